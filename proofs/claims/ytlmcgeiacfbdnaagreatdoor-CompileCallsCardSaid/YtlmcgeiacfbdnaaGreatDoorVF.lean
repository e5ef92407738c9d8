/- Plain functions, printed. -/
import Derived.Test.YtlmcgeiacfbdnaaGreatDoorA2
import Derived.Test.YtlmcgeiacfbdnaaGreatDoorProg
import Derived.KernelRfl
namespace Go.Proofs.YtlmcgeiacfbdnaaGreatDoor
open Go.Ab
abbrev n165 : Nat := 165
abbrev n166 : Nat := 166
abbrev n167 : Nat := 167
abbrev n254 : Nat := 254
abbrev n253 : Nat := 253
abbrev n168 : Nat := 168
abbrev n256 : Nat := 256
abbrev n363 : Nat := 363
abbrev n367 : Nat := 367
abbrev n370 : Nat := 370
abbrev n371 : Nat := 371
abbrev n369 : Nat := 369
abbrev n255 : Nat := 255
abbrev n372 : Nat := 372
abbrev n373 : Nat := 373
abbrev n368 : Nat := 368
abbrev n182 : Nat := 182
abbrev n407 : Nat := 407
abbrev n75 : Nat := 75
abbrev n317 : Nat := 317
abbrev n203 : Nat := 203
abbrev n209 : Nat := 209
abbrev n211 : Nat := 211
abbrev n29 : Nat := 29
abbrev n319 : Nat := 319
abbrev n204 : Nat := 204
abbrev n74 : Nat := 74
abbrev n324 : Nat := 324
abbrev n206 : Nat := 206
abbrev n208 : Nat := 208
abbrev n320 : Nat := 320
abbrev n207 : Nat := 207
abbrev n30 : Nat := 30
abbrev n316 : Nat := 316
abbrev n28 : Nat := 28
abbrev n210 : Nat := 210
abbrev n137 : Nat := 137
abbrev n318 : Nat := 318
abbrev n315 : Nat := 315
abbrev n26 : Nat := 26
abbrev n71 : Nat := 71
abbrev n429 : Nat := 429
abbrev n459 : Nat := 459
abbrev n231 : Nat := 231
abbrev n230 : Nat := 230
abbrev n8 : Nat := 8
abbrev n247 : Nat := 247
abbrev n379 : Nat := 379
abbrev n60 : Nat := 60
abbrev n163 : Nat := 163
abbrev n106 : Nat := 106
abbrev n105 : Nat := 105
abbrev n162 : Nat := 162
abbrev n169 : Nat := 169
abbrev n249 : Nat := 249
abbrev n88 : Nat := 88
abbrev n141 : Nat := 141
abbrev n109 : Nat := 109
abbrev n374 : Nat := 374
abbrev n112 : Nat := 112
abbrev n176 : Nat := 176
abbrev n260 : Nat := 260
abbrev n377 : Nat := 377
abbrev n513 : Nat := 513
abbrev n366 : Nat := 366
abbrev n110 : Nat := 110
abbrev n170 : Nat := 170
abbrev n157 : Nat := 157
abbrev n171 : Nat := 171
abbrev n91 : Nat := 91
abbrev n92 : Nat := 92
abbrev n146 : Nat := 146
abbrev n151 : Nat := 151
abbrev n234 : Nat := 234
abbrev n148 : Nat := 148
abbrev n235 : Nat := 235
abbrev n145 : Nat := 145
abbrev n150 : Nat := 150
abbrev n144 : Nat := 144
abbrev n232 : Nat := 232
abbrev n233 : Nat := 233
abbrev n4 : Nat := 4
abbrev n3 : Nat := 3
abbrev n5 : Nat := 5
abbrev n14 : Nat := 14
abbrev n13 : Nat := 13
abbrev n6 : Nat := 6
abbrev n12 : Nat := 12
abbrev n7 : Nat := 7
abbrev n257 : Nat := 257
abbrev n250 : Nat := 250
abbrev n59 : Nat := 59
abbrev n61 : Nat := 61
abbrev n314 : Nat := 314
abbrev n192 : Nat := 192
abbrev n124 : Nat := 124
abbrev n64 : Nat := 64
abbrev n121 : Nat := 121
abbrev n125 : Nat := 125
abbrev n123 : Nat := 123
abbrev n122 : Nat := 122
abbrev n127 : Nat := 127
abbrev n120 : Nat := 120
abbrev n65 : Nat := 65
abbrev n147 : Nat := 147
abbrev n236 : Nat := 236
abbrev n228 : Nat := 228
abbrev n225 : Nat := 225
abbrev n229 : Nat := 229
abbrev n227 : Nat := 227
abbrev n226 : Nat := 226
abbrev n344 : Nat := 344
abbrev n345 : Nat := 345
abbrev n422 : Nat := 422
abbrev n346 : Nat := 346
abbrev n343 : Nat := 343
abbrev n78 : Nat := 78
abbrev n83 : Nat := 83
abbrev n222 : Nat := 222
abbrev n80 : Nat := 80
abbrev n214 : Nat := 214
abbrev n221 : Nat := 221
abbrev n340 : Nat := 340
abbrev n335 : Nat := 335
abbrev n243 : Nat := 243
abbrev n350 : Nat := 350
abbrev n251 : Nat := 251
abbrev n252 : Nat := 252
abbrev n164 : Nat := 164
abbrev n348 : Nat := 348
abbrev n432 : Nat := 432
abbrev n433 : Nat := 433
abbrev n365 : Nat := 365
abbrev n447 : Nat := 447
abbrev n133 : Nat := 133
abbrev n466 : Nat := 466
abbrev n403 : Nat := 403
abbrev n134 : Nat := 134
abbrev n311 : Nat := 311
abbrev n493 : Nat := 493
abbrev n131 : Nat := 131
abbrev n198 : Nat := 198
abbrev n129 : Nat := 129
abbrev n195 : Nat := 195
abbrev n66 : Nat := 66
abbrev n491 : Nat := 491
abbrev n492 : Nat := 492
abbrev n446 : Nat := 446
abbrev n479 : Nat := 479
abbrev n128 : Nat := 128
abbrev n487 : Nat := 487
abbrev n197 : Nat := 197
abbrev n490 : Nat := 490
abbrev n130 : Nat := 130
abbrev n67 : Nat := 67
abbrev n21 : Nat := 21
abbrev n10 : Nat := 10
abbrev n22 : Nat := 22
abbrev n378 : Nat := 378
abbrev n104 : Nat := 104
abbrev n160 : Nat := 160
abbrev n159 : Nat := 159
abbrev n108 : Nat := 108
abbrev n161 : Nat := 161
abbrev n244 : Nat := 244
abbrev n245 : Nat := 245
abbrev n410 : Nat := 410
abbrev n143 : Nat := 143
abbrev n246 : Nat := 246
abbrev n98 : Nat := 98
abbrev n114 : Nat := 114
abbrev n238 : Nat := 238
abbrev n294 : Nat := 294
abbrev n296 : Nat := 296
abbrev n70 : Nat := 70
abbrev n117 : Nat := 117
abbrev n196 : Nat := 196
abbrev n158 : Nat := 158
abbrev n149 : Nat := 149
abbrev n241 : Nat := 241
abbrev n72 : Nat := 72
abbrev n185 : Nat := 185
abbrev n310 : Nat := 310
abbrev n248 : Nat := 248
abbrev n237 : Nat := 237
abbrev n242 : Nat := 242
abbrev n425 : Nat := 425
abbrev n426 : Nat := 426
abbrev n424 : Nat := 424
abbrev n423 : Nat := 423
abbrev n428 : Nat := 428
abbrev n430 : Nat := 430
abbrev n431 : Nat := 431
abbrev n347 : Nat := 347
abbrev n427 : Nat := 427
abbrev n126 : Nat := 126
abbrev n202 : Nat := 202
abbrev n119 : Nat := 119
abbrev n69 : Nat := 69
abbrev n205 : Nat := 205
abbrev n135 : Nat := 135
abbrev n136 : Nat := 136
abbrev n190 : Nat := 190
abbrev n191 : Nat := 191
abbrev n302 : Nat := 302
abbrev n293 : Nat := 293
abbrev n292 : Nat := 292
abbrev n299 : Nat := 299
abbrev n300 : Nat := 300
abbrev n398 : Nat := 398
abbrev n188 : Nat := 188
abbrev n301 : Nat := 301
abbrev n189 : Nat := 189
abbrev n291 : Nat := 291
abbrev n118 : Nat := 118
abbrev n290 : Nat := 290
abbrev n298 : Nat := 298
abbrev n289 : Nat := 289
abbrev n186 : Nat := 186
abbrev n288 : Nat := 288
abbrev n295 : Nat := 295
abbrev n297 : Nat := 297
abbrev n303 : Nat := 303
abbrev n187 : Nat := 187
abbrev n62 : Nat := 62
abbrev n54 : Nat := 54
abbrev n55 : Nat := 55
abbrev n53 : Nat := 53
abbrev n52 : Nat := 52
abbrev n510 : Nat := 510
abbrev n58 : Nat := 58
abbrev n57 : Nat := 57
abbrev n511 : Nat := 511
abbrev n512 : Nat := 512
abbrev n56 : Nat := 56
abbrev n107 : Nat := 107
abbrev n178 : Nat := 178
abbrev n51 : Nat := 51
abbrev n20 : Nat := 20
abbrev n265 : Nat := 265
abbrev n266 : Nat := 266
abbrev n267 : Nat := 267
abbrev n262 : Nat := 262
abbrev n173 : Nat := 173
abbrev n268 : Nat := 268
abbrev n179 : Nat := 179
abbrev n264 : Nat := 264
abbrev n113 : Nat := 113
abbrev n175 : Nat := 175
abbrev n258 : Nat := 258
abbrev n174 : Nat := 174
abbrev n177 : Nat := 177
abbrev n172 : Nat := 172
abbrev n263 : Nat := 263
abbrev n111 : Nat := 111
abbrev n259 : Nat := 259
abbrev n261 : Nat := 261
abbrev y66 : Nat := 66
abbrev SO (f : Nat) (s : Ff) : Prop := Stands Tryz.prog [] 1000000 f s
abbrev iN (n : Nat) : AV := .int .i64 (.ofNat n)
noncomputable section
set_option maxRecDepth 100000
def S3_0 (call : CallFn) (t0 t1 t2 t7 : AV) (H : AHeap) : R :=
 pC call n7 [t0] H fun t47 H =>
 pAdd (.str [102, 117, 110, 99, 32, 109, 97, 105, 110, 40, 41, 32, 123, 32, 118, 97, 114, 32, 115, 32, 105, 110, 116, 32, 61, 32, 48, 59, 32, 118, 97, 114, 32, 105, 32, 105, 110, 116, 32, 61, 32, 48, 59, 32, 119, 104, 105, 108, 101, 32, 105, 32, 60, 32]) t47 H fun t48 H =>
 pAdd t48 (.str [32, 123, 32, 118, 97, 114, 32, 107, 32, 105, 110, 116, 32, 61, 32, 48, 59, 32, 119, 104, 105, 108, 101, 32, 107, 32, 60, 32]) H fun t49 H =>
 pC call n7 [t1] H fun t51 H =>
 pAdd t49 t51 H fun t52 H =>
 pAdd t52 (.str [32, 123, 32, 115, 32, 61, 32, 115, 32, 43, 32, 105, 32, 42, 32, 107, 59, 32, 107, 32, 61, 32, 107, 32, 43, 32, 49, 59, 32, 125, 32, 112, 114, 105, 110, 116, 32, 115, 59, 32, 105, 32, 61, 32, 105, 32, 43, 32, 49, 59, 32, 125, 32, 125]) H fun t53 H =>
 pC call n6 [t53, (.int .i64 (.ofNat 8)), t2, (.int .i64 (.ofNat 3500)), t7, (.int .i64 (.ofNat 1)), (.int .i64 (.ofNat 0))] H fun t56 H =>
 some (t56, H)
def S3_2 (_ : CallFn) (q0 : AV → AV → AV → AV → AV → AV → AHeap → R) (t0 t1 t2 t7 t8 t9 : AV) (H : AHeap) : R :=
 pAdd t9 (.int .i64 (.ofNat 1)) H fun t31 H =>
 q0 t0 t1 t2 t7 t8 t31 H
def S3_3 (call : CallFn) (q0 : AV → AV → AV → AV → AV → AV → AHeap → R) (t0 t1 t2 t7 t8 t9 : AV) (H : AHeap) : R :=
 pN (aBsl 1 1 [(.int .i64 (.ofNat 0))] [(0, 1, t8)]) H fun t44 H =>
 pW (aApp 1 8 H t7 t44) fun t45 H =>
 S3_2 call q0 t0 t1 t2 t45 t8 t9 H
def S3_4 (call : CallFn) (q0 : AV → AV → AV → AV → AV → AV → AHeap → R) (n : Nat) : AV → AV → AV → AV → AV → AV → AV → AHeap → R :=
 Nat.rec (motive := fun _ => AV → AV → AV → AV → AV → AV → AV → AHeap → R) (fun _ _ _ _ _ _ _ _ => none) (fun _ q1 t0 t1 t2 t7 t8 t9 t10 H => pLss t10 t1 H fun t34 H =>
 onBool t34 (pMul t9 t10 H fun t40 H =>
 pAdd t8 t40 H fun t41 H =>
 pAdd t10 (.int .i64 (.ofNat 1)) H fun t36 H =>
 q1 t0 t1 t2 t7 t41 t9 t36 H) (S3_3 call q0 t0 t1 t2 t7 t8 t9 H)) n
def S3_1 (call : CallFn) (n : Nat) : AV → AV → AV → AV → AV → AV → AHeap → R :=
 Nat.rec (motive := fun _ => AV → AV → AV → AV → AV → AV → AHeap → R) (fun _ _ _ _ _ _ _ => none) (fun _ q0 t0 t1 t2 t7 t8 t9 H => pLss t9 t0 H fun t29 H =>
 onBool t29 (S3_4 call q0 1000000 t0 t1 t2 t7 t8 t9 (.int .i64 (.ofNat 0)) H) (S3_0 call t0 t1 t2 t7 H)) n
def S3_5 (call : CallFn) (t0 t1 t2 t23 t25 : AV) (H : AHeap) : R :=
 pPick t23 (.bool true) t25 H fun t26 H =>
 onBool t26 (some ((.bool true), H)) (S3_1 call 1000000 t0 t1 t2 .nilsl (.int .i64 (.ofNat 0)) (.int .i64 (.ofNat 0)) H)
def S3_6 (call : CallFn) (t0 t1 t2 t19 t21 : AV) (H : AHeap) : R :=
 pPick t19 (.bool true) t21 H fun t22 H =>
 guardA t22 false (pGtr t1 (.int .i64 (.ofNat 6)) H fun t25 H =>
 S3_5 call t0 t1 t2 t22 t25 H) (S3_5 call t0 t1 t2 t22 U H)
def S3_7 (call : CallFn) (t0 t1 t2 t15 t17 : AV) (H : AHeap) : R :=
 pPick t15 (.bool true) t17 H fun t18 H =>
 guardA t18 false (pLss t1 (.int .i64 (.ofNat 0)) H fun t21 H =>
 S3_6 call t0 t1 t2 t18 t21 H) (S3_6 call t0 t1 t2 t18 U H)
def S3_8 (call : CallFn) (t0 t1 t2 : AV) (H : AHeap) : R :=
 pC call n5 [] H fun t11 H =>
 pO (aUn .not t11) H fun t12 H =>
 onBool t12 (some ((.bool false), H)) (pLss t0 (.int .i64 (.ofNat 0)) H fun t14 H =>
 guardA t14 false (pGtr t0 (.int .i64 (.ofNat 8)) H fun t17 H =>
 S3_7 call t0 t1 t2 t14 t17 H) (S3_7 call t0 t1 t2 t14 U H))
def S3 : Ff := ⟨fun call l H => argA3 (fun t0 t1 t2 => S3_8 call t0 t1 t2 H) l⟩
def S4_0 (call : CallFn) (t0 t1 t5 : AV) (H : AHeap) : R :=
 pO (aBin .rem t0 (.int .i64 (.ofNat 2))) H fun t27 H =>
 pSub (.int .i64 (.ofNat 1)) t27 H fun t28 H =>
 pC call n7 [t0] H fun t30 H =>
 pAdd (.str [102, 117, 110, 99, 32, 102, 105, 98, 40, 110, 32, 105, 110, 116, 41, 32, 105, 110, 116, 32, 123, 32, 105, 102, 32, 110, 32, 60, 32, 50, 32, 123, 32, 114, 101, 116, 117, 114, 110, 32, 110, 59, 32, 125, 32, 114, 101, 116, 117, 114, 110, 32, 102, 105, 98, 40, 110, 32, 45, 32, 49, 41, 32, 43, 32, 102, 105, 98, 40, 110, 32, 45, 32, 50, 41, 59, 32, 125, 32, 102, 117, 110, 99, 32, 101, 118, 101, 110, 40, 110, 32, 105, 110, 116, 41, 32, 105, 110, 116, 32, 123, 32, 105, 102, 32, 110, 32, 61, 61, 32, 48, 32, 123, 32, 114, 101, 116, 117, 114, 110, 32, 49, 59, 32, 125, 32, 114, 101, 116, 117, 114, 110, 32, 111, 100, 100, 40, 110, 32, 45, 32, 49, 41, 59, 32, 125, 32, 102, 117, 110, 99, 32, 111, 100, 100, 40, 110, 32, 105, 110, 116, 41, 32, 105, 110, 116, 32, 123, 32, 105, 102, 32, 110, 32, 61, 61, 32, 48, 32, 123, 32, 114, 101, 116, 117, 114, 110, 32, 48, 59, 32, 125, 32, 114, 101, 116, 117, 114, 110, 32, 101, 118, 101, 110, 40, 110, 32, 45, 32, 49, 41, 59, 32, 125, 32, 102, 117, 110, 99, 32, 109, 97, 105, 110, 40, 41, 32, 123, 32, 112, 114, 105, 110, 116, 32, 101, 118, 101, 110, 40]) t30 H fun t31 H =>
 pAdd t31 (.str [41, 59, 32, 112, 114, 105, 110, 116, 32, 102, 105, 98, 40]) H fun t32 H =>
 pC call n7 [t0] H fun t34 H =>
 pAdd t32 t34 H fun t35 H =>
 pAdd t35 (.str [41, 59, 32, 125]) H fun t36 H =>
 pN (aBsl 1 2 [(.int .i64 (.ofNat 0))] [(0, 1, t28), (1, 1, t5)]) H fun t40 H =>
 pC call n6 [t36, (.int .i64 (.ofNat 8)), t1, (.int .i64 (.ofNat 4000)), t40, (.int .i64 (.ofNat 1)), (.int .i64 (.ofNat 0))] H fun t41 H =>
 some (t41, H)
def S4_1 (call : CallFn) (n : Nat) : AV → AV → AV → AV → AV → AHeap → R :=
 Nat.rec (motive := fun _ => AV → AV → AV → AV → AV → AHeap → R) (fun _ _ _ _ _ _ => none) (fun _ q0 t0 t1 t5 t6 t7 H => pLss t7 t0 H fun t19 H =>
 onBool t19 (pAdd t5 t6 H fun t25 H =>
 pAdd t7 (.int .i64 (.ofNat 1)) H fun t21 H =>
 q0 t0 t1 t6 t25 t21 H) (S4_0 call t0 t1 t5 H)) n
def S4_2 (call : CallFn) (t0 t1 t13 t15 : AV) (H : AHeap) : R :=
 pPick t13 (.bool true) t15 H fun t16 H =>
 onBool t16 (some ((.bool true), H)) (S4_1 call 1000000 t0 t1 (.int .i64 (.ofNat 0)) (.int .i64 (.ofNat 1)) (.int .i64 (.ofNat 0)) H)
def S4_3 (call : CallFn) (t0 t1 : AV) (H : AHeap) : R :=
 pC call n5 [] H fun t9 H =>
 pO (aUn .not t9) H fun t10 H =>
 onBool t10 (some ((.bool false), H)) (pLss t0 (.int .i64 (.ofNat 0)) H fun t12 H =>
 guardA t12 false (pGtr t0 (.int .i64 (.ofNat 9)) H fun t15 H =>
 S4_2 call t0 t1 t12 t15 H) (S4_2 call t0 t1 t12 U H))
def S4 : Ff := ⟨fun call l H => argA2 (fun t0 t1 => S4_3 call t0 t1 H) l⟩
def S6_0 (_ : CallFn) (t44 t48 : AV) (H : AHeap) : R :=
 pPick t44 t48 (.bool false) H fun t49 H =>
 some (t49, H)
def S6_1 (call : CallFn) (t4 t15 t38 t42 : AV) (H : AHeap) : R :=
 pPick t38 t42 (.bool false) H fun t43 H =>
 guardA t43 true (pFa 0 t15 H fun t45 H =>
 ldK .none H t45 fun t46 H =>
 pC call n12 [t46, t4] H fun t48 H =>
 S6_0 call t43 t48 H) (S6_0 call t43 U H)
def S6_2 (call : CallFn) (t0 t1 t2 t3 t4 t5 t6 : AV) (H : AHeap) : R :=
 pC call n13 [t0, t1, t2, t3] H fun t22 H =>
 pExt t22 0 H fun t23 H =>
 pExt t22 1 H fun t24 H =>
 pNew [.nilsl, (.int .i64 (.ofNat 0)), (.int .i64 (.ofNat 0)), (.int .i64 (.ofNat 0)), (.int .i64 (.ofNat 0)), (.int .i64 (.ofNat 0)), .nilsl] H fun t15 H =>
 stK 7 H t15 t23 fun _ H =>
 pO (aUn .not t24) H fun t26 H =>
 onBool t26 (some ((.bool false), H)) (pFa 1 t15 H fun t27 H =>
 ldK .none H t27 fun t28 H =>
 pEql t28 (.int .i64 (.ofNat 0)) H fun t29 H =>
 onBool t29 (pFa 0 t15 H fun t30 H =>
 ldK .none H t30 fun t31 H =>
 pC call n14 [t31, t4] H fun t33 H =>
 some (t33, H)) (pFa 1 t15 H fun t34 H =>
 ldK .none H t34 fun t35 H =>
 pEql t35 t5 H fun t37 H =>
 guardA t37 true (pFa 2 t15 H fun t39 H =>
 ldK .none H t39 fun t40 H =>
 pEql t40 t6 H fun t42 H =>
 S6_1 call t4 t15 t37 t42 H) (S6_1 call t4 t15 t37 U H)))
def S6 : Ff := ⟨fun call l H => argA7 (fun t0 t1 t2 t3 t4 t5 t6 => S6_2 call t0 t1 t2 t3 t4 t5 t6 H) l⟩
def S10_0 (call : CallFn) (t6 t8 t10 : AV) (H : AHeap) : R :=
 pC call n22 [t8, t10] H fun t38 H =>
 stK 7 H t6 t38 fun _ H =>
 ob (allM (fun o => o) [aLoad (.some 7) H t6, some (.int .i64 (.ofNat 0))]) fun vs => some (resV vs, H)
def S10_1 (call : CallFn) (n : Nat) : AV → AV → AV → AV → AV → AV → AHeap → R :=
 Nat.rec (motive := fun _ => AV → AV → AV → AV → AV → AV → AHeap → R) (fun _ _ _ _ _ _ _ => none) (fun _ q0 t6 t8 t10 t23 t24 t25 H => pLss t25 t24 H fun t26 H =>
 onBool t26 (pIa 1 t23 t25 H fun t27 H =>
 ldK .none H t27 fun t28 H =>
 pC call n21 [t8, t28] H fun t31 H =>
 pO (aUn .not t31) H fun t32 H =>
 onBool t32 (S10_0 call t6 t8 t10 H) (pAdd t10 (.int .i64 (.ofNat 1)) H fun t34 H =>
 pAdd t25 (.int .i64 (.ofNat 1)) H fun t35 H =>
 q0 t6 t8 t34 t23 t24 t35 H)) (S10_0 call t6 t8 t10 H)) n
def S10_2 (call : CallFn) (t0 t1 t2 : AV) (H : AHeap) : R :=
 pBox t0 H fun t3 H =>
 pNew [.nilsl, (.int .i64 (.ofNat 0)), (.int .i64 (.ofNat 0)), (.int .i64 (.ofNat 0)), (.int .i64 (.ofNat 0)), (.int .i64 (.ofNat 0)), .nilsl] H fun t6 H =>
 ldK (.some 6) H t3 fun t14 H =>
 pC call n20 [t14, t1] H fun t16 H =>
 pExt t16 0 H fun t17 H =>
 pExt t16 1 H fun t18 H =>
 pNeq t18 (.int .i64 (.ofNat 0)) H fun t20 H =>
 onBool t20 (pO (someAgg (aFill [.nilsl, (.int .i64 (.ofNat 0)), (.int .i64 (.ofNat 0)), (.int .i64 (.ofNat 0)), (.int .i64 (.ofNat 0)), (.int .i64 (.ofNat 0)), .nilsl] [])) H fun t21 H =>
 stK 7 H t6 t21 fun _ H =>
 ob (allM (fun o => o) [aLoad (.some 7) H t6, some t18]) fun vs => some (resV vs, H)) (pO (aLen .sl H t2) H fun t24 H =>
 S10_1 call 1000000 t6 t17 (.int .i64 (.ofNat 0)) t2 t24 (.int .i64 (.ofNat 0)) H)
def S10 : Ff := ⟨fun call l H => argA3 (fun t0 t1 t2 => S10_2 call t0 t1 t2 H) l⟩
def S12_0 (_ : CallFn) (n : Nat) : AV → AV → AV → AHeap → R :=
 Nat.rec (motive := fun _ => AV → AV → AV → AHeap → R) (fun _ _ _ _ => none) (fun _ q0 t0 t1 t5 H => pO (aLen .sl H t0) H fun t13 H =>
 pLss t5 t13 H fun t14 H =>
 onBool t14 (pIa 1 t0 t5 H fun t19 H =>
 ldK .none H t19 fun t20 H =>
 pIa 1 t1 t5 H fun t23 H =>
 ldK .none H t23 fun t24 H =>
 pNeq t20 t24 H fun t25 H =>
 onBool t25 (some ((.bool false), H)) (pAdd t5 (.int .i64 (.ofNat 1)) H fun t16 H =>
 q0 t0 t1 t16 H)) (some ((.bool true), H))) n
def S12_1 (call : CallFn) (t0 t1 : AV) (H : AHeap) : R :=
 pO (aLen .sl H t0) H fun t7 H =>
 pO (aLen .sl H t1) H fun t9 H =>
 pNeq t7 t9 H fun t10 H =>
 onBool t10 (some ((.bool false), H)) (S12_0 call 1000000 t0 t1 (.int .i64 (.ofNat 0)) H)
def S12 : Ff := ⟨fun call l H => argA2 (fun t0 t1 => S12_1 call t0 t1 H) l⟩
def S13_0 (call : CallFn) (t1 t8 t10 t12 : AV) (H : AHeap) : R :=
 ldK (.some 6) H t10 fun t40 H =>
 pC call n10 [t40, t1, t12] H fun t43 H =>
 pExt t43 0 H fun t44 H =>
 pExt t43 1 H fun t45 H =>
 pNew [.nilsl, (.int .i64 (.ofNat 0)), (.int .i64 (.ofNat 0)), (.int .i64 (.ofNat 0)), (.int .i64 (.ofNat 0)), (.int .i64 (.ofNat 0)), .nilsl] H fun t14 H =>
 stK 7 H t14 t44 fun _ H =>
 ldK (.some 7) H t14 fun t46 H =>
 pEql t45 (.int .i64 (.ofNat 0)) H fun t48 H =>
 stK 7 H t8 t46 fun _ H =>
 ob (allM (fun o => o) [aLoad (.some 7) H t8, some t48]) fun vs => some (resV vs, H)
def S13_1 (call : CallFn) (n : Nat) : AV → AV → AV → AV → AV → AV → AV → AHeap → R :=
 Nat.rec (motive := fun _ => AV → AV → AV → AV → AV → AV → AV → AHeap → R) (fun _ _ _ _ _ _ _ _ => none) (fun _ q0 t1 t2 t3 t8 t10 t12 t13 H => pLss t13 t3 H fun t27 H =>
 onBool t27 (pMul (.int .u32 (.ofNat 1664525)) t2 H fun t31 H =>
 pAdd t31 (.int .u32 (.ofNat 1013904223)) H fun t32 H =>
 pO (aBin .shr t32 (.int .u64 (.ofNat 8))) H fun t35 H =>
 pConv .i64 t35 H fun t36 H =>
 pN (aBsl 1 1 [(.int .i64 (.ofNat 0))] [(0, 1, t36)]) H fun t37 H =>
 pW (aApp 1 8 H t12 t37) fun t38 H =>
 pAdd t13 (.int .i64 (.ofNat 1)) H fun t29 H =>
 q0 t1 t32 t3 t8 t10 t38 t29 H) (S13_0 call t1 t8 t10 t12 H)) n
def S13_2 (call : CallFn) (t0 t1 t2 t3 : AV) (H : AHeap) : R :=
 pNew [.nilsl, (.int .i64 (.ofNat 0)), (.int .i64 (.ofNat 0)), (.int .i64 (.ofNat 0)), (.int .i64 (.ofNat 0)), (.int .i64 (.ofNat 0)), .nilsl] H fun t8 H =>
 pC call n8 [t0] H fun t18 H =>
 pExt t18 0 H fun t19 H =>
 pExt t18 1 H fun t20 H =>
 pNew [.nilsl, .nilsl, .nilsl, .nilsl, .nilsl, (.int .i64 (.ofNat 0))] H fun t10 H =>
 pNew [(.int .i64 (.ofNat 0)), (.int .i64 (.ofNat 0))] H fun t11 H =>
 stK 6 H t10 t19 fun _ H =>
 stK 2 H t11 t20 fun _ H =>
 pFa 0 t11 H fun t21 H =>
 ldK .none H t21 fun t22 H =>
 pNeq t22 (.int .i64 (.ofNat 0)) H fun t23 H =>
 onBool t23 (pO (someAgg (aFill [.nilsl, (.int .i64 (.ofNat 0)), (.int .i64 (.ofNat 0)), (.int .i64 (.ofNat 0)), (.int .i64 (.ofNat 0)), (.int .i64 (.ofNat 0)), .nilsl] [])) H fun t24 H =>
 stK 7 H t8 t24 fun _ H =>
 ob (allM (fun o => o) [aLoad (.some 7) H t8, some (.bool false)]) fun vs => some (resV vs, H)) (S13_1 call 1000000 t1 t2 t3 t8 t10 .nilsl (.int .i64 (.ofNat 0)) H)
def S13 : Ff := ⟨fun call l H => argA4 (fun t0 t1 t2 t3 => S13_2 call t0 t1 t2 t3 H) l⟩
def S14_0 (_ : CallFn) (t10 t16 : AV) (H : AHeap) : R :=
 pPick t10 t16 (.bool false) H fun t17 H =>
 some (t17, H)
def S14_1 (call : CallFn) (t0 t1 : AV) (H : AHeap) : R :=
 pO (aLen .sl H t0) H fun t6 H =>
 pO (aLen .sl H t1) H fun t8 H =>
 pLeq t6 t8 H fun t9 H =>
 guardA t9 true (pO (aLen .sl H t0) H fun t14 H =>
 pO (aSlice 1 H t1 .none (.some t14) .none) H fun t15 H =>
 pC call n12 [t0, t15] H fun t16 H =>
 S14_0 call t9 t16 H) (S14_0 call t9 U H)
def S14 : Ff := ⟨fun call l H => argA2 (fun t0 t1 => S14_1 call t0 t1 H) l⟩
def S21_0 (call : CallFn) (t0 t1 : AV) (H : AHeap) : R :=
 pC call n53 [t0] H fun t25 H =>
 pO (aLen .sl H t25) H fun t28 H =>
 pAdd t28 (.int .i64 (.ofNat 1)) H fun t29 H =>
 pO (aBin .rem t1 t29) H fun t30 H =>
 pO (aLen .sl H t25) H fun t33 H =>
 pEql t30 t33 H fun t34 H =>
 onBool t34 (pC call n54 [t0] H fun t36 H =>
 some (t36, H)) (pIa 1 t25 t30 H fun t40 H =>
 ldK .none H t40 fun t41 H =>
 pO (aLen .sl H t25) H fun t44 H =>
 pAdd t44 (.int .i64 (.ofNat 1)) H fun t45 H =>
 pO (aBin .quo t1 t45) H fun t46 H =>
 pIa 1 t25 t30 H fun t50 H =>
 ldK .none H t50 fun t51 H =>
 pC call n56 [t0, t51] H fun t52 H =>
 andR (andB (ckV (aLoad .none H t40) t41) (andB (ckV (aLen .sl H t25) t44) true)) (
 pO (aBin .rem t46 t52) H fun t53 H =>
 pC call n55 [t0, t41, t53] H fun t54 H =>
 some (t54, H)))
def S21_1 (call : CallFn) (t0 t1 : AV) (H : AHeap) : R :=
 pC call n52 [t0] H fun t11 H =>
 pExt t11 0 H fun t12 H =>
 pExt t11 1 H fun _ H =>
 pNeq t12 (.int .i64 (.ofNat 0)) H fun t15 H =>
 onBool t15 (some ((.bool false), H)) (pEql t1 (.int .i64 (.negSucc 9223372036854775807)) H fun t18 H =>
 onBool t18 (S21_0 call t0 (.int .i64 (.ofNat 0)) H) (pLss t1 (.int .i64 (.ofNat 0)) H fun t21 H =>
 onBool t21 (pO (aUn .neg t1) H fun t23 H =>
 S21_0 call t0 t23 H) (S21_0 call t0 t1 H)))
def S21 : Ff := ⟨fun call l H => argA2 (fun t0 t1 => S21_1 call t0 t1 H) l⟩
def S22_0 (call : CallFn) (t0 t1 : AV) (H : AHeap) : R :=
 pNew [.nilsl, (.int .i64 (.ofNat 0)), (.int .i64 (.ofNat 0)), (.int .i64 (.ofNat 0)), (.int .i64 (.ofNat 0)), (.int .i64 (.ofNat 0)), .nilsl] H fun t4 H =>
 pC call n52 [t0] H fun t9 H =>
 pExt t9 0 H fun t10 H =>
 pExt t9 1 H fun t11 H =>
 pC call n57 [t0] H fun t13 H =>
 pC call n58 [t0] H fun t18 H =>
 pC call n59 [t18] H fun t19 H =>
 pC call n60 [t19] H fun t20 H =>
 pC call n58 [t0] H fun t22 H =>
 pC call n61 [t22] H fun t23 H =>
 pC call n62 [t0] H fun t25 H =>
 pO (someAgg (aFill [.nilsl, (.int .i64 (.ofNat 0)), (.int .i64 (.ofNat 0)), (.int .i64 (.ofNat 0)), (.int .i64 (.ofNat 0)), (.int .i64 (.ofNat 0)), .nilsl] [(0, 1, t13), (1, 1, t10), (2, 1, t11), (3, 1, t1), (4, 1, t20), (5, 1, t23), (6, 1, t25)])) H fun t26 H =>
 stK 7 H t4 t26 fun _ H =>
 ob (allM (fun o => o) [aLoad (.some 7) H t4]) fun vs => some (resV vs, H)
def S22 : Ff := ⟨fun call l H => argA2 (fun t0 t1 => S22_0 call t0 t1 H) l⟩
def S26_0 (_ : CallFn) (t5 t9 : AV) (H : AHeap) : R :=
 pPick t5 t9 (.bool false) H fun t10 H =>
 some (t10, H)
def S26_1 (call : CallFn) (t0 : AV) (H : AHeap) : R :=
 pBox t0 H fun t1 H =>
 ldK (.some 4) H t1 fun t3 H =>
 pC call n69 [t3] H fun t4 H =>
 guardA t4 true (pFa 3 t1 H fun t6 H =>
 ldK .none H t6 fun t7 H =>
 pC call n70 [t7, (.fn n71 [] [])] H fun t8 H =>
 pO (aUn .not t8) H fun t9 H =>
 S26_0 call t4 t9 H) (S26_0 call t4 U H)
def S26 : Ff := ⟨fun call l H => argA1 (fun t0 => S26_1 call t0 H) l⟩
def S28_0 (call : CallFn) (n : Nat) : AV → AV → AV → AV → AHeap → R :=
 Nat.rec (motive := fun _ => AV → AV → AV → AV → AHeap → R) (fun _ _ _ _ _ => none) (fun _ q0 t0 t23 t24 t25 H => pLss t25 t24 H fun t26 H =>
 onBool t26 (pIa 4 t23 t25 H fun t27 H =>
 ldK (.some 4) H t27 fun t28 H =>
 pNew [(.str []), (.str []), (iN 0), .nilsl] H fun t7 H =>
 stK 4 H t7 t28 fun _ H =>
 ldK (.some 4) H t7 fun t30 H =>
 pC call n28 [t0, t30] H fun _ H =>
 pAdd t25 (iN 1) H fun t32 H =>
 q0 t0 t23 t24 t32 H) (some (.tup [], H))) n
def S28_1 (call : CallFn) (t0 t3 : AV) (H : AHeap) : R :=
 pFa 3 t3 H fun t22 H =>
 ldK .none H t22 fun t23 H =>
 pO (aLen .sl H t23) H fun t24 H =>
 S28_0 call 1000000 t0 t23 t24 (iN 0) H
def S28_2 (call : CallFn) (t0 t1 : AV) (H : AHeap) : R :=
 pBox t1 H fun t3 H =>
 pFa 0 t3 H fun t8 H =>
 ldK .none H t8 fun t9 H =>
 pEql t9 (.str [110, 97, 109, 101, 100]) H fun t10 H =>
 onBool t10 (pFa 1 t3 H fun t13 H =>
 ldK .none H t13 fun t14 H =>
 pC call n29 [t0, (.str [115, 116, 114, 117, 99, 116]), t14] H fun t15 H =>
 pExt t15 0 H fun t16 H =>
 pExt t15 1 H fun t17 H =>
 pNew [(.str []), (.str []), (iN 0), .nilsl] H fun t4 H =>
 stK 4 H t4 t16 fun _ H =>
 ldK (.some 4) H t3 fun t20 H =>
 pC call n30 [t0, t17, t20] H fun _ H =>
 S28_1 call t0 t3 H) (S28_1 call t0 t3 H)
def S28 : Ff := ⟨fun call l H => argA2 (fun t0 t1 => S28_2 call t0 t1 H) l⟩
def S30_0 (call : CallFn) (t0 t1 t2 : AV) (H : AHeap) : R :=
 pBox t2 H fun t5 H =>
 pO (aUn .not t1) H fun t7 H =>
 onBool t7 (pFa 2 t5 H fun t9 H =>
 ldK .none H t9 fun t10 H =>
 pC call n74 [t0, t10] H fun _ H =>
 some (.tup [], H)) (some (.tup [], H))
def S30 : Ff := ⟨fun call l H => argA3 (fun t0 t1 t2 => S30_0 call t0 t1 t2 H) l⟩
def S51_0 (_ : CallFn) (t0 t7 t18 : AV) (H : AHeap) : R :=
 pPick t7 t18 (.bool false) H fun t19 H =>
 onBool t19 (pO (aNil t0) H fun t21 H =>
 pFa 11 t21 H fun t22 H =>
 stK 1 H t22 (.int .i64 (.ofNat 3)) fun _ H =>
 some (.tup [], H)) (some (.tup [], H))
def S51_1 (call : CallFn) (t0 t7 t17 : AV) (H : AHeap) : R :=
 guardA t7 true (pEql t17 (.int .i64 (.ofNat 0)) H fun t18 H =>
 S51_0 call t0 t7 t18 H) (S51_0 call t0 t7 U H)
def S51_2 (call : CallFn) (t0 t7 t16 : AV) (H : AHeap) : R :=
 guardA t7 true (pO (aLen .sl H t16) H fun t17 H =>
 S51_1 call t0 t7 t17 H) (S51_1 call t0 t7 U H)
def S51_3 (call : CallFn) (t0 t7 t11 t15 : AV) (H : AHeap) : R :=
 guardA t7 true (pC call n104 [t11, t15] H fun t16 H =>
 S51_2 call t0 t7 t16 H) (S51_2 call t0 t7 U H)
def S51_4 (call : CallFn) (t0 t7 t11 t14 : AV) (H : AHeap) : R :=
 guardA t7 true (ldK .none H t14 fun t15 H =>
 S51_3 call t0 t7 t11 t15 H) (S51_3 call t0 t7 t11 U H)
def S51_5 (call : CallFn) (t0 t7 t11 t13 : AV) (H : AHeap) : R :=
 guardA t7 true (pFa 6 t13 H fun t14 H =>
 S51_4 call t0 t7 t11 t14 H) (S51_4 call t0 t7 t11 U H)
def S51_6 (call : CallFn) (t0 t7 t11 t12 : AV) (H : AHeap) : R :=
 guardA t7 true (pO (aNil t12) H fun t13 H =>
 S51_5 call t0 t7 t11 t13 H) (S51_5 call t0 t7 t11 U H)
def S51_7 (call : CallFn) (t0 t7 t11 : AV) (H : AHeap) : R :=
 guardA t7 true (S51_6 call t0 t7 t11 t0 H) (S51_6 call t0 t7 t11 U H)
def S51_8 (call : CallFn) (t0 t7 t10 : AV) (H : AHeap) : R :=
 guardA t7 true (ldK .none H t10 fun t11 H =>
 S51_7 call t0 t7 t11 H) (S51_7 call t0 t7 U H)
def S51_9 (call : CallFn) (t0 t7 t9 : AV) (H : AHeap) : R :=
 guardA t7 true (pFa 7 t9 H fun t10 H =>
 S51_8 call t0 t7 t10 H) (S51_8 call t0 t7 U H)
def S51_10 (call : CallFn) (t0 t7 t8 : AV) (H : AHeap) : R :=
 guardA t7 true (pO (aNil t8) H fun t9 H =>
 S51_9 call t0 t7 t9 H) (S51_9 call t0 t7 U H)
def S51_11 (call : CallFn) (t0 : AV) (H : AHeap) : R :=
 pO (aNil t0) H fun t3 H =>
 pFa 11 t3 H fun t4 H =>
 ldK .none H t4 fun t5 H =>
 pEql t5 (.int .i64 (.ofNat 0)) H fun t6 H =>
 guardA t6 true (S51_10 call t0 t6 t0 H) (S51_10 call t0 t6 U H)
def S51 : Ff := ⟨fun call l H => argA1 (fun t0 => S51_11 call t0 H) l⟩
def S52_0 (_ : CallFn) (t0 : AV) (H : AHeap) : R :=
 pO (aNil t0) H fun t5 H =>
 pFa 11 t5 H fun t6 H =>
 ldK .none H t6 fun t7 H =>
 pO (aNil t0) H fun t9 H =>
 pFa 12 t9 H fun t10 H =>
 ldK .none H t10 fun t11 H =>
 some (.tup [t7, t11], H)
def S52 : Ff := ⟨fun call l H => argA1 (fun t0 => S52_0 call t0 H) l⟩
def S53_0 (call : CallFn) (t0 : AV) (H : AHeap) : R :=
 pO (aNil t0) H fun t4 H =>
 pFa 11 t4 H fun t5 H =>
 ldK .none H t5 fun t6 H =>
 pNeq t6 (.int .i64 (.ofNat 0)) H fun t7 H =>
 onBool t7 (some (.nilsl, H)) (pO (aNil t0) H fun t9 H =>
 pFa 7 t9 H fun t10 H =>
 ldK .none H t10 fun t11 H =>
 pO (aNil t0) H fun t13 H =>
 pFa 6 t13 H fun t14 H =>
 ldK .none H t14 fun t15 H =>
 pC call n104 [t11, t15] H fun t16 H =>
 some (t16, H))
def S53 : Ff := ⟨fun call l H => argA1 (fun t0 => S53_0 call t0 H) l⟩
def S54_0 (call : CallFn) (t0 : AV) (H : AHeap) : R :=
 pO (aNil t0) H fun t5 H =>
 pFa 11 t5 H fun t6 H =>
 ldK .none H t6 fun t7 H =>
 pNeq t7 (.int .i64 (.ofNat 0)) H fun t8 H =>
 onBool t8 (some ((.bool false), H)) (pO (aNil t0) H fun t10 H =>
 pFa 6 t10 H fun t11 H =>
 ldK .none H t11 fun t12 H =>
 pC call n59 [t12] H fun t13 H =>
 pC call n105 [t13, (.iface y66 t0)] H fun t17 H =>
 pO (aUn .not t17) H fun t18 H =>
 onBool t18 (pC call n106 [t13, (.iface y66 t0)] H fun _ H =>
 some ((.bool true), H)) (some ((.bool true), H)))
def S54 : Ff := ⟨fun call l H => argA1 (fun t0 => S54_0 call t0 H) l⟩
def S55_0 (call : CallFn) (t0 : AV) (H : AHeap) : R :=
 pC call n51 [t0] H fun _ H =>
 some ((.bool true), H)
def S55_1 (call : CallFn) (t0 t1 t2 t7 t9 t11 t82 t87 : AV) (H : AHeap) : R :=
 pPick t82 t87 (.bool false) H fun t88 H =>
 onBool t88 (pO (aNil t0) H fun t91 H =>
 pFa 10 t91 H fun t92 H =>
 ldK .none H t92 fun t93 H =>
 pFa 0 t9 H fun t95 H =>
 ldK .none H t95 fun t96 H =>
 pFa 0 t11 H fun t97 H =>
 ldK .none H t97 fun t98 H =>
 pFa 1 t11 H fun t99 H =>
 ldK .none H t99 fun t100 H =>
 pIa 3 t7 t2 H fun t103 H =>
 ldK (.some 3) H t103 fun t104 H =>
 pO (someAgg (aFill [(.int .i64 (.ofNat 0)), (.int .i64 (.ofNat 0)), (.int .i64 (.ofNat 0)), (.int .i64 (.ofNat 0)), (.int .i64 (.ofNat 0)), (.int .i64 (.ofNat 0)), (.int .i64 (.ofNat 0))] [(0, 1, t1), (1, 1, t96), (2, 1, t98), (3, 1, t100), (4, 3, t104)])) H fun t105 H =>
 pN (aBsl 7 1 [(.int .i64 (.ofNat 0)), (.int .i64 (.ofNat 0)), (.int .i64 (.ofNat 0)), (.int .i64 (.ofNat 0)), (.int .i64 (.ofNat 0)), (.int .i64 (.ofNat 0)), (.int .i64 (.ofNat 0))] [(0, 7, t105)]) H fun t106 H =>
 pW (aApp 7 56 H t93 t106) fun t107 H =>
 pO (aNil t0) H fun t108 H =>
 pFa 10 t108 H fun t109 H =>
 stK 1 H t109 t107 fun _ H =>
 S55_0 call t0 H) (S55_0 call t0 H)
def S55_2 (call : CallFn) (t0 t1 t2 t7 t9 t11 t75 t80 : AV) (H : AHeap) : R :=
 pPick t75 t80 (.bool false) H fun t81 H =>
 guardA t81 true (pO (aNil t0) H fun t84 H =>
 pFa 11 t84 H fun t85 H =>
 ldK .none H t85 fun t86 H =>
 pNeq t86 (.int .i64 (.ofNat 4)) H fun t87 H =>
 S55_1 call t0 t1 t2 t7 t9 t11 t81 t87 H) (S55_1 call t0 t1 t2 t7 t9 t11 t81 U H)
def S55_3 (call : CallFn) (t0 t1 t2 t7 t20 t24 : AV) (H : AHeap) : R :=
 pPick t20 (.bool true) t24 H fun t25 H =>
 onBool t25 (some ((.bool false), H)) (pO (aNil t0) H fun t27 H =>
 pFa 7 t27 H fun t28 H =>
 ldK .none H t28 fun t29 H =>
 pC call n108 [t29, t1] H fun t31 H =>
 pO (aNil t0) H fun t35 H =>
 pFa 0 t35 H fun t36 H =>
 ldK (.some 6) H t36 fun t37 H =>
 pC call n109 [t31, t37] H fun t38 H =>
 pExt t38 0 H fun t39 H =>
 pExt t38 1 H fun _ H =>
 pNew [(.int .i64 (.ofNat 0)), (.int .i64 (.ofNat 0)), (.int .i64 (.ofNat 0)), (.int .i64 (.ofNat 0)), (.int .i64 (.ofNat 0))] H fun t9 H =>
 stK 5 H t9 t39 fun _ H =>
 pC call n110 [t31] H fun t43 H =>
 pExt t43 0 H fun t44 H =>
 pExt t43 1 H fun _ H =>
 pNew [(.int .i64 (.ofNat 0)), (.int .i64 (.ofNat 0)), .nilsl] H fun t11 H =>
 stK 3 H t11 t44 fun _ H =>
 pFa 0 t9 H fun t46 H =>
 ldK .none H t46 fun t47 H =>
 pC call n112 [t31] H fun t49 H =>
 andR (andB (ckV (aLoad .none H t46) t47) true) (
 pC call n111 [t47, t49] H fun t50 H =>
 ldK (.some 5) H t9 fun t54 H =>
 pO (aNil t0) H fun t56 H =>
 pFa 0 t56 H fun t57 H =>
 pFa 4 t57 H fun t58 H =>
 ldK .none H t58 fun t59 H =>
 pFa 0 t11 H fun t60 H =>
 ldK .none H t60 fun t61 H =>
 pIa 7 t59 t61 H fun t62 H =>
 ldK (.some 7) H t62 fun t63 H =>
 pFa 1 t11 H fun t64 H =>
 ldK .none H t64 fun t65 H =>
 pIa 3 t7 t2 H fun t68 H =>
 ldK (.some 3) H t68 fun t69 H =>
 pO (someAgg (aFill [.nilp, (.int .i64 (.ofNat 0)), .nilp, (.int .i64 (.ofNat 0)), (.int .i64 (.ofNat 0)), (.int .i64 (.ofNat 0)), (.int .i64 (.ofNat 0)), (.int .i64 (.ofNat 0)), (.int .i64 (.ofNat 0)), (.int .i64 (.ofNat 0)), (.int .i64 (.ofNat 0)), (.int .i64 (.ofNat 0)), .nilsl, .nilsl, .nilsl, (.int .i64 (.ofNat 0)), (.int .i64 (.ofNat 0)), (.int .i64 (.ofNat 0)), (.int .i64 (.ofNat 0))] [(0, 1, t0), (1, 1, t1), (2, 1, t31), (3, 5, t54), (8, 7, t63), (15, 1, t65), (16, 3, t69)])) H fun t70 H =>
 pBox t70 H fun t71 H =>
 pC call n113 [t71] H fun _ H =>
 guardA t50 true (pO (aNil t0) H fun t77 H =>
 pFa 11 t77 H fun t78 H =>
 ldK .none H t78 fun t79 H =>
 pNeq t79 (.int .i64 (.ofNat 2)) H fun t80 H =>
 S55_2 call t0 t1 t2 t7 t9 t11 t50 t80 H) (S55_2 call t0 t1 t2 t7 t9 t11 t50 U H)))
def S55_4 (call : CallFn) (t0 t1 t2 : AV) (H : AHeap) : R :=
 pC call n107 [t0, t1] H fun t17 H =>
 pLss t2 (.int .i64 (.ofNat 0)) H fun t19 H =>
 guardA t19 false (pO (aLen .sl H t17) H fun t23 H =>
 pGeq t2 t23 H fun t24 H =>
 S55_3 call t0 t1 t2 t17 t19 t24 H) (S55_3 call t0 t1 t2 t17 t19 U H)
def S55 : Ff := ⟨fun call l H => argA3 (fun t0 t1 t2 => S55_4 call t0 t1 t2 H) l⟩
def S56_0 (call : CallFn) (t0 t1 : AV) (H : AHeap) : R :=
 pC call n107 [t0, t1] H fun t7 H =>
 pO (aLen .sl H t7) H fun t8 H =>
 some (t8, H)
def S56 : Ff := ⟨fun call l H => argA2 (fun t0 t1 => S56_0 call t0 t1 H) l⟩
def S57_0 (call : CallFn) (t0 : AV) (H : AHeap) : R :=
 pO (aNil t0) H fun t4 H =>
 pFa 9 t4 H fun t5 H =>
 ldK .none H t5 fun t6 H =>
 pC call n98 [t6] H fun t7 H =>
 some (t7, H)
def S57 : Ff := ⟨fun call l H => argA1 (fun t0 => S57_0 call t0 H) l⟩
def S58_0 (_ : CallFn) (t0 : AV) (H : AHeap) : R :=
 pO (aNil t0) H fun t4 H =>
 pFa 6 t4 H fun t5 H =>
 ldK .none H t5 fun t6 H =>
 some (t6, H)
def S58 : Ff := ⟨fun call l H => argA1 (fun t0 => S58_0 call t0 H) l⟩
def S59_0 (_ : CallFn) (t0 : AV) (H : AHeap) : R :=
 pO (aNil t0) H fun t4 H =>
 pFa 0 t4 H fun t5 H =>
 ldK .none H t5 fun t6 H =>
 some (t6, H)
def S59 : Ff := ⟨fun call l H => argA1 (fun t0 => S59_0 call t0 H) l⟩
def S60_0 (_ : CallFn) (t0 : AV) (H : AHeap) : R :=
 pO (aNil t0) H fun t4 H =>
 pFa 6 t4 H fun t5 H =>
 ldK .none H t5 fun t6 H =>
 some (t6, H)
def S60 : Ff := ⟨fun call l H => argA1 (fun t0 => S60_0 call t0 H) l⟩
def S61_0 (_ : CallFn) (t0 : AV) (H : AHeap) : R :=
 pO (aNil t0) H fun t4 H =>
 pFa 2 t4 H fun t5 H =>
 ldK .none H t5 fun t6 H =>
 some (t6, H)
def S61 : Ff := ⟨fun call l H => argA1 (fun t0 => S61_0 call t0 H) l⟩
def S62_0 (call : CallFn) (t0 : AV) (H : AHeap) : R :=
 pO (aNil t0) H fun t4 H =>
 pFa 10 t4 H fun t5 H =>
 ldK .none H t5 fun t6 H =>
 pC call n114 [t6] H fun t7 H =>
 some (t7, H)
def S62 : Ff := ⟨fun call l H => argA1 (fun t0 => S62_0 call t0 H) l⟩
def S64_1 (call : CallFn) (q0 : AV → AV → AHeap → R) (t0 t3 t24 t26 : AV) (H : AHeap) : R :=
 pPick t24 (.bool true) t26 H fun t27 H =>
 onBool t27 (pAdd t3 (iN 1) H fun t29 H =>
 q0 t0 t29 H) (pO (aSliceS t0 (.some t3) .none) H fun t33 H =>
 pC call n119 [t33, (.str [47, 47])] H fun t34 H =>
 onBool t34 (pO (aSliceS t0 (.some t3) .none) H fun t38 H =>
 pC call n120 [t38, (.fn n121 [] [])] H fun t39 H =>
 pAdd t3 t39 H fun t40 H =>
 q0 t0 t40 H) (some (t3, H)))
def S64_2 (call : CallFn) (q0 : AV → AV → AHeap → R) (t0 t3 t4 t20 t22 : AV) (H : AHeap) : R :=
 pPick t20 (.bool true) t22 H fun t23 H =>
 guardA t23 false (pEql t4 (.int .u8 (.ofNat 13)) H fun t26 H =>
 S64_1 call q0 t0 t3 t23 t26 H) (S64_1 call q0 t0 t3 t23 U H)
def S64_3 (call : CallFn) (q0 : AV → AV → AHeap → R) (t0 t3 t4 t16 t18 : AV) (H : AHeap) : R :=
 pPick t16 (.bool true) t18 H fun t19 H =>
 guardA t19 false (pEql t4 (.int .u8 (.ofNat 10)) H fun t22 H =>
 S64_2 call q0 t0 t3 t4 t19 t22 H) (S64_2 call q0 t0 t3 t4 t19 U H)
def S64_0 (call : CallFn) (n : Nat) : AV → AV → AHeap → R :=
 Nat.rec (motive := fun _ => AV → AV → AHeap → R) (fun _ _ _ => none) (fun _ q0 t0 t3 H => pO (aLen .str H t0) H fun t7 H =>
 pLss t3 t7 H fun t8 H =>
 onBool t8 (pO (aIdxS t0 t3) H fun t11 H =>
 pEql t11 (.int .u8 (.ofNat 32)) H fun t15 H =>
 guardA t15 false (pEql t11 (.int .u8 (.ofNat 9)) H fun t18 H =>
 S64_3 call q0 t0 t3 t11 t15 t18 H) (S64_3 call q0 t0 t3 t11 t15 U H)) (some (t3, H))) n
def S64 : Ff := ⟨fun call l H => argA1 (fun t0 => S64_0 call 1000000 t0 (iN 0) H) l⟩
def S65_0 (_ : CallFn) (t2 : AV) (H : AHeap) : R :=
 pO (someAgg (aFill [(iN 0), (.str []), (iN 0)] [])) H fun t63 H =>
 stK 3 H t2 t63 fun _ H =>
 ob (allM (fun o => o) [aLoad (.some 3) H t2]) fun vs => some (resV vs, H)
def S65_1 (call : CallFn) (n : Nat) : AV → AV → AV → AV → AV → AHeap → R :=
 Nat.rec (motive := fun _ => AV → AV → AV → AV → AV → AHeap → R) (fun _ _ _ _ _ _ => none) (fun _ q0 t0 t2 t51 t52 t53 H => pLss t53 t52 H fun t54 H =>
 onBool t54 (pIa 1 t51 t53 H fun t55 H =>
 ldK .none H t55 fun t56 H =>
 pC call n119 [t0, t56] H fun t59 H =>
 onBool t59 (pO (someAgg (aFill [(iN 0), (.str []), (iN 0)] [(0, 1, (iN 4)), (1, 1, t56)])) H fun t61 H =>
 stK 3 H t2 t61 fun _ H =>
 ob (allM (fun o => o) [aLoad (.some 3) H t2]) fun vs => some (resV vs, H)) (pAdd t53 (iN 1) H fun t62 H =>
 q0 t0 t2 t51 t52 t62 H)) (S65_0 call t2 H)) n
def S65_2 (_ : CallFn) (t2 t3 : AV) (H : AHeap) : R :=
 pFa 1 t3 H fun t22 H =>
 ldK .none H t22 fun t23 H =>
 pO (aLen .str H t23) H fun t24 H =>
 pGtr t24 (iN 64) H fun t25 H =>
 onBool t25 (pO (someAgg (aFill [(iN 0), (.str []), (iN 0)] [])) H fun t26 H =>
 stK 3 H t2 t26 fun _ H =>
 ob (allM (fun o => o) [aLoad (.some 3) H t2]) fun vs => some (resV vs, H)) (ldK (.some 3) H t3 fun t27 H =>
 stK 3 H t2 t27 fun _ H =>
 ob (allM (fun o => o) [aLoad (.some 3) H t2]) fun vs => some (resV vs, H))
def S65_3 (_ : CallFn) (t2 t4 t45 t47 : AV) (H : AHeap) : R :=
 pPick t45 (.bool true) t47 H fun t48 H =>
 onBool t48 (pO (someAgg (aFill [(iN 0), (.str []), (iN 0)] [])) H fun t49 H =>
 stK 3 H t2 t49 fun _ H =>
 ob (allM (fun o => o) [aLoad (.some 3) H t2]) fun vs => some (resV vs, H)) (ldK (.some 3) H t4 fun t50 H =>
 stK 3 H t2 t50 fun _ H =>
 ob (allM (fun o => o) [aLoad (.some 3) H t2]) fun vs => some (resV vs, H))
def S65_4 (call : CallFn) (t0 : AV) (H : AHeap) : R :=
 pNew [(iN 0), (.str []), (iN 0)] H fun t2 H =>
 pO (aIdxS t0 (iN 0)) H fun t11 H =>
 pC call n122 [t11] H fun t12 H =>
 onBool t12 (pC call n120 [t0, (.fn n123 [] [])] H fun t15 H =>
 pO (aSliceS t0 .none (.some t15)) H fun t16 H =>
 pO (someAgg (aFill [(iN 0), (.str []), (iN 0)] [(0, 1, (iN 1)), (1, 1, t16)])) H fun t17 H =>
 pNew [(iN 0), (.str []), (iN 0)] H fun t3 H =>
 stK 3 H t3 t17 fun _ H =>
 pFa 1 t3 H fun t18 H =>
 ldK .none H t18 fun t19 H =>
 pC call n124 [t19] H fun t20 H =>
 onBool t20 (pFa 0 t3 H fun t21 H =>
 stK 1 H t21 (iN 2) fun _ H =>
 S65_2 call t2 t3 H) (S65_2 call t2 t3 H)) (pO (aIdxS t0 (iN 0)) H fun t30 H =>
 pC call n125 [t30] H fun t31 H =>
 onBool t31 (pC call n120 [t0, (.fn n125 [] [])] H fun t34 H =>
 pO (aSliceS t0 .none (.some t34)) H fun t35 H =>
 pO (someAgg (aFill [(iN 0), (.str []), (iN 0)] [(0, 1, (iN 3)), (1, 1, t35)])) H fun t36 H =>
 pNew [(iN 0), (.str []), (iN 0)] H fun t4 H =>
 stK 3 H t4 t36 fun _ H =>
 pFa 1 t4 H fun t38 H =>
 ldK .none H t38 fun t39 H =>
 pC call n126 [t39, (iN 10), (iN 64)] H fun t40 H =>
 pExt t40 0 H fun t41 H =>
 pExt t40 1 H fun t42 H =>
 pO (aEq true .ifc t42 .nilif) H fun t44 H =>
 guardA t44 false (pGtr t41 (.int .u64 (.ofNat 4611686018427387903)) H fun t47 H =>
 S65_3 call t2 t4 t44 t47 H) (S65_3 call t2 t4 t44 U H)) (pC call n127 [] H fun t51 H =>
 pO (aLen .sl H t51) H fun t52 H =>
 S65_1 call 1000000 t0 t2 t51 t52 (iN 0) H))
def S65 : Ff := ⟨fun call l H => argA1 (fun t0 => S65_4 call t0 H) l⟩
def S66_0 (call : CallFn) (t0 t1 : AV) (H : AHeap) : R :=
 pNew [(.str []), (.str []), (iN 0), .nilsl] H fun t4 H =>
 pC call n67 [t0] H fun t7 H =>
 pO (aFld 2 .none t7) H fun t8 H =>
 pO (someAgg (aFill [(.str []), (.str []), (iN 0), .nilsl] [(0, 1, t1), (2, 1, t8)])) H fun t9 H =>
 stK 4 H t4 t9 fun _ H =>
 ob (allM (fun o => o) [aLoad (.some 4) H t4]) fun vs => some (resV vs, H)
def S66 : Ff := ⟨fun call l H => argA2 (fun t0 t1 => S66_0 call t0 t1 H) l⟩
def S67_0 (_ : CallFn) (t0 : AV) (H : AHeap) : R :=
 pNew [(iN 0), (.str []), (iN 0)] H fun t2 H =>
 pO (aNil t0) H fun t4 H =>
 pFa 0 t4 H fun t5 H =>
 ldK .none H t5 fun t6 H =>
 pO (aNil t0) H fun t8 H =>
 pFa 1 t8 H fun t9 H =>
 ldK .none H t9 fun t10 H =>
 pIa 3 t6 t10 H fun t11 H =>
 ldK (.some 3) H t11 fun t12 H =>
 stK 3 H t2 t12 fun _ H =>
 ob (allM (fun o => o) [aLoad (.some 3) H t2]) fun vs => some (resV vs, H)
def S67 : Ff := ⟨fun call l H => argA1 (fun t0 => S67_0 call t0 H) l⟩
def S69_1 (call : CallFn) (q0 : AV → AV → AV → AV → AHeap → R) (t3 t6 t7 t40 t41 t42 : AV) (H : AHeap) : R :=
 ldK (.some 4) H t6 fun t59 H =>
 pC call n136 [t59, t7] H fun t61 H =>
 pO (aUn .not t61) H fun t62 H =>
 onBool t62 (some ((.bool false), H)) (pAdd t42 (iN 1) H fun t63 H =>
 q0 t3 t40 t41 t63 H)
def S69_0 (call : CallFn) (n : Nat) : AV → AV → AV → AV → AHeap → R :=
 Nat.rec (motive := fun _ => AV → AV → AV → AV → AHeap → R) (fun _ _ _ _ _ => none) (fun _ q0 t3 t40 t41 t42 H => pLss t42 t41 H fun t43 H =>
 onBool t43 (pIa 4 t40 t42 H fun t45 H =>
 ldK (.some 4) H t45 fun t46 H =>
 pNew [(.str []), (.str []), (iN 0), .nilsl] H fun t6 H =>
 stK 4 H t6 t46 fun _ H =>
 pFa 1 t3 H fun t47 H =>
 ldK .none H t47 fun t48 H =>
 pFa 0 t3 H fun t50 H =>
 ldK .none H t50 fun t51 H =>
 pO (aLen .sl H t51) H fun t52 H =>
 pLss t42 t52 H fun t53 H =>
 onBool t53 (pFa 0 t3 H fun t54 H =>
 ldK .none H t54 fun t55 H =>
 pIa 1 t55 t42 H fun t57 H =>
 ldK .none H t57 fun t58 H =>
 S69_1 call q0 t3 t6 t58 t40 t41 t42 H) (S69_1 call q0 t3 t6 t48 t40 t41 t42 H)) (some ((.bool true), H))) n
def S69_2 (call : CallFn) (t1 t3 t25 t37 : AV) (H : AHeap) : R :=
 pPick t25 (.bool true) t37 H fun t38 H =>
 onBool t38 (some ((.bool false), H)) (pFa 3 t1 H fun t39 H =>
 ldK .none H t39 fun t40 H =>
 pO (aLen .sl H t40) H fun t41 H =>
 S69_0 call 1000000 t3 t40 t41 (iN 0) H)
def S69_3 (call : CallFn) (t1 t3 t25 t29 t36 : AV) (H : AHeap) : R :=
 guardA t25 false (pPick t29 t36 (.bool false) H fun t37 H =>
 S69_2 call t1 t3 t25 t37 H) (S69_2 call t1 t3 t25 U H)
def S69_4 (call : CallFn) (t1 t3 t25 t29 : AV) (H : AHeap) : R :=
 guardA t29 true (pFa 3 t1 H fun t30 H =>
 ldK .none H t30 fun t31 H =>
 pO (aLen .sl H t31) H fun t32 H =>
 pFa 0 t3 H fun t33 H =>
 ldK .none H t33 fun t34 H =>
 pO (aLen .sl H t34) H fun t35 H =>
 pGtr t32 t35 H fun t36 H =>
 S69_3 call t1 t3 t25 t29 t36 H) (S69_3 call t1 t3 t25 t29 U H)
def S69_5 (call : CallFn) (t1 t3 t16 t23 : AV) (H : AHeap) : R :=
 pPick t16 (.bool true) t23 H fun t24 H =>
 guardA t24 false (pFa 1 t3 H fun t26 H =>
 ldK .none H t26 fun t27 H =>
 pEql t27 (.str []) H fun t28 H =>
 S69_4 call t1 t3 t24 t28 H) (S69_4 call t1 t3 t24 U H)
def S69_6 (call : CallFn) (t0 : AV) (H : AHeap) : R :=
 pBox t0 H fun t1 H =>
 pFa 0 t1 H fun t9 H =>
 ldK .none H t9 fun t10 H =>
 pC call n135 [t10] H fun t11 H =>
 pExt t11 0 H fun t12 H =>
 pExt t11 1 H fun t13 H =>
 pNew [.nilsl, (.str [])] H fun t3 H =>
 stK 2 H t3 t12 fun _ H =>
 pO (aUn .not t13) H fun t15 H =>
 guardA t15 false (pFa 3 t1 H fun t17 H =>
 ldK .none H t17 fun t18 H =>
 pO (aLen .sl H t18) H fun t19 H =>
 pFa 0 t3 H fun t20 H =>
 ldK .none H t20 fun t21 H =>
 pO (aLen .sl H t21) H fun t22 H =>
 pLss t19 t22 H fun t23 H =>
 S69_5 call t1 t3 t15 t23 H) (S69_5 call t1 t3 t15 U H)
def S69 : Ff := ⟨fun call l H => argA1 (fun t0 => S69_6 call t0 H) l⟩
def S70_0 (call : CallFn) (t0 t1 : AV) (H : AHeap) : R :=
 pC call n72 [t0, t1] H fun t7 H =>
 pGeq t7 (iN 0) H fun t8 H =>
 some (t8, H)
def S70 : Ff := ⟨fun call l H => argA2 (fun t0 t1 => S70_0 call t0 t1 H) l⟩
def S71_0 (call : CallFn) (t0 : AV) (H : AHeap) : R :=
 pBox t0 H fun t1 H =>
 ldK (.some 4) H t1 fun t3 H =>
 pC call n26 [t3] H fun t4 H =>
 pO (aUn .not t4) H fun t5 H =>
 some (t5, H)
def S71 : Ff := ⟨fun call l H => argA1 (fun t0 => S71_0 call t0 H) l⟩
def S72_0 (call : CallFn) (n : Nat) : AV → AV → AV → AV → AHeap → R :=
 Nat.rec (motive := fun _ => AV → AV → AV → AV → AHeap → R) (fun _ _ _ _ _ => none) (fun _ q0 t0 t1 t7 t8 H => pLss t8 t7 H fun t9 H =>
 onBool t9 (pIa 4 t0 t8 H fun t14 H =>
 ldK (.some 4) H t14 fun t15 H =>
 pV call t1 [t15] H fun t16 H =>
 onBool t16 (some (t8, H)) (pAdd t8 (iN 1) H fun t18 H =>
 q0 t0 t1 t7 t18 H)) (some ((.int .i64 (.negSucc 0)), H))) n
def S72_1 (call : CallFn) (t0 t1 : AV) (H : AHeap) : R :=
 pO (aLen .sl H t0) H fun t7 H =>
 S72_0 call 1000000 t0 t1 t7 (iN 0) H
def S72 : Ff := ⟨fun call l H => argA2 (fun t0 t1 => S72_1 call t0 t1 H) l⟩
def S78_0 (_ : CallFn) (t6 t9 : AV) (H : AHeap) : R :=
 pPick t6 t9 (.bool false) H fun t10 H =>
 some (t10, H)
def S78_1 (call : CallFn) (t0 : AV) (H : AHeap) : R :=
 pBox t0 H fun t1 H =>
 pFa 0 t1 H fun t3 H =>
 ldK .none H t3 fun t4 H =>
 pNeq t4 (.str [105, 110, 116]) H fun t5 H =>
 guardA t5 true (pFa 0 t1 H fun t7 H =>
 ldK .none H t7 fun t8 H =>
 pNeq t8 (.str [98, 111, 111, 108]) H fun t9 H =>
 S78_0 call t5 t9 H) (S78_0 call t5 U H)
def S78 : Ff := ⟨fun call l H => argA1 (fun t0 => S78_1 call t0 H) l⟩
def S80_0 (_ : CallFn) (t0 t1 : AV) (H : AHeap) : R :=
 pO (aNil t0) H fun t41 H =>
 pFa 2 t41 H fun t42 H =>
 ldK .none H t42 fun t43 H =>
 pN (aBsl 1 1 [(.bool false)] [(0, 1, t1)]) H fun t45 H =>
 pO (aNil t0) H fun t48 H =>
 pFa 3 t48 H fun t49 H =>
 ldK .none H t49 fun t50 H =>
 pN (aBsl 1 1 [(.bool false)] [(0, 1, (.bool true))]) H fun t51 H =>
 pW (aApp 1 1 H t43 t45) fun t46 H =>
 andR (andB (ckV (aLoad .none H t49) t50) true) (
 pW (aApp 1 1 H t50 t51) fun t52 H =>
 pO (aNil t0) H fun t53 H =>
 pFa 2 t53 H fun t54 H =>
 stK 1 H t54 t46 fun _ H =>
 pO (aNil t0) H fun t55 H =>
 pFa 3 t55 H fun t56 H =>
 stK 1 H t56 t52 fun _ H =>
 pO (aNil t0) H fun t58 H =>
 pFa 2 t58 H fun t59 H =>
 ldK .none H t59 fun t60 H =>
 pO (aLen .sl H t60) H fun t61 H =>
 pSub t61 (iN 1) H fun t62 H =>
 some (t62, H))
def S80_2 (_ : CallFn) (q0 : AV → AV → AV → AV → AV → AHeap → R) (t0 t1 t5 t10 t11 t12 t19 t28 : AV) (H : AHeap) : R :=
 pPick t19 t28 (.bool false) H fun t29 H =>
 onBool t29 (pO (aNil t0) H fun t31 H =>
 pFa 3 t31 H fun t32 H =>
 ldK .none H t32 fun t33 H =>
 pIa 1 t33 t5 H fun t35 H =>
 stK 1 H t35 (.bool true) fun _ H =>
 some (t5, H)) (pAdd t12 (iN 1) H fun t37 H =>
 q0 t0 t1 t10 t11 t37 H)
def S80_1 (call : CallFn) (n : Nat) : AV → AV → AV → AV → AV → AHeap → R :=
 Nat.rec (motive := fun _ => AV → AV → AV → AV → AV → AHeap → R) (fun _ _ _ _ _ _ => none) (fun _ q0 t0 t1 t10 t11 t12 H => pLss t12 t11 H fun t13 H =>
 onBool t13 (pIa 1 t10 t12 H fun t15 H =>
 ldK .none H t15 fun t16 H =>
 pO (aUn .not t16) H fun t18 H =>
 guardA t18 true (pO (aNil t0) H fun t21 H =>
 pFa 2 t21 H fun t22 H =>
 ldK .none H t22 fun t23 H =>
 pIa 1 t23 t12 H fun t25 H =>
 ldK .none H t25 fun t26 H =>
 pO (aEq false .bool t26 t1) H fun t28 H =>
 S80_2 call q0 t0 t1 t12 t10 t11 t12 t18 t28 H) (S80_2 call q0 t0 t1 t12 t10 t11 t12 t18 U H)) (S80_0 call t0 t1 H)) n
def S80_3 (call : CallFn) (t0 t1 : AV) (H : AHeap) : R :=
 pO (aNil t0) H fun t8 H =>
 pFa 3 t8 H fun t9 H =>
 ldK .none H t9 fun t10 H =>
 pO (aLen .sl H t10) H fun t11 H =>
 S80_1 call 1000000 t0 t1 t10 t11 (iN 0) H
def S80 : Ff := ⟨fun call l H => argA2 (fun t0 t1 => S80_3 call t0 t1 H) l⟩
def S83_0 (_ : CallFn) (t0 t1 : AV) (H : AHeap) : R :=
 pBox t1 H fun t3 H =>
 pO (aNil t0) H fun t7 H =>
 pFa 4 t7 H fun t8 H =>
 ldK .none H t8 fun t9 H =>
 ldK (.some 5) H t3 fun t10 H =>
 pN (aBsl 5 1 [(iN 0), (iN 0), (iN 0), (iN 0), (iN 0)] [(0, 5, t10)]) H fun t11 H =>
 pW (aApp 5 40 H t9 t11) fun t12 H =>
 pO (aNil t0) H fun t13 H =>
 pFa 4 t13 H fun t14 H =>
 stK 1 H t14 t12 fun _ H =>
 pO (aNil t0) H fun t16 H =>
 pFa 4 t16 H fun t17 H =>
 ldK .none H t17 fun t18 H =>
 pO (aLen .sl H t18) H fun t19 H =>
 pSub t19 (iN 1) H fun t20 H =>
 some (t20, H)
def S83 : Ff := ⟨fun call l H => argA2 (fun t0 t1 => S83_0 call t0 t1 H) l⟩
def S88_0 (_ : CallFn) (t3 t27 t36 : AV) (H : AHeap) : R :=
 pPick t27 (.bool true) t36 H fun t37 H =>
 onBool t37 (some (.tup [(iN 0), (iN 0)], H)) (pFa 1 t3 H fun t38 H =>
 ldK .none H t38 fun t39 H =>
 pFa 1 t3 H fun t40 H =>
 ldK .none H t40 fun t41 H =>
 pFa 2 t3 H fun t42 H =>
 ldK .none H t42 fun t43 H =>
 pAdd t41 t43 H fun t44 H =>
 some (.tup [t39, t44], H))
def S88_1 (call : CallFn) (t2 t3 t19 t25 : AV) (H : AHeap) : R :=
 pPick t19 (.bool true) t25 H fun t26 H =>
 guardA t26 false (pFa 2 t3 H fun t28 H =>
 ldK .none H t28 fun t29 H =>
 pFa 3 t2 H fun t30 H =>
 ldK .none H t30 fun t31 H =>
 pO (aLen .sl H t31) H fun t32 H =>
 pFa 1 t3 H fun t33 H =>
 ldK .none H t33 fun t34 H =>
 pSub t32 t34 H fun t35 H =>
 pGtr t29 t35 H fun t36 H =>
 S88_0 call t3 t26 t36 H) (S88_0 call t3 t26 U H)
def S88_2 (call : CallFn) (t2 t3 t14 t17 : AV) (H : AHeap) : R :=
 pPick t14 (.bool true) t17 H fun t18 H =>
 guardA t18 false (pFa 1 t3 H fun t20 H =>
 ldK .none H t20 fun t21 H =>
 pFa 3 t2 H fun t22 H =>
 ldK .none H t22 fun t23 H =>
 pO (aLen .sl H t23) H fun t24 H =>
 pGtr t21 t24 H fun t25 H =>
 S88_1 call t2 t3 t18 t25 H) (S88_1 call t2 t3 t18 U H)
def S88_3 (call : CallFn) (t2 t3 t9 t12 : AV) (H : AHeap) : R :=
 pPick t9 (.bool true) t12 H fun t13 H =>
 guardA t13 false (pFa 2 t3 H fun t15 H =>
 ldK .none H t15 fun t16 H =>
 pLss t16 (iN 0) H fun t17 H =>
 S88_2 call t2 t3 t13 t17 H) (S88_2 call t2 t3 t13 U H)
def S88_4 (call : CallFn) (t0 t1 : AV) (H : AHeap) : R :=
 pBox t0 H fun t2 H =>
 pBox t1 H fun t3 H =>
 pFa 0 t3 H fun t6 H =>
 ldK .none H t6 fun t7 H =>
 pNeq t7 (iN 41) H fun t8 H =>
 guardA t8 false (pFa 1 t3 H fun t10 H =>
 ldK .none H t10 fun t11 H =>
 pLss t11 (iN 0) H fun t12 H =>
 S88_3 call t2 t3 t8 t12 H) (S88_3 call t2 t3 t8 U H)
def S88 : Ff := ⟨fun call l H => argA2 (fun t0 t1 => S88_4 call t0 t1 H) l⟩
def S98_0 (_ : CallFn) (t0 : AV) (H : AHeap) : R :=
 pO (aEq false .sl t0 .nilsl) H fun t4 H =>
 onBool t4 (some (.nilsl, H)) (pN (aBsl 1 0 [(.int .i64 (.ofNat 0))] []) H fun t5 H =>
 pW (aApp 1 8 H t5 t0) fun t7 H =>
 some (t7, H))
def S98 : Ff := ⟨fun call l H => argA1 (fun t0 => S98_0 call t0 H) l⟩
def S104_0 (call : CallFn) (t0 t1 : AV) (H : AHeap) : R :=
 pBox t0 H fun t2 H =>
 pBox t1 H fun t3 H =>
 ldK .none H t2 fun t5 H =>
 pC call n159 [t5] H fun t6 H =>
 pC call n158 [t6, (.fn n160 [] [t2, t3])] H fun t8 H =>
 some (t8, H)
def S104 : Ff := ⟨fun call l H => argA2 (fun t0 t1 => S104_0 call t0 t1 H) l⟩
def S105_0 (call : CallFn) (t0 t1 : AV) (H : AHeap) : R :=
 pO (aNil t0) H fun t10 H =>
 pFa 4 t10 H fun t11 H =>
 ldK .none H t11 fun t12 H =>
 pEql t12 (.int .i64 (.ofNat 1)) H fun t14 H =>
 onBool t14 (pC call n162 [t0, t1] H fun t18 H =>
 pExt t18 0 H fun t19 H =>
 pExt t18 1 H fun t20 H =>
 onBool t20 (pC call n163 [t0, t1, t19] H fun _ H =>
 some ((.bool true), H)) (pO (aNil t0) H fun t27 H =>
 pFa 4 t27 H fun t28 H =>
 stK 1 H t28 (.int .i64 (.ofNat 2)) fun _ H =>
 some ((.bool true), H))) (pEql t12 (.int .i64 (.ofNat 2)) H fun t30 H =>
 onBool t30 (pO (aNil t0) H fun t32 H =>
 pFa 3 t32 H fun t33 H =>
 ldK .none H t33 fun t34 H =>
 pC call n164 [t34] H fun t35 H =>
 onBool t35 (some ((.bool true), H)) (pC call n162 [t0, t1] H fun t39 H =>
 pExt t39 0 H fun _ H =>
 pExt t39 1 H fun t41 H =>
 onBool t41 (pO (aNil t0) H fun t44 H =>
 pFa 4 t44 H fun t45 H =>
 stK 1 H t45 (.int .i64 (.ofNat 1)) fun _ H =>
 some ((.bool true), H)) (pO (aNil t0) H fun t47 H =>
 pFa 4 t47 H fun t48 H =>
 stK 1 H t48 (.int .i64 (.ofNat 3)) fun _ H =>
 pO (aNil t0) H fun t50 H =>
 pFa 2 t50 H fun t51 H =>
 ldK .none H t51 fun t52 H =>
 pC call n165 [t52] H fun _ H =>
 some ((.bool true), H)))) (pEql t12 (.int .i64 (.ofNat 3)) H fun t55 H =>
 onBool t55 (pO (aNil t0) H fun t57 H =>
 pFa 2 t57 H fun t58 H =>
 ldK .none H t58 fun t59 H =>
 pC call n166 [t59] H fun t60 H =>
 pO (aUn .not t60) H fun t61 H =>
 onBool t61 (pO (aNil t0) H fun t63 H =>
 pFa 4 t63 H fun t64 H =>
 stK 1 H t64 (.int .i64 (.ofNat 0)) fun _ H =>
 pO (aNil t0) H fun t66 H =>
 pFa 6 t66 H fun t67 H =>
 ldK .none H t67 fun t68 H =>
 pAdd t68 (.int .i64 (.ofNat 1)) H fun t69 H =>
 pO (aNil t0) H fun t70 H =>
 pFa 6 t70 H fun t71 H =>
 stK 1 H t71 t69 fun _ H =>
 pO (aNil t0) H fun t74 H =>
 pFa 2 t74 H fun t75 H =>
 ldK .none H t75 fun t76 H =>
 pC call n167 [t76] H fun t77 H =>
 pO (aMinMax true t77 (.int .i64 (.ofNat 64))) H fun t78 H =>
 pO (aNil t0) H fun t79 H =>
 pFa 7 t79 H fun t80 H =>
 stK 1 H t80 t78 fun _ H =>
 some ((.bool true), H)) (some ((.bool true), H))) (some ((.bool false), H))))
def S105 : Ff := ⟨fun call l H => argA2 (fun t0 t1 => S105_0 call t0 t1 H) l⟩
def S106_0 (call : CallFn) (t0 t1 : AV) (H : AHeap) : R :=
 pO (aNil t0) H fun t6 H =>
 pFa 4 t6 H fun t7 H =>
 ldK .none H t7 fun t8 H =>
 pNeq t8 (.int .i64 (.ofNat 0)) H fun t9 H =>
 onBool t9 (some ((.bool false), H)) (pO (aNil t0) H fun t11 H =>
 pFa 0 t11 H fun t12 H =>
 ldK .none H t12 fun t13 H =>
 pC call n168 [t13] H fun _ H =>
 pO (aNil t0) H fun t16 H =>
 pFa 4 t16 H fun t17 H =>
 stK 1 H t17 (.int .i64 (.ofNat 1)) fun _ H =>
 pO (aNil t0) H fun t19 H =>
 pFa 5 t19 H fun t20 H =>
 ldK .none H t20 fun t21 H =>
 pW (unitW (aClearM H t21)) fun _ H =>
 pI Tryz.prog call t1 "Globals" [] H fun t24 H =>
 pC call n169 [t0, t24] H fun _ H =>
 some ((.bool true), H))
def S106 : Ff := ⟨fun call l H => argA2 (fun t0 t1 => S106_0 call t0 t1 H) l⟩
def S107_0 (call : CallFn) (t0 t1 : AV) (H : AHeap) : R :=
 pO (aNil t0) H fun t6 H =>
 pFa 11 t6 H fun t7 H =>
 ldK .none H t7 fun t8 H =>
 pNeq t8 (.int .i64 (.ofNat 0)) H fun t9 H =>
 onBool t9 (some (.nilsl, H)) (pO (aNil t0) H fun t11 H =>
 pFa 7 t11 H fun t12 H =>
 ldK .none H t12 fun t13 H =>
 pO (aNil t0) H fun t15 H =>
 pFa 6 t15 H fun t16 H =>
 ldK .none H t16 fun t17 H =>
 pC call n161 [t13, t17, t1] H fun t19 H =>
 some (t19, H))
def S107 : Ff := ⟨fun call l H => argA2 (fun t0 t1 => S107_0 call t0 t1 H) l⟩
def S108_0 (_ : CallFn) (t0 t1 : AV) (H : AHeap) : R :=
 pO (aNil t0) H fun t6 H =>
 pFa 6 t6 H fun t7 H =>
 ldK .none H t7 fun t8 H =>
 pO (aLook .int .nilp false H t8 t1) H fun t10 H =>
 some (t10, H)
def S108 : Ff := ⟨fun call l H => argA2 (fun t0 t1 => S108_0 call t0 t1 H) l⟩
def S109_0 (_ : CallFn) (t3 t4 t6 t35 t50 : AV) (H : AHeap) : R :=
 pPick t35 (.bool true) t50 H fun t51 H =>
 onBool t51 (pO (someAgg (aFill [(.int .i64 (.ofNat 0)), (.int .i64 (.ofNat 0)), (.int .i64 (.ofNat 0)), (.int .i64 (.ofNat 0)), (.int .i64 (.ofNat 0))] [])) H fun t52 H =>
 stK 5 H t4 t52 fun _ H =>
 ob (allM (fun o => o) [aLoad (.some 5) H t4, some (.bool false)]) fun vs => some (resV vs, H)) (pFa 4 t3 H fun t53 H =>
 ldK .none H t53 fun t54 H =>
 pO (aNil t6) H fun t56 H =>
 pFa 0 t56 H fun t57 H =>
 ldK .none H t57 fun t58 H =>
 pIa 7 t54 t58 H fun t59 H =>
 pFa 5 t59 H fun t60 H =>
 ldK .none H t60 fun t61 H =>
 pO (aNil t6) H fun t63 H =>
 pFa 1 t63 H fun t64 H =>
 ldK .none H t64 fun t65 H =>
 pIa 5 t61 t65 H fun t66 H =>
 ldK (.some 5) H t66 fun t67 H =>
 stK 5 H t4 t67 fun _ H =>
 ob (allM (fun o => o) [aLoad (.some 5) H t4, some (.bool true)]) fun vs => some (resV vs, H))
def S109_1 (call : CallFn) (t3 t4 t6 t35 t39 t49 : AV) (H : AHeap) : R :=
 guardA t35 false (pGeq t39 t49 H fun t50 H =>
 S109_0 call t3 t4 t6 t35 t50 H) (S109_0 call t3 t4 t6 t35 U H)
def S109_2 (call : CallFn) (t3 t4 t6 t35 t39 t48 : AV) (H : AHeap) : R :=
 guardA t35 false (pO (aLen .sl H t48) H fun t49 H =>
 S109_1 call t3 t4 t6 t35 t39 t49 H) (S109_1 call t3 t4 t6 t35 t39 U H)
def S109_3 (call : CallFn) (t3 t4 t6 t35 t39 t47 : AV) (H : AHeap) : R :=
 guardA t35 false (ldK .none H t47 fun t48 H =>
 S109_2 call t3 t4 t6 t35 t39 t48 H) (S109_2 call t3 t4 t6 t35 t39 U H)
def S109_4 (call : CallFn) (t3 t4 t6 t35 t39 t46 : AV) (H : AHeap) : R :=
 guardA t35 false (pFa 5 t46 H fun t47 H =>
 S109_3 call t3 t4 t6 t35 t39 t47 H) (S109_3 call t3 t4 t6 t35 t39 U H)
def S109_5 (call : CallFn) (t3 t4 t6 t35 t39 t41 t45 : AV) (H : AHeap) : R :=
 guardA t35 false (pIa 7 t41 t45 H fun t46 H =>
 S109_4 call t3 t4 t6 t35 t39 t46 H) (S109_4 call t3 t4 t6 t35 t39 U H)
def S109_6 (call : CallFn) (t3 t4 t6 t35 t39 t41 t44 : AV) (H : AHeap) : R :=
 guardA t35 false (ldK .none H t44 fun t45 H =>
 S109_5 call t3 t4 t6 t35 t39 t41 t45 H) (S109_5 call t3 t4 t6 t35 t39 t41 U H)
def S109_7 (call : CallFn) (t3 t4 t6 t35 t39 t41 t43 : AV) (H : AHeap) : R :=
 guardA t35 false (pFa 0 t43 H fun t44 H =>
 S109_6 call t3 t4 t6 t35 t39 t41 t44 H) (S109_6 call t3 t4 t6 t35 t39 t41 U H)
def S109_8 (call : CallFn) (t3 t4 t6 t35 t39 t41 t42 : AV) (H : AHeap) : R :=
 guardA t35 false (pO (aNil t42) H fun t43 H =>
 S109_7 call t3 t4 t6 t35 t39 t41 t43 H) (S109_7 call t3 t4 t6 t35 t39 t41 U H)
def S109_9 (call : CallFn) (t3 t4 t6 t35 t39 t41 : AV) (H : AHeap) : R :=
 guardA t35 false (S109_8 call t3 t4 t6 t35 t39 t41 t6 H) (S109_8 call t3 t4 t6 t35 t39 t41 U H)
def S109_10 (call : CallFn) (t3 t4 t6 t35 t39 t40 : AV) (H : AHeap) : R :=
 guardA t35 false (ldK .none H t40 fun t41 H =>
 S109_9 call t3 t4 t6 t35 t39 t41 H) (S109_9 call t3 t4 t6 t35 t39 U H)
def S109_11 (call : CallFn) (t3 t4 t6 t35 t39 : AV) (H : AHeap) : R :=
 guardA t35 false (pFa 4 t3 H fun t40 H =>
 S109_10 call t3 t4 t6 t35 t39 t40 H) (S109_10 call t3 t4 t6 t35 t39 U H)
def S109_12 (call : CallFn) (t3 t4 t6 t35 t38 : AV) (H : AHeap) : R :=
 guardA t35 false (ldK .none H t38 fun t39 H =>
 S109_11 call t3 t4 t6 t35 t39 H) (S109_11 call t3 t4 t6 t35 U H)
def S109_13 (call : CallFn) (t3 t4 t6 t35 t37 : AV) (H : AHeap) : R :=
 guardA t35 false (pFa 1 t37 H fun t38 H =>
 S109_12 call t3 t4 t6 t35 t38 H) (S109_12 call t3 t4 t6 t35 U H)
def S109_14 (call : CallFn) (t3 t4 t6 t35 t36 : AV) (H : AHeap) : R :=
 guardA t35 false (pO (aNil t36) H fun t37 H =>
 S109_13 call t3 t4 t6 t35 t37 H) (S109_13 call t3 t4 t6 t35 U H)
def S109_15 (call : CallFn) (t3 t4 t6 t28 t33 : AV) (H : AHeap) : R :=
 pPick t28 (.bool true) t33 H fun t34 H =>
 guardA t34 false (S109_14 call t3 t4 t6 t34 t6 H) (S109_14 call t3 t4 t6 t34 U H)
def S109_16 (call : CallFn) (t3 t4 t6 t28 t32 : AV) (H : AHeap) : R :=
 guardA t28 false (pLss t32 (.int .i64 (.ofNat 0)) H fun t33 H =>
 S109_15 call t3 t4 t6 t28 t33 H) (S109_15 call t3 t4 t6 t28 U H)
def S109_17 (call : CallFn) (t3 t4 t6 t28 t31 : AV) (H : AHeap) : R :=
 guardA t28 false (ldK .none H t31 fun t32 H =>
 S109_16 call t3 t4 t6 t28 t32 H) (S109_16 call t3 t4 t6 t28 U H)
def S109_18 (call : CallFn) (t3 t4 t6 t28 t30 : AV) (H : AHeap) : R :=
 guardA t28 false (pFa 1 t30 H fun t31 H =>
 S109_17 call t3 t4 t6 t28 t31 H) (S109_17 call t3 t4 t6 t28 U H)
def S109_19 (call : CallFn) (t3 t4 t6 t28 t29 : AV) (H : AHeap) : R :=
 guardA t28 false (pO (aNil t29) H fun t30 H =>
 S109_18 call t3 t4 t6 t28 t30 H) (S109_18 call t3 t4 t6 t28 U H)
def S109_20 (call : CallFn) (t3 t4 t6 t18 t26 : AV) (H : AHeap) : R :=
 pPick t18 (.bool true) t26 H fun t27 H =>
 guardA t27 false (S109_19 call t3 t4 t6 t27 t6 H) (S109_19 call t3 t4 t6 t27 U H)
def S109_21 (call : CallFn) (t3 t4 t6 t18 t22 t25 : AV) (H : AHeap) : R :=
 guardA t18 false (pGeq t22 t25 H fun t26 H =>
 S109_20 call t3 t4 t6 t18 t26 H) (S109_20 call t3 t4 t6 t18 U H)
def S109_22 (call : CallFn) (t3 t4 t6 t18 t22 t24 : AV) (H : AHeap) : R :=
 guardA t18 false (pO (aLen .sl H t24) H fun t25 H =>
 S109_21 call t3 t4 t6 t18 t22 t25 H) (S109_21 call t3 t4 t6 t18 t22 U H)
def S109_23 (call : CallFn) (t3 t4 t6 t18 t22 t23 : AV) (H : AHeap) : R :=
 guardA t18 false (ldK .none H t23 fun t24 H =>
 S109_22 call t3 t4 t6 t18 t22 t24 H) (S109_22 call t3 t4 t6 t18 t22 U H)
def S109_24 (call : CallFn) (t3 t4 t6 t18 t22 : AV) (H : AHeap) : R :=
 guardA t18 false (pFa 4 t3 H fun t23 H =>
 S109_23 call t3 t4 t6 t18 t22 t23 H) (S109_23 call t3 t4 t6 t18 t22 U H)
def S109_25 (call : CallFn) (t3 t4 t6 t18 t21 : AV) (H : AHeap) : R :=
 guardA t18 false (ldK .none H t21 fun t22 H =>
 S109_24 call t3 t4 t6 t18 t22 H) (S109_24 call t3 t4 t6 t18 U H)
def S109_26 (call : CallFn) (t3 t4 t6 t18 t20 : AV) (H : AHeap) : R :=
 guardA t18 false (pFa 0 t20 H fun t21 H =>
 S109_25 call t3 t4 t6 t18 t21 H) (S109_25 call t3 t4 t6 t18 U H)
def S109_27 (call : CallFn) (t3 t4 t6 t18 t19 : AV) (H : AHeap) : R :=
 guardA t18 false (pO (aNil t19) H fun t20 H =>
 S109_26 call t3 t4 t6 t18 t20 H) (S109_26 call t3 t4 t6 t18 U H)
def S109_28 (call : CallFn) (t3 t4 t6 t11 t16 : AV) (H : AHeap) : R :=
 pPick t11 (.bool true) t16 H fun t17 H =>
 guardA t17 false (S109_27 call t3 t4 t6 t17 t6 H) (S109_27 call t3 t4 t6 t17 U H)
def S109_29 (call : CallFn) (t3 t4 t6 t11 t15 : AV) (H : AHeap) : R :=
 guardA t11 false (pLss t15 (.int .i64 (.ofNat 0)) H fun t16 H =>
 S109_28 call t3 t4 t6 t11 t16 H) (S109_28 call t3 t4 t6 t11 U H)
def S109_30 (call : CallFn) (t3 t4 t6 t11 t14 : AV) (H : AHeap) : R :=
 guardA t11 false (ldK .none H t14 fun t15 H =>
 S109_29 call t3 t4 t6 t11 t15 H) (S109_29 call t3 t4 t6 t11 U H)
def S109_31 (call : CallFn) (t3 t4 t6 t11 t13 : AV) (H : AHeap) : R :=
 guardA t11 false (pFa 0 t13 H fun t14 H =>
 S109_30 call t3 t4 t6 t11 t14 H) (S109_30 call t3 t4 t6 t11 U H)
def S109_32 (call : CallFn) (t3 t4 t6 t11 t12 : AV) (H : AHeap) : R :=
 guardA t11 false (pO (aNil t12) H fun t13 H =>
 S109_31 call t3 t4 t6 t11 t13 H) (S109_31 call t3 t4 t6 t11 U H)
def S109_33 (call : CallFn) (t0 t1 : AV) (H : AHeap) : R :=
 pBox t1 H fun t3 H =>
 pNew [(.int .i64 (.ofNat 0)), (.int .i64 (.ofNat 0)), (.int .i64 (.ofNat 0)), (.int .i64 (.ofNat 0)), (.int .i64 (.ofNat 0))] H fun t4 H =>
 pC call n170 [t0] H fun t8 H =>
 pO (aEq false .ptr t8 .nilp) H fun t10 H =>
 guardA t10 false (S109_32 call t3 t4 t8 t10 t8 H) (S109_32 call t3 t4 t8 t10 U H)
def S109 : Ff := ⟨fun call l H => argA2 (fun t0 t1 => S109_33 call t0 t1 H) l⟩
def S110_0 (call : CallFn) (t0 : AV) (H : AHeap) : R :=
 pNew [(.int .i64 (.ofNat 0)), (.int .i64 (.ofNat 0)), .nilsl] H fun t2 H =>
 pC call n170 [t0] H fun t6 H =>
 pO (aEq false .ptr t6 .nilp) H fun t8 H =>
 onBool t8 (pO (someAgg (aFill [(.int .i64 (.ofNat 0)), (.int .i64 (.ofNat 0)), .nilsl] [])) H fun t9 H =>
 stK 3 H t2 t9 fun _ H =>
 ob (allM (fun o => o) [aLoad (.some 3) H t2, some (.bool false)]) fun vs => some (resV vs, H)) (pO (aNil t6) H fun t11 H =>
 ldK (.some 3) H t11 fun t12 H =>
 pC call n171 [t12] H fun t13 H =>
 stK 3 H t2 t13 fun _ H =>
 ob (allM (fun o => o) [aLoad (.some 3) H t2, some (.bool true)]) fun vs => some (resV vs, H))
def S110 : Ff := ⟨fun call l H => argA1 (fun t0 => S110_0 call t0 H) l⟩
def S111_0 (_ : CallFn) (t15 t21 : AV) (H : AHeap) : R :=
 pPick t15 (.bool true) t21 H fun t22 H =>
 some (t22, H)
def S111_1 (call : CallFn) (t15 t18 t20 : AV) (H : AHeap) : R :=
 guardA t15 false (pPick t18 t20 (.bool false) H fun t21 H =>
 S111_0 call t15 t21 H) (S111_0 call t15 U H)
def S111_2 (call : CallFn) (t1 t15 t18 : AV) (H : AHeap) : R :=
 guardA t18 true (pEql t1 (.int .i64 (.ofNat 1)) H fun t20 H =>
 S111_1 call t15 t18 t20 H) (S111_1 call t15 t18 U H)
def S111_3 (call : CallFn) (t0 t1 t11 t13 : AV) (H : AHeap) : R :=
 pPick t11 t13 (.bool false) H fun t14 H =>
 guardA t14 false (pEql t0 (.int .i64 (.ofNat 22)) H fun t17 H =>
 S111_2 call t1 t14 t17 H) (S111_2 call t1 t14 U H)
def S111_4 (call : CallFn) (t0 t1 t7 t9 : AV) (H : AHeap) : R :=
 pPick t7 t9 (.bool false) H fun t10 H =>
 guardA t10 true (pNeq t0 (.int .i64 (.ofNat 36)) H fun t13 H =>
 S111_3 call t0 t1 t10 t13 H) (S111_3 call t0 t1 t10 U H)
def S111_5 (call : CallFn) (t0 t1 : AV) (H : AHeap) : R :=
 pGeq t0 (.int .i64 (.ofNat 23)) H fun t6 H =>
 guardA t6 true (pLeq t0 (.int .i64 (.ofNat 42)) H fun t9 H =>
 S111_4 call t0 t1 t6 t9 H) (S111_4 call t0 t1 t6 U H)
def S111 : Ff := ⟨fun call l H => argA2 (fun t0 t1 => S111_5 call t0 t1 H) l⟩
def S112_0 (_ : CallFn) (t0 : AV) (H : AHeap) : R :=
 pO (aNil t0) H fun t4 H =>
 pFa 0 t4 H fun t5 H =>
 ldK .none H t5 fun t6 H =>
 pO (aLen .sl H t6) H fun t7 H =>
 some (t7, H)
def S112 : Ff := ⟨fun call l H => argA1 (fun t0 => S112_0 call t0 H) l⟩
def S113_0 (call : CallFn) (t0 : AV) (H : AHeap) : R :=
 pC call n177 [t0] H fun _ H =>
 some (.tup [], H)
def S113_1 (call : CallFn) (t0 t2 t35 t37 : AV) (H : AHeap) : R :=
 pPick t35 (.bool true) t37 H fun t38 H =>
 onBool t38 (pC call n174 [t0] H fun _ H =>
 some (.tup [], H)) (pLeq t2 (.int .i64 (.ofNat 35)) H fun t43 H =>
 onBool t43 (pC call n175 [t0] H fun _ H =>
 some (.tup [], H)) (pEql t2 (.int .i64 (.ofNat 42)) H fun t48 H =>
 onBool t48 (pO (aNil t0) H fun t50 H =>
 pFa 0 t50 H fun t51 H =>
 ldK .none H t51 fun t52 H =>
 pO (aNil t52) H fun t53 H =>
 pFa 9 t53 H fun t54 H =>
 ldK .none H t54 fun t55 H =>
 pO (aLen .sl H t55) H fun t56 H =>
 pLss t56 (.int .i64 (.ofNat 65536)) H fun t57 H =>
 onBool t57 (pO (aNil t0) H fun t59 H =>
 pFa 0 t59 H fun t60 H =>
 ldK .none H t60 fun t61 H =>
 pO (aNil t0) H fun t63 H =>
 pFa 0 t63 H fun t64 H =>
 ldK .none H t64 fun t65 H =>
 pO (aNil t65) H fun t66 H =>
 pFa 9 t66 H fun t67 H =>
 ldK .none H t67 fun t68 H =>
 pO (aNil t0) H fun t70 H =>
 pFa 2 t70 H fun t71 H =>
 ldK .none H t71 fun t72 H =>
 pO (aNil t0) H fun t74 H =>
 pFa 3 t74 H fun t75 H =>
 pFa 1 t75 H fun t76 H =>
 ldK .none H t76 fun t77 H =>
 pC call n176 [t72, t77] H fun t78 H =>
 andR (andB (ckV (aLoad .none H t60) t61) (andB (ckV (aLoad .none H t64) t65) (andB (ckV (aLoad .none H t67) t68) true))) (
 pN (aBsl 1 1 [(.int .i64 (.ofNat 0))] [(0, 1, t78)]) H fun t79 H =>
 pW (aApp 1 8 H t68 t79) fun t80 H =>
 andR (andB (ckV (aLoad .none H t60) t61) true) (
 pO (aNil t61) H fun t81 H =>
 pFa 9 t81 H fun t82 H =>
 stK 1 H t82 t80 fun _ H =>
 S113_0 call t0 H))) (S113_0 call t0 H)) (pEql t2 (.int .i64 (.ofNat 44)) H fun t87 H =>
 onBool t87 (pO (aNil t0) H fun t89 H =>
 pFa 0 t89 H fun t90 H =>
 ldK .none H t90 fun t91 H =>
 pO (aNil t0) H fun t93 H =>
 pFa 3 t93 H fun t94 H =>
 pFa 1 t94 H fun t95 H =>
 ldK .none H t95 fun t96 H =>
 pC call n178 [t91, t96] H fun _ H =>
 some (.tup [], H)) (pC call n179 [t0] H fun _ H =>
 some (.tup [], H)))))
def S113_2 (call : CallFn) (t0 t2 t31 t33 : AV) (H : AHeap) : R :=
 pPick t31 (.bool true) t33 H fun t34 H =>
 guardA t34 false (pEql t2 (.int .i64 (.ofNat 37)) H fun t37 H =>
 S113_1 call t0 t2 t34 t37 H) (S113_1 call t0 t2 t34 U H)
def S113_3 (call : CallFn) (t0 t2 t27 t29 : AV) (H : AHeap) : R :=
 pPick t27 (.bool true) t29 H fun t30 H =>
 guardA t30 false (pEql t2 (.int .i64 (.ofNat 36)) H fun t33 H =>
 S113_2 call t0 t2 t30 t33 H) (S113_2 call t0 t2 t30 U H)
def S113_4 (call : CallFn) (t0 t2 t13 t15 : AV) (H : AHeap) : R :=
 pPick t13 (.bool true) t15 H fun t16 H =>
 onBool t16 (pC call n172 [t0] H fun _ H =>
 some (.tup [], H)) (pLeq t2 (.int .i64 (.ofNat 24)) H fun t21 H =>
 onBool t21 (pC call n173 [t0] H fun _ H =>
 some (.tup [], H)) (pEql t2 (.int .i64 (.ofNat 25)) H fun t26 H =>
 guardA t26 false (pEql t2 (.int .i64 (.ofNat 26)) H fun t29 H =>
 S113_3 call t0 t2 t26 t29 H) (S113_3 call t0 t2 t26 U H)))
def S113_5 (call : CallFn) (t0 : AV) (H : AHeap) : R :=
 pO (aNil t0) H fun t4 H =>
 pFa 3 t4 H fun t5 H =>
 pFa 0 t5 H fun t6 H =>
 ldK .none H t6 fun t7 H =>
 pLeq t7 (.int .i64 (.ofNat 19)) H fun t12 H =>
 guardA t12 false (pEql t7 (.int .i64 (.ofNat 43)) H fun t15 H =>
 S113_4 call t0 t7 t12 t15 H) (S113_4 call t0 t7 t12 U H)
def S113 : Ff := ⟨fun call l H => argA1 (fun t0 => S113_5 call t0 H) l⟩
def S114_0 (_ : CallFn) (t0 : AV) (H : AHeap) : R :=
 pO (aEq false .sl t0 .nilsl) H fun t4 H =>
 onBool t4 (some (.nilsl, H)) (pN (aBsl 7 0 [(.int .i64 (.ofNat 0)), (.int .i64 (.ofNat 0)), (.int .i64 (.ofNat 0)), (.int .i64 (.ofNat 0)), (.int .i64 (.ofNat 0)), (.int .i64 (.ofNat 0)), (.int .i64 (.ofNat 0))] []) H fun t5 H =>
 pW (aApp 7 56 H t5 t0) fun t7 H =>
 some (t7, H))
def S114 : Ff := ⟨fun call l H => argA1 (fun t0 => S114_0 call t0 H) l⟩
def S117_0 (call : CallFn) (t0 t1 : AV) (H : AHeap) : R :=
 pC call n185 [t0, t1] H fun t7 H =>
 pGeq t7 (.int .i64 (.ofNat 0)) H fun t8 H =>
 some (t8, H)
def S117 : Ff := ⟨fun call l H => argA2 (fun t0 t1 => S117_0 call t0 t1 H) l⟩
def S118_0 (call : CallFn) (t0 t1 : AV) (H : AHeap) : R :=
 pEql t1 (iN 4) H fun t7 H =>
 onBool t7 (pC call n186 [t0] H fun t9 H =>
 some (t9, H)) (pEql t1 (iN 5) H fun t11 H =>
 onBool t11 (pC call n187 [t0] H fun t13 H =>
 some (t13, H)) (pEql t1 (iN 6) H fun t15 H =>
 onBool t15 (pC call n188 [t0] H fun t17 H =>
 some (t17, H)) (pEql t1 (iN 7) H fun t19 H =>
 onBool t19 (pC call n189 [t0] H fun t21 H =>
 some (t21, H)) (pEql t1 (iN 8) H fun t23 H =>
 onBool t23 (pC call n190 [t0] H fun t25 H =>
 some (t25, H)) (pEql t1 (iN 9) H fun t27 H =>
 onBool t27 (pO (aNil t0) H fun t29 H =>
 pFa 6 t29 H fun t30 H =>
 pFa 6 t30 H fun t31 H =>
 ldK .none H t31 fun t32 H =>
 pO (aNil t0) H fun t34 H =>
 pFa 16 t34 H fun t35 H =>
 ldK .none H t35 fun t36 H =>
 pIa 1 t32 t36 H fun t37 H =>
 ldK .none H t37 fun t38 H =>
 pO (aNil t0) H fun t40 H =>
 pFa 13 t40 H fun t41 H =>
 ldK .none H t41 fun t42 H =>
 pO (aNil t0) H fun t44 H =>
 pFa 16 t44 H fun t45 H =>
 ldK .none H t45 fun t46 H =>
 pIa 1 t42 t46 H fun t47 H =>
 ldK .none H t47 fun t48 H =>
 pEql t38 t48 H fun t49 H =>
 some (t49, H)) (pC call n191 [t0] H fun t51 H =>
 some (t51, H)))))))
def S118 : Ff := ⟨fun call l H => argA2 (fun t0 t1 => S118_0 call t0 t1 H) l⟩
def S119_0 (call : CallFn) (t0 t1 : AV) (H : AHeap) : R :=
 pC call n192 [t0, t1] H fun t7 H =>
 some (t7, H)
def S119 : Ff := ⟨fun call l H => argA2 (fun t0 t1 => S119_0 call t0 t1 H) l⟩
def S120_1 (_ : CallFn) (q0 : AV → AV → AV → AHeap → R) (t0 t1 t5 t10 t15 : AV) (H : AHeap) : R :=
 pPick t10 t15 (.bool false) H fun t16 H =>
 onBool t16 (pAdd t5 (iN 1) H fun t18 H =>
 q0 t0 t1 t18 H) (some (t5, H))
def S120_0 (call : CallFn) (n : Nat) : AV → AV → AV → AHeap → R :=
 Nat.rec (motive := fun _ => AV → AV → AV → AHeap → R) (fun _ _ _ _ => none) (fun _ q0 t0 t1 t5 H => pO (aLen .str H t0) H fun t8 H =>
 pLss t5 t8 H fun t9 H =>
 guardA t9 true (pO (aIdxS t0 t5) H fun t14 H =>
 pV call t1 [t14] H fun t15 H =>
 S120_1 call q0 t0 t1 t5 t9 t15 H) (S120_1 call q0 t0 t1 t5 t9 U H)) n
def S120 : Ff := ⟨fun call l H => argA2 (fun t0 t1 => S120_0 call 1000000 t0 t1 (iN 0) H) l⟩
def S122_0 (_ : CallFn) (t17 t19 : AV) (H : AHeap) : R :=
 pPick t17 (.bool true) t19 H fun t20 H =>
 some (t20, H)
def S122_1 (call : CallFn) (t0 t9 t15 : AV) (H : AHeap) : R :=
 pPick t9 (.bool true) t15 H fun t16 H =>
 guardA t16 false (pEql t0 (.int .u8 (.ofNat 95)) H fun t19 H =>
 S122_0 call t16 t19 H) (S122_0 call t16 U H)
def S122_2 (call : CallFn) (t0 t9 t12 t14 : AV) (H : AHeap) : R :=
 guardA t9 false (pPick t12 t14 (.bool false) H fun t15 H =>
 S122_1 call t0 t9 t15 H) (S122_1 call t0 t9 U H)
def S122_3 (call : CallFn) (t0 t9 t12 : AV) (H : AHeap) : R :=
 guardA t12 true (pLeq t0 (.int .u8 (.ofNat 90)) H fun t14 H =>
 S122_2 call t0 t9 t12 t14 H) (S122_2 call t0 t9 t12 U H)
def S122_4 (call : CallFn) (t0 t5 t7 : AV) (H : AHeap) : R :=
 pPick t5 t7 (.bool false) H fun t8 H =>
 guardA t8 false (pGeq t0 (.int .u8 (.ofNat 65)) H fun t11 H =>
 S122_3 call t0 t8 t11 H) (S122_3 call t0 t8 U H)
def S122_5 (call : CallFn) (t0 : AV) (H : AHeap) : R :=
 pGeq t0 (.int .u8 (.ofNat 97)) H fun t4 H =>
 guardA t4 true (pLeq t0 (.int .u8 (.ofNat 122)) H fun t7 H =>
 S122_4 call t0 t4 t7 H) (S122_4 call t0 t4 U H)
def S122 : Ff := ⟨fun call l H => argA1 (fun t0 => S122_5 call t0 H) l⟩
def S123_0 (_ : CallFn) (t5 t7 : AV) (H : AHeap) : R :=
 pPick t5 (.bool true) t7 H fun t8 H =>
 some (t8, H)
def S123_1 (call : CallFn) (t0 : AV) (H : AHeap) : R :=
 pC call n122 [t0] H fun t4 H =>
 guardA t4 false (pC call n125 [t0] H fun t7 H =>
 S123_0 call t4 t7 H) (S123_0 call t4 U H)
def S123 : Ff := ⟨fun call l H => argA1 (fun t0 => S123_1 call t0 H) l⟩
def S124_0 (_ : CallFn) (t4 : AV) (H : AHeap) : R :=
 onBool t4 (some ((.bool true), H)) (some ((.bool false), H))
def S124_1 (call : CallFn) (t0 : AV) (H : AHeap) : R :=
 pEql t0 (.str [115, 116, 114, 117, 99, 116]) H fun t5 H =>
 onBool t5 (S124_0 call t5 H) (pEql t0 (.str [118, 97, 114]) H fun t6 H =>
 onBool t6 (S124_0 call t6 H) (pEql t0 (.str [102, 117, 110, 99]) H fun t7 H =>
 onBool t7 (S124_0 call t7 H) (pEql t0 (.str [105, 110, 116]) H fun t8 H =>
 onBool t8 (S124_0 call t8 H) (pEql t0 (.str [98, 111, 111, 108]) H fun t9 H =>
 onBool t9 (S124_0 call t9 H) (pEql t0 (.str [99, 104, 97, 110]) H fun t10 H =>
 onBool t10 (S124_0 call t10 H) (pEql t0 (.str [105, 102]) H fun t11 H =>
 onBool t11 (S124_0 call t11 H) (pEql t0 (.str [101, 108, 115, 101]) H fun t12 H =>
 onBool t12 (S124_0 call t12 H) (pEql t0 (.str [119, 104, 105, 108, 101]) H fun t13 H =>
 onBool t13 (S124_0 call t13 H) (pEql t0 (.str [114, 101, 116, 117, 114, 110]) H fun t14 H =>
 onBool t14 (S124_0 call t14 H) (pEql t0 (.str [112, 114, 105, 110, 116]) H fun t15 H =>
 onBool t15 (S124_0 call t15 H) (pEql t0 (.str [103, 111]) H fun t16 H =>
 onBool t16 (S124_0 call t16 H) (pEql t0 (.str [115, 101, 110, 100]) H fun t17 H =>
 onBool t17 (S124_0 call t17 H) (pEql t0 (.str [99, 108, 111, 115, 101]) H fun t18 H =>
 onBool t18 (S124_0 call t18 H) (pEql t0 (.str [115, 101, 108, 101, 99, 116]) H fun t19 H =>
 onBool t19 (S124_0 call t19 H) (pEql t0 (.str [99, 97, 115, 101]) H fun t20 H =>
 onBool t20 (S124_0 call t20 H) (pEql t0 (.str [100, 101, 102, 97, 117, 108, 116]) H fun t21 H =>
 onBool t21 (S124_0 call t21 H) (pEql t0 (.str [114, 101, 99, 118]) H fun t22 H =>
 onBool t22 (S124_0 call t22 H) (pEql t0 (.str [116, 114, 117, 101]) H fun t23 H =>
 onBool t23 (S124_0 call t23 H) (pEql t0 (.str [102, 97, 108, 115, 101]) H fun t24 H =>
 onBool t24 (S124_0 call t24 H) (pEql t0 (.str [110, 105, 108]) H fun t25 H =>
 onBool t25 (S124_0 call t25 H) (pEql t0 (.str [110, 101, 119]) H fun t26 H =>
 onBool t26 (S124_0 call t26 H) (pEql t0 (.str [109, 97, 107, 101]) H fun t27 H =>
 onBool t27 (S124_0 call t27 H) (pEql t0 (.str [108, 101, 110]) H fun t28 H =>
 S124_0 call t28 H)))))))))))))))))))))))
def S124 : Ff := ⟨fun call l H => argA1 (fun t0 => S124_1 call t0 H) l⟩
def S125_0 (_ : CallFn) (t5 t7 : AV) (H : AHeap) : R :=
 pPick t5 t7 (.bool false) H fun t8 H =>
 some (t8, H)
def S125_1 (call : CallFn) (t0 : AV) (H : AHeap) : R :=
 pGeq t0 (.int .u8 (.ofNat 48)) H fun t4 H =>
 guardA t4 true (pLeq t0 (.int .u8 (.ofNat 57)) H fun t7 H =>
 S125_0 call t4 t7 H) (S125_0 call t4 U H)
def S125 : Ff := ⟨fun call l H => argA1 (fun t0 => S125_1 call t0 H) l⟩
def S127_0 (_ : CallFn) (H : AHeap) : R :=
 pN (aBsl 1 30 [(.str [])] [(0, 1, (.str [61, 61])), (1, 1, (.str [33, 61])), (2, 1, (.str [60, 61])), (3, 1, (.str [62, 61])), (4, 1, (.str [60, 60])), (5, 1, (.str [62, 62])), (6, 1, (.str [38, 38])), (7, 1, (.str [124, 124])), (8, 1, (.str [40])), (9, 1, (.str [41])), (10, 1, (.str [123])), (11, 1, (.str [125])), (12, 1, (.str [91])), (13, 1, (.str [93])), (14, 1, (.str [44])), (15, 1, (.str [59])), (16, 1, (.str [46])), (17, 1, (.str [61])), (18, 1, (.str [60])), (19, 1, (.str [62])), (20, 1, (.str [43])), (21, 1, (.str [45])), (22, 1, (.str [42])), (23, 1, (.str [47])), (24, 1, (.str [37])), (25, 1, (.str [38])), (26, 1, (.str [124])), (27, 1, (.str [94])), (28, 1, (.str [33])), (29, 1, (.str [58]))]) H fun t1 H =>
 some (t1, H)
def S127 : Ff := ⟨fun call l H => argA0 (S127_0 call H) l⟩
def S128_0 (call : CallFn) (t0 t1 : AV) (H : AHeap) : R :=
 pN (aBsl 1 1 [(.str [])] [(0, 1, t1)]) H fun t7 H =>
 pC call n131 [t0, t7] H fun t8 H =>
 pO (aUn .not t8) H fun t9 H =>
 onBool t9 (some ((.bool false), H)) (pC call n195 [t0] H fun _ H =>
 some ((.bool true), H))
def S128 : Ff := ⟨fun call l H => argA2 (fun t0 t1 => S128_0 call t0 t1 H) l⟩
def S130_0 (call : CallFn) (t0 t1 : AV) (H : AHeap) : R :=
 pNew [(iN 0), (.str []), (iN 0)] H fun t4 H =>
 pN (aBsl 1 1 [(.str [])] [(0, 1, t1)]) H fun t7 H =>
 pC call n131 [t0, t7] H fun t8 H =>
 pO (aUn .not t8) H fun t9 H =>
 onBool t9 (pC call n134 [t0, (iN 6)] H fun _ H =>
 pO (someAgg (aFill [(iN 0), (.str []), (iN 0)] [])) H fun t12 H =>
 stK 3 H t4 t12 fun _ H =>
 ob (allM (fun o => o) [aLoad (.some 3) H t4]) fun vs => some (resV vs, H)) (pC call n195 [t0] H fun t14 H =>
 stK 3 H t4 t14 fun _ H =>
 ob (allM (fun o => o) [aLoad (.some 3) H t4]) fun vs => some (resV vs, H))
def S130 : Ff := ⟨fun call l H => argA2 (fun t0 t1 => S130_0 call t0 t1 H) l⟩
def S131_0 (_ : CallFn) (t21 t25 : AV) (H : AHeap) : R :=
 pPick t21 t25 (.bool false) H fun t26 H =>
 some (t26, H)
def S131_1 (call : CallFn) (t1 t5 t16 t19 : AV) (H : AHeap) : R :=
 pPick t16 t19 (.bool false) H fun t20 H =>
 guardA t20 true (pFa 1 t5 H fun t23 H =>
 ldK .none H t23 fun t24 H =>
 pC call n196 [t1, t24] H fun t25 H =>
 S131_0 call t20 t25 H) (S131_0 call t20 U H)
def S131_2 (call : CallFn) (t1 t5 t11 t14 : AV) (H : AHeap) : R :=
 pPick t11 t14 (.bool false) H fun t15 H =>
 guardA t15 true (pFa 0 t5 H fun t17 H =>
 ldK .none H t17 fun t18 H =>
 pNeq t18 (iN 0) H fun t19 H =>
 S131_1 call t1 t5 t15 t19 H) (S131_1 call t1 t5 t15 U H)
def S131_3 (call : CallFn) (t0 t1 : AV) (H : AHeap) : R :=
 pC call n67 [t0] H fun t7 H =>
 pNew [(iN 0), (.str []), (iN 0)] H fun t5 H =>
 stK 3 H t5 t7 fun _ H =>
 pFa 0 t5 H fun t8 H =>
 ldK .none H t8 fun t9 H =>
 pNeq t9 (iN 1) H fun t10 H =>
 guardA t10 true (pFa 0 t5 H fun t12 H =>
 ldK .none H t12 fun t13 H =>
 pNeq t13 (iN 3) H fun t14 H =>
 S131_2 call t1 t5 t10 t14 H) (S131_2 call t1 t5 t10 U H)
def S131 : Ff := ⟨fun call l H => argA2 (fun t0 t1 => S131_3 call t0 t1 H) l⟩
end
noncomputable section
set_option maxRecDepth 100000
def S135_0 (_ : CallFn) (t2 t4 t71 : AV) (H : AHeap) : R :=
 onBool t71 (pN (aBsl 1 1 [(.str [])] [(0, 1, (.str [97, 110, 32, 101, 120, 112, 114, 101, 115, 115, 105, 111, 110]))]) H fun t79 H =>
 pO (someAgg (aFill [.nilsl, (.str [])] [(0, 1, t79)])) H fun t80 H =>
 stK 2 H t2 t80 fun _ H =>
 ob (allM (fun o => o) [aLoad (.some 2) H t2, some (.bool true)]) fun vs => some (resV vs, H)) (pEql t4 (.str [103, 111]) H fun t82 H =>
 onBool t82 (pN (aBsl 1 1 [(.str [])] [(0, 1, (.str [99, 97, 108, 108]))]) H fun t83 H =>
 pO (someAgg (aFill [.nilsl, (.str [])] [(0, 1, t83)])) H fun t84 H =>
 stK 2 H t2 t84 fun _ H =>
 ob (allM (fun o => o) [aLoad (.some 2) H t2, some (.bool true)]) fun vs => some (resV vs, H)) (pEql t4 (.str [115, 101, 108, 101, 99, 116]) H fun t86 H =>
 onBool t86 (pO (someAgg (aFill [.nilsl, (.str [])] [(1, 1, (.str [97, 32, 99, 97, 115, 101]))])) H fun t87 H =>
 stK 2 H t2 t87 fun _ H =>
 ob (allM (fun o => o) [aLoad (.some 2) H t2, some (.bool true)]) fun vs => some (resV vs, H)) (pEql t4 (.str [111, 110, 115, 101, 110, 100]) H fun t89 H =>
 onBool t89 (pN (aBsl 1 3 [(.str [])] [(0, 1, (.str [97, 110, 32, 101, 120, 112, 114, 101, 115, 115, 105, 111, 110])), (1, 1, (.str [97, 110, 32, 101, 120, 112, 114, 101, 115, 115, 105, 111, 110])), (2, 1, (.str [98, 108, 111, 99, 107]))]) H fun t90 H =>
 pO (someAgg (aFill [.nilsl, (.str [])] [(0, 1, t90)])) H fun t91 H =>
 stK 2 H t2 t91 fun _ H =>
 ob (allM (fun o => o) [aLoad (.some 2) H t2, some (.bool true)]) fun vs => some (resV vs, H)) (pEql t4 (.str [100, 101, 102, 97, 117, 108, 116]) H fun t93 H =>
 onBool t93 (pN (aBsl 1 1 [(.str [])] [(0, 1, (.str [98, 108, 111, 99, 107]))]) H fun t94 H =>
 pO (someAgg (aFill [.nilsl, (.str [])] [(0, 1, t94)])) H fun t95 H =>
 stK 2 H t2 t95 fun _ H =>
 ob (allM (fun o => o) [aLoad (.some 2) H t2, some (.bool true)]) fun vs => some (resV vs, H)) (pEql t4 (.str [99, 97, 108, 108]) H fun t97 H =>
 onBool t97 (pN (aBsl 1 1 [(.str [])] [(0, 1, (.str [97, 110, 32, 101, 120, 112, 114, 101, 115, 115, 105, 111, 110]))]) H fun t98 H =>
 pO (someAgg (aFill [.nilsl, (.str [])] [(0, 1, t98), (1, 1, (.str [97, 110, 32, 101, 120, 112, 114, 101, 115, 115, 105, 111, 110]))])) H fun t99 H =>
 stK 2 H t2 t99 fun _ H =>
 ob (allM (fun o => o) [aLoad (.some 2) H t2, some (.bool true)]) fun vs => some (resV vs, H)) (pO (someAgg (aFill [.nilsl, (.str [])] [])) H fun t100 H =>
 stK 2 H t2 t100 fun _ H =>
 ob (allM (fun o => o) [aLoad (.some 2) H t2, some (.bool false)]) fun vs => some (resV vs, H)))))))
def S135_1 (call : CallFn) (t2 t4 t62 : AV) (H : AHeap) : R :=
 onBool t62 (pN (aBsl 1 2 [(.str [])] [(0, 1, (.str [97, 110, 32, 101, 120, 112, 114, 101, 115, 115, 105, 111, 110])), (1, 1, (.str [98, 108, 111, 99, 107]))]) H fun t65 H =>
 pO (someAgg (aFill [.nilsl, (.str [])] [(0, 1, t65)])) H fun t66 H =>
 stK 2 H t2 t66 fun _ H =>
 ob (allM (fun o => o) [aLoad (.some 2) H t2, some (.bool true)]) fun vs => some (resV vs, H)) (pEql t4 (.str [114, 101, 116, 117, 114, 110]) H fun t68 H =>
 onBool t68 (pN (aBsl 1 1 [(.str [])] [(0, 1, (.str [63, 97, 110, 32, 101, 120, 112, 114, 101, 115, 115, 105, 111, 110]))]) H fun t69 H =>
 pO (someAgg (aFill [.nilsl, (.str [])] [(0, 1, t69)])) H fun t70 H =>
 stK 2 H t2 t70 fun _ H =>
 ob (allM (fun o => o) [aLoad (.some 2) H t2, some (.bool true)]) fun vs => some (resV vs, H)) (pEql t4 (.str [112, 114, 105, 110, 116]) H fun t72 H =>
 onBool t72 (S135_0 call t2 t4 t72 H) (pEql t4 (.str [99, 108, 111, 115, 101]) H fun t73 H =>
 onBool t73 (S135_0 call t2 t4 t73 H) (pEql t4 (.str [100, 111]) H fun t74 H =>
 onBool t74 (S135_0 call t2 t4 t74 H) (pEql t4 (.str [117, 110, 97, 114, 121]) H fun t75 H =>
 onBool t75 (S135_0 call t2 t4 t75 H) (pEql t4 (.str [100, 111, 116]) H fun t76 H =>
 onBool t76 (S135_0 call t2 t4 t76 H) (pEql t4 (.str [108, 101, 110]) H fun t77 H =>
 onBool t77 (S135_0 call t2 t4 t77 H) (pEql t4 (.str [114, 101, 99, 118]) H fun t78 H =>
 S135_0 call t2 t4 t78 H))))))))
def S135_2 (call : CallFn) (t2 t4 t51 : AV) (H : AHeap) : R :=
 onBool t51 (pN (aBsl 1 2 [(.str [])] [(0, 1, (.str [97, 110, 32, 101, 120, 112, 114, 101, 115, 115, 105, 111, 110])), (1, 1, (.str [97, 110, 32, 101, 120, 112, 114, 101, 115, 115, 105, 111, 110]))]) H fun t56 H =>
 pO (someAgg (aFill [.nilsl, (.str [])] [(0, 1, t56)])) H fun t57 H =>
 stK 2 H t2 t57 fun _ H =>
 ob (allM (fun o => o) [aLoad (.some 2) H t2, some (.bool true)]) fun vs => some (resV vs, H)) (pEql t4 (.str [105, 102]) H fun t59 H =>
 onBool t59 (pN (aBsl 1 3 [(.str [])] [(0, 1, (.str [97, 110, 32, 101, 120, 112, 114, 101, 115, 115, 105, 111, 110])), (1, 1, (.str [98, 108, 111, 99, 107])), (2, 1, (.str [63, 98, 108, 111, 99, 107]))]) H fun t60 H =>
 pO (someAgg (aFill [.nilsl, (.str [])] [(0, 1, t60)])) H fun t61 H =>
 stK 2 H t2 t61 fun _ H =>
 ob (allM (fun o => o) [aLoad (.some 2) H t2, some (.bool true)]) fun vs => some (resV vs, H)) (pEql t4 (.str [119, 104, 105, 108, 101]) H fun t63 H =>
 onBool t63 (S135_1 call t2 t4 t63 H) (pEql t4 (.str [111, 110, 114, 101, 99, 118]) H fun t64 H =>
 S135_1 call t2 t4 t64 H)))
def S135_3 (call : CallFn) (t2 t4 t46 : AV) (H : AHeap) : R :=
 onBool t46 (pN (aBsl 1 2 [(.str [])] [(0, 1, (.str [97, 32, 116, 121, 112, 101])), (1, 1, (.str [97, 110, 32, 101, 120, 112, 114, 101, 115, 115, 105, 111, 110]))]) H fun t49 H =>
 pO (someAgg (aFill [.nilsl, (.str [])] [(0, 1, t49)])) H fun t50 H =>
 stK 2 H t2 t50 fun _ H =>
 ob (allM (fun o => o) [aLoad (.some 2) H t2, some (.bool true)]) fun vs => some (resV vs, H)) (pEql t4 (.str [115, 101, 116]) H fun t52 H =>
 onBool t52 (S135_2 call t2 t4 t52 H) (pEql t4 (.str [115, 101, 110, 100]) H fun t53 H =>
 onBool t53 (S135_2 call t2 t4 t53 H) (pEql t4 (.str [98, 105, 110, 97, 114, 121]) H fun t54 H =>
 onBool t54 (S135_2 call t2 t4 t54 H) (pEql t4 (.str [105, 110, 100, 101, 120]) H fun t55 H =>
 S135_2 call t2 t4 t55 H))))
def S135_4 (call : CallFn) (t2 t4 t28 : AV) (H : AHeap) : R :=
 onBool t28 (pO (someAgg (aFill [.nilsl, (.str [])] [])) H fun t38 H =>
 stK 2 H t2 t38 fun _ H =>
 ob (allM (fun o => o) [aLoad (.some 2) H t2, some (.bool true)]) fun vs => some (resV vs, H)) (pEql t4 (.str [102, 110]) H fun t40 H =>
 onBool t40 (pN (aBsl 1 1 [(.str [])] [(0, 1, (.str [63, 97, 32, 116, 121, 112, 101]))]) H fun t41 H =>
 pO (someAgg (aFill [.nilsl, (.str [])] [(0, 1, t41), (1, 1, (.str [97, 32, 116, 121, 112, 101]))])) H fun t42 H =>
 stK 2 H t2 t42 fun _ H =>
 ob (allM (fun o => o) [aLoad (.some 2) H t2, some (.bool true)]) fun vs => some (resV vs, H)) (pEql t4 (.str [98, 108, 111, 99, 107]) H fun t44 H =>
 onBool t44 (pO (someAgg (aFill [.nilsl, (.str [])] [(1, 1, (.str [97, 32, 115, 116, 97, 116, 101, 109, 101, 110, 116]))])) H fun t45 H =>
 stK 2 H t2 t45 fun _ H =>
 ob (allM (fun o => o) [aLoad (.some 2) H t2, some (.bool true)]) fun vs => some (resV vs, H)) (pEql t4 (.str [108, 101, 116]) H fun t47 H =>
 onBool t47 (S135_3 call t2 t4 t47 H) (pEql t4 (.str [109, 97, 107, 101]) H fun t48 H =>
 S135_3 call t2 t4 t48 H))))
def S135_5 (call : CallFn) (t2 t4 t20 : AV) (H : AHeap) : R :=
 onBool t20 (pN (aBsl 1 3 [(.str [])] [(0, 1, (.str [112, 97, 114, 97, 109, 115])), (1, 1, (.str [63, 97, 32, 116, 121, 112, 101])), (2, 1, (.str [98, 108, 111, 99, 107]))]) H fun t23 H =>
 pO (someAgg (aFill [.nilsl, (.str [])] [(0, 1, t23)])) H fun t24 H =>
 stK 2 H t2 t24 fun _ H =>
 ob (allM (fun o => o) [aLoad (.some 2) H t2, some (.bool true)]) fun vs => some (resV vs, H)) (pEql t4 (.str [112, 97, 114, 97, 109, 115]) H fun t26 H =>
 onBool t26 (pO (someAgg (aFill [.nilsl, (.str [])] [(1, 1, (.str [112, 97, 114, 97, 109]))])) H fun t27 H =>
 stK 2 H t2 t27 fun _ H =>
 ob (allM (fun o => o) [aLoad (.some 2) H t2, some (.bool true)]) fun vs => some (resV vs, H)) (pEql t4 (.str [110, 111, 110, 101]) H fun t29 H =>
 onBool t29 (S135_4 call t2 t4 t29 H) (pEql t4 (.str [105, 110, 116]) H fun t30 H =>
 onBool t30 (S135_4 call t2 t4 t30 H) (pEql t4 (.str [98, 111, 111, 108]) H fun t31 H =>
 onBool t31 (S135_4 call t2 t4 t31 H) (pEql t4 (.str [110, 97, 109, 101, 100]) H fun t32 H =>
 onBool t32 (S135_4 call t2 t4 t32 H) (pEql t4 (.str [110, 117, 109, 98, 101, 114]) H fun t33 H =>
 onBool t33 (S135_4 call t2 t4 t33 H) (pEql t4 (.str [116, 114, 117, 101]) H fun t34 H =>
 onBool t34 (S135_4 call t2 t4 t34 H) (pEql t4 (.str [102, 97, 108, 115, 101]) H fun t35 H =>
 onBool t35 (S135_4 call t2 t4 t35 H) (pEql t4 (.str [110, 97, 109, 101]) H fun t36 H =>
 onBool t36 (S135_4 call t2 t4 t36 H) (pEql t4 (.str [110, 101, 119]) H fun t37 H =>
 S135_4 call t2 t4 t37 H))))))))))
def S135_6 (call : CallFn) (t2 t4 t11 : AV) (H : AHeap) : R :=
 onBool t11 (pN (aBsl 1 1 [(.str [])] [(0, 1, (.str [97, 32, 116, 121, 112, 101]))]) H fun t18 H =>
 pO (someAgg (aFill [.nilsl, (.str [])] [(0, 1, t18)])) H fun t19 H =>
 stK 2 H t2 t19 fun _ H =>
 ob (allM (fun o => o) [aLoad (.some 2) H t2, some (.bool true)]) fun vs => some (resV vs, H)) (pEql t4 (.str [102, 117, 110, 99]) H fun t21 H =>
 onBool t21 (S135_5 call t2 t4 t21 H) (pEql t4 (.str [108, 97, 109, 98, 100, 97]) H fun t22 H =>
 S135_5 call t2 t4 t22 H))
def S135_7 (call : CallFn) (t0 : AV) (H : AHeap) : R :=
 pNew [.nilsl, (.str [])] H fun t2 H =>
 pEql t0 (.str [112, 114, 111, 103, 114, 97, 109]) H fun t6 H =>
 onBool t6 (pO (someAgg (aFill [.nilsl, (.str [])] [(1, 1, (.str [97, 32, 100, 101, 99, 108, 97, 114, 97, 116, 105, 111, 110]))])) H fun t7 H =>
 stK 2 H t2 t7 fun _ H =>
 ob (allM (fun o => o) [aLoad (.some 2) H t2, some (.bool true)]) fun vs => some (resV vs, H)) (pEql t0 (.str [115, 116, 114, 117, 99, 116]) H fun t9 H =>
 onBool t9 (pO (someAgg (aFill [.nilsl, (.str [])] [(1, 1, (.str [102, 105, 101, 108, 100]))])) H fun t10 H =>
 stK 2 H t2 t10 fun _ H =>
 ob (allM (fun o => o) [aLoad (.some 2) H t2, some (.bool true)]) fun vs => some (resV vs, H)) (pEql t0 (.str [102, 105, 101, 108, 100]) H fun t12 H =>
 onBool t12 (S135_6 call t2 t0 t12 H) (pEql t0 (.str [103, 108, 111, 98, 97, 108]) H fun t13 H =>
 onBool t13 (S135_6 call t2 t0 t13 H) (pEql t0 (.str [112, 97, 114, 97, 109]) H fun t14 H =>
 onBool t14 (S135_6 call t2 t0 t14 H) (pEql t0 (.str [108, 105, 115, 116]) H fun t15 H =>
 onBool t15 (S135_6 call t2 t0 t15 H) (pEql t0 (.str [99, 104, 97, 110]) H fun t16 H =>
 onBool t16 (S135_6 call t2 t0 t16 H) (pEql t0 (.str [110, 105, 108]) H fun t17 H =>
 S135_6 call t2 t0 t17 H)))))))
def S135 : Ff := ⟨fun call l H => argA1 (fun t0 => S135_7 call t0 H) l⟩
def S136_0 (_ : CallFn) (t16 t19 : AV) (H : AHeap) : R :=
 pPick t16 (.bool true) t19 H fun t20 H =>
 some (t20, H)
def S136_1 (call : CallFn) (t0 t1 : AV) (H : AHeap) : R :=
 pBox t0 H fun t2 H =>
 pC call n202 [t1, (.str [63])] H fun t9 H =>
 pExt t9 0 H fun t10 H =>
 pExt t9 1 H fun t11 H =>
 onBool t11 (pFa 0 t2 H fun t13 H =>
 ldK .none H t13 fun t14 H =>
 pEql t14 (.str [110, 111, 110, 101]) H fun t15 H =>
 guardA t15 false (ldK (.some 4) H t2 fun t17 H =>
 pC call n136 [t17, t10] H fun t19 H =>
 S136_0 call t15 t19 H) (S136_0 call t15 U H)) (pEql t1 (.str [97, 32, 100, 101, 99, 108, 97, 114, 97, 116, 105, 111, 110]) H fun t23 H =>
 onBool t23 (pN (aBsl 1 3 [(.str [])] [(0, 1, (.str [115, 116, 114, 117, 99, 116])), (1, 1, (.str [103, 108, 111, 98, 97, 108])), (2, 1, (.str [102, 117, 110, 99]))]) H fun t24 H =>
 pFa 0 t2 H fun t25 H =>
 ldK .none H t25 fun t26 H =>
 pC call n196 [t24, t26] H fun t27 H =>
 some (t27, H)) (pEql t1 (.str [97, 32, 116, 121, 112, 101]) H fun t29 H =>
 onBool t29 (pN (aBsl 1 6 [(.str [])] [(0, 1, (.str [105, 110, 116])), (1, 1, (.str [98, 111, 111, 108])), (2, 1, (.str [110, 97, 109, 101, 100])), (3, 1, (.str [108, 105, 115, 116])), (4, 1, (.str [99, 104, 97, 110])), (5, 1, (.str [102, 110]))]) H fun t30 H =>
 pFa 0 t2 H fun t31 H =>
 ldK .none H t31 fun t32 H =>
 pC call n196 [t30, t32] H fun t33 H =>
 some (t33, H)) (pEql t1 (.str [97, 32, 115, 116, 97, 116, 101, 109, 101, 110, 116]) H fun t35 H =>
 onBool t35 (pN (aBsl 1 12 [(.str [])] [(0, 1, (.str [98, 108, 111, 99, 107])), (1, 1, (.str [108, 101, 116])), (2, 1, (.str [115, 101, 116])), (3, 1, (.str [105, 102])), (4, 1, (.str [119, 104, 105, 108, 101])), (5, 1, (.str [114, 101, 116, 117, 114, 110])), (6, 1, (.str [112, 114, 105, 110, 116])), (7, 1, (.str [99, 108, 111, 115, 101])), (8, 1, (.str [103, 111])), (9, 1, (.str [115, 101, 110, 100])), (10, 1, (.str [115, 101, 108, 101, 99, 116])), (11, 1, (.str [100, 111]))]) H fun t36 H =>
 pFa 0 t2 H fun t37 H =>
 ldK .none H t37 fun t38 H =>
 pC call n196 [t36, t38] H fun t39 H =>
 some (t39, H)) (pEql t1 (.str [97, 110, 32, 101, 120, 112, 114, 101, 115, 115, 105, 111, 110]) H fun t41 H =>
 onBool t41 (pN (aBsl 1 15 [(.str [])] [(0, 1, (.str [110, 117, 109, 98, 101, 114])), (1, 1, (.str [116, 114, 117, 101])), (2, 1, (.str [102, 97, 108, 115, 101])), (3, 1, (.str [110, 105, 108])), (4, 1, (.str [110, 97, 109, 101])), (5, 1, (.str [98, 105, 110, 97, 114, 121])), (6, 1, (.str [117, 110, 97, 114, 121])), (7, 1, (.str [99, 97, 108, 108])), (8, 1, (.str [105, 110, 100, 101, 120])), (9, 1, (.str [100, 111, 116])), (10, 1, (.str [110, 101, 119])), (11, 1, (.str [109, 97, 107, 101])), (12, 1, (.str [108, 101, 110])), (13, 1, (.str [114, 101, 99, 118])), (14, 1, (.str [108, 97, 109, 98, 100, 97]))]) H fun t42 H =>
 pFa 0 t2 H fun t43 H =>
 ldK .none H t43 fun t44 H =>
 pC call n196 [t42, t44] H fun t45 H =>
 some (t45, H)) (pEql t1 (.str [97, 32, 99, 97, 115, 101]) H fun t47 H =>
 onBool t47 (pN (aBsl 1 3 [(.str [])] [(0, 1, (.str [111, 110, 114, 101, 99, 118])), (1, 1, (.str [111, 110, 115, 101, 110, 100])), (2, 1, (.str [100, 101, 102, 97, 117, 108, 116]))]) H fun t48 H =>
 pFa 0 t2 H fun t49 H =>
 ldK .none H t49 fun t50 H =>
 pC call n196 [t48, t50] H fun t51 H =>
 some (t51, H)) (pFa 0 t2 H fun t52 H =>
 ldK .none H t52 fun t53 H =>
 pEql t53 t1 H fun t55 H =>
 some (t55, H)))))))
def S136 : Ff := ⟨fun call l H => argA2 (fun t0 t1 => S136_1 call t0 t1 H) l⟩
def S137_0 (call : CallFn) (t0 t3 t4 t28 t34 t39 t41 : AV) (H : AHeap) : R :=
 pPick t34 t39 (.bool false) H fun t40 H =>
 pC call n30 [t28, t40, t41] H fun _ H =>
 pFa 1 t3 H fun t44 H =>
 ldK .none H t44 fun t45 H =>
 pIa 4 t4 (iN 0) H fun t47 H =>
 ldK (.some 4) H t47 fun t48 H =>
 pC call n75 [t0, t45, t48] H fun _ H =>
 some (.tup [], H)
def S137_1 (call : CallFn) (t0 t3 t4 t28 t34 t38 t41 : AV) (H : AHeap) : R :=
 andR (andB (ckV (aLoad (.some 4) H t3) t41) true) (
 guardA t34 true (pO (aUn .not t38) H fun t39 H =>
 S137_0 call t0 t3 t4 t28 t34 t39 t41 H) (S137_0 call t0 t3 t4 t28 t34 U t41 H))
def S137_2 (call : CallFn) (t0 t3 t4 t28 t34 t35 t37 t41 : AV) (H : AHeap) : R :=
 guardA t34 true (pC call n206 [t35, t37] H fun t38 H =>
 S137_1 call t0 t3 t4 t28 t34 t38 t41 H) (S137_1 call t0 t3 t4 t28 t34 U t41 H)
def S137_3 (call : CallFn) (t0 t3 t4 t28 t34 t35 t36 t41 : AV) (H : AHeap) : R :=
 guardA t34 true (ldK .none H t36 fun t37 H =>
 S137_2 call t0 t3 t4 t28 t34 t35 t37 t41 H) (S137_2 call t0 t3 t4 t28 t34 t35 U t41 H)
def S137_4 (call : CallFn) (t0 t3 t4 t28 t34 t35 t41 : AV) (H : AHeap) : R :=
 guardA t34 true (pFa 1 t3 H fun t36 H =>
 S137_3 call t0 t3 t4 t28 t34 t35 t36 t41 H) (S137_3 call t0 t3 t4 t28 t34 t35 U t41 H)
def S137_6 (_ : CallFn) (q0 : AV → AV → AV → AV → AHeap → R) (t0 t77 t78 t79 : AV) (H : AHeap) : R :=
 pAdd t79 (iN 1) H fun t89 H =>
 q0 t0 t77 t78 t89 H
def S137_5 (call : CallFn) (n : Nat) : AV → AV → AV → AV → AHeap → R :=
 Nat.rec (motive := fun _ => AV → AV → AV → AV → AHeap → R) (fun _ _ _ _ _ => none) (fun _ q0 t0 t77 t78 t79 H => pLss t79 t78 H fun t80 H =>
 onBool t80 (pIa 4 t77 t79 H fun t81 H =>
 ldK (.some 4) H t81 fun t82 H =>
 pNew [(.str []), (.str []), (iN 0), .nilsl] H fun t9 H =>
 stK 4 H t9 t82 fun _ H =>
 pFa 0 t9 H fun t83 H =>
 ldK .none H t83 fun t84 H =>
 pEql t84 (.str [98, 108, 111, 99, 107]) H fun t85 H =>
 onBool t85 (ldK (.some 4) H t9 fun t87 H =>
 pC call n203 [t0, t87, .nilsl] H fun _ H =>
 S137_6 call q0 t0 t77 t78 t79 H) (S137_6 call q0 t0 t77 t78 t79 H)) (some (.tup [], H))) n
def S137_7 (call : CallFn) (t0 t3 t4 t159 t165 t170 : AV) (H : AHeap) : R :=
 pPick t165 (.bool true) t170 H fun t171 H =>
 ldK (.some 4) H t3 fun t172 H =>
 pC call n30 [t159, t171, t172] H fun _ H =>
 pIa 4 t4 (iN 0) H fun t175 H =>
 pFa 0 t175 H fun t176 H =>
 ldK .none H t176 fun t177 H =>
 pEql t177 (.str [99, 97, 108, 108]) H fun t178 H =>
 onBool t178 (pIa 4 t4 (iN 0) H fun t181 H =>
 ldK (.some 4) H t181 fun t182 H =>
 pC call n209 [t0, t182] H fun _ H =>
 some (.tup [], H)) (pIa 4 t4 (iN 0) H fun t186 H =>
 ldK (.some 4) H t186 fun t187 H =>
 pC call n204 [t0, t187] H fun _ H =>
 some (.tup [], H))
def S137_8 (call : CallFn) (t0 t3 t4 t159 t165 t169 : AV) (H : AHeap) : R :=
 guardA t165 false (pEql t169 (.str [114, 101, 99, 118]) H fun t170 H =>
 S137_7 call t0 t3 t4 t159 t165 t170 H) (S137_7 call t0 t3 t4 t159 t165 U H)
def S137_9 (call : CallFn) (t0 t3 t4 t159 t165 t168 : AV) (H : AHeap) : R :=
 guardA t165 false (ldK .none H t168 fun t169 H =>
 S137_8 call t0 t3 t4 t159 t165 t169 H) (S137_8 call t0 t3 t4 t159 t165 U H)
def S137_10 (call : CallFn) (t0 t3 t4 t159 t165 t167 : AV) (H : AHeap) : R :=
 guardA t165 false (pFa 0 t167 H fun t168 H =>
 S137_9 call t0 t3 t4 t159 t165 t168 H) (S137_9 call t0 t3 t4 t159 t165 U H)
def S137_11 (call : CallFn) (t0 t3 t4 t159 t165 t166 : AV) (H : AHeap) : R :=
 guardA t165 false (pIa 4 t166 (iN 0) H fun t167 H =>
 S137_10 call t0 t3 t4 t159 t165 t167 H) (S137_10 call t0 t3 t4 t159 t165 U H)
def S137_12 (call : CallFn) (t0 t3 t4 t15 t68 : AV) (H : AHeap) : R :=
 onBool t68 (pIa 4 t4 (iN 0) H fun t73 H =>
 ldK (.some 4) H t73 fun t74 H =>
 pC call n208 [t0, t74, (.str [98, 111, 111, 108])] H fun _ H =>
 pO (aSlice 4 H t4 (.some (iN 1)) .none .none) H fun t77 H =>
 pO (aLen .sl H t77) H fun t78 H =>
 S137_5 call 1000000 t0 t77 t78 (iN 0) H) (pEql t15 (.str [114, 101, 116, 117, 114, 110]) H fun t91 H =>
 onBool t91 (pIa 4 t4 (iN 0) H fun t93 H =>
 pFa 0 t93 H fun t94 H =>
 ldK .none H t94 fun t95 H =>
 pEql t95 (.str [110, 111, 110, 101]) H fun t96 H =>
 onBool t96 (pO (aNil t0) H fun t99 H =>
 pFa 8 t99 H fun t100 H =>
 pFa 0 t100 H fun t101 H =>
 ldK .none H t101 fun t102 H =>
 pEql t102 (.str [110, 111, 110, 101]) H fun t103 H =>
 ldK (.some 4) H t3 fun t104 H =>
 pC call n30 [t0, t103, t104] H fun _ H =>
 some (.tup [], H)) (pIa 4 t4 (iN 0) H fun t108 H =>
 ldK (.some 4) H t108 fun t109 H =>
 pC call n204 [t0, t109] H fun t110 H =>
 pNew [(.str []), (.str []), (iN 0), .nilsl] H fun t10 H =>
 stK 4 H t10 t110 fun _ H =>
 ldK (.some 4) H t10 fun t112 H =>
 pO (aNil t0) H fun t114 H =>
 pFa 8 t114 H fun t115 H =>
 ldK (.some 4) H t115 fun t116 H =>
 ldK (.some 4) H t3 fun t118 H =>
 pC call n205 [t112, t116] H fun t117 H =>
 andR (andB (ckV (aLoad (.some 4) H t3) t118) true) (
 pC call n30 [t0, t117, t118] H fun _ H =>
 some (.tup [], H)))) (pEql t15 (.str [112, 114, 105, 110, 116]) H fun t121 H =>
 onBool t121 (pIa 4 t4 (iN 0) H fun t124 H =>
 ldK (.some 4) H t124 fun t125 H =>
 pC call n208 [t0, t125, (.str [105, 110, 116])] H fun _ H =>
 some (.tup [], H)) (pEql t15 (.str [99, 108, 111, 115, 101]) H fun t128 H =>
 onBool t128 (pIa 4 t4 (iN 0) H fun t131 H =>
 ldK (.some 4) H t131 fun t132 H =>
 pC call n208 [t0, t132, (.str [99, 104, 97, 110])] H fun _ H =>
 some (.tup [], H)) (pEql t15 (.str [103, 111]) H fun t135 H =>
 onBool t135 (pIa 4 t4 (iN 0) H fun t138 H =>
 ldK (.some 4) H t138 fun t139 H =>
 pC call n209 [t0, t139] H fun t140 H =>
 pNew [(.str []), (.str []), (iN 0), .nilsl] H fun t11 H =>
 stK 4 H t11 t140 fun _ H =>
 pFa 0 t11 H fun t142 H =>
 ldK .none H t142 fun t143 H =>
 pEql t143 (.str [110, 111, 110, 101]) H fun t144 H =>
 ldK (.some 4) H t3 fun t145 H =>
 pC call n30 [t0, t144, t145] H fun _ H =>
 some (.tup [], H)) (pEql t15 (.str [115, 101, 110, 100]) H fun t148 H =>
 onBool t148 (pC call n210 [t0, t4] H fun _ H =>
 some (.tup [], H)) (pEql t15 (.str [115, 101, 108, 101, 99, 116]) H fun t153 H =>
 onBool t153 (ldK (.some 4) H t3 fun t155 H =>
 pC call n211 [t0, t155] H fun _ H =>
 some (.tup [], H)) (pEql t15 (.str [100, 111]) H fun t158 H =>
 onBool t158 (pIa 4 t4 (iN 0) H fun t161 H =>
 pFa 0 t161 H fun t162 H =>
 ldK .none H t162 fun t163 H =>
 pEql t163 (.str [99, 97, 108, 108]) H fun t164 H =>
 guardA t164 false (S137_11 call t0 t3 t4 t0 t164 t4 H) (S137_11 call t0 t3 t4 t0 t164 U H)) (some (.tup [], H)))))))))
def S137_13 (call : CallFn) (t0 t1 : AV) (H : AHeap) : R :=
 pBox t1 H fun t3 H =>
 pFa 3 t3 H fun t12 H =>
 ldK .none H t12 fun t13 H =>
 pFa 0 t3 H fun t14 H =>
 ldK .none H t14 fun t15 H =>
 pEql t15 (.str [98, 108, 111, 99, 107]) H fun t17 H =>
 onBool t17 (ldK (.some 4) H t3 fun t19 H =>
 pC call n203 [t0, t19, .nilsl] H fun _ H =>
 some (.tup [], H)) (pEql t15 (.str [108, 101, 116]) H fun t22 H =>
 onBool t22 (pIa 4 t13 (iN 1) H fun t25 H =>
 ldK (.some 4) H t25 fun t26 H =>
 pC call n204 [t0, t26] H fun t27 H =>
 pNew [(.str []), (.str []), (iN 0), .nilsl] H fun t5 H =>
 stK 4 H t5 t27 fun _ H =>
 ldK (.some 4) H t5 fun t29 H =>
 pIa 4 t13 (iN 0) H fun t31 H =>
 ldK (.some 4) H t31 fun t32 H =>
 ldK (.some 4) H t3 fun t41 H =>
 pC call n205 [t29, t32] H fun t33 H =>
 andR (andB (ckV (aLoad (.some 4) H t3) t41) true) (
 guardA t33 true (S137_4 call t0 t3 t13 t0 t33 t0 t41 H) (S137_4 call t0 t3 t13 t0 t33 U t41 H))) (pEql t15 (.str [115, 101, 116]) H fun t51 H =>
 onBool t51 (pIa 4 t13 (iN 0) H fun t54 H =>
 ldK (.some 4) H t54 fun t55 H =>
 pC call n207 [t0, t55] H fun t56 H =>
 pNew [(.str []), (.str []), (iN 0), .nilsl] H fun t6 H =>
 stK 4 H t6 t56 fun _ H =>
 pIa 4 t13 (iN 1) H fun t59 H =>
 ldK (.some 4) H t59 fun t60 H =>
 pC call n204 [t0, t60] H fun t61 H =>
 pNew [(.str []), (.str []), (iN 0), .nilsl] H fun t7 H =>
 stK 4 H t7 t61 fun _ H =>
 ldK (.some 4) H t6 fun t63 H =>
 ldK (.some 4) H t7 fun t64 H =>
 ldK (.some 4) H t3 fun t66 H =>
 pC call n205 [t63, t64] H fun t65 H =>
 andR (andB (ckV (aLoad (.some 4) H t3) t66) true) (
 pC call n30 [t0, t65, t66] H fun _ H =>
 some (.tup [], H))) (pEql t15 (.str [105, 102]) H fun t69 H =>
 onBool t69 (S137_12 call t0 t3 t13 t15 t69 H) (pEql t15 (.str [119, 104, 105, 108, 101]) H fun t70 H =>
 S137_12 call t0 t3 t13 t15 t70 H))))
def S137 : Ff := ⟨fun call l H => argA2 (fun t0 t1 => S137_13 call t0 t1 H) l⟩
def S141_0 (_ : CallFn) (n : Nat) : AV → AV → AV → AV → AHeap → R :=
 Nat.rec (motive := fun _ => AV → AV → AV → AV → AHeap → R) (fun _ _ _ _ _ => none) (fun _ q0 t5 t32 t33 t34 H => pLss t34 t33 H fun t35 H =>
 onBool t35 (pIa 4 t32 t34 H fun t36 H =>
 ldK (.some 4) H t36 fun t37 H =>
 pNew [(iN 0), (iN 0), (iN 0), (iN 0)] H fun t9 H =>
 stK 4 H t9 t37 fun _ H =>
 pFa 3 t9 H fun t39 H =>
 ldK .none H t39 fun t40 H =>
 pN (aBsl 1 1 [(iN 0)] [(0, 1, t40)]) H fun t41 H =>
 pW (aApp 1 8 H t5 t41) fun t42 H =>
 pAdd t34 (iN 1) H fun t43 H =>
 q0 t42 t32 t33 t43 H) (some (t5, H))) n
def S141_1 (call : CallFn) (t0 t1 : AV) (H : AHeap) : R :=
 pBox t0 H fun t2 H =>
 pBox t1 H fun t3 H =>
 pFa 0 t3 H fun t10 H =>
 ldK .none H t10 fun t11 H =>
 pEql t11 (iN 18) H fun t13 H =>
 onBool t13 (pFa 1 t3 H fun t14 H =>
 ldK .none H t14 fun t15 H =>
 pN (aBsl 1 1 [(iN 0)] [(0, 1, t15)]) H fun t16 H =>
 some (t16, H)) (pEql t11 (iN 19) H fun t18 H =>
 onBool t18 (pFa 2 t3 H fun t19 H =>
 ldK .none H t19 fun t20 H =>
 pN (aBsl 1 1 [(iN 0)] [(0, 1, t20)]) H fun t21 H =>
 some (t21, H)) (ldK (.some 6) H t2 fun t23 H =>
 ldK (.some 5) H t3 fun t24 H =>
 pC call n88 [t23, t24] H fun t25 H =>
 pExt t25 0 H fun t26 H =>
 pExt t25 1 H fun t27 H =>
 pFa 3 t2 H fun t28 H =>
 ldK .none H t28 fun t29 H =>
 pO (aSlice 4 H t29 (.some t26) (.some t27) .none) H fun t32 H =>
 pO (aLen .sl H t32) H fun t33 H =>
 S141_0 call 1000000 .nilsl t32 t33 (iN 0) H))
def S141 : Ff := ⟨fun call l H => argA2 (fun t0 t1 => S141_1 call t0 t1 H) l⟩
def S143_0 (_ : CallFn) (t0 : AV) (H : AHeap) : R :=
 pO (aEq false .sl t0 .nilsl) H fun t4 H =>
 onBool t4 (some (.nilsl, H)) (pN (aBsl 3 0 [(.bool false), (.bool false), (.int .u64 (.ofNat 0))] []) H fun t5 H =>
 pW (aApp 3 16 H t5 t0) fun t7 H =>
 some (t7, H))
def S143 : Ff := ⟨fun call l H => argA1 (fun t0 => S143_0 call t0 H) l⟩
def S144_1 (_ : CallFn) (q0 : AV → AV → AV → AV → AHeap → R) (t0 t6 t7 t8 : AV) (H : AHeap) : R :=
 pAdd t8 (iN 1) H fun t24 H =>
 q0 t0 t6 t7 t24 H
def S144_2 (call : CallFn) (q0 : AV → AV → AV → AV → AHeap → R) (t0 t5 t6 t7 t8 t14 t18 : AV) (H : AHeap) : R :=
 pPick t14 t18 (.bool false) H fun t19 H =>
 onBool t19 (pIa 3 t0 t5 H fun t22 H =>
 pFa 1 t22 H fun t23 H =>
 stK 1 H t23 (.bool false) fun _ H =>
 S144_1 call q0 t0 t6 t7 t8 H) (S144_1 call q0 t0 t6 t7 t8 H)
def S144_0 (call : CallFn) (n : Nat) : AV → AV → AV → AV → AHeap → R :=
 Nat.rec (motive := fun _ => AV → AV → AV → AV → AHeap → R) (fun _ _ _ _ _ => none) (fun _ q0 t0 t6 t7 t8 H => pLss t8 t7 H fun t9 H =>
 onBool t9 (pIa 1 t6 t8 H fun t10 H =>
 ldK .none H t10 fun t11 H =>
 pGeq t11 (iN 0) H fun t13 H =>
 guardA t13 true (pO (aLen .sl H t0) H fun t17 H =>
 pLss t11 t17 H fun t18 H =>
 S144_2 call q0 t0 t11 t6 t7 t8 t13 t18 H) (S144_2 call q0 t0 t11 t6 t7 t8 t13 U H)) (some (.tup [], H))) n
def S144_3 (call : CallFn) (t0 t1 : AV) (H : AHeap) : R :=
 pO (aLen .sl H t1) H fun t7 H =>
 S144_0 call 1000000 t0 t1 t7 (iN 0) H
def S144 : Ff := ⟨fun call l H => argA2 (fun t0 t1 => S144_3 call t0 t1 H) l⟩
def S145_1 (_ : CallFn) (q0 : AV → AV → AV → AV → AHeap → R) (t5 t49 t50 t51 : AV) (H : AHeap) : R :=
 pAdd t51 (iN 1) H fun t63 H =>
 q0 t5 t49 t50 t63 H
def S145_0 (call : CallFn) (n : Nat) : AV → AV → AV → AV → AHeap → R :=
 Nat.rec (motive := fun _ => AV → AV → AV → AV → AHeap → R) (fun _ _ _ _ _ => none) (fun _ q0 t5 t49 t50 t51 H => pLss t51 t50 H fun t52 H =>
 onBool t52 (pIa 4 t49 t51 H fun t53 H =>
 ldK (.some 4) H t53 fun t54 H =>
 pNew [(iN 0), (iN 0), (iN 0), (iN 0)] H fun t7 H =>
 stK 4 H t7 t54 fun _ H =>
 pFa 0 t7 H fun t55 H =>
 ldK .none H t55 fun t56 H =>
 pEql t56 (iN 1) H fun t57 H =>
 onBool t57 (pFa 2 t7 H fun t59 H =>
 ldK .none H t59 fun t60 H =>
 pN (aBsl 1 1 [(iN 0)] [(0, 1, t60)]) H fun t61 H =>
 pW (aApp 1 8 H t5 t61) fun t62 H =>
 S145_1 call q0 t62 t49 t50 t51 H) (S145_1 call q0 t5 t49 t50 t51 H)) (some (t5, H))) n
def S145_2 (call : CallFn) (t2 t3 t29 t38 : AV) (H : AHeap) : R :=
 pPick t29 (.bool true) t38 H fun t39 H =>
 onBool t39 (some (.nilsl, H)) (pFa 3 t2 H fun t40 H =>
 ldK .none H t40 fun t41 H =>
 pFa 1 t3 H fun t42 H =>
 ldK .none H t42 fun t43 H =>
 pFa 1 t3 H fun t44 H =>
 ldK .none H t44 fun t45 H =>
 pFa 2 t3 H fun t46 H =>
 ldK .none H t46 fun t47 H =>
 pAdd t45 t47 H fun t48 H =>
 pO (aSlice 4 H t41 (.some t43) (.some t48) .none) H fun t49 H =>
 pO (aLen .sl H t49) H fun t50 H =>
 S145_0 call 1000000 .nilsl t49 t50 (iN 0) H)
def S145_3 (call : CallFn) (t2 t3 t21 t27 : AV) (H : AHeap) : R :=
 pPick t21 (.bool true) t27 H fun t28 H =>
 guardA t28 false (pFa 2 t3 H fun t30 H =>
 ldK .none H t30 fun t31 H =>
 pFa 3 t2 H fun t32 H =>
 ldK .none H t32 fun t33 H =>
 pO (aLen .sl H t33) H fun t34 H =>
 pFa 1 t3 H fun t35 H =>
 ldK .none H t35 fun t36 H =>
 pSub t34 t36 H fun t37 H =>
 pGtr t31 t37 H fun t38 H =>
 S145_2 call t2 t3 t28 t38 H) (S145_2 call t2 t3 t28 U H)
def S145_4 (call : CallFn) (t2 t3 t16 t19 : AV) (H : AHeap) : R :=
 pPick t16 (.bool true) t19 H fun t20 H =>
 guardA t20 false (pFa 1 t3 H fun t22 H =>
 ldK .none H t22 fun t23 H =>
 pFa 3 t2 H fun t24 H =>
 ldK .none H t24 fun t25 H =>
 pO (aLen .sl H t25) H fun t26 H =>
 pGtr t23 t26 H fun t27 H =>
 S145_3 call t2 t3 t20 t27 H) (S145_3 call t2 t3 t20 U H)
def S145_5 (call : CallFn) (t2 t3 t11 t14 : AV) (H : AHeap) : R :=
 pPick t11 (.bool true) t14 H fun t15 H =>
 guardA t15 false (pFa 2 t3 H fun t17 H =>
 ldK .none H t17 fun t18 H =>
 pLss t18 (iN 0) H fun t19 H =>
 S145_4 call t2 t3 t15 t19 H) (S145_4 call t2 t3 t15 U H)
def S145_6 (call : CallFn) (t0 t1 : AV) (H : AHeap) : R :=
 pBox t0 H fun t2 H =>
 pBox t1 H fun t3 H =>
 pFa 0 t3 H fun t8 H =>
 ldK .none H t8 fun t9 H =>
 pNeq t9 (iN 41) H fun t10 H =>
 guardA t10 false (pFa 1 t3 H fun t12 H =>
 ldK .none H t12 fun t13 H =>
 pLss t13 (iN 0) H fun t14 H =>
 S145_5 call t2 t3 t10 t14 H) (S145_5 call t2 t3 t10 U H)
def S145 : Ff := ⟨fun call l H => argA2 (fun t0 t1 => S145_6 call t0 t1 H) l⟩
def S146_0 (call : CallFn) (t2 t4 t8 : AV) (H : AHeap) : R :=
 pFa 1 t4 H fun t81 H =>
 ldK .none H t81 fun t82 H =>
 pNeq t8 (iN 36) H fun t84 H =>
 pO (someAgg (aFill [(.bool false), (.bool false), (.int .u64 (.ofNat 0))] [(0, 1, (.bool true)), (1, 1, t84)])) H fun t85 H =>
 pC call n232 [t2, t82, t85] H fun _ H =>
 some (t2, H)
def S146_1 (call : CallFn) (n : Nat) : AV → AV → AV → AV → AHeap → R :=
 Nat.rec (motive := fun _ => AV → AV → AV → AV → AHeap → R) (fun _ _ _ _ _ => none) (fun _ q0 t2 t59 t60 t61 H => pLss t61 t60 H fun t62 H =>
 onBool t62 (pIa 1 t59 t61 H fun t63 H =>
 ldK .none H t63 fun t64 H =>
 pO (someAgg (aFill [(.bool false), (.bool false), (.int .u64 (.ofNat 0))] [])) H fun t67 H =>
 pC call n232 [t2, t64, t67] H fun _ H =>
 pAdd t61 (iN 1) H fun t69 H =>
 q0 t2 t59 t60 t69 H) (some (t2, H))) n
def S146_2 (call : CallFn) (t2 t3 t4 : AV) (H : AHeap) : R :=
 ldK (.some 6) H t3 fun t57 H =>
 ldK (.some 5) H t4 fun t58 H =>
 pC call n235 [t57, t58] H fun t59 H =>
 pO (aLen .sl H t59) H fun t60 H =>
 S146_1 call 1000000 t2 t59 t60 (iN 0) H
def S146_3 (call : CallFn) (n : Nat) : AV → AV → AV → AV → AV → AV → AHeap → R :=
 Nat.rec (motive := fun _ => AV → AV → AV → AV → AV → AV → AHeap → R) (fun _ _ _ _ _ _ _ => none) (fun _ q1 t2 t3 t4 t46 t47 t48 H => pLss t48 t47 H fun t49 H =>
 onBool t49 (pIa 1 t46 t48 H fun t50 H =>
 ldK .none H t50 fun t51 H =>
 pO (someAgg (aFill [(.bool false), (.bool false), (.int .u64 (.ofNat 0))] [])) H fun t54 H =>
 pC call n232 [t2, t51, t54] H fun _ H =>
 pAdd t48 (iN 1) H fun t56 H =>
 q1 t2 t3 t4 t46 t47 t56 H) (S146_2 call t2 t3 t4 H)) n
def S146_4 (call : CallFn) (t2 t3 t4 : AV) (H : AHeap) : R :=
 ldK (.some 5) H t4 fun t45 H =>
 pC call n229 [t45] H fun t46 H =>
 pO (aLen .sl H t46) H fun t47 H =>
 S146_3 call 1000000 t2 t3 t4 t46 t47 (iN 0) H
def S146_5 (call : CallFn) (t2 t3 t4 t8 : AV) (H : AHeap) : R :=
 pEql t8 (iN 38) H fun t39 H =>
 onBool t39 (pFa 2 t4 H fun t41 H =>
 ldK .none H t41 fun t42 H =>
 pN (aBsl 1 1 [(iN 0)] [(0, 1, t42)]) H fun t43 H =>
 pC call n144 [t2, t43] H fun _ H =>
 S146_4 call t2 t3 t4 H) (S146_4 call t2 t3 t4 H)
def S146_6 (call : CallFn) (t2 t3 t4 t8 t128 t130 : AV) (H : AHeap) : R :=
 pPick t128 (.bool true) t130 H fun t131 H =>
 onBool t131 (pFa 1 t4 H fun t133 H =>
 ldK .none H t133 fun t134 H =>
 pC call n233 [t2, t134, (.int .u64 (.ofNat 18446744073709551615))] H fun _ H =>
 pFa 3 t4 H fun t137 H =>
 ldK .none H t137 fun t138 H =>
 pN (aBsl 1 1 [(iN 0)] [(0, 1, t138)]) H fun t139 H =>
 pC call n144 [t2, t139] H fun _ H =>
 some (t2, H)) (pC call n234 [t8] H fun t32 H =>
 onBool t32 (ldK (.some 6) H t3 fun t34 H =>
 ldK (.some 5) H t4 fun t35 H =>
 pC call n228 [t34, t35] H fun t36 H =>
 pC call n144 [t2, t36] H fun _ H =>
 S146_5 call t2 t3 t4 t8 H) (S146_5 call t2 t3 t4 t8 H))
def S146_7 (call : CallFn) (t2 t3 t4 t8 t109 t111 : AV) (H : AHeap) : R :=
 pPick t109 (.bool true) t111 H fun t112 H =>
 onBool t112 (pFa 1 t4 H fun t114 H =>
 ldK .none H t114 fun t115 H =>
 pFa 2 t4 H fun t116 H =>
 ldK .none H t116 fun t117 H =>
 pC call n151 [t117] H fun t118 H =>
 andR (andB (ckV (aLoad .none H t114) t115) true) (
 pC call n233 [t2, t115, t118] H fun _ H =>
 pFa 3 t4 H fun t121 H =>
 ldK .none H t121 fun t122 H =>
 pN (aBsl 1 1 [(iN 0)] [(0, 1, t122)]) H fun t123 H =>
 pC call n144 [t2, t123] H fun _ H =>
 some (t2, H))) (pEql t8 (iN 31) H fun t127 H =>
 guardA t127 false (pEql t8 (iN 32) H fun t130 H =>
 S146_6 call t2 t3 t4 t8 t127 t130 H) (S146_6 call t2 t3 t4 t8 t127 U H))
def S146_8 (call : CallFn) (t2 t3 t4 : AV) (H : AHeap) : R :=
 pFa 0 t4 H fun t29 H =>
 ldK .none H t29 fun t30 H =>
 pC call n231 [t30] H fun t72 H =>
 onBool t72 (pEql t30 (iN 36) H fun t74 H =>
 onBool t74 (ldK (.some 6) H t3 fun t76 H =>
 ldK (.some 5) H t4 fun t77 H =>
 pC call n228 [t76, t77] H fun t78 H =>
 pC call n144 [t2, t78] H fun _ H =>
 S146_0 call t2 t4 t30 H) (S146_0 call t2 t4 t30 H)) (pEql t30 (iN 1) H fun t89 H =>
 onBool t89 (pFa 2 t4 H fun t91 H =>
 ldK .none H t91 fun t92 H =>
 pC call n150 [t2, t92] H fun t93 H =>
 pO (aFld 0 .none t93) H fun t94 H =>
 pFa 2 t4 H fun t96 H =>
 ldK .none H t96 fun t97 H =>
 pN (aBsl 1 1 [(iN 0)] [(0, 1, t97)]) H fun t98 H =>
 pC call n144 [t2, t98] H fun _ H =>
 pFa 1 t4 H fun t101 H =>
 ldK .none H t101 fun t102 H =>
 pO (someAgg (aFill [(.bool false), (.bool false), (.int .u64 (.ofNat 0))] [(0, 1, t94)])) H fun t104 H =>
 pC call n232 [t2, t102, t104] H fun _ H =>
 some (t2, H)) (pEql t30 (iN 28) H fun t108 H =>
 guardA t108 false (pEql t30 (iN 29) H fun t111 H =>
 S146_7 call t2 t3 t4 t30 t108 t111 H) (S146_7 call t2 t3 t4 t30 t108 U H)))
def S146_9 (call : CallFn) (n : Nat) : AV → AV → AV → AV → AV → AHeap → R :=
 Nat.rec (motive := fun _ => AV → AV → AV → AV → AV → AHeap → R) (fun _ _ _ _ _ _ => none) (fun _ q2 t2 t3 t4 t20 t21 H => pLss t21 t20 H fun t22 H =>
 onBool t22 (pIa 3 t2 t21 H fun t26 H =>
 pFa 0 t26 H fun t27 H =>
 stK 1 H t27 (.bool false) fun _ H =>
 pAdd t21 (iN 1) H fun t28 H =>
 q2 t2 t3 t4 t20 t28 H) (S146_8 call t2 t3 t4 H)) n
def S146_10 (call : CallFn) (t0 t1 t2 : AV) (H : AHeap) : R :=
 pBox t0 H fun t3 H =>
 pBox t1 H fun t4 H =>
 pC call n143 [t2] H fun t15 H =>
 pFa 0 t4 H fun t16 H =>
 ldK .none H t16 fun t17 H =>
 pC call n230 [t17] H fun t18 H =>
 onBool t18 (pO (aLen .sl H t15) H fun t20 H =>
 S146_9 call 1000000 t15 t3 t4 t20 (iN 0) H) (S146_8 call t15 t3 t4 H)
def S146 : Ff := ⟨fun call l H => argA3 (fun t0 t1 t2 => S146_10 call t0 t1 t2 H) l⟩
def S147_0 (call : CallFn) (t4 t7 : AV) (H : AHeap) : R :=
 pC call n158 [t7, (.fn n236 [] [t4])] H fun t63 H =>
 pC call n237 [t63] H fun _ H =>
 pC call n238 [t63] H fun t67 H =>
 some (t67, H)
def S147_1 (call : CallFn) (n : Nat) : AV → AV → AV → AV → AV → AHeap → R :=
 Nat.rec (motive := fun _ => AV → AV → AV → AV → AV → AHeap → R) (fun _ _ _ _ _ _ => none) (fun _ q0 t4 t7 t49 t50 t51 H => pLss t51 t50 H fun t52 H =>
 onBool t52 (pIa 4 t49 t51 H fun t53 H =>
 ldK (.some 4) H t53 fun t54 H =>
 pNew [(iN 0), (iN 0), (iN 0), (iN 0)] H fun t10 H =>
 stK 4 H t10 t54 fun _ H =>
 pFa 3 t10 H fun t56 H =>
 ldK .none H t56 fun t57 H =>
 pN (aBsl 1 1 [(iN 0)] [(0, 1, t57)]) H fun t58 H =>
 pW (aApp 1 8 H t7 t58) fun t59 H =>
 pAdd t51 (iN 1) H fun t60 H =>
 q0 t4 t59 t49 t50 t60 H) (S147_0 call t4 t7 H)) n
def S147_2 (call : CallFn) (t2 t3 t4 t7 t8 t26 t42 : AV) (H : AHeap) : R :=
 onBool t42 (S147_0 call t4 t7 H) (pEql t26 (iN 41) H fun t46 H =>
 onBool t46 (ldK (.some 6) H t3 fun t47 H =>
 ldK (.some 5) H t8 fun t48 H =>
 pC call n226 [t47, t48] H fun t49 H =>
 pO (aLen .sl H t49) H fun t50 H =>
 S147_1 call 1000000 t4 t7 t49 t50 (iN 0) H) (pAdd t2 (iN 1) H fun t28 H =>
 pN (aBsl 1 1 [(iN 0)] [(0, 1, t28)]) H fun t29 H =>
 S147_0 call t4 t29 H))
def S147_3 (call : CallFn) (t2 t3 t4 t13 t18 : AV) (H : AHeap) : R :=
 pPick t13 (.bool true) t18 H fun t19 H =>
 onBool t19 (some (.nilsl, H)) (pFa 5 t4 H fun t20 H =>
 ldK .none H t20 fun t21 H =>
 pIa 5 t21 t2 H fun t23 H =>
 ldK (.some 5) H t23 fun t24 H =>
 pNew [(iN 0), (iN 0), (iN 0), (iN 0), (iN 0)] H fun t8 H =>
 stK 5 H t8 t24 fun _ H =>
 pFa 0 t8 H fun t25 H =>
 ldK .none H t25 fun t26 H =>
 pEql t26 (iN 18) H fun t31 H =>
 onBool t31 (pFa 1 t8 H fun t32 H =>
 ldK .none H t32 fun t33 H =>
 pN (aBsl 1 1 [(iN 0)] [(0, 1, t33)]) H fun t34 H =>
 S147_0 call t4 t34 H) (pEql t26 (iN 19) H fun t36 H =>
 onBool t36 (pFa 2 t8 H fun t37 H =>
 ldK .none H t37 fun t38 H =>
 pAdd t2 (iN 1) H fun t40 H =>
 pN (aBsl 1 2 [(iN 0)] [(0, 1, t38), (1, 1, t40)]) H fun t41 H =>
 S147_0 call t4 t41 H) (pEql t26 (iN 22) H fun t43 H =>
 onBool t43 (S147_2 call t2 t3 t4 .nilsl t8 t26 t43 H) (pEql t26 (iN 44) H fun t44 H =>
 S147_2 call t2 t3 t4 .nilsl t8 t26 t44 H))))
def S147_4 (call : CallFn) (t0 t1 t2 : AV) (H : AHeap) : R :=
 pBox t0 H fun t3 H =>
 pBox t1 H fun t4 H =>
 pLss t2 (iN 0) H fun t12 H =>
 guardA t12 false (pFa 5 t4 H fun t15 H =>
 ldK .none H t15 fun t16 H =>
 pO (aLen .sl H t16) H fun t17 H =>
 pGeq t2 t17 H fun t18 H =>
 S147_3 call t2 t3 t4 t12 t18 H) (S147_3 call t2 t3 t4 t12 U H)
def S147 : Ff := ⟨fun call l H => argA3 (fun t0 t1 t2 => S147_4 call t0 t1 t2 H) l⟩
def S148_1 (_ : CallFn) (q0 : AV → AV → AV → AV → AV → AHeap → R) (t0 t1 t5 t6 t10 t11 t14 t15 t27 t33 t38 : AV) (H : AHeap) : R :=
 pPick t33 t38 (.bool false) H fun t39 H =>
 pIa 3 t0 t6 H fun t42 H =>
 pFa 2 t42 H fun t43 H =>
 ldK .none H t43 fun t44 H =>
 pIa 3 t1 t6 H fun t47 H =>
 pFa 2 t47 H fun t48 H =>
 ldK .none H t48 fun t49 H =>
 pOr t44 t49 H fun t50 H =>
 pO (someAgg (aFill [(.bool false), (.bool false), (.int .u64 (.ofNat 0))] [(0, 1, t27), (1, 1, t39), (2, 1, t50)])) H fun t51 H =>
 pIa 3 t14 t15 H fun t52 H =>
 stK 3 H t52 t51 fun _ H =>
 pAdd t11 (iN 1) H fun t53 H =>
 q0 t0 t1 t5 t10 t53 H
def S148_2 (call : CallFn) (q0 : AV → AV → AV → AV → AV → AHeap → R) (t0 t1 t5 t6 t10 t11 t14 t15 t27 t33 t37 : AV) (H : AHeap) : R :=
 guardA t33 true (ldK .none H t37 fun t38 H =>
 S148_1 call q0 t0 t1 t5 t6 t10 t11 t14 t15 t27 t33 t38 H) (S148_1 call q0 t0 t1 t5 t6 t10 t11 t14 t15 t27 t33 U H)
def S148_3 (call : CallFn) (q0 : AV → AV → AV → AV → AV → AHeap → R) (t0 t1 t5 t6 t10 t11 t14 t15 t27 t33 t36 : AV) (H : AHeap) : R :=
 guardA t33 true (pFa 1 t36 H fun t37 H =>
 S148_2 call q0 t0 t1 t5 t6 t10 t11 t14 t15 t27 t33 t37 H) (S148_2 call q0 t0 t1 t5 t6 t10 t11 t14 t15 t27 t33 U H)
def S148_4 (call : CallFn) (q0 : AV → AV → AV → AV → AV → AHeap → R) (t0 t1 t5 t6 t10 t11 t14 t15 t27 t33 t34 t35 : AV) (H : AHeap) : R :=
 guardA t33 true (pIa 3 t34 t35 H fun t36 H =>
 S148_3 call q0 t0 t1 t5 t6 t10 t11 t14 t15 t27 t33 t36 H) (S148_3 call q0 t0 t1 t5 t6 t10 t11 t14 t15 t27 t33 U H)
def S148_5 (call : CallFn) (q0 : AV → AV → AV → AV → AV → AHeap → R) (t0 t1 t5 t6 t10 t11 t14 t15 t27 t33 t34 : AV) (H : AHeap) : R :=
 guardA t33 true (S148_4 call q0 t0 t1 t5 t6 t10 t11 t14 t15 t27 t33 t34 t6 H) (S148_4 call q0 t0 t1 t5 t6 t10 t11 t14 t15 t27 t33 t34 U H)
def S148_6 (call : CallFn) (q0 : AV → AV → AV → AV → AV → AHeap → R) (t0 t1 t5 t6 t10 t11 t14 t15 t21 t26 : AV) (H : AHeap) : R :=
 pPick t21 t26 (.bool false) H fun t27 H =>
 pIa 3 t0 t6 H fun t30 H =>
 pFa 1 t30 H fun t31 H =>
 ldK .none H t31 fun t32 H =>
 guardA t32 true (S148_5 call q0 t0 t1 t5 t6 t10 t11 t14 t15 t27 t32 t1 H) (S148_5 call q0 t0 t1 t5 t6 t10 t11 t14 t15 t27 t32 U H)
def S148_7 (call : CallFn) (q0 : AV → AV → AV → AV → AV → AHeap → R) (t0 t1 t5 t6 t10 t11 t14 t15 t21 t25 : AV) (H : AHeap) : R :=
 guardA t21 true (ldK .none H t25 fun t26 H =>
 S148_6 call q0 t0 t1 t5 t6 t10 t11 t14 t15 t21 t26 H) (S148_6 call q0 t0 t1 t5 t6 t10 t11 t14 t15 t21 U H)
def S148_8 (call : CallFn) (q0 : AV → AV → AV → AV → AV → AHeap → R) (t0 t1 t5 t6 t10 t11 t14 t15 t21 t24 : AV) (H : AHeap) : R :=
 guardA t21 true (pFa 0 t24 H fun t25 H =>
 S148_7 call q0 t0 t1 t5 t6 t10 t11 t14 t15 t21 t25 H) (S148_7 call q0 t0 t1 t5 t6 t10 t11 t14 t15 t21 U H)
def S148_9 (call : CallFn) (q0 : AV → AV → AV → AV → AV → AHeap → R) (t0 t1 t5 t6 t10 t11 t14 t15 t21 t22 t23 : AV) (H : AHeap) : R :=
 guardA t21 true (pIa 3 t22 t23 H fun t24 H =>
 S148_8 call q0 t0 t1 t5 t6 t10 t11 t14 t15 t21 t24 H) (S148_8 call q0 t0 t1 t5 t6 t10 t11 t14 t15 t21 U H)
def S148_10 (call : CallFn) (q0 : AV → AV → AV → AV → AV → AHeap → R) (t0 t1 t5 t6 t10 t11 t14 t15 t21 t22 : AV) (H : AHeap) : R :=
 guardA t21 true (S148_9 call q0 t0 t1 t5 t6 t10 t11 t14 t15 t21 t22 t6 H) (S148_9 call q0 t0 t1 t5 t6 t10 t11 t14 t15 t21 t22 U H)
def S148_0 (call : CallFn) (n : Nat) : AV → AV → AV → AV → AV → AHeap → R :=
 Nat.rec (motive := fun _ => AV → AV → AV → AV → AV → AHeap → R) (fun _ _ _ _ _ _ => none) (fun _ q0 t0 t1 t5 t10 t11 H => pLss t11 t10 H fun t12 H =>
 onBool t12 (pIa 3 t0 t11 H fun t18 H =>
 pFa 0 t18 H fun t19 H =>
 ldK .none H t19 fun t20 H =>
 guardA t20 true (S148_10 call q0 t0 t1 t5 t11 t10 t11 t5 t11 t20 t1 H) (S148_10 call q0 t0 t1 t5 t11 t10 t11 t5 t11 t20 U H)) (some (t5, H))) n
def S148_11 (call : CallFn) (t0 t1 : AV) (H : AHeap) : R :=
 pC call n143 [t0] H fun t8 H =>
 pO (aLen .sl H t8) H fun t10 H =>
 S148_0 call 1000000 t0 t1 t8 t10 (iN 0) H
def S148 : Ff := ⟨fun call l H => argA2 (fun t0 t1 => S148_11 call t0 t1 H) l⟩
def S149_0 (_ : CallFn) (n : Nat) : AV → AV → AV → AV → AHeap → R :=
 Nat.rec (motive := fun _ => AV → AV → AV → AV → AHeap → R) (fun _ _ _ _ _ => none) (fun _ q0 t0 t1 t12 t13 H => pLss t13 t12 H fun t14 H =>
 onBool t14 (pIa 3 t0 t13 H fun t18 H =>
 ldK (.some 3) H t18 fun t19 H =>
 pIa 3 t1 t13 H fun t22 H =>
 ldK (.some 3) H t22 fun t23 H =>
 pO (aEq true (.struct [(0, .none, .bool), (1, .none, .bool), (2, .none, .int)]) t19 t23) H fun t24 H =>
 onBool t24 (some ((.bool false), H)) (pAdd t13 (iN 1) H fun t25 H =>
 q0 t0 t1 t12 t25 H)) (some ((.bool true), H))) n
def S149_1 (call : CallFn) (t0 t1 : AV) (H : AHeap) : R :=
 pO (aLen .sl H t0) H fun t7 H =>
 pO (aLen .sl H t1) H fun t9 H =>
 pNeq t7 t9 H fun t10 H =>
 onBool t10 (some ((.bool false), H)) (pO (aLen .sl H t0) H fun t12 H =>
 S149_0 call 1000000 t0 t1 t12 (iN 0) H)
def S149 : Ff := ⟨fun call l H => argA2 (fun t0 t1 => S149_1 call t0 t1 H) l⟩
def S157_0 (_ : CallFn) (t1 t2 t6 t8 t40 t43 : AV) (H : AHeap) : R :=
 pPick t40 (.bool true) t43 H fun t44 H =>
 onBool t44 (pO (someAgg (aFill [(.int .i64 (.ofNat 0)), (.int .i64 (.ofNat 0)), .nilsl] [])) H fun t45 H =>
 stK 3 H t6 t45 fun _ H =>
 ob (allM (fun o => o) [aLoad (.some 3) H t6, some (.int .i64 (.ofNat 1))]) fun vs => some (resV vs, H)) (pFa 2 t8 H fun t46 H =>
 ldK .none H t46 fun t47 H =>
 pN (aMksl 1 8 [(.int .i64 (.ofNat 0))] t47 t47) H fun t48 H =>
 pW (aCopy 1 H t48 t2) fun _ H =>
 pO (someAgg (aFill [(.int .i64 (.ofNat 0)), (.int .i64 (.ofNat 0)), .nilsl] [(0, 1, t1), (2, 1, t48)])) H fun t54 H =>
 stK 3 H t6 t54 fun _ H =>
 ob (allM (fun o => o) [aLoad (.some 3) H t6, some (.int .i64 (.ofNat 0))]) fun vs => some (resV vs, H))
def S157_1 (call : CallFn) (t1 t2 t6 t8 t33 t38 : AV) (H : AHeap) : R :=
 pPick t33 (.bool true) t38 H fun t39 H =>
 guardA t39 false (pFa 2 t8 H fun t41 H =>
 ldK .none H t41 fun t42 H =>
 pGtr t42 (.int .i64 (.ofNat 64)) H fun t43 H =>
 S157_0 call t1 t2 t6 t8 t39 t43 H) (S157_0 call t1 t2 t6 t8 t39 U H)
def S157_2 (call : CallFn) (t1 t2 t3 t6 t12 t17 : AV) (H : AHeap) : R :=
 pPick t12 (.bool true) t17 H fun t18 H =>
 onBool t18 (pO (someAgg (aFill [(.int .i64 (.ofNat 0)), (.int .i64 (.ofNat 0)), .nilsl] [])) H fun t19 H =>
 stK 3 H t6 t19 fun _ H =>
 ob (allM (fun o => o) [aLoad (.some 3) H t6, some (.int .i64 (.ofNat 1))]) fun vs => some (resV vs, H)) (pFa 4 t3 H fun t20 H =>
 ldK .none H t20 fun t21 H =>
 pIa 7 t21 t1 H fun t23 H =>
 ldK (.some 7) H t23 fun t24 H =>
 pNew [(.int .i64 (.ofNat 0)), (.int .i64 (.ofNat 0)), (.int .i64 (.ofNat 0)), (.int .i64 (.ofNat 0)), .nilsl, .nilsl, .nilsl] H fun t8 H =>
 stK 7 H t8 t24 fun _ H =>
 pO (aLen .sl H t2) H fun t26 H =>
 pFa 0 t8 H fun t27 H =>
 ldK .none H t27 fun t28 H =>
 pFa 1 t8 H fun t29 H =>
 ldK .none H t29 fun t30 H =>
 pAdd t28 t30 H fun t31 H =>
 pNeq t26 t31 H fun t32 H =>
 guardA t32 false (pO (aLen .sl H t2) H fun t35 H =>
 pFa 2 t8 H fun t36 H =>
 ldK .none H t36 fun t37 H =>
 pGtr t35 t37 H fun t38 H =>
 S157_1 call t1 t2 t6 t8 t32 t38 H) (S157_1 call t1 t2 t6 t8 t32 U H))
def S157_3 (call : CallFn) (t0 t1 t2 : AV) (H : AHeap) : R :=
 pBox t0 H fun t3 H =>
 pNew [(.int .i64 (.ofNat 0)), (.int .i64 (.ofNat 0)), .nilsl] H fun t6 H =>
 pLss t1 (.int .i64 (.ofNat 0)) H fun t11 H =>
 guardA t11 false (pFa 4 t3 H fun t14 H =>
 ldK .none H t14 fun t15 H =>
 pO (aLen .sl H t15) H fun t16 H =>
 pGeq t1 t16 H fun t17 H =>
 S157_2 call t1 t2 t3 t6 t11 t17 H) (S157_2 call t1 t2 t3 t6 t11 U H)
def S157 : Ff := ⟨fun call l H => argA3 (fun t0 t1 t2 => S157_3 call t0 t1 t2 H) l⟩
def S158_0 (_ : CallFn) (t0 t5 : AV) (H : AHeap) : R :=
 pO (aSlice 1 H t0 (.some t5) .none .none) H fun t38 H =>
 pW (unitW (aClearS [(.int .i64 (.ofNat 0))] H t38)) fun _ H =>
 pO (aSlice 1 H t0 .none (.some t5) .none) H fun t41 H =>
 some (t41, H)
def S158_2 (_ : CallFn) (q0 : AV → AV → AV → AV → AHeap → R) (t0 t1 t5 t6 : AV) (H : AHeap) : R :=
 pAdd t6 (.int .i64 (.ofNat 1)) H fun t21 H =>
 q0 t0 t1 t5 t21 H
def S158_1 (call : CallFn) (n : Nat) : AV → AV → AV → AV → AHeap → R :=
 Nat.rec (motive := fun _ => AV → AV → AV → AV → AHeap → R) (fun _ _ _ _ _ => none) (fun _ q0 t0 t1 t5 t6 H => pO (aLen .sl H t0) H fun t18 H =>
 pLss t6 t18 H fun t19 H =>
 onBool t19 (pIa 1 t0 t6 H fun t24 H =>
 ldK .none H t24 fun t25 H =>
 pV call t1 [t25] H fun t28 H =>
 pO (aUn .not t28) H fun t29 H =>
 onBool t29 (pIa 1 t0 t5 H fun t33 H =>
 stK 1 H t33 t25 fun _ H =>
 pAdd t5 (.int .i64 (.ofNat 1)) H fun t35 H =>
 S158_2 call q0 t0 t1 t35 t6 H) (S158_2 call q0 t0 t1 t5 t6 H)) (S158_0 call t0 t5 H)) n
def S158_3 (call : CallFn) (t0 t1 : AV) (H : AHeap) : R :=
 pC call n241 [t0, t1] H fun t10 H =>
 pEql t10 (.int .i64 (.negSucc 0)) H fun t12 H =>
 onBool t12 (some (t0, H)) (pAdd t10 (.int .i64 (.ofNat 1)) H fun t15 H =>
 S158_1 call 1000000 t0 t1 t10 t15 H)
def S158 : Ff := ⟨fun call l H => argA2 (fun t0 t1 => S158_3 call t0 t1 H) l⟩
def S159_0 (call : CallFn) (t0 : AV) (H : AHeap) : R :=
 pO (aNil t0) H fun t4 H =>
 pFa 6 t4 H fun t5 H =>
 ldK .none H t5 fun t6 H =>
 pC call n243 [t6] H fun t7 H =>
 pC call n242 [t7] H fun t8 H =>
 some (t8, H)
def S159 : Ff := ⟨fun call l H => argA1 (fun t0 => S159_0 call t0 H) l⟩
def S160_0 (call : CallFn) (t0 t1 t2 : AV) (H : AHeap) : R :=
 ldK .none H t1 fun t5 H =>
 ldK .none H t2 fun t6 H =>
 pC call n161 [t5, t6, t0] H fun t8 H =>
 pO (aLen .sl H t8) H fun t9 H =>
 pEql t9 (.int .i64 (.ofNat 0)) H fun t10 H =>
 some (t10, H)
def S160 : Ff := ⟨fun call l H => argA3 (fun t0 t1 t2 => S160_0 call t0 t1 t2 H) l⟩
def S161_0 (_ : CallFn) (t11 t12 t74 t76 : AV) (H : AHeap) : R :=
 pPick t74 t76 (.bool false) H fun t77 H =>
 onBool t77 (pO (someAgg (aFill [(.int .i64 (.ofNat 0)), (.int .i64 (.ofNat 0)), (.int .i64 (.ofNat 0))] [(0, 1, t11), (1, 1, (.int .i64 (.ofNat 0))), (2, 1, (.int .i64 (.negSucc 0)))])) H fun t79 H =>
 pN (aBsl 3 1 [(.int .i64 (.ofNat 0)), (.int .i64 (.ofNat 0)), (.int .i64 (.ofNat 0))] [(0, 3, t79)]) H fun t80 H =>
 some (t80, H)) (some (t12, H))
def S161_1 (call : CallFn) (t11 t12 : AV) (H : AHeap) : R :=
 pO (aLen .sl H t12) H fun t72 H =>
 pEql t72 (.int .i64 (.ofNat 0)) H fun t73 H =>
 guardA t73 true (pNeq t11 (.int .i64 (.negSucc 0)) H fun t76 H =>
 S161_0 call t11 t12 t73 t76 H) (S161_0 call t11 t12 t73 U H)
def S161_2 (call : CallFn) (n : Nat) : AV → AV → AV → AV → AV → AV → AV → AV → AHeap → R :=
 Nat.rec (motive := fun _ => AV → AV → AV → AV → AV → AV → AV → AV → AHeap → R) (fun _ _ _ _ _ _ _ _ _ => none) (fun _ q0 t0 t1 t2 t11 t12 t57 t58 t59 H => pLss t59 t58 H fun t60 H =>
 onBool t60 (pIa 4 t57 t59 H fun t61 H =>
 ldK (.some 4) H t61 fun t62 H =>
 pNew [(.int .i64 (.ofNat 0)), (.bool false), (.int .i64 (.ofNat 0)), (.bool false)] H fun t14 H =>
 stK 4 H t14 t62 fun _ H =>
 ldK (.some 4) H t14 fun t67 H =>
 pC call n245 [t0, t1, t2, t67] H fun t68 H =>
 pW (aApp 3 24 H t12 t68) fun t69 H =>
 pAdd t59 (.int .i64 (.ofNat 1)) H fun t70 H =>
 q0 t0 t1 t2 t11 t69 t57 t58 t70 H) (S161_1 call t11 t12 H)) n
def S161_3 (call : CallFn) (t0 t1 t2 t7 t8 t42 t45 : AV) (H : AHeap) : R :=
 pPick t42 t45 (.bool false) H fun t46 H =>
 onBool t46 (pO (someAgg (aFill [(.int .i64 (.ofNat 0)), (.int .i64 (.ofNat 0)), (.int .i64 (.ofNat 0))] [(0, 1, (.int .i64 (.negSucc 0))), (1, 1, (.int .i64 (.ofNat 0))), (2, 1, (.int .i64 (.negSucc 0)))])) H fun t47 H =>
 pN (aBsl 3 1 [(.int .i64 (.ofNat 0)), (.int .i64 (.ofNat 0)), (.int .i64 (.ofNat 0))] [(0, 3, t47)]) H fun t48 H =>
 some (t48, H)) (ldK (.some 5) H t8 fun t53 H =>
 pC call n244 [t0, t1, t7, t53] H fun t54 H =>
 pExt t54 0 H fun t55 H =>
 pExt t54 1 H fun t56 H =>
 pO (aLen .sl H t55) H fun t58 H =>
 S161_2 call 1000000 t0 t1 t2 t56 .nilsl t55 t58 (.int .i64 (.ofNat 0)) H)
def S161_4 (call : CallFn) (t0 t1 t2 t7 t8 t37 t40 : AV) (H : AHeap) : R :=
 pPick t37 t40 (.bool false) H fun t41 H =>
 guardA t41 true (pFa 0 t8 H fun t43 H =>
 ldK .none H t43 fun t44 H =>
 pNeq t44 (.int .i64 (.ofNat 41)) H fun t45 H =>
 S161_3 call t0 t1 t2 t7 t8 t41 t45 H) (S161_3 call t0 t1 t2 t7 t8 t41 U H)
def S161_5 (call : CallFn) (t0 t1 t2 : AV) (H : AHeap) : R :=
 pO (aNil t0) H fun t16 H =>
 pFa 6 t16 H fun t17 H =>
 ldK .none H t17 fun t18 H =>
 pO (aLook .int .nilp false H t18 t2) H fun t20 H =>
 pO (aEq false .ptr t20 .nilp) H fun t22 H =>
 onBool t22 (some (.nilsl, H)) (pO (aNil t0) H fun t26 H =>
 pFa 0 t26 H fun t27 H =>
 ldK (.some 6) H t27 fun t28 H =>
 pC call n109 [t20, t28] H fun t29 H =>
 pExt t29 0 H fun t30 H =>
 pExt t29 1 H fun t31 H =>
 pNew [(.int .i64 (.ofNat 0)), (.int .i64 (.ofNat 0)), (.int .i64 (.ofNat 0)), (.int .i64 (.ofNat 0)), (.int .i64 (.ofNat 0))] H fun t8 H =>
 stK 5 H t8 t30 fun _ H =>
 pO (aUn .not t31) H fun t33 H =>
 onBool t33 (some (.nilsl, H)) (pFa 0 t8 H fun t34 H =>
 ldK .none H t34 fun t35 H =>
 pNeq t35 (.int .i64 (.ofNat 38)) H fun t36 H =>
 guardA t36 true (pFa 0 t8 H fun t38 H =>
 ldK .none H t38 fun t39 H =>
 pNeq t39 (.int .i64 (.ofNat 39)) H fun t40 H =>
 S161_4 call t0 t1 t2 t20 t8 t36 t40 H) (S161_4 call t0 t1 t2 t20 t8 t36 U H)))
def S161 : Ff := ⟨fun call l H => argA3 (fun t0 t1 t2 => S161_5 call t0 t1 t2 H) l⟩
def S162_0 (call : CallFn) (t0 t1 : AV) (H : AHeap) : R :=
 pI Tryz.prog call t1 "Stacks" [] H fun t8 H =>
 pC call n246 [t8] H fun t9 H =>
 pC call n158 [t9, (.fn n247 [t0] [])] H fun t12 H =>
 pO (aLen .sl H t12) H fun t14 H =>
 pEql t14 (.int .i64 (.ofNat 0)) H fun t15 H =>
 onBool t15 (some (.tup [(.int .i64 (.ofNat 0)), (.bool false)], H)) (pC call n248 [t12] H fun t17 H =>
 some (.tup [t17, (.bool true)], H))
def S162 : Ff := ⟨fun call l H => argA2 (fun t0 t1 => S162_0 call t0 t1 H) l⟩
def S163_0 (call : CallFn) (t0 t1 t2 t18 t23 : AV) (H : AHeap) : R :=
 pPick t18 (.bool true) t23 H fun t24 H =>
 onBool t24 (some ((.bool false), H)) (pI Tryz.prog call t1 "Stack" [t2] H fun t28 H =>
 pC call n169 [t0, t28] H fun _ H =>
 pO (aNil t0) H fun t31 H =>
 pFa 5 t31 H fun t32 H =>
 ldK .none H t32 fun t33 H =>
 pW (unitW (aMapUp .int H t33 t2 (.bool true))) fun _ H =>
 some ((.bool true), H))
def S163_1 (call : CallFn) (t0 t1 t2 t10 t16 : AV) (H : AHeap) : R :=
 pPick t10 (.bool true) t16 H fun t17 H =>
 guardA t17 false (pI Tryz.prog call t1 "Stacks" [] H fun t20 H =>
 pC call n117 [t20, t2] H fun t22 H =>
 pO (aUn .not t22) H fun t23 H =>
 S163_0 call t0 t1 t2 t17 t23 H) (S163_0 call t0 t1 t2 t17 U H)
def S163_2 (call : CallFn) (t0 t1 t2 : AV) (H : AHeap) : R :=
 pC call n249 [t0] H fun t8 H =>
 pO (aUn .not t8) H fun t9 H =>
 guardA t9 false (pO (aNil t0) H fun t12 H =>
 pFa 5 t12 H fun t13 H =>
 ldK .none H t13 fun t14 H =>
 pO (aLook .int (.bool false) false H t14 t2) H fun t16 H =>
 S163_1 call t0 t1 t2 t9 t16 H) (S163_1 call t0 t1 t2 t9 U H)
def S163 : Ff := ⟨fun call l H => argA3 (fun t0 t1 t2 => S163_2 call t0 t1 t2 H) l⟩
def S164_0 (call : CallFn) (n : Nat) : AV → AV → AV → AV → AHeap → R :=
 Nat.rec (motive := fun _ => AV → AV → AV → AV → AHeap → R) (fun _ _ _ _ _ => none) (fun _ q0 t0 t19 t20 t21 H => pLss t21 t20 H fun t22 H =>
 onBool t22 (pIa 1 t19 t21 H fun t23 H =>
 ldK .none H t23 fun t24 H =>
 pC call n252 [t0, t24] H fun _ H =>
 pAdd t21 (.int .i64 (.ofNat 1)) H fun t28 H =>
 q0 t0 t19 t20 t28 H) (some ((.bool true), H))) n
def S164_1 (call : CallFn) (t0 : AV) (H : AHeap) : R :=
 pO (aNil t0) H fun t9 H =>
 pFa 2 t9 H fun t10 H =>
 ldK .none H t10 fun t11 H =>
 pC call n250 [t11] H fun t12 H =>
 pExt t12 0 H fun t13 H =>
 pExt t12 1 H fun t14 H =>
 pO (aUn .not t14) H fun t16 H =>
 onBool t16 (some ((.bool false), H)) (pC call n251 [t0, t13] H fun t19 H =>
 pO (aLen .sl H t19) H fun t20 H =>
 S164_0 call 1000000 t0 t19 t20 (.int .i64 (.ofNat 0)) H)
def S164 : Ff := ⟨fun call l H => argA1 (fun t0 => S164_1 call t0 H) l⟩
def S165_0 (call : CallFn) (n : Nat) : AV → AV → AV → AHeap → R :=
 Nat.rec (motive := fun _ => AV → AV → AV → AHeap → R) (fun _ _ _ _ => none) (fun _ q0 t0 t7 t8 H => pLss t8 t7 H fun t9 H =>
 onBool t9 (pO (aNil t0) H fun t12 H =>
 pFa 1 t12 H fun t13 H =>
 ldK .none H t13 fun t14 H =>
 pO (aNil t0) H fun t17 H =>
 pFa 0 t17 H fun t18 H =>
 ldK .none H t18 fun t19 H =>
 pC call n253 [t19, t8] H fun t21 H =>
 andR (andB (ckV (aLoad .none H t13) t14) true) (
 pNeq t21 (.int .i64 (.negSucc 0)) H fun t22 H =>
 pIa 1 t14 t8 H fun t23 H =>
 stK 1 H t23 t22 fun _ H =>
 pAdd t8 (.int .i64 (.ofNat 1)) H fun t24 H =>
 q0 t0 t7 t24 H)) (some (.tup [], H))) n
def S165_1 (call : CallFn) (t0 : AV) (H : AHeap) : R :=
 pO (aNil t0) H fun t4 H =>
 pFa 1 t4 H fun t5 H =>
 ldK .none H t5 fun t6 H =>
 pO (aLen .sl H t6) H fun t7 H =>
 S165_0 call 1000000 t0 t7 (.int .i64 (.ofNat 0)) H
def S165 : Ff := ⟨fun call l H => argA1 (fun t0 => S165_1 call t0 H) l⟩
def S166_0 (call : CallFn) (n : Nat) : AV → AV → AV → AV → AHeap → R :=
 Nat.rec (motive := fun _ => AV → AV → AV → AV → AHeap → R) (fun _ _ _ _ _ => none) (fun _ q0 t0 t8 t9 t10 H => pLss t10 t9 H fun t11 H =>
 onBool t11 (pIa 1 t8 t10 H fun t13 H =>
 ldK .none H t13 fun t14 H =>
 onBool t14 (pC call n254 [t0, t10] H fun _ H =>
 some ((.bool true), H)) (pAdd t10 (.int .i64 (.ofNat 1)) H fun t19 H =>
 q0 t0 t8 t9 t19 H)) (some ((.bool false), H))) n
def S166_1 (call : CallFn) (t0 : AV) (H : AHeap) : R :=
 pO (aNil t0) H fun t6 H =>
 pFa 1 t6 H fun t7 H =>
 ldK .none H t7 fun t8 H =>
 pO (aLen .sl H t8) H fun t9 H =>
 S166_0 call 1000000 t0 t8 t9 (.int .i64 (.ofNat 0)) H
def S166 : Ff := ⟨fun call l H => argA1 (fun t0 => S166_1 call t0 H) l⟩
def S167_0 (call : CallFn) (n : Nat) : AV → AV → AV → AV → AHeap → R :=
 Nat.rec (motive := fun _ => AV → AV → AV → AV → AHeap → R) (fun _ _ _ _ _ => none) (fun _ q0 t0 t3 t9 t10 H => pLss t10 t9 H fun t11 H =>
 onBool t11 (pO (aNil t0) H fun t15 H =>
 pFa 0 t15 H fun t16 H =>
 ldK .none H t16 fun t17 H =>
 pO (aNil t0) H fun t22 H =>
 pFa 0 t22 H fun t23 H =>
 ldK .none H t23 fun t24 H =>
 pC call n256 [t17, t10] H fun t19 H =>
 andR (andB (ckV (aLoad .none H t23) t24) true) (
 pC call n255 [t19] H fun t20 H =>
 andR (andB (ckV (aLoad .none H t23) t24) true) (
 pC call n253 [t24, t10] H fun t26 H =>
 pC call n257 [t26] H fun t27 H =>
 pMul t20 t27 H fun t28 H =>
 pAdd t3 t28 H fun t29 H =>
 pAdd t10 (.int .i64 (.ofNat 1)) H fun t30 H =>
 q0 t0 t29 t9 t30 H))) (some (t3, H))) n
def S167_1 (call : CallFn) (t0 : AV) (H : AHeap) : R :=
 pO (aNil t0) H fun t6 H =>
 pFa 1 t6 H fun t7 H =>
 ldK .none H t7 fun t8 H =>
 pO (aLen .sl H t8) H fun t9 H =>
 S167_0 call 1000000 t0 (.int .i64 (.ofNat 0)) t9 (.int .i64 (.ofNat 0)) H
def S167 : Ff := ⟨fun call l H => argA1 (fun t0 => S167_1 call t0 H) l⟩
def S168_0 (_ : CallFn) (n : Nat) : AV → AV → AV → AHeap → R :=
 Nat.rec (motive := fun _ => AV → AV → AV → AHeap → R) (fun _ _ _ _ => none) (fun _ q0 t0 t7 t8 H => pLss t8 t7 H fun t9 H =>
 onBool t9 (pO (aNil t0) H fun t12 H =>
 pFa 1 t12 H fun t13 H =>
 ldK .none H t13 fun t14 H =>
 pIa 3 t14 t8 H fun t16 H =>
 pFa 2 t16 H fun t17 H =>
 stK 1 H t17 (.int .u64 (.ofNat 0)) fun _ H =>
 pAdd t8 (.int .i64 (.ofNat 1)) H fun t18 H =>
 q0 t0 t7 t18 H) (some (.tup [], H))) n
def S168_1 (call : CallFn) (t0 : AV) (H : AHeap) : R :=
 pO (aNil t0) H fun t4 H =>
 pFa 1 t4 H fun t5 H =>
 ldK .none H t5 fun t6 H =>
 pO (aLen .sl H t6) H fun t7 H =>
 S168_0 call 1000000 t0 t7 (.int .i64 (.ofNat 0)) H
def S168 : Ff := ⟨fun call l H => argA1 (fun t0 => S168_1 call t0 H) l⟩
def S169_0 (call : CallFn) (n : Nat) : AV → AV → AV → AV → AHeap → R :=
 Nat.rec (motive := fun _ => AV → AV → AV → AV → AHeap → R) (fun _ _ _ _ _ => none) (fun _ q0 t0 t6 t7 t8 H => pLss t8 t7 H fun t9 H =>
 onBool t9 (pIa 1 t6 t8 H fun t10 H =>
 ldK .none H t10 fun t11 H =>
 pO (aNil t0) H fun t13 H =>
 pFa 3 t13 H fun t14 H =>
 ldK .none H t14 fun t15 H =>
 pC call n252 [t15, t11] H fun _ H =>
 pAdd t8 (.int .i64 (.ofNat 1)) H fun t18 H =>
 q0 t0 t6 t7 t18 H) (some (.tup [], H))) n
def S169_1 (call : CallFn) (t0 t1 : AV) (H : AHeap) : R :=
 pO (aLen .sl H t1) H fun t7 H =>
 S169_0 call 1000000 t0 t1 t7 (.int .i64 (.ofNat 0)) H
def S169 : Ff := ⟨fun call l H => argA2 (fun t0 t1 => S169_1 call t0 t1 H) l⟩
def S170_0 (_ : CallFn) (t0 : AV) (H : AHeap) : R :=
 pO (aNil t0) H fun t4 H =>
 pFa 0 t4 H fun t5 H =>
 ldK .none H t5 fun t6 H =>
 pO (aLen .sl H t6) H fun t7 H =>
 pEql t7 (.int .i64 (.ofNat 0)) H fun t8 H =>
 onBool t8 (some (.nilp, H)) (pO (aNil t0) H fun t10 H =>
 pFa 0 t10 H fun t11 H =>
 ldK .none H t11 fun t12 H =>
 pO (aNil t0) H fun t14 H =>
 pFa 0 t14 H fun t15 H =>
 ldK .none H t15 fun t16 H =>
 pO (aLen .sl H t16) H fun t17 H =>
 pSub t17 (.int .i64 (.ofNat 1)) H fun t18 H =>
 pIa 3 t12 t18 H fun t19 H =>
 some (t19, H))
def S170 : Ff := ⟨fun call l H => argA1 (fun t0 => S170_0 call t0 H) l⟩
def S171_0 (call : CallFn) (t0 : AV) (H : AHeap) : R :=
 pBox t0 H fun t1 H =>
 pNew [(.int .i64 (.ofNat 0)), (.int .i64 (.ofNat 0)), .nilsl] H fun t2 H =>
 pFa 2 t1 H fun t3 H =>
 ldK .none H t3 fun t4 H =>
 pC call n98 [t4] H fun t5 H =>
 pFa 2 t1 H fun t6 H =>
 stK 1 H t6 t5 fun _ H =>
 ldK (.some 3) H t1 fun t7 H =>
 stK 3 H t2 t7 fun _ H =>
 ob (allM (fun o => o) [aLoad (.some 3) H t2]) fun vs => some (resV vs, H)
def S171 : Ff := ⟨fun call l H => argA1 (fun t0 => S171_0 call t0 H) l⟩
def S172_0 (call : CallFn) (t0 : AV) (H : AHeap) : R :=
 pO (aNil t0) H fun t7 H =>
 pFa 3 t7 H fun t8 H =>
 ldK (.some 5) H t8 fun t9 H =>
 pO (aNil t0) H fun t11 H =>
 pFa 2 t11 H fun t12 H =>
 ldK .none H t12 fun t13 H =>
 pNew [(.int .i64 (.ofNat 0)), (.int .i64 (.ofNat 0)), (.int .i64 (.ofNat 0)), (.int .i64 (.ofNat 0)), (.int .i64 (.ofNat 0))] H fun t2 H =>
 stK 5 H t2 t9 fun _ H =>
 andR (andB (ckV (aLoad .none H t12) t13) true) (
 pFa 0 t2 H fun t14 H =>
 ldK .none H t14 fun t15 H =>
 pEql t15 (.int .i64 (.ofNat 0)) H fun t40 H =>
 onBool t40 (pO (aNil t0) H fun t43 H =>
 pFa 0 t43 H fun t44 H =>
 ldK .none H t44 fun t45 H =>
 pO (aNil t45) H fun t46 H =>
 pFa 0 t46 H fun t47 H =>
 pFa 2 t47 H fun t48 H =>
 ldK .none H t48 fun t49 H =>
 pFa 2 t2 H fun t50 H =>
 ldK .none H t50 fun t51 H =>
 pIa 1 t49 t51 H fun t52 H =>
 ldK .none H t52 fun t53 H =>
 pC call n258 [t0, t53] H fun _ H =>
 some (.tup [], H)) (pEql t15 (.int .i64 (.ofNat 1)) H fun t56 H =>
 onBool t56 (pFa 2 t2 H fun t59 H =>
 ldK .none H t59 fun t60 H =>
 pC call n176 [t13, t60] H fun t61 H =>
 pC call n258 [t0, t61] H fun _ H =>
 some (.tup [], H)) (pEql t15 (.int .i64 (.ofNat 2)) H fun t64 H =>
 onBool t64 (pC call n258 [t0, (.int .i64 (.ofNat 0))] H fun _ H =>
 some (.tup [], H)) (pEql t15 (.int .i64 (.ofNat 17)) H fun t68 H =>
 onBool t68 (pFa 2 t2 H fun t71 H =>
 ldK .none H t71 fun t72 H =>
 pC call n176 [t13, t72] H fun t73 H =>
 pEql t73 (.int .i64 (.ofNat 0)) H fun t74 H =>
 pC call n259 [t74] H fun t75 H =>
 pC call n258 [t0, t75] H fun _ H =>
 some (.tup [], H)) (pEql t15 (.int .i64 (.ofNat 18)) H fun t78 H =>
 onBool t78 (pFa 1 t2 H fun t80 H =>
 ldK .none H t80 fun t81 H =>
 pC call n260 [t13, t81] H fun _ H =>
 some (.tup [], H)) (pEql t15 (.int .i64 (.ofNat 19)) H fun t84 H =>
 onBool t84 (pC call n177 [t0] H fun _ H =>
 pFa 1 t2 H fun t88 H =>
 ldK .none H t88 fun t89 H =>
 pC call n176 [t13, t89] H fun t90 H =>
 pNeq t90 (.int .i64 (.ofNat 0)) H fun t91 H =>
 onBool t91 (pFa 2 t2 H fun t93 H =>
 ldK .none H t93 fun t94 H =>
 pC call n260 [t13, t94] H fun _ H =>
 some (.tup [], H)) (some (.tup [], H))) (pEql t15 (.int .i64 (.ofNat 43)) H fun t97 H =>
 onBool t97 (pC call n177 [t0] H fun _ H =>
 some (.tup [], H)) (pFa 0 t2 H fun t17 H =>
 ldK .none H t17 fun t18 H =>
 pFa 2 t2 H fun t20 H =>
 ldK .none H t20 fun t21 H =>
 pFa 3 t2 H fun t24 H =>
 ldK .none H t24 fun t25 H =>
 pC call n176 [t13, t21] H fun t22 H =>
 andR (andB (ckV (aLoad .none H t17) t18) (andB (ckV (aLoad .none H t24) t25) true)) (
 pC call n176 [t13, t25] H fun t26 H =>
 andR (andB (ckV (aLoad .none H t17) t18) true) (
 pC call n261 [t18, t22, t26] H fun t27 H =>
 pExt t27 0 H fun t28 H =>
 pExt t27 1 H fun t29 H =>
 onBool t29 (pC call n258 [t0, t28] H fun _ H =>
 some (.tup [], H)) (pO (aNil t0) H fun t35 H =>
 pFa 0 t35 H fun t36 H =>
 ldK .none H t36 fun t37 H =>
 pC call n178 [t37, (.int .i64 (.ofNat 3))] H fun _ H =>
 some (.tup [], H))))))))))))
def S172 : Ff := ⟨fun call l H => argA1 (fun t0 => S172_0 call t0 H) l⟩
def S173_0 (call : CallFn) (t0 : AV) (H : AHeap) : R :=
 pO (aNil t0) H fun t11 H =>
 pFa 3 t11 H fun t12 H =>
 ldK (.some 5) H t12 fun t13 H =>
 pNew [(.int .i64 (.ofNat 0)), (.int .i64 (.ofNat 0)), (.int .i64 (.ofNat 0)), (.int .i64 (.ofNat 0)), (.int .i64 (.ofNat 0))] H fun t2 H =>
 stK 5 H t2 t13 fun _ H =>
 pFa 0 t2 H fun t14 H =>
 ldK .none H t14 fun t15 H =>
 pEql t15 (.int .i64 (.ofNat 20)) H fun t17 H =>
 onBool t17 (pFa 2 t2 H fun t19 H =>
 ldK .none H t19 fun t20 H =>
 pFa 3 t2 H fun t22 H =>
 ldK .none H t22 fun t23 H =>
 pO (aNil t0) H fun t25 H =>
 pFa 0 t25 H fun t26 H =>
 ldK .none H t26 fun t27 H =>
 pO (aNil t27) H fun t28 H =>
 pFa 0 t28 H fun t29 H =>
 pFa 4 t29 H fun t30 H =>
 ldK .none H t30 fun t31 H =>
 pFa 2 t2 H fun t32 H =>
 ldK .none H t32 fun t33 H =>
 pIa 7 t31 t33 H fun t34 H =>
 pFa 0 t34 H fun t35 H =>
 ldK .none H t35 fun t36 H =>
 pC call n263 [t0, t23, t36] H fun t37 H =>
 andR (andB (ckV (aLoad .none H t19) t20) true) (
 pC call n262 [t0, t20, t37] H fun _ H =>
 some (.tup [], H))) (pEql t15 (.int .i64 (.ofNat 21)) H fun t40 H =>
 onBool t40 (pO (aNil t0) H fun t44 H =>
 pFa 2 t44 H fun t45 H =>
 ldK .none H t45 fun t46 H =>
 pFa 2 t2 H fun t47 H =>
 ldK .none H t47 fun t48 H =>
 pFa 3 t2 H fun t50 H =>
 ldK .none H t50 fun t51 H =>
 pFa 4 t2 H fun t52 H =>
 ldK .none H t52 fun t53 H =>
 pC call n176 [t46, t48] H fun t49 H =>
 andR (andB (ckV (aLoad .none H t50) t51) (andB (ckV (aLoad .none H t52) t53) true)) (
 pC call n264 [t0, t49, t51, t53, (.fn n265 [t0] [])] H fun t56 H =>
 pExt t56 0 H fun t57 H =>
 pExt t56 1 H fun t58 H =>
 pExt t56 2 H fun t59 H =>
 onBool t59 (pC call n262 [t0, t57, t58] H fun _ H =>
 some (.tup [], H)) (some (.tup [], H)))) (pEql t15 (.int .i64 (.ofNat 22)) H fun t66 H =>
 onBool t66 (pC call n266 [t0] H fun _ H =>
 some (.tup [], H)) (pEql t15 (.int .i64 (.ofNat 23)) H fun t70 H =>
 onBool t70 (pFa 1 t2 H fun t72 H =>
 ldK .none H t72 fun t73 H =>
 pFa 2 t2 H fun t75 H =>
 ldK .none H t75 fun t76 H =>
 pO (aNil t0) H fun t78 H =>
 pFa 0 t78 H fun t79 H =>
 ldK .none H t79 fun t80 H =>
 pO (aNil t80) H fun t81 H =>
 pFa 0 t81 H fun t82 H =>
 pFa 4 t82 H fun t83 H =>
 ldK .none H t83 fun t84 H =>
 pFa 1 t2 H fun t85 H =>
 ldK .none H t85 fun t86 H =>
 pIa 7 t84 t86 H fun t87 H =>
 pFa 0 t87 H fun t88 H =>
 ldK .none H t88 fun t89 H =>
 pC call n263 [t0, t76, t89] H fun t90 H =>
 andR (andB (ckV (aLoad .none H t72) t73) true) (
 pC call n267 [t0, t73, t90] H fun _ H =>
 some (.tup [], H))) (pEql t15 (.int .i64 (.ofNat 24)) H fun t93 H =>
 onBool t93 (pO (aNil t0) H fun t97 H =>
 pFa 2 t97 H fun t98 H =>
 ldK .none H t98 fun t99 H =>
 pFa 1 t2 H fun t100 H =>
 ldK .none H t100 fun t101 H =>
 pFa 2 t2 H fun t103 H =>
 ldK .none H t103 fun t104 H =>
 pFa 3 t2 H fun t105 H =>
 ldK .none H t105 fun t106 H =>
 pC call n176 [t99, t101] H fun t102 H =>
 andR (andB (ckV (aLoad .none H t103) t104) (andB (ckV (aLoad .none H t105) t106) true)) (
 pC call n264 [t0, t102, t104, t106, (.fn n268 [] [])] H fun t108 H =>
 pExt t108 0 H fun t109 H =>
 pExt t108 1 H fun t110 H =>
 pExt t108 2 H fun t111 H =>
 onBool t111 (pC call n267 [t0, t109, t110] H fun _ H =>
 some (.tup [], H)) (some (.tup [], H)))) (some (.tup [], H))))))
def S173 : Ff := ⟨fun call l H => argA1 (fun t0 => S173_0 call t0 H) l⟩
def S176_0 (_ : CallFn) (t1 t5 t14 t21 : AV) (H : AHeap) : R :=
 pPick t14 (.bool true) t21 H fun t22 H =>
 onBool t22 (some ((.int .i64 (.ofNat 0)), H)) (pO (aNil t5) H fun t24 H =>
 pFa 2 t24 H fun t25 H =>
 ldK .none H t25 fun t26 H =>
 pIa 1 t26 t1 H fun t28 H =>
 ldK .none H t28 fun t29 H =>
 some (t29, H))
def S176_1 (call : CallFn) (t1 t5 t10 t12 : AV) (H : AHeap) : R :=
 pPick t10 (.bool true) t12 H fun t13 H =>
 guardA t13 false (pO (aNil t5) H fun t17 H =>
 pFa 2 t17 H fun t18 H =>
 ldK .none H t18 fun t19 H =>
 pO (aLen .sl H t19) H fun t20 H =>
 pGeq t1 t20 H fun t21 H =>
 S176_0 call t1 t5 t13 t21 H) (S176_0 call t1 t5 t13 U H)
def S176_2 (call : CallFn) (t0 t1 : AV) (H : AHeap) : R :=
 pC call n170 [t0] H fun t7 H =>
 pO (aEq false .ptr t7 .nilp) H fun t9 H =>
 guardA t9 false (pLss t1 (.int .i64 (.ofNat 0)) H fun t12 H =>
 S176_1 call t1 t7 t9 t12 H) (S176_1 call t1 t7 t9 U H)
def S176 : Ff := ⟨fun call l H => argA2 (fun t0 t1 => S176_2 call t0 t1 H) l⟩
def S177_0 (call : CallFn) (t0 : AV) (H : AHeap) : R :=
 pO (aNil t0) H fun t3 H =>
 pFa 2 t3 H fun t4 H =>
 ldK .none H t4 fun t5 H =>
 pO (aNil t0) H fun t7 H =>
 pFa 15 t7 H fun t8 H =>
 ldK .none H t8 fun t9 H =>
 pAdd t9 (.int .i64 (.ofNat 1)) H fun t10 H =>
 pC call n260 [t5, t10] H fun _ H =>
 some (.tup [], H)
def S177 : Ff := ⟨fun call l H => argA1 (fun t0 => S177_0 call t0 H) l⟩
def S182_0 (_ : CallFn) (t0 : AV) (H : AHeap) : R :=
 pO (aBin .shl t0 (.int .u64 (.ofNat 1))) H fun t4 H =>
 pO (aBin .shr t4 (.int .u64 (.ofNat 1))) H fun t5 H =>
 some (t5, H)
def S182 : Ff := ⟨fun call l H => argA1 (fun t0 => S182_0 call t0 H) l⟩
def S185_0 (_ : CallFn) (n : Nat) : AV → AV → AV → AV → AHeap → R :=
 Nat.rec (motive := fun _ => AV → AV → AV → AV → AHeap → R) (fun _ _ _ _ _ => none) (fun _ q0 t0 t1 t7 t8 H => pLss t8 t7 H fun t9 H =>
 onBool t9 (pIa 1 t0 t8 H fun t14 H =>
 ldK .none H t14 fun t15 H =>
 pEql t1 t15 H fun t16 H =>
 onBool t16 (some (t8, H)) (pAdd t8 (.int .i64 (.ofNat 1)) H fun t18 H =>
 q0 t0 t1 t7 t18 H)) (some ((.int .i64 (.negSucc 0)), H))) n
def S185_1 (call : CallFn) (t0 t1 : AV) (H : AHeap) : R :=
 pO (aLen .sl H t0) H fun t7 H =>
 S185_0 call 1000000 t0 t1 t7 (.int .i64 (.ofNat 0)) H
def S185 : Ff := ⟨fun call l H => argA2 (fun t0 t1 => S185_1 call t0 t1 H) l⟩
def S186_0 (_ : CallFn) (t31 t39 : AV) (H : AHeap) : R :=
 pPick t31 t39 (.bool false) H fun t40 H =>
 some (t40, H)
def S186_1 (call : CallFn) (t1 t31 t32 t33 t34 t38 : AV) (H : AHeap) : R :=
 andR (andB (gdB t31 true (ckV (aLoad .none H t1) t32)) (andB (gdB t31 true (ckV (aLoad .none H t33) t34)) true)) (
 guardA t31 true (pC call n290 [t32, t34, t38] H fun t39 H =>
 S186_0 call t31 t39 H) (S186_0 call t31 U H))
def S186_2 (call : CallFn) (t1 t31 t32 t33 t34 t35 t37 : AV) (H : AHeap) : R :=
 guardA t31 true (pC call n291 [t35, t37] H fun t38 H =>
 S186_1 call t1 t31 t32 t33 t34 t38 H) (S186_1 call t1 t31 t32 t33 t34 U H)
def S186_3 (call : CallFn) (t1 t31 t32 t33 t34 t35 t36 : AV) (H : AHeap) : R :=
 guardA t31 true (ldK .none H t36 fun t37 H =>
 S186_2 call t1 t31 t32 t33 t34 t35 t37 H) (S186_2 call t1 t31 t32 t33 t34 t35 U H)
def S186_4 (call : CallFn) (t1 t3 t31 t32 t33 t34 t35 : AV) (H : AHeap) : R :=
 guardA t31 true (pFa 2 t3 H fun t36 H =>
 S186_3 call t1 t31 t32 t33 t34 t35 t36 H) (S186_3 call t1 t31 t32 t33 t34 t35 U H)
def S186_5 (call : CallFn) (t1 t3 t31 t32 t33 t34 : AV) (H : AHeap) : R :=
 guardA t31 true (ldK .none H t1 fun t35 H =>
 S186_4 call t1 t3 t31 t32 t33 t34 t35 H) (S186_4 call t1 t3 t31 t32 t33 t34 U H)
def S186_6 (call : CallFn) (t1 t3 t31 t32 t33 : AV) (H : AHeap) : R :=
 guardA t31 true (ldK .none H t33 fun t34 H =>
 S186_5 call t1 t3 t31 t32 t33 t34 H) (S186_5 call t1 t3 t31 t32 t33 U H)
def S186_7 (call : CallFn) (t1 t3 t31 t32 : AV) (H : AHeap) : R :=
 guardA t31 true (pFa 3 t3 H fun t33 H =>
 S186_6 call t1 t3 t31 t32 t33 H) (S186_6 call t1 t3 t31 t32 U H)
def S186_8 (_ : CallFn) (t54 t60 : AV) (H : AHeap) : R :=
 pPick t54 t60 (.bool false) H fun t61 H =>
 some (t61, H)
def S186_9 (call : CallFn) (t1 t3 t48 t52 : AV) (H : AHeap) : R :=
 pPick t48 t52 (.bool false) H fun t53 H =>
 guardA t53 true (ldK .none H t1 fun t55 H =>
 pFa 3 t3 H fun t56 H =>
 ldK .none H t56 fun t57 H =>
 pFa 4 t3 H fun t58 H =>
 ldK .none H t58 fun t59 H =>
 pC call n290 [t55, t57, t59] H fun t60 H =>
 S186_8 call t53 t60 H) (S186_8 call t53 U H)
def S186_10 (_ : CallFn) (t87 t93 : AV) (H : AHeap) : R :=
 pPick t87 t93 (.bool false) H fun t94 H =>
 some (t94, H)
def S186_11 (_ : CallFn) (t109 t115 : AV) (H : AHeap) : R :=
 pPick t109 t115 (.bool false) H fun t116 H =>
 some (t116, H)
def S186_12 (_ : CallFn) (t130 t134 : AV) (H : AHeap) : R :=
 pPick t130 t134 (.bool false) H fun t135 H =>
 some (t135, H)
def S186_13 (call : CallFn) (t3 t4 t124 t128 : AV) (H : AHeap) : R :=
 pPick t124 t128 (.bool false) H fun t129 H =>
 guardA t129 true (ldK .none H t4 fun t131 H =>
 pFa 3 t3 H fun t132 H =>
 ldK .none H t132 fun t133 H =>
 pV call t131 [t133] H fun t134 H =>
 S186_12 call t129 t134 H) (S186_12 call t129 U H)
def S186_14 (call : CallFn) (t1 t3 t4 t5 t20 t22 : AV) (H : AHeap) : R :=
 pPick t20 (.bool true) t22 H fun t23 H =>
 onBool t23 (some ((.bool false), H)) (pEql t5 (iN 20) H fun t26 H =>
 onBool t26 (ldK .none H t4 fun t27 H =>
 pFa 1 t3 H fun t28 H =>
 ldK .none H t28 fun t29 H =>
 pV call t27 [t29] H fun t30 H =>
 guardA t30 true (ldK .none H t1 fun t32 H =>
 S186_7 call t1 t3 t30 t32 H) (S186_7 call t1 t3 t30 U H)) (pEql t5 (iN 21) H fun t43 H =>
 onBool t43 (ldK .none H t4 fun t44 H =>
 pFa 1 t3 H fun t45 H =>
 ldK .none H t45 fun t46 H =>
 pV call t44 [t46] H fun t47 H =>
 guardA t47 true (ldK .none H t1 fun t49 H =>
 pFa 2 t3 H fun t50 H =>
 ldK .none H t50 fun t51 H =>
 pC call n289 [t49, t51] H fun t52 H =>
 S186_9 call t1 t3 t47 t52 H) (S186_9 call t1 t3 t47 U H)) (pEql t5 (iN 22) H fun t64 H =>
 onBool t64 (ldK .none H t4 fun t65 H =>
 pFa 1 t3 H fun t66 H =>
 ldK .none H t66 fun t67 H =>
 pV call t65 [t67] H fun t68 H =>
 some (t68, H)) (pEql t5 (iN 23) H fun t71 H =>
 onBool t71 (ldK .none H t1 fun t72 H =>
 pFa 2 t3 H fun t73 H =>
 ldK .none H t73 fun t74 H =>
 ldK .none H t1 fun t75 H =>
 pFa 1 t3 H fun t76 H =>
 ldK .none H t76 fun t77 H =>
 pC call n291 [t75, t77] H fun t78 H =>
 andR (andB (ckV (aLoad .none H t1) t72) (andB (ckV (aLoad .none H t73) t74) true)) (
 pC call n290 [t72, t74, t78] H fun t79 H =>
 some (t79, H))) (pEql t5 (iN 24) H fun t82 H =>
 onBool t82 (ldK .none H t1 fun t83 H =>
 pFa 1 t3 H fun t84 H =>
 ldK .none H t84 fun t85 H =>
 pC call n289 [t83, t85] H fun t86 H =>
 guardA t86 true (ldK .none H t1 fun t88 H =>
 pFa 2 t3 H fun t89 H =>
 ldK .none H t89 fun t90 H =>
 pFa 3 t3 H fun t91 H =>
 ldK .none H t91 fun t92 H =>
 pC call n290 [t88, t90, t92] H fun t93 H =>
 S186_10 call t86 t93 H) (S186_10 call t86 U H)) (pEql t5 (iN 36) H fun t97 H =>
 onBool t97 (ldK .none H t1 fun t99 H =>
 pFa 2 t3 H fun t100 H =>
 ldK .none H t100 fun t101 H =>
 pC call n292 [t99, t101] H fun t102 H =>
 pExt t102 0 H fun t103 H =>
 pExt t102 1 H fun _ H =>
 pNew [(iN 0), (iN 0), (iN 0), (iN 0), .nilsl, .nilsl, .nilsl] H fun t6 H =>
 stK 7 H t6 t103 fun _ H =>
 ldK .none H t1 fun t105 H =>
 pFa 1 t3 H fun t106 H =>
 ldK .none H t106 fun t107 H =>
 pC call n289 [t105, t107] H fun t108 H =>
 guardA t108 true (ldK .none H t1 fun t110 H =>
 pFa 3 t3 H fun t111 H =>
 ldK .none H t111 fun t112 H =>
 pFa 1 t6 H fun t113 H =>
 ldK .none H t113 fun t114 H =>
 pC call n290 [t110, t112, t114] H fun t115 H =>
 S186_11 call t108 t115 H) (S186_11 call t108 U H)) (pEql t5 (iN 39) H fun t119 H =>
 onBool t119 (ldK .none H t4 fun t120 H =>
 pFa 1 t3 H fun t121 H =>
 ldK .none H t121 fun t122 H =>
 pV call t120 [t122] H fun t123 H =>
 guardA t123 true (ldK .none H t1 fun t125 H =>
 pFa 2 t3 H fun t126 H =>
 ldK .none H t126 fun t127 H =>
 pC call n289 [t125, t127] H fun t128 H =>
 S186_13 call t3 t4 t123 t128 H) (S186_13 call t3 t4 t123 U H)) (pEql t5 (iN 41) H fun t138 H =>
 onBool t138 (ldK .none H t1 fun t140 H =>
 pC call n293 [t140] H fun t141 H =>
 pExt t141 0 H fun t142 H =>
 pExt t141 1 H fun _ H =>
 pC call n294 [t142, (.fn n295 [] [t1, t4])] H fun t146 H =>
 pO (aUn .not t146) H fun t147 H =>
 some (t147, H)) (ldK .none H t1 fun t148 H =>
 pO (aNil t148) H fun t149 H =>
 pFa 0 t149 H fun t150 H =>
 ldK (.some 6) H t150 fun t151 H =>
 ldK (.some 5) H t3 fun t152 H =>
 ldK (.some 5) H t3 fun t154 H =>
 pC call n228 [t151, t152] H fun t153 H =>
 andR (andB (ckV (aLoad (.some 5) H t3) t154) true) (
 pC call n229 [t154] H fun t155 H =>
 pW (aApp 1 8 H t153 t155) fun t156 H =>
 pC call n296 [t156, (.fn n297 [] [t1])] H fun t158 H =>
 pO (aUn .not t158) H fun t159 H =>
 some (t159, H)))))))))))
def S186_15 (call : CallFn) (t0 : AV) (H : AHeap) : R :=
 pBox t0 H fun t1 H =>
 ldK .none H t1 fun t10 H =>
 pO (aNil t10) H fun t11 H =>
 pFa 17 t11 H fun t12 H =>
 ldK (.some 5) H t12 fun t13 H =>
 pNew [(iN 0), (iN 0), (iN 0), (iN 0), (iN 0)] H fun t3 H =>
 stK 5 H t3 t13 fun _ H =>
 pNew [.nilfn] H fun t4 H =>
 stK 1 H t4 (.fn n288 [] [t1]) fun _ H =>
 pFa 0 t3 H fun t15 H =>
 ldK .none H t15 fun t16 H =>
 pLss t16 (iN 0) H fun t19 H =>
 guardA t19 false (pGtr t16 (iN 44) H fun t22 H =>
 S186_14 call t1 t3 t4 t16 t19 t22 H) (S186_14 call t1 t3 t4 t16 t19 U H)
def S186 : Ff := ⟨fun call l H => argA1 (fun t0 => S186_15 call t0 H) l⟩
def S187_0 (_ : CallFn) (t21 t30 : AV) (H : AHeap) : R :=
 pPick t21 t30 (.bool false) H fun t31 H =>
 some (t31, H)
def S187_1 (call : CallFn) (t21 t23 t29 : AV) (H : AHeap) : R :=
 guardA t21 true (pLss t23 t29 H fun t30 H =>
 S187_0 call t21 t30 H) (S187_0 call t21 U H)
def S187_2 (call : CallFn) (t21 t23 t28 : AV) (H : AHeap) : R :=
 guardA t21 true (pO (aLen .sl H t28) H fun t29 H =>
 S187_1 call t21 t23 t29 H) (S187_1 call t21 t23 U H)
def S187_3 (call : CallFn) (t21 t23 t27 : AV) (H : AHeap) : R :=
 guardA t21 true (ldK .none H t27 fun t28 H =>
 S187_2 call t21 t23 t28 H) (S187_2 call t21 t23 U H)
def S187_4 (call : CallFn) (t21 t23 t26 : AV) (H : AHeap) : R :=
 guardA t21 true (pFa 2 t26 H fun t27 H =>
 S187_3 call t21 t23 t27 H) (S187_3 call t21 t23 U H)
def S187_5 (call : CallFn) (t21 t23 t25 : AV) (H : AHeap) : R :=
 guardA t21 true (pFa 0 t25 H fun t26 H =>
 S187_4 call t21 t23 t26 H) (S187_4 call t21 t23 U H)
def S187_6 (call : CallFn) (t21 t23 t24 : AV) (H : AHeap) : R :=
 guardA t21 true (pO (aNil t24) H fun t25 H =>
 S187_5 call t21 t23 t25 H) (S187_5 call t21 t23 U H)
def S187_7 (call : CallFn) (t0 t21 t23 : AV) (H : AHeap) : R :=
 guardA t21 true (S187_6 call t21 t23 t0 H) (S187_6 call t21 t23 U H)
def S187_8 (call : CallFn) (t0 t21 t22 : AV) (H : AHeap) : R :=
 guardA t21 true (ldK .none H t22 fun t23 H =>
 S187_7 call t0 t21 t23 H) (S187_7 call t0 t21 U H)
def S187_9 (_ : CallFn) (t55 t64 : AV) (H : AHeap) : R :=
 pPick t55 t64 (.bool false) H fun t65 H =>
 some (t65, H)
def S187_10 (call : CallFn) (t55 t57 t63 : AV) (H : AHeap) : R :=
 guardA t55 true (pLss t57 t63 H fun t64 H =>
 S187_9 call t55 t64 H) (S187_9 call t55 U H)
def S187_11 (call : CallFn) (t55 t57 t62 : AV) (H : AHeap) : R :=
 guardA t55 true (pO (aLen .sl H t62) H fun t63 H =>
 S187_10 call t55 t57 t63 H) (S187_10 call t55 t57 U H)
def S187_12 (call : CallFn) (t55 t57 t61 : AV) (H : AHeap) : R :=
 guardA t55 true (ldK .none H t61 fun t62 H =>
 S187_11 call t55 t57 t62 H) (S187_11 call t55 t57 U H)
def S187_13 (call : CallFn) (t55 t57 t60 : AV) (H : AHeap) : R :=
 guardA t55 true (pFa 1 t60 H fun t61 H =>
 S187_12 call t55 t57 t61 H) (S187_12 call t55 t57 U H)
def S187_14 (call : CallFn) (t55 t57 t59 : AV) (H : AHeap) : R :=
 guardA t55 true (pFa 0 t59 H fun t60 H =>
 S187_13 call t55 t57 t60 H) (S187_13 call t55 t57 U H)
def S187_15 (call : CallFn) (t55 t57 t58 : AV) (H : AHeap) : R :=
 guardA t55 true (pO (aNil t58) H fun t59 H =>
 S187_14 call t55 t57 t59 H) (S187_14 call t55 t57 U H)
def S187_16 (call : CallFn) (t0 t55 t57 : AV) (H : AHeap) : R :=
 guardA t55 true (S187_15 call t55 t57 t0 H) (S187_15 call t55 t57 U H)
def S187_17 (call : CallFn) (t0 t55 t56 : AV) (H : AHeap) : R :=
 guardA t55 true (ldK .none H t56 fun t57 H =>
 S187_16 call t0 t55 t57 H) (S187_16 call t0 t55 U H)
def S187_18 (_ : CallFn) (t71 t80 : AV) (H : AHeap) : R :=
 pPick t71 t80 (.bool false) H fun t81 H =>
 some (t81, H)
def S187_19 (call : CallFn) (t71 t73 t79 : AV) (H : AHeap) : R :=
 guardA t71 true (pLss t73 t79 H fun t80 H =>
 S187_18 call t71 t80 H) (S187_18 call t71 U H)
def S187_20 (call : CallFn) (t71 t73 t78 : AV) (H : AHeap) : R :=
 guardA t71 true (pO (aLen .sl H t78) H fun t79 H =>
 S187_19 call t71 t73 t79 H) (S187_19 call t71 t73 U H)
def S187_21 (call : CallFn) (t71 t73 t77 : AV) (H : AHeap) : R :=
 guardA t71 true (ldK .none H t77 fun t78 H =>
 S187_20 call t71 t73 t78 H) (S187_20 call t71 t73 U H)
def S187_22 (call : CallFn) (t71 t73 t76 : AV) (H : AHeap) : R :=
 guardA t71 true (pFa 1 t76 H fun t77 H =>
 S187_21 call t71 t73 t77 H) (S187_21 call t71 t73 U H)
def S187_23 (call : CallFn) (t71 t73 t75 : AV) (H : AHeap) : R :=
 guardA t71 true (pFa 0 t75 H fun t76 H =>
 S187_22 call t71 t73 t76 H) (S187_22 call t71 t73 U H)
def S187_24 (call : CallFn) (t71 t73 t74 : AV) (H : AHeap) : R :=
 guardA t71 true (pO (aNil t74) H fun t75 H =>
 S187_23 call t71 t73 t75 H) (S187_23 call t71 t73 U H)
def S187_25 (call : CallFn) (t0 t71 t73 : AV) (H : AHeap) : R :=
 guardA t71 true (S187_24 call t71 t73 t0 H) (S187_24 call t71 t73 U H)
def S187_26 (call : CallFn) (t0 t71 t72 : AV) (H : AHeap) : R :=
 guardA t71 true (ldK .none H t72 fun t73 H =>
 S187_25 call t0 t71 t73 H) (S187_25 call t0 t71 U H)
def S187_27 (_ : CallFn) (t92 t95 : AV) (H : AHeap) : R :=
 pPick t92 t95 (.bool false) H fun t96 H =>
 some (t96, H)
def S187_28 (_ : CallFn) (t112 t115 : AV) (H : AHeap) : R :=
 pPick t112 t115 (.bool false) H fun t116 H =>
 some (t116, H)
def S187_29 (call : CallFn) (t6 t107 t110 : AV) (H : AHeap) : R :=
 pPick t107 t110 (.bool false) H fun t111 H =>
 guardA t111 true (pFa 3 t6 H fun t113 H =>
 ldK .none H t113 fun t114 H =>
 pEql t114 (iN 0) H fun t115 H =>
 S187_28 call t111 t115 H) (S187_28 call t111 U H)
def S187_30 (_ : CallFn) (t142 t145 : AV) (H : AHeap) : R :=
 pPick t142 t145 (.bool false) H fun t146 H =>
 some (t146, H)
def S187_31 (call : CallFn) (t0 : AV) (H : AHeap) : R :=
 pO (aNil t0) H fun t11 H =>
 pFa 17 t11 H fun t12 H =>
 ldK (.some 5) H t12 fun t13 H =>
 pNew [(iN 0), (iN 0), (iN 0), (iN 0), (iN 0)] H fun t3 H =>
 stK 5 H t3 t13 fun _ H =>
 pFa 0 t3 H fun t14 H =>
 ldK .none H t14 fun t15 H =>
 pEql t15 (iN 0) H fun t17 H =>
 onBool t17 (pFa 2 t3 H fun t18 H =>
 ldK .none H t18 fun t19 H =>
 pGeq t19 (iN 0) H fun t20 H =>
 guardA t20 true (pFa 2 t3 H fun t22 H =>
 S187_8 call t0 t20 t22 H) (S187_8 call t0 t20 U H)) (pEql t15 (iN 25) H fun t33 H =>
 onBool t33 (pFa 2 t3 H fun t35 H =>
 ldK .none H t35 fun t36 H =>
 pC call n298 [t0, t36, (iN 0)] H fun t37 H =>
 some (t37, H)) (pEql t15 (iN 26) H fun t39 H =>
 onBool t39 (pFa 2 t3 H fun t41 H =>
 ldK .none H t41 fun t42 H =>
 pC call n298 [t0, t42, (iN 1)] H fun t43 H =>
 some (t43, H)) (pEql t15 (iN 37) H fun t45 H =>
 onBool t45 (pFa 2 t3 H fun t47 H =>
 ldK .none H t47 fun t48 H =>
 pC call n298 [t0, t48, (iN 3)] H fun t49 H =>
 some (t49, H)) (pEql t15 (iN 34) H fun t51 H =>
 onBool t51 (pFa 2 t3 H fun t52 H =>
 ldK .none H t52 fun t53 H =>
 pGeq t53 (iN 0) H fun t54 H =>
 guardA t54 true (pFa 2 t3 H fun t56 H =>
 S187_17 call t0 t54 t56 H) (S187_17 call t0 t54 U H)) (pEql t15 (iN 35) H fun t67 H =>
 onBool t67 (pFa 1 t3 H fun t68 H =>
 ldK .none H t68 fun t69 H =>
 pGeq t69 (iN 0) H fun t70 H =>
 guardA t70 true (pFa 1 t3 H fun t72 H =>
 S187_26 call t0 t70 t72 H) (S187_26 call t0 t70 U H)) (pEql t15 (iN 20) H fun t83 H =>
 onBool t83 (pFa 2 t3 H fun t86 H =>
 ldK .none H t86 fun t87 H =>
 pC call n292 [t0, t87] H fun t88 H =>
 pExt t88 0 H fun t89 H =>
 pExt t88 1 H fun t90 H =>
 pNew [(iN 0), (iN 0), (iN 0), (iN 0), .nilsl, .nilsl, .nilsl] H fun t4 H =>
 stK 7 H t4 t89 fun _ H =>
 guardA t90 true (pFa 1 t4 H fun t93 H =>
 ldK .none H t93 fun t94 H =>
 pEql t94 (iN 0) H fun t95 H =>
 S187_27 call t90 t95 H) (S187_27 call t90 U H)) (pEql t15 (iN 23) H fun t98 H =>
 onBool t98 (pFa 1 t3 H fun t101 H =>
 ldK .none H t101 fun t102 H =>
 pC call n292 [t0, t102] H fun t103 H =>
 pExt t103 0 H fun t104 H =>
 pExt t103 1 H fun t105 H =>
 pNew [(iN 0), (iN 0), (iN 0), (iN 0), .nilsl, .nilsl, .nilsl] H fun t6 H =>
 stK 7 H t6 t104 fun _ H =>
 guardA t105 true (pFa 1 t6 H fun t108 H =>
 ldK .none H t108 fun t109 H =>
 pEql t109 (iN 0) H fun t110 H =>
 S187_29 call t6 t105 t110 H) (S187_29 call t6 t105 U H)) (pEql t15 (iN 36) H fun t118 H =>
 onBool t118 (pFa 2 t3 H fun t121 H =>
 ldK .none H t121 fun t122 H =>
 pC call n292 [t0, t122] H fun t123 H =>
 pExt t123 0 H fun t124 H =>
 pExt t123 1 H fun t125 H =>
 pNew [(iN 0), (iN 0), (iN 0), (iN 0), .nilsl, .nilsl, .nilsl] H fun t8 H =>
 stK 7 H t8 t124 fun _ H =>
 some (t125, H)) (pEql t15 (iN 21) H fun t128 H =>
 onBool t128 (pFa 4 t3 H fun t129 H =>
 ldK .none H t129 fun t130 H =>
 pGeq t130 (iN 0) H fun t131 H =>
 some (t131, H)) (pEql t15 (iN 24) H fun t133 H =>
 onBool t133 (pFa 3 t3 H fun t134 H =>
 ldK .none H t134 fun t135 H =>
 pGeq t135 (iN 0) H fun t136 H =>
 some (t136, H)) (pEql t15 (iN 44) H fun t138 H =>
 onBool t138 (pFa 1 t3 H fun t139 H =>
 ldK .none H t139 fun t140 H =>
 pGeq t140 (iN 1) H fun t141 H =>
 guardA t141 true (pFa 1 t3 H fun t143 H =>
 ldK .none H t143 fun t144 H =>
 pLeq t144 (iN 6) H fun t145 H =>
 S187_30 call t141 t145 H) (S187_30 call t141 U H)) (pEql t15 (iN 41) H fun t148 H =>
 onBool t148 (pC call n299 [t0] H fun t150 H =>
 some (t150, H)) (some ((.bool true), H))))))))))))))
def S187 : Ff := ⟨fun call l H => argA1 (fun t0 => S187_31 call t0 H) l⟩
def S188_0 (_ : CallFn) (t86 t93 : AV) (H : AHeap) : R :=
 pPick t86 t93 (.bool false) H fun t94 H =>
 some (t94, H)
def S188_1 (_ : CallFn) (t117 t122 : AV) (H : AHeap) : R :=
 pPick t117 t122 (.bool false) H fun t123 H =>
 some (t123, H)
def S188_2 (_ : CallFn) (t164 t169 : AV) (H : AHeap) : R :=
 pPick t164 t169 (.bool false) H fun t170 H =>
 some (t170, H)
def S188_3 (_ : CallFn) (t183 t188 : AV) (H : AHeap) : R :=
 pPick t183 t188 (.bool false) H fun t189 H =>
 some (t189, H)
def S188_4 (_ : CallFn) (t198 t203 : AV) (H : AHeap) : R :=
 pPick t198 t203 (.bool false) H fun t204 H =>
 some (t204, H)
def S188_5 (_ : CallFn) (t247 t257 : AV) (H : AHeap) : R :=
 pPick t247 t257 (.bool false) H fun t258 H =>
 some (t258, H)
def S188_6 (call : CallFn) (t247 t251 t256 : AV) (H : AHeap) : R :=
 guardA t247 true (pPick t251 (.bool true) t256 H fun t257 H =>
 S188_5 call t247 t257 H) (S188_5 call t247 U H)
def S188_7 (call : CallFn) (t1 t3 t247 t251 : AV) (H : AHeap) : R :=
 guardA t251 false (ldK .none H t1 fun t252 H =>
 pFa 3 t3 H fun t253 H =>
 ldK .none H t253 fun t254 H =>
 pN (aBsl 1 1 [(iN 0)] [(0, 1, t254)]) H fun t255 H =>
 pC call n300 [t252, (.bool false), t255] H fun t256 H =>
 S188_6 call t247 t251 t256 H) (S188_6 call t247 t251 U H)
def S188_8 (call : CallFn) (t1 t3 t4 t174 t176 : AV) (H : AHeap) : R :=
 pPick t174 (.bool true) t176 H fun t177 H =>
 onBool t177 (ldK .none H t1 fun t178 H =>
 pFa 1 t3 H fun t179 H =>
 ldK .none H t179 fun t180 H =>
 pN (aBsl 1 1 [(iN 0)] [(0, 1, t180)]) H fun t181 H =>
 pC call n300 [t178, (.bool true), t181] H fun t182 H =>
 guardA t182 true (ldK .none H t1 fun t184 H =>
 pFa 2 t3 H fun t185 H =>
 ldK .none H t185 fun t186 H =>
 pN (aBsl 1 1 [(iN 0)] [(0, 1, t186)]) H fun t187 H =>
 pC call n300 [t184, (.bool false), t187] H fun t188 H =>
 S188_3 call t182 t188 H) (S188_3 call t182 U H)) (pEql t4 (iN 33) H fun t192 H =>
 onBool t192 (ldK .none H t1 fun t193 H =>
 pFa 1 t3 H fun t194 H =>
 ldK .none H t194 fun t195 H =>
 pN (aBsl 1 1 [(iN 0)] [(0, 1, t195)]) H fun t196 H =>
 pC call n300 [t193, (.bool false), t196] H fun t197 H =>
 guardA t197 true (ldK .none H t1 fun t199 H =>
 pFa 2 t3 H fun t200 H =>
 ldK .none H t200 fun t201 H =>
 pN (aBsl 1 1 [(iN 0)] [(0, 1, t201)]) H fun t202 H =>
 pC call n300 [t199, (.bool true), t202] H fun t203 H =>
 S188_4 call t197 t203 H) (S188_4 call t197 U H)) (pEql t4 (iN 34) H fun t207 H =>
 onBool t207 (ldK .none H t1 fun t208 H =>
 ldK .none H t1 fun t209 H =>
 pO (aNil t209) H fun t210 H =>
 pFa 0 t210 H fun t211 H =>
 pFa 1 t211 H fun t212 H =>
 ldK .none H t212 fun t213 H =>
 pFa 2 t3 H fun t214 H =>
 ldK .none H t214 fun t215 H =>
 pIa 1 t213 t215 H fun t216 H =>
 ldK .none H t216 fun t217 H =>
 pFa 1 t3 H fun t218 H =>
 ldK .none H t218 fun t219 H =>
 pN (aBsl 1 1 [(iN 0)] [(0, 1, t219)]) H fun t220 H =>
 pC call n300 [t208, t217, t220] H fun t221 H =>
 some (t221, H)) (pEql t4 (iN 35) H fun t224 H =>
 onBool t224 (ldK .none H t1 fun t225 H =>
 ldK .none H t1 fun t226 H =>
 pO (aNil t226) H fun t227 H =>
 pFa 0 t227 H fun t228 H =>
 pFa 1 t228 H fun t229 H =>
 ldK .none H t229 fun t230 H =>
 pFa 1 t3 H fun t231 H =>
 ldK .none H t231 fun t232 H =>
 pIa 1 t230 t232 H fun t233 H =>
 ldK .none H t233 fun t234 H =>
 pFa 2 t3 H fun t235 H =>
 ldK .none H t235 fun t236 H =>
 pN (aBsl 1 1 [(iN 0)] [(0, 1, t236)]) H fun t237 H =>
 pC call n300 [t225, t234, t237] H fun t238 H =>
 some (t238, H)) (pEql t4 (iN 39) H fun t241 H =>
 onBool t241 (ldK .none H t1 fun t242 H =>
 pFa 2 t3 H fun t243 H =>
 ldK .none H t243 fun t244 H =>
 pN (aBsl 1 1 [(iN 0)] [(0, 1, t244)]) H fun t245 H =>
 pC call n300 [t242, (.bool true), t245] H fun t246 H =>
 guardA t246 true (pFa 3 t3 H fun t248 H =>
 ldK .none H t248 fun t249 H =>
 pEql t249 (.int .i64 (.negSucc 0)) H fun t250 H =>
 S188_7 call t1 t3 t246 t250 H) (S188_7 call t1 t3 t246 U H)) (pEql t4 (iN 41) H fun t261 H =>
 onBool t261 (ldK .none H t1 fun t263 H =>
 pC call n293 [t263] H fun t264 H =>
 pExt t264 0 H fun t265 H =>
 pExt t264 1 H fun _ H =>
 pC call n294 [t265, (.fn n301 [] [t1])] H fun t269 H =>
 pO (aUn .not t269) H fun t270 H =>
 some (t270, H)) (ldK .none H t1 fun t271 H =>
 pC call n302 [t271] H fun t272 H =>
 some (t272, H)))))))
def S188_9 (call : CallFn) (t1 t3 t4 t147 t149 : AV) (H : AHeap) : R :=
 pPick t147 (.bool true) t149 H fun t150 H =>
 onBool t150 (ldK .none H t1 fun t151 H =>
 pFa 1 t3 H fun t152 H =>
 ldK .none H t152 fun t153 H =>
 pN (aBsl 1 1 [(iN 0)] [(0, 1, t153)]) H fun t154 H =>
 pC call n300 [t151, (.bool true), t154] H fun t155 H =>
 some (t155, H)) (pEql t4 (iN 30) H fun t158 H =>
 onBool t158 (ldK .none H t1 fun t159 H =>
 pFa 2 t3 H fun t160 H =>
 ldK .none H t160 fun t161 H =>
 pN (aBsl 1 1 [(iN 0)] [(0, 1, t161)]) H fun t162 H =>
 pC call n300 [t159, (.bool true), t162] H fun t163 H =>
 guardA t163 true (ldK .none H t1 fun t165 H =>
 pFa 3 t3 H fun t166 H =>
 ldK .none H t166 fun t167 H =>
 pN (aBsl 1 1 [(iN 0)] [(0, 1, t167)]) H fun t168 H =>
 pC call n300 [t165, (.bool false), t168] H fun t169 H =>
 S188_2 call t163 t169 H) (S188_2 call t163 U H)) (pEql t4 (iN 31) H fun t173 H =>
 guardA t173 false (pEql t4 (iN 32) H fun t176 H =>
 S188_8 call t1 t3 t4 t173 t176 H) (S188_8 call t1 t3 t4 t173 U H)))
def S188_10 (call : CallFn) (t1 t3 t4 t143 t145 : AV) (H : AHeap) : R :=
 pPick t143 (.bool true) t145 H fun t146 H =>
 guardA t146 false (pEql t4 (iN 38) H fun t149 H =>
 S188_9 call t1 t3 t4 t146 t149 H) (S188_9 call t1 t3 t4 t146 U H)
def S188_11 (call : CallFn) (t1 t3 t4 t139 t141 : AV) (H : AHeap) : R :=
 pPick t139 (.bool true) t141 H fun t142 H =>
 guardA t142 false (pEql t4 (iN 24) H fun t145 H =>
 S188_10 call t1 t3 t4 t142 t145 H) (S188_10 call t1 t3 t4 t142 U H)
def S188_12 (call : CallFn) (t1 t3 t4 t127 t129 : AV) (H : AHeap) : R :=
 pPick t127 (.bool true) t129 H fun t130 H =>
 onBool t130 (ldK .none H t1 fun t131 H =>
 pFa 2 t3 H fun t132 H =>
 ldK .none H t132 fun t133 H =>
 pN (aBsl 1 1 [(iN 0)] [(0, 1, t133)]) H fun t134 H =>
 pC call n300 [t131, (.bool true), t134] H fun t135 H =>
 some (t135, H)) (pEql t4 (iN 28) H fun t138 H =>
 guardA t138 false (pEql t4 (iN 29) H fun t141 H =>
 S188_11 call t1 t3 t4 t138 t141 H) (S188_11 call t1 t3 t4 t138 U H))
def S188_13 (call : CallFn) (t1 t3 t4 t108 t110 : AV) (H : AHeap) : R :=
 pPick t108 (.bool true) t110 H fun t111 H =>
 onBool t111 (ldK .none H t1 fun t112 H =>
 pFa 1 t3 H fun t113 H =>
 ldK .none H t113 fun t114 H =>
 pN (aBsl 1 1 [(iN 0)] [(0, 1, t114)]) H fun t115 H =>
 pC call n300 [t112, (.bool true), t115] H fun t116 H =>
 guardA t116 true (ldK .none H t1 fun t118 H =>
 pFa 3 t3 H fun t119 H =>
 ldK .none H t119 fun t120 H =>
 pN (aBsl 1 1 [(iN 0)] [(0, 1, t120)]) H fun t121 H =>
 pC call n300 [t118, (.bool false), t121] H fun t122 H =>
 S188_1 call t116 t122 H) (S188_1 call t116 U H)) (pEql t4 (iN 27) H fun t126 H =>
 guardA t126 false (pEql t4 (iN 21) H fun t129 H =>
 S188_12 call t1 t3 t4 t126 t129 H) (S188_12 call t1 t3 t4 t126 U H))
def S188_14 (call : CallFn) (t1 t3 t4 t65 t67 : AV) (H : AHeap) : R :=
 pPick t65 t67 (.bool false) H fun t68 H =>
 onBool t68 (ldK .none H t1 fun t69 H =>
 pFa 1 t3 H fun t70 H =>
 ldK .none H t70 fun t71 H =>
 pFa 2 t3 H fun t72 H =>
 ldK .none H t72 fun t73 H =>
 pFa 3 t3 H fun t74 H =>
 ldK .none H t74 fun t75 H =>
 pN (aBsl 1 3 [(iN 0)] [(0, 1, t71), (1, 1, t73), (2, 1, t75)]) H fun t76 H =>
 pC call n300 [t69, (.bool false), t76] H fun t77 H =>
 some (t77, H)) (pEql t4 (iN 16) H fun t80 H =>
 onBool t80 (ldK .none H t1 fun t81 H =>
 pFa 1 t3 H fun t82 H =>
 ldK .none H t82 fun t83 H =>
 pN (aBsl 1 1 [(iN 0)] [(0, 1, t83)]) H fun t84 H =>
 pC call n300 [t81, (.bool false), t84] H fun t85 H =>
 guardA t85 true (ldK .none H t1 fun t87 H =>
 pFa 2 t3 H fun t88 H =>
 ldK .none H t88 fun t89 H =>
 pFa 3 t3 H fun t90 H =>
 ldK .none H t90 fun t91 H =>
 pN (aBsl 1 2 [(iN 0)] [(0, 1, t89), (1, 1, t91)]) H fun t92 H =>
 pC call n300 [t87, (.bool true), t92] H fun t93 H =>
 S188_0 call t85 t93 H) (S188_0 call t85 U H)) (pEql t4 (iN 17) H fun t97 H =>
 onBool t97 (ldK .none H t1 fun t98 H =>
 pFa 1 t3 H fun t99 H =>
 ldK .none H t99 fun t100 H =>
 pFa 2 t3 H fun t101 H =>
 ldK .none H t101 fun t102 H =>
 pN (aBsl 1 2 [(iN 0)] [(0, 1, t100), (1, 1, t102)]) H fun t103 H =>
 pC call n300 [t98, (.bool false), t103] H fun t104 H =>
 some (t104, H)) (pEql t4 (iN 26) H fun t107 H =>
 guardA t107 false (pEql t4 (iN 37) H fun t110 H =>
 S188_13 call t1 t3 t4 t107 t110 H) (S188_13 call t1 t3 t4 t107 U H))))
def S188_15 (call : CallFn) (t1 t3 t4 t53 t55 : AV) (H : AHeap) : R :=
 pPick t53 (.bool true) t55 H fun t56 H =>
 onBool t56 (ldK .none H t1 fun t57 H =>
 pFa 1 t3 H fun t58 H =>
 ldK .none H t58 fun t59 H =>
 pN (aBsl 1 1 [(iN 0)] [(0, 1, t59)]) H fun t60 H =>
 pC call n300 [t57, (.bool true), t60] H fun t61 H =>
 some (t61, H)) (pGeq t4 (iN 3) H fun t64 H =>
 guardA t64 true (pLeq t4 (iN 15) H fun t67 H =>
 S188_14 call t1 t3 t4 t64 t67 H) (S188_14 call t1 t3 t4 t64 U H))
def S188_16 (call : CallFn) (t1 t3 t4 t49 t51 : AV) (H : AHeap) : R :=
 pPick t49 (.bool true) t51 H fun t52 H =>
 guardA t52 false (pEql t4 (iN 40) H fun t55 H =>
 S188_15 call t1 t3 t4 t52 t55 H) (S188_15 call t1 t3 t4 t52 U H)
def S188_17 (call : CallFn) (t1 t3 t4 t20 t22 : AV) (H : AHeap) : R :=
 pPick t20 (.bool true) t22 H fun t23 H =>
 onBool t23 (ldK .none H t1 fun t24 H =>
 pFa 1 t3 H fun t25 H =>
 ldK .none H t25 fun t26 H =>
 pN (aBsl 1 1 [(iN 0)] [(0, 1, t26)]) H fun t27 H =>
 pC call n300 [t24, (.bool false), t27] H fun t28 H =>
 some (t28, H)) (pEql t4 (iN 1) H fun t31 H =>
 onBool t31 (ldK .none H t1 fun t32 H =>
 ldK .none H t1 fun t33 H =>
 pO (aNil t33) H fun t34 H =>
 pFa 6 t34 H fun t35 H =>
 pFa 4 t35 H fun t36 H =>
 ldK .none H t36 fun t37 H =>
 pFa 2 t3 H fun t38 H =>
 ldK .none H t38 fun t39 H =>
 pIa 1 t37 t39 H fun t40 H =>
 ldK .none H t40 fun t41 H =>
 pFa 1 t3 H fun t42 H =>
 ldK .none H t42 fun t43 H =>
 pN (aBsl 1 1 [(iN 0)] [(0, 1, t43)]) H fun t44 H =>
 pC call n300 [t32, t41, t44] H fun t45 H =>
 some (t45, H)) (pEql t4 (iN 2) H fun t48 H =>
 guardA t48 false (pEql t4 (iN 25) H fun t51 H =>
 S188_16 call t1 t3 t4 t48 t51 H) (S188_16 call t1 t3 t4 t48 U H)))
def S188_18 (call : CallFn) (t1 t3 t4 t16 t18 : AV) (H : AHeap) : R :=
 pPick t16 (.bool true) t18 H fun t19 H =>
 guardA t19 false (pEql t4 (iN 42) H fun t22 H =>
 S188_17 call t1 t3 t4 t19 t22 H) (S188_17 call t1 t3 t4 t19 U H)
def S188_19 (call : CallFn) (t0 : AV) (H : AHeap) : R :=
 pBox t0 H fun t1 H =>
 ldK .none H t1 fun t7 H =>
 pO (aNil t7) H fun t8 H =>
 pFa 17 t8 H fun t9 H =>
 ldK (.some 5) H t9 fun t10 H =>
 pNew [(iN 0), (iN 0), (iN 0), (iN 0), (iN 0)] H fun t3 H =>
 stK 5 H t3 t10 fun _ H =>
 pFa 0 t3 H fun t11 H =>
 ldK .none H t11 fun t12 H =>
 pEql t12 (iN 0) H fun t15 H =>
 guardA t15 false (pEql t12 (iN 19) H fun t18 H =>
 S188_18 call t1 t3 t12 t15 t18 H) (S188_18 call t1 t3 t12 t15 U H)
def S188 : Ff := ⟨fun call l H => argA1 (fun t0 => S188_19 call t0 H) l⟩
def S189_0 (_ : CallFn) (t42 : AV) (H : AHeap) : R :=
 onBool t42 (some ((.bool true), H)) (some ((.bool false), H))
def S189_1 (call : CallFn) (t0 : AV) (H : AHeap) : R :=
 pO (aNil t0) H fun t26 H =>
 pFa 16 t26 H fun t27 H =>
 ldK .none H t27 fun t28 H =>
 pO (aNil t0) H fun t30 H =>
 pFa 6 t30 H fun t31 H =>
 pFa 5 t31 H fun t32 H =>
 ldK .none H t32 fun t33 H =>
 pO (aLen .sl H t33) H fun t34 H =>
 pSub t34 (iN 1) H fun t35 H =>
 pLss t28 t35 H fun t36 H =>
 onBool t36 (some ((.bool true), H)) (pO (aNil t0) H fun t38 H =>
 pFa 17 t38 H fun t39 H =>
 pFa 0 t39 H fun t40 H =>
 ldK .none H t40 fun t41 H =>
 pEql t41 (iN 18) H fun t43 H =>
 onBool t43 (S189_0 call t43 H) (pEql t41 (iN 22) H fun t44 H =>
 onBool t44 (S189_0 call t44 H) (pEql t41 (iN 44) H fun t45 H =>
 onBool t45 (S189_0 call t45 H) (pEql t41 (iN 41) H fun t46 H =>
 S189_0 call t46 H))))
def S189_3 (_ : CallFn) (q0 : AV → AV → AV → AV → AHeap → R) (t0 t6 t7 t8 t14 t22 : AV) (H : AHeap) : R :=
 pPick t14 (.bool true) t22 H fun t23 H =>
 onBool t23 (some ((.bool false), H)) (pAdd t8 (iN 1) H fun t24 H =>
 q0 t0 t6 t7 t24 H)
def S189_2 (call : CallFn) (n : Nat) : AV → AV → AV → AV → AHeap → R :=
 Nat.rec (motive := fun _ => AV → AV → AV → AV → AHeap → R) (fun _ _ _ _ _ => none) (fun _ q0 t0 t6 t7 t8 H => pLss t8 t7 H fun t9 H =>
 onBool t9 (pIa 1 t6 t8 H fun t10 H =>
 ldK .none H t10 fun t11 H =>
 pLss t11 (iN 0) H fun t13 H =>
 guardA t13 false (pO (aNil t0) H fun t17 H =>
 pFa 6 t17 H fun t18 H =>
 pFa 5 t18 H fun t19 H =>
 ldK .none H t19 fun t20 H =>
 pO (aLen .sl H t20) H fun t21 H =>
 pGeq t11 t21 H fun t22 H =>
 S189_3 call q0 t0 t6 t7 t8 t13 t22 H) (S189_3 call q0 t0 t6 t7 t8 t13 U H)) (S189_1 call t0 H)) n
def S189_4 (call : CallFn) (t0 : AV) (H : AHeap) : R :=
 pC call n303 [t0] H fun t6 H =>
 pO (aLen .sl H t6) H fun t7 H =>
 S189_2 call 1000000 t0 t6 t7 (iN 0) H
def S189 : Ff := ⟨fun call l H => argA1 (fun t0 => S189_4 call t0 H) l⟩
def S191_0 (call : CallFn) (t0 : AV) (H : AHeap) : R :=
 pO (aNil t0) H fun t35 H =>
 pFa 6 t35 H fun t36 H =>
 ldK (.some 7) H t36 fun t37 H =>
 pO (aNil t0) H fun t39 H =>
 pFa 14 t39 H fun t40 H =>
 ldK .none H t40 fun t41 H =>
 pO (aNil t0) H fun t43 H =>
 pFa 16 t43 H fun t44 H =>
 ldK .none H t44 fun t45 H =>
 pC call n92 [t37, t41, t45] H fun t46 H =>
 some (t46, H)
def S191_1 (call : CallFn) (t0 t9 t15 : AV) (H : AHeap) : R :=
 pPick t9 t15 (.bool false) H fun t16 H =>
 onBool t16 (some ((.bool true), H)) (pO (aNil t0) H fun t18 H =>
 pFa 14 t18 H fun t19 H =>
 ldK .none H t19 fun t20 H =>
 pO (aEq false .sl t20 .nilsl) H fun t21 H =>
 onBool t21 (pO (aNil t0) H fun t24 H =>
 pFa 0 t24 H fun t25 H =>
 ldK (.some 6) H t25 fun t26 H =>
 pO (aNil t0) H fun t28 H =>
 pFa 6 t28 H fun t29 H =>
 ldK (.some 7) H t29 fun t30 H =>
 pC call n91 [t26, t30] H fun t31 H =>
 pO (aNil t0) H fun t32 H =>
 pFa 14 t32 H fun t33 H =>
 stK 1 H t33 t31 fun _ H =>
 S191_0 call t0 H) (S191_0 call t0 H))
def S191_2 (call : CallFn) (t0 : AV) (H : AHeap) : R :=
 pO (aNil t0) H fun t4 H =>
 pFa 17 t4 H fun t5 H =>
 pFa 0 t5 H fun t6 H =>
 ldK .none H t6 fun t7 H =>
 pNeq t7 (iN 29) H fun t8 H =>
 guardA t8 true (pO (aNil t0) H fun t11 H =>
 pFa 17 t11 H fun t12 H =>
 pFa 0 t12 H fun t13 H =>
 ldK .none H t13 fun t14 H =>
 pNeq t14 (iN 32) H fun t15 H =>
 S191_1 call t0 t8 t15 H) (S191_1 call t0 t8 U H)
def S191 : Ff := ⟨fun call l H => argA1 (fun t0 => S191_2 call t0 H) l⟩
def S192_0 (_ : CallFn) (t10 t16 : AV) (H : AHeap) : R :=
 pPick t10 t16 (.bool false) H fun t17 H =>
 some (t17, H)
def S192_1 (call : CallFn) (t0 t1 : AV) (H : AHeap) : R :=
 pO (aLen .str H t0) H fun t6 H =>
 pO (aLen .str H t1) H fun t8 H =>
 pGeq t6 t8 H fun t9 H =>
 guardA t9 true (pO (aLen .str H t1) H fun t13 H =>
 pO (aSliceS t0 .none (.some t13)) H fun t14 H =>
 pEql t14 t1 H fun t16 H =>
 S192_0 call t9 t16 H) (S192_0 call t9 U H)
def S192 : Ff := ⟨fun call l H => argA2 (fun t0 t1 => S192_1 call t0 t1 H) l⟩
def S195_0 (_ : CallFn) (t2 t3 : AV) (H : AHeap) : R :=
 ldK (.some 3) H t3 fun t24 H =>
 stK 3 H t2 t24 fun _ H =>
 ob (allM (fun o => o) [aLoad (.some 3) H t2]) fun vs => some (resV vs, H)
def S195_1 (call : CallFn) (t0 : AV) (H : AHeap) : R :=
 pNew [(iN 0), (.str []), (iN 0)] H fun t2 H =>
 pC call n67 [t0] H fun t5 H =>
 pNew [(iN 0), (.str []), (iN 0)] H fun t3 H =>
 stK 3 H t3 t5 fun _ H =>
 pO (aNil t0) H fun t7 H =>
 pFa 1 t7 H fun t8 H =>
 ldK .none H t8 fun t9 H =>
 pO (aNil t0) H fun t11 H =>
 pFa 0 t11 H fun t12 H =>
 ldK .none H t12 fun t13 H =>
 pO (aLen .sl H t13) H fun t14 H =>
 pSub t14 (iN 1) H fun t15 H =>
 pLss t9 t15 H fun t16 H =>
 onBool t16 (pO (aNil t0) H fun t18 H =>
 pFa 1 t18 H fun t19 H =>
 ldK .none H t19 fun t20 H =>
 pAdd t20 (iN 1) H fun t21 H =>
 pO (aNil t0) H fun t22 H =>
 pFa 1 t22 H fun t23 H =>
 stK 1 H t23 t21 fun _ H =>
 S195_0 call t2 t3 H) (S195_0 call t2 t3 H)
def S195 : Ff := ⟨fun call l H => argA1 (fun t0 => S195_1 call t0 H) l⟩
def S196_0 (call : CallFn) (t0 t1 : AV) (H : AHeap) : R :=
 pC call n310 [t0, t1] H fun t7 H =>
 pGeq t7 (iN 0) H fun t8 H =>
 some (t8, H)
def S196 : Ff := ⟨fun call l H => argA2 (fun t0 t1 => S196_0 call t0 t1 H) l⟩
def S202_0 (call : CallFn) (t0 t1 : AV) (H : AHeap) : R :=
 pC call n314 [t0, t1] H fun t8 H =>
 pExt t8 0 H fun t9 H =>
 pExt t8 1 H fun t10 H =>
 some (.tup [t9, t10], H)
def S202 : Ff := ⟨fun call l H => argA2 (fun t0 t1 => S202_0 call t0 t1 H) l⟩
def S204_0 (call : CallFn) (t3 t4 t5 t34 t40 t45 : AV) (H : AHeap) : R :=
 pPick t40 t45 (.bool false) H fun t46 H =>
 ldK (.some 4) H t3 fun t47 H =>
 pC call n30 [t34, t46, t47] H fun _ H =>
 pIa 4 t5 (iN 0) H fun t50 H =>
 ldK (.some 4) H t50 fun t51 H =>
 stK 4 H t4 t51 fun _ H =>
 ob (allM (fun o => o) [aLoad (.some 4) H t4]) fun vs => some (resV vs, H)
def S204_1 (call : CallFn) (t3 t4 t5 t34 t40 t44 : AV) (H : AHeap) : R :=
 guardA t40 true (pNeq t44 (.str [98, 111, 111, 108]) H fun t45 H =>
 S204_0 call t3 t4 t5 t34 t40 t45 H) (S204_0 call t3 t4 t5 t34 t40 U H)
def S204_2 (call : CallFn) (t3 t4 t5 t34 t40 t43 : AV) (H : AHeap) : R :=
 guardA t40 true (ldK .none H t43 fun t44 H =>
 S204_1 call t3 t4 t5 t34 t40 t44 H) (S204_1 call t3 t4 t5 t34 t40 U H)
def S204_3 (call : CallFn) (t3 t4 t5 t34 t40 t42 : AV) (H : AHeap) : R :=
 guardA t40 true (pFa 0 t42 H fun t43 H =>
 S204_2 call t3 t4 t5 t34 t40 t43 H) (S204_2 call t3 t4 t5 t34 t40 U H)
def S204_4 (call : CallFn) (t3 t4 t5 t34 t40 t41 : AV) (H : AHeap) : R :=
 guardA t40 true (pIa 4 t41 (iN 0) H fun t42 H =>
 S204_3 call t3 t4 t5 t34 t40 t42 H) (S204_3 call t3 t4 t5 t34 t40 U H)
def S204_5 (call : CallFn) (t3 t4 t7 t74 t83 t86 t88 : AV) (H : AHeap) : R :=
 andR (andB (ckV (aLoad (.some 4) H t3) t88) true) (
 pPick t83 t86 (.bool false) H fun t87 H =>
 pC call n30 [t74, t87, t88] H fun _ H =>
 ldK (.some 4) H t7 fun t90 H =>
 stK 4 H t4 t90 fun _ H =>
 ob (allM (fun o => o) [aLoad (.some 4) H t4]) fun vs => some (resV vs, H))
def S204_6 (call : CallFn) (t3 t4 t7 t74 t83 t84 t85 : AV) (H : AHeap) : R :=
 ldK (.some 4) H t3 fun t88 H =>
 guardA t83 true (pC call n205 [t84, t85] H fun t86 H =>
 S204_5 call t3 t4 t7 t74 t83 t86 t88 H) (S204_5 call t3 t4 t7 t74 t83 U t88 H)
def S204_7 (call : CallFn) (t3 t4 t7 t74 t83 t84 : AV) (H : AHeap) : R :=
 guardA t83 true (ldK (.some 4) H t7 fun t85 H =>
 S204_6 call t3 t4 t7 t74 t83 t84 t85 H) (S204_6 call t3 t4 t7 t74 t83 t84 U H)
def S204_8 (call : CallFn) (t3 t4 t6 t7 t74 t78 t81 : AV) (H : AHeap) : R :=
 pPick t78 (.bool true) t81 H fun t82 H =>
 guardA t82 true (ldK (.some 4) H t6 fun t84 H =>
 S204_7 call t3 t4 t7 t74 t82 t84 H) (S204_7 call t3 t4 t7 t74 t82 U H)
def S204_9 (call : CallFn) (t3 t4 t6 t7 t74 t78 t80 : AV) (H : AHeap) : R :=
 guardA t78 false (pEql t80 (.str [33]) H fun t81 H =>
 S204_8 call t3 t4 t6 t7 t74 t78 t81 H) (S204_8 call t3 t4 t6 t7 t74 t78 U H)
def S204_10 (call : CallFn) (t3 t4 t6 t7 t74 t78 t79 : AV) (H : AHeap) : R :=
 guardA t78 false (ldK .none H t79 fun t80 H =>
 S204_9 call t3 t4 t6 t7 t74 t78 t80 H) (S204_9 call t3 t4 t6 t7 t74 t78 U H)
def S204_11 (call : CallFn) (t0 t3 t4 t6 t7 : AV) (H : AHeap) : R :=
 pFa 1 t3 H fun t75 H =>
 ldK .none H t75 fun t76 H =>
 pEql t76 (.str [45]) H fun t77 H =>
 guardA t77 false (pFa 1 t3 H fun t79 H =>
 S204_10 call t3 t4 t6 t7 t0 t77 t79 H) (S204_10 call t3 t4 t6 t7 t0 t77 U H)
def S204_12 (call : CallFn) (t0 t3 t4 t5 t13 t159 t165 t170 : AV) (H : AHeap) : R :=
 pPick t165 (.bool true) t170 H fun t171 H =>
 ldK (.some 4) H t3 fun t172 H =>
 pC call n30 [t159, t171, t172] H fun _ H =>
 pFa 0 t13 H fun t175 H =>
 ldK .none H t175 fun t176 H =>
 pEql t176 (.str [105, 110, 116]) H fun t177 H =>
 pIa 4 t5 (iN 1) H fun t179 H =>
 ldK (.some 4) H t179 fun t180 H =>
 pC call n30 [t0, t177, t180] H fun _ H =>
 pIa 4 t5 (iN 0) H fun t183 H =>
 ldK (.some 4) H t183 fun t184 H =>
 stK 4 H t4 t184 fun _ H =>
 ob (allM (fun o => o) [aLoad (.some 4) H t4]) fun vs => some (resV vs, H)
def S204_13 (call : CallFn) (t0 t3 t4 t5 t13 t159 t165 t169 : AV) (H : AHeap) : R :=
 guardA t165 false (pEql t169 (.str [99, 104, 97, 110]) H fun t170 H =>
 S204_12 call t0 t3 t4 t5 t13 t159 t165 t170 H) (S204_12 call t0 t3 t4 t5 t13 t159 t165 U H)
def S204_14 (call : CallFn) (t0 t3 t4 t5 t13 t159 t165 t168 : AV) (H : AHeap) : R :=
 guardA t165 false (ldK .none H t168 fun t169 H =>
 S204_13 call t0 t3 t4 t5 t13 t159 t165 t169 H) (S204_13 call t0 t3 t4 t5 t13 t159 t165 U H)
def S204_15 (call : CallFn) (t0 t3 t4 t5 t13 t159 t165 t167 : AV) (H : AHeap) : R :=
 guardA t165 false (pFa 0 t167 H fun t168 H =>
 S204_14 call t0 t3 t4 t5 t13 t159 t165 t168 H) (S204_14 call t0 t3 t4 t5 t13 t159 t165 U H)
def S204_16 (call : CallFn) (t0 t3 t4 t5 t13 t159 t165 t166 : AV) (H : AHeap) : R :=
 guardA t165 false (pIa 4 t166 (iN 0) H fun t167 H =>
 S204_15 call t0 t3 t4 t5 t13 t159 t165 t167 H) (S204_15 call t0 t3 t4 t5 t13 t159 t165 U H)
def S204_17 (call : CallFn) (t0 t3 t4 t5 t24 t28 : AV) (H : AHeap) : R :=
 onBool t28 (pC call n315 [(.str [98, 111, 111, 108])] H fun t31 H =>
 stK 4 H t4 t31 fun _ H =>
 ob (allM (fun o => o) [aLoad (.some 4) H t4]) fun vs => some (resV vs, H)) (pEql t24 (.str [110, 105, 108]) H fun t33 H =>
 onBool t33 (pIa 4 t5 (iN 0) H fun t36 H =>
 pFa 0 t36 H fun t37 H =>
 ldK .none H t37 fun t38 H =>
 pNeq t38 (.str [105, 110, 116]) H fun t39 H =>
 guardA t39 true (S204_4 call t3 t4 t5 t0 t39 t5 H) (S204_4 call t3 t4 t5 t0 t39 U H)) (pEql t24 (.str [110, 97, 109, 101]) H fun t53 H =>
 onBool t53 (ldK (.some 4) H t3 fun t55 H =>
 pC call n316 [t0, t55] H fun t56 H =>
 stK 4 H t4 t56 fun _ H =>
 ob (allM (fun o => o) [aLoad (.some 4) H t4]) fun vs => some (resV vs, H)) (pEql t24 (.str [98, 105, 110, 97, 114, 121]) H fun t58 H =>
 onBool t58 (ldK (.some 4) H t3 fun t60 H =>
 pC call n317 [t0, t60] H fun t61 H =>
 stK 4 H t4 t61 fun _ H =>
 ob (allM (fun o => o) [aLoad (.some 4) H t4]) fun vs => some (resV vs, H)) (pEql t24 (.str [117, 110, 97, 114, 121]) H fun t63 H =>
 onBool t63 (pIa 4 t5 (iN 0) H fun t66 H =>
 ldK (.some 4) H t66 fun t67 H =>
 pC call n204 [t0, t67] H fun t68 H =>
 pNew [(.str []), (.str []), (iN 0), .nilsl] H fun t6 H =>
 stK 4 H t6 t68 fun _ H =>
 pC call n315 [(.str [105, 110, 116])] H fun t69 H =>
 pNew [(.str []), (.str []), (iN 0), .nilsl] H fun t7 H =>
 stK 4 H t7 t69 fun _ H =>
 pFa 1 t3 H fun t70 H =>
 ldK .none H t70 fun t71 H =>
 pEql t71 (.str [33]) H fun t72 H =>
 onBool t72 (pC call n315 [(.str [98, 111, 111, 108])] H fun t73 H =>
 stK 4 H t7 t73 fun _ H =>
 S204_11 call t0 t3 t4 t6 t7 H) (S204_11 call t0 t3 t4 t6 t7 H)) (pEql t24 (.str [99, 97, 108, 108]) H fun t92 H =>
 onBool t92 (ldK (.some 4) H t3 fun t94 H =>
 pC call n209 [t0, t94] H fun t95 H =>
 pNew [(.str []), (.str []), (iN 0), .nilsl] H fun t8 H =>
 stK 4 H t8 t95 fun _ H =>
 pFa 0 t8 H fun t97 H =>
 ldK .none H t97 fun t98 H =>
 pNeq t98 (.str [110, 111, 110, 101]) H fun t99 H =>
 ldK (.some 4) H t3 fun t100 H =>
 pC call n30 [t0, t99, t100] H fun _ H =>
 ldK (.some 4) H t8 fun t102 H =>
 stK 4 H t4 t102 fun _ H =>
 ob (allM (fun o => o) [aLoad (.some 4) H t4]) fun vs => some (resV vs, H)) (pEql t24 (.str [105, 110, 100, 101, 120]) H fun t104 H =>
 onBool t104 (pIa 4 t5 (iN 0) H fun t107 H =>
 ldK (.some 4) H t107 fun t108 H =>
 pIa 4 t5 (iN 1) H fun t112 H =>
 ldK (.some 4) H t112 fun t113 H =>
 pNew [(.str []), (.str []), (iN 0), .nilsl] H fun t9 H =>
 pNew [(.str []), (.str []), (iN 0), .nilsl] H fun t10 H =>
 pC call n204 [t0, t108] H fun t109 H =>
 andR (andB (ckV (aLoad (.some 4) H t112) t113) true) (
 pC call n204 [t0, t113] H fun t114 H =>
 stK 4 H t9 t109 fun _ H =>
 stK 4 H t10 t114 fun _ H =>
 pFa 0 t9 H fun t116 H =>
 ldK .none H t116 fun t117 H =>
 pEql t117 (.str [108, 105, 115, 116]) H fun t118 H =>
 ldK (.some 4) H t3 fun t119 H =>
 pC call n30 [t0, t118, t119] H fun _ H =>
 pFa 0 t10 H fun t122 H =>
 ldK .none H t122 fun t123 H =>
 pEql t123 (.str [105, 110, 116]) H fun t124 H =>
 pIa 4 t5 (iN 1) H fun t126 H =>
 ldK (.some 4) H t126 fun t127 H =>
 pC call n30 [t0, t124, t127] H fun _ H =>
 ldK (.some 4) H t9 fun t129 H =>
 pC call n318 [t129] H fun t130 H =>
 stK 4 H t4 t130 fun _ H =>
 ob (allM (fun o => o) [aLoad (.some 4) H t4]) fun vs => some (resV vs, H))) (pEql t24 (.str [100, 111, 116]) H fun t132 H =>
 onBool t132 (ldK (.some 4) H t3 fun t134 H =>
 pC call n319 [t0, t134] H fun t135 H =>
 stK 4 H t4 t135 fun _ H =>
 ob (allM (fun o => o) [aLoad (.some 4) H t4]) fun vs => some (resV vs, H)) (pEql t24 (.str [110, 101, 119]) H fun t137 H =>
 onBool t137 (pFa 1 t3 H fun t140 H =>
 ldK .none H t140 fun t141 H =>
 pC call n29 [t0, (.str [115, 116, 114, 117, 99, 116]), t141] H fun t142 H =>
 pExt t142 0 H fun t143 H =>
 pExt t142 1 H fun t144 H =>
 pNew [(.str []), (.str []), (iN 0), .nilsl] H fun t11 H =>
 stK 4 H t11 t143 fun _ H =>
 ldK (.some 4) H t3 fun t147 H =>
 pC call n30 [t0, t144, t147] H fun _ H =>
 pFa 1 t3 H fun t149 H =>
 ldK .none H t149 fun t150 H =>
 pO (someAgg (aFill [(.str []), (.str []), (iN 0), .nilsl] [(0, 1, (.str [110, 97, 109, 101, 100])), (1, 1, t150)])) H fun t151 H =>
 stK 4 H t4 t151 fun _ H =>
 ob (allM (fun o => o) [aLoad (.some 4) H t4]) fun vs => some (resV vs, H)) (pEql t24 (.str [109, 97, 107, 101]) H fun t153 H =>
 onBool t153 (pIa 4 t5 (iN 1) H fun t156 H =>
 ldK (.some 4) H t156 fun t157 H =>
 pC call n204 [t0, t157] H fun t158 H =>
 pNew [(.str []), (.str []), (iN 0), .nilsl] H fun t13 H =>
 stK 4 H t13 t158 fun _ H =>
 pIa 4 t5 (iN 0) H fun t161 H =>
 pFa 0 t161 H fun t162 H =>
 ldK .none H t162 fun t163 H =>
 pEql t163 (.str [108, 105, 115, 116]) H fun t164 H =>
 guardA t164 false (S204_16 call t0 t3 t4 t5 t13 t0 t164 t5 H) (S204_16 call t0 t3 t4 t5 t13 t0 t164 U H)) (pEql t24 (.str [108, 101, 110]) H fun t186 H =>
 onBool t186 (pIa 4 t5 (iN 0) H fun t189 H =>
 ldK (.some 4) H t189 fun t190 H =>
 pC call n204 [t0, t190] H fun t191 H =>
 pNew [(.str []), (.str []), (iN 0), .nilsl] H fun t14 H =>
 stK 4 H t14 t191 fun _ H =>
 pFa 0 t14 H fun t193 H =>
 ldK .none H t193 fun t194 H =>
 pEql t194 (.str [108, 105, 115, 116]) H fun t195 H =>
 ldK (.some 4) H t3 fun t196 H =>
 pC call n30 [t0, t195, t196] H fun _ H =>
 pC call n315 [(.str [105, 110, 116])] H fun t198 H =>
 stK 4 H t4 t198 fun _ H =>
 ob (allM (fun o => o) [aLoad (.some 4) H t4]) fun vs => some (resV vs, H)) (pEql t24 (.str [114, 101, 99, 118]) H fun t200 H =>
 onBool t200 (pIa 4 t5 (iN 0) H fun t203 H =>
 ldK (.some 4) H t203 fun t204 H =>
 pC call n204 [t0, t204] H fun t205 H =>
 pNew [(.str []), (.str []), (iN 0), .nilsl] H fun t15 H =>
 stK 4 H t15 t205 fun _ H =>
 pFa 0 t15 H fun t207 H =>
 ldK .none H t207 fun t208 H =>
 pEql t208 (.str [99, 104, 97, 110]) H fun t209 H =>
 ldK (.some 4) H t3 fun t210 H =>
 pC call n30 [t0, t209, t210] H fun _ H =>
 ldK (.some 4) H t15 fun t212 H =>
 pC call n318 [t212] H fun t213 H =>
 stK 4 H t4 t213 fun _ H =>
 ob (allM (fun o => o) [aLoad (.some 4) H t4]) fun vs => some (resV vs, H)) (ldK (.some 4) H t3 fun t215 H =>
 pC call n320 [t0, t215] H fun t216 H =>
 stK 4 H t4 t216 fun _ H =>
 ob (allM (fun o => o) [aLoad (.some 4) H t4]) fun vs => some (resV vs, H)))))))))))))
def S204_18 (call : CallFn) (t0 t1 : AV) (H : AHeap) : R :=
 pBox t1 H fun t3 H =>
 pNew [(.str []), (.str []), (iN 0), .nilsl] H fun t4 H =>
 pO (aNil t0) H fun t17 H =>
 pFa 4 t17 H fun t18 H =>
 ldK .none H t18 fun t19 H =>
 onBool t19 (pO (someAgg (aFill [(.str []), (.str []), (iN 0), .nilsl] [])) H fun t20 H =>
 stK 4 H t4 t20 fun _ H =>
 ob (allM (fun o => o) [aLoad (.some 4) H t4]) fun vs => some (resV vs, H)) (pFa 3 t3 H fun t21 H =>
 ldK .none H t21 fun t22 H =>
 pFa 0 t3 H fun t23 H =>
 ldK .none H t23 fun t24 H =>
 pEql t24 (.str [110, 117, 109, 98, 101, 114]) H fun t26 H =>
 onBool t26 (pC call n315 [(.str [105, 110, 116])] H fun t27 H =>
 stK 4 H t4 t27 fun _ H =>
 ob (allM (fun o => o) [aLoad (.some 4) H t4]) fun vs => some (resV vs, H)) (pEql t24 (.str [116, 114, 117, 101]) H fun t29 H =>
 onBool t29 (S204_17 call t0 t3 t4 t22 t24 t29 H) (pEql t24 (.str [102, 97, 108, 115, 101]) H fun t30 H =>
 S204_17 call t0 t3 t4 t22 t24 t30 H)))
def S204 : Ff := ⟨fun call l H => argA2 (fun t0 t1 => S204_18 call t0 t1 H) l⟩
def S221_0 (call : CallFn) (t0 t3 : AV) (H : AHeap) : R :=
 ldK (.some 4) H t3 fun t24 H =>
 pC call n340 [t0, t24] H fun t25 H =>
 pC call n78 [t25] H fun t26 H =>
 pC call n80 [t0, t26] H fun t27 H =>
 ldK (.some 4) H t3 fun t29 H =>
 pC call n214 [t0, t29, t27] H fun _ H =>
 some (.tup [t27, t27], H)
def S221_1 (call : CallFn) (t0 t1 : AV) (H : AHeap) : R :=
 pBox t1 H fun t3 H =>
 pFa 0 t3 H fun t9 H =>
 ldK .none H t9 fun t10 H =>
 pEql t10 (.str [110, 97, 109, 101]) H fun t11 H =>
 onBool t11 (pFa 1 t3 H fun t14 H =>
 ldK .none H t14 fun t15 H =>
 pC call n335 [t0, t15] H fun t16 H =>
 pExt t16 0 H fun t17 H =>
 pExt t16 1 H fun t18 H =>
 pNew [(.str []), (.str []), (.str []), (iN 0), .nilsl, (iN 0)] H fun t6 H =>
 stK 6 H t6 t17 fun _ H =>
 onBool t18 (pFa 5 t6 H fun t20 H =>
 ldK .none H t20 fun t21 H =>
 some (.tup [t21, (.int .i64 (.negSucc 0))], H)) (S221_0 call t0 t3 H)) (S221_0 call t0 t3 H)
def S221 : Ff := ⟨fun call l H => argA2 (fun t0 t1 => S221_1 call t0 t1 H) l⟩
def S222_1 (_ : CallFn) (q0 : AV → AV → AV → AV → AHeap → R) (t0 t6 t7 t8 : AV) (H : AHeap) : R :=
 pAdd t8 (iN 1) H fun t20 H =>
 q0 t0 t6 t7 t20 H
def S222_0 (call : CallFn) (n : Nat) : AV → AV → AV → AV → AHeap → R :=
 Nat.rec (motive := fun _ => AV → AV → AV → AV → AHeap → R) (fun _ _ _ _ _ => none) (fun _ q0 t0 t6 t7 t8 H => pLss t8 t7 H fun t9 H =>
 onBool t9 (pIa 1 t6 t8 H fun t10 H =>
 ldK .none H t10 fun t11 H =>
 pNeq t11 (.int .i64 (.negSucc 0)) H fun t13 H =>
 onBool t13 (pO (aNil t0) H fun t15 H =>
 pFa 3 t15 H fun t16 H =>
 ldK .none H t16 fun t17 H =>
 pIa 1 t17 t11 H fun t19 H =>
 stK 1 H t19 (.bool false) fun _ H =>
 S222_1 call q0 t0 t6 t7 t8 H) (S222_1 call q0 t0 t6 t7 t8 H)) (some (.tup [], H))) n
def S222_2 (call : CallFn) (t0 t1 : AV) (H : AHeap) : R :=
 pO (aLen .sl H t1) H fun t7 H =>
 S222_0 call 1000000 t0 t1 t7 (iN 0) H
def S222 : Ff := ⟨fun call l H => argA2 (fun t0 t1 => S222_2 call t0 t1 H) l⟩
def S225_0 (_ : CallFn) (n : Nat) : AV → AV → AV → AV → AV → AHeap → R :=
 Nat.rec (motive := fun _ => AV → AV → AV → AV → AV → AHeap → R) (fun _ _ _ _ _ _ => none) (fun _ q0 t3 t6 t64 t65 t66 H => pLss t66 t65 H fun t67 H =>
 onBool t67 (pIa 1 t64 t66 H fun t68 H =>
 ldK .none H t68 fun t69 H =>
 ldK .none H t3 fun t71 H =>
 pIa 1 t71 t69 H fun t73 H =>
 ldK .none H t73 fun t74 H =>
 pOr t6 t74 H fun t75 H =>
 pAdd t66 (iN 1) H fun t76 H =>
 q0 t3 t75 t64 t65 t76 H) (some (t6, H))) n
def S225_1 (call : CallFn) (t0 t1 t2 t3 t6 : AV) (H : AHeap) : R :=
 ldK (.some 6) H t2 fun t61 H =>
 ldK (.some 7) H t1 fun t62 H =>
 pC call n147 [t61, t62, t0] H fun t64 H =>
 pO (aLen .sl H t64) H fun t65 H =>
 S225_0 call 1000000 t3 t6 t64 t65 (iN 0) H
def S225_3 (_ : CallFn) (q1 : AV → AV → AV → AV → AV → AV → AHeap → R) (t1 t3 t6 t23 t24 t25 : AV) (H : AHeap) : R :=
 pAdd t25 (iN 1) H fun t59 H =>
 q1 t1 t3 t6 t23 t24 t59 H
def S225_4 (call : CallFn) (q1 : AV → AV → AV → AV → AV → AV → AHeap → R) (t1 t3 t6 t9 t23 t24 t25 t32 t38 : AV) (H : AHeap) : R :=
 pPick t32 (.bool true) t38 H fun t39 H =>
 onBool t39 (S225_3 call q1 t1 t3 t6 t23 t24 t25 H) (ldK .none H t3 fun t40 H =>
 pFa 3 t9 H fun t41 H =>
 ldK .none H t41 fun t42 H =>
 pIa 1 t40 t42 H fun t43 H =>
 ldK .none H t43 fun t44 H =>
 pFa 0 t9 H fun t45 H =>
 ldK .none H t45 fun t46 H =>
 pEql t46 (iN 0) H fun t47 H =>
 onBool t47 (pFa 2 t9 H fun t50 H =>
 ldK .none H t50 fun t51 H =>
 pN (aBsl 1 1 [(iN 0)] [(0, 1, t51)]) H fun t52 H =>
 pC call n227 [t52] H fun t53 H =>
 pAndN t44 t53 H fun t54 H =>
 pOr t6 t54 H fun t55 H =>
 S225_3 call q1 t1 t3 t55 t23 t24 t25 H) (pOr t6 t44 H fun t58 H =>
 S225_3 call q1 t1 t3 t58 t23 t24 t25 H))
def S225_2 (call : CallFn) (n : Nat) : AV → AV → AV → AV → AV → AV → AHeap → R :=
 Nat.rec (motive := fun _ => AV → AV → AV → AV → AV → AV → AHeap → R) (fun _ _ _ _ _ _ _ => none) (fun _ q1 t1 t3 t6 t23 t24 t25 H => pLss t25 t24 H fun t26 H =>
 onBool t26 (pIa 4 t23 t25 H fun t27 H =>
 ldK (.some 4) H t27 fun t28 H =>
 pNew [(iN 0), (iN 0), (iN 0), (iN 0)] H fun t9 H =>
 stK 4 H t9 t28 fun _ H =>
 pFa 3 t9 H fun t29 H =>
 ldK .none H t29 fun t30 H =>
 pLss t30 (iN 0) H fun t31 H =>
 guardA t31 false (pFa 3 t9 H fun t33 H =>
 ldK .none H t33 fun t34 H =>
 pFa 5 t1 H fun t35 H =>
 ldK .none H t35 fun t36 H =>
 pO (aLen .sl H t36) H fun t37 H =>
 pGeq t34 t37 H fun t38 H =>
 S225_4 call q1 t1 t3 t6 t9 t23 t24 t25 t31 t38 H) (S225_4 call q1 t1 t3 t6 t9 t23 t24 t25 t31 U H)) (some (t6, H))) n
def S225_5 (call : CallFn) (t0 t1 t2 t3 : AV) (H : AHeap) : R :=
 pFa 5 t1 H fun t13 H =>
 ldK .none H t13 fun t14 H =>
 pIa 5 t14 t0 H fun t16 H =>
 ldK (.some 5) H t16 fun t17 H =>
 pNew [(iN 0), (iN 0), (iN 0), (iN 0), (iN 0)] H fun t7 H =>
 stK 5 H t7 t17 fun _ H =>
 pFa 0 t7 H fun t18 H =>
 ldK .none H t18 fun t19 H =>
 pEql t19 (iN 41) H fun t20 H =>
 onBool t20 (ldK (.some 6) H t2 fun t21 H =>
 ldK (.some 5) H t7 fun t22 H =>
 pC call n226 [t21, t22] H fun t23 H =>
 pO (aLen .sl H t23) H fun t24 H =>
 S225_2 call 1000000 t1 t3 (.int .u64 (.ofNat 0)) t23 t24 (iN 0) H) (S225_1 call t0 t1 t2 t3 (.int .u64 (.ofNat 0)) H)
def S225 : Ff := ⟨fun call l H => argA4 (fun t0 t1 t2 t3 => S225_5 call t0 t1 t2 t3 H) l⟩
def S227_1 (_ : CallFn) (q0 : AV → AV → AV → AV → AHeap → R) (t3 t6 t7 t8 : AV) (H : AHeap) : R :=
 pAdd t8 (iN 1) H fun t23 H =>
 q0 t3 t6 t7 t23 H
def S227_2 (call : CallFn) (q0 : AV → AV → AV → AV → AHeap → R) (t3 t5 t6 t7 t8 t14 t16 : AV) (H : AHeap) : R :=
 pPick t14 t16 (.bool false) H fun t17 H =>
 onBool t17 (pConv .u64 t5 H fun t20 H =>
 pO (aBin .shl (.int .u64 (.ofNat 1)) t20) H fun t21 H =>
 pOr t3 t21 H fun t22 H =>
 S227_1 call q0 t22 t6 t7 t8 H) (S227_1 call q0 t3 t6 t7 t8 H)
def S227_0 (call : CallFn) (n : Nat) : AV → AV → AV → AV → AHeap → R :=
 Nat.rec (motive := fun _ => AV → AV → AV → AV → AHeap → R) (fun _ _ _ _ _ => none) (fun _ q0 t3 t6 t7 t8 H => pLss t8 t7 H fun t9 H =>
 onBool t9 (pIa 1 t6 t8 H fun t10 H =>
 ldK .none H t10 fun t11 H =>
 pGeq t11 (iN 0) H fun t13 H =>
 guardA t13 true (pLss t11 (iN 64) H fun t16 H =>
 S227_2 call q0 t3 t11 t6 t7 t8 t13 t16 H) (S227_2 call q0 t3 t11 t6 t7 t8 t13 U H)) (some (t3, H))) n
def S227_3 (call : CallFn) (t0 : AV) (H : AHeap) : R :=
 pO (aLen .sl H t0) H fun t7 H =>
 S227_0 call 1000000 (.int .u64 (.ofNat 0)) t0 t7 (iN 0) H
def S227 : Ff := ⟨fun call l H => argA1 (fun t0 => S227_3 call t0 H) l⟩
def S228_0 (call : CallFn) (t2 t3 t5 t142 t144 : AV) (H : AHeap) : R :=
 pPick t142 (.bool true) t144 H fun t145 H =>
 onBool t145 (pFa 1 t3 H fun t146 H =>
 ldK .none H t146 fun t147 H =>
 pFa 2 t3 H fun t148 H =>
 ldK .none H t148 fun t149 H =>
 pFa 3 t3 H fun t150 H =>
 ldK .none H t150 fun t151 H =>
 pN (aBsl 1 3 [(iN 0)] [(0, 1, t147), (1, 1, t149), (2, 1, t151)]) H fun t152 H =>
 some (t152, H)) (pEql t5 (iN 36) H fun t155 H =>
 onBool t155 (pFa 3 t3 H fun t156 H =>
 ldK .none H t156 fun t157 H =>
 ldK (.some 6) H t2 fun t158 H =>
 pFa 2 t3 H fun t159 H =>
 ldK .none H t159 fun t160 H =>
 pC call n344 [t158, t160] H fun t161 H =>
 andR (andB (ckV (aLoad .none H t156) t157) true) (
 pO (aFld 1 .none t161) H fun t162 H =>
 pC call n343 [t157, t162] H fun t163 H =>
 some (t163, H))) (pEql t5 (iN 38) H fun t166 H =>
 onBool t166 (pFa 1 t3 H fun t167 H =>
 ldK .none H t167 fun t168 H =>
 pFa 2 t3 H fun t169 H =>
 ldK .none H t169 fun t170 H =>
 pN (aBsl 1 2 [(iN 0)] [(0, 1, t168), (1, 1, t170)]) H fun t171 H =>
 some (t171, H)) (pEql t5 (iN 41) H fun t174 H =>
 onBool t174 (ldK (.some 6) H t2 fun t175 H =>
 ldK (.some 5) H t3 fun t176 H =>
 pC call n226 [t175, t176] H fun t177 H =>
 pC call n346 [t177] H fun t178 H =>
 some (t178, H)) (some (.nilsl, H)))))
def S228_1 (call : CallFn) (t2 t3 t5 t130 t132 : AV) (H : AHeap) : R :=
 pPick t130 (.bool true) t132 H fun t133 H =>
 onBool t133 (pFa 1 t3 H fun t134 H =>
 ldK .none H t134 fun t135 H =>
 pFa 3 t3 H fun t136 H =>
 ldK .none H t136 fun t137 H =>
 pN (aBsl 1 2 [(iN 0)] [(0, 1, t135), (1, 1, t137)]) H fun t138 H =>
 some (t138, H)) (pEql t5 (iN 31) H fun t141 H =>
 guardA t141 false (pEql t5 (iN 32) H fun t144 H =>
 S228_0 call t2 t3 t5 t141 t144 H) (S228_0 call t2 t3 t5 t141 U H))
def S228_2 (call : CallFn) (t2 t3 t5 t120 t122 : AV) (H : AHeap) : R :=
 pPick t120 (.bool true) t122 H fun t123 H =>
 onBool t123 (pFa 3 t3 H fun t124 H =>
 ldK .none H t124 fun t125 H =>
 pN (aBsl 1 1 [(iN 0)] [(0, 1, t125)]) H fun t126 H =>
 some (t126, H)) (pEql t5 (iN 28) H fun t129 H =>
 guardA t129 false (pEql t5 (iN 29) H fun t132 H =>
 S228_1 call t2 t3 t5 t129 t132 H) (S228_1 call t2 t3 t5 t129 U H))
def S228_3 (call : CallFn) (t2 t3 t5 t57 t59 : AV) (H : AHeap) : R :=
 pPick t57 (.bool true) t59 H fun t60 H =>
 onBool t60 (pFa 1 t3 H fun t61 H =>
 ldK .none H t61 fun t62 H =>
 pN (aBsl 1 1 [(iN 0)] [(0, 1, t62)]) H fun t63 H =>
 some (t63, H)) (pEql t5 (iN 20) H fun t66 H =>
 onBool t66 (pFa 3 t3 H fun t67 H =>
 ldK .none H t67 fun t68 H =>
 ldK (.some 6) H t2 fun t69 H =>
 pFa 2 t3 H fun t70 H =>
 ldK .none H t70 fun t71 H =>
 pC call n344 [t69, t71] H fun t72 H =>
 andR (andB (ckV (aLoad .none H t67) t68) true) (
 pO (aFld 0 .none t72) H fun t73 H =>
 pC call n343 [t68, t73] H fun t74 H =>
 some (t74, H))) (pEql t5 (iN 21) H fun t77 H =>
 onBool t77 (pFa 2 t3 H fun t78 H =>
 ldK .none H t78 fun t79 H =>
 pN (aBsl 1 1 [(iN 0)] [(0, 1, t79)]) H fun t80 H =>
 pFa 3 t3 H fun t81 H =>
 ldK .none H t81 fun t82 H =>
 pFa 4 t3 H fun t83 H =>
 ldK .none H t83 fun t84 H =>
 pC call n343 [t82, t84] H fun t85 H =>
 andR (andB (ckV (aLoad .none H t78) t79) true) (
 pW (aApp 1 8 H t80 t85) fun t86 H =>
 some (t86, H))) (pEql t5 (iN 22) H fun t89 H =>
 onBool t89 (pFa 1 t3 H fun t90 H =>
 ldK .none H t90 fun t91 H =>
 pN (aBsl 1 1 [(iN 0)] [(0, 1, t91)]) H fun t92 H =>
 pC call n345 [t92] H fun t93 H =>
 some (t93, H)) (pEql t5 (iN 23) H fun t96 H =>
 onBool t96 (pFa 2 t3 H fun t97 H =>
 ldK .none H t97 fun t98 H =>
 ldK (.some 6) H t2 fun t99 H =>
 pFa 1 t3 H fun t100 H =>
 ldK .none H t100 fun t101 H =>
 pC call n344 [t99, t101] H fun t102 H =>
 andR (andB (ckV (aLoad .none H t97) t98) true) (
 pO (aFld 0 .none t102) H fun t103 H =>
 pC call n343 [t98, t103] H fun t104 H =>
 some (t104, H))) (pEql t5 (iN 24) H fun t107 H =>
 onBool t107 (pFa 1 t3 H fun t108 H =>
 ldK .none H t108 fun t109 H =>
 pN (aBsl 1 1 [(iN 0)] [(0, 1, t109)]) H fun t110 H =>
 pFa 2 t3 H fun t111 H =>
 ldK .none H t111 fun t112 H =>
 pFa 3 t3 H fun t113 H =>
 ldK .none H t113 fun t114 H =>
 pC call n343 [t112, t114] H fun t115 H =>
 andR (andB (ckV (aLoad .none H t108) t109) true) (
 pW (aApp 1 8 H t110 t115) fun t116 H =>
 some (t116, H))) (pEql t5 (iN 26) H fun t119 H =>
 guardA t119 false (pEql t5 (iN 37) H fun t122 H =>
 S228_2 call t2 t3 t5 t119 t122 H) (S228_2 call t2 t3 t5 t119 U H)))))))
def S228_4 (call : CallFn) (t2 t3 t5 t53 t55 : AV) (H : AHeap) : R :=
 pPick t53 (.bool true) t55 H fun t56 H =>
 guardA t56 false (pEql t5 (iN 42) H fun t59 H =>
 S228_3 call t2 t3 t5 t56 t59 H) (S228_3 call t2 t3 t5 t56 U H)
def S228_5 (call : CallFn) (t2 t3 t5 t41 t43 : AV) (H : AHeap) : R :=
 pPick t41 (.bool true) t43 H fun t44 H =>
 onBool t44 (pFa 2 t3 H fun t45 H =>
 ldK .none H t45 fun t46 H =>
 pFa 3 t3 H fun t47 H =>
 ldK .none H t47 fun t48 H =>
 pN (aBsl 1 2 [(iN 0)] [(0, 1, t46), (1, 1, t48)]) H fun t49 H =>
 some (t49, H)) (pEql t5 (iN 19) H fun t52 H =>
 guardA t52 false (pEql t5 (iN 40) H fun t55 H =>
 S228_4 call t2 t3 t5 t52 t55 H) (S228_4 call t2 t3 t5 t52 U H))
def S228_6 (call : CallFn) (t2 t3 t5 t37 t39 : AV) (H : AHeap) : R :=
 pPick t37 t39 (.bool false) H fun t40 H =>
 guardA t40 false (pEql t5 (iN 30) H fun t43 H =>
 S228_5 call t2 t3 t5 t40 t43 H) (S228_5 call t2 t3 t5 t40 U H)
def S228_7 (call : CallFn) (t2 t3 t5 t27 t29 : AV) (H : AHeap) : R :=
 pPick t27 (.bool true) t29 H fun t30 H =>
 onBool t30 (pFa 2 t3 H fun t31 H =>
 ldK .none H t31 fun t32 H =>
 pN (aBsl 1 1 [(iN 0)] [(0, 1, t32)]) H fun t33 H =>
 some (t33, H)) (pGeq t5 (iN 3) H fun t36 H =>
 guardA t36 true (pLeq t5 (iN 16) H fun t39 H =>
 S228_6 call t2 t3 t5 t36 t39 H) (S228_6 call t2 t3 t5 t36 U H))
def S228_8 (call : CallFn) (t2 t3 t5 t23 t25 : AV) (H : AHeap) : R :=
 pPick t23 (.bool true) t25 H fun t26 H =>
 guardA t26 false (pEql t5 (iN 39) H fun t29 H =>
 S228_7 call t2 t3 t5 t26 t29 H) (S228_7 call t2 t3 t5 t26 U H)
def S228_9 (call : CallFn) (t2 t3 t5 t19 t21 : AV) (H : AHeap) : R :=
 pPick t19 (.bool true) t21 H fun t22 H =>
 guardA t22 false (pEql t5 (iN 27) H fun t25 H =>
 S228_8 call t2 t3 t5 t22 t25 H) (S228_8 call t2 t3 t5 t22 U H)
def S228_10 (call : CallFn) (t2 t3 t5 t15 t17 : AV) (H : AHeap) : R :=
 pPick t15 (.bool true) t17 H fun t18 H =>
 guardA t18 false (pEql t5 (iN 35) H fun t21 H =>
 S228_9 call t2 t3 t5 t18 t21 H) (S228_9 call t2 t3 t5 t18 U H)
def S228_11 (call : CallFn) (t2 t3 t5 t11 t13 : AV) (H : AHeap) : R :=
 pPick t11 (.bool true) t13 H fun t14 H =>
 guardA t14 false (pEql t5 (iN 33) H fun t17 H =>
 S228_10 call t2 t3 t5 t14 t17 H) (S228_10 call t2 t3 t5 t14 U H)
def S228_12 (call : CallFn) (t0 t1 : AV) (H : AHeap) : R :=
 pBox t0 H fun t2 H =>
 pBox t1 H fun t3 H =>
 pFa 0 t3 H fun t6 H =>
 ldK .none H t6 fun t7 H =>
 pEql t7 (iN 1) H fun t10 H =>
 guardA t10 false (pEql t7 (iN 17) H fun t13 H =>
 S228_11 call t2 t3 t7 t10 t13 H) (S228_11 call t2 t3 t7 t10 U H)
def S228 : Ff := ⟨fun call l H => argA2 (fun t0 t1 => S228_12 call t0 t1 H) l⟩
def S229_0 (call : CallFn) (t1 t3 t47 t49 : AV) (H : AHeap) : R :=
 pPick t47 (.bool true) t49 H fun t50 H =>
 onBool t50 (pFa 1 t1 H fun t51 H =>
 ldK .none H t51 fun t52 H =>
 pN (aBsl 1 1 [(iN 0)] [(0, 1, t52)]) H fun t53 H =>
 pC call n345 [t53] H fun t54 H =>
 some (t54, H)) (pEql t3 (iN 39) H fun t57 H =>
 onBool t57 (pFa 1 t1 H fun t58 H =>
 ldK .none H t58 fun t59 H =>
 pFa 3 t1 H fun t60 H =>
 ldK .none H t60 fun t61 H =>
 pN (aBsl 1 2 [(iN 0)] [(0, 1, t59), (1, 1, t61)]) H fun t62 H =>
 pC call n345 [t62] H fun t63 H =>
 some (t63, H)) (some (.nilsl, H)))
def S229_1 (call : CallFn) (t1 t3 t37 t39 : AV) (H : AHeap) : R :=
 pPick t37 (.bool true) t39 H fun t40 H =>
 onBool t40 (pFa 1 t1 H fun t41 H =>
 ldK .none H t41 fun t42 H =>
 pN (aBsl 1 1 [(iN 0)] [(0, 1, t42)]) H fun t43 H =>
 some (t43, H)) (pEql t3 (iN 20) H fun t46 H =>
 guardA t46 false (pEql t3 (iN 21) H fun t49 H =>
 S229_0 call t1 t3 t46 t49 H) (S229_0 call t1 t3 t46 U H))
def S229_2 (call : CallFn) (t1 t3 t33 t35 : AV) (H : AHeap) : R :=
 pPick t33 (.bool true) t35 H fun t36 H =>
 guardA t36 false (pEql t3 (iN 37) H fun t39 H =>
 S229_1 call t1 t3 t36 t39 H) (S229_1 call t1 t3 t36 U H)
def S229_3 (call : CallFn) (t1 t3 t29 t31 : AV) (H : AHeap) : R :=
 pPick t29 (.bool true) t31 H fun t32 H =>
 guardA t32 false (pEql t3 (iN 36) H fun t35 H =>
 S229_2 call t1 t3 t32 t35 H) (S229_2 call t1 t3 t32 U H)
def S229_4 (call : CallFn) (t1 t3 t25 t27 : AV) (H : AHeap) : R :=
 pPick t25 (.bool true) t27 H fun t28 H =>
 guardA t28 false (pEql t3 (iN 34) H fun t31 H =>
 S229_3 call t1 t3 t28 t31 H) (S229_3 call t1 t3 t28 U H)
def S229_5 (call : CallFn) (t1 t3 t21 t23 : AV) (H : AHeap) : R :=
 pPick t21 (.bool true) t23 H fun t24 H =>
 guardA t24 false (pEql t3 (iN 33) H fun t27 H =>
 S229_4 call t1 t3 t24 t27 H) (S229_4 call t1 t3 t24 U H)
def S229_6 (call : CallFn) (t1 t3 t13 t19 : AV) (H : AHeap) : R :=
 pPick t13 (.bool true) t19 H fun t20 H =>
 guardA t20 false (pEql t3 (iN 30) H fun t23 H =>
 S229_5 call t1 t3 t20 t23 H) (S229_5 call t1 t3 t20 U H)
def S229_7 (call : CallFn) (t1 t3 t13 t16 t18 : AV) (H : AHeap) : R :=
 guardA t13 false (pPick t16 t18 (.bool false) H fun t19 H =>
 S229_6 call t1 t3 t13 t19 H) (S229_6 call t1 t3 t13 U H)
def S229_8 (call : CallFn) (t1 t3 t13 t16 : AV) (H : AHeap) : R :=
 guardA t16 true (pLeq t3 (iN 27) H fun t18 H =>
 S229_7 call t1 t3 t13 t16 t18 H) (S229_7 call t1 t3 t13 t16 U H)
def S229_9 (call : CallFn) (t1 t3 t9 t11 : AV) (H : AHeap) : R :=
 pPick t9 t11 (.bool false) H fun t12 H =>
 guardA t12 false (pGeq t3 (iN 25) H fun t15 H =>
 S229_8 call t1 t3 t12 t15 H) (S229_8 call t1 t3 t12 U H)
def S229_10 (call : CallFn) (t0 : AV) (H : AHeap) : R :=
 pBox t0 H fun t1 H =>
 pFa 0 t1 H fun t4 H =>
 ldK .none H t4 fun t5 H =>
 pGeq t5 (iN 0) H fun t8 H =>
 guardA t8 true (pLeq t5 (iN 17) H fun t11 H =>
 S229_9 call t1 t5 t8 t11 H) (S229_9 call t1 t5 t8 U H)
def S229 : Ff := ⟨fun call l H => argA1 (fun t0 => S229_10 call t0 H) l⟩
def S230_0 (call : CallFn) (t0 t4 : AV) (H : AHeap) : R :=
 onBool t4 (some ((.bool true), H)) (pC call n231 [t0] H fun t14 H =>
 some (t14, H))
def S230_1 (call : CallFn) (t0 : AV) (H : AHeap) : R :=
 pEql t0 (iN 20) H fun t5 H =>
 onBool t5 (S230_0 call t0 t5 H) (pEql t0 (iN 21) H fun t6 H =>
 onBool t6 (S230_0 call t0 t6 H) (pEql t0 (iN 23) H fun t7 H =>
 onBool t7 (S230_0 call t0 t7 H) (pEql t0 (iN 24) H fun t8 H =>
 onBool t8 (S230_0 call t0 t8 H) (pEql t0 (iN 38) H fun t9 H =>
 onBool t9 (S230_0 call t0 t9 H) (pEql t0 (iN 39) H fun t10 H =>
 onBool t10 (S230_0 call t0 t10 H) (pEql t0 (iN 41) H fun t11 H =>
 onBool t11 (S230_0 call t0 t11 H) (pEql t0 (iN 43) H fun t12 H =>
 S230_0 call t0 t12 H)))))))
def S230 : Ff := ⟨fun call l H => argA1 (fun t0 => S230_1 call t0 H) l⟩
def S231_0 (_ : CallFn) (t13 t15 : AV) (H : AHeap) : R :=
 pPick t13 (.bool true) t15 H fun t16 H =>
 some (t16, H)
def S231_1 (call : CallFn) (t0 t9 t11 : AV) (H : AHeap) : R :=
 pPick t9 (.bool true) t11 H fun t12 H =>
 guardA t12 false (pEql t0 (iN 37) H fun t15 H =>
 S231_0 call t12 t15 H) (S231_0 call t12 U H)
def S231_2 (call : CallFn) (t0 t5 t7 : AV) (H : AHeap) : R :=
 pPick t5 (.bool true) t7 H fun t8 H =>
 guardA t8 false (pEql t0 (iN 36) H fun t11 H =>
 S231_1 call t0 t8 t11 H) (S231_1 call t0 t8 U H)
def S231_3 (call : CallFn) (t0 : AV) (H : AHeap) : R :=
 pEql t0 (iN 25) H fun t4 H =>
 guardA t4 false (pEql t0 (iN 26) H fun t7 H =>
 S231_2 call t0 t4 t7 H) (S231_2 call t0 t4 U H)
def S231 : Ff := ⟨fun call l H => argA1 (fun t0 => S231_3 call t0 H) l⟩
def S232_0 (_ : CallFn) (t0 t1 t5 t8 t12 : AV) (H : AHeap) : R :=
 pPick t8 t12 (.bool false) H fun t13 H =>
 onBool t13 (ldK (.some 3) H t5 fun t16 H =>
 pIa 3 t0 t1 H fun t17 H =>
 stK 3 H t17 t16 fun _ H =>
 some (.tup [], H)) (some (.tup [], H))
def S232_1 (call : CallFn) (t0 t1 t2 : AV) (H : AHeap) : R :=
 pBox t2 H fun t5 H =>
 pGeq t1 (iN 0) H fun t7 H =>
 guardA t7 true (pO (aLen .sl H t0) H fun t11 H =>
 pLss t1 t11 H fun t12 H =>
 S232_0 call t0 t1 t5 t7 t12 H) (S232_0 call t0 t1 t5 t7 U H)
def S232 : Ff := ⟨fun call l H => argA3 (fun t0 t1 t2 => S232_1 call t0 t1 t2 H) l⟩
def S234_0 (_ : CallFn) (t4 : AV) (H : AHeap) : R :=
 onBool t4 (some ((.bool true), H)) (some ((.bool false), H))
def S234_1 (call : CallFn) (t0 : AV) (H : AHeap) : R :=
 pEql t0 (iN 35) H fun t5 H =>
 onBool t5 (S234_0 call t5 H) (pEql t0 (iN 20) H fun t6 H =>
 onBool t6 (S234_0 call t6 H) (pEql t0 (iN 21) H fun t7 H =>
 onBool t7 (S234_0 call t7 H) (pEql t0 (iN 23) H fun t8 H =>
 onBool t8 (S234_0 call t8 H) (pEql t0 (iN 24) H fun t9 H =>
 onBool t9 (S234_0 call t9 H) (pEql t0 (iN 22) H fun t10 H =>
 S234_0 call t10 H)))))
def S234 : Ff := ⟨fun call l H => argA1 (fun t0 => S234_1 call t0 H) l⟩
def S235_1 (_ : CallFn) (q0 : AV → AV → AV → AV → AHeap → R) (t5 t49 t50 t51 : AV) (H : AHeap) : R :=
 pAdd t51 (iN 1) H fun t63 H =>
 q0 t5 t49 t50 t63 H
def S235_0 (call : CallFn) (n : Nat) : AV → AV → AV → AV → AHeap → R :=
 Nat.rec (motive := fun _ => AV → AV → AV → AV → AHeap → R) (fun _ _ _ _ _ => none) (fun _ q0 t5 t49 t50 t51 H => pLss t51 t50 H fun t52 H =>
 onBool t52 (pIa 4 t49 t51 H fun t53 H =>
 ldK (.some 4) H t53 fun t54 H =>
 pNew [(iN 0), (iN 0), (iN 0), (iN 0)] H fun t7 H =>
 stK 4 H t7 t54 fun _ H =>
 pFa 0 t7 H fun t55 H =>
 ldK .none H t55 fun t56 H =>
 pEql t56 (iN 0) H fun t57 H =>
 onBool t57 (pFa 2 t7 H fun t59 H =>
 ldK .none H t59 fun t60 H =>
 pN (aBsl 1 1 [(iN 0)] [(0, 1, t60)]) H fun t61 H =>
 pW (aApp 1 8 H t5 t61) fun t62 H =>
 S235_1 call q0 t62 t49 t50 t51 H) (S235_1 call q0 t5 t49 t50 t51 H)) (some (t5, H))) n
def S235_2 (call : CallFn) (t2 t3 t29 t38 : AV) (H : AHeap) : R :=
 pPick t29 (.bool true) t38 H fun t39 H =>
 onBool t39 (some (.nilsl, H)) (pFa 3 t2 H fun t40 H =>
 ldK .none H t40 fun t41 H =>
 pFa 1 t3 H fun t42 H =>
 ldK .none H t42 fun t43 H =>
 pFa 1 t3 H fun t44 H =>
 ldK .none H t44 fun t45 H =>
 pFa 2 t3 H fun t46 H =>
 ldK .none H t46 fun t47 H =>
 pAdd t45 t47 H fun t48 H =>
 pO (aSlice 4 H t41 (.some t43) (.some t48) .none) H fun t49 H =>
 pO (aLen .sl H t49) H fun t50 H =>
 S235_0 call 1000000 .nilsl t49 t50 (iN 0) H)
def S235_3 (call : CallFn) (t2 t3 t21 t27 : AV) (H : AHeap) : R :=
 pPick t21 (.bool true) t27 H fun t28 H =>
 guardA t28 false (pFa 2 t3 H fun t30 H =>
 ldK .none H t30 fun t31 H =>
 pFa 3 t2 H fun t32 H =>
 ldK .none H t32 fun t33 H =>
 pO (aLen .sl H t33) H fun t34 H =>
 pFa 1 t3 H fun t35 H =>
 ldK .none H t35 fun t36 H =>
 pSub t34 t36 H fun t37 H =>
 pGtr t31 t37 H fun t38 H =>
 S235_2 call t2 t3 t28 t38 H) (S235_2 call t2 t3 t28 U H)
def S235_4 (call : CallFn) (t2 t3 t16 t19 : AV) (H : AHeap) : R :=
 pPick t16 (.bool true) t19 H fun t20 H =>
 guardA t20 false (pFa 1 t3 H fun t22 H =>
 ldK .none H t22 fun t23 H =>
 pFa 3 t2 H fun t24 H =>
 ldK .none H t24 fun t25 H =>
 pO (aLen .sl H t25) H fun t26 H =>
 pGtr t23 t26 H fun t27 H =>
 S235_3 call t2 t3 t20 t27 H) (S235_3 call t2 t3 t20 U H)
def S235_5 (call : CallFn) (t2 t3 t11 t14 : AV) (H : AHeap) : R :=
 pPick t11 (.bool true) t14 H fun t15 H =>
 guardA t15 false (pFa 2 t3 H fun t17 H =>
 ldK .none H t17 fun t18 H =>
 pLss t18 (iN 0) H fun t19 H =>
 S235_4 call t2 t3 t15 t19 H) (S235_4 call t2 t3 t15 U H)
def S235_6 (call : CallFn) (t0 t1 : AV) (H : AHeap) : R :=
 pBox t0 H fun t2 H =>
 pBox t1 H fun t3 H =>
 pFa 0 t3 H fun t8 H =>
 ldK .none H t8 fun t9 H =>
 pNeq t9 (iN 41) H fun t10 H =>
 guardA t10 false (pFa 1 t3 H fun t12 H =>
 ldK .none H t12 fun t13 H =>
 pLss t13 (iN 0) H fun t14 H =>
 S235_5 call t2 t3 t10 t14 H) (S235_5 call t2 t3 t10 U H)
def S235 : Ff := ⟨fun call l H => argA2 (fun t0 t1 => S235_6 call t0 t1 H) l⟩
def S236_0 (_ : CallFn) (t6 t11 : AV) (H : AHeap) : R :=
 pPick t6 (.bool true) t11 H fun t12 H =>
 some (t12, H)
def S236_1 (call : CallFn) (t0 t1 : AV) (H : AHeap) : R :=
 pLss t0 (iN 0) H fun t5 H =>
 guardA t5 false (pFa 5 t1 H fun t8 H =>
 ldK .none H t8 fun t9 H =>
 pO (aLen .sl H t9) H fun t10 H =>
 pGeq t0 t10 H fun t11 H =>
 S236_0 call t5 t11 H) (S236_0 call t5 U H)
def S236 : Ff := ⟨fun call l H => argA2 (fun t0 t1 => S236_1 call t0 t1 H) l⟩
def S237_0 (call : CallFn) (t0 : AV) (H : AHeap) : R :=
 pO (aLen .sl H t0) H fun t4 H =>
 pConv .u64 t4 H fun t8 H =>
 pC call n348 [t8] H fun t9 H =>
 pC call n347 [t0, (iN 0), t4, t9] H fun _ H =>
 some (.tup [], H)
def S237 : Ff := ⟨fun call l H => argA1 (fun t0 => S237_0 call t0 H) l⟩
def S238_1 (_ : CallFn) (q0 : AV → AV → AHeap → R) (t0 t3 : AV) (H : AHeap) : R :=
 pAdd t3 (iN 1) H fun t15 H =>
 q0 t0 t15 H
def S238_2 (_ : CallFn) (t0 t3 : AV) (H : AHeap) : R :=
 pO (aSlice 1 H t0 (.some t3) .none .none) H fun t56 H =>
 pW (unitW (aClearS [(iN 0)] H t56)) fun _ H =>
 pO (aSlice 1 H t0 .none (.some t3) .none) H fun t59 H =>
 some (t59, H)
def S238_4 (_ : CallFn) (q1 : AV → AV → AV → AV → AHeap → R) (t0 t3 t4 t5 : AV) (H : AHeap) : R :=
 pAdd t5 (iN 1) H fun t34 H =>
 q1 t0 t3 t4 t34 H
def S238_3 (call : CallFn) (n : Nat) : AV → AV → AV → AV → AHeap → R :=
 Nat.rec (motive := fun _ => AV → AV → AV → AV → AHeap → R) (fun _ _ _ _ _ => none) (fun _ q1 t0 t3 t4 t5 H => pO (aLen .sl H t4) H fun t31 H =>
 pLss t5 t31 H fun t32 H =>
 onBool t32 (pIa 1 t4 t5 H fun t37 H =>
 ldK .none H t37 fun t38 H =>
 pSub t5 (iN 1) H fun t41 H =>
 pIa 1 t4 t41 H fun t42 H =>
 ldK .none H t42 fun t43 H =>
 pNeq t38 t43 H fun t44 H =>
 onBool t44 (pIa 1 t4 t5 H fun t49 H =>
 ldK .none H t49 fun t50 H =>
 pIa 1 t0 t3 H fun t51 H =>
 stK 1 H t51 t50 fun _ H =>
 pAdd t3 (iN 1) H fun t53 H =>
 S238_4 call q1 t0 t53 t4 t5 H) (S238_4 call q1 t0 t3 t4 t5 H)) (S238_2 call t0 t3 H)) n
def S238_0 (call : CallFn) (n : Nat) : AV → AV → AHeap → R :=
 Nat.rec (motive := fun _ => AV → AV → AHeap → R) (fun _ _ _ => none) (fun _ q0 t0 t3 H => pO (aLen .sl H t0) H fun t12 H =>
 pLss t3 t12 H fun t13 H =>
 onBool t13 (pIa 1 t0 t3 H fun t18 H =>
 ldK .none H t18 fun t19 H =>
 pSub t3 (iN 1) H fun t22 H =>
 pIa 1 t0 t22 H fun t23 H =>
 ldK .none H t23 fun t24 H =>
 pEql t19 t24 H fun t25 H =>
 onBool t25 (pO (aSlice 1 H t0 (.some t3) .none .none) H fun t28 H =>
 S238_3 call 1000000 t0 t3 t28 (iN 1) H) (S238_1 call q0 t0 t3 H)) (some (t0, H))) n
def S238_5 (call : CallFn) (t0 : AV) (H : AHeap) : R :=
 pO (aLen .sl H t0) H fun t7 H =>
 pLss t7 (iN 2) H fun t8 H =>
 onBool t8 (some (t0, H)) (S238_0 call 1000000 t0 (iN 1) H)
def S238 : Ff := ⟨fun call l H => argA1 (fun t0 => S238_5 call t0 H) l⟩
def S241_0 (call : CallFn) (n : Nat) : AV → AV → AV → AV → AHeap → R :=
 Nat.rec (motive := fun _ => AV → AV → AV → AV → AHeap → R) (fun _ _ _ _ _ => none) (fun _ q0 t0 t1 t7 t8 H => pLss t8 t7 H fun t9 H =>
 onBool t9 (pIa 1 t0 t8 H fun t14 H =>
 ldK .none H t14 fun t15 H =>
 pV call t1 [t15] H fun t16 H =>
 onBool t16 (some (t8, H)) (pAdd t8 (.int .i64 (.ofNat 1)) H fun t18 H =>
 q0 t0 t1 t7 t18 H)) (some ((.int .i64 (.negSucc 0)), H))) n
def S241_1 (call : CallFn) (t0 t1 : AV) (H : AHeap) : R :=
 pO (aLen .sl H t0) H fun t7 H =>
 S241_0 call 1000000 t0 t1 t7 (.int .i64 (.ofNat 0)) H
def S241 : Ff := ⟨fun call l H => argA2 (fun t0 t1 => S241_1 call t0 t1 H) l⟩
def S243_0 (_ : CallFn) (t0 : AV) (H : AHeap) : R :=
 pBox t0 H fun t1 H =>
 some ((.fn n350 [] [t1]), H)
def S243 : Ff := ⟨fun call l H => argA1 (fun t0 => S243_0 call t0 H) l⟩
def S246_0 (_ : CallFn) (t0 : AV) (H : AHeap) : R :=
 pO (aEq false .sl t0 .nilsl) H fun t4 H =>
 onBool t4 (some (.nilsl, H)) (pN (aBsl 1 0 [(.int .i64 (.ofNat 0))] []) H fun t5 H =>
 pW (aApp 1 8 H t5 t0) fun t7 H =>
 some (t7, H))
def S246 : Ff := ⟨fun call l H => argA1 (fun t0 => S246_0 call t0 H) l⟩
def S247_0 (_ : CallFn) (t0 t1 : AV) (H : AHeap) : R :=
 pO (aNil t0) H fun t6 H =>
 pFa 5 t6 H fun t7 H =>
 ldK .none H t7 fun t8 H =>
 pO (aLook .int (.bool false) false H t8 t1) H fun t10 H =>
 some (t10, H)
def S247 : Ff := ⟨fun call l H => argA2 (fun t0 t1 => S247_0 call t0 t1 H) l⟩
end
noncomputable section
set_option maxRecDepth 100000
def S248_0 (_ : CallFn) (n : Nat) : AV → AV → AV → AHeap → R :=
 Nat.rec (motive := fun _ => AV → AV → AV → AHeap → R) (fun _ _ _ _ => none) (fun _ q0 t0 t3 t4 H => pO (aLen .sl H t0) H fun t14 H =>
 pLss t4 t14 H fun t15 H =>
 onBool t15 (pIa 1 t0 t4 H fun t21 H =>
 ldK .none H t21 fun t22 H =>
 pO (aMinMax false t3 t22) H fun t23 H =>
 pAdd t4 (.int .i64 (.ofNat 1)) H fun t17 H =>
 q0 t0 t23 t17 H) (some (t3, H))) n
def S248_1 (call : CallFn) (t0 : AV) (H : AHeap) : R :=
 pIa 1 t0 (.int .i64 (.ofNat 0)) H fun t10 H =>
 ldK .none H t10 fun t11 H =>
 S248_0 call 1000000 t0 t11 (.int .i64 (.ofNat 1)) H
def S248_2 (call : CallFn) (t0 : AV) (H : AHeap) : R :=
 pO (aLen .sl H t0) H fun t6 H =>
 pLss t6 (.int .i64 (.ofNat 1)) H fun t7 H =>
 onBool t7 (none) (S248_1 call t0 H)
def S248 : Ff := ⟨fun call l H => argA1 (fun t0 => S248_2 call t0 H) l⟩
def S249_0 (_ : CallFn) (t8 t13 : AV) (H : AHeap) : R :=
 pPick t8 (.bool true) t13 H fun t14 H =>
 some (t14, H)
def S249_1 (call : CallFn) (t0 : AV) (H : AHeap) : R :=
 pO (aNil t0) H fun t4 H =>
 pFa 4 t4 H fun t5 H =>
 ldK .none H t5 fun t6 H =>
 pEql t6 (.int .i64 (.ofNat 1)) H fun t7 H =>
 guardA t7 false (pO (aNil t0) H fun t10 H =>
 pFa 4 t10 H fun t11 H =>
 ldK .none H t11 fun t12 H =>
 pEql t12 (.int .i64 (.ofNat 2)) H fun t13 H =>
 S249_0 call t7 t13 H) (S249_0 call t7 U H)
def S249 : Ff := ⟨fun call l H => argA1 (fun t0 => S249_1 call t0 H) l⟩
def S250_0 (_ : CallFn) (t0 : AV) (H : AHeap) : R :=
 pO (aNil t0) H fun t6 H =>
 pFa 0 t6 H fun t7 H =>
 ldK .none H t7 fun t8 H =>
 pO (aLen .sl H t8) H fun t9 H =>
 pEql t9 (.int .i64 (.ofNat 0)) H fun t10 H =>
 onBool t10 (some (.tup [(.int .i64 (.ofNat 0)), (.bool false)], H)) (pO (aNil t0) H fun t12 H =>
 pFa 0 t12 H fun t13 H =>
 ldK .none H t13 fun t14 H =>
 pIa 1 t14 (.int .i64 (.ofNat 0)) H fun t15 H =>
 ldK .none H t15 fun t16 H =>
 pO (aNil t0) H fun t19 H =>
 pFa 0 t19 H fun t20 H =>
 ldK .none H t20 fun t21 H =>
 pO (aSlice 1 H t21 (.some (.int .i64 (.ofNat 1))) .none .none) H fun t22 H =>
 pO (aNil t0) H fun t23 H =>
 pFa 0 t23 H fun t24 H =>
 stK 1 H t24 t22 fun _ H =>
 some (.tup [t16, (.bool true)], H))
def S250 : Ff := ⟨fun call l H => argA1 (fun t0 => S250_0 call t0 H) l⟩
def S253_0 (call : CallFn) (t0 t1 : AV) (H : AHeap) : R :=
 pC call n363 [t0, t1] H fun t7 H =>
 pO (aUn .not t7) H fun t8 H =>
 onBool t8 (some ((.int .i64 (.negSucc 0)), H)) (pO (aNil t0) H fun t10 H =>
 pFa 1 t10 H fun t11 H =>
 ldK .none H t11 fun t12 H =>
 pIa 3 t12 t1 H fun t14 H =>
 pFa 0 t14 H fun t15 H =>
 ldK .none H t15 fun t16 H =>
 some (t16, H))
def S253 : Ff := ⟨fun call l H => argA2 (fun t0 t1 => S253_0 call t0 t1 H) l⟩
def S255_0 (call : CallFn) (t0 : AV) (H : AHeap) : R :=
 pC call n365 [t0] H fun t4 H =>
 some (t4, H)
def S255 : Ff := ⟨fun call l H => argA1 (fun t0 => S255_0 call t0 H) l⟩
def S256_0 (call : CallFn) (t0 t1 : AV) (H : AHeap) : R :=
 pC call n253 [t0, t1] H fun t7 H =>
 pEql t7 (.int .i64 (.negSucc 0)) H fun t8 H =>
 onBool t8 (some ((.int .u64 (.ofNat 0)), H)) (pO (aNil t0) H fun t10 H =>
 pFa 1 t10 H fun t11 H =>
 ldK .none H t11 fun t12 H =>
 pIa 3 t12 t1 H fun t14 H =>
 pFa 1 t14 H fun t15 H =>
 ldK .none H t15 fun t16 H =>
 some (t16, H))
def S256 : Ff := ⟨fun call l H => argA2 (fun t0 t1 => S256_0 call t0 t1 H) l⟩
def S257_0 (_ : CallFn) (t0 t5 t7 : AV) (H : AHeap) : R :=
 pPick t5 (.bool true) t7 H fun t8 H =>
 onBool t8 (some ((.int .i64 (.ofNat 0)), H)) (pConv .u64 t0 H fun t10 H =>
 pO (aBin .shl (.int .i64 (.ofNat 2)) t10) H fun t11 H =>
 some (t11, H))
def S257_1 (call : CallFn) (t0 : AV) (H : AHeap) : R :=
 pLss t0 (.int .i64 (.ofNat 0)) H fun t4 H =>
 guardA t4 false (pGeq t0 (.int .i64 (.ofNat 6)) H fun t7 H =>
 S257_0 call t0 t4 t7 H) (S257_0 call t0 t4 U H)
def S257 : Ff := ⟨fun call l H => argA1 (fun t0 => S257_1 call t0 H) l⟩
def S258_0 (call : CallFn) (t0 t1 : AV) (H : AHeap) : R :=
 pO (aNil t0) H fun t5 H =>
 pFa 2 t5 H fun t6 H =>
 ldK .none H t6 fun t7 H =>
 pO (aNil t0) H fun t9 H =>
 pFa 3 t9 H fun t10 H =>
 pFa 1 t10 H fun t11 H =>
 ldK .none H t11 fun t12 H =>
 pC call n366 [t7, t12, t1] H fun _ H =>
 pC call n177 [t0] H fun _ H =>
 some (.tup [], H)
def S258 : Ff := ⟨fun call l H => argA2 (fun t0 t1 => S258_0 call t0 t1 H) l⟩
def S259_0 (_ : CallFn) (t0 : AV) (H : AHeap) : R :=
 onBool t0 (some ((.int .i64 (.ofNat 1)), H)) (some ((.int .i64 (.ofNat 0)), H))
def S259 : Ff := ⟨fun call l H => argA1 (fun t0 => S259_0 call t0 H) l⟩
def S260_0 (call : CallFn) (t0 t1 : AV) (H : AHeap) : R :=
 pC call n170 [t0] H fun t6 H =>
 pO (aEq true .ptr t6 .nilp) H fun t8 H =>
 onBool t8 (pO (aNil t6) H fun t11 H =>
 pFa 1 t11 H fun t12 H =>
 stK 1 H t12 t1 fun _ H =>
 some (.tup [], H)) (some (.tup [], H))
def S260 : Ff := ⟨fun call l H => argA2 (fun t0 t1 => S260_0 call t0 t1 H) l⟩
def S261_0 (call : CallFn) (t0 t1 t2 : AV) (H : AHeap) : R :=
 pEql t0 (.int .i64 (.ofNat 3)) H fun t10 H =>
 onBool t10 (pC call n367 [t1, t2] H fun t13 H =>
 some (.tup [t13, (.bool true)], H)) (pEql t0 (.int .i64 (.ofNat 4)) H fun t15 H =>
 onBool t15 (pC call n368 [t1, t2] H fun t18 H =>
 some (.tup [t18, (.bool true)], H)) (pEql t0 (.int .i64 (.ofNat 5)) H fun t20 H =>
 onBool t20 (pC call n369 [t1, t2] H fun t23 H =>
 some (.tup [t23, (.bool true)], H)) (pEql t0 (.int .i64 (.ofNat 6)) H fun t25 H =>
 onBool t25 (pC call n370 [t1, t2] H fun t28 H =>
 pExt t28 0 H fun t29 H =>
 pExt t28 1 H fun t30 H =>
 some (.tup [t29, t30], H)) (pEql t0 (.int .i64 (.ofNat 7)) H fun t32 H =>
 onBool t32 (pC call n371 [t1, t2] H fun t35 H =>
 pExt t35 0 H fun t36 H =>
 pExt t35 1 H fun t37 H =>
 some (.tup [t36, t37], H)) (pEql t0 (.int .i64 (.ofNat 8)) H fun t39 H =>
 onBool t39 (pAnd t1 t2 H fun t42 H =>
 pC call n182 [t42] H fun t43 H =>
 some (.tup [t43, (.bool true)], H)) (pEql t0 (.int .i64 (.ofNat 9)) H fun t45 H =>
 onBool t45 (pOr t1 t2 H fun t48 H =>
 pC call n182 [t48] H fun t49 H =>
 some (.tup [t49, (.bool true)], H)) (pEql t0 (.int .i64 (.ofNat 10)) H fun t51 H =>
 onBool t51 (pXor t1 t2 H fun t54 H =>
 pC call n182 [t54] H fun t55 H =>
 some (.tup [t55, (.bool true)], H)) (pEql t0 (.int .i64 (.ofNat 11)) H fun t57 H =>
 onBool t57 (pC call n372 [t1, t2] H fun t60 H =>
 some (.tup [t60, (.bool true)], H)) (pEql t0 (.int .i64 (.ofNat 12)) H fun t62 H =>
 onBool t62 (pC call n373 [t1, t2] H fun t65 H =>
 some (.tup [t65, (.bool true)], H)) (pEql t0 (.int .i64 (.ofNat 13)) H fun t67 H =>
 onBool t67 (pLss t1 t2 H fun t70 H =>
 pC call n259 [t70] H fun t71 H =>
 some (.tup [t71, (.bool true)], H)) (pEql t0 (.int .i64 (.ofNat 14)) H fun t73 H =>
 onBool t73 (pLeq t1 t2 H fun t76 H =>
 pC call n259 [t76] H fun t77 H =>
 some (.tup [t77, (.bool true)], H)) (pEql t1 t2 H fun t80 H =>
 pC call n259 [t80] H fun t81 H =>
 some (.tup [t81, (.bool true)], H)))))))))))))
def S261 : Ff := ⟨fun call l H => argA3 (fun t0 t1 t2 => S261_0 call t0 t1 t2 H) l⟩
def S262_0 (call : CallFn) (t0 t1 t2 : AV) (H : AHeap) : R :=
 pO (aNil t0) H fun t7 H =>
 pFa 2 t7 H fun t8 H =>
 ldK .none H t8 fun t9 H =>
 pO (aNil t0) H fun t11 H =>
 pFa 0 t11 H fun t12 H =>
 ldK .none H t12 fun t13 H =>
 pO (aNil t13) H fun t14 H =>
 pFa 0 t14 H fun t15 H =>
 ldK (.some 6) H t15 fun t16 H =>
 pC call n374 [t9, t16, t1, t2] H fun t19 H =>
 pNeq t19 (.int .i64 (.ofNat 0)) H fun t20 H =>
 onBool t20 (pO (aNil t0) H fun t22 H =>
 pFa 0 t22 H fun t23 H =>
 ldK .none H t23 fun t24 H =>
 pC call n178 [t24, (.int .i64 (.ofNat 6))] H fun _ H =>
 some (.tup [], H)) (some (.tup [], H))
def S262 : Ff := ⟨fun call l H => argA3 (fun t0 t1 t2 => S262_0 call t0 t1 t2 H) l⟩
def S263_0 (call : CallFn) (n : Nat) : AV → AV → AV → AV → AV → AHeap → R :=
 Nat.rec (motive := fun _ => AV → AV → AV → AV → AV → AHeap → R) (fun _ _ _ _ _ _ => none) (fun _ q0 t0 t1 t7 t9 t10 H => pLss t10 t9 H fun t11 H =>
 onBool t11 (pO (aNil t0) H fun t15 H =>
 pFa 2 t15 H fun t16 H =>
 ldK .none H t16 fun t17 H =>
 pAdd t1 t10 H fun t20 H =>
 pC call n176 [t17, t20] H fun t21 H =>
 pN (aBsl 1 1 [(.int .i64 (.ofNat 0))] [(0, 1, t21)]) H fun t22 H =>
 pW (aApp 1 8 H t7 t22) fun t23 H =>
 pAdd t10 (.int .i64 (.ofNat 1)) H fun t24 H =>
 q0 t0 t1 t23 t9 t24 H) (some (t7, H))) n
def S263 : Ff := ⟨fun call l H => argA3 (fun t0 t1 t2 => S263_0 call 1000000 t0 t1 .nilsl t2 (.int .i64 (.ofNat 0)) H) l⟩
def S266_0 (call : CallFn) (t0 t3 : AV) (H : AHeap) : R :=
 pO (aNil t0) H fun t102 H =>
 pFa 2 t102 H fun t103 H =>
 ldK .none H t103 fun t104 H =>
 pFa 1 t3 H fun t105 H =>
 ldK .none H t105 fun t106 H =>
 pAdd t106 (.int .i64 (.ofNat 1)) H fun t107 H =>
 pC call n260 [t104, t107] H fun _ H =>
 some (.tup [], H)
def S266_1 (call : CallFn) (t0 t2 t3 t5 t88 t91 : AV) (H : AHeap) : R :=
 pPick t88 t91 (.bool false) H fun t92 H =>
 onBool t92 (pO (aNil t0) H fun t94 H =>
 pFa 2 t94 H fun t95 H =>
 ldK .none H t95 fun t96 H =>
 pFa 1 t5 H fun t97 H =>
 ldK .none H t97 fun t98 H =>
 pC call n366 [t96, t98, t2] H fun _ H =>
 S266_0 call t0 t3 H) (S266_0 call t0 t3 H)
def S266_2 (call : CallFn) (t0 : AV) (H : AHeap) : R :=
 pO (aNil t0) H fun t8 H =>
 pFa 2 t8 H fun t9 H =>
 ldK .none H t9 fun t10 H =>
 pO (aNil t0) H fun t12 H =>
 pFa 3 t12 H fun t13 H =>
 pFa 1 t13 H fun t14 H =>
 ldK .none H t14 fun t15 H =>
 pC call n176 [t10, t15] H fun t16 H =>
 pO (aNil t0) H fun t18 H =>
 pFa 2 t18 H fun t19 H =>
 ldK .none H t19 fun t20 H =>
 pC call n377 [t20] H fun t21 H =>
 pO (aUn .not t21) H fun t22 H =>
 onBool t22 (pO (aNil t0) H fun t24 H =>
 pFa 0 t24 H fun t25 H =>
 ldK .none H t25 fun t26 H =>
 pO (aNil t26) H fun t27 H =>
 pFa 7 t27 H fun t28 H =>
 ldK .none H t28 fun t29 H =>
 pO (aNil t0) H fun t31 H =>
 pFa 1 t31 H fun t32 H =>
 ldK .none H t32 fun t33 H =>
 pC call n378 [t29, t33] H fun _ H =>
 pO (aNil t0) H fun t36 H =>
 pFa 0 t36 H fun t37 H =>
 ldK .none H t37 fun t38 H =>
 pO (aNil t38) H fun t39 H =>
 pFa 6 t39 H fun t40 H =>
 ldK .none H t40 fun t41 H =>
 pO (aNil t0) H fun t44 H =>
 pFa 1 t44 H fun t45 H =>
 ldK .none H t45 fun t46 H =>
 pC call n59 [t41] H fun t42 H =>
 andR (andB (ckV (aLoad .none H t45) t46) true) (
 pC call n379 [t42, t46] H fun _ H =>
 pO (aNil t0) H fun t49 H =>
 pFa 1 t49 H fun t50 H =>
 ldK .none H t50 fun t51 H =>
 pEql t51 (.int .i64 (.ofNat 1)) H fun t52 H =>
 onBool t52 (pO (aNil t0) H fun t54 H =>
 pFa 0 t54 H fun t55 H =>
 ldK .none H t55 fun t56 H =>
 pO (aNil t56) H fun t57 H =>
 pFa 11 t57 H fun t58 H =>
 stK 1 H t58 (.int .i64 (.ofNat 1)) fun _ H =>
 some (.tup [], H)) (some (.tup [], H)))) (pO (aNil t0) H fun t61 H =>
 pFa 2 t61 H fun t62 H =>
 ldK .none H t62 fun t63 H =>
 pC call n110 [t63] H fun t64 H =>
 pExt t64 0 H fun t65 H =>
 pExt t64 1 H fun _ H =>
 pNew [(.int .i64 (.ofNat 0)), (.int .i64 (.ofNat 0)), .nilsl] H fun t3 H =>
 stK 3 H t3 t65 fun _ H =>
 pO (aNil t0) H fun t69 H =>
 pFa 2 t69 H fun t70 H =>
 ldK .none H t70 fun t71 H =>
 pO (aNil t0) H fun t73 H =>
 pFa 0 t73 H fun t74 H =>
 ldK .none H t74 fun t75 H =>
 pO (aNil t75) H fun t76 H =>
 pFa 0 t76 H fun t77 H =>
 ldK (.some 6) H t77 fun t78 H =>
 pNew [(.int .i64 (.ofNat 0)), (.int .i64 (.ofNat 0)), (.int .i64 (.ofNat 0)), (.int .i64 (.ofNat 0)), (.int .i64 (.ofNat 0))] H fun t5 H =>
 pC call n109 [t71, t78] H fun t79 H =>
 pExt t79 0 H fun t80 H =>
 pExt t79 1 H fun _ H =>
 stK 5 H t5 t80 fun _ H =>
 pO (aNil t0) H fun t83 H =>
 pFa 3 t83 H fun t84 H =>
 pFa 1 t84 H fun t85 H =>
 ldK .none H t85 fun t86 H =>
 pNeq t86 (.int .i64 (.negSucc 0)) H fun t87 H =>
 guardA t87 true (pFa 1 t5 H fun t89 H =>
 ldK .none H t89 fun t90 H =>
 pNeq t90 (.int .i64 (.negSucc 0)) H fun t91 H =>
 S266_1 call t0 t16 t3 t5 t87 t91 H) (S266_1 call t0 t16 t3 t5 t87 U H))
def S266 : Ff := ⟨fun call l H => argA1 (fun t0 => S266_2 call t0 H) l⟩
def S289_0 (_ : CallFn) (t7 t14 : AV) (H : AHeap) : R :=
 pPick t7 t14 (.bool false) H fun t15 H =>
 some (t15, H)
def S289_1 (call : CallFn) (t0 t1 : AV) (H : AHeap) : R :=
 pGeq t1 (iN 0) H fun t6 H =>
 guardA t6 true (pO (aNil t0) H fun t10 H =>
 pFa 6 t10 H fun t11 H =>
 pFa 2 t11 H fun t12 H =>
 ldK .none H t12 fun t13 H =>
 pLss t1 t13 H fun t14 H =>
 S289_0 call t6 t14 H) (S289_0 call t6 U H)
def S289 : Ff := ⟨fun call l H => argA2 (fun t0 t1 => S289_1 call t0 t1 H) l⟩
def S296_0 (call : CallFn) (t0 t1 : AV) (H : AHeap) : R :=
 pC call n241 [t0, t1] H fun t7 H =>
 pGeq t7 (iN 0) H fun t8 H =>
 some (t8, H)
def S296 : Ff := ⟨fun call l H => argA2 (fun t0 t1 => S296_0 call t0 t1 H) l⟩
def S297_0 (call : CallFn) (t0 t1 : AV) (H : AHeap) : R :=
 ldK .none H t1 fun t4 H =>
 pC call n289 [t4, t0] H fun t6 H =>
 pO (aUn .not t6) H fun t7 H =>
 some (t7, H)
def S297 : Ff := ⟨fun call l H => argA2 (fun t0 t1 => S297_0 call t0 t1 H) l⟩
def S300_0 (call : CallFn) (t0 t1 t2 : AV) (H : AHeap) : R :=
 pBox t0 H fun t3 H =>
 pBox t1 H fun t4 H =>
 pC call n296 [t2, (.fn n398 [] [t3, t4])] H fun t9 H =>
 pO (aUn .not t9) H fun t10 H =>
 some (t10, H)
def S300 : Ff := ⟨fun call l H => argA3 (fun t0 t1 t2 => S300_0 call t0 t1 t2 H) l⟩
def S303_0 (_ : CallFn) (n : Nat) : AV → AV → AV → AV → AHeap → R :=
 Nat.rec (motive := fun _ => AV → AV → AV → AV → AHeap → R) (fun _ _ _ _ _ => none) (fun _ q0 t3 t36 t37 t38 H => pLss t38 t37 H fun t39 H =>
 onBool t39 (pIa 4 t36 t38 H fun t40 H =>
 ldK (.some 4) H t40 fun t41 H =>
 pNew [(iN 0), (iN 0), (iN 0), (iN 0)] H fun t7 H =>
 stK 4 H t7 t41 fun _ H =>
 pFa 3 t7 H fun t43 H =>
 ldK .none H t43 fun t44 H =>
 pN (aBsl 1 1 [(iN 0)] [(0, 1, t44)]) H fun t45 H =>
 pW (aApp 1 8 H t3 t45) fun t46 H =>
 pAdd t38 (iN 1) H fun t47 H =>
 q0 t46 t36 t37 t47 H) (some (t3, H))) n
def S303_1 (call : CallFn) (t0 : AV) (H : AHeap) : R :=
 pO (aNil t0) H fun t9 H =>
 pFa 17 t9 H fun t10 H =>
 pFa 0 t10 H fun t11 H =>
 ldK .none H t11 fun t12 H =>
 pEql t12 (iN 18) H fun t14 H =>
 onBool t14 (pO (aNil t0) H fun t16 H =>
 pFa 17 t16 H fun t17 H =>
 pFa 1 t17 H fun t18 H =>
 ldK .none H t18 fun t19 H =>
 pN (aBsl 1 1 [(iN 0)] [(0, 1, t19)]) H fun t20 H =>
 some (t20, H)) (pEql t12 (iN 19) H fun t22 H =>
 onBool t22 (pO (aNil t0) H fun t24 H =>
 pFa 17 t24 H fun t25 H =>
 pFa 2 t25 H fun t26 H =>
 ldK .none H t26 fun t27 H =>
 pN (aBsl 1 1 [(iN 0)] [(0, 1, t27)]) H fun t28 H =>
 some (t28, H)) (pEql t12 (iN 41) H fun t30 H =>
 onBool t30 (pC call n293 [t0] H fun t33 H =>
 pExt t33 0 H fun t34 H =>
 pExt t33 1 H fun _ H =>
 pO (aLen .sl H t34) H fun t37 H =>
 S303_0 call 1000000 .nilsl t34 t37 (iN 0) H) (some (.nilsl, H))))
def S303 : Ff := ⟨fun call l H => argA1 (fun t0 => S303_1 call t0 H) l⟩
def S310_0 (_ : CallFn) (n : Nat) : AV → AV → AV → AV → AHeap → R :=
 Nat.rec (motive := fun _ => AV → AV → AV → AV → AHeap → R) (fun _ _ _ _ _ => none) (fun _ q0 t0 t1 t7 t8 H => pLss t8 t7 H fun t9 H =>
 onBool t9 (pIa 1 t0 t8 H fun t14 H =>
 ldK .none H t14 fun t15 H =>
 pEql t1 t15 H fun t16 H =>
 onBool t16 (some (t8, H)) (pAdd t8 (iN 1) H fun t18 H =>
 q0 t0 t1 t7 t18 H)) (some ((.int .i64 (.negSucc 0)), H))) n
def S310_1 (call : CallFn) (t0 t1 : AV) (H : AHeap) : R :=
 pO (aLen .sl H t0) H fun t7 H =>
 S310_0 call 1000000 t0 t1 t7 (iN 0) H
def S310 : Ff := ⟨fun call l H => argA2 (fun t0 t1 => S310_1 call t0 t1 H) l⟩
def S314_0 (call : CallFn) (t0 t1 : AV) (H : AHeap) : R :=
 pC call n192 [t0, t1] H fun t8 H =>
 pO (aUn .not t8) H fun t9 H =>
 onBool t9 (some (.tup [t0, (.bool false)], H)) (pO (aLen .str H t1) H fun t13 H =>
 pO (aSliceS t0 (.some t13) .none) H fun t14 H =>
 some (.tup [t14, (.bool true)], H))
def S314 : Ff := ⟨fun call l H => argA2 (fun t0 t1 => S314_0 call t0 t1 H) l⟩
def S315_0 (_ : CallFn) (t0 : AV) (H : AHeap) : R :=
 pNew [(.str []), (.str []), (iN 0), .nilsl] H fun t2 H =>
 pO (someAgg (aFill [(.str []), (.str []), (iN 0), .nilsl] [(0, 1, t0)])) H fun t4 H =>
 stK 4 H t2 t4 fun _ H =>
 ob (allM (fun o => o) [aLoad (.some 4) H t2]) fun vs => some (resV vs, H)
def S315 : Ff := ⟨fun call l H => argA1 (fun t0 => S315_0 call t0 H) l⟩
def S316_0 (call : CallFn) (t0 t1 : AV) (H : AHeap) : R :=
 pBox t1 H fun t3 H =>
 pNew [(.str []), (.str []), (iN 0), .nilsl] H fun t4 H =>
 pFa 1 t3 H fun t13 H =>
 ldK .none H t13 fun t14 H =>
 pC call n324 [t0, t14] H fun t15 H =>
 pExt t15 0 H fun t16 H =>
 pExt t15 1 H fun t17 H =>
 pNew [(.str []), (.str []), (.str []), (iN 0), .nilsl, (iN 0)] H fun t5 H =>
 stK 6 H t5 t16 fun _ H =>
 onBool t17 (pFa 1 t5 H fun t19 H =>
 ldK (.some 4) H t19 fun t20 H =>
 stK 4 H t4 t20 fun _ H =>
 ob (allM (fun o => o) [aLoad (.some 4) H t4]) fun vs => some (resV vs, H)) (pFa 1 t3 H fun t23 H =>
 ldK .none H t23 fun t24 H =>
 pC call n29 [t0, (.str [103, 108, 111, 98, 97, 108]), t24] H fun t25 H =>
 pExt t25 0 H fun t26 H =>
 pExt t25 1 H fun t27 H =>
 pNew [(.str []), (.str []), (iN 0), .nilsl] H fun t7 H =>
 stK 4 H t7 t26 fun _ H =>
 onBool t27 (ldK (.some 4) H t7 fun t29 H =>
 pC call n318 [t29] H fun t30 H =>
 stK 4 H t4 t30 fun _ H =>
 ob (allM (fun o => o) [aLoad (.some 4) H t4]) fun vs => some (resV vs, H)) (pFa 1 t3 H fun t33 H =>
 ldK .none H t33 fun t34 H =>
 pC call n29 [t0, (.str [102, 117, 110, 99]), t34] H fun t35 H =>
 pExt t35 0 H fun t36 H =>
 pExt t35 1 H fun t37 H =>
 pNew [(.str []), (.str []), (iN 0), .nilsl] H fun t9 H =>
 stK 4 H t9 t36 fun _ H =>
 pO (aUn .not t37) H fun t39 H =>
 onBool t39 (pFa 2 t3 H fun t41 H =>
 ldK .none H t41 fun t42 H =>
 pC call n74 [t0, t42] H fun _ H =>
 pO (someAgg (aFill [(.str []), (.str []), (iN 0), .nilsl] [])) H fun t44 H =>
 stK 4 H t4 t44 fun _ H =>
 ob (allM (fun o => o) [aLoad (.some 4) H t4]) fun vs => some (resV vs, H)) (ldK (.some 4) H t9 fun t45 H =>
 pC call n407 [t45] H fun t46 H =>
 stK 4 H t4 t46 fun _ H =>
 ob (allM (fun o => o) [aLoad (.some 4) H t4]) fun vs => some (resV vs, H))))
def S316 : Ff := ⟨fun call l H => argA2 (fun t0 t1 => S316_0 call t0 t1 H) l⟩
def S324_0 (call : CallFn) (t0 t1 : AV) (H : AHeap) : R :=
 pBox t1 H fun _ H =>
 pNew [(.str []), (.str []), (.str []), (iN 0), .nilsl, (iN 0)] H fun _ H =>
 pNew [(.bool false)] H fun _ H =>
 pO (aNil t0) H fun t11 H =>
 pFa 6 t11 H fun t12 H =>
 ldK .none H t12 fun t13 H =>
 pC call n410 [t13] H fun _ _ =>
 none
def S324 : Ff := ⟨fun call l H => argA2 (fun t0 t1 => S324_0 call t0 t1 H) l⟩
def S345_0 (call : CallFn) (t0 : AV) (H : AHeap) : R :=
 pC call n158 [t0, (.fn n422 [] [])] H fun t4 H =>
 some (t4, H)
def S345 : Ff := ⟨fun call l H => argA1 (fun t0 => S345_0 call t0 H) l⟩
def S347_1 (call : CallFn) (q0 : AV → AV → AV → AV → AV → AV → AHeap → R) (t0 t1 t2 t3 t8 t9 t10 t11 t75 t86 : AV) (H : AHeap) : R :=
 pPick t75 t86 (.bool false) H fun t87 H =>
 onBool t87 (pC call n430 [t0, t1, t2, t11] H fun t92 H =>
 q0 t0 t92 t2 t3 t8 t9 H) (pC call n431 [t0, t1, t2, t11] H fun t99 H =>
 pExt t99 0 H fun t100 H =>
 pExt t99 1 H fun t101 H =>
 pSub t100 t1 H fun t105 H =>
 pSub t2 t100 H fun t108 H =>
 pO (aBin .quo t10 (iN 8)) H fun t110 H =>
 pLss t105 t108 H fun t113 H =>
 onBool t113 (pGeq t105 t110 H fun t116 H =>
 pC call n347 [t0, t1, t100, t3] H fun _ H =>
 pAdd t100 (iN 1) H fun t123 H =>
 q0 t0 t123 t2 t3 t116 t101 H) (pGeq t108 t110 H fun t126 H =>
 pAdd t100 (iN 1) H fun t129 H =>
 pC call n347 [t0, t129, t2, t3] H fun _ H =>
 q0 t0 t1 t100 t3 t126 t101 H))
def S347_2 (call : CallFn) (q0 : AV → AV → AV → AV → AV → AV → AHeap → R) (t0 t1 t2 t3 t8 t9 t10 t11 t75 t85 : AV) (H : AHeap) : R :=
 guardA t75 true (pO (aUn .not t85) H fun t86 H =>
 S347_1 call q0 t0 t1 t2 t3 t8 t9 t10 t11 t75 t86 H) (S347_1 call q0 t0 t1 t2 t3 t8 t9 t10 t11 t75 U H)
def S347_3 (call : CallFn) (q0 : AV → AV → AV → AV → AV → AV → AHeap → R) (t0 t1 t2 t3 t8 t9 t10 t11 t75 t80 t84 : AV) (H : AHeap) : R :=
 guardA t75 true (pC call n429 [t80, t84] H fun t85 H =>
 S347_2 call q0 t0 t1 t2 t3 t8 t9 t10 t11 t75 t85 H) (S347_2 call q0 t0 t1 t2 t3 t8 t9 t10 t11 t75 U H)
def S347_4 (call : CallFn) (q0 : AV → AV → AV → AV → AV → AV → AHeap → R) (t0 t1 t2 t3 t8 t9 t10 t11 t75 t80 t83 : AV) (H : AHeap) : R :=
 guardA t75 true (ldK .none H t83 fun t84 H =>
 S347_3 call q0 t0 t1 t2 t3 t8 t9 t10 t11 t75 t80 t84 H) (S347_3 call q0 t0 t1 t2 t3 t8 t9 t10 t11 t75 t80 U H)
def S347_5 (call : CallFn) (q0 : AV → AV → AV → AV → AV → AV → AHeap → R) (t0 t1 t2 t3 t8 t9 t10 t11 t75 t80 t81 t82 : AV) (H : AHeap) : R :=
 guardA t75 true (pIa 1 t81 t82 H fun t83 H =>
 S347_4 call q0 t0 t1 t2 t3 t8 t9 t10 t11 t75 t80 t83 H) (S347_4 call q0 t0 t1 t2 t3 t8 t9 t10 t11 t75 t80 U H)
def S347_6 (call : CallFn) (q0 : AV → AV → AV → AV → AV → AV → AHeap → R) (t0 t1 t2 t3 t8 t9 t10 t11 t75 t80 t81 : AV) (H : AHeap) : R :=
 guardA t75 true (S347_5 call q0 t0 t1 t2 t3 t8 t9 t10 t11 t75 t80 t81 t11 H) (S347_5 call q0 t0 t1 t2 t3 t8 t9 t10 t11 t75 t80 t81 U H)
def S347_7 (call : CallFn) (q0 : AV → AV → AV → AV → AV → AV → AHeap → R) (t0 t1 t2 t3 t8 t9 t10 t11 t75 t80 : AV) (H : AHeap) : R :=
 guardA t75 true (S347_6 call q0 t0 t1 t2 t3 t8 t9 t10 t11 t75 t80 t0 H) (S347_6 call q0 t0 t1 t2 t3 t8 t9 t10 t11 t75 t80 U H)
def S347_8 (call : CallFn) (q0 : AV → AV → AV → AV → AV → AV → AHeap → R) (t0 t1 t2 t3 t8 t9 t10 t11 t75 t79 : AV) (H : AHeap) : R :=
 guardA t75 true (ldK .none H t79 fun t80 H =>
 S347_7 call q0 t0 t1 t2 t3 t8 t9 t10 t11 t75 t80 H) (S347_7 call q0 t0 t1 t2 t3 t8 t9 t10 t11 t75 U H)
def S347_9 (call : CallFn) (q0 : AV → AV → AV → AV → AV → AV → AHeap → R) (t0 t1 t2 t3 t8 t9 t10 t11 t75 t76 t78 : AV) (H : AHeap) : R :=
 guardA t75 true (pIa 1 t76 t78 H fun t79 H =>
 S347_8 call q0 t0 t1 t2 t3 t8 t9 t10 t11 t75 t79 H) (S347_8 call q0 t0 t1 t2 t3 t8 t9 t10 t11 t75 U H)
def S347_10 (call : CallFn) (q0 : AV → AV → AV → AV → AV → AV → AHeap → R) (t0 t1 t2 t3 t8 t9 t10 t11 t75 t76 t77 : AV) (H : AHeap) : R :=
 guardA t75 true (pSub t77 (iN 1) H fun t78 H =>
 S347_9 call q0 t0 t1 t2 t3 t8 t9 t10 t11 t75 t76 t78 H) (S347_9 call q0 t0 t1 t2 t3 t8 t9 t10 t11 t75 t76 U H)
def S347_11 (call : CallFn) (q0 : AV → AV → AV → AV → AV → AV → AHeap → R) (t0 t1 t2 t3 t8 t9 t10 t11 t75 t76 : AV) (H : AHeap) : R :=
 guardA t75 true (S347_10 call q0 t0 t1 t2 t3 t8 t9 t10 t11 t75 t76 t1 H) (S347_10 call q0 t0 t1 t2 t3 t8 t9 t10 t11 t75 t76 U H)
def S347_12 (call : CallFn) (q0 : AV → AV → AV → AV → AV → AV → AHeap → R) (t0 t1 t2 t3 t8 t9 t10 t11 : AV) (H : AHeap) : R :=
 pGtr t1 (iN 0) H fun t74 H =>
 guardA t74 true (S347_11 call q0 t0 t1 t2 t3 t8 t9 t10 t11 t74 t0 H) (S347_11 call q0 t0 t1 t2 t3 t8 t9 t10 t11 t74 U H)
def S347_13 (call : CallFn) (q0 : AV → AV → AV → AV → AV → AV → AHeap → R) (t0 t1 t2 t3 t8 t9 t10 t11 t65 t67 : AV) (H : AHeap) : R :=
 pPick t65 t67 (.bool false) H fun t68 H =>
 onBool t68 (pC call n428 [t0, t1, t2] H fun t72 H =>
 onBool t72 (some (.tup [], H)) (S347_12 call q0 t0 t1 t2 t3 t8 t9 t10 t11 H)) (S347_12 call q0 t0 t1 t2 t3 t8 t9 t10 t11 H)
def S347_14 (call : CallFn) (q0 : AV → AV → AV → AV → AV → AV → AHeap → R) (t0 t1 t2 t3 t8 t9 t10 t11 t12 t62 t63 : AV) (H : AHeap) : R :=
 pPick t62 t63 (.bool false) H fun t64 H =>
 guardA t64 true (pEql t12 (iN 1) H fun t67 H =>
 S347_13 call q0 t0 t1 t2 t3 t8 t9 t10 t11 t64 t67 H) (S347_13 call q0 t0 t1 t2 t3 t8 t9 t10 t11 t64 U H)
def S347_15 (call : CallFn) (q0 : AV → AV → AV → AV → AV → AV → AHeap → R) (t0 t1 t2 t3 t8 t9 t10 t11 t12 : AV) (H : AHeap) : R :=
 guardA t8 true (S347_14 call q0 t0 t1 t2 t3 t8 t9 t10 t11 t12 t8 t9 H) (S347_14 call q0 t0 t1 t2 t3 t8 t9 t10 t11 t12 t8 U H)
def S347_16 (call : CallFn) (q0 : AV → AV → AV → AV → AV → AV → AHeap → R) (t0 t1 t2 t3 t8 t9 t10 : AV) (H : AHeap) : R :=
 pC call n426 [t0, t1, t2] H fun t46 H =>
 pExt t46 0 H fun t47 H =>
 pExt t46 1 H fun t48 H =>
 pEql t48 (iN 2) H fun t50 H =>
 onBool t50 (pC call n427 [t0, t1, t2] H fun _ H =>
 pSub t2 (iN 1) H fun t56 H =>
 pSub t47 t1 H fun t59 H =>
 pSub t56 t59 H fun t60 H =>
 S347_15 call q0 t0 t1 t2 t3 t8 t9 t10 t60 (iN 1) H) (S347_15 call q0 t0 t1 t2 t3 t8 t9 t10 t47 t48 H)
def S347_0 (call : CallFn) (n : Nat) : AV → AV → AV → AV → AV → AV → AHeap → R :=
 Nat.rec (motive := fun _ => AV → AV → AV → AV → AV → AV → AHeap → R) (fun _ _ _ _ _ _ _ => none) (fun _ q0 t0 t1 t2 t3 t8 t9 H => pSub t2 t1 H fun t21 H =>
 pLeq t21 (iN 12) H fun t23 H =>
 onBool t23 (pC call n423 [t0, t1, t2] H fun _ H =>
 some (.tup [], H)) (pEql t3 (iN 0) H fun t29 H =>
 onBool t29 (pC call n424 [t0, t1, t2] H fun _ H =>
 some (.tup [], H)) (pO (aUn .not t8) H fun t35 H =>
 onBool t35 (pC call n425 [t0, t1, t2] H fun _ H =>
 pSub t3 (iN 1) H fun t41 H =>
 S347_16 call q0 t0 t1 t2 t41 t8 t9 t21 H) (S347_16 call q0 t0 t1 t2 t3 t8 t9 t21 H)))) n
def S347 : Ff := ⟨fun call l H => argA4 (fun t0 t1 t2 t3 => S347_0 call 1000000 t0 t1 t2 t3 (.bool true) (.bool true) H) l⟩
def S348_0 (call : CallFn) (t0 : AV) (H : AHeap) : R :=
 onBool (.bool false) (pConv .u32 t0 H fun t4 H =>
 pC call n432 [t4] H fun t5 H =>
 some (t5, H)) (pC call n433 [t0] H fun t7 H =>
 some (t7, H))
def S348 : Ff := ⟨fun call l H => argA1 (fun t0 => S348_0 call t0 H) l⟩
def S363_0 (_ : CallFn) (t7 t14 : AV) (H : AHeap) : R :=
 pPick t7 t14 (.bool false) H fun t15 H =>
 some (t15, H)
def S363_1 (call : CallFn) (t0 t1 : AV) (H : AHeap) : R :=
 pGeq t1 (.int .i64 (.ofNat 1)) H fun t6 H =>
 guardA t6 true (pO (aNil t0) H fun t10 H =>
 pFa 1 t10 H fun t11 H =>
 ldK .none H t11 fun t12 H =>
 pO (aLen .sl H t12) H fun t13 H =>
 pLss t1 t13 H fun t14 H =>
 S363_0 call t6 t14 H) (S363_0 call t6 U H)
def S363 : Ff := ⟨fun call l H => argA2 (fun t0 t1 => S363_1 call t0 t1 H) l⟩
def S365_0 (_ : CallFn) (t0 : AV) (H : AHeap) : R :=
 pO (aBin .shr t0 (.int .u64 (.ofNat 1))) H fun t4 H =>
 pAnd t4 (.int .u64 (.ofNat 6148914691236517205)) H fun t5 H =>
 pAnd t0 (.int .u64 (.ofNat 6148914691236517205)) H fun t7 H =>
 pAdd t5 t7 H fun t8 H =>
 pO (aBin .shr t8 (.int .u64 (.ofNat 2))) H fun t10 H =>
 pAnd t10 (.int .u64 (.ofNat 3689348814741910323)) H fun t11 H =>
 pAnd t8 (.int .u64 (.ofNat 3689348814741910323)) H fun t13 H =>
 pAdd t11 t13 H fun t14 H =>
 pO (aBin .shr t14 (.int .u64 (.ofNat 4))) H fun t16 H =>
 pAdd t16 t14 H fun t18 H =>
 pAnd t18 (.int .u64 (.ofNat 1085102592571150095)) H fun t19 H =>
 pO (aBin .shr t19 (.int .u64 (.ofNat 8))) H fun t22 H =>
 pAdd t19 t22 H fun t23 H =>
 pO (aBin .shr t23 (.int .u64 (.ofNat 16))) H fun t26 H =>
 pAdd t23 t26 H fun t27 H =>
 pO (aBin .shr t27 (.int .u64 (.ofNat 32))) H fun t30 H =>
 pAdd t27 t30 H fun t31 H =>
 pConv .i64 t31 H fun t33 H =>
 pAnd t33 (.int .i64 (.ofNat 127)) H fun t34 H =>
 some (t34, H)
def S365 : Ff := ⟨fun call l H => argA1 (fun t0 => S365_0 call t0 H) l⟩
def S366_0 (_ : CallFn) (t1 t2 t6 t15 t22 : AV) (H : AHeap) : R :=
 pPick t15 t22 (.bool false) H fun t23 H =>
 onBool t23 (pO (aNil t6) H fun t25 H =>
 pFa 2 t25 H fun t26 H =>
 ldK .none H t26 fun t27 H =>
 pIa 1 t27 t1 H fun t30 H =>
 stK 1 H t30 t2 fun _ H =>
 some (.tup [], H)) (some (.tup [], H))
def S366_1 (call : CallFn) (t1 t2 t6 t11 t13 : AV) (H : AHeap) : R :=
 pPick t11 t13 (.bool false) H fun t14 H =>
 guardA t14 true (pO (aNil t6) H fun t18 H =>
 pFa 2 t18 H fun t19 H =>
 ldK .none H t19 fun t20 H =>
 pO (aLen .sl H t20) H fun t21 H =>
 pLss t1 t21 H fun t22 H =>
 S366_0 call t1 t2 t6 t14 t22 H) (S366_0 call t1 t2 t6 t14 U H)
def S366_2 (call : CallFn) (t0 t1 t2 : AV) (H : AHeap) : R :=
 pC call n170 [t0] H fun t8 H =>
 pO (aEq true .ptr t8 .nilp) H fun t10 H =>
 guardA t10 true (pGeq t1 (.int .i64 (.ofNat 0)) H fun t13 H =>
 S366_1 call t1 t2 t8 t10 t13 H) (S366_1 call t1 t2 t8 t10 U H)
def S366 : Ff := ⟨fun call l H => argA3 (fun t0 t1 t2 => S366_2 call t0 t1 t2 H) l⟩
def S367_0 (call : CallFn) (t0 t1 : AV) (H : AHeap) : R :=
 pAdd t0 t1 H fun t7 H =>
 pC call n182 [t7] H fun t8 H =>
 some (t8, H)
def S367 : Ff := ⟨fun call l H => argA2 (fun t0 t1 => S367_0 call t0 t1 H) l⟩
def S368_0 (call : CallFn) (t0 t1 : AV) (H : AHeap) : R :=
 pSub t0 t1 H fun t7 H =>
 pC call n182 [t7] H fun t8 H =>
 some (t8, H)
def S368 : Ff := ⟨fun call l H => argA2 (fun t0 t1 => S368_0 call t0 t1 H) l⟩
def S369_0 (call : CallFn) (t0 t1 : AV) (H : AHeap) : R :=
 pMul t0 t1 H fun t7 H =>
 pC call n182 [t7] H fun t8 H =>
 some (t8, H)
def S369 : Ff := ⟨fun call l H => argA2 (fun t0 t1 => S369_0 call t0 t1 H) l⟩
def S374_0 (call : CallFn) (t0 t1 t2 t3 : AV) (H : AHeap) : R :=
 pBox t1 H fun t5 H =>
 ldK (.some 6) H t5 fun t12 H =>
 pC call n157 [t12, t2, t3] H fun t15 H =>
 pExt t15 0 H fun t16 H =>
 pExt t15 1 H fun t17 H =>
 pNew [(.int .i64 (.ofNat 0)), (.int .i64 (.ofNat 0)), .nilsl] H fun t9 H =>
 stK 3 H t9 t16 fun _ H =>
 pO (aNil t0) H fun t20 H =>
 pFa 0 t20 H fun t21 H =>
 ldK .none H t21 fun t22 H =>
 pO (aLen .sl H t22) H fun t23 H =>
 pGeq t23 (.int .i64 (.ofNat 256)) H fun t24 H =>
 onBool t24 (some ((.int .i64 (.ofNat 2)), H)) (pNeq t17 (.int .i64 (.ofNat 0)) H fun t27 H =>
 onBool t27 (some (t17, H)) (pO (aNil t0) H fun t31 H =>
 pFa 0 t31 H fun t32 H =>
 ldK .none H t32 fun t33 H =>
 ldK (.some 3) H t9 fun t34 H =>
 pN (aBsl 3 1 [(.int .i64 (.ofNat 0)), (.int .i64 (.ofNat 0)), .nilsl] [(0, 3, t34)]) H fun t35 H =>
 pW (aApp 3 40 H t33 t35) fun t36 H =>
 pO (aNil t0) H fun t37 H =>
 pFa 0 t37 H fun t38 H =>
 stK 1 H t38 t36 fun _ H =>
 some ((.int .i64 (.ofNat 0)), H)))
def S374 : Ff := ⟨fun call l H => argA4 (fun t0 t1 t2 t3 => S374_0 call t0 t1 t2 t3 H) l⟩
def S377_0 (_ : CallFn) (t0 : AV) (H : AHeap) : R :=
 pO (aNil t0) H fun t24 H =>
 pFa 0 t24 H fun t25 H =>
 ldK .none H t25 fun t26 H =>
 pO (aLen .sl H t26) H fun t27 H =>
 pGtr t27 (.int .i64 (.ofNat 0)) H fun t28 H =>
 some (t28, H)
def S377_1 (call : CallFn) (t0 : AV) (H : AHeap) : R :=
 pO (aNil t0) H fun t4 H =>
 pFa 0 t4 H fun t5 H =>
 ldK .none H t5 fun t6 H =>
 pO (aLen .sl H t6) H fun t7 H =>
 pGtr t7 (.int .i64 (.ofNat 0)) H fun t8 H =>
 onBool t8 (pO (aNil t0) H fun t11 H =>
 pFa 0 t11 H fun t12 H =>
 ldK .none H t12 fun t13 H =>
 pO (aNil t0) H fun t15 H =>
 pFa 0 t15 H fun t16 H =>
 ldK .none H t16 fun t17 H =>
 pO (aLen .sl H t17) H fun t18 H =>
 pSub t18 (.int .i64 (.ofNat 1)) H fun t19 H =>
 pO (aSlice 3 H t13 .none (.some t19) .none) H fun t20 H =>
 pO (aNil t0) H fun t21 H =>
 pFa 0 t21 H fun t22 H =>
 stK 1 H t22 t20 fun _ H =>
 S377_0 call t0 H) (S377_0 call t0 H)
def S377 : Ff := ⟨fun call l H => argA1 (fun t0 => S377_1 call t0 H) l⟩
def S378_0 (_ : CallFn) (t0 t1 : AV) (H : AHeap) : R :=
 pO (aNil t0) H fun t5 H =>
 pFa 6 t5 H fun t6 H =>
 ldK .none H t6 fun t7 H =>
 pW (unitW (aDelete .int H t7 t1)) fun _ H =>
 some (.tup [], H)
def S378 : Ff := ⟨fun call l H => argA2 (fun t0 t1 => S378_0 call t0 t1 H) l⟩
def S379_0 (_ : CallFn) (t0 t1 : AV) (H : AHeap) : R :=
 pO (aNil t0) H fun t5 H =>
 pFa 5 t5 H fun t6 H =>
 ldK .none H t6 fun t7 H =>
 pW (unitW (aDelete .int H t7 t1)) fun _ H =>
 some (.tup [], H)
def S379 : Ff := ⟨fun call l H => argA2 (fun t0 t1 => S379_0 call t0 t1 H) l⟩
def S398_0 (_ : CallFn) (t0 t1 t2 : AV) (H : AHeap) : R :=
 ldK .none H t1 fun t5 H =>
 pO (aNil t5) H fun t6 H =>
 pFa 6 t6 H fun t7 H =>
 pFa 4 t7 H fun t8 H =>
 ldK .none H t8 fun t9 H =>
 pIa 1 t9 t0 H fun t11 H =>
 ldK .none H t11 fun t12 H =>
 ldK .none H t2 fun t13 H =>
 pO (aEq true .bool t12 t13) H fun t14 H =>
 some (t14, H)
def S398 : Ff := ⟨fun call l H => argA3 (fun t0 t1 t2 => S398_0 call t0 t1 t2 H) l⟩
def S403_0 (call : CallFn) (t0 : AV) (H : AHeap) : R :=
 pNew [(.str []), (.str []), (iN 0), .nilsl] H fun t2 H =>
 pO (aNil t0) H fun t5 H =>
 pFa 0 t5 H fun t6 H =>
 ldK .none H t6 fun t7 H =>
 pO (aLen .sl H t7) H fun t8 H =>
 pN (aBsl 1 1 [(.str [])] [(0, 1, (.str [124, 124]))]) H fun t11 H =>
 pC call n446 [t0, t8, (.fn n447 [t0] []), t11] H fun t12 H =>
 stK 4 H t2 t12 fun _ H =>
 ob (allM (fun o => o) [aLoad (.some 4) H t2]) fun vs => some (resV vs, H)
def S403 : Ff := ⟨fun call l H => argA1 (fun t0 => S403_0 call t0 H) l⟩
def S423_1 (_ : CallFn) (q0 : AV → AV → AV → AV → AHeap → R) (t0 t1 t2 t6 : AV) (H : AHeap) : R :=
 pAdd t6 (iN 1) H fun t14 H =>
 q0 t0 t1 t2 t14 H
def S423_3 (call : CallFn) (q0 : AV → AV → AV → AV → AHeap → R) (q1 : AV → AV → AV → AV → AV → AHeap → R) (t0 t1 t2 t6 t7 t19 t29 : AV) (H : AHeap) : R :=
 pPick t19 t29 (.bool false) H fun t30 H =>
 onBool t30 (pSub t7 (iN 1) H fun t37 H =>
 pSub t7 (iN 1) H fun t40 H =>
 pIa 1 t0 t40 H fun t41 H =>
 ldK .none H t41 fun t42 H =>
 pIa 1 t0 t7 H fun t45 H =>
 ldK .none H t45 fun t46 H =>
 pIa 1 t0 t7 H fun t47 H =>
 stK 1 H t47 t42 fun _ H =>
 pIa 1 t0 t37 H fun t48 H =>
 stK 1 H t48 t46 fun _ H =>
 pSub t7 (iN 1) H fun t32 H =>
 q1 t0 t1 t2 t6 t32 H) (S423_1 call q0 t0 t1 t2 t6 H)
def S423_4 (call : CallFn) (q0 : AV → AV → AV → AV → AHeap → R) (q1 : AV → AV → AV → AV → AV → AHeap → R) (t0 t1 t2 t6 t7 t19 t23 t28 : AV) (H : AHeap) : R :=
 guardA t19 true (pC call n429 [t23, t28] H fun t29 H =>
 S423_3 call q0 q1 t0 t1 t2 t6 t7 t19 t29 H) (S423_3 call q0 q1 t0 t1 t2 t6 t7 t19 U H)
def S423_5 (call : CallFn) (q0 : AV → AV → AV → AV → AHeap → R) (q1 : AV → AV → AV → AV → AV → AHeap → R) (t0 t1 t2 t6 t7 t19 t23 t27 : AV) (H : AHeap) : R :=
 guardA t19 true (ldK .none H t27 fun t28 H =>
 S423_4 call q0 q1 t0 t1 t2 t6 t7 t19 t23 t28 H) (S423_4 call q0 q1 t0 t1 t2 t6 t7 t19 t23 U H)
def S423_6 (call : CallFn) (q0 : AV → AV → AV → AV → AHeap → R) (q1 : AV → AV → AV → AV → AV → AHeap → R) (t0 t1 t2 t6 t7 t19 t23 t24 t26 : AV) (H : AHeap) : R :=
 guardA t19 true (pIa 1 t24 t26 H fun t27 H =>
 S423_5 call q0 q1 t0 t1 t2 t6 t7 t19 t23 t27 H) (S423_5 call q0 q1 t0 t1 t2 t6 t7 t19 t23 U H)
def S423_7 (call : CallFn) (q0 : AV → AV → AV → AV → AHeap → R) (q1 : AV → AV → AV → AV → AV → AHeap → R) (t0 t1 t2 t6 t7 t19 t23 t24 t25 : AV) (H : AHeap) : R :=
 guardA t19 true (pSub t25 (iN 1) H fun t26 H =>
 S423_6 call q0 q1 t0 t1 t2 t6 t7 t19 t23 t24 t26 H) (S423_6 call q0 q1 t0 t1 t2 t6 t7 t19 t23 t24 U H)
def S423_8 (call : CallFn) (q0 : AV → AV → AV → AV → AHeap → R) (q1 : AV → AV → AV → AV → AV → AHeap → R) (t0 t1 t2 t6 t7 t19 t23 t24 : AV) (H : AHeap) : R :=
 guardA t19 true (S423_7 call q0 q1 t0 t1 t2 t6 t7 t19 t23 t24 t7 H) (S423_7 call q0 q1 t0 t1 t2 t6 t7 t19 t23 t24 U H)
def S423_9 (call : CallFn) (q0 : AV → AV → AV → AV → AHeap → R) (q1 : AV → AV → AV → AV → AV → AHeap → R) (t0 t1 t2 t6 t7 t19 t23 : AV) (H : AHeap) : R :=
 guardA t19 true (S423_8 call q0 q1 t0 t1 t2 t6 t7 t19 t23 t0 H) (S423_8 call q0 q1 t0 t1 t2 t6 t7 t19 t23 U H)
def S423_10 (call : CallFn) (q0 : AV → AV → AV → AV → AHeap → R) (q1 : AV → AV → AV → AV → AV → AHeap → R) (t0 t1 t2 t6 t7 t19 t22 : AV) (H : AHeap) : R :=
 guardA t19 true (ldK .none H t22 fun t23 H =>
 S423_9 call q0 q1 t0 t1 t2 t6 t7 t19 t23 H) (S423_9 call q0 q1 t0 t1 t2 t6 t7 t19 U H)
def S423_11 (call : CallFn) (q0 : AV → AV → AV → AV → AHeap → R) (q1 : AV → AV → AV → AV → AV → AHeap → R) (t0 t1 t2 t6 t7 t19 t20 t21 : AV) (H : AHeap) : R :=
 guardA t19 true (pIa 1 t20 t21 H fun t22 H =>
 S423_10 call q0 q1 t0 t1 t2 t6 t7 t19 t22 H) (S423_10 call q0 q1 t0 t1 t2 t6 t7 t19 U H)
def S423_12 (call : CallFn) (q0 : AV → AV → AV → AV → AHeap → R) (q1 : AV → AV → AV → AV → AV → AHeap → R) (t0 t1 t2 t6 t7 t19 t20 : AV) (H : AHeap) : R :=
 guardA t19 true (S423_11 call q0 q1 t0 t1 t2 t6 t7 t19 t20 t7 H) (S423_11 call q0 q1 t0 t1 t2 t6 t7 t19 t20 U H)
def S423_2 (call : CallFn) (q0 : AV → AV → AV → AV → AHeap → R) (n : Nat) : AV → AV → AV → AV → AV → AHeap → R :=
 Nat.rec (motive := fun _ => AV → AV → AV → AV → AV → AHeap → R) (fun _ _ _ _ _ _ => none) (fun _ q1 t0 t1 t2 t6 t7 H => pGtr t7 t1 H fun t18 H =>
 guardA t18 true (S423_12 call q0 q1 t0 t1 t2 t6 t7 t18 t0 H) (S423_12 call q0 q1 t0 t1 t2 t6 t7 t18 U H)) n
def S423_0 (call : CallFn) (n : Nat) : AV → AV → AV → AV → AHeap → R :=
 Nat.rec (motive := fun _ => AV → AV → AV → AV → AHeap → R) (fun _ _ _ _ _ => none) (fun _ q0 t0 t1 t2 t6 H => pLss t6 t2 H fun t12 H =>
 onBool t12 (S423_2 call q0 1000000 t0 t1 t2 t6 t6 H) (some (.tup [], H))) n
def S423_13 (call : CallFn) (t0 t1 t2 : AV) (H : AHeap) : R :=
 pAdd t1 (iN 1) H fun t9 H =>
 S423_0 call 1000000 t0 t1 t2 t9 H
def S423 : Ff := ⟨fun call l H => argA3 (fun t0 t1 t2 => S423_13 call t0 t1 t2 H) l⟩
def S429_0 (_ : CallFn) (t12 t15 : AV) (H : AHeap) : R :=
 pPick t12 (.bool true) t15 H fun t16 H =>
 some (t16, H)
def S429_1 (call : CallFn) (t0 t1 t7 t10 : AV) (H : AHeap) : R :=
 pPick t7 t10 (.bool false) H fun t11 H =>
 guardA t11 false (pLss t0 t1 H fun t15 H =>
 S429_0 call t11 t15 H) (S429_0 call t11 U H)
def S429_2 (call : CallFn) (t0 t1 : AV) (H : AHeap) : R :=
 pC call n459 [t0] H fun t6 H =>
 guardA t6 true (pC call n459 [t1] H fun t9 H =>
 pO (aUn .not t9) H fun t10 H =>
 S429_1 call t0 t1 t6 t10 H) (S429_1 call t0 t1 t6 U H)
def S429 : Ff := ⟨fun call l H => argA2 (fun t0 t1 => S429_2 call t0 t1 H) l⟩
def S433_0 (_ : CallFn) (t0 t2 : AV) (H : AHeap) : R :=
 pConv .u8 t0 H fun t21 H =>
 pO (aIdxS (.str [0, 1, 2, 2, 3, 3, 3, 3, 4, 4, 4, 4, 4, 4, 4, 4, 5, 5, 5, 5, 5, 5, 5, 5, 5, 5, 5, 5, 5, 5, 5, 5, 6, 6, 6, 6, 6, 6, 6, 6, 6, 6, 6, 6, 6, 6, 6, 6, 6, 6, 6, 6, 6, 6, 6, 6, 6, 6, 6, 6, 6, 6, 6, 6, 7, 7, 7, 7, 7, 7, 7, 7, 7, 7, 7, 7, 7, 7, 7, 7, 7, 7, 7, 7, 7, 7, 7, 7, 7, 7, 7, 7, 7, 7, 7, 7, 7, 7, 7, 7, 7, 7, 7, 7, 7, 7, 7, 7, 7, 7, 7, 7, 7, 7, 7, 7, 7, 7, 7, 7, 7, 7, 7, 7, 7, 7, 7, 7, 8, 8, 8, 8, 8, 8, 8, 8, 8, 8, 8, 8, 8, 8, 8, 8, 8, 8, 8, 8, 8, 8, 8, 8, 8, 8, 8, 8, 8, 8, 8, 8, 8, 8, 8, 8, 8, 8, 8, 8, 8, 8, 8, 8, 8, 8, 8, 8, 8, 8, 8, 8, 8, 8, 8, 8, 8, 8, 8, 8, 8, 8, 8, 8, 8, 8, 8, 8, 8, 8, 8, 8, 8, 8, 8, 8, 8, 8, 8, 8, 8, 8, 8, 8, 8, 8, 8, 8, 8, 8, 8, 8, 8, 8, 8, 8, 8, 8, 8, 8, 8, 8, 8, 8, 8, 8, 8, 8, 8, 8, 8, 8, 8, 8, 8, 8, 8, 8, 8, 8, 8, 8, 8, 8, 8, 8, 8, 8]) t21) H fun t22 H =>
 pConv .i64 t22 H fun t23 H =>
 pAdd t2 t23 H fun t24 H =>
 some (t24, H)
def S433_1 (call : CallFn) (t0 t2 : AV) (H : AHeap) : R :=
 pGeq t0 (.int .u64 (.ofNat 256)) H fun t14 H =>
 onBool t14 (pO (aBin .shr t0 (.int .u64 (.ofNat 8))) H fun t16 H =>
 pAdd t2 (iN 8) H fun t18 H =>
 S433_0 call t16 t18 H) (S433_0 call t0 t2 H)
def S433_2 (call : CallFn) (t0 t2 : AV) (H : AHeap) : R :=
 pGeq t0 (.int .u64 (.ofNat 65536)) H fun t8 H =>
 onBool t8 (pO (aBin .shr t0 (.int .u64 (.ofNat 16))) H fun t10 H =>
 pAdd t2 (iN 16) H fun t12 H =>
 S433_1 call t10 t12 H) (S433_1 call t0 t2 H)
def S433_3 (call : CallFn) (t0 : AV) (H : AHeap) : R :=
 pGeq t0 (.int .u64 (.ofNat 4294967296)) H fun t4 H =>
 onBool t4 (pO (aBin .shr t0 (.int .u64 (.ofNat 32))) H fun t6 H =>
 S433_2 call t6 (iN 32) H) (S433_2 call t0 (iN 0) H)
def S433 : Ff := ⟨fun call l H => argA1 (fun t0 => S433_3 call t0 H) l⟩
def S446_0 (_ : CallFn) (t8 t9 : AV) (H : AHeap) : R :=
 ldK (.some 4) H t9 fun t35 H =>
 stK 4 H t8 t35 fun _ H =>
 ob (allM (fun o => o) [aLoad (.some 4) H t8]) fun vs => some (resV vs, H)
def S446_2 (call : CallFn) (q0 : AV → AV → AV → AV → AV → AV → AV → AHeap → R) (t0 t1 t2 t3 t8 t9 t10 t17 t20 : AV) (H : AHeap) : R :=
 pPick t17 t20 (.bool false) H fun t21 H =>
 onBool t21 (pC call n195 [t0] H fun t25 H =>
 pNew [(iN 0), (.str []), (iN 0)] H fun t11 H =>
 stK 3 H t11 t25 fun _ H =>
 pFa 1 t11 H fun t26 H =>
 ldK .none H t26 fun t27 H =>
 pFa 2 t11 H fun t28 H =>
 ldK .none H t28 fun t29 H =>
 ldK (.some 4) H t9 fun t30 H =>
 pV call t2 [] H fun t32 H =>
 andR (andB (ckV (aLoad .none H t26) t27) (andB (ckV (aLoad .none H t28) t29) (andB (ckV (aLoad (.some 4) H t9) t30) true))) (
 pN (aBsl 4 2 [(.str []), (.str []), (iN 0), .nilsl] [(0, 4, t30), (4, 4, t32)]) H fun t33 H =>
 pO (someAgg (aFill [(.str []), (.str []), (iN 0), .nilsl] [(0, 1, (.str [98, 105, 110, 97, 114, 121])), (1, 1, t27), (2, 1, t29), (3, 1, t33)])) H fun t34 H =>
 stK 4 H t9 t34 fun _ H =>
 pAdd t10 (iN 1) H fun t23 H =>
 q0 t0 t1 t2 t3 t8 t9 t23 H)) (S446_0 call t8 t9 H)
def S446_1 (call : CallFn) (n : Nat) : AV → AV → AV → AV → AV → AV → AV → AHeap → R :=
 Nat.rec (motive := fun _ => AV → AV → AV → AV → AV → AV → AV → AHeap → R) (fun _ _ _ _ _ _ _ _ => none) (fun _ q0 t0 t1 t2 t3 t8 t9 t10 H => pC call n131 [t0, t3] H fun t16 H =>
 guardA t16 true (pLss t10 t1 H fun t20 H =>
 S446_2 call q0 t0 t1 t2 t3 t8 t9 t10 t16 t20 H) (S446_2 call q0 t0 t1 t2 t3 t8 t9 t10 t16 U H)) n
def S446_3 (call : CallFn) (t0 t1 t2 t3 : AV) (H : AHeap) : R :=
 pNew [(.str []), (.str []), (iN 0), .nilsl] H fun t8 H =>
 pV call t2 [] H fun t13 H =>
 pNew [(.str []), (.str []), (iN 0), .nilsl] H fun t9 H =>
 stK 4 H t9 t13 fun _ H =>
 S446_1 call 1000000 t0 t1 t2 t3 t8 t9 (iN 0) H
def S446 : Ff := ⟨fun call l H => argA4 (fun t0 t1 t2 t3 => S446_3 call t0 t1 t2 t3 H) l⟩
def S447_0 (call : CallFn) (t0 : AV) (H : AHeap) : R :=
 pNew [(.str []), (.str []), (iN 0), .nilsl] H fun t2 H =>
 pO (aNil t0) H fun t5 H =>
 pFa 0 t5 H fun t6 H =>
 ldK .none H t6 fun t7 H =>
 pO (aLen .sl H t7) H fun t8 H =>
 pN (aBsl 1 1 [(.str [])] [(0, 1, (.str [38, 38]))]) H fun t11 H =>
 pC call n446 [t0, t8, (.fn n466 [t0] []), t11] H fun t12 H =>
 stK 4 H t2 t12 fun _ H =>
 ob (allM (fun o => o) [aLoad (.some 4) H t2]) fun vs => some (resV vs, H)
def S447 : Ff := ⟨fun call l H => argA1 (fun t0 => S447_0 call t0 H) l⟩
def S459_0 (_ : CallFn) (t0 : AV) (H : AHeap) : R :=
 pNeq t0 t0 H fun t5 H =>
 some (t5, H)
def S459 : Ff := ⟨fun call l H => argA1 (fun t0 => S459_0 call t0 H) l⟩
def S466_0 (call : CallFn) (t0 : AV) (H : AHeap) : R :=
 pNew [(.str []), (.str []), (iN 0), .nilsl] H fun t2 H =>
 pN (aBsl 1 6 [(.str [])] [(0, 1, (.str [61, 61])), (1, 1, (.str [33, 61])), (2, 1, (.str [60])), (3, 1, (.str [60, 61])), (4, 1, (.str [62])), (5, 1, (.str [62, 61]))]) H fun t6 H =>
 pC call n446 [t0, (iN 1), (.fn n479 [t0] []), t6] H fun t7 H =>
 stK 4 H t2 t7 fun _ H =>
 ob (allM (fun o => o) [aLoad (.some 4) H t2]) fun vs => some (resV vs, H)
def S466 : Ff := ⟨fun call l H => argA1 (fun t0 => S466_0 call t0 H) l⟩
def S479_0 (call : CallFn) (t0 : AV) (H : AHeap) : R :=
 pNew [(.str []), (.str []), (iN 0), .nilsl] H fun t2 H =>
 pO (aNil t0) H fun t5 H =>
 pFa 0 t5 H fun t6 H =>
 ldK .none H t6 fun t7 H =>
 pO (aLen .sl H t7) H fun t8 H =>
 pN (aBsl 1 4 [(.str [])] [(0, 1, (.str [43])), (1, 1, (.str [45])), (2, 1, (.str [124])), (3, 1, (.str [94]))]) H fun t11 H =>
 pC call n446 [t0, t8, (.fn n487 [t0] []), t11] H fun t12 H =>
 stK 4 H t2 t12 fun _ H =>
 ob (allM (fun o => o) [aLoad (.some 4) H t2]) fun vs => some (resV vs, H)
def S479 : Ff := ⟨fun call l H => argA1 (fun t0 => S479_0 call t0 H) l⟩
def S487_0 (call : CallFn) (t0 : AV) (H : AHeap) : R :=
 pNew [(.str []), (.str []), (iN 0), .nilsl] H fun t2 H =>
 pO (aNil t0) H fun t5 H =>
 pFa 0 t5 H fun t6 H =>
 ldK .none H t6 fun t7 H =>
 pO (aLen .sl H t7) H fun t8 H =>
 pN (aBsl 1 6 [(.str [])] [(0, 1, (.str [42])), (1, 1, (.str [47])), (2, 1, (.str [37])), (3, 1, (.str [60, 60])), (4, 1, (.str [62, 62])), (5, 1, (.str [38]))]) H fun t11 H =>
 pC call n446 [t0, t8, (.fn n490 [t0] []), t11] H fun t12 H =>
 stK 4 H t2 t12 fun _ H =>
 ob (allM (fun o => o) [aLoad (.some 4) H t2]) fun vs => some (resV vs, H)
def S487 : Ff := ⟨fun call l H => argA1 (fun t0 => S487_0 call t0 H) l⟩
def S490_0 (call : CallFn) (t0 t2 t10000 : AV) (H : AHeap) : R :=
 pC call n66 [t0, (.str [117, 110, 97, 114, 121])] H fun t14 H =>
 pNew [(.str []), (.str []), (iN 0), .nilsl] H fun t3 H =>
 stK 4 H t3 t14 fun _ H =>
 pC call n195 [t0] H fun t16 H =>
 pO (aFld 1 .none t16) H fun t17 H =>
 pFa 1 t3 H fun t18 H =>
 stK 1 H t18 t17 fun _ H =>
 pC call n490 [t0] H fun t20 H =>
 pN (aBsl 4 1 [(.str []), (.str []), (iN 0), .nilsl] [(0, 4, t20)]) H fun t21 H =>
 pFa 3 t3 H fun t22 H =>
 stK 1 H t22 t21 fun _ H =>
 ldK (.some 4) H t3 fun t23 H =>
 stK 4 H t2 t23 fun _ H =>
 pO (aNil t10000) H fun t20003 H =>
 pFa 2 t20003 H fun t20004 H =>
 ldK .none H t20004 fun t20005 H =>
 pSub t20005 (iN 1) H fun t20006 H =>
 pO (aNil t10000) H fun t20007 H =>
 pFa 2 t20007 H fun t20008 H =>
 stK 1 H t20008 t20006 fun _ H =>
 ob (allM (fun o => o) [aLoad (.some 4) H t2]) fun vs => some (resV vs, H)
def S490_1 (call : CallFn) (t0 : AV) (H : AHeap) : R :=
 pNew [(.str []), (.str []), (iN 0), .nilsl] H fun t2 H =>
 pN (aBsl 1 2 [(.str [])] [(0, 1, (.str [45])), (1, 1, (.str [33]))]) H fun t5 H =>
 pC call n131 [t0, t5] H fun t6 H =>
 pO (aUn .not t6) H fun t7 H =>
 onBool t7 (pC call n491 [t0] H fun t9 H =>
 stK 4 H t2 t9 fun _ H =>
 ob (allM (fun o => o) [aLoad (.some 4) H t2]) fun vs => some (resV vs, H)) (pC call n311 [t0] H fun _ H =>
 S490_0 call t0 t2 t0 H)
def S490 : Ff := ⟨fun call l H => argA1 (fun t0 => S490_1 call t0 H) l⟩
def S491_0 (call : CallFn) (n : Nat) : AV → AV → AV → AHeap → R :=
 Nat.rec (motive := fun _ => AV → AV → AV → AHeap → R) (fun _ _ _ _ => none) (fun _ q0 t0 t2 t3 H => pC call n67 [t0] H fun t8 H =>
 pNew [(iN 0), (.str []), (iN 0)] H fun t4 H =>
 stK 3 H t4 t8 fun _ H =>
 pC call n128 [t0, (.str [40])] H fun t12 H =>
 onBool t12 (pFa 2 t4 H fun t13 H =>
 ldK .none H t13 fun t14 H =>
 ldK (.some 4) H t3 fun t15 H =>
 pN (aBsl 4 1 [(.str []), (.str []), (iN 0), .nilsl] [(0, 4, t15)]) H fun t16 H =>
 pC call n198 [t0, (.fn n493 [t0] [])] H fun t20 H =>
 andR (andB (ckV (aLoad .none H t13) t14) (andB (ckV (aLoad (.some 4) H t3) t15) true)) (
 pW (aApp 4 64 H t16 t20) fun t21 H =>
 andR (andB (ckV (aLoad .none H t13) t14) true) (
 pO (someAgg (aFill [(.str []), (.str []), (iN 0), .nilsl] [(0, 1, (.str [99, 97, 108, 108])), (2, 1, t14), (3, 1, t21)])) H fun t22 H =>
 stK 4 H t3 t22 fun _ H =>
 q0 t0 t2 t3 H))) (pC call n128 [t0, (.str [91])] H fun t25 H =>
 onBool t25 (pFa 2 t4 H fun t26 H =>
 ldK .none H t26 fun t27 H =>
 ldK (.some 4) H t3 fun t28 H =>
 pC call n493 [t0] H fun t30 H =>
 andR (andB (ckV (aLoad .none H t26) t27) (andB (ckV (aLoad (.some 4) H t3) t28) true)) (
 pN (aBsl 4 2 [(.str []), (.str []), (iN 0), .nilsl] [(0, 4, t28), (4, 4, t30)]) H fun t31 H =>
 pO (someAgg (aFill [(.str []), (.str []), (iN 0), .nilsl] [(0, 1, (.str [105, 110, 100, 101, 120])), (2, 1, t27), (3, 1, t31)])) H fun t32 H =>
 stK 4 H t3 t32 fun _ H =>
 pC call n130 [t0, (.str [93])] H fun _ H =>
 q0 t0 t2 t3 H)) (pC call n128 [t0, (.str [46])] H fun t37 H =>
 onBool t37 (pFa 2 t4 H fun t41 H =>
 ldK .none H t41 fun t42 H =>
 ldK (.some 4) H t3 fun t43 H =>
 pN (aBsl 4 1 [(.str []), (.str []), (iN 0), .nilsl] [(0, 4, t43)]) H fun t44 H =>
 pC call n129 [t0] H fun t39 H =>
 andR (andB (ckV (aLoad .none H t41) t42) (andB (ckV (aLoad (.some 4) H t3) t43) true)) (
 pO (aFld 1 .none t39) H fun t40 H =>
 pO (someAgg (aFill [(.str []), (.str []), (iN 0), .nilsl] [(0, 1, (.str [100, 111, 116])), (1, 1, t40), (2, 1, t42), (3, 1, t44)])) H fun t45 H =>
 stK 4 H t3 t45 fun _ H =>
 q0 t0 t2 t3 H)) (ldK (.some 4) H t3 fun t9 H =>
 stK 4 H t2 t9 fun _ H =>
 ob (allM (fun o => o) [aLoad (.some 4) H t2]) fun vs => some (resV vs, H))))) n
def S491_1 (call : CallFn) (t0 : AV) (H : AHeap) : R :=
 pNew [(.str []), (.str []), (iN 0), .nilsl] H fun t2 H =>
 pC call n492 [t0] H fun t6 H =>
 pNew [(.str []), (.str []), (iN 0), .nilsl] H fun t3 H =>
 stK 4 H t3 t6 fun _ H =>
 S491_0 call 1000000 t0 t2 t3 H
def S491 : Ff := ⟨fun call l H => argA1 (fun t0 => S491_1 call t0 H) l⟩
def S492_0 (_ : CallFn) (t2 t4 : AV) (H : AHeap) : R :=
 ldK (.some 4) H t4 fun t104 H =>
 stK 4 H t2 t104 fun _ H =>
 ob (allM (fun o => o) [aLoad (.some 4) H t2]) fun vs => some (resV vs, H)
def S492_1 (call : CallFn) (t0 t2 t4 t78 t80 : AV) (H : AHeap) : R :=
 pPick t78 (.bool true) t80 H fun t81 H =>
 onBool t81 (pC call n130 [t0, (.str [40])] H fun _ H =>
 pC call n493 [t0] H fun t85 H =>
 pN (aBsl 4 1 [(.str []), (.str []), (iN 0), .nilsl] [(0, 4, t85)]) H fun t86 H =>
 pFa 3 t4 H fun t87 H =>
 stK 1 H t87 t86 fun _ H =>
 pC call n130 [t0, (.str [41])] H fun _ H =>
 S492_0 call t2 t4 H) (pC call n128 [t0, (.str [102, 117, 110, 99])] H fun t92 H =>
 onBool t92 (pC call n133 [t0] H fun t94 H =>
 pFa 0 t4 H fun t95 H =>
 stK 1 H t95 (.str [108, 97, 109, 98, 100, 97]) fun _ H =>
 pFa 3 t4 H fun t96 H =>
 stK 1 H t96 t94 fun _ H =>
 S492_0 call t2 t4 H) (pC call n128 [t0, (.str [40])] H fun t99 H =>
 onBool t99 (pC call n493 [t0] H fun t101 H =>
 stK 4 H t4 t101 fun _ H =>
 pC call n130 [t0, (.str [41])] H fun _ H =>
 S492_0 call t2 t4 H) (pC call n134 [t0, (iN 6)] H fun _ H =>
 S492_0 call t2 t4 H)))
def S492_2 (call : CallFn) (t0 t2 t4 t37 t39 : AV) (H : AHeap) : R :=
 pPick t37 (.bool true) t39 H fun t40 H =>
 onBool t40 (S492_0 call t2 t4 H) (pC call n128 [t0, (.str [110, 105, 108])] H fun t43 H =>
 onBool t43 (pC call n130 [t0, (.str [40])] H fun _ H =>
 pC call n197 [t0] H fun t47 H =>
 pN (aBsl 4 1 [(.str []), (.str []), (iN 0), .nilsl] [(0, 4, t47)]) H fun t48 H =>
 pFa 3 t4 H fun t49 H =>
 stK 1 H t49 t48 fun _ H =>
 pC call n130 [t0, (.str [41])] H fun _ H =>
 S492_0 call t2 t4 H) (pC call n128 [t0, (.str [110, 101, 119])] H fun t54 H =>
 onBool t54 (pC call n129 [t0] H fun t56 H =>
 pO (aFld 1 .none t56) H fun t57 H =>
 pFa 1 t4 H fun t58 H =>
 stK 1 H t58 t57 fun _ H =>
 S492_0 call t2 t4 H) (pC call n128 [t0, (.str [109, 97, 107, 101])] H fun t61 H =>
 onBool t61 (pC call n130 [t0, (.str [40])] H fun _ H =>
 pC call n197 [t0] H fun t65 H =>
 pNew [(.str []), (.str []), (iN 0), .nilsl] H fun t5 H =>
 stK 4 H t5 t65 fun _ H =>
 pC call n130 [t0, (.str [44])] H fun _ H =>
 ldK (.some 4) H t5 fun t68 H =>
 pC call n493 [t0] H fun t70 H =>
 andR (andB (ckV (aLoad (.some 4) H t5) t68) true) (
 pN (aBsl 4 2 [(.str []), (.str []), (iN 0), .nilsl] [(0, 4, t68), (4, 4, t70)]) H fun t71 H =>
 pFa 3 t4 H fun t72 H =>
 stK 1 H t72 t71 fun _ H =>
 pC call n130 [t0, (.str [41])] H fun _ H =>
 S492_0 call t2 t4 H)) (pC call n128 [t0, (.str [108, 101, 110])] H fun t77 H =>
 guardA t77 false (pC call n128 [t0, (.str [114, 101, 99, 118])] H fun t80 H =>
 S492_1 call t0 t2 t4 t77 t80 H) (S492_1 call t0 t2 t4 t77 U H)))))
def S492_3 (call : CallFn) (t0 : AV) (H : AHeap) : R :=
 pNew [(.str []), (.str []), (iN 0), .nilsl] H fun t2 H =>
 pC call n67 [t0] H fun t7 H =>
 pNew [(iN 0), (.str []), (iN 0)] H fun t3 H =>
 stK 3 H t3 t7 fun _ H =>
 pFa 1 t3 H fun t9 H =>
 ldK .none H t9 fun t10 H =>
 pC call n66 [t0, t10] H fun t11 H =>
 pNew [(.str []), (.str []), (iN 0), .nilsl] H fun t4 H =>
 stK 4 H t4 t11 fun _ H =>
 pFa 0 t3 H fun t15 H =>
 ldK .none H t15 fun t16 H =>
 pEql t16 (iN 3) H fun t17 H =>
 onBool t17 (pC call n195 [t0] H fun _ H =>
 pFa 1 t3 H fun t20 H =>
 ldK .none H t20 fun t21 H =>
 pFa 0 t4 H fun t22 H =>
 stK 1 H t22 (.str [110, 117, 109, 98, 101, 114]) fun _ H =>
 andR (andB (ckV (aLoad .none H t20) t21) true) (
 pFa 1 t4 H fun t23 H =>
 stK 1 H t23 t21 fun _ H =>
 S492_0 call t2 t4 H)) (pFa 0 t3 H fun t25 H =>
 ldK .none H t25 fun t26 H =>
 pEql t26 (iN 1) H fun t27 H =>
 onBool t27 (pC call n195 [t0] H fun _ H =>
 pFa 1 t3 H fun t30 H =>
 ldK .none H t30 fun t31 H =>
 pFa 0 t4 H fun t32 H =>
 stK 1 H t32 (.str [110, 97, 109, 101]) fun _ H =>
 andR (andB (ckV (aLoad .none H t30) t31) true) (
 pFa 1 t4 H fun t33 H =>
 stK 1 H t33 t31 fun _ H =>
 S492_0 call t2 t4 H)) (pC call n128 [t0, (.str [116, 114, 117, 101])] H fun t36 H =>
 guardA t36 false (pC call n128 [t0, (.str [102, 97, 108, 115, 101])] H fun t39 H =>
 S492_2 call t0 t2 t4 t36 t39 H) (S492_2 call t0 t2 t4 t36 U H)))
def S492 : Ff := ⟨fun call l H => argA1 (fun t0 => S492_3 call t0 H) l⟩
def S510_1 (_ : CallFn) (q0 : AV → AV → AV → AV → AV → AHeap → R) (t0 t3 t9 t10 t11 : AV) (H : AHeap) : R :=
 pAdd t11 (.int .i64 (.ofNat 1)) H fun t32 H =>
 q0 t0 t3 t9 t10 t32 H
def S510_2 (call : CallFn) (q0 : AV → AV → AV → AV → AV → AHeap → R) (t0 t3 t5 t9 t10 t11 t24 t26 : AV) (H : AHeap) : R :=
 pPick t24 t26 (.bool false) H fun t27 H =>
 onBool t27 (pN (aBsl 1 1 [(.int .i64 (.ofNat 0))] [(0, 1, t5)]) H fun t30 H =>
 pW (aApp 1 8 H t3 t30) fun t31 H =>
 S510_1 call q0 t0 t31 t9 t10 t11 H) (S510_1 call q0 t0 t3 t9 t10 t11 H)
def S510_0 (call : CallFn) (n : Nat) : AV → AV → AV → AV → AV → AHeap → R :=
 Nat.rec (motive := fun _ => AV → AV → AV → AV → AV → AHeap → R) (fun _ _ _ _ _ _ => none) (fun _ q0 t0 t3 t9 t10 t11 H => pLss t11 t10 H fun t12 H =>
 onBool t12 (pIa 1 t9 t11 H fun t14 H =>
 ldK .none H t14 fun t15 H =>
 pO (aNil t0) H fun t17 H =>
 pFa 0 t17 H fun t18 H =>
 pFa 1 t18 H fun t19 H =>
 ldK .none H t19 fun t20 H =>
 pIa 1 t20 t11 H fun t22 H =>
 ldK .none H t22 fun t23 H =>
 guardA t23 true (pNeq t15 (.int .i64 (.ofNat 0)) H fun t26 H =>
 S510_2 call q0 t0 t3 t15 t9 t10 t11 t23 t26 H) (S510_2 call q0 t0 t3 t15 t9 t10 t11 t23 U H)) (some (t3, H))) n
def S510_3 (call : CallFn) (t0 : AV) (H : AHeap) : R :=
 pO (aNil t0) H fun t7 H =>
 pFa 8 t7 H fun t8 H =>
 ldK .none H t8 fun t9 H =>
 pO (aLen .sl H t9) H fun t10 H =>
 S510_0 call 1000000 t0 .nilsl t9 t10 (.int .i64 (.ofNat 0)) H
def S510 : Ff := ⟨fun call l H => argA1 (fun t0 => S510_3 call t0 H) l⟩
def S511_0 (call : CallFn) (t0 t1 : AV) (H : AHeap) : R :=
 pO (aNil t0) H fun t7 H =>
 pFa 7 t7 H fun t8 H =>
 ldK .none H t8 fun t9 H =>
 pC call n108 [t9, t1] H fun t11 H =>
 pO (aEq false .ptr t11 .nilp) H fun t13 H =>
 onBool t13 (some (.nilsl, H)) (pO (aNil t0) H fun t16 H =>
 pFa 0 t16 H fun t17 H =>
 ldK (.some 6) H t17 fun t18 H =>
 pC call n513 [t11, t18] H fun t19 H =>
 some (t19, H))
def S511 : Ff := ⟨fun call l H => argA2 (fun t0 t1 => S511_0 call t0 t1 H) l⟩
def S512_0 (call : CallFn) (t0 : AV) (H : AHeap) : R :=
 pO (aNil t0) H fun t4 H =>
 pFa 7 t4 H fun t5 H =>
 ldK .none H t5 fun t6 H =>
 pC call n159 [t6] H fun t7 H =>
 some (t7, H)
def S512 : Ff := ⟨fun call l H => argA1 (fun t0 => S512_0 call t0 H) l⟩
def S513_1 (_ : CallFn) (q0 : AV → AV → AV → AV → AV → AHeap → R) (t3 t5 t14 t15 t16 : AV) (H : AHeap) : R :=
 pAdd t16 (.int .i64 (.ofNat 1)) H fun t70 H =>
 q0 t3 t5 t14 t15 t70 H
def S513_3 (_ : CallFn) (q1 : AV → AV → AV → AV → AV → AV → AV → AV → AV → AV → AHeap → R) (t3 t5 t7 t8 t14 t15 t16 t44 t45 t46 : AV) (H : AHeap) : R :=
 pAdd t46 (.int .i64 (.ofNat 1)) H fun t69 H =>
 q1 t3 t5 t7 t8 t14 t15 t16 t44 t45 t69 H
def S513_4 (call : CallFn) (q1 : AV → AV → AV → AV → AV → AV → AV → AV → AV → AV → AHeap → R) (t3 t5 t7 t8 t10 t14 t15 t16 t44 t45 t46 t61 t63 : AV) (H : AHeap) : R :=
 pPick t61 t63 (.bool false) H fun t64 H =>
 onBool t64 (pN (aBsl 1 1 [(.int .i64 (.ofNat 0))] [(0, 1, t10)]) H fun t67 H =>
 pW (aApp 1 8 H t5 t67) fun t68 H =>
 S513_3 call q1 t3 t68 t7 t8 t14 t15 t16 t44 t45 t46 H) (S513_3 call q1 t3 t5 t7 t8 t14 t15 t16 t44 t45 t46 H)
def S513_2 (call : CallFn) (q0 : AV → AV → AV → AV → AV → AHeap → R) (n : Nat) : AV → AV → AV → AV → AV → AV → AV → AV → AV → AV → AHeap → R :=
 Nat.rec (motive := fun _ => AV → AV → AV → AV → AV → AV → AV → AV → AV → AV → AHeap → R) (fun _ _ _ _ _ _ _ _ _ _ _ => none) (fun _ q1 t3 t5 t7 t8 t14 t15 t16 t44 t45 t46 H => pLss t46 t45 H fun t47 H =>
 onBool t47 (pIa 1 t44 t46 H fun t49 H =>
 ldK .none H t49 fun t50 H =>
 pFa 1 t7 H fun t52 H =>
 ldK .none H t52 fun t53 H =>
 pIa 1 t8 t53 H fun t54 H =>
 ldK .none H t54 fun t55 H =>
 pConv .u64 t46 H fun t57 H =>
 pO (aBin .shr t55 t57) H fun t58 H =>
 pAnd t58 (.int .u64 (.ofNat 1)) H fun t59 H =>
 pEql t59 (.int .u64 (.ofNat 1)) H fun t60 H =>
 guardA t60 true (pNeq t50 (.int .i64 (.ofNat 0)) H fun t63 H =>
 S513_4 call q1 t3 t5 t7 t8 t50 t14 t15 t16 t44 t45 t46 t60 t63 H) (S513_4 call q1 t3 t5 t7 t8 t50 t14 t15 t16 t44 t45 t46 t60 U H)) (S513_1 call q0 t3 t5 t14 t15 t16 H)) n
def S513_5 (call : CallFn) (q0 : AV → AV → AV → AV → AV → AHeap → R) (t3 t5 t7 t8 t14 t15 t16 t36 t41 : AV) (H : AHeap) : R :=
 pPick t36 (.bool true) t41 H fun t42 H =>
 onBool t42 (S513_1 call q0 t3 t5 t14 t15 t16 H) (pFa 2 t7 H fun t43 H =>
 ldK .none H t43 fun t44 H =>
 pO (aLen .sl H t44) H fun t45 H =>
 S513_2 call q0 1000000 t3 t5 t7 t8 t14 t15 t16 t44 t45 (.int .i64 (.ofNat 0)) H)
def S513_0 (call : CallFn) (n : Nat) : AV → AV → AV → AV → AV → AHeap → R :=
 Nat.rec (motive := fun _ => AV → AV → AV → AV → AV → AHeap → R) (fun _ _ _ _ _ _ => none) (fun _ q0 t3 t5 t14 t15 t16 H => pLss t16 t15 H fun t17 H =>
 onBool t17 (pIa 3 t14 t16 H fun t18 H =>
 ldK (.some 3) H t18 fun t19 H =>
 pNew [(.int .i64 (.ofNat 0)), (.int .i64 (.ofNat 0)), .nilsl] H fun t7 H =>
 stK 3 H t7 t19 fun _ H =>
 pFa 0 t7 H fun t20 H =>
 ldK .none H t20 fun t21 H =>
 pFa 4 t3 H fun t22 H =>
 ldK .none H t22 fun t23 H =>
 pO (aLen .sl H t23) H fun t24 H =>
 pGeq t21 t24 H fun t25 H =>
 onBool t25 (S513_1 call q0 t3 t5 t14 t15 t16 H) (pFa 4 t3 H fun t26 H =>
 ldK .none H t26 fun t27 H =>
 pFa 0 t7 H fun t28 H =>
 ldK .none H t28 fun t29 H =>
 pIa 7 t27 t29 H fun t30 H =>
 pFa 6 t30 H fun t31 H =>
 ldK .none H t31 fun t32 H =>
 pFa 1 t7 H fun t33 H =>
 ldK .none H t33 fun t34 H =>
 pLss t34 (.int .i64 (.ofNat 0)) H fun t35 H =>
 guardA t35 false (pFa 1 t7 H fun t37 H =>
 ldK .none H t37 fun t38 H =>
 pO (aLen .sl H t32) H fun t40 H =>
 pGeq t38 t40 H fun t41 H =>
 S513_5 call q0 t3 t5 t7 t32 t14 t15 t16 t35 t41 H) (S513_5 call q0 t3 t5 t7 t32 t14 t15 t16 t35 U H))) (some (t5, H))) n
def S513_6 (call : CallFn) (t0 t1 : AV) (H : AHeap) : R :=
 pBox t1 H fun t3 H =>
 pO (aNil t0) H fun t12 H =>
 pFa 0 t12 H fun t13 H =>
 ldK .none H t13 fun t14 H =>
 pO (aLen .sl H t14) H fun t15 H =>
 S513_0 call 1000000 t3 .nilsl t14 t15 (.int .i64 (.ofNat 0)) H
def S513 : Ff := ⟨fun call l H => argA2 (fun t0 t1 => S513_6 call t0 t1 H) l⟩
end
noncomputable section
set_option maxRecDepth 100000
def V_list : List (Option Ff) := [none, none, none, some S3, some S4, none, some S6, none, none, none, some S10, none, some S12, some S13, some S14, none, none, none, none, none, none, some S21, some S22, none, none, none, some S26, none, some S28, none, some S30, none, none, none, none, none, none, none, none, none, none, none, none, none, none, none, none, none, none, none, none, some S51, some S52, some S53, some S54, some S55, some S56, some S57, some S58, some S59, some S60, some S61, some S62, none, some S64, some S65, some S66, some S67, none, some S69, some S70, some S71, some S72, none, none, none, none, none, some S78, none, some S80, none, none, some S83, none, none, none, none, some S88, none, none, none, none, none, none, none, none, none, some S98, none, none, none, none, none, some S104, some S105, some S106, some S107, some S108, some S109, some S110, some S111, some S112, some S113, some S114, none, none, some S117, some S118, some S119, some S120, none, some S122, some S123, some S124, some S125, none, some S127, some S128, none, some S130, some S131, none, none, none, some S135, some S136, some S137, none, none, none, some S141, none, some S143, some S144, some S145, some S146, some S147, some S148, some S149, none, none, none, none, none, none, none, some S157, some S158, some S159, some S160, some S161, some S162, some S163, some S164, some S165, some S166, some S167, some S168, some S169, some S170, some S171, some S172, some S173, none, none, some S176, some S177, none, none, none, none, some S182, none, none, some S185, some S186, some S187, some S188, some S189, none, some S191, some S192, none, none, some S195, some S196, none, none, none, none, none, some S202, none, some S204, none, none, none, none, none, none, none, none, none, none, none, none, none, none, none, none, some S221, some S222, none, none, some S225, none, some S227, some S228, some S229, some S230, some S231, some S232, none, some S234, some S235, some S236, some S237, some S238, none, none, some S241, none, some S243, none, none, some S246, some S247, some S248, some S249, some S250, none, none, some S253, none, some S255, some S256, some S257, some S258, some S259, some S260, some S261, some S262, some S263, none, none, some S266, none, none, none, none, none, none, none, none, none, none, none, none, none, none, none, none, none, none, none, none, none, none, some S289, none, none, none, none, none, none, some S296, some S297, none, none, some S300, none, none, some S303, none, none, none, none, none, none, some S310, none, none, none, some S314, some S315, some S316, none, none, none, none, none, none, none, some S324, none, none, none, none, none, none, none, none, none, none, none, none, none, none, none, none, none, none, none, none, some S345, none, some S347, some S348, none, none, none, none, none, none, none, none, none, none, none, none, none, none, some S363, none, some S365, some S366, some S367, some S368, some S369, none, none, none, none, some S374, none, none, some S377, some S378, some S379, none, none, none, none, none, none, none, none, none, none, none, none, none, none, none, none, none, none, some S398, none, none, none, none, some S403, none, none, none, none, none, none, none, none, none, none, none, none, none, none, none, none, none, none, none, some S423, none, none, none, none, none, some S429, none, none, none, some S433, none, none, none, none, none, none, none, none, none, none, none, none, some S446, some S447, none, none, none, none, none, none, none, none, none, none, none, some S459, none, none, none, none, none, none, some S466, none, none, none, none, none, none, none, none, none, none, none, none, some S479, none, none, none, none, none, none, none, some S487, none, none, some S490, some S491, some S492, none, none, none, none, none, none, none, none, none, none, none, none, none, none, none, none, none, some S510, some S511, some S512, some S513]
def V_mask : Nat := 50279328088487352721077026150888069539824214330756184475222036602935136122180507755398783503849493420906234876147030801348246163012145136372568206017036280
def V_tab : Nat → Option Ff := tabX Tryz.prog [] 1000000 V_mask 514 V_list
end
end Go.Proofs.YtlmcgeiacfbdnaaGreatDoor
