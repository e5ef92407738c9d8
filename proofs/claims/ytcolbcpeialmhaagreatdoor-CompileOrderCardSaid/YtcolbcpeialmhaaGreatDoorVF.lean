/- Plain functions, printed. -/
import Derived.Test.YtcolbcpeialmhaaGreatDoorA2
import Derived.Test.YtcolbcpeialmhaaGreatDoorProg
import Derived.KernelRfl
namespace Go.Proofs.YtcolbcpeialmhaaGreatDoor
open Go.Ab
abbrev n168 : Nat := 168
abbrev n169 : Nat := 169
abbrev n170 : Nat := 170
abbrev n257 : Nat := 257
abbrev n256 : Nat := 256
abbrev n364 : Nat := 364
abbrev n359 : Nat := 359
abbrev n367 : Nat := 367
abbrev n259 : Nat := 259
abbrev n441 : Nat := 441
abbrev n366 : Nat := 366
abbrev n438 : Nat := 438
abbrev n439 : Nat := 439
abbrev n258 : Nat := 258
abbrev n185 : Nat := 185
abbrev n446 : Nat := 446
abbrev n445 : Nat := 445
abbrev n355 : Nat := 355
abbrev n356 : Nat := 356
abbrev n395 : Nat := 395
abbrev n357 : Nat := 357
abbrev n398 : Nat := 398
abbrev n399 : Nat := 399
abbrev n411 : Nat := 411
abbrev n410 : Nat := 410
abbrev n78 : Nat := 78
abbrev n320 : Nat := 320
abbrev n206 : Nat := 206
abbrev n212 : Nat := 212
abbrev n214 : Nat := 214
abbrev n32 : Nat := 32
abbrev n76 : Nat := 76
abbrev n322 : Nat := 322
abbrev n207 : Nat := 207
abbrev n77 : Nat := 77
abbrev n327 : Nat := 327
abbrev n209 : Nat := 209
abbrev n211 : Nat := 211
abbrev n323 : Nat := 323
abbrev n210 : Nat := 210
abbrev n33 : Nat := 33
abbrev n319 : Nat := 319
abbrev n31 : Nat := 31
abbrev n213 : Nat := 213
abbrev n140 : Nat := 140
abbrev n321 : Nat := 321
abbrev n318 : Nat := 318
abbrev n29 : Nat := 29
abbrev n74 : Nat := 74
abbrev n432 : Nat := 432
abbrev n234 : Nat := 234
abbrev n233 : Nat := 233
abbrev n12 : Nat := 12
abbrev n379 : Nat := 379
abbrev n250 : Nat := 250
abbrev n63 : Nat := 63
abbrev n166 : Nat := 166
abbrev n109 : Nat := 109
abbrev n108 : Nat := 108
abbrev n97 : Nat := 97
abbrev n165 : Nat := 165
abbrev n172 : Nat := 172
abbrev n91 : Nat := 91
abbrev n144 : Nat := 144
abbrev n112 : Nat := 112
abbrev n115 : Nat := 115
abbrev n179 : Nat := 179
abbrev n263 : Nat := 263
abbrev n369 : Nat := 369
abbrev n113 : Nat := 113
abbrev n173 : Nat := 173
abbrev n174 : Nat := 174
abbrev n94 : Nat := 94
abbrev n95 : Nat := 95
abbrev n149 : Nat := 149
abbrev n154 : Nat := 154
abbrev n237 : Nat := 237
abbrev n151 : Nat := 151
abbrev n238 : Nat := 238
abbrev n148 : Nat := 148
abbrev n153 : Nat := 153
abbrev n147 : Nat := 147
abbrev n235 : Nat := 235
abbrev n236 : Nat := 236
abbrev n4 : Nat := 4
abbrev n3 : Nat := 3
abbrev n5 : Nat := 5
abbrev n6 : Nat := 6
abbrev n17 : Nat := 17
abbrev n11 : Nat := 11
abbrev n9 : Nat := 9
abbrev n7 : Nat := 7
abbrev n8 : Nat := 8
abbrev n16 : Nat := 16
abbrev n10 : Nat := 10
abbrev n463 : Nat := 463
abbrev n361 : Nat := 361
abbrev n260 : Nat := 260
abbrev n365 : Nat := 365
abbrev n253 : Nat := 253
abbrev n363 : Nat := 363
abbrev n362 : Nat := 362
abbrev n360 : Nat := 360
abbrev n440 : Nat := 440
abbrev n62 : Nat := 62
abbrev n64 : Nat := 64
abbrev n378 : Nat := 378
abbrev n196 : Nat := 196
abbrev n307 : Nat := 307
abbrev n308 : Nat := 308
abbrev n317 : Nat := 317
abbrev n195 : Nat := 195
abbrev n127 : Nat := 127
abbrev n67 : Nat := 67
abbrev n124 : Nat := 124
abbrev n128 : Nat := 128
abbrev n126 : Nat := 126
abbrev n125 : Nat := 125
abbrev n130 : Nat := 130
abbrev n123 : Nat := 123
abbrev n68 : Nat := 68
abbrev n150 : Nat := 150
abbrev n239 : Nat := 239
abbrev n231 : Nat := 231
abbrev n228 : Nat := 228
abbrev n232 : Nat := 232
abbrev n230 : Nat := 230
abbrev n229 : Nat := 229
abbrev n347 : Nat := 347
abbrev n348 : Nat := 348
abbrev n425 : Nat := 425
abbrev n349 : Nat := 349
abbrev n346 : Nat := 346
abbrev n81 : Nat := 81
abbrev n333 : Nat := 333
abbrev n223 : Nat := 223
abbrev n86 : Nat := 86
abbrev n334 : Nat := 334
abbrev n225 : Nat := 225
abbrev n83 : Nat := 83
abbrev n217 : Nat := 217
abbrev n337 : Nat := 337
abbrev n331 : Nat := 331
abbrev n224 : Nat := 224
abbrev n424 : Nat := 424
abbrev n343 : Nat := 343
abbrev n332 : Nat := 332
abbrev n338 : Nat := 338
abbrev n329 : Nat := 329
abbrev n36 : Nat := 36
abbrev n339 : Nat := 339
abbrev n423 : Nat := 423
abbrev n336 : Nat := 336
abbrev n335 : Nat := 335
abbrev n330 : Nat := 330
abbrev n246 : Nat := 246
abbrev n353 : Nat := 353
abbrev n254 : Nat := 254
abbrev n255 : Nat := 255
abbrev n167 : Nat := 167
abbrev n351 : Nat := 351
abbrev n435 : Nat := 435
abbrev n436 : Nat := 436
abbrev n368 : Nat := 368
abbrev n450 : Nat := 450
abbrev n136 : Nat := 136
abbrev n469 : Nat := 469
abbrev n406 : Nat := 406
abbrev n137 : Nat := 137
abbrev n314 : Nat := 314
abbrev n496 : Nat := 496
abbrev n134 : Nat := 134
abbrev n201 : Nat := 201
abbrev n132 : Nat := 132
abbrev n198 : Nat := 198
abbrev n69 : Nat := 69
abbrev n494 : Nat := 494
abbrev n495 : Nat := 495
abbrev n449 : Nat := 449
abbrev n482 : Nat := 482
abbrev n131 : Nat := 131
abbrev n490 : Nat := 490
abbrev n200 : Nat := 200
abbrev n493 : Nat := 493
abbrev n133 : Nat := 133
abbrev n70 : Nat := 70
abbrev n24 : Nat := 24
abbrev n14 : Nat := 14
abbrev n25 : Nat := 25
abbrev n107 : Nat := 107
abbrev n163 : Nat := 163
abbrev n162 : Nat := 162
abbrev n111 : Nat := 111
abbrev n164 : Nat := 164
abbrev n247 : Nat := 247
abbrev n358 : Nat := 358
abbrev n248 : Nat := 248
abbrev n413 : Nat := 413
abbrev n421 : Nat := 421
abbrev n146 : Nat := 146
abbrev n249 : Nat := 249
abbrev n101 : Nat := 101
abbrev n241 : Nat := 241
abbrev n297 : Nat := 297
abbrev n299 : Nat := 299
abbrev n73 : Nat := 73
abbrev n120 : Nat := 120
abbrev n199 : Nat := 199
abbrev n161 : Nat := 161
abbrev n324 : Nat := 324
abbrev n152 : Nat := 152
abbrev n244 : Nat := 244
abbrev n75 : Nat := 75
abbrev n188 : Nat := 188
abbrev n313 : Nat := 313
abbrev n251 : Nat := 251
abbrev n240 : Nat := 240
abbrev n245 : Nat := 245
abbrev n428 : Nat := 428
abbrev n429 : Nat := 429
abbrev n427 : Nat := 427
abbrev n426 : Nat := 426
abbrev n431 : Nat := 431
abbrev n433 : Nat := 433
abbrev n434 : Nat := 434
abbrev n350 : Nat := 350
abbrev n430 : Nat := 430
abbrev n129 : Nat := 129
abbrev n205 : Nat := 205
abbrev n122 : Nat := 122
abbrev n72 : Nat := 72
abbrev n208 : Nat := 208
abbrev n138 : Nat := 138
abbrev n139 : Nat := 139
abbrev n193 : Nat := 193
abbrev n194 : Nat := 194
abbrev n305 : Nat := 305
abbrev n296 : Nat := 296
abbrev n295 : Nat := 295
abbrev n302 : Nat := 302
abbrev n303 : Nat := 303
abbrev n401 : Nat := 401
abbrev n191 : Nat := 191
abbrev n304 : Nat := 304
abbrev n192 : Nat := 192
abbrev n294 : Nat := 294
abbrev n121 : Nat := 121
abbrev n293 : Nat := 293
abbrev n301 : Nat := 301
abbrev n292 : Nat := 292
abbrev n189 : Nat := 189
abbrev n291 : Nat := 291
abbrev n298 : Nat := 298
abbrev n300 : Nat := 300
abbrev n306 : Nat := 306
abbrev n190 : Nat := 190
abbrev n65 : Nat := 65
abbrev n57 : Nat := 57
abbrev n58 : Nat := 58
abbrev n56 : Nat := 56
abbrev n55 : Nat := 55
abbrev n61 : Nat := 61
abbrev n60 : Nat := 60
abbrev n515 : Nat := 515
abbrev n59 : Nat := 59
abbrev n110 : Nat := 110
abbrev n181 : Nat := 181
abbrev n54 : Nat := 54
abbrev n23 : Nat := 23
abbrev n176 : Nat := 176
abbrev n182 : Nat := 182
abbrev n116 : Nat := 116
abbrev n178 : Nat := 178
abbrev n261 : Nat := 261
abbrev n177 : Nat := 177
abbrev n180 : Nat := 180
abbrev n175 : Nat := 175
abbrev n114 : Nat := 114
abbrev n262 : Nat := 262
abbrev n264 : Nat := 264
abbrev y69 : Nat := 69
abbrev y384 : Nat := 384
abbrev SO (f : Nat) (s : Ff) : Prop := Stands Tryz.prog [3] 1000000 f s
abbrev iN (n : Nat) : AV := .int .i64 (.ofNat n)
noncomputable section
set_option maxRecDepth 100000
def S3_0 (call : CallFn) (t0 t1 t2 : AV) (H : AHeap) : R :=
 pC call n6 [] H fun t7 H =>
 pO (aUn .not t7) H fun t8 H =>
 onBool t8 (some ((.bool false), H)) (pC call n8 [t0] H fun t10 H =>
 pAdd (.str [102, 117, 110, 99, 32, 112, 40, 118, 32, 105, 110, 116, 44, 32, 119, 32, 98, 111, 111, 108, 41, 32, 98, 111, 111, 108, 32, 123, 32, 112, 114, 105, 110, 116, 32, 118, 59, 32, 114, 101, 116, 117, 114, 110, 32, 119, 59, 32, 125, 32, 102, 117, 110, 99, 32, 113, 40, 118, 32, 105, 110, 116, 41, 32, 105, 110, 116, 32, 123, 32, 112, 114, 105, 110, 116, 32, 118, 59, 32, 114, 101, 116, 117, 114, 110, 32, 118, 59, 32, 125, 32, 102, 117, 110, 99, 32, 108, 40, 118, 32, 105, 110, 116, 41, 32, 91, 93, 105, 110, 116, 32, 123, 32, 112, 114, 105, 110, 116, 32, 118, 59, 32, 114, 101, 116, 117, 114, 110, 32, 109, 97, 107, 101, 40, 91, 93, 105, 110, 116, 44, 32, 57, 41, 59, 32, 125, 32, 102, 117, 110, 99, 32, 109, 97, 105, 110, 40, 41, 32, 123, 32, 105, 102, 32, 112, 40, 49, 44, 32]) t10 H fun t11 H =>
 pAdd t11 (.str [41, 32, 38, 38, 32, 112, 40, 50, 44, 32]) H fun t12 H =>
 pC call n8 [t1] H fun t14 H =>
 pAdd t12 t14 H fun t15 H =>
 pAdd t15 (.str [41, 32, 123, 32, 112, 114, 105, 110, 116, 32, 51, 59, 32, 125, 32, 105, 102, 32, 112, 40, 52, 44, 32]) H fun t16 H =>
 pC call n8 [t0] H fun t18 H =>
 pAdd t16 t18 H fun t19 H =>
 pAdd t19 (.str [41, 32, 124, 124, 32, 112, 40, 53, 44, 32]) H fun t20 H =>
 pC call n8 [t1] H fun t22 H =>
 pAdd t20 t22 H fun t23 H =>
 pAdd t23 (.str [41, 32, 123, 32, 112, 114, 105, 110, 116, 32, 54, 59, 32, 125, 32, 108, 40, 55, 41, 91, 113, 40, 56, 41, 93, 32, 61, 32, 113, 40, 57, 41, 59, 32, 112, 114, 105, 110, 116, 32, 113, 40, 49, 48, 41, 32, 45, 32, 113, 40, 49, 49, 41, 32, 42, 32, 113, 40, 49, 50, 41, 59, 32, 125]) H fun t24 H =>
 pC call n9 [t0, t1] H fun t28 H =>
 pC call n7 [t24, (.int .i64 (.ofNat 8)), t2, (.int .i64 (.ofNat 2500)), t28, (.int .i64 (.ofNat 1)), (.int .i64 (.ofNat 0))] H fun t29 H =>
 some (t29, H))
def S3 : Ff := ⟨fun call l H => argA3 (fun t0 t1 t2 => S3_0 call t0 t1 t2 H) l⟩
def S4_0 (call : CallFn) (t0 t1 t5 : AV) (H : AHeap) : R :=
 pN (aBsl 1 3 [(.int .i64 (.ofNat 0))] [(0, 1, (.int .i64 (.ofNat 0))), (1, 1, (.int .i64 (.ofNat 0))), (2, 1, (.int .i64 (.ofNat 2)))]) H fun t26 H =>
 pW (aApp 1 8 H t5 t26) fun t27 H =>
 pC call n10 [t0] H fun t29 H =>
 pAdd (.str [102, 117, 110, 99, 32, 109, 97, 105, 110, 40, 41, 32, 123, 32, 118, 97, 114, 32, 108, 32, 91, 93, 99, 104, 97, 110, 32, 105, 110, 116, 32, 61, 32, 109, 97, 107, 101, 40, 91, 93, 99, 104, 97, 110, 32, 105, 110, 116, 44, 32, 50, 41, 59, 32, 108, 91, 49, 93, 32, 61, 32, 109, 97, 107, 101, 40, 99, 104, 97, 110, 32, 105, 110, 116, 44, 32]) t29 H fun t30 H =>
 pAdd t30 (.str [41, 59, 32, 118, 97, 114, 32, 105, 32, 105, 110, 116, 32, 61, 32, 48, 59, 32, 119, 104, 105, 108, 101, 32, 105, 32, 60, 32]) H fun t31 H =>
 pC call n10 [t0] H fun t33 H =>
 pAdd t31 t33 H fun t34 H =>
 pAdd t34 (.str [32, 123, 32, 115, 101, 110, 100, 32, 108, 91, 49, 93, 44, 32, 51, 32, 42, 32, 105, 59, 32, 105, 32, 61, 32, 105, 32, 43, 32, 49, 59, 32, 125, 32, 99, 108, 111, 115, 101, 32, 108, 91, 49, 93, 59, 32, 105, 32, 61, 32, 48, 59, 32, 119, 104, 105, 108, 101, 32, 105, 32, 60, 32]) H fun t35 H =>
 pAdd t0 (.int .i64 (.ofNat 2)) H fun t37 H =>
 pC call n10 [t37] H fun t38 H =>
 pAdd t35 t38 H fun t39 H =>
 pAdd t39 (.str [32, 123, 32, 112, 114, 105, 110, 116, 32, 114, 101, 99, 118, 40, 108, 91, 49, 93, 41, 59, 32, 105, 32, 61, 32, 105, 32, 43, 32, 49, 59, 32, 125, 32, 112, 114, 105, 110, 116, 32, 108, 101, 110, 40, 108, 41, 59, 32, 125]) H fun t40 H =>
 pC call n7 [t40, (.int .i64 (.ofNat 8)), t1, (.int .i64 (.ofNat 3000)), t27, (.int .i64 (.ofNat 1)), (.int .i64 (.ofNat 0))] H fun t43 H =>
 some (t43, H)
def S4_1 (call : CallFn) (n : Nat) : AV → AV → AV → AV → AHeap → R :=
 Nat.rec (motive := fun _ => AV → AV → AV → AV → AHeap → R) (fun _ _ _ _ _ => none) (fun _ q0 t0 t1 t5 t6 H => pLss t6 t0 H fun t17 H =>
 onBool t17 (pMul (.int .i64 (.ofNat 3)) t6 H fun t22 H =>
 pN (aBsl 1 1 [(.int .i64 (.ofNat 0))] [(0, 1, t22)]) H fun t23 H =>
 pW (aApp 1 8 H t5 t23) fun t24 H =>
 pAdd t6 (.int .i64 (.ofNat 1)) H fun t19 H =>
 q0 t0 t1 t24 t19 H) (S4_0 call t0 t1 t5 H)) n
def S4_2 (call : CallFn) (t0 t1 t11 t13 : AV) (H : AHeap) : R :=
 pPick t11 (.bool true) t13 H fun t14 H =>
 onBool t14 (some ((.bool true), H)) (S4_1 call 1000000 t0 t1 .nilsl (.int .i64 (.ofNat 0)) H)
def S4_3 (call : CallFn) (t0 t1 : AV) (H : AHeap) : R :=
 pC call n6 [] H fun t7 H =>
 pO (aUn .not t7) H fun t8 H =>
 onBool t8 (some ((.bool false), H)) (pLss t0 (.int .i64 (.ofNat 0)) H fun t10 H =>
 guardA t10 false (pGtr t0 (.int .i64 (.ofNat 12)) H fun t13 H =>
 S4_2 call t0 t1 t10 t13 H) (S4_2 call t0 t1 t10 U H))
def S4 : Ff := ⟨fun call l H => argA2 (fun t0 t1 => S4_3 call t0 t1 H) l⟩
def S5_0 (_ : CallFn) (t84 t86 : AV) (H : AHeap) : R :=
 pPick t84 t86 (.bool false) H fun t87 H =>
 some (t87, H)
def S5_1 (call : CallFn) (t1 t81 t82 : AV) (H : AHeap) : R :=
 pPick t81 t82 (.bool false) H fun t83 H =>
 guardA t83 true (pO (aUn .not t1) H fun t86 H =>
 S5_0 call t83 t86 H) (S5_0 call t83 U H)
def S5_2 (call : CallFn) (t0 t1 t8 t50 t59 : AV) (H : AHeap) : R :=
 pPick t50 t59 (.bool false) H fun t60 H =>
 onBool t60 (some ((.bool false), H)) (pFa 0 t8 H fun t61 H =>
 ldK .none H t61 fun t62 H =>
 pO (aLen .sl H t62) H fun t63 H =>
 pEql t63 (.int .i64 (.ofNat 0)) H fun t64 H =>
 onBool t64 (some ((.bool true), H)) (pFa 0 t8 H fun t65 H =>
 ldK .none H t65 fun t66 H =>
 pIa 1 t66 (.int .i64 (.ofNat 0)) H fun t67 H =>
 ldK .none H t67 fun t68 H =>
 pEql t68 (.int .i64 (.ofNat 1)) H fun t70 H =>
 onBool t70 (pO (aUn .not t0) H fun t72 H =>
 some (t72, H)) (pEql t68 (.int .i64 (.ofNat 5)) H fun t74 H =>
 onBool t74 (some (t1, H)) (pFa 0 t8 H fun t76 H =>
 ldK .none H t76 fun t77 H =>
 pIa 1 t77 (.int .i64 (.ofNat 0)) H fun t78 H =>
 ldK .none H t78 fun t79 H =>
 pEql t79 (.int .i64 (.ofNat 9)) H fun t80 H =>
 guardA t80 true (S5_1 call t1 t80 t0 H) (S5_1 call t1 t80 U H)))))
def S5_3 (call : CallFn) (t0 t1 t8 t50 t54 t58 : AV) (H : AHeap) : R :=
 guardA t50 true (pPick t54 (.bool true) t58 H fun t59 H =>
 S5_2 call t0 t1 t8 t50 t59 H) (S5_2 call t0 t1 t8 t50 U H)
def S5_4 (call : CallFn) (t0 t1 t8 t50 t54 : AV) (H : AHeap) : R :=
 guardA t54 false (pFa 0 t8 H fun t55 H =>
 ldK .none H t55 fun t56 H =>
 pO (aLen .sl H t56) H fun t57 H =>
 pNeq t57 (.int .i64 (.ofNat 2)) H fun t58 H =>
 S5_3 call t0 t1 t8 t50 t54 t58 H) (S5_3 call t0 t1 t8 t50 t54 U H)
def S5_5 (call : CallFn) (t0 t1 t8 t34 t45 : AV) (H : AHeap) : R :=
 pPick t34 (.bool true) t45 H fun t46 H =>
 onBool t46 (some ((.bool false), H)) (pFa 1 t8 H fun t47 H =>
 ldK .none H t47 fun t48 H =>
 pNeq t48 (.int .i64 (.ofNat 0)) H fun t49 H =>
 guardA t49 true (pFa 1 t8 H fun t51 H =>
 ldK .none H t51 fun t52 H =>
 pNeq t52 (.int .i64 (.ofNat 3)) H fun t53 H =>
 S5_4 call t0 t1 t8 t49 t53 H) (S5_4 call t0 t1 t8 t49 U H))
def S5_6 (call : CallFn) (t0 t1 t8 t34 t39 t44 : AV) (H : AHeap) : R :=
 guardA t34 false (pPick t39 t44 (.bool false) H fun t45 H =>
 S5_5 call t0 t1 t8 t34 t45 H) (S5_5 call t0 t1 t8 t34 U H)
def S5_7 (call : CallFn) (t0 t1 t8 t34 t39 : AV) (H : AHeap) : R :=
 guardA t39 true (pFa 0 t8 H fun t40 H =>
 ldK .none H t40 fun t41 H =>
 pIa 1 t41 (.int .i64 (.ofNat 1)) H fun t42 H =>
 ldK .none H t42 fun t43 H =>
 pNeq t43 (.int .i64 (.ofNat 8)) H fun t44 H =>
 S5_6 call t0 t1 t8 t34 t39 t44 H) (S5_6 call t0 t1 t8 t34 t39 U H)
def S5_8 (call : CallFn) (t0 t1 t8 t28 t32 : AV) (H : AHeap) : R :=
 pPick t28 (.bool true) t32 H fun t33 H =>
 guardA t33 false (pFa 0 t8 H fun t35 H =>
 ldK .none H t35 fun t36 H =>
 pO (aLen .sl H t36) H fun t37 H =>
 pEql t37 (.int .i64 (.ofNat 2)) H fun t38 H =>
 S5_7 call t0 t1 t8 t33 t38 H) (S5_7 call t0 t1 t8 t33 U H)
def S5_9 (call : CallFn) (t0 t1 t2 t7 : AV) (H : AHeap) : R :=
 pAdd t7 (.str [115, 101, 108, 101, 99, 116, 32, 123, 32, 99, 97, 115, 101, 32, 115, 101, 110, 100, 32, 99, 44, 32, 50, 32, 123, 32, 112, 114, 105, 110, 116, 32, 49, 59, 32, 125, 32, 99, 97, 115, 101, 32, 114, 101, 99, 118, 32, 118, 32, 61, 32, 100, 32, 123, 32, 112, 114, 105, 110, 116, 32, 118, 59, 32, 125, 32, 100, 101, 102, 97, 117, 108, 116, 32, 123, 32, 112, 114, 105, 110, 116, 32, 57, 59, 32, 125, 32, 125, 32, 115, 101, 108, 101, 99, 116, 32, 123, 32, 99, 97, 115, 101, 32, 114, 101, 99, 118, 32, 118, 32, 61, 32, 110, 105, 108, 40, 99, 104, 97, 110, 32, 105, 110, 116, 41, 32, 123, 32, 112, 114, 105, 110, 116, 32, 55, 59, 32, 125, 32, 100, 101, 102, 97, 117, 108, 116, 32, 123, 32, 112, 114, 105, 110, 116, 32, 56, 59, 32, 125, 32, 125, 32, 115, 101, 108, 101, 99, 116, 32, 123, 32, 99, 97, 115, 101, 32, 114, 101, 99, 118, 32, 118, 32, 61, 32, 110, 105, 108, 40, 99, 104, 97, 110, 32, 105, 110, 116, 41, 32, 123, 32, 112, 114, 105, 110, 116, 32, 55, 59, 32, 125, 32, 125, 32, 125]) H fun t19 H =>
 pC call n11 [t19, (.int .i64 (.ofNat 8)), t2, (.int .i64 (.ofNat 900))] H fun t23 H =>
 pExt t23 0 H fun t24 H =>
 pExt t23 1 H fun t25 H =>
 pNew [.nilsl, (.int .i64 (.ofNat 0)), (.int .i64 (.ofNat 0)), (.int .i64 (.ofNat 0)), (.int .i64 (.ofNat 0)), (.int .i64 (.ofNat 0)), .nilsl] H fun t8 H =>
 stK 7 H t8 t24 fun _ H =>
 pO (aUn .not t25) H fun t27 H =>
 guardA t27 false (pFa 0 t8 H fun t29 H =>
 ldK .none H t29 fun t30 H =>
 pO (aLen .sl H t30) H fun t31 H =>
 pGtr t31 (.int .i64 (.ofNat 2)) H fun t32 H =>
 S5_8 call t0 t1 t8 t27 t32 H) (S5_8 call t0 t1 t8 t27 U H)
def S5_10 (call : CallFn) (t0 t1 t2 t7 : AV) (H : AHeap) : R :=
 onBool t1 (pAdd t7 (.str [115, 101, 110, 100, 32, 100, 44, 32, 53, 59, 32]) H fun t17 H =>
 S5_9 call t0 t1 t2 t17 H) (S5_9 call t0 t1 t2 t7 H)
def S5_11 (call : CallFn) (t0 t1 t2 : AV) (H : AHeap) : R :=
 pC call n6 [] H fun t10 H =>
 pO (aUn .not t10) H fun t11 H =>
 onBool t11 (some ((.bool false), H)) (onBool t0 (pAdd (.str [102, 117, 110, 99, 32, 109, 97, 105, 110, 40, 41, 32, 123, 32, 118, 97, 114, 32, 99, 32, 99, 104, 97, 110, 32, 105, 110, 116, 32, 61, 32, 109, 97, 107, 101, 40, 99, 104, 97, 110, 32, 105, 110, 116, 44, 32, 49, 41, 59, 32, 118, 97, 114, 32, 100, 32, 99, 104, 97, 110, 32, 105, 110, 116, 32, 61, 32, 109, 97, 107, 101, 40, 99, 104, 97, 110, 32, 105, 110, 116, 44, 32, 49, 41, 59, 32]) (.str [115, 101, 110, 100, 32, 99, 44, 32, 49, 59, 32]) H fun t14 H =>
 S5_10 call t0 t1 t2 t14 H) (S5_10 call t0 t1 t2 (.str [102, 117, 110, 99, 32, 109, 97, 105, 110, 40, 41, 32, 123, 32, 118, 97, 114, 32, 99, 32, 99, 104, 97, 110, 32, 105, 110, 116, 32, 61, 32, 109, 97, 107, 101, 40, 99, 104, 97, 110, 32, 105, 110, 116, 44, 32, 49, 41, 59, 32, 118, 97, 114, 32, 100, 32, 99, 104, 97, 110, 32, 105, 110, 116, 32, 61, 32, 109, 97, 107, 101, 40, 99, 104, 97, 110, 32, 105, 110, 116, 44, 32, 49, 41, 59, 32]) H))
def S5 : Ff := ⟨fun call l H => argA3 (fun t0 t1 t2 => S5_11 call t0 t1 t2 H) l⟩
def S7_0 (_ : CallFn) (t44 t48 : AV) (H : AHeap) : R :=
 pPick t44 t48 (.bool false) H fun t49 H =>
 some (t49, H)
def S7_1 (call : CallFn) (t4 t15 t38 t42 : AV) (H : AHeap) : R :=
 pPick t38 t42 (.bool false) H fun t43 H =>
 guardA t43 true (pFa 0 t15 H fun t45 H =>
 ldK .none H t45 fun t46 H =>
 pC call n16 [t46, t4] H fun t48 H =>
 S7_0 call t43 t48 H) (S7_0 call t43 U H)
def S7_2 (call : CallFn) (t0 t1 t2 t3 t4 t5 t6 : AV) (H : AHeap) : R :=
 pC call n11 [t0, t1, t2, t3] H fun t22 H =>
 pExt t22 0 H fun t23 H =>
 pExt t22 1 H fun t24 H =>
 pNew [.nilsl, (.int .i64 (.ofNat 0)), (.int .i64 (.ofNat 0)), (.int .i64 (.ofNat 0)), (.int .i64 (.ofNat 0)), (.int .i64 (.ofNat 0)), .nilsl] H fun t15 H =>
 stK 7 H t15 t23 fun _ H =>
 pO (aUn .not t24) H fun t26 H =>
 onBool t26 (some ((.bool false), H)) (pFa 1 t15 H fun t27 H =>
 ldK .none H t27 fun t28 H =>
 pEql t28 (.int .i64 (.ofNat 0)) H fun t29 H =>
 onBool t29 (pFa 0 t15 H fun t30 H =>
 ldK .none H t30 fun t31 H =>
 pC call n17 [t31, t4] H fun t33 H =>
 some (t33, H)) (pFa 1 t15 H fun t34 H =>
 ldK .none H t34 fun t35 H =>
 pEql t35 t5 H fun t37 H =>
 guardA t37 true (pFa 2 t15 H fun t39 H =>
 ldK .none H t39 fun t40 H =>
 pEql t40 t6 H fun t42 H =>
 S7_1 call t4 t15 t37 t42 H) (S7_1 call t4 t15 t37 U H)))
def S7 : Ff := ⟨fun call l H => argA7 (fun t0 t1 t2 t3 t4 t5 t6 => S7_2 call t0 t1 t2 t3 t4 t5 t6 H) l⟩
def S8_0 (_ : CallFn) (t0 : AV) (H : AHeap) : R :=
 onBool t0 (some ((.str [116, 114, 117, 101]), H)) (some ((.str [102, 97, 108, 115, 101]), H))
def S8 : Ff := ⟨fun call l H => argA1 (fun t0 => S8_0 call t0 H) l⟩
def S9_0 (_ : CallFn) (t5 : AV) (H : AHeap) : R :=
 pN (aBsl 1 7 [(.int .i64 (.ofNat 0))] [(0, 1, (.int .i64 (.ofNat 7))), (1, 1, (.int .i64 (.ofNat 8))), (2, 1, (.int .i64 (.ofNat 9))), (3, 1, (.int .i64 (.ofNat 10))), (4, 1, (.int .i64 (.ofNat 11))), (5, 1, (.int .i64 (.ofNat 12))), (6, 1, (.int .i64 (.negSucc 121)))]) H fun t31 H =>
 pW (aApp 1 8 H t5 t31) fun t32 H =>
 some (t32, H)
def S9_1 (call : CallFn) (t5 t24 t25 : AV) (H : AHeap) : R :=
 pPick t24 (.bool true) t25 H fun t26 H =>
 onBool t26 (pN (aBsl 1 1 [(.int .i64 (.ofNat 0))] [(0, 1, (.int .i64 (.ofNat 6)))]) H fun t28 H =>
 pW (aApp 1 8 H t5 t28) fun t29 H =>
 S9_0 call t29 H) (S9_0 call t5 H)
def S9_2 (call : CallFn) (t0 t1 t5 : AV) (H : AHeap) : R :=
 guardA t0 false (S9_1 call t5 t0 t1 H) (S9_1 call t5 t0 U H)
def S9_3 (call : CallFn) (t0 t1 t5 : AV) (H : AHeap) : R :=
 pN (aBsl 1 1 [(.int .i64 (.ofNat 0))] [(0, 1, (.int .i64 (.ofNat 4)))]) H fun t16 H =>
 pW (aApp 1 8 H t5 t16) fun t17 H =>
 pO (aUn .not t0) H fun t19 H =>
 onBool t19 (pN (aBsl 1 1 [(.int .i64 (.ofNat 0))] [(0, 1, (.int .i64 (.ofNat 5)))]) H fun t21 H =>
 pW (aApp 1 8 H t17 t21) fun t22 H =>
 S9_2 call t0 t1 t22 H) (S9_2 call t0 t1 t17 H)
def S9_4 (call : CallFn) (t0 t1 : AV) (H : AHeap) : R :=
 pN (aBsl 1 1 [(.int .i64 (.ofNat 0))] [(0, 1, (.int .i64 (.ofNat 1)))]) H fun t6 H =>
 onBool t0 (pN (aBsl 1 1 [(.int .i64 (.ofNat 0))] [(0, 1, (.int .i64 (.ofNat 2)))]) H fun t9 H =>
 pW (aApp 1 8 H t6 t9) fun t10 H =>
 onBool t1 (pN (aBsl 1 1 [(.int .i64 (.ofNat 0))] [(0, 1, (.int .i64 (.ofNat 3)))]) H fun t13 H =>
 pW (aApp 1 8 H t10 t13) fun t14 H =>
 S9_3 call t0 t1 t14 H) (S9_3 call t0 t1 t10 H)) (S9_3 call t0 t1 t6 H)
def S9 : Ff := ⟨fun call l H => argA2 (fun t0 t1 => S9_4 call t0 t1 H) l⟩
def S10_0 (call : CallFn) (t0 : AV) (H : AHeap) : R :=
 pLss t0 (.int .i64 (.ofNat 0)) H fun t4 H =>
 onBool t4 (pO (aUn .neg t0) H fun t7 H =>
 pEql t0 t7 H fun t8 H =>
 onBool t8 (some ((.str [45, 57, 50, 50, 51, 51, 55, 50, 48, 51, 54, 56, 53, 52, 55, 55, 53, 56, 48, 56]), H)) (pO (aUn .neg t0) H fun t10 H =>
 pC call n10 [t10] H fun t11 H =>
 pAdd (.str [45]) t11 H fun t12 H =>
 some (t12, H))) (pLss t0 (.int .i64 (.ofNat 10)) H fun t14 H =>
 onBool t14 (pAdd t0 (.int .i64 (.ofNat 1)) H fun t17 H =>
 pO (aSliceS (.str [48, 49, 50, 51, 52, 53, 54, 55, 56, 57]) (.some t0) (.some t17)) H fun t18 H =>
 some (t18, H)) (pO (aBin .quo t0 (.int .i64 (.ofNat 10))) H fun t20 H =>
 pO (aBin .rem t0 (.int .i64 (.ofNat 10))) H fun t23 H =>
 pO (aBin .rem t0 (.int .i64 (.ofNat 10))) H fun t25 H =>
 pAdd t25 (.int .i64 (.ofNat 1)) H fun t26 H =>
 pO (aSliceS (.str [48, 49, 50, 51, 52, 53, 54, 55, 56, 57]) (.some t23) (.some t26)) H fun t27 H =>
 pC call n10 [t20] H fun t21 H =>
 pAdd t21 t27 H fun t28 H =>
 some (t28, H)))
def S10 : Ff := ⟨fun call l H => argA1 (fun t0 => S10_0 call t0 H) l⟩
def S11_0 (call : CallFn) (t1 t8 t10 t12 : AV) (H : AHeap) : R :=
 ldK (.some 6) H t10 fun t40 H =>
 pC call n14 [t40, t1, t12] H fun t43 H =>
 pExt t43 0 H fun t44 H =>
 pExt t43 1 H fun t45 H =>
 pNew [.nilsl, (.int .i64 (.ofNat 0)), (.int .i64 (.ofNat 0)), (.int .i64 (.ofNat 0)), (.int .i64 (.ofNat 0)), (.int .i64 (.ofNat 0)), .nilsl] H fun t14 H =>
 stK 7 H t14 t44 fun _ H =>
 ldK (.some 7) H t14 fun t46 H =>
 pEql t45 (.int .i64 (.ofNat 0)) H fun t48 H =>
 stK 7 H t8 t46 fun _ H =>
 ob (allM (fun o => o) [aLoad (.some 7) H t8, some t48]) fun vs => some (resV vs, H)
def S11_1 (call : CallFn) (n : Nat) : AV → AV → AV → AV → AV → AV → AV → AHeap → R :=
 Nat.rec (motive := fun _ => AV → AV → AV → AV → AV → AV → AV → AHeap → R) (fun _ _ _ _ _ _ _ _ => none) (fun _ q0 t1 t2 t3 t8 t10 t12 t13 H => pLss t13 t3 H fun t27 H =>
 onBool t27 (pMul (.int .u32 (.ofNat 1664525)) t2 H fun t31 H =>
 pAdd t31 (.int .u32 (.ofNat 1013904223)) H fun t32 H =>
 pO (aBin .shr t32 (.int .u64 (.ofNat 8))) H fun t35 H =>
 pConv .i64 t35 H fun t36 H =>
 pN (aBsl 1 1 [(.int .i64 (.ofNat 0))] [(0, 1, t36)]) H fun t37 H =>
 pW (aApp 1 8 H t12 t37) fun t38 H =>
 pAdd t13 (.int .i64 (.ofNat 1)) H fun t29 H =>
 q0 t1 t32 t3 t8 t10 t38 t29 H) (S11_0 call t1 t8 t10 t12 H)) n
def S11_2 (call : CallFn) (t0 t1 t2 t3 : AV) (H : AHeap) : R :=
 pNew [.nilsl, (.int .i64 (.ofNat 0)), (.int .i64 (.ofNat 0)), (.int .i64 (.ofNat 0)), (.int .i64 (.ofNat 0)), (.int .i64 (.ofNat 0)), .nilsl] H fun t8 H =>
 pC call n12 [t0] H fun t18 H =>
 pExt t18 0 H fun t19 H =>
 pExt t18 1 H fun t20 H =>
 pNew [.nilsl, .nilsl, .nilsl, .nilsl, .nilsl, (.int .i64 (.ofNat 0))] H fun t10 H =>
 pNew [(.int .i64 (.ofNat 0)), (.int .i64 (.ofNat 0))] H fun t11 H =>
 stK 6 H t10 t19 fun _ H =>
 stK 2 H t11 t20 fun _ H =>
 pFa 0 t11 H fun t21 H =>
 ldK .none H t21 fun t22 H =>
 pNeq t22 (.int .i64 (.ofNat 0)) H fun t23 H =>
 onBool t23 (pO (someAgg (aFill [.nilsl, (.int .i64 (.ofNat 0)), (.int .i64 (.ofNat 0)), (.int .i64 (.ofNat 0)), (.int .i64 (.ofNat 0)), (.int .i64 (.ofNat 0)), .nilsl] [])) H fun t24 H =>
 stK 7 H t8 t24 fun _ H =>
 ob (allM (fun o => o) [aLoad (.some 7) H t8, some (.bool false)]) fun vs => some (resV vs, H)) (S11_1 call 1000000 t1 t2 t3 t8 t10 .nilsl (.int .i64 (.ofNat 0)) H)
def S11 : Ff := ⟨fun call l H => argA4 (fun t0 t1 t2 t3 => S11_2 call t0 t1 t2 t3 H) l⟩
def S14_0 (call : CallFn) (t6 t8 t10 : AV) (H : AHeap) : R :=
 pC call n25 [t8, t10] H fun t38 H =>
 stK 7 H t6 t38 fun _ H =>
 ob (allM (fun o => o) [aLoad (.some 7) H t6, some (.int .i64 (.ofNat 0))]) fun vs => some (resV vs, H)
def S14_1 (call : CallFn) (n : Nat) : AV → AV → AV → AV → AV → AV → AHeap → R :=
 Nat.rec (motive := fun _ => AV → AV → AV → AV → AV → AV → AHeap → R) (fun _ _ _ _ _ _ _ => none) (fun _ q0 t6 t8 t10 t23 t24 t25 H => pLss t25 t24 H fun t26 H =>
 onBool t26 (pIa 1 t23 t25 H fun t27 H =>
 ldK .none H t27 fun t28 H =>
 pC call n24 [t8, t28] H fun t31 H =>
 pO (aUn .not t31) H fun t32 H =>
 onBool t32 (S14_0 call t6 t8 t10 H) (pAdd t10 (.int .i64 (.ofNat 1)) H fun t34 H =>
 pAdd t25 (.int .i64 (.ofNat 1)) H fun t35 H =>
 q0 t6 t8 t34 t23 t24 t35 H)) (S14_0 call t6 t8 t10 H)) n
def S14_2 (call : CallFn) (t0 t1 t2 : AV) (H : AHeap) : R :=
 pBox t0 H fun t3 H =>
 pNew [.nilsl, (.int .i64 (.ofNat 0)), (.int .i64 (.ofNat 0)), (.int .i64 (.ofNat 0)), (.int .i64 (.ofNat 0)), (.int .i64 (.ofNat 0)), .nilsl] H fun t6 H =>
 ldK (.some 6) H t3 fun t14 H =>
 pC call n23 [t14, t1] H fun t16 H =>
 pExt t16 0 H fun t17 H =>
 pExt t16 1 H fun t18 H =>
 pNeq t18 (.int .i64 (.ofNat 0)) H fun t20 H =>
 onBool t20 (pO (someAgg (aFill [.nilsl, (.int .i64 (.ofNat 0)), (.int .i64 (.ofNat 0)), (.int .i64 (.ofNat 0)), (.int .i64 (.ofNat 0)), (.int .i64 (.ofNat 0)), .nilsl] [])) H fun t21 H =>
 stK 7 H t6 t21 fun _ H =>
 ob (allM (fun o => o) [aLoad (.some 7) H t6, some t18]) fun vs => some (resV vs, H)) (pO (aLen .sl H t2) H fun t24 H =>
 S14_1 call 1000000 t6 t17 (.int .i64 (.ofNat 0)) t2 t24 (.int .i64 (.ofNat 0)) H)
def S14 : Ff := ⟨fun call l H => argA3 (fun t0 t1 t2 => S14_2 call t0 t1 t2 H) l⟩
def S16_0 (_ : CallFn) (n : Nat) : AV → AV → AV → AHeap → R :=
 Nat.rec (motive := fun _ => AV → AV → AV → AHeap → R) (fun _ _ _ _ => none) (fun _ q0 t0 t1 t5 H => pO (aLen .sl H t0) H fun t13 H =>
 pLss t5 t13 H fun t14 H =>
 onBool t14 (pIa 1 t0 t5 H fun t19 H =>
 ldK .none H t19 fun t20 H =>
 pIa 1 t1 t5 H fun t23 H =>
 ldK .none H t23 fun t24 H =>
 pNeq t20 t24 H fun t25 H =>
 onBool t25 (some ((.bool false), H)) (pAdd t5 (.int .i64 (.ofNat 1)) H fun t16 H =>
 q0 t0 t1 t16 H)) (some ((.bool true), H))) n
def S16_1 (call : CallFn) (t0 t1 : AV) (H : AHeap) : R :=
 pO (aLen .sl H t0) H fun t7 H =>
 pO (aLen .sl H t1) H fun t9 H =>
 pNeq t7 t9 H fun t10 H =>
 onBool t10 (some ((.bool false), H)) (S16_0 call 1000000 t0 t1 (.int .i64 (.ofNat 0)) H)
def S16 : Ff := ⟨fun call l H => argA2 (fun t0 t1 => S16_1 call t0 t1 H) l⟩
def S17_0 (_ : CallFn) (t10 t16 : AV) (H : AHeap) : R :=
 pPick t10 t16 (.bool false) H fun t17 H =>
 some (t17, H)
def S17_1 (call : CallFn) (t0 t1 : AV) (H : AHeap) : R :=
 pO (aLen .sl H t0) H fun t6 H =>
 pO (aLen .sl H t1) H fun t8 H =>
 pLeq t6 t8 H fun t9 H =>
 guardA t9 true (pO (aLen .sl H t0) H fun t14 H =>
 pO (aSlice 1 H t1 .none (.some t14) .none) H fun t15 H =>
 pC call n16 [t0, t15] H fun t16 H =>
 S17_0 call t9 t16 H) (S17_0 call t9 U H)
def S17 : Ff := ⟨fun call l H => argA2 (fun t0 t1 => S17_1 call t0 t1 H) l⟩
def S24_0 (call : CallFn) (t0 t1 : AV) (H : AHeap) : R :=
 pC call n56 [t0] H fun t25 H =>
 pO (aLen .sl H t25) H fun t28 H =>
 pAdd t28 (.int .i64 (.ofNat 1)) H fun t29 H =>
 pO (aBin .rem t1 t29) H fun t30 H =>
 pO (aLen .sl H t25) H fun t33 H =>
 pEql t30 t33 H fun t34 H =>
 onBool t34 (pC call n57 [t0] H fun t36 H =>
 some (t36, H)) (pIa 1 t25 t30 H fun t40 H =>
 ldK .none H t40 fun t41 H =>
 pO (aLen .sl H t25) H fun t44 H =>
 pAdd t44 (.int .i64 (.ofNat 1)) H fun t45 H =>
 pO (aBin .quo t1 t45) H fun t46 H =>
 pIa 1 t25 t30 H fun t50 H =>
 ldK .none H t50 fun t51 H =>
 pC call n59 [t0, t51] H fun t52 H =>
 andR (andB (ckV (aLoad .none H t40) t41) (andB (ckV (aLen .sl H t25) t44) true)) (
 pO (aBin .rem t46 t52) H fun t53 H =>
 pC call n58 [t0, t41, t53] H fun t54 H =>
 some (t54, H)))
def S24_1 (call : CallFn) (t0 t1 : AV) (H : AHeap) : R :=
 pC call n55 [t0] H fun t11 H =>
 pExt t11 0 H fun t12 H =>
 pExt t11 1 H fun _ H =>
 pNeq t12 (.int .i64 (.ofNat 0)) H fun t15 H =>
 onBool t15 (some ((.bool false), H)) (pEql t1 (.int .i64 (.negSucc 9223372036854775807)) H fun t18 H =>
 onBool t18 (S24_0 call t0 (.int .i64 (.ofNat 0)) H) (pLss t1 (.int .i64 (.ofNat 0)) H fun t21 H =>
 onBool t21 (pO (aUn .neg t1) H fun t23 H =>
 S24_0 call t0 t23 H) (S24_0 call t0 t1 H)))
def S24 : Ff := ⟨fun call l H => argA2 (fun t0 t1 => S24_1 call t0 t1 H) l⟩
def S25_0 (call : CallFn) (t0 t1 : AV) (H : AHeap) : R :=
 pNew [.nilsl, (.int .i64 (.ofNat 0)), (.int .i64 (.ofNat 0)), (.int .i64 (.ofNat 0)), (.int .i64 (.ofNat 0)), (.int .i64 (.ofNat 0)), .nilsl] H fun t4 H =>
 pC call n55 [t0] H fun t9 H =>
 pExt t9 0 H fun t10 H =>
 pExt t9 1 H fun t11 H =>
 pC call n60 [t0] H fun t13 H =>
 pC call n61 [t0] H fun t18 H =>
 pC call n62 [t18] H fun t19 H =>
 pC call n63 [t19] H fun t20 H =>
 pC call n61 [t0] H fun t22 H =>
 pC call n64 [t22] H fun t23 H =>
 pC call n65 [t0] H fun t25 H =>
 pO (someAgg (aFill [.nilsl, (.int .i64 (.ofNat 0)), (.int .i64 (.ofNat 0)), (.int .i64 (.ofNat 0)), (.int .i64 (.ofNat 0)), (.int .i64 (.ofNat 0)), .nilsl] [(0, 1, t13), (1, 1, t10), (2, 1, t11), (3, 1, t1), (4, 1, t20), (5, 1, t23), (6, 1, t25)])) H fun t26 H =>
 stK 7 H t4 t26 fun _ H =>
 ob (allM (fun o => o) [aLoad (.some 7) H t4]) fun vs => some (resV vs, H)
def S25 : Ff := ⟨fun call l H => argA2 (fun t0 t1 => S25_0 call t0 t1 H) l⟩
def S29_0 (_ : CallFn) (t5 t9 : AV) (H : AHeap) : R :=
 pPick t5 t9 (.bool false) H fun t10 H =>
 some (t10, H)
def S29_1 (call : CallFn) (t0 : AV) (H : AHeap) : R :=
 pBox t0 H fun t1 H =>
 ldK (.some 4) H t1 fun t3 H =>
 pC call n72 [t3] H fun t4 H =>
 guardA t4 true (pFa 3 t1 H fun t6 H =>
 ldK .none H t6 fun t7 H =>
 pC call n73 [t7, (.fn n74 [] [])] H fun t8 H =>
 pO (aUn .not t8) H fun t9 H =>
 S29_0 call t4 t9 H) (S29_0 call t4 U H)
def S29 : Ff := ⟨fun call l H => argA1 (fun t0 => S29_1 call t0 H) l⟩
def S31_0 (call : CallFn) (n : Nat) : AV → AV → AV → AV → AHeap → R :=
 Nat.rec (motive := fun _ => AV → AV → AV → AV → AHeap → R) (fun _ _ _ _ _ => none) (fun _ q0 t0 t23 t24 t25 H => pLss t25 t24 H fun t26 H =>
 onBool t26 (pIa 4 t23 t25 H fun t27 H =>
 ldK (.some 4) H t27 fun t28 H =>
 pNew [(.str []), (.str []), (iN 0), .nilsl] H fun t7 H =>
 stK 4 H t7 t28 fun _ H =>
 ldK (.some 4) H t7 fun t30 H =>
 pC call n31 [t0, t30] H fun _ H =>
 pAdd t25 (iN 1) H fun t32 H =>
 q0 t0 t23 t24 t32 H) (some (.tup [], H))) n
def S31_1 (call : CallFn) (t0 t3 : AV) (H : AHeap) : R :=
 pFa 3 t3 H fun t22 H =>
 ldK .none H t22 fun t23 H =>
 pO (aLen .sl H t23) H fun t24 H =>
 S31_0 call 1000000 t0 t23 t24 (iN 0) H
def S31_2 (call : CallFn) (t0 t1 : AV) (H : AHeap) : R :=
 pBox t1 H fun t3 H =>
 pFa 0 t3 H fun t8 H =>
 ldK .none H t8 fun t9 H =>
 pEql t9 (.str [110, 97, 109, 101, 100]) H fun t10 H =>
 onBool t10 (pFa 1 t3 H fun t13 H =>
 ldK .none H t13 fun t14 H =>
 pC call n32 [t0, (.str [115, 116, 114, 117, 99, 116]), t14] H fun t15 H =>
 pExt t15 0 H fun t16 H =>
 pExt t15 1 H fun t17 H =>
 pNew [(.str []), (.str []), (iN 0), .nilsl] H fun t4 H =>
 stK 4 H t4 t16 fun _ H =>
 ldK (.some 4) H t3 fun t20 H =>
 pC call n33 [t0, t17, t20] H fun _ H =>
 S31_1 call t0 t3 H) (S31_1 call t0 t3 H)
def S31 : Ff := ⟨fun call l H => argA2 (fun t0 t1 => S31_2 call t0 t1 H) l⟩
def S32_0 (call : CallFn) (t0 t1 t2 : AV) (H : AHeap) : R :=
 pBox t1 H fun t4 H =>
 pBox t2 H fun t5 H =>
 pNew [(.str []), (.str []), (iN 0), .nilsl] H fun t6 H =>
 pO (aNil t0) H fun t10 H =>
 pFa 0 t10 H fun t11 H =>
 pFa 3 t11 H fun t12 H =>
 ldK .none H t12 fun t13 H =>
 pC call n75 [t13, (.fn n76 [] [t4, t5])] H fun t15 H =>
 pLss t15 (iN 0) H fun t17 H =>
 onBool t17 (pO (someAgg (aFill [(.str []), (.str []), (iN 0), .nilsl] [])) H fun t18 H =>
 stK 4 H t6 t18 fun _ H =>
 ob (allM (fun o => o) [aLoad (.some 4) H t6, some (.bool false)]) fun vs => some (resV vs, H)) (pO (aNil t0) H fun t20 H =>
 pFa 0 t20 H fun t21 H =>
 pFa 3 t21 H fun t22 H =>
 ldK .none H t22 fun t23 H =>
 pIa 4 t23 t15 H fun t25 H =>
 ldK (.some 4) H t25 fun t26 H =>
 stK 4 H t6 t26 fun _ H =>
 ob (allM (fun o => o) [aLoad (.some 4) H t6, some (.bool true)]) fun vs => some (resV vs, H))
def S32 : Ff := ⟨fun call l H => argA3 (fun t0 t1 t2 => S32_0 call t0 t1 t2 H) l⟩
def S33_0 (call : CallFn) (t0 t1 t2 : AV) (H : AHeap) : R :=
 pBox t2 H fun t5 H =>
 pO (aUn .not t1) H fun t7 H =>
 onBool t7 (pFa 2 t5 H fun t9 H =>
 ldK .none H t9 fun t10 H =>
 pC call n77 [t0, t10] H fun _ H =>
 some (.tup [], H)) (some (.tup [], H))
def S33 : Ff := ⟨fun call l H => argA3 (fun t0 t1 t2 => S33_0 call t0 t1 t2 H) l⟩
def S36_1 (_ : CallFn) (q0 : AV → AV → AV → AV → AV → AHeap → R) (t1 t5 t12 t13 t14 : AV) (H : AHeap) : R :=
 pAdd t14 (iN 1) H fun t26 H =>
 q0 t1 t5 t12 t13 t26 H
def S36_0 (call : CallFn) (n : Nat) : AV → AV → AV → AV → AV → AHeap → R :=
 Nat.rec (motive := fun _ => AV → AV → AV → AV → AV → AHeap → R) (fun _ _ _ _ _ _ => none) (fun _ q0 t1 t5 t12 t13 t14 H => pLss t14 t13 H fun t15 H =>
 onBool t15 (pIa 4 t12 t14 H fun t16 H =>
 ldK (.some 4) H t16 fun t17 H =>
 pNew [(.str []), (.str []), (iN 0), .nilsl] H fun t7 H =>
 stK 4 H t7 t17 fun _ H =>
 pFa 0 t7 H fun t18 H =>
 ldK .none H t18 fun t19 H =>
 pEql t19 t1 H fun t21 H =>
 onBool t21 (ldK (.some 4) H t7 fun t23 H =>
 pN (aBsl 4 1 [(.str []), (.str []), (iN 0), .nilsl] [(0, 4, t23)]) H fun t24 H =>
 pW (aApp 4 64 H t5 t24) fun t25 H =>
 S36_1 call q0 t1 t25 t12 t13 t14 H) (S36_1 call q0 t1 t5 t12 t13 t14 H)) (some (t5, H))) n
def S36_2 (call : CallFn) (t0 t1 : AV) (H : AHeap) : R :=
 pO (aNil t0) H fun t9 H =>
 pFa 0 t9 H fun t10 H =>
 pFa 3 t10 H fun t11 H =>
 ldK .none H t11 fun t12 H =>
 pO (aLen .sl H t12) H fun t13 H =>
 S36_0 call 1000000 t1 .nilsl t12 t13 (iN 0) H
def S36 : Ff := ⟨fun call l H => argA2 (fun t0 t1 => S36_2 call t0 t1 H) l⟩
def S54_0 (_ : CallFn) (t0 t7 t18 : AV) (H : AHeap) : R :=
 pPick t7 t18 (.bool false) H fun t19 H =>
 onBool t19 (pO (aNil t0) H fun t21 H =>
 pFa 11 t21 H fun t22 H =>
 stK 1 H t22 (iN 3) fun _ H =>
 some (.tup [], H)) (some (.tup [], H))
def S54_1 (call : CallFn) (t0 t7 t17 : AV) (H : AHeap) : R :=
 guardA t7 true (pEql t17 (iN 0) H fun t18 H =>
 S54_0 call t0 t7 t18 H) (S54_0 call t0 t7 U H)
def S54_2 (call : CallFn) (t0 t7 t16 : AV) (H : AHeap) : R :=
 guardA t7 true (pO (aLen .sl H t16) H fun t17 H =>
 S54_1 call t0 t7 t17 H) (S54_1 call t0 t7 U H)
def S54_3 (call : CallFn) (t0 t7 t11 t15 : AV) (H : AHeap) : R :=
 guardA t7 true (pC call n107 [t11, t15] H fun t16 H =>
 S54_2 call t0 t7 t16 H) (S54_2 call t0 t7 U H)
def S54_4 (call : CallFn) (t0 t7 t11 t14 : AV) (H : AHeap) : R :=
 guardA t7 true (ldK .none H t14 fun t15 H =>
 S54_3 call t0 t7 t11 t15 H) (S54_3 call t0 t7 t11 U H)
def S54_5 (call : CallFn) (t0 t7 t11 t13 : AV) (H : AHeap) : R :=
 guardA t7 true (pFa 6 t13 H fun t14 H =>
 S54_4 call t0 t7 t11 t14 H) (S54_4 call t0 t7 t11 U H)
def S54_6 (call : CallFn) (t0 t7 t11 t12 : AV) (H : AHeap) : R :=
 guardA t7 true (pO (aNil t12) H fun t13 H =>
 S54_5 call t0 t7 t11 t13 H) (S54_5 call t0 t7 t11 U H)
def S54_7 (call : CallFn) (t0 t7 t11 : AV) (H : AHeap) : R :=
 guardA t7 true (S54_6 call t0 t7 t11 t0 H) (S54_6 call t0 t7 t11 U H)
def S54_8 (call : CallFn) (t0 t7 t10 : AV) (H : AHeap) : R :=
 guardA t7 true (ldK .none H t10 fun t11 H =>
 S54_7 call t0 t7 t11 H) (S54_7 call t0 t7 U H)
def S54_9 (call : CallFn) (t0 t7 t9 : AV) (H : AHeap) : R :=
 guardA t7 true (pFa 7 t9 H fun t10 H =>
 S54_8 call t0 t7 t10 H) (S54_8 call t0 t7 U H)
def S54_10 (call : CallFn) (t0 t7 t8 : AV) (H : AHeap) : R :=
 guardA t7 true (pO (aNil t8) H fun t9 H =>
 S54_9 call t0 t7 t9 H) (S54_9 call t0 t7 U H)
def S54_11 (call : CallFn) (t0 : AV) (H : AHeap) : R :=
 pO (aNil t0) H fun t3 H =>
 pFa 11 t3 H fun t4 H =>
 ldK .none H t4 fun t5 H =>
 pEql t5 (iN 0) H fun t6 H =>
 guardA t6 true (S54_10 call t0 t6 t0 H) (S54_10 call t0 t6 U H)
def S54 : Ff := ⟨fun call l H => argA1 (fun t0 => S54_11 call t0 H) l⟩
def S55_0 (_ : CallFn) (t0 : AV) (H : AHeap) : R :=
 pO (aNil t0) H fun t5 H =>
 pFa 11 t5 H fun t6 H =>
 ldK .none H t6 fun t7 H =>
 pO (aNil t0) H fun t9 H =>
 pFa 12 t9 H fun t10 H =>
 ldK .none H t10 fun t11 H =>
 some (.tup [t7, t11], H)
def S55 : Ff := ⟨fun call l H => argA1 (fun t0 => S55_0 call t0 H) l⟩
def S56_0 (call : CallFn) (t0 : AV) (H : AHeap) : R :=
 pO (aNil t0) H fun t4 H =>
 pFa 11 t4 H fun t5 H =>
 ldK .none H t5 fun t6 H =>
 pNeq t6 (iN 0) H fun t7 H =>
 onBool t7 (some (.nilsl, H)) (pO (aNil t0) H fun t9 H =>
 pFa 7 t9 H fun t10 H =>
 ldK .none H t10 fun t11 H =>
 pO (aNil t0) H fun t13 H =>
 pFa 6 t13 H fun t14 H =>
 ldK .none H t14 fun t15 H =>
 pC call n107 [t11, t15] H fun t16 H =>
 some (t16, H))
def S56 : Ff := ⟨fun call l H => argA1 (fun t0 => S56_0 call t0 H) l⟩
def S57_0 (call : CallFn) (t0 : AV) (H : AHeap) : R :=
 pO (aNil t0) H fun t5 H =>
 pFa 11 t5 H fun t6 H =>
 ldK .none H t6 fun t7 H =>
 pNeq t7 (iN 0) H fun t8 H =>
 onBool t8 (some ((.bool false), H)) (pO (aNil t0) H fun t10 H =>
 pFa 6 t10 H fun t11 H =>
 ldK .none H t11 fun t12 H =>
 pC call n62 [t12] H fun t13 H =>
 pC call n108 [t13, (.iface y69 t0)] H fun t17 H =>
 pO (aUn .not t17) H fun t18 H =>
 onBool t18 (pC call n109 [t13, (.iface y69 t0)] H fun _ H =>
 some ((.bool true), H)) (some ((.bool true), H)))
def S57 : Ff := ⟨fun call l H => argA1 (fun t0 => S57_0 call t0 H) l⟩
def S58_0 (call : CallFn) (t0 : AV) (H : AHeap) : R :=
 pC call n54 [t0] H fun _ H =>
 some ((.bool true), H)
def S58_1 (call : CallFn) (t0 t1 t2 t7 t9 t11 t82 t87 : AV) (H : AHeap) : R :=
 pPick t82 t87 (.bool false) H fun t88 H =>
 onBool t88 (pO (aNil t0) H fun t91 H =>
 pFa 10 t91 H fun t92 H =>
 ldK .none H t92 fun t93 H =>
 pFa 0 t9 H fun t95 H =>
 ldK .none H t95 fun t96 H =>
 pFa 0 t11 H fun t97 H =>
 ldK .none H t97 fun t98 H =>
 pFa 1 t11 H fun t99 H =>
 ldK .none H t99 fun t100 H =>
 pIa 3 t7 t2 H fun t103 H =>
 ldK (.some 3) H t103 fun t104 H =>
 pO (someAgg (aFill [(iN 0), (iN 0), (iN 0), (iN 0), (iN 0), (iN 0), (iN 0)] [(0, 1, t1), (1, 1, t96), (2, 1, t98), (3, 1, t100), (4, 3, t104)])) H fun t105 H =>
 pN (aBsl 7 1 [(iN 0), (iN 0), (iN 0), (iN 0), (iN 0), (iN 0), (iN 0)] [(0, 7, t105)]) H fun t106 H =>
 pW (aApp 7 56 H t93 t106) fun t107 H =>
 pO (aNil t0) H fun t108 H =>
 pFa 10 t108 H fun t109 H =>
 stK 1 H t109 t107 fun _ H =>
 S58_0 call t0 H) (S58_0 call t0 H)
def S58_2 (call : CallFn) (t0 t1 t2 t7 t9 t11 t75 t80 : AV) (H : AHeap) : R :=
 pPick t75 t80 (.bool false) H fun t81 H =>
 guardA t81 true (pO (aNil t0) H fun t84 H =>
 pFa 11 t84 H fun t85 H =>
 ldK .none H t85 fun t86 H =>
 pNeq t86 (iN 4) H fun t87 H =>
 S58_1 call t0 t1 t2 t7 t9 t11 t81 t87 H) (S58_1 call t0 t1 t2 t7 t9 t11 t81 U H)
def S58_3 (call : CallFn) (t0 t1 t2 t7 t20 t24 : AV) (H : AHeap) : R :=
 pPick t20 (.bool true) t24 H fun t25 H =>
 onBool t25 (some ((.bool false), H)) (pO (aNil t0) H fun t27 H =>
 pFa 7 t27 H fun t28 H =>
 ldK .none H t28 fun t29 H =>
 pC call n111 [t29, t1] H fun t31 H =>
 pO (aNil t0) H fun t35 H =>
 pFa 0 t35 H fun t36 H =>
 ldK (.some 6) H t36 fun t37 H =>
 pC call n112 [t31, t37] H fun t38 H =>
 pExt t38 0 H fun t39 H =>
 pExt t38 1 H fun _ H =>
 pNew [(iN 0), (iN 0), (iN 0), (iN 0), (iN 0)] H fun t9 H =>
 stK 5 H t9 t39 fun _ H =>
 pC call n113 [t31] H fun t43 H =>
 pExt t43 0 H fun t44 H =>
 pExt t43 1 H fun _ H =>
 pNew [(iN 0), (iN 0), .nilsl] H fun t11 H =>
 stK 3 H t11 t44 fun _ H =>
 pFa 0 t9 H fun t46 H =>
 ldK .none H t46 fun t47 H =>
 pC call n115 [t31] H fun t49 H =>
 andR (andB (ckV (aLoad .none H t46) t47) true) (
 pC call n114 [t47, t49] H fun t50 H =>
 ldK (.some 5) H t9 fun t54 H =>
 pO (aNil t0) H fun t56 H =>
 pFa 0 t56 H fun t57 H =>
 pFa 4 t57 H fun t58 H =>
 ldK .none H t58 fun t59 H =>
 pFa 0 t11 H fun t60 H =>
 ldK .none H t60 fun t61 H =>
 pIa 7 t59 t61 H fun t62 H =>
 ldK (.some 7) H t62 fun t63 H =>
 pFa 1 t11 H fun t64 H =>
 ldK .none H t64 fun t65 H =>
 pIa 3 t7 t2 H fun t68 H =>
 ldK (.some 3) H t68 fun t69 H =>
 pO (someAgg (aFill [.nilp, (iN 0), .nilp, (iN 0), (iN 0), (iN 0), (iN 0), (iN 0), (iN 0), (iN 0), (iN 0), (iN 0), .nilsl, .nilsl, .nilsl, (iN 0), (iN 0), (iN 0), (iN 0)] [(0, 1, t0), (1, 1, t1), (2, 1, t31), (3, 5, t54), (8, 7, t63), (15, 1, t65), (16, 3, t69)])) H fun t70 H =>
 pBox t70 H fun t71 H =>
 pC call n116 [t71] H fun _ H =>
 guardA t50 true (pO (aNil t0) H fun t77 H =>
 pFa 11 t77 H fun t78 H =>
 ldK .none H t78 fun t79 H =>
 pNeq t79 (iN 2) H fun t80 H =>
 S58_2 call t0 t1 t2 t7 t9 t11 t50 t80 H) (S58_2 call t0 t1 t2 t7 t9 t11 t50 U H)))
def S58_4 (call : CallFn) (t0 t1 t2 : AV) (H : AHeap) : R :=
 pC call n110 [t0, t1] H fun t17 H =>
 pLss t2 (iN 0) H fun t19 H =>
 guardA t19 false (pO (aLen .sl H t17) H fun t23 H =>
 pGeq t2 t23 H fun t24 H =>
 S58_3 call t0 t1 t2 t17 t19 t24 H) (S58_3 call t0 t1 t2 t17 t19 U H)
def S58 : Ff := ⟨fun call l H => argA3 (fun t0 t1 t2 => S58_4 call t0 t1 t2 H) l⟩
def S59_0 (call : CallFn) (t0 t1 : AV) (H : AHeap) : R :=
 pC call n110 [t0, t1] H fun t7 H =>
 pO (aLen .sl H t7) H fun t8 H =>
 some (t8, H)
def S59 : Ff := ⟨fun call l H => argA2 (fun t0 t1 => S59_0 call t0 t1 H) l⟩
def S62_0 (_ : CallFn) (t0 : AV) (H : AHeap) : R :=
 pO (aNil t0) H fun t4 H =>
 pFa 0 t4 H fun t5 H =>
 ldK .none H t5 fun t6 H =>
 some (t6, H)
def S62 : Ff := ⟨fun call l H => argA1 (fun t0 => S62_0 call t0 H) l⟩
def S67_1 (call : CallFn) (q0 : AV → AV → AHeap → R) (t0 t3 t24 t26 : AV) (H : AHeap) : R :=
 pPick t24 (.bool true) t26 H fun t27 H =>
 onBool t27 (pAdd t3 (iN 1) H fun t29 H =>
 q0 t0 t29 H) (pO (aSliceS t0 (.some t3) .none) H fun t33 H =>
 pC call n122 [t33, (.str [47, 47])] H fun t34 H =>
 onBool t34 (pO (aSliceS t0 (.some t3) .none) H fun t38 H =>
 pC call n123 [t38, (.fn n124 [] [])] H fun t39 H =>
 pAdd t3 t39 H fun t40 H =>
 q0 t0 t40 H) (some (t3, H)))
def S67_2 (call : CallFn) (q0 : AV → AV → AHeap → R) (t0 t3 t4 t20 t22 : AV) (H : AHeap) : R :=
 pPick t20 (.bool true) t22 H fun t23 H =>
 guardA t23 false (pEql t4 (.int .u8 (.ofNat 13)) H fun t26 H =>
 S67_1 call q0 t0 t3 t23 t26 H) (S67_1 call q0 t0 t3 t23 U H)
def S67_3 (call : CallFn) (q0 : AV → AV → AHeap → R) (t0 t3 t4 t16 t18 : AV) (H : AHeap) : R :=
 pPick t16 (.bool true) t18 H fun t19 H =>
 guardA t19 false (pEql t4 (.int .u8 (.ofNat 10)) H fun t22 H =>
 S67_2 call q0 t0 t3 t4 t19 t22 H) (S67_2 call q0 t0 t3 t4 t19 U H)
def S67_0 (call : CallFn) (n : Nat) : AV → AV → AHeap → R :=
 Nat.rec (motive := fun _ => AV → AV → AHeap → R) (fun _ _ _ => none) (fun _ q0 t0 t3 H => pO (aLen .str H t0) H fun t7 H =>
 pLss t3 t7 H fun t8 H =>
 onBool t8 (pO (aIdxS t0 t3) H fun t11 H =>
 pEql t11 (.int .u8 (.ofNat 32)) H fun t15 H =>
 guardA t15 false (pEql t11 (.int .u8 (.ofNat 9)) H fun t18 H =>
 S67_3 call q0 t0 t3 t11 t15 t18 H) (S67_3 call q0 t0 t3 t11 t15 U H)) (some (t3, H))) n
def S67 : Ff := ⟨fun call l H => argA1 (fun t0 => S67_0 call 1000000 t0 (iN 0) H) l⟩
def S68_0 (_ : CallFn) (t2 : AV) (H : AHeap) : R :=
 pO (someAgg (aFill [(iN 0), (.str []), (iN 0)] [])) H fun t63 H =>
 stK 3 H t2 t63 fun _ H =>
 ob (allM (fun o => o) [aLoad (.some 3) H t2]) fun vs => some (resV vs, H)
def S68_1 (call : CallFn) (n : Nat) : AV → AV → AV → AV → AV → AHeap → R :=
 Nat.rec (motive := fun _ => AV → AV → AV → AV → AV → AHeap → R) (fun _ _ _ _ _ _ => none) (fun _ q0 t0 t2 t51 t52 t53 H => pLss t53 t52 H fun t54 H =>
 onBool t54 (pIa 1 t51 t53 H fun t55 H =>
 ldK .none H t55 fun t56 H =>
 pC call n122 [t0, t56] H fun t59 H =>
 onBool t59 (pO (someAgg (aFill [(iN 0), (.str []), (iN 0)] [(0, 1, (iN 4)), (1, 1, t56)])) H fun t61 H =>
 stK 3 H t2 t61 fun _ H =>
 ob (allM (fun o => o) [aLoad (.some 3) H t2]) fun vs => some (resV vs, H)) (pAdd t53 (iN 1) H fun t62 H =>
 q0 t0 t2 t51 t52 t62 H)) (S68_0 call t2 H)) n
def S68_2 (_ : CallFn) (t2 t3 : AV) (H : AHeap) : R :=
 pFa 1 t3 H fun t22 H =>
 ldK .none H t22 fun t23 H =>
 pO (aLen .str H t23) H fun t24 H =>
 pGtr t24 (iN 64) H fun t25 H =>
 onBool t25 (pO (someAgg (aFill [(iN 0), (.str []), (iN 0)] [])) H fun t26 H =>
 stK 3 H t2 t26 fun _ H =>
 ob (allM (fun o => o) [aLoad (.some 3) H t2]) fun vs => some (resV vs, H)) (ldK (.some 3) H t3 fun t27 H =>
 stK 3 H t2 t27 fun _ H =>
 ob (allM (fun o => o) [aLoad (.some 3) H t2]) fun vs => some (resV vs, H))
def S68_3 (_ : CallFn) (t2 t4 t45 t47 : AV) (H : AHeap) : R :=
 pPick t45 (.bool true) t47 H fun t48 H =>
 onBool t48 (pO (someAgg (aFill [(iN 0), (.str []), (iN 0)] [])) H fun t49 H =>
 stK 3 H t2 t49 fun _ H =>
 ob (allM (fun o => o) [aLoad (.some 3) H t2]) fun vs => some (resV vs, H)) (ldK (.some 3) H t4 fun t50 H =>
 stK 3 H t2 t50 fun _ H =>
 ob (allM (fun o => o) [aLoad (.some 3) H t2]) fun vs => some (resV vs, H))
def S68_4 (call : CallFn) (t0 : AV) (H : AHeap) : R :=
 pNew [(iN 0), (.str []), (iN 0)] H fun t2 H =>
 pO (aIdxS t0 (iN 0)) H fun t11 H =>
 pC call n125 [t11] H fun t12 H =>
 onBool t12 (pC call n123 [t0, (.fn n126 [] [])] H fun t15 H =>
 pO (aSliceS t0 .none (.some t15)) H fun t16 H =>
 pO (someAgg (aFill [(iN 0), (.str []), (iN 0)] [(0, 1, (iN 1)), (1, 1, t16)])) H fun t17 H =>
 pNew [(iN 0), (.str []), (iN 0)] H fun t3 H =>
 stK 3 H t3 t17 fun _ H =>
 pFa 1 t3 H fun t18 H =>
 ldK .none H t18 fun t19 H =>
 pC call n127 [t19] H fun t20 H =>
 onBool t20 (pFa 0 t3 H fun t21 H =>
 stK 1 H t21 (iN 2) fun _ H =>
 S68_2 call t2 t3 H) (S68_2 call t2 t3 H)) (pO (aIdxS t0 (iN 0)) H fun t30 H =>
 pC call n128 [t30] H fun t31 H =>
 onBool t31 (pC call n123 [t0, (.fn n128 [] [])] H fun t34 H =>
 pO (aSliceS t0 .none (.some t34)) H fun t35 H =>
 pO (someAgg (aFill [(iN 0), (.str []), (iN 0)] [(0, 1, (iN 3)), (1, 1, t35)])) H fun t36 H =>
 pNew [(iN 0), (.str []), (iN 0)] H fun t4 H =>
 stK 3 H t4 t36 fun _ H =>
 pFa 1 t4 H fun t38 H =>
 ldK .none H t38 fun t39 H =>
 pC call n129 [t39, (iN 10), (iN 64)] H fun t40 H =>
 pExt t40 0 H fun t41 H =>
 pExt t40 1 H fun t42 H =>
 pO (aEq true .ifc t42 .nilif) H fun t44 H =>
 guardA t44 false (pGtr t41 (.int .u64 (.ofNat 4611686018427387903)) H fun t47 H =>
 S68_3 call t2 t4 t44 t47 H) (S68_3 call t2 t4 t44 U H)) (pC call n130 [] H fun t51 H =>
 pO (aLen .sl H t51) H fun t52 H =>
 S68_1 call 1000000 t0 t2 t51 t52 (iN 0) H))
def S68 : Ff := ⟨fun call l H => argA1 (fun t0 => S68_4 call t0 H) l⟩
def S69_0 (call : CallFn) (t0 t1 : AV) (H : AHeap) : R :=
 pNew [(.str []), (.str []), (iN 0), .nilsl] H fun t4 H =>
 pC call n70 [t0] H fun t7 H =>
 pO (aFld 2 .none t7) H fun t8 H =>
 pO (someAgg (aFill [(.str []), (.str []), (iN 0), .nilsl] [(0, 1, t1), (2, 1, t8)])) H fun t9 H =>
 stK 4 H t4 t9 fun _ H =>
 ob (allM (fun o => o) [aLoad (.some 4) H t4]) fun vs => some (resV vs, H)
def S69 : Ff := ⟨fun call l H => argA2 (fun t0 t1 => S69_0 call t0 t1 H) l⟩
def S70_0 (_ : CallFn) (t0 : AV) (H : AHeap) : R :=
 pNew [(iN 0), (.str []), (iN 0)] H fun t2 H =>
 pO (aNil t0) H fun t4 H =>
 pFa 0 t4 H fun t5 H =>
 ldK .none H t5 fun t6 H =>
 pO (aNil t0) H fun t8 H =>
 pFa 1 t8 H fun t9 H =>
 ldK .none H t9 fun t10 H =>
 pIa 3 t6 t10 H fun t11 H =>
 ldK (.some 3) H t11 fun t12 H =>
 stK 3 H t2 t12 fun _ H =>
 ob (allM (fun o => o) [aLoad (.some 3) H t2]) fun vs => some (resV vs, H)
def S70 : Ff := ⟨fun call l H => argA1 (fun t0 => S70_0 call t0 H) l⟩
def S72_1 (call : CallFn) (q0 : AV → AV → AV → AV → AHeap → R) (t3 t6 t7 t40 t41 t42 : AV) (H : AHeap) : R :=
 ldK (.some 4) H t6 fun t59 H =>
 pC call n139 [t59, t7] H fun t61 H =>
 pO (aUn .not t61) H fun t62 H =>
 onBool t62 (some ((.bool false), H)) (pAdd t42 (iN 1) H fun t63 H =>
 q0 t3 t40 t41 t63 H)
def S72_0 (call : CallFn) (n : Nat) : AV → AV → AV → AV → AHeap → R :=
 Nat.rec (motive := fun _ => AV → AV → AV → AV → AHeap → R) (fun _ _ _ _ _ => none) (fun _ q0 t3 t40 t41 t42 H => pLss t42 t41 H fun t43 H =>
 onBool t43 (pIa 4 t40 t42 H fun t45 H =>
 ldK (.some 4) H t45 fun t46 H =>
 pNew [(.str []), (.str []), (iN 0), .nilsl] H fun t6 H =>
 stK 4 H t6 t46 fun _ H =>
 pFa 1 t3 H fun t47 H =>
 ldK .none H t47 fun t48 H =>
 pFa 0 t3 H fun t50 H =>
 ldK .none H t50 fun t51 H =>
 pO (aLen .sl H t51) H fun t52 H =>
 pLss t42 t52 H fun t53 H =>
 onBool t53 (pFa 0 t3 H fun t54 H =>
 ldK .none H t54 fun t55 H =>
 pIa 1 t55 t42 H fun t57 H =>
 ldK .none H t57 fun t58 H =>
 S72_1 call q0 t3 t6 t58 t40 t41 t42 H) (S72_1 call q0 t3 t6 t48 t40 t41 t42 H)) (some ((.bool true), H))) n
def S72_2 (call : CallFn) (t1 t3 t25 t37 : AV) (H : AHeap) : R :=
 pPick t25 (.bool true) t37 H fun t38 H =>
 onBool t38 (some ((.bool false), H)) (pFa 3 t1 H fun t39 H =>
 ldK .none H t39 fun t40 H =>
 pO (aLen .sl H t40) H fun t41 H =>
 S72_0 call 1000000 t3 t40 t41 (iN 0) H)
def S72_3 (call : CallFn) (t1 t3 t25 t29 t36 : AV) (H : AHeap) : R :=
 guardA t25 false (pPick t29 t36 (.bool false) H fun t37 H =>
 S72_2 call t1 t3 t25 t37 H) (S72_2 call t1 t3 t25 U H)
def S72_4 (call : CallFn) (t1 t3 t25 t29 : AV) (H : AHeap) : R :=
 guardA t29 true (pFa 3 t1 H fun t30 H =>
 ldK .none H t30 fun t31 H =>
 pO (aLen .sl H t31) H fun t32 H =>
 pFa 0 t3 H fun t33 H =>
 ldK .none H t33 fun t34 H =>
 pO (aLen .sl H t34) H fun t35 H =>
 pGtr t32 t35 H fun t36 H =>
 S72_3 call t1 t3 t25 t29 t36 H) (S72_3 call t1 t3 t25 t29 U H)
def S72_5 (call : CallFn) (t1 t3 t16 t23 : AV) (H : AHeap) : R :=
 pPick t16 (.bool true) t23 H fun t24 H =>
 guardA t24 false (pFa 1 t3 H fun t26 H =>
 ldK .none H t26 fun t27 H =>
 pEql t27 (.str []) H fun t28 H =>
 S72_4 call t1 t3 t24 t28 H) (S72_4 call t1 t3 t24 U H)
def S72_6 (call : CallFn) (t0 : AV) (H : AHeap) : R :=
 pBox t0 H fun t1 H =>
 pFa 0 t1 H fun t9 H =>
 ldK .none H t9 fun t10 H =>
 pC call n138 [t10] H fun t11 H =>
 pExt t11 0 H fun t12 H =>
 pExt t11 1 H fun t13 H =>
 pNew [.nilsl, (.str [])] H fun t3 H =>
 stK 2 H t3 t12 fun _ H =>
 pO (aUn .not t13) H fun t15 H =>
 guardA t15 false (pFa 3 t1 H fun t17 H =>
 ldK .none H t17 fun t18 H =>
 pO (aLen .sl H t18) H fun t19 H =>
 pFa 0 t3 H fun t20 H =>
 ldK .none H t20 fun t21 H =>
 pO (aLen .sl H t21) H fun t22 H =>
 pLss t19 t22 H fun t23 H =>
 S72_5 call t1 t3 t15 t23 H) (S72_5 call t1 t3 t15 U H)
def S72 : Ff := ⟨fun call l H => argA1 (fun t0 => S72_6 call t0 H) l⟩
def S73_0 (call : CallFn) (t0 t1 : AV) (H : AHeap) : R :=
 pC call n75 [t0, t1] H fun t7 H =>
 pGeq t7 (iN 0) H fun t8 H =>
 some (t8, H)
def S73 : Ff := ⟨fun call l H => argA2 (fun t0 t1 => S73_0 call t0 t1 H) l⟩
def S74_0 (call : CallFn) (t0 : AV) (H : AHeap) : R :=
 pBox t0 H fun t1 H =>
 ldK (.some 4) H t1 fun t3 H =>
 pC call n29 [t3] H fun t4 H =>
 pO (aUn .not t4) H fun t5 H =>
 some (t5, H)
def S74 : Ff := ⟨fun call l H => argA1 (fun t0 => S74_0 call t0 H) l⟩
def S75_0 (call : CallFn) (n : Nat) : AV → AV → AV → AV → AHeap → R :=
 Nat.rec (motive := fun _ => AV → AV → AV → AV → AHeap → R) (fun _ _ _ _ _ => none) (fun _ q0 t0 t1 t7 t8 H => pLss t8 t7 H fun t9 H =>
 onBool t9 (pIa 4 t0 t8 H fun t14 H =>
 ldK (.some 4) H t14 fun t15 H =>
 pV call t1 [t15] H fun t16 H =>
 onBool t16 (some (t8, H)) (pAdd t8 (iN 1) H fun t18 H =>
 q0 t0 t1 t7 t18 H)) (some ((.int .i64 (.negSucc 0)), H))) n
def S75_1 (call : CallFn) (t0 t1 : AV) (H : AHeap) : R :=
 pO (aLen .sl H t0) H fun t7 H =>
 S75_0 call 1000000 t0 t1 t7 (iN 0) H
def S75 : Ff := ⟨fun call l H => argA2 (fun t0 t1 => S75_1 call t0 t1 H) l⟩
def S76_0 (_ : CallFn) (t9 t13 : AV) (H : AHeap) : R :=
 pPick t9 t13 (.bool false) H fun t14 H =>
 some (t14, H)
def S76_1 (call : CallFn) (t0 t1 t2 : AV) (H : AHeap) : R :=
 pBox t0 H fun t3 H =>
 pFa 0 t3 H fun t5 H =>
 ldK .none H t5 fun t6 H =>
 ldK .none H t1 fun t7 H =>
 pEql t6 t7 H fun t8 H =>
 guardA t8 true (pFa 1 t3 H fun t10 H =>
 ldK .none H t10 fun t11 H =>
 ldK .none H t2 fun t12 H =>
 pEql t11 t12 H fun t13 H =>
 S76_0 call t8 t13 H) (S76_0 call t8 U H)
def S76 : Ff := ⟨fun call l H => argA3 (fun t0 t1 t2 => S76_1 call t0 t1 t2 H) l⟩
def S81_0 (_ : CallFn) (t6 t9 : AV) (H : AHeap) : R :=
 pPick t6 t9 (.bool false) H fun t10 H =>
 some (t10, H)
def S81_1 (call : CallFn) (t0 : AV) (H : AHeap) : R :=
 pBox t0 H fun t1 H =>
 pFa 0 t1 H fun t3 H =>
 ldK .none H t3 fun t4 H =>
 pNeq t4 (.str [105, 110, 116]) H fun t5 H =>
 guardA t5 true (pFa 0 t1 H fun t7 H =>
 ldK .none H t7 fun t8 H =>
 pNeq t8 (.str [98, 111, 111, 108]) H fun t9 H =>
 S81_0 call t5 t9 H) (S81_0 call t5 U H)
def S81 : Ff := ⟨fun call l H => argA1 (fun t0 => S81_1 call t0 H) l⟩
def S83_0 (_ : CallFn) (t0 t1 : AV) (H : AHeap) : R :=
 pO (aNil t0) H fun t41 H =>
 pFa 2 t41 H fun t42 H =>
 ldK .none H t42 fun t43 H =>
 pN (aBsl 1 1 [(.bool false)] [(0, 1, t1)]) H fun t45 H =>
 pO (aNil t0) H fun t48 H =>
 pFa 3 t48 H fun t49 H =>
 ldK .none H t49 fun t50 H =>
 pN (aBsl 1 1 [(.bool false)] [(0, 1, (.bool true))]) H fun t51 H =>
 pW (aApp 1 1 H t43 t45) fun t46 H =>
 andR (andB (ckV (aLoad .none H t49) t50) true) (
 pW (aApp 1 1 H t50 t51) fun t52 H =>
 pO (aNil t0) H fun t53 H =>
 pFa 2 t53 H fun t54 H =>
 stK 1 H t54 t46 fun _ H =>
 pO (aNil t0) H fun t55 H =>
 pFa 3 t55 H fun t56 H =>
 stK 1 H t56 t52 fun _ H =>
 pO (aNil t0) H fun t58 H =>
 pFa 2 t58 H fun t59 H =>
 ldK .none H t59 fun t60 H =>
 pO (aLen .sl H t60) H fun t61 H =>
 pSub t61 (iN 1) H fun t62 H =>
 some (t62, H))
def S83_2 (_ : CallFn) (q0 : AV → AV → AV → AV → AV → AHeap → R) (t0 t1 t5 t10 t11 t12 t19 t28 : AV) (H : AHeap) : R :=
 pPick t19 t28 (.bool false) H fun t29 H =>
 onBool t29 (pO (aNil t0) H fun t31 H =>
 pFa 3 t31 H fun t32 H =>
 ldK .none H t32 fun t33 H =>
 pIa 1 t33 t5 H fun t35 H =>
 stK 1 H t35 (.bool true) fun _ H =>
 some (t5, H)) (pAdd t12 (iN 1) H fun t37 H =>
 q0 t0 t1 t10 t11 t37 H)
def S83_1 (call : CallFn) (n : Nat) : AV → AV → AV → AV → AV → AHeap → R :=
 Nat.rec (motive := fun _ => AV → AV → AV → AV → AV → AHeap → R) (fun _ _ _ _ _ _ => none) (fun _ q0 t0 t1 t10 t11 t12 H => pLss t12 t11 H fun t13 H =>
 onBool t13 (pIa 1 t10 t12 H fun t15 H =>
 ldK .none H t15 fun t16 H =>
 pO (aUn .not t16) H fun t18 H =>
 guardA t18 true (pO (aNil t0) H fun t21 H =>
 pFa 2 t21 H fun t22 H =>
 ldK .none H t22 fun t23 H =>
 pIa 1 t23 t12 H fun t25 H =>
 ldK .none H t25 fun t26 H =>
 pO (aEq false .bool t26 t1) H fun t28 H =>
 S83_2 call q0 t0 t1 t12 t10 t11 t12 t18 t28 H) (S83_2 call q0 t0 t1 t12 t10 t11 t12 t18 U H)) (S83_0 call t0 t1 H)) n
def S83_3 (call : CallFn) (t0 t1 : AV) (H : AHeap) : R :=
 pO (aNil t0) H fun t8 H =>
 pFa 3 t8 H fun t9 H =>
 ldK .none H t9 fun t10 H =>
 pO (aLen .sl H t10) H fun t11 H =>
 S83_1 call 1000000 t0 t1 t10 t11 (iN 0) H
def S83 : Ff := ⟨fun call l H => argA2 (fun t0 t1 => S83_3 call t0 t1 H) l⟩
def S86_0 (_ : CallFn) (t0 t1 : AV) (H : AHeap) : R :=
 pBox t1 H fun t3 H =>
 pO (aNil t0) H fun t7 H =>
 pFa 4 t7 H fun t8 H =>
 ldK .none H t8 fun t9 H =>
 ldK (.some 5) H t3 fun t10 H =>
 pN (aBsl 5 1 [(iN 0), (iN 0), (iN 0), (iN 0), (iN 0)] [(0, 5, t10)]) H fun t11 H =>
 pW (aApp 5 40 H t9 t11) fun t12 H =>
 pO (aNil t0) H fun t13 H =>
 pFa 4 t13 H fun t14 H =>
 stK 1 H t14 t12 fun _ H =>
 pO (aNil t0) H fun t16 H =>
 pFa 4 t16 H fun t17 H =>
 ldK .none H t17 fun t18 H =>
 pO (aLen .sl H t18) H fun t19 H =>
 pSub t19 (iN 1) H fun t20 H =>
 some (t20, H)
def S86 : Ff := ⟨fun call l H => argA2 (fun t0 t1 => S86_0 call t0 t1 H) l⟩
def S91_0 (_ : CallFn) (t3 t27 t36 : AV) (H : AHeap) : R :=
 pPick t27 (.bool true) t36 H fun t37 H =>
 onBool t37 (some (.tup [(iN 0), (iN 0)], H)) (pFa 1 t3 H fun t38 H =>
 ldK .none H t38 fun t39 H =>
 pFa 1 t3 H fun t40 H =>
 ldK .none H t40 fun t41 H =>
 pFa 2 t3 H fun t42 H =>
 ldK .none H t42 fun t43 H =>
 pAdd t41 t43 H fun t44 H =>
 some (.tup [t39, t44], H))
def S91_1 (call : CallFn) (t2 t3 t19 t25 : AV) (H : AHeap) : R :=
 pPick t19 (.bool true) t25 H fun t26 H =>
 guardA t26 false (pFa 2 t3 H fun t28 H =>
 ldK .none H t28 fun t29 H =>
 pFa 3 t2 H fun t30 H =>
 ldK .none H t30 fun t31 H =>
 pO (aLen .sl H t31) H fun t32 H =>
 pFa 1 t3 H fun t33 H =>
 ldK .none H t33 fun t34 H =>
 pSub t32 t34 H fun t35 H =>
 pGtr t29 t35 H fun t36 H =>
 S91_0 call t3 t26 t36 H) (S91_0 call t3 t26 U H)
def S91_2 (call : CallFn) (t2 t3 t14 t17 : AV) (H : AHeap) : R :=
 pPick t14 (.bool true) t17 H fun t18 H =>
 guardA t18 false (pFa 1 t3 H fun t20 H =>
 ldK .none H t20 fun t21 H =>
 pFa 3 t2 H fun t22 H =>
 ldK .none H t22 fun t23 H =>
 pO (aLen .sl H t23) H fun t24 H =>
 pGtr t21 t24 H fun t25 H =>
 S91_1 call t2 t3 t18 t25 H) (S91_1 call t2 t3 t18 U H)
def S91_3 (call : CallFn) (t2 t3 t9 t12 : AV) (H : AHeap) : R :=
 pPick t9 (.bool true) t12 H fun t13 H =>
 guardA t13 false (pFa 2 t3 H fun t15 H =>
 ldK .none H t15 fun t16 H =>
 pLss t16 (iN 0) H fun t17 H =>
 S91_2 call t2 t3 t13 t17 H) (S91_2 call t2 t3 t13 U H)
def S91_4 (call : CallFn) (t0 t1 : AV) (H : AHeap) : R :=
 pBox t0 H fun t2 H =>
 pBox t1 H fun t3 H =>
 pFa 0 t3 H fun t6 H =>
 ldK .none H t6 fun t7 H =>
 pNeq t7 (iN 41) H fun t8 H =>
 guardA t8 false (pFa 1 t3 H fun t10 H =>
 ldK .none H t10 fun t11 H =>
 pLss t11 (iN 0) H fun t12 H =>
 S91_3 call t2 t3 t8 t12 H) (S91_3 call t2 t3 t8 U H)
def S91 : Ff := ⟨fun call l H => argA2 (fun t0 t1 => S91_4 call t0 t1 H) l⟩
def S97_0 (_ : CallFn) (t0 : AV) (H : AHeap) : R :=
 pO (aNil t0) H fun t4 H =>
 pFa 1 t4 H fun t5 H =>
 ldK .none H t5 fun t6 H =>
 some (t6, H)
def S97 : Ff := ⟨fun call l H => argA1 (fun t0 => S97_0 call t0 H) l⟩
def S101_0 (_ : CallFn) (t0 : AV) (H : AHeap) : R :=
 pO (aEq false .sl t0 .nilsl) H fun t4 H =>
 onBool t4 (some (.nilsl, H)) (pN (aBsl 1 0 [(iN 0)] []) H fun t5 H =>
 pW (aApp 1 8 H t5 t0) fun t7 H =>
 some (t7, H))
def S101 : Ff := ⟨fun call l H => argA1 (fun t0 => S101_0 call t0 H) l⟩
def S107_0 (call : CallFn) (t0 t1 : AV) (H : AHeap) : R :=
 pBox t0 H fun t2 H =>
 pBox t1 H fun t3 H =>
 ldK .none H t2 fun t5 H =>
 pC call n162 [t5] H fun t6 H =>
 pC call n161 [t6, (.fn n163 [] [t2, t3])] H fun t8 H =>
 some (t8, H)
def S107 : Ff := ⟨fun call l H => argA2 (fun t0 t1 => S107_0 call t0 t1 H) l⟩
def S108_0 (call : CallFn) (t0 t1 : AV) (H : AHeap) : R :=
 pO (aNil t0) H fun t10 H =>
 pFa 4 t10 H fun t11 H =>
 ldK .none H t11 fun t12 H =>
 pEql t12 (iN 1) H fun t14 H =>
 onBool t14 (pC call n165 [t0, t1] H fun t18 H =>
 pExt t18 0 H fun t19 H =>
 pExt t18 1 H fun t20 H =>
 onBool t20 (pC call n166 [t0, t1, t19] H fun _ H =>
 some ((.bool true), H)) (pO (aNil t0) H fun t27 H =>
 pFa 4 t27 H fun t28 H =>
 stK 1 H t28 (iN 2) fun _ H =>
 some ((.bool true), H))) (pEql t12 (iN 2) H fun t30 H =>
 onBool t30 (pO (aNil t0) H fun t32 H =>
 pFa 3 t32 H fun t33 H =>
 ldK .none H t33 fun t34 H =>
 pC call n167 [t34] H fun t35 H =>
 onBool t35 (some ((.bool true), H)) (pC call n165 [t0, t1] H fun t39 H =>
 pExt t39 0 H fun _ H =>
 pExt t39 1 H fun t41 H =>
 onBool t41 (pO (aNil t0) H fun t44 H =>
 pFa 4 t44 H fun t45 H =>
 stK 1 H t45 (iN 1) fun _ H =>
 some ((.bool true), H)) (pO (aNil t0) H fun t47 H =>
 pFa 4 t47 H fun t48 H =>
 stK 1 H t48 (iN 3) fun _ H =>
 pO (aNil t0) H fun t50 H =>
 pFa 2 t50 H fun t51 H =>
 ldK .none H t51 fun t52 H =>
 pC call n168 [t52] H fun _ H =>
 some ((.bool true), H)))) (pEql t12 (iN 3) H fun t55 H =>
 onBool t55 (pO (aNil t0) H fun t57 H =>
 pFa 2 t57 H fun t58 H =>
 ldK .none H t58 fun t59 H =>
 pC call n169 [t59] H fun t60 H =>
 pO (aUn .not t60) H fun t61 H =>
 onBool t61 (pO (aNil t0) H fun t63 H =>
 pFa 4 t63 H fun t64 H =>
 stK 1 H t64 (iN 0) fun _ H =>
 pO (aNil t0) H fun t66 H =>
 pFa 6 t66 H fun t67 H =>
 ldK .none H t67 fun t68 H =>
 pAdd t68 (iN 1) H fun t69 H =>
 pO (aNil t0) H fun t70 H =>
 pFa 6 t70 H fun t71 H =>
 stK 1 H t71 t69 fun _ H =>
 pO (aNil t0) H fun t74 H =>
 pFa 2 t74 H fun t75 H =>
 ldK .none H t75 fun t76 H =>
 pC call n170 [t76] H fun t77 H =>
 pO (aMinMax true t77 (iN 64)) H fun t78 H =>
 pO (aNil t0) H fun t79 H =>
 pFa 7 t79 H fun t80 H =>
 stK 1 H t80 t78 fun _ H =>
 some ((.bool true), H)) (some ((.bool true), H))) (some ((.bool false), H))))
def S108 : Ff := ⟨fun call l H => argA2 (fun t0 t1 => S108_0 call t0 t1 H) l⟩
def S110_0 (call : CallFn) (t0 t1 : AV) (H : AHeap) : R :=
 pO (aNil t0) H fun t6 H =>
 pFa 11 t6 H fun t7 H =>
 ldK .none H t7 fun t8 H =>
 pNeq t8 (iN 0) H fun t9 H =>
 onBool t9 (some (.nilsl, H)) (pO (aNil t0) H fun t11 H =>
 pFa 7 t11 H fun t12 H =>
 ldK .none H t12 fun t13 H =>
 pO (aNil t0) H fun t15 H =>
 pFa 6 t15 H fun t16 H =>
 ldK .none H t16 fun t17 H =>
 pC call n164 [t13, t17, t1] H fun t19 H =>
 some (t19, H))
def S110 : Ff := ⟨fun call l H => argA2 (fun t0 t1 => S110_0 call t0 t1 H) l⟩
def S111_0 (_ : CallFn) (t0 t1 : AV) (H : AHeap) : R :=
 pO (aNil t0) H fun t6 H =>
 pFa 6 t6 H fun t7 H =>
 ldK .none H t7 fun t8 H =>
 pO (aLook .int .nilp false H t8 t1) H fun t10 H =>
 some (t10, H)
def S111 : Ff := ⟨fun call l H => argA2 (fun t0 t1 => S111_0 call t0 t1 H) l⟩
def S112_0 (_ : CallFn) (t3 t4 t6 t35 t50 : AV) (H : AHeap) : R :=
 pPick t35 (.bool true) t50 H fun t51 H =>
 onBool t51 (pO (someAgg (aFill [(iN 0), (iN 0), (iN 0), (iN 0), (iN 0)] [])) H fun t52 H =>
 stK 5 H t4 t52 fun _ H =>
 ob (allM (fun o => o) [aLoad (.some 5) H t4, some (.bool false)]) fun vs => some (resV vs, H)) (pFa 4 t3 H fun t53 H =>
 ldK .none H t53 fun t54 H =>
 pO (aNil t6) H fun t56 H =>
 pFa 0 t56 H fun t57 H =>
 ldK .none H t57 fun t58 H =>
 pIa 7 t54 t58 H fun t59 H =>
 pFa 5 t59 H fun t60 H =>
 ldK .none H t60 fun t61 H =>
 pO (aNil t6) H fun t63 H =>
 pFa 1 t63 H fun t64 H =>
 ldK .none H t64 fun t65 H =>
 pIa 5 t61 t65 H fun t66 H =>
 ldK (.some 5) H t66 fun t67 H =>
 stK 5 H t4 t67 fun _ H =>
 ob (allM (fun o => o) [aLoad (.some 5) H t4, some (.bool true)]) fun vs => some (resV vs, H))
def S112_1 (call : CallFn) (t3 t4 t6 t35 t39 t49 : AV) (H : AHeap) : R :=
 guardA t35 false (pGeq t39 t49 H fun t50 H =>
 S112_0 call t3 t4 t6 t35 t50 H) (S112_0 call t3 t4 t6 t35 U H)
def S112_2 (call : CallFn) (t3 t4 t6 t35 t39 t48 : AV) (H : AHeap) : R :=
 guardA t35 false (pO (aLen .sl H t48) H fun t49 H =>
 S112_1 call t3 t4 t6 t35 t39 t49 H) (S112_1 call t3 t4 t6 t35 t39 U H)
def S112_3 (call : CallFn) (t3 t4 t6 t35 t39 t47 : AV) (H : AHeap) : R :=
 guardA t35 false (ldK .none H t47 fun t48 H =>
 S112_2 call t3 t4 t6 t35 t39 t48 H) (S112_2 call t3 t4 t6 t35 t39 U H)
def S112_4 (call : CallFn) (t3 t4 t6 t35 t39 t46 : AV) (H : AHeap) : R :=
 guardA t35 false (pFa 5 t46 H fun t47 H =>
 S112_3 call t3 t4 t6 t35 t39 t47 H) (S112_3 call t3 t4 t6 t35 t39 U H)
def S112_5 (call : CallFn) (t3 t4 t6 t35 t39 t41 t45 : AV) (H : AHeap) : R :=
 guardA t35 false (pIa 7 t41 t45 H fun t46 H =>
 S112_4 call t3 t4 t6 t35 t39 t46 H) (S112_4 call t3 t4 t6 t35 t39 U H)
def S112_6 (call : CallFn) (t3 t4 t6 t35 t39 t41 t44 : AV) (H : AHeap) : R :=
 guardA t35 false (ldK .none H t44 fun t45 H =>
 S112_5 call t3 t4 t6 t35 t39 t41 t45 H) (S112_5 call t3 t4 t6 t35 t39 t41 U H)
def S112_7 (call : CallFn) (t3 t4 t6 t35 t39 t41 t43 : AV) (H : AHeap) : R :=
 guardA t35 false (pFa 0 t43 H fun t44 H =>
 S112_6 call t3 t4 t6 t35 t39 t41 t44 H) (S112_6 call t3 t4 t6 t35 t39 t41 U H)
def S112_8 (call : CallFn) (t3 t4 t6 t35 t39 t41 t42 : AV) (H : AHeap) : R :=
 guardA t35 false (pO (aNil t42) H fun t43 H =>
 S112_7 call t3 t4 t6 t35 t39 t41 t43 H) (S112_7 call t3 t4 t6 t35 t39 t41 U H)
def S112_9 (call : CallFn) (t3 t4 t6 t35 t39 t41 : AV) (H : AHeap) : R :=
 guardA t35 false (S112_8 call t3 t4 t6 t35 t39 t41 t6 H) (S112_8 call t3 t4 t6 t35 t39 t41 U H)
def S112_10 (call : CallFn) (t3 t4 t6 t35 t39 t40 : AV) (H : AHeap) : R :=
 guardA t35 false (ldK .none H t40 fun t41 H =>
 S112_9 call t3 t4 t6 t35 t39 t41 H) (S112_9 call t3 t4 t6 t35 t39 U H)
def S112_11 (call : CallFn) (t3 t4 t6 t35 t39 : AV) (H : AHeap) : R :=
 guardA t35 false (pFa 4 t3 H fun t40 H =>
 S112_10 call t3 t4 t6 t35 t39 t40 H) (S112_10 call t3 t4 t6 t35 t39 U H)
def S112_12 (call : CallFn) (t3 t4 t6 t35 t38 : AV) (H : AHeap) : R :=
 guardA t35 false (ldK .none H t38 fun t39 H =>
 S112_11 call t3 t4 t6 t35 t39 H) (S112_11 call t3 t4 t6 t35 U H)
def S112_13 (call : CallFn) (t3 t4 t6 t35 t37 : AV) (H : AHeap) : R :=
 guardA t35 false (pFa 1 t37 H fun t38 H =>
 S112_12 call t3 t4 t6 t35 t38 H) (S112_12 call t3 t4 t6 t35 U H)
def S112_14 (call : CallFn) (t3 t4 t6 t35 t36 : AV) (H : AHeap) : R :=
 guardA t35 false (pO (aNil t36) H fun t37 H =>
 S112_13 call t3 t4 t6 t35 t37 H) (S112_13 call t3 t4 t6 t35 U H)
def S112_15 (call : CallFn) (t3 t4 t6 t28 t33 : AV) (H : AHeap) : R :=
 pPick t28 (.bool true) t33 H fun t34 H =>
 guardA t34 false (S112_14 call t3 t4 t6 t34 t6 H) (S112_14 call t3 t4 t6 t34 U H)
def S112_16 (call : CallFn) (t3 t4 t6 t28 t32 : AV) (H : AHeap) : R :=
 guardA t28 false (pLss t32 (iN 0) H fun t33 H =>
 S112_15 call t3 t4 t6 t28 t33 H) (S112_15 call t3 t4 t6 t28 U H)
def S112_17 (call : CallFn) (t3 t4 t6 t28 t31 : AV) (H : AHeap) : R :=
 guardA t28 false (ldK .none H t31 fun t32 H =>
 S112_16 call t3 t4 t6 t28 t32 H) (S112_16 call t3 t4 t6 t28 U H)
def S112_18 (call : CallFn) (t3 t4 t6 t28 t30 : AV) (H : AHeap) : R :=
 guardA t28 false (pFa 1 t30 H fun t31 H =>
 S112_17 call t3 t4 t6 t28 t31 H) (S112_17 call t3 t4 t6 t28 U H)
def S112_19 (call : CallFn) (t3 t4 t6 t28 t29 : AV) (H : AHeap) : R :=
 guardA t28 false (pO (aNil t29) H fun t30 H =>
 S112_18 call t3 t4 t6 t28 t30 H) (S112_18 call t3 t4 t6 t28 U H)
def S112_20 (call : CallFn) (t3 t4 t6 t18 t26 : AV) (H : AHeap) : R :=
 pPick t18 (.bool true) t26 H fun t27 H =>
 guardA t27 false (S112_19 call t3 t4 t6 t27 t6 H) (S112_19 call t3 t4 t6 t27 U H)
def S112_21 (call : CallFn) (t3 t4 t6 t18 t22 t25 : AV) (H : AHeap) : R :=
 guardA t18 false (pGeq t22 t25 H fun t26 H =>
 S112_20 call t3 t4 t6 t18 t26 H) (S112_20 call t3 t4 t6 t18 U H)
def S112_22 (call : CallFn) (t3 t4 t6 t18 t22 t24 : AV) (H : AHeap) : R :=
 guardA t18 false (pO (aLen .sl H t24) H fun t25 H =>
 S112_21 call t3 t4 t6 t18 t22 t25 H) (S112_21 call t3 t4 t6 t18 t22 U H)
def S112_23 (call : CallFn) (t3 t4 t6 t18 t22 t23 : AV) (H : AHeap) : R :=
 guardA t18 false (ldK .none H t23 fun t24 H =>
 S112_22 call t3 t4 t6 t18 t22 t24 H) (S112_22 call t3 t4 t6 t18 t22 U H)
def S112_24 (call : CallFn) (t3 t4 t6 t18 t22 : AV) (H : AHeap) : R :=
 guardA t18 false (pFa 4 t3 H fun t23 H =>
 S112_23 call t3 t4 t6 t18 t22 t23 H) (S112_23 call t3 t4 t6 t18 t22 U H)
def S112_25 (call : CallFn) (t3 t4 t6 t18 t21 : AV) (H : AHeap) : R :=
 guardA t18 false (ldK .none H t21 fun t22 H =>
 S112_24 call t3 t4 t6 t18 t22 H) (S112_24 call t3 t4 t6 t18 U H)
def S112_26 (call : CallFn) (t3 t4 t6 t18 t20 : AV) (H : AHeap) : R :=
 guardA t18 false (pFa 0 t20 H fun t21 H =>
 S112_25 call t3 t4 t6 t18 t21 H) (S112_25 call t3 t4 t6 t18 U H)
def S112_27 (call : CallFn) (t3 t4 t6 t18 t19 : AV) (H : AHeap) : R :=
 guardA t18 false (pO (aNil t19) H fun t20 H =>
 S112_26 call t3 t4 t6 t18 t20 H) (S112_26 call t3 t4 t6 t18 U H)
def S112_28 (call : CallFn) (t3 t4 t6 t11 t16 : AV) (H : AHeap) : R :=
 pPick t11 (.bool true) t16 H fun t17 H =>
 guardA t17 false (S112_27 call t3 t4 t6 t17 t6 H) (S112_27 call t3 t4 t6 t17 U H)
def S112_29 (call : CallFn) (t3 t4 t6 t11 t15 : AV) (H : AHeap) : R :=
 guardA t11 false (pLss t15 (iN 0) H fun t16 H =>
 S112_28 call t3 t4 t6 t11 t16 H) (S112_28 call t3 t4 t6 t11 U H)
def S112_30 (call : CallFn) (t3 t4 t6 t11 t14 : AV) (H : AHeap) : R :=
 guardA t11 false (ldK .none H t14 fun t15 H =>
 S112_29 call t3 t4 t6 t11 t15 H) (S112_29 call t3 t4 t6 t11 U H)
def S112_31 (call : CallFn) (t3 t4 t6 t11 t13 : AV) (H : AHeap) : R :=
 guardA t11 false (pFa 0 t13 H fun t14 H =>
 S112_30 call t3 t4 t6 t11 t14 H) (S112_30 call t3 t4 t6 t11 U H)
def S112_32 (call : CallFn) (t3 t4 t6 t11 t12 : AV) (H : AHeap) : R :=
 guardA t11 false (pO (aNil t12) H fun t13 H =>
 S112_31 call t3 t4 t6 t11 t13 H) (S112_31 call t3 t4 t6 t11 U H)
def S112_33 (call : CallFn) (t0 t1 : AV) (H : AHeap) : R :=
 pBox t1 H fun t3 H =>
 pNew [(iN 0), (iN 0), (iN 0), (iN 0), (iN 0)] H fun t4 H =>
 pC call n173 [t0] H fun t8 H =>
 pO (aEq false .ptr t8 .nilp) H fun t10 H =>
 guardA t10 false (S112_32 call t3 t4 t8 t10 t8 H) (S112_32 call t3 t4 t8 t10 U H)
def S112 : Ff := ⟨fun call l H => argA2 (fun t0 t1 => S112_33 call t0 t1 H) l⟩
def S113_0 (call : CallFn) (t0 : AV) (H : AHeap) : R :=
 pNew [(iN 0), (iN 0), .nilsl] H fun t2 H =>
 pC call n173 [t0] H fun t6 H =>
 pO (aEq false .ptr t6 .nilp) H fun t8 H =>
 onBool t8 (pO (someAgg (aFill [(iN 0), (iN 0), .nilsl] [])) H fun t9 H =>
 stK 3 H t2 t9 fun _ H =>
 ob (allM (fun o => o) [aLoad (.some 3) H t2, some (.bool false)]) fun vs => some (resV vs, H)) (pO (aNil t6) H fun t11 H =>
 ldK (.some 3) H t11 fun t12 H =>
 pC call n174 [t12] H fun t13 H =>
 stK 3 H t2 t13 fun _ H =>
 ob (allM (fun o => o) [aLoad (.some 3) H t2, some (.bool true)]) fun vs => some (resV vs, H))
def S113 : Ff := ⟨fun call l H => argA1 (fun t0 => S113_0 call t0 H) l⟩
def S114_0 (_ : CallFn) (t15 t21 : AV) (H : AHeap) : R :=
 pPick t15 (.bool true) t21 H fun t22 H =>
 some (t22, H)
def S114_1 (call : CallFn) (t15 t18 t20 : AV) (H : AHeap) : R :=
 guardA t15 false (pPick t18 t20 (.bool false) H fun t21 H =>
 S114_0 call t15 t21 H) (S114_0 call t15 U H)
def S114_2 (call : CallFn) (t1 t15 t18 : AV) (H : AHeap) : R :=
 guardA t18 true (pEql t1 (iN 1) H fun t20 H =>
 S114_1 call t15 t18 t20 H) (S114_1 call t15 t18 U H)
def S114_3 (call : CallFn) (t0 t1 t11 t13 : AV) (H : AHeap) : R :=
 pPick t11 t13 (.bool false) H fun t14 H =>
 guardA t14 false (pEql t0 (iN 22) H fun t17 H =>
 S114_2 call t1 t14 t17 H) (S114_2 call t1 t14 U H)
def S114_4 (call : CallFn) (t0 t1 t7 t9 : AV) (H : AHeap) : R :=
 pPick t7 t9 (.bool false) H fun t10 H =>
 guardA t10 true (pNeq t0 (iN 36) H fun t13 H =>
 S114_3 call t0 t1 t10 t13 H) (S114_3 call t0 t1 t10 U H)
def S114_5 (call : CallFn) (t0 t1 : AV) (H : AHeap) : R :=
 pGeq t0 (iN 23) H fun t6 H =>
 guardA t6 true (pLeq t0 (iN 42) H fun t9 H =>
 S114_4 call t0 t1 t6 t9 H) (S114_4 call t0 t1 t6 U H)
def S114 : Ff := ⟨fun call l H => argA2 (fun t0 t1 => S114_5 call t0 t1 H) l⟩
def S115_0 (_ : CallFn) (t0 : AV) (H : AHeap) : R :=
 pO (aNil t0) H fun t4 H =>
 pFa 0 t4 H fun t5 H =>
 ldK .none H t5 fun t6 H =>
 pO (aLen .sl H t6) H fun t7 H =>
 some (t7, H)
def S115 : Ff := ⟨fun call l H => argA1 (fun t0 => S115_0 call t0 H) l⟩
def S116_0 (call : CallFn) (t0 : AV) (H : AHeap) : R :=
 pC call n180 [t0] H fun _ H =>
 some (.tup [], H)
def S116_1 (call : CallFn) (t0 t2 t35 t37 : AV) (H : AHeap) : R :=
 pPick t35 (.bool true) t37 H fun t38 H =>
 onBool t38 (pC call n177 [t0] H fun _ H =>
 some (.tup [], H)) (pLeq t2 (iN 35) H fun t43 H =>
 onBool t43 (pC call n178 [t0] H fun _ H =>
 some (.tup [], H)) (pEql t2 (iN 42) H fun t48 H =>
 onBool t48 (pO (aNil t0) H fun t50 H =>
 pFa 0 t50 H fun t51 H =>
 ldK .none H t51 fun t52 H =>
 pO (aNil t52) H fun t53 H =>
 pFa 9 t53 H fun t54 H =>
 ldK .none H t54 fun t55 H =>
 pO (aLen .sl H t55) H fun t56 H =>
 pLss t56 (iN 65536) H fun t57 H =>
 onBool t57 (pO (aNil t0) H fun t59 H =>
 pFa 0 t59 H fun t60 H =>
 ldK .none H t60 fun t61 H =>
 pO (aNil t0) H fun t63 H =>
 pFa 0 t63 H fun t64 H =>
 ldK .none H t64 fun t65 H =>
 pO (aNil t65) H fun t66 H =>
 pFa 9 t66 H fun t67 H =>
 ldK .none H t67 fun t68 H =>
 pO (aNil t0) H fun t70 H =>
 pFa 2 t70 H fun t71 H =>
 ldK .none H t71 fun t72 H =>
 pO (aNil t0) H fun t74 H =>
 pFa 3 t74 H fun t75 H =>
 pFa 1 t75 H fun t76 H =>
 ldK .none H t76 fun t77 H =>
 pC call n179 [t72, t77] H fun t78 H =>
 andR (andB (ckV (aLoad .none H t60) t61) (andB (ckV (aLoad .none H t64) t65) (andB (ckV (aLoad .none H t67) t68) true))) (
 pN (aBsl 1 1 [(iN 0)] [(0, 1, t78)]) H fun t79 H =>
 pW (aApp 1 8 H t68 t79) fun t80 H =>
 andR (andB (ckV (aLoad .none H t60) t61) true) (
 pO (aNil t61) H fun t81 H =>
 pFa 9 t81 H fun t82 H =>
 stK 1 H t82 t80 fun _ H =>
 S116_0 call t0 H))) (S116_0 call t0 H)) (pEql t2 (iN 44) H fun t87 H =>
 onBool t87 (pO (aNil t0) H fun t89 H =>
 pFa 0 t89 H fun t90 H =>
 ldK .none H t90 fun t91 H =>
 pO (aNil t0) H fun t93 H =>
 pFa 3 t93 H fun t94 H =>
 pFa 1 t94 H fun t95 H =>
 ldK .none H t95 fun t96 H =>
 pC call n181 [t91, t96] H fun _ H =>
 some (.tup [], H)) (pC call n182 [t0] H fun _ H =>
 some (.tup [], H)))))
def S116_2 (call : CallFn) (t0 t2 t31 t33 : AV) (H : AHeap) : R :=
 pPick t31 (.bool true) t33 H fun t34 H =>
 guardA t34 false (pEql t2 (iN 37) H fun t37 H =>
 S116_1 call t0 t2 t34 t37 H) (S116_1 call t0 t2 t34 U H)
def S116_3 (call : CallFn) (t0 t2 t27 t29 : AV) (H : AHeap) : R :=
 pPick t27 (.bool true) t29 H fun t30 H =>
 guardA t30 false (pEql t2 (iN 36) H fun t33 H =>
 S116_2 call t0 t2 t30 t33 H) (S116_2 call t0 t2 t30 U H)
def S116_4 (call : CallFn) (t0 t2 t13 t15 : AV) (H : AHeap) : R :=
 pPick t13 (.bool true) t15 H fun t16 H =>
 onBool t16 (pC call n175 [t0] H fun _ H =>
 some (.tup [], H)) (pLeq t2 (iN 24) H fun t21 H =>
 onBool t21 (pC call n176 [t0] H fun _ H =>
 some (.tup [], H)) (pEql t2 (iN 25) H fun t26 H =>
 guardA t26 false (pEql t2 (iN 26) H fun t29 H =>
 S116_3 call t0 t2 t26 t29 H) (S116_3 call t0 t2 t26 U H)))
def S116_5 (call : CallFn) (t0 : AV) (H : AHeap) : R :=
 pO (aNil t0) H fun t4 H =>
 pFa 3 t4 H fun t5 H =>
 pFa 0 t5 H fun t6 H =>
 ldK .none H t6 fun t7 H =>
 pLeq t7 (iN 19) H fun t12 H =>
 guardA t12 false (pEql t7 (iN 43) H fun t15 H =>
 S116_4 call t0 t7 t12 t15 H) (S116_4 call t0 t7 t12 U H)
def S116 : Ff := ⟨fun call l H => argA1 (fun t0 => S116_5 call t0 H) l⟩
def S120_0 (call : CallFn) (t0 t1 : AV) (H : AHeap) : R :=
 pC call n188 [t0, t1] H fun t7 H =>
 pGeq t7 (iN 0) H fun t8 H =>
 some (t8, H)
def S120 : Ff := ⟨fun call l H => argA2 (fun t0 t1 => S120_0 call t0 t1 H) l⟩
def S121_0 (call : CallFn) (t0 t1 : AV) (H : AHeap) : R :=
 pEql t1 (iN 4) H fun t7 H =>
 onBool t7 (pC call n189 [t0] H fun t9 H =>
 some (t9, H)) (pEql t1 (iN 5) H fun t11 H =>
 onBool t11 (pC call n190 [t0] H fun t13 H =>
 some (t13, H)) (pEql t1 (iN 6) H fun t15 H =>
 onBool t15 (pC call n191 [t0] H fun t17 H =>
 some (t17, H)) (pEql t1 (iN 7) H fun t19 H =>
 onBool t19 (pC call n192 [t0] H fun t21 H =>
 some (t21, H)) (pEql t1 (iN 8) H fun t23 H =>
 onBool t23 (pC call n193 [t0] H fun t25 H =>
 some (t25, H)) (pEql t1 (iN 9) H fun t27 H =>
 onBool t27 (pO (aNil t0) H fun t29 H =>
 pFa 6 t29 H fun t30 H =>
 pFa 6 t30 H fun t31 H =>
 ldK .none H t31 fun t32 H =>
 pO (aNil t0) H fun t34 H =>
 pFa 16 t34 H fun t35 H =>
 ldK .none H t35 fun t36 H =>
 pIa 1 t32 t36 H fun t37 H =>
 ldK .none H t37 fun t38 H =>
 pO (aNil t0) H fun t40 H =>
 pFa 13 t40 H fun t41 H =>
 ldK .none H t41 fun t42 H =>
 pO (aNil t0) H fun t44 H =>
 pFa 16 t44 H fun t45 H =>
 ldK .none H t45 fun t46 H =>
 pIa 1 t42 t46 H fun t47 H =>
 ldK .none H t47 fun t48 H =>
 pEql t38 t48 H fun t49 H =>
 some (t49, H)) (pC call n194 [t0] H fun t51 H =>
 some (t51, H)))))))
def S121 : Ff := ⟨fun call l H => argA2 (fun t0 t1 => S121_0 call t0 t1 H) l⟩
def S122_0 (call : CallFn) (t0 t1 : AV) (H : AHeap) : R :=
 pC call n195 [t0, t1] H fun t7 H =>
 some (t7, H)
def S122 : Ff := ⟨fun call l H => argA2 (fun t0 t1 => S122_0 call t0 t1 H) l⟩
def S123_1 (_ : CallFn) (q0 : AV → AV → AV → AHeap → R) (t0 t1 t5 t10 t15 : AV) (H : AHeap) : R :=
 pPick t10 t15 (.bool false) H fun t16 H =>
 onBool t16 (pAdd t5 (iN 1) H fun t18 H =>
 q0 t0 t1 t18 H) (some (t5, H))
def S123_0 (call : CallFn) (n : Nat) : AV → AV → AV → AHeap → R :=
 Nat.rec (motive := fun _ => AV → AV → AV → AHeap → R) (fun _ _ _ _ => none) (fun _ q0 t0 t1 t5 H => pO (aLen .str H t0) H fun t8 H =>
 pLss t5 t8 H fun t9 H =>
 guardA t9 true (pO (aIdxS t0 t5) H fun t14 H =>
 pV call t1 [t14] H fun t15 H =>
 S123_1 call q0 t0 t1 t5 t9 t15 H) (S123_1 call q0 t0 t1 t5 t9 U H)) n
def S123 : Ff := ⟨fun call l H => argA2 (fun t0 t1 => S123_0 call 1000000 t0 t1 (iN 0) H) l⟩
def S125_0 (_ : CallFn) (t17 t19 : AV) (H : AHeap) : R :=
 pPick t17 (.bool true) t19 H fun t20 H =>
 some (t20, H)
def S125_1 (call : CallFn) (t0 t9 t15 : AV) (H : AHeap) : R :=
 pPick t9 (.bool true) t15 H fun t16 H =>
 guardA t16 false (pEql t0 (.int .u8 (.ofNat 95)) H fun t19 H =>
 S125_0 call t16 t19 H) (S125_0 call t16 U H)
def S125_2 (call : CallFn) (t0 t9 t12 t14 : AV) (H : AHeap) : R :=
 guardA t9 false (pPick t12 t14 (.bool false) H fun t15 H =>
 S125_1 call t0 t9 t15 H) (S125_1 call t0 t9 U H)
def S125_3 (call : CallFn) (t0 t9 t12 : AV) (H : AHeap) : R :=
 guardA t12 true (pLeq t0 (.int .u8 (.ofNat 90)) H fun t14 H =>
 S125_2 call t0 t9 t12 t14 H) (S125_2 call t0 t9 t12 U H)
def S125_4 (call : CallFn) (t0 t5 t7 : AV) (H : AHeap) : R :=
 pPick t5 t7 (.bool false) H fun t8 H =>
 guardA t8 false (pGeq t0 (.int .u8 (.ofNat 65)) H fun t11 H =>
 S125_3 call t0 t8 t11 H) (S125_3 call t0 t8 U H)
def S125_5 (call : CallFn) (t0 : AV) (H : AHeap) : R :=
 pGeq t0 (.int .u8 (.ofNat 97)) H fun t4 H =>
 guardA t4 true (pLeq t0 (.int .u8 (.ofNat 122)) H fun t7 H =>
 S125_4 call t0 t4 t7 H) (S125_4 call t0 t4 U H)
def S125 : Ff := ⟨fun call l H => argA1 (fun t0 => S125_5 call t0 H) l⟩
def S126_0 (_ : CallFn) (t5 t7 : AV) (H : AHeap) : R :=
 pPick t5 (.bool true) t7 H fun t8 H =>
 some (t8, H)
def S126_1 (call : CallFn) (t0 : AV) (H : AHeap) : R :=
 pC call n125 [t0] H fun t4 H =>
 guardA t4 false (pC call n128 [t0] H fun t7 H =>
 S126_0 call t4 t7 H) (S126_0 call t4 U H)
def S126 : Ff := ⟨fun call l H => argA1 (fun t0 => S126_1 call t0 H) l⟩
def S127_0 (_ : CallFn) (t4 : AV) (H : AHeap) : R :=
 onBool t4 (some ((.bool true), H)) (some ((.bool false), H))
def S127_1 (call : CallFn) (t0 : AV) (H : AHeap) : R :=
 pEql t0 (.str [115, 116, 114, 117, 99, 116]) H fun t5 H =>
 onBool t5 (S127_0 call t5 H) (pEql t0 (.str [118, 97, 114]) H fun t6 H =>
 onBool t6 (S127_0 call t6 H) (pEql t0 (.str [102, 117, 110, 99]) H fun t7 H =>
 onBool t7 (S127_0 call t7 H) (pEql t0 (.str [105, 110, 116]) H fun t8 H =>
 onBool t8 (S127_0 call t8 H) (pEql t0 (.str [98, 111, 111, 108]) H fun t9 H =>
 onBool t9 (S127_0 call t9 H) (pEql t0 (.str [99, 104, 97, 110]) H fun t10 H =>
 onBool t10 (S127_0 call t10 H) (pEql t0 (.str [105, 102]) H fun t11 H =>
 onBool t11 (S127_0 call t11 H) (pEql t0 (.str [101, 108, 115, 101]) H fun t12 H =>
 onBool t12 (S127_0 call t12 H) (pEql t0 (.str [119, 104, 105, 108, 101]) H fun t13 H =>
 onBool t13 (S127_0 call t13 H) (pEql t0 (.str [114, 101, 116, 117, 114, 110]) H fun t14 H =>
 onBool t14 (S127_0 call t14 H) (pEql t0 (.str [112, 114, 105, 110, 116]) H fun t15 H =>
 onBool t15 (S127_0 call t15 H) (pEql t0 (.str [103, 111]) H fun t16 H =>
 onBool t16 (S127_0 call t16 H) (pEql t0 (.str [115, 101, 110, 100]) H fun t17 H =>
 onBool t17 (S127_0 call t17 H) (pEql t0 (.str [99, 108, 111, 115, 101]) H fun t18 H =>
 onBool t18 (S127_0 call t18 H) (pEql t0 (.str [115, 101, 108, 101, 99, 116]) H fun t19 H =>
 onBool t19 (S127_0 call t19 H) (pEql t0 (.str [99, 97, 115, 101]) H fun t20 H =>
 onBool t20 (S127_0 call t20 H) (pEql t0 (.str [100, 101, 102, 97, 117, 108, 116]) H fun t21 H =>
 onBool t21 (S127_0 call t21 H) (pEql t0 (.str [114, 101, 99, 118]) H fun t22 H =>
 onBool t22 (S127_0 call t22 H) (pEql t0 (.str [116, 114, 117, 101]) H fun t23 H =>
 onBool t23 (S127_0 call t23 H) (pEql t0 (.str [102, 97, 108, 115, 101]) H fun t24 H =>
 onBool t24 (S127_0 call t24 H) (pEql t0 (.str [110, 105, 108]) H fun t25 H =>
 onBool t25 (S127_0 call t25 H) (pEql t0 (.str [110, 101, 119]) H fun t26 H =>
 onBool t26 (S127_0 call t26 H) (pEql t0 (.str [109, 97, 107, 101]) H fun t27 H =>
 onBool t27 (S127_0 call t27 H) (pEql t0 (.str [108, 101, 110]) H fun t28 H =>
 S127_0 call t28 H)))))))))))))))))))))))
def S127 : Ff := ⟨fun call l H => argA1 (fun t0 => S127_1 call t0 H) l⟩
def S128_0 (_ : CallFn) (t5 t7 : AV) (H : AHeap) : R :=
 pPick t5 t7 (.bool false) H fun t8 H =>
 some (t8, H)
def S128_1 (call : CallFn) (t0 : AV) (H : AHeap) : R :=
 pGeq t0 (.int .u8 (.ofNat 48)) H fun t4 H =>
 guardA t4 true (pLeq t0 (.int .u8 (.ofNat 57)) H fun t7 H =>
 S128_0 call t4 t7 H) (S128_0 call t4 U H)
def S128 : Ff := ⟨fun call l H => argA1 (fun t0 => S128_1 call t0 H) l⟩
def S130_0 (_ : CallFn) (H : AHeap) : R :=
 pN (aBsl 1 30 [(.str [])] [(0, 1, (.str [61, 61])), (1, 1, (.str [33, 61])), (2, 1, (.str [60, 61])), (3, 1, (.str [62, 61])), (4, 1, (.str [60, 60])), (5, 1, (.str [62, 62])), (6, 1, (.str [38, 38])), (7, 1, (.str [124, 124])), (8, 1, (.str [40])), (9, 1, (.str [41])), (10, 1, (.str [123])), (11, 1, (.str [125])), (12, 1, (.str [91])), (13, 1, (.str [93])), (14, 1, (.str [44])), (15, 1, (.str [59])), (16, 1, (.str [46])), (17, 1, (.str [61])), (18, 1, (.str [60])), (19, 1, (.str [62])), (20, 1, (.str [43])), (21, 1, (.str [45])), (22, 1, (.str [42])), (23, 1, (.str [47])), (24, 1, (.str [37])), (25, 1, (.str [38])), (26, 1, (.str [124])), (27, 1, (.str [94])), (28, 1, (.str [33])), (29, 1, (.str [58]))]) H fun t1 H =>
 some (t1, H)
def S130 : Ff := ⟨fun call l H => argA0 (S130_0 call H) l⟩
def S131_0 (call : CallFn) (t0 t1 : AV) (H : AHeap) : R :=
 pN (aBsl 1 1 [(.str [])] [(0, 1, t1)]) H fun t7 H =>
 pC call n134 [t0, t7] H fun t8 H =>
 pO (aUn .not t8) H fun t9 H =>
 onBool t9 (some ((.bool false), H)) (pC call n198 [t0] H fun _ H =>
 some ((.bool true), H))
def S131 : Ff := ⟨fun call l H => argA2 (fun t0 t1 => S131_0 call t0 t1 H) l⟩
def S133_0 (call : CallFn) (t0 t1 : AV) (H : AHeap) : R :=
 pNew [(iN 0), (.str []), (iN 0)] H fun t4 H =>
 pN (aBsl 1 1 [(.str [])] [(0, 1, t1)]) H fun t7 H =>
 pC call n134 [t0, t7] H fun t8 H =>
 pO (aUn .not t8) H fun t9 H =>
 onBool t9 (pC call n137 [t0, (iN 6)] H fun _ H =>
 pO (someAgg (aFill [(iN 0), (.str []), (iN 0)] [])) H fun t12 H =>
 stK 3 H t4 t12 fun _ H =>
 ob (allM (fun o => o) [aLoad (.some 3) H t4]) fun vs => some (resV vs, H)) (pC call n198 [t0] H fun t14 H =>
 stK 3 H t4 t14 fun _ H =>
 ob (allM (fun o => o) [aLoad (.some 3) H t4]) fun vs => some (resV vs, H))
def S133 : Ff := ⟨fun call l H => argA2 (fun t0 t1 => S133_0 call t0 t1 H) l⟩
end
noncomputable section
set_option maxRecDepth 100000
def S134_0 (_ : CallFn) (t21 t25 : AV) (H : AHeap) : R :=
 pPick t21 t25 (.bool false) H fun t26 H =>
 some (t26, H)
def S134_1 (call : CallFn) (t1 t5 t16 t19 : AV) (H : AHeap) : R :=
 pPick t16 t19 (.bool false) H fun t20 H =>
 guardA t20 true (pFa 1 t5 H fun t23 H =>
 ldK .none H t23 fun t24 H =>
 pC call n199 [t1, t24] H fun t25 H =>
 S134_0 call t20 t25 H) (S134_0 call t20 U H)
def S134_2 (call : CallFn) (t1 t5 t11 t14 : AV) (H : AHeap) : R :=
 pPick t11 t14 (.bool false) H fun t15 H =>
 guardA t15 true (pFa 0 t5 H fun t17 H =>
 ldK .none H t17 fun t18 H =>
 pNeq t18 (iN 0) H fun t19 H =>
 S134_1 call t1 t5 t15 t19 H) (S134_1 call t1 t5 t15 U H)
def S134_3 (call : CallFn) (t0 t1 : AV) (H : AHeap) : R :=
 pC call n70 [t0] H fun t7 H =>
 pNew [(iN 0), (.str []), (iN 0)] H fun t5 H =>
 stK 3 H t5 t7 fun _ H =>
 pFa 0 t5 H fun t8 H =>
 ldK .none H t8 fun t9 H =>
 pNeq t9 (iN 1) H fun t10 H =>
 guardA t10 true (pFa 0 t5 H fun t12 H =>
 ldK .none H t12 fun t13 H =>
 pNeq t13 (iN 3) H fun t14 H =>
 S134_2 call t1 t5 t10 t14 H) (S134_2 call t1 t5 t10 U H)
def S134 : Ff := ⟨fun call l H => argA2 (fun t0 t1 => S134_3 call t0 t1 H) l⟩
def S138_0 (_ : CallFn) (t2 t4 t71 : AV) (H : AHeap) : R :=
 onBool t71 (pN (aBsl 1 1 [(.str [])] [(0, 1, (.str [97, 110, 32, 101, 120, 112, 114, 101, 115, 115, 105, 111, 110]))]) H fun t79 H =>
 pO (someAgg (aFill [.nilsl, (.str [])] [(0, 1, t79)])) H fun t80 H =>
 stK 2 H t2 t80 fun _ H =>
 ob (allM (fun o => o) [aLoad (.some 2) H t2, some (.bool true)]) fun vs => some (resV vs, H)) (pEql t4 (.str [103, 111]) H fun t82 H =>
 onBool t82 (pN (aBsl 1 1 [(.str [])] [(0, 1, (.str [99, 97, 108, 108]))]) H fun t83 H =>
 pO (someAgg (aFill [.nilsl, (.str [])] [(0, 1, t83)])) H fun t84 H =>
 stK 2 H t2 t84 fun _ H =>
 ob (allM (fun o => o) [aLoad (.some 2) H t2, some (.bool true)]) fun vs => some (resV vs, H)) (pEql t4 (.str [115, 101, 108, 101, 99, 116]) H fun t86 H =>
 onBool t86 (pO (someAgg (aFill [.nilsl, (.str [])] [(1, 1, (.str [97, 32, 99, 97, 115, 101]))])) H fun t87 H =>
 stK 2 H t2 t87 fun _ H =>
 ob (allM (fun o => o) [aLoad (.some 2) H t2, some (.bool true)]) fun vs => some (resV vs, H)) (pEql t4 (.str [111, 110, 115, 101, 110, 100]) H fun t89 H =>
 onBool t89 (pN (aBsl 1 3 [(.str [])] [(0, 1, (.str [97, 110, 32, 101, 120, 112, 114, 101, 115, 115, 105, 111, 110])), (1, 1, (.str [97, 110, 32, 101, 120, 112, 114, 101, 115, 115, 105, 111, 110])), (2, 1, (.str [98, 108, 111, 99, 107]))]) H fun t90 H =>
 pO (someAgg (aFill [.nilsl, (.str [])] [(0, 1, t90)])) H fun t91 H =>
 stK 2 H t2 t91 fun _ H =>
 ob (allM (fun o => o) [aLoad (.some 2) H t2, some (.bool true)]) fun vs => some (resV vs, H)) (pEql t4 (.str [100, 101, 102, 97, 117, 108, 116]) H fun t93 H =>
 onBool t93 (pN (aBsl 1 1 [(.str [])] [(0, 1, (.str [98, 108, 111, 99, 107]))]) H fun t94 H =>
 pO (someAgg (aFill [.nilsl, (.str [])] [(0, 1, t94)])) H fun t95 H =>
 stK 2 H t2 t95 fun _ H =>
 ob (allM (fun o => o) [aLoad (.some 2) H t2, some (.bool true)]) fun vs => some (resV vs, H)) (pEql t4 (.str [99, 97, 108, 108]) H fun t97 H =>
 onBool t97 (pN (aBsl 1 1 [(.str [])] [(0, 1, (.str [97, 110, 32, 101, 120, 112, 114, 101, 115, 115, 105, 111, 110]))]) H fun t98 H =>
 pO (someAgg (aFill [.nilsl, (.str [])] [(0, 1, t98), (1, 1, (.str [97, 110, 32, 101, 120, 112, 114, 101, 115, 115, 105, 111, 110]))])) H fun t99 H =>
 stK 2 H t2 t99 fun _ H =>
 ob (allM (fun o => o) [aLoad (.some 2) H t2, some (.bool true)]) fun vs => some (resV vs, H)) (pO (someAgg (aFill [.nilsl, (.str [])] [])) H fun t100 H =>
 stK 2 H t2 t100 fun _ H =>
 ob (allM (fun o => o) [aLoad (.some 2) H t2, some (.bool false)]) fun vs => some (resV vs, H)))))))
def S138_1 (call : CallFn) (t2 t4 t62 : AV) (H : AHeap) : R :=
 onBool t62 (pN (aBsl 1 2 [(.str [])] [(0, 1, (.str [97, 110, 32, 101, 120, 112, 114, 101, 115, 115, 105, 111, 110])), (1, 1, (.str [98, 108, 111, 99, 107]))]) H fun t65 H =>
 pO (someAgg (aFill [.nilsl, (.str [])] [(0, 1, t65)])) H fun t66 H =>
 stK 2 H t2 t66 fun _ H =>
 ob (allM (fun o => o) [aLoad (.some 2) H t2, some (.bool true)]) fun vs => some (resV vs, H)) (pEql t4 (.str [114, 101, 116, 117, 114, 110]) H fun t68 H =>
 onBool t68 (pN (aBsl 1 1 [(.str [])] [(0, 1, (.str [63, 97, 110, 32, 101, 120, 112, 114, 101, 115, 115, 105, 111, 110]))]) H fun t69 H =>
 pO (someAgg (aFill [.nilsl, (.str [])] [(0, 1, t69)])) H fun t70 H =>
 stK 2 H t2 t70 fun _ H =>
 ob (allM (fun o => o) [aLoad (.some 2) H t2, some (.bool true)]) fun vs => some (resV vs, H)) (pEql t4 (.str [112, 114, 105, 110, 116]) H fun t72 H =>
 onBool t72 (S138_0 call t2 t4 t72 H) (pEql t4 (.str [99, 108, 111, 115, 101]) H fun t73 H =>
 onBool t73 (S138_0 call t2 t4 t73 H) (pEql t4 (.str [100, 111]) H fun t74 H =>
 onBool t74 (S138_0 call t2 t4 t74 H) (pEql t4 (.str [117, 110, 97, 114, 121]) H fun t75 H =>
 onBool t75 (S138_0 call t2 t4 t75 H) (pEql t4 (.str [100, 111, 116]) H fun t76 H =>
 onBool t76 (S138_0 call t2 t4 t76 H) (pEql t4 (.str [108, 101, 110]) H fun t77 H =>
 onBool t77 (S138_0 call t2 t4 t77 H) (pEql t4 (.str [114, 101, 99, 118]) H fun t78 H =>
 S138_0 call t2 t4 t78 H))))))))
def S138_2 (call : CallFn) (t2 t4 t51 : AV) (H : AHeap) : R :=
 onBool t51 (pN (aBsl 1 2 [(.str [])] [(0, 1, (.str [97, 110, 32, 101, 120, 112, 114, 101, 115, 115, 105, 111, 110])), (1, 1, (.str [97, 110, 32, 101, 120, 112, 114, 101, 115, 115, 105, 111, 110]))]) H fun t56 H =>
 pO (someAgg (aFill [.nilsl, (.str [])] [(0, 1, t56)])) H fun t57 H =>
 stK 2 H t2 t57 fun _ H =>
 ob (allM (fun o => o) [aLoad (.some 2) H t2, some (.bool true)]) fun vs => some (resV vs, H)) (pEql t4 (.str [105, 102]) H fun t59 H =>
 onBool t59 (pN (aBsl 1 3 [(.str [])] [(0, 1, (.str [97, 110, 32, 101, 120, 112, 114, 101, 115, 115, 105, 111, 110])), (1, 1, (.str [98, 108, 111, 99, 107])), (2, 1, (.str [63, 98, 108, 111, 99, 107]))]) H fun t60 H =>
 pO (someAgg (aFill [.nilsl, (.str [])] [(0, 1, t60)])) H fun t61 H =>
 stK 2 H t2 t61 fun _ H =>
 ob (allM (fun o => o) [aLoad (.some 2) H t2, some (.bool true)]) fun vs => some (resV vs, H)) (pEql t4 (.str [119, 104, 105, 108, 101]) H fun t63 H =>
 onBool t63 (S138_1 call t2 t4 t63 H) (pEql t4 (.str [111, 110, 114, 101, 99, 118]) H fun t64 H =>
 S138_1 call t2 t4 t64 H)))
def S138_3 (call : CallFn) (t2 t4 t46 : AV) (H : AHeap) : R :=
 onBool t46 (pN (aBsl 1 2 [(.str [])] [(0, 1, (.str [97, 32, 116, 121, 112, 101])), (1, 1, (.str [97, 110, 32, 101, 120, 112, 114, 101, 115, 115, 105, 111, 110]))]) H fun t49 H =>
 pO (someAgg (aFill [.nilsl, (.str [])] [(0, 1, t49)])) H fun t50 H =>
 stK 2 H t2 t50 fun _ H =>
 ob (allM (fun o => o) [aLoad (.some 2) H t2, some (.bool true)]) fun vs => some (resV vs, H)) (pEql t4 (.str [115, 101, 116]) H fun t52 H =>
 onBool t52 (S138_2 call t2 t4 t52 H) (pEql t4 (.str [115, 101, 110, 100]) H fun t53 H =>
 onBool t53 (S138_2 call t2 t4 t53 H) (pEql t4 (.str [98, 105, 110, 97, 114, 121]) H fun t54 H =>
 onBool t54 (S138_2 call t2 t4 t54 H) (pEql t4 (.str [105, 110, 100, 101, 120]) H fun t55 H =>
 S138_2 call t2 t4 t55 H))))
def S138_4 (call : CallFn) (t2 t4 t28 : AV) (H : AHeap) : R :=
 onBool t28 (pO (someAgg (aFill [.nilsl, (.str [])] [])) H fun t38 H =>
 stK 2 H t2 t38 fun _ H =>
 ob (allM (fun o => o) [aLoad (.some 2) H t2, some (.bool true)]) fun vs => some (resV vs, H)) (pEql t4 (.str [102, 110]) H fun t40 H =>
 onBool t40 (pN (aBsl 1 1 [(.str [])] [(0, 1, (.str [63, 97, 32, 116, 121, 112, 101]))]) H fun t41 H =>
 pO (someAgg (aFill [.nilsl, (.str [])] [(0, 1, t41), (1, 1, (.str [97, 32, 116, 121, 112, 101]))])) H fun t42 H =>
 stK 2 H t2 t42 fun _ H =>
 ob (allM (fun o => o) [aLoad (.some 2) H t2, some (.bool true)]) fun vs => some (resV vs, H)) (pEql t4 (.str [98, 108, 111, 99, 107]) H fun t44 H =>
 onBool t44 (pO (someAgg (aFill [.nilsl, (.str [])] [(1, 1, (.str [97, 32, 115, 116, 97, 116, 101, 109, 101, 110, 116]))])) H fun t45 H =>
 stK 2 H t2 t45 fun _ H =>
 ob (allM (fun o => o) [aLoad (.some 2) H t2, some (.bool true)]) fun vs => some (resV vs, H)) (pEql t4 (.str [108, 101, 116]) H fun t47 H =>
 onBool t47 (S138_3 call t2 t4 t47 H) (pEql t4 (.str [109, 97, 107, 101]) H fun t48 H =>
 S138_3 call t2 t4 t48 H))))
def S138_5 (call : CallFn) (t2 t4 t20 : AV) (H : AHeap) : R :=
 onBool t20 (pN (aBsl 1 3 [(.str [])] [(0, 1, (.str [112, 97, 114, 97, 109, 115])), (1, 1, (.str [63, 97, 32, 116, 121, 112, 101])), (2, 1, (.str [98, 108, 111, 99, 107]))]) H fun t23 H =>
 pO (someAgg (aFill [.nilsl, (.str [])] [(0, 1, t23)])) H fun t24 H =>
 stK 2 H t2 t24 fun _ H =>
 ob (allM (fun o => o) [aLoad (.some 2) H t2, some (.bool true)]) fun vs => some (resV vs, H)) (pEql t4 (.str [112, 97, 114, 97, 109, 115]) H fun t26 H =>
 onBool t26 (pO (someAgg (aFill [.nilsl, (.str [])] [(1, 1, (.str [112, 97, 114, 97, 109]))])) H fun t27 H =>
 stK 2 H t2 t27 fun _ H =>
 ob (allM (fun o => o) [aLoad (.some 2) H t2, some (.bool true)]) fun vs => some (resV vs, H)) (pEql t4 (.str [110, 111, 110, 101]) H fun t29 H =>
 onBool t29 (S138_4 call t2 t4 t29 H) (pEql t4 (.str [105, 110, 116]) H fun t30 H =>
 onBool t30 (S138_4 call t2 t4 t30 H) (pEql t4 (.str [98, 111, 111, 108]) H fun t31 H =>
 onBool t31 (S138_4 call t2 t4 t31 H) (pEql t4 (.str [110, 97, 109, 101, 100]) H fun t32 H =>
 onBool t32 (S138_4 call t2 t4 t32 H) (pEql t4 (.str [110, 117, 109, 98, 101, 114]) H fun t33 H =>
 onBool t33 (S138_4 call t2 t4 t33 H) (pEql t4 (.str [116, 114, 117, 101]) H fun t34 H =>
 onBool t34 (S138_4 call t2 t4 t34 H) (pEql t4 (.str [102, 97, 108, 115, 101]) H fun t35 H =>
 onBool t35 (S138_4 call t2 t4 t35 H) (pEql t4 (.str [110, 97, 109, 101]) H fun t36 H =>
 onBool t36 (S138_4 call t2 t4 t36 H) (pEql t4 (.str [110, 101, 119]) H fun t37 H =>
 S138_4 call t2 t4 t37 H))))))))))
def S138_6 (call : CallFn) (t2 t4 t11 : AV) (H : AHeap) : R :=
 onBool t11 (pN (aBsl 1 1 [(.str [])] [(0, 1, (.str [97, 32, 116, 121, 112, 101]))]) H fun t18 H =>
 pO (someAgg (aFill [.nilsl, (.str [])] [(0, 1, t18)])) H fun t19 H =>
 stK 2 H t2 t19 fun _ H =>
 ob (allM (fun o => o) [aLoad (.some 2) H t2, some (.bool true)]) fun vs => some (resV vs, H)) (pEql t4 (.str [102, 117, 110, 99]) H fun t21 H =>
 onBool t21 (S138_5 call t2 t4 t21 H) (pEql t4 (.str [108, 97, 109, 98, 100, 97]) H fun t22 H =>
 S138_5 call t2 t4 t22 H))
def S138_7 (call : CallFn) (t0 : AV) (H : AHeap) : R :=
 pNew [.nilsl, (.str [])] H fun t2 H =>
 pEql t0 (.str [112, 114, 111, 103, 114, 97, 109]) H fun t6 H =>
 onBool t6 (pO (someAgg (aFill [.nilsl, (.str [])] [(1, 1, (.str [97, 32, 100, 101, 99, 108, 97, 114, 97, 116, 105, 111, 110]))])) H fun t7 H =>
 stK 2 H t2 t7 fun _ H =>
 ob (allM (fun o => o) [aLoad (.some 2) H t2, some (.bool true)]) fun vs => some (resV vs, H)) (pEql t0 (.str [115, 116, 114, 117, 99, 116]) H fun t9 H =>
 onBool t9 (pO (someAgg (aFill [.nilsl, (.str [])] [(1, 1, (.str [102, 105, 101, 108, 100]))])) H fun t10 H =>
 stK 2 H t2 t10 fun _ H =>
 ob (allM (fun o => o) [aLoad (.some 2) H t2, some (.bool true)]) fun vs => some (resV vs, H)) (pEql t0 (.str [102, 105, 101, 108, 100]) H fun t12 H =>
 onBool t12 (S138_6 call t2 t0 t12 H) (pEql t0 (.str [103, 108, 111, 98, 97, 108]) H fun t13 H =>
 onBool t13 (S138_6 call t2 t0 t13 H) (pEql t0 (.str [112, 97, 114, 97, 109]) H fun t14 H =>
 onBool t14 (S138_6 call t2 t0 t14 H) (pEql t0 (.str [108, 105, 115, 116]) H fun t15 H =>
 onBool t15 (S138_6 call t2 t0 t15 H) (pEql t0 (.str [99, 104, 97, 110]) H fun t16 H =>
 onBool t16 (S138_6 call t2 t0 t16 H) (pEql t0 (.str [110, 105, 108]) H fun t17 H =>
 S138_6 call t2 t0 t17 H)))))))
def S138 : Ff := ⟨fun call l H => argA1 (fun t0 => S138_7 call t0 H) l⟩
def S139_0 (_ : CallFn) (t16 t19 : AV) (H : AHeap) : R :=
 pPick t16 (.bool true) t19 H fun t20 H =>
 some (t20, H)
def S139_1 (call : CallFn) (t0 t1 : AV) (H : AHeap) : R :=
 pBox t0 H fun t2 H =>
 pC call n205 [t1, (.str [63])] H fun t9 H =>
 pExt t9 0 H fun t10 H =>
 pExt t9 1 H fun t11 H =>
 onBool t11 (pFa 0 t2 H fun t13 H =>
 ldK .none H t13 fun t14 H =>
 pEql t14 (.str [110, 111, 110, 101]) H fun t15 H =>
 guardA t15 false (ldK (.some 4) H t2 fun t17 H =>
 pC call n139 [t17, t10] H fun t19 H =>
 S139_0 call t15 t19 H) (S139_0 call t15 U H)) (pEql t1 (.str [97, 32, 100, 101, 99, 108, 97, 114, 97, 116, 105, 111, 110]) H fun t23 H =>
 onBool t23 (pN (aBsl 1 3 [(.str [])] [(0, 1, (.str [115, 116, 114, 117, 99, 116])), (1, 1, (.str [103, 108, 111, 98, 97, 108])), (2, 1, (.str [102, 117, 110, 99]))]) H fun t24 H =>
 pFa 0 t2 H fun t25 H =>
 ldK .none H t25 fun t26 H =>
 pC call n199 [t24, t26] H fun t27 H =>
 some (t27, H)) (pEql t1 (.str [97, 32, 116, 121, 112, 101]) H fun t29 H =>
 onBool t29 (pN (aBsl 1 6 [(.str [])] [(0, 1, (.str [105, 110, 116])), (1, 1, (.str [98, 111, 111, 108])), (2, 1, (.str [110, 97, 109, 101, 100])), (3, 1, (.str [108, 105, 115, 116])), (4, 1, (.str [99, 104, 97, 110])), (5, 1, (.str [102, 110]))]) H fun t30 H =>
 pFa 0 t2 H fun t31 H =>
 ldK .none H t31 fun t32 H =>
 pC call n199 [t30, t32] H fun t33 H =>
 some (t33, H)) (pEql t1 (.str [97, 32, 115, 116, 97, 116, 101, 109, 101, 110, 116]) H fun t35 H =>
 onBool t35 (pN (aBsl 1 12 [(.str [])] [(0, 1, (.str [98, 108, 111, 99, 107])), (1, 1, (.str [108, 101, 116])), (2, 1, (.str [115, 101, 116])), (3, 1, (.str [105, 102])), (4, 1, (.str [119, 104, 105, 108, 101])), (5, 1, (.str [114, 101, 116, 117, 114, 110])), (6, 1, (.str [112, 114, 105, 110, 116])), (7, 1, (.str [99, 108, 111, 115, 101])), (8, 1, (.str [103, 111])), (9, 1, (.str [115, 101, 110, 100])), (10, 1, (.str [115, 101, 108, 101, 99, 116])), (11, 1, (.str [100, 111]))]) H fun t36 H =>
 pFa 0 t2 H fun t37 H =>
 ldK .none H t37 fun t38 H =>
 pC call n199 [t36, t38] H fun t39 H =>
 some (t39, H)) (pEql t1 (.str [97, 110, 32, 101, 120, 112, 114, 101, 115, 115, 105, 111, 110]) H fun t41 H =>
 onBool t41 (pN (aBsl 1 15 [(.str [])] [(0, 1, (.str [110, 117, 109, 98, 101, 114])), (1, 1, (.str [116, 114, 117, 101])), (2, 1, (.str [102, 97, 108, 115, 101])), (3, 1, (.str [110, 105, 108])), (4, 1, (.str [110, 97, 109, 101])), (5, 1, (.str [98, 105, 110, 97, 114, 121])), (6, 1, (.str [117, 110, 97, 114, 121])), (7, 1, (.str [99, 97, 108, 108])), (8, 1, (.str [105, 110, 100, 101, 120])), (9, 1, (.str [100, 111, 116])), (10, 1, (.str [110, 101, 119])), (11, 1, (.str [109, 97, 107, 101])), (12, 1, (.str [108, 101, 110])), (13, 1, (.str [114, 101, 99, 118])), (14, 1, (.str [108, 97, 109, 98, 100, 97]))]) H fun t42 H =>
 pFa 0 t2 H fun t43 H =>
 ldK .none H t43 fun t44 H =>
 pC call n199 [t42, t44] H fun t45 H =>
 some (t45, H)) (pEql t1 (.str [97, 32, 99, 97, 115, 101]) H fun t47 H =>
 onBool t47 (pN (aBsl 1 3 [(.str [])] [(0, 1, (.str [111, 110, 114, 101, 99, 118])), (1, 1, (.str [111, 110, 115, 101, 110, 100])), (2, 1, (.str [100, 101, 102, 97, 117, 108, 116]))]) H fun t48 H =>
 pFa 0 t2 H fun t49 H =>
 ldK .none H t49 fun t50 H =>
 pC call n199 [t48, t50] H fun t51 H =>
 some (t51, H)) (pFa 0 t2 H fun t52 H =>
 ldK .none H t52 fun t53 H =>
 pEql t53 t1 H fun t55 H =>
 some (t55, H)))))))
def S139 : Ff := ⟨fun call l H => argA2 (fun t0 t1 => S139_1 call t0 t1 H) l⟩
def S140_0 (call : CallFn) (t0 t3 t4 t28 t34 t39 t41 : AV) (H : AHeap) : R :=
 pPick t34 t39 (.bool false) H fun t40 H =>
 pC call n33 [t28, t40, t41] H fun _ H =>
 pFa 1 t3 H fun t44 H =>
 ldK .none H t44 fun t45 H =>
 pIa 4 t4 (iN 0) H fun t47 H =>
 ldK (.some 4) H t47 fun t48 H =>
 pC call n78 [t0, t45, t48] H fun _ H =>
 some (.tup [], H)
def S140_1 (call : CallFn) (t0 t3 t4 t28 t34 t38 t41 : AV) (H : AHeap) : R :=
 andR (andB (ckV (aLoad (.some 4) H t3) t41) true) (
 guardA t34 true (pO (aUn .not t38) H fun t39 H =>
 S140_0 call t0 t3 t4 t28 t34 t39 t41 H) (S140_0 call t0 t3 t4 t28 t34 U t41 H))
def S140_2 (call : CallFn) (t0 t3 t4 t28 t34 t35 t37 t41 : AV) (H : AHeap) : R :=
 guardA t34 true (pC call n209 [t35, t37] H fun t38 H =>
 S140_1 call t0 t3 t4 t28 t34 t38 t41 H) (S140_1 call t0 t3 t4 t28 t34 U t41 H)
def S140_3 (call : CallFn) (t0 t3 t4 t28 t34 t35 t36 t41 : AV) (H : AHeap) : R :=
 guardA t34 true (ldK .none H t36 fun t37 H =>
 S140_2 call t0 t3 t4 t28 t34 t35 t37 t41 H) (S140_2 call t0 t3 t4 t28 t34 t35 U t41 H)
def S140_4 (call : CallFn) (t0 t3 t4 t28 t34 t35 t41 : AV) (H : AHeap) : R :=
 guardA t34 true (pFa 1 t3 H fun t36 H =>
 S140_3 call t0 t3 t4 t28 t34 t35 t36 t41 H) (S140_3 call t0 t3 t4 t28 t34 t35 U t41 H)
def S140_6 (_ : CallFn) (q0 : AV → AV → AV → AV → AHeap → R) (t0 t77 t78 t79 : AV) (H : AHeap) : R :=
 pAdd t79 (iN 1) H fun t89 H =>
 q0 t0 t77 t78 t89 H
def S140_5 (call : CallFn) (n : Nat) : AV → AV → AV → AV → AHeap → R :=
 Nat.rec (motive := fun _ => AV → AV → AV → AV → AHeap → R) (fun _ _ _ _ _ => none) (fun _ q0 t0 t77 t78 t79 H => pLss t79 t78 H fun t80 H =>
 onBool t80 (pIa 4 t77 t79 H fun t81 H =>
 ldK (.some 4) H t81 fun t82 H =>
 pNew [(.str []), (.str []), (iN 0), .nilsl] H fun t9 H =>
 stK 4 H t9 t82 fun _ H =>
 pFa 0 t9 H fun t83 H =>
 ldK .none H t83 fun t84 H =>
 pEql t84 (.str [98, 108, 111, 99, 107]) H fun t85 H =>
 onBool t85 (ldK (.some 4) H t9 fun t87 H =>
 pC call n206 [t0, t87, .nilsl] H fun _ H =>
 S140_6 call q0 t0 t77 t78 t79 H) (S140_6 call q0 t0 t77 t78 t79 H)) (some (.tup [], H))) n
def S140_7 (call : CallFn) (t0 t3 t4 t159 t165 t170 : AV) (H : AHeap) : R :=
 pPick t165 (.bool true) t170 H fun t171 H =>
 ldK (.some 4) H t3 fun t172 H =>
 pC call n33 [t159, t171, t172] H fun _ H =>
 pIa 4 t4 (iN 0) H fun t175 H =>
 pFa 0 t175 H fun t176 H =>
 ldK .none H t176 fun t177 H =>
 pEql t177 (.str [99, 97, 108, 108]) H fun t178 H =>
 onBool t178 (pIa 4 t4 (iN 0) H fun t181 H =>
 ldK (.some 4) H t181 fun t182 H =>
 pC call n212 [t0, t182] H fun _ H =>
 some (.tup [], H)) (pIa 4 t4 (iN 0) H fun t186 H =>
 ldK (.some 4) H t186 fun t187 H =>
 pC call n207 [t0, t187] H fun _ H =>
 some (.tup [], H))
def S140_8 (call : CallFn) (t0 t3 t4 t159 t165 t169 : AV) (H : AHeap) : R :=
 guardA t165 false (pEql t169 (.str [114, 101, 99, 118]) H fun t170 H =>
 S140_7 call t0 t3 t4 t159 t165 t170 H) (S140_7 call t0 t3 t4 t159 t165 U H)
def S140_9 (call : CallFn) (t0 t3 t4 t159 t165 t168 : AV) (H : AHeap) : R :=
 guardA t165 false (ldK .none H t168 fun t169 H =>
 S140_8 call t0 t3 t4 t159 t165 t169 H) (S140_8 call t0 t3 t4 t159 t165 U H)
def S140_10 (call : CallFn) (t0 t3 t4 t159 t165 t167 : AV) (H : AHeap) : R :=
 guardA t165 false (pFa 0 t167 H fun t168 H =>
 S140_9 call t0 t3 t4 t159 t165 t168 H) (S140_9 call t0 t3 t4 t159 t165 U H)
def S140_11 (call : CallFn) (t0 t3 t4 t159 t165 t166 : AV) (H : AHeap) : R :=
 guardA t165 false (pIa 4 t166 (iN 0) H fun t167 H =>
 S140_10 call t0 t3 t4 t159 t165 t167 H) (S140_10 call t0 t3 t4 t159 t165 U H)
def S140_12 (call : CallFn) (t0 t3 t4 t15 t68 : AV) (H : AHeap) : R :=
 onBool t68 (pIa 4 t4 (iN 0) H fun t73 H =>
 ldK (.some 4) H t73 fun t74 H =>
 pC call n211 [t0, t74, (.str [98, 111, 111, 108])] H fun _ H =>
 pO (aSlice 4 H t4 (.some (iN 1)) .none .none) H fun t77 H =>
 pO (aLen .sl H t77) H fun t78 H =>
 S140_5 call 1000000 t0 t77 t78 (iN 0) H) (pEql t15 (.str [114, 101, 116, 117, 114, 110]) H fun t91 H =>
 onBool t91 (pIa 4 t4 (iN 0) H fun t93 H =>
 pFa 0 t93 H fun t94 H =>
 ldK .none H t94 fun t95 H =>
 pEql t95 (.str [110, 111, 110, 101]) H fun t96 H =>
 onBool t96 (pO (aNil t0) H fun t99 H =>
 pFa 8 t99 H fun t100 H =>
 pFa 0 t100 H fun t101 H =>
 ldK .none H t101 fun t102 H =>
 pEql t102 (.str [110, 111, 110, 101]) H fun t103 H =>
 ldK (.some 4) H t3 fun t104 H =>
 pC call n33 [t0, t103, t104] H fun _ H =>
 some (.tup [], H)) (pIa 4 t4 (iN 0) H fun t108 H =>
 ldK (.some 4) H t108 fun t109 H =>
 pC call n207 [t0, t109] H fun t110 H =>
 pNew [(.str []), (.str []), (iN 0), .nilsl] H fun t10 H =>
 stK 4 H t10 t110 fun _ H =>
 ldK (.some 4) H t10 fun t112 H =>
 pO (aNil t0) H fun t114 H =>
 pFa 8 t114 H fun t115 H =>
 ldK (.some 4) H t115 fun t116 H =>
 ldK (.some 4) H t3 fun t118 H =>
 pC call n208 [t112, t116] H fun t117 H =>
 andR (andB (ckV (aLoad (.some 4) H t3) t118) true) (
 pC call n33 [t0, t117, t118] H fun _ H =>
 some (.tup [], H)))) (pEql t15 (.str [112, 114, 105, 110, 116]) H fun t121 H =>
 onBool t121 (pIa 4 t4 (iN 0) H fun t124 H =>
 ldK (.some 4) H t124 fun t125 H =>
 pC call n211 [t0, t125, (.str [105, 110, 116])] H fun _ H =>
 some (.tup [], H)) (pEql t15 (.str [99, 108, 111, 115, 101]) H fun t128 H =>
 onBool t128 (pIa 4 t4 (iN 0) H fun t131 H =>
 ldK (.some 4) H t131 fun t132 H =>
 pC call n211 [t0, t132, (.str [99, 104, 97, 110])] H fun _ H =>
 some (.tup [], H)) (pEql t15 (.str [103, 111]) H fun t135 H =>
 onBool t135 (pIa 4 t4 (iN 0) H fun t138 H =>
 ldK (.some 4) H t138 fun t139 H =>
 pC call n212 [t0, t139] H fun t140 H =>
 pNew [(.str []), (.str []), (iN 0), .nilsl] H fun t11 H =>
 stK 4 H t11 t140 fun _ H =>
 pFa 0 t11 H fun t142 H =>
 ldK .none H t142 fun t143 H =>
 pEql t143 (.str [110, 111, 110, 101]) H fun t144 H =>
 ldK (.some 4) H t3 fun t145 H =>
 pC call n33 [t0, t144, t145] H fun _ H =>
 some (.tup [], H)) (pEql t15 (.str [115, 101, 110, 100]) H fun t148 H =>
 onBool t148 (pC call n213 [t0, t4] H fun _ H =>
 some (.tup [], H)) (pEql t15 (.str [115, 101, 108, 101, 99, 116]) H fun t153 H =>
 onBool t153 (ldK (.some 4) H t3 fun t155 H =>
 pC call n214 [t0, t155] H fun _ H =>
 some (.tup [], H)) (pEql t15 (.str [100, 111]) H fun t158 H =>
 onBool t158 (pIa 4 t4 (iN 0) H fun t161 H =>
 pFa 0 t161 H fun t162 H =>
 ldK .none H t162 fun t163 H =>
 pEql t163 (.str [99, 97, 108, 108]) H fun t164 H =>
 guardA t164 false (S140_11 call t0 t3 t4 t0 t164 t4 H) (S140_11 call t0 t3 t4 t0 t164 U H)) (some (.tup [], H)))))))))
def S140_13 (call : CallFn) (t0 t1 : AV) (H : AHeap) : R :=
 pBox t1 H fun t3 H =>
 pFa 3 t3 H fun t12 H =>
 ldK .none H t12 fun t13 H =>
 pFa 0 t3 H fun t14 H =>
 ldK .none H t14 fun t15 H =>
 pEql t15 (.str [98, 108, 111, 99, 107]) H fun t17 H =>
 onBool t17 (ldK (.some 4) H t3 fun t19 H =>
 pC call n206 [t0, t19, .nilsl] H fun _ H =>
 some (.tup [], H)) (pEql t15 (.str [108, 101, 116]) H fun t22 H =>
 onBool t22 (pIa 4 t13 (iN 1) H fun t25 H =>
 ldK (.some 4) H t25 fun t26 H =>
 pC call n207 [t0, t26] H fun t27 H =>
 pNew [(.str []), (.str []), (iN 0), .nilsl] H fun t5 H =>
 stK 4 H t5 t27 fun _ H =>
 ldK (.some 4) H t5 fun t29 H =>
 pIa 4 t13 (iN 0) H fun t31 H =>
 ldK (.some 4) H t31 fun t32 H =>
 ldK (.some 4) H t3 fun t41 H =>
 pC call n208 [t29, t32] H fun t33 H =>
 andR (andB (ckV (aLoad (.some 4) H t3) t41) true) (
 guardA t33 true (S140_4 call t0 t3 t13 t0 t33 t0 t41 H) (S140_4 call t0 t3 t13 t0 t33 U t41 H))) (pEql t15 (.str [115, 101, 116]) H fun t51 H =>
 onBool t51 (pIa 4 t13 (iN 0) H fun t54 H =>
 ldK (.some 4) H t54 fun t55 H =>
 pC call n210 [t0, t55] H fun t56 H =>
 pNew [(.str []), (.str []), (iN 0), .nilsl] H fun t6 H =>
 stK 4 H t6 t56 fun _ H =>
 pIa 4 t13 (iN 1) H fun t59 H =>
 ldK (.some 4) H t59 fun t60 H =>
 pC call n207 [t0, t60] H fun t61 H =>
 pNew [(.str []), (.str []), (iN 0), .nilsl] H fun t7 H =>
 stK 4 H t7 t61 fun _ H =>
 ldK (.some 4) H t6 fun t63 H =>
 ldK (.some 4) H t7 fun t64 H =>
 ldK (.some 4) H t3 fun t66 H =>
 pC call n208 [t63, t64] H fun t65 H =>
 andR (andB (ckV (aLoad (.some 4) H t3) t66) true) (
 pC call n33 [t0, t65, t66] H fun _ H =>
 some (.tup [], H))) (pEql t15 (.str [105, 102]) H fun t69 H =>
 onBool t69 (S140_12 call t0 t3 t13 t15 t69 H) (pEql t15 (.str [119, 104, 105, 108, 101]) H fun t70 H =>
 S140_12 call t0 t3 t13 t15 t70 H))))
def S140 : Ff := ⟨fun call l H => argA2 (fun t0 t1 => S140_13 call t0 t1 H) l⟩
def S144_0 (_ : CallFn) (n : Nat) : AV → AV → AV → AV → AHeap → R :=
 Nat.rec (motive := fun _ => AV → AV → AV → AV → AHeap → R) (fun _ _ _ _ _ => none) (fun _ q0 t5 t32 t33 t34 H => pLss t34 t33 H fun t35 H =>
 onBool t35 (pIa 4 t32 t34 H fun t36 H =>
 ldK (.some 4) H t36 fun t37 H =>
 pNew [(iN 0), (iN 0), (iN 0), (iN 0)] H fun t9 H =>
 stK 4 H t9 t37 fun _ H =>
 pFa 3 t9 H fun t39 H =>
 ldK .none H t39 fun t40 H =>
 pN (aBsl 1 1 [(iN 0)] [(0, 1, t40)]) H fun t41 H =>
 pW (aApp 1 8 H t5 t41) fun t42 H =>
 pAdd t34 (iN 1) H fun t43 H =>
 q0 t42 t32 t33 t43 H) (some (t5, H))) n
def S144_1 (call : CallFn) (t0 t1 : AV) (H : AHeap) : R :=
 pBox t0 H fun t2 H =>
 pBox t1 H fun t3 H =>
 pFa 0 t3 H fun t10 H =>
 ldK .none H t10 fun t11 H =>
 pEql t11 (iN 18) H fun t13 H =>
 onBool t13 (pFa 1 t3 H fun t14 H =>
 ldK .none H t14 fun t15 H =>
 pN (aBsl 1 1 [(iN 0)] [(0, 1, t15)]) H fun t16 H =>
 some (t16, H)) (pEql t11 (iN 19) H fun t18 H =>
 onBool t18 (pFa 2 t3 H fun t19 H =>
 ldK .none H t19 fun t20 H =>
 pN (aBsl 1 1 [(iN 0)] [(0, 1, t20)]) H fun t21 H =>
 some (t21, H)) (ldK (.some 6) H t2 fun t23 H =>
 ldK (.some 5) H t3 fun t24 H =>
 pC call n91 [t23, t24] H fun t25 H =>
 pExt t25 0 H fun t26 H =>
 pExt t25 1 H fun t27 H =>
 pFa 3 t2 H fun t28 H =>
 ldK .none H t28 fun t29 H =>
 pO (aSlice 4 H t29 (.some t26) (.some t27) .none) H fun t32 H =>
 pO (aLen .sl H t32) H fun t33 H =>
 S144_0 call 1000000 .nilsl t32 t33 (iN 0) H))
def S144 : Ff := ⟨fun call l H => argA2 (fun t0 t1 => S144_1 call t0 t1 H) l⟩
def S146_0 (_ : CallFn) (t0 : AV) (H : AHeap) : R :=
 pO (aEq false .sl t0 .nilsl) H fun t4 H =>
 onBool t4 (some (.nilsl, H)) (pN (aBsl 3 0 [(.bool false), (.bool false), (.int .u64 (.ofNat 0))] []) H fun t5 H =>
 pW (aApp 3 16 H t5 t0) fun t7 H =>
 some (t7, H))
def S146 : Ff := ⟨fun call l H => argA1 (fun t0 => S146_0 call t0 H) l⟩
def S147_1 (_ : CallFn) (q0 : AV → AV → AV → AV → AHeap → R) (t0 t6 t7 t8 : AV) (H : AHeap) : R :=
 pAdd t8 (iN 1) H fun t24 H =>
 q0 t0 t6 t7 t24 H
def S147_2 (call : CallFn) (q0 : AV → AV → AV → AV → AHeap → R) (t0 t5 t6 t7 t8 t14 t18 : AV) (H : AHeap) : R :=
 pPick t14 t18 (.bool false) H fun t19 H =>
 onBool t19 (pIa 3 t0 t5 H fun t22 H =>
 pFa 1 t22 H fun t23 H =>
 stK 1 H t23 (.bool false) fun _ H =>
 S147_1 call q0 t0 t6 t7 t8 H) (S147_1 call q0 t0 t6 t7 t8 H)
def S147_0 (call : CallFn) (n : Nat) : AV → AV → AV → AV → AHeap → R :=
 Nat.rec (motive := fun _ => AV → AV → AV → AV → AHeap → R) (fun _ _ _ _ _ => none) (fun _ q0 t0 t6 t7 t8 H => pLss t8 t7 H fun t9 H =>
 onBool t9 (pIa 1 t6 t8 H fun t10 H =>
 ldK .none H t10 fun t11 H =>
 pGeq t11 (iN 0) H fun t13 H =>
 guardA t13 true (pO (aLen .sl H t0) H fun t17 H =>
 pLss t11 t17 H fun t18 H =>
 S147_2 call q0 t0 t11 t6 t7 t8 t13 t18 H) (S147_2 call q0 t0 t11 t6 t7 t8 t13 U H)) (some (.tup [], H))) n
def S147_3 (call : CallFn) (t0 t1 : AV) (H : AHeap) : R :=
 pO (aLen .sl H t1) H fun t7 H =>
 S147_0 call 1000000 t0 t1 t7 (iN 0) H
def S147 : Ff := ⟨fun call l H => argA2 (fun t0 t1 => S147_3 call t0 t1 H) l⟩
def S148_1 (_ : CallFn) (q0 : AV → AV → AV → AV → AHeap → R) (t5 t49 t50 t51 : AV) (H : AHeap) : R :=
 pAdd t51 (iN 1) H fun t63 H =>
 q0 t5 t49 t50 t63 H
def S148_0 (call : CallFn) (n : Nat) : AV → AV → AV → AV → AHeap → R :=
 Nat.rec (motive := fun _ => AV → AV → AV → AV → AHeap → R) (fun _ _ _ _ _ => none) (fun _ q0 t5 t49 t50 t51 H => pLss t51 t50 H fun t52 H =>
 onBool t52 (pIa 4 t49 t51 H fun t53 H =>
 ldK (.some 4) H t53 fun t54 H =>
 pNew [(iN 0), (iN 0), (iN 0), (iN 0)] H fun t7 H =>
 stK 4 H t7 t54 fun _ H =>
 pFa 0 t7 H fun t55 H =>
 ldK .none H t55 fun t56 H =>
 pEql t56 (iN 1) H fun t57 H =>
 onBool t57 (pFa 2 t7 H fun t59 H =>
 ldK .none H t59 fun t60 H =>
 pN (aBsl 1 1 [(iN 0)] [(0, 1, t60)]) H fun t61 H =>
 pW (aApp 1 8 H t5 t61) fun t62 H =>
 S148_1 call q0 t62 t49 t50 t51 H) (S148_1 call q0 t5 t49 t50 t51 H)) (some (t5, H))) n
def S148_2 (call : CallFn) (t2 t3 t29 t38 : AV) (H : AHeap) : R :=
 pPick t29 (.bool true) t38 H fun t39 H =>
 onBool t39 (some (.nilsl, H)) (pFa 3 t2 H fun t40 H =>
 ldK .none H t40 fun t41 H =>
 pFa 1 t3 H fun t42 H =>
 ldK .none H t42 fun t43 H =>
 pFa 1 t3 H fun t44 H =>
 ldK .none H t44 fun t45 H =>
 pFa 2 t3 H fun t46 H =>
 ldK .none H t46 fun t47 H =>
 pAdd t45 t47 H fun t48 H =>
 pO (aSlice 4 H t41 (.some t43) (.some t48) .none) H fun t49 H =>
 pO (aLen .sl H t49) H fun t50 H =>
 S148_0 call 1000000 .nilsl t49 t50 (iN 0) H)
def S148_3 (call : CallFn) (t2 t3 t21 t27 : AV) (H : AHeap) : R :=
 pPick t21 (.bool true) t27 H fun t28 H =>
 guardA t28 false (pFa 2 t3 H fun t30 H =>
 ldK .none H t30 fun t31 H =>
 pFa 3 t2 H fun t32 H =>
 ldK .none H t32 fun t33 H =>
 pO (aLen .sl H t33) H fun t34 H =>
 pFa 1 t3 H fun t35 H =>
 ldK .none H t35 fun t36 H =>
 pSub t34 t36 H fun t37 H =>
 pGtr t31 t37 H fun t38 H =>
 S148_2 call t2 t3 t28 t38 H) (S148_2 call t2 t3 t28 U H)
def S148_4 (call : CallFn) (t2 t3 t16 t19 : AV) (H : AHeap) : R :=
 pPick t16 (.bool true) t19 H fun t20 H =>
 guardA t20 false (pFa 1 t3 H fun t22 H =>
 ldK .none H t22 fun t23 H =>
 pFa 3 t2 H fun t24 H =>
 ldK .none H t24 fun t25 H =>
 pO (aLen .sl H t25) H fun t26 H =>
 pGtr t23 t26 H fun t27 H =>
 S148_3 call t2 t3 t20 t27 H) (S148_3 call t2 t3 t20 U H)
def S148_5 (call : CallFn) (t2 t3 t11 t14 : AV) (H : AHeap) : R :=
 pPick t11 (.bool true) t14 H fun t15 H =>
 guardA t15 false (pFa 2 t3 H fun t17 H =>
 ldK .none H t17 fun t18 H =>
 pLss t18 (iN 0) H fun t19 H =>
 S148_4 call t2 t3 t15 t19 H) (S148_4 call t2 t3 t15 U H)
def S148_6 (call : CallFn) (t0 t1 : AV) (H : AHeap) : R :=
 pBox t0 H fun t2 H =>
 pBox t1 H fun t3 H =>
 pFa 0 t3 H fun t8 H =>
 ldK .none H t8 fun t9 H =>
 pNeq t9 (iN 41) H fun t10 H =>
 guardA t10 false (pFa 1 t3 H fun t12 H =>
 ldK .none H t12 fun t13 H =>
 pLss t13 (iN 0) H fun t14 H =>
 S148_5 call t2 t3 t10 t14 H) (S148_5 call t2 t3 t10 U H)
def S148 : Ff := ⟨fun call l H => argA2 (fun t0 t1 => S148_6 call t0 t1 H) l⟩
def S149_0 (call : CallFn) (t2 t4 t8 : AV) (H : AHeap) : R :=
 pFa 1 t4 H fun t81 H =>
 ldK .none H t81 fun t82 H =>
 pNeq t8 (iN 36) H fun t84 H =>
 pO (someAgg (aFill [(.bool false), (.bool false), (.int .u64 (.ofNat 0))] [(0, 1, (.bool true)), (1, 1, t84)])) H fun t85 H =>
 pC call n235 [t2, t82, t85] H fun _ H =>
 some (t2, H)
def S149_1 (call : CallFn) (n : Nat) : AV → AV → AV → AV → AHeap → R :=
 Nat.rec (motive := fun _ => AV → AV → AV → AV → AHeap → R) (fun _ _ _ _ _ => none) (fun _ q0 t2 t59 t60 t61 H => pLss t61 t60 H fun t62 H =>
 onBool t62 (pIa 1 t59 t61 H fun t63 H =>
 ldK .none H t63 fun t64 H =>
 pO (someAgg (aFill [(.bool false), (.bool false), (.int .u64 (.ofNat 0))] [])) H fun t67 H =>
 pC call n235 [t2, t64, t67] H fun _ H =>
 pAdd t61 (iN 1) H fun t69 H =>
 q0 t2 t59 t60 t69 H) (some (t2, H))) n
def S149_2 (call : CallFn) (t2 t3 t4 : AV) (H : AHeap) : R :=
 ldK (.some 6) H t3 fun t57 H =>
 ldK (.some 5) H t4 fun t58 H =>
 pC call n238 [t57, t58] H fun t59 H =>
 pO (aLen .sl H t59) H fun t60 H =>
 S149_1 call 1000000 t2 t59 t60 (iN 0) H
def S149_3 (call : CallFn) (n : Nat) : AV → AV → AV → AV → AV → AV → AHeap → R :=
 Nat.rec (motive := fun _ => AV → AV → AV → AV → AV → AV → AHeap → R) (fun _ _ _ _ _ _ _ => none) (fun _ q1 t2 t3 t4 t46 t47 t48 H => pLss t48 t47 H fun t49 H =>
 onBool t49 (pIa 1 t46 t48 H fun t50 H =>
 ldK .none H t50 fun t51 H =>
 pO (someAgg (aFill [(.bool false), (.bool false), (.int .u64 (.ofNat 0))] [])) H fun t54 H =>
 pC call n235 [t2, t51, t54] H fun _ H =>
 pAdd t48 (iN 1) H fun t56 H =>
 q1 t2 t3 t4 t46 t47 t56 H) (S149_2 call t2 t3 t4 H)) n
def S149_4 (call : CallFn) (t2 t3 t4 : AV) (H : AHeap) : R :=
 ldK (.some 5) H t4 fun t45 H =>
 pC call n232 [t45] H fun t46 H =>
 pO (aLen .sl H t46) H fun t47 H =>
 S149_3 call 1000000 t2 t3 t4 t46 t47 (iN 0) H
def S149_5 (call : CallFn) (t2 t3 t4 t8 : AV) (H : AHeap) : R :=
 pEql t8 (iN 38) H fun t39 H =>
 onBool t39 (pFa 2 t4 H fun t41 H =>
 ldK .none H t41 fun t42 H =>
 pN (aBsl 1 1 [(iN 0)] [(0, 1, t42)]) H fun t43 H =>
 pC call n147 [t2, t43] H fun _ H =>
 S149_4 call t2 t3 t4 H) (S149_4 call t2 t3 t4 H)
def S149_6 (call : CallFn) (t2 t3 t4 t8 t128 t130 : AV) (H : AHeap) : R :=
 pPick t128 (.bool true) t130 H fun t131 H =>
 onBool t131 (pFa 1 t4 H fun t133 H =>
 ldK .none H t133 fun t134 H =>
 pC call n236 [t2, t134, (.int .u64 (.ofNat 18446744073709551615))] H fun _ H =>
 pFa 3 t4 H fun t137 H =>
 ldK .none H t137 fun t138 H =>
 pN (aBsl 1 1 [(iN 0)] [(0, 1, t138)]) H fun t139 H =>
 pC call n147 [t2, t139] H fun _ H =>
 some (t2, H)) (pC call n237 [t8] H fun t32 H =>
 onBool t32 (ldK (.some 6) H t3 fun t34 H =>
 ldK (.some 5) H t4 fun t35 H =>
 pC call n231 [t34, t35] H fun t36 H =>
 pC call n147 [t2, t36] H fun _ H =>
 S149_5 call t2 t3 t4 t8 H) (S149_5 call t2 t3 t4 t8 H))
def S149_7 (call : CallFn) (t2 t3 t4 t8 t109 t111 : AV) (H : AHeap) : R :=
 pPick t109 (.bool true) t111 H fun t112 H =>
 onBool t112 (pFa 1 t4 H fun t114 H =>
 ldK .none H t114 fun t115 H =>
 pFa 2 t4 H fun t116 H =>
 ldK .none H t116 fun t117 H =>
 pC call n154 [t117] H fun t118 H =>
 andR (andB (ckV (aLoad .none H t114) t115) true) (
 pC call n236 [t2, t115, t118] H fun _ H =>
 pFa 3 t4 H fun t121 H =>
 ldK .none H t121 fun t122 H =>
 pN (aBsl 1 1 [(iN 0)] [(0, 1, t122)]) H fun t123 H =>
 pC call n147 [t2, t123] H fun _ H =>
 some (t2, H))) (pEql t8 (iN 31) H fun t127 H =>
 guardA t127 false (pEql t8 (iN 32) H fun t130 H =>
 S149_6 call t2 t3 t4 t8 t127 t130 H) (S149_6 call t2 t3 t4 t8 t127 U H))
def S149_8 (call : CallFn) (t2 t3 t4 : AV) (H : AHeap) : R :=
 pFa 0 t4 H fun t29 H =>
 ldK .none H t29 fun t30 H =>
 pC call n234 [t30] H fun t72 H =>
 onBool t72 (pEql t30 (iN 36) H fun t74 H =>
 onBool t74 (ldK (.some 6) H t3 fun t76 H =>
 ldK (.some 5) H t4 fun t77 H =>
 pC call n231 [t76, t77] H fun t78 H =>
 pC call n147 [t2, t78] H fun _ H =>
 S149_0 call t2 t4 t30 H) (S149_0 call t2 t4 t30 H)) (pEql t30 (iN 1) H fun t89 H =>
 onBool t89 (pFa 2 t4 H fun t91 H =>
 ldK .none H t91 fun t92 H =>
 pC call n153 [t2, t92] H fun t93 H =>
 pO (aFld 0 .none t93) H fun t94 H =>
 pFa 2 t4 H fun t96 H =>
 ldK .none H t96 fun t97 H =>
 pN (aBsl 1 1 [(iN 0)] [(0, 1, t97)]) H fun t98 H =>
 pC call n147 [t2, t98] H fun _ H =>
 pFa 1 t4 H fun t101 H =>
 ldK .none H t101 fun t102 H =>
 pO (someAgg (aFill [(.bool false), (.bool false), (.int .u64 (.ofNat 0))] [(0, 1, t94)])) H fun t104 H =>
 pC call n235 [t2, t102, t104] H fun _ H =>
 some (t2, H)) (pEql t30 (iN 28) H fun t108 H =>
 guardA t108 false (pEql t30 (iN 29) H fun t111 H =>
 S149_7 call t2 t3 t4 t30 t108 t111 H) (S149_7 call t2 t3 t4 t30 t108 U H)))
def S149_9 (call : CallFn) (n : Nat) : AV → AV → AV → AV → AV → AHeap → R :=
 Nat.rec (motive := fun _ => AV → AV → AV → AV → AV → AHeap → R) (fun _ _ _ _ _ _ => none) (fun _ q2 t2 t3 t4 t20 t21 H => pLss t21 t20 H fun t22 H =>
 onBool t22 (pIa 3 t2 t21 H fun t26 H =>
 pFa 0 t26 H fun t27 H =>
 stK 1 H t27 (.bool false) fun _ H =>
 pAdd t21 (iN 1) H fun t28 H =>
 q2 t2 t3 t4 t20 t28 H) (S149_8 call t2 t3 t4 H)) n
def S149_10 (call : CallFn) (t0 t1 t2 : AV) (H : AHeap) : R :=
 pBox t0 H fun t3 H =>
 pBox t1 H fun t4 H =>
 pC call n146 [t2] H fun t15 H =>
 pFa 0 t4 H fun t16 H =>
 ldK .none H t16 fun t17 H =>
 pC call n233 [t17] H fun t18 H =>
 onBool t18 (pO (aLen .sl H t15) H fun t20 H =>
 S149_9 call 1000000 t15 t3 t4 t20 (iN 0) H) (S149_8 call t15 t3 t4 H)
def S149 : Ff := ⟨fun call l H => argA3 (fun t0 t1 t2 => S149_10 call t0 t1 t2 H) l⟩
def S150_0 (call : CallFn) (t4 t7 : AV) (H : AHeap) : R :=
 pC call n161 [t7, (.fn n239 [] [t4])] H fun t63 H =>
 pC call n240 [t63] H fun _ H =>
 pC call n241 [t63] H fun t67 H =>
 some (t67, H)
def S150_1 (call : CallFn) (n : Nat) : AV → AV → AV → AV → AV → AHeap → R :=
 Nat.rec (motive := fun _ => AV → AV → AV → AV → AV → AHeap → R) (fun _ _ _ _ _ _ => none) (fun _ q0 t4 t7 t49 t50 t51 H => pLss t51 t50 H fun t52 H =>
 onBool t52 (pIa 4 t49 t51 H fun t53 H =>
 ldK (.some 4) H t53 fun t54 H =>
 pNew [(iN 0), (iN 0), (iN 0), (iN 0)] H fun t10 H =>
 stK 4 H t10 t54 fun _ H =>
 pFa 3 t10 H fun t56 H =>
 ldK .none H t56 fun t57 H =>
 pN (aBsl 1 1 [(iN 0)] [(0, 1, t57)]) H fun t58 H =>
 pW (aApp 1 8 H t7 t58) fun t59 H =>
 pAdd t51 (iN 1) H fun t60 H =>
 q0 t4 t59 t49 t50 t60 H) (S150_0 call t4 t7 H)) n
def S150_2 (call : CallFn) (t2 t3 t4 t7 t8 t26 t42 : AV) (H : AHeap) : R :=
 onBool t42 (S150_0 call t4 t7 H) (pEql t26 (iN 41) H fun t46 H =>
 onBool t46 (ldK (.some 6) H t3 fun t47 H =>
 ldK (.some 5) H t8 fun t48 H =>
 pC call n229 [t47, t48] H fun t49 H =>
 pO (aLen .sl H t49) H fun t50 H =>
 S150_1 call 1000000 t4 t7 t49 t50 (iN 0) H) (pAdd t2 (iN 1) H fun t28 H =>
 pN (aBsl 1 1 [(iN 0)] [(0, 1, t28)]) H fun t29 H =>
 S150_0 call t4 t29 H))
def S150_3 (call : CallFn) (t2 t3 t4 t13 t18 : AV) (H : AHeap) : R :=
 pPick t13 (.bool true) t18 H fun t19 H =>
 onBool t19 (some (.nilsl, H)) (pFa 5 t4 H fun t20 H =>
 ldK .none H t20 fun t21 H =>
 pIa 5 t21 t2 H fun t23 H =>
 ldK (.some 5) H t23 fun t24 H =>
 pNew [(iN 0), (iN 0), (iN 0), (iN 0), (iN 0)] H fun t8 H =>
 stK 5 H t8 t24 fun _ H =>
 pFa 0 t8 H fun t25 H =>
 ldK .none H t25 fun t26 H =>
 pEql t26 (iN 18) H fun t31 H =>
 onBool t31 (pFa 1 t8 H fun t32 H =>
 ldK .none H t32 fun t33 H =>
 pN (aBsl 1 1 [(iN 0)] [(0, 1, t33)]) H fun t34 H =>
 S150_0 call t4 t34 H) (pEql t26 (iN 19) H fun t36 H =>
 onBool t36 (pFa 2 t8 H fun t37 H =>
 ldK .none H t37 fun t38 H =>
 pAdd t2 (iN 1) H fun t40 H =>
 pN (aBsl 1 2 [(iN 0)] [(0, 1, t38), (1, 1, t40)]) H fun t41 H =>
 S150_0 call t4 t41 H) (pEql t26 (iN 22) H fun t43 H =>
 onBool t43 (S150_2 call t2 t3 t4 .nilsl t8 t26 t43 H) (pEql t26 (iN 44) H fun t44 H =>
 S150_2 call t2 t3 t4 .nilsl t8 t26 t44 H))))
def S150_4 (call : CallFn) (t0 t1 t2 : AV) (H : AHeap) : R :=
 pBox t0 H fun t3 H =>
 pBox t1 H fun t4 H =>
 pLss t2 (iN 0) H fun t12 H =>
 guardA t12 false (pFa 5 t4 H fun t15 H =>
 ldK .none H t15 fun t16 H =>
 pO (aLen .sl H t16) H fun t17 H =>
 pGeq t2 t17 H fun t18 H =>
 S150_3 call t2 t3 t4 t12 t18 H) (S150_3 call t2 t3 t4 t12 U H)
def S150 : Ff := ⟨fun call l H => argA3 (fun t0 t1 t2 => S150_4 call t0 t1 t2 H) l⟩
def S151_1 (_ : CallFn) (q0 : AV → AV → AV → AV → AV → AHeap → R) (t0 t1 t5 t6 t10 t11 t14 t15 t27 t33 t38 : AV) (H : AHeap) : R :=
 pPick t33 t38 (.bool false) H fun t39 H =>
 pIa 3 t0 t6 H fun t42 H =>
 pFa 2 t42 H fun t43 H =>
 ldK .none H t43 fun t44 H =>
 pIa 3 t1 t6 H fun t47 H =>
 pFa 2 t47 H fun t48 H =>
 ldK .none H t48 fun t49 H =>
 pOr t44 t49 H fun t50 H =>
 pO (someAgg (aFill [(.bool false), (.bool false), (.int .u64 (.ofNat 0))] [(0, 1, t27), (1, 1, t39), (2, 1, t50)])) H fun t51 H =>
 pIa 3 t14 t15 H fun t52 H =>
 stK 3 H t52 t51 fun _ H =>
 pAdd t11 (iN 1) H fun t53 H =>
 q0 t0 t1 t5 t10 t53 H
def S151_2 (call : CallFn) (q0 : AV → AV → AV → AV → AV → AHeap → R) (t0 t1 t5 t6 t10 t11 t14 t15 t27 t33 t37 : AV) (H : AHeap) : R :=
 guardA t33 true (ldK .none H t37 fun t38 H =>
 S151_1 call q0 t0 t1 t5 t6 t10 t11 t14 t15 t27 t33 t38 H) (S151_1 call q0 t0 t1 t5 t6 t10 t11 t14 t15 t27 t33 U H)
def S151_3 (call : CallFn) (q0 : AV → AV → AV → AV → AV → AHeap → R) (t0 t1 t5 t6 t10 t11 t14 t15 t27 t33 t36 : AV) (H : AHeap) : R :=
 guardA t33 true (pFa 1 t36 H fun t37 H =>
 S151_2 call q0 t0 t1 t5 t6 t10 t11 t14 t15 t27 t33 t37 H) (S151_2 call q0 t0 t1 t5 t6 t10 t11 t14 t15 t27 t33 U H)
def S151_4 (call : CallFn) (q0 : AV → AV → AV → AV → AV → AHeap → R) (t0 t1 t5 t6 t10 t11 t14 t15 t27 t33 t34 t35 : AV) (H : AHeap) : R :=
 guardA t33 true (pIa 3 t34 t35 H fun t36 H =>
 S151_3 call q0 t0 t1 t5 t6 t10 t11 t14 t15 t27 t33 t36 H) (S151_3 call q0 t0 t1 t5 t6 t10 t11 t14 t15 t27 t33 U H)
def S151_5 (call : CallFn) (q0 : AV → AV → AV → AV → AV → AHeap → R) (t0 t1 t5 t6 t10 t11 t14 t15 t27 t33 t34 : AV) (H : AHeap) : R :=
 guardA t33 true (S151_4 call q0 t0 t1 t5 t6 t10 t11 t14 t15 t27 t33 t34 t6 H) (S151_4 call q0 t0 t1 t5 t6 t10 t11 t14 t15 t27 t33 t34 U H)
def S151_6 (call : CallFn) (q0 : AV → AV → AV → AV → AV → AHeap → R) (t0 t1 t5 t6 t10 t11 t14 t15 t21 t26 : AV) (H : AHeap) : R :=
 pPick t21 t26 (.bool false) H fun t27 H =>
 pIa 3 t0 t6 H fun t30 H =>
 pFa 1 t30 H fun t31 H =>
 ldK .none H t31 fun t32 H =>
 guardA t32 true (S151_5 call q0 t0 t1 t5 t6 t10 t11 t14 t15 t27 t32 t1 H) (S151_5 call q0 t0 t1 t5 t6 t10 t11 t14 t15 t27 t32 U H)
def S151_7 (call : CallFn) (q0 : AV → AV → AV → AV → AV → AHeap → R) (t0 t1 t5 t6 t10 t11 t14 t15 t21 t25 : AV) (H : AHeap) : R :=
 guardA t21 true (ldK .none H t25 fun t26 H =>
 S151_6 call q0 t0 t1 t5 t6 t10 t11 t14 t15 t21 t26 H) (S151_6 call q0 t0 t1 t5 t6 t10 t11 t14 t15 t21 U H)
def S151_8 (call : CallFn) (q0 : AV → AV → AV → AV → AV → AHeap → R) (t0 t1 t5 t6 t10 t11 t14 t15 t21 t24 : AV) (H : AHeap) : R :=
 guardA t21 true (pFa 0 t24 H fun t25 H =>
 S151_7 call q0 t0 t1 t5 t6 t10 t11 t14 t15 t21 t25 H) (S151_7 call q0 t0 t1 t5 t6 t10 t11 t14 t15 t21 U H)
def S151_9 (call : CallFn) (q0 : AV → AV → AV → AV → AV → AHeap → R) (t0 t1 t5 t6 t10 t11 t14 t15 t21 t22 t23 : AV) (H : AHeap) : R :=
 guardA t21 true (pIa 3 t22 t23 H fun t24 H =>
 S151_8 call q0 t0 t1 t5 t6 t10 t11 t14 t15 t21 t24 H) (S151_8 call q0 t0 t1 t5 t6 t10 t11 t14 t15 t21 U H)
def S151_10 (call : CallFn) (q0 : AV → AV → AV → AV → AV → AHeap → R) (t0 t1 t5 t6 t10 t11 t14 t15 t21 t22 : AV) (H : AHeap) : R :=
 guardA t21 true (S151_9 call q0 t0 t1 t5 t6 t10 t11 t14 t15 t21 t22 t6 H) (S151_9 call q0 t0 t1 t5 t6 t10 t11 t14 t15 t21 t22 U H)
def S151_0 (call : CallFn) (n : Nat) : AV → AV → AV → AV → AV → AHeap → R :=
 Nat.rec (motive := fun _ => AV → AV → AV → AV → AV → AHeap → R) (fun _ _ _ _ _ _ => none) (fun _ q0 t0 t1 t5 t10 t11 H => pLss t11 t10 H fun t12 H =>
 onBool t12 (pIa 3 t0 t11 H fun t18 H =>
 pFa 0 t18 H fun t19 H =>
 ldK .none H t19 fun t20 H =>
 guardA t20 true (S151_10 call q0 t0 t1 t5 t11 t10 t11 t5 t11 t20 t1 H) (S151_10 call q0 t0 t1 t5 t11 t10 t11 t5 t11 t20 U H)) (some (t5, H))) n
def S151_11 (call : CallFn) (t0 t1 : AV) (H : AHeap) : R :=
 pC call n146 [t0] H fun t8 H =>
 pO (aLen .sl H t8) H fun t10 H =>
 S151_0 call 1000000 t0 t1 t8 t10 (iN 0) H
def S151 : Ff := ⟨fun call l H => argA2 (fun t0 t1 => S151_11 call t0 t1 H) l⟩
def S152_0 (_ : CallFn) (n : Nat) : AV → AV → AV → AV → AHeap → R :=
 Nat.rec (motive := fun _ => AV → AV → AV → AV → AHeap → R) (fun _ _ _ _ _ => none) (fun _ q0 t0 t1 t12 t13 H => pLss t13 t12 H fun t14 H =>
 onBool t14 (pIa 3 t0 t13 H fun t18 H =>
 ldK (.some 3) H t18 fun t19 H =>
 pIa 3 t1 t13 H fun t22 H =>
 ldK (.some 3) H t22 fun t23 H =>
 pO (aEq true (.struct [(0, .none, .bool), (1, .none, .bool), (2, .none, .int)]) t19 t23) H fun t24 H =>
 onBool t24 (some ((.bool false), H)) (pAdd t13 (iN 1) H fun t25 H =>
 q0 t0 t1 t12 t25 H)) (some ((.bool true), H))) n
def S152_1 (call : CallFn) (t0 t1 : AV) (H : AHeap) : R :=
 pO (aLen .sl H t0) H fun t7 H =>
 pO (aLen .sl H t1) H fun t9 H =>
 pNeq t7 t9 H fun t10 H =>
 onBool t10 (some ((.bool false), H)) (pO (aLen .sl H t0) H fun t12 H =>
 S152_0 call 1000000 t0 t1 t12 (iN 0) H)
def S152 : Ff := ⟨fun call l H => argA2 (fun t0 t1 => S152_1 call t0 t1 H) l⟩
def S161_0 (_ : CallFn) (t0 t5 : AV) (H : AHeap) : R :=
 pO (aSlice 1 H t0 (.some t5) .none .none) H fun t38 H =>
 pW (unitW (aClearS [(iN 0)] H t38)) fun _ H =>
 pO (aSlice 1 H t0 .none (.some t5) .none) H fun t41 H =>
 some (t41, H)
def S161_2 (_ : CallFn) (q0 : AV → AV → AV → AV → AHeap → R) (t0 t1 t5 t6 : AV) (H : AHeap) : R :=
 pAdd t6 (iN 1) H fun t21 H =>
 q0 t0 t1 t5 t21 H
def S161_1 (call : CallFn) (n : Nat) : AV → AV → AV → AV → AHeap → R :=
 Nat.rec (motive := fun _ => AV → AV → AV → AV → AHeap → R) (fun _ _ _ _ _ => none) (fun _ q0 t0 t1 t5 t6 H => pO (aLen .sl H t0) H fun t18 H =>
 pLss t6 t18 H fun t19 H =>
 onBool t19 (pIa 1 t0 t6 H fun t24 H =>
 ldK .none H t24 fun t25 H =>
 pV call t1 [t25] H fun t28 H =>
 pO (aUn .not t28) H fun t29 H =>
 onBool t29 (pIa 1 t0 t5 H fun t33 H =>
 stK 1 H t33 t25 fun _ H =>
 pAdd t5 (iN 1) H fun t35 H =>
 S161_2 call q0 t0 t1 t35 t6 H) (S161_2 call q0 t0 t1 t5 t6 H)) (S161_0 call t0 t5 H)) n
def S161_3 (call : CallFn) (t0 t1 : AV) (H : AHeap) : R :=
 pC call n244 [t0, t1] H fun t10 H =>
 pEql t10 (.int .i64 (.negSucc 0)) H fun t12 H =>
 onBool t12 (some (t0, H)) (pAdd t10 (iN 1) H fun t15 H =>
 S161_1 call 1000000 t0 t1 t10 t15 H)
def S161 : Ff := ⟨fun call l H => argA2 (fun t0 t1 => S161_3 call t0 t1 H) l⟩
def S162_0 (call : CallFn) (t0 : AV) (H : AHeap) : R :=
 pO (aNil t0) H fun t4 H =>
 pFa 6 t4 H fun t5 H =>
 ldK .none H t5 fun t6 H =>
 pC call n246 [t6] H fun t7 H =>
 pC call n245 [t7] H fun t8 H =>
 some (t8, H)
def S162 : Ff := ⟨fun call l H => argA1 (fun t0 => S162_0 call t0 H) l⟩
def S163_0 (call : CallFn) (t0 t1 t2 : AV) (H : AHeap) : R :=
 ldK .none H t1 fun t5 H =>
 ldK .none H t2 fun t6 H =>
 pC call n164 [t5, t6, t0] H fun t8 H =>
 pO (aLen .sl H t8) H fun t9 H =>
 pEql t9 (iN 0) H fun t10 H =>
 some (t10, H)
def S163 : Ff := ⟨fun call l H => argA3 (fun t0 t1 t2 => S163_0 call t0 t1 t2 H) l⟩
def S164_0 (_ : CallFn) (t11 t12 t74 t76 : AV) (H : AHeap) : R :=
 pPick t74 t76 (.bool false) H fun t77 H =>
 onBool t77 (pO (someAgg (aFill [(iN 0), (iN 0), (iN 0)] [(0, 1, t11), (1, 1, (iN 0)), (2, 1, (.int .i64 (.negSucc 0)))])) H fun t79 H =>
 pN (aBsl 3 1 [(iN 0), (iN 0), (iN 0)] [(0, 3, t79)]) H fun t80 H =>
 some (t80, H)) (some (t12, H))
def S164_1 (call : CallFn) (t11 t12 : AV) (H : AHeap) : R :=
 pO (aLen .sl H t12) H fun t72 H =>
 pEql t72 (iN 0) H fun t73 H =>
 guardA t73 true (pNeq t11 (.int .i64 (.negSucc 0)) H fun t76 H =>
 S164_0 call t11 t12 t73 t76 H) (S164_0 call t11 t12 t73 U H)
def S164_2 (call : CallFn) (n : Nat) : AV → AV → AV → AV → AV → AV → AV → AV → AHeap → R :=
 Nat.rec (motive := fun _ => AV → AV → AV → AV → AV → AV → AV → AV → AHeap → R) (fun _ _ _ _ _ _ _ _ _ => none) (fun _ q0 t0 t1 t2 t11 t12 t57 t58 t59 H => pLss t59 t58 H fun t60 H =>
 onBool t60 (pIa 4 t57 t59 H fun t61 H =>
 ldK (.some 4) H t61 fun t62 H =>
 pNew [(iN 0), (.bool false), (iN 0), (.bool false)] H fun t14 H =>
 stK 4 H t14 t62 fun _ H =>
 ldK (.some 4) H t14 fun t67 H =>
 pC call n248 [t0, t1, t2, t67] H fun t68 H =>
 pW (aApp 3 24 H t12 t68) fun t69 H =>
 pAdd t59 (iN 1) H fun t70 H =>
 q0 t0 t1 t2 t11 t69 t57 t58 t70 H) (S164_1 call t11 t12 H)) n
def S164_3 (call : CallFn) (t0 t1 t2 t7 t8 t42 t45 : AV) (H : AHeap) : R :=
 pPick t42 t45 (.bool false) H fun t46 H =>
 onBool t46 (pO (someAgg (aFill [(iN 0), (iN 0), (iN 0)] [(0, 1, (.int .i64 (.negSucc 0))), (1, 1, (iN 0)), (2, 1, (.int .i64 (.negSucc 0)))])) H fun t47 H =>
 pN (aBsl 3 1 [(iN 0), (iN 0), (iN 0)] [(0, 3, t47)]) H fun t48 H =>
 some (t48, H)) (ldK (.some 5) H t8 fun t53 H =>
 pC call n247 [t0, t1, t7, t53] H fun t54 H =>
 pExt t54 0 H fun t55 H =>
 pExt t54 1 H fun t56 H =>
 pO (aLen .sl H t55) H fun t58 H =>
 S164_2 call 1000000 t0 t1 t2 t56 .nilsl t55 t58 (iN 0) H)
def S164_4 (call : CallFn) (t0 t1 t2 t7 t8 t37 t40 : AV) (H : AHeap) : R :=
 pPick t37 t40 (.bool false) H fun t41 H =>
 guardA t41 true (pFa 0 t8 H fun t43 H =>
 ldK .none H t43 fun t44 H =>
 pNeq t44 (iN 41) H fun t45 H =>
 S164_3 call t0 t1 t2 t7 t8 t41 t45 H) (S164_3 call t0 t1 t2 t7 t8 t41 U H)
def S164_5 (call : CallFn) (t0 t1 t2 : AV) (H : AHeap) : R :=
 pO (aNil t0) H fun t16 H =>
 pFa 6 t16 H fun t17 H =>
 ldK .none H t17 fun t18 H =>
 pO (aLook .int .nilp false H t18 t2) H fun t20 H =>
 pO (aEq false .ptr t20 .nilp) H fun t22 H =>
 onBool t22 (some (.nilsl, H)) (pO (aNil t0) H fun t26 H =>
 pFa 0 t26 H fun t27 H =>
 ldK (.some 6) H t27 fun t28 H =>
 pC call n112 [t20, t28] H fun t29 H =>
 pExt t29 0 H fun t30 H =>
 pExt t29 1 H fun t31 H =>
 pNew [(iN 0), (iN 0), (iN 0), (iN 0), (iN 0)] H fun t8 H =>
 stK 5 H t8 t30 fun _ H =>
 pO (aUn .not t31) H fun t33 H =>
 onBool t33 (some (.nilsl, H)) (pFa 0 t8 H fun t34 H =>
 ldK .none H t34 fun t35 H =>
 pNeq t35 (iN 38) H fun t36 H =>
 guardA t36 true (pFa 0 t8 H fun t38 H =>
 ldK .none H t38 fun t39 H =>
 pNeq t39 (iN 39) H fun t40 H =>
 S164_4 call t0 t1 t2 t20 t8 t36 t40 H) (S164_4 call t0 t1 t2 t20 t8 t36 U H)))
def S164 : Ff := ⟨fun call l H => argA3 (fun t0 t1 t2 => S164_5 call t0 t1 t2 H) l⟩
def S165_0 (call : CallFn) (t0 t1 : AV) (H : AHeap) : R :=
 pI Tryz.prog call t1 "Stacks" [] H fun t8 H =>
 pC call n249 [t8] H fun t9 H =>
 pC call n161 [t9, (.fn n250 [t0] [])] H fun t12 H =>
 pO (aLen .sl H t12) H fun t14 H =>
 pEql t14 (iN 0) H fun t15 H =>
 onBool t15 (some (.tup [(iN 0), (.bool false)], H)) (pC call n251 [t12] H fun t17 H =>
 some (.tup [t17, (.bool true)], H))
def S165 : Ff := ⟨fun call l H => argA2 (fun t0 t1 => S165_0 call t0 t1 H) l⟩
def S167_0 (call : CallFn) (n : Nat) : AV → AV → AV → AV → AHeap → R :=
 Nat.rec (motive := fun _ => AV → AV → AV → AV → AHeap → R) (fun _ _ _ _ _ => none) (fun _ q0 t0 t19 t20 t21 H => pLss t21 t20 H fun t22 H =>
 onBool t22 (pIa 1 t19 t21 H fun t23 H =>
 ldK .none H t23 fun t24 H =>
 pC call n255 [t0, t24] H fun _ H =>
 pAdd t21 (iN 1) H fun t28 H =>
 q0 t0 t19 t20 t28 H) (some ((.bool true), H))) n
def S167_1 (call : CallFn) (t0 : AV) (H : AHeap) : R :=
 pO (aNil t0) H fun t9 H =>
 pFa 2 t9 H fun t10 H =>
 ldK .none H t10 fun t11 H =>
 pC call n253 [t11] H fun t12 H =>
 pExt t12 0 H fun t13 H =>
 pExt t12 1 H fun t14 H =>
 pO (aUn .not t14) H fun t16 H =>
 onBool t16 (some ((.bool false), H)) (pC call n254 [t0, t13] H fun t19 H =>
 pO (aLen .sl H t19) H fun t20 H =>
 S167_0 call 1000000 t0 t19 t20 (iN 0) H)
def S167 : Ff := ⟨fun call l H => argA1 (fun t0 => S167_1 call t0 H) l⟩
def S169_0 (call : CallFn) (n : Nat) : AV → AV → AV → AV → AHeap → R :=
 Nat.rec (motive := fun _ => AV → AV → AV → AV → AHeap → R) (fun _ _ _ _ _ => none) (fun _ q0 t0 t8 t9 t10 H => pLss t10 t9 H fun t11 H =>
 onBool t11 (pIa 1 t8 t10 H fun t13 H =>
 ldK .none H t13 fun t14 H =>
 onBool t14 (pC call n257 [t0, t10] H fun _ H =>
 some ((.bool true), H)) (pAdd t10 (iN 1) H fun t19 H =>
 q0 t0 t8 t9 t19 H)) (some ((.bool false), H))) n
def S169_1 (call : CallFn) (t0 : AV) (H : AHeap) : R :=
 pO (aNil t0) H fun t6 H =>
 pFa 1 t6 H fun t7 H =>
 ldK .none H t7 fun t8 H =>
 pO (aLen .sl H t8) H fun t9 H =>
 S169_0 call 1000000 t0 t8 t9 (iN 0) H
def S169 : Ff := ⟨fun call l H => argA1 (fun t0 => S169_1 call t0 H) l⟩
def S172_0 (call : CallFn) (n : Nat) : AV → AV → AV → AV → AHeap → R :=
 Nat.rec (motive := fun _ => AV → AV → AV → AV → AHeap → R) (fun _ _ _ _ _ => none) (fun _ q0 t0 t6 t7 t8 H => pLss t8 t7 H fun t9 H =>
 onBool t9 (pIa 1 t6 t8 H fun t10 H =>
 ldK .none H t10 fun t11 H =>
 pO (aNil t0) H fun t13 H =>
 pFa 3 t13 H fun t14 H =>
 ldK .none H t14 fun t15 H =>
 pC call n255 [t15, t11] H fun _ H =>
 pAdd t8 (iN 1) H fun t18 H =>
 q0 t0 t6 t7 t18 H) (some (.tup [], H))) n
def S172_1 (call : CallFn) (t0 t1 : AV) (H : AHeap) : R :=
 pO (aLen .sl H t1) H fun t7 H =>
 S172_0 call 1000000 t0 t1 t7 (iN 0) H
def S172 : Ff := ⟨fun call l H => argA2 (fun t0 t1 => S172_1 call t0 t1 H) l⟩
def S173_0 (_ : CallFn) (t0 : AV) (H : AHeap) : R :=
 pO (aNil t0) H fun t4 H =>
 pFa 0 t4 H fun t5 H =>
 ldK .none H t5 fun t6 H =>
 pO (aLen .sl H t6) H fun t7 H =>
 pEql t7 (iN 0) H fun t8 H =>
 onBool t8 (some (.nilp, H)) (pO (aNil t0) H fun t10 H =>
 pFa 0 t10 H fun t11 H =>
 ldK .none H t11 fun t12 H =>
 pO (aNil t0) H fun t14 H =>
 pFa 0 t14 H fun t15 H =>
 ldK .none H t15 fun t16 H =>
 pO (aLen .sl H t16) H fun t17 H =>
 pSub t17 (iN 1) H fun t18 H =>
 pIa 3 t12 t18 H fun t19 H =>
 some (t19, H))
def S173 : Ff := ⟨fun call l H => argA1 (fun t0 => S173_0 call t0 H) l⟩
def S174_0 (call : CallFn) (t0 : AV) (H : AHeap) : R :=
 pBox t0 H fun t1 H =>
 pNew [(iN 0), (iN 0), .nilsl] H fun t2 H =>
 pFa 2 t1 H fun t3 H =>
 ldK .none H t3 fun t4 H =>
 pC call n101 [t4] H fun t5 H =>
 pFa 2 t1 H fun t6 H =>
 stK 1 H t6 t5 fun _ H =>
 ldK (.some 3) H t1 fun t7 H =>
 stK 3 H t2 t7 fun _ H =>
 ob (allM (fun o => o) [aLoad (.some 3) H t2]) fun vs => some (resV vs, H)
def S174 : Ff := ⟨fun call l H => argA1 (fun t0 => S174_0 call t0 H) l⟩
def S175_0 (call : CallFn) (t0 : AV) (H : AHeap) : R :=
 pO (aNil t0) H fun t7 H =>
 pFa 3 t7 H fun t8 H =>
 ldK (.some 5) H t8 fun t9 H =>
 pO (aNil t0) H fun t11 H =>
 pFa 2 t11 H fun t12 H =>
 ldK .none H t12 fun t13 H =>
 pNew [(iN 0), (iN 0), (iN 0), (iN 0), (iN 0)] H fun t2 H =>
 stK 5 H t2 t9 fun _ H =>
 andR (andB (ckV (aLoad .none H t12) t13) true) (
 pFa 0 t2 H fun t14 H =>
 ldK .none H t14 fun t15 H =>
 pEql t15 (iN 0) H fun t40 H =>
 onBool t40 (pO (aNil t0) H fun t43 H =>
 pFa 0 t43 H fun t44 H =>
 ldK .none H t44 fun t45 H =>
 pO (aNil t45) H fun t46 H =>
 pFa 0 t46 H fun t47 H =>
 pFa 2 t47 H fun t48 H =>
 ldK .none H t48 fun t49 H =>
 pFa 2 t2 H fun t50 H =>
 ldK .none H t50 fun t51 H =>
 pIa 1 t49 t51 H fun t52 H =>
 ldK .none H t52 fun t53 H =>
 pC call n261 [t0, t53] H fun _ H =>
 some (.tup [], H)) (pEql t15 (iN 1) H fun t56 H =>
 onBool t56 (pFa 2 t2 H fun t59 H =>
 ldK .none H t59 fun t60 H =>
 pC call n179 [t13, t60] H fun t61 H =>
 pC call n261 [t0, t61] H fun _ H =>
 some (.tup [], H)) (pEql t15 (iN 2) H fun t64 H =>
 onBool t64 (pC call n261 [t0, (iN 0)] H fun _ H =>
 some (.tup [], H)) (pEql t15 (iN 17) H fun t68 H =>
 onBool t68 (pFa 2 t2 H fun t71 H =>
 ldK .none H t71 fun t72 H =>
 pC call n179 [t13, t72] H fun t73 H =>
 pEql t73 (iN 0) H fun t74 H =>
 pC call n262 [t74] H fun t75 H =>
 pC call n261 [t0, t75] H fun _ H =>
 some (.tup [], H)) (pEql t15 (iN 18) H fun t78 H =>
 onBool t78 (pFa 1 t2 H fun t80 H =>
 ldK .none H t80 fun t81 H =>
 pC call n263 [t13, t81] H fun _ H =>
 some (.tup [], H)) (pEql t15 (iN 19) H fun t84 H =>
 onBool t84 (pC call n180 [t0] H fun _ H =>
 pFa 1 t2 H fun t88 H =>
 ldK .none H t88 fun t89 H =>
 pC call n179 [t13, t89] H fun t90 H =>
 pNeq t90 (iN 0) H fun t91 H =>
 onBool t91 (pFa 2 t2 H fun t93 H =>
 ldK .none H t93 fun t94 H =>
 pC call n263 [t13, t94] H fun _ H =>
 some (.tup [], H)) (some (.tup [], H))) (pEql t15 (iN 43) H fun t97 H =>
 onBool t97 (pC call n180 [t0] H fun _ H =>
 some (.tup [], H)) (pFa 0 t2 H fun t17 H =>
 ldK .none H t17 fun t18 H =>
 pFa 2 t2 H fun t20 H =>
 ldK .none H t20 fun t21 H =>
 pFa 3 t2 H fun t24 H =>
 ldK .none H t24 fun t25 H =>
 pC call n179 [t13, t21] H fun t22 H =>
 andR (andB (ckV (aLoad .none H t17) t18) (andB (ckV (aLoad .none H t24) t25) true)) (
 pC call n179 [t13, t25] H fun t26 H =>
 andR (andB (ckV (aLoad .none H t17) t18) true) (
 pC call n264 [t18, t22, t26] H fun t27 H =>
 pExt t27 0 H fun t28 H =>
 pExt t27 1 H fun t29 H =>
 onBool t29 (pC call n261 [t0, t28] H fun _ H =>
 some (.tup [], H)) (pO (aNil t0) H fun t35 H =>
 pFa 0 t35 H fun t36 H =>
 ldK .none H t36 fun t37 H =>
 pC call n181 [t37, (iN 3)] H fun _ H =>
 some (.tup [], H))))))))))))
def S175 : Ff := ⟨fun call l H => argA1 (fun t0 => S175_0 call t0 H) l⟩
def S179_0 (_ : CallFn) (t1 t5 t14 t21 : AV) (H : AHeap) : R :=
 pPick t14 (.bool true) t21 H fun t22 H =>
 onBool t22 (some ((iN 0), H)) (pO (aNil t5) H fun t24 H =>
 pFa 2 t24 H fun t25 H =>
 ldK .none H t25 fun t26 H =>
 pIa 1 t26 t1 H fun t28 H =>
 ldK .none H t28 fun t29 H =>
 some (t29, H))
def S179_1 (call : CallFn) (t1 t5 t10 t12 : AV) (H : AHeap) : R :=
 pPick t10 (.bool true) t12 H fun t13 H =>
 guardA t13 false (pO (aNil t5) H fun t17 H =>
 pFa 2 t17 H fun t18 H =>
 ldK .none H t18 fun t19 H =>
 pO (aLen .sl H t19) H fun t20 H =>
 pGeq t1 t20 H fun t21 H =>
 S179_0 call t1 t5 t13 t21 H) (S179_0 call t1 t5 t13 U H)
def S179_2 (call : CallFn) (t0 t1 : AV) (H : AHeap) : R :=
 pC call n173 [t0] H fun t7 H =>
 pO (aEq false .ptr t7 .nilp) H fun t9 H =>
 guardA t9 false (pLss t1 (iN 0) H fun t12 H =>
 S179_1 call t1 t7 t9 t12 H) (S179_1 call t1 t7 t9 U H)
def S179 : Ff := ⟨fun call l H => argA2 (fun t0 t1 => S179_2 call t0 t1 H) l⟩
def S180_0 (call : CallFn) (t0 : AV) (H : AHeap) : R :=
 pO (aNil t0) H fun t3 H =>
 pFa 2 t3 H fun t4 H =>
 ldK .none H t4 fun t5 H =>
 pO (aNil t0) H fun t7 H =>
 pFa 15 t7 H fun t8 H =>
 ldK .none H t8 fun t9 H =>
 pAdd t9 (iN 1) H fun t10 H =>
 pC call n263 [t5, t10] H fun _ H =>
 some (.tup [], H)
def S180 : Ff := ⟨fun call l H => argA1 (fun t0 => S180_0 call t0 H) l⟩
def S185_0 (_ : CallFn) (t0 : AV) (H : AHeap) : R :=
 pO (aBin .shl t0 (.int .u64 (.ofNat 1))) H fun t4 H =>
 pO (aBin .shr t4 (.int .u64 (.ofNat 1))) H fun t5 H =>
 some (t5, H)
def S185 : Ff := ⟨fun call l H => argA1 (fun t0 => S185_0 call t0 H) l⟩
def S188_0 (_ : CallFn) (n : Nat) : AV → AV → AV → AV → AHeap → R :=
 Nat.rec (motive := fun _ => AV → AV → AV → AV → AHeap → R) (fun _ _ _ _ _ => none) (fun _ q0 t0 t1 t7 t8 H => pLss t8 t7 H fun t9 H =>
 onBool t9 (pIa 1 t0 t8 H fun t14 H =>
 ldK .none H t14 fun t15 H =>
 pEql t1 t15 H fun t16 H =>
 onBool t16 (some (t8, H)) (pAdd t8 (iN 1) H fun t18 H =>
 q0 t0 t1 t7 t18 H)) (some ((.int .i64 (.negSucc 0)), H))) n
def S188_1 (call : CallFn) (t0 t1 : AV) (H : AHeap) : R :=
 pO (aLen .sl H t0) H fun t7 H =>
 S188_0 call 1000000 t0 t1 t7 (iN 0) H
def S188 : Ff := ⟨fun call l H => argA2 (fun t0 t1 => S188_1 call t0 t1 H) l⟩
def S189_0 (_ : CallFn) (t31 t39 : AV) (H : AHeap) : R :=
 pPick t31 t39 (.bool false) H fun t40 H =>
 some (t40, H)
def S189_1 (call : CallFn) (t1 t31 t32 t33 t34 t38 : AV) (H : AHeap) : R :=
 andR (andB (gdB t31 true (ckV (aLoad .none H t1) t32)) (andB (gdB t31 true (ckV (aLoad .none H t33) t34)) true)) (
 guardA t31 true (pC call n293 [t32, t34, t38] H fun t39 H =>
 S189_0 call t31 t39 H) (S189_0 call t31 U H))
def S189_2 (call : CallFn) (t1 t31 t32 t33 t34 t35 t37 : AV) (H : AHeap) : R :=
 guardA t31 true (pC call n294 [t35, t37] H fun t38 H =>
 S189_1 call t1 t31 t32 t33 t34 t38 H) (S189_1 call t1 t31 t32 t33 t34 U H)
def S189_3 (call : CallFn) (t1 t31 t32 t33 t34 t35 t36 : AV) (H : AHeap) : R :=
 guardA t31 true (ldK .none H t36 fun t37 H =>
 S189_2 call t1 t31 t32 t33 t34 t35 t37 H) (S189_2 call t1 t31 t32 t33 t34 t35 U H)
def S189_4 (call : CallFn) (t1 t3 t31 t32 t33 t34 t35 : AV) (H : AHeap) : R :=
 guardA t31 true (pFa 2 t3 H fun t36 H =>
 S189_3 call t1 t31 t32 t33 t34 t35 t36 H) (S189_3 call t1 t31 t32 t33 t34 t35 U H)
def S189_5 (call : CallFn) (t1 t3 t31 t32 t33 t34 : AV) (H : AHeap) : R :=
 guardA t31 true (ldK .none H t1 fun t35 H =>
 S189_4 call t1 t3 t31 t32 t33 t34 t35 H) (S189_4 call t1 t3 t31 t32 t33 t34 U H)
def S189_6 (call : CallFn) (t1 t3 t31 t32 t33 : AV) (H : AHeap) : R :=
 guardA t31 true (ldK .none H t33 fun t34 H =>
 S189_5 call t1 t3 t31 t32 t33 t34 H) (S189_5 call t1 t3 t31 t32 t33 U H)
def S189_7 (call : CallFn) (t1 t3 t31 t32 : AV) (H : AHeap) : R :=
 guardA t31 true (pFa 3 t3 H fun t33 H =>
 S189_6 call t1 t3 t31 t32 t33 H) (S189_6 call t1 t3 t31 t32 U H)
def S189_8 (_ : CallFn) (t54 t60 : AV) (H : AHeap) : R :=
 pPick t54 t60 (.bool false) H fun t61 H =>
 some (t61, H)
def S189_9 (call : CallFn) (t1 t3 t48 t52 : AV) (H : AHeap) : R :=
 pPick t48 t52 (.bool false) H fun t53 H =>
 guardA t53 true (ldK .none H t1 fun t55 H =>
 pFa 3 t3 H fun t56 H =>
 ldK .none H t56 fun t57 H =>
 pFa 4 t3 H fun t58 H =>
 ldK .none H t58 fun t59 H =>
 pC call n293 [t55, t57, t59] H fun t60 H =>
 S189_8 call t53 t60 H) (S189_8 call t53 U H)
def S189_10 (_ : CallFn) (t87 t93 : AV) (H : AHeap) : R :=
 pPick t87 t93 (.bool false) H fun t94 H =>
 some (t94, H)
def S189_11 (_ : CallFn) (t109 t115 : AV) (H : AHeap) : R :=
 pPick t109 t115 (.bool false) H fun t116 H =>
 some (t116, H)
def S189_12 (_ : CallFn) (t130 t134 : AV) (H : AHeap) : R :=
 pPick t130 t134 (.bool false) H fun t135 H =>
 some (t135, H)
def S189_13 (call : CallFn) (t3 t4 t124 t128 : AV) (H : AHeap) : R :=
 pPick t124 t128 (.bool false) H fun t129 H =>
 guardA t129 true (ldK .none H t4 fun t131 H =>
 pFa 3 t3 H fun t132 H =>
 ldK .none H t132 fun t133 H =>
 pV call t131 [t133] H fun t134 H =>
 S189_12 call t129 t134 H) (S189_12 call t129 U H)
def S189_14 (call : CallFn) (t1 t3 t4 t5 t20 t22 : AV) (H : AHeap) : R :=
 pPick t20 (.bool true) t22 H fun t23 H =>
 onBool t23 (some ((.bool false), H)) (pEql t5 (iN 20) H fun t26 H =>
 onBool t26 (ldK .none H t4 fun t27 H =>
 pFa 1 t3 H fun t28 H =>
 ldK .none H t28 fun t29 H =>
 pV call t27 [t29] H fun t30 H =>
 guardA t30 true (ldK .none H t1 fun t32 H =>
 S189_7 call t1 t3 t30 t32 H) (S189_7 call t1 t3 t30 U H)) (pEql t5 (iN 21) H fun t43 H =>
 onBool t43 (ldK .none H t4 fun t44 H =>
 pFa 1 t3 H fun t45 H =>
 ldK .none H t45 fun t46 H =>
 pV call t44 [t46] H fun t47 H =>
 guardA t47 true (ldK .none H t1 fun t49 H =>
 pFa 2 t3 H fun t50 H =>
 ldK .none H t50 fun t51 H =>
 pC call n292 [t49, t51] H fun t52 H =>
 S189_9 call t1 t3 t47 t52 H) (S189_9 call t1 t3 t47 U H)) (pEql t5 (iN 22) H fun t64 H =>
 onBool t64 (ldK .none H t4 fun t65 H =>
 pFa 1 t3 H fun t66 H =>
 ldK .none H t66 fun t67 H =>
 pV call t65 [t67] H fun t68 H =>
 some (t68, H)) (pEql t5 (iN 23) H fun t71 H =>
 onBool t71 (ldK .none H t1 fun t72 H =>
 pFa 2 t3 H fun t73 H =>
 ldK .none H t73 fun t74 H =>
 ldK .none H t1 fun t75 H =>
 pFa 1 t3 H fun t76 H =>
 ldK .none H t76 fun t77 H =>
 pC call n294 [t75, t77] H fun t78 H =>
 andR (andB (ckV (aLoad .none H t1) t72) (andB (ckV (aLoad .none H t73) t74) true)) (
 pC call n293 [t72, t74, t78] H fun t79 H =>
 some (t79, H))) (pEql t5 (iN 24) H fun t82 H =>
 onBool t82 (ldK .none H t1 fun t83 H =>
 pFa 1 t3 H fun t84 H =>
 ldK .none H t84 fun t85 H =>
 pC call n292 [t83, t85] H fun t86 H =>
 guardA t86 true (ldK .none H t1 fun t88 H =>
 pFa 2 t3 H fun t89 H =>
 ldK .none H t89 fun t90 H =>
 pFa 3 t3 H fun t91 H =>
 ldK .none H t91 fun t92 H =>
 pC call n293 [t88, t90, t92] H fun t93 H =>
 S189_10 call t86 t93 H) (S189_10 call t86 U H)) (pEql t5 (iN 36) H fun t97 H =>
 onBool t97 (ldK .none H t1 fun t99 H =>
 pFa 2 t3 H fun t100 H =>
 ldK .none H t100 fun t101 H =>
 pC call n295 [t99, t101] H fun t102 H =>
 pExt t102 0 H fun t103 H =>
 pExt t102 1 H fun _ H =>
 pNew [(iN 0), (iN 0), (iN 0), (iN 0), .nilsl, .nilsl, .nilsl] H fun t6 H =>
 stK 7 H t6 t103 fun _ H =>
 ldK .none H t1 fun t105 H =>
 pFa 1 t3 H fun t106 H =>
 ldK .none H t106 fun t107 H =>
 pC call n292 [t105, t107] H fun t108 H =>
 guardA t108 true (ldK .none H t1 fun t110 H =>
 pFa 3 t3 H fun t111 H =>
 ldK .none H t111 fun t112 H =>
 pFa 1 t6 H fun t113 H =>
 ldK .none H t113 fun t114 H =>
 pC call n293 [t110, t112, t114] H fun t115 H =>
 S189_11 call t108 t115 H) (S189_11 call t108 U H)) (pEql t5 (iN 39) H fun t119 H =>
 onBool t119 (ldK .none H t4 fun t120 H =>
 pFa 1 t3 H fun t121 H =>
 ldK .none H t121 fun t122 H =>
 pV call t120 [t122] H fun t123 H =>
 guardA t123 true (ldK .none H t1 fun t125 H =>
 pFa 2 t3 H fun t126 H =>
 ldK .none H t126 fun t127 H =>
 pC call n292 [t125, t127] H fun t128 H =>
 S189_13 call t3 t4 t123 t128 H) (S189_13 call t3 t4 t123 U H)) (pEql t5 (iN 41) H fun t138 H =>
 onBool t138 (ldK .none H t1 fun t140 H =>
 pC call n296 [t140] H fun t141 H =>
 pExt t141 0 H fun t142 H =>
 pExt t141 1 H fun _ H =>
 pC call n297 [t142, (.fn n298 [] [t1, t4])] H fun t146 H =>
 pO (aUn .not t146) H fun t147 H =>
 some (t147, H)) (ldK .none H t1 fun t148 H =>
 pO (aNil t148) H fun t149 H =>
 pFa 0 t149 H fun t150 H =>
 ldK (.some 6) H t150 fun t151 H =>
 ldK (.some 5) H t3 fun t152 H =>
 ldK (.some 5) H t3 fun t154 H =>
 pC call n231 [t151, t152] H fun t153 H =>
 andR (andB (ckV (aLoad (.some 5) H t3) t154) true) (
 pC call n232 [t154] H fun t155 H =>
 pW (aApp 1 8 H t153 t155) fun t156 H =>
 pC call n299 [t156, (.fn n300 [] [t1])] H fun t158 H =>
 pO (aUn .not t158) H fun t159 H =>
 some (t159, H)))))))))))
def S189_15 (call : CallFn) (t0 : AV) (H : AHeap) : R :=
 pBox t0 H fun t1 H =>
 ldK .none H t1 fun t10 H =>
 pO (aNil t10) H fun t11 H =>
 pFa 17 t11 H fun t12 H =>
 ldK (.some 5) H t12 fun t13 H =>
 pNew [(iN 0), (iN 0), (iN 0), (iN 0), (iN 0)] H fun t3 H =>
 stK 5 H t3 t13 fun _ H =>
 pNew [.nilfn] H fun t4 H =>
 stK 1 H t4 (.fn n291 [] [t1]) fun _ H =>
 pFa 0 t3 H fun t15 H =>
 ldK .none H t15 fun t16 H =>
 pLss t16 (iN 0) H fun t19 H =>
 guardA t19 false (pGtr t16 (iN 44) H fun t22 H =>
 S189_14 call t1 t3 t4 t16 t19 t22 H) (S189_14 call t1 t3 t4 t16 t19 U H)
def S189 : Ff := ⟨fun call l H => argA1 (fun t0 => S189_15 call t0 H) l⟩
def S190_0 (_ : CallFn) (t21 t30 : AV) (H : AHeap) : R :=
 pPick t21 t30 (.bool false) H fun t31 H =>
 some (t31, H)
def S190_1 (call : CallFn) (t21 t23 t29 : AV) (H : AHeap) : R :=
 guardA t21 true (pLss t23 t29 H fun t30 H =>
 S190_0 call t21 t30 H) (S190_0 call t21 U H)
def S190_2 (call : CallFn) (t21 t23 t28 : AV) (H : AHeap) : R :=
 guardA t21 true (pO (aLen .sl H t28) H fun t29 H =>
 S190_1 call t21 t23 t29 H) (S190_1 call t21 t23 U H)
def S190_3 (call : CallFn) (t21 t23 t27 : AV) (H : AHeap) : R :=
 guardA t21 true (ldK .none H t27 fun t28 H =>
 S190_2 call t21 t23 t28 H) (S190_2 call t21 t23 U H)
def S190_4 (call : CallFn) (t21 t23 t26 : AV) (H : AHeap) : R :=
 guardA t21 true (pFa 2 t26 H fun t27 H =>
 S190_3 call t21 t23 t27 H) (S190_3 call t21 t23 U H)
def S190_5 (call : CallFn) (t21 t23 t25 : AV) (H : AHeap) : R :=
 guardA t21 true (pFa 0 t25 H fun t26 H =>
 S190_4 call t21 t23 t26 H) (S190_4 call t21 t23 U H)
def S190_6 (call : CallFn) (t21 t23 t24 : AV) (H : AHeap) : R :=
 guardA t21 true (pO (aNil t24) H fun t25 H =>
 S190_5 call t21 t23 t25 H) (S190_5 call t21 t23 U H)
def S190_7 (call : CallFn) (t0 t21 t23 : AV) (H : AHeap) : R :=
 guardA t21 true (S190_6 call t21 t23 t0 H) (S190_6 call t21 t23 U H)
def S190_8 (call : CallFn) (t0 t21 t22 : AV) (H : AHeap) : R :=
 guardA t21 true (ldK .none H t22 fun t23 H =>
 S190_7 call t0 t21 t23 H) (S190_7 call t0 t21 U H)
def S190_9 (_ : CallFn) (t55 t64 : AV) (H : AHeap) : R :=
 pPick t55 t64 (.bool false) H fun t65 H =>
 some (t65, H)
def S190_10 (call : CallFn) (t55 t57 t63 : AV) (H : AHeap) : R :=
 guardA t55 true (pLss t57 t63 H fun t64 H =>
 S190_9 call t55 t64 H) (S190_9 call t55 U H)
def S190_11 (call : CallFn) (t55 t57 t62 : AV) (H : AHeap) : R :=
 guardA t55 true (pO (aLen .sl H t62) H fun t63 H =>
 S190_10 call t55 t57 t63 H) (S190_10 call t55 t57 U H)
def S190_12 (call : CallFn) (t55 t57 t61 : AV) (H : AHeap) : R :=
 guardA t55 true (ldK .none H t61 fun t62 H =>
 S190_11 call t55 t57 t62 H) (S190_11 call t55 t57 U H)
def S190_13 (call : CallFn) (t55 t57 t60 : AV) (H : AHeap) : R :=
 guardA t55 true (pFa 1 t60 H fun t61 H =>
 S190_12 call t55 t57 t61 H) (S190_12 call t55 t57 U H)
def S190_14 (call : CallFn) (t55 t57 t59 : AV) (H : AHeap) : R :=
 guardA t55 true (pFa 0 t59 H fun t60 H =>
 S190_13 call t55 t57 t60 H) (S190_13 call t55 t57 U H)
def S190_15 (call : CallFn) (t55 t57 t58 : AV) (H : AHeap) : R :=
 guardA t55 true (pO (aNil t58) H fun t59 H =>
 S190_14 call t55 t57 t59 H) (S190_14 call t55 t57 U H)
def S190_16 (call : CallFn) (t0 t55 t57 : AV) (H : AHeap) : R :=
 guardA t55 true (S190_15 call t55 t57 t0 H) (S190_15 call t55 t57 U H)
def S190_17 (call : CallFn) (t0 t55 t56 : AV) (H : AHeap) : R :=
 guardA t55 true (ldK .none H t56 fun t57 H =>
 S190_16 call t0 t55 t57 H) (S190_16 call t0 t55 U H)
def S190_18 (_ : CallFn) (t71 t80 : AV) (H : AHeap) : R :=
 pPick t71 t80 (.bool false) H fun t81 H =>
 some (t81, H)
def S190_19 (call : CallFn) (t71 t73 t79 : AV) (H : AHeap) : R :=
 guardA t71 true (pLss t73 t79 H fun t80 H =>
 S190_18 call t71 t80 H) (S190_18 call t71 U H)
def S190_20 (call : CallFn) (t71 t73 t78 : AV) (H : AHeap) : R :=
 guardA t71 true (pO (aLen .sl H t78) H fun t79 H =>
 S190_19 call t71 t73 t79 H) (S190_19 call t71 t73 U H)
def S190_21 (call : CallFn) (t71 t73 t77 : AV) (H : AHeap) : R :=
 guardA t71 true (ldK .none H t77 fun t78 H =>
 S190_20 call t71 t73 t78 H) (S190_20 call t71 t73 U H)
def S190_22 (call : CallFn) (t71 t73 t76 : AV) (H : AHeap) : R :=
 guardA t71 true (pFa 1 t76 H fun t77 H =>
 S190_21 call t71 t73 t77 H) (S190_21 call t71 t73 U H)
def S190_23 (call : CallFn) (t71 t73 t75 : AV) (H : AHeap) : R :=
 guardA t71 true (pFa 0 t75 H fun t76 H =>
 S190_22 call t71 t73 t76 H) (S190_22 call t71 t73 U H)
def S190_24 (call : CallFn) (t71 t73 t74 : AV) (H : AHeap) : R :=
 guardA t71 true (pO (aNil t74) H fun t75 H =>
 S190_23 call t71 t73 t75 H) (S190_23 call t71 t73 U H)
def S190_25 (call : CallFn) (t0 t71 t73 : AV) (H : AHeap) : R :=
 guardA t71 true (S190_24 call t71 t73 t0 H) (S190_24 call t71 t73 U H)
def S190_26 (call : CallFn) (t0 t71 t72 : AV) (H : AHeap) : R :=
 guardA t71 true (ldK .none H t72 fun t73 H =>
 S190_25 call t0 t71 t73 H) (S190_25 call t0 t71 U H)
def S190_27 (_ : CallFn) (t92 t95 : AV) (H : AHeap) : R :=
 pPick t92 t95 (.bool false) H fun t96 H =>
 some (t96, H)
def S190_28 (_ : CallFn) (t112 t115 : AV) (H : AHeap) : R :=
 pPick t112 t115 (.bool false) H fun t116 H =>
 some (t116, H)
def S190_29 (call : CallFn) (t6 t107 t110 : AV) (H : AHeap) : R :=
 pPick t107 t110 (.bool false) H fun t111 H =>
 guardA t111 true (pFa 3 t6 H fun t113 H =>
 ldK .none H t113 fun t114 H =>
 pEql t114 (iN 0) H fun t115 H =>
 S190_28 call t111 t115 H) (S190_28 call t111 U H)
def S190_30 (_ : CallFn) (t142 t145 : AV) (H : AHeap) : R :=
 pPick t142 t145 (.bool false) H fun t146 H =>
 some (t146, H)
def S190_31 (call : CallFn) (t0 : AV) (H : AHeap) : R :=
 pO (aNil t0) H fun t11 H =>
 pFa 17 t11 H fun t12 H =>
 ldK (.some 5) H t12 fun t13 H =>
 pNew [(iN 0), (iN 0), (iN 0), (iN 0), (iN 0)] H fun t3 H =>
 stK 5 H t3 t13 fun _ H =>
 pFa 0 t3 H fun t14 H =>
 ldK .none H t14 fun t15 H =>
 pEql t15 (iN 0) H fun t17 H =>
 onBool t17 (pFa 2 t3 H fun t18 H =>
 ldK .none H t18 fun t19 H =>
 pGeq t19 (iN 0) H fun t20 H =>
 guardA t20 true (pFa 2 t3 H fun t22 H =>
 S190_8 call t0 t20 t22 H) (S190_8 call t0 t20 U H)) (pEql t15 (iN 25) H fun t33 H =>
 onBool t33 (pFa 2 t3 H fun t35 H =>
 ldK .none H t35 fun t36 H =>
 pC call n301 [t0, t36, (iN 0)] H fun t37 H =>
 some (t37, H)) (pEql t15 (iN 26) H fun t39 H =>
 onBool t39 (pFa 2 t3 H fun t41 H =>
 ldK .none H t41 fun t42 H =>
 pC call n301 [t0, t42, (iN 1)] H fun t43 H =>
 some (t43, H)) (pEql t15 (iN 37) H fun t45 H =>
 onBool t45 (pFa 2 t3 H fun t47 H =>
 ldK .none H t47 fun t48 H =>
 pC call n301 [t0, t48, (iN 3)] H fun t49 H =>
 some (t49, H)) (pEql t15 (iN 34) H fun t51 H =>
 onBool t51 (pFa 2 t3 H fun t52 H =>
 ldK .none H t52 fun t53 H =>
 pGeq t53 (iN 0) H fun t54 H =>
 guardA t54 true (pFa 2 t3 H fun t56 H =>
 S190_17 call t0 t54 t56 H) (S190_17 call t0 t54 U H)) (pEql t15 (iN 35) H fun t67 H =>
 onBool t67 (pFa 1 t3 H fun t68 H =>
 ldK .none H t68 fun t69 H =>
 pGeq t69 (iN 0) H fun t70 H =>
 guardA t70 true (pFa 1 t3 H fun t72 H =>
 S190_26 call t0 t70 t72 H) (S190_26 call t0 t70 U H)) (pEql t15 (iN 20) H fun t83 H =>
 onBool t83 (pFa 2 t3 H fun t86 H =>
 ldK .none H t86 fun t87 H =>
 pC call n295 [t0, t87] H fun t88 H =>
 pExt t88 0 H fun t89 H =>
 pExt t88 1 H fun t90 H =>
 pNew [(iN 0), (iN 0), (iN 0), (iN 0), .nilsl, .nilsl, .nilsl] H fun t4 H =>
 stK 7 H t4 t89 fun _ H =>
 guardA t90 true (pFa 1 t4 H fun t93 H =>
 ldK .none H t93 fun t94 H =>
 pEql t94 (iN 0) H fun t95 H =>
 S190_27 call t90 t95 H) (S190_27 call t90 U H)) (pEql t15 (iN 23) H fun t98 H =>
 onBool t98 (pFa 1 t3 H fun t101 H =>
 ldK .none H t101 fun t102 H =>
 pC call n295 [t0, t102] H fun t103 H =>
 pExt t103 0 H fun t104 H =>
 pExt t103 1 H fun t105 H =>
 pNew [(iN 0), (iN 0), (iN 0), (iN 0), .nilsl, .nilsl, .nilsl] H fun t6 H =>
 stK 7 H t6 t104 fun _ H =>
 guardA t105 true (pFa 1 t6 H fun t108 H =>
 ldK .none H t108 fun t109 H =>
 pEql t109 (iN 0) H fun t110 H =>
 S190_29 call t6 t105 t110 H) (S190_29 call t6 t105 U H)) (pEql t15 (iN 36) H fun t118 H =>
 onBool t118 (pFa 2 t3 H fun t121 H =>
 ldK .none H t121 fun t122 H =>
 pC call n295 [t0, t122] H fun t123 H =>
 pExt t123 0 H fun t124 H =>
 pExt t123 1 H fun t125 H =>
 pNew [(iN 0), (iN 0), (iN 0), (iN 0), .nilsl, .nilsl, .nilsl] H fun t8 H =>
 stK 7 H t8 t124 fun _ H =>
 some (t125, H)) (pEql t15 (iN 21) H fun t128 H =>
 onBool t128 (pFa 4 t3 H fun t129 H =>
 ldK .none H t129 fun t130 H =>
 pGeq t130 (iN 0) H fun t131 H =>
 some (t131, H)) (pEql t15 (iN 24) H fun t133 H =>
 onBool t133 (pFa 3 t3 H fun t134 H =>
 ldK .none H t134 fun t135 H =>
 pGeq t135 (iN 0) H fun t136 H =>
 some (t136, H)) (pEql t15 (iN 44) H fun t138 H =>
 onBool t138 (pFa 1 t3 H fun t139 H =>
 ldK .none H t139 fun t140 H =>
 pGeq t140 (iN 1) H fun t141 H =>
 guardA t141 true (pFa 1 t3 H fun t143 H =>
 ldK .none H t143 fun t144 H =>
 pLeq t144 (iN 6) H fun t145 H =>
 S190_30 call t141 t145 H) (S190_30 call t141 U H)) (pEql t15 (iN 41) H fun t148 H =>
 onBool t148 (pC call n302 [t0] H fun t150 H =>
 some (t150, H)) (some ((.bool true), H))))))))))))))
def S190 : Ff := ⟨fun call l H => argA1 (fun t0 => S190_31 call t0 H) l⟩
def S191_0 (_ : CallFn) (t86 t93 : AV) (H : AHeap) : R :=
 pPick t86 t93 (.bool false) H fun t94 H =>
 some (t94, H)
def S191_1 (_ : CallFn) (t117 t122 : AV) (H : AHeap) : R :=
 pPick t117 t122 (.bool false) H fun t123 H =>
 some (t123, H)
def S191_2 (_ : CallFn) (t164 t169 : AV) (H : AHeap) : R :=
 pPick t164 t169 (.bool false) H fun t170 H =>
 some (t170, H)
def S191_3 (_ : CallFn) (t183 t188 : AV) (H : AHeap) : R :=
 pPick t183 t188 (.bool false) H fun t189 H =>
 some (t189, H)
def S191_4 (_ : CallFn) (t198 t203 : AV) (H : AHeap) : R :=
 pPick t198 t203 (.bool false) H fun t204 H =>
 some (t204, H)
def S191_5 (_ : CallFn) (t247 t257 : AV) (H : AHeap) : R :=
 pPick t247 t257 (.bool false) H fun t258 H =>
 some (t258, H)
def S191_6 (call : CallFn) (t247 t251 t256 : AV) (H : AHeap) : R :=
 guardA t247 true (pPick t251 (.bool true) t256 H fun t257 H =>
 S191_5 call t247 t257 H) (S191_5 call t247 U H)
def S191_7 (call : CallFn) (t1 t3 t247 t251 : AV) (H : AHeap) : R :=
 guardA t251 false (ldK .none H t1 fun t252 H =>
 pFa 3 t3 H fun t253 H =>
 ldK .none H t253 fun t254 H =>
 pN (aBsl 1 1 [(iN 0)] [(0, 1, t254)]) H fun t255 H =>
 pC call n303 [t252, (.bool false), t255] H fun t256 H =>
 S191_6 call t247 t251 t256 H) (S191_6 call t247 t251 U H)
def S191_8 (call : CallFn) (t1 t3 t4 t174 t176 : AV) (H : AHeap) : R :=
 pPick t174 (.bool true) t176 H fun t177 H =>
 onBool t177 (ldK .none H t1 fun t178 H =>
 pFa 1 t3 H fun t179 H =>
 ldK .none H t179 fun t180 H =>
 pN (aBsl 1 1 [(iN 0)] [(0, 1, t180)]) H fun t181 H =>
 pC call n303 [t178, (.bool true), t181] H fun t182 H =>
 guardA t182 true (ldK .none H t1 fun t184 H =>
 pFa 2 t3 H fun t185 H =>
 ldK .none H t185 fun t186 H =>
 pN (aBsl 1 1 [(iN 0)] [(0, 1, t186)]) H fun t187 H =>
 pC call n303 [t184, (.bool false), t187] H fun t188 H =>
 S191_3 call t182 t188 H) (S191_3 call t182 U H)) (pEql t4 (iN 33) H fun t192 H =>
 onBool t192 (ldK .none H t1 fun t193 H =>
 pFa 1 t3 H fun t194 H =>
 ldK .none H t194 fun t195 H =>
 pN (aBsl 1 1 [(iN 0)] [(0, 1, t195)]) H fun t196 H =>
 pC call n303 [t193, (.bool false), t196] H fun t197 H =>
 guardA t197 true (ldK .none H t1 fun t199 H =>
 pFa 2 t3 H fun t200 H =>
 ldK .none H t200 fun t201 H =>
 pN (aBsl 1 1 [(iN 0)] [(0, 1, t201)]) H fun t202 H =>
 pC call n303 [t199, (.bool true), t202] H fun t203 H =>
 S191_4 call t197 t203 H) (S191_4 call t197 U H)) (pEql t4 (iN 34) H fun t207 H =>
 onBool t207 (ldK .none H t1 fun t208 H =>
 ldK .none H t1 fun t209 H =>
 pO (aNil t209) H fun t210 H =>
 pFa 0 t210 H fun t211 H =>
 pFa 1 t211 H fun t212 H =>
 ldK .none H t212 fun t213 H =>
 pFa 2 t3 H fun t214 H =>
 ldK .none H t214 fun t215 H =>
 pIa 1 t213 t215 H fun t216 H =>
 ldK .none H t216 fun t217 H =>
 pFa 1 t3 H fun t218 H =>
 ldK .none H t218 fun t219 H =>
 pN (aBsl 1 1 [(iN 0)] [(0, 1, t219)]) H fun t220 H =>
 pC call n303 [t208, t217, t220] H fun t221 H =>
 some (t221, H)) (pEql t4 (iN 35) H fun t224 H =>
 onBool t224 (ldK .none H t1 fun t225 H =>
 ldK .none H t1 fun t226 H =>
 pO (aNil t226) H fun t227 H =>
 pFa 0 t227 H fun t228 H =>
 pFa 1 t228 H fun t229 H =>
 ldK .none H t229 fun t230 H =>
 pFa 1 t3 H fun t231 H =>
 ldK .none H t231 fun t232 H =>
 pIa 1 t230 t232 H fun t233 H =>
 ldK .none H t233 fun t234 H =>
 pFa 2 t3 H fun t235 H =>
 ldK .none H t235 fun t236 H =>
 pN (aBsl 1 1 [(iN 0)] [(0, 1, t236)]) H fun t237 H =>
 pC call n303 [t225, t234, t237] H fun t238 H =>
 some (t238, H)) (pEql t4 (iN 39) H fun t241 H =>
 onBool t241 (ldK .none H t1 fun t242 H =>
 pFa 2 t3 H fun t243 H =>
 ldK .none H t243 fun t244 H =>
 pN (aBsl 1 1 [(iN 0)] [(0, 1, t244)]) H fun t245 H =>
 pC call n303 [t242, (.bool true), t245] H fun t246 H =>
 guardA t246 true (pFa 3 t3 H fun t248 H =>
 ldK .none H t248 fun t249 H =>
 pEql t249 (.int .i64 (.negSucc 0)) H fun t250 H =>
 S191_7 call t1 t3 t246 t250 H) (S191_7 call t1 t3 t246 U H)) (pEql t4 (iN 41) H fun t261 H =>
 onBool t261 (ldK .none H t1 fun t263 H =>
 pC call n296 [t263] H fun t264 H =>
 pExt t264 0 H fun t265 H =>
 pExt t264 1 H fun _ H =>
 pC call n297 [t265, (.fn n304 [] [t1])] H fun t269 H =>
 pO (aUn .not t269) H fun t270 H =>
 some (t270, H)) (ldK .none H t1 fun t271 H =>
 pC call n305 [t271] H fun t272 H =>
 some (t272, H)))))))
def S191_9 (call : CallFn) (t1 t3 t4 t147 t149 : AV) (H : AHeap) : R :=
 pPick t147 (.bool true) t149 H fun t150 H =>
 onBool t150 (ldK .none H t1 fun t151 H =>
 pFa 1 t3 H fun t152 H =>
 ldK .none H t152 fun t153 H =>
 pN (aBsl 1 1 [(iN 0)] [(0, 1, t153)]) H fun t154 H =>
 pC call n303 [t151, (.bool true), t154] H fun t155 H =>
 some (t155, H)) (pEql t4 (iN 30) H fun t158 H =>
 onBool t158 (ldK .none H t1 fun t159 H =>
 pFa 2 t3 H fun t160 H =>
 ldK .none H t160 fun t161 H =>
 pN (aBsl 1 1 [(iN 0)] [(0, 1, t161)]) H fun t162 H =>
 pC call n303 [t159, (.bool true), t162] H fun t163 H =>
 guardA t163 true (ldK .none H t1 fun t165 H =>
 pFa 3 t3 H fun t166 H =>
 ldK .none H t166 fun t167 H =>
 pN (aBsl 1 1 [(iN 0)] [(0, 1, t167)]) H fun t168 H =>
 pC call n303 [t165, (.bool false), t168] H fun t169 H =>
 S191_2 call t163 t169 H) (S191_2 call t163 U H)) (pEql t4 (iN 31) H fun t173 H =>
 guardA t173 false (pEql t4 (iN 32) H fun t176 H =>
 S191_8 call t1 t3 t4 t173 t176 H) (S191_8 call t1 t3 t4 t173 U H)))
def S191_10 (call : CallFn) (t1 t3 t4 t143 t145 : AV) (H : AHeap) : R :=
 pPick t143 (.bool true) t145 H fun t146 H =>
 guardA t146 false (pEql t4 (iN 38) H fun t149 H =>
 S191_9 call t1 t3 t4 t146 t149 H) (S191_9 call t1 t3 t4 t146 U H)
def S191_11 (call : CallFn) (t1 t3 t4 t139 t141 : AV) (H : AHeap) : R :=
 pPick t139 (.bool true) t141 H fun t142 H =>
 guardA t142 false (pEql t4 (iN 24) H fun t145 H =>
 S191_10 call t1 t3 t4 t142 t145 H) (S191_10 call t1 t3 t4 t142 U H)
def S191_12 (call : CallFn) (t1 t3 t4 t127 t129 : AV) (H : AHeap) : R :=
 pPick t127 (.bool true) t129 H fun t130 H =>
 onBool t130 (ldK .none H t1 fun t131 H =>
 pFa 2 t3 H fun t132 H =>
 ldK .none H t132 fun t133 H =>
 pN (aBsl 1 1 [(iN 0)] [(0, 1, t133)]) H fun t134 H =>
 pC call n303 [t131, (.bool true), t134] H fun t135 H =>
 some (t135, H)) (pEql t4 (iN 28) H fun t138 H =>
 guardA t138 false (pEql t4 (iN 29) H fun t141 H =>
 S191_11 call t1 t3 t4 t138 t141 H) (S191_11 call t1 t3 t4 t138 U H))
def S191_13 (call : CallFn) (t1 t3 t4 t108 t110 : AV) (H : AHeap) : R :=
 pPick t108 (.bool true) t110 H fun t111 H =>
 onBool t111 (ldK .none H t1 fun t112 H =>
 pFa 1 t3 H fun t113 H =>
 ldK .none H t113 fun t114 H =>
 pN (aBsl 1 1 [(iN 0)] [(0, 1, t114)]) H fun t115 H =>
 pC call n303 [t112, (.bool true), t115] H fun t116 H =>
 guardA t116 true (ldK .none H t1 fun t118 H =>
 pFa 3 t3 H fun t119 H =>
 ldK .none H t119 fun t120 H =>
 pN (aBsl 1 1 [(iN 0)] [(0, 1, t120)]) H fun t121 H =>
 pC call n303 [t118, (.bool false), t121] H fun t122 H =>
 S191_1 call t116 t122 H) (S191_1 call t116 U H)) (pEql t4 (iN 27) H fun t126 H =>
 guardA t126 false (pEql t4 (iN 21) H fun t129 H =>
 S191_12 call t1 t3 t4 t126 t129 H) (S191_12 call t1 t3 t4 t126 U H))
def S191_14 (call : CallFn) (t1 t3 t4 t65 t67 : AV) (H : AHeap) : R :=
 pPick t65 t67 (.bool false) H fun t68 H =>
 onBool t68 (ldK .none H t1 fun t69 H =>
 pFa 1 t3 H fun t70 H =>
 ldK .none H t70 fun t71 H =>
 pFa 2 t3 H fun t72 H =>
 ldK .none H t72 fun t73 H =>
 pFa 3 t3 H fun t74 H =>
 ldK .none H t74 fun t75 H =>
 pN (aBsl 1 3 [(iN 0)] [(0, 1, t71), (1, 1, t73), (2, 1, t75)]) H fun t76 H =>
 pC call n303 [t69, (.bool false), t76] H fun t77 H =>
 some (t77, H)) (pEql t4 (iN 16) H fun t80 H =>
 onBool t80 (ldK .none H t1 fun t81 H =>
 pFa 1 t3 H fun t82 H =>
 ldK .none H t82 fun t83 H =>
 pN (aBsl 1 1 [(iN 0)] [(0, 1, t83)]) H fun t84 H =>
 pC call n303 [t81, (.bool false), t84] H fun t85 H =>
 guardA t85 true (ldK .none H t1 fun t87 H =>
 pFa 2 t3 H fun t88 H =>
 ldK .none H t88 fun t89 H =>
 pFa 3 t3 H fun t90 H =>
 ldK .none H t90 fun t91 H =>
 pN (aBsl 1 2 [(iN 0)] [(0, 1, t89), (1, 1, t91)]) H fun t92 H =>
 pC call n303 [t87, (.bool true), t92] H fun t93 H =>
 S191_0 call t85 t93 H) (S191_0 call t85 U H)) (pEql t4 (iN 17) H fun t97 H =>
 onBool t97 (ldK .none H t1 fun t98 H =>
 pFa 1 t3 H fun t99 H =>
 ldK .none H t99 fun t100 H =>
 pFa 2 t3 H fun t101 H =>
 ldK .none H t101 fun t102 H =>
 pN (aBsl 1 2 [(iN 0)] [(0, 1, t100), (1, 1, t102)]) H fun t103 H =>
 pC call n303 [t98, (.bool false), t103] H fun t104 H =>
 some (t104, H)) (pEql t4 (iN 26) H fun t107 H =>
 guardA t107 false (pEql t4 (iN 37) H fun t110 H =>
 S191_13 call t1 t3 t4 t107 t110 H) (S191_13 call t1 t3 t4 t107 U H))))
def S191_15 (call : CallFn) (t1 t3 t4 t53 t55 : AV) (H : AHeap) : R :=
 pPick t53 (.bool true) t55 H fun t56 H =>
 onBool t56 (ldK .none H t1 fun t57 H =>
 pFa 1 t3 H fun t58 H =>
 ldK .none H t58 fun t59 H =>
 pN (aBsl 1 1 [(iN 0)] [(0, 1, t59)]) H fun t60 H =>
 pC call n303 [t57, (.bool true), t60] H fun t61 H =>
 some (t61, H)) (pGeq t4 (iN 3) H fun t64 H =>
 guardA t64 true (pLeq t4 (iN 15) H fun t67 H =>
 S191_14 call t1 t3 t4 t64 t67 H) (S191_14 call t1 t3 t4 t64 U H))
def S191_16 (call : CallFn) (t1 t3 t4 t49 t51 : AV) (H : AHeap) : R :=
 pPick t49 (.bool true) t51 H fun t52 H =>
 guardA t52 false (pEql t4 (iN 40) H fun t55 H =>
 S191_15 call t1 t3 t4 t52 t55 H) (S191_15 call t1 t3 t4 t52 U H)
def S191_17 (call : CallFn) (t1 t3 t4 t20 t22 : AV) (H : AHeap) : R :=
 pPick t20 (.bool true) t22 H fun t23 H =>
 onBool t23 (ldK .none H t1 fun t24 H =>
 pFa 1 t3 H fun t25 H =>
 ldK .none H t25 fun t26 H =>
 pN (aBsl 1 1 [(iN 0)] [(0, 1, t26)]) H fun t27 H =>
 pC call n303 [t24, (.bool false), t27] H fun t28 H =>
 some (t28, H)) (pEql t4 (iN 1) H fun t31 H =>
 onBool t31 (ldK .none H t1 fun t32 H =>
 ldK .none H t1 fun t33 H =>
 pO (aNil t33) H fun t34 H =>
 pFa 6 t34 H fun t35 H =>
 pFa 4 t35 H fun t36 H =>
 ldK .none H t36 fun t37 H =>
 pFa 2 t3 H fun t38 H =>
 ldK .none H t38 fun t39 H =>
 pIa 1 t37 t39 H fun t40 H =>
 ldK .none H t40 fun t41 H =>
 pFa 1 t3 H fun t42 H =>
 ldK .none H t42 fun t43 H =>
 pN (aBsl 1 1 [(iN 0)] [(0, 1, t43)]) H fun t44 H =>
 pC call n303 [t32, t41, t44] H fun t45 H =>
 some (t45, H)) (pEql t4 (iN 2) H fun t48 H =>
 guardA t48 false (pEql t4 (iN 25) H fun t51 H =>
 S191_16 call t1 t3 t4 t48 t51 H) (S191_16 call t1 t3 t4 t48 U H)))
def S191_18 (call : CallFn) (t1 t3 t4 t16 t18 : AV) (H : AHeap) : R :=
 pPick t16 (.bool true) t18 H fun t19 H =>
 guardA t19 false (pEql t4 (iN 42) H fun t22 H =>
 S191_17 call t1 t3 t4 t19 t22 H) (S191_17 call t1 t3 t4 t19 U H)
def S191_19 (call : CallFn) (t0 : AV) (H : AHeap) : R :=
 pBox t0 H fun t1 H =>
 ldK .none H t1 fun t7 H =>
 pO (aNil t7) H fun t8 H =>
 pFa 17 t8 H fun t9 H =>
 ldK (.some 5) H t9 fun t10 H =>
 pNew [(iN 0), (iN 0), (iN 0), (iN 0), (iN 0)] H fun t3 H =>
 stK 5 H t3 t10 fun _ H =>
 pFa 0 t3 H fun t11 H =>
 ldK .none H t11 fun t12 H =>
 pEql t12 (iN 0) H fun t15 H =>
 guardA t15 false (pEql t12 (iN 19) H fun t18 H =>
 S191_18 call t1 t3 t12 t15 t18 H) (S191_18 call t1 t3 t12 t15 U H)
def S191 : Ff := ⟨fun call l H => argA1 (fun t0 => S191_19 call t0 H) l⟩
def S192_0 (_ : CallFn) (t42 : AV) (H : AHeap) : R :=
 onBool t42 (some ((.bool true), H)) (some ((.bool false), H))
def S192_1 (call : CallFn) (t0 : AV) (H : AHeap) : R :=
 pO (aNil t0) H fun t26 H =>
 pFa 16 t26 H fun t27 H =>
 ldK .none H t27 fun t28 H =>
 pO (aNil t0) H fun t30 H =>
 pFa 6 t30 H fun t31 H =>
 pFa 5 t31 H fun t32 H =>
 ldK .none H t32 fun t33 H =>
 pO (aLen .sl H t33) H fun t34 H =>
 pSub t34 (iN 1) H fun t35 H =>
 pLss t28 t35 H fun t36 H =>
 onBool t36 (some ((.bool true), H)) (pO (aNil t0) H fun t38 H =>
 pFa 17 t38 H fun t39 H =>
 pFa 0 t39 H fun t40 H =>
 ldK .none H t40 fun t41 H =>
 pEql t41 (iN 18) H fun t43 H =>
 onBool t43 (S192_0 call t43 H) (pEql t41 (iN 22) H fun t44 H =>
 onBool t44 (S192_0 call t44 H) (pEql t41 (iN 44) H fun t45 H =>
 onBool t45 (S192_0 call t45 H) (pEql t41 (iN 41) H fun t46 H =>
 S192_0 call t46 H))))
def S192_3 (_ : CallFn) (q0 : AV → AV → AV → AV → AHeap → R) (t0 t6 t7 t8 t14 t22 : AV) (H : AHeap) : R :=
 pPick t14 (.bool true) t22 H fun t23 H =>
 onBool t23 (some ((.bool false), H)) (pAdd t8 (iN 1) H fun t24 H =>
 q0 t0 t6 t7 t24 H)
def S192_2 (call : CallFn) (n : Nat) : AV → AV → AV → AV → AHeap → R :=
 Nat.rec (motive := fun _ => AV → AV → AV → AV → AHeap → R) (fun _ _ _ _ _ => none) (fun _ q0 t0 t6 t7 t8 H => pLss t8 t7 H fun t9 H =>
 onBool t9 (pIa 1 t6 t8 H fun t10 H =>
 ldK .none H t10 fun t11 H =>
 pLss t11 (iN 0) H fun t13 H =>
 guardA t13 false (pO (aNil t0) H fun t17 H =>
 pFa 6 t17 H fun t18 H =>
 pFa 5 t18 H fun t19 H =>
 ldK .none H t19 fun t20 H =>
 pO (aLen .sl H t20) H fun t21 H =>
 pGeq t11 t21 H fun t22 H =>
 S192_3 call q0 t0 t6 t7 t8 t13 t22 H) (S192_3 call q0 t0 t6 t7 t8 t13 U H)) (S192_1 call t0 H)) n
def S192_4 (call : CallFn) (t0 : AV) (H : AHeap) : R :=
 pC call n306 [t0] H fun t6 H =>
 pO (aLen .sl H t6) H fun t7 H =>
 S192_2 call 1000000 t0 t6 t7 (iN 0) H
def S192 : Ff := ⟨fun call l H => argA1 (fun t0 => S192_4 call t0 H) l⟩
def S193_1 (_ : CallFn) (q0 : AV → AV → AV → AV → AHeap → R) (t0 t6 t7 t8 t18 t28 : AV) (H : AHeap) : R :=
 pPick t18 t28 (.bool false) H fun t29 H =>
 onBool t29 (some ((.bool false), H)) (pAdd t8 (iN 1) H fun t30 H =>
 q0 t0 t6 t7 t30 H)
def S193_0 (call : CallFn) (n : Nat) : AV → AV → AV → AV → AHeap → R :=
 Nat.rec (motive := fun _ => AV → AV → AV → AV → AHeap → R) (fun _ _ _ _ _ => none) (fun _ q0 t0 t6 t7 t8 H => pLss t8 t7 H fun t9 H =>
 onBool t9 (pIa 1 t6 t8 H fun t10 H =>
 ldK .none H t10 fun t11 H =>
 pO (aNil t0) H fun t14 H =>
 pFa 16 t14 H fun t15 H =>
 ldK .none H t15 fun t16 H =>
 pLeq t11 t16 H fun t17 H =>
 guardA t17 true (pO (aNil t0) H fun t20 H =>
 pFa 6 t20 H fun t21 H =>
 pFa 5 t21 H fun t22 H =>
 ldK .none H t22 fun t23 H =>
 pIa 5 t23 t11 H fun t25 H =>
 pFa 0 t25 H fun t26 H =>
 ldK .none H t26 fun t27 H =>
 pNeq t27 (iN 43) H fun t28 H =>
 S193_1 call q0 t0 t6 t7 t8 t17 t28 H) (S193_1 call q0 t0 t6 t7 t8 t17 U H)) (some ((.bool true), H))) n
def S193_2 (call : CallFn) (t0 : AV) (H : AHeap) : R :=
 pC call n306 [t0] H fun t6 H =>
 pO (aLen .sl H t6) H fun t7 H =>
 S193_0 call 1000000 t0 t6 t7 (iN 0) H
def S193 : Ff := ⟨fun call l H => argA1 (fun t0 => S193_2 call t0 H) l⟩
def S194_0 (call : CallFn) (t0 : AV) (H : AHeap) : R :=
 pO (aNil t0) H fun t35 H =>
 pFa 6 t35 H fun t36 H =>
 ldK (.some 7) H t36 fun t37 H =>
 pO (aNil t0) H fun t39 H =>
 pFa 14 t39 H fun t40 H =>
 ldK .none H t40 fun t41 H =>
 pO (aNil t0) H fun t43 H =>
 pFa 16 t43 H fun t44 H =>
 ldK .none H t44 fun t45 H =>
 pC call n95 [t37, t41, t45] H fun t46 H =>
 some (t46, H)
def S194_1 (call : CallFn) (t0 t9 t15 : AV) (H : AHeap) : R :=
 pPick t9 t15 (.bool false) H fun t16 H =>
 onBool t16 (some ((.bool true), H)) (pO (aNil t0) H fun t18 H =>
 pFa 14 t18 H fun t19 H =>
 ldK .none H t19 fun t20 H =>
 pO (aEq false .sl t20 .nilsl) H fun t21 H =>
 onBool t21 (pO (aNil t0) H fun t24 H =>
 pFa 0 t24 H fun t25 H =>
 ldK (.some 6) H t25 fun t26 H =>
 pO (aNil t0) H fun t28 H =>
 pFa 6 t28 H fun t29 H =>
 ldK (.some 7) H t29 fun t30 H =>
 pC call n94 [t26, t30] H fun t31 H =>
 pO (aNil t0) H fun t32 H =>
 pFa 14 t32 H fun t33 H =>
 stK 1 H t33 t31 fun _ H =>
 S194_0 call t0 H) (S194_0 call t0 H))
def S194_2 (call : CallFn) (t0 : AV) (H : AHeap) : R :=
 pO (aNil t0) H fun t4 H =>
 pFa 17 t4 H fun t5 H =>
 pFa 0 t5 H fun t6 H =>
 ldK .none H t6 fun t7 H =>
 pNeq t7 (iN 29) H fun t8 H =>
 guardA t8 true (pO (aNil t0) H fun t11 H =>
 pFa 17 t11 H fun t12 H =>
 pFa 0 t12 H fun t13 H =>
 ldK .none H t13 fun t14 H =>
 pNeq t14 (iN 32) H fun t15 H =>
 S194_1 call t0 t8 t15 H) (S194_1 call t0 t8 U H)
def S194 : Ff := ⟨fun call l H => argA1 (fun t0 => S194_2 call t0 H) l⟩
def S195_0 (_ : CallFn) (t10 t16 : AV) (H : AHeap) : R :=
 pPick t10 t16 (.bool false) H fun t17 H =>
 some (t17, H)
def S195_1 (call : CallFn) (t0 t1 : AV) (H : AHeap) : R :=
 pO (aLen .str H t0) H fun t6 H =>
 pO (aLen .str H t1) H fun t8 H =>
 pGeq t6 t8 H fun t9 H =>
 guardA t9 true (pO (aLen .str H t1) H fun t13 H =>
 pO (aSliceS t0 .none (.some t13)) H fun t14 H =>
 pEql t14 t1 H fun t16 H =>
 S195_0 call t9 t16 H) (S195_0 call t9 U H)
def S195 : Ff := ⟨fun call l H => argA2 (fun t0 t1 => S195_1 call t0 t1 H) l⟩
def S196_0 (_ : CallFn) (t13 t165 t168 : AV) (H : AHeap) : R :=
 pPick t165 t168 (.bool false) H fun t169 H =>
 onBool t169 (some (.tup [(.int .u64 (.ofNat 0)), (.iface y384 (iN 2))], H)) (some (.tup [t13, .nilif], H))
def S196_1 (call : CallFn) (t9 t12 t13 : AV) (H : AHeap) : R :=
 guardA t12 true (pC call n308 [t9] H fun t167 H =>
 pO (aUn .not t167) H fun t168 H =>
 S196_0 call t13 t12 t168 H) (S196_0 call t13 t12 U H)
def S196_3 (_ : CallFn) (q0 : AV → AV → AV → AV → AV → AV → AV → AV → AV → AV → AHeap → R) (t1 t8 t9 t10 t11 t12 t13 t99 t100 t101 : AV) (H : AHeap) : R :=
 pAdd t101 (iN 1) H fun t163 H =>
 q0 t1 t8 t9 t10 t11 t12 t13 t99 t100 t163 H
def S196_4 (call : CallFn) (q0 : AV → AV → AV → AV → AV → AV → AV → AV → AV → AV → AHeap → R) (t1 t8 t9 t10 t11 t12 t17 t99 t100 t101 t155 t158 : AV) (H : AHeap) : R :=
 pPick t155 (.bool true) t158 H fun t159 H =>
 onBool t159 (some (.tup [t11, (.iface y384 (iN 1))], H)) (S196_3 call q0 t1 t8 t9 t10 t11 t12 t17 t99 t100 t101 H)
def S196_5 (call : CallFn) (q0 : AV → AV → AV → AV → AV → AV → AV → AV → AV → AV → AHeap → R) (t1 t8 t9 t10 t11 t12 t13 t16 t99 t100 t101 : AV) (H : AHeap) : R :=
 pConv .u8 t1 H fun t136 H =>
 pGeq t16 t136 H fun t137 H =>
 onBool t137 (some (.tup [(.int .u64 (.ofNat 0)), (.iface y384 (iN 2))], H)) (pGeq t13 t10 H fun t141 H =>
 onBool t141 (some (.tup [t11, (.iface y384 (iN 1))], H)) (pConv .u64 t1 H fun t146 H =>
 pMul t13 t146 H fun t147 H =>
 pConv .u64 t16 H fun t150 H =>
 pAdd t147 t150 H fun t151 H =>
 pLss t151 t147 H fun t154 H =>
 guardA t154 false (pGtr t151 t11 H fun t158 H =>
 S196_4 call q0 t1 t8 t9 t10 t11 t12 t151 t99 t100 t101 t154 t158 H) (S196_4 call q0 t1 t8 t9 t10 t11 t12 t151 t99 t100 t101 t154 U H)))
def S196_6 (call : CallFn) (q0 : AV → AV → AV → AV → AV → AV → AV → AV → AV → AV → AHeap → R) (t1 t8 t9 t10 t11 t12 t13 t15 t99 t100 t101 t125 t128 : AV) (H : AHeap) : R :=
 pPick t125 t128 (.bool false) H fun t129 H =>
 onBool t129 (pC call n307 [t15] H fun t131 H =>
 pSub t131 (.int .u8 (.ofNat 97)) H fun t132 H =>
 pAdd t132 (.int .u8 (.ofNat 10)) H fun t133 H =>
 S196_5 call q0 t1 t8 t9 t10 t11 t12 t13 t133 t99 t100 t101 H) (some (.tup [(.int .u64 (.ofNat 0)), (.iface y384 (iN 2))], H))
def S196_7 (call : CallFn) (q0 : AV → AV → AV → AV → AV → AV → AV → AV → AV → AV → AHeap → R) (t1 t8 t9 t10 t11 t12 t13 t15 t99 t100 t101 t115 t117 : AV) (H : AHeap) : R :=
 pPick t115 t117 (.bool false) H fun t118 H =>
 onBool t118 (pSub t15 (.int .u8 (.ofNat 48)) H fun t120 H =>
 S196_5 call q0 t1 t8 t9 t10 t11 t12 t13 t120 t99 t100 t101 H) (pC call n307 [t15] H fun t123 H =>
 pLeq (.int .u8 (.ofNat 97)) t123 H fun t124 H =>
 guardA t124 true (pC call n307 [t15] H fun t127 H =>
 pLeq t127 (.int .u8 (.ofNat 122)) H fun t128 H =>
 S196_6 call q0 t1 t8 t9 t10 t11 t12 t13 t15 t99 t100 t101 t124 t128 H) (S196_6 call q0 t1 t8 t9 t10 t11 t12 t13 t15 t99 t100 t101 t124 U H))
def S196_8 (call : CallFn) (q0 : AV → AV → AV → AV → AV → AV → AV → AV → AV → AV → AHeap → R) (t1 t8 t9 t10 t11 t12 t13 t15 t99 t100 t101 t109 t110 : AV) (H : AHeap) : R :=
 pPick t109 t110 (.bool false) H fun t111 H =>
 onBool t111 (S196_3 call q0 t1 t8 t9 t10 t11 (.bool true) t13 t99 t100 t101 H) (pLeq (.int .u8 (.ofNat 48)) t15 H fun t114 H =>
 guardA t114 true (pLeq t15 (.int .u8 (.ofNat 57)) H fun t117 H =>
 S196_7 call q0 t1 t8 t9 t10 t11 t12 t13 t15 t99 t100 t101 t114 t117 H) (S196_7 call q0 t1 t8 t9 t10 t11 t12 t13 t15 t99 t100 t101 t114 U H))
def S196_2 (call : CallFn) (n : Nat) : AV → AV → AV → AV → AV → AV → AV → AV → AV → AV → AHeap → R :=
 Nat.rec (motive := fun _ => AV → AV → AV → AV → AV → AV → AV → AV → AV → AV → AHeap → R) (fun _ _ _ _ _ _ _ _ _ _ _ => none) (fun _ q0 t1 t8 t9 t10 t11 t12 t13 t99 t100 t101 H => pLss t101 t100 H fun t102 H =>
 onBool t102 (pIa 1 t99 t101 H fun t103 H =>
 ldK .none H t103 fun t104 H =>
 pEql t104 (.int .u8 (.ofNat 95)) H fun t108 H =>
 guardA t108 true (S196_8 call q0 t1 t8 t9 t10 t11 t12 t13 t104 t99 t100 t101 t108 t8 H) (S196_8 call q0 t1 t8 t9 t10 t11 t12 t13 t104 t99 t100 t101 t108 U H)) (S196_1 call t9 t12 t13 H)) n
def S196_9 (call : CallFn) (t0 t1 t2 t8 t9 t10 : AV) (H : AHeap) : R :=
 pConv .u64 t2 H fun t95 H =>
 pO (aBin .shl (.int .u64 (.ofNat 1)) t95) H fun t96 H =>
 pSub t96 (.int .u64 (.ofNat 1)) H fun t97 H =>
 pW (aS2b H t0) fun t99 H =>
 pO (aLen .sl H t99) H fun t100 H =>
 S196_2 call 1000000 t1 t8 t9 t10 t97 (.bool false) (.int .u64 (.ofNat 0)) t99 t100 (iN 0) H
def S196_10 (call : CallFn) (t0 t1 t2 t8 t9 : AV) (H : AHeap) : R :=
 pEql t1 (iN 10) H fun t91 H =>
 onBool t91 (S196_9 call t0 t1 t2 t8 t9 (.int .u64 (.ofNat 1844674407370955162)) H) (pEql t1 (iN 16) H fun t93 H =>
 onBool t93 (S196_9 call t0 t1 t2 t8 t9 (.int .u64 (.ofNat 1152921504606846976)) H) (pConv .u64 t1 H fun t87 H =>
 pO (aBin .quo (.int .u64 (.ofNat 18446744073709551615)) t87) H fun t88 H =>
 pAdd t88 (.int .u64 (.ofNat 1)) H fun t89 H =>
 S196_9 call t0 t1 t2 t8 t9 t89 H))
def S196_11 (call : CallFn) (t0 t1 t2 t8 t9 t80 t82 : AV) (H : AHeap) : R :=
 pPick t80 (.bool true) t82 H fun t83 H =>
 onBool t83 (some (.tup [(.int .u64 (.ofNat 0)), (.iface y384 (iN 4))], H)) (S196_10 call t0 t1 t2 t8 t9 H)
def S196_12 (call : CallFn) (t0 t1 t2 t8 t9 : AV) (H : AHeap) : R :=
 pEql t2 (iN 0) H fun t77 H =>
 onBool t77 (S196_10 call t0 t1 (iN 64) t8 t9 H) (pLss t2 (iN 0) H fun t79 H =>
 guardA t79 false (pGtr t2 (iN 64) H fun t82 H =>
 S196_11 call t0 t1 t2 t8 t9 t79 t82 H) (S196_11 call t0 t1 t2 t8 t9 t79 U H))
def S196_13 (call : CallFn) (t0 t2 t8 t9 t68 t72 : AV) (H : AHeap) : R :=
 pPick t68 t72 (.bool false) H fun t73 H =>
 onBool t73 (pO (aSliceS t0 (.some (iN 2)) .none) H fun t75 H =>
 S196_12 call t75 (iN 16) t2 t8 t9 H) (pO (aSliceS t0 (.some (iN 1)) .none) H fun t39 H =>
 S196_12 call t39 (iN 8) t2 t8 t9 H)
def S196_14 (call : CallFn) (t0 t2 t8 t9 t56 t60 : AV) (H : AHeap) : R :=
 pPick t56 t60 (.bool false) H fun t61 H =>
 onBool t61 (pO (aSliceS t0 (.some (iN 2)) .none) H fun t63 H =>
 S196_12 call t63 (iN 8) t2 t8 t9 H) (pO (aLen .str H t0) H fun t66 H =>
 pGeq t66 (iN 3) H fun t67 H =>
 guardA t67 true (pO (aIdxS t0 (iN 1)) H fun t70 H =>
 pC call n307 [t70] H fun t71 H =>
 pEql t71 (.int .u8 (.ofNat 120)) H fun t72 H =>
 S196_13 call t0 t2 t8 t9 t67 t72 H) (S196_13 call t0 t2 t8 t9 t67 U H))
def S196_15 (call : CallFn) (t0 t2 t8 t9 t44 t48 : AV) (H : AHeap) : R :=
 pPick t44 t48 (.bool false) H fun t49 H =>
 onBool t49 (pO (aSliceS t0 (.some (iN 2)) .none) H fun t51 H =>
 S196_12 call t51 (iN 2) t2 t8 t9 H) (pO (aLen .str H t0) H fun t54 H =>
 pGeq t54 (iN 3) H fun t55 H =>
 guardA t55 true (pO (aIdxS t0 (iN 1)) H fun t58 H =>
 pC call n307 [t58] H fun t59 H =>
 pEql t59 (.int .u8 (.ofNat 111)) H fun t60 H =>
 S196_14 call t0 t2 t8 t9 t55 t60 H) (S196_14 call t0 t2 t8 t9 t55 U H))
def S196_16 (call : CallFn) (t0 t1 t2 t8 t9 t28 t30 : AV) (H : AHeap) : R :=
 pPick t28 t30 (.bool false) H fun t31 H =>
 onBool t31 (S196_12 call t0 t1 t2 t8 t9 H) (pEql t1 (iN 0) H fun t34 H =>
 onBool t34 (pO (aIdxS t0 (iN 0)) H fun t36 H =>
 pEql t36 (.int .u8 (.ofNat 48)) H fun t37 H =>
 onBool t37 (pO (aLen .str H t0) H fun t42 H =>
 pGeq t42 (iN 3) H fun t43 H =>
 guardA t43 true (pO (aIdxS t0 (iN 1)) H fun t46 H =>
 pC call n307 [t46] H fun t47 H =>
 pEql t47 (.int .u8 (.ofNat 98)) H fun t48 H =>
 S196_15 call t0 t2 t8 t9 t43 t48 H) (S196_15 call t0 t2 t8 t9 t43 U H)) (S196_12 call t0 (iN 10) t2 t8 t9 H)) (some (.tup [(.int .u64 (.ofNat 0)), (.iface y384 (iN 3))], H)))
def S196_17 (call : CallFn) (t0 t1 t2 : AV) (H : AHeap) : R :=
 pEql t0 (.str []) H fun t19 H =>
 onBool t19 (some (.tup [(.int .u64 (.ofNat 0)), (.iface y384 (iN 2))], H)) (pEql t1 (iN 0) H fun t22 H =>
 pLeq (iN 2) t1 H fun t27 H =>
 guardA t27 true (pLeq t1 (iN 36) H fun t30 H =>
 S196_16 call t0 t1 t2 t22 t0 t27 t30 H) (S196_16 call t0 t1 t2 t22 t0 t27 U H))
def S196 : Ff := ⟨fun call l H => argA3 (fun t0 t1 t2 => S196_17 call t0 t1 t2 H) l⟩
def S198_0 (_ : CallFn) (t2 t3 : AV) (H : AHeap) : R :=
 ldK (.some 3) H t3 fun t24 H =>
 stK 3 H t2 t24 fun _ H =>
 ob (allM (fun o => o) [aLoad (.some 3) H t2]) fun vs => some (resV vs, H)
def S198_1 (call : CallFn) (t0 : AV) (H : AHeap) : R :=
 pNew [(iN 0), (.str []), (iN 0)] H fun t2 H =>
 pC call n70 [t0] H fun t5 H =>
 pNew [(iN 0), (.str []), (iN 0)] H fun t3 H =>
 stK 3 H t3 t5 fun _ H =>
 pO (aNil t0) H fun t7 H =>
 pFa 1 t7 H fun t8 H =>
 ldK .none H t8 fun t9 H =>
 pO (aNil t0) H fun t11 H =>
 pFa 0 t11 H fun t12 H =>
 ldK .none H t12 fun t13 H =>
 pO (aLen .sl H t13) H fun t14 H =>
 pSub t14 (iN 1) H fun t15 H =>
 pLss t9 t15 H fun t16 H =>
 onBool t16 (pO (aNil t0) H fun t18 H =>
 pFa 1 t18 H fun t19 H =>
 ldK .none H t19 fun t20 H =>
 pAdd t20 (iN 1) H fun t21 H =>
 pO (aNil t0) H fun t22 H =>
 pFa 1 t22 H fun t23 H =>
 stK 1 H t23 t21 fun _ H =>
 S198_0 call t2 t3 H) (S198_0 call t2 t3 H)
def S198 : Ff := ⟨fun call l H => argA1 (fun t0 => S198_1 call t0 H) l⟩
def S199_0 (call : CallFn) (t0 t1 : AV) (H : AHeap) : R :=
 pC call n313 [t0, t1] H fun t7 H =>
 pGeq t7 (iN 0) H fun t8 H =>
 some (t8, H)
def S199 : Ff := ⟨fun call l H => argA2 (fun t0 t1 => S199_0 call t0 t1 H) l⟩
def S205_0 (call : CallFn) (t0 t1 : AV) (H : AHeap) : R :=
 pC call n317 [t0, t1] H fun t8 H =>
 pExt t8 0 H fun t9 H =>
 pExt t8 1 H fun t10 H =>
 some (.tup [t9, t10], H)
def S205 : Ff := ⟨fun call l H => argA2 (fun t0 t1 => S205_0 call t0 t1 H) l⟩
def S207_0 (call : CallFn) (t3 t4 t5 t34 t40 t45 : AV) (H : AHeap) : R :=
 pPick t40 t45 (.bool false) H fun t46 H =>
 ldK (.some 4) H t3 fun t47 H =>
 pC call n33 [t34, t46, t47] H fun _ H =>
 pIa 4 t5 (iN 0) H fun t50 H =>
 ldK (.some 4) H t50 fun t51 H =>
 stK 4 H t4 t51 fun _ H =>
 ob (allM (fun o => o) [aLoad (.some 4) H t4]) fun vs => some (resV vs, H)
def S207_1 (call : CallFn) (t3 t4 t5 t34 t40 t44 : AV) (H : AHeap) : R :=
 guardA t40 true (pNeq t44 (.str [98, 111, 111, 108]) H fun t45 H =>
 S207_0 call t3 t4 t5 t34 t40 t45 H) (S207_0 call t3 t4 t5 t34 t40 U H)
def S207_2 (call : CallFn) (t3 t4 t5 t34 t40 t43 : AV) (H : AHeap) : R :=
 guardA t40 true (ldK .none H t43 fun t44 H =>
 S207_1 call t3 t4 t5 t34 t40 t44 H) (S207_1 call t3 t4 t5 t34 t40 U H)
def S207_3 (call : CallFn) (t3 t4 t5 t34 t40 t42 : AV) (H : AHeap) : R :=
 guardA t40 true (pFa 0 t42 H fun t43 H =>
 S207_2 call t3 t4 t5 t34 t40 t43 H) (S207_2 call t3 t4 t5 t34 t40 U H)
def S207_4 (call : CallFn) (t3 t4 t5 t34 t40 t41 : AV) (H : AHeap) : R :=
 guardA t40 true (pIa 4 t41 (iN 0) H fun t42 H =>
 S207_3 call t3 t4 t5 t34 t40 t42 H) (S207_3 call t3 t4 t5 t34 t40 U H)
def S207_5 (call : CallFn) (t3 t4 t7 t74 t83 t86 t88 : AV) (H : AHeap) : R :=
 andR (andB (ckV (aLoad (.some 4) H t3) t88) true) (
 pPick t83 t86 (.bool false) H fun t87 H =>
 pC call n33 [t74, t87, t88] H fun _ H =>
 ldK (.some 4) H t7 fun t90 H =>
 stK 4 H t4 t90 fun _ H =>
 ob (allM (fun o => o) [aLoad (.some 4) H t4]) fun vs => some (resV vs, H))
def S207_6 (call : CallFn) (t3 t4 t7 t74 t83 t84 t85 : AV) (H : AHeap) : R :=
 ldK (.some 4) H t3 fun t88 H =>
 guardA t83 true (pC call n208 [t84, t85] H fun t86 H =>
 S207_5 call t3 t4 t7 t74 t83 t86 t88 H) (S207_5 call t3 t4 t7 t74 t83 U t88 H)
def S207_7 (call : CallFn) (t3 t4 t7 t74 t83 t84 : AV) (H : AHeap) : R :=
 guardA t83 true (ldK (.some 4) H t7 fun t85 H =>
 S207_6 call t3 t4 t7 t74 t83 t84 t85 H) (S207_6 call t3 t4 t7 t74 t83 t84 U H)
def S207_8 (call : CallFn) (t3 t4 t6 t7 t74 t78 t81 : AV) (H : AHeap) : R :=
 pPick t78 (.bool true) t81 H fun t82 H =>
 guardA t82 true (ldK (.some 4) H t6 fun t84 H =>
 S207_7 call t3 t4 t7 t74 t82 t84 H) (S207_7 call t3 t4 t7 t74 t82 U H)
def S207_9 (call : CallFn) (t3 t4 t6 t7 t74 t78 t80 : AV) (H : AHeap) : R :=
 guardA t78 false (pEql t80 (.str [33]) H fun t81 H =>
 S207_8 call t3 t4 t6 t7 t74 t78 t81 H) (S207_8 call t3 t4 t6 t7 t74 t78 U H)
def S207_10 (call : CallFn) (t3 t4 t6 t7 t74 t78 t79 : AV) (H : AHeap) : R :=
 guardA t78 false (ldK .none H t79 fun t80 H =>
 S207_9 call t3 t4 t6 t7 t74 t78 t80 H) (S207_9 call t3 t4 t6 t7 t74 t78 U H)
def S207_11 (call : CallFn) (t0 t3 t4 t6 t7 : AV) (H : AHeap) : R :=
 pFa 1 t3 H fun t75 H =>
 ldK .none H t75 fun t76 H =>
 pEql t76 (.str [45]) H fun t77 H =>
 guardA t77 false (pFa 1 t3 H fun t79 H =>
 S207_10 call t3 t4 t6 t7 t0 t77 t79 H) (S207_10 call t3 t4 t6 t7 t0 t77 U H)
def S207_12 (call : CallFn) (t0 t3 t4 t5 t13 t159 t165 t170 : AV) (H : AHeap) : R :=
 pPick t165 (.bool true) t170 H fun t171 H =>
 ldK (.some 4) H t3 fun t172 H =>
 pC call n33 [t159, t171, t172] H fun _ H =>
 pFa 0 t13 H fun t175 H =>
 ldK .none H t175 fun t176 H =>
 pEql t176 (.str [105, 110, 116]) H fun t177 H =>
 pIa 4 t5 (iN 1) H fun t179 H =>
 ldK (.some 4) H t179 fun t180 H =>
 pC call n33 [t0, t177, t180] H fun _ H =>
 pIa 4 t5 (iN 0) H fun t183 H =>
 ldK (.some 4) H t183 fun t184 H =>
 stK 4 H t4 t184 fun _ H =>
 ob (allM (fun o => o) [aLoad (.some 4) H t4]) fun vs => some (resV vs, H)
def S207_13 (call : CallFn) (t0 t3 t4 t5 t13 t159 t165 t169 : AV) (H : AHeap) : R :=
 guardA t165 false (pEql t169 (.str [99, 104, 97, 110]) H fun t170 H =>
 S207_12 call t0 t3 t4 t5 t13 t159 t165 t170 H) (S207_12 call t0 t3 t4 t5 t13 t159 t165 U H)
def S207_14 (call : CallFn) (t0 t3 t4 t5 t13 t159 t165 t168 : AV) (H : AHeap) : R :=
 guardA t165 false (ldK .none H t168 fun t169 H =>
 S207_13 call t0 t3 t4 t5 t13 t159 t165 t169 H) (S207_13 call t0 t3 t4 t5 t13 t159 t165 U H)
def S207_15 (call : CallFn) (t0 t3 t4 t5 t13 t159 t165 t167 : AV) (H : AHeap) : R :=
 guardA t165 false (pFa 0 t167 H fun t168 H =>
 S207_14 call t0 t3 t4 t5 t13 t159 t165 t168 H) (S207_14 call t0 t3 t4 t5 t13 t159 t165 U H)
def S207_16 (call : CallFn) (t0 t3 t4 t5 t13 t159 t165 t166 : AV) (H : AHeap) : R :=
 guardA t165 false (pIa 4 t166 (iN 0) H fun t167 H =>
 S207_15 call t0 t3 t4 t5 t13 t159 t165 t167 H) (S207_15 call t0 t3 t4 t5 t13 t159 t165 U H)
def S207_17 (call : CallFn) (t0 t3 t4 t5 t24 t28 : AV) (H : AHeap) : R :=
 onBool t28 (pC call n318 [(.str [98, 111, 111, 108])] H fun t31 H =>
 stK 4 H t4 t31 fun _ H =>
 ob (allM (fun o => o) [aLoad (.some 4) H t4]) fun vs => some (resV vs, H)) (pEql t24 (.str [110, 105, 108]) H fun t33 H =>
 onBool t33 (pIa 4 t5 (iN 0) H fun t36 H =>
 pFa 0 t36 H fun t37 H =>
 ldK .none H t37 fun t38 H =>
 pNeq t38 (.str [105, 110, 116]) H fun t39 H =>
 guardA t39 true (S207_4 call t3 t4 t5 t0 t39 t5 H) (S207_4 call t3 t4 t5 t0 t39 U H)) (pEql t24 (.str [110, 97, 109, 101]) H fun t53 H =>
 onBool t53 (ldK (.some 4) H t3 fun t55 H =>
 pC call n319 [t0, t55] H fun t56 H =>
 stK 4 H t4 t56 fun _ H =>
 ob (allM (fun o => o) [aLoad (.some 4) H t4]) fun vs => some (resV vs, H)) (pEql t24 (.str [98, 105, 110, 97, 114, 121]) H fun t58 H =>
 onBool t58 (ldK (.some 4) H t3 fun t60 H =>
 pC call n320 [t0, t60] H fun t61 H =>
 stK 4 H t4 t61 fun _ H =>
 ob (allM (fun o => o) [aLoad (.some 4) H t4]) fun vs => some (resV vs, H)) (pEql t24 (.str [117, 110, 97, 114, 121]) H fun t63 H =>
 onBool t63 (pIa 4 t5 (iN 0) H fun t66 H =>
 ldK (.some 4) H t66 fun t67 H =>
 pC call n207 [t0, t67] H fun t68 H =>
 pNew [(.str []), (.str []), (iN 0), .nilsl] H fun t6 H =>
 stK 4 H t6 t68 fun _ H =>
 pC call n318 [(.str [105, 110, 116])] H fun t69 H =>
 pNew [(.str []), (.str []), (iN 0), .nilsl] H fun t7 H =>
 stK 4 H t7 t69 fun _ H =>
 pFa 1 t3 H fun t70 H =>
 ldK .none H t70 fun t71 H =>
 pEql t71 (.str [33]) H fun t72 H =>
 onBool t72 (pC call n318 [(.str [98, 111, 111, 108])] H fun t73 H =>
 stK 4 H t7 t73 fun _ H =>
 S207_11 call t0 t3 t4 t6 t7 H) (S207_11 call t0 t3 t4 t6 t7 H)) (pEql t24 (.str [99, 97, 108, 108]) H fun t92 H =>
 onBool t92 (ldK (.some 4) H t3 fun t94 H =>
 pC call n212 [t0, t94] H fun t95 H =>
 pNew [(.str []), (.str []), (iN 0), .nilsl] H fun t8 H =>
 stK 4 H t8 t95 fun _ H =>
 pFa 0 t8 H fun t97 H =>
 ldK .none H t97 fun t98 H =>
 pNeq t98 (.str [110, 111, 110, 101]) H fun t99 H =>
 ldK (.some 4) H t3 fun t100 H =>
 pC call n33 [t0, t99, t100] H fun _ H =>
 ldK (.some 4) H t8 fun t102 H =>
 stK 4 H t4 t102 fun _ H =>
 ob (allM (fun o => o) [aLoad (.some 4) H t4]) fun vs => some (resV vs, H)) (pEql t24 (.str [105, 110, 100, 101, 120]) H fun t104 H =>
 onBool t104 (pIa 4 t5 (iN 0) H fun t107 H =>
 ldK (.some 4) H t107 fun t108 H =>
 pIa 4 t5 (iN 1) H fun t112 H =>
 ldK (.some 4) H t112 fun t113 H =>
 pNew [(.str []), (.str []), (iN 0), .nilsl] H fun t9 H =>
 pNew [(.str []), (.str []), (iN 0), .nilsl] H fun t10 H =>
 pC call n207 [t0, t108] H fun t109 H =>
 andR (andB (ckV (aLoad (.some 4) H t112) t113) true) (
 pC call n207 [t0, t113] H fun t114 H =>
 stK 4 H t9 t109 fun _ H =>
 stK 4 H t10 t114 fun _ H =>
 pFa 0 t9 H fun t116 H =>
 ldK .none H t116 fun t117 H =>
 pEql t117 (.str [108, 105, 115, 116]) H fun t118 H =>
 ldK (.some 4) H t3 fun t119 H =>
 pC call n33 [t0, t118, t119] H fun _ H =>
 pFa 0 t10 H fun t122 H =>
 ldK .none H t122 fun t123 H =>
 pEql t123 (.str [105, 110, 116]) H fun t124 H =>
 pIa 4 t5 (iN 1) H fun t126 H =>
 ldK (.some 4) H t126 fun t127 H =>
 pC call n33 [t0, t124, t127] H fun _ H =>
 ldK (.some 4) H t9 fun t129 H =>
 pC call n321 [t129] H fun t130 H =>
 stK 4 H t4 t130 fun _ H =>
 ob (allM (fun o => o) [aLoad (.some 4) H t4]) fun vs => some (resV vs, H))) (pEql t24 (.str [100, 111, 116]) H fun t132 H =>
 onBool t132 (ldK (.some 4) H t3 fun t134 H =>
 pC call n322 [t0, t134] H fun t135 H =>
 stK 4 H t4 t135 fun _ H =>
 ob (allM (fun o => o) [aLoad (.some 4) H t4]) fun vs => some (resV vs, H)) (pEql t24 (.str [110, 101, 119]) H fun t137 H =>
 onBool t137 (pFa 1 t3 H fun t140 H =>
 ldK .none H t140 fun t141 H =>
 pC call n32 [t0, (.str [115, 116, 114, 117, 99, 116]), t141] H fun t142 H =>
 pExt t142 0 H fun t143 H =>
 pExt t142 1 H fun t144 H =>
 pNew [(.str []), (.str []), (iN 0), .nilsl] H fun t11 H =>
 stK 4 H t11 t143 fun _ H =>
 ldK (.some 4) H t3 fun t147 H =>
 pC call n33 [t0, t144, t147] H fun _ H =>
 pFa 1 t3 H fun t149 H =>
 ldK .none H t149 fun t150 H =>
 pO (someAgg (aFill [(.str []), (.str []), (iN 0), .nilsl] [(0, 1, (.str [110, 97, 109, 101, 100])), (1, 1, t150)])) H fun t151 H =>
 stK 4 H t4 t151 fun _ H =>
 ob (allM (fun o => o) [aLoad (.some 4) H t4]) fun vs => some (resV vs, H)) (pEql t24 (.str [109, 97, 107, 101]) H fun t153 H =>
 onBool t153 (pIa 4 t5 (iN 1) H fun t156 H =>
 ldK (.some 4) H t156 fun t157 H =>
 pC call n207 [t0, t157] H fun t158 H =>
 pNew [(.str []), (.str []), (iN 0), .nilsl] H fun t13 H =>
 stK 4 H t13 t158 fun _ H =>
 pIa 4 t5 (iN 0) H fun t161 H =>
 pFa 0 t161 H fun t162 H =>
 ldK .none H t162 fun t163 H =>
 pEql t163 (.str [108, 105, 115, 116]) H fun t164 H =>
 guardA t164 false (S207_16 call t0 t3 t4 t5 t13 t0 t164 t5 H) (S207_16 call t0 t3 t4 t5 t13 t0 t164 U H)) (pEql t24 (.str [108, 101, 110]) H fun t186 H =>
 onBool t186 (pIa 4 t5 (iN 0) H fun t189 H =>
 ldK (.some 4) H t189 fun t190 H =>
 pC call n207 [t0, t190] H fun t191 H =>
 pNew [(.str []), (.str []), (iN 0), .nilsl] H fun t14 H =>
 stK 4 H t14 t191 fun _ H =>
 pFa 0 t14 H fun t193 H =>
 ldK .none H t193 fun t194 H =>
 pEql t194 (.str [108, 105, 115, 116]) H fun t195 H =>
 ldK (.some 4) H t3 fun t196 H =>
 pC call n33 [t0, t195, t196] H fun _ H =>
 pC call n318 [(.str [105, 110, 116])] H fun t198 H =>
 stK 4 H t4 t198 fun _ H =>
 ob (allM (fun o => o) [aLoad (.some 4) H t4]) fun vs => some (resV vs, H)) (pEql t24 (.str [114, 101, 99, 118]) H fun t200 H =>
 onBool t200 (pIa 4 t5 (iN 0) H fun t203 H =>
 ldK (.some 4) H t203 fun t204 H =>
 pC call n207 [t0, t204] H fun t205 H =>
 pNew [(.str []), (.str []), (iN 0), .nilsl] H fun t15 H =>
 stK 4 H t15 t205 fun _ H =>
 pFa 0 t15 H fun t207 H =>
 ldK .none H t207 fun t208 H =>
 pEql t208 (.str [99, 104, 97, 110]) H fun t209 H =>
 ldK (.some 4) H t3 fun t210 H =>
 pC call n33 [t0, t209, t210] H fun _ H =>
 ldK (.some 4) H t15 fun t212 H =>
 pC call n321 [t212] H fun t213 H =>
 stK 4 H t4 t213 fun _ H =>
 ob (allM (fun o => o) [aLoad (.some 4) H t4]) fun vs => some (resV vs, H)) (ldK (.some 4) H t3 fun t215 H =>
 pC call n323 [t0, t215] H fun t216 H =>
 stK 4 H t4 t216 fun _ H =>
 ob (allM (fun o => o) [aLoad (.some 4) H t4]) fun vs => some (resV vs, H)))))))))))))
def S207_18 (call : CallFn) (t0 t1 : AV) (H : AHeap) : R :=
 pBox t1 H fun t3 H =>
 pNew [(.str []), (.str []), (iN 0), .nilsl] H fun t4 H =>
 pO (aNil t0) H fun t17 H =>
 pFa 4 t17 H fun t18 H =>
 ldK .none H t18 fun t19 H =>
 onBool t19 (pO (someAgg (aFill [(.str []), (.str []), (iN 0), .nilsl] [])) H fun t20 H =>
 stK 4 H t4 t20 fun _ H =>
 ob (allM (fun o => o) [aLoad (.some 4) H t4]) fun vs => some (resV vs, H)) (pFa 3 t3 H fun t21 H =>
 ldK .none H t21 fun t22 H =>
 pFa 0 t3 H fun t23 H =>
 ldK .none H t23 fun t24 H =>
 pEql t24 (.str [110, 117, 109, 98, 101, 114]) H fun t26 H =>
 onBool t26 (pC call n318 [(.str [105, 110, 116])] H fun t27 H =>
 stK 4 H t4 t27 fun _ H =>
 ob (allM (fun o => o) [aLoad (.some 4) H t4]) fun vs => some (resV vs, H)) (pEql t24 (.str [116, 114, 117, 101]) H fun t29 H =>
 onBool t29 (S207_17 call t0 t3 t4 t22 t24 t29 H) (pEql t24 (.str [102, 97, 108, 115, 101]) H fun t30 H =>
 S207_17 call t0 t3 t4 t22 t24 t30 H)))
def S207 : Ff := ⟨fun call l H => argA2 (fun t0 t1 => S207_18 call t0 t1 H) l⟩
def S208_0 (_ : CallFn) (t17 t22 : AV) (H : AHeap) : R :=
 pPick t17 t22 (.bool false) H fun t23 H =>
 some (t23, H)
def S208_1 (call : CallFn) (t2 t3 t10 t15 : AV) (H : AHeap) : R :=
 pPick t10 t15 (.bool false) H fun t16 H =>
 guardA t16 true (pFa 3 t2 H fun t18 H =>
 ldK .none H t18 fun t19 H =>
 pFa 3 t3 H fun t20 H =>
 ldK .none H t20 fun t21 H =>
 pC call n324 [t19, t21, (.fn n208 [] [])] H fun t22 H =>
 S208_0 call t16 t22 H) (S208_0 call t16 U H)
def S208_2 (call : CallFn) (t0 t1 : AV) (H : AHeap) : R :=
 pBox t0 H fun t2 H =>
 pBox t1 H fun t3 H =>
 pFa 0 t2 H fun t5 H =>
 ldK .none H t5 fun t6 H =>
 pFa 0 t3 H fun t7 H =>
 ldK .none H t7 fun t8 H =>
 pEql t6 t8 H fun t9 H =>
 guardA t9 true (pFa 1 t2 H fun t11 H =>
 ldK .none H t11 fun t12 H =>
 pFa 1 t3 H fun t13 H =>
 ldK .none H t13 fun t14 H =>
 pEql t12 t14 H fun t15 H =>
 S208_1 call t2 t3 t9 t15 H) (S208_1 call t2 t3 t9 U H)
def S208 : Ff := ⟨fun call l H => argA2 (fun t0 t1 => S208_2 call t0 t1 H) l⟩
def S217_0 (call : CallFn) (t0 t2 t7 : AV) (H : AHeap) : R :=
 pO (aNil t0) H fun t53 H =>
 pFa 0 t53 H fun t54 H =>
 ldK .none H t54 fun t55 H =>
 pC call n329 [t55, t7] H fun t57 H =>
 pO (someAgg (aFill [(iN 0), (iN 0), (iN 0), (iN 0), (iN 0)] [(0, 1, (iN 0)), (1, 1, t2), (2, 1, t57)])) H fun t58 H =>
 pC call n86 [t0, t58] H fun _ H =>
 some (.tup [], H)
def S217_1 (call : CallFn) (t0 t2 t6 t14 t15 t16 t17 : AV) (H : AHeap) : R :=
 pO (aNil t0) H fun t173 H =>
 pFa 0 t173 H fun t174 H =>
 ldK .none H t174 fun t175 H =>
 pIa 4 t6 (iN 0) H fun t178 H =>
 pFa 3 t178 H fun t179 H =>
 ldK .none H t179 fun t180 H =>
 pIa 4 t180 (iN 0) H fun t181 H =>
 ldK (.some 4) H t181 fun t182 H =>
 pC call n336 [t175, t17, t182] H fun t183 H =>
 pO (someAgg (aFill [(iN 0), (iN 0), (iN 0), (iN 0), (iN 0)] [(0, 1, t16), (1, 1, t2), (2, 1, t183), (3, 1, t14)])) H fun t185 H =>
 pC call n86 [t0, t185] H fun _ H =>
 pN (aBsl 1 1 [(iN 0)] [(0, 1, t15)]) H fun t189 H =>
 pC call n225 [t0, t189] H fun _ H =>
 some (.tup [], H)
def S217_2 (call : CallFn) (t0 t2 t4 t6 t25 t44 : AV) (H : AHeap) : R :=
 onBool t44 (pFa 0 t4 H fun t47 H =>
 ldK .none H t47 fun t48 H =>
 pEql t48 (.str [116, 114, 117, 101]) H fun t49 H =>
 onBool t49 (S217_0 call t0 t2 (iN 1) H) (S217_0 call t0 t2 (iN 0) H)) (pEql t25 (.str [110, 105, 108]) H fun t61 H =>
 onBool t61 (pO (someAgg (aFill [(iN 0), (iN 0), (iN 0), (iN 0), (iN 0)] [(0, 1, (iN 2)), (1, 1, t2)])) H fun t64 H =>
 pC call n86 [t0, t64] H fun _ H =>
 some (.tup [], H)) (pEql t25 (.str [110, 97, 109, 101]) H fun t67 H =>
 onBool t67 (ldK (.some 4) H t4 fun t69 H =>
 pC call n331 [t0, t69, t2] H fun _ H =>
 some (.tup [], H)) (pEql t25 (.str [117, 110, 97, 114, 121]) H fun t73 H =>
 onBool t73 (ldK (.some 4) H t4 fun t75 H =>
 pC call n332 [t0, t75, t2] H fun _ H =>
 some (.tup [], H)) (pEql t25 (.str [98, 105, 110, 97, 114, 121]) H fun t79 H =>
 onBool t79 (ldK (.some 4) H t4 fun t81 H =>
 pC call n333 [t0, t81, t2] H fun _ H =>
 some (.tup [], H)) (pEql t25 (.str [99, 97, 108, 108]) H fun t85 H =>
 onBool t85 (ldK (.some 4) H t4 fun t87 H =>
 pC call n223 [t0, t87, t2, (.bool false)] H fun _ H =>
 some (.tup [], H)) (pEql t25 (.str [105, 110, 100, 101, 120]) H fun t91 H =>
 onBool t91 (pIa 4 t6 (iN 0) H fun t95 H =>
 ldK (.some 4) H t95 fun t96 H =>
 pC call n224 [t0, t96] H fun t97 H =>
 pExt t97 0 H fun t98 H =>
 pExt t97 1 H fun t99 H =>
 pIa 4 t6 (iN 1) H fun t103 H =>
 ldK (.some 4) H t103 fun t104 H =>
 pC call n224 [t0, t104] H fun t105 H =>
 pExt t105 0 H fun t106 H =>
 pExt t105 1 H fun t107 H =>
 pO (someAgg (aFill [(iN 0), (iN 0), (iN 0), (iN 0), (iN 0)] [(0, 1, (iN 30)), (1, 1, t2), (2, 1, t98), (3, 1, t106)])) H fun t112 H =>
 pC call n86 [t0, t112] H fun _ H =>
 pN (aBsl 1 2 [(iN 0)] [(0, 1, t99), (1, 1, t107)]) H fun t117 H =>
 pC call n225 [t0, t117] H fun _ H =>
 some (.tup [], H)) (pEql t25 (.str [100, 111, 116]) H fun t120 H =>
 onBool t120 (pIa 4 t6 (iN 0) H fun t124 H =>
 ldK (.some 4) H t124 fun t125 H =>
 pC call n224 [t0, t125] H fun t126 H =>
 pExt t126 0 H fun t127 H =>
 pExt t126 1 H fun t128 H =>
 ldK (.some 4) H t4 fun t133 H =>
 pC call n334 [t0, t133] H fun t134 H =>
 pO (someAgg (aFill [(iN 0), (iN 0), (iN 0), (iN 0), (iN 0)] [(0, 1, (iN 27)), (1, 1, t2), (2, 1, t127), (3, 1, t134)])) H fun t135 H =>
 pC call n86 [t0, t135] H fun _ H =>
 pN (aBsl 1 1 [(iN 0)] [(0, 1, t128)]) H fun t139 H =>
 pC call n225 [t0, t139] H fun _ H =>
 some (.tup [], H)) (pEql t25 (.str [110, 101, 119]) H fun t142 H =>
 onBool t142 (pO (aNil t0) H fun t146 H =>
 pFa 0 t146 H fun t147 H =>
 ldK .none H t147 fun t148 H =>
 pFa 1 t4 H fun t149 H =>
 ldK .none H t149 fun t150 H =>
 pC call n335 [t148, t150] H fun t151 H =>
 pO (someAgg (aFill [(iN 0), (iN 0), (iN 0), (iN 0), (iN 0)] [(0, 1, (iN 25)), (1, 1, t2), (2, 1, t151)])) H fun t152 H =>
 pC call n86 [t0, t152] H fun _ H =>
 some (.tup [], H)) (pEql t25 (.str [109, 97, 107, 101]) H fun t155 H =>
 onBool t155 (pIa 4 t6 (iN 1) H fun t159 H =>
 ldK (.some 4) H t159 fun t160 H =>
 pC call n224 [t0, t160] H fun t161 H =>
 pExt t161 0 H fun t162 H =>
 pExt t161 1 H fun t163 H =>
 pIa 4 t6 (iN 0) H fun t165 H =>
 pFa 0 t165 H fun t166 H =>
 ldK .none H t166 fun t167 H =>
 pEql t167 (.str [99, 104, 97, 110]) H fun t168 H =>
 onBool t168 (S217_1 call t0 t2 t6 t162 t163 (iN 37) (iN 3) H) (S217_1 call t0 t2 t6 t162 t163 (iN 26) (iN 1) H)) (pEql t25 (.str [108, 101, 110]) H fun t192 H =>
 onBool t192 (pIa 4 t6 (iN 0) H fun t196 H =>
 ldK (.some 4) H t196 fun t197 H =>
 pC call n224 [t0, t197] H fun t198 H =>
 pExt t198 0 H fun t199 H =>
 pExt t198 1 H fun t200 H =>
 pO (someAgg (aFill [(iN 0), (iN 0), (iN 0), (iN 0), (iN 0)] [(0, 1, (iN 33)), (1, 1, t2), (2, 1, t199)])) H fun t204 H =>
 pC call n86 [t0, t204] H fun _ H =>
 pN (aBsl 1 1 [(iN 0)] [(0, 1, t200)]) H fun t208 H =>
 pC call n225 [t0, t208] H fun _ H =>
 some (.tup [], H)) (pEql t25 (.str [114, 101, 99, 118]) H fun t211 H =>
 onBool t211 (pIa 4 t6 (iN 0) H fun t215 H =>
 ldK (.some 4) H t215 fun t216 H =>
 pC call n224 [t0, t216] H fun t217 H =>
 pExt t217 0 H fun t218 H =>
 pExt t217 1 H fun t219 H =>
 pO (someAgg (aFill [(iN 0), (iN 0), (iN 0), (iN 0), (iN 0)] [(0, 1, (iN 39)), (1, 1, t2), (2, 1, t218), (3, 1, (.int .i64 (.negSucc 0)))])) H fun t223 H =>
 pC call n86 [t0, t223] H fun _ H =>
 pN (aBsl 1 1 [(iN 0)] [(0, 1, t219)]) H fun t227 H =>
 pC call n225 [t0, t227] H fun _ H =>
 some (.tup [], H)) (ldK (.some 4) H t4 fun t27 H =>
 pC call n337 [t0, t27, t2] H fun _ H =>
 some (.tup [], H)))))))))))))
def S217_3 (call : CallFn) (t0 t1 t2 : AV) (H : AHeap) : R :=
 pBox t1 H fun t4 H =>
 pFa 3 t4 H fun t22 H =>
 ldK .none H t22 fun t23 H =>
 pFa 0 t4 H fun t24 H =>
 ldK .none H t24 fun t25 H =>
 pEql t25 (.str [110, 117, 109, 98, 101, 114]) H fun t31 H =>
 onBool t31 (pO (aNil t0) H fun t35 H =>
 pFa 0 t35 H fun t36 H =>
 ldK .none H t36 fun t37 H =>
 pFa 1 t4 H fun t38 H =>
 ldK .none H t38 fun t39 H =>
 pC call n330 [t39] H fun t40 H =>
 andR (andB (ckV (aLoad .none H t36) t37) true) (
 pC call n329 [t37, t40] H fun t41 H =>
 pO (someAgg (aFill [(iN 0), (iN 0), (iN 0), (iN 0), (iN 0)] [(0, 1, (iN 0)), (1, 1, t2), (2, 1, t41)])) H fun t42 H =>
 pC call n86 [t0, t42] H fun _ H =>
 some (.tup [], H))) (pEql t25 (.str [116, 114, 117, 101]) H fun t45 H =>
 onBool t45 (S217_2 call t0 t2 t4 t23 t25 t45 H) (pEql t25 (.str [102, 97, 108, 115, 101]) H fun t46 H =>
 S217_2 call t0 t2 t4 t23 t25 t46 H))
def S217 : Ff := ⟨fun call l H => argA3 (fun t0 t1 t2 => S217_3 call t0 t1 t2 H) l⟩
def S224_0 (call : CallFn) (t0 t3 : AV) (H : AHeap) : R :=
 ldK (.some 4) H t3 fun t24 H =>
 pC call n343 [t0, t24] H fun t25 H =>
 pC call n81 [t25] H fun t26 H =>
 pC call n83 [t0, t26] H fun t27 H =>
 ldK (.some 4) H t3 fun t29 H =>
 pC call n217 [t0, t29, t27] H fun _ H =>
 some (.tup [t27, t27], H)
def S224_1 (call : CallFn) (t0 t1 : AV) (H : AHeap) : R :=
 pBox t1 H fun t3 H =>
 pFa 0 t3 H fun t9 H =>
 ldK .none H t9 fun t10 H =>
 pEql t10 (.str [110, 97, 109, 101]) H fun t11 H =>
 onBool t11 (pFa 1 t3 H fun t14 H =>
 ldK .none H t14 fun t15 H =>
 pC call n338 [t0, t15] H fun t16 H =>
 pExt t16 0 H fun t17 H =>
 pExt t16 1 H fun t18 H =>
 pNew [(.str []), (.str []), (.str []), (iN 0), .nilsl, (iN 0)] H fun t6 H =>
 stK 6 H t6 t17 fun _ H =>
 onBool t18 (pFa 5 t6 H fun t20 H =>
 ldK .none H t20 fun t21 H =>
 some (.tup [t21, (.int .i64 (.negSucc 0))], H)) (S224_0 call t0 t3 H)) (S224_0 call t0 t3 H)
def S224 : Ff := ⟨fun call l H => argA2 (fun t0 t1 => S224_1 call t0 t1 H) l⟩
def S225_1 (_ : CallFn) (q0 : AV → AV → AV → AV → AHeap → R) (t0 t6 t7 t8 : AV) (H : AHeap) : R :=
 pAdd t8 (iN 1) H fun t20 H =>
 q0 t0 t6 t7 t20 H
def S225_0 (call : CallFn) (n : Nat) : AV → AV → AV → AV → AHeap → R :=
 Nat.rec (motive := fun _ => AV → AV → AV → AV → AHeap → R) (fun _ _ _ _ _ => none) (fun _ q0 t0 t6 t7 t8 H => pLss t8 t7 H fun t9 H =>
 onBool t9 (pIa 1 t6 t8 H fun t10 H =>
 ldK .none H t10 fun t11 H =>
 pNeq t11 (.int .i64 (.negSucc 0)) H fun t13 H =>
 onBool t13 (pO (aNil t0) H fun t15 H =>
 pFa 3 t15 H fun t16 H =>
 ldK .none H t16 fun t17 H =>
 pIa 1 t17 t11 H fun t19 H =>
 stK 1 H t19 (.bool false) fun _ H =>
 S225_1 call q0 t0 t6 t7 t8 H) (S225_1 call q0 t0 t6 t7 t8 H)) (some (.tup [], H))) n
def S225_2 (call : CallFn) (t0 t1 : AV) (H : AHeap) : R :=
 pO (aLen .sl H t1) H fun t7 H =>
 S225_0 call 1000000 t0 t1 t7 (iN 0) H
def S225 : Ff := ⟨fun call l H => argA2 (fun t0 t1 => S225_2 call t0 t1 H) l⟩
def S228_0 (_ : CallFn) (n : Nat) : AV → AV → AV → AV → AV → AHeap → R :=
 Nat.rec (motive := fun _ => AV → AV → AV → AV → AV → AHeap → R) (fun _ _ _ _ _ _ => none) (fun _ q0 t3 t6 t64 t65 t66 H => pLss t66 t65 H fun t67 H =>
 onBool t67 (pIa 1 t64 t66 H fun t68 H =>
 ldK .none H t68 fun t69 H =>
 ldK .none H t3 fun t71 H =>
 pIa 1 t71 t69 H fun t73 H =>
 ldK .none H t73 fun t74 H =>
 pOr t6 t74 H fun t75 H =>
 pAdd t66 (iN 1) H fun t76 H =>
 q0 t3 t75 t64 t65 t76 H) (some (t6, H))) n
def S228_1 (call : CallFn) (t0 t1 t2 t3 t6 : AV) (H : AHeap) : R :=
 ldK (.some 6) H t2 fun t61 H =>
 ldK (.some 7) H t1 fun t62 H =>
 pC call n150 [t61, t62, t0] H fun t64 H =>
 pO (aLen .sl H t64) H fun t65 H =>
 S228_0 call 1000000 t3 t6 t64 t65 (iN 0) H
def S228_3 (_ : CallFn) (q1 : AV → AV → AV → AV → AV → AV → AHeap → R) (t1 t3 t6 t23 t24 t25 : AV) (H : AHeap) : R :=
 pAdd t25 (iN 1) H fun t59 H =>
 q1 t1 t3 t6 t23 t24 t59 H
def S228_4 (call : CallFn) (q1 : AV → AV → AV → AV → AV → AV → AHeap → R) (t1 t3 t6 t9 t23 t24 t25 t32 t38 : AV) (H : AHeap) : R :=
 pPick t32 (.bool true) t38 H fun t39 H =>
 onBool t39 (S228_3 call q1 t1 t3 t6 t23 t24 t25 H) (ldK .none H t3 fun t40 H =>
 pFa 3 t9 H fun t41 H =>
 ldK .none H t41 fun t42 H =>
 pIa 1 t40 t42 H fun t43 H =>
 ldK .none H t43 fun t44 H =>
 pFa 0 t9 H fun t45 H =>
 ldK .none H t45 fun t46 H =>
 pEql t46 (iN 0) H fun t47 H =>
 onBool t47 (pFa 2 t9 H fun t50 H =>
 ldK .none H t50 fun t51 H =>
 pN (aBsl 1 1 [(iN 0)] [(0, 1, t51)]) H fun t52 H =>
 pC call n230 [t52] H fun t53 H =>
 pAndN t44 t53 H fun t54 H =>
 pOr t6 t54 H fun t55 H =>
 S228_3 call q1 t1 t3 t55 t23 t24 t25 H) (pOr t6 t44 H fun t58 H =>
 S228_3 call q1 t1 t3 t58 t23 t24 t25 H))
def S228_2 (call : CallFn) (n : Nat) : AV → AV → AV → AV → AV → AV → AHeap → R :=
 Nat.rec (motive := fun _ => AV → AV → AV → AV → AV → AV → AHeap → R) (fun _ _ _ _ _ _ _ => none) (fun _ q1 t1 t3 t6 t23 t24 t25 H => pLss t25 t24 H fun t26 H =>
 onBool t26 (pIa 4 t23 t25 H fun t27 H =>
 ldK (.some 4) H t27 fun t28 H =>
 pNew [(iN 0), (iN 0), (iN 0), (iN 0)] H fun t9 H =>
 stK 4 H t9 t28 fun _ H =>
 pFa 3 t9 H fun t29 H =>
 ldK .none H t29 fun t30 H =>
 pLss t30 (iN 0) H fun t31 H =>
 guardA t31 false (pFa 3 t9 H fun t33 H =>
 ldK .none H t33 fun t34 H =>
 pFa 5 t1 H fun t35 H =>
 ldK .none H t35 fun t36 H =>
 pO (aLen .sl H t36) H fun t37 H =>
 pGeq t34 t37 H fun t38 H =>
 S228_4 call q1 t1 t3 t6 t9 t23 t24 t25 t31 t38 H) (S228_4 call q1 t1 t3 t6 t9 t23 t24 t25 t31 U H)) (some (t6, H))) n
def S228_5 (call : CallFn) (t0 t1 t2 t3 : AV) (H : AHeap) : R :=
 pFa 5 t1 H fun t13 H =>
 ldK .none H t13 fun t14 H =>
 pIa 5 t14 t0 H fun t16 H =>
 ldK (.some 5) H t16 fun t17 H =>
 pNew [(iN 0), (iN 0), (iN 0), (iN 0), (iN 0)] H fun t7 H =>
 stK 5 H t7 t17 fun _ H =>
 pFa 0 t7 H fun t18 H =>
 ldK .none H t18 fun t19 H =>
 pEql t19 (iN 41) H fun t20 H =>
 onBool t20 (ldK (.some 6) H t2 fun t21 H =>
 ldK (.some 5) H t7 fun t22 H =>
 pC call n229 [t21, t22] H fun t23 H =>
 pO (aLen .sl H t23) H fun t24 H =>
 S228_2 call 1000000 t1 t3 (.int .u64 (.ofNat 0)) t23 t24 (iN 0) H) (S228_1 call t0 t1 t2 t3 (.int .u64 (.ofNat 0)) H)
def S228 : Ff := ⟨fun call l H => argA4 (fun t0 t1 t2 t3 => S228_5 call t0 t1 t2 t3 H) l⟩
def S229_0 (_ : CallFn) (t2 t3 t21 t30 : AV) (H : AHeap) : R :=
 pPick t21 (.bool true) t30 H fun t31 H =>
 onBool t31 (some (.nilsl, H)) (pFa 3 t2 H fun t32 H =>
 ldK .none H t32 fun t33 H =>
 pFa 1 t3 H fun t34 H =>
 ldK .none H t34 fun t35 H =>
 pFa 1 t3 H fun t36 H =>
 ldK .none H t36 fun t37 H =>
 pFa 2 t3 H fun t38 H =>
 ldK .none H t38 fun t39 H =>
 pAdd t37 t39 H fun t40 H =>
 pO (aSlice 4 H t33 (.some t35) (.some t40) .none) H fun t41 H =>
 some (t41, H))
def S229_1 (call : CallFn) (t2 t3 t13 t19 : AV) (H : AHeap) : R :=
 pPick t13 (.bool true) t19 H fun t20 H =>
 guardA t20 false (pFa 2 t3 H fun t22 H =>
 ldK .none H t22 fun t23 H =>
 pFa 3 t2 H fun t24 H =>
 ldK .none H t24 fun t25 H =>
 pO (aLen .sl H t25) H fun t26 H =>
 pFa 1 t3 H fun t27 H =>
 ldK .none H t27 fun t28 H =>
 pSub t26 t28 H fun t29 H =>
 pGtr t23 t29 H fun t30 H =>
 S229_0 call t2 t3 t20 t30 H) (S229_0 call t2 t3 t20 U H)
def S229_2 (call : CallFn) (t2 t3 t8 t11 : AV) (H : AHeap) : R :=
 pPick t8 (.bool true) t11 H fun t12 H =>
 guardA t12 false (pFa 1 t3 H fun t14 H =>
 ldK .none H t14 fun t15 H =>
 pFa 3 t2 H fun t16 H =>
 ldK .none H t16 fun t17 H =>
 pO (aLen .sl H t17) H fun t18 H =>
 pGtr t15 t18 H fun t19 H =>
 S229_1 call t2 t3 t12 t19 H) (S229_1 call t2 t3 t12 U H)
def S229_3 (call : CallFn) (t0 t1 : AV) (H : AHeap) : R :=
 pBox t0 H fun t2 H =>
 pBox t1 H fun t3 H =>
 pFa 1 t3 H fun t5 H =>
 ldK .none H t5 fun t6 H =>
 pLss t6 (iN 0) H fun t7 H =>
 guardA t7 false (pFa 2 t3 H fun t9 H =>
 ldK .none H t9 fun t10 H =>
 pLss t10 (iN 0) H fun t11 H =>
 S229_2 call t2 t3 t7 t11 H) (S229_2 call t2 t3 t7 U H)
def S229 : Ff := ⟨fun call l H => argA2 (fun t0 t1 => S229_3 call t0 t1 H) l⟩
def S230_1 (_ : CallFn) (q0 : AV → AV → AV → AV → AHeap → R) (t3 t6 t7 t8 : AV) (H : AHeap) : R :=
 pAdd t8 (iN 1) H fun t23 H =>
 q0 t3 t6 t7 t23 H
def S230_2 (call : CallFn) (q0 : AV → AV → AV → AV → AHeap → R) (t3 t5 t6 t7 t8 t14 t16 : AV) (H : AHeap) : R :=
 pPick t14 t16 (.bool false) H fun t17 H =>
 onBool t17 (pConv .u64 t5 H fun t20 H =>
 pO (aBin .shl (.int .u64 (.ofNat 1)) t20) H fun t21 H =>
 pOr t3 t21 H fun t22 H =>
 S230_1 call q0 t22 t6 t7 t8 H) (S230_1 call q0 t3 t6 t7 t8 H)
def S230_0 (call : CallFn) (n : Nat) : AV → AV → AV → AV → AHeap → R :=
 Nat.rec (motive := fun _ => AV → AV → AV → AV → AHeap → R) (fun _ _ _ _ _ => none) (fun _ q0 t3 t6 t7 t8 H => pLss t8 t7 H fun t9 H =>
 onBool t9 (pIa 1 t6 t8 H fun t10 H =>
 ldK .none H t10 fun t11 H =>
 pGeq t11 (iN 0) H fun t13 H =>
 guardA t13 true (pLss t11 (iN 64) H fun t16 H =>
 S230_2 call q0 t3 t11 t6 t7 t8 t13 t16 H) (S230_2 call q0 t3 t11 t6 t7 t8 t13 U H)) (some (t3, H))) n
def S230_3 (call : CallFn) (t0 : AV) (H : AHeap) : R :=
 pO (aLen .sl H t0) H fun t7 H =>
 S230_0 call 1000000 (.int .u64 (.ofNat 0)) t0 t7 (iN 0) H
def S230 : Ff := ⟨fun call l H => argA1 (fun t0 => S230_3 call t0 H) l⟩
def S231_0 (call : CallFn) (t2 t3 t5 t142 t144 : AV) (H : AHeap) : R :=
 pPick t142 (.bool true) t144 H fun t145 H =>
 onBool t145 (pFa 1 t3 H fun t146 H =>
 ldK .none H t146 fun t147 H =>
 pFa 2 t3 H fun t148 H =>
 ldK .none H t148 fun t149 H =>
 pFa 3 t3 H fun t150 H =>
 ldK .none H t150 fun t151 H =>
 pN (aBsl 1 3 [(iN 0)] [(0, 1, t147), (1, 1, t149), (2, 1, t151)]) H fun t152 H =>
 some (t152, H)) (pEql t5 (iN 36) H fun t155 H =>
 onBool t155 (pFa 3 t3 H fun t156 H =>
 ldK .none H t156 fun t157 H =>
 ldK (.some 6) H t2 fun t158 H =>
 pFa 2 t3 H fun t159 H =>
 ldK .none H t159 fun t160 H =>
 pC call n347 [t158, t160] H fun t161 H =>
 andR (andB (ckV (aLoad .none H t156) t157) true) (
 pO (aFld 1 .none t161) H fun t162 H =>
 pC call n346 [t157, t162] H fun t163 H =>
 some (t163, H))) (pEql t5 (iN 38) H fun t166 H =>
 onBool t166 (pFa 1 t3 H fun t167 H =>
 ldK .none H t167 fun t168 H =>
 pFa 2 t3 H fun t169 H =>
 ldK .none H t169 fun t170 H =>
 pN (aBsl 1 2 [(iN 0)] [(0, 1, t168), (1, 1, t170)]) H fun t171 H =>
 some (t171, H)) (pEql t5 (iN 41) H fun t174 H =>
 onBool t174 (ldK (.some 6) H t2 fun t175 H =>
 ldK (.some 5) H t3 fun t176 H =>
 pC call n229 [t175, t176] H fun t177 H =>
 pC call n349 [t177] H fun t178 H =>
 some (t178, H)) (some (.nilsl, H)))))
def S231_1 (call : CallFn) (t2 t3 t5 t130 t132 : AV) (H : AHeap) : R :=
 pPick t130 (.bool true) t132 H fun t133 H =>
 onBool t133 (pFa 1 t3 H fun t134 H =>
 ldK .none H t134 fun t135 H =>
 pFa 3 t3 H fun t136 H =>
 ldK .none H t136 fun t137 H =>
 pN (aBsl 1 2 [(iN 0)] [(0, 1, t135), (1, 1, t137)]) H fun t138 H =>
 some (t138, H)) (pEql t5 (iN 31) H fun t141 H =>
 guardA t141 false (pEql t5 (iN 32) H fun t144 H =>
 S231_0 call t2 t3 t5 t141 t144 H) (S231_0 call t2 t3 t5 t141 U H))
def S231_2 (call : CallFn) (t2 t3 t5 t120 t122 : AV) (H : AHeap) : R :=
 pPick t120 (.bool true) t122 H fun t123 H =>
 onBool t123 (pFa 3 t3 H fun t124 H =>
 ldK .none H t124 fun t125 H =>
 pN (aBsl 1 1 [(iN 0)] [(0, 1, t125)]) H fun t126 H =>
 some (t126, H)) (pEql t5 (iN 28) H fun t129 H =>
 guardA t129 false (pEql t5 (iN 29) H fun t132 H =>
 S231_1 call t2 t3 t5 t129 t132 H) (S231_1 call t2 t3 t5 t129 U H))
def S231_3 (call : CallFn) (t2 t3 t5 t57 t59 : AV) (H : AHeap) : R :=
 pPick t57 (.bool true) t59 H fun t60 H =>
 onBool t60 (pFa 1 t3 H fun t61 H =>
 ldK .none H t61 fun t62 H =>
 pN (aBsl 1 1 [(iN 0)] [(0, 1, t62)]) H fun t63 H =>
 some (t63, H)) (pEql t5 (iN 20) H fun t66 H =>
 onBool t66 (pFa 3 t3 H fun t67 H =>
 ldK .none H t67 fun t68 H =>
 ldK (.some 6) H t2 fun t69 H =>
 pFa 2 t3 H fun t70 H =>
 ldK .none H t70 fun t71 H =>
 pC call n347 [t69, t71] H fun t72 H =>
 andR (andB (ckV (aLoad .none H t67) t68) true) (
 pO (aFld 0 .none t72) H fun t73 H =>
 pC call n346 [t68, t73] H fun t74 H =>
 some (t74, H))) (pEql t5 (iN 21) H fun t77 H =>
 onBool t77 (pFa 2 t3 H fun t78 H =>
 ldK .none H t78 fun t79 H =>
 pN (aBsl 1 1 [(iN 0)] [(0, 1, t79)]) H fun t80 H =>
 pFa 3 t3 H fun t81 H =>
 ldK .none H t81 fun t82 H =>
 pFa 4 t3 H fun t83 H =>
 ldK .none H t83 fun t84 H =>
 pC call n346 [t82, t84] H fun t85 H =>
 andR (andB (ckV (aLoad .none H t78) t79) true) (
 pW (aApp 1 8 H t80 t85) fun t86 H =>
 some (t86, H))) (pEql t5 (iN 22) H fun t89 H =>
 onBool t89 (pFa 1 t3 H fun t90 H =>
 ldK .none H t90 fun t91 H =>
 pN (aBsl 1 1 [(iN 0)] [(0, 1, t91)]) H fun t92 H =>
 pC call n348 [t92] H fun t93 H =>
 some (t93, H)) (pEql t5 (iN 23) H fun t96 H =>
 onBool t96 (pFa 2 t3 H fun t97 H =>
 ldK .none H t97 fun t98 H =>
 ldK (.some 6) H t2 fun t99 H =>
 pFa 1 t3 H fun t100 H =>
 ldK .none H t100 fun t101 H =>
 pC call n347 [t99, t101] H fun t102 H =>
 andR (andB (ckV (aLoad .none H t97) t98) true) (
 pO (aFld 0 .none t102) H fun t103 H =>
 pC call n346 [t98, t103] H fun t104 H =>
 some (t104, H))) (pEql t5 (iN 24) H fun t107 H =>
 onBool t107 (pFa 1 t3 H fun t108 H =>
 ldK .none H t108 fun t109 H =>
 pN (aBsl 1 1 [(iN 0)] [(0, 1, t109)]) H fun t110 H =>
 pFa 2 t3 H fun t111 H =>
 ldK .none H t111 fun t112 H =>
 pFa 3 t3 H fun t113 H =>
 ldK .none H t113 fun t114 H =>
 pC call n346 [t112, t114] H fun t115 H =>
 andR (andB (ckV (aLoad .none H t108) t109) true) (
 pW (aApp 1 8 H t110 t115) fun t116 H =>
 some (t116, H))) (pEql t5 (iN 26) H fun t119 H =>
 guardA t119 false (pEql t5 (iN 37) H fun t122 H =>
 S231_2 call t2 t3 t5 t119 t122 H) (S231_2 call t2 t3 t5 t119 U H)))))))
def S231_4 (call : CallFn) (t2 t3 t5 t53 t55 : AV) (H : AHeap) : R :=
 pPick t53 (.bool true) t55 H fun t56 H =>
 guardA t56 false (pEql t5 (iN 42) H fun t59 H =>
 S231_3 call t2 t3 t5 t56 t59 H) (S231_3 call t2 t3 t5 t56 U H)
def S231_5 (call : CallFn) (t2 t3 t5 t41 t43 : AV) (H : AHeap) : R :=
 pPick t41 (.bool true) t43 H fun t44 H =>
 onBool t44 (pFa 2 t3 H fun t45 H =>
 ldK .none H t45 fun t46 H =>
 pFa 3 t3 H fun t47 H =>
 ldK .none H t47 fun t48 H =>
 pN (aBsl 1 2 [(iN 0)] [(0, 1, t46), (1, 1, t48)]) H fun t49 H =>
 some (t49, H)) (pEql t5 (iN 19) H fun t52 H =>
 guardA t52 false (pEql t5 (iN 40) H fun t55 H =>
 S231_4 call t2 t3 t5 t52 t55 H) (S231_4 call t2 t3 t5 t52 U H))
def S231_6 (call : CallFn) (t2 t3 t5 t37 t39 : AV) (H : AHeap) : R :=
 pPick t37 t39 (.bool false) H fun t40 H =>
 guardA t40 false (pEql t5 (iN 30) H fun t43 H =>
 S231_5 call t2 t3 t5 t40 t43 H) (S231_5 call t2 t3 t5 t40 U H)
def S231_7 (call : CallFn) (t2 t3 t5 t27 t29 : AV) (H : AHeap) : R :=
 pPick t27 (.bool true) t29 H fun t30 H =>
 onBool t30 (pFa 2 t3 H fun t31 H =>
 ldK .none H t31 fun t32 H =>
 pN (aBsl 1 1 [(iN 0)] [(0, 1, t32)]) H fun t33 H =>
 some (t33, H)) (pGeq t5 (iN 3) H fun t36 H =>
 guardA t36 true (pLeq t5 (iN 16) H fun t39 H =>
 S231_6 call t2 t3 t5 t36 t39 H) (S231_6 call t2 t3 t5 t36 U H))
def S231_8 (call : CallFn) (t2 t3 t5 t23 t25 : AV) (H : AHeap) : R :=
 pPick t23 (.bool true) t25 H fun t26 H =>
 guardA t26 false (pEql t5 (iN 39) H fun t29 H =>
 S231_7 call t2 t3 t5 t26 t29 H) (S231_7 call t2 t3 t5 t26 U H)
def S231_9 (call : CallFn) (t2 t3 t5 t19 t21 : AV) (H : AHeap) : R :=
 pPick t19 (.bool true) t21 H fun t22 H =>
 guardA t22 false (pEql t5 (iN 27) H fun t25 H =>
 S231_8 call t2 t3 t5 t22 t25 H) (S231_8 call t2 t3 t5 t22 U H)
def S231_10 (call : CallFn) (t2 t3 t5 t15 t17 : AV) (H : AHeap) : R :=
 pPick t15 (.bool true) t17 H fun t18 H =>
 guardA t18 false (pEql t5 (iN 35) H fun t21 H =>
 S231_9 call t2 t3 t5 t18 t21 H) (S231_9 call t2 t3 t5 t18 U H)
def S231_11 (call : CallFn) (t2 t3 t5 t11 t13 : AV) (H : AHeap) : R :=
 pPick t11 (.bool true) t13 H fun t14 H =>
 guardA t14 false (pEql t5 (iN 33) H fun t17 H =>
 S231_10 call t2 t3 t5 t14 t17 H) (S231_10 call t2 t3 t5 t14 U H)
def S231_12 (call : CallFn) (t0 t1 : AV) (H : AHeap) : R :=
 pBox t0 H fun t2 H =>
 pBox t1 H fun t3 H =>
 pFa 0 t3 H fun t6 H =>
 ldK .none H t6 fun t7 H =>
 pEql t7 (iN 1) H fun t10 H =>
 guardA t10 false (pEql t7 (iN 17) H fun t13 H =>
 S231_11 call t2 t3 t7 t10 t13 H) (S231_11 call t2 t3 t7 t10 U H)
def S231 : Ff := ⟨fun call l H => argA2 (fun t0 t1 => S231_12 call t0 t1 H) l⟩
def S232_0 (call : CallFn) (t1 t3 t47 t49 : AV) (H : AHeap) : R :=
 pPick t47 (.bool true) t49 H fun t50 H =>
 onBool t50 (pFa 1 t1 H fun t51 H =>
 ldK .none H t51 fun t52 H =>
 pN (aBsl 1 1 [(iN 0)] [(0, 1, t52)]) H fun t53 H =>
 pC call n348 [t53] H fun t54 H =>
 some (t54, H)) (pEql t3 (iN 39) H fun t57 H =>
 onBool t57 (pFa 1 t1 H fun t58 H =>
 ldK .none H t58 fun t59 H =>
 pFa 3 t1 H fun t60 H =>
 ldK .none H t60 fun t61 H =>
 pN (aBsl 1 2 [(iN 0)] [(0, 1, t59), (1, 1, t61)]) H fun t62 H =>
 pC call n348 [t62] H fun t63 H =>
 some (t63, H)) (some (.nilsl, H)))
def S232_1 (call : CallFn) (t1 t3 t37 t39 : AV) (H : AHeap) : R :=
 pPick t37 (.bool true) t39 H fun t40 H =>
 onBool t40 (pFa 1 t1 H fun t41 H =>
 ldK .none H t41 fun t42 H =>
 pN (aBsl 1 1 [(iN 0)] [(0, 1, t42)]) H fun t43 H =>
 some (t43, H)) (pEql t3 (iN 20) H fun t46 H =>
 guardA t46 false (pEql t3 (iN 21) H fun t49 H =>
 S232_0 call t1 t3 t46 t49 H) (S232_0 call t1 t3 t46 U H))
def S232_2 (call : CallFn) (t1 t3 t33 t35 : AV) (H : AHeap) : R :=
 pPick t33 (.bool true) t35 H fun t36 H =>
 guardA t36 false (pEql t3 (iN 37) H fun t39 H =>
 S232_1 call t1 t3 t36 t39 H) (S232_1 call t1 t3 t36 U H)
def S232_3 (call : CallFn) (t1 t3 t29 t31 : AV) (H : AHeap) : R :=
 pPick t29 (.bool true) t31 H fun t32 H =>
 guardA t32 false (pEql t3 (iN 36) H fun t35 H =>
 S232_2 call t1 t3 t32 t35 H) (S232_2 call t1 t3 t32 U H)
def S232_4 (call : CallFn) (t1 t3 t25 t27 : AV) (H : AHeap) : R :=
 pPick t25 (.bool true) t27 H fun t28 H =>
 guardA t28 false (pEql t3 (iN 34) H fun t31 H =>
 S232_3 call t1 t3 t28 t31 H) (S232_3 call t1 t3 t28 U H)
def S232_5 (call : CallFn) (t1 t3 t21 t23 : AV) (H : AHeap) : R :=
 pPick t21 (.bool true) t23 H fun t24 H =>
 guardA t24 false (pEql t3 (iN 33) H fun t27 H =>
 S232_4 call t1 t3 t24 t27 H) (S232_4 call t1 t3 t24 U H)
def S232_6 (call : CallFn) (t1 t3 t13 t19 : AV) (H : AHeap) : R :=
 pPick t13 (.bool true) t19 H fun t20 H =>
 guardA t20 false (pEql t3 (iN 30) H fun t23 H =>
 S232_5 call t1 t3 t20 t23 H) (S232_5 call t1 t3 t20 U H)
def S232_7 (call : CallFn) (t1 t3 t13 t16 t18 : AV) (H : AHeap) : R :=
 guardA t13 false (pPick t16 t18 (.bool false) H fun t19 H =>
 S232_6 call t1 t3 t13 t19 H) (S232_6 call t1 t3 t13 U H)
def S232_8 (call : CallFn) (t1 t3 t13 t16 : AV) (H : AHeap) : R :=
 guardA t16 true (pLeq t3 (iN 27) H fun t18 H =>
 S232_7 call t1 t3 t13 t16 t18 H) (S232_7 call t1 t3 t13 t16 U H)
def S232_9 (call : CallFn) (t1 t3 t9 t11 : AV) (H : AHeap) : R :=
 pPick t9 t11 (.bool false) H fun t12 H =>
 guardA t12 false (pGeq t3 (iN 25) H fun t15 H =>
 S232_8 call t1 t3 t12 t15 H) (S232_8 call t1 t3 t12 U H)
def S232_10 (call : CallFn) (t0 : AV) (H : AHeap) : R :=
 pBox t0 H fun t1 H =>
 pFa 0 t1 H fun t4 H =>
 ldK .none H t4 fun t5 H =>
 pGeq t5 (iN 0) H fun t8 H =>
 guardA t8 true (pLeq t5 (iN 17) H fun t11 H =>
 S232_9 call t1 t5 t8 t11 H) (S232_9 call t1 t5 t8 U H)
def S232 : Ff := ⟨fun call l H => argA1 (fun t0 => S232_10 call t0 H) l⟩
def S233_0 (call : CallFn) (t0 t4 : AV) (H : AHeap) : R :=
 onBool t4 (some ((.bool true), H)) (pC call n234 [t0] H fun t14 H =>
 some (t14, H))
def S233_1 (call : CallFn) (t0 : AV) (H : AHeap) : R :=
 pEql t0 (iN 20) H fun t5 H =>
 onBool t5 (S233_0 call t0 t5 H) (pEql t0 (iN 21) H fun t6 H =>
 onBool t6 (S233_0 call t0 t6 H) (pEql t0 (iN 23) H fun t7 H =>
 onBool t7 (S233_0 call t0 t7 H) (pEql t0 (iN 24) H fun t8 H =>
 onBool t8 (S233_0 call t0 t8 H) (pEql t0 (iN 38) H fun t9 H =>
 onBool t9 (S233_0 call t0 t9 H) (pEql t0 (iN 39) H fun t10 H =>
 onBool t10 (S233_0 call t0 t10 H) (pEql t0 (iN 41) H fun t11 H =>
 onBool t11 (S233_0 call t0 t11 H) (pEql t0 (iN 43) H fun t12 H =>
 S233_0 call t0 t12 H)))))))
def S233 : Ff := ⟨fun call l H => argA1 (fun t0 => S233_1 call t0 H) l⟩
def S234_0 (_ : CallFn) (t13 t15 : AV) (H : AHeap) : R :=
 pPick t13 (.bool true) t15 H fun t16 H =>
 some (t16, H)
def S234_1 (call : CallFn) (t0 t9 t11 : AV) (H : AHeap) : R :=
 pPick t9 (.bool true) t11 H fun t12 H =>
 guardA t12 false (pEql t0 (iN 37) H fun t15 H =>
 S234_0 call t12 t15 H) (S234_0 call t12 U H)
def S234_2 (call : CallFn) (t0 t5 t7 : AV) (H : AHeap) : R :=
 pPick t5 (.bool true) t7 H fun t8 H =>
 guardA t8 false (pEql t0 (iN 36) H fun t11 H =>
 S234_1 call t0 t8 t11 H) (S234_1 call t0 t8 U H)
def S234_3 (call : CallFn) (t0 : AV) (H : AHeap) : R :=
 pEql t0 (iN 25) H fun t4 H =>
 guardA t4 false (pEql t0 (iN 26) H fun t7 H =>
 S234_2 call t0 t4 t7 H) (S234_2 call t0 t4 U H)
def S234 : Ff := ⟨fun call l H => argA1 (fun t0 => S234_3 call t0 H) l⟩
def S235_0 (_ : CallFn) (t0 t1 t5 t8 t12 : AV) (H : AHeap) : R :=
 pPick t8 t12 (.bool false) H fun t13 H =>
 onBool t13 (ldK (.some 3) H t5 fun t16 H =>
 pIa 3 t0 t1 H fun t17 H =>
 stK 3 H t17 t16 fun _ H =>
 some (.tup [], H)) (some (.tup [], H))
def S235_1 (call : CallFn) (t0 t1 t2 : AV) (H : AHeap) : R :=
 pBox t2 H fun t5 H =>
 pGeq t1 (iN 0) H fun t7 H =>
 guardA t7 true (pO (aLen .sl H t0) H fun t11 H =>
 pLss t1 t11 H fun t12 H =>
 S235_0 call t0 t1 t5 t7 t12 H) (S235_0 call t0 t1 t5 t7 U H)
def S235 : Ff := ⟨fun call l H => argA3 (fun t0 t1 t2 => S235_1 call t0 t1 t2 H) l⟩
def S237_0 (_ : CallFn) (t4 : AV) (H : AHeap) : R :=
 onBool t4 (some ((.bool true), H)) (some ((.bool false), H))
def S237_1 (call : CallFn) (t0 : AV) (H : AHeap) : R :=
 pEql t0 (iN 35) H fun t5 H =>
 onBool t5 (S237_0 call t5 H) (pEql t0 (iN 20) H fun t6 H =>
 onBool t6 (S237_0 call t6 H) (pEql t0 (iN 21) H fun t7 H =>
 onBool t7 (S237_0 call t7 H) (pEql t0 (iN 23) H fun t8 H =>
 onBool t8 (S237_0 call t8 H) (pEql t0 (iN 24) H fun t9 H =>
 onBool t9 (S237_0 call t9 H) (pEql t0 (iN 22) H fun t10 H =>
 S237_0 call t10 H)))))
def S237 : Ff := ⟨fun call l H => argA1 (fun t0 => S237_1 call t0 H) l⟩
def S238_1 (_ : CallFn) (q0 : AV → AV → AV → AV → AHeap → R) (t5 t49 t50 t51 : AV) (H : AHeap) : R :=
 pAdd t51 (iN 1) H fun t63 H =>
 q0 t5 t49 t50 t63 H
def S238_0 (call : CallFn) (n : Nat) : AV → AV → AV → AV → AHeap → R :=
 Nat.rec (motive := fun _ => AV → AV → AV → AV → AHeap → R) (fun _ _ _ _ _ => none) (fun _ q0 t5 t49 t50 t51 H => pLss t51 t50 H fun t52 H =>
 onBool t52 (pIa 4 t49 t51 H fun t53 H =>
 ldK (.some 4) H t53 fun t54 H =>
 pNew [(iN 0), (iN 0), (iN 0), (iN 0)] H fun t7 H =>
 stK 4 H t7 t54 fun _ H =>
 pFa 0 t7 H fun t55 H =>
 ldK .none H t55 fun t56 H =>
 pEql t56 (iN 0) H fun t57 H =>
 onBool t57 (pFa 2 t7 H fun t59 H =>
 ldK .none H t59 fun t60 H =>
 pN (aBsl 1 1 [(iN 0)] [(0, 1, t60)]) H fun t61 H =>
 pW (aApp 1 8 H t5 t61) fun t62 H =>
 S238_1 call q0 t62 t49 t50 t51 H) (S238_1 call q0 t5 t49 t50 t51 H)) (some (t5, H))) n
def S238_2 (call : CallFn) (t2 t3 t29 t38 : AV) (H : AHeap) : R :=
 pPick t29 (.bool true) t38 H fun t39 H =>
 onBool t39 (some (.nilsl, H)) (pFa 3 t2 H fun t40 H =>
 ldK .none H t40 fun t41 H =>
 pFa 1 t3 H fun t42 H =>
 ldK .none H t42 fun t43 H =>
 pFa 1 t3 H fun t44 H =>
 ldK .none H t44 fun t45 H =>
 pFa 2 t3 H fun t46 H =>
 ldK .none H t46 fun t47 H =>
 pAdd t45 t47 H fun t48 H =>
 pO (aSlice 4 H t41 (.some t43) (.some t48) .none) H fun t49 H =>
 pO (aLen .sl H t49) H fun t50 H =>
 S238_0 call 1000000 .nilsl t49 t50 (iN 0) H)
def S238_3 (call : CallFn) (t2 t3 t21 t27 : AV) (H : AHeap) : R :=
 pPick t21 (.bool true) t27 H fun t28 H =>
 guardA t28 false (pFa 2 t3 H fun t30 H =>
 ldK .none H t30 fun t31 H =>
 pFa 3 t2 H fun t32 H =>
 ldK .none H t32 fun t33 H =>
 pO (aLen .sl H t33) H fun t34 H =>
 pFa 1 t3 H fun t35 H =>
 ldK .none H t35 fun t36 H =>
 pSub t34 t36 H fun t37 H =>
 pGtr t31 t37 H fun t38 H =>
 S238_2 call t2 t3 t28 t38 H) (S238_2 call t2 t3 t28 U H)
def S238_4 (call : CallFn) (t2 t3 t16 t19 : AV) (H : AHeap) : R :=
 pPick t16 (.bool true) t19 H fun t20 H =>
 guardA t20 false (pFa 1 t3 H fun t22 H =>
 ldK .none H t22 fun t23 H =>
 pFa 3 t2 H fun t24 H =>
 ldK .none H t24 fun t25 H =>
 pO (aLen .sl H t25) H fun t26 H =>
 pGtr t23 t26 H fun t27 H =>
 S238_3 call t2 t3 t20 t27 H) (S238_3 call t2 t3 t20 U H)
def S238_5 (call : CallFn) (t2 t3 t11 t14 : AV) (H : AHeap) : R :=
 pPick t11 (.bool true) t14 H fun t15 H =>
 guardA t15 false (pFa 2 t3 H fun t17 H =>
 ldK .none H t17 fun t18 H =>
 pLss t18 (iN 0) H fun t19 H =>
 S238_4 call t2 t3 t15 t19 H) (S238_4 call t2 t3 t15 U H)
def S238_6 (call : CallFn) (t0 t1 : AV) (H : AHeap) : R :=
 pBox t0 H fun t2 H =>
 pBox t1 H fun t3 H =>
 pFa 0 t3 H fun t8 H =>
 ldK .none H t8 fun t9 H =>
 pNeq t9 (iN 41) H fun t10 H =>
 guardA t10 false (pFa 1 t3 H fun t12 H =>
 ldK .none H t12 fun t13 H =>
 pLss t13 (iN 0) H fun t14 H =>
 S238_5 call t2 t3 t10 t14 H) (S238_5 call t2 t3 t10 U H)
def S238 : Ff := ⟨fun call l H => argA2 (fun t0 t1 => S238_6 call t0 t1 H) l⟩
def S239_0 (_ : CallFn) (t6 t11 : AV) (H : AHeap) : R :=
 pPick t6 (.bool true) t11 H fun t12 H =>
 some (t12, H)
def S239_1 (call : CallFn) (t0 t1 : AV) (H : AHeap) : R :=
 pLss t0 (iN 0) H fun t5 H =>
 guardA t5 false (pFa 5 t1 H fun t8 H =>
 ldK .none H t8 fun t9 H =>
 pO (aLen .sl H t9) H fun t10 H =>
 pGeq t0 t10 H fun t11 H =>
 S239_0 call t5 t11 H) (S239_0 call t5 U H)
def S239 : Ff := ⟨fun call l H => argA2 (fun t0 t1 => S239_1 call t0 t1 H) l⟩
def S240_0 (call : CallFn) (t0 : AV) (H : AHeap) : R :=
 pO (aLen .sl H t0) H fun t4 H =>
 pConv .u64 t4 H fun t8 H =>
 pC call n351 [t8] H fun t9 H =>
 pC call n350 [t0, (iN 0), t4, t9] H fun _ H =>
 some (.tup [], H)
def S240 : Ff := ⟨fun call l H => argA1 (fun t0 => S240_0 call t0 H) l⟩
def S241_1 (_ : CallFn) (q0 : AV → AV → AHeap → R) (t0 t3 : AV) (H : AHeap) : R :=
 pAdd t3 (iN 1) H fun t15 H =>
 q0 t0 t15 H
def S241_2 (_ : CallFn) (t0 t3 : AV) (H : AHeap) : R :=
 pO (aSlice 1 H t0 (.some t3) .none .none) H fun t56 H =>
 pW (unitW (aClearS [(iN 0)] H t56)) fun _ H =>
 pO (aSlice 1 H t0 .none (.some t3) .none) H fun t59 H =>
 some (t59, H)
def S241_4 (_ : CallFn) (q1 : AV → AV → AV → AV → AHeap → R) (t0 t3 t4 t5 : AV) (H : AHeap) : R :=
 pAdd t5 (iN 1) H fun t34 H =>
 q1 t0 t3 t4 t34 H
def S241_3 (call : CallFn) (n : Nat) : AV → AV → AV → AV → AHeap → R :=
 Nat.rec (motive := fun _ => AV → AV → AV → AV → AHeap → R) (fun _ _ _ _ _ => none) (fun _ q1 t0 t3 t4 t5 H => pO (aLen .sl H t4) H fun t31 H =>
 pLss t5 t31 H fun t32 H =>
 onBool t32 (pIa 1 t4 t5 H fun t37 H =>
 ldK .none H t37 fun t38 H =>
 pSub t5 (iN 1) H fun t41 H =>
 pIa 1 t4 t41 H fun t42 H =>
 ldK .none H t42 fun t43 H =>
 pNeq t38 t43 H fun t44 H =>
 onBool t44 (pIa 1 t4 t5 H fun t49 H =>
 ldK .none H t49 fun t50 H =>
 pIa 1 t0 t3 H fun t51 H =>
 stK 1 H t51 t50 fun _ H =>
 pAdd t3 (iN 1) H fun t53 H =>
 S241_4 call q1 t0 t53 t4 t5 H) (S241_4 call q1 t0 t3 t4 t5 H)) (S241_2 call t0 t3 H)) n
def S241_0 (call : CallFn) (n : Nat) : AV → AV → AHeap → R :=
 Nat.rec (motive := fun _ => AV → AV → AHeap → R) (fun _ _ _ => none) (fun _ q0 t0 t3 H => pO (aLen .sl H t0) H fun t12 H =>
 pLss t3 t12 H fun t13 H =>
 onBool t13 (pIa 1 t0 t3 H fun t18 H =>
 ldK .none H t18 fun t19 H =>
 pSub t3 (iN 1) H fun t22 H =>
 pIa 1 t0 t22 H fun t23 H =>
 ldK .none H t23 fun t24 H =>
 pEql t19 t24 H fun t25 H =>
 onBool t25 (pO (aSlice 1 H t0 (.some t3) .none .none) H fun t28 H =>
 S241_3 call 1000000 t0 t3 t28 (iN 1) H) (S241_1 call q0 t0 t3 H)) (some (t0, H))) n
def S241_5 (call : CallFn) (t0 : AV) (H : AHeap) : R :=
 pO (aLen .sl H t0) H fun t7 H =>
 pLss t7 (iN 2) H fun t8 H =>
 onBool t8 (some (t0, H)) (S241_0 call 1000000 t0 (iN 1) H)
def S241 : Ff := ⟨fun call l H => argA1 (fun t0 => S241_5 call t0 H) l⟩
def S244_0 (call : CallFn) (n : Nat) : AV → AV → AV → AV → AHeap → R :=
 Nat.rec (motive := fun _ => AV → AV → AV → AV → AHeap → R) (fun _ _ _ _ _ => none) (fun _ q0 t0 t1 t7 t8 H => pLss t8 t7 H fun t9 H =>
 onBool t9 (pIa 1 t0 t8 H fun t14 H =>
 ldK .none H t14 fun t15 H =>
 pV call t1 [t15] H fun t16 H =>
 onBool t16 (some (t8, H)) (pAdd t8 (iN 1) H fun t18 H =>
 q0 t0 t1 t7 t18 H)) (some ((.int .i64 (.negSucc 0)), H))) n
def S244_1 (call : CallFn) (t0 t1 : AV) (H : AHeap) : R :=
 pO (aLen .sl H t0) H fun t7 H =>
 S244_0 call 1000000 t0 t1 t7 (iN 0) H
def S244 : Ff := ⟨fun call l H => argA2 (fun t0 t1 => S244_1 call t0 t1 H) l⟩
def S246_0 (_ : CallFn) (t0 : AV) (H : AHeap) : R :=
 pBox t0 H fun t1 H =>
 some ((.fn n353 [] [t1]), H)
def S246 : Ff := ⟨fun call l H => argA1 (fun t0 => S246_0 call t0 H) l⟩
def S248_0 (call : CallFn) (t0 t1 t2 t7 t9 t53 t58 : AV) (H : AHeap) : R :=
 pPick t53 t58 (.bool false) H fun t59 H =>
 onBool t59 (some (t9, H)) (pFa 2 t7 H fun t63 H =>
 ldK .none H t63 fun t64 H =>
 pC call n357 [t1, t64] H fun t65 H =>
 pEql t65 (iN 0) H fun t66 H =>
 onBool t66 (ldK (.some 4) H t7 fun t70 H =>
 pC call n358 [t0, t1, t2, t70] H fun t71 H =>
 some (t71, H)) (some (.nilsl, H)))
def S248_1 (call : CallFn) (t0 t1 t2 t7 t9 t37 t46 : AV) (H : AHeap) : R :=
 pPick t37 t46 (.bool false) H fun t47 H =>
 onBool t47 (some (t9, H)) (pFa 1 t7 H fun t50 H =>
 ldK .none H t50 fun t51 H =>
 pO (aUn .not t51) H fun t52 H =>
 guardA t52 true (pFa 2 t7 H fun t55 H =>
 ldK .none H t55 fun t56 H =>
 pC call n356 [t1, t56] H fun t57 H =>
 pGtr t57 (iN 0) H fun t58 H =>
 S248_0 call t0 t1 t2 t7 t9 t52 t58 H) (S248_0 call t0 t1 t2 t7 t9 t52 U H))
def S248_2 (call : CallFn) (t0 t1 t2 t7 t9 t37 t41 t45 : AV) (H : AHeap) : R :=
 guardA t37 true (pLss t41 t45 H fun t46 H =>
 S248_1 call t0 t1 t2 t7 t9 t37 t46 H) (S248_1 call t0 t1 t2 t7 t9 t37 U H)
def S248_3 (call : CallFn) (t0 t1 t2 t7 t9 t37 t41 t42 t43 t44 : AV) (H : AHeap) : R :=
 andR (andB (gdB t37 true (ckV (aLoad .none H t43) t44)) true) (
 guardA t37 true (pC call n357 [t42, t44] H fun t45 H =>
 S248_2 call t0 t1 t2 t7 t9 t37 t41 t45 H) (S248_2 call t0 t1 t2 t7 t9 t37 t41 U H))
def S248_4 (call : CallFn) (t0 t1 t2 t7 t9 t37 t38 t40 t42 t43 t44 : AV) (H : AHeap) : R :=
 guardA t37 true (pC call n356 [t38, t40] H fun t41 H =>
 S248_3 call t0 t1 t2 t7 t9 t37 t41 t42 t43 t44 H) (S248_3 call t0 t1 t2 t7 t9 t37 U t42 t43 t44 H)
def S248_5 (call : CallFn) (t0 t1 t2 t7 t9 t37 t38 t40 t42 t43 : AV) (H : AHeap) : R :=
 guardA t37 true (ldK .none H t43 fun t44 H =>
 S248_4 call t0 t1 t2 t7 t9 t37 t38 t40 t42 t43 t44 H) (S248_4 call t0 t1 t2 t7 t9 t37 t38 t40 t42 t43 U H)
def S248_6 (call : CallFn) (t0 t1 t2 t7 t9 t37 t38 t40 t42 : AV) (H : AHeap) : R :=
 guardA t37 true (pFa 2 t7 H fun t43 H =>
 S248_5 call t0 t1 t2 t7 t9 t37 t38 t40 t42 t43 H) (S248_5 call t0 t1 t2 t7 t9 t37 t38 t40 t42 U H)
def S248_7 (call : CallFn) (t0 t1 t2 t7 t9 t37 t38 t40 : AV) (H : AHeap) : R :=
 guardA t37 true (S248_6 call t0 t1 t2 t7 t9 t37 t38 t40 t1 H) (S248_6 call t0 t1 t2 t7 t9 t37 t38 t40 U H)
def S248_8 (call : CallFn) (t0 t1 t2 t7 t9 t37 t38 t39 : AV) (H : AHeap) : R :=
 guardA t37 true (ldK .none H t39 fun t40 H =>
 S248_7 call t0 t1 t2 t7 t9 t37 t38 t40 H) (S248_7 call t0 t1 t2 t7 t9 t37 t38 U H)
def S248_9 (call : CallFn) (t0 t1 t2 t7 t9 t37 t38 : AV) (H : AHeap) : R :=
 guardA t37 true (pFa 2 t7 H fun t39 H =>
 S248_8 call t0 t1 t2 t7 t9 t37 t38 t39 H) (S248_8 call t0 t1 t2 t7 t9 t37 t38 U H)
def S248_10 (call : CallFn) (t0 t1 t2 t7 t9 t27 t31 : AV) (H : AHeap) : R :=
 pPick t27 (.bool true) t31 H fun t32 H =>
 onBool t32 (some (t9, H)) (pFa 1 t7 H fun t35 H =>
 ldK .none H t35 fun t36 H =>
 guardA t36 true (S248_9 call t0 t1 t2 t7 t9 t36 t1 H) (S248_9 call t0 t1 t2 t7 t9 t36 U H))
def S248_11 (call : CallFn) (t0 t1 t2 t7 t9 t18 t21 : AV) (H : AHeap) : R :=
 pPick t18 t21 (.bool false) H fun t22 H =>
 onBool t22 (some (.nilsl, H)) (pFa 3 t7 H fun t24 H =>
 ldK .none H t24 fun t25 H =>
 pO (aUn .not t25) H fun t26 H =>
 guardA t26 false (pFa 2 t7 H fun t29 H =>
 ldK .none H t29 fun t30 H =>
 pC call n355 [t1, t30] H fun t31 H =>
 S248_10 call t0 t1 t2 t7 t9 t26 t31 H) (S248_10 call t0 t1 t2 t7 t9 t26 U H))
def S248_12 (call : CallFn) (t0 t1 t2 t3 : AV) (H : AHeap) : R :=
 pBox t3 H fun t7 H =>
 pFa 0 t7 H fun t10 H =>
 ldK .none H t10 fun t11 H =>
 pO (someAgg (aFill [(iN 0), (iN 0), (iN 0)] [(0, 1, t11), (1, 1, (iN 0)), (2, 1, (.int .i64 (.negSucc 0)))])) H fun t12 H =>
 pN (aBsl 3 1 [(iN 0), (iN 0), (iN 0)] [(0, 3, t12)]) H fun t13 H =>
 pFa 3 t7 H fun t15 H =>
 ldK .none H t15 fun t16 H =>
 pO (aUn .not t16) H fun t17 H =>
 guardA t17 true (pFa 0 t7 H fun t19 H =>
 ldK .none H t19 fun t20 H =>
 pNeq t20 (.int .i64 (.negSucc 0)) H fun t21 H =>
 S248_11 call t0 t1 t2 t7 t13 t17 t21 H) (S248_11 call t0 t1 t2 t7 t13 t17 U H)
def S248 : Ff := ⟨fun call l H => argA4 (fun t0 t1 t2 t3 => S248_12 call t0 t1 t2 t3 H) l⟩
def S249_0 (_ : CallFn) (t0 : AV) (H : AHeap) : R :=
 pO (aEq false .sl t0 .nilsl) H fun t4 H =>
 onBool t4 (some (.nilsl, H)) (pN (aBsl 1 0 [(iN 0)] []) H fun t5 H =>
 pW (aApp 1 8 H t5 t0) fun t7 H =>
 some (t7, H))
def S249 : Ff := ⟨fun call l H => argA1 (fun t0 => S249_0 call t0 H) l⟩
end
noncomputable section
set_option maxRecDepth 100000
def S250_0 (_ : CallFn) (t0 t1 : AV) (H : AHeap) : R :=
 pO (aNil t0) H fun t6 H =>
 pFa 5 t6 H fun t7 H =>
 ldK .none H t7 fun t8 H =>
 pO (aLook .int (.bool false) false H t8 t1) H fun t10 H =>
 some (t10, H)
def S250 : Ff := ⟨fun call l H => argA2 (fun t0 t1 => S250_0 call t0 t1 H) l⟩
def S253_0 (_ : CallFn) (t0 : AV) (H : AHeap) : R :=
 pO (aNil t0) H fun t6 H =>
 pFa 0 t6 H fun t7 H =>
 ldK .none H t7 fun t8 H =>
 pO (aLen .sl H t8) H fun t9 H =>
 pEql t9 (iN 0) H fun t10 H =>
 onBool t10 (some (.tup [(iN 0), (.bool false)], H)) (pO (aNil t0) H fun t12 H =>
 pFa 0 t12 H fun t13 H =>
 ldK .none H t13 fun t14 H =>
 pIa 1 t14 (iN 0) H fun t15 H =>
 ldK .none H t15 fun t16 H =>
 pO (aNil t0) H fun t19 H =>
 pFa 0 t19 H fun t20 H =>
 ldK .none H t20 fun t21 H =>
 pO (aSlice 1 H t21 (.some (iN 1)) .none .none) H fun t22 H =>
 pO (aNil t0) H fun t23 H =>
 pFa 0 t23 H fun t24 H =>
 stK 1 H t24 t22 fun _ H =>
 some (.tup [t16, (.bool true)], H))
def S253 : Ff := ⟨fun call l H => argA1 (fun t0 => S253_0 call t0 H) l⟩
def S255_0 (call : CallFn) (t0 t1 : AV) (H : AHeap) : R :=
 pO (aNil t0) H fun t6 H =>
 pFa 0 t6 H fun t7 H =>
 ldK .none H t7 fun t8 H =>
 pC call n364 [t8, t1] H fun t10 H =>
 pO (aUn .not t10) H fun t11 H =>
 onBool t11 (some ((.bool false), H)) (pO (aNil t0) H fun t13 H =>
 pFa 2 t13 H fun t14 H =>
 ldK .none H t14 fun t15 H =>
 pC call n365 [t15, t1] H fun _ H =>
 some ((.bool true), H))
def S255 : Ff := ⟨fun call l H => argA2 (fun t0 t1 => S255_0 call t0 t1 H) l⟩
def S256_0 (call : CallFn) (t0 t1 : AV) (H : AHeap) : R :=
 pC call n366 [t0, t1] H fun t7 H =>
 pO (aUn .not t7) H fun t8 H =>
 onBool t8 (some ((.int .i64 (.negSucc 0)), H)) (pO (aNil t0) H fun t10 H =>
 pFa 1 t10 H fun t11 H =>
 ldK .none H t11 fun t12 H =>
 pIa 3 t12 t1 H fun t14 H =>
 pFa 0 t14 H fun t15 H =>
 ldK .none H t15 fun t16 H =>
 some (t16, H))
def S256 : Ff := ⟨fun call l H => argA2 (fun t0 t1 => S256_0 call t0 t1 H) l⟩
def S257_0 (call : CallFn) (t0 t1 : AV) (H : AHeap) : R :=
 pO (aNil t0) H fun t5 H =>
 pFa 0 t5 H fun t6 H =>
 ldK .none H t6 fun t7 H =>
 pC call n367 [t7, t1] H fun _ H =>
 pO (aNil t0) H fun t11 H =>
 pFa 1 t11 H fun t12 H =>
 ldK .none H t12 fun t13 H =>
 pIa 1 t13 t1 H fun t15 H =>
 stK 1 H t15 (.bool false) fun _ H =>
 some (.tup [], H)
def S257 : Ff := ⟨fun call l H => argA2 (fun t0 t1 => S257_0 call t0 t1 H) l⟩
def S258_0 (call : CallFn) (t0 : AV) (H : AHeap) : R :=
 pC call n368 [t0] H fun t4 H =>
 some (t4, H)
def S258 : Ff := ⟨fun call l H => argA1 (fun t0 => S258_0 call t0 H) l⟩
def S259_0 (call : CallFn) (t0 t1 : AV) (H : AHeap) : R :=
 pC call n256 [t0, t1] H fun t7 H =>
 pEql t7 (.int .i64 (.negSucc 0)) H fun t8 H =>
 onBool t8 (some ((.int .u64 (.ofNat 0)), H)) (pO (aNil t0) H fun t10 H =>
 pFa 1 t10 H fun t11 H =>
 ldK .none H t11 fun t12 H =>
 pIa 3 t12 t1 H fun t14 H =>
 pFa 1 t14 H fun t15 H =>
 ldK .none H t15 fun t16 H =>
 some (t16, H))
def S259 : Ff := ⟨fun call l H => argA2 (fun t0 t1 => S259_0 call t0 t1 H) l⟩
def S260_0 (_ : CallFn) (t0 t5 t7 : AV) (H : AHeap) : R :=
 pPick t5 (.bool true) t7 H fun t8 H =>
 onBool t8 (some ((iN 0), H)) (pConv .u64 t0 H fun t10 H =>
 pO (aBin .shl (iN 2) t10) H fun t11 H =>
 some (t11, H))
def S260_1 (call : CallFn) (t0 : AV) (H : AHeap) : R :=
 pLss t0 (iN 0) H fun t4 H =>
 guardA t4 false (pGeq t0 (iN 6) H fun t7 H =>
 S260_0 call t0 t4 t7 H) (S260_0 call t0 t4 U H)
def S260 : Ff := ⟨fun call l H => argA1 (fun t0 => S260_1 call t0 H) l⟩
def S261_0 (call : CallFn) (t0 t1 : AV) (H : AHeap) : R :=
 pO (aNil t0) H fun t5 H =>
 pFa 2 t5 H fun t6 H =>
 ldK .none H t6 fun t7 H =>
 pO (aNil t0) H fun t9 H =>
 pFa 3 t9 H fun t10 H =>
 pFa 1 t10 H fun t11 H =>
 ldK .none H t11 fun t12 H =>
 pC call n369 [t7, t12, t1] H fun _ H =>
 pC call n180 [t0] H fun _ H =>
 some (.tup [], H)
def S261 : Ff := ⟨fun call l H => argA2 (fun t0 t1 => S261_0 call t0 t1 H) l⟩
def S262_0 (_ : CallFn) (t0 : AV) (H : AHeap) : R :=
 onBool t0 (some ((iN 1), H)) (some ((iN 0), H))
def S262 : Ff := ⟨fun call l H => argA1 (fun t0 => S262_0 call t0 H) l⟩
def S263_0 (call : CallFn) (t0 t1 : AV) (H : AHeap) : R :=
 pC call n173 [t0] H fun t6 H =>
 pO (aEq true .ptr t6 .nilp) H fun t8 H =>
 onBool t8 (pO (aNil t6) H fun t11 H =>
 pFa 1 t11 H fun t12 H =>
 stK 1 H t12 t1 fun _ H =>
 some (.tup [], H)) (some (.tup [], H))
def S263 : Ff := ⟨fun call l H => argA2 (fun t0 t1 => S263_0 call t0 t1 H) l⟩
def S292_0 (_ : CallFn) (t7 t14 : AV) (H : AHeap) : R :=
 pPick t7 t14 (.bool false) H fun t15 H =>
 some (t15, H)
def S292_1 (call : CallFn) (t0 t1 : AV) (H : AHeap) : R :=
 pGeq t1 (iN 0) H fun t6 H =>
 guardA t6 true (pO (aNil t0) H fun t10 H =>
 pFa 6 t10 H fun t11 H =>
 pFa 2 t11 H fun t12 H =>
 ldK .none H t12 fun t13 H =>
 pLss t1 t13 H fun t14 H =>
 S292_0 call t6 t14 H) (S292_0 call t6 U H)
def S292 : Ff := ⟨fun call l H => argA2 (fun t0 t1 => S292_1 call t0 t1 H) l⟩
def S295_0 (_ : CallFn) (t0 t1 t4 t8 t16 : AV) (H : AHeap) : R :=
 pPick t8 (.bool true) t16 H fun t17 H =>
 onBool t17 (pO (someAgg (aFill [(iN 0), (iN 0), (iN 0), (iN 0), .nilsl, .nilsl, .nilsl] [])) H fun t18 H =>
 stK 7 H t4 t18 fun _ H =>
 ob (allM (fun o => o) [aLoad (.some 7) H t4, some (.bool false)]) fun vs => some (resV vs, H)) (pO (aNil t0) H fun t20 H =>
 pFa 0 t20 H fun t21 H =>
 pFa 4 t21 H fun t22 H =>
 ldK .none H t22 fun t23 H =>
 pIa 7 t23 t1 H fun t25 H =>
 ldK (.some 7) H t25 fun t26 H =>
 stK 7 H t4 t26 fun _ H =>
 ob (allM (fun o => o) [aLoad (.some 7) H t4, some (.bool true)]) fun vs => some (resV vs, H))
def S295_1 (call : CallFn) (t0 t1 : AV) (H : AHeap) : R :=
 pNew [(iN 0), (iN 0), (iN 0), (iN 0), .nilsl, .nilsl, .nilsl] H fun t4 H =>
 pLss t1 (iN 0) H fun t7 H =>
 guardA t7 false (pO (aNil t0) H fun t11 H =>
 pFa 0 t11 H fun t12 H =>
 pFa 4 t12 H fun t13 H =>
 ldK .none H t13 fun t14 H =>
 pO (aLen .sl H t14) H fun t15 H =>
 pGeq t1 t15 H fun t16 H =>
 S295_0 call t0 t1 t4 t7 t16 H) (S295_0 call t0 t1 t4 t7 U H)
def S295 : Ff := ⟨fun call l H => argA2 (fun t0 t1 => S295_1 call t0 t1 H) l⟩
def S299_0 (call : CallFn) (t0 t1 : AV) (H : AHeap) : R :=
 pC call n244 [t0, t1] H fun t7 H =>
 pGeq t7 (iN 0) H fun t8 H =>
 some (t8, H)
def S299 : Ff := ⟨fun call l H => argA2 (fun t0 t1 => S299_0 call t0 t1 H) l⟩
def S300_0 (call : CallFn) (t0 t1 : AV) (H : AHeap) : R :=
 ldK .none H t1 fun t4 H =>
 pC call n292 [t4, t0] H fun t6 H =>
 pO (aUn .not t6) H fun t7 H =>
 some (t7, H)
def S300 : Ff := ⟨fun call l H => argA2 (fun t0 t1 => S300_0 call t0 t1 H) l⟩
def S303_0 (call : CallFn) (t0 t1 t2 : AV) (H : AHeap) : R :=
 pBox t0 H fun t3 H =>
 pBox t1 H fun t4 H =>
 pC call n299 [t2, (.fn n401 [] [t3, t4])] H fun t9 H =>
 pO (aUn .not t9) H fun t10 H =>
 some (t10, H)
def S303 : Ff := ⟨fun call l H => argA3 (fun t0 t1 t2 => S303_0 call t0 t1 t2 H) l⟩
def S306_0 (_ : CallFn) (n : Nat) : AV → AV → AV → AV → AHeap → R :=
 Nat.rec (motive := fun _ => AV → AV → AV → AV → AHeap → R) (fun _ _ _ _ _ => none) (fun _ q0 t3 t36 t37 t38 H => pLss t38 t37 H fun t39 H =>
 onBool t39 (pIa 4 t36 t38 H fun t40 H =>
 ldK (.some 4) H t40 fun t41 H =>
 pNew [(iN 0), (iN 0), (iN 0), (iN 0)] H fun t7 H =>
 stK 4 H t7 t41 fun _ H =>
 pFa 3 t7 H fun t43 H =>
 ldK .none H t43 fun t44 H =>
 pN (aBsl 1 1 [(iN 0)] [(0, 1, t44)]) H fun t45 H =>
 pW (aApp 1 8 H t3 t45) fun t46 H =>
 pAdd t38 (iN 1) H fun t47 H =>
 q0 t46 t36 t37 t47 H) (some (t3, H))) n
def S306_1 (call : CallFn) (t0 : AV) (H : AHeap) : R :=
 pO (aNil t0) H fun t9 H =>
 pFa 17 t9 H fun t10 H =>
 pFa 0 t10 H fun t11 H =>
 ldK .none H t11 fun t12 H =>
 pEql t12 (iN 18) H fun t14 H =>
 onBool t14 (pO (aNil t0) H fun t16 H =>
 pFa 17 t16 H fun t17 H =>
 pFa 1 t17 H fun t18 H =>
 ldK .none H t18 fun t19 H =>
 pN (aBsl 1 1 [(iN 0)] [(0, 1, t19)]) H fun t20 H =>
 some (t20, H)) (pEql t12 (iN 19) H fun t22 H =>
 onBool t22 (pO (aNil t0) H fun t24 H =>
 pFa 17 t24 H fun t25 H =>
 pFa 2 t25 H fun t26 H =>
 ldK .none H t26 fun t27 H =>
 pN (aBsl 1 1 [(iN 0)] [(0, 1, t27)]) H fun t28 H =>
 some (t28, H)) (pEql t12 (iN 41) H fun t30 H =>
 onBool t30 (pC call n296 [t0] H fun t33 H =>
 pExt t33 0 H fun t34 H =>
 pExt t33 1 H fun _ H =>
 pO (aLen .sl H t34) H fun t37 H =>
 S306_0 call 1000000 .nilsl t34 t37 (iN 0) H) (some (.nilsl, H))))
def S306 : Ff := ⟨fun call l H => argA1 (fun t0 => S306_1 call t0 H) l⟩
def S313_0 (_ : CallFn) (n : Nat) : AV → AV → AV → AV → AHeap → R :=
 Nat.rec (motive := fun _ => AV → AV → AV → AV → AHeap → R) (fun _ _ _ _ _ => none) (fun _ q0 t0 t1 t7 t8 H => pLss t8 t7 H fun t9 H =>
 onBool t9 (pIa 1 t0 t8 H fun t14 H =>
 ldK .none H t14 fun t15 H =>
 pEql t1 t15 H fun t16 H =>
 onBool t16 (some (t8, H)) (pAdd t8 (iN 1) H fun t18 H =>
 q0 t0 t1 t7 t18 H)) (some ((.int .i64 (.negSucc 0)), H))) n
def S313_1 (call : CallFn) (t0 t1 : AV) (H : AHeap) : R :=
 pO (aLen .sl H t0) H fun t7 H =>
 S313_0 call 1000000 t0 t1 t7 (iN 0) H
def S313 : Ff := ⟨fun call l H => argA2 (fun t0 t1 => S313_1 call t0 t1 H) l⟩
def S314_0 (call : CallFn) (t0 : AV) (H : AHeap) : R :=
 pO (aNil t0) H fun t3 H =>
 pFa 2 t3 H fun t4 H =>
 ldK .none H t4 fun t5 H =>
 pAdd t5 (iN 1) H fun t6 H =>
 pO (aNil t0) H fun t7 H =>
 pFa 2 t7 H fun t8 H =>
 stK 1 H t8 t6 fun _ H =>
 pO (aNil t0) H fun t10 H =>
 pFa 2 t10 H fun t11 H =>
 ldK .none H t11 fun t12 H =>
 pGtr t12 (iN 60) H fun t13 H =>
 onBool t13 (pC call n137 [t0, (iN 2)] H fun _ H =>
 some (.tup [], H)) (some (.tup [], H))
def S314 : Ff := ⟨fun call l H => argA1 (fun t0 => S314_0 call t0 H) l⟩
def S317_0 (call : CallFn) (t0 t1 : AV) (H : AHeap) : R :=
 pC call n195 [t0, t1] H fun t8 H =>
 pO (aUn .not t8) H fun t9 H =>
 onBool t9 (some (.tup [t0, (.bool false)], H)) (pO (aLen .str H t1) H fun t13 H =>
 pO (aSliceS t0 (.some t13) .none) H fun t14 H =>
 some (.tup [t14, (.bool true)], H))
def S317 : Ff := ⟨fun call l H => argA2 (fun t0 t1 => S317_0 call t0 t1 H) l⟩
def S318_0 (_ : CallFn) (t0 : AV) (H : AHeap) : R :=
 pNew [(.str []), (.str []), (iN 0), .nilsl] H fun t2 H =>
 pO (someAgg (aFill [(.str []), (.str []), (iN 0), .nilsl] [(0, 1, t0)])) H fun t4 H =>
 stK 4 H t2 t4 fun _ H =>
 ob (allM (fun o => o) [aLoad (.some 4) H t2]) fun vs => some (resV vs, H)
def S318 : Ff := ⟨fun call l H => argA1 (fun t0 => S318_0 call t0 H) l⟩
def S319_0 (call : CallFn) (t0 t1 : AV) (H : AHeap) : R :=
 pBox t1 H fun t3 H =>
 pNew [(.str []), (.str []), (iN 0), .nilsl] H fun t4 H =>
 pFa 1 t3 H fun t13 H =>
 ldK .none H t13 fun t14 H =>
 pC call n327 [t0, t14] H fun t15 H =>
 pExt t15 0 H fun t16 H =>
 pExt t15 1 H fun t17 H =>
 pNew [(.str []), (.str []), (.str []), (iN 0), .nilsl, (iN 0)] H fun t5 H =>
 stK 6 H t5 t16 fun _ H =>
 onBool t17 (pFa 1 t5 H fun t19 H =>
 ldK (.some 4) H t19 fun t20 H =>
 stK 4 H t4 t20 fun _ H =>
 ob (allM (fun o => o) [aLoad (.some 4) H t4]) fun vs => some (resV vs, H)) (pFa 1 t3 H fun t23 H =>
 ldK .none H t23 fun t24 H =>
 pC call n32 [t0, (.str [103, 108, 111, 98, 97, 108]), t24] H fun t25 H =>
 pExt t25 0 H fun t26 H =>
 pExt t25 1 H fun t27 H =>
 pNew [(.str []), (.str []), (iN 0), .nilsl] H fun t7 H =>
 stK 4 H t7 t26 fun _ H =>
 onBool t27 (ldK (.some 4) H t7 fun t29 H =>
 pC call n321 [t29] H fun t30 H =>
 stK 4 H t4 t30 fun _ H =>
 ob (allM (fun o => o) [aLoad (.some 4) H t4]) fun vs => some (resV vs, H)) (pFa 1 t3 H fun t33 H =>
 ldK .none H t33 fun t34 H =>
 pC call n32 [t0, (.str [102, 117, 110, 99]), t34] H fun t35 H =>
 pExt t35 0 H fun t36 H =>
 pExt t35 1 H fun t37 H =>
 pNew [(.str []), (.str []), (iN 0), .nilsl] H fun t9 H =>
 stK 4 H t9 t36 fun _ H =>
 pO (aUn .not t37) H fun t39 H =>
 onBool t39 (pFa 2 t3 H fun t41 H =>
 ldK .none H t41 fun t42 H =>
 pC call n77 [t0, t42] H fun _ H =>
 pO (someAgg (aFill [(.str []), (.str []), (iN 0), .nilsl] [])) H fun t44 H =>
 stK 4 H t4 t44 fun _ H =>
 ob (allM (fun o => o) [aLoad (.some 4) H t4]) fun vs => some (resV vs, H)) (ldK (.some 4) H t9 fun t45 H =>
 pC call n410 [t45] H fun t46 H =>
 stK 4 H t4 t46 fun _ H =>
 ob (allM (fun o => o) [aLoad (.some 4) H t4]) fun vs => some (resV vs, H))))
def S319 : Ff := ⟨fun call l H => argA2 (fun t0 t1 => S319_0 call t0 t1 H) l⟩
def S324_0 (call : CallFn) (n : Nat) : AV → AV → AV → AV → AV → AHeap → R :=
 Nat.rec (motive := fun _ => AV → AV → AV → AV → AV → AHeap → R) (fun _ _ _ _ _ _ => none) (fun _ q0 t1 t2 t15 t16 t17 H => pLss t17 t16 H fun t18 H =>
 onBool t18 (pIa 4 t15 t17 H fun t20 H =>
 ldK (.some 4) H t20 fun t21 H =>
 pNew [(.str []), (.str []), (iN 0), .nilsl] H fun t8 H =>
 stK 4 H t8 t21 fun _ H =>
 pIa 4 t1 t17 H fun t24 H =>
 ldK (.some 4) H t24 fun t25 H =>
 pNew [(.str []), (.str []), (iN 0), .nilsl] H fun t9 H =>
 stK 4 H t9 t25 fun _ H =>
 ldK (.some 4) H t8 fun t27 H =>
 ldK (.some 4) H t9 fun t28 H =>
 pV call t2 [t27, t28] H fun t29 H =>
 pO (aUn .not t29) H fun t30 H =>
 onBool t30 (some ((.bool false), H)) (pAdd t17 (iN 1) H fun t31 H =>
 q0 t1 t2 t15 t16 t31 H)) (some ((.bool true), H))) n
def S324_1 (call : CallFn) (t0 t1 t2 : AV) (H : AHeap) : R :=
 pO (aLen .sl H t0) H fun t11 H =>
 pO (aLen .sl H t1) H fun t13 H =>
 pNeq t11 t13 H fun t14 H =>
 onBool t14 (some ((.bool false), H)) (pO (aLen .sl H t0) H fun t16 H =>
 S324_0 call 1000000 t1 t2 t0 t16 (iN 0) H)
def S324 : Ff := ⟨fun call l H => argA3 (fun t0 t1 t2 => S324_1 call t0 t1 t2 H) l⟩
def S327_0 (call : CallFn) (t0 t1 : AV) (H : AHeap) : R :=
 pBox t1 H fun _ H =>
 pNew [(.str []), (.str []), (.str []), (iN 0), .nilsl, (iN 0)] H fun _ H =>
 pNew [(.bool false)] H fun _ H =>
 pO (aNil t0) H fun t11 H =>
 pFa 6 t11 H fun t12 H =>
 ldK .none H t12 fun t13 H =>
 pC call n413 [t13] H fun _ _ =>
 none
def S327 : Ff := ⟨fun call l H => argA2 (fun t0 t1 => S327_0 call t0 t1 H) l⟩
def S338_0 (call : CallFn) (t0 t1 : AV) (H : AHeap) : R :=
 pBox t1 H fun _ H =>
 pNew [(.str []), (.str []), (.str []), (iN 0), .nilsl, (iN 0)] H fun _ H =>
 pNew [(.bool false)] H fun _ H =>
 pO (aNil t0) H fun t11 H =>
 pFa 1 t11 H fun t12 H =>
 ldK .none H t12 fun t13 H =>
 pC call n421 [t13] H fun _ _ =>
 none
def S338 : Ff := ⟨fun call l H => argA2 (fun t0 t1 => S338_0 call t0 t1 H) l⟩
def S339_0 (call : CallFn) (t0 t1 t2 : AV) (H : AHeap) : R :=
 pBox t2 H fun t5 H =>
 pC call n36 [t0, t1] H fun t9 H =>
 pC call n75 [t9, (.fn n423 [] [t5])] H fun t11 H =>
 some (t11, H)
def S339 : Ff := ⟨fun call l H => argA3 (fun t0 t1 t2 => S339_0 call t0 t1 t2 H) l⟩
def S343_0 (call : CallFn) (t0 t3 t4 t9 t93 : AV) (H : AHeap) : R :=
 onBool t93 (pFa 3 t3 H fun t98 H =>
 ldK .none H t98 fun t99 H =>
 pIa 4 t99 (iN 0) H fun t100 H =>
 ldK (.some 4) H t100 fun t101 H =>
 pC call n343 [t0, t101] H fun t102 H =>
 pO (aFld 3 .none t102) H fun t103 H =>
 pIa 4 t103 (iN 0) H fun t104 H =>
 ldK (.some 4) H t104 fun t105 H =>
 stK 4 H t4 t105 fun _ H =>
 ob (allM (fun o => o) [aLoad (.some 4) H t4]) fun vs => some (resV vs, H)) (pEql t9 (.str [100, 111, 116]) H fun t107 H =>
 onBool t107 (pO (aNil t0) H fun t109 H =>
 pFa 0 t109 H fun t110 H =>
 ldK .none H t110 fun t111 H =>
 pO (aNil t111) H fun t112 H =>
 pFa 0 t112 H fun t113 H =>
 ldK (.some 4) H t113 fun t114 H =>
 pFa 3 t3 H fun t116 H =>
 ldK .none H t116 fun t117 H =>
 pIa 4 t117 (iN 0) H fun t118 H =>
 ldK (.some 4) H t118 fun t119 H =>
 ldK (.some 4) H t3 fun t124 H =>
 pC call n343 [t0, t119] H fun t120 H =>
 andR (andB (ckV (aLoad .none H t110) t111) (andB (ckV (aLoad (.some 4) H t113) t114) (andB (ckV (aLoad (.some 4) H t3) t124) true))) (
 pO (aFld 1 .none t120) H fun t121 H =>
 pC call n411 [t114, t121] H fun t122 H =>
 andR (andB (ckV (aLoad (.some 4) H t3) t124) true) (
 pC call n334 [t0, t124] H fun t125 H =>
 pIa 4 t122 t125 H fun t126 H =>
 pFa 3 t126 H fun t127 H =>
 ldK .none H t127 fun t128 H =>
 pIa 4 t128 (iN 0) H fun t129 H =>
 ldK (.some 4) H t129 fun t130 H =>
 stK 4 H t4 t130 fun _ H =>
 ob (allM (fun o => o) [aLoad (.some 4) H t4]) fun vs => some (resV vs, H)))) (ldK (.some 4) H t3 fun t131 H =>
 pC call n410 [t131] H fun t132 H =>
 stK 4 H t4 t132 fun _ H =>
 ob (allM (fun o => o) [aLoad (.some 4) H t4]) fun vs => some (resV vs, H)))
def S343_1 (call : CallFn) (t0 t3 t4 t9 t18 : AV) (H : AHeap) : R :=
 onBool t18 (pFa 3 t3 H fun t21 H =>
 ldK .none H t21 fun t22 H =>
 pIa 4 t22 (iN 0) H fun t23 H =>
 ldK (.some 4) H t23 fun t24 H =>
 stK 4 H t4 t24 fun _ H =>
 ob (allM (fun o => o) [aLoad (.some 4) H t4]) fun vs => some (resV vs, H)) (pEql t9 (.str [110, 101, 119]) H fun t26 H =>
 onBool t26 (pFa 1 t3 H fun t27 H =>
 ldK .none H t27 fun t28 H =>
 pO (someAgg (aFill [(.str []), (.str []), (iN 0), .nilsl] [(0, 1, (.str [110, 97, 109, 101, 100])), (1, 1, t28)])) H fun t29 H =>
 stK 4 H t4 t29 fun _ H =>
 ob (allM (fun o => o) [aLoad (.some 4) H t4]) fun vs => some (resV vs, H)) (pEql t9 (.str [110, 97, 109, 101]) H fun t31 H =>
 onBool t31 (pFa 1 t3 H fun t34 H =>
 ldK .none H t34 fun t35 H =>
 pC call n338 [t0, t35] H fun t36 H =>
 pExt t36 0 H fun t37 H =>
 pExt t36 1 H fun t38 H =>
 pNew [(.str []), (.str []), (.str []), (iN 0), .nilsl, (iN 0)] H fun t5 H =>
 stK 6 H t5 t37 fun _ H =>
 onBool t38 (pFa 1 t5 H fun t40 H =>
 ldK (.some 4) H t40 fun t41 H =>
 stK 4 H t4 t41 fun _ H =>
 ob (allM (fun o => o) [aLoad (.some 4) H t4]) fun vs => some (resV vs, H)) (pO (aNil t0) H fun t43 H =>
 pFa 0 t43 H fun t44 H =>
 ldK .none H t44 fun t45 H =>
 pFa 1 t3 H fun t46 H =>
 ldK .none H t46 fun t47 H =>
 pC call n339 [t45, (.str [103, 108, 111, 98, 97, 108]), t47] H fun t48 H =>
 pGeq t48 (iN 0) H fun t50 H =>
 onBool t50 (pO (aNil t0) H fun t52 H =>
 pFa 0 t52 H fun t53 H =>
 ldK .none H t53 fun t54 H =>
 pC call n36 [t54, (.str [103, 108, 111, 98, 97, 108])] H fun t55 H =>
 pIa 4 t55 t48 H fun t57 H =>
 pFa 3 t57 H fun t58 H =>
 ldK .none H t58 fun t59 H =>
 pIa 4 t59 (iN 0) H fun t60 H =>
 ldK (.some 4) H t60 fun t61 H =>
 stK 4 H t4 t61 fun _ H =>
 ob (allM (fun o => o) [aLoad (.some 4) H t4]) fun vs => some (resV vs, H)) (pO (aNil t0) H fun t63 H =>
 pFa 0 t63 H fun t64 H =>
 ldK .none H t64 fun t65 H =>
 pO (aNil t0) H fun t68 H =>
 pFa 0 t68 H fun t69 H =>
 ldK .none H t69 fun t70 H =>
 pFa 1 t3 H fun t71 H =>
 ldK .none H t71 fun t72 H =>
 pC call n36 [t65, (.str [102, 117, 110, 99])] H fun t66 H =>
 andR (andB (ckV (aLoad .none H t69) t70) (andB (ckV (aLoad .none H t71) t72) true)) (
 pC call n339 [t70, (.str [102, 117, 110, 99]), t72] H fun t73 H =>
 pIa 4 t66 t73 H fun t74 H =>
 ldK (.some 4) H t74 fun t75 H =>
 pC call n410 [t75] H fun t76 H =>
 stK 4 H t4 t76 fun _ H =>
 ob (allM (fun o => o) [aLoad (.some 4) H t4]) fun vs => some (resV vs, H))))) (pEql t9 (.str [117, 110, 97, 114, 121]) H fun t78 H =>
 onBool t78 (pFa 3 t3 H fun t80 H =>
 ldK .none H t80 fun t81 H =>
 pIa 4 t81 (iN 0) H fun t82 H =>
 ldK (.some 4) H t82 fun t83 H =>
 pC call n343 [t0, t83] H fun t84 H =>
 stK 4 H t4 t84 fun _ H =>
 ob (allM (fun o => o) [aLoad (.some 4) H t4]) fun vs => some (resV vs, H)) (pEql t9 (.str [98, 105, 110, 97, 114, 121]) H fun t86 H =>
 onBool t86 (pN (aBsl 1 10 [(.str [])] [(0, 1, (.str [43])), (1, 1, (.str [45])), (2, 1, (.str [42])), (3, 1, (.str [47])), (4, 1, (.str [37])), (5, 1, (.str [38])), (6, 1, (.str [124])), (7, 1, (.str [94])), (8, 1, (.str [60, 60])), (9, 1, (.str [62, 62]))]) H fun t87 H =>
 pFa 1 t3 H fun t88 H =>
 ldK .none H t88 fun t89 H =>
 pC call n199 [t87, t89] H fun t90 H =>
 onBool t90 (pO (someAgg (aFill [(.str []), (.str []), (iN 0), .nilsl] [(0, 1, (.str [105, 110, 116]))])) H fun t91 H =>
 stK 4 H t4 t91 fun _ H =>
 ob (allM (fun o => o) [aLoad (.some 4) H t4]) fun vs => some (resV vs, H)) (pO (someAgg (aFill [(.str []), (.str []), (iN 0), .nilsl] [(0, 1, (.str [98, 111, 111, 108]))])) H fun t92 H =>
 stK 4 H t4 t92 fun _ H =>
 ob (allM (fun o => o) [aLoad (.some 4) H t4]) fun vs => some (resV vs, H))) (pEql t9 (.str [99, 97, 108, 108]) H fun t94 H =>
 onBool t94 (S343_0 call t0 t3 t4 t9 t94 H) (pEql t9 (.str [105, 110, 100, 101, 120]) H fun t95 H =>
 onBool t95 (S343_0 call t0 t3 t4 t9 t95 H) (pEql t9 (.str [114, 101, 99, 118]) H fun t96 H =>
 S343_0 call t0 t3 t4 t9 t96 H)))))))
def S343_2 (call : CallFn) (t0 t3 t4 t9 t14 : AV) (H : AHeap) : R :=
 onBool t14 (pO (someAgg (aFill [(.str []), (.str []), (iN 0), .nilsl] [(0, 1, (.str [98, 111, 111, 108]))])) H fun t17 H =>
 stK 4 H t4 t17 fun _ H =>
 ob (allM (fun o => o) [aLoad (.some 4) H t4]) fun vs => some (resV vs, H)) (pEql t9 (.str [110, 105, 108]) H fun t19 H =>
 onBool t19 (S343_1 call t0 t3 t4 t9 t19 H) (pEql t9 (.str [109, 97, 107, 101]) H fun t20 H =>
 S343_1 call t0 t3 t4 t9 t20 H))
def S343_3 (call : CallFn) (t0 t3 t4 t9 t10 : AV) (H : AHeap) : R :=
 onBool t10 (pO (someAgg (aFill [(.str []), (.str []), (iN 0), .nilsl] [(0, 1, (.str [105, 110, 116]))])) H fun t13 H =>
 stK 4 H t4 t13 fun _ H =>
 ob (allM (fun o => o) [aLoad (.some 4) H t4]) fun vs => some (resV vs, H)) (pEql t9 (.str [116, 114, 117, 101]) H fun t15 H =>
 onBool t15 (S343_2 call t0 t3 t4 t9 t15 H) (pEql t9 (.str [102, 97, 108, 115, 101]) H fun t16 H =>
 S343_2 call t0 t3 t4 t9 t16 H))
def S343_4 (call : CallFn) (t0 t1 : AV) (H : AHeap) : R :=
 pBox t1 H fun t3 H =>
 pNew [(.str []), (.str []), (iN 0), .nilsl] H fun t4 H =>
 pFa 0 t3 H fun t8 H =>
 ldK .none H t8 fun t9 H =>
 pEql t9 (.str [110, 117, 109, 98, 101, 114]) H fun t11 H =>
 onBool t11 (S343_3 call t0 t3 t4 t9 t11 H) (pEql t9 (.str [108, 101, 110]) H fun t12 H =>
 S343_3 call t0 t3 t4 t9 t12 H)
def S343 : Ff := ⟨fun call l H => argA2 (fun t0 t1 => S343_4 call t0 t1 H) l⟩
def S346_0 (_ : CallFn) (n : Nat) : AV → AV → AV → AV → AHeap → R :=
 Nat.rec (motive := fun _ => AV → AV → AV → AV → AHeap → R) (fun _ _ _ _ _ => none) (fun _ q0 t0 t5 t9 t10 H => pLss t10 t9 H fun t11 H =>
 onBool t11 (pAdd t0 t10 H fun t16 H =>
 pN (aBsl 1 1 [(iN 0)] [(0, 1, t16)]) H fun t17 H =>
 pW (aApp 1 8 H t5 t17) fun t18 H =>
 pAdd t10 (iN 1) H fun t19 H =>
 q0 t0 t18 t9 t19 H) (some (t5, H))) n
def S346_1 (call : CallFn) (t0 t1 : AV) (H : AHeap) : R :=
 pLeq t1 (iN 64) H fun t8 H =>
 onBool t8 (S346_0 call 1000000 t0 .nilsl t1 (iN 0) H) (some (.nilsl, H))
def S346 : Ff := ⟨fun call l H => argA2 (fun t0 t1 => S346_1 call t0 t1 H) l⟩
def S347_0 (_ : CallFn) (t1 t2 t4 t7 t12 : AV) (H : AHeap) : R :=
 pPick t7 (.bool true) t12 H fun t13 H =>
 onBool t13 (pO (someAgg (aFill [(iN 0), (iN 0), (iN 0), (iN 0), .nilsl, .nilsl, .nilsl] [])) H fun t14 H =>
 stK 7 H t4 t14 fun _ H =>
 ob (allM (fun o => o) [aLoad (.some 7) H t4]) fun vs => some (resV vs, H)) (pFa 4 t2 H fun t15 H =>
 ldK .none H t15 fun t16 H =>
 pIa 7 t16 t1 H fun t18 H =>
 ldK (.some 7) H t18 fun t19 H =>
 stK 7 H t4 t19 fun _ H =>
 ob (allM (fun o => o) [aLoad (.some 7) H t4]) fun vs => some (resV vs, H))
def S347_1 (call : CallFn) (t0 t1 : AV) (H : AHeap) : R :=
 pBox t0 H fun t2 H =>
 pNew [(iN 0), (iN 0), (iN 0), (iN 0), .nilsl, .nilsl, .nilsl] H fun t4 H =>
 pLss t1 (iN 0) H fun t6 H =>
 guardA t6 false (pFa 4 t2 H fun t9 H =>
 ldK .none H t9 fun t10 H =>
 pO (aLen .sl H t10) H fun t11 H =>
 pGeq t1 t11 H fun t12 H =>
 S347_0 call t1 t2 t4 t6 t12 H) (S347_0 call t1 t2 t4 t6 U H)
def S347 : Ff := ⟨fun call l H => argA2 (fun t0 t1 => S347_1 call t0 t1 H) l⟩
def S348_0 (call : CallFn) (t0 : AV) (H : AHeap) : R :=
 pC call n161 [t0, (.fn n425 [] [])] H fun t4 H =>
 some (t4, H)
def S348 : Ff := ⟨fun call l H => argA1 (fun t0 => S348_0 call t0 H) l⟩
def S350_1 (call : CallFn) (q0 : AV → AV → AV → AV → AV → AV → AHeap → R) (t0 t1 t2 t3 t8 t9 t10 t11 t75 t86 : AV) (H : AHeap) : R :=
 pPick t75 t86 (.bool false) H fun t87 H =>
 onBool t87 (pC call n433 [t0, t1, t2, t11] H fun t92 H =>
 q0 t0 t92 t2 t3 t8 t9 H) (pC call n434 [t0, t1, t2, t11] H fun t99 H =>
 pExt t99 0 H fun t100 H =>
 pExt t99 1 H fun t101 H =>
 pSub t100 t1 H fun t105 H =>
 pSub t2 t100 H fun t108 H =>
 pO (aBin .quo t10 (iN 8)) H fun t110 H =>
 pLss t105 t108 H fun t113 H =>
 onBool t113 (pGeq t105 t110 H fun t116 H =>
 pC call n350 [t0, t1, t100, t3] H fun _ H =>
 pAdd t100 (iN 1) H fun t123 H =>
 q0 t0 t123 t2 t3 t116 t101 H) (pGeq t108 t110 H fun t126 H =>
 pAdd t100 (iN 1) H fun t129 H =>
 pC call n350 [t0, t129, t2, t3] H fun _ H =>
 q0 t0 t1 t100 t3 t126 t101 H))
def S350_2 (call : CallFn) (q0 : AV → AV → AV → AV → AV → AV → AHeap → R) (t0 t1 t2 t3 t8 t9 t10 t11 t75 t85 : AV) (H : AHeap) : R :=
 guardA t75 true (pO (aUn .not t85) H fun t86 H =>
 S350_1 call q0 t0 t1 t2 t3 t8 t9 t10 t11 t75 t86 H) (S350_1 call q0 t0 t1 t2 t3 t8 t9 t10 t11 t75 U H)
def S350_3 (call : CallFn) (q0 : AV → AV → AV → AV → AV → AV → AHeap → R) (t0 t1 t2 t3 t8 t9 t10 t11 t75 t80 t84 : AV) (H : AHeap) : R :=
 guardA t75 true (pC call n432 [t80, t84] H fun t85 H =>
 S350_2 call q0 t0 t1 t2 t3 t8 t9 t10 t11 t75 t85 H) (S350_2 call q0 t0 t1 t2 t3 t8 t9 t10 t11 t75 U H)
def S350_4 (call : CallFn) (q0 : AV → AV → AV → AV → AV → AV → AHeap → R) (t0 t1 t2 t3 t8 t9 t10 t11 t75 t80 t83 : AV) (H : AHeap) : R :=
 guardA t75 true (ldK .none H t83 fun t84 H =>
 S350_3 call q0 t0 t1 t2 t3 t8 t9 t10 t11 t75 t80 t84 H) (S350_3 call q0 t0 t1 t2 t3 t8 t9 t10 t11 t75 t80 U H)
def S350_5 (call : CallFn) (q0 : AV → AV → AV → AV → AV → AV → AHeap → R) (t0 t1 t2 t3 t8 t9 t10 t11 t75 t80 t81 t82 : AV) (H : AHeap) : R :=
 guardA t75 true (pIa 1 t81 t82 H fun t83 H =>
 S350_4 call q0 t0 t1 t2 t3 t8 t9 t10 t11 t75 t80 t83 H) (S350_4 call q0 t0 t1 t2 t3 t8 t9 t10 t11 t75 t80 U H)
def S350_6 (call : CallFn) (q0 : AV → AV → AV → AV → AV → AV → AHeap → R) (t0 t1 t2 t3 t8 t9 t10 t11 t75 t80 t81 : AV) (H : AHeap) : R :=
 guardA t75 true (S350_5 call q0 t0 t1 t2 t3 t8 t9 t10 t11 t75 t80 t81 t11 H) (S350_5 call q0 t0 t1 t2 t3 t8 t9 t10 t11 t75 t80 t81 U H)
def S350_7 (call : CallFn) (q0 : AV → AV → AV → AV → AV → AV → AHeap → R) (t0 t1 t2 t3 t8 t9 t10 t11 t75 t80 : AV) (H : AHeap) : R :=
 guardA t75 true (S350_6 call q0 t0 t1 t2 t3 t8 t9 t10 t11 t75 t80 t0 H) (S350_6 call q0 t0 t1 t2 t3 t8 t9 t10 t11 t75 t80 U H)
def S350_8 (call : CallFn) (q0 : AV → AV → AV → AV → AV → AV → AHeap → R) (t0 t1 t2 t3 t8 t9 t10 t11 t75 t79 : AV) (H : AHeap) : R :=
 guardA t75 true (ldK .none H t79 fun t80 H =>
 S350_7 call q0 t0 t1 t2 t3 t8 t9 t10 t11 t75 t80 H) (S350_7 call q0 t0 t1 t2 t3 t8 t9 t10 t11 t75 U H)
def S350_9 (call : CallFn) (q0 : AV → AV → AV → AV → AV → AV → AHeap → R) (t0 t1 t2 t3 t8 t9 t10 t11 t75 t76 t78 : AV) (H : AHeap) : R :=
 guardA t75 true (pIa 1 t76 t78 H fun t79 H =>
 S350_8 call q0 t0 t1 t2 t3 t8 t9 t10 t11 t75 t79 H) (S350_8 call q0 t0 t1 t2 t3 t8 t9 t10 t11 t75 U H)
def S350_10 (call : CallFn) (q0 : AV → AV → AV → AV → AV → AV → AHeap → R) (t0 t1 t2 t3 t8 t9 t10 t11 t75 t76 t77 : AV) (H : AHeap) : R :=
 guardA t75 true (pSub t77 (iN 1) H fun t78 H =>
 S350_9 call q0 t0 t1 t2 t3 t8 t9 t10 t11 t75 t76 t78 H) (S350_9 call q0 t0 t1 t2 t3 t8 t9 t10 t11 t75 t76 U H)
def S350_11 (call : CallFn) (q0 : AV → AV → AV → AV → AV → AV → AHeap → R) (t0 t1 t2 t3 t8 t9 t10 t11 t75 t76 : AV) (H : AHeap) : R :=
 guardA t75 true (S350_10 call q0 t0 t1 t2 t3 t8 t9 t10 t11 t75 t76 t1 H) (S350_10 call q0 t0 t1 t2 t3 t8 t9 t10 t11 t75 t76 U H)
def S350_12 (call : CallFn) (q0 : AV → AV → AV → AV → AV → AV → AHeap → R) (t0 t1 t2 t3 t8 t9 t10 t11 : AV) (H : AHeap) : R :=
 pGtr t1 (iN 0) H fun t74 H =>
 guardA t74 true (S350_11 call q0 t0 t1 t2 t3 t8 t9 t10 t11 t74 t0 H) (S350_11 call q0 t0 t1 t2 t3 t8 t9 t10 t11 t74 U H)
def S350_13 (call : CallFn) (q0 : AV → AV → AV → AV → AV → AV → AHeap → R) (t0 t1 t2 t3 t8 t9 t10 t11 t65 t67 : AV) (H : AHeap) : R :=
 pPick t65 t67 (.bool false) H fun t68 H =>
 onBool t68 (pC call n431 [t0, t1, t2] H fun t72 H =>
 onBool t72 (some (.tup [], H)) (S350_12 call q0 t0 t1 t2 t3 t8 t9 t10 t11 H)) (S350_12 call q0 t0 t1 t2 t3 t8 t9 t10 t11 H)
def S350_14 (call : CallFn) (q0 : AV → AV → AV → AV → AV → AV → AHeap → R) (t0 t1 t2 t3 t8 t9 t10 t11 t12 t62 t63 : AV) (H : AHeap) : R :=
 pPick t62 t63 (.bool false) H fun t64 H =>
 guardA t64 true (pEql t12 (iN 1) H fun t67 H =>
 S350_13 call q0 t0 t1 t2 t3 t8 t9 t10 t11 t64 t67 H) (S350_13 call q0 t0 t1 t2 t3 t8 t9 t10 t11 t64 U H)
def S350_15 (call : CallFn) (q0 : AV → AV → AV → AV → AV → AV → AHeap → R) (t0 t1 t2 t3 t8 t9 t10 t11 t12 : AV) (H : AHeap) : R :=
 guardA t8 true (S350_14 call q0 t0 t1 t2 t3 t8 t9 t10 t11 t12 t8 t9 H) (S350_14 call q0 t0 t1 t2 t3 t8 t9 t10 t11 t12 t8 U H)
def S350_16 (call : CallFn) (q0 : AV → AV → AV → AV → AV → AV → AHeap → R) (t0 t1 t2 t3 t8 t9 t10 : AV) (H : AHeap) : R :=
 pC call n429 [t0, t1, t2] H fun t46 H =>
 pExt t46 0 H fun t47 H =>
 pExt t46 1 H fun t48 H =>
 pEql t48 (iN 2) H fun t50 H =>
 onBool t50 (pC call n430 [t0, t1, t2] H fun _ H =>
 pSub t2 (iN 1) H fun t56 H =>
 pSub t47 t1 H fun t59 H =>
 pSub t56 t59 H fun t60 H =>
 S350_15 call q0 t0 t1 t2 t3 t8 t9 t10 t60 (iN 1) H) (S350_15 call q0 t0 t1 t2 t3 t8 t9 t10 t47 t48 H)
def S350_0 (call : CallFn) (n : Nat) : AV → AV → AV → AV → AV → AV → AHeap → R :=
 Nat.rec (motive := fun _ => AV → AV → AV → AV → AV → AV → AHeap → R) (fun _ _ _ _ _ _ _ => none) (fun _ q0 t0 t1 t2 t3 t8 t9 H => pSub t2 t1 H fun t21 H =>
 pLeq t21 (iN 12) H fun t23 H =>
 onBool t23 (pC call n426 [t0, t1, t2] H fun _ H =>
 some (.tup [], H)) (pEql t3 (iN 0) H fun t29 H =>
 onBool t29 (pC call n427 [t0, t1, t2] H fun _ H =>
 some (.tup [], H)) (pO (aUn .not t8) H fun t35 H =>
 onBool t35 (pC call n428 [t0, t1, t2] H fun _ H =>
 pSub t3 (iN 1) H fun t41 H =>
 S350_16 call q0 t0 t1 t2 t41 t8 t9 t21 H) (S350_16 call q0 t0 t1 t2 t3 t8 t9 t21 H)))) n
def S350 : Ff := ⟨fun call l H => argA4 (fun t0 t1 t2 t3 => S350_0 call 1000000 t0 t1 t2 t3 (.bool true) (.bool true) H) l⟩
def S351_0 (call : CallFn) (t0 : AV) (H : AHeap) : R :=
 onBool (.bool false) (pConv .u32 t0 H fun t4 H =>
 pC call n435 [t4] H fun t5 H =>
 some (t5, H)) (pC call n436 [t0] H fun t7 H =>
 some (t7, H))
def S351 : Ff := ⟨fun call l H => argA1 (fun t0 => S351_0 call t0 H) l⟩
def S355_0 (_ : CallFn) (t15 t19 : AV) (H : AHeap) : R :=
 pPick t15 (.bool true) t19 H fun t20 H =>
 some (t20, H)
def S355_1 (call : CallFn) (t0 t1 : AV) (H : AHeap) : R :=
 pC call n399 [t0, t1] H fun t10 H =>
 pExt t10 0 H fun t11 H =>
 pExt t10 1 H fun _ H =>
 pO (aUn .not t11) H fun t14 H =>
 guardA t14 false (pC call n398 [t0, t1, (iN 3)] H fun t18 H =>
 pNeq t18 (iN 0) H fun t19 H =>
 S355_0 call t14 t19 H) (S355_0 call t14 U H)
def S355 : Ff := ⟨fun call l H => argA2 (fun t0 t1 => S355_1 call t0 t1 H) l⟩
def S359_0 (call : CallFn) (t0 t1 t2 : AV) (H : AHeap) : R :=
 pC call n438 [t0, t1, t2] H fun t12 H =>
 pO (aEq false .ptr t12 .nilp) H fun t14 H =>
 onBool t14 (some (.tup [(iN 0), (iN 1)], H)) (pO (aNil t12) H fun t16 H =>
 ldK .none H t16 fun t17 H =>
 some (.tup [t17, (iN 0)], H))
def S359 : Ff := ⟨fun call l H => argA3 (fun t0 t1 t2 => S359_0 call t0 t1 t2 H) l⟩
def S360_0 (_ : CallFn) (t2 t5 t21 t24 : AV) (H : AHeap) : R :=
 pPick t21 (.bool true) t24 H fun t25 H =>
 onBool t25 (pO (someAgg (aFill [(iN 0), (iN 0), (iN 0)] [])) H fun t26 H =>
 stK 3 H t2 t26 fun _ H =>
 ob (allM (fun o => o) [aLoad (.some 3) H t2, some (iN 3)]) fun vs => some (resV vs, H)) (ldK (.some 3) H t5 fun t27 H =>
 stK 3 H t2 t27 fun _ H =>
 ob (allM (fun o => o) [aLoad (.some 3) H t2, some (iN 0)]) fun vs => some (resV vs, H))
def S360_1 (call : CallFn) (t0 : AV) (H : AHeap) : R :=
 pNew [(iN 0), (iN 0), (iN 0)] H fun t2 H =>
 pConv .u64 t0 H fun t7 H =>
 pC call n439 [t7, (iN 0), (iN 7)] H fun t9 H =>
 pConv .i64 t9 H fun t10 H =>
 pC call n439 [t7, (iN 7), (iN 3)] H fun t12 H =>
 pConv .i64 t12 H fun t13 H =>
 pC call n439 [t7, (iN 10), (iN 16)] H fun t15 H =>
 pConv .i64 t15 H fun t16 H =>
 pO (someAgg (aFill [(iN 0), (iN 0), (iN 0)] [(0, 1, t10), (1, 1, t13), (2, 1, t16)])) H fun t17 H =>
 pNew [(iN 0), (iN 0), (iN 0)] H fun t5 H =>
 stK 3 H t5 t17 fun _ H =>
 pO (aBin .shr t7 (.int .u64 (.ofNat 26))) H fun t19 H =>
 pNeq t19 (.int .u64 (.ofNat 0)) H fun t20 H =>
 guardA t20 false (ldK (.some 3) H t5 fun t22 H =>
 pC call n440 [t22] H fun t23 H =>
 pO (aUn .not t23) H fun t24 H =>
 S360_0 call t2 t5 t20 t24 H) (S360_0 call t2 t5 t20 U H)
def S360 : Ff := ⟨fun call l H => argA1 (fun t0 => S360_1 call t0 H) l⟩
def S361_0 (_ : CallFn) (t0 t5 t7 : AV) (H : AHeap) : R :=
 pPick t5 (.bool true) t7 H fun t8 H =>
 onBool t8 (some ((.int .i64 (.negSucc 0)), H)) (pO (aBin .quo t0 (iN 64)) H fun t10 H =>
 some (t10, H))
def S361_1 (call : CallFn) (t0 : AV) (H : AHeap) : R :=
 pLss t0 (iN 0) H fun t4 H =>
 guardA t4 false (pGeq t0 (iN 32768) H fun t7 H =>
 S361_0 call t0 t4 t7 H) (S361_0 call t0 t4 U H)
def S361 : Ff := ⟨fun call l H => argA1 (fun t0 => S361_1 call t0 H) l⟩
def S362_0 (_ : CallFn) (t0 t1 t4 t8 t15 : AV) (H : AHeap) : R :=
 pPick t8 (.bool true) t15 H fun t16 H =>
 onBool t16 (pO (someAgg (aFill [(iN 0), (iN 0), (.int .u64 (.ofNat 0))] [])) H fun t17 H =>
 stK 3 H t4 t17 fun _ H =>
 ob (allM (fun o => o) [aLoad (.some 3) H t4, some (iN 4)]) fun vs => some (resV vs, H)) (pO (aNil t0) H fun t19 H =>
 pFa 0 t19 H fun t20 H =>
 ldK .none H t20 fun t21 H =>
 pIa 3 t21 t1 H fun t23 H =>
 ldK (.some 3) H t23 fun t24 H =>
 stK 3 H t4 t24 fun _ H =>
 ob (allM (fun o => o) [aLoad (.some 3) H t4, some (iN 0)]) fun vs => some (resV vs, H))
def S362_1 (call : CallFn) (t0 t1 : AV) (H : AHeap) : R :=
 pNew [(iN 0), (iN 0), (.int .u64 (.ofNat 0))] H fun t4 H =>
 pLss t1 (iN 0) H fun t7 H =>
 guardA t7 false (pO (aNil t0) H fun t11 H =>
 pFa 0 t11 H fun t12 H =>
 ldK .none H t12 fun t13 H =>
 pO (aLen .sl H t13) H fun t14 H =>
 pGeq t1 t14 H fun t15 H =>
 S362_0 call t0 t1 t4 t7 t15 H) (S362_0 call t0 t1 t4 t7 U H)
def S362 : Ff := ⟨fun call l H => argA2 (fun t0 t1 => S362_1 call t0 t1 H) l⟩
def S363_0 (_ : CallFn) (t43 t45 : AV) (H : AHeap) : R :=
 pPick t43 t45 (.bool false) H fun t46 H =>
 some (t46, H)
def S363_1 (call : CallFn) (t1 t3 t20 t21 : AV) (H : AHeap) : R :=
 onBool t21 (pFa 2 t3 H fun t24 H =>
 ldK .none H t24 fun t25 H =>
 pConv .u64 t1 H fun t27 H =>
 pO (aBin .shr t25 t27) H fun t28 H =>
 pAnd t28 (.int .u64 (.ofNat 1)) H fun t29 H =>
 pEql t29 (.int .u64 (.ofNat 1)) H fun t30 H =>
 some (t30, H)) (pEql t20 (iN 1) H fun t32 H =>
 onBool t32 (pFa 2 t3 H fun t33 H =>
 ldK .none H t33 fun t34 H =>
 pAnd t34 (.int .u64 (.ofNat 1)) H fun t35 H =>
 pEql t35 (.int .u64 (.ofNat 1)) H fun t36 H =>
 some (t36, H)) (pEql t20 (iN 3) H fun t38 H =>
 onBool t38 (pFa 2 t3 H fun t39 H =>
 ldK .none H t39 fun t40 H =>
 pAnd t40 (.int .u64 (.ofNat 1)) H fun t41 H =>
 pEql t41 (.int .u64 (.ofNat 1)) H fun t42 H =>
 guardA t42 true (pGeq t1 (iN 4) H fun t45 H =>
 S363_0 call t42 t45 H) (S363_0 call t42 U H)) (some ((.bool false), H))))
def S363_2 (call : CallFn) (t1 t3 t13 t17 : AV) (H : AHeap) : R :=
 pPick t13 (.bool true) t17 H fun t18 H =>
 onBool t18 (some ((.bool false), H)) (pFa 0 t3 H fun t19 H =>
 ldK .none H t19 fun t20 H =>
 pEql t20 (iN 0) H fun t22 H =>
 onBool t22 (S363_1 call t1 t3 t20 t22 H) (pEql t20 (iN 2) H fun t23 H =>
 S363_1 call t1 t3 t20 t23 H))
def S363_3 (call : CallFn) (t1 t2 t3 t9 t11 : AV) (H : AHeap) : R :=
 pPick t9 (.bool true) t11 H fun t12 H =>
 guardA t12 false (pSub t2 (iN 2) H fun t16 H =>
 pGtr t1 t16 H fun t17 H =>
 S363_2 call t1 t3 t12 t17 H) (S363_2 call t1 t3 t12 U H)
def S363_4 (call : CallFn) (t0 t1 t2 : AV) (H : AHeap) : R :=
 pBox t0 H fun t3 H =>
 pLss t1 (iN 0) H fun t8 H =>
 guardA t8 false (pLss t2 (iN 2) H fun t11 H =>
 S363_3 call t1 t2 t3 t8 t11 H) (S363_3 call t1 t2 t3 t8 U H)
def S363 : Ff := ⟨fun call l H => argA3 (fun t0 t1 t2 => S363_4 call t0 t1 t2 H) l⟩
def S364_0 (_ : CallFn) (t5 t6 t15 t22 : AV) (H : AHeap) : R :=
 pPick t15 (.bool true) t22 H fun t23 H =>
 onBool t23 (some ((.bool false), H)) (pO (aNil t5) H fun t25 H =>
 pFa 2 t25 H fun t26 H =>
 ldK .none H t26 fun t27 H =>
 pOr t27 t6 H fun t29 H =>
 pO (aNil t5) H fun t30 H =>
 pFa 2 t30 H fun t31 H =>
 stK 1 H t31 t29 fun _ H =>
 some ((.bool true), H))
def S364_1 (call : CallFn) (t0 t1 : AV) (H : AHeap) : R :=
 pC call n441 [t0, t1] H fun t10 H =>
 pExt t10 0 H fun t11 H =>
 pExt t10 1 H fun t12 H =>
 pO (aEq false .ptr t11 .nilp) H fun t14 H =>
 guardA t14 false (pO (aNil t11) H fun t17 H =>
 pFa 2 t17 H fun t18 H =>
 ldK .none H t18 fun t19 H =>
 pAnd t19 t12 H fun t21 H =>
 pNeq t21 (.int .u64 (.ofNat 0)) H fun t22 H =>
 S364_0 call t11 t12 t14 t22 H) (S364_0 call t11 t12 t14 U H)
def S364 : Ff := ⟨fun call l H => argA2 (fun t0 t1 => S364_1 call t0 t1 H) l⟩
def S365_0 (_ : CallFn) (t0 t1 : AV) (H : AHeap) : R :=
 pO (aNil t0) H fun t6 H =>
 pFa 0 t6 H fun t7 H =>
 ldK .none H t7 fun t8 H =>
 pN (aBsl 1 1 [(iN 0)] [(0, 1, t1)]) H fun t10 H =>
 pW (aApp 1 8 H t8 t10) fun t11 H =>
 pO (aNil t0) H fun t12 H =>
 pFa 0 t12 H fun t13 H =>
 stK 1 H t13 t11 fun _ H =>
 some (.tup [], H)
def S365 : Ff := ⟨fun call l H => argA2 (fun t0 t1 => S365_0 call t0 t1 H) l⟩
def S366_0 (_ : CallFn) (t7 t14 : AV) (H : AHeap) : R :=
 pPick t7 t14 (.bool false) H fun t15 H =>
 some (t15, H)
def S366_1 (call : CallFn) (t0 t1 : AV) (H : AHeap) : R :=
 pGeq t1 (iN 1) H fun t6 H =>
 guardA t6 true (pO (aNil t0) H fun t10 H =>
 pFa 1 t10 H fun t11 H =>
 ldK .none H t11 fun t12 H =>
 pO (aLen .sl H t12) H fun t13 H =>
 pLss t1 t13 H fun t14 H =>
 S366_0 call t6 t14 H) (S366_0 call t6 U H)
def S366 : Ff := ⟨fun call l H => argA2 (fun t0 t1 => S366_1 call t0 t1 H) l⟩
def S368_0 (_ : CallFn) (t0 : AV) (H : AHeap) : R :=
 pO (aBin .shr t0 (.int .u64 (.ofNat 1))) H fun t4 H =>
 pAnd t4 (.int .u64 (.ofNat 6148914691236517205)) H fun t5 H =>
 pAnd t0 (.int .u64 (.ofNat 6148914691236517205)) H fun t7 H =>
 pAdd t5 t7 H fun t8 H =>
 pO (aBin .shr t8 (.int .u64 (.ofNat 2))) H fun t10 H =>
 pAnd t10 (.int .u64 (.ofNat 3689348814741910323)) H fun t11 H =>
 pAnd t8 (.int .u64 (.ofNat 3689348814741910323)) H fun t13 H =>
 pAdd t11 t13 H fun t14 H =>
 pO (aBin .shr t14 (.int .u64 (.ofNat 4))) H fun t16 H =>
 pAdd t16 t14 H fun t18 H =>
 pAnd t18 (.int .u64 (.ofNat 1085102592571150095)) H fun t19 H =>
 pO (aBin .shr t19 (.int .u64 (.ofNat 8))) H fun t22 H =>
 pAdd t19 t22 H fun t23 H =>
 pO (aBin .shr t23 (.int .u64 (.ofNat 16))) H fun t26 H =>
 pAdd t23 t26 H fun t27 H =>
 pO (aBin .shr t27 (.int .u64 (.ofNat 32))) H fun t30 H =>
 pAdd t27 t30 H fun t31 H =>
 pConv .i64 t31 H fun t33 H =>
 pAnd t33 (iN 127) H fun t34 H =>
 some (t34, H)
def S368 : Ff := ⟨fun call l H => argA1 (fun t0 => S368_0 call t0 H) l⟩
def S369_0 (_ : CallFn) (t1 t2 t6 t15 t22 : AV) (H : AHeap) : R :=
 pPick t15 t22 (.bool false) H fun t23 H =>
 onBool t23 (pO (aNil t6) H fun t25 H =>
 pFa 2 t25 H fun t26 H =>
 ldK .none H t26 fun t27 H =>
 pIa 1 t27 t1 H fun t30 H =>
 stK 1 H t30 t2 fun _ H =>
 some (.tup [], H)) (some (.tup [], H))
def S369_1 (call : CallFn) (t1 t2 t6 t11 t13 : AV) (H : AHeap) : R :=
 pPick t11 t13 (.bool false) H fun t14 H =>
 guardA t14 true (pO (aNil t6) H fun t18 H =>
 pFa 2 t18 H fun t19 H =>
 ldK .none H t19 fun t20 H =>
 pO (aLen .sl H t20) H fun t21 H =>
 pLss t1 t21 H fun t22 H =>
 S369_0 call t1 t2 t6 t14 t22 H) (S369_0 call t1 t2 t6 t14 U H)
def S369_2 (call : CallFn) (t0 t1 t2 : AV) (H : AHeap) : R :=
 pC call n173 [t0] H fun t8 H =>
 pO (aEq true .ptr t8 .nilp) H fun t10 H =>
 guardA t10 true (pGeq t1 (iN 0) H fun t13 H =>
 S369_1 call t1 t2 t8 t10 t13 H) (S369_1 call t1 t2 t8 t10 U H)
def S369 : Ff := ⟨fun call l H => argA3 (fun t0 t1 t2 => S369_2 call t0 t1 t2 H) l⟩
def S378_0 (call : CallFn) (t0 t1 : AV) (H : AHeap) : R :=
 pNew [(iN 0), (iN 0), (iN 0)] H fun t4 H =>
 pNew [(iN 0), (iN 0), (.int .u64 (.ofNat 0))] H fun t5 H =>
 pO (aNil t0) H fun t13 H =>
 pFa 0 t13 H fun t14 H =>
 ldK .none H t14 fun t15 H =>
 pC call n379 [t15] H fun t16 H =>
 pC call n359 [t16, t1, (iN 0)] H fun t18 H =>
 pExt t18 0 H fun t19 H =>
 pExt t18 1 H fun t20 H =>
 pNeq t20 (iN 0) H fun t22 H =>
 onBool t22 (pO (someAgg (aFill [(iN 0), (iN 0), (iN 0)] [])) H fun t23 H =>
 pO (someAgg (aFill [(iN 0), (iN 0), (.int .u64 (.ofNat 0))] [])) H fun t24 H =>
 stK 3 H t4 t23 fun _ H =>
 stK 3 H t5 t24 fun _ H =>
 ob (allM (fun o => o) [aLoad (.some 3) H t4, aLoad (.some 3) H t5, some (.bool false)]) fun vs => some (resV vs, H)) (pC call n360 [t19] H fun t27 H =>
 pExt t27 0 H fun t28 H =>
 pExt t27 1 H fun t29 H =>
 pNew [(iN 0), (iN 0), (iN 0)] H fun t9 H =>
 stK 3 H t9 t28 fun _ H =>
 pNeq t29 (iN 0) H fun t31 H =>
 onBool t31 (pO (someAgg (aFill [(iN 0), (iN 0), (iN 0)] [])) H fun t32 H =>
 pO (someAgg (aFill [(iN 0), (iN 0), (.int .u64 (.ofNat 0))] [])) H fun t33 H =>
 stK 3 H t4 t32 fun _ H =>
 stK 3 H t5 t33 fun _ H =>
 ob (allM (fun o => o) [aLoad (.some 3) H t4, aLoad (.some 3) H t5, some (.bool false)]) fun vs => some (resV vs, H)) (pO (aNil t0) H fun t36 H =>
 pFa 0 t36 H fun t37 H =>
 ldK .none H t37 fun t38 H =>
 pFa 2 t9 H fun t40 H =>
 ldK .none H t40 fun t41 H =>
 pNew [(iN 0), (iN 0), (.int .u64 (.ofNat 0))] H fun t10 H =>
 pC call n97 [t38] H fun t39 H =>
 andR (andB (ckV (aLoad .none H t40) t41) true) (
 pC call n362 [t39, t41] H fun t42 H =>
 pExt t42 0 H fun t43 H =>
 pExt t42 1 H fun t44 H =>
 stK 3 H t10 t43 fun _ H =>
 pNeq t44 (iN 0) H fun t46 H =>
 onBool t46 (pO (someAgg (aFill [(iN 0), (iN 0), (iN 0)] [])) H fun t47 H =>
 pO (someAgg (aFill [(iN 0), (iN 0), (.int .u64 (.ofNat 0))] [])) H fun t48 H =>
 stK 3 H t4 t47 fun _ H =>
 stK 3 H t5 t48 fun _ H =>
 ob (allM (fun o => o) [aLoad (.some 3) H t4, aLoad (.some 3) H t5, some (.bool false)]) fun vs => some (resV vs, H)) (ldK (.some 3) H t9 fun t49 H =>
 ldK (.some 3) H t10 fun t50 H =>
 stK 3 H t4 t49 fun _ H =>
 andR (andB (ckV (aLoad (.some 3) H t10) t50) true) (
 stK 3 H t5 t50 fun _ H =>
 ob (allM (fun o => o) [aLoad (.some 3) H t4, aLoad (.some 3) H t5, some (.bool true)]) fun vs => some (resV vs, H))))))
def S378 : Ff := ⟨fun call l H => argA2 (fun t0 t1 => S378_0 call t0 t1 H) l⟩
def S379_0 (_ : CallFn) (t0 : AV) (H : AHeap) : R :=
 pO (aNil t0) H fun t4 H =>
 pFa 0 t4 H fun t5 H =>
 ldK .none H t5 fun t6 H =>
 some (t6, H)
def S379 : Ff := ⟨fun call l H => argA1 (fun t0 => S379_0 call t0 H) l⟩
def S395_0 (_ : CallFn) (t16 t19 : AV) (H : AHeap) : R :=
 pPick t16 t19 (.bool false) H fun t20 H =>
 some (t20, H)
def S395_1 (call : CallFn) (t0 t1 t2 : AV) (H : AHeap) : R :=
 pC call n399 [t0, t1] H fun t12 H =>
 pExt t12 0 H fun t13 H =>
 pExt t12 1 H fun t14 H =>
 guardA t13 true (pO (aEq false .bool t14 t2) H fun t19 H =>
 S395_0 call t13 t19 H) (S395_0 call t13 U H)
def S395 : Ff := ⟨fun call l H => argA3 (fun t0 t1 t2 => S395_1 call t0 t1 t2 H) l⟩
def S398_0 (call : CallFn) (t0 t1 t2 : AV) (H : AHeap) : R :=
 pC call n62 [t0] H fun t11 H =>
 pC call n379 [t11] H fun t12 H =>
 pAdd t2 (iN 1) H fun t15 H =>
 pC call n359 [t12, t1, t15] H fun t16 H =>
 pExt t16 0 H fun t17 H =>
 pExt t16 1 H fun _ H =>
 some (t17, H)
def S398 : Ff := ⟨fun call l H => argA3 (fun t0 t1 t2 => S398_0 call t0 t1 t2 H) l⟩
def S399_0 (_ : CallFn) (t7 t16 t19 : AV) (H : AHeap) : R :=
 pPick t16 t19 (.bool false) H fun t20 H =>
 pFa 2 t7 H fun t21 H =>
 ldK .none H t21 fun t22 H =>
 pAnd t22 (.int .u64 (.ofNat 1)) H fun t23 H =>
 pEql t23 (.int .u64 (.ofNat 1)) H fun t24 H =>
 some (.tup [t20, t24], H)
def S399_1 (call : CallFn) (t7 t16 t18 : AV) (H : AHeap) : R :=
 guardA t16 true (pEql t18 (iN 3) H fun t19 H =>
 S399_0 call t7 t16 t19 H) (S399_0 call t7 t16 U H)
def S399_2 (call : CallFn) (t7 t16 t17 : AV) (H : AHeap) : R :=
 guardA t16 true (ldK .none H t17 fun t18 H =>
 S399_1 call t7 t16 t18 H) (S399_1 call t7 t16 U H)
def S399_3 (call : CallFn) (t0 t1 : AV) (H : AHeap) : R :=
 pC call n378 [t0, t1] H fun t11 H =>
 pExt t11 0 H fun t12 H =>
 pExt t11 1 H fun t13 H =>
 pExt t11 2 H fun t14 H =>
 pNew [(iN 0), (iN 0), (iN 0)] H fun t6 H =>
 pNew [(iN 0), (iN 0), (.int .u64 (.ofNat 0))] H fun t7 H =>
 stK 3 H t6 t12 fun _ H =>
 stK 3 H t7 t13 fun _ H =>
 guardA t14 true (pFa 1 t6 H fun t17 H =>
 S399_2 call t7 t14 t17 H) (S399_2 call t7 t14 U H)
def S399 : Ff := ⟨fun call l H => argA2 (fun t0 t1 => S399_3 call t0 t1 H) l⟩
def S401_0 (_ : CallFn) (t0 t1 t2 : AV) (H : AHeap) : R :=
 ldK .none H t1 fun t5 H =>
 pO (aNil t5) H fun t6 H =>
 pFa 6 t6 H fun t7 H =>
 pFa 4 t7 H fun t8 H =>
 ldK .none H t8 fun t9 H =>
 pIa 1 t9 t0 H fun t11 H =>
 ldK .none H t11 fun t12 H =>
 ldK .none H t2 fun t13 H =>
 pO (aEq true .bool t12 t13) H fun t14 H =>
 some (t14, H)
def S401 : Ff := ⟨fun call l H => argA3 (fun t0 t1 t2 => S401_0 call t0 t1 t2 H) l⟩
def S406_0 (call : CallFn) (t0 : AV) (H : AHeap) : R :=
 pNew [(.str []), (.str []), (iN 0), .nilsl] H fun t2 H =>
 pO (aNil t0) H fun t5 H =>
 pFa 0 t5 H fun t6 H =>
 ldK .none H t6 fun t7 H =>
 pO (aLen .sl H t7) H fun t8 H =>
 pN (aBsl 1 1 [(.str [])] [(0, 1, (.str [124, 124]))]) H fun t11 H =>
 pC call n449 [t0, t8, (.fn n450 [t0] []), t11] H fun t12 H =>
 stK 4 H t2 t12 fun _ H =>
 ob (allM (fun o => o) [aLoad (.some 4) H t2]) fun vs => some (resV vs, H)
def S406 : Ff := ⟨fun call l H => argA1 (fun t0 => S406_0 call t0 H) l⟩
def S410_0 (_ : CallFn) (t2 t3 : AV) (H : AHeap) : R :=
 ldK (.some 4) H t3 fun t32 H =>
 stK 4 H t2 t32 fun _ H =>
 ob (allM (fun o => o) [aLoad (.some 4) H t2]) fun vs => some (resV vs, H)
def S410_1 (call : CallFn) (n : Nat) : AV → AV → AV → AV → AV → AHeap → R :=
 Nat.rec (motive := fun _ => AV → AV → AV → AV → AV → AHeap → R) (fun _ _ _ _ _ _ => none) (fun _ q0 t2 t3 t16 t17 t18 H => pLss t18 t17 H fun t19 H =>
 onBool t19 (pIa 4 t16 t18 H fun t20 H =>
 ldK (.some 4) H t20 fun t21 H =>
 pNew [(.str []), (.str []), (iN 0), .nilsl] H fun t5 H =>
 stK 4 H t5 t21 fun _ H =>
 pFa 3 t3 H fun t22 H =>
 ldK .none H t22 fun t23 H =>
 pFa 3 t5 H fun t24 H =>
 ldK .none H t24 fun t25 H =>
 pIa 4 t25 (iN 0) H fun t26 H =>
 ldK (.some 4) H t26 fun t27 H =>
 pN (aBsl 4 1 [(.str []), (.str []), (iN 0), .nilsl] [(0, 4, t27)]) H fun t28 H =>
 pW (aApp 4 64 H t23 t28) fun t29 H =>
 pFa 3 t3 H fun t30 H =>
 stK 1 H t30 t29 fun _ H =>
 pAdd t18 (iN 1) H fun t31 H =>
 q0 t2 t3 t16 t17 t31 H) (S410_0 call t2 t3 H)) n
def S410_2 (call : CallFn) (t0 : AV) (H : AHeap) : R :=
 pBox t0 H fun t1 H =>
 pNew [(.str []), (.str []), (iN 0), .nilsl] H fun t2 H =>
 pFa 3 t1 H fun t6 H =>
 ldK .none H t6 fun t7 H =>
 pIa 4 t7 (iN 1) H fun t8 H =>
 ldK (.some 4) H t8 fun t9 H =>
 pN (aBsl 4 1 [(.str []), (.str []), (iN 0), .nilsl] [(0, 4, t9)]) H fun t10 H =>
 pO (someAgg (aFill [(.str []), (.str []), (iN 0), .nilsl] [(0, 1, (.str [102, 110])), (3, 1, t10)])) H fun t11 H =>
 pNew [(.str []), (.str []), (iN 0), .nilsl] H fun t3 H =>
 stK 4 H t3 t11 fun _ H =>
 pFa 3 t1 H fun t12 H =>
 ldK .none H t12 fun t13 H =>
 pIa 4 t13 (iN 0) H fun t14 H =>
 pFa 3 t14 H fun t15 H =>
 ldK .none H t15 fun t16 H =>
 pO (aLen .sl H t16) H fun t17 H =>
 S410_1 call 1000000 t2 t3 t16 t17 (iN 0) H
def S410 : Ff := ⟨fun call l H => argA1 (fun t0 => S410_2 call t0 H) l⟩
def S423_0 (_ : CallFn) (t0 t1 : AV) (H : AHeap) : R :=
 pBox t0 H fun t2 H =>
 pFa 1 t2 H fun t4 H =>
 ldK .none H t4 fun t5 H =>
 ldK .none H t1 fun t6 H =>
 pEql t5 t6 H fun t7 H =>
 some (t7, H)
def S423 : Ff := ⟨fun call l H => argA2 (fun t0 t1 => S423_0 call t0 t1 H) l⟩
def S424_1 (_ : CallFn) (q0 : AV → AV → AV → AV → AV → AHeap → R) (t0 t1 t10 t11 t12 t27 t45 : AV) (H : AHeap) : R :=
 pPick t27 t45 (.bool false) H fun t46 H =>
 onBool t46 (some ((.bool false), H)) (pAdd t12 (iN 1) H fun t47 H =>
 q0 t0 t1 t10 t11 t47 H)
def S424_2 (call : CallFn) (q0 : AV → AV → AV → AV → AV → AHeap → R) (t0 t1 t10 t11 t12 t27 t35 t44 : AV) (H : AHeap) : R :=
 guardA t27 true (pPick t35 (.bool true) t44 H fun t45 H =>
 S424_1 call q0 t0 t1 t10 t11 t12 t27 t45 H) (S424_1 call q0 t0 t1 t10 t11 t12 t27 U H)
def S424_3 (call : CallFn) (q0 : AV → AV → AV → AV → AV → AHeap → R) (t0 t1 t8 t9 t10 t11 t12 t27 t35 : AV) (H : AHeap) : R :=
 guardA t35 false (pO (aNil t0) H fun t37 H =>
 pFa 2 t37 H fun t38 H =>
 ldK .none H t38 fun t39 H =>
 pIa 1 t39 t9 H fun t41 H =>
 ldK .none H t41 fun t42 H =>
 pO (aEq true .bool t42 t8) H fun t44 H =>
 S424_2 call q0 t0 t1 t10 t11 t12 t27 t35 t44 H) (S424_2 call q0 t0 t1 t10 t11 t12 t27 t35 U H)
def S424_0 (call : CallFn) (n : Nat) : AV → AV → AV → AV → AV → AHeap → R :=
 Nat.rec (motive := fun _ => AV → AV → AV → AV → AV → AHeap → R) (fun _ _ _ _ _ _ => none) (fun _ q0 t0 t1 t10 t11 t12 H => pLss t12 t11 H fun t13 H =>
 onBool t13 (pIa 1 t10 t12 H fun t15 H =>
 ldK .none H t15 fun t16 H =>
 pAdd t1 t12 H fun t19 H =>
 pO (aNil t0) H fun t22 H =>
 pFa 2 t22 H fun t23 H =>
 ldK .none H t23 fun t24 H =>
 pO (aLen .sl H t24) H fun t25 H =>
 pLss t19 t25 H fun t26 H =>
 guardA t26 true (pO (aNil t0) H fun t29 H =>
 pFa 3 t29 H fun t30 H =>
 ldK .none H t30 fun t31 H =>
 pIa 1 t31 t19 H fun t33 H =>
 ldK .none H t33 fun t34 H =>
 S424_3 call q0 t0 t1 t16 t19 t10 t11 t12 t26 t34 H) (S424_3 call q0 t0 t1 t16 t19 t10 t11 t12 t26 U H)) (some ((.bool true), H))) n
def S424_4 (call : CallFn) (t0 t1 t2 : AV) (H : AHeap) : R :=
 pO (aLen .sl H t2) H fun t11 H =>
 S424_0 call 1000000 t0 t1 t2 t11 (iN 0) H
def S424 : Ff := ⟨fun call l H => argA3 (fun t0 t1 t2 => S424_4 call t0 t1 t2 H) l⟩
def S425_0 (_ : CallFn) (t0 : AV) (H : AHeap) : R :=
 pEql t0 (.int .i64 (.negSucc 0)) H fun t4 H =>
 some (t4, H)
def S425 : Ff := ⟨fun call l H => argA1 (fun t0 => S425_0 call t0 H) l⟩
def S426_1 (_ : CallFn) (q0 : AV → AV → AV → AV → AHeap → R) (t0 t1 t2 t6 : AV) (H : AHeap) : R :=
 pAdd t6 (iN 1) H fun t14 H =>
 q0 t0 t1 t2 t14 H
def S426_3 (call : CallFn) (q0 : AV → AV → AV → AV → AHeap → R) (q1 : AV → AV → AV → AV → AV → AHeap → R) (t0 t1 t2 t6 t7 t19 t29 : AV) (H : AHeap) : R :=
 pPick t19 t29 (.bool false) H fun t30 H =>
 onBool t30 (pSub t7 (iN 1) H fun t37 H =>
 pSub t7 (iN 1) H fun t40 H =>
 pIa 1 t0 t40 H fun t41 H =>
 ldK .none H t41 fun t42 H =>
 pIa 1 t0 t7 H fun t45 H =>
 ldK .none H t45 fun t46 H =>
 pIa 1 t0 t7 H fun t47 H =>
 stK 1 H t47 t42 fun _ H =>
 pIa 1 t0 t37 H fun t48 H =>
 stK 1 H t48 t46 fun _ H =>
 pSub t7 (iN 1) H fun t32 H =>
 q1 t0 t1 t2 t6 t32 H) (S426_1 call q0 t0 t1 t2 t6 H)
def S426_4 (call : CallFn) (q0 : AV → AV → AV → AV → AHeap → R) (q1 : AV → AV → AV → AV → AV → AHeap → R) (t0 t1 t2 t6 t7 t19 t23 t28 : AV) (H : AHeap) : R :=
 guardA t19 true (pC call n432 [t23, t28] H fun t29 H =>
 S426_3 call q0 q1 t0 t1 t2 t6 t7 t19 t29 H) (S426_3 call q0 q1 t0 t1 t2 t6 t7 t19 U H)
def S426_5 (call : CallFn) (q0 : AV → AV → AV → AV → AHeap → R) (q1 : AV → AV → AV → AV → AV → AHeap → R) (t0 t1 t2 t6 t7 t19 t23 t27 : AV) (H : AHeap) : R :=
 guardA t19 true (ldK .none H t27 fun t28 H =>
 S426_4 call q0 q1 t0 t1 t2 t6 t7 t19 t23 t28 H) (S426_4 call q0 q1 t0 t1 t2 t6 t7 t19 t23 U H)
def S426_6 (call : CallFn) (q0 : AV → AV → AV → AV → AHeap → R) (q1 : AV → AV → AV → AV → AV → AHeap → R) (t0 t1 t2 t6 t7 t19 t23 t24 t26 : AV) (H : AHeap) : R :=
 guardA t19 true (pIa 1 t24 t26 H fun t27 H =>
 S426_5 call q0 q1 t0 t1 t2 t6 t7 t19 t23 t27 H) (S426_5 call q0 q1 t0 t1 t2 t6 t7 t19 t23 U H)
def S426_7 (call : CallFn) (q0 : AV → AV → AV → AV → AHeap → R) (q1 : AV → AV → AV → AV → AV → AHeap → R) (t0 t1 t2 t6 t7 t19 t23 t24 t25 : AV) (H : AHeap) : R :=
 guardA t19 true (pSub t25 (iN 1) H fun t26 H =>
 S426_6 call q0 q1 t0 t1 t2 t6 t7 t19 t23 t24 t26 H) (S426_6 call q0 q1 t0 t1 t2 t6 t7 t19 t23 t24 U H)
def S426_8 (call : CallFn) (q0 : AV → AV → AV → AV → AHeap → R) (q1 : AV → AV → AV → AV → AV → AHeap → R) (t0 t1 t2 t6 t7 t19 t23 t24 : AV) (H : AHeap) : R :=
 guardA t19 true (S426_7 call q0 q1 t0 t1 t2 t6 t7 t19 t23 t24 t7 H) (S426_7 call q0 q1 t0 t1 t2 t6 t7 t19 t23 t24 U H)
def S426_9 (call : CallFn) (q0 : AV → AV → AV → AV → AHeap → R) (q1 : AV → AV → AV → AV → AV → AHeap → R) (t0 t1 t2 t6 t7 t19 t23 : AV) (H : AHeap) : R :=
 guardA t19 true (S426_8 call q0 q1 t0 t1 t2 t6 t7 t19 t23 t0 H) (S426_8 call q0 q1 t0 t1 t2 t6 t7 t19 t23 U H)
def S426_10 (call : CallFn) (q0 : AV → AV → AV → AV → AHeap → R) (q1 : AV → AV → AV → AV → AV → AHeap → R) (t0 t1 t2 t6 t7 t19 t22 : AV) (H : AHeap) : R :=
 guardA t19 true (ldK .none H t22 fun t23 H =>
 S426_9 call q0 q1 t0 t1 t2 t6 t7 t19 t23 H) (S426_9 call q0 q1 t0 t1 t2 t6 t7 t19 U H)
def S426_11 (call : CallFn) (q0 : AV → AV → AV → AV → AHeap → R) (q1 : AV → AV → AV → AV → AV → AHeap → R) (t0 t1 t2 t6 t7 t19 t20 t21 : AV) (H : AHeap) : R :=
 guardA t19 true (pIa 1 t20 t21 H fun t22 H =>
 S426_10 call q0 q1 t0 t1 t2 t6 t7 t19 t22 H) (S426_10 call q0 q1 t0 t1 t2 t6 t7 t19 U H)
def S426_12 (call : CallFn) (q0 : AV → AV → AV → AV → AHeap → R) (q1 : AV → AV → AV → AV → AV → AHeap → R) (t0 t1 t2 t6 t7 t19 t20 : AV) (H : AHeap) : R :=
 guardA t19 true (S426_11 call q0 q1 t0 t1 t2 t6 t7 t19 t20 t7 H) (S426_11 call q0 q1 t0 t1 t2 t6 t7 t19 t20 U H)
def S426_2 (call : CallFn) (q0 : AV → AV → AV → AV → AHeap → R) (n : Nat) : AV → AV → AV → AV → AV → AHeap → R :=
 Nat.rec (motive := fun _ => AV → AV → AV → AV → AV → AHeap → R) (fun _ _ _ _ _ _ => none) (fun _ q1 t0 t1 t2 t6 t7 H => pGtr t7 t1 H fun t18 H =>
 guardA t18 true (S426_12 call q0 q1 t0 t1 t2 t6 t7 t18 t0 H) (S426_12 call q0 q1 t0 t1 t2 t6 t7 t18 U H)) n
def S426_0 (call : CallFn) (n : Nat) : AV → AV → AV → AV → AHeap → R :=
 Nat.rec (motive := fun _ => AV → AV → AV → AV → AHeap → R) (fun _ _ _ _ _ => none) (fun _ q0 t0 t1 t2 t6 H => pLss t6 t2 H fun t12 H =>
 onBool t12 (S426_2 call q0 1000000 t0 t1 t2 t6 t6 H) (some (.tup [], H))) n
def S426_13 (call : CallFn) (t0 t1 t2 : AV) (H : AHeap) : R :=
 pAdd t1 (iN 1) H fun t9 H =>
 S426_0 call 1000000 t0 t1 t2 t9 H
def S426 : Ff := ⟨fun call l H => argA3 (fun t0 t1 t2 => S426_13 call t0 t1 t2 H) l⟩
def S436_0 (_ : CallFn) (t0 t2 : AV) (H : AHeap) : R :=
 pConv .u8 t0 H fun t21 H =>
 pO (aIdxS (.str [0, 1, 2, 2, 3, 3, 3, 3, 4, 4, 4, 4, 4, 4, 4, 4, 5, 5, 5, 5, 5, 5, 5, 5, 5, 5, 5, 5, 5, 5, 5, 5, 6, 6, 6, 6, 6, 6, 6, 6, 6, 6, 6, 6, 6, 6, 6, 6, 6, 6, 6, 6, 6, 6, 6, 6, 6, 6, 6, 6, 6, 6, 6, 6, 7, 7, 7, 7, 7, 7, 7, 7, 7, 7, 7, 7, 7, 7, 7, 7, 7, 7, 7, 7, 7, 7, 7, 7, 7, 7, 7, 7, 7, 7, 7, 7, 7, 7, 7, 7, 7, 7, 7, 7, 7, 7, 7, 7, 7, 7, 7, 7, 7, 7, 7, 7, 7, 7, 7, 7, 7, 7, 7, 7, 7, 7, 7, 7, 8, 8, 8, 8, 8, 8, 8, 8, 8, 8, 8, 8, 8, 8, 8, 8, 8, 8, 8, 8, 8, 8, 8, 8, 8, 8, 8, 8, 8, 8, 8, 8, 8, 8, 8, 8, 8, 8, 8, 8, 8, 8, 8, 8, 8, 8, 8, 8, 8, 8, 8, 8, 8, 8, 8, 8, 8, 8, 8, 8, 8, 8, 8, 8, 8, 8, 8, 8, 8, 8, 8, 8, 8, 8, 8, 8, 8, 8, 8, 8, 8, 8, 8, 8, 8, 8, 8, 8, 8, 8, 8, 8, 8, 8, 8, 8, 8, 8, 8, 8, 8, 8, 8, 8, 8, 8, 8, 8, 8, 8, 8, 8, 8, 8, 8, 8, 8, 8, 8, 8, 8, 8, 8, 8, 8, 8, 8, 8]) t21) H fun t22 H =>
 pConv .i64 t22 H fun t23 H =>
 pAdd t2 t23 H fun t24 H =>
 some (t24, H)
def S436_1 (call : CallFn) (t0 t2 : AV) (H : AHeap) : R :=
 pGeq t0 (.int .u64 (.ofNat 256)) H fun t14 H =>
 onBool t14 (pO (aBin .shr t0 (.int .u64 (.ofNat 8))) H fun t16 H =>
 pAdd t2 (iN 8) H fun t18 H =>
 S436_0 call t16 t18 H) (S436_0 call t0 t2 H)
def S436_2 (call : CallFn) (t0 t2 : AV) (H : AHeap) : R :=
 pGeq t0 (.int .u64 (.ofNat 65536)) H fun t8 H =>
 onBool t8 (pO (aBin .shr t0 (.int .u64 (.ofNat 16))) H fun t10 H =>
 pAdd t2 (iN 16) H fun t12 H =>
 S436_1 call t10 t12 H) (S436_1 call t0 t2 H)
def S436_3 (call : CallFn) (t0 : AV) (H : AHeap) : R :=
 pGeq t0 (.int .u64 (.ofNat 4294967296)) H fun t4 H =>
 onBool t4 (pO (aBin .shr t0 (.int .u64 (.ofNat 32))) H fun t6 H =>
 S436_2 call t6 (iN 32) H) (S436_2 call t0 (iN 0) H)
def S436 : Ff := ⟨fun call l H => argA1 (fun t0 => S436_3 call t0 H) l⟩
def S438_0 (_ : CallFn) (t0 t1 t2 t21 t28 : AV) (H : AHeap) : R :=
 pPick t21 (.bool true) t28 H fun t29 H =>
 onBool t29 (some (.nilp, H)) (pO (aNil t0) H fun t31 H =>
 pFa 0 t31 H fun t32 H =>
 ldK .none H t32 fun t33 H =>
 pAdd t1 t2 H fun t36 H =>
 pIa 1 t33 t36 H fun t37 H =>
 some (t37, H))
def S438_1 (call : CallFn) (t0 t1 t2 t7 t17 t19 : AV) (H : AHeap) : R :=
 pPick t17 (.bool true) t19 H fun t20 H =>
 guardA t20 false (pO (aNil t7) H fun t24 H =>
 pFa 0 t24 H fun t25 H =>
 ldK .none H t25 fun t26 H =>
 pC call n260 [t26] H fun t27 H =>
 pGeq t2 t27 H fun t28 H =>
 S438_0 call t0 t1 t2 t20 t28 H) (S438_0 call t0 t1 t2 t20 U H)
def S438_2 (call : CallFn) (t0 t1 t2 : AV) (H : AHeap) : R :=
 pC call n441 [t0, t1] H fun t12 H =>
 pExt t12 0 H fun t13 H =>
 pExt t12 1 H fun _ H =>
 pO (aEq false .ptr t13 .nilp) H fun t16 H =>
 guardA t16 false (pLss t2 (iN 0) H fun t19 H =>
 S438_1 call t0 t1 t2 t13 t16 t19 H) (S438_1 call t0 t1 t2 t13 t16 U H)
def S438 : Ff := ⟨fun call l H => argA3 (fun t0 t1 t2 => S438_2 call t0 t1 t2 H) l⟩
def S439_0 (call : CallFn) (t0 t1 t2 : AV) (H : AHeap) : R :=
 pC call n445 [t1, t2] H fun t9 H =>
 pO (aUn .not t9) H fun t10 H =>
 onBool t10 (some ((.int .u64 (.ofNat 0)), H)) (pConv .u64 t1 H fun t13 H =>
 pO (aBin .shr t0 t13) H fun t14 H =>
 pC call n446 [t2] H fun t16 H =>
 pAnd t14 t16 H fun t17 H =>
 some (t17, H))
def S439 : Ff := ⟨fun call l H => argA3 (fun t0 t1 t2 => S439_0 call t0 t1 t2 H) l⟩
def S440_0 (_ : CallFn) (t26 t29 : AV) (H : AHeap) : R :=
 pPick t26 t29 (.bool false) H fun t30 H =>
 some (t30, H)
def S440_1 (call : CallFn) (t1 t21 t24 : AV) (H : AHeap) : R :=
 pPick t21 t24 (.bool false) H fun t25 H =>
 guardA t25 true (pFa 2 t1 H fun t27 H =>
 ldK .none H t27 fun t28 H =>
 pLss t28 (iN 65536) H fun t29 H =>
 S440_0 call t25 t29 H) (S440_0 call t25 U H)
def S440_2 (call : CallFn) (t1 t16 t19 : AV) (H : AHeap) : R :=
 pPick t16 t19 (.bool false) H fun t20 H =>
 guardA t20 true (pFa 2 t1 H fun t22 H =>
 ldK .none H t22 fun t23 H =>
 pGeq t23 (iN 0) H fun t24 H =>
 S440_1 call t1 t20 t24 H) (S440_1 call t1 t20 U H)
def S440_3 (call : CallFn) (t1 t11 t14 : AV) (H : AHeap) : R :=
 pPick t11 t14 (.bool false) H fun t15 H =>
 guardA t15 true (pFa 1 t1 H fun t17 H =>
 ldK .none H t17 fun t18 H =>
 pLeq t18 (iN 3) H fun t19 H =>
 S440_2 call t1 t15 t19 H) (S440_2 call t1 t15 U H)
def S440_4 (call : CallFn) (t1 t6 t9 : AV) (H : AHeap) : R :=
 pPick t6 t9 (.bool false) H fun t10 H =>
 guardA t10 true (pFa 1 t1 H fun t12 H =>
 ldK .none H t12 fun t13 H =>
 pGeq t13 (iN 0) H fun t14 H =>
 S440_3 call t1 t10 t14 H) (S440_3 call t1 t10 U H)
def S440_5 (call : CallFn) (t0 : AV) (H : AHeap) : R :=
 pBox t0 H fun t1 H =>
 pFa 0 t1 H fun t3 H =>
 ldK .none H t3 fun t4 H =>
 pGeq t4 (iN 1) H fun t5 H =>
 guardA t5 true (pFa 0 t1 H fun t7 H =>
 ldK .none H t7 fun t8 H =>
 pLeq t8 (iN 64) H fun t9 H =>
 S440_4 call t1 t5 t9 H) (S440_4 call t1 t5 U H)
def S440 : Ff := ⟨fun call l H => argA1 (fun t0 => S440_5 call t0 H) l⟩
def S441_0 (_ : CallFn) (t0 t6 t8 t19 t32 : AV) (H : AHeap) : R :=
 pPick t19 (.bool true) t32 H fun t33 H =>
 onBool t33 (some (.tup [.nilp, (.int .u64 (.ofNat 0))], H)) (pO (aNil t0) H fun t35 H =>
 pFa 1 t35 H fun t36 H =>
 ldK .none H t36 fun t37 H =>
 pIa 3 t37 t6 H fun t39 H =>
 pConv .u64 t8 H fun t41 H =>
 pO (aBin .shl (.int .u64 (.ofNat 1)) t41) H fun t42 H =>
 some (.tup [t39, t42], H))
def S441_1 (call : CallFn) (t0 t1 : AV) (H : AHeap) : R :=
 pC call n361 [t1] H fun t10 H =>
 pC call n256 [t0, t10] H fun t13 H =>
 pC call n463 [t1, t13] H fun t16 H =>
 pLss t16 (iN 0) H fun t18 H =>
 guardA t18 false (pO (aNil t0) H fun t21 H =>
 pFa 1 t21 H fun t22 H =>
 ldK .none H t22 fun t23 H =>
 pIa 3 t23 t10 H fun t25 H =>
 pFa 1 t25 H fun t26 H =>
 ldK .none H t26 fun t27 H =>
 pConv .u64 t16 H fun t29 H =>
 pO (aBin .shr t27 t29) H fun t30 H =>
 pAnd t30 (.int .u64 (.ofNat 1)) H fun t31 H =>
 pEql t31 (.int .u64 (.ofNat 0)) H fun t32 H =>
 S441_0 call t0 t10 t16 t18 t32 H) (S441_0 call t0 t10 t16 t18 U H)
def S441 : Ff := ⟨fun call l H => argA2 (fun t0 t1 => S441_1 call t0 t1 H) l⟩
end
end Go.Proofs.YtcolbcpeialmhaaGreatDoor
