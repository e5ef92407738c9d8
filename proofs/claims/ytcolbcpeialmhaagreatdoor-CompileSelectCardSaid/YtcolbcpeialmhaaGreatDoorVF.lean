/- Plain functions, printed. -/
import Derived.Test.YtcolbcpeialmhaaGreatDoorA2
import Derived.Test.YtcolbcpeialmhaaGreatDoorProg
import Derived.KernelRfl
namespace Go.Proofs.YtcolbcpeialmhaaGreatDoor
open Go.Ab
abbrev a0X : Nat := 168
abbrev a0W : Nat := 169
abbrev ZO : Nat := 444
abbrev a0V : Nat := 170
abbrev S0 : Nat := 467
abbrev LP : Nat := 257
abbrev lK : Nat := 256
abbrev a0U : Nat := 171
abbrev Si : Nat := 364
abbrev xi : Nat := 359
abbrev ZG : Nat := 477
abbrev a07 : Nat := 367
abbrev S1 : Nat := 466
abbrev Ss : Nat := 259
abbrev LI : Nat := 388
abbrev Sa : Nat := 441
abbrev Sh : Nat := 366
abbrev Sc : Nat := 438
abbrev a05 : Nat := 370
abbrev a77 : Nat := 373
abbrev LG : Nat := 439
abbrev ZI : Nat := 475
abbrev a76 : Nat := 374
abbrev a03 : Nat := 372
abbrev St : Nat := 258
abbrev a75 : Nat := 375
abbrev a74 : Nat := 376
abbrev a04 : Nat := 371
abbrev LH : Nat := 389
abbrev vB : Nat := 185
abbrev n48 : Nat := 48
abbrev LF : Nat := 446
abbrev S2 : Nat := 445
abbrev ZW : Nat := 396
abbrev GS : Nat := 355
abbrev vy : Nat := 356
abbrev qR : Nat := 395
abbrev a0s : Nat := 274
abbrev a0l : Nat := 287
abbrev ZV : Nat := 397
abbrev vx : Nat := 357
abbrev vt : Nat := 398
abbrev xg : Nat := 399
abbrev vu : Nat := 391
abbrev n80 : Nat := 80
abbrev a70 : Nat := 410
abbrev a7h : Nat := 320
abbrev a7H : Nat := 212
abbrev n32 : Nat := 32
abbrev GW : Nat := 207
abbrev n77 : Nat := 77
abbrev GU : Nat := 327
abbrev a7I : Nat := 211
abbrev a7J : Nat := 210
abbrev n33 : Nat := 33
abbrev n31 : Nat := 31
abbrev a7g : Nat := 321
abbrev GV : Nat := 318
abbrev n29 : Nat := 29
abbrev n74 : Nat := 74
abbrev a6W : Nat := 432
abbrev n22 : Nat := 22
abbrev a0I : Nat := 234
abbrev a7y : Nat := 233
abbrev n44 : Nat := 44
abbrev n47 : Nat := 47
abbrev n49 : Nat := 49
abbrev n46 : Nat := 46
abbrev n45 : Nat := 45
abbrev n13 : Nat := 13
abbrev n12 : Nat := 12
abbrev vw : Nat := 379
abbrev LN : Nat := 281
abbrev a0A : Nat := 250
abbrev ZZ : Nat := 382
abbrev n63 : Nat := 63
abbrev a0Z : Nat := 166
abbrev a1a : Nat := 109
abbrev a1b : Nat := 108
abbrev n97 : Nat := 97
abbrev Sg : Nat := 385
abbrev a73 : Nat := 386
abbrev SB : Nat := 165
abbrev Sz : Nat := 172
abbrev Sv : Nat := 252
abbrev n91 : Nat := 91
abbrev H5 : Nat := 112
abbrev a02 : Nat := 377
abbrev a18 : Nat := 115
abbrev cW : Nat := 179
abbrev vz : Nat := 263
abbrev a01 : Nat := 380
abbrev ZC : Nat := 516
abbrev GR : Nat := 369
abbrev H4 : Nat := 113
abbrev F6 : Nat := 173
abbrev a7S : Nat := 160
abbrev a0T : Nat := 174
abbrev n95 : Nat := 95
abbrev a7T : Nat := 154
abbrev a7v : Nat := 237
abbrev SE : Nat := 153
abbrev a7V : Nat := 147
abbrev a7x : Nat := 235
abbrev a7w : Nat := 236
abbrev n4 : Nat := 4
abbrev n3 : Nat := 3
abbrev n5 : Nat := 5
abbrev n6 : Nat := 6
abbrev n17 : Nat := 17
abbrev n11 : Nat := 11
abbrev n9 : Nat := 9
abbrev n7 : Nat := 7
abbrev n8 : Nat := 8
abbrev n16 : Nat := 16
abbrev n10 : Nat := 10
abbrev ZH : Nat := 476
abbrev ZL : Nat := 464
abbrev ZK : Nat := 465
abbrev ZM : Nat := 463
abbrev LD : Nat := 474
abbrev LK : Nat := 361
abbrev kJ : Nat := 260
abbrev a08 : Nat := 365
abbrev a0y : Nat := 253
abbrev a11 : Nat := 159
abbrev ZY : Nat := 387
abbrev a09 : Nat := 363
abbrev n98 : Nat := 98
abbrev Sj : Nat := 362
abbrev Sk : Nat := 360
abbrev Sb : Nat := 440
abbrev a0r : Nat := 278
abbrev n62 : Nat := 62
abbrev n64 : Nat := 64
abbrev a7r : Nat := 275
abbrev a0p : Nat := 280
abbrev LO : Nat := 272
abbrev LJ : Nat := 378
abbrev a0q : Nat := 279
abbrev a7q : Nat := 277
abbrev Sf : Nat := 394
abbrev ZX : Nat := 393
abbrev a0f : Nat := 317
abbrev Sy : Nat := 195
abbrev a81 : Nat := 127
abbrev n67 : Nat := 67
abbrev a82 : Nat := 124
abbrev LS : Nat := 128
abbrev a15 : Nat := 126
abbrev SH : Nat := 125
abbrev a14 : Nat := 130
abbrev LU : Nat := 123
abbrev n68 : Nat := 68
abbrev a12 : Nat := 150
abbrev a0H : Nat := 239
abbrev a7A : Nat := 228
abbrev a7z : Nat := 232
abbrev a0J : Nat := 230
abbrev a0K : Nat := 229
abbrev a7a : Nat := 347
abbrev a0b : Nat := 348
abbrev a6Y : Nat := 425
abbrev a7b : Nat := 346
abbrev n81 : Nat := 81
abbrev ZS : Nat := 417
abbrev a7D : Nat := 221
abbrev a7e : Nat := 333
abbrev Sx : Nat := 216
abbrev Sn : Nat := 340
abbrev a7B : Nat := 223
abbrev a7F : Nat := 219
abbrev a0e : Nat := 342
abbrev n86 : Nat := 86
abbrev a7d : Nat := 334
abbrev F5 : Nat := 225
abbrev pq : Nat := 341
abbrev LQ : Nat := 217
abbrev a0c : Nat := 345
abbrev ZT : Nat := 416
abbrev a7E : Nat := 220
abbrev a7C : Nat := 222
abbrev pw : Nat := 224
abbrev ZQ : Nat := 424
abbrev a7G : Nat := 218
abbrev a7c : Nat := 343
abbrev F1 : Nat := 338
abbrev a0d : Nat := 344
abbrev n36 : Nat := 36
abbrev LM : Nat := 339
abbrev ZR : Nat := 423
abbrev a7f : Nat := 330
abbrev a0E : Nat := 246
abbrev Sm : Nat := 353
abbrev a0x : Nat := 254
abbrev Su : Nat := 255
abbrev a0Y : Nat := 167
abbrev a0a : Nat := 351
abbrev a6V : Nat := 435
abbrev ZP : Nat := 436
abbrev a06 : Nat := 368
abbrev ZE : Nat := 485
abbrev ZN : Nat := 450
abbrev a7K : Nat := 202
abbrev ZJ : Nat := 469
abbrev Se : Nat := 406
abbrev SG : Nat := 137
abbrev a7i : Nat := 314
abbrev GZ : Nat := 134
abbrev a7Y : Nat := 135
abbrev GX : Nat := 198
abbrev n69 : Nat := 69
abbrev F0 : Nat := 449
abbrev a71 : Nat := 409
abbrev ZF : Nat := 482
abbrev a7Z : Nat := 131
abbrev ZD : Nat := 490
abbrev a6U : Nat := 493
abbrev a13 : Nat := 133
abbrev n70 : Nat := 70
abbrev n24 : Nat := 24
abbrev n14 : Nat := 14
abbrev n25 : Nat := 25
abbrev a00 : Nat := 381
abbrev SK : Nat := 107
abbrev a10 : Nat := 163
abbrev SD : Nat := 162
abbrev LV : Nat := 111
abbrev SC : Nat := 164
abbrev LL : Nat := 354
abbrev a0D : Nat := 247
abbrev a78 : Nat := 358
abbrev a0C : Nat := 248
abbrev a7W : Nat := 146
abbrev a0B : Nat := 249
abbrev a1c : Nat := 101
abbrev a0F : Nat := 241
abbrev a0h : Nat := 299
abbrev n73 : Nat := 73
abbrev a16 : Nat := 120
abbrev xj : Nat := 199
abbrev LR : Nat := 161
abbrev a7U : Nat := 152
abbrev Sw : Nat := 244
abbrev n75 : Nat := 75
abbrev a0N : Nat := 188
abbrev a0g : Nat := 313
abbrev a0z : Nat := 251
abbrev a0G : Nat := 240
abbrev F4 : Nat := 245
abbrev a6X : Nat := 426
abbrev a79 : Nat := 350
abbrev a6Z : Nat := 415
abbrev a80 : Nat := 129
abbrev a0M : Nat := 205
abbrev SI : Nat := 122
abbrev n72 : Nat := 72
abbrev a0L : Nat := 208
abbrev a7X : Nat := 138
abbrev SF : Nat := 139
abbrev n15 : Nat := 15
abbrev a72 : Nat := 402
abbrev a7M : Nat := 193
abbrev a7L : Nat := 194
abbrev a7m : Nat := 296
abbrev a0i : Nat := 295
abbrev a7k : Nat := 303
abbrev ZU : Nat := 401
abbrev a7O : Nat := 191
abbrev a7N : Nat := 192
abbrev a7n : Nat := 294
abbrev a83 : Nat := 121
abbrev a7o : Nat := 293
abbrev a0j : Nat := 292
abbrev a7Q : Nat := 189
abbrev a7l : Nat := 300
abbrev a7j : Nat := 306
abbrev a7P : Nat := 190
abbrev a7R : Nat := 184
abbrev n65 : Nat := 65
abbrev n57 : Nat := 57
abbrev n58 : Nat := 58
abbrev n56 : Nat := 56
abbrev n55 : Nat := 55
abbrev a6T : Nat := 513
abbrev n61 : Nat := 61
abbrev n60 : Nat := 60
abbrev a6S : Nat := 514
abbrev a6R : Nat := 515
abbrev n59 : Nat := 59
abbrev SJ : Nat := 110
abbrev px : Nat := 181
abbrev n54 : Nat := 54
abbrev Sp : Nat := 283
abbrev n23 : Nat := 23
abbrev a7u : Nat := 268
abbrev a0u : Nat := 269
abbrev a0t : Nat := 270
abbrev Sr : Nat := 265
abbrev a0R : Nat := 176
abbrev a7t : Nat := 271
abbrev a0O : Nat := 182
abbrev a0o : Nat := 282
abbrev a0v : Nat := 267
abbrev a7s : Nat := 273
abbrev a17 : Nat := 116
abbrev a0P : Nat := 178
abbrev a0n : Nat := 284
abbrev vA : Nat := 261
abbrev F2 : Nat := 276
abbrev a0Q : Nat := 177
abbrev a7p : Nat := 285
abbrev xk : Nat := 180
abbrev a0S : Nat := 175
abbrev Sq : Nat := 266
abbrev a0m : Nat := 286
abbrev a19 : Nat := 114
abbrev F3 : Nat := 262
abbrev a0w : Nat := 264
abbrev a0k : Nat := 288
abbrev y69 : Nat := 69
abbrev SO (f : Nat) (s : Ff) : Prop := dD Tryz.prog [3] 1000000 f s
abbrev iN (n : Nat) : AV := .int .i64 (.ofNat n)
noncomputable section
set_option maxRecDepth 100000
def a8r (call : aa) (t0 t1 t2 : AV) (H : AHeap) : R :=
 pC call n6 [] H fun t7 H =>
 pO (aUn .not t7) H fun t8 H =>
 ab t8 (some ((.bool false), H)) (pC call n8 [t0] H fun t10 H =>
 ay (.str [102, 117, 110, 99, 32, 112, 40, 118, 32, 105, 110, 116, 44, 32, 119, 32, 98, 111, 111, 108, 41, 32, 98, 111, 111, 108, 32, 123, 32, 112, 114, 105, 110, 116, 32, 118, 59, 32, 114, 101, 116, 117, 114, 110, 32, 119, 59, 32, 125, 32, 102, 117, 110, 99, 32, 113, 40, 118, 32, 105, 110, 116, 41, 32, 105, 110, 116, 32, 123, 32, 112, 114, 105, 110, 116, 32, 118, 59, 32, 114, 101, 116, 117, 114, 110, 32, 118, 59, 32, 125, 32, 102, 117, 110, 99, 32, 108, 40, 118, 32, 105, 110, 116, 41, 32, 91, 93, 105, 110, 116, 32, 123, 32, 112, 114, 105, 110, 116, 32, 118, 59, 32, 114, 101, 116, 117, 114, 110, 32, 109, 97, 107, 101, 40, 91, 93, 105, 110, 116, 44, 32, 57, 41, 59, 32, 125, 32, 102, 117, 110, 99, 32, 109, 97, 105, 110, 40, 41, 32, 123, 32, 105, 102, 32, 112, 40, 49, 44, 32]) t10 H fun t11 H =>
 ay t11 (.str [41, 32, 38, 38, 32, 112, 40, 50, 44, 32]) H fun t12 H =>
 pC call n8 [t1] H fun t14 H =>
 ay t12 t14 H fun t15 H =>
 ay t15 (.str [41, 32, 123, 32, 112, 114, 105, 110, 116, 32, 51, 59, 32, 125, 32, 105, 102, 32, 112, 40, 52, 44, 32]) H fun t16 H =>
 pC call n8 [t0] H fun t18 H =>
 ay t16 t18 H fun t19 H =>
 ay t19 (.str [41, 32, 124, 124, 32, 112, 40, 53, 44, 32]) H fun t20 H =>
 pC call n8 [t1] H fun t22 H =>
 ay t20 t22 H fun t23 H =>
 ay t23 (.str [41, 32, 123, 32, 112, 114, 105, 110, 116, 32, 54, 59, 32, 125, 32, 108, 40, 55, 41, 91, 113, 40, 56, 41, 93, 32, 61, 32, 113, 40, 57, 41, 59, 32, 112, 114, 105, 110, 116, 32, 113, 40, 49, 48, 41, 32, 45, 32, 113, 40, 49, 49, 41, 32, 42, 32, 113, 40, 49, 50, 41, 59, 32, 125]) H fun t24 H =>
 pC call n9 [t0, t1] H fun t28 H =>
 pC call n7 [t24, (.int .i64 (.ofNat 8)), t2, (.int .i64 (.ofNat 2500)), t28, (.int .i64 (.ofNat 1)), (.int .i64 (.ofNat 0))] H fun t29 H =>
 some (t29, H))
def S3 : Ff := ⟨fun call l H => aY (fun t0 t1 t2 => a8r call t0 t1 t2 H) l⟩
def a2F (call : aa) (t0 t1 t5 : AV) (H : AHeap) : R :=
 pN (aM 1 3 [(.int .i64 (.ofNat 0))] [(0, 1, (.int .i64 (.ofNat 0))), (1, 1, (.int .i64 (.ofNat 0))), (2, 1, (.int .i64 (.ofNat 2)))]) H fun t26 H =>
 pW (bz 1 8 H t5 t26) fun t27 H =>
 pC call n10 [t0] H fun t29 H =>
 ay (.str [102, 117, 110, 99, 32, 109, 97, 105, 110, 40, 41, 32, 123, 32, 118, 97, 114, 32, 108, 32, 91, 93, 99, 104, 97, 110, 32, 105, 110, 116, 32, 61, 32, 109, 97, 107, 101, 40, 91, 93, 99, 104, 97, 110, 32, 105, 110, 116, 44, 32, 50, 41, 59, 32, 108, 91, 49, 93, 32, 61, 32, 109, 97, 107, 101, 40, 99, 104, 97, 110, 32, 105, 110, 116, 44, 32]) t29 H fun t30 H =>
 ay t30 (.str [41, 59, 32, 118, 97, 114, 32, 105, 32, 105, 110, 116, 32, 61, 32, 48, 59, 32, 119, 104, 105, 108, 101, 32, 105, 32, 60, 32]) H fun t31 H =>
 pC call n10 [t0] H fun t33 H =>
 ay t31 t33 H fun t34 H =>
 ay t34 (.str [32, 123, 32, 115, 101, 110, 100, 32, 108, 91, 49, 93, 44, 32, 51, 32, 42, 32, 105, 59, 32, 105, 32, 61, 32, 105, 32, 43, 32, 49, 59, 32, 125, 32, 99, 108, 111, 115, 101, 32, 108, 91, 49, 93, 59, 32, 105, 32, 61, 32, 48, 59, 32, 119, 104, 105, 108, 101, 32, 105, 32, 60, 32]) H fun t35 H =>
 ay t0 (.int .i64 (.ofNat 2)) H fun t37 H =>
 pC call n10 [t37] H fun t38 H =>
 ay t35 t38 H fun t39 H =>
 ay t39 (.str [32, 123, 32, 112, 114, 105, 110, 116, 32, 114, 101, 99, 118, 40, 108, 91, 49, 93, 41, 59, 32, 105, 32, 61, 32, 105, 32, 43, 32, 49, 59, 32, 125, 32, 112, 114, 105, 110, 116, 32, 108, 101, 110, 40, 108, 41, 59, 32, 125]) H fun t40 H =>
 pC call n7 [t40, (.int .i64 (.ofNat 8)), t1, (.int .i64 (.ofNat 3000)), t27, (.int .i64 (.ofNat 1)), (.int .i64 (.ofNat 0))] H fun t43 H =>
 some (t43, H)
def a2E (call : aa) (n : Nat) : AV → AV → AV → AV → AHeap → R :=
 Nat.rec (motive := fun _ => AV → AV → AV → AV → AHeap → R) (fun _ _ _ _ _ => none) (fun _ q0 t0 t1 t5 t6 H => aE t6 t0 H fun t17 H =>
 ab t17 (kC (.int .i64 (.ofNat 3)) t6 H fun t22 H =>
 pN (aM 1 1 [(.int .i64 (.ofNat 0))] [(0, 1, t22)]) H fun t23 H =>
 pW (bz 1 8 H t5 t23) fun t24 H =>
 ay t6 (.int .i64 (.ofNat 1)) H fun t19 H =>
 q0 t0 t1 t24 t19 H) (a2F call t0 t1 t5 H)) n
def UO (call : aa) (t0 t1 t11 t13 : AV) (H : AHeap) : R :=
 ai t11 (.bool true) t13 H fun t14 H =>
 ab t14 (some ((.bool true), H)) (a2E call 1000000 t0 t1 .nilsl (.int .i64 (.ofNat 0)) H)
def a8q (call : aa) (t0 t1 : AV) (H : AHeap) : R :=
 pC call n6 [] H fun t7 H =>
 pO (aUn .not t7) H fun t8 H =>
 ab t8 (some ((.bool false), H)) (aE t0 (.int .i64 (.ofNat 0)) H fun t10 H =>
 ae t10 false (dj t0 (.int .i64 (.ofNat 12)) H fun t13 H =>
 UO call t0 t1 t10 t13 H) (UO call t0 t1 t10 U H))
def S4 : Ff := ⟨fun call l H => ax (fun t0 t1 => a8q call t0 t1 H) l⟩
def FT (_ : aa) (t84 t86 : AV) (H : AHeap) : R :=
 ai t84 t86 (.bool false) H fun t87 H =>
 some (t87, H)
def FQ (call : aa) (t1 t81 t82 : AV) (H : AHeap) : R :=
 ai t81 t82 (.bool false) H fun t83 H =>
 ae t83 true (pO (aUn .not t1) H fun t86 H =>
 FT call t83 t86 H) (FT call t83 U H)
def FP (call : aa) (t0 t1 t8 t50 t59 : AV) (H : AHeap) : R :=
 ai t50 t59 (.bool false) H fun t60 H =>
 ab t60 (some ((.bool false), H)) (pFa 0 t8 H fun t61 H =>
 ldK .none H t61 fun t62 H =>
 pO (aw .sl H t62) H fun t63 H =>
 aj t63 (.int .i64 (.ofNat 0)) H fun t64 H =>
 ab t64 (some ((.bool true), H)) (pFa 0 t8 H fun t65 H =>
 ldK .none H t65 fun t66 H =>
 pIa 1 t66 (.int .i64 (.ofNat 0)) H fun t67 H =>
 ldK .none H t67 fun t68 H =>
 aj t68 (.int .i64 (.ofNat 1)) H fun t70 H =>
 ab t70 (pO (aUn .not t0) H fun t72 H =>
 some (t72, H)) (aj t68 (.int .i64 (.ofNat 5)) H fun t74 H =>
 ab t74 (some (t1, H)) (pFa 0 t8 H fun t76 H =>
 ldK .none H t76 fun t77 H =>
 pIa 1 t77 (.int .i64 (.ofNat 0)) H fun t78 H =>
 ldK .none H t78 fun t79 H =>
 aj t79 (.int .i64 (.ofNat 9)) H fun t80 H =>
 ae t80 true (FQ call t1 t80 t0 H) (FQ call t1 t80 U H)))))
def FO (call : aa) (t0 t1 t8 t50 t54 t58 : AV) (H : AHeap) : R :=
 ae t50 true (ai t54 (.bool true) t58 H fun t59 H =>
 FP call t0 t1 t8 t50 t59 H) (FP call t0 t1 t8 t50 U H)
def FN (call : aa) (t0 t1 t8 t50 t54 : AV) (H : AHeap) : R :=
 ae t54 false (pFa 0 t8 H fun t55 H =>
 ldK .none H t55 fun t56 H =>
 pO (aw .sl H t56) H fun t57 H =>
 aQ t57 (.int .i64 (.ofNat 2)) H fun t58 H =>
 FO call t0 t1 t8 t50 t54 t58 H) (FO call t0 t1 t8 t50 t54 U H)
def FM (call : aa) (t0 t1 t8 t34 t45 : AV) (H : AHeap) : R :=
 ai t34 (.bool true) t45 H fun t46 H =>
 ab t46 (some ((.bool false), H)) (pFa 1 t8 H fun t47 H =>
 ldK .none H t47 fun t48 H =>
 aQ t48 (.int .i64 (.ofNat 0)) H fun t49 H =>
 ae t49 true (pFa 1 t8 H fun t51 H =>
 ldK .none H t51 fun t52 H =>
 aQ t52 (.int .i64 (.ofNat 3)) H fun t53 H =>
 FN call t0 t1 t8 t49 t53 H) (FN call t0 t1 t8 t49 U H))
def FL (call : aa) (t0 t1 t8 t34 t39 t44 : AV) (H : AHeap) : R :=
 ae t34 false (ai t39 t44 (.bool false) H fun t45 H =>
 FM call t0 t1 t8 t34 t45 H) (FM call t0 t1 t8 t34 U H)
def FK (call : aa) (t0 t1 t8 t34 t39 : AV) (H : AHeap) : R :=
 ae t39 true (pFa 0 t8 H fun t40 H =>
 ldK .none H t40 fun t41 H =>
 pIa 1 t41 (.int .i64 (.ofNat 1)) H fun t42 H =>
 ldK .none H t42 fun t43 H =>
 aQ t43 (.int .i64 (.ofNat 8)) H fun t44 H =>
 FL call t0 t1 t8 t34 t39 t44 H) (FL call t0 t1 t8 t34 t39 U H)
def wF (call : aa) (t0 t1 t8 t28 t32 : AV) (H : AHeap) : R :=
 ai t28 (.bool true) t32 H fun t33 H =>
 ae t33 false (pFa 0 t8 H fun t35 H =>
 ldK .none H t35 fun t36 H =>
 pO (aw .sl H t36) H fun t37 H =>
 aj t37 (.int .i64 (.ofNat 2)) H fun t38 H =>
 FK call t0 t1 t8 t33 t38 H) (FK call t0 t1 t8 t33 U H)
def FJ (call : aa) (t0 t1 t2 t7 : AV) (H : AHeap) : R :=
 ay t7 (.str [115, 101, 108, 101, 99, 116, 32, 123, 32, 99, 97, 115, 101, 32, 115, 101, 110, 100, 32, 99, 44, 32, 50, 32, 123, 32, 112, 114, 105, 110, 116, 32, 49, 59, 32, 125, 32, 99, 97, 115, 101, 32, 114, 101, 99, 118, 32, 118, 32, 61, 32, 100, 32, 123, 32, 112, 114, 105, 110, 116, 32, 118, 59, 32, 125, 32, 100, 101, 102, 97, 117, 108, 116, 32, 123, 32, 112, 114, 105, 110, 116, 32, 57, 59, 32, 125, 32, 125, 32, 115, 101, 108, 101, 99, 116, 32, 123, 32, 99, 97, 115, 101, 32, 114, 101, 99, 118, 32, 118, 32, 61, 32, 110, 105, 108, 40, 99, 104, 97, 110, 32, 105, 110, 116, 41, 32, 123, 32, 112, 114, 105, 110, 116, 32, 55, 59, 32, 125, 32, 100, 101, 102, 97, 117, 108, 116, 32, 123, 32, 112, 114, 105, 110, 116, 32, 56, 59, 32, 125, 32, 125, 32, 115, 101, 108, 101, 99, 116, 32, 123, 32, 99, 97, 115, 101, 32, 114, 101, 99, 118, 32, 118, 32, 61, 32, 110, 105, 108, 40, 99, 104, 97, 110, 32, 105, 110, 116, 41, 32, 123, 32, 112, 114, 105, 110, 116, 32, 55, 59, 32, 125, 32, 125, 32, 125]) H fun t19 H =>
 pC call n11 [t19, (.int .i64 (.ofNat 8)), t2, (.int .i64 (.ofNat 900))] H fun t23 H =>
 ao t23 0 H fun t24 H =>
 ao t23 1 H fun t25 H =>
 aB [.nilsl, (.int .i64 (.ofNat 0)), (.int .i64 (.ofNat 0)), (.int .i64 (.ofNat 0)), (.int .i64 (.ofNat 0)), (.int .i64 (.ofNat 0)), .nilsl] H fun t8 H =>
 stK 7 H t8 t24 fun _ H =>
 pO (aUn .not t25) H fun t27 H =>
 ae t27 false (pFa 0 t8 H fun t29 H =>
 ldK .none H t29 fun t30 H =>
 pO (aw .sl H t30) H fun t31 H =>
 dj t31 (.int .i64 (.ofNat 2)) H fun t32 H =>
 wF call t0 t1 t8 t27 t32 H) (wF call t0 t1 t8 t27 U H)
def qA (call : aa) (t0 t1 t2 t7 : AV) (H : AHeap) : R :=
 ab t1 (ay t7 (.str [115, 101, 110, 100, 32, 100, 44, 32, 53, 59, 32]) H fun t17 H =>
 FJ call t0 t1 t2 t17 H) (FJ call t0 t1 t2 t7 H)
def iD (call : aa) (t0 t1 t2 : AV) (H : AHeap) : R :=
 pC call n6 [] H fun t10 H =>
 pO (aUn .not t10) H fun t11 H =>
 ab t11 (some ((.bool false), H)) (ab t0 (ay (.str [102, 117, 110, 99, 32, 109, 97, 105, 110, 40, 41, 32, 123, 32, 118, 97, 114, 32, 99, 32, 99, 104, 97, 110, 32, 105, 110, 116, 32, 61, 32, 109, 97, 107, 101, 40, 99, 104, 97, 110, 32, 105, 110, 116, 44, 32, 49, 41, 59, 32, 118, 97, 114, 32, 100, 32, 99, 104, 97, 110, 32, 105, 110, 116, 32, 61, 32, 109, 97, 107, 101, 40, 99, 104, 97, 110, 32, 105, 110, 116, 44, 32, 49, 41, 59, 32]) (.str [115, 101, 110, 100, 32, 99, 44, 32, 49, 59, 32]) H fun t14 H =>
 qA call t0 t1 t2 t14 H) (qA call t0 t1 t2 (.str [102, 117, 110, 99, 32, 109, 97, 105, 110, 40, 41, 32, 123, 32, 118, 97, 114, 32, 99, 32, 99, 104, 97, 110, 32, 105, 110, 116, 32, 61, 32, 109, 97, 107, 101, 40, 99, 104, 97, 110, 32, 105, 110, 116, 44, 32, 49, 41, 59, 32, 118, 97, 114, 32, 100, 32, 99, 104, 97, 110, 32, 105, 110, 116, 32, 61, 32, 109, 97, 107, 101, 40, 99, 104, 97, 110, 32, 105, 110, 116, 44, 32, 49, 41, 59, 32]) H))
def S5 : Ff := ⟨fun call l H => aY (fun t0 t1 t2 => iD call t0 t1 t2 H) l⟩
def Uy (_ : aa) (t58 t62 : AV) (H : AHeap) : R :=
 ai t58 t62 (.bool false) H fun t63 H =>
 some (t63, H)
def Ux (call : aa) (t7 t53 t56 : AV) (H : AHeap) : R :=
 ai t53 t56 (.bool false) H fun t57 H =>
 ae t57 true (pFa 0 t7 H fun t59 H =>
 ldK .none H t59 fun t60 H =>
 pN (aM 1 1 [(iN 0)] [(0, 1, (iN 7))]) H fun t61 H =>
 pC call n16 [t60, t61] H fun t62 H =>
 Uy call t57 t62 H) (Uy call t57 U H)
def Uw (call : aa) (t7 t49 t51 : AV) (H : AHeap) : R :=
 ai t49 t51 (.bool false) H fun t52 H =>
 ae t52 true (pFa 1 t7 H fun t54 H =>
 ldK .none H t54 fun t55 H =>
 aj t55 (iN 1) H fun t56 H =>
 Ux call t7 t52 t56 H) (Ux call t7 t52 U H)
def Uv (call : aa) (t7 t8 t44 t47 : AV) (H : AHeap) : R :=
 ai t44 t47 (.bool false) H fun t48 H =>
 ae t48 true (aj t8 (iN 0) H fun t51 H =>
 Uw call t7 t48 t51 H) (Uw call t7 t48 U H)
def Uu (call : aa) (t5 t7 t8 t39 t42 : AV) (H : AHeap) : R :=
 ai t39 t42 (.bool false) H fun t43 H =>
 ae t43 true (pO (aw .sl H t5) H fun t46 H =>
 dj t46 (iN 4) H fun t47 H =>
 Uv call t7 t8 t43 t47 H) (Uv call t7 t8 t43 U H)
def Ut (call : aa) (t5 t6 t7 t8 t34 t37 : AV) (H : AHeap) : R :=
 ai t34 t37 (.bool false) H fun t38 H =>
 ae t38 true (ldK (.some 2) H t6 fun t40 H =>
 pO (au (aG [(iN 0), (iN 0)] [])) H fun t41 H =>
 pO (aEq false (.struct [(0, .none, .int), (1, .none, .int)]) t40 t41) H fun t42 H =>
 Uu call t5 t7 t8 t38 t42 H) (Uu call t5 t7 t8 t38 U H)
def Us (call : aa) (t4 t5 t6 t7 t8 t30 t32 : AV) (H : AHeap) : R :=
 ai t30 t32 (.bool false) H fun t33 H =>
 ae t33 true (ldK (.some 2) H t4 fun t35 H =>
 pO (au (aG [(iN 0), (iN 0)] [(0, 1, (iN 6))])) H fun t36 H =>
 pO (aEq false (.struct [(0, .none, .int), (1, .none, .int)]) t35 t36) H fun t37 H =>
 Ut call t5 t6 t7 t8 t33 t37 H) (Ut call t5 t6 t7 t8 t33 U H)
def a8p (call : aa) (H : AHeap) : R :=
 pC call n12 [(.str [102, 117, 110, 99, 32, 109, 97, 105, 110, 40, 41, 32, 123, 32, 112, 114, 105, 110, 116, 32, 55, 59, 32, 125])] H fun t10 H =>
 ao t10 0 H fun t11 H =>
 ao t10 1 H fun t12 H =>
 aB [.nilsl, .nilsl, .nilsl, .nilsl, .nilsl, (iN 0)] H fun t1 H =>
 aB [(iN 0), (iN 0)] H fun t2 H =>
 stK 6 H t1 t11 fun _ H =>
 stK 2 H t2 t12 fun _ H =>
 pC call n12 [(.str [120])] H fun t14 H =>
 ao t14 0 H fun t15 H =>
 ao t14 1 H fun t16 H =>
 aB [.nilsl, .nilsl, .nilsl, .nilsl, .nilsl, (iN 0)] H fun t3 H =>
 aB [(iN 0), (iN 0)] H fun t4 H =>
 stK 6 H t3 t15 fun _ H =>
 stK 2 H t4 t16 fun _ H =>
 pC call n13 [(.str [102, 117, 110, 99, 32, 109, 97, 105, 110, 40, 41, 32, 123, 32, 125])] H fun t18 H =>
 ao t18 0 H fun t19 H =>
 ao t18 1 H fun t20 H =>
 aB [(iN 0), (iN 0)] H fun t6 H =>
 stK 2 H t6 t20 fun _ H =>
 ldK (.some 6) H t1 fun t22 H =>
 pN (wm 1 8 [(iN 0)] (iN 50) (iN 50)) H fun t23 H =>
 aB [.nilsl, (iN 0), (iN 0), (iN 0), (iN 0), (iN 0), .nilsl] H fun t7 H =>
 pC call n14 [t22, (iN 8), t23] H fun t24 H =>
 ao t24 0 H fun t25 H =>
 ao t24 1 H fun t26 H =>
 stK 7 H t7 t25 fun _ H =>
 ldK (.some 2) H t2 fun t27 H =>
 pO (au (aG [(iN 0), (iN 0)] [])) H fun t28 H =>
 pO (aEq false (.struct [(0, .none, .int), (1, .none, .int)]) t27 t28) H fun t29 H =>
 ae t29 true (ldK (.some 6) H t1 fun t31 H =>
 pC call n15 [t31] H fun t32 H =>
 Us call t4 t19 t6 t7 t26 t29 t32 H) (Us call t4 t19 t6 t7 t26 t29 U H)
def S6 : Ff := ⟨fun call l H => nT (a8p call H) l⟩
def Um (_ : aa) (t44 t48 : AV) (H : AHeap) : R :=
 ai t44 t48 (.bool false) H fun t49 H =>
 some (t49, H)
def Ul (call : aa) (t4 t15 t38 t42 : AV) (H : AHeap) : R :=
 ai t38 t42 (.bool false) H fun t43 H =>
 ae t43 true (pFa 0 t15 H fun t45 H =>
 ldK .none H t45 fun t46 H =>
 pC call n16 [t46, t4] H fun t48 H =>
 Um call t43 t48 H) (Um call t43 U H)
def a8o (call : aa) (t0 t1 t2 t3 t4 t5 t6 : AV) (H : AHeap) : R :=
 pC call n11 [t0, t1, t2, t3] H fun t22 H =>
 ao t22 0 H fun t23 H =>
 ao t22 1 H fun t24 H =>
 aB [.nilsl, (.int .i64 (.ofNat 0)), (.int .i64 (.ofNat 0)), (.int .i64 (.ofNat 0)), (.int .i64 (.ofNat 0)), (.int .i64 (.ofNat 0)), .nilsl] H fun t15 H =>
 stK 7 H t15 t23 fun _ H =>
 pO (aUn .not t24) H fun t26 H =>
 ab t26 (some ((.bool false), H)) (pFa 1 t15 H fun t27 H =>
 ldK .none H t27 fun t28 H =>
 aj t28 (.int .i64 (.ofNat 0)) H fun t29 H =>
 ab t29 (pFa 0 t15 H fun t30 H =>
 ldK .none H t30 fun t31 H =>
 pC call n17 [t31, t4] H fun t33 H =>
 some (t33, H)) (pFa 1 t15 H fun t34 H =>
 ldK .none H t34 fun t35 H =>
 aj t35 t5 H fun t37 H =>
 ae t37 true (pFa 2 t15 H fun t39 H =>
 ldK .none H t39 fun t40 H =>
 aj t40 t6 H fun t42 H =>
 Ul call t4 t15 t37 t42 H) (Ul call t4 t15 t37 U H)))
def S7 : Ff := ⟨fun call l H => nS (fun t0 t1 t2 t3 t4 t5 t6 => a8o call t0 t1 t2 t3 t4 t5 t6 H) l⟩
def a8n (_ : aa) (t0 : AV) (H : AHeap) : R :=
 ab t0 (some ((.str [116, 114, 117, 101]), H)) (some ((.str [102, 97, 108, 115, 101]), H))
def S8 : Ff := ⟨fun call l H => az (fun t0 => a8n call t0 H) l⟩
def Uc (_ : aa) (t5 : AV) (H : AHeap) : R :=
 pN (aM 1 7 [(.int .i64 (.ofNat 0))] [(0, 1, (.int .i64 (.ofNat 7))), (1, 1, (.int .i64 (.ofNat 8))), (2, 1, (.int .i64 (.ofNat 9))), (3, 1, (.int .i64 (.ofNat 10))), (4, 1, (.int .i64 (.ofNat 11))), (5, 1, (.int .i64 (.ofNat 12))), (6, 1, (.int .i64 (.negSucc 121)))]) H fun t31 H =>
 pW (bz 1 8 H t5 t31) fun t32 H =>
 some (t32, H)
def Ub (call : aa) (t5 t24 t25 : AV) (H : AHeap) : R :=
 ai t24 (.bool true) t25 H fun t26 H =>
 ab t26 (pN (aM 1 1 [(.int .i64 (.ofNat 0))] [(0, 1, (.int .i64 (.ofNat 6)))]) H fun t28 H =>
 pW (bz 1 8 H t5 t28) fun t29 H =>
 Uc call t29 H) (Uc call t5 H)
def Ua (call : aa) (t0 t1 t5 : AV) (H : AHeap) : R :=
 ae t0 false (Ub call t5 t0 t1 H) (Ub call t5 t0 U H)
def MK (call : aa) (t0 t1 t5 : AV) (H : AHeap) : R :=
 pN (aM 1 1 [(.int .i64 (.ofNat 0))] [(0, 1, (.int .i64 (.ofNat 4)))]) H fun t16 H =>
 pW (bz 1 8 H t5 t16) fun t17 H =>
 pO (aUn .not t0) H fun t19 H =>
 ab t19 (pN (aM 1 1 [(.int .i64 (.ofNat 0))] [(0, 1, (.int .i64 (.ofNat 5)))]) H fun t21 H =>
 pW (bz 1 8 H t17 t21) fun t22 H =>
 Ua call t0 t1 t22 H) (Ua call t0 t1 t17 H)
def a8m (call : aa) (t0 t1 : AV) (H : AHeap) : R :=
 pN (aM 1 1 [(.int .i64 (.ofNat 0))] [(0, 1, (.int .i64 (.ofNat 1)))]) H fun t6 H =>
 ab t0 (pN (aM 1 1 [(.int .i64 (.ofNat 0))] [(0, 1, (.int .i64 (.ofNat 2)))]) H fun t9 H =>
 pW (bz 1 8 H t6 t9) fun t10 H =>
 ab t1 (pN (aM 1 1 [(.int .i64 (.ofNat 0))] [(0, 1, (.int .i64 (.ofNat 3)))]) H fun t13 H =>
 pW (bz 1 8 H t10 t13) fun t14 H =>
 MK call t0 t1 t14 H) (MK call t0 t1 t10 H)) (MK call t0 t1 t6 H)
def S9 : Ff := ⟨fun call l H => ax (fun t0 t1 => a8m call t0 t1 H) l⟩
def a6n (call : aa) (t0 : AV) (H : AHeap) : R :=
 aE t0 (.int .i64 (.ofNat 0)) H fun t4 H =>
 ab t4 (pO (aUn .neg t0) H fun t7 H =>
 aj t0 t7 H fun t8 H =>
 ab t8 (some ((.str [45, 57, 50, 50, 51, 51, 55, 50, 48, 51, 54, 56, 53, 52, 55, 55, 53, 56, 48, 56]), H)) (pO (aUn .neg t0) H fun t10 H =>
 pC call n10 [t10] H fun t11 H =>
 ay (.str [45]) t11 H fun t12 H =>
 some (t12, H))) (aE t0 (.int .i64 (.ofNat 10)) H fun t14 H =>
 ab t14 (ay t0 (.int .i64 (.ofNat 1)) H fun t17 H =>
 pO (cJ (.str [48, 49, 50, 51, 52, 53, 54, 55, 56, 57]) (.some t0) (.some t17)) H fun t18 H =>
 some (t18, H)) (pO (aW .quo t0 (.int .i64 (.ofNat 10))) H fun t20 H =>
 pO (aW .rem t0 (.int .i64 (.ofNat 10))) H fun t23 H =>
 pO (aW .rem t0 (.int .i64 (.ofNat 10))) H fun t25 H =>
 ay t25 (.int .i64 (.ofNat 1)) H fun t26 H =>
 pO (cJ (.str [48, 49, 50, 51, 52, 53, 54, 55, 56, 57]) (.some t23) (.some t26)) H fun t27 H =>
 pC call n10 [t20] H fun t21 H =>
 ay t21 t27 H fun t28 H =>
 some (t28, H)))
def S10 : Ff := ⟨fun call l H => az (fun t0 => a6n call t0 H) l⟩
def wJ (call : aa) (t1 t8 t10 t12 : AV) (H : AHeap) : R :=
 ldK (.some 6) H t10 fun t40 H =>
 pC call n14 [t40, t1, t12] H fun t43 H =>
 ao t43 0 H fun t44 H =>
 ao t43 1 H fun t45 H =>
 aB [.nilsl, (.int .i64 (.ofNat 0)), (.int .i64 (.ofNat 0)), (.int .i64 (.ofNat 0)), (.int .i64 (.ofNat 0)), (.int .i64 (.ofNat 0)), .nilsl] H fun t14 H =>
 stK 7 H t14 t44 fun _ H =>
 ldK (.some 7) H t14 fun t46 H =>
 aj t45 (.int .i64 (.ofNat 0)) H fun t48 H =>
 stK 7 H t8 t46 fun _ H =>
 ob (aD (fun o => o) [ah (.some 7) H t8, some t48]) fun vs => some (aV vs, H)
def wI (call : aa) (n : Nat) : AV → AV → AV → AV → AV → AV → AV → AHeap → R :=
 Nat.rec (motive := fun _ => AV → AV → AV → AV → AV → AV → AV → AHeap → R) (fun _ _ _ _ _ _ _ _ => none) (fun _ q0 t1 t2 t3 t8 t10 t12 t13 H => aE t13 t3 H fun t27 H =>
 ab t27 (kC (.int .u32 (.ofNat 1664525)) t2 H fun t31 H =>
 ay t31 (.int .u32 (.ofNat 1013904223)) H fun t32 H =>
 pO (aW .shr t32 (.int .u64 (.ofNat 8))) H fun t35 H =>
 aU .i64 t35 H fun t36 H =>
 pN (aM 1 1 [(.int .i64 (.ofNat 0))] [(0, 1, t36)]) H fun t37 H =>
 pW (bz 1 8 H t12 t37) fun t38 H =>
 ay t13 (.int .i64 (.ofNat 1)) H fun t29 H =>
 q0 t1 t32 t3 t8 t10 t38 t29 H) (wJ call t1 t8 t10 t12 H)) n
def JD (call : aa) (t0 t1 t2 t3 : AV) (H : AHeap) : R :=
 aB [.nilsl, (.int .i64 (.ofNat 0)), (.int .i64 (.ofNat 0)), (.int .i64 (.ofNat 0)), (.int .i64 (.ofNat 0)), (.int .i64 (.ofNat 0)), .nilsl] H fun t8 H =>
 pC call n12 [t0] H fun t18 H =>
 ao t18 0 H fun t19 H =>
 ao t18 1 H fun t20 H =>
 aB [.nilsl, .nilsl, .nilsl, .nilsl, .nilsl, (.int .i64 (.ofNat 0))] H fun t10 H =>
 aB [(.int .i64 (.ofNat 0)), (.int .i64 (.ofNat 0))] H fun t11 H =>
 stK 6 H t10 t19 fun _ H =>
 stK 2 H t11 t20 fun _ H =>
 pFa 0 t11 H fun t21 H =>
 ldK .none H t21 fun t22 H =>
 aQ t22 (.int .i64 (.ofNat 0)) H fun t23 H =>
 ab t23 (pO (au (aG [.nilsl, (.int .i64 (.ofNat 0)), (.int .i64 (.ofNat 0)), (.int .i64 (.ofNat 0)), (.int .i64 (.ofNat 0)), (.int .i64 (.ofNat 0)), .nilsl] [])) H fun t24 H =>
 stK 7 H t8 t24 fun _ H =>
 ob (aD (fun o => o) [ah (.some 7) H t8, some (.bool false)]) fun vs => some (aV vs, H)) (wI call 1000000 t1 t2 t3 t8 t10 .nilsl (.int .i64 (.ofNat 0)) H)
def S11 : Ff := ⟨fun call l H => dh (fun t0 t1 t2 t3 => JD call t0 t1 t2 t3 H) l⟩
def a60 (call : aa) (t0 : AV) (H : AHeap) : R :=
 aB [(iN 0), (iN 0)] H fun t3 H =>
 pC call n12 [t0] H fun t8 H =>
 ao t8 0 H fun t9 H =>
 ao t8 1 H fun t10 H =>
 aB [.nilsl, .nilsl, .nilsl, .nilsl, .nilsl, (iN 0)] H fun t4 H =>
 aB [(iN 0), (iN 0)] H fun t5 H =>
 stK 6 H t4 t9 fun _ H =>
 stK 2 H t5 t10 fun _ H =>
 pFa 0 t5 H fun t11 H =>
 ldK .none H t11 fun t12 H =>
 aQ t12 (iN 0) H fun t13 H =>
 ab t13 (ldK (.some 2) H t5 fun t14 H =>
 stK 2 H t3 t14 fun _ H =>
 ob (aD (fun o => o) [some .nilsl, ah (.some 2) H t3]) fun vs => some (aV vs, H)) (ldK (.some 6) H t4 fun t15 H =>
 ldK (.some 2) H t5 fun t17 H =>
 pC call n22 [t15] H fun t16 H =>
 aR (aA (ckV (ah (.some 2) H t5) t17) true) (
 stK 2 H t3 t17 fun _ H =>
 ob (aD (fun o => o) [some t16, ah (.some 2) H t3]) fun vs => some (aV vs, H)))
def S13 : Ff := ⟨fun call l H => az (fun t0 => a60 call t0 H) l⟩
def pf (call : aa) (t6 t8 t10 : AV) (H : AHeap) : R :=
 pC call n25 [t8, t10] H fun t38 H =>
 stK 7 H t6 t38 fun _ H =>
 ob (aD (fun o => o) [ah (.some 7) H t6, some (.int .i64 (.ofNat 0))]) fun vs => some (aV vs, H)
def wH (call : aa) (n : Nat) : AV → AV → AV → AV → AV → AV → AHeap → R :=
 Nat.rec (motive := fun _ => AV → AV → AV → AV → AV → AV → AHeap → R) (fun _ _ _ _ _ _ _ => none) (fun _ q0 t6 t8 t10 t23 t24 t25 H => aE t25 t24 H fun t26 H =>
 ab t26 (pIa 1 t23 t25 H fun t27 H =>
 ldK .none H t27 fun t28 H =>
 pC call n24 [t8, t28] H fun t31 H =>
 pO (aUn .not t31) H fun t32 H =>
 ab t32 (pf call t6 t8 t10 H) (ay t10 (.int .i64 (.ofNat 1)) H fun t34 H =>
 ay t25 (.int .i64 (.ofNat 1)) H fun t35 H =>
 q0 t6 t8 t34 t23 t24 t35 H)) (pf call t6 t8 t10 H)) n
def JC (call : aa) (t0 t1 t2 : AV) (H : AHeap) : R :=
 ba t0 H fun t3 H =>
 aB [.nilsl, (.int .i64 (.ofNat 0)), (.int .i64 (.ofNat 0)), (.int .i64 (.ofNat 0)), (.int .i64 (.ofNat 0)), (.int .i64 (.ofNat 0)), .nilsl] H fun t6 H =>
 ldK (.some 6) H t3 fun t14 H =>
 pC call n23 [t14, t1] H fun t16 H =>
 ao t16 0 H fun t17 H =>
 ao t16 1 H fun t18 H =>
 aQ t18 (.int .i64 (.ofNat 0)) H fun t20 H =>
 ab t20 (pO (au (aG [.nilsl, (.int .i64 (.ofNat 0)), (.int .i64 (.ofNat 0)), (.int .i64 (.ofNat 0)), (.int .i64 (.ofNat 0)), (.int .i64 (.ofNat 0)), .nilsl] [])) H fun t21 H =>
 stK 7 H t6 t21 fun _ H =>
 ob (aD (fun o => o) [ah (.some 7) H t6, some t18]) fun vs => some (aV vs, H)) (pO (aw .sl H t2) H fun t24 H =>
 wH call 1000000 t6 t17 (.int .i64 (.ofNat 0)) t2 t24 (.int .i64 (.ofNat 0)) H)
def S14 : Ff := ⟨fun call l H => aY (fun t0 t1 t2 => JC call t0 t1 t2 H) l⟩
def Ri (_ : aa) (n : Nat) : AV → AV → AV → AHeap → R :=
 Nat.rec (motive := fun _ => AV → AV → AV → AHeap → R) (fun _ _ _ _ => none) (fun _ q0 t0 t1 t5 H => pO (aw .sl H t0) H fun t13 H =>
 aE t5 t13 H fun t14 H =>
 ab t14 (pIa 1 t0 t5 H fun t19 H =>
 ldK .none H t19 fun t20 H =>
 pIa 1 t1 t5 H fun t23 H =>
 ldK .none H t23 fun t24 H =>
 aQ t20 t24 H fun t25 H =>
 ab t25 (some ((.bool false), H)) (ay t5 (.int .i64 (.ofNat 1)) H fun t16 H =>
 q0 t0 t1 t16 H)) (some ((.bool true), H))) n
def a5K (call : aa) (t0 t1 : AV) (H : AHeap) : R :=
 pO (aw .sl H t0) H fun t7 H =>
 pO (aw .sl H t1) H fun t9 H =>
 aQ t7 t9 H fun t10 H =>
 ab t10 (some ((.bool false), H)) (Ri call 1000000 t0 t1 (.int .i64 (.ofNat 0)) H)
def S16 : Ff := ⟨fun call l H => ax (fun t0 t1 => a5K call t0 t1 H) l⟩
def Jp (_ : aa) (t10 t16 : AV) (H : AHeap) : R :=
 ai t10 t16 (.bool false) H fun t17 H =>
 some (t17, H)
def a5z (call : aa) (t0 t1 : AV) (H : AHeap) : R :=
 pO (aw .sl H t0) H fun t6 H =>
 pO (aw .sl H t1) H fun t8 H =>
 dv t6 t8 H fun t9 H =>
 ae t9 true (pO (aw .sl H t0) H fun t14 H =>
 pO (bT 1 H t1 .none (.some t14) .none) H fun t15 H =>
 pC call n16 [t0, t15] H fun t16 H =>
 Jp call t9 t16 H) (Jp call t9 U H)
def S17 : Ff := ⟨fun call l H => ax (fun t0 t1 => a5z call t0 t1 H) l⟩
def Rh (call : aa) (t1 t3 : AV) (H : AHeap) : R :=
 pFa 5 t1 H fun t105 H =>
 ldK .none H t105 fun t106 H =>
 pN (aM 1 1 [(iN 0)] [(0, 1, t106)]) H fun t107 H =>
 pC call n46 [t3, t107] H fun _ H =>
 pO (af t3) H fun t110 H =>
 pFa 0 t110 H fun t111 H =>
 ldK .none H t111 fun t112 H =>
 some (t112, H)
def Rg (call : aa) (n : Nat) : AV → AV → AV → AV → AV → AHeap → R :=
 Nat.rec (motive := fun _ => AV → AV → AV → AV → AV → AHeap → R) (fun _ _ _ _ _ _ => none) (fun _ q0 t1 t3 t94 t95 t96 H => aE t96 t95 H fun t97 H =>
 ab t97 (pIa 7 t94 t96 H fun t98 H =>
 ldK (.some 7) H t98 fun t99 H =>
 aB [(iN 0), (iN 0), (iN 0), (iN 0), .nilsl, .nilsl, .nilsl] H fun t11 H =>
 stK 7 H t11 t99 fun _ H =>
 ldK (.some 7) H t11 fun t101 H =>
 pC call n49 [t3, t101] H fun _ H =>
 ay t96 (iN 1) H fun t103 H =>
 q0 t1 t3 t94 t95 t103 H) (Rh call t1 t3 H)) n
def Rf (call : aa) (t1 t3 : AV) (H : AHeap) : R :=
 pFa 4 t1 H fun t88 H =>
 ldK .none H t88 fun t89 H =>
 pO (aw .sl H t89) H fun t90 H =>
 aU .u64 t90 H fun t91 H =>
 pC call n45 [t3, t91] H fun _ H =>
 pFa 4 t1 H fun t93 H =>
 ldK .none H t93 fun t94 H =>
 pO (aw .sl H t94) H fun t95 H =>
 Rg call 1000000 t1 t3 t94 t95 (iN 0) H
def Re (call : aa) (n : Nat) : AV → AV → AV → AV → AV → AHeap → R :=
 Nat.rec (motive := fun _ => AV → AV → AV → AV → AV → AHeap → R) (fun _ _ _ _ _ _ => none) (fun _ q1 t1 t3 t69 t70 t71 H => aE t71 t70 H fun t72 H =>
 ab t72 (pIa 4 t69 t71 H fun t73 H =>
 ldK (.some 4) H t73 fun t74 H =>
 aB [(iN 0), (iN 0), (iN 0), (iN 0)] H fun t9 H =>
 stK 4 H t9 t74 fun _ H =>
 pFa 0 t9 H fun t76 H =>
 ldK .none H t76 fun t77 H =>
 pFa 1 t9 H fun t78 H =>
 ldK .none H t78 fun t79 H =>
 pFa 2 t9 H fun t80 H =>
 ldK .none H t80 fun t81 H =>
 pFa 3 t9 H fun t82 H =>
 ldK .none H t82 fun t83 H =>
 pN (aM 1 4 [(iN 0)] [(0, 1, t77), (1, 1, t79), (2, 1, t81), (3, 1, t83)]) H fun t84 H =>
 pC call n46 [t3, t84] H fun _ H =>
 ay t71 (iN 1) H fun t86 H =>
 q1 t1 t3 t69 t70 t86 H) (Rf call t1 t3 H)) n
def Rc (call : aa) (t1 t3 : AV) (H : AHeap) : R :=
 pFa 3 t1 H fun t63 H =>
 ldK .none H t63 fun t64 H =>
 pO (aw .sl H t64) H fun t65 H =>
 aU .u64 t65 H fun t66 H =>
 pC call n45 [t3, t66] H fun _ H =>
 pFa 3 t1 H fun t68 H =>
 ldK .none H t68 fun t69 H =>
 pO (aw .sl H t69) H fun t70 H =>
 Re call 1000000 t1 t3 t69 t70 (iN 0) H
def Rb (call : aa) (n : Nat) : AV → AV → AV → AV → AV → AHeap → R :=
 Nat.rec (motive := fun _ => AV → AV → AV → AV → AV → AHeap → R) (fun _ _ _ _ _ _ => none) (fun _ q2 t1 t3 t51 t52 t53 H => aE t53 t52 H fun t54 H =>
 ab t54 (pIa 1 t51 t53 H fun t55 H =>
 ldK .none H t55 fun t56 H =>
 pC call n48 [t56] H fun t59 H =>
 pC call n45 [t3, t59] H fun _ H =>
 ay t53 (iN 1) H fun t61 H =>
 q2 t1 t3 t51 t52 t61 H) (Rc call t1 t3 H)) n
def Ra (call : aa) (t1 t3 : AV) (H : AHeap) : R :=
 pFa 1 t1 H fun t41 H =>
 ldK .none H t41 fun t42 H =>
 pC call n47 [t3, t42] H fun _ H =>
 pFa 2 t1 H fun t45 H =>
 ldK .none H t45 fun t46 H =>
 pO (aw .sl H t46) H fun t47 H =>
 aU .u64 t47 H fun t48 H =>
 pC call n45 [t3, t48] H fun _ H =>
 pFa 2 t1 H fun t50 H =>
 ldK .none H t50 fun t51 H =>
 pO (aw .sl H t51) H fun t52 H =>
 Rb call 1000000 t1 t3 t51 t52 (iN 0) H
def R9 (call : aa) (n : Nat) : AV → AV → AV → AV → AV → AHeap → R :=
 Nat.rec (motive := fun _ => AV → AV → AV → AV → AV → AHeap → R) (fun _ _ _ _ _ _ => none) (fun _ q3 t1 t3 t22 t23 t24 H => aE t24 t23 H fun t25 H =>
 ab t25 (pIa 3 t22 t24 H fun t26 H =>
 ldK (.some 3) H t26 fun t27 H =>
 aB [(iN 0), (iN 0), (.int .u64 (.ofNat 0))] H fun t5 H =>
 stK 3 H t5 t27 fun _ H =>
 pFa 0 t5 H fun t29 H =>
 ldK .none H t29 fun t30 H =>
 pFa 1 t5 H fun t31 H =>
 ldK .none H t31 fun t32 H =>
 pN (aM 1 2 [(iN 0)] [(0, 1, t30), (1, 1, t32)]) H fun t33 H =>
 pC call n46 [t3, t33] H fun _ H =>
 pFa 2 t5 H fun t36 H =>
 ldK .none H t36 fun t37 H =>
 pC call n45 [t3, t37] H fun _ H =>
 ay t24 (iN 1) H fun t39 H =>
 q3 t1 t3 t22 t23 t39 H) (Ra call t1 t3 H)) n
def a5f (call : aa) (t0 : AV) (H : AHeap) : R :=
 ba t0 H fun t1 H =>
 pC call n44 [] H fun t12 H =>
 pO (au (aG [.nilsl] [(0, 1, t12)])) H fun t13 H =>
 ba t13 H fun t14 H =>
 pFa 0 t1 H fun t16 H =>
 ldK .none H t16 fun t17 H =>
 pO (aw .sl H t17) H fun t18 H =>
 aU .u64 t18 H fun t19 H =>
 pC call n45 [t14, t19] H fun _ H =>
 pFa 0 t1 H fun t21 H =>
 ldK .none H t21 fun t22 H =>
 pO (aw .sl H t22) H fun t23 H =>
 R9 call 1000000 t1 t14 t22 t23 (iN 0) H
def S22 : Ff := ⟨fun call l H => az (fun t0 => a5f call t0 H) l⟩
def iE (call : aa) (t0 t1 : AV) (H : AHeap) : R :=
 pC call n56 [t0] H fun t25 H =>
 pO (aw .sl H t25) H fun t28 H =>
 ay t28 (.int .i64 (.ofNat 1)) H fun t29 H =>
 pO (aW .rem t1 t29) H fun t30 H =>
 pO (aw .sl H t25) H fun t33 H =>
 aj t30 t33 H fun t34 H =>
 ab t34 (pC call n57 [t0] H fun t36 H =>
 some (t36, H)) (pIa 1 t25 t30 H fun t40 H =>
 ldK .none H t40 fun t41 H =>
 pO (aw .sl H t25) H fun t44 H =>
 ay t44 (.int .i64 (.ofNat 1)) H fun t45 H =>
 pO (aW .quo t1 t45) H fun t46 H =>
 pIa 1 t25 t30 H fun t50 H =>
 ldK .none H t50 fun t51 H =>
 pC call n59 [t0, t51] H fun t52 H =>
 aR (aA (ckV (ah .none H t40) t41) (aA (ckV (aw .sl H t25) t44) true)) (
 pO (aW .rem t46 t52) H fun t53 H =>
 pC call n58 [t0, t41, t53] H fun t54 H =>
 some (t54, H)))
def wG (call : aa) (t0 t1 : AV) (H : AHeap) : R :=
 pC call n55 [t0] H fun t11 H =>
 ao t11 0 H fun t12 H =>
 ao t11 1 H fun _ H =>
 aQ t12 (.int .i64 (.ofNat 0)) H fun t15 H =>
 ab t15 (some ((.bool false), H)) (aj t1 (.int .i64 (.negSucc 9223372036854775807)) H fun t18 H =>
 ab t18 (iE call t0 (.int .i64 (.ofNat 0)) H) (aE t1 (.int .i64 (.ofNat 0)) H fun t21 H =>
 ab t21 (pO (aUn .neg t1) H fun t23 H =>
 iE call t0 t23 H) (iE call t0 t1 H)))
def S24 : Ff := ⟨fun call l H => ax (fun t0 t1 => wG call t0 t1 H) l⟩
def a4N (call : aa) (t0 t1 : AV) (H : AHeap) : R :=
 aB [.nilsl, (.int .i64 (.ofNat 0)), (.int .i64 (.ofNat 0)), (.int .i64 (.ofNat 0)), (.int .i64 (.ofNat 0)), (.int .i64 (.ofNat 0)), .nilsl] H fun t4 H =>
 pC call n55 [t0] H fun t9 H =>
 ao t9 0 H fun t10 H =>
 ao t9 1 H fun t11 H =>
 pC call n60 [t0] H fun t13 H =>
 pC call n61 [t0] H fun t18 H =>
 pC call n62 [t18] H fun t19 H =>
 pC call n63 [t19] H fun t20 H =>
 pC call n61 [t0] H fun t22 H =>
 pC call n64 [t22] H fun t23 H =>
 pC call n65 [t0] H fun t25 H =>
 pO (au (aG [.nilsl, (.int .i64 (.ofNat 0)), (.int .i64 (.ofNat 0)), (.int .i64 (.ofNat 0)), (.int .i64 (.ofNat 0)), (.int .i64 (.ofNat 0)), .nilsl] [(0, 1, t13), (1, 1, t10), (2, 1, t11), (3, 1, t1), (4, 1, t20), (5, 1, t23), (6, 1, t25)])) H fun t26 H =>
 stK 7 H t4 t26 fun _ H =>
 ob (aD (fun o => o) [ah (.some 7) H t4]) fun vs => some (aV vs, H)
def S25 : Ff := ⟨fun call l H => ax (fun t0 t1 => a4N call t0 t1 H) l⟩
def J7 (_ : aa) (t5 t9 : AV) (H : AHeap) : R :=
 ai t5 t9 (.bool false) H fun t10 H =>
 some (t10, H)
def a4n (call : aa) (t0 : AV) (H : AHeap) : R :=
 ba t0 H fun t1 H =>
 ldK (.some 4) H t1 fun t3 H =>
 pC call n72 [t3] H fun t4 H =>
 ae t4 true (pFa 3 t1 H fun t6 H =>
 ldK .none H t6 fun t7 H =>
 pC call n73 [t7, (.fn n74 [] [])] H fun t8 H =>
 pO (aUn .not t8) H fun t9 H =>
 J7 call t4 t9 H) (J7 call t4 U H)
def S29 : Ff := ⟨fun call l H => az (fun t0 => a4n call t0 H) l⟩
def R8 (call : aa) (n : Nat) : AV → AV → AV → AV → AHeap → R :=
 Nat.rec (motive := fun _ => AV → AV → AV → AV → AHeap → R) (fun _ _ _ _ _ => none) (fun _ q0 t0 t23 t24 t25 H => aE t25 t24 H fun t26 H =>
 ab t26 (pIa 4 t23 t25 H fun t27 H =>
 ldK (.some 4) H t27 fun t28 H =>
 aB [(.str []), (.str []), (iN 0), .nilsl] H fun t7 H =>
 stK 4 H t7 t28 fun _ H =>
 ldK (.some 4) H t7 fun t30 H =>
 pC call n31 [t0, t30] H fun _ H =>
 ay t25 (iN 1) H fun t32 H =>
 q0 t0 t23 t24 t32 H) (some (.tup [], H))) n
def J4 (call : aa) (t0 t3 : AV) (H : AHeap) : R :=
 pFa 3 t3 H fun t22 H =>
 ldK .none H t22 fun t23 H =>
 pO (aw .sl H t23) H fun t24 H =>
 R8 call 1000000 t0 t23 t24 (iN 0) H
def a4f (call : aa) (t0 t1 : AV) (H : AHeap) : R :=
 ba t1 H fun t3 H =>
 pFa 0 t3 H fun t8 H =>
 ldK .none H t8 fun t9 H =>
 aj t9 (.str [110, 97, 109, 101, 100]) H fun t10 H =>
 ab t10 (pFa 1 t3 H fun t13 H =>
 ldK .none H t13 fun t14 H =>
 pC call n32 [t0, (.str [115, 116, 114, 117, 99, 116]), t14] H fun t15 H =>
 ao t15 0 H fun t16 H =>
 ao t15 1 H fun t17 H =>
 aB [(.str []), (.str []), (iN 0), .nilsl] H fun t4 H =>
 stK 4 H t4 t16 fun _ H =>
 ldK (.some 4) H t3 fun t20 H =>
 pC call n33 [t0, t17, t20] H fun _ H =>
 J4 call t0 t3 H) (J4 call t0 t3 H)
def S31 : Ff := ⟨fun call l H => ax (fun t0 t1 => a4f call t0 t1 H) l⟩
def a4a (call : aa) (t0 t1 t2 : AV) (H : AHeap) : R :=
 ba t2 H fun t5 H =>
 pO (aUn .not t1) H fun t7 H =>
 ab t7 (pFa 2 t5 H fun t9 H =>
 ldK .none H t9 fun t10 H =>
 pC call n77 [t0, t10] H fun _ H =>
 some (.tup [], H)) (some (.tup [], H))
def S33 : Ff := ⟨fun call l H => aY (fun t0 t1 t2 => a4a call t0 t1 t2 H) l⟩
def a2Y (_ : aa) (H : AHeap) : R :=
 pN (aM 1 4 [(.int .u8 (.ofNat 0))] [(0, 1, (.int .u8 (.ofNat 71))), (1, 1, (.int .u8 (.ofNat 79))), (2, 1, (.int .u8 (.ofNat 76))), (3, 1, (.int .u8 (.ofNat 49)))]) H fun t1 H =>
 some (t1, H)
def S44 : Ff := ⟨fun call l H => nT (a2Y call H) l⟩
def R7 (_ : aa) (t0 t1 : AV) (H : AHeap) : R :=
 pO (af t0) H fun t23 H =>
 pFa 0 t23 H fun t24 H =>
 ldK .none H t24 fun t25 H =>
 aU .u8 t1 H fun t27 H =>
 pN (aM 1 1 [(.int .u8 (.ofNat 0))] [(0, 1, t27)]) H fun t28 H =>
 pW (bz 1 1 H t25 t28) fun t29 H =>
 pO (af t0) H fun t30 H =>
 pFa 0 t30 H fun t31 H =>
 stK 1 H t31 t29 fun _ H =>
 some (.tup [], H)
def R6 (call : aa) (n : Nat) : AV → AV → AHeap → R :=
 Nat.rec (motive := fun _ => AV → AV → AHeap → R) (fun _ _ _ => none) (fun _ q0 t0 t1 H => dj t1 (.int .u64 (.ofNat 127)) H fun t5 H =>
 ab t5 (pO (af t0) H fun t10 H =>
 pFa 0 t10 H fun t11 H =>
 ldK .none H t11 fun t12 H =>
 dG t1 (.int .u64 (.ofNat 127)) H fun t14 H =>
 pOr t14 (.int .u64 (.ofNat 128)) H fun t15 H =>
 aU .u8 t15 H fun t16 H =>
 pN (aM 1 1 [(.int .u8 (.ofNat 0))] [(0, 1, t16)]) H fun t17 H =>
 pW (bz 1 1 H t12 t17) fun t18 H =>
 pO (af t0) H fun t19 H =>
 pFa 0 t19 H fun t20 H =>
 stK 1 H t20 t18 fun _ H =>
 pO (aW .shr t1 (.int .u64 (.ofNat 7))) H fun t7 H =>
 q0 t0 t7 H) (R7 call t0 t1 H)) n
def S45 : Ff := ⟨fun call l H => ax (fun t0 t1 => R6 call 1000000 t0 t1 H) l⟩
def R5 (call : aa) (n : Nat) : AV → AV → AV → AV → AHeap → R :=
 Nat.rec (motive := fun _ => AV → AV → AV → AV → AHeap → R) (fun _ _ _ _ _ => none) (fun _ q0 t0 t6 t7 t8 H => aE t8 t7 H fun t9 H =>
 ab t9 (pIa 1 t6 t8 H fun t10 H =>
 ldK .none H t10 fun t11 H =>
 pC call n48 [t11] H fun t14 H =>
 pC call n45 [t0, t14] H fun _ H =>
 ay t8 (iN 1) H fun t16 H =>
 q0 t0 t6 t7 t16 H) (some (.tup [], H))) n
def a2Q (call : aa) (t0 t1 : AV) (H : AHeap) : R :=
 pO (aw .sl H t1) H fun t7 H =>
 R5 call 1000000 t0 t1 t7 (iN 0) H
def S46 : Ff := ⟨fun call l H => ax (fun t0 t1 => a2Q call t0 t1 H) l⟩
def IL (_ : aa) (q0 : AV → AV → AV → AV → AHeap → R) (t0 t11 t12 t13 : AV) (H : AHeap) : R :=
 ay t13 (iN 1) H fun t22 H =>
 q0 t0 t11 t12 t22 H
def IM (call : aa) (n : Nat) : AV → AV → AV → AV → AHeap → R :=
 Nat.rec (motive := fun _ => AV → AV → AV → AV → AHeap → R) (fun _ _ _ _ _ => none) (fun _ q0 t0 t11 t12 t13 H => aE t13 t12 H fun t14 H =>
 ab t14 (pIa 1 t11 t13 H fun t15 H =>
 ldK .none H t15 fun t16 H =>
 ab t16 (pC call n45 [t0, (.int .u64 (.ofNat 1))] H fun _ H =>
 IL call q0 t0 t11 t12 t13 H) (pC call n45 [t0, (.int .u64 (.ofNat 0))] H fun _ H =>
 IL call q0 t0 t11 t12 t13 H)) (some (.tup [], H))) n
def a2L (call : aa) (t0 t1 : AV) (H : AHeap) : R :=
 pO (aw .sl H t1) H fun t8 H =>
 aU .u64 t8 H fun t9 H =>
 pC call n45 [t0, t9] H fun _ H =>
 pO (aw .sl H t1) H fun t12 H =>
 IM call 1000000 t0 t1 t12 (iN 0) H
def S47 : Ff := ⟨fun call l H => ax (fun t0 t1 => a2L call t0 t1 H) l⟩
def a2I (_ : aa) (t0 : AV) (H : AHeap) : R :=
 pO (aW .shl t0 (.int .u64 (.ofNat 1))) H fun t4 H =>
 aU .u64 t4 H fun t5 H =>
 pO (aW .shr t0 (.int .u64 (.ofNat 63))) H fun t7 H =>
 aU .u64 t7 H fun t8 H =>
 wZ t5 t8 H fun t9 H =>
 some (t9, H)
def S48 : Ff := ⟨fun call l H => az (fun t0 => a2I call t0 H) l⟩
def R4 (call : aa) (n : Nat) : AV → AV → AV → AV → AHeap → R :=
 Nat.rec (motive := fun _ => AV → AV → AV → AV → AHeap → R) (fun _ _ _ _ _ => none) (fun _ q0 t0 t57 t58 t59 H => aE t59 t58 H fun t60 H =>
 ab t60 (pIa 1 t57 t59 H fun t61 H =>
 ldK .none H t61 fun t62 H =>
 pC call n45 [t0, t62] H fun _ H =>
 ay t59 (iN 1) H fun t66 H =>
 q0 t0 t57 t58 t66 H) (some (.tup [], H))) n
def R3 (call : aa) (t0 t3 : AV) (H : AHeap) : R :=
 pFa 6 t3 H fun t51 H =>
 ldK .none H t51 fun t52 H =>
 pO (aw .sl H t52) H fun t53 H =>
 aU .u64 t53 H fun t54 H =>
 pC call n45 [t0, t54] H fun _ H =>
 pFa 6 t3 H fun t56 H =>
 ldK .none H t56 fun t57 H =>
 pO (aw .sl H t57) H fun t58 H =>
 R4 call 1000000 t0 t57 t58 (iN 0) H
def R0 (call : aa) (n : Nat) : AV → AV → AV → AV → AV → AHeap → R :=
 Nat.rec (motive := fun _ => AV → AV → AV → AV → AV → AHeap → R) (fun _ _ _ _ _ _ => none) (fun _ q1 t0 t3 t30 t31 t32 H => aE t32 t31 H fun t33 H =>
 ab t33 (pIa 5 t30 t32 H fun t34 H =>
 ldK (.some 5) H t34 fun t35 H =>
 aB [(iN 0), (iN 0), (iN 0), (iN 0), (iN 0)] H fun t5 H =>
 stK 5 H t5 t35 fun _ H =>
 pFa 0 t5 H fun t37 H =>
 ldK .none H t37 fun t38 H =>
 pFa 1 t5 H fun t39 H =>
 ldK .none H t39 fun t40 H =>
 pFa 2 t5 H fun t41 H =>
 ldK .none H t41 fun t42 H =>
 pFa 3 t5 H fun t43 H =>
 ldK .none H t43 fun t44 H =>
 pFa 4 t5 H fun t45 H =>
 ldK .none H t45 fun t46 H =>
 pN (aM 1 5 [(iN 0)] [(0, 1, t38), (1, 1, t40), (2, 1, t42), (3, 1, t44), (4, 1, t46)]) H fun t47 H =>
 pC call n46 [t0, t47] H fun _ H =>
 ay t32 (iN 1) H fun t49 H =>
 q1 t0 t3 t30 t31 t49 H) (R3 call t0 t3 H)) n
def a2G (call : aa) (t0 t1 : AV) (H : AHeap) : R :=
 ba t1 H fun t3 H =>
 pFa 0 t3 H fun t9 H =>
 ldK .none H t9 fun t10 H =>
 pFa 1 t3 H fun t11 H =>
 ldK .none H t11 fun t12 H =>
 pFa 2 t3 H fun t13 H =>
 ldK .none H t13 fun t14 H =>
 pFa 3 t3 H fun t15 H =>
 ldK .none H t15 fun t16 H =>
 pN (aM 1 4 [(iN 0)] [(0, 1, t10), (1, 1, t12), (2, 1, t14), (3, 1, t16)]) H fun t17 H =>
 pC call n46 [t0, t17] H fun _ H =>
 pFa 4 t3 H fun t20 H =>
 ldK .none H t20 fun t21 H =>
 pC call n47 [t0, t21] H fun _ H =>
 pFa 5 t3 H fun t24 H =>
 ldK .none H t24 fun t25 H =>
 pO (aw .sl H t25) H fun t26 H =>
 aU .u64 t26 H fun t27 H =>
 pC call n45 [t0, t27] H fun _ H =>
 pFa 5 t3 H fun t29 H =>
 ldK .none H t29 fun t30 H =>
 pO (aw .sl H t30) H fun t31 H =>
 R0 call 1000000 t0 t3 t30 t31 (iN 0) H
def S49 : Ff := ⟨fun call l H => ax (fun t0 t1 => a2G call t0 t1 H) l⟩
def IK (_ : aa) (t0 t7 t18 : AV) (H : AHeap) : R :=
 ai t7 t18 (.bool false) H fun t19 H =>
 ab t19 (pO (af t0) H fun t21 H =>
 pFa 11 t21 H fun t22 H =>
 stK 1 H t22 (iN 3) fun _ H =>
 some (.tup [], H)) (some (.tup [], H))
def IJ (call : aa) (t0 t7 t17 : AV) (H : AHeap) : R :=
 ae t7 true (aj t17 (iN 0) H fun t18 H =>
 IK call t0 t7 t18 H) (IK call t0 t7 U H)
def II (call : aa) (t0 t7 t16 : AV) (H : AHeap) : R :=
 ae t7 true (pO (aw .sl H t16) H fun t17 H =>
 IJ call t0 t7 t17 H) (IJ call t0 t7 U H)
def IH (call : aa) (t0 t7 t11 t15 : AV) (H : AHeap) : R :=
 ae t7 true (pC call SK [t11, t15] H fun t16 H =>
 II call t0 t7 t16 H) (II call t0 t7 U H)
def IG (call : aa) (t0 t7 t11 t14 : AV) (H : AHeap) : R :=
 ae t7 true (ldK .none H t14 fun t15 H =>
 IH call t0 t7 t11 t15 H) (IH call t0 t7 t11 U H)
def IF (call : aa) (t0 t7 t11 t13 : AV) (H : AHeap) : R :=
 ae t7 true (pFa 6 t13 H fun t14 H =>
 IG call t0 t7 t11 t14 H) (IG call t0 t7 t11 U H)
def IE (call : aa) (t0 t7 t11 t12 : AV) (H : AHeap) : R :=
 ae t7 true (pO (af t12) H fun t13 H =>
 IF call t0 t7 t11 t13 H) (IF call t0 t7 t11 U H)
def ID (call : aa) (t0 t7 t11 : AV) (H : AHeap) : R :=
 ae t7 true (IE call t0 t7 t11 t0 H) (IE call t0 t7 t11 U H)
def IC (call : aa) (t0 t7 t10 : AV) (H : AHeap) : R :=
 ae t7 true (ldK .none H t10 fun t11 H =>
 ID call t0 t7 t11 H) (ID call t0 t7 U H)
def IB (call : aa) (t0 t7 t9 : AV) (H : AHeap) : R :=
 ae t7 true (pFa 7 t9 H fun t10 H =>
 IC call t0 t7 t10 H) (IC call t0 t7 U H)
def yk (call : aa) (t0 t7 t8 : AV) (H : AHeap) : R :=
 ae t7 true (pO (af t8) H fun t9 H =>
 IB call t0 t7 t9 H) (IB call t0 t7 U H)
def UJ (call : aa) (t0 : AV) (H : AHeap) : R :=
 pO (af t0) H fun t3 H =>
 pFa 11 t3 H fun t4 H =>
 ldK .none H t4 fun t5 H =>
 aj t5 (iN 0) H fun t6 H =>
 ae t6 true (yk call t0 t6 t0 H) (yk call t0 t6 U H)
def S54 : Ff := ⟨fun call l H => az (fun t0 => UJ call t0 H) l⟩
def a2y (_ : aa) (t0 : AV) (H : AHeap) : R :=
 pO (af t0) H fun t5 H =>
 pFa 11 t5 H fun t6 H =>
 ldK .none H t6 fun t7 H =>
 pO (af t0) H fun t9 H =>
 pFa 12 t9 H fun t10 H =>
 ldK .none H t10 fun t11 H =>
 some (.tup [t7, t11], H)
def S55 : Ff := ⟨fun call l H => az (fun t0 => a2y call t0 H) l⟩
def a2x (call : aa) (t0 : AV) (H : AHeap) : R :=
 pO (af t0) H fun t4 H =>
 pFa 11 t4 H fun t5 H =>
 ldK .none H t5 fun t6 H =>
 aQ t6 (iN 0) H fun t7 H =>
 ab t7 (some (.nilsl, H)) (pO (af t0) H fun t9 H =>
 pFa 7 t9 H fun t10 H =>
 ldK .none H t10 fun t11 H =>
 pO (af t0) H fun t13 H =>
 pFa 6 t13 H fun t14 H =>
 ldK .none H t14 fun t15 H =>
 pC call SK [t11, t15] H fun t16 H =>
 some (t16, H))
def S56 : Ff := ⟨fun call l H => az (fun t0 => a2x call t0 H) l⟩
def a2w (call : aa) (t0 : AV) (H : AHeap) : R :=
 pO (af t0) H fun t5 H =>
 pFa 11 t5 H fun t6 H =>
 ldK .none H t6 fun t7 H =>
 aQ t7 (iN 0) H fun t8 H =>
 ab t8 (some ((.bool false), H)) (pO (af t0) H fun t10 H =>
 pFa 6 t10 H fun t11 H =>
 ldK .none H t11 fun t12 H =>
 pC call n62 [t12] H fun t13 H =>
 pC call a1b [t13, (.iface y69 t0)] H fun t17 H =>
 pO (aUn .not t17) H fun t18 H =>
 ab t18 (pC call a1a [t13, (.iface y69 t0)] H fun _ H =>
 some ((.bool true), H)) (some ((.bool true), H)))
def S57 : Ff := ⟨fun call l H => az (fun t0 => a2w call t0 H) l⟩
def IA (call : aa) (t0 : AV) (H : AHeap) : R :=
 pC call n54 [t0] H fun _ H =>
 some ((.bool true), H)
def Iz (call : aa) (t0 t1 t2 t7 t9 t11 t82 t87 : AV) (H : AHeap) : R :=
 ai t82 t87 (.bool false) H fun t88 H =>
 ab t88 (pO (af t0) H fun t91 H =>
 pFa 10 t91 H fun t92 H =>
 ldK .none H t92 fun t93 H =>
 pFa 0 t9 H fun t95 H =>
 ldK .none H t95 fun t96 H =>
 pFa 0 t11 H fun t97 H =>
 ldK .none H t97 fun t98 H =>
 pFa 1 t11 H fun t99 H =>
 ldK .none H t99 fun t100 H =>
 pIa 3 t7 t2 H fun t103 H =>
 ldK (.some 3) H t103 fun t104 H =>
 pO (au (aG [(iN 0), (iN 0), (iN 0), (iN 0), (iN 0), (iN 0), (iN 0)] [(0, 1, t1), (1, 1, t96), (2, 1, t98), (3, 1, t100), (4, 3, t104)])) H fun t105 H =>
 pN (aM 7 1 [(iN 0), (iN 0), (iN 0), (iN 0), (iN 0), (iN 0), (iN 0)] [(0, 7, t105)]) H fun t106 H =>
 pW (bz 7 56 H t93 t106) fun t107 H =>
 pO (af t0) H fun t108 H =>
 pFa 10 t108 H fun t109 H =>
 stK 1 H t109 t107 fun _ H =>
 IA call t0 H) (IA call t0 H)
def Iy (call : aa) (t0 t1 t2 t7 t9 t11 t75 t80 : AV) (H : AHeap) : R :=
 ai t75 t80 (.bool false) H fun t81 H =>
 ae t81 true (pO (af t0) H fun t84 H =>
 pFa 11 t84 H fun t85 H =>
 ldK .none H t85 fun t86 H =>
 aQ t86 (iN 4) H fun t87 H =>
 Iz call t0 t1 t2 t7 t9 t11 t81 t87 H) (Iz call t0 t1 t2 t7 t9 t11 t81 U H)
def Ix (call : aa) (t0 t1 t2 t7 t20 t24 : AV) (H : AHeap) : R :=
 ai t20 (.bool true) t24 H fun t25 H =>
 ab t25 (some ((.bool false), H)) (pO (af t0) H fun t27 H =>
 pFa 7 t27 H fun t28 H =>
 ldK .none H t28 fun t29 H =>
 pC call LV [t29, t1] H fun t31 H =>
 pO (af t0) H fun t35 H =>
 pFa 0 t35 H fun t36 H =>
 ldK (.some 6) H t36 fun t37 H =>
 pC call H5 [t31, t37] H fun t38 H =>
 ao t38 0 H fun t39 H =>
 ao t38 1 H fun _ H =>
 aB [(iN 0), (iN 0), (iN 0), (iN 0), (iN 0)] H fun t9 H =>
 stK 5 H t9 t39 fun _ H =>
 pC call H4 [t31] H fun t43 H =>
 ao t43 0 H fun t44 H =>
 ao t43 1 H fun _ H =>
 aB [(iN 0), (iN 0), .nilsl] H fun t11 H =>
 stK 3 H t11 t44 fun _ H =>
 pFa 0 t9 H fun t46 H =>
 ldK .none H t46 fun t47 H =>
 pC call a18 [t31] H fun t49 H =>
 aR (aA (ckV (ah .none H t46) t47) true) (
 pC call a19 [t47, t49] H fun t50 H =>
 ldK (.some 5) H t9 fun t54 H =>
 pO (af t0) H fun t56 H =>
 pFa 0 t56 H fun t57 H =>
 pFa 4 t57 H fun t58 H =>
 ldK .none H t58 fun t59 H =>
 pFa 0 t11 H fun t60 H =>
 ldK .none H t60 fun t61 H =>
 pIa 7 t59 t61 H fun t62 H =>
 ldK (.some 7) H t62 fun t63 H =>
 pFa 1 t11 H fun t64 H =>
 ldK .none H t64 fun t65 H =>
 pIa 3 t7 t2 H fun t68 H =>
 ldK (.some 3) H t68 fun t69 H =>
 pO (au (aG [.nilp, (iN 0), .nilp, (iN 0), (iN 0), (iN 0), (iN 0), (iN 0), (iN 0), (iN 0), (iN 0), (iN 0), .nilsl, .nilsl, .nilsl, (iN 0), (iN 0), (iN 0), (iN 0)] [(0, 1, t0), (1, 1, t1), (2, 1, t31), (3, 5, t54), (8, 7, t63), (15, 1, t65), (16, 3, t69)])) H fun t70 H =>
 ba t70 H fun t71 H =>
 pC call a17 [t71] H fun _ H =>
 ae t50 true (pO (af t0) H fun t77 H =>
 pFa 11 t77 H fun t78 H =>
 ldK .none H t78 fun t79 H =>
 aQ t79 (iN 2) H fun t80 H =>
 Iy call t0 t1 t2 t7 t9 t11 t50 t80 H) (Iy call t0 t1 t2 t7 t9 t11 t50 U H)))
def a2v (call : aa) (t0 t1 t2 : AV) (H : AHeap) : R :=
 pC call SJ [t0, t1] H fun t17 H =>
 aE t2 (iN 0) H fun t19 H =>
 ae t19 false (pO (aw .sl H t17) H fun t23 H =>
 aZ t2 t23 H fun t24 H =>
 Ix call t0 t1 t2 t17 t19 t24 H) (Ix call t0 t1 t2 t17 t19 U H)
def S58 : Ff := ⟨fun call l H => aY (fun t0 t1 t2 => a2v call t0 t1 t2 H) l⟩
def a2u (call : aa) (t0 t1 : AV) (H : AHeap) : R :=
 pC call SJ [t0, t1] H fun t7 H =>
 pO (aw .sl H t7) H fun t8 H =>
 some (t8, H)
def S59 : Ff := ⟨fun call l H => ax (fun t0 t1 => a2u call t0 t1 H) l⟩
def a2s (_ : aa) (t0 : AV) (H : AHeap) : R :=
 pO (af t0) H fun t4 H =>
 pFa 0 t4 H fun t5 H =>
 ldK .none H t5 fun t6 H =>
 some (t6, H)
def S62 : Ff := ⟨fun call l H => az (fun t0 => a2s call t0 H) l⟩
def Iw (call : aa) (q0 : AV → AV → AHeap → R) (t0 t3 t24 t26 : AV) (H : AHeap) : R :=
 ai t24 (.bool true) t26 H fun t27 H =>
 ab t27 (ay t3 (iN 1) H fun t29 H =>
 q0 t0 t29 H) (pO (cJ t0 (.some t3) .none) H fun t33 H =>
 pC call SI [t33, (.str [47, 47])] H fun t34 H =>
 ab t34 (pO (cJ t0 (.some t3) .none) H fun t38 H =>
 pC call LU [t38, (.fn a82 [] [])] H fun t39 H =>
 ay t3 t39 H fun t40 H =>
 q0 t0 t40 H) (some (t3, H)))
def Iv (call : aa) (q0 : AV → AV → AHeap → R) (t0 t3 t4 t20 t22 : AV) (H : AHeap) : R :=
 ai t20 (.bool true) t22 H fun t23 H =>
 ae t23 false (aj t4 (.int .u8 (.ofNat 13)) H fun t26 H =>
 Iw call q0 t0 t3 t23 t26 H) (Iw call q0 t0 t3 t23 U H)
def Iu (call : aa) (q0 : AV → AV → AHeap → R) (t0 t3 t4 t16 t18 : AV) (H : AHeap) : R :=
 ai t16 (.bool true) t18 H fun t19 H =>
 ae t19 false (aj t4 (.int .u8 (.ofNat 10)) H fun t22 H =>
 Iv call q0 t0 t3 t4 t19 t22 H) (Iv call q0 t0 t3 t4 t19 U H)
def wE (call : aa) (n : Nat) : AV → AV → AHeap → R :=
 Nat.rec (motive := fun _ => AV → AV → AHeap → R) (fun _ _ _ => none) (fun _ q0 t0 t3 H => pO (aw .str H t0) H fun t7 H =>
 aE t3 t7 H fun t8 H =>
 ab t8 (pO (jQ t0 t3) H fun t11 H =>
 aj t11 (.int .u8 (.ofNat 32)) H fun t15 H =>
 ae t15 false (aj t11 (.int .u8 (.ofNat 9)) H fun t18 H =>
 Iu call q0 t0 t3 t11 t15 t18 H) (Iu call q0 t0 t3 t11 t15 U H)) (some (t3, H))) n
def S67 : Ff := ⟨fun call l H => az (fun t0 => wE call 1000000 t0 (iN 0) H) l⟩
def QZ (_ : aa) (t2 : AV) (H : AHeap) : R :=
 pO (au (aG [(iN 0), (.str []), (iN 0)] [])) H fun t63 H =>
 stK 3 H t2 t63 fun _ H =>
 ob (aD (fun o => o) [ah (.some 3) H t2]) fun vs => some (aV vs, H)
def QY (call : aa) (n : Nat) : AV → AV → AV → AV → AV → AHeap → R :=
 Nat.rec (motive := fun _ => AV → AV → AV → AV → AV → AHeap → R) (fun _ _ _ _ _ _ => none) (fun _ q0 t0 t2 t51 t52 t53 H => aE t53 t52 H fun t54 H =>
 ab t54 (pIa 1 t51 t53 H fun t55 H =>
 ldK .none H t55 fun t56 H =>
 pC call SI [t0, t56] H fun t59 H =>
 ab t59 (pO (au (aG [(iN 0), (.str []), (iN 0)] [(0, 1, (iN 4)), (1, 1, t56)])) H fun t61 H =>
 stK 3 H t2 t61 fun _ H =>
 ob (aD (fun o => o) [ah (.some 3) H t2]) fun vs => some (aV vs, H)) (ay t53 (iN 1) H fun t62 H =>
 q0 t0 t2 t51 t52 t62 H)) (QZ call t2 H)) n
def It (_ : aa) (t2 t3 : AV) (H : AHeap) : R :=
 pFa 1 t3 H fun t22 H =>
 ldK .none H t22 fun t23 H =>
 pO (aw .str H t23) H fun t24 H =>
 dj t24 (iN 64) H fun t25 H =>
 ab t25 (pO (au (aG [(iN 0), (.str []), (iN 0)] [])) H fun t26 H =>
 stK 3 H t2 t26 fun _ H =>
 ob (aD (fun o => o) [ah (.some 3) H t2]) fun vs => some (aV vs, H)) (ldK (.some 3) H t3 fun t27 H =>
 stK 3 H t2 t27 fun _ H =>
 ob (aD (fun o => o) [ah (.some 3) H t2]) fun vs => some (aV vs, H))
def Is (_ : aa) (t2 t4 t45 t47 : AV) (H : AHeap) : R :=
 ai t45 (.bool true) t47 H fun t48 H =>
 ab t48 (pO (au (aG [(iN 0), (.str []), (iN 0)] [])) H fun t49 H =>
 stK 3 H t2 t49 fun _ H =>
 ob (aD (fun o => o) [ah (.some 3) H t2]) fun vs => some (aV vs, H)) (ldK (.some 3) H t4 fun t50 H =>
 stK 3 H t2 t50 fun _ H =>
 ob (aD (fun o => o) [ah (.some 3) H t2]) fun vs => some (aV vs, H))
def a2r (call : aa) (t0 : AV) (H : AHeap) : R :=
 aB [(iN 0), (.str []), (iN 0)] H fun t2 H =>
 pO (jQ t0 (iN 0)) H fun t11 H =>
 pC call SH [t11] H fun t12 H =>
 ab t12 (pC call LU [t0, (.fn a15 [] [])] H fun t15 H =>
 pO (cJ t0 .none (.some t15)) H fun t16 H =>
 pO (au (aG [(iN 0), (.str []), (iN 0)] [(0, 1, (iN 1)), (1, 1, t16)])) H fun t17 H =>
 aB [(iN 0), (.str []), (iN 0)] H fun t3 H =>
 stK 3 H t3 t17 fun _ H =>
 pFa 1 t3 H fun t18 H =>
 ldK .none H t18 fun t19 H =>
 pC call a81 [t19] H fun t20 H =>
 ab t20 (pFa 0 t3 H fun t21 H =>
 stK 1 H t21 (iN 2) fun _ H =>
 It call t2 t3 H) (It call t2 t3 H)) (pO (jQ t0 (iN 0)) H fun t30 H =>
 pC call LS [t30] H fun t31 H =>
 ab t31 (pC call LU [t0, (.fn LS [] [])] H fun t34 H =>
 pO (cJ t0 .none (.some t34)) H fun t35 H =>
 pO (au (aG [(iN 0), (.str []), (iN 0)] [(0, 1, (iN 3)), (1, 1, t35)])) H fun t36 H =>
 aB [(iN 0), (.str []), (iN 0)] H fun t4 H =>
 stK 3 H t4 t36 fun _ H =>
 pFa 1 t4 H fun t38 H =>
 ldK .none H t38 fun t39 H =>
 pC call a80 [t39, (iN 10), (iN 64)] H fun t40 H =>
 ao t40 0 H fun t41 H =>
 ao t40 1 H fun t42 H =>
 pO (aEq true .ifc t42 .nilif) H fun t44 H =>
 ae t44 false (dj t41 (.int .u64 (.ofNat 4611686018427387903)) H fun t47 H =>
 Is call t2 t4 t44 t47 H) (Is call t2 t4 t44 U H)) (pC call a14 [] H fun t51 H =>
 pO (aw .sl H t51) H fun t52 H =>
 QY call 1000000 t0 t2 t51 t52 (iN 0) H))
def S68 : Ff := ⟨fun call l H => az (fun t0 => a2r call t0 H) l⟩
def a2q (call : aa) (t0 t1 : AV) (H : AHeap) : R :=
 aB [(.str []), (.str []), (iN 0), .nilsl] H fun t4 H =>
 pC call n70 [t0] H fun t7 H =>
 pO (rL 2 .none t7) H fun t8 H =>
 pO (au (aG [(.str []), (.str []), (iN 0), .nilsl] [(0, 1, t1), (2, 1, t8)])) H fun t9 H =>
 stK 4 H t4 t9 fun _ H =>
 ob (aD (fun o => o) [ah (.some 4) H t4]) fun vs => some (aV vs, H)
def S69 : Ff := ⟨fun call l H => ax (fun t0 t1 => a2q call t0 t1 H) l⟩
def a2o (_ : aa) (t0 : AV) (H : AHeap) : R :=
 aB [(iN 0), (.str []), (iN 0)] H fun t2 H =>
 pO (af t0) H fun t4 H =>
 pFa 0 t4 H fun t5 H =>
 ldK .none H t5 fun t6 H =>
 pO (af t0) H fun t8 H =>
 pFa 1 t8 H fun t9 H =>
 ldK .none H t9 fun t10 H =>
 pIa 3 t6 t10 H fun t11 H =>
 ldK (.some 3) H t11 fun t12 H =>
 stK 3 H t2 t12 fun _ H =>
 ob (aD (fun o => o) [ah (.some 3) H t2]) fun vs => some (aV vs, H)
def S70 : Ff := ⟨fun call l H => az (fun t0 => a2o call t0 H) l⟩
def Iq (call : aa) (q0 : AV → AV → AV → AV → AHeap → R) (t3 t6 t7 t40 t41 t42 : AV) (H : AHeap) : R :=
 ldK (.some 4) H t6 fun t59 H =>
 pC call SF [t59, t7] H fun t61 H =>
 pO (aUn .not t61) H fun t62 H =>
 ab t62 (some ((.bool false), H)) (ay t42 (iN 1) H fun t63 H =>
 q0 t3 t40 t41 t63 H)
def Ir (call : aa) (n : Nat) : AV → AV → AV → AV → AHeap → R :=
 Nat.rec (motive := fun _ => AV → AV → AV → AV → AHeap → R) (fun _ _ _ _ _ => none) (fun _ q0 t3 t40 t41 t42 H => aE t42 t41 H fun t43 H =>
 ab t43 (pIa 4 t40 t42 H fun t45 H =>
 ldK (.some 4) H t45 fun t46 H =>
 aB [(.str []), (.str []), (iN 0), .nilsl] H fun t6 H =>
 stK 4 H t6 t46 fun _ H =>
 pFa 1 t3 H fun t47 H =>
 ldK .none H t47 fun t48 H =>
 pFa 0 t3 H fun t50 H =>
 ldK .none H t50 fun t51 H =>
 pO (aw .sl H t51) H fun t52 H =>
 aE t42 t52 H fun t53 H =>
 ab t53 (pFa 0 t3 H fun t54 H =>
 ldK .none H t54 fun t55 H =>
 pIa 1 t55 t42 H fun t57 H =>
 ldK .none H t57 fun t58 H =>
 Iq call q0 t3 t6 t58 t40 t41 t42 H) (Iq call q0 t3 t6 t48 t40 t41 t42 H)) (some ((.bool true), H))) n
def Ip (call : aa) (t1 t3 t25 t37 : AV) (H : AHeap) : R :=
 ai t25 (.bool true) t37 H fun t38 H =>
 ab t38 (some ((.bool false), H)) (pFa 3 t1 H fun t39 H =>
 ldK .none H t39 fun t40 H =>
 pO (aw .sl H t40) H fun t41 H =>
 Ir call 1000000 t3 t40 t41 (iN 0) H)
def Io (call : aa) (t1 t3 t25 t29 t36 : AV) (H : AHeap) : R :=
 ae t25 false (ai t29 t36 (.bool false) H fun t37 H =>
 Ip call t1 t3 t25 t37 H) (Ip call t1 t3 t25 U H)
def Im (call : aa) (t1 t3 t25 t29 : AV) (H : AHeap) : R :=
 ae t29 true (pFa 3 t1 H fun t30 H =>
 ldK .none H t30 fun t31 H =>
 pO (aw .sl H t31) H fun t32 H =>
 pFa 0 t3 H fun t33 H =>
 ldK .none H t33 fun t34 H =>
 pO (aw .sl H t34) H fun t35 H =>
 dj t32 t35 H fun t36 H =>
 Io call t1 t3 t25 t29 t36 H) (Io call t1 t3 t25 t29 U H)
def Il (call : aa) (t1 t3 t16 t23 : AV) (H : AHeap) : R :=
 ai t16 (.bool true) t23 H fun t24 H =>
 ae t24 false (pFa 1 t3 H fun t26 H =>
 ldK .none H t26 fun t27 H =>
 aj t27 (.str []) H fun t28 H =>
 Im call t1 t3 t24 t28 H) (Im call t1 t3 t24 U H)
def a2n (call : aa) (t0 : AV) (H : AHeap) : R :=
 ba t0 H fun t1 H =>
 pFa 0 t1 H fun t9 H =>
 ldK .none H t9 fun t10 H =>
 pC call a7X [t10] H fun t11 H =>
 ao t11 0 H fun t12 H =>
 ao t11 1 H fun t13 H =>
 aB [.nilsl, (.str [])] H fun t3 H =>
 stK 2 H t3 t12 fun _ H =>
 pO (aUn .not t13) H fun t15 H =>
 ae t15 false (pFa 3 t1 H fun t17 H =>
 ldK .none H t17 fun t18 H =>
 pO (aw .sl H t18) H fun t19 H =>
 pFa 0 t3 H fun t20 H =>
 ldK .none H t20 fun t21 H =>
 pO (aw .sl H t21) H fun t22 H =>
 aE t19 t22 H fun t23 H =>
 Il call t1 t3 t15 t23 H) (Il call t1 t3 t15 U H)
def S72 : Ff := ⟨fun call l H => az (fun t0 => a2n call t0 H) l⟩
def a2m (call : aa) (t0 t1 : AV) (H : AHeap) : R :=
 pC call n75 [t0, t1] H fun t7 H =>
 aZ t7 (iN 0) H fun t8 H =>
 some (t8, H)
def S73 : Ff := ⟨fun call l H => ax (fun t0 t1 => a2m call t0 t1 H) l⟩
def a2l (call : aa) (t0 : AV) (H : AHeap) : R :=
 ba t0 H fun t1 H =>
 ldK (.some 4) H t1 fun t3 H =>
 pC call n29 [t3] H fun t4 H =>
 pO (aUn .not t4) H fun t5 H =>
 some (t5, H)
def S74 : Ff := ⟨fun call l H => az (fun t0 => a2l call t0 H) l⟩
def QX (call : aa) (n : Nat) : AV → AV → AV → AV → AHeap → R :=
 Nat.rec (motive := fun _ => AV → AV → AV → AV → AHeap → R) (fun _ _ _ _ _ => none) (fun _ q0 t0 t1 t7 t8 H => aE t8 t7 H fun t9 H =>
 ab t9 (pIa 4 t0 t8 H fun t14 H =>
 ldK (.some 4) H t14 fun t15 H =>
 pV call t1 [t15] H fun t16 H =>
 ab t16 (some (t8, H)) (ay t8 (iN 1) H fun t18 H =>
 q0 t0 t1 t7 t18 H)) (some ((.int .i64 (.negSucc 0)), H))) n
def a2k (call : aa) (t0 t1 : AV) (H : AHeap) : R :=
 pO (aw .sl H t0) H fun t7 H =>
 QX call 1000000 t0 t1 t7 (iN 0) H
def S75 : Ff := ⟨fun call l H => ax (fun t0 t1 => a2k call t0 t1 H) l⟩
def Ik (_ : aa) (t45 t50 : AV) (H : AHeap) : R :=
 ai t45 t50 (.bool false) H fun t51 H =>
 some (t51, H)
def Ij (call : aa) (t3 t38 t43 : AV) (H : AHeap) : R :=
 ai t38 t43 (.bool false) H fun t44 H =>
 ae t44 true (pFa 3 t3 H fun t46 H =>
 ldK .none H t46 fun t47 H =>
 pIa 4 t47 (iN 2) H fun t48 H =>
 ldK (.some 4) H t48 fun t49 H =>
 pC call n80 [t49] H fun t50 H =>
 Ik call t44 t50 H) (Ik call t44 U H)
def Ii (call : aa) (t3 t30 t36 : AV) (H : AHeap) : R :=
 ai t30 t36 (.bool false) H fun t37 H =>
 ae t37 true (pFa 3 t3 H fun t39 H =>
 ldK .none H t39 fun t40 H =>
 pIa 4 t40 (iN 1) H fun t41 H =>
 ldK (.some 4) H t41 fun t42 H =>
 pC call n80 [t42] H fun t43 H =>
 Ij call t3 t37 t43 H) (Ij call t3 t37 U H)
def a2i (call : aa) (t0 : AV) (H : AHeap) : R :=
 ba t0 H fun t1 H =>
 pFa 3 t1 H fun t4 H =>
 ldK .none H t4 fun t5 H =>
 pO (aw .sl H t5) H fun t6 H =>
 aj t6 (iN 0) H fun t7 H =>
 ab t7 (some ((.bool false), H)) (pFa 3 t1 H fun t8 H =>
 ldK .none H t8 fun t9 H =>
 pFa 3 t1 H fun t10 H =>
 ldK .none H t10 fun t11 H =>
 pO (aw .sl H t11) H fun t12 H =>
 db t12 (iN 1) H fun t13 H =>
 pIa 4 t9 t13 H fun t14 H =>
 ldK (.some 4) H t14 fun t15 H =>
 aB [(.str []), (.str []), (iN 0), .nilsl] H fun t3 H =>
 stK 4 H t3 t15 fun _ H =>
 pFa 0 t3 H fun t16 H =>
 ldK .none H t16 fun t17 H =>
 aj t17 (.str [114, 101, 116, 117, 114, 110]) H fun t19 H =>
 ab t19 (some ((.bool true), H)) (aj t17 (.str [98, 108, 111, 99, 107]) H fun t21 H =>
 ab t21 (ldK (.some 4) H t3 fun t22 H =>
 pC call n80 [t22] H fun t23 H =>
 some (t23, H)) (aj t17 (.str [105, 102]) H fun t25 H =>
 ab t25 (pFa 3 t3 H fun t26 H =>
 ldK .none H t26 fun t27 H =>
 pO (aw .sl H t27) H fun t28 H =>
 aj t28 (iN 3) H fun t29 H =>
 ae t29 true (pFa 3 t3 H fun t31 H =>
 ldK .none H t31 fun t32 H =>
 pIa 4 t32 (iN 2) H fun t33 H =>
 pFa 0 t33 H fun t34 H =>
 ldK .none H t34 fun t35 H =>
 aj t35 (.str [98, 108, 111, 99, 107]) H fun t36 H =>
 Ii call t3 t29 t36 H) (Ii call t3 t29 U H)) (some ((.bool false), H)))))
def S80 : Ff := ⟨fun call l H => az (fun t0 => a2i call t0 H) l⟩
def Ih (_ : aa) (t6 t9 : AV) (H : AHeap) : R :=
 ai t6 t9 (.bool false) H fun t10 H =>
 some (t10, H)
def a2h (call : aa) (t0 : AV) (H : AHeap) : R :=
 ba t0 H fun t1 H =>
 pFa 0 t1 H fun t3 H =>
 ldK .none H t3 fun t4 H =>
 aQ t4 (.str [105, 110, 116]) H fun t5 H =>
 ae t5 true (pFa 0 t1 H fun t7 H =>
 ldK .none H t7 fun t8 H =>
 aQ t8 (.str [98, 111, 111, 108]) H fun t9 H =>
 Ih call t5 t9 H) (Ih call t5 U H)
def S81 : Ff := ⟨fun call l H => az (fun t0 => a2h call t0 H) l⟩
def a2g (_ : aa) (t0 t1 : AV) (H : AHeap) : R :=
 ba t1 H fun t3 H =>
 pO (af t0) H fun t7 H =>
 pFa 4 t7 H fun t8 H =>
 ldK .none H t8 fun t9 H =>
 ldK (.some 5) H t3 fun t10 H =>
 pN (aM 5 1 [(iN 0), (iN 0), (iN 0), (iN 0), (iN 0)] [(0, 5, t10)]) H fun t11 H =>
 pW (bz 5 40 H t9 t11) fun t12 H =>
 pO (af t0) H fun t13 H =>
 pFa 4 t13 H fun t14 H =>
 stK 1 H t14 t12 fun _ H =>
 pO (af t0) H fun t16 H =>
 pFa 4 t16 H fun t17 H =>
 ldK .none H t17 fun t18 H =>
 pO (aw .sl H t18) H fun t19 H =>
 db t19 (iN 1) H fun t20 H =>
 some (t20, H)
def S86 : Ff := ⟨fun call l H => ax (fun t0 t1 => a2g call t0 t1 H) l⟩
def Ig (_ : aa) (t3 t27 t36 : AV) (H : AHeap) : R :=
 ai t27 (.bool true) t36 H fun t37 H =>
 ab t37 (some (.tup [(iN 0), (iN 0)], H)) (pFa 1 t3 H fun t38 H =>
 ldK .none H t38 fun t39 H =>
 pFa 1 t3 H fun t40 H =>
 ldK .none H t40 fun t41 H =>
 pFa 2 t3 H fun t42 H =>
 ldK .none H t42 fun t43 H =>
 ay t41 t43 H fun t44 H =>
 some (.tup [t39, t44], H))
def Ie (call : aa) (t2 t3 t19 t25 : AV) (H : AHeap) : R :=
 ai t19 (.bool true) t25 H fun t26 H =>
 ae t26 false (pFa 2 t3 H fun t28 H =>
 ldK .none H t28 fun t29 H =>
 pFa 3 t2 H fun t30 H =>
 ldK .none H t30 fun t31 H =>
 pO (aw .sl H t31) H fun t32 H =>
 pFa 1 t3 H fun t33 H =>
 ldK .none H t33 fun t34 H =>
 db t32 t34 H fun t35 H =>
 dj t29 t35 H fun t36 H =>
 Ig call t3 t26 t36 H) (Ig call t3 t26 U H)
def Ic (call : aa) (t2 t3 t14 t17 : AV) (H : AHeap) : R :=
 ai t14 (.bool true) t17 H fun t18 H =>
 ae t18 false (pFa 1 t3 H fun t20 H =>
 ldK .none H t20 fun t21 H =>
 pFa 3 t2 H fun t22 H =>
 ldK .none H t22 fun t23 H =>
 pO (aw .sl H t23) H fun t24 H =>
 dj t21 t24 H fun t25 H =>
 Ie call t2 t3 t18 t25 H) (Ie call t2 t3 t18 U H)
def Ib (call : aa) (t2 t3 t9 t12 : AV) (H : AHeap) : R :=
 ai t9 (.bool true) t12 H fun t13 H =>
 ae t13 false (pFa 2 t3 H fun t15 H =>
 ldK .none H t15 fun t16 H =>
 aE t16 (iN 0) H fun t17 H =>
 Ic call t2 t3 t13 t17 H) (Ic call t2 t3 t13 U H)
def a2e (call : aa) (t0 t1 : AV) (H : AHeap) : R :=
 ba t0 H fun t2 H =>
 ba t1 H fun t3 H =>
 pFa 0 t3 H fun t6 H =>
 ldK .none H t6 fun t7 H =>
 aQ t7 (iN 41) H fun t8 H =>
 ae t8 false (pFa 1 t3 H fun t10 H =>
 ldK .none H t10 fun t11 H =>
 aE t11 (iN 0) H fun t12 H =>
 Ib call t2 t3 t8 t12 H) (Ib call t2 t3 t8 U H)
def S91 : Ff := ⟨fun call l H => ax (fun t0 t1 => a2e call t0 t1 H) l⟩
def Ia (_ : aa) (t104 t107 : AV) (H : AHeap) : R :=
 ai t104 t107 (.bool false) H fun t108 H =>
 some (t108, H)
def I9 (call : aa) (t10 t100 t102 : AV) (H : AHeap) : R :=
 ai t100 t102 (.bool false) H fun t103 H =>
 ae t103 true (pFa 2 t10 H fun t105 H =>
 ldK .none H t105 fun t106 H =>
 aj t106 (.int .u64 (.ofNat 0)) H fun t107 H =>
 Ia call t103 t107 H) (Ia call t103 U H)
def I8 (_ : aa) (t89 t96 : AV) (H : AHeap) : R :=
 ai t89 t96 (.bool false) H fun t97 H =>
 some (t97, H)
def I7 (call : aa) (t89 t95 : AV) (H : AHeap) : R :=
 ae t89 true (aj t95 (.int .u64 (.ofNat 0)) H fun t96 H =>
 I8 call t89 t96 H) (I8 call t89 U H)
def I6 (call : aa) (t89 t90 t91 t94 : AV) (H : AHeap) : R :=
 aR (aA (gdB t89 true (ckV (ah .none H t90) t91)) true) (
 ae t89 true (dG t91 t94 H fun t95 H =>
 I7 call t89 t95 H) (I7 call t89 U H))
def I5 (call : aa) (t89 t90 t91 t93 : AV) (H : AHeap) : R :=
 ae t89 true (pC call a7T [t93] H fun t94 H =>
 I6 call t89 t90 t91 t94 H) (I6 call t89 t90 t91 U H)
def I4 (call : aa) (t89 t90 t91 t92 : AV) (H : AHeap) : R :=
 ae t89 true (ldK .none H t92 fun t93 H =>
 I5 call t89 t90 t91 t93 H) (I5 call t89 t90 t91 U H)
def I3 (call : aa) (t7 t89 t90 t91 : AV) (H : AHeap) : R :=
 ae t89 true (pFa 2 t7 H fun t92 H =>
 I4 call t89 t90 t91 t92 H) (I4 call t89 t90 t91 U H)
def I2 (call : aa) (t7 t89 t90 : AV) (H : AHeap) : R :=
 ae t89 true (ldK .none H t90 fun t91 H =>
 I3 call t7 t89 t90 t91 H) (I3 call t7 t89 t90 U H)
def I1 (call : aa) (t7 t10 t85 t87 : AV) (H : AHeap) : R :=
 ai t85 t87 (.bool false) H fun t88 H =>
 ae t88 true (pFa 2 t10 H fun t90 H =>
 I2 call t7 t88 t90 H) (I2 call t7 t88 U H)
def yj (call : aa) (t7 t10 t85 t86 : AV) (H : AHeap) : R :=
 ae t85 true (ldK .none H t86 fun t87 H =>
 I1 call t7 t10 t85 t87 H) (I1 call t7 t10 t85 U H)
def yi (call : aa) (t1 t2 t7 t8 t61 t68 : AV) (H : AHeap) : R :=
 ai t61 t68 (.bool false) H fun t69 H =>
 ab t69 (some ((.bool true), H)) (pIa 1 t1 t2 H fun t72 H =>
 ldK .none H t72 fun t73 H =>
 pFa 1 t7 H fun t75 H =>
 ldK .none H t75 fun t76 H =>
 pFa 3 t7 H fun t79 H =>
 ldK .none H t79 fun t80 H =>
 aB [(.bool false), (.bool false), (.int .u64 (.ofNat 0))] H fun t10 H =>
 aB [(.bool false), (.bool false), (.int .u64 (.ofNat 0))] H fun t11 H =>
 pC call SE [t73, t76] H fun t77 H =>
 aR (aA (ckV (ah .none H t79) t80) true) (
 pC call SE [t73, t80] H fun t81 H =>
 stK 3 H t10 t77 fun _ H =>
 stK 3 H t11 t81 fun _ H =>
 ab t8 (pFa 1 t10 H fun t83 H =>
 ldK .none H t83 fun t84 H =>
 ae t84 true (pFa 0 t11 H fun t86 H =>
 yj call t7 t10 t84 t86 H) (yj call t7 t10 t84 U H)) (pFa 1 t10 H fun t98 H =>
 ldK .none H t98 fun t99 H =>
 ae t99 true (pFa 0 t11 H fun t101 H =>
 ldK .none H t101 fun t102 H =>
 I9 call t10 t99 t102 H) (I9 call t10 t99 U H))))
def yh (call : aa) (t1 t2 t3 t7 t8 t50 t53 : AV) (H : AHeap) : R :=
 ai t50 (.bool true) t53 H fun t54 H =>
 ab t54 (some ((.bool false), H)) (pFa 3 t7 H fun t55 H =>
 ldK .none H t55 fun t56 H =>
 pFa 4 t3 H fun t57 H =>
 ldK .none H t57 fun t58 H =>
 pO (aw .sl H t58) H fun t59 H =>
 aE t56 t59 H fun t60 H =>
 ae t60 true (pFa 4 t3 H fun t62 H =>
 ldK .none H t62 fun t63 H =>
 pFa 3 t7 H fun t64 H =>
 ldK .none H t64 fun t65 H =>
 pIa 1 t63 t65 H fun t66 H =>
 ldK .none H t66 fun t67 H =>
 pO (aUn .not t67) H fun t68 H =>
 yi call t1 t2 t7 t8 t60 t68 H) (yi call t1 t2 t7 t8 t60 U H))
def yg (call : aa) (t1 t2 t3 t7 t8 t45 t48 : AV) (H : AHeap) : R :=
 ai t45 (.bool true) t48 H fun t49 H =>
 ae t49 false (pFa 3 t7 H fun t51 H =>
 ldK .none H t51 fun t52 H =>
 aZ t52 (iN 64) H fun t53 H =>
 yh call t1 t2 t3 t7 t8 t49 t53 H) (yh call t1 t2 t3 t7 t8 t49 U H)
def yf (call : aa) (t1 t2 t3 t7 t8 t40 t43 : AV) (H : AHeap) : R :=
 ai t40 (.bool true) t43 H fun t44 H =>
 ae t44 false (pFa 3 t7 H fun t46 H =>
 ldK .none H t46 fun t47 H =>
 aE t47 (iN 0) H fun t48 H =>
 yg call t1 t2 t3 t7 t8 t44 t48 H) (yg call t1 t2 t3 t7 t8 t44 U H)
def ye (call : aa) (t1 t2 t3 t7 t8 t32 t35 : AV) (H : AHeap) : R :=
 ai t32 t35 (.bool false) H fun t36 H =>
 ab t36 (some ((.bool false), H)) (pFa 1 t7 H fun t37 H =>
 ldK .none H t37 fun t38 H =>
 aE t38 (iN 0) H fun t39 H =>
 ae t39 false (pFa 1 t7 H fun t41 H =>
 ldK .none H t41 fun t42 H =>
 aZ t42 (iN 64) H fun t43 H =>
 yf call t1 t2 t3 t7 t8 t39 t43 H) (yf call t1 t2 t3 t7 t8 t39 U H))
def yd (call : aa) (t1 t2 t3 t7 t8 t27 t30 : AV) (H : AHeap) : R :=
 ai t27 t30 (.bool false) H fun t31 H =>
 ae t31 true (pFa 0 t7 H fun t33 H =>
 ldK .none H t33 fun t34 H =>
 aQ t34 (iN 32) H fun t35 H =>
 ye call t1 t2 t3 t7 t8 t31 t35 H) (ye call t1 t2 t3 t7 t8 t31 U H)
def yc (call : aa) (t1 t2 t3 t7 t20 t23 : AV) (H : AHeap) : R :=
 ai t20 (.bool true) t23 H fun t24 H =>
 pO (aUn .not t24) H fun t26 H =>
 ae t26 true (pFa 0 t7 H fun t28 H =>
 ldK .none H t28 fun t29 H =>
 aQ t29 (iN 31) H fun t30 H =>
 yd call t1 t2 t3 t7 t24 t26 t30 H) (yd call t1 t2 t3 t7 t24 t26 U H)
def Ug (call : aa) (t0 t1 t2 : AV) (H : AHeap) : R :=
 ba t0 H fun t3 H =>
 pFa 5 t3 H fun t12 H =>
 ldK .none H t12 fun t13 H =>
 pIa 5 t13 t2 H fun t15 H =>
 ldK (.some 5) H t15 fun t16 H =>
 aB [(iN 0), (iN 0), (iN 0), (iN 0), (iN 0)] H fun t7 H =>
 stK 5 H t7 t16 fun _ H =>
 pFa 0 t7 H fun t17 H =>
 ldK .none H t17 fun t18 H =>
 aj t18 (iN 28) H fun t19 H =>
 ae t19 false (pFa 0 t7 H fun t21 H =>
 ldK .none H t21 fun t22 H =>
 aj t22 (iN 29) H fun t23 H =>
 yc call t1 t2 t3 t7 t19 t23 H) (yc call t1 t2 t3 t7 t19 U H)
def S95 : Ff := ⟨fun call l H => aY (fun t0 t1 t2 => Ug call t0 t1 t2 H) l⟩
def a2d (_ : aa) (t0 : AV) (H : AHeap) : R :=
 pO (af t0) H fun t4 H =>
 pFa 1 t4 H fun t5 H =>
 ldK .none H t5 fun t6 H =>
 some (t6, H)
def S97 : Ff := ⟨fun call l H => az (fun t0 => a2d call t0 H) l⟩
def a2c (call : aa) (t0 t1 : AV) (H : AHeap) : R :=
 ba t1 H fun t3 H =>
 ldK (.some 3) H t3 fun t8 H =>
 pC call a11 [t8] H fun t9 H =>
 pO (aUn .not t9) H fun t10 H =>
 ab t10 (some (.tup [(iN 0), (iN 1)], H)) (pO (af t0) H fun t13 H =>
 pFa 1 t13 H fun t14 H =>
 ldK .none H t14 fun t15 H =>
 ldK (.some 3) H t3 fun t16 H =>
 pO (gm (.struct [(0, .none, .int), (1, .none, .int), (2, .none, .int)]) (iN 0) true H t15 t16) H fun t17 H =>
 ao t17 0 H fun t18 H =>
 ao t17 1 H fun t19 H =>
 ab t19 (some (.tup [t18, (iN 0)], H)) (pO (af t0) H fun t23 H =>
 pFa 0 t23 H fun t24 H =>
 ldK .none H t24 fun t25 H =>
 pO (aw .sl H t25) H fun t26 H =>
 aj t26 (iN 65536) H fun t27 H =>
 ab t27 (some (.tup [(iN 0), (iN 2)], H)) (pO (af t0) H fun t29 H =>
 pFa 1 t29 H fun t30 H =>
 ldK .none H t30 fun t31 H =>
 ldK (.some 3) H t3 fun t32 H =>
 pO (af t0) H fun t34 H =>
 pFa 0 t34 H fun t35 H =>
 ldK .none H t35 fun t36 H =>
 pO (aw .sl H t36) H fun t37 H =>
 pW (cG (kZ (.struct [(0, .none, .int), (1, .none, .int), (2, .none, .int)]) H t31 t32 t37)) fun _ H =>
 pO (af t0) H fun t40 H =>
 pFa 0 t40 H fun t41 H =>
 ldK .none H t41 fun t42 H =>
 ldK (.some 3) H t3 fun t43 H =>
 pN (aM 3 1 [(iN 0), (iN 0), (.int .u64 (.ofNat 0))] [(0, 3, t43)]) H fun t44 H =>
 pW (bz 3 24 H t42 t44) fun t45 H =>
 pO (af t0) H fun t46 H =>
 pFa 0 t46 H fun t47 H =>
 stK 1 H t47 t45 fun _ H =>
 pO (af t0) H fun t49 H =>
 pFa 0 t49 H fun t50 H =>
 ldK .none H t50 fun t51 H =>
 pO (aw .sl H t51) H fun t52 H =>
 db t52 (iN 1) H fun t53 H =>
 some (.tup [t53, (iN 0)], H))))
def S98 : Ff := ⟨fun call l H => ax (fun t0 t1 => a2c call t0 t1 H) l⟩
def Yt (_ : aa) (t0 : AV) (H : AHeap) : R :=
 pO (aEq false .sl t0 .nilsl) H fun t4 H =>
 ab t4 (some (.nilsl, H)) (pN (aM 1 0 [(iN 0)] []) H fun t5 H =>
 pW (bz 1 8 H t5 t0) fun t7 H =>
 some (t7, H))
def a6r : Ff := ⟨fun call l H => az (fun t0 => Yt call t0 H) l⟩
def Yr (call : aa) (t0 t1 : AV) (H : AHeap) : R :=
 ba t0 H fun t2 H =>
 ba t1 H fun t3 H =>
 ldK .none H t2 fun t5 H =>
 pC call SD [t5] H fun t6 H =>
 pC call LR [t6, (.fn a10 [] [t2, t3])] H fun t8 H =>
 some (t8, H)
def a6q : Ff := ⟨fun call l H => ax (fun t0 t1 => Yr call t0 t1 H) l⟩
def Yq (call : aa) (t0 t1 : AV) (H : AHeap) : R :=
 pO (af t0) H fun t10 H =>
 pFa 4 t10 H fun t11 H =>
 ldK .none H t11 fun t12 H =>
 aj t12 (iN 1) H fun t14 H =>
 ab t14 (pC call SB [t0, t1] H fun t18 H =>
 ao t18 0 H fun t19 H =>
 ao t18 1 H fun t20 H =>
 ab t20 (pC call a0Z [t0, t1, t19] H fun _ H =>
 some ((.bool true), H)) (pO (af t0) H fun t27 H =>
 pFa 4 t27 H fun t28 H =>
 stK 1 H t28 (iN 2) fun _ H =>
 some ((.bool true), H))) (aj t12 (iN 2) H fun t30 H =>
 ab t30 (pO (af t0) H fun t32 H =>
 pFa 3 t32 H fun t33 H =>
 ldK .none H t33 fun t34 H =>
 pC call a0Y [t34] H fun t35 H =>
 ab t35 (some ((.bool true), H)) (pC call SB [t0, t1] H fun t39 H =>
 ao t39 0 H fun _ H =>
 ao t39 1 H fun t41 H =>
 ab t41 (pO (af t0) H fun t44 H =>
 pFa 4 t44 H fun t45 H =>
 stK 1 H t45 (iN 1) fun _ H =>
 some ((.bool true), H)) (pO (af t0) H fun t47 H =>
 pFa 4 t47 H fun t48 H =>
 stK 1 H t48 (iN 3) fun _ H =>
 pO (af t0) H fun t50 H =>
 pFa 2 t50 H fun t51 H =>
 ldK .none H t51 fun t52 H =>
 pC call a0X [t52] H fun _ H =>
 some ((.bool true), H)))) (aj t12 (iN 3) H fun t55 H =>
 ab t55 (pO (af t0) H fun t57 H =>
 pFa 2 t57 H fun t58 H =>
 ldK .none H t58 fun t59 H =>
 pC call a0W [t59] H fun t60 H =>
 pO (aUn .not t60) H fun t61 H =>
 ab t61 (pO (af t0) H fun t63 H =>
 pFa 4 t63 H fun t64 H =>
 stK 1 H t64 (iN 0) fun _ H =>
 pO (af t0) H fun t66 H =>
 pFa 6 t66 H fun t67 H =>
 ldK .none H t67 fun t68 H =>
 ay t68 (iN 1) H fun t69 H =>
 pO (af t0) H fun t70 H =>
 pFa 6 t70 H fun t71 H =>
 stK 1 H t71 t69 fun _ H =>
 pO (af t0) H fun t74 H =>
 pFa 2 t74 H fun t75 H =>
 ldK .none H t75 fun t76 H =>
 pC call a0V [t76] H fun t77 H =>
 pO (eP true t77 (iN 64)) H fun t78 H =>
 pO (af t0) H fun t79 H =>
 pFa 7 t79 H fun t80 H =>
 stK 1 H t80 t78 fun _ H =>
 some ((.bool true), H)) (some ((.bool true), H))) (some ((.bool false), H))))
def a6p : Ff := ⟨fun call l H => ax (fun t0 t1 => Yq call t0 t1 H) l⟩
def Yp (call : aa) (t0 t1 : AV) (H : AHeap) : R :=
 pO (af t0) H fun t6 H =>
 pFa 4 t6 H fun t7 H =>
 ldK .none H t7 fun t8 H =>
 aQ t8 (iN 0) H fun t9 H =>
 ab t9 (some ((.bool false), H)) (pO (af t0) H fun t11 H =>
 pFa 0 t11 H fun t12 H =>
 ldK .none H t12 fun t13 H =>
 pC call a0U [t13] H fun _ H =>
 pO (af t0) H fun t16 H =>
 pFa 4 t16 H fun t17 H =>
 stK 1 H t17 (iN 1) fun _ H =>
 pO (af t0) H fun t19 H =>
 pFa 5 t19 H fun t20 H =>
 ldK .none H t20 fun t21 H =>
 pW (cG (jR H t21)) fun _ H =>
 pI Tryz.prog call t1 "Globals" [] H fun t24 H =>
 pC call Sz [t0, t24] H fun _ H =>
 some ((.bool true), H))
def a6o : Ff := ⟨fun call l H => ax (fun t0 t1 => Yp call t0 t1 H) l⟩
def Yn (call : aa) (t0 t1 : AV) (H : AHeap) : R :=
 pO (af t0) H fun t6 H =>
 pFa 11 t6 H fun t7 H =>
 ldK .none H t7 fun t8 H =>
 aQ t8 (iN 0) H fun t9 H =>
 ab t9 (some (.nilsl, H)) (pO (af t0) H fun t11 H =>
 pFa 7 t11 H fun t12 H =>
 ldK .none H t12 fun t13 H =>
 pO (af t0) H fun t15 H =>
 pFa 6 t15 H fun t16 H =>
 ldK .none H t16 fun t17 H =>
 pC call SC [t13, t17, t1] H fun t19 H =>
 some (t19, H))
def a6m : Ff := ⟨fun call l H => ax (fun t0 t1 => Yn call t0 t1 H) l⟩
def Ym (_ : aa) (t0 t1 : AV) (H : AHeap) : R :=
 pO (af t0) H fun t6 H =>
 pFa 6 t6 H fun t7 H =>
 ldK .none H t7 fun t8 H =>
 pO (gm .int .nilp false H t8 t1) H fun t10 H =>
 some (t10, H)
def a6l : Ff := ⟨fun call l H => ax (fun t0 t1 => Ym call t0 t1 H) l⟩
def CC (_ : aa) (t3 t4 t6 t35 t50 : AV) (H : AHeap) : R :=
 ai t35 (.bool true) t50 H fun t51 H =>
 ab t51 (pO (au (aG [(iN 0), (iN 0), (iN 0), (iN 0), (iN 0)] [])) H fun t52 H =>
 stK 5 H t4 t52 fun _ H =>
 ob (aD (fun o => o) [ah (.some 5) H t4, some (.bool false)]) fun vs => some (aV vs, H)) (pFa 4 t3 H fun t53 H =>
 ldK .none H t53 fun t54 H =>
 pO (af t6) H fun t56 H =>
 pFa 0 t56 H fun t57 H =>
 ldK .none H t57 fun t58 H =>
 pIa 7 t54 t58 H fun t59 H =>
 pFa 5 t59 H fun t60 H =>
 ldK .none H t60 fun t61 H =>
 pO (af t6) H fun t63 H =>
 pFa 1 t63 H fun t64 H =>
 ldK .none H t64 fun t65 H =>
 pIa 5 t61 t65 H fun t66 H =>
 ldK (.some 5) H t66 fun t67 H =>
 stK 5 H t4 t67 fun _ H =>
 ob (aD (fun o => o) [ah (.some 5) H t4, some (.bool true)]) fun vs => some (aV vs, H))
def CB (call : aa) (t3 t4 t6 t35 t39 t49 : AV) (H : AHeap) : R :=
 ae t35 false (aZ t39 t49 H fun t50 H =>
 CC call t3 t4 t6 t35 t50 H) (CC call t3 t4 t6 t35 U H)
def CA (call : aa) (t3 t4 t6 t35 t39 t48 : AV) (H : AHeap) : R :=
 ae t35 false (pO (aw .sl H t48) H fun t49 H =>
 CB call t3 t4 t6 t35 t39 t49 H) (CB call t3 t4 t6 t35 t39 U H)
def Cz (call : aa) (t3 t4 t6 t35 t39 t47 : AV) (H : AHeap) : R :=
 ae t35 false (ldK .none H t47 fun t48 H =>
 CA call t3 t4 t6 t35 t39 t48 H) (CA call t3 t4 t6 t35 t39 U H)
def Cy (call : aa) (t3 t4 t6 t35 t39 t46 : AV) (H : AHeap) : R :=
 ae t35 false (pFa 5 t46 H fun t47 H =>
 Cz call t3 t4 t6 t35 t39 t47 H) (Cz call t3 t4 t6 t35 t39 U H)
def Cx (call : aa) (t3 t4 t6 t35 t39 t41 t45 : AV) (H : AHeap) : R :=
 ae t35 false (pIa 7 t41 t45 H fun t46 H =>
 Cy call t3 t4 t6 t35 t39 t46 H) (Cy call t3 t4 t6 t35 t39 U H)
def Cw (call : aa) (t3 t4 t6 t35 t39 t41 t44 : AV) (H : AHeap) : R :=
 ae t35 false (ldK .none H t44 fun t45 H =>
 Cx call t3 t4 t6 t35 t39 t41 t45 H) (Cx call t3 t4 t6 t35 t39 t41 U H)
def Cv (call : aa) (t3 t4 t6 t35 t39 t41 t43 : AV) (H : AHeap) : R :=
 ae t35 false (pFa 0 t43 H fun t44 H =>
 Cw call t3 t4 t6 t35 t39 t41 t44 H) (Cw call t3 t4 t6 t35 t39 t41 U H)
def Cu (call : aa) (t3 t4 t6 t35 t39 t41 t42 : AV) (H : AHeap) : R :=
 ae t35 false (pO (af t42) H fun t43 H =>
 Cv call t3 t4 t6 t35 t39 t41 t43 H) (Cv call t3 t4 t6 t35 t39 t41 U H)
def Ct (call : aa) (t3 t4 t6 t35 t39 t41 : AV) (H : AHeap) : R :=
 ae t35 false (Cu call t3 t4 t6 t35 t39 t41 t6 H) (Cu call t3 t4 t6 t35 t39 t41 U H)
def tI (call : aa) (t3 t4 t6 t35 t39 t40 : AV) (H : AHeap) : R :=
 ae t35 false (ldK .none H t40 fun t41 H =>
 Ct call t3 t4 t6 t35 t39 t41 H) (Ct call t3 t4 t6 t35 t39 U H)
def tH (call : aa) (t3 t4 t6 t35 t39 : AV) (H : AHeap) : R :=
 ae t35 false (pFa 4 t3 H fun t40 H =>
 tI call t3 t4 t6 t35 t39 t40 H) (tI call t3 t4 t6 t35 t39 U H)
def tG (call : aa) (t3 t4 t6 t35 t38 : AV) (H : AHeap) : R :=
 ae t35 false (ldK .none H t38 fun t39 H =>
 tH call t3 t4 t6 t35 t39 H) (tH call t3 t4 t6 t35 U H)
def tF (call : aa) (t3 t4 t6 t35 t37 : AV) (H : AHeap) : R :=
 ae t35 false (pFa 1 t37 H fun t38 H =>
 tG call t3 t4 t6 t35 t38 H) (tG call t3 t4 t6 t35 U H)
def tD (call : aa) (t3 t4 t6 t35 t36 : AV) (H : AHeap) : R :=
 ae t35 false (pO (af t36) H fun t37 H =>
 tF call t3 t4 t6 t35 t37 H) (tF call t3 t4 t6 t35 U H)
def tC (call : aa) (t3 t4 t6 t28 t33 : AV) (H : AHeap) : R :=
 ai t28 (.bool true) t33 H fun t34 H =>
 ae t34 false (tD call t3 t4 t6 t34 t6 H) (tD call t3 t4 t6 t34 U H)
def tB (call : aa) (t3 t4 t6 t28 t32 : AV) (H : AHeap) : R :=
 ae t28 false (aE t32 (iN 0) H fun t33 H =>
 tC call t3 t4 t6 t28 t33 H) (tC call t3 t4 t6 t28 U H)
def tA (call : aa) (t3 t4 t6 t28 t31 : AV) (H : AHeap) : R :=
 ae t28 false (ldK .none H t31 fun t32 H =>
 tB call t3 t4 t6 t28 t32 H) (tB call t3 t4 t6 t28 U H)
def tz (call : aa) (t3 t4 t6 t28 t30 : AV) (H : AHeap) : R :=
 ae t28 false (pFa 1 t30 H fun t31 H =>
 tA call t3 t4 t6 t28 t31 H) (tA call t3 t4 t6 t28 U H)
def tw (call : aa) (t3 t4 t6 t28 t29 : AV) (H : AHeap) : R :=
 ae t28 false (pO (af t29) H fun t30 H =>
 tz call t3 t4 t6 t28 t30 H) (tz call t3 t4 t6 t28 U H)
def tv (call : aa) (t3 t4 t6 t18 t26 : AV) (H : AHeap) : R :=
 ai t18 (.bool true) t26 H fun t27 H =>
 ae t27 false (tw call t3 t4 t6 t27 t6 H) (tw call t3 t4 t6 t27 U H)
def tt (call : aa) (t3 t4 t6 t18 t22 t25 : AV) (H : AHeap) : R :=
 ae t18 false (aZ t22 t25 H fun t26 H =>
 tv call t3 t4 t6 t18 t26 H) (tv call t3 t4 t6 t18 U H)
def tq (call : aa) (t3 t4 t6 t18 t22 t24 : AV) (H : AHeap) : R :=
 ae t18 false (pO (aw .sl H t24) H fun t25 H =>
 tt call t3 t4 t6 t18 t22 t25 H) (tt call t3 t4 t6 t18 t22 U H)
def tp (call : aa) (t3 t4 t6 t18 t22 t23 : AV) (H : AHeap) : R :=
 ae t18 false (ldK .none H t23 fun t24 H =>
 tq call t3 t4 t6 t18 t22 t24 H) (tq call t3 t4 t6 t18 t22 U H)
def tk (call : aa) (t3 t4 t6 t18 t22 : AV) (H : AHeap) : R :=
 ae t18 false (pFa 4 t3 H fun t23 H =>
 tp call t3 t4 t6 t18 t22 t23 H) (tp call t3 t4 t6 t18 t22 U H)
def tj (call : aa) (t3 t4 t6 t18 t21 : AV) (H : AHeap) : R :=
 ae t18 false (ldK .none H t21 fun t22 H =>
 tk call t3 t4 t6 t18 t22 H) (tk call t3 t4 t6 t18 U H)
def ti (call : aa) (t3 t4 t6 t18 t20 : AV) (H : AHeap) : R :=
 ae t18 false (pFa 0 t20 H fun t21 H =>
 tj call t3 t4 t6 t18 t21 H) (tj call t3 t4 t6 t18 U H)
def th (call : aa) (t3 t4 t6 t18 t19 : AV) (H : AHeap) : R :=
 ae t18 false (pO (af t19) H fun t20 H =>
 ti call t3 t4 t6 t18 t20 H) (ti call t3 t4 t6 t18 U H)
def tg (call : aa) (t3 t4 t6 t11 t16 : AV) (H : AHeap) : R :=
 ai t11 (.bool true) t16 H fun t17 H =>
 ae t17 false (th call t3 t4 t6 t17 t6 H) (th call t3 t4 t6 t17 U H)
def tf (call : aa) (t3 t4 t6 t11 t15 : AV) (H : AHeap) : R :=
 ae t11 false (aE t15 (iN 0) H fun t16 H =>
 tg call t3 t4 t6 t11 t16 H) (tg call t3 t4 t6 t11 U H)
def te (call : aa) (t3 t4 t6 t11 t14 : AV) (H : AHeap) : R :=
 ae t11 false (ldK .none H t14 fun t15 H =>
 tf call t3 t4 t6 t11 t15 H) (tf call t3 t4 t6 t11 U H)
def ta (call : aa) (t3 t4 t6 t11 t13 : AV) (H : AHeap) : R :=
 ae t11 false (pFa 0 t13 H fun t14 H =>
 te call t3 t4 t6 t11 t14 H) (te call t3 t4 t6 t11 U H)
def sZ (call : aa) (t3 t4 t6 t11 t12 : AV) (H : AHeap) : R :=
 ae t11 false (pO (af t12) H fun t13 H =>
 ta call t3 t4 t6 t11 t13 H) (ta call t3 t4 t6 t11 U H)
def Qs (call : aa) (t0 t1 : AV) (H : AHeap) : R :=
 ba t1 H fun t3 H =>
 aB [(iN 0), (iN 0), (iN 0), (iN 0), (iN 0)] H fun t4 H =>
 pC call F6 [t0] H fun t8 H =>
 pO (aEq false .ptr t8 .nilp) H fun t10 H =>
 ae t10 false (sZ call t3 t4 t8 t10 t8 H) (sZ call t3 t4 t8 t10 U H)
def a6k : Ff := ⟨fun call l H => ax (fun t0 t1 => Qs call t0 t1 H) l⟩
def Yl (call : aa) (t0 : AV) (H : AHeap) : R :=
 aB [(iN 0), (iN 0), .nilsl] H fun t2 H =>
 pC call F6 [t0] H fun t6 H =>
 pO (aEq false .ptr t6 .nilp) H fun t8 H =>
 ab t8 (pO (au (aG [(iN 0), (iN 0), .nilsl] [])) H fun t9 H =>
 stK 3 H t2 t9 fun _ H =>
 ob (aD (fun o => o) [ah (.some 3) H t2, some (.bool false)]) fun vs => some (aV vs, H)) (pO (af t6) H fun t11 H =>
 ldK (.some 3) H t11 fun t12 H =>
 pC call a0T [t12] H fun t13 H =>
 stK 3 H t2 t13 fun _ H =>
 ob (aD (fun o => o) [ah (.some 3) H t2, some (.bool true)]) fun vs => some (aV vs, H))
def a6j : Ff := ⟨fun call l H => az (fun t0 => Yl call t0 H) l⟩
def Cr (_ : aa) (t15 t21 : AV) (H : AHeap) : R :=
 ai t15 (.bool true) t21 H fun t22 H =>
 some (t22, H)
def Cq (call : aa) (t15 t18 t20 : AV) (H : AHeap) : R :=
 ae t15 false (ai t18 t20 (.bool false) H fun t21 H =>
 Cr call t15 t21 H) (Cr call t15 U H)
def Cp (call : aa) (t1 t15 t18 : AV) (H : AHeap) : R :=
 ae t18 true (aj t1 (iN 1) H fun t20 H =>
 Cq call t15 t18 t20 H) (Cq call t15 t18 U H)
def Co (call : aa) (t0 t1 t11 t13 : AV) (H : AHeap) : R :=
 ai t11 t13 (.bool false) H fun t14 H =>
 ae t14 false (aj t0 (iN 22) H fun t17 H =>
 Cp call t1 t14 t17 H) (Cp call t1 t14 U H)
def Cn (call : aa) (t0 t1 t7 t9 : AV) (H : AHeap) : R :=
 ai t7 t9 (.bool false) H fun t10 H =>
 ae t10 true (aQ t0 (iN 36) H fun t13 H =>
 Co call t0 t1 t10 t13 H) (Co call t0 t1 t10 U H)
def Yk (call : aa) (t0 t1 : AV) (H : AHeap) : R :=
 aZ t0 (iN 23) H fun t6 H =>
 ae t6 true (dv t0 (iN 42) H fun t9 H =>
 Cn call t0 t1 t6 t9 H) (Cn call t0 t1 t6 U H)
def a6i : Ff := ⟨fun call l H => ax (fun t0 t1 => Yk call t0 t1 H) l⟩
def Yj (_ : aa) (t0 : AV) (H : AHeap) : R :=
 pO (af t0) H fun t4 H =>
 pFa 0 t4 H fun t5 H =>
 ldK .none H t5 fun t6 H =>
 pO (aw .sl H t6) H fun t7 H =>
 some (t7, H)
def a6h : Ff := ⟨fun call l H => az (fun t0 => Yj call t0 H) l⟩
def Cm (call : aa) (t0 : AV) (H : AHeap) : R :=
 pC call xk [t0] H fun _ H =>
 some (.tup [], H)
def Cj (call : aa) (t0 t2 t35 t37 : AV) (H : AHeap) : R :=
 ai t35 (.bool true) t37 H fun t38 H =>
 ab t38 (pC call a0Q [t0] H fun _ H =>
 some (.tup [], H)) (dv t2 (iN 35) H fun t43 H =>
 ab t43 (pC call a0P [t0] H fun _ H =>
 some (.tup [], H)) (aj t2 (iN 42) H fun t48 H =>
 ab t48 (pO (af t0) H fun t50 H =>
 pFa 0 t50 H fun t51 H =>
 ldK .none H t51 fun t52 H =>
 pO (af t52) H fun t53 H =>
 pFa 9 t53 H fun t54 H =>
 ldK .none H t54 fun t55 H =>
 pO (aw .sl H t55) H fun t56 H =>
 aE t56 (iN 65536) H fun t57 H =>
 ab t57 (pO (af t0) H fun t59 H =>
 pFa 0 t59 H fun t60 H =>
 ldK .none H t60 fun t61 H =>
 pO (af t0) H fun t63 H =>
 pFa 0 t63 H fun t64 H =>
 ldK .none H t64 fun t65 H =>
 pO (af t65) H fun t66 H =>
 pFa 9 t66 H fun t67 H =>
 ldK .none H t67 fun t68 H =>
 pO (af t0) H fun t70 H =>
 pFa 2 t70 H fun t71 H =>
 ldK .none H t71 fun t72 H =>
 pO (af t0) H fun t74 H =>
 pFa 3 t74 H fun t75 H =>
 pFa 1 t75 H fun t76 H =>
 ldK .none H t76 fun t77 H =>
 pC call cW [t72, t77] H fun t78 H =>
 aR (aA (ckV (ah .none H t60) t61) (aA (ckV (ah .none H t64) t65) (aA (ckV (ah .none H t67) t68) true))) (
 pN (aM 1 1 [(iN 0)] [(0, 1, t78)]) H fun t79 H =>
 pW (bz 1 8 H t68 t79) fun t80 H =>
 aR (aA (ckV (ah .none H t60) t61) true) (
 pO (af t61) H fun t81 H =>
 pFa 9 t81 H fun t82 H =>
 stK 1 H t82 t80 fun _ H =>
 Cm call t0 H))) (Cm call t0 H)) (aj t2 (iN 44) H fun t87 H =>
 ab t87 (pO (af t0) H fun t89 H =>
 pFa 0 t89 H fun t90 H =>
 ldK .none H t90 fun t91 H =>
 pO (af t0) H fun t93 H =>
 pFa 3 t93 H fun t94 H =>
 pFa 1 t94 H fun t95 H =>
 ldK .none H t95 fun t96 H =>
 pC call px [t91, t96] H fun _ H =>
 some (.tup [], H)) (pC call a0O [t0] H fun _ H =>
 some (.tup [], H)))))
def Ci (call : aa) (t0 t2 t31 t33 : AV) (H : AHeap) : R :=
 ai t31 (.bool true) t33 H fun t34 H =>
 ae t34 false (aj t2 (iN 37) H fun t37 H =>
 Cj call t0 t2 t34 t37 H) (Cj call t0 t2 t34 U H)
def Ch (call : aa) (t0 t2 t27 t29 : AV) (H : AHeap) : R :=
 ai t27 (.bool true) t29 H fun t30 H =>
 ae t30 false (aj t2 (iN 36) H fun t33 H =>
 Ci call t0 t2 t30 t33 H) (Ci call t0 t2 t30 U H)
def Cg (call : aa) (t0 t2 t13 t15 : AV) (H : AHeap) : R :=
 ai t13 (.bool true) t15 H fun t16 H =>
 ab t16 (pC call a0S [t0] H fun _ H =>
 some (.tup [], H)) (dv t2 (iN 24) H fun t21 H =>
 ab t21 (pC call a0R [t0] H fun _ H =>
 some (.tup [], H)) (aj t2 (iN 25) H fun t26 H =>
 ae t26 false (aj t2 (iN 26) H fun t29 H =>
 Ch call t0 t2 t26 t29 H) (Ch call t0 t2 t26 U H)))
def Yi (call : aa) (t0 : AV) (H : AHeap) : R :=
 pO (af t0) H fun t4 H =>
 pFa 3 t4 H fun t5 H =>
 pFa 0 t5 H fun t6 H =>
 ldK .none H t6 fun t7 H =>
 dv t7 (iN 19) H fun t12 H =>
 ae t12 false (aj t7 (iN 43) H fun t15 H =>
 Cg call t0 t7 t12 t15 H) (Cg call t0 t7 t12 U H)
def a6g : Ff := ⟨fun call l H => az (fun t0 => Yi call t0 H) l⟩
def Yg (call : aa) (t0 t1 : AV) (H : AHeap) : R :=
 pC call a0N [t0, t1] H fun t7 H =>
 aZ t7 (iN 0) H fun t8 H =>
 some (t8, H)
def a6f : Ff := ⟨fun call l H => ax (fun t0 t1 => Yg call t0 t1 H) l⟩
def Yf (call : aa) (t0 t1 : AV) (H : AHeap) : R :=
 aj t1 (iN 4) H fun t7 H =>
 ab t7 (pC call a7Q [t0] H fun t9 H =>
 some (t9, H)) (aj t1 (iN 5) H fun t11 H =>
 ab t11 (pC call a7P [t0] H fun t13 H =>
 some (t13, H)) (aj t1 (iN 6) H fun t15 H =>
 ab t15 (pC call a7O [t0] H fun t17 H =>
 some (t17, H)) (aj t1 (iN 7) H fun t19 H =>
 ab t19 (pC call a7N [t0] H fun t21 H =>
 some (t21, H)) (aj t1 (iN 8) H fun t23 H =>
 ab t23 (pC call a7M [t0] H fun t25 H =>
 some (t25, H)) (aj t1 (iN 9) H fun t27 H =>
 ab t27 (pO (af t0) H fun t29 H =>
 pFa 6 t29 H fun t30 H =>
 pFa 6 t30 H fun t31 H =>
 ldK .none H t31 fun t32 H =>
 pO (af t0) H fun t34 H =>
 pFa 16 t34 H fun t35 H =>
 ldK .none H t35 fun t36 H =>
 pIa 1 t32 t36 H fun t37 H =>
 ldK .none H t37 fun t38 H =>
 pO (af t0) H fun t40 H =>
 pFa 13 t40 H fun t41 H =>
 ldK .none H t41 fun t42 H =>
 pO (af t0) H fun t44 H =>
 pFa 16 t44 H fun t45 H =>
 ldK .none H t45 fun t46 H =>
 pIa 1 t42 t46 H fun t47 H =>
 ldK .none H t47 fun t48 H =>
 aj t38 t48 H fun t49 H =>
 some (t49, H)) (pC call a7L [t0] H fun t51 H =>
 some (t51, H)))))))
def a6e : Ff := ⟨fun call l H => ax (fun t0 t1 => Yf call t0 t1 H) l⟩
end
noncomputable section
set_option maxRecDepth 100000
def Ye (call : aa) (t0 t1 : AV) (H : AHeap) : R :=
 pC call Sy [t0, t1] H fun t7 H =>
 some (t7, H)
def a6d : Ff := ⟨fun call l H => ax (fun t0 t1 => Ye call t0 t1 H) l⟩
def Ce (_ : aa) (q0 : AV → AV → AV → AHeap → R) (t0 t1 t5 t10 t15 : AV) (H : AHeap) : R :=
 ai t10 t15 (.bool false) H fun t16 H =>
 ab t16 (ay t5 (iN 1) H fun t18 H =>
 q0 t0 t1 t18 H) (some (t5, H))
def Cf (call : aa) (n : Nat) : AV → AV → AV → AHeap → R :=
 Nat.rec (motive := fun _ => AV → AV → AV → AHeap → R) (fun _ _ _ _ => none) (fun _ q0 t0 t1 t5 H => pO (aw .str H t0) H fun t8 H =>
 aE t5 t8 H fun t9 H =>
 ae t9 true (pO (jQ t0 t5) H fun t14 H =>
 pV call t1 [t14] H fun t15 H =>
 Ce call q0 t0 t1 t5 t9 t15 H) (Ce call q0 t0 t1 t5 t9 U H)) n
def a6c : Ff := ⟨fun call l H => ax (fun t0 t1 => Cf call 1000000 t0 t1 (iN 0) H) l⟩
def Cd (_ : aa) (t17 t19 : AV) (H : AHeap) : R :=
 ai t17 (.bool true) t19 H fun t20 H =>
 some (t20, H)
def Cc (call : aa) (t0 t9 t15 : AV) (H : AHeap) : R :=
 ai t9 (.bool true) t15 H fun t16 H =>
 ae t16 false (aj t0 (.int .u8 (.ofNat 95)) H fun t19 H =>
 Cd call t16 t19 H) (Cd call t16 U H)
def Cb (call : aa) (t0 t9 t12 t14 : AV) (H : AHeap) : R :=
 ae t9 false (ai t12 t14 (.bool false) H fun t15 H =>
 Cc call t0 t9 t15 H) (Cc call t0 t9 U H)
def Ca (call : aa) (t0 t9 t12 : AV) (H : AHeap) : R :=
 ae t12 true (dv t0 (.int .u8 (.ofNat 90)) H fun t14 H =>
 Cb call t0 t9 t12 t14 H) (Cb call t0 t9 t12 U H)
def C9 (call : aa) (t0 t5 t7 : AV) (H : AHeap) : R :=
 ai t5 t7 (.bool false) H fun t8 H =>
 ae t8 false (aZ t0 (.int .u8 (.ofNat 65)) H fun t11 H =>
 Ca call t0 t8 t11 H) (Ca call t0 t8 U H)
def Yd (call : aa) (t0 : AV) (H : AHeap) : R :=
 aZ t0 (.int .u8 (.ofNat 97)) H fun t4 H =>
 ae t4 true (dv t0 (.int .u8 (.ofNat 122)) H fun t7 H =>
 C9 call t0 t4 t7 H) (C9 call t0 t4 U H)
def a6b : Ff := ⟨fun call l H => az (fun t0 => Yd call t0 H) l⟩
def C8 (_ : aa) (t5 t7 : AV) (H : AHeap) : R :=
 ai t5 (.bool true) t7 H fun t8 H =>
 some (t8, H)
def Yc (call : aa) (t0 : AV) (H : AHeap) : R :=
 pC call SH [t0] H fun t4 H =>
 ae t4 false (pC call LS [t0] H fun t7 H =>
 C8 call t4 t7 H) (C8 call t4 U H)
def a6a : Ff := ⟨fun call l H => az (fun t0 => Yc call t0 H) l⟩
def C7 (_ : aa) (t5 t7 : AV) (H : AHeap) : R :=
 ai t5 t7 (.bool false) H fun t8 H =>
 some (t8, H)
def Yb (call : aa) (t0 : AV) (H : AHeap) : R :=
 aZ t0 (.int .u8 (.ofNat 48)) H fun t4 H =>
 ae t4 true (dv t0 (.int .u8 (.ofNat 57)) H fun t7 H =>
 C7 call t4 t7 H) (C7 call t4 U H)
def a69 : Ff := ⟨fun call l H => az (fun t0 => Yb call t0 H) l⟩
def Ya (_ : aa) (H : AHeap) : R :=
 pN (aM 1 30 [(.str [])] [(0, 1, (.str [61, 61])), (1, 1, (.str [33, 61])), (2, 1, (.str [60, 61])), (3, 1, (.str [62, 61])), (4, 1, (.str [60, 60])), (5, 1, (.str [62, 62])), (6, 1, (.str [38, 38])), (7, 1, (.str [124, 124])), (8, 1, (.str [40])), (9, 1, (.str [41])), (10, 1, (.str [123])), (11, 1, (.str [125])), (12, 1, (.str [91])), (13, 1, (.str [93])), (14, 1, (.str [44])), (15, 1, (.str [59])), (16, 1, (.str [46])), (17, 1, (.str [61])), (18, 1, (.str [60])), (19, 1, (.str [62])), (20, 1, (.str [43])), (21, 1, (.str [45])), (22, 1, (.str [42])), (23, 1, (.str [47])), (24, 1, (.str [37])), (25, 1, (.str [38])), (26, 1, (.str [124])), (27, 1, (.str [94])), (28, 1, (.str [33])), (29, 1, (.str [58]))]) H fun t1 H =>
 some (t1, H)
def a68 : Ff := ⟨fun call l H => nT (Ya call H) l⟩
def Y9 (call : aa) (t0 t1 : AV) (H : AHeap) : R :=
 pN (aM 1 1 [(.str [])] [(0, 1, t1)]) H fun t7 H =>
 pC call GZ [t0, t7] H fun t8 H =>
 pO (aUn .not t8) H fun t9 H =>
 ab t9 (some ((.bool false), H)) (pC call GX [t0] H fun _ H =>
 some ((.bool true), H))
def a67 : Ff := ⟨fun call l H => ax (fun t0 t1 => Y9 call t0 t1 H) l⟩
def Y8 (call : aa) (t0 t1 : AV) (H : AHeap) : R :=
 aB [(iN 0), (.str []), (iN 0)] H fun t4 H =>
 pN (aM 1 1 [(.str [])] [(0, 1, t1)]) H fun t7 H =>
 pC call GZ [t0, t7] H fun t8 H =>
 pO (aUn .not t8) H fun t9 H =>
 ab t9 (pC call SG [t0, (iN 6)] H fun _ H =>
 pO (au (aG [(iN 0), (.str []), (iN 0)] [])) H fun t12 H =>
 stK 3 H t4 t12 fun _ H =>
 ob (aD (fun o => o) [ah (.some 3) H t4]) fun vs => some (aV vs, H)) (pC call GX [t0] H fun t14 H =>
 stK 3 H t4 t14 fun _ H =>
 ob (aD (fun o => o) [ah (.some 3) H t4]) fun vs => some (aV vs, H))
def a66 : Ff := ⟨fun call l H => ax (fun t0 t1 => Y8 call t0 t1 H) l⟩
def C6 (_ : aa) (t21 t25 : AV) (H : AHeap) : R :=
 ai t21 t25 (.bool false) H fun t26 H =>
 some (t26, H)
def C5 (call : aa) (t1 t5 t16 t19 : AV) (H : AHeap) : R :=
 ai t16 t19 (.bool false) H fun t20 H =>
 ae t20 true (pFa 1 t5 H fun t23 H =>
 ldK .none H t23 fun t24 H =>
 pC call xj [t1, t24] H fun t25 H =>
 C6 call t20 t25 H) (C6 call t20 U H)
def C4 (call : aa) (t1 t5 t11 t14 : AV) (H : AHeap) : R :=
 ai t11 t14 (.bool false) H fun t15 H =>
 ae t15 true (pFa 0 t5 H fun t17 H =>
 ldK .none H t17 fun t18 H =>
 aQ t18 (iN 0) H fun t19 H =>
 C5 call t1 t5 t15 t19 H) (C5 call t1 t5 t15 U H)
def Y7 (call : aa) (t0 t1 : AV) (H : AHeap) : R :=
 pC call n70 [t0] H fun t7 H =>
 aB [(iN 0), (.str []), (iN 0)] H fun t5 H =>
 stK 3 H t5 t7 fun _ H =>
 pFa 0 t5 H fun t8 H =>
 ldK .none H t8 fun t9 H =>
 aQ t9 (iN 1) H fun t10 H =>
 ae t10 true (pFa 0 t5 H fun t12 H =>
 ldK .none H t12 fun t13 H =>
 aQ t13 (iN 3) H fun t14 H =>
 C4 call t1 t5 t10 t14 H) (C4 call t1 t5 t10 U H)
def a65 : Ff := ⟨fun call l H => ax (fun t0 t1 => Y7 call t0 t1 H) l⟩
def Y6 (call : aa) (t0 t1 : AV) (H : AHeap) : R :=
 pO (af t0) H fun t5 H =>
 pFa 3 t5 H fun t6 H =>
 ldK .none H t6 fun t7 H =>
 aj t7 (iN 0) H fun t8 H =>
 ab t8 (pC call n70 [t0] H fun t13 H =>
 pO (rL 2 .none t13) H fun t14 H =>
 pO (af t0) H fun t15 H =>
 pFa 3 t15 H fun t16 H =>
 stK 1 H t16 t1 fun _ H =>
 pO (af t0) H fun t17 H =>
 pFa 4 t17 H fun t18 H =>
 stK 1 H t18 t14 fun _ H =>
 pO (af t0) H fun t21 H =>
 pFa 0 t21 H fun t22 H =>
 ldK .none H t22 fun t23 H =>
 pO (aw .sl H t23) H fun t24 H =>
 db t24 (iN 1) H fun t25 H =>
 pO (af t0) H fun t26 H =>
 pFa 1 t26 H fun t27 H =>
 stK 1 H t27 t25 fun _ H =>
 some (.tup [], H)) (some (.tup [], H))
def a62 : Ff := ⟨fun call l H => ax (fun t0 t1 => Y6 call t0 t1 H) l⟩
def C3 (_ : aa) (t16 t19 : AV) (H : AHeap) : R :=
 ai t16 (.bool true) t19 H fun t20 H =>
 some (t20, H)
def Y5 (call : aa) (t0 t1 : AV) (H : AHeap) : R :=
 ba t0 H fun t2 H =>
 pC call a0M [t1, (.str [63])] H fun t9 H =>
 ao t9 0 H fun t10 H =>
 ao t9 1 H fun t11 H =>
 ab t11 (pFa 0 t2 H fun t13 H =>
 ldK .none H t13 fun t14 H =>
 aj t14 (.str [110, 111, 110, 101]) H fun t15 H =>
 ae t15 false (ldK (.some 4) H t2 fun t17 H =>
 pC call SF [t17, t10] H fun t19 H =>
 C3 call t15 t19 H) (C3 call t15 U H)) (aj t1 (.str [97, 32, 100, 101, 99, 108, 97, 114, 97, 116, 105, 111, 110]) H fun t23 H =>
 ab t23 (pN (aM 1 3 [(.str [])] [(0, 1, (.str [115, 116, 114, 117, 99, 116])), (1, 1, (.str [103, 108, 111, 98, 97, 108])), (2, 1, (.str [102, 117, 110, 99]))]) H fun t24 H =>
 pFa 0 t2 H fun t25 H =>
 ldK .none H t25 fun t26 H =>
 pC call xj [t24, t26] H fun t27 H =>
 some (t27, H)) (aj t1 (.str [97, 32, 116, 121, 112, 101]) H fun t29 H =>
 ab t29 (pN (aM 1 6 [(.str [])] [(0, 1, (.str [105, 110, 116])), (1, 1, (.str [98, 111, 111, 108])), (2, 1, (.str [110, 97, 109, 101, 100])), (3, 1, (.str [108, 105, 115, 116])), (4, 1, (.str [99, 104, 97, 110])), (5, 1, (.str [102, 110]))]) H fun t30 H =>
 pFa 0 t2 H fun t31 H =>
 ldK .none H t31 fun t32 H =>
 pC call xj [t30, t32] H fun t33 H =>
 some (t33, H)) (aj t1 (.str [97, 32, 115, 116, 97, 116, 101, 109, 101, 110, 116]) H fun t35 H =>
 ab t35 (pN (aM 1 12 [(.str [])] [(0, 1, (.str [98, 108, 111, 99, 107])), (1, 1, (.str [108, 101, 116])), (2, 1, (.str [115, 101, 116])), (3, 1, (.str [105, 102])), (4, 1, (.str [119, 104, 105, 108, 101])), (5, 1, (.str [114, 101, 116, 117, 114, 110])), (6, 1, (.str [112, 114, 105, 110, 116])), (7, 1, (.str [99, 108, 111, 115, 101])), (8, 1, (.str [103, 111])), (9, 1, (.str [115, 101, 110, 100])), (10, 1, (.str [115, 101, 108, 101, 99, 116])), (11, 1, (.str [100, 111]))]) H fun t36 H =>
 pFa 0 t2 H fun t37 H =>
 ldK .none H t37 fun t38 H =>
 pC call xj [t36, t38] H fun t39 H =>
 some (t39, H)) (aj t1 (.str [97, 110, 32, 101, 120, 112, 114, 101, 115, 115, 105, 111, 110]) H fun t41 H =>
 ab t41 (pN (aM 1 15 [(.str [])] [(0, 1, (.str [110, 117, 109, 98, 101, 114])), (1, 1, (.str [116, 114, 117, 101])), (2, 1, (.str [102, 97, 108, 115, 101])), (3, 1, (.str [110, 105, 108])), (4, 1, (.str [110, 97, 109, 101])), (5, 1, (.str [98, 105, 110, 97, 114, 121])), (6, 1, (.str [117, 110, 97, 114, 121])), (7, 1, (.str [99, 97, 108, 108])), (8, 1, (.str [105, 110, 100, 101, 120])), (9, 1, (.str [100, 111, 116])), (10, 1, (.str [110, 101, 119])), (11, 1, (.str [109, 97, 107, 101])), (12, 1, (.str [108, 101, 110])), (13, 1, (.str [114, 101, 99, 118])), (14, 1, (.str [108, 97, 109, 98, 100, 97]))]) H fun t42 H =>
 pFa 0 t2 H fun t43 H =>
 ldK .none H t43 fun t44 H =>
 pC call xj [t42, t44] H fun t45 H =>
 some (t45, H)) (aj t1 (.str [97, 32, 99, 97, 115, 101]) H fun t47 H =>
 ab t47 (pN (aM 1 3 [(.str [])] [(0, 1, (.str [111, 110, 114, 101, 99, 118])), (1, 1, (.str [111, 110, 115, 101, 110, 100])), (2, 1, (.str [100, 101, 102, 97, 117, 108, 116]))]) H fun t48 H =>
 pFa 0 t2 H fun t49 H =>
 ldK .none H t49 fun t50 H =>
 pC call xj [t48, t50] H fun t51 H =>
 some (t51, H)) (pFa 0 t2 H fun t52 H =>
 ldK .none H t52 fun t53 H =>
 aj t53 t1 H fun t55 H =>
 some (t55, H)))))))
def a61 : Ff := ⟨fun call l H => ax (fun t0 t1 => Y5 call t0 t1 H) l⟩
def Y1 (_ : aa) (t0 : AV) (H : AHeap) : R :=
 pO (aEq false .sl t0 .nilsl) H fun t4 H =>
 ab t4 (some (.nilsl, H)) (pN (aM 3 0 [(.bool false), (.bool false), (.int .u64 (.ofNat 0))] []) H fun t5 H =>
 pW (bz 3 16 H t5 t0) fun t7 H =>
 some (t7, H))
def a5Z : Ff := ⟨fun call l H => az (fun t0 => Y1 call t0 H) l⟩
def C2 (_ : aa) (q0 : AV → AV → AV → AV → AHeap → R) (t0 t6 t7 t8 : AV) (H : AHeap) : R :=
 ay t8 (iN 1) H fun t24 H =>
 q0 t0 t6 t7 t24 H
def C1 (call : aa) (q0 : AV → AV → AV → AV → AHeap → R) (t0 t5 t6 t7 t8 t14 t18 : AV) (H : AHeap) : R :=
 ai t14 t18 (.bool false) H fun t19 H =>
 ab t19 (pIa 3 t0 t5 H fun t22 H =>
 pFa 1 t22 H fun t23 H =>
 stK 1 H t23 (.bool false) fun _ H =>
 C2 call q0 t0 t6 t7 t8 H) (C2 call q0 t0 t6 t7 t8 H)
def sY (call : aa) (n : Nat) : AV → AV → AV → AV → AHeap → R :=
 Nat.rec (motive := fun _ => AV → AV → AV → AV → AHeap → R) (fun _ _ _ _ _ => none) (fun _ q0 t0 t6 t7 t8 H => aE t8 t7 H fun t9 H =>
 ab t9 (pIa 1 t6 t8 H fun t10 H =>
 ldK .none H t10 fun t11 H =>
 aZ t11 (iN 0) H fun t13 H =>
 ae t13 true (pO (aw .sl H t0) H fun t17 H =>
 aE t11 t17 H fun t18 H =>
 C1 call q0 t0 t11 t6 t7 t8 t13 t18 H) (C1 call q0 t0 t11 t6 t7 t8 t13 U H)) (some (.tup [], H))) n
def XZ (call : aa) (t0 t1 : AV) (H : AHeap) : R :=
 pO (aw .sl H t1) H fun t7 H =>
 sY call 1000000 t0 t1 t7 (iN 0) H
def a5Y : Ff := ⟨fun call l H => ax (fun t0 t1 => XZ call t0 t1 H) l⟩
def l5 (call : aa) (t4 t7 : AV) (H : AHeap) : R :=
 pC call LR [t7, (.fn a0H [] [t4])] H fun t63 H =>
 pC call a0G [t63] H fun _ H =>
 pC call a0F [t63] H fun t67 H =>
 some (t67, H)
def JB (call : aa) (n : Nat) : AV → AV → AV → AV → AV → AHeap → R :=
 Nat.rec (motive := fun _ => AV → AV → AV → AV → AV → AHeap → R) (fun _ _ _ _ _ _ => none) (fun _ q0 t4 t7 t49 t50 t51 H => aE t51 t50 H fun t52 H =>
 ab t52 (pIa 4 t49 t51 H fun t53 H =>
 ldK (.some 4) H t53 fun t54 H =>
 aB [(iN 0), (iN 0), (iN 0), (iN 0)] H fun t10 H =>
 stK 4 H t10 t54 fun _ H =>
 pFa 3 t10 H fun t56 H =>
 ldK .none H t56 fun t57 H =>
 pN (aM 1 1 [(iN 0)] [(0, 1, t57)]) H fun t58 H =>
 pW (bz 1 8 H t7 t58) fun t59 H =>
 ay t51 (iN 1) H fun t60 H =>
 q0 t4 t59 t49 t50 t60 H) (l5 call t4 t7 H)) n
def C0 (call : aa) (t2 t3 t4 t7 t8 t26 t42 : AV) (H : AHeap) : R :=
 ab t42 (l5 call t4 t7 H) (aj t26 (iN 41) H fun t46 H =>
 ab t46 (ldK (.some 6) H t3 fun t47 H =>
 ldK (.some 5) H t8 fun t48 H =>
 pC call a0K [t47, t48] H fun t49 H =>
 pO (aw .sl H t49) H fun t50 H =>
 JB call 1000000 t4 t7 t49 t50 (iN 0) H) (ay t2 (iN 1) H fun t28 H =>
 pN (aM 1 1 [(iN 0)] [(0, 1, t28)]) H fun t29 H =>
 l5 call t4 t29 H))
def BZ (call : aa) (t2 t3 t4 t13 t18 : AV) (H : AHeap) : R :=
 ai t13 (.bool true) t18 H fun t19 H =>
 ab t19 (some (.nilsl, H)) (pFa 5 t4 H fun t20 H =>
 ldK .none H t20 fun t21 H =>
 pIa 5 t21 t2 H fun t23 H =>
 ldK (.some 5) H t23 fun t24 H =>
 aB [(iN 0), (iN 0), (iN 0), (iN 0), (iN 0)] H fun t8 H =>
 stK 5 H t8 t24 fun _ H =>
 pFa 0 t8 H fun t25 H =>
 ldK .none H t25 fun t26 H =>
 aj t26 (iN 18) H fun t31 H =>
 ab t31 (pFa 1 t8 H fun t32 H =>
 ldK .none H t32 fun t33 H =>
 pN (aM 1 1 [(iN 0)] [(0, 1, t33)]) H fun t34 H =>
 l5 call t4 t34 H) (aj t26 (iN 19) H fun t36 H =>
 ab t36 (pFa 2 t8 H fun t37 H =>
 ldK .none H t37 fun t38 H =>
 ay t2 (iN 1) H fun t40 H =>
 pN (aM 1 2 [(iN 0)] [(0, 1, t38), (1, 1, t40)]) H fun t41 H =>
 l5 call t4 t41 H) (aj t26 (iN 22) H fun t43 H =>
 ab t43 (C0 call t2 t3 t4 .nilsl t8 t26 t43 H) (aj t26 (iN 44) H fun t44 H =>
 C0 call t2 t3 t4 .nilsl t8 t26 t44 H))))
def XX (call : aa) (t0 t1 t2 : AV) (H : AHeap) : R :=
 ba t0 H fun t3 H =>
 ba t1 H fun t4 H =>
 aE t2 (iN 0) H fun t12 H =>
 ae t12 false (pFa 5 t4 H fun t15 H =>
 ldK .none H t15 fun t16 H =>
 pO (aw .sl H t16) H fun t17 H =>
 aZ t2 t17 H fun t18 H =>
 BZ call t2 t3 t4 t12 t18 H) (BZ call t2 t3 t4 t12 U H)
def a5X : Ff := ⟨fun call l H => aY (fun t0 t1 t2 => XX call t0 t1 t2 H) l⟩
def JA (_ : aa) (n : Nat) : AV → AV → AV → AV → AHeap → R :=
 Nat.rec (motive := fun _ => AV → AV → AV → AV → AHeap → R) (fun _ _ _ _ _ => none) (fun _ q0 t0 t1 t12 t13 H => aE t13 t12 H fun t14 H =>
 ab t14 (pIa 3 t0 t13 H fun t18 H =>
 ldK (.some 3) H t18 fun t19 H =>
 pIa 3 t1 t13 H fun t22 H =>
 ldK (.some 3) H t22 fun t23 H =>
 pO (aEq true (.struct [(0, .none, .bool), (1, .none, .bool), (2, .none, .int)]) t19 t23) H fun t24 H =>
 ab t24 (some ((.bool false), H)) (ay t13 (iN 1) H fun t25 H =>
 q0 t0 t1 t12 t25 H)) (some ((.bool true), H))) n
def XW (call : aa) (t0 t1 : AV) (H : AHeap) : R :=
 pO (aw .sl H t0) H fun t7 H =>
 pO (aw .sl H t1) H fun t9 H =>
 aQ t7 t9 H fun t10 H =>
 ab t10 (some ((.bool false), H)) (pO (aw .sl H t0) H fun t12 H =>
 JA call 1000000 t0 t1 t12 (iN 0) H)
def a5W : Ff := ⟨fun call l H => ax (fun t0 t1 => XW call t0 t1 H) l⟩
def BY (_ : aa) (t0 t1 t4 t7 t11 : AV) (H : AHeap) : R :=
 ai t7 (.bool true) t11 H fun t12 H =>
 ab t12 (pO (au (aG [(.bool false), (.bool false), (.int .u64 (.ofNat 0))] [])) H fun t13 H =>
 stK 3 H t4 t13 fun _ H =>
 ob (aD (fun o => o) [ah (.some 3) H t4]) fun vs => some (aV vs, H)) (pIa 3 t0 t1 H fun t16 H =>
 ldK (.some 3) H t16 fun t17 H =>
 stK 3 H t4 t17 fun _ H =>
 ob (aD (fun o => o) [ah (.some 3) H t4]) fun vs => some (aV vs, H))
def XV (call : aa) (t0 t1 : AV) (H : AHeap) : R :=
 aB [(.bool false), (.bool false), (.int .u64 (.ofNat 0))] H fun t4 H =>
 aE t1 (iN 0) H fun t6 H =>
 ae t6 false (pO (aw .sl H t0) H fun t10 H =>
 aZ t1 t10 H fun t11 H =>
 BY call t0 t1 t4 t6 t11 H) (BY call t0 t1 t4 t6 U H)
def a5V : Ff := ⟨fun call l H => ax (fun t0 t1 => XV call t0 t1 H) l⟩
def BX (_ : aa) (t16 t23 : AV) (H : AHeap) : R :=
 ai t16 t23 (.bool false) H fun t24 H =>
 some (t24, H)
def BW (call : aa) (t1 t11 t14 : AV) (H : AHeap) : R :=
 ai t11 t14 (.bool false) H fun t15 H =>
 ae t15 true (pFa 2 t1 H fun t17 H =>
 ldK .none H t17 fun t18 H =>
 pFa 1 t1 H fun t19 H =>
 ldK .none H t19 fun t20 H =>
 aU .u64 t20 H fun t21 H =>
 pO (aW .shr t18 t21) H fun t22 H =>
 aj t22 (.int .u64 (.ofNat 0)) H fun t23 H =>
 BX call t15 t23 H) (BX call t15 U H)
def BV (_ : aa) (t31 t34 : AV) (H : AHeap) : R :=
 ai t31 t34 (.bool false) H fun t35 H =>
 some (t35, H)
def BU (call : aa) (t1 t25 : AV) (H : AHeap) : R :=
 ab t25 (pFa 1 t1 H fun t28 H =>
 ldK .none H t28 fun t29 H =>
 aj t29 (iN 0) H fun t30 H =>
 ae t30 true (pFa 2 t1 H fun t32 H =>
 ldK .none H t32 fun t33 H =>
 dv t33 (.int .u64 (.ofNat 1)) H fun t34 H =>
 BV call t30 t34 H) (BV call t30 U H)) (some ((.bool false), H))
def BS (call : aa) (t1 t4 t5 : AV) (H : AHeap) : R :=
 ab t5 (pFa 1 t1 H fun t8 H =>
 ldK .none H t8 fun t9 H =>
 aZ t9 (iN 0) H fun t10 H =>
 ae t10 true (pFa 1 t1 H fun t12 H =>
 ldK .none H t12 fun t13 H =>
 dv t13 (iN 63) H fun t14 H =>
 BW call t1 t10 t14 H) (BW call t1 t10 U H)) (aj t4 (iN 1) H fun t26 H =>
 ab t26 (BU call t1 t26 H) (aj t4 (iN 3) H fun t27 H =>
 BU call t1 t27 H))
def XU (call : aa) (t0 : AV) (H : AHeap) : R :=
 ba t0 H fun t1 H =>
 pFa 0 t1 H fun t3 H =>
 ldK .none H t3 fun t4 H =>
 aj t4 (iN 0) H fun t6 H =>
 ab t6 (BS call t1 t4 t6 H) (aj t4 (iN 2) H fun t7 H =>
 BS call t1 t4 t7 H)
def a5U : Ff := ⟨fun call l H => az (fun t0 => XU call t0 H) l⟩
def Jz (_ : aa) (t0 t5 : AV) (H : AHeap) : R :=
 pO (bT 1 H t0 (.some t5) .none .none) H fun t38 H =>
 pW (cG (fU [(iN 0)] H t38)) fun _ H =>
 pO (bT 1 H t0 .none (.some t5) .none) H fun t41 H =>
 some (t41, H)
def BQ (_ : aa) (q0 : AV → AV → AV → AV → AHeap → R) (t0 t1 t5 t6 : AV) (H : AHeap) : R :=
 ay t6 (iN 1) H fun t21 H =>
 q0 t0 t1 t5 t21 H
def BR (call : aa) (n : Nat) : AV → AV → AV → AV → AHeap → R :=
 Nat.rec (motive := fun _ => AV → AV → AV → AV → AHeap → R) (fun _ _ _ _ _ => none) (fun _ q0 t0 t1 t5 t6 H => pO (aw .sl H t0) H fun t18 H =>
 aE t6 t18 H fun t19 H =>
 ab t19 (pIa 1 t0 t6 H fun t24 H =>
 ldK .none H t24 fun t25 H =>
 pV call t1 [t25] H fun t28 H =>
 pO (aUn .not t28) H fun t29 H =>
 ab t29 (pIa 1 t0 t5 H fun t33 H =>
 stK 1 H t33 t25 fun _ H =>
 ay t5 (iN 1) H fun t35 H =>
 BQ call q0 t0 t1 t35 t6 H) (BQ call q0 t0 t1 t5 t6 H)) (Jz call t0 t5 H)) n
def XT (call : aa) (t0 t1 : AV) (H : AHeap) : R :=
 pC call Sw [t0, t1] H fun t10 H =>
 aj t10 (.int .i64 (.negSucc 0)) H fun t12 H =>
 ab t12 (some (t0, H)) (ay t10 (iN 1) H fun t15 H =>
 BR call 1000000 t0 t1 t10 t15 H)
def a5T : Ff := ⟨fun call l H => ax (fun t0 t1 => XT call t0 t1 H) l⟩
def XS (call : aa) (t0 : AV) (H : AHeap) : R :=
 pO (af t0) H fun t4 H =>
 pFa 6 t4 H fun t5 H =>
 ldK .none H t5 fun t6 H =>
 pC call a0E [t6] H fun t7 H =>
 pC call F4 [t7] H fun t8 H =>
 some (t8, H)
def a5S : Ff := ⟨fun call l H => az (fun t0 => XS call t0 H) l⟩
def XR (call : aa) (t0 t1 t2 : AV) (H : AHeap) : R :=
 ldK .none H t1 fun t5 H =>
 ldK .none H t2 fun t6 H =>
 pC call SC [t5, t6, t0] H fun t8 H =>
 pO (aw .sl H t8) H fun t9 H =>
 aj t9 (iN 0) H fun t10 H =>
 some (t10, H)
def a5R : Ff := ⟨fun call l H => aY (fun t0 t1 t2 => XR call t0 t1 t2 H) l⟩
def BP (_ : aa) (t11 t12 t74 t76 : AV) (H : AHeap) : R :=
 ai t74 t76 (.bool false) H fun t77 H =>
 ab t77 (pO (au (aG [(iN 0), (iN 0), (iN 0)] [(0, 1, t11), (1, 1, (iN 0)), (2, 1, (.int .i64 (.negSucc 0)))])) H fun t79 H =>
 pN (aM 3 1 [(iN 0), (iN 0), (iN 0)] [(0, 3, t79)]) H fun t80 H =>
 some (t80, H)) (some (t12, H))
def Jy (call : aa) (t11 t12 : AV) (H : AHeap) : R :=
 pO (aw .sl H t12) H fun t72 H =>
 aj t72 (iN 0) H fun t73 H =>
 ae t73 true (aQ t11 (.int .i64 (.negSucc 0)) H fun t76 H =>
 BP call t11 t12 t73 t76 H) (BP call t11 t12 t73 U H)
def Jw (call : aa) (n : Nat) : AV → AV → AV → AV → AV → AV → AV → AV → AHeap → R :=
 Nat.rec (motive := fun _ => AV → AV → AV → AV → AV → AV → AV → AV → AHeap → R) (fun _ _ _ _ _ _ _ _ _ => none) (fun _ q0 t0 t1 t2 t11 t12 t57 t58 t59 H => aE t59 t58 H fun t60 H =>
 ab t60 (pIa 4 t57 t59 H fun t61 H =>
 ldK (.some 4) H t61 fun t62 H =>
 aB [(iN 0), (.bool false), (iN 0), (.bool false)] H fun t14 H =>
 stK 4 H t14 t62 fun _ H =>
 ldK (.some 4) H t14 fun t67 H =>
 pC call a0C [t0, t1, t2, t67] H fun t68 H =>
 pW (bz 3 24 H t12 t68) fun t69 H =>
 ay t59 (iN 1) H fun t70 H =>
 q0 t0 t1 t2 t11 t69 t57 t58 t70 H) (Jy call t11 t12 H)) n
def BO (call : aa) (t0 t1 t2 t7 t8 t42 t45 : AV) (H : AHeap) : R :=
 ai t42 t45 (.bool false) H fun t46 H =>
 ab t46 (pO (au (aG [(iN 0), (iN 0), (iN 0)] [(0, 1, (.int .i64 (.negSucc 0))), (1, 1, (iN 0)), (2, 1, (.int .i64 (.negSucc 0)))])) H fun t47 H =>
 pN (aM 3 1 [(iN 0), (iN 0), (iN 0)] [(0, 3, t47)]) H fun t48 H =>
 some (t48, H)) (ldK (.some 5) H t8 fun t53 H =>
 pC call a0D [t0, t1, t7, t53] H fun t54 H =>
 ao t54 0 H fun t55 H =>
 ao t54 1 H fun t56 H =>
 pO (aw .sl H t55) H fun t58 H =>
 Jw call 1000000 t0 t1 t2 t56 .nilsl t55 t58 (iN 0) H)
def BN (call : aa) (t0 t1 t2 t7 t8 t37 t40 : AV) (H : AHeap) : R :=
 ai t37 t40 (.bool false) H fun t41 H =>
 ae t41 true (pFa 0 t8 H fun t43 H =>
 ldK .none H t43 fun t44 H =>
 aQ t44 (iN 41) H fun t45 H =>
 BO call t0 t1 t2 t7 t8 t41 t45 H) (BO call t0 t1 t2 t7 t8 t41 U H)
def XQ (call : aa) (t0 t1 t2 : AV) (H : AHeap) : R :=
 pO (af t0) H fun t16 H =>
 pFa 6 t16 H fun t17 H =>
 ldK .none H t17 fun t18 H =>
 pO (gm .int .nilp false H t18 t2) H fun t20 H =>
 pO (aEq false .ptr t20 .nilp) H fun t22 H =>
 ab t22 (some (.nilsl, H)) (pO (af t0) H fun t26 H =>
 pFa 0 t26 H fun t27 H =>
 ldK (.some 6) H t27 fun t28 H =>
 pC call H5 [t20, t28] H fun t29 H =>
 ao t29 0 H fun t30 H =>
 ao t29 1 H fun t31 H =>
 aB [(iN 0), (iN 0), (iN 0), (iN 0), (iN 0)] H fun t8 H =>
 stK 5 H t8 t30 fun _ H =>
 pO (aUn .not t31) H fun t33 H =>
 ab t33 (some (.nilsl, H)) (pFa 0 t8 H fun t34 H =>
 ldK .none H t34 fun t35 H =>
 aQ t35 (iN 38) H fun t36 H =>
 ae t36 true (pFa 0 t8 H fun t38 H =>
 ldK .none H t38 fun t39 H =>
 aQ t39 (iN 39) H fun t40 H =>
 BN call t0 t1 t2 t20 t8 t36 t40 H) (BN call t0 t1 t2 t20 t8 t36 U H)))
def a5Q : Ff := ⟨fun call l H => aY (fun t0 t1 t2 => XQ call t0 t1 t2 H) l⟩
def XP (call : aa) (t0 t1 : AV) (H : AHeap) : R :=
 pI Tryz.prog call t1 "Stacks" [] H fun t8 H =>
 pC call a0B [t8] H fun t9 H =>
 pC call LR [t9, (.fn a0A [t0] [])] H fun t12 H =>
 pO (aw .sl H t12) H fun t14 H =>
 aj t14 (iN 0) H fun t15 H =>
 ab t15 (some (.tup [(iN 0), (.bool false)], H)) (pC call a0z [t12] H fun t17 H =>
 some (.tup [t17, (.bool true)], H))
def a5P : Ff := ⟨fun call l H => ax (fun t0 t1 => XP call t0 t1 H) l⟩
def BM (call : aa) (t0 t1 t2 t18 t23 : AV) (H : AHeap) : R :=
 ai t18 (.bool true) t23 H fun t24 H =>
 ab t24 (some ((.bool false), H)) (pI Tryz.prog call t1 "Stack" [t2] H fun t28 H =>
 pC call Sz [t0, t28] H fun _ H =>
 pO (af t0) H fun t31 H =>
 pFa 5 t31 H fun t32 H =>
 ldK .none H t32 fun t33 H =>
 pW (cG (kZ .int H t33 t2 (.bool true))) fun _ H =>
 some ((.bool true), H))
def BL (call : aa) (t0 t1 t2 t10 t16 : AV) (H : AHeap) : R :=
 ai t10 (.bool true) t16 H fun t17 H =>
 ae t17 false (pI Tryz.prog call t1 "Stacks" [] H fun t20 H =>
 pC call a16 [t20, t2] H fun t22 H =>
 pO (aUn .not t22) H fun t23 H =>
 BM call t0 t1 t2 t17 t23 H) (BM call t0 t1 t2 t17 U H)
def XO (call : aa) (t0 t1 t2 : AV) (H : AHeap) : R :=
 pC call Sv [t0] H fun t8 H =>
 pO (aUn .not t8) H fun t9 H =>
 ae t9 false (pO (af t0) H fun t12 H =>
 pFa 5 t12 H fun t13 H =>
 ldK .none H t13 fun t14 H =>
 pO (gm .int (.bool false) false H t14 t2) H fun t16 H =>
 BL call t0 t1 t2 t9 t16 H) (BL call t0 t1 t2 t9 U H)
def a5O : Ff := ⟨fun call l H => aY (fun t0 t1 t2 => XO call t0 t1 t2 H) l⟩
def Jv (call : aa) (n : Nat) : AV → AV → AV → AV → AHeap → R :=
 Nat.rec (motive := fun _ => AV → AV → AV → AV → AHeap → R) (fun _ _ _ _ _ => none) (fun _ q0 t0 t19 t20 t21 H => aE t21 t20 H fun t22 H =>
 ab t22 (pIa 1 t19 t21 H fun t23 H =>
 ldK .none H t23 fun t24 H =>
 pC call Su [t0, t24] H fun _ H =>
 ay t21 (iN 1) H fun t28 H =>
 q0 t0 t19 t20 t28 H) (some ((.bool true), H))) n
def XN (call : aa) (t0 : AV) (H : AHeap) : R :=
 pO (af t0) H fun t9 H =>
 pFa 2 t9 H fun t10 H =>
 ldK .none H t10 fun t11 H =>
 pC call a0y [t11] H fun t12 H =>
 ao t12 0 H fun t13 H =>
 ao t12 1 H fun t14 H =>
 pO (aUn .not t14) H fun t16 H =>
 ab t16 (some ((.bool false), H)) (pC call a0x [t0, t13] H fun t19 H =>
 pO (aw .sl H t19) H fun t20 H =>
 Jv call 1000000 t0 t19 t20 (iN 0) H)
def a5N : Ff := ⟨fun call l H => az (fun t0 => XN call t0 H) l⟩
def Ju (call : aa) (n : Nat) : AV → AV → AV → AHeap → R :=
 Nat.rec (motive := fun _ => AV → AV → AV → AHeap → R) (fun _ _ _ _ => none) (fun _ q0 t0 t7 t8 H => aE t8 t7 H fun t9 H =>
 ab t9 (pO (af t0) H fun t12 H =>
 pFa 1 t12 H fun t13 H =>
 ldK .none H t13 fun t14 H =>
 pO (af t0) H fun t17 H =>
 pFa 0 t17 H fun t18 H =>
 ldK .none H t18 fun t19 H =>
 pC call lK [t19, t8] H fun t21 H =>
 aR (aA (ckV (ah .none H t13) t14) true) (
 aQ t21 (.int .i64 (.negSucc 0)) H fun t22 H =>
 pIa 1 t14 t8 H fun t23 H =>
 stK 1 H t23 t22 fun _ H =>
 ay t8 (iN 1) H fun t24 H =>
 q0 t0 t7 t24 H)) (some (.tup [], H))) n
def XM (call : aa) (t0 : AV) (H : AHeap) : R :=
 pO (af t0) H fun t4 H =>
 pFa 1 t4 H fun t5 H =>
 ldK .none H t5 fun t6 H =>
 pO (aw .sl H t6) H fun t7 H =>
 Ju call 1000000 t0 t7 (iN 0) H
def a5M : Ff := ⟨fun call l H => az (fun t0 => XM call t0 H) l⟩
def Jt (call : aa) (n : Nat) : AV → AV → AV → AV → AHeap → R :=
 Nat.rec (motive := fun _ => AV → AV → AV → AV → AHeap → R) (fun _ _ _ _ _ => none) (fun _ q0 t0 t8 t9 t10 H => aE t10 t9 H fun t11 H =>
 ab t11 (pIa 1 t8 t10 H fun t13 H =>
 ldK .none H t13 fun t14 H =>
 ab t14 (pC call LP [t0, t10] H fun _ H =>
 some ((.bool true), H)) (ay t10 (iN 1) H fun t19 H =>
 q0 t0 t8 t9 t19 H)) (some ((.bool false), H))) n
def XL (call : aa) (t0 : AV) (H : AHeap) : R :=
 pO (af t0) H fun t6 H =>
 pFa 1 t6 H fun t7 H =>
 ldK .none H t7 fun t8 H =>
 pO (aw .sl H t8) H fun t9 H =>
 Jt call 1000000 t0 t8 t9 (iN 0) H
def a5L : Ff := ⟨fun call l H => az (fun t0 => XL call t0 H) l⟩
def Js (call : aa) (n : Nat) : AV → AV → AV → AV → AHeap → R :=
 Nat.rec (motive := fun _ => AV → AV → AV → AV → AHeap → R) (fun _ _ _ _ _ => none) (fun _ q0 t0 t3 t9 t10 H => aE t10 t9 H fun t11 H =>
 ab t11 (pO (af t0) H fun t15 H =>
 pFa 0 t15 H fun t16 H =>
 ldK .none H t16 fun t17 H =>
 pO (af t0) H fun t22 H =>
 pFa 0 t22 H fun t23 H =>
 ldK .none H t23 fun t24 H =>
 pC call Ss [t17, t10] H fun t19 H =>
 aR (aA (ckV (ah .none H t23) t24) true) (
 pC call St [t19] H fun t20 H =>
 aR (aA (ckV (ah .none H t23) t24) true) (
 pC call lK [t24, t10] H fun t26 H =>
 pC call kJ [t26] H fun t27 H =>
 kC t20 t27 H fun t28 H =>
 ay t3 t28 H fun t29 H =>
 ay t10 (iN 1) H fun t30 H =>
 q0 t0 t29 t9 t30 H))) (some (t3, H))) n
def XJ (call : aa) (t0 : AV) (H : AHeap) : R :=
 pO (af t0) H fun t6 H =>
 pFa 1 t6 H fun t7 H =>
 ldK .none H t7 fun t8 H =>
 pO (aw .sl H t8) H fun t9 H =>
 Js call 1000000 t0 (iN 0) t9 (iN 0) H
def a5J : Ff := ⟨fun call l H => az (fun t0 => XJ call t0 H) l⟩
def Jr (_ : aa) (n : Nat) : AV → AV → AV → AHeap → R :=
 Nat.rec (motive := fun _ => AV → AV → AV → AHeap → R) (fun _ _ _ _ => none) (fun _ q0 t0 t7 t8 H => aE t8 t7 H fun t9 H =>
 ab t9 (pO (af t0) H fun t12 H =>
 pFa 1 t12 H fun t13 H =>
 ldK .none H t13 fun t14 H =>
 pIa 3 t14 t8 H fun t16 H =>
 pFa 2 t16 H fun t17 H =>
 stK 1 H t17 (.int .u64 (.ofNat 0)) fun _ H =>
 ay t8 (iN 1) H fun t18 H =>
 q0 t0 t7 t18 H) (some (.tup [], H))) n
def XI (call : aa) (t0 : AV) (H : AHeap) : R :=
 pO (af t0) H fun t4 H =>
 pFa 1 t4 H fun t5 H =>
 ldK .none H t5 fun t6 H =>
 pO (aw .sl H t6) H fun t7 H =>
 Jr call 1000000 t0 t7 (iN 0) H
def a5I : Ff := ⟨fun call l H => az (fun t0 => XI call t0 H) l⟩
def Jq (call : aa) (n : Nat) : AV → AV → AV → AV → AHeap → R :=
 Nat.rec (motive := fun _ => AV → AV → AV → AV → AHeap → R) (fun _ _ _ _ _ => none) (fun _ q0 t0 t6 t7 t8 H => aE t8 t7 H fun t9 H =>
 ab t9 (pIa 1 t6 t8 H fun t10 H =>
 ldK .none H t10 fun t11 H =>
 pO (af t0) H fun t13 H =>
 pFa 3 t13 H fun t14 H =>
 ldK .none H t14 fun t15 H =>
 pC call Su [t15, t11] H fun _ H =>
 ay t8 (iN 1) H fun t18 H =>
 q0 t0 t6 t7 t18 H) (some (.tup [], H))) n
def XH (call : aa) (t0 t1 : AV) (H : AHeap) : R :=
 pO (aw .sl H t1) H fun t7 H =>
 Jq call 1000000 t0 t1 t7 (iN 0) H
def a5H : Ff := ⟨fun call l H => ax (fun t0 t1 => XH call t0 t1 H) l⟩
def XG (_ : aa) (t0 : AV) (H : AHeap) : R :=
 pO (af t0) H fun t4 H =>
 pFa 0 t4 H fun t5 H =>
 ldK .none H t5 fun t6 H =>
 pO (aw .sl H t6) H fun t7 H =>
 aj t7 (iN 0) H fun t8 H =>
 ab t8 (some (.nilp, H)) (pO (af t0) H fun t10 H =>
 pFa 0 t10 H fun t11 H =>
 ldK .none H t11 fun t12 H =>
 pO (af t0) H fun t14 H =>
 pFa 0 t14 H fun t15 H =>
 ldK .none H t15 fun t16 H =>
 pO (aw .sl H t16) H fun t17 H =>
 db t17 (iN 1) H fun t18 H =>
 pIa 3 t12 t18 H fun t19 H =>
 some (t19, H))
def a5G : Ff := ⟨fun call l H => az (fun t0 => XG call t0 H) l⟩
def XF (call : aa) (t0 : AV) (H : AHeap) : R :=
 ba t0 H fun t1 H =>
 aB [(iN 0), (iN 0), .nilsl] H fun t2 H =>
 pFa 2 t1 H fun t3 H =>
 ldK .none H t3 fun t4 H =>
 pC call a1c [t4] H fun t5 H =>
 pFa 2 t1 H fun t6 H =>
 stK 1 H t6 t5 fun _ H =>
 ldK (.some 3) H t1 fun t7 H =>
 stK 3 H t2 t7 fun _ H =>
 ob (aD (fun o => o) [ah (.some 3) H t2]) fun vs => some (aV vs, H)
def a5F : Ff := ⟨fun call l H => az (fun t0 => XF call t0 H) l⟩
def XE (call : aa) (t0 : AV) (H : AHeap) : R :=
 pO (af t0) H fun t7 H =>
 pFa 3 t7 H fun t8 H =>
 ldK (.some 5) H t8 fun t9 H =>
 pO (af t0) H fun t11 H =>
 pFa 2 t11 H fun t12 H =>
 ldK .none H t12 fun t13 H =>
 aB [(iN 0), (iN 0), (iN 0), (iN 0), (iN 0)] H fun t2 H =>
 stK 5 H t2 t9 fun _ H =>
 aR (aA (ckV (ah .none H t12) t13) true) (
 pFa 0 t2 H fun t14 H =>
 ldK .none H t14 fun t15 H =>
 aj t15 (iN 0) H fun t40 H =>
 ab t40 (pO (af t0) H fun t43 H =>
 pFa 0 t43 H fun t44 H =>
 ldK .none H t44 fun t45 H =>
 pO (af t45) H fun t46 H =>
 pFa 0 t46 H fun t47 H =>
 pFa 2 t47 H fun t48 H =>
 ldK .none H t48 fun t49 H =>
 pFa 2 t2 H fun t50 H =>
 ldK .none H t50 fun t51 H =>
 pIa 1 t49 t51 H fun t52 H =>
 ldK .none H t52 fun t53 H =>
 pC call vA [t0, t53] H fun _ H =>
 some (.tup [], H)) (aj t15 (iN 1) H fun t56 H =>
 ab t56 (pFa 2 t2 H fun t59 H =>
 ldK .none H t59 fun t60 H =>
 pC call cW [t13, t60] H fun t61 H =>
 pC call vA [t0, t61] H fun _ H =>
 some (.tup [], H)) (aj t15 (iN 2) H fun t64 H =>
 ab t64 (pC call vA [t0, (iN 0)] H fun _ H =>
 some (.tup [], H)) (aj t15 (iN 17) H fun t68 H =>
 ab t68 (pFa 2 t2 H fun t71 H =>
 ldK .none H t71 fun t72 H =>
 pC call cW [t13, t72] H fun t73 H =>
 aj t73 (iN 0) H fun t74 H =>
 pC call F3 [t74] H fun t75 H =>
 pC call vA [t0, t75] H fun _ H =>
 some (.tup [], H)) (aj t15 (iN 18) H fun t78 H =>
 ab t78 (pFa 1 t2 H fun t80 H =>
 ldK .none H t80 fun t81 H =>
 pC call vz [t13, t81] H fun _ H =>
 some (.tup [], H)) (aj t15 (iN 19) H fun t84 H =>
 ab t84 (pC call xk [t0] H fun _ H =>
 pFa 1 t2 H fun t88 H =>
 ldK .none H t88 fun t89 H =>
 pC call cW [t13, t89] H fun t90 H =>
 aQ t90 (iN 0) H fun t91 H =>
 ab t91 (pFa 2 t2 H fun t93 H =>
 ldK .none H t93 fun t94 H =>
 pC call vz [t13, t94] H fun _ H =>
 some (.tup [], H)) (some (.tup [], H))) (aj t15 (iN 43) H fun t97 H =>
 ab t97 (pC call xk [t0] H fun _ H =>
 some (.tup [], H)) (pFa 0 t2 H fun t17 H =>
 ldK .none H t17 fun t18 H =>
 pFa 2 t2 H fun t20 H =>
 ldK .none H t20 fun t21 H =>
 pFa 3 t2 H fun t24 H =>
 ldK .none H t24 fun t25 H =>
 pC call cW [t13, t21] H fun t22 H =>
 aR (aA (ckV (ah .none H t17) t18) (aA (ckV (ah .none H t24) t25) true)) (
 pC call cW [t13, t25] H fun t26 H =>
 aR (aA (ckV (ah .none H t17) t18) true) (
 pC call a0w [t18, t22, t26] H fun t27 H =>
 ao t27 0 H fun t28 H =>
 ao t27 1 H fun t29 H =>
 ab t29 (pC call vA [t0, t28] H fun _ H =>
 some (.tup [], H)) (pO (af t0) H fun t35 H =>
 pFa 0 t35 H fun t36 H =>
 ldK .none H t36 fun t37 H =>
 pC call px [t37, (iN 3)] H fun _ H =>
 some (.tup [], H))))))))))))
def a5E : Ff := ⟨fun call l H => az (fun t0 => XE call t0 H) l⟩
def XD (call : aa) (t0 : AV) (H : AHeap) : R :=
 pO (af t0) H fun t11 H =>
 pFa 3 t11 H fun t12 H =>
 ldK (.some 5) H t12 fun t13 H =>
 aB [(iN 0), (iN 0), (iN 0), (iN 0), (iN 0)] H fun t2 H =>
 stK 5 H t2 t13 fun _ H =>
 pFa 0 t2 H fun t14 H =>
 ldK .none H t14 fun t15 H =>
 aj t15 (iN 20) H fun t17 H =>
 ab t17 (pFa 2 t2 H fun t19 H =>
 ldK .none H t19 fun t20 H =>
 pFa 3 t2 H fun t22 H =>
 ldK .none H t22 fun t23 H =>
 pO (af t0) H fun t25 H =>
 pFa 0 t25 H fun t26 H =>
 ldK .none H t26 fun t27 H =>
 pO (af t27) H fun t28 H =>
 pFa 0 t28 H fun t29 H =>
 pFa 4 t29 H fun t30 H =>
 ldK .none H t30 fun t31 H =>
 pFa 2 t2 H fun t32 H =>
 ldK .none H t32 fun t33 H =>
 pIa 7 t31 t33 H fun t34 H =>
 pFa 0 t34 H fun t35 H =>
 ldK .none H t35 fun t36 H =>
 pC call Sq [t0, t23, t36] H fun t37 H =>
 aR (aA (ckV (ah .none H t19) t20) true) (
 pC call Sr [t0, t20, t37] H fun _ H =>
 some (.tup [], H))) (aj t15 (iN 21) H fun t40 H =>
 ab t40 (pO (af t0) H fun t44 H =>
 pFa 2 t44 H fun t45 H =>
 ldK .none H t45 fun t46 H =>
 pFa 2 t2 H fun t47 H =>
 ldK .none H t47 fun t48 H =>
 pFa 3 t2 H fun t50 H =>
 ldK .none H t50 fun t51 H =>
 pFa 4 t2 H fun t52 H =>
 ldK .none H t52 fun t53 H =>
 pC call cW [t46, t48] H fun t49 H =>
 aR (aA (ckV (ah .none H t50) t51) (aA (ckV (ah .none H t52) t53) true)) (
 pC call a0v [t0, t49, t51, t53, (.fn a7u [t0] [])] H fun t56 H =>
 ao t56 0 H fun t57 H =>
 ao t56 1 H fun t58 H =>
 ao t56 2 H fun t59 H =>
 ab t59 (pC call Sr [t0, t57, t58] H fun _ H =>
 some (.tup [], H)) (some (.tup [], H)))) (aj t15 (iN 22) H fun t66 H =>
 ab t66 (pC call a0u [t0] H fun _ H =>
 some (.tup [], H)) (aj t15 (iN 23) H fun t70 H =>
 ab t70 (pFa 1 t2 H fun t72 H =>
 ldK .none H t72 fun t73 H =>
 pFa 2 t2 H fun t75 H =>
 ldK .none H t75 fun t76 H =>
 pO (af t0) H fun t78 H =>
 pFa 0 t78 H fun t79 H =>
 ldK .none H t79 fun t80 H =>
 pO (af t80) H fun t81 H =>
 pFa 0 t81 H fun t82 H =>
 pFa 4 t82 H fun t83 H =>
 ldK .none H t83 fun t84 H =>
 pFa 1 t2 H fun t85 H =>
 ldK .none H t85 fun t86 H =>
 pIa 7 t84 t86 H fun t87 H =>
 pFa 0 t87 H fun t88 H =>
 ldK .none H t88 fun t89 H =>
 pC call Sq [t0, t76, t89] H fun t90 H =>
 aR (aA (ckV (ah .none H t72) t73) true) (
 pC call a0t [t0, t73, t90] H fun _ H =>
 some (.tup [], H))) (aj t15 (iN 24) H fun t93 H =>
 ab t93 (pO (af t0) H fun t97 H =>
 pFa 2 t97 H fun t98 H =>
 ldK .none H t98 fun t99 H =>
 pFa 1 t2 H fun t100 H =>
 ldK .none H t100 fun t101 H =>
 pFa 2 t2 H fun t103 H =>
 ldK .none H t103 fun t104 H =>
 pFa 3 t2 H fun t105 H =>
 ldK .none H t105 fun t106 H =>
 pC call cW [t99, t101] H fun t102 H =>
 aR (aA (ckV (ah .none H t103) t104) (aA (ckV (ah .none H t105) t106) true)) (
 pC call a0v [t0, t102, t104, t106, (.fn a7t [] [])] H fun t108 H =>
 ao t108 0 H fun t109 H =>
 ao t108 1 H fun t110 H =>
 ao t108 2 H fun t111 H =>
 ab t111 (pC call a0t [t0, t109, t110] H fun _ H =>
 some (.tup [], H)) (some (.tup [], H)))) (some (.tup [], H))))))
def a5D : Ff := ⟨fun call l H => az (fun t0 => XD call t0 H) l⟩
def l4 (call : aa) (t0 t2 t4 t5 : AV) (H : AHeap) : R :=
 aQ t5 (iN 0) H fun t109 H =>
 ab t109 (pO (af t2) H fun t111 H =>
 pFa 11 t111 H fun t112 H =>
 stK 1 H t112 (iN 4) fun _ H =>
 some (.tup [], H)) (pC call vA [t0, t4] H fun _ H =>
 some (.tup [], H))
def BK (call : aa) (t0 t2 t3 t6 t54 t56 : AV) (H : AHeap) : R :=
 ai t54 (.bool true) t56 H fun t57 H =>
 ab t57 (pC call px [t2, (iN 5)] H fun _ H =>
 some (.tup [], H)) (pO (af t2) H fun t62 H =>
 pFa 6 t62 H fun t63 H =>
 ldK .none H t63 fun t64 H =>
 pFa 2 t3 H fun t65 H =>
 ldK .none H t65 fun t66 H =>
 ay t6 (iN 1) H fun t68 H =>
 pC call LO [t64, t66, t68, (.iface y69 t2)] H fun t71 H =>
 ao t71 0 H fun t72 H =>
 ao t71 1 H fun t73 H =>
 l4 call t0 t2 t72 t73 H)
def XC (call : aa) (t0 : AV) (H : AHeap) : R :=
 pO (af t0) H fun t9 H =>
 pFa 0 t9 H fun t10 H =>
 ldK .none H t10 fun t11 H =>
 pO (af t0) H fun t13 H =>
 pFa 3 t13 H fun t14 H =>
 ldK (.some 5) H t14 fun t15 H =>
 aB [(iN 0), (iN 0), (iN 0), (iN 0), (iN 0)] H fun t3 H =>
 stK 5 H t3 t15 fun _ H =>
 pFa 0 t3 H fun t16 H =>
 ldK .none H t16 fun t17 H =>
 aj t17 (iN 25) H fun t19 H =>
 ab t19 (pO (af t11) H fun t22 H =>
 pFa 6 t22 H fun t23 H =>
 ldK .none H t23 fun t24 H =>
 pFa 2 t3 H fun t25 H =>
 ldK .none H t25 fun t26 H =>
 pO (af t11) H fun t28 H =>
 pFa 0 t28 H fun t29 H =>
 pFa 0 t29 H fun t30 H =>
 ldK .none H t30 fun t31 H =>
 pFa 2 t3 H fun t32 H =>
 ldK .none H t32 fun t33 H =>
 pIa 3 t31 t33 H fun t34 H =>
 pFa 1 t34 H fun t35 H =>
 ldK .none H t35 fun t36 H =>
 ay t36 (iN 1) H fun t37 H =>
 pC call LO [t24, t26, t37, (.iface y69 t11)] H fun t40 H =>
 ao t40 0 H fun t41 H =>
 ao t40 1 H fun t42 H =>
 l4 call t0 t11 t41 t42 H) (aj t17 (iN 26) H fun t44 H =>
 ab t44 (pO (af t0) H fun t46 H =>
 pFa 2 t46 H fun t47 H =>
 ldK .none H t47 fun t48 H =>
 pFa 3 t3 H fun t49 H =>
 ldK .none H t49 fun t50 H =>
 pC call cW [t48, t50] H fun t51 H =>
 aE t51 (iN 0) H fun t53 H =>
 ae t53 false (dj t51 (iN 63) H fun t56 H =>
 BK call t0 t11 t3 t51 t53 t56 H) (BK call t0 t11 t3 t51 t53 U H)) (aj t17 (iN 36) H fun t75 H =>
 ab t75 (pC call a7s [t0] H fun t78 H =>
 ao t78 0 H fun t79 H =>
 ao t78 1 H fun t80 H =>
 l4 call t0 t11 t79 t80 H) (aj t17 (iN 37) H fun t82 H =>
 ab t82 (pO (af t11) H fun t85 H =>
 pFa 6 t85 H fun t86 H =>
 ldK .none H t86 fun t87 H =>
 pFa 2 t3 H fun t88 H =>
 ldK .none H t88 fun t89 H =>
 pO (af t0) H fun t91 H =>
 pFa 2 t91 H fun t92 H =>
 ldK .none H t92 fun t93 H =>
 pFa 3 t3 H fun t94 H =>
 ldK .none H t94 fun t95 H =>
 pC call cW [t93, t95] H fun t96 H =>
 aR (aA (ckV (ah .none H t86) t87) (aA (ckV (ah .none H t88) t89) true)) (
 pC call a0s [t87, t89, t96, (.iface y69 t11)] H fun t99 H =>
 ao t99 0 H fun t100 H =>
 ao t99 1 H fun t101 H =>
 ao t99 2 H fun t102 H =>
 aQ t101 (iN 0) H fun t104 H =>
 ab t104 (pC call px [t11, t101] H fun _ H =>
 some (.tup [], H)) (l4 call t0 t11 t100 t102 H))) (l4 call t0 t11 (iN 0) (iN 0) H))))
def a5C : Ff := ⟨fun call l H => az (fun t0 => XC call t0 H) l⟩
def fW (call : aa) (t0 t2 t5 t6 t7 : AV) (H : AHeap) : R :=
 aQ t6 (iN 0) H fun t197 H =>
 ab t197 (pC call px [t2, t6] H fun _ H =>
 some (.tup [], H)) (ab t7 (pC call xk [t0] H fun _ H =>
 some (.tup [], H)) (pC call vA [t0, t5] H fun _ H =>
 some (.tup [], H)))
def BJ (call : aa) (t0 t2 t3 t4 t5 t6 : AV) (H : AHeap) : R :=
 pO (af t2) H fun t182 H =>
 pFa 8 t182 H fun t183 H =>
 ldK .none H t183 fun t184 H =>
 pFa 1 t3 H fun t185 H =>
 ldK .none H t185 fun t186 H =>
 pFa 2 t3 H fun t188 H =>
 ldK .none H t188 fun t189 H =>
 pC call cW [t4, t189] H fun t190 H =>
 aR (aA (ckV (ah .none H t183) t184) (aA (ckV (ah .none H t185) t186) true)) (
 pIa 1 t184 t186 H fun t191 H =>
 stK 1 H t191 t190 fun _ H =>
 fW call t0 t2 t5 t6 (.bool true) H)
def BI (call : aa) (t0 t2 t3 t4 t5 t6 t7 t21 t93 : AV) (H : AHeap) : R :=
 ab t93 (pO (af t2) H fun t97 H =>
 pFa 6 t97 H fun t98 H =>
 ldK .none H t98 fun t99 H =>
 pFa 1 t3 H fun t101 H =>
 ldK .none H t101 fun t102 H =>
 pFa 2 t3 H fun t105 H =>
 ldK .none H t105 fun t106 H =>
 pFa 3 t3 H fun t109 H =>
 ldK .none H t109 fun t110 H =>
 pFa 3 t3 H fun t113 H =>
 ldK .none H t113 fun t114 H =>
 pFa 0 t3 H fun t116 H =>
 ldK .none H t116 fun t117 H =>
 aj t117 (iN 31) H fun t118 H =>
 pO (af t0) H fun t120 H =>
 pFa 1 t120 H fun t121 H =>
 ldK .none H t121 fun t122 H =>
 pC call cW [t4, t102] H fun t103 H =>
 aR (aA (ckV (ah .none H t98) t99) (aA (ckV (ah .none H t105) t106) (aA (ckV (ah .none H t109) t110) (aA (ckV (ah .none H t113) t114) (aA (ckV (ah .none H t116) t117) (aA (ckV (ah .none H t121) t122) true)))))) (
 pC call cW [t4, t106] H fun t107 H =>
 aR (aA (ckV (ah .none H t98) t99) (aA (ckV (ah .none H t109) t110) (aA (ckV (ah .none H t113) t114) (aA (ckV (ah .none H t116) t117) (aA (ckV (ah .none H t121) t122) true))))) (
 pC call cW [t4, t110] H fun t111 H =>
 aR (aA (ckV (ah .none H t98) t99) (aA (ckV (ah .none H t113) t114) (aA (ckV (ah .none H t116) t117) (aA (ckV (ah .none H t121) t122) true)))) (
 pC call F2 [t0, t114] H fun t115 H =>
 aR (aA (ckV (ah .none H t98) t99) (aA (ckV (ah .none H t116) t117) (aA (ckV (ah .none H t121) t122) true))) (
 pC call a0q [t99, t103, t107, t111, t115, t118, t122] H fun t123 H =>
 fW call t0 t2 t5 t123 (.bool true) H))))) (aj t21 (iN 33) H fun t125 H =>
 ab t125 (pO (af t2) H fun t128 H =>
 pFa 6 t128 H fun t129 H =>
 ldK .none H t129 fun t130 H =>
 pFa 2 t3 H fun t132 H =>
 ldK .none H t132 fun t133 H =>
 pC call cW [t4, t133] H fun t134 H =>
 aR (aA (ckV (ah .none H t129) t130) true) (
 pC call a0p [t130, t134] H fun t135 H =>
 ao t135 0 H fun t136 H =>
 ao t135 1 H fun t137 H =>
 fW call t0 t2 t136 t137 t7 H)) (aj t21 (iN 34) H fun t139 H =>
 ab t139 (pO (af t2) H fun t141 H =>
 pFa 8 t141 H fun t142 H =>
 ldK .none H t142 fun t143 H =>
 pFa 2 t3 H fun t144 H =>
 ldK .none H t144 fun t145 H =>
 pIa 1 t143 t145 H fun t146 H =>
 ldK .none H t146 fun t147 H =>
 fW call t0 t2 t147 t6 t7 H) (aj t21 (iN 35) H fun t149 H =>
 ab t149 (pO (af t2) H fun t151 H =>
 pFa 0 t151 H fun t152 H =>
 pFa 1 t152 H fun t153 H =>
 ldK .none H t153 fun t154 H =>
 pFa 1 t3 H fun t155 H =>
 ldK .none H t155 fun t156 H =>
 pIa 1 t154 t156 H fun t157 H =>
 ldK .none H t157 fun t158 H =>
 ab t158 (pO (af t2) H fun t160 H =>
 pFa 6 t160 H fun t161 H =>
 ldK .none H t161 fun t162 H =>
 pO (af t2) H fun t165 H =>
 pFa 8 t165 H fun t166 H =>
 ldK .none H t166 fun t167 H =>
 pFa 1 t3 H fun t168 H =>
 ldK .none H t168 fun t169 H =>
 pIa 1 t167 t169 H fun t170 H =>
 ldK .none H t170 fun t171 H =>
 pFa 2 t3 H fun t173 H =>
 ldK .none H t173 fun t174 H =>
 pO (af t0) H fun t177 H =>
 pFa 1 t177 H fun t178 H =>
 ldK .none H t178 fun t179 H =>
 pC call n62 [t162] H fun t163 H =>
 aR (aA (ckV (ah .none H t166) t167) (aA (ckV (ah .none H t168) t169) (aA (ckV (ah .none H t170) t171) (aA (ckV (ah .none H t173) t174) (aA (ckV (ah .none H t178) t179) true))))) (
 pC call cW [t4, t174] H fun t175 H =>
 aR (aA (ckV (ah .none H t166) t167) (aA (ckV (ah .none H t168) t169) (aA (ckV (ah .none H t170) t171) (aA (ckV (ah .none H t178) t179) true)))) (
 pC call LN [t163, t171, t175, t179] H fun _ H =>
 BJ call t0 t2 t3 t4 t5 t6 H))) (BJ call t0 t2 t3 t4 t5 t6 H)) (fW call t0 t2 t5 t6 t7 H))))
def BH (call : aa) (t0 t2 t3 t4 t5 t6 t7 t21 t42 : AV) (H : AHeap) : R :=
 ab t42 (pO (af t2) H fun t46 H =>
 pFa 6 t46 H fun t47 H =>
 ldK .none H t47 fun t48 H =>
 pFa 1 t3 H fun t50 H =>
 ldK .none H t50 fun t51 H =>
 pFa 2 t3 H fun t53 H =>
 ldK .none H t53 fun t54 H =>
 pFa 3 t3 H fun t56 H =>
 ldK .none H t56 fun t57 H =>
 pFa 3 t3 H fun t60 H =>
 ldK .none H t60 fun t61 H =>
 pFa 0 t3 H fun t63 H =>
 ldK .none H t63 fun t64 H =>
 aj t64 (iN 28) H fun t65 H =>
 pO (af t0) H fun t67 H =>
 pFa 1 t67 H fun t68 H =>
 ldK .none H t68 fun t69 H =>
 pC call cW [t4, t51] H fun t52 H =>
 aR (aA (ckV (ah .none H t47) t48) (aA (ckV (ah .none H t53) t54) (aA (ckV (ah .none H t56) t57) (aA (ckV (ah .none H t60) t61) (aA (ckV (ah .none H t63) t64) (aA (ckV (ah .none H t68) t69) true)))))) (
 pC call cW [t4, t57] H fun t58 H =>
 aR (aA (ckV (ah .none H t47) t48) (aA (ckV (ah .none H t53) t54) (aA (ckV (ah .none H t60) t61) (aA (ckV (ah .none H t63) t64) (aA (ckV (ah .none H t68) t69) true))))) (
 pC call F2 [t0, t61] H fun t62 H =>
 aR (aA (ckV (ah .none H t47) t48) (aA (ckV (ah .none H t53) t54) (aA (ckV (ah .none H t63) t64) (aA (ckV (ah .none H t68) t69) true)))) (
 pC call a7q [t48, t52, t54, t58, t62, t65, t69] H fun t70 H =>
 fW call t0 t2 t5 t70 (.bool true) H)))) (aj t21 (iN 30) H fun t72 H =>
 ab t72 (pO (af t2) H fun t75 H =>
 pFa 6 t75 H fun t76 H =>
 ldK .none H t76 fun t77 H =>
 pFa 2 t3 H fun t79 H =>
 ldK .none H t79 fun t80 H =>
 pFa 3 t3 H fun t83 H =>
 ldK .none H t83 fun t84 H =>
 pFa 1 t3 H fun t87 H =>
 ldK .none H t87 fun t88 H =>
 pC call cW [t4, t80] H fun t81 H =>
 aR (aA (ckV (ah .none H t76) t77) (aA (ckV (ah .none H t83) t84) (aA (ckV (ah .none H t87) t88) true))) (
 pC call cW [t4, t84] H fun t85 H =>
 aR (aA (ckV (ah .none H t76) t77) (aA (ckV (ah .none H t87) t88) true)) (
 pC call F2 [t0, t88] H fun t89 H =>
 aR (aA (ckV (ah .none H t76) t77) true) (
 pC call a0r [t77, t81, t85, t89] H fun t90 H =>
 ao t90 0 H fun t91 H =>
 ao t90 1 H fun t92 H =>
 fW call t0 t2 t91 t92 t7 H)))) (aj t21 (iN 31) H fun t94 H =>
 ab t94 (BI call t0 t2 t3 t4 t5 t6 t7 t21 t94 H) (aj t21 (iN 32) H fun t95 H =>
 BI call t0 t2 t3 t4 t5 t6 t7 t21 t95 H)))
def XB (call : aa) (t0 : AV) (H : AHeap) : R :=
 pO (af t0) H fun t9 H =>
 pFa 0 t9 H fun t10 H =>
 ldK .none H t10 fun t11 H =>
 pO (af t0) H fun t13 H =>
 pFa 3 t13 H fun t14 H =>
 ldK (.some 5) H t14 fun t15 H =>
 pO (af t0) H fun t17 H =>
 pFa 2 t17 H fun t18 H =>
 ldK .none H t18 fun t19 H =>
 aB [(iN 0), (iN 0), (iN 0), (iN 0), (iN 0)] H fun t3 H =>
 stK 5 H t3 t15 fun _ H =>
 aR (aA (ckV (ah .none H t18) t19) true) (
 pFa 0 t3 H fun t20 H =>
 ldK .none H t20 fun t21 H =>
 aj t21 (iN 27) H fun t23 H =>
 ab t23 (pO (af t11) H fun t26 H =>
 pFa 6 t26 H fun t27 H =>
 ldK .none H t27 fun t28 H =>
 pFa 2 t3 H fun t30 H =>
 ldK .none H t30 fun t31 H =>
 pFa 3 t3 H fun t33 H =>
 ldK .none H t33 fun t34 H =>
 pFa 1 t3 H fun t36 H =>
 ldK .none H t36 fun t37 H =>
 pC call cW [t19, t31] H fun t32 H =>
 aR (aA (ckV (ah .none H t27) t28) (aA (ckV (ah .none H t33) t34) (aA (ckV (ah .none H t36) t37) true))) (
 pC call F2 [t0, t37] H fun t38 H =>
 aR (aA (ckV (ah .none H t27) t28) (aA (ckV (ah .none H t33) t34) true)) (
 pC call a7r [t28, t32, t34, t38] H fun t39 H =>
 ao t39 0 H fun t40 H =>
 ao t39 1 H fun t41 H =>
 fW call t0 t11 t40 t41 (.bool false) H))) (aj t21 (iN 28) H fun t43 H =>
 ab t43 (BH call t0 t11 t3 t19 (iN 0) (iN 0) (.bool false) t21 t43 H) (aj t21 (iN 29) H fun t44 H =>
 BH call t0 t11 t3 t19 (iN 0) (iN 0) (.bool false) t21 t44 H)))
def a5B : Ff := ⟨fun call l H => az (fun t0 => XB call t0 H) l⟩
def BG (_ : aa) (t1 t5 t14 t21 : AV) (H : AHeap) : R :=
 ai t14 (.bool true) t21 H fun t22 H =>
 ab t22 (some ((iN 0), H)) (pO (af t5) H fun t24 H =>
 pFa 2 t24 H fun t25 H =>
 ldK .none H t25 fun t26 H =>
 pIa 1 t26 t1 H fun t28 H =>
 ldK .none H t28 fun t29 H =>
 some (t29, H))
def BF (call : aa) (t1 t5 t10 t12 : AV) (H : AHeap) : R :=
 ai t10 (.bool true) t12 H fun t13 H =>
 ae t13 false (pO (af t5) H fun t17 H =>
 pFa 2 t17 H fun t18 H =>
 ldK .none H t18 fun t19 H =>
 pO (aw .sl H t19) H fun t20 H =>
 aZ t1 t20 H fun t21 H =>
 BG call t1 t5 t13 t21 H) (BG call t1 t5 t13 U H)
def XA (call : aa) (t0 t1 : AV) (H : AHeap) : R :=
 pC call F6 [t0] H fun t7 H =>
 pO (aEq false .ptr t7 .nilp) H fun t9 H =>
 ae t9 false (aE t1 (iN 0) H fun t12 H =>
 BF call t1 t7 t9 t12 H) (BF call t1 t7 t9 U H)
def a5A : Ff := ⟨fun call l H => ax (fun t0 t1 => XA call t0 t1 H) l⟩
def Xy (call : aa) (t0 : AV) (H : AHeap) : R :=
 pO (af t0) H fun t3 H =>
 pFa 2 t3 H fun t4 H =>
 ldK .none H t4 fun t5 H =>
 pO (af t0) H fun t7 H =>
 pFa 15 t7 H fun t8 H =>
 ldK .none H t8 fun t9 H =>
 ay t9 (iN 1) H fun t10 H =>
 pC call vz [t5, t10] H fun _ H =>
 some (.tup [], H)
def a5y : Ff := ⟨fun call l H => az (fun t0 => Xy call t0 H) l⟩
def BE (call : aa) (t0 t2 t3 t23 t40 : AV) (H : AHeap) : R :=
 ai t23 t40 (.bool false) H fun t41 H =>
 ab t41 (pO (af t0) H fun t43 H =>
 pFa 2 t43 H fun t44 H =>
 ldK .none H t44 fun t45 H =>
 pO (af t2) H fun t47 H =>
 pFa 0 t47 H fun t48 H =>
 pFa 3 t48 H fun t49 H =>
 ldK .none H t49 fun t50 H =>
 pFa 1 t3 H fun t51 H =>
 ldK .none H t51 fun t52 H =>
 pO (af t0) H fun t54 H =>
 pFa 16 t54 H fun t55 H =>
 pFa 0 t55 H fun t56 H =>
 ldK .none H t56 fun t57 H =>
 ay t52 t57 H fun t58 H =>
 pIa 4 t50 t58 H fun t59 H =>
 pFa 3 t59 H fun t60 H =>
 ldK .none H t60 fun t61 H =>
 pC call vz [t45, t61] H fun _ H =>
 some (.tup [], H)) (pO (af t0) H fun t65 H =>
 pFa 2 t65 H fun t66 H =>
 ldK .none H t66 fun t67 H =>
 pO (af t0) H fun t69 H =>
 pFa 16 t69 H fun t70 H =>
 pFa 0 t70 H fun t71 H =>
 ldK .none H t71 fun t72 H =>
 aB [.nilp, (.bool false), (iN 0), (iN 0), (iN 0), (iN 0)] H fun t4 H =>
 pC call Sp [t2, t67, t72] H fun t73 H =>
 stK 6 H t4 t73 fun _ H =>
 ldK (.some 6) H t4 fun t95 H =>
 pC call a0n [t0, t95] H fun t96 H =>
 pO (aUn .not t96) H fun t97 H =>
 ab t97 (pC call px [t2, (iN 1)] H fun _ H =>
 some (.tup [], H)) (pO (af t0) H fun t102 H =>
 pFa 16 t102 H fun t103 H =>
 pFa 1 t103 H fun t104 H =>
 ldK .none H t104 fun t105 H =>
 aQ t105 (iN 0) H fun t106 H =>
 ab t106 (ldK (.some 6) H t4 fun t108 H =>
 pO (af t2) H fun t111 H =>
 pFa 7 t111 H fun t112 H =>
 ldK .none H t112 fun t113 H =>
 pO (af t0) H fun t115 H =>
 pFa 16 t115 H fun t116 H =>
 pFa 1 t116 H fun t117 H =>
 ldK .none H t117 fun t118 H =>
 pO (af t0) H fun t121 H =>
 pFa 16 t121 H fun t122 H =>
 pFa 2 t122 H fun t123 H =>
 ldK .none H t123 fun t124 H =>
 pC call LV [t113, t118] H fun t119 H =>
 aR (aA (ckV (ah (.some 6) H t4) t108) (aA (ckV (ah .none H t123) t124) true)) (
 pC call Sp [t2, t119, t124] H fun t125 H =>
 aR (aA (ckV (ah (.some 6) H t4) t108) true) (
 pC call a7p [t0, t108, t125] H fun _ H =>
 some (.tup [], H)))) (pFa 1 t4 H fun t128 H =>
 ldK .none H t128 fun t129 H =>
 ab t129 (ldK (.some 6) H t4 fun t131 H =>
 pC call a0m [t0, t131] H fun _ H =>
 some (.tup [], H)) (pO (af t2) H fun t76 H =>
 pFa 6 t76 H fun t77 H =>
 ldK .none H t77 fun t78 H =>
 pO (af t0) H fun t80 H =>
 pFa 2 t80 H fun t81 H =>
 ldK .none H t81 fun t82 H =>
 pFa 2 t4 H fun t83 H =>
 ldK .none H t83 fun t84 H =>
 pC call cW [t82, t84] H fun t85 H =>
 aR (aA (ckV (ah .none H t77) t78) true) (
 pC call a0l [t78, t85] H fun t86 H =>
 ao t86 0 H fun t87 H =>
 ao t86 1 H fun t88 H =>
 ldK (.some 6) H t4 fun t89 H =>
 pC call a0k [t89, t87, t88] H fun _ H =>
 some (.tup [], H))))))
def BD (call : aa) (t0 t2 t3 t23 t39 : AV) (H : AHeap) : R :=
 ae t23 true (dj t39 (iN 1) H fun t40 H =>
 BE call t0 t2 t3 t23 t40 H) (BE call t0 t2 t3 t23 U H)
def BC (call : aa) (t0 t2 t3 t23 t38 : AV) (H : AHeap) : R :=
 ae t23 true (ldK .none H t38 fun t39 H =>
 BD call t0 t2 t3 t23 t39 H) (BD call t0 t2 t3 t23 U H)
def BB (call : aa) (t0 t2 t3 t23 t37 : AV) (H : AHeap) : R :=
 ae t23 true (pFa 0 t37 H fun t38 H =>
 BC call t0 t2 t3 t23 t38 H) (BC call t0 t2 t3 t23 U H)
def BA (call : aa) (t0 t2 t3 t23 t28 t36 : AV) (H : AHeap) : R :=
 ae t23 true (pIa 4 t28 t36 H fun t37 H =>
 BB call t0 t2 t3 t23 t37 H) (BB call t0 t2 t3 t23 U H)
def Bz (call : aa) (t0 t2 t3 t23 t28 t30 t35 : AV) (H : AHeap) : R :=
 ae t23 true (ay t30 t35 H fun t36 H =>
 BA call t0 t2 t3 t23 t28 t36 H) (BA call t0 t2 t3 t23 t28 U H)
def By (call : aa) (t0 t2 t3 t23 t28 t30 t34 : AV) (H : AHeap) : R :=
 ae t23 true (ldK .none H t34 fun t35 H =>
 Bz call t0 t2 t3 t23 t28 t30 t35 H) (Bz call t0 t2 t3 t23 t28 t30 U H)
def Bx (call : aa) (t0 t2 t3 t23 t28 t30 t33 : AV) (H : AHeap) : R :=
 ae t23 true (pFa 0 t33 H fun t34 H =>
 By call t0 t2 t3 t23 t28 t30 t34 H) (By call t0 t2 t3 t23 t28 t30 U H)
def Bw (call : aa) (t0 t2 t3 t23 t28 t30 t32 : AV) (H : AHeap) : R :=
 ae t23 true (pFa 16 t32 H fun t33 H =>
 Bx call t0 t2 t3 t23 t28 t30 t33 H) (Bx call t0 t2 t3 t23 t28 t30 U H)
def Bu (call : aa) (t0 t2 t3 t23 t28 t30 t31 : AV) (H : AHeap) : R :=
 ae t23 true (pO (af t31) H fun t32 H =>
 Bw call t0 t2 t3 t23 t28 t30 t32 H) (Bw call t0 t2 t3 t23 t28 t30 U H)
def sX (call : aa) (t0 t2 t3 t23 t28 t30 : AV) (H : AHeap) : R :=
 ae t23 true (Bu call t0 t2 t3 t23 t28 t30 t0 H) (Bu call t0 t2 t3 t23 t28 t30 U H)
def sW (call : aa) (t0 t2 t3 t23 t28 t29 : AV) (H : AHeap) : R :=
 ae t23 true (ldK .none H t29 fun t30 H =>
 sX call t0 t2 t3 t23 t28 t30 H) (sX call t0 t2 t3 t23 t28 U H)
def sV (call : aa) (t0 t2 t3 t23 t28 : AV) (H : AHeap) : R :=
 ae t23 true (pFa 1 t3 H fun t29 H =>
 sW call t0 t2 t3 t23 t28 t29 H) (sW call t0 t2 t3 t23 t28 U H)
def sU (call : aa) (t0 t2 t3 t23 t27 : AV) (H : AHeap) : R :=
 ae t23 true (ldK .none H t27 fun t28 H =>
 sV call t0 t2 t3 t23 t28 H) (sV call t0 t2 t3 t23 U H)
def sT (call : aa) (t0 t2 t3 t23 t26 : AV) (H : AHeap) : R :=
 ae t23 true (pFa 3 t26 H fun t27 H =>
 sU call t0 t2 t3 t23 t27 H) (sU call t0 t2 t3 t23 U H)
def sS (call : aa) (t0 t2 t3 t23 t25 : AV) (H : AHeap) : R :=
 ae t23 true (pFa 0 t25 H fun t26 H =>
 sT call t0 t2 t3 t23 t26 H) (sT call t0 t2 t3 t23 U H)
def sR (call : aa) (t0 t2 t3 t23 t24 : AV) (H : AHeap) : R :=
 ae t23 true (pO (af t24) H fun t25 H =>
 sS call t0 t2 t3 t23 t25 H) (sS call t0 t2 t3 t23 U H)
def PE (call : aa) (t0 : AV) (H : AHeap) : R :=
 pO (af t0) H fun t8 H =>
 pFa 0 t8 H fun t9 H =>
 ldK .none H t9 fun t10 H =>
 pO (af t0) H fun t12 H =>
 pFa 3 t12 H fun t13 H =>
 ldK (.some 5) H t13 fun t14 H =>
 aB [(iN 0), (iN 0), (iN 0), (iN 0), (iN 0)] H fun t3 H =>
 stK 5 H t3 t14 fun _ H =>
 pFa 0 t3 H fun t15 H =>
 ldK .none H t15 fun t16 H =>
 aj t16 (iN 40) H fun t17 H =>
 ab t17 (pC call a0o [t0] H fun _ H =>
 some (.tup [], H)) (pFa 0 t3 H fun t20 H =>
 ldK .none H t20 fun t21 H =>
 aj t21 (iN 41) H fun t22 H =>
 ae t22 true (sR call t0 t10 t3 t22 t10 H) (sR call t0 t10 t3 t22 U H))
def a5x : Ff := ⟨fun call l H => az (fun t0 => PE call t0 H) l⟩
def Xx (call : aa) (t0 : AV) (H : AHeap) : R :=
 pC call vB [t0] H fun t4 H =>
 aQ t4 t0 H fun t6 H =>
 some (t6, H)
def a5w : Ff := ⟨fun call l H => az (fun t0 => Xx call t0 H) l⟩
def Xw (_ : aa) (t0 : AV) (H : AHeap) : R :=
 pO (aW .shl t0 (.int .u64 (.ofNat 1))) H fun t4 H =>
 pO (aW .shr t4 (.int .u64 (.ofNat 1))) H fun t5 H =>
 some (t5, H)
def a5v : Ff := ⟨fun call l H => az (fun t0 => Xw call t0 H) l⟩
def Jo (_ : aa) (n : Nat) : AV → AV → AV → AV → AHeap → R :=
 Nat.rec (motive := fun _ => AV → AV → AV → AV → AHeap → R) (fun _ _ _ _ _ => none) (fun _ q0 t0 t1 t7 t8 H => aE t8 t7 H fun t9 H =>
 ab t9 (pIa 1 t0 t8 H fun t14 H =>
 ldK .none H t14 fun t15 H =>
 aj t1 t15 H fun t16 H =>
 ab t16 (some (t8, H)) (ay t8 (iN 1) H fun t18 H =>
 q0 t0 t1 t7 t18 H)) (some ((.int .i64 (.negSucc 0)), H))) n
def Xv (call : aa) (t0 t1 : AV) (H : AHeap) : R :=
 pO (aw .sl H t0) H fun t7 H =>
 Jo call 1000000 t0 t1 t7 (iN 0) H
def a5u : Ff := ⟨fun call l H => ax (fun t0 t1 => Xv call t0 t1 H) l⟩
def Bt (_ : aa) (t10 t16 : AV) (H : AHeap) : R :=
 ai t10 t16 (.bool false) H fun t17 H =>
 some (t17, H)
def Xu (call : aa) (t0 t1 : AV) (H : AHeap) : R :=
 pO (aw .str H t0) H fun t6 H =>
 pO (aw .str H t1) H fun t8 H =>
 aZ t6 t8 H fun t9 H =>
 ae t9 true (pO (aw .str H t1) H fun t13 H =>
 pO (cJ t0 .none (.some t13)) H fun t14 H =>
 aj t14 t1 H fun t16 H =>
 Bt call t9 t16 H) (Bt call t9 U H)
def a5t : Ff := ⟨fun call l H => ax (fun t0 t1 => Xu call t0 t1 H) l⟩
def Br (_ : aa) (t2 t3 : AV) (H : AHeap) : R :=
 ldK (.some 3) H t3 fun t24 H =>
 stK 3 H t2 t24 fun _ H =>
 ob (aD (fun o => o) [ah (.some 3) H t2]) fun vs => some (aV vs, H)
def Xt (call : aa) (t0 : AV) (H : AHeap) : R :=
 aB [(iN 0), (.str []), (iN 0)] H fun t2 H =>
 pC call n70 [t0] H fun t5 H =>
 aB [(iN 0), (.str []), (iN 0)] H fun t3 H =>
 stK 3 H t3 t5 fun _ H =>
 pO (af t0) H fun t7 H =>
 pFa 1 t7 H fun t8 H =>
 ldK .none H t8 fun t9 H =>
 pO (af t0) H fun t11 H =>
 pFa 0 t11 H fun t12 H =>
 ldK .none H t12 fun t13 H =>
 pO (aw .sl H t13) H fun t14 H =>
 db t14 (iN 1) H fun t15 H =>
 aE t9 t15 H fun t16 H =>
 ab t16 (pO (af t0) H fun t18 H =>
 pFa 1 t18 H fun t19 H =>
 ldK .none H t19 fun t20 H =>
 ay t20 (iN 1) H fun t21 H =>
 pO (af t0) H fun t22 H =>
 pFa 1 t22 H fun t23 H =>
 stK 1 H t23 t21 fun _ H =>
 Br call t2 t3 H) (Br call t2 t3 H)
def a5s : Ff := ⟨fun call l H => az (fun t0 => Xt call t0 H) l⟩
def Xs (call : aa) (t0 t1 : AV) (H : AHeap) : R :=
 pC call a0g [t0, t1] H fun t7 H =>
 aZ t7 (iN 0) H fun t8 H =>
 some (t8, H)
def a5r : Ff := ⟨fun call l H => ax (fun t0 t1 => Xs call t0 t1 H) l⟩
def Xr (call : aa) (t0 : AV) (H : AHeap) : R :=
 aB [(.str []), (.str []), (iN 0), .nilsl] H fun t1 H =>
 ldK .none H t0 fun t2 H =>
 pC call a7Y [t2, (.str [112, 97, 114, 97, 109])] H fun t3 H =>
 stK 4 H t1 t3 fun _ H =>
 ob (aD (fun o => o) [ah (.some 4) H t1]) fun vs => some (aV vs, H)
def a5q : Ff := ⟨fun call l H => az (fun t0 => Xr call t0 H) l⟩
def Xq (call : aa) (t0 t1 : AV) (H : AHeap) : R :=
 pC call a0f [t0, t1] H fun t8 H =>
 ao t8 0 H fun t9 H =>
 ao t8 1 H fun t10 H =>
 some (.tup [t9, t10], H)
def a5p : Ff := ⟨fun call l H => ax (fun t0 t1 => Xq call t0 t1 H) l⟩
def Bq (call : aa) (t0 t3 t4 t46 : AV) (H : AHeap) : R :=
 ab t46 (ldK (.some 4) H t3 fun t50 H =>
 pC call GW [t0, t50] H fun t51 H =>
 stK 4 H t4 t51 fun _ H =>
 ob (aD (fun o => o) [ah (.some 4) H t4]) fun vs => some (aV vs, H)) (pFa 2 t3 H fun t53 H =>
 ldK .none H t53 fun t54 H =>
 pC call n77 [t0, t54] H fun _ H =>
 pO (au (aG [(.str []), (.str []), (iN 0), .nilsl] [])) H fun t56 H =>
 stK 4 H t4 t56 fun _ H =>
 ob (aD (fun o => o) [ah (.some 4) H t4]) fun vs => some (aV vs, H))
def Xp (call : aa) (t0 t1 : AV) (H : AHeap) : R :=
 ba t1 H fun t3 H =>
 aB [(.str []), (.str []), (iN 0), .nilsl] H fun t4 H =>
 pFa 0 t3 H fun t9 H =>
 ldK .none H t9 fun t10 H =>
 aj t10 (.str [110, 97, 109, 101]) H fun t12 H =>
 ab t12 (pFa 1 t3 H fun t15 H =>
 ldK .none H t15 fun t16 H =>
 pC call GU [t0, t16] H fun t17 H =>
 ao t17 0 H fun t18 H =>
 ao t17 1 H fun t19 H =>
 aB [(.str []), (.str []), (.str []), (iN 0), .nilsl, (iN 0)] H fun t5 H =>
 stK 6 H t5 t18 fun _ H =>
 ab t19 (pFa 5 t5 H fun t22 H =>
 ldK .none H t22 fun t23 H =>
 pO (af t0) H fun t25 H =>
 pFa 7 t25 H fun t26 H =>
 ldK .none H t26 fun t27 H =>
 aj t23 t27 H fun t28 H =>
 ldK (.some 4) H t3 fun t29 H =>
 pC call n33 [t0, t28, t29] H fun _ H =>
 pFa 1 t5 H fun t31 H =>
 ldK (.some 4) H t31 fun t32 H =>
 stK 4 H t4 t32 fun _ H =>
 ob (aD (fun o => o) [ah (.some 4) H t4]) fun vs => some (aV vs, H)) (pFa 1 t3 H fun t35 H =>
 ldK .none H t35 fun t36 H =>
 pC call n32 [t0, (.str [103, 108, 111, 98, 97, 108]), t36] H fun t37 H =>
 ao t37 0 H fun t38 H =>
 ao t37 1 H fun t39 H =>
 aB [(.str []), (.str []), (iN 0), .nilsl] H fun t7 H =>
 stK 4 H t7 t38 fun _ H =>
 ldK (.some 4) H t3 fun t42 H =>
 pC call n33 [t0, t39, t42] H fun _ H =>
 ldK (.some 4) H t7 fun t44 H =>
 pC call a7g [t44] H fun t45 H =>
 stK 4 H t4 t45 fun _ H =>
 ob (aD (fun o => o) [ah (.some 4) H t4]) fun vs => some (aV vs, H))) (aj t10 (.str [105, 110, 100, 101, 120]) H fun t47 H =>
 ab t47 (Bq call t0 t3 t4 t47 H) (aj t10 (.str [100, 111, 116]) H fun t48 H =>
 Bq call t0 t3 t4 t48 H))
def a5o : Ff := ⟨fun call l H => ax (fun t0 t1 => Xp call t0 t1 H) l⟩
def Xo (call : aa) (t0 t1 t2 : AV) (H : AHeap) : R :=
 ba t1 H fun t4 H =>
 aB [(.str []), (.str []), (iN 0), .nilsl] H fun t6 H =>
 ldK (.some 4) H t4 fun t9 H =>
 pC call GW [t0, t9] H fun t10 H =>
 aB [(.str []), (.str []), (iN 0), .nilsl] H fun t7 H =>
 stK 4 H t7 t10 fun _ H =>
 pFa 0 t7 H fun t12 H =>
 ldK .none H t12 fun t13 H =>
 aj t13 t2 H fun t15 H =>
 ldK (.some 4) H t4 fun t16 H =>
 pC call n33 [t0, t15, t16] H fun _ H =>
 ldK (.some 4) H t7 fun t18 H =>
 stK 4 H t6 t18 fun _ H =>
 ob (aD (fun o => o) [ah (.some 4) H t6]) fun vs => some (aV vs, H)
def a5n : Ff := ⟨fun call l H => aY (fun t0 t1 t2 => Xo call t0 t1 t2 H) l⟩
def Jn (_ : aa) (t4 t8 : AV) (H : AHeap) : R :=
 pFa 3 t8 H fun t66 H =>
 ldK .none H t66 fun t67 H =>
 pIa 4 t67 (iN 0) H fun t68 H =>
 ldK (.some 4) H t68 fun t69 H =>
 stK 4 H t4 t69 fun _ H =>
 ob (aD (fun o => o) [ah (.some 4) H t4]) fun vs => some (aV vs, H)
def Jm (call : aa) (n : Nat) : AV → AV → AV → AV → AV → AV → AHeap → R :=
 Nat.rec (motive := fun _ => AV → AV → AV → AV → AV → AV → AHeap → R) (fun _ _ _ _ _ _ _ => none) (fun _ q0 t0 t3 t4 t5 t8 t9 H => pO (aw .sl H t5) H fun t45 H =>
 aE t9 t45 H fun t46 H =>
 ab t46 (pIa 4 t5 t9 H fun t52 H =>
 ldK (.some 4) H t52 fun t53 H =>
 pFa 3 t8 H fun t54 H =>
 ldK .none H t54 fun t55 H =>
 pIa 4 t55 t9 H fun t57 H =>
 ldK (.some 4) H t57 fun t58 H =>
 pFa 3 t3 H fun t60 H =>
 ldK .none H t60 fun t61 H =>
 pIa 4 t61 t9 H fun t63 H =>
 ldK (.some 4) H t63 fun t64 H =>
 pC call a0L [t53, t58] H fun t59 H =>
 aR (aA (ckV (ah .none H t60) t61) (aA (ckV (ah (.some 4) H t63) t64) true)) (
 pC call n33 [t0, t59, t64] H fun _ H =>
 ay t9 (iN 1) H fun t48 H =>
 q0 t0 t3 t4 t5 t8 t48 H)) (Jn call t4 t8 H)) n
def Bp (call : aa) (t0 t3 t4 t5 t8 t30 t36 : AV) (H : AHeap) : R :=
 ai t30 (.bool true) t36 H fun t37 H =>
 ab t37 (pFa 2 t3 H fun t39 H =>
 ldK .none H t39 fun t40 H =>
 pC call n77 [t0, t40] H fun _ H =>
 pO (au (aG [(.str []), (.str []), (iN 0), .nilsl] [])) H fun t42 H =>
 stK 4 H t4 t42 fun _ H =>
 ob (aD (fun o => o) [ah (.some 4) H t4]) fun vs => some (aV vs, H)) (Jm call 1000000 t0 t3 t4 t5 t8 (iN 1) H)
def Jl (call : aa) (t0 t3 t4 t5 : AV) (H : AHeap) : R :=
 pIa 4 t5 (iN 0) H fun t25 H =>
 ldK (.some 4) H t25 fun t26 H =>
 aB [(.str []), (.str []), (iN 0), .nilsl] H fun t8 H =>
 stK 4 H t8 t26 fun _ H =>
 pFa 0 t8 H fun t27 H =>
 ldK .none H t27 fun t28 H =>
 aQ t28 (.str [102, 110]) H fun t29 H =>
 ae t29 false (pFa 3 t8 H fun t31 H =>
 ldK .none H t31 fun t32 H =>
 pO (aw .sl H t32) H fun t33 H =>
 pO (aw .sl H t5) H fun t35 H =>
 aQ t33 t35 H fun t36 H =>
 Bp call t0 t3 t4 t5 t8 t29 t36 H) (Bp call t0 t3 t4 t5 t8 t29 U H)
def Jk (call : aa) (n : Nat) : AV → AV → AV → AV → AV → AV → AV → AHeap → R :=
 Nat.rec (motive := fun _ => AV → AV → AV → AV → AV → AV → AV → AHeap → R) (fun _ _ _ _ _ _ _ _ => none) (fun _ q1 t0 t3 t4 t5 t11 t12 t13 H => aE t13 t12 H fun t14 H =>
 ab t14 (pIa 4 t11 t13 H fun t15 H =>
 ldK (.some 4) H t15 fun t16 H =>
 aB [(.str []), (.str []), (iN 0), .nilsl] H fun t7 H =>
 stK 4 H t7 t16 fun _ H =>
 ldK (.some 4) H t7 fun t19 H =>
 pC call GW [t0, t19] H fun t20 H =>
 pN (aM 4 1 [(.str []), (.str []), (iN 0), .nilsl] [(0, 4, t20)]) H fun t21 H =>
 pW (bz 4 64 H t5 t21) fun t22 H =>
 ay t13 (iN 1) H fun t23 H =>
 q1 t0 t3 t4 t22 t11 t12 t23 H) (Jl call t0 t3 t4 t5 H)) n
def Xn (call : aa) (t0 t1 : AV) (H : AHeap) : R :=
 ba t1 H fun t3 H =>
 aB [(.str []), (.str []), (iN 0), .nilsl] H fun t4 H =>
 pFa 3 t3 H fun t10 H =>
 ldK .none H t10 fun t11 H =>
 pO (aw .sl H t11) H fun t12 H =>
 Jk call 1000000 t0 t3 t4 .nilsl t11 t12 (iN 0) H
def a5m : Ff := ⟨fun call l H => ax (fun t0 t1 => Xn call t0 t1 H) l⟩
def Bo (call : aa) (t0 t17 : AV) (H : AHeap) : R :=
 pN (aM 1 1 [(iN 0)] [(0, 1, t17)]) H fun t123 H =>
 pC call F5 [t0, t123] H fun _ H =>
 some (.tup [], H)
def Xm (call : aa) (t0 t1 t2 : AV) (H : AHeap) : R :=
 ba t1 H fun t4 H =>
 ba t2 H fun t5 H =>
 pFa 0 t4 H fun t20 H =>
 ldK .none H t20 fun t21 H =>
 aj t21 (.str [100, 111, 116]) H fun t23 H =>
 ab t23 (pFa 3 t4 H fun t26 H =>
 ldK .none H t26 fun t27 H =>
 pIa 4 t27 (iN 0) H fun t28 H =>
 ldK (.some 4) H t28 fun t29 H =>
 pC call pw [t0, t29] H fun t30 H =>
 ao t30 0 H fun t31 H =>
 ao t30 1 H fun t32 H =>
 ldK (.some 4) H t5 fun t35 H =>
 pC call pw [t0, t35] H fun t36 H =>
 ao t36 0 H fun t37 H =>
 ao t36 1 H fun t38 H =>
 ldK (.some 4) H t4 fun t42 H =>
 pC call a7d [t0, t42] H fun t43 H =>
 pO (au (aG [(iN 0), (iN 0), (iN 0), (iN 0), (iN 0)] [(0, 1, (iN 28)), (1, 1, t31), (2, 1, t43), (3, 1, t37)])) H fun t45 H =>
 pC call n86 [t0, t45] H fun _ H =>
 pN (aM 1 2 [(iN 0)] [(0, 1, t32), (1, 1, t38)]) H fun t50 H =>
 pC call F5 [t0, t50] H fun _ H =>
 some (.tup [], H)) (aj t21 (.str [105, 110, 100, 101, 120]) H fun t53 H =>
 ab t53 (pFa 3 t4 H fun t56 H =>
 ldK .none H t56 fun t57 H =>
 pIa 4 t57 (iN 0) H fun t58 H =>
 ldK (.some 4) H t58 fun t59 H =>
 pC call pw [t0, t59] H fun t60 H =>
 ao t60 0 H fun t61 H =>
 ao t60 1 H fun t62 H =>
 pFa 3 t4 H fun t65 H =>
 ldK .none H t65 fun t66 H =>
 pIa 4 t66 (iN 1) H fun t67 H =>
 ldK (.some 4) H t67 fun t68 H =>
 pC call pw [t0, t68] H fun t69 H =>
 ao t69 0 H fun t70 H =>
 ao t69 1 H fun t71 H =>
 ldK (.some 4) H t5 fun t74 H =>
 pC call pw [t0, t74] H fun t75 H =>
 ao t75 0 H fun t76 H =>
 ao t75 1 H fun t77 H =>
 pO (au (aG [(iN 0), (iN 0), (iN 0), (iN 0), (iN 0)] [(0, 1, (iN 31)), (1, 1, t61), (2, 1, t70), (3, 1, t76)])) H fun t82 H =>
 pC call n86 [t0, t82] H fun _ H =>
 pN (aM 1 3 [(iN 0)] [(0, 1, t62), (1, 1, t71), (2, 1, t77)]) H fun t88 H =>
 pC call F5 [t0, t88] H fun _ H =>
 some (.tup [], H)) (ldK (.some 4) H t5 fun t92 H =>
 pC call pw [t0, t92] H fun t93 H =>
 ao t93 0 H fun t94 H =>
 ao t93 1 H fun t95 H =>
 pFa 1 t4 H fun t98 H =>
 ldK .none H t98 fun t99 H =>
 pC call F1 [t0, t99] H fun t100 H =>
 ao t100 0 H fun t101 H =>
 ao t100 1 H fun t102 H =>
 aB [(.str []), (.str []), (.str []), (iN 0), .nilsl, (iN 0)] H fun t18 H =>
 stK 6 H t18 t101 fun _ H =>
 ab t102 (pFa 5 t18 H fun t105 H =>
 ldK .none H t105 fun t106 H =>
 pO (au (aG [(iN 0), (iN 0), (iN 0), (iN 0), (iN 0)] [(0, 1, (iN 1)), (1, 1, t106), (2, 1, t94)])) H fun t108 H =>
 pC call n86 [t0, t108] H fun _ H =>
 Bo call t0 t95 H) (pO (af t0) H fun t112 H =>
 pFa 0 t112 H fun t113 H =>
 ldK .none H t113 fun t114 H =>
 pFa 1 t4 H fun t115 H =>
 ldK .none H t115 fun t116 H =>
 pC call LM [t114, (.str [103, 108, 111, 98, 97, 108]), t116] H fun t117 H =>
 pO (au (aG [(iN 0), (iN 0), (iN 0), (iN 0), (iN 0)] [(0, 1, (iN 35)), (1, 1, t117), (2, 1, t94)])) H fun t119 H =>
 pC call n86 [t0, t119] H fun _ H =>
 Bo call t0 t95 H)))
def a5l : Ff := ⟨fun call l H => aY (fun t0 t1 t2 => Xm call t0 t1 t2 H) l⟩
def Xl (call : aa) (t0 t1 : AV) (H : AHeap) : R :=
 pIa 4 t1 (iN 0) H fun t8 H =>
 ldK (.some 4) H t8 fun t9 H =>
 pC call Sn [t0, t9] H fun t10 H =>
 pIa 4 t1 (iN 1) H fun t13 H =>
 ldK (.some 4) H t13 fun t14 H =>
 pC call Sx [t0, t14, .nilsl] H fun _ H =>
 pIa 4 t1 (iN 2) H fun t17 H =>
 pFa 0 t17 H fun t18 H =>
 ldK .none H t18 fun t19 H =>
 aj t19 (.str [110, 111, 110, 101]) H fun t20 H =>
 ab t20 (pO (af t0) H fun t22 H =>
 pFa 4 t22 H fun t23 H =>
 ldK .none H t23 fun t24 H =>
 pC call pq [t0] H fun t27 H =>
 aR (aA (ckV (ah .none H t23) t24) true) (
 pIa 5 t24 t10 H fun t28 H =>
 pFa 1 t28 H fun t29 H =>
 stK 1 H t29 t27 fun _ H =>
 some (.tup [], H))) (pO (au (aG [(iN 0), (iN 0), (iN 0), (iN 0), (iN 0)] [(0, 1, (iN 18))])) H fun t31 H =>
 pC call n86 [t0, t31] H fun t32 H =>
 pO (af t0) H fun t34 H =>
 pFa 4 t34 H fun t35 H =>
 ldK .none H t35 fun t36 H =>
 pC call pq [t0] H fun t39 H =>
 aR (aA (ckV (ah .none H t35) t36) true) (
 pIa 5 t36 t10 H fun t40 H =>
 pFa 1 t40 H fun t41 H =>
 stK 1 H t41 t39 fun _ H =>
 pIa 4 t1 (iN 2) H fun t44 H =>
 ldK (.some 4) H t44 fun t45 H =>
 pC call Sx [t0, t45, .nilsl] H fun _ H =>
 pO (af t0) H fun t48 H =>
 pFa 4 t48 H fun t49 H =>
 ldK .none H t49 fun t50 H =>
 pC call pq [t0] H fun t53 H =>
 aR (aA (ckV (ah .none H t49) t50) true) (
 pIa 5 t50 t32 H fun t54 H =>
 pFa 1 t54 H fun t55 H =>
 stK 1 H t55 t53 fun _ H =>
 some (.tup [], H))))
def a5k : Ff := ⟨fun call l H => ax (fun t0 t1 => Xl call t0 t1 H) l⟩
def Xk (call : aa) (t0 t1 : AV) (H : AHeap) : R :=
 pC call pq [t0] H fun t7 H =>
 pIa 4 t1 (iN 0) H fun t10 H =>
 ldK (.some 4) H t10 fun t11 H =>
 pC call Sn [t0, t11] H fun t12 H =>
 pIa 4 t1 (iN 1) H fun t15 H =>
 ldK (.some 4) H t15 fun t16 H =>
 pC call Sx [t0, t16, .nilsl] H fun _ H =>
 pO (au (aG [(iN 0), (iN 0), (iN 0), (iN 0), (iN 0)] [(0, 1, (iN 18)), (1, 1, t7)])) H fun t20 H =>
 pC call n86 [t0, t20] H fun _ H =>
 pO (af t0) H fun t23 H =>
 pFa 4 t23 H fun t24 H =>
 ldK .none H t24 fun t25 H =>
 pC call pq [t0] H fun t28 H =>
 aR (aA (ckV (ah .none H t24) t25) true) (
 pIa 5 t25 t12 H fun t29 H =>
 pFa 1 t29 H fun t30 H =>
 stK 1 H t30 t28 fun _ H =>
 some (.tup [], H))
def a5j : Ff := ⟨fun call l H => ax (fun t0 t1 => Xk call t0 t1 H) l⟩
def Xj (call : aa) (t0 t1 : AV) (H : AHeap) : R :=
 ba t1 H fun t3 H =>
 pFa 0 t3 H fun t4 H =>
 ldK .none H t4 fun t5 H =>
 aj t5 (.str [110, 111, 110, 101]) H fun t6 H =>
 ab t6 (pO (au (aG [(iN 0), (iN 0), (iN 0), (iN 0), (iN 0)] [(0, 1, (iN 22)), (1, 1, (.int .i64 (.negSucc 0)))])) H fun t8 H =>
 pC call n86 [t0, t8] H fun _ H =>
 some (.tup [], H)) (ldK (.some 4) H t3 fun t11 H =>
 pC call a7C [t0, (iN 22), t11] H fun _ H =>
 some (.tup [], H))
def a5i : Ff := ⟨fun call l H => ax (fun t0 t1 => Xj call t0 t1 H) l⟩
def pe (call : aa) (t0 t8 t11 t15 : AV) (H : AHeap) : R :=
 pO (aw .sl H t8) H fun t114 H =>
 pC call a0c [t0, t15, t114] H fun _ H =>
 pN (aM 1 1 [(iN 0)] [(0, 1, t11)]) H fun t118 H =>
 pC call F5 [t0, t118] H fun _ H =>
 some (.tup [], H)
def Bn (call : aa) (t0 t2 t3 t8 t9 t10 t11 t15 t84 t86 : AV) (H : AHeap) : R :=
 ai t84 t86 (.bool false) H fun t87 H =>
 ab t87 (pO (au (aG [(iN 0), (iN 0), (iN 0), (iN 0), (iN 0)] [(0, 1, (iN 23)), (1, 1, t9), (2, 1, t15)])) H fun t91 H =>
 pC call n86 [t0, t91] H fun _ H =>
 pe call t0 t8 t11 t15 H) (ab t3 (pO (aw .sl H t8) H fun t99 H =>
 pO (au (aG [(iN 0), (iN 0), (iN 0), (iN 0), (iN 0)] [(0, 1, (iN 24)), (1, 1, t10), (2, 1, t15), (3, 1, t99)])) H fun t100 H =>
 pC call n86 [t0, t100] H fun _ H =>
 pe call t0 t8 t11 t15 H) (aQ t9 (.int .i64 (.negSucc 0)) H fun t104 H =>
 ab t104 (pO (au (aG [(iN 0), (iN 0), (iN 0), (iN 0), (iN 0)] [(0, 1, (iN 20)), (1, 1, t2), (2, 1, t9), (3, 1, t15)])) H fun t109 H =>
 pC call n86 [t0, t109] H fun _ H =>
 pe call t0 t8 t11 t15 H) (pO (aw .sl H t8) H fun t79 H =>
 pO (au (aG [(iN 0), (iN 0), (iN 0), (iN 0), (iN 0)] [(0, 1, (iN 21)), (1, 1, t2), (2, 1, t10), (3, 1, t15), (4, 1, t79)])) H fun t80 H =>
 pC call n86 [t0, t80] H fun _ H =>
 pe call t0 t8 t11 t15 H)))
def Jj (call : aa) (t0 t2 t3 t8 t9 t10 t11 t15 : AV) (H : AHeap) : R :=
 ae t3 true (aQ t9 (.int .i64 (.negSucc 0)) H fun t86 H =>
 Bn call t0 t2 t3 t8 t9 t10 t11 t15 t3 t86 H) (Bn call t0 t2 t3 t8 t9 t10 t11 t15 t3 U H)
def Ji (call : aa) (n : Nat) : AV → AV → AV → AV → AV → AV → AV → AV → AV → AV → AV → AHeap → R :=
 Nat.rec (motive := fun _ => AV → AV → AV → AV → AV → AV → AV → AV → AV → AV → AV → AHeap → R) (fun _ _ _ _ _ _ _ _ _ _ _ _ => none) (fun _ q0 t0 t2 t3 t8 t9 t10 t11 t15 t60 t61 t62 H => aE t62 t61 H fun t63 H =>
 ab t63 (pIa 4 t60 t62 H fun t65 H =>
 ldK (.some 4) H t65 fun t66 H =>
 aB [(.str []), (.str []), (iN 0), .nilsl] H fun t17 H =>
 stK 4 H t17 t66 fun _ H =>
 ldK (.some 4) H t17 fun t68 H =>
 ay t15 t62 H fun t71 H =>
 pC call LQ [t0, t68, t71] H fun _ H =>
 ay t62 (iN 1) H fun t73 H =>
 q0 t0 t2 t3 t8 t9 t10 t11 t15 t60 t61 t73 H) (Jj call t0 t2 t3 t8 t9 t10 t11 t15 H)) n
def Jh (call : aa) (t0 t2 t3 t8 t9 t10 t11 t12 : AV) (H : AHeap) : R :=
 pC call a0d [t0, t12] H fun t59 H =>
 pO (aw .sl H t8) H fun t61 H =>
 Ji call 1000000 t0 t2 t3 t8 t9 t10 t11 t59 t8 t61 (iN 0) H
def Jg (call : aa) (n : Nat) : AV → AV → AV → AV → AV → AV → AV → AV → AV → AV → AV → AHeap → R :=
 Nat.rec (motive := fun _ => AV → AV → AV → AV → AV → AV → AV → AV → AV → AV → AV → AHeap → R) (fun _ _ _ _ _ _ _ _ _ _ _ _ => none) (fun _ q1 t0 t2 t3 t8 t9 t10 t11 t12 t45 t46 t47 H => aE t47 t46 H fun t48 H =>
 ab t48 (pIa 4 t45 t47 H fun t49 H =>
 ldK (.some 4) H t49 fun t50 H =>
 aB [(.str []), (.str []), (iN 0), .nilsl] H fun t14 H =>
 stK 4 H t14 t50 fun _ H =>
 ldK (.some 4) H t14 fun t52 H =>
 pC call n81 [t52] H fun t53 H =>
 pN (aM 1 1 [(.bool false)] [(0, 1, t53)]) H fun t54 H =>
 pW (bz 1 1 H t12 t54) fun t55 H =>
 ay t47 (iN 1) H fun t56 H =>
 q1 t0 t2 t3 t8 t9 t10 t11 t55 t45 t46 t56 H) (Jh call t0 t2 t3 t8 t9 t10 t11 t12 H)) n
def Bl (call : aa) (t0 t2 t3 t5 t8 t9 t10 t11 : AV) (H : AHeap) : R :=
 pFa 3 t5 H fun t39 H =>
 ldK .none H t39 fun t40 H =>
 pIa 4 t40 (iN 0) H fun t41 H =>
 ldK (.some 4) H t41 fun t42 H =>
 pC call a7c [t0, t42] H fun t43 H =>
 pO (rL 3 .none t43) H fun t44 H =>
 pO (bT 4 H t44 (.some (iN 1)) .none .none) H fun t45 H =>
 pO (aw .sl H t45) H fun t46 H =>
 Jg call 1000000 t0 t2 t3 t8 t9 t10 t11 .nilsl t45 t46 (iN 0) H
def Xi (call : aa) (t0 t1 t2 t3 : AV) (H : AHeap) : R :=
 ba t1 H fun t5 H =>
 pFa 3 t5 H fun t18 H =>
 ldK .none H t18 fun t19 H =>
 pO (bT 4 H t19 (.some (iN 1)) .none .none) H fun t20 H =>
 pFa 3 t5 H fun t22 H =>
 ldK .none H t22 fun t23 H =>
 pIa 4 t23 (iN 0) H fun t24 H =>
 ldK (.some 4) H t24 fun t25 H =>
 pC call a0e [t0, t25] H fun t26 H =>
 aj t26 (.int .i64 (.negSucc 0)) H fun t28 H =>
 ab t28 (pFa 3 t5 H fun t31 H =>
 ldK .none H t31 fun t32 H =>
 pIa 4 t32 (iN 0) H fun t33 H =>
 ldK (.some 4) H t33 fun t34 H =>
 pC call pw [t0, t34] H fun t35 H =>
 ao t35 0 H fun t36 H =>
 ao t35 1 H fun t37 H =>
 Bl call t0 t2 t3 t5 t20 t26 t36 t37 H) (Bl call t0 t2 t3 t5 t20 t26 (.int .i64 (.negSucc 0)) (.int .i64 (.negSucc 0)) H)
def a5h : Ff := ⟨fun call l H => dh (fun t0 t1 t2 t3 => Xi call t0 t1 t2 t3 H) l⟩
def Jf (_ : aa) (n : Nat) : AV → AV → AV → AV → AV → AHeap → R :=
 Nat.rec (motive := fun _ => AV → AV → AV → AV → AV → AHeap → R) (fun _ _ _ _ _ _ => none) (fun _ q0 t3 t6 t64 t65 t66 H => aE t66 t65 H fun t67 H =>
 ab t67 (pIa 1 t64 t66 H fun t68 H =>
 ldK .none H t68 fun t69 H =>
 ldK .none H t3 fun t71 H =>
 pIa 1 t71 t69 H fun t73 H =>
 ldK .none H t73 fun t74 H =>
 pOr t6 t74 H fun t75 H =>
 ay t66 (iN 1) H fun t76 H =>
 q0 t3 t75 t64 t65 t76 H) (some (t6, H))) n
def Je (call : aa) (t0 t1 t2 t3 t6 : AV) (H : AHeap) : R :=
 ldK (.some 6) H t2 fun t61 H =>
 ldK (.some 7) H t1 fun t62 H =>
 pC call a12 [t61, t62, t0] H fun t64 H =>
 pO (aw .sl H t64) H fun t65 H =>
 Jf call 1000000 t3 t6 t64 t65 (iN 0) H
def sP (_ : aa) (q1 : AV → AV → AV → AV → AV → AV → AHeap → R) (t1 t3 t6 t23 t24 t25 : AV) (H : AHeap) : R :=
 ay t25 (iN 1) H fun t59 H =>
 q1 t1 t3 t6 t23 t24 t59 H
def Bk (call : aa) (q1 : AV → AV → AV → AV → AV → AV → AHeap → R) (t1 t3 t6 t9 t23 t24 t25 t32 t38 : AV) (H : AHeap) : R :=
 ai t32 (.bool true) t38 H fun t39 H =>
 ab t39 (sP call q1 t1 t3 t6 t23 t24 t25 H) (ldK .none H t3 fun t40 H =>
 pFa 3 t9 H fun t41 H =>
 ldK .none H t41 fun t42 H =>
 pIa 1 t40 t42 H fun t43 H =>
 ldK .none H t43 fun t44 H =>
 pFa 0 t9 H fun t45 H =>
 ldK .none H t45 fun t46 H =>
 aj t46 (iN 0) H fun t47 H =>
 ab t47 (pFa 2 t9 H fun t50 H =>
 ldK .none H t50 fun t51 H =>
 pN (aM 1 1 [(iN 0)] [(0, 1, t51)]) H fun t52 H =>
 pC call a0J [t52] H fun t53 H =>
 jl t44 t53 H fun t54 H =>
 pOr t6 t54 H fun t55 H =>
 sP call q1 t1 t3 t55 t23 t24 t25 H) (pOr t6 t44 H fun t58 H =>
 sP call q1 t1 t3 t58 t23 t24 t25 H))
def sQ (call : aa) (n : Nat) : AV → AV → AV → AV → AV → AV → AHeap → R :=
 Nat.rec (motive := fun _ => AV → AV → AV → AV → AV → AV → AHeap → R) (fun _ _ _ _ _ _ _ => none) (fun _ q1 t1 t3 t6 t23 t24 t25 H => aE t25 t24 H fun t26 H =>
 ab t26 (pIa 4 t23 t25 H fun t27 H =>
 ldK (.some 4) H t27 fun t28 H =>
 aB [(iN 0), (iN 0), (iN 0), (iN 0)] H fun t9 H =>
 stK 4 H t9 t28 fun _ H =>
 pFa 3 t9 H fun t29 H =>
 ldK .none H t29 fun t30 H =>
 aE t30 (iN 0) H fun t31 H =>
 ae t31 false (pFa 3 t9 H fun t33 H =>
 ldK .none H t33 fun t34 H =>
 pFa 5 t1 H fun t35 H =>
 ldK .none H t35 fun t36 H =>
 pO (aw .sl H t36) H fun t37 H =>
 aZ t34 t37 H fun t38 H =>
 Bk call q1 t1 t3 t6 t9 t23 t24 t25 t31 t38 H) (Bk call q1 t1 t3 t6 t9 t23 t24 t25 t31 U H)) (some (t6, H))) n
def Xh (call : aa) (t0 t1 t2 t3 : AV) (H : AHeap) : R :=
 pFa 5 t1 H fun t13 H =>
 ldK .none H t13 fun t14 H =>
 pIa 5 t14 t0 H fun t16 H =>
 ldK (.some 5) H t16 fun t17 H =>
 aB [(iN 0), (iN 0), (iN 0), (iN 0), (iN 0)] H fun t7 H =>
 stK 5 H t7 t17 fun _ H =>
 pFa 0 t7 H fun t18 H =>
 ldK .none H t18 fun t19 H =>
 aj t19 (iN 41) H fun t20 H =>
 ab t20 (ldK (.some 6) H t2 fun t21 H =>
 ldK (.some 5) H t7 fun t22 H =>
 pC call a0K [t21, t22] H fun t23 H =>
 pO (aw .sl H t23) H fun t24 H =>
 sQ call 1000000 t1 t3 (.int .u64 (.ofNat 0)) t23 t24 (iN 0) H) (Je call t0 t1 t2 t3 (.int .u64 (.ofNat 0)) H)
def a5g : Ff := ⟨fun call l H => dh (fun t0 t1 t2 t3 => Xh call t0 t1 t2 t3 H) l⟩
def Bj (_ : aa) (q0 : AV → AV → AV → AV → AHeap → R) (t3 t6 t7 t8 : AV) (H : AHeap) : R :=
 ay t8 (iN 1) H fun t23 H =>
 q0 t3 t6 t7 t23 H
def Bi (call : aa) (q0 : AV → AV → AV → AV → AHeap → R) (t3 t5 t6 t7 t8 t14 t16 : AV) (H : AHeap) : R :=
 ai t14 t16 (.bool false) H fun t17 H =>
 ab t17 (aU .u64 t5 H fun t20 H =>
 pO (aW .shl (.int .u64 (.ofNat 1)) t20) H fun t21 H =>
 pOr t3 t21 H fun t22 H =>
 Bj call q0 t22 t6 t7 t8 H) (Bj call q0 t3 t6 t7 t8 H)
def sN (call : aa) (n : Nat) : AV → AV → AV → AV → AHeap → R :=
 Nat.rec (motive := fun _ => AV → AV → AV → AV → AHeap → R) (fun _ _ _ _ _ => none) (fun _ q0 t3 t6 t7 t8 H => aE t8 t7 H fun t9 H =>
 ab t9 (pIa 1 t6 t8 H fun t10 H =>
 ldK .none H t10 fun t11 H =>
 aZ t11 (iN 0) H fun t13 H =>
 ae t13 true (aE t11 (iN 64) H fun t16 H =>
 Bi call q0 t3 t11 t6 t7 t8 t13 t16 H) (Bi call q0 t3 t11 t6 t7 t8 t13 U H)) (some (t3, H))) n
def Xf (call : aa) (t0 : AV) (H : AHeap) : R :=
 pO (aw .sl H t0) H fun t7 H =>
 sN call 1000000 (.int .u64 (.ofNat 0)) t0 t7 (iN 0) H
def a5e : Ff := ⟨fun call l H => az (fun t0 => Xf call t0 H) l⟩
def Bh (call : aa) (t1 t3 t47 t49 : AV) (H : AHeap) : R :=
 ai t47 (.bool true) t49 H fun t50 H =>
 ab t50 (pFa 1 t1 H fun t51 H =>
 ldK .none H t51 fun t52 H =>
 pN (aM 1 1 [(iN 0)] [(0, 1, t52)]) H fun t53 H =>
 pC call a0b [t53] H fun t54 H =>
 some (t54, H)) (aj t3 (iN 39) H fun t57 H =>
 ab t57 (pFa 1 t1 H fun t58 H =>
 ldK .none H t58 fun t59 H =>
 pFa 3 t1 H fun t60 H =>
 ldK .none H t60 fun t61 H =>
 pN (aM 1 2 [(iN 0)] [(0, 1, t59), (1, 1, t61)]) H fun t62 H =>
 pC call a0b [t62] H fun t63 H =>
 some (t63, H)) (some (.nilsl, H)))
def Bg (call : aa) (t1 t3 t37 t39 : AV) (H : AHeap) : R :=
 ai t37 (.bool true) t39 H fun t40 H =>
 ab t40 (pFa 1 t1 H fun t41 H =>
 ldK .none H t41 fun t42 H =>
 pN (aM 1 1 [(iN 0)] [(0, 1, t42)]) H fun t43 H =>
 some (t43, H)) (aj t3 (iN 20) H fun t46 H =>
 ae t46 false (aj t3 (iN 21) H fun t49 H =>
 Bh call t1 t3 t46 t49 H) (Bh call t1 t3 t46 U H))
def Bf (call : aa) (t1 t3 t33 t35 : AV) (H : AHeap) : R :=
 ai t33 (.bool true) t35 H fun t36 H =>
 ae t36 false (aj t3 (iN 37) H fun t39 H =>
 Bg call t1 t3 t36 t39 H) (Bg call t1 t3 t36 U H)
def Be (call : aa) (t1 t3 t29 t31 : AV) (H : AHeap) : R :=
 ai t29 (.bool true) t31 H fun t32 H =>
 ae t32 false (aj t3 (iN 36) H fun t35 H =>
 Bf call t1 t3 t32 t35 H) (Bf call t1 t3 t32 U H)
def Bd (call : aa) (t1 t3 t25 t27 : AV) (H : AHeap) : R :=
 ai t25 (.bool true) t27 H fun t28 H =>
 ae t28 false (aj t3 (iN 34) H fun t31 H =>
 Be call t1 t3 t28 t31 H) (Be call t1 t3 t28 U H)
def Bc (call : aa) (t1 t3 t21 t23 : AV) (H : AHeap) : R :=
 ai t21 (.bool true) t23 H fun t24 H =>
 ae t24 false (aj t3 (iN 33) H fun t27 H =>
 Bd call t1 t3 t24 t27 H) (Bd call t1 t3 t24 U H)
def Bb (call : aa) (t1 t3 t13 t19 : AV) (H : AHeap) : R :=
 ai t13 (.bool true) t19 H fun t20 H =>
 ae t20 false (aj t3 (iN 30) H fun t23 H =>
 Bc call t1 t3 t20 t23 H) (Bc call t1 t3 t20 U H)
def Ba (call : aa) (t1 t3 t13 t16 t18 : AV) (H : AHeap) : R :=
 ae t13 false (ai t16 t18 (.bool false) H fun t19 H =>
 Bb call t1 t3 t13 t19 H) (Bb call t1 t3 t13 U H)
def B9 (call : aa) (t1 t3 t13 t16 : AV) (H : AHeap) : R :=
 ae t16 true (dv t3 (iN 27) H fun t18 H =>
 Ba call t1 t3 t13 t16 t18 H) (Ba call t1 t3 t13 t16 U H)
def B8 (call : aa) (t1 t3 t9 t11 : AV) (H : AHeap) : R :=
 ai t9 t11 (.bool false) H fun t12 H =>
 ae t12 false (aZ t3 (iN 25) H fun t15 H =>
 B9 call t1 t3 t12 t15 H) (B9 call t1 t3 t12 U H)
def Pk (call : aa) (t0 : AV) (H : AHeap) : R :=
 ba t0 H fun t1 H =>
 pFa 0 t1 H fun t4 H =>
 ldK .none H t4 fun t5 H =>
 aZ t5 (iN 0) H fun t8 H =>
 ae t8 true (dv t5 (iN 17) H fun t11 H =>
 B8 call t1 t5 t8 t11 H) (B8 call t1 t5 t8 U H)
def a5d : Ff := ⟨fun call l H => az (fun t0 => Pk call t0 H) l⟩
def fV (call : aa) (t0 t4 : AV) (H : AHeap) : R :=
 ab t4 (some ((.bool true), H)) (pC call a0I [t0] H fun t14 H =>
 some (t14, H))
def Xe (call : aa) (t0 : AV) (H : AHeap) : R :=
 aj t0 (iN 20) H fun t5 H =>
 ab t5 (fV call t0 t5 H) (aj t0 (iN 21) H fun t6 H =>
 ab t6 (fV call t0 t6 H) (aj t0 (iN 23) H fun t7 H =>
 ab t7 (fV call t0 t7 H) (aj t0 (iN 24) H fun t8 H =>
 ab t8 (fV call t0 t8 H) (aj t0 (iN 38) H fun t9 H =>
 ab t9 (fV call t0 t9 H) (aj t0 (iN 39) H fun t10 H =>
 ab t10 (fV call t0 t10 H) (aj t0 (iN 41) H fun t11 H =>
 ab t11 (fV call t0 t11 H) (aj t0 (iN 43) H fun t12 H =>
 fV call t0 t12 H)))))))
def a5c : Ff := ⟨fun call l H => az (fun t0 => Xe call t0 H) l⟩
def B7 (_ : aa) (t13 t15 : AV) (H : AHeap) : R :=
 ai t13 (.bool true) t15 H fun t16 H =>
 some (t16, H)
def B6 (call : aa) (t0 t9 t11 : AV) (H : AHeap) : R :=
 ai t9 (.bool true) t11 H fun t12 H =>
 ae t12 false (aj t0 (iN 37) H fun t15 H =>
 B7 call t12 t15 H) (B7 call t12 U H)
def B5 (call : aa) (t0 t5 t7 : AV) (H : AHeap) : R :=
 ai t5 (.bool true) t7 H fun t8 H =>
 ae t8 false (aj t0 (iN 36) H fun t11 H =>
 B6 call t0 t8 t11 H) (B6 call t0 t8 U H)
def Xd (call : aa) (t0 : AV) (H : AHeap) : R :=
 aj t0 (iN 25) H fun t4 H =>
 ae t4 false (aj t0 (iN 26) H fun t7 H =>
 B5 call t0 t4 t7 H) (B5 call t0 t4 U H)
def a5b : Ff := ⟨fun call l H => az (fun t0 => Xd call t0 H) l⟩
def B4 (_ : aa) (t0 t1 t5 t8 t12 : AV) (H : AHeap) : R :=
 ai t8 t12 (.bool false) H fun t13 H =>
 ab t13 (ldK (.some 3) H t5 fun t16 H =>
 pIa 3 t0 t1 H fun t17 H =>
 stK 3 H t17 t16 fun _ H =>
 some (.tup [], H)) (some (.tup [], H))
def Xc (call : aa) (t0 t1 t2 : AV) (H : AHeap) : R :=
 ba t2 H fun t5 H =>
 aZ t1 (iN 0) H fun t7 H =>
 ae t7 true (pO (aw .sl H t0) H fun t11 H =>
 aE t1 t11 H fun t12 H =>
 B4 call t0 t1 t5 t7 t12 H) (B4 call t0 t1 t5 t7 U H)
def a5a : Ff := ⟨fun call l H => aY (fun t0 t1 t2 => Xc call t0 t1 t2 H) l⟩
end
end Go.Proofs.YtcolbcpeialmhaaGreatDoor
