/- The program's functions, as the abstract machine runs them (only the code that these runs reach). -/
import Derived.Test.YtejhenloolgmkaaGreatDoorLitA
namespace Go.Proofs.YtejhenloolgmkaaGreatDoor
open Go
set_option linter.all false
noncomputable section
namespace AM
def L391 : LFun := ⟨[s0, s1],
 (.seq (R [.o s2 (.box 163 a0), .o s4 (.alloc [(.b false), .sl0] 163)])
 (.seq (R [.o s6 (.ldn 2 a2), V s7 a1, .o s8 (.call 447 [a6, a7]), V s5 a8, .o s9 (.extract 0 a5), .o s10 (.extract 1 a5), .n (.st 2 a2 a9)])
 (.seq (R [.o s11 (.ldn 2 a2), .n (.st 2 a4 a11)])
 .ret))),
 [.cn s4 2]⟩
def L392 : LFun := ⟨[s0, s1],
 (.seq (R [V s4 (ci 0)])
 (.seq (.seq (R [V s6 a0, .o s7 (.lenV a6), V s8 (ci 0)])
 (.block 0 (.loop (.seq (R [.o s9 (.ilt a8 a7)])
 (.seq (.cond a9 .skip (.exit 0))
 (.seq (.block 1 (.seq (R [V s10 a8, V s5 a10])
 (.seq (R [V s11 a1, V s12 a0, V s13 a5, .o s14 (.iaddr 1 a12 a13), .o s15 (.ld1 a14), .o s16 (.callv a11 [a15])])
 (.cond a16 .bad .skip))))
 (R [.o s18 (.iadd a8 (ci 1)), V s8 a18])))))))
 (.seq (R [V s4 (ci 18446744073709551615)])
 .ret))),
 [.tmp s4]⟩
def L393 : LFun := ⟨[s0, s1],
 (.seq (R [V s4 (.c .sl0), V s5 (.c (.b false))])
 (.seq (.seq (R [V s10 a0, .o s11 (.lenV a10), V s12 a1, .o s13 (.eq true 0 a11 a12)])
 (.cond a13 .bad .skip))
 (.seq (R [V s14 a1, .o s15 (.mks 3 1 [(.i .i64 0)] a14 a14), V s6 a15])
 (.seq (R [V s16 a1, .o s17 (.mks 4 1 [(.b false)] a16 a16), V s7 a17])
 (.seq (.seq (R [V s18 a0, .o s19 (.lenV a18), V s20 (ci 0)])
 (.block 0 (.loop (.seq (R [.o s21 (.ilt a20 a19)])
 (.seq (.cond a21 .skip (.exit 0))
 (.seq (.block 1 (.seq (R [V s22 a20, .o s23 (.iaddr 1 a18 a20), .o s24 (.ld1 a23), V s8 a22, V s9 a24])
 (.seq (.seq (R [V s25 a9, .o s26 (.ilt a25 (ci 0)), V s27 a26, .g s27 false s28 (.mv a9), .g s27 false s29 (.mv a1), .g s27 false s30 (.ige a28 a29), .o s31 (.pick a27 (.c (.b true)) a30), V s32 a31, .g s32 false s33 (.mv a7), .g s32 false s34 (.mv a9), .g s32 false s35 (.iaddr 1 a33 a34), .g s32 false s36 (.ld1 a35), .o s37 (.pick a32 (.c (.b true)) a36)])
 (.cond a37 .bad .skip))
 (R [V s38 a6, V s39 a9, V s40 a7, V s41 a9, V s42 a8, .o s43 (.iaddr 1 a38 a39), .n (.st 1 a43 a42), .o s44 (.iaddr 1 a40 a41), .n (.st 1 a44 (.c (.b true)))]))))
 (R [.o s45 (.iadd a20 (ci 1)), V s20 a45])))))))
 (.seq (R [V s46 a6, V s4 a46, V s5 (.c (.b true))])
 .ret)))))),
 [.tmp s4, .tmp s5]⟩
def L394 : LFun := ⟨[s0, s1],
 (.seq (R [.o s2 (.box 123 a0), .o s4 (.alloc [.sl0] 123), V s5 (ci 0)])
 (.seq (R [.o s7 (.ldn 1 a2), V s8 a1, .o s9 (.call 508 [a7, a8]), V s6 a9])
 (.seq (.seq (R [V s10 a6, .o s11 (.eq true 0 a10 (ci 0))])
 (.cond a11 .bad .skip))
 (.seq (R [.o s14 (.ldn 1 a2), V s15 a1, .o s16 (.call 509 [a14, a15]), .n (.st 1 a4 a16), V s5 (ci 0)])
 .ret)))),
 [.cn s4 1, .tmp s5]⟩
def L395 : LFun := ⟨[s0],
 (.seq (R [.o s1 (.box 123 a0), V s2 (.c .sl0), V s3 (ci 0)])
 (.seq (R [.o s11 (.ldn 1 a1), .o s12 (.call 510 [a11]), V s10 a12, .o s13 (.extract 0 a10), .o s14 (.extract 1 a10), V s4 a13, V s5 a14])
 (.seq (.seq (R [V s15 a5, .o s16 (.eq true 0 a15 (ci 0))])
 (.cond a16 .bad .skip))
 (.seq (R [V s18 a4, .o s19 (.lenV a18), .o s20 (.mks 39 1 [.sl0] a19 a19), V s6 a20])
 (.seq (.seq (R [V s21 a4, .o s22 (.lenV a21), V s23 (ci 0)])
 (.block 0 (.loop (.seq (R [.o s24 (.ilt a23 a22)])
 (.seq (.cond a24 .skip (.exit 0))
 (.seq (.block 1 (.seq (R [V s25 a23, V s7 a25])
 (.seq (R [.o s26 (.ldn 1 a1), V s27 a4, V s28 a7, .o s29 (.call 511 [a26, a27, a28]), .o s30 (.lenV a29), V s31 (ci 0)])
 (.block 2 (.loop (.seq (R [.o s32 (.ilt a31 a30)])
 (.seq (.cond a32 .skip (.exit 2))
 (.seq (.block 3 (.seq (R [.o s33 (.iaddr 1 a29 a31), .o s34 (.ld1 a33), V s9 a34])
 (R [V s35 a6, V s36 a9, V s37 a6, V s38 a9, .o s39 (.iaddr 1 a37 a38), .o s40 (.ld1 a39), V s41 a7, .o s42 (.bslice 3 1 1 [(.i .i64 0)] [(0, 1, a41)]), .o s43 (.append 1 3 a40 a42), .o s44 (.iaddr 1 a35 a36), .n (.st 1 a44 a43)])))
 (R [.o s45 (.iadd a31 (ci 1)), V s31 a45])))))))))
 (R [.o s46 (.iadd a23 (ci 1)), V s23 a46])))))))
 (.seq (R [V s47 a6, V s2 a47, V s3 (ci 0)])
 .ret)))))),
 [.tmp s2, .tmp s3]⟩
def L396 : LFun := ⟨[s0, s1, s2, s3],
 (.seq (R [.o s8 (.alloc [(.b false), (.b false), .sl0, (.i .i64 0)] 165)])
 (.seq (R [V s14 a1, V s15 a2, V s16 a3, .o s17 (.call 512 [a14, a15, a16]), .o s18 (.bslice 165 1 4 [(.b false), (.b false), .sl0, (.i .i64 0)] [(0, 4, a17)]), V s9 a18])
 (.seq (.seq (R [V s19 a0, .o s20 (.nilc a19), .o s21 (.faddr 3 a20), .o s22 (.ld1 a21), V s23 a3, .o s24 (.iaddr 1 a22 a23), .o s25 (.ld1 a24), .o s26 (.lenV a25), V s27 (ci 0)])
 (.block 0 (.loop (.seq (R [.o s28 (.ilt a27 a26)])
 (.seq (.cond a28 .skip (.exit 0))
 .bad)))))
 (.seq (R [V s60 a9, .o s61 (.call 258 [a60]), .n (.st 4 a8 a61)])
 .ret)))),
 [.cn s8 4]⟩
def L397 : LFun := ⟨[s0, s1],
 (.seq (R [.o s2 (.box 165 a0), V s4 (.c (.i .u64 0))])
 (.seq (R [.o s5 (.ldn 4 a2), .o s6 (.call 384 [a5]), .n (.st 4 a2 a6)])
 (.seq (.block 0 (.seq (R [.o s8 (.faddr 0 a2), .o s9 (.ld1 a8), V s10 a9, .g s10 false s11 (.ldn 4 a2), .g s10 false s12 (.call 385 [a11]), .g s10 false s13 (.ilt a12 (ci 0)), .o s14 (.pick a10 (.c (.b true)) a13), V s7 a14])
 (.cond a7 .bad (.seq (R [.o s16 (.ldn 4 a2), .o s17 (.call 385 [a16]), .o s18 (.eq false 0 a17 (ci 0)), V s15 a18])
 (.cond a15 .bad .skip)))))
 (.seq (R [.o s19 (.ldn 4 a2), .o s20 (.call 514 [a19, (ci 56)]), V s21 a1, .o s22 (.call 386 [a20, a21]), V s4 a22])
 .ret)))),
 [.tmp s4]⟩
def L398 : LFun := ⟨[s0],
 (.seq (R [V s2 (ci 0)])
 (.seq (R [V s6 a0, .o s7 (.call 375 [a6]), V s5 a7, .o s8 (.extract 0 a5), .o s9 (.extract 1 a5), V s3 a8, V s4 a9])
 (.seq (.block 0 (.seq (R [V s11 a3, .o s12 (.eq false 0 a11 (ci 2047)), V s13 a12, .g s13 true s14 (.mv a4), .g s13 true s15 (.eq true 0 a14 (.c (.i .u64 0))), .o s16 (.pick a13 a15 (.c (.b false))), V s10 a16])
 (.cond a10 .bad (.seq (R [V s18 a3, .o s19 (.eq false 0 a18 (ci 2047)), V s17 a19])
 (.cond a17 .bad (.seq (R [V s21 a3, .o s22 (.eq false 0 a21 (ci 0)), V s23 a22, .g s23 true s24 (.mv a4), .g s23 true s25 (.eq false 0 a24 (.c (.i .u64 0))), .o s26 (.pick a23 a25 (.c (.b false))), V s20 a26])
 (.cond a20 .bad .skip)))))))
 (.seq (R [V s2 (ci 1)])
 .ret)))),
 [.tmp s2]⟩
def L399 : LFun := ⟨[s0],
 (.seq (R [.o s1 (.box 42 a0), V s2 (.c .sl0)])
 (.seq (R [V s3 (.c .sl0)])
 (.seq (.seq (R [.o s6 (.faddr 1 a1), .o s7 (.ld1 a6), V s8 (ci 0)])
 (.block 0 (.loop (.seq (R [.o s9 (.ilt a8 a7)])
 (.seq (.cond a9 .skip (.exit 0))
 (.seq (.block 1 (.seq (R [V s10 a8, V s4 a10])
 (.seq (R [.o s11 (.faddr 2 a1), .o s12 (.ld1 a11), V s13 a4, .o s14 (.iaddr 1 a12 a13), .o s15 (.ld1 a14), V s5 a15])
 (.block 2 (.loop (.seq (.seq (R [V s16 a5, .o s17 (.faddr 2 a1), .o s18 (.ld1 a17), V s19 a4, .o s20 (.iadd a19 (ci 1)), .o s21 (.iaddr 1 a18 a20), .o s22 (.ld1 a21), .o s23 (.ilt a16 a22)])
 (.cond a23 .skip (.exit 2)))
 (.seq (.block 3 (.draw 1 [.q 0 0 (V s26 a3), .q 1 0 (.o s27 (.faddr 3 a1)), .r 2 2 (.o s28 (.ld1 a27)), .q 3 0 (V s29 a5), .q 4 14 (.o s30 (.iaddr 1 a28 a29)), .r 5 30 (.o s31 (.ld1 a30)), .q 6 0 (V s32 a4), .q 7 0 (.o s33 (.faddr 4 a1)), .r 8 128 (.o s34 (.ld1 a33)), .q 9 0 (V s35 a5), .q 10 896 (.o s36 (.iaddr 1 a34 a35)), .r 11 1920 (.o s37 (.ld1 a36)), .q 12 4094 (.o s38 (.build [(.i .i64 0), (.i .i64 0), (.i .u64 0)] [(0, 1, a31), (1, 1, a32), (2, 1, a37)])), .a 13 8190 0 (.o s39 (.bslice 115 1 3 [(.i .i64 0), (.i .i64 0), (.i .u64 0)] [(0, 3, a38)])), .s 14 16383 (.o s40 (.append 3 115 a26 a39)), .q 15 32767 (V s3 a40)]))
 (R [V s24 a5, .o s25 (.iadd a24 (ci 1)), V s5 a25]))))))))
 (R [.o s41 (.iadd a8 (ci 1)), V s8 a41])))))))
 (.seq (R [V s42 a3, V s2 a42])
 .ret)))),
 [.tmp s2]⟩
def L400 : LFun := ⟨[s0],
 (.seq (R [V s2 (.c .sl0)])
 (.seq (R [V s5 a0, .o s6 (.mks 172 1 [.sl0] a5 a5), V s3 a6])
 (.seq (.seq (R [V s7 a3, .o s8 (.lenV a7), V s9 (ci 0)])
 (.block 0 (.loop (.seq (R [.o s10 (.ilt a9 a8)])
 (.seq (.cond a10 .skip (.exit 0))
 (.seq (.block 1 (.seq (R [V s11 a9, V s4 a11])
 (R [V s12 a3, V s13 a4, V s14 a0, .o s15 (.mks 4 1 [(.b false)] a14 a14), .o s16 (.iaddr 1 a12 a13), .n (.st 1 a16 a15)])))
 (R [.o s17 (.iadd a9 (ci 1)), V s9 a17])))))))
 (.seq (R [V s18 a3, V s2 a18])
 .ret)))),
 [.tmp s2]⟩
def L401 : LFun := ⟨[s0],
 (.seq (R [.o s1 (.box 42 a0), V s2 (.c .sl0)])
 (.seq (.seq (R [.o s3 (.ldn 5 a1), .o s4 (.call 284 [a3]), .o s5 (.eq true 0 a4 (ci 0))])
 (.cond a5 .bad .skip))
 (.seq (R [.o s6 (.ldn 5 a1), .o s7 (.call 399 [a6]), V s2 a7])
 .ret))),
 [.tmp s2]⟩
def L402 : LFun := ⟨[s0, s1, s2],
 (.seq (R [V s6 a1, V s7 a2, .o s8 (.eq true 0 a6 a7)])
 (.cond a8 .bad .skip)),
 []⟩
def L403 : LFun := ⟨[s0],
 (.seq (R [.o s2 (.alloc [.sl0] 123)])
 (.seq (R [V s5 a0, .o s6 (.lenV a5), .o s7 (.mks 39 1 [.sl0] a6 a6), .o s8 (.build [.sl0] [(0, 1, a7)]), .o s3 (.alloc [.sl0] 123), .n (.st 1 a3 a8)])
 (.seq (.seq (R [V s9 a0, .o s10 (.lenV a9), V s11 (ci 0)])
 (.block 0 (.loop (.seq (R [.o s12 (.ilt a11 a10)])
 (.seq (.cond a12 .skip (.exit 0))
 (.seq (.block 1 (.seq (R [V s13 a11, V s4 a13])
 (.draw 0 [.q 0 0 (.o s14 (.faddr 0 a3)), .r 1 1 (.o s15 (.ld1 a14)), .q 2 0 (V s16 a4), .q 3 0 (V s17 a0), .q 4 0 (V s18 a4), .s 5 24 (.o s19 (.call 515 [a17, a18])), .q 6 63 (.o s20 (.iaddr 1 a15 a16)), .s 7 127 (.n (.st 1 a20 a19))])))
 (R [.o s21 (.iadd a11 (ci 1)), V s11 a21])))))))
 (.seq (R [.o s22 (.ldn 1 a3), .n (.st 1 a2 a22)])
 .ret)))),
 [.cn s2 1]⟩
def L404 : LFun := ⟨[s0],
 (.seq (R [.o s1 (.box 123 a0), V s2 (.c .sl0), V s3 (.c .sl0), V s4 (ci 0)])
 (.seq (R [.o s7 (.ldn 1 a1), .o s8 (.call 516 [a7]), V s4 a8])
 (.seq (.seq (R [V s9 a4, .o s10 (.eq true 0 a9 (ci 0))])
 (.cond a10 .bad .skip))
 (.seq (R [.o s12 (.ldn 1 a1), .o s13 (.call 517 [a12]), V s5 a13])
 (.seq (.block 0 (.loop (.seq (.seq (R [V s14 a5, .o s15 (.nilc a14), .o s16 (.faddr 5 a15), .o s17 (.ld1 a16), .o s18 (.igt a17 (ci 0))])
 (.cond a18 .skip (.exit 0)))
 (.block 1 (.seq (R [V s19 a5, .o s20 (.call 518 [a19]), V s6 a20])
 (.seq (.draw 2 [.q 0 0 (V s21 a2), .q 1 0 (V s22 a6), .a 2 2 0 (.o s23 (.bslice 3 1 1 [(.i .i64 0)] [(0, 1, a22)])), .q 4 0 (V s25 a3), .q 5 0 (V s26 a5), .q 6 32 (.o s27 (.nilc a26)), .q 7 96 (.o s28 (.faddr 3 a27)), .r 8 224 (.o s29 (.ld1 a28)), .q 9 0 (V s30 a6), .q 10 992 (.o s31 (.iaddr 1 a29 a30)), .r 11 2016 (.o s32 (.ld1 a31)), .a 12 4064 1 (.o s33 (.bslice 3 1 1 [(.i .i64 0)] [(0, 1, a32)])), .s 3 7 (.o s24 (.append 1 3 a21 a23)), .s 13 8191 (.o s34 (.append 1 3 a25 a33)), .q 14 16383 (V s2 a24), .q 15 32767 (V s3 a34)])
 (R [V s35 a5, V s36 a6, .o s37 (.call 519 [a35, a36])])))))))
 (.seq (R [V s38 a2, V s39 a3, V s2 a38, V s3 a39, V s4 (ci 0)])
 .ret)))))),
 [.tmp s2, .tmp s3, .tmp s4]⟩
def L405 : LFun := ⟨[s0],
 (.seq (R [.o s1 (.box 57 a0), V s2 (ci 0)])
 (.seq (R [.o s7 (.faddr 0 a1), .o s8 (.ld1 a7), .o s9 (.lenV a8), V s3 a9])
 (.seq (.block 0 (.seq (R [V s11 a3, .o s12 (.igt a11 (ci 200)), V s10 a12])
 (.cond a10 .bad (.seq (R [.o s14 (.faddr 0 a1), .o s15 (.ld1 a14), .o s16 (.call 520 [a15]), .o s17 (.not a16), V s13 a17])
 (.cond a13 .bad (.seq (R [.o s19 (.faddr 1 a1), .o s20 (.ld1 a19), .o s21 (.lenV a20), V s22 a3, .o s23 (.iadd a22 (ci 1)), .o s24 (.eq true 0 a21 a23), V s25 a24, .g s25 false s26 (.faddr 2 a1), .g s25 false s27 (.ld1 a26), .g s25 false s28 (.lenV a27), .g s25 false s29 (.faddr 3 a1), .g s25 false s30 (.ld1 a29), .g s25 false s31 (.lenV a30), .g s25 false s32 (.eq true 0 a28 a31), .o s33 (.pick a25 (.c (.b true)) a32), V s18 a33])
 (.cond a18 .bad (.seq (R [.o s35 (.ldn 4 a1), .o s36 (.call 521 [a35]), .o s37 (.not a36), V s34 a37])
 (.cond a34 .bad .skip)))))))))
 (.seq (.seq (R [.o s38 (.faddr 3 a1), .o s39 (.ld1 a38), .o s40 (.lenV a39), V s41 (ci 0)])
 (.block 1 (.loop (.seq (R [.o s42 (.ilt a41 a40)])
 (.seq (.cond a42 .skip (.exit 1))
 (.seq (.block 2 (.seq (R [.o s43 (.iaddr 1 a39 a41), .o s44 (.ld1 a43), V s5 a44])
 (.seq (R [V s45 a5, .o s46 (.call 253 [a45]), .o s47 (.not a46)])
 (.cond a47 .bad .skip))))
 (R [.o s48 (.iadd a41 (ci 1)), V s41 a48])))))))
 (.seq (.seq (R [V s49 a3, V s50 (ci 0)])
 (.block 3 (.loop (.seq (R [.o s51 (.ilt a50 a49)])
 (.seq (.cond a51 .skip (.exit 3))
 (.seq (.block 4 (.seq (R [V s52 a50, V s6 a52])
 (.seq (.draw 0 [.q 0 0 (.o s53 (.faddr 3 a1)), .r 1 1 (.o s54 (.ld1 a53)), .q 2 0 (.o s55 (.faddr 1 a1)), .r 3 4 (.o s56 (.ld1 a55)), .q 4 0 (V s57 a6), .q 5 28 (.o s58 (.iaddr 1 a56 a57)), .r 6 60 (.o s59 (.ld1 a58)), .q 7 127 (.o s60 (.iaddr 1 a54 a59)), .r 8 255 (.o s61 (.ld1 a60)), .s 9 511 (.o s62 (.call 256 [a61])), .s 10 1023 (.o s63 (.call 385 [a62])), .q 11 2047 (.o s64 (.ile a63 (ci 0)))])
 (.cond a64 .bad .skip))))
 (R [.o s65 (.iadd a50 (ci 1)), V s50 a65])))))))
 (.seq (R [V s2 (ci 0)])
 .ret)))))),
 [.tmp s2]⟩
def L406 : LFun := ⟨[s0, s1],
 (.seq (R [V s4 (ci 0)])
 (.seq (.seq (R [V s5 a0, .o s6 (.lenV a5), V s7 a1, .o s8 (.eq true 0 a6 a7)])
 (.cond a8 .bad .skip))
 (.seq (R [V s9 a0, .o s10 (.call 522 [a9]), V s4 a10])
 .ret))),
 [.tmp s4]⟩
def L407 : LFun := ⟨[s0],
 (.seq (R [V s2 (.c .sl0)])
 (.seq (R [V s6 a0, .o s7 (.lenV a6), .o s8 (.mks 182 1 [.sl0] a7 a7), V s3 a8])
 (.seq (.seq (R [V s9 a0, .o s10 (.lenV a9), V s11 (ci 0)])
 (.block 0 (.loop (.seq (R [.o s12 (.ilt a11 a10)])
 (.seq (.cond a12 .skip (.exit 0))
 (.seq (.block 1 (.seq (R [V s13 a11, .o s14 (.iaddr 1 a9 a11), .o s15 (.ld1 a14), V s4 a13, V s5 a15])
 (R [V s16 a3, V s17 a4, V s18 a5, .o s19 (.call 256 [a18]), .o s20 (.bslice 165 1 4 [(.b false), (.b false), .sl0, (.i .i64 0)] [(0, 4, a19)]), .o s21 (.iaddr 1 a16 a17), .n (.st 1 a21 a20)])))
 (R [.o s22 (.iadd a11 (ci 1)), V s11 a22])))))))
 (.seq (R [V s23 a3, V s2 a23])
 .ret)))),
 [.tmp s2]⟩
def L408 : LFun := ⟨[s0, s1],
 (.seq (R [.o s4 (.alloc [(.b false), (.b false), .sl0, (.i .i64 0)] 165)])
 (.seq (R [V s5 a0, V s6 a1, .o s7 (.iaddr 1 a5 a6), .o s8 (.ld1 a7), .o s9 (.call 258 [a8]), .n (.st 4 a4 a9)])
 .ret)),
 [.cn s4 4]⟩
def L410 : LFun := ⟨[s0, s1],
 (.seq (R [V s4 (.c (.s 0 0)), V s5 (ci 0), V s6 (ci 0)])
 (.seq (.block 0 (.seq (R [V s10 a0, .o s11 (.call 398 [a10]), .o s12 (.eq true 0 a11 (ci 1)), V s9 a12])
 (.cond a9 .bad (.seq (R [V s14 a1, .o s15 (.ilt a14 (ci 1)), V s16 a15, .g s16 false s17 (.mv a1), .g s16 false s18 (.igt a17 (ci 800)), .o s19 (.pick a16 (.c (.b true)) a18), V s13 a19])
 (.cond a13 .bad .skip)))))
 (.seq (R [V s21 a0, .o s22 (.call 523 [a21]), V s20 a22, .o s23 (.extract 0 a20), .o s24 (.extract 1 a20), .o s7 (.alloc [(.b false), .sl0] 163), .o s8 (.alloc [(.b false), .sl0] 163), .n (.st 2 a7 a23), .n (.st 2 a8 a24)])
 (.seq (R [.o s25 (.ldn 2 a7), .o s26 (.ldn 2 a8), .o s27 (.call 524 [a25, a26]), V s5 a27])
 (.seq (R [.o s28 (.ldn 2 a7), .o s29 (.ldn 2 a8), V s30 a1, .o s31 (.isub a30 (ci 1)), V s32 a5, .o s33 (.isub a31 a32), .o s34 (.call 527 [a28, a29, a33]), .o s35 (.extract 0 a34), .o s36 (.extract 1 a34), .o s37 (.call 526 [a35, a36]), .o s38 (.call 525 [a37]), V s4 a38])
 (.seq (.seq (R [V s39 a4, .o s40 (.lenS a39), V s41 a1, .o s42 (.igt a40 a41)])
 (.cond a42 .bad .skip))
 (.seq (R [V s48 a4, V s49 a5, V s4 a48, V s5 a49, V s6 (ci 0)])
 .ret))))))),
 [.tmp s4, .tmp s5, .tmp s6]⟩
def L411 : LFun := ⟨[s0],
 (.seq (R [V s2 (.c (.i .u64 0))])
 (.seq (.seq (R [V s3 a0, .o s4 (.bslice 52 1 1 [(.i .u64 0)] [(0, 1, a3)]), .o s5 (.call 528 [a4])])
 (.cond a5 .bad .skip))
 (.seq (R [V s6 a0, .o s7 (.iandn a6 (.c (.i .u64 9223372036854775808))), V s2 a7])
 .ret))),
 [.tmp s2]⟩
def L416 : LFun := ⟨[s0],
 (.seq (R [.o s1 (.box 42 a0), V s2 (.c (.b false))])
 (.seq (.seq (.draw 0 [.q 0 0 (.o s7 (.faddr 2 a1)), .r 1 1 (.o s8 (.ld1 a7)), .q 2 3 (.o s9 (.lenV a8)), .q 3 0 (.o s10 (.faddr 1 a1)), .r 4 8 (.o s11 (.ld1 a10)), .q 5 24 (.o s12 (.iadd a11 (ci 1))), .q 6 63 (.o s13 (.eq true 0 a9 a12)), .q 7 127 (V s14 a13), .q 8 255 (.g s14 false s15 (.faddr 2 a1)), .r 9 511 (.g s14 false s16 (.ld1 a15)), .q 10 1023 (.g s14 false s17 (.iaddr 1 a16 (ci 0))), .r 11 2047 (.g s14 false s18 (.ld1 a17)), .q 12 4095 (.g s14 false s19 (.eq true 0 a18 (ci 0))), .q 13 8191 (.o s20 (.pick a14 (.c (.b true)) a19)), .q 14 16383 (V s21 a20), .q 15 32767 (.g s21 false s22 (.faddr 2 a1)), .r 16 65535 (.g s21 false s23 (.ld1 a22)), .s 17 131071 (.g s21 false s24 (.call 530 [a23])), .q 18 262143 (.g s21 false s25 (.not a24)), .q 19 524287 (.o s26 (.pick a21 (.c (.b true)) a25)), .q 20 1048575 (V s27 a26), .q 21 2097151 (.g s27 false s28 (.faddr 2 a1)), .r 22 4194303 (.g s27 false s29 (.ld1 a28)), .q 23 2097151 (.g s27 false s30 (.faddr 1 a1)), .r 24 10485759 (.g s27 false s31 (.ld1 a30)), .q 25 33554431 (.g s27 false s32 (.iaddr 1 a29 a31)), .r 26 67108863 (.g s27 false s33 (.ld1 a32)), .q 27 2097151 (.g s27 false s34 (.faddr 3 a1)), .r 28 136314879 (.g s27 false s35 (.ld1 a34)), .q 29 404750335 (.g s27 false s36 (.lenV a35)), .q 30 1073741823 (.g s27 false s37 (.eq true 0 a33 a36)), .q 31 2147483647 (.o s38 (.pick a27 (.c (.b true)) a37)), .q 32 4294967295 (V s39 a38), .q 33 8589934591 (.g s39 false s40 (.faddr 3 a1)), .r 34 17179869183 (.g s39 false s41 (.ld1 a40)), .q 35 34359738367 (.g s39 false s42 (.lenV a41)), .q 36 8589934591 (.g s39 false s43 (.faddr 4 a1)), .r 37 77309411327 (.g s39 false s44 (.ld1 a43)), .q 38 214748364799 (.g s39 false s45 (.lenV a44)), .q 39 549755813887 (.g s39 false s46 (.eq true 0 a42 a45)), .q 40 1099511627775 (.o s47 (.pick a39 (.c (.b true)) a46))])
 (.cond a47 .bad .skip))
 (.seq (.seq (R [.o s48 (.faddr 1 a1), .o s49 (.ld1 a48), V s50 (ci 0)])
 (.block 0 (.loop (.seq (R [.o s51 (.ilt a50 a49)])
 (.seq (.cond a51 .skip (.exit 0))
 (.seq (.block 1 (.seq (R [V s52 a50, V s3 a52])
 (.seq (R [V s4 (ci 18446744073709551615)])
 (.seq (.draw 0 [.q 0 0 (.o s53 (.faddr 3 a1)), .r 1 1 (.o s54 (.ld1 a53)), .q 2 0 (.o s55 (.faddr 2 a1)), .r 3 4 (.o s56 (.ld1 a55)), .q 4 0 (V s57 a3), .q 5 28 (.o s58 (.iaddr 1 a56 a57)), .r 6 60 (.o s59 (.ld1 a58)), .q 7 0 (.o s60 (.faddr 2 a1)), .r 8 128 (.o s61 (.ld1 a60)), .q 9 0 (V s62 a3), .q 10 512 (.o s63 (.iadd a62 (ci 1))), .q 11 1920 (.o s64 (.iaddr 1 a61 a63)), .r 12 3968 (.o s65 (.ld1 a64)), .q 13 8191 (.o s66 (.slV 1 a54 (some a59) (some a65) none)), .q 14 16383 (.o s67 (.lenV a66)), .q 15 0 (V s68 (ci 0))])
 (.block 2 (.loop (.seq (R [.o s69 (.ilt a68 a67)])
 (.seq (.cond a69 .skip (.exit 2))
 (.seq (.block 3 (.seq (R [.o s70 (.iaddr 1 a66 a68), .o s71 (.ld1 a70), V s6 a71])
 (.seq (.seq (R [V s72 a6, V s73 a4, .o s74 (.ile a72 a73), V s75 a74, .g s75 false s76 (.mv a6), .g s75 false s77 (.faddr 0 a1), .g s75 false s78 (.ld1 a77), .g s75 false s79 (.ige a76 a78), .o s80 (.pick a75 (.c (.b true)) a79)])
 (.cond a80 .bad .skip))
 (R [V s81 a6, V s4 a81]))))
 (R [.o s82 (.iadd a68 (ci 1)), V s68 a82]))))))))))
 (R [.o s83 (.iadd a50 (ci 1)), V s50 a83])))))))
 (.seq (R [V s2 (.c (.b true))])
 .ret)))),
 [.tmp s2]⟩
def L417 : LFun := ⟨[s0, s1],
 (.seq (R [V s4 (.c (.b false))])
 (.seq (R [V s5 a0, V s6 a1, .o s7 (.call 531 [a5, a6]), .o s8 (.ige a7 (ci 0)), V s4 a8])
 .ret)),
 [.tmp s4]⟩
def L418 : LFun := ⟨[s0],
 (.seq (R [V s2 (.c (.b false))])
 (.seq (R [V s3 a0, .o s4 (.call 253 [a3]), .o s5 (.not a4), V s2 a5])
 .ret)),
 [.tmp s2]⟩
def L427 : LFun := ⟨[s0, s1],
 (.seq (R [.o s2 (.box 165 a0), .o s3 (.box 165 a1), .o s4 (.alloc [(.b false), (.b false), .sl0, (.i .i64 0)] 165)])
 (.seq (.draw 0 [.r 0 0 (.o s5 (.ldn 4 a2)), .r 1 0 (.o s6 (.ldn 4 a3)), .s 2 2 (.o s7 (.call 513 [a6])), .s 3 7 (.o s8 (.call 432 [a5, a7])), .s 4 15 (.n (.st 4 a4 a8))])
 .ret)),
 [.cn s4 4]⟩
def L432 : LFun := ⟨[s0, s1],
 (.seq (R [.o s2 (.box 165 a0), .o s3 (.box 165 a1), .o s4 (.alloc [(.b false), (.b false), .sl0, (.i .i64 0)] 165)])
 (.seq (R [.o s10 (.ldn 4 a2), .o s11 (.ldn 4 a3), .o s12 (.call 547 [a10, a11]), V s9 a12, .o s13 (.extract 0 a9), .o s14 (.extract 1 a9), .o s15 (.extract 2 a9), .n (.st 4 a2 a13), .n (.st 4 a3 a14), V s5 a15])
 (.seq (.seq (R [V s16 a5, .o s17 (.not a16)])
 (.cond a17 .bad .skip))
 (.seq (R [.o s20 (.ldn 4 a2), .o s21 (.ldn 4 a3), .o s22 (.call 548 [a20, a21]), V s19 a22, .o s23 (.extract 0 a19), .o s24 (.extract 1 a19), .o s25 (.extract 2 a19), .o s6 (.alloc [(.b false), .sl0] 163), .o s7 (.alloc [(.b false), .sl0] 163), .n (.st 2 a6 a23), .n (.st 2 a7 a24), V s8 a25])
 (.seq (R [.o s26 (.ldn 2 a6), .o s27 (.ldn 2 a7), .o s28 (.call 390 [a26, a27]), V s29 a8, .o s30 (.call 383 [a28, a29]), .n (.st 4 a4 a30)])
 .ret))))),
 [.cn s4 4]⟩
def L436 : LFun := ⟨[s0],
 (.seq (R [V s2 (ci 0)])
 (.seq (R [V s4 a0, .o s5 (.call 553 [a4]), V s3 a5])
 (.seq (.seq (R [V s6 a3, .o s7 (.eq false 0 a6 (ci 0)), V s8 a7, .g s8 true s9 (.mv a0), .g s8 true s10 (.lenV a9), .g s8 true s11 (.mv a0), .g s8 true s12 (.call 554 [a11]), .g s8 true s13 (.eq true 0 a10 a12), .o s14 (.pick a8 a13 (.c (.b false)))])
 (.cond a14 .bad .skip))
 (.seq (R [V s15 a3, V s2 a15])
 .ret)))),
 [.tmp s2]⟩
def L437 : LFun := ⟨[s0, s1],
 (.seq (R [.o s2 (.box 163 a0), .o s3 (.box 163 a1), V s4 (ci 0)])
 (.seq (.draw 0 [.r 0 0 (.o s7 (.ldn 2 a2)), .r 2 0 (.o s9 (.ldn 2 a3)), .s 1 1 (.o s8 (.call 440 [a7])), .s 3 7 (.o s10 (.call 440 [a9])), .q 4 15 (V s5 a8), .q 5 31 (V s6 a10)])
 (.seq (.block 0 (.seq (R [V s12 a5, V s13 a6, .o s14 (.ilt a12 a13), V s11 a14])
 (.cond a11 (.seq (R [V s4 (ci 18446744073709551615)])
 .ret) (.seq (R [V s16 a5, V s17 a6, .o s18 (.igt a16 a17), V s15 a18])
 (.cond a15 .bad .skip)))))
 (.seq (.draw 0 [.q 0 0 (V s19 a5), .q 1 0 (.o s20 (.faddr 1 a2)), .r 2 2 (.o s21 (.ld1 a20)), .q 4 0 (.o s23 (.faddr 1 a3)), .r 5 16 (.o s24 (.ld1 a23)), .s 3 6 (.o s22 (.call 491 [a21])), .s 6 62 (.o s25 (.call 491 [a24])), .s 7 126 (.o s26 (.call 506 [a22, a25])), .q 8 255 (.o s27 (.imul a19 a26)), .q 9 511 (V s4 a27)])
 .ret)))),
 [.tmp s4]⟩
def L438 : LFun := ⟨[s0],
 (.seq (R [V s2 (.c .sl0)])
 (.seq (R [V s14 a0, .o s15 (.lenV a14), V s3 a15])
 (.seq (R [V s16 a3, .o s17 (.iadd a16 (ci 1)), .o s18 (.mks 163 2 [(.b false), .sl0] a17 a17), V s4 a18])
 (.seq (R [V s19 a4, V s20 a3, .o s21 (.call 381 [(ci 1)]), .o s22 (.iaddr 2 a19 a20), .n (.st 2 a22 a21)])
 (.seq (R [V s23 a3, .o s24 (.mks 301 1 [.sl0] a23 a23), V s5 a24])
 (.seq (.seq (R [V s25 a5, .o s26 (.lenV a25), V s27 (ci 0)])
 (.block 0 (.loop (.seq (R [.o s28 (.ilt a27 a26)])
 (.seq (.cond a28 .skip (.exit 0))
 (.seq (.block 1 (.seq (R [V s29 a27, V s6 a29])
 (R [V s30 a5, V s31 a6, V s32 a3, .o s33 (.mks 163 2 [(.b false), .sl0] a32 a32), .o s34 (.iaddr 1 a30 a31), .n (.st 1 a34 a33)])))
 (R [.o s35 (.iadd a27 (ci 1)), V s27 a35])))))))
 (.seq (.seq (R [V s7 (ci 1)])
 (.block 2 (.loop (.seq (.seq (R [V s36 a7, V s37 a3, .o s38 (.ile a36 a37)])
 (.cond a38 .skip (.exit 2)))
 (.seq (.block 3 (.seq (.seq (R [V s41 a5, .o s42 (.lenV a41), V s43 (ci 0)])
 (.block 4 (.loop (.seq (R [.o s44 (.ilt a43 a42)])
 (.seq (.cond a44 .skip (.exit 4))
 (.seq (.block 5 (.seq (R [V s45 a43, V s8 a45])
 (.draw 0 [.q 0 0 (V s46 a5), .q 1 0 (V s47 a8), .q 2 3 (.o s48 (.iaddr 1 a46 a47)), .r 3 7 (.o s49 (.ld1 a48)), .q 4 0 (V s50 a8), .q 5 0 (V s51 a5), .q 6 0 (V s52 a8), .q 7 96 (.o s53 (.iaddr 1 a51 a52)), .r 8 224 (.o s54 (.ld1 a53)), .q 9 0 (V s55 a8), .q 10 992 (.o s56 (.iaddr 2 a54 a55)), .r 11 2016 (.o s57 (.ldn 2 a56)), .q 12 0 (V s58 a4), .q 13 0 (V s59 a3), .q 14 0 (V s60 a7), .q 15 24576 (.o s61 (.isub a59 a60)), .q 16 57344 (.o s62 (.iadd a61 (ci 1))), .q 17 126976 (.o s63 (.iaddr 2 a58 a62)), .r 18 258048 (.o s64 (.ldn 2 a63)), .s 19 524256 (.o s65 (.call 390 [a57, a64])), .q 20 1048575 (.o s66 (.iaddr 2 a49 a50)), .s 21 2097151 (.n (.st 2 a66 a65))])))
 (R [.o s67 (.iadd a43 (ci 1)), V s43 a67])))))))
 (.seq (R [V s68 a0, V s69 a5, .o s70 (.call 555 [a68, a69]), V s9 a70])
 (.seq (R [.o s10 (.alloc [(.b false), .sl0] 163)])
 (.seq (.seq (R [V s71 a9, .o s72 (.lenV a71), V s73 (ci 0)])
 (.block 6 (.loop (.seq (R [.o s74 (.ilt a73 a72)])
 (.seq (.cond a74 .skip (.exit 6))
 (.seq (.block 7 (.seq (R [V s75 a73, V s11 a75])
 (.draw 0 [.r 0 0 (.o s76 (.ldn 2 a10)), .q 1 0 (V s77 a9), .q 2 0 (V s78 a11), .q 3 6 (.o s79 (.iaddr 1 a77 a78)), .r 4 14 (.o s80 (.ld1 a79)), .q 5 0 (V s81 a11), .q 6 62 (.o s82 (.iaddr 2 a80 a81)), .r 7 126 (.o s83 (.ldn 2 a82)), .s 8 255 (.o s84 (.call 390 [a76, a83])), .s 9 511 (.n (.st 2 a10 a84))])))
 (R [.o s85 (.iadd a73 (ci 1)), V s73 a85])))))))
 (.seq (.draw 1 [.r 0 0 (.o s87 (.ldn 2 a10)), .q 1 0 (V s88 a7), .a 7 0 0 (.o s12 (.alloc [(.b false), .sl0] 163)), .s 2 2 (.o s89 (.call 381 [a88])), .s 3 7 (.o s90 (.call 556 [a87, a89])), .q 4 15 (V s86 a90), .q 5 31 (.o s91 (.extract 0 a86)), .q 6 31 (.o s92 (.extract 1 a86)), .s 8 191 (.n (.st 2 a12 a91)), .q 9 511 (V s13 a92)])
 (R [V s93 a4, V s94 a3, V s95 a7, .o s96 (.isub a94 a95), .o s97 (.ldn 2 a12), .o s98 (.call 369 [a97]), V s99 a9, .o s100 (.iaddr 2 a93 a96), .n (.st 2 a100 a98), V s5 a99])))))))
 (R [V s39 a7, .o s40 (.iadd a39 (ci 1)), V s7 a40]))))))
 (.seq (R [V s101 a4, V s2 a101])
 .ret)))))))),
 [.tmp s2]⟩
def L439 : LFun := ⟨[s0, s1],
 (.seq (R [V s4 (.c .sl0)])
 (.seq (R [V s5 (.c .sl0)])
 (.seq (.seq (R [V s11 a0, .o s12 (.lenV a11), V s13 (ci 0)])
 (.block 0 (.loop (.seq (R [.o s14 (.ilt a13 a12)])
 (.seq (.cond a14 .skip (.exit 0))
 (.seq (.block 1 (.seq (R [V s15 a13, .o s16 (.iaddr 1 a11 a13), .o s17 (.ld1 a16), V s6 a15, V s7 a17])
 (.seq (R [V s8 (.c .sl0)])
 (.seq (.seq (R [V s18 a7, .o s19 (.lenV a18), V s20 (ci 0)])
 (.block 2 (.loop (.seq (R [.o s21 (.ilt a20 a19)])
 (.seq (.cond a21 .skip (.exit 2))
 (.seq (.block 3 (.seq (R [.o s22 (.iaddr 2 a18 a20), .o s23 (.ldn 2 a22), .o s10 (.alloc [(.b false), .sl0] 163), .n (.st 2 a10 a23)])
 (R [V s24 a8, .o s25 (.ldn 2 a10), .o s26 (.call 443 [a25]), .o s27 (.bslice 163 1 2 [(.b false), .sl0] [(0, 2, a26)]), .o s28 (.append 2 163 a24 a27), V s8 a28])))
 (R [.o s29 (.iadd a20 (ci 1)), V s20 a29])))))))
 (.seq (.seq (R [V s30 a6, V s31 a1, .o s32 (.lenV a31), .o s33 (.ilt a30 a32)])
 (.cond a33 .bad .skip))
 (R [V s42 a5, V s43 a8, .o s44 (.bslice 301 1 1 [.sl0] [(0, 1, a43)]), .o s45 (.append 1 301 a42 a44), V s5 a45]))))))
 (R [.o s46 (.iadd a13 (ci 1)), V s13 a46])))))))
 (.seq (R [V s47 a5, V s4 a47])
 .ret)))),
 [.tmp s4]⟩
def L440 : LFun := ⟨[s0],
 (.seq (R [.o s1 (.box 163 a0), V s2 (ci 0)])
 (.seq (.block 0 (.seq (R [.o s4 (.faddr 1 a1), .o s5 (.ld1 a4), .o s6 (.call 491 [a5]), .o s7 (.lenV a6), .o s8 (.eq false 0 a7 (ci 0)), V s3 a8])
 (.cond a3 (.seq (R [V s2 (ci 0)])
 .ret) (.seq (R [.o s10 (.faddr 0 a1), .o s11 (.ld1 a10), V s9 a11])
 (.cond a9 (.seq (R [V s2 (ci 18446744073709551615)])
 .ret) .skip)))))
 (.seq (R [V s2 (ci 1)])
 .ret))),
 [.tmp s2]⟩
def L441 : LFun := ⟨[s0],
 (.seq (R [.o s1 (.box 165 a0), .o s2 (.alloc [(.b false), .sl0] 163), V s3 (.c (.b false))])
 (.seq (R [.o s8 (.ldn 4 a1), .o s9 (.call 388 [a8]), V s7 a9, .o s10 (.extract 0 a7), .o s11 (.extract 1 a7), .n (.st 4 a1 a10), V s4 a11])
 (.seq (.seq (R [V s12 a4, .o s13 (.not a12)])
 (.cond a13 .bad .skip))
 (.seq (R [.o s16 (.faddr 1 a1), .o s17 (.ldn 2 a16), .o s18 (.faddr 3 a1), .o s19 (.ld1 a18), .o s20 (.call 447 [a17, a19]), V s15 a20, .o s21 (.extract 0 a15), .o s22 (.extract 1 a15), .o s5 (.alloc [(.b false), .sl0] 163), .n (.st 2 a5 a21), V s6 a22])
 (.seq (R [.o s23 (.ldn 2 a5), .n (.st 2 a2 a23), V s3 (.c (.b true))])
 .ret))))),
 [.cn s2 2, .tmp s3]⟩
def L442 : LFun := ⟨[s0, s1],
 (.seq (R [.o s2 (.box 165 a0), .o s4 (.alloc [(.b false), (.b false), .sl0, (.i .i64 0)] 165)])
 (.seq (R [.o s7 (.ldn 4 a2), .o s8 (.call 388 [a7]), V s6 a8, .o s9 (.extract 0 a6), .o s10 (.extract 1 a6), .n (.st 4 a2 a9), V s5 a10])
 (.seq (.seq (R [V s11 a5, .o s12 (.not a11)])
 (.cond a12 .bad .skip))
 (.seq (R [.o s14 (.faddr 1 a2), .o s15 (.ldn 2 a14), .o s16 (.faddr 3 a2), .o s17 (.ld1 a16), V s18 a1, .o s19 (.imin a18 (ci 262144)), .o s20 (.imax a19 (ci 18446744073709289472)), .o s21 (.iadd a17 a20), .o s22 (.call 383 [a15, a21]), .n (.st 4 a4 a22)])
 .ret)))),
 [.cn s4 4]⟩
def L443 : LFun := ⟨[s0],
 (.seq (R [.o s1 (.box 163 a0), .o s2 (.alloc [(.b false), .sl0] 163)])
 (.seq (.draw 0 [.q 0 0 (.o s3 (.faddr 0 a1)), .r 1 1 (.o s4 (.ld1 a3)), .q 2 0 (.o s5 (.faddr 1 a1)), .r 3 4 (.o s6 (.ld1 a5)), .s 4 12 (.o s7 (.call 493 [a6])), .s 5 31 (.o s8 (.call 492 [a4, a7])), .s 6 63 (.n (.st 2 a2 a8))])
 .ret)),
 [.cn s2 2]⟩
def L447 : LFun := ⟨[s0, s1],
 (.seq (R [.o s2 (.box 163 a0), .o s4 (.alloc [(.b false), .sl0] 163), V s5 (ci 0)])
 (.seq (.seq (R [V s9 a1, .o s10 (.ilt a9 (ci 18446744073708503040)), V s11 a10, .g s11 false s12 (.mv a1), .g s11 false s13 (.igt a12 (ci 1048576)), .o s14 (.pick a11 (.c (.b true)) a13)])
 (.cond a14 .bad .skip))
 (.seq (R [.o s16 (.faddr 1 a2), .o s17 (.ld1 a16), .o s18 (.call 491 [a17]), V s6 a18])
 (.seq (.seq (R [V s19 a1, .o s20 (.ige a19 (ci 0))])
 (.cond a20 (.seq (.draw 0 [.q 0 0 (.o s21 (.faddr 0 a2)), .r 1 1 (.o s22 (.ld1 a21)), .q 2 0 (V s23 a6), .q 3 0 (V s24 a1), .s 4 12 (.o s25 (.call 559 [a23, a24])), .s 5 31 (.o s26 (.call 492 [a22, a25])), .s 6 63 (.n (.st 2 a4 a26)), .q 7 127 (V s5 (ci 0))])
 .ret) .skip))
 (.seq (R [V s28 a6, V s29 a1, .o s30 (.neg a29), .o s31 (.call 560 [a28, a30]), V s27 a31, .o s32 (.extract 0 a27), .o s33 (.extract 1 a27), V s7 a32, V s8 a33])
 (.seq (.seq (R [.o s34 (.faddr 0 a2), .o s35 (.ld1 a34), V s36 a35, .g s36 true s37 (.mv a8), .o s38 (.pick a36 a37 (.c (.b false)))])
 (.cond a38 .bad .skip))
 (.seq (R [.o s42 (.faddr 0 a2), .o s43 (.ld1 a42), V s44 a7, .o s45 (.call 492 [a43, a44]), .n (.st 2 a4 a45), V s5 (ci 0)])
 .ret))))))),
 [.cn s4 2, .tmp s5]⟩
def L448 : LFun := ⟨[s0, s1],
 (.seq (R [V s4 (.c .sl0)])
 (.seq (R [V s10 a1, .o s11 (.mks 4 1 [(.b false)] a10 a10), V s5 a11])
 (.seq (R [V s6 (ci 0)])
 (.seq (.seq (R [V s12 a1, V s13 (ci 0)])
 (.block 0 (.loop (.seq (R [.o s14 (.ilt a13 a12)])
 (.seq (.cond a14 .skip (.exit 0))
 (.seq (.block 1 (.seq (R [V s15 a13, V s7 a15])
 (.seq (R [V s17 a0, V s18 a7, .o s19 (.iadd a18 (ci 1)), .o s20 (.call 562 [a17, a19]), .o s21 (.call 561 [a20]), V s16 a21, .o s22 (.extract 0 a16), .o s23 (.extract 1 a16), V s8 a22, V s9 a23])
 (.seq (R [V s24 a5, V s25 a7, V s26 a8, V s27 a6, .o s28 (.eq false 0 a26 a27), .o s29 (.iaddr 1 a24 a25), .n (.st 1 a29 a28)])
 (R [V s30 a8, V s6 a30])))))
 (R [.o s31 (.iadd a13 (ci 1)), V s13 a31])))))))
 (.seq (R [V s32 a5, V s4 a32])
 .ret))))),
 [.tmp s4]⟩
def L451 : LFun := ⟨[s0, s1],
 (.seq (R [.o s2 (.box 163 a0), V s4 (ci 0), V s5 (ci 0)])
 (.seq (.seq (R [V s6 a1, .o s7 (.call 450 [a6]), .o s8 (.not a7)])
 (.cond a8 .bad .skip))
 (.seq (R [.o s9 (.ldn 2 a2), V s10 a1, .o s11 (.call 566 [a9, a10]), V s4 a11, V s5 (ci 0)])
 .ret))),
 [.tmp s4, .tmp s5]⟩
def L452 : LFun := ⟨[s0],
 (.seq (R [V s2 (.c .sl0)])
 (.seq (R [V s3 a0, V s4 a0, .o s5 (.lenV a4), V s6 a0, .o s7 (.lenV a6), .o s8 (.slV 1 a3 none (some a5) (some a7)), V s2 a8])
 .ret)),
 [.tmp s2]⟩
def L453 : LFun := ⟨[s0, s1],
 (.seq (R [V s4 (ci 0), V s5 (ci 0)])
 (.seq (R [V s9 a0, V s10 a1, .o s11 (.call 567 [a9, a10]), V s6 a11])
 (.seq (.seq (R [V s12 a6, .o s13 (.eq true 0 a12 (ci 0))])
 (.cond a13 .bad .skip))
 (.seq (R [V s16 a0, V s17 a1, .o s18 (.call 569 [a16, a17]), V s19 a1, .o s20 (.call 568 [a18, a19]), V s15 a20, .o s21 (.extract 0 a15), .o s22 (.extract 1 a15), V s7 a21, V s8 a22])
 (.seq (R [V s23 a7, .o s24 (.lenV a23), V s4 a24, V s5 (ci 0)])
 .ret))))),
 [.tmp s4, .tmp s5]⟩
def L459 : LFun := ⟨[s0],
 (.seq (R [V s2 (ci 0)])
 (.seq (.seq (R [V s3 a0, .o s4 (.ige a3 (.c (.i .u32 65536)))])
 (.cond a4 (.seq (R [V s5 a0, .o s6 (.ishr a5 (.c (.i .u64 16))), V s0 a6])
 (R [V s2 (ci 16)])) .skip))
 (.seq (.seq (R [V s7 a0, .o s8 (.ige a7 (.c (.i .u32 256)))])
 (.cond a8 (.seq (R [V s9 a0, .o s10 (.ishr a9 (.c (.i .u64 8))), V s0 a10])
 (R [V s11 a2, .o s12 (.iadd a11 (ci 8)), V s2 a12])) .skip))
 (.seq (R [V s13 a2, V s14 a0, .o s15 (.convI .u8 a14), .o s16 (.idxS (.c (.s 256 1013866857139168856493015739252390649739422828853819106890363778118420553376247557433637691341895324351018602695588957474325319502760499485336098898398377509666851054660423406800006203933793007272033180812049178612605246075062580585469430410618860250057463399279570354286669047577758927328864388992123306212451509403152394148136105363817402562688186708175358218852349079190158732807302672745370040257219644697201681238697346923541678507645485296520536209706771857694240900605172937619415410180424934769249448772944216470541052485265558808433676546390051204254346932932316488017972311616136051587427851453983453479168)) a15), .o s17 (.convI .i64 a16), .o s18 (.iadd a13 a17), V s2 a18])
 .ret)))),
 [.tmp s2]⟩
def L460 : LFun := ⟨[s0, s1],
 (.seq (R [.o s2 (.box 163 a0), V s4 (.c (.b false))])
 (.seq (R [.o s8 (.faddr 1 a2), .o s9 (.ld1 a8), .o s10 (.call 325 [a9]), V s11 a1, .o s12 (.call 330 [a10, a11]), V s7 a12, .o s13 (.extract 0 a7), .o s14 (.extract 1 a7), V s5 a13, V s6 a14])
 (.seq (R [V s15 a6, V s4 a15])
 .ret))),
 [.tmp s4]⟩
def L461 : LFun := ⟨[s0, s1, s2, s3],
 (.seq (R [V s8 (.c (.b false))])
 (.seq (.seq (R [V s9 a3])
 (.block 0 (.seq (R [.o s11 (.eq false 0 a9 (ci 1)), V s10 a11])
 (.cond a10 .bad (.seq (R [.o s14 (.eq false 0 a9 (ci 2)), V s13 a14])
 (.cond a13 .bad (.seq (R [.o s18 (.eq false 0 a9 (ci 3)), V s17 a18])
 (.cond a17 .bad .skip))))))))
 (.seq (R [V s19 a1, .o s20 (.igt a19 (ci 0)), V s21 a20, .g s21 false s22 (.mv a1), .g s21 false s23 (.eq false 0 a22 (ci 0)), .g s21 false s24 (.mv a23), .g s24 true s25 (.mv a2), .g s21 false s26 (.pick a24 a25 (.c (.b false))), .o s27 (.pick a21 (.c (.b true)) a26), V s8 a27])
 .ret))),
 [.tmp s8]⟩
def L462 : LFun := ⟨[s0, s1],
 (.seq (R [V s4 (.c (.b false))])
 (.seq (.seq (R [V s5 (ci 0)])
 (.block 0 (.loop (.seq (.seq (R [V s6 a5, V s7 a0, .o s8 (.lenV a7), .o s9 (.ilt a6 a8)])
 (.cond a9 .skip (.exit 0)))
 (.seq (.block 1 (.seq (R [V s12 a0, V s13 a5, .o s14 (.iaddr 1 a12 a13), .o s15 (.ld1 a14), .o s16 (.ilt a15 (ci 0)), V s17 a16, .g s17 false s18 (.mv a0), .g s17 false s19 (.mv a5), .g s17 false s20 (.iaddr 1 a18 a19), .g s17 false s21 (.ld1 a20), .g s17 false s22 (.mv a1), .g s17 false s23 (.ige a21 a22), .o s24 (.pick a17 (.c (.b true)) a23)])
 (.cond a24 .bad .skip)))
 (R [V s10 a5, .o s11 (.iadd a10 (ci 1)), V s5 a11]))))))
 (.seq (R [V s4 (.c (.b true))])
 .ret))),
 [.tmp s4]⟩
def L463 : LFun := ⟨[s0],
 (.seq (R [V s2 (.c (.b false))])
 (.seq (.seq (R [V s3 (ci 0)])
 (.block 0 (.loop (.seq (.seq (R [V s4 a3, V s5 a0, .o s6 (.lenV a5), .o s7 (.ilt a4 a6)])
 (.cond a7 .skip (.exit 0)))
 (.seq (.block 1 (.seq (.draw 0 [.q 0 0 (V s10 a0), .q 1 0 (V s11 a3), .q 2 3 (.o s12 (.slV 1 a10 none (some a11) none)), .q 3 0 (V s13 a0), .q 4 0 (V s14 a3), .q 5 24 (.o s15 (.iaddr 1 a13 a14)), .r 6 56 (.o s16 (.ld1 a15)), .s 7 127 (.o s17 (.call 181 [a12, a16]))])
 (.cond a17 .bad .skip)))
 (R [V s8 a3, .o s9 (.iadd a8 (ci 1)), V s3 a9]))))))
 (.seq (R [V s2 (.c (.b false))])
 .ret))),
 [.tmp s2]⟩
def L464 : LFun := ⟨[s0],
 (.seq (R [.o s1 (.box 163 a0), .o s2 (.alloc [(.b false), .sl0] 163)])
 (.seq (.seq (R [.o s7 (.ldn 2 a1), .o s8 (.call 175 [a7]), .o s9 (.eq false 0 a8 (ci 0))])
 (.cond a9 .bad .skip))
 (.seq (.draw 1 [.r 1 0 (.o s12 (.ldn 2 a1)), .a 6 0 0 (.o s3 (.alloc [(.b false), .sl0] 163)), .s 0 0 (.o s11 (.call 213 [(ci 1)])), .s 2 3 (.o s13 (.call 314 [a12])), .q 3 7 (.o s14 (.iadd a13 (ci 1))), .q 4 15 (.o s15 (.iquo a14 (ci 2))), .s 5 31 (.o s16 (.call 195 [a11, a15])), .s 7 127 (.n (.st 2 a3 a16))])
 (.block 0 (.loop (.block 1 (.seq (R [.o s18 (.ldn 2 a1), .o s19 (.ldn 2 a3), .o s20 (.call 211 [a18, a19]), V s17 a20, .o s21 (.extract 0 a17), .o s22 (.extract 1 a17), .o s4 (.alloc [(.b false), .sl0] 163), .o s5 (.alloc [(.b false), .sl0] 163), .n (.st 2 a4 a21), .n (.st 2 a5 a22)])
 (.seq (R [.o s23 (.ldn 2 a3), .o s24 (.ldn 2 a4), .o s25 (.call 194 [a23, a24]), .o s26 (.call 195 [a25, (ci 18446744073709551615)]), .o s6 (.alloc [(.b false), .sl0] 163), .n (.st 2 a6 a26)])
 (.seq (.seq (R [.o s27 (.ldn 2 a6), .o s28 (.ldn 2 a3), .o s29 (.call 210 [a27, a28]), .o s30 (.ige a29 (ci 0))])
 (.cond a30 (.seq (R [.o s31 (.ldn 2 a3), .n (.st 2 a2 a31)])
 .ret) .skip))
 (R [.o s32 (.ldn 2 a6), .n (.st 2 a3 a32)])))))))))),
 [.cn s2 2]⟩
def L465 : LFun := ⟨[s0],
 (.seq (R [V s2 (ci 0)])
 (.seq (R [V s3 a0, .o s4 (.call 459 [a3]), .o s5 (.isub (ci 32) a4), V s2 a5])
 .ret)),
 [.tmp s2]⟩
def L466 : LFun := ⟨[s0, s1, s2, s3],
 (.seq (R [V s8 (.c (.b false))])
 (.seq (R [V s16 a1, .o s17 (.lenV a16), V s9 a17])
 (.seq (R [V s18 a9, .o s19 (.iadd a18 (ci 1)), .o s20 (.mks 227 1 [(.i .u32 0)] a19 a19), V s10 a20])
 (.seq (R [V s11 (.c (.i .u64 0)), V s12 (.c (.i .u64 0))])
 (.seq (.seq (R [V s13 (ci 0)])
 (.block 0 (.loop (.seq (.seq (R [V s21 a13, V s22 a9, .o s23 (.ile a21 a22)])
 (.cond a23 .skip (.exit 0)))
 (.seq (.block 1 (.seq (.seq (R [V s26 a13, V s27 a9, .o s28 (.ilt a26 a27)])
 (.cond a28 (R [V s29 a12, V s30 a3, V s31 a1, V s32 a13, .o s33 (.iaddr 1 a31 a32), .o s34 (.ld1 a33), .o s35 (.convI .u64 a34), .o s36 (.imul a30 a35), .o s37 (.iadd a29 a36), V s12 a37]) .skip))
 (.seq (R [V s38 a0, V s39 a13, V s40 a2, .o s41 (.iadd a39 a40), .o s42 (.iaddr 1 a38 a41), .o s43 (.ld1 a42), .o s44 (.convI .u64 a43), V s45 a11, .o s46 (.isub a44 a45), V s47 a12, .o s48 (.iand a47 (.c (.i .u64 4294967295))), .o s49 (.isub a46 a48), V s14 a49])
 (.seq (R [V s50 a12, .o s51 (.ishr a50 (.c (.i .u64 32))), V s12 a51])
 (.seq (R [V s52 a10, V s53 a13, V s54 a14, .o s55 (.convI .u32 a54), .o s56 (.iaddr 1 a52 a53), .n (.st 1 a56 a55)])
 (R [V s57 a14, .o s58 (.ishr a57 (.c (.i .u64 63))), V s11 a58]))))))
 (R [V s24 a13, .o s25 (.iadd a24 (ci 1)), V s13 a25]))))))
 (.seq (.seq (R [V s59 a11, .o s60 (.eq true 0 a59 (.c (.i .u64 0)))])
 (.cond a60 (.seq (R [V s8 (.c (.b false))])
 .ret) .skip))
 (.seq (.seq (R [V s15 (ci 0)])
 (.block 2 (.loop (.seq (.seq (R [V s61 a15, V s62 a9, .o s63 (.ile a61 a62)])
 (.cond a63 .skip (.exit 2)))
 (.seq (.block 3 (R [V s66 a0, V s67 a15, V s68 a2, .o s69 (.iadd a67 a68), V s70 a10, V s71 a15, .o s72 (.iaddr 1 a70 a71), .o s73 (.ld1 a72), .o s74 (.iaddr 1 a66 a69), .n (.st 1 a74 a73)]))
 (R [V s64 a15, .o s65 (.iadd a64 (ci 1)), V s15 a65]))))))
 (.seq (R [V s8 (.c (.b true))])
 .ret)))))))),
 [.tmp s8]⟩
def L467 : LFun := ⟨[s0, s1],
 (.seq (R [V s4 (ci 0)])
 (.seq (R [V s6 a0, V s7 a1, .o s8 (.irem a6 a7), V s5 a8])
 (.seq (.seq (R [V s9 a5, .o s10 (.ilt a9 (ci 0))])
 (.cond a10 .bad .skip))
 (.seq (R [V s14 a5, V s4 a14])
 .ret)))),
 [.tmp s4]⟩
def L468 : LFun := ⟨[s0],
 (.seq (R [V s2 (ci 0)])
 (.seq (.seq (R [V s3 a0, .o s4 (.lenV a3), .o s5 (.eq false 0 a4 (ci 0))])
 (.cond a5 .bad .skip))
 (.seq (R [V s6 a0, .o s7 (.iaddr 1 a6 (ci 0)), .o s8 (.ld1 a7), .o s9 (.lenV a8), V s2 a9])
 .ret))),
 [.tmp s2]⟩
def L469 : LFun := ⟨[s0, s1],
 (.seq (R [V s4 (ci 0)])
 (.seq (R [V s5 a0, V s6 a1, .o s7 (.isub a6 (ci 2)), V s8 a1, .o s9 (.call 571 [a5, a7, a8]), V s4 a9])
 .ret)),
 [.tmp s4]⟩
def L478 : LFun := ⟨[s0],
 (.seq (R [V s2 (.c (.b false)), V s3 (.c (.s 0 0))])
 (.seq (.seq (R [V s4 a0, .o s5 (.call 480 [a4, (.c (.s 1 45))]), V s6 a5, .g s6 false s7 (.mv a0), .g s6 false s8 (.call 480 [a7, (.c (.s 1 43))]), .o s9 (.pick a6 (.c (.b true)) a8)])
 (.cond a9 .bad .skip))
 (.seq (R [V s15 a0, V s2 (.c (.b false)), V s3 a15])
 .ret))),
 [.tmp s2, .tmp s3]⟩
def L479 : LFun := ⟨[s0],
 (.seq (R [V s2 (.c (.s 0 0)), V s3 (.c (.s 0 0))])
 (.seq (R [V s5 a0, .o s6 (.lenS a5), V s7 a0, .o s8 (.call 367 [a7, (.c (.s 10 270211885617516653982000))]), .o s9 (.lenS a8), .o s10 (.isub a6 a9), V s4 a10])
 (.seq (.draw 0 [.q 0 0 (V s11 a0), .q 1 0 (V s12 a4), .q 2 3 (.o s13 (.slS a11 none (some a12))), .q 3 0 (V s14 a0), .q 4 0 (V s15 a4), .q 5 24 (.o s16 (.slS a14 (some a15) none)), .q 6 7 (V s2 a13), .q 7 127 (V s3 a16)])
 .ret))),
 [.tmp s2, .tmp s3]⟩
def L480 : LFun := ⟨[s0, s1],
 (.seq (R [V s4 (.c (.b false))])
 (.seq (R [V s5 a0, V s6 a1, .o s7 (.call 576 [a5, a6]), V s4 a7])
 .ret)),
 [.tmp s4]⟩
def L481 : LFun := ⟨[s0, s1],
 (.seq (R [V s4 (.c (.b false))])
 (.seq (R [V s5 a0, V s6 a1, .o s7 (.call 577 [a5, a6]), .o s8 (.ige a7 (ci 0)), V s4 a8])
 .ret)),
 [.tmp s4]⟩
def L482 : LFun := ⟨[s0],
 (.seq (R [V s2 (ci 0), V s3 (.c (.b false))])
 (.seq (R [V s6 a0, .o s7 (.call 367 [a6, (.c (.s 1 48))]), V s0 a7])
 (.seq (.seq (R [V s8 a0, .o s9 (.lenS a8), .o s10 (.igt a9 (ci 5))])
 (.cond a10 .bad .skip))
 (.seq (R [V s12 a0, .o s13 (.sadd (.c (.s 1 48)) a12), .o s14 (.call 251 [a13]), V s11 a14, .o s15 (.extract 0 a11), .o s16 (.extract 1 a11), V s4 a15, V s5 a16])
 (.seq (R [V s17 a4, V s18 a4, .o s19 (.ile a18 (ci 99999)), V s2 a17, V s3 a19])
 .ret))))),
 [.tmp s2, .tmp s3]⟩
def L483 : LFun := ⟨[s0, s1],
 (.seq (R [V s4 (.c (.s 0 0))])
 (.seq (.block 0 (.loop (.seq (.seq (R [V s5 a0, .o s6 (.lenS a5), .o s7 (.igt a6 (ci 0)), V s8 a7, .g s8 true s9 (.mv a0), .g s8 true s10 (.idxS a9 (ci 0)), .g s8 true s11 (.mv a1), .g s8 true s12 (.eq false 0 a10 a11), .o s13 (.pick a8 a12 (.c (.b false)))])
 (.cond a13 .skip (.exit 0)))
 (.block 1 (R [V s14 a0, .o s15 (.slS a14 (some (ci 1)) none), V s0 a15])))))
 (.seq (R [V s16 a0, V s4 a16])
 .ret))),
 [.tmp s4]⟩
def L484 : LFun := ⟨[s0],
 (.seq (R [.o s2 (.alloc [(.b false), (.b false), (.b false), (.b false), (.b false), (.b false), (.b false), (.b false), (.b false), (.b false), (.b false), (.b false), (.b false), (.b false), (.b false), (.b false), (.b false), (.b false), (.b false), (.b false), (.b false), (.b false), (.b false), (.b false), (.b false), (.b false), (.b false), (.b false), (.b false), (.b false), (.b false), (.b false), (.b false), (.b false), (.b false), (.b false), (.b false), (.b false), (.b false), (.b false), (.b false), (.b false), (.b false), (.b false), (.b false), (.b false), (.b false), (.b false), (.b false), (.b false), (.b false), (.b false), (.b false), (.b false), (.b false), (.b false), (.b false), (.b false), (.b false), (.b false), (.b false), (.b false), (.b false), (.b false), (.b false), (.b false), (.b false), (.b false), (.b false), (.b false), (.b false), (.b false), (.b false), (.b false), (.b false), (.b false), (.b false), (.b false), (.b false), (.b false), (.b false), (.b false), (.b false), (.b false), (.b false), (.b false), (.b false), (.b false), (.b false), (.b false), (.b false), (.b false), (.b false), (.b false), (.b false), (.b false), (.b false), (.b false), (.b false), (.b false), (.b false), (.b false), (.b false), (.b false), (.b false), (.b false), (.b false), (.b false), (.b false), (.b false), (.b false), (.b false), (.b false), (.b false), (.b false), (.b false), (.b false), (.b false), (.b false), (.b false), (.b false), (.b false), (.b false), (.b false), (.b false), (.b false), (.b false), (.b false), (.b false), (.b false), (.b false), (.b false), (.b false), (.b false), (.b false), (.b false), (.b false), (.b false), (.b false), (.b false), (.b false), (.b false), (.b false), (.b false), (.b false), (.b false), (.b false), (.b false), (.b false), (.b false), (.b false), (.b false), (.b false), (.b false), (.b false), (.b false), (.b false), (.b false), (.b false), (.b false), (.b false), (.b false), (.b false), (.b false), (.b false), (.b false), (.b false), (.b false), (.b false), (.b false), (.b false), (.b false), (.b false), (.b false), (.b false), (.b false), (.b false), (.b false), (.b false), (.b false), (.b false), (.b false), (.b false), (.b false), (.b false), (.b false), (.b false), (.b false), (.b false), (.b false), (.b false), (.b false), (.b false), (.b false), (.b false), (.b false), (.b false), (.b false), (.b false), (.b false), (.b false), (.b false), (.b false), (.b false), (.b false), (.b false), (.b false), (.b false), (.b false), (.b false), (.b false), (.b false), (.b false), (.b false), (.b false), (.b false), (.b false), (.b false), (.b false), (.b false), (.b false), (.b false), (.b false), (.b false), (.b false), (.b false), (.b false), (.b false), (.b false), (.b false), (.b false), (.b false), (.b false), (.b false), (.b false), (.b false), (.b false), (.b false), (.b false), (.b false), (.b false), (.b false), (.b false), (.b false), (.b false), (.b false), (.b false), (.b false), (.b false), (.b false), (.b false), (.b false), (.b false), (.b false), (.b false), (.b false)] 508), V s3 (.c (.b false))])
 (.seq (.seq (R [V s4 (ci 0)])
 (.block 0 (.loop (.seq (.seq (R [V s6 a4, V s7 a0, .o s8 (.lenS a7), .o s9 (.ilt a6 a8)])
 (.cond a9 .skip (.exit 0)))
 (.seq (.block 1 (.seq (R [V s12 a0, V s13 a4, .o s14 (.idxS a12 a13), V s5 a14])
 (.seq (.seq (R [V s15 a5, .o s16 (.ige a15 (.c (.i .u8 128)))])
 (.cond a16 .bad .skip))
 (R [V s18 a5, .o s19 (.iaddrA 256 1 a2 a18), .n (.st 1 a19 (.c (.b true)))]))))
 (R [V s10 a4, .o s11 (.iadd a10 (ci 1)), V s4 a11]))))))
 (.seq (R [.o s20 (.ldn 256 a2), .n (.st 256 a2 a20), V s3 (.c (.b true))])
 .ret))),
 [.cn s2 256, .tmp s3]⟩
def L485 : LFun := ⟨[s0, s1],
 (.seq (R [V s4 (.c (.s 0 0))])
 (.seq (.block 0 (.loop (.seq (.seq (R [V s5 a0, .o s6 (.lenS a5), .o s7 (.igt a6 (ci 0))])
 (.cond a7 .skip (.exit 0)))
 (.block 1 (.seq (.seq (R [V s8 a1, V s9 a0, .o s10 (.idxS a9 (ci 0)), .o s11 (.call 578 [a8, a10]), .o s12 (.not a11)])
 (.cond a12 (.exit 0) .skip))
 (R [V s13 a0, .o s14 (.slS a13 (some (ci 1)) none), V s0 a14]))))))
 (.seq (R [V s15 a0, V s4 a15])
 .ret))),
 [.tmp s4]⟩
def L487 : LFun := ⟨[s0, s1],
 (.seq (R [V s4 (.c (.b false))])
 (.seq (R [V s5 a0, V s6 a1, .o s7 (.call 580 [a5, a6]), .o s8 (.ige a7 (ci 0)), V s4 a8])
 .ret)),
 [.tmp s4]⟩
def L488 : LFun := ⟨[s0],
 (.seq (R [V s2 (.c (.b false))])
 (.seq (R [V s3 a0, .o s4 (.ilt a3 (.c (.i .i32 48))), V s5 a4, .g s5 false s6 (.mv a0), .g s5 false s7 (.igt a6 (.c (.i .i32 57))), .o s8 (.pick a5 (.c (.b true)) a7), V s2 a8])
 .ret)),
 [.tmp s2]⟩
def L489 : LFun := ⟨[s0, s1],
 (.seq (R [V s4 (.c .sl0)])
 (.seq (.seq (R [V s10 a0, .o s11 (.lenV a10), V s12 a1, .o s13 (.lenV a12), .o s14 (.ilt a11 a13)])
 (.cond a14 (R [V s15 a1, V s16 a0, V s0 a15, V s1 a16]) .skip))
 (.seq (R [V s17 a0, .o s18 (.lenV a17), .o s19 (.iadd a18 (ci 1)), .o s20 (.mks 227 1 [(.i .u32 0)] (ci 0) a19), V s5 a20])
 (.seq (R [V s6 (.c (.i .u64 0))])
 (.seq (.seq (R [V s21 a0, .o s22 (.lenV a21), V s23 (ci 0)])
 (.block 0 (.loop (.seq (R [.o s24 (.ilt a23 a22)])
 (.seq (.cond a24 .skip (.exit 0))
 (.seq (.block 1 (.seq (R [V s25 a23, .o s26 (.iaddr 1 a21 a23), .o s27 (.ld1 a26), V s7 a25, V s8 a27])
 (.seq (R [V s28 a8, .o s29 (.convI .u64 a28), V s30 a6, .o s31 (.iadd a29 a30), V s9 a31])
 (.seq (.seq (R [V s32 a7, V s33 a1, .o s34 (.lenV a33), .o s35 (.ilt a32 a34)])
 (.cond a35 (R [V s36 a9, V s37 a1, V s38 a7, .o s39 (.iaddr 1 a37 a38), .o s40 (.ld1 a39), .o s41 (.convI .u64 a40), .o s42 (.iadd a36 a41), V s9 a42]) .skip))
 (.seq (R [V s43 a5, V s44 a9, .o s45 (.iand a44 (.c (.i .u64 4294967295))), .o s46 (.convI .u32 a45), .o s47 (.bslice 227 1 1 [(.i .u32 0)] [(0, 1, a46)]), .o s48 (.append 1 227 a43 a47), V s5 a48])
 (R [V s49 a9, .o s50 (.ishr a49 (.c (.i .u64 32))), V s6 a50]))))))
 (R [.o s51 (.iadd a23 (ci 1)), V s23 a51])))))))
 (.seq (R [V s52 a5, V s53 a6, .o s54 (.convI .u32 a53), .o s55 (.bslice 227 1 1 [(.i .u32 0)] [(0, 1, a54)]), .o s56 (.append 1 227 a52 a55), .o s57 (.call 491 [a56]), V s4 a57])
 .ret)))))),
 [.tmp s4]⟩
def L490 : LFun := ⟨[s0, s1],
 (.seq (R [V s4 (.c .sl0)])
 (.seq (.seq (R [V s12 a0, .o s13 (.lenV a12), .o s14 (.eq false 0 a13 (ci 0)), V s15 a14, .g s15 false s16 (.mv a1), .g s15 false s17 (.lenV a16), .g s15 false s18 (.eq false 0 a17 (ci 0)), .o s19 (.pick a15 (.c (.b true)) a18)])
 (.cond a19 (.seq (R [V s4 (.c .sl0)])
 .ret) .skip))
 (.seq (R [V s20 a0, .o s21 (.lenV a20), V s22 a1, .o s23 (.lenV a22), .o s24 (.iadd a21 a23), .o s25 (.mks 227 1 [(.i .u32 0)] a24 a24), V s5 a25])
 (.seq (.seq (R [V s26 a0, .o s27 (.lenV a26), V s28 (ci 0)])
 (.block 0 (.loop (.seq (R [.o s29 (.ilt a28 a27)])
 (.seq (.cond a29 .skip (.exit 0))
 (.seq (.block 1 (.seq (R [V s30 a28, .o s31 (.iaddr 1 a26 a28), .o s32 (.ld1 a31), V s6 a30, V s7 a32])
 (.seq (R [V s8 (.c (.i .u64 0))])
 (.seq (.seq (R [V s33 a1, .o s34 (.lenV a33), V s35 (ci 0)])
 (.block 2 (.loop (.seq (R [.o s36 (.ilt a35 a34)])
 (.seq (.cond a36 .skip (.exit 2))
 (.seq (.block 3 (.seq (R [V s37 a35, .o s38 (.iaddr 1 a33 a35), .o s39 (.ld1 a38), V s9 a37, V s10 a39])
 (.seq (R [V s40 a7, .o s41 (.convI .u64 a40), V s42 a10, .o s43 (.convI .u64 a42), .o s44 (.imul a41 a43), V s45 a5, V s46 a6, V s47 a9, .o s48 (.iadd a46 a47), .o s49 (.iaddr 1 a45 a48), .o s50 (.ld1 a49), .o s51 (.convI .u64 a50), .o s52 (.iadd a44 a51), V s53 a8, .o s54 (.iadd a52 a53), V s11 a54])
 (.seq (R [V s55 a5, V s56 a6, V s57 a9, .o s58 (.iadd a56 a57), V s59 a11, .o s60 (.iand a59 (.c (.i .u64 4294967295))), .o s61 (.convI .u32 a60), .o s62 (.iaddr 1 a55 a58), .n (.st 1 a62 a61)])
 (R [V s63 a11, .o s64 (.ishr a63 (.c (.i .u64 32))), V s8 a64])))))
 (R [.o s65 (.iadd a35 (ci 1)), V s35 a65])))))))
 (R [V s66 a5, V s67 a6, V s68 a1, .o s69 (.lenV a68), .o s70 (.iadd a67 a69), V s71 a8, .o s72 (.convI .u32 a71), .o s73 (.iaddr 1 a66 a70), .n (.st 1 a73 a72)])))))
 (R [.o s74 (.iadd a28 (ci 1)), V s28 a74])))))))
 (.seq (R [V s75 a5, .o s76 (.call 491 [a75]), V s4 a76])
 .ret))))),
 [.tmp s4]⟩
def L491 : LFun := ⟨[s0],
 (.seq (R [V s2 (.c .sl0)])
 (.seq (R [V s4 a0, .o s5 (.lenV a4), V s3 a5])
 (.seq (.block 0 (.loop (.seq (.seq (R [V s6 a3, .o s7 (.igt a6 (ci 0)), V s8 a7, .g s8 true s9 (.mv a0), .g s8 true s10 (.mv a3), .g s8 true s11 (.isub a10 (ci 1)), .g s8 true s12 (.iaddr 1 a9 a11), .g s8 true s13 (.ld1 a12), .g s8 true s14 (.eq false 0 a13 (.c (.i .u32 0))), .o s15 (.pick a8 a14 (.c (.b false)))])
 (.cond a15 .skip (.exit 0)))
 (.block 1 (R [V s16 a3, .o s17 (.isub a16 (ci 1)), V s3 a17])))))
 (.seq (R [V s18 a0, V s19 a3, .o s20 (.slV 1 a18 none (some a19) none), V s2 a20])
 .ret)))),
 [.tmp s2]⟩
def L492 : LFun := ⟨[s0, s1],
 (.seq (R [.o s4 (.alloc [(.b false), .sl0] 163)])
 (.seq (R [V s5 a1, .o s6 (.call 491 [a5]), V s1 a6])
 (.seq (.seq (R [V s7 a1, .o s8 (.lenV a7), .o s9 (.eq false 0 a8 (ci 0))])
 (.cond a9 (.seq (R [.o s10 (.build [(.b false), .sl0] []), .n (.st 2 a4 a10)])
 .ret) .skip))
 (.seq (R [V s11 a0, V s12 a1, .o s13 (.build [(.b false), .sl0] [(0, 1, a11), (1, 1, a12)]), .n (.st 2 a4 a13)])
 .ret)))),
 [.cn s4 2]⟩
def L493 : LFun := ⟨[s0],
 (.seq (R [V s2 (.c .sl0)])
 (.seq (.seq (R [V s3 a0, .o s4 (.eq false 2 a3 (.c .sl0))])
 (.cond a4 .bad .skip))
 (.seq (R [.o s5 (.bslice 227 0 1 [] []), V s6 a0, .o s7 (.append 1 227 a5 a6), V s2 a7])
 .ret))),
 [.tmp s2]⟩
def L494 : LFun := ⟨[s0, s1, s2],
 (.seq (R [.o s3 (.box 165 a0), .o s4 (.box 165 a1), .o s6 (.alloc [(.b false), (.b false), .sl0, (.i .i64 0), (.b false)] 433)])
 (.seq (.draw 0 [.q 0 0 (V s11 a2), .q 1 1 (.o s12 (.iadd a11 (ci 3))), .q 2 0 (.o s13 (.faddr 1 a4)), .r 3 4 (.o s14 (.ldn 2 a13)), .q 6 0 (.o s17 (.faddr 1 a3)), .r 7 64 (.o s18 (.ldn 2 a17)), .s 4 12 (.o s15 (.call 504 [a14])), .q 5 31 (.o s16 (.iadd a12 a15)), .s 8 220 (.o s19 (.call 504 [a18])), .q 9 511 (.o s20 (.isub a16 a19)), .q 10 1023 (.o s21 (.imax (ci 0) a20)), .q 11 2047 (V s7 a21)])
 (.seq (.draw 2 [.q 0 0 (.o s23 (.faddr 1 a3)), .r 1 1 (.o s24 (.ldn 2 a23)), .q 3 0 (V s26 a7), .q 5 0 (.o s28 (.faddr 1 a4)), .r 6 32 (.o s29 (.ldn 2 a28)), .a 13 0 0 (.o s8 (.alloc [(.b false), .sl0] 163)), .a 14 0 1 (.o s9 (.alloc [(.b false), .sl0] 163)), .s 2 3 (.o s25 (.call 499 [a24])), .s 4 15 (.o s27 (.call 391 [a25, a26])), .s 7 127 (.o s30 (.call 499 [a29])), .s 8 255 (.o s31 (.call 581 [a27, a30])), .q 9 511 (V s22 a31), .q 10 1023 (.o s32 (.extract 0 a22)), .q 11 1023 (.o s33 (.extract 1 a22)), .q 12 1023 (.o s34 (.extract 2 a22)), .s 15 26623 (.n (.st 2 a8 a32)), .s 16 61439 (.n (.st 2 a9 a33)), .q 17 131071 (V s10 a34)])
 (.seq (.draw 0 [.q 0 0 (.o s35 (.faddr 1 a3)), .q 1 1 (.o s36 (.faddr 0 a35)), .r 2 3 (.o s37 (.ld1 a36)), .q 3 0 (.o s38 (.faddr 1 a4)), .q 4 8 (.o s39 (.faddr 0 a38)), .r 5 24 (.o s40 (.ld1 a39)), .q 6 63 (.o s41 (.eq true 6 a37 a40)), .r 7 0 (.o s42 (.ldn 2 a8)), .q 8 0 (.o s43 (.faddr 3 a3)), .r 9 256 (.o s44 (.ld1 a43)), .q 10 0 (V s45 a7), .q 11 1792 (.o s46 (.isub a44 a45)), .q 12 0 (.o s47 (.faddr 3 a4)), .r 13 4096 (.o s48 (.ld1 a47)), .q 14 16128 (.o s49 (.isub a46 a48)), .r 15 0 (.o s50 (.ldn 2 a9)), .s 16 32768 (.o s51 (.call 440 [a50])), .q 17 98304 (.o s52 (.eq true 0 a51 (ci 0))), .q 18 262143 (.o s53 (.build [(.b false), (.b false), .sl0, (.i .i64 0), (.b false)] [(0, 1, a41), (1, 2, a42), (3, 1, a49), (4, 1, a52)])), .s 19 524287 (.n (.st 5 a6 a53))])
 .ret)))),
 [.cn s6 5]⟩
def L495 : LFun := ⟨[s0, s1, s2],
 (.seq (R [V s6 (ci 20)])
 (.seq (R [V s10 a6, V s7 (ci 0), V s8 a10])
 (.seq (.block 0 (.loop (.seq (.seq (R [V s11 a8, V s12 a1, .o s13 (.ile a11 a12)])
 (.cond a13 .skip (.exit 0)))
 .bad)))
 (.seq (R [V s23 a0, V s24 a7, V s25 a1, V s26 a2, .o s27 (.call 582 [a23, a24, a25, a26])])
 (.block 2 (.loop (.seq (.seq (R [V s28 a6, V s29 a1, .o s30 (.ilt a28 a29)])
 (.cond a30 .skip (.exit 2)))
 .bad))))))),
 []⟩
def L496 : LFun := ⟨[s0],
 (.seq (R [V s2 (.c (.b false))])
 (.seq (R [V s3 a0, V s4 a0, .o s5 (.eq true 0 a3 a4), V s2 a5])
 .ret)),
 [.tmp s2]⟩
def L497 : LFun := ⟨[s0],
 (.seq (R [.o s1 (.box 433 a0), V s2 (ci 0)])
 (.seq (.draw 0 [.q 0 0 (.o s3 (.faddr 3 a1)), .r 1 1 (.o s4 (.ld1 a3)), .q 2 0 (.o s5 (.faddr 1 a1)), .r 3 4 (.o s6 (.ldn 2 a5)), .s 4 12 (.o s7 (.call 504 [a6])), .q 5 31 (.o s8 (.iadd a4 a7)), .q 6 63 (.o s9 (.isub a8 (ci 1))), .q 7 127 (V s2 a9)])
 .ret)),
 [.tmp s2]⟩
def L498 : LFun := ⟨[s0],
 (.seq (R [.o s1 (.box 163 a0), V s2 (ci 0), V s3 (.c (.b false))])
 (.seq (R [.o s8 (.faddr 1 a1), .o s9 (.ld1 a8), .o s10 (.call 491 [a9]), V s4 a10])
 (.seq (.seq (R [V s11 a4, .o s12 (.lenV a11), .o s13 (.igt a12 (ci 2))])
 (.cond a13 .bad .skip))
 (.seq (R [V s5 (.c (.i .u64 0))])
 (.seq (.seq (R [V s14 a4, .o s15 (.lenV a14), V s16 (ci 0)])
 (.block 0 (.loop (.seq (R [.o s17 (.ilt a16 a15)])
 (.seq (.cond a17 .skip (.exit 0))
 (.seq (.block 1 (.seq (R [V s18 a16, .o s19 (.iaddr 1 a14 a16), .o s20 (.ld1 a19), V s6 a18, V s7 a20])
 (R [V s21 a5, V s22 a7, .o s23 (.convI .u64 a22), V s24 a6, .o s25 (.imul (ci 32) a24), .o s26 (.ishl a23 a25), .o s27 (.ior a21 a26), V s5 a27])))
 (R [.o s28 (.iadd a16 (ci 1)), V s16 a28])))))))
 (.seq (.block 2 (.seq (R [.o s30 (.faddr 0 a1), .o s31 (.ld1 a30), V s32 a31, .g s32 true s33 (.mv a5), .g s32 true s34 (.igt a33 (.c (.i .u64 0))), .o s35 (.pick a32 a34 (.c (.b false))), V s36 a35, .g s36 true s37 (.mv a5), .g s36 true s38 (.ile a37 (.c (.i .u64 9223372036854775808))), .o s39 (.pick a36 a38 (.c (.b false))), V s29 a39])
 (.cond a29 .bad (.seq (R [V s46 a5, .o s47 (.ilt a46 (.c (.i .u64 9223372036854775808))), V s48 a47, .g s48 true s49 (.faddr 0 a1), .g s48 true s50 (.ld1 a49), .g s48 true s51 (.not a50), .g s48 true s52 (.mv a51), .g s52 false s53 (.mv a5), .g s52 false s54 (.eq false 0 a53 (.c (.i .u64 0))), .g s48 true s55 (.pick a52 (.c (.b true)) a54), .o s56 (.pick a48 a55 (.c (.b false))), V s45 a56])
 (.cond a45 (.seq (R [V s57 a5, .o s58 (.convI .i64 a57), V s2 a58, V s3 (.c (.b true))])
 .ret) .skip)))))
 .bad)))))),
 [.tmp s2, .tmp s3]⟩
def L499 : LFun := ⟨[s0],
 (.seq (R [.o s1 (.box 163 a0), .o s2 (.alloc [(.b false), .sl0] 163)])
 (.seq (R [.o s3 (.faddr 1 a1), .o s4 (.ld1 a3), .o s5 (.call 493 [a4]), .o s6 (.call 492 [(.c (.b false)), a5]), .n (.st 2 a2 a6)])
 .ret)),
 [.cn s2 2]⟩
def L500 : LFun := ⟨[s0, s1, s2],
 (.seq (R [.o s3 (.box 433 a0), .o s6 (.alloc [(.b false), .sl0] 163)])
 (.seq (R [.o s11 (.faddr 1 a3), .o s12 (.ldn 2 a11), .o s7 (.alloc [(.b false), .sl0] 163), .n (.st 2 a7 a12), V s8 (ci 18446744073709551615), V s9 (.c (.b true))])
 (.seq (.seq (R [V s13 a1, .o s14 (.faddr 3 a3), .o s15 (.ld1 a14), .o s16 (.ile a13 a15)])
 (.cond a16 (R [.o s17 (.ldn 2 a7), .o s18 (.faddr 3 a3), .o s19 (.ld1 a18), V s20 a1, .o s21 (.isub a19 a20), .o s22 (.call 391 [a17, a21]), .n (.st 2 a7 a22)]) (R [.o s24 (.ldn 5 a3), V s25 a1, .o s26 (.faddr 3 a3), .o s27 (.ld1 a26), .o s28 (.isub a25 a27), .o s29 (.call 584 [a24, a28]), V s23 a29, .o s30 (.extract 0 a23), .o s31 (.extract 1 a23), .o s32 (.extract 2 a23), .n (.st 2 a7 a30), V s8 a31, V s9 a32])))
 (.seq (R [V s10 (.c (.b false))])
 (.seq (.block 0 (.seq (R [V s50 a9, V s49 a50])
 (.cond a49 .skip (.seq (R [V s52 a2, .o s53 (.eq false 0 a52 (ci 1)), V s51 a53])
 (.cond a51 .bad (.seq (R [V s57 a2, .o s58 (.eq false 0 a57 (ci 2)), V s56 a58])
 (.cond a56 .bad (.seq (R [V s63 a2, .o s64 (.eq false 0 a63 (ci 3)), V s62 a64])
 (.cond a62 .skip (R [V s33 a8, .o s34 (.igt a33 (ci 0)), V s35 a34, .g s35 false s36 (.mv a8), .g s35 false s37 (.eq false 0 a36 (ci 0)), .g s35 false s38 (.mv a37), .g s38 true s39 (.ldn 2 a7), .g s38 true s40 (.call 440 [a39]), .g s38 true s41 (.eq true 0 a40 (ci 0)), .g s35 false s42 (.pick a38 a41 (.c (.b false))), .g s35 false s43 (.mv a42), .g s43 true s44 (.ldn 2 a7), .g s43 true s45 (.call 503 [a44]), .g s43 true s46 (.eq false 0 a45 (ci 0)), .g s35 false s47 (.pick a43 a46 (.c (.b false))), .o s48 (.pick a35 (.c (.b true)) a47), V s10 a48]))))))))))
 (.seq (.seq (R [V s65 a10])
 (.cond a65 (.draw 0 [.r 0 0 (.o s66 (.ldn 2 a7)), .s 1 0 (.o s67 (.call 381 [(ci 1)])), .s 2 3 (.o s68 (.call 390 [a66, a67])), .s 3 7 (.n (.st 2 a7 a68))]) .skip))
 (.seq (.seq (R [.o s69 (.faddr 0 a3), .o s70 (.ld1 a69)])
 (.cond a70 .bad .skip))
 (.seq (R [.o s73 (.ldn 2 a7), .n (.st 2 a6 a73)])
 .ret)))))))),
 [.cn s6 2]⟩
def L501 : LFun := ⟨[s0, s1],
 (.seq (R [V s4 (.c (.i .u64 0))])
 (.seq (.seq (R [V s5 a1])
 (.cond a5 .bad .skip))
 (.seq (R [V s8 a0, V s4 a8])
 .ret))),
 [.tmp s4]⟩
def L503 : LFun := ⟨[s0],
 (.seq (R [.o s1 (.box 163 a0), V s2 (ci 0)])
 (.seq (.seq (R [.o s5 (.faddr 1 a1), .o s6 (.ld1 a5), .o s7 (.lenV a6), V s8 (ci 0)])
 (.block 0 (.loop (.seq (R [.o s9 (.ilt a8 a7)])
 (.seq (.cond a9 .skip (.exit 0))
 (.seq (.block 1 (.seq (R [V s10 a8, .o s11 (.iaddr 1 a6 a8), .o s12 (.ld1 a11), V s3 a10, V s4 a12])
 (.seq (R [V s13 a4, .o s14 (.eq true 0 a13 (.c (.i .u32 0)))])
 (.cond a14 (.seq (R [V s15 a3, .o s16 (.imul a15 (ci 32)), V s17 a4, .o s18 (.call 336 [a17]), .o s19 (.iadd a16 a18), V s2 a19])
 .ret) .skip))))
 (R [.o s20 (.iadd a8 (ci 1)), V s8 a20])))))))
 .bad)),
 [.tmp s2]⟩
def L504 : LFun := ⟨[s0],
 (.seq (R [.o s1 (.box 163 a0), V s2 (ci 0)])
 (.seq (R [.o s3 (.faddr 1 a1), .o s4 (.ld1 a3), .o s5 (.call 491 [a4]), .o s6 (.call 585 [a5]), V s2 a6])
 .ret)),
 [.tmp s2]⟩
def L505 : LFun := ⟨[s0, s1],
 (.seq (R [.o s2 (.box 163 a0), .o s4 (.alloc [(.b false), .sl0] 163)])
 (.seq (.block 0 (.loop (.seq (.seq (R [V s5 a1, .o s6 (.igt a5 (ci 1048576))])
 (.cond a6 .skip (.exit 0)))
 .bad)))
 (.seq (R [.o s15 (.ldn 2 a2), V s16 a1, .o s17 (.neg a16), .o s18 (.call 447 [a15, a17]), V s14 a18, .o s19 (.extract 0 a14), .o s20 (.extract 1 a14), .n (.st 2 a2 a19)])
 (.seq (R [.o s21 (.ldn 2 a2), .n (.st 2 a4 a21)])
 .ret)))),
 [.cn s4 2]⟩
def L506 : LFun := ⟨[s0, s1],
 (.seq (R [V s4 (ci 0)])
 (.seq (.seq (R [V s6 a0, .o s7 (.lenV a6), V s8 a1, .o s9 (.lenV a8), .o s10 (.eq true 0 a7 a9)])
 (.cond a10 (.seq (R [V s11 a0, .o s12 (.lenV a11), V s13 a1, .o s14 (.lenV a13), .o s15 (.call 380 [a12, a14]), V s4 a15])
 .ret) .skip))
 (.seq (.seq (R [V s16 a0, .o s17 (.lenV a16), .o s18 (.isub a17 (ci 1)), V s5 a18])
 (.block 0 (.loop (.seq (.seq (R [V s19 a5, .o s20 (.ige a19 (ci 0))])
 (.cond a20 .skip (.exit 0)))
 (.seq (.block 1 (.seq (.draw 0 [.q 0 0 (V s23 a0), .q 1 0 (V s24 a5), .q 2 3 (.o s25 (.iaddr 1 a23 a24)), .r 3 7 (.o s26 (.ld1 a25)), .q 4 0 (V s27 a1), .q 5 0 (V s28 a5), .q 6 48 (.o s29 (.iaddr 1 a27 a28)), .r 7 112 (.o s30 (.ld1 a29)), .q 8 255 (.o s31 (.eq true 0 a26 a30))])
 (.cond a31 (.seq (.draw 0 [.q 0 0 (V s32 a0), .q 1 0 (V s33 a5), .q 2 3 (.o s34 (.iaddr 1 a32 a33)), .r 3 7 (.o s35 (.ld1 a34)), .q 4 0 (V s36 a1), .q 5 0 (V s37 a5), .q 6 48 (.o s38 (.iaddr 1 a36 a37)), .r 7 112 (.o s39 (.ld1 a38)), .s 8 255 (.o s40 (.call 586 [a35, a39])), .q 9 511 (V s4 a40)])
 .ret) .skip)))
 (R [V s21 a5, .o s22 (.isub a21 (ci 1)), V s5 a22]))))))
 (.seq (R [V s4 (ci 0)])
 .ret)))),
 [.tmp s4]⟩
def L507 : LFun := ⟨[s0, s1],
 (.seq (R [V s4 (.c .sl0)])
 (.seq (R [V s10 a0, .o s11 (.lenV a10), .o s12 (.mks 227 1 [(.i .u32 0)] a11 a11), V s5 a12])
 (.seq (R [V s6 (.c (.i .u64 0))])
 (.seq (.seq (R [V s13 a0, .o s14 (.lenV a13), V s15 (ci 0)])
 (.block 0 (.loop (.seq (R [.o s16 (.ilt a15 a14)])
 (.seq (.cond a16 .skip (.exit 0))
 (.seq (.block 1 (.seq (R [V s17 a15, .o s18 (.iaddr 1 a13 a15), .o s19 (.ld1 a18), V s7 a17, V s8 a19])
 (.seq (R [V s20 a8, .o s21 (.convI .u64 a20), V s22 a6, .o s23 (.isub a21 a22), V s9 a23])
 (.seq (.seq (R [V s24 a7, V s25 a1, .o s26 (.lenV a25), .o s27 (.ilt a24 a26)])
 (.cond a27 (R [V s28 a9, V s29 a1, V s30 a7, .o s31 (.iaddr 1 a29 a30), .o s32 (.ld1 a31), .o s33 (.convI .u64 a32), .o s34 (.isub a28 a33), V s9 a34]) .skip))
 (.seq (R [V s35 a5, V s36 a7, V s37 a9, .o s38 (.iand a37 (.c (.i .u64 4294967295))), .o s39 (.convI .u32 a38), .o s40 (.iaddr 1 a35 a36), .n (.st 1 a40 a39)])
 (R [V s41 a9, .o s42 (.ishr a41 (.c (.i .u64 32))), .o s43 (.iand a42 (.c (.i .u64 1))), V s6 a43]))))))
 (R [.o s44 (.iadd a15 (ci 1)), V s15 a44])))))))
 (.seq (R [V s45 a5, .o s46 (.call 491 [a45]), V s4 a46])
 .ret))))),
 [.tmp s4]⟩
def L508 : LFun := ⟨[s0, s1],
 (.seq (R [.o s2 (.box 123 a0), V s4 (ci 0)])
 (.seq (R [.o s6 (.ldn 1 a2), .o s7 (.call 516 [a6]), V s5 a7])
 (.seq (.block 0 (.seq (R [V s9 a5, .o s10 (.eq true 0 a9 (ci 0)), V s8 a10])
 (.cond a8 .bad (.seq (R [V s13 a1, .o s14 (.lenV a13), .o s15 (.faddr 0 a2), .o s16 (.ld1 a15), .o s17 (.lenV a16), .o s18 (.eq true 0 a14 a17), V s12 a18])
 (.cond a12 .bad (.seq (R [V s20 a1, .o s21 (.mkf 588 [] [a2]), .o s22 (.call 587 [a20, a21]), V s23 a22, .g s23 false s24 (.mv a1), .g s23 false s25 (.call 590 [a24]), .o s26 (.pick a23 (.c (.b true)) a25), V s19 a26])
 (.cond a19 .bad .skip)))))))
 (.seq (R [V s4 (ci 0)])
 .ret)))),
 [.tmp s4]⟩
def L509 : LFun := ⟨[s0, s1],
 (.seq (R [.o s2 (.box 123 a0), .o s4 (.alloc [.sl0] 123)])
 (.seq (R [V s10 a1, .o s11 (.lenV a10), .o s12 (.call 400 [a11]), V s5 a12])
 (.seq (.seq (R [V s13 a1, .o s14 (.lenV a13), V s15 (ci 0)])
 (.block 0 (.loop (.seq (R [.o s16 (.ilt a15 a14)])
 (.seq (.cond a16 .skip (.exit 0))
 (.seq (.block 1 (.seq (R [V s17 a15, .o s18 (.iaddr 1 a13 a15), .o s19 (.ld1 a18), V s6 a17, V s7 a19])
 (.seq (R [V s20 a1, V s21 a6, .o s22 (.slV 1 a20 none (some a21) none), .o s23 (.lenV a22), V s24 (ci 0)])
 (.block 2 (.loop (.seq (R [.o s25 (.ilt a24 a23)])
 (.seq (.cond a25 .skip (.exit 2))
 .bad)))))))
 (R [.o s38 (.iadd a15 (ci 1)), V s15 a38])))))))
 (.seq (R [V s39 a5, .o s40 (.call 403 [a39]), .n (.st 1 a4 a40)])
 .ret)))),
 [.cn s4 1]⟩
def L510 : LFun := ⟨[s0],
 (.seq (R [.o s1 (.box 123 a0), V s2 (.c .sl0), V s3 (ci 0)])
 (.seq (R [.o s10 (.ldn 1 a1), .o s11 (.call 516 [a10]), V s4 a11])
 (.seq (.seq (R [V s12 a4, .o s13 (.eq true 0 a12 (ci 0))])
 (.cond a13 .bad .skip))
 (.seq (R [.o s15 (.faddr 0 a1), .o s16 (.ld1 a15), .o s17 (.lenV a16), .o s18 (.call 592 [a17]), V s5 a18])
 (.seq (.seq (R [.o s19 (.faddr 0 a1), .o s20 (.ld1 a19), .o s21 (.lenV a20), V s22 (ci 0)])
 (.block 0 (.loop (.seq (R [.o s23 (.ilt a22 a21)])
 (.seq (.cond a23 .skip (.exit 0))
 (.seq (.block 1 (.seq (R [V s24 a22, .o s25 (.iaddr 1 a20 a22), .o s26 (.ld1 a25), V s6 a24, V s7 a26])
 (.seq (R [V s27 a7, .o s28 (.lenV a27), V s29 (ci 0)])
 (.block 2 (.loop (.seq (R [.o s30 (.ilt a29 a28)])
 (.seq (.cond a30 .skip (.exit 2))
 .bad)))))))
 (R [.o s38 (.iadd a22 (ci 1)), V s22 a38])))))))
 (.seq (R [V s39 a5, .o s40 (.nilc a39), .o s41 (.faddr 0 a40), .o s42 (.ld1 a41), V s2 a42, V s3 (ci 0)])
 .ret)))))),
 [.tmp s2, .tmp s3]⟩
def L511 : LFun := ⟨[s0, s1, s2],
 (.seq (R [.o s3 (.box 123 a0), V s6 (.c .sl0)])
 (.seq (R [V s13 a2, .o s14 (.iadd a13 (ci 1)), .o s15 (.mks 4 1 [(.b false)] a14 a14), V s7 a15])
 (.seq (R [V s16 a7, V s17 a2, .o s18 (.iaddr 1 a16 a17), .n (.st 1 a18 (.c (.b true)))])
 (.seq (.seq (R [.o s19 (.faddr 0 a3), .o s20 (.ld1 a19), V s21 a2, .o s22 (.iaddr 1 a20 a21), .o s23 (.ld1 a22), .o s24 (.lenV a23), V s25 (ci 0)])
 (.block 0 (.loop (.seq (R [.o s26 (.ilt a25 a24)])
 (.seq (.cond a26 .skip (.exit 0))
 .bad)))))
 (.seq (R [V s10 (.c .sl0)])
 (.seq (.seq (R [V s51 a7, .o s52 (.lenV a51), V s53 (ci 0)])
 (.block 4 (.loop (.seq (R [.o s54 (.ilt a53 a52)])
 (.seq (.cond a54 .skip (.exit 4))
 (.seq (.block 5 (.seq (R [V s55 a53, .o s56 (.iaddr 1 a51 a53), .o s57 (.ld1 a56), V s11 a55, V s12 a57])
 (.seq (R [V s58 a12])
 (.cond a58 (R [V s59 a10, V s60 a11, .o s61 (.bslice 3 1 1 [(.i .i64 0)] [(0, 1, a60)]), .o s62 (.append 1 3 a59 a61), V s10 a62]) .skip))))
 (R [.o s63 (.iadd a53 (ci 1)), V s53 a63])))))))
 (.seq (R [V s64 a10, V s6 a64])
 .ret))))))),
 [.tmp s6]⟩
def L512 : LFun := ⟨[s0, s1, s2],
 (.seq (R [.o s6 (.alloc [(.b false), (.b false), .sl0, (.i .i64 0)] 165)])
 (.seq (R [V s7 a0, .o s8 (.nilc a7), .o s9 (.faddr 2 a8), .o s10 (.ld1 a9), V s11 a1, V s12 a2, .o s13 (.imin a11 a12), .o s14 (.iaddr 1 a10 a13), .o s15 (.ld1 a14), V s16 a1, V s17 a2, .o s18 (.imax a16 a17), .o s19 (.lookup false (.agg [(.b false), (.b false), .sl0, (.i .i64 0)]) false a15 a18), .n (.st 4 a6 a19)])
 .ret)),
 [.cn s6 4]⟩
def L513 : LFun := ⟨[s0],
 (.seq (R [.o s1 (.box 165 a0), .o s2 (.alloc [(.b false), (.b false), .sl0, (.i .i64 0)] 165)])
 (.seq (R [.o s5 (.ldn 4 a1), .o s6 (.call 388 [a5]), V s4 a6, .o s7 (.extract 0 a4), .o s8 (.extract 1 a4), .n (.st 4 a1 a7), V s3 a8])
 (.seq (.seq (R [V s9 a3])
 (.cond a9 (R [.o s10 (.faddr 1 a1), .o s11 (.ldn 2 a10), .o s12 (.call 369 [a11]), .o s13 (.faddr 1 a1), .n (.st 2 a13 a12)]) .skip))
 (.seq (R [.o s14 (.ldn 4 a1), .n (.st 4 a2 a14)])
 .ret)))),
 [.cn s2 4]⟩
def L514 : LFun := ⟨[s0, s1],
 (.seq (R [.o s2 (.box 165 a0), .o s4 (.alloc [(.b false), (.b false), .sl0, (.i .i64 0), (.b false)] 433)])
 (.seq (R [V s9 a1, .o s10 (.iadd a9 (ci 3)), .o s11 (.imul (ci 2) a10), .o s12 (.faddr 1 a2), .o s13 (.ldn 2 a12), .o s14 (.call 504 [a13]), .o s15 (.isub a11 a14), .o s16 (.imax (ci 0) a15), V s5 a16])
 (.seq (.seq (R [.o s17 (.faddr 3 a2), .o s18 (.ld1 a17), V s19 a5, .o s20 (.isub a18 a19), .o s21 (.irem a20 (ci 2)), .o s22 (.eq true 0 a21 (ci 0))])
 (.cond a22 (R [V s23 a5, .o s24 (.iadd a23 (ci 1)), V s5 a24]) .skip))
 (.seq (R [.o s25 (.faddr 1 a2), .o s26 (.ldn 2 a25), V s27 a5, .o s28 (.call 391 [a26, a27]), .o s6 (.alloc [(.b false), .sl0] 163), .n (.st 2 a6 a28)])
 (.seq (R [.o s30 (.ldn 2 a6), .o s31 (.call 594 [a30]), V s29 a31, .o s32 (.extract 0 a29), .o s33 (.extract 1 a29), .o s7 (.alloc [(.b false), .sl0] 163), .n (.st 2 a7 a32), V s8 a33])
 (.seq (.draw 0 [.r 0 0 (.o s34 (.ldn 2 a7)), .q 1 0 (.o s35 (.faddr 3 a2)), .r 2 2 (.o s36 (.ld1 a35)), .q 3 0 (V s37 a5), .q 4 14 (.o s38 (.isub a36 a37)), .q 5 30 (.o s39 (.iquo a38 (ci 2))), .r 6 0 (.o s40 (.ldn 2 a7)), .r 7 0 (.o s41 (.ldn 2 a7)), .r 9 0 (.o s43 (.ldn 2 a6)), .s 8 192 (.o s42 (.call 373 [a40, a41])), .s 10 960 (.o s44 (.call 437 [a42, a43])), .q 11 1984 (.o s45 (.eq true 0 a44 (ci 0))), .q 12 4095 (.o s46 (.build [(.b false), (.b false), .sl0, (.i .i64 0), (.b false)] [(1, 2, a34), (3, 1, a39), (4, 1, a45)])), .s 13 8191 (.n (.st 5 a4 a46))])
 .ret)))))),
 [.cn s4 5]⟩
def L515 : LFun := ⟨[s0, s1],
 (.seq (R [V s4 (.c .sl0)])
 (.seq (R [V s5 (.c .sl0)])
 (.seq (.seq (R [V s8 a0, V s9 a1, .o s10 (.iaddr 1 a8 a9), .o s11 (.ld1 a10), .o s12 (.lenV a11), V s13 (ci 0)])
 (.block 0 (.loop (.seq (R [.o s14 (.ilt a13 a12)])
 (.seq (.cond a14 .skip (.exit 0))
 (.seq (.block 1 (.seq (R [V s15 a13, .o s16 (.iaddr 1 a11 a13), .o s17 (.ld1 a16), V s6 a15, V s7 a17])
 (.seq (R [V s18 a7])
 (.cond a18 .bad .skip))))
 (R [.o s23 (.iadd a13 (ci 1)), V s13 a23])))))))
 (.seq (R [V s24 a5, V s4 a24])
 .ret)))),
 [.tmp s4]⟩
def L516 : LFun := ⟨[s0],
 (.seq (R [.o s1 (.box 123 a0), V s2 (ci 0)])
 (.seq (R [.o s10 (.faddr 0 a1), .o s11 (.ld1 a10), .o s12 (.lenV a11), V s3 a12])
 (.seq (.seq (R [V s13 a3, .o s14 (.igt a13 (ci 200))])
 (.cond a14 .bad .skip))
 (.seq (.seq (R [.o s15 (.faddr 0 a1), .o s16 (.ld1 a15), .o s17 (.lenV a16), V s18 (ci 0)])
 (.block 0 (.loop (.seq (R [.o s19 (.ilt a18 a17)])
 (.seq (.cond a19 .skip (.exit 0))
 (.seq (.block 1 (.seq (R [V s20 a18, .o s21 (.iaddr 1 a16 a18), .o s22 (.ld1 a21), V s4 a20, V s5 a22])
 (.seq (R [V s23 a5, V s24 a3, .o s25 (.call 595 [a23, a24]), .o s26 (.not a25), V s27 a26, .g s27 false s28 (.ldn 1 a1), .g s27 false s29 (.mv a4), .g s27 false s30 (.mv a4), .g s27 false s31 (.call 591 [a28, a29, a30]), .o s32 (.pick a27 (.c (.b true)) a31)])
 (.cond a32 .bad .skip))))
 (R [.o s33 (.iadd a18 (ci 1)), V s18 a33])))))))
 (.seq (.seq (R [.o s34 (.faddr 0 a1), .o s35 (.ld1 a34), .o s36 (.lenV a35), V s37 (ci 0)])
 (.block 2 (.loop (.seq (R [.o s38 (.ilt a37 a36)])
 (.seq (.cond a38 .skip (.exit 2))
 (.seq (.block 3 (.seq (R [V s39 a37, .o s40 (.iaddr 1 a35 a37), .o s41 (.ld1 a40), V s6 a39, V s7 a41])
 (.seq (R [V s42 a7, .o s43 (.lenV a42), V s44 (ci 0)])
 (.block 4 (.loop (.seq (R [.o s45 (.ilt a44 a43)])
 (.seq (.cond a45 .skip (.exit 4))
 .bad)))))))
 (R [.o s54 (.iadd a37 (ci 1)), V s37 a54])))))))
 (.seq (R [V s2 (ci 0)])
 .ret)))))),
 [.tmp s2]⟩
def L517 : LFun := ⟨[s0],
 (.seq (R [.o s1 (.box 123 a0), V s2 (.c .p0)])
 (.seq (R [.o s9 (.faddr 0 a1), .o s10 (.ld1 a9), .o s11 (.lenV a10), V s3 a11])
 (.seq (.draw 6 [.q 0 0 (V s12 a3), .a 1 1 0 (.o s13 (.mks 593 1 [.m0] a12 a12)), .q 2 0 (V s14 a3), .a 3 4 1 (.o s15 (.mks 593 1 [.m0] a14 a14)), .q 4 0 (V s16 a3), .a 5 16 2 (.o s17 (.mks 593 1 [.m0] a16 a16)), .q 6 0 (V s18 a3), .a 7 64 3 (.o s19 (.mks 3 1 [(.i .i64 0)] a18 a18)), .q 8 0 (V s20 a3), .a 9 256 4 (.o s21 (.mks 4 1 [(.b false)] a20 a20)), .q 10 0 (V s22 a3), .q 11 2047 (.o s23 (.build [.sl0, .sl0, .sl0, .sl0, .sl0, (.i .i64 0)] [(0, 1, a13), (1, 1, a15), (2, 1, a17), (3, 1, a19), (4, 1, a21), (5, 1, a22)])), .a 12 4095 5 (.o s24 (.box 529 a23)), .q 13 8191 (V s4 a24)])
 (.seq (.seq (R [.o s25 (.faddr 0 a1), .o s26 (.ld1 a25), .o s27 (.lenV a26), V s28 (ci 0)])
 (.block 0 (.loop (.seq (R [.o s29 (.ilt a28 a27)])
 (.seq (.cond a29 .skip (.exit 0))
 (.seq (.block 1 (.seq (R [V s30 a28, .o s31 (.iaddr 1 a26 a28), .o s32 (.ld1 a31), V s5 a30, V s6 a32])
 (.seq (.draw 2 [.q 0 0 (V s33 a4), .q 1 1 (.o s34 (.nilc a33)), .q 2 3 (.o s35 (.faddr 0 a34)), .r 3 7 (.o s36 (.ld1 a35)), .q 4 0 (V s37 a5), .q 5 0 (V s38 a4), .q 6 32 (.o s39 (.nilc a38)), .q 7 96 (.o s40 (.faddr 1 a39)), .r 8 224 (.o s41 (.ld1 a40)), .q 9 0 (V s42 a5), .q 10 0 (V s43 a4), .q 11 1024 (.o s44 (.nilc a43)), .q 12 3072 (.o s45 (.faddr 3 a44)), .r 13 7168 (.o s46 (.ld1 a45)), .q 14 0 (V s47 a5), .a 15 0 0 (.o s48 .mkm), .a 16 0 1 (.o s49 .mkm), .q 17 0 (V s50 a6), .q 18 131072 (.o s51 (.lenV a50)), .q 19 48639 (.o s52 (.iaddr 1 a36 a37)), .s 20 572927 (.n (.st 1 a52 a48)), .q 21 1687551 (.o s53 (.iaddr 1 a41 a42)), .s 22 3784703 (.n (.st 1 a53 a49)), .q 23 8388607 (.o s54 (.iaddr 1 a46 a47)), .s 24 16777215 (.n (.st 1 a54 a51))])
 (.seq (R [V s55 a6, .o s56 (.lenV a55), V s57 (ci 0)])
 (.block 2 (.loop (.seq (R [.o s58 (.ilt a57 a56)])
 (.seq (.cond a58 .skip (.exit 2))
 .bad))))))))
 (R [.o s70 (.iadd a28 (ci 1)), V s28 a70])))))))
 (.seq (R [V s71 a4, V s2 a71])
 .ret))))),
 [.tmp s2]⟩
def L518 : LFun := ⟨[s0],
 (.seq (R [V s2 (ci 0)])
 (.seq (R [V s3 (ci 18446744073709551615)])
 (.seq (.seq (R [V s6 a0, .o s7 (.nilc a6), .o s8 (.faddr 3 a7), .o s9 (.ld1 a8), .o s10 (.lenV a9), V s11 (ci 0)])
 (.block 0 (.loop (.seq (R [.o s12 (.ilt a11 a10)])
 (.seq (.cond a12 .skip (.exit 0))
 (.seq (.block 1 (.seq (R [V s13 a11, .o s14 (.iaddr 1 a9 a11), .o s15 (.ld1 a14), V s4 a13, V s5 a15])
 (.seq (R [V s16 a0, .o s17 (.nilc a16), .o s18 (.faddr 4 a17), .o s19 (.ld1 a18), V s20 a4, .o s21 (.iaddr 1 a19 a20), .o s22 (.ld1 a21), .o s23 (.not a22), V s24 a23, .g s24 true s25 (.mv a3), .g s24 true s26 (.ilt a25 (ci 0)), .g s24 true s27 (.mv a26), .g s27 false s28 (.mv a5), .g s27 false s29 (.mv a0), .g s27 false s30 (.nilc a29), .g s27 false s31 (.faddr 3 a30), .g s27 false s32 (.ld1 a31), .g s27 false s33 (.mv a3), .g s27 false s34 (.iaddr 1 a32 a33), .g s27 false s35 (.ld1 a34), .g s27 false s36 (.ilt a28 a35), .g s24 true s37 (.pick a27 (.c (.b true)) a36), .o s38 (.pick a24 a37 (.c (.b false)))])
 (.cond a38 (R [V s39 a4, V s3 a39]) .skip))))
 (R [.o s40 (.iadd a11 (ci 1)), V s11 a40])))))))
 (.seq (R [V s41 a3, V s2 a41])
 .ret)))),
 [.tmp s2]⟩
def L519 : LFun := ⟨[s0, s1],
 (.seq (R [V s12 a0, .o s13 (.nilc a12), .o s14 (.faddr 4 a13), .o s15 (.ld1 a14), V s16 a1, .o s17 (.iaddr 1 a15 a16), .n (.st 1 a17 (.c (.b true)))])
 (.seq (R [V s18 a0, .o s19 (.nilc a18), .o s20 (.faddr 5 a19), .o s21 (.ld1 a20), .o s22 (.isub a21 (ci 1)), .o s23 (.nilc a18), .o s24 (.faddr 5 a23), .n (.st 1 a24 a22)])
 (.seq (R [.o s25 .mkm, V s4 a25])
 (.seq (.seq (R [V s26 a0, .o s27 (.nilc a26), .o s28 (.faddr 0 a27), .o s29 (.ld1 a28), V s30 a1, .o s31 (.iaddr 1 a29 a30), .o s32 (.ld1 a31), .o s33 (.rangeM a32)])
 (.block 0 (.loop (.seq (R [.o s34 (.nextM a33), .o s35 (.extract 0 a34)])
 (.seq (.cond a35 .skip (.exit 0))
 .bad)))))
 (.seq (.seq (R [V s40 a0, .o s41 (.nilc a40), .o s42 (.faddr 1 a41), .o s43 (.ld1 a42), V s44 a1, .o s45 (.iaddr 1 a43 a44), .o s46 (.ld1 a45), .o s47 (.rangeM a46)])
 (.block 2 (.loop (.seq (R [.o s48 (.nextM a47), .o s49 (.extract 0 a48)])
 (.seq (.cond a49 .skip (.exit 2))
 .bad)))))
 (.seq (R [V s66 a4, V s67 a1, .n (.delete false a66 a67)])
 (.seq (R [V s68 a0, .o s69 (.nilc a68), .o s70 (.faddr 2 a69), .o s71 (.ld1 a70), V s72 a1, V s73 a4, .o s74 (.iaddr 1 a71 a72), .n (.st 1 a74 a73)])
 (.seq (.seq (R [V s75 a4, .o s76 (.rangeM a75)])
 (.block 6 (.loop (.seq (R [.o s77 (.nextM a76), .o s78 (.extract 0 a77)])
 (.seq (.cond a78 .skip (.exit 6))
 .bad)))))
 (.seq (R [V s131 a4, .o s132 (.rangeM a131)])
 (.block 12 (.loop (.seq (R [.o s133 (.nextM a132), .o s134 (.extract 0 a133)])
 (.seq (.cond a134 .skip (.exit 12))
 .bad))))))))))))),
 []⟩
def L520 : LFun := ⟨[s0],
 (.seq (R [V s2 (.c (.b false))])
 (.seq (R [V s6 a0, .o s7 (.lenV a6), .o s8 (.mks 4 1 [(.b false)] a7 a7), V s3 a8])
 (.seq (.seq (R [V s9 a0, .o s10 (.lenV a9), V s11 (ci 0)])
 (.block 0 (.loop (.seq (R [.o s12 (.ilt a11 a10)])
 (.seq (.cond a12 .skip (.exit 0))
 (.seq (.block 1 (.seq (R [.o s13 (.iaddr 1 a9 a11), .o s14 (.ld1 a13), V s5 a14])
 (.seq (.seq (R [V s15 a5, .o s16 (.ilt a15 (ci 0)), V s17 a16, .g s17 false s18 (.mv a5), .g s17 false s19 (.mv a0), .g s17 false s20 (.lenV a19), .g s17 false s21 (.ige a18 a20), .o s22 (.pick a17 (.c (.b true)) a21), V s23 a22, .g s23 false s24 (.mv a3), .g s23 false s25 (.mv a5), .g s23 false s26 (.iaddr 1 a24 a25), .g s23 false s27 (.ld1 a26), .o s28 (.pick a23 (.c (.b true)) a27)])
 (.cond a28 .bad .skip))
 (R [V s29 a3, V s30 a5, .o s31 (.iaddr 1 a29 a30), .n (.st 1 a31 (.c (.b true)))]))))
 (R [.o s32 (.iadd a11 (ci 1)), V s11 a32])))))))
 (.seq (R [V s2 (.c (.b true))])
 .ret)))),
 [.tmp s2]⟩
def L521 : LFun := ⟨[s0],
 (.seq (R [.o s1 (.box 57 a0), V s2 (.c (.b false))])
 (.seq (R [.o s7 (.faddr 0 a1), .o s8 (.ld1 a7), .o s9 (.lenV a8), V s3 a9])
 (.seq (.seq (.draw 0 [.q 0 0 (.o s10 (.faddr 1 a1)), .r 1 1 (.o s11 (.ld1 a10)), .q 2 3 (.o s12 (.iaddr 1 a11 (ci 0))), .r 3 7 (.o s13 (.ld1 a12)), .q 4 15 (.o s14 (.eq true 0 a13 (ci 0))), .q 5 31 (V s15 a14), .q 6 63 (.g s15 false s16 (.faddr 1 a1)), .r 7 127 (.g s15 false s17 (.ld1 a16)), .q 8 63 (.g s15 false s18 (.mv a3)), .q 9 511 (.g s15 false s19 (.iaddr 1 a17 a18)), .r 10 1023 (.g s15 false s20 (.ld1 a19)), .q 11 63 (.g s15 false s21 (.faddr 2 a1)), .r 12 2111 (.g s15 false s22 (.ld1 a21)), .q 13 6207 (.g s15 false s23 (.lenV a22)), .q 14 16383 (.g s15 false s24 (.eq true 0 a20 a23)), .q 15 32767 (.o s25 (.pick a15 (.c (.b true)) a24))])
 (.cond a25 .bad .skip))
 (.seq (.seq (R [V s26 a3, V s27 (ci 0)])
 (.block 0 (.loop (.seq (R [.o s28 (.ilt a27 a26)])
 (.seq (.cond a28 .skip (.exit 0))
 (.seq (.block 1 (.seq (R [V s29 a27, V s4 a29])
 (.seq (.seq (.draw 0 [.q 0 0 (.o s30 (.faddr 1 a1)), .r 1 1 (.o s31 (.ld1 a30)), .q 2 0 (V s32 a4), .q 3 7 (.o s33 (.iaddr 1 a31 a32)), .r 4 15 (.o s34 (.ld1 a33)), .q 5 0 (.o s35 (.faddr 1 a1)), .r 6 32 (.o s36 (.ld1 a35)), .q 7 0 (V s37 a4), .q 8 128 (.o s38 (.iadd a37 (ci 1))), .q 9 480 (.o s39 (.iaddr 1 a36 a38)), .r 10 992 (.o s40 (.ld1 a39)), .q 11 2047 (.o s41 (.igt a34 a40)), .q 12 4095 (V s42 a41), .q 13 8191 (.g s42 false s43 (.faddr 1 a1)), .r 14 16383 (.g s42 false s44 (.ld1 a43)), .q 15 8191 (.g s42 false s45 (.mv a4)), .q 16 40959 (.g s42 false s46 (.iadd a45 (ci 1))), .q 17 131071 (.g s42 false s47 (.iaddr 1 a44 a46)), .r 18 262143 (.g s42 false s48 (.ld1 a47)), .q 19 8191 (.g s42 false s49 (.faddr 2 a1)), .r 20 532479 (.g s42 false s50 (.ld1 a49)), .q 21 1581055 (.g s42 false s51 (.lenV a50)), .q 22 4194303 (.g s42 false s52 (.igt a48 a51)), .q 23 8388607 (.o s53 (.pick a42 (.c (.b true)) a52))])
 (.cond a53 .bad .skip))
 (.seq (.draw 0 [.q 0 0 (.o s54 (.faddr 2 a1)), .r 1 1 (.o s55 (.ld1 a54)), .q 2 0 (.o s56 (.faddr 1 a1)), .r 3 4 (.o s57 (.ld1 a56)), .q 4 0 (V s58 a4), .q 5 28 (.o s59 (.iaddr 1 a57 a58)), .r 6 60 (.o s60 (.ld1 a59)), .q 7 0 (.o s61 (.faddr 1 a1)), .r 8 128 (.o s62 (.ld1 a61)), .q 9 0 (V s63 a4), .q 10 512 (.o s64 (.iadd a63 (ci 1))), .q 11 1920 (.o s65 (.iaddr 1 a62 a64)), .r 12 3968 (.o s66 (.ld1 a65)), .q 13 8191 (.o s67 (.slV 1 a55 (some a60) (some a66) none)), .q 14 16383 (V s5 a67)])
 (.seq (.seq (R [V s68 a5, .o s69 (.lenV a68), .o s70 (.eq false 0 a69 (ci 0)), V s71 a70, .g s71 false s72 (.mv a5), .g s71 false s73 (.iaddr 1 a72 (ci 0)), .g s71 false s74 (.ld1 a73), .g s71 false s75 (.mv a4), .g s71 false s76 (.eq true 0 a74 a75), .o s77 (.pick a71 (.c (.b true)) a76), V s78 a77, .g s78 false s79 (.mv a5), .g s78 false s80 (.mv a5), .g s78 false s81 (.lenV a80), .g s78 false s82 (.isub a81 (ci 1)), .g s78 false s83 (.iaddr 1 a79 a82), .g s78 false s84 (.ld1 a83), .g s78 false s85 (.mv a3), .g s78 false s86 (.ige a84 a85), .o s87 (.pick a78 (.c (.b true)) a86)])
 (.cond a87 .bad .skip))
 (.seq (R [V s6 (ci 1)])
 (.block 2 (.loop (.seq (.seq (R [V s88 a6, V s89 a5, .o s90 (.lenV a89), .o s91 (.ilt a88 a90)])
 (.cond a91 .skip (.exit 2)))
 .bad)))))))))
 (R [.o s104 (.iadd a27 (ci 1)), V s27 a104])))))))
 (.seq (R [V s2 (.c (.b true))])
 .ret))))),
 [.tmp s2]⟩
def L522 : LFun := ⟨[s0],
 (.seq (R [V s2 (ci 0)])
 (.seq (.seq (R [V s5 a0, .o s6 (.lenV a5), V s7 (ci 0)])
 (.block 0 (.loop (.seq (R [.o s8 (.ilt a7 a6)])
 (.seq (.cond a8 .skip (.exit 0))
 (.seq (.block 1 (.seq (R [.o s9 (.iaddr 1 a5 a7), .o s10 (.ld1 a9), V s4 a10])
 (.seq (R [V s11 a4, .o s12 (.call 253 [a11]), .o s13 (.not a12)])
 (.cond a13 .bad .skip))))
 (R [.o s14 (.iadd a7 (ci 1)), V s7 a14])))))))
 (.seq (R [V s2 (ci 0)])
 .ret))),
 [.tmp s2]⟩
def L523 : LFun := ⟨[s0],
 (.seq (R [.o s2 (.alloc [(.b false), .sl0] 163), .o s3 (.alloc [(.b false), .sl0] 163)])
 (.seq (R [V s6 a0, .o s7 (.call 411 [a6]), .o s8 (.call 256 [a7]), .o s4 (.alloc [(.b false), (.b false), .sl0, (.i .i64 0)] 165), .n (.st 4 a4 a8)])
 (.seq (R [.o s9 (.call 381 [(ci 1)]), .o s5 (.alloc [(.b false), .sl0] 163), .n (.st 2 a5 a9)])
 (.seq (.seq (R [.o s10 (.faddr 3 a4), .o s11 (.ld1 a10), .o s12 (.ige a11 (ci 0))])
 (.cond a12 (.seq (R [.o s14 (.faddr 1 a4), .o s15 (.ldn 2 a14), .o s16 (.faddr 3 a4), .o s17 (.ld1 a16), .o s18 (.call 447 [a15, a17]), V s13 a18, .o s19 (.extract 0 a13), .o s20 (.extract 1 a13), .n (.st 2 a2 a19)])
 (.seq (.draw 0 [.r 0 0 (.o s21 (.ldn 2 a2)), .r 1 0 (.o s22 (.ldn 2 a5)), .s 2 1 (.n (.st 2 a2 a21)), .s 3 7 (.n (.st 2 a3 a22))])
 .ret)) .skip))
 .bad)))),
 [.cn s2 2, .cn s3 2]⟩
def L524 : LFun := ⟨[s0, s1],
 (.seq (R [.o s2 (.box 163 a0), .o s3 (.box 163 a1), V s4 (ci 0)])
 (.seq (.draw 0 [.r 0 0 (.o s8 (.ldn 2 a2)), .r 2 0 (.o s10 (.ldn 2 a3)), .s 1 1 (.o s9 (.call 504 [a8])), .s 3 7 (.o s11 (.call 504 [a10])), .q 4 15 (.o s12 (.isub a9 a11)), .q 5 31 (.o s13 (.isub a12 (ci 1))), .q 6 63 (.o s14 (.imul a13 (ci 30103))), .q 7 127 (.o s15 (.iquo a14 (ci 100000))), .q 8 255 (V s5 a15)])
 (.seq (R [V s16 a5, .o s17 (.isub a16 (ci 2)), V s5 a17])
 (.block 0 (.loop (.seq (.block 1 (.seq (R [.o s21 (.ldn 2 a2), .o s22 (.ldn 2 a3), V s23 a5, .o s24 (.neg a23), .o s25 (.isub a24 (ci 1)), .o s26 (.call 527 [a21, a22, a25]), V s20 a26, .o s27 (.extract 0 a20), .o s28 (.extract 1 a20), .o s6 (.alloc [(.b false), .sl0] 163), .o s7 (.alloc [(.b false), .sl0] 163), .n (.st 2 a6 a27), .n (.st 2 a7 a28)])
 (.seq (R [.o s29 (.ldn 2 a6), .o s30 (.ldn 2 a7), .o s31 (.call 437 [a29, a30]), .o s32 (.ilt a31 (ci 0))])
 (.cond a32 (.seq (R [V s33 a5, V s4 a33])
 .ret) .skip))))
 (R [V s18 a5, .o s19 (.iadd a18 (ci 1)), V s5 a19]))))))),
 [.tmp s4]⟩
def L525 : LFun := ⟨[s0],
 (.seq (R [.o s1 (.box 163 a0), V s2 (.c (.s 0 0))])
 (.seq (R [.o s8 (.faddr 1 a1), .o s9 (.ld1 a8), .o s10 (.call 491 [a9]), .o s11 (.call 493 [a10]), V s3 a11])
 (.seq (R [V s4 (.c .sl0)])
 (.seq (.block 0 (.loop (.seq (.seq (R [V s12 a3, .o s13 (.lenV a12), .o s14 (.igt a13 (ci 0))])
 (.cond a14 .skip (.exit 0)))
 (.block 1 (.seq (R [V s16 a3, .o s17 (.call 597 [a16, (.c (.i .u32 1000000000))]), V s15 a17, .o s18 (.extract 0 a15), .o s19 (.extract 1 a15), V s5 a18, V s6 a19])
 (.seq (R [V s20 a6, .o s21 (.convI .i64 a20), .o s22 (.call 22 [a21]), V s7 a22])
 (.seq (.seq (R [V s23 a5, .o s24 (.lenV a23), .o s25 (.igt a24 (ci 0))])
 (.cond a25 .bad .skip))
 (R [V s32 a4, V s33 a7, .o s34 (.bslice 9 1 1 [(.s 0 0)] [(0, 1, a33)]), .o s35 (.append 1 9 a32 a34), V s36 a5, V s4 a35, V s3 a36]))))))))
 (.seq (.seq (R [V s37 a4, .o s38 (.lenV a37), .o s39 (.eq false 0 a38 (ci 0))])
 (.cond a39 .bad .skip))
 (.seq (.seq (R [.o s40 (.faddr 0 a1), .o s41 (.ld1 a40)])
 (.cond a41 .bad .skip))
 (.seq (R [V s45 a4, .o s46 (.call 599 [a45])])
 (.seq (R [V s47 a4, .o s48 (.call 23 [a47, (.c (.s 0 0))]), V s2 a48])
 .ret)))))))),
 [.tmp s2]⟩
def L526 : LFun := ⟨[s0, s1],
 (.seq (R [.o s2 (.box 163 a0), .o s3 (.box 163 a1), .o s4 (.alloc [(.b false), .sl0] 163)])
 (.seq (R [.o s10 (.ldn 2 a2), .o s11 (.ldn 2 a3), .o s12 (.call 581 [a10, a11]), V s9 a12, .o s13 (.extract 0 a9), .o s14 (.extract 1 a9), .o s15 (.extract 2 a9), .o s5 (.alloc [(.b false), .sl0] 163), .o s6 (.alloc [(.b false), .sl0] 163), .n (.st 2 a5 a13), .n (.st 2 a6 a14), V s7 a15])
 (.seq (.draw 0 [.r 0 0 (.o s16 (.ldn 2 a6)), .r 1 0 (.o s17 (.ldn 2 a6)), .r 3 0 (.o s19 (.ldn 2 a3)), .s 2 3 (.o s18 (.call 390 [a16, a17])), .s 4 15 (.o s20 (.call 437 [a18, a19])), .q 5 31 (V s8 a20)])
 (.seq (.seq (R [V s21 a8, .o s22 (.igt a21 (ci 0)), V s23 a22, .g s23 false s24 (.mv a8), .g s23 false s25 (.eq false 0 a24 (ci 0)), .g s23 false s26 (.mv a25), .g s26 true s27 (.ldn 2 a5), .g s26 true s28 (.call 440 [a27]), .g s26 true s29 (.eq true 0 a28 (ci 0)), .g s23 false s30 (.pick a26 a29 (.c (.b false))), .g s23 false s31 (.mv a30), .g s31 true s32 (.ldn 2 a5), .g s31 true s33 (.call 503 [a32]), .g s31 true s34 (.eq false 0 a33 (ci 0)), .g s23 false s35 (.pick a31 a34 (.c (.b false))), .o s36 (.pick a23 (.c (.b true)) a35)])
 (.cond a36 .bad .skip))
 (.seq (R [.o s40 (.ldn 2 a5), .n (.st 2 a4 a40)])
 .ret))))),
 [.cn s4 2]⟩
def L527 : LFun := ⟨[s0, s1, s2],
 (.seq (R [.o s3 (.box 163 a0), .o s4 (.box 163 a1), .o s6 (.alloc [(.b false), .sl0] 163), .o s7 (.alloc [(.b false), .sl0] 163)])
 (.seq (.seq (R [V s8 a2, .o s9 (.ige a8 (ci 0))])
 (.cond a9 (.seq (.draw 0 [.r 0 0 (.o s10 (.ldn 2 a3)), .q 1 0 (V s11 a2), .r 4 0 (.o s14 (.ldn 2 a4)), .s 2 2 (.o s12 (.call 374 [a11])), .s 3 7 (.o s13 (.call 373 [a10, a12])), .s 5 15 (.n (.st 2 a6 a13)), .s 6 63 (.n (.st 2 a7 a14))])
 .ret) .skip))
 (.seq (.draw 0 [.r 0 0 (.o s15 (.ldn 2 a3)), .r 1 0 (.o s16 (.ldn 2 a4)), .q 2 0 (V s17 a2), .q 3 4 (.o s18 (.neg a17)), .s 4 12 (.o s19 (.call 374 [a18])), .s 5 30 (.o s20 (.call 373 [a16, a19])), .s 6 63 (.n (.st 2 a6 a15)), .s 7 127 (.n (.st 2 a7 a20))])
 .ret))),
 [.cn s6 2, .cn s7 2]⟩
def L528 : LFun := ⟨[s0],
 (.seq (R [V s2 (.c (.b false))])
 (.seq (.seq (R [V s5 a0, .o s6 (.lenV a5), V s7 (ci 0)])
 (.block 0 (.loop (.seq (R [.o s8 (.ilt a7 a6)])
 (.seq (.cond a8 .skip (.exit 0))
 (.seq (.block 1 (.seq (R [.o s9 (.iaddr 1 a5 a7), .o s10 (.ld1 a9), V s4 a10])
 (.seq (R [V s11 a4, .o s12 (.call 398 [a11]), .o s13 (.eq false 0 a12 (ci 3))])
 (.cond a13 .bad .skip))))
 (R [.o s14 (.iadd a7 (ci 1)), V s7 a14])))))))
 (.seq (R [V s2 (.c (.b false))])
 .ret))),
 [.tmp s2]⟩
def L530 : LFun := ⟨[s0],
 (.seq (R [V s2 (.c (.b false))])
 (.seq (.seq (R [V s4 a0, .o s5 (.lenV a4), .o s6 (.isub a5 (ci 1)), V s3 a6])
 (.block 0 (.loop (.seq (.seq (R [V s7 a3, .o s8 (.igt a7 (ci 0))])
 (.cond a8 .skip (.exit 0)))
 (.seq (.block 1 (.seq (.draw 0 [.q 0 0 (V s11 a0), .q 1 0 (V s12 a3), .q 2 3 (.o s13 (.iaddr 1 a11 a12)), .r 3 7 (.o s14 (.ld1 a13)), .q 4 0 (V s15 a0), .q 5 0 (V s16 a3), .q 6 32 (.o s17 (.isub a16 (ci 1))), .q 7 112 (.o s18 (.iaddr 1 a15 a17)), .r 8 240 (.o s19 (.ld1 a18)), .s 9 511 (.o s20 (.call 600 [a14, a19]))])
 (.cond a20 .bad .skip)))
 (R [V s9 a3, .o s10 (.isub a9 (ci 1)), V s3 a10]))))))
 (.seq (R [V s2 (.c (.b true))])
 .ret))),
 [.tmp s2]⟩
def L531 : LFun := ⟨[s0, s1],
 (.seq (R [V s4 (ci 0)])
 (.seq (.seq (R [V s6 a0, .o s7 (.lenV a6), V s8 (ci 0)])
 (.block 0 (.loop (.seq (R [.o s9 (.ilt a8 a7)])
 (.seq (.cond a9 .skip (.exit 0))
 (.seq (.block 1 (.seq (R [V s10 a8, V s5 a10])
 (.seq (R [V s11 a1, V s12 a0, V s13 a5, .o s14 (.iaddr 1 a12 a13), .o s15 (.ld1 a14), .o s16 (.callv a11 [a15])])
 (.cond a16 .bad .skip))))
 (R [.o s18 (.iadd a8 (ci 1)), V s8 a18])))))))
 (.seq (R [V s4 (ci 18446744073709551615)])
 .ret))),
 [.tmp s4]⟩
def L547 : LFun := ⟨[s0, s1],
 (.seq (R [.o s2 (.box 165 a0), .o s3 (.box 165 a1), .o s4 (.alloc [(.b false), (.b false), .sl0, (.i .i64 0)] 165), .o s5 (.alloc [(.b false), (.b false), .sl0, (.i .i64 0)] 165), V s6 (.c (.b false))])
 (.seq (R [.o s9 (.ldn 4 a2), .o s10 (.call 388 [a9]), V s8 a10, .o s11 (.extract 0 a8), .o s12 (.extract 1 a8), .n (.st 4 a4 a11), V s6 a12])
 (.seq (R [.o s14 (.ldn 4 a3), .o s15 (.call 388 [a14]), V s13 a15, .o s16 (.extract 0 a13), .o s17 (.extract 1 a13), .n (.st 4 a5 a16), V s7 a17])
 (.seq (.draw 0 [.r 0 0 (.o s18 (.ldn 4 a4)), .r 1 0 (.o s19 (.ldn 4 a5)), .q 2 0 (V s20 a6), .q 3 4 (V s21 a20), .q 4 12 (.g s21 true s22 (.mv a7)), .q 5 28 (.o s23 (.pick a21 a22 (.c (.b false)))), .s 6 13 (.n (.st 4 a4 a18)), .s 7 79 (.n (.st 4 a5 a19)), .q 8 255 (V s6 a23)])
 .ret)))),
 [.cn s4 4, .cn s5 4, .tmp s6]⟩
def L548 : LFun := ⟨[s0, s1],
 (.seq (R [.o s2 (.box 165 a0), .o s3 (.box 165 a1), .o s4 (.alloc [(.b false), .sl0] 163), .o s5 (.alloc [(.b false), .sl0] 163), V s6 (ci 0)])
 (.seq (R [.o s7 (.faddr 3 a2), .o s8 (.ld1 a7), .o s9 (.faddr 3 a3), .o s10 (.ld1 a9), .o s11 (.imin a8 a10), V s6 a11])
 (.seq (.draw 0 [.q 0 0 (.o s12 (.faddr 1 a2)), .r 1 1 (.o s13 (.ldn 2 a12)), .q 2 0 (.o s14 (.faddr 3 a2)), .r 3 4 (.o s15 (.ld1 a14)), .q 4 0 (V s16 a6), .q 5 28 (.o s17 (.isub a15 a16)), .q 7 0 (.o s19 (.faddr 1 a3)), .r 8 128 (.o s20 (.ldn 2 a19)), .q 9 0 (.o s21 (.faddr 3 a3)), .r 10 512 (.o s22 (.ld1 a21)), .q 11 0 (V s23 a6), .q 12 3584 (.o s24 (.isub a22 a23)), .q 14 0 (V s26 a6), .s 6 63 (.o s18 (.call 391 [a13, a17])), .s 13 8191 (.o s25 (.call 391 [a20, a24])), .s 15 16383 (.n (.st 2 a4 a18)), .s 16 49151 (.n (.st 2 a5 a25)), .q 17 131071 (V s6 a26)])
 .ret))),
 [.cn s4 2, .cn s5 2, .tmp s6]⟩
def L553 : LFun := ⟨[s0],
 (.seq (R [V s2 (ci 0)])
 (.seq (R [V s4 a0, .o s5 (.call 554 [a4]), .o s3 (.alloc [(.i .i64 0)] 3), .n (.st 1 a3 a5)])
 (.seq (.block 0 (.seq (R [V s7 a0, .o s8 (.mkf 610 [] [a3]), .o s9 (.call 609 [a7, a8]), V s6 a9])
 (.cond a6 .bad (.seq (R [V s11 a0, .o s12 (.lenV a11), .o s13 (.igt a12 (ci 16)), V s14 a13, .g s14 false s15 (.ld1 a3), .g s14 false s16 (.igt a15 (ci 16)), .o s17 (.pick a14 (.c (.b true)) a16), V s10 a17])
 (.cond a10 .bad .skip)))))
 (.seq (R [V s2 (ci 0)])
 .ret)))),
 [.tmp s2]⟩
def L554 : LFun := ⟨[s0],
 (.seq (R [V s2 (ci 0)])
 (.seq (.seq (R [V s3 a0, .o s4 (.lenV a3), .o s5 (.eq false 0 a4 (ci 0))])
 (.cond a5 .bad .skip))
 (.seq (R [V s6 a0, .o s7 (.iaddr 1 a6 (ci 0)), .o s8 (.ld1 a7), .o s9 (.lenV a8), V s2 a9])
 .ret))),
 [.tmp s2]⟩
def L555 : LFun := ⟨[s0, s1],
 (.seq (R [V s4 (.c .sl0)])
 (.seq (R [V s5 (.c .sl0)])
 (.seq (.seq (R [V s13 a0, .o s14 (.lenV a13), V s15 (ci 0)])
 (.block 0 (.loop (.seq (R [.o s16 (.ilt a15 a14)])
 (.seq (.cond a16 .skip (.exit 0))
 (.seq (.block 1 (.seq (R [.o s17 (.iaddr 1 a13 a15), .o s18 (.ld1 a17), V s7 a18])
 (.seq (R [V s8 (.c .sl0)])
 (.seq (.seq (R [V s19 a7, .o s20 (.lenV a19), V s21 (ci 0)])
 (.block 2 (.loop (.seq (R [.o s22 (.ilt a21 a20)])
 (.seq (.cond a22 .skip (.exit 2))
 (.seq (.block 3 (.seq (R [V s23 a21, V s9 a23])
 (.seq (R [.o s10 (.alloc [(.b false), .sl0] 163)])
 (.seq (.seq (R [V s24 a7, .o s25 (.lenV a24), V s26 (ci 0)])
 (.block 4 (.loop (.seq (R [.o s27 (.ilt a26 a25)])
 (.seq (.cond a27 .skip (.exit 4))
 (.seq (.block 5 (.seq (R [V s28 a26, .o s29 (.iaddr 2 a24 a26), .o s30 (.ldn 2 a29), .o s12 (.alloc [(.b false), .sl0] 163), V s11 a28, .n (.st 2 a12 a30)])
 (.draw 0 [.r 0 0 (.o s31 (.ldn 2 a10)), .r 1 0 (.o s32 (.ldn 2 a12)), .q 2 0 (V s33 a1), .q 3 0 (V s34 a11), .q 4 12 (.o s35 (.iaddr 1 a33 a34)), .r 5 28 (.o s36 (.ld1 a35)), .q 6 0 (V s37 a9), .q 7 124 (.o s38 (.iaddr 2 a36 a37)), .r 8 252 (.o s39 (.ldn 2 a38)), .s 9 510 (.o s40 (.call 373 [a32, a39])), .s 10 1023 (.o s41 (.call 390 [a31, a40])), .s 11 2047 (.n (.st 2 a10 a41))])))
 (R [.o s42 (.iadd a26 (ci 1)), V s26 a42])))))))
 (R [V s43 a8, .o s44 (.ldn 2 a10), .o s45 (.bslice 163 1 2 [(.b false), .sl0] [(0, 2, a44)]), .o s46 (.append 2 163 a43 a45), V s8 a46])))))
 (R [.o s47 (.iadd a21 (ci 1)), V s21 a47])))))))
 (R [V s48 a5, V s49 a8, .o s50 (.bslice 301 1 1 [.sl0] [(0, 1, a49)]), .o s51 (.append 1 301 a48 a50), V s5 a51])))))
 (R [.o s52 (.iadd a15 (ci 1)), V s15 a52])))))))
 (.seq (R [V s53 a5, V s4 a53])
 .ret)))),
 [.tmp s4]⟩
def L556 : LFun := ⟨[s0, s1],
 (.seq (R [.o s2 (.box 163 a0), .o s3 (.box 163 a1), .o s4 (.alloc [(.b false), .sl0] 163), V s5 (ci 0)])
 (.seq (R [.o s10 (.ldn 2 a2), .o s11 (.ldn 2 a3), .o s12 (.call 581 [a10, a11]), V s9 a12, .o s13 (.extract 0 a9), .o s14 (.extract 1 a9), .o s15 (.extract 2 a9), .o s6 (.alloc [(.b false), .sl0] 163), .o s7 (.alloc [(.b false), .sl0] 163), .n (.st 2 a6 a13), .n (.st 2 a7 a14), V s8 a15])
 (.seq (.seq (R [V s16 a8, .o s17 (.eq false 0 a16 (ci 0)), V s18 a17, .g s18 true s19 (.faddr 1 a7), .g s18 true s20 (.ld1 a19), .g s18 true s21 (.lenV a20), .g s18 true s22 (.igt a21 (ci 0)), .o s23 (.pick a18 a22 (.c (.b false)))])
 (.cond a23 .bad .skip))
 (.seq (R [.o s25 (.ldn 2 a6), V s26 a8, .n (.st 2 a4 a25), V s5 a26])
 .ret)))),
 [.cn s4 2, .tmp s5]⟩
def L559 : LFun := ⟨[s0, s1],
 (.seq (R [V s4 (.c .sl0)])
 (.seq (.seq (R [V s11 a0, .o s12 (.lenV a11), .o s13 (.eq false 0 a12 (ci 0))])
 (.cond a13 .bad .skip))
 (.seq (R [V s14 a1, .o s15 (.iquo a14 (ci 32)), V s16 a1, .o s17 (.irem a16 (ci 32)), .o s18 (.convI .u64 a17), V s5 a15, V s6 a18])
 (.seq (R [V s19 a5, V s20 a0, .o s21 (.lenV a20), .o s22 (.iadd a19 a21), .o s23 (.iadd a22 (ci 1)), .o s24 (.mks 227 1 [(.i .u32 0)] a23 a23), V s7 a24])
 (.seq (.seq (R [V s25 a0, .o s26 (.lenV a25), V s27 (ci 0)])
 (.block 0 (.loop (.seq (R [.o s28 (.ilt a27 a26)])
 (.seq (.cond a28 .skip (.exit 0))
 (.seq (.block 1 (.seq (R [V s29 a27, .o s30 (.iaddr 1 a25 a27), .o s31 (.ld1 a30), V s8 a29, V s9 a31])
 (.seq (R [V s32 a9, .o s33 (.convI .u64 a32), V s34 a6, .o s35 (.ishl a33 a34), V s10 a35])
 (.seq (R [V s36 a7, V s37 a5, V s38 a8, .o s39 (.iadd a37 a38), .o s40 (.iaddr 1 a36 a39), .o s41 (.ld1 a40), V s42 a10, .o s43 (.iand a42 (.c (.i .u64 4294967295))), .o s44 (.convI .u32 a43), .o s45 (.ior a41 a44), .o s46 (.iaddr 1 a36 a39), .n (.st 1 a46 a45)])
 (R [V s47 a7, V s48 a5, V s49 a8, .o s50 (.iadd a48 a49), .o s51 (.iadd a50 (ci 1)), V s52 a10, .o s53 (.ishr a52 (.c (.i .u64 32))), .o s54 (.convI .u32 a53), .o s55 (.iaddr 1 a47 a51), .n (.st 1 a55 a54)])))))
 (R [.o s56 (.iadd a27 (ci 1)), V s27 a56])))))))
 (.seq (R [V s57 a7, .o s58 (.call 491 [a57]), V s4 a58])
 .ret)))))),
 [.tmp s4]⟩
def L560 : LFun := ⟨[s0, s1],
 (.seq (R [V s4 (.c .sl0), V s5 (.c (.b false))])
 (.seq (R [V s12 a1, .o s13 (.iquo a12 (ci 32)), V s14 a1, .o s15 (.irem a14 (ci 32)), .o s16 (.convI .u64 a15), V s6 a13, V s7 a16])
 (.seq (.seq (R [V s17 a6, V s18 a0, .o s19 (.lenV a18), .o s20 (.ige a17 a19)])
 (.cond a20 (.seq (R [V s21 a0, .o s22 (.lenV a21), .o s23 (.igt a22 (ci 0)), V s4 (.c .sl0), V s5 a23])
 .ret) .skip))
 (.seq (R [V s24 a0, V s25 a6, .o s26 (.slV 1 a24 none (some a25) none), .o s27 (.call 611 [a26, (.c (.f 612 [] []))]), V s28 a27, .g s28 false s29 (.mv a0), .g s28 false s30 (.mv a6), .g s28 false s31 (.iaddr 1 a29 a30), .g s28 false s32 (.ld1 a31), .g s28 false s33 (.mv a7), .g s28 false s34 (.ishl (.c (.i .u32 1)) a33), .g s28 false s35 (.isub a34 (.c (.i .u32 1))), .g s28 false s36 (.iand a32 a35), .g s28 false s37 (.eq true 0 a36 (.c (.i .u32 0))), .o s38 (.pick a28 (.c (.b true)) a37), V s8 a38])
 (.seq (R [V s39 a0, .o s40 (.lenV a39), V s41 a6, .o s42 (.isub a40 a41), .o s43 (.mks 227 1 [(.i .u32 0)] a42 a42), V s9 a43])
 (.seq (.seq (R [V s44 a9, .o s45 (.lenV a44), V s46 (ci 0)])
 (.block 0 (.loop (.seq (R [.o s47 (.ilt a46 a45)])
 (.seq (.cond a47 .skip (.exit 0))
 (.seq (.block 1 (.seq (R [V s48 a46, V s10 a48])
 (.seq (R [V s49 a0, V s50 a6, V s51 a10, .o s52 (.iadd a50 a51), .o s53 (.iaddr 1 a49 a52), .o s54 (.ld1 a53), .o s55 (.convI .u64 a54), V s11 a55])
 (.seq (.seq (R [V s56 a6, V s57 a10, .o s58 (.iadd a56 a57), .o s59 (.iadd a58 (ci 1)), V s60 a0, .o s61 (.lenV a60), .o s62 (.ilt a59 a61)])
 (.cond a62 (R [V s63 a11, V s64 a0, V s65 a6, V s66 a10, .o s67 (.iadd a65 a66), .o s68 (.iadd a67 (ci 1)), .o s69 (.iaddr 1 a64 a68), .o s70 (.ld1 a69), .o s71 (.convI .u64 a70), .o s72 (.ishl a71 (.c (.i .u64 32))), .o s73 (.ior a63 a72), V s11 a73]) .skip))
 (R [V s74 a9, V s75 a10, V s76 a11, V s77 a7, .o s78 (.ishr a76 a77), .o s79 (.iand a78 (.c (.i .u64 4294967295))), .o s80 (.convI .u32 a79), .o s81 (.iaddr 1 a74 a75), .n (.st 1 a81 a80)])))))
 (R [.o s82 (.iadd a46 (ci 1)), V s46 a82])))))))
 (.seq (R [V s83 a9, .o s84 (.call 491 [a83]), V s85 a8, V s4 a84, V s5 a85])
 .ret))))))),
 [.tmp s4, .tmp s5]⟩
def L561 : LFun := ⟨[s0],
 (.seq (R [V s2 (ci 0), V s3 (ci 0)])
 (.seq (R [V s5 a0, .o s6 (.call 553 [a5]), V s4 a6])
 (.seq (.seq (R [V s7 a4, .o s8 (.eq true 0 a7 (ci 0))])
 (.cond a8 .bad .skip))
 (.seq (R [V s10 a0, .o s11 (.call 439 [a10, (.c .sl0)]), V s12 a0, .o s13 (.call 554 [a12]), .o s14 (.call 563 [a11, a13]), .o s15 (.fld1 1 a14), .o s16 (.lenV a15), V s2 a16, V s3 (ci 0)])
 .ret)))),
 [.tmp s2, .tmp s3]⟩
def L562 : LFun := ⟨[s0, s1],
 (.seq (R [V s4 (.c .sl0)])
 (.seq (R [V s5 (.c .sl0)])
 (.seq (.seq (R [V s8 a0, .o s9 (.lenV a8), V s10 (ci 0)])
 (.block 0 (.loop (.seq (R [.o s11 (.ilt a10 a9)])
 (.seq (.cond a11 .skip (.exit 0))
 (.seq (.block 1 (.seq (R [.o s12 (.iaddr 1 a8 a10), .o s13 (.ld1 a12), V s7 a13])
 (R [V s14 a5, V s15 a7, V s16 a1, .o s17 (.slV 2 a15 none (some a16) none), .o s18 (.bslice 301 1 1 [.sl0] [(0, 1, a17)]), .o s19 (.append 1 301 a14 a18), V s5 a19])))
 (R [.o s20 (.iadd a10 (ci 1)), V s10 a20])))))))
 (.seq (R [V s21 a5, V s4 a21])
 .ret)))),
 [.tmp s4]⟩
def L563 : LFun := ⟨[s0, s1],
 (.seq (R [.o s4 (.alloc [.sl0, .sl0, (.b false), .sl0, (.i .i64 0)] 563)])
 (.seq (R [V s9 a0, .o s10 (.call 381 [(ci 1)]), .o s11 (.build [.sl0, .sl0, (.b false), .sl0, (.i .i64 0)] [(0, 1, a9), (2, 2, a10), (4, 1, (ci 1))]), .o s5 (.alloc [.sl0, .sl0, (.b false), .sl0, (.i .i64 0)] 563), .n (.st 5 a5 a11)])
 (.seq .skip
 (.seq (.seq (R [V s12 a1, V s13 (ci 0)])
 (.block 0 (.loop (.seq (R [.o s14 (.ilt a13 a12)])
 (.seq (.cond a14 .skip (.exit 0))
 (.seq (.block 1 (.seq (R [V s15 a13, V s6 a15])
 (.seq (R [.o s16 (.faddr 1 a5), .o s17 (.ld1 a16), .o s18 (.lenV a17), V s7 a18])
 (.seq (R [V s19 a7, V s8 a19])
 (.block 2 (.loop (.seq (.seq (R [V s20 a8, V s21 a0, .o s22 (.lenV a21), .o s23 (.ilt a20 a22)])
 (.cond a23 .skip (.exit 2)))
 (.seq (.block 3 (.seq (R [V s26 a0, V s27 a8, .o s28 (.iaddr 1 a26 a27), .o s29 (.ld1 a28), V s30 a6, .o s31 (.iaddr 2 a29 a30), .o s32 (.ldn 2 a31), .o s33 (.call 440 [a32]), .o s34 (.eq true 0 a33 (ci 0))])
 (.cond a34 (.seq (R [V s35 a6, V s36 a7, V s37 a8, .o s38 (.call 613 [a5, a35, a36, a37])])
 (.exit 1)) .skip)))
 .bad))))))))
 (R [.o s39 (.iadd a13 (ci 1)), V s13 a39])))))))
 (.seq (R [.o s40 (.ldn 5 a5), .n (.st 5 a4 a40)])
 .ret))))),
 [.cn s4 5]⟩
def L566 : LFun := ⟨[s0, s1],
 (.seq (R [.o s2 (.box 163 a0), V s4 (ci 0)])
 (.seq (.draw 2 [.r 0 0 (.o s11 (.ldn 2 a2)), .q 1 0 (V s12 a1), .a 8 0 0 (.o s5 (.alloc [(.b false), .sl0] 163)), .a 9 0 1 (.o s6 (.alloc [(.b false), .sl0] 163)), .s 2 2 (.o s13 (.call 381 [a12])), .s 3 7 (.o s14 (.call 581 [a11, a13])), .q 4 15 (V s10 a14), .q 5 31 (.o s15 (.extract 0 a10)), .q 6 31 (.o s16 (.extract 1 a10)), .q 7 31 (.o s17 (.extract 2 a10)), .s 10 831 (.n (.st 2 a5 a15)), .s 11 1919 (.n (.st 2 a6 a16)), .q 12 4095 (V s7 a17)])
 (.seq (R [.o s19 (.ldn 2 a6), .o s20 (.call 498 [a19]), V s18 a20, .o s21 (.extract 0 a18), .o s22 (.extract 1 a18), V s8 a21, V s9 a22])
 (.seq (R [V s23 a8, V s4 a23])
 .ret)))),
 [.tmp s4]⟩
def L567 : LFun := ⟨[s0, s1],
 (.seq (R [V s4 (ci 0)])
 (.seq (R [V s6 a0, .o s7 (.call 615 [a6]), .o s5 (.alloc [(.i .i64 0)] 3), .n (.st 1 a5 a7)])
 (.seq (.block 0 (.seq (R [V s9 a1, .o s10 (.call 450 [a9]), .o s11 (.not a10), V s8 a11])
 (.cond a8 .bad (.seq (R [V s13 a0, .o s14 (.mkf 617 [] [a5]), .o s15 (.call 616 [a13, a14]), V s12 a15])
 (.cond a12 .bad (.seq (R [V s17 a0, .o s18 (.lenV a17), .o s19 (.igt a18 (ci 200)), V s20 a19, .g s20 false s21 (.ld1 a5), .g s20 false s22 (.igt a21 (ci 200)), .o s23 (.pick a20 (.c (.b true)) a22), V s16 a23])
 (.cond a16 .bad .skip)))))))
 (.seq (R [V s4 (ci 0)])
 .ret)))),
 [.tmp s4]⟩
def L568 : LFun := ⟨[s0, s1],
 (.seq (R [V s4 (.c .sl0), V s5 (ci 0)])
 (.seq (R [V s5 (ci 1)])
 (.seq (.seq (R [V s13 a0, .o s14 (.call 615 [a13]), V s15 (ci 0)])
 (.block 0 (.loop (.seq (R [.o s16 (.ilt a15 a14)])
 (.seq (.cond a16 .skip (.exit 0))
 (.seq (.block 1 (.seq (R [V s17 a15, .o s6 (.alloc [(.i .i64 0)] 3), .n (.st 1 a6 a17)])
 (.seq (R [V s18 a4, .o s19 (.lenV a18), V s7 a19])
 (.seq (.seq (R [V s20 a7, V s21 a0, .o s22 (.lenV a21), .o s23 (.eq false 0 a20 a22)])
 (.cond a23 (.exit 0) .skip))
 (.seq (R [V s24 a7, V s25 a0, V s26 a7, .o s27 (.slV 1 a25 (some a26) none none), .o s28 (.mkf 619 [] [a6]), .o s29 (.call 618 [a27, a28]), .o s30 (.iadd a24 a29), V s8 a30])
 (.seq (.seq (R [V s31 a8, V s32 a7, .o s33 (.ilt a31 a32)])
 (.cond a33 (.exit 1) .skip))
 (.seq (.seq (R [V s34 a8, V s35 a7, .o s36 (.igt a34 a35)])
 (.cond a36 .bad .skip))
 (.seq (.draw 0 [.q 0 0 (V s55 a5), .q 1 0 (V s56 a0), .q 2 0 (V s57 a7), .q 3 6 (.o s58 (.iaddr 1 a56 a57)), .r 4 14 (.o s59 (.ld1 a58)), .r 5 0 (.o s60 (.ld1 a6)), .q 6 62 (.o s61 (.iaddr 1 a59 a60)), .r 7 126 (.o s62 (.ld1 a61)), .q 8 255 (.o s63 (.imul a55 a62)), .q 9 0 (V s64 a1), .q 10 1023 (.o s65 (.irem a63 a64)), .q 11 2047 (V s5 a65)])
 (.seq (.draw 0 [.q 0 0 (V s66 a0), .q 1 0 (V s67 a7), .q 2 3 (.o s68 (.iaddr 1 a66 a67)), .r 3 7 (.o s69 (.ld1 a68)), .r 4 0 (.o s70 (.ld1 a6)), .q 5 31 (.o s71 (.iaddr 1 a69 a70)), .r 6 63 (.o s72 (.ld1 a71)), .q 7 0 (V s73 a1), .s 8 255 (.o s74 (.call 621 [a72, a73])), .q 9 511 (V s9 a74)])
 (.seq (.seq (R [V s75 a0, V s76 a7, .o s77 (.iaddr 1 a75 a76), .o s78 (.ld1 a77), .o s79 (.lenV a78), V s80 (ci 0)])
 (.block 2 (.loop (.seq (R [.o s81 (.ilt a80 a79)])
 (.seq (.cond a81 .skip (.exit 2))
 (.seq (.block 3 (.seq (R [V s82 a80, V s10 a82])
 (.draw 0 [.q 0 0 (V s83 a0), .q 1 0 (V s84 a7), .q 2 3 (.o s85 (.iaddr 1 a83 a84)), .r 3 7 (.o s86 (.ld1 a85)), .q 4 0 (V s87 a10), .q 5 0 (V s88 a0), .q 6 0 (V s89 a7), .q 7 96 (.o s90 (.iaddr 1 a88 a89)), .r 8 224 (.o s91 (.ld1 a90)), .q 9 0 (V s92 a10), .q 10 992 (.o s93 (.iaddr 1 a91 a92)), .r 11 2016 (.o s94 (.ld1 a93)), .q 12 0 (V s95 a9), .q 13 8160 (.o s96 (.imul a94 a95)), .q 14 0 (V s97 a1), .q 15 32736 (.o s98 (.irem a96 a97)), .q 16 65535 (.o s99 (.iaddr 1 a86 a87)), .s 17 131071 (.n (.st 1 a99 a98))])))
 (R [.o s100 (.iadd a80 (ci 1)), V s80 a100])))))))
 (.seq (.seq (R [V s101 a0, .o s102 (.lenV a101), V s103 (ci 0)])
 (.block 4 (.loop (.seq (R [.o s104 (.ilt a103 a102)])
 (.seq (.cond a104 .skip (.exit 4))
 (.seq (.block 5 (.seq (R [V s105 a103, .o s106 (.iaddr 1 a101 a103), .o s107 (.ld1 a106), V s11 a105, V s12 a107])
 (.seq (R [V s108 a11, V s109 a7, .o s110 (.eq true 0 a108 a109), V s111 a110, .g s111 true s112 (.mv a12), .g s111 true s113 (.ld1 a6), .g s111 true s114 (.iaddr 1 a112 a113), .g s111 true s115 (.ld1 a114), .g s111 true s116 (.eq true 0 a115 (ci 0)), .o s117 (.pick a111 a116 (.c (.b false)))])
 (.cond a117 .bad .skip))))
 (R [.o s129 (.iadd a103 (ci 1)), V s103 a129])))))))
 (R [V s130 a4, .o s131 (.ld1 a6), .o s132 (.bslice 3 1 1 [(.i .i64 0)] [(0, 1, a131)]), .o s133 (.append 1 3 a130 a132), V s4 a133]))))))))))))
 (R [.o s134 (.iadd a15 (ci 1)), V s15 a134])))))))
 (.seq (R [V s135 a4, V s136 a5, V s4 a135, V s5 a136])
 .ret)))),
 [.tmp s4, .tmp s5]⟩
def L569 : LFun := ⟨[s0, s1],
 (.seq (R [V s4 (.c .sl0)])
 (.seq (R [V s5 (.c .sl0)])
 (.seq (.seq (R [V s11 a0, .o s12 (.lenV a11), V s13 (ci 0)])
 (.block 0 (.loop (.seq (R [.o s14 (.ilt a13 a12)])
 (.seq (.cond a14 .skip (.exit 0))
 (.seq (.block 1 (.seq (R [.o s15 (.iaddr 1 a11 a13), .o s16 (.ld1 a15), V s7 a16])
 (.seq (R [V s8 (.c .sl0)])
 (.seq (.seq (R [V s17 a7, .o s18 (.lenV a17), V s19 (ci 0)])
 (.block 2 (.loop (.seq (R [.o s20 (.ilt a19 a18)])
 (.seq (.cond a20 .skip (.exit 2))
 (.seq (.block 3 (.seq (R [.o s21 (.iaddr 1 a17 a19), .o s22 (.ld1 a21), V s10 a22])
 (R [V s23 a8, V s24 a10, V s25 a1, .o s26 (.call 620 [a24, a25]), .o s27 (.bslice 3 1 1 [(.i .i64 0)] [(0, 1, a26)]), .o s28 (.append 1 3 a23 a27), V s8 a28])))
 (R [.o s29 (.iadd a19 (ci 1)), V s19 a29])))))))
 (R [V s30 a5, V s31 a8, .o s32 (.bslice 39 1 1 [.sl0] [(0, 1, a31)]), .o s33 (.append 1 39 a30 a32), V s5 a33])))))
 (R [.o s34 (.iadd a13 (ci 1)), V s13 a34])))))))
 (.seq (R [V s35 a5, V s4 a35])
 .ret)))),
 [.tmp s4]⟩
def L571 : LFun := ⟨[s0, s1, s2],
 (.seq (R [V s6 (ci 0)])
 (.seq (R [V s8 a0, V s9 a2, .o s10 (.call 467 [a8, a9]), V s0 a10])
 (.seq (R [V s7 (ci 1)])
 (.seq (.block 0 (.loop (.seq (.seq (R [V s11 a1, .o s12 (.igt a11 (ci 0))])
 (.cond a12 .skip (.exit 0)))
 (.block 1 (.seq (.seq (R [V s13 a1, .o s14 (.irem a13 (ci 2)), .o s15 (.eq false 0 a14 (ci 1))])
 (.cond a15 (R [V s16 a7, V s17 a0, .o s18 (.imul a16 a17), V s19 a2, .o s20 (.irem a18 a19), V s7 a20]) .skip))
 (.seq (R [V s21 a0, V s22 a0, .o s23 (.imul a21 a22), V s24 a2, .o s25 (.irem a23 a24), V s0 a25])
 (R [V s26 a1, .o s27 (.iquo a26 (ci 2)), V s1 a27])))))))
 (.seq (R [V s28 a7, V s6 a28])
 .ret))))),
 [.tmp s6]⟩
def L576 : LFun := ⟨[s0, s1],
 (.seq (R [V s4 (.c (.b false))])
 (.seq (R [V s5 a0, .o s6 (.lenS a5), V s7 a1, .o s8 (.lenS a7), .o s9 (.ige a6 a8), V s10 a9, .g s10 true s11 (.mv a0), .g s10 true s12 (.mv a1), .g s10 true s13 (.lenS a12), .g s10 true s14 (.slS a11 none (some a13)), .g s10 true s15 (.mv a1), .g s10 true s16 (.eq false 0 a14 a15), .o s17 (.pick a10 a16 (.c (.b false))), V s4 a17])
 .ret)),
 [.tmp s4]⟩
def L577 : LFun := ⟨[s0, s1],
 (.seq (R [V s4 (ci 0)])
 (.seq (.seq (R [V s11 a1, .o s12 (.eq false 0 a11 (.c (.s 0 0)))])
 (.cond a12 .bad .skip))
 (.seq (.seq (R [V s13 a1, .o s14 (.lenS a13), .o s15 (.eq false 0 a14 (ci 1))])
 (.cond a15 .bad .skip))
 (.seq (.seq (R [V s24 a0, .o s25 (.lenS a24), .o s26 (.call 627 [a25])])
 (.cond a26 .bad .skip))
 (.seq (.seq (R [V s44 a0, .o s45 (.rangeS a44)])
 (.block 2 (.loop (.seq (R [.o s46 (.nextS a45), .o s47 (.extract 0 a46)])
 (.seq (.cond a47 .skip (.exit 2))
 (.block 3 (.seq (R [.o s48 (.extract 1 a46), .o s49 (.extract 2 a46), V s9 a48, V s10 a49])
 (.seq (R [V s50 a1, V s51 a10, .o s52 (.call 626 [a50, a51]), .o s53 (.ige a52 (ci 0))])
 (.cond a53 (.seq (R [V s54 a9, V s4 a54])
 .ret) .skip)))))))))
 .bad))))),
 [.tmp s4]⟩
def L578 : LFun := ⟨[s0, s1],
 (.seq (R [V s4 (.c (.b false))])
 (.seq (R [V s5 a0, V s6 a1, .o s7 (.nilc a5), .o s8 (.iaddrA 256 1 a7 a6), .o s9 (.ld1 a8), V s4 a9])
 .ret)),
 [.tmp s4]⟩
def L580 : LFun := ⟨[s0, s1],
 (.seq (R [V s4 (ci 0)])
 (.seq (R [V s5 a0, V s6 a1, .o s7 (.call 628 [a5, a6, (.c (.b true))]), V s4 a7])
 .ret)),
 [.tmp s4]⟩
def L581 : LFun := ⟨[s0, s1],
 (.seq (R [.o s2 (.box 163 a0), .o s3 (.box 163 a1), .o s4 (.alloc [(.b false), .sl0] 163), .o s5 (.alloc [(.b false), .sl0] 163), V s6 (ci 0)])
 (.seq (R [.o s10 (.faddr 1 a3), .o s11 (.ld1 a10), .o s12 (.call 491 [a11]), V s7 a12])
 (.seq (.seq (R [V s13 a7, .o s14 (.lenV a13), .o s15 (.eq false 0 a14 (ci 0))])
 (.cond a15 .bad .skip))
 (.seq (R [.o s19 (.faddr 1 a2), .o s20 (.ld1 a19), .o s21 (.call 491 [a20]), V s22 a7, .o s23 (.call 614 [a21, a22]), V s18 a23, .o s24 (.extract 0 a18), .o s25 (.extract 1 a18), V s8 a24, V s9 a25])
 (.seq (.seq (R [.o s26 (.faddr 0 a2), .o s27 (.ld1 a26), V s28 a27, .g s28 true s29 (.mv a9), .g s28 true s30 (.lenV a29), .g s28 true s31 (.igt a30 (ci 0)), .o s32 (.pick a28 a31 (.c (.b false)))])
 (.cond a32 .bad .skip))
 (.seq (R [.o s39 (.faddr 0 a2), .o s40 (.ld1 a39), .o s41 (.faddr 0 a3), .o s42 (.ld1 a41), .o s43 (.eq true 6 a40 a42), V s44 a8, .o s45 (.call 492 [a43, a44]), V s46 a9, .o s47 (.call 492 [(.c (.b false)), a46]), .n (.st 2 a4 a45), .n (.st 2 a5 a47), V s6 (ci 0)])
 .ret)))))),
 [.cn s4 2, .cn s5 2, .tmp s6]⟩
def L582 : LFun := ⟨[s0, s1, s2, s3],
 (.seq (R [V s10 a1, .o s11 (.iadd a10 (ci 1)), V s8 a11])
 (.block 0 (.loop (.seq (.seq (R [V s12 a8, V s13 a2, .o s14 (.ilt a12 a13)])
 (.cond a14 .skip (.exit 0)))
 .bad)))),
 []⟩
def L584 : LFun := ⟨[s0, s1],
 (.seq (R [.o s2 (.box 433 a0), .o s4 (.alloc [(.b false), .sl0] 163), V s5 (ci 0), V s6 (.c (.b false))])
 (.seq (R [.o s9 (.faddr 1 a2), .o s10 (.ldn 2 a9), .o s11 (.call 504 [a10]), V s7 a11])
 (.seq (.seq (R [V s12 a1, V s13 a7, .o s14 (.igt a12 a13)])
 (.cond a14 .bad .skip))
 (.seq (R [.o s16 (.faddr 1 a2), .o s17 (.ldn 2 a16), V s18 a1, .o s19 (.call 505 [a17, a18]), .n (.st 2 a4 a19)])
 (.seq (.draw 1 [.q 0 0 (.o s20 (.faddr 1 a2)), .r 1 1 (.o s21 (.ldn 2 a20)), .r 2 0 (.o s22 (.ldn 2 a4)), .q 3 0 (V s23 a1), .a 6 0 0 (.o s8 (.alloc [(.b false), .sl0] 163)), .s 4 12 (.o s24 (.call 391 [a22, a23])), .s 5 31 (.o s25 (.call 630 [a21, a24])), .s 7 127 (.n (.st 2 a8 a25))])
 (.seq (.draw 0 [.r 0 0 (.o s26 (.ldn 2 a8)), .q 2 0 (V s28 a1), .q 3 4 (.o s29 (.isub a28 (ci 1))), .s 1 0 (.o s27 (.call 381 [(ci 1)])), .s 4 14 (.o s30 (.call 391 [a27, a29])), .s 5 31 (.o s31 (.call 437 [a26, a30])), .q 6 63 (V s5 a31)])
 (.seq (.seq (R [V s32 a5, .o s33 (.eq false 0 a32 (ci 0)), V s34 a33, .g s34 true s35 (.faddr 4 a2), .g s34 true s36 (.ld1 a35), .o s37 (.pick a34 a36 (.c (.b false)))])
 (.cond a37 .bad .skip))
 (.seq (.draw 0 [.r 0 0 (.o s38 (.ldn 2 a4)), .q 1 0 (V s39 a5), .r 2 0 (.o s40 (.ldn 2 a8)), .s 3 4 (.o s41 (.call 440 [a40])), .q 4 12 (.o s42 (.eq false 0 a41 (ci 0))), .q 5 28 (V s43 a42), .q 6 60 (.g s43 true s44 (.faddr 4 a2)), .r 7 124 (.g s43 true s45 (.ld1 a44)), .q 8 252 (.g s43 true s46 (.not a45)), .q 9 508 (.o s47 (.pick a43 a46 (.c (.b false)))), .s 10 61 (.n (.st 2 a4 a38)), .q 11 1087 (V s5 a39), .q 12 4095 (V s6 a47)])
 .ret)))))))),
 [.cn s4 2, .tmp s5, .tmp s6]⟩
def L585 : LFun := ⟨[s0],
 (.seq (R [V s2 (ci 0)])
 (.seq (.seq (R [V s3 a0, .o s4 (.lenV a3), .o s5 (.eq false 0 a4 (ci 0))])
 (.cond a5 .bad .skip))
 (.seq (R [V s6 a0, .o s7 (.lenV a6), .o s8 (.isub a7 (ci 1)), .o s9 (.imul a8 (ci 32)), V s10 a0, V s11 a0, .o s12 (.lenV a11), .o s13 (.isub a12 (ci 1)), .o s14 (.iaddr 1 a10 a13), .o s15 (.ld1 a14), .o s16 (.call 459 [a15]), .o s17 (.iadd a9 a16), V s2 a17])
 .ret))),
 [.tmp s2]⟩
def L586 : LFun := ⟨[s0, s1],
 (.seq (R [V s4 (ci 0)])
 (.seq (R [V s7 a0, .o s8 (.call 631 [a7]), V s5 a8])
 (.seq (R [V s9 a1, .o s10 (.call 631 [a9]), V s6 a10])
 (.seq (.seq (R [V s11 a5])
 (.cond a11 .bad .skip))
 (.seq (.seq (R [V s13 a6])
 (.cond a13 .bad .skip))
 (.seq (.seq (R [V s14 a0, V s15 a1, .o s16 (.ilt a14 a15)])
 (.cond a16 (.seq (R [V s4 (ci 18446744073709551615)])
 .ret) .skip))
 (.seq (.seq (R [V s17 a0, V s18 a1, .o s19 (.igt a17 a18)])
 (.cond a19 (.seq (R [V s4 (ci 1)])
 .ret) .skip))
 .bad))))))),
 [.tmp s4]⟩
def L587 : LFun := ⟨[s0, s1],
 (.seq (R [V s4 (.c (.b false))])
 (.seq (R [V s5 a0, V s6 a1, .o s7 (.call 632 [a5, a6]), .o s8 (.ige a7 (ci 0)), V s4 a8])
 .ret)),
 [.tmp s4]⟩
def L588 : LFun := ⟨[s0, s1],
 (.seq (R [V s3 (.c (.b false))])
 (.seq (R [.o s4 (.ldn 1 a1), V s5 a0, .o s6 (.call 589 [a4, a5]), .o s7 (.not a6), V s3 a7])
 .ret)),
 [.tmp s3]⟩
def L589 : LFun := ⟨[s0, s1],
 (.seq (R [.o s2 (.box 123 a0), V s4 (.c (.b false))])
 (.seq (R [V s5 a1, .o s6 (.ige a5 (ci 0)), V s7 a6, .g s7 true s8 (.mv a1), .g s7 true s9 (.faddr 0 a2), .g s7 true s10 (.ld1 a9), .g s7 true s11 (.lenV a10), .g s7 true s12 (.ilt a8 a11), .o s13 (.pick a7 a12 (.c (.b false))), V s4 a13])
 .ret)),
 [.tmp s4]⟩
def L590 : LFun := ⟨[s0],
 (.seq (R [V s2 (.c (.b false))])
 (.seq (R [V s3 a0, .o s4 (.call 635 [a3]), .o s5 (.call 634 [a4]), .o s6 (.call 633 [a5]), .o s7 (.lenV a6), V s8 a0, .o s9 (.lenV a8), .o s10 (.ilt a7 a9), V s2 a10])
 .ret)),
 [.tmp s2]⟩
def L591 : LFun := ⟨[s0, s1, s2],
 (.seq (R [.o s3 (.box 123 a0), V s6 (.c (.b false))])
 (.seq (R [.o s10 (.faddr 0 a3), .o s11 (.ld1 a10), V s12 a1, .o s13 (.iaddr 1 a11 a12), .o s14 (.ld1 a13), V s15 a2, .o s16 (.call 636 [a14, a15]), V s9 a16, .o s17 (.extract 0 a9), .o s18 (.extract 1 a9), V s7 a17, V s8 a18])
 (.seq (R [V s19 a8, V s6 a19])
 .ret))),
 [.tmp s6]⟩
def L592 : LFun := ⟨[s0],
 (.seq (R [V s2 (.c .p0)])
 (.seq (.draw 3 [.q 0 0 (V s5 a0), .a 1 1 0 (.o s6 (.mks 3 1 [(.i .i64 0)] a5 a5)), .q 2 0 (V s7 a0), .a 3 4 1 (.o s8 (.mks 3 1 [(.i .i64 0)] a7 a7)), .q 4 15 (.o s9 (.build [.sl0, .sl0] [(0, 1, a6), (1, 1, a8)])), .a 5 31 2 (.o s10 (.box 590 a9)), .q 6 63 (V s3 a10)])
 (.seq (.seq (R [V s11 a0, V s12 (ci 0)])
 (.block 0 (.loop (.seq (R [.o s13 (.ilt a12 a11)])
 (.seq (.cond a13 .skip (.exit 0))
 (.seq (.block 1 (.seq (R [V s14 a12, V s4 a14])
 (.draw 0 [.q 0 0 (V s15 a3), .q 1 1 (.o s16 (.nilc a15)), .q 2 3 (.o s17 (.faddr 0 a16)), .r 3 7 (.o s18 (.ld1 a17)), .q 4 0 (V s19 a4), .q 5 0 (V s20 a3), .q 6 32 (.o s21 (.nilc a20)), .q 7 96 (.o s22 (.faddr 1 a21)), .r 8 224 (.o s23 (.ld1 a22)), .q 9 0 (V s24 a4), .q 10 511 (.o s25 (.iaddr 1 a18 a19)), .s 11 1535 (.n (.st 1 a25 (ci 18446744073709551615))), .q 12 4095 (.o s26 (.iaddr 1 a23 a24)), .s 13 8191 (.n (.st 1 a26 (ci 18446744073709551615)))])))
 (R [.o s27 (.iadd a12 (ci 1)), V s12 a27])))))))
 (.seq (R [V s28 a3, V s2 a28])
 .ret)))),
 [.tmp s2]⟩
def L594 : LFun := ⟨[s0],
 (.seq (R [.o s1 (.box 163 a0), .o s2 (.alloc [(.b false), .sl0] 163), V s3 (ci 0)])
 (.seq (.seq (R [.o s4 (.ldn 2 a1), .o s5 (.call 440 [a4]), .o s6 (.ilt a5 (ci 0))])
 (.cond a6 .bad .skip))
 (.seq (R [.o s8 (.faddr 1 a1), .o s9 (.ld1 a8), .o s10 (.call 491 [a9]), .o s11 (.call 637 [a10]), .o s12 (.call 492 [(.c (.b false)), a11]), .n (.st 2 a2 a12), V s3 (ci 0)])
 .ret))),
 [.cn s2 2, .tmp s3]⟩
def L595 : LFun := ⟨[s0, s1],
 (.seq (R [V s4 (.c (.b false))])
 (.seq (R [V s5 (ci 18446744073709551615)])
 (.seq (.seq (R [V s8 a0, .o s9 (.lenV a8), V s10 (ci 0)])
 (.block 0 (.loop (.seq (R [.o s11 (.ilt a10 a9)])
 (.seq (.cond a11 .skip (.exit 0))
 .bad)))))
 (.seq (R [V s4 (.c (.b true))])
 .ret)))),
 [.tmp s4]⟩
def L597 : LFun := ⟨[s0, s1],
 (.seq (R [V s4 (.c .sl0), V s5 (.c (.i .u32 0))])
 (.seq (R [V s10 a0, .o s11 (.lenV a10), .o s12 (.mks 227 1 [(.i .u32 0)] a11 a11), V s6 a12])
 (.seq (R [V s7 (.c (.i .u64 0))])
 (.seq (.seq (R [V s13 a0, .o s14 (.lenV a13), .o s15 (.isub a14 (ci 1)), V s8 a15])
 (.block 0 (.loop (.seq (.seq (R [V s16 a8, .o s17 (.ige a16 (ci 0))])
 (.cond a17 .skip (.exit 0)))
 (.seq (.block 1 (.seq (R [V s20 a7, .o s21 (.ishl a20 (.c (.i .u64 32))), V s22 a0, V s23 a8, .o s24 (.iaddr 1 a22 a23), .o s25 (.ld1 a24), .o s26 (.convI .u64 a25), .o s27 (.ior a21 a26), V s9 a27])
 (.seq (R [V s28 a6, V s29 a8, V s30 a9, V s31 a1, .o s32 (.convI .u64 a31), .o s33 (.iquo a30 a32), .o s34 (.convI .u32 a33), .o s35 (.iaddr 1 a28 a29), .n (.st 1 a35 a34)])
 (R [V s36 a9, V s37 a1, .o s38 (.convI .u64 a37), .o s39 (.irem a36 a38), V s7 a39]))))
 (R [V s18 a8, .o s19 (.isub a18 (ci 1)), V s8 a19]))))))
 (.seq (R [V s40 a6, .o s41 (.call 491 [a40]), V s42 a7, .o s43 (.convI .u32 a42), V s4 a41, V s5 a43])
 .ret))))),
 [.tmp s4, .tmp s5]⟩
def L599 : LFun := ⟨[s0],
 (.seq (R [V s4 a0, .o s5 (.lenV a4), .o s6 (.isub a5 (ci 1)), V s2 (ci 0), V s3 a6])
 (.block 0 (.loop (.seq (.seq (R [V s7 a2, V s8 a3, .o s9 (.ilt a7 a8)])
 (.cond a9 .skip (.exit 0)))
 .bad)))),
 []⟩
def L600 : LFun := ⟨[s0, s1],
 (.seq (R [V s4 (.c (.b false))])
 (.seq (R [V s5 a0, .o s6 (.call 496 [a5]), V s7 a6, .g s7 true s8 (.mv a1), .g s7 true s9 (.call 496 [a8]), .g s7 true s10 (.not a9), .o s11 (.pick a7 a10 (.c (.b false))), V s12 a11, .g s12 false s13 (.mv a0), .g s12 false s14 (.mv a1), .g s12 false s15 (.ilt a13 a14), .o s16 (.pick a12 (.c (.b true)) a15), V s4 a16])
 .ret)),
 [.tmp s4]⟩
def L603 : LFun := ⟨[s0],
 (.seq (R [V s2 (ci 0)])
 (.seq (.cond (.c (.b false)) .bad .skip)
 (.seq (R [V s6 a0, .o s7 (.call 308 [a6]), V s2 a7])
 .ret))),
 [.tmp s2]⟩
def L609 : LFun := ⟨[s0, s1],
 (.seq (R [V s4 (.c (.b false))])
 (.seq (R [V s5 a0, V s6 a1, .o s7 (.call 651 [a5, a6]), .o s8 (.ige a7 (ci 0)), V s4 a8])
 .ret)),
 [.tmp s4]⟩
def L610 : LFun := ⟨[s0, s1],
 (.seq (R [V s3 (.c (.b false))])
 (.seq (R [V s4 a0, .o s5 (.lenV a4), .o s6 (.ld1 a1), .o s7 (.eq true 0 a5 a6), V s3 a7])
 .ret)),
 [.tmp s3]⟩
def L611 : LFun := ⟨[s0, s1],
 (.seq (R [V s4 (.c (.b false))])
 (.seq (R [V s5 a0, V s6 a1, .o s7 (.call 652 [a5, a6]), .o s8 (.ige a7 (ci 0)), V s4 a8])
 .ret)),
 [.tmp s4]⟩
def L612 : LFun := ⟨[s0],
 (.seq (R [V s2 (.c (.b false))])
 (.seq (R [V s3 a0, .o s4 (.eq true 0 a3 (.c (.i .u32 0))), V s2 a4])
 .ret)),
 [.tmp s2]⟩
def L613 : LFun := ⟨[s0, s1, s2, s3],
 (.seq (.seq (R [V s11 a3, V s12 a2, .o s13 (.igt a11 a12)])
 (.cond a13 .bad .skip))
 (.seq (R [V s48 a0, .o s49 (.nilc a48), .o s50 (.faddr 0 a49), .o s51 (.ld1 a50), V s52 a2, .o s53 (.iaddr 1 a51 a52), .o s54 (.ld1 a53), V s55 a1, .o s56 (.iaddr 2 a54 a55), .o s57 (.ldn 2 a56), .o s8 (.alloc [(.b false), .sl0] 163), .n (.st 2 a8 a57)])
 (.seq (.seq (R [V s58 a0, .o s59 (.nilc a58), .o s60 (.faddr 0 a59), .o s61 (.ld1 a60), .o s62 (.lenV a61), V s63 (ci 0)])
 (.block 0 (.loop (.seq (R [.o s64 (.ilt a63 a62)])
 (.seq (.cond a64 .skip (.exit 0))
 (.seq (.block 1 (.seq (R [V s65 a63, .o s66 (.iaddr 1 a61 a63), .o s67 (.ld1 a66), V s9 a65, V s10 a67])
 (.seq (R [V s68 a9, V s69 a2, .o s70 (.eq true 0 a68 a69)])
 (.cond a70 .bad .skip))))
 (R [.o s89 (.iadd a63 (ci 1)), V s63 a89])))))))
 (.draw 1 [.q 0 0 (V s90 a0), .q 1 0 (V s91 a0), .q 2 0 (V s92 a0), .q 3 4 (.o s93 (.nilc a92)), .q 4 12 (.o s94 (.faddr 1 a93)), .r 5 28 (.o s95 (.ld1 a94)), .q 6 0 (V s96 a1), .a 7 64 0 (.o s97 (.bslice 3 1 1 [(.i .i64 0)] [(0, 1, a96)])), .r 9 0 (.o s99 (.ldn 2 a8)), .s 8 252 (.o s98 (.append 1 3 a95 a97)), .q 10 509 (.o s100 (.nilc a90)), .q 11 1533 (.o s101 (.faddr 1 a100)), .s 12 3581 (.n (.st 1 a101 a98)), .q 13 8191 (.o s102 (.nilc a91)), .q 14 16383 (.o s103 (.faddr 2 a102)), .s 15 32767 (.n (.st 2 a103 a99))])))),
 []⟩
def L614 : LFun := ⟨[s0, s1],
 (.seq (R [V s4 (.c .sl0), V s5 (.c .sl0)])
 (.seq (.seq (R [V s13 a0, V s14 a1, .o s15 (.call 506 [a13, a14]), .o s16 (.ilt a15 (ci 0))])
 (.cond a16 (.seq (R [V s17 a0, .o s18 (.call 493 [a17]), V s4 (.c .sl0), V s5 a18])
 .ret) .skip))
 (.seq (.seq (R [V s19 a1, .o s20 (.lenV a19), .o s21 (.eq false 0 a20 (ci 1))])
 (.cond a21 (.seq (R [V s23 a0, V s24 a1, .o s25 (.iaddr 1 a24 (ci 0)), .o s26 (.ld1 a25), .o s27 (.call 597 [a23, a26]), V s22 a27, .o s28 (.extract 0 a22), .o s29 (.extract 1 a22), V s6 a28, V s7 a29])
 (.seq (R [V s30 a6, V s31 a7, .o s32 (.bslice 227 1 1 [(.i .u32 0)] [(0, 1, a31)]), .o s33 (.call 491 [a32]), V s4 a30, V s5 a33])
 .ret)) .skip))
 (.seq (R [V s34 a1, V s35 a1, .o s36 (.lenV a35), .o s37 (.isub a36 (ci 1)), .o s38 (.iaddr 1 a34 a37), .o s39 (.ld1 a38), .o s40 (.call 465 [a39]), V s8 a40])
 (.seq (R [V s41 a1, V s42 a8, .o s43 (.call 559 [a41, a42]), V s9 a43])
 (.seq (R [V s44 a0, .o s45 (.lenV a44), .o s46 (.iadd a45 (ci 1)), .o s47 (.mks 227 1 [(.i .u32 0)] a46 a46), V s10 a47])
 (.seq (R [V s48 a10, V s49 a0, V s50 a8, .o s51 (.call 559 [a49, a50]), .o s52 (.copy 1 a48 a51)])
 (.seq (R [V s53 a9, .o s54 (.lenV a53), V s11 a54])
 (.seq (R [V s55 a10, .o s56 (.lenV a55), V s57 a11, .o s58 (.isub a56 a57), .o s59 (.mks 227 1 [(.i .u32 0)] a58 a58), V s4 a59])
 (.seq (.seq (R [V s60 a4, .o s61 (.lenV a60), .o s62 (.isub a61 (ci 1)), V s12 a62])
 (.block 0 (.loop (.seq (.seq (R [V s63 a12, .o s64 (.ige a63 (ci 0))])
 (.cond a64 .skip (.exit 0)))
 (.seq (.block 1 (R [V s67 a4, V s68 a12, V s69 a10, V s70 a12, V s71 a12, V s72 a11, .o s73 (.iadd a71 a72), .o s74 (.iadd a73 (ci 1)), .o s75 (.slV 1 a69 (some a70) (some a74) none), V s76 a9, .o s77 (.call 654 [a75, a76]), .o s78 (.iaddr 1 a67 a68), .n (.st 1 a78 a77)]))
 (R [V s65 a12, .o s66 (.isub a65 (ci 1)), V s12 a66]))))))
 (.seq (R [V s80 a10, V s81 a11, .o s82 (.slV 1 a80 none (some a81) none), .o s83 (.call 491 [a82]), V s84 a8, .o s85 (.call 560 [a83, a84]), V s79 a85, .o s86 (.extract 0 a79), .o s87 (.extract 1 a79), V s5 a86])
 (.seq (R [V s88 a4, .o s89 (.call 491 [a88]), V s90 a5, V s4 a89, V s5 a90])
 .ret)))))))))))),
 [.tmp s4, .tmp s5]⟩
def L615 : LFun := ⟨[s0],
 (.seq (R [V s2 (ci 0)])
 (.seq (.seq (R [V s3 a0, .o s4 (.lenV a3), .o s5 (.eq false 0 a4 (ci 0))])
 (.cond a5 .bad .skip))
 (.seq (R [V s6 a0, .o s7 (.iaddr 1 a6 (ci 0)), .o s8 (.ld1 a7), .o s9 (.lenV a8), V s2 a9])
 .ret))),
 [.tmp s2]⟩
def L616 : LFun := ⟨[s0, s1],
 (.seq (R [V s4 (.c (.b false))])
 (.seq (R [V s5 a0, V s6 a1, .o s7 (.call 618 [a5, a6]), .o s8 (.ige a7 (ci 0)), V s4 a8])
 .ret)),
 [.tmp s4]⟩
def L617 : LFun := ⟨[s0, s1],
 (.seq (R [V s3 (.c (.b false))])
 (.seq (R [V s4 a0, .o s5 (.lenV a4), .o s6 (.ld1 a1), .o s7 (.eq true 0 a5 a6), V s3 a7])
 .ret)),
 [.tmp s3]⟩
def L618 : LFun := ⟨[s0, s1],
 (.seq (R [V s4 (ci 0)])
 (.seq (.seq (R [V s6 a0, .o s7 (.lenV a6), V s8 (ci 0)])
 (.block 0 (.loop (.seq (R [.o s9 (.ilt a8 a7)])
 (.seq (.cond a9 .skip (.exit 0))
 (.seq (.block 1 (.seq (R [V s10 a8, V s5 a10])
 (.seq (R [V s11 a1, V s12 a0, V s13 a5, .o s14 (.iaddr 1 a12 a13), .o s15 (.ld1 a14), .o s16 (.callv a11 [a15])])
 (.cond a16 (.seq (R [V s17 a5, V s4 a17])
 .ret) .skip))))
 (R [.o s18 (.iadd a8 (ci 1)), V s8 a18])))))))
 (.seq (R [V s4 (ci 18446744073709551615)])
 .ret))),
 [.tmp s4]⟩
def L619 : LFun := ⟨[s0, s1],
 (.seq (R [V s3 (.c (.b false))])
 (.seq (R [V s4 a0, .o s5 (.ld1 a1), .o s6 (.iaddr 1 a4 a5), .o s7 (.ld1 a6), .o s8 (.eq true 0 a7 (ci 0)), V s3 a8])
 .ret)),
 [.tmp s3]⟩
def L620 : LFun := ⟨[s0, s1],
 (.seq (R [V s4 (ci 0)])
 (.seq (R [V s6 a0, V s7 a1, .o s8 (.irem a6 a7), V s5 a8])
 (.seq (.seq (R [V s9 a5, .o s10 (.ilt a9 (ci 0))])
 (.cond a10 .bad .skip))
 (.seq (R [V s14 a5, V s4 a14])
 .ret)))),
 [.tmp s4]⟩
def L621 : LFun := ⟨[s0, s1],
 (.seq (R [V s4 (ci 0)])
 (.seq (R [V s5 a0, V s6 a1, .o s7 (.isub a6 (ci 2)), V s8 a1, .o s9 (.call 655 [a5, a7, a8]), V s4 a9])
 .ret)),
 [.tmp s4]⟩
def L626 : LFun := ⟨[s0, s1],
 (.seq (R [V s4 (ci 0)])
 (.block 0 (.seq (R [V s161 a1, .o s162 (.ile (.c (.i .i32 0)) a161), V s163 a162, .g s163 true s164 (.mv a1), .g s163 true s165 (.ilt a164 (.c (.i .i32 128))), .o s166 (.pick a163 a165 (.c (.b false))), V s160 a166])
 (.cond a160 (.seq (R [V s167 a0, V s168 a1, .o s169 (.convI .u8 a168), .o s170 (.call 656 [a167, a169]), V s4 a170])
 .ret) .bad)))),
 [.tmp s4]⟩
def L627 : LFun := ⟨[s0],
 (.seq (R [V s2 (.c (.b false))])
 (.seq (R [V s3 a0, .o s4 (.igt a3 (ci 8)), V s2 a4])
 .ret)),
 [.tmp s2]⟩
def L628 : LFun := ⟨[s0, s1, s2],
 (.seq (R [V s6 (ci 0)])
 (.seq (.seq (R [V s9 a0, .o s10 (.rangeS a9)])
 (.block 0 (.loop (.seq (R [.o s11 (.nextS a10), .o s12 (.extract 0 a11)])
 (.seq (.cond a12 .skip (.exit 0))
 (.block 1 (.seq (R [.o s13 (.extract 1 a11), .o s14 (.extract 2 a11), V s7 a13, V s8 a14])
 (.seq (R [V s15 a1, V s16 a8, .o s17 (.callv a15 [a16]), V s18 a2, .o s19 (.eq false 6 a17 a18)])
 (.cond a19 .bad .skip)))))))))
 (.seq (R [V s6 (ci 18446744073709551615)])
 .ret))),
 [.tmp s6]⟩
def L630 : LFun := ⟨[s0, s1],
 (.seq (R [.o s2 (.box 163 a0), .o s3 (.box 163 a1), .o s4 (.alloc [(.b false), .sl0] 163)])
 (.seq (R [.o s5 (.faddr 0 a3), .o s6 (.ld1 a5), .o s7 (.not a6), .o s8 (.faddr 0 a3), .n (.st 1 a8 a7)])
 (.seq (R [.o s9 (.ldn 2 a2), .o s10 (.ldn 2 a3), .o s11 (.call 390 [a9, a10]), .n (.st 2 a4 a11)])
 .ret))),
 [.cn s4 2]⟩
def L631 : LFun := ⟨[s0],
 (.seq (R [V s2 (.c (.b false))])
 (.seq (R [V s3 a0, V s4 a0, .o s5 (.eq true 0 a3 a4), V s2 a5])
 .ret)),
 [.tmp s2]⟩
def L632 : LFun := ⟨[s0, s1],
 (.seq (R [V s4 (ci 0)])
 (.seq (.seq (R [V s6 a0, .o s7 (.lenV a6), V s8 (ci 0)])
 (.block 0 (.loop (.seq (R [.o s9 (.ilt a8 a7)])
 (.seq (.cond a9 .skip (.exit 0))
 (.seq (.block 1 (.seq (R [V s10 a8, V s5 a10])
 (.seq (R [V s11 a1, V s12 a0, V s13 a5, .o s14 (.iaddr 1 a12 a13), .o s15 (.ld1 a14), .o s16 (.callv a11 [a15])])
 (.cond a16 .bad .skip))))
 (R [.o s18 (.iadd a8 (ci 1)), V s8 a18])))))))
 (.seq (R [V s4 (ci 18446744073709551615)])
 .ret))),
 [.tmp s4]⟩
def L633 : LFun := ⟨[s0],
 (.seq (R [V s2 (.c .sl0)])
 (.seq (.seq (R [V s6 a0, .o s7 (.lenV a6), .o s8 (.ilt a7 (ci 2))])
 (.cond a8 (.seq (R [V s9 a0, V s2 a9])
 .ret) .skip))
 .bad)),
 [.tmp s2]⟩
def L634 : LFun := ⟨[s0],
 (.seq (R [V s2 (.c .sl0)])
 (.seq (R [V s4 a0, .o s5 (.call 659 [a4]), V s3 a5])
 (.seq (R [V s6 a3, .o s7 (.call 660 [a6])])
 (.seq (R [V s8 a3, V s2 a8])
 .ret)))),
 [.tmp s2]⟩
def L635 : LFun := ⟨[s0],
 (.seq (R [.o s1 (.box 39 a0), V s2 (.c .f0)])
 (.seq (R [.o s3 (.mkf 661 [] [a1]), V s2 a3])
 .ret)),
 [.tmp s2]⟩
def L636 : LFun := ⟨[s0, s1],
 (.seq (R [V s4 (ci 0), V s5 (.c (.b false))])
 (.seq (R [V s10 a0, .o s11 (.lenV a10), V s6 a11])
 (.seq (R [V s12 a6, V s7 (ci 0), V s8 a12])
 (.seq (.block 0 (.loop (.seq (.seq (R [V s13 a7, V s14 a8, .o s15 (.ilt a13 a14)])
 (.cond a15 .skip (.exit 0)))
 .bad)))
 (.seq (R [V s31 a7, V s32 a7, V s33 a6, .o s34 (.ilt a32 a33), V s35 a34, .g s35 true s36 (.mv a0), .g s35 true s37 (.mv a7), .g s35 true s38 (.iaddr 1 a36 a37), .g s35 true s39 (.ld1 a38), .g s35 true s40 (.mv a1), .g s35 true s41 (.eq false 0 a39 a40), .g s35 true s42 (.mv a41), .g s42 false s43 (.mv a0), .g s42 false s44 (.mv a7), .g s42 false s45 (.iaddr 1 a43 a44), .g s42 false s46 (.ld1 a45), .g s42 false s47 (.call 662 [a46]), .g s42 false s48 (.mv a47), .g s48 true s49 (.mv a1), .g s48 true s50 (.call 662 [a49]), .g s42 false s51 (.pick a48 a50 (.c (.b false))), .g s35 true s52 (.pick a42 (.c (.b true)) a51), .o s53 (.pick a35 a52 (.c (.b false))), V s4 a31, V s5 a53])
 .ret))))),
 [.tmp s4, .tmp s5]⟩
def L637 : LFun := ⟨[s0],
 (.seq (R [V s2 (.c .sl0)])
 (.seq (.seq (R [V s8 a0, .o s9 (.lenV a8), .o s10 (.eq false 0 a9 (ci 0))])
 (.cond a10 .bad .skip))
 (.seq (R [.o s11 (.bslice 227 1 1 [(.i .u32 0)] [(0, 1, (.c (.i .u32 1)))]), V s12 a0, .o s13 (.call 585 [a12]), .o s14 (.iadd a13 (ci 1)), .o s15 (.iquo a14 (ci 2)), .o s16 (.call 559 [a11, a15]), V s3 a16])
 (.block 0 (.loop (.block 1 (.seq (R [V s18 a0, V s19 a3, .o s20 (.call 614 [a18, a19]), V s17 a20, .o s21 (.extract 0 a17), .o s22 (.extract 1 a17), V s4 a21, V s5 a22])
 (.seq (R [V s24 a3, V s25 a4, .o s26 (.call 489 [a24, a25]), .o s27 (.call 560 [a26, (ci 1)]), V s23 a27, .o s28 (.extract 0 a23), .o s29 (.extract 1 a23), V s6 a28, V s7 a29])
 (.seq (.seq (R [V s30 a6, V s31 a3, .o s32 (.call 506 [a30, a31]), .o s33 (.ige a32 (ci 0))])
 (.cond a33 (.seq (R [V s34 a3, V s2 a34])
 .ret) .skip))
 (R [V s35 a6, V s3 a35])))))))))),
 [.tmp s2]⟩
def L651 : LFun := ⟨[s0, s1],
 (.seq (R [V s4 (ci 0)])
 (.seq (.seq (R [V s6 a0, .o s7 (.lenV a6), V s8 (ci 0)])
 (.block 0 (.loop (.seq (R [.o s9 (.ilt a8 a7)])
 (.seq (.cond a9 .skip (.exit 0))
 (.seq (.block 1 (.seq (R [V s10 a8, V s5 a10])
 (.seq (R [V s11 a1, V s12 a0, V s13 a5, .o s14 (.iaddr 1 a12 a13), .o s15 (.ld1 a14), .o s16 (.callv a11 [a15])])
 (.cond a16 .bad .skip))))
 (R [.o s18 (.iadd a8 (ci 1)), V s8 a18])))))))
 (.seq (R [V s4 (ci 18446744073709551615)])
 .ret))),
 [.tmp s4]⟩
def L652 : LFun := ⟨[s0, s1],
 (.seq (R [V s4 (ci 0)])
 (.seq (.seq (R [V s6 a0, .o s7 (.lenV a6), V s8 (ci 0)])
 (.block 0 (.loop (.seq (R [.o s9 (.ilt a8 a7)])
 (.seq (.cond a9 .skip (.exit 0))
 (.seq (.block 1 (.seq (R [V s10 a8, V s5 a10])
 (.seq (R [V s11 a1, V s12 a0, V s13 a5, .o s14 (.iaddr 1 a12 a13), .o s15 (.ld1 a14), .o s16 (.callv a11 [a15])])
 (.cond a16 .bad .skip))))
 (R [.o s18 (.iadd a8 (ci 1)), V s8 a18])))))))
 (.seq (R [V s4 (ci 18446744073709551615)])
 .ret))),
 [.tmp s4]⟩
def L654 : LFun := ⟨[s0, s1],
 (.seq (R [V s4 (.c (.i .u32 0))])
 (.seq (R [V s19 a1, .o s20 (.lenV a19), V s5 a20])
 (.seq (.draw 0 [.q 0 0 (V s21 a0), .q 1 0 (V s22 a5), .q 2 3 (.o s23 (.iaddr 1 a21 a22)), .r 3 7 (.o s24 (.ld1 a23)), .q 4 15 (.o s25 (.convI .u64 a24)), .q 5 31 (.o s26 (.ishl a25 (.c (.i .u64 32)))), .q 6 0 (V s27 a0), .q 7 0 (V s28 a5), .q 8 128 (.o s29 (.isub a28 (ci 1))), .q 9 448 (.o s30 (.iaddr 1 a27 a29)), .r 10 960 (.o s31 (.ld1 a30)), .q 11 1984 (.o s32 (.convI .u64 a31)), .q 12 4095 (.o s33 (.ior a26 a32)), .q 13 8191 (V s6 a33)])
 (.seq (.draw 0 [.q 0 0 (V s34 a6), .q 1 0 (V s35 a1), .q 2 0 (V s36 a5), .q 3 4 (.o s37 (.isub a36 (ci 1))), .q 4 14 (.o s38 (.iaddr 1 a35 a37)), .r 5 30 (.o s39 (.ld1 a38)), .q 6 62 (.o s40 (.convI .u64 a39)), .q 7 127 (.o s41 (.iquo a34 a40)), .q 8 0 (V s42 a6), .q 9 0 (V s43 a1), .q 10 0 (V s44 a5), .q 11 1024 (.o s45 (.isub a44 (ci 1))), .q 12 3584 (.o s46 (.iaddr 1 a43 a45)), .r 13 7680 (.o s47 (.ld1 a46)), .q 14 15872 (.o s48 (.convI .u64 a47)), .q 15 32512 (.o s49 (.irem a42 a48)), .q 16 255 (V s7 a41), .q 17 131071 (V s8 a49)])
 (.seq (.block 0 (.loop (.seq (.seq (.draw 0 [.q 0 0 (V s50 a7), .q 1 1 (.o s51 (.igt a50 (.c (.i .u64 4294967295)))), .q 2 3 (V s52 a51), .q 3 7 (.g s52 false s53 (.mv a7)), .q 4 7 (.g s52 false s54 (.mv a1)), .q 5 7 (.g s52 false s55 (.mv a5)), .q 6 39 (.g s52 false s56 (.isub a55 (ci 2))), .q 7 119 (.g s52 false s57 (.iaddr 1 a54 a56)), .r 8 247 (.g s52 false s58 (.ld1 a57)), .q 9 503 (.g s52 false s59 (.convI .u64 a58)), .q 10 1023 (.g s52 false s60 (.imul a53 a59)), .q 11 7 (.g s52 false s61 (.mv a8)), .q 12 2055 (.g s52 false s62 (.ishl a61 (.c (.i .u64 32)))), .q 13 7 (.g s52 false s63 (.mv a0)), .q 14 7 (.g s52 false s64 (.mv a5)), .q 15 16391 (.g s52 false s65 (.isub a64 (ci 2))), .q 16 57351 (.g s52 false s66 (.iaddr 1 a63 a65)), .r 17 122887 (.g s52 false s67 (.ld1 a66)), .q 18 253959 (.g s52 false s68 (.convI .u64 a67)), .q 19 522247 (.g s52 false s69 (.ior a62 a68)), .q 20 1048575 (.g s52 false s70 (.igt a60 a69)), .q 21 2097151 (.o s71 (.pick a52 (.c (.b true)) a70))])
 (.cond a71 .skip (.exit 0)))
 (.block 1 (.seq (R [V s72 a7, .o s73 (.isub a72 (.c (.i .u64 1))), V s7 a73])
 (.seq (R [V s74 a8, V s75 a1, V s76 a5, .o s77 (.isub a76 (ci 1)), .o s78 (.iaddr 1 a75 a77), .o s79 (.ld1 a78), .o s80 (.convI .u64 a79), .o s81 (.iadd a74 a80), V s8 a81])
 (.seq (R [V s82 a8, .o s83 (.igt a82 (.c (.i .u64 4294967295)))])
 (.cond a83 (.exit 0) .skip))))))))
 (.seq (R [V s9 (.c (.i .u64 0)), V s10 (.c (.i .u64 0))])
 (.seq (.seq (R [V s84 a1, .o s85 (.lenV a84), V s86 (ci 0)])
 (.block 2 (.loop (.seq (R [.o s87 (.ilt a86 a85)])
 (.seq (.cond a87 .skip (.exit 2))
 (.seq (.block 3 (.seq (R [V s88 a86, .o s89 (.iaddr 1 a84 a86), .o s90 (.ld1 a89), V s11 a88, V s12 a90])
 (.seq (R [V s91 a7, V s92 a12, .o s93 (.convI .u64 a92), .o s94 (.imul a91 a93), V s95 a9, .o s96 (.iadd a94 a95), V s13 a96])
 (.seq (R [V s97 a13, .o s98 (.ishr a97 (.c (.i .u64 32))), V s9 a98])
 (.seq (R [V s99 a0, V s100 a11, .o s101 (.iaddr 1 a99 a100), .o s102 (.ld1 a101), .o s103 (.convI .u64 a102), V s104 a13, .o s105 (.iand a104 (.c (.i .u64 4294967295))), .o s106 (.isub a103 a105), V s107 a10, .o s108 (.isub a106 a107), V s14 a108])
 (.seq (R [V s109 a0, V s110 a11, V s111 a14, .o s112 (.iand a111 (.c (.i .u64 4294967295))), .o s113 (.convI .u32 a112), .o s114 (.iaddr 1 a109 a110), .n (.st 1 a114 a113)])
 (R [V s115 a14, .o s116 (.ishr a115 (.c (.i .u64 32))), .o s117 (.iand a116 (.c (.i .u64 1))), V s10 a117])))))))
 (R [.o s118 (.iadd a86 (ci 1)), V s86 a118])))))))
 (.seq (R [V s119 a0, V s120 a5, .o s121 (.iaddr 1 a119 a120), .o s122 (.ld1 a121), .o s123 (.convI .u64 a122), V s124 a9, .o s125 (.isub a123 a124), V s126 a10, .o s127 (.isub a125 a126), V s15 a127])
 (.seq (R [V s128 a0, V s129 a5, V s130 a15, .o s131 (.iand a130 (.c (.i .u64 4294967295))), .o s132 (.convI .u32 a131), .o s133 (.iaddr 1 a128 a129), .n (.st 1 a133 a132)])
 (.seq (.seq (R [V s134 a15, .o s135 (.ishr a134 (.c (.i .u64 32))), .o s136 (.iand a135 (.c (.i .u64 1))), .o s137 (.eq false 0 a136 (.c (.i .u64 0)))])
 (.cond a137 (.seq (R [V s138 a7, .o s139 (.convI .u32 a138), V s4 a139])
 .ret) .skip))
 .bad)))))))))),
 [.tmp s4]⟩
def L655 : LFun := ⟨[s0, s1, s2],
 (.seq (R [V s6 (ci 0)])
 (.seq (R [V s7 (ci 1)])
 (.seq (.block 0 (.loop (.seq (.seq (R [V s8 a1, .o s9 (.igt a8 (ci 0))])
 (.cond a9 .skip (.exit 0)))
 (.seq (.block 1 (.seq (.seq (R [V s12 a1, .o s13 (.irem a12 (ci 2)), .o s14 (.eq false 0 a13 (ci 1))])
 (.cond a14 (R [V s15 a7, V s16 a0, .o s17 (.imul a15 a16), V s18 a2, .o s19 (.irem a17 a18), V s7 a19]) .skip))
 (R [V s20 a0, V s21 a0, .o s22 (.imul a20 a21), V s23 a2, .o s24 (.irem a22 a23), V s0 a24])))
 (R [V s10 a1, .o s11 (.iquo a10 (ci 2)), V s1 a11])))))
 (.seq (R [V s25 a7, V s6 a25])
 .ret)))),
 [.tmp s6]⟩
def L656 : LFun := ⟨[s0, s1],
 (.seq (R [V s4 (ci 0)])
 (.seq (R [V s5 a0, V s6 a1, .o s7 (.call 62 [a5, a6]), V s4 a7])
 .ret)),
 [.tmp s4]⟩
def L659 : LFun := ⟨[s0],
 (.seq (R [V s2 (.c .sl0)])
 (.seq (R [V s3 a0, .o s4 (.call 670 [(.c .sl0), a3]), V s2 a4])
 .ret)),
 [.tmp s2]⟩
def L660 : LFun := ⟨[s0],
 (.seq (R [V s3 a0, .o s4 (.lenV a3), V s2 a4])
 (R [V s5 a0, V s6 a2, V s7 a2, .o s8 (.convI .u64 a7), .o s9 (.call 603 [a8]), .o s10 (.call 671 [a5, (ci 0), a6, a9])])),
 []⟩
def L671 : LFun := ⟨[s0, s1, s2, s3],
 (.seq (R [V s8 (.c (.b true))])
 (.seq (R [V s9 (.c (.b true))])
 (.block 0 (.loop (.block 1 (.seq (R [V s19 a2, V s20 a1, .o s21 (.isub a19 a20), V s10 a21])
 (.seq (.seq (R [V s22 a10, .o s23 (.ile a22 (ci 12))])
 (.cond a23 (.seq (R [V s24 a0, V s25 a1, V s26 a2, .o s27 (.call 673 [a24, a25, a26])])
 .ret) .skip))
 .bad))))))),
 []⟩
def L673 : LFun := ⟨[s0, s1, s2],
 (.seq (R [V s8 a1, .o s9 (.iadd a8 (ci 1)), V s6 a9])
 (.block 0 (.loop (.seq (.seq (R [V s10 a6, V s11 a2, .o s12 (.ilt a10 a11)])
 (.cond a12 .skip (.exit 0)))
 .bad)))),
 []⟩
end AM
end
end Go.Proofs.YtejhenloolgmkaaGreatDoor
