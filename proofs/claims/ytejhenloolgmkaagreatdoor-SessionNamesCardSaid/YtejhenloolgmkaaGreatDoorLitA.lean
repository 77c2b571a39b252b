/- The program's functions, as the abstract machine runs them (only the code that these runs reach). -/
import Derived.Test.YtejhenloolgmkaaGreatDoorAm
namespace Go.Proofs.YtejhenloolgmkaaGreatDoor
open Go
set_option linter.all false
noncomputable section
namespace AM
def ci (n : Nat) : Arg := .c (.i .i64 n)
def V (d : Sel) (x : Arg) : It := .o d (.mv x)
def R (l : List It) : LCode := .region l
def a0 := Arg.t s0
def a1 := Arg.t s1
def a2 := Arg.t s2
def a3 := Arg.t s3
def a4 := Arg.t s4
def a5 := Arg.t s5
def a6 := Arg.t s6
def a7 := Arg.t s7
def a8 := Arg.t s8
def a9 := Arg.t s9
def a10 := Arg.t s10
def a11 := Arg.t s11
def a12 := Arg.t s12
def a13 := Arg.t s13
def a14 := Arg.t s14
def a15 := Arg.t s15
def a16 := Arg.t s16
def a17 := Arg.t s17
def a18 := Arg.t s18
def a19 := Arg.t s19
def a20 := Arg.t s20
def a21 := Arg.t s21
def a22 := Arg.t s22
def a23 := Arg.t s23
def a24 := Arg.t s24
def a25 := Arg.t s25
def a26 := Arg.t s26
def a27 := Arg.t s27
def a28 := Arg.t s28
def a29 := Arg.t s29
def a30 := Arg.t s30
def a31 := Arg.t s31
def a32 := Arg.t s32
def a33 := Arg.t s33
def a34 := Arg.t s34
def a35 := Arg.t s35
def a36 := Arg.t s36
def a37 := Arg.t s37
def a38 := Arg.t s38
def a39 := Arg.t s39
def a40 := Arg.t s40
def a41 := Arg.t s41
def a42 := Arg.t s42
def a43 := Arg.t s43
def a44 := Arg.t s44
def a45 := Arg.t s45
def a46 := Arg.t s46
def a47 := Arg.t s47
def a48 := Arg.t s48
def a49 := Arg.t s49
def a50 := Arg.t s50
def a51 := Arg.t s51
def a52 := Arg.t s52
def a53 := Arg.t s53
def a54 := Arg.t s54
def a55 := Arg.t s55
def a56 := Arg.t s56
def a57 := Arg.t s57
def a58 := Arg.t s58
def a59 := Arg.t s59
def a60 := Arg.t s60
def a61 := Arg.t s61
def a62 := Arg.t s62
def a63 := Arg.t s63
def a64 := Arg.t s64
def a65 := Arg.t s65
def a66 := Arg.t s66
def a67 := Arg.t s67
def a68 := Arg.t s68
def a69 := Arg.t s69
def a70 := Arg.t s70
def a71 := Arg.t s71
def a72 := Arg.t s72
def a73 := Arg.t s73
def a74 := Arg.t s74
def a75 := Arg.t s75
def a76 := Arg.t s76
def a77 := Arg.t s77
def a78 := Arg.t s78
def a79 := Arg.t s79
def a80 := Arg.t s80
def a81 := Arg.t s81
def a82 := Arg.t s82
def a83 := Arg.t s83
def a84 := Arg.t s84
def a85 := Arg.t s85
def a86 := Arg.t s86
def a87 := Arg.t s87
def a88 := Arg.t s88
def a89 := Arg.t s89
def a90 := Arg.t s90
def a91 := Arg.t s91
def a92 := Arg.t s92
def a93 := Arg.t s93
def a94 := Arg.t s94
def a95 := Arg.t s95
def a96 := Arg.t s96
def a97 := Arg.t s97
def a98 := Arg.t s98
def a99 := Arg.t s99
def a100 := Arg.t s100
def a101 := Arg.t s101
def a102 := Arg.t s102
def a103 := Arg.t s103
def a104 := Arg.t s104
def a105 := Arg.t s105
def a106 := Arg.t s106
def a107 := Arg.t s107
def a108 := Arg.t s108
def a109 := Arg.t s109
def a110 := Arg.t s110
def a111 := Arg.t s111
def a112 := Arg.t s112
def a113 := Arg.t s113
def a114 := Arg.t s114
def a115 := Arg.t s115
def a116 := Arg.t s116
def a117 := Arg.t s117
def a118 := Arg.t s118
def a119 := Arg.t s119
def a120 := Arg.t s120
def a121 := Arg.t s121
def a122 := Arg.t s122
def a123 := Arg.t s123
def a124 := Arg.t s124
def a125 := Arg.t s125
def a126 := Arg.t s126
def a127 := Arg.t s127
def a128 := Arg.t s128
def a129 := Arg.t s129
def a130 := Arg.t s130
def a131 := Arg.t s131
def a132 := Arg.t s132
def a133 := Arg.t s133
def a134 := Arg.t s134
def a135 := Arg.t s135
def a136 := Arg.t s136
def a137 := Arg.t s137
def a138 := Arg.t s138
def a139 := Arg.t s139
def a140 := Arg.t s140
def a141 := Arg.t s141
def a142 := Arg.t s142
def a143 := Arg.t s143
def a144 := Arg.t s144
def a145 := Arg.t s145
def a146 := Arg.t s146
def a147 := Arg.t s147
def a148 := Arg.t s148
def a149 := Arg.t s149
def a150 := Arg.t s150
def a151 := Arg.t s151
def a152 := Arg.t s152
def a153 := Arg.t s153
def a154 := Arg.t s154
def a155 := Arg.t s155
def a156 := Arg.t s156
def a157 := Arg.t s157
def a158 := Arg.t s158
def a159 := Arg.t s159
def a160 := Arg.t s160
def a161 := Arg.t s161
def a162 := Arg.t s162
def a163 := Arg.t s163
def a164 := Arg.t s164
def a165 := Arg.t s165
def a166 := Arg.t s166
def a167 := Arg.t s167
def a168 := Arg.t s168
def a169 := Arg.t s169
def a170 := Arg.t s170
def a171 := Arg.t s171
def a172 := Arg.t s172
def a173 := Arg.t s173
def a174 := Arg.t s174
def a175 := Arg.t s175
def a176 := Arg.t s176
def a177 := Arg.t s177
def a178 := Arg.t s178
def a179 := Arg.t s179
def a180 := Arg.t s180
def a181 := Arg.t s181
def a182 := Arg.t s182
def a183 := Arg.t s183
def a184 := Arg.t s184
def a185 := Arg.t s185
def a191 := Arg.t s191
def a204 := Arg.t s204
def a205 := Arg.t s205
def a206 := Arg.t s206
def a207 := Arg.t s207
def a208 := Arg.t s208
def a209 := Arg.t s209
def a210 := Arg.t s210
def a236 := Arg.t s236
def a237 := Arg.t s237
def a238 := Arg.t s238
def a239 := Arg.t s239
def a240 := Arg.t s240
def a241 := Arg.t s241
def a242 := Arg.t s242
def a243 := Arg.t s243
def a244 := Arg.t s244
def a245 := Arg.t s245
def a246 := Arg.t s246
def a247 := Arg.t s247
def a248 := Arg.t s248
def a249 := Arg.t s249
def a250 := Arg.t s250
def a251 := Arg.t s251
def a342 := Arg.t s342
def a343 := Arg.t s343
def L3 : LFun := ⟨[s0, s1],
 (.seq (R [V s4 (.c (.b false))])
 (.seq (R [V s11 a0, .o s12 (.call 4 [a11, (ci 4)]), .o s13 (.iadd (ci 15) a12), V s0 a13])
 (.seq (R [V s5 (.c (.s 0 0))])
 (.seq (.seq (R [V s6 (ci 0)])
 (.block 0 (.loop (.seq (.seq (R [V s14 a6, V s15 a0, .o s16 (.ilt a14 a15)])
 (.cond a16 .skip (.exit 0)))
 (.seq (.block 1 (R [V s19 a5, .o s20 (.sadd a19 (.c (.s 8 8511929118749844854))), V s21 a6, .o s22 (.call 5 [a21]), .o s23 (.sadd a20 a22), .o s24 (.sadd a23 (.c (.s 1 32))), V s25 a6, .o s26 (.call 5 [a25]), .o s27 (.sadd a24 a26), .o s28 (.sadd a27 (.c (.s 9 2013034839981059829002))), V s29 a6, .o s30 (.call 5 [a29]), .o s31 (.sadd a28 a30), .o s32 (.sadd a31 (.c (.s 9 593763634986602213664))), V s33 a6, .o s34 (.iadd (ci 1) a33), .o s35 (.call 5 [a34]), .o s36 (.sadd a32 a35), .o s37 (.sadd a36 (.c (.s 9 1883905949220607190538))), V s38 a6, .o s39 (.call 5 [a38]), .o s40 (.sadd a37 a39), .o s41 (.sadd a40 (.c (.s 2 27936))), V s42 a6, .o s43 (.call 4 [a42, (ci 16)]), .o s44 (.call 5 [a43]), .o s45 (.sadd a41 a44), .o s46 (.sadd a45 (.c (.s 1 10))), V s5 a46]))
 (R [V s17 a6, .o s18 (.iadd a17 (ci 1)), V s6 a18]))))))
 (.seq (R [V s47 a5, .o s48 (.sadd a47 (.c (.s 8 8511929118749844854))), V s49 a1, V s50 a0, .o s51 (.iadd a50 (ci 1)), .o s52 (.call 4 [a49, a51]), .o s53 (.call 5 [a52]), .o s54 (.sadd a48 a53), .o s55 (.sadd a54 (.c (.s 11 131926011820826100674605856))), V s56 a1, V s57 a0, .o s58 (.iadd a57 (ci 1)), .o s59 (.call 4 [a56, a58]), .o s60 (.call 5 [a59]), .o s61 (.sadd a55 a60), .o s62 (.sadd a61 (.c (.s 12 3154240776602617819125085706))), V s5 a62])
 (.seq (R [V s64 a5, .o s65 (.call 6 [a64]), V s63 a65, .o s66 (.extract 0 a63), .o s67 (.extract 1 a63), V s7 a66, V s8 a67])
 (.seq (R [V s69 a5, .o s70 (.call 7 [a69]), V s68 a70, .o s71 (.extract 0 a68), .o s72 (.extract 1 a68), V s9 a71, V s10 a72])
 (.seq (R [V s73 a8, V s74 a10, .o s75 (.eq false 0 a73 a74), V s76 a75, .g s76 true s77 (.mv a7), .g s76 true s78 (.mv a9), .g s76 true s79 (.eq false 0 a77 a78), .o s80 (.pick a76 a79 (.c (.b false))), V s81 a80, .g s81 true s82 (.call 8 []), .o s83 (.pick a81 a82 (.c (.b false))), V s4 a83])
 .ret)))))))),
 [.tmp s4]⟩
def L4 : LFun := ⟨[s0, s1],
 (.seq (R [V s4 (ci 0)])
 (.seq (R [V s5 a0, .o s6 (.convI .u64 a5), V s7 a1, .o s8 (.convI .u64 a7), .o s9 (.irem a6 a8), .o s10 (.convI .i64 a9), V s4 a10])
 .ret)),
 [.tmp s4]⟩
def L5 : LFun := ⟨[s0],
 (.seq (R [V s2 (.c (.s 0 0))])
 (.seq (.seq (R [V s3 a0, .o s4 (.ilt a3 (ci 10))])
 (.cond a4 (.seq (R [V s5 a0, V s6 a0, .o s7 (.iadd a6 (ci 1)), .o s8 (.slS (.c (.s 10 270211885617516653982000)) (some a5) (some a7)), V s2 a8])
 .ret) .skip))
 (.seq (R [V s9 a0, .o s10 (.iquo a9 (ci 10)), .o s11 (.call 5 [a10]), V s12 a0, .o s13 (.irem a12 (ci 10)), .o s14 (.call 5 [a13]), .o s15 (.sadd a11 a14), V s2 a15])
 .ret))),
 [.tmp s2]⟩
def L6 : LFun := ⟨[s0],
 (.seq (R [V s2 (.c (.s 0 0)), V s3 (ci 0)])
 (.seq (R [V s8 a0, .o s9 (.call 9 [a8]), V s7 a9, .o s10 (.extract 0 a7), .o s11 (.extract 1 a7), .o s12 (.extract 2 a7), V s4 a10, V s5 a11, V s6 a12])
 (.seq (R [V s13 a5, V s14 a6, V s2 a13, V s3 a14])
 .ret))),
 [.tmp s2, .tmp s3]⟩
def L7 : LFun := ⟨[s0],
 (.seq (R [V s2 (.c (.s 0 0)), V s3 (ci 0)])
 (.seq (R [V s8 a0, .o s9 (.call 10 [a8]), V s7 a9, .o s10 (.extract 0 a7), .o s11 (.extract 1 a7), .o s12 (.extract 2 a7), V s4 a10, V s5 a11, V s6 a12])
 (.seq (R [V s13 a4, V s14 a6, V s2 a13, V s3 a14])
 .ret))),
 [.tmp s2, .tmp s3]⟩
def L8 : LFun := ⟨[],
 (.seq (R [V s0 (.c (.b false))])
 (.seq (R [.o s6 (.call 6 [(.c (.s 66 385735618083311283841953969967339128219518367794349952553558779055063867748644930052406022544022994232092701555327962876855421502576401846150871438560599499117))]), V s5 a6, .o s7 (.extract 0 a5), .o s8 (.extract 1 a5), V s1 a7, V s2 a8])
 (.seq (R [.o s10 (.call 11 [(.c (.s 29 275194338243110938712807241524463672449846942299152194826776066941293))]), V s9 a10, .o s11 (.extract 0 a9), .o s12 (.extract 1 a9), V s3 a11, V s4 a12])
 (.seq (R [V s13 a2, .o s14 (.eq false 0 a13 (ci 0)), V s15 a14, .g s15 true s16 (.mv a4), .g s15 true s17 (.eq false 0 a16 (ci 0)), .o s18 (.pick a15 a17 (.c (.b false))), V s19 a18, .g s19 true s20 (.mv a1), .g s19 true s21 (.eq false 0 a20 (.c (.s 63 2084392142696746645530718992854170846190038070016086596174302897597916225700957431371176235463411373431454870250323217423569581018282148007672276083053))), .o s22 (.pick a19 a21 (.c (.b false))), V s23 a22, .g s23 true s24 (.mv a3), .g s23 true s25 (.lenV a24), .g s23 true s26 (.eq false 0 a25 (ci 1)), .o s27 (.pick a23 a26 (.c (.b false))), V s28 a27, .g s28 true s29 (.mv a3), .g s28 true s30 (.iaddr 26 a29 (ci 0)), .g s28 true s31 (.faddr 0 a30), .g s28 true s32 (.ld1 a31), .g s28 true s33 (.eq false 0 a32 (ci 3)), .o s34 (.pick a28 a33 (.c (.b false))), V s0 a34])
 .ret)))),
 [.tmp s0]⟩
def L9 : LFun := ⟨[s0],
 (.seq (R [V s2 (.c .p0), V s3 (.c (.s 0 0)), V s4 (ci 0)])
 (.seq (.seq (R [V s10 a0, .o s11 (.lenS a10), .o s12 (.igt a11 (ci 65536))])
 (.cond a12 .bad .skip))
 (.seq (R [.o s13 .mkm, .o s14 .mkm, .o s15 .mkm, .o s16 (.build [.m0, .m0, .m0, .sl0] [(0, 1, a13), (1, 1, a14), (2, 1, a15)]), .o s17 (.box 64 a16), V s5 a17])
 (.seq (R [.o s6 (.alloc [.p0, .sl0] 68)])
 (.seq (.block 0 (.loop (.seq (.seq (R [V s18 a0, .o s19 (.eq true 0 a18 (.c (.s 0 0)))])
 (.cond a19 .skip (.exit 0)))
 (.block 1 (.seq (R [V s21 a0, .o s22 (.call 12 [a21, (.c (.s 1 10))]), V s20 a22, .o s23 (.extract 0 a20), .o s24 (.extract 1 a20), .o s25 (.extract 2 a20), V s7 a23, V s8 a24, V s9 a25])
 (.seq (R [V s26 a5, V s27 a7, .o s28 (.call 14 [a26, a27]), .o s29 (.sadd a28 (.c (.s 1 10))), .o s30 (.call 13 [a6, a29])])
 (R [V s31 a8, V s0 a31])))))))
 (.seq (R [V s32 a5, .o s33 (.call 15 [a6]), V s2 a32, V s3 a33, V s4 (ci 0)])
 .ret)))))),
 [.tmp s2, .tmp s3, .tmp s4]⟩
def L10 : LFun := ⟨[s0],
 (.seq (R [V s2 (.c (.s 0 0)), V s3 (.c .p0), V s4 (ci 0)])
 (.seq (R [.o s12 (.build [.sl0, .sl0, .sl0, .sl0, .sl0, .sl0, .sl0] []), .o s13 (.box 82 a12), V s5 a13])
 (.seq (.seq (R [V s14 a0, .o s15 (.lenS a14), .o s16 (.igt a15 (ci 65536))])
 (.cond a16 .bad .skip))
 (.seq (R [V s6 (.c .sl0)])
 (.seq (R [V s18 a0, .o s19 (.call 16 [a18]), V s7 a19])
 (.seq (.seq (R [V s8 (ci 0)])
 (.block 0 (.loop (.seq (.seq (R [V s20 a8, V s21 a7, .o s22 (.lenV a21), .o s23 (.ilt a20 a22)])
 (.cond a23 .skip (.exit 0)))
 (.seq (.block 1 (.seq (R [V s27 a5, V s28 a7, V s29 a8, .o s30 (.iaddr 1 a28 a29), .o s31 (.ld1 a30), .o s32 (.call 17 [a27, a31]), V s26 a32, .o s33 (.extract 0 a26), .o s34 (.extract 1 a26), V s9 a33, V s10 a34])
 (.seq (.seq (R [V s35 a10, .o s36 (.eq true 0 a35 (ci 0))])
 (.cond a36 (R [V s37 a10, .o s38 (.call 5 [a37]), .o s39 (.sadd (.c (.s 6 35675868131941)) a38), V s9 a39]) .skip))
 (.seq (.seq (R [V s11 (ci 0)])
 (.block 2 (.loop (.seq (.seq (R [V s40 a11, V s41 a9, .o s42 (.lenS a41), .o s43 (.ilt a40 a42)])
 (.cond a43 .skip (.exit 2)))
 (.seq (.block 3 (R [V s46 a6, V s47 a9, V s48 a11, .o s49 (.idxS a47 a48), .o s50 (.bslice 5 1 1 [(.i .u8 0)] [(0, 1, a49)]), .o s51 (.append 1 5 a46 a50), V s6 a51]))
 (R [V s44 a11, .o s45 (.iadd a44 (ci 1)), V s11 a45]))))))
 (R [V s52 a6, .o s53 (.bslice 5 1 1 [(.i .u8 0)] [(0, 1, (.c (.i .u8 10)))]), .o s54 (.append 1 5 a52 a53), V s6 a54])))))
 (R [V s24 a8, .o s25 (.iadd a24 (ci 1)), V s8 a25]))))))
 (.seq (R [V s55 a6, .o s56 (.bToS a55), V s57 a5, V s2 a56, V s3 a57, V s4 (ci 0)])
 .ret))))))),
 [.tmp s2, .tmp s3, .tmp s4]⟩
def L11 : LFun := ⟨[s0],
 (.seq (R [V s2 (.c .sl0), V s3 (ci 0)])
 (.seq (R [V s8 a0, .o s9 (.call 9 [a8]), V s7 a9, .o s10 (.extract 0 a7), .o s11 (.extract 1 a7), .o s12 (.extract 2 a7), V s4 a10, V s5 a11, V s6 a12])
 (.seq (.seq (R [V s13 a6, .o s14 (.eq true 0 a13 (ci 0))])
 (.cond a14 .bad .skip))
 (.seq (R [V s16 a4, .o s17 (.nilc a16), .o s18 (.faddr 3 a17), .o s19 (.ld1 a18), V s2 a19, V s3 (ci 0)])
 .ret)))),
 [.tmp s2, .tmp s3]⟩
def L12 : LFun := ⟨[s0, s1],
 (.seq (R [V s4 (.c (.s 0 0)), V s5 (.c (.s 0 0)), V s6 (.c (.b false))])
 (.seq (R [V s7 a0, V s8 a1, .o s9 (.call 18 [a7, a8]), .o s10 (.extract 0 a9), .o s11 (.extract 1 a9), .o s12 (.extract 2 a9), V s4 a10, V s5 a11, V s6 a12])
 .ret)),
 [.tmp s4, .tmp s5, .tmp s6]⟩
def L13 : LFun := ⟨[s0, s1],
 (.seq (R [V s4 (ci 0), V s5 (.c .if0)])
 (.seq (R [V s6 a0, .o s7 (.call 19 [a6])])
 (.seq (R [V s8 a0, V s9 a0, .o s10 (.nilc a9), .o s11 (.faddr 1 a10), .o s12 (.ld1 a11), V s13 a1, .o s14 (.append 1 5 a12 a13), .o s15 (.nilc a8), .o s16 (.faddr 1 a15), .n (.st 1 a16 a14)])
 (.seq (R [V s17 a1, .o s18 (.lenS a17), V s4 a18, V s5 (.c .if0)])
 .ret)))),
 [.tmp s4, .tmp s5]⟩
def L14 : LFun := ⟨[s0, s1],
 (.seq (R [V s4 (.c (.s 0 0))])
 (.seq (R [V s8 a1, .o s9 (.call 20 [a8, (.c (.s 1 32))]), V s5 a9])
 (.seq (.draw 1 [.q 0 0 (V s11 a0), .q 1 0 (V s12 a5), .q 2 2 (.o s13 (.iaddr 1 a12 (ci 0))), .r 3 6 (.o s14 (.ld1 a13)), .q 4 0 (V s15 a5), .q 5 16 (.o s16 (.slV 1 a15 (some (ci 1)) none none)), .a 10 0 0 (.o s6 (.alloc [.sl0, (.i .i64 0), (.i .i64 0), (.i .i64 0), .sl0, .sl0, .sl0, .sl0, .sl0, (.i .i64 0), (.i .i64 0), .sl0, .sl0, (.i .i64 0), (.i .i64 0), .sl0, .sl0, .sl0, (.i .u64 0), (.i .i64 0), (.i .i64 0), (.i .i64 0), .sl0, .sl0, .sl0, .sl0, .sl0, .f0, (.b false)] 86)), .s 6 63 (.o s17 (.call 21 [a11, a14, a16])), .q 7 127 (V s10 a17), .q 8 255 (.o s18 (.extract 0 a10)), .q 9 255 (.o s19 (.extract 1 a10)), .s 11 1535 (.n (.st 29 a6 a18)), .q 12 4095 (V s7 a19)])
 (.seq (.seq (R [V s20 a7, .o s21 (.eq false 0 a20 (ci 0)), V s22 a21, .g s22 true s23 (.faddr 28 a6), .g s22 true s24 (.ld1 a23), .o s25 (.pick a22 a24 (.c (.b false)))])
 (.cond a25 (R [V s7 (ci 441)]) .skip))
 (.seq (.seq (R [V s26 a7, .o s27 (.eq true 0 a26 (ci 0))])
 (.cond a27 (.seq (R [V s28 a7, .o s29 (.call 22 [a28]), .o s30 (.sadd (.c (.s 6 35675868131941)) a29), V s4 a30])
 .ret) .skip))
 (.seq (.seq (R [.o s31 (.faddr 27 a6), .o s32 (.ld1 a31), .o s33 (.eq true 4 a32 (.c .f0))])
 (.cond a33 (R [.o s34 (.faddr 27 a6), .o s35 (.ld1 a34), .o s36 (.callv a35 [])]) .skip))
 (.seq (.seq (R [.o s37 (.faddr 1 a6), .o s38 (.faddr 0 a37), .o s39 (.ld1 a38), .o s40 (.eq true 0 a39 (ci 0))])
 (.cond a40 (.draw 1 [.q 0 0 (V s41 a0), .q 1 0 (V s42 a0), .q 2 2 (.o s43 (.nilc a42)), .q 3 6 (.o s44 (.faddr 3 a43)), .r 4 14 (.o s45 (.ld1 a44)), .q 5 0 (.o s46 (.faddr 1 a6)), .r 6 32 (.o s47 (.ldn 26 a46)), .a 7 96 0 (.o s48 (.bslice 59 1 26 [(.i .i64 0), (.i .i64 0), (.i .i64 0), .sl0, .sl0, .sl0, .sl0, .sl0, (.i .i64 0), (.i .i64 0), .sl0, .sl0, (.i .i64 0), (.i .i64 0), .sl0, .sl0, .sl0, (.i .u64 0), (.i .i64 0), (.i .i64 0), (.i .i64 0), .sl0, .sl0, .sl0, .sl0, .sl0] [(0, 26, a47)])), .s 8 254 (.o s49 (.append 26 59 a45 a48)), .q 9 511 (.o s50 (.nilc a41)), .q 10 1023 (.o s51 (.faddr 3 a50)), .s 11 2047 (.n (.st 1 a51 a49))]) .skip))
 (.seq (.draw 1 [.q 0 0 (V s52 a5), .q 1 1 (.o s53 (.iaddr 1 a52 (ci 0))), .r 2 3 (.o s54 (.ld1 a53)), .a 3 7 0 (.o s55 (.bslice 9 1 1 [(.s 0 0)] [(0, 1, a54)])), .q 4 0 (.o s56 (.faddr 0 a6)), .r 5 16 (.o s57 (.ld1 a56)), .s 6 63 (.o s58 (.append 1 9 a55 a57)), .s 7 127 (.o s59 (.call 23 [a58, (.c (.s 1 32))])), .q 8 255 (V s4 a59)])
 .ret)))))))),
 [.tmp s4]⟩
def L15 : LFun := ⟨[s0],
 (.seq (R [V s2 (.c (.s 0 0))])
 (.seq (.draw 0 [.q 0 0 (V s3 a0), .q 1 1 (.o s4 (.nilc a3)), .q 2 3 (.o s5 (.faddr 1 a4)), .r 3 7 (.o s6 (.ld1 a5)), .q 4 15 (.o s7 (.usd a6)), .q 5 0 (V s8 a0), .q 6 32 (.o s9 (.nilc a8)), .q 7 96 (.o s10 (.faddr 1 a9)), .r 8 224 (.o s11 (.ld1 a10)), .q 9 480 (.o s12 (.lenV a11)), .s 10 1023 (.o s13 (.ustr 5 a7 a12)), .q 11 2047 (V s2 a13)])
 .ret)),
 [.tmp s2]⟩
def L16 : LFun := ⟨[s0],
 (.seq (R [V s2 (.c .sl0)])
 (.seq (R [V s4 a0, .o s5 (.call 24 [a4, (.c (.i .u8 10))]), V s3 a5])
 (.seq (.seq (R [V s6 a3, V s7 a3, .o s8 (.lenV a7), .o s9 (.isub a8 (ci 1)), .o s10 (.iaddr 1 a6 a9), .o s11 (.ld1 a10), .o s12 (.eq false 0 a11 (.c (.s 0 0)))])
 (.cond a12 (R [V s13 a3, V s14 a3, .o s15 (.lenV a14), .o s16 (.isub a15 (ci 1)), .o s17 (.slV 1 a13 none (some a16) none), V s3 a17]) .skip))
 (.seq (R [V s18 a3, V s2 a18])
 .ret)))),
 [.tmp s2]⟩
def L17 : LFun := ⟨[s0, s1],
 (.seq (R [V s4 (.c (.s 0 0)), V s5 (ci 0)])
 (.seq (R [V s7 a1, .o s8 (.call 24 [a7, (.c (.i .u8 32))]), V s6 a8])
 (.seq (.block 0 (.seq (R [V s10 a6, .o s11 (.iaddr 1 a10 (ci 0)), .o s12 (.ld1 a11), .o s13 (.eq false 0 a12 (.c (.s 6 132394287128941))), V s14 a13, .g s14 false s15 (.mv a6), .g s14 false s16 (.iaddr 1 a15 (ci 0)), .g s14 false s17 (.ld1 a16), .g s14 false s18 (.eq false 0 a17 (.c (.s 6 125823019607414))), .o s19 (.pick a14 (.c (.b true)) a18), V s9 a19])
 (.cond a9 (.seq (R [V s20 a0, V s21 a6, .o s22 (.call 25 [a20, a21]), .o s23 (.extract 0 a22), .o s24 (.extract 1 a22), V s4 a23, V s5 a24])
 .ret) (.seq (R [V s26 a6, .o s27 (.iaddr 1 a26 (ci 0)), .o s28 (.ld1 a27), .o s29 (.eq false 0 a28 (.c (.s 6 125823019606374))), V s30 a29, .g s30 true s31 (.mv a6), .g s30 true s32 (.lenV a31), .g s30 true s33 (.eq false 0 a32 (ci 3)), .o s34 (.pick a30 a33 (.c (.b false))), V s35 a34, .g s35 true s36 (.mv a6), .g s35 true s37 (.slV 1 a36 (some (ci 1)) none none), .g s35 true s38 (.call 26 [a37]), .o s39 (.pick a35 a38 (.c (.b false))), V s25 a39])
 (.cond a25 (.seq (R [V s40 a0, V s41 a6, .o s42 (.call 27 [a40, a41]), .o s43 (.extract 0 a42), .o s44 (.extract 1 a42), V s4 a43, V s5 a44])
 .ret) (.seq (R [V s46 a6, .o s47 (.iaddr 1 a46 (ci 0)), .o s48 (.ld1 a47), .o s49 (.eq false 0 a48 (.c (.s 5 435778514803))), V s50 a49, .g s50 false s51 (.mv a6), .g s50 false s52 (.iaddr 1 a51 (ci 0)), .g s50 false s53 (.ld1 a52), .g s50 false s54 (.eq false 0 a53 (.c (.s 6 111550524584053))), .o s55 (.pick a50 (.c (.b true)) a54), V s56 a55, .g s56 true s57 (.mv a6), .g s56 true s58 (.lenV a57), .g s56 true s59 (.eq false 0 a58 (ci 4)), .o s60 (.pick a56 a59 (.c (.b false))), V s61 a60, .g s61 true s62 (.mv a6), .g s61 true s63 (.slV 1 a62 (some (ci 1)) none none), .g s61 true s64 (.call 26 [a63]), .o s65 (.pick a61 a64 (.c (.b false))), V s45 a65])
 (.cond a45 .bad (.seq (R [V s72 a6, .o s73 (.iaddr 1 a72 (ci 0)), .o s74 (.ld1 a73), .o s75 (.eq false 0 a74 (.c (.s 4 1802396018))), V s76 a75, .g s76 false s77 (.mv a6), .g s76 false s78 (.iaddr 1 a77 (ci 0)), .g s76 false s79 (.ld1 a78), .g s76 false s80 (.eq false 0 a79 (.c (.s 4 1684959075))), .o s81 (.pick a76 (.c (.b true)) a80), V s82 a81, .g s82 true s83 (.mv a6), .g s82 true s84 (.lenV a83), .g s82 true s85 (.eq false 0 a84 (ci 2)), .o s86 (.pick a82 a85 (.c (.b false))), V s87 a86, .g s87 true s88 (.mv a6), .g s87 true s89 (.slV 1 a88 (some (ci 1)) none none), .g s87 true s90 (.call 26 [a89]), .o s91 (.pick a87 a90 (.c (.b false))), V s71 a91])
 (.cond a71 (.seq (R [V s92 a0, V s93 a6, .o s94 (.call 29 [a92, a93]), .o s95 (.extract 0 a94), .o s96 (.extract 1 a94), V s4 a95, V s5 a96])
 .ret) .bad)))))))))
 .bad))),
 [.tmp s4, .tmp s5]⟩
def L18 : LFun := ⟨[s0, s1],
 (.seq (R [V s4 (.c (.s 0 0)), V s5 (.c (.s 0 0)), V s6 (.c (.b false))])
 (.seq (.seq (R [V s8 a0, V s9 a1, .o s10 (.call 34 [a8, a9]), V s7 a10])
 (.seq (R [V s11 a7, .o s12 (.ige a11 (ci 0))])
 (.cond a12 (.seq (.draw 0 [.q 0 0 (V s13 a0), .q 1 0 (V s14 a7), .q 2 3 (.o s15 (.slS a13 none (some a14))), .q 3 0 (V s16 a0), .q 4 0 (V s17 a7), .q 5 0 (V s18 a1), .q 6 32 (.o s19 (.lenS a18)), .q 7 112 (.o s20 (.iadd a17 a19)), .q 8 248 (.o s21 (.slS a16 (some a20) none)), .q 9 7 (V s4 a15), .q 10 1023 (V s5 a21), .q 11 2047 (V s6 (.c (.b true)))])
 .ret) .skip)))
 (.seq (R [V s22 a0, V s4 a22, V s5 (.c (.s 0 0)), V s6 (.c (.b false))])
 .ret))),
 [.tmp s4, .tmp s5, .tmp s6]⟩
def L19 : LFun := ⟨[s0],
 (.seq (R [V s2 a0, .o s3 (.nilc a2), .o s4 (.faddr 0 a3), .o s5 (.ld1 a4), .o s6 (.eq false 1 a5 (.c .p0))])
 (.cond a6 (R [V s7 a0, V s8 a0, .o s9 (.ptrU 2 a8), .o s10 (.call 35 [a9]), .o s11 (.uPtr 68 2 a10), .o s12 (.nilc a7), .o s13 (.faddr 0 a12), .n (.st 1 a13 a11)]) (.seq (R [V s14 a0, .o s15 (.nilc a14), .o s16 (.faddr 0 a15), .o s17 (.ld1 a16), V s18 a0, .o s19 (.eq true 1 a17 a18)])
 (.cond a19 .bad .skip)))),
 []⟩
def L20 : LFun := ⟨[s0, s1],
 (.seq (R [V s4 (.c .sl0)])
 (.seq (R [V s5 a0, V s6 a1, .o s7 (.call 36 [a5, a6, (ci 0), (ci 18446744073709551615)]), V s4 a7])
 .ret)),
 [.tmp s4]⟩
def L21 : LFun := ⟨[s0, s1, s2],
 (.seq (R [.o s6 (.alloc [.sl0, (.i .i64 0), (.i .i64 0), (.i .i64 0), .sl0, .sl0, .sl0, .sl0, .sl0, (.i .i64 0), (.i .i64 0), .sl0, .sl0, (.i .i64 0), (.i .i64 0), .sl0, .sl0, .sl0, (.i .u64 0), (.i .i64 0), (.i .i64 0), (.i .i64 0), .sl0, .sl0, .sl0, .sl0, .sl0, .f0, (.b false)] 86), V s7 (ci 0)])
 (.seq (.seq (R [.o s10 (.call 37 []), .o s11 (.lenV a10), V s12 (ci 0)])
 (.block 0 (.loop (.seq (R [.o s13 (.ilt a12 a11)])
 (.seq (.cond a13 .skip (.exit 0))
 (.seq (.block 1 (.seq (R [.o s14 (.iaddr 2 a10 a12), .o s15 (.ldn 2 a14), .o s9 (.alloc [(.s 0 0), .f0] 103), .n (.st 2 a9 a15)])
 (.seq (R [.o s16 (.faddr 0 a9), .o s17 (.ld1 a16), V s18 a1, .o s19 (.eq false 0 a17 a18)])
 (.cond a19 (.seq (R [.o s20 (.faddr 1 a9), .o s21 (.ld1 a20), V s22 a0, V s23 a2, .o s24 (.callv a21 [a22, a23]), .o s25 (.extract 0 a24), .o s26 (.extract 1 a24), .n (.st 29 a6 a25), V s7 a26])
 .ret) .skip))))
 (R [.o s27 (.iadd a12 (ci 1)), V s12 a27])))))))
 (.seq (R [.o s28 (.build [.sl0, (.i .i64 0), (.i .i64 0), (.i .i64 0), .sl0, .sl0, .sl0, .sl0, .sl0, (.i .i64 0), (.i .i64 0), .sl0, .sl0, (.i .i64 0), (.i .i64 0), .sl0, .sl0, .sl0, (.i .u64 0), (.i .i64 0), (.i .i64 0), (.i .i64 0), .sl0, .sl0, .sl0, .sl0, .sl0, .f0, (.b false)] []), .n (.st 29 a6 a28), V s7 (ci 440)])
 .ret))),
 [.cn s6 29, .tmp s7]⟩
def L22 : LFun := ⟨[s0],
 (.seq (R [V s2 (.c (.s 0 0))])
 (.seq (R [V s3 a0, .o s4 (.call 38 [a3]), V s2 a4])
 .ret)),
 [.tmp s2]⟩
def L23 : LFun := ⟨[s0, s1],
 (.seq (R [V s4 (.c (.s 0 0))])
 (.seq (.seq (R [V s11 a0, .o s12 (.lenV a11)])
 (.block 0 (.seq (R [.o s14 (.eq false 0 a12 (ci 0)), V s13 a14])
 (.cond a13 .bad (.seq (R [.o s16 (.eq false 0 a12 (ci 1)), V s15 a16])
 (.cond a15 (.seq (R [V s17 a0, .o s18 (.iaddr 1 a17 (ci 0)), .o s19 (.ld1 a18), V s4 a19])
 .ret) .skip))))))
 (.seq (R [V s5 (ci 0)])
 (.seq (.seq (R [V s20 a1, .o s21 (.lenS a20), .o s22 (.igt a21 (ci 0))])
 (.cond a22 (.seq (.seq (R [V s23 a1, .o s24 (.lenS a23), V s25 a0, .o s26 (.lenV a25), .o s27 (.isub a26 (ci 1)), .o s28 (.iquo (ci 9223372036854775807) a27), .o s29 (.ige a24 a28)])
 (.cond a29 .bad .skip))
 (R [V s31 a5, V s32 a1, .o s33 (.lenS a32), V s34 a0, .o s35 (.lenV a34), .o s36 (.isub a35 (ci 1)), .o s37 (.imul a33 a36), .o s38 (.iadd a31 a37), V s5 a38])) .skip))
 (.seq (.seq (R [V s39 a0, .o s40 (.lenV a39), V s41 (ci 0)])
 (.block 1 (.loop (.seq (R [.o s42 (.ilt a41 a40)])
 (.seq (.cond a42 .skip (.exit 1))
 (.seq (.block 2 (.seq (R [.o s43 (.iaddr 1 a39 a41), .o s44 (.ld1 a43), V s7 a44])
 (.seq (.seq (R [V s45 a7, .o s46 (.lenS a45), V s47 a5, .o s48 (.isub (ci 9223372036854775807) a47), .o s49 (.igt a46 a48)])
 (.cond a49 .bad .skip))
 (R [V s51 a5, V s52 a7, .o s53 (.lenS a52), .o s54 (.iadd a51 a53), V s5 a54]))))
 (R [.o s55 (.iadd a41 (ci 1)), V s41 a55])))))))
 (.seq (R [.o s8 (.alloc [.p0, .sl0] 68)])
 (.seq (R [V s56 a5, .o s57 (.call 39 [a8, a56])])
 (.seq (R [V s58 a0, .o s59 (.iaddr 1 a58 (ci 0)), .o s60 (.ld1 a59), .o s61 (.call 13 [a8, a60])])
 (.seq (.seq (R [V s62 a0, .o s63 (.slV 1 a62 (some (ci 1)) none none), .o s64 (.lenV a63), V s65 (ci 0)])
 (.block 3 (.loop (.seq (R [.o s66 (.ilt a65 a64)])
 (.seq (.cond a66 .skip (.exit 3))
 (.seq (.block 4 (.seq (R [.o s67 (.iaddr 1 a63 a65), .o s68 (.ld1 a67), V s10 a68])
 (.seq (R [V s69 a1, .o s70 (.call 13 [a8, a69])])
 (R [V s71 a10, .o s72 (.call 13 [a8, a71])]))))
 (R [.o s73 (.iadd a65 (ci 1)), V s65 a73])))))))
 (.seq (R [.o s74 (.call 15 [a8]), V s4 a74])
 .ret)))))))))),
 [.tmp s4]⟩
def L24 : LFun := ⟨[s0, s1],
 (.seq (R [V s4 (.c .sl0)])
 (.seq (R [V s5 (.c .sl0)])
 (.seq (R [V s6 (ci 0)])
 (.seq (.seq (R [V s7 (ci 0)])
 (.block 0 (.loop (.seq (.seq (R [V s8 a7, V s9 a0, .o s10 (.lenS a9), .o s11 (.ile a8 a10)])
 (.cond a11 .skip (.exit 0)))
 (.seq (.block 1 (.seq (R [V s14 a7, V s15 a0, .o s16 (.lenS a15), .o s17 (.eq false 0 a14 a16), V s18 a17, .g s18 false s19 (.mv a0), .g s18 false s20 (.mv a7), .g s18 false s21 (.idxS a19 a20), .g s18 false s22 (.mv a1), .g s18 false s23 (.eq false 0 a21 a22), .o s24 (.pick a18 (.c (.b true)) a23)])
 (.cond a24 (.seq (R [V s25 a5, V s26 a0, V s27 a6, V s28 a7, .o s29 (.slS a26 (some a27) (some a28)), .o s30 (.bslice 9 1 1 [(.s 0 0)] [(0, 1, a29)]), .o s31 (.append 1 9 a25 a30), V s5 a31])
 (R [V s32 a7, .o s33 (.iadd a32 (ci 1)), V s6 a33])) .skip)))
 (R [V s12 a7, .o s13 (.iadd a12 (ci 1)), V s7 a13]))))))
 (.seq (R [V s34 a5, V s4 a34])
 .ret))))),
 [.tmp s4]⟩
def L25 : LFun := ⟨[s0, s1],
 (.seq (R [V s4 (.c (.s 0 0)), V s5 (ci 0)])
 (.seq (.seq (R [V s22 a1, .o s23 (.lenV a22), .o s24 (.ilt a23 (ci 2)), V s25 a24, .g s25 false s26 (.mv a1), .g s25 false s27 (.iaddr 1 a26 (ci 1)), .g s25 false s28 (.ld1 a27), .g s25 false s29 (.call 31 [a28]), .g s25 false s30 (.not a29), .o s31 (.pick a25 (.c (.b true)) a30)])
 (.cond a31 .bad .skip))
 (.seq (.seq (R [V s32 a1, .o s33 (.iaddr 1 a32 (ci 0)), .o s34 (.ld1 a33), .o s35 (.eq false 0 a34 (.c (.s 6 125823019607414)))])
 (.cond a35 (.seq (R [V s37 a1, .o s38 (.slV 1 a37 (some (ci 2)) none none), .o s39 (.call 40 [a38]), V s36 a39, .o s40 (.extract 0 a36), .o s41 (.extract 1 a36), V s6 a40, V s7 a41])
 (.seq (.seq (R [V s42 a7, .o s43 (.not a42)])
 (.cond a43 .bad .skip))
 (.seq (.seq (.draw 0 [.q 0 0 (V s44 a0), .q 1 1 (.o s45 (.nilc a44)), .q 2 3 (.o s46 (.faddr 2 a45)), .r 3 7 (.o s47 (.ld1 a46)), .q 4 0 (V s48 a1), .q 5 16 (.o s49 (.iaddr 1 a48 (ci 1))), .r 6 48 (.o s50 (.ld1 a49)), .s 7 127 (.o s51 (.call 41 [a47, a50])), .q 8 255 (.o s52 (.not a51))])
 (.cond a52 (.seq (R [V s4 (.c (.s 0 0)), V s5 (ci 441)])
 .ret) .skip))
 (.seq (R [V s53 a0, V s54 a1, .o s55 (.iaddr 1 a54 (ci 1)), .o s56 (.ld1 a55), V s57 a6, .o s58 (.call 42 [a53, a56, a57])])
 (.seq (.draw 0 [.q 0 0 (V s59 a1), .q 1 1 (.o s60 (.iaddr 1 a59 (ci 1))), .r 2 3 (.o s61 (.ld1 a60)), .q 3 7 (.o s62 (.sadd (.c (.s 7 9133022274348406)) a61)), .q 4 15 (.o s63 (.sadd a62 (.c (.s 1 32)))), .q 5 0 (V s64 a6), .q 6 32 (.o s65 (.lenV a64)), .s 7 96 (.o s66 (.call 5 [a65])), .q 8 255 (.o s67 (.sadd a63 a66)), .q 9 511 (V s4 a67), .q 10 1023 (V s5 (ci 0))])
 .ret))))) .skip))
 (.seq (.seq (R [V s68 a1, .o s69 (.lenV a68), .o s70 (.ilt a69 (ci 4)), V s71 a70, .g s71 false s72 (.mv a1), .g s71 false s73 (.lenV a72), .g s71 false s74 (.isub a73 (ci 4)), .g s71 false s75 (.irem a74 (ci 3)), .g s71 false s76 (.eq true 0 a75 (ci 0)), .o s77 (.pick a71 (.c (.b true)) a76)])
 (.cond a77 .bad .skip))
 (.seq (R [V s79 a1, .o s80 (.iaddr 1 a79 (ci 2)), .o s81 (.ld1 a80), .o s82 (.call 43 [a81]), V s78 a82, .o s83 (.extract 0 a78), .o s84 (.extract 1 a78), V s8 a83, V s9 a84])
 (.seq (R [V s86 a1, .o s87 (.iaddr 1 a86 (ci 3)), .o s88 (.ld1 a87), .o s89 (.call 43 [a88]), V s85 a89, .o s90 (.extract 0 a85), .o s91 (.extract 1 a85), V s10 a90, V s11 a91])
 (.seq (.seq (R [V s92 a9, .o s93 (.not a92), V s94 a93, .g s94 false s95 (.mv a11), .g s94 false s96 (.not a95), .o s97 (.pick a94 (.c (.b true)) a96)])
 (.cond a97 .bad .skip))
 (.seq (R [V s12 (.c .sl0)])
 (.seq (.seq (R [V s13 (ci 4)])
 (.block 0 (.loop (.seq (.seq (R [V s98 a13, V s99 a1, .o s100 (.lenV a99), .o s101 (.ilt a98 a100)])
 (.cond a101 .skip (.exit 0)))
 (.seq (.block 1 (.seq (R [V s105 a1, V s106 a13, .o s107 (.iaddr 1 a105 a106), .o s108 (.ld1 a107), .o s109 (.call 43 [a108]), V s104 a109, .o s110 (.extract 0 a104), .o s111 (.extract 1 a104), V s14 a110, V s15 a111])
 (.seq (R [V s113 a1, V s114 a13, .o s115 (.iadd a114 (ci 1)), .o s116 (.iaddr 1 a113 a115), .o s117 (.ld1 a116), .o s118 (.call 43 [a117]), V s112 a118, .o s119 (.extract 0 a112), .o s120 (.extract 1 a112), V s16 a119, V s17 a120])
 (.seq (R [V s122 a1, V s123 a13, .o s124 (.iadd a123 (ci 2)), .o s125 (.iaddr 1 a122 a124), .o s126 (.ld1 a125), .o s127 (.call 44 [a126]), V s121 a127, .o s128 (.extract 0 a121), .o s129 (.extract 1 a121), V s18 a128, V s19 a129])
 (.seq (.seq (R [V s130 a15, .o s131 (.not a130), V s132 a131, .g s132 false s133 (.mv a17), .g s132 false s134 (.not a133), .o s135 (.pick a132 (.c (.b true)) a134), V s136 a135, .g s136 false s137 (.mv a19), .g s136 false s138 (.not a137), .o s139 (.pick a136 (.c (.b true)) a138)])
 (.cond a139 .bad .skip))
 (R [V s140 a12, V s141 a14, V s142 a16, V s143 a18, .o s144 (.build [(.i .i64 0), (.i .i64 0), (.i .u64 0)] [(0, 1, a141), (1, 1, a142), (2, 1, a143)]), .o s145 (.bslice 115 1 3 [(.i .i64 0), (.i .i64 0), (.i .u64 0)] [(0, 3, a144)]), .o s146 (.append 3 115 a140 a145), V s12 a146]))))))
 (R [V s102 a13, .o s103 (.iadd a102 (ci 3)), V s13 a103]))))))
 (.seq (R [V s148 a8, V s149 a10, V s150 a12, .o s151 (.call 45 [a148, a149, a150]), V s147 a151, .o s152 (.extract 0 a147), .o s153 (.extract 1 a147), .o s20 (.alloc [(.i .i64 0), (.i .i64 0), .sl0, .sl0, .sl0] 42), .n (.st 5 a20 a152), V s21 a153])
 (.seq (.seq (R [V s154 a21, .o s155 (.eq true 0 a154 (ci 0))])
 (.cond a155 .bad .skip))
 (.seq (.seq (.draw 0 [.q 0 0 (V s157 a0), .q 1 1 (.o s158 (.nilc a157)), .q 2 3 (.o s159 (.faddr 0 a158)), .r 3 7 (.o s160 (.ld1 a159)), .q 4 0 (V s161 a1), .q 5 16 (.o s162 (.iaddr 1 a161 (ci 1))), .r 6 48 (.o s163 (.ld1 a162)), .s 7 127 (.o s164 (.call 41 [a160, a163])), .q 8 255 (.o s165 (.not a164))])
 (.cond a165 (.seq (R [V s4 (.c (.s 0 0)), V s5 (ci 441)])
 .ret) .skip))
 (.seq (.draw 0 [.q 0 0 (V s166 a0), .q 1 0 (V s167 a1), .q 2 2 (.o s168 (.iaddr 1 a167 (ci 1))), .r 3 6 (.o s169 (.ld1 a168)), .r 4 0 (.o s170 (.ldn 5 a20)), .s 5 31 (.o s171 (.call 46 [a166, a169, a170]))])
 (.seq (.draw 0 [.q 0 0 (V s172 a1), .q 1 1 (.o s173 (.iaddr 1 a172 (ci 1))), .r 2 3 (.o s174 (.ld1 a173)), .q 3 7 (.o s175 (.sadd (.c (.s 7 9139593541869933)) a174)), .q 4 15 (.o s176 (.sadd a175 (.c (.s 1 32)))), .q 5 0 (.o s177 (.faddr 3 a20)), .r 6 32 (.o s178 (.ld1 a177)), .q 7 96 (.o s179 (.lenV a178)), .s 8 224 (.o s180 (.call 5 [a179])), .q 9 511 (.o s181 (.sadd a176 a180)), .q 10 1023 (V s4 a181), .q 11 2047 (V s5 (ci 0))])
 .ret)))))))))))))),
 [.tmp s4, .tmp s5]⟩
def L26 : LFun := ⟨[s0],
 (.seq (R [V s2 (.c (.b false))])
 (.seq (.seq (R [V s3 (ci 0)])
 (.block 0 (.loop (.seq (.seq (R [V s4 a3, V s5 a0, .o s6 (.lenV a5), .o s7 (.ilt a4 a6)])
 (.cond a7 .skip (.exit 0)))
 (.seq (.block 1 (.seq (R [V s10 a0, V s11 a3, .o s12 (.iaddr 1 a10 a11), .o s13 (.ld1 a12), .o s14 (.call 31 [a13]), .o s15 (.not a14)])
 (.cond a15 .bad .skip)))
 (R [V s8 a3, .o s9 (.iadd a8 (ci 1)), V s3 a9]))))))
 (.seq (R [V s2 (.c (.b true))])
 .ret))),
 [.tmp s2]⟩
def L27 : LFun := ⟨[s0, s1],
 (.seq (R [V s4 (.c (.s 0 0)), V s5 (ci 0)])
 (.seq (.draw 0 [.q 0 0 (V s17 a0), .q 1 1 (.o s18 (.nilc a17)), .q 2 3 (.o s19 (.faddr 0 a18)), .r 3 7 (.o s20 (.ld1 a19)), .q 4 0 (V s21 a1), .q 5 16 (.o s22 (.iaddr 1 a21 (ci 2))), .r 6 48 (.o s23 (.ld1 a22)), .s 7 127 (.o s24 (.call 47 [a20, a23])), .q 8 255 (V s6 a24)])
 (.seq (.seq (R [V s25 a6, .o s26 (.ilt a25 (ci 0))])
 (.cond a26 .bad .skip))
 (.seq (R [V s27 a0, .o s28 (.nilc a27), .o s29 (.faddr 1 a28), .o s30 (.ld1 a29), V s31 a6, .o s32 (.iaddr 5 a30 a31), .o s33 (.ldn 5 a32), .o s7 (.alloc [(.i .i64 0), (.i .i64 0), .sl0, .sl0, .sl0] 42), .n (.st 5 a7 a33)])
 (.seq (R [.o s35 (.ldn 5 a7), .o s36 (.call 48 [a35]), V s34 a36, .o s37 (.extract 0 a34), .o s38 (.extract 1 a34), .o s8 (.alloc [(.i .i64 0), (.i .i64 0), .sl0, .sl0, .sl0] 42), .n (.st 5 a8 a37), V s9 a38])
 (.seq (R [.o s40 (.ldn 5 a8), .o s41 (.call 49 [a40]), V s39 a41, .o s42 (.extract 0 a39), .o s43 (.extract 1 a39), .o s10 (.alloc [.sl0] 123), .n (.st 1 a10 a42), V s11 a43])
 (.seq (R [.o s45 (.ldn 1 a10), .o s46 (.call 50 [a45]), V s44 a46, .o s47 (.extract 0 a44), .o s48 (.extract 1 a44), V s12 a47, V s13 a48])
 (.seq (.seq (R [.o s49 (.faddr 0 a7), .o s50 (.ld1 a49), .o s51 (.faddr 1 a7), .o s52 (.ld1 a51), .o s53 (.eq true 0 a50 a52)])
 (.cond a53 .bad .skip))
 (.seq (R [.o s55 (.ldn 5 a7), V s56 a12, .o s57 (.call 51 [a55, a56]), V s54 a57, .o s58 (.extract 0 a54), .o s59 (.extract 1 a54), .o s60 (.extract 2 a54), .o s14 (.alloc [.sl0, .sl0, .sl0, .sl0] 57), .n (.st 4 a14 a58), V s15 a59, V s16 a60])
 (.seq (.seq (R [V s61 a16, .o s62 (.eq true 0 a61 (ci 0))])
 (.cond a62 .bad .skip))
 (.seq (.seq (.draw 0 [.q 0 0 (V s64 a0), .q 1 1 (.o s65 (.nilc a64)), .q 2 3 (.o s66 (.faddr 4 a65)), .r 3 7 (.o s67 (.ld1 a66)), .q 4 0 (V s68 a1), .q 5 16 (.o s69 (.iaddr 1 a68 (ci 1))), .r 6 48 (.o s70 (.ld1 a69)), .s 7 127 (.o s71 (.call 41 [a67, a70])), .q 8 255 (.o s72 (.not a71))])
 (.cond a72 (.seq (R [V s4 (.c (.s 0 0)), V s5 (ci 441)])
 .ret) .skip))
 (.seq (.draw 0 [.q 0 0 (V s73 a0), .q 1 0 (V s74 a1), .q 2 2 (.o s75 (.iaddr 1 a74 (ci 1))), .r 3 6 (.o s76 (.ld1 a75)), .r 4 0 (.o s77 (.ldn 4 a14)), .s 5 31 (.o s78 (.call 52 [a73, a76, a77]))])
 (.seq (.draw 1 [.q 0 0 (V s79 a0), .q 1 0 (V s80 a0), .q 2 2 (.o s81 (.nilc a80)), .q 3 6 (.o s82 (.faddr 6 a81)), .r 4 14 (.o s83 (.ld1 a82)), .r 5 0 (.o s84 (.ldn 5 a7)), .r 6 0 (.o s85 (.ldn 4 a14)), .q 7 96 (.o s86 (.build [(.i .i64 0), (.i .i64 0), (.i .i64 0), .sl0, .sl0, .sl0, .sl0, .sl0, (.i .i64 0), (.i .i64 0), .sl0, .sl0, (.i .i64 0), (.i .i64 0), .sl0, .sl0, .sl0, (.i .u64 0), (.i .i64 0), (.i .i64 0), (.i .i64 0), .sl0, .sl0, .sl0, .sl0, .sl0] [(0, 1, (ci 5)), (1, 5, a84), (22, 4, a85)])), .a 8 224 0 (.o s87 (.bslice 59 1 26 [(.i .i64 0), (.i .i64 0), (.i .i64 0), .sl0, .sl0, .sl0, .sl0, .sl0, (.i .i64 0), (.i .i64 0), .sl0, .sl0, (.i .i64 0), (.i .i64 0), .sl0, .sl0, .sl0, (.i .u64 0), (.i .i64 0), (.i .i64 0), (.i .i64 0), .sl0, .sl0, .sl0, .sl0, .sl0] [(0, 26, a86)])), .s 9 510 (.o s88 (.append 26 59 a83 a87)), .q 10 1023 (.o s89 (.nilc a79)), .q 11 2047 (.o s90 (.faddr 6 a89)), .s 12 4095 (.n (.st 1 a90 a88))])
 (.seq (.draw 0 [.q 0 0 (V s91 a1), .q 1 1 (.o s92 (.iaddr 1 a91 (ci 1))), .r 2 3 (.o s93 (.ld1 a92)), .q 3 7 (.o s94 (.sadd (.c (.s 7 9133022274347366)) a93)), .q 4 15 (.o s95 (.sadd a94 (.c (.s 1 32)))), .q 5 0 (.o s96 (.faddr 3 a14)), .r 6 32 (.o s97 (.ld1 a96)), .q 7 96 (.o s98 (.lenV a97)), .s 8 224 (.o s99 (.call 5 [a98])), .q 9 511 (.o s100 (.sadd a95 a99)), .q 10 1023 (V s4 a100), .q 11 2047 (V s5 (ci 0))])
 .ret)))))))))))))),
 [.tmp s4, .tmp s5]⟩
def L29 : LFun := ⟨[s0, s1],
 (.seq (R [V s4 (.c (.s 0 0)), V s5 (ci 0)])
 (.seq (.draw 0 [.q 0 0 (V s16 a0), .q 1 1 (.o s17 (.nilc a16)), .q 2 3 (.o s18 (.faddr 0 a17)), .r 3 7 (.o s19 (.ld1 a18)), .q 4 0 (V s20 a1), .q 5 16 (.o s21 (.iaddr 1 a20 (ci 1))), .r 6 48 (.o s22 (.ld1 a21)), .s 7 127 (.o s23 (.call 47 [a19, a22])), .q 8 255 (V s6 a23)])
 (.seq (.seq (R [V s24 a6, .o s25 (.ilt a24 (ci 0))])
 (.cond a25 (.seq (R [V s4 (.c (.s 0 0)), V s5 (ci 441)])
 .ret) .skip))
 (.seq (R [V s26 a0, .o s27 (.nilc a26), .o s28 (.faddr 1 a27), .o s29 (.ld1 a28), V s30 a6, .o s31 (.iaddr 5 a29 a30), .o s32 (.ldn 5 a31), .o s7 (.alloc [(.i .i64 0), (.i .i64 0), .sl0, .sl0, .sl0] 42), .n (.st 5 a7 a32)])
 (.seq (.seq (R [V s33 a1, .o s34 (.iaddr 1 a33 (ci 0)), .o s35 (.ld1 a34), .o s36 (.eq false 0 a35 (.c (.s 4 1802396018)))])
 (.cond a36 (.seq (R [.o s38 (.ldn 5 a7), .o s39 (.call 56 [a38]), V s37 a39, .o s40 (.extract 0 a37), .o s41 (.extract 1 a37), .o s8 (.alloc [(.i .i64 0), (.i .i64 0), .sl0, .sl0, .sl0] 50), .n (.st 5 a8 a40), V s9 a41])
 (.seq (.seq (R [V s42 a9, .o s43 (.eq true 0 a42 (ci 0))])
 (.cond a43 .bad .skip))
 (.seq (.draw 1 [.q 0 0 (V s45 a0), .q 1 0 (V s46 a0), .q 2 2 (.o s47 (.nilc a46)), .q 3 6 (.o s48 (.faddr 6 a47)), .r 4 14 (.o s49 (.ld1 a48)), .r 5 0 (.o s50 (.ldn 5 a7)), .r 6 0 (.o s51 (.ldn 5 a8)), .q 7 96 (.o s52 (.build [(.i .i64 0), (.i .i64 0), (.i .i64 0), .sl0, .sl0, .sl0, .sl0, .sl0, (.i .i64 0), (.i .i64 0), .sl0, .sl0, (.i .i64 0), (.i .i64 0), .sl0, .sl0, .sl0, (.i .u64 0), (.i .i64 0), (.i .i64 0), (.i .i64 0), .sl0, .sl0, .sl0, .sl0, .sl0] [(0, 1, (ci 2)), (1, 5, a50), (12, 5, a51)])), .a 8 224 0 (.o s53 (.bslice 59 1 26 [(.i .i64 0), (.i .i64 0), (.i .i64 0), .sl0, .sl0, .sl0, .sl0, .sl0, (.i .i64 0), (.i .i64 0), .sl0, .sl0, (.i .i64 0), (.i .i64 0), .sl0, .sl0, .sl0, (.i .u64 0), (.i .i64 0), (.i .i64 0), (.i .i64 0), .sl0, .sl0, .sl0, .sl0, .sl0] [(0, 26, a52)])), .s 9 510 (.o s54 (.append 26 59 a49 a53)), .q 10 1023 (.o s55 (.nilc a45)), .q 11 2047 (.o s56 (.faddr 6 a55)), .s 12 4095 (.n (.st 1 a56 a54))])
 (.seq (R [.o s57 (.faddr 0 a8), .o s58 (.ld1 a57), .o s59 (.call 5 [a58]), .o s60 (.sadd (.c (.s 5 139241349490)) a59), V s4 a60, V s5 (ci 0)])
 .ret)))) .skip))
 .bad))))),
 [.tmp s4, .tmp s5]⟩
def L31 : LFun := ⟨[s0],
 (.seq (R [V s2 (.c (.b false))])
 (.seq (.seq (R [V s4 a0, .o s5 (.lenS a4), .o s6 (.ilt a5 (ci 1)), V s7 a6, .g s7 false s8 (.mv a0), .g s7 false s9 (.lenS a8), .g s7 false s10 (.igt a9 (ci 16)), .o s11 (.pick a7 (.c (.b true)) a10), V s12 a11, .g s12 false s13 (.mv a0), .g s12 false s14 (.idxS a13 (ci 0)), .g s12 false s15 (.ilt a14 (.c (.i .u8 97))), .o s16 (.pick a12 (.c (.b true)) a15), V s17 a16, .g s17 false s18 (.mv a0), .g s17 false s19 (.idxS a18 (ci 0)), .g s17 false s20 (.igt a19 (.c (.i .u8 122))), .o s21 (.pick a17 (.c (.b true)) a20)])
 (.cond a21 .bad .skip))
 (.seq (.seq (R [V s3 (ci 0)])
 (.block 0 (.loop (.seq (.seq (R [V s22 a3, V s23 a0, .o s24 (.lenS a23), .o s25 (.ilt a22 a24)])
 (.cond a25 .skip (.exit 0)))
 (.seq (.block 1 (.seq (R [V s28 a0, V s29 a3, .o s30 (.idxS a28 a29), .o s31 (.ilt a30 (.c (.i .u8 97))), V s32 a31, .g s32 false s33 (.mv a0), .g s32 false s34 (.mv a3), .g s32 false s35 (.idxS a33 a34), .g s32 false s36 (.igt a35 (.c (.i .u8 122))), .o s37 (.pick a32 (.c (.b true)) a36), V s38 a37, .g s38 true s39 (.mv a0), .g s38 true s40 (.mv a3), .g s38 true s41 (.idxS a39 a40), .g s38 true s42 (.ilt a41 (.c (.i .u8 48))), .g s38 true s43 (.mv a42), .g s43 false s44 (.mv a0), .g s43 false s45 (.mv a3), .g s43 false s46 (.idxS a44 a45), .g s43 false s47 (.igt a46 (.c (.i .u8 57))), .g s38 true s48 (.pick a43 (.c (.b true)) a47), .o s49 (.pick a38 a48 (.c (.b false)))])
 (.cond a49 .bad .skip)))
 (R [V s26 a3, .o s27 (.iadd a26 (ci 1)), V s3 a27]))))))
 (.seq (R [V s2 (.c (.b true))])
 .ret)))),
 [.tmp s2]⟩
def L34 : LFun := ⟨[s0, s1],
 (.seq (R [V s4 (ci 0)])
 (.seq (R [V s14 a1, .o s15 (.lenS a14), V s5 a15])
 (.seq (.block 0 (.seq (R [V s17 a5, .o s18 (.eq false 0 a17 (ci 0)), V s19 a18, .g s19 false s20 (.mv a1), .g s19 false s21 (.mv a0), .g s19 false s22 (.eq false 0 a20 a21), .o s23 (.pick a19 (.c (.b true)) a22), V s16 a23])
 (.cond a16 .bad (.seq (R [V s25 a5, .o s26 (.eq false 0 a25 (ci 1)), V s24 a26])
 (.cond a24 (.seq (R [V s27 a0, V s28 a1, .o s29 (.idxS a28 (ci 0)), .o s30 (.call 62 [a27, a29]), V s4 a30])
 .ret) .bad)))))
 .bad))),
 [.tmp s4]⟩
def L36 : LFun := ⟨[s0, s1, s2, s3],
 (.seq (R [V s8 (.c .sl0)])
 (.seq (.seq (R [V s12 a3, .o s13 (.eq false 0 a12 (ci 0))])
 (.cond a13 .bad .skip))
 (.seq (.seq (R [V s14 a1, .o s15 (.eq false 0 a14 (.c (.s 0 0)))])
 (.cond a15 .bad .skip))
 (.seq (.seq (R [V s19 a3, .o s20 (.ilt a19 (ci 0))])
 (.cond a20 (R [V s21 a0, V s22 a1, .o s23 (.call 67 [a21, a22]), .o s24 (.iadd a23 (ci 1)), V s3 a24]) .skip))
 (.seq (R [V s25 a3, V s26 a0, .o s27 (.lenS a26), .o s28 (.iadd a27 (ci 1)), .o s29 (.imin a25 a28), V s3 a29])
 (.seq (R [V s30 a3, .o s31 (.mks 9 1 [(.s 0 0)] a30 a30), V s9 a31])
 (.seq (R [V s32 a3, .o s33 (.isub a32 (ci 1)), V s3 a33])
 (.seq (R [V s10 (ci 0)])
 (.seq (.block 0 (.loop (.seq (.seq (R [V s34 a10, V s35 a3, .o s36 (.ilt a34 a35)])
 (.cond a36 .skip (.exit 0)))
 (.block 1 (.seq (R [V s37 a0, V s38 a1, .o s39 (.call 68 [a37, a38]), V s11 a39])
 (.seq (.seq (R [V s40 a11, .o s41 (.ilt a40 (ci 0))])
 (.cond a41 (.exit 0) .skip))
 (.seq (R [V s42 a9, V s43 a10, V s44 a0, V s45 a11, V s46 a2, .o s47 (.iadd a45 a46), .o s48 (.slS a44 none (some a47)), .o s49 (.iaddr 1 a42 a43), .n (.st 1 a49 a48)])
 (.seq (R [V s50 a0, V s51 a11, V s52 a1, .o s53 (.lenS a52), .o s54 (.iadd a51 a53), .o s55 (.slS a50 (some a54) none), V s0 a55])
 (R [V s56 a10, .o s57 (.iadd a56 (ci 1)), V s10 a57])))))))))
 (.seq (R [V s58 a9, V s59 a10, V s60 a0, .o s61 (.iaddr 1 a58 a59), .n (.st 1 a61 a60)])
 (.seq (R [V s62 a9, V s63 a10, .o s64 (.iadd a63 (ci 1)), .o s65 (.slV 1 a62 none (some a64) none), V s8 a65])
 .ret))))))))))),
 [.tmp s8]⟩
def L37 : LFun := ⟨[],
 (.seq (R [V s0 (.c .sl0)])
 (.seq (R [.o s1 (.build [(.s 0 0), .f0] [(0, 1, (.c (.s 6 132394287128941))), (1, 1, (.c (.f 69 [] [])))]), .o s2 (.build [(.s 0 0), .f0] [(0, 1, (.c (.s 6 125823019607414))), (1, 1, (.c (.f 70 [] [])))]), .o s3 (.build [(.s 0 0), .f0] [(0, 1, (.c (.s 6 125823019606374))), (1, 1, (.c (.f 71 [] [])))]), .o s4 (.build [(.s 0 0), .f0] [(0, 1, (.c (.s 5 435778514803))), (1, 1, (.c (.f 72 [] [])))]), .o s5 (.build [(.s 0 0), .f0] [(0, 1, (.c (.s 6 111550524584053))), (1, 1, (.c (.f 73 [] [])))]), .o s6 (.build [(.s 0 0), .f0] [(0, 1, (.c (.s 3 7892834))), (1, 1, (.c (.f 74 [] [])))]), .o s7 (.build [(.s 0 0), .f0] [(0, 1, (.c (.s 5 500069396323))), (1, 1, (.c (.f 75 [] [])))]), .o s8 (.build [(.s 0 0), .f0] [(0, 1, (.c (.s 6 126879296744563))), (1, 1, (.c (.f 76 [] [])))]), .o s9 (.build [(.s 0 0), .f0] [(0, 1, (.c (.s 4 1802396018))), (1, 1, (.c (.f 77 [] [])))]), .o s10 (.build [(.s 0 0), .f0] [(0, 1, (.c (.s 4 1684959075))), (1, 1, (.c (.f 78 [] [])))]), .o s11 (.bslice 103 10 2 [(.s 0 0), .f0, (.s 0 0), .f0, (.s 0 0), .f0, (.s 0 0), .f0, (.s 0 0), .f0, (.s 0 0), .f0, (.s 0 0), .f0, (.s 0 0), .f0, (.s 0 0), .f0, (.s 0 0), .f0] [(0, 2, a1), (2, 2, a2), (4, 2, a3), (6, 2, a4), (8, 2, a5), (10, 2, a6), (12, 2, a7), (14, 2, a8), (16, 2, a9), (18, 2, a10)]), V s0 a11])
 .ret)),
 [.tmp s0]⟩
def L38 : LFun := ⟨[s0],
 (.seq (R [V s2 (.c (.s 0 0))])
 (.seq (R [V s3 a0, .o s4 (.call 79 [a3, (ci 10)]), V s2 a4])
 .ret)),
 [.tmp s2]⟩
def L39 : LFun := ⟨[s0, s1],
 (.seq (R [V s4 a0, .o s5 (.call 19 [a4])])
 (.seq (.seq (R [V s6 a1, .o s7 (.ilt a6 (ci 0))])
 (.cond a7 .bad .skip))
 (.seq (.draw 0 [.q 0 0 (V s9 a0), .q 1 1 (.o s10 (.nilc a9)), .q 2 3 (.o s11 (.faddr 1 a10)), .r 3 7 (.o s12 (.ld1 a11)), .q 4 15 (.o s13 (.cap a12)), .q 5 0 (V s14 a0), .q 6 32 (.o s15 (.nilc a14)), .q 7 96 (.o s16 (.faddr 1 a15)), .r 8 224 (.o s17 (.ld1 a16)), .q 9 480 (.o s18 (.lenV a17)), .q 10 1023 (.o s19 (.isub a13 a18)), .q 11 0 (V s20 a1), .q 12 4095 (.o s21 (.ilt a19 a20))])
 (.cond a21 (R [V s22 a0, V s23 a1, .o s24 (.call 80 [a22, a23])]) .skip)))),
 []⟩
def L40 : LFun := ⟨[s0],
 (.seq (R [V s2 (.c .sl0), V s3 (.c (.b false))])
 (.seq (R [V s4 (.c .sl0)])
 (.seq (.seq (R [V s5 (ci 0)])
 (.block 0 (.loop (.seq (.seq (R [V s8 a5, V s9 a0, .o s10 (.lenV a9), .o s11 (.ilt a8 a10)])
 (.cond a11 .skip (.exit 0)))
 (.seq (.block 1 (.seq (R [V s15 a0, V s16 a5, .o s17 (.iaddr 1 a15 a16), .o s18 (.ld1 a17), .o s19 (.call 44 [a18]), V s14 a19, .o s20 (.extract 0 a14), .o s21 (.extract 1 a14), V s6 a20, V s7 a21])
 (.seq (.seq (R [V s22 a7, .o s23 (.not a22)])
 (.cond a23 .bad .skip))
 (R [V s24 a4, V s25 a6, .o s26 (.bslice 52 1 1 [(.i .u64 0)] [(0, 1, a25)]), .o s27 (.append 1 52 a24 a26), V s4 a27]))))
 (R [V s12 a5, .o s13 (.iadd a12 (ci 1)), V s5 a13]))))))
 (.seq (R [V s28 a4, V s2 a28, V s3 (.c (.b true))])
 .ret)))),
 [.tmp s2, .tmp s3]⟩
def L41 : LFun := ⟨[s0, s1],
 (.seq (R [V s4 (.c (.b false))])
 (.seq (R [V s5 a0, V s6 a1, .o s7 (.call 47 [a5, a6]), .o s8 (.ige a7 (ci 0)), V s9 a8, .g s9 false s10 (.mv a0), .g s9 false s11 (.lenV a10), .g s9 false s12 (.ilt a11 (ci 16)), .o s13 (.pick a9 (.c (.b true)) a12), V s4 a13])
 .ret)),
 [.tmp s4]⟩
def L42 : LFun := ⟨[s0, s1, s2],
 (.seq (.seq (R [V s7 a0, .o s8 (.nilc a7), .o s9 (.faddr 2 a8), .o s10 (.ld1 a9), V s11 a1, .o s12 (.call 47 [a10, a11]), V s6 a12])
 (.seq (R [V s13 a6, .o s14 (.ige a13 (ci 0))])
 (.cond a14 (.seq (R [V s15 a0, .o s16 (.nilc a15), .o s17 (.faddr 3 a16), .o s18 (.ld1 a17), V s19 a6, V s20 a2, .o s21 (.iaddr 1 a18 a19), .n (.st 1 a21 a20)])
 .ret) .skip)))
 (.seq (R [V s22 a0, V s23 a0, .o s24 (.nilc a23), .o s25 (.faddr 2 a24), .o s26 (.ld1 a25), V s27 a1, .o s28 (.bslice 9 1 1 [(.s 0 0)] [(0, 1, a27)]), .o s29 (.append 1 9 a26 a28), .o s30 (.nilc a22), .o s31 (.faddr 2 a30), .n (.st 1 a31 a29)])
 (R [V s32 a0, V s33 a0, .o s34 (.nilc a33), .o s35 (.faddr 3 a34), .o s36 (.ld1 a35), V s37 a2, .o s38 (.bslice 40 1 1 [.sl0] [(0, 1, a37)]), .o s39 (.append 1 40 a36 a38), .o s40 (.nilc a32), .o s41 (.faddr 3 a40), .n (.st 1 a41 a39)]))),
 []⟩
def L43 : LFun := ⟨[s0],
 (.seq (R [V s2 (ci 0), V s3 (.c (.b false))])
 (.seq (.seq (R [V s6 a0, .o s7 (.lenS a6), .o s8 (.ilt a7 (ci 1)), V s9 a8, .g s9 false s10 (.mv a0), .g s9 false s11 (.lenS a10), .g s9 false s12 (.igt a11 (ci 9)), .o s13 (.pick a9 (.c (.b true)) a12), V s14 a13, .g s14 false s15 (.mv a0), .g s14 false s16 (.lenS a15), .g s14 false s17 (.igt a16 (ci 1)), .g s14 false s18 (.mv a17), .g s18 true s19 (.mv a0), .g s18 true s20 (.idxS a19 (ci 0)), .g s18 true s21 (.eq false 0 a20 (.c (.i .u8 48))), .g s14 false s22 (.pick a18 a21 (.c (.b false))), .o s23 (.pick a14 (.c (.b true)) a22)])
 (.cond a23 .bad .skip))
 (.seq (R [V s4 (ci 0)])
 (.seq (.seq (R [V s5 (ci 0)])
 (.block 0 (.loop (.seq (.seq (R [V s24 a5, V s25 a0, .o s26 (.lenS a25), .o s27 (.ilt a24 a26)])
 (.cond a27 .skip (.exit 0)))
 (.seq (.block 1 (.seq (.seq (R [V s30 a0, V s31 a5, .o s32 (.idxS a30 a31), .o s33 (.ilt a32 (.c (.i .u8 48))), V s34 a33, .g s34 false s35 (.mv a0), .g s34 false s36 (.mv a5), .g s34 false s37 (.idxS a35 a36), .g s34 false s38 (.igt a37 (.c (.i .u8 57))), .o s39 (.pick a34 (.c (.b true)) a38)])
 (.cond a39 .bad .skip))
 (R [V s40 a4, .o s41 (.imul (ci 10) a40), V s42 a0, V s43 a5, .o s44 (.idxS a42 a43), .o s45 (.isub a44 (.c (.i .u8 48))), .o s46 (.convI .i64 a45), .o s47 (.iadd a41 a46), V s4 a47])))
 (R [V s28 a5, .o s29 (.iadd a28 (ci 1)), V s5 a29]))))))
 (.seq (R [V s48 a4, V s2 a48, V s3 (.c (.b true))])
 .ret))))),
 [.tmp s2, .tmp s3]⟩
def L44 : LFun := ⟨[s0],
 (.seq (R [V s2 (.c (.i .u64 0)), V s3 (.c (.b false))])
 (.seq (R [V s7 a0, .o s8 (.call 81 [a7, (ci 0)]), V s6 a8, .o s9 (.extract 0 a6), .o s10 (.extract 1 a6), V s4 a9, V s5 a10])
 (.seq (R [V s11 a4, V s12 a5, .o s13 (.eq false 0 a12 (ci 0)), V s14 a13, .g s14 true s15 (.mv a4), .g s14 true s16 (.call 82 [a15]), .o s17 (.pick a14 a16 (.c (.b false))), V s2 a11, V s3 a17])
 .ret))),
 [.tmp s2, .tmp s3]⟩
def L45 : LFun := ⟨[s0, s1, s2],
 (.seq (R [.o s6 (.alloc [(.i .i64 0), (.i .i64 0), .sl0, .sl0, .sl0] 42), V s7 (ci 0)])
 (.seq (.seq (R [V s16 a0, .o s17 (.ilt a16 (ci 0)), V s18 a17, .g s18 false s19 (.mv a0), .g s18 false s20 (.igt a19 (ci 200)), .o s21 (.pick a18 (.c (.b true)) a20), V s22 a21, .g s22 false s23 (.mv a1), .g s22 false s24 (.ilt a23 (ci 0)), .o s25 (.pick a22 (.c (.b true)) a24), V s26 a25, .g s26 false s27 (.mv a1), .g s26 false s28 (.igt a27 (ci 200)), .o s29 (.pick a26 (.c (.b true)) a28), V s30 a29, .g s30 false s31 (.mv a2), .g s30 false s32 (.lenV a31), .g s30 false s33 (.igt a32 (ci 10000)), .o s34 (.pick a30 (.c (.b true)) a33)])
 (.cond a34 .bad .skip))
 (.seq (.seq (R [V s8 (ci 0)])
 (.block 0 (.loop (.seq (.seq (R [V s36 a8, V s37 a2, .o s38 (.lenV a37), .o s39 (.ilt a36 a38)])
 (.cond a39 .skip (.exit 0)))
 (.seq (.block 1 (.seq (R [V s42 a2, V s43 a8, .o s44 (.iaddr 3 a42 a43), .o s45 (.faddr 0 a44), .o s46 (.ld1 a45), .o s47 (.ilt a46 (ci 0)), V s48 a47, .g s48 false s49 (.mv a2), .g s48 false s50 (.mv a8), .g s48 false s51 (.iaddr 3 a49 a50), .g s48 false s52 (.faddr 0 a51), .g s48 false s53 (.ld1 a52), .g s48 false s54 (.mv a0), .g s48 false s55 (.ige a53 a54), .o s56 (.pick a48 (.c (.b true)) a55), V s57 a56, .g s57 false s58 (.mv a2), .g s57 false s59 (.mv a8), .g s57 false s60 (.iaddr 3 a58 a59), .g s57 false s61 (.faddr 1 a60), .g s57 false s62 (.ld1 a61), .g s57 false s63 (.ilt a62 (ci 0)), .o s64 (.pick a57 (.c (.b true)) a63), V s65 a64, .g s65 false s66 (.mv a2), .g s65 false s67 (.mv a8), .g s65 false s68 (.iaddr 3 a66 a67), .g s65 false s69 (.faddr 1 a68), .g s65 false s70 (.ld1 a69), .g s65 false s71 (.mv a1), .g s65 false s72 (.ige a70 a71), .o s73 (.pick a65 (.c (.b true)) a72)])
 (.cond a73 .bad .skip)))
 (R [V s40 a8, .o s41 (.iadd a40 (ci 1)), V s8 a41]))))))
 (.seq (.seq (R [V s9 (ci 0)])
 (.block 2 (.loop (.seq (.seq (R [V s75 a9, V s76 a2, .o s77 (.lenV a76), .o s78 (.ilt a75 a77)])
 (.cond a78 .skip (.exit 2)))
 (.seq (.block 3 (.seq (R [V s81 a2, V s82 a9, .o s83 (.iaddr 3 a81 a82), .o s84 (.faddr 2 a83), .o s85 (.ld1 a84), .o s86 (.call 82 [a85]), .o s87 (.not a86)])
 (.cond a87 .bad .skip)))
 (R [V s79 a9, .o s80 (.iadd a79 (ci 1)), V s9 a80]))))))
 (.seq (R [V s89 a0, V s90 a1, .o s91 (.imul a89 a90), .o s92 (.mks 40 1 [.sl0] a91 a91), V s10 a92])
 (.seq (.seq (R [V s11 (ci 0)])
 (.block 4 (.loop (.seq (.seq (R [V s93 a11, V s94 a2, .o s95 (.lenV a94), .o s96 (.ilt a93 a95)])
 (.cond a96 .skip (.exit 4)))
 (.seq (.block 5 (.seq (.draw 0 [.q 0 0 (V s99 a2), .q 1 0 (V s100 a11), .q 2 3 (.o s101 (.iaddr 3 a99 a100)), .q 3 7 (.o s102 (.faddr 1 a101)), .r 4 15 (.o s103 (.ld1 a102)), .q 5 0 (V s104 a0), .q 6 63 (.o s105 (.imul a103 a104)), .q 7 0 (V s106 a2), .q 8 0 (V s107 a11), .q 9 384 (.o s108 (.iaddr 3 a106 a107)), .q 10 896 (.o s109 (.faddr 0 a108)), .r 11 1920 (.o s110 (.ld1 a109)), .q 12 4095 (.o s111 (.iadd a105 a110)), .q 13 8191 (V s12 a111)])
 (.draw 1 [.q 0 0 (V s112 a10), .q 1 0 (V s113 a12), .q 2 0 (V s114 a10), .q 3 0 (V s115 a12), .q 4 12 (.o s116 (.iaddr 1 a114 a115)), .r 5 28 (.o s117 (.ld1 a116)), .q 6 0 (V s118 a2), .q 7 0 (V s119 a11), .q 8 192 (.o s120 (.iaddr 3 a118 a119)), .q 9 448 (.o s121 (.faddr 2 a120)), .r 10 960 (.o s122 (.ld1 a121)), .a 11 1984 0 (.o s123 (.bslice 52 1 1 [(.i .u64 0)] [(0, 1, a122)])), .s 12 4092 (.o s124 (.append 1 52 a117 a123)), .q 13 8191 (.o s125 (.iaddr 1 a112 a113)), .s 14 16383 (.n (.st 1 a125 a124))])))
 (R [V s97 a11, .o s98 (.iadd a97 (ci 1)), V s11 a98]))))))
 (.seq (R [V s126 a0, V s127 a1, .o s128 (.bslice 3 1 1 [(.i .i64 0)] [(0, 1, (ci 0))]), .o s129 (.build [(.i .i64 0), (.i .i64 0), .sl0, .sl0, .sl0] [(0, 1, a126), (1, 1, a127), (2, 1, a128)]), .o s13 (.alloc [(.i .i64 0), (.i .i64 0), .sl0, .sl0, .sl0] 42), .n (.st 5 a13 a129)])
 (.seq (.seq (R [V s14 (ci 0)])
 (.block 6 (.loop (.seq (.seq (R [V s130 a14, V s131 a10, .o s132 (.lenV a131), .o s133 (.ilt a130 a132)])
 (.cond a133 .skip (.exit 6)))
 (.seq (.block 7 (.seq (.seq (R [V s136 a10, V s137 a14, .o s138 (.iaddr 1 a136 a137), .o s139 (.ld1 a138), .o s140 (.lenV a139), .o s141 (.igt a140 (ci 0))])
 (.cond a141 (.seq (R [V s142 a10, V s143 a14, .o s144 (.iaddr 1 a142 a143), .o s145 (.ld1 a144), .o s146 (.call 84 [a145]), .o s147 (.call 83 [a146, (ci 0)]), V s15 a147])
 (.seq (.seq (R [V s148 a15, .o s149 (.call 82 [a148]), .o s150 (.not a149)])
 (.cond a150 .bad .skip))
 (.seq (.draw 1 [.q 0 0 (.o s152 (.faddr 3 a13)), .r 1 1 (.o s153 (.ld1 a152)), .q 2 0 (V s154 a14), .q 3 0 (V s155 a0), .q 4 12 (.o s156 (.irem a154 a155)), .a 5 28 0 (.o s157 (.bslice 3 1 1 [(.i .i64 0)] [(0, 1, a156)])), .s 6 63 (.o s158 (.append 1 3 a153 a157)), .q 7 127 (.o s159 (.faddr 3 a13)), .s 8 255 (.n (.st 1 a159 a158))])
 (R [.o s160 (.faddr 4 a13), .o s161 (.ld1 a160), V s162 a15, .o s163 (.bslice 52 1 1 [(.i .u64 0)] [(0, 1, a162)]), .o s164 (.append 1 52 a161 a163), .o s165 (.faddr 4 a13), .n (.st 1 a165 a164)])))) .skip))
 (.seq (R [V s166 a14, V s167 a0, .o s168 (.irem a166 a167), V s169 a0, .o s170 (.isub a169 (ci 1)), .o s171 (.eq false 0 a168 a170)])
 (.cond a171 (R [.o s172 (.faddr 2 a13), .o s173 (.ld1 a172), .o s174 (.faddr 3 a13), .o s175 (.ld1 a174), .o s176 (.lenV a175), .o s177 (.bslice 3 1 1 [(.i .i64 0)] [(0, 1, a176)]), .o s178 (.append 1 3 a173 a177), .o s179 (.faddr 2 a13), .n (.st 1 a179 a178)]) .skip))))
 (R [V s134 a14, .o s135 (.iadd a134 (ci 1)), V s14 a135]))))))
 (.seq (.block 8 (.loop (.seq (.seq (R [.o s180 (.faddr 2 a13), .o s181 (.ld1 a180), .o s182 (.lenV a181), V s183 a1, .o s184 (.iadd a183 (ci 1)), .o s185 (.ilt a182 a184)])
 (.cond a185 .skip (.exit 8)))
 .bad)))
 (.seq (R [.o s191 (.ldn 5 a13), .n (.st 5 a6 a191), V s7 (ci 0)])
 .ret)))))))))),
 [.cn s6 5, .tmp s7]⟩
def L46 : LFun := ⟨[s0, s1, s2],
 (.seq (R [.o s5 (.box 42 a2)])
 (.seq (.seq (R [V s7 a0, .o s8 (.nilc a7), .o s9 (.faddr 0 a8), .o s10 (.ld1 a9), V s11 a1, .o s12 (.call 47 [a10, a11]), V s6 a12])
 (.seq (R [V s13 a6, .o s14 (.ige a13 (ci 0))])
 (.cond a14 .bad .skip)))
 (.seq (R [V s22 a0, V s23 a0, .o s24 (.nilc a23), .o s25 (.faddr 0 a24), .o s26 (.ld1 a25), V s27 a1, .o s28 (.bslice 9 1 1 [(.s 0 0)] [(0, 1, a27)]), .o s29 (.append 1 9 a26 a28), .o s30 (.nilc a22), .o s31 (.faddr 0 a30), .n (.st 1 a31 a29)])
 (.draw 1 [.q 0 0 (V s32 a0), .q 1 0 (V s33 a0), .q 2 2 (.o s34 (.nilc a33)), .q 3 6 (.o s35 (.faddr 1 a34)), .r 4 14 (.o s36 (.ld1 a35)), .r 5 0 (.o s37 (.ldn 5 a5)), .a 6 32 0 (.o s38 (.bslice 42 1 5 [(.i .i64 0), (.i .i64 0), .sl0, .sl0, .sl0] [(0, 5, a37)])), .s 7 126 (.o s39 (.append 5 42 a36 a38)), .q 8 255 (.o s40 (.nilc a32)), .q 9 511 (.o s41 (.faddr 1 a40)), .s 10 1023 (.n (.st 1 a41 a39))])))),
 []⟩
def L47 : LFun := ⟨[s0, s1],
 (.seq (R [V s4 (ci 0)])
 (.seq (.seq (R [V s5 (ci 0)])
 (.block 0 (.loop (.seq (.seq (R [V s6 a5, V s7 a0, .o s8 (.lenV a7), .o s9 (.ilt a6 a8)])
 (.cond a9 .skip (.exit 0)))
 (.seq (.block 1 (.seq (R [V s12 a0, V s13 a5, .o s14 (.iaddr 1 a12 a13), .o s15 (.ld1 a14), V s16 a1, .o s17 (.eq false 0 a15 a16)])
 (.cond a17 (.seq (R [V s18 a5, V s4 a18])
 .ret) .skip)))
 (R [V s10 a5, .o s11 (.iadd a10 (ci 1)), V s5 a11]))))))
 (.seq (R [V s4 (ci 18446744073709551615)])
 .ret))),
 [.tmp s4]⟩
def L48 : LFun := ⟨[s0],
 (.seq (R [.o s1 (.box 42 a0), .o s2 (.alloc [(.i .i64 0), (.i .i64 0), .sl0, .sl0, .sl0] 42), V s3 (ci 0)])
 (.seq (.seq (R [.o s8 (.ldn 5 a1), .o s9 (.call 85 [a8]), V s4 a9])
 (.seq (R [V s10 a4, .o s11 (.eq true 0 a10 (ci 0))])
 (.cond a11 .bad .skip)))
 (.seq (R [V s5 (.c .sl0)])
 (.seq (R [.o s14 (.ldn 5 a1), .o s15 (.call 86 [a14]), V s6 a15])
 (.seq (.seq (R [V s7 (ci 0)])
 (.block 0 (.loop (.seq (.seq (R [V s16 a7, V s17 a6, .o s18 (.lenV a17), .o s19 (.ilt a16 a18)])
 (.cond a19 .skip (.exit 0)))
 (.seq (.block 1 (.seq (.draw 0 [.q 0 0 (V s22 a6), .q 1 0 (V s23 a7), .q 2 3 (.o s24 (.iaddr 3 a22 a23)), .q 3 7 (.o s25 (.faddr 0 a24)), .r 4 15 (.o s26 (.ld1 a25)), .q 5 0 (V s27 a6), .q 6 0 (V s28 a7), .q 7 96 (.o s29 (.iaddr 3 a27 a28)), .q 8 224 (.o s30 (.faddr 1 a29)), .r 9 480 (.o s31 (.ld1 a30)), .q 10 1023 (.o s32 (.ige a26 a31))])
 (.cond a32 (R [V s33 a5, V s34 a6, V s35 a7, .o s36 (.iaddr 3 a34 a35), .o s37 (.ldn 3 a36), .o s38 (.bslice 115 1 3 [(.i .i64 0), (.i .i64 0), (.i .u64 0)] [(0, 3, a37)]), .o s39 (.append 3 115 a33 a38), V s5 a39]) .skip)))
 (R [V s20 a7, .o s21 (.iadd a20 (ci 1)), V s7 a21]))))))
 (.seq (R [.o s40 (.faddr 0 a1), .o s41 (.ld1 a40), .o s42 (.faddr 1 a1), .o s43 (.ld1 a42), V s44 a5, .o s45 (.call 87 [a41, a43, a44]), .n (.st 5 a2 a45), V s3 (ci 0)])
 .ret)))))),
 [.cn s2 5, .tmp s3]⟩
def L49 : LFun := ⟨[s0],
 (.seq (R [.o s1 (.box 42 a0), .o s2 (.alloc [.sl0] 123), V s3 (ci 0)])
 (.seq (.seq (R [.o s8 (.ldn 5 a1), .o s9 (.call 85 [a8]), V s4 a9])
 (.seq (R [V s10 a4, .o s11 (.eq true 0 a10 (ci 0))])
 (.cond a11 .bad .skip)))
 (.seq (.seq (R [.o s14 (.faddr 0 a1), .o s15 (.ld1 a14), .o s16 (.faddr 1 a1), .o s17 (.ld1 a16), .o s18 (.eq true 0 a15 a17)])
 (.cond a18 .bad .skip))
 (.seq (R [.o s20 (.faddr 0 a1), .o s21 (.ld1 a20), .o s22 (.call 88 [a21]), V s5 a22])
 (.seq (R [.o s23 (.ldn 5 a1), .o s24 (.call 86 [a23]), V s6 a24])
 (.seq (.seq (R [V s7 (ci 0)])
 (.block 0 (.loop (.seq (.seq (R [V s25 a7, V s26 a6, .o s27 (.lenV a26), .o s28 (.ilt a25 a27)])
 (.cond a28 .skip (.exit 0)))
 (.seq (.block 1 (.draw 0 [.q 0 0 (V s31 a5), .q 1 0 (V s32 a6), .q 2 0 (V s33 a7), .q 3 6 (.o s34 (.iaddr 3 a32 a33)), .q 4 14 (.o s35 (.faddr 0 a34)), .r 5 30 (.o s36 (.ld1 a35)), .q 6 63 (.o s37 (.iaddr 1 a31 a36)), .r 7 127 (.o s38 (.ld1 a37)), .q 8 0 (V s39 a6), .q 9 0 (V s40 a7), .q 10 768 (.o s41 (.iaddr 3 a39 a40)), .q 11 1792 (.o s42 (.faddr 1 a41)), .r 12 3840 (.o s43 (.ld1 a42)), .q 13 8191 (.o s44 (.iaddr 1 a38 a43)), .s 14 16383 (.n (.st 1 a44 (.c (.b true))))]))
 (R [V s29 a7, .o s30 (.iadd a29 (ci 1)), V s7 a30]))))))
 (.seq (R [V s45 a5, .o s46 (.call 89 [a45]), .n (.st 1 a2 a46), V s3 (ci 0)])
 .ret))))))),
 [.cn s2 1, .tmp s3]⟩
def L50 : LFun := ⟨[s0],
 (.seq (R [.o s1 (.box 123 a0), V s2 (.c .sl0), V s3 (ci 0)])
 (.seq (.seq (R [.o s7 (.ldn 1 a1), .o s8 (.call 90 [a7]), V s4 a8])
 (.seq (R [V s9 a4, .o s10 (.eq true 0 a9 (ci 0))])
 (.cond a10 .bad .skip)))
 (.seq (R [.o s13 (.ldn 1 a1), .o s14 (.call 91 [a13]), V s12 a14, .o s15 (.extract 0 a12), .o s16 (.extract 1 a12), V s5 a15, V s6 a16])
 (.seq (R [V s17 a5, V s2 a17, V s3 (ci 0)])
 .ret)))),
 [.tmp s2, .tmp s3]⟩
def L51 : LFun := ⟨[s0, s1],
 (.seq (R [.o s2 (.box 42 a0), .o s4 (.alloc [.sl0, .sl0, .sl0, .sl0] 57), V s5 (ci 0), V s6 (ci 0)])
 (.seq (.seq (R [.o s21 (.ldn 5 a2), V s22 a1, .o s23 (.call 92 [a21, a22]), V s7 a23])
 (.seq (R [V s24 a7, .o s25 (.eq true 0 a24 (ci 0))])
 (.cond a25 .bad .skip)))
 (.seq (R [.o s28 (.faddr 0 a2), .o s29 (.ld1 a28), V s8 a29])
 (.seq (R [.o s31 (.ldn 5 a2), V s32 a1, .o s33 (.call 94 [a31, a32]), .o s34 (.call 93 [a33]), V s30 a34, .o s35 (.extract 0 a30), .o s36 (.extract 1 a30), V s9 a35, V s10 a36])
 (.seq (R [V s37 a8, .o s38 (.mks 40 1 [.sl0] a37 a37), V s11 a38])
 (.seq (.seq (R [V s12 (ci 0)])
 (.block 0 (.loop (.seq (.seq (R [V s39 a12, V s40 a8, .o s41 (.ilt a39 a40)])
 (.cond a41 .skip (.exit 0)))
 (.seq (.block 1 (R [V s44 a11, V s45 a12, V s46 a8, .o s47 (.mks 52 1 [(.i .u64 0)] a46 a46), .o s48 (.iaddr 1 a44 a45), .n (.st 1 a48 a47)]))
 (R [V s42 a12, .o s43 (.iadd a42 (ci 1)), V s12 a43]))))))
 (.seq (R [.o s49 (.bslice 3 0 1 [] []), V s50 a1, .o s51 (.append 1 3 a49 a50), .o s52 (.bslice 3 1 1 [(.i .i64 0)] [(0, 1, (ci 0))]), .o s53 (.build [.sl0, .sl0, .sl0, .sl0] [(0, 1, a51), (1, 1, a52)]), .o s13 (.alloc [.sl0, .sl0, .sl0, .sl0] 57), .n (.st 4 a13 a53)])
 (.seq (.seq (R [V s14 (ci 0)])
 (.block 2 (.loop (.seq (.seq (R [V s54 a14, V s55 a8, .o s56 (.ilt a54 a55)])
 (.cond a56 .skip (.exit 2)))
 (.seq (.block 3 (.seq (.seq (R [V s15 (ci 0)])
 (.block 4 (.loop (.seq (.seq (R [V s59 a15, V s60 a9, V s61 a14, .o s62 (.iaddr 1 a60 a61), .o s63 (.ld1 a62), .o s64 (.lenV a63), .o s65 (.ilt a59 a64)])
 (.cond a65 .skip (.exit 4)))
 (.seq (.block 5 (.seq (R [V s68 a9, V s69 a14, .o s70 (.iaddr 1 a68 a69), .o s71 (.ld1 a70), V s72 a15, .o s73 (.iaddr 1 a71 a72), .o s74 (.ld1 a73), V s16 a74])
 (.seq (R [.o s75 (.ldn 5 a2), V s76 a1, V s77 a16, V s78 a14, .o s79 (.call 95 [a75, a76, a77, a78]), .o s80 (.bslice 165 1 4 [(.b false), (.b false), .sl0, (.i .i64 0)] [(0, 4, a79)]), V s17 a80])
 (.seq (.seq (R [V s18 (ci 0)])
 (.block 6 (.loop (.seq (.seq (R [V s81 a18, V s82 a14, .o s83 (.ilt a81 a82)])
 (.cond a83 .skip (.exit 6)))
 .bad))))
 (.seq (R [V s105 a17, .o s106 (.call 98 [a105]), .o s19 (.alloc [(.b false), (.b false), .sl0, (.i .i64 0)] 165), .n (.st 4 a19 a106)])
 (.seq (R [V s20 (.c (.i .u64 0))])
 (.seq (.seq (R [V s107 a16, V s108 a14, .o s109 (.eq false 0 a107 a108)])
 (.cond a109 (.seq (R [.o s110 (.ldn 4 a19), .o s111 (.call 99 [a110]), V s20 a111])
 (.seq (R [.o s112 (.ldn 4 a19), .o s113 (.call 100 [a112]), .o s114 (.ile a113 (ci 0)), V s115 a114, .g s115 false s116 (.mv a20), .g s115 false s117 (.call 101 [a116]), .o s118 (.pick a115 (.c (.b true)) a117)])
 (.cond a118 .bad .skip))) .bad))
 (.seq (.seq (R [V s131 a20, .o s132 (.call 82 [a131]), .o s133 (.not a132)])
 (.cond a133 .bad .skip))
 (.seq (R [V s135 a11, V s136 a14, .o s137 (.iaddr 1 a135 a136), .o s138 (.ld1 a137), V s139 a16, V s140 a20, .o s141 (.iaddr 1 a138 a139), .n (.st 1 a141 a140)])
 (.seq (R [.o s142 (.faddr 2 a13), .o s143 (.ld1 a142), V s144 a16, .o s145 (.bslice 3 1 1 [(.i .i64 0)] [(0, 1, a144)]), .o s146 (.append 1 3 a143 a145), .o s147 (.faddr 2 a13), .n (.st 1 a147 a146)])
 (R [.o s148 (.faddr 3 a13), .o s149 (.ld1 a148), V s150 a20, .o s151 (.bslice 52 1 1 [(.i .u64 0)] [(0, 1, a150)]), .o s152 (.append 1 52 a149 a151), .o s153 (.faddr 3 a13), .n (.st 1 a153 a152)])))))))))))
 (R [V s66 a15, .o s67 (.iadd a66 (ci 1)), V s15 a67]))))))
 (R [.o s154 (.faddr 1 a13), .o s155 (.ld1 a154), .o s156 (.faddr 2 a13), .o s157 (.ld1 a156), .o s158 (.lenV a157), .o s159 (.bslice 3 1 1 [(.i .i64 0)] [(0, 1, a158)]), .o s160 (.append 1 3 a155 a159), .o s161 (.faddr 1 a13), .n (.st 1 a161 a160)])))
 (R [V s57 a14, .o s58 (.iadd a57 (ci 1)), V s14 a58]))))))
 (.seq (R [.o s162 (.ldn 4 a13), V s163 a8, .n (.st 4 a4 a162), V s5 a163, V s6 (ci 0)])
 .ret))))))))),
 [.cn s4 4, .tmp s5, .tmp s6]⟩
def L52 : LFun := ⟨[s0, s1, s2],
 (.seq (R [.o s5 (.box 57 a2)])
 (.seq (.seq (R [V s7 a0, .o s8 (.nilc a7), .o s9 (.faddr 4 a8), .o s10 (.ld1 a9), V s11 a1, .o s12 (.call 47 [a10, a11]), V s6 a12])
 (.seq (R [V s13 a6, .o s14 (.ige a13 (ci 0))])
 (.cond a14 .bad .skip)))
 (.seq (R [V s22 a0, V s23 a0, .o s24 (.nilc a23), .o s25 (.faddr 4 a24), .o s26 (.ld1 a25), V s27 a1, .o s28 (.bslice 9 1 1 [(.s 0 0)] [(0, 1, a27)]), .o s29 (.append 1 9 a26 a28), .o s30 (.nilc a22), .o s31 (.faddr 4 a30), .n (.st 1 a31 a29)])
 (.draw 1 [.q 0 0 (V s32 a0), .q 1 0 (V s33 a0), .q 2 2 (.o s34 (.nilc a33)), .q 3 6 (.o s35 (.faddr 5 a34)), .r 4 14 (.o s36 (.ld1 a35)), .r 5 0 (.o s37 (.ldn 4 a5)), .a 6 32 0 (.o s38 (.bslice 57 1 4 [.sl0, .sl0, .sl0, .sl0] [(0, 4, a37)])), .s 7 126 (.o s39 (.append 4 57 a36 a38)), .q 8 255 (.o s40 (.nilc a32)), .q 9 511 (.o s41 (.faddr 5 a40)), .s 10 1023 (.n (.st 1 a41 a39))])))),
 []⟩
def L56 : LFun := ⟨[s0],
 (.seq (R [.o s1 (.box 42 a0), .o s2 (.alloc [(.i .i64 0), (.i .i64 0), .sl0, .sl0, .sl0] 50), V s3 (ci 0)])
 (.seq (R [.o s15 (.ldn 5 a1), .o s16 (.call 116 [a15]), V s14 a16, .o s17 (.extract 0 a14), .o s18 (.extract 1 a14), .o s19 (.extract 2 a14), V s4 a17, V s5 a18, V s6 a19])
 (.seq (.seq (R [V s20 a6, .o s21 (.eq true 0 a20 (ci 0))])
 (.cond a21 .bad .skip))
 (.seq (R [V s24 a4, .o s25 (.faddr 1 a1), .o s26 (.ld1 a25), .o s27 (.call 117 [a24, a26]), V s7 a27])
 (.seq (R [.o s28 (.faddr 1 a1), .o s29 (.ld1 a28), V s30 a7, .o s31 (.lenV a30), .o s32 (.isub a29 a31), V s8 a32])
 (.seq (R [.o s33 (.call 118 [(ci 2147483648), (ci 5)]), V s9 a33])
 (.seq (.seq (R [V s10 (ci 0)])
 (.block 0 (.loop (.seq (.seq (R [V s34 a10, V s35 a9, .o s36 (.lenV a35), .o s37 (.ilt a34 a36)])
 (.cond a37 .skip (.exit 0)))
 (.seq (.block 1 (.seq (R [V s40 a4, V s41 a9, V s42 a10, .o s43 (.iaddr 1 a41 a42), .o s44 (.ld1 a43), .o s45 (.call 119 [a40, a44]), V s11 a45])
 (.seq (.draw 0 [.q 0 0 (V s46 a11), .q 1 0 (.o s47 (.faddr 1 a1)), .r 2 2 (.o s48 (.ld1 a47)), .q 3 0 (V s49 a9), .q 4 0 (V s50 a10), .q 5 24 (.o s51 (.iaddr 1 a49 a50)), .r 6 56 (.o s52 (.ld1 a51)), .s 7 127 (.o s53 (.call 120 [a46, a48, a52])), .q 8 255 (V s12 a53)])
 (.seq (.seq (R [V s54 a12, .o s55 (.lenV a54), V s56 a8, .o s57 (.eq true 0 a55 a56)])
 (.cond a57 (.exit 1) .skip))
 (.seq (.draw 0 [.q 0 0 (V s58 a11), .q 1 0 (.o s59 (.faddr 1 a1)), .r 2 2 (.o s60 (.ld1 a59)), .q 4 0 (.o s62 (.faddr 0 a1)), .r 5 16 (.o s63 (.ld1 a62)), .q 6 0 (V s64 a9), .q 7 0 (V s65 a10), .q 8 192 (.o s66 (.iaddr 1 a64 a65)), .r 9 448 (.o s67 (.ld1 a66)), .s 3 7 (.o s61 (.call 121 [a58, a60])), .s 10 1023 (.o s68 (.call 120 [a61, a63, a67])), .q 11 2047 (V s13 a68)])
 (.seq (R [V s69 a8, V s70 a9, V s71 a10, .o s72 (.iaddr 1 a70 a71), .o s73 (.ld1 a72), V s74 a13, V s75 a12, V s76 a7, .o s77 (.build [(.i .i64 0), (.i .i64 0), .sl0, .sl0, .sl0] [(0, 1, a69), (1, 1, a73), (2, 1, a74), (3, 1, a75), (4, 1, a76)]), .n (.st 5 a2 a77), V s3 (ci 0)])
 .ret))))))
 .bad)))))
 .bad))))))),
 [.cn s2 5, .tmp s3]⟩
def L62 : LFun := ⟨[s0, s1],
 (.seq (R [V s4 (ci 0)])
 (.seq (R [V s5 a0, V s6 a1, .o s7 (.call 136 [a5, a6]), V s4 a7])
 .ret)),
 [.tmp s4]⟩
def L67 : LFun := ⟨[s0, s1],
 (.seq (R [V s4 (ci 0)])
 (.seq (.seq (R [V s7 a1, .o s8 (.lenS a7), .o s9 (.eq false 0 a8 (ci 0))])
 (.cond a9 .bad .skip))
 (.seq (.seq (R [V s13 a1, .o s14 (.lenS a13), .o s15 (.eq false 0 a14 (ci 1))])
 (.cond a15 (.seq (R [V s16 a0, V s17 a1, .o s18 (.idxS a17 (ci 0)), .o s19 (.call 140 [a16, a18]), V s4 a19])
 .ret) .skip))
 .bad))),
 [.tmp s4]⟩
def L68 : LFun := ⟨[s0, s1],
 (.seq (R [V s4 (ci 0)])
 (.seq (R [V s5 a0, V s6 a1, .o s7 (.call 34 [a5, a6]), V s4 a7])
 .ret)),
 [.tmp s4]⟩
def L69 : LFun := ⟨[s0, s1],
 (.seq (R [.o s2 (.box 30 a0), .o s3 (.box 77 a1), .o s4 (.alloc [.sl0, (.i .i64 0), (.i .i64 0), (.i .i64 0), .sl0, .sl0, .sl0, .sl0, .sl0, (.i .i64 0), (.i .i64 0), .sl0, .sl0, (.i .i64 0), (.i .i64 0), .sl0, .sl0, .sl0, (.i .u64 0), (.i .i64 0), (.i .i64 0), (.i .i64 0), .sl0, .sl0, .sl0, .sl0, .sl0, .f0, (.b false)] 86), V s5 (ci 0)])
 (.seq (.seq (R [.o s17 (.ld1 a3), .o s18 (.lenV a17), .o s19 (.ilt a18 (ci 3)), V s20 a19, .g s20 false s21 (.ld1 a3), .g s20 false s22 (.lenV a21), .g s20 false s23 (.irem a22 (ci 3)), .g s20 false s24 (.eq true 0 a23 (ci 0)), .o s25 (.pick a20 (.c (.b true)) a24), V s26 a25, .g s26 false s27 (.ld1 a3), .g s26 false s28 (.iaddr 1 a27 (ci 0)), .g s26 false s29 (.ld1 a28), .g s26 false s30 (.call 141 [a29]), .g s26 false s31 (.not a30), .o s32 (.pick a26 (.c (.b true)) a31)])
 (.cond a32 .bad .skip))
 (.seq (R [.o s35 (.ld1 a3), .o s36 (.slV 1 a35 (some (ci 1)) (some (ci 3)) none), .o s37 (.call 142 [a36]), V s34 a37, .o s38 (.extract 0 a34), .o s39 (.extract 1 a34), V s6 a38, V s7 a39])
 (.seq (.seq (R [V s40 a7, .o s41 (.not a40)])
 (.cond a41 .bad .skip))
 (.seq (R [V s8 (.c .sl0)])
 (.seq (.seq (R [V s9 (ci 3)])
 (.block 0 (.loop (.seq (.seq (R [V s43 a9, .o s44 (.ld1 a3), .o s45 (.lenV a44), .o s46 (.ilt a43 a45)])
 (.cond a46 .skip (.exit 0)))
 (.seq (.block 1 (.seq (R [.o s50 (.ld1 a3), V s51 a9, V s52 a9, .o s53 (.iadd a52 (ci 2)), .o s54 (.slV 1 a50 (some a51) (some a53) none), .o s55 (.call 142 [a54]), V s49 a55, .o s56 (.extract 0 a49), .o s57 (.extract 1 a49), V s10 a56, V s11 a57])
 (.seq (R [.o s59 (.ld1 a3), V s60 a9, .o s61 (.iadd a60 (ci 2)), V s62 a9, .o s63 (.iadd a62 (ci 3)), .o s64 (.slV 1 a59 (some a61) (some a63) none), .o s65 (.call 143 [a64]), V s58 a65, .o s66 (.extract 0 a58), .o s67 (.extract 1 a58), V s12 a66, V s13 a67])
 (.seq (.seq (R [V s68 a11, .o s69 (.not a68), V s70 a69, .g s70 false s71 (.mv a13), .g s70 false s72 (.not a71), .o s73 (.pick a70 (.c (.b true)) a72)])
 (.cond a73 .bad .skip))
 (.draw 1 [.q 0 0 (V s75 a8), .q 1 0 (V s76 a10), .q 2 2 (.o s77 (.iaddr 1 a76 (ci 0))), .r 3 6 (.o s78 (.ld1 a77)), .q 4 0 (V s79 a10), .q 5 16 (.o s80 (.iaddr 1 a79 (ci 1))), .r 6 48 (.o s81 (.ld1 a80)), .q 7 0 (V s82 a12), .q 8 128 (.o s83 (.iaddr 1 a82 (ci 0))), .r 9 384 (.o s84 (.ld1 a83)), .q 10 1022 (.o s85 (.build [(.i .i64 0), (.i .i64 0), (.i .u64 0)] [(0, 1, a78), (1, 1, a81), (2, 1, a84)])), .a 11 2046 0 (.o s86 (.bslice 115 1 3 [(.i .i64 0), (.i .i64 0), (.i .u64 0)] [(0, 3, a85)])), .s 12 4095 (.o s87 (.append 3 115 a75 a86)), .q 13 8191 (V s8 a87)])))))
 (R [V s47 a9, .o s48 (.iadd a47 (ci 3)), V s9 a48]))))))
 (.seq (.draw 1 [.q 0 0 (V s89 a6), .q 1 1 (.o s90 (.iaddr 1 a89 (ci 0))), .r 2 3 (.o s91 (.ld1 a90)), .q 3 0 (V s92 a6), .q 4 8 (.o s93 (.iaddr 1 a92 (ci 1))), .r 5 24 (.o s94 (.ld1 a93)), .q 6 0 (V s95 a8), .a 11 0 0 (.o s14 (.alloc [(.i .i64 0), (.i .i64 0), .sl0, .sl0, .sl0] 42)), .s 7 127 (.o s96 (.call 144 [a91, a94, a95])), .q 8 255 (V s88 a96), .q 9 511 (.o s97 (.extract 0 a88)), .q 10 511 (.o s98 (.extract 1 a88)), .s 12 3071 (.n (.st 5 a14 a97)), .q 13 8191 (V s15 a98)])
 (.seq (.seq (R [V s99 a15, .o s100 (.eq true 0 a99 (ci 0))])
 (.cond a100 .bad .skip))
 (.seq (R [.o s103 (.mkf 145 [] [a14, a2, a3]), V s16 a103])
 (.seq (.draw 1 [.r 0 0 (.o s104 (.ld1 a3)), .q 1 1 (.o s105 (.iaddr 1 a104 (ci 0))), .r 2 3 (.o s106 (.ld1 a105)), .q 3 0 (.o s107 (.faddr 3 a14)), .r 4 8 (.o s108 (.ld1 a107)), .q 5 24 (.o s109 (.lenV a108)), .q 8 0 (V s112 a16), .r 9 0 (.o s113 (.ld1 a2)), .q 10 512 (.o s114 (.nilc a113)), .q 11 1536 (.o s115 (.faddr 0 a114)), .r 12 3584 (.o s116 (.ld1 a115)), .r 13 0 (.o s117 (.ld1 a3)), .q 14 8192 (.o s118 (.iaddr 1 a117 (ci 0))), .r 15 24576 (.o s119 (.ld1 a118)), .s 6 56 (.o s110 (.call 22 [a109])), .a 7 127 0 (.o s111 (.bslice 9 2 1 [(.s 0 0), (.s 0 0)] [(0, 1, a106), (1, 1, a110)])), .s 16 65144 (.o s120 (.call 146 [a116, a119])), .q 17 131071 (.o s121 (.build [.sl0, (.i .i64 0), (.i .i64 0), (.i .i64 0), .sl0, .sl0, .sl0, .sl0, .sl0, (.i .i64 0), (.i .i64 0), .sl0, .sl0, (.i .i64 0), (.i .i64 0), .sl0, .sl0, .sl0, (.i .u64 0), (.i .i64 0), (.i .i64 0), (.i .i64 0), .sl0, .sl0, .sl0, .sl0, .sl0, .f0, (.b false)] [(0, 1, a111), (27, 1, a112), (28, 1, a120)])), .s 18 262143 (.n (.st 29 a4 a121)), .q 19 524287 (V s5 (ci 0))])
 .ret)))))))))),
 [.cn s4 29, .tmp s5]⟩
def L70 : LFun := ⟨[s0, s1],
 (.seq (R [.o s4 (.alloc [.sl0, (.i .i64 0), (.i .i64 0), (.i .i64 0), .sl0, .sl0, .sl0, .sl0, .sl0, (.i .i64 0), (.i .i64 0), .sl0, .sl0, (.i .i64 0), (.i .i64 0), .sl0, .sl0, .sl0, (.i .u64 0), (.i .i64 0), (.i .i64 0), (.i .i64 0), .sl0, .sl0, .sl0, .sl0, .sl0, .f0, (.b false)] 86), V s5 (ci 0)])
 (.seq (.seq (R [V s8 a1, .o s9 (.lenV a8), .o s10 (.ilt a9 (ci 1)), V s11 a10, .g s11 false s12 (.mv a1), .g s11 false s13 (.iaddr 1 a12 (ci 0)), .g s11 false s14 (.ld1 a13), .g s11 false s15 (.call 141 [a14]), .g s11 false s16 (.not a15), .o s17 (.pick a11 (.c (.b true)) a16)])
 (.cond a17 .bad .skip))
 (.seq (R [V s20 a1, .o s21 (.slV 1 a20 (some (ci 1)) none none), .o s22 (.call 143 [a21]), V s19 a22, .o s23 (.extract 0 a19), .o s24 (.extract 1 a19), V s6 a23, V s7 a24])
 (.seq (.seq (R [V s25 a7, .o s26 (.not a25)])
 (.cond a26 .bad .skip))
 (.seq (.draw 1 [.q 0 0 (V s28 a0), .q 1 0 (V s29 a1), .q 2 2 (.o s30 (.iaddr 1 a29 (ci 0))), .r 3 6 (.o s31 (.ld1 a30)), .q 4 0 (V s32 a6), .q 5 0 (V s33 a6), .q 6 32 (.o s34 (.lenV a33)), .s 7 96 (.o s35 (.call 22 [a34])), .a 8 224 0 (.o s36 (.bslice 9 1 1 [(.s 0 0)] [(0, 1, a35)])), .s 9 511 (.o s37 (.call 147 [a28, a31, a32, a36])), .s 10 1023 (.n (.st 29 a4 a37)), .q 11 2047 (V s5 (ci 0))])
 .ret))))),
 [.cn s4 29, .tmp s5]⟩
def L71 : LFun := ⟨[s0, s1],
 (.seq (R [.o s4 (.alloc [.sl0, (.i .i64 0), (.i .i64 0), (.i .i64 0), .sl0, .sl0, .sl0, .sl0, .sl0, (.i .i64 0), (.i .i64 0), .sl0, .sl0, (.i .i64 0), (.i .i64 0), .sl0, .sl0, .sl0, (.i .u64 0), (.i .i64 0), (.i .i64 0), (.i .i64 0), .sl0, .sl0, .sl0, .sl0, .sl0, .f0, (.b false)] 86), V s5 (ci 0)])
 (.seq (.seq (R [V s11 a1, .o s12 (.call 148 [a11, (ci 2)]), .o s13 (.not a12)])
 (.cond a13 .bad .skip))
 (.seq (.draw 1 [.q 0 0 (V s16 a0), .q 1 1 (.o s17 (.nilc a16)), .q 2 3 (.o s18 (.faddr 0 a17)), .r 3 7 (.o s19 (.ld1 a18)), .q 4 0 (V s20 a1), .q 5 16 (.o s21 (.iaddr 1 a20 (ci 1))), .r 6 48 (.o s22 (.ld1 a21)), .a 11 0 0 (.o s6 (.alloc [(.i .i64 0), (.i .i64 0), .sl0, .sl0, .sl0] 42)), .s 7 127 (.o s23 (.call 149 [a19, a22])), .q 8 255 (V s15 a23), .q 9 511 (.o s24 (.extract 0 a15)), .q 10 511 (.o s25 (.extract 1 a15)), .s 12 3071 (.n (.st 5 a6 a24)), .q 13 8191 (V s7 a25)])
 (.seq (.seq (R [V s26 a7, .o s27 (.eq true 0 a26 (ci 0))])
 (.cond a27 .bad .skip))
 (.seq (.draw 1 [.r 0 0 (.o s31 (.ldn 5 a6)), .r 1 0 (.o s32 (.ldn 5 a6)), .a 8 0 0 (.o s8 (.alloc [.sl0, .sl0, .sl0, .sl0] 57)), .s 2 2 (.o s33 (.call 151 [a32])), .s 3 7 (.o s34 (.call 150 [a31, a33])), .q 4 15 (V s30 a34), .q 5 31 (.o s35 (.extract 0 a30)), .q 6 31 (.o s36 (.extract 1 a30)), .q 7 31 (.o s37 (.extract 2 a30)), .s 9 319 (.n (.st 4 a8 a35)), .q 10 895 (V s9 a36), .q 11 2047 (V s7 a37)])
 (.seq (.seq (R [V s38 a7, .o s39 (.eq true 0 a38 (ci 0))])
 (.cond a39 .bad .skip))
 (.seq (.draw 1 [.q 0 0 (V s42 a0), .q 1 0 (V s43 a1), .q 2 2 (.o s44 (.iaddr 1 a43 (ci 0))), .r 3 6 (.o s45 (.ld1 a44)), .r 4 0 (.o s46 (.ldn 4 a8)), .a 6 0 0 (.o s10 (.alloc [.sl0, (.i .i64 0), (.i .i64 0), (.i .i64 0), .sl0, .sl0, .sl0, .sl0, .sl0, (.i .i64 0), (.i .i64 0), .sl0, .sl0, (.i .i64 0), (.i .i64 0), .sl0, .sl0, .sl0, (.i .u64 0), (.i .i64 0), (.i .i64 0), (.i .i64 0), .sl0, .sl0, .sl0, .sl0, .sl0, .f0, (.b false)] 86)), .s 5 31 (.o s47 (.call 152 [a42, a45, a46])), .s 7 127 (.n (.st 29 a10 a47))])
 (.seq (.draw 0 [.r 0 0 (.o s48 (.ldn 5 a6)), .r 2 0 (.o s50 (.ldn 4 a8)), .s 1 1 (.o s49 (.call 153 [a48])), .s 3 7 (.o s51 (.call 154 [a50])), .q 4 15 (.o s52 (.build [(.i .i64 0), (.i .i64 0), (.i .i64 0), .sl0, .sl0, .sl0, .sl0, .sl0, (.i .i64 0), (.i .i64 0), .sl0, .sl0, (.i .i64 0), (.i .i64 0), .sl0, .sl0, .sl0, (.i .u64 0), (.i .i64 0), (.i .i64 0), (.i .i64 0), .sl0, .sl0, .sl0, .sl0, .sl0] [(0, 1, (ci 5)), (1, 5, a49), (22, 4, a51)])), .q 5 31 (.o s53 (.faddr 1 a10)), .s 6 63 (.n (.st 26 a53 a52))])
 (.seq (R [.o s54 (.ldn 29 a10), .n (.st 29 a4 a54), V s5 (ci 0)])
 .ret))))))))),
 [.cn s4 29, .tmp s5]⟩
def L72 : LFun := ⟨[s0, s1],
 (.seq (R [.o s4 (.alloc [.sl0, (.i .i64 0), (.i .i64 0), (.i .i64 0), .sl0, .sl0, .sl0, .sl0, .sl0, (.i .i64 0), (.i .i64 0), .sl0, .sl0, (.i .i64 0), (.i .i64 0), .sl0, .sl0, .sl0, (.i .u64 0), (.i .i64 0), (.i .i64 0), (.i .i64 0), .sl0, .sl0, .sl0, .sl0, .sl0, .f0, (.b false)] 86), V s5 (ci 0)])
 (.seq (R [V s11 a0, V s12 a1, .o s13 (.call 155 [a11, a12]), V s10 a13, .o s14 (.extract 0 a10), .o s15 (.extract 1 a10), .o s16 (.extract 2 a10), .o s6 (.alloc [.sl0, .sl0, .sl0, .sl0] 57), .n (.st 4 a6 a14), V s7 a15, V s8 a16])
 (.seq (.seq (R [V s17 a8, .o s18 (.eq true 0 a17 (ci 0))])
 (.cond a18 .bad .skip))
 (.seq (R [.o s22 (.ldn 4 a6), V s23 a7, .o s24 (.call 156 [a22, a23]), V s21 a24, .o s25 (.extract 0 a21), .o s26 (.extract 1 a21), V s9 a25, V s8 a26])
 (.seq (.seq (R [V s27 a8, .o s28 (.eq true 0 a27 (ci 0))])
 (.cond a28 .bad .skip))
 (.seq (.draw 0 [.q 0 0 (V s31 a0), .q 1 0 (V s32 a1), .q 2 2 (.o s33 (.iaddr 1 a32 (ci 0))), .r 3 6 (.o s34 (.ld1 a33)), .q 4 0 (V s35 a9), .q 5 0 (V s36 a9), .s 6 32 (.o s37 (.call 157 [a36])), .s 7 127 (.o s38 (.call 147 [a31, a34, a35, a37])), .s 8 255 (.n (.st 29 a4 a38)), .q 9 511 (V s5 (ci 0))])
 .ret)))))),
 [.cn s4 29, .tmp s5]⟩
def L75 : LFun := ⟨[s0, s1],
 (.seq (R [.o s4 (.alloc [.sl0, (.i .i64 0), (.i .i64 0), (.i .i64 0), .sl0, .sl0, .sl0, .sl0, .sl0, (.i .i64 0), (.i .i64 0), .sl0, .sl0, (.i .i64 0), (.i .i64 0), .sl0, .sl0, .sl0, (.i .u64 0), (.i .i64 0), (.i .i64 0), (.i .i64 0), .sl0, .sl0, .sl0, .sl0, .sl0, .f0, (.b false)] 86), V s5 (ci 0)])
 (.seq (R [V s14 a0, V s15 a1, .o s16 (.call 161 [a14, a15, (ci 1)]), V s13 a16, .o s17 (.extract 0 a13), .o s18 (.extract 1 a13), .o s19 (.extract 2 a13), .o s6 (.alloc [(.i .i64 0), (.i .i64 0), .sl0, .sl0, .sl0] 42), .n (.st 5 a6 a17), V s7 a18, V s8 a19])
 (.seq (.seq (R [V s20 a8, .o s21 (.eq true 0 a20 (ci 0))])
 (.cond a21 .bad .skip))
 (.seq (.draw 0 [.r 0 0 (.o s25 (.ldn 5 a6)), .q 1 0 (V s26 a7), .q 2 2 (.o s27 (.iaddr 1 a26 (ci 0))), .r 3 6 (.o s28 (.ld1 a27)), .s 4 15 (.o s29 (.call 162 [a25, a28])), .q 5 31 (V s24 a29), .q 6 63 (.o s30 (.extract 0 a24)), .q 7 63 (.o s31 (.extract 1 a24)), .q 8 127 (V s9 a30), .q 9 511 (V s8 a31)])
 (.seq (.seq (R [V s32 a8, .o s33 (.eq true 0 a32 (ci 0))])
 (.cond a33 .bad .skip))
 (.seq (.draw 1 [.r 0 0 (.o s37 (.ldn 5 a6)), .q 1 0 (V s38 a7), .q 2 2 (.o s39 (.iaddr 1 a38 (ci 0))), .r 3 6 (.o s40 (.ld1 a39)), .a 8 0 0 (.o s10 (.alloc [(.i .i64 0), (.i .i64 0), (.i .i64 0)] 54)), .s 4 15 (.o s41 (.call 163 [a37, a40])), .q 5 31 (V s36 a41), .q 6 63 (.o s42 (.extract 0 a36)), .q 7 63 (.o s43 (.extract 1 a36)), .s 9 383 (.n (.st 3 a10 a42)), .q 10 1023 (V s11 a43)])
 (.seq (.draw 1 [.r 0 0 (.o s44 (.ldn 5 a6)), .q 2 0 (V s46 a7), .q 3 4 (.o s47 (.iaddr 1 a46 (ci 0))), .r 4 12 (.o s48 (.ld1 a47)), .r 5 0 (.o s49 (.ldn 3 a10)), .a 7 0 0 (.o s12 (.alloc [(.i .i64 0), (.i .i64 0), (.i .i64 0), .sl0, .sl0, .sl0, .sl0, .sl0, (.i .i64 0), (.i .i64 0), .sl0, .sl0, (.i .i64 0), (.i .i64 0), .sl0, .sl0, .sl0, (.i .u64 0), (.i .i64 0), (.i .i64 0), (.i .i64 0), .sl0, .sl0, .sl0, .sl0, .sl0] 59)), .s 1 1 (.o s45 (.call 153 [a44])), .q 6 63 (.o s50 (.build [(.i .i64 0), (.i .i64 0), (.i .i64 0), .sl0, .sl0, .sl0, .sl0, .sl0, (.i .i64 0), (.i .i64 0), .sl0, .sl0, (.i .i64 0), (.i .i64 0), .sl0, .sl0, .sl0, (.i .u64 0), (.i .i64 0), (.i .i64 0), (.i .i64 0), .sl0, .sl0, .sl0, .sl0, .sl0] [(0, 1, (ci 3)), (1, 5, a45), (17, 1, a48), (18, 3, a49)])), .s 8 255 (.n (.st 26 a12 a50))])
 (.seq (.draw 1 [.q 0 0 (V s51 a9), .r 3 0 (.o s54 (.ldn 26 a12)), .s 1 1 (.o s52 (.call 22 [a51])), .a 2 3 0 (.o s53 (.bslice 9 1 1 [(.s 0 0)] [(0, 1, a52)])), .q 4 15 (.o s55 (.build [.sl0, (.i .i64 0), (.i .i64 0), (.i .i64 0), .sl0, .sl0, .sl0, .sl0, .sl0, (.i .i64 0), (.i .i64 0), .sl0, .sl0, (.i .i64 0), (.i .i64 0), .sl0, .sl0, .sl0, (.i .u64 0), (.i .i64 0), (.i .i64 0), (.i .i64 0), .sl0, .sl0, .sl0, .sl0, .sl0, .f0, (.b false)] [(0, 1, a53), (1, 26, a54)])), .s 5 31 (.n (.st 29 a4 a55)), .q 6 63 (V s5 (ci 0))])
 .ret)))))))),
 [.cn s4 29, .tmp s5]⟩
def L77 : LFun := ⟨[s0, s1],
 (.seq (R [.o s4 (.alloc [.sl0, (.i .i64 0), (.i .i64 0), (.i .i64 0), .sl0, .sl0, .sl0, .sl0, .sl0, (.i .i64 0), (.i .i64 0), .sl0, .sl0, (.i .i64 0), (.i .i64 0), .sl0, .sl0, .sl0, (.i .u64 0), (.i .i64 0), (.i .i64 0), (.i .i64 0), .sl0, .sl0, .sl0, .sl0, .sl0, .f0, (.b false)] 86), V s5 (ci 0)])
 (.seq (R [V s10 a0, V s11 a1, .o s12 (.call 165 [a10, a11]), V s9 a12, .o s13 (.extract 0 a9), .o s14 (.extract 1 a9), .o s6 (.alloc [(.i .i64 0), (.i .i64 0), .sl0, .sl0, .sl0] 42), .n (.st 5 a6 a13), V s7 a14])
 (.seq (.seq (R [V s15 a7, .o s16 (.eq true 0 a15 (ci 0))])
 (.cond a16 (.seq (R [.o s17 (.build [.sl0, (.i .i64 0), (.i .i64 0), (.i .i64 0), .sl0, .sl0, .sl0, .sl0, .sl0, (.i .i64 0), (.i .i64 0), .sl0, .sl0, (.i .i64 0), (.i .i64 0), .sl0, .sl0, .sl0, (.i .u64 0), (.i .i64 0), (.i .i64 0), (.i .i64 0), .sl0, .sl0, .sl0, .sl0, .sl0, .f0, (.b false)] []), V s18 a7, .n (.st 29 a4 a17), V s5 a18])
 .ret) .skip))
 (.seq (R [.o s20 (.ldn 5 a6), .o s21 (.call 166 [a20]), V s19 a21, .o s22 (.extract 0 a19), .o s23 (.extract 1 a19), .o s8 (.alloc [(.i .i64 0), (.i .i64 0), .sl0, .sl0, .sl0] 50), .n (.st 5 a8 a22), V s7 a23])
 (.seq (.seq (R [V s24 a7, .o s25 (.eq true 0 a24 (ci 0))])
 (.cond a25 .bad .skip))
 (.seq (.draw 1 [.q 0 0 (.o s28 (.faddr 0 a8)), .r 1 1 (.o s29 (.ld1 a28)), .r 4 0 (.o s32 (.ldn 5 a6)), .r 6 0 (.o s34 (.ldn 5 a8)), .s 2 3 (.o s30 (.call 22 [a29])), .a 3 7 0 (.o s31 (.bslice 9 1 1 [(.s 0 0)] [(0, 1, a30)])), .s 5 23 (.o s33 (.call 153 [a32])), .q 7 119 (.o s35 (.build [(.i .i64 0), (.i .i64 0), (.i .i64 0), .sl0, .sl0, .sl0, .sl0, .sl0, (.i .i64 0), (.i .i64 0), .sl0, .sl0, (.i .i64 0), (.i .i64 0), .sl0, .sl0, .sl0, (.i .u64 0), (.i .i64 0), (.i .i64 0), (.i .i64 0), .sl0, .sl0, .sl0, .sl0, .sl0] [(0, 1, (ci 2)), (1, 5, a33), (12, 5, a34)])), .q 8 255 (.o s36 (.build [.sl0, (.i .i64 0), (.i .i64 0), (.i .i64 0), .sl0, .sl0, .sl0, .sl0, .sl0, (.i .i64 0), (.i .i64 0), .sl0, .sl0, (.i .i64 0), (.i .i64 0), .sl0, .sl0, .sl0, (.i .u64 0), (.i .i64 0), (.i .i64 0), (.i .i64 0), .sl0, .sl0, .sl0, .sl0, .sl0, .f0, (.b false)] [(0, 1, a31), (1, 26, a35)])), .s 9 511 (.n (.st 29 a4 a36)), .q 10 1023 (V s5 (ci 0))])
 .ret)))))),
 [.cn s4 29, .tmp s5]⟩
def L79 : LFun := ⟨[s0, s1],
 (.seq (R [V s4 (.c (.s 0 0))])
 (.seq (.seq (R [V s10 a1, .o s11 (.eq false 0 a10 (ci 10))])
 (.cond a11 (.seq (.seq (R [V s12 a0, .o s13 (.ile (ci 0) a12), V s14 a13, .g s14 true s15 (.mv a0), .g s14 true s16 (.ilt a15 (ci 100)), .o s17 (.pick a14 a16 (.c (.b false)))])
 (.cond a17 (.seq (R [V s18 a0, .o s19 (.call 168 [a18]), V s4 a19])
 .ret) .skip))
 (.seq (R [.o s5 (.alloc [(.i .u8 0), (.i .u8 0), (.i .u8 0), (.i .u8 0), (.i .u8 0), (.i .u8 0), (.i .u8 0), (.i .u8 0), (.i .u8 0), (.i .u8 0), (.i .u8 0), (.i .u8 0), (.i .u8 0), (.i .u8 0), (.i .u8 0), (.i .u8 0), (.i .u8 0), (.i .u8 0), (.i .u8 0), (.i .u8 0), (.i .u8 0), (.i .u8 0), (.i .u8 0), (.i .u8 0)] 250)])
 (.seq (R [V s20 a0, .o s21 (.convI .u64 a20), V s6 a21])
 (.seq (.seq (R [V s22 a0, .o s23 (.ilt a22 (ci 0))])
 (.cond a23 .bad .skip))
 (.seq (R [V s26 a6, .o s27 (.call 169 [a26]), V s7 a27])
 (.seq (R [V s28 a7, .o s29 (.iadd (ci 1) a28), .o s30 (.slA 24 1 a5 (some (ci 1)) (some a29)), V s31 a6, .o s32 (.call 170 [a30, a31])])
 (.seq (.seq (R [V s33 a0, .o s34 (.ilt a33 (ci 0))])
 (.cond a34 .bad .skip))
 (.seq (R [V s40 a7, .o s41 (.iadd (ci 1) a40), .o s42 (.slA 24 1 a5 (some (ci 1)) (some a41)), .o s43 (.bToS a42), V s4 a43])
 .ret)))))))) .skip))
 .bad)),
 [.tmp s4]⟩
def L80 : LFun := ⟨[s0, s1],
 (.seq (.draw 0 [.q 0 0 (V s5 a0), .q 1 1 (.o s6 (.nilc a5)), .q 2 3 (.o s7 (.faddr 1 a6)), .r 3 7 (.o s8 (.ld1 a7)), .q 4 15 (.o s9 (.cap a8)), .q 5 31 (.o s10 (.imul (ci 2) a9)), .q 6 0 (V s11 a1), .q 7 127 (.o s12 (.iadd a10 a11)), .q 9 0 (V s14 a0), .q 10 512 (.o s15 (.nilc a14)), .q 11 1536 (.o s16 (.faddr 1 a15)), .r 12 3584 (.o s17 (.ld1 a16)), .q 13 7680 (.o s18 (.lenV a17)), .s 8 255 (.o s13 (.call 172 [a12])), .q 14 16383 (.o s19 (.slV 1 a13 none (some a18) none)), .q 15 32767 (V s4 a19)])
 (.seq (R [V s20 a4, V s21 a0, .o s22 (.nilc a21), .o s23 (.faddr 1 a22), .o s24 (.ld1 a23), .o s25 (.copy 1 a20 a24)])
 (R [V s26 a0, V s27 a4, .o s28 (.nilc a26), .o s29 (.faddr 1 a28), .n (.st 1 a29 a27)]))),
 []⟩
def L81 : LFun := ⟨[s0, s1],
 (.seq (R [V s4 (.c (.i .u64 0)), V s5 (ci 0)])
 (.seq (.seq (R [V s11 a0, .o s12 (.lenS a11), .o s13 (.igt a12 (ci 1024))])
 (.cond a13 .bad .skip))
 (.seq (R [V s15 a0, .o s16 (.call 173 [a15]), V s14 a16, .o s17 (.extract 0 a14), .o s18 (.extract 1 a14), .o s19 (.extract 2 a14), .o s20 (.extract 3 a14), .o s21 (.extract 4 a14), V s6 a17, V s7 a18, V s8 a19, V s9 a20, V s10 a21])
 (.seq (.seq (R [V s22 a10, .o s23 (.not a22)])
 (.cond a23 .bad .skip))
 (.seq (.seq (R [V s24 a9, .o s25 (.ilt a24 (ci 18446744073709451617)), V s26 a25, .g s26 false s27 (.mv a9), .g s26 false s28 (.igt a27 (ci 99999)), .o s29 (.pick a26 (.c (.b true)) a28)])
 (.cond a29 .bad .skip))
 (.seq (R [V s30 a6, V s31 a7, V s32 a9, V s33 a8, .o s34 (.isub a32 a33), V s35 a1, .o s36 (.call 114 [a30, a31, a34, a35]), V s4 a36, V s5 (ci 0)])
 .ret)))))),
 [.tmp s4, .tmp s5]⟩
def L82 : LFun := ⟨[s0],
 (.seq (R [V s2 (.c (.b false))])
 (.seq (R [V s3 a0, .o s4 (.ishr a3 (.c (.i .u64 52))), .o s5 (.iand a4 (.c (.i .u64 2047))), .o s6 (.eq true 0 a5 (.c (.i .u64 2047))), V s2 a6])
 .ret)),
 [.tmp s2]⟩
def L83 : LFun := ⟨[s0, s1],
 (.seq (R [.o s2 (.box 165 a0), V s4 (.c (.i .u64 0))])
 (.seq (R [.o s5 (.ldn 4 a2), .o s6 (.call 174 [a5]), .n (.st 4 a2 a6)])
 (.seq (.seq (R [.o s7 (.faddr 0 a2), .o s8 (.ld1 a7)])
 (.cond a8 .bad .skip))
 (.seq (.seq (R [.o s9 (.faddr 1 a2), .o s10 (.ldn 2 a9), .o s11 (.call 175 [a10]), .o s12 (.eq false 0 a11 (ci 0))])
 (.cond a12 .bad .skip))
 (.seq (.draw 0 [.q 0 0 (.o s13 (.faddr 1 a2)), .q 1 1 (.o s14 (.faddr 0 a13)), .r 2 3 (.o s15 (.ld1 a14)), .q 3 0 (.o s16 (.faddr 1 a2)), .r 4 8 (.o s17 (.ldn 2 a16)), .q 6 0 (.o s19 (.faddr 3 a2)), .r 7 64 (.o s20 (.ld1 a19)), .q 8 0 (V s21 a1), .s 5 24 (.o s18 (.call 177 [a17])), .s 9 511 (.o s22 (.call 176 [a15, a18, a20, (.c (.b false)), a21])), .q 10 1023 (V s4 a22)])
 .ret))))),
 [.tmp s4]⟩
def L84 : LFun := ⟨[s0],
 (.seq (R [.o s2 (.alloc [(.b false), (.b false), .sl0, (.i .i64 0)] 165)])
 (.seq (R [.o s5 (.build [(.b false), (.b false), .sl0, (.i .i64 0)] []), .o s3 (.alloc [(.b false), (.b false), .sl0, (.i .i64 0)] 165), .n (.st 4 a3 a5)])
 (.seq (.seq (R [V s4 (ci 0)])
 (.block 0 (.loop (.seq (.seq (R [V s6 a4, V s7 a0, .o s8 (.lenV a7), .o s9 (.ilt a6 a8)])
 (.cond a9 .skip (.exit 0)))
 (.seq (.block 1 (.draw 0 [.r 0 0 (.o s12 (.ldn 4 a3)), .q 1 0 (V s13 a0), .q 2 0 (V s14 a4), .q 3 6 (.o s15 (.iaddr 1 a13 a14)), .r 4 14 (.o s16 (.ld1 a15)), .s 5 30 (.o s17 (.call 103 [a16])), .s 6 63 (.o s18 (.call 178 [a12, a17])), .s 7 127 (.n (.st 4 a3 a18))]))
 (R [V s10 a4, .o s11 (.iadd a10 (ci 1)), V s4 a11]))))))
 (.seq (R [.o s19 (.ldn 4 a3), .n (.st 4 a2 a19)])
 .ret)))),
 [.cn s2 4]⟩
def L85 : LFun := ⟨[s0],
 (.seq (R [.o s1 (.box 42 a0), V s2 (ci 0)])
 (.seq (.seq (R [.o s7 (.faddr 0 a1), .o s8 (.ld1 a7), .o s9 (.ilt a8 (ci 0)), V s10 a9, .g s10 false s11 (.faddr 0 a1), .g s10 false s12 (.ld1 a11), .g s10 false s13 (.igt a12 (ci 200)), .o s14 (.pick a10 (.c (.b true)) a13), V s15 a14, .g s15 false s16 (.faddr 1 a1), .g s15 false s17 (.ld1 a16), .g s15 false s18 (.ilt a17 (ci 0)), .o s19 (.pick a15 (.c (.b true)) a18), V s20 a19, .g s20 false s21 (.faddr 1 a1), .g s20 false s22 (.ld1 a21), .g s20 false s23 (.igt a22 (ci 200)), .o s24 (.pick a20 (.c (.b true)) a23), V s25 a24, .g s25 false s26 (.faddr 3 a1), .g s25 false s27 (.ld1 a26), .g s25 false s28 (.lenV a27), .g s25 false s29 (.igt a28 (ci 10000)), .o s30 (.pick a25 (.c (.b true)) a29)])
 (.cond a30 .bad .skip))
 (.seq (R [.o s31 (.faddr 3 a1), .o s32 (.ld1 a31), .o s33 (.lenV a32), V s3 a33])
 (.seq (.seq (R [.o s34 (.faddr 4 a1), .o s35 (.ld1 a34), .o s36 (.lenV a35), V s37 a3, .o s38 (.eq true 0 a36 a37), V s39 a38, .g s39 false s40 (.faddr 2 a1), .g s39 false s41 (.ld1 a40), .g s39 false s42 (.lenV a41), .g s39 false s43 (.faddr 1 a1), .g s39 false s44 (.ld1 a43), .g s39 false s45 (.iadd a44 (ci 1)), .g s39 false s46 (.eq true 0 a42 a45), .o s47 (.pick a39 (.c (.b true)) a46), V s48 a47, .g s48 false s49 (.faddr 2 a1), .g s48 false s50 (.ld1 a49), .g s48 false s51 (.iaddr 1 a50 (ci 0)), .g s48 false s52 (.ld1 a51), .g s48 false s53 (.eq true 0 a52 (ci 0)), .o s54 (.pick a48 (.c (.b true)) a53), V s55 a54, .g s55 false s56 (.faddr 2 a1), .g s55 false s57 (.ld1 a56), .g s55 false s58 (.faddr 1 a1), .g s55 false s59 (.ld1 a58), .g s55 false s60 (.iaddr 1 a57 a59), .g s55 false s61 (.ld1 a60), .g s55 false s62 (.mv a3), .g s55 false s63 (.eq true 0 a61 a62), .o s64 (.pick a55 (.c (.b true)) a63)])
 (.cond a64 .bad .skip))
 (.seq (.seq (R [V s4 (ci 0)])
 (.block 0 (.loop (.seq (.seq (R [V s65 a4, .o s66 (.faddr 1 a1), .o s67 (.ld1 a66), .o s68 (.ilt a65 a67)])
 (.cond a68 .skip (.exit 0)))
 (.seq (.block 1 (.seq (.draw 0 [.q 0 0 (.o s71 (.faddr 2 a1)), .r 1 1 (.o s72 (.ld1 a71)), .q 2 0 (V s73 a4), .q 3 7 (.o s74 (.iaddr 1 a72 a73)), .r 4 15 (.o s75 (.ld1 a74)), .q 5 0 (.o s76 (.faddr 2 a1)), .r 6 32 (.o s77 (.ld1 a76)), .q 7 0 (V s78 a4), .q 8 128 (.o s79 (.iadd a78 (ci 1))), .q 9 480 (.o s80 (.iaddr 1 a77 a79)), .r 10 992 (.o s81 (.ld1 a80)), .q 11 2047 (.o s82 (.igt a75 a81))])
 (.cond a82 .bad .skip)))
 (R [V s69 a4, .o s70 (.iadd a69 (ci 1)), V s4 a70]))))))
 (.seq (.seq (R [V s5 (ci 0)])
 (.block 2 (.loop (.seq (.seq (R [V s83 a5, .o s84 (.faddr 1 a1), .o s85 (.ld1 a84), .o s86 (.ilt a83 a85)])
 (.cond a86 .skip (.exit 2)))
 (.seq (.block 3 (.seq (R [.o s89 (.faddr 2 a1), .o s90 (.ld1 a89), V s91 a5, .o s92 (.iaddr 1 a90 a91), .o s93 (.ld1 a92), V s6 a93])
 (.block 4 (.loop (.seq (.seq (R [V s94 a6, .o s95 (.faddr 2 a1), .o s96 (.ld1 a95), V s97 a5, .o s98 (.iadd a97 (ci 1)), .o s99 (.iaddr 1 a96 a98), .o s100 (.ld1 a99), .o s101 (.ilt a94 a100)])
 (.cond a101 .skip (.exit 4)))
 (.seq (.block 5 (.seq (.draw 0 [.q 0 0 (.o s104 (.faddr 3 a1)), .r 1 1 (.o s105 (.ld1 a104)), .q 2 0 (V s106 a6), .q 3 7 (.o s107 (.iaddr 1 a105 a106)), .r 4 15 (.o s108 (.ld1 a107)), .q 5 31 (.o s109 (.ilt a108 (ci 0))), .q 6 63 (V s110 a109), .q 7 127 (.g s110 false s111 (.faddr 3 a1)), .r 8 255 (.g s110 false s112 (.ld1 a111)), .q 9 127 (.g s110 false s113 (.mv a6)), .q 10 1023 (.g s110 false s114 (.iaddr 1 a112 a113)), .r 11 2047 (.g s110 false s115 (.ld1 a114)), .q 12 127 (.g s110 false s116 (.faddr 0 a1)), .r 13 4223 (.g s110 false s117 (.ld1 a116)), .q 14 16383 (.g s110 false s118 (.ige a115 a117)), .q 15 32767 (.o s119 (.pick a110 (.c (.b true)) a118)), .q 16 65535 (V s120 a119), .q 17 131071 (.g s120 false s121 (.mv a6)), .q 18 131071 (.g s120 false s122 (.faddr 2 a1)), .r 19 393215 (.g s120 false s123 (.ld1 a122)), .q 20 131071 (.g s120 false s124 (.mv a5)), .q 21 1966079 (.g s120 false s125 (.iaddr 1 a123 a124)), .r 22 4063231 (.g s120 false s126 (.ld1 a125)), .q 23 8388607 (.g s120 false s127 (.igt a121 a126)), .q 24 16777215 (.g s120 false s128 (.mv a127)), .q 25 33554431 (.g s128 true s129 (.faddr 3 a1)), .r 26 67108863 (.g s128 true s130 (.ld1 a129)), .q 27 33554431 (.g s128 true s131 (.mv a6)), .q 28 268435455 (.g s128 true s132 (.iaddr 1 a130 a131)), .r 29 536870911 (.g s128 true s133 (.ld1 a132)), .q 30 33554431 (.g s128 true s134 (.faddr 3 a1)), .r 31 1107296255 (.g s128 true s135 (.ld1 a134)), .q 32 33554431 (.g s128 true s136 (.mv a6)), .q 33 4328521727 (.g s128 true s137 (.isub a136 (ci 1))), .q 34 16139681791 (.g s128 true s138 (.iaddr 1 a135 a137)), .r 35 33319550975 (.g s128 true s139 (.ld1 a138)), .q 36 68719476735 (.g s128 true s140 (.ile a133 a139)), .q 37 137438953471 (.g s120 false s141 (.pick a128 a140 (.c (.b false)))), .q 38 274877906943 (.o s142 (.pick a120 (.c (.b true)) a141))])
 (.cond a142 .bad .skip)))
 (R [V s102 a6, .o s103 (.iadd a102 (ci 1)), V s6 a103])))))))
 (R [V s87 a5, .o s88 (.iadd a87 (ci 1)), V s5 a88]))))))
 (.seq (.seq (R [.o s143 (.faddr 4 a1), .o s144 (.ld1 a143), .o s145 (.call 179 [a144]), .o s146 (.not a145)])
 (.cond a146 .bad .skip))
 (.seq (R [V s2 (ci 0)])
 .ret)))))))),
 [.tmp s2]⟩
def L86 : LFun := ⟨[s0],
 (.seq (R [.o s1 (.box 42 a0), V s2 (.c .sl0)])
 (.seq (.seq (R [.o s6 (.ldn 5 a1), .o s7 (.call 85 [a6]), .o s8 (.eq true 0 a7 (ci 0))])
 (.cond a8 .bad .skip))
 (.seq (R [V s3 (.c .sl0)])
 (.seq (.seq (R [V s4 (ci 0)])
 (.block 0 (.loop (.seq (.seq (R [V s9 a4, .o s10 (.faddr 1 a1), .o s11 (.ld1 a10), .o s12 (.ilt a9 a11)])
 (.cond a12 .skip (.exit 0)))
 (.seq (.block 1 (.seq (R [.o s15 (.faddr 2 a1), .o s16 (.ld1 a15), V s17 a4, .o s18 (.iaddr 1 a16 a17), .o s19 (.ld1 a18), V s5 a19])
 (.block 2 (.loop (.seq (.seq (R [V s20 a5, .o s21 (.faddr 2 a1), .o s22 (.ld1 a21), V s23 a4, .o s24 (.iadd a23 (ci 1)), .o s25 (.iaddr 1 a22 a24), .o s26 (.ld1 a25), .o s27 (.ilt a20 a26)])
 (.cond a27 .skip (.exit 2)))
 (.seq (.block 3 (.draw 1 [.q 0 0 (V s30 a3), .q 1 0 (.o s31 (.faddr 3 a1)), .r 2 2 (.o s32 (.ld1 a31)), .q 3 0 (V s33 a5), .q 4 14 (.o s34 (.iaddr 1 a32 a33)), .r 5 30 (.o s35 (.ld1 a34)), .q 6 0 (V s36 a4), .q 7 0 (.o s37 (.faddr 4 a1)), .r 8 128 (.o s38 (.ld1 a37)), .q 9 0 (V s39 a5), .q 10 896 (.o s40 (.iaddr 1 a38 a39)), .r 11 1920 (.o s41 (.ld1 a40)), .q 12 4094 (.o s42 (.build [(.i .i64 0), (.i .i64 0), (.i .u64 0)] [(0, 1, a35), (1, 1, a36), (2, 1, a41)])), .a 13 8190 0 (.o s43 (.bslice 115 1 3 [(.i .i64 0), (.i .i64 0), (.i .u64 0)] [(0, 3, a42)])), .s 14 16383 (.o s44 (.append 3 115 a30 a43)), .q 15 32767 (V s3 a44)]))
 (R [V s28 a5, .o s29 (.iadd a28 (ci 1)), V s5 a29])))))))
 (R [V s13 a4, .o s14 (.iadd a13 (ci 1)), V s4 a14]))))))
 (.seq (R [V s45 a3, V s2 a45])
 .ret))))),
 [.tmp s2]⟩
def L87 : LFun := ⟨[s0, s1, s2],
 (.seq (R [.o s6 (.alloc [(.i .i64 0), (.i .i64 0), .sl0, .sl0, .sl0] 42)])
 (.seq (R [V s13 a0, V s14 a1, .o s15 (.bslice 3 1 1 [(.i .i64 0)] [(0, 1, (ci 0))]), .o s16 (.build [(.i .i64 0), (.i .i64 0), .sl0, .sl0, .sl0] [(0, 1, a13), (1, 1, a14), (2, 1, a15)]), .o s7 (.alloc [(.i .i64 0), (.i .i64 0), .sl0, .sl0, .sl0] 42), .n (.st 5 a7 a16)])
 (.seq (R [V s17 a0, V s18 a1, .o s19 (.imul a17 a18), .o s20 (.mks 3 1 [(.i .i64 0)] a19 a19), V s8 a20])
 (.seq (.seq (R [V s9 (ci 0)])
 (.block 0 (.loop (.seq (.seq (R [V s21 a9, V s22 a2, .o s23 (.lenV a22), .o s24 (.ilt a21 a23)])
 (.cond a24 .skip (.exit 0)))
 (.seq (.block 1 (.draw 0 [.q 0 0 (V s27 a8), .q 1 0 (V s28 a2), .q 2 0 (V s29 a9), .q 3 6 (.o s30 (.iaddr 3 a28 a29)), .q 4 14 (.o s31 (.faddr 1 a30)), .r 5 30 (.o s32 (.ld1 a31)), .q 6 0 (V s33 a0), .q 7 126 (.o s34 (.imul a32 a33)), .q 8 0 (V s35 a2), .q 9 0 (V s36 a9), .q 10 768 (.o s37 (.iaddr 3 a35 a36)), .q 11 1792 (.o s38 (.faddr 0 a37)), .r 12 3840 (.o s39 (.ld1 a38)), .q 13 8190 (.o s40 (.iadd a34 a39)), .q 14 0 (V s41 a9), .q 15 16384 (.o s42 (.iadd a41 (ci 1))), .q 16 65535 (.o s43 (.iaddr 1 a27 a40)), .s 17 131071 (.n (.st 1 a43 a42))]))
 (R [V s25 a9, .o s26 (.iadd a25 (ci 1)), V s9 a26]))))))
 (.seq (.seq (R [V s10 (ci 0)])
 (.block 2 (.loop (.seq (.seq (R [V s44 a10, V s45 a1, .o s46 (.ilt a44 a45)])
 (.cond a46 .skip (.exit 2)))
 (.seq (.block 3 (.seq (.seq (R [V s11 (ci 0)])
 (.block 4 (.loop (.seq (.seq (R [V s49 a11, V s50 a0, .o s51 (.ilt a49 a50)])
 (.cond a51 .skip (.exit 4)))
 (.seq (.block 5 (.seq (R [V s54 a8, V s55 a10, V s56 a0, .o s57 (.imul a55 a56), V s58 a11, .o s59 (.iadd a57 a58), .o s60 (.iaddr 1 a54 a59), .o s61 (.ld1 a60), V s12 a61])
 (.seq (R [V s62 a12, .o s63 (.igt a62 (ci 0))])
 (.cond a63 (.seq (R [.o s64 (.faddr 3 a7), .o s65 (.ld1 a64), V s66 a11, .o s67 (.bslice 3 1 1 [(.i .i64 0)] [(0, 1, a66)]), .o s68 (.append 1 3 a65 a67), .o s69 (.faddr 3 a7), .n (.st 1 a69 a68)])
 (.draw 1 [.q 0 0 (.o s70 (.faddr 4 a7)), .r 1 1 (.o s71 (.ld1 a70)), .q 2 0 (V s72 a2), .q 3 0 (V s73 a12), .q 4 8 (.o s74 (.isub a73 (ci 1))), .q 5 28 (.o s75 (.iaddr 3 a72 a74)), .q 6 60 (.o s76 (.faddr 2 a75)), .r 7 124 (.o s77 (.ld1 a76)), .a 8 252 0 (.o s78 (.bslice 52 1 1 [(.i .u64 0)] [(0, 1, a77)])), .s 9 511 (.o s79 (.append 1 52 a71 a78)), .q 10 1023 (.o s80 (.faddr 4 a7)), .s 11 2047 (.n (.st 1 a80 a79))])) .skip))))
 (R [V s52 a11, .o s53 (.iadd a52 (ci 1)), V s11 a53]))))))
 (R [.o s81 (.faddr 2 a7), .o s82 (.ld1 a81), .o s83 (.faddr 3 a7), .o s84 (.ld1 a83), .o s85 (.lenV a84), .o s86 (.bslice 3 1 1 [(.i .i64 0)] [(0, 1, a85)]), .o s87 (.append 1 3 a82 a86), .o s88 (.faddr 2 a7), .n (.st 1 a88 a87)])))
 (R [V s47 a10, .o s48 (.iadd a47 (ci 1)), V s10 a48]))))))
 (.seq (R [.o s89 (.ldn 5 a7), .n (.st 5 a6 a89)])
 .ret)))))),
 [.cn s6 5]⟩
def L88 : LFun := ⟨[s0],
 (.seq (R [V s2 (.c .sl0)])
 (.seq (R [V s3 (.c .sl0)])
 (.seq (.seq (R [V s4 (ci 0)])
 (.block 0 (.loop (.seq (.seq (R [V s5 a4, V s6 a0, .o s7 (.ilt a5 a6)])
 (.cond a7 .skip (.exit 0)))
 (.seq (.block 1 (R [V s10 a3, V s11 a0, .o s12 (.mks 4 1 [(.b false)] a11 a11), .o s13 (.bslice 172 1 1 [.sl0] [(0, 1, a12)]), .o s14 (.append 1 172 a10 a13), V s3 a14]))
 (R [V s8 a4, .o s9 (.iadd a8 (ci 1)), V s4 a9]))))))
 (.seq (R [V s15 a3, V s2 a15])
 .ret)))),
 [.tmp s2]⟩
def L89 : LFun := ⟨[s0],
 (.seq (R [.o s2 (.alloc [.sl0] 123)])
 (.seq (R [.o s3 (.alloc [.sl0] 123)])
 (.seq (.seq (R [V s4 (ci 0)])
 (.block 0 (.loop (.seq (.seq (R [V s7 a4, V s8 a0, .o s9 (.lenV a8), .o s10 (.ilt a7 a9)])
 (.cond a10 .skip (.exit 0)))
 (.seq (.block 1 (.seq (R [V s5 (.c .sl0)])
 (.seq (.seq (R [V s6 (ci 0)])
 (.block 2 (.loop (.seq (.seq (R [V s13 a6, V s14 a0, .o s15 (.lenV a14), .o s16 (.ilt a13 a15)])
 (.cond a16 .skip (.exit 2)))
 (.seq (.block 3 (.seq (R [V s19 a4, V s20 a6, .o s21 (.eq true 0 a19 a20), V s22 a21, .g s22 true s23 (.mv a0), .g s22 true s24 (.mv a4), .g s22 true s25 (.iaddr 1 a23 a24), .g s22 true s26 (.ld1 a25), .g s22 true s27 (.mv a6), .g s22 true s28 (.iaddr 1 a26 a27), .g s22 true s29 (.ld1 a28), .g s22 true s30 (.mv a29), .g s30 false s31 (.mv a0), .g s30 false s32 (.mv a6), .g s30 false s33 (.iaddr 1 a31 a32), .g s30 false s34 (.ld1 a33), .g s30 false s35 (.mv a4), .g s30 false s36 (.iaddr 1 a34 a35), .g s30 false s37 (.ld1 a36), .g s22 true s38 (.pick a30 (.c (.b true)) a37), .o s39 (.pick a22 a38 (.c (.b false)))])
 (.cond a39 .bad .skip)))
 (R [V s17 a6, .o s18 (.iadd a17 (ci 1)), V s6 a18]))))))
 (R [.o s44 (.faddr 0 a3), .o s45 (.ld1 a44), V s46 a5, .o s47 (.bslice 39 1 1 [.sl0] [(0, 1, a46)]), .o s48 (.append 1 39 a45 a47), .o s49 (.faddr 0 a3), .n (.st 1 a49 a48)]))))
 (R [V s11 a4, .o s12 (.iadd a11 (ci 1)), V s4 a12]))))))
 (.seq (R [.o s50 (.ldn 1 a3), .n (.st 1 a2 a50)])
 .ret)))),
 [.cn s2 1]⟩
def L90 : LFun := ⟨[s0],
 (.seq (R [.o s1 (.box 123 a0), V s2 (ci 0)])
 (.seq (R [.o s7 (.faddr 0 a1), .o s8 (.ld1 a7), .o s9 (.lenV a8), V s3 a9])
 (.seq (.seq (R [V s10 a3, .o s11 (.igt a10 (ci 200))])
 (.cond a11 .bad .skip))
 (.seq (.seq (R [V s4 (ci 0)])
 (.block 0 (.loop (.seq (.seq (R [V s12 a4, V s13 a3, .o s14 (.ilt a12 a13)])
 (.cond a14 .skip (.exit 0)))
 (.seq (.block 1 (.seq (.seq (R [.o s17 (.faddr 0 a1), .o s18 (.ld1 a17), V s19 a4, .o s20 (.iaddr 1 a18 a19), .o s21 (.ld1 a20), .o s22 (.call 180 [a21]), .o s23 (.not a22)])
 (.cond a23 .bad .skip))
 (.seq (R [V s5 (ci 0)])
 (.block 2 (.loop (.seq (.seq (R [V s24 a5, .o s25 (.faddr 0 a1), .o s26 (.ld1 a25), V s27 a4, .o s28 (.iaddr 1 a26 a27), .o s29 (.ld1 a28), .o s30 (.lenV a29), .o s31 (.ilt a24 a30)])
 (.cond a31 .skip (.exit 2)))
 .bad))))))
 (R [V s15 a4, .o s16 (.iadd a15 (ci 1)), V s4 a16]))))))
 (.seq (R [V s2 (ci 0)])
 .ret))))),
 [.tmp s2]⟩
def L91 : LFun := ⟨[s0],
 (.seq (R [.o s1 (.box 123 a0), V s2 (.c .sl0), V s3 (.c .sl0)])
 (.seq (R [.o s12 (.faddr 0 a1), .o s13 (.ld1 a12), .o s14 (.lenV a13), V s4 a14])
 (.seq (.draw 2 [.r 0 0 (.o s15 (.ldn 1 a1)), .q 2 0 (V s17 a4), .a 3 4 0 (.o s18 (.mks 4 1 [(.b false)] a17 a17)), .s 1 1 (.o s16 (.call 182 [a15])), .q 4 15 (.o s19 (.build [.sl0, .sl0, .sl0, .sl0, .sl0] [(0, 1, a16), (4, 1, a18)])), .a 5 31 1 (.o s20 (.box 267 a19)), .q 6 63 (V s5 a20)])
 (.seq (.seq (R [V s6 (ci 0)])
 (.block 0 (.loop (.seq (.seq (R [V s21 a6, V s22 a4, .o s23 (.ilt a21 a22)])
 (.cond a23 .skip (.exit 0)))
 (.seq (.block 1 (.seq (.draw 2 [.q 0 0 (V s26 a5), .q 1 0 (V s27 a5), .q 2 2 (.o s28 (.nilc a27)), .q 3 6 (.o s29 (.faddr 1 a28)), .r 4 14 (.o s30 (.ld1 a29)), .q 5 0 (V s31 a4), .a 6 32 0 (.o s32 (.mks 4 1 [(.b false)] a31 a31)), .a 7 96 1 (.o s33 (.bslice 172 1 1 [.sl0] [(0, 1, a32)])), .s 8 254 (.o s34 (.append 1 172 a30 a33)), .q 9 511 (.o s35 (.nilc a26)), .q 10 1023 (.o s36 (.faddr 1 a35)), .s 11 2047 (.n (.st 1 a36 a34))])
 (.seq (.draw 2 [.q 0 0 (V s37 a5), .q 1 0 (V s38 a5), .q 2 2 (.o s39 (.nilc a38)), .q 3 6 (.o s40 (.faddr 2 a39)), .r 4 14 (.o s41 (.ld1 a40)), .q 5 0 (V s42 a4), .a 6 32 0 (.o s43 (.mks 4 1 [(.b false)] a42 a42)), .a 7 96 1 (.o s44 (.bslice 172 1 1 [.sl0] [(0, 1, a43)])), .s 8 254 (.o s45 (.append 1 172 a41 a44)), .q 9 511 (.o s46 (.nilc a37)), .q 10 1023 (.o s47 (.faddr 2 a46)), .s 11 2047 (.n (.st 1 a47 a45))])
 (.draw 1 [.q 0 0 (V s48 a5), .q 1 0 (V s49 a5), .q 2 2 (.o s50 (.nilc a49)), .q 3 6 (.o s51 (.faddr 3 a50)), .r 4 14 (.o s52 (.ld1 a51)), .q 5 0 (.o s53 (.faddr 0 a1)), .r 6 32 (.o s54 (.ld1 a53)), .q 7 0 (V s55 a6), .q 8 224 (.o s56 (.iaddr 1 a54 a55)), .r 9 480 (.o s57 (.ld1 a56)), .q 10 992 (.o s58 (.lenV a57)), .a 11 2016 0 (.o s59 (.bslice 3 1 1 [(.i .i64 0)] [(0, 1, a58)])), .s 12 4094 (.o s60 (.append 1 3 a52 a59)), .q 13 8191 (.o s61 (.nilc a48)), .q 14 16383 (.o s62 (.faddr 3 a61)), .s 15 32767 (.n (.st 1 a62 a60))]))))
 (R [V s24 a6, .o s25 (.iadd a24 (ci 1)), V s6 a25]))))))
 (.seq (R [V s7 (.c .sl0), V s8 (.c .sl0)])
 (.seq (.seq (R [V s9 (ci 0)])
 (.block 2 (.loop (.seq (.seq (R [V s63 a9, V s64 a4, .o s65 (.ilt a63 a64)])
 (.cond a65 .skip (.exit 2)))
 (.seq (.block 3 (.seq (R [V s69 a5, .o s70 (.call 183 [a69]), V s68 a70, .o s71 (.extract 0 a68), .o s72 (.extract 1 a68), V s10 a71, V s11 a72])
 (.seq (R [V s73 a7, V s74 a10, .o s75 (.bslice 3 1 1 [(.i .i64 0)] [(0, 1, a74)]), .o s76 (.append 1 3 a73 a75), V s7 a76])
 (R [V s77 a8, V s78 a11, .o s79 (.bslice 3 1 1 [(.i .i64 0)] [(0, 1, a78)]), .o s80 (.append 1 3 a77 a79), V s8 a80]))))
 (R [V s66 a9, .o s67 (.iadd a66 (ci 1)), V s9 a67]))))))
 (.seq (R [V s81 a7, V s82 a8, V s2 a81, V s3 a82])
 .ret))))))),
 [.tmp s2, .tmp s3]⟩
def L92 : LFun := ⟨[s0, s1],
 (.seq (R [.o s2 (.box 42 a0), V s4 (ci 0)])
 (.seq (.seq (R [.o s6 (.ldn 5 a2), .o s7 (.call 85 [a6]), V s5 a7])
 (.seq (R [V s8 a5, .o s9 (.eq true 0 a8 (ci 0))])
 (.cond a9 .bad .skip)))
 (.seq (.seq (R [.o s11 (.faddr 0 a2), .o s12 (.ld1 a11), .o s13 (.faddr 1 a2), .o s14 (.ld1 a13), .o s15 (.eq true 0 a12 a14)])
 (.cond a15 .bad .skip))
 (.seq (.seq (R [V s16 a1, .o s17 (.faddr 0 a2), .o s18 (.ld1 a17), .o s19 (.call 184 [a16, a18]), .o s20 (.not a19)])
 (.cond a20 .bad .skip))
 (.seq (R [V s4 (ci 0)])
 .ret))))),
 [.tmp s4]⟩
def L93 : LFun := ⟨[s0],
 (.seq (R [.o s1 (.box 123 a0), V s2 (.c .sl0), V s3 (ci 0)])
 (.seq (.seq (R [.o s8 (.ldn 1 a1), .o s9 (.call 90 [a8]), V s4 a9])
 (.seq (R [V s10 a4, .o s11 (.eq true 0 a10 (ci 0))])
 (.cond a11 .bad .skip)))
 (.seq (R [.o s13 (.ldn 1 a1), .o s14 (.call 185 [a13]), V s5 a14])
 (.seq (R [V s6 (.c .sl0)])
 (.seq (.seq (R [V s7 (ci 0)])
 (.block 0 (.loop (.seq (.seq (R [V s15 a7, .o s16 (.faddr 0 a1), .o s17 (.ld1 a16), .o s18 (.lenV a17), .o s19 (.ilt a15 a18)])
 (.cond a19 .skip (.exit 0)))
 (.seq (.block 1 (.seq (R [V s22 a6, V s23 a7, .o s24 (.bslice 3 1 1 [(.i .i64 0)] [(0, 1, a23)]), V s25 a5, V s26 a7, .o s27 (.call 186 [a25, a26]), .o s28 (.append 1 3 a24 a27), .o s29 (.bslice 39 1 1 [.sl0] [(0, 1, a28)]), .o s30 (.append 1 39 a22 a29), V s6 a30])
 (R [V s31 a5, V s32 a7, .o s33 (.call 187 [a31, a32])])))
 (R [V s20 a7, .o s21 (.iadd a20 (ci 1)), V s7 a21]))))))
 (.seq (R [V s34 a6, V s2 a34, V s3 (ci 0)])
 .ret)))))),
 [.tmp s2, .tmp s3]⟩
def L94 : LFun := ⟨[s0, s1],
 (.seq (R [.o s2 (.box 42 a0), .o s4 (.alloc [.sl0] 123)])
 (.seq (R [.o s12 (.ldn 5 a2), .o s13 (.call 48 [a12]), V s11 a13, .o s14 (.extract 0 a11), .o s15 (.extract 1 a11), .o s5 (.alloc [(.i .i64 0), (.i .i64 0), .sl0, .sl0, .sl0] 42), .n (.st 5 a5 a14), V s6 a15])
 (.seq (R [.o s17 (.ldn 5 a5), .o s18 (.call 49 [a17]), V s16 a18, .o s19 (.extract 0 a16), .o s20 (.extract 1 a16), .o s7 (.alloc [.sl0] 123), .n (.st 1 a7 a19), V s8 a20])
 (.seq (R [.o s22 (.ldn 1 a7), V s23 a1, .o s24 (.call 188 [a22, a23]), V s21 a24, .o s25 (.extract 0 a21), .o s26 (.extract 1 a21), .o s9 (.alloc [.sl0] 123), .n (.st 1 a9 a25), V s10 a26])
 (.seq (R [.o s27 (.ldn 1 a9), .n (.st 1 a4 a27)])
 .ret))))),
 [.cn s4 1]⟩
def L95 : LFun := ⟨[s0, s1, s2, s3],
 (.seq (R [.o s4 (.box 42 a0), .o s8 (.alloc [(.b false), (.b false), .sl0, (.i .i64 0)] 165)])
 (.seq (.draw 0 [.q 0 0 (V s11 a1), .q 1 0 (V s12 a2), .q 2 3 (.o s13 (.iaddr 1 a11 a12)), .r 3 7 (.o s14 (.ld1 a13)), .q 4 0 (V s15 a1), .q 5 0 (V s16 a3), .q 6 48 (.o s17 (.iaddr 1 a15 a16)), .r 7 112 (.o s18 (.ld1 a17)), .q 8 15 (V s9 a14), .q 9 511 (V s10 a18)])
 (.seq (R [.o s19 (.ldn 5 a4), V s20 a9, V s21 a10, .o s22 (.imax a20 a21), V s23 a9, V s24 a10, .o s25 (.imin a23 a24), .o s26 (.call 189 [a19, a22, a25]), .o s27 (.call 103 [a26]), .n (.st 4 a8 a27)])
 .ret))),
 [.cn s8 4]⟩
def L98 : LFun := ⟨[s0],
 (.seq (R [.o s2 (.alloc [(.b false), (.b false), .sl0, (.i .i64 0)] 165)])
 (.seq (R [.o s7 (.build [(.b false), .sl0] []), .o s3 (.alloc [(.b false), .sl0] 163), .n (.st 2 a3 a7), V s4 (ci 0)])
 (.seq (.seq (R [V s5 (ci 0)])
 (.block 0 (.loop (.seq (.seq (R [V s8 a5, V s9 a0, .o s10 (.lenV a9), .o s11 (.ilt a8 a10)])
 (.cond a11 .skip (.exit 0)))
 (.seq (.block 1 (.seq (R [V s14 a0, V s15 a5, .o s16 (.iaddr 4 a14 a15), .o s17 (.ldn 4 a16), .o s18 (.call 174 [a17]), .o s6 (.alloc [(.b false), (.b false), .sl0, (.i .i64 0)] 165), .n (.st 4 a6 a18)])
 (.seq (.seq (R [.o s19 (.faddr 0 a6), .o s20 (.ld1 a19)])
 (.cond a20 .bad .skip))
 (.seq (.seq (R [.o s22 (.faddr 1 a6), .o s23 (.ldn 2 a22), .o s24 (.call 175 [a23]), .o s25 (.eq false 0 a24 (ci 0))])
 (.cond a25 (.exit 1) .skip))
 (.block 2 (.seq (R [.o s38 (.ldn 2 a3), .o s39 (.call 175 [a38]), .o s40 (.eq false 0 a39 (ci 0)), V s37 a40])
 (.cond a37 (.draw 0 [.q 0 0 (.o s41 (.faddr 1 a6)), .r 1 1 (.o s42 (.ldn 2 a41)), .q 2 0 (.o s43 (.faddr 3 a6)), .r 3 4 (.o s44 (.ld1 a43)), .s 4 3 (.n (.st 2 a3 a42)), .q 5 31 (V s4 a44)]) .bad)))))))
 (R [V s12 a5, .o s13 (.iadd a12 (ci 1)), V s5 a13]))))))
 (.seq (R [.o s59 (.ldn 2 a3), V s60 a4, .o s61 (.call 190 [a59, a60]), .n (.st 4 a2 a61)])
 .ret)))),
 [.cn s2 4]⟩
def L99 : LFun := ⟨[s0],
 (.seq (R [.o s1 (.box 165 a0), V s2 (.c (.i .u64 0))])
 (.seq (R [.o s3 (.ldn 4 a1), .o s4 (.call 196 [a3, (ci 0)]), V s2 a4])
 .ret)),
 [.tmp s2]⟩
def L100 : LFun := ⟨[s0],
 (.seq (R [.o s1 (.box 165 a0), V s2 (ci 0)])
 (.seq (R [.o s3 (.ldn 4 a1), .o s4 (.call 174 [a3]), .n (.st 4 a1 a4)])
 (.seq (.seq (R [.o s5 (.faddr 0 a1), .o s6 (.ld1 a5)])
 (.cond a6 .bad .skip))
 (.seq (R [.o s7 (.faddr 1 a1), .o s8 (.ldn 2 a7), .o s9 (.call 175 [a8]), V s2 a9])
 .ret)))),
 [.tmp s2]⟩
def L101 : LFun := ⟨[s0],
 (.seq (R [V s2 (.c (.b false))])
 (.seq (R [V s3 a0, .o s4 (.eq false 0 a3 (.c (.i .u64 0))), V s5 a4, .g s5 false s6 (.mv a0), .g s5 false s7 (.eq false 0 a6 (.c (.i .u64 9223372036854775808))), .o s8 (.pick a5 (.c (.b true)) a7), V s2 a8])
 .ret)),
 [.tmp s2]⟩
def L103 : LFun := ⟨[s0],
 (.seq (R [.o s2 (.alloc [(.b false), (.b false), .sl0, (.i .i64 0)] 165)])
 (.seq (.seq (R [V s6 a0, .o s7 (.call 82 [a6]), .o s8 (.not a7)])
 (.cond a8 .bad .skip))
 (.seq (R [V s10 a0, .o s11 (.ishr a10 (.c (.i .u64 52))), .o s12 (.iand a11 (.c (.i .u64 2047))), .o s13 (.convI .i64 a12), V s14 a0, .o s15 (.iand a14 (.c (.i .u64 4503599627370495))), V s3 a13, V s4 a15])
 (.seq (R [V s5 (ci 18446744073709550542)])
 (.seq (.seq (R [V s16 a3, .o s17 (.igt a16 (ci 0))])
 (.cond a17 (.seq (R [V s18 a4, .o s19 (.ior a18 (.c (.i .u64 4503599627370496))), V s4 a19])
 (R [V s20 a3, .o s21 (.isub a20 (ci 1075)), V s5 a21])) .skip))
 (.seq (R [V s22 a0, .o s23 (.call 111 [a22]), V s24 a4, .o s25 (.convI .u32 a24), V s26 a4, .o s27 (.ishr a26 (.c (.i .u64 32))), .o s28 (.convI .u32 a27), .o s29 (.bslice 227 2 1 [(.i .u32 0), (.i .u32 0)] [(0, 1, a25), (1, 1, a28)]), .o s30 (.build [(.b false), .sl0] [(0, 1, a23), (1, 1, a29)]), V s31 a5, .o s32 (.call 190 [a30, a31]), .n (.st 4 a2 a32)])
 .ret)))))),
 [.cn s2 4]⟩
def L111 : LFun := ⟨[s0],
 (.seq (R [V s2 (.c (.b false))])
 (.seq (R [V s3 a0, .o s4 (.iand a3 (.c (.i .u64 9223372036854775808))), .o s5 (.eq true 0 a4 (.c (.i .u64 0))), V s2 a5])
 .ret)),
 [.tmp s2]⟩
def L114 : LFun := ⟨[s0, s1, s2, s3],
 (.seq (R [V s8 (.c (.i .u64 0))])
 (.seq (R [V s15 a1, .o s16 (.call 215 [a15]), V s14 a16, .o s17 (.extract 0 a14), .o s18 (.extract 1 a14), .o s9 (.alloc [(.b false), .sl0] 163), .n (.st 2 a9 a17), V s10 a18])
 (.seq (.seq (R [.o s19 (.ldn 2 a9), .o s20 (.call 175 [a19]), .o s21 (.eq false 0 a20 (ci 0))])
 (.cond a21 (.seq (.seq (R [V s22 a0])
 (.cond a22 .bad .skip))
 (.seq (R [V s8 (.c (.i .u64 0))])
 .ret)) .skip))
 (.seq (R [.o s23 (.ldn 2 a9), .o s24 (.call 214 [a23]), .o s25 (.lenS a24), V s11 a25])
 (.seq (R [.o s26 (.call 213 [(ci 10)]), .o s12 (.alloc [(.b false), .sl0] 163), .n (.st 2 a12 a26)])
 (.seq (R [.o s27 (.build [(.b false), (.b false), .sl0, (.i .i64 0)] []), .o s13 (.alloc [(.b false), (.b false), .sl0, (.i .i64 0)] 165), .n (.st 4 a13 a27)])
 (.seq (.block 0 (.seq (R [V s40 a11, V s41 a2, .o s42 (.iadd a40 a41), .o s43 (.igt a42 (ci 400)), V s39 a43])
 (.cond a39 .bad (.seq (R [V s47 a11, V s48 a2, .o s49 (.iadd a47 a48), .o s50 (.ilt a49 (ci 18446744073709551216)), V s46 a50])
 (.cond a46 .bad (.seq (R [V s54 a2, .o s55 (.ige a54 (ci 0)), V s53 a55])
 (.cond a53 (.draw 0 [.r 0 0 (.o s56 (.ldn 2 a9)), .r 1 0 (.o s57 (.ldn 2 a12)), .q 2 0 (V s58 a2), .s 3 6 (.o s59 (.call 218 [a57, a58])), .s 4 15 (.o s60 (.call 217 [a56, a59])), .s 5 31 (.o s61 (.call 216 [a60])), .s 6 63 (.n (.st 4 a13 a61))]) .bad)))))))
 (.seq (.seq (R [V s62 a0])
 (.cond a62 .bad .skip))
 (.seq (R [.o s65 (.ldn 4 a13), V s66 a3, .o s67 (.call 83 [a65, a66]), V s8 a67])
 .ret))))))))),
 [.tmp s8]⟩
def L116 : LFun := ⟨[s0],
 (.seq (R [.o s1 (.box 42 a0), V s2 (.c .sl0), V s3 (ci 0), V s4 (ci 0)])
 (.seq (.seq (R [.o s17 (.ldn 5 a1), .o s18 (.call 85 [a17]), V s5 a18])
 (.seq (R [V s19 a5, .o s20 (.eq true 0 a19 (ci 0))])
 (.cond a20 .bad .skip)))
 (.seq (.seq (R [.o s22 (.faddr 0 a1), .o s23 (.ld1 a22), .o s24 (.igt a23 (ci 16)), V s25 a24, .g s25 false s26 (.faddr 1 a1), .g s25 false s27 (.ld1 a26), .g s25 false s28 (.igt a27 (ci 16)), .o s29 (.pick a25 (.c (.b true)) a28)])
 (.cond a29 .bad .skip))
 (.seq (R [V s6 (ci 0), V s7 (.c (.b false))])
 (.seq (.seq (R [V s8 (ci 0)])
 (.block 0 (.loop (.seq (.seq (R [V s30 a8, .o s31 (.faddr 4 a1), .o s32 (.ld1 a31), .o s33 (.lenV a32), .o s34 (.ilt a30 a33)])
 (.cond a34 .skip (.exit 0)))
 (.seq (.block 1 (.seq (R [.o s37 (.faddr 4 a1), .o s38 (.ld1 a37), V s39 a8, .o s40 (.iaddr 1 a38 a39), .o s41 (.ld1 a40), .o s42 (.call 103 [a41]), .o s9 (.alloc [(.b false), (.b false), .sl0, (.i .i64 0)] 165), .n (.st 4 a9 a42)])
 (.seq (R [.o s43 (.ldn 4 a9), .o s44 (.call 100 [a43]), .o s45 (.eq true 0 a44 (ci 0)), V s46 a45, .g s46 true s47 (.mv a7), .g s46 true s48 (.not a47), .g s46 true s49 (.mv a48), .g s49 false s50 (.faddr 3 a9), .g s49 false s51 (.ld1 a50), .g s49 false s52 (.mv a6), .g s49 false s53 (.ilt a51 a52), .g s46 true s54 (.pick a49 (.c (.b true)) a53), .o s55 (.pick a46 a54 (.c (.b false)))])
 (.cond a55 (R [.o s56 (.faddr 3 a9), .o s57 (.ld1 a56), V s6 a57, V s7 (.c (.b true))]) .skip))))
 (R [V s35 a8, .o s36 (.iadd a35 (ci 1)), V s8 a36]))))))
 (.seq (R [.o s59 (.ldn 5 a1), .o s60 (.call 220 [a59]), V s58 a60, .o s61 (.extract 0 a58), .o s62 (.extract 1 a58), V s10 a61, V s11 a62])
 (.seq (R [V s12 (.c .sl0)])
 (.seq (.seq (R [V s13 (ci 0)])
 (.block 2 (.loop (.seq (.seq (R [V s63 a13, .o s64 (.faddr 0 a1), .o s65 (.ld1 a64), .o s66 (.ilt a63 a65)])
 (.cond a66 .skip (.exit 2)))
 (.seq (.block 3 (.seq (R [V s14 (.c .sl0)])
 (.seq (.seq (R [V s15 (ci 0)])
 (.block 4 (.loop (.seq (.seq (R [V s69 a15, .o s70 (.faddr 1 a1), .o s71 (.ld1 a70), .o s72 (.ilt a69 a71)])
 (.cond a72 .skip (.exit 4)))
 (.seq (.block 5 (.seq (R [V s75 a10, V s76 a13, .o s77 (.iaddr 1 a75 a76), .o s78 (.ld1 a77), V s79 a15, .o s80 (.iaddr 1 a78 a79), .o s81 (.ld1 a80), .o s82 (.call 103 [a81]), .o s16 (.alloc [(.b false), (.b false), .sl0, (.i .i64 0)] 165), .n (.st 4 a16 a82)])
 (.seq (R [.o s83 (.ldn 4 a16), .o s84 (.call 100 [a83]), .o s85 (.eq false 0 a84 (ci 0))])
 (.cond a85 .bad (R [V s90 a14, .o s91 (.faddr 1 a16), .o s92 (.ldn 2 a91), .o s93 (.faddr 3 a16), .o s94 (.ld1 a93), V s95 a6, .o s96 (.isub a94 a95), .o s97 (.call 195 [a92, a96]), .o s98 (.bslice 163 1 2 [(.b false), .sl0] [(0, 2, a97)]), .o s99 (.append 2 163 a90 a98), V s14 a99])))))
 (R [V s73 a15, .o s74 (.iadd a73 (ci 1)), V s15 a74]))))))
 (R [V s100 a12, V s101 a14, .o s102 (.bslice 301 1 1 [.sl0] [(0, 1, a101)]), .o s103 (.append 1 301 a100 a102), V s12 a103]))))
 (R [V s67 a13, .o s68 (.iadd a67 (ci 1)), V s13 a68]))))))
 (.seq (R [V s104 a12, V s105 a6, V s2 a104, V s3 a105, V s4 (ci 0)])
 .ret))))))))),
 [.tmp s2, .tmp s3, .tmp s4]⟩
def L117 : LFun := ⟨[s0, s1],
 (.seq (R [V s4 (.c .sl0)])
 (.seq (R [V s5 (.c .sl0)])
 (.seq (R [V s6 (.c .sl0)])
 (.seq (.seq (R [V s7 (ci 0)])
 (.block 0 (.loop (.seq (.seq (R [V s12 a7, V s13 a1, .o s14 (.ilt a12 a13)])
 (.cond a14 .skip (.exit 0)))
 (.seq (.block 1 (.seq (R [.o s17 (.bslice 3 0 1 [] []), V s18 a6, .o s19 (.append 1 3 a17 a18), V s20 a7, .o s21 (.bslice 3 1 1 [(.i .i64 0)] [(0, 1, a20)]), .o s22 (.append 1 3 a19 a21), V s8 a22])
 (.seq (.seq (R [V s23 a0, .o s24 (.lenV a23), .o s25 (.igt a24 (ci 0)), V s26 a25, .g s26 true s27 (.mv a0), .g s26 true s28 (.mv a8), .g s26 true s29 (.call 222 [a27, a28]), .g s26 true s30 (.mv a8), .g s26 true s31 (.lenV a30), .g s26 true s32 (.call 221 [a29, a31]), .g s26 true s33 (.mv a6), .g s26 true s34 (.lenV a33), .g s26 true s35 (.igt a32 a34), .o s36 (.pick a26 a35 (.c (.b false)))])
 (.cond a36 (.seq (R [V s37 a8, V s6 a37])
 (.exit 1)) .skip))
 .bad)))
 (R [V s15 a7, .o s16 (.iadd a15 (ci 1)), V s7 a16]))))))
 (.seq (R [V s71 a5, V s4 a71])
 .ret))))),
 [.tmp s4]⟩
def L118 : LFun := ⟨[s0, s1],
 (.seq (R [V s4 (.c .sl0)])
 (.seq (R [V s5 (.c .sl0)])
 (.seq (.seq (R [V s7 a0, .o s8 (.ile a7 (ci 2))])
 (.cond a8 .bad .skip))
 (.seq (.seq (R [V s10 a0, .o s11 (.imin a10 (ci 2147483648)), .o s12 (.isub a11 (ci 1)), V s6 a12])
 (.block 0 (.loop (.seq (.seq (R [V s13 a6, .o s14 (.igt a13 (ci 1)), V s15 a14, .g s15 true s16 (.mv a5), .g s15 true s17 (.lenV a16), .g s15 true s18 (.mv a1), .g s15 true s19 (.imin a18 (ci 100)), .g s15 true s20 (.ilt a17 a19), .o s21 (.pick a15 a20 (.c (.b false)))])
 (.cond a21 .skip (.exit 0)))
 (.seq (.block 1 (.seq (R [V s24 a6, .o s25 (.call 224 [a24])])
 (.cond a25 (R [V s26 a5, V s27 a6, .o s28 (.bslice 3 1 1 [(.i .i64 0)] [(0, 1, a27)]), .o s29 (.append 1 3 a26 a28), V s5 a29]) .skip)))
 (R [V s22 a6, .o s23 (.isub a22 (ci 1)), V s6 a23]))))))
 (.seq (R [V s30 a5, V s4 a30])
 .ret))))),
 [.tmp s4]⟩
def L119 : LFun := ⟨[s0, s1],
 (.seq (R [V s4 (.c .sl0)])
 (.seq (R [V s5 (.c .sl0)])
 (.seq (.seq (R [V s6 (ci 0)])
 (.block 0 (.loop (.seq (.seq (R [V s9 a6, V s10 a0, .o s11 (.lenV a10), .o s12 (.ilt a9 a11)])
 (.cond a12 .skip (.exit 0)))
 (.seq (.block 1 (.seq (R [V s7 (.c .sl0)])
 (.seq (.seq (R [V s8 (ci 0)])
 (.block 2 (.loop (.seq (.seq (R [V s15 a8, V s16 a0, V s17 a6, .o s18 (.iaddr 1 a16 a17), .o s19 (.ld1 a18), .o s20 (.lenV a19), .o s21 (.ilt a15 a20)])
 (.cond a21 .skip (.exit 2)))
 (.seq (.block 3 (R [V s24 a7, V s25 a0, V s26 a6, .o s27 (.iaddr 1 a25 a26), .o s28 (.ld1 a27), V s29 a8, .o s30 (.iaddr 2 a28 a29), .o s31 (.ldn 2 a30), V s32 a1, .o s33 (.call 225 [a31, a32]), .o s34 (.bslice 3 1 1 [(.i .i64 0)] [(0, 1, a33)]), .o s35 (.append 1 3 a24 a34), V s7 a35]))
 (R [V s22 a8, .o s23 (.iadd a22 (ci 1)), V s8 a23]))))))
 (R [V s36 a5, V s37 a7, .o s38 (.bslice 39 1 1 [.sl0] [(0, 1, a37)]), .o s39 (.append 1 39 a36 a38), V s5 a39]))))
 (R [V s13 a6, .o s14 (.iadd a13 (ci 1)), V s6 a14]))))))
 (.seq (R [V s40 a5, V s4 a40])
 .ret)))),
 [.tmp s4]⟩
def L120 : LFun := ⟨[s0, s1, s2],
 (.seq (R [V s6 (.c .sl0)])
 (.seq (R [V s7 (.c .sl0)])
 (.seq (.seq (R [V s8 (ci 0)])
 (.block 0 (.loop (.seq (.seq (R [V s9 a8, V s10 a1, .o s11 (.ilt a9 a10)])
 (.cond a11 .skip (.exit 0)))
 (.seq (.block 1 (.seq (R [V s14 a0, V s15 a0, .o s16 (.lenV a15), .o s17 (.call 228 [a16]), .o s18 (.bslice 3 0 1 [] []), V s19 a7, .o s20 (.append 1 3 a18 a19), V s21 a8, .o s22 (.bslice 3 1 1 [(.i .i64 0)] [(0, 1, a21)]), .o s23 (.append 1 3 a20 a22), .o s24 (.call 227 [a14, a17, a23]), V s25 a2, .o s26 (.call 226 [a24, a25]), V s27 a7, .o s28 (.lenV a27), .o s29 (.igt a26 a28)])
 (.cond a29 (R [V s30 a7, V s31 a8, .o s32 (.bslice 3 1 1 [(.i .i64 0)] [(0, 1, a31)]), .o s33 (.append 1 3 a30 a32), V s7 a33]) .skip)))
 (R [V s12 a8, .o s13 (.iadd a12 (ci 1)), V s8 a13]))))))
 (.seq (R [V s34 a7, V s6 a34])
 .ret)))),
 [.tmp s6]⟩
def L121 : LFun := ⟨[s0, s1],
 (.seq (R [V s4 (.c .sl0)])
 (.seq (R [V s5 (.c .sl0)])
 (.seq (.seq (R [V s6 (ci 0)])
 (.block 0 (.loop (.seq (.seq (R [V s9 a6, V s10 a1, .o s11 (.ilt a9 a10)])
 (.cond a11 .skip (.exit 0)))
 (.seq (.block 1 (.seq (R [V s7 (.c .sl0)])
 (.seq (.seq (R [V s8 (ci 0)])
 (.block 2 (.loop (.seq (.seq (R [V s14 a8, V s15 a0, .o s16 (.lenV a15), .o s17 (.ilt a14 a16)])
 (.cond a17 .skip (.exit 2)))
 (.seq (.block 3 (R [V s20 a7, V s21 a0, V s22 a8, .o s23 (.iaddr 1 a21 a22), .o s24 (.ld1 a23), V s25 a6, .o s26 (.iaddr 1 a24 a25), .o s27 (.ld1 a26), .o s28 (.bslice 3 1 1 [(.i .i64 0)] [(0, 1, a27)]), .o s29 (.append 1 3 a20 a28), V s7 a29]))
 (R [V s18 a8, .o s19 (.iadd a18 (ci 1)), V s8 a19]))))))
 (R [V s30 a5, V s31 a7, .o s32 (.bslice 39 1 1 [.sl0] [(0, 1, a31)]), .o s33 (.append 1 39 a30 a32), V s5 a33]))))
 (R [V s12 a6, .o s13 (.iadd a12 (ci 1)), V s6 a13]))))))
 (.seq (R [V s34 a5, V s4 a34])
 .ret)))),
 [.tmp s4]⟩
def L141 : LFun := ⟨[s0],
 (.seq (R [V s2 (.c (.b false))])
 (.seq (.seq (R [V s6 a0, .o s7 (.lenS a6), .o s8 (.ilt a7 (ci 1)), V s9 a8, .g s9 false s10 (.mv a0), .g s9 false s11 (.lenS a10), .g s9 false s12 (.igt a11 (ci 16)), .o s13 (.pick a9 (.c (.b true)) a12)])
 (.cond a13 .bad .skip))
 (.seq (.seq (R [V s14 a0, .o s15 (.lenS a14), V s16 (ci 0)])
 (.block 0 (.loop (.seq (R [.o s17 (.ilt a16 a15)])
 (.seq (.cond a17 .skip (.exit 0))
 (.seq (.block 1 (.seq (R [V s18 a16, V s3 a18])
 (.seq (R [V s19 a0, V s20 a3, .o s21 (.idxS a19 a20), .o s22 (.ige a21 (.c (.i .u8 97))), V s23 a22, .g s23 true s24 (.mv a0), .g s23 true s25 (.mv a3), .g s23 true s26 (.idxS a24 a25), .g s23 true s27 (.ile a26 (.c (.i .u8 122))), .o s28 (.pick a23 a27 (.c (.b false))), V s4 a28])
 (.seq (R [V s29 a0, V s30 a3, .o s31 (.idxS a29 a30), .o s32 (.ige a31 (.c (.i .u8 48))), V s33 a32, .g s33 true s34 (.mv a0), .g s33 true s35 (.mv a3), .g s33 true s36 (.idxS a34 a35), .g s33 true s37 (.ile a36 (.c (.i .u8 57))), .o s38 (.pick a33 a37 (.c (.b false))), V s5 a38])
 (.seq (R [V s39 a4, .o s40 (.not a39), V s41 a40, .g s41 true s42 (.mv a5), .g s41 true s43 (.not a42), .g s41 true s44 (.mv a43), .g s44 false s45 (.mv a3), .g s44 false s46 (.eq false 0 a45 (ci 0)), .g s41 true s47 (.pick a44 (.c (.b true)) a46), .o s48 (.pick a41 a47 (.c (.b false)))])
 (.cond a48 .bad .skip))))))
 (R [.o s49 (.iadd a16 (ci 1)), V s16 a49])))))))
 (.seq (R [V s2 (.c (.b true))])
 .ret)))),
 [.tmp s2]⟩
def L142 : LFun := ⟨[s0],
 (.seq (R [V s2 (.c .sl0), V s3 (.c (.b false))])
 (.seq (R [V s4 (.c .sl0)])
 (.seq (.seq (R [V s10 a0, .o s11 (.lenV a10), V s12 (ci 0)])
 (.block 0 (.loop (.seq (R [.o s13 (.ilt a12 a11)])
 (.seq (.cond a13 .skip (.exit 0))
 (.seq (.block 1 (.seq (R [.o s14 (.iaddr 1 a10 a12), .o s15 (.ld1 a14), V s6 a15])
 (.seq (.seq (R [V s16 a6, .o s17 (.lenS a16), .o s18 (.ilt a17 (ci 1)), V s19 a18, .g s19 false s20 (.mv a6), .g s19 false s21 (.lenS a20), .g s19 false s22 (.igt a21 (ci 9)), .o s23 (.pick a19 (.c (.b true)) a22), V s24 a23, .g s24 false s25 (.mv a6), .g s24 false s26 (.lenS a25), .g s24 false s27 (.igt a26 (ci 1)), .g s24 false s28 (.mv a27), .g s28 true s29 (.mv a6), .g s28 true s30 (.idxS a29 (ci 0)), .g s28 true s31 (.eq false 0 a30 (.c (.i .u8 48))), .g s24 false s32 (.pick a28 a31 (.c (.b false))), .o s33 (.pick a24 (.c (.b true)) a32)])
 (.cond a33 .bad .skip))
 (.seq (.seq (R [V s34 a6, .o s35 (.lenS a34), V s36 (ci 0)])
 (.block 2 (.loop (.seq (R [.o s37 (.ilt a36 a35)])
 (.seq (.cond a37 .skip (.exit 2))
 (.seq (.block 3 (.seq (R [V s38 a36, V s7 a38])
 (.seq (R [V s39 a6, V s40 a7, .o s41 (.idxS a39 a40), .o s42 (.ilt a41 (.c (.i .u8 48))), V s43 a42, .g s43 false s44 (.mv a6), .g s43 false s45 (.mv a7), .g s43 false s46 (.idxS a44 a45), .g s43 false s47 (.igt a46 (.c (.i .u8 57))), .o s48 (.pick a43 (.c (.b true)) a47)])
 (.cond a48 .bad .skip))))
 (R [.o s49 (.iadd a36 (ci 1)), V s36 a49])))))))
 (.seq (R [V s51 a6, .o s52 (.call 251 [a51]), V s50 a52, .o s53 (.extract 0 a50), .o s54 (.extract 1 a50), V s8 a53, V s9 a54])
 (R [V s55 a4, V s56 a8, .o s57 (.bslice 3 1 1 [(.i .i64 0)] [(0, 1, a56)]), .o s58 (.append 1 3 a55 a57), V s4 a58]))))))
 (R [.o s59 (.iadd a12 (ci 1)), V s12 a59])))))))
 (.seq (R [V s60 a4, V s2 a60, V s3 (.c (.b true))])
 .ret)))),
 [.tmp s2, .tmp s3]⟩
def L143 : LFun := ⟨[s0],
 (.seq (R [V s2 (.c .sl0), V s3 (.c (.b false))])
 (.seq (R [V s4 (.c .sl0)])
 (.seq (.seq (R [V s9 a0, .o s10 (.lenV a9), V s11 (ci 0)])
 (.block 0 (.loop (.seq (R [.o s12 (.ilt a11 a10)])
 (.seq (.cond a12 .skip (.exit 0))
 (.seq (.block 1 (.seq (R [.o s13 (.iaddr 1 a9 a11), .o s14 (.ld1 a13), V s6 a14])
 (.seq (R [V s16 a6, .o s17 (.call 252 [a16, (ci 0)]), V s15 a17, .o s18 (.extract 0 a15), .o s19 (.extract 1 a15), V s7 a18, V s8 a19])
 (.seq (.seq (R [V s20 a8, .o s21 (.eq true 0 a20 (ci 0)), V s22 a21, .g s22 false s23 (.mv a7), .g s22 false s24 (.call 253 [a23]), .g s22 false s25 (.not a24), .o s26 (.pick a22 (.c (.b true)) a25)])
 (.cond a26 .bad .skip))
 (R [V s27 a4, V s28 a7, .o s29 (.bslice 52 1 1 [(.i .u64 0)] [(0, 1, a28)]), .o s30 (.append 1 52 a27 a29), V s4 a30])))))
 (R [.o s31 (.iadd a11 (ci 1)), V s11 a31])))))))
 (.seq (R [V s32 a4, V s2 a32, V s3 (.c (.b true))])
 .ret)))),
 [.tmp s2, .tmp s3]⟩
def L144 : LFun := ⟨[s0, s1, s2],
 (.seq (R [.o s6 (.alloc [(.i .i64 0), (.i .i64 0), .sl0, .sl0, .sl0] 42), V s7 (ci 0)])
 (.seq (.seq (R [V s15 a0, .o s16 (.call 254 [a15, (ci 0), (ci 200)]), .o s17 (.not a16), V s18 a17, .g s18 false s19 (.mv a1), .g s18 false s20 (.call 254 [a19, (ci 0), (ci 200)]), .g s18 false s21 (.not a20), .o s22 (.pick a18 (.c (.b true)) a21), V s23 a22, .g s23 false s24 (.mv a2), .g s23 false s25 (.lenV a24), .g s23 false s26 (.igt a25 (ci 10000)), .o s27 (.pick a23 (.c (.b true)) a26)])
 (.cond a27 .bad .skip))
 (.seq (.seq (R [V s29 a2, .o s30 (.lenV a29), V s31 (ci 0)])
 (.block 0 (.loop (.seq (R [.o s32 (.ilt a31 a30)])
 (.seq (.cond a32 .skip (.exit 0))
 (.seq (.block 1 (.seq (R [.o s33 (.iaddr 3 a29 a31), .o s34 (.ldn 3 a33), .o s9 (.alloc [(.i .i64 0), (.i .i64 0), (.i .u64 0)] 115), .n (.st 3 a9 a34)])
 (.seq (R [.o s35 (.faddr 0 a9), .o s36 (.ld1 a35), V s37 a0, .o s38 (.isub a37 (ci 1)), .o s39 (.call 254 [a36, (ci 0), a38]), .o s40 (.not a39), V s41 a40, .g s41 false s42 (.faddr 1 a9), .g s41 false s43 (.ld1 a42), .g s41 false s44 (.mv a1), .g s41 false s45 (.isub a44 (ci 1)), .g s41 false s46 (.call 254 [a43, (ci 0), a45]), .g s41 false s47 (.not a46), .o s48 (.pick a41 (.c (.b true)) a47)])
 (.cond a48 .bad .skip))))
 (R [.o s50 (.iadd a31 (ci 1)), V s31 a50])))))))
 (.seq (.seq (R [V s51 a2, .o s52 (.lenV a51), V s53 (ci 0)])
 (.block 2 (.loop (.seq (R [.o s54 (.ilt a53 a52)])
 (.seq (.cond a54 .skip (.exit 2))
 (.seq (.block 3 (.seq (R [.o s55 (.iaddr 3 a51 a53), .o s56 (.ldn 3 a55), .o s11 (.alloc [(.i .i64 0), (.i .i64 0), (.i .u64 0)] 115), .n (.st 3 a11 a56)])
 (.seq (R [.o s57 (.faddr 2 a11), .o s58 (.ld1 a57), .o s59 (.call 253 [a58]), .o s60 (.not a59)])
 (.cond a60 .bad .skip))))
 (R [.o s62 (.iadd a53 (ci 1)), V s53 a62])))))))
 (.seq (R [V s63 a2, .o s64 (.call 255 [a63]), V s2 a64])
 (.seq (R [V s12 (.c .sl0)])
 (.seq (.block 4 (.loop (.seq (.seq (R [V s65 a2, .o s66 (.lenV a65), .o s67 (.igt a66 (ci 0))])
 (.cond a67 .skip (.exit 4)))
 (.block 5 (.seq (R [V s68 a2, .o s69 (.iaddr 3 a68 (ci 0)), .o s70 (.ldn 3 a69), .o s13 (.alloc [(.i .i64 0), (.i .i64 0), (.i .u64 0)] 115), .n (.st 3 a13 a70)])
 (.seq (R [V s14 (.c .sl0)])
 (.seq (.block 6 (.loop (.seq (.seq (.draw 0 [.q 0 0 (V s71 a2), .q 1 1 (.o s72 (.lenV a71)), .q 2 3 (.o s73 (.igt a72 (ci 0))), .q 3 7 (V s74 a73), .q 4 15 (.g s74 true s75 (.mv a2)), .q 5 31 (.g s74 true s76 (.iaddr 3 a75 (ci 0))), .q 6 63 (.g s74 true s77 (.faddr 0 a76)), .r 7 127 (.g s74 true s78 (.ld1 a77)), .q 8 15 (.g s74 true s79 (.faddr 0 a13)), .r 9 271 (.g s74 true s80 (.ld1 a79)), .q 10 1023 (.g s74 true s81 (.eq false 0 a78 a80)), .q 11 2047 (.o s82 (.pick a74 a81 (.c (.b false)))), .q 12 4095 (V s83 a82), .q 13 8191 (.g s83 true s84 (.mv a2)), .q 14 16383 (.g s83 true s85 (.iaddr 3 a84 (ci 0))), .q 15 32767 (.g s83 true s86 (.faddr 1 a85)), .r 16 65535 (.g s83 true s87 (.ld1 a86)), .q 17 8191 (.g s83 true s88 (.faddr 1 a13)), .r 18 139263 (.g s83 true s89 (.ld1 a88)), .q 19 524287 (.g s83 true s90 (.eq false 0 a87 a89)), .q 20 1048575 (.o s91 (.pick a83 a90 (.c (.b false))))])
 (.cond a91 .skip (.exit 6)))
 (.block 7 (.draw 1 [.q 0 0 (V s92 a14), .q 1 0 (V s93 a2), .q 2 2 (.o s94 (.iaddr 3 a93 (ci 0))), .q 3 6 (.o s95 (.faddr 2 a94)), .r 4 14 (.o s96 (.ld1 a95)), .q 8 0 (V s100 a2), .q 9 256 (.o s101 (.slV 3 a100 (some (ci 1)) none none)), .s 5 30 (.o s97 (.call 256 [a96])), .a 6 62 0 (.o s98 (.bslice 165 1 4 [(.b false), (.b false), .sl0, (.i .i64 0)] [(0, 4, a97)])), .s 7 127 (.o s99 (.append 4 165 a92 a98)), .q 10 255 (V s14 a99), .q 11 2047 (V s2 a101)])))))
 (.seq (R [V s102 a14, .o s103 (.call 258 [a102]), .o s104 (.call 257 [a103, (ci 0)]), .o s105 (.faddr 2 a13), .n (.st 1 a105 a104)])
 (.seq (.seq (R [.o s106 (.faddr 2 a13), .o s107 (.ld1 a106), .o s108 (.call 253 [a107]), .o s109 (.not a108)])
 (.cond a109 .bad .skip))
 (R [V s111 a12, .o s112 (.ldn 3 a13), .o s113 (.bslice 115 1 3 [(.i .i64 0), (.i .i64 0), (.i .u64 0)] [(0, 3, a112)]), .o s114 (.append 3 115 a111 a113), V s12 a114]))))))))))
 (.seq (R [V s115 a0, V s116 a1, V s117 a12, .o s118 (.call 259 [a115, a116, a117]), .n (.st 5 a6 a118), V s7 (ci 0)])
 .ret)))))))),
 [.cn s6 5, .tmp s7]⟩
def L145 : LFun := ⟨[s0, s1, s2],
 (.draw 0 [.r 0 0 (.o s3 (.ld1 a1)), .q 1 1 (.o s4 (.nilc a3)), .q 2 3 (.o s5 (.faddr 0 a4)), .r 3 7 (.o s6 (.ld1 a5)), .r 4 0 (.o s7 (.ld1 a2)), .q 5 16 (.o s8 (.iaddr 1 a7 (ci 0))), .r 6 48 (.o s9 (.ld1 a8)), .r 7 0 (.o s10 (.ldn 5 a0)), .s 8 255 (.n (.mupd true a6 a9 a10))]),
 []⟩
def L146 : LFun := ⟨[s0, s1],
 (.seq (R [V s4 (.c (.b false))])
 (.seq (R [V s8 a0, V s9 a1, .o s10 (.lookup true (.agg [(.i .i64 0), (.i .i64 0), .sl0, .sl0, .sl0]) true a8 a9), V s7 a10, .o s11 (.extract 0 a7), .o s12 (.extract 1 a7), .o s5 (.alloc [(.i .i64 0), (.i .i64 0), .sl0, .sl0, .sl0] 42), .n (.st 5 a5 a11), V s6 a12])
 (.seq (R [V s13 a6, .o s14 (.not a13), V s15 a14, .g s15 true s16 (.mv a0), .g s15 true s17 (.lenM a16), .g s15 true s18 (.ige a17 (ci 16)), .o s19 (.pick a15 a18 (.c (.b false))), V s4 a19])
 .ret))),
 [.tmp s4]⟩
def L147 : LFun := ⟨[s0, s1, s2, s3],
 (.seq (R [.o s4 (.box 30 a0), .o s5 (.box 9 a1), .o s6 (.box 40 a2), .o s8 (.alloc [.sl0, (.i .i64 0), (.i .i64 0), (.i .i64 0), .sl0, .sl0, .sl0, .sl0, .sl0, (.i .i64 0), (.i .i64 0), .sl0, .sl0, (.i .i64 0), (.i .i64 0), .sl0, .sl0, .sl0, (.i .u64 0), (.i .i64 0), (.i .i64 0), (.i .i64 0), .sl0, .sl0, .sl0, .sl0, .sl0, .f0, (.b false)] 86)])
 (.seq (R [.o s10 (.mkf 260 [] [a6, a4, a5]), V s9 a10])
 (.seq (.draw 1 [.r 0 0 (.o s11 (.ld1 a5)), .a 1 1 0 (.o s12 (.bslice 9 1 1 [(.s 0 0)] [(0, 1, a11)])), .q 2 0 (V s13 a3), .q 4 0 (V s15 a9), .r 5 0 (.o s16 (.ld1 a4)), .q 6 32 (.o s17 (.nilc a16)), .q 7 96 (.o s18 (.faddr 1 a17)), .r 8 224 (.o s19 (.ld1 a18)), .r 9 0 (.o s20 (.ld1 a5)), .s 3 7 (.o s14 (.append 1 9 a12 a13)), .s 10 1007 (.o s21 (.call 261 [a19, a20])), .q 11 2047 (.o s22 (.build [.sl0, (.i .i64 0), (.i .i64 0), (.i .i64 0), .sl0, .sl0, .sl0, .sl0, .sl0, (.i .i64 0), (.i .i64 0), .sl0, .sl0, (.i .i64 0), (.i .i64 0), .sl0, .sl0, .sl0, (.i .u64 0), (.i .i64 0), (.i .i64 0), (.i .i64 0), .sl0, .sl0, .sl0, .sl0, .sl0, .f0, (.b false)] [(0, 1, a14), (27, 1, a15), (28, 1, a21)])), .s 12 4095 (.n (.st 29 a8 a22))])
 .ret))),
 [.cn s8 29]⟩
def L148 : LFun := ⟨[s0, s1],
 (.seq (R [V s4 (.c (.b false))])
 (.seq (R [V s5 a0, .o s6 (.lenV a5), V s7 a1, .o s8 (.eq false 0 a6 a7), V s9 a8, .g s9 true s10 (.mv a0), .g s9 true s11 (.call 262 [a10, (.c (.f 263 [] []))]), .g s9 true s12 (.not a11), .o s13 (.pick a9 a12 (.c (.b false))), V s4 a13])
 .ret)),
 [.tmp s4]⟩
def L149 : LFun := ⟨[s0, s1],
 (.seq (R [.o s4 (.alloc [(.i .i64 0), (.i .i64 0), .sl0, .sl0, .sl0] 42), V s5 (ci 0)])
 (.seq (R [V s9 a0, V s10 a1, .o s11 (.lookup true (.agg [(.i .i64 0), (.i .i64 0), .sl0, .sl0, .sl0]) true a9 a10), V s8 a11, .o s12 (.extract 0 a8), .o s13 (.extract 1 a8), .o s6 (.alloc [(.i .i64 0), (.i .i64 0), .sl0, .sl0, .sl0] 42), .n (.st 5 a6 a12), V s7 a13])
 (.seq (.seq (R [V s14 a7, .o s15 (.not a14)])
 (.cond a15 (.seq (R [.o s16 (.ldn 5 a6), .n (.st 5 a4 a16), V s5 (ci 441)])
 .ret) .skip))
 (.seq (R [.o s17 (.ldn 5 a6), .n (.st 5 a4 a17), V s5 (ci 0)])
 .ret)))),
 [.cn s4 5, .tmp s5]⟩
def L150 : LFun := ⟨[s0, s1],
 (.seq (R [.o s2 (.box 42 a0), .o s4 (.alloc [.sl0, .sl0, .sl0, .sl0] 57), V s5 (ci 0), V s6 (ci 0)])
 (.seq (R [.o s13 (.ldn 5 a2), V s14 a1, .o s15 (.call 264 [a13, a14]), V s12 a15, .o s16 (.extract 0 a12), .o s17 (.extract 1 a12), V s7 a16, V s8 a17])
 (.seq (.seq (R [V s18 a8, .o s19 (.eq true 0 a18 (ci 0))])
 (.cond a19 .bad .skip))
 (.seq (R [V s22 a7, .o s23 (.call 265 [a22]), V s9 a23])
 (.seq (.seq (R [V s24 a7, .o s25 (.nilc a24), .o s26 (.faddr 0 a25), .o s27 (.ld1 a26), V s28 (ci 0)])
 (.block 0 (.loop (.seq (R [.o s29 (.ilt a28 a27)])
 (.seq (.cond a29 .skip (.exit 0))
 (.seq (.block 1 (.seq (R [V s30 a28, V s10 a30])
 (.seq (R [V s31 a9, V s32 a7, V s33 a10, .o s34 (.call 266 [a31, a32, a33]), V s11 a34])
 (.seq (R [V s35 a11])
 (.block 2 (.seq (R [.o s39 (.eq false 0 a35 (ci 0)), V s38 a39])
 (.cond a38 .skip .bad)))))))
 (R [.o s45 (.iadd a28 (ci 1)), V s28 a45])))))))
 (.seq (.draw 0 [.q 0 0 (V s46 a9), .q 1 0 (V s47 a1), .q 3 0 (V s49 a7), .q 4 8 (.o s50 (.nilc a49)), .q 5 24 (.o s51 (.faddr 0 a50)), .r 6 56 (.o s52 (.ld1 a51)), .s 2 3 (.o s48 (.call 267 [a46, a47])), .s 7 7 (.n (.st 4 a4 a48)), .q 8 255 (V s5 a52), .q 9 511 (V s6 (ci 0))])
 .ret)))))),
 [.cn s4 4, .tmp s5, .tmp s6]⟩
def L151 : LFun := ⟨[s0],
 (.seq (R [.o s1 (.box 42 a0), V s2 (.c .sl0)])
 (.seq (R [.o s10 (.ldn 5 a1), .o s11 (.call 268 [a10]), V s9 a11, .o s12 (.extract 0 a9), .o s13 (.extract 1 a9), .o s3 (.alloc [(.i .i64 0), (.i .i64 0), .sl0, .sl0, .sl0] 42), .n (.st 5 a3 a12), V s4 a13])
 (.seq (R [.o s15 (.ldn 5 a3), .o s16 (.call 269 [a15]), V s14 a16, .o s17 (.extract 0 a14), .o s18 (.extract 1 a14), .o s5 (.alloc [.sl0] 123), .n (.st 1 a5 a17), V s6 a18])
 (.seq (.seq (R [V s19 a6, .o s20 (.eq true 0 a19 (ci 0))])
 (.cond a20 .bad .skip))
 (.seq (R [.o s22 (.ldn 1 a5), .o s23 (.call 270 [a22]), V s21 a23, .o s24 (.extract 0 a21), .o s25 (.extract 1 a21), V s7 a24, V s8 a25])
 (.seq (R [V s26 a7, V s2 a26])
 .ret)))))),
 [.tmp s2]⟩
def L152 : LFun := ⟨[s0, s1, s2],
 (.seq (R [.o s3 (.box 30 a0), .o s4 (.box 9 a1), .o s5 (.box 57 a2), .o s6 (.alloc [.sl0, (.i .i64 0), (.i .i64 0), (.i .i64 0), .sl0, .sl0, .sl0, .sl0, .sl0, (.i .i64 0), (.i .i64 0), .sl0, .sl0, (.i .i64 0), (.i .i64 0), .sl0, .sl0, .sl0, (.i .u64 0), (.i .i64 0), (.i .i64 0), (.i .i64 0), .sl0, .sl0, .sl0, .sl0, .sl0, .f0, (.b false)] 86)])
 (.seq (R [.o s8 (.mkf 271 [] [a5, a3, a4]), V s7 a8])
 (.seq (.draw 1 [.r 0 0 (.o s9 (.ld1 a4)), .q 1 0 (.o s10 (.faddr 3 a5)), .r 2 2 (.o s11 (.ld1 a10)), .q 3 6 (.o s12 (.lenV a11)), .q 6 0 (V s15 a7), .r 7 0 (.o s16 (.ld1 a3)), .q 8 128 (.o s17 (.nilc a16)), .q 9 384 (.o s18 (.faddr 2 a17)), .r 10 896 (.o s19 (.ld1 a18)), .r 11 0 (.o s20 (.ld1 a4)), .s 4 14 (.o s13 (.call 22 [a12])), .a 5 31 0 (.o s14 (.bslice 9 2 1 [(.s 0 0), (.s 0 0)] [(0, 1, a9), (1, 1, a13)])), .s 12 3998 (.o s21 (.call 272 [a19, a20])), .q 13 8191 (.o s22 (.build [.sl0, (.i .i64 0), (.i .i64 0), (.i .i64 0), .sl0, .sl0, .sl0, .sl0, .sl0, (.i .i64 0), (.i .i64 0), .sl0, .sl0, (.i .i64 0), (.i .i64 0), .sl0, .sl0, .sl0, (.i .u64 0), (.i .i64 0), (.i .i64 0), (.i .i64 0), .sl0, .sl0, .sl0, .sl0, .sl0, .f0, (.b false)] [(0, 1, a14), (27, 1, a15), (28, 1, a21)])), .s 14 16383 (.n (.st 29 a6 a22))])
 .ret))),
 [.cn s6 29]⟩
def L153 : LFun := ⟨[s0],
 (.seq (R [.o s1 (.box 42 a0), .o s2 (.alloc [(.i .i64 0), (.i .i64 0), .sl0, .sl0, .sl0] 42)])
 (.seq (.draw 0 [.q 0 0 (.o s3 (.faddr 2 a1)), .r 1 1 (.o s4 (.ld1 a3)), .q 3 0 (.o s6 (.faddr 3 a1)), .r 4 8 (.o s7 (.ld1 a6)), .q 6 0 (.o s9 (.faddr 4 a1)), .r 7 64 (.o s10 (.ld1 a9)), .s 2 3 (.o s5 (.call 273 [a4])), .q 9 223 (.o s12 (.faddr 2 a1)), .s 5 31 (.o s8 (.call 273 [a7])), .s 8 255 (.o s11 (.call 274 [a10])), .s 10 1023 (.n (.st 1 a12 a5)), .q 11 2047 (.o s13 (.faddr 3 a1)), .s 12 4095 (.n (.st 1 a13 a8)), .q 13 8191 (.o s14 (.faddr 4 a1)), .s 14 16383 (.n (.st 1 a14 a11))])
 (.seq (R [.o s15 (.ldn 5 a1), .n (.st 5 a2 a15)])
 .ret))),
 [.cn s2 5]⟩
def L154 : LFun := ⟨[s0],
 (.seq (R [.o s1 (.box 57 a0), .o s2 (.alloc [.sl0, .sl0, .sl0, .sl0] 57)])
 (.seq (.draw 0 [.q 0 0 (.o s3 (.faddr 0 a1)), .r 1 1 (.o s4 (.ld1 a3)), .q 3 0 (.o s6 (.faddr 1 a1)), .r 4 8 (.o s7 (.ld1 a6)), .s 2 3 (.o s5 (.call 273 [a4])), .q 6 31 (.o s9 (.faddr 0 a1)), .s 5 31 (.o s8 (.call 273 [a7])), .s 7 127 (.n (.st 1 a9 a5)), .q 8 255 (.o s10 (.faddr 1 a1)), .s 9 511 (.n (.st 1 a10 a8))])
 (.seq (.draw 0 [.q 0 0 (.o s11 (.faddr 2 a1)), .r 1 1 (.o s12 (.ld1 a11)), .q 3 0 (.o s14 (.faddr 3 a1)), .r 4 8 (.o s15 (.ld1 a14)), .s 2 3 (.o s13 (.call 273 [a12])), .q 6 31 (.o s17 (.faddr 2 a1)), .s 5 31 (.o s16 (.call 274 [a15])), .s 7 127 (.n (.st 1 a17 a13)), .q 8 255 (.o s18 (.faddr 3 a1)), .s 9 511 (.n (.st 1 a18 a16))])
 (.seq (R [.o s19 (.ldn 4 a1), .n (.st 4 a2 a19)])
 .ret)))),
 [.cn s2 4]⟩
def L155 : LFun := ⟨[s0, s1],
 (.seq (R [.o s4 (.alloc [.sl0, .sl0, .sl0, .sl0] 57), V s5 (.c .sl0), V s6 (ci 0)])
 (.seq (.seq (R [V s7 a1, .o s8 (.call 148 [a7, (ci 3)]), .o s9 (.not a8)])
 (.cond a9 .bad .skip))
 (.seq (.seq (.draw 0 [.q 0 0 (V s12 a0), .q 1 1 (.o s13 (.nilc a12)), .q 2 3 (.o s14 (.faddr 2 a13)), .r 3 7 (.o s15 (.ld1 a14)), .q 4 0 (V s16 a1), .q 5 16 (.o s17 (.iaddr 1 a16 (ci 1))), .r 6 48 (.o s18 (.ld1 a17)), .s 7 127 (.o s19 (.call 275 [a15, a18])), .q 8 255 (V s11 a19), .q 9 511 (.o s20 (.extract 0 a11)), .q 10 511 (.o s21 (.extract 1 a11)), .s 11 1023 (.n (.st 4 a4 a20)), .q 12 4095 (V s6 a21)])
 (.seq (R [V s22 a6, .o s23 (.eq false 0 a22 (ci 0))])
 (.cond a23 (.draw 0 [.q 0 0 (V s25 a0), .q 1 1 (.o s26 (.nilc a25)), .q 2 3 (.o s27 (.faddr 1 a26)), .r 3 7 (.o s28 (.ld1 a27)), .q 4 0 (V s29 a1), .q 5 16 (.o s30 (.iaddr 1 a29 (ci 2))), .r 6 48 (.o s31 (.ld1 a30)), .s 7 127 (.o s32 (.call 159 [a28, a31])), .q 8 255 (V s24 a32), .q 9 511 (.o s33 (.extract 0 a24)), .q 10 511 (.o s34 (.extract 1 a24)), .q 11 1023 (V s5 a33), .q 12 4095 (V s6 a34)]) .skip)))
 (.seq (R [.o s35 (.ldn 4 a4), V s36 a5, V s37 a6, .n (.st 4 a4 a35), V s5 a36, V s6 a37])
 .ret)))),
 [.cn s4 4, .tmp s5, .tmp s6]⟩
def L156 : LFun := ⟨[s0, s1],
 (.seq (R [.o s2 (.box 57 a0), V s4 (.c .sl0), V s5 (ci 0)])
 (.seq (.seq (R [.o s10 (.ldn 4 a2), V s11 a1, .o s12 (.call 276 [a10, a11]), V s6 a12])
 (.seq (R [V s13 a6, .o s14 (.eq true 0 a13 (ci 0))])
 (.cond a14 .bad .skip)))
 (.seq (.draw 0 [.r 0 0 (.o s17 (.ldn 4 a2)), .q 1 0 (V s18 a1), .q 2 0 (.o s19 (.faddr 0 a2)), .r 3 4 (.o s20 (.ld1 a19)), .q 5 0 (V s22 a1), .q 6 32 (.o s23 (.lenV a22)), .s 4 14 (.o s21 (.call 278 [a18, a20])), .s 7 126 (.o s24 (.call 279 [a23])), .s 8 255 (.o s25 (.call 277 [a17, a21, a24])), .q 9 511 (V s16 a25), .q 10 1023 (.o s26 (.extract 0 a16)), .q 11 1023 (.o s27 (.extract 1 a16)), .q 12 2047 (V s7 a26), .q 13 8191 (V s8 a27)])
 (.seq (.seq (R [V s28 a8, .o s29 (.eq true 0 a28 (ci 0))])
 (.cond a29 .bad .skip))
 (.seq (R [.o s32 (.ldn 4 a2), V s33 a7, .o s34 (.call 280 [a32, a33]), V s31 a34, .o s35 (.extract 0 a31), .o s36 (.extract 1 a31), V s9 a35, V s8 a36])
 (.seq (.seq (R [V s37 a8, .o s38 (.eq true 0 a37 (ci 0))])
 (.cond a38 .bad .skip))
 (.seq (R [V s40 a9, .o s41 (.faddr 0 a2), .o s42 (.ld1 a41), .o s43 (.call 281 [a40, a42]), V s4 a43, V s5 (ci 0)])
 .ret))))))),
 [.tmp s4, .tmp s5]⟩
def L157 : LFun := ⟨[s0],
 (.seq (R [V s2 (.c .sl0)])
 (.seq (R [V s3 (.c .sl0)])
 (.seq (.seq (R [V s6 a0, .o s7 (.lenV a6), V s8 (ci 0)])
 (.block 0 (.loop (.seq (R [.o s9 (.ilt a8 a7)])
 (.seq (.cond a9 .skip (.exit 0))
 (.seq (.block 1 (.seq (R [.o s10 (.iaddr 1 a6 a8), .o s11 (.ld1 a10), V s5 a11])
 (R [V s12 a3, V s13 a5, .o s14 (.call 282 [a13]), .o s15 (.bslice 9 1 1 [(.s 0 0)] [(0, 1, a14)]), .o s16 (.append 1 9 a12 a15), V s3 a16])))
 (R [.o s17 (.iadd a8 (ci 1)), V s8 a17])))))))
 (.seq (R [V s18 a3, V s2 a18])
 .ret)))),
 [.tmp s2]⟩
def L159 : LFun := ⟨[s0, s1],
 (.seq (R [V s4 (.c .sl0), V s5 (ci 0)])
 (.seq (R [V s9 a0, V s10 a1, .o s11 (.lookup true .sl0 true a9 a10), V s8 a11, .o s12 (.extract 0 a8), .o s13 (.extract 1 a8), V s6 a12, V s7 a13])
 (.seq (.seq (R [V s14 a7, .o s15 (.not a14)])
 (.cond a15 .bad .skip))
 (.seq (R [V s17 a6, V s4 a17, V s5 (ci 0)])
 .ret)))),
 [.tmp s4, .tmp s5]⟩
def L161 : LFun := ⟨[s0, s1, s2],
 (.seq (R [.o s6 (.alloc [(.i .i64 0), (.i .i64 0), .sl0, .sl0, .sl0] 42), V s7 (.c .sl0), V s8 (ci 0)])
 (.seq (.seq (R [V s10 a1, .o s11 (.lenV a10), V s12 a2, .o s13 (.iadd a12 (ci 1)), .o s14 (.eq true 0 a11 a13), V s15 a14, .g s15 false s16 (.mv a1), .g s15 false s17 (.iaddr 1 a16 (ci 0)), .g s15 false s18 (.ld1 a17), .g s15 false s19 (.call 141 [a18]), .g s15 false s20 (.not a19), .o s21 (.pick a15 (.c (.b true)) a20)])
 (.cond a21 .bad .skip))
 (.seq (R [V s24 a1, .o s25 (.slV 1 a24 (some (ci 1)) none none), .o s26 (.call 143 [a25]), V s23 a26, .o s27 (.extract 0 a23), .o s28 (.extract 1 a23), V s7 a27, V s9 a28])
 (.seq (.seq (R [V s29 a9, .o s30 (.not a29)])
 (.cond a30 .bad .skip))
 (.seq (.draw 0 [.q 0 0 (V s33 a0), .q 1 1 (.o s34 (.nilc a33)), .q 2 3 (.o s35 (.faddr 0 a34)), .r 3 7 (.o s36 (.ld1 a35)), .q 4 0 (V s37 a1), .q 5 16 (.o s38 (.iaddr 1 a37 (ci 0))), .r 6 48 (.o s39 (.ld1 a38)), .s 7 127 (.o s40 (.call 149 [a36, a39])), .q 8 255 (V s32 a40), .q 9 511 (.o s41 (.extract 0 a32)), .q 10 511 (.o s42 (.extract 1 a32)), .s 11 1023 (.n (.st 5 a6 a41)), .q 12 4095 (V s8 a42)])
 (.seq (R [.o s43 (.ldn 5 a6), V s44 a7, V s45 a8, .n (.st 5 a6 a43), V s7 a44, V s8 a45])
 .ret)))))),
 [.cn s6 5, .tmp s7, .tmp s8]⟩
def L162 : LFun := ⟨[s0, s1],
 (.seq (R [.o s2 (.box 42 a0), V s4 (ci 0), V s5 (ci 0)])
 (.seq (.seq (R [.o s9 (.ldn 5 a2), V s10 a1, .o s11 (.call 290 [a9, a10, (.c (.b true))]), V s6 a11])
 (.seq (R [V s12 a6, .o s13 (.eq true 0 a12 (ci 0))])
 (.cond a13 .bad .skip)))
 (.seq (.seq (R [V s15 a1])
 (.block 0 (.seq (R [.o s17 (.eq false 0 a15 (.c (.i .u64 9218868437227405312))), V s16 a17])
 (.cond a16 .bad (.seq (R [.o s21 (.eq false 0 a15 (.c (.i .u64 18442240474082181120))), V s20 a21])
 (.cond a20 .bad .skip))))))
 (.seq (R [.o s23 (.ldn 5 a2), V s24 a1, .o s25 (.call 163 [a23, a24]), V s22 a25, .o s26 (.extract 0 a22), .o s27 (.extract 1 a22), .o s7 (.alloc [(.i .i64 0), (.i .i64 0), (.i .i64 0)] 54), .n (.st 3 a7 a26), V s8 a27])
 (.seq (R [.o s28 (.faddr 0 a7), .o s29 (.ld1 a28), .o s30 (.faddr 1 a7), .o s31 (.ld1 a30), .o s32 (.iadd a29 a31), V s33 a8, V s4 a32, V s5 a33])
 .ret))))),
 [.tmp s4, .tmp s5]⟩
def L163 : LFun := ⟨[s0, s1],
 (.seq (R [.o s2 (.box 42 a0), .o s4 (.alloc [(.i .i64 0), (.i .i64 0), (.i .i64 0)] 54), V s5 (ci 0)])
 (.seq (.seq (R [.o s11 (.ldn 5 a2), V s12 a1, .o s13 (.call 290 [a11, a12, (.c (.b false))]), V s6 a13])
 (.seq (R [V s14 a6, .o s15 (.eq true 0 a14 (ci 0))])
 (.cond a15 .bad .skip)))
 (.seq (R [.o s19 (.ldn 5 a2), V s20 a1, .o s21 (.call 293 [a19, a20]), .o s22 (.call 292 [a21]), .o s23 (.call 291 [a22]), V s18 a23, .o s24 (.extract 0 a18), .o s25 (.extract 1 a18), .o s26 (.extract 2 a18), .o s27 (.extract 3 a18), V s7 a24, V s8 a25, V s9 a26, V s10 a27])
 (.seq (R [V s28 a7, V s29 a8, V s30 a9, .o s31 (.build [(.i .i64 0), (.i .i64 0), (.i .i64 0)] [(0, 1, a28), (1, 1, a29), (2, 1, a30)]), V s32 a10, .n (.st 3 a4 a31), V s5 a32])
 .ret)))),
 [.cn s4 3, .tmp s5]⟩
def L165 : LFun := ⟨[s0, s1],
 (.seq (R [.o s4 (.alloc [(.i .i64 0), (.i .i64 0), .sl0, .sl0, .sl0] 42), V s5 (ci 0)])
 (.seq (.seq (R [V s6 a1, .o s7 (.call 148 [a6, (ci 1)]), .o s8 (.not a7)])
 (.cond a8 .bad .skip))
 (.seq (.draw 0 [.q 0 0 (V s10 a0), .q 1 1 (.o s11 (.nilc a10)), .q 2 3 (.o s12 (.faddr 0 a11)), .r 3 7 (.o s13 (.ld1 a12)), .q 4 0 (V s14 a1), .q 5 16 (.o s15 (.iaddr 1 a14 (ci 0))), .r 6 48 (.o s16 (.ld1 a15)), .s 7 127 (.o s17 (.call 149 [a13, a16])), .q 8 255 (.o s18 (.extract 0 a17)), .q 9 255 (.o s19 (.extract 1 a17)), .s 10 1023 (.n (.st 5 a4 a18)), .q 11 2047 (V s5 a19)])
 .ret))),
 [.cn s4 5, .tmp s5]⟩
def L166 : LFun := ⟨[s0],
 (.seq (R [.o s1 (.box 42 a0), .o s2 (.alloc [(.i .i64 0), (.i .i64 0), .sl0, .sl0, .sl0] 50), V s3 (ci 0)])
 (.seq (R [.o s13 (.ldn 5 a1), .o s14 (.call 298 [a13]), V s12 a14, .o s15 (.extract 0 a12), .o s16 (.extract 1 a12), .o s17 (.extract 2 a12), V s4 a15, V s5 a16, V s6 a17])
 (.seq (.seq (R [V s18 a6, .o s19 (.eq true 0 a18 (ci 0))])
 (.cond a19 .bad .skip))
 (.seq (R [V s22 a4, .o s23 (.faddr 1 a1), .o s24 (.ld1 a23), .o s25 (.call 299 [a22, a24]), .o s26 (.build [(.i .i64 0), (.i .i64 0), .sl0, .sl0, .sl0] [(4, 1, a25)]), .o s7 (.alloc [(.i .i64 0), (.i .i64 0), .sl0, .sl0, .sl0] 50), .n (.st 5 a7 a26)])
 (.seq (R [.o s27 (.faddr 1 a1), .o s28 (.ld1 a27), .o s29 (.faddr 4 a7), .o s30 (.ld1 a29), .o s31 (.lenV a30), .o s32 (.isub a28 a31), .o s33 (.faddr 0 a7), .n (.st 1 a33 a32)])
 (.seq (.seq (R [.o s34 (.call 300 [(ci 2147483648), (ci 5)]), .o s35 (.lenV a34), V s36 (ci 0)])
 (.block 0 (.loop (.seq (R [.o s37 (.ilt a36 a35)])
 (.seq (.cond a37 .skip (.exit 0))
 (.seq (.block 1 (.seq (R [.o s38 (.iaddr 1 a34 a36), .o s39 (.ld1 a38), V s9 a39])
 (.seq (R [V s40 a4, V s41 a9, .o s42 (.call 301 [a40, a41]), V s10 a42])
 (.seq (R [V s43 a10, V s44 a9, .o s45 (.call 302 [a43, a44]), V s11 a45])
 (.seq (R [V s46 a11, .o s47 (.lenV a46), .o s48 (.faddr 0 a7), .o s49 (.ld1 a48), .o s50 (.eq false 0 a47 a49)])
 (.cond a50 (.seq (R [V s51 a9, V s52 a11, V s53 a10, .o s54 (.faddr 1 a1), .o s55 (.ld1 a54), .o s56 (.call 303 [a53, a55]), V s57 a9, .o s58 (.call 302 [a56, a57]), .o s59 (.faddr 1 a7), .n (.st 1 a59 a51), .o s60 (.faddr 2 a7), .n (.st 1 a60 a52), .o s61 (.faddr 3 a7), .n (.st 1 a61 a58)])
 (.seq (R [.o s62 (.ldn 5 a7), .n (.st 5 a2 a62), V s3 (ci 0)])
 .ret)) .skip))))))
 .bad))))))
 .bad)))))),
 [.cn s2 5, .tmp s3]⟩
def L168 : LFun := ⟨[s0],
 (.seq (R [V s2 (.c (.s 0 0))])
 (.seq (.seq (R [V s3 a0, .o s4 (.ilt a3 (ci 10))])
 (.cond a4 (.seq (R [V s5 a0, V s6 a0, .o s7 (.iadd a6 (ci 1)), .o s8 (.slS (.c (.s 36 237927390410950444456928663707796224754864904193074819559483181009558347043374296609072)) (some a5) (some a7)), V s2 a8])
 .ret) .skip))
 .bad)),
 [.tmp s2]⟩
def L169 : LFun := ⟨[s0],
 (.seq (R [V s2 (ci 0)])
 (.seq (R [V s4 a0, .o s5 (.call 308 [a4]), .o s6 (.call 307 [a5]), V s3 a6])
 (.seq (R [V s7 a3, V s8 a0, V s9 a3, .o s10 (.iaddrA 20 1 (.c (.g 1 0)) a9), .o s11 (.ld1 a10), .o s12 (.ige a8 a11), .o s13 (.call 309 [a12]), .o s14 (.iadd a7 a13), V s2 a14])
 .ret))),
 [.tmp s2]⟩
def L170 : LFun := ⟨[s0, s1],
 (.seq (R [V s17 a0, .o s18 (.lenV a17), V s4 a18])
 (.seq (.block 0 (.loop (.seq (.seq (R [V s19 a4, .o s20 (.ige a19 (ci 8))])
 (.cond a20 .skip (.exit 0)))
 .bad)))
 (.seq (R [V s96 a1, .o s97 (.convI .u32 a96), V s12 a97])
 (.seq (.seq (R [V s98 a4, .o s99 (.ige a98 (ci 4))])
 (.cond a99 .bad .skip))
 (.seq (.seq (R [V s138 a4, .o s139 (.ige a138 (ci 2))])
 (.cond a139 (.seq (R [V s140 a12, .o s141 (.irem a140 (.c (.i .u32 100))), .o s142 (.imul a141 (.c (.i .u32 2))), V s16 a142])
 (.seq (R [V s143 a12, .o s144 (.iquo a143 (.c (.i .u32 100))), V s12 a144])
 (.seq (.draw 0 [.q 0 0 (V s145 a0), .q 1 0 (V s146 a4), .q 2 2 (.o s147 (.isub a146 (ci 1))), .q 3 0 (V s148 a0), .q 4 0 (V s149 a4), .q 5 16 (.o s150 (.isub a149 (ci 2))), .q 6 0 (V s151 a16), .q 7 64 (.o s152 (.iadd a151 (.c (.i .u32 1)))), .q 8 192 (.o s153 (.idxS (.c (.s 200 9938655150514779720929161263213647789093395803754561035662628441001274968862597953692946393464194303251501229616933063375291039650253924995779037586872666250072396106842829501851083234932712366962979930255066872747696324303968523733872590022915936937156789320557469720923390131174387415513794469201054844961267015441141542819553679203788501627738430154234325528792480477051962324423099068299719245009424585859096469223093538032153047611602695245052081125123941502624659711709950000)) a152)), .q 9 0 (V s154 a16), .q 10 512 (.o s155 (.idxS (.c (.s 200 9938655150514779720929161263213647789093395803754561035662628441001274968862597953692946393464194303251501229616933063375291039650253924995779037586872666250072396106842829501851083234932712366962979930255066872747696324303968523733872590022915936937156789320557469720923390131174387415513794469201054844961267015441141542819553679203788501627738430154234325528792480477051962324423099068299719245009424585859096469223093538032153047611602695245052081125123941502624659711709950000)) a154)), .q 11 455 (.o s156 (.iaddr 1 a145 a147)), .s 12 2503 (.n (.st 1 a156 a153)), .q 13 8191 (.o s157 (.iaddr 1 a148 a150)), .s 14 16383 (.n (.st 1 a157 a155))])
 (R [V s158 a4, .o s159 (.isub a158 (ci 2)), V s4 a159])))) .skip))
 (.seq (R [V s160 a4, .o s161 (.igt a160 (ci 0))])
 (.cond a161 (R [V s162 a0, V s163 a12, .o s164 (.iadd (.c (.i .u32 48)) a163), .o s165 (.convI .u8 a164), .o s166 (.iaddr 1 a162 (ci 0)), .n (.st 1 a166 a165)]) .skip))))))),
 []⟩
def L173 : LFun := ⟨[s0],
 (.seq (R [V s2 (.c (.b false)), V s3 (.c (.s 0 0)), V s4 (ci 0), V s5 (ci 0), V s6 (.c (.b false))])
 (.seq (R [V s7 (ci 0)])
 (.seq (.seq (R [V s10 a0, .o s11 (.lenS a10), .o s12 (.igt a11 (ci 0)), V s13 a12, .g s13 true s14 (.mv a0), .g s13 true s15 (.idxS a14 (ci 0)), .g s13 true s16 (.eq false 0 a15 (.c (.i .u8 43))), .g s13 true s17 (.mv a16), .g s17 false s18 (.mv a0), .g s17 false s19 (.idxS a18 (ci 0)), .g s17 false s20 (.eq false 0 a19 (.c (.i .u8 45))), .g s13 true s21 (.pick a17 (.c (.b true)) a20), .o s22 (.pick a13 a21 (.c (.b false)))])
 (.cond a22 .bad .skip))
 (.seq (R [V s8 (.c (.b false))])
 (.seq (.block 0 (.loop (.seq (.seq (R [V s26 a7, V s27 a0, .o s28 (.lenS a27), .o s29 (.ilt a26 a28), V s30 a29, .g s30 true s31 (.mv a0), .g s30 true s32 (.mv a7), .g s30 true s33 (.idxS a31 a32), .g s30 true s34 (.call 312 [a33]), .g s30 true s35 (.mv a34), .g s35 false s36 (.mv a0), .g s35 false s37 (.mv a7), .g s35 false s38 (.idxS a36 a37), .g s35 false s39 (.eq false 0 a38 (.c (.i .u8 46))), .g s35 false s40 (.mv a39), .g s40 true s41 (.mv a8), .g s40 true s42 (.not a41), .g s35 false s43 (.pick a40 a42 (.c (.b false))), .g s30 true s44 (.pick a35 (.c (.b true)) a43), .o s45 (.pick a30 a44 (.c (.b false)))])
 (.cond a45 .skip (.exit 0)))
 (.block 1 (.seq (.seq (R [V s46 a0, V s47 a7, .o s48 (.idxS a46 a47), .o s49 (.eq false 0 a48 (.c (.i .u8 46)))])
 (.cond a49 .bad (.seq (R [V s50 a3, V s51 a0, V s52 a7, V s53 a7, .o s54 (.iadd a53 (ci 1)), .o s55 (.slS a51 (some a52) (some a54)), .o s56 (.sadd a50 a55), V s3 a56])
 (.seq (R [V s57 a8])
 (.cond a57 .bad .skip)))))
 (R [V s60 a7, .o s61 (.iadd a60 (ci 1)), V s7 a61]))))))
 (.seq (.seq (R [V s62 a3, .o s63 (.lenS a62), .o s64 (.eq false 0 a63 (ci 0))])
 (.cond a64 .bad .skip))
 (.seq (.seq (R [V s65 a7, V s66 a0, .o s67 (.lenS a66), .o s68 (.eq false 0 a65 a67)])
 (.cond a68 (.seq (R [V s69 a2, V s70 a3, V s71 a4, V s2 a69, V s3 a70, V s4 a71, V s5 (ci 0), V s6 (.c (.b true))])
 .ret) .skip))
 .bad))))))),
 [.tmp s2, .tmp s3, .tmp s4, .tmp s5, .tmp s6]⟩
def L174 : LFun := ⟨[s0],
 (.seq (R [.o s1 (.box 165 a0), .o s2 (.alloc [(.b false), (.b false), .sl0, (.i .i64 0)] 165)])
 (.seq (.seq (R [.o s3 (.faddr 0 a1), .o s4 (.ld1 a3)])
 (.cond a4 .bad .skip))
 (.seq (R [.o s6 (.faddr 1 a1), .o s7 (.ldn 2 a6), .o s8 (.faddr 3 a1), .o s9 (.ld1 a8), .o s10 (.call 190 [a7, a9]), .n (.st 4 a2 a10)])
 .ret))),
 [.cn s2 4]⟩
def L175 : LFun := ⟨[s0],
 (.seq (R [.o s1 (.box 163 a0), V s2 (ci 0)])
 (.seq (R [.o s3 (.ldn 2 a1), .o s4 (.call 313 [a3]), .n (.st 2 a1 a4)])
 (.seq (.block 0 (.seq (R [.o s6 (.faddr 1 a1), .o s7 (.ld1 a6), .o s8 (.lenV a7), .o s9 (.eq false 0 a8 (ci 0)), V s5 a9])
 (.cond a5 (.seq (R [V s2 (ci 0)])
 .ret) (.seq (R [.o s11 (.faddr 0 a1), .o s12 (.ld1 a11), V s10 a12])
 (.cond a10 (.seq (R [V s2 (ci 18446744073709551615)])
 .ret) .skip)))))
 (.seq (R [V s2 (ci 1)])
 .ret)))),
 [.tmp s2]⟩
def L176 : LFun := ⟨[s0, s1, s2, s3, s4],
 (.seq (R [.o s6 (.box 163 a1), V s10 (.c (.i .u64 0))])
 (.seq (R [V s16 a2, .o s17 (.ldn 2 a6), .o s18 (.call 314 [a17]), .o s19 (.iadd a16 a18), .o s20 (.isub a19 (ci 1)), V s11 a20])
 (.seq (.seq (R [V s21 a11, .o s22 (.ige a21 (ci 1024))])
 (.cond a22 .bad .skip))
 (.seq (R [V s26 a11, .o s27 (.isub a26 (ci 52)), .o s28 (.imax a27 (ci 18446744073709550542)), V s12 a28])
 (.seq (R [.o s13 (.alloc [(.b false), .sl0] 163)])
 (.seq (.seq (R [V s29 a12, V s30 a2, .o s31 (.ige a29 a30)])
 (.cond a31 (R [V s32 a0, .o s33 (.ldn 2 a6), V s34 a12, V s35 a2, .o s36 (.isub a34 a35), V s37 a3, V s38 a4, .o s39 (.call 316 [a32, a33, a36, a37, a38]), .n (.st 2 a13 a39)]) (R [.o s40 (.ldn 2 a6), V s41 a2, V s42 a12, .o s43 (.isub a41 a42), .o s44 (.call 195 [a40, a43]), .n (.st 2 a13 a44)])))
 (.seq (R [.o s46 (.ldn 2 a13), .o s47 (.call 317 [a46]), V s45 a47, .o s48 (.extract 0 a45), .o s49 (.extract 1 a45), V s14 a48, V s15 a49])
 (.seq (.seq (R [V s50 a14, .o s51 (.eq false 0 a50 (ci 9007199254740992))])
 (.cond a51 .bad .skip))
 (.seq (.block 0 (.seq (R [V s55 a14, .o s56 (.ige a55 (ci 4503599627370496)), V s57 a56, .g s57 true s58 (.mv a12), .g s57 true s59 (.iadd a58 (ci 53)), .g s57 true s60 (.igt a59 (ci 1024)), .o s61 (.pick a57 a60 (.c (.b false))), V s54 a61])
 (.cond a54 .bad (.seq (R [V s66 a14, .o s67 (.ige a66 (ci 4503599627370496)), V s65 a67])
 (.cond a65 (.seq (R [V s68 a0, V s69 a12, .o s70 (.iadd a69 (ci 1075)), .o s71 (.convI .u64 a70), .o s72 (.ishl a71 (.c (.i .u64 52))), V s73 a14, .o s74 (.isub a73 (ci 4503599627370496)), .o s75 (.convI .u64 a74), .o s76 (.ior a72 a75), .o s77 (.call 318 [a68, a76]), V s10 a77])
 .ret) .skip)))))
 .bad))))))))),
 [.tmp s10]⟩
def L177 : LFun := ⟨[s0],
 (.seq (R [.o s1 (.box 163 a0), .o s2 (.alloc [(.b false), .sl0] 163)])
 (.seq (R [.o s3 (.faddr 1 a1), .o s4 (.ld1 a3), .o s5 (.call 319 [(.c (.b false)), a4]), .n (.st 2 a2 a5)])
 .ret)),
 [.cn s2 2]⟩
def L178 : LFun := ⟨[s0, s1],
 (.seq (R [.o s2 (.box 165 a0), .o s3 (.box 165 a1), .o s4 (.alloc [(.b false), (.b false), .sl0, (.i .i64 0)] 165)])
 (.seq (.draw 0 [.r 0 0 (.o s8 (.ldn 4 a2)), .r 2 0 (.o s10 (.ldn 4 a3)), .s 1 1 (.o s9 (.call 174 [a8])), .s 3 7 (.o s11 (.call 174 [a10])), .s 4 15 (.n (.st 4 a2 a9)), .s 5 31 (.n (.st 4 a3 a11))])
 (.seq (.seq (R [.o s12 (.faddr 0 a2), .o s13 (.ld1 a12), V s14 a13, .g s14 false s15 (.faddr 0 a3), .g s14 false s16 (.ld1 a15), .o s17 (.pick a14 (.c (.b true)) a16)])
 (.cond a17 .bad .skip))
 (.seq (R [.o s20 (.ldn 4 a2), .o s21 (.ldn 4 a3), .o s22 (.call 320 [a20, a21]), V s19 a22, .o s23 (.extract 0 a19), .o s24 (.extract 1 a19), .o s25 (.extract 2 a19), .o s5 (.alloc [(.b false), .sl0] 163), .o s6 (.alloc [(.b false), .sl0] 163), .n (.st 2 a5 a23), .n (.st 2 a6 a24), V s7 a25])
 (.seq (R [.o s26 (.ldn 2 a5), .o s27 (.ldn 2 a6), .o s28 (.call 194 [a26, a27]), V s29 a7, .o s30 (.call 190 [a28, a29]), .n (.st 4 a4 a30)])
 .ret))))),
 [.cn s4 4]⟩
def L179 : LFun := ⟨[s0],
 (.seq (R [V s2 (.c (.b false))])
 (.seq (.seq (R [V s3 (ci 0)])
 (.block 0 (.loop (.seq (.seq (R [V s4 a3, V s5 a0, .o s6 (.lenV a5), .o s7 (.ilt a4 a6)])
 (.cond a7 .skip (.exit 0)))
 (.seq (.block 1 (.seq (R [V s10 a0, V s11 a3, .o s12 (.iaddr 1 a10 a11), .o s13 (.ld1 a12), .o s14 (.call 82 [a13]), .o s15 (.not a14)])
 (.cond a15 .bad .skip)))
 (R [V s8 a3, .o s9 (.iadd a8 (ci 1)), V s3 a9]))))))
 (.seq (R [V s2 (.c (.b true))])
 .ret))),
 [.tmp s2]⟩
def L180 : LFun := ⟨[s0],
 (.seq (R [V s2 (.c (.b false))])
 (.seq (.seq (R [V s3 (ci 1)])
 (.block 0 (.loop (.seq (.seq (R [V s4 a3, V s5 a0, .o s6 (.lenV a5), .o s7 (.ilt a4 a6)])
 (.cond a7 .skip (.exit 0)))
 .bad))))
 (.seq (R [V s2 (.c (.b true))])
 .ret))),
 [.tmp s2]⟩
def L181 : LFun := ⟨[s0, s1],
 (.seq (R [V s4 (.c (.b false))])
 (.seq (.seq (R [V s5 (ci 0)])
 (.block 0 (.loop (.seq (.seq (R [V s6 a5, V s7 a0, .o s8 (.lenV a7), .o s9 (.ilt a6 a8)])
 (.cond a9 .skip (.exit 0)))
 .bad))))
 (.seq (R [V s4 (.c (.b false))])
 .ret))),
 [.tmp s4]⟩
def L182 : LFun := ⟨[s0],
 (.seq (R [.o s1 (.box 123 a0), V s2 (.c .sl0)])
 (.seq (R [.o s8 (.faddr 0 a1), .o s9 (.ld1 a8), .o s10 (.lenV a9), V s3 a10])
 (.seq (R [V s4 (.c .sl0)])
 (.seq (.seq (R [V s5 (ci 0)])
 (.block 0 (.loop (.seq (.seq (R [V s11 a5, V s12 a3, .o s13 (.ilt a11 a12)])
 (.cond a13 .skip (.exit 0)))
 (.seq (.block 1 (.seq (R [V s16 a3, .o s17 (.mks 4 1 [(.b false)] a16 a16), V s6 a17])
 (.seq (.seq (R [V s7 (ci 0)])
 (.block 2 (.loop (.seq (.seq (R [V s18 a7, .o s19 (.faddr 0 a1), .o s20 (.ld1 a19), V s21 a5, .o s22 (.iaddr 1 a20 a21), .o s23 (.ld1 a22), .o s24 (.lenV a23), .o s25 (.ilt a18 a24)])
 (.cond a25 .skip (.exit 2)))
 .bad))))
 (R [V s38 a4, V s39 a6, .o s40 (.bslice 172 1 1 [.sl0] [(0, 1, a39)]), .o s41 (.append 1 172 a38 a40), V s4 a41]))))
 (R [V s14 a5, .o s15 (.iadd a14 (ci 1)), V s5 a15]))))))
 (.seq (R [V s42 a4, V s2 a42])
 .ret))))),
 [.tmp s2]⟩
def L183 : LFun := ⟨[s0],
 (.seq (R [V s2 (ci 0), V s3 (ci 0)])
 (.seq (R [V s20 a0, .o s21 (.nilc a20), .o s22 (.faddr 3 a21), .o s23 (.ld1 a22), .o s24 (.lenV a23), V s4 a24])
 (.seq (R [V s5 (ci 18446744073709551615)])
 (.seq (.seq (R [V s6 (ci 0)])
 (.block 0 (.loop (.seq (.seq (R [V s25 a6, V s26 a4, .o s27 (.ilt a25 a26)])
 (.cond a27 .skip (.exit 0)))
 (.seq (.block 1 (.seq (.draw 0 [.q 0 0 (V s30 a0), .q 1 1 (.o s31 (.nilc a30)), .q 2 3 (.o s32 (.faddr 4 a31)), .r 3 7 (.o s33 (.ld1 a32)), .q 4 0 (V s34 a6), .q 5 31 (.o s35 (.iaddr 1 a33 a34)), .r 6 63 (.o s36 (.ld1 a35)), .q 7 127 (.o s37 (.not a36)), .q 8 255 (V s38 a37), .q 9 511 (.g s38 true s39 (.mv a5)), .q 10 1023 (.g s38 true s40 (.ilt a39 (ci 0))), .q 11 2047 (.g s38 true s41 (.mv a40)), .q 12 4095 (.g s41 false s42 (.mv a0)), .q 13 8191 (.g s41 false s43 (.nilc a42)), .q 14 16383 (.g s41 false s44 (.faddr 3 a43)), .r 15 32767 (.g s41 false s45 (.ld1 a44)), .q 16 4095 (.g s41 false s46 (.mv a6)), .q 17 131071 (.g s41 false s47 (.iaddr 1 a45 a46)), .r 18 262143 (.g s41 false s48 (.ld1 a47)), .q 19 4095 (.g s41 false s49 (.mv a0)), .q 20 528383 (.g s41 false s50 (.nilc a49)), .q 21 1576959 (.g s41 false s51 (.faddr 3 a50)), .r 22 3674111 (.g s41 false s52 (.ld1 a51)), .q 23 4095 (.g s41 false s53 (.mv a5)), .q 24 16257023 (.g s41 false s54 (.iaddr 1 a52 a53)), .r 25 33034239 (.g s41 false s55 (.ld1 a54)), .q 26 67108863 (.g s41 false s56 (.ilt a48 a55)), .q 27 134217727 (.g s38 true s57 (.pick a41 (.c (.b true)) a56)), .q 28 268435455 (.o s58 (.pick a38 a57 (.c (.b false))))])
 (.cond a58 (R [V s59 a6, V s5 a59]) .skip)))
 (R [V s28 a6, .o s29 (.iadd a28 (ci 1)), V s6 a29]))))))
 (.seq (R [V s60 a0, .o s61 (.nilc a60), .o s62 (.faddr 3 a61), .o s63 (.ld1 a62), V s64 a5, .o s65 (.iaddr 1 a63 a64), .o s66 (.ld1 a65), V s7 a66])
 (.seq (R [V s67 a0, .o s68 (.nilc a67), .o s69 (.faddr 4 a68), .o s70 (.ld1 a69), V s71 a5, .o s72 (.iaddr 1 a70 a71), .n (.st 1 a72 (.c (.b true)))])
 (.seq (.seq (R [V s8 (ci 0)])
 (.block 2 (.loop (.seq (.seq (R [V s73 a8, V s74 a4, .o s75 (.ilt a73 a74)])
 (.cond a75 .skip (.exit 2)))
 (.seq (.block 3 (.seq (R [V s78 a0, .o s79 (.nilc a78), .o s80 (.faddr 0 a79), .o s81 (.ld1 a80), V s82 a5, .o s83 (.iaddr 1 a81 a82), .o s84 (.ld1 a83), V s85 a8, .o s86 (.iaddr 1 a84 a85), .o s87 (.ld1 a86), V s9 a87])
 (.seq (.seq (R [V s10 (ci 0)])
 (.block 4 (.loop (.seq (.seq (R [V s88 a10, V s89 a4, .o s90 (.ilt a88 a89)])
 (.cond a90 .skip (.exit 4)))
 (.seq (.block 5 (R [V s93 a9, V s94 a93, .g s94 false s95 (.mv a0), .g s94 false s96 (.nilc a95), .g s94 false s97 (.faddr 1 a96), .g s94 false s98 (.ld1 a97), .g s94 false s99 (.mv a5), .g s94 false s100 (.iaddr 1 a98 a99), .g s94 false s101 (.ld1 a100), .g s94 false s102 (.mv a10), .g s94 false s103 (.iaddr 1 a101 a102), .g s94 false s104 (.ld1 a103), .g s94 false s105 (.mv a104), .g s105 true s106 (.mv a0), .g s105 true s107 (.nilc a106), .g s105 true s108 (.faddr 2 a107), .g s105 true s109 (.ld1 a108), .g s105 true s110 (.mv a10), .g s105 true s111 (.iaddr 1 a109 a110), .g s105 true s112 (.ld1 a111), .g s105 true s113 (.mv a8), .g s105 true s114 (.iaddr 1 a112 a113), .g s105 true s115 (.ld1 a114), .g s94 false s116 (.pick a105 a115 (.c (.b false))), .o s117 (.pick a94 (.c (.b true)) a116), V s9 a117]))
 (R [V s91 a10, .o s92 (.iadd a91 (ci 1)), V s10 a92]))))))
 (R [V s118 a0, .o s119 (.nilc a118), .o s120 (.faddr 2 a119), .o s121 (.ld1 a120), V s122 a5, .o s123 (.iaddr 1 a121 a122), .o s124 (.ld1 a123), V s125 a8, V s126 a9, V s127 a126, .g s127 true s128 (.mv a8), .g s127 true s129 (.mv a5), .g s127 true s130 (.eq true 0 a128 a129), .o s131 (.pick a127 a130 (.c (.b false))), .o s132 (.iaddr 1 a124 a125), .n (.st 1 a132 a131)]))))
 (R [V s76 a8, .o s77 (.iadd a76 (ci 1)), V s8 a77]))))))
 (.seq (R [V s133 a0, .o s134 (.nilc a133), .o s135 (.faddr 1 a134), .o s136 (.ld1 a135), V s137 a5, .o s138 (.iaddr 1 a136 a137), .o s139 (.ld1 a138), V s11 a139])
 (.seq (R [V s140 a4, V s141 a0, .o s142 (.nilc a141), .o s143 (.faddr 4 a142), .o s144 (.ld1 a143), .o s145 (.call 321 [a144]), .o s146 (.isub a140 a145), V s12 a146])
 (.seq (.seq (R [V s13 (ci 0)])
 (.block 6 (.loop (.seq (.seq (R [V s147 a13, V s148 a4, .o s149 (.ilt a147 a148)])
 (.cond a149 .skip (.exit 6)))
 (.seq (.block 7 (.seq (.seq (R [V s152 a0, .o s153 (.nilc a152), .o s154 (.faddr 2 a153), .o s155 (.ld1 a154), V s156 a5, .o s157 (.iaddr 1 a155 a156), .o s158 (.ld1 a157), V s159 a13, .o s160 (.iaddr 1 a158 a159), .o s161 (.ld1 a160), .o s162 (.not a161)])
 (.cond a162 (.exit 7) .skip))
 .bad))
 (R [V s150 a13, .o s151 (.iadd a150 (ci 1)), V s13 a151]))))))
 (.seq (.seq (R [V s15 (ci 0)])
 (.block 10 (.loop (.seq (.seq (R [V s236 a15, V s237 a4, .o s238 (.ilt a236 a237)])
 (.cond a238 .skip (.exit 10)))
 (.seq (.block 11 (.seq (.seq (R [V s241 a0, .o s242 (.nilc a241), .o s243 (.faddr 2 a242), .o s244 (.ld1 a243), V s245 a5, .o s246 (.iaddr 1 a244 a245), .o s247 (.ld1 a246), V s248 a15, .o s249 (.iaddr 1 a247 a248), .o s250 (.ld1 a249), .o s251 (.not a250)])
 (.cond a251 (.exit 11) .skip))
 .bad))
 (R [V s239 a15, .o s240 (.iadd a239 (ci 1)), V s15 a240]))))))
 (.seq (R [V s342 a5, V s343 a7, V s2 a342, V s3 a343])
 .ret)))))))))))),
 [.tmp s2, .tmp s3]⟩
def L184 : LFun := ⟨[s0, s1],
 (.seq (R [V s4 (.c (.b false))])
 (.seq (.seq (R [V s7 a0, .o s8 (.lenV a7), V s9 a1, .o s10 (.eq true 0 a8 a9)])
 (.cond a10 .bad .skip))
 (.seq (R [V s11 a1, .o s12 (.mks 4 1 [(.b false)] a11 a11), V s5 a12])
 (.seq (.seq (R [V s6 (ci 0)])
 (.block 0 (.loop (.seq (.seq (R [V s13 a6, V s14 a1, .o s15 (.ilt a13 a14)])
 (.cond a15 .skip (.exit 0)))
 (.seq (.block 1 (.seq (.seq (R [V s18 a0, V s19 a6, .o s20 (.iaddr 1 a18 a19), .o s21 (.ld1 a20), .o s22 (.ilt a21 (ci 0)), V s23 a22, .g s23 false s24 (.mv a0), .g s23 false s25 (.mv a6), .g s23 false s26 (.iaddr 1 a24 a25), .g s23 false s27 (.ld1 a26), .g s23 false s28 (.mv a1), .g s23 false s29 (.ige a27 a28), .o s30 (.pick a23 (.c (.b true)) a29), V s31 a30, .g s31 false s32 (.mv a5), .g s31 false s33 (.mv a0), .g s31 false s34 (.mv a6), .g s31 false s35 (.iaddr 1 a33 a34), .g s31 false s36 (.ld1 a35), .g s31 false s37 (.iaddr 1 a32 a36), .g s31 false s38 (.ld1 a37), .o s39 (.pick a31 (.c (.b true)) a38)])
 (.cond a39 .bad .skip))
 (R [V s40 a5, V s41 a0, V s42 a6, .o s43 (.iaddr 1 a41 a42), .o s44 (.ld1 a43), .o s45 (.iaddr 1 a40 a44), .n (.st 1 a45 (.c (.b true)))])))
 (R [V s16 a6, .o s17 (.iadd a16 (ci 1)), V s6 a17]))))))
 (.seq (R [V s4 (.c (.b true))])
 .ret))))),
 [.tmp s4]⟩
def L185 : LFun := ⟨[s0],
 (.seq (R [.o s1 (.box 123 a0), V s2 (.c .p0)])
 (.seq (.draw 2 [.r 0 0 (.o s3 (.ldn 1 a1)), .q 2 0 (.o s5 (.faddr 0 a1)), .r 3 4 (.o s6 (.ld1 a5)), .q 4 12 (.o s7 (.lenV a6)), .a 5 28 0 (.o s8 (.mks 4 1 [(.b false)] a7 a7)), .s 1 1 (.o s4 (.call 182 [a3])), .q 6 63 (.o s9 (.build [.sl0, .sl0] [(0, 1, a4), (1, 1, a8)])), .a 7 127 1 (.o s10 (.box 379 a9)), .q 8 255 (V s2 a10)])
 .ret)),
 [.tmp s2]⟩
def L186 : LFun := ⟨[s0, s1],
 (.seq (R [V s4 (.c .sl0)])
 (.seq (R [V s5 (.c .sl0)])
 (.seq (.seq (R [V s6 (ci 0)])
 (.block 0 (.loop (.seq (.seq (R [V s7 a6, V s8 a0, .o s9 (.nilc a8), .o s10 (.faddr 0 a9), .o s11 (.ld1 a10), .o s12 (.lenV a11), .o s13 (.ilt a7 a12)])
 (.cond a13 .skip (.exit 0)))
 (.seq (.block 1 (.seq (R [V s16 a0, .o s17 (.nilc a16), .o s18 (.faddr 0 a17), .o s19 (.ld1 a18), V s20 a1, .o s21 (.iaddr 1 a19 a20), .o s22 (.ld1 a21), V s23 a6, .o s24 (.iaddr 1 a22 a23), .o s25 (.ld1 a24), V s26 a25, .g s26 true s27 (.mv a0), .g s26 true s28 (.nilc a27), .g s26 true s29 (.faddr 1 a28), .g s26 true s30 (.ld1 a29), .g s26 true s31 (.mv a6), .g s26 true s32 (.iaddr 1 a30 a31), .g s26 true s33 (.ld1 a32), .g s26 true s34 (.not a33), .o s35 (.pick a26 a34 (.c (.b false)))])
 (.cond a35 .bad .skip)))
 (R [V s14 a6, .o s15 (.iadd a14 (ci 1)), V s6 a15]))))))
 (.seq (R [V s40 a5, V s4 a40])
 .ret)))),
 [.tmp s4]⟩
def L187 : LFun := ⟨[s0, s1],
 (.seq (R [V s7 a0, V s8 a1, .o s9 (.call 186 [a7, a8]), V s4 a9])
 (.seq (.seq (R [V s5 (ci 0)])
 (.block 0 (.loop (.seq (.seq (R [V s10 a5, V s11 a4, .o s12 (.lenV a11), .o s13 (.ilt a10 a12)])
 (.cond a13 .skip (.exit 0)))
 .bad))))
 (R [V s40 a0, .o s41 (.nilc a40), .o s42 (.faddr 1 a41), .o s43 (.ld1 a42), V s44 a1, .o s45 (.iaddr 1 a43 a44), .n (.st 1 a45 (.c (.b true)))]))),
 []⟩
def L188 : LFun := ⟨[s0, s1],
 (.seq (R [.o s2 (.box 123 a0), .o s4 (.alloc [.sl0] 123), V s5 (ci 0)])
 (.seq (.seq (R [.o s7 (.ldn 1 a2), .o s8 (.call 90 [a7]), V s6 a8])
 (.seq (R [V s9 a6, .o s10 (.eq true 0 a9 (ci 0))])
 (.cond a10 .bad .skip)))
 (.seq (.seq (R [V s13 a1, .o s14 (.lenV a13), .o s15 (.faddr 0 a2), .o s16 (.ld1 a15), .o s17 (.lenV a16), .o s18 (.eq true 0 a14 a17)])
 (.cond a18 .bad .skip))
 (.seq (.seq (R [V s20 a1, .o s21 (.faddr 0 a2), .o s22 (.ld1 a21), .o s23 (.lenV a22), .o s24 (.call 322 [a20, a23]), .o s25 (.not a24)])
 (.cond a25 .bad .skip))
 (.seq (R [.o s27 (.ldn 1 a2), V s28 a1, .o s29 (.call 323 [a27, a28]), .o s30 (.extract 0 a29), .o s31 (.extract 1 a29), .n (.st 1 a4 a30), V s5 a31])
 .ret))))),
 [.cn s4 1, .tmp s5]⟩
def L189 : LFun := ⟨[s0, s1, s2],
 (.seq (R [.o s3 (.box 42 a0), V s6 (.c (.i .u64 0))])
 (.seq (.seq (R [.o s8 (.ldn 5 a3), .o s9 (.call 85 [a8]), .o s10 (.eq true 0 a9 (ci 0)), V s11 a10, .g s11 false s12 (.mv a2), .g s11 false s13 (.ilt a12 (ci 0)), .o s14 (.pick a11 (.c (.b true)) a13), V s15 a14, .g s15 false s16 (.mv a2), .g s15 false s17 (.faddr 1 a3), .g s15 false s18 (.ld1 a17), .g s15 false s19 (.ige a16 a18), .o s20 (.pick a15 (.c (.b true)) a19)])
 (.cond a20 .bad .skip))
 (.seq (.seq (R [.o s21 (.faddr 2 a3), .o s22 (.ld1 a21), V s23 a2, .o s24 (.iaddr 1 a22 a23), .o s25 (.ld1 a24), V s7 a25])
 (.block 0 (.loop (.seq (.seq (R [V s26 a7, .o s27 (.faddr 2 a3), .o s28 (.ld1 a27), V s29 a2, .o s30 (.iadd a29 (ci 1)), .o s31 (.iaddr 1 a28 a30), .o s32 (.ld1 a31), .o s33 (.ilt a26 a32)])
 (.cond a33 .skip (.exit 0)))
 (.seq (.block 1 (.seq (R [.o s36 (.faddr 3 a3), .o s37 (.ld1 a36), V s38 a7, .o s39 (.iaddr 1 a37 a38), .o s40 (.ld1 a39), V s41 a1, .o s42 (.eq false 0 a40 a41)])
 (.cond a42 (.seq (R [.o s43 (.faddr 4 a3), .o s44 (.ld1 a43), V s45 a7, .o s46 (.iaddr 1 a44 a45), .o s47 (.ld1 a46), V s6 a47])
 .ret) .skip)))
 .bad)))))
 .bad))),
 [.tmp s6]⟩
def L190 : LFun := ⟨[s0, s1],
 (.seq (R [.o s2 (.box 163 a0), .o s4 (.alloc [(.b false), (.b false), .sl0, (.i .i64 0)] 165)])
 (.seq (R [.o s8 (.ldn 2 a2), .o s9 (.call 313 [a8]), .o s5 (.alloc [(.b false), .sl0] 163), .n (.st 2 a5 a9)])
 (.seq (.seq (R [.o s10 (.faddr 1 a5), .o s11 (.ld1 a10), .o s12 (.lenV a11), .o s13 (.eq false 0 a12 (ci 0))])
 (.cond a13 (.seq (R [.o s14 (.build [(.b false), (.b false), .sl0, (.i .i64 0)] []), .n (.st 4 a4 a14)])
 .ret) .skip))
 (.seq (.seq (R [V s15 a1, .o s16 (.igt a15 (ci 65536))])
 (.cond a16 .bad .skip))
 (.seq (R [.o s18 (.ldn 2 a5), .o s19 (.call 212 [a18]), V s6 a19])
 (.seq (R [V s20 a1, V s21 a6, .o s22 (.iadd a20 a21), V s7 a22])
 (.seq (R [.o s23 (.ldn 2 a5), .o s24 (.call 177 [a23]), .n (.st 2 a5 a24)])
 (.seq (R [.o s25 (.ldn 2 a5), V s26 a6, .o s27 (.call 324 [a25, a26]), .n (.st 2 a5 a27)])
 (.seq (.seq (R [V s28 a7, .o s29 (.ilt a28 (ci 18446744073709486080)), V s30 a29, .g s30 false s31 (.mv a7), .g s30 false s32 (.ldn 2 a5), .g s30 false s33 (.call 314 [a32]), .g s30 false s34 (.iadd a31 a33), .g s30 false s35 (.igt a34 (ci 65536)), .o s36 (.pick a30 (.c (.b true)) a35)])
 (.cond a36 .bad .skip))
 (.seq (R [.o s38 (.faddr 0 a2), .o s39 (.ld1 a38), .o s40 (.faddr 0 a5), .n (.st 1 a40 a39)])
 (.seq (R [.o s41 (.ldn 2 a5), V s42 a7, .o s43 (.build [(.b false), (.b false), .sl0, (.i .i64 0)] [(1, 2, a41), (3, 1, a42)]), .n (.st 4 a4 a43)])
 .ret))))))))))),
 [.cn s4 4]⟩
def L191 : LFun := ⟨[s0],
 (.seq (R [.o s1 (.box 163 a0), .o s2 (.alloc [(.b false), .sl0] 163)])
 (.seq (R [.o s3 (.faddr 0 a1), .o s4 (.ld1 a3), .o s5 (.not a4), .o s6 (.faddr 1 a1), .o s7 (.ld1 a6), .o s8 (.call 319 [a5, a7]), .n (.st 2 a2 a8)])
 .ret)),
 [.cn s2 2]⟩
def L194 : LFun := ⟨[s0, s1],
 (.seq (R [.o s2 (.box 163 a0), .o s3 (.box 163 a1), .o s4 (.alloc [(.b false), .sl0] 163)])
 (.seq (.draw 0 [.q 0 0 (.o s7 (.faddr 1 a2)), .r 1 1 (.o s8 (.ld1 a7)), .q 3 0 (.o s10 (.faddr 1 a3)), .r 4 8 (.o s11 (.ld1 a10)), .s 2 3 (.o s9 (.call 325 [a8])), .s 5 31 (.o s12 (.call 325 [a11])), .q 6 63 (V s5 a9), .q 7 127 (V s6 a12)])
 (.seq (.seq (R [.o s13 (.faddr 0 a2), .o s14 (.ld1 a13), .o s15 (.faddr 0 a3), .o s16 (.ld1 a15), .o s17 (.eq false 6 a14 a16)])
 (.cond a17 (.seq (.draw 0 [.q 0 0 (.o s18 (.faddr 0 a2)), .r 1 1 (.o s19 (.ld1 a18)), .q 2 0 (V s20 a5), .q 3 0 (V s21 a6), .s 4 12 (.o s22 (.call 326 [a20, a21])), .s 5 31 (.o s23 (.call 319 [a19, a22])), .s 6 63 (.n (.st 2 a4 a23))])
 .ret) .skip))
 (.seq (.seq (R [V s24 a5, V s25 a6, .o s26 (.call 327 [a24, a25]), .o s27 (.ige a26 (ci 0))])
 (.cond a27 (.seq (.draw 0 [.q 0 0 (.o s28 (.faddr 0 a2)), .r 1 1 (.o s29 (.ld1 a28)), .q 2 0 (V s30 a5), .q 3 0 (V s31 a6), .s 4 12 (.o s32 (.call 328 [a30, a31])), .s 5 31 (.o s33 (.call 319 [a29, a32])), .s 6 63 (.n (.st 2 a4 a33))])
 .ret) .skip))
 (.seq (.draw 0 [.q 0 0 (.o s34 (.faddr 0 a3)), .r 1 1 (.o s35 (.ld1 a34)), .q 2 0 (V s36 a6), .q 3 0 (V s37 a5), .s 4 12 (.o s38 (.call 328 [a36, a37])), .s 5 31 (.o s39 (.call 319 [a35, a38])), .s 6 63 (.n (.st 2 a4 a39))])
 .ret))))),
 [.cn s4 2]⟩
def L195 : LFun := ⟨[s0, s1],
 (.seq (R [.o s2 (.box 163 a0), .o s4 (.alloc [(.b false), .sl0] 163)])
 (.seq (R [.o s8 (.ldn 2 a2), .o s9 (.call 313 [a8]), .n (.st 2 a2 a9)])
 (.seq (.seq (R [V s10 a1, .o s11 (.ige a10 (ci 0))])
 (.cond a11 (.seq (.draw 0 [.q 0 0 (.o s12 (.faddr 0 a2)), .r 1 1 (.o s13 (.ld1 a12)), .q 2 0 (.o s14 (.faddr 1 a2)), .r 3 4 (.o s15 (.ld1 a14)), .q 4 0 (V s16 a1), .s 5 28 (.o s17 (.call 329 [a15, a16])), .s 6 63 (.o s18 (.call 319 [a13, a17])), .s 7 127 (.n (.st 2 a4 a18))])
 .ret) .skip))
 (.seq (R [.o s20 (.faddr 1 a2), .o s21 (.ld1 a20), V s22 a1, .o s23 (.neg a22), .o s24 (.call 330 [a21, a23]), V s19 a24, .o s25 (.extract 0 a19), .o s26 (.extract 1 a19), V s5 a25, V s6 a26])
 (.seq (R [.o s27 (.faddr 0 a2), .o s28 (.ld1 a27), V s29 a5, .o s30 (.call 319 [a28, a29]), .o s7 (.alloc [(.b false), .sl0] 163), .n (.st 2 a7 a30)])
 (.seq (.seq (R [.o s31 (.faddr 0 a2), .o s32 (.ld1 a31), V s33 a32, .g s33 true s34 (.mv a6), .o s35 (.pick a33 a34 (.c (.b false)))])
 (.cond a35 .bad .skip))
 (.seq (R [.o s39 (.ldn 2 a7), .n (.st 2 a4 a39)])
 .ret))))))),
 [.cn s4 2]⟩
def L196 : LFun := ⟨[s0, s1],
 (.seq (R [.o s2 (.box 165 a0), V s4 (.c (.i .u64 0))])
 (.seq (R [.o s8 (.ldn 4 a2), .o s9 (.call 174 [a8]), .n (.st 4 a2 a9)])
 (.seq (.seq (R [.o s10 (.faddr 0 a2), .o s11 (.ld1 a10), V s12 a11, .g s12 false s13 (.faddr 1 a2), .g s12 false s14 (.ldn 2 a13), .g s12 false s15 (.call 175 [a14]), .g s12 false s16 (.ilt a15 (ci 0)), .o s17 (.pick a12 (.c (.b true)) a16)])
 (.cond a17 .bad .skip))
 (.seq (.seq (R [.o s18 (.faddr 1 a2), .o s19 (.ldn 2 a18), .o s20 (.call 175 [a19]), .o s21 (.eq false 0 a20 (ci 0))])
 (.cond a21 .bad .skip))
 (.seq (R [.o s23 (.faddr 1 a2), .o s24 (.ldn 2 a23), .o s25 (.faddr 3 a2), .o s26 (.ld1 a25), .o s27 (.call 332 [a24, a26, (ci 60)]), V s22 a27, .o s28 (.extract 0 a22), .o s29 (.extract 1 a22), .o s30 (.extract 2 a22), .o s5 (.alloc [(.b false), .sl0] 163), .n (.st 2 a5 a28), V s6 a29, V s7 a30])
 (.seq (R [.o s31 (.ldn 2 a5), V s32 a6, V s33 a7, V s34 a1, .o s35 (.call 176 [(.c (.b false)), a31, a32, a33, a34]), V s4 a35])
 .ret)))))),
 [.tmp s4]⟩
def L210 : LFun := ⟨[s0, s1],
 (.seq (R [.o s2 (.box 163 a0), .o s3 (.box 163 a1), V s4 (ci 0)])
 (.seq (R [.o s5 (.ldn 2 a2), .o s6 (.ldn 2 a3), .o s7 (.call 331 [a5, a6]), .o s8 (.call 175 [a7]), V s4 a8])
 .ret)),
 [.tmp s4]⟩
def L211 : LFun := ⟨[s0, s1],
 (.seq (R [.o s2 (.box 163 a0), .o s3 (.box 163 a1), .o s4 (.alloc [(.b false), .sl0] 163), .o s5 (.alloc [(.b false), .sl0] 163)])
 (.seq (.draw 0 [.r 0 0 (.o s10 (.ldn 2 a2)), .r 2 0 (.o s12 (.ldn 2 a3)), .s 1 1 (.o s11 (.call 313 [a10])), .s 3 7 (.o s13 (.call 313 [a12])), .s 4 15 (.n (.st 2 a2 a11)), .s 5 31 (.n (.st 2 a3 a13))])
 (.seq (R [.o s15 (.faddr 1 a2), .o s16 (.ld1 a15), .o s17 (.faddr 1 a3), .o s18 (.ld1 a17), .o s19 (.call 335 [a16, a18]), V s14 a19, .o s20 (.extract 0 a14), .o s21 (.extract 1 a14), V s6 a20, V s7 a21])
 (.seq (.draw 2 [.q 0 0 (.o s22 (.faddr 0 a2)), .r 1 1 (.o s23 (.ld1 a22)), .q 2 0 (.o s24 (.faddr 0 a3)), .r 3 4 (.o s25 (.ld1 a24)), .q 4 15 (.o s26 (.eq true 6 a23 a25)), .q 5 0 (V s27 a6), .q 7 0 (.o s29 (.faddr 0 a2)), .r 8 128 (.o s30 (.ld1 a29)), .q 9 0 (V s31 a7), .a 11 0 0 (.o s8 (.alloc [(.b false), .sl0] 163)), .a 12 0 1 (.o s9 (.alloc [(.b false), .sl0] 163)), .s 6 63 (.o s28 (.call 319 [a26, a27])), .s 10 1023 (.o s32 (.call 319 [a30, a31])), .s 13 8191 (.n (.st 2 a8 a28)), .s 14 16383 (.n (.st 2 a9 a32))])
 (.seq (.seq (R [.o s33 (.ldn 2 a9), .o s34 (.call 175 [a33]), .o s35 (.ilt a34 (ci 0))])
 (.cond a35 .bad .skip))
 (.seq (.draw 0 [.r 0 0 (.o s48 (.ldn 2 a8)), .r 1 0 (.o s49 (.ldn 2 a9)), .s 2 1 (.n (.st 2 a4 a48)), .s 3 7 (.n (.st 2 a5 a49))])
 .ret)))))),
 [.cn s4 2, .cn s5 2]⟩
def L212 : LFun := ⟨[s0],
 (.seq (R [.o s1 (.box 163 a0), V s2 (ci 0)])
 (.seq (R [.o s5 (.faddr 1 a1), .o s6 (.ld1 a5), .o s7 (.call 325 [a6]), V s3 a7])
 (.seq (.seq (R [V s4 (ci 0)])
 (.block 0 (.loop (.seq (.seq (R [V s8 a4, V s9 a3, .o s10 (.lenV a9), .o s11 (.ilt a8 a10)])
 (.cond a11 .skip (.exit 0)))
 (.seq (.block 1 (.seq (R [V s14 a3, V s15 a4, .o s16 (.iaddr 1 a14 a15), .o s17 (.ld1 a16), .o s18 (.eq true 0 a17 (.c (.i .u32 0)))])
 (.cond a18 (.seq (R [V s19 a4, .o s20 (.imul (ci 32) a19), V s21 a3, V s22 a4, .o s23 (.iaddr 1 a21 a22), .o s24 (.ld1 a23), .o s25 (.call 336 [a24]), .o s26 (.iadd a20 a25), V s2 a26])
 .ret) .skip)))
 (R [V s12 a4, .o s13 (.iadd a12 (ci 1)), V s4 a13]))))))
 .bad))),
 [.tmp s2]⟩
def L213 : LFun := ⟨[s0],
 (.seq (R [.o s2 (.alloc [(.b false), .sl0] 163)])
 (.seq (R [V s4 a0, .o s5 (.convI .u64 a4), V s3 a5])
 (.seq (.seq (R [V s6 a0, .o s7 (.ilt a6 (ci 0))])
 (.cond a7 .bad .skip))
 (.seq (R [V s13 a0, .o s14 (.ilt a13 (ci 0)), V s15 a3, .o s16 (.convI .u32 a15), V s17 a3, .o s18 (.ishr a17 (.c (.i .u64 32))), .o s19 (.convI .u32 a18), .o s20 (.bslice 227 2 1 [(.i .u32 0), (.i .u32 0)] [(0, 1, a16), (1, 1, a19)]), .o s21 (.call 319 [a14, a20]), .n (.st 2 a2 a21)])
 .ret)))),
 [.cn s2 2]⟩
def L214 : LFun := ⟨[s0],
 (.seq (R [.o s1 (.box 163 a0), V s2 (.c (.s 0 0))])
 (.seq (R [.o s10 (.ldn 2 a1), .o s11 (.call 313 [a10]), .n (.st 2 a1 a11)])
 (.seq (.seq (R [.o s12 (.faddr 1 a1), .o s13 (.ld1 a12), .o s14 (.lenV a13), .o s15 (.eq false 0 a14 (ci 0))])
 (.cond a15 .bad .skip))
 (.seq (R [V s3 (.c .sl0)])
 (.seq (R [.o s16 (.faddr 1 a1), .o s17 (.ld1 a16), V s4 a17])
 (.seq (.block 0 (.loop (.seq (.seq (R [V s18 a4, .o s19 (.lenV a18), .o s20 (.igt a19 (ci 0))])
 (.cond a20 .skip (.exit 0)))
 (.block 1 (.seq (R [V s5 (.c (.i .u64 0))])
 (.seq (R [V s21 a4, .o s22 (.lenV a21), .o s23 (.mks 227 1 [(.i .u32 0)] a22 a22), V s6 a23])
 (.seq (.seq (R [V s24 a4, .o s25 (.lenV a24), .o s26 (.isub a25 (ci 1)), V s7 a26])
 (.block 2 (.loop (.seq (.seq (R [V s27 a7, .o s28 (.ige a27 (ci 0))])
 (.cond a28 .skip (.exit 2)))
 (.seq (.block 3 (.seq (R [V s31 a5, .o s32 (.ishl a31 (.c (.i .u64 32))), V s33 a4, V s34 a7, .o s35 (.iaddr 1 a33 a34), .o s36 (.ld1 a35), .o s37 (.convI .u64 a36), .o s38 (.ior a32 a37), V s5 a38])
 (.seq (R [V s39 a6, V s40 a7, V s41 a5, .o s42 (.iquo a41 (.c (.i .u64 10))), .o s43 (.convI .u32 a42), .o s44 (.iaddr 1 a39 a40), .n (.st 1 a44 a43)])
 (R [V s45 a5, .o s46 (.irem a45 (.c (.i .u64 10))), V s5 a46]))))
 (R [V s29 a7, .o s30 (.isub a29 (ci 1)), V s7 a30]))))))
 (.seq (R [V s47 a3, V s48 a5, .o s49 (.iadd (.c (.i .u64 48)) a48), .o s50 (.convI .u8 a49), .o s51 (.bslice 5 1 1 [(.i .u8 0)] [(0, 1, a50)]), .o s52 (.append 1 5 a47 a51), V s3 a52])
 (R [V s53 a6, .o s54 (.call 325 [a53]), V s4 a54])))))))))
 (.seq (R [V s8 (.c .sl0)])
 (.seq (.seq (R [.o s55 (.faddr 0 a1), .o s56 (.ld1 a55)])
 (.cond a56 .bad .skip))
 (.seq (.seq (R [V s60 a3, .o s61 (.lenV a60), .o s62 (.isub a61 (ci 1)), V s9 a62])
 (.block 4 (.loop (.seq (.seq (R [V s63 a9, .o s64 (.ige a63 (ci 0))])
 (.cond a64 .skip (.exit 4)))
 (.seq (.block 5 (R [V s67 a8, V s68 a3, V s69 a9, .o s70 (.iaddr 1 a68 a69), .o s71 (.ld1 a70), .o s72 (.bslice 5 1 1 [(.i .u8 0)] [(0, 1, a71)]), .o s73 (.append 1 5 a67 a72), V s8 a73]))
 (R [V s65 a9, .o s66 (.isub a65 (ci 1)), V s9 a66]))))))
 (.seq (R [V s74 a8, .o s75 (.bToS a74), V s2 a75])
 .ret)))))))))),
 [.tmp s2]⟩
def L215 : LFun := ⟨[s0],
 (.seq (R [.o s2 (.alloc [(.b false), .sl0] 163), V s3 (ci 0)])
 (.seq (.seq (R [V s9 a0, .o s10 (.lenS a9), .o s11 (.igt a10 (ci 1024))])
 (.cond a11 .bad .skip))
 (.seq (R [V s4 (ci 0)])
 (.seq (R [V s5 (.c (.b false))])
 (.seq (.seq (R [V s13 a0, .o s14 (.lenS a13), .o s15 (.igt a14 (ci 0)), V s16 a15, .g s16 true s17 (.mv a0), .g s16 true s18 (.idxS a17 (ci 0)), .g s16 true s19 (.eq false 0 a18 (.c (.i .u8 45))), .g s16 true s20 (.mv a19), .g s20 false s21 (.mv a0), .g s20 false s22 (.idxS a21 (ci 0)), .g s20 false s23 (.eq false 0 a22 (.c (.i .u8 43))), .g s16 true s24 (.pick a20 (.c (.b true)) a23), .o s25 (.pick a16 a24 (.c (.b false)))])
 (.cond a25 .bad .skip))
 (.seq (.seq (R [V s29 a4, V s30 a0, .o s31 (.lenS a30), .o s32 (.eq false 0 a29 a31)])
 (.cond a32 .bad .skip))
 (.seq (R [V s6 (.c .sl0)])
 (.seq (.block 0 (.loop (.seq (.seq (R [V s34 a4, V s35 a0, .o s36 (.lenS a35), .o s37 (.ilt a34 a36)])
 (.cond a37 .skip (.exit 0)))
 (.seq (.block 1 (.seq (.seq (R [V s40 a0, V s41 a4, .o s42 (.idxS a40 a41), .o s43 (.ilt a42 (.c (.i .u8 48))), V s44 a43, .g s44 false s45 (.mv a0), .g s44 false s46 (.mv a4), .g s44 false s47 (.idxS a45 a46), .g s44 false s48 (.igt a47 (.c (.i .u8 57))), .o s49 (.pick a44 (.c (.b true)) a48)])
 (.cond a49 .bad .skip))
 (.seq (R [V s51 a0, V s52 a4, .o s53 (.idxS a51 a52), .o s54 (.isub a53 (.c (.i .u8 48))), .o s55 (.convI .u64 a54), V s7 a55])
 (.seq (.seq (R [V s8 (ci 0)])
 (.block 2 (.loop (.seq (.seq (R [V s56 a8, V s57 a6, .o s58 (.lenV a57), .o s59 (.ilt a56 a58)])
 (.cond a59 .skip (.exit 2)))
 (.seq (.block 3 (.seq (R [V s62 a7, V s63 a6, V s64 a8, .o s65 (.iaddr 1 a63 a64), .o s66 (.ld1 a65), .o s67 (.convI .u64 a66), .o s68 (.imul (.c (.i .u64 10)) a67), .o s69 (.iadd a62 a68), V s7 a69])
 (.seq (R [V s70 a6, V s71 a8, V s72 a7, .o s73 (.convI .u32 a72), .o s74 (.iaddr 1 a70 a71), .n (.st 1 a74 a73)])
 (R [V s75 a7, .o s76 (.ishr a75 (.c (.i .u64 32))), V s7 a76]))))
 (R [V s60 a8, .o s61 (.iadd a60 (ci 1)), V s8 a61]))))))
 (.seq (R [V s77 a7, .o s78 (.igt a77 (.c (.i .u64 0)))])
 (.cond a78 (R [V s79 a6, V s80 a7, .o s81 (.convI .u32 a80), .o s82 (.bslice 227 1 1 [(.i .u32 0)] [(0, 1, a81)]), .o s83 (.append 1 227 a79 a82), V s6 a83]) .skip))))))
 (R [V s38 a4, .o s39 (.iadd a38 (ci 1)), V s4 a39])))))
 (.seq (R [V s84 a5, V s85 a6, .o s86 (.call 319 [a84, a85]), .n (.st 2 a2 a86), V s3 (ci 0)])
 .ret))))))))),
 [.cn s2 2, .tmp s3]⟩
def L216 : LFun := ⟨[s0],
 (.seq (R [.o s1 (.box 163 a0), .o s2 (.alloc [(.b false), (.b false), .sl0, (.i .i64 0)] 165)])
 (.seq (R [.o s3 (.ldn 2 a1), .o s4 (.call 190 [a3, (ci 0)]), .n (.st 4 a2 a4)])
 .ret)),
 [.cn s2 4]⟩
def L217 : LFun := ⟨[s0, s1],
 (.seq (R [.o s2 (.box 163 a0), .o s3 (.box 163 a1), .o s4 (.alloc [(.b false), .sl0] 163)])
 (.seq (.draw 0 [.q 0 0 (.o s5 (.faddr 0 a2)), .r 1 1 (.o s6 (.ld1 a5)), .q 2 0 (.o s7 (.faddr 0 a3)), .r 3 4 (.o s8 (.ld1 a7)), .q 4 15 (.o s9 (.eq true 6 a6 a8)), .q 5 0 (.o s10 (.faddr 1 a2)), .r 6 32 (.o s11 (.ld1 a10)), .q 8 0 (.o s13 (.faddr 1 a3)), .r 9 256 (.o s14 (.ld1 a13)), .s 7 96 (.o s12 (.call 325 [a11])), .s 10 992 (.o s15 (.call 325 [a14])), .s 11 2016 (.o s16 (.call 337 [a12, a15])), .s 12 4095 (.o s17 (.call 319 [a9, a16])), .s 13 8191 (.n (.st 2 a4 a17))])
 .ret)),
 [.cn s4 2]⟩
def L218 : LFun := ⟨[s0, s1],
 (.seq (R [.o s2 (.box 163 a0), .o s4 (.alloc [(.b false), .sl0] 163)])
 (.seq (R [.o s6 (.call 213 [(ci 1)]), .o s5 (.alloc [(.b false), .sl0] 163), .n (.st 2 a5 a6)])
 (.seq (.block 0 (.loop (.seq (.seq (R [V s7 a1, .o s8 (.igt a7 (ci 0))])
 (.cond a8 .skip (.exit 0)))
 .bad)))
 (.seq (R [.o s14 (.ldn 2 a5), .n (.st 2 a4 a14)])
 .ret)))),
 [.cn s4 2]⟩
def L220 : LFun := ⟨[s0],
 (.seq (R [.o s1 (.box 42 a0), V s2 (.c .sl0), V s3 (ci 0)])
 (.seq (.seq (R [.o s9 (.ldn 5 a1), .o s10 (.call 85 [a9]), V s4 a10])
 (.seq (R [V s11 a4, .o s12 (.eq true 0 a11 (ci 0))])
 (.cond a12 .bad .skip)))
 (.seq (R [V s5 (.c .sl0)])
 (.seq (.seq (R [V s6 (ci 0)])
 (.block 0 (.loop (.seq (.seq (R [V s14 a6, .o s15 (.faddr 0 a1), .o s16 (.ld1 a15), .o s17 (.ilt a14 a16)])
 (.cond a17 .skip (.exit 0)))
 (.seq (.block 1 (R [V s20 a5, .o s21 (.faddr 1 a1), .o s22 (.ld1 a21), .o s23 (.mks 52 1 [(.i .u64 0)] a22 a22), .o s24 (.bslice 40 1 1 [.sl0] [(0, 1, a23)]), .o s25 (.append 1 40 a20 a24), V s5 a25]))
 (R [V s18 a6, .o s19 (.iadd a18 (ci 1)), V s6 a19]))))))
 (.seq (R [.o s26 (.ldn 5 a1), .o s27 (.call 86 [a26]), V s7 a27])
 (.seq (.seq (R [V s8 (ci 0)])
 (.block 2 (.loop (.seq (.seq (R [V s28 a8, V s29 a7, .o s30 (.lenV a29), .o s31 (.ilt a28 a30)])
 (.cond a31 .skip (.exit 2)))
 (.seq (.block 3 (.draw 0 [.q 0 0 (V s34 a5), .q 1 0 (V s35 a7), .q 2 0 (V s36 a8), .q 3 6 (.o s37 (.iaddr 3 a35 a36)), .q 4 14 (.o s38 (.faddr 0 a37)), .r 5 30 (.o s39 (.ld1 a38)), .q 6 63 (.o s40 (.iaddr 1 a34 a39)), .r 7 127 (.o s41 (.ld1 a40)), .q 8 0 (V s42 a7), .q 9 0 (V s43 a8), .q 10 768 (.o s44 (.iaddr 3 a42 a43)), .q 11 1792 (.o s45 (.faddr 1 a44)), .r 12 3840 (.o s46 (.ld1 a45)), .q 13 0 (V s47 a7), .q 14 0 (V s48 a8), .q 15 24576 (.o s49 (.iaddr 3 a47 a48)), .q 16 57344 (.o s50 (.faddr 2 a49)), .r 17 122880 (.o s51 (.ld1 a50)), .q 18 262143 (.o s52 (.iaddr 1 a41 a46)), .s 19 524287 (.n (.st 1 a52 a51))]))
 (R [V s32 a8, .o s33 (.iadd a32 (ci 1)), V s8 a33]))))))
 (.seq (R [V s53 a5, V s2 a53, V s3 (ci 0)])
 .ret))))))),
 [.tmp s2, .tmp s3]⟩
def L221 : LFun := ⟨[s0, s1],
 (.seq (R [V s4 (ci 0)])
 (.seq (.seq (R [V s5 a1, .o s6 (.eq false 0 a5 (ci 0))])
 (.cond a6 .bad .skip))
 (.seq (R [V s7 a0, .o s8 (.call 338 [a7]), V s4 a8])
 .ret))),
 [.tmp s4]⟩
def L222 : LFun := ⟨[s0, s1],
 (.seq (R [V s4 (.c .sl0)])
 (.seq (R [V s5 (.c .sl0)])
 (.seq (.seq (R [V s6 (ci 0)])
 (.block 0 (.loop (.seq (.seq (R [V s9 a6, V s10 a0, .o s11 (.lenV a10), .o s12 (.ilt a9 a11)])
 (.cond a12 .skip (.exit 0)))
 (.seq (.block 1 (.seq (R [V s7 (.c .sl0)])
 (.seq (.seq (R [V s8 (ci 0)])
 (.block 2 (.loop (.seq (.seq (R [V s15 a8, V s16 a1, .o s17 (.lenV a16), .o s18 (.ilt a15 a17)])
 (.cond a18 .skip (.exit 2)))
 (.seq (.block 3 (.draw 1 [.q 0 0 (V s21 a7), .q 1 0 (V s22 a0), .q 2 0 (V s23 a6), .q 3 6 (.o s24 (.iaddr 1 a22 a23)), .r 4 14 (.o s25 (.ld1 a24)), .q 5 0 (V s26 a1), .q 6 0 (V s27 a8), .q 7 96 (.o s28 (.iaddr 1 a26 a27)), .r 8 224 (.o s29 (.ld1 a28)), .q 9 510 (.o s30 (.iaddr 2 a25 a29)), .r 10 1022 (.o s31 (.ldn 2 a30)), .a 11 2046 0 (.o s32 (.bslice 163 1 2 [(.b false), .sl0] [(0, 2, a31)])), .s 12 4095 (.o s33 (.append 2 163 a21 a32)), .q 13 8191 (V s7 a33)]))
 (R [V s19 a8, .o s20 (.iadd a19 (ci 1)), V s8 a20]))))))
 (R [V s34 a5, V s35 a7, .o s36 (.bslice 301 1 1 [.sl0] [(0, 1, a35)]), .o s37 (.append 1 301 a34 a36), V s5 a37]))))
 (R [V s13 a6, .o s14 (.iadd a13 (ci 1)), V s6 a14]))))))
 (.seq (R [V s38 a5, V s4 a38])
 .ret)))),
 [.tmp s4]⟩
def L225 : LFun := ⟨[s0, s1],
 (.seq (R [.o s2 (.box 163 a0), V s4 (ci 0)])
 (.seq (.draw 2 [.r 0 0 (.o s10 (.ldn 2 a2)), .q 1 0 (V s11 a1), .a 7 0 0 (.o s5 (.alloc [(.b false), .sl0] 163)), .a 8 0 1 (.o s6 (.alloc [(.b false), .sl0] 163)), .s 2 2 (.o s12 (.call 213 [a11])), .s 3 7 (.o s13 (.call 211 [a10, a12])), .q 4 15 (V s9 a13), .q 5 31 (.o s14 (.extract 0 a9)), .q 6 31 (.o s15 (.extract 1 a9)), .s 9 447 (.n (.st 2 a5 a14)), .s 10 1023 (.n (.st 2 a6 a15))])
 (.seq (R [.o s17 (.ldn 2 a6), .o s18 (.call 317 [a17]), V s16 a18, .o s19 (.extract 0 a16), .o s20 (.extract 1 a16), V s7 a19, V s8 a20])
 (.seq (R [V s21 a7, V s4 a21])
 .ret)))),
 [.tmp s4]⟩
def L226 : LFun := ⟨[s0, s1],
 (.seq (R [V s4 (ci 0)])
 (.seq (R [V s9 a0, V s10 a1, .o s11 (.call 344 [a9, a10]), V s8 a11, .o s12 (.extract 0 a8), .o s13 (.extract 1 a8), .o s14 (.extract 2 a8), V s5 a12, V s6 a13, V s7 a14])
 (.seq (R [V s15 a6, .o s16 (.lenV a15), V s4 a16])
 .ret))),
 [.tmp s4]⟩
def L227 : LFun := ⟨[s0, s1, s2],
 (.seq (R [V s6 (.c .sl0)])
 (.seq (R [V s7 (.c .sl0)])
 (.seq (.seq (R [V s8 (ci 0)])
 (.block 0 (.loop (.seq (.seq (R [V s11 a8, V s12 a1, .o s13 (.lenV a12), .o s14 (.ilt a11 a13)])
 (.cond a14 .skip (.exit 0)))
 (.seq (.block 1 (.seq (R [V s9 (.c .sl0)])
 (.seq (.seq (R [V s10 (ci 0)])
 (.block 2 (.loop (.seq (.seq (R [V s17 a10, V s18 a2, .o s19 (.lenV a18), .o s20 (.ilt a17 a19)])
 (.cond a20 .skip (.exit 2)))
 (.seq (.block 3 (.draw 1 [.q 0 0 (V s23 a9), .q 1 0 (V s24 a0), .q 2 0 (V s25 a1), .q 3 0 (V s26 a8), .q 4 12 (.o s27 (.iaddr 1 a25 a26)), .r 5 28 (.o s28 (.ld1 a27)), .q 6 62 (.o s29 (.iaddr 1 a24 a28)), .r 7 126 (.o s30 (.ld1 a29)), .q 8 0 (V s31 a2), .q 9 0 (V s32 a10), .q 10 768 (.o s33 (.iaddr 1 a31 a32)), .r 11 1792 (.o s34 (.ld1 a33)), .q 12 4094 (.o s35 (.iaddr 1 a30 a34)), .r 13 8190 (.o s36 (.ld1 a35)), .a 14 16382 0 (.o s37 (.bslice 3 1 1 [(.i .i64 0)] [(0, 1, a36)])), .s 15 32767 (.o s38 (.append 1 3 a23 a37)), .q 16 65535 (V s9 a38)]))
 (R [V s21 a10, .o s22 (.iadd a21 (ci 1)), V s10 a22]))))))
 (R [V s39 a7, V s40 a9, .o s41 (.bslice 39 1 1 [.sl0] [(0, 1, a40)]), .o s42 (.append 1 39 a39 a41), V s7 a42]))))
 (R [V s15 a8, .o s16 (.iadd a15 (ci 1)), V s8 a16]))))))
 (.seq (R [V s43 a7, V s6 a43])
 .ret)))),
 [.tmp s6]⟩
def L228 : LFun := ⟨[s0],
 (.seq (R [V s2 (.c .sl0)])
 (.seq (R [V s3 (.c .sl0)])
 (.seq (.seq (R [V s4 (ci 0)])
 (.block 0 (.loop (.seq (.seq (R [V s5 a4, V s6 a0, .o s7 (.ilt a5 a6)])
 (.cond a7 .skip (.exit 0)))
 (.seq (.block 1 (R [V s10 a3, V s11 a4, .o s12 (.bslice 3 1 1 [(.i .i64 0)] [(0, 1, a11)]), .o s13 (.append 1 3 a10 a12), V s3 a13]))
 (R [V s8 a4, .o s9 (.iadd a8 (ci 1)), V s4 a9]))))))
 (.seq (R [V s14 a3, V s2 a14])
 .ret)))),
 [.tmp s2]⟩
def L243 : LFun := ⟨[s0],
 (.seq (R [V s2 (.c .sl0)])
 (.seq (R [V s3 (.c .sl0)])
 (.seq (.seq (R [V s4 (ci 0)])
 (.block 0 (.loop (.seq (.seq (R [V s7 a4, V s8 a0, .o s9 (.lenV a8), .o s10 (.ilt a7 a9)])
 (.cond a10 .skip (.exit 0)))
 (.seq (.block 1 (.seq (R [V s5 (.c .sl0)])
 (.seq (.seq (R [V s6 (ci 0)])
 (.block 2 (.loop (.seq (.seq (R [V s13 a6, V s14 a0, V s15 a4, .o s16 (.iaddr 1 a14 a15), .o s17 (.ld1 a16), .o s18 (.lenV a17), .o s19 (.ilt a13 a18)])
 (.cond a19 .skip (.exit 2)))
 (.seq (.block 3 (R [V s22 a5, V s23 a0, V s24 a4, .o s25 (.iaddr 1 a23 a24), .o s26 (.ld1 a25), V s27 a6, .o s28 (.iaddr 2 a26 a27), .o s29 (.ldn 2 a28), .o s30 (.call 313 [a29]), .o s31 (.call 213 [(ci 1)]), .o s32 (.build [(.b false), .sl0, (.b false), .sl0] [(0, 2, a30), (2, 2, a31)]), .o s33 (.bslice 331 1 4 [(.b false), .sl0, (.b false), .sl0] [(0, 4, a32)]), .o s34 (.append 4 331 a22 a33), V s5 a34]))
 (R [V s20 a6, .o s21 (.iadd a20 (ci 1)), V s6 a21]))))))
 (R [V s35 a3, V s36 a5, .o s37 (.bslice 332 1 1 [.sl0] [(0, 1, a36)]), .o s38 (.append 1 332 a35 a37), V s3 a38]))))
 (R [V s11 a4, .o s12 (.iadd a11 (ci 1)), V s4 a12]))))))
 (.seq (R [V s39 a3, V s2 a39])
 .ret)))),
 [.tmp s2]⟩
def L251 : LFun := ⟨[s0],
 (.seq (R [V s2 (ci 0), V s3 (.c .if0)])
 (.seq (R [V s7 a0, .o s8 (.call 364 [a7]), V s6 a8, .o s9 (.extract 0 a6), .o s10 (.extract 1 a6), V s4 a9, V s5 a10])
 (.seq (.seq (R [V s11 a5, .o s12 (.eq true 5 a11 (.c .if0))])
 (.cond a12 .bad .skip))
 (.seq (R [V s17 a4, V s2 a17, V s3 (.c .if0)])
 .ret)))),
 [.tmp s2, .tmp s3]⟩
def L252 : LFun := ⟨[s0, s1],
 (.seq (R [V s4 (.c (.i .u64 0)), V s5 (ci 0)])
 (.seq (.seq (R [V s13 a0, .o s14 (.lenS a13), .o s15 (.igt a14 (ci 1024))])
 (.cond a15 .bad .skip))
 (.seq (R [V s17 a0, .o s18 (.call 366 [a17]), V s16 a18, .o s19 (.extract 0 a16), .o s20 (.extract 1 a16), .o s6 (.alloc [(.b false), (.s 0 0), (.i .i64 0)] 422), .n (.st 3 a6 a19), V s7 a20])
 (.seq (.seq (R [V s21 a7, .o s22 (.eq true 0 a21 (ci 0))])
 (.cond a22 .bad .skip))
 (.seq (R [.o s24 (.faddr 1 a6), .o s25 (.ld1 a24), .o s26 (.call 367 [a25, (.c (.s 1 48))]), V s8 a26])
 (.seq (.seq (R [V s27 a8, .o s28 (.eq false 0 a27 (.c (.s 0 0)))])
 (.cond a28 (.seq (.seq (R [.o s29 (.faddr 0 a6), .o s30 (.ld1 a29)])
 (.cond a30 .bad .skip))
 (.seq (R [V s4 (.c (.i .u64 0)), V s5 (ci 0)])
 .ret)) .skip))
 (.seq (R [.o s31 (.faddr 2 a6), .o s32 (.ld1 a31), .o s33 (.imin a32 (ci 2000)), V s34 a8, .o s35 (.lenS a34), .o s36 (.isub (ci 18446744073709549616) a35), .o s37 (.imax a33 a36), V s9 a37])
 (.seq (R [V s39 a8, .o s40 (.call 368 [a39]), V s38 a40, .o s41 (.extract 0 a38), .o s42 (.extract 1 a38), .o s10 (.alloc [(.b false), .sl0] 163), .n (.st 2 a10 a41), V s11 a42])
 (.seq (.seq (R [.o s43 (.faddr 0 a6), .o s44 (.ld1 a43)])
 (.cond a44 .bad .skip))
 (.seq (R [.o s47 (.call 370 [(ci 1)]), .o s12 (.alloc [(.b false), (.b false), .sl0, (.i .i64 0)] 165), .n (.st 4 a12 a47)])
 (.seq (.seq (R [V s48 a9, .o s49 (.ige a48 (ci 0))])
 (.cond a49 (.seq (.draw 0 [.r 0 0 (.o s50 (.ldn 2 a10)), .q 1 0 (V s51 a9), .r 5 0 (.o s55 (.ldn 4 a12)), .q 6 0 (V s56 a1), .s 2 2 (.o s52 (.call 374 [a51])), .s 3 7 (.o s53 (.call 373 [a50, a52])), .s 4 15 (.o s54 (.call 372 [a53])), .s 7 127 (.o s57 (.call 371 [a54, a55, a56])), .q 8 255 (V s4 a57), .q 9 511 (V s5 (ci 0))])
 .ret) .skip))
 .bad))))))))))),
 [.tmp s4, .tmp s5]⟩
def L253 : LFun := ⟨[s0],
 (.seq (R [V s2 (.c (.b false))])
 (.seq (R [V s6 a0, .o s7 (.call 375 [a6]), V s5 a7, .o s8 (.extract 0 a5), .o s9 (.extract 1 a5), V s3 a8, V s4 a9])
 (.seq (R [V s10 a3, .o s11 (.eq true 0 a10 (ci 2047)), V s2 a11])
 .ret))),
 [.tmp s2]⟩
def L254 : LFun := ⟨[s0, s1, s2],
 (.seq (R [V s6 (.c (.b false))])
 (.seq (R [V s7 a0, V s8 a1, .o s9 (.ige a7 a8), V s10 a9, .g s10 true s11 (.mv a0), .g s10 true s12 (.mv a2), .g s10 true s13 (.ile a11 a12), .o s14 (.pick a10 a13 (.c (.b false))), V s6 a14])
 .ret)),
 [.tmp s6]⟩
def L255 : LFun := ⟨[s0],
 (.seq (R [V s2 (.c .sl0)])
 (.seq (R [V s3 a0, .o s4 (.call 376 [a3]), V s0 a4])
 (.seq (R [V s5 a0, .o s6 (.call 377 [a5, (.c (.f 378 [] []))])])
 (.seq (R [V s7 a0, V s2 a7])
 .ret)))),
 [.tmp s2]⟩
def L256 : LFun := ⟨[s0],
 (.seq (R [.o s2 (.alloc [(.b false), (.b false), .sl0, (.i .i64 0)] 165)])
 (.seq (R [V s7 a0, .o s8 (.call 375 [a7]), V s6 a8, .o s9 (.extract 0 a6), .o s10 (.extract 1 a6), V s3 a9, V s4 a10])
 (.seq (.seq (R [V s11 a3])
 (.block 0 (.seq (R [.o s17 (.eq false 0 a11 (ci 2047)), V s16 a17])
 (.cond a16 .bad (.seq (R [.o s20 (.eq false 0 a11 (ci 0)), V s19 a20])
 (.cond a19 .bad (.seq (R [V s12 a4, .o s13 (.ior a12 (.c (.i .u64 4503599627370496))), V s4 a13])
 (R [V s14 a3, .o s15 (.isub a14 (ci 1075)), V s3 a15]))))))))
 (.seq (R [V s21 a4, .o s22 (.convI .i64 a21), .o s23 (.call 381 [a22]), .o s5 (.alloc [(.b false), .sl0] 163), .n (.st 2 a5 a23)])
 (.seq (.seq (R [V s24 a0, .o s25 (.call 382 [a24])])
 (.cond a25 .bad .skip))
 (.seq (R [.o s28 (.ldn 2 a5), V s29 a3, .o s30 (.call 383 [a28, a29]), .n (.st 4 a2 a30)])
 .ret)))))),
 [.cn s2 4]⟩
def L257 : LFun := ⟨[s0, s1],
 (.seq (R [.o s2 (.box 165 a0), V s4 (.c (.i .u64 0))])
 (.seq (R [.o s5 (.ldn 4 a2), .o s6 (.call 384 [a5]), .n (.st 4 a2 a6)])
 (.seq (.block 0 (.seq (R [.o s8 (.faddr 0 a2), .o s9 (.ld1 a8), V s7 a9])
 (.cond a7 .bad (.seq (R [.o s11 (.ldn 4 a2), .o s12 (.call 385 [a11]), .o s13 (.eq false 0 a12 (ci 0)), V s10 a13])
 (.cond a10 .bad .skip)))))
 (.seq (R [.o s14 (.ldn 4 a2), .o s15 (.call 387 [a14]), V s16 a1, .o s17 (.call 386 [a15, a16]), V s4 a17])
 .ret)))),
 [.tmp s4]⟩
def L258 : LFun := ⟨[s0],
 (.seq (R [.o s2 (.alloc [(.b false), (.b false), .sl0, (.i .i64 0)] 165)])
 (.seq (R [V s3 (.c .sl0)])
 (.seq (R [V s4 (ci 0)])
 (.seq (.seq (R [V s12 a0, .o s13 (.lenV a12), V s14 (ci 0)])
 (.block 0 (.loop (.seq (R [.o s15 (.ilt a14 a13)])
 (.seq (.cond a15 .skip (.exit 0))
 (.seq (.block 1 (.seq (R [.o s16 (.iaddr 4 a12 a14), .o s17 (.ldn 4 a16), .o s6 (.alloc [(.b false), (.b false), .sl0, (.i .i64 0)] 165), .n (.st 4 a6 a17)])
 (.seq (R [.o s19 (.ldn 4 a6), .o s20 (.call 388 [a19]), V s18 a20, .o s21 (.extract 0 a18), .o s22 (.extract 1 a18), .o s7 (.alloc [(.b false), (.b false), .sl0, (.i .i64 0)] 165), .n (.st 4 a7 a21), V s8 a22])
 (.seq (.seq (R [V s23 a8, .o s24 (.not a23)])
 (.cond a24 .bad .skip))
 (.seq (R [V s26 a4, .o s27 (.faddr 3 a7), .o s28 (.ld1 a27), .o s29 (.imin a26 a28), V s4 a29])
 (R [V s30 a3, .o s31 (.ldn 4 a7), .o s32 (.bslice 165 1 4 [(.b false), (.b false), .sl0, (.i .i64 0)] [(0, 4, a31)]), .o s33 (.append 4 165 a30 a32), V s3 a33]))))))
 (R [.o s34 (.iadd a14 (ci 1)), V s14 a34])))))))
 (.seq (R [.o s9 (.alloc [(.b false), .sl0] 163)])
 (.seq (.seq (R [V s35 a3, .o s36 (.lenV a35), V s37 (ci 0)])
 (.block 2 (.loop (.seq (R [.o s38 (.ilt a37 a36)])
 (.seq (.cond a38 .skip (.exit 2))
 (.seq (.block 3 (.seq (R [.o s39 (.iaddr 4 a35 a37), .o s40 (.ldn 4 a39), .o s11 (.alloc [(.b false), (.b false), .sl0, (.i .i64 0)] 165), .n (.st 4 a11 a40)])
 (.draw 0 [.r 0 0 (.o s41 (.ldn 2 a9)), .q 1 0 (.o s42 (.faddr 1 a11)), .r 2 2 (.o s43 (.ldn 2 a42)), .q 3 0 (.o s44 (.faddr 3 a11)), .r 4 8 (.o s45 (.ld1 a44)), .q 5 0 (V s46 a4), .q 6 56 (.o s47 (.isub a45 a46)), .s 7 126 (.o s48 (.call 391 [a43, a47])), .s 8 255 (.o s49 (.call 390 [a41, a48])), .s 9 511 (.n (.st 2 a9 a49))])))
 (R [.o s50 (.iadd a37 (ci 1)), V s37 a50])))))))
 (.seq (R [.o s51 (.ldn 2 a9), V s52 a4, .o s53 (.call 383 [a51, a52]), .n (.st 4 a2 a53)])
 .ret))))))),
 [.cn s2 4]⟩
def L259 : LFun := ⟨[s0, s1, s2],
 (.seq (R [.o s6 (.alloc [(.i .i64 0), (.i .i64 0), .sl0, .sl0, .sl0] 42)])
 (.seq (R [V s11 a0, V s12 a1, V s13 a1, .o s14 (.iadd a13 (ci 1)), .o s15 (.mks 3 1 [(.i .i64 0)] a14 a14), .o s16 (.build [(.i .i64 0), (.i .i64 0), .sl0, .sl0, .sl0] [(0, 1, a11), (1, 1, a12), (2, 1, a15)]), .o s7 (.alloc [(.i .i64 0), (.i .i64 0), .sl0, .sl0, .sl0] 42), .n (.st 5 a7 a16)])
 (.seq (.seq (R [V s17 a2, .o s18 (.call 255 [a17]), .o s19 (.lenV a18), V s20 (ci 0)])
 (.block 0 (.loop (.seq (R [.o s21 (.ilt a20 a19)])
 (.seq (.cond a21 .skip (.exit 0))
 (.seq (.block 1 (.seq (R [.o s22 (.iaddr 3 a18 a20), .o s23 (.ldn 3 a22), .o s9 (.alloc [(.i .i64 0), (.i .i64 0), (.i .u64 0)] 115), .n (.st 3 a9 a23)])
 (.seq (.draw 2 [.q 0 0 (.o s24 (.faddr 3 a7)), .r 1 1 (.o s25 (.ld1 a24)), .q 2 0 (.o s26 (.faddr 0 a9)), .r 3 4 (.o s27 (.ld1 a26)), .a 4 12 0 (.o s28 (.bslice 3 1 1 [(.i .i64 0)] [(0, 1, a27)])), .q 6 0 (.o s30 (.faddr 4 a7)), .r 7 64 (.o s31 (.ld1 a30)), .q 8 0 (.o s32 (.faddr 2 a9)), .r 9 256 (.o s33 (.ld1 a32)), .a 10 768 1 (.o s34 (.bslice 52 1 1 [(.i .u64 0)] [(0, 1, a33)])), .s 5 31 (.o s29 (.append 1 3 a25 a28)), .q 12 255 (.o s36 (.faddr 3 a7)), .s 11 2047 (.o s35 (.append 1 52 a31 a34)), .s 13 8191 (.n (.st 1 a36 a29)), .q 14 16383 (.o s37 (.faddr 4 a7)), .s 15 32767 (.n (.st 1 a37 a35))])
 (R [.o s38 (.faddr 2 a7), .o s39 (.ld1 a38), .o s40 (.faddr 1 a9), .o s41 (.ld1 a40), .o s42 (.iadd a41 (ci 1)), .o s43 (.iaddr 1 a39 a42), .o s44 (.ld1 a43), .o s45 (.iadd a44 (ci 1)), .o s46 (.iaddr 1 a39 a42), .n (.st 1 a46 a45)]))))
 (R [.o s47 (.iadd a20 (ci 1)), V s20 a47])))))))
 (.seq (.seq (R [V s48 a1, V s49 (ci 0)])
 (.block 2 (.loop (.seq (R [.o s50 (.ilt a49 a48)])
 (.seq (.cond a50 .skip (.exit 2))
 (.seq (.block 3 (.seq (R [V s51 a49, V s10 a51])
 (.draw 0 [.q 0 0 (.o s52 (.faddr 2 a7)), .r 1 1 (.o s53 (.ld1 a52)), .q 2 0 (V s54 a10), .q 3 4 (.o s55 (.iadd a54 (ci 1))), .q 4 15 (.o s56 (.iaddr 1 a53 a55)), .r 5 31 (.o s57 (.ld1 a56)), .q 6 0 (.o s58 (.faddr 2 a7)), .r 7 64 (.o s59 (.ld1 a58)), .q 8 0 (V s60 a10), .q 9 448 (.o s61 (.iaddr 1 a59 a60)), .r 10 960 (.o s62 (.ld1 a61)), .q 11 2047 (.o s63 (.iadd a57 a62)), .q 12 4095 (.o s64 (.iaddr 1 a53 a55)), .s 13 8191 (.n (.st 1 a64 a63))])))
 (R [.o s65 (.iadd a49 (ci 1)), V s49 a65])))))))
 (.seq (R [.o s66 (.ldn 5 a7), .n (.st 5 a6 a66)])
 .ret))))),
 [.cn s6 5]⟩
def L260 : LFun := ⟨[s0, s1, s2],
 (.draw 0 [.r 0 0 (.o s3 (.ld1 a1)), .q 1 1 (.o s4 (.nilc a3)), .q 2 3 (.o s5 (.faddr 1 a4)), .r 3 7 (.o s6 (.ld1 a5)), .r 4 0 (.o s7 (.ld1 a2)), .r 5 0 (.o s8 (.ld1 a0)), .s 6 63 (.n (.mupd true a6 a7 a8))]),
 []⟩
def L261 : LFun := ⟨[s0, s1],
 (.seq (R [V s4 (.c (.b false))])
 (.seq (R [V s8 a0, V s9 a1, .o s10 (.lookup true .sl0 true a8 a9), V s7 a10, .o s11 (.extract 0 a7), .o s12 (.extract 1 a7), V s5 a11, V s6 a12])
 (.seq (R [V s13 a6, .o s14 (.not a13), V s15 a14, .g s15 true s16 (.mv a0), .g s15 true s17 (.lenM a16), .g s15 true s18 (.ige a17 (ci 16)), .o s19 (.pick a15 a18 (.c (.b false))), V s4 a19])
 .ret))),
 [.tmp s4]⟩
def L262 : LFun := ⟨[s0, s1],
 (.seq (R [V s4 (.c (.b false))])
 (.seq (R [V s5 a0, V s6 a1, .o s7 (.call 392 [a5, a6]), .o s8 (.ige a7 (ci 0)), V s4 a8])
 .ret)),
 [.tmp s4]⟩
def L263 : LFun := ⟨[s0],
 (.seq (R [V s2 (.c (.b false))])
 (.seq (R [V s3 a0, .o s4 (.call 141 [a3]), .o s5 (.not a4), V s2 a5])
 .ret)),
 [.tmp s2]⟩
def L264 : LFun := ⟨[s0, s1],
 (.seq (R [.o s2 (.box 42 a0), V s4 (.c .p0), V s5 (ci 0)])
 (.seq (.seq (R [.o s20 (.ldn 5 a2), .o s21 (.call 284 [a20]), V s6 a21])
 (.seq (R [V s22 a6, .o s23 (.eq true 0 a22 (ci 0))])
 (.cond a23 .bad .skip)))
 (.seq (.seq (R [.o s25 (.faddr 0 a2), .o s26 (.ld1 a25), .o s27 (.faddr 1 a2), .o s28 (.ld1 a27), .o s29 (.eq true 0 a26 a28)])
 (.cond a29 .bad .skip))
 (.seq (R [V s31 a1, .o s32 (.faddr 1 a2), .o s33 (.ld1 a32), .o s34 (.call 393 [a31, a33]), V s30 a34, .o s35 (.extract 0 a30), .o s36 (.extract 1 a30), V s7 a35, V s8 a36])
 (.seq (.seq (R [V s37 a8, .o s38 (.not a37)])
 (.cond a38 .bad .skip))
 (.seq (R [.o s40 (.ldn 5 a2), .o s41 (.call 268 [a40]), V s39 a41, .o s42 (.extract 0 a39), .o s43 (.extract 1 a39), .o s9 (.alloc [(.i .i64 0), (.i .i64 0), .sl0, .sl0, .sl0] 42), .n (.st 5 a9 a42), V s10 a43])
 (.seq (R [.o s45 (.ldn 5 a9), .o s46 (.call 269 [a45]), V s44 a46, .o s47 (.extract 0 a44), .o s48 (.extract 1 a44), .o s11 (.alloc [.sl0] 123), .n (.st 1 a11 a47), V s12 a48])
 (.seq (R [.o s50 (.ldn 1 a11), V s51 a1, .o s52 (.call 394 [a50, a51]), V s49 a52, .o s53 (.extract 0 a49), .o s54 (.extract 1 a49), .n (.st 1 a11 a53)])
 (.seq (.draw 2 [.q 0 0 (.o s55 (.faddr 1 a2)), .r 1 1 (.o s56 (.ld1 a55)), .r 2 0 (.o s57 (.ldn 1 a11)), .q 3 0 (.o s58 (.faddr 1 a2)), .r 4 8 (.o s59 (.ld1 a58)), .a 5 24 0 (.o s60 (.mks 439 1 [.m0] a59 a59)), .q 6 63 (.o s61 (.build [(.i .i64 0), .sl0, .sl0] [(0, 1, a56), (1, 1, a57), (2, 1, a60)])), .a 7 127 1 (.o s62 (.box 348 a61)), .q 8 255 (V s13 a62)])
 (.seq (.seq (R [V s63 a13, .o s64 (.nilc a63), .o s65 (.faddr 2 a64), .o s66 (.ld1 a65), .o s67 (.lenV a66), V s68 (ci 0)])
 (.block 0 (.loop (.seq (R [.o s69 (.ilt a68 a67)])
 (.seq (.cond a69 .skip (.exit 0))
 (.seq (.block 1 (.seq (R [V s70 a68, V s14 a70])
 (R [V s71 a13, .o s72 (.nilc a71), .o s73 (.faddr 2 a72), .o s74 (.ld1 a73), V s75 a14, .o s76 .mkm, .o s77 (.iaddr 1 a74 a75), .n (.st 1 a77 a76)])))
 (R [.o s78 (.iadd a68 (ci 1)), V s68 a78])))))))
 (.seq (.seq (R [.o s79 (.faddr 1 a2), .o s80 (.ld1 a79), V s81 (ci 0)])
 (.block 2 (.loop (.seq (R [.o s82 (.ilt a81 a80)])
 (.seq (.cond a82 .skip (.exit 2))
 (.seq (.block 3 (.seq (R [V s83 a81, V s15 a83])
 (.seq (R [.o s84 (.faddr 2 a2), .o s85 (.ld1 a84), V s86 a15, .o s87 (.iaddr 1 a85 a86), .o s88 (.ld1 a87), V s16 a88])
 (.block 4 (.loop (.seq (.seq (R [V s89 a16, .o s90 (.faddr 2 a2), .o s91 (.ld1 a90), V s92 a15, .o s93 (.iadd a92 (ci 1)), .o s94 (.iaddr 1 a91 a93), .o s95 (.ld1 a94), .o s96 (.ilt a89 a95)])
 (.cond a96 .skip (.exit 4)))
 (.seq (.block 5 (.seq (R [.o s99 (.faddr 3 a2), .o s100 (.ld1 a99), V s101 a16, .o s102 (.iaddr 1 a100 a101), .o s103 (.ld1 a102), V s17 a103])
 (.seq (R [V s104 a17, V s105 a15, .o s106 (.ige a104 a105)])
 (.cond a106 (.seq (.draw 0 [.q 0 0 (V s107 a7), .q 1 0 (V s108 a17), .q 2 3 (.o s109 (.iaddr 1 a107 a108)), .r 3 7 (.o s110 (.ld1 a109)), .q 4 0 (V s111 a7), .q 5 0 (V s112 a15), .q 6 48 (.o s113 (.iaddr 1 a111 a112)), .r 7 112 (.o s114 (.ld1 a113)), .q 8 15 (V s18 a110), .q 9 511 (V s19 a114)])
 (.draw 0 [.q 0 0 (V s115 a13), .q 1 1 (.o s116 (.nilc a115)), .q 2 3 (.o s117 (.faddr 2 a116)), .r 3 7 (.o s118 (.ld1 a117)), .q 4 0 (V s119 a18), .q 5 0 (V s120 a19), .q 6 48 (.o s121 (.imin a119 a120)), .q 7 127 (.o s122 (.iaddr 1 a118 a121)), .r 8 255 (.o s123 (.ld1 a122)), .q 9 0 (V s124 a18), .q 10 0 (V s125 a19), .q 11 1536 (.o s126 (.imax a124 a125)), .q 12 0 (.o s127 (.faddr 4 a2)), .r 13 4096 (.o s128 (.ld1 a127)), .q 14 0 (V s129 a16), .q 15 28672 (.o s130 (.iaddr 1 a128 a129)), .r 16 61440 (.o s131 (.ld1 a130)), .s 17 126976 (.o s132 (.call 256 [a131])), .s 18 262143 (.n (.mupd false a123 a126 a132))])) .skip))))
 (R [V s97 a16, .o s98 (.iadd a97 (ci 1)), V s16 a98]))))))))
 (R [.o s133 (.iadd a81 (ci 1)), V s81 a133])))))))
 (.seq (R [V s134 a13, V s4 a134, V s5 (ci 0)])
 .ret)))))))))))),
 [.tmp s4, .tmp s5]⟩
def L265 : LFun := ⟨[s0],
 (.seq (R [V s2 (.c .p0)])
 (.seq (R [V s11 a0, .o s12 (.nilc a11), .o s13 (.faddr 1 a12), .o s14 (.ldn 1 a13), .o s15 (.call 395 [a14]), V s10 a15, .o s16 (.extract 0 a10), .o s17 (.extract 1 a10), V s3 a16, V s4 a17])
 (.seq (.draw 4 [.q 0 0 (V s18 a3), .q 1 0 (V s19 a0), .q 2 2 (.o s20 (.nilc a19)), .q 3 6 (.o s21 (.faddr 0 a20)), .r 4 14 (.o s22 (.ld1 a21)), .a 5 30 0 (.o s23 (.mks 40 1 [.sl0] a22 a22)), .q 6 0 (V s24 a0), .q 7 64 (.o s25 (.nilc a24)), .q 8 192 (.o s26 (.faddr 0 a25)), .r 9 448 (.o s27 (.ld1 a26)), .a 10 960 1 (.o s28 (.mks 439 1 [.m0] a27 a27)), .q 11 0 (V s29 a0), .q 12 2048 (.o s30 (.nilc a29)), .q 13 6144 (.o s31 (.faddr 0 a30)), .r 14 14336 (.o s32 (.ld1 a31)), .a 15 30720 2 (.o s33 (.mks 39 1 [.sl0] a32 a32)), .q 16 65535 (.o s34 (.build [.sl0, .sl0, .sl0, .sl0] [(0, 1, a18), (1, 1, a23), (2, 1, a28), (3, 1, a33)])), .a 17 131071 3 (.o s35 (.box 441 a34)), .q 18 262143 (V s5 a35)])
 (.seq (.seq (R [V s36 a3, .o s37 (.lenV a36), V s38 (ci 0)])
 (.block 0 (.loop (.seq (R [.o s39 (.ilt a38 a37)])
 (.seq (.cond a39 .skip (.exit 0))
 (.seq (.block 1 (.seq (R [V s40 a38, .o s41 (.iaddr 1 a36 a38), .o s42 (.ld1 a41), V s6 a40, V s7 a42])
 (.seq (R [V s43 a7, .o s44 (.lenV a43), V s45 (ci 0)])
 (.block 2 (.loop (.seq (R [.o s46 (.ilt a45 a44)])
 (.seq (.cond a46 .skip (.exit 2))
 (.seq (.block 3 (.seq (R [.o s47 (.iaddr 1 a43 a45), .o s48 (.ld1 a47), V s9 a48])
 (.seq (R [V s49 a9, V s50 a6, .o s51 (.igt a49 a50)])
 (.cond a51 .bad .skip))))
 (R [.o s68 (.iadd a45 (ci 1)), V s45 a68])))))))))
 (R [.o s69 (.iadd a38 (ci 1)), V s38 a69])))))))
 (.seq (R [V s70 a5, V s2 a70])
 .ret))))),
 [.tmp s2]⟩
def L266 : LFun := ⟨[s0, s1, s2],
 (.seq (R [V s6 (ci 0)])
 (.seq (R [V s12 a0, V s13 a1, V s14 a2, V s15 a2, .o s16 (.call 396 [a12, a13, a14, a15]), .o s7 (.alloc [(.b false), (.b false), .sl0, (.i .i64 0)] 165), .n (.st 4 a7 a16)])
 (.seq (.seq (R [.o s17 (.ldn 4 a7), .o s18 (.call 385 [a17]), .o s19 (.ile a18 (ci 0))])
 (.cond a19 .bad .skip))
 (.seq (R [.o s20 (.ldn 4 a7), .o s21 (.call 397 [a20, (ci 0)]), V s8 a21])
 (.seq (.seq (R [V s22 a8, .o s23 (.call 398 [a22]), .o s24 (.eq false 0 a23 (ci 0))])
 (.cond a24 .bad .skip))
 (.seq (.draw 2 [.q 0 0 (V s25 a0), .q 1 1 (.o s26 (.nilc a25)), .q 2 3 (.o s27 (.faddr 1 a26)), .r 3 7 (.o s28 (.ld1 a27)), .q 4 0 (V s29 a2), .q 5 0 (V s30 a0), .q 6 32 (.o s31 (.nilc a30)), .q 7 96 (.o s32 (.faddr 2 a31)), .r 8 224 (.o s33 (.ld1 a32)), .q 9 0 (V s34 a2), .q 10 0 (V s35 a8), .a 11 1024 0 (.o s36 (.bslice 52 1 1 [(.i .u64 0)] [(0, 1, a35)])), .a 12 0 1 (.o s37 .mkm), .q 13 0 (V s38 a2), .q 14 0 (V s39 a8), .s 15 16384 (.o s40 (.call 256 [a39])), .i 16 61440 1 (.n (.mupd false a37 a38 a40)), .q 17 126976 (V s41 a37), .q 18 52735 (.o s42 (.iaddr 1 a28 a29)), .s 19 314879 (.n (.st 1 a42 a36)), .q 20 1048575 (.o s43 (.iaddr 1 a33 a34)), .s 21 2097151 (.n (.st 1 a43 a41))])
 (.seq (.seq (R [V s44 a8, .o s45 (.call 253 [a44]), .o s46 (.not a45)])
 (.cond a46 .bad .skip))
 (.seq (.seq (R [V s47 a0, .o s48 (.nilc a47), .o s49 (.faddr 0 a48), .o s50 (.ld1 a49), V s51 a2, .o s52 (.iaddr 1 a50 a51), .o s53 (.ld1 a52), .o s54 (.slV 1 a53 (some (ci 1)) none none), .o s55 (.lenV a54), V s56 (ci 0)])
 (.block 0 (.loop (.seq (R [.o s57 (.ilt a56 a55)])
 (.seq (.cond a57 .skip (.exit 0))
 .bad)))))
 (.seq (R [V s6 (ci 0)])
 .ret))))))))),
 [.tmp s6]⟩
def L267 : LFun := ⟨[s0, s1],
 (.seq (R [.o s4 (.alloc [.sl0, .sl0, .sl0, .sl0] 57)])
 (.seq (R [V s7 a1, .o s8 (.call 273 [a7]), .o s9 (.bslice 3 1 1 [(.i .i64 0)] [(0, 1, (ci 0))]), .o s10 (.build [.sl0, .sl0, .sl0, .sl0] [(0, 1, a8), (1, 1, a9)]), .o s5 (.alloc [.sl0, .sl0, .sl0, .sl0] 57), .n (.st 4 a5 a10)])
 (.seq (.seq (R [V s11 a0, .o s12 (.nilc a11), .o s13 (.faddr 0 a12), .o s14 (.ld1 a13), .o s15 (.lenV a14), V s16 (ci 0)])
 (.block 0 (.loop (.seq (R [.o s17 (.ilt a16 a15)])
 (.seq (.cond a17 .skip (.exit 0))
 (.seq (.block 1 (.seq (R [V s18 a16, V s6 a18])
 (.seq (.draw 0 [.q 0 0 (.o s19 (.faddr 2 a5)), .r 1 1 (.o s20 (.ld1 a19)), .q 2 0 (V s21 a0), .q 3 4 (.o s22 (.nilc a21)), .q 4 12 (.o s23 (.faddr 0 a22)), .r 5 28 (.o s24 (.ld1 a23)), .q 6 0 (V s25 a6), .q 7 124 (.o s26 (.iaddr 1 a24 a25)), .r 8 252 (.o s27 (.ld1 a26)), .s 9 511 (.o s28 (.append 1 3 a20 a27)), .q 10 1023 (.o s29 (.faddr 2 a5)), .s 11 2047 (.n (.st 1 a29 a28))])
 (.seq (.draw 0 [.q 0 0 (.o s30 (.faddr 3 a5)), .r 1 1 (.o s31 (.ld1 a30)), .q 2 0 (V s32 a0), .q 3 4 (.o s33 (.nilc a32)), .q 4 12 (.o s34 (.faddr 1 a33)), .r 5 28 (.o s35 (.ld1 a34)), .q 6 0 (V s36 a6), .q 7 124 (.o s37 (.iaddr 1 a35 a36)), .r 8 252 (.o s38 (.ld1 a37)), .s 9 511 (.o s39 (.append 1 52 a31 a38)), .q 10 1023 (.o s40 (.faddr 3 a5)), .s 11 2047 (.n (.st 1 a40 a39))])
 (R [.o s41 (.faddr 1 a5), .o s42 (.ld1 a41), .o s43 (.faddr 2 a5), .o s44 (.ld1 a43), .o s45 (.lenV a44), .o s46 (.bslice 3 1 1 [(.i .i64 0)] [(0, 1, a45)]), .o s47 (.append 1 3 a42 a46), .o s48 (.faddr 1 a5), .n (.st 1 a48 a47)])))))
 (R [.o s49 (.iadd a16 (ci 1)), V s16 a49])))))))
 (.seq (R [.o s50 (.ldn 4 a5), .n (.st 4 a4 a50)])
 .ret)))),
 [.cn s4 4]⟩
def L268 : LFun := ⟨[s0],
 (.seq (R [.o s1 (.box 42 a0), .o s2 (.alloc [(.i .i64 0), (.i .i64 0), .sl0, .sl0, .sl0] 42), V s3 (ci 0)])
 (.seq (R [.o s8 (.ldn 5 a1), .o s9 (.call 284 [a8]), V s4 a9])
 (.seq (.seq (R [V s10 a4, .o s11 (.eq true 0 a10 (ci 0))])
 (.cond a11 .bad .skip))
 (.seq (R [V s5 (.c .sl0)])
 (.seq (.seq (R [.o s14 (.ldn 5 a1), .o s15 (.call 399 [a14]), .o s16 (.lenV a15), V s17 (ci 0)])
 (.block 0 (.loop (.seq (R [.o s18 (.ilt a17 a16)])
 (.seq (.cond a18 .skip (.exit 0))
 (.seq (.block 1 (.seq (R [.o s19 (.iaddr 3 a15 a17), .o s20 (.ldn 3 a19), .o s7 (.alloc [(.i .i64 0), (.i .i64 0), (.i .u64 0)] 115), .n (.st 3 a7 a20)])
 (.seq (R [.o s21 (.faddr 0 a7), .o s22 (.ld1 a21), .o s23 (.faddr 1 a7), .o s24 (.ld1 a23), .o s25 (.ige a22 a24)])
 (.cond a25 (R [V s26 a5, .o s27 (.ldn 3 a7), .o s28 (.bslice 115 1 3 [(.i .i64 0), (.i .i64 0), (.i .u64 0)] [(0, 3, a27)]), .o s29 (.append 3 115 a26 a28), V s5 a29]) .skip))))
 (R [.o s30 (.iadd a17 (ci 1)), V s17 a30])))))))
 (.seq (R [.o s31 (.faddr 0 a1), .o s32 (.ld1 a31), .o s33 (.faddr 1 a1), .o s34 (.ld1 a33), V s35 a5, .o s36 (.call 259 [a32, a34, a35]), .n (.st 5 a2 a36), V s3 (ci 0)])
 .ret)))))),
 [.cn s2 5, .tmp s3]⟩
def L269 : LFun := ⟨[s0],
 (.seq (R [.o s1 (.box 42 a0), .o s2 (.alloc [.sl0] 123), V s3 (ci 0)])
 (.seq (R [.o s8 (.ldn 5 a1), .o s9 (.call 284 [a8]), V s4 a9])
 (.seq (.block 0 (.seq (R [V s11 a4, .o s12 (.eq true 0 a11 (ci 0)), V s10 a12])
 (.cond a10 .bad (.seq (R [.o s16 (.faddr 0 a1), .o s17 (.ld1 a16), .o s18 (.faddr 1 a1), .o s19 (.ld1 a18), .o s20 (.eq true 0 a17 a19), V s15 a20])
 (.cond a15 .bad .skip)))))
 (.seq (R [.o s22 (.faddr 1 a1), .o s23 (.ld1 a22), .o s24 (.call 400 [a23]), V s5 a24])
 (.seq (.seq (R [.o s25 (.ldn 5 a1), .o s26 (.call 401 [a25]), .o s27 (.lenV a26), V s28 (ci 0)])
 (.block 1 (.loop (.seq (R [.o s29 (.ilt a28 a27)])
 (.seq (.cond a29 .skip (.exit 1))
 (.seq (.block 2 (.seq (R [.o s30 (.iaddr 3 a26 a28), .o s31 (.ldn 3 a30), .o s7 (.alloc [(.i .i64 0), (.i .i64 0), (.i .u64 0)] 115), .n (.st 3 a7 a31)])
 (R [V s32 a5, .o s33 (.faddr 0 a7), .o s34 (.ld1 a33), .o s35 (.faddr 1 a7), .o s36 (.ld1 a35), .o s37 (.call 402 [a32, a34, a36])])))
 (R [.o s38 (.iadd a28 (ci 1)), V s28 a38])))))))
 (.seq (R [V s39 a5, .o s40 (.call 403 [a39]), .n (.st 1 a2 a40), V s3 (ci 0)])
 .ret)))))),
 [.cn s2 1, .tmp s3]⟩
def L270 : LFun := ⟨[s0],
 (.seq (R [.o s1 (.box 123 a0), V s2 (.c .sl0), V s3 (ci 0)])
 (.seq (R [.o s8 (.ldn 1 a1), .o s9 (.call 404 [a8]), V s7 a9, .o s10 (.extract 0 a7), .o s11 (.extract 1 a7), .o s12 (.extract 2 a7), V s4 a10, V s5 a11, V s6 a12])
 (.seq (R [V s13 a4, V s14 a6, V s2 a13, V s3 a14])
 .ret))),
 [.tmp s2, .tmp s3]⟩
def L271 : LFun := ⟨[s0, s1, s2],
 (.draw 0 [.r 0 0 (.o s3 (.ld1 a1)), .q 1 1 (.o s4 (.nilc a3)), .q 2 3 (.o s5 (.faddr 2 a4)), .r 3 7 (.o s6 (.ld1 a5)), .r 4 0 (.o s7 (.ld1 a2)), .r 5 0 (.o s8 (.ldn 4 a0)), .s 6 63 (.n (.mupd true a6 a7 a8))]),
 []⟩
def L272 : LFun := ⟨[s0, s1],
 (.seq (R [V s4 (.c (.b false))])
 (.seq (R [V s8 a0, V s9 a1, .o s10 (.lookup true (.agg [.sl0, .sl0, .sl0, .sl0]) true a8 a9), V s7 a10, .o s11 (.extract 0 a7), .o s12 (.extract 1 a7), .o s5 (.alloc [.sl0, .sl0, .sl0, .sl0] 57), .n (.st 4 a5 a11), V s6 a12])
 (.seq (R [V s13 a6, .o s14 (.not a13), V s15 a14, .g s15 true s16 (.mv a0), .g s15 true s17 (.lenM a16), .g s15 true s18 (.ige a17 (ci 16)), .o s19 (.pick a15 a18 (.c (.b false))), V s4 a19])
 .ret))),
 [.tmp s4]⟩
def L273 : LFun := ⟨[s0],
 (.seq (R [V s2 (.c .sl0)])
 (.seq (.seq (R [V s3 a0, .o s4 (.eq false 2 a3 (.c .sl0))])
 (.cond a4 .bad .skip))
 (.seq (R [.o s5 (.bslice 3 0 1 [] []), V s6 a0, .o s7 (.append 1 3 a5 a6), V s2 a7])
 .ret))),
 [.tmp s2]⟩
def L274 : LFun := ⟨[s0],
 (.seq (R [V s2 (.c .sl0)])
 (.seq (.seq (R [V s3 a0, .o s4 (.eq false 2 a3 (.c .sl0))])
 (.cond a4 .bad .skip))
 (.seq (R [.o s5 (.bslice 52 0 1 [] []), V s6 a0, .o s7 (.append 1 52 a5 a6), V s2 a7])
 .ret))),
 [.tmp s2]⟩
def L275 : LFun := ⟨[s0, s1],
 (.seq (R [.o s4 (.alloc [.sl0, .sl0, .sl0, .sl0] 57), V s5 (ci 0)])
 (.seq (R [V s9 a0, V s10 a1, .o s11 (.lookup true (.agg [.sl0, .sl0, .sl0, .sl0]) true a9 a10), V s8 a11, .o s12 (.extract 0 a8), .o s13 (.extract 1 a8), .o s6 (.alloc [.sl0, .sl0, .sl0, .sl0] 57), .n (.st 4 a6 a12), V s7 a13])
 (.seq (.seq (R [V s14 a7, .o s15 (.not a14)])
 (.cond a15 .bad .skip))
 (.seq (R [.o s17 (.ldn 4 a6), .n (.st 4 a4 a17), V s5 (ci 0)])
 .ret)))),
 [.cn s4 4, .tmp s5]⟩
def L276 : LFun := ⟨[s0, s1],
 (.seq (R [.o s2 (.box 57 a0), V s4 (ci 0)])
 (.seq (.seq (R [.o s6 (.ldn 4 a2), .o s7 (.call 405 [a6]), V s5 a7])
 (.seq (R [V s8 a5, .o s9 (.eq true 0 a8 (ci 0))])
 (.cond a9 .bad .skip)))
 (.seq (R [V s11 a1, .o s12 (.faddr 0 a2), .o s13 (.ld1 a12), .o s14 (.lenV a13), .o s15 (.call 406 [a11, a14]), V s4 a15])
 .ret))),
 [.tmp s4]⟩
def L277 : LFun := ⟨[s0, s1, s2],
 (.seq (R [.o s3 (.box 57 a0), V s6 (.c .sl0), V s7 (ci 0)])
 (.seq (.draw 1 [.q 0 0 (V s13 a1), .q 2 0 (V s15 a1), .q 3 4 (.o s16 (.lenV a15)), .a 4 12 0 (.o s17 (.mks 52 1 [(.i .u64 0)] a16 a16)), .s 1 1 (.o s14 (.call 407 [a13])), .q 5 3 (V s8 a14), .q 6 63 (V s9 a17)])
 (.seq (.seq (R [V s18 a2, .o s19 (.lenV a18), V s20 (ci 0)])
 (.block 0 (.loop (.seq (R [.o s21 (.ilt a20 a19)])
 (.seq (.cond a21 .skip (.exit 0))
 (.seq (.block 1 (.seq (R [.o s22 (.iaddr 1 a18 a20), .o s23 (.ld1 a22), V s11 a23])
 (.seq (.draw 0 [.q 0 0 (V s24 a9), .q 1 0 (V s25 a11), .q 2 0 (V s26 a8), .q 3 0 (V s27 a11), .q 5 0 (.o s29 (.faddr 3 a3)), .r 6 32 (.o s30 (.ld1 a29)), .q 7 0 (.o s31 (.faddr 1 a3)), .r 8 128 (.o s32 (.ld1 a31)), .q 9 0 (V s33 a11), .q 10 896 (.o s34 (.iaddr 1 a32 a33)), .r 11 1920 (.o s35 (.ld1 a34)), .q 12 4064 (.o s36 (.iaddr 1 a30 a35)), .r 13 8160 (.o s37 (.ld1 a36)), .s 4 12 (.o s28 (.call 408 [a26, a27])), .s 14 16380 (.o s38 (.call 256 [a37])), .s 15 32764 (.o s39 (.call 371 [a28, a38, (ci 0)])), .q 16 65535 (.o s40 (.iaddr 1 a24 a25)), .s 17 131071 (.n (.st 1 a40 a39))])
 (.seq (.seq (R [V s41 a9, V s42 a11, .o s43 (.iaddr 1 a41 a42), .o s44 (.ld1 a43), .o s45 (.call 253 [a44]), .o s46 (.not a45)])
 (.cond a46 .bad .skip))
 (.seq (R [.o s47 (.faddr 1 a3), .o s48 (.ld1 a47), V s49 a11, .o s50 (.iaddr 1 a48 a49), .o s51 (.ld1 a50), .o s52 (.iadd a51 (ci 1)), V s12 a52])
 (.block 2 (.loop (.seq (.seq (R [V s53 a12, .o s54 (.faddr 1 a3), .o s55 (.ld1 a54), V s56 a11, .o s57 (.iadd a56 (ci 1)), .o s58 (.iaddr 1 a55 a57), .o s59 (.ld1 a58), .o s60 (.ilt a53 a59)])
 (.cond a60 .skip (.exit 2)))
 .bad))))))))
 (R [.o s79 (.iadd a20 (ci 1)), V s20 a79])))))))
 (.seq (R [V s80 a9, V s6 a80, V s7 (ci 0)])
 .ret)))),
 [.tmp s6, .tmp s7]⟩
def L278 : LFun := ⟨[s0, s1],
 (.seq (R [V s4 (.c .sl0)])
 (.seq (R [V s8 a0, .o s9 (.lenV a8), .o s10 (.mks 52 1 [(.i .u64 0)] a9 a9), V s5 a10])
 (.seq (.seq (R [V s11 a1, .o s12 (.lenV a11), V s13 (ci 0)])
 (.block 0 (.loop (.seq (R [.o s14 (.ilt a13 a12)])
 (.seq (.cond a14 .skip (.exit 0))
 (.seq (.block 1 (.seq (R [V s15 a13, .o s16 (.iaddr 1 a11 a13), .o s17 (.ld1 a16), V s6 a15, V s7 a17])
 (R [V s18 a5, V s19 a6, V s20 a0, V s21 a7, .o s22 (.iaddr 1 a20 a21), .o s23 (.ld1 a22), .o s24 (.iaddr 1 a18 a19), .n (.st 1 a24 a23)])))
 (R [.o s25 (.iadd a13 (ci 1)), V s13 a25])))))))
 (.seq (R [V s26 a5, V s4 a26])
 .ret)))),
 [.tmp s4]⟩
def L279 : LFun := ⟨[s0],
 (.seq (R [V s2 (.c .sl0)])
 (.seq (R [V s3 (.c .sl0)])
 (.seq (.seq (R [V s5 a0, V s6 (ci 0)])
 (.block 0 (.loop (.seq (R [.o s7 (.ilt a6 a5)])
 (.seq (.cond a7 .skip (.exit 0))
 (.seq (.block 1 (.seq (R [V s8 a6, V s4 a8])
 (R [V s9 a3, V s10 a4, .o s11 (.bslice 3 1 1 [(.i .i64 0)] [(0, 1, a10)]), .o s12 (.append 1 3 a9 a11), V s3 a12])))
 (R [.o s13 (.iadd a6 (ci 1)), V s6 a13])))))))
 (.seq (R [V s14 a3, V s2 a14])
 .ret)))),
 [.tmp s2]⟩
def L280 : LFun := ⟨[s0, s1],
 (.seq (R [.o s2 (.box 57 a0), V s4 (.c .sl0), V s5 (ci 0)])
 (.seq (.draw 1 [.q 0 0 (V s10 a1), .q 2 0 (V s12 a1), .q 3 4 (.o s13 (.lenV a12)), .a 4 12 0 (.o s14 (.mks 52 1 [(.i .u64 0)] a13 a13)), .s 1 1 (.o s11 (.call 407 [a10])), .q 5 3 (V s6 a11), .q 6 63 (V s7 a14)])
 (.seq (.seq (R [V s15 a1, .o s16 (.lenV a15), .o s17 (.isub a16 (ci 1)), V s8 a17])
 (.block 0 (.loop (.seq (.seq (R [V s18 a8, .o s19 (.ige a18 (ci 0))])
 (.cond a19 .skip (.exit 0)))
 (.seq (.block 1 (.seq (.seq (R [.o s22 (.faddr 1 a2), .o s23 (.ld1 a22), V s24 a8, .o s25 (.iaddr 1 a23 a24), .o s26 (.ld1 a25), .o s27 (.iadd a26 (ci 1)), V s9 a27])
 (.block 2 (.loop (.seq (.seq (R [V s28 a9, .o s29 (.faddr 1 a2), .o s30 (.ld1 a29), V s31 a8, .o s32 (.iadd a31 (ci 1)), .o s33 (.iaddr 1 a30 a32), .o s34 (.ld1 a33), .o s35 (.ilt a28 a34)])
 (.cond a35 .skip (.exit 2)))
 .bad))))
 (.seq (.draw 0 [.q 0 0 (V s54 a7), .q 1 0 (V s55 a8), .q 2 0 (V s56 a6), .q 3 0 (V s57 a8), .q 5 0 (.o s59 (.faddr 3 a2)), .r 6 32 (.o s60 (.ld1 a59)), .q 7 0 (.o s61 (.faddr 1 a2)), .r 8 128 (.o s62 (.ld1 a61)), .q 9 0 (V s63 a8), .q 10 896 (.o s64 (.iaddr 1 a62 a63)), .r 11 1920 (.o s65 (.ld1 a64)), .q 12 4064 (.o s66 (.iaddr 1 a60 a65)), .r 13 8160 (.o s67 (.ld1 a66)), .s 4 12 (.o s58 (.call 408 [a56, a57])), .s 14 16380 (.o s68 (.call 256 [a67])), .s 15 32764 (.o s69 (.call 371 [a58, a68, (ci 0)])), .q 16 65535 (.o s70 (.iaddr 1 a54 a55)), .s 17 131071 (.n (.st 1 a70 a69))])
 (.seq (R [V s71 a7, V s72 a8, .o s73 (.iaddr 1 a71 a72), .o s74 (.ld1 a73), .o s75 (.call 253 [a74]), .o s76 (.not a75)])
 (.cond a76 .bad .skip)))))
 (R [V s20 a8, .o s21 (.isub a20 (ci 1)), V s8 a21]))))))
 (.seq (R [V s77 a7, V s4 a77, V s5 (ci 0)])
 .ret)))),
 [.tmp s4, .tmp s5]⟩
def L281 : LFun := ⟨[s0, s1],
 (.seq (R [V s4 (.c .sl0)])
 (.seq (R [V s8 a0, .o s9 (.lenV a8), .o s10 (.mks 52 1 [(.i .u64 0)] a9 a9), V s5 a10])
 (.seq (.seq (R [V s11 a1, .o s12 (.lenV a11), V s13 (ci 0)])
 (.block 0 (.loop (.seq (R [.o s14 (.ilt a13 a12)])
 (.seq (.cond a14 .skip (.exit 0))
 (.seq (.block 1 (.seq (R [V s15 a13, .o s16 (.iaddr 1 a11 a13), .o s17 (.ld1 a16), V s6 a15, V s7 a17])
 (R [V s18 a5, V s19 a7, V s20 a0, V s21 a6, .o s22 (.iaddr 1 a20 a21), .o s23 (.ld1 a22), .o s24 (.iaddr 1 a18 a19), .n (.st 1 a24 a23)])))
 (R [.o s25 (.iadd a13 (ci 1)), V s13 a25])))))))
 (.seq (R [V s26 a5, V s4 a26])
 .ret)))),
 [.tmp s4]⟩
def L282 : LFun := ⟨[s0],
 (.seq (R [V s2 (.c (.s 0 0))])
 (.seq (R [V s3 (.c (.s 0 0))])
 (.seq (.seq (R [V s11 a0, .o s12 (.iand a11 (.c (.i .u64 9223372036854775808))), .o s13 (.eq true 0 a12 (.c (.i .u64 0)))])
 (.cond a13 .bad .skip))
 (.seq (.seq (R [V s14 a0, .o s15 (.call 398 [a14])])
 (.block 0 (.seq (R [.o s17 (.eq false 0 a15 (ci 3)), V s16 a17])
 (.cond a16 .bad (.seq (R [.o s19 (.eq false 0 a15 (ci 2)), V s18 a19])
 (.cond a18 .bad (.seq (R [.o s23 (.eq false 0 a15 (ci 0)), V s22 a23])
 (.cond a22 .bad .skip))))))))
 (.seq (R [V s4 (ci 1)])
 (.block 1 (.loop (.seq (.block 2 (.seq (R [V s29 a0, V s30 a4, .o s31 (.call 410 [a29, a30]), V s28 a31, .o s32 (.extract 0 a28), .o s33 (.extract 1 a28), .o s34 (.extract 2 a28), V s5 a32, V s6 a33, V s7 a34])
 (.seq (.seq (R [V s35 a7, .o s36 (.eq true 0 a35 (ci 0))])
 (.cond a36 .bad .skip))
 (.seq (R [V s37 a5, .o s38 (.slS a37 none (some (ci 1))), V s8 a38])
 (.seq (.seq (R [V s39 a4, .o s40 (.igt a39 (ci 1))])
 (.cond a40 .bad .skip))
 (.seq (R [V s46 a8, V s47 a6, .o s48 (.call 22 [a47]), .o s49 (.sadd (.c (.s 1 101)) a48), .o s50 (.sadd a46 a49), V s8 a50])
 (.seq (R [V s52 a8, .o s53 (.call 252 [a52, (ci 0)]), V s51 a53, .o s54 (.extract 0 a51), .o s55 (.extract 1 a51), V s9 a54, V s10 a55])
 (.seq (R [V s56 a9, V s57 a0, .o s58 (.call 411 [a57]), .o s59 (.eq false 0 a56 a58)])
 (.cond a59 (.seq (R [V s60 a3, V s61 a8, .o s62 (.sadd a60 a61), V s2 a62])
 .ret) .skip)))))))))
 .bad)))))))),
 [.tmp s2]⟩
def L284 : LFun := ⟨[s0],
 (.seq (R [.o s1 (.box 42 a0), V s2 (ci 0)])
 (.seq (.block 0 (.seq (R [.o s4 (.faddr 0 a1), .o s5 (.ld1 a4), .o s6 (.call 254 [a5, (ci 0), (ci 200)]), .o s7 (.not a6), V s8 a7, .g s8 false s9 (.faddr 1 a1), .g s8 false s10 (.ld1 a9), .g s8 false s11 (.call 254 [a10, (ci 0), (ci 200)]), .g s8 false s12 (.not a11), .o s13 (.pick a8 (.c (.b true)) a12), V s14 a13, .g s14 false s15 (.faddr 3 a1), .g s14 false s16 (.ld1 a15), .g s14 false s17 (.lenV a16), .g s14 false s18 (.igt a17 (ci 10000)), .o s19 (.pick a14 (.c (.b true)) a18), V s3 a19])
 (.cond a3 .bad (.seq (R [.o s21 (.ldn 5 a1), .o s22 (.call 416 [a21]), .o s23 (.not a22), V s20 a23])
 (.cond a20 .bad (.seq (R [.o s25 (.faddr 4 a1), .o s26 (.ld1 a25), .o s27 (.call 417 [a26, (.c (.f 418 [] []))]), V s24 a27])
 (.cond a24 .bad .skip)))))))
 (.seq (R [V s2 (ci 0)])
 .ret))),
 [.tmp s2]⟩
def L290 : LFun := ⟨[s0, s1, s2],
 (.seq (R [.o s3 (.box 42 a0), V s6 (ci 0)])
 (.seq (.seq (R [.o s8 (.ldn 5 a3), .o s9 (.call 284 [a8]), V s7 a9])
 (.seq (R [V s10 a7, .o s11 (.eq true 0 a10 (ci 0))])
 (.cond a11 .bad .skip)))
 (.seq (.block 0 (.seq (R [.o s14 (.faddr 0 a3), .o s15 (.ld1 a14), .o s16 (.faddr 1 a3), .o s17 (.ld1 a16), .o s18 (.eq true 0 a15 a17), V s13 a18])
 (.cond a13 .bad (.seq (R [.o s20 (.faddr 0 a3), .o s21 (.ld1 a20), .o s22 (.igt a21 (ci 16)), V s19 a22])
 (.cond a19 .bad (.seq (R [V s24 a1, .o s25 (.call 398 [a24]), .o s26 (.eq false 0 a25 (ci 3)), V s27 a26, .g s27 false s28 (.mv a2), .g s27 false s29 (.not a28), .g s27 false s30 (.mv a29), .g s30 true s31 (.mv a1), .g s30 true s32 (.call 253 [a31]), .g s30 true s33 (.not a32), .g s27 false s34 (.pick a30 a33 (.c (.b false))), .o s35 (.pick a27 (.c (.b true)) a34), V s23 a35])
 (.cond a23 .bad .skip)))))))
 (.seq (R [V s6 (ci 0)])
 .ret)))),
 [.tmp s6]⟩
def L291 : LFun := ⟨[s0],
 (.seq (R [V s2 (ci 0), V s3 (ci 0), V s4 (ci 0), V s5 (ci 0)])
 (.seq (R [V s15 a0, .o s16 (.call 436 [a15]), V s5 a16])
 (.seq (.seq (R [V s17 a5, .o s18 (.eq true 0 a17 (ci 0))])
 (.cond a18 .bad .skip))
 (.seq (.seq (R [V s20 a0, .o s21 (.lenV a20), V s22 (ci 0)])
 (.block 0 (.loop (.seq (R [.o s23 (.ilt a22 a21)])
 (.seq (.cond a23 .skip (.exit 0))
 (.seq (.block 1 (.seq (R [V s24 a22, .o s25 (.iaddr 1 a20 a22), .o s26 (.ld1 a25), V s6 a24, V s7 a26])
 (.seq (R [V s27 a7, .o s28 (.lenV a27), V s29 (ci 0)])
 (.block 2 (.loop (.seq (R [.o s30 (.ilt a29 a28)])
 (.seq (.cond a30 .skip (.exit 2))
 (.seq (.block 3 (.seq (R [V s31 a29, .o s32 (.iaddr 2 a27 a29), .o s33 (.ldn 2 a32), .o s9 (.alloc [(.b false), .sl0] 163), V s8 a31, .n (.st 2 a9 a33)])
 (.seq (.draw 0 [.r 0 0 (.o s34 (.ldn 2 a9)), .q 1 0 (V s35 a0), .q 2 0 (V s36 a8), .q 3 6 (.o s37 (.iaddr 1 a35 a36)), .r 4 14 (.o s38 (.ld1 a37)), .q 5 0 (V s39 a6), .q 6 62 (.o s40 (.iaddr 2 a38 a39)), .r 7 126 (.o s41 (.ldn 2 a40)), .s 8 255 (.o s42 (.call 437 [a34, a41])), .q 9 511 (.o s43 (.eq true 0 a42 (ci 0)))])
 (.cond a43 .bad .skip))))
 (R [.o s44 (.iadd a29 (ci 1)), V s29 a44])))))))))
 (R [.o s45 (.iadd a22 (ci 1)), V s22 a45])))))))
 (.seq (R [V s46 a0, .o s47 (.call 439 [a46, (.c .sl0)]), .o s48 (.call 438 [a47]), V s10 a48])
 (.seq (.block 4 (.loop (.seq (.seq (R [V s49 a3, V s50 a0, .o s51 (.lenV a50), .o s52 (.ilt a49 a51), V s53 a52, .g s53 true s54 (.mv a10), .g s53 true s55 (.mv a3), .g s53 true s56 (.iaddr 2 a54 a55), .g s53 true s57 (.ldn 2 a56), .g s53 true s58 (.call 440 [a57]), .g s53 true s59 (.eq false 0 a58 (ci 0)), .o s60 (.pick a53 a59 (.c (.b false)))])
 (.cond a60 .skip (.exit 4)))
 .bad)))
 (.seq (R [V s11 (ci 0)])
 (.seq (.seq (R [V s63 a10, .o s64 (.lenV a63), V s65 (ci 0)])
 (.block 6 (.loop (.seq (R [.o s66 (.ilt a65 a64)])
 (.seq (.cond a66 .skip (.exit 6))
 (.seq (.block 7 (.seq (R [.o s67 (.iaddr 2 a63 a65), .o s68 (.ldn 2 a67), .o s13 (.alloc [(.b false), .sl0] 163), .n (.st 2 a13 a68)])
 (.seq (R [.o s69 (.ldn 2 a13), .o s70 (.call 440 [a69]), V s14 a70])
 (.seq (.seq (R [V s71 a14, V s72 a11, .o s73 (.imul a71 a72), .o s74 (.ilt a73 (ci 0))])
 (.cond a74 .bad .skip))
 (.seq (R [V s77 a14, .o s78 (.eq true 0 a77 (ci 0))])
 (.cond a78 (R [V s79 a14, V s11 a79]) .skip))))))
 (R [.o s80 (.iadd a65 (ci 1)), V s65 a80])))))))
 (.seq (R [V s81 a0, .o s82 (.lenV a81), V s83 a3, .o s84 (.isub a82 a83), V s85 a4, .o s86 (.isub a84 a85), V s87 a3, V s88 a4, V s2 a86, V s3 a87, V s4 a88, V s5 (ci 0)])
 .ret))))))))),
 [.tmp s2, .tmp s3, .tmp s4, .tmp s5]⟩
def L292 : LFun := ⟨[s0],
 (.seq (R [V s2 (.c .sl0)])
 (.seq (R [V s3 (ci 0)])
 (.seq (.seq (R [V s15 a0, .o s16 (.lenV a15), V s17 (ci 0)])
 (.block 0 (.loop (.seq (R [.o s18 (.ilt a17 a16)])
 (.seq (.cond a18 .skip (.exit 0))
 (.seq (.block 1 (.seq (R [.o s19 (.iaddr 1 a15 a17), .o s20 (.ld1 a19), V s5 a20])
 (.seq (R [V s21 a5, .o s22 (.lenV a21), V s23 (ci 0)])
 (.block 2 (.loop (.seq (R [.o s24 (.ilt a23 a22)])
 (.seq (.cond a24 .skip (.exit 2))
 (.seq (.block 3 (.seq (R [.o s25 (.iaddr 4 a21 a23), .o s26 (.ldn 4 a25), .o s7 (.alloc [(.b false), (.b false), .sl0, (.i .i64 0)] 165), .n (.st 4 a7 a26)])
 (.seq (R [.o s27 (.ldn 4 a7), .o s28 (.call 384 [a27]), .n (.st 4 a7 a28)])
 (.seq (R [.o s29 (.ldn 4 a7), .o s30 (.call 385 [a29]), .o s31 (.eq true 0 a30 (ci 0))])
 (.cond a31 (R [V s32 a3, .o s33 (.faddr 3 a7), .o s34 (.ld1 a33), .o s35 (.imin a32 a34), V s3 a35]) .skip)))))
 (R [.o s36 (.iadd a23 (ci 1)), V s23 a36])))))))))
 (R [.o s37 (.iadd a17 (ci 1)), V s17 a37])))))))
 (.seq (R [V s38 a0, .o s39 (.lenV a38), .o s40 (.mks 301 1 [.sl0] a39 a39), V s8 a40])
 (.seq (.seq (R [V s41 a0, .o s42 (.lenV a41), V s43 (ci 0)])
 (.block 4 (.loop (.seq (R [.o s44 (.ilt a43 a42)])
 (.seq (.cond a44 .skip (.exit 4))
 (.seq (.block 5 (.seq (R [V s45 a43, .o s46 (.iaddr 1 a41 a43), .o s47 (.ld1 a46), V s9 a45, V s10 a47])
 (.seq (R [V s48 a10, .o s49 (.lenV a48), V s50 (ci 0)])
 (.block 6 (.loop (.seq (R [.o s51 (.ilt a50 a49)])
 (.seq (.cond a51 .skip (.exit 6))
 (.seq (.block 7 (.seq (R [.o s52 (.iaddr 4 a48 a50), .o s53 (.ldn 4 a52), .o s12 (.alloc [(.b false), (.b false), .sl0, (.i .i64 0)] 165), .n (.st 4 a12 a53)])
 (.seq (R [.o s55 (.ldn 4 a12), V s56 a3, .o s57 (.neg a56), .o s58 (.call 442 [a55, a57]), .o s59 (.call 441 [a58]), V s54 a59, .o s60 (.extract 0 a54), .o s61 (.extract 1 a54), .o s13 (.alloc [(.b false), .sl0] 163), .n (.st 2 a13 a60), V s14 a61])
 (.draw 1 [.q 0 0 (V s62 a8), .q 1 0 (V s63 a9), .q 2 0 (V s64 a8), .q 3 0 (V s65 a9), .q 4 12 (.o s66 (.iaddr 1 a64 a65)), .r 5 28 (.o s67 (.ld1 a66)), .r 6 0 (.o s68 (.ldn 2 a13)), .s 7 64 (.o s69 (.call 443 [a68])), .a 8 192 0 (.o s70 (.bslice 163 1 2 [(.b false), .sl0] [(0, 2, a69)])), .s 9 508 (.o s71 (.append 2 163 a67 a70)), .q 10 1023 (.o s72 (.iaddr 1 a62 a63)), .s 11 2047 (.n (.st 1 a72 a71))]))))
 (R [.o s73 (.iadd a50 (ci 1)), V s50 a73])))))))))
 (R [.o s74 (.iadd a43 (ci 1)), V s43 a74])))))))
 (.seq (R [V s75 a8, V s2 a75])
 .ret)))))),
 [.tmp s2]⟩
def L293 : LFun := ⟨[s0, s1],
 (.seq (R [.o s2 (.box 42 a0), V s4 (.c .sl0)])
 (.seq (R [.o s11 (.faddr 0 a2), .o s12 (.ld1 a11), .o s13 (.mks 182 1 [.sl0] a12 a12), V s5 a13])
 (.seq (.seq (R [V s14 a5, .o s15 (.lenV a14), V s16 (ci 0)])
 (.block 0 (.loop (.seq (R [.o s17 (.ilt a16 a15)])
 (.seq (.cond a17 .skip (.exit 0))
 (.seq (.block 1 (.seq (R [V s18 a16, V s6 a18])
 (R [V s19 a5, V s20 a6, .o s21 (.faddr 1 a2), .o s22 (.ld1 a21), .o s23 (.mks 165 4 [(.b false), (.b false), .sl0, (.i .i64 0)] a22 a22), .o s24 (.iaddr 1 a19 a20), .n (.st 1 a24 a23)])))
 (R [.o s25 (.iadd a16 (ci 1)), V s16 a25])))))))
 (.seq (.seq (R [.o s26 (.faddr 1 a2), .o s27 (.ld1 a26), V s28 (ci 0)])
 (.block 2 (.loop (.seq (R [.o s29 (.ilt a28 a27)])
 (.seq (.cond a29 .skip (.exit 2))
 (.seq (.block 3 (.seq (R [V s30 a28, V s7 a30])
 (.seq (R [.o s31 (.faddr 2 a2), .o s32 (.ld1 a31), V s33 a7, .o s34 (.iaddr 1 a32 a33), .o s35 (.ld1 a34), V s8 a35])
 (.block 4 (.loop (.seq (.seq (R [V s36 a8, .o s37 (.faddr 2 a2), .o s38 (.ld1 a37), V s39 a7, .o s40 (.iadd a39 (ci 1)), .o s41 (.iaddr 1 a38 a40), .o s42 (.ld1 a41), .o s43 (.ilt a36 a42)])
 (.cond a43 .skip (.exit 4)))
 (.seq (.block 5 (.seq (R [.o s46 (.faddr 3 a2), .o s47 (.ld1 a46), V s48 a8, .o s49 (.iaddr 1 a47 a48), .o s50 (.ld1 a49), V s9 a50])
 (.seq (R [V s51 a9, V s52 a7, .o s53 (.ige a51 a52)])
 (.cond a53 (.draw 0 [.q 0 0 (V s54 a5), .q 1 0 (V s55 a9), .q 2 3 (.o s56 (.iaddr 1 a54 a55)), .r 3 7 (.o s57 (.ld1 a56)), .q 4 0 (V s58 a7), .q 5 0 (V s59 a5), .q 6 0 (V s60 a7), .q 7 96 (.o s61 (.iaddr 1 a59 a60)), .r 8 224 (.o s62 (.ld1 a61)), .q 9 0 (V s63 a9), .q 10 0 (.o s64 (.faddr 4 a2)), .r 11 1024 (.o s65 (.ld1 a64)), .q 12 0 (V s66 a8), .q 13 7168 (.o s67 (.iaddr 1 a65 a66)), .r 14 15360 (.o s68 (.ld1 a67)), .q 16 0 (.o s70 (.faddr 4 a2)), .r 17 65536 (.o s71 (.ld1 a70)), .q 18 0 (V s72 a8), .q 19 458752 (.o s73 (.iaddr 1 a71 a72)), .r 20 983040 (.o s74 (.ld1 a73)), .s 15 31744 (.o s69 (.call 256 [a68])), .s 21 2096128 (.o s75 (.call 256 [a74])), .q 22 4193791 (.o s76 (.iaddr 4 a57 a58)), .s 23 8388095 (.n (.st 4 a76 a69)), .q 24 16777215 (.o s77 (.iaddr 4 a62 a63)), .s 25 33554431 (.n (.st 4 a77 a75))]) .skip))))
 (R [V s44 a8, .o s45 (.iadd a44 (ci 1)), V s8 a45]))))))))
 (R [.o s78 (.iadd a28 (ci 1)), V s28 a78])))))))
 (.seq (.seq (R [V s79 a5, .o s80 (.lenV a79), V s81 (ci 0)])
 (.block 6 (.loop (.seq (R [.o s82 (.ilt a81 a80)])
 (.seq (.cond a82 .skip (.exit 6))
 (.seq (.block 7 (.seq (R [V s83 a81, V s10 a83])
 (.draw 0 [.q 0 0 (V s84 a5), .q 1 0 (V s85 a10), .q 2 3 (.o s86 (.iaddr 1 a84 a85)), .r 3 7 (.o s87 (.ld1 a86)), .q 4 0 (V s88 a10), .q 5 0 (V s89 a5), .q 6 0 (V s90 a10), .q 7 96 (.o s91 (.iaddr 1 a89 a90)), .r 8 224 (.o s92 (.ld1 a91)), .q 9 0 (V s93 a10), .q 10 992 (.o s94 (.iaddr 4 a92 a93)), .r 11 2016 (.o s95 (.ldn 4 a94)), .q 12 0 (V s96 a1), .s 13 4096 (.o s97 (.call 256 [a96])), .s 14 16352 (.o s98 (.call 427 [a95, a97])), .q 15 32767 (.o s99 (.iaddr 4 a87 a88)), .s 16 65535 (.n (.st 4 a99 a98))])))
 (R [.o s100 (.iadd a81 (ci 1)), V s81 a100])))))))
 (.seq (R [V s101 a5, V s4 a101])
 .ret)))))),
 [.tmp s4]⟩
def L298 : LFun := ⟨[s0],
 (.seq (R [.o s1 (.box 42 a0), V s2 (.c .sl0), V s3 (ci 0), V s4 (ci 0)])
 (.seq (R [.o s13 (.ldn 5 a1), .o s14 (.call 284 [a13]), V s4 a14])
 (.seq (.block 0 (.seq (R [V s16 a4, .o s17 (.eq true 0 a16 (ci 0)), V s15 a17])
 (.cond a15 .bad (.seq (R [.o s20 (.faddr 0 a1), .o s21 (.ld1 a20), .o s22 (.igt a21 (ci 16)), V s23 a22, .g s23 false s24 (.faddr 1 a1), .g s23 false s25 (.ld1 a24), .g s23 false s26 (.igt a25 (ci 16)), .o s27 (.pick a23 (.c (.b true)) a26), V s19 a27])
 (.cond a19 .bad .skip)))))
 (.seq (R [V s5 (.c (.b true))])
 (.seq (.seq (R [.o s28 (.faddr 4 a1), .o s29 (.ld1 a28), .o s30 (.lenV a29), V s31 (ci 0)])
 (.block 1 (.loop (.seq (R [.o s32 (.ilt a31 a30)])
 (.seq (.cond a32 .skip (.exit 1))
 (.seq (.block 2 (.seq (R [.o s33 (.iaddr 1 a29 a31), .o s34 (.ld1 a33), V s7 a34])
 (.seq (R [V s35 a7, .o s36 (.call 256 [a35]), .o s8 (.alloc [(.b false), (.b false), .sl0, (.i .i64 0)] 165), .n (.st 4 a8 a36)])
 (.seq (R [.o s37 (.ldn 4 a8), .o s38 (.call 385 [a37]), .o s39 (.eq true 0 a38 (ci 0)), V s40 a39, .g s40 true s41 (.mv a5), .g s40 true s42 (.mv a41), .g s42 false s43 (.faddr 3 a8), .g s42 false s44 (.ld1 a43), .g s42 false s45 (.mv a3), .g s42 false s46 (.ilt a44 a45), .g s40 true s47 (.pick a42 (.c (.b true)) a46), .o s48 (.pick a40 a47 (.c (.b false)))])
 (.cond a48 (.draw 0 [.q 0 0 (.o s49 (.faddr 3 a8)), .r 1 1 (.o s50 (.ld1 a49)), .q 2 0 (V s5 (.c (.b false))), .q 3 7 (V s3 a50)]) .skip)))))
 (R [.o s51 (.iadd a31 (ci 1)), V s31 a51])))))))
 (.seq (R [.o s52 (.faddr 0 a1), .o s53 (.ld1 a52), .o s54 (.mks 301 1 [.sl0] a53 a53), V s2 a54])
 (.seq (.seq (R [V s55 a2, .o s56 (.lenV a55), V s57 (ci 0)])
 (.block 3 (.loop (.seq (R [.o s58 (.ilt a57 a56)])
 (.seq (.cond a58 .skip (.exit 3))
 (.seq (.block 4 (.seq (R [V s59 a57, V s9 a59])
 (R [V s60 a2, V s61 a9, .o s62 (.faddr 1 a1), .o s63 (.ld1 a62), .o s64 (.mks 163 2 [(.b false), .sl0] a63 a63), .o s65 (.iaddr 1 a60 a61), .n (.st 1 a65 a64)])))
 (R [.o s66 (.iadd a57 (ci 1)), V s57 a66])))))))
 (.seq (.seq (R [.o s67 (.ldn 5 a1), .o s68 (.call 399 [a67]), .o s69 (.lenV a68), V s70 (ci 0)])
 (.block 5 (.loop (.seq (R [.o s71 (.ilt a70 a69)])
 (.seq (.cond a71 .skip (.exit 5))
 (.seq (.block 6 (.seq (R [.o s72 (.iaddr 3 a68 a70), .o s73 (.ldn 3 a72), .o s11 (.alloc [(.i .i64 0), (.i .i64 0), (.i .u64 0)] 115), .n (.st 3 a11 a73)])
 (.seq (R [.o s74 (.faddr 2 a11), .o s75 (.ld1 a74), .o s76 (.call 256 [a75]), .o s12 (.alloc [(.b false), (.b false), .sl0, (.i .i64 0)] 165), .n (.st 4 a12 a76)])
 (.seq (R [.o s77 (.ldn 4 a12), .o s78 (.call 385 [a77]), .o s79 (.eq true 0 a78 (ci 0))])
 (.cond a79 (.draw 0 [.q 0 0 (V s81 a2), .q 1 0 (.o s82 (.faddr 0 a11)), .r 2 2 (.o s83 (.ld1 a82)), .q 3 7 (.o s84 (.iaddr 1 a81 a83)), .r 4 15 (.o s85 (.ld1 a84)), .q 5 0 (.o s86 (.faddr 1 a11)), .r 6 32 (.o s87 (.ld1 a86)), .q 7 0 (.o s88 (.faddr 1 a12)), .r 8 128 (.o s89 (.ldn 2 a88)), .q 9 0 (.o s90 (.faddr 3 a12)), .r 10 512 (.o s91 (.ld1 a90)), .q 11 0 (V s92 a3), .q 12 3584 (.o s93 (.isub a91 a92)), .s 13 8064 (.o s94 (.call 447 [a89, a93])), .q 14 16256 (V s80 a94), .q 15 32640 (.o s95 (.extract 0 a80)), .q 16 32640 (.o s96 (.extract 1 a80)), .q 17 65535 (.o s97 (.iaddr 2 a85 a87)), .s 18 196607 (.n (.st 2 a97 a95))]) .skip)))))
 (R [.o s98 (.iadd a70 (ci 1)), V s70 a98])))))))
 (.seq (R [V s99 a2, V s100 a3, V s2 a99, V s3 a100, V s4 (ci 0)])
 .ret))))))))),
 [.tmp s2, .tmp s3, .tmp s4]⟩
def L299 : LFun := ⟨[s0, s1],
 (.seq (R [V s4 (.c .sl0)])
 (.seq (R [V s21 a0, V s22 a1, .o s23 (.call 448 [a21, a22]), V s5 a23])
 (.seq (R [V s6 (.c .sl0)])
 (.seq (R [V s7 (.c .sl0)])
 (.seq (.seq (R [V s24 a1, V s25 (ci 0)])
 (.block 0 (.loop (.seq (R [.o s26 (.ilt a25 a24)])
 (.seq (.cond a26 .skip (.exit 0))
 (.seq (.block 1 (.seq (R [V s27 a25, V s8 a27])
 (.seq (.seq (R [V s28 a5, V s29 a8, .o s30 (.iaddr 1 a28 a29), .o s31 (.ld1 a30), .o s32 (.not a31)])
 (.cond a32 (.seq (R [V s33 a6, V s34 a8, .o s35 (.bslice 3 1 1 [(.i .i64 0)] [(0, 1, a34)]), .o s36 (.append 1 3 a33 a35), V s6 a36])
 (.exit 1)) .skip))
 .bad)))
 (R [.o s100 (.iadd a25 (ci 1)), V s25 a100])))))))
 (.seq (R [V s101 a7, V s4 a101])
 .ret)))))),
 [.tmp s4]⟩
def L300 : LFun := ⟨[s0, s1],
 (.seq (R [V s4 (.c .sl0)])
 (.seq (R [V s5 (.c .sl0)])
 (.seq (.seq (R [V s7 a0, .o s8 (.ile a7 (ci 2))])
 (.cond a8 .bad .skip))
 (.seq (.seq (R [V s9 a0, .o s10 (.isub a9 (ci 1)), .o s11 (.imin a10 (ci 2147483647)), V s6 a11])
 (.block 0 (.loop (.seq (.seq (R [V s12 a6, .o s13 (.ige a12 (ci 2)), V s14 a13, .g s14 true s15 (.mv a5), .g s14 true s16 (.lenV a15), .g s14 true s17 (.mv a1), .g s14 true s18 (.imin a17 (ci 100)), .g s14 true s19 (.ilt a16 a18), .o s20 (.pick a14 a19 (.c (.b false)))])
 (.cond a20 .skip (.exit 0)))
 (.seq (.block 1 (.seq (R [V s23 a6, .o s24 (.call 450 [a23])])
 (.cond a24 (R [V s25 a5, V s26 a6, .o s27 (.bslice 3 1 1 [(.i .i64 0)] [(0, 1, a26)]), .o s28 (.append 1 3 a25 a27), V s5 a28]) .skip)))
 (R [V s21 a6, .o s22 (.isub a21 (ci 1)), V s6 a22]))))))
 (.seq (R [V s29 a5, V s4 a29])
 .ret))))),
 [.tmp s4]⟩
def L301 : LFun := ⟨[s0, s1],
 (.seq (R [V s4 (.c .sl0)])
 (.seq (R [V s12 a0, .o s13 (.lenV a12), .o s14 (.mks 39 1 [.sl0] a13 a13), V s5 a14])
 (.seq (.seq (R [V s15 a0, .o s16 (.lenV a15), V s17 (ci 0)])
 (.block 0 (.loop (.seq (R [.o s18 (.ilt a17 a16)])
 (.seq (.cond a18 .skip (.exit 0))
 (.seq (.block 1 (.seq (R [V s19 a17, .o s20 (.iaddr 1 a15 a17), .o s21 (.ld1 a20), V s6 a19, V s7 a21])
 (.seq (R [V s22 a7, .o s23 (.lenV a22), V s24 (ci 0)])
 (.block 2 (.loop (.seq (R [.o s25 (.ilt a24 a23)])
 (.seq (.cond a25 .skip (.exit 2))
 (.seq (.block 3 (.seq (R [.o s26 (.iaddr 2 a22 a24), .o s27 (.ldn 2 a26), .o s9 (.alloc [(.b false), .sl0] 163), .n (.st 2 a9 a27)])
 (.seq (R [.o s29 (.ldn 2 a9), V s30 a1, .o s31 (.call 451 [a29, a30]), V s28 a31, .o s32 (.extract 0 a28), .o s33 (.extract 1 a28), V s10 a32, V s11 a33])
 (R [V s34 a5, V s35 a6, V s36 a5, V s37 a6, .o s38 (.iaddr 1 a36 a37), .o s39 (.ld1 a38), V s40 a10, .o s41 (.bslice 3 1 1 [(.i .i64 0)] [(0, 1, a40)]), .o s42 (.append 1 3 a39 a41), .o s43 (.iaddr 1 a34 a35), .n (.st 1 a43 a42)]))))
 (R [.o s44 (.iadd a24 (ci 1)), V s24 a44])))))))))
 (R [.o s45 (.iadd a17 (ci 1)), V s17 a45])))))))
 (.seq (R [V s46 a5, V s4 a46])
 .ret)))),
 [.tmp s4]⟩
def L302 : LFun := ⟨[s0, s1],
 (.seq (R [V s4 (.c .sl0)])
 (.seq (R [V s5 (.c .sl0)])
 (.seq (R [V s6 (.c .sl0)])
 (.seq (.seq (R [V s12 a0, .o s13 (.lenV a12), V s14 (ci 0)])
 (.block 0 (.loop (.seq (R [.o s15 (.ilt a14 a13)])
 (.seq (.cond a15 .skip (.exit 0))
 (.seq (.block 1 (.seq (R [V s16 a14, .o s17 (.iaddr 1 a12 a14), .o s18 (.ld1 a17), V s7 a16, V s8 a18])
 (.seq (R [V s19 a6, .o s20 (.call 452 [a19]), V s21 a8, .o s22 (.bslice 39 1 1 [.sl0] [(0, 1, a21)]), .o s23 (.append 1 39 a20 a22), V s9 a23])
 (.seq (R [V s25 a9, V s26 a1, .o s27 (.call 453 [a25, a26]), V s24 a27, .o s28 (.extract 0 a24), .o s29 (.extract 1 a24), V s10 a28, V s11 a29])
 (.seq (R [V s30 a10, V s31 a9, .o s32 (.lenV a31), .o s33 (.eq false 0 a30 a32)])
 (.cond a33 (R [V s34 a5, V s35 a7, .o s36 (.bslice 3 1 1 [(.i .i64 0)] [(0, 1, a35)]), .o s37 (.append 1 3 a34 a36), V s38 a9, V s5 a37, V s6 a38]) .skip))))))
 (R [.o s39 (.iadd a14 (ci 1)), V s14 a39])))))))
 (.seq (R [V s40 a5, V s4 a40])
 .ret))))),
 [.tmp s4]⟩
def L303 : LFun := ⟨[s0, s1],
 (.seq (R [V s4 (.c .sl0)])
 (.seq (R [V s9 a1, .o s10 (.mks 39 1 [.sl0] a9 a9), V s5 a10])
 (.seq (.seq (R [V s11 a5, .o s12 (.lenV a11), V s13 (ci 0)])
 (.block 0 (.loop (.seq (R [.o s14 (.ilt a13 a12)])
 (.seq (.cond a14 .skip (.exit 0))
 (.seq (.block 1 (.seq (R [V s15 a13, V s6 a15])
 (.seq (R [V s16 a0, .o s17 (.lenV a16), V s18 (ci 0)])
 (.block 2 (.loop (.seq (R [.o s19 (.ilt a18 a17)])
 (.seq (.cond a19 .skip (.exit 2))
 (.seq (.block 3 (.seq (R [.o s20 (.iaddr 1 a16 a18), .o s21 (.ld1 a20), V s8 a21])
 (.draw 1 [.q 0 0 (V s22 a5), .q 1 0 (V s23 a6), .q 2 0 (V s24 a5), .q 3 0 (V s25 a6), .q 4 12 (.o s26 (.iaddr 1 a24 a25)), .r 5 28 (.o s27 (.ld1 a26)), .q 6 0 (V s28 a8), .q 7 0 (V s29 a6), .q 8 192 (.o s30 (.iaddr 1 a28 a29)), .r 9 448 (.o s31 (.ld1 a30)), .a 10 960 0 (.o s32 (.bslice 3 1 1 [(.i .i64 0)] [(0, 1, a31)])), .s 11 2044 (.o s33 (.append 1 3 a27 a32)), .q 12 4095 (.o s34 (.iaddr 1 a22 a23)), .s 13 8191 (.n (.st 1 a34 a33))])))
 (R [.o s35 (.iadd a18 (ci 1)), V s18 a35])))))))))
 (R [.o s36 (.iadd a13 (ci 1)), V s13 a36])))))))
 (.seq (R [V s37 a5, V s4 a37])
 .ret)))),
 [.tmp s4]⟩
def L307 : LFun := ⟨[s0],
 (.seq (R [V s2 (ci 0)])
 (.seq (R [V s3 a0, .o s4 (.imul a3 (ci 78913)), .o s5 (.ishr a4 (.c (.i .u64 18))), V s2 a5])
 .ret)),
 [.tmp s2]⟩
def L308 : LFun := ⟨[s0],
 (.seq (R [V s2 (ci 0)])
 (.seq (.seq (R [V s3 a0, .o s4 (.ige a3 (.c (.i .u64 4294967296)))])
 (.cond a4 .bad .skip))
 (.seq (.seq (R [V s7 a0, .o s8 (.ige a7 (.c (.i .u64 65536)))])
 (.cond a8 .bad .skip))
 (.seq (.seq (R [V s13 a0, .o s14 (.ige a13 (.c (.i .u64 256)))])
 (.cond a14 (.seq (R [V s15 a0, .o s16 (.ishr a15 (.c (.i .u64 8))), V s0 a16])
 (R [V s17 a2, .o s18 (.iadd a17 (ci 8)), V s2 a18])) .skip))
 (.seq (R [V s19 a2, V s20 a0, .o s21 (.convI .u8 a20), .o s22 (.idxS (.c (.s 256 1013866857139168856493015739252390649739422828853819106890363778118420553376247557433637691341895324351018602695588957474325319502760499485336098898398377509666851054660423406800006203933793007272033180812049178612605246075062580585469430410618860250057463399279570354286669047577758927328864388992123306212451509403152394148136105363817402562688186708175358218852349079190158732807302672745370040257219644697201681238697346923541678507645485296520536209706771857694240900605172937619415410180424934769249448772944216470541052485265558808433676546390051204254346932932316488017972311616136051587427851453983453479168)) a21), .o s23 (.convI .i64 a22), .o s24 (.iadd a19 a23), V s2 a24])
 .ret))))),
 [.tmp s2]⟩
def L309 : LFun := ⟨[s0],
 (.seq (R [V s2 (ci 0)])
 (.seq (.seq (R [V s3 a0])
 (.cond a3 (.seq (R [V s2 (ci 1)])
 .ret) .skip))
 .bad)),
 [.tmp s2]⟩
def L312 : LFun := ⟨[s0],
 (.seq (R [V s2 (.c (.b false))])
 (.seq (R [V s3 a0, .o s4 (.ige a3 (.c (.i .u8 48))), V s5 a4, .g s5 true s6 (.mv a0), .g s5 true s7 (.ile a6 (.c (.i .u8 57))), .o s8 (.pick a5 a7 (.c (.b false))), V s2 a8])
 .ret)),
 [.tmp s2]⟩
def L313 : LFun := ⟨[s0],
 (.seq (R [.o s1 (.box 163 a0), .o s2 (.alloc [(.b false), .sl0] 163)])
 (.seq (R [.o s3 (.faddr 0 a1), .o s4 (.ld1 a3), .o s5 (.faddr 1 a1), .o s6 (.ld1 a5), .o s7 (.call 319 [a4, a6]), .n (.st 2 a2 a7)])
 .ret)),
 [.cn s2 2]⟩
def L314 : LFun := ⟨[s0],
 (.seq (R [.o s1 (.box 163 a0), V s2 (ci 0)])
 (.seq (R [.o s4 (.faddr 1 a1), .o s5 (.ld1 a4), .o s6 (.call 325 [a5]), V s3 a6])
 (.seq (.seq (R [V s7 a3, .o s8 (.lenV a7), .o s9 (.eq false 0 a8 (ci 0))])
 (.cond a9 .bad .skip))
 (.seq (R [V s10 a3, .o s11 (.lenV a10), .o s12 (.isub a11 (ci 1)), .o s13 (.imul (ci 32) a12), V s14 a3, V s15 a3, .o s16 (.lenV a15), .o s17 (.isub a16 (ci 1)), .o s18 (.iaddr 1 a14 a17), .o s19 (.ld1 a18), .o s20 (.call 459 [a19]), .o s21 (.iadd a13 a20), V s2 a21])
 .ret)))),
 [.tmp s2]⟩
def L316 : LFun := ⟨[s0, s1, s2, s3, s4],
 (.seq (R [.o s6 (.box 163 a1), .o s10 (.alloc [(.b false), .sl0] 163)])
 (.seq (R [.o s16 (.ldn 2 a6), V s17 a2, .o s18 (.call 324 [a16, a17]), .o s11 (.alloc [(.b false), .sl0] 163), .n (.st 2 a11 a18)])
 (.seq (R [.o s19 (.ldn 2 a6), V s20 a2, .o s21 (.call 460 [a19, a20]), V s12 a21])
 (.seq (.seq (R [V s22 a12, .o s23 (.not a22), V s24 a23, .g s24 true s25 (.mv a3), .g s24 true s26 (.not a25), .o s27 (.pick a24 a26 (.c (.b false)))])
 (.cond a27 (.seq (R [.o s28 (.ldn 2 a11), .n (.st 2 a10 a28)])
 .ret) .skip))
 (.seq (R [V s13 (ci 18446744073709551615)])
 (.seq (.seq (R [V s29 a2, .o s30 (.igt a29 (ci 0))])
 (.cond a30 (.seq (R [.o s31 (.ldn 2 a6), V s32 a2, .o s33 (.isub a32 (ci 1)), .o s34 (.call 324 [a31, a33]), .o s14 (.alloc [(.b false), .sl0] 163), .n (.st 2 a14 a34)])
 (.seq (R [.o s35 (.ldn 2 a14), .o s36 (.call 212 [a35]), .o s37 (.eq false 0 a36 (ci 0)), V s38 a37, .g s38 true s39 (.ldn 2 a14), .g s38 true s40 (.call 175 [a39]), .g s38 true s41 (.eq true 0 a40 (ci 0)), .o s42 (.pick a38 a41 (.c (.b false)))])
 (.cond a42 (.seq (R [V s13 (ci 0)])
 (.seq (R [V s43 a3, V s44 a43, .g s44 false s45 (.ldn 2 a6), .g s44 false s46 (.mv a2), .g s44 false s47 (.isub a46 (ci 1)), .g s44 false s48 (.call 460 [a45, a47]), .o s49 (.pick a44 (.c (.b true)) a48)])
 (.cond a49 (R [V s13 (ci 1)]) .skip))) .skip))) .skip))
 (.seq (R [.o s50 (.ldn 2 a11), .o s51 (.call 175 [a50]), .o s52 (.eq true 0 a51 (ci 0)), V s53 a52, .g s53 true s54 (.ldn 2 a11), .g s53 true s55 (.call 212 [a54]), .g s53 true s56 (.eq false 0 a55 (ci 0)), .o s57 (.pick a53 a56 (.c (.b false))), V s15 a57])
 (.seq (.seq (R [V s58 a0, V s59 a13, V s60 a15, V s61 a4, .o s62 (.call 461 [a58, a59, a60, a61])])
 (.cond a62 (.draw 0 [.r 0 0 (.o s63 (.ldn 2 a11)), .s 1 0 (.o s64 (.call 213 [(ci 1)])), .s 2 3 (.o s65 (.call 194 [a63, a64])), .s 3 7 (.n (.st 2 a11 a65))]) .skip))
 (.seq (R [.o s66 (.ldn 2 a11), .n (.st 2 a10 a66)])
 .ret))))))))),
 [.cn s10 2]⟩
def L317 : LFun := ⟨[s0],
 (.seq (R [.o s1 (.box 163 a0), V s2 (ci 0), V s3 (.c (.b false))])
 (.seq (R [.o s6 (.ldn 2 a1), .o s7 (.call 313 [a6]), .n (.st 2 a1 a7)])
 (.seq (.seq (R [.o s8 (.faddr 1 a1), .o s9 (.ld1 a8), .o s10 (.lenV a9), .o s11 (.igt a10 (ci 2))])
 (.cond a11 .bad .skip))
 (.seq (R [V s4 (.c (.i .u64 0))])
 (.seq (.seq (R [V s5 (ci 0)])
 (.block 0 (.loop (.seq (.seq (R [V s12 a5, .o s13 (.faddr 1 a1), .o s14 (.ld1 a13), .o s15 (.lenV a14), .o s16 (.ilt a12 a15)])
 (.cond a16 .skip (.exit 0)))
 (.seq (.block 1 (R [V s19 a4, .o s20 (.faddr 1 a1), .o s21 (.ld1 a20), V s22 a5, .o s23 (.iaddr 1 a21 a22), .o s24 (.ld1 a23), .o s25 (.convI .u64 a24), V s26 a5, .o s27 (.imul (ci 32) a26), .o s28 (.ishl a25 a27), .o s29 (.ior a19 a28), V s4 a29]))
 (R [V s17 a5, .o s18 (.iadd a17 (ci 1)), V s5 a18]))))))
 (.seq (.seq (R [.o s30 (.faddr 0 a1), .o s31 (.ld1 a30)])
 (.cond a31 .bad .skip))
 (.seq (.seq (R [V s39 a4, .o s40 (.igt a39 (.c (.i .u64 9223372036854775807)))])
 (.cond a40 .bad .skip))
 (.seq (R [V s41 a4, .o s42 (.convI .i64 a41), V s2 a42, V s3 (.c (.b true))])
 .ret)))))))),
 [.tmp s2, .tmp s3]⟩
def L318 : LFun := ⟨[s0, s1],
 (.seq (R [V s4 (.c (.i .u64 0))])
 (.seq (.seq (R [V s5 a0])
 (.cond a5 .bad .skip))
 (.seq (R [V s8 a1, V s4 a8])
 .ret))),
 [.tmp s4]⟩
def L319 : LFun := ⟨[s0, s1],
 (.seq (R [.o s4 (.alloc [(.b false), .sl0] 163)])
 (.seq (R [V s5 a1, .o s6 (.call 325 [a5]), V s1 a6])
 (.seq (R [V s7 a0, V s8 a7, .g s8 true s9 (.mv a1), .g s8 true s10 (.lenV a9), .g s8 true s11 (.igt a10 (ci 0)), .o s12 (.pick a8 a11 (.c (.b false))), V s13 a1, .o s14 (.build [(.b false), .sl0] [(0, 1, a12), (1, 1, a13)]), .n (.st 2 a4 a14)])
 .ret))),
 [.cn s4 2]⟩
def L320 : LFun := ⟨[s0, s1],
 (.seq (R [.o s2 (.box 165 a0), .o s3 (.box 165 a1), .o s4 (.alloc [(.b false), .sl0] 163), .o s5 (.alloc [(.b false), .sl0] 163), V s6 (ci 0)])
 (.seq (.draw 2 [.q 0 0 (.o s9 (.faddr 1 a2)), .r 1 1 (.o s10 (.ldn 2 a9)), .q 2 0 (.o s11 (.faddr 1 a3)), .r 3 4 (.o s12 (.ldn 2 a11)), .a 4 0 0 (.o s7 (.alloc [(.b false), .sl0] 163)), .a 5 0 1 (.o s8 (.alloc [(.b false), .sl0] 163)), .s 6 51 (.n (.st 2 a7 a10)), .s 7 127 (.n (.st 2 a8 a12))])
 (.seq (.block 0 (.seq (R [.o s14 (.ldn 2 a7), .o s15 (.call 175 [a14]), .o s16 (.eq false 0 a15 (ci 0)), V s13 a16])
 (.cond a13 (.seq (.draw 0 [.r 0 0 (.o s17 (.ldn 2 a7)), .r 1 0 (.o s18 (.ldn 2 a8)), .q 2 0 (.o s19 (.faddr 3 a3)), .r 3 4 (.o s20 (.ld1 a19)), .s 4 1 (.n (.st 2 a4 a17)), .s 5 19 (.n (.st 2 a5 a18)), .q 6 63 (V s6 a20)])
 .ret) .bad)))
 .bad))),
 [.cn s4 2, .cn s5 2, .tmp s6]⟩
def L321 : LFun := ⟨[s0],
 (.seq (R [V s2 (ci 0)])
 (.seq (R [V s3 (ci 0)])
 (.seq (.seq (R [V s4 (ci 0)])
 (.block 0 (.loop (.seq (.seq (R [V s5 a4, V s6 a0, .o s7 (.lenV a6), .o s8 (.ilt a5 a7)])
 (.cond a8 .skip (.exit 0)))
 (.seq (.block 1 (.seq (R [V s11 a0, V s12 a4, .o s13 (.iaddr 1 a11 a12), .o s14 (.ld1 a13)])
 (.cond a14 (R [V s15 a3, .o s16 (.iadd a15 (ci 1)), V s3 a16]) .skip)))
 (R [V s9 a4, .o s10 (.iadd a9 (ci 1)), V s4 a10]))))))
 (.seq (R [V s17 a3, V s2 a17])
 .ret)))),
 [.tmp s2]⟩
def L322 : LFun := ⟨[s0, s1],
 (.seq (R [V s4 (.c (.b false))])
 (.seq (.seq (R [V s7 a0, .o s8 (.lenV a7), V s9 a1, .o s10 (.eq true 0 a8 a9)])
 (.cond a10 .bad .skip))
 (.seq (R [V s11 a1, .o s12 (.mks 4 1 [(.b false)] a11 a11), V s5 a12])
 (.seq (.seq (R [V s6 (ci 0)])
 (.block 0 (.loop (.seq (.seq (R [V s13 a6, V s14 a1, .o s15 (.ilt a13 a14)])
 (.cond a15 .skip (.exit 0)))
 (.seq (.block 1 (.seq (.seq (R [V s18 a0, V s19 a6, .o s20 (.iaddr 1 a18 a19), .o s21 (.ld1 a20), .o s22 (.ilt a21 (ci 0)), V s23 a22, .g s23 false s24 (.mv a0), .g s23 false s25 (.mv a6), .g s23 false s26 (.iaddr 1 a24 a25), .g s23 false s27 (.ld1 a26), .g s23 false s28 (.mv a1), .g s23 false s29 (.ige a27 a28), .o s30 (.pick a23 (.c (.b true)) a29), V s31 a30, .g s31 false s32 (.mv a5), .g s31 false s33 (.mv a0), .g s31 false s34 (.mv a6), .g s31 false s35 (.iaddr 1 a33 a34), .g s31 false s36 (.ld1 a35), .g s31 false s37 (.iaddr 1 a32 a36), .g s31 false s38 (.ld1 a37), .o s39 (.pick a31 (.c (.b true)) a38)])
 (.cond a39 .bad .skip))
 (R [V s40 a5, V s41 a0, V s42 a6, .o s43 (.iaddr 1 a41 a42), .o s44 (.ld1 a43), .o s45 (.iaddr 1 a40 a44), .n (.st 1 a45 (.c (.b true)))])))
 (R [V s16 a6, .o s17 (.iadd a16 (ci 1)), V s6 a17]))))))
 (.seq (R [V s4 (.c (.b true))])
 .ret))))),
 [.tmp s4]⟩
def L323 : LFun := ⟨[s0, s1],
 (.seq (R [.o s2 (.box 123 a0), .o s4 (.alloc [.sl0] 123), V s5 (ci 0)])
 (.seq (.seq (R [.o s11 (.ldn 1 a2), .o s12 (.call 90 [a11]), V s6 a12])
 (.seq (R [V s13 a6, .o s14 (.eq true 0 a13 (ci 0))])
 (.cond a14 .bad .skip)))
 (.seq (.seq (R [V s17 a1, .o s18 (.faddr 0 a2), .o s19 (.ld1 a18), .o s20 (.lenV a19), .o s21 (.call 462 [a17, a20]), .o s22 (.not a21)])
 (.cond a22 .bad .skip))
 (.seq (.seq (R [V s24 a1, .o s25 (.call 463 [a24])])
 (.cond a25 .bad .skip))
 (.seq (R [.o s27 (.ldn 1 a2), .o s28 (.call 182 [a27]), V s7 a28])
 (.seq (R [V s29 a1, .o s30 (.lenV a29), .o s31 (.call 88 [a30]), V s8 a31])
 (.seq (.seq (R [V s9 (ci 0)])
 (.block 0 (.loop (.seq (.seq (R [V s32 a9, V s33 a1, .o s34 (.lenV a33), .o s35 (.ilt a32 a34)])
 (.cond a35 .skip (.exit 0)))
 (.seq (.block 1 (.seq (R [V s10 (ci 0)])
 (.block 2 (.loop (.seq (.seq (R [V s38 a10, V s39 a1, .o s40 (.lenV a39), .o s41 (.ilt a38 a40)])
 (.cond a41 .skip (.exit 2)))
 (.seq (.block 3 (.draw 0 [.q 0 0 (V s44 a8), .q 1 0 (V s45 a9), .q 2 3 (.o s46 (.iaddr 1 a44 a45)), .r 3 7 (.o s47 (.ld1 a46)), .q 4 0 (V s48 a10), .q 5 0 (V s49 a7), .q 6 0 (V s50 a1), .q 7 0 (V s51 a9), .q 8 192 (.o s52 (.iaddr 1 a50 a51)), .r 9 448 (.o s53 (.ld1 a52)), .q 10 992 (.o s54 (.iaddr 1 a49 a53)), .r 11 2016 (.o s55 (.ld1 a54)), .q 12 0 (V s56 a1), .q 13 0 (V s57 a10), .q 14 12288 (.o s58 (.iaddr 1 a56 a57)), .r 15 28672 (.o s59 (.ld1 a58)), .q 16 65504 (.o s60 (.iaddr 1 a55 a59)), .r 17 131040 (.o s61 (.ld1 a60)), .q 18 262143 (.o s62 (.iaddr 1 a47 a48)), .s 19 524287 (.n (.st 1 a62 a61))]))
 (R [V s42 a10, .o s43 (.iadd a42 (ci 1)), V s10 a43])))))))
 (R [V s36 a9, .o s37 (.iadd a36 (ci 1)), V s9 a37]))))))
 (.seq (R [V s63 a8, .o s64 (.call 89 [a63]), .n (.st 1 a4 a64), V s5 (ci 0)])
 .ret)))))))),
 [.cn s4 1, .tmp s5]⟩
def L324 : LFun := ⟨[s0, s1],
 (.seq (R [.o s2 (.box 163 a0), .o s4 (.alloc [(.b false), .sl0] 163)])
 (.seq (.block 0 (.loop (.seq (.seq (R [V s5 a1, .o s6 (.igt a5 (ci 1048576))])
 (.cond a6 .skip (.exit 0)))
 .bad)))
 (.seq (R [.o s11 (.ldn 2 a2), V s12 a1, .o s13 (.neg a12), .o s14 (.call 195 [a11, a13]), .n (.st 2 a4 a14)])
 .ret))),
 [.cn s4 2]⟩
def L325 : LFun := ⟨[s0],
 (.seq (R [V s2 (.c .sl0)])
 (.seq (R [V s6 a0, .o s7 (.lenV a6), V s3 a7])
 (.seq (.block 0 (.loop (.seq (.seq (R [V s8 a3, .o s9 (.igt a8 (ci 0)), V s10 a9, .g s10 true s11 (.mv a0), .g s10 true s12 (.mv a3), .g s10 true s13 (.isub a12 (ci 1)), .g s10 true s14 (.iaddr 1 a11 a13), .g s10 true s15 (.ld1 a14), .g s10 true s16 (.eq false 0 a15 (.c (.i .u32 0))), .o s17 (.pick a10 a16 (.c (.b false)))])
 (.cond a17 .skip (.exit 0)))
 (.block 1 (R [V s18 a3, .o s19 (.isub a18 (ci 1)), V s3 a19])))))
 (.seq (R [V s4 (.c .sl0)])
 (.seq (.seq (R [V s5 (ci 0)])
 (.block 2 (.loop (.seq (.seq (R [V s20 a5, V s21 a3, .o s22 (.ilt a20 a21)])
 (.cond a22 .skip (.exit 2)))
 (.seq (.block 3 (R [V s25 a4, V s26 a0, V s27 a5, .o s28 (.iaddr 1 a26 a27), .o s29 (.ld1 a28), .o s30 (.bslice 227 1 1 [(.i .u32 0)] [(0, 1, a29)]), .o s31 (.append 1 227 a25 a30), V s4 a31]))
 (R [V s23 a5, .o s24 (.iadd a23 (ci 1)), V s5 a24]))))))
 (.seq (R [V s32 a4, V s2 a32])
 .ret)))))),
 [.tmp s2]⟩
def L326 : LFun := ⟨[s0, s1],
 (.seq (R [V s4 (.c .sl0)])
 (.seq (R [V s5 (.c .sl0)])
 (.seq (R [V s6 (.c (.i .u64 0))])
 (.seq (.seq (R [V s7 (ci 0)])
 (.block 0 (.loop (.seq (.seq (R [V s8 a7, V s9 a0, .o s10 (.lenV a9), V s11 a1, .o s12 (.lenV a11), .o s13 (.imax a10 a12), .o s14 (.ilt a8 a13)])
 (.cond a14 .skip (.exit 0)))
 (.seq (.block 1 (.seq (.seq (R [V s17 a7, V s18 a0, .o s19 (.lenV a18), .o s20 (.ilt a17 a19)])
 (.cond a20 (R [V s21 a6, V s22 a0, V s23 a7, .o s24 (.iaddr 1 a22 a23), .o s25 (.ld1 a24), .o s26 (.convI .u64 a25), .o s27 (.iadd a21 a26), V s6 a27]) .skip))
 (.seq (.seq (R [V s28 a7, V s29 a1, .o s30 (.lenV a29), .o s31 (.ilt a28 a30)])
 (.cond a31 (R [V s32 a6, V s33 a1, V s34 a7, .o s35 (.iaddr 1 a33 a34), .o s36 (.ld1 a35), .o s37 (.convI .u64 a36), .o s38 (.iadd a32 a37), V s6 a38]) .skip))
 (.seq (R [V s39 a5, V s40 a6, .o s41 (.convI .u32 a40), .o s42 (.bslice 227 1 1 [(.i .u32 0)] [(0, 1, a41)]), .o s43 (.append 1 227 a39 a42), V s5 a43])
 (R [V s44 a6, .o s45 (.ishr a44 (.c (.i .u64 32))), V s6 a45])))))
 (R [V s15 a7, .o s16 (.iadd a15 (ci 1)), V s7 a16]))))))
 (.seq (R [V s46 a5, V s47 a6, .o s48 (.convI .u32 a47), .o s49 (.bslice 227 1 1 [(.i .u32 0)] [(0, 1, a48)]), .o s50 (.append 1 227 a46 a49), V s4 a50])
 .ret))))),
 [.tmp s4]⟩
def L327 : LFun := ⟨[s0, s1],
 (.seq (R [V s4 (ci 0)])
 (.seq (.seq (R [V s6 a0, .o s7 (.lenV a6), V s8 a1, .o s9 (.lenV a8), .o s10 (.eq true 0 a7 a9)])
 (.cond a10 (.seq (.seq (R [V s11 a0, .o s12 (.lenV a11), V s13 a1, .o s14 (.lenV a13), .o s15 (.ilt a12 a14)])
 (.cond a15 (.seq (R [V s4 (ci 18446744073709551615)])
 .ret) .skip))
 (.seq (R [V s4 (ci 1)])
 .ret)) .skip))
 (.seq (.seq (R [V s16 a0, .o s17 (.lenV a16), .o s18 (.isub a17 (ci 1)), V s5 a18])
 (.block 0 (.loop (.seq (.seq (R [V s19 a5, .o s20 (.ige a19 (ci 0))])
 (.cond a20 .skip (.exit 0)))
 (.seq (.block 1 (.seq (.draw 0 [.q 0 0 (V s23 a0), .q 1 0 (V s24 a5), .q 2 3 (.o s25 (.iaddr 1 a23 a24)), .r 3 7 (.o s26 (.ld1 a25)), .q 4 0 (V s27 a1), .q 5 0 (V s28 a5), .q 6 48 (.o s29 (.iaddr 1 a27 a28)), .r 7 112 (.o s30 (.ld1 a29)), .q 8 255 (.o s31 (.eq true 0 a26 a30))])
 (.cond a31 (.seq (.seq (.draw 0 [.q 0 0 (V s32 a0), .q 1 0 (V s33 a5), .q 2 3 (.o s34 (.iaddr 1 a32 a33)), .r 3 7 (.o s35 (.ld1 a34)), .q 4 0 (V s36 a1), .q 5 0 (V s37 a5), .q 6 48 (.o s38 (.iaddr 1 a36 a37)), .r 7 112 (.o s39 (.ld1 a38)), .q 8 255 (.o s40 (.ilt a35 a39))])
 (.cond a40 (.seq (R [V s4 (ci 18446744073709551615)])
 .ret) .skip))
 (.seq (R [V s4 (ci 1)])
 .ret)) .skip)))
 (R [V s21 a5, .o s22 (.isub a21 (ci 1)), V s5 a22]))))))
 (.seq (R [V s4 (ci 0)])
 .ret)))),
 [.tmp s4]⟩
def L328 : LFun := ⟨[s0, s1],
 (.seq (R [V s4 (.c .sl0)])
 (.seq (R [V s5 (.c .sl0)])
 (.seq (R [V s6 (.c (.i .u64 0))])
 (.seq (.seq (R [V s7 (ci 0)])
 (.block 0 (.loop (.seq (.seq (R [V s9 a7, V s10 a0, .o s11 (.lenV a10), .o s12 (.ilt a9 a11)])
 (.cond a12 .skip (.exit 0)))
 (.seq (.block 1 (.seq (R [V s15 a0, V s16 a7, .o s17 (.iaddr 1 a15 a16), .o s18 (.ld1 a17), .o s19 (.convI .u64 a18), V s20 a6, .o s21 (.isub a19 a20), V s8 a21])
 (.seq (.seq (R [V s22 a7, V s23 a1, .o s24 (.lenV a23), .o s25 (.ilt a22 a24)])
 (.cond a25 (R [V s26 a8, V s27 a1, V s28 a7, .o s29 (.iaddr 1 a27 a28), .o s30 (.ld1 a29), .o s31 (.convI .u64 a30), .o s32 (.isub a26 a31), V s8 a32]) .skip))
 (.seq (R [V s33 a5, V s34 a8, .o s35 (.convI .u32 a34), .o s36 (.bslice 227 1 1 [(.i .u32 0)] [(0, 1, a35)]), .o s37 (.append 1 227 a33 a36), V s5 a37])
 (R [V s38 a8, .o s39 (.ishr a38 (.c (.i .u64 63))), V s6 a39])))))
 (R [V s13 a7, .o s14 (.iadd a13 (ci 1)), V s7 a14]))))))
 (.seq (R [V s40 a5, V s4 a40])
 .ret))))),
 [.tmp s4]⟩
def L329 : LFun := ⟨[s0, s1],
 (.seq (R [V s4 (.c .sl0)])
 (.seq (R [V s8 a1, .o s9 (.iquo a8 (ci 32)), .o s10 (.mks 227 1 [(.i .u32 0)] a9 a9), V s5 a10])
 (.seq (R [V s6 (.c (.i .u64 0))])
 (.seq (.seq (R [V s7 (ci 0)])
 (.block 0 (.loop (.seq (.seq (R [V s11 a7, V s12 a0, .o s13 (.lenV a12), .o s14 (.ilt a11 a13)])
 (.cond a14 .skip (.exit 0)))
 (.seq (.block 1 (.seq (R [V s17 a6, V s18 a0, V s19 a7, .o s20 (.iaddr 1 a18 a19), .o s21 (.ld1 a20), .o s22 (.convI .u64 a21), V s23 a1, .o s24 (.irem a23 (ci 32)), .o s25 (.ishl a22 a24), .o s26 (.ior a17 a25), V s6 a26])
 (.seq (R [V s27 a5, V s28 a6, .o s29 (.convI .u32 a28), .o s30 (.bslice 227 1 1 [(.i .u32 0)] [(0, 1, a29)]), .o s31 (.append 1 227 a27 a30), V s5 a31])
 (R [V s32 a6, .o s33 (.ishr a32 (.c (.i .u64 32))), V s6 a33]))))
 (R [V s15 a7, .o s16 (.iadd a15 (ci 1)), V s7 a16]))))))
 (.seq (R [V s34 a5, V s35 a6, .o s36 (.convI .u32 a35), .o s37 (.bslice 227 1 1 [(.i .u32 0)] [(0, 1, a36)]), .o s38 (.append 1 227 a34 a37), V s4 a38])
 .ret))))),
 [.tmp s4]⟩
def L330 : LFun := ⟨[s0, s1],
 (.seq (R [V s4 (.c .sl0), V s5 (.c (.b false))])
 (.seq (R [V s6 (.c (.b false))])
 (.seq (.seq (R [V s7 (ci 0)])
 (.block 0 (.loop (.seq (.seq (R [V s12 a7, V s13 a1, .o s14 (.iquo a13 (ci 32)), .o s15 (.ilt a12 a14), V s16 a15, .g s16 true s17 (.mv a7), .g s16 true s18 (.mv a0), .g s16 true s19 (.lenV a18), .g s16 true s20 (.ilt a17 a19), .o s21 (.pick a16 a20 (.c (.b false)))])
 (.cond a21 .skip (.exit 0)))
 (.seq (.block 1 (R [V s24 a6, V s25 a24, .g s25 false s26 (.mv a0), .g s25 false s27 (.mv a7), .g s25 false s28 (.iaddr 1 a26 a27), .g s25 false s29 (.ld1 a28), .g s25 false s30 (.eq true 0 a29 (.c (.i .u32 0))), .o s31 (.pick a25 (.c (.b true)) a30), V s6 a31]))
 (R [V s22 a7, .o s23 (.iadd a22 (ci 1)), V s7 a23]))))))
 (.seq (R [V s8 (.c .sl0)])
 (.seq (R [V s32 a1, .o s33 (.irem a32 (ci 32)), V s9 a33])
 (.seq (.seq (R [V s34 a1, .o s35 (.iquo a34 (ci 32)), V s10 a35])
 (.block 2 (.loop (.seq (.seq (R [V s36 a10, V s37 a0, .o s38 (.lenV a37), .o s39 (.ilt a36 a38)])
 (.cond a39 .skip (.exit 2)))
 (.seq (.block 3 (.seq (R [V s42 a0, V s43 a10, .o s44 (.iaddr 1 a42 a43), .o s45 (.ld1 a44), .o s46 (.convI .u64 a45), V s11 a46])
 (.seq (.seq (R [V s47 a10, .o s48 (.iadd a47 (ci 1)), V s49 a0, .o s50 (.lenV a49), .o s51 (.ilt a48 a50)])
 (.cond a51 (R [V s52 a11, V s53 a0, V s54 a10, .o s55 (.iadd a54 (ci 1)), .o s56 (.iaddr 1 a53 a55), .o s57 (.ld1 a56), .o s58 (.convI .u64 a57), .o s59 (.ishl a58 (.c (.i .u64 32))), .o s60 (.ior a52 a59), V s11 a60]) .skip))
 (.seq (.seq (.draw 0 [.q 0 0 (V s61 a10), .q 1 0 (V s62 a1), .q 2 2 (.o s63 (.iquo a62 (ci 32))), .q 3 7 (.o s64 (.eq false 0 a61 a63)), .q 4 15 (V s65 a64), .q 5 31 (.g s65 true s66 (.mv a0)), .q 6 31 (.g s65 true s67 (.mv a10)), .q 7 127 (.g s65 true s68 (.iaddr 1 a66 a67)), .r 8 255 (.g s65 true s69 (.ld1 a68)), .q 9 31 (.g s65 true s70 (.mv a9)), .q 10 543 (.g s65 true s71 (.ishl (.c (.i .u32 1)) a70)), .q 11 1567 (.g s65 true s72 (.isub a71 (.c (.i .u32 1)))), .q 12 4095 (.g s65 true s73 (.iand a69 a72)), .q 13 8191 (.g s65 true s74 (.eq true 0 a73 (.c (.i .u32 0)))), .q 14 16383 (.o s75 (.pick a65 a74 (.c (.b false))))])
 (.cond a75 (R [V s6 (.c (.b true))]) .skip))
 (R [V s76 a8, V s77 a11, V s78 a9, .o s79 (.ishr a77 a78), .o s80 (.convI .u32 a79), .o s81 (.bslice 227 1 1 [(.i .u32 0)] [(0, 1, a80)]), .o s82 (.append 1 227 a76 a81), V s8 a82])))))
 (R [V s40 a10, .o s41 (.iadd a40 (ci 1)), V s10 a41]))))))
 (.seq (R [V s83 a8, V s84 a6, V s4 a83, V s5 a84])
 .ret))))))),
 [.tmp s4, .tmp s5]⟩
def L331 : LFun := ⟨[s0, s1],
 (.seq (R [.o s2 (.box 163 a0), .o s3 (.box 163 a1), .o s4 (.alloc [(.b false), .sl0] 163)])
 (.seq (.draw 0 [.r 0 0 (.o s5 (.ldn 2 a2)), .r 1 0 (.o s6 (.ldn 2 a3)), .s 2 2 (.o s7 (.call 191 [a6])), .s 3 7 (.o s8 (.call 194 [a5, a7])), .s 4 15 (.n (.st 2 a4 a8))])
 .ret)),
 [.cn s4 2]⟩
def L332 : LFun := ⟨[s0, s1, s2],
 (.seq (R [.o s3 (.box 163 a0), .o s6 (.alloc [(.b false), .sl0] 163), V s7 (ci 0), V s8 (.c (.b false))])
 (.seq (R [V s11 a2, .o s12 (.imul (ci 2) a11), .o s13 (.iadd a12 (ci 6)), .o s14 (.ldn 2 a3), .o s15 (.call 314 [a14]), .o s16 (.isub a13 a15), .o s17 (.imax a16 (ci 0)), V s9 a17])
 (.seq (.seq (R [V s18 a1, V s19 a9, .o s20 (.isub a18 a19), .o s21 (.irem a20 (ci 2)), .o s22 (.eq true 0 a21 (ci 0))])
 (.cond a22 (R [V s23 a9, .o s24 (.iadd a23 (ci 1)), V s9 a24]) .skip))
 (.seq (R [.o s25 (.ldn 2 a3), V s26 a9, .o s27 (.call 195 [a25, a26]), .o s10 (.alloc [(.b false), .sl0] 163), .n (.st 2 a10 a27)])
 (.seq (R [.o s28 (.ldn 2 a10), .o s29 (.call 464 [a28]), .n (.st 2 a6 a29)])
 (.seq (.draw 0 [.r 0 0 (.o s30 (.ldn 2 a6)), .q 1 0 (V s31 a1), .q 2 0 (V s32 a9), .q 3 6 (.o s33 (.isub a31 a32)), .q 4 14 (.o s34 (.iquo a33 (ci 2))), .r 5 0 (.o s35 (.ldn 2 a6)), .r 6 0 (.o s36 (.ldn 2 a6)), .r 8 0 (.o s38 (.ldn 2 a10)), .s 7 96 (.o s37 (.call 217 [a35, a36])), .s 9 480 (.o s39 (.call 210 [a37, a38])), .q 10 992 (.o s40 (.eq true 0 a39 (ci 0))), .s 11 993 (.n (.st 2 a6 a30)), .q 12 3071 (V s7 a34), .q 13 8191 (V s8 a40)])
 .ret)))))),
 [.cn s6 2, .tmp s7, .tmp s8]⟩
def L335 : LFun := ⟨[s0, s1],
 (.seq (R [V s4 (.c .sl0), V s5 (.c .sl0)])
 (.seq (.seq (R [V s16 a0, V s17 a1, .o s18 (.call 327 [a16, a17]), .o s19 (.ilt a18 (ci 0))])
 (.cond a19 (.seq (R [V s20 a0, V s4 (.c .sl0), V s5 a20])
 .ret) .skip))
 (.seq (R [V s21 a1, .o s22 (.lenV a21), V s6 a22])
 (.seq (R [V s23 a1, V s24 a6, .o s25 (.isub a24 (ci 1)), .o s26 (.iaddr 1 a23 a25), .o s27 (.ld1 a26), .o s28 (.call 465 [a27]), V s7 a28])
 (.seq (.draw 0 [.q 0 0 (V s29 a0), .q 1 0 (V s30 a7), .q 3 0 (V s32 a1), .q 4 0 (V s33 a7), .q 6 0 (V s35 a6), .s 2 3 (.o s31 (.call 329 [a29, a30])), .s 5 31 (.o s34 (.call 329 [a32, a33])), .q 7 127 (.o s36 (.slV 1 a34 none (some a35) none)), .q 8 63 (V s8 a31), .q 9 511 (V s9 a36)])
 (.seq (.seq (R [V s37 a8, .o s38 (.lenV a37), V s39 a0, .o s40 (.lenV a39), .o s41 (.eq false 0 a38 a40)])
 (.cond a41 .bad .skip))
 (.seq (R [V s45 a0, .o s46 (.lenV a45), V s47 a6, .o s48 (.isub a46 a47), .o s49 (.iadd a48 (ci 1)), .o s50 (.mks 227 1 [(.i .u32 0)] a49 a49), V s10 a50])
 (.seq (.seq (R [V s51 a0, .o s52 (.lenV a51), V s53 a6, .o s54 (.isub a52 a53), V s11 a54])
 (.block 0 (.loop (.seq (.seq (R [V s55 a11, .o s56 (.ige a55 (ci 0))])
 (.cond a56 .skip (.exit 0)))
 (.seq (.block 1 (.seq (.draw 0 [.q 0 0 (V s59 a8), .q 1 0 (V s60 a11), .q 2 0 (V s61 a6), .q 3 6 (.o s62 (.iadd a60 a61)), .q 4 15 (.o s63 (.iaddr 1 a59 a62)), .r 5 31 (.o s64 (.ld1 a63)), .q 6 63 (.o s65 (.convI .u64 a64)), .q 7 127 (.o s66 (.ishl a65 (.c (.i .u64 32)))), .q 8 0 (V s67 a8), .q 9 0 (V s68 a11), .q 10 0 (V s69 a6), .q 11 1536 (.o s70 (.iadd a68 a69)), .q 12 3584 (.o s71 (.isub a70 (ci 1))), .q 13 7936 (.o s72 (.iaddr 1 a67 a71)), .r 14 16128 (.o s73 (.ld1 a72)), .q 15 32512 (.o s74 (.convI .u64 a73)), .q 16 65535 (.o s75 (.ior a66 a74)), .q 17 131071 (V s12 a75)])
 (.seq (R [V s76 a12, V s77 a9, V s78 a6, .o s79 (.isub a78 (ci 1)), .o s80 (.iaddr 1 a77 a79), .o s81 (.ld1 a80), .o s82 (.convI .u64 a81), .o s83 (.iquo a76 a82), .o s84 (.imin a83 (.c (.i .u64 4294967295))), V s13 a84])
 (.seq (.block 2 (.loop (.seq (.seq (R [V s85 a8, V s86 a9, V s87 a11, V s88 a13, .o s89 (.call 466 [a85, a86, a87, a88]), .o s90 (.not a89)])
 (.cond a90 .skip (.exit 2)))
 (.block 3 (R [V s91 a13, .o s92 (.isub a91 (.c (.i .u64 1))), V s13 a92])))))
 (R [V s93 a10, V s94 a11, V s95 a13, .o s96 (.convI .u32 a95), .o s97 (.iaddr 1 a93 a94), .n (.st 1 a97 a96)])))))
 (R [V s57 a11, .o s58 (.isub a57 (ci 1)), V s11 a58]))))))
 (.seq (R [V s99 a8, .o s100 (.call 325 [a99]), V s101 a7, .o s102 (.call 330 [a100, a101]), V s98 a102, .o s103 (.extract 0 a98), .o s104 (.extract 1 a98), V s14 a103, V s15 a104])
 (.seq (R [V s105 a10, .o s106 (.call 325 [a105]), V s107 a14, .o s108 (.call 325 [a107]), V s4 a106, V s5 a108])
 .ret)))))))))),
 [.tmp s4, .tmp s5]⟩
def L336 : LFun := ⟨[s0],
 (.seq (R [V s2 (ci 0)])
 (.seq (.seq (R [V s3 a0, .o s4 (.eq false 0 a3 (.c (.i .u32 0)))])
 (.cond a4 .bad .skip))
 (.seq (R [V s5 a0, V s6 a0, .o s7 (.neg a6), .o s8 (.iand a5 a7), .o s9 (.imul a8 (.c (.i .u32 125613361))), .o s10 (.ishr a9 (.c (.i .u64 27))), .o s11 (.iaddrA 32 1 (.c (.g 4 0)) a10), .o s12 (.ld1 a11), .o s13 (.convI .i64 a12), V s2 a13])
 .ret))),
 [.tmp s2]⟩
def L337 : LFun := ⟨[s0, s1],
 (.seq (R [V s4 (.c .sl0)])
 (.seq (R [V s9 a0, .o s10 (.lenV a9), V s11 a1, .o s12 (.lenV a11), .o s13 (.iadd a10 a12), .o s14 (.mks 227 1 [(.i .u32 0)] a13 a13), V s5 a14])
 (.seq (.seq (R [V s6 (ci 0)])
 (.block 0 (.loop (.seq (.seq (R [V s15 a6, V s16 a0, .o s17 (.lenV a16), .o s18 (.ilt a15 a17)])
 (.cond a18 .skip (.exit 0)))
 (.seq (.block 1 (.seq (R [V s7 (.c (.i .u64 0))])
 (.seq (.seq (R [V s8 (ci 0)])
 (.block 2 (.loop (.seq (.seq (R [V s21 a8, V s22 a1, .o s23 (.lenV a22), .o s24 (.ilt a21 a23)])
 (.cond a24 .skip (.exit 2)))
 (.seq (.block 3 (.seq (.draw 0 [.q 0 0 (V s27 a7), .q 1 0 (V s28 a0), .q 2 0 (V s29 a6), .q 3 6 (.o s30 (.iaddr 1 a28 a29)), .r 4 14 (.o s31 (.ld1 a30)), .q 5 30 (.o s32 (.convI .u64 a31)), .q 6 0 (V s33 a1), .q 7 0 (V s34 a8), .q 8 192 (.o s35 (.iaddr 1 a33 a34)), .r 9 448 (.o s36 (.ld1 a35)), .q 10 960 (.o s37 (.convI .u64 a36)), .q 11 2046 (.o s38 (.imul a32 a37)), .q 12 4095 (.o s39 (.iadd a27 a38)), .q 13 0 (V s40 a5), .q 14 0 (V s41 a6), .q 15 0 (V s42 a8), .q 16 49152 (.o s43 (.iadd a41 a42)), .q 17 122880 (.o s44 (.iaddr 1 a40 a43)), .r 18 253952 (.o s45 (.ld1 a44)), .q 19 516096 (.o s46 (.convI .u64 a45)), .q 20 1048575 (.o s47 (.iadd a39 a46)), .q 21 2097151 (V s7 a47)])
 (.seq (R [V s48 a5, V s49 a6, V s50 a8, .o s51 (.iadd a49 a50), V s52 a7, .o s53 (.convI .u32 a52), .o s54 (.iaddr 1 a48 a51), .n (.st 1 a54 a53)])
 (R [V s55 a7, .o s56 (.ishr a55 (.c (.i .u64 32))), V s7 a56]))))
 (R [V s25 a8, .o s26 (.iadd a25 (ci 1)), V s8 a26]))))))
 (R [V s57 a5, V s58 a6, V s59 a1, .o s60 (.lenV a59), .o s61 (.iadd a58 a60), V s62 a7, .o s63 (.convI .u32 a62), .o s64 (.iaddr 1 a57 a61), .n (.st 1 a64 a63)]))))
 (R [V s19 a6, .o s20 (.iadd a19 (ci 1)), V s6 a20]))))))
 (.seq (R [V s65 a5, V s4 a65])
 .ret)))),
 [.tmp s4]⟩
def L338 : LFun := ⟨[s0],
 (.seq (R [V s2 (ci 0)])
 (.seq (R [V s6 a0, .o s7 (.call 243 [a6]), V s8 a0, .o s9 (.call 339 [a8]), .o s10 (.call 340 [a7, a9]), V s5 a10, .o s11 (.extract 0 a5), .o s12 (.extract 1 a5), .o s4 (.alloc [(.b false), .sl0, (.b false), .sl0] 331), V s3 a11, .n (.st 4 a4 a12)])
 (.seq (R [V s13 a3, .o s14 (.lenV a13), V s2 a14])
 .ret))),
 [.tmp s2]⟩
def L339 : LFun := ⟨[s0],
 (.seq (R [V s2 (ci 0)])
 (.seq (.seq (R [V s3 a0, .o s4 (.lenV a3), .o s5 (.eq false 0 a4 (ci 0))])
 (.cond a5 .bad .skip))
 (.seq (R [V s6 a0, .o s7 (.iaddr 1 a6 (ci 0)), .o s8 (.ld1 a7), .o s9 (.lenV a8), V s2 a9])
 .ret))),
 [.tmp s2]⟩
def L340 : LFun := ⟨[s0, s1],
 (.seq (R [V s4 (.c .sl0), .o s5 (.alloc [(.b false), .sl0, (.b false), .sl0] 331)])
 (.seq (R [.o s14 (.call 213 [(ci 1)]), .o s15 (.call 213 [(ci 1)]), .o s16 (.build [(.b false), .sl0, (.b false), .sl0] [(0, 2, a14), (2, 2, a15)]), .o s6 (.alloc [(.b false), .sl0, (.b false), .sl0] 331), .n (.st 4 a6 a16)])
 (.seq (R [V s7 (.c .sl0)])
 (.seq (.seq (R [V s8 (ci 0)])
 (.block 0 (.loop (.seq (.seq (R [V s17 a8, V s18 a1, .o s19 (.ilt a17 a18)])
 (.cond a19 .skip (.exit 0)))
 (.seq (.block 1 (.seq (R [V s22 a7, .o s23 (.lenV a22), V s9 a23])
 (.seq (R [V s24 a9, V s10 a24])
 (.seq (.block 2 (.loop (.seq (.seq (R [V s25 a10, V s26 a0, .o s27 (.lenV a26), .o s28 (.ilt a25 a27), V s29 a28, .g s29 true s30 (.mv a0), .g s29 true s31 (.mv a10), .g s29 true s32 (.iaddr 1 a30 a31), .g s29 true s33 (.ld1 a32), .g s29 true s34 (.mv a8), .g s29 true s35 (.iaddr 4 a33 a34), .g s29 true s36 (.ldn 4 a35), .g s29 true s37 (.call 361 [a36]), .o s38 (.pick a29 a37 (.c (.b false)))])
 (.cond a38 .skip (.exit 2)))
 .bad)))
 (.seq (.seq (R [V s41 a10, V s42 a0, .o s43 (.lenV a42), .o s44 (.eq false 0 a41 a43)])
 (.cond a44 (.exit 1) .skip))
 (.seq (.seq (R [V s45 a10, V s46 a9, .o s47 (.eq true 0 a45 a46)])
 (.cond a47 .bad .skip))
 (.seq (.draw 0 [.q 0 0 (.o s66 (.faddr 0 a6)), .r 1 1 (.o s67 (.ldn 2 a66)), .q 2 0 (V s68 a0), .q 3 0 (V s69 a9), .q 4 12 (.o s70 (.iaddr 1 a68 a69)), .r 5 28 (.o s71 (.ld1 a70)), .q 6 0 (V s72 a8), .q 7 124 (.o s73 (.iaddr 4 a71 a72)), .q 8 252 (.o s74 (.faddr 0 a73)), .r 9 508 (.o s75 (.ldn 2 a74)), .q 11 0 (.o s77 (.faddr 2 a6)), .r 12 2048 (.o s78 (.ldn 2 a77)), .q 13 0 (V s79 a0), .q 14 0 (V s80 a9), .q 15 24576 (.o s81 (.iaddr 1 a79 a80)), .r 16 57344 (.o s82 (.ld1 a81)), .q 17 0 (V s83 a8), .q 18 253952 (.o s84 (.iaddr 4 a82 a83)), .q 19 516096 (.o s85 (.faddr 2 a84)), .r 20 1040384 (.o s86 (.ldn 2 a85)), .s 10 1023 (.o s76 (.call 217 [a67, a75])), .s 21 2097151 (.o s87 (.call 217 [a78, a86])), .s 22 4194303 (.o s88 (.call 341 [a76, a87])), .s 23 8388607 (.n (.st 4 a6 a88))])
 (.seq (.seq (R [V s89 a9, .o s90 (.iadd a89 (ci 1)), V s11 a90])
 (.block 4 (.loop (.seq (.seq (R [V s91 a11, V s92 a0, .o s93 (.lenV a92), .o s94 (.ilt a91 a93)])
 (.cond a94 .skip (.exit 4)))
 .bad))))
 (R [V s139 a7, V s140 a8, .o s141 (.bslice 3 1 1 [(.i .i64 0)] [(0, 1, a140)]), .o s142 (.append 1 3 a139 a141), V s7 a142])))))))))
 (R [V s20 a8, .o s21 (.iadd a20 (ci 1)), V s8 a21]))))))
 (.seq (.draw 0 [.q 0 0 (V s143 a7), .r 1 0 (.o s144 (.ldn 4 a6)), .q 2 1 (V s4 a143), .s 3 7 (.n (.st 4 a5 a144))])
 .ret))))),
 [.tmp s4, .cn s5 4]⟩
def L341 : LFun := ⟨[s0, s1],
 (.seq (R [.o s2 (.box 163 a0), .o s3 (.box 163 a1), .o s4 (.alloc [(.b false), .sl0, (.b false), .sl0] 331)])
 (.seq (R [.o s10 (.ldn 2 a2), .o s11 (.ldn 2 a3), .o s12 (.call 343 [a10, a11]), .o s5 (.alloc [(.b false), .sl0] 163), .n (.st 2 a5 a12)])
 (.seq (.seq (R [.o s13 (.ldn 2 a3), .o s14 (.call 175 [a13]), .o s15 (.ilt a14 (ci 0))])
 (.cond a15 .bad .skip))
 (.seq (R [.o s19 (.ldn 2 a2), .o s20 (.ldn 2 a5), .o s21 (.call 342 [a19, a20]), V s18 a21, .o s22 (.extract 0 a18), .o s23 (.extract 1 a18), .o s6 (.alloc [(.b false), .sl0] 163), .n (.st 2 a6 a22), V s7 a23])
 (.seq (R [.o s25 (.ldn 2 a3), .o s26 (.ldn 2 a5), .o s27 (.call 342 [a25, a26]), V s24 a27, .o s28 (.extract 0 a24), .o s29 (.extract 1 a24), .o s8 (.alloc [(.b false), .sl0] 163), .n (.st 2 a8 a28), V s9 a29])
 (.seq (R [.o s30 (.ldn 2 a6), .o s31 (.ldn 2 a8), .o s32 (.build [(.b false), .sl0, (.b false), .sl0] [(0, 2, a30), (2, 2, a31)]), .n (.st 4 a4 a32)])
 .ret)))))),
 [.cn s4 4]⟩
def L342 : LFun := ⟨[s0, s1],
 (.seq (R [.o s2 (.box 163 a0), .o s3 (.box 163 a1), .o s4 (.alloc [(.b false), .sl0] 163), V s5 (.c (.b false))])
 (.seq (R [.o s9 (.ldn 2 a2), .o s10 (.ldn 2 a3), .o s11 (.call 211 [a9, a10]), V s8 a11, .o s12 (.extract 0 a8), .o s13 (.extract 1 a8), .o s6 (.alloc [(.b false), .sl0] 163), .o s7 (.alloc [(.b false), .sl0] 163), .n (.st 2 a6 a12), .n (.st 2 a7 a13)])
 (.seq (.seq (R [.o s14 (.ldn 2 a7), .o s15 (.call 175 [a14]), .o s16 (.eq true 0 a15 (ci 0))])
 (.cond a16 .bad .skip))
 (.seq (R [.o s18 (.ldn 2 a6), .n (.st 2 a4 a18), V s5 (.c (.b true))])
 .ret)))),
 [.cn s4 2, .tmp s5]⟩
def L343 : LFun := ⟨[s0, s1],
 (.seq (R [.o s2 (.box 163 a0), .o s3 (.box 163 a1), .o s4 (.alloc [(.b false), .sl0] 163)])
 (.seq (.draw 2 [.r 0 0 (.o s9 (.ldn 2 a2)), .r 2 0 (.o s11 (.ldn 2 a3)), .a 4 0 0 (.o s5 (.alloc [(.b false), .sl0] 163)), .a 5 0 1 (.o s6 (.alloc [(.b false), .sl0] 163)), .s 1 1 (.o s10 (.call 177 [a9])), .s 3 7 (.o s12 (.call 177 [a11])), .s 6 63 (.n (.st 2 a5 a10)), .s 7 127 (.n (.st 2 a6 a12))])
 (.seq (.block 0 (.loop (.seq (.seq (R [.o s13 (.ldn 2 a6), .o s14 (.call 175 [a13]), .o s15 (.eq true 0 a14 (ci 0))])
 (.cond a15 .skip (.exit 0)))
 (.block 1 (.seq (R [.o s17 (.ldn 2 a5), .o s18 (.ldn 2 a6), .o s19 (.call 211 [a17, a18]), V s16 a19, .o s20 (.extract 0 a16), .o s21 (.extract 1 a16), .o s7 (.alloc [(.b false), .sl0] 163), .o s8 (.alloc [(.b false), .sl0] 163), .n (.st 2 a7 a20), .n (.st 2 a8 a21)])
 (.draw 0 [.r 0 0 (.o s22 (.ldn 2 a6)), .r 1 0 (.o s23 (.ldn 2 a8)), .s 2 1 (.n (.st 2 a5 a22)), .s 3 7 (.n (.st 2 a6 a23))]))))))
 (.seq (R [.o s24 (.ldn 2 a5), .n (.st 2 a4 a24)])
 .ret)))),
 [.cn s4 2]⟩
def L344 : LFun := ⟨[s0, s1],
 (.seq (R [V s4 (.c .sl0), V s5 (.c .sl0), V s6 (ci 0)])
 (.seq (R [V s7 (.c .sl0)])
 (.seq (.seq (R [V s8 (ci 0)])
 (.block 0 (.loop (.seq (.seq (R [V s21 a8, V s22 a0, .o s23 (.lenV a22), .o s24 (.ilt a21 a23)])
 (.cond a24 .skip (.exit 0)))
 (.seq (.block 1 (.seq (R [V s9 (.c .sl0)])
 (.seq (.seq (R [V s10 (ci 0)])
 (.block 2 (.loop (.seq (.seq (R [V s27 a10, V s28 a0, V s29 a8, .o s30 (.iaddr 1 a28 a29), .o s31 (.ld1 a30), .o s32 (.lenV a31), .o s33 (.ilt a27 a32)])
 (.cond a33 .skip (.exit 2)))
 (.seq (.block 3 (R [V s36 a9, V s37 a0, V s38 a8, .o s39 (.iaddr 1 a37 a38), .o s40 (.ld1 a39), V s41 a10, .o s42 (.iaddr 1 a40 a41), .o s43 (.ld1 a42), V s44 a1, .o s45 (.call 467 [a43, a44]), .o s46 (.bslice 3 1 1 [(.i .i64 0)] [(0, 1, a45)]), .o s47 (.append 1 3 a36 a46), V s9 a47]))
 (R [V s34 a10, .o s35 (.iadd a34 (ci 1)), V s10 a35]))))))
 (R [V s48 a7, V s49 a9, .o s50 (.bslice 39 1 1 [.sl0] [(0, 1, a49)]), .o s51 (.append 1 39 a48 a50), V s7 a51]))))
 (R [V s25 a8, .o s26 (.iadd a25 (ci 1)), V s8 a26]))))))
 (.seq (R [V s52 a1, .o s53 (.irem (ci 1) a52), V s11 a53])
 (.seq (R [V s12 (.c .sl0)])
 (.seq (.seq (R [V s13 (ci 0)])
 (.block 4 (.loop (.seq (.seq (R [V s54 a13, V s55 a0, .o s56 (.call 468 [a55]), .o s57 (.ilt a54 a56)])
 (.cond a57 .skip (.exit 4)))
 (.seq (.block 5 (.seq (R [V s60 a12, .o s61 (.lenV a60), V s14 a61])
 (.seq (R [V s62 a14, V s15 a62])
 (.seq (.block 6 (.loop (.seq (.seq (R [V s63 a15, V s64 a7, .o s65 (.lenV a64), .o s66 (.ilt a63 a65), V s67 a66, .g s67 true s68 (.mv a7), .g s67 true s69 (.mv a15), .g s67 true s70 (.iaddr 1 a68 a69), .g s67 true s71 (.ld1 a70), .g s67 true s72 (.mv a13), .g s67 true s73 (.iaddr 1 a71 a72), .g s67 true s74 (.ld1 a73), .g s67 true s75 (.eq false 0 a74 (ci 0)), .o s76 (.pick a67 a75 (.c (.b false)))])
 (.cond a76 .skip (.exit 6)))
 .bad)))
 (.seq (.seq (R [V s79 a15, V s80 a7, .o s81 (.lenV a80), .o s82 (.eq false 0 a79 a81)])
 (.cond a82 .bad .skip))
 (.seq (.seq (R [V s83 a15, V s84 a14, .o s85 (.eq true 0 a83 a84)])
 (.cond a85 .bad .skip))
 (.seq (R [V s104 a11, V s105 a7, V s106 a14, .o s107 (.iaddr 1 a105 a106), .o s108 (.ld1 a107), V s109 a13, .o s110 (.iaddr 1 a108 a109), .o s111 (.ld1 a110), .o s112 (.imul a104 a111), V s113 a1, .o s114 (.irem a112 a113), V s11 a114])
 (.seq (R [V s115 a7, V s116 a14, .o s117 (.iaddr 1 a115 a116), .o s118 (.ld1 a117), V s119 a13, .o s120 (.iaddr 1 a118 a119), .o s121 (.ld1 a120), V s122 a1, .o s123 (.call 469 [a121, a122]), V s16 a123])
 (.seq (.seq (R [V s17 (ci 0)])
 (.block 8 (.loop (.seq (.seq (R [V s124 a17, V s125 a7, V s126 a14, .o s127 (.iaddr 1 a125 a126), .o s128 (.ld1 a127), .o s129 (.lenV a128), .o s130 (.ilt a124 a129)])
 (.cond a130 .skip (.exit 8)))
 (.seq (.block 9 (.draw 0 [.q 0 0 (V s133 a7), .q 1 0 (V s134 a14), .q 2 3 (.o s135 (.iaddr 1 a133 a134)), .r 3 7 (.o s136 (.ld1 a135)), .q 4 0 (V s137 a17), .q 5 0 (V s138 a7), .q 6 0 (V s139 a14), .q 7 96 (.o s140 (.iaddr 1 a138 a139)), .r 8 224 (.o s141 (.ld1 a140)), .q 9 0 (V s142 a17), .q 10 992 (.o s143 (.iaddr 1 a141 a142)), .r 11 2016 (.o s144 (.ld1 a143)), .q 12 0 (V s145 a16), .q 13 8160 (.o s146 (.imul a144 a145)), .q 14 0 (V s147 a1), .q 15 32736 (.o s148 (.irem a146 a147)), .q 16 65535 (.o s149 (.iaddr 1 a136 a137)), .s 17 131071 (.n (.st 1 a149 a148))]))
 (R [V s131 a17, .o s132 (.iadd a131 (ci 1)), V s17 a132]))))))
 (.seq (.seq (R [V s18 (ci 0)])
 (.block 10 (.loop (.seq (.seq (R [V s150 a18, V s151 a7, .o s152 (.lenV a151), .o s153 (.ilt a150 a152)])
 (.cond a153 .skip (.exit 10)))
 (.seq (.block 11 (.seq (R [V s156 a7, V s157 a18, .o s158 (.iaddr 1 a156 a157), .o s159 (.ld1 a158), V s160 a13, .o s161 (.iaddr 1 a159 a160), .o s162 (.ld1 a161), V s19 a162])
 (.seq (R [V s20 (ci 0)])
 (.block 12 (.loop (.seq (.seq (R [V s163 a20, V s164 a7, V s165 a18, .o s166 (.iaddr 1 a164 a165), .o s167 (.ld1 a166), .o s168 (.lenV a167), .o s169 (.ilt a163 a168), V s170 a169, .g s170 true s171 (.mv a18), .g s170 true s172 (.mv a14), .g s170 true s173 (.eq true 0 a171 a172), .o s174 (.pick a170 a173 (.c (.b false)))])
 (.cond a174 .skip (.exit 12)))
 .bad))))))
 (R [V s154 a18, .o s155 (.iadd a154 (ci 1)), V s18 a155]))))))
 (R [V s204 a12, V s205 a13, .o s206 (.bslice 3 1 1 [(.i .i64 0)] [(0, 1, a205)]), .o s207 (.append 1 3 a204 a206), V s12 a207])))))))))))
 (R [V s58 a13, .o s59 (.iadd a58 (ci 1)), V s13 a59]))))))
 (.seq (R [V s208 a7, V s209 a12, V s210 a11, V s4 a208, V s5 a209, V s6 a210])
 .ret))))))),
 [.tmp s4, .tmp s5, .tmp s6]⟩
def L361 : LFun := ⟨[s0],
 (.seq (R [.o s1 (.box 331 a0), V s2 (.c (.b false))])
 (.seq (R [.o s3 (.faddr 0 a1), .o s4 (.ldn 2 a3), .o s5 (.call 175 [a4]), .o s6 (.eq false 0 a5 (ci 0)), V s2 a6])
 .ret)),
 [.tmp s2]⟩
def L364 : LFun := ⟨[s0],
 (.seq (R [V s2 (ci 0), V s3 (.c .if0)])
 (.seq (R [V s11 a0, .o s12 (.lenS a11), V s4 a12])
 (.seq (.seq (R [V s13 (.c (.b false)), .g s13 true s14 (.mv a4), .g s13 true s15 (.ilt (ci 0) a14), .g s13 true s16 (.mv a15), .g s16 true s17 (.mv a4), .g s16 true s18 (.ilt a17 (ci 10)), .g s13 true s19 (.pick a16 a18 (.c (.b false))), .o s20 (.pick a13 a19 (.c (.b false))), V s21 a20, .g s21 false s22 (.mv (.c (.b true))), .g s22 true s23 (.mv a4), .g s22 true s24 (.ilt (ci 0) a23), .g s22 true s25 (.mv a24), .g s25 true s26 (.mv a4), .g s25 true s27 (.ilt a26 (ci 19)), .g s22 true s28 (.pick a25 a27 (.c (.b false))), .g s21 false s29 (.pick a22 a28 (.c (.b false))), .o s30 (.pick a21 (.c (.b true)) a29)])
 (.cond a30 (.seq (R [V s31 a0, V s5 a31])
 (.seq (.seq (R [V s32 a0, .o s33 (.idxS a32 (ci 0)), .o s34 (.eq false 0 a33 (.c (.i .u8 45))), V s35 a34, .g s35 false s36 (.mv a0), .g s35 false s37 (.idxS a36 (ci 0)), .g s35 false s38 (.eq false 0 a37 (.c (.i .u8 43))), .o s39 (.pick a35 (.c (.b true)) a38)])
 (.cond a39 .bad .skip))
 (.seq (R [V s6 (ci 0)])
 (.seq (.seq (R [V s46 a0, .o s47 (.sToB 5 a46), .o s48 (.lenV a47), V s49 (ci 0)])
 (.block 0 (.loop (.seq (R [.o s50 (.ilt a49 a48)])
 (.seq (.cond a50 .skip (.exit 0))
 (.seq (.block 1 (.seq (R [.o s51 (.iaddr 1 a47 a49), .o s52 (.ld1 a51), V s8 a52])
 (.seq (R [V s53 a8, .o s54 (.isub a53 (.c (.i .u8 48))), V s8 a54])
 (.seq (.seq (R [V s55 a8, .o s56 (.igt a55 (.c (.i .u8 9)))])
 (.cond a56 .bad .skip))
 (R [V s58 a6, .o s59 (.imul a58 (ci 10)), V s60 a8, .o s61 (.convI .i64 a60), .o s62 (.iadd a59 a61), V s6 a62])))))
 (R [.o s63 (.iadd a49 (ci 1)), V s49 a63])))))))
 (.seq (.seq (R [V s64 a5, .o s65 (.idxS a64 (ci 0)), .o s66 (.eq false 0 a65 (.c (.i .u8 45)))])
 (.cond a66 .bad .skip))
 (.seq (R [V s69 a6, V s2 a69, V s3 (.c .if0)])
 .ret)))))) .skip))
 .bad))),
 [.tmp s2, .tmp s3]⟩
def L366 : LFun := ⟨[s0],
 (.seq (R [.o s2 (.alloc [(.b false), (.s 0 0), (.i .i64 0)] 422), V s3 (ci 0)])
 (.seq (R [.o s4 (.alloc [(.b false), (.s 0 0), (.i .i64 0)] 422)])
 (.seq (R [V s13 a0, .o s14 (.call 478 [a13]), V s12 a14, .o s15 (.extract 0 a12), .o s16 (.extract 1 a12), .o s17 (.faddr 0 a4), .n (.st 1 a17 a15), V s0 a16])
 (.seq (R [V s19 a0, .o s20 (.call 479 [a19]), V s18 a20, .o s21 (.extract 0 a18), .o s22 (.extract 1 a18), V s5 a21, V s0 a22])
 (.seq (R [V s6 (.c (.s 0 0))])
 (.seq (.seq (R [V s23 a0, .o s24 (.call 480 [a23, (.c (.s 1 46))])])
 (.cond a24 .bad .skip))
 (.seq (R [V s31 a5, V s32 a6, .o s33 (.sadd a31 a32), .o s34 (.faddr 1 a4), .n (.st 1 a34 a33)])
 (.seq (.seq (R [.o s35 (.faddr 1 a4), .o s36 (.ld1 a35), .o s37 (.eq false 0 a36 (.c (.s 0 0)))])
 (.cond a37 .bad .skip))
 (.seq (.seq (R [V s39 a0, .o s40 (.eq true 0 a39 (.c (.s 0 0)))])
 (.cond a40 (.seq (.seq (R [V s41 a0, .o s42 (.slS a41 none (some (ci 1))), .o s43 (.call 481 [a42, (.c (.s 4 1147422053))]), .o s44 (.not a43)])
 (.cond a44 .bad .skip))
 (.seq (R [V s47 a0, .o s48 (.slS a47 (some (ci 1)) none), .o s49 (.call 478 [a48]), V s46 a49, .o s50 (.extract 0 a46), .o s51 (.extract 1 a46), V s7 a50, V s8 a51])
 (.seq (R [V s53 a8, .o s54 (.call 479 [a53]), V s52 a54, .o s55 (.extract 0 a52), .o s56 (.extract 1 a52), V s9 a55, V s8 a56])
 (.seq (.seq (R [V s57 a9, .o s58 (.eq false 0 a57 (.c (.s 0 0))), V s59 a58, .g s59 false s60 (.mv a8), .g s59 false s61 (.eq true 0 a60 (.c (.s 0 0))), .o s62 (.pick a59 (.c (.b true)) a61)])
 (.cond a62 .bad .skip))
 (.seq (R [V s65 a9, .o s66 (.call 482 [a65]), V s64 a66, .o s67 (.extract 0 a64), .o s68 (.extract 1 a64), V s10 a67, V s11 a68])
 (.seq (.seq (R [V s69 a11, .o s70 (.not a69)])
 (.cond a70 .bad .skip))
 (.seq (R [V s72 a10, .o s73 (.faddr 2 a4), .n (.st 1 a73 a72)])
 (.seq (R [V s74 a7])
 (.cond a74 .bad .skip))))))))) .skip))
 (.seq (R [.o s78 (.faddr 2 a4), .o s79 (.ld1 a78), V s80 a6, .o s81 (.lenS a80), .o s82 (.isub a79 a81), .o s83 (.faddr 2 a4), .n (.st 1 a83 a82)])
 (.seq (R [.o s84 (.ldn 3 a4), .n (.st 3 a2 a84), V s3 (ci 0)])
 .ret))))))))))),
 [.cn s2 3, .tmp s3]⟩
def L367 : LFun := ⟨[s0, s1],
 (.seq (R [V s4 (.c (.s 0 0))])
 (.seq (.seq (R [V s7 a0, .o s8 (.eq false 0 a7 (.c (.s 0 0))), V s9 a8, .g s9 false s10 (.mv a1), .g s9 false s11 (.eq false 0 a10 (.c (.s 0 0))), .o s12 (.pick a9 (.c (.b true)) a11)])
 (.cond a12 .bad .skip))
 (.seq (.seq (R [V s14 a1, .o s15 (.lenS a14), .o s16 (.eq false 0 a15 (ci 1)), V s17 a16, .g s17 true s18 (.mv a1), .g s17 true s19 (.idxS a18 (ci 0)), .g s17 true s20 (.ilt a19 (.c (.i .u8 128))), .o s21 (.pick a17 a20 (.c (.b false)))])
 (.cond a21 (.seq (R [V s22 a0, V s23 a1, .o s24 (.idxS a23 (ci 0)), .o s25 (.call 483 [a22, a24]), V s4 a25])
 .ret) .skip))
 (.seq (.seq (R [V s27 a1, .o s28 (.call 484 [a27]), V s26 a28, .o s29 (.extract 0 a26), .o s30 (.extract 1 a26), .o s5 (.alloc [(.b false), (.b false), (.b false), (.b false), (.b false), (.b false), (.b false), (.b false), (.b false), (.b false), (.b false), (.b false), (.b false), (.b false), (.b false), (.b false), (.b false), (.b false), (.b false), (.b false), (.b false), (.b false), (.b false), (.b false), (.b false), (.b false), (.b false), (.b false), (.b false), (.b false), (.b false), (.b false), (.b false), (.b false), (.b false), (.b false), (.b false), (.b false), (.b false), (.b false), (.b false), (.b false), (.b false), (.b false), (.b false), (.b false), (.b false), (.b false), (.b false), (.b false), (.b false), (.b false), (.b false), (.b false), (.b false), (.b false), (.b false), (.b false), (.b false), (.b false), (.b false), (.b false), (.b false), (.b false), (.b false), (.b false), (.b false), (.b false), (.b false), (.b false), (.b false), (.b false), (.b false), (.b false), (.b false), (.b false), (.b false), (.b false), (.b false), (.b false), (.b false), (.b false), (.b false), (.b false), (.b false), (.b false), (.b false), (.b false), (.b false), (.b false), (.b false), (.b false), (.b false), (.b false), (.b false), (.b false), (.b false), (.b false), (.b false), (.b false), (.b false), (.b false), (.b false), (.b false), (.b false), (.b false), (.b false), (.b false), (.b false), (.b false), (.b false), (.b false), (.b false), (.b false), (.b false), (.b false), (.b false), (.b false), (.b false), (.b false), (.b false), (.b false), (.b false), (.b false), (.b false), (.b false), (.b false), (.b false), (.b false), (.b false), (.b false), (.b false), (.b false), (.b false), (.b false), (.b false), (.b false), (.b false), (.b false), (.b false), (.b false), (.b false), (.b false), (.b false), (.b false), (.b false), (.b false), (.b false), (.b false), (.b false), (.b false), (.b false), (.b false), (.b false), (.b false), (.b false), (.b false), (.b false), (.b false), (.b false), (.b false), (.b false), (.b false), (.b false), (.b false), (.b false), (.b false), (.b false), (.b false), (.b false), (.b false), (.b false), (.b false), (.b false), (.b false), (.b false), (.b false), (.b false), (.b false), (.b false), (.b false), (.b false), (.b false), (.b false), (.b false), (.b false), (.b false), (.b false), (.b false), (.b false), (.b false), (.b false), (.b false), (.b false), (.b false), (.b false), (.b false), (.b false), (.b false), (.b false), (.b false), (.b false), (.b false), (.b false), (.b false), (.b false), (.b false), (.b false), (.b false), (.b false), (.b false), (.b false), (.b false), (.b false), (.b false), (.b false), (.b false), (.b false), (.b false), (.b false), (.b false), (.b false), (.b false), (.b false), (.b false), (.b false), (.b false), (.b false), (.b false), (.b false), (.b false), (.b false), (.b false), (.b false), (.b false), (.b false), (.b false), (.b false), (.b false), (.b false), (.b false), (.b false), (.b false), (.b false), (.b false), (.b false), (.b false), (.b false), (.b false), (.b false), (.b false), (.b false), (.b false), (.b false), (.b false), (.b false)] 508), .n (.st 256 a5 a29), V s6 a30])
 (.seq (R [V s31 a6])
 (.cond a31 (.seq (R [V s32 a0, .o s33 (.call 485 [a32, a5]), V s4 a33])
 .ret) .skip)))
 .bad)))),
 [.tmp s4]⟩
def L368 : LFun := ⟨[s0],
 (.seq (R [.o s2 (.alloc [(.b false), .sl0] 163), V s3 (ci 0)])
 (.seq (.seq (R [V s9 a0, .o s10 (.lenS a9), .o s11 (.igt a10 (ci 1024))])
 (.cond a11 .bad .skip))
 (.seq (R [V s13 a0, .o s14 (.call 480 [a13, (.c (.s 1 45))]), V s4 a14])
 (.seq (.seq (R [V s15 a4, V s16 a15, .g s16 false s17 (.mv a0), .g s16 false s18 (.call 480 [a17, (.c (.s 1 43))]), .o s19 (.pick a16 (.c (.b true)) a18)])
 (.cond a19 .bad .skip))
 (.seq (.seq (R [V s22 a0, .o s23 (.eq false 0 a22 (.c (.s 0 0))), V s24 a23, .g s24 false s25 (.mv a0), .g s24 false s26 (.call 487 [a25, (.c (.f 488 [] []))]), .o s27 (.pick a24 (.c (.b true)) a26)])
 (.cond a27 .bad .skip))
 (.seq (R [V s5 (.c .sl0)])
 (.seq (.block 0 (.loop (.seq (.seq (R [V s29 a0, .o s30 (.eq true 0 a29 (.c (.s 0 0)))])
 (.cond a30 .skip (.exit 0)))
 (.block 1 (.seq (R [V s31 a0, .o s32 (.lenS a31), .o s33 (.isub a32 (ci 1)), .o s34 (.irem a33 (ci 9)), .o s35 (.iadd a34 (ci 1)), V s6 a35])
 (.seq (R [V s37 a0, V s38 a6, .o s39 (.slS a37 none (some a38)), .o s40 (.call 251 [a39]), V s36 a40, .o s41 (.extract 0 a36), .o s42 (.extract 1 a36), V s7 a41, V s8 a42])
 (.seq (R [V s43 a5, .o s44 (.bslice 227 1 1 [(.i .u32 0)] [(0, 1, (.c (.i .u32 1000000000)))]), .o s45 (.call 490 [a43, a44]), V s46 a7, .o s47 (.convI .u32 a46), .o s48 (.bslice 227 1 1 [(.i .u32 0)] [(0, 1, a47)]), .o s49 (.call 491 [a48]), .o s50 (.call 489 [a45, a49]), V s5 a50])
 (R [V s51 a0, V s52 a6, .o s53 (.slS a51 (some a52) none), V s0 a53]))))))))
 (.seq (R [V s54 a4, V s55 a5, .o s56 (.call 492 [a54, a55]), .n (.st 2 a2 a56), V s3 (ci 0)])
 .ret)))))))),
 [.cn s2 2, .tmp s3]⟩
def L369 : LFun := ⟨[s0],
 (.seq (R [.o s1 (.box 163 a0), .o s2 (.alloc [(.b false), .sl0] 163)])
 (.seq (.draw 0 [.q 0 0 (.o s3 (.faddr 0 a1)), .r 1 1 (.o s4 (.ld1 a3)), .q 2 3 (.o s5 (.not a4)), .q 3 0 (.o s6 (.faddr 1 a1)), .r 4 8 (.o s7 (.ld1 a6)), .s 5 24 (.o s8 (.call 493 [a7])), .s 6 63 (.o s9 (.call 492 [a5, a8])), .s 7 127 (.n (.st 2 a2 a9))])
 .ret)),
 [.cn s2 2]⟩
def L370 : LFun := ⟨[s0],
 (.seq (R [.o s2 (.alloc [(.b false), (.b false), .sl0, (.i .i64 0)] 165)])
 (.seq (R [V s3 a0, .o s4 (.call 381 [a3]), .o s5 (.call 383 [a4, (ci 0)]), .n (.st 4 a2 a5)])
 .ret)),
 [.cn s2 4]⟩
def L371 : LFun := ⟨[s0, s1, s2],
 (.seq (R [.o s3 (.box 165 a0), .o s4 (.box 165 a1), V s6 (.c (.i .u64 0))])
 (.seq (.draw 0 [.r 0 0 (.o s7 (.ldn 4 a3)), .r 2 0 (.o s9 (.ldn 4 a4)), .s 1 1 (.o s8 (.call 384 [a7])), .s 3 7 (.o s10 (.call 384 [a9])), .s 4 15 (.n (.st 4 a3 a8)), .s 5 31 (.n (.st 4 a4 a10))])
 (.seq (.block 0 (.seq (R [.o s12 (.faddr 0 a3), .o s13 (.ld1 a12), V s14 a13, .g s14 false s15 (.faddr 0 a4), .g s14 false s16 (.ld1 a15), .o s17 (.pick a14 (.c (.b true)) a16), V s18 a17, .g s18 false s19 (.ldn 4 a4), .g s18 false s20 (.call 385 [a19]), .g s18 false s21 (.eq false 0 a20 (ci 0)), .o s22 (.pick a18 (.c (.b true)) a21), V s11 a22])
 (.cond a11 .bad (.seq (R [.o s24 (.ldn 4 a3), .o s25 (.call 385 [a24]), .o s26 (.eq false 0 a25 (ci 0)), V s23 a26])
 (.cond a23 .bad .skip)))))
 (.seq (R [.o s27 (.ldn 4 a3), .o s28 (.ldn 4 a4), .o s29 (.call 494 [a27, a28, (ci 56)]), V s30 a2, .o s31 (.call 386 [a29, a30]), V s6 a31])
 .ret)))),
 [.tmp s6]⟩
def L372 : LFun := ⟨[s0],
 (.seq (R [.o s1 (.box 163 a0), .o s2 (.alloc [(.b false), (.b false), .sl0, (.i .i64 0)] 165)])
 (.seq (R [.o s3 (.ldn 2 a1), .o s4 (.call 383 [a3, (ci 0)]), .n (.st 4 a2 a4)])
 .ret)),
 [.cn s2 4]⟩
def L373 : LFun := ⟨[s0, s1],
 (.seq (R [.o s2 (.box 163 a0), .o s3 (.box 163 a1), .o s4 (.alloc [(.b false), .sl0] 163)])
 (.seq (.draw 0 [.q 0 0 (.o s5 (.faddr 0 a2)), .r 1 1 (.o s6 (.ld1 a5)), .q 2 0 (.o s7 (.faddr 0 a3)), .r 3 4 (.o s8 (.ld1 a7)), .q 4 15 (.o s9 (.eq true 6 a6 a8)), .q 5 0 (.o s10 (.faddr 1 a2)), .r 6 32 (.o s11 (.ld1 a10)), .q 8 0 (.o s13 (.faddr 1 a3)), .r 9 256 (.o s14 (.ld1 a13)), .s 7 96 (.o s12 (.call 491 [a11])), .s 10 992 (.o s15 (.call 491 [a14])), .s 11 2016 (.o s16 (.call 490 [a12, a15])), .s 12 4095 (.o s17 (.call 492 [a9, a16])), .s 13 8191 (.n (.st 2 a4 a17))])
 .ret)),
 [.cn s4 2]⟩
def L374 : LFun := ⟨[s0],
 (.seq (R [.o s2 (.alloc [(.b false), .sl0] 163)])
 (.seq (R [.o s5 (.call 381 [(ci 1)]), .o s6 (.call 381 [(ci 10)]), .o s3 (.alloc [(.b false), .sl0] 163), .o s4 (.alloc [(.b false), .sl0] 163), .n (.st 2 a3 a5), .n (.st 2 a4 a6)])
 (.seq (.block 0 (.loop (.seq (.seq (R [V s7 a0, .o s8 (.igt a7 (ci 0))])
 (.cond a8 .skip (.exit 0)))
 (.seq (.block 1 (.seq (.seq (R [V s11 a0, .o s12 (.irem a11 (ci 2)), .o s13 (.eq false 0 a12 (ci 1))])
 (.cond a13 (R [.o s14 (.ldn 2 a3), .o s15 (.ldn 2 a4), .o s16 (.call 373 [a14, a15]), .n (.st 2 a3 a16)]) .skip))
 (R [.o s17 (.ldn 2 a4), .o s18 (.ldn 2 a4), .o s19 (.call 373 [a17, a18]), .n (.st 2 a4 a19)])))
 (R [V s9 a0, .o s10 (.iquo a9 (ci 2)), V s0 a10])))))
 (.seq (R [.o s20 (.ldn 2 a3), .n (.st 2 a2 a20)])
 .ret)))),
 [.cn s2 2]⟩
def L375 : LFun := ⟨[s0],
 (.seq (R [V s2 (ci 0), V s3 (.c (.i .u64 0))])
 (.seq (R [V s4 a0, .o s5 (.ishr a4 (.c (.i .u64 52))), .o s6 (.iand a5 (.c (.i .u64 2047))), .o s7 (.convI .i64 a6), V s8 a0, .o s9 (.iand a8 (.c (.i .u64 4503599627370495))), V s2 a7, V s3 a9])
 .ret)),
 [.tmp s2, .tmp s3]⟩
def L376 : LFun := ⟨[s0],
 (.seq (R [V s2 (.c .sl0)])
 (.seq (.seq (R [V s3 a0, .o s4 (.eq false 2 a3 (.c .sl0))])
 (.cond a4 .bad .skip))
 (.seq (R [.o s5 (.bslice 115 0 3 [] []), V s6 a0, .o s7 (.append 3 115 a5 a6), V s2 a7])
 .ret))),
 [.tmp s2]⟩
def L377 : LFun := ⟨[s0, s1],
 (R [V s4 a0, V s5 a0, .o s6 (.lenV a5), V s7 a1, .o s8 (.call 495 [a4, a6, a7])]),
 []⟩
def L380 : LFun := ⟨[s0, s1],
 (.seq (R [V s4 (ci 0)])
 (.seq (R [V s7 a0, .o s8 (.call 496 [a7]), V s5 a8])
 (.seq (R [V s9 a1, .o s10 (.call 496 [a9]), V s6 a10])
 (.seq (.seq (R [V s11 a5])
 (.cond a11 .bad .skip))
 (.seq (.seq (R [V s13 a6])
 (.cond a13 .bad .skip))
 (.seq (.seq (R [V s14 a0, V s15 a1, .o s16 (.ilt a14 a15)])
 (.cond a16 (.seq (R [V s4 (ci 18446744073709551615)])
 .ret) .skip))
 (.seq (.seq (R [V s17 a0, V s18 a1, .o s19 (.igt a17 a18)])
 (.cond a19 (.seq (R [V s4 (ci 1)])
 .ret) .skip))
 .bad))))))),
 [.tmp s4]⟩
def L381 : LFun := ⟨[s0],
 (.seq (R [.o s2 (.alloc [(.b false), .sl0] 163)])
 (.seq (R [V s4 a0, .o s5 (.convI .u64 a4), V s3 a5])
 (.seq (.seq (R [V s6 a0, .o s7 (.ilt a6 (ci 0))])
 (.cond a7 .bad .skip))
 (.seq (R [V s10 a0, .o s11 (.ilt a10 (ci 0)), V s12 a3, .o s13 (.iand a12 (.c (.i .u64 4294967295))), .o s14 (.convI .u32 a13), V s15 a3, .o s16 (.ishr a15 (.c (.i .u64 32))), .o s17 (.convI .u32 a16), .o s18 (.bslice 227 2 1 [(.i .u32 0), (.i .u32 0)] [(0, 1, a14), (1, 1, a17)]), .o s19 (.call 492 [a11, a18]), .n (.st 2 a2 a19)])
 .ret)))),
 [.cn s2 2]⟩
def L382 : LFun := ⟨[s0],
 (.seq (R [V s2 (.c (.b false))])
 (.seq (R [V s3 a0, .o s4 (.iand a3 (.c (.i .u64 9223372036854775808))), .o s5 (.eq true 0 a4 (.c (.i .u64 0))), V s2 a5])
 .ret)),
 [.tmp s2]⟩
def L383 : LFun := ⟨[s0, s1],
 (.seq (R [.o s2 (.box 163 a0), .o s4 (.alloc [(.b false), (.b false), .sl0, (.i .i64 0)] 165)])
 (.seq (R [.o s8 (.ldn 2 a2), V s9 a1, .o s10 (.build [(.b false), (.b false), .sl0, (.i .i64 0)] [(1, 2, a8), (3, 1, a9)]), .o s11 (.call 388 [a10]), V s7 a11, .o s12 (.extract 0 a7), .o s13 (.extract 1 a7), .o s5 (.alloc [(.b false), (.b false), .sl0, (.i .i64 0)] 165), .n (.st 4 a5 a12), V s6 a13])
 (.seq (R [.o s14 (.ldn 4 a5), .n (.st 4 a4 a14)])
 .ret))),
 [.cn s4 4]⟩
def L384 : LFun := ⟨[s0],
 (.seq (R [.o s1 (.box 165 a0), .o s2 (.alloc [(.b false), (.b false), .sl0, (.i .i64 0)] 165)])
 (.seq (R [.o s4 (.ldn 4 a1), .o s5 (.call 388 [a4]), V s3 a5, .o s6 (.extract 0 a3), .o s7 (.extract 1 a3), .n (.st 4 a1 a6)])
 (.seq (R [.o s8 (.ldn 4 a1), .n (.st 4 a2 a8)])
 .ret))),
 [.cn s2 4]⟩
def L385 : LFun := ⟨[s0],
 (.seq (R [.o s1 (.box 165 a0), V s2 (ci 0)])
 (.seq (R [.o s4 (.ldn 4 a1), .o s5 (.call 388 [a4]), V s3 a5, .o s6 (.extract 0 a3), .o s7 (.extract 1 a3), .n (.st 4 a1 a6)])
 (.seq (R [.o s8 (.faddr 1 a1), .o s9 (.ldn 2 a8), .o s10 (.call 440 [a9]), V s2 a10])
 .ret))),
 [.tmp s2]⟩
def L386 : LFun := ⟨[s0, s1],
 (.seq (R [.o s2 (.box 433 a0), V s4 (.c (.i .u64 0))])
 (.seq (R [.o s9 (.ldn 5 a2), .o s10 (.call 497 [a9]), .o s11 (.isub a10 (ci 52)), .o s12 (.imax a11 (ci 18446744073709550542)), V s5 a12])
 (.seq (R [.o s14 (.ldn 5 a2), V s15 a5, V s16 a1, .o s17 (.call 500 [a14, a15, a16]), .o s18 (.call 499 [a17]), .o s19 (.call 498 [a18]), V s13 a19, .o s20 (.extract 0 a13), .o s21 (.extract 1 a13), V s6 a20, V s7 a21])
 (.seq (R [V s22 a6, .o s23 (.convI .u64 a22), V s8 a23])
 (.seq (.seq (R [V s24 a8, .o s25 (.eq false 0 a24 (.c (.i .u64 9007199254740992)))])
 (.cond a25 .bad .skip))
 (.seq (.seq (R [V s28 a8, .o s29 (.ilt a28 (.c (.i .u64 4503599627370496)))])
 (.cond a29 .bad .skip))
 (.seq (.seq (R [V s34 a5, .o s35 (.iadd a34 (ci 1075)), .o s36 (.ige a35 (ci 2047))])
 (.cond a36 .bad .skip))
 (.seq (R [V s41 a5, .o s42 (.iadd a41 (ci 1075)), .o s43 (.convI .u64 a42), .o s44 (.ishl a43 (.c (.i .u64 52))), V s45 a8, .o s46 (.isub a45 (.c (.i .u64 4503599627370496))), .o s47 (.ior a44 a46), .o s48 (.faddr 0 a2), .o s49 (.ld1 a48), .o s50 (.call 501 [a47, a49]), V s4 a50])
 .ret)))))))),
 [.tmp s4]⟩
def L387 : LFun := ⟨[s0],
 (.seq (R [.o s1 (.box 165 a0), .o s2 (.alloc [(.b false), (.b false), .sl0, (.i .i64 0), (.b false)] 433)])
 (.seq (.draw 0 [.q 0 0 (.o s3 (.faddr 1 a1)), .q 1 1 (.o s4 (.faddr 0 a3)), .r 2 3 (.o s5 (.ld1 a4)), .q 3 0 (.o s6 (.faddr 1 a1)), .r 4 8 (.o s7 (.ldn 2 a6)), .q 6 0 (.o s9 (.faddr 3 a1)), .r 7 64 (.o s10 (.ld1 a9)), .s 5 24 (.o s8 (.call 499 [a7])), .q 8 255 (.o s11 (.build [(.b false), (.b false), .sl0, (.i .i64 0), (.b false)] [(0, 1, a5), (1, 2, a8), (3, 1, a10)])), .s 9 511 (.n (.st 5 a2 a11))])
 .ret)),
 [.cn s2 5]⟩
def L388 : LFun := ⟨[s0],
 (.seq (R [.o s1 (.box 165 a0), .o s2 (.alloc [(.b false), (.b false), .sl0, (.i .i64 0)] 165), V s3 (.c (.b false))])
 (.seq (.seq (R [.o s6 (.faddr 0 a1), .o s7 (.ld1 a6)])
 (.cond a7 .bad .skip))
 (.seq (R [.o s9 (.faddr 1 a1), .o s10 (.ldn 2 a9), .o s11 (.call 443 [a10]), .o s4 (.alloc [(.b false), .sl0] 163), .n (.st 2 a4 a11)])
 (.seq (.seq (R [.o s12 (.ldn 2 a4), .o s13 (.call 440 [a12]), .o s14 (.eq false 0 a13 (ci 0))])
 (.cond a14 .bad .skip))
 (.seq (R [.o s16 (.ldn 2 a4), .o s17 (.call 503 [a16]), V s5 a17])
 (.seq (.seq (.draw 0 [.q 0 0 (.o s18 (.faddr 3 a1)), .r 1 1 (.o s19 (.ld1 a18)), .r 2 0 (.o s20 (.ldn 2 a4)), .s 3 4 (.o s21 (.call 504 [a20])), .q 4 12 (.o s22 (.isub (ci 65536) a21)), .q 5 31 (.o s23 (.igt a19 a22)), .q 6 63 (V s24 a23), .q 7 127 (.g s24 false s25 (.faddr 3 a1)), .r 8 255 (.g s24 false s26 (.ld1 a25)), .q 9 127 (.g s24 false s27 (.mv a5)), .q 10 639 (.g s24 false s28 (.isub (ci 18446744073709486080) a27)), .q 11 2047 (.g s24 false s29 (.ilt a26 a28)), .q 12 4095 (.o s30 (.pick a24 (.c (.b true)) a29))])
 (.cond a30 .bad .skip))
 (.seq (.draw 0 [.r 0 0 (.o s32 (.ldn 2 a4)), .q 1 0 (V s33 a5), .q 3 0 (.o s35 (.faddr 3 a1)), .r 4 8 (.o s36 (.ld1 a35)), .q 5 0 (V s37 a5), .q 6 56 (.o s38 (.iadd a36 a37)), .s 2 3 (.o s34 (.call 505 [a32, a33])), .q 7 127 (.o s39 (.build [(.b false), (.b false), .sl0, (.i .i64 0)] [(1, 2, a34), (3, 1, a38)])), .s 8 255 (.n (.st 4 a2 a39)), .q 9 511 (V s3 (.c (.b true)))])
 .ret))))))),
 [.cn s2 4, .tmp s3]⟩
def L390 : LFun := ⟨[s0, s1],
 (.seq (R [.o s2 (.box 163 a0), .o s3 (.box 163 a1), .o s4 (.alloc [(.b false), .sl0] 163)])
 (.seq (.draw 0 [.q 0 0 (.o s7 (.faddr 1 a2)), .r 1 1 (.o s8 (.ld1 a7)), .q 3 0 (.o s10 (.faddr 1 a3)), .r 4 8 (.o s11 (.ld1 a10)), .s 2 3 (.o s9 (.call 491 [a8])), .s 5 31 (.o s12 (.call 491 [a11])), .q 6 63 (V s5 a9), .q 7 127 (V s6 a12)])
 (.seq (.block 0 (.seq (R [.o s14 (.faddr 0 a2), .o s15 (.ld1 a14), .o s16 (.faddr 0 a3), .o s17 (.ld1 a16), .o s18 (.eq false 6 a15 a17), V s13 a18])
 (.cond a13 (.seq (.draw 0 [.q 0 0 (.o s19 (.faddr 0 a2)), .r 1 1 (.o s20 (.ld1 a19)), .q 2 0 (V s21 a5), .q 3 0 (V s22 a6), .s 4 12 (.o s23 (.call 489 [a21, a22])), .s 5 31 (.o s24 (.call 492 [a20, a23])), .s 6 63 (.n (.st 2 a4 a24))])
 .ret) (.seq (R [V s26 a5, V s27 a6, .o s28 (.call 506 [a26, a27]), .o s29 (.ige a28 (ci 0)), V s25 a29])
 (.cond a25 (.seq (.draw 0 [.q 0 0 (.o s30 (.faddr 0 a2)), .r 1 1 (.o s31 (.ld1 a30)), .q 2 0 (V s32 a5), .q 3 0 (V s33 a6), .s 4 12 (.o s34 (.call 507 [a32, a33])), .s 5 31 (.o s35 (.call 492 [a31, a34])), .s 6 63 (.n (.st 2 a4 a35))])
 .ret) .skip)))))
 (.seq (.draw 0 [.q 0 0 (.o s36 (.faddr 0 a3)), .r 1 1 (.o s37 (.ld1 a36)), .q 2 0 (V s38 a6), .q 3 0 (V s39 a5), .s 4 12 (.o s40 (.call 507 [a38, a39])), .s 5 31 (.o s41 (.call 492 [a37, a40])), .s 6 63 (.n (.st 2 a4 a41))])
 .ret)))),
 [.cn s4 2]⟩
end AM
end
end Go.Proofs.YtejhenloolgmkaaGreatDoor
