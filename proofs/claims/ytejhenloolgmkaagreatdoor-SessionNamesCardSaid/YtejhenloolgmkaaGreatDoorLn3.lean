/- What a line does to the session's state, line by line: the kernel runs it. Condition: none. -/
import Derived.Test.YtejhenloolgmkaaGreatDoorSes
namespace Go.Proofs.YtejhenloolgmkaaGreatDoor
open Go
set_option linter.all false
noncomputable section
namespace AM
/-! ## Lines, checked -/
theorem Rr15_3 : lineOk 17 (.s 7 14475209821020530) (refS 15 15 15 15) (.tup [(.s 6 54015311110514), (.i .i64 0)]) (refV 15) [] = true := by decide +kernel
theorem Rt15_4 : lineOk 17 (.s 13 4129829778356299015931681793398) (refS 15 15 15 15) (.tup [(.s 11 60598374450804239028675958), (.i .i64 0)]) (refS 15 15 15 15) [] = true := by decide +kernel
theorem Rr15_4 : lineOk 17 (.s 7 14756684797731186) (refS 15 15 15 15) (.tup [(.s 6 54015311110514), (.i .i64 0)]) (refV 15) [] = true := by decide +kernel
theorem Rt15_5 : lineOk 17 (.s 13 4129829778374745760005391345014) (refS 15 15 15 15) (.tup [(.s 11 60598392897548312738227574), (.i .i64 0)]) (refS 15 15 15 15) [] = true := by decide +kernel
theorem Rr15_5 : lineOk 17 (.s 7 15038159774441842) (refS 15 15 15 15) (.tup [(.s 6 54015311110514), (.i .i64 0)]) (refV 15) [] = true := by decide +kernel
theorem Rt15_6 : lineOk 17 (.s 13 4129829778393192504079100896630) (refS 15 15 15 15) (.tup [(.s 11 60598411344292386447779190), (.i .i64 0)]) (refS 15 15 15 15) [] = true := by decide +kernel
theorem Rr15_6 : lineOk 17 (.s 7 15319634751152498) (refS 15 15 15 15) (.tup [(.s 6 54015311110514), (.i .i64 0)]) (refV 15) [] = true := by decide +kernel
theorem Rt15_7 : lineOk 17 (.s 13 4129829778411639248152810448246) (refS 15 15 15 15) (.tup [(.s 11 60598429791036460157330806), (.i .i64 0)]) (refS 15 15 15 15) [] = true := by decide +kernel
theorem Rr15_7 : lineOk 17 (.s 7 15601109727863154) (refS 15 15 15 15) (.tup [(.s 6 54015311110514), (.i .i64 0)]) (refV 15) [] = true := by decide +kernel
theorem Rt15_8 : lineOk 17 (.s 13 4129829778430085992226519999862) (refS 15 15 15 15) (.tup [(.s 11 60598448237780533866882422), (.i .i64 0)]) (refS 15 15 15 15) [] = true := by decide +kernel
theorem Rr15_8 : lineOk 17 (.s 7 15882584704573810) (refS 15 15 15 15) (.tup [(.s 6 54015311110514), (.i .i64 0)]) (refV 15) [] = true := by decide +kernel
theorem Rt15_9 : lineOk 17 (.s 13 4129829778448532736300229551478) (refS 15 15 15 15) (.tup [(.s 11 60598466684524607576434038), (.i .i64 0)]) (refS 15 15 15 15) [] = true := by decide +kernel
theorem Rr15_9 : lineOk 17 (.s 7 16164059681284466) (refS 15 15 15 15) (.tup [(.s 6 54015311110514), (.i .i64 0)]) (refV 15) [] = true := by decide +kernel
theorem Rt15_10 : lineOk 17 (.s 14 1057236423239056430681362515846518) (refS 15 15 15 15) (.tup [(.s 12 15513163703288488043317781878), (.i .i64 0)]) (refS 15 15 15 15) [] = true := by decide +kernel
theorem Rr15_10 : lineOk 17 (.s 8 3472676773688140146) (refS 15 15 15 15) (.tup [(.s 6 54015311110514), (.i .i64 0)]) (refV 15) [] = true := by decide +kernel
theorem Rt15_11 : lineOk 17 (.s 14 1057236423243778797164232161060214) (refS 15 15 15 15) (.tup [(.s 12 15513168425654970912962995574), (.i .i64 0)]) (refS 15 15 15 15) [] = true := by decide +kernel
theorem Rr15_11 : lineOk 17 (.s 8 3544734367726068082) (refS 15 15 15 15) (.tup [(.s 6 54015311110514), (.i .i64 0)]) (refV 15) [] = true := by decide +kernel
theorem Rt15_12 : lineOk 17 (.s 14 1057236423248501163647101806273910) (refS 15 15 15 15) (.tup [(.s 12 15513173148021453782608209270), (.i .i64 0)]) (refS 15 15 15 15) [] = true := by decide +kernel
theorem Rr15_12 : lineOk 17 (.s 8 3616791961763996018) (refS 15 15 15 15) (.tup [(.s 6 54015311110514), (.i .i64 0)]) (refV 15) [] = true := by decide +kernel
theorem Rt15_13 : lineOk 17 (.s 14 1057236423253223530129971451487606) (refS 15 15 15 15) (.tup [(.s 12 15513177870387936652253422966), (.i .i64 0)]) (refS 15 15 15 15) [] = true := by decide +kernel
theorem Rr15_13 : lineOk 17 (.s 8 3688849555801923954) (refS 15 15 15 15) (.tup [(.s 6 54015311110514), (.i .i64 0)]) (refV 15) [] = true := by decide +kernel
theorem Rt15_14 : lineOk 17 (.s 14 1057236423257945896612841096701302) (refS 15 15 15 15) (.tup [(.s 12 15513182592754419521898636662), (.i .i64 0)]) (refS 15 15 15 15) [] = true := by decide +kernel
theorem Rr15_14 : lineOk 17 (.s 8 3760907149839851890) (refS 15 15 15 15) (.tup [(.s 6 54015311110514), (.i .i64 0)]) (refV 15) [] = true := by decide +kernel
theorem Rt15_15 : lineOk 17 (.s 14 1057236423262668263095710741914998) (refS 15 15 15 15) (.tup [(.s 12 15513187315120902391543850358), (.i .i64 0)]) (refS 16 15 15 15) [4, 5] = true := by decide +kernel
theorem Rr15_15 : lineOk 17 (.s 8 3832964743877779826) (refS 16 15 15 15) (.tup [(.s 0 0), (.i .i64 441)]) (refV 16) [] = true := by decide +kernel
theorem Rt16_0 : lineOk 17 (.s 13 4129829778282512039636843586934) (refS 16 16 16 16) (.tup [(.s 11 60598300663827944190469494), (.i .i64 0)]) (refS 16 16 16 16) [] = true := by decide +kernel
theorem Rr16_0 : lineOk 17 (.s 7 13630784890888562) (refS 16 16 16 16) (.tup [(.s 6 54015311110514), (.i .i64 0)]) (refV 16) [] = true := by decide +kernel
theorem Rt16_1 : lineOk 17 (.s 13 4129829778300958783710553138550) (refS 16 16 16 16) (.tup [(.s 11 60598319110572017900021110), (.i .i64 0)]) (refS 16 16 16 16) [] = true := by decide +kernel
theorem Rr16_1 : lineOk 17 (.s 7 13912259867599218) (refS 16 16 16 16) (.tup [(.s 6 54015311110514), (.i .i64 0)]) (refV 16) [] = true := by decide +kernel
theorem Rt16_2 : lineOk 17 (.s 13 4129829778319405527784262690166) (refS 16 16 16 16) (.tup [(.s 11 60598337557316091609572726), (.i .i64 0)]) (refS 16 16 16 16) [] = true := by decide +kernel
theorem Rr16_2 : lineOk 17 (.s 7 14193734844309874) (refS 16 16 16 16) (.tup [(.s 6 54015311110514), (.i .i64 0)]) (refV 16) [] = true := by decide +kernel
theorem Rt16_3 : lineOk 17 (.s 13 4129829778337852271857972241782) (refS 16 16 16 16) (.tup [(.s 11 60598356004060165319124342), (.i .i64 0)]) (refS 16 16 16 16) [] = true := by decide +kernel
theorem Rr16_3 : lineOk 17 (.s 7 14475209821020530) (refS 16 16 16 16) (.tup [(.s 6 54015311110514), (.i .i64 0)]) (refV 16) [] = true := by decide +kernel
theorem Rt16_4 : lineOk 17 (.s 13 4129829778356299015931681793398) (refS 16 16 16 16) (.tup [(.s 11 60598374450804239028675958), (.i .i64 0)]) (refS 16 16 16 16) [] = true := by decide +kernel
theorem Rr16_4 : lineOk 17 (.s 7 14756684797731186) (refS 16 16 16 16) (.tup [(.s 6 54015311110514), (.i .i64 0)]) (refV 16) [] = true := by decide +kernel
theorem Rt16_5 : lineOk 17 (.s 13 4129829778374745760005391345014) (refS 16 16 16 16) (.tup [(.s 11 60598392897548312738227574), (.i .i64 0)]) (refS 16 16 16 16) [] = true := by decide +kernel
theorem Rr16_5 : lineOk 17 (.s 7 15038159774441842) (refS 16 16 16 16) (.tup [(.s 6 54015311110514), (.i .i64 0)]) (refV 16) [] = true := by decide +kernel
theorem Rt16_6 : lineOk 17 (.s 13 4129829778393192504079100896630) (refS 16 16 16 16) (.tup [(.s 11 60598411344292386447779190), (.i .i64 0)]) (refS 16 16 16 16) [] = true := by decide +kernel
theorem Rr16_6 : lineOk 17 (.s 7 15319634751152498) (refS 16 16 16 16) (.tup [(.s 6 54015311110514), (.i .i64 0)]) (refV 16) [] = true := by decide +kernel
theorem Rt16_7 : lineOk 17 (.s 13 4129829778411639248152810448246) (refS 16 16 16 16) (.tup [(.s 11 60598429791036460157330806), (.i .i64 0)]) (refS 16 16 16 16) [] = true := by decide +kernel
theorem Rr16_7 : lineOk 17 (.s 7 15601109727863154) (refS 16 16 16 16) (.tup [(.s 6 54015311110514), (.i .i64 0)]) (refV 16) [] = true := by decide +kernel
theorem Rt16_8 : lineOk 17 (.s 13 4129829778430085992226519999862) (refS 16 16 16 16) (.tup [(.s 11 60598448237780533866882422), (.i .i64 0)]) (refS 16 16 16 16) [] = true := by decide +kernel
theorem Rr16_8 : lineOk 17 (.s 7 15882584704573810) (refS 16 16 16 16) (.tup [(.s 6 54015311110514), (.i .i64 0)]) (refV 16) [] = true := by decide +kernel
theorem Rt16_9 : lineOk 17 (.s 13 4129829778448532736300229551478) (refS 16 16 16 16) (.tup [(.s 11 60598466684524607576434038), (.i .i64 0)]) (refS 16 16 16 16) [] = true := by decide +kernel
theorem Rr16_9 : lineOk 17 (.s 7 16164059681284466) (refS 16 16 16 16) (.tup [(.s 6 54015311110514), (.i .i64 0)]) (refV 16) [] = true := by decide +kernel
theorem Rt16_10 : lineOk 17 (.s 14 1057236423239056430681362515846518) (refS 16 16 16 16) (.tup [(.s 12 15513163703288488043317781878), (.i .i64 0)]) (refS 16 16 16 16) [] = true := by decide +kernel
theorem Rr16_10 : lineOk 17 (.s 8 3472676773688140146) (refS 16 16 16 16) (.tup [(.s 6 54015311110514), (.i .i64 0)]) (refV 16) [] = true := by decide +kernel
theorem Rt16_11 : lineOk 17 (.s 14 1057236423243778797164232161060214) (refS 16 16 16 16) (.tup [(.s 12 15513168425654970912962995574), (.i .i64 0)]) (refS 16 16 16 16) [] = true := by decide +kernel
theorem Rr16_11 : lineOk 17 (.s 8 3544734367726068082) (refS 16 16 16 16) (.tup [(.s 6 54015311110514), (.i .i64 0)]) (refV 16) [] = true := by decide +kernel
theorem Rt16_12 : lineOk 17 (.s 14 1057236423248501163647101806273910) (refS 16 16 16 16) (.tup [(.s 12 15513173148021453782608209270), (.i .i64 0)]) (refS 16 16 16 16) [] = true := by decide +kernel
theorem Rr16_12 : lineOk 17 (.s 8 3616791961763996018) (refS 16 16 16 16) (.tup [(.s 6 54015311110514), (.i .i64 0)]) (refV 16) [] = true := by decide +kernel
theorem Rt16_13 : lineOk 17 (.s 14 1057236423253223530129971451487606) (refS 16 16 16 16) (.tup [(.s 12 15513177870387936652253422966), (.i .i64 0)]) (refS 16 16 16 16) [] = true := by decide +kernel
theorem Rr16_13 : lineOk 17 (.s 8 3688849555801923954) (refS 16 16 16 16) (.tup [(.s 6 54015311110514), (.i .i64 0)]) (refV 16) [] = true := by decide +kernel
theorem Rt16_14 : lineOk 17 (.s 14 1057236423257945896612841096701302) (refS 16 16 16 16) (.tup [(.s 12 15513182592754419521898636662), (.i .i64 0)]) (refS 16 16 16 16) [] = true := by decide +kernel
theorem Rr16_14 : lineOk 17 (.s 8 3760907149839851890) (refS 16 16 16 16) (.tup [(.s 6 54015311110514), (.i .i64 0)]) (refV 16) [] = true := by decide +kernel
theorem Rt16_15 : lineOk 17 (.s 14 1057236423262668263095710741914998) (refS 16 16 16 16) (.tup [(.s 12 15513187315120902391543850358), (.i .i64 0)]) (refS 16 16 16 16) [] = true := by decide +kernel
theorem Rr16_15 : lineOk 17 (.s 8 3832964743877779826) (refS 16 16 16 16) (.tup [(.s 6 54015311110514), (.i .i64 0)]) (refV 16) [] = true := by decide +kernel
theorem Rt16_16 : lineOk 17 (.s 14 1057236423267390629578580387128694) (refS 16 16 16 16) (.tup [(.s 0 0), (.i .i64 441)]) (refS 16 16 16 16) [] = true := by decide +kernel
theorem Rr16_16 : lineOk 17 (.s 8 3905022337915707762) (refS 16 16 16 16) (.tup [(.s 0 0), (.i .i64 441)]) (refV 16) [] = true := by decide +kernel
theorem Rt16_17 : lineOk 17 (.s 14 1057236423272112996061450032342390) (refS 16 16 16 16) (.tup [(.s 0 0), (.i .i64 441)]) (refS 16 16 16 16) [] = true := by decide +kernel
theorem Rr16_17 : lineOk 17 (.s 8 3977079931953635698) (refS 16 16 16 16) (.tup [(.s 0 0), (.i .i64 441)]) (refV 16) [] = true := by decide +kernel
theorem Rt16_18 : lineOk 17 (.s 14 1057236423276835362544319677556086) (refS 16 16 16 16) (.tup [(.s 0 0), (.i .i64 441)]) (refS 16 16 16 16) [] = true := by decide +kernel
theorem Rr16_18 : lineOk 17 (.s 8 4049137525991563634) (refS 16 16 16 16) (.tup [(.s 0 0), (.i .i64 441)]) (refV 16) [] = true := by decide +kernel
theorem Rw58 : lineOk 17 (.s 10 231994837457684108895606) (refV 15) (.tup [(.s 10 231994837457684108895606), (.i .i64 0)]) ([]) [] = true := by decide +kernel
theorem Rw59 : lineOk 17 (.s 10 231994837457684108895606) (refV 16) (.tup [(.s 0 0), (.i .i64 441)]) ([]) [] = true := by decide +kernel
end AM
end
end Go.Proofs.YtejhenloolgmkaaGreatDoor
