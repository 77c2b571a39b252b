/- What a line does to the session's state, line by line: the kernel runs it. Condition: none. -/
import Derived.Test.YtejhenloolgmkaaGreatDoorSes
namespace Go.Proofs.YtejhenloolgmkaaGreatDoor
open Go
set_option linter.all false
noncomputable section
namespace AM
/-! ## Lines, checked -/
theorem Sr15_3 : lineOk 14 (.s 7 14475209821020530) (sesS 15 15 15 15) (.s 6 54015311110514) (sesV 15) [] = true := by decide +kernel
theorem St15_4 : lineOk 14 (.s 13 4129829778356299015931681793398) (sesS 15 15 15 15) (.s 11 60598374450804239028675958) (sesS 15 15 15 15) [] = true := by decide +kernel
theorem Sr15_4 : lineOk 14 (.s 7 14756684797731186) (sesS 15 15 15 15) (.s 6 54015311110514) (sesV 15) [] = true := by decide +kernel
theorem St15_5 : lineOk 14 (.s 13 4129829778374745760005391345014) (sesS 15 15 15 15) (.s 11 60598392897548312738227574) (sesS 15 15 15 15) [] = true := by decide +kernel
theorem Sr15_5 : lineOk 14 (.s 7 15038159774441842) (sesS 15 15 15 15) (.s 6 54015311110514) (sesV 15) [] = true := by decide +kernel
theorem St15_6 : lineOk 14 (.s 13 4129829778393192504079100896630) (sesS 15 15 15 15) (.s 11 60598411344292386447779190) (sesS 15 15 15 15) [] = true := by decide +kernel
theorem Sr15_6 : lineOk 14 (.s 7 15319634751152498) (sesS 15 15 15 15) (.s 6 54015311110514) (sesV 15) [] = true := by decide +kernel
theorem St15_7 : lineOk 14 (.s 13 4129829778411639248152810448246) (sesS 15 15 15 15) (.s 11 60598429791036460157330806) (sesS 15 15 15 15) [] = true := by decide +kernel
theorem Sr15_7 : lineOk 14 (.s 7 15601109727863154) (sesS 15 15 15 15) (.s 6 54015311110514) (sesV 15) [] = true := by decide +kernel
theorem St15_8 : lineOk 14 (.s 13 4129829778430085992226519999862) (sesS 15 15 15 15) (.s 11 60598448237780533866882422) (sesS 15 15 15 15) [] = true := by decide +kernel
theorem Sr15_8 : lineOk 14 (.s 7 15882584704573810) (sesS 15 15 15 15) (.s 6 54015311110514) (sesV 15) [] = true := by decide +kernel
theorem St15_9 : lineOk 14 (.s 13 4129829778448532736300229551478) (sesS 15 15 15 15) (.s 11 60598466684524607576434038) (sesS 15 15 15 15) [] = true := by decide +kernel
theorem Sr15_9 : lineOk 14 (.s 7 16164059681284466) (sesS 15 15 15 15) (.s 6 54015311110514) (sesV 15) [] = true := by decide +kernel
theorem St15_10 : lineOk 14 (.s 14 1057236423239056430681362515846518) (sesS 15 15 15 15) (.s 12 15513163703288488043317781878) (sesS 15 15 15 15) [] = true := by decide +kernel
theorem Sr15_10 : lineOk 14 (.s 8 3472676773688140146) (sesS 15 15 15 15) (.s 6 54015311110514) (sesV 15) [] = true := by decide +kernel
theorem St15_11 : lineOk 14 (.s 14 1057236423243778797164232161060214) (sesS 15 15 15 15) (.s 12 15513168425654970912962995574) (sesS 15 15 15 15) [] = true := by decide +kernel
theorem Sr15_11 : lineOk 14 (.s 8 3544734367726068082) (sesS 15 15 15 15) (.s 6 54015311110514) (sesV 15) [] = true := by decide +kernel
theorem St15_12 : lineOk 14 (.s 14 1057236423248501163647101806273910) (sesS 15 15 15 15) (.s 12 15513173148021453782608209270) (sesS 15 15 15 15) [] = true := by decide +kernel
theorem Sr15_12 : lineOk 14 (.s 8 3616791961763996018) (sesS 15 15 15 15) (.s 6 54015311110514) (sesV 15) [] = true := by decide +kernel
theorem St15_13 : lineOk 14 (.s 14 1057236423253223530129971451487606) (sesS 15 15 15 15) (.s 12 15513177870387936652253422966) (sesS 15 15 15 15) [] = true := by decide +kernel
theorem Sr15_13 : lineOk 14 (.s 8 3688849555801923954) (sesS 15 15 15 15) (.s 6 54015311110514) (sesV 15) [] = true := by decide +kernel
theorem St15_14 : lineOk 14 (.s 14 1057236423257945896612841096701302) (sesS 15 15 15 15) (.s 12 15513182592754419521898636662) (sesS 15 15 15 15) [] = true := by decide +kernel
theorem Sr15_14 : lineOk 14 (.s 8 3760907149839851890) (sesS 15 15 15 15) (.s 6 54015311110514) (sesV 15) [] = true := by decide +kernel
theorem St15_15 : lineOk 14 (.s 14 1057236423262668263095710741914998) (sesS 15 15 15 15) (.s 12 15513187315120902391543850358) (sesS 16 15 15 15) [] = true := by decide +kernel
theorem Sr15_15 : lineOk 14 (.s 8 3832964743877779826) (sesS 16 15 15 15) (.s 9 907652126876397367909) (sesV 16) [] = true := by decide +kernel
theorem St16_0 : lineOk 14 (.s 13 4129829778282512039636843586934) (sesS 16 16 16 16) (.s 11 60598300663827944190469494) (sesS 16 16 16 16) [] = true := by decide +kernel
theorem Sr16_0 : lineOk 14 (.s 7 13630784890888562) (sesS 16 16 16 16) (.s 6 54015311110514) (sesV 16) [] = true := by decide +kernel
theorem St16_1 : lineOk 14 (.s 13 4129829778300958783710553138550) (sesS 16 16 16 16) (.s 11 60598319110572017900021110) (sesS 16 16 16 16) [] = true := by decide +kernel
theorem Sr16_1 : lineOk 14 (.s 7 13912259867599218) (sesS 16 16 16 16) (.s 6 54015311110514) (sesV 16) [] = true := by decide +kernel
theorem St16_2 : lineOk 14 (.s 13 4129829778319405527784262690166) (sesS 16 16 16 16) (.s 11 60598337557316091609572726) (sesS 16 16 16 16) [] = true := by decide +kernel
theorem Sr16_2 : lineOk 14 (.s 7 14193734844309874) (sesS 16 16 16 16) (.s 6 54015311110514) (sesV 16) [] = true := by decide +kernel
theorem St16_3 : lineOk 14 (.s 13 4129829778337852271857972241782) (sesS 16 16 16 16) (.s 11 60598356004060165319124342) (sesS 16 16 16 16) [] = true := by decide +kernel
theorem Sr16_3 : lineOk 14 (.s 7 14475209821020530) (sesS 16 16 16 16) (.s 6 54015311110514) (sesV 16) [] = true := by decide +kernel
theorem St16_4 : lineOk 14 (.s 13 4129829778356299015931681793398) (sesS 16 16 16 16) (.s 11 60598374450804239028675958) (sesS 16 16 16 16) [] = true := by decide +kernel
theorem Sr16_4 : lineOk 14 (.s 7 14756684797731186) (sesS 16 16 16 16) (.s 6 54015311110514) (sesV 16) [] = true := by decide +kernel
theorem St16_5 : lineOk 14 (.s 13 4129829778374745760005391345014) (sesS 16 16 16 16) (.s 11 60598392897548312738227574) (sesS 16 16 16 16) [] = true := by decide +kernel
theorem Sr16_5 : lineOk 14 (.s 7 15038159774441842) (sesS 16 16 16 16) (.s 6 54015311110514) (sesV 16) [] = true := by decide +kernel
theorem St16_6 : lineOk 14 (.s 13 4129829778393192504079100896630) (sesS 16 16 16 16) (.s 11 60598411344292386447779190) (sesS 16 16 16 16) [] = true := by decide +kernel
theorem Sr16_6 : lineOk 14 (.s 7 15319634751152498) (sesS 16 16 16 16) (.s 6 54015311110514) (sesV 16) [] = true := by decide +kernel
theorem St16_7 : lineOk 14 (.s 13 4129829778411639248152810448246) (sesS 16 16 16 16) (.s 11 60598429791036460157330806) (sesS 16 16 16 16) [] = true := by decide +kernel
theorem Sr16_7 : lineOk 14 (.s 7 15601109727863154) (sesS 16 16 16 16) (.s 6 54015311110514) (sesV 16) [] = true := by decide +kernel
theorem St16_8 : lineOk 14 (.s 13 4129829778430085992226519999862) (sesS 16 16 16 16) (.s 11 60598448237780533866882422) (sesS 16 16 16 16) [] = true := by decide +kernel
theorem Sr16_8 : lineOk 14 (.s 7 15882584704573810) (sesS 16 16 16 16) (.s 6 54015311110514) (sesV 16) [] = true := by decide +kernel
theorem St16_9 : lineOk 14 (.s 13 4129829778448532736300229551478) (sesS 16 16 16 16) (.s 11 60598466684524607576434038) (sesS 16 16 16 16) [] = true := by decide +kernel
theorem Sr16_9 : lineOk 14 (.s 7 16164059681284466) (sesS 16 16 16 16) (.s 6 54015311110514) (sesV 16) [] = true := by decide +kernel
theorem St16_10 : lineOk 14 (.s 14 1057236423239056430681362515846518) (sesS 16 16 16 16) (.s 12 15513163703288488043317781878) (sesS 16 16 16 16) [] = true := by decide +kernel
theorem Sr16_10 : lineOk 14 (.s 8 3472676773688140146) (sesS 16 16 16 16) (.s 6 54015311110514) (sesV 16) [] = true := by decide +kernel
theorem St16_11 : lineOk 14 (.s 14 1057236423243778797164232161060214) (sesS 16 16 16 16) (.s 12 15513168425654970912962995574) (sesS 16 16 16 16) [] = true := by decide +kernel
theorem Sr16_11 : lineOk 14 (.s 8 3544734367726068082) (sesS 16 16 16 16) (.s 6 54015311110514) (sesV 16) [] = true := by decide +kernel
theorem St16_12 : lineOk 14 (.s 14 1057236423248501163647101806273910) (sesS 16 16 16 16) (.s 12 15513173148021453782608209270) (sesS 16 16 16 16) [] = true := by decide +kernel
theorem Sr16_12 : lineOk 14 (.s 8 3616791961763996018) (sesS 16 16 16 16) (.s 6 54015311110514) (sesV 16) [] = true := by decide +kernel
theorem St16_13 : lineOk 14 (.s 14 1057236423253223530129971451487606) (sesS 16 16 16 16) (.s 12 15513177870387936652253422966) (sesS 16 16 16 16) [] = true := by decide +kernel
theorem Sr16_13 : lineOk 14 (.s 8 3688849555801923954) (sesS 16 16 16 16) (.s 6 54015311110514) (sesV 16) [] = true := by decide +kernel
theorem St16_14 : lineOk 14 (.s 14 1057236423257945896612841096701302) (sesS 16 16 16 16) (.s 12 15513182592754419521898636662) (sesS 16 16 16 16) [] = true := by decide +kernel
theorem Sr16_14 : lineOk 14 (.s 8 3760907149839851890) (sesS 16 16 16 16) (.s 6 54015311110514) (sesV 16) [] = true := by decide +kernel
theorem St16_15 : lineOk 14 (.s 14 1057236423262668263095710741914998) (sesS 16 16 16 16) (.s 12 15513187315120902391543850358) (sesS 16 16 16 16) [] = true := by decide +kernel
theorem Sr16_15 : lineOk 14 (.s 8 3832964743877779826) (sesS 16 16 16 16) (.s 6 54015311110514) (sesV 16) [] = true := by decide +kernel
theorem St16_16 : lineOk 14 (.s 14 1057236423267390629578580387128694) (sesS 16 16 16 16) (.s 9 907652126876397367909) (sesS 16 16 16 16) [] = true := by decide +kernel
theorem Sr16_16 : lineOk 14 (.s 8 3905022337915707762) (sesS 16 16 16 16) (.s 9 907652126876397367909) (sesV 16) [] = true := by decide +kernel
theorem St16_17 : lineOk 14 (.s 14 1057236423272112996061450032342390) (sesS 16 16 16 16) (.s 9 907652126876397367909) (sesS 16 16 16 16) [] = true := by decide +kernel
theorem Sr16_17 : lineOk 14 (.s 8 3977079931953635698) (sesS 16 16 16 16) (.s 9 907652126876397367909) (sesV 16) [] = true := by decide +kernel
theorem St16_18 : lineOk 14 (.s 14 1057236423276835362544319677556086) (sesS 16 16 16 16) (.s 9 907652126876397367909) (sesS 16 16 16 16) [] = true := by decide +kernel
theorem Sr16_18 : lineOk 14 (.s 8 4049137525991563634) (sesS 16 16 16 16) (.s 9 907652126876397367909) (sesV 16) [] = true := by decide +kernel
theorem Sw58 : lineOk 14 (.s 10 231994837457684108895606) (sesV 15) (.s 10 231994837457684108895606) ([]) [] = true := by decide +kernel
theorem Sw59 : lineOk 14 (.s 10 231994837457684108895606) (sesV 16) (.s 9 907652126876397367909) ([]) [] = true := by decide +kernel
end AM
end
end Go.Proofs.YtejhenloolgmkaaGreatDoor
