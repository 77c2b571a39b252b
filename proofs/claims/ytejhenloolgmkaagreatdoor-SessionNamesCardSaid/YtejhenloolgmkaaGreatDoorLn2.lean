/- What a line does to the session's state, line by line: the kernel runs it. Condition: none. -/
import Derived.Test.YtejhenloolgmkaaGreatDoorSes
namespace Go.Proofs.YtejhenloolgmkaaGreatDoor
open Go
set_option linter.all false
noncomputable section
namespace AM
/-! ## Lines, checked -/
theorem Rm0 : lineOk 17 (.s 11 58180449024598685841057142) (refS 0 0 0 0) (.tup [(.s 11 59389374844213315015763318), (.i .i64 0)]) (refS 1 0 0 0) [4, 5] = true := by decide +kernel
theorem Rm1 : lineOk 17 (.s 19 1095540484216608110451357802101149371458675053) (refS 1 0 0 0) (.tup [(.s 11 59389374195701539941933421), (.i .i64 0)]) (refS 1 1 0 0) [2, 3, 10, 11, 12] = true := by decide +kernel
theorem Rm2 : lineOk 17 (.s 12 14987205394292732859680776550) (refS 1 1 0 0) (.tup [(.s 11 59389373691291810408915302), (.i .i64 0)]) (refS 1 1 1 1) [6, 7, 8] = true := by decide +kernel
theorem Rm3 : lineOk 17 (.s 11 59389393290957388725314934) (refS 1 1 1 1) (.tup [(.s 11 59389393290957388725314934), (.i .i64 0)]) (refS 2 1 1 1) [4, 5] = true := by decide +kernel
theorem Rm4 : lineOk 17 (.s 19 1117841229415138733592893538820541806674207085) (refS 2 1 1 1) (.tup [(.s 11 59389392642445613651485037), (.i .i64 0)]) (refS 2 2 1 1) [2, 3, 13, 14, 15] = true := by decide +kernel
theorem Rm5 : lineOk 17 (.s 12 15296690422560822002115109222) (refS 2 2 1 1) (.tup [(.s 11 59389392138035884118466918), (.i .i64 0)]) (refS 2 2 2 2) [6, 7, 8] = true := by decide +kernel
theorem Rm6 : lineOk 17 (.s 11 60598337557316091609572726) (refS 2 2 2 2) (.tup [(.s 11 59389411737701462434866550), (.i .i64 0)]) (refS 3 2 2 2) [4, 5] = true := by decide +kernel
theorem Rm7 : lineOk 17 (.s 19 1140141974613669356734429275539934241889739117) (refS 3 2 2 2) (.tup [(.s 11 59389411089189687361036653), (.i .i64 0)]) (refS 3 3 2 2) [2, 3, 16, 17, 18] = true := by decide +kernel
theorem Rm8 : lineOk 17 (.s 12 15606175450828911144549441894) (refS 3 3 2 2) (.tup [(.s 11 59389410584779957828018534), (.i .i64 0)]) (refS 3 3 3 3) [6, 7, 8] = true := by decide +kernel
theorem Rm9 : lineOk 17 (.s 11 61807281823674794493830518) (refS 3 3 3 3) (.tup [(.s 11 59389430184445536144418166), (.i .i64 0)]) (refS 4 3 3 3) [4, 5] = true := by decide +kernel
theorem Rm10 : lineOk 17 (.s 19 1162442719812199979875965012259326677105271149) (refS 4 3 3 3) (.tup [(.s 11 59389429535933761070588269), (.i .i64 0)]) (refS 4 4 3 3) [2, 3, 19, 20, 21] = true := by decide +kernel
theorem Rm11 : lineOk 17 (.s 12 15915660479097000286983774566) (refS 4 4 3 3) (.tup [(.s 11 59389429031524031537570150), (.i .i64 0)]) (refS 4 4 4 4) [6, 7, 8] = true := by decide +kernel
theorem Rm12 : lineOk 17 (.s 11 63016226090033497378088310) (refS 4 4 4 4) (.tup [(.s 11 59389448631189609853969782), (.i .i64 0)]) (refS 5 4 4 4) [4, 5] = true := by decide +kernel
theorem Rm13 : lineOk 17 (.s 19 1184743465010730603017500748978719112320803181) (refS 5 4 4 4) (.tup [(.s 11 59389447982677834780139885), (.i .i64 0)]) (refS 5 5 4 4) [2, 3, 22, 23, 24] = true := by decide +kernel
theorem Rm14 : lineOk 17 (.s 12 16225145507365089429418107238) (refS 5 5 4 4) (.tup [(.s 11 59389447478268105247121766), (.i .i64 0)]) (refS 5 5 5 5) [6, 7, 8] = true := by decide +kernel
theorem Rm15 : lineOk 17 (.s 11 64225170356392200262346102) (refS 5 5 5 5) (.tup [(.s 11 59389467077933683563521398), (.i .i64 0)]) (refS 6 5 5 5) [4, 5] = true := by decide +kernel
theorem Rm16 : lineOk 17 (.s 19 1207044210209261226159036485698111547536335213) (refS 6 5 5 5) (.tup [(.s 11 59389466429421908489691501), (.i .i64 0)]) (refS 6 6 5 5) [2, 3, 25, 26, 27] = true := by decide +kernel
theorem Rm17 : lineOk 17 (.s 12 16534630535633178571852439910) (refS 6 6 5 5) (.tup [(.s 11 59389465925012178956673382), (.i .i64 0)]) (refS 6 6 6 6) [6, 7, 8] = true := by decide +kernel
theorem Rm18 : lineOk 17 (.s 11 65434114622750903146603894) (refS 6 6 6 6) (.tup [(.s 11 59389485524677757273073014), (.i .i64 0)]) (refS 7 6 6 6) [4, 5] = true := by decide +kernel
theorem Rm19 : lineOk 17 (.s 19 1229344955407791849300572222417503982751867245) (refS 7 6 6 6) (.tup [(.s 11 59389484876165982199243117), (.i .i64 0)]) (refS 7 7 6 6) [2, 3, 28, 29, 30] = true := by decide +kernel
theorem Rm20 : lineOk 17 (.s 12 16844115563901267714286772582) (refS 7 7 6 6) (.tup [(.s 11 59389484371756252666224998), (.i .i64 0)]) (refS 7 7 7 7) [6, 7, 8] = true := by decide +kernel
theorem Rm21 : lineOk 17 (.s 11 66643058889109606030861686) (refS 7 7 7 7) (.tup [(.s 11 59389503971421830982624630), (.i .i64 0)]) (refS 8 7 7 7) [4, 5] = true := by decide +kernel
theorem Rm22 : lineOk 17 (.s 19 1251645700606322472442107959136896417967399277) (refS 8 7 7 7) (.tup [(.s 11 59389503322910055908794733), (.i .i64 0)]) (refS 8 8 7 7) [2, 3, 31, 32, 33] = true := by decide +kernel
theorem Rm23 : lineOk 17 (.s 12 17153600592169356856721105254) (refS 8 8 7 7) (.tup [(.s 11 59389502818500326375776614), (.i .i64 0)]) (refS 8 8 8 8) [6, 7, 8] = true := by decide +kernel
theorem Rm24 : lineOk 17 (.s 11 67852003155468308915119478) (refS 8 8 8 8) (.tup [(.s 11 59389522418165904692176246), (.i .i64 0)]) (refS 9 8 8 8) [4, 5] = true := by decide +kernel
theorem Rm25 : lineOk 17 (.s 19 1273946445804853095583643695856288853182931309) (refS 9 8 8 8) (.tup [(.s 11 59389521769654129618346349), (.i .i64 0)]) (refS 9 9 8 8) [2, 3, 34, 35, 36] = true := by decide +kernel
theorem Rm26 : lineOk 17 (.s 12 17463085620437445999155437926) (refS 9 9 8 8) (.tup [(.s 11 59389521265244400085328230), (.i .i64 0)]) (refS 9 9 9 9) [6, 7, 8] = true := by decide +kernel
theorem Rm27 : lineOk 17 (.s 11 69060947421827011799377270) (refS 9 9 9 9) (.tup [(.s 11 59389540864909978401727862), (.i .i64 0)]) (refS 10 9 9 9) [4, 5] = true := by decide +kernel
theorem Rm28 : lineOk 17 (.s 20 275127097483760905273642264102424912220331991405) (refS 10 9 9 9) (.tup [(.s 11 59389540216398203327897965), (.i .i64 0)]) (refS 10 10 9 9) [2, 3, 37, 38, 39] = true := by decide +kernel
theorem Rm29 : lineOk 17 (.s 12 17772570648705535141589770598) (refS 10 10 9 9) (.tup [(.s 11 59389539711988473794879846), (.i .i64 0)]) (refS 10 10 10 10) [6, 7, 8] = true := by decide +kernel
theorem Rm30 : lineOk 17 (.s 13 3818155479378155347464702616950) (refS 10 10 10 10) (.tup [(.s 12 15203678693467142974593000822), (.i .i64 0)]) (refS 11 10 10 10) [4, 5] = true := by decide +kernel
theorem Rm31 : lineOk 17 (.s 21 71894038593173694668256104399334481239208499634541) (refS 11 10 10 10) (.tup [(.s 12 15203678692818631199519170925), (.i .i64 0)]) (refS 11 11 10 10) [2, 3, 40, 41, 42] = true := by decide +kernel
theorem Rm32 : lineOk 17 (.s 14 977471613717760727817145188311398) (refS 11 11 10 10) (.tup [(.s 12 15203678692314221469986152806), (.i .i64 0)]) (refS 11 11 11 11) [6, 7, 8] = true := by decide +kernel
theorem Rm33 : lineOk 17 (.s 13 3897383646614786167927891780982) (refS 11 11 11 11) (.tup [(.s 12 15203683415833625844238214518), (.i .i64 0)]) (refS 12 11 11 11) [4, 5] = true := by decide +kernel
theorem Rm34 : lineOk 17 (.s 21 73355540230504597586459789236773130741734077391213) (refS 12 11 11 11) (.tup [(.s 12 15203683415185114069164384621), (.i .i64 0)]) (refS 12 12 11 11) [2, 3, 43, 44, 45] = true := by decide +kernel
theorem Rm35 : lineOk 17 (.s 14 997754023326134764723962084811110) (refS 12 12 11 11) (.tup [(.s 12 15203683414680704339631366502), (.i .i64 0)]) (refS 12 12 12 12) [6, 7, 8] = true := by decide +kernel
theorem Rm36 : lineOk 17 (.s 13 3976611813851416988391080945014) (refS 12 12 12 12) (.tup [(.s 12 15203688138200108713883428214), (.i .i64 0)]) (refS 13 12 12 12) [4, 5] = true := by decide +kernel
theorem Rm37 : lineOk 17 (.s 21 74817041867835500504663474074211780244259655147885) (refS 13 12 12 12) (.tup [(.s 12 15203688137551596938809598317), (.i .i64 0)]) (refS 13 13 12 12) [2, 3, 46, 47, 48] = true := by decide +kernel
theorem Rm38 : lineOk 17 (.s 14 1018036432934508801630778981310822) (refS 13 13 12 12) (.tup [(.s 12 15203688137047187209276580198), (.i .i64 0)]) (refS 13 13 13 13) [6, 7, 8] = true := by decide +kernel
theorem Rm39 : lineOk 17 (.s 13 4055839981088047808854270109046) (refS 13 13 13 13) (.tup [(.s 12 15203692860566591583528641910), (.i .i64 0)]) (refS 14 13 13 13) [4, 5] = true := by decide +kernel
theorem Rm40 : lineOk 17 (.s 21 76278543505166403422867158911650429746785232904557) (refS 14 13 13 13) (.tup [(.s 12 15203692859918079808454812013), (.i .i64 0)]) (refS 14 14 13 13) [2, 3, 49, 50, 51] = true := by decide +kernel
theorem Rm41 : lineOk 17 (.s 14 1038318842542882838537595877810534) (refS 14 14 13 13) (.tup [(.s 12 15203692859413670078921793894), (.i .i64 0)]) (refS 14 14 14 14) [6, 7, 8] = true := by decide +kernel
theorem Rm42 : lineOk 17 (.s 13 4135068148324678629317459273078) (refS 14 14 14 14) (.tup [(.s 12 15203697582933074453173855606), (.i .i64 0)]) (refS 15 14 14 14) [4, 5] = true := by decide +kernel
theorem Rm43 : lineOk 17 (.s 21 77740045142497306341070843749089079249310810661229) (refS 15 14 14 14) (.tup [(.s 12 15203697582284562678100025709), (.i .i64 0)]) (refS 15 15 14 14) [2, 3, 52, 53, 54] = true := by decide +kernel
theorem Rm44 : lineOk 17 (.s 14 1058601252151256875444412774310246) (refS 15 15 14 14) (.tup [(.s 12 15203697581780152948567007590), (.i .i64 0)]) (refS 15 15 15 15) [6, 7, 8] = true := by decide +kernel
theorem Rm45 : lineOk 17 (.s 13 4214296315561309449780648437110) (refS 15 15 15 15) (.tup [(.s 12 15203702305299557322819069302), (.i .i64 0)]) (refS 16 15 15 15) [4, 5] = true := by decide +kernel
theorem Rm46 : lineOk 17 (.s 21 79201546779828209259274528586527728751836388417901) (refS 16 15 15 15) (.tup [(.s 12 15203702304651045547745239405), (.i .i64 0)]) (refS 16 16 15 15) [2, 3, 55, 56, 57] = true := by decide +kernel
theorem Rm47 : lineOk 17 (.s 14 1078883661759630912351229670809958) (refS 16 16 15 15) (.tup [(.s 12 15203702304146635818212221286), (.i .i64 0)]) (refS 16 16 16 16) [6, 7, 8] = true := by decide +kernel
theorem Rm48 : lineOk 17 (.s 13 4293524482797940270243837601142) (refS 16 16 16 16) (.tup [(.s 0 0), (.i .i64 441)]) (refS 16 16 16 16) [] = true := by decide +kernel
theorem Rm49 : lineOk 17 (.s 21 80663048417159112177478213423966378254361966174573) (refS 16 16 16 16) (.tup [(.s 0 0), (.i .i64 441)]) (refS 16 16 16 16) [] = true := by decide +kernel
theorem Rm50 : lineOk 17 (.s 13 3836724608300482027301453914470) (refS 16 16 16 16) (.tup [(.s 0 0), (.i .i64 441)]) (refS 16 16 16 16) [] = true := by decide +kernel
theorem Rm51 : lineOk 17 (.s 13 4372752650034571090707026765174) (refS 16 16 16 16) (.tup [(.s 0 0), (.i .i64 441)]) (refS 16 16 16 16) [] = true := by decide +kernel
theorem Rm52 : lineOk 17 (.s 21 82124550054490015095681898261405027756887543931245) (refS 16 16 16 16) (.tup [(.s 0 0), (.i .i64 441)]) (refS 16 16 16 16) [] = true := by decide +kernel
theorem Rm53 : lineOk 17 (.s 13 3915952775537112847764643078502) (refS 16 16 16 16) (.tup [(.s 0 0), (.i .i64 441)]) (refS 16 16 16 16) [] = true := by decide +kernel
theorem Rt15_0 : lineOk 17 (.s 13 4129829778282512039636843586934) (refS 15 15 15 15) (.tup [(.s 11 60598300663827944190469494), (.i .i64 0)]) (refS 15 15 15 15) [] = true := by decide +kernel
theorem Rr15_0 : lineOk 17 (.s 7 13630784890888562) (refS 15 15 15 15) (.tup [(.s 6 54015311110514), (.i .i64 0)]) (refV 15) [] = true := by decide +kernel
theorem Rt15_1 : lineOk 17 (.s 13 4129829778300958783710553138550) (refS 15 15 15 15) (.tup [(.s 11 60598319110572017900021110), (.i .i64 0)]) (refS 15 15 15 15) [] = true := by decide +kernel
theorem Rr15_1 : lineOk 17 (.s 7 13912259867599218) (refS 15 15 15 15) (.tup [(.s 6 54015311110514), (.i .i64 0)]) (refV 15) [] = true := by decide +kernel
theorem Rt15_2 : lineOk 17 (.s 13 4129829778319405527784262690166) (refS 15 15 15 15) (.tup [(.s 11 60598337557316091609572726), (.i .i64 0)]) (refS 15 15 15 15) [] = true := by decide +kernel
theorem Rr15_2 : lineOk 17 (.s 7 14193734844309874) (refS 15 15 15 15) (.tup [(.s 6 54015311110514), (.i .i64 0)]) (refV 15) [] = true := by decide +kernel
theorem Rt15_3 : lineOk 17 (.s 13 4129829778337852271857972241782) (refS 15 15 15 15) (.tup [(.s 11 60598356004060165319124342), (.i .i64 0)]) (refS 15 15 15 15) [] = true := by decide +kernel
end AM
end
end Go.Proofs.YtejhenloolgmkaaGreatDoor
