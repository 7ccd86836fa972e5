/- Functions of the program as abstract code: that they are such is proved in the texts C. -/
import Derived.Test.YtcocemppeccldaaGreatDoorAiF
set_option linter.unusedVariables false
set_option linter.unusedSimpArgs false
set_option maxRecDepth 100000
namespace Go.S32
open Go Go.Ai def rf3 : RF := ⟨112,[.tmp 6],.seq (
.ops [] [⟨some 3,.box (some 10) (.t 0) none,none⟩,⟨some 4,.box (some 10) (.t 1) none,none⟩,⟨some 6,.mov (.c (.bool false)),none⟩]) (
.seq (
.ops [] [⟨some 11,.call (.c (.fn 4 [] [])) [],none⟩,⟨some 7,.mov (.t 11),none⟩]) (
.seq (
.ops [] [⟨some 12,.mov (.t 2),none⟩,⟨some 13,.bin .rem (.t 12) (.c (.int .u8 4)),none⟩,⟨some 14,.conv .i64 (.t 13),none⟩,⟨some 15,.bin .add (.c (.int .i64 1)) (.t 14),none⟩,⟨some 16,.fa 0 (.t 3),none⟩,⟨none,.store 1 (.t 16) (.t 15),none⟩]) (
.seq (
.ops [] [⟨some 17,.mov (.t 2),none⟩,⟨some 18,.bin .quo (.t 17) (.c (.int .u8 4)),none⟩,⟨some 19,.bin .rem (.t 18) (.c (.int .u8 4)),none⟩,⟨some 20,.conv .i64 (.t 19),none⟩,⟨some 21,.bin .add (.c (.int .i64 1)) (.t 20),none⟩,⟨some 22,.fa 0 (.t 4),none⟩,⟨none,.store 1 (.t 22) (.t 21),none⟩]) (
.seq (
.seq (
.ops [] [⟨some 23,.mov (.t 2),none⟩,⟨some 24,.bin .rem (.t 23) (.c (.int .u8 2)),none⟩,⟨some 25,.bin .eql (.t 24) (.c (.int .u8 1)),none⟩]) (
.cond (.t 25) ( .seq ( .ops [] [⟨some 26,.fa 1 (.t 3),none⟩,⟨some 27,.load false 1 (.t 26),none⟩,⟨some 28,.fa 1 (.t 4),none⟩,⟨none,.store 1 (.t 28) (.t 27),none⟩]) ( .seq ( .ops [] [⟨some 29,.fa 2 (.t 3),none⟩,⟨some 30,.load false 1 (.t 29),none⟩,⟨some 31,.fa 2 (.t 4),none⟩,⟨none,.store 1 (.t 31) (.t 30),none⟩]) ( .ops [] [⟨some 32,.fa 4 (.t 3),none⟩,⟨some 33,.fa 0 (.t 32),none⟩,⟨some 34,.load false 1 (.t 33),none⟩,⟨some 35,.fa 4 (.t 4),none⟩,⟨some 36,.fa 0 (.t 35),none⟩,⟨none,.store 1 (.t 36) (.t 34),none⟩]))) ( .skip))) (
.seq (
.ops [] [⟨some 37,.fa 0 (.t 3),none⟩,⟨some 38,.load false 1 (.t 37),none⟩,⟨some 39,.fa 0 (.t 4),none⟩,⟨some 40,.load false 1 (.t 39),none⟩,⟨some 41,.bin .eql (.t 38) (.t 40),none⟩,⟨some 42,.mov (.t 41),none⟩,⟨some 43,.fa 1 (.t 3),(some (42,true))⟩,⟨some 44,.load false 1 (.t 43),(some (42,true))⟩,⟨some 45,.fa 1 (.t 4),(some (42,true))⟩,⟨some 46,.load false 1 (.t 45),(some (42,true))⟩,⟨some 47,.bin .eql (.t 44) (.t 46),(some (42,true))⟩,⟨some 48,.pick (.t 42) (.t 47) (.c (.bool false)),none⟩,⟨some 49,.mov (.t 48),none⟩,⟨some 50,.fa 2 (.t 3),(some (49,true))⟩,⟨some 51,.load false 1 (.t 50),(some (49,true))⟩,⟨some 52,.fa 2 (.t 4),(some (49,true))⟩,⟨some 53,.load false 1 (.t 52),(some (49,true))⟩,⟨some 54,.bin .eql (.t 51) (.t 53),(some (49,true))⟩,⟨some 55,.pick (.t 49) (.t 54) (.c (.bool false)),none⟩,⟨some 56,.mov (.t 55),none⟩,⟨some 57,.fa 4 (.t 3),(some (56,true))⟩,⟨some 58,.fa 0 (.t 57),(some (56,true))⟩,⟨some 59,.load false 1 (.t 58),(some (56,true))⟩,⟨some 60,.fa 4 (.t 4),(some (56,true))⟩,⟨some 61,.fa 0 (.t 60),(some (56,true))⟩,⟨some 62,.load false 1 (.t 61),(some (56,true))⟩,⟨some 63,.bin .eql (.t 59) (.t 62),(some (56,true))⟩,⟨some 64,.pick (.t 56) (.t 63) (.c (.bool false)),none⟩,⟨some 8,.mov (.t 64),none⟩]) (
.seq (
.seq (
.ops [] [⟨some 65,.fa 0 (.t 3),none⟩,⟨some 66,.load false 1 (.t 65),none⟩,⟨some 67,.bin .eql (.t 66) (.c (.int .i64 1)),none⟩,⟨some 68,.mov (.t 67),none⟩,⟨some 69,.fa 0 (.t 3),(some (68,false))⟩,⟨some 70,.load false 1 (.t 69),(some (68,false))⟩,⟨some 71,.bin .eql (.t 70) (.c (.int .i64 2)),(some (68,false))⟩,⟨some 72,.pick (.t 68) (.c (.bool true)) (.t 71),none⟩]) (
.cond (.t 72) ( .ops [] [⟨some 73,.mov (.t 8),none⟩,⟨some 74,.mov (.t 73),none⟩,⟨some 75,.fa 3 (.t 3),(some (74,true))⟩,⟨some 76,.load false 1 (.t 75),(some (74,true))⟩,⟨some 77,.fa 3 (.t 4),(some (74,true))⟩,⟨some 78,.load false 1 (.t 77),(some (74,true))⟩,⟨some 79,.bin .eql (.t 76) (.t 78),(some (74,true))⟩,⟨some 80,.pick (.t 74) (.t 79) (.c (.bool false)),none⟩,⟨some 81,.mov (.t 80),none⟩,⟨some 82,.fa 7 (.t 3),(some (81,true))⟩,⟨some 83,.fa 0 (.t 82),(some (81,true))⟩,⟨some 84,.load false 1 (.t 83),(some (81,true))⟩,⟨some 85,.fa 7 (.t 4),(some (81,true))⟩,⟨some 86,.fa 0 (.t 85),(some (81,true))⟩,⟨some 87,.load false 1 (.t 86),(some (81,true))⟩,⟨some 88,.bin .eql (.t 84) (.t 87),(some (81,true))⟩,⟨some 89,.pick (.t 81) (.t 88) (.c (.bool false)),none⟩,⟨some 8,.mov (.t 89),none⟩]) ( .skip))) (
.seq (
.dops [] 0 [⟨some 90,.load true 10 (.t 3),none⟩,⟨some 91,.call (.c (.fn 5 [] [])) [(.t 90)],none⟩,⟨some 92,.load true 10 (.t 4),none⟩,⟨some 93,.call (.c (.fn 5 [] [])) [(.t 92)],none⟩,⟨some 9,.mov (.t 91),none⟩,⟨some 10,.mov (.t 93),none⟩] []) (
.seq (
.ops [] [⟨some 94,.mov (.t 9),none⟩,⟨some 95,.lenS (.t 94),none⟩,⟨some 96,.bin .gtr (.t 95) (.c (.int .i64 0)),none⟩,⟨some 97,.mov (.t 96),none⟩,⟨some 98,.mov (.t 10),(some (97,true))⟩,⟨some 99,.lenS (.t 98),(some (97,true))⟩,⟨some 100,.bin .gtr (.t 99) (.c (.int .i64 0)),(some (97,true))⟩,⟨some 101,.pick (.t 97) (.t 100) (.c (.bool false)),none⟩,⟨some 102,.mov (.t 101),none⟩,⟨some 103,.mov (.t 9),(some (102,true))⟩,⟨some 104,.mov (.t 10),(some (102,true))⟩,⟨some 105,.bin .eql (.t 103) (.t 104),(some (102,true))⟩,⟨some 106,.mov (.t 8),(some (102,true))⟩,⟨some 107,.beq false (.t 105) (.t 106),(some (102,true))⟩,⟨some 108,.pick (.t 102) (.t 107) (.c (.bool false)),none⟩,⟨some 109,.mov (.t 108),none⟩,⟨some 110,.mov (.t 7),(some (109,true))⟩,⟨some 111,.pick (.t 109) (.t 110) (.c (.bool false)),none⟩,⟨some 6,.mov (.t 111),none⟩]) (
.ret)))))))))⟩
def rf4 : RF := ⟨146,[.tmp 0],.seq (
.ops [] [⟨some 0,.mov (.c (.bool false)),none⟩]) (
.seq (
.ops [] [⟨some 17,.call (.c (.fn 6 [] [])) [],none⟩,⟨some 16,.mov (.t 17),none⟩,⟨some 18,.ext (.t 16) 0,none⟩,⟨some 19,.ext (.t 16) 1,none⟩,⟨some 1,.mov (.t 18),none⟩,⟨some 2,.mov (.t 19),none⟩]) (
.seq (
.ops [] [⟨some 20,.call (.c (.fn 7 [] [])) [(.c (.int .i64 0)),(.c (.int .i64 540)),(.c (.int .i64 600))],none⟩,⟨some 21,.call (.c (.fn 7 [] [])) [(.c (.int .i64 0)),(.c (.int .i64 600)),(.c (.int .i64 630))],none⟩,⟨some 22,.build [(.int .i64 0),(.int .i64 0),(.int .i64 0),(.int .i64 0),(.int .i64 0),(.int .i64 0),(.int .i64 0),(.int .i64 0),(.int .i64 0),(.int .i64 0)] [(0,1,(.c (.int .i64 1))),(2,1,(.c (.int .i64 1))),(3,1,(.c (.int .i64 2))),(4,3,(.t 20)),(7,3,(.t 21))],none⟩,⟨some 3,.alloc (some 10) (.agg [(.int .i64 0),(.int .i64 0),(.int .i64 0),(.int .i64 0),(.int .i64 0),(.int .i64 0),(.int .i64 0),(.int .i64 0),(.int .i64 0),(.int .i64 0)]) none,none⟩,⟨none,.store 10 (.t 3) (.t 22),none⟩]) (
.seq (
.ops [] [⟨some 23,.call (.c (.fn 7 [] [])) [(.c (.int .i64 3)),(.c (.int .i64 4320)),(.c (.int .i64 4345))],none⟩,⟨some 24,.build [(.int .i64 0),(.int .i64 0),(.int .i64 0),(.int .i64 0),(.int .i64 0),(.int .i64 0),(.int .i64 0),(.int .i64 0),(.int .i64 0),(.int .i64 0)] [(0,1,(.c (.int .i64 3))),(1,1,(.c (.int .i64 1))),(2,1,(.c (.int .i64 3))),(4,3,(.t 23))],none⟩,⟨some 4,.alloc (some 10) (.agg [(.int .i64 0),(.int .i64 0),(.int .i64 0),(.int .i64 0),(.int .i64 0),(.int .i64 0),(.int .i64 0),(.int .i64 0),(.int .i64 0),(.int .i64 0)]) none,none⟩,⟨none,.store 10 (.t 4) (.t 24),none⟩]) (
.seq (
.ops [] [⟨some 26,.mov (.t 1),none⟩,⟨some 27,.mov (.t 2),none⟩,⟨some 28,.call (.c (.fn 8 [] [])) [(.t 26),(.t 27)],none⟩,⟨some 25,.mov (.t 28),none⟩,⟨some 29,.ext (.t 25) 0,none⟩,⟨some 30,.ext (.t 25) 1,none⟩,⟨some 5,.mov (.t 29),none⟩,⟨some 6,.mov (.t 30),none⟩]) (
.seq (
.seq (
.ops [] [⟨some 31,.mov (.t 6),none⟩,⟨some 32,.bin .neq (.t 31) (.c (.int .i64 0)),none⟩,⟨some 33,.mov (.t 32),none⟩,⟨some 34,.mov (.t 5),(some (33,false))⟩,⟨some 35,.load true 10 (.t 3),(some (33,false))⟩,⟨some 36,.load true 10 (.t 4),(some (33,false))⟩,⟨some 37,.bsl none (some 10) (.agg [(.int .i64 0),(.int .i64 0),(.int .i64 0),(.int .i64 0),(.int .i64 0),(.int .i64 0),(.int .i64 0),(.int .i64 0),(.int .i64 0),(.int .i64 0)]) 2 [(0,(.t 35)),(1,(.t 36))],(some (33,false))⟩,⟨some 38,.call (.c (.fn 9 [] [])) [(.t 34),(.t 37)],(some (33,false))⟩,⟨some 39,.un .not (.t 38),(some (33,false))⟩,⟨some 40,.pick (.t 33) (.c (.bool true)) (.t 39),none⟩]) (
.cond (.t 40) ( .seq ( .ops [] [⟨some 0,.mov (.c (.bool false)),none⟩]) ( .ret)) ( .skip))) (
.seq (
.ops [] [⟨some 41,.load true 10 (.t 3),none⟩,⟨some 7,.alloc (some 10) (.agg [(.int .i64 0),(.int .i64 0),(.int .i64 0),(.int .i64 0),(.int .i64 0),(.int .i64 0),(.int .i64 0),(.int .i64 0),(.int .i64 0),(.int .i64 0)]) none,none⟩,⟨none,.store 10 (.t 7) (.t 41),none⟩]) (
.seq (
.ops [] [⟨some 42,.call (.c (.fn 7 [] [])) [(.c (.int .i64 0)),(.c (.int .i64 601)),(.c (.int .i64 631))],none⟩,⟨some 43,.fa 7 (.t 7),none⟩,⟨none,.store 3 (.t 43) (.t 42),none⟩]) (
.seq (
.ops [] [⟨some 44,.mov (.t 5),none⟩,⟨some 45,.call (.c (.fn 10 [] [])) [(.t 44)],none⟩,⟨some 8,.mov (.t 45),none⟩]) (
.seq (
.seq (
.ops [] [⟨some 46,.mov (.t 8),none⟩,⟨some 47,.len (.t 46),none⟩,⟨some 48,.bin .neq (.t 47) (.c (.int .i64 3)),none⟩,⟨some 49,.mov (.t 48),none⟩,⟨some 50,.mov (.t 8),(some (49,false))⟩,⟨some 51,.ia 1 (.t 50) (.c (.int .i64 0)),(some (49,false))⟩,⟨some 52,.load false 1 (.t 51),(some (49,false))⟩,⟨some 53,.bin .neq (.t 52) (.c (.int .i64 1)),(some (49,false))⟩,⟨some 54,.pick (.t 49) (.c (.bool true)) (.t 53),none⟩,⟨some 55,.mov (.t 54),none⟩,⟨some 56,.mov (.t 8),(some (55,false))⟩,⟨some 57,.ia 1 (.t 56) (.c (.int .i64 2)),(some (55,false))⟩,⟨some 58,.load false 1 (.t 57),(some (55,false))⟩,⟨some 59,.bin .neq (.t 58) (.c (.int .i64 3)),(some (55,false))⟩,⟨some 60,.pick (.t 55) (.c (.bool true)) (.t 59),none⟩,⟨some 61,.mov (.t 60),none⟩,⟨some 62,.mov (.t 1),(some (61,false))⟩,⟨some 63,.mov (.t 2),(some (61,false))⟩,⟨some 64,.load true 10 (.t 3),(some (61,false))⟩,⟨some 65,.call (.c (.fn 11 [] [])) [(.t 62),(.t 63),(.t 64)],(some (61,false))⟩,⟨some 66,.bin .neq (.t 65) (.c (.int .i64 0)),(some (61,false))⟩,⟨some 67,.pick (.t 61) (.c (.bool true)) (.t 66),none⟩,⟨some 68,.mov (.t 67),none⟩,⟨some 69,.mov (.t 1),(some (68,false))⟩,⟨some 70,.mov (.t 2),(some (68,false))⟩,⟨some 71,.load true 10 (.t 7),(some (68,false))⟩,⟨some 72,.call (.c (.fn 11 [] [])) [(.t 69),(.t 70),(.t 71)],(some (68,false))⟩,⟨some 73,.bin .neq (.t 72) (.c (.int .i64 11)),(some (68,false))⟩,⟨some 74,.pick (.t 68) (.c (.bool true)) (.t 73),none⟩,⟨some 75,.mov (.t 74),none⟩,⟨some 76,.mov (.t 1),(some (75,false))⟩,⟨some 77,.mov (.t 2),(some (75,false))⟩,⟨some 78,.load true 10 (.t 4),(some (75,false))⟩,⟨some 79,.call (.c (.fn 11 [] [])) [(.t 76),(.t 77),(.t 78)],(some (75,false))⟩,⟨some 80,.bin .neq (.t 79) (.c (.int .i64 0)),(some (75,false))⟩,⟨some 81,.pick (.t 75) (.c (.bool true)) (.t 80),none⟩]) (
.cond (.t 81) ( .seq ( .ops [] [⟨some 0,.mov (.c (.bool false)),none⟩]) ( .ret)) ( .skip))) (
.seq (
.ops [] [⟨some 82,.mov (.t 1),none⟩,⟨some 83,.ia 15 (.t 82) (.c (.int .i64 1)),none⟩,⟨some 84,.fa 3 (.t 83),none⟩,⟨some 85,.fa 9 (.t 84),none⟩,⟨none,.store 1 (.t 85) (.c .nils),none⟩]) (
.seq (
.ops [] [⟨some 87,.mov (.t 1),none⟩,⟨some 88,.mov (.t 2),none⟩,⟨some 89,.call (.c (.fn 8 [] [])) [(.t 87),(.t 88)],none⟩,⟨some 86,.mov (.t 89),none⟩,⟨some 90,.ext (.t 86) 0,none⟩,⟨some 91,.ext (.t 86) 1,none⟩,⟨some 9,.mov (.t 90),none⟩,⟨some 10,.mov (.t 91),none⟩]) (
.seq (
.ops [] [⟨some 92,.call (.c (.fn 7 [] [])) [(.c (.int .i64 2)),(.c (.int .i64 2880)),(.c (.int .i64 2905))],none⟩,⟨some 93,.build [(.int .i64 0),(.int .i64 0),(.int .i64 0),(.int .i64 0),(.int .i64 0),(.int .i64 0),(.int .i64 0),(.int .i64 0),(.int .i64 0),(.int .i64 0)] [(0,1,(.c (.int .i64 4))),(1,1,(.c (.int .i64 1))),(2,1,(.c (.int .i64 3))),(4,3,(.t 92))],none⟩,⟨some 11,.alloc (some 10) (.agg [(.int .i64 0),(.int .i64 0),(.int .i64 0),(.int .i64 0),(.int .i64 0),(.int .i64 0),(.int .i64 0),(.int .i64 0),(.int .i64 0),(.int .i64 0)]) none,none⟩,⟨none,.store 10 (.t 11) (.t 93),none⟩]) (
.seq (
.ops [] [⟨some 95,.mov (.t 2),none⟩,⟨some 96,.call (.c (.fn 8 [] [])) [(.c .nils),(.t 95)],none⟩,⟨some 94,.mov (.t 96),none⟩,⟨some 97,.ext (.t 94) 0,none⟩,⟨some 98,.ext (.t 94) 1,none⟩,⟨some 12,.mov (.t 97),none⟩,⟨some 13,.mov (.t 98),none⟩]) (
.seq (
.ops [] [⟨some 100,.call (.c (.fn 13 [] [])) [(.c (.int .i64 1)),(.c (.int .i64 0)),(.c (.int .i64 5))],none⟩,⟨some 101,.build [(.int .i64 0),(.bool false),(.int .i64 0),.nils,(.int .i64 0),.nils] [(0,1,(.c (.int .i64 1))),(1,1,(.c (.bool true))),(3,3,(.t 100))],none⟩,⟨some 102,.bsl none (some 6) (.agg [(.int .i64 0),(.bool false),(.int .i64 0),.nils,(.int .i64 0),.nils]) 1 [(0,(.t 101))],none⟩,⟨some 103,.bsl none none .nils 2 [(0,(.c .nils)),(1,(.t 102))],none⟩,⟨some 104,.call (.c (.fn 12 [] [])) [(.t 103)],none⟩,⟨some 99,.mov (.t 104),none⟩,⟨some 105,.ext (.t 99) 0,none⟩,⟨some 106,.ext (.t 99) 1,none⟩,⟨some 14,.mov (.t 105),none⟩,⟨some 15,.mov (.t 106),none⟩]) (
.seq (
.ops [] [⟨some 107,.mov (.t 10),none⟩,⟨some 108,.bin .eql (.t 107) (.c (.int .i64 0)),none⟩,⟨some 109,.mov (.t 108),none⟩,⟨some 110,.mov (.t 9),(some (109,true))⟩,⟨some 111,.load true 10 (.t 3),(some (109,true))⟩,⟨some 112,.load true 10 (.t 11),(some (109,true))⟩,⟨some 113,.bsl none (some 10) (.agg [(.int .i64 0),(.int .i64 0),(.int .i64 0),(.int .i64 0),(.int .i64 0),(.int .i64 0),(.int .i64 0),(.int .i64 0),(.int .i64 0),(.int .i64 0)]) 2 [(0,(.t 111)),(1,(.t 112))],(some (109,true))⟩,⟨some 114,.call (.c (.fn 9 [] [])) [(.t 110),(.t 113)],(some (109,true))⟩,⟨some 115,.pick (.t 109) (.t 114) (.c (.bool false)),none⟩,⟨some 116,.mov (.t 115),none⟩,⟨some 117,.mov (.t 13),(some (116,true))⟩,⟨some 118,.bin .eql (.t 117) (.c (.int .i64 1)),(some (116,true))⟩,⟨some 119,.pick (.t 116) (.t 118) (.c (.bool false)),none⟩,⟨some 120,.mov (.t 119),none⟩,⟨some 121,.mov (.t 15),(some (120,true))⟩,⟨some 122,.bin .eql (.t 121) (.c (.int .i64 0)),(some (120,true))⟩,⟨some 123,.pick (.t 120) (.t 122) (.c (.bool false)),none⟩,⟨some 124,.mov (.t 123),none⟩,⟨some 125,.mov (.t 14),(some (124,true))⟩,⟨some 126,.len (.t 125),(some (124,true))⟩,⟨some 127,.bin .eql (.t 126) (.c (.int .i64 0)),(some (124,true))⟩,⟨some 128,.pick (.t 124) (.t 127) (.c (.bool false)),none⟩,⟨some 129,.mov (.t 128),none⟩,⟨some 130,.load true 10 (.t 3),(some (129,true))⟩,⟨some 131,.call (.c (.fn 5 [] [])) [(.t 130)],(some (129,true))⟩,⟨some 132,.bin .eql (.t 131) (.c (.str (byts [114,111,111,109,32,48,58,32,109,101,101,116,105,110,103,115,32,49,32,97,110,100,32,50,32,111,118,101,114,108,97,112,32,111,110,32,100,97,121,115,32,48,32,97,110,100,32,48]))),(some (129,true))⟩,⟨some 133,.pick (.t 129) (.t 132) (.c (.bool false)),none⟩,⟨some 134,.mov (.t 133),none⟩,⟨some 135,.build [(.int .i64 0),(.int .i64 0),(.int .i64 0),(.int .i64 0),(.int .i64 0),(.int .i64 0),(.int .i64 0),(.int .i64 0),(.int .i64 0),(.int .i64 0)] [],(some (134,true))⟩,⟨some 136,.call (.c (.fn 5 [] [])) [(.t 135)],(some (134,true))⟩,⟨some 137,.bin .eql (.t 136) (.c (.str (byts []))),(some (134,true))⟩,⟨some 138,.pick (.t 134) (.t 137) (.c (.bool false)),none⟩,⟨some 139,.mov (.t 138),none⟩,⟨some 140,.mov (.t 9),(some (139,true))⟩,⟨some 141,.mov (.t 5),(some (139,true))⟩,⟨some 142,.call (.c (.fn 14 [] [])) [(.t 140),(.t 141)],(some (139,true))⟩,⟨some 143,.len (.t 142),(some (139,true))⟩,⟨some 144,.bin .eql (.t 143) (.c (.int .i64 1)),(some (139,true))⟩,⟨some 145,.pick (.t 139) (.t 144) (.c (.bool false)),none⟩,⟨some 0,.mov (.t 145),none⟩]) (
.ret))))))))))))))))⟩
def rf5 : RF := ⟨79,[.tmp 2],.seq (
.ops [] [⟨some 1,.box (some 10) (.t 0) none,none⟩,⟨some 2,.mov (.c (.str (byts []))),none⟩]) (
.seq (
.ops [] [⟨some 3,.mov (.c (.str (byts [114,111,111,109,32]))),none⟩]) (
.seq (
.seq (
.ops [] [⟨some 5,.fa 0 (.t 1),none⟩,⟨some 6,.load false 1 (.t 5),none⟩,⟨some 7,.bin .eql (.t 6) (.c (.int .i64 2)),none⟩]) (
.cond (.t 7) ( .ops [] [⟨some 3,.mov (.c (.str (byts [112,101,114,115,111,110,32]))),none⟩]) ( .skip))) (
.seq (
.ops [] [⟨some 4,.mov (.c (.fn 15 [] [])),none⟩]) (
.seq (
.ops [] [⟨some 8,.mov (.t 3),none⟩,⟨some 9,.mov (.t 4),none⟩,⟨some 10,.fa 1 (.t 1),none⟩,⟨some 11,.load false 1 (.t 10),none⟩,⟨some 12,.call (.t 9) [(.t 11)],none⟩,⟨some 13,.bin .add (.t 12) (.c (.str (byts [58,32,109,101,101,116,105,110,103]))),none⟩,⟨some 14,.bin .add (.t 8) (.t 13),none⟩,⟨some 3,.mov (.t 14),none⟩]) (
.seq (
.seq (
.ops [] [⟨some 15,.fa 0 (.t 1),none⟩,⟨some 16,.load false 1 (.t 15),none⟩]) (
.block 0 ( .seq ( .seq ( .ops [] [⟨some 18,.bin .eql (.t 16) (.c (.int .i64 1)),none⟩,⟨some 17,.mov (.t 18),none⟩]) ( .cond (.t 17) ( .skip) ( .ops [] [⟨some 19,.bin .eql (.t 16) (.c (.int .i64 2)),none⟩,⟨some 17,.mov (.t 19),none⟩]))) ( .cond (.t 17) ( .seq ( .dops [] 0 [⟨some 20,.mov (.t 3),none⟩,⟨some 21,.bin .add (.t 20) (.c (.str (byts [115,32]))),none⟩,⟨some 22,.mov (.t 4),none⟩,⟨some 23,.fa 2 (.t 1),none⟩,⟨some 24,.load false 1 (.t 23),none⟩,⟨some 25,.call (.k 22 15) [(.t 24)],none⟩,⟨some 26,.bin .add (.t 21) (.t 25),none⟩,⟨some 27,.bin .add (.t 26) (.c (.str (byts [32,97,110,100,32]))),none⟩,⟨some 28,.mov (.t 4),none⟩,⟨some 29,.fa 3 (.t 1),none⟩,⟨some 30,.load false 1 (.t 29),none⟩,⟨some 31,.call (.k 28 15) [(.t 30)],none⟩,⟨some 32,.bin .add (.t 27) (.t 31),none⟩,⟨some 33,.bin .add (.t 32) (.c (.str (byts [32,111,118,101,114,108,97,112,32,111,110,32,100,97,121,115,32]))),none⟩,⟨some 34,.mov (.t 4),none⟩,⟨some 35,.fa 4 (.t 1),none⟩,⟨some 36,.fa 0 (.t 35),none⟩,⟨some 37,.load false 1 (.t 36),none⟩,⟨some 38,.call (.k 34 15) [(.t 37)],none⟩,⟨some 39,.bin .add (.t 33) (.t 38),none⟩,⟨some 40,.bin .add (.t 39) (.c (.str (byts [32,97,110,100,32]))),none⟩,⟨some 41,.mov (.t 4),none⟩,⟨some 42,.fa 7 (.t 1),none⟩,⟨some 43,.fa 0 (.t 42),none⟩,⟨some 44,.load false 1 (.t 43),none⟩,⟨some 45,.call (.k 41 15) [(.t 44)],none⟩,⟨some 46,.bin .add (.t 40) (.t 45),none⟩,⟨some 2,.mov (.t 46),none⟩] []) ( .ret)) ( .seq ( .ops [] [⟨some 48,.bin .eql (.t 16) (.c (.int .i64 3)),none⟩,⟨some 47,.mov (.t 48),none⟩]) ( .cond (.t 47) ( .seq ( .dops [] 0 [⟨some 49,.mov (.t 3),none⟩,⟨some 50,.bin .add (.t 49) (.c (.str (byts [32]))),none⟩,⟨some 51,.mov (.t 4),none⟩,⟨some 52,.fa 2 (.t 1),none⟩,⟨some 53,.load false 1 (.t 52),none⟩,⟨some 54,.call (.k 51 15) [(.t 53)],none⟩,⟨some 55,.bin .add (.t 50) (.t 54),none⟩,⟨some 56,.bin .add (.t 55) (.c (.str (byts [32,105,115,32,111,117,116,115,105,100,101,32,111,102,32,116,104,101,32,111,112,101,110,105,110,103,32,104,111,117,114,115,32,111,110,32,100,97,121,32]))),none⟩,⟨some 57,.mov (.t 4),none⟩,⟨some 58,.fa 4 (.t 1),none⟩,⟨some 59,.fa 0 (.t 58),none⟩,⟨some 60,.load false 1 (.t 59),none⟩,⟨some 61,.call (.k 57 15) [(.t 60)],none⟩,⟨some 62,.bin .add (.t 56) (.t 61),none⟩,⟨some 2,.mov (.t 62),none⟩] []) ( .ret)) ( .seq ( .ops [] [⟨some 64,.bin .eql (.t 16) (.c (.int .i64 4)),none⟩,⟨some 63,.mov (.t 64),none⟩]) ( .cond (.t 63) ( .seq ( .dops [] 0 [⟨some 65,.mov (.t 3),none⟩,⟨some 66,.bin .add (.t 65) (.c (.str (byts [32]))),none⟩,⟨some 67,.mov (.t 4),none⟩,⟨some 68,.fa 2 (.t 1),none⟩,⟨some 69,.load false 1 (.t 68),none⟩,⟨some 70,.call (.k 67 15) [(.t 69)],none⟩,⟨some 71,.bin .add (.t 66) (.t 70),none⟩,⟨some 72,.bin .add (.t 71) (.c (.str (byts [32,101,120,99,101,101,100,115,32,97,32,113,117,111,116,97,32,111,110,32,100,97,121,32]))),none⟩,⟨some 73,.mov (.t 4),none⟩,⟨some 74,.fa 4 (.t 1),none⟩,⟨some 75,.fa 0 (.t 74),none⟩,⟨some 76,.load false 1 (.t 75),none⟩,⟨some 77,.call (.k 73 15) [(.t 76)],none⟩,⟨some 78,.bin .add (.t 72) (.t 77),none⟩,⟨some 2,.mov (.t 78),none⟩] []) ( .ret)) ( .skip))))))))) (
.seq (
.ops [] [⟨some 2,.mov (.c (.str (byts []))),none⟩]) (
.ret)))))))⟩
def rf6 : RF := ⟨40,[.tmp 0,.tmp 1],.seq (
.ops [] [⟨some 0,.mov (.c .nils),none⟩,⟨some 1,.mov (.c .nils),none⟩]) (
.seq (
.ops [] [⟨some 6,.call (.c (.fn 16 [] [])) [],none⟩,⟨some 7,.call (.c (.fn 17 [] [])) [],none⟩,⟨some 8,.build [.nils,(.int .i64 0),(.int .i64 0)] [(0,1,(.t 7)),(2,1,(.c (.int .i64 1440)))],none⟩,⟨some 9,.bsl (some none) (some 3) (.agg [.nils,(.int .i64 0),(.int .i64 0)]) 1 [(0,(.t 8))],none⟩,⟨some 10,.build [(.int .i64 0),.nils,(.int .i64 0),.nils,(.int .i64 0),.nils,(.int .i64 0),.nils,.nils,.nils] [(0,8,(.t 6)),(8,1,(.t 9))],none⟩,⟨some 2,.alloc (some 10) (.agg [(.int .i64 0),.nils,(.int .i64 0),.nils,(.int .i64 0),.nils,(.int .i64 0),.nils,.nils,.nils]) none,none⟩,⟨none,.store 10 (.t 2) (.t 10),none⟩]) (
.seq (
.ops [] [⟨some 11,.load true 10 (.t 2),none⟩,⟨some 12,.build [(.int .i64 0),(.int .i64 0),(.int .i64 0),(.int .i64 0),.nils,(.int .i64 0),.nils,(.int .i64 0),.nils,(.int .i64 0),.nils,.nils,.nils,.nils,.nils] [(0,1,(.c (.int .i64 10))),(2,1,(.c (.int .i64 15))),(3,10,(.t 11))],none⟩,⟨some 3,.alloc (some 15) (.agg [(.int .i64 0),(.int .i64 0),(.int .i64 0),(.int .i64 0),.nils,(.int .i64 0),.nils,(.int .i64 0),.nils,(.int .i64 0),.nils,.nils,.nils,.nils,.nils]) none,none⟩,⟨none,.store 15 (.t 3) (.t 12),none⟩]) (
.seq (
.ops [] [⟨some 13,.load true 15 (.t 3),none⟩,⟨some 14,.load true 15 (.t 3),none⟩,⟨some 15,.load true 15 (.t 3),none⟩,⟨some 16,.bsl (some none) (some 15) (.agg [(.int .i64 0),(.int .i64 0),(.int .i64 0),(.int .i64 0),.nils,(.int .i64 0),.nils,(.int .i64 0),.nils,(.int .i64 0),.nils,.nils,.nils,.nils,.nils]) 3 [(0,(.t 13)),(1,(.t 14)),(2,(.t 15))],none⟩,⟨some 4,.mov (.t 16),none⟩]) (
.seq (
.ops [] [⟨some 17,.mov (.t 4),none⟩,⟨some 18,.bsl (some none) none (.int .i64 0) 1 [(0,(.c (.int .i64 3)))],none⟩,⟨some 19,.ia 15 (.t 17) (.c (.int .i64 1)),none⟩,⟨some 20,.fa 3 (.t 19),none⟩,⟨some 21,.fa 9 (.t 20),none⟩,⟨none,.store 1 (.t 21) (.t 18),none⟩]) (
.seq (
.ops [] [⟨some 22,.mov (.t 4),none⟩,⟨some 23,.build [(.int .i64 0),(.int .i64 0)] [(0,1,(.c (.int .i64 5))),(1,1,(.c (.int .i64 60)))],none⟩,⟨some 24,.bsl (some none) (some 2) (.agg [(.int .i64 0),(.int .i64 0)]) 1 [(0,(.t 23))],none⟩,⟨some 25,.ia 15 (.t 22) (.c (.int .i64 1)),none⟩,⟨some 26,.fa 13 (.t 25),none⟩,⟨none,.store 1 (.t 26) (.t 24),none⟩]) (
.seq (
.ops [] [⟨some 27,.mov (.t 4),none⟩,⟨some 28,.bsl (some none) none (.int .i64 0) 2 [(0,(.c (.int .i64 0))),(1,(.c (.int .i64 1)))],none⟩,⟨some 29,.ia 15 (.t 27) (.c (.int .i64 2)),none⟩,⟨some 30,.fa 14 (.t 29),none⟩,⟨none,.store 1 (.t 30) (.t 28),none⟩]) (
.seq (
.ops [] [⟨some 31,.call (.c (.fn 13 [] [])) [(.c (.int .i64 7)),(.c (.int .i64 540)),(.c (.int .i64 60))],none⟩,⟨some 32,.build [(.int .i64 0),(.int .i64 0),(.int .i64 0),(.int .i64 0),.nils,(.int .i64 0),.nils] [(0,1,(.c (.int .i64 1))),(3,1,(.c (.int .i64 1))),(4,3,(.t 31))],none⟩,⟨some 33,.call (.c (.fn 13 [] [])) [(.c (.int .i64 3)),(.c (.int .i64 600)),(.c (.int .i64 30))],none⟩,⟨some 34,.build [(.int .i64 0),(.int .i64 0),(.int .i64 0),(.int .i64 0),.nils,(.int .i64 0),.nils] [(0,1,(.c (.int .i64 2))),(1,1,(.c (.int .i64 2))),(3,1,(.c (.int .i64 1))),(4,3,(.t 33))],none⟩,⟨some 35,.call (.c (.fn 13 [] [])) [(.c (.int .i64 1)),(.c (.int .i64 0)),(.c (.int .i64 25))],none⟩,⟨some 36,.build [(.int .i64 0),(.int .i64 0),(.int .i64 0),(.int .i64 0),.nils,(.int .i64 0),.nils] [(0,1,(.c (.int .i64 3))),(1,1,(.c (.int .i64 1))),(2,1,(.c (.int .i64 5))),(3,1,(.c (.int .i64 1))),(4,3,(.t 35))],none⟩,⟨some 37,.bsl (some none) (some 7) (.agg [(.int .i64 0),(.int .i64 0),(.int .i64 0),(.int .i64 0),.nils,(.int .i64 0),.nils]) 3 [(0,(.t 32)),(1,(.t 34)),(2,(.t 36))],none⟩,⟨some 5,.mov (.t 37),none⟩]) (
.seq (
.ops [] [⟨some 38,.mov (.t 4),none⟩,⟨some 39,.mov (.t 5),none⟩,⟨some 0,.mov (.t 38),none⟩,⟨some 1,.mov (.t 39),none⟩]) (
.ret)))))))))⟩
def rf7 : RF := ⟨12,[.cell 6 true 3],.seq (
.ops [] [⟨some 6,.alloc (some 3) (.agg [(.int .i64 0),(.int .i64 0),(.int .i64 0)]) none,none⟩]) (
.seq (
.ops [] [⟨some 7,.mov (.t 0),none⟩,⟨some 8,.mov (.t 1),none⟩,⟨some 9,.mov (.t 2),none⟩,⟨some 10,.build [(.int .i64 0),(.int .i64 0)] [(0,1,(.t 8)),(1,1,(.t 9))],none⟩,⟨some 11,.build [(.int .i64 0),(.int .i64 0),(.int .i64 0)] [(0,1,(.t 7)),(1,2,(.t 10))],none⟩,⟨none,.store 3 (.t 6) (.t 11),none⟩]) (
.ret))⟩
def rf8 : RF := ⟨73,[.tmp 4,.tmp 5],.seq (
.ops [] [⟨some 4,.mov (.c .nils),none⟩,⟨some 5,.mov (.c (.int .i64 0)),none⟩]) (
.seq (
.seq (
.ops [] [⟨some 14,.mov (.t 0),none⟩,⟨some 15,.call (.c (.fn 18 [] [])) [(.t 14)],none⟩,⟨some 16,.bin .neq (.t 15) (.c (.int .i64 0)),none⟩,⟨some 17,.mov (.t 16),none⟩,⟨some 18,.mov (.t 0),(some (17,false))⟩,⟨some 19,.mov (.t 1),(some (17,false))⟩,⟨some 20,.call (.c (.fn 19 [] [])) [(.t 18),(.t 19)],(some (17,false))⟩,⟨some 21,.un .not (.t 20),(some (17,false))⟩,⟨some 22,.pick (.t 17) (.c (.bool true)) (.t 21),none⟩]) (
.cond (.t 22) ( .seq ( .ops [] [⟨some 4,.mov (.c .nils),none⟩,⟨some 5,.mov (.c (.int .i64 1)),none⟩]) ( .ret)) ( .skip))) (
.seq (
.ops [] [⟨some 23,.mov (.t 0),none⟩,⟨some 24,.mov (.t 1),none⟩,⟨some 25,.mkmap none,none⟩,⟨some 26,.build [.nils,.nils,.nilm] [(0,1,(.t 23)),(1,1,(.t 24)),(2,1,(.t 25))],none⟩,⟨some 27,.box (some 3) (.t 26) none,none⟩,⟨some 6,.mov (.t 27),none⟩]) (
.seq (
.seq (
.ops [] [⟨some 28,.mov (.t 1),none⟩,⟨some 29,.len (.t 28),none⟩,⟨some 30,.mov (.c (.int .i64 0)),none⟩]) (
.block 0 ( .loop ( .seq ( .ops [] [⟨some 31,.bin .lss (.t 30) (.t 29),none⟩]) ( .seq ( .cond (.t 31) ( .skip) ( .exit 0)) ( .seq ( .block 1 ( .seq ( .ops [] [⟨some 32,.mov (.t 30),none⟩,⟨some 7,.mov (.t 32),none⟩]) ( .seq ( .ops [] [⟨some 33,.mov (.t 6),none⟩,⟨some 34,.mkfn 20 [(.t 33)] [],none⟩,⟨some 35,.mov (.t 6),none⟩,⟨some 36,.mkfn 21 [(.t 35)] [],none⟩,⟨some 37,.mov (.t 6),none⟩,⟨some 38,.mkfn 22 [(.t 37)] [],none⟩,⟨some 39,.build [.nilf,.nilf,.nilf] [(0,1,(.t 34)),(1,1,(.t 36)),(2,1,(.t 38))],none⟩,⟨some 40,.mov (.c (.int .i64 0)),none⟩]) ( .block 2 ( .loop ( .seq ( .ops [] [⟨some 41,.bin .lss (.t 40) (.c (.int .i64 3)),none⟩]) ( .seq ( .cond (.t 41) ( .skip) ( .exit 2)) ( .seq ( .block 3 ( .seq ( .ops [] [⟨some 42,.idx false 3 1 (.t 39) (.t 40),none⟩,⟨some 9,.mov (.t 42),none⟩]) ( .seq ( .ops [] [⟨some 43,.mov (.t 9),none⟩,⟨some 44,.mov (.t 7),none⟩,⟨some 45,.call (.t 43) [(.t 44)],none⟩,⟨some 10,.mov (.t 45),none⟩]) ( .seq ( .ops [] [⟨some 46,.mov (.t 10),none⟩,⟨some 47,.bin .neq (.t 46) (.c (.int .i64 0)),none⟩]) ( .cond (.t 47) ( .seq ( .ops [] [⟨some 48,.mov (.t 10),none⟩,⟨some 4,.mov (.c .nils),none⟩,⟨some 5,.mov (.t 48),none⟩]) ( .ret)) ( .skip)))))) ( .ops [] [⟨some 49,.bin .add (.t 40) (.c (.int .i64 1)),none⟩,⟨some 40,.mov (.t 49),none⟩]))))))))) ( .ops [] [⟨some 50,.bin .add (.t 30) (.c (.int .i64 1)),none⟩,⟨some 30,.mov (.t 50),none⟩]))))))) (
.seq (
.ops [] [⟨some 11,.mov (.c .nils),none⟩]) (
.seq (
.seq (
.ops [] [⟨some 51,.mov (.t 6),none⟩,⟨some 52,.nilchk (.t 51),none⟩,⟨some 53,.fa 2 (.t 52),none⟩,⟨some 54,.load false 1 (.t 53),none⟩,⟨some 55,.call (.c (.fn 24 [] [])) [(.t 54)],none⟩,⟨some 56,.call (.c (.fn 23 [] [])) [(.t 55),(.c (.fn 25 [] []))],none⟩,⟨some 57,.len (.t 56),none⟩,⟨some 58,.mov (.c (.int .i64 0)),none⟩]) (
.block 4 ( .loop ( .seq ( .ops [] [⟨some 59,.bin .lss (.t 58) (.t 57),none⟩]) ( .seq ( .cond (.t 59) ( .skip) ( .exit 4)) ( .seq ( .block 5 ( .seq ( .ops [] [⟨some 60,.ia 4 (.t 56) (.t 58),none⟩,⟨some 61,.load true 4 (.t 60),none⟩,⟨some 13,.alloc (some 4) (.agg [(.int .i64 0),(.int .i64 0),(.int .i64 0),(.int .i64 0)]) none,none⟩,⟨none,.store 4 (.t 13) (.t 61),none⟩]) ( .dops [] 0 [⟨some 62,.mov (.t 11),none⟩,⟨some 63,.mov (.t 6),none⟩,⟨some 64,.nilchk (.t 63),none⟩,⟨some 65,.fa 2 (.t 64),none⟩,⟨some 66,.load false 1 (.t 65),none⟩,⟨some 67,.load true 4 (.t 13),none⟩,⟨some 68,.look true [.int,.int,.int,.int] (.agg [(.int .i64 0),(.int .i64 0),(.int .i64 0),(.int .i64 0),(.int .i64 0),(.int .i64 0),(.int .i64 0),(.int .i64 0),(.int .i64 0),(.int .i64 0)]) (.t 66) (.t 67) false,none⟩,⟨some 69,.bsl none (some 10) (.agg [(.int .i64 0),(.int .i64 0),(.int .i64 0),(.int .i64 0),(.int .i64 0),(.int .i64 0),(.int .i64 0),(.int .i64 0),(.int .i64 0),(.int .i64 0)]) 1 [(0,(.t 68))],none⟩,⟨some 70,.app (some 10) 80 (.t 62) (.t 69),none⟩,⟨some 11,.mov (.t 70),none⟩] []))) ( .ops [] [⟨some 71,.bin .add (.t 58) (.c (.int .i64 1)),none⟩,⟨some 58,.mov (.t 71),none⟩]))))))) (
.seq (
.ops [] [⟨some 72,.mov (.t 11),none⟩,⟨some 4,.mov (.t 72),none⟩,⟨some 5,.mov (.c (.int .i64 0)),none⟩]) (
.ret)))))))⟩
def rf9 : RF := ⟨26,[.tmp 4],.seq (
.ops [] [⟨some 4,.mov (.c (.bool false)),none⟩]) (
.seq (
.seq (
.ops [] [⟨some 6,.mov (.t 0),none⟩,⟨some 7,.len (.t 6),none⟩,⟨some 8,.mov (.t 1),none⟩,⟨some 9,.len (.t 8),none⟩,⟨some 10,.bin .neq (.t 7) (.t 9),none⟩]) (
.cond (.t 10) ( .seq ( .ops [] [⟨some 4,.mov (.c (.bool false)),none⟩]) ( .ret)) ( .skip))) (
.seq (
.seq (
.ops [] [⟨some 5,.mov (.c (.int .i64 0)),none⟩]) (
.block 0 ( .loop ( .seq ( .seq ( .ops [] [⟨some 11,.mov (.t 5),none⟩,⟨some 12,.mov (.t 0),none⟩,⟨some 13,.len (.t 12),none⟩,⟨some 14,.bin .lss (.t 11) (.t 13),none⟩]) ( .cond (.t 14) ( .skip) ( .exit 0))) ( .seq ( .block 1 ( .seq ( .dops [] 0 [⟨some 17,.mov (.t 0),none⟩,⟨some 18,.mov (.t 5),none⟩,⟨some 19,.ia 10 (.t 17) (.t 18),none⟩,⟨some 20,.load true 10 (.t 19),none⟩,⟨some 21,.mov (.t 1),none⟩,⟨some 22,.mov (.t 5),none⟩,⟨some 23,.ia 10 (.t 21) (.t 22),none⟩,⟨some 24,.load true 10 (.t 23),none⟩,⟨some 25,.eqs true [.int,.int,.int,.int,.int,.int,.int,.int,.int,.int] (.t 20) (.t 24),none⟩] []) ( .cond (.t 25) ( .seq ( .ops [] [⟨some 4,.mov (.c (.bool false)),none⟩]) ( .ret)) ( .skip)))) ( .ops [] [⟨some 15,.mov (.t 5),none⟩,⟨some 16,.bin .add (.t 15) (.c (.int .i64 1)),none⟩,⟨some 5,.mov (.t 16),none⟩])))))) (
.seq (
.ops [] [⟨some 4,.mov (.c (.bool true)),none⟩]) (
.ret))))⟩
def rf10 : RF := ⟨26,[.tmp 2],.seq (
.ops [] [⟨some 2,.mov (.c .nils),none⟩]) (
.seq (
.ops [] [⟨some 3,.mov (.c .nils),none⟩]) (
.seq (
.seq (
.ops [] [⟨some 6,.mov (.t 0),none⟩,⟨some 7,.len (.t 6),none⟩,⟨some 8,.mov (.c (.int .i64 0)),none⟩]) (
.block 0 ( .loop ( .seq ( .ops [] [⟨some 9,.bin .lss (.t 8) (.t 7),none⟩]) ( .seq ( .cond (.t 9) ( .skip) ( .exit 0)) ( .seq ( .block 1 ( .seq ( .ops [] [⟨some 10,.ia 10 (.t 6) (.t 8),none⟩,⟨some 11,.load true 10 (.t 10),none⟩,⟨some 5,.alloc (some 10) (.agg [(.int .i64 0),(.int .i64 0),(.int .i64 0),(.int .i64 0),(.int .i64 0),(.int .i64 0),(.int .i64 0),(.int .i64 0),(.int .i64 0),(.int .i64 0)]) none,none⟩,⟨none,.store 10 (.t 5) (.t 11),none⟩]) ( .ops [] [⟨some 12,.mov (.t 3),none⟩,⟨some 13,.fa 2 (.t 5),none⟩,⟨some 14,.load false 1 (.t 13),none⟩,⟨some 15,.fa 3 (.t 5),none⟩,⟨some 16,.load false 1 (.t 15),none⟩,⟨some 17,.bsl none none (.int .i64 0) 2 [(0,(.t 14)),(1,(.t 16))],none⟩,⟨some 18,.app none 8 (.t 12) (.t 17),none⟩,⟨some 3,.mov (.t 18),none⟩]))) ( .ops [] [⟨some 19,.bin .add (.t 8) (.c (.int .i64 1)),none⟩,⟨some 8,.mov (.t 19),none⟩]))))))) (
.seq (
.ops [] [⟨some 20,.mov (.t 3),none⟩,⟨some 21,.call (.c (.fn 26 [] [])) [(.t 20)],none⟩]) (
.seq (
.ops [] [⟨some 22,.mov (.t 3),none⟩,⟨some 23,.call (.c (.fn 27 [] [])) [(.t 22)],none⟩,⟨some 3,.mov (.t 23),none⟩]) (
.seq (
.ops [] [⟨some 24,.mov (.t 3),none⟩,⟨some 25,.call (.c (.fn 28 [] [])) [(.t 24),(.c (.fn 29 [] []))],none⟩,⟨some 2,.mov (.t 25),none⟩]) (
.ret))))))⟩
def rf11 : RF := ⟨119,[.tmp 6],.seq (
.ops [] [⟨some 5,.box (some 10) (.t 2) none,none⟩,⟨some 6,.mov (.c (.int .i64 0)),none⟩]) (
.seq (
.seq (
.ops [] [⟨some 13,.mov (.t 0),none⟩,⟨some 14,.call (.c (.fn 18 [] [])) [(.t 13)],none⟩,⟨some 15,.bin .neq (.t 14) (.c (.int .i64 0)),none⟩,⟨some 16,.mov (.t 15),none⟩,⟨some 17,.mov (.t 0),(some (16,false))⟩,⟨some 18,.mov (.t 1),(some (16,false))⟩,⟨some 19,.call (.c (.fn 19 [] [])) [(.t 17),(.t 18)],(some (16,false))⟩,⟨some 20,.un .not (.t 19),(some (16,false))⟩,⟨some 21,.pick (.t 16) (.c (.bool true)) (.t 20),none⟩]) (
.cond (.t 21) ( .seq ( .ops [] [⟨some 6,.mov (.c (.int .i64 1)),none⟩]) ( .ret)) ( .skip))) (
.seq (
.ops [] [⟨some 22,.mov (.t 1),none⟩,⟨some 23,.mkfn 31 [] [(.t 5)],none⟩,⟨some 24,.call (.c (.fn 30 [] [])) [(.t 22),(.t 23)],none⟩,⟨some 7,.mov (.t 24),none⟩]) (
.seq (
.seq (
.ops [] [⟨some 25,.mov (.t 7),none⟩,⟨some 26,.bin .lss (.t 25) (.c (.int .i64 0)),none⟩]) (
.cond (.t 26) ( .seq ( .ops [] [⟨some 6,.mov (.c (.int .i64 11)),none⟩]) ( .ret)) ( .skip))) (
.seq (
.ops [] [⟨some 27,.build [(.int .i64 0),(.int .i64 0),(.int .i64 0)] [],none⟩,⟨some 8,.alloc (some 3) (.agg [(.int .i64 0),(.int .i64 0),(.int .i64 0)]) none,none⟩,⟨none,.store 3 (.t 8) (.t 27),none⟩]) (
.seq (
.ops [] [⟨some 28,.fa 3 (.t 5),none⟩,⟨some 29,.load false 1 (.t 28),none⟩,⟨some 30,.bin .eql (.t 29) (.c (.int .i64 0)),none⟩,⟨some 31,.mov (.t 30),none⟩,⟨some 32,.fa 7 (.t 5),(some (31,true))⟩,⟨some 33,.load true 3 (.t 32),(some (31,true))⟩,⟨some 34,.load true 3 (.t 8),(some (31,true))⟩,⟨some 35,.eqs false [.int,.int,.int] (.t 33) (.t 34),(some (31,true))⟩,⟨some 36,.pick (.t 31) (.t 35) (.c (.bool false)),none⟩,⟨some 9,.mov (.t 36),none⟩]) (
.seq (
.block 0 ( .seq ( .ops [] [⟨some 38,.fa 0 (.t 5),none⟩,⟨some 39,.load false 1 (.t 38),none⟩,⟨some 40,.bin .eql (.t 39) (.c (.int .i64 1)),none⟩,⟨some 41,.mov (.t 40),none⟩,⟨some 42,.fa 2 (.t 5),(some (41,true))⟩,⟨some 43,.load false 1 (.t 42),(some (41,true))⟩,⟨some 44,.fa 3 (.t 5),(some (41,true))⟩,⟨some 45,.load false 1 (.t 44),(some (41,true))⟩,⟨some 46,.bin .lss (.t 43) (.t 45),(some (41,true))⟩,⟨some 47,.pick (.t 41) (.t 46) (.c (.bool false)),none⟩,⟨some 37,.mov (.t 47),none⟩]) ( .cond (.t 37) ( .seq ( .ops [] [⟨some 10,.mov (.c .nils),none⟩]) ( .seq ( .seq ( .ops [] [⟨some 48,.mov (.t 1),none⟩,⟨some 49,.len (.t 48),none⟩,⟨some 50,.mov (.c (.int .i64 0)),none⟩]) ( .block 1 ( .loop ( .seq ( .ops [] [⟨some 51,.bin .lss (.t 50) (.t 49),none⟩]) ( .seq ( .cond (.t 51) ( .skip) ( .exit 1)) ( .seq ( .block 2 ( .seq ( .ops [] [⟨some 52,.ia 7 (.t 48) (.t 50),none⟩,⟨some 53,.load true 7 (.t 52),none⟩,⟨some 12,.alloc (some 7) (.agg [(.int .i64 0),(.int .i64 0),(.int .i64 0),(.int .i64 0),.nils,(.int .i64 0),.nils]) none,none⟩,⟨none,.store 7 (.t 12) (.t 53),none⟩]) ( .seq ( .ops [] [⟨some 54,.fa 0 (.t 12),none⟩,⟨some 55,.load false 1 (.t 54),none⟩,⟨some 56,.fa 3 (.t 5),none⟩,⟨some 57,.load false 1 (.t 56),none⟩,⟨some 58,.bin .eql (.t 55) (.t 57),none⟩]) ( .cond (.t 58) ( .ops [] [⟨some 59,.mov (.t 10),none⟩,⟨some 60,.load true 7 (.t 12),none⟩,⟨some 61,.bsl none (some 7) (.agg [(.int .i64 0),(.int .i64 0),(.int .i64 0),(.int .i64 0),.nils,(.int .i64 0),.nils]) 1 [(0,(.t 60))],none⟩,⟨some 62,.app (some 7) 88 (.t 59) (.t 61),none⟩,⟨some 10,.mov (.t 62),none⟩]) ( .skip))))) ( .ops [] [⟨some 63,.bin .add (.t 50) (.c (.int .i64 1)),none⟩,⟨some 50,.mov (.t 63),none⟩]))))))) ( .seq ( .dops [] 0 [⟨some 64,.mov (.t 0),none⟩,⟨some 65,.mov (.t 10),none⟩,⟨some 66,.mov (.t 1),none⟩,⟨some 67,.mov (.t 7),none⟩,⟨some 68,.ia 7 (.t 66) (.t 67),none⟩,⟨some 69,.load true 7 (.t 68),none⟩,⟨some 70,.fa 3 (.t 5),none⟩,⟨some 71,.load false 1 (.t 70),none⟩,⟨some 72,.fa 4 (.t 5),none⟩,⟨some 73,.load true 3 (.t 72),none⟩,⟨some 74,.fa 7 (.t 5),none⟩,⟨some 75,.load true 3 (.t 74),none⟩,⟨some 76,.build [(.int .i64 0),(.int .i64 0),(.int .i64 0),(.int .i64 0),(.int .i64 0),(.int .i64 0),(.int .i64 0),(.int .i64 0)] [(0,1,(.c (.int .i64 15))),(1,1,(.t 71)),(2,3,(.t 73)),(5,3,(.t 75))],none⟩,⟨some 77,.call (.c (.fn 32 [] [])) [(.t 64),(.t 65),(.t 69),(.t 76)],none⟩,⟨some 6,.mov (.t 77),none⟩] []) ( .ret)))) ( .seq ( .ops [] [⟨some 79,.fa 0 (.t 5),none⟩,⟨some 80,.load false 1 (.t 79),none⟩,⟨some 81,.bin .eql (.t 80) (.c (.int .i64 3)),none⟩,⟨some 82,.mov (.t 81),none⟩,⟨some 83,.mov (.t 9),(some (82,true))⟩,⟨some 84,.pick (.t 82) (.t 83) (.c (.bool false)),none⟩,⟨some 78,.mov (.t 84),none⟩]) ( .cond (.t 78) ( .seq ( .dops [] 0 [⟨some 85,.mov (.t 0),none⟩,⟨some 86,.mov (.t 1),none⟩,⟨some 87,.mov (.t 7),none⟩,⟨some 88,.ia 7 (.t 86) (.t 87),none⟩,⟨some 89,.load true 7 (.t 88),none⟩,⟨some 90,.fa 4 (.t 5),none⟩,⟨some 91,.load true 3 (.t 90),none⟩,⟨some 92,.build [(.int .i64 0),(.int .i64 0),(.int .i64 0),(.int .i64 0),(.int .i64 0),(.int .i64 0),(.int .i64 0),(.int .i64 0)] [(0,1,(.c (.int .i64 16))),(2,3,(.t 91))],none⟩,⟨some 93,.call (.c (.fn 32 [] [])) [(.t 85),(.c .nils),(.t 89),(.t 92)],none⟩,⟨some 6,.mov (.t 93),none⟩] []) ( .ret)) ( .seq ( .ops [] [⟨some 95,.fa 0 (.t 5),none⟩,⟨some 96,.load false 1 (.t 95),none⟩,⟨some 97,.bin .eql (.t 96) (.c (.int .i64 4)),none⟩,⟨some 98,.mov (.t 97),none⟩,⟨some 99,.mov (.t 9),(some (98,true))⟩,⟨some 100,.pick (.t 98) (.t 99) (.c (.bool false)),none⟩,⟨some 101,.mov (.t 100),none⟩,⟨some 102,.fa 4 (.t 5),(some (101,true))⟩,⟨some 103,.load true 3 (.t 102),(some (101,true))⟩,⟨some 104,.load true 3 (.t 8),(some (101,true))⟩,⟨some 105,.eqs true [.int,.int,.int] (.t 103) (.t 104),(some (101,true))⟩,⟨some 106,.pick (.t 101) (.t 105) (.c (.bool false)),none⟩,⟨some 94,.mov (.t 106),none⟩]) ( .cond (.t 94) ( .seq ( .dops [] 0 [⟨some 107,.mov (.t 0),none⟩,⟨some 108,.mov (.t 1),none⟩,⟨some 109,.mov (.t 7),none⟩,⟨some 110,.call (.c (.fn 33 [] [])) [(.t 108),(.t 109)],none⟩,⟨some 111,.mov (.t 1),none⟩,⟨some 112,.mov (.t 7),none⟩,⟨some 113,.ia 7 (.t 111) (.t 112),none⟩,⟨some 114,.load true 7 (.t 113),none⟩,⟨some 115,.fa 4 (.t 5),none⟩,⟨some 116,.load true 3 (.t 115),none⟩,⟨some 117,.build [(.int .i64 0),(.int .i64 0),(.int .i64 0),(.int .i64 0),(.int .i64 0),(.int .i64 0),(.int .i64 0),(.int .i64 0)] [(0,1,(.c (.int .i64 14))),(2,3,(.t 116))],none⟩,⟨some 118,.call (.c (.fn 32 [] [])) [(.t 107),(.t 110),(.t 114),(.t 117)],none⟩,⟨some 6,.mov (.t 118),none⟩] []) ( .ret)) ( .skip)))))))) (
.seq (
.ops [] [⟨some 6,.mov (.c (.int .i64 11)),none⟩]) (
.ret))))))))⟩
def rf12 : RF := ⟨51,[.tmp 2,.tmp 3],.seq (
.ops [] [⟨some 2,.mov (.c .nils),none⟩,⟨some 3,.mov (.c (.int .i64 0)),none⟩]) (
.seq (
.seq (
.ops [] [⟨some 11,.mov (.t 0),none⟩,⟨some 12,.len (.t 11),none⟩,⟨some 13,.bin .gtr (.t 12) (.c (.int .i64 512)),none⟩]) (
.cond (.t 13) ( .seq ( .ops [] [⟨some 2,.mov (.c .nils),none⟩,⟨some 3,.mov (.c (.int .i64 2)),none⟩]) ( .ret)) ( .skip))) (
.seq (
.ops [] [⟨some 4,.mov (.c .nils),none⟩]) (
.seq (
.seq (
.ops [] [⟨some 14,.mov (.t 0),none⟩,⟨some 15,.len (.t 14),none⟩,⟨some 16,.mov (.c (.int .i64 0)),none⟩]) (
.block 0 ( .loop ( .seq ( .ops [] [⟨some 17,.bin .lss (.t 16) (.t 15),none⟩]) ( .seq ( .cond (.t 17) ( .skip) ( .exit 0)) ( .seq ( .block 1 ( .seq ( .ops [] [⟨some 18,.mov (.t 16),none⟩,⟨some 19,.ia 1 (.t 14) (.t 16),none⟩,⟨some 20,.load false 1 (.t 19),none⟩,⟨some 5,.mov (.t 18),none⟩,⟨some 6,.mov (.t 20),none⟩]) ( .seq ( .ops [] [⟨some 22,.mov (.t 6),none⟩,⟨some 23,.call (.c (.fn 34 [] [])) [(.t 22)],none⟩,⟨some 21,.mov (.t 23),none⟩,⟨some 24,.ext (.t 21) 0,none⟩,⟨some 25,.ext (.t 21) 1,none⟩,⟨some 7,.mov (.t 24),none⟩,⟨some 8,.mov (.t 25),none⟩]) ( .seq ( .seq ( .ops [] [⟨some 26,.mov (.t 8),none⟩,⟨some 27,.bin .neq (.t 26) (.c (.int .i64 0)),none⟩]) ( .cond (.t 27) ( .seq ( .ops [] [⟨some 28,.mov (.t 8),none⟩,⟨some 2,.mov (.c .nils),none⟩,⟨some 3,.mov (.t 28),none⟩]) ( .ret)) ( .skip))) ( .seq ( .ops [] [⟨some 29,.mov (.t 7),none⟩,⟨some 30,.len (.t 29),none⟩,⟨some 31,.mov (.c (.int .i64 0)),none⟩]) ( .block 2 ( .loop ( .seq ( .ops [] [⟨some 32,.bin .lss (.t 31) (.t 30),none⟩]) ( .seq ( .cond (.t 32) ( .skip) ( .exit 2)) ( .seq ( .block 3 ( .seq ( .ops [] [⟨some 33,.ia 8 (.t 29) (.t 31),none⟩,⟨some 34,.load true 8 (.t 33),none⟩,⟨some 10,.alloc (some 8) (.agg [(.int .i64 0),(.int .i64 0),(.int .i64 0),(.int .i64 0),(.int .i64 0),(.int .i64 0),(.int .i64 0),(.int .i64 0)]) none,none⟩,⟨none,.store 8 (.t 10) (.t 34),none⟩]) ( .ops [] [⟨some 35,.mov (.t 4),none⟩,⟨some 36,.mov (.t 5),none⟩,⟨some 37,.fa 0 (.t 10),none⟩,⟨some 38,.load false 1 (.t 37),none⟩,⟨some 39,.fa 1 (.t 10),none⟩,⟨some 40,.load false 1 (.t 39),none⟩,⟨some 41,.fa 2 (.t 10),none⟩,⟨some 42,.load true 3 (.t 41),none⟩,⟨some 43,.fa 5 (.t 10),none⟩,⟨some 44,.load true 3 (.t 43),none⟩,⟨some 45,.build [(.int .i64 0),(.int .i64 0),(.int .i64 0),(.int .i64 0),(.int .i64 0),(.int .i64 0),(.int .i64 0),(.int .i64 0),(.int .i64 0),(.int .i64 0)] [(0,1,(.c (.int .i64 2))),(1,1,(.t 36)),(2,1,(.t 38)),(3,1,(.t 40)),(4,3,(.t 42)),(7,3,(.t 44))],none⟩,⟨some 46,.bsl none (some 10) (.agg [(.int .i64 0),(.int .i64 0),(.int .i64 0),(.int .i64 0),(.int .i64 0),(.int .i64 0),(.int .i64 0),(.int .i64 0),(.int .i64 0),(.int .i64 0)]) 1 [(0,(.t 45))],none⟩,⟨some 47,.app (some 10) 80 (.t 35) (.t 46),none⟩,⟨some 4,.mov (.t 47),none⟩]))) ( .ops [] [⟨some 48,.bin .add (.t 31) (.c (.int .i64 1)),none⟩,⟨some 31,.mov (.t 48),none⟩]))))))))))) ( .ops [] [⟨some 49,.bin .add (.t 16) (.c (.int .i64 1)),none⟩,⟨some 16,.mov (.t 49),none⟩]))))))) (
.seq (
.ops [] [⟨some 50,.mov (.t 4),none⟩,⟨some 2,.mov (.t 50),none⟩,⟨some 3,.mov (.c (.int .i64 0)),none⟩]) (
.ret)))))⟩
def rf13 : RF := ⟨20,[.cell 6 true 3],.seq (
.ops [] [⟨some 6,.alloc (some 3) (.agg [.nils,(.int .i64 0),.nils]) none,none⟩]) (
.seq (
.ops [] [⟨some 8,.mov (.t 0),none⟩,⟨some 9,.bsl none none (.int .i64 0) 1 [(0,(.c (.int .i64 0)))],none⟩,⟨some 10,.build [.nils,(.int .i64 0),(.int .i64 0),.nils] [(2,1,(.t 8)),(3,1,(.t 9))],none⟩,⟨some 11,.bsl none (some 4) (.agg [.nils,(.int .i64 0),(.int .i64 0),.nils]) 1 [(0,(.t 10))],none⟩,⟨some 12,.bsl none none .nils 1 [(0,(.t 11))],none⟩,⟨some 13,.build [.nils] [(0,1,(.t 12))],none⟩,⟨some 7,.alloc (some 1) (.agg [.nils]) none,none⟩,⟨none,.store 1 (.t 7) (.t 13),none⟩]) (
.seq (
.ops [] [⟨some 14,.mov (.t 2),none⟩,⟨some 15,.load true 1 (.t 7),none⟩,⟨some 16,.mov (.t 1),none⟩,⟨some 17,.build [.nils,(.int .i64 0)] [(0,1,(.t 15)),(1,1,(.t 16))],none⟩,⟨some 18,.bsl none (some 2) (.agg [.nils,(.int .i64 0)]) 1 [(0,(.t 17))],none⟩,⟨some 19,.build [.nils,(.int .i64 0),.nils] [(1,1,(.t 14)),(0,1,(.t 18))],none⟩,⟨none,.store 3 (.t 6) (.t 19),none⟩]) (
.ret)))⟩
def rf14 : RF := ⟨47,[.tmp 4],.seq (
.ops [] [⟨some 4,.mov (.c .nils),none⟩]) (
.seq (
.ops [] [⟨some 13,.mkmap none,none⟩,⟨some 5,.mov (.t 13),none⟩]) (
.seq (
.seq (
.ops [] [⟨some 14,.mov (.t 1),none⟩,⟨some 15,.len (.t 14),none⟩,⟨some 16,.mov (.c (.int .i64 0)),none⟩]) (
.block 0 ( .loop ( .seq ( .ops [] [⟨some 17,.bin .lss (.t 16) (.t 15),none⟩]) ( .seq ( .cond (.t 17) ( .skip) ( .exit 0)) ( .seq ( .block 1 ( .seq ( .ops [] [⟨some 18,.mov (.t 16),none⟩,⟨some 19,.ia 10 (.t 14) (.t 16),none⟩,⟨some 20,.load true 10 (.t 19),none⟩,⟨some 7,.alloc (some 10) (.agg [(.int .i64 0),(.int .i64 0),(.int .i64 0),(.int .i64 0),(.int .i64 0),(.int .i64 0),(.int .i64 0),(.int .i64 0),(.int .i64 0),(.int .i64 0)]) none,none⟩,⟨some 6,.mov (.t 18),none⟩,⟨none,.store 10 (.t 7) (.t 20),none⟩]) ( .ops [] [⟨some 21,.mov (.t 5),none⟩,⟨some 22,.load true 10 (.t 7),none⟩,⟨some 23,.call (.c (.fn 35 [] [])) [(.t 22)],none⟩,⟨some 24,.mov (.t 6),none⟩,⟨none,.mupd true [.int,.int,.int,.int] (.t 21) (.t 23) (.t 24),none⟩]))) ( .ops [] [⟨some 25,.bin .add (.t 16) (.c (.int .i64 1)),none⟩,⟨some 16,.mov (.t 25),none⟩]))))))) (
.seq (
.ops [] [⟨some 8,.mov (.c .nils),none⟩]) (
.seq (
.seq (
.ops [] [⟨some 26,.mov (.t 0),none⟩,⟨some 27,.len (.t 26),none⟩,⟨some 28,.mov (.c (.int .i64 0)),none⟩]) (
.block 2 ( .loop ( .seq ( .ops [] [⟨some 29,.bin .lss (.t 28) (.t 27),none⟩]) ( .seq ( .cond (.t 29) ( .skip) ( .exit 2)) ( .seq ( .block 3 ( .seq ( .ops [] [⟨some 30,.ia 10 (.t 26) (.t 28),none⟩,⟨some 31,.load true 10 (.t 30),none⟩,⟨some 10,.alloc (some 10) (.agg [(.int .i64 0),(.int .i64 0),(.int .i64 0),(.int .i64 0),(.int .i64 0),(.int .i64 0),(.int .i64 0),(.int .i64 0),(.int .i64 0),(.int .i64 0)]) none,none⟩,⟨none,.store 10 (.t 10) (.t 31),none⟩]) ( .seq ( .ops [] [⟨some 33,.mov (.t 5),none⟩,⟨some 34,.load true 10 (.t 10),none⟩,⟨some 35,.call (.c (.fn 35 [] [])) [(.t 34)],none⟩,⟨some 36,.look true [.int,.int,.int,.int] (.int .i64 0) (.t 33) (.t 35) true,none⟩,⟨some 32,.mov (.t 36),none⟩,⟨some 37,.ext (.t 32) 0,none⟩,⟨some 38,.ext (.t 32) 1,none⟩,⟨some 11,.mov (.t 37),none⟩,⟨some 12,.mov (.t 38),none⟩]) ( .seq ( .ops [] [⟨some 39,.mov (.t 12),none⟩,⟨some 40,.un .not (.t 39),none⟩]) ( .cond (.t 40) ( .ops [] [⟨some 41,.mov (.t 8),none⟩,⟨some 42,.load true 10 (.t 10),none⟩,⟨some 43,.bsl none (some 10) (.agg [(.int .i64 0),(.int .i64 0),(.int .i64 0),(.int .i64 0),(.int .i64 0),(.int .i64 0),(.int .i64 0),(.int .i64 0),(.int .i64 0),(.int .i64 0)]) 1 [(0,(.t 42))],none⟩,⟨some 44,.app (some 10) 80 (.t 41) (.t 43),none⟩,⟨some 8,.mov (.t 44),none⟩]) ( .skip)))))) ( .ops [] [⟨some 45,.bin .add (.t 28) (.c (.int .i64 1)),none⟩,⟨some 28,.mov (.t 45),none⟩]))))))) (
.seq (
.ops [] [⟨some 46,.mov (.t 8),none⟩,⟨some 4,.mov (.t 46),none⟩]) (
.ret))))))⟩
def rf15 : RF := ⟨5,[.tmp 2],.seq (
.ops [] [⟨some 2,.mov (.c (.str (byts []))),none⟩]) (
.seq (
.ops [] [⟨some 3,.mov (.t 0),none⟩,⟨some 4,.call (.c (.fn 36 [] [])) [(.t 3)],none⟩,⟨some 2,.mov (.t 4),none⟩]) (
.ret))⟩
def rf16 : RF := ⟨4,[.cell 0 true 8],.seq (
.ops [] [⟨some 0,.alloc (some 8) (.agg [(.int .i64 0),.nils,(.int .i64 0),.nils,(.int .i64 0),.nils,(.int .i64 0),.nils]) none,none⟩]) (
.seq (
.ops [] [⟨some 1,.bsl none none (.int .i64 0) 1 [(0,(.c (.int .i64 7)))],none⟩,⟨some 2,.build [(.int .i64 0),.nils,(.int .i64 0),.nils] [(1,1,(.t 1)),(2,1,(.c (.int .i64 (-1))))],none⟩,⟨some 3,.build [(.int .i64 0),.nils,(.int .i64 0),.nils,(.int .i64 0),.nils,(.int .i64 0),.nils] [(0,4,(.t 2))],none⟩,⟨none,.store 8 (.t 0) (.t 3),none⟩]) (
.ret))⟩
def rf17 : RF := ⟨6,[.cell 0 true 1],.seq (
.ops [] [⟨some 0,.alloc (some 1) (.agg [.nils]) none,none⟩]) (
.seq (
.ops [] [⟨some 1,.bsl none none (.int .i64 0) 1 [(0,(.c (.int .i64 0)))],none⟩,⟨some 2,.build [.nils,(.int .i64 0),(.int .i64 0),.nils] [(2,1,(.c (.int .i64 1))),(3,1,(.t 1))],none⟩,⟨some 3,.bsl none (some 4) (.agg [.nils,(.int .i64 0),(.int .i64 0),.nils]) 1 [(0,(.t 2))],none⟩,⟨some 4,.bsl none none .nils 1 [(0,(.t 3))],none⟩,⟨some 5,.build [.nils] [(0,1,(.t 4))],none⟩,⟨none,.store 1 (.t 0) (.t 5),none⟩]) (
.ret))⟩
def rf18 : RF := ⟨23,[.tmp 2],.seq (
.ops [] [⟨some 2,.mov (.c (.int .i64 0)),none⟩]) (
.seq (
.ops [] [⟨some 3,.mov (.c (.fn 37 [] [])),none⟩]) (
.seq (
.seq (
.ops [] [⟨some 5,.mov (.t 0),none⟩,⟨some 6,.len (.t 5),none⟩,⟨some 7,.bin .gtr (.t 6) (.c (.int .i64 256)),none⟩,⟨some 8,.mov (.t 7),none⟩,⟨some 9,.mov (.t 0),(some (8,false))⟩,⟨some 10,.mov (.t 3),(some (8,false))⟩,⟨some 11,.call (.c (.fn 39 [] [])) [(.t 9),(.t 10)],(some (8,false))⟩,⟨some 12,.pick (.t 8) (.c (.bool true)) (.t 11),none⟩]) (
.cond (.t 12) ( .seq ( .ops [] [⟨some 2,.mov (.c (.int .i64 2)),none⟩]) ( .ret)) ( .skip))) (
.seq (
.seq (
.ops [] [⟨some 13,.mov (.t 0),none⟩,⟨some 14,.len (.t 13),none⟩,⟨some 15,.mov (.c (.int .i64 0)),none⟩]) (
.block 0 ( .loop ( .seq ( .ops [] [⟨some 16,.bin .lss (.t 15) (.t 14),none⟩]) ( .seq ( .cond (.t 16) ( .skip) ( .exit 0)) ( .seq ( .block 1 ( .seq ( .ops [] [⟨some 17,.mov (.t 15),none⟩,⟨some 4,.mov (.t 17),none⟩]) ( .seq ( .ops [] [⟨some 18,.mov (.t 0),none⟩,⟨some 19,.mov (.t 4),none⟩,⟨some 20,.call (.c (.fn 40 [] [])) [(.t 18),(.t 19)],none⟩,⟨some 21,.un .not (.t 20),none⟩]) ( .cond (.t 21) ( .seq ( .ops [] [⟨some 2,.mov (.c (.int .i64 1)),none⟩]) ( .ret)) ( .skip))))) ( .ops [] [⟨some 22,.bin .add (.t 15) (.c (.int .i64 1)),none⟩,⟨some 15,.mov (.t 22),none⟩]))))))) (
.seq (
.ops [] [⟨some 2,.mov (.c (.int .i64 0)),none⟩]) (
.ret)))))⟩
def rf19 : RF := ⟨72,[.tmp 4],.seq (
.ops [] [⟨some 4,.mov (.c (.bool false)),none⟩]) (
.seq (
.seq (
.ops [] [⟨some 7,.mov (.t 1),none⟩,⟨some 8,.len (.t 7),none⟩,⟨some 9,.mov (.c (.int .i64 0)),none⟩]) (
.block 0 ( .loop ( .seq ( .ops [] [⟨some 10,.bin .lss (.t 9) (.t 8),none⟩]) ( .seq ( .cond (.t 10) ( .skip) ( .exit 0)) ( .seq ( .block 1 ( .seq ( .ops [] [⟨some 11,.mov (.t 9),none⟩,⟨some 12,.ia 7 (.t 7) (.t 9),none⟩,⟨some 13,.load true 7 (.t 12),none⟩,⟨some 6,.alloc (some 7) (.agg [(.int .i64 0),(.int .i64 0),(.int .i64 0),(.int .i64 0),.nils,(.int .i64 0),.nils]) none,none⟩,⟨some 5,.mov (.t 11),none⟩,⟨none,.store 7 (.t 6) (.t 13),none⟩]) ( .block 2 ( .seq ( .seq ( .ops [] [⟨some 15,.fa 0 (.t 6),none⟩,⟨some 16,.load false 1 (.t 15),none⟩,⟨some 17,.bin .lss (.t 16) (.c (.int .i64 1)),none⟩,⟨some 14,.mov (.t 17),none⟩]) ( .cond (.t 14) ( .skip) ( .seq ( .ops [] [⟨some 18,.fa 1 (.t 6),none⟩,⟨some 19,.load false 1 (.t 18),none⟩,⟨some 20,.bin .lss (.t 19) (.c (.int .i64 0)),none⟩,⟨some 14,.mov (.t 20),none⟩]) ( .cond (.t 14) ( .skip) ( .seq ( .ops [] [⟨some 21,.fa 1 (.t 6),none⟩,⟨some 22,.load false 1 (.t 21),none⟩,⟨some 23,.mov (.t 0),none⟩,⟨some 24,.len (.t 23),none⟩,⟨some 25,.bin .geq (.t 22) (.t 24),none⟩,⟨some 14,.mov (.t 25),none⟩]) ( .cond (.t 14) ( .skip) ( .seq ( .ops [] [⟨some 26,.fa 2 (.t 6),none⟩,⟨some 27,.load false 1 (.t 26),none⟩,⟨some 28,.bin .lss (.t 27) (.c (.int .i64 0)),none⟩,⟨some 14,.mov (.t 28),none⟩]) ( .cond (.t 14) ( .skip) ( .seq ( .ops [] [⟨some 29,.fa 2 (.t 6),none⟩,⟨some 30,.load false 1 (.t 29),none⟩,⟨some 31,.bin .gtr (.t 30) (.c (.int .i64 63)),none⟩,⟨some 14,.mov (.t 31),none⟩]) ( .cond (.t 14) ( .skip) ( .seq ( .ops [] [⟨some 32,.fa 3 (.t 6),none⟩,⟨some 33,.load false 1 (.t 32),none⟩,⟨some 34,.bin .lss (.t 33) (.c (.int .i64 1)),none⟩,⟨some 14,.mov (.t 34),none⟩]) ( .cond (.t 14) ( .skip) ( .seq ( .ops [] [⟨some 35,.fa 3 (.t 6),none⟩,⟨some 36,.load false 1 (.t 35),none⟩,⟨some 37,.bin .gtr (.t 36) (.c (.int .i64 512)),none⟩,⟨some 14,.mov (.t 37),none⟩]) ( .cond (.t 14) ( .skip) ( .ops [] [⟨some 38,.fa 4 (.t 6),none⟩,⟨some 39,.load true 3 (.t 38),none⟩,⟨some 40,.call (.c (.fn 41 [] [])) [(.t 39)],none⟩,⟨some 41,.un .not (.t 40),none⟩,⟨some 14,.mov (.t 41),none⟩]))))))))))))))) ( .cond (.t 14) ( .seq ( .ops [] [⟨some 4,.mov (.c (.bool false)),none⟩]) ( .ret)) ( .seq ( .dops [] 0 [⟨some 43,.mov (.t 5),none⟩,⟨some 44,.bin .gtr (.t 43) (.c (.int .i64 0)),none⟩,⟨some 45,.mov (.t 44),none⟩,⟨some 46,.mov (.t 1),(some (45,true))⟩,⟨some 47,.mov (.t 5),(some (45,true))⟩,⟨some 48,.bin .sub (.t 47) (.c (.int .i64 1)),(some (45,true))⟩,⟨some 49,.ia 7 (.t 46) (.t 48),(some (45,true))⟩,⟨some 50,.fa 0 (.t 49),(some (45,true))⟩,⟨some 51,.load false 1 (.t 50),(some (45,true))⟩,⟨some 52,.fa 0 (.t 6),(some (45,true))⟩,⟨some 53,.load false 1 (.t 52),(some (45,true))⟩,⟨some 54,.call (.c (.fn 43 [] [])) [(.t 51),(.t 53)],(some (45,true))⟩,⟨some 55,.mov (.t 1),(some (45,true))⟩,⟨some 56,.mov (.t 5),(some (45,true))⟩,⟨some 57,.bin .sub (.t 56) (.c (.int .i64 1)),(some (45,true))⟩,⟨some 58,.ia 7 (.t 55) (.t 57),(some (45,true))⟩,⟨some 59,.fa 1 (.t 58),(some (45,true))⟩,⟨some 60,.load false 1 (.t 59),(some (45,true))⟩,⟨some 61,.fa 1 (.t 6),(some (45,true))⟩,⟨some 62,.load false 1 (.t 61),(some (45,true))⟩,⟨some 63,.call (.c (.fn 43 [] [])) [(.t 60),(.t 62)],(some (45,true))⟩,⟨some 64,.bsl none none (.int .i64 0) 2 [(0,(.t 54)),(1,(.t 63))],(some (45,true))⟩,⟨some 65,.call (.c (.fn 42 [] [])) [(.t 64)],(some (45,true))⟩,⟨some 66,.bin .geq (.t 65) (.c (.int .i64 0)),(some (45,true))⟩,⟨some 67,.pick (.t 45) (.t 66) (.c (.bool false)),none⟩,⟨some 42,.mov (.t 67),none⟩] []) ( .cond (.t 42) ( .seq ( .ops [] [⟨some 4,.mov (.c (.bool false)),none⟩]) ( .ret)) ( .skip)))))))) ( .ops [] [⟨some 68,.bin .add (.t 9) (.c (.int .i64 1)),none⟩,⟨some 9,.mov (.t 68),none⟩]))))))) (
.seq (
.ops [] [⟨some 69,.mov (.t 1),none⟩,⟨some 70,.len (.t 69),none⟩,⟨some 71,.bin .leq (.t 70) (.c (.int .i64 4096)),none⟩,⟨some 4,.mov (.t 71),none⟩]) (
.ret)))⟩
def rf20 : RF := ⟨47,[.tmp 4],.seq (
.ops [] [⟨some 4,.mov (.c (.int .i64 0)),none⟩]) (
.seq (
.ops [] [⟨some 9,.mov (.t 0),none⟩,⟨some 10,.nilchk (.t 9),none⟩,⟨some 11,.fa 1 (.t 10),none⟩,⟨some 12,.load false 1 (.t 11),none⟩,⟨some 13,.mov (.t 1),none⟩,⟨some 14,.ia 7 (.t 12) (.t 13),none⟩,⟨some 15,.load true 7 (.t 14),none⟩,⟨some 5,.alloc (some 7) (.agg [(.int .i64 0),(.int .i64 0),(.int .i64 0),(.int .i64 0),.nils,(.int .i64 0),.nils]) none,none⟩,⟨none,.store 7 (.t 5) (.t 15),none⟩]) (
.seq (
.dops [] 1 [⟨some 17,.mov (.t 0),none⟩,⟨some 18,.nilchk (.t 17),none⟩,⟨some 19,.fa 0 (.t 18),none⟩,⟨some 20,.load false 1 (.t 19),none⟩,⟨some 21,.fa 1 (.t 5),none⟩,⟨some 22,.load false 1 (.t 21),none⟩,⟨some 23,.ia 15 (.t 20) (.t 22),none⟩,⟨some 24,.fa 3 (.t 23),none⟩,⟨some 25,.load true 10 (.t 24),none⟩,⟨some 26,.fa 4 (.t 5),none⟩,⟨some 27,.load true 3 (.t 26),none⟩,⟨some 28,.call (.c (.fn 44 [] [])) [(.t 25),(.t 27)],none⟩,⟨some 16,.mov (.t 28),none⟩,⟨some 29,.ext (.t 16) 0,none⟩,⟨some 30,.ext (.t 16) 1,none⟩,⟨some 31,.ext (.t 16) 2,none⟩,⟨some 7,.alloc (some 3) (.agg [(.int .i64 0),(.int .i64 0),(.int .i64 0)]) (some 0),none⟩,⟨some 6,.mov (.t 29),none⟩,⟨none,.store 3 (.t 7) (.t 30),none⟩,⟨some 8,.mov (.t 31),none⟩] []) (
.seq (
.seq (
.ops [] [⟨some 32,.mov (.t 8),none⟩,⟨some 33,.bin .eql (.t 32) (.c (.int .i64 0)),none⟩,⟨some 34,.mov (.t 33),none⟩,⟨some 35,.mov (.t 6),(some (34,true))⟩,⟨some 36,.un .not (.t 35),(some (34,true))⟩,⟨some 37,.pick (.t 34) (.t 36) (.c (.bool false)),none⟩]) (
.cond (.t 37) ( .ops [] [⟨some 38,.mov (.t 0),none⟩,⟨some 39,.fa 1 (.t 5),none⟩,⟨some 40,.load false 1 (.t 39),none⟩,⟨some 41,.fa 0 (.t 5),none⟩,⟨some 42,.load false 1 (.t 41),none⟩,⟨some 43,.load true 3 (.t 7),none⟩,⟨some 44,.build [(.int .i64 0),(.int .i64 0),(.int .i64 0),(.int .i64 0),(.int .i64 0),(.int .i64 0),(.int .i64 0),(.int .i64 0),(.int .i64 0),(.int .i64 0)] [(0,1,(.c (.int .i64 3))),(1,1,(.t 40)),(2,1,(.t 42)),(4,3,(.t 43))],none⟩,⟨some 45,.call (.c (.fn 45 [] [])) [(.t 38),(.t 44)],none⟩]) ( .skip))) (
.seq (
.ops [] [⟨some 46,.mov (.t 8),none⟩,⟨some 4,.mov (.t 46),none⟩]) (
.ret)))))⟩
def rf21 : RF := ⟨131,[.tmp 4],.seq (
.ops [] [⟨some 4,.mov (.c (.int .i64 0)),none⟩]) (
.seq (
.ops [] [⟨some 18,.mov (.t 0),none⟩,⟨some 19,.nilchk (.t 18),none⟩,⟨some 20,.fa 1 (.t 19),none⟩,⟨some 21,.load false 1 (.t 20),none⟩,⟨some 22,.mov (.t 1),none⟩,⟨some 23,.ia 7 (.t 21) (.t 22),none⟩,⟨some 24,.load true 7 (.t 23),none⟩,⟨some 5,.alloc (some 7) (.agg [(.int .i64 0),(.int .i64 0),(.int .i64 0),(.int .i64 0),.nils,(.int .i64 0),.nils]) none,none⟩,⟨none,.store 7 (.t 5) (.t 24),none⟩]) (
.seq (
.ops [] [⟨some 25,.mov (.t 0),none⟩,⟨some 26,.load true 7 (.t 5),none⟩,⟨some 27,.call (.c (.fn 46 [] [])) [(.t 25),(.t 26)],none⟩,⟨some 6,.alloc (some 3) (.agg [.nils,(.int .i64 0),.nils]) none,none⟩,⟨none,.store 3 (.t 6) (.t 27),none⟩]) (
.seq (
.seq (
.ops [] [⟨some 28,.mov (.t 0),none⟩,⟨some 29,.nilchk (.t 28),none⟩,⟨some 30,.fa 1 (.t 29),none⟩,⟨some 31,.load false 1 (.t 30),none⟩,⟨some 32,.mov (.t 1),none⟩,⟨some 33,.slice 7 (.t 31) none (some (.t 32)) none,none⟩,⟨some 34,.len (.t 33),none⟩,⟨some 35,.mov (.c (.int .i64 0)),none⟩]) (
.block 0 ( .loop ( .seq ( .ops [] [⟨some 36,.bin .lss (.t 35) (.t 34),none⟩]) ( .seq ( .cond (.t 36) ( .skip) ( .exit 0)) ( .seq ( .block 1 ( .seq ( .ops [] [⟨some 37,.ia 7 (.t 33) (.t 35),none⟩,⟨some 38,.load true 7 (.t 37),none⟩,⟨some 8,.alloc (some 7) (.agg [(.int .i64 0),(.int .i64 0),(.int .i64 0),(.int .i64 0),.nils,(.int .i64 0),.nils]) none,none⟩,⟨none,.store 7 (.t 8) (.t 38),none⟩]) ( .seq ( .seq ( .dops [] 0 [⟨some 39,.fa 0 (.t 8),none⟩,⟨some 40,.load false 1 (.t 39),none⟩,⟨some 41,.fa 0 (.t 5),none⟩,⟨some 42,.load false 1 (.t 41),none⟩,⟨some 43,.bin .eql (.t 40) (.t 42),none⟩,⟨some 44,.mov (.t 43),none⟩,⟨some 45,.mov (.t 0),(some (44,false))⟩,⟨some 46,.nilchk (.t 45),(some (44,false))⟩,⟨some 47,.fa 0 (.t 46),(some (44,false))⟩,⟨some 48,.load false 1 (.t 47),(some (44,false))⟩,⟨some 49,.fa 1 (.t 8),(some (44,false))⟩,⟨some 50,.load false 1 (.t 49),(some (44,false))⟩,⟨some 51,.fa 1 (.t 5),(some (44,false))⟩,⟨some 52,.load false 1 (.t 51),(some (44,false))⟩,⟨some 53,.call (.c (.fn 47 [] [])) [(.t 48),(.t 50),(.t 52)],(some (44,false))⟩,⟨some 54,.un .not (.t 53),(some (44,false))⟩,⟨some 55,.pick (.t 44) (.c (.bool true)) (.t 54),none⟩] []) ( .cond (.t 55) ( .exit 1) ( .skip))) ( .seq ( .ops [] [⟨some 56,.mov (.t 0),none⟩,⟨some 57,.load true 7 (.t 8),none⟩,⟨some 58,.call (.c (.fn 46 [] [])) [(.t 56),(.t 57)],none⟩,⟨some 9,.alloc (some 3) (.agg [.nils,(.int .i64 0),.nils]) none,none⟩,⟨none,.store 3 (.t 9) (.t 58),none⟩]) ( .seq ( .seq ( .ops [] [⟨some 59,.load true 3 (.t 6),none⟩,⟨some 60,.call (.c (.fn 41 [] [])) [(.t 59)],none⟩,⟨some 61,.un .not (.t 60),none⟩,⟨some 62,.mov (.t 61),none⟩,⟨some 63,.load true 3 (.t 9),(some (62,false))⟩,⟨some 64,.call (.c (.fn 41 [] [])) [(.t 63)],(some (62,false))⟩,⟨some 65,.un .not (.t 64),(some (62,false))⟩,⟨some 66,.pick (.t 62) (.c (.bool true)) (.t 65),none⟩]) ( .cond (.t 66) ( .seq ( .ops [] [⟨some 4,.mov (.c (.int .i64 2)),none⟩]) ( .ret)) ( .skip))) ( .seq ( .ops [] [⟨some 68,.load true 3 (.t 9),none⟩,⟨some 69,.load true 3 (.t 6),none⟩,⟨some 70,.call (.c (.fn 48 [] [])) [(.t 68),(.t 69)],none⟩,⟨some 67,.mov (.t 70),none⟩,⟨some 71,.ext (.t 67) 0,none⟩,⟨some 72,.ext (.t 67) 1,none⟩,⟨some 10,.mov (.t 71),none⟩,⟨some 11,.mov (.t 72),none⟩]) ( .seq ( .seq ( .ops [] [⟨some 73,.mov (.t 11),none⟩,⟨some 74,.bin .neq (.t 73) (.c (.int .i64 0)),none⟩]) ( .cond (.t 74) ( .seq ( .ops [] [⟨some 75,.mov (.t 11),none⟩,⟨some 4,.mov (.t 75),none⟩]) ( .ret)) ( .skip))) ( .seq ( .seq ( .ops [] [⟨some 76,.mov (.t 10),none⟩,⟨some 77,.un .not (.t 76),none⟩]) ( .cond (.t 77) ( .exit 1) ( .skip))) ( .seq ( .ops [] [⟨some 78,.fa 1 (.t 8),none⟩,⟨some 79,.load false 1 (.t 78),none⟩,⟨some 80,.fa 0 (.t 8),none⟩,⟨some 81,.load false 1 (.t 80),none⟩,⟨some 82,.fa 0 (.t 5),none⟩,⟨some 83,.load false 1 (.t 82),none⟩,⟨some 84,.build [(.int .i64 0),(.int .i64 0),(.int .i64 0),(.int .i64 0),(.int .i64 0),(.int .i64 0),(.int .i64 0),(.int .i64 0),(.int .i64 0),(.int .i64 0)] [(0,1,(.c (.int .i64 1))),(1,1,(.t 79)),(2,1,(.t 81)),(3,1,(.t 83))],none⟩,⟨some 12,.alloc (some 10) (.agg [(.int .i64 0),(.int .i64 0),(.int .i64 0),(.int .i64 0),(.int .i64 0),(.int .i64 0),(.int .i64 0),(.int .i64 0),(.int .i64 0),(.int .i64 0)]) none,none⟩,⟨none,.store 10 (.t 12) (.t 84),none⟩]) ( .seq ( .seq ( .ops [] [⟨some 86,.load true 3 (.t 9),none⟩,⟨some 87,.load true 3 (.t 6),none⟩,⟨some 88,.call (.c (.fn 49 [] [])) [(.t 86),(.t 87),(.c (.int .i64 (-2251799813685248)))],none⟩,⟨some 85,.mov (.t 88),none⟩,⟨some 89,.ext (.t 85) 0,none⟩,⟨some 90,.ext (.t 85) 1,none⟩,⟨some 91,.ext (.t 85) 2,none⟩,⟨some 13,.alloc (some 3) (.agg [(.int .i64 0),(.int .i64 0),(.int .i64 0)]) none,none⟩,⟨some 14,.alloc (some 3) (.agg [(.int .i64 0),(.int .i64 0),(.int .i64 0)]) none,none⟩,⟨none,.store 3 (.t 13) (.t 89),none⟩,⟨none,.store 3 (.t 14) (.t 90),none⟩,⟨some 15,.mov (.t 91),none⟩]) ( .seq ( .ops [] [⟨some 92,.mov (.t 15),none⟩]) ( .cond (.t 92) ( .seq ( .dops [] 2 [⟨some 93,.mov (.t 0),none⟩,⟨some 94,.nilchk (.t 93),none⟩,⟨some 95,.fa 0 (.t 94),none⟩,⟨some 96,.load false 1 (.t 95),none⟩,⟨some 97,.fa 1 (.t 8),none⟩,⟨some 98,.load false 1 (.t 97),none⟩,⟨some 99,.ia 15 (.t 96) (.t 98),none⟩,⟨some 100,.load true 15 (.t 99),none⟩,⟨some 101,.mov (.t 0),none⟩,⟨some 102,.nilchk (.t 101),none⟩,⟨some 103,.fa 0 (.t 102),none⟩,⟨some 104,.load false 1 (.t 103),none⟩,⟨some 105,.fa 1 (.t 5),none⟩,⟨some 106,.load false 1 (.t 105),none⟩,⟨some 107,.ia 15 (.t 104) (.t 106),none⟩,⟨some 108,.load true 15 (.t 107),none⟩,⟨some 16,.alloc (some 15) (.agg [(.int .i64 0),(.int .i64 0),(.int .i64 0),(.int .i64 0),.nils,(.int .i64 0),.nils,(.int .i64 0),.nils,(.int .i64 0),.nils,.nils,.nils,.nils,.nils]) (some 0),none⟩,⟨some 17,.alloc (some 15) (.agg [(.int .i64 0),(.int .i64 0),(.int .i64 0),(.int .i64 0),.nils,(.int .i64 0),.nils,(.int .i64 0),.nils,(.int .i64 0),.nils,.nils,.nils,.nils,.nils]) (some 1),none⟩,⟨none,.store 15 (.t 16) (.t 100),none⟩,⟨none,.store 15 (.t 17) (.t 108),none⟩] [(11,18),(13,18),(15,18)]) ( .dops [] 0 [⟨some 109,.load true 3 (.t 13),none⟩,⟨some 110,.fa 1 (.t 16),none⟩,⟨some 111,.load false 1 (.t 110),none⟩,⟨some 112,.un .neg (.t 111),none⟩,⟨some 113,.fa 2 (.t 16),none⟩,⟨some 114,.load false 1 (.t 113),none⟩,⟨some 115,.un .neg (.t 114),none⟩,⟨some 116,.call (.c (.fn 50 [] [])) [(.t 109),(.t 112),(.t 115)],none⟩,⟨some 117,.load true 3 (.t 14),none⟩,⟨some 118,.fa 1 (.t 17),none⟩,⟨some 119,.load false 1 (.t 118),none⟩,⟨some 120,.un .neg (.t 119),none⟩,⟨some 121,.fa 2 (.t 17),none⟩,⟨some 122,.load false 1 (.t 121),none⟩,⟨some 123,.un .neg (.t 122),none⟩,⟨some 124,.call (.c (.fn 50 [] [])) [(.t 117),(.t 120),(.t 123)],none⟩,⟨some 125,.fa 4 (.t 12),none⟩,⟨none,.store 3 (.t 125) (.t 116),none⟩,⟨some 126,.fa 7 (.t 12),none⟩,⟨none,.store 3 (.t 126) (.t 124),none⟩] [])) ( .skip)))) ( .ops [] [⟨some 127,.mov (.t 0),none⟩,⟨some 128,.load true 10 (.t 12),none⟩,⟨some 129,.call (.c (.fn 45 [] [])) [(.t 127),(.t 128)],none⟩]))))))))))) ( .ops [] [⟨some 130,.bin .add (.t 35) (.c (.int .i64 1)),none⟩,⟨some 35,.mov (.t 130),none⟩]))))))) (
.seq (
.ops [] [⟨some 4,.mov (.c (.int .i64 0)),none⟩]) (
.ret)))))⟩
def rf22 : RF := ⟨53,[.tmp 4],.seq (
.ops [] [⟨some 4,.mov (.c (.int .i64 0)),none⟩]) (
.seq (
.ops [] [⟨some 8,.mov (.t 0),none⟩,⟨some 9,.nilchk (.t 8),none⟩,⟨some 10,.fa 1 (.t 9),none⟩,⟨some 11,.load false 1 (.t 10),none⟩,⟨some 12,.mov (.t 1),none⟩,⟨some 13,.ia 7 (.t 11) (.t 12),none⟩,⟨some 14,.load true 7 (.t 13),none⟩,⟨some 5,.alloc (some 7) (.agg [(.int .i64 0),(.int .i64 0),(.int .i64 0),(.int .i64 0),.nils,(.int .i64 0),.nils]) none,none⟩,⟨none,.store 7 (.t 5) (.t 14),none⟩]) (
.seq (
.dops [] 1 [⟨some 16,.mov (.t 0),none⟩,⟨some 17,.nilchk (.t 16),none⟩,⟨some 18,.fa 0 (.t 17),none⟩,⟨some 19,.load false 1 (.t 18),none⟩,⟨some 20,.mov (.t 0),none⟩,⟨some 21,.nilchk (.t 20),none⟩,⟨some 22,.fa 1 (.t 21),none⟩,⟨some 23,.load false 1 (.t 22),none⟩,⟨some 24,.mov (.t 1),none⟩,⟨some 25,.call (.c (.fn 33 [] [])) [(.t 23),(.t 24)],none⟩,⟨some 26,.load true 7 (.t 5),none⟩,⟨some 27,.call (.c (.fn 51 [] [])) [(.t 19),(.t 25),(.t 26)],none⟩,⟨some 15,.mov (.t 27),none⟩,⟨some 28,.ext (.t 15) 0,none⟩,⟨some 29,.ext (.t 15) 1,none⟩,⟨some 6,.alloc (some 8) (.agg [(.int .i64 0),(.int .i64 0),(.int .i64 0),(.int .i64 0),(.int .i64 0),(.int .i64 0),(.int .i64 0),(.int .i64 0)]) (some 0),none⟩,⟨none,.store 8 (.t 6) (.t 28),none⟩,⟨some 7,.mov (.t 29),none⟩] []) (
.seq (
.seq (
.ops [] [⟨some 30,.mov (.t 7),none⟩,⟨some 31,.bin .eql (.t 30) (.c (.int .i64 0)),none⟩,⟨some 32,.mov (.t 31),none⟩,⟨some 33,.fa 0 (.t 6),(some (32,true))⟩,⟨some 34,.load false 1 (.t 33),(some (32,true))⟩,⟨some 35,.bin .eql (.t 34) (.c (.int .i64 14)),(some (32,true))⟩,⟨some 36,.pick (.t 32) (.t 35) (.c (.bool false)),none⟩,⟨some 37,.mov (.t 36),none⟩,⟨some 38,.fa 2 (.t 6),(some (37,true))⟩,⟨some 39,.load true 3 (.t 38),(some (37,true))⟩,⟨some 40,.build [(.int .i64 0),(.int .i64 0),(.int .i64 0)] [],(some (37,true))⟩,⟨some 41,.eqs true [.int,.int,.int] (.t 39) (.t 40),(some (37,true))⟩,⟨some 42,.pick (.t 37) (.t 41) (.c (.bool false)),none⟩]) (
.cond (.t 42) ( .ops [] [⟨some 43,.mov (.t 0),none⟩,⟨some 44,.fa 1 (.t 5),none⟩,⟨some 45,.load false 1 (.t 44),none⟩,⟨some 46,.fa 0 (.t 5),none⟩,⟨some 47,.load false 1 (.t 46),none⟩,⟨some 48,.fa 2 (.t 6),none⟩,⟨some 49,.load true 3 (.t 48),none⟩,⟨some 50,.build [(.int .i64 0),(.int .i64 0),(.int .i64 0),(.int .i64 0),(.int .i64 0),(.int .i64 0),(.int .i64 0),(.int .i64 0),(.int .i64 0),(.int .i64 0)] [(0,1,(.c (.int .i64 4))),(1,1,(.t 45)),(2,1,(.t 47)),(4,3,(.t 49))],none⟩,⟨some 51,.call (.c (.fn 45 [] [])) [(.t 43),(.t 50)],none⟩]) ( .skip))) (
.seq (
.ops [] [⟨some 52,.mov (.t 7),none⟩,⟨some 4,.mov (.t 52),none⟩]) (
.ret)))))⟩
def rf23 : RF := ⟨12,[.tmp 4],.seq (
.ops [] [⟨some 4,.mov (.c .nils),none⟩]) (
.seq (
.ops [] [⟨some 6,.mov (.t 0),none⟩,⟨some 7,.call (.c (.fn 52 [] [])) [(.t 6)],none⟩,⟨some 5,.mov (.t 7),none⟩]) (
.seq (
.ops [] [⟨some 8,.mov (.t 5),none⟩,⟨some 9,.mov (.t 1),none⟩,⟨some 10,.call (.c (.fn 53 [] [])) [(.t 8),(.t 9)],none⟩]) (
.seq (
.ops [] [⟨some 11,.mov (.t 5),none⟩,⟨some 4,.mov (.t 11),none⟩]) (
.ret))))⟩
def rf24 : RF := ⟨4,[.tmp 2],.seq (
.ops [] [⟨some 1,.box none (.t 0) none,none⟩,⟨some 2,.mov (.c .nilf),none⟩]) (
.seq (
.ops [] [⟨some 3,.mkfn 54 [] [(.t 1)],none⟩,⟨some 2,.mov (.t 3),none⟩]) (
.ret))⟩
def rf25 : RF := ⟨27,[.tmp 4],.seq (
.ops [] [⟨some 2,.box (some 4) (.t 0) none,none⟩,⟨some 3,.box (some 4) (.t 1) none,none⟩,⟨some 4,.mov (.c (.int .i64 0)),none⟩]) (
.seq (
.dops [] 0 [⟨some 5,.fa 0 (.t 2),none⟩,⟨some 6,.load false 1 (.t 5),none⟩,⟨some 7,.fa 0 (.t 3),none⟩,⟨some 8,.load false 1 (.t 7),none⟩,⟨some 9,.call (.c (.fn 43 [] [])) [(.t 6),(.t 8)],none⟩,⟨some 10,.fa 1 (.t 2),none⟩,⟨some 11,.load false 1 (.t 10),none⟩,⟨some 12,.fa 1 (.t 3),none⟩,⟨some 13,.load false 1 (.t 12),none⟩,⟨some 14,.call (.c (.fn 43 [] [])) [(.t 11),(.t 13)],none⟩,⟨some 15,.fa 2 (.t 2),none⟩,⟨some 16,.load false 1 (.t 15),none⟩,⟨some 17,.fa 2 (.t 3),none⟩,⟨some 18,.load false 1 (.t 17),none⟩,⟨some 19,.call (.c (.fn 43 [] [])) [(.t 16),(.t 18)],none⟩,⟨some 20,.fa 3 (.t 2),none⟩,⟨some 21,.load false 1 (.t 20),none⟩,⟨some 22,.fa 3 (.t 3),none⟩,⟨some 23,.load false 1 (.t 22),none⟩,⟨some 24,.call (.c (.fn 43 [] [])) [(.t 21),(.t 23)],none⟩,⟨some 25,.bsl none none (.int .i64 0) 4 [(0,(.t 9)),(1,(.t 14)),(2,(.t 19)),(3,(.t 24))],none⟩,⟨some 26,.call (.c (.fn 42 [] [])) [(.t 25)],none⟩,⟨some 4,.mov (.t 26),none⟩] []) (
.ret))⟩
def rf26 : RF := ⟨11,[],.seq (
.ops [] [⟨some 3,.mov (.t 0),none⟩,⟨some 4,.len (.t 3),none⟩,⟨some 2,.mov (.t 4),none⟩]) (
.ops [] [⟨some 5,.mov (.t 0),none⟩,⟨some 6,.mov (.t 2),none⟩,⟨some 7,.mov (.t 2),none⟩,⟨some 8,.conv .u64 (.t 7),none⟩,⟨some 9,.call (.c (.fn 56 [] [])) [(.t 8)],none⟩,⟨some 10,.call (.c (.fn 55 [] [])) [(.t 5),(.c (.int .i64 0)),(.t 6),(.t 9)],none⟩])⟩
def rf27 : RF := ⟨61,[.tmp 2],.seq (
.ops [] [⟨some 2,.mov (.c .nils),none⟩]) (
.seq (
.seq (
.ops [] [⟨some 6,.mov (.t 0),none⟩,⟨some 7,.len (.t 6),none⟩,⟨some 8,.bin .lss (.t 7) (.c (.int .i64 2)),none⟩]) (
.cond (.t 8) ( .seq ( .ops [] [⟨some 9,.mov (.t 0),none⟩,⟨some 2,.mov (.t 9),none⟩]) ( .ret)) ( .skip))) (
.seq (
.seq (
.ops [] [⟨some 3,.mov (.c (.int .i64 1)),none⟩]) (
.block 0 ( .loop ( .seq ( .seq ( .ops [] [⟨some 10,.mov (.t 3),none⟩,⟨some 11,.mov (.t 0),none⟩,⟨some 12,.len (.t 11),none⟩,⟨some 13,.bin .lss (.t 10) (.t 12),none⟩]) ( .cond (.t 13) ( .skip) ( .exit 0))) ( .seq ( .block 1 ( .seq ( .dops [] 0 [⟨some 16,.mov (.t 0),none⟩,⟨some 17,.mov (.t 3),none⟩,⟨some 18,.ia 1 (.t 16) (.t 17),none⟩,⟨some 19,.load false 1 (.t 18),none⟩,⟨some 20,.mov (.t 0),none⟩,⟨some 21,.mov (.t 3),none⟩,⟨some 22,.bin .sub (.t 21) (.c (.int .i64 1)),none⟩,⟨some 23,.ia 1 (.t 20) (.t 22),none⟩,⟨some 24,.load false 1 (.t 23),none⟩,⟨some 25,.bin .eql (.t 19) (.t 24),none⟩] []) ( .cond (.t 25) ( .seq ( .ops [] [⟨some 26,.mov (.t 0),none⟩,⟨some 27,.mov (.t 3),none⟩,⟨some 28,.slice 1 (.t 26) (some (.t 27)) none none,none⟩,⟨some 4,.mov (.t 28),none⟩]) ( .seq ( .seq ( .ops [] [⟨some 5,.mov (.c (.int .i64 1)),none⟩]) ( .block 2 ( .loop ( .seq ( .seq ( .ops [] [⟨some 29,.mov (.t 5),none⟩,⟨some 30,.mov (.t 4),none⟩,⟨some 31,.len (.t 30),none⟩,⟨some 32,.bin .lss (.t 29) (.t 31),none⟩]) ( .cond (.t 32) ( .skip) ( .exit 2))) ( .seq ( .block 3 ( .seq ( .dops [] 0 [⟨some 35,.mov (.t 4),none⟩,⟨some 36,.mov (.t 5),none⟩,⟨some 37,.ia 1 (.t 35) (.t 36),none⟩,⟨some 38,.load false 1 (.t 37),none⟩,⟨some 39,.mov (.t 4),none⟩,⟨some 40,.mov (.t 5),none⟩,⟨some 41,.bin .sub (.t 40) (.c (.int .i64 1)),none⟩,⟨some 42,.ia 1 (.t 39) (.t 41),none⟩,⟨some 43,.load false 1 (.t 42),none⟩,⟨some 44,.bin .neq (.t 38) (.t 43),none⟩] []) ( .cond (.t 44) ( .seq ( .ops [] [⟨some 45,.mov (.t 0),none⟩,⟨some 46,.mov (.t 3),none⟩,⟨some 47,.mov (.t 4),none⟩,⟨some 48,.mov (.t 5),none⟩,⟨some 49,.ia 1 (.t 47) (.t 48),none⟩,⟨some 50,.load false 1 (.t 49),none⟩,⟨some 51,.ia 1 (.t 45) (.t 46),none⟩,⟨none,.store 1 (.t 51) (.t 50),none⟩]) ( .ops [] [⟨some 52,.mov (.t 3),none⟩,⟨some 53,.bin .add (.t 52) (.c (.int .i64 1)),none⟩,⟨some 3,.mov (.t 53),none⟩])) ( .skip)))) ( .ops [] [⟨some 33,.mov (.t 5),none⟩,⟨some 34,.bin .add (.t 33) (.c (.int .i64 1)),none⟩,⟨some 5,.mov (.t 34),none⟩])))))) ( .seq ( .ops [] [⟨some 54,.mov (.t 0),none⟩,⟨some 55,.mov (.t 3),none⟩,⟨some 56,.slice 1 (.t 54) (some (.t 55)) none none,none⟩,⟨none,.clr none (.int .i64 0) (.t 56),none⟩]) ( .seq ( .ops [] [⟨some 57,.mov (.t 0),none⟩,⟨some 58,.mov (.t 3),none⟩,⟨some 59,.slice 1 (.t 57) none (some (.t 58)) none,none⟩,⟨some 2,.mov (.t 59),none⟩]) ( .ret))))) ( .skip)))) ( .ops [] [⟨some 14,.mov (.t 3),none⟩,⟨some 15,.bin .add (.t 14) (.c (.int .i64 1)),none⟩,⟨some 3,.mov (.t 15),none⟩])))))) (
.seq (
.ops [] [⟨some 60,.mov (.t 0),none⟩,⟨some 2,.mov (.t 60),none⟩]) (
.ret))))⟩
def rf28 : RF := ⟨42,[.tmp 4],.seq (
.ops [] [⟨some 4,.mov (.c .nils),none⟩]) (
.seq (
.ops [] [⟨some 8,.mov (.t 0),none⟩,⟨some 9,.mov (.t 1),none⟩,⟨some 10,.call (.c (.fn 57 [] [])) [(.t 8),(.t 9)],none⟩,⟨some 5,.mov (.t 10),none⟩]) (
.seq (
.seq (
.ops [] [⟨some 11,.mov (.t 5),none⟩,⟨some 12,.bin .eql (.t 11) (.c (.int .i64 (-1))),none⟩]) (
.cond (.t 12) ( .seq ( .ops [] [⟨some 13,.mov (.t 0),none⟩,⟨some 4,.mov (.t 13),none⟩]) ( .ret)) ( .skip))) (
.seq (
.seq (
.ops [] [⟨some 14,.mov (.t 5),none⟩,⟨some 15,.bin .add (.t 14) (.c (.int .i64 1)),none⟩,⟨some 6,.mov (.t 15),none⟩]) (
.block 0 ( .loop ( .seq ( .seq ( .ops [] [⟨some 16,.mov (.t 6),none⟩,⟨some 17,.mov (.t 0),none⟩,⟨some 18,.len (.t 17),none⟩,⟨some 19,.bin .lss (.t 16) (.t 18),none⟩]) ( .cond (.t 19) ( .skip) ( .exit 0))) ( .seq ( .block 1 ( .seq ( .ops [] [⟨some 22,.mov (.t 0),none⟩,⟨some 23,.mov (.t 6),none⟩,⟨some 24,.ia 1 (.t 22) (.t 23),none⟩,⟨some 25,.load false 1 (.t 24),none⟩,⟨some 7,.mov (.t 25),none⟩]) ( .seq ( .ops [] [⟨some 26,.mov (.t 1),none⟩,⟨some 27,.mov (.t 7),none⟩,⟨some 28,.call (.t 26) [(.t 27)],none⟩,⟨some 29,.un .not (.t 28),none⟩]) ( .cond (.t 29) ( .seq ( .ops [] [⟨some 30,.mov (.t 0),none⟩,⟨some 31,.mov (.t 5),none⟩,⟨some 32,.mov (.t 7),none⟩,⟨some 33,.ia 1 (.t 30) (.t 31),none⟩,⟨none,.store 1 (.t 33) (.t 32),none⟩]) ( .ops [] [⟨some 34,.mov (.t 5),none⟩,⟨some 35,.bin .add (.t 34) (.c (.int .i64 1)),none⟩,⟨some 5,.mov (.t 35),none⟩])) ( .skip))))) ( .ops [] [⟨some 20,.mov (.t 6),none⟩,⟨some 21,.bin .add (.t 20) (.c (.int .i64 1)),none⟩,⟨some 6,.mov (.t 21),none⟩])))))) (
.seq (
.ops [] [⟨some 36,.mov (.t 0),none⟩,⟨some 37,.mov (.t 5),none⟩,⟨some 38,.slice 1 (.t 36) (some (.t 37)) none none,none⟩,⟨none,.clr none (.int .i64 0) (.t 38),none⟩]) (
.seq (
.ops [] [⟨some 39,.mov (.t 0),none⟩,⟨some 40,.mov (.t 5),none⟩,⟨some 41,.slice 1 (.t 39) none (some (.t 40)) none,none⟩,⟨some 4,.mov (.t 41),none⟩]) (
.ret))))))⟩
def rf29 : RF := ⟨5,[.tmp 2],.seq (
.ops [] [⟨some 2,.mov (.c (.bool false)),none⟩]) (
.seq (
.ops [] [⟨some 3,.mov (.t 0),none⟩,⟨some 4,.bin .eql (.t 3) (.c (.int .i64 0)),none⟩,⟨some 2,.mov (.t 4),none⟩]) (
.ret))⟩
def rf30 : RF := ⟨19,[.tmp 4],.seq (
.ops [] [⟨some 4,.mov (.c (.int .i64 0)),none⟩]) (
.seq (
.seq (
.ops [] [⟨some 6,.mov (.t 0),none⟩,⟨some 7,.len (.t 6),none⟩,⟨some 8,.mov (.c (.int .i64 0)),none⟩]) (
.block 0 ( .loop ( .seq ( .ops [] [⟨some 9,.bin .lss (.t 8) (.t 7),none⟩]) ( .seq ( .cond (.t 9) ( .skip) ( .exit 0)) ( .seq ( .block 1 ( .seq ( .ops [] [⟨some 10,.mov (.t 8),none⟩,⟨some 5,.mov (.t 10),none⟩]) ( .seq ( .ops [] [⟨some 11,.mov (.t 1),none⟩,⟨some 12,.mov (.t 0),none⟩,⟨some 13,.mov (.t 5),none⟩,⟨some 14,.ia 7 (.t 12) (.t 13),none⟩,⟨some 15,.load true 7 (.t 14),none⟩,⟨some 16,.call (.t 11) [(.t 15)],none⟩]) ( .cond (.t 16) ( .seq ( .ops [] [⟨some 17,.mov (.t 5),none⟩,⟨some 4,.mov (.t 17),none⟩]) ( .ret)) ( .skip))))) ( .ops [] [⟨some 18,.bin .add (.t 8) (.c (.int .i64 1)),none⟩,⟨some 8,.mov (.t 18),none⟩]))))))) (
.seq (
.ops [] [⟨some 4,.mov (.c (.int .i64 (-1))),none⟩]) (
.ret)))⟩
def rf31 : RF := ⟨16,[.tmp 3],.seq (
.ops [] [⟨some 2,.box (some 7) (.t 0) none,none⟩,⟨some 3,.mov (.c (.bool false)),none⟩]) (
.seq (
.ops [] [⟨some 4,.fa 0 (.t 2),none⟩,⟨some 5,.load false 1 (.t 4),none⟩,⟨some 6,.fa 2 (.t 1),none⟩,⟨some 7,.load false 1 (.t 6),none⟩,⟨some 8,.bin .eql (.t 5) (.t 7),none⟩,⟨some 9,.mov (.t 8),none⟩,⟨some 10,.fa 1 (.t 2),(some (9,true))⟩,⟨some 11,.load false 1 (.t 10),(some (9,true))⟩,⟨some 12,.fa 1 (.t 1),(some (9,true))⟩,⟨some 13,.load false 1 (.t 12),(some (9,true))⟩,⟨some 14,.bin .eql (.t 11) (.t 13),(some (9,true))⟩,⟨some 15,.pick (.t 9) (.t 14) (.c (.bool false)),none⟩,⟨some 3,.mov (.t 15),none⟩]) (
.ret))⟩
def rf32 : RF := ⟨24,[.tmp 8],.seq (
.ops [] [⟨some 6,.box (some 7) (.t 2) none,none⟩,⟨some 7,.box (some 8) (.t 3) none,none⟩,⟨some 8,.mov (.c (.int .i64 0)),none⟩]) (
.seq (
.ops [] [⟨some 12,.mov (.t 0),none⟩,⟨some 13,.mov (.t 1),none⟩,⟨some 14,.load true 7 (.t 6),none⟩,⟨some 15,.call (.c (.fn 58 [] [])) [(.t 12),(.t 13),(.t 14)],none⟩,⟨some 11,.mov (.t 15),none⟩,⟨some 16,.ext (.t 11) 0,none⟩,⟨some 17,.ext (.t 11) 1,none⟩,⟨some 9,.mov (.t 16),none⟩,⟨some 10,.mov (.t 17),none⟩]) (
.seq (
.seq (
.ops [] [⟨some 18,.mov (.t 10),none⟩,⟨some 19,.un .not (.t 18),none⟩]) (
.cond (.t 19) ( .seq ( .ops [] [⟨some 8,.mov (.c (.int .i64 1)),none⟩]) ( .ret)) ( .skip))) (
.seq (
.seq (
.ops [] [⟨some 20,.mov (.t 9),none⟩,⟨some 21,.load true 8 (.t 7),none⟩,⟨some 22,.call (.c (.fn 59 [] [])) [(.t 20),(.t 21)],none⟩,⟨some 23,.un .not (.t 22),none⟩]) (
.cond (.t 23) ( .seq ( .ops [] [⟨some 8,.mov (.c (.int .i64 11)),none⟩]) ( .ret)) ( .skip))) (
.seq (
.ops [] [⟨some 8,.mov (.c (.int .i64 0)),none⟩]) (
.ret)))))⟩
def rf33 : RF := ⟨40,[.tmp 4],.seq (
.ops [] [⟨some 4,.mov (.c .nils),none⟩]) (
.seq (
.ops [] [⟨some 5,.mov (.c .nils),none⟩]) (
.seq (
.seq (
.ops [] [⟨some 8,.mov (.t 0),none⟩,⟨some 9,.mov (.t 1),none⟩,⟨some 10,.slice 7 (.t 8) none (some (.t 9)) none,none⟩,⟨some 11,.len (.t 10),none⟩,⟨some 12,.mov (.c (.int .i64 0)),none⟩]) (
.block 0 ( .loop ( .seq ( .ops [] [⟨some 13,.bin .lss (.t 12) (.t 11),none⟩]) ( .seq ( .cond (.t 13) ( .skip) ( .exit 0)) ( .seq ( .block 1 ( .seq ( .ops [] [⟨some 14,.ia 7 (.t 10) (.t 12),none⟩,⟨some 15,.load true 7 (.t 14),none⟩,⟨some 7,.alloc (some 7) (.agg [(.int .i64 0),(.int .i64 0),(.int .i64 0),(.int .i64 0),.nils,(.int .i64 0),.nils]) none,none⟩,⟨none,.store 7 (.t 7) (.t 15),none⟩]) ( .seq ( .dops [] 0 [⟨some 16,.fa 1 (.t 7),none⟩,⟨some 17,.load false 1 (.t 16),none⟩,⟨some 18,.mov (.t 0),none⟩,⟨some 19,.mov (.t 1),none⟩,⟨some 20,.ia 7 (.t 18) (.t 19),none⟩,⟨some 21,.fa 1 (.t 20),none⟩,⟨some 22,.load false 1 (.t 21),none⟩,⟨some 23,.bin .eql (.t 17) (.t 22),none⟩,⟨some 24,.mov (.t 23),none⟩,⟨some 25,.fa 2 (.t 7),(some (24,true))⟩,⟨some 26,.load false 1 (.t 25),(some (24,true))⟩,⟨some 27,.mov (.t 0),(some (24,true))⟩,⟨some 28,.mov (.t 1),(some (24,true))⟩,⟨some 29,.ia 7 (.t 27) (.t 28),(some (24,true))⟩,⟨some 30,.fa 2 (.t 29),(some (24,true))⟩,⟨some 31,.load false 1 (.t 30),(some (24,true))⟩,⟨some 32,.bin .eql (.t 26) (.t 31),(some (24,true))⟩,⟨some 33,.pick (.t 24) (.t 32) (.c (.bool false)),none⟩] []) ( .cond (.t 33) ( .ops [] [⟨some 34,.mov (.t 5),none⟩,⟨some 35,.load true 7 (.t 7),none⟩,⟨some 36,.bsl none (some 7) (.agg [(.int .i64 0),(.int .i64 0),(.int .i64 0),(.int .i64 0),.nils,(.int .i64 0),.nils]) 1 [(0,(.t 35))],none⟩,⟨some 37,.app (some 7) 88 (.t 34) (.t 36),none⟩,⟨some 5,.mov (.t 37),none⟩]) ( .skip))))) ( .ops [] [⟨some 38,.bin .add (.t 12) (.c (.int .i64 1)),none⟩,⟨some 12,.mov (.t 38),none⟩]))))))) (
.seq (
.ops [] [⟨some 39,.mov (.t 5),none⟩,⟨some 4,.mov (.t 39),none⟩]) (
.ret))))⟩ end Go.S32
