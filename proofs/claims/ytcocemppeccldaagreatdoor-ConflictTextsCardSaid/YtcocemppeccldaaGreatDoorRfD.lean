/- Functions of the program as abstract code: that they are such is proved in the texts C. -/
import Derived.Test.YtcocemppeccldaaGreatDoorAiF
set_option linter.unusedVariables false
set_option linter.unusedSimpArgs false
set_option maxRecDepth 100000
namespace Go.S32
open Go Go.Ai def rf117 : RF := ⟨73,[.tmp 4],.seq (
.ops [] [⟨some 2,.box (some 3) (.t 0) none,none⟩,⟨some 4,.mov (.c .nils),none⟩]) (
.seq (
.ops [] [⟨some 5,.mov (.c .nils),none⟩]) (
.seq (
.seq (
.ops [] [⟨some 13,.fa 0 (.t 2),none⟩,⟨some 14,.load false 1 (.t 13),none⟩,⟨some 15,.len (.t 14),none⟩,⟨some 16,.mov (.c (.int .i64 0)),none⟩]) (
.block 0 ( .loop ( .seq ( .ops [] [⟨some 17,.bin .lss (.t 16) (.t 15),none⟩]) ( .seq ( .cond (.t 17) ( .skip) ( .exit 0)) ( .seq ( .block 1 ( .seq ( .ops [] [⟨some 18,.ia 2 (.t 14) (.t 16),none⟩,⟨some 19,.load true 2 (.t 18),none⟩,⟨some 7,.alloc (some 2) (.agg [.nils,(.int .i64 0)]) none,none⟩,⟨none,.store 2 (.t 7) (.t 19),none⟩]) ( .seq ( .ops [] [⟨some 21,.mov (.t 1),none⟩,⟨some 22,.bin .mul (.t 21) (.c (.int .i64 10080)),none⟩,⟨some 23,.fa 1 (.t 7),none⟩,⟨some 24,.load false 1 (.t 23),none⟩,⟨some 25,.bin .sub (.t 22) (.t 24),none⟩,⟨some 26,.bin .add (.t 25) (.c (.int .i64 1440)),none⟩,⟨some 27,.bin .sub (.t 26) (.c (.int .i64 1)),none⟩,⟨some 28,.call (.c (.fn 158 [] [])) [(.t 27),(.c (.int .i64 1440))],none⟩,⟨some 20,.mov (.t 28),none⟩,⟨some 29,.ext (.t 20) 0,none⟩,⟨some 30,.ext (.t 20) 1,none⟩,⟨some 8,.mov (.t 29),none⟩,⟨some 9,.mov (.t 30),none⟩]) ( .seq ( .ops [] [⟨some 31,.mov (.t 8),none⟩,⟨some 32,.mx [(.t 31),(.c (.int .i64 0))],none⟩,⟨some 10,.mov (.t 32),none⟩]) ( .block 2 ( .loop ( .seq ( .seq ( .ops [] [⟨some 33,.mov (.t 10),none⟩,⟨some 34,.mov (.t 8),none⟩,⟨some 35,.bin .add (.t 34) (.c (.int .i64 7)),none⟩,⟨some 36,.bin .lss (.t 33) (.t 35),none⟩]) ( .cond (.t 36) ( .skip) ( .exit 2))) ( .seq ( .block 3 ( .seq ( .ops [] [⟨some 39,.fa 0 (.t 7),none⟩,⟨some 40,.load true 1 (.t 39),none⟩,⟨some 41,.mov (.t 10),none⟩,⟨some 42,.call (.c (.fn 148 [] [])) [(.t 40),(.t 41)],none⟩]) ( .cond (.t 42) ( .ops [] [⟨some 43,.mov (.t 5),none⟩,⟨some 44,.load true 3 (.t 2),none⟩,⟨some 45,.load true 2 (.t 7),none⟩,⟨some 46,.mov (.t 10),none⟩,⟨some 47,.call (.c (.fn 180 [] [])) [(.t 44),(.t 45),(.t 46)],none⟩,⟨some 48,.bsl none (some 3) (.agg [(.int .i64 0),(.int .i64 0),(.int .i64 0)]) 1 [(0,(.t 47))],none⟩,⟨some 49,.app (some 3) 24 (.t 43) (.t 48),none⟩,⟨some 5,.mov (.t 49),none⟩]) ( .skip)))) ( .ops [] [⟨some 37,.mov (.t 10),none⟩,⟨some 38,.bin .add (.t 37) (.c (.int .i64 1)),none⟩,⟨some 10,.mov (.t 38),none⟩]))))))))) ( .ops [] [⟨some 50,.bin .add (.t 16) (.c (.int .i64 1)),none⟩,⟨some 16,.mov (.t 50),none⟩]))))))) (
.seq (
.seq (
.ops [] [⟨some 51,.fa 2 (.t 2),none⟩,⟨some 52,.load false 1 (.t 51),none⟩,⟨some 53,.len (.t 52),none⟩,⟨some 54,.mov (.c (.int .i64 0)),none⟩]) (
.block 4 ( .loop ( .seq ( .ops [] [⟨some 55,.bin .lss (.t 54) (.t 53),none⟩]) ( .seq ( .cond (.t 55) ( .skip) ( .exit 4)) ( .seq ( .block 5 ( .seq ( .ops [] [⟨some 56,.ia 3 (.t 52) (.t 54),none⟩,⟨some 57,.load true 3 (.t 56),none⟩,⟨some 12,.alloc (some 3) (.agg [(.int .i64 0),(.int .i64 0),(.int .i64 0)]) none,none⟩,⟨none,.store 3 (.t 12) (.t 57),none⟩]) ( .seq ( .ops [] [⟨some 58,.fa 1 (.t 12),none⟩,⟨some 59,.fa 0 (.t 58),none⟩,⟨some 60,.load false 1 (.t 59),none⟩,⟨some 61,.call (.c (.fn 115 [] [])) [(.t 60)],none⟩,⟨some 62,.mov (.t 1),none⟩,⟨some 63,.bin .eql (.t 61) (.t 62),none⟩]) ( .cond (.t 63) ( .ops [] [⟨some 64,.mov (.t 5),none⟩,⟨some 65,.load true 3 (.t 12),none⟩,⟨some 66,.bsl none (some 3) (.agg [(.int .i64 0),(.int .i64 0),(.int .i64 0)]) 1 [(0,(.t 65))],none⟩,⟨some 67,.app (some 3) 24 (.t 64) (.t 66),none⟩,⟨some 5,.mov (.t 67),none⟩]) ( .skip))))) ( .ops [] [⟨some 68,.bin .add (.t 54) (.c (.int .i64 1)),none⟩,⟨some 54,.mov (.t 68),none⟩]))))))) (
.seq (
.ops [] [⟨some 69,.mov (.t 5),none⟩,⟨some 70,.call (.c (.fn 183 [] [])) [(.t 69),(.c (.fn 184 [] []))],none⟩]) (
.seq (
.ops [] [⟨some 71,.mov (.t 5),none⟩,⟨some 72,.call (.c (.fn 185 [] [])) [(.t 71)],none⟩,⟨some 4,.mov (.t 72),none⟩]) (
.ret))))))⟩
def rf118 : RF := ⟨26,[.tmp 2],.seq (
.ops [] [⟨some 1,.box (some 6) (.t 0) none,none⟩,⟨some 2,.mov (.c (.bool false)),none⟩]) (
.seq (
.ops [] [⟨some 3,.fa 0 (.t 1),none⟩,⟨some 4,.load false 1 (.t 3),none⟩,⟨some 5,.bin .geq (.t 4) (.c (.int .i64 1)),none⟩,⟨some 6,.mov (.t 5),none⟩,⟨some 7,.fa 0 (.t 1),(some (6,true))⟩,⟨some 8,.load false 1 (.t 7),(some (6,true))⟩,⟨some 9,.bin .leq (.t 8) (.c (.int .i64 1099511627776)),(some (6,true))⟩,⟨some 10,.pick (.t 6) (.t 9) (.c (.bool false)),none⟩,⟨some 11,.mov (.t 10),none⟩,⟨some 12,.fa 2 (.t 1),(some (11,true))⟩,⟨some 13,.load false 1 (.t 12),(some (11,true))⟩,⟨some 14,.bin .geq (.t 13) (.c (.int .i64 0)),(some (11,true))⟩,⟨some 15,.pick (.t 11) (.t 14) (.c (.bool false)),none⟩,⟨some 16,.mov (.t 15),none⟩,⟨some 17,.fa 2 (.t 1),(some (16,true))⟩,⟨some 18,.load false 1 (.t 17),(some (16,true))⟩,⟨some 19,.bin .leq (.t 18) (.c (.int .i64 100)),(some (16,true))⟩,⟨some 20,.pick (.t 16) (.t 19) (.c (.bool false)),none⟩,⟨some 21,.mov (.t 20),none⟩,⟨some 22,.fa 3 (.t 1),(some (21,true))⟩,⟨some 23,.load true 3 (.t 22),(some (21,true))⟩,⟨some 24,.call (.c (.fn 41 [] [])) [(.t 23)],(some (21,true))⟩,⟨some 25,.pick (.t 21) (.t 24) (.c (.bool false)),none⟩,⟨some 2,.mov (.t 25),none⟩]) (
.ret))⟩
def rf119 : RF := ⟨22,[],.seq (
.ops [] [⟨some 6,.load false 1 (.t 1),none⟩,⟨some 7,.len (.t 6),none⟩,⟨some 8,.mov (.c (.int .i64 0)),none⟩]) (
.block 0 ( .loop ( .seq ( .ops [] [⟨some 9,.bin .lss (.t 8) (.t 7),none⟩]) ( .seq ( .cond (.t 9) ( .skip) ( .exit 0)) ( .seq ( .block 1 ( .seq ( .ops [] [⟨some 10,.ia 6 (.t 6) (.t 8),none⟩,⟨some 11,.load true 6 (.t 10),none⟩,⟨some 5,.alloc (some 6) (.agg [(.int .i64 0),(.bool false),(.int .i64 0),.nils,(.int .i64 0),.nils]) none,none⟩,⟨none,.store 6 (.t 5) (.t 11),none⟩]) ( .seq ( .ops [] [⟨some 12,.load false 1 (.t 2),none⟩,⟨some 13,.load true 6 (.t 5),none⟩,⟨some 14,.call (.t 12) [(.t 13)],none⟩,⟨some 15,.mov (.t 14),none⟩,⟨some 16,.mov (.t 0),(some (15,true))⟩,⟨some 17,.load true 6 (.t 5),(some (15,true))⟩,⟨some 18,.call (.t 16) [(.t 17)],(some (15,true))⟩,⟨some 19,.un .not (.t 18),(some (15,true))⟩,⟨some 20,.pick (.t 15) (.t 19) (.c (.bool false)),none⟩]) ( .cond (.t 20) ( .ret) ( .skip))))) ( .ops [] [⟨some 21,.bin .add (.t 8) (.c (.int .i64 1)),none⟩,⟨some 8,.mov (.t 21),none⟩]))))))⟩
def rf120 : RF := ⟨15,[.tmp 2],.seq (
.ops [] [⟨some 2,.mov (.c (.str (byts []))),none⟩]) (
.seq (
.seq (
.ops [] [⟨some 3,.mov (.t 0),none⟩,⟨some 4,.bin .lss (.t 3) (.c (.int .i64 10)),none⟩]) (
.cond (.t 4) ( .seq ( .ops [] [⟨some 5,.mov (.t 0),none⟩,⟨some 6,.mov (.t 0),none⟩,⟨some 7,.bin .add (.t 6) (.c (.int .i64 1)),none⟩,⟨some 8,.sslice (.c (.str (byts [48,49,50,51,52,53,54,55,56,57,97,98,99,100,101,102,103,104,105,106,107,108,109,110,111,112,113,114,115,116,117,118,119,120,121,122]))) (some (.t 5)) (some (.t 7)),none⟩,⟨some 2,.mov (.t 8),none⟩]) ( .ret)) ( .skip))) (
.seq (
.ops [] [⟨some 9,.mov (.t 0),none⟩,⟨some 10,.bin .mul (.t 9) (.c (.int .i64 2)),none⟩,⟨some 11,.mov (.t 0),none⟩,⟨some 12,.bin .mul (.t 11) (.c (.int .i64 2)),none⟩,⟨some 13,.bin .add (.t 12) (.c (.int .i64 2)),none⟩,⟨some 14,.sslice (.c (.str (byts [48,48,48,49,48,50,48,51,48,52,48,53,48,54,48,55,48,56,48,57,49,48,49,49,49,50,49,51,49,52,49,53,49,54,49,55,49,56,49,57,50,48,50,49,50,50,50,51,50,52,50,53,50,54,50,55,50,56,50,57,51,48,51,49,51,50,51,51,51,52,51,53,51,54,51,55,51,56,51,57,52,48,52,49,52,50,52,51,52,52,52,53,52,54,52,55,52,56,52,57,53,48,53,49,53,50,53,51,53,52,53,53,53,54,53,55,53,56,53,57,54,48,54,49,54,50,54,51,54,52,54,53,54,54,54,55,54,56,54,57,55,48,55,49,55,50,55,51,55,52,55,53,55,54,55,55,55,56,55,57,56,48,56,49,56,50,56,51,56,52,56,53,56,54,56,55,56,56,56,57,57,48,57,49,57,50,57,51,57,52,57,53,57,54,57,55,57,56,57,57]))) (some (.t 10)) (some (.t 13)),none⟩,⟨some 2,.mov (.t 14),none⟩]) (
.ret)))⟩
def rf124 : RF := ⟨173,[.cell 2 false 1,.cell 3 false 1],.seq (
.ops [] [⟨some 1,.box (some 8) (.t 0) none,none⟩,⟨some 2,.alloc none .nilp none,none⟩,⟨some 3,.alloc none (.bool false) none,none⟩]) (
.seq (
.seq (
.ops [] [⟨some 12,.fa 5 (.t 1),none⟩,⟨some 13,.load false 1 (.t 12),none⟩,⟨some 14,.len (.t 13),none⟩,⟨some 15,.bin .gtr (.t 14) (.c (.int .i64 512)),none⟩,⟨some 16,.mov (.t 15),none⟩,⟨some 17,.fa 0 (.t 1),(some (16,false))⟩,⟨some 18,.load true 4 (.t 17),(some (16,false))⟩,⟨some 19,.call (.c (.fn 190 [] [])) [(.t 18)],(some (16,false))⟩,⟨some 20,.un .not (.t 19),(some (16,false))⟩,⟨some 21,.pick (.t 16) (.c (.bool true)) (.t 20),none⟩,⟨some 22,.mov (.t 21),none⟩,⟨some 23,.fa 4 (.t 1),(some (22,false))⟩,⟨some 24,.load false 1 (.t 23),(some (22,false))⟩,⟨some 25,.call (.c (.fn 191 [] [])) [(.t 24),(.c (.int .i64 1080))],(some (22,false))⟩,⟨some 26,.un .not (.t 25),(some (22,false))⟩,⟨some 27,.pick (.t 22) (.c (.bool true)) (.t 26),none⟩,⟨some 28,.mov (.t 27),none⟩,⟨some 29,.fa 6 (.t 1),(some (28,false))⟩,⟨some 30,.load false 1 (.t 29),(some (28,false))⟩,⟨some 31,.call (.c (.fn 191 [] [])) [(.t 30),(.c (.int .i64 2251799813685248))],(some (28,false))⟩,⟨some 32,.un .not (.t 31),(some (28,false))⟩,⟨some 33,.pick (.t 28) (.c (.bool true)) (.t 32),none⟩]) (
.cond (.t 33) ( .seq ( .ops [] [⟨none,.store 1 (.t 2) (.c .nilp),none⟩,⟨none,.store 1 (.t 3) (.c (.bool false)),none⟩]) ( .ret)) ( .skip))) (
.seq (
.seq (
.ops [] [⟨some 34,.fa 5 (.t 1),none⟩,⟨some 35,.load false 1 (.t 34),none⟩,⟨some 36,.len (.t 35),none⟩,⟨some 37,.mov (.c (.int .i64 0)),none⟩]) (
.block 0 ( .loop ( .seq ( .ops [] [⟨some 38,.bin .lss (.t 37) (.t 36),none⟩]) ( .seq ( .cond (.t 38) ( .skip) ( .exit 0)) ( .seq ( .block 1 ( .seq ( .ops [] [⟨some 39,.mov (.t 37),none⟩,⟨some 40,.ia 2 (.t 35) (.t 37),none⟩,⟨some 41,.load true 2 (.t 40),none⟩,⟨some 5,.alloc (some 2) (.agg [(.int .i64 0),(.int .i64 0)]) none,none⟩,⟨some 4,.mov (.t 39),none⟩,⟨none,.store 2 (.t 5) (.t 41),none⟩]) ( .seq ( .dops [] 0 [⟨some 42,.fa 1 (.t 5),none⟩,⟨some 43,.load false 1 (.t 42),none⟩,⟨some 44,.call (.c (.fn 191 [] [])) [(.t 43),(.c (.int .i64 1080))],none⟩,⟨some 45,.un .not (.t 44),none⟩,⟨some 46,.mov (.t 45),none⟩,⟨some 47,.fa 0 (.t 5),(some (46,false))⟩,⟨some 48,.load false 1 (.t 47),(some (46,false))⟩,⟨some 49,.call (.c (.fn 191 [] [])) [(.t 48),(.c (.int .i64 2251799813685248))],(some (46,false))⟩,⟨some 50,.un .not (.t 49),(some (46,false))⟩,⟨some 51,.pick (.t 46) (.c (.bool true)) (.t 50),none⟩,⟨some 52,.mov (.t 51),none⟩,⟨some 53,.fa 0 (.t 5),(some (52,false))⟩,⟨some 54,.load false 1 (.t 53),(some (52,false))⟩,⟨some 55,.fa 6 (.t 1),(some (52,false))⟩,⟨some 56,.load false 1 (.t 55),(some (52,false))⟩,⟨some 57,.bin .geq (.t 54) (.t 56),(some (52,false))⟩,⟨some 58,.pick (.t 52) (.c (.bool true)) (.t 57),none⟩,⟨some 59,.mov (.t 58),none⟩,⟨some 60,.mov (.t 4),(some (59,false))⟩,⟨some 61,.bin .gtr (.t 60) (.c (.int .i64 0)),(some (59,false))⟩,⟨some 62,.mov (.t 61),(some (59,false))⟩,⟨some 63,.fa 0 (.t 5),(some (62,true))⟩,⟨some 64,.load false 1 (.t 63),(some (62,true))⟩,⟨some 65,.fa 5 (.t 1),(some (62,true))⟩,⟨some 66,.load false 1 (.t 65),(some (62,true))⟩,⟨some 67,.mov (.t 4),(some (62,true))⟩,⟨some 68,.bin .sub (.t 67) (.c (.int .i64 1)),(some (62,true))⟩,⟨some 69,.ia 2 (.t 66) (.t 68),(some (62,true))⟩,⟨some 70,.fa 0 (.t 69),(some (62,true))⟩,⟨some 71,.load false 1 (.t 70),(some (62,true))⟩,⟨some 72,.bin .sub (.t 64) (.t 71),(some (62,true))⟩,⟨some 73,.bin .lss (.t 72) (.c (.int .i64 2160)),(some (62,true))⟩,⟨some 74,.pick (.t 62) (.t 73) (.c (.bool false)),(some (59,false))⟩,⟨some 75,.pick (.t 59) (.c (.bool true)) (.t 74),none⟩] []) ( .cond (.t 75) ( .seq ( .ops [] [⟨none,.store 1 (.t 2) (.c .nilp),none⟩,⟨none,.store 1 (.t 3) (.c (.bool false)),none⟩]) ( .ret)) ( .skip))))) ( .ops [] [⟨some 76,.bin .add (.t 37) (.c (.int .i64 1)),none⟩,⟨some 37,.mov (.t 76),none⟩]))))))) (
.seq (
.seq (
.ops [] [⟨some 77,.fa 7 (.t 1),none⟩,⟨some 78,.load false 1 (.t 77),none⟩,⟨some 79,.len (.t 78),none⟩,⟨some 80,.bin .neq (.t 79) (.c (.int .i64 0)),none⟩,⟨some 81,.mov (.t 80),none⟩,⟨some 82,.fa 7 (.t 1),(some (81,true))⟩,⟨some 83,.load false 1 (.t 82),(some (81,true))⟩,⟨some 84,.len (.t 83),(some (81,true))⟩,⟨some 85,.bin .neq (.t 84) (.c (.int .i64 2)),(some (81,true))⟩,⟨some 86,.pick (.t 81) (.t 85) (.c (.bool false)),none⟩]) (
.cond (.t 86) ( .seq ( .ops [] [⟨none,.store 1 (.t 2) (.c .nilp),none⟩,⟨none,.store 1 (.t 3) (.c (.bool false)),none⟩]) ( .ret)) ( .skip))) (
.seq (
.seq (
.ops [] [⟨some 87,.fa 7 (.t 1),none⟩,⟨some 88,.load false 1 (.t 87),none⟩,⟨some 89,.len (.t 88),none⟩,⟨some 90,.mov (.c (.int .i64 0)),none⟩]) (
.block 2 ( .loop ( .seq ( .ops [] [⟨some 91,.bin .lss (.t 90) (.t 89),none⟩]) ( .seq ( .cond (.t 91) ( .skip) ( .exit 2)) ( .seq ( .block 3 ( .seq ( .ops [] [⟨some 92,.ia 5 (.t 88) (.t 90),none⟩,⟨some 93,.load true 5 (.t 92),none⟩,⟨some 7,.alloc (some 5) (.agg [(.int .i64 0),(.int .i64 0),(.int .i64 0),(.int .i64 0),(.int .i64 0)]) none,none⟩,⟨none,.store 5 (.t 7) (.t 93),none⟩]) ( .seq ( .ops [] [⟨some 94,.fa 4 (.t 7),none⟩,⟨some 95,.load false 1 (.t 94),none⟩,⟨some 96,.call (.c (.fn 191 [] [])) [(.t 95),(.c (.int .i64 1080))],none⟩,⟨some 97,.un .not (.t 96),none⟩,⟨some 98,.mov (.t 97),none⟩,⟨some 99,.fa 0 (.t 7),(some (98,false))⟩,⟨some 100,.load false 1 (.t 99),(some (98,false))⟩,⟨some 101,.bin .lss (.t 100) (.c (.int .i64 1)),(some (98,false))⟩,⟨some 102,.pick (.t 98) (.c (.bool true)) (.t 101),none⟩,⟨some 103,.mov (.t 102),none⟩,⟨some 104,.fa 0 (.t 7),(some (103,false))⟩,⟨some 105,.load false 1 (.t 104),(some (103,false))⟩,⟨some 106,.fa 0 (.t 1),(some (103,false))⟩,⟨some 107,.fa 1 (.t 106),(some (103,false))⟩,⟨some 108,.load false 1 (.t 107),(some (103,false))⟩,⟨some 109,.len (.t 108),(some (103,false))⟩,⟨some 110,.bin .gtr (.t 105) (.t 109),(some (103,false))⟩,⟨some 111,.pick (.t 103) (.c (.bool true)) (.t 110),none⟩,⟨some 112,.mov (.t 111),none⟩,⟨some 113,.fa 1 (.t 7),(some (112,false))⟩,⟨some 114,.load false 1 (.t 113),(some (112,false))⟩,⟨some 115,.bin .lss (.t 114) (.c (.int .i64 1)),(some (112,false))⟩,⟨some 116,.pick (.t 112) (.c (.bool true)) (.t 115),none⟩,⟨some 117,.mov (.t 116),none⟩,⟨some 118,.fa 1 (.t 7),(some (117,false))⟩,⟨some 119,.load false 1 (.t 118),(some (117,false))⟩,⟨some 120,.bin .gtr (.t 119) (.c (.int .i64 5)),(some (117,false))⟩,⟨some 121,.pick (.t 117) (.c (.bool true)) (.t 120),none⟩,⟨some 122,.mov (.t 121),none⟩,⟨some 123,.fa 2 (.t 7),(some (122,false))⟩,⟨some 124,.load false 1 (.t 123),(some (122,false))⟩,⟨some 125,.bin .lss (.t 124) (.c (.int .i64 0)),(some (122,false))⟩,⟨some 126,.pick (.t 122) (.c (.bool true)) (.t 125),none⟩,⟨some 127,.mov (.t 126),none⟩,⟨some 128,.fa 2 (.t 7),(some (127,false))⟩,⟨some 129,.load false 1 (.t 128),(some (127,false))⟩,⟨some 130,.bin .gtr (.t 129) (.c (.int .i64 6)),(some (127,false))⟩,⟨some 131,.pick (.t 127) (.c (.bool true)) (.t 130),none⟩,⟨some 132,.mov (.t 131),none⟩,⟨some 133,.fa 3 (.t 7),(some (132,false))⟩,⟨some 134,.load false 1 (.t 133),(some (132,false))⟩,⟨some 135,.bin .lss (.t 134) (.c (.int .i64 0)),(some (132,false))⟩,⟨some 136,.pick (.t 132) (.c (.bool true)) (.t 135),none⟩,⟨some 137,.mov (.t 136),none⟩,⟨some 138,.fa 3 (.t 7),(some (137,false))⟩,⟨some 139,.load false 1 (.t 138),(some (137,false))⟩,⟨some 140,.bin .geq (.t 139) (.c (.int .i64 1440)),(some (137,false))⟩,⟨some 141,.pick (.t 137) (.c (.bool true)) (.t 140),none⟩]) ( .cond (.t 141) ( .seq ( .ops [] [⟨none,.store 1 (.t 2) (.c .nilp),none⟩,⟨none,.store 1 (.t 3) (.c (.bool false)),none⟩]) ( .ret)) ( .skip))))) ( .ops [] [⟨some 142,.bin .add (.t 90) (.c (.int .i64 1)),none⟩,⟨some 90,.mov (.t 142),none⟩]))))))) (
.seq (
.ops [] [⟨some 144,.load true 8 (.t 1),none⟩,⟨some 145,.call (.c (.fn 192 [] [])) [(.t 144)],none⟩,⟨some 143,.mov (.t 145),none⟩,⟨some 146,.ext (.t 143) 0,none⟩,⟨some 147,.ext (.t 143) 1,none⟩,⟨some 8,.alloc none .nilp none,none⟩,⟨none,.store 1 (.t 8) (.t 146),none⟩,⟨some 9,.mov (.t 147),none⟩]) (
.seq (
.seq (
.ops [] [⟨some 148,.mov (.t 9),none⟩,⟨some 149,.un .not (.t 148),none⟩]) (
.cond (.t 149) ( .seq ( .ops [] [⟨none,.store 1 (.t 2) (.c .nilp),none⟩,⟨none,.store 1 (.t 3) (.c (.bool false)),none⟩]) ( .ret)) ( .skip))) (
.seq (
.seq (
.ops [] [⟨some 150,.fa 5 (.t 1),none⟩,⟨some 151,.load false 1 (.t 150),none⟩,⟨some 152,.len (.t 151),none⟩,⟨some 10,.alloc none (.int .i64 0) none,none⟩,⟨none,.store 1 (.t 10) (.t 152),none⟩]) (
.seq (
.ops [] [⟨some 153,.load false 1 (.t 10),none⟩,⟨some 154,.bin .gtr (.t 153) (.c (.int .i64 0)),none⟩]) (
.cond (.t 154) ( .seq ( .ops [] [⟨some 155,.load false 1 (.t 8),none⟩,⟨some 156,.fa 6 (.t 1),none⟩,⟨some 157,.load false 1 (.t 156),none⟩,⟨some 158,.call (.c (.fn 193 [] [])) [(.t 155),(.t 157)],none⟩]) ( .block 4 ( .rangeF (.t 158) [159] ( .ops [] [⟨some 11,.alloc (some 2) (.agg [(.int .i64 0),(.int .i64 0)]) none,none⟩,⟨none,.store 2 (.t 11) (.t 159),none⟩]) ( .block 5 ( .seq ( .dops [] 0 [⟨some 160,.load false 1 (.t 8),none⟩,⟨some 161,.fa 0 (.t 11),none⟩,⟨some 162,.load false 1 (.t 161),none⟩,⟨some 163,.fa 5 (.t 1),none⟩,⟨some 164,.load false 1 (.t 163),none⟩,⟨some 165,.load false 1 (.t 10),none⟩,⟨some 166,.bin .sub (.t 165) (.c (.int .i64 1)),none⟩,⟨some 167,.ia 2 (.t 164) (.t 166),none⟩,⟨some 168,.fa 0 (.t 167),none⟩,⟨some 169,.load false 1 (.t 168),none⟩,⟨some 170,.bin .sub (.t 162) (.t 169),none⟩,⟨some 171,.bin .geq (.t 170) (.c (.int .i64 2160)),none⟩,⟨none,.store 1 (.t 2) (.t 160),none⟩,⟨none,.store 1 (.t 3) (.t 171),none⟩] [(2,12),(4,12),(5,12),(9,12)]) ( .ret)))))) ( .skip)))) (
.seq (
.ops [] [⟨some 172,.load false 1 (.t 8),none⟩,⟨none,.store 1 (.t 2) (.t 172),none⟩,⟨none,.store 1 (.t 3) (.c (.bool true)),none⟩]) (
.ret)))))))))⟩
def rf125 : RF := ⟨9,[.tmp 4],.seq (
.ops [] [⟨some 4,.mov (.c (.bool false)),none⟩]) (
.seq (
.ops [] [⟨some 5,.mov (.t 0),none⟩,⟨some 6,.mov (.t 1),none⟩,⟨some 7,.call (.c (.fn 194 [] [])) [(.t 5),(.t 6)],none⟩,⟨some 8,.bin .geq (.t 7) (.c (.int .i64 0)),none⟩,⟨some 4,.mov (.t 8),none⟩]) (
.ret))⟩
def rf126 : RF := ⟨6,[.tmp 2],.seq (
.ops [] [⟨some 1,.box (some 4) (.t 0) none,none⟩,⟨some 2,.mov (.c (.bool false)),none⟩]) (
.seq (
.ops [] [⟨some 3,.load true 4 (.t 1),none⟩,⟨some 4,.call (.c (.fn 127 [] [])) [(.t 3)],none⟩,⟨some 5,.un .not (.t 4),none⟩,⟨some 2,.mov (.t 5),none⟩]) (
.ret))⟩
def rf127 : RF := ⟨45,[.tmp 2],.seq (
.ops [] [⟨some 1,.box (some 4) (.t 0) none,none⟩,⟨some 2,.mov (.c (.bool false)),none⟩]) (
.seq (
.ops [] [⟨some 3,.fa 1 (.t 1),none⟩,⟨some 4,.load false 1 (.t 3),none⟩,⟨some 5,.bin .geq (.t 4) (.c (.int .i64 0)),none⟩,⟨some 6,.mov (.t 5),none⟩,⟨some 7,.fa 1 (.t 1),(some (6,true))⟩,⟨some 8,.load false 1 (.t 7),(some (6,true))⟩,⟨some 9,.bin .leq (.t 8) (.c (.int .i64 1099511627776)),(some (6,true))⟩,⟨some 10,.pick (.t 6) (.t 9) (.c (.bool false)),none⟩,⟨some 11,.mov (.t 10),none⟩,⟨some 12,.fa 2 (.t 1),(some (11,true))⟩,⟨some 13,.load false 1 (.t 12),(some (11,true))⟩,⟨some 14,.bin .geq (.t 13) (.c (.int .i64 1)),(some (11,true))⟩,⟨some 15,.pick (.t 11) (.t 14) (.c (.bool false)),none⟩,⟨some 16,.mov (.t 15),none⟩,⟨some 17,.fa 2 (.t 1),(some (16,true))⟩,⟨some 18,.load false 1 (.t 17),(some (16,true))⟩,⟨some 19,.bin .leq (.t 18) (.c (.int .i64 1099511627776)),(some (16,true))⟩,⟨some 20,.pick (.t 16) (.t 19) (.c (.bool false)),none⟩,⟨some 21,.mov (.t 20),none⟩,⟨some 22,.fa 0 (.t 1),(some (21,true))⟩,⟨some 23,.load false 1 (.t 22),(some (21,true))⟩,⟨some 24,.len (.t 23),(some (21,true))⟩,⟨some 25,.fa 3 (.t 1),(some (21,true))⟩,⟨some 26,.load false 1 (.t 25),(some (21,true))⟩,⟨some 27,.len (.t 26),(some (21,true))⟩,⟨some 28,.bin .add (.t 24) (.t 27),(some (21,true))⟩,⟨some 29,.bin .leq (.t 28) (.c (.int .i64 1048576)),(some (21,true))⟩,⟨some 30,.pick (.t 21) (.t 29) (.c (.bool false)),none⟩,⟨some 31,.mov (.t 30),none⟩,⟨some 32,.fa 0 (.t 1),(some (31,true))⟩,⟨some 33,.load false 1 (.t 32),(some (31,true))⟩,⟨some 34,.fa 1 (.t 1),(some (31,true))⟩,⟨some 35,.load false 1 (.t 34),(some (31,true))⟩,⟨some 36,.call (.c (.fn 195 [] [])) [(.t 33),(.t 35)],(some (31,true))⟩,⟨some 37,.pick (.t 31) (.t 36) (.c (.bool false)),none⟩,⟨some 38,.mov (.t 37),none⟩,⟨some 39,.fa 3 (.t 1),(some (38,true))⟩,⟨some 40,.load false 1 (.t 39),(some (38,true))⟩,⟨some 41,.fa 2 (.t 1),(some (38,true))⟩,⟨some 42,.load false 1 (.t 41),(some (38,true))⟩,⟨some 43,.call (.c (.fn 195 [] [])) [(.t 40),(.t 42)],(some (38,true))⟩,⟨some 44,.pick (.t 38) (.t 43) (.c (.bool false)),none⟩,⟨some 2,.mov (.t 44),none⟩]) (
.ret))⟩
def rf128 : RF := ⟨16,[.tmp 2,.tmp 3],.seq (
.ops [] [⟨some 2,.mov (.c (.int .i64 0)),none⟩,⟨some 3,.mov (.c (.int .i64 0)),none⟩]) (
.seq (
.ops [] [⟨some 5,.mov (.t 0),none⟩,⟨some 6,.call (.c (.fn 158 [] [])) [(.t 5),(.c (.int .i64 1440))],none⟩,⟨some 4,.mov (.t 6),none⟩,⟨some 7,.ext (.t 4) 0,none⟩,⟨some 8,.ext (.t 4) 1,none⟩,⟨some 2,.mov (.t 7),none⟩]) (
.seq (
.ops [] [⟨some 10,.mov (.t 0),none⟩,⟨some 11,.call (.c (.fn 196 [] [])) [(.t 10),(.c (.int .i64 1440))],none⟩,⟨some 9,.mov (.t 11),none⟩,⟨some 12,.ext (.t 9) 0,none⟩,⟨some 13,.ext (.t 9) 1,none⟩,⟨some 3,.mov (.t 12),none⟩]) (
.seq (
.ops [] [⟨some 14,.mov (.t 2),none⟩,⟨some 15,.mov (.t 3),none⟩,⟨some 2,.mov (.t 14),none⟩,⟨some 3,.mov (.t 15),none⟩]) (
.ret))))⟩
def rf129 : RF := ⟨11,[.tmp 4,.tmp 5],.seq (
.ops [] [⟨some 2,.box (some 8) (.t 0) none,none⟩,⟨some 4,.mov (.c .nils),none⟩,⟨some 5,.mov (.c (.int .i64 0)),none⟩]) (
.seq (
.ops [] [⟨some 6,.load true 8 (.t 2),none⟩,⟨some 7,.mov (.t 1),none⟩,⟨some 8,.call (.c (.fn 197 [] [])) [(.t 6),(.t 7),(.c (.fn 198 [] []))],none⟩,⟨some 9,.ext (.t 8) 0,none⟩,⟨some 10,.ext (.t 8) 1,none⟩,⟨some 4,.mov (.t 9),none⟩,⟨some 5,.mov (.t 10),none⟩]) (
.ret))⟩
def rf130 : RF := ⟨10,[.cell 3 true 1,.tmp 4],.seq (
.ops [] [⟨some 2,.box (some 1) (.t 0) none,none⟩,⟨some 3,.alloc (some 1) (.agg [.nils]) none,none⟩,⟨some 4,.mov (.c (.int .i64 0)),none⟩]) (
.seq (
.ops [] [⟨some 5,.load true 1 (.t 1),none⟩,⟨some 6,.load true 1 (.t 2),none⟩,⟨some 7,.call (.c (.fn 131 [] [])) [(.t 5),(.t 6)],none⟩,⟨some 8,.ext (.t 7) 0,none⟩,⟨some 9,.ext (.t 7) 1,none⟩,⟨none,.store 1 (.t 3) (.t 8),none⟩,⟨some 4,.mov (.t 9),none⟩]) (
.ret))⟩
def rf131 : RF := ⟨25,[.cell 4 true 1,.tmp 5],.seq (
.ops [] [⟨some 2,.box (some 1) (.t 0) none,none⟩,⟨some 3,.box (some 1) (.t 1) none,none⟩,⟨some 4,.alloc (some 1) (.agg [.nils]) none,none⟩,⟨some 5,.mov (.c (.int .i64 0)),none⟩]) (
.seq (
.seq (
.ops [] [⟨some 6,.load true 1 (.t 2),none⟩,⟨some 7,.call (.c (.fn 66 [] [])) [(.t 6)],none⟩,⟨some 8,.un .not (.t 7),none⟩,⟨some 9,.mov (.t 8),none⟩,⟨some 10,.load true 1 (.t 3),(some (9,false))⟩,⟨some 11,.call (.c (.fn 66 [] [])) [(.t 10)],(some (9,false))⟩,⟨some 12,.un .not (.t 11),(some (9,false))⟩,⟨some 13,.pick (.t 9) (.c (.bool true)) (.t 12),none⟩]) (
.cond (.t 13) ( .seq ( .ops [] [⟨some 14,.build [.nils] [],none⟩,⟨none,.store 1 (.t 4) (.t 14),none⟩,⟨some 5,.mov (.c (.int .i64 1)),none⟩]) ( .ret)) ( .skip))) (
.seq (
.ops [] [⟨some 15,.fa 0 (.t 2),none⟩,⟨some 16,.load false 1 (.t 15),none⟩,⟨some 17,.fa 0 (.t 3),none⟩,⟨some 18,.load false 1 (.t 17),none⟩,⟨some 19,.bsl none none .nils 2 [(0,(.t 16)),(1,(.t 18))],none⟩,⟨some 20,.call (.c (.fn 199 [] [])) [(.t 19)],none⟩,⟨some 21,.call (.c (.fn 140 [] [])) [(.t 20)],none⟩,⟨some 22,.call (.c (.fn 139 [] [])) [(.t 21)],none⟩,⟨some 23,.ext (.t 22) 0,none⟩,⟨some 24,.ext (.t 22) 1,none⟩,⟨none,.store 1 (.t 4) (.t 23),none⟩,⟨some 5,.mov (.t 24),none⟩]) (
.ret)))⟩
def rf132 : RF := ⟨8,[.tmp 6],.seq (
.ops [] [⟨some 3,.box (some 10) (.t 0) none,none⟩,⟨some 4,.box none (.t 1) none,none⟩,⟨some 5,.box none (.t 2) none,none⟩,⟨some 6,.mov (.c .nilf),none⟩]) (
.seq (
.ops [] [⟨some 7,.mkfn 200 [] [(.t 3),(.t 4),(.t 5)],none⟩,⟨some 6,.mov (.t 7),none⟩]) (
.ret))⟩
def rf133 : RF := ⟨29,[.cell 4 true 1,.tmp 5],.seq (
.ops [] [⟨some 2,.box (some 1) (.t 0) none,none⟩,⟨some 4,.alloc (some 1) (.agg [.nils]) none,none⟩,⟨some 5,.mov (.c (.int .i64 0)),none⟩]) (
.seq (
.seq (
.ops [] [⟨some 10,.mov (.t 1),none⟩,⟨some 11,.len (.t 10),none⟩,⟨some 12,.mov (.c (.int .i64 0)),none⟩]) (
.block 0 ( .loop ( .seq ( .ops [] [⟨some 13,.bin .lss (.t 12) (.t 11),none⟩]) ( .seq ( .cond (.t 13) ( .skip) ( .exit 0)) ( .seq ( .block 1 ( .seq ( .ops [] [⟨some 14,.ia 1 (.t 10) (.t 12),none⟩,⟨some 15,.load false 1 (.t 14),none⟩,⟨some 7,.mov (.t 15),none⟩]) ( .seq ( .ops [] [⟨some 17,.mov (.t 7),none⟩,⟨some 18,.load true 1 (.t 2),none⟩,⟨some 19,.call (.t 17) [(.t 18)],none⟩,⟨some 16,.mov (.t 19),none⟩,⟨some 20,.ext (.t 16) 0,none⟩,⟨some 21,.ext (.t 16) 1,none⟩,⟨some 8,.alloc (some 1) (.agg [.nils]) none,none⟩,⟨none,.store 1 (.t 8) (.t 20),none⟩,⟨some 9,.mov (.t 21),none⟩]) ( .seq ( .seq ( .ops [] [⟨some 22,.mov (.t 9),none⟩,⟨some 23,.bin .neq (.t 22) (.c (.int .i64 0)),none⟩]) ( .cond (.t 23) ( .seq ( .ops [] [⟨some 24,.build [.nils] [],none⟩,⟨some 25,.mov (.t 9),none⟩,⟨none,.store 1 (.t 4) (.t 24),none⟩,⟨some 5,.mov (.t 25),none⟩]) ( .ret)) ( .skip))) ( .ops [] [⟨some 26,.load true 1 (.t 8),none⟩,⟨none,.store 1 (.t 2) (.t 26),none⟩]))))) ( .ops [] [⟨some 27,.bin .add (.t 12) (.c (.int .i64 1)),none⟩,⟨some 12,.mov (.t 27),none⟩]))))))) (
.seq (
.ops [] [⟨some 28,.load true 1 (.t 2),none⟩,⟨none,.store 1 (.t 4) (.t 28),none⟩,⟨some 5,.mov (.c (.int .i64 0)),none⟩]) (
.ret)))⟩
def rf134 : RF := ⟨12,[.cell 3 true 1,.tmp 4],.seq (
.ops [] [⟨some 2,.box (some 1) (.t 0) none,none⟩,⟨some 3,.alloc (some 1) (.agg [.nils]) none,none⟩,⟨some 4,.mov (.c (.int .i64 0)),none⟩]) (
.seq (
.dops [] 0 [⟨some 5,.load true 1 (.t 2),none⟩,⟨some 6,.fa 9 (.t 1),none⟩,⟨some 7,.load false 1 (.t 6),none⟩,⟨some 8,.call (.c (.fn 135 [] [])) [(.t 7)],none⟩,⟨some 9,.call (.c (.fn 74 [] [])) [(.t 5),(.t 8)],none⟩,⟨some 10,.ext (.t 9) 0,none⟩,⟨some 11,.ext (.t 9) 1,none⟩,⟨none,.store 1 (.t 3) (.t 10),none⟩,⟨some 4,.mov (.t 11),none⟩] []) (
.ret))⟩
def rf135 : RF := ⟨20,[.cell 2 true 1],.seq (
.ops [] [⟨some 2,.alloc (some 1) (.agg [.nils]) none,none⟩]) (
.seq (
.ops [] [⟨some 5,.mov (.t 0),none⟩,⟨some 6,.build [.nils,(.int .i64 0),(.int .i64 0),.nils] [(0,1,(.t 5)),(2,1,(.c (.int .i64 1)))],none⟩,⟨some 3,.alloc (some 4) (.agg [.nils,(.int .i64 0),(.int .i64 0),.nils]) none,none⟩,⟨none,.store 4 (.t 3) (.t 6),none⟩]) (
.seq (
.seq (
.ops [] [⟨some 7,.mov (.t 0),none⟩,⟨some 8,.len (.t 7),none⟩,⟨some 4,.mov (.t 8),none⟩]) (
.seq (
.ops [] [⟨some 9,.mov (.t 4),none⟩,⟨some 10,.bin .gtr (.t 9) (.c (.int .i64 0)),none⟩]) (
.cond (.t 10) ( .ops [] [⟨some 11,.mov (.t 0),none⟩,⟨some 12,.mov (.t 4),none⟩,⟨some 13,.bin .sub (.t 12) (.c (.int .i64 1)),none⟩,⟨some 14,.ia 1 (.t 11) (.t 13),none⟩,⟨some 15,.load false 1 (.t 14),none⟩,⟨some 16,.bin .add (.t 15) (.c (.int .i64 1)),none⟩,⟨some 17,.fa 1 (.t 3),none⟩,⟨none,.store 1 (.t 17) (.t 16),none⟩]) ( .skip)))) (
.seq (
.ops [] [⟨some 18,.load true 4 (.t 3),none⟩,⟨some 19,.call (.c (.fn 138 [] [])) [(.t 18)],none⟩,⟨none,.store 1 (.t 2) (.t 19),none⟩]) (
.ret))))⟩
def rf136 : RF := ⟨4,[.tmp 2],.seq (
.ops [] [⟨some 1,.box none (.t 0) none,none⟩,⟨some 2,.mov (.c .nilf),none⟩]) (
.seq (
.ops [] [⟨some 3,.mkfn 201 [] [(.t 1)],none⟩,⟨some 2,.mov (.t 3),none⟩]) (
.ret))⟩
def rf137 : RF := ⟨12,[.cell 3 true 1,.tmp 4],.seq (
.ops [] [⟨some 2,.box (some 1) (.t 0) none,none⟩,⟨some 3,.alloc (some 1) (.agg [.nils]) none,none⟩,⟨some 4,.mov (.c (.int .i64 0)),none⟩]) (
.seq (
.dops [] 0 [⟨some 5,.fa 1 (.t 1),none⟩,⟨some 6,.load true 4 (.t 5),none⟩,⟨some 7,.call (.c (.fn 138 [] [])) [(.t 6)],none⟩,⟨some 8,.load true 1 (.t 2),none⟩,⟨some 9,.call (.c (.fn 82 [] [])) [(.t 7),(.t 8)],none⟩,⟨some 10,.ext (.t 9) 0,none⟩,⟨some 11,.ext (.t 9) 1,none⟩,⟨none,.store 1 (.t 3) (.t 10),none⟩,⟨some 4,.mov (.t 11),none⟩] []) (
.ret))⟩
def rf138 : RF := ⟨21,[.cell 2 true 1],.seq (
.ops [] [⟨some 1,.box (some 4) (.t 0) none,none⟩,⟨some 2,.alloc (some 1) (.agg [.nils]) none,none⟩]) (
.seq (
.ops [] [⟨some 6,.load true 4 (.t 1),none⟩,⟨some 7,.call (.c (.fn 202 [] [])) [(.t 6)],none⟩,⟨some 5,.mov (.t 7),none⟩,⟨some 8,.ext (.t 5) 0,none⟩,⟨some 9,.ext (.t 5) 1,none⟩,⟨some 3,.alloc (some 4) (.agg [.nils,(.int .i64 0),(.int .i64 0),.nils]) none,none⟩,⟨none,.store 4 (.t 3) (.t 8),none⟩,⟨some 4,.mov (.t 9),none⟩]) (
.seq (
.seq (
.ops [] [⟨some 10,.mov (.t 4),none⟩,⟨some 11,.bin .neq (.t 10) (.c (.int .i64 0)),none⟩,⟨some 12,.mov (.t 11),none⟩,⟨some 13,.load true 4 (.t 3),(some (12,false))⟩,⟨some 14,.call (.c (.fn 203 [] [])) [(.t 13)],(some (12,false))⟩,⟨some 15,.pick (.t 12) (.c (.bool true)) (.t 14),none⟩]) (
.cond (.t 15) ( .seq ( .ops [] [⟨some 16,.build [.nils] [],none⟩,⟨none,.store 1 (.t 2) (.t 16),none⟩]) ( .ret)) ( .skip))) (
.seq (
.ops [] [⟨some 17,.load true 4 (.t 3),none⟩,⟨some 18,.bsl none (some 4) (.agg [.nils,(.int .i64 0),(.int .i64 0),.nils]) 1 [(0,(.t 17))],none⟩,⟨some 19,.bsl none none .nils 1 [(0,(.t 18))],none⟩,⟨some 20,.build [.nils] [(0,1,(.t 19))],none⟩,⟨none,.store 1 (.t 2) (.t 20),none⟩]) (
.ret))))⟩
def rf139 : RF := ⟨121,[.cell 2 true 1,.tmp 3],.seq (
.ops [] [⟨some 2,.alloc (some 1) (.agg [.nils]) none,none⟩,⟨some 3,.mov (.c (.int .i64 0)),none⟩]) (
.seq (
.ops [] [⟨some 4,.alloc none .nils none,none⟩]) (
.seq (
.seq (
.ops [] [⟨some 14,.mov (.t 0),none⟩]) (
.block 0 ( .rangeF (.t 14) [15] ( .ops [] [⟨some 5,.mov (.t 15),none⟩]) ( .block 1 ( .seq ( .ops [] [⟨some 16,.mov (.t 5),none⟩,⟨some 17,.call (.c (.fn 204 [] [])) [(.t 16)],none⟩,⟨some 5,.mov (.t 17),none⟩]) ( .seq ( .ops [] [⟨some 18,.mov (.t 5),none⟩,⟨some 19,.call (.c (.fn 144 [] [])) [(.t 18)],none⟩,⟨some 20,.un .not (.t 19),none⟩]) ( .cond (.t 20) ( .ops [] [⟨some 21,.load false 1 (.t 4),none⟩,⟨some 22,.mov (.t 5),none⟩,⟨some 23,.bsl none none .nils 1 [(0,(.t 22))],none⟩,⟨some 24,.app none 24 (.t 21) (.t 23),none⟩,⟨none,.store 1 (.t 4) (.t 24),none⟩]) ( .skip)))))))) (
.seq (
.seq (
.ops [] [⟨some 6,.mov (.c (.bool true)),none⟩]) (
.block 2 ( .loop ( .seq ( .seq ( .ops [] [⟨some 25,.mov (.t 6),none⟩]) ( .cond (.t 25) ( .skip) ( .exit 2))) ( .block 3 ( .scope ( .seq ( .ops [] [⟨some 6,.mov (.c (.bool false)),none⟩]) ( .seq ( .label 0) ( .seq ( .ops [] [⟨some 26,.load false 1 (.t 4),none⟩,⟨some 27,.len (.t 26),none⟩,⟨some 28,.mov (.c (.int .i64 0)),none⟩]) ( .block 4 ( .loop ( .seq ( .ops [] [⟨some 29,.bin .lss (.t 28) (.t 27),none⟩]) ( .seq ( .cond (.t 29) ( .skip) ( .exit 4)) ( .seq ( .block 5 ( .seq ( .ops [] [⟨some 30,.mov (.t 28),none⟩,⟨some 7,.mov (.t 30),none⟩]) ( .seq ( .ops [] [⟨some 31,.mov (.t 7),none⟩,⟨some 32,.bin .add (.t 31) (.c (.int .i64 1)),none⟩,⟨some 8,.mov (.t 32),none⟩]) ( .block 6 ( .loop ( .seq ( .seq ( .ops [] [⟨some 33,.mov (.t 8),none⟩,⟨some 34,.load false 1 (.t 4),none⟩,⟨some 35,.len (.t 34),none⟩,⟨some 36,.bin .lss (.t 33) (.t 35),none⟩,⟨some 37,.mov (.t 36),none⟩,⟨some 38,.load false 1 (.t 4),(some (37,true))⟩,⟨some 39,.mov (.t 7),(some (37,true))⟩,⟨some 40,.ia 1 (.t 38) (.t 39),(some (37,true))⟩,⟨some 41,.load false 1 (.t 40),(some (37,true))⟩,⟨some 42,.len (.t 41),(some (37,true))⟩,⟨some 43,.bin .eql (.t 42) (.c (.int .i64 1)),(some (37,true))⟩,⟨some 44,.pick (.t 37) (.t 43) (.c (.bool false)),none⟩]) ( .cond (.t 44) ( .skip) ( .exit 6))) ( .seq ( .block 7 ( .seq ( .seq ( .dops [] 0 [⟨some 47,.load false 1 (.t 4),none⟩,⟨some 48,.mov (.t 8),none⟩,⟨some 49,.ia 1 (.t 47) (.t 48),none⟩,⟨some 50,.load false 1 (.t 49),none⟩,⟨some 51,.len (.t 50),none⟩,⟨some 52,.bin .neq (.t 51) (.c (.int .i64 1)),none⟩,⟨some 53,.mov (.t 52),none⟩,⟨some 54,.load false 1 (.t 4),(some (53,false))⟩,⟨some 55,.mov (.t 7),(some (53,false))⟩,⟨some 56,.ia 1 (.t 54) (.t 55),(some (53,false))⟩,⟨some 57,.load false 1 (.t 56),(some (53,false))⟩,⟨some 58,.ia 4 (.t 57) (.c (.int .i64 0)),(some (53,false))⟩,⟨some 59,.load true 4 (.t 58),(some (53,false))⟩,⟨some 60,.load false 1 (.t 4),(some (53,false))⟩,⟨some 61,.mov (.t 8),(some (53,false))⟩,⟨some 62,.ia 1 (.t 60) (.t 61),(some (53,false))⟩,⟨some 63,.load false 1 (.t 62),(some (53,false))⟩,⟨some 64,.ia 4 (.t 63) (.c (.int .i64 0)),(some (53,false))⟩,⟨some 65,.load true 4 (.t 64),(some (53,false))⟩,⟨some 66,.call (.c (.fn 205 [] [])) [(.t 59),(.t 65)],(some (53,false))⟩,⟨some 67,.un .not (.t 66),(some (53,false))⟩,⟨some 68,.pick (.t 53) (.c (.bool true)) (.t 67),none⟩] []) ( .cond (.t 68) ( .exit 7) ( .skip))) ( .seq ( .dops [] 1 [⟨some 70,.load false 1 (.t 4),none⟩,⟨some 71,.mov (.t 7),none⟩,⟨some 72,.ia 1 (.t 70) (.t 71),none⟩,⟨some 73,.load false 1 (.t 72),none⟩,⟨some 74,.ia 4 (.t 73) (.c (.int .i64 0)),none⟩,⟨some 75,.load true 4 (.t 74),none⟩,⟨some 76,.load false 1 (.t 4),none⟩,⟨some 77,.mov (.t 8),none⟩,⟨some 78,.ia 1 (.t 76) (.t 77),none⟩,⟨some 79,.load false 1 (.t 78),none⟩,⟨some 80,.ia 4 (.t 79) (.c (.int .i64 0)),none⟩,⟨some 81,.load true 4 (.t 80),none⟩,⟨some 82,.call (.c (.fn 206 [] [])) [(.t 75),(.t 81)],none⟩,⟨some 69,.mov (.t 82),none⟩,⟨some 83,.ext (.t 69) 0,none⟩,⟨some 84,.ext (.t 69) 1,none⟩,⟨some 9,.alloc (some 4) (.agg [.nils,(.int .i64 0),(.int .i64 0),.nils]) (some 0),none⟩,⟨none,.store 4 (.t 9) (.t 83),none⟩,⟨some 10,.mov (.t 84),none⟩] []) ( .seq ( .ops [] [⟨some 85,.mov (.t 10),none⟩,⟨some 86,.bin .eql (.t 85) (.c (.int .i64 0)),none⟩]) ( .cond (.t 86) ( .seq ( .ops [] [⟨some 87,.load false 1 (.t 4),none⟩,⟨some 88,.mov (.t 7),none⟩,⟨some 89,.load true 4 (.t 9),none⟩,⟨some 90,.bsl none (some 4) (.agg [.nils,(.int .i64 0),(.int .i64 0),.nils]) 1 [(0,(.t 89))],none⟩,⟨some 91,.ia 1 (.t 87) (.t 88),none⟩,⟨none,.store 1 (.t 91) (.t 90),none⟩]) ( .seq ( .ops [] [⟨some 92,.load false 1 (.t 4),none⟩,⟨some 93,.mov (.t 8),none⟩,⟨some 94,.mov (.t 8),none⟩,⟨some 95,.bin .add (.t 94) (.c (.int .i64 1)),none⟩,⟨some 96,.call (.c (.fn 207 [] [])) [(.t 92),(.t 93),(.t 95)],none⟩,⟨none,.store 1 (.t 4) (.t 96),none⟩]) ( .seq ( .ops [] [⟨some 6,.mov (.c (.bool true)),none⟩]) ( .exit 4)))) ( .skip)))))) ( .ops [] [⟨some 45,.mov (.t 8),none⟩,⟨some 46,.bin .add (.t 45) (.c (.int .i64 1)),none⟩,⟨some 8,.mov (.t 46),none⟩])))))))) ( .ops [] [⟨some 97,.bin .add (.t 28) (.c (.int .i64 1)),none⟩,⟨some 28,.mov (.t 97),none⟩]))))))))))))))) (
.seq (
.ops [] [⟨some 11,.alloc (some 1) (.agg [.nils]) none,none⟩]) (
.seq (
.seq (
.ops [] [⟨some 98,.load false 1 (.t 4),none⟩,⟨some 99,.len (.t 98),none⟩,⟨some 100,.mov (.c (.int .i64 0)),none⟩]) (
.block 8 ( .loop ( .seq ( .ops [] [⟨some 101,.bin .lss (.t 100) (.t 99),none⟩]) ( .seq ( .cond (.t 101) ( .skip) ( .exit 8)) ( .seq ( .block 9 ( .seq ( .ops [] [⟨some 102,.ia 1 (.t 98) (.t 100),none⟩,⟨some 103,.load false 1 (.t 102),none⟩,⟨some 13,.alloc none .nils none,none⟩,⟨none,.store 1 (.t 13) (.t 103),none⟩]) ( .seq ( .ops [] [⟨some 104,.fa 0 (.t 11),none⟩,⟨some 105,.load false 1 (.t 104),none⟩,⟨some 106,.mkfn 208 [] [(.t 13)],none⟩,⟨some 107,.call (.c (.fn 142 [] [])) [(.t 105),(.t 106)],none⟩,⟨some 108,.un .not (.t 107),none⟩]) ( .cond (.t 108) ( .ops [] [⟨some 109,.fa 0 (.t 11),none⟩,⟨some 110,.load false 1 (.t 109),none⟩,⟨some 111,.load false 1 (.t 13),none⟩,⟨some 112,.bsl none none .nils 1 [(0,(.t 111))],none⟩,⟨some 113,.app none 24 (.t 110) (.t 112),none⟩,⟨some 114,.fa 0 (.t 11),none⟩,⟨none,.store 1 (.t 114) (.t 113),none⟩]) ( .skip))))) ( .ops [] [⟨some 115,.bin .add (.t 100) (.c (.int .i64 1)),none⟩,⟨some 100,.mov (.t 115),none⟩]))))))) (
.seq (
.seq (
.ops [] [⟨some 116,.load true 1 (.t 11),none⟩,⟨some 117,.call (.c (.fn 66 [] [])) [(.t 116)],none⟩,⟨some 118,.un .not (.t 117),none⟩]) (
.cond (.t 118) ( .seq ( .ops [] [⟨some 119,.build [.nils] [],none⟩,⟨none,.store 1 (.t 2) (.t 119),none⟩,⟨some 3,.mov (.c (.int .i64 2)),none⟩]) ( .ret)) ( .skip))) (
.seq (
.ops [] [⟨some 120,.load true 1 (.t 11),none⟩,⟨none,.store 1 (.t 2) (.t 120),none⟩,⟨some 3,.mov (.c (.int .i64 0)),none⟩]) (
.ret))))))))⟩
def rf140 : RF := ⟨4,[.tmp 2],.seq (
.ops [] [⟨some 1,.box none (.t 0) none,none⟩,⟨some 2,.mov (.c .nilf),none⟩]) (
.seq (
.ops [] [⟨some 3,.mkfn 211 [] [(.t 1)],none⟩,⟨some 2,.mov (.t 3),none⟩]) (
.ret))⟩
def rf141 : RF := ⟨34,[.tmp 4,.tmp 5],.seq (
.ops [] [⟨some 3,.box (some 4) (.t 1) none,none⟩,⟨some 4,.mov (.c .nils),none⟩,⟨some 5,.mov (.c (.bool false)),none⟩]) (
.seq (
.seq (
.ops [] [⟨some 11,.mov (.t 0),none⟩,⟨some 12,.len (.t 11),none⟩,⟨some 13,.mov (.c (.int .i64 0)),none⟩]) (
.block 0 ( .loop ( .seq ( .ops [] [⟨some 14,.bin .lss (.t 13) (.t 12),none⟩]) ( .seq ( .cond (.t 14) ( .skip) ( .exit 0)) ( .seq ( .block 1 ( .seq ( .ops [] [⟨some 15,.mov (.t 13),none⟩,⟨some 16,.ia 4 (.t 11) (.t 13),none⟩,⟨some 17,.load true 4 (.t 16),none⟩,⟨some 7,.alloc (some 4) (.agg [.nils,(.int .i64 0),(.int .i64 0),.nils]) none,none⟩,⟨some 6,.mov (.t 15),none⟩,⟨none,.store 4 (.t 7) (.t 17),none⟩]) ( .seq ( .ops [] [⟨some 19,.load true 4 (.t 7),none⟩,⟨some 20,.load true 4 (.t 3),none⟩,⟨some 21,.call (.c (.fn 212 [] [])) [(.t 19),(.t 20)],none⟩,⟨some 18,.mov (.t 21),none⟩,⟨some 22,.ext (.t 18) 0,none⟩,⟨some 23,.ext (.t 18) 1,none⟩,⟨some 8,.alloc (some 4) (.agg [.nils,(.int .i64 0),(.int .i64 0),.nils]) none,none⟩,⟨none,.store 4 (.t 8) (.t 22),none⟩,⟨some 9,.mov (.t 23),none⟩]) ( .seq ( .ops [] [⟨some 24,.mov (.t 9),none⟩,⟨some 25,.bin .eql (.t 24) (.c (.int .i64 0)),none⟩]) ( .cond (.t 25) ( .seq ( .ops [] [⟨some 26,.mov (.t 0),none⟩,⟨some 27,.call (.c (.fn 213 [] [])) [(.t 26)],none⟩,⟨some 10,.mov (.t 27),none⟩]) ( .seq ( .ops [] [⟨some 28,.mov (.t 10),none⟩,⟨some 29,.mov (.t 6),none⟩,⟨some 30,.load true 4 (.t 8),none⟩,⟨some 31,.ia 4 (.t 28) (.t 29),none⟩,⟨none,.store 4 (.t 31) (.t 30),none⟩]) ( .seq ( .ops [] [⟨some 32,.mov (.t 10),none⟩,⟨some 4,.mov (.t 32),none⟩,⟨some 5,.mov (.c (.bool true)),none⟩]) ( .ret)))) ( .skip)))))) ( .ops [] [⟨some 33,.bin .add (.t 13) (.c (.int .i64 1)),none⟩,⟨some 13,.mov (.t 33),none⟩]))))))) (
.seq (
.ops [] [⟨some 4,.mov (.c .nils),none⟩,⟨some 5,.mov (.c (.bool false)),none⟩]) (
.ret)))⟩
def rf142 : RF := ⟨9,[.tmp 4],.seq (
.ops [] [⟨some 4,.mov (.c (.bool false)),none⟩]) (
.seq (
.ops [] [⟨some 5,.mov (.t 0),none⟩,⟨some 6,.mov (.t 1),none⟩,⟨some 7,.call (.c (.fn 214 [] [])) [(.t 5),(.t 6)],none⟩,⟨some 8,.bin .geq (.t 7) (.c (.int .i64 0)),none⟩,⟨some 4,.mov (.t 8),none⟩]) (
.ret))⟩
def rf143 : RF := ⟨6,[.tmp 2],.seq (
.ops [] [⟨some 2,.mov (.c (.bool false)),none⟩]) (
.seq (
.ops [] [⟨some 3,.mov (.t 0),none⟩,⟨some 4,.call (.c (.fn 144 [] [])) [(.t 3)],none⟩,⟨some 5,.un .not (.t 4),none⟩,⟨some 2,.mov (.t 5),none⟩]) (
.ret))⟩
def rf144 : RF := ⟨17,[.tmp 2],.seq (
.ops [] [⟨some 2,.mov (.c (.bool false)),none⟩]) (
.seq (
.ops [] [⟨some 6,.mov (.t 0),none⟩,⟨some 7,.call (.c (.fn 215 [] [])) [(.t 6),(.c (.int .i64 0))],none⟩,⟨some 5,.mov (.t 7),none⟩,⟨some 8,.ext (.t 5) 0,none⟩,⟨some 9,.ext (.t 5) 1,none⟩,⟨some 3,.mov (.t 8),none⟩,⟨some 4,.mov (.t 9),none⟩]) (
.seq (
.ops [] [⟨some 10,.mov (.t 4),none⟩,⟨some 11,.un .not (.t 10),none⟩,⟨some 12,.mov (.t 11),none⟩,⟨some 13,.mov (.t 0),(some (12,true))⟩,⟨some 14,.call (.c (.fn 216 [] [])) [(.t 13)],(some (12,true))⟩,⟨some 15,.un .not (.t 14),(some (12,true))⟩,⟨some 16,.pick (.t 12) (.t 15) (.c (.bool false)),none⟩,⟨some 2,.mov (.t 16),none⟩]) (
.ret)))⟩
def rf145 : RF := ⟨48,[.tmp 4,.tmp 5],.seq (
.ops [] [⟨some 3,.box none (.t 1) none,none⟩,⟨some 4,.mov (.c (.int .i64 0)),none⟩,⟨some 5,.mov (.c (.bool false)),none⟩]) (
.seq (
.ops [] [⟨some 6,.alloc none (.int .i64 0) none,none⟩,⟨some 7,.alloc none (.bool false) none,none⟩,⟨none,.store 1 (.t 6) (.c (.int .i64 0)),none⟩,⟨none,.store 1 (.t 7) (.c (.bool false)),none⟩]) (
.seq (
.seq (
.ops [] [⟨some 11,.mov (.t 0),none⟩]) (
.block 0 ( .rangeF (.t 11) [12] ( .ops [] [⟨some 8,.mov (.t 12),none⟩]) ( .block 1 ( .seq ( .ops [] [⟨some 14,.mov (.t 8),none⟩,⟨some 15,.load false 1 (.t 3),none⟩,⟨some 16,.call (.c (.fn 215 [] [])) [(.t 14),(.t 15)],none⟩,⟨some 13,.mov (.t 16),none⟩,⟨some 17,.ext (.t 13) 0,none⟩,⟨some 18,.ext (.t 13) 1,none⟩,⟨some 9,.mov (.t 17),none⟩,⟨some 10,.mov (.t 18),none⟩]) ( .seq ( .seq ( .ops [] [⟨some 19,.mov (.t 10),none⟩,⟨some 20,.un .not (.t 19),none⟩,⟨some 21,.mov (.t 20),none⟩,⟨some 22,.load false 1 (.t 3),(some (21,true))⟩,⟨some 23,.bin .leq (.t 22) (.c (.int .i64 1152921504606846976)),(some (21,true))⟩,⟨some 24,.pick (.t 21) (.t 23) (.c (.bool false)),none⟩,⟨some 25,.mov (.t 24),none⟩,⟨some 26,.mov (.t 8),(some (25,true))⟩,⟨some 27,.call (.c (.fn 216 [] [])) [(.t 26)],(some (25,true))⟩,⟨some 28,.pick (.t 25) (.t 27) (.c (.bool false)),none⟩]) ( .cond (.t 28) ( .ops [] [⟨some 30,.mov (.t 8),none⟩,⟨some 31,.load false 1 (.t 3),none⟩,⟨some 32,.call (.c (.fn 217 [] [])) [(.t 30),(.t 31)],none⟩,⟨some 29,.mov (.t 32),none⟩,⟨some 33,.ext (.t 29) 0,none⟩,⟨some 34,.ext (.t 29) 1,none⟩,⟨some 9,.mov (.t 33),none⟩,⟨some 10,.mov (.t 34),none⟩]) ( .skip))) ( .seq ( .ops [] [⟨some 35,.mov (.t 10),none⟩,⟨some 36,.mov (.t 35),none⟩,⟨some 37,.load false 1 (.t 7),(some (36,true))⟩,⟨some 38,.un .not (.t 37),(some (36,true))⟩,⟨some 39,.mov (.t 38),(some (36,true))⟩,⟨some 40,.mov (.t 9),(some (39,false))⟩,⟨some 41,.load false 1 (.t 6),(some (39,false))⟩,⟨some 42,.bin .lss (.t 40) (.t 41),(some (39,false))⟩,⟨some 43,.pick (.t 39) (.c (.bool true)) (.t 42),(some (36,true))⟩,⟨some 44,.pick (.t 36) (.t 43) (.c (.bool false)),none⟩]) ( .cond (.t 44) ( .ops [] [⟨some 45,.mov (.t 9),none⟩,⟨none,.store 1 (.t 6) (.t 45),none⟩,⟨none,.store 1 (.t 7) (.c (.bool true)),none⟩]) ( .skip))))))))) (
.seq (
.dops [] 0 [⟨some 46,.load false 1 (.t 6),none⟩,⟨some 47,.load false 1 (.t 7),none⟩,⟨some 4,.mov (.t 46),none⟩,⟨some 5,.mov (.t 47),none⟩] []) (
.ret))))⟩
def rf146 : RF := ⟨20,[.tmp 4,.tmp 5],.seq (
.ops [] [⟨some 2,.box (some 8) (.t 0) none,none⟩,⟨some 4,.mov (.c (.int .i64 0)),none⟩,⟨some 5,.mov (.c (.int .i64 0)),none⟩]) (
.seq (
.ops [] [⟨some 9,.load true 8 (.t 2),none⟩,⟨some 10,.mov (.t 1),none⟩,⟨some 11,.call (.c (.fn 218 [] [])) [(.t 9),(.t 10)],none⟩,⟨some 8,.mov (.t 11),none⟩,⟨some 12,.ext (.t 8) 0,none⟩,⟨some 13,.ext (.t 8) 1,none⟩,⟨some 6,.mov (.t 12),none⟩,⟨some 7,.mov (.t 13),none⟩]) (
.seq (
.seq (
.ops [] [⟨some 14,.mov (.t 7),none⟩,⟨some 15,.bin .neq (.t 14) (.c (.int .i64 0)),none⟩]) (
.cond (.t 15) ( .seq ( .ops [] [⟨some 16,.mov (.t 7),none⟩,⟨some 4,.mov (.c (.int .i64 0)),none⟩,⟨some 5,.mov (.t 16),none⟩]) ( .ret)) ( .skip))) (
.seq (
.ops [] [⟨some 17,.mov (.t 1),none⟩,⟨some 18,.mov (.t 6),none⟩,⟨some 19,.bin .add (.t 17) (.t 18),none⟩,⟨some 4,.mov (.t 19),none⟩,⟨some 5,.mov (.c (.int .i64 0)),none⟩]) (
.ret))))⟩
def rf147 : RF := ⟨54,[.tmp 4,.tmp 5],.seq (
.ops [] [⟨some 4,.mov (.c (.int .i64 0)),none⟩,⟨some 5,.mov (.c (.bool false)),none⟩]) (
.seq (
.ops [] [⟨some 10,.mov (.t 0),none⟩,⟨some 11,.len (.t 10),none⟩,⟨some 6,.mov (.t 11),none⟩]) (
.seq (
.ops [] [⟨some 12,.mov (.t 6),none⟩,⟨some 7,.mov (.c (.int .i64 0)),none⟩,⟨some 8,.mov (.t 12),none⟩]) (
.seq (
.block 0 ( .loop ( .seq ( .seq ( .ops [] [⟨some 13,.mov (.t 7),none⟩,⟨some 14,.mov (.t 8),none⟩,⟨some 15,.bin .lss (.t 13) (.t 14),none⟩]) ( .cond (.t 15) ( .skip) ( .exit 0))) ( .block 1 ( .seq ( .ops [] [⟨some 16,.mov (.t 7),none⟩,⟨some 17,.mov (.t 8),none⟩,⟨some 18,.bin .add (.t 16) (.t 17),none⟩,⟨some 19,.conv .u64 (.t 18),none⟩,⟨some 20,.bin .shr (.t 19) (.c (.int .u64 1)),none⟩,⟨some 21,.conv .i64 (.t 20),none⟩,⟨some 9,.mov (.t 21),none⟩]) ( .seq ( .ops [] [⟨some 22,.mov (.t 0),none⟩,⟨some 23,.mov (.t 9),none⟩,⟨some 24,.ia 1 (.t 22) (.t 23),none⟩,⟨some 25,.load false 1 (.t 24),none⟩,⟨some 26,.mov (.t 1),none⟩,⟨some 27,.call (.c (.fn 100 [] [])) [(.t 25),(.t 26)],none⟩]) ( .cond (.t 27) ( .ops [] [⟨some 28,.mov (.t 9),none⟩,⟨some 29,.bin .add (.t 28) (.c (.int .i64 1)),none⟩,⟨some 7,.mov (.t 29),none⟩]) ( .ops [] [⟨some 30,.mov (.t 9),none⟩,⟨some 8,.mov (.t 30),none⟩])))))))) (
.seq (
.ops [] [⟨some 31,.mov (.t 7),none⟩,⟨some 32,.mov (.t 7),none⟩,⟨some 33,.mov (.t 6),none⟩,⟨some 34,.bin .lss (.t 32) (.t 33),none⟩,⟨some 35,.mov (.t 34),none⟩,⟨some 36,.mov (.t 0),(some (35,true))⟩,⟨some 37,.mov (.t 7),(some (35,true))⟩,⟨some 38,.ia 1 (.t 36) (.t 37),(some (35,true))⟩,⟨some 39,.load false 1 (.t 38),(some (35,true))⟩,⟨some 40,.mov (.t 1),(some (35,true))⟩,⟨some 41,.bin .eql (.t 39) (.t 40),(some (35,true))⟩,⟨some 42,.mov (.t 41),(some (35,true))⟩,⟨some 43,.mov (.t 0),(some (42,false))⟩,⟨some 44,.mov (.t 7),(some (42,false))⟩,⟨some 45,.ia 1 (.t 43) (.t 44),(some (42,false))⟩,⟨some 46,.load false 1 (.t 45),(some (42,false))⟩,⟨some 47,.call (.c (.fn 219 [] [])) [(.t 46)],(some (42,false))⟩,⟨some 48,.mov (.t 47),(some (42,false))⟩,⟨some 49,.mov (.t 1),(some (48,true))⟩,⟨some 50,.call (.c (.fn 219 [] [])) [(.t 49)],(some (48,true))⟩,⟨some 51,.pick (.t 48) (.t 50) (.c (.bool false)),(some (42,false))⟩,⟨some 52,.pick (.t 42) (.c (.bool true)) (.t 51),(some (35,true))⟩,⟨some 53,.pick (.t 35) (.t 52) (.c (.bool false)),none⟩,⟨some 4,.mov (.t 31),none⟩,⟨some 5,.mov (.t 53),none⟩]) (
.ret)))))⟩
def rf148 : RF := ⟨13,[.tmp 4],.seq (
.ops [] [⟨some 2,.box (some 1) (.t 0) none,none⟩,⟨some 3,.box none (.t 1) none,none⟩,⟨some 4,.mov (.c (.bool false)),none⟩]) (
.seq (
.ops [] [⟨some 5,.load true 1 (.t 2),none⟩,⟨some 6,.call (.c (.fn 66 [] [])) [(.t 5)],none⟩,⟨some 7,.mov (.t 6),none⟩,⟨some 8,.fa 0 (.t 2),(some (7,true))⟩,⟨some 9,.load false 1 (.t 8),(some (7,true))⟩,⟨some 10,.mkfn 220 [] [(.t 3)],(some (7,true))⟩,⟨some 11,.call (.c (.fn 142 [] [])) [(.t 9),(.t 10)],(some (7,true))⟩,⟨some 12,.pick (.t 7) (.t 11) (.c (.bool false)),none⟩,⟨some 4,.mov (.t 12),none⟩]) (
.ret))⟩
def rf149 : RF := ⟨9,[.tmp 4],.seq (
.ops [] [⟨some 4,.mov (.c (.bool false)),none⟩]) (
.seq (
.ops [] [⟨some 5,.mov (.t 0),none⟩,⟨some 6,.mov (.t 1),none⟩,⟨some 7,.call (.c (.fn 222 [] [])) [(.t 5),(.t 6)],none⟩,⟨some 8,.bin .geq (.t 7) (.c (.int .i64 0)),none⟩,⟨some 4,.mov (.t 8),none⟩]) (
.ret))⟩
def rf150 : RF := ⟨9,[.tmp 4],.seq (
.ops [] [⟨some 4,.mov (.c (.bool false)),none⟩]) (
.seq (
.ops [] [⟨some 5,.mov (.t 0),none⟩,⟨some 6,.mov (.t 1),none⟩,⟨some 7,.call (.c (.fn 57 [] [])) [(.t 5),(.t 6)],none⟩,⟨some 8,.bin .geq (.t 7) (.c (.int .i64 0)),none⟩,⟨some 4,.mov (.t 8),none⟩]) (
.ret))⟩
def rf155 : RF := ⟨90,[],.seq (
.ops [] [⟨some 12,.fa 0 (.t 1),none⟩,⟨some 13,.load false 1 (.t 12),none⟩,⟨some 14,.len (.t 13),none⟩,⟨some 15,.mov (.c (.int .i64 0)),none⟩]) (
.block 0 ( .loop ( .seq ( .ops [] [⟨some 16,.bin .lss (.t 15) (.t 14),none⟩]) ( .seq ( .cond (.t 16) ( .skip) ( .exit 0)) ( .seq ( .block 1 ( .seq ( .ops [] [⟨some 17,.ia 2 (.t 13) (.t 15),none⟩,⟨some 18,.load true 2 (.t 17),none⟩,⟨some 5,.alloc (some 2) (.agg [.nils,(.int .i64 0)]) none,none⟩,⟨none,.store 2 (.t 5) (.t 18),none⟩]) ( .seq ( .ops [] [⟨some 19,.fa 0 (.t 2),none⟩,⟨some 20,.load false 1 (.t 19),none⟩,⟨some 21,.len (.t 20),none⟩,⟨some 22,.mov (.c (.int .i64 0)),none⟩]) ( .block 2 ( .loop ( .seq ( .ops [] [⟨some 23,.bin .lss (.t 22) (.t 21),none⟩]) ( .seq ( .cond (.t 23) ( .skip) ( .exit 2)) ( .seq ( .block 3 ( .seq ( .ops [] [⟨some 24,.ia 2 (.t 20) (.t 22),none⟩,⟨some 25,.load true 2 (.t 24),none⟩,⟨some 7,.alloc (some 2) (.agg [.nils,(.int .i64 0)]) none,none⟩,⟨none,.store 2 (.t 7) (.t 25),none⟩]) ( .seq ( .ops [] [⟨some 26,.fa 1 (.t 5),none⟩,⟨some 27,.load false 1 (.t 26),none⟩,⟨some 28,.fa 1 (.t 7),none⟩,⟨some 29,.load false 1 (.t 28),none⟩,⟨some 30,.bin .sub (.t 27) (.t 29),none⟩,⟨some 31,.fa 1 (.t 2),none⟩,⟨some 32,.load false 1 (.t 31),none⟩,⟨some 33,.bin .sub (.t 30) (.t 32),none⟩,⟨some 34,.call (.c (.fn 84 [] [])) [(.t 33)],none⟩,⟨some 35,.bin .add (.t 34) (.c (.int .i64 1)),none⟩,⟨some 8,.mov (.t 35),none⟩]) ( .seq ( .ops [] [⟨some 36,.fa 1 (.t 5),none⟩,⟨some 37,.load false 1 (.t 36),none⟩,⟨some 38,.fa 1 (.t 7),none⟩,⟨some 39,.load false 1 (.t 38),none⟩,⟨some 40,.bin .sub (.t 37) (.t 39),none⟩,⟨some 41,.fa 1 (.t 1),none⟩,⟨some 42,.load false 1 (.t 41),none⟩,⟨some 43,.bin .add (.t 40) (.t 42),none⟩,⟨some 44,.bin .sub (.t 43) (.c (.int .i64 1)),none⟩,⟨some 45,.call (.c (.fn 84 [] [])) [(.t 44)],none⟩,⟨some 9,.mov (.t 45),none⟩]) ( .seq ( .ops [] [⟨some 46,.mov (.t 8),none⟩,⟨some 10,.mov (.t 46),none⟩]) ( .block 4 ( .loop ( .seq ( .seq ( .ops [] [⟨some 47,.mov (.t 10),none⟩,⟨some 48,.mov (.t 9),none⟩,⟨some 49,.bin .leq (.t 47) (.t 48),none⟩]) ( .cond (.t 49) ( .skip) ( .exit 4))) ( .seq ( .block 5 ( .seq ( .ops [] [⟨some 52,.load true 2 (.t 5),none⟩,⟨some 53,.load true 2 (.t 7),none⟩,⟨some 54,.mov (.t 10),none⟩,⟨some 55,.fa 0 (.t 5),none⟩,⟨some 56,.load true 1 (.t 55),none⟩,⟨some 57,.fa 0 (.t 7),none⟩,⟨some 58,.load true 1 (.t 57),none⟩,⟨some 59,.mov (.t 10),none⟩,⟨some 60,.un .neg (.t 59),none⟩,⟨some 61,.mx [(.c (.int .i64 0)),(.t 60)],none⟩,⟨some 62,.build [.nils,(.int .i64 0),.nils,(.int .i64 0),(.int .i64 0),.nils,.nils,(.int .i64 0)] [(0,2,(.t 52)),(2,2,(.t 53)),(4,1,(.t 54)),(5,1,(.t 56)),(6,1,(.t 58)),(7,1,(.t 61))],none⟩,⟨some 11,.alloc (some 8) (.agg [.nils,(.int .i64 0),.nils,(.int .i64 0),(.int .i64 0),.nils,.nils,(.int .i64 0)]) none,none⟩,⟨none,.store 8 (.t 11) (.t 62),none⟩]) ( .seq ( .seq ( .ops [] [⟨some 63,.mov (.t 10),none⟩,⟨some 64,.bin .gtr (.t 63) (.c (.int .i64 0)),none⟩]) ( .cond (.t 64) ( .ops [] [⟨some 66,.fa 0 (.t 7),none⟩,⟨some 67,.load true 1 (.t 66),none⟩,⟨some 68,.mov (.t 10),none⟩,⟨some 69,.un .neg (.t 68),none⟩,⟨some 70,.call (.c (.fn 156 [] [])) [(.t 67),(.t 69)],none⟩,⟨some 65,.mov (.t 70),none⟩,⟨some 71,.ext (.t 65) 0,none⟩,⟨some 72,.ext (.t 65) 1,none⟩,⟨some 73,.fa 6 (.t 11),none⟩,⟨none,.store 1 (.t 73) (.t 71),none⟩]) ( .skip))) ( .seq ( .seq ( .ops [] [⟨some 74,.mov (.t 10),none⟩,⟨some 75,.bin .lss (.t 74) (.c (.int .i64 0)),none⟩]) ( .cond (.t 75) ( .ops [] [⟨some 77,.fa 0 (.t 5),none⟩,⟨some 78,.load true 1 (.t 77),none⟩,⟨some 79,.mov (.t 10),none⟩,⟨some 80,.call (.c (.fn 156 [] [])) [(.t 78),(.t 79)],none⟩,⟨some 76,.mov (.t 80),none⟩,⟨some 81,.ext (.t 76) 0,none⟩,⟨some 82,.ext (.t 76) 1,none⟩,⟨some 83,.fa 5 (.t 11),none⟩,⟨none,.store 1 (.t 83) (.t 81),none⟩]) ( .skip))) ( .seq ( .ops [] [⟨some 84,.mov (.t 0),none⟩,⟨some 85,.load true 8 (.t 11),none⟩,⟨some 86,.call (.t 84) [(.t 85)],none⟩,⟨some 87,.un .not (.t 86),none⟩]) ( .cond (.t 87) ( .ret) ( .skip))))))) ( .ops [] [⟨some 50,.mov (.t 10),none⟩,⟨some 51,.bin .add (.t 50) (.c (.int .i64 1)),none⟩,⟨some 10,.mov (.t 51),none⟩])))))))))) ( .ops [] [⟨some 88,.bin .add (.t 22) (.c (.int .i64 1)),none⟩,⟨some 22,.mov (.t 88),none⟩]))))))))) ( .ops [] [⟨some 89,.bin .add (.t 15) (.c (.int .i64 1)),none⟩,⟨some 15,.mov (.t 89),none⟩]))))))⟩
def rf156 : RF := ⟨60,[.cell 4 true 1,.tmp 5],.seq (
.ops [] [⟨some 2,.box (some 1) (.t 0) none,none⟩,⟨some 4,.alloc (some 1) (.agg [.nils]) none,none⟩,⟨some 5,.mov (.c (.int .i64 0)),none⟩]) (
.seq (
.seq (
.ops [] [⟨some 14,.load true 1 (.t 2),none⟩,⟨some 15,.call (.c (.fn 66 [] [])) [(.t 14)],none⟩,⟨some 16,.un .not (.t 15),none⟩]) (
.cond (.t 16) ( .seq ( .ops [] [⟨some 17,.build [.nils] [],none⟩,⟨none,.store 1 (.t 4) (.t 17),none⟩,⟨some 5,.mov (.c (.int .i64 1)),none⟩]) ( .ret)) ( .skip))) (
.seq (
.ops [] [⟨some 6,.mov (.c .nils),none⟩]) (
.seq (
.seq (
.ops [] [⟨some 18,.fa 0 (.t 2),none⟩,⟨some 19,.load false 1 (.t 18),none⟩,⟨some 20,.len (.t 19),none⟩,⟨some 21,.mov (.c (.int .i64 0)),none⟩]) (
.block 0 ( .loop ( .seq ( .ops [] [⟨some 22,.bin .lss (.t 21) (.t 20),none⟩]) ( .seq ( .cond (.t 22) ( .skip) ( .exit 0)) ( .seq ( .block 1 ( .seq ( .ops [] [⟨some 23,.ia 1 (.t 19) (.t 21),none⟩,⟨some 24,.load false 1 (.t 23),none⟩,⟨some 8,.mov (.t 24),none⟩]) ( .seq ( .ops [] [⟨some 25,.mov (.t 8),none⟩,⟨some 26,.len (.t 25),none⟩,⟨some 27,.mksl (some 4) (.agg [.nils,(.int .i64 0),(.int .i64 0),.nils]) 64 (.t 26) (.t 26) none,none⟩,⟨some 9,.mov (.t 27),none⟩]) ( .seq ( .seq ( .ops [] [⟨some 28,.mov (.t 8),none⟩,⟨some 29,.len (.t 28),none⟩,⟨some 30,.mov (.c (.int .i64 0)),none⟩]) ( .block 2 ( .loop ( .seq ( .ops [] [⟨some 31,.bin .lss (.t 30) (.t 29),none⟩]) ( .seq ( .cond (.t 31) ( .skip) ( .exit 2)) ( .seq ( .block 3 ( .seq ( .ops [] [⟨some 32,.mov (.t 30),none⟩,⟨some 33,.ia 4 (.t 28) (.t 30),none⟩,⟨some 34,.load true 4 (.t 33),none⟩,⟨some 11,.alloc (some 4) (.agg [.nils,(.int .i64 0),(.int .i64 0),.nils]) none,none⟩,⟨some 10,.mov (.t 32),none⟩,⟨none,.store 4 (.t 11) (.t 34),none⟩]) ( .seq ( .ops [] [⟨some 36,.load true 4 (.t 11),none⟩,⟨some 37,.mov (.t 1),none⟩,⟨some 38,.call (.c (.fn 224 [] [])) [(.t 36),(.t 37)],none⟩,⟨some 35,.mov (.t 38),none⟩,⟨some 39,.ext (.t 35) 0,none⟩,⟨some 40,.ext (.t 35) 1,none⟩,⟨some 12,.alloc (some 4) (.agg [.nils,(.int .i64 0),(.int .i64 0),.nils]) none,none⟩,⟨none,.store 4 (.t 12) (.t 39),none⟩,⟨some 13,.mov (.t 40),none⟩]) ( .seq ( .seq ( .ops [] [⟨some 41,.mov (.t 13),none⟩,⟨some 42,.bin .neq (.t 41) (.c (.int .i64 0)),none⟩]) ( .cond (.t 42) ( .seq ( .ops [] [⟨some 43,.build [.nils] [],none⟩,⟨some 44,.mov (.t 13),none⟩,⟨none,.store 1 (.t 4) (.t 43),none⟩,⟨some 5,.mov (.t 44),none⟩]) ( .ret)) ( .skip))) ( .ops [] [⟨some 45,.mov (.t 9),none⟩,⟨some 46,.mov (.t 10),none⟩,⟨some 47,.load true 4 (.t 12),none⟩,⟨some 48,.ia 4 (.t 45) (.t 46),none⟩,⟨none,.store 4 (.t 48) (.t 47),none⟩]))))) ( .ops [] [⟨some 49,.bin .add (.t 30) (.c (.int .i64 1)),none⟩,⟨some 30,.mov (.t 49),none⟩]))))))) ( .ops [] [⟨some 50,.mov (.t 6),none⟩,⟨some 51,.mov (.t 9),none⟩,⟨some 52,.bsl none none .nils 1 [(0,(.t 51))],none⟩,⟨some 53,.app none 24 (.t 50) (.t 52),none⟩,⟨some 6,.mov (.t 53),none⟩]))))) ( .ops [] [⟨some 54,.bin .add (.t 21) (.c (.int .i64 1)),none⟩,⟨some 21,.mov (.t 54),none⟩]))))))) (
.seq (
.ops [] [⟨some 55,.mov (.t 6),none⟩,⟨some 56,.call (.c (.fn 140 [] [])) [(.t 55)],none⟩,⟨some 57,.call (.c (.fn 139 [] [])) [(.t 56)],none⟩,⟨some 58,.ext (.t 57) 0,none⟩,⟨some 59,.ext (.t 57) 1,none⟩,⟨none,.store 1 (.t 4) (.t 58),none⟩,⟨some 5,.mov (.t 59),none⟩]) (
.ret)))))⟩
def rf157 : RF := ⟨6,[.tmp 4],.seq (
.ops [] [⟨some 2,.box (some 1) (.t 0) none,none⟩,⟨some 3,.box (some 1) (.t 1) none,none⟩,⟨some 4,.mov (.c .nilf),none⟩]) (
.seq (
.ops [] [⟨some 5,.mkfn 225 [] [(.t 2),(.t 3)],none⟩,⟨some 4,.mov (.t 5),none⟩]) (
.ret))⟩
def rf158 : RF := ⟨19,[.tmp 4,.tmp 5],.seq (
.ops [] [⟨some 4,.mov (.c (.int .i64 0)),none⟩,⟨some 5,.mov (.c (.int .i64 0)),none⟩]) (
.seq (
.seq (
.ops [] [⟨some 7,.mov (.t 1),none⟩,⟨some 8,.bin .lss (.t 7) (.c (.int .i64 1)),none⟩]) (
.cond (.t 8) ( .seq ( .ops [] [⟨some 4,.mov (.c (.int .i64 0)),none⟩,⟨some 5,.mov (.c (.int .i64 1)),none⟩]) ( .ret)) ( .skip))) (
.seq (
.ops [] [⟨some 9,.mov (.t 0),none⟩,⟨some 10,.mov (.t 1),none⟩,⟨some 11,.bin .quo (.t 9) (.t 10),none⟩,⟨some 6,.mov (.t 11),none⟩]) (
.seq (
.seq (
.ops [] [⟨some 12,.mov (.t 0),none⟩,⟨some 13,.mov (.t 1),none⟩,⟨some 14,.bin .rem (.t 12) (.t 13),none⟩,⟨some 15,.bin .lss (.t 14) (.c (.int .i64 0)),none⟩]) (
.cond (.t 15) ( .ops [] [⟨some 16,.mov (.t 6),none⟩,⟨some 17,.bin .sub (.t 16) (.c (.int .i64 1)),none⟩,⟨some 6,.mov (.t 17),none⟩]) ( .skip))) (
.seq (
.ops [] [⟨some 18,.mov (.t 6),none⟩,⟨some 4,.mov (.t 18),none⟩,⟨some 5,.mov (.c (.int .i64 0)),none⟩]) (
.ret)))))⟩
def rf160 : RF := ⟨74,[.cell 4 true 3,.tmp 5],.seq (
.ops [] [⟨some 3,.box (some 7) (.t 1) none,none⟩,⟨some 4,.alloc (some 3) (.agg [.nils,(.int .i64 0),.nils]) none,none⟩,⟨some 5,.mov (.c (.bool false)),none⟩]) (
.seq (
.ops [] [⟨some 10,.mov (.t 0),none⟩,⟨some 11,.fa 1 (.t 3),none⟩,⟨some 12,.load false 1 (.t 11),none⟩,⟨some 13,.ia 15 (.t 10) (.t 12),none⟩,⟨some 14,.load true 15 (.t 13),none⟩,⟨some 6,.alloc (some 15) (.agg [(.int .i64 0),(.int .i64 0),(.int .i64 0),(.int .i64 0),.nils,(.int .i64 0),.nils,(.int .i64 0),.nils,(.int .i64 0),.nils,.nils,.nils,.nils,.nils]) none,none⟩,⟨none,.store 15 (.t 6) (.t 14),none⟩]) (
.seq (
.dops [] 1 [⟨some 15,.fa 4 (.t 3),none⟩,⟨some 16,.fa 1 (.t 15),none⟩,⟨some 17,.load false 1 (.t 16),none⟩,⟨some 18,.fa 1 (.t 6),none⟩,⟨some 19,.load false 1 (.t 18),none⟩,⟨some 20,.bin .add (.t 17) (.t 19),none⟩,⟨some 21,.fa 2 (.t 6),none⟩,⟨some 22,.load false 1 (.t 21),none⟩,⟨some 23,.bin .add (.t 20) (.t 22),none⟩,⟨some 24,.fa 4 (.t 3),none⟩,⟨some 25,.fa 0 (.t 24),none⟩,⟨some 26,.load false 1 (.t 25),none⟩,⟨some 28,.fa 4 (.t 3),none⟩,⟨some 29,.fa 2 (.t 28),none⟩,⟨some 30,.load false 1 (.t 29),none⟩,⟨some 27,.call (.c (.fn 227 [] [])) [(.t 26)],none⟩,⟨some 31,.call (.c (.fn 228 [] [])) [(.t 30)],none⟩,⟨some 32,.build [.nils,(.int .i64 0),.nils] [(1,1,(.t 23)),(0,1,(.t 27)),(2,1,(.t 31))],none⟩,⟨some 7,.alloc (some 3) (.agg [.nils,(.int .i64 0),.nils]) (some 0),none⟩,⟨none,.store 3 (.t 7) (.t 32),none⟩] []) (
.seq (
.seq (
.ops [] [⟨some 33,.fa 0 (.t 7),none⟩,⟨some 34,.load false 1 (.t 33),none⟩,⟨some 35,.len (.t 34),none⟩,⟨some 36,.mov (.c (.int .i64 0)),none⟩]) (
.block 0 ( .loop ( .seq ( .ops [] [⟨some 37,.bin .lss (.t 36) (.t 35),none⟩]) ( .seq ( .cond (.t 37) ( .skip) ( .exit 0)) ( .seq ( .block 1 ( .seq ( .ops [] [⟨some 38,.mov (.t 36),none⟩,⟨some 8,.mov (.t 38),none⟩]) ( .dops [] 0 [⟨some 39,.fa 0 (.t 7),none⟩,⟨some 40,.load false 1 (.t 39),none⟩,⟨some 41,.mov (.t 8),none⟩,⟨some 42,.ia 2 (.t 40) (.t 41),none⟩,⟨some 43,.fa 1 (.t 42),none⟩,⟨some 44,.load false 1 (.t 43),none⟩,⟨some 45,.fa 1 (.t 6),none⟩,⟨some 46,.load false 1 (.t 45),none⟩,⟨some 47,.bin .sub (.t 44) (.t 46),none⟩,⟨some 48,.ia 2 (.t 40) (.t 41),none⟩,⟨some 49,.fa 1 (.t 48),none⟩,⟨none,.store 1 (.t 49) (.t 47),none⟩] []))) ( .ops [] [⟨some 50,.bin .add (.t 36) (.c (.int .i64 1)),none⟩,⟨some 36,.mov (.t 50),none⟩]))))))) (
.seq (
.seq (
.ops [] [⟨some 51,.fa 2 (.t 7),none⟩,⟨some 52,.load false 1 (.t 51),none⟩,⟨some 53,.len (.t 52),none⟩,⟨some 54,.mov (.c (.int .i64 0)),none⟩]) (
.block 2 ( .loop ( .seq ( .ops [] [⟨some 55,.bin .lss (.t 54) (.t 53),none⟩]) ( .seq ( .cond (.t 55) ( .skip) ( .exit 2)) ( .seq ( .block 3 ( .seq ( .ops [] [⟨some 56,.mov (.t 54),none⟩,⟨some 9,.mov (.t 56),none⟩]) ( .dops [] 0 [⟨some 57,.fa 2 (.t 7),none⟩,⟨some 58,.load false 1 (.t 57),none⟩,⟨some 59,.mov (.t 9),none⟩,⟨some 60,.load true 15 (.t 6),none⟩,⟨some 61,.fa 2 (.t 7),none⟩,⟨some 62,.load false 1 (.t 61),none⟩,⟨some 63,.mov (.t 9),none⟩,⟨some 64,.ia 3 (.t 62) (.t 63),none⟩,⟨some 65,.fa 1 (.t 64),none⟩,⟨some 66,.load true 2 (.t 65),none⟩,⟨some 67,.call (.c (.fn 112 [] [])) [(.t 60),(.t 66)],none⟩,⟨some 68,.ia 3 (.t 58) (.t 59),none⟩,⟨some 69,.fa 1 (.t 68),none⟩,⟨none,.store 2 (.t 69) (.t 67),none⟩] []))) ( .ops [] [⟨some 70,.bin .add (.t 54) (.c (.int .i64 1)),none⟩,⟨some 54,.mov (.t 70),none⟩]))))))) (
.seq (
.dops [] 0 [⟨some 71,.load true 3 (.t 7),none⟩,⟨some 72,.load true 3 (.t 7),none⟩,⟨some 73,.call (.c (.fn 41 [] [])) [(.t 72)],none⟩,⟨none,.store 3 (.t 4) (.t 71),none⟩,⟨some 5,.mov (.t 73),none⟩] []) (
.ret))))))⟩
def rf162 : RF := ⟨83,[.tmp 2,.tmp 3],.seq (
.ops [] [⟨some 2,.mov (.c (.int .i64 0)),none⟩,⟨some 3,.mov (.c (.bool false)),none⟩]) (
.seq (
.ops [] [⟨some 4,.mov (.c (.int .i64 0)),none⟩,⟨some 5,.mov (.c (.int .i64 7)),none⟩]) (
.seq (
.seq (
.ops [] [⟨some 16,.mov (.t 0),none⟩,⟨some 17,.len (.t 16),none⟩,⟨some 18,.mov (.c (.int .i64 0)),none⟩]) (
.block 0 ( .loop ( .seq ( .ops [] [⟨some 19,.bin .lss (.t 18) (.t 17),none⟩]) ( .seq ( .cond (.t 19) ( .skip) ( .exit 0)) ( .seq ( .block 1 ( .seq ( .ops [] [⟨some 20,.ia 3 (.t 16) (.t 18),none⟩,⟨some 21,.load true 3 (.t 20),none⟩,⟨some 7,.alloc (some 3) (.agg [.nils,(.int .i64 0),.nils]) none,none⟩,⟨none,.store 3 (.t 7) (.t 21),none⟩]) ( .seq ( .seq ( .ops [] [⟨some 22,.fa 0 (.t 7),none⟩,⟨some 23,.load false 1 (.t 22),none⟩,⟨some 24,.len (.t 23),none⟩,⟨some 25,.mov (.c (.int .i64 0)),none⟩]) ( .block 2 ( .loop ( .seq ( .ops [] [⟨some 26,.bin .lss (.t 25) (.t 24),none⟩]) ( .seq ( .cond (.t 26) ( .skip) ( .exit 2)) ( .seq ( .block 3 ( .seq ( .ops [] [⟨some 27,.ia 2 (.t 23) (.t 25),none⟩,⟨some 28,.load true 2 (.t 27),none⟩,⟨some 9,.alloc (some 2) (.agg [.nils,(.int .i64 0)]) none,none⟩,⟨none,.store 2 (.t 9) (.t 28),none⟩]) ( .seq ( .ops [] [⟨some 30,.fa 0 (.t 9),none⟩,⟨some 31,.load true 1 (.t 30),none⟩,⟨some 32,.call (.c (.fn 229 [] [])) [(.t 31)],none⟩,⟨some 29,.mov (.t 32),none⟩,⟨some 33,.ext (.t 29) 0,none⟩,⟨some 34,.ext (.t 29) 1,none⟩,⟨some 10,.alloc (some 4) (.agg [.nils,(.int .i64 0),(.int .i64 0),.nils]) none,none⟩,⟨none,.store 4 (.t 10) (.t 33),none⟩,⟨some 11,.mov (.t 34),none⟩]) ( .seq ( .seq ( .ops [] [⟨some 35,.mov (.t 11),none⟩,⟨some 36,.bin .neq (.t 35) (.c (.int .i64 0)),none⟩]) ( .cond (.t 36) ( .seq ( .ops [] [⟨some 2,.mov (.c (.int .i64 0)),none⟩,⟨some 3,.mov (.c (.bool false)),none⟩]) ( .ret)) ( .skip))) ( .seq ( .seq ( .ops [] [⟨some 38,.mov (.t 5),none⟩,⟨some 39,.fa 2 (.t 10),none⟩,⟨some 40,.load false 1 (.t 39),none⟩,⟨some 41,.call (.c (.fn 230 [] [])) [(.t 38),(.t 40)],none⟩,⟨some 37,.mov (.t 41),none⟩,⟨some 42,.ext (.t 37) 0,none⟩,⟨some 43,.ext (.t 37) 1,none⟩,⟨some 5,.mov (.t 42),none⟩,⟨some 11,.mov (.t 43),none⟩]) ( .seq ( .ops [] [⟨some 44,.mov (.t 11),none⟩,⟨some 45,.bin .neq (.t 44) (.c (.int .i64 0)),none⟩,⟨some 46,.mov (.t 45),none⟩,⟨some 47,.mov (.t 5),(some (46,false))⟩,⟨some 48,.bin .gtr (.t 47) (.c (.int .i64 4194304)),(some (46,false))⟩,⟨some 49,.pick (.t 46) (.c (.bool true)) (.t 48),none⟩]) ( .cond (.t 49) ( .seq ( .ops [] [⟨some 2,.mov (.c (.int .i64 0)),none⟩,⟨some 3,.mov (.c (.bool false)),none⟩]) ( .ret)) ( .skip)))) ( .ops [] [⟨some 50,.mov (.t 4),none⟩,⟨some 51,.fa 1 (.t 10),none⟩,⟨some 52,.load false 1 (.t 51),none⟩,⟨some 53,.mx [(.t 50),(.t 52)],none⟩,⟨some 4,.mov (.t 53),none⟩])))))) ( .ops [] [⟨some 54,.bin .add (.t 25) (.c (.int .i64 1)),none⟩,⟨some 25,.mov (.t 54),none⟩]))))))) ( .seq ( .ops [] [⟨some 55,.fa 2 (.t 7),none⟩,⟨some 56,.load false 1 (.t 55),none⟩,⟨some 57,.len (.t 56),none⟩,⟨some 58,.mov (.c (.int .i64 0)),none⟩]) ( .block 4 ( .loop ( .seq ( .ops [] [⟨some 59,.bin .lss (.t 58) (.t 57),none⟩]) ( .seq ( .cond (.t 59) ( .skip) ( .exit 4)) ( .seq ( .block 5 ( .seq ( .ops [] [⟨some 60,.ia 3 (.t 56) (.t 58),none⟩,⟨some 61,.load true 3 (.t 60),none⟩,⟨some 13,.alloc (some 3) (.agg [(.int .i64 0),(.int .i64 0),(.int .i64 0)]) none,none⟩,⟨none,.store 3 (.t 13) (.t 61),none⟩]) ( .seq ( .ops [] [⟨some 63,.fa 1 (.t 13),none⟩,⟨some 64,.fa 0 (.t 63),none⟩,⟨some 65,.load false 1 (.t 64),none⟩,⟨some 66,.call (.c (.fn 158 [] [])) [(.t 65),(.c (.int .i64 1440))],none⟩,⟨some 62,.mov (.t 66),none⟩,⟨some 67,.ext (.t 62) 0,none⟩,⟨some 68,.ext (.t 62) 1,none⟩,⟨some 14,.mov (.t 67),none⟩,⟨some 15,.mov (.t 68),none⟩]) ( .ops [] [⟨some 69,.mov (.t 4),none⟩,⟨some 70,.mov (.t 14),none⟩,⟨some 71,.mx [(.t 69),(.t 70)],none⟩,⟨some 4,.mov (.t 71),none⟩])))) ( .ops [] [⟨some 72,.bin .add (.t 58) (.c (.int .i64 1)),none⟩,⟨some 58,.mov (.t 72),none⟩])))))))))) ( .ops [] [⟨some 73,.bin .add (.t 18) (.c (.int .i64 1)),none⟩,⟨some 18,.mov (.t 73),none⟩]))))))) (
.seq (
.ops [] [⟨some 74,.mov (.t 4),none⟩,⟨some 75,.bin .add (.t 74) (.c (.int .i64 15)),none⟩,⟨some 76,.mov (.t 5),none⟩,⟨some 77,.bin .add (.t 75) (.t 76),none⟩,⟨some 78,.mov (.t 4),none⟩,⟨some 79,.bin .add (.t 78) (.c (.int .i64 15)),none⟩,⟨some 80,.mov (.t 5),none⟩,⟨some 81,.bin .add (.t 79) (.t 80),none⟩,⟨some 82,.bin .leq (.t 81) (.c (.int .i64 4194304)),none⟩,⟨some 2,.mov (.t 77),none⟩,⟨some 3,.mov (.t 82),none⟩]) (
.ret))))⟩
def rf163 : RF := ⟨33,[.tmp 6],.seq (
.ops [] [⟨some 6,.mov (.c .nils),none⟩]) (
.seq (
.ops [] [⟨some 7,.mov (.c .nils),none⟩]) (
.seq (
.seq (
.ops [] [⟨some 10,.mov (.t 0),none⟩,⟨some 11,.len (.t 10),none⟩,⟨some 12,.mov (.c (.int .i64 0)),none⟩]) (
.block 0 ( .loop ( .seq ( .ops [] [⟨some 13,.bin .lss (.t 12) (.t 11),none⟩]) ( .seq ( .cond (.t 13) ( .skip) ( .exit 0)) ( .seq ( .block 1 ( .seq ( .ops [] [⟨some 14,.ia 7 (.t 10) (.t 12),none⟩,⟨some 15,.load true 7 (.t 14),none⟩,⟨some 9,.alloc (some 7) (.agg [(.int .i64 0),(.int .i64 0),(.int .i64 0),(.int .i64 0),.nils,(.int .i64 0),.nils]) none,none⟩,⟨none,.store 7 (.t 9) (.t 15),none⟩]) ( .seq ( .ops [] [⟨some 16,.fa 1 (.t 9),none⟩,⟨some 17,.load false 1 (.t 16),none⟩,⟨some 18,.mov (.t 1),none⟩,⟨some 19,.bin .eql (.t 17) (.t 18),none⟩,⟨some 20,.mov (.t 19),none⟩,⟨some 21,.fa 2 (.t 9),(some (20,true))⟩,⟨some 22,.load false 1 (.t 21),(some (20,true))⟩,⟨some 23,.mov (.t 2),(some (20,true))⟩,⟨some 24,.bin .eql (.t 22) (.t 23),(some (20,true))⟩,⟨some 25,.pick (.t 20) (.t 24) (.c (.bool false)),none⟩]) ( .cond (.t 25) ( .ops [] [⟨some 26,.mov (.t 7),none⟩,⟨some 27,.fa 4 (.t 9),none⟩,⟨some 28,.load true 3 (.t 27),none⟩,⟨some 29,.bsl none (some 3) (.agg [.nils,(.int .i64 0),.nils]) 1 [(0,(.t 28))],none⟩,⟨some 30,.app (some 3) 56 (.t 26) (.t 29),none⟩,⟨some 7,.mov (.t 30),none⟩]) ( .skip))))) ( .ops [] [⟨some 31,.bin .add (.t 12) (.c (.int .i64 1)),none⟩,⟨some 12,.mov (.t 31),none⟩]))))))) (
.seq (
.ops [] [⟨some 32,.mov (.t 7),none⟩,⟨some 6,.mov (.t 32),none⟩]) (
.ret))))⟩
def rf164 : RF := ⟨53,[],.seq (
.ops [] [⟨some 10,.mov (.t 1),none⟩,⟨some 11,.bin .add (.t 10) (.c (.int .i64 1)),none⟩,⟨some 8,.mov (.t 11),none⟩]) (
.block 0 ( .loop ( .seq ( .seq ( .ops [] [⟨some 12,.mov (.t 8),none⟩,⟨some 13,.mov (.t 2),none⟩,⟨some 14,.bin .lss (.t 12) (.t 13),none⟩]) ( .cond (.t 14) ( .skip) ( .exit 0))) ( .seq ( .block 1 ( .seq ( .ops [] [⟨some 17,.mov (.t 8),none⟩,⟨some 9,.mov (.t 17),none⟩]) ( .block 2 ( .loop ( .seq ( .seq ( .dops [] 0 [⟨some 18,.mov (.t 9),none⟩,⟨some 19,.mov (.t 1),none⟩,⟨some 20,.bin .gtr (.t 18) (.t 19),none⟩,⟨some 21,.mov (.t 20),none⟩,⟨some 22,.mov (.t 3),(some (21,true))⟩,⟨some 23,.mov (.t 0),(some (21,true))⟩,⟨some 24,.mov (.t 9),(some (21,true))⟩,⟨some 25,.ia 4 (.t 23) (.t 24),(some (21,true))⟩,⟨some 26,.load true 4 (.t 25),(some (21,true))⟩,⟨some 27,.mov (.t 0),(some (21,true))⟩,⟨some 28,.mov (.t 9),(some (21,true))⟩,⟨some 29,.bin .sub (.t 28) (.c (.int .i64 1)),(some (21,true))⟩,⟨some 30,.ia 4 (.t 27) (.t 29),(some (21,true))⟩,⟨some 31,.load true 4 (.t 30),(some (21,true))⟩,⟨some 32,.call (.t 22) [(.t 26),(.t 31)],(some (21,true))⟩,⟨some 33,.bin .lss (.t 32) (.c (.int .i64 0)),(some (21,true))⟩,⟨some 34,.pick (.t 21) (.t 33) (.c (.bool false)),none⟩] []) ( .cond (.t 34) ( .skip) ( .exit 2))) ( .seq ( .block 3 ( .dops [] 0 [⟨some 37,.mov (.t 0),none⟩,⟨some 38,.mov (.t 9),none⟩,⟨some 39,.mov (.t 0),none⟩,⟨some 40,.mov (.t 9),none⟩,⟨some 41,.bin .sub (.t 40) (.c (.int .i64 1)),none⟩,⟨some 42,.mov (.t 0),none⟩,⟨some 43,.mov (.t 9),none⟩,⟨some 44,.bin .sub (.t 43) (.c (.int .i64 1)),none⟩,⟨some 45,.ia 4 (.t 42) (.t 44),none⟩,⟨some 46,.load true 4 (.t 45),none⟩,⟨some 47,.mov (.t 0),none⟩,⟨some 48,.mov (.t 9),none⟩,⟨some 49,.ia 4 (.t 47) (.t 48),none⟩,⟨some 50,.load true 4 (.t 49),none⟩,⟨some 51,.ia 4 (.t 37) (.t 38),none⟩,⟨none,.store 4 (.t 51) (.t 46),none⟩,⟨some 52,.ia 4 (.t 39) (.t 41),none⟩,⟨none,.store 4 (.t 52) (.t 50),none⟩] [])) ( .ops [] [⟨some 35,.mov (.t 9),none⟩,⟨some 36,.bin .sub (.t 35) (.c (.int .i64 1)),none⟩,⟨some 9,.mov (.t 36),none⟩]))))))) ( .ops [] [⟨some 15,.mov (.t 8),none⟩,⟨some 16,.bin .add (.t 15) (.c (.int .i64 1)),none⟩,⟨some 8,.mov (.t 16),none⟩])))))⟩
def rf177 : RF := ⟨9,[.tmp 4],.seq (
.ops [] [⟨some 3,.box (some 3) (.t 1) none,none⟩,⟨some 4,.mov (.c (.bool false)),none⟩]) (
.seq (
.ops [] [⟨some 5,.mov (.t 0),none⟩,⟨some 6,.load true 3 (.t 3),none⟩,⟨some 7,.call (.c (.fn 235 [] [])) [(.t 5),(.t 6)],none⟩,⟨some 8,.bin .geq (.t 7) (.c (.int .i64 0)),none⟩,⟨some 4,.mov (.t 8),none⟩]) (
.ret))⟩
def rf178 : RF := ⟨9,[.tmp 4],.seq (
.ops [] [⟨some 4,.mov (.c (.bool false)),none⟩]) (
.seq (
.ops [] [⟨some 5,.mov (.t 0),none⟩,⟨some 6,.mov (.t 1),none⟩,⟨some 7,.call (.c (.fn 236 [] [])) [(.t 5),(.t 6)],none⟩,⟨some 8,.bin .geq (.t 7) (.c (.int .i64 0)),none⟩,⟨some 4,.mov (.t 8),none⟩]) (
.ret))⟩
def rf179 : RF := ⟨24,[.tmp 4],.seq (
.ops [] [⟨some 3,.box (some 2) (.t 0) none,none⟩,⟨some 4,.mov (.c (.bool false)),none⟩]) (
.seq (
.dops [] 0 [⟨some 5,.fa 0 (.t 1),none⟩,⟨some 6,.load false 1 (.t 5),none⟩,⟨some 7,.call (.c (.fn 68 [] [])) [(.t 6),(.c (.int .i64 0)),(.c (.int .i64 2199023255552))],none⟩,⟨some 8,.mov (.t 7),none⟩,⟨some 9,.load true 3 (.t 2),(some (8,true))⟩,⟨some 10,.load true 2 (.t 3),(some (8,true))⟩,⟨some 11,.fa 0 (.t 1),(some (8,true))⟩,⟨some 12,.load false 1 (.t 11),(some (8,true))⟩,⟨some 13,.call (.c (.fn 180 [] [])) [(.t 9),(.t 10),(.t 12)],(some (8,true))⟩,⟨some 14,.load true 3 (.t 1),(some (8,true))⟩,⟨some 15,.eqs false [.int,.int,.int] (.t 13) (.t 14),(some (8,true))⟩,⟨some 16,.pick (.t 8) (.t 15) (.c (.bool false)),none⟩,⟨some 17,.mov (.t 16),none⟩,⟨some 18,.fa 0 (.t 3),(some (17,true))⟩,⟨some 19,.load true 1 (.t 18),(some (17,true))⟩,⟨some 20,.fa 0 (.t 1),(some (17,true))⟩,⟨some 21,.load false 1 (.t 20),(some (17,true))⟩,⟨some 22,.call (.c (.fn 148 [] [])) [(.t 19),(.t 21)],(some (17,true))⟩,⟨some 23,.pick (.t 17) (.t 22) (.c (.bool false)),none⟩,⟨some 4,.mov (.t 23),none⟩] []) (
.ret))⟩
def rf180 : RF := ⟨21,[.cell 6 true 3],.seq (
.ops [] [⟨some 3,.box (some 3) (.t 0) none,none⟩,⟨some 4,.box (some 2) (.t 1) none,none⟩,⟨some 6,.alloc (some 3) (.agg [(.int .i64 0),(.int .i64 0),(.int .i64 0)]) none,none⟩]) (
.seq (
.ops [] [⟨some 8,.mov (.t 2),none⟩,⟨some 9,.bin .mul (.t 8) (.c (.int .i64 1440)),none⟩,⟨some 10,.fa 1 (.t 4),none⟩,⟨some 11,.load false 1 (.t 10),none⟩,⟨some 12,.bin .add (.t 9) (.t 11),none⟩,⟨some 7,.mov (.t 12),none⟩]) (
.seq (
.ops [] [⟨some 13,.mov (.t 2),none⟩,⟨some 14,.mov (.t 7),none⟩,⟨some 15,.mov (.t 7),none⟩,⟨some 16,.fa 1 (.t 3),none⟩,⟨some 17,.load false 1 (.t 16),none⟩,⟨some 18,.bin .add (.t 15) (.t 17),none⟩,⟨some 19,.build [(.int .i64 0),(.int .i64 0)] [(0,1,(.t 14)),(1,1,(.t 18))],none⟩,⟨some 20,.build [(.int .i64 0),(.int .i64 0),(.int .i64 0)] [(0,1,(.t 13)),(1,2,(.t 19))],none⟩,⟨none,.store 3 (.t 6) (.t 20),none⟩]) (
.ret)))⟩
def rf181 : RF := ⟨25,[],.seq (
.ops [] [⟨some 7,.load false 1 (.t 1),none⟩,⟨some 8,.len (.t 7),none⟩,⟨some 9,.mov (.c (.int .i64 0)),none⟩]) (
.block 0 ( .loop ( .seq ( .ops [] [⟨some 10,.bin .lss (.t 9) (.t 8),none⟩]) ( .seq ( .cond (.t 10) ( .skip) ( .exit 0)) ( .seq ( .block 1 ( .seq ( .ops [] [⟨some 11,.ia 7 (.t 7) (.t 9),none⟩,⟨some 12,.load true 7 (.t 11),none⟩,⟨some 6,.alloc (some 7) (.agg [(.int .i64 0),(.int .i64 0),(.int .i64 0),(.int .i64 0),.nils,(.int .i64 0),.nils]) none,none⟩,⟨none,.store 7 (.t 6) (.t 12),none⟩]) ( .seq ( .ops [] [⟨some 13,.load false 1 (.t 2),none⟩,⟨some 14,.fa 1 (.t 6),none⟩,⟨some 15,.load false 1 (.t 14),none⟩,⟨some 16,.load false 1 (.t 3),none⟩,⟨some 17,.call (.c (.fn 78 [] [])) [(.t 13),(.t 15),(.t 16)],none⟩,⟨some 18,.mov (.t 17),none⟩,⟨some 19,.mov (.t 0),(some (18,true))⟩,⟨some 20,.load true 7 (.t 6),(some (18,true))⟩,⟨some 21,.call (.t 19) [(.t 20)],(some (18,true))⟩,⟨some 22,.un .not (.t 21),(some (18,true))⟩,⟨some 23,.pick (.t 18) (.t 22) (.c (.bool false)),none⟩]) ( .cond (.t 23) ( .ret) ( .skip))))) ( .ops [] [⟨some 24,.bin .add (.t 9) (.c (.int .i64 1)),none⟩,⟨some 9,.mov (.t 24),none⟩]))))))⟩
def rf183 : RF := ⟨14,[],.seq (
.ops [] [⟨some 5,.mov (.t 0),none⟩,⟨some 6,.len (.t 5),none⟩,⟨some 4,.mov (.t 6),none⟩]) (
.ops [] [⟨some 7,.mov (.t 0),none⟩,⟨some 8,.mov (.t 4),none⟩,⟨some 9,.mov (.t 4),none⟩,⟨some 10,.conv .u64 (.t 9),none⟩,⟨some 11,.call (.c (.fn 56 [] [])) [(.t 10)],none⟩,⟨some 12,.mov (.t 1),none⟩,⟨some 13,.call (.c (.fn 237 [] [])) [(.t 7),(.c (.int .i64 0)),(.t 8),(.t 11),(.t 12)],none⟩])⟩
def rf184 : RF := ⟨26,[.tmp 4],.seq (
.ops [] [⟨some 2,.box (some 3) (.t 0) none,none⟩,⟨some 3,.box (some 3) (.t 1) none,none⟩,⟨some 4,.mov (.c (.int .i64 0)),none⟩]) (
.seq (
.dops [] 0 [⟨some 5,.fa 1 (.t 2),none⟩,⟨some 6,.fa 0 (.t 5),none⟩,⟨some 7,.load false 1 (.t 6),none⟩,⟨some 8,.fa 1 (.t 3),none⟩,⟨some 9,.fa 0 (.t 8),none⟩,⟨some 10,.load false 1 (.t 9),none⟩,⟨some 11,.call (.c (.fn 43 [] [])) [(.t 7),(.t 10)],none⟩,⟨some 12,.fa 0 (.t 2),none⟩,⟨some 13,.load false 1 (.t 12),none⟩,⟨some 14,.fa 0 (.t 3),none⟩,⟨some 15,.load false 1 (.t 14),none⟩,⟨some 16,.call (.c (.fn 43 [] [])) [(.t 13),(.t 15)],none⟩,⟨some 17,.fa 1 (.t 2),none⟩,⟨some 18,.fa 1 (.t 17),none⟩,⟨some 19,.load false 1 (.t 18),none⟩,⟨some 20,.fa 1 (.t 3),none⟩,⟨some 21,.fa 1 (.t 20),none⟩,⟨some 22,.load false 1 (.t 21),none⟩,⟨some 23,.call (.c (.fn 43 [] [])) [(.t 19),(.t 22)],none⟩,⟨some 24,.bsl none none (.int .i64 0) 3 [(0,(.t 11)),(1,(.t 16)),(2,(.t 23))],none⟩,⟨some 25,.call (.c (.fn 42 [] [])) [(.t 24)],none⟩,⟨some 4,.mov (.t 25),none⟩] []) (
.ret))⟩ end Go.S32
