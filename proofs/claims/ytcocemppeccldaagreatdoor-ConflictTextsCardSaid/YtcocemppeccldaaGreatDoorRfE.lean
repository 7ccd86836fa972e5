/- Functions of the program as abstract code: that they are such is proved in the texts C. -/
import Derived.Test.YtcocemppeccldaaGreatDoorAiF
set_option linter.unusedVariables false
set_option linter.unusedSimpArgs false
set_option maxRecDepth 100000
namespace Go.S32
open Go Go.Ai def rf185 : RF := ⟨61,[.tmp 2],.seq (
.ops [] [⟨some 2,.mov (.c .nils),none⟩]) (
.seq (
.seq (
.ops [] [⟨some 6,.mov (.t 0),none⟩,⟨some 7,.len (.t 6),none⟩,⟨some 8,.bin .lss (.t 7) (.c (.int .i64 2)),none⟩]) (
.cond (.t 8) ( .seq ( .ops [] [⟨some 9,.mov (.t 0),none⟩,⟨some 2,.mov (.t 9),none⟩]) ( .ret)) ( .skip))) (
.seq (
.seq (
.ops [] [⟨some 3,.mov (.c (.int .i64 1)),none⟩]) (
.block 0 ( .loop ( .seq ( .seq ( .ops [] [⟨some 10,.mov (.t 3),none⟩,⟨some 11,.mov (.t 0),none⟩,⟨some 12,.len (.t 11),none⟩,⟨some 13,.bin .lss (.t 10) (.t 12),none⟩]) ( .cond (.t 13) ( .skip) ( .exit 0))) ( .seq ( .block 1 ( .seq ( .dops [] 0 [⟨some 16,.mov (.t 0),none⟩,⟨some 17,.mov (.t 3),none⟩,⟨some 18,.ia 3 (.t 16) (.t 17),none⟩,⟨some 19,.load true 3 (.t 18),none⟩,⟨some 20,.mov (.t 0),none⟩,⟨some 21,.mov (.t 3),none⟩,⟨some 22,.bin .sub (.t 21) (.c (.int .i64 1)),none⟩,⟨some 23,.ia 3 (.t 20) (.t 22),none⟩,⟨some 24,.load true 3 (.t 23),none⟩,⟨some 25,.eqs false [.int,.int,.int] (.t 19) (.t 24),none⟩] []) ( .cond (.t 25) ( .seq ( .ops [] [⟨some 26,.mov (.t 0),none⟩,⟨some 27,.mov (.t 3),none⟩,⟨some 28,.slice 3 (.t 26) (some (.t 27)) none none,none⟩,⟨some 4,.mov (.t 28),none⟩]) ( .seq ( .seq ( .ops [] [⟨some 5,.mov (.c (.int .i64 1)),none⟩]) ( .block 2 ( .loop ( .seq ( .seq ( .ops [] [⟨some 29,.mov (.t 5),none⟩,⟨some 30,.mov (.t 4),none⟩,⟨some 31,.len (.t 30),none⟩,⟨some 32,.bin .lss (.t 29) (.t 31),none⟩]) ( .cond (.t 32) ( .skip) ( .exit 2))) ( .seq ( .block 3 ( .seq ( .dops [] 0 [⟨some 35,.mov (.t 4),none⟩,⟨some 36,.mov (.t 5),none⟩,⟨some 37,.ia 3 (.t 35) (.t 36),none⟩,⟨some 38,.load true 3 (.t 37),none⟩,⟨some 39,.mov (.t 4),none⟩,⟨some 40,.mov (.t 5),none⟩,⟨some 41,.bin .sub (.t 40) (.c (.int .i64 1)),none⟩,⟨some 42,.ia 3 (.t 39) (.t 41),none⟩,⟨some 43,.load true 3 (.t 42),none⟩,⟨some 44,.eqs true [.int,.int,.int] (.t 38) (.t 43),none⟩] []) ( .cond (.t 44) ( .seq ( .ops [] [⟨some 45,.mov (.t 0),none⟩,⟨some 46,.mov (.t 3),none⟩,⟨some 47,.mov (.t 4),none⟩,⟨some 48,.mov (.t 5),none⟩,⟨some 49,.ia 3 (.t 47) (.t 48),none⟩,⟨some 50,.load true 3 (.t 49),none⟩,⟨some 51,.ia 3 (.t 45) (.t 46),none⟩,⟨none,.store 3 (.t 51) (.t 50),none⟩]) ( .ops [] [⟨some 52,.mov (.t 3),none⟩,⟨some 53,.bin .add (.t 52) (.c (.int .i64 1)),none⟩,⟨some 3,.mov (.t 53),none⟩])) ( .skip)))) ( .ops [] [⟨some 33,.mov (.t 5),none⟩,⟨some 34,.bin .add (.t 33) (.c (.int .i64 1)),none⟩,⟨some 5,.mov (.t 34),none⟩])))))) ( .seq ( .ops [] [⟨some 54,.mov (.t 0),none⟩,⟨some 55,.mov (.t 3),none⟩,⟨some 56,.slice 3 (.t 54) (some (.t 55)) none none,none⟩,⟨none,.clr (some 3) (.agg [(.int .i64 0),(.int .i64 0),(.int .i64 0)]) (.t 56),none⟩]) ( .seq ( .ops [] [⟨some 57,.mov (.t 0),none⟩,⟨some 58,.mov (.t 3),none⟩,⟨some 59,.slice 3 (.t 57) none (some (.t 58)) none,none⟩,⟨some 2,.mov (.t 59),none⟩]) ( .ret))))) ( .skip)))) ( .ops [] [⟨some 14,.mov (.t 3),none⟩,⟨some 15,.bin .add (.t 14) (.c (.int .i64 1)),none⟩,⟨some 3,.mov (.t 15),none⟩])))))) (
.seq (
.ops [] [⟨some 60,.mov (.t 0),none⟩,⟨some 2,.mov (.t 60),none⟩]) (
.ret))))⟩
def rf190 : RF := ⟨70,[.tmp 2],.seq (
.ops [] [⟨some 1,.box (some 4) (.t 0) none,none⟩,⟨some 2,.mov (.c (.bool false)),none⟩]) (
.seq (
.seq (
.ops [] [⟨some 8,.fa 1 (.t 1),none⟩,⟨some 9,.load false 1 (.t 8),none⟩,⟨some 10,.len (.t 9),none⟩,⟨some 3,.mov (.t 10),none⟩]) (
.block 0 ( .seq ( .seq ( .ops [] [⟨some 12,.fa 0 (.t 1),none⟩,⟨some 13,.load false 1 (.t 12),none⟩,⟨some 14,.bin .lss (.t 13) (.c (.int .i64 0)),none⟩,⟨some 15,.mov (.t 14),none⟩,⟨some 16,.fa 0 (.t 1),(some (15,false))⟩,⟨some 17,.load false 1 (.t 16),(some (15,false))⟩,⟨some 18,.bin .gtr (.t 17) (.c (.int .i64 1048576)),(some (15,false))⟩,⟨some 19,.pick (.t 15) (.c (.bool true)) (.t 18),none⟩,⟨some 11,.mov (.t 19),none⟩]) ( .cond (.t 11) ( .skip) ( .seq ( .ops [] [⟨some 20,.mov (.t 3),none⟩,⟨some 21,.bin .lss (.t 20) (.c (.int .i64 1)),none⟩,⟨some 22,.mov (.t 21),none⟩,⟨some 23,.mov (.t 3),(some (22,false))⟩,⟨some 24,.bin .gtr (.t 23) (.c (.int .i64 16)),(some (22,false))⟩,⟨some 25,.pick (.t 22) (.c (.bool true)) (.t 24),none⟩,⟨some 11,.mov (.t 25),none⟩]) ( .cond (.t 11) ( .skip) ( .ops [] [⟨some 26,.fa 2 (.t 1),none⟩,⟨some 27,.load false 1 (.t 26),none⟩,⟨some 28,.bin .lss (.t 27) (.c (.int .i64 (-1))),none⟩,⟨some 29,.mov (.t 28),none⟩,⟨some 30,.fa 2 (.t 1),(some (29,false))⟩,⟨some 31,.load false 1 (.t 30),(some (29,false))⟩,⟨some 32,.mov (.t 3),(some (29,false))⟩,⟨some 33,.bin .geq (.t 31) (.t 32),(some (29,false))⟩,⟨some 34,.pick (.t 29) (.c (.bool true)) (.t 33),none⟩,⟨some 11,.mov (.t 34),none⟩]))))) ( .cond (.t 11) ( .seq ( .ops [] [⟨some 2,.mov (.c (.bool false)),none⟩]) ( .ret)) ( .seq ( .seq ( .ops [] [⟨some 36,.fa 3 (.t 1),none⟩,⟨some 37,.load false 1 (.t 36),none⟩,⟨some 38,.len (.t 37),none⟩,⟨some 39,.bin .gtr (.t 38) (.c (.int .i64 16)),none⟩,⟨some 35,.mov (.t 39),none⟩]) ( .cond (.t 35) ( .skip) ( .ops [] [⟨some 40,.fa 2 (.t 1),none⟩,⟨some 41,.load false 1 (.t 40),none⟩,⟨some 42,.bin .eql (.t 41) (.c (.int .i64 (-1))),none⟩,⟨some 43,.mov (.t 42),none⟩,⟨some 44,.fa 3 (.t 1),(some (43,true))⟩,⟨some 45,.load false 1 (.t 44),(some (43,true))⟩,⟨some 46,.len (.t 45),(some (43,true))⟩,⟨some 47,.bin .gtr (.t 46) (.c (.int .i64 0)),(some (43,true))⟩,⟨some 48,.pick (.t 43) (.t 47) (.c (.bool false)),none⟩,⟨some 35,.mov (.t 48),none⟩]))) ( .cond (.t 35) ( .seq ( .ops [] [⟨some 2,.mov (.c (.bool false)),none⟩]) ( .ret)) ( .skip))))))) (
.seq (
.seq (
.ops [] [⟨some 49,.fa 1 (.t 1),none⟩,⟨some 50,.load false 1 (.t 49),none⟩,⟨some 51,.len (.t 50),none⟩,⟨some 52,.mov (.c (.int .i64 0)),none⟩]) (
.block 1 ( .loop ( .seq ( .ops [] [⟨some 53,.bin .lss (.t 52) (.t 51),none⟩]) ( .seq ( .cond (.t 53) ( .skip) ( .exit 1)) ( .seq ( .block 2 ( .seq ( .ops [] [⟨some 54,.ia 1 (.t 50) (.t 52),none⟩,⟨some 55,.load false 1 (.t 54),none⟩,⟨some 5,.mov (.t 55),none⟩]) ( .seq ( .ops [] [⟨some 56,.mov (.t 5),none⟩,⟨some 57,.bin .lss (.t 56) (.c (.int .i64 1)),none⟩,⟨some 58,.mov (.t 57),none⟩,⟨some 59,.mov (.t 5),(some (58,false))⟩,⟨some 60,.bin .gtr (.t 59) (.c (.int .i64 40)),(some (58,false))⟩,⟨some 61,.pick (.t 58) (.c (.bool true)) (.t 60),none⟩]) ( .cond (.t 61) ( .seq ( .ops [] [⟨some 2,.mov (.c (.bool false)),none⟩]) ( .ret)) ( .skip))))) ( .ops [] [⟨some 62,.bin .add (.t 52) (.c (.int .i64 1)),none⟩,⟨some 52,.mov (.t 62),none⟩]))))))) (
.seq (
.ops [] [⟨some 64,.fa 3 (.t 1),none⟩,⟨some 65,.load false 1 (.t 64),none⟩,⟨some 66,.call (.c (.fn 240 [] [])) [(.t 65)],none⟩,⟨some 63,.mov (.t 66),none⟩,⟨some 67,.ext (.t 63) 0,none⟩,⟨some 68,.ext (.t 63) 1,none⟩,⟨some 6,.mov (.t 67),none⟩,⟨some 7,.mov (.t 68),none⟩]) (
.seq (
.ops [] [⟨some 69,.mov (.t 7),none⟩,⟨some 2,.mov (.t 69),none⟩]) (
.ret)))))⟩
def rf191 : RF := ⟨14,[.tmp 4],.seq (
.ops [] [⟨some 4,.mov (.c (.bool false)),none⟩]) (
.seq (
.ops [] [⟨some 5,.mov (.t 1),none⟩,⟨some 6,.un .neg (.t 5),none⟩,⟨some 7,.mov (.t 0),none⟩,⟨some 8,.bin .leq (.t 6) (.t 7),none⟩,⟨some 9,.mov (.t 8),none⟩,⟨some 10,.mov (.t 0),(some (9,true))⟩,⟨some 11,.mov (.t 1),(some (9,true))⟩,⟨some 12,.bin .leq (.t 10) (.t 11),(some (9,true))⟩,⟨some 13,.pick (.t 9) (.t 12) (.c (.bool false)),none⟩,⟨some 4,.mov (.t 13),none⟩]) (
.ret))⟩
def rf192 : RF := ⟨160,[.tmp 2,.tmp 3],.seq (
.ops [] [⟨some 1,.box (some 8) (.t 0) none,none⟩,⟨some 2,.mov (.c .nilp),none⟩,⟨some 3,.mov (.c (.bool false)),none⟩]) (
.seq (
.ops [] [⟨some 17,.load true 8 (.t 1),none⟩,⟨some 18,.build [(.int .i64 0),.nils,(.int .i64 0),.nils,(.int .i64 0),.nils,(.int .i64 0),.nils,.nils,(.int .i64 0)] [(0,8,(.t 17)),(9,1,(.c (.int .i64 1)))],none⟩,⟨some 19,.box (some 10) (.t 18) none,none⟩,⟨some 4,.mov (.t 19),none⟩]) (
.seq (
.seq (
.ops [] [⟨some 20,.fa 7 (.t 1),none⟩,⟨some 21,.load false 1 (.t 20),none⟩,⟨some 22,.len (.t 21),none⟩,⟨some 23,.bin .eql (.t 22) (.c (.int .i64 0)),none⟩]) (
.cond (.t 23) ( .seq ( .ops [] [⟨some 24,.mov (.t 4),none⟩,⟨some 2,.mov (.t 24),none⟩,⟨some 3,.mov (.c (.bool true)),none⟩]) ( .ret)) ( .skip))) (
.seq (
.ops [] [⟨some 26,.fa 0 (.t 1),none⟩,⟨some 27,.load true 4 (.t 26),none⟩,⟨some 28,.call (.c (.fn 241 [] [])) [(.t 27)],none⟩,⟨some 25,.mov (.t 28),none⟩,⟨some 29,.ext (.t 25) 0,none⟩,⟨some 30,.ext (.t 25) 1,none⟩,⟨some 31,.ext (.t 25) 2,none⟩,⟨some 5,.mov (.t 29),none⟩,⟨some 6,.mov (.t 30),none⟩,⟨some 7,.mov (.t 31),none⟩]) (
.seq (
.ops [] [⟨some 32,.mov (.t 4),none⟩,⟨some 33,.mov (.t 6),none⟩,⟨some 34,.nilchk (.t 32),none⟩,⟨some 35,.fa 9 (.t 34),none⟩,⟨none,.store 1 (.t 35) (.t 33),none⟩]) (
.seq (
.seq (
.ops [] [⟨some 36,.mov (.t 6),none⟩,⟨some 37,.bin .rem (.t 36) (.c (.int .i64 7)),none⟩,⟨some 38,.bin .neq (.t 37) (.c (.int .i64 0)),none⟩]) (
.cond (.t 38) ( .ops [] [⟨some 39,.mov (.t 4),none⟩,⟨some 40,.nilchk (.t 39),none⟩,⟨some 41,.fa 9 (.t 40),none⟩,⟨some 42,.load false 1 (.t 41),none⟩,⟨some 43,.bin .mul (.t 42) (.c (.int .i64 7)),none⟩,⟨some 44,.nilchk (.t 39),none⟩,⟨some 45,.fa 9 (.t 44),none⟩,⟨none,.store 1 (.t 45) (.t 43),none⟩]) ( .skip))) (
.seq (
.ops [] [⟨some 46,.fa 0 (.t 1),none⟩,⟨some 47,.fa 0 (.t 46),none⟩,⟨some 48,.load false 1 (.t 47),none⟩,⟨some 8,.mov (.t 48),none⟩]) (
.seq (
.seq (
.ops [] [⟨some 9,.mov (.c (.int .i64 1)),none⟩]) (
.block 0 ( .loop ( .seq ( .seq ( .dops [] 0 [⟨some 49,.mov (.t 8),none⟩,⟨some 50,.fa 0 (.t 1),none⟩,⟨some 51,.fa 0 (.t 50),none⟩,⟨some 52,.load false 1 (.t 51),none⟩,⟨some 53,.mov (.t 4),none⟩,⟨some 54,.nilchk (.t 53),none⟩,⟨some 55,.fa 9 (.t 54),none⟩,⟨some 56,.load false 1 (.t 55),none⟩,⟨some 57,.bin .add (.t 52) (.t 56),none⟩,⟨some 58,.bin .lss (.t 49) (.t 57),none⟩] []) ( .cond (.t 58) ( .skip) ( .exit 0))) ( .seq ( .block 1 ( .seq ( .seq ( .ops [] [⟨some 61,.fa 7 (.t 1),none⟩,⟨some 62,.load false 1 (.t 61),none⟩,⟨some 63,.len (.t 62),none⟩,⟨some 64,.mov (.c (.int .i64 0)),none⟩]) ( .block 2 ( .loop ( .seq ( .ops [] [⟨some 65,.bin .lss (.t 64) (.t 63),none⟩]) ( .seq ( .cond (.t 65) ( .skip) ( .exit 2)) ( .seq ( .block 3 ( .seq ( .ops [] [⟨some 66,.mov (.t 64),none⟩,⟨some 67,.ia 5 (.t 62) (.t 64),none⟩,⟨some 68,.load true 5 (.t 67),none⟩,⟨some 11,.alloc (some 5) (.agg [(.int .i64 0),(.int .i64 0),(.int .i64 0),(.int .i64 0),(.int .i64 0)]) none,none⟩,⟨some 10,.mov (.t 66),none⟩,⟨none,.store 5 (.t 11) (.t 68),none⟩]) ( .seq ( .ops [] [⟨some 70,.fa 0 (.t 1),none⟩,⟨some 71,.load true 4 (.t 70),none⟩,⟨some 72,.mov (.t 8),none⟩,⟨some 73,.mov (.t 9),none⟩,⟨some 74,.load true 5 (.t 11),none⟩,⟨some 75,.call (.c (.fn 242 [] [])) [(.t 71),(.t 72),(.t 73),(.t 74)],none⟩,⟨some 69,.mov (.t 75),none⟩,⟨some 76,.ext (.t 69) 0,none⟩,⟨some 77,.ext (.t 69) 1,none⟩,⟨some 12,.mov (.t 76),none⟩,⟨some 13,.mov (.t 77),none⟩]) ( .seq ( .ops [] [⟨some 78,.mov (.t 13),none⟩]) ( .cond (.t 78) ( .dops [] 0 [⟨some 79,.mov (.t 4),none⟩,⟨some 80,.mov (.t 4),none⟩,⟨some 81,.nilchk (.t 80),none⟩,⟨some 82,.fa 8 (.t 81),none⟩,⟨some 83,.load false 1 (.t 82),none⟩,⟨some 84,.mov (.t 12),none⟩,⟨some 85,.bin .mul (.t 84) (.c (.int .i64 1440)),none⟩,⟨some 86,.fa 3 (.t 11),none⟩,⟨some 87,.load false 1 (.t 86),none⟩,⟨some 88,.bin .add (.t 85) (.t 87),none⟩,⟨some 89,.fa 7 (.t 1),none⟩,⟨some 90,.load false 1 (.t 89),none⟩,⟨some 91,.mov (.t 10),none⟩,⟨some 92,.bin .sub (.c (.int .i64 1)) (.t 91),none⟩,⟨some 93,.ia 5 (.t 90) (.t 92),none⟩,⟨some 94,.fa 4 (.t 93),none⟩,⟨some 95,.load false 1 (.t 94),none⟩,⟨some 96,.bin .sub (.t 88) (.t 95),none⟩,⟨some 97,.fa 4 (.t 11),none⟩,⟨some 98,.load false 1 (.t 97),none⟩,⟨some 99,.build [(.int .i64 0),(.int .i64 0)] [(0,1,(.t 96)),(1,1,(.t 98))],none⟩,⟨some 100,.bsl none (some 2) (.agg [(.int .i64 0),(.int .i64 0)]) 1 [(0,(.t 99))],none⟩,⟨some 101,.app (some 2) 16 (.t 83) (.t 100),none⟩,⟨some 102,.nilchk (.t 79),none⟩,⟨some 103,.fa 8 (.t 102),none⟩,⟨none,.store 1 (.t 103) (.t 101),none⟩] []) ( .skip)))))) ( .ops [] [⟨some 104,.bin .add (.t 64) (.c (.int .i64 1)),none⟩,⟨some 64,.mov (.t 104),none⟩]))))))) ( .ops [] [⟨some 105,.mov (.t 8),none⟩,⟨some 106,.fa 0 (.t 1),none⟩,⟨some 107,.load true 4 (.t 106),none⟩,⟨some 108,.mov (.t 9),none⟩,⟨some 109,.call (.c (.fn 243 [] [])) [(.t 107),(.t 108)],none⟩,⟨some 110,.bin .add (.t 105) (.t 109),none⟩,⟨some 8,.mov (.t 110),none⟩]))) ( .ops [] [⟨some 59,.mov (.t 9),none⟩,⟨some 60,.bin .add (.t 59) (.c (.int .i64 1)),none⟩,⟨some 9,.mov (.t 60),none⟩])))))) (
.seq (
.ops [] [⟨some 111,.mov (.t 4),none⟩,⟨some 112,.nilchk (.t 111),none⟩,⟨some 113,.fa 8 (.t 112),none⟩,⟨some 114,.load false 1 (.t 113),none⟩,⟨some 115,.call (.c (.fn 244 [] [])) [(.t 114),(.c (.fn 245 [] []))],none⟩]) (
.seq (
.seq (
.ops [] [⟨some 116,.mov (.t 4),none⟩,⟨some 117,.nilchk (.t 116),none⟩,⟨some 118,.fa 8 (.t 117),none⟩,⟨some 119,.load false 1 (.t 118),none⟩,⟨some 120,.len (.t 119),none⟩,⟨some 121,.mov (.c (.int .i64 0)),none⟩]) (
.block 4 ( .loop ( .seq ( .ops [] [⟨some 122,.bin .lss (.t 121) (.t 120),none⟩]) ( .seq ( .cond (.t 122) ( .skip) ( .exit 4)) ( .seq ( .block 5 ( .seq ( .ops [] [⟨some 123,.mov (.t 121),none⟩,⟨some 124,.ia 2 (.t 119) (.t 121),none⟩,⟨some 125,.load true 2 (.t 124),none⟩,⟨some 15,.alloc (some 2) (.agg [(.int .i64 0),(.int .i64 0)]) none,none⟩,⟨some 14,.mov (.t 123),none⟩,⟨none,.store 2 (.t 15) (.t 125),none⟩]) ( .seq ( .dops [] 0 [⟨some 126,.mov (.t 4),none⟩,⟨some 127,.nilchk (.t 126),none⟩,⟨some 128,.fa 8 (.t 127),none⟩,⟨some 129,.load false 1 (.t 128),none⟩,⟨some 130,.ia 2 (.t 129) (.c (.int .i64 0)),none⟩,⟨some 131,.fa 0 (.t 130),none⟩,⟨some 132,.load false 1 (.t 131),none⟩,⟨some 133,.mov (.t 4),none⟩,⟨some 134,.call (.c (.fn 246 [] [])) [(.t 133)],none⟩,⟨some 135,.bin .add (.t 132) (.t 134),none⟩,⟨some 16,.mov (.t 135),none⟩] []) ( .seq ( .seq ( .ops [] [⟨some 136,.mov (.t 14),none⟩,⟨some 137,.bin .add (.t 136) (.c (.int .i64 1)),none⟩,⟨some 138,.mov (.t 4),none⟩,⟨some 139,.nilchk (.t 138),none⟩,⟨some 140,.fa 8 (.t 139),none⟩,⟨some 141,.load false 1 (.t 140),none⟩,⟨some 142,.len (.t 141),none⟩,⟨some 143,.bin .lss (.t 137) (.t 142),none⟩]) ( .cond (.t 143) ( .ops [] [⟨some 144,.mov (.t 4),none⟩,⟨some 145,.nilchk (.t 144),none⟩,⟨some 146,.fa 8 (.t 145),none⟩,⟨some 147,.load false 1 (.t 146),none⟩,⟨some 148,.mov (.t 14),none⟩,⟨some 149,.bin .add (.t 148) (.c (.int .i64 1)),none⟩,⟨some 150,.ia 2 (.t 147) (.t 149),none⟩,⟨some 151,.fa 0 (.t 150),none⟩,⟨some 152,.load false 1 (.t 151),none⟩,⟨some 16,.mov (.t 152),none⟩]) ( .skip))) ( .seq ( .ops [] [⟨some 153,.mov (.t 16),none⟩,⟨some 154,.fa 0 (.t 15),none⟩,⟨some 155,.load false 1 (.t 154),none⟩,⟨some 156,.bin .sub (.t 153) (.t 155),none⟩,⟨some 157,.bin .lss (.t 156) (.c (.int .i64 2160)),none⟩]) ( .cond (.t 157) ( .seq ( .ops [] [⟨some 2,.mov (.c .nilp),none⟩,⟨some 3,.mov (.c (.bool false)),none⟩]) ( .ret)) ( .skip))))))) ( .ops [] [⟨some 158,.bin .add (.t 121) (.c (.int .i64 1)),none⟩,⟨some 121,.mov (.t 158),none⟩]))))))) (
.seq (
.ops [] [⟨some 159,.mov (.t 4),none⟩,⟨some 2,.mov (.t 159),none⟩,⟨some 3,.mov (.c (.bool true)),none⟩]) (
.ret)))))))))))⟩
def rf193 : RF := ⟨6,[.tmp 4],.seq (
.ops [] [⟨some 2,.box none (.t 0) none,none⟩,⟨some 3,.box none (.t 1) none,none⟩,⟨some 4,.mov (.c .nilf),none⟩]) (
.seq (
.ops [] [⟨some 5,.mkfn 247 [] [(.t 2),(.t 3)],none⟩,⟨some 4,.mov (.t 5),none⟩]) (
.ret))⟩
def rf194 : RF := ⟨19,[.tmp 4],.seq (
.ops [] [⟨some 4,.mov (.c (.int .i64 0)),none⟩]) (
.seq (
.seq (
.ops [] [⟨some 6,.mov (.t 0),none⟩,⟨some 7,.len (.t 6),none⟩,⟨some 8,.mov (.c (.int .i64 0)),none⟩]) (
.block 0 ( .loop ( .seq ( .ops [] [⟨some 9,.bin .lss (.t 8) (.t 7),none⟩]) ( .seq ( .cond (.t 9) ( .skip) ( .exit 0)) ( .seq ( .block 1 ( .seq ( .ops [] [⟨some 10,.mov (.t 8),none⟩,⟨some 5,.mov (.t 10),none⟩]) ( .seq ( .ops [] [⟨some 11,.mov (.t 1),none⟩,⟨some 12,.mov (.t 0),none⟩,⟨some 13,.mov (.t 5),none⟩,⟨some 14,.ia 4 (.t 12) (.t 13),none⟩,⟨some 15,.load true 4 (.t 14),none⟩,⟨some 16,.call (.t 11) [(.t 15)],none⟩]) ( .cond (.t 16) ( .seq ( .ops [] [⟨some 17,.mov (.t 5),none⟩,⟨some 4,.mov (.t 17),none⟩]) ( .ret)) ( .skip))))) ( .ops [] [⟨some 18,.bin .add (.t 8) (.c (.int .i64 1)),none⟩,⟨some 8,.mov (.t 18),none⟩]))))))) (
.seq (
.ops [] [⟨some 4,.mov (.c (.int .i64 (-1))),none⟩]) (
.ret)))⟩
def rf195 : RF := ⟨24,[.tmp 4],.seq (
.ops [] [⟨some 4,.mov (.c (.bool false)),none⟩]) (
.seq (
.ops [] [⟨some 5,.mov (.c (.int .i64 (-1))),none⟩]) (
.seq (
.seq (
.ops [] [⟨some 8,.mov (.t 0),none⟩,⟨some 9,.len (.t 8),none⟩,⟨some 10,.mov (.c (.int .i64 0)),none⟩]) (
.block 0 ( .loop ( .seq ( .ops [] [⟨some 11,.bin .lss (.t 10) (.t 9),none⟩]) ( .seq ( .cond (.t 11) ( .skip) ( .exit 0)) ( .seq ( .block 1 ( .seq ( .ops [] [⟨some 12,.ia 1 (.t 8) (.t 10),none⟩,⟨some 13,.load false 1 (.t 12),none⟩,⟨some 7,.mov (.t 13),none⟩]) ( .seq ( .seq ( .ops [] [⟨some 14,.mov (.t 7),none⟩,⟨some 15,.mov (.t 5),none⟩,⟨some 16,.bin .leq (.t 14) (.t 15),none⟩,⟨some 17,.mov (.t 16),none⟩,⟨some 18,.mov (.t 7),(some (17,false))⟩,⟨some 19,.mov (.t 1),(some (17,false))⟩,⟨some 20,.bin .geq (.t 18) (.t 19),(some (17,false))⟩,⟨some 21,.pick (.t 17) (.c (.bool true)) (.t 20),none⟩]) ( .cond (.t 21) ( .seq ( .ops [] [⟨some 4,.mov (.c (.bool false)),none⟩]) ( .ret)) ( .skip))) ( .ops [] [⟨some 22,.mov (.t 7),none⟩,⟨some 5,.mov (.t 22),none⟩])))) ( .ops [] [⟨some 23,.bin .add (.t 10) (.c (.int .i64 1)),none⟩,⟨some 10,.mov (.t 23),none⟩]))))))) (
.seq (
.ops [] [⟨some 4,.mov (.c (.bool true)),none⟩]) (
.ret))))⟩
def rf196 : RF := ⟨11,[.tmp 4,.tmp 5],.seq (
.ops [] [⟨some 4,.mov (.c (.int .i64 0)),none⟩,⟨some 5,.mov (.c (.int .i64 0)),none⟩]) (
.seq (
.seq (
.ops [] [⟨some 6,.mov (.t 1),none⟩,⟨some 7,.bin .lss (.t 6) (.c (.int .i64 1)),none⟩]) (
.cond (.t 7) ( .seq ( .ops [] [⟨some 4,.mov (.c (.int .i64 0)),none⟩,⟨some 5,.mov (.c (.int .i64 1)),none⟩]) ( .ret)) ( .skip))) (
.seq (
.ops [] [⟨some 8,.mov (.t 0),none⟩,⟨some 9,.mov (.t 1),none⟩,⟨some 10,.call (.c (.fn 249 [] [])) [(.t 8),(.t 9)],none⟩,⟨some 4,.mov (.t 10),none⟩,⟨some 5,.mov (.c (.int .i64 0)),none⟩]) (
.ret)))⟩
def rf197 : RF := ⟨188,[.tmp 6,.tmp 7],.seq (
.ops [] [⟨some 3,.box (some 8) (.t 0) none,none⟩,⟨some 4,.box none (.t 1) none,none⟩,⟨some 5,.box none (.t 2) none,none⟩,⟨some 6,.mov (.c .nils),none⟩,⟨some 7,.mov (.c (.int .i64 0)),none⟩]) (
.seq (
.ops [] [⟨some 32,.load true 8 (.t 3),none⟩,⟨some 33,.call (.c (.fn 124 [] [])) [(.t 32)],none⟩,⟨some 31,.mov (.t 33),none⟩,⟨some 34,.ext (.t 31) 0,none⟩,⟨some 35,.ext (.t 31) 1,none⟩,⟨some 8,.mov (.t 34),none⟩,⟨some 9,.mov (.t 35),none⟩]) (
.seq (
.seq (
.ops [] [⟨some 36,.mov (.t 9),none⟩,⟨some 37,.un .not (.t 36),none⟩,⟨some 38,.mov (.t 37),none⟩,⟨some 39,.load false 1 (.t 4),(some (38,false))⟩,⟨some 40,.bin .lss (.t 39) (.c (.int .i64 0)),(some (38,false))⟩,⟨some 41,.pick (.t 38) (.c (.bool true)) (.t 40),none⟩,⟨some 42,.mov (.t 41),none⟩,⟨some 43,.load false 1 (.t 4),(some (42,false))⟩,⟨some 44,.bin .geq (.t 43) (.c (.int .i64 1440)),(some (42,false))⟩,⟨some 45,.pick (.t 42) (.c (.bool true)) (.t 44),none⟩]) (
.cond (.t 45) ( .seq ( .ops [] [⟨some 6,.mov (.c .nils),none⟩,⟨some 7,.mov (.c (.int .i64 1)),none⟩]) ( .ret)) ( .skip))) (
.seq (
.ops [] [⟨some 47,.mov (.t 8),none⟩,⟨some 48,.call (.c (.fn 250 [] [])) [(.t 47)],none⟩,⟨some 49,.call (.c (.fn 158 [] [])) [(.t 48),(.c (.int .i64 1440))],none⟩,⟨some 46,.mov (.t 49),none⟩,⟨some 50,.ext (.t 46) 0,none⟩,⟨some 51,.ext (.t 46) 1,none⟩,⟨some 10,.mov (.t 50),none⟩,⟨some 11,.mov (.t 51),none⟩]) (
.seq (
.ops [] [⟨some 52,.mov (.t 10),none⟩,⟨some 53,.bin .add (.t 52) (.c (.int .i64 3)),none⟩,⟨some 54,.mx [(.t 53),(.c (.int .i64 0))],none⟩,⟨some 12,.mov (.t 54),none⟩]) (
.seq (
.seq (
.ops [] [⟨some 55,.mov (.t 12),none⟩,⟨some 56,.bin .gtr (.t 55) (.c (.int .i64 1099511627776)),none⟩]) (
.cond (.t 56) ( .seq ( .ops [] [⟨some 6,.mov (.c .nils),none⟩,⟨some 7,.mov (.c (.int .i64 2)),none⟩]) ( .ret)) ( .skip))) (
.seq (
.ops [] [⟨some 57,.mov (.t 12),none⟩,⟨some 58,.mov (.t 8),none⟩,⟨some 59,.nilchk (.t 58),none⟩,⟨some 60,.fa 9 (.t 59),none⟩,⟨some 61,.load false 1 (.t 60),none⟩,⟨some 62,.bin .add (.t 57) (.t 61),none⟩,⟨some 13,.alloc none (.int .i64 0) none,none⟩,⟨none,.store 1 (.t 13) (.t 62),none⟩]) (
.seq (
.ops [] [⟨some 63,.mkmap none,none⟩,⟨some 14,.alloc none .nilm none,none⟩,⟨none,.store 1 (.t 14) (.t 63),none⟩]) (
.seq (
.seq (
.ops [] [⟨some 64,.mov (.t 8),none⟩,⟨some 65,.load false 1 (.t 13),none⟩,⟨some 66,.bin .add (.t 65) (.c (.int .i64 3)),none⟩,⟨some 67,.bin .mul (.t 66) (.c (.int .i64 1440)),none⟩,⟨some 68,.call (.c (.fn 251 [] [])) [(.t 64),(.t 67)],none⟩]) (
.block 0 ( .rangeF (.t 68) [69] ( .ops [] [⟨some 15,.alloc (some 5) (.agg [(.int .i64 0),(.int .i64 0),(.int .i64 0),(.int .i64 0),(.int .i64 0)]) none,none⟩,⟨none,.store 5 (.t 15) (.t 69),none⟩]) ( .block 1 ( .seq ( .ops [] [⟨some 70,.load false 1 (.t 5),none⟩,⟨some 71,.load true 5 (.t 15),none⟩,⟨some 72,.call (.t 70) [(.t 71)],none⟩,⟨some 16,.alloc (some 2) (.agg [(.int .i64 0),(.int .i64 0)]) none,none⟩,⟨none,.store 2 (.t 16) (.t 72),none⟩]) ( .seq ( .ops [] [⟨some 74,.fa 0 (.t 16),none⟩,⟨some 75,.load false 1 (.t 74),none⟩,⟨some 76,.load false 1 (.t 4),none⟩,⟨some 77,.bin .sub (.t 75) (.t 76),none⟩,⟨some 78,.bin .add (.t 77) (.c (.int .i64 1440)),none⟩,⟨some 79,.bin .sub (.t 78) (.c (.int .i64 1)),none⟩,⟨some 80,.call (.c (.fn 158 [] [])) [(.t 79),(.c (.int .i64 1440))],none⟩,⟨some 73,.mov (.t 80),none⟩,⟨some 81,.ext (.t 73) 0,none⟩,⟨some 82,.ext (.t 73) 1,none⟩,⟨some 17,.mov (.t 81),none⟩,⟨some 18,.mov (.t 82),none⟩]) ( .seq ( .ops [] [⟨some 84,.fa 1 (.t 16),none⟩,⟨some 85,.load false 1 (.t 84),none⟩,⟨some 86,.load false 1 (.t 4),none⟩,⟨some 87,.bin .sub (.t 85) (.t 86),none⟩,⟨some 88,.bin .add (.t 87) (.c (.int .i64 1440)),none⟩,⟨some 89,.bin .sub (.t 88) (.c (.int .i64 1)),none⟩,⟨some 90,.call (.c (.fn 158 [] [])) [(.t 89),(.c (.int .i64 1440))],none⟩,⟨some 83,.mov (.t 90),none⟩,⟨some 91,.ext (.t 83) 0,none⟩,⟨some 92,.ext (.t 83) 1,none⟩,⟨some 19,.mov (.t 91),none⟩,⟨some 20,.mov (.t 92),none⟩]) ( .seq ( .dops [] 0 [⟨some 93,.mov (.t 17),none⟩,⟨some 94,.mx [(.t 93),(.c (.int .i64 0))],none⟩,⟨some 95,.mov (.t 19),none⟩,⟨some 96,.load false 1 (.t 13),none⟩,⟨some 97,.mn [(.t 95),(.t 96)],none⟩,⟨some 17,.mov (.t 94),none⟩,⟨some 19,.mov (.t 97),none⟩] []) ( .seq ( .ops [] [⟨some 98,.mov (.t 17),none⟩,⟨some 99,.mov (.t 19),none⟩,⟨some 100,.bin .lss (.t 98) (.t 99),none⟩]) ( .cond (.t 100) ( .dops [] 0 [⟨some 101,.load false 1 (.t 14),none⟩,⟨some 102,.fa 0 (.t 15),none⟩,⟨some 103,.load false 1 (.t 102),none⟩,⟨some 104,.load false 1 (.t 14),none⟩,⟨some 105,.fa 0 (.t 15),none⟩,⟨some 106,.load false 1 (.t 105),none⟩,⟨some 107,.look false [.int] .nils (.t 104) (.t 106) false,none⟩,⟨some 108,.mov (.t 17),none⟩,⟨some 109,.mov (.t 19),none⟩,⟨some 110,.build [(.int .i64 0),(.int .i64 0)] [(0,1,(.t 108)),(1,1,(.t 109))],none⟩,⟨some 111,.bsl none (some 2) (.agg [(.int .i64 0),(.int .i64 0)]) 1 [(0,(.t 110))],none⟩,⟨some 112,.app (some 2) 16 (.t 107) (.t 111),none⟩,⟨none,.mupd false [.int] (.t 101) (.t 103) (.t 112),none⟩] [(0,11),(2,11)]) ( .skip))))))))))) (
.seq (
.ops [] [⟨some 21,.mov (.c .nils),none⟩]) (
.seq (
.seq (
.ops [] [⟨some 113,.load false 1 (.t 14),none⟩,⟨some 114,.rng false (.t 113),none⟩]) (
.block 2 ( .loop ( .seq ( .ops [] [⟨some 115,.next false (.t 114),none⟩,⟨some 116,.ext (.t 115) 0,none⟩]) ( .seq ( .cond (.t 116) ( .skip) ( .exit 2)) ( .block 3 ( .seq ( .ops [] [⟨some 117,.entry (.t 114),none⟩,⟨some 118,.ext (.t 117) 0,none⟩,⟨some 119,.ext (.t 117) 1,none⟩,⟨some 22,.mov (.t 118),none⟩,⟨some 23,.mov (.t 119),none⟩]) ( .seq ( .ops [] [⟨some 24,.mov (.c (.int .i64 0)),none⟩]) ( .seq ( .seq ( .ops [] [⟨some 120,.mov (.t 23),none⟩,⟨some 121,.len (.t 120),none⟩,⟨some 122,.mov (.c (.int .i64 0)),none⟩]) ( .block 4 ( .loop ( .seq ( .ops [] [⟨some 123,.bin .lss (.t 122) (.t 121),none⟩]) ( .seq ( .cond (.t 123) ( .skip) ( .exit 4)) ( .seq ( .block 5 ( .seq ( .ops [] [⟨some 124,.ia 2 (.t 120) (.t 122),none⟩,⟨some 125,.load true 2 (.t 124),none⟩,⟨some 26,.alloc (some 2) (.agg [(.int .i64 0),(.int .i64 0)]) none,none⟩,⟨none,.store 2 (.t 26) (.t 125),none⟩]) ( .ops [] [⟨some 126,.mov (.t 24),none⟩,⟨some 127,.fa 1 (.t 26),none⟩,⟨some 128,.load false 1 (.t 127),none⟩,⟨some 129,.fa 0 (.t 26),none⟩,⟨some 130,.load false 1 (.t 129),none⟩,⟨some 131,.bin .sub (.t 128) (.t 130),none⟩,⟨some 132,.bin .add (.t 126) (.t 131),none⟩,⟨some 24,.mov (.t 132),none⟩]))) ( .ops [] [⟨some 133,.bin .add (.t 122) (.c (.int .i64 1)),none⟩,⟨some 122,.mov (.t 133),none⟩]))))))) ( .seq ( .seq ( .ops [] [⟨some 134,.mov (.t 24),none⟩,⟨some 135,.bin .gtr (.t 134) (.c (.int .i64 1048576)),none⟩]) ( .cond (.t 135) ( .seq ( .ops [] [⟨some 6,.mov (.c .nils),none⟩,⟨some 7,.mov (.c (.int .i64 2)),none⟩]) ( .ret)) ( .skip))) ( .seq ( .ops [] [⟨some 136,.mov (.t 12),none⟩,⟨some 137,.mov (.t 8),none⟩,⟨some 138,.nilchk (.t 137),none⟩,⟨some 139,.fa 9 (.t 138),none⟩,⟨some 140,.load false 1 (.t 139),none⟩,⟨some 141,.build [.nils,(.int .i64 0),(.int .i64 0),.nils] [(1,1,(.t 136)),(2,1,(.t 140))],none⟩,⟨some 27,.alloc (some 4) (.agg [.nils,(.int .i64 0),(.int .i64 0),.nils]) none,none⟩,⟨none,.store 4 (.t 27) (.t 141),none⟩]) ( .seq ( .seq ( .ops [] [⟨some 142,.mov (.t 23),none⟩,⟨some 143,.len (.t 142),none⟩,⟨some 144,.mov (.c (.int .i64 0)),none⟩]) ( .block 6 ( .loop ( .seq ( .ops [] [⟨some 145,.bin .lss (.t 144) (.t 143),none⟩]) ( .seq ( .cond (.t 145) ( .skip) ( .exit 6)) ( .seq ( .block 7 ( .seq ( .ops [] [⟨some 146,.ia 2 (.t 142) (.t 144),none⟩,⟨some 147,.load true 2 (.t 146),none⟩,⟨some 29,.alloc (some 2) (.agg [(.int .i64 0),(.int .i64 0)]) none,none⟩,⟨none,.store 2 (.t 29) (.t 147),none⟩]) ( .seq ( .ops [] [⟨some 148,.fa 0 (.t 29),none⟩,⟨some 149,.load false 1 (.t 148),none⟩,⟨some 30,.mov (.t 149),none⟩]) ( .block 8 ( .loop ( .seq ( .seq ( .ops [] [⟨some 150,.mov (.t 30),none⟩,⟨some 151,.fa 1 (.t 29),none⟩,⟨some 152,.load false 1 (.t 151),none⟩,⟨some 153,.bin .lss (.t 150) (.t 152),none⟩]) ( .cond (.t 153) ( .skip) ( .exit 8))) ( .seq ( .block 9 ( .seq ( .ops [] [⟨some 156,.mov (.t 30),none⟩,⟨some 157,.mov (.t 12),none⟩,⟨some 158,.bin .lss (.t 156) (.t 157),none⟩]) ( .cond (.t 158) ( .ops [] [⟨some 159,.fa 0 (.t 27),none⟩,⟨some 160,.load false 1 (.t 159),none⟩,⟨some 161,.mov (.t 30),none⟩,⟨some 162,.bsl none none (.int .i64 0) 1 [(0,(.t 161))],none⟩,⟨some 163,.app none 8 (.t 160) (.t 162),none⟩,⟨some 164,.fa 0 (.t 27),none⟩,⟨none,.store 1 (.t 164) (.t 163),none⟩]) ( .ops [] [⟨some 165,.fa 3 (.t 27),none⟩,⟨some 166,.load false 1 (.t 165),none⟩,⟨some 167,.mov (.t 30),none⟩,⟨some 168,.mov (.t 12),none⟩,⟨some 169,.bin .sub (.t 167) (.t 168),none⟩,⟨some 170,.bsl none none (.int .i64 0) 1 [(0,(.t 169))],none⟩,⟨some 171,.app none 8 (.t 166) (.t 170),none⟩,⟨some 172,.fa 3 (.t 27),none⟩,⟨none,.store 1 (.t 172) (.t 171),none⟩])))) ( .ops [] [⟨some 154,.mov (.t 30),none⟩,⟨some 155,.bin .add (.t 154) (.c (.int .i64 1)),none⟩,⟨some 30,.mov (.t 155),none⟩])))))))) ( .ops [] [⟨some 173,.bin .add (.t 144) (.c (.int .i64 1)),none⟩,⟨some 144,.mov (.t 173),none⟩]))))))) ( .seq ( .ops [] [⟨some 175,.load true 4 (.t 27),none⟩,⟨some 176,.call (.c (.fn 202 [] [])) [(.t 175)],none⟩,⟨some 174,.mov (.t 176),none⟩,⟨some 177,.ext (.t 174) 0,none⟩,⟨some 178,.ext (.t 174) 1,none⟩,⟨none,.store 4 (.t 27) (.t 177),none⟩]) ( .ops [] [⟨some 179,.mov (.t 21),none⟩,⟨some 180,.mov (.t 22),none⟩,⟨some 181,.load true 4 (.t 27),none⟩,⟨some 182,.build [(.int .i64 0),.nils,(.int .i64 0),(.int .i64 0),.nils] [(0,1,(.t 180)),(1,4,(.t 181))],none⟩,⟨some 183,.bsl none (some 5) (.agg [(.int .i64 0),.nils,(.int .i64 0),(.int .i64 0),.nils]) 1 [(0,(.t 182))],none⟩,⟨some 184,.app (some 5) 72 (.t 179) (.t 183),none⟩,⟨some 21,.mov (.t 184),none⟩])))))))))))))) (
.seq (
.ops [] [⟨some 185,.mov (.t 21),none⟩,⟨some 186,.call (.c (.fn 252 [] [])) [(.t 185),(.c (.fn 253 [] []))],none⟩]) (
.seq (
.ops [] [⟨some 187,.mov (.t 21),none⟩,⟨some 6,.mov (.t 187),none⟩,⟨some 7,.mov (.c (.int .i64 0)),none⟩]) (
.ret)))))))))))))⟩
def rf198 : RF := ⟨5,[.cell 2 true 2],.seq (
.ops [] [⟨some 1,.box (some 5) (.t 0) none,none⟩,⟨some 2,.alloc (some 2) (.agg [(.int .i64 0),(.int .i64 0)]) none,none⟩]) (
.seq (
.ops [] [⟨some 3,.fa 1 (.t 1),none⟩,⟨some 4,.load true 2 (.t 3),none⟩,⟨none,.store 2 (.t 2) (.t 4),none⟩]) (
.ret))⟩
def rf199 : RF := ⟨36,[.tmp 2],.seq (
.ops [] [⟨some 2,.mov (.c .nils),none⟩]) (
.seq (
.ops [] [⟨some 3,.mov (.c (.int .i64 0)),none⟩]) (
.seq (
.seq (
.ops [] [⟨some 9,.mov (.t 0),none⟩,⟨some 10,.len (.t 9),none⟩,⟨some 11,.mov (.c (.int .i64 0)),none⟩]) (
.block 0 ( .loop ( .seq ( .ops [] [⟨some 12,.bin .lss (.t 11) (.t 10),none⟩]) ( .seq ( .cond (.t 12) ( .skip) ( .exit 0)) ( .seq ( .block 1 ( .seq ( .ops [] [⟨some 13,.ia 1 (.t 9) (.t 11),none⟩,⟨some 14,.load false 1 (.t 13),none⟩,⟨some 5,.mov (.t 14),none⟩]) ( .seq ( .ops [] [⟨some 15,.mov (.t 3),none⟩,⟨some 16,.mov (.t 5),none⟩,⟨some 17,.len (.t 16),none⟩,⟨some 18,.bin .add (.t 15) (.t 17),none⟩,⟨some 3,.mov (.t 18),none⟩]) ( .seq ( .ops [] [⟨some 19,.mov (.t 3),none⟩,⟨some 20,.bin .lss (.t 19) (.c (.int .i64 0)),none⟩]) ( .cond (.t 20) ( .ops [] [⟨some 21,.bad,none⟩,⟨none,.bad,none⟩]) ( .skip)))))) ( .ops [] [⟨some 22,.bin .add (.t 11) (.c (.int .i64 1)),none⟩,⟨some 11,.mov (.t 22),none⟩]))))))) (
.seq (
.ops [] [⟨some 23,.mov (.t 3),none⟩,⟨some 24,.call (.c (.fn 254 [] [])) [(.c .nils),(.t 23)],none⟩,⟨some 6,.mov (.t 24),none⟩]) (
.seq (
.seq (
.ops [] [⟨some 25,.mov (.t 0),none⟩,⟨some 26,.len (.t 25),none⟩,⟨some 27,.mov (.c (.int .i64 0)),none⟩]) (
.block 2 ( .loop ( .seq ( .ops [] [⟨some 28,.bin .lss (.t 27) (.t 26),none⟩]) ( .seq ( .cond (.t 28) ( .skip) ( .exit 2)) ( .seq ( .block 3 ( .seq ( .ops [] [⟨some 29,.ia 1 (.t 25) (.t 27),none⟩,⟨some 30,.load false 1 (.t 29),none⟩,⟨some 8,.mov (.t 30),none⟩]) ( .ops [] [⟨some 31,.mov (.t 6),none⟩,⟨some 32,.mov (.t 8),none⟩,⟨some 33,.app none 24 (.t 31) (.t 32),none⟩,⟨some 6,.mov (.t 33),none⟩]))) ( .ops [] [⟨some 34,.bin .add (.t 27) (.c (.int .i64 1)),none⟩,⟨some 27,.mov (.t 34),none⟩]))))))) (
.seq (
.ops [] [⟨some 35,.mov (.t 6),none⟩,⟨some 2,.mov (.t 35),none⟩]) (
.ret))))))⟩
def rf200 : RF := ⟨33,[],.seq (
.ops [] [⟨some 7,.fa 8 (.t 1),none⟩,⟨some 8,.load false 1 (.t 7),none⟩,⟨some 9,.len (.t 8),none⟩,⟨some 10,.mov (.c (.int .i64 0)),none⟩]) (
.block 0 ( .loop ( .seq ( .ops [] [⟨some 11,.bin .lss (.t 10) (.t 9),none⟩]) ( .seq ( .cond (.t 11) ( .skip) ( .exit 0)) ( .seq ( .block 1 ( .seq ( .ops [] [⟨some 12,.ia 3 (.t 8) (.t 10),none⟩,⟨some 13,.load true 3 (.t 12),none⟩,⟨some 6,.alloc (some 3) (.agg [.nils,(.int .i64 0),(.int .i64 0)]) none,none⟩,⟨none,.store 3 (.t 6) (.t 13),none⟩]) ( .seq ( .ops [] [⟨some 14,.fa 1 (.t 6),none⟩,⟨some 15,.load false 1 (.t 14),none⟩,⟨some 16,.load false 1 (.t 2),none⟩,⟨some 17,.bin .leq (.t 15) (.t 16),none⟩,⟨some 18,.mov (.t 17),none⟩,⟨some 19,.load false 1 (.t 2),(some (18,true))⟩,⟨some 20,.load false 1 (.t 3),(some (18,true))⟩,⟨some 21,.bin .add (.t 19) (.t 20),(some (18,true))⟩,⟨some 22,.fa 2 (.t 6),(some (18,true))⟩,⟨some 23,.load false 1 (.t 22),(some (18,true))⟩,⟨some 24,.bin .leq (.t 21) (.t 23),(some (18,true))⟩,⟨some 25,.pick (.t 18) (.t 24) (.c (.bool false)),none⟩,⟨some 26,.mov (.t 25),none⟩,⟨some 27,.mov (.t 0),(some (26,true))⟩,⟨some 28,.load true 3 (.t 6),(some (26,true))⟩,⟨some 29,.call (.t 27) [(.t 28)],(some (26,true))⟩,⟨some 30,.un .not (.t 29),(some (26,true))⟩,⟨some 31,.pick (.t 26) (.t 30) (.c (.bool false)),none⟩]) ( .cond (.t 31) ( .ret) ( .skip))))) ( .ops [] [⟨some 32,.bin .add (.t 10) (.c (.int .i64 1)),none⟩,⟨some 10,.mov (.t 32),none⟩]))))))⟩
def rf201 : RF := ⟨10,[.cell 3 true 1,.tmp 4],.seq (
.ops [] [⟨some 2,.box (some 1) (.t 0) none,none⟩,⟨some 3,.alloc (some 1) (.agg [.nils]) none,none⟩,⟨some 4,.mov (.c (.int .i64 0)),none⟩]) (
.seq (
.ops [] [⟨some 5,.load true 1 (.t 2),none⟩,⟨some 6,.load false 1 (.t 1),none⟩,⟨some 7,.call (.c (.fn 156 [] [])) [(.t 5),(.t 6)],none⟩,⟨some 8,.ext (.t 7) 0,none⟩,⟨some 9,.ext (.t 7) 1,none⟩,⟨none,.store 1 (.t 3) (.t 8),none⟩,⟨some 4,.mov (.t 9),none⟩]) (
.ret))⟩
def rf202 : RF := ⟨10,[.cell 2 true 4,.tmp 3],.seq (
.ops [] [⟨some 1,.box (some 4) (.t 0) none,none⟩,⟨some 2,.alloc (some 4) (.agg [.nils,(.int .i64 0),(.int .i64 0),.nils]) none,none⟩,⟨some 3,.mov (.c (.int .i64 0)),none⟩]) (
.seq (
.seq (
.ops [] [⟨some 4,.load true 4 (.t 1),none⟩,⟨some 5,.call (.c (.fn 127 [] [])) [(.t 4)],none⟩,⟨some 6,.un .not (.t 5),none⟩]) (
.cond (.t 6) ( .seq ( .ops [] [⟨some 7,.build [.nils,(.int .i64 0),(.int .i64 0),.nils] [],none⟩,⟨none,.store 4 (.t 2) (.t 7),none⟩,⟨some 3,.mov (.c (.int .i64 1)),none⟩]) ( .ret)) ( .skip))) (
.seq (
.ops [] [⟨some 8,.load true 4 (.t 1),none⟩,⟨some 9,.call (.c (.fn 255 [] [])) [(.t 8)],none⟩,⟨none,.store 4 (.t 2) (.t 9),none⟩,⟨some 3,.mov (.c (.int .i64 0)),none⟩]) (
.ret)))⟩
def rf203 : RF := ⟨11,[.tmp 2],.seq (
.ops [] [⟨some 1,.box (some 4) (.t 0) none,none⟩,⟨some 2,.mov (.c (.bool false)),none⟩]) (
.seq (
.ops [] [⟨some 3,.load true 4 (.t 1),none⟩,⟨some 4,.call (.c (.fn 256 [] [])) [(.t 3)],none⟩,⟨some 5,.mov (.t 4),none⟩,⟨some 6,.fa 0 (.t 1),(some (5,true))⟩,⟨some 7,.load false 1 (.t 6),(some (5,true))⟩,⟨some 8,.len (.t 7),(some (5,true))⟩,⟨some 9,.bin .eql (.t 8) (.c (.int .i64 0)),(some (5,true))⟩,⟨some 10,.pick (.t 5) (.t 9) (.c (.bool false)),none⟩,⟨some 2,.mov (.t 10),none⟩]) (
.ret))⟩
def rf204 : RF := ⟨77,[.tmp 2],.seq (
.ops [] [⟨some 2,.mov (.c .nils),none⟩]) (
.scope ( .seq ( .ops [] [⟨some 10,.mov (.t 0),none⟩,⟨some 11,.len (.t 10),none⟩,⟨some 12,.mksl (some 4) (.agg [.nils,(.int .i64 0),(.int .i64 0),.nils]) 64 (.t 11) (.t 11) none,none⟩,⟨some 3,.mov (.t 12),none⟩]) ( .seq ( .seq ( .ops [] [⟨some 13,.mov (.t 0),none⟩,⟨some 14,.len (.t 13),none⟩,⟨some 15,.mov (.c (.int .i64 0)),none⟩]) ( .block 0 ( .loop ( .seq ( .ops [] [⟨some 16,.bin .lss (.t 15) (.t 14),none⟩]) ( .seq ( .cond (.t 16) ( .skip) ( .exit 0)) ( .seq ( .block 1 ( .seq ( .ops [] [⟨some 17,.mov (.t 15),none⟩,⟨some 18,.ia 4 (.t 13) (.t 15),none⟩,⟨some 19,.load true 4 (.t 18),none⟩,⟨some 5,.alloc (some 4) (.agg [.nils,(.int .i64 0),(.int .i64 0),.nils]) none,none⟩,⟨some 4,.mov (.t 17),none⟩,⟨none,.store 4 (.t 5) (.t 19),none⟩]) ( .ops [] [⟨some 21,.mov (.t 3),none⟩,⟨some 22,.mov (.t 4),none⟩,⟨some 23,.load true 4 (.t 5),none⟩,⟨some 24,.call (.c (.fn 202 [] [])) [(.t 23)],none⟩,⟨some 20,.mov (.t 24),none⟩,⟨some 25,.ext (.t 20) 0,none⟩,⟨some 26,.ext (.t 20) 1,none⟩,⟨some 27,.ia 4 (.t 21) (.t 22),none⟩,⟨none,.store 4 (.t 27) (.t 25),none⟩]))) ( .ops [] [⟨some 28,.bin .add (.t 15) (.c (.int .i64 1)),none⟩,⟨some 15,.mov (.t 28),none⟩]))))))) ( .seq ( .label 0) ( .seq ( .seq ( .ops [] [⟨some 29,.mov (.t 3),none⟩,⟨some 30,.len (.t 29),none⟩,⟨some 31,.mov (.c (.int .i64 0)),none⟩]) ( .block 2 ( .loop ( .seq ( .ops [] [⟨some 32,.bin .lss (.t 31) (.t 30),none⟩]) ( .seq ( .cond (.t 32) ( .skip) ( .exit 2)) ( .seq ( .block 3 ( .seq ( .ops [] [⟨some 33,.mov (.t 31),none⟩,⟨some 6,.mov (.t 33),none⟩]) ( .seq ( .ops [] [⟨some 34,.mov (.t 6),none⟩,⟨some 35,.bin .add (.t 34) (.c (.int .i64 1)),none⟩,⟨some 7,.mov (.t 35),none⟩]) ( .block 4 ( .loop ( .seq ( .seq ( .ops [] [⟨some 36,.mov (.t 7),none⟩,⟨some 37,.mov (.t 3),none⟩,⟨some 38,.len (.t 37),none⟩,⟨some 39,.bin .lss (.t 36) (.t 38),none⟩]) ( .cond (.t 39) ( .skip) ( .exit 4))) ( .seq ( .block 5 ( .seq ( .seq ( .dops [] 0 [⟨some 42,.mov (.t 3),none⟩,⟨some 43,.mov (.t 6),none⟩,⟨some 44,.ia 4 (.t 42) (.t 43),none⟩,⟨some 45,.load true 4 (.t 44),none⟩,⟨some 46,.mov (.t 3),none⟩,⟨some 47,.mov (.t 7),none⟩,⟨some 48,.ia 4 (.t 46) (.t 47),none⟩,⟨some 49,.load true 4 (.t 48),none⟩,⟨some 50,.call (.c (.fn 205 [] [])) [(.t 45),(.t 49)],none⟩,⟨some 51,.un .not (.t 50),none⟩] []) ( .cond (.t 51) ( .exit 5) ( .skip))) ( .seq ( .dops [] 1 [⟨some 53,.mov (.t 3),none⟩,⟨some 54,.mov (.t 6),none⟩,⟨some 55,.ia 4 (.t 53) (.t 54),none⟩,⟨some 56,.load true 4 (.t 55),none⟩,⟨some 57,.mov (.t 3),none⟩,⟨some 58,.mov (.t 7),none⟩,⟨some 59,.ia 4 (.t 57) (.t 58),none⟩,⟨some 60,.load true 4 (.t 59),none⟩,⟨some 61,.call (.c (.fn 257 [] [])) [(.t 56),(.t 60)],none⟩,⟨some 52,.mov (.t 61),none⟩,⟨some 62,.ext (.t 52) 0,none⟩,⟨some 63,.ext (.t 52) 1,none⟩,⟨some 8,.alloc (some 4) (.agg [.nils,(.int .i64 0),(.int .i64 0),.nils]) (some 0),none⟩,⟨none,.store 4 (.t 8) (.t 62),none⟩,⟨some 9,.mov (.t 63),none⟩] []) ( .seq ( .ops [] [⟨some 64,.mov (.t 9),none⟩,⟨some 65,.bin .eql (.t 64) (.c (.int .i64 0)),none⟩]) ( .cond (.t 65) ( .seq ( .ops [] [⟨some 66,.mov (.t 3),none⟩,⟨some 67,.mov (.t 6),none⟩,⟨some 68,.load true 4 (.t 8),none⟩,⟨some 69,.ia 4 (.t 66) (.t 67),none⟩,⟨none,.store 4 (.t 69) (.t 68),none⟩]) ( .seq ( .ops [] [⟨some 70,.mov (.t 3),none⟩,⟨some 71,.mov (.t 7),none⟩,⟨some 72,.mov (.t 7),none⟩,⟨some 73,.bin .add (.t 72) (.c (.int .i64 1)),none⟩,⟨some 74,.call (.c (.fn 258 [] [])) [(.t 70),(.t 71),(.t 73)],none⟩,⟨some 3,.mov (.t 74),none⟩]) ( .goto 0))) ( .skip)))))) ( .ops [] [⟨some 40,.mov (.t 7),none⟩,⟨some 41,.bin .add (.t 40) (.c (.int .i64 1)),none⟩,⟨some 7,.mov (.t 41),none⟩])))))))) ( .ops [] [⟨some 75,.bin .add (.t 31) (.c (.int .i64 1)),none⟩,⟨some 31,.mov (.t 75),none⟩]))))))) ( .seq ( .ops [] [⟨some 76,.mov (.t 3),none⟩,⟨some 2,.mov (.t 76),none⟩]) ( .ret)))))))⟩
def rf205 : RF := ⟨19,[.tmp 4],.seq (
.ops [] [⟨some 2,.box (some 4) (.t 0) none,none⟩,⟨some 3,.box (some 4) (.t 1) none,none⟩,⟨some 4,.mov (.c (.bool false)),none⟩]) (
.seq (
.ops [] [⟨some 5,.fa 2 (.t 2),none⟩,⟨some 6,.load false 1 (.t 5),none⟩,⟨some 7,.fa 2 (.t 3),none⟩,⟨some 8,.load false 1 (.t 7),none⟩,⟨some 9,.bin .rem (.t 6) (.t 8),none⟩,⟨some 10,.bin .eql (.t 9) (.c (.int .i64 0)),none⟩,⟨some 11,.mov (.t 10),none⟩,⟨some 12,.fa 2 (.t 3),(some (11,false))⟩,⟨some 13,.load false 1 (.t 12),(some (11,false))⟩,⟨some 14,.fa 2 (.t 2),(some (11,false))⟩,⟨some 15,.load false 1 (.t 14),(some (11,false))⟩,⟨some 16,.bin .rem (.t 13) (.t 15),(some (11,false))⟩,⟨some 17,.bin .eql (.t 16) (.c (.int .i64 0)),(some (11,false))⟩,⟨some 18,.pick (.t 11) (.c (.bool true)) (.t 17),none⟩,⟨some 4,.mov (.t 18),none⟩]) (
.ret))⟩
def rf206 : RF := ⟨11,[.cell 4 true 4,.tmp 5],.seq (
.ops [] [⟨some 2,.box (some 4) (.t 0) none,none⟩,⟨some 3,.box (some 4) (.t 1) none,none⟩,⟨some 4,.alloc (some 4) (.agg [.nils,(.int .i64 0),(.int .i64 0),.nils]) none,none⟩,⟨some 5,.mov (.c (.int .i64 0)),none⟩]) (
.seq (
.ops [] [⟨some 6,.load true 4 (.t 2),none⟩,⟨some 7,.load true 4 (.t 3),none⟩,⟨some 8,.call (.c (.fn 259 [] [])) [(.t 6),(.t 7),(.c (.int .i64 1))],none⟩,⟨some 9,.ext (.t 8) 0,none⟩,⟨some 10,.ext (.t 8) 1,none⟩,⟨none,.store 4 (.t 4) (.t 9),none⟩,⟨some 5,.mov (.t 10),none⟩]) (
.ret))⟩
def rf211 : RF := ⟨16,[],.seq (
.ops [] [⟨some 5,.load false 1 (.t 1),none⟩,⟨some 6,.len (.t 5),none⟩,⟨some 7,.mov (.c (.int .i64 0)),none⟩]) (
.block 0 ( .loop ( .seq ( .ops [] [⟨some 8,.bin .lss (.t 7) (.t 6),none⟩]) ( .seq ( .cond (.t 8) ( .skip) ( .exit 0)) ( .seq ( .block 1 ( .seq ( .ops [] [⟨some 9,.ia 1 (.t 5) (.t 7),none⟩,⟨some 10,.load false 1 (.t 9),none⟩,⟨some 4,.mov (.t 10),none⟩]) ( .seq ( .ops [] [⟨some 11,.mov (.t 0),none⟩,⟨some 12,.mov (.t 4),none⟩,⟨some 13,.call (.t 11) [(.t 12)],none⟩,⟨some 14,.un .not (.t 13),none⟩]) ( .cond (.t 14) ( .ret) ( .skip))))) ( .ops [] [⟨some 15,.bin .add (.t 7) (.c (.int .i64 1)),none⟩,⟨some 7,.mov (.t 15),none⟩]))))))⟩
def rf212 : RF := ⟨11,[.cell 4 true 4,.tmp 5],.seq (
.ops [] [⟨some 2,.box (some 4) (.t 0) none,none⟩,⟨some 3,.box (some 4) (.t 1) none,none⟩,⟨some 4,.alloc (some 4) (.agg [.nils,(.int .i64 0),(.int .i64 0),.nils]) none,none⟩,⟨some 5,.mov (.c (.int .i64 0)),none⟩]) (
.seq (
.ops [] [⟨some 6,.load true 4 (.t 2),none⟩,⟨some 7,.load true 4 (.t 3),none⟩,⟨some 8,.call (.c (.fn 259 [] [])) [(.t 6),(.t 7),(.c (.int .i64 2))],none⟩,⟨some 9,.ext (.t 8) 0,none⟩,⟨some 10,.ext (.t 8) 1,none⟩,⟨none,.store 4 (.t 4) (.t 9),none⟩,⟨some 5,.mov (.t 10),none⟩]) (
.ret))⟩
def rf213 : RF := ⟨8,[.tmp 2],.seq (
.ops [] [⟨some 2,.mov (.c .nils),none⟩]) (
.seq (
.seq (
.ops [] [⟨some 3,.mov (.t 0),none⟩,⟨some 4,.nileq false .sl (.t 3) (.c .nils),none⟩]) (
.cond (.t 4) ( .seq ( .ops [] [⟨some 2,.mov (.c .nils),none⟩]) ( .ret)) ( .skip))) (
.seq (
.ops [] [⟨some 5,.bsl (some none) (some 4) (.agg [.nils,(.int .i64 0),(.int .i64 0),.nils]) 0 [],none⟩,⟨some 6,.mov (.t 0),none⟩,⟨some 7,.app (some 4) 64 (.t 5) (.t 6),none⟩,⟨some 2,.mov (.t 7),none⟩]) (
.ret)))⟩
def rf214 : RF := ⟨19,[.tmp 4],.seq (
.ops [] [⟨some 4,.mov (.c (.int .i64 0)),none⟩]) (
.seq (
.seq (
.ops [] [⟨some 6,.mov (.t 0),none⟩,⟨some 7,.len (.t 6),none⟩,⟨some 8,.mov (.c (.int .i64 0)),none⟩]) (
.block 0 ( .loop ( .seq ( .ops [] [⟨some 9,.bin .lss (.t 8) (.t 7),none⟩]) ( .seq ( .cond (.t 9) ( .skip) ( .exit 0)) ( .seq ( .block 1 ( .seq ( .ops [] [⟨some 10,.mov (.t 8),none⟩,⟨some 5,.mov (.t 10),none⟩]) ( .seq ( .ops [] [⟨some 11,.mov (.t 1),none⟩,⟨some 12,.mov (.t 0),none⟩,⟨some 13,.mov (.t 5),none⟩,⟨some 14,.ia 1 (.t 12) (.t 13),none⟩,⟨some 15,.load false 1 (.t 14),none⟩,⟨some 16,.call (.t 11) [(.t 15)],none⟩]) ( .cond (.t 16) ( .seq ( .ops [] [⟨some 17,.mov (.t 5),none⟩,⟨some 4,.mov (.t 17),none⟩]) ( .ret)) ( .skip))))) ( .ops [] [⟨some 18,.bin .add (.t 8) (.c (.int .i64 1)),none⟩,⟨some 8,.mov (.t 18),none⟩]))))))) (
.seq (
.ops [] [⟨some 4,.mov (.c (.int .i64 (-1))),none⟩]) (
.ret)))⟩
def rf215 : RF := ⟨47,[.tmp 4,.tmp 5],.seq (
.ops [] [⟨some 4,.mov (.c (.int .i64 0)),none⟩,⟨some 5,.mov (.c (.bool false)),none⟩]) (
.seq (
.ops [] [⟨some 6,.mov (.c (.int .i64 0)),none⟩,⟨some 7,.mov (.c (.bool false)),none⟩]) (
.seq (
.seq (
.ops [] [⟨some 12,.mov (.t 0),none⟩,⟨some 13,.len (.t 12),none⟩,⟨some 14,.mov (.c (.int .i64 0)),none⟩]) (
.block 0 ( .loop ( .seq ( .ops [] [⟨some 15,.bin .lss (.t 14) (.t 13),none⟩]) ( .seq ( .cond (.t 15) ( .skip) ( .exit 0)) ( .seq ( .block 1 ( .seq ( .ops [] [⟨some 16,.ia 4 (.t 12) (.t 14),none⟩,⟨some 17,.load true 4 (.t 16),none⟩,⟨some 9,.alloc (some 4) (.agg [.nils,(.int .i64 0),(.int .i64 0),.nils]) none,none⟩,⟨none,.store 4 (.t 9) (.t 17),none⟩]) ( .seq ( .ops [] [⟨some 18,.fa 0 (.t 9),none⟩,⟨some 19,.load false 1 (.t 18),none⟩,⟨some 20,.len (.t 19),none⟩,⟨some 21,.mov (.c (.int .i64 0)),none⟩]) ( .block 2 ( .loop ( .seq ( .ops [] [⟨some 22,.bin .lss (.t 21) (.t 20),none⟩]) ( .seq ( .cond (.t 22) ( .skip) ( .exit 2)) ( .seq ( .block 3 ( .seq ( .ops [] [⟨some 23,.ia 1 (.t 19) (.t 21),none⟩,⟨some 24,.load false 1 (.t 23),none⟩,⟨some 11,.mov (.t 24),none⟩]) ( .seq ( .ops [] [⟨some 25,.mov (.t 11),none⟩,⟨some 26,.mov (.t 1),none⟩,⟨some 27,.bin .geq (.t 25) (.t 26),none⟩,⟨some 28,.mov (.t 27),none⟩,⟨some 29,.mov (.t 7),(some (28,true))⟩,⟨some 30,.un .not (.t 29),(some (28,true))⟩,⟨some 31,.mov (.t 30),(some (28,true))⟩,⟨some 32,.mov (.t 11),(some (31,false))⟩,⟨some 33,.mov (.t 6),(some (31,false))⟩,⟨some 34,.bin .lss (.t 32) (.t 33),(some (31,false))⟩,⟨some 35,.pick (.t 31) (.c (.bool true)) (.t 34),(some (28,true))⟩,⟨some 36,.pick (.t 28) (.t 35) (.c (.bool false)),none⟩,⟨some 37,.mov (.t 36),none⟩,⟨some 38,.mov (.t 0),(some (37,true))⟩,⟨some 39,.mov (.t 11),(some (37,true))⟩,⟨some 40,.call (.c (.fn 221 [] [])) [(.t 38),(.t 39)],(some (37,true))⟩,⟨some 41,.pick (.t 37) (.t 40) (.c (.bool false)),none⟩]) ( .cond (.t 41) ( .ops [] [⟨some 42,.mov (.t 11),none⟩,⟨some 6,.mov (.t 42),none⟩,⟨some 7,.mov (.c (.bool true)),none⟩]) ( .skip))))) ( .ops [] [⟨some 43,.bin .add (.t 21) (.c (.int .i64 1)),none⟩,⟨some 21,.mov (.t 43),none⟩]))))))))) ( .ops [] [⟨some 44,.bin .add (.t 14) (.c (.int .i64 1)),none⟩,⟨some 14,.mov (.t 44),none⟩]))))))) (
.seq (
.ops [] [⟨some 45,.mov (.t 6),none⟩,⟨some 46,.mov (.t 7),none⟩,⟨some 4,.mov (.t 45),none⟩,⟨some 5,.mov (.t 46),none⟩]) (
.ret))))⟩
def rf216 : RF := ⟨11,[.tmp 2],.seq (
.ops [] [⟨some 1,.box none (.t 0) none,none⟩,⟨some 2,.mov (.c (.bool false)),none⟩]) (
.seq (
.ops [] [⟨some 5,.load false 1 (.t 1),none⟩,⟨some 6,.len (.t 5),none⟩,⟨some 7,.mksl none (.int .i64 0) 8 (.t 6) (.t 6) none,none⟩,⟨some 3,.alloc none .nils none,none⟩,⟨none,.store 1 (.t 3) (.t 7),none⟩]) (
.seq (
.ops [] [⟨some 4,.alloc none .nilf none,none⟩]) (
.seq (
.ops [] [⟨some 8,.mkfn 261 [] [(.t 1),(.t 3),(.t 4)],none⟩,⟨none,.store 1 (.t 4) (.t 8),none⟩]) (
.seq (
.ops [] [⟨some 9,.load false 1 (.t 4),none⟩,⟨some 10,.call (.t 9) [(.c (.int .i64 0))],none⟩,⟨some 2,.mov (.t 10),none⟩]) (
.ret)))))⟩
def rf217 : RF := ⟨20,[.tmp 4,.tmp 5],.seq (
.ops [] [⟨some 2,.box none (.t 0) none,none⟩,⟨some 3,.box none (.t 1) none,none⟩,⟨some 4,.mov (.c (.int .i64 0)),none⟩,⟨some 5,.mov (.c (.bool false)),none⟩]) (
.seq (
.dops [] 0 [⟨some 9,.load false 1 (.t 3),none⟩,⟨some 10,.load false 1 (.t 2),none⟩,⟨some 11,.call (.c (.fn 264 [] [])) [(.t 10)],none⟩,⟨some 12,.mx [(.t 9),(.t 11)],none⟩,⟨none,.store 1 (.t 3) (.t 12),none⟩] []) (
.seq (
.ops [] [⟨some 6,.alloc none (.int .i64 0) none,none⟩,⟨some 7,.alloc none (.bool false) none,none⟩,⟨none,.store 1 (.t 6) (.c (.int .i64 1152921504606846976)),none⟩,⟨none,.store 1 (.t 7) (.c (.bool false)),none⟩]) (
.seq (
.ops [] [⟨some 8,.alloc none .nilf none,none⟩]) (
.seq (
.ops [] [⟨some 13,.mkfn 265 [] [(.t 2),(.t 8),(.t 3),(.t 6),(.t 7)],none⟩,⟨none,.store 1 (.t 8) (.t 13),none⟩]) (
.seq (
.ops [] [⟨some 14,.load false 1 (.t 8),none⟩,⟨some 15,.build [(.int .i64 0),(.int .i64 0)] [(0,1,(.c (.int .i64 0))),(1,1,(.c (.int .i64 1)))],none⟩,⟨some 16,.call (.t 14) [(.c (.int .i64 0)),(.t 15)],none⟩]) (
.seq (
.seq (
.ops [] [⟨some 17,.load false 1 (.t 7),none⟩,⟨some 18,.un .not (.t 17),none⟩]) (
.cond (.t 18) ( .seq ( .ops [] [⟨some 4,.mov (.c (.int .i64 0)),none⟩,⟨some 5,.mov (.c (.bool false)),none⟩]) ( .ret)) ( .skip))) (
.seq (
.ops [] [⟨some 19,.load false 1 (.t 6),none⟩,⟨some 4,.mov (.t 19),none⟩,⟨some 5,.mov (.c (.bool true)),none⟩]) (
.ret))))))))⟩
def rf218 : RF := ⟨23,[.tmp 4,.tmp 5],.seq (
.ops [] [⟨some 2,.box (some 8) (.t 0) none,none⟩,⟨some 4,.mov (.c (.int .i64 0)),none⟩,⟨some 5,.mov (.c (.int .i64 0)),none⟩]) (
.seq (
.ops [] [⟨some 9,.load true 8 (.t 2),none⟩,⟨some 10,.call (.c (.fn 124 [] [])) [(.t 9)],none⟩,⟨some 8,.mov (.t 10),none⟩,⟨some 11,.ext (.t 8) 0,none⟩,⟨some 12,.ext (.t 8) 1,none⟩,⟨some 6,.mov (.t 11),none⟩,⟨some 7,.mov (.t 12),none⟩]) (
.seq (
.seq (
.ops [] [⟨some 13,.mov (.t 7),none⟩,⟨some 14,.un .not (.t 13),none⟩,⟨some 15,.mov (.t 14),none⟩,⟨some 16,.mov (.t 1),(some (15,false))⟩,⟨some 17,.call (.c (.fn 191 [] [])) [(.t 16),(.c (.int .i64 2251799813685248))],(some (15,false))⟩,⟨some 18,.un .not (.t 17),(some (15,false))⟩,⟨some 19,.pick (.t 15) (.c (.bool true)) (.t 18),none⟩]) (
.cond (.t 19) ( .seq ( .ops [] [⟨some 4,.mov (.c (.int .i64 0)),none⟩,⟨some 5,.mov (.c (.int .i64 1)),none⟩]) ( .ret)) ( .skip))) (
.seq (
.ops [] [⟨some 20,.mov (.t 6),none⟩,⟨some 21,.mov (.t 1),none⟩,⟨some 22,.call (.c (.fn 267 [] [])) [(.t 20),(.t 21)],none⟩,⟨some 4,.mov (.t 22),none⟩,⟨some 5,.mov (.c (.int .i64 0)),none⟩]) (
.ret))))⟩
def rf219 : RF := ⟨6,[.tmp 2],.seq (
.ops [] [⟨some 2,.mov (.c (.bool false)),none⟩]) (
.seq (
.ops [] [⟨some 3,.mov (.t 0),none⟩,⟨some 4,.mov (.t 0),none⟩,⟨some 5,.bin .neq (.t 3) (.t 4),none⟩,⟨some 2,.mov (.t 5),none⟩]) (
.ret))⟩
def rf220 : RF := ⟨7,[.tmp 3],.seq (
.ops [] [⟨some 3,.mov (.c (.bool false)),none⟩]) (
.seq (
.ops [] [⟨some 4,.mov (.t 0),none⟩,⟨some 5,.load false 1 (.t 1),none⟩,⟨some 6,.call (.c (.fn 221 [] [])) [(.t 4),(.t 5)],none⟩,⟨some 3,.mov (.t 6),none⟩]) (
.ret))⟩
def rf221 : RF := ⟨9,[.tmp 4],.seq (
.ops [] [⟨some 3,.box none (.t 1) none,none⟩,⟨some 4,.mov (.c (.bool false)),none⟩]) (
.seq (
.ops [] [⟨some 5,.mov (.t 0),none⟩,⟨some 6,.mkfn 268 [] [(.t 3)],none⟩,⟨some 7,.call (.c (.fn 125 [] [])) [(.t 5),(.t 6)],none⟩,⟨some 8,.un .not (.t 7),none⟩,⟨some 4,.mov (.t 8),none⟩]) (
.ret))⟩
def rf222 : RF := ⟨19,[.tmp 4],.seq (
.ops [] [⟨some 4,.mov (.c (.int .i64 0)),none⟩]) (
.seq (
.seq (
.ops [] [⟨some 6,.mov (.t 0),none⟩,⟨some 7,.len (.t 6),none⟩,⟨some 8,.mov (.c (.int .i64 0)),none⟩]) (
.block 0 ( .loop ( .seq ( .ops [] [⟨some 9,.bin .lss (.t 8) (.t 7),none⟩]) ( .seq ( .cond (.t 9) ( .skip) ( .exit 0)) ( .seq ( .block 1 ( .seq ( .ops [] [⟨some 10,.mov (.t 8),none⟩,⟨some 5,.mov (.t 10),none⟩]) ( .seq ( .ops [] [⟨some 11,.mov (.t 1),none⟩,⟨some 12,.mov (.t 0),none⟩,⟨some 13,.mov (.t 5),none⟩,⟨some 14,.ia 1 (.t 12) (.t 13),none⟩,⟨some 15,.load false 1 (.t 14),none⟩,⟨some 16,.bin .eql (.t 11) (.t 15),none⟩]) ( .cond (.t 16) ( .seq ( .ops [] [⟨some 17,.mov (.t 5),none⟩,⟨some 4,.mov (.t 17),none⟩]) ( .ret)) ( .skip))))) ( .ops [] [⟨some 18,.bin .add (.t 8) (.c (.int .i64 1)),none⟩,⟨some 8,.mov (.t 18),none⟩]))))))) (
.seq (
.ops [] [⟨some 4,.mov (.c (.int .i64 (-1))),none⟩]) (
.ret)))⟩
def rf224 : RF := ⟨52,[.cell 4 true 4,.tmp 5],.seq (
.ops [] [⟨some 2,.box (some 4) (.t 0) none,none⟩,⟨some 4,.alloc (some 4) (.agg [.nils,(.int .i64 0),(.int .i64 0),.nils]) none,none⟩,⟨some 5,.mov (.c (.int .i64 0)),none⟩]) (
.seq (
.seq (
.ops [] [⟨some 8,.load true 4 (.t 2),none⟩,⟨some 9,.call (.c (.fn 127 [] [])) [(.t 8)],none⟩,⟨some 10,.un .not (.t 9),none⟩,⟨some 11,.mov (.t 10),none⟩,⟨some 12,.mov (.t 1),(some (11,false))⟩,⟨some 13,.bin .lss (.t 12) (.c (.int .i64 (-1099511627776))),(some (11,false))⟩,⟨some 14,.pick (.t 11) (.c (.bool true)) (.t 13),none⟩,⟨some 15,.mov (.t 14),none⟩,⟨some 16,.mov (.t 1),(some (15,false))⟩,⟨some 17,.bin .gtr (.t 16) (.c (.int .i64 1099511627776)),(some (15,false))⟩,⟨some 18,.pick (.t 15) (.c (.bool true)) (.t 17),none⟩]) (
.cond (.t 18) ( .seq ( .ops [] [⟨some 19,.build [.nils,(.int .i64 0),(.int .i64 0),.nils] [],none⟩,⟨none,.store 4 (.t 4) (.t 19),none⟩,⟨some 5,.mov (.c (.int .i64 1)),none⟩]) ( .ret)) ( .skip))) (
.seq (
.ops [] [⟨some 20,.load true 4 (.t 2),none⟩,⟨some 21,.mov (.t 1),none⟩,⟨some 22,.un .neg (.t 21),none⟩,⟨some 23,.mx [(.t 22),(.c (.int .i64 0))],none⟩,⟨some 24,.call (.c (.fn 270 [] [])) [(.t 20),(.t 23)],none⟩,⟨some 6,.alloc (some 4) (.agg [.nils,(.int .i64 0),(.int .i64 0),.nils]) none,none⟩,⟨none,.store 4 (.t 6) (.t 24),none⟩]) (
.seq (
.ops [] [⟨some 25,.fa 1 (.t 6),none⟩,⟨some 26,.load false 1 (.t 25),none⟩,⟨some 27,.mov (.t 1),none⟩,⟨some 28,.bin .add (.t 26) (.t 27),none⟩,⟨some 29,.fa 1 (.t 6),none⟩,⟨none,.store 1 (.t 29) (.t 28),none⟩]) (
.seq (
.seq (
.ops [] [⟨some 30,.fa 0 (.t 6),none⟩,⟨some 31,.load false 1 (.t 30),none⟩,⟨some 32,.len (.t 31),none⟩,⟨some 33,.mov (.c (.int .i64 0)),none⟩]) (
.block 0 ( .loop ( .seq ( .ops [] [⟨some 34,.bin .lss (.t 33) (.t 32),none⟩]) ( .seq ( .cond (.t 34) ( .skip) ( .exit 0)) ( .seq ( .block 1 ( .seq ( .ops [] [⟨some 35,.mov (.t 33),none⟩,⟨some 7,.mov (.t 35),none⟩]) ( .ops [] [⟨some 36,.fa 0 (.t 6),none⟩,⟨some 37,.load false 1 (.t 36),none⟩,⟨some 38,.mov (.t 7),none⟩,⟨some 39,.ia 1 (.t 37) (.t 38),none⟩,⟨some 40,.load false 1 (.t 39),none⟩,⟨some 41,.mov (.t 1),none⟩,⟨some 42,.bin .add (.t 40) (.t 41),none⟩,⟨some 43,.ia 1 (.t 37) (.t 38),none⟩,⟨none,.store 1 (.t 43) (.t 42),none⟩]))) ( .ops [] [⟨some 44,.bin .add (.t 33) (.c (.int .i64 1)),none⟩,⟨some 33,.mov (.t 44),none⟩]))))))) (
.seq (
.seq (
.ops [] [⟨some 45,.load true 4 (.t 6),none⟩,⟨some 46,.call (.c (.fn 255 [] [])) [(.t 45)],none⟩,⟨none,.store 4 (.t 6) (.t 46),none⟩]) (
.seq (
.ops [] [⟨some 47,.fa 1 (.t 6),none⟩,⟨some 48,.load false 1 (.t 47),none⟩,⟨some 49,.bin .gtr (.t 48) (.c (.int .i64 1099511627776)),none⟩]) (
.cond (.t 49) ( .seq ( .ops [] [⟨some 50,.build [.nils,(.int .i64 0),(.int .i64 0),.nils] [],none⟩,⟨none,.store 4 (.t 4) (.t 50),none⟩,⟨some 5,.mov (.c (.int .i64 2)),none⟩]) ( .ret)) ( .skip)))) (
.seq (
.ops [] [⟨some 51,.load true 4 (.t 6),none⟩,⟨none,.store 4 (.t 4) (.t 51),none⟩,⟨some 5,.mov (.c (.int .i64 0)),none⟩]) (
.ret)))))))⟩
def rf225 : RF := ⟨31,[],.seq (
.ops [] [⟨some 8,.fa 0 (.t 1),none⟩,⟨some 9,.load false 1 (.t 8),none⟩,⟨some 10,.len (.t 9),none⟩,⟨some 11,.mov (.c (.int .i64 0)),none⟩]) (
.block 0 ( .loop ( .seq ( .ops [] [⟨some 12,.bin .lss (.t 11) (.t 10),none⟩]) ( .seq ( .cond (.t 12) ( .skip) ( .exit 0)) ( .seq ( .block 1 ( .seq ( .ops [] [⟨some 13,.ia 1 (.t 9) (.t 11),none⟩,⟨some 14,.load false 1 (.t 13),none⟩,⟨some 5,.mov (.t 14),none⟩]) ( .seq ( .ops [] [⟨some 15,.fa 0 (.t 2),none⟩,⟨some 16,.load false 1 (.t 15),none⟩,⟨some 17,.len (.t 16),none⟩,⟨some 18,.mov (.c (.int .i64 0)),none⟩]) ( .block 2 ( .loop ( .seq ( .ops [] [⟨some 19,.bin .lss (.t 18) (.t 17),none⟩]) ( .seq ( .cond (.t 19) ( .skip) ( .exit 2)) ( .seq ( .block 3 ( .seq ( .ops [] [⟨some 20,.ia 1 (.t 16) (.t 18),none⟩,⟨some 21,.load false 1 (.t 20),none⟩,⟨some 7,.mov (.t 21),none⟩]) ( .seq ( .ops [] [⟨some 22,.mov (.t 0),none⟩,⟨some 23,.mov (.t 5),none⟩,⟨some 24,.mov (.t 7),none⟩,⟨some 25,.bsl none none .nils 2 [(0,(.t 23)),(1,(.t 24))],none⟩,⟨some 26,.call (.c (.fn 226 [] [])) [(.t 25)],none⟩,⟨some 27,.call (.t 22) [(.t 26)],none⟩,⟨some 28,.un .not (.t 27),none⟩]) ( .cond (.t 28) ( .ret) ( .skip))))) ( .ops [] [⟨some 29,.bin .add (.t 18) (.c (.int .i64 1)),none⟩,⟨some 18,.mov (.t 29),none⟩]))))))))) ( .ops [] [⟨some 30,.bin .add (.t 11) (.c (.int .i64 1)),none⟩,⟨some 11,.mov (.t 30),none⟩]))))))⟩
def rf226 : RF := ⟨36,[.tmp 2],.seq (
.ops [] [⟨some 2,.mov (.c .nils),none⟩]) (
.seq (
.ops [] [⟨some 3,.mov (.c (.int .i64 0)),none⟩]) (
.seq (
.seq (
.ops [] [⟨some 9,.mov (.t 0),none⟩,⟨some 10,.len (.t 9),none⟩,⟨some 11,.mov (.c (.int .i64 0)),none⟩]) (
.block 0 ( .loop ( .seq ( .ops [] [⟨some 12,.bin .lss (.t 11) (.t 10),none⟩]) ( .seq ( .cond (.t 12) ( .skip) ( .exit 0)) ( .seq ( .block 1 ( .seq ( .ops [] [⟨some 13,.ia 1 (.t 9) (.t 11),none⟩,⟨some 14,.load false 1 (.t 13),none⟩,⟨some 5,.mov (.t 14),none⟩]) ( .seq ( .ops [] [⟨some 15,.mov (.t 3),none⟩,⟨some 16,.mov (.t 5),none⟩,⟨some 17,.len (.t 16),none⟩,⟨some 18,.bin .add (.t 15) (.t 17),none⟩,⟨some 3,.mov (.t 18),none⟩]) ( .seq ( .ops [] [⟨some 19,.mov (.t 3),none⟩,⟨some 20,.bin .lss (.t 19) (.c (.int .i64 0)),none⟩]) ( .cond (.t 20) ( .ops [] [⟨some 21,.bad,none⟩,⟨none,.bad,none⟩]) ( .skip)))))) ( .ops [] [⟨some 22,.bin .add (.t 11) (.c (.int .i64 1)),none⟩,⟨some 11,.mov (.t 22),none⟩]))))))) (
.seq (
.ops [] [⟨some 23,.mov (.t 3),none⟩,⟨some 24,.call (.c (.fn 271 [] [])) [(.c .nils),(.t 23)],none⟩,⟨some 6,.mov (.t 24),none⟩]) (
.seq (
.seq (
.ops [] [⟨some 25,.mov (.t 0),none⟩,⟨some 26,.len (.t 25),none⟩,⟨some 27,.mov (.c (.int .i64 0)),none⟩]) (
.block 2 ( .loop ( .seq ( .ops [] [⟨some 28,.bin .lss (.t 27) (.t 26),none⟩]) ( .seq ( .cond (.t 28) ( .skip) ( .exit 2)) ( .seq ( .block 3 ( .seq ( .ops [] [⟨some 29,.ia 1 (.t 25) (.t 27),none⟩,⟨some 30,.load false 1 (.t 29),none⟩,⟨some 8,.mov (.t 30),none⟩]) ( .ops [] [⟨some 31,.mov (.t 6),none⟩,⟨some 32,.mov (.t 8),none⟩,⟨some 33,.app (some 4) 64 (.t 31) (.t 32),none⟩,⟨some 6,.mov (.t 33),none⟩]))) ( .ops [] [⟨some 34,.bin .add (.t 27) (.c (.int .i64 1)),none⟩,⟨some 27,.mov (.t 34),none⟩]))))))) (
.seq (
.ops [] [⟨some 35,.mov (.t 6),none⟩,⟨some 2,.mov (.t 35),none⟩]) (
.ret))))))⟩
def rf227 : RF := ⟨8,[.tmp 2],.seq (
.ops [] [⟨some 2,.mov (.c .nils),none⟩]) (
.seq (
.seq (
.ops [] [⟨some 3,.mov (.t 0),none⟩,⟨some 4,.nileq false .sl (.t 3) (.c .nils),none⟩]) (
.cond (.t 4) ( .seq ( .ops [] [⟨some 2,.mov (.c .nils),none⟩]) ( .ret)) ( .skip))) (
.seq (
.ops [] [⟨some 5,.bsl (some none) (some 2) (.agg [.nils,(.int .i64 0)]) 0 [],none⟩,⟨some 6,.mov (.t 0),none⟩,⟨some 7,.app (some 2) 32 (.t 5) (.t 6),none⟩,⟨some 2,.mov (.t 7),none⟩]) (
.ret)))⟩
def rf228 : RF := ⟨8,[.tmp 2],.seq (
.ops [] [⟨some 2,.mov (.c .nils),none⟩]) (
.seq (
.seq (
.ops [] [⟨some 3,.mov (.t 0),none⟩,⟨some 4,.nileq false .sl (.t 3) (.c .nils),none⟩]) (
.cond (.t 4) ( .seq ( .ops [] [⟨some 2,.mov (.c .nils),none⟩]) ( .ret)) ( .skip))) (
.seq (
.ops [] [⟨some 5,.bsl (some none) (some 3) (.agg [(.int .i64 0),(.int .i64 0),(.int .i64 0)]) 0 [],none⟩,⟨some 6,.mov (.t 0),none⟩,⟨some 7,.app (some 3) 24 (.t 5) (.t 6),none⟩,⟨some 2,.mov (.t 7),none⟩]) (
.ret)))⟩
def rf229 : RF := ⟨61,[.cell 2 true 4,.tmp 3],.seq (
.ops [] [⟨some 1,.box (some 1) (.t 0) none,none⟩,⟨some 2,.alloc (some 4) (.agg [.nils,(.int .i64 0),(.int .i64 0),.nils]) none,none⟩,⟨some 3,.mov (.c (.int .i64 0)),none⟩]) (
.seq (
.seq (
.ops [] [⟨some 14,.load true 1 (.t 1),none⟩,⟨some 15,.call (.c (.fn 66 [] [])) [(.t 14)],none⟩,⟨some 16,.un .not (.t 15),none⟩]) (
.cond (.t 16) ( .seq ( .ops [] [⟨some 17,.build [.nils,(.int .i64 0),(.int .i64 0),.nils] [],none⟩,⟨none,.store 4 (.t 2) (.t 17),none⟩,⟨some 3,.mov (.c (.int .i64 1)),none⟩]) ( .ret)) ( .skip))) (
.seq (
.ops [] [⟨some 18,.build [.nils,(.int .i64 0),(.int .i64 0),.nils] [(2,1,(.c (.int .i64 1)))],none⟩,⟨some 4,.alloc (some 4) (.agg [.nils,(.int .i64 0),(.int .i64 0),.nils]) none,none⟩,⟨none,.store 4 (.t 4) (.t 18),none⟩]) (
.seq (
.seq (
.ops [] [⟨some 19,.fa 0 (.t 1),none⟩,⟨some 20,.load false 1 (.t 19),none⟩,⟨some 21,.len (.t 20),none⟩,⟨some 22,.mov (.c (.int .i64 0)),none⟩]) (
.block 0 ( .loop ( .seq ( .ops [] [⟨some 23,.bin .lss (.t 22) (.t 21),none⟩]) ( .seq ( .cond (.t 23) ( .skip) ( .exit 0)) ( .seq ( .block 1 ( .seq ( .ops [] [⟨some 24,.ia 1 (.t 20) (.t 22),none⟩,⟨some 25,.load false 1 (.t 24),none⟩,⟨some 6,.mov (.t 25),none⟩]) ( .seq ( .ops [] [⟨some 26,.mov (.t 6),none⟩,⟨some 27,.ia 4 (.t 26) (.c (.int .i64 0)),none⟩,⟨some 28,.load true 4 (.t 27),none⟩,⟨some 7,.alloc (some 4) (.agg [.nils,(.int .i64 0),(.int .i64 0),.nils]) none,none⟩,⟨none,.store 4 (.t 7) (.t 28),none⟩]) ( .seq ( .seq ( .ops [] [⟨some 29,.mov (.t 6),none⟩,⟨some 30,.slice 4 (.t 29) (some (.c (.int .i64 1))) none none,none⟩,⟨some 31,.len (.t 30),none⟩,⟨some 32,.mov (.c (.int .i64 0)),none⟩]) ( .block 2 ( .loop ( .seq ( .ops [] [⟨some 33,.bin .lss (.t 32) (.t 31),none⟩]) ( .seq ( .cond (.t 33) ( .skip) ( .exit 2)) ( .seq ( .block 3 ( .seq ( .ops [] [⟨some 34,.ia 4 (.t 30) (.t 32),none⟩,⟨some 35,.load true 4 (.t 34),none⟩,⟨some 9,.alloc (some 4) (.agg [.nils,(.int .i64 0),(.int .i64 0),.nils]) none,none⟩,⟨none,.store 4 (.t 9) (.t 35),none⟩]) ( .seq ( .ops [] [⟨some 37,.load true 4 (.t 7),none⟩,⟨some 38,.load true 4 (.t 9),none⟩,⟨some 39,.call (.c (.fn 257 [] [])) [(.t 37),(.t 38)],none⟩,⟨some 36,.mov (.t 39),none⟩,⟨some 40,.ext (.t 36) 0,none⟩,⟨some 41,.ext (.t 36) 1,none⟩,⟨some 10,.alloc (some 4) (.agg [.nils,(.int .i64 0),(.int .i64 0),.nils]) none,none⟩,⟨none,.store 4 (.t 10) (.t 40),none⟩,⟨some 11,.mov (.t 41),none⟩]) ( .seq ( .seq ( .ops [] [⟨some 42,.mov (.t 11),none⟩,⟨some 43,.bin .neq (.t 42) (.c (.int .i64 0)),none⟩]) ( .cond (.t 43) ( .seq ( .ops [] [⟨some 44,.build [.nils,(.int .i64 0),(.int .i64 0),.nils] [],none⟩,⟨some 45,.mov (.t 11),none⟩,⟨none,.store 4 (.t 2) (.t 44),none⟩,⟨some 3,.mov (.t 45),none⟩]) ( .ret)) ( .skip))) ( .ops [] [⟨some 46,.load true 4 (.t 10),none⟩,⟨none,.store 4 (.t 7) (.t 46),none⟩]))))) ( .ops [] [⟨some 47,.bin .add (.t 32) (.c (.int .i64 1)),none⟩,⟨some 32,.mov (.t 47),none⟩]))))))) ( .seq ( .ops [] [⟨some 49,.load true 4 (.t 4),none⟩,⟨some 50,.load true 4 (.t 7),none⟩,⟨some 51,.call (.c (.fn 206 [] [])) [(.t 49),(.t 50)],none⟩,⟨some 48,.mov (.t 51),none⟩,⟨some 52,.ext (.t 48) 0,none⟩,⟨some 53,.ext (.t 48) 1,none⟩,⟨some 12,.alloc (some 4) (.agg [.nils,(.int .i64 0),(.int .i64 0),.nils]) none,none⟩,⟨none,.store 4 (.t 12) (.t 52),none⟩,⟨some 13,.mov (.t 53),none⟩]) ( .seq ( .seq ( .ops [] [⟨some 54,.mov (.t 13),none⟩,⟨some 55,.bin .neq (.t 54) (.c (.int .i64 0)),none⟩]) ( .cond (.t 55) ( .seq ( .ops [] [⟨some 56,.build [.nils,(.int .i64 0),(.int .i64 0),.nils] [],none⟩,⟨some 57,.mov (.t 13),none⟩,⟨none,.store 4 (.t 2) (.t 56),none⟩,⟨some 3,.mov (.t 57),none⟩]) ( .ret)) ( .skip))) ( .ops [] [⟨some 58,.load true 4 (.t 12),none⟩,⟨none,.store 4 (.t 4) (.t 58),none⟩]))))))) ( .ops [] [⟨some 59,.bin .add (.t 22) (.c (.int .i64 1)),none⟩,⟨some 22,.mov (.t 59),none⟩]))))))) (
.seq (
.ops [] [⟨some 60,.load true 4 (.t 4),none⟩,⟨none,.store 4 (.t 2) (.t 60),none⟩,⟨some 3,.mov (.c (.int .i64 0)),none⟩]) (
.ret)))))⟩
def rf230 : RF := ⟨25,[.tmp 4,.tmp 5],.seq (
.ops [] [⟨some 4,.mov (.c (.int .i64 0)),none⟩,⟨some 5,.mov (.c (.int .i64 0)),none⟩]) (
.seq (
.seq (
.ops [] [⟨some 7,.mov (.t 0),none⟩,⟨some 8,.bin .lss (.t 7) (.c (.int .i64 1)),none⟩,⟨some 9,.mov (.t 8),none⟩,⟨some 10,.mov (.t 1),(some (9,false))⟩,⟨some 11,.bin .lss (.t 10) (.c (.int .i64 1)),(some (9,false))⟩,⟨some 12,.pick (.t 9) (.c (.bool true)) (.t 11),none⟩]) (
.cond (.t 12) ( .seq ( .ops [] [⟨some 4,.mov (.c (.int .i64 0)),none⟩,⟨some 5,.mov (.c (.int .i64 1)),none⟩]) ( .ret)) ( .skip))) (
.seq (
.ops [] [⟨some 13,.mov (.t 0),none⟩,⟨some 14,.mov (.t 0),none⟩,⟨some 15,.mov (.t 1),none⟩,⟨some 16,.call (.c (.fn 263 [] [])) [(.t 14),(.t 15)],none⟩,⟨some 17,.bin .quo (.t 13) (.t 16),none⟩,⟨some 6,.mov (.t 17),none⟩]) (
.seq (
.seq (
.ops [] [⟨some 18,.mov (.t 6),none⟩,⟨some 19,.mov (.t 1),none⟩,⟨some 20,.bin .quo (.c (.int .i64 1099511627776)) (.t 19),none⟩,⟨some 21,.bin .gtr (.t 18) (.t 20),none⟩]) (
.cond (.t 21) ( .seq ( .ops [] [⟨some 4,.mov (.c (.int .i64 0)),none⟩,⟨some 5,.mov (.c (.int .i64 2)),none⟩]) ( .ret)) ( .skip))) (
.seq (
.ops [] [⟨some 22,.mov (.t 6),none⟩,⟨some 23,.mov (.t 1),none⟩,⟨some 24,.bin .mul (.t 22) (.t 23),none⟩,⟨some 4,.mov (.t 24),none⟩,⟨some 5,.mov (.c (.int .i64 0)),none⟩]) (
.ret)))))⟩
def rf235 : RF := ⟨19,[.tmp 4],.seq (
.ops [] [⟨some 3,.box (some 3) (.t 1) none,none⟩,⟨some 4,.mov (.c (.int .i64 0)),none⟩]) (
.seq (
.seq (
.ops [] [⟨some 6,.mov (.t 0),none⟩,⟨some 7,.len (.t 6),none⟩,⟨some 8,.mov (.c (.int .i64 0)),none⟩]) (
.block 0 ( .loop ( .seq ( .ops [] [⟨some 9,.bin .lss (.t 8) (.t 7),none⟩]) ( .seq ( .cond (.t 9) ( .skip) ( .exit 0)) ( .seq ( .block 1 ( .seq ( .ops [] [⟨some 10,.mov (.t 8),none⟩,⟨some 5,.mov (.t 10),none⟩]) ( .seq ( .dops [] 0 [⟨some 11,.load true 3 (.t 3),none⟩,⟨some 12,.mov (.t 0),none⟩,⟨some 13,.mov (.t 5),none⟩,⟨some 14,.ia 3 (.t 12) (.t 13),none⟩,⟨some 15,.load true 3 (.t 14),none⟩,⟨some 16,.eqs false [.int,.int,.int] (.t 11) (.t 15),none⟩] []) ( .cond (.t 16) ( .seq ( .ops [] [⟨some 17,.mov (.t 5),none⟩,⟨some 4,.mov (.t 17),none⟩]) ( .ret)) ( .skip))))) ( .ops [] [⟨some 18,.bin .add (.t 8) (.c (.int .i64 1)),none⟩,⟨some 8,.mov (.t 18),none⟩]))))))) (
.seq (
.ops [] [⟨some 4,.mov (.c (.int .i64 (-1))),none⟩]) (
.ret)))⟩
def rf236 : RF := ⟨19,[.tmp 4],.seq (
.ops [] [⟨some 4,.mov (.c (.int .i64 0)),none⟩]) (
.seq (
.seq (
.ops [] [⟨some 6,.mov (.t 0),none⟩,⟨some 7,.len (.t 6),none⟩,⟨some 8,.mov (.c (.int .i64 0)),none⟩]) (
.block 0 ( .loop ( .seq ( .ops [] [⟨some 9,.bin .lss (.t 8) (.t 7),none⟩]) ( .seq ( .cond (.t 9) ( .skip) ( .exit 0)) ( .seq ( .block 1 ( .seq ( .ops [] [⟨some 10,.mov (.t 8),none⟩,⟨some 5,.mov (.t 10),none⟩]) ( .seq ( .ops [] [⟨some 11,.mov (.t 1),none⟩,⟨some 12,.mov (.t 0),none⟩,⟨some 13,.mov (.t 5),none⟩,⟨some 14,.ia 2 (.t 12) (.t 13),none⟩,⟨some 15,.load true 2 (.t 14),none⟩,⟨some 16,.call (.t 11) [(.t 15)],none⟩]) ( .cond (.t 16) ( .seq ( .ops [] [⟨some 17,.mov (.t 5),none⟩,⟨some 4,.mov (.t 17),none⟩]) ( .ret)) ( .skip))))) ( .ops [] [⟨some 18,.bin .add (.t 8) (.c (.int .i64 1)),none⟩,⟨some 8,.mov (.t 18),none⟩]))))))) (
.seq (
.ops [] [⟨some 4,.mov (.c (.int .i64 (-1))),none⟩]) (
.ret)))⟩
def rf237 : RF := ⟨148,[],.seq (
.ops [] [⟨some 10,.mov (.c (.bool true)),none⟩]) (
.seq (
.ops [] [⟨some 11,.mov (.c (.bool true)),none⟩]) (
.block 0 ( .loop ( .block 1 ( .seq ( .ops [] [⟨some 21,.mov (.t 2),none⟩,⟨some 22,.mov (.t 1),none⟩,⟨some 23,.bin .sub (.t 21) (.t 22),none⟩,⟨some 12,.mov (.t 23),none⟩]) ( .seq ( .seq ( .ops [] [⟨some 24,.mov (.t 12),none⟩,⟨some 25,.bin .leq (.t 24) (.c (.int .i64 12)),none⟩]) ( .cond (.t 25) ( .seq ( .ops [] [⟨some 26,.mov (.t 0),none⟩,⟨some 27,.mov (.t 1),none⟩,⟨some 28,.mov (.t 2),none⟩,⟨some 29,.mov (.t 4),none⟩,⟨some 30,.call (.c (.fn 273 [] [])) [(.t 26),(.t 27),(.t 28),(.t 29)],none⟩]) ( .ret)) ( .skip))) ( .seq ( .seq ( .ops [] [⟨some 31,.mov (.t 3),none⟩,⟨some 32,.bin .eql (.t 31) (.c (.int .i64 0)),none⟩]) ( .cond (.t 32) ( .seq ( .ops [] [⟨some 33,.mov (.t 0),none⟩,⟨some 34,.mov (.t 1),none⟩,⟨some 35,.mov (.t 2),none⟩,⟨some 36,.mov (.t 4),none⟩,⟨some 37,.call (.c (.fn 274 [] [])) [(.t 33),(.t 34),(.t 35),(.t 36)],none⟩]) ( .ret)) ( .skip))) ( .seq ( .seq ( .ops [] [⟨some 38,.mov (.t 10),none⟩,⟨some 39,.un .not (.t 38),none⟩]) ( .cond (.t 39) ( .seq ( .ops [] [⟨some 40,.mov (.t 0),none⟩,⟨some 41,.mov (.t 1),none⟩,⟨some 42,.mov (.t 2),none⟩,⟨some 43,.mov (.t 4),none⟩,⟨some 44,.call (.c (.fn 275 [] [])) [(.t 40),(.t 41),(.t 42),(.t 43)],none⟩]) ( .ops [] [⟨some 45,.mov (.t 3),none⟩,⟨some 46,.bin .sub (.t 45) (.c (.int .i64 1)),none⟩,⟨some 3,.mov (.t 46),none⟩])) ( .skip))) ( .seq ( .ops [] [⟨some 48,.mov (.t 0),none⟩,⟨some 49,.mov (.t 1),none⟩,⟨some 50,.mov (.t 2),none⟩,⟨some 51,.mov (.t 4),none⟩,⟨some 52,.call (.c (.fn 276 [] [])) [(.t 48),(.t 49),(.t 50),(.t 51)],none⟩,⟨some 47,.mov (.t 52),none⟩,⟨some 53,.ext (.t 47) 0,none⟩,⟨some 54,.ext (.t 47) 1,none⟩,⟨some 13,.mov (.t 53),none⟩,⟨some 14,.mov (.t 54),none⟩]) ( .seq ( .seq ( .ops [] [⟨some 55,.mov (.t 14),none⟩,⟨some 56,.bin .eql (.t 55) (.c (.int .i64 2)),none⟩]) ( .cond (.t 56) ( .seq ( .ops [] [⟨some 57,.mov (.t 0),none⟩,⟨some 58,.mov (.t 1),none⟩,⟨some 59,.mov (.t 2),none⟩,⟨some 60,.mov (.t 4),none⟩,⟨some 61,.call (.c (.fn 277 [] [])) [(.t 57),(.t 58),(.t 59),(.t 60)],none⟩]) ( .seq ( .ops [] [⟨some 62,.mov (.t 2),none⟩,⟨some 63,.bin .sub (.t 62) (.c (.int .i64 1)),none⟩,⟨some 64,.mov (.t 13),none⟩,⟨some 65,.mov (.t 1),none⟩,⟨some 66,.bin .sub (.t 64) (.t 65),none⟩,⟨some 67,.bin .sub (.t 63) (.t 66),none⟩,⟨some 13,.mov (.t 67),none⟩]) ( .ops [] [⟨some 14,.mov (.c (.int .i64 1)),none⟩]))) ( .skip))) ( .seq ( .seq ( .ops [] [⟨some 68,.mov (.t 10),none⟩,⟨some 69,.mov (.t 68),none⟩,⟨some 70,.mov (.t 11),(some (69,true))⟩,⟨some 71,.pick (.t 69) (.t 70) (.c (.bool false)),none⟩,⟨some 72,.mov (.t 71),none⟩,⟨some 73,.mov (.t 14),(some (72,true))⟩,⟨some 74,.bin .eql (.t 73) (.c (.int .i64 1)),(some (72,true))⟩,⟨some 75,.pick (.t 72) (.t 74) (.c (.bool false)),none⟩]) ( .cond (.t 75) ( .seq ( .ops [] [⟨some 76,.mov (.t 0),none⟩,⟨some 77,.mov (.t 1),none⟩,⟨some 78,.mov (.t 2),none⟩,⟨some 79,.mov (.t 4),none⟩,⟨some 80,.call (.c (.fn 278 [] [])) [(.t 76),(.t 77),(.t 78),(.t 79)],none⟩]) ( .cond (.t 80) ( .ret) ( .skip))) ( .skip))) ( .seq ( .seq ( .dops [] 0 [⟨some 81,.mov (.t 1),none⟩,⟨some 82,.bin .gtr (.t 81) (.c (.int .i64 0)),none⟩,⟨some 83,.mov (.t 82),none⟩,⟨some 84,.mov (.t 4),(some (83,true))⟩,⟨some 85,.mov (.t 0),(some (83,true))⟩,⟨some 86,.mov (.t 1),(some (83,true))⟩,⟨some 87,.bin .sub (.t 86) (.c (.int .i64 1)),(some (83,true))⟩,⟨some 88,.ia 3 (.t 85) (.t 87),(some (83,true))⟩,⟨some 89,.load true 3 (.t 88),(some (83,true))⟩,⟨some 90,.mov (.t 0),(some (83,true))⟩,⟨some 91,.mov (.t 13),(some (83,true))⟩,⟨some 92,.ia 3 (.t 90) (.t 91),(some (83,true))⟩,⟨some 93,.load true 3 (.t 92),(some (83,true))⟩,⟨some 94,.call (.t 84) [(.t 89),(.t 93)],(some (83,true))⟩,⟨some 95,.bin .lss (.t 94) (.c (.int .i64 0)),(some (83,true))⟩,⟨some 96,.un .not (.t 95),(some (83,true))⟩,⟨some 97,.pick (.t 83) (.t 96) (.c (.bool false)),none⟩] []) ( .cond (.t 97) ( .seq ( .ops [] [⟨some 98,.mov (.t 0),none⟩,⟨some 99,.mov (.t 1),none⟩,⟨some 100,.mov (.t 2),none⟩,⟨some 101,.mov (.t 13),none⟩,⟨some 102,.mov (.t 4),none⟩,⟨some 103,.call (.c (.fn 279 [] [])) [(.t 98),(.t 99),(.t 100),(.t 101),(.t 102)],none⟩,⟨some 15,.mov (.t 103),none⟩]) ( .seq ( .ops [] [⟨some 104,.mov (.t 15),none⟩,⟨some 1,.mov (.t 104),none⟩]) ( .exit 1))) ( .skip))) ( .seq ( .ops [] [⟨some 106,.mov (.t 0),none⟩,⟨some 107,.mov (.t 1),none⟩,⟨some 108,.mov (.t 2),none⟩,⟨some 109,.mov (.t 13),none⟩,⟨some 110,.mov (.t 4),none⟩,⟨some 111,.call (.c (.fn 280 [] [])) [(.t 106),(.t 107),(.t 108),(.t 109),(.t 110)],none⟩,⟨some 105,.mov (.t 111),none⟩,⟨some 112,.ext (.t 105) 0,none⟩,⟨some 113,.ext (.t 105) 1,none⟩,⟨some 16,.mov (.t 112),none⟩,⟨some 17,.mov (.t 113),none⟩]) ( .seq ( .ops [] [⟨some 114,.mov (.t 17),none⟩,⟨some 11,.mov (.t 114),none⟩]) ( .seq ( .ops [] [⟨some 115,.mov (.t 16),none⟩,⟨some 116,.mov (.t 1),none⟩,⟨some 117,.bin .sub (.t 115) (.t 116),none⟩,⟨some 118,.mov (.t 2),none⟩,⟨some 119,.mov (.t 16),none⟩,⟨some 120,.bin .sub (.t 118) (.t 119),none⟩,⟨some 18,.mov (.t 117),none⟩,⟨some 19,.mov (.t 120),none⟩]) ( .seq ( .ops [] [⟨some 121,.mov (.t 12),none⟩,⟨some 122,.bin .quo (.t 121) (.c (.int .i64 8)),none⟩,⟨some 20,.mov (.t 122),none⟩]) ( .seq ( .ops [] [⟨some 123,.mov (.t 18),none⟩,⟨some 124,.mov (.t 19),none⟩,⟨some 125,.bin .lss (.t 123) (.t 124),none⟩]) ( .cond (.t 125) ( .seq ( .ops [] [⟨some 126,.mov (.t 18),none⟩,⟨some 127,.mov (.t 20),none⟩,⟨some 128,.bin .geq (.t 126) (.t 127),none⟩,⟨some 10,.mov (.t 128),none⟩]) ( .seq ( .ops [] [⟨some 129,.mov (.t 0),none⟩,⟨some 130,.mov (.t 1),none⟩,⟨some 131,.mov (.t 16),none⟩,⟨some 132,.mov (.t 3),none⟩,⟨some 133,.mov (.t 4),none⟩,⟨some 134,.call (.c (.fn 237 [] [])) [(.t 129),(.t 130),(.t 131),(.t 132),(.t 133)],none⟩]) ( .ops [] [⟨some 135,.mov (.t 16),none⟩,⟨some 136,.bin .add (.t 135) (.c (.int .i64 1)),none⟩,⟨some 1,.mov (.t 136),none⟩]))) ( .seq ( .ops [] [⟨some 137,.mov (.t 19),none⟩,⟨some 138,.mov (.t 20),none⟩,⟨some 139,.bin .geq (.t 137) (.t 138),none⟩,⟨some 10,.mov (.t 139),none⟩]) ( .seq ( .ops [] [⟨some 140,.mov (.t 0),none⟩,⟨some 141,.mov (.t 16),none⟩,⟨some 142,.bin .add (.t 141) (.c (.int .i64 1)),none⟩,⟨some 143,.mov (.t 2),none⟩,⟨some 144,.mov (.t 3),none⟩,⟨some 145,.mov (.t 4),none⟩,⟨some 146,.call (.c (.fn 237 [] [])) [(.t 140),(.t 142),(.t 143),(.t 144),(.t 145)],none⟩]) ( .ops [] [⟨some 147,.mov (.t 16),none⟩,⟨some 2,.mov (.t 147),none⟩])))))))))))))))))))))⟩
def rf240 : RF := ⟨51,[.tmp 2,.tmp 3],.seq (
.ops [] [⟨some 2,.mov (.c (.int .i64 0)),none⟩,⟨some 3,.mov (.c (.bool false)),none⟩]) (
.seq (
.ops [] [⟨some 4,.mov (.c (.int .i64 1)),none⟩]) (
.seq (
.seq (
.ops [] [⟨some 9,.mov (.t 0),none⟩,⟨some 10,.len (.t 9),none⟩,⟨some 11,.mov (.c (.int .i64 0)),none⟩]) (
.block 0 ( .loop ( .seq ( .ops [] [⟨some 12,.bin .lss (.t 11) (.t 10),none⟩]) ( .seq ( .cond (.t 12) ( .skip) ( .exit 0)) ( .seq ( .block 1 ( .seq ( .ops [] [⟨some 13,.ia 3 (.t 9) (.t 11),none⟩,⟨some 14,.load true 3 (.t 13),none⟩,⟨some 6,.alloc (some 3) (.agg [(.int .i64 0),(.int .i64 0),(.bool false)]) none,none⟩,⟨none,.store 3 (.t 6) (.t 14),none⟩]) ( .seq ( .seq ( .ops [] [⟨some 15,.fa 0 (.t 6),none⟩,⟨some 16,.load false 1 (.t 15),none⟩,⟨some 17,.bin .lss (.t 16) (.c (.int .i64 1)),none⟩,⟨some 18,.mov (.t 17),none⟩,⟨some 19,.fa 0 (.t 6),(some (18,false))⟩,⟨some 20,.load false 1 (.t 19),(some (18,false))⟩,⟨some 21,.bin .gtr (.t 20) (.c (.int .i64 400)),(some (18,false))⟩,⟨some 22,.pick (.t 18) (.c (.bool true)) (.t 21),none⟩,⟨some 23,.mov (.t 22),none⟩,⟨some 24,.fa 1 (.t 6),(some (23,false))⟩,⟨some 25,.load false 1 (.t 24),(some (23,false))⟩,⟨some 26,.bin .lss (.t 25) (.c (.int .i64 0)),(some (23,false))⟩,⟨some 27,.pick (.t 23) (.c (.bool true)) (.t 26),none⟩,⟨some 28,.mov (.t 27),none⟩,⟨some 29,.fa 1 (.t 6),(some (28,false))⟩,⟨some 30,.load false 1 (.t 29),(some (28,false))⟩,⟨some 31,.fa 0 (.t 6),(some (28,false))⟩,⟨some 32,.load false 1 (.t 31),(some (28,false))⟩,⟨some 33,.bin .geq (.t 30) (.t 32),(some (28,false))⟩,⟨some 34,.pick (.t 28) (.c (.bool true)) (.t 33),none⟩]) ( .cond (.t 34) ( .seq ( .ops [] [⟨some 2,.mov (.c (.int .i64 0)),none⟩,⟨some 3,.mov (.c (.bool false)),none⟩]) ( .ret)) ( .skip))) ( .seq ( .ops [] [⟨some 36,.mov (.t 4),none⟩,⟨some 37,.fa 0 (.t 6),none⟩,⟨some 38,.load false 1 (.t 37),none⟩,⟨some 39,.call (.c (.fn 230 [] [])) [(.t 36),(.t 38)],none⟩,⟨some 35,.mov (.t 39),none⟩,⟨some 40,.ext (.t 35) 0,none⟩,⟨some 41,.ext (.t 35) 1,none⟩,⟨some 7,.mov (.t 40),none⟩,⟨some 8,.mov (.t 41),none⟩]) ( .seq ( .seq ( .ops [] [⟨some 42,.mov (.t 8),none⟩,⟨some 43,.bin .neq (.t 42) (.c (.int .i64 0)),none⟩,⟨some 44,.mov (.t 43),none⟩,⟨some 45,.mov (.t 7),(some (44,false))⟩,⟨some 46,.bin .gtr (.t 45) (.c (.int .i64 400)),(some (44,false))⟩,⟨some 47,.pick (.t 44) (.c (.bool true)) (.t 46),none⟩]) ( .cond (.t 47) ( .seq ( .ops [] [⟨some 2,.mov (.c (.int .i64 0)),none⟩,⟨some 3,.mov (.c (.bool false)),none⟩]) ( .ret)) ( .skip))) ( .ops [] [⟨some 48,.mov (.t 7),none⟩,⟨some 4,.mov (.t 48),none⟩])))))) ( .ops [] [⟨some 49,.bin .add (.t 11) (.c (.int .i64 1)),none⟩,⟨some 11,.mov (.t 49),none⟩]))))))) (
.seq (
.ops [] [⟨some 50,.mov (.t 4),none⟩,⟨some 2,.mov (.t 50),none⟩,⟨some 3,.mov (.c (.bool true)),none⟩]) (
.ret))))⟩ end Go.S32
