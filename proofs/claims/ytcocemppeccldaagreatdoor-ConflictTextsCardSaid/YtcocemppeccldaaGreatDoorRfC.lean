/- Functions of the program as abstract code: that they are such is proved in the texts C. -/
import Derived.Test.YtcocemppeccldaaGreatDoorAiF
set_option linter.unusedVariables false
set_option linter.unusedSimpArgs false
set_option maxRecDepth 100000
namespace Go.S32
open Go Go.Ai def rf63 : RF := ⟨13,[.tmp 3],.seq (
.ops [] [⟨some 2,.box (some 6) (.t 0) none,none⟩,⟨some 3,.mov (.c (.bool false)),none⟩]) (
.seq (
.ops [] [⟨some 4,.fa 1 (.t 2),none⟩,⟨some 5,.load false 1 (.t 4),none⟩,⟨some 6,.mov (.t 5),none⟩,⟨some 7,.fa 0 (.t 2),(some (6,true))⟩,⟨some 8,.load false 1 (.t 7),(some (6,true))⟩,⟨some 9,.fa 0 (.t 1),(some (6,true))⟩,⟨some 10,.load false 1 (.t 9),(some (6,true))⟩,⟨some 11,.bin .gtr (.t 8) (.t 10),(some (6,true))⟩,⟨some 12,.pick (.t 6) (.t 11) (.c (.bool false)),none⟩,⟨some 3,.mov (.t 12),none⟩]) (
.ret))⟩
def rf64 : RF := ⟨54,[.tmp 4],.seq (
.ops [] [⟨some 4,.mov (.c (.str (byts []))),none⟩]) (
.seq (
.seq (
.ops [] [⟨some 10,.mov (.t 1),none⟩,⟨some 11,.bin .eql (.t 10) (.c (.int .i64 10)),none⟩]) (
.cond (.t 11) ( .seq ( .seq ( .ops [] [⟨some 12,.mov (.t 0),none⟩,⟨some 13,.bin .leq (.c (.int .i64 0)) (.t 12),none⟩,⟨some 14,.mov (.t 13),none⟩,⟨some 15,.mov (.t 0),(some (14,true))⟩,⟨some 16,.bin .lss (.t 15) (.c (.int .i64 100)),(some (14,true))⟩,⟨some 17,.pick (.t 14) (.t 16) (.c (.bool false)),none⟩]) ( .cond (.t 17) ( .seq ( .ops [] [⟨some 18,.mov (.t 0),none⟩,⟨some 19,.call (.c (.fn 120 [] [])) [(.t 18)],none⟩,⟨some 4,.mov (.t 19),none⟩]) ( .ret)) ( .skip))) ( .seq ( .ops [] [⟨some 5,.alloc (some 24) (.agg [(.int .u8 0),(.int .u8 0),(.int .u8 0),(.int .u8 0),(.int .u8 0),(.int .u8 0),(.int .u8 0),(.int .u8 0),(.int .u8 0),(.int .u8 0),(.int .u8 0),(.int .u8 0),(.int .u8 0),(.int .u8 0),(.int .u8 0),(.int .u8 0),(.int .u8 0),(.int .u8 0),(.int .u8 0),(.int .u8 0),(.int .u8 0),(.int .u8 0),(.int .u8 0),(.int .u8 0)]) none,none⟩]) ( .seq ( .ops [] [⟨some 20,.mov (.t 0),none⟩,⟨some 21,.conv .u64 (.t 20),none⟩,⟨some 6,.mov (.t 21),none⟩]) ( .seq ( .seq ( .ops [] [⟨some 22,.mov (.t 0),none⟩,⟨some 23,.bin .lss (.t 22) (.c (.int .i64 0)),none⟩]) ( .cond (.t 23) ( .ops [] [⟨some 24,.mov (.t 6),none⟩,⟨some 25,.un .neg (.t 24),none⟩,⟨some 6,.mov (.t 25),none⟩]) ( .skip))) ( .seq ( .ops [] [⟨some 26,.mov (.t 6),none⟩,⟨some 27,.call (.c (.fn 121 [] [])) [(.t 26)],none⟩,⟨some 7,.mov (.t 27),none⟩]) ( .seq ( .ops [] [⟨some 28,.mov (.t 7),none⟩,⟨some 29,.bin .add (.c (.int .i64 1)) (.t 28),none⟩,⟨some 30,.bad,none⟩,⟨some 31,.mov (.t 6),none⟩,⟨some 32,.call (.c (.fn 122 [] [])) [(.t 30),(.t 31)],none⟩]) ( .seq ( .seq ( .ops [] [⟨some 33,.mov (.t 0),none⟩,⟨some 34,.bin .lss (.t 33) (.c (.int .i64 0)),none⟩]) ( .cond (.t 34) ( .seq ( .ops [] [⟨some 35,.iaA 24 1 (.t 5) (.c (.int .i64 0)),none⟩,⟨none,.store 1 (.t 35) (.c (.int .u8 45)),none⟩]) ( .seq ( .ops [] [⟨some 36,.mov (.t 7),none⟩,⟨some 37,.bin .add (.c (.int .i64 1)) (.t 36),none⟩,⟨some 38,.bad,none⟩,⟨some 39,.bad,none⟩,⟨some 4,.mov (.t 39),none⟩]) ( .ret))) ( .skip))) ( .seq ( .ops [] [⟨some 40,.mov (.t 7),none⟩,⟨some 41,.bin .add (.c (.int .i64 1)) (.t 40),none⟩,⟨some 42,.bad,none⟩,⟨some 43,.bad,none⟩,⟨some 4,.mov (.t 43),none⟩]) ( .ret))))))))) ( .skip))) (
.seq (
.ops [] [⟨some 45,.mov (.t 0),none⟩,⟨some 46,.conv .u64 (.t 45),none⟩,⟨some 47,.mov (.t 1),none⟩,⟨some 48,.mov (.t 0),none⟩,⟨some 49,.bin .lss (.t 48) (.c (.int .i64 0)),none⟩,⟨some 50,.call (.c (.fn 123 [] [])) [(.c .nils),(.t 46),(.t 47),(.t 49),(.c (.bool false))],none⟩,⟨some 44,.mov (.t 50),none⟩,⟨some 51,.ext (.t 44) 0,none⟩,⟨some 52,.ext (.t 44) 1,none⟩,⟨some 8,.mov (.t 51),none⟩,⟨some 9,.mov (.t 52),none⟩]) (
.seq (
.ops [] [⟨some 53,.mov (.t 9),none⟩,⟨some 4,.mov (.t 53),none⟩]) (
.ret))))⟩
def rf65 : RF := ⟨16,[.tmp 2],.seq (
.ops [] [⟨some 1,.box (some 8) (.t 0) none,none⟩,⟨some 2,.mov (.c (.int .i64 0)),none⟩]) (
.seq (
.seq (
.ops [] [⟨some 5,.fa 5 (.t 1),none⟩,⟨some 6,.load false 1 (.t 5),none⟩,⟨some 7,.len (.t 6),none⟩,⟨some 8,.bin .gtr (.t 7) (.c (.int .i64 512)),none⟩]) (
.cond (.t 8) ( .seq ( .ops [] [⟨some 2,.mov (.c (.int .i64 2)),none⟩]) ( .ret)) ( .skip))) (
.seq (
.seq (
.ops [] [⟨some 10,.load true 8 (.t 1),none⟩,⟨some 11,.call (.c (.fn 124 [] [])) [(.t 10)],none⟩,⟨some 9,.mov (.t 11),none⟩,⟨some 12,.ext (.t 9) 0,none⟩,⟨some 13,.ext (.t 9) 1,none⟩,⟨some 3,.mov (.t 12),none⟩,⟨some 4,.mov (.t 13),none⟩]) (
.seq (
.ops [] [⟨some 14,.mov (.t 4),none⟩,⟨some 15,.un .not (.t 14),none⟩]) (
.cond (.t 15) ( .seq ( .ops [] [⟨some 2,.mov (.c (.int .i64 1)),none⟩]) ( .ret)) ( .skip)))) (
.seq (
.ops [] [⟨some 2,.mov (.c (.int .i64 0)),none⟩]) (
.ret))))⟩
def rf66 : RF := ⟨29,[.tmp 2],.seq (
.ops [] [⟨some 1,.box (some 1) (.t 0) none,none⟩,⟨some 2,.mov (.c (.bool false)),none⟩]) (
.seq (
.seq (
.ops [] [⟨some 5,.fa 0 (.t 1),none⟩,⟨some 6,.load false 1 (.t 5),none⟩,⟨some 7,.len (.t 6),none⟩,⟨some 8,.bin .gtr (.t 7) (.c (.int .i64 64)),none⟩]) (
.cond (.t 8) ( .seq ( .ops [] [⟨some 2,.mov (.c (.bool false)),none⟩]) ( .ret)) ( .skip))) (
.seq (
.seq (
.ops [] [⟨some 9,.fa 0 (.t 1),none⟩,⟨some 10,.load false 1 (.t 9),none⟩,⟨some 11,.len (.t 10),none⟩,⟨some 12,.mov (.c (.int .i64 0)),none⟩]) (
.block 0 ( .loop ( .seq ( .ops [] [⟨some 13,.bin .lss (.t 12) (.t 11),none⟩]) ( .seq ( .cond (.t 13) ( .skip) ( .exit 0)) ( .seq ( .block 1 ( .seq ( .ops [] [⟨some 14,.ia 1 (.t 10) (.t 12),none⟩,⟨some 15,.load false 1 (.t 14),none⟩,⟨some 4,.mov (.t 15),none⟩]) ( .seq ( .ops [] [⟨some 16,.mov (.t 4),none⟩,⟨some 17,.len (.t 16),none⟩,⟨some 18,.bin .lss (.t 17) (.c (.int .i64 1)),none⟩,⟨some 19,.mov (.t 18),none⟩,⟨some 20,.mov (.t 4),(some (19,false))⟩,⟨some 21,.len (.t 20),(some (19,false))⟩,⟨some 22,.bin .gtr (.t 21) (.c (.int .i64 4)),(some (19,false))⟩,⟨some 23,.pick (.t 19) (.c (.bool true)) (.t 22),none⟩,⟨some 24,.mov (.t 23),none⟩,⟨some 25,.mov (.t 4),(some (24,false))⟩,⟨some 26,.call (.c (.fn 125 [] [])) [(.t 25),(.c (.fn 126 [] []))],(some (24,false))⟩,⟨some 27,.pick (.t 24) (.c (.bool true)) (.t 26),none⟩]) ( .cond (.t 27) ( .seq ( .ops [] [⟨some 2,.mov (.c (.bool false)),none⟩]) ( .ret)) ( .skip))))) ( .ops [] [⟨some 28,.bin .add (.t 12) (.c (.int .i64 1)),none⟩,⟨some 12,.mov (.t 28),none⟩]))))))) (
.seq (
.ops [] [⟨some 2,.mov (.c (.bool true)),none⟩]) (
.ret))))⟩
def rf67 : RF := ⟨19,[.tmp 4],.seq (
.ops [] [⟨some 4,.mov (.c (.int .i64 0)),none⟩]) (
.seq (
.seq (
.ops [] [⟨some 6,.mov (.t 0),none⟩,⟨some 7,.len (.t 6),none⟩,⟨some 8,.mov (.c (.int .i64 0)),none⟩]) (
.block 0 ( .loop ( .seq ( .ops [] [⟨some 9,.bin .lss (.t 8) (.t 7),none⟩]) ( .seq ( .cond (.t 9) ( .skip) ( .exit 0)) ( .seq ( .block 1 ( .seq ( .ops [] [⟨some 10,.mov (.t 8),none⟩,⟨some 5,.mov (.t 10),none⟩]) ( .seq ( .ops [] [⟨some 11,.mov (.t 1),none⟩,⟨some 12,.mov (.t 0),none⟩,⟨some 13,.mov (.t 5),none⟩,⟨some 14,.ia 15 (.t 12) (.t 13),none⟩,⟨some 15,.load true 15 (.t 14),none⟩,⟨some 16,.call (.t 11) [(.t 15)],none⟩]) ( .cond (.t 16) ( .seq ( .ops [] [⟨some 17,.mov (.t 5),none⟩,⟨some 4,.mov (.t 17),none⟩]) ( .ret)) ( .skip))))) ( .ops [] [⟨some 18,.bin .add (.t 8) (.c (.int .i64 1)),none⟩,⟨some 8,.mov (.t 18),none⟩]))))))) (
.seq (
.ops [] [⟨some 4,.mov (.c (.int .i64 (-1))),none⟩]) (
.ret)))⟩
def rf68 : RF := ⟨15,[.tmp 6],.seq (
.ops [] [⟨some 6,.mov (.c (.bool false)),none⟩]) (
.seq (
.ops [] [⟨some 7,.mov (.t 1),none⟩,⟨some 8,.mov (.t 0),none⟩,⟨some 9,.bin .leq (.t 7) (.t 8),none⟩,⟨some 10,.mov (.t 9),none⟩,⟨some 11,.mov (.t 0),(some (10,true))⟩,⟨some 12,.mov (.t 2),(some (10,true))⟩,⟨some 13,.bin .leq (.t 11) (.t 12),(some (10,true))⟩,⟨some 14,.pick (.t 10) (.t 13) (.c (.bool false)),none⟩,⟨some 6,.mov (.t 14),none⟩]) (
.ret))⟩
def rf69 : RF := ⟨15,[.tmp 6],.seq (
.ops [] [⟨some 6,.mov (.c (.bool false)),none⟩]) (
.seq (
.ops [] [⟨some 7,.mov (.t 0),none⟩,⟨some 8,.mov (.t 1),none⟩,⟨some 9,.bin .geq (.t 7) (.t 8),none⟩,⟨some 10,.mov (.t 9),none⟩,⟨some 11,.mov (.t 0),(some (10,true))⟩,⟨some 12,.mov (.t 2),(some (10,true))⟩,⟨some 13,.bin .leq (.t 11) (.t 12),(some (10,true))⟩,⟨some 14,.pick (.t 10) (.t 13) (.c (.bool false)),none⟩,⟨some 6,.mov (.t 14),none⟩]) (
.ret))⟩
def rf71 : RF := ⟨6,[.tmp 2],.seq (
.ops [] [⟨some 2,.mov (.c (.bool false)),none⟩]) (
.seq (
.ops [] [⟨some 3,.mov (.t 0),none⟩,⟨some 4,.mov (.t 0),none⟩,⟨some 5,.bin .neq (.t 3) (.t 4),none⟩,⟨some 2,.mov (.t 5),none⟩]) (
.ret))⟩
def rf72 : RF := ⟨33,[],.seq (
.ops [] [⟨some 3,.box (some 3) (.t 0) none,none⟩]) (
.seq (
.dops [] 0 [⟨some 5,.fa 1 (.t 3),none⟩,⟨some 6,.fa 0 (.t 5),none⟩,⟨some 7,.load false 1 (.t 6),none⟩,⟨some 8,.fa 1 (.t 1),none⟩,⟨some 9,.fa 0 (.t 8),none⟩,⟨some 10,.load false 1 (.t 9),none⟩,⟨some 11,.call (.c (.fn 43 [] [])) [(.t 7),(.t 10)],none⟩,⟨some 12,.fa 0 (.t 3),none⟩,⟨some 13,.load false 1 (.t 12),none⟩,⟨some 14,.fa 0 (.t 1),none⟩,⟨some 15,.load false 1 (.t 14),none⟩,⟨some 16,.call (.c (.fn 43 [] [])) [(.t 13),(.t 15)],none⟩,⟨some 17,.fa 1 (.t 3),none⟩,⟨some 18,.fa 1 (.t 17),none⟩,⟨some 19,.load false 1 (.t 18),none⟩,⟨some 20,.fa 1 (.t 1),none⟩,⟨some 21,.fa 1 (.t 20),none⟩,⟨some 22,.load false 1 (.t 21),none⟩,⟨some 23,.call (.c (.fn 43 [] [])) [(.t 19),(.t 22)],none⟩,⟨some 24,.bsl none none (.int .i64 0) 3 [(0,(.t 11)),(1,(.t 16)),(2,(.t 23))],none⟩,⟨some 25,.call (.c (.fn 42 [] [])) [(.t 24)],none⟩,⟨some 4,.mov (.t 25),none⟩] []) (
.seq (
.ops [] [⟨some 26,.load false 1 (.t 2),none⟩,⟨some 27,.un .not (.t 26),none⟩,⟨some 28,.mov (.t 27),none⟩,⟨some 29,.mov (.t 4),(some (28,false))⟩,⟨some 30,.bin .lss (.t 29) (.c (.int .i64 0)),(some (28,false))⟩,⟨some 31,.pick (.t 28) (.c (.bool true)) (.t 30),none⟩]) (
.cond (.t 31) ( .dops [] 0 [⟨some 32,.load true 3 (.t 3),none⟩,⟨none,.store 1 (.t 2) (.c (.bool true)),none⟩,⟨none,.store 3 (.t 1) (.t 32),none⟩] [(0,1)]) ( .skip))))⟩
def rf73 : RF := ⟨128,[.cell 6 true 1,.cell 7 false 1],.seq (
.ops [] [⟨some 3,.box (some 10) (.t 0) none,none⟩,⟨some 6,.alloc (some 1) (.agg [.nils]) none,none⟩,⟨some 7,.alloc none (.int .i64 0) none,none⟩]) (
.seq (
.seq (
.ops [] [⟨some 22,.load true 10 (.t 3),none⟩,⟨some 23,.call (.c (.fn 38 [] [])) [(.t 22)],none⟩,⟨some 24,.bin .neq (.t 23) (.c (.int .i64 0)),none⟩,⟨some 25,.mov (.t 24),none⟩,⟨some 26,.mov (.t 1),(some (25,false))⟩,⟨some 27,.bin .lss (.t 26) (.c (.int .i64 (-4320))),(some (25,false))⟩,⟨some 28,.pick (.t 25) (.c (.bool true)) (.t 27),none⟩,⟨some 29,.mov (.t 28),none⟩,⟨some 30,.mov (.t 1),(some (29,false))⟩,⟨some 31,.bin .gtr (.t 30) (.c (.int .i64 4320)),(some (29,false))⟩,⟨some 32,.pick (.t 29) (.c (.bool true)) (.t 31),none⟩,⟨some 33,.mov (.t 32),none⟩,⟨some 34,.mov (.t 2),(some (33,false))⟩,⟨some 35,.bin .lss (.t 34) (.c (.int .i64 1)),(some (33,false))⟩,⟨some 36,.pick (.t 33) (.c (.bool true)) (.t 35),none⟩,⟨some 37,.mov (.t 36),none⟩,⟨some 38,.mov (.t 2),(some (37,false))⟩,⟨some 39,.bin .gtr (.t 38) (.c (.int .i64 10080)),(some (37,false))⟩,⟨some 40,.pick (.t 37) (.c (.bool true)) (.t 39),none⟩]) (
.cond (.t 40) ( .seq ( .ops [] [⟨some 41,.build [.nils] [],none⟩,⟨none,.store 1 (.t 6) (.t 41),none⟩,⟨none,.store 1 (.t 7) (.c (.int .i64 1)),none⟩]) ( .ret)) ( .skip))) (
.seq (
.ops [] [⟨some 43,.mov (.t 1),none⟩,⟨some 44,.call (.c (.fn 128 [] [])) [(.t 43)],none⟩,⟨some 42,.mov (.t 44),none⟩,⟨some 45,.ext (.t 42) 0,none⟩,⟨some 46,.ext (.t 42) 1,none⟩,⟨some 8,.alloc none (.int .i64 0) none,none⟩,⟨none,.store 1 (.t 8) (.t 45),none⟩,⟨some 9,.mov (.t 46),none⟩]) (
.seq (
.ops [] [⟨some 48,.fa 0 (.t 3),none⟩,⟨some 49,.load true 8 (.t 48),none⟩,⟨some 50,.mov (.t 9),none⟩,⟨some 51,.call (.c (.fn 129 [] [])) [(.t 49),(.t 50)],none⟩,⟨some 47,.mov (.t 51),none⟩,⟨some 52,.ext (.t 47) 0,none⟩,⟨some 53,.ext (.t 47) 1,none⟩,⟨some 11,.alloc none (.int .i64 0) none,none⟩,⟨some 10,.mov (.t 52),none⟩,⟨none,.store 1 (.t 11) (.t 53),none⟩]) (
.seq (
.seq (
.ops [] [⟨some 54,.load false 1 (.t 11),none⟩,⟨some 55,.bin .neq (.t 54) (.c (.int .i64 0)),none⟩]) (
.cond (.t 55) ( .seq ( .dops [] 0 [⟨some 56,.build [.nils] [],none⟩,⟨some 57,.load false 1 (.t 11),none⟩,⟨none,.store 1 (.t 6) (.t 56),none⟩,⟨none,.store 1 (.t 7) (.t 57),none⟩] [(1,2)]) ( .ret)) ( .skip))) (
.seq (
.ops [] [⟨some 12,.alloc (some 1) (.agg [.nils]) none,none⟩]) (
.seq (
.ops [] [⟨some 58,.mkfn 130 [] [(.t 12)],none⟩,⟨some 13,.alloc none .nilf none,none⟩,⟨none,.store 1 (.t 13) (.t 58),none⟩]) (
.seq (
.seq (
.ops [] [⟨some 59,.mov (.t 10),none⟩,⟨some 60,.len (.t 59),none⟩,⟨some 61,.mov (.c (.int .i64 0)),none⟩]) (
.block 0 ( .loop ( .seq ( .ops [] [⟨some 62,.bin .lss (.t 61) (.t 60),none⟩]) ( .seq ( .cond (.t 62) ( .skip) ( .exit 0)) ( .seq ( .block 1 ( .seq ( .ops [] [⟨some 63,.ia 5 (.t 59) (.t 61),none⟩,⟨some 64,.load true 5 (.t 63),none⟩,⟨some 15,.alloc (some 5) (.agg [(.int .i64 0),.nils,(.int .i64 0),(.int .i64 0),.nils]) none,none⟩,⟨none,.store 5 (.t 15) (.t 64),none⟩]) ( .seq ( .ops [] [⟨some 66,.mov (.t 9),none⟩,⟨some 67,.fa 0 (.t 15),none⟩,⟨some 68,.load false 1 (.t 67),none⟩,⟨some 69,.bin .add (.t 66) (.t 68),none⟩,⟨some 70,.call (.c (.fn 128 [] [])) [(.t 69)],none⟩,⟨some 65,.mov (.t 70),none⟩,⟨some 71,.ext (.t 65) 0,none⟩,⟨some 72,.ext (.t 65) 1,none⟩,⟨some 16,.alloc none (.int .i64 0) none,none⟩,⟨none,.store 1 (.t 16) (.t 71),none⟩,⟨some 17,.mov (.t 72),none⟩]) ( .seq ( .ops [] [⟨some 73,.load true 10 (.t 3),none⟩,⟨some 74,.mov (.t 17),none⟩,⟨some 75,.mov (.t 2),none⟩,⟨some 76,.call (.c (.fn 132 [] [])) [(.t 73),(.t 74),(.t 75)],none⟩]) ( .block 2 ( .rangeF (.t 76) [77] ( .ops [] [⟨some 18,.alloc (some 3) (.agg [.nils,(.int .i64 0),(.int .i64 0)]) none,none⟩,⟨none,.store 3 (.t 18) (.t 77),none⟩]) ( .block 3 ( .seq ( .dops [] 0 [⟨some 79,.fa 0 (.t 18),none⟩,⟨some 80,.load true 1 (.t 79),none⟩,⟨some 81,.mkfn 134 [] [(.t 3)],none⟩,⟨some 82,.load false 1 (.t 16),none⟩,⟨some 83,.un .neg (.t 82),none⟩,⟨some 84,.call (.c (.fn 136 [] [])) [(.t 83)],none⟩,⟨some 85,.mkfn 137 [] [(.t 15)],none⟩,⟨some 86,.load false 1 (.t 8),none⟩,⟨some 87,.un .neg (.t 86),none⟩,⟨some 88,.call (.c (.fn 136 [] [])) [(.t 87)],none⟩,⟨some 89,.load false 1 (.t 13),none⟩,⟨some 90,.bsl none none .nilf 5 [(0,(.t 81)),(1,(.t 84)),(2,(.t 85)),(3,(.t 88)),(4,(.t 89))],none⟩,⟨some 91,.call (.c (.fn 133 [] [])) [(.t 80),(.t 90)],none⟩,⟨some 78,.mov (.t 91),none⟩,⟨some 92,.ext (.t 78) 0,none⟩,⟨some 93,.ext (.t 78) 1,none⟩,⟨none,.store 1 (.t 12) (.t 92),none⟩,⟨none,.store 1 (.t 11) (.t 93),none⟩] []) ( .seq ( .ops [] [⟨some 94,.load false 1 (.t 11),none⟩,⟨some 95,.bin .neq (.t 94) (.c (.int .i64 0)),none⟩]) ( .cond (.t 95) ( .seq ( .dops [] 0 [⟨some 96,.build [.nils] [],none⟩,⟨some 97,.load false 1 (.t 11),none⟩,⟨none,.store 1 (.t 6) (.t 96),none⟩,⟨none,.store 1 (.t 7) (.t 97),none⟩] [(1,2)]) ( .ret)) ( .skip))))))))))) ( .ops [] [⟨some 98,.bin .add (.t 61) (.c (.int .i64 1)),none⟩,⟨some 61,.mov (.t 98),none⟩]))))))) (
.seq (
.ops [] [⟨some 19,.mov (.c .nils),none⟩]) (
.seq (
.seq (
.ops [] [⟨some 99,.load false 1 (.t 8),none⟩,⟨some 100,.un .neg (.t 99),none⟩,⟨some 101,.mx [(.c (.int .i64 0)),(.t 100)],none⟩,⟨some 102,.mov (.c (.int .i64 0)),none⟩]) (
.block 4 ( .loop ( .seq ( .ops [] [⟨some 103,.bin .lss (.t 102) (.t 101),none⟩]) ( .seq ( .cond (.t 103) ( .skip) ( .exit 4)) ( .seq ( .block 5 ( .seq ( .ops [] [⟨some 104,.mov (.t 102),none⟩,⟨some 20,.mov (.t 104),none⟩]) ( .seq ( .ops [] [⟨some 105,.mov (.t 20),none⟩,⟨some 106,.bin .mul (.t 105) (.c (.int .i64 1440)),none⟩,⟨some 107,.mov (.t 1),none⟩,⟨some 108,.bin .add (.t 106) (.t 107),none⟩,⟨some 21,.mov (.t 108),none⟩]) ( .seq ( .ops [] [⟨some 109,.load true 10 (.t 3),none⟩,⟨some 110,.mov (.t 21),none⟩,⟨some 111,.mov (.t 21),none⟩,⟨some 112,.mov (.t 2),none⟩,⟨some 113,.bin .add (.t 111) (.t 112),none⟩,⟨some 114,.build [(.int .i64 0),(.int .i64 0)] [(0,1,(.t 110)),(1,1,(.t 113))],none⟩,⟨some 115,.call (.c (.fn 77 [] [])) [(.t 109),(.t 114)],none⟩]) ( .cond (.t 115) ( .ops [] [⟨some 116,.mov (.t 19),none⟩,⟨some 117,.mov (.t 20),none⟩,⟨some 118,.bsl none none (.int .i64 0) 1 [(0,(.t 117))],none⟩,⟨some 119,.app none 8 (.t 116) (.t 118),none⟩,⟨some 19,.mov (.t 119),none⟩]) ( .skip)))))) ( .ops [] [⟨some 120,.bin .add (.t 102) (.c (.int .i64 1)),none⟩,⟨some 102,.mov (.t 120),none⟩]))))))) (
.seq (
.dops [] 0 [⟨some 121,.mov (.t 19),none⟩,⟨some 122,.call (.c (.fn 135 [] [])) [(.t 121)],none⟩,⟨some 123,.load false 1 (.t 13),none⟩,⟨some 124,.bsl none none .nilf 1 [(0,(.t 123))],none⟩,⟨some 125,.call (.c (.fn 133 [] [])) [(.t 122),(.t 124)],none⟩,⟨some 126,.ext (.t 125) 0,none⟩,⟨some 127,.ext (.t 125) 1,none⟩,⟨none,.store 1 (.t 6) (.t 126),none⟩,⟨none,.store 1 (.t 7) (.t 127),none⟩] []) (
.ret)))))))))))⟩
def rf74 : RF := ⟨81,[.cell 4 true 1,.tmp 5],.seq (
.ops [] [⟨some 2,.box (some 1) (.t 0) none,none⟩,⟨some 3,.box (some 1) (.t 1) none,none⟩,⟨some 4,.alloc (some 1) (.agg [.nils]) none,none⟩,⟨some 5,.mov (.c (.int .i64 0)),none⟩]) (
.seq (
.seq (
.ops [] [⟨some 17,.load true 1 (.t 2),none⟩,⟨some 18,.call (.c (.fn 66 [] [])) [(.t 17)],none⟩,⟨some 19,.un .not (.t 18),none⟩,⟨some 20,.mov (.t 19),none⟩,⟨some 21,.load true 1 (.t 3),(some (20,false))⟩,⟨some 22,.call (.c (.fn 66 [] [])) [(.t 21)],(some (20,false))⟩,⟨some 23,.un .not (.t 22),(some (20,false))⟩,⟨some 24,.pick (.t 20) (.c (.bool true)) (.t 23),none⟩]) (
.cond (.t 24) ( .seq ( .ops [] [⟨some 25,.build [.nils] [],none⟩,⟨none,.store 1 (.t 4) (.t 25),none⟩,⟨some 5,.mov (.c (.int .i64 1)),none⟩]) ( .ret)) ( .skip))) (
.seq (
.ops [] [⟨some 27,.fa 0 (.t 2),none⟩,⟨some 28,.load false 1 (.t 27),none⟩,⟨some 29,.call (.c (.fn 140 [] [])) [(.t 28)],none⟩,⟨some 30,.call (.c (.fn 139 [] [])) [(.t 29)],none⟩,⟨some 26,.mov (.t 30),none⟩,⟨some 31,.ext (.t 26) 0,none⟩,⟨some 32,.ext (.t 26) 1,none⟩,⟨some 6,.alloc (some 1) (.agg [.nils]) none,none⟩,⟨none,.store 1 (.t 6) (.t 31),none⟩,⟨some 7,.mov (.t 32),none⟩]) (
.seq (
.seq (
.ops [] [⟨some 33,.fa 0 (.t 3),none⟩,⟨some 34,.load false 1 (.t 33),none⟩,⟨some 35,.len (.t 34),none⟩,⟨some 36,.mov (.c (.int .i64 0)),none⟩]) (
.block 0 ( .loop ( .seq ( .ops [] [⟨some 37,.bin .lss (.t 36) (.t 35),none⟩]) ( .seq ( .cond (.t 37) ( .skip) ( .exit 0)) ( .seq ( .block 1 ( .seq ( .ops [] [⟨some 38,.ia 1 (.t 34) (.t 36),none⟩,⟨some 39,.load false 1 (.t 38),none⟩,⟨some 9,.mov (.t 39),none⟩]) ( .seq ( .seq ( .ops [] [⟨some 40,.mov (.t 7),none⟩,⟨some 41,.bin .neq (.t 40) (.c (.int .i64 0)),none⟩]) ( .cond (.t 41) ( .seq ( .ops [] [⟨some 42,.build [.nils] [],none⟩,⟨some 43,.mov (.t 7),none⟩,⟨none,.store 1 (.t 4) (.t 42),none⟩,⟨some 5,.mov (.t 43),none⟩]) ( .ret)) ( .skip))) ( .seq ( .ops [] [⟨some 10,.mov (.c .nils),none⟩]) ( .seq ( .seq ( .ops [] [⟨some 44,.fa 0 (.t 6),none⟩,⟨some 45,.load false 1 (.t 44),none⟩,⟨some 46,.len (.t 45),none⟩,⟨some 47,.mov (.c (.int .i64 0)),none⟩]) ( .block 2 ( .loop ( .seq ( .ops [] [⟨some 48,.bin .lss (.t 47) (.t 46),none⟩]) ( .seq ( .cond (.t 48) ( .skip) ( .exit 2)) ( .seq ( .block 3 ( .seq ( .ops [] [⟨some 49,.ia 1 (.t 45) (.t 47),none⟩,⟨some 50,.load false 1 (.t 49),none⟩,⟨some 12,.mov (.t 50),none⟩]) ( .seq ( .ops [] [⟨some 51,.mov (.t 9),none⟩,⟨some 52,.len (.t 51),none⟩,⟨some 53,.mov (.c (.int .i64 0)),none⟩]) ( .block 4 ( .loop ( .seq ( .ops [] [⟨some 54,.bin .lss (.t 53) (.t 52),none⟩]) ( .seq ( .cond (.t 54) ( .skip) ( .exit 4)) ( .seq ( .block 5 ( .seq ( .ops [] [⟨some 55,.ia 4 (.t 51) (.t 53),none⟩,⟨some 56,.load true 4 (.t 55),none⟩,⟨some 14,.alloc (some 4) (.agg [.nils,(.int .i64 0),(.int .i64 0),.nils]) none,none⟩,⟨none,.store 4 (.t 14) (.t 56),none⟩]) ( .seq ( .ops [] [⟨some 58,.mov (.t 12),none⟩,⟨some 59,.load true 4 (.t 14),none⟩,⟨some 60,.call (.c (.fn 141 [] [])) [(.t 58),(.t 59)],none⟩,⟨some 57,.mov (.t 60),none⟩,⟨some 61,.ext (.t 57) 0,none⟩,⟨some 62,.ext (.t 57) 1,none⟩,⟨some 15,.mov (.t 61),none⟩,⟨some 16,.mov (.t 62),none⟩]) ( .seq ( .seq ( .ops [] [⟨some 63,.mov (.t 16),none⟩,⟨some 64,.un .not (.t 63),none⟩]) ( .cond (.t 64) ( .seq ( .ops [] [⟨some 65,.build [.nils] [],none⟩,⟨none,.store 1 (.t 4) (.t 65),none⟩,⟨some 5,.mov (.c (.int .i64 2)),none⟩]) ( .ret)) ( .skip))) ( .ops [] [⟨some 66,.mov (.t 10),none⟩,⟨some 67,.mov (.t 15),none⟩,⟨some 68,.bsl none none .nils 1 [(0,(.t 67))],none⟩,⟨some 69,.app none 24 (.t 66) (.t 68),none⟩,⟨some 10,.mov (.t 69),none⟩]))))) ( .ops [] [⟨some 70,.bin .add (.t 53) (.c (.int .i64 1)),none⟩,⟨some 53,.mov (.t 70),none⟩]))))))))) ( .ops [] [⟨some 71,.bin .add (.t 47) (.c (.int .i64 1)),none⟩,⟨some 47,.mov (.t 71),none⟩]))))))) ( .ops [] [⟨some 73,.mov (.t 10),none⟩,⟨some 74,.call (.c (.fn 140 [] [])) [(.t 73)],none⟩,⟨some 75,.call (.c (.fn 139 [] [])) [(.t 74)],none⟩,⟨some 72,.mov (.t 75),none⟩,⟨some 76,.ext (.t 72) 0,none⟩,⟨some 77,.ext (.t 72) 1,none⟩,⟨none,.store 1 (.t 6) (.t 76),none⟩,⟨some 7,.mov (.t 77),none⟩])))))) ( .ops [] [⟨some 78,.bin .add (.t 36) (.c (.int .i64 1)),none⟩,⟨some 36,.mov (.t 78),none⟩]))))))) (
.seq (
.ops [] [⟨some 79,.load true 1 (.t 6),none⟩,⟨some 80,.mov (.t 7),none⟩,⟨none,.store 1 (.t 4) (.t 79),none⟩,⟨some 5,.mov (.t 80),none⟩]) (
.ret)))))⟩
def rf75 : RF := ⟨11,[.tmp 2],.seq (
.ops [] [⟨some 1,.box (some 1) (.t 0) none,none⟩,⟨some 2,.mov (.c (.bool false)),none⟩]) (
.seq (
.ops [] [⟨some 3,.load true 1 (.t 1),none⟩,⟨some 4,.call (.c (.fn 66 [] [])) [(.t 3)],none⟩,⟨some 5,.mov (.t 4),none⟩,⟨some 6,.fa 0 (.t 1),(some (5,true))⟩,⟨some 7,.load false 1 (.t 6),(some (5,true))⟩,⟨some 8,.call (.c (.fn 142 [] [])) [(.t 7),(.c (.fn 143 [] []))],(some (5,true))⟩,⟨some 9,.un .not (.t 8),(some (5,true))⟩,⟨some 10,.pick (.t 5) (.t 9) (.c (.bool false)),none⟩,⟨some 2,.mov (.t 10),none⟩]) (
.ret))⟩
def rf76 : RF := ⟨17,[.tmp 4,.tmp 5],.seq (
.ops [] [⟨some 2,.box (some 1) (.t 0) none,none⟩,⟨some 4,.mov (.c (.int .i64 0)),none⟩,⟨some 5,.mov (.c (.bool false)),none⟩]) (
.seq (
.seq (
.ops [] [⟨some 6,.load true 1 (.t 2),none⟩,⟨some 7,.call (.c (.fn 66 [] [])) [(.t 6)],none⟩,⟨some 8,.un .not (.t 7),none⟩]) (
.cond (.t 8) ( .seq ( .ops [] [⟨some 4,.mov (.c (.int .i64 0)),none⟩,⟨some 5,.mov (.c (.bool false)),none⟩]) ( .ret)) ( .skip))) (
.seq (
.ops [] [⟨some 9,.fa 0 (.t 2),none⟩,⟨some 10,.load false 1 (.t 9),none⟩,⟨some 11,.call (.c (.fn 140 [] [])) [(.t 10)],none⟩,⟨some 12,.mov (.t 1),none⟩,⟨some 13,.mx [(.t 12),(.c (.int .i64 0))],none⟩,⟨some 14,.call (.c (.fn 145 [] [])) [(.t 11),(.t 13)],none⟩,⟨some 15,.ext (.t 14) 0,none⟩,⟨some 16,.ext (.t 14) 1,none⟩,⟨some 4,.mov (.t 15),none⟩,⟨some 5,.mov (.t 16),none⟩]) (
.ret)))⟩
def rf77 : RF := ⟨46,[.cell 4 false 1],.seq (
.ops [] [⟨some 2,.box (some 10) (.t 0) none,none⟩,⟨some 3,.box (some 2) (.t 1) none,none⟩,⟨some 4,.alloc none (.bool false) none,none⟩]) (
.seq (
.ops [] [⟨some 13,.fa 0 (.t 2),none⟩,⟨some 14,.load true 8 (.t 13),none⟩,⟨some 15,.fa 0 (.t 3),none⟩,⟨some 16,.load false 1 (.t 15),none⟩,⟨some 17,.call (.c (.fn 146 [] [])) [(.t 14),(.t 16)],none⟩,⟨some 12,.mov (.t 17),none⟩,⟨some 18,.ext (.t 12) 0,none⟩,⟨some 19,.ext (.t 12) 1,none⟩,⟨some 5,.mov (.t 18),none⟩,⟨some 6,.mov (.t 19),none⟩]) (
.seq (
.ops [] [⟨some 21,.mov (.t 5),none⟩,⟨some 22,.call (.c (.fn 128 [] [])) [(.t 21)],none⟩,⟨some 20,.mov (.t 22),none⟩,⟨some 23,.ext (.t 20) 0,none⟩,⟨some 24,.ext (.t 20) 1,none⟩,⟨some 7,.alloc none (.int .i64 0) none,none⟩,⟨none,.store 1 (.t 7) (.t 23),none⟩,⟨some 8,.mov (.t 24),none⟩]) (
.seq (
.seq (
.ops [] [⟨some 26,.fa 9 (.t 2),none⟩,⟨some 27,.load false 1 (.t 26),none⟩,⟨some 28,.load false 1 (.t 7),none⟩,⟨some 29,.call (.c (.fn 147 [] [])) [(.t 27),(.t 28)],none⟩,⟨some 25,.mov (.t 29),none⟩,⟨some 30,.ext (.t 25) 0,none⟩,⟨some 31,.ext (.t 25) 1,none⟩,⟨some 9,.mov (.t 30),none⟩,⟨some 10,.mov (.t 31),none⟩]) (
.seq (
.ops [] [⟨some 32,.mov (.t 10),none⟩]) (
.cond (.t 32) ( .seq ( .ops [] [⟨none,.store 1 (.t 4) (.c (.bool false)),none⟩]) ( .ret)) ( .skip)))) (
.seq (
.seq (
.ops [] [⟨some 33,.load true 10 (.t 2),none⟩,⟨some 34,.mov (.t 8),none⟩,⟨some 35,.fa 1 (.t 3),none⟩,⟨some 36,.load false 1 (.t 35),none⟩,⟨some 37,.fa 0 (.t 3),none⟩,⟨some 38,.load false 1 (.t 37),none⟩,⟨some 39,.bin .sub (.t 36) (.t 38),none⟩,⟨some 40,.call (.c (.fn 132 [] [])) [(.t 33),(.t 34),(.t 39)],none⟩]) (
.block 0 ( .rangeF (.t 40) [41] ( .ops [] [⟨some 11,.alloc (some 3) (.agg [.nils,(.int .i64 0),(.int .i64 0)]) none,none⟩,⟨none,.store 3 (.t 11) (.t 41),none⟩]) ( .block 1 ( .seq ( .ops [] [⟨some 42,.fa 0 (.t 11),none⟩,⟨some 43,.load true 1 (.t 42),none⟩,⟨some 44,.load false 1 (.t 7),none⟩,⟨some 45,.call (.c (.fn 148 [] [])) [(.t 43),(.t 44)],none⟩]) ( .cond (.t 45) ( .seq ( .ops [] [⟨none,.store 1 (.t 4) (.c (.bool true)),none⟩]) ( .ret)) ( .skip))))))) (
.seq (
.ops [] [⟨none,.store 1 (.t 4) (.c (.bool false)),none⟩]) (
.ret))))))⟩
def rf78 : RF := ⟨37,[.tmp 6],.seq (
.ops [] [⟨some 6,.mov (.c (.bool false)),none⟩]) (
.seq (
.dops [] 1 [⟨some 9,.mov (.t 0),none⟩,⟨some 10,.mov (.t 1),none⟩,⟨some 11,.ia 15 (.t 9) (.t 10),none⟩,⟨some 12,.fa 14 (.t 11),none⟩,⟨some 13,.load false 1 (.t 12),none⟩,⟨some 14,.mov (.t 0),none⟩,⟨some 15,.mov (.t 2),none⟩,⟨some 16,.ia 15 (.t 14) (.t 15),none⟩,⟨some 17,.fa 14 (.t 16),none⟩,⟨some 18,.load false 1 (.t 17),none⟩,⟨some 8,.alloc none .nils (some 0),none⟩,⟨some 7,.mov (.t 13),none⟩,⟨none,.store 1 (.t 8) (.t 18),none⟩] []) (
.seq (
.ops [] [⟨some 19,.mov (.t 1),none⟩,⟨some 20,.mov (.t 2),none⟩,⟨some 21,.bin .eql (.t 19) (.t 20),none⟩,⟨some 22,.mov (.t 21),none⟩,⟨some 23,.mov (.t 7),(some (22,false))⟩,⟨some 24,.mov (.t 2),(some (22,false))⟩,⟨some 25,.call (.c (.fn 149 [] [])) [(.t 23),(.t 24)],(some (22,false))⟩,⟨some 26,.pick (.t 22) (.c (.bool true)) (.t 25),none⟩,⟨some 27,.mov (.t 26),none⟩,⟨some 28,.load false 1 (.t 8),(some (27,false))⟩,⟨some 29,.mov (.t 1),(some (27,false))⟩,⟨some 30,.call (.c (.fn 149 [] [])) [(.t 28),(.t 29)],(some (27,false))⟩,⟨some 31,.pick (.t 27) (.c (.bool true)) (.t 30),none⟩,⟨some 32,.mov (.t 31),none⟩,⟨some 33,.mov (.t 7),(some (32,false))⟩,⟨some 34,.mkfn 151 [] [(.t 8)],(some (32,false))⟩,⟨some 35,.call (.c (.fn 150 [] [])) [(.t 33),(.t 34)],(some (32,false))⟩,⟨some 36,.pick (.t 32) (.c (.bool true)) (.t 35),none⟩,⟨some 6,.mov (.t 36),none⟩]) (
.ret)))⟩
def rf79 : RF := ⟨23,[.cell 4 false 1],.seq (
.ops [] [⟨some 2,.box (some 3) (.t 0) none,none⟩,⟨some 3,.box (some 3) (.t 1) none,none⟩,⟨some 4,.alloc none (.bool false) none,none⟩]) (
.seq (
.seq (
.ops [] [⟨some 7,.fa 2 (.t 2),none⟩,⟨some 8,.load false 1 (.t 7),none⟩,⟨some 9,.len (.t 8),none⟩,⟨some 10,.mov (.c (.int .i64 0)),none⟩]) (
.block 0 ( .loop ( .seq ( .ops [] [⟨some 11,.bin .lss (.t 10) (.t 9),none⟩]) ( .seq ( .cond (.t 11) ( .skip) ( .exit 0)) ( .seq ( .block 1 ( .seq ( .ops [] [⟨some 12,.ia 3 (.t 8) (.t 10),none⟩,⟨some 13,.load true 3 (.t 12),none⟩,⟨some 6,.alloc (some 3) (.agg [(.int .i64 0),(.int .i64 0),(.int .i64 0)]) none,none⟩,⟨none,.store 3 (.t 6) (.t 13),none⟩]) ( .seq ( .seq ( .ops [] [⟨some 14,.load true 3 (.t 3),none⟩,⟨some 15,.load true 3 (.t 6),none⟩,⟨some 16,.call (.c (.fn 87 [] [])) [(.t 14),(.t 15)],none⟩]) ( .block 2 ( .rangeF (.t 16) [17] ( .skip) ( .block 3 ( .seq ( .ops [] [⟨none,.store 1 (.t 4) (.c (.bool true)),none⟩]) ( .ret)))))) ( .seq ( .ops [] [⟨some 18,.fa 2 (.t 3),none⟩,⟨some 19,.load false 1 (.t 18),none⟩,⟨some 20,.mkfn 153 [] [(.t 6)],none⟩,⟨some 21,.call (.c (.fn 152 [] [])) [(.t 19),(.t 20)],none⟩]) ( .cond (.t 21) ( .seq ( .ops [] [⟨none,.store 1 (.t 4) (.c (.bool true)),none⟩]) ( .ret)) ( .skip)))))) ( .ops [] [⟨some 22,.bin .add (.t 10) (.c (.int .i64 1)),none⟩,⟨some 10,.mov (.t 22),none⟩]))))))) (
.seq (
.ops [] [⟨none,.store 1 (.t 4) (.c (.bool false)),none⟩]) (
.ret)))⟩
def rf80 : RF := ⟨6,[.tmp 4],.seq (
.ops [] [⟨some 2,.box (some 3) (.t 0) none,none⟩,⟨some 3,.box (some 3) (.t 1) none,none⟩,⟨some 4,.mov (.c .nilf),none⟩]) (
.seq (
.ops [] [⟨some 5,.mkfn 155 [] [(.t 2),(.t 3)],none⟩,⟨some 4,.mov (.t 5),none⟩]) (
.ret))⟩
def rf81 : RF := ⟨24,[.tmp 6,.tmp 7],.seq (
.ops [] [⟨some 3,.box (some 1) (.t 0) none,none⟩,⟨some 4,.box (some 1) (.t 1) none,none⟩,⟨some 6,.mov (.c (.int .i64 0)),none⟩,⟨some 7,.mov (.c (.bool false)),none⟩]) (
.seq (
.seq (
.ops [] [⟨some 8,.load true 1 (.t 3),none⟩,⟨some 9,.call (.c (.fn 66 [] [])) [(.t 8)],none⟩,⟨some 10,.un .not (.t 9),none⟩,⟨some 11,.mov (.t 10),none⟩,⟨some 12,.load true 1 (.t 4),(some (11,false))⟩,⟨some 13,.call (.c (.fn 66 [] [])) [(.t 12)],(some (11,false))⟩,⟨some 14,.un .not (.t 13),(some (11,false))⟩,⟨some 15,.pick (.t 11) (.c (.bool true)) (.t 14),none⟩]) (
.cond (.t 15) ( .seq ( .ops [] [⟨some 6,.mov (.c (.int .i64 0)),none⟩,⟨some 7,.mov (.c (.bool false)),none⟩]) ( .ret)) ( .skip))) (
.seq (
.ops [] [⟨some 16,.load true 1 (.t 3),none⟩,⟨some 17,.load true 1 (.t 4),none⟩,⟨some 18,.call (.c (.fn 157 [] [])) [(.t 16),(.t 17)],none⟩,⟨some 19,.mov (.t 2),none⟩,⟨some 20,.mx [(.t 19),(.c (.int .i64 0))],none⟩,⟨some 21,.call (.c (.fn 145 [] [])) [(.t 18),(.t 20)],none⟩,⟨some 22,.ext (.t 21) 0,none⟩,⟨some 23,.ext (.t 21) 1,none⟩,⟨some 6,.mov (.t 22),none⟩,⟨some 7,.mov (.t 23),none⟩]) (
.ret)))⟩
def rf82 : RF := ⟨21,[.cell 4 true 1,.tmp 5],.seq (
.ops [] [⟨some 2,.box (some 1) (.t 0) none,none⟩,⟨some 3,.box (some 1) (.t 1) none,none⟩,⟨some 4,.alloc (some 1) (.agg [.nils]) none,none⟩,⟨some 5,.mov (.c (.int .i64 0)),none⟩]) (
.seq (
.seq (
.ops [] [⟨some 6,.load true 1 (.t 2),none⟩,⟨some 7,.call (.c (.fn 66 [] [])) [(.t 6)],none⟩,⟨some 8,.un .not (.t 7),none⟩,⟨some 9,.mov (.t 8),none⟩,⟨some 10,.load true 1 (.t 3),(some (9,false))⟩,⟨some 11,.call (.c (.fn 66 [] [])) [(.t 10)],(some (9,false))⟩,⟨some 12,.un .not (.t 11),(some (9,false))⟩,⟨some 13,.pick (.t 9) (.c (.bool true)) (.t 12),none⟩]) (
.cond (.t 13) ( .seq ( .ops [] [⟨some 14,.build [.nils] [],none⟩,⟨none,.store 1 (.t 4) (.t 14),none⟩,⟨some 5,.mov (.c (.int .i64 1)),none⟩]) ( .ret)) ( .skip))) (
.seq (
.ops [] [⟨some 15,.load true 1 (.t 2),none⟩,⟨some 16,.load true 1 (.t 3),none⟩,⟨some 17,.call (.c (.fn 157 [] [])) [(.t 15),(.t 16)],none⟩,⟨some 18,.call (.c (.fn 139 [] [])) [(.t 17)],none⟩,⟨some 19,.ext (.t 18) 0,none⟩,⟨some 20,.ext (.t 18) 1,none⟩,⟨none,.store 1 (.t 4) (.t 19),none⟩,⟨some 5,.mov (.t 20),none⟩]) (
.ret)))⟩
def rf83 : RF := ⟨58,[],.seq (
.ops [] [⟨some 7,.box (some 3) (.t 0) none,none⟩,⟨some 8,.box (some 3) (.t 1) none,none⟩]) (
.seq (
.ops [] [⟨some 10,.fa 1 (.t 7),none⟩,⟨some 11,.fa 0 (.t 10),none⟩,⟨some 12,.load false 1 (.t 11),none⟩,⟨some 13,.fa 1 (.t 8),none⟩,⟨some 14,.fa 0 (.t 13),none⟩,⟨some 15,.load false 1 (.t 14),none⟩,⟨some 16,.load false 1 (.t 2),none⟩,⟨some 17,.mx [(.t 12),(.t 15),(.t 16)],none⟩,⟨some 9,.mov (.t 17),none⟩]) (
.seq (
.seq (
.ops [] [⟨some 18,.fa 1 (.t 7),none⟩,⟨some 19,.fa 1 (.t 18),none⟩,⟨some 20,.load false 1 (.t 19),none⟩,⟨some 21,.bin .gtr (.t 20) (.c (.int .i64 2251799813685248)),none⟩,⟨some 22,.mov (.t 21),none⟩,⟨some 23,.fa 1 (.t 8),(some (22,false))⟩,⟨some 24,.fa 1 (.t 23),(some (22,false))⟩,⟨some 25,.load false 1 (.t 24),(some (22,false))⟩,⟨some 26,.bin .gtr (.t 25) (.c (.int .i64 2251799813685248)),(some (22,false))⟩,⟨some 27,.pick (.t 22) (.c (.bool true)) (.t 26),none⟩,⟨some 28,.mov (.t 27),none⟩,⟨some 29,.mov (.t 9),(some (28,false))⟩,⟨some 30,.fa 1 (.t 7),(some (28,false))⟩,⟨some 31,.fa 1 (.t 30),(some (28,false))⟩,⟨some 32,.load false 1 (.t 31),(some (28,false))⟩,⟨some 33,.fa 1 (.t 8),(some (28,false))⟩,⟨some 34,.fa 1 (.t 33),(some (28,false))⟩,⟨some 35,.load false 1 (.t 34),(some (28,false))⟩,⟨some 36,.mn [(.t 32),(.t 35)],(some (28,false))⟩,⟨some 37,.bin .geq (.t 29) (.t 36),(some (28,false))⟩,⟨some 38,.pick (.t 28) (.c (.bool true)) (.t 37),none⟩]) (
.cond (.t 38) ( .ret) ( .skip))) (
.seq (
.dops [] 0 [⟨some 39,.load false 1 (.t 3),none⟩,⟨some 40,.un .not (.t 39),none⟩,⟨some 41,.mov (.t 40),none⟩,⟨some 42,.mov (.t 9),(some (41,false))⟩,⟨some 43,.load false 1 (.t 4),(some (41,false))⟩,⟨some 44,.call (.c (.fn 43 [] [])) [(.t 42),(.t 43)],(some (41,false))⟩,⟨some 45,.load true 3 (.t 7),(some (41,false))⟩,⟨some 46,.load true 3 (.t 5),(some (41,false))⟩,⟨some 47,.call (.c (.fn 70 [] [])) [(.t 45),(.t 46)],(some (41,false))⟩,⟨some 48,.load true 3 (.t 8),(some (41,false))⟩,⟨some 49,.load true 3 (.t 6),(some (41,false))⟩,⟨some 50,.call (.c (.fn 70 [] [])) [(.t 48),(.t 49)],(some (41,false))⟩,⟨some 51,.bsl none none (.int .i64 0) 3 [(0,(.t 44)),(1,(.t 47)),(2,(.t 50))],(some (41,false))⟩,⟨some 52,.call (.c (.fn 42 [] [])) [(.t 51)],(some (41,false))⟩,⟨some 53,.bin .lss (.t 52) (.c (.int .i64 0)),(some (41,false))⟩,⟨some 54,.pick (.t 41) (.c (.bool true)) (.t 53),none⟩] []) (
.cond (.t 54) ( .dops [] 0 [⟨some 55,.mov (.t 9),none⟩,⟨some 56,.load true 3 (.t 7),none⟩,⟨some 57,.load true 3 (.t 8),none⟩,⟨none,.store 1 (.t 4) (.t 55),none⟩,⟨none,.store 3 (.t 5) (.t 56),none⟩,⟨none,.store 3 (.t 6) (.t 57),none⟩,⟨none,.store 1 (.t 3) (.c (.bool true)),none⟩] [(1,3),(2,3),(2,4)]) ( .skip)))))⟩
def rf84 : RF := ⟨11,[.tmp 2],.seq (
.ops [] [⟨some 2,.mov (.c (.int .i64 0)),none⟩]) (
.seq (
.ops [] [⟨some 6,.mov (.t 0),none⟩,⟨some 7,.call (.c (.fn 158 [] [])) [(.t 6),(.c (.int .i64 1440))],none⟩,⟨some 5,.mov (.t 7),none⟩,⟨some 8,.ext (.t 5) 0,none⟩,⟨some 9,.ext (.t 5) 1,none⟩,⟨some 3,.mov (.t 8),none⟩,⟨some 4,.mov (.t 9),none⟩]) (
.seq (
.ops [] [⟨some 10,.mov (.t 3),none⟩,⟨some 2,.mov (.t 10),none⟩]) (
.ret)))⟩
def rf85 : RF := ⟨16,[.tmp 6],.seq (
.ops [] [⟨some 3,.box (some 3) (.t 0) none,none⟩,⟨some 4,.box (some 2) (.t 1) none,none⟩,⟨some 6,.mov (.c (.bool false)),none⟩]) (
.seq (
.ops [] [⟨some 7,.mov (.t 2),none⟩,⟨some 8,.fa 1 (.t 4),none⟩,⟨some 9,.load false 1 (.t 8),none⟩,⟨some 10,.bin .sub (.c (.int .i64 2251799813685248)) (.t 9),none⟩,⟨some 11,.fa 1 (.t 3),none⟩,⟨some 12,.load false 1 (.t 11),none⟩,⟨some 13,.bin .sub (.t 10) (.t 12),none⟩,⟨some 14,.bin .quo (.t 13) (.c (.int .i64 1440)),none⟩,⟨some 15,.bin .leq (.t 7) (.t 14),none⟩,⟨some 6,.mov (.t 15),none⟩]) (
.ret))⟩
def rf86 : RF := ⟨21,[.cell 6 true 3],.seq (
.ops [] [⟨some 3,.box (some 3) (.t 0) none,none⟩,⟨some 4,.box (some 2) (.t 1) none,none⟩,⟨some 6,.alloc (some 3) (.agg [(.int .i64 0),(.int .i64 0),(.int .i64 0)]) none,none⟩]) (
.seq (
.ops [] [⟨some 8,.mov (.t 2),none⟩,⟨some 9,.bin .mul (.t 8) (.c (.int .i64 1440)),none⟩,⟨some 10,.fa 1 (.t 4),none⟩,⟨some 11,.load false 1 (.t 10),none⟩,⟨some 12,.bin .add (.t 9) (.t 11),none⟩,⟨some 7,.mov (.t 12),none⟩]) (
.seq (
.ops [] [⟨some 13,.mov (.t 2),none⟩,⟨some 14,.mov (.t 7),none⟩,⟨some 15,.mov (.t 7),none⟩,⟨some 16,.fa 1 (.t 3),none⟩,⟨some 17,.load false 1 (.t 16),none⟩,⟨some 18,.bin .add (.t 15) (.t 17),none⟩,⟨some 19,.build [(.int .i64 0),(.int .i64 0)] [(0,1,(.t 14)),(1,1,(.t 18))],none⟩,⟨some 20,.build [(.int .i64 0),(.int .i64 0),(.int .i64 0)] [(0,1,(.t 13)),(1,2,(.t 19))],none⟩,⟨none,.store 3 (.t 6) (.t 20),none⟩]) (
.ret)))⟩
def rf88 : RF := ⟨15,[.cell 2 true 8,.tmp 3],.seq (
.ops [] [⟨some 2,.alloc (some 8) (.agg [(.int .i64 0),(.int .i64 0),(.int .i64 0),(.int .i64 0),(.int .i64 0),(.int .i64 0),(.int .i64 0),(.int .i64 0)]) none,none⟩,⟨some 3,.mov (.c (.int .i64 0)),none⟩]) (
.seq (
.seq (
.dops [] 0 [⟨some 4,.mov (.t 0),none⟩,⟨some 5,.nilchk (.t 4),none⟩,⟨some 6,.fa 2 (.t 5),none⟩,⟨some 7,.fa 3 (.t 6),none⟩,⟨some 8,.load false 1 (.t 7),none⟩,⟨some 9,.mov (.t 0),none⟩,⟨some 10,.call (.c (.fn 109 [] [])) [(.t 9)],none⟩,⟨some 11,.fld false 0 1 (.t 10),none⟩,⟨some 12,.bin .gtr (.t 8) (.t 11),none⟩] []) (
.cond (.t 12) ( .seq ( .ops [] [⟨some 13,.build [(.int .i64 0),(.int .i64 0),(.int .i64 0),(.int .i64 0),(.int .i64 0),(.int .i64 0),(.int .i64 0),(.int .i64 0)] [(0,1,(.c (.int .i64 14)))],none⟩,⟨none,.store 8 (.t 2) (.t 13),none⟩,⟨some 3,.mov (.c (.int .i64 0)),none⟩]) ( .ret)) ( .skip))) (
.seq (
.ops [] [⟨some 14,.build [(.int .i64 0),(.int .i64 0),(.int .i64 0),(.int .i64 0),(.int .i64 0),(.int .i64 0),(.int .i64 0),(.int .i64 0)] [],none⟩,⟨none,.store 8 (.t 2) (.t 14),none⟩,⟨some 3,.mov (.c (.int .i64 0)),none⟩]) (
.ret)))⟩
def rf89 : RF := ⟨29,[.cell 2 true 8,.tmp 3],.seq (
.ops [] [⟨some 2,.alloc (some 8) (.agg [(.int .i64 0),(.int .i64 0),(.int .i64 0),(.int .i64 0),(.int .i64 0),(.int .i64 0),(.int .i64 0),(.int .i64 0)]) none,none⟩,⟨some 3,.mov (.c (.int .i64 0)),none⟩]) (
.seq (
.dops [] 1 [⟨some 8,.mov (.t 0),none⟩,⟨some 9,.call (.c (.fn 109 [] [])) [(.t 8)],none⟩,⟨some 10,.fld true 3 10 (.t 9),none⟩,⟨some 11,.mov (.t 0),none⟩,⟨some 12,.nilchk (.t 11),none⟩,⟨some 13,.fa 2 (.t 12),none⟩,⟨some 14,.fa 4 (.t 13),none⟩,⟨some 15,.load true 3 (.t 14),none⟩,⟨some 16,.call (.c (.fn 44 [] [])) [(.t 10),(.t 15)],none⟩,⟨some 7,.mov (.t 16),none⟩,⟨some 17,.ext (.t 7) 0,none⟩,⟨some 18,.ext (.t 7) 1,none⟩,⟨some 19,.ext (.t 7) 2,none⟩,⟨some 5,.alloc (some 3) (.agg [(.int .i64 0),(.int .i64 0),(.int .i64 0)]) (some 0),none⟩,⟨some 4,.mov (.t 17),none⟩,⟨none,.store 3 (.t 5) (.t 18),none⟩,⟨some 6,.mov (.t 19),none⟩] []) (
.seq (
.seq (
.ops [] [⟨some 20,.mov (.t 4),none⟩,⟨some 21,.mov (.t 20),none⟩,⟨some 22,.mov (.t 6),(some (21,false))⟩,⟨some 23,.bin .neq (.t 22) (.c (.int .i64 0)),(some (21,false))⟩,⟨some 24,.pick (.t 21) (.c (.bool true)) (.t 23),none⟩]) (
.cond (.t 24) ( .seq ( .ops [] [⟨some 25,.build [(.int .i64 0),(.int .i64 0),(.int .i64 0),(.int .i64 0),(.int .i64 0),(.int .i64 0),(.int .i64 0),(.int .i64 0)] [],none⟩,⟨some 26,.mov (.t 6),none⟩,⟨none,.store 8 (.t 2) (.t 25),none⟩,⟨some 3,.mov (.t 26),none⟩]) ( .ret)) ( .skip))) (
.seq (
.ops [] [⟨some 27,.load true 3 (.t 5),none⟩,⟨some 28,.build [(.int .i64 0),(.int .i64 0),(.int .i64 0),(.int .i64 0),(.int .i64 0),(.int .i64 0),(.int .i64 0),(.int .i64 0)] [(0,1,(.c (.int .i64 16))),(2,3,(.t 27))],none⟩,⟨none,.store 8 (.t 2) (.t 28),none⟩,⟨some 3,.mov (.c (.int .i64 0)),none⟩]) (
.ret))))⟩
def rf90 : RF := ⟨107,[.cell 2 true 8,.cell 3 false 1],.seq (
.ops [] [⟨some 1,.box none (.t 0) none,none⟩,⟨some 2,.alloc (some 8) (.agg [(.int .i64 0),(.int .i64 0),(.int .i64 0),(.int .i64 0),(.int .i64 0),(.int .i64 0),(.int .i64 0),(.int .i64 0)]) none,none⟩,⟨some 3,.alloc none (.int .i64 0) none,none⟩]) (
.seq (
.dops [] 2 [⟨some 16,.load false 1 (.t 1),none⟩,⟨some 17,.nilchk (.t 16),none⟩,⟨some 18,.fa 0 (.t 17),none⟩,⟨some 19,.load false 1 (.t 18),none⟩,⟨some 20,.load false 1 (.t 1),none⟩,⟨some 21,.nilchk (.t 20),none⟩,⟨some 22,.fa 2 (.t 21),none⟩,⟨some 23,.load true 7 (.t 22),none⟩,⟨some 24,.call (.c (.fn 160 [] [])) [(.t 19),(.t 23)],none⟩,⟨some 15,.mov (.t 24),none⟩,⟨some 25,.ext (.t 15) 0,none⟩,⟨some 26,.ext (.t 15) 1,none⟩,⟨some 4,.alloc (some 3) (.agg [.nils,(.int .i64 0),.nils]) (some 0),none⟩,⟨some 5,.alloc none (.bool false) (some 1),none⟩,⟨none,.store 3 (.t 4) (.t 25),none⟩,⟨none,.store 1 (.t 5) (.t 26),none⟩] []) (
.seq (
.seq (
.dops [] 0 [⟨some 27,.load false 1 (.t 1),none⟩,⟨some 28,.nilchk (.t 27),none⟩,⟨some 29,.fa 0 (.t 28),none⟩,⟨some 30,.load false 1 (.t 29),none⟩,⟨some 31,.load false 1 (.t 1),none⟩,⟨some 32,.nilchk (.t 31),none⟩,⟨some 33,.fa 1 (.t 32),none⟩,⟨some 34,.load false 1 (.t 33),none⟩,⟨some 35,.load false 1 (.t 1),none⟩,⟨some 36,.nilchk (.t 35),none⟩,⟨some 37,.fa 2 (.t 36),none⟩,⟨some 38,.fa 1 (.t 37),none⟩,⟨some 39,.load false 1 (.t 38),none⟩,⟨some 40,.call (.c (.fn 111 [] [])) [(.t 30),(.t 34),(.t 39)],none⟩] []) (
.block 0 ( .rangeF (.t 40) [41] ( .ops [] [⟨some 6,.alloc (some 7) (.agg [(.int .i64 0),(.int .i64 0),(.int .i64 0),(.int .i64 0),.nils,(.int .i64 0),.nils]) none,none⟩,⟨none,.store 7 (.t 6) (.t 41),none⟩]) ( .block 1 ( .seq ( .seq ( .dops [] 0 [⟨some 42,.fa 0 (.t 6),none⟩,⟨some 43,.load false 1 (.t 42),none⟩,⟨some 44,.load false 1 (.t 1),none⟩,⟨some 45,.nilchk (.t 44),none⟩,⟨some 46,.fa 2 (.t 45),none⟩,⟨some 47,.fa 0 (.t 46),none⟩,⟨some 48,.load false 1 (.t 47),none⟩,⟨some 49,.bin .eql (.t 43) (.t 48),none⟩] []) ( .cond (.t 49) ( .exit 1) ( .skip))) ( .seq ( .dops [] 1 [⟨some 51,.load false 1 (.t 1),none⟩,⟨some 52,.nilchk (.t 51),none⟩,⟨some 53,.fa 0 (.t 52),none⟩,⟨some 54,.load false 1 (.t 53),none⟩,⟨some 55,.load true 7 (.t 6),none⟩,⟨some 56,.call (.c (.fn 160 [] [])) [(.t 54),(.t 55)],none⟩,⟨some 50,.mov (.t 56),none⟩,⟨some 57,.ext (.t 50) 0,none⟩,⟨some 58,.ext (.t 50) 1,none⟩,⟨some 7,.alloc (some 3) (.agg [.nils,(.int .i64 0),.nils]) (some 0),none⟩,⟨none,.store 3 (.t 7) (.t 57),none⟩,⟨some 8,.mov (.t 58),none⟩] []) ( .seq ( .seq ( .ops [] [⟨some 59,.load false 1 (.t 5),none⟩,⟨some 60,.un .not (.t 59),none⟩,⟨some 61,.mov (.t 60),none⟩,⟨some 62,.mov (.t 8),(some (61,false))⟩,⟨some 63,.un .not (.t 62),(some (61,false))⟩,⟨some 64,.pick (.t 61) (.c (.bool true)) (.t 63),none⟩]) ( .cond (.t 64) ( .seq ( .ops [] [⟨some 65,.build [(.int .i64 0),(.int .i64 0),(.int .i64 0),(.int .i64 0),(.int .i64 0),(.int .i64 0),(.int .i64 0),(.int .i64 0)] [],none⟩,⟨none,.store 8 (.t 2) (.t 65),none⟩,⟨none,.store 1 (.t 3) (.c (.int .i64 2)),none⟩]) ( .ret)) ( .skip))) ( .seq ( .ops [] [⟨some 67,.load true 3 (.t 4),none⟩,⟨some 68,.load true 3 (.t 7),none⟩,⟨some 69,.call (.c (.fn 48 [] [])) [(.t 67),(.t 68)],none⟩,⟨some 66,.mov (.t 69),none⟩,⟨some 70,.ext (.t 66) 0,none⟩,⟨some 71,.ext (.t 66) 1,none⟩,⟨some 9,.mov (.t 70),none⟩,⟨some 10,.mov (.t 71),none⟩]) ( .seq ( .seq ( .ops [] [⟨some 72,.mov (.t 10),none⟩,⟨some 73,.bin .neq (.t 72) (.c (.int .i64 0)),none⟩]) ( .cond (.t 73) ( .seq ( .ops [] [⟨some 74,.build [(.int .i64 0),(.int .i64 0),(.int .i64 0),(.int .i64 0),(.int .i64 0),(.int .i64 0),(.int .i64 0),(.int .i64 0)] [],none⟩,⟨some 75,.mov (.t 10),none⟩,⟨none,.store 8 (.t 2) (.t 74),none⟩,⟨none,.store 1 (.t 3) (.t 75),none⟩]) ( .ret)) ( .skip))) ( .seq ( .seq ( .ops [] [⟨some 76,.mov (.t 9),none⟩,⟨some 77,.un .not (.t 76),none⟩]) ( .cond (.t 77) ( .exit 1) ( .skip))) ( .seq ( .ops [] [⟨some 78,.fa 0 (.t 6),none⟩,⟨some 79,.load false 1 (.t 78),none⟩,⟨some 80,.build [(.int .i64 0),(.int .i64 0),(.int .i64 0),(.int .i64 0),(.int .i64 0),(.int .i64 0),(.int .i64 0),(.int .i64 0)] [(0,1,(.c (.int .i64 15))),(1,1,(.t 79))],none⟩,⟨some 11,.alloc (some 8) (.agg [(.int .i64 0),(.int .i64 0),(.int .i64 0),(.int .i64 0),(.int .i64 0),(.int .i64 0),(.int .i64 0),(.int .i64 0)]) none,none⟩,⟨none,.store 8 (.t 11) (.t 80),none⟩]) ( .seq ( .seq ( .ops [] [⟨some 82,.load true 3 (.t 4),none⟩,⟨some 83,.load true 3 (.t 7),none⟩,⟨some 84,.call (.c (.fn 49 [] [])) [(.t 82),(.t 83),(.c (.int .i64 (-2251799813685248)))],none⟩,⟨some 81,.mov (.t 84),none⟩,⟨some 85,.ext (.t 81) 0,none⟩,⟨some 86,.ext (.t 81) 1,none⟩,⟨some 87,.ext (.t 81) 2,none⟩,⟨some 12,.alloc (some 3) (.agg [(.int .i64 0),(.int .i64 0),(.int .i64 0)]) none,none⟩,⟨some 13,.alloc (some 3) (.agg [(.int .i64 0),(.int .i64 0),(.int .i64 0)]) none,none⟩,⟨none,.store 3 (.t 12) (.t 85),none⟩,⟨none,.store 3 (.t 13) (.t 86),none⟩,⟨some 14,.mov (.t 87),none⟩]) ( .seq ( .ops [] [⟨some 88,.mov (.t 14),none⟩]) ( .cond (.t 88) ( .dops [] 0 [⟨some 89,.load false 1 (.t 1),none⟩,⟨some 90,.call (.c (.fn 109 [] [])) [(.t 89)],none⟩,⟨some 91,.load true 3 (.t 12),none⟩,⟨some 92,.call (.c (.fn 161 [] [])) [(.t 90),(.t 91)],none⟩,⟨some 93,.load false 1 (.t 1),none⟩,⟨some 94,.nilchk (.t 93),none⟩,⟨some 95,.fa 0 (.t 94),none⟩,⟨some 96,.load false 1 (.t 95),none⟩,⟨some 97,.fa 1 (.t 6),none⟩,⟨some 98,.load false 1 (.t 97),none⟩,⟨some 99,.ia 15 (.t 96) (.t 98),none⟩,⟨some 100,.load true 15 (.t 99),none⟩,⟨some 101,.load true 3 (.t 13),none⟩,⟨some 102,.call (.c (.fn 161 [] [])) [(.t 100),(.t 101)],none⟩,⟨some 103,.fa 2 (.t 11),none⟩,⟨none,.store 3 (.t 103) (.t 92),none⟩,⟨some 104,.fa 5 (.t 11),none⟩,⟨none,.store 3 (.t 104) (.t 102),none⟩] []) ( .skip)))) ( .seq ( .ops [] [⟨some 105,.load true 8 (.t 11),none⟩,⟨none,.store 8 (.t 2) (.t 105),none⟩,⟨none,.store 1 (.t 3) (.c (.int .i64 0)),none⟩]) ( .ret)))))))))))))) (
.seq (
.ops [] [⟨some 106,.build [(.int .i64 0),(.int .i64 0),(.int .i64 0),(.int .i64 0),(.int .i64 0),(.int .i64 0),(.int .i64 0),(.int .i64 0)] [],none⟩,⟨none,.store 8 (.t 2) (.t 106),none⟩,⟨none,.store 1 (.t 3) (.c (.int .i64 0)),none⟩]) (
.ret))))⟩
def rf91 : RF := ⟨97,[.cell 2 true 8,.tmp 3],.seq (
.ops [] [⟨some 2,.alloc (some 8) (.agg [(.int .i64 0),(.int .i64 0),(.int .i64 0),(.int .i64 0),(.int .i64 0),(.int .i64 0),(.int .i64 0),(.int .i64 0)]) none,none⟩,⟨some 3,.mov (.c (.int .i64 0)),none⟩]) (
.seq (
.ops [] [⟨some 13,.mov (.t 0),none⟩,⟨some 14,.call (.c (.fn 114 [] [])) [(.t 13)],none⟩,⟨some 12,.mov (.t 14),none⟩,⟨some 15,.ext (.t 12) 0,none⟩,⟨some 16,.ext (.t 12) 1,none⟩,⟨some 4,.mov (.t 15),none⟩,⟨some 5,.mov (.t 16),none⟩]) (
.seq (
.seq (
.ops [] [⟨some 17,.mov (.t 5),none⟩,⟨some 18,.un .not (.t 17),none⟩]) (
.cond (.t 18) ( .seq ( .ops [] [⟨some 19,.build [(.int .i64 0),(.int .i64 0),(.int .i64 0),(.int .i64 0),(.int .i64 0),(.int .i64 0),(.int .i64 0),(.int .i64 0)] [],none⟩,⟨none,.store 8 (.t 2) (.t 19),none⟩,⟨some 3,.mov (.c (.int .i64 0)),none⟩]) ( .ret)) ( .skip))) (
.seq (
.dops [] 0 [⟨some 21,.mov (.t 0),none⟩,⟨some 22,.nilchk (.t 21),none⟩,⟨some 23,.fa 1 (.t 22),none⟩,⟨some 24,.load false 1 (.t 23),none⟩,⟨some 25,.mov (.t 0),none⟩,⟨some 26,.nilchk (.t 25),none⟩,⟨some 27,.fa 2 (.t 26),none⟩,⟨some 28,.fa 1 (.t 27),none⟩,⟨some 29,.load false 1 (.t 28),none⟩,⟨some 30,.mov (.t 0),none⟩,⟨some 31,.nilchk (.t 30),none⟩,⟨some 32,.fa 2 (.t 31),none⟩,⟨some 33,.fa 2 (.t 32),none⟩,⟨some 34,.load false 1 (.t 33),none⟩,⟨some 36,.mov (.t 0),none⟩,⟨some 37,.nilchk (.t 36),none⟩,⟨some 38,.fa 2 (.t 37),none⟩,⟨some 39,.fa 4 (.t 38),none⟩,⟨some 40,.load true 3 (.t 39),none⟩,⟨some 41,.bsl none (some 3) (.agg [.nils,(.int .i64 0),.nils]) 1 [(0,(.t 40))],none⟩,⟨some 35,.call (.c (.fn 163 [] [])) [(.t 24),(.t 29),(.t 34)],none⟩,⟨some 42,.app (some 3) 56 (.t 35) (.t 41),none⟩,⟨some 43,.call (.c (.fn 162 [] [])) [(.t 42)],none⟩,⟨some 20,.mov (.t 43),none⟩,⟨some 44,.ext (.t 20) 0,none⟩,⟨some 45,.ext (.t 20) 1,none⟩,⟨some 6,.mov (.t 44),none⟩,⟨some 5,.mov (.t 45),none⟩] []) (
.seq (
.seq (
.ops [] [⟨some 46,.mov (.t 5),none⟩,⟨some 47,.un .not (.t 46),none⟩]) (
.cond (.t 47) ( .seq ( .ops [] [⟨some 48,.build [(.int .i64 0),(.int .i64 0),(.int .i64 0),(.int .i64 0),(.int .i64 0),(.int .i64 0),(.int .i64 0),(.int .i64 0)] [],none⟩,⟨none,.store 8 (.t 2) (.t 48),none⟩,⟨some 3,.mov (.c (.int .i64 2)),none⟩]) ( .ret)) ( .skip))) (
.seq (
.ops [] [⟨some 49,.mkmap none,none⟩,⟨some 7,.mov (.t 49),none⟩]) (
.seq (
.seq (
.ops [] [⟨some 8,.mov (.c (.int .i64 (-1))),none⟩]) (
.block 0 ( .loop ( .seq ( .seq ( .ops [] [⟨some 50,.mov (.t 8),none⟩,⟨some 51,.bin .mul (.c (.int .i64 7)) (.t 50),none⟩,⟨some 52,.mov (.t 6),none⟩,⟨some 53,.bin .lss (.t 51) (.t 52),none⟩]) ( .cond (.t 53) ( .skip) ( .exit 0))) ( .seq ( .block 1 ( .seq ( .ops [] [⟨some 56,.mov (.t 0),none⟩,⟨some 57,.nilchk (.t 56),none⟩,⟨some 58,.fa 2 (.t 57),none⟩,⟨some 59,.fa 4 (.t 58),none⟩,⟨some 60,.load true 3 (.t 59),none⟩,⟨some 61,.mov (.t 8),none⟩,⟨some 62,.call (.c (.fn 117 [] [])) [(.t 60),(.t 61)],none⟩,⟨some 9,.mov (.t 62),none⟩]) ( .seq ( .seq ( .ops [] [⟨some 63,.mov (.t 9),none⟩,⟨some 64,.len (.t 63),none⟩,⟨some 65,.bin .eql (.t 64) (.c (.int .i64 0)),none⟩]) ( .cond (.t 65) ( .exit 1) ( .skip))) ( .seq ( .ops [] [⟨some 66,.mov (.t 7),none⟩,⟨some 67,.mov (.t 8),none⟩,⟨some 68,.mov (.t 0),none⟩,⟨some 69,.mov (.t 8),none⟩,⟨some 70,.call (.c (.fn 116 [] [])) [(.t 68),(.t 69)],none⟩,⟨none,.mupd false [.int] (.t 66) (.t 67) (.t 70),none⟩]) ( .seq ( .ops [] [⟨some 71,.mov (.t 9),none⟩,⟨some 72,.len (.t 71),none⟩,⟨some 73,.mov (.c (.int .i64 0)),none⟩]) ( .block 2 ( .loop ( .seq ( .ops [] [⟨some 74,.bin .lss (.t 73) (.t 72),none⟩]) ( .seq ( .cond (.t 74) ( .skip) ( .exit 2)) ( .seq ( .block 3 ( .seq ( .ops [] [⟨some 75,.ia 3 (.t 71) (.t 73),none⟩,⟨some 76,.load true 3 (.t 75),none⟩,⟨some 11,.alloc (some 3) (.agg [(.int .i64 0),(.int .i64 0),(.int .i64 0)]) none,none⟩,⟨none,.store 3 (.t 11) (.t 76),none⟩]) ( .seq ( .ops [] [⟨some 77,.mov (.t 7),none⟩,⟨some 78,.mov (.t 8),none⟩,⟨some 79,.look false [.int] (.int .i64 0) (.t 77) (.t 78) false,none⟩,⟨some 80,.fa 1 (.t 11),none⟩,⟨some 81,.fa 1 (.t 80),none⟩,⟨some 82,.load false 1 (.t 81),none⟩,⟨some 83,.fa 1 (.t 11),none⟩,⟨some 84,.fa 0 (.t 83),none⟩,⟨some 85,.load false 1 (.t 84),none⟩,⟨some 86,.bin .sub (.t 82) (.t 85),none⟩,⟨some 87,.bin .add (.t 79) (.t 86),none⟩,⟨none,.mupd false [.int] (.t 77) (.t 78) (.t 87),none⟩]) ( .seq ( .ops [] [⟨some 88,.mov (.t 7),none⟩,⟨some 89,.mov (.t 8),none⟩,⟨some 90,.look false [.int] (.int .i64 0) (.t 88) (.t 89) false,none⟩,⟨some 91,.mov (.t 4),none⟩,⟨some 92,.bin .gtr (.t 90) (.t 91),none⟩]) ( .cond (.t 92) ( .seq ( .ops [] [⟨some 93,.load true 3 (.t 11),none⟩,⟨some 94,.build [(.int .i64 0),(.int .i64 0),(.int .i64 0),(.int .i64 0),(.int .i64 0),(.int .i64 0),(.int .i64 0),(.int .i64 0)] [(0,1,(.c (.int .i64 14))),(2,3,(.t 93))],none⟩,⟨none,.store 8 (.t 2) (.t 94),none⟩,⟨some 3,.mov (.c (.int .i64 0)),none⟩]) ( .ret)) ( .skip)))))) ( .ops [] [⟨some 95,.bin .add (.t 73) (.c (.int .i64 1)),none⟩,⟨some 73,.mov (.t 95),none⟩]))))))))))) ( .ops [] [⟨some 54,.mov (.t 8),none⟩,⟨some 55,.bin .add (.t 54) (.c (.int .i64 1)),none⟩,⟨some 8,.mov (.t 55),none⟩])))))) (
.seq (
.ops [] [⟨some 96,.build [(.int .i64 0),(.int .i64 0),(.int .i64 0),(.int .i64 0),(.int .i64 0),(.int .i64 0),(.int .i64 0),(.int .i64 0)] [],none⟩,⟨none,.store 8 (.t 2) (.t 96),none⟩,⟨some 3,.mov (.c (.int .i64 0)),none⟩]) (
.ret))))))))⟩
def rf92 : RF := ⟨13,[.tmp 4],.seq (
.ops [] [⟨some 2,.box none (.t 0) none,none⟩,⟨some 4,.mov (.c .nils),none⟩]) (
.seq (
.seq (
.ops [] [⟨some 6,.mov (.t 1),none⟩]) (
.block 0 ( .rangeF (.t 6) [7] ( .ops [] [⟨some 5,.alloc (some 4) (.agg [(.int .i64 0),(.int .i64 0),(.int .i64 0),(.int .i64 0)]) none,none⟩,⟨none,.store 4 (.t 5) (.t 7),none⟩]) ( .block 1 ( .ops [] [⟨some 8,.load false 1 (.t 2),none⟩,⟨some 9,.load true 4 (.t 5),none⟩,⟨some 10,.bsl none (some 4) (.agg [(.int .i64 0),(.int .i64 0),(.int .i64 0),(.int .i64 0)]) 1 [(0,(.t 9))],none⟩,⟨some 11,.app (some 4) 32 (.t 8) (.t 10),none⟩,⟨none,.store 1 (.t 2) (.t 11),none⟩]))))) (
.seq (
.ops [] [⟨some 12,.load false 1 (.t 2),none⟩,⟨some 4,.mov (.t 12),none⟩]) (
.ret)))⟩
def rf93 : RF := ⟨148,[],.seq (
.ops [] [⟨some 10,.mov (.c (.bool true)),none⟩]) (
.seq (
.ops [] [⟨some 11,.mov (.c (.bool true)),none⟩]) (
.block 0 ( .loop ( .block 1 ( .seq ( .ops [] [⟨some 21,.mov (.t 2),none⟩,⟨some 22,.mov (.t 1),none⟩,⟨some 23,.bin .sub (.t 21) (.t 22),none⟩,⟨some 12,.mov (.t 23),none⟩]) ( .seq ( .seq ( .ops [] [⟨some 24,.mov (.t 12),none⟩,⟨some 25,.bin .leq (.t 24) (.c (.int .i64 12)),none⟩]) ( .cond (.t 25) ( .seq ( .ops [] [⟨some 26,.mov (.t 0),none⟩,⟨some 27,.mov (.t 1),none⟩,⟨some 28,.mov (.t 2),none⟩,⟨some 29,.mov (.t 4),none⟩,⟨some 30,.call (.c (.fn 164 [] [])) [(.t 26),(.t 27),(.t 28),(.t 29)],none⟩]) ( .ret)) ( .skip))) ( .seq ( .seq ( .ops [] [⟨some 31,.mov (.t 3),none⟩,⟨some 32,.bin .eql (.t 31) (.c (.int .i64 0)),none⟩]) ( .cond (.t 32) ( .seq ( .ops [] [⟨some 33,.mov (.t 0),none⟩,⟨some 34,.mov (.t 1),none⟩,⟨some 35,.mov (.t 2),none⟩,⟨some 36,.mov (.t 4),none⟩,⟨some 37,.call (.c (.fn 165 [] [])) [(.t 33),(.t 34),(.t 35),(.t 36)],none⟩]) ( .ret)) ( .skip))) ( .seq ( .seq ( .ops [] [⟨some 38,.mov (.t 10),none⟩,⟨some 39,.un .not (.t 38),none⟩]) ( .cond (.t 39) ( .seq ( .ops [] [⟨some 40,.mov (.t 0),none⟩,⟨some 41,.mov (.t 1),none⟩,⟨some 42,.mov (.t 2),none⟩,⟨some 43,.mov (.t 4),none⟩,⟨some 44,.call (.c (.fn 166 [] [])) [(.t 40),(.t 41),(.t 42),(.t 43)],none⟩]) ( .ops [] [⟨some 45,.mov (.t 3),none⟩,⟨some 46,.bin .sub (.t 45) (.c (.int .i64 1)),none⟩,⟨some 3,.mov (.t 46),none⟩])) ( .skip))) ( .seq ( .ops [] [⟨some 48,.mov (.t 0),none⟩,⟨some 49,.mov (.t 1),none⟩,⟨some 50,.mov (.t 2),none⟩,⟨some 51,.mov (.t 4),none⟩,⟨some 52,.call (.c (.fn 167 [] [])) [(.t 48),(.t 49),(.t 50),(.t 51)],none⟩,⟨some 47,.mov (.t 52),none⟩,⟨some 53,.ext (.t 47) 0,none⟩,⟨some 54,.ext (.t 47) 1,none⟩,⟨some 13,.mov (.t 53),none⟩,⟨some 14,.mov (.t 54),none⟩]) ( .seq ( .seq ( .ops [] [⟨some 55,.mov (.t 14),none⟩,⟨some 56,.bin .eql (.t 55) (.c (.int .i64 2)),none⟩]) ( .cond (.t 56) ( .seq ( .ops [] [⟨some 57,.mov (.t 0),none⟩,⟨some 58,.mov (.t 1),none⟩,⟨some 59,.mov (.t 2),none⟩,⟨some 60,.mov (.t 4),none⟩,⟨some 61,.call (.c (.fn 168 [] [])) [(.t 57),(.t 58),(.t 59),(.t 60)],none⟩]) ( .seq ( .ops [] [⟨some 62,.mov (.t 2),none⟩,⟨some 63,.bin .sub (.t 62) (.c (.int .i64 1)),none⟩,⟨some 64,.mov (.t 13),none⟩,⟨some 65,.mov (.t 1),none⟩,⟨some 66,.bin .sub (.t 64) (.t 65),none⟩,⟨some 67,.bin .sub (.t 63) (.t 66),none⟩,⟨some 13,.mov (.t 67),none⟩]) ( .ops [] [⟨some 14,.mov (.c (.int .i64 1)),none⟩]))) ( .skip))) ( .seq ( .seq ( .ops [] [⟨some 68,.mov (.t 10),none⟩,⟨some 69,.mov (.t 68),none⟩,⟨some 70,.mov (.t 11),(some (69,true))⟩,⟨some 71,.pick (.t 69) (.t 70) (.c (.bool false)),none⟩,⟨some 72,.mov (.t 71),none⟩,⟨some 73,.mov (.t 14),(some (72,true))⟩,⟨some 74,.bin .eql (.t 73) (.c (.int .i64 1)),(some (72,true))⟩,⟨some 75,.pick (.t 72) (.t 74) (.c (.bool false)),none⟩]) ( .cond (.t 75) ( .seq ( .ops [] [⟨some 76,.mov (.t 0),none⟩,⟨some 77,.mov (.t 1),none⟩,⟨some 78,.mov (.t 2),none⟩,⟨some 79,.mov (.t 4),none⟩,⟨some 80,.call (.c (.fn 169 [] [])) [(.t 76),(.t 77),(.t 78),(.t 79)],none⟩]) ( .cond (.t 80) ( .ret) ( .skip))) ( .skip))) ( .seq ( .seq ( .dops [] 0 [⟨some 81,.mov (.t 1),none⟩,⟨some 82,.bin .gtr (.t 81) (.c (.int .i64 0)),none⟩,⟨some 83,.mov (.t 82),none⟩,⟨some 84,.mov (.t 4),(some (83,true))⟩,⟨some 85,.mov (.t 0),(some (83,true))⟩,⟨some 86,.mov (.t 1),(some (83,true))⟩,⟨some 87,.bin .sub (.t 86) (.c (.int .i64 1)),(some (83,true))⟩,⟨some 88,.ia 4 (.t 85) (.t 87),(some (83,true))⟩,⟨some 89,.load true 4 (.t 88),(some (83,true))⟩,⟨some 90,.mov (.t 0),(some (83,true))⟩,⟨some 91,.mov (.t 13),(some (83,true))⟩,⟨some 92,.ia 4 (.t 90) (.t 91),(some (83,true))⟩,⟨some 93,.load true 4 (.t 92),(some (83,true))⟩,⟨some 94,.call (.t 84) [(.t 89),(.t 93)],(some (83,true))⟩,⟨some 95,.bin .lss (.t 94) (.c (.int .i64 0)),(some (83,true))⟩,⟨some 96,.un .not (.t 95),(some (83,true))⟩,⟨some 97,.pick (.t 83) (.t 96) (.c (.bool false)),none⟩] []) ( .cond (.t 97) ( .seq ( .ops [] [⟨some 98,.mov (.t 0),none⟩,⟨some 99,.mov (.t 1),none⟩,⟨some 100,.mov (.t 2),none⟩,⟨some 101,.mov (.t 13),none⟩,⟨some 102,.mov (.t 4),none⟩,⟨some 103,.call (.c (.fn 170 [] [])) [(.t 98),(.t 99),(.t 100),(.t 101),(.t 102)],none⟩,⟨some 15,.mov (.t 103),none⟩]) ( .seq ( .ops [] [⟨some 104,.mov (.t 15),none⟩,⟨some 1,.mov (.t 104),none⟩]) ( .exit 1))) ( .skip))) ( .seq ( .ops [] [⟨some 106,.mov (.t 0),none⟩,⟨some 107,.mov (.t 1),none⟩,⟨some 108,.mov (.t 2),none⟩,⟨some 109,.mov (.t 13),none⟩,⟨some 110,.mov (.t 4),none⟩,⟨some 111,.call (.c (.fn 171 [] [])) [(.t 106),(.t 107),(.t 108),(.t 109),(.t 110)],none⟩,⟨some 105,.mov (.t 111),none⟩,⟨some 112,.ext (.t 105) 0,none⟩,⟨some 113,.ext (.t 105) 1,none⟩,⟨some 16,.mov (.t 112),none⟩,⟨some 17,.mov (.t 113),none⟩]) ( .seq ( .ops [] [⟨some 114,.mov (.t 17),none⟩,⟨some 11,.mov (.t 114),none⟩]) ( .seq ( .ops [] [⟨some 115,.mov (.t 16),none⟩,⟨some 116,.mov (.t 1),none⟩,⟨some 117,.bin .sub (.t 115) (.t 116),none⟩,⟨some 118,.mov (.t 2),none⟩,⟨some 119,.mov (.t 16),none⟩,⟨some 120,.bin .sub (.t 118) (.t 119),none⟩,⟨some 18,.mov (.t 117),none⟩,⟨some 19,.mov (.t 120),none⟩]) ( .seq ( .ops [] [⟨some 121,.mov (.t 12),none⟩,⟨some 122,.bin .quo (.t 121) (.c (.int .i64 8)),none⟩,⟨some 20,.mov (.t 122),none⟩]) ( .seq ( .ops [] [⟨some 123,.mov (.t 18),none⟩,⟨some 124,.mov (.t 19),none⟩,⟨some 125,.bin .lss (.t 123) (.t 124),none⟩]) ( .cond (.t 125) ( .seq ( .ops [] [⟨some 126,.mov (.t 18),none⟩,⟨some 127,.mov (.t 20),none⟩,⟨some 128,.bin .geq (.t 126) (.t 127),none⟩,⟨some 10,.mov (.t 128),none⟩]) ( .seq ( .ops [] [⟨some 129,.mov (.t 0),none⟩,⟨some 130,.mov (.t 1),none⟩,⟨some 131,.mov (.t 16),none⟩,⟨some 132,.mov (.t 3),none⟩,⟨some 133,.mov (.t 4),none⟩,⟨some 134,.call (.c (.fn 93 [] [])) [(.t 129),(.t 130),(.t 131),(.t 132),(.t 133)],none⟩]) ( .ops [] [⟨some 135,.mov (.t 16),none⟩,⟨some 136,.bin .add (.t 135) (.c (.int .i64 1)),none⟩,⟨some 1,.mov (.t 136),none⟩]))) ( .seq ( .ops [] [⟨some 137,.mov (.t 19),none⟩,⟨some 138,.mov (.t 20),none⟩,⟨some 139,.bin .geq (.t 137) (.t 138),none⟩,⟨some 10,.mov (.t 139),none⟩]) ( .seq ( .ops [] [⟨some 140,.mov (.t 0),none⟩,⟨some 141,.mov (.t 16),none⟩,⟨some 142,.bin .add (.t 141) (.c (.int .i64 1)),none⟩,⟨some 143,.mov (.t 2),none⟩,⟨some 144,.mov (.t 3),none⟩,⟨some 145,.mov (.t 4),none⟩,⟨some 146,.call (.c (.fn 93 [] [])) [(.t 140),(.t 142),(.t 143),(.t 144),(.t 145)],none⟩]) ( .ops [] [⟨some 147,.mov (.t 16),none⟩,⟨some 2,.mov (.t 147),none⟩])))))))))))))))))))))⟩
def rf94 : RF := ⟨49,[],.seq (
.ops [] [⟨some 8,.mov (.t 1),none⟩,⟨some 9,.bin .add (.t 8) (.c (.int .i64 1)),none⟩,⟨some 6,.mov (.t 9),none⟩]) (
.block 0 ( .loop ( .seq ( .seq ( .ops [] [⟨some 10,.mov (.t 6),none⟩,⟨some 11,.mov (.t 2),none⟩,⟨some 12,.bin .lss (.t 10) (.t 11),none⟩]) ( .cond (.t 12) ( .skip) ( .exit 0))) ( .seq ( .block 1 ( .seq ( .ops [] [⟨some 15,.mov (.t 6),none⟩,⟨some 7,.mov (.t 15),none⟩]) ( .block 2 ( .loop ( .seq ( .seq ( .dops [] 0 [⟨some 16,.mov (.t 7),none⟩,⟨some 17,.mov (.t 1),none⟩,⟨some 18,.bin .gtr (.t 16) (.t 17),none⟩,⟨some 19,.mov (.t 18),none⟩,⟨some 20,.mov (.t 0),(some (19,true))⟩,⟨some 21,.mov (.t 7),(some (19,true))⟩,⟨some 22,.ia 1 (.t 20) (.t 21),(some (19,true))⟩,⟨some 23,.load false 1 (.t 22),(some (19,true))⟩,⟨some 24,.mov (.t 0),(some (19,true))⟩,⟨some 25,.mov (.t 7),(some (19,true))⟩,⟨some 26,.bin .sub (.t 25) (.c (.int .i64 1)),(some (19,true))⟩,⟨some 27,.ia 1 (.t 24) (.t 26),(some (19,true))⟩,⟨some 28,.load false 1 (.t 27),(some (19,true))⟩,⟨some 29,.call (.c (.fn 100 [] [])) [(.t 23),(.t 28)],(some (19,true))⟩,⟨some 30,.pick (.t 19) (.t 29) (.c (.bool false)),none⟩] []) ( .cond (.t 30) ( .skip) ( .exit 2))) ( .seq ( .block 3 ( .dops [] 0 [⟨some 33,.mov (.t 0),none⟩,⟨some 34,.mov (.t 7),none⟩,⟨some 35,.mov (.t 0),none⟩,⟨some 36,.mov (.t 7),none⟩,⟨some 37,.bin .sub (.t 36) (.c (.int .i64 1)),none⟩,⟨some 38,.mov (.t 0),none⟩,⟨some 39,.mov (.t 7),none⟩,⟨some 40,.bin .sub (.t 39) (.c (.int .i64 1)),none⟩,⟨some 41,.ia 1 (.t 38) (.t 40),none⟩,⟨some 42,.load false 1 (.t 41),none⟩,⟨some 43,.mov (.t 0),none⟩,⟨some 44,.mov (.t 7),none⟩,⟨some 45,.ia 1 (.t 43) (.t 44),none⟩,⟨some 46,.load false 1 (.t 45),none⟩,⟨some 47,.ia 1 (.t 33) (.t 34),none⟩,⟨none,.store 1 (.t 47) (.t 42),none⟩,⟨some 48,.ia 1 (.t 35) (.t 37),none⟩,⟨none,.store 1 (.t 48) (.t 46),none⟩] [])) ( .ops [] [⟨some 31,.mov (.t 7),none⟩,⟨some 32,.bin .sub (.t 31) (.c (.int .i64 1)),none⟩,⟨some 7,.mov (.t 32),none⟩]))))))) ( .ops [] [⟨some 13,.mov (.t 6),none⟩,⟨some 14,.bin .add (.t 13) (.c (.int .i64 1)),none⟩,⟨some 6,.mov (.t 14),none⟩])))))⟩
def rf100 : RF := ⟨17,[.tmp 4],.seq (
.ops [] [⟨some 4,.mov (.c (.bool false)),none⟩]) (
.seq (
.ops [] [⟨some 5,.mov (.t 0),none⟩,⟨some 6,.call (.c (.fn 71 [] [])) [(.t 5)],none⟩,⟨some 7,.mov (.t 6),none⟩,⟨some 8,.mov (.t 1),(some (7,true))⟩,⟨some 9,.call (.c (.fn 71 [] [])) [(.t 8)],(some (7,true))⟩,⟨some 10,.un .not (.t 9),(some (7,true))⟩,⟨some 11,.pick (.t 7) (.t 10) (.c (.bool false)),none⟩,⟨some 12,.mov (.t 11),none⟩,⟨some 13,.mov (.t 0),(some (12,false))⟩,⟨some 14,.mov (.t 1),(some (12,false))⟩,⟨some 15,.bin .lss (.t 13) (.t 14),(some (12,false))⟩,⟨some 16,.pick (.t 12) (.c (.bool true)) (.t 15),none⟩,⟨some 4,.mov (.t 16),none⟩]) (
.ret))⟩
def rf104 : RF := ⟨25,[.tmp 2],.seq (
.ops [] [⟨some 2,.mov (.c (.int .i64 0)),none⟩]) (
.seq (
.seq (
.ops [] [⟨some 3,.mov (.t 0),none⟩,⟨some 4,.bin .geq (.t 3) (.c (.int .u64 4294967296)),none⟩]) (
.cond (.t 4) ( .seq ( .ops [] [⟨some 5,.mov (.t 0),none⟩,⟨some 6,.bin .shr (.t 5) (.c (.int .u64 32)),none⟩,⟨some 0,.mov (.t 6),none⟩]) ( .ops [] [⟨some 2,.mov (.c (.int .i64 32)),none⟩])) ( .skip))) (
.seq (
.seq (
.ops [] [⟨some 7,.mov (.t 0),none⟩,⟨some 8,.bin .geq (.t 7) (.c (.int .u64 65536)),none⟩]) (
.cond (.t 8) ( .seq ( .ops [] [⟨some 9,.mov (.t 0),none⟩,⟨some 10,.bin .shr (.t 9) (.c (.int .u64 16)),none⟩,⟨some 0,.mov (.t 10),none⟩]) ( .ops [] [⟨some 11,.mov (.t 2),none⟩,⟨some 12,.bin .add (.t 11) (.c (.int .i64 16)),none⟩,⟨some 2,.mov (.t 12),none⟩])) ( .skip))) (
.seq (
.seq (
.ops [] [⟨some 13,.mov (.t 0),none⟩,⟨some 14,.bin .geq (.t 13) (.c (.int .u64 256)),none⟩]) (
.cond (.t 14) ( .seq ( .ops [] [⟨some 15,.mov (.t 0),none⟩,⟨some 16,.bin .shr (.t 15) (.c (.int .u64 8)),none⟩,⟨some 0,.mov (.t 16),none⟩]) ( .ops [] [⟨some 17,.mov (.t 2),none⟩,⟨some 18,.bin .add (.t 17) (.c (.int .i64 8)),none⟩,⟨some 2,.mov (.t 18),none⟩])) ( .skip))) (
.seq (
.ops [] [⟨some 19,.mov (.t 2),none⟩,⟨some 20,.mov (.t 0),none⟩,⟨some 21,.conv .u8 (.t 20),none⟩,⟨some 22,.sidx (.c (.str (byts [0,1,2,2,3,3,3,3,4,4,4,4,4,4,4,4,5,5,5,5,5,5,5,5,5,5,5,5,5,5,5,5,6,6,6,6,6,6,6,6,6,6,6,6,6,6,6,6,6,6,6,6,6,6,6,6,6,6,6,6,6,6,6,6,7,7,7,7,7,7,7,7,7,7,7,7,7,7,7,7,7,7,7,7,7,7,7,7,7,7,7,7,7,7,7,7,7,7,7,7,7,7,7,7,7,7,7,7,7,7,7,7,7,7,7,7,7,7,7,7,7,7,7,7,7,7,7,7,8,8,8,8,8,8,8,8,8,8,8,8,8,8,8,8,8,8,8,8,8,8,8,8,8,8,8,8,8,8,8,8,8,8,8,8,8,8,8,8,8,8,8,8,8,8,8,8,8,8,8,8,8,8,8,8,8,8,8,8,8,8,8,8,8,8,8,8,8,8,8,8,8,8,8,8,8,8,8,8,8,8,8,8,8,8,8,8,8,8,8,8,8,8,8,8,8,8,8,8,8,8,8,8,8,8,8,8,8,8,8,8,8,8,8,8,8,8,8,8,8,8,8,8,8,8,8,8]))) (.t 21),none⟩,⟨some 23,.conv .i64 (.t 22),none⟩,⟨some 24,.bin .add (.t 19) (.t 23),none⟩,⟨some 2,.mov (.t 24),none⟩]) (
.ret)))))⟩
def rf105 : RF := ⟨41,[.tmp 4],.seq (
.ops [] [⟨some 4,.mov (.c (.bool false)),none⟩]) (
.seq (
.seq (
.ops [] [⟨some 7,.mov (.t 0),none⟩,⟨some 8,.call (.c (.fn 18 [] [])) [(.t 7)],none⟩,⟨some 9,.bin .neq (.t 8) (.c (.int .i64 0)),none⟩,⟨some 10,.mov (.t 9),none⟩,⟨some 11,.mov (.t 1),(some (10,false))⟩,⟨some 12,.len (.t 11),(some (10,false))⟩,⟨some 13,.bin .gtr (.t 12) (.c (.int .i64 4096)),(some (10,false))⟩,⟨some 14,.pick (.t 10) (.c (.bool true)) (.t 13),none⟩]) (
.cond (.t 14) ( .seq ( .ops [] [⟨some 4,.mov (.c (.bool false)),none⟩]) ( .ret)) ( .skip))) (
.seq (
.seq (
.ops [] [⟨some 15,.mov (.t 1),none⟩,⟨some 16,.len (.t 15),none⟩,⟨some 17,.mov (.c (.int .i64 0)),none⟩]) (
.block 0 ( .loop ( .seq ( .ops [] [⟨some 18,.bin .lss (.t 17) (.t 16),none⟩]) ( .seq ( .cond (.t 18) ( .skip) ( .exit 0)) ( .seq ( .block 1 ( .seq ( .ops [] [⟨some 19,.mov (.t 17),none⟩,⟨some 20,.ia 7 (.t 15) (.t 17),none⟩,⟨some 21,.load true 7 (.t 20),none⟩,⟨some 6,.alloc (some 7) (.agg [(.int .i64 0),(.int .i64 0),(.int .i64 0),(.int .i64 0),.nils,(.int .i64 0),.nils]) none,none⟩,⟨some 5,.mov (.t 19),none⟩,⟨none,.store 7 (.t 6) (.t 21),none⟩]) ( .seq ( .dops [] 0 [⟨some 22,.mov (.t 0),none⟩,⟨some 23,.load true 7 (.t 6),none⟩,⟨some 24,.call (.c (.fn 106 [] [])) [(.t 22),(.t 23)],none⟩,⟨some 25,.un .not (.t 24),none⟩,⟨some 26,.mov (.t 25),none⟩,⟨some 27,.mov (.t 5),(some (26,false))⟩,⟨some 28,.bin .gtr (.t 27) (.c (.int .i64 0)),(some (26,false))⟩,⟨some 29,.mov (.t 28),(some (26,false))⟩,⟨some 30,.mov (.t 1),(some (29,true))⟩,⟨some 31,.mov (.t 5),(some (29,true))⟩,⟨some 32,.bin .sub (.t 31) (.c (.int .i64 1)),(some (29,true))⟩,⟨some 33,.ia 7 (.t 30) (.t 32),(some (29,true))⟩,⟨some 34,.load true 7 (.t 33),(some (29,true))⟩,⟨some 35,.load true 7 (.t 6),(some (29,true))⟩,⟨some 36,.call (.c (.fn 108 [] [])) [(.t 34),(.t 35)],(some (29,true))⟩,⟨some 37,.bin .geq (.t 36) (.c (.int .i64 0)),(some (29,true))⟩,⟨some 38,.pick (.t 29) (.t 37) (.c (.bool false)),(some (26,false))⟩,⟨some 39,.pick (.t 26) (.c (.bool true)) (.t 38),none⟩] []) ( .cond (.t 39) ( .seq ( .ops [] [⟨some 4,.mov (.c (.bool false)),none⟩]) ( .ret)) ( .skip))))) ( .ops [] [⟨some 40,.bin .add (.t 17) (.c (.int .i64 1)),none⟩,⟨some 17,.mov (.t 40),none⟩]))))))) (
.seq (
.ops [] [⟨some 4,.mov (.c (.bool true)),none⟩]) (
.ret))))⟩
def rf106 : RF := ⟨31,[.tmp 4],.seq (
.ops [] [⟨some 3,.box (some 7) (.t 1) none,none⟩,⟨some 4,.mov (.c (.bool false)),none⟩]) (
.seq (
.ops [] [⟨some 5,.fa 0 (.t 3),none⟩,⟨some 6,.load false 1 (.t 5),none⟩,⟨some 7,.bin .geq (.t 6) (.c (.int .i64 1)),none⟩,⟨some 8,.mov (.t 7),none⟩,⟨some 9,.fa 1 (.t 3),(some (8,true))⟩,⟨some 10,.load false 1 (.t 9),(some (8,true))⟩,⟨some 11,.mov (.t 0),(some (8,true))⟩,⟨some 12,.len (.t 11),(some (8,true))⟩,⟨some 13,.bin .sub (.t 12) (.c (.int .i64 1)),(some (8,true))⟩,⟨some 14,.call (.c (.fn 68 [] [])) [(.t 10),(.c (.int .i64 0)),(.t 13)],(some (8,true))⟩,⟨some 15,.pick (.t 8) (.t 14) (.c (.bool false)),none⟩,⟨some 16,.mov (.t 15),none⟩,⟨some 17,.fa 2 (.t 3),(some (16,true))⟩,⟨some 18,.load false 1 (.t 17),(some (16,true))⟩,⟨some 19,.call (.c (.fn 68 [] [])) [(.t 18),(.c (.int .i64 0)),(.c (.int .i64 63))],(some (16,true))⟩,⟨some 20,.pick (.t 16) (.t 19) (.c (.bool false)),none⟩,⟨some 21,.mov (.t 20),none⟩,⟨some 22,.fa 3 (.t 3),(some (21,true))⟩,⟨some 23,.load false 1 (.t 22),(some (21,true))⟩,⟨some 24,.call (.c (.fn 68 [] [])) [(.t 23),(.c (.int .i64 1)),(.c (.int .i64 512))],(some (21,true))⟩,⟨some 25,.pick (.t 21) (.t 24) (.c (.bool false)),none⟩,⟨some 26,.mov (.t 25),none⟩,⟨some 27,.fa 4 (.t 3),(some (26,true))⟩,⟨some 28,.load true 3 (.t 27),(some (26,true))⟩,⟨some 29,.call (.c (.fn 41 [] [])) [(.t 28)],(some (26,true))⟩,⟨some 30,.pick (.t 26) (.t 29) (.c (.bool false)),none⟩,⟨some 4,.mov (.t 30),none⟩]) (
.ret))⟩
def rf107 : RF := ⟨49,[.tmp 6,.tmp 7],.seq (
.ops [] [⟨some 4,.box (some 7) (.t 1) none,none⟩,⟨some 6,.mov (.c (.int .i64 0)),none⟩,⟨some 7,.mov (.c (.bool false)),none⟩]) (
.seq (
.ops [] [⟨some 12,.mov (.t 0),none⟩,⟨some 13,.len (.t 12),none⟩,⟨some 8,.mov (.t 13),none⟩]) (
.seq (
.ops [] [⟨some 14,.mov (.t 8),none⟩,⟨some 9,.mov (.c (.int .i64 0)),none⟩,⟨some 10,.mov (.t 14),none⟩]) (
.seq (
.block 0 ( .loop ( .seq ( .seq ( .ops [] [⟨some 15,.mov (.t 9),none⟩,⟨some 16,.mov (.t 10),none⟩,⟨some 17,.bin .lss (.t 15) (.t 16),none⟩]) ( .cond (.t 17) ( .skip) ( .exit 0))) ( .block 1 ( .seq ( .ops [] [⟨some 18,.mov (.t 9),none⟩,⟨some 19,.mov (.t 10),none⟩,⟨some 20,.bin .add (.t 18) (.t 19),none⟩,⟨some 21,.conv .u64 (.t 20),none⟩,⟨some 22,.bin .shr (.t 21) (.c (.int .u64 1)),none⟩,⟨some 23,.conv .i64 (.t 22),none⟩,⟨some 11,.mov (.t 23),none⟩]) ( .seq ( .dops [] 0 [⟨some 24,.mov (.t 2),none⟩,⟨some 25,.mov (.t 0),none⟩,⟨some 26,.mov (.t 11),none⟩,⟨some 27,.ia 7 (.t 25) (.t 26),none⟩,⟨some 28,.load true 7 (.t 27),none⟩,⟨some 29,.load true 7 (.t 4),none⟩,⟨some 30,.call (.t 24) [(.t 28),(.t 29)],none⟩,⟨some 31,.bin .lss (.t 30) (.c (.int .i64 0)),none⟩] []) ( .cond (.t 31) ( .ops [] [⟨some 32,.mov (.t 11),none⟩,⟨some 33,.bin .add (.t 32) (.c (.int .i64 1)),none⟩,⟨some 9,.mov (.t 33),none⟩]) ( .ops [] [⟨some 34,.mov (.t 11),none⟩,⟨some 10,.mov (.t 34),none⟩])))))))) (
.seq (
.dops [] 0 [⟨some 35,.mov (.t 9),none⟩,⟨some 36,.mov (.t 9),none⟩,⟨some 37,.mov (.t 8),none⟩,⟨some 38,.bin .lss (.t 36) (.t 37),none⟩,⟨some 39,.mov (.t 38),none⟩,⟨some 40,.mov (.t 2),(some (39,true))⟩,⟨some 41,.mov (.t 0),(some (39,true))⟩,⟨some 42,.mov (.t 9),(some (39,true))⟩,⟨some 43,.ia 7 (.t 41) (.t 42),(some (39,true))⟩,⟨some 44,.load true 7 (.t 43),(some (39,true))⟩,⟨some 45,.load true 7 (.t 4),(some (39,true))⟩,⟨some 46,.call (.t 40) [(.t 44),(.t 45)],(some (39,true))⟩,⟨some 47,.bin .eql (.t 46) (.c (.int .i64 0)),(some (39,true))⟩,⟨some 48,.pick (.t 39) (.t 47) (.c (.bool false)),none⟩,⟨some 6,.mov (.t 35),none⟩,⟨some 7,.mov (.t 48),none⟩] []) (
.ret)))))⟩
def rf108 : RF := ⟨17,[.tmp 4],.seq (
.ops [] [⟨some 2,.box (some 7) (.t 0) none,none⟩,⟨some 3,.box (some 7) (.t 1) none,none⟩,⟨some 4,.mov (.c (.int .i64 0)),none⟩]) (
.seq (
.dops [] 0 [⟨some 5,.fa 0 (.t 2),none⟩,⟨some 6,.load false 1 (.t 5),none⟩,⟨some 7,.fa 0 (.t 3),none⟩,⟨some 8,.load false 1 (.t 7),none⟩,⟨some 9,.call (.c (.fn 43 [] [])) [(.t 6),(.t 8)],none⟩,⟨some 10,.fa 1 (.t 2),none⟩,⟨some 11,.load false 1 (.t 10),none⟩,⟨some 12,.fa 1 (.t 3),none⟩,⟨some 13,.load false 1 (.t 12),none⟩,⟨some 14,.call (.c (.fn 43 [] [])) [(.t 11),(.t 13)],none⟩,⟨some 15,.bsl none none (.int .i64 0) 2 [(0,(.t 9)),(1,(.t 14))],none⟩,⟨some 16,.call (.c (.fn 42 [] [])) [(.t 15)],none⟩,⟨some 4,.mov (.t 16),none⟩] []) (
.ret))⟩
def rf109 : RF := ⟨14,[.cell 2 true 15],.seq (
.ops [] [⟨some 2,.alloc (some 15) (.agg [(.int .i64 0),(.int .i64 0),(.int .i64 0),(.int .i64 0),.nils,(.int .i64 0),.nils,(.int .i64 0),.nils,(.int .i64 0),.nils,.nils,.nils,.nils,.nils]) none,none⟩]) (
.seq (
.dops [] 0 [⟨some 3,.mov (.t 0),none⟩,⟨some 4,.nilchk (.t 3),none⟩,⟨some 5,.fa 0 (.t 4),none⟩,⟨some 6,.load false 1 (.t 5),none⟩,⟨some 7,.mov (.t 0),none⟩,⟨some 8,.nilchk (.t 7),none⟩,⟨some 9,.fa 2 (.t 8),none⟩,⟨some 10,.fa 1 (.t 9),none⟩,⟨some 11,.load false 1 (.t 10),none⟩,⟨some 12,.ia 15 (.t 6) (.t 11),none⟩,⟨some 13,.load true 15 (.t 12),none⟩,⟨none,.store 15 (.t 2) (.t 13),none⟩] []) (
.ret))⟩
def rf110 : RF := ⟨15,[.tmp 4],.seq (
.ops [] [⟨some 2,.box (some 3) (.t 0) none,none⟩,⟨some 3,.box (some 3) (.t 1) none,none⟩,⟨some 4,.mov (.c (.bool false)),none⟩]) (
.seq (
.ops [] [⟨some 5,.fa 2 (.t 2),none⟩,⟨some 6,.load false 1 (.t 5),none⟩,⟨some 7,.load true 3 (.t 3),none⟩,⟨some 8,.call (.c (.fn 177 [] [])) [(.t 6),(.t 7)],none⟩,⟨some 9,.mov (.t 8),none⟩,⟨some 10,.fa 0 (.t 2),(some (9,false))⟩,⟨some 11,.load false 1 (.t 10),(some (9,false))⟩,⟨some 12,.mkfn 179 [] [(.t 3),(.t 2)],(some (9,false))⟩,⟨some 13,.call (.c (.fn 178 [] [])) [(.t 11),(.t 12)],(some (9,false))⟩,⟨some 14,.pick (.t 9) (.c (.bool true)) (.t 13),none⟩,⟨some 4,.mov (.t 14),none⟩]) (
.ret))⟩
def rf111 : RF := ⟨8,[.tmp 6],.seq (
.ops [] [⟨some 3,.box none (.t 0) none,none⟩,⟨some 4,.box none (.t 1) none,none⟩,⟨some 5,.box none (.t 2) none,none⟩,⟨some 6,.mov (.c .nilf),none⟩]) (
.seq (
.ops [] [⟨some 7,.mkfn 181 [] [(.t 4),(.t 3),(.t 5)],none⟩,⟨some 6,.mov (.t 7),none⟩]) (
.ret))⟩
def rf112 : RF := ⟨16,[.cell 4 true 2],.seq (
.ops [] [⟨some 2,.box (some 15) (.t 0) none,none⟩,⟨some 3,.box (some 2) (.t 1) none,none⟩,⟨some 4,.alloc (some 2) (.agg [(.int .i64 0),(.int .i64 0)]) none,none⟩]) (
.seq (
.ops [] [⟨some 5,.fa 0 (.t 3),none⟩,⟨some 6,.load false 1 (.t 5),none⟩,⟨some 7,.fa 1 (.t 2),none⟩,⟨some 8,.load false 1 (.t 7),none⟩,⟨some 9,.bin .sub (.t 6) (.t 8),none⟩,⟨some 10,.fa 1 (.t 3),none⟩,⟨some 11,.load false 1 (.t 10),none⟩,⟨some 12,.fa 2 (.t 2),none⟩,⟨some 13,.load false 1 (.t 12),none⟩,⟨some 14,.bin .add (.t 11) (.t 13),none⟩,⟨some 15,.build [(.int .i64 0),(.int .i64 0)] [(0,1,(.t 9)),(1,1,(.t 14))],none⟩,⟨none,.store 2 (.t 4) (.t 15),none⟩]) (
.ret))⟩
def rf113 : RF := ⟨29,[.tmp 4,.tmp 5],.seq (
.ops [] [⟨some 2,.box (some 10) (.t 0) none,none⟩,⟨some 3,.box (some 2) (.t 1) none,none⟩,⟨some 4,.mov (.c (.bool false)),none⟩,⟨some 5,.mov (.c (.int .i64 0)),none⟩]) (
.seq (
.seq (
.ops [] [⟨some 6,.load true 10 (.t 2),none⟩,⟨some 7,.call (.c (.fn 38 [] [])) [(.t 6)],none⟩,⟨some 8,.bin .neq (.t 7) (.c (.int .i64 0)),none⟩,⟨some 9,.mov (.t 8),none⟩,⟨some 10,.fa 0 (.t 3),(some (9,false))⟩,⟨some 11,.load false 1 (.t 10),(some (9,false))⟩,⟨some 12,.bin .lss (.t 11) (.c (.int .i64 (-2251799813685248))),(some (9,false))⟩,⟨some 13,.pick (.t 9) (.c (.bool true)) (.t 12),none⟩,⟨some 14,.mov (.t 13),none⟩,⟨some 15,.fa 0 (.t 3),(some (14,false))⟩,⟨some 16,.load false 1 (.t 15),(some (14,false))⟩,⟨some 17,.fa 1 (.t 3),(some (14,false))⟩,⟨some 18,.load false 1 (.t 17),(some (14,false))⟩,⟨some 19,.bin .geq (.t 16) (.t 18),(some (14,false))⟩,⟨some 20,.pick (.t 14) (.c (.bool true)) (.t 19),none⟩,⟨some 21,.mov (.t 20),none⟩,⟨some 22,.fa 1 (.t 3),(some (21,false))⟩,⟨some 23,.load false 1 (.t 22),(some (21,false))⟩,⟨some 24,.bin .gtr (.t 23) (.c (.int .i64 2251799813685248)),(some (21,false))⟩,⟨some 25,.pick (.t 21) (.c (.bool true)) (.t 24),none⟩]) (
.cond (.t 25) ( .seq ( .ops [] [⟨some 4,.mov (.c (.bool false)),none⟩,⟨some 5,.mov (.c (.int .i64 1)),none⟩]) ( .ret)) ( .skip))) (
.seq (
.ops [] [⟨some 26,.load true 10 (.t 2),none⟩,⟨some 27,.load true 2 (.t 3),none⟩,⟨some 28,.call (.c (.fn 77 [] [])) [(.t 26),(.t 27)],none⟩,⟨some 4,.mov (.t 28),none⟩,⟨some 5,.mov (.c (.int .i64 0)),none⟩]) (
.ret)))⟩
def rf114 : RF := ⟨25,[.tmp 2,.tmp 3],.seq (
.ops [] [⟨some 2,.mov (.c (.int .i64 0)),none⟩,⟨some 3,.mov (.c (.bool false)),none⟩]) (
.seq (
.seq (
.ops [] [⟨some 6,.mov (.t 0),none⟩,⟨some 7,.call (.c (.fn 109 [] [])) [(.t 6)],none⟩,⟨some 8,.fld false 13 1 (.t 7),none⟩,⟨some 9,.len (.t 8),none⟩,⟨some 10,.mov (.c (.int .i64 0)),none⟩]) (
.block 0 ( .loop ( .seq ( .ops [] [⟨some 11,.bin .lss (.t 10) (.t 9),none⟩]) ( .seq ( .cond (.t 11) ( .skip) ( .exit 0)) ( .seq ( .block 1 ( .seq ( .ops [] [⟨some 12,.ia 2 (.t 8) (.t 10),none⟩,⟨some 13,.load true 2 (.t 12),none⟩,⟨some 5,.alloc (some 2) (.agg [(.int .i64 0),(.int .i64 0)]) none,none⟩,⟨none,.store 2 (.t 5) (.t 13),none⟩]) ( .seq ( .dops [] 0 [⟨some 14,.fa 0 (.t 5),none⟩,⟨some 15,.load false 1 (.t 14),none⟩,⟨some 16,.mov (.t 0),none⟩,⟨some 17,.nilchk (.t 16),none⟩,⟨some 18,.fa 2 (.t 17),none⟩,⟨some 19,.fa 2 (.t 18),none⟩,⟨some 20,.load false 1 (.t 19),none⟩,⟨some 21,.bin .eql (.t 15) (.t 20),none⟩] []) ( .cond (.t 21) ( .seq ( .ops [] [⟨some 22,.fa 1 (.t 5),none⟩,⟨some 23,.load false 1 (.t 22),none⟩,⟨some 2,.mov (.t 23),none⟩,⟨some 3,.mov (.c (.bool true)),none⟩]) ( .ret)) ( .skip))))) ( .ops [] [⟨some 24,.bin .add (.t 10) (.c (.int .i64 1)),none⟩,⟨some 10,.mov (.t 24),none⟩]))))))) (
.seq (
.ops [] [⟨some 2,.mov (.c (.int .i64 0)),none⟩,⟨some 3,.mov (.c (.bool false)),none⟩]) (
.ret)))⟩
def rf116 : RF := ⟨36,[.tmp 4],.seq (
.ops [] [⟨some 4,.mov (.c (.int .i64 0)),none⟩]) (
.seq (
.ops [] [⟨some 5,.mov (.c (.int .i64 0)),none⟩]) (
.seq (
.seq (
.dops [] 0 [⟨some 8,.mov (.t 0),none⟩,⟨some 9,.nilchk (.t 8),none⟩,⟨some 10,.fa 1 (.t 9),none⟩,⟨some 11,.load false 1 (.t 10),none⟩,⟨some 12,.mov (.t 0),none⟩,⟨some 13,.nilchk (.t 12),none⟩,⟨some 14,.fa 2 (.t 13),none⟩,⟨some 15,.fa 1 (.t 14),none⟩,⟨some 16,.load false 1 (.t 15),none⟩,⟨some 17,.mov (.t 0),none⟩,⟨some 18,.nilchk (.t 17),none⟩,⟨some 19,.fa 2 (.t 18),none⟩,⟨some 20,.fa 2 (.t 19),none⟩,⟨some 21,.load false 1 (.t 20),none⟩,⟨some 24,.mov (.c (.int .i64 0)),none⟩,⟨some 22,.call (.c (.fn 163 [] [])) [(.t 11),(.t 16),(.t 21)],none⟩,⟨some 23,.len (.t 22),none⟩] []) (
.block 0 ( .loop ( .seq ( .ops [] [⟨some 25,.bin .lss (.t 24) (.t 23),none⟩]) ( .seq ( .cond (.t 25) ( .skip) ( .exit 0)) ( .seq ( .block 1 ( .seq ( .ops [] [⟨some 26,.ia 3 (.t 22) (.t 24),none⟩,⟨some 27,.load true 3 (.t 26),none⟩,⟨some 7,.alloc (some 3) (.agg [.nils,(.int .i64 0),.nils]) none,none⟩,⟨none,.store 3 (.t 7) (.t 27),none⟩]) ( .ops [] [⟨some 28,.mov (.t 5),none⟩,⟨some 29,.load true 3 (.t 7),none⟩,⟨some 30,.mov (.t 1),none⟩,⟨some 31,.call (.c (.fn 117 [] [])) [(.t 29),(.t 30)],none⟩,⟨some 32,.call (.c (.fn 182 [] [])) [(.t 31)],none⟩,⟨some 33,.bin .add (.t 28) (.t 32),none⟩,⟨some 5,.mov (.t 33),none⟩]))) ( .ops [] [⟨some 34,.bin .add (.t 24) (.c (.int .i64 1)),none⟩,⟨some 24,.mov (.t 34),none⟩]))))))) (
.seq (
.ops [] [⟨some 35,.mov (.t 5),none⟩,⟨some 4,.mov (.t 35),none⟩]) (
.ret))))⟩ end Go.S32
