/- Functions of the program as abstract code: that they are such is proved in the texts C. -/
import Derived.Test.YtcocemppeccldaaGreatDoorAiF
set_option linter.unusedVariables false
set_option linter.unusedSimpArgs false
set_option maxRecDepth 100000
namespace Go.S32
open Go Go.Ai def rf247 : RF := ⟨78,[],.seq (
.seq (
.ops [] [⟨some 9,.load false 1 (.t 1),none⟩,⟨some 10,.nilchk (.t 9),none⟩,⟨some 11,.fa 0 (.t 10),none⟩,⟨some 12,.fa 5 (.t 11),none⟩,⟨some 13,.load false 1 (.t 12),none⟩,⟨some 14,.len (.t 13),none⟩,⟨some 15,.mov (.c (.int .i64 0)),none⟩]) (
.block 0 ( .loop ( .seq ( .ops [] [⟨some 16,.bin .lss (.t 15) (.t 14),none⟩]) ( .seq ( .cond (.t 16) ( .skip) ( .exit 0)) ( .seq ( .block 1 ( .seq ( .ops [] [⟨some 17,.ia 2 (.t 13) (.t 15),none⟩,⟨some 18,.load true 2 (.t 17),none⟩,⟨some 5,.alloc (some 2) (.agg [(.int .i64 0),(.int .i64 0)]) none,none⟩,⟨none,.store 2 (.t 5) (.t 18),none⟩]) ( .seq ( .ops [] [⟨some 19,.fa 0 (.t 5),none⟩,⟨some 20,.load false 1 (.t 19),none⟩,⟨some 21,.load false 1 (.t 2),none⟩,⟨some 22,.bin .geq (.t 20) (.t 21),none⟩,⟨some 23,.mov (.t 22),none⟩,⟨some 24,.mov (.t 0),(some (23,true))⟩,⟨some 25,.load true 2 (.t 5),(some (23,true))⟩,⟨some 26,.call (.t 24) [(.t 25)],(some (23,true))⟩,⟨some 27,.un .not (.t 26),(some (23,true))⟩,⟨some 28,.pick (.t 23) (.t 27) (.c (.bool false)),none⟩]) ( .cond (.t 28) ( .ret) ( .skip))))) ( .ops [] [⟨some 29,.bin .add (.t 15) (.c (.int .i64 1)),none⟩,⟨some 15,.mov (.t 29),none⟩]))))))) (
.seq (
.seq (
.ops [] [⟨some 30,.load false 1 (.t 1),none⟩,⟨some 31,.nilchk (.t 30),none⟩,⟨some 32,.fa 8 (.t 31),none⟩,⟨some 33,.load false 1 (.t 32),none⟩,⟨some 34,.len (.t 33),none⟩,⟨some 35,.bin .eql (.t 34) (.c (.int .i64 0)),none⟩]) (
.cond (.t 35) ( .ret) ( .skip))) (
.seq (
.dops [] 0 [⟨some 36,.load false 1 (.t 2),none⟩,⟨some 37,.load false 1 (.t 1),none⟩,⟨some 38,.nilchk (.t 37),none⟩,⟨some 39,.fa 0 (.t 38),none⟩,⟨some 40,.fa 6 (.t 39),none⟩,⟨some 41,.load false 1 (.t 40),none⟩,⟨some 42,.mx [(.t 36),(.t 41)],none⟩,⟨none,.store 1 (.t 2) (.t 42),none⟩] []) (
.seq (
.dops [] 0 [⟨some 43,.load false 1 (.t 1),none⟩,⟨some 44,.load false 1 (.t 2),none⟩,⟨some 45,.call (.c (.fn 248 [] [])) [(.t 43),(.t 44)],none⟩,⟨some 46,.load false 1 (.t 1),none⟩,⟨some 47,.call (.c (.fn 246 [] [])) [(.t 46)],none⟩,⟨some 48,.bin .mul (.t 45) (.t 47),none⟩,⟨some 6,.mov (.t 48),none⟩] []) (
.block 2 ( .loop ( .seq ( .block 3 ( .seq ( .ops [] [⟨some 53,.load false 1 (.t 1),none⟩,⟨some 54,.nilchk (.t 53),none⟩,⟨some 55,.fa 8 (.t 54),none⟩,⟨some 56,.load false 1 (.t 55),none⟩,⟨some 57,.len (.t 56),none⟩,⟨some 58,.mov (.c (.int .i64 0)),none⟩]) ( .block 4 ( .loop ( .seq ( .ops [] [⟨some 59,.bin .lss (.t 58) (.t 57),none⟩]) ( .seq ( .cond (.t 59) ( .skip) ( .exit 4)) ( .seq ( .block 5 ( .seq ( .ops [] [⟨some 60,.ia 2 (.t 56) (.t 58),none⟩,⟨some 61,.load true 2 (.t 60),none⟩,⟨some 8,.alloc (some 2) (.agg [(.int .i64 0),(.int .i64 0)]) none,none⟩,⟨none,.store 2 (.t 8) (.t 61),none⟩]) ( .seq ( .ops [] [⟨some 62,.fa 0 (.t 8),none⟩,⟨some 63,.load false 1 (.t 62),none⟩,⟨some 64,.mov (.t 6),none⟩,⟨some 65,.bin .add (.t 63) (.t 64),none⟩,⟨some 66,.fa 0 (.t 8),none⟩,⟨none,.store 1 (.t 66) (.t 65),none⟩]) ( .seq ( .ops [] [⟨some 67,.fa 0 (.t 8),none⟩,⟨some 68,.load false 1 (.t 67),none⟩,⟨some 69,.load false 1 (.t 2),none⟩,⟨some 70,.bin .geq (.t 68) (.t 69),none⟩,⟨some 71,.mov (.t 70),none⟩,⟨some 72,.mov (.t 0),(some (71,true))⟩,⟨some 73,.load true 2 (.t 8),(some (71,true))⟩,⟨some 74,.call (.t 72) [(.t 73)],(some (71,true))⟩,⟨some 75,.un .not (.t 74),(some (71,true))⟩,⟨some 76,.pick (.t 71) (.t 75) (.c (.bool false)),none⟩]) ( .cond (.t 76) ( .ret) ( .skip)))))) ( .ops [] [⟨some 77,.bin .add (.t 58) (.c (.int .i64 1)),none⟩,⟨some 58,.mov (.t 77),none⟩])))))))) ( .ops [] [⟨some 49,.mov (.t 6),none⟩,⟨some 50,.load false 1 (.t 1),none⟩,⟨some 51,.call (.c (.fn 246 [] [])) [(.t 50)],none⟩,⟨some 52,.bin .add (.t 49) (.t 51),none⟩,⟨some 6,.mov (.t 52),none⟩])))))))⟩
def rf249 : RF := ⟨15,[.tmp 4],.seq (
.ops [] [⟨some 4,.mov (.c (.int .i64 0)),none⟩]) (
.seq (
.ops [] [⟨some 6,.mov (.t 0),none⟩,⟨some 7,.mov (.t 1),none⟩,⟨some 8,.bin .rem (.t 6) (.t 7),none⟩,⟨some 5,.mov (.t 8),none⟩]) (
.seq (
.seq (
.ops [] [⟨some 9,.mov (.t 5),none⟩,⟨some 10,.bin .lss (.t 9) (.c (.int .i64 0)),none⟩]) (
.cond (.t 10) ( .ops [] [⟨some 11,.mov (.t 5),none⟩,⟨some 12,.mov (.t 1),none⟩,⟨some 13,.bin .add (.t 11) (.t 12),none⟩,⟨some 5,.mov (.t 13),none⟩]) ( .skip))) (
.seq (
.ops [] [⟨some 14,.mov (.t 5),none⟩,⟨some 4,.mov (.t 14),none⟩]) (
.ret))))⟩
def rf250 : RF := ⟨33,[.cell 2 false 1],.seq (
.ops [] [⟨some 2,.alloc none (.int .i64 0) none,none⟩]) (
.seq (
.seq (
.ops [] [⟨some 5,.mov (.t 0),none⟩,⟨some 6,.mov (.t 0),none⟩,⟨some 7,.nilchk (.t 6),none⟩,⟨some 8,.fa 0 (.t 7),none⟩,⟨some 9,.fa 6 (.t 8),none⟩,⟨some 10,.load false 1 (.t 9),none⟩,⟨some 11,.call (.c (.fn 193 [] [])) [(.t 5),(.t 10)],none⟩]) (
.block 0 ( .rangeF (.t 11) [12] ( .ops [] [⟨some 3,.alloc (some 2) (.agg [(.int .i64 0),(.int .i64 0)]) none,none⟩,⟨none,.store 2 (.t 3) (.t 12),none⟩]) ( .block 1 ( .seq ( .ops [] [⟨some 13,.fa 0 (.t 3),none⟩,⟨some 14,.load false 1 (.t 13),none⟩,⟨none,.store 1 (.t 2) (.t 14),none⟩]) ( .ret)))))) (
.seq (
.seq (
.ops [] [⟨some 15,.mov (.t 0),none⟩,⟨some 16,.nilchk (.t 15),none⟩,⟨some 17,.fa 0 (.t 16),none⟩,⟨some 18,.fa 5 (.t 17),none⟩,⟨some 19,.load false 1 (.t 18),none⟩,⟨some 20,.len (.t 19),none⟩,⟨some 4,.mov (.t 20),none⟩]) (
.seq (
.ops [] [⟨some 21,.mov (.t 4),none⟩,⟨some 22,.bin .gtr (.t 21) (.c (.int .i64 0)),none⟩]) (
.cond (.t 22) ( .seq ( .ops [] [⟨some 23,.mov (.t 0),none⟩,⟨some 24,.nilchk (.t 23),none⟩,⟨some 25,.fa 0 (.t 24),none⟩,⟨some 26,.fa 5 (.t 25),none⟩,⟨some 27,.load false 1 (.t 26),none⟩,⟨some 28,.mov (.t 4),none⟩,⟨some 29,.bin .sub (.t 28) (.c (.int .i64 1)),none⟩,⟨some 30,.ia 2 (.t 27) (.t 29),none⟩,⟨some 31,.fa 0 (.t 30),none⟩,⟨some 32,.load false 1 (.t 31),none⟩,⟨none,.store 1 (.t 2) (.t 32),none⟩]) ( .ret)) ( .skip)))) (
.seq (
.ops [] [⟨none,.store 1 (.t 2) (.c (.int .i64 0)),none⟩]) (
.ret))))⟩
def rf251 : RF := ⟨6,[.tmp 4],.seq (
.ops [] [⟨some 2,.box none (.t 0) none,none⟩,⟨some 3,.box none (.t 1) none,none⟩,⟨some 4,.mov (.c .nilf),none⟩]) (
.seq (
.ops [] [⟨some 5,.mkfn 287 [] [(.t 2),(.t 3)],none⟩,⟨some 4,.mov (.t 5),none⟩]) (
.ret))⟩
def rf252 : RF := ⟨14,[],.seq (
.ops [] [⟨some 5,.mov (.t 0),none⟩,⟨some 6,.len (.t 5),none⟩,⟨some 4,.mov (.t 6),none⟩]) (
.ops [] [⟨some 7,.mov (.t 0),none⟩,⟨some 8,.mov (.t 4),none⟩,⟨some 9,.mov (.t 4),none⟩,⟨some 10,.conv .u64 (.t 9),none⟩,⟨some 11,.call (.c (.fn 56 [] [])) [(.t 10)],none⟩,⟨some 12,.mov (.t 1),none⟩,⟨some 13,.call (.c (.fn 288 [] [])) [(.t 7),(.c (.int .i64 0)),(.t 8),(.t 11),(.t 12)],none⟩])⟩
def rf254 : RF := ⟨27,[.tmp 4],.seq (
.ops [] [⟨some 4,.mov (.c .nils),none⟩]) (
.seq (
.seq (
.ops [] [⟨some 5,.mov (.t 1),none⟩,⟨some 6,.bin .lss (.t 5) (.c (.int .i64 0)),none⟩]) (
.cond (.t 6) ( .ops [] [⟨some 7,.bad,none⟩,⟨none,.bad,none⟩]) ( .skip))) (
.seq (
.seq (
.ops [] [⟨some 8,.mov (.t 1),none⟩,⟨some 9,.mov (.t 0),none⟩,⟨some 10,.cap (.t 9),none⟩,⟨some 11,.mov (.t 0),none⟩,⟨some 12,.len (.t 11),none⟩,⟨some 13,.bin .sub (.t 10) (.t 12),none⟩,⟨some 14,.bin .sub (.t 8) (.t 13),none⟩,⟨some 1,.mov (.t 14),none⟩]) (
.seq (
.ops [] [⟨some 15,.mov (.t 1),none⟩,⟨some 16,.bin .gtr (.t 15) (.c (.int .i64 0)),none⟩]) (
.cond (.t 16) ( .ops [] [⟨some 17,.mov (.t 0),none⟩,⟨some 18,.mov (.t 0),none⟩,⟨some 19,.cap (.t 18),none⟩,⟨some 20,.slice 1 (.t 17) none (some (.t 19)) none,none⟩,⟨some 21,.mov (.t 1),none⟩,⟨some 22,.appz none 24 .nils (.t 20) (.t 21),none⟩,⟨some 23,.mov (.t 0),none⟩,⟨some 24,.len (.t 23),none⟩,⟨some 25,.slice 1 (.t 22) none (some (.t 24)) none,none⟩,⟨some 0,.mov (.t 25),none⟩]) ( .skip)))) (
.seq (
.ops [] [⟨some 26,.mov (.t 0),none⟩,⟨some 4,.mov (.t 26),none⟩]) (
.ret))))⟩
def rf255 : RF := ⟨118,[.cell 2 true 4],.seq (
.ops [] [⟨some 1,.box (some 4) (.t 0) none,none⟩,⟨some 2,.alloc (some 4) (.agg [.nils,(.int .i64 0),(.int .i64 0),.nils]) none,none⟩]) (
.scope ( .seq ( .ops [] [⟨some 16,.fa 0 (.t 1),none⟩,⟨some 17,.load false 1 (.t 16),none⟩,⟨some 3,.alloc none .nils none,none⟩,⟨none,.store 1 (.t 3) (.t 17),none⟩]) ( .seq ( .seq ( .ops [] [⟨some 18,.fa 3 (.t 1),none⟩,⟨some 19,.load false 1 (.t 18),none⟩,⟨some 20,.len (.t 19),none⟩,⟨some 21,.bin .eql (.t 20) (.c (.int .i64 0)),none⟩]) ( .cond (.t 21) ( .seq ( .ops [] [⟨some 22,.load false 1 (.t 3),none⟩,⟨some 23,.call (.c (.fn 289 [] [])) [(.t 22)],none⟩,⟨some 24,.build [.nils,(.int .i64 0),(.int .i64 0),.nils] [(0,1,(.t 23)),(2,1,(.c (.int .i64 1)))],none⟩,⟨some 4,.alloc (some 4) (.agg [.nils,(.int .i64 0),(.int .i64 0),.nils]) none,none⟩,⟨none,.store 4 (.t 4) (.t 24),none⟩]) ( .seq ( .seq ( .ops [] [⟨some 25,.load false 1 (.t 3),none⟩,⟨some 26,.len (.t 25),none⟩,⟨some 27,.bin .gtr (.t 26) (.c (.int .i64 0)),none⟩]) ( .cond (.t 27) ( .ops [] [⟨some 28,.load false 1 (.t 3),none⟩,⟨some 29,.load false 1 (.t 3),none⟩,⟨some 30,.len (.t 29),none⟩,⟨some 31,.bin .sub (.t 30) (.c (.int .i64 1)),none⟩,⟨some 32,.ia 1 (.t 28) (.t 31),none⟩,⟨some 33,.load false 1 (.t 32),none⟩,⟨some 34,.bin .add (.t 33) (.c (.int .i64 1)),none⟩,⟨some 35,.fa 1 (.t 4),none⟩,⟨none,.store 1 (.t 35) (.t 34),none⟩]) ( .skip))) ( .seq ( .ops [] [⟨some 36,.load true 4 (.t 4),none⟩,⟨none,.store 4 (.t 2) (.t 36),none⟩]) ( .ret)))) ( .skip))) ( .seq ( .ops [] [⟨some 38,.fa 2 (.t 1),none⟩,⟨some 39,.load false 1 (.t 38),none⟩,⟨some 40,.fa 3 (.t 1),none⟩,⟨some 41,.load false 1 (.t 40),none⟩,⟨some 42,.call (.c (.fn 290 [] [])) [(.t 39),(.t 41)],none⟩,⟨some 37,.mov (.t 42),none⟩,⟨some 43,.ext (.t 37) 0,none⟩,⟨some 44,.ext (.t 37) 1,none⟩,⟨some 5,.mov (.t 43),none⟩,⟨some 6,.mov (.t 44),none⟩]) ( .seq ( .ops [] [⟨some 7,.alloc none (.int .i64 0) none,none⟩,⟨none,.store 1 (.t 7) (.c (.int .i64 0)),none⟩]) ( .seq ( .label 0) ( .seq ( .seq ( .ops [] [⟨some 45,.fa 1 (.t 1),none⟩,⟨some 46,.load false 1 (.t 45),none⟩,⟨some 47,.mov (.t 5),none⟩,⟨some 48,.bin .sub (.t 46) (.t 47),none⟩,⟨some 8,.alloc none (.int .i64 0) none,none⟩,⟨none,.store 1 (.t 8) (.t 48),none⟩]) ( .block 0 ( .loop ( .seq ( .block 1 ( .seq ( .ops [] [⟨some 52,.mov (.t 6),none⟩,⟨some 53,.call (.c (.fn 291 [] [])) [(.t 52)],none⟩]) ( .block 2 ( .rangeF (.t 53) [54,55] ( .ops [] [⟨some 10,.mov (.t 55),none⟩]) ( .block 3 ( .seq ( .ops [] [⟨some 11,.mov (.c (.int .i64 (-1))),none⟩]) ( .seq ( .seq ( .ops [] [⟨some 56,.load false 1 (.t 3),none⟩,⟨some 57,.len (.t 56),none⟩,⟨some 58,.bin .gtr (.t 57) (.c (.int .i64 0)),none⟩]) ( .cond (.t 58) ( .ops [] [⟨some 59,.load false 1 (.t 3),none⟩,⟨some 60,.load false 1 (.t 3),none⟩,⟨some 61,.len (.t 60),none⟩,⟨some 62,.bin .sub (.t 61) (.c (.int .i64 1)),none⟩,⟨some 63,.ia 1 (.t 59) (.t 62),none⟩,⟨some 64,.load false 1 (.t 63),none⟩,⟨some 11,.mov (.t 64),none⟩]) ( .skip))) ( .seq ( .seq ( .ops [] [⟨some 65,.load false 1 (.t 8),none⟩,⟨some 66,.mov (.t 10),none⟩,⟨some 67,.bin .add (.t 65) (.t 66),none⟩,⟨some 12,.mov (.t 67),none⟩]) ( .block 4 ( .seq ( .ops [] [⟨some 69,.mov (.t 12),none⟩,⟨some 70,.bin .lss (.t 69) (.c (.int .i64 0)),none⟩,⟨some 71,.mov (.t 70),none⟩,⟨some 72,.mov (.t 11),(some (71,true))⟩,⟨some 73,.bin .lss (.t 72) (.c (.int .i64 0)),(some (71,true))⟩,⟨some 74,.pick (.t 71) (.t 73) (.c (.bool false)),none⟩,⟨some 68,.mov (.t 74),none⟩]) ( .cond (.t 68) ( .exit 0) ( .seq ( .ops [] [⟨some 76,.mov (.t 12),none⟩,⟨some 77,.mov (.t 11),none⟩,⟨some 78,.bin .neq (.t 76) (.t 77),none⟩,⟨some 75,.mov (.t 78),none⟩]) ( .cond (.t 75) ( .seq ( .ops [] [⟨some 79,.mov (.t 12),none⟩,⟨some 80,.mov (.t 11),none⟩,⟨some 81,.mx [(.t 79),(.t 80)],none⟩,⟨some 82,.bin .add (.t 81) (.c (.int .i64 1)),none⟩,⟨none,.store 1 (.t 7) (.t 82),none⟩]) ( .exit 0)) ( .skip))))))) ( .ops [] [⟨some 83,.load false 1 (.t 3),none⟩,⟨some 84,.load false 1 (.t 3),none⟩,⟨some 85,.len (.t 84),none⟩,⟨some 86,.bin .sub (.t 85) (.c (.int .i64 1)),none⟩,⟨some 87,.slice 1 (.t 83) none (some (.t 86)) none,none⟩,⟨none,.store 1 (.t 3) (.t 87),none⟩]))))))))) ( .seq ( .seq ( .ops [] [⟨some 88,.load false 1 (.t 8),none⟩]) ( .ops [] [⟨some 8,.alloc none (.int .i64 0) none,none⟩,⟨none,.store 1 (.t 8) (.t 88),none⟩])) ( .ops [] [⟨some 49,.load false 1 (.t 8),none⟩,⟨some 50,.mov (.t 5),none⟩,⟨some 51,.bin .sub (.t 49) (.t 50),none⟩,⟨none,.store 1 (.t 8) (.t 51),none⟩])))))) ( .seq ( .dops [] 1 [⟨some 89,.load false 1 (.t 3),none⟩,⟨some 91,.load false 1 (.t 7),none⟩,⟨some 92,.mov (.t 5),none⟩,⟨some 90,.call (.c (.fn 289 [] [])) [(.t 89)],none⟩,⟨some 93,.build [.nils,(.int .i64 0),(.int .i64 0),.nils] [(0,1,(.t 90)),(1,1,(.t 91)),(2,1,(.t 92))],none⟩,⟨some 13,.alloc (some 4) (.agg [.nils,(.int .i64 0),(.int .i64 0),.nils]) (some 0),none⟩,⟨none,.store 4 (.t 13) (.t 93),none⟩] []) ( .seq ( .seq ( .ops [] [⟨some 94,.mov (.t 6),none⟩,⟨some 95,.len (.t 94),none⟩,⟨some 96,.mov (.c (.int .i64 0)),none⟩]) ( .block 5 ( .loop ( .seq ( .ops [] [⟨some 97,.bin .lss (.t 96) (.t 95),none⟩]) ( .seq ( .cond (.t 97) ( .skip) ( .exit 5)) ( .seq ( .block 6 ( .seq ( .ops [] [⟨some 98,.ia 1 (.t 94) (.t 96),none⟩,⟨some 99,.load false 1 (.t 98),none⟩,⟨some 15,.mov (.t 99),none⟩]) ( .dops [] 0 [⟨some 100,.fa 3 (.t 13),none⟩,⟨some 101,.load false 1 (.t 100),none⟩,⟨some 102,.fa 1 (.t 1),none⟩,⟨some 103,.load false 1 (.t 102),none⟩,⟨some 104,.mov (.t 15),none⟩,⟨some 105,.bin .add (.t 103) (.t 104),none⟩,⟨some 106,.load false 1 (.t 7),none⟩,⟨some 107,.bin .sub (.t 105) (.t 106),none⟩,⟨some 108,.mov (.t 5),none⟩,⟨some 109,.bin .rem (.t 107) (.t 108),none⟩,⟨some 110,.bsl none none (.int .i64 0) 1 [(0,(.t 109))],none⟩,⟨some 111,.app none 8 (.t 101) (.t 110),none⟩,⟨some 112,.fa 3 (.t 13),none⟩,⟨none,.store 1 (.t 112) (.t 111),none⟩] []))) ( .ops [] [⟨some 113,.bin .add (.t 96) (.c (.int .i64 1)),none⟩,⟨some 96,.mov (.t 113),none⟩]))))))) ( .seq ( .ops [] [⟨some 114,.fa 3 (.t 13),none⟩,⟨some 115,.load false 1 (.t 114),none⟩,⟨some 116,.call (.c (.fn 26 [] [])) [(.t 115)],none⟩]) ( .seq ( .ops [] [⟨some 117,.load true 4 (.t 13),none⟩,⟨none,.store 4 (.t 2) (.t 117),none⟩]) ( .ret))))))))))))⟩
def rf256 : RF := ⟨11,[.tmp 2],.seq (
.ops [] [⟨some 1,.box (some 4) (.t 0) none,none⟩,⟨some 2,.mov (.c (.bool false)),none⟩]) (
.seq (
.ops [] [⟨some 3,.load true 4 (.t 1),none⟩,⟨some 4,.call (.c (.fn 127 [] [])) [(.t 3)],none⟩,⟨some 5,.mov (.t 4),none⟩,⟨some 6,.fa 3 (.t 1),(some (5,true))⟩,⟨some 7,.load false 1 (.t 6),(some (5,true))⟩,⟨some 8,.len (.t 7),(some (5,true))⟩,⟨some 9,.bin .eql (.t 8) (.c (.int .i64 0)),(some (5,true))⟩,⟨some 10,.pick (.t 5) (.t 9) (.c (.bool false)),none⟩,⟨some 2,.mov (.t 10),none⟩]) (
.ret))⟩
def rf257 : RF := ⟨11,[.cell 4 true 4,.tmp 5],.seq (
.ops [] [⟨some 2,.box (some 4) (.t 0) none,none⟩,⟨some 3,.box (some 4) (.t 1) none,none⟩,⟨some 4,.alloc (some 4) (.agg [.nils,(.int .i64 0),(.int .i64 0),.nils]) none,none⟩,⟨some 5,.mov (.c (.int .i64 0)),none⟩]) (
.seq (
.ops [] [⟨some 6,.load true 4 (.t 2),none⟩,⟨some 7,.load true 4 (.t 3),none⟩,⟨some 8,.call (.c (.fn 259 [] [])) [(.t 6),(.t 7),(.c (.int .i64 0))],none⟩,⟨some 9,.ext (.t 8) 0,none⟩,⟨some 10,.ext (.t 8) 1,none⟩,⟨none,.store 4 (.t 4) (.t 9),none⟩,⟨some 5,.mov (.t 10),none⟩]) (
.ret))⟩
def rf258 : RF := ⟨33,[.tmp 6],.seq (
.ops [] [⟨some 6,.mov (.c .nils),none⟩]) (
.seq (
.ops [] [⟨some 8,.mov (.t 0),none⟩,⟨some 9,.mov (.t 1),none⟩,⟨some 10,.mov (.t 2),none⟩,⟨some 11,.mov (.t 0),none⟩,⟨some 12,.len (.t 11),none⟩,⟨some 13,.slice 4 (.t 8) (some (.t 9)) (some (.t 10)) (some (.t 12)),none⟩]) (
.seq (
.seq (
.ops [] [⟨some 14,.mov (.t 1),none⟩,⟨some 15,.mov (.t 2),none⟩,⟨some 16,.bin .eql (.t 14) (.t 15),none⟩]) (
.cond (.t 16) ( .seq ( .ops [] [⟨some 17,.mov (.t 0),none⟩,⟨some 6,.mov (.t 17),none⟩]) ( .ret)) ( .skip))) (
.seq (
.ops [] [⟨some 18,.mov (.t 0),none⟩,⟨some 19,.len (.t 18),none⟩,⟨some 7,.mov (.t 19),none⟩]) (
.seq (
.dops [] 0 [⟨some 20,.mov (.t 0),none⟩,⟨some 21,.mov (.t 1),none⟩,⟨some 22,.slice 4 (.t 20) none (some (.t 21)) none,none⟩,⟨some 23,.mov (.t 0),none⟩,⟨some 24,.mov (.t 2),none⟩,⟨some 25,.slice 4 (.t 23) (some (.t 24)) none none,none⟩,⟨some 26,.app (some 4) 64 (.t 22) (.t 25),none⟩,⟨some 0,.mov (.t 26),none⟩] []) (
.seq (
.ops [] [⟨some 27,.mov (.t 0),none⟩,⟨some 28,.mov (.t 0),none⟩,⟨some 29,.len (.t 28),none⟩,⟨some 30,.mov (.t 7),none⟩,⟨some 31,.slice 4 (.t 27) (some (.t 29)) (some (.t 30)) none,none⟩,⟨none,.clr (some 4) (.agg [.nils,(.int .i64 0),(.int .i64 0),.nils]) (.t 31),none⟩]) (
.seq (
.ops [] [⟨some 32,.mov (.t 0),none⟩,⟨some 6,.mov (.t 32),none⟩]) (
.ret)))))))⟩
def rf259 : RF := ⟨167,[.cell 6 true 4,.tmp 7],.seq (
.ops [] [⟨some 3,.box (some 4) (.t 0) none,none⟩,⟨some 4,.box (some 4) (.t 1) none,none⟩,⟨some 6,.alloc (some 4) (.agg [.nils,(.int .i64 0),(.int .i64 0),.nils]) none,none⟩,⟨some 7,.mov (.c (.int .i64 0)),none⟩]) (
.seq (
.seq (
.ops [] [⟨some 22,.load true 4 (.t 3),none⟩,⟨some 23,.call (.c (.fn 127 [] [])) [(.t 22)],none⟩,⟨some 24,.un .not (.t 23),none⟩,⟨some 25,.mov (.t 24),none⟩,⟨some 26,.load true 4 (.t 4),(some (25,false))⟩,⟨some 27,.call (.c (.fn 127 [] [])) [(.t 26)],(some (25,false))⟩,⟨some 28,.un .not (.t 27),(some (25,false))⟩,⟨some 29,.pick (.t 25) (.c (.bool true)) (.t 28),none⟩]) (
.cond (.t 29) ( .seq ( .ops [] [⟨some 30,.build [.nils,(.int .i64 0),(.int .i64 0),.nils] [],none⟩,⟨none,.store 4 (.t 6) (.t 30),none⟩,⟨some 7,.mov (.c (.int .i64 1)),none⟩]) ( .ret)) ( .skip))) (
.seq (
.ops [] [⟨some 31,.load true 4 (.t 3),none⟩,⟨some 32,.load true 4 (.t 4),none⟩,⟨some 33,.call (.c (.fn 292 [] [])) [(.t 31),(.t 32),(.c (.int .i64 0))],none⟩,⟨some 8,.alloc (some 13) (.agg [.nils,(.int .i64 0),(.int .i64 0),.nils,.nils,(.int .i64 0),(.int .i64 0),.nils,(.int .i64 0),.nils,.nils,(.int .i64 0),.nilm]) none,none⟩,⟨none,.store 13 (.t 8) (.t 33),none⟩]) (
.seq (
.ops [] [⟨some 35,.fa 0 (.t 8),none⟩,⟨some 36,.fa 2 (.t 35),none⟩,⟨some 37,.load false 1 (.t 36),none⟩,⟨some 38,.fa 4 (.t 8),none⟩,⟨some 39,.fa 2 (.t 38),none⟩,⟨some 40,.load false 1 (.t 39),none⟩,⟨some 41,.call (.c (.fn 230 [] [])) [(.t 37),(.t 40)],none⟩,⟨some 34,.mov (.t 41),none⟩,⟨some 42,.ext (.t 34) 0,none⟩,⟨some 43,.ext (.t 34) 1,none⟩,⟨some 9,.mov (.t 42),none⟩,⟨some 10,.mov (.t 43),none⟩]) (
.seq (
.seq (
.ops [] [⟨some 44,.mov (.t 10),none⟩,⟨some 45,.bin .neq (.t 44) (.c (.int .i64 0)),none⟩]) (
.cond (.t 45) ( .seq ( .ops [] [⟨some 46,.build [.nils,(.int .i64 0),(.int .i64 0),.nils] [],none⟩,⟨none,.store 4 (.t 6) (.t 46),none⟩,⟨some 7,.mov (.c (.int .i64 2)),none⟩]) ( .ret)) ( .skip))) (
.seq (
.ops [] [⟨some 47,.load true 13 (.t 8),none⟩,⟨some 48,.call (.c (.fn 293 [] [])) [(.t 47)],none⟩,⟨some 11,.mov (.t 48),none⟩]) (
.seq (
.ops [] [⟨some 49,.mov (.t 11),none⟩,⟨some 50,.len (.t 49),none⟩,⟨some 51,.load true 13 (.t 8),none⟩,⟨some 52,.call (.c (.fn 294 [] [])) [(.t 51)],none⟩,⟨some 53,.bin .add (.t 50) (.t 52),none⟩,⟨some 12,.mov (.t 53),none⟩]) (
.seq (
.dops [] 0 [⟨some 54,.fa 0 (.t 8),none⟩,⟨some 55,.load true 4 (.t 54),none⟩,⟨some 56,.fa 8 (.t 8),none⟩,⟨some 57,.load false 1 (.t 56),none⟩,⟨some 58,.call (.c (.fn 295 [] [])) [(.t 55),(.t 57)],none⟩,⟨some 59,.fa 9 (.t 8),none⟩,⟨some 60,.load false 1 (.t 59),none⟩,⟨some 61,.len (.t 60),none⟩,⟨some 62,.mov (.t 9),none⟩,⟨some 63,.fa 0 (.t 8),none⟩,⟨some 64,.fa 2 (.t 63),none⟩,⟨some 65,.load false 1 (.t 64),none⟩,⟨some 66,.bin .quo (.t 62) (.t 65),none⟩,⟨some 67,.bin .mul (.t 61) (.t 66),none⟩,⟨some 68,.bin .add (.t 58) (.t 67),none⟩,⟨some 13,.mov (.t 68),none⟩] []) (
.seq (
.dops [] 0 [⟨some 69,.fa 4 (.t 8),none⟩,⟨some 70,.load true 4 (.t 69),none⟩,⟨some 71,.fa 8 (.t 8),none⟩,⟨some 72,.load false 1 (.t 71),none⟩,⟨some 73,.call (.c (.fn 295 [] [])) [(.t 70),(.t 72)],none⟩,⟨some 74,.fa 10 (.t 8),none⟩,⟨some 75,.load false 1 (.t 74),none⟩,⟨some 76,.len (.t 75),none⟩,⟨some 77,.mov (.t 9),none⟩,⟨some 78,.fa 4 (.t 8),none⟩,⟨some 79,.fa 2 (.t 78),none⟩,⟨some 80,.load false 1 (.t 79),none⟩,⟨some 81,.bin .quo (.t 77) (.t 80),none⟩,⟨some 82,.bin .mul (.t 76) (.t 81),none⟩,⟨some 83,.bin .add (.t 73) (.t 82),none⟩,⟨some 14,.mov (.t 83),none⟩] []) (
.seq (
.seq (
.ops [] [⟨some 84,.mov (.t 12),none⟩,⟨some 85,.mov (.t 13),none⟩,⟨some 86,.mov (.t 14),none⟩,⟨some 87,.bin .add (.t 85) (.t 86),none⟩,⟨some 88,.mov (.t 12),none⟩,⟨some 89,.bin .sub (.t 87) (.t 88),none⟩,⟨some 90,.mov (.t 13),none⟩,⟨some 91,.mov (.t 12),none⟩,⟨some 92,.bin .sub (.t 90) (.t 91),none⟩,⟨some 93,.build [(.int .i64 0),(.int .i64 0),(.int .i64 0)] [(0,1,(.t 84)),(1,1,(.t 89)),(2,1,(.t 92))],none⟩,⟨some 15,.alloc (some 3) (.agg [(.int .i64 0),(.int .i64 0),(.int .i64 0)]) none,none⟩,⟨none,.store 3 (.t 15) (.t 93),none⟩]) (
.seq (
.ops [] [⟨some 94,.mov (.t 2),none⟩,⟨some 95,.iaA 3 1 (.t 15) (.t 94),none⟩,⟨some 96,.load false 1 (.t 95),none⟩,⟨some 97,.bin .gtr (.t 96) (.c (.int .i64 1048576)),none⟩]) (
.cond (.t 97) ( .seq ( .ops [] [⟨some 98,.build [.nils,(.int .i64 0),(.int .i64 0),.nils] [],none⟩,⟨none,.store 4 (.t 6) (.t 98),none⟩,⟨some 7,.mov (.c (.int .i64 2)),none⟩]) ( .ret)) ( .skip)))) (
.seq (
.ops [] [⟨some 16,.mov (.c .nils),none⟩]) (
.seq (
.seq (
.ops [] [⟨some 99,.mov (.t 2),none⟩]) (
.block 0 ( .seq ( .ops [] [⟨some 101,.bin .eql (.t 99) (.c (.int .i64 0)),none⟩,⟨some 100,.mov (.t 101),none⟩]) ( .cond (.t 100) ( .ops [] [⟨some 102,.load true 13 (.t 8),none⟩,⟨some 103,.mov (.t 11),none⟩,⟨some 104,.call (.c (.fn 296 [] [])) [(.t 102),(.t 103)],none⟩,⟨some 16,.mov (.t 104),none⟩]) ( .seq ( .ops [] [⟨some 106,.bin .eql (.t 99) (.c (.int .i64 1)),none⟩,⟨some 105,.mov (.t 106),none⟩]) ( .cond (.t 105) ( .dops [] 0 [⟨some 107,.fa 0 (.t 8),none⟩,⟨some 108,.load true 4 (.t 107),none⟩,⟨some 109,.fa 8 (.t 8),none⟩,⟨some 110,.load false 1 (.t 109),none⟩,⟨some 111,.mov (.t 9),none⟩,⟨some 112,.bin .add (.t 110) (.t 111),none⟩,⟨some 113,.call (.c (.fn 298 [] [])) [(.t 108),(.c (.int .i64 0)),(.t 112)],none⟩,⟨some 114,.fa 4 (.t 8),none⟩,⟨some 115,.load true 4 (.t 114),none⟩,⟨some 116,.fa 8 (.t 8),none⟩,⟨some 117,.load false 1 (.t 116),none⟩,⟨some 118,.mov (.t 9),none⟩,⟨some 119,.bin .add (.t 117) (.t 118),none⟩,⟨some 120,.call (.c (.fn 298 [] [])) [(.t 115),(.c (.int .i64 0)),(.t 119)],none⟩,⟨some 121,.bsl none none .nils 2 [(0,(.t 113)),(1,(.t 120))],none⟩,⟨some 122,.call (.c (.fn 297 [] [])) [(.t 121)],none⟩,⟨some 16,.mov (.t 122),none⟩] []) ( .seq ( .ops [] [⟨some 124,.bin .eql (.t 99) (.c (.int .i64 2)),none⟩,⟨some 123,.mov (.t 124),none⟩]) ( .cond (.t 123) ( .ops [] [⟨some 125,.load true 13 (.t 8),none⟩,⟨some 126,.mov (.t 9),none⟩,⟨some 127,.call (.c (.fn 299 [] [])) [(.t 125),(.t 126)],none⟩,⟨some 16,.mov (.t 127),none⟩]) ( .skip))))))))) (
.seq (
.ops [] [⟨some 128,.mov (.t 16),none⟩,⟨some 129,.call (.c (.fn 26 [] [])) [(.t 128)],none⟩]) (
.seq (
.ops [] [⟨some 130,.mov (.t 16),none⟩,⟨some 131,.call (.c (.fn 27 [] [])) [(.t 130)],none⟩,⟨some 16,.mov (.t 131),none⟩]) (
.seq (
.ops [] [⟨some 133,.mov (.t 16),none⟩,⟨some 134,.fa 8 (.t 8),none⟩,⟨some 135,.load false 1 (.t 134),none⟩,⟨some 136,.call (.c (.fn 147 [] [])) [(.t 133),(.t 135)],none⟩,⟨some 132,.mov (.t 136),none⟩,⟨some 137,.ext (.t 132) 0,none⟩,⟨some 138,.ext (.t 132) 1,none⟩,⟨some 17,.mov (.t 137),none⟩,⟨some 18,.mov (.t 138),none⟩]) (
.seq (
.dops [] 1 [⟨some 139,.mov (.t 16),none⟩,⟨some 140,.mov (.t 17),none⟩,⟨some 141,.mov (.t 17),none⟩,⟨some 142,.slice 1 (.t 139) none (some (.t 140)) (some (.t 141)),none⟩,⟨some 143,.fa 8 (.t 8),none⟩,⟨some 144,.load false 1 (.t 143),none⟩,⟨some 145,.mov (.t 9),none⟩,⟨some 146,.build [.nils,(.int .i64 0),(.int .i64 0),.nils] [(0,1,(.t 142)),(1,1,(.t 144)),(2,1,(.t 145))],none⟩,⟨some 19,.alloc (some 4) (.agg [.nils,(.int .i64 0),(.int .i64 0),.nils]) (some 0),none⟩,⟨none,.store 4 (.t 19) (.t 146),none⟩] []) (
.seq (
.seq (
.ops [] [⟨some 147,.mov (.t 16),none⟩,⟨some 148,.mov (.t 17),none⟩,⟨some 149,.slice 1 (.t 147) (some (.t 148)) none none,none⟩,⟨some 150,.len (.t 149),none⟩,⟨some 151,.mov (.c (.int .i64 0)),none⟩]) (
.block 1 ( .loop ( .seq ( .ops [] [⟨some 152,.bin .lss (.t 151) (.t 150),none⟩]) ( .seq ( .cond (.t 152) ( .skip) ( .exit 1)) ( .seq ( .block 2 ( .seq ( .ops [] [⟨some 153,.ia 1 (.t 149) (.t 151),none⟩,⟨some 154,.load false 1 (.t 153),none⟩,⟨some 21,.mov (.t 154),none⟩]) ( .ops [] [⟨some 155,.fa 3 (.t 19),none⟩,⟨some 156,.load false 1 (.t 155),none⟩,⟨some 157,.mov (.t 21),none⟩,⟨some 158,.fa 8 (.t 8),none⟩,⟨some 159,.load false 1 (.t 158),none⟩,⟨some 160,.bin .sub (.t 157) (.t 159),none⟩,⟨some 161,.bsl none none (.int .i64 0) 1 [(0,(.t 160))],none⟩,⟨some 162,.app none 8 (.t 156) (.t 161),none⟩,⟨some 163,.fa 3 (.t 19),none⟩,⟨none,.store 1 (.t 163) (.t 162),none⟩]))) ( .ops [] [⟨some 164,.bin .add (.t 151) (.c (.int .i64 1)),none⟩,⟨some 151,.mov (.t 164),none⟩]))))))) (
.seq (
.ops [] [⟨some 165,.load true 4 (.t 19),none⟩,⟨some 166,.call (.c (.fn 255 [] [])) [(.t 165)],none⟩,⟨none,.store 4 (.t 6) (.t 166),none⟩,⟨some 7,.mov (.c (.int .i64 0)),none⟩]) (
.ret))))))))))))))))))⟩
def rf261 : RF := ⟨63,[.tmp 5],.seq (
.ops [] [⟨some 5,.mov (.c (.bool false)),none⟩]) (
.scope ( .seq ( .seq ( .ops [] [⟨some 10,.mov (.t 0),none⟩,⟨some 11,.load false 1 (.t 1),none⟩,⟨some 12,.len (.t 11),none⟩,⟨some 13,.bin .eql (.t 10) (.t 12),none⟩]) ( .cond (.t 13) ( .seq ( .ops [] [⟨some 5,.mov (.c (.bool true)),none⟩]) ( .ret)) ( .skip))) ( .seq ( .label 0) ( .seq ( .seq ( .ops [] [⟨some 14,.load false 1 (.t 1),none⟩,⟨some 15,.mov (.t 0),none⟩,⟨some 16,.ia 4 (.t 14) (.t 15),none⟩,⟨some 17,.fa 3 (.t 16),none⟩,⟨some 18,.load false 1 (.t 17),none⟩,⟨some 19,.len (.t 18),none⟩,⟨some 20,.mov (.c (.int .i64 0)),none⟩]) ( .block 0 ( .loop ( .seq ( .ops [] [⟨some 21,.bin .lss (.t 20) (.t 19),none⟩]) ( .seq ( .cond (.t 21) ( .skip) ( .exit 0)) ( .seq ( .block 1 ( .seq ( .ops [] [⟨some 22,.ia 1 (.t 18) (.t 20),none⟩,⟨some 23,.load false 1 (.t 22),none⟩,⟨some 7,.mov (.t 23),none⟩]) ( .seq ( .ops [] [⟨some 24,.load false 1 (.t 1),none⟩,⟨some 25,.mov (.t 0),none⟩,⟨some 26,.ia 4 (.t 24) (.t 25),none⟩,⟨some 27,.load true 4 (.t 26),none⟩,⟨some 28,.mov (.t 7),none⟩,⟨some 29,.call (.c (.fn 262 [] [])) [(.t 27),(.t 28)],none⟩,⟨some 8,.mov (.t 29),none⟩]) ( .seq ( .seq ( .ops [] [⟨some 30,.mov (.t 0),none⟩,⟨some 31,.mov (.c (.int .i64 0)),none⟩]) ( .block 2 ( .loop ( .seq ( .ops [] [⟨some 32,.bin .lss (.t 31) (.t 30),none⟩]) ( .seq ( .cond (.t 32) ( .skip) ( .exit 2)) ( .seq ( .block 3 ( .seq ( .ops [] [⟨some 33,.mov (.t 31),none⟩,⟨some 9,.mov (.t 33),none⟩]) ( .seq ( .dops [] 0 [⟨some 34,.mov (.t 8),none⟩,⟨some 35,.load false 1 (.t 2),none⟩,⟨some 36,.mov (.t 9),none⟩,⟨some 37,.ia 1 (.t 35) (.t 36),none⟩,⟨some 38,.load false 1 (.t 37),none⟩,⟨some 39,.bin .sub (.t 34) (.t 38),none⟩,⟨some 40,.load false 1 (.t 1),none⟩,⟨some 41,.mov (.t 0),none⟩,⟨some 42,.ia 4 (.t 40) (.t 41),none⟩,⟨some 43,.fa 2 (.t 42),none⟩,⟨some 44,.load false 1 (.t 43),none⟩,⟨some 45,.load false 1 (.t 1),none⟩,⟨some 46,.mov (.t 9),none⟩,⟨some 47,.ia 4 (.t 45) (.t 46),none⟩,⟨some 48,.fa 2 (.t 47),none⟩,⟨some 49,.load false 1 (.t 48),none⟩,⟨some 50,.call (.c (.fn 263 [] [])) [(.t 44),(.t 49)],none⟩,⟨some 51,.bin .rem (.t 39) (.t 50),none⟩,⟨some 52,.bin .neq (.t 51) (.c (.int .i64 0)),none⟩] []) ( .cond (.t 52) ( .exit 1) ( .skip))))) ( .ops [] [⟨some 53,.bin .add (.t 31) (.c (.int .i64 1)),none⟩,⟨some 31,.mov (.t 53),none⟩]))))))) ( .seq ( .ops [] [⟨some 54,.load false 1 (.t 2),none⟩,⟨some 55,.mov (.t 0),none⟩,⟨some 56,.mov (.t 8),none⟩,⟨some 57,.ia 1 (.t 54) (.t 55),none⟩,⟨none,.store 1 (.t 57) (.t 56),none⟩]) ( .seq ( .ops [] [⟨some 58,.load false 1 (.t 3),none⟩,⟨some 59,.mov (.t 0),none⟩,⟨some 60,.bin .add (.t 59) (.c (.int .i64 1)),none⟩,⟨some 61,.call (.t 58) [(.t 60)],none⟩]) ( .cond (.t 61) ( .seq ( .ops [] [⟨some 5,.mov (.c (.bool true)),none⟩]) ( .ret)) ( .skip)))))))) ( .ops [] [⟨some 62,.bin .add (.t 20) (.c (.int .i64 1)),none⟩,⟨some 20,.mov (.t 62),none⟩]))))))) ( .seq ( .ops [] [⟨some 5,.mov (.c (.bool false)),none⟩]) ( .ret))))))⟩
def rf262 : RF := ⟨15,[.tmp 4],.seq (
.ops [] [⟨some 2,.box (some 4) (.t 0) none,none⟩,⟨some 4,.mov (.c (.int .i64 0)),none⟩]) (
.seq (
.dops [] 0 [⟨some 5,.fa 1 (.t 2),none⟩,⟨some 6,.load false 1 (.t 5),none⟩,⟨some 7,.fa 2 (.t 2),none⟩,⟨some 8,.load false 1 (.t 7),none⟩,⟨some 9,.bin .rem (.t 6) (.t 8),none⟩,⟨some 10,.mov (.t 1),none⟩,⟨some 11,.bin .add (.t 9) (.t 10),none⟩,⟨some 12,.fa 2 (.t 2),none⟩,⟨some 13,.load false 1 (.t 12),none⟩,⟨some 14,.bin .rem (.t 11) (.t 13),none⟩,⟨some 4,.mov (.t 14),none⟩] []) (
.ret))⟩
def rf263 : RF := ⟨21,[.tmp 4],.seq (
.ops [] [⟨some 4,.mov (.c (.int .i64 0)),none⟩]) (
.seq (
.ops [] [⟨some 7,.mov (.t 0),none⟩,⟨some 8,.call (.c (.fn 300 [] [])) [(.t 7)],none⟩,⟨some 9,.mov (.t 1),none⟩,⟨some 10,.call (.c (.fn 300 [] [])) [(.t 9)],none⟩,⟨some 5,.mov (.t 8),none⟩,⟨some 6,.mov (.t 10),none⟩]) (
.seq (
.block 0 ( .loop ( .seq ( .seq ( .ops [] [⟨some 11,.mov (.t 6),none⟩,⟨some 12,.bin .neq (.t 11) (.c (.int .u64 0)),none⟩]) ( .cond (.t 12) ( .skip) ( .exit 0))) ( .block 1 ( .dops [] 0 [⟨some 13,.mov (.t 6),none⟩,⟨some 14,.mov (.t 5),none⟩,⟨some 15,.mov (.t 6),none⟩,⟨some 16,.bin .rem (.t 14) (.t 15),none⟩,⟨some 5,.mov (.t 13),none⟩,⟨some 6,.mov (.t 16),none⟩] []))))) (
.seq (
.seq (
.ops [] [⟨some 17,.mov (.t 5),none⟩,⟨some 18,.bin .gtr (.t 17) (.c (.int .u64 9223372036854775807)),none⟩]) (
.cond (.t 18) ( .seq ( .ops [] [⟨some 4,.mov (.c (.int .i64 0)),none⟩]) ( .ret)) ( .skip))) (
.seq (
.ops [] [⟨some 19,.mov (.t 5),none⟩,⟨some 20,.conv .i64 (.t 19),none⟩,⟨some 4,.mov (.t 20),none⟩]) (
.ret)))))⟩
def rf264 : RF := ⟨18,[.tmp 2],.seq (
.ops [] [⟨some 2,.mov (.c (.int .i64 0)),none⟩]) (
.seq (
.ops [] [⟨some 3,.mov (.c (.int .i64 0)),none⟩]) (
.seq (
.seq (
.ops [] [⟨some 6,.mov (.t 0),none⟩,⟨some 7,.len (.t 6),none⟩,⟨some 8,.mov (.c (.int .i64 0)),none⟩]) (
.block 0 ( .loop ( .seq ( .ops [] [⟨some 9,.bin .lss (.t 8) (.t 7),none⟩]) ( .seq ( .cond (.t 9) ( .skip) ( .exit 0)) ( .seq ( .block 1 ( .seq ( .ops [] [⟨some 10,.ia 4 (.t 6) (.t 8),none⟩,⟨some 11,.load true 4 (.t 10),none⟩,⟨some 5,.alloc (some 4) (.agg [.nils,(.int .i64 0),(.int .i64 0),.nils]) none,none⟩,⟨none,.store 4 (.t 5) (.t 11),none⟩]) ( .ops [] [⟨some 12,.mov (.t 3),none⟩,⟨some 13,.fa 1 (.t 5),none⟩,⟨some 14,.load false 1 (.t 13),none⟩,⟨some 15,.mx [(.t 12),(.t 14)],none⟩,⟨some 3,.mov (.t 15),none⟩]))) ( .ops [] [⟨some 16,.bin .add (.t 8) (.c (.int .i64 1)),none⟩,⟨some 8,.mov (.t 16),none⟩]))))))) (
.seq (
.ops [] [⟨some 17,.mov (.t 3),none⟩,⟨some 2,.mov (.t 17),none⟩]) (
.ret))))⟩
def rf265 : RF := ⟨89,[],.seq (
.ops [] [⟨some 8,.box (some 2) (.t 1) none,none⟩]) (
.seq (
.seq (
.ops [] [⟨some 13,.mov (.t 0),none⟩,⟨some 14,.load false 1 (.t 2),none⟩,⟨some 15,.len (.t 14),none⟩,⟨some 16,.bin .lss (.t 13) (.t 15),none⟩]) (
.cond (.t 16) ( .seq ( .seq ( .ops [] [⟨some 17,.load false 1 (.t 2),none⟩,⟨some 18,.mov (.t 0),none⟩,⟨some 19,.ia 4 (.t 17) (.t 18),none⟩,⟨some 20,.fa 3 (.t 19),none⟩,⟨some 21,.load false 1 (.t 20),none⟩,⟨some 22,.len (.t 21),none⟩,⟨some 23,.mov (.c (.int .i64 0)),none⟩]) ( .block 0 ( .loop ( .seq ( .ops [] [⟨some 24,.bin .lss (.t 23) (.t 22),none⟩]) ( .seq ( .cond (.t 24) ( .skip) ( .exit 0)) ( .seq ( .block 1 ( .seq ( .ops [] [⟨some 25,.ia 1 (.t 21) (.t 23),none⟩,⟨some 26,.load false 1 (.t 25),none⟩,⟨some 10,.mov (.t 26),none⟩]) ( .seq ( .dops [] 1 [⟨some 28,.load true 2 (.t 8),none⟩,⟨some 29,.load false 1 (.t 2),none⟩,⟨some 30,.mov (.t 0),none⟩,⟨some 31,.ia 4 (.t 29) (.t 30),none⟩,⟨some 32,.load true 4 (.t 31),none⟩,⟨some 33,.mov (.t 10),none⟩,⟨some 34,.call (.c (.fn 262 [] [])) [(.t 32),(.t 33)],none⟩,⟨some 35,.load false 1 (.t 2),none⟩,⟨some 36,.mov (.t 0),none⟩,⟨some 37,.ia 4 (.t 35) (.t 36),none⟩,⟨some 38,.fa 2 (.t 37),none⟩,⟨some 39,.load false 1 (.t 38),none⟩,⟨some 40,.call (.c (.fn 266 [] [])) [(.t 28),(.t 34),(.t 39)],none⟩,⟨some 27,.mov (.t 40),none⟩,⟨some 41,.ext (.t 27) 0,none⟩,⟨some 42,.ext (.t 27) 1,none⟩,⟨some 11,.alloc (some 2) (.agg [(.int .i64 0),(.int .i64 0)]) (some 0),none⟩,⟨none,.store 2 (.t 11) (.t 41),none⟩,⟨some 12,.mov (.t 42),none⟩] []) ( .seq ( .ops [] [⟨some 43,.mov (.t 12),none⟩]) ( .cond (.t 43) ( .ops [] [⟨some 44,.load false 1 (.t 3),none⟩,⟨some 45,.mov (.t 0),none⟩,⟨some 46,.bin .add (.t 45) (.c (.int .i64 1)),none⟩,⟨some 47,.load true 2 (.t 11),none⟩,⟨some 48,.call (.t 44) [(.t 46),(.t 47)],none⟩]) ( .skip)))))) ( .ops [] [⟨some 49,.bin .add (.t 23) (.c (.int .i64 1)),none⟩,⟨some 23,.mov (.t 49),none⟩]))))))) ( .ret)) ( .skip))) (
.seq (
.seq (
.ops [] [⟨some 50,.fa 0 (.t 8),none⟩,⟨some 51,.load false 1 (.t 50),none⟩,⟨some 52,.load false 1 (.t 4),none⟩,⟨some 53,.bin .lss (.t 51) (.t 52),none⟩,⟨some 54,.mov (.t 53),none⟩,⟨some 55,.fa 1 (.t 8),(some (54,true))⟩,⟨some 56,.load false 1 (.t 55),(some (54,true))⟩,⟨some 57,.bin .gtr (.t 56) (.c (.int .i64 0)),(some (54,true))⟩,⟨some 58,.pick (.t 54) (.t 57) (.c (.bool false)),none⟩]) (
.cond (.t 58) ( .dops [] 0 [⟨some 59,.fa 0 (.t 8),none⟩,⟨some 60,.load false 1 (.t 59),none⟩,⟨some 61,.load false 1 (.t 4),none⟩,⟨some 62,.fa 0 (.t 8),none⟩,⟨some 63,.load false 1 (.t 62),none⟩,⟨some 64,.bin .sub (.t 61) (.t 63),none⟩,⟨some 65,.fa 1 (.t 8),none⟩,⟨some 66,.load false 1 (.t 65),none⟩,⟨some 67,.bin .add (.t 64) (.t 66),none⟩,⟨some 68,.bin .sub (.t 67) (.c (.int .i64 1)),none⟩,⟨some 69,.fa 1 (.t 8),none⟩,⟨some 70,.load false 1 (.t 69),none⟩,⟨some 71,.bin .quo (.t 68) (.t 70),none⟩,⟨some 72,.fa 1 (.t 8),none⟩,⟨some 73,.load false 1 (.t 72),none⟩,⟨some 74,.bin .mul (.t 71) (.t 73),none⟩,⟨some 75,.bin .add (.t 60) (.t 74),none⟩,⟨some 76,.fa 0 (.t 8),none⟩,⟨none,.store 1 (.t 76) (.t 75),none⟩] []) ( .skip))) (
.seq (
.ops [] [⟨some 77,.fa 0 (.t 8),none⟩,⟨some 78,.load false 1 (.t 77),none⟩,⟨some 79,.load false 1 (.t 4),none⟩,⟨some 80,.bin .geq (.t 78) (.t 79),none⟩,⟨some 81,.mov (.t 80),none⟩,⟨some 82,.fa 0 (.t 8),(some (81,true))⟩,⟨some 83,.load false 1 (.t 82),(some (81,true))⟩,⟨some 84,.load false 1 (.t 5),(some (81,true))⟩,⟨some 85,.bin .leq (.t 83) (.t 84),(some (81,true))⟩,⟨some 86,.pick (.t 81) (.t 85) (.c (.bool false)),none⟩]) (
.cond (.t 86) ( .ops [] [⟨some 87,.fa 0 (.t 8),none⟩,⟨some 88,.load false 1 (.t 87),none⟩,⟨none,.store 1 (.t 5) (.t 88),none⟩,⟨none,.store 1 (.t 6) (.c (.bool true)),none⟩]) ( .skip)))))⟩
def rf266 : RF := ⟨129,[.cell 6 true 2,.tmp 7],.seq (
.ops [] [⟨some 3,.box (some 2) (.t 0) none,none⟩,⟨some 6,.alloc (some 2) (.agg [(.int .i64 0),(.int .i64 0)]) none,none⟩,⟨some 7,.mov (.c (.bool false)),none⟩]) (
.seq (
.seq (
.ops [] [⟨some 16,.fa 1 (.t 3),none⟩,⟨some 17,.load false 1 (.t 16),none⟩,⟨some 18,.bin .eql (.t 17) (.c (.int .i64 0)),none⟩]) (
.cond (.t 18) ( .seq ( .dops [] 0 [⟨some 19,.load true 2 (.t 3),none⟩,⟨some 20,.fa 0 (.t 3),none⟩,⟨some 21,.load false 1 (.t 20),none⟩,⟨some 22,.mov (.t 1),none⟩,⟨some 23,.bin .sub (.t 21) (.t 22),none⟩,⟨some 24,.mov (.t 2),none⟩,⟨some 25,.bin .rem (.t 23) (.t 24),none⟩,⟨some 26,.bin .eql (.t 25) (.c (.int .i64 0)),none⟩,⟨none,.store 2 (.t 6) (.t 19),none⟩,⟨some 7,.mov (.t 26),none⟩] [(2,8)]) ( .ret)) ( .skip))) (
.seq (
.ops [] [⟨some 27,.fa 1 (.t 3),none⟩,⟨some 28,.load false 1 (.t 27),none⟩,⟨some 29,.mov (.t 2),none⟩,⟨some 30,.call (.c (.fn 263 [] [])) [(.t 28),(.t 29)],none⟩,⟨some 8,.mov (.t 30),none⟩]) (
.seq (
.seq (
.ops [] [⟨some 31,.mov (.t 1),none⟩,⟨some 32,.fa 0 (.t 3),none⟩,⟨some 33,.load false 1 (.t 32),none⟩,⟨some 34,.bin .sub (.t 31) (.t 33),none⟩,⟨some 35,.mov (.t 8),none⟩,⟨some 36,.bin .rem (.t 34) (.t 35),none⟩,⟨some 37,.bin .neq (.t 36) (.c (.int .i64 0)),none⟩]) (
.cond (.t 37) ( .seq ( .ops [] [⟨some 38,.build [(.int .i64 0),(.int .i64 0)] [],none⟩,⟨none,.store 2 (.t 6) (.t 38),none⟩,⟨some 7,.mov (.c (.bool false)),none⟩]) ( .ret)) ( .skip))) (
.seq (
.ops [] [⟨some 39,.mov (.t 2),none⟩,⟨some 40,.mov (.t 8),none⟩,⟨some 41,.bin .quo (.t 39) (.t 40),none⟩,⟨some 9,.mov (.t 41),none⟩]) (
.seq (
.seq (
.ops [] [⟨some 42,.mov (.t 9),none⟩,⟨some 43,.bin .eql (.t 42) (.c (.int .i64 1)),none⟩]) (
.cond (.t 43) ( .seq ( .ops [] [⟨some 44,.load true 2 (.t 3),none⟩,⟨none,.store 2 (.t 6) (.t 44),none⟩,⟨some 7,.mov (.c (.bool true)),none⟩]) ( .ret)) ( .skip))) (
.seq (
.ops [] [⟨some 45,.mov (.t 1),none⟩,⟨some 46,.fa 0 (.t 3),none⟩,⟨some 47,.load false 1 (.t 46),none⟩,⟨some 48,.bin .sub (.t 45) (.t 47),none⟩,⟨some 49,.mov (.t 8),none⟩,⟨some 50,.bin .quo (.t 48) (.t 49),none⟩,⟨some 51,.mov (.t 9),none⟩,⟨some 52,.bin .rem (.t 50) (.t 51),none⟩,⟨some 53,.mov (.t 9),none⟩,⟨some 54,.bin .add (.t 52) (.t 53),none⟩,⟨some 55,.mov (.t 9),none⟩,⟨some 56,.bin .rem (.t 54) (.t 55),none⟩,⟨some 10,.mov (.t 56),none⟩]) (
.seq (
.ops [] [⟨some 58,.mov (.t 10),none⟩,⟨some 59,.conv .u64 (.t 58),none⟩,⟨some 60,.fa 1 (.t 3),none⟩,⟨some 61,.load false 1 (.t 60),none⟩,⟨some 62,.mov (.t 8),none⟩,⟨some 63,.bin .quo (.t 61) (.t 62),none⟩,⟨some 64,.mov (.t 9),none⟩,⟨some 65,.call (.c (.fn 302 [] [])) [(.t 63),(.t 64)],none⟩,⟨some 66,.conv .u64 (.t 65),none⟩,⟨some 67,.call (.c (.fn 301 [] [])) [(.t 59),(.t 66)],none⟩,⟨some 57,.mov (.t 67),none⟩,⟨some 68,.ext (.t 57) 0,none⟩,⟨some 69,.ext (.t 57) 1,none⟩,⟨some 11,.mov (.t 68),none⟩,⟨some 12,.mov (.t 69),none⟩]) (
.seq (
.ops [] [⟨some 71,.mov (.t 11),none⟩,⟨some 72,.mov (.t 9),none⟩,⟨some 73,.conv .u64 (.t 72),none⟩,⟨some 74,.bin .rem (.t 71) (.t 73),none⟩,⟨some 75,.mov (.t 12),none⟩,⟨some 76,.mov (.t 9),none⟩,⟨some 77,.conv .u64 (.t 76),none⟩,⟨some 78,.call (.c (.fn 303 [] [])) [(.t 74),(.t 75),(.t 77)],none⟩,⟨some 70,.mov (.t 78),none⟩,⟨some 79,.ext (.t 70) 0,none⟩,⟨some 80,.ext (.t 70) 1,none⟩,⟨some 13,.mov (.t 79),none⟩,⟨some 14,.mov (.t 80),none⟩]) (
.seq (
.ops [] [⟨some 82,.mov (.t 14),none⟩,⟨some 83,.fa 1 (.t 3),none⟩,⟨some 84,.load false 1 (.t 83),none⟩,⟨some 85,.conv .u64 (.t 84),none⟩,⟨some 86,.call (.c (.fn 301 [] [])) [(.t 82),(.t 85)],none⟩,⟨some 81,.mov (.t 86),none⟩,⟨some 87,.ext (.t 81) 0,none⟩,⟨some 88,.ext (.t 81) 1,none⟩,⟨some 11,.mov (.t 87),none⟩,⟨some 12,.mov (.t 88),none⟩]) (
.seq (
.seq (
.ops [] [⟨some 89,.mov (.t 11),none⟩,⟨some 90,.bin .gtr (.t 89) (.c (.int .u64 0)),none⟩,⟨some 91,.mov (.t 90),none⟩,⟨some 92,.mov (.t 12),(some (91,false))⟩,⟨some 93,.bin .gtr (.t 92) (.c (.int .u64 1152921504606846976)),(some (91,false))⟩,⟨some 94,.pick (.t 91) (.c (.bool true)) (.t 93),none⟩,⟨some 95,.mov (.t 94),none⟩,⟨some 96,.mov (.t 12),(some (95,false))⟩,⟨some 97,.conv .i64 (.t 96),(some (95,false))⟩,⟨some 98,.fa 0 (.t 3),(some (95,false))⟩,⟨some 99,.load false 1 (.t 98),(some (95,false))⟩,⟨some 100,.bin .sub (.c (.int .i64 1152921504606846976)) (.t 99),(some (95,false))⟩,⟨some 101,.bin .gtr (.t 97) (.t 100),(some (95,false))⟩,⟨some 102,.pick (.t 95) (.c (.bool true)) (.t 101),none⟩]) (
.cond (.t 102) ( .seq ( .ops [] [⟨some 103,.build [(.int .i64 0),(.int .i64 0)] [],none⟩,⟨none,.store 2 (.t 6) (.t 103),none⟩,⟨some 7,.mov (.c (.bool false)),none⟩]) ( .ret)) ( .skip))) (
.seq (
.ops [] [⟨some 104,.fa 0 (.t 3),none⟩,⟨some 105,.load false 1 (.t 104),none⟩,⟨some 106,.mov (.t 12),none⟩,⟨some 107,.conv .i64 (.t 106),none⟩,⟨some 108,.bin .add (.t 105) (.t 107),none⟩,⟨some 109,.build [(.int .i64 0),(.int .i64 0)] [(0,1,(.t 108)),(1,1,(.c (.int .i64 0)))],none⟩,⟨some 15,.alloc (some 2) (.agg [(.int .i64 0),(.int .i64 0)]) none,none⟩,⟨none,.store 2 (.t 15) (.t 109),none⟩]) (
.seq (
.seq (
.ops [] [⟨some 111,.fa 1 (.t 3),none⟩,⟨some 112,.load false 1 (.t 111),none⟩,⟨some 113,.conv .u64 (.t 112),none⟩,⟨some 114,.mov (.t 9),none⟩,⟨some 115,.conv .u64 (.t 114),none⟩,⟨some 116,.call (.c (.fn 301 [] [])) [(.t 113),(.t 115)],none⟩,⟨some 110,.mov (.t 116),none⟩,⟨some 117,.ext (.t 110) 0,none⟩,⟨some 118,.ext (.t 110) 1,none⟩,⟨some 11,.mov (.t 117),none⟩,⟨some 12,.mov (.t 118),none⟩]) (
.seq (
.ops [] [⟨some 119,.mov (.t 11),none⟩,⟨some 120,.bin .eql (.t 119) (.c (.int .u64 0)),none⟩,⟨some 121,.mov (.t 120),none⟩,⟨some 122,.mov (.t 12),(some (121,true))⟩,⟨some 123,.bin .leq (.t 122) (.c (.int .u64 1152921504606846976)),(some (121,true))⟩,⟨some 124,.pick (.t 121) (.t 123) (.c (.bool false)),none⟩]) (
.cond (.t 124) ( .ops [] [⟨some 125,.mov (.t 12),none⟩,⟨some 126,.conv .i64 (.t 125),none⟩,⟨some 127,.fa 1 (.t 15),none⟩,⟨none,.store 1 (.t 127) (.t 126),none⟩]) ( .skip)))) (
.seq (
.ops [] [⟨some 128,.load true 2 (.t 15),none⟩,⟨none,.store 2 (.t 6) (.t 128),none⟩,⟨some 7,.mov (.c (.bool true)),none⟩]) (
.ret))))))))))))))⟩
def rf267 : RF := ⟨21,[.tmp 4],.seq (
.ops [] [⟨some 4,.mov (.c (.int .i64 0)),none⟩]) (
.seq (
.seq (
.ops [] [⟨some 8,.mov (.t 0),none⟩,⟨some 9,.mov (.t 1),none⟩,⟨some 10,.call (.c (.fn 304 [] [])) [(.t 8),(.t 9)],none⟩,⟨some 7,.mov (.t 10),none⟩,⟨some 11,.ext (.t 7) 0,none⟩,⟨some 12,.ext (.t 7) 1,none⟩,⟨some 5,.alloc (some 2) (.agg [(.int .i64 0),(.int .i64 0)]) none,none⟩,⟨none,.store 2 (.t 5) (.t 11),none⟩,⟨some 6,.mov (.t 12),none⟩]) (
.seq (
.ops [] [⟨some 13,.mov (.t 6),none⟩]) (
.cond (.t 13) ( .seq ( .ops [] [⟨some 14,.fa 1 (.t 5),none⟩,⟨some 15,.load false 1 (.t 14),none⟩,⟨some 4,.mov (.t 15),none⟩]) ( .ret)) ( .skip)))) (
.seq (
.ops [] [⟨some 16,.mov (.t 0),none⟩,⟨some 17,.nilchk (.t 16),none⟩,⟨some 18,.fa 0 (.t 17),none⟩,⟨some 19,.fa 4 (.t 18),none⟩,⟨some 20,.load false 1 (.t 19),none⟩,⟨some 4,.mov (.t 20),none⟩]) (
.ret)))⟩
def rf268 : RF := ⟨8,[.tmp 3],.seq (
.ops [] [⟨some 2,.box (some 4) (.t 0) none,none⟩,⟨some 3,.mov (.c (.bool false)),none⟩]) (
.seq (
.ops [] [⟨some 4,.load true 4 (.t 2),none⟩,⟨some 5,.load false 1 (.t 1),none⟩,⟨some 6,.call (.c (.fn 269 [] [])) [(.t 4),(.t 5)],none⟩,⟨some 7,.un .not (.t 6),none⟩,⟨some 3,.mov (.t 7),none⟩]) (
.ret))⟩
def rf269 : RF := ⟨16,[.tmp 4],.seq (
.ops [] [⟨some 2,.box (some 4) (.t 0) none,none⟩,⟨some 4,.mov (.c (.bool false)),none⟩]) (
.seq (
.ops [] [⟨some 5,.load true 4 (.t 2),none⟩,⟨some 6,.call (.c (.fn 127 [] [])) [(.t 5)],none⟩,⟨some 7,.mov (.t 6),none⟩,⟨some 8,.mov (.t 1),(some (7,true))⟩,⟨some 9,.bin .geq (.t 8) (.c (.int .i64 0)),(some (7,true))⟩,⟨some 10,.pick (.t 7) (.t 9) (.c (.bool false)),none⟩,⟨some 11,.mov (.t 10),none⟩,⟨some 12,.load true 4 (.t 2),(some (11,true))⟩,⟨some 13,.mov (.t 1),(some (11,true))⟩,⟨some 14,.call (.c (.fn 305 [] [])) [(.t 12),(.t 13)],(some (11,true))⟩,⟨some 15,.pick (.t 11) (.t 14) (.c (.bool false)),none⟩,⟨some 4,.mov (.t 15),none⟩]) (
.ret))⟩
def rf270 : RF := ⟨56,[.cell 4 true 4],.seq (
.ops [] [⟨some 2,.box (some 4) (.t 0) none,none⟩,⟨some 4,.alloc (some 4) (.agg [.nils,(.int .i64 0),(.int .i64 0),.nils]) none,none⟩]) (
.seq (
.ops [] [⟨some 11,.fa 0 (.t 2),none⟩,⟨some 12,.load false 1 (.t 11),none⟩,⟨some 13,.mov (.t 1),none⟩,⟨some 14,.call (.c (.fn 147 [] [])) [(.t 12),(.t 13)],none⟩,⟨some 10,.mov (.t 14),none⟩,⟨some 15,.ext (.t 10) 0,none⟩,⟨some 16,.ext (.t 10) 1,none⟩,⟨some 5,.mov (.t 15),none⟩,⟨some 6,.mov (.t 16),none⟩]) (
.seq (
.dops [] 1 [⟨some 17,.fa 0 (.t 2),none⟩,⟨some 18,.load false 1 (.t 17),none⟩,⟨some 19,.mov (.t 5),none⟩,⟨some 20,.slice 1 (.t 18) (some (.t 19)) none none,none⟩,⟨some 22,.fa 1 (.t 2),none⟩,⟨some 23,.load false 1 (.t 22),none⟩,⟨some 24,.mov (.t 1),none⟩,⟨some 25,.mx [(.t 23),(.t 24)],none⟩,⟨some 26,.fa 2 (.t 2),none⟩,⟨some 27,.load false 1 (.t 26),none⟩,⟨some 21,.call (.c (.fn 289 [] [])) [(.t 20)],none⟩,⟨some 28,.build [.nils,(.int .i64 0),(.int .i64 0),.nils] [(0,1,(.t 21)),(1,1,(.t 25)),(2,1,(.t 27))],none⟩,⟨some 7,.alloc (some 4) (.agg [.nils,(.int .i64 0),(.int .i64 0),.nils]) (some 0),none⟩,⟨none,.store 4 (.t 7) (.t 28),none⟩] []) (
.seq (
.seq (
.ops [] [⟨some 29,.fa 3 (.t 2),none⟩,⟨some 30,.load false 1 (.t 29),none⟩,⟨some 31,.len (.t 30),none⟩,⟨some 32,.mov (.c (.int .i64 0)),none⟩]) (
.block 0 ( .loop ( .seq ( .ops [] [⟨some 33,.bin .lss (.t 32) (.t 31),none⟩]) ( .seq ( .cond (.t 33) ( .skip) ( .exit 0)) ( .seq ( .block 1 ( .seq ( .ops [] [⟨some 34,.ia 1 (.t 30) (.t 32),none⟩,⟨some 35,.load false 1 (.t 34),none⟩,⟨some 9,.mov (.t 35),none⟩]) ( .dops [] 0 [⟨some 36,.fa 3 (.t 7),none⟩,⟨some 37,.load false 1 (.t 36),none⟩,⟨some 38,.fa 1 (.t 2),none⟩,⟨some 39,.load false 1 (.t 38),none⟩,⟨some 40,.mov (.t 9),none⟩,⟨some 41,.bin .add (.t 39) (.t 40),none⟩,⟨some 42,.fa 1 (.t 7),none⟩,⟨some 43,.load false 1 (.t 42),none⟩,⟨some 44,.bin .sub (.t 41) (.t 43),none⟩,⟨some 45,.fa 2 (.t 2),none⟩,⟨some 46,.load false 1 (.t 45),none⟩,⟨some 47,.call (.c (.fn 306 [] [])) [(.t 44),(.t 46)],none⟩,⟨some 48,.bsl none none (.int .i64 0) 1 [(0,(.t 47))],none⟩,⟨some 49,.app none 8 (.t 37) (.t 48),none⟩,⟨some 50,.fa 3 (.t 7),none⟩,⟨none,.store 1 (.t 50) (.t 49),none⟩] []))) ( .ops [] [⟨some 51,.bin .add (.t 32) (.c (.int .i64 1)),none⟩,⟨some 32,.mov (.t 51),none⟩]))))))) (
.seq (
.ops [] [⟨some 52,.fa 3 (.t 7),none⟩,⟨some 53,.load false 1 (.t 52),none⟩,⟨some 54,.call (.c (.fn 26 [] [])) [(.t 53)],none⟩]) (
.seq (
.ops [] [⟨some 55,.load true 4 (.t 7),none⟩,⟨none,.store 4 (.t 4) (.t 55),none⟩]) (
.ret))))))⟩
def rf271 : RF := ⟨27,[.tmp 4],.seq (
.ops [] [⟨some 4,.mov (.c .nils),none⟩]) (
.seq (
.seq (
.ops [] [⟨some 5,.mov (.t 1),none⟩,⟨some 6,.bin .lss (.t 5) (.c (.int .i64 0)),none⟩]) (
.cond (.t 6) ( .ops [] [⟨some 7,.bad,none⟩,⟨none,.bad,none⟩]) ( .skip))) (
.seq (
.seq (
.ops [] [⟨some 8,.mov (.t 1),none⟩,⟨some 9,.mov (.t 0),none⟩,⟨some 10,.cap (.t 9),none⟩,⟨some 11,.mov (.t 0),none⟩,⟨some 12,.len (.t 11),none⟩,⟨some 13,.bin .sub (.t 10) (.t 12),none⟩,⟨some 14,.bin .sub (.t 8) (.t 13),none⟩,⟨some 1,.mov (.t 14),none⟩]) (
.seq (
.ops [] [⟨some 15,.mov (.t 1),none⟩,⟨some 16,.bin .gtr (.t 15) (.c (.int .i64 0)),none⟩]) (
.cond (.t 16) ( .ops [] [⟨some 17,.mov (.t 0),none⟩,⟨some 18,.mov (.t 0),none⟩,⟨some 19,.cap (.t 18),none⟩,⟨some 20,.slice 4 (.t 17) none (some (.t 19)) none,none⟩,⟨some 21,.mov (.t 1),none⟩,⟨some 22,.appz (some 4) 64 (.agg [.nils,(.int .i64 0),(.int .i64 0),.nils]) (.t 20) (.t 21),none⟩,⟨some 23,.mov (.t 0),none⟩,⟨some 24,.len (.t 23),none⟩,⟨some 25,.slice 4 (.t 22) none (some (.t 24)) none,none⟩,⟨some 0,.mov (.t 25),none⟩]) ( .skip)))) (
.seq (
.ops [] [⟨some 26,.mov (.t 0),none⟩,⟨some 4,.mov (.t 26),none⟩]) (
.ret))))⟩
def rf273 : RF := ⟨53,[],.seq (
.ops [] [⟨some 10,.mov (.t 1),none⟩,⟨some 11,.bin .add (.t 10) (.c (.int .i64 1)),none⟩,⟨some 8,.mov (.t 11),none⟩]) (
.block 0 ( .loop ( .seq ( .seq ( .ops [] [⟨some 12,.mov (.t 8),none⟩,⟨some 13,.mov (.t 2),none⟩,⟨some 14,.bin .lss (.t 12) (.t 13),none⟩]) ( .cond (.t 14) ( .skip) ( .exit 0))) ( .seq ( .block 1 ( .seq ( .ops [] [⟨some 17,.mov (.t 8),none⟩,⟨some 9,.mov (.t 17),none⟩]) ( .block 2 ( .loop ( .seq ( .seq ( .dops [] 0 [⟨some 18,.mov (.t 9),none⟩,⟨some 19,.mov (.t 1),none⟩,⟨some 20,.bin .gtr (.t 18) (.t 19),none⟩,⟨some 21,.mov (.t 20),none⟩,⟨some 22,.mov (.t 3),(some (21,true))⟩,⟨some 23,.mov (.t 0),(some (21,true))⟩,⟨some 24,.mov (.t 9),(some (21,true))⟩,⟨some 25,.ia 3 (.t 23) (.t 24),(some (21,true))⟩,⟨some 26,.load true 3 (.t 25),(some (21,true))⟩,⟨some 27,.mov (.t 0),(some (21,true))⟩,⟨some 28,.mov (.t 9),(some (21,true))⟩,⟨some 29,.bin .sub (.t 28) (.c (.int .i64 1)),(some (21,true))⟩,⟨some 30,.ia 3 (.t 27) (.t 29),(some (21,true))⟩,⟨some 31,.load true 3 (.t 30),(some (21,true))⟩,⟨some 32,.call (.t 22) [(.t 26),(.t 31)],(some (21,true))⟩,⟨some 33,.bin .lss (.t 32) (.c (.int .i64 0)),(some (21,true))⟩,⟨some 34,.pick (.t 21) (.t 33) (.c (.bool false)),none⟩] []) ( .cond (.t 34) ( .skip) ( .exit 2))) ( .seq ( .block 3 ( .dops [] 0 [⟨some 37,.mov (.t 0),none⟩,⟨some 38,.mov (.t 9),none⟩,⟨some 39,.mov (.t 0),none⟩,⟨some 40,.mov (.t 9),none⟩,⟨some 41,.bin .sub (.t 40) (.c (.int .i64 1)),none⟩,⟨some 42,.mov (.t 0),none⟩,⟨some 43,.mov (.t 9),none⟩,⟨some 44,.bin .sub (.t 43) (.c (.int .i64 1)),none⟩,⟨some 45,.ia 3 (.t 42) (.t 44),none⟩,⟨some 46,.load true 3 (.t 45),none⟩,⟨some 47,.mov (.t 0),none⟩,⟨some 48,.mov (.t 9),none⟩,⟨some 49,.ia 3 (.t 47) (.t 48),none⟩,⟨some 50,.load true 3 (.t 49),none⟩,⟨some 51,.ia 3 (.t 37) (.t 38),none⟩,⟨none,.store 3 (.t 51) (.t 46),none⟩,⟨some 52,.ia 3 (.t 39) (.t 41),none⟩,⟨none,.store 3 (.t 52) (.t 50),none⟩] [])) ( .ops [] [⟨some 35,.mov (.t 9),none⟩,⟨some 36,.bin .sub (.t 35) (.c (.int .i64 1)),none⟩,⟨some 9,.mov (.t 36),none⟩]))))))) ( .ops [] [⟨some 15,.mov (.t 8),none⟩,⟨some 16,.bin .add (.t 15) (.c (.int .i64 1)),none⟩,⟨some 8,.mov (.t 16),none⟩])))))⟩
def rf287 : RF := ⟨63,[],.seq (
.ops [] [⟨some 3,.box none (.t 0) none,none⟩]) (
.seq (
.ops [] [⟨some 6,.load false 1 (.t 1),none⟩,⟨some 7,.nilchk (.t 6),none⟩,⟨some 8,.fa 0 (.t 7),none⟩,⟨some 9,.fa 4 (.t 8),none⟩,⟨some 10,.load false 1 (.t 9),none⟩,⟨some 11,.build [(.int .i64 0),(.int .i64 0)] [(0,1,(.c (.int .i64 (-9007199254740992))))],none⟩,⟨some 12,.build [(.int .i64 0),(.int .i64 0)] [(0,1,(.c (.int .i64 (-9007199254740992))))],none⟩,⟨some 13,.build [(.int .i64 0),(.int .i64 0),(.int .i64 0),(.int .i64 0),(.int .i64 0)] [(0,1,(.t 10)),(1,2,(.t 11)),(3,2,(.t 12))],none⟩,⟨some 4,.alloc (some 5) (.agg [(.int .i64 0),(.int .i64 0),(.int .i64 0),(.int .i64 0),(.int .i64 0)]) none,none⟩,⟨none,.store 5 (.t 4) (.t 13),none⟩]) (
.seq (
.seq (
.ops [] [⟨some 14,.load false 1 (.t 1),none⟩,⟨some 15,.call (.c (.fn 193 [] [])) [(.t 14),(.c (.int .i64 (-2251799813685248)))],none⟩]) (
.block 0 ( .rangeF (.t 15) [16] ( .ops [] [⟨some 5,.alloc (some 2) (.agg [(.int .i64 0),(.int .i64 0)]) none,none⟩,⟨none,.store 2 (.t 5) (.t 16),none⟩]) ( .block 1 ( .seq ( .dops [] 0 [⟨some 17,.fa 0 (.t 5),none⟩,⟨some 18,.load false 1 (.t 17),none⟩,⟨some 19,.fa 0 (.t 5),none⟩,⟨some 20,.load false 1 (.t 19),none⟩,⟨some 21,.fa 0 (.t 4),none⟩,⟨some 22,.load false 1 (.t 21),none⟩,⟨some 23,.fa 1 (.t 5),none⟩,⟨some 24,.load false 1 (.t 23),none⟩,⟨some 25,.mn [(.t 22),(.t 24)],none⟩,⟨some 26,.bin .add (.t 20) (.t 25),none⟩,⟨some 27,.fa 1 (.t 4),none⟩,⟨some 28,.fa 1 (.t 27),none⟩,⟨none,.store 1 (.t 28) (.t 18),none⟩,⟨some 29,.fa 3 (.t 4),none⟩,⟨some 30,.fa 1 (.t 29),none⟩,⟨none,.store 1 (.t 30) (.t 26),none⟩] [(3,12),(7,12)]) ( .seq ( .seq ( .ops [] [⟨some 31,.load false 1 (.t 3),none⟩,⟨some 32,.load true 5 (.t 4),none⟩,⟨some 33,.call (.t 31) [(.t 32)],none⟩,⟨some 34,.un .not (.t 33),none⟩,⟨some 35,.mov (.t 34),none⟩,⟨some 36,.fa 0 (.t 5),(some (35,false))⟩,⟨some 37,.load false 1 (.t 36),(some (35,false))⟩,⟨some 38,.load false 1 (.t 2),(some (35,false))⟩,⟨some 39,.bin .gtr (.t 37) (.t 38),(some (35,false))⟩,⟨some 40,.pick (.t 35) (.c (.bool true)) (.t 39),none⟩]) ( .cond (.t 40) ( .ret) ( .skip))) ( .ops [] [⟨some 41,.fa 1 (.t 5),none⟩,⟨some 42,.load false 1 (.t 41),none⟩,⟨some 43,.fa 0 (.t 5),none⟩,⟨some 44,.load false 1 (.t 43),none⟩,⟨some 45,.build [(.int .i64 0),(.int .i64 0)] [(0,1,(.t 44))],none⟩,⟨some 46,.fa 0 (.t 5),none⟩,⟨some 47,.load false 1 (.t 46),none⟩,⟨some 48,.fa 0 (.t 4),none⟩,⟨some 49,.load false 1 (.t 48),none⟩,⟨some 50,.fa 1 (.t 5),none⟩,⟨some 51,.load false 1 (.t 50),none⟩,⟨some 52,.mx [(.t 49),(.t 51)],none⟩,⟨some 53,.bin .add (.t 47) (.t 52),none⟩,⟨some 54,.build [(.int .i64 0),(.int .i64 0)] [(0,1,(.t 53))],none⟩,⟨some 55,.build [(.int .i64 0),(.int .i64 0),(.int .i64 0),(.int .i64 0),(.int .i64 0)] [(0,1,(.t 42)),(1,2,(.t 45)),(3,2,(.t 54))],none⟩,⟨none,.store 5 (.t 4) (.t 55),none⟩]))))))) (
.seq (
.ops [] [⟨some 56,.fa 1 (.t 4),none⟩,⟨some 57,.fa 1 (.t 56),none⟩,⟨none,.store 1 (.t 57) (.c (.int .i64 9007199254740992)),none⟩,⟨some 58,.fa 3 (.t 4),none⟩,⟨some 59,.fa 1 (.t 58),none⟩,⟨none,.store 1 (.t 59) (.c (.int .i64 9007199254740992)),none⟩]) (
.ops [] [⟨some 60,.load false 1 (.t 3),none⟩,⟨some 61,.load true 5 (.t 4),none⟩,⟨some 62,.call (.t 60) [(.t 61)],none⟩]))))⟩
def rf288 : RF := ⟨148,[],.seq (
.ops [] [⟨some 10,.mov (.c (.bool true)),none⟩]) (
.seq (
.ops [] [⟨some 11,.mov (.c (.bool true)),none⟩]) (
.block 0 ( .loop ( .block 1 ( .seq ( .ops [] [⟨some 21,.mov (.t 2),none⟩,⟨some 22,.mov (.t 1),none⟩,⟨some 23,.bin .sub (.t 21) (.t 22),none⟩,⟨some 12,.mov (.t 23),none⟩]) ( .seq ( .seq ( .ops [] [⟨some 24,.mov (.t 12),none⟩,⟨some 25,.bin .leq (.t 24) (.c (.int .i64 12)),none⟩]) ( .cond (.t 25) ( .seq ( .ops [] [⟨some 26,.mov (.t 0),none⟩,⟨some 27,.mov (.t 1),none⟩,⟨some 28,.mov (.t 2),none⟩,⟨some 29,.mov (.t 4),none⟩,⟨some 30,.call (.c (.fn 320 [] [])) [(.t 26),(.t 27),(.t 28),(.t 29)],none⟩]) ( .ret)) ( .skip))) ( .seq ( .seq ( .ops [] [⟨some 31,.mov (.t 3),none⟩,⟨some 32,.bin .eql (.t 31) (.c (.int .i64 0)),none⟩]) ( .cond (.t 32) ( .seq ( .ops [] [⟨some 33,.mov (.t 0),none⟩,⟨some 34,.mov (.t 1),none⟩,⟨some 35,.mov (.t 2),none⟩,⟨some 36,.mov (.t 4),none⟩,⟨some 37,.call (.c (.fn 321 [] [])) [(.t 33),(.t 34),(.t 35),(.t 36)],none⟩]) ( .ret)) ( .skip))) ( .seq ( .seq ( .ops [] [⟨some 38,.mov (.t 10),none⟩,⟨some 39,.un .not (.t 38),none⟩]) ( .cond (.t 39) ( .seq ( .ops [] [⟨some 40,.mov (.t 0),none⟩,⟨some 41,.mov (.t 1),none⟩,⟨some 42,.mov (.t 2),none⟩,⟨some 43,.mov (.t 4),none⟩,⟨some 44,.call (.c (.fn 322 [] [])) [(.t 40),(.t 41),(.t 42),(.t 43)],none⟩]) ( .ops [] [⟨some 45,.mov (.t 3),none⟩,⟨some 46,.bin .sub (.t 45) (.c (.int .i64 1)),none⟩,⟨some 3,.mov (.t 46),none⟩])) ( .skip))) ( .seq ( .ops [] [⟨some 48,.mov (.t 0),none⟩,⟨some 49,.mov (.t 1),none⟩,⟨some 50,.mov (.t 2),none⟩,⟨some 51,.mov (.t 4),none⟩,⟨some 52,.call (.c (.fn 323 [] [])) [(.t 48),(.t 49),(.t 50),(.t 51)],none⟩,⟨some 47,.mov (.t 52),none⟩,⟨some 53,.ext (.t 47) 0,none⟩,⟨some 54,.ext (.t 47) 1,none⟩,⟨some 13,.mov (.t 53),none⟩,⟨some 14,.mov (.t 54),none⟩]) ( .seq ( .seq ( .ops [] [⟨some 55,.mov (.t 14),none⟩,⟨some 56,.bin .eql (.t 55) (.c (.int .i64 2)),none⟩]) ( .cond (.t 56) ( .seq ( .ops [] [⟨some 57,.mov (.t 0),none⟩,⟨some 58,.mov (.t 1),none⟩,⟨some 59,.mov (.t 2),none⟩,⟨some 60,.mov (.t 4),none⟩,⟨some 61,.call (.c (.fn 324 [] [])) [(.t 57),(.t 58),(.t 59),(.t 60)],none⟩]) ( .seq ( .ops [] [⟨some 62,.mov (.t 2),none⟩,⟨some 63,.bin .sub (.t 62) (.c (.int .i64 1)),none⟩,⟨some 64,.mov (.t 13),none⟩,⟨some 65,.mov (.t 1),none⟩,⟨some 66,.bin .sub (.t 64) (.t 65),none⟩,⟨some 67,.bin .sub (.t 63) (.t 66),none⟩,⟨some 13,.mov (.t 67),none⟩]) ( .ops [] [⟨some 14,.mov (.c (.int .i64 1)),none⟩]))) ( .skip))) ( .seq ( .seq ( .ops [] [⟨some 68,.mov (.t 10),none⟩,⟨some 69,.mov (.t 68),none⟩,⟨some 70,.mov (.t 11),(some (69,true))⟩,⟨some 71,.pick (.t 69) (.t 70) (.c (.bool false)),none⟩,⟨some 72,.mov (.t 71),none⟩,⟨some 73,.mov (.t 14),(some (72,true))⟩,⟨some 74,.bin .eql (.t 73) (.c (.int .i64 1)),(some (72,true))⟩,⟨some 75,.pick (.t 72) (.t 74) (.c (.bool false)),none⟩]) ( .cond (.t 75) ( .seq ( .ops [] [⟨some 76,.mov (.t 0),none⟩,⟨some 77,.mov (.t 1),none⟩,⟨some 78,.mov (.t 2),none⟩,⟨some 79,.mov (.t 4),none⟩,⟨some 80,.call (.c (.fn 325 [] [])) [(.t 76),(.t 77),(.t 78),(.t 79)],none⟩]) ( .cond (.t 80) ( .ret) ( .skip))) ( .skip))) ( .seq ( .seq ( .dops [] 0 [⟨some 81,.mov (.t 1),none⟩,⟨some 82,.bin .gtr (.t 81) (.c (.int .i64 0)),none⟩,⟨some 83,.mov (.t 82),none⟩,⟨some 84,.mov (.t 4),(some (83,true))⟩,⟨some 85,.mov (.t 0),(some (83,true))⟩,⟨some 86,.mov (.t 1),(some (83,true))⟩,⟨some 87,.bin .sub (.t 86) (.c (.int .i64 1)),(some (83,true))⟩,⟨some 88,.ia 5 (.t 85) (.t 87),(some (83,true))⟩,⟨some 89,.load true 5 (.t 88),(some (83,true))⟩,⟨some 90,.mov (.t 0),(some (83,true))⟩,⟨some 91,.mov (.t 13),(some (83,true))⟩,⟨some 92,.ia 5 (.t 90) (.t 91),(some (83,true))⟩,⟨some 93,.load true 5 (.t 92),(some (83,true))⟩,⟨some 94,.call (.t 84) [(.t 89),(.t 93)],(some (83,true))⟩,⟨some 95,.bin .lss (.t 94) (.c (.int .i64 0)),(some (83,true))⟩,⟨some 96,.un .not (.t 95),(some (83,true))⟩,⟨some 97,.pick (.t 83) (.t 96) (.c (.bool false)),none⟩] []) ( .cond (.t 97) ( .seq ( .ops [] [⟨some 98,.mov (.t 0),none⟩,⟨some 99,.mov (.t 1),none⟩,⟨some 100,.mov (.t 2),none⟩,⟨some 101,.mov (.t 13),none⟩,⟨some 102,.mov (.t 4),none⟩,⟨some 103,.call (.c (.fn 326 [] [])) [(.t 98),(.t 99),(.t 100),(.t 101),(.t 102)],none⟩,⟨some 15,.mov (.t 103),none⟩]) ( .seq ( .ops [] [⟨some 104,.mov (.t 15),none⟩,⟨some 1,.mov (.t 104),none⟩]) ( .exit 1))) ( .skip))) ( .seq ( .ops [] [⟨some 106,.mov (.t 0),none⟩,⟨some 107,.mov (.t 1),none⟩,⟨some 108,.mov (.t 2),none⟩,⟨some 109,.mov (.t 13),none⟩,⟨some 110,.mov (.t 4),none⟩,⟨some 111,.call (.c (.fn 327 [] [])) [(.t 106),(.t 107),(.t 108),(.t 109),(.t 110)],none⟩,⟨some 105,.mov (.t 111),none⟩,⟨some 112,.ext (.t 105) 0,none⟩,⟨some 113,.ext (.t 105) 1,none⟩,⟨some 16,.mov (.t 112),none⟩,⟨some 17,.mov (.t 113),none⟩]) ( .seq ( .ops [] [⟨some 114,.mov (.t 17),none⟩,⟨some 11,.mov (.t 114),none⟩]) ( .seq ( .ops [] [⟨some 115,.mov (.t 16),none⟩,⟨some 116,.mov (.t 1),none⟩,⟨some 117,.bin .sub (.t 115) (.t 116),none⟩,⟨some 118,.mov (.t 2),none⟩,⟨some 119,.mov (.t 16),none⟩,⟨some 120,.bin .sub (.t 118) (.t 119),none⟩,⟨some 18,.mov (.t 117),none⟩,⟨some 19,.mov (.t 120),none⟩]) ( .seq ( .ops [] [⟨some 121,.mov (.t 12),none⟩,⟨some 122,.bin .quo (.t 121) (.c (.int .i64 8)),none⟩,⟨some 20,.mov (.t 122),none⟩]) ( .seq ( .ops [] [⟨some 123,.mov (.t 18),none⟩,⟨some 124,.mov (.t 19),none⟩,⟨some 125,.bin .lss (.t 123) (.t 124),none⟩]) ( .cond (.t 125) ( .seq ( .ops [] [⟨some 126,.mov (.t 18),none⟩,⟨some 127,.mov (.t 20),none⟩,⟨some 128,.bin .geq (.t 126) (.t 127),none⟩,⟨some 10,.mov (.t 128),none⟩]) ( .seq ( .ops [] [⟨some 129,.mov (.t 0),none⟩,⟨some 130,.mov (.t 1),none⟩,⟨some 131,.mov (.t 16),none⟩,⟨some 132,.mov (.t 3),none⟩,⟨some 133,.mov (.t 4),none⟩,⟨some 134,.call (.c (.fn 288 [] [])) [(.t 129),(.t 130),(.t 131),(.t 132),(.t 133)],none⟩]) ( .ops [] [⟨some 135,.mov (.t 16),none⟩,⟨some 136,.bin .add (.t 135) (.c (.int .i64 1)),none⟩,⟨some 1,.mov (.t 136),none⟩]))) ( .seq ( .ops [] [⟨some 137,.mov (.t 19),none⟩,⟨some 138,.mov (.t 20),none⟩,⟨some 139,.bin .geq (.t 137) (.t 138),none⟩,⟨some 10,.mov (.t 139),none⟩]) ( .seq ( .ops [] [⟨some 140,.mov (.t 0),none⟩,⟨some 141,.mov (.t 16),none⟩,⟨some 142,.bin .add (.t 141) (.c (.int .i64 1)),none⟩,⟨some 143,.mov (.t 2),none⟩,⟨some 144,.mov (.t 3),none⟩,⟨some 145,.mov (.t 4),none⟩,⟨some 146,.call (.c (.fn 288 [] [])) [(.t 140),(.t 142),(.t 143),(.t 144),(.t 145)],none⟩]) ( .ops [] [⟨some 147,.mov (.t 16),none⟩,⟨some 2,.mov (.t 147),none⟩])))))))))))))))))))))⟩
def rf289 : RF := ⟨8,[.tmp 2],.seq (
.ops [] [⟨some 2,.mov (.c .nils),none⟩]) (
.seq (
.seq (
.ops [] [⟨some 3,.mov (.t 0),none⟩,⟨some 4,.nileq false .sl (.t 3) (.c .nils),none⟩]) (
.cond (.t 4) ( .seq ( .ops [] [⟨some 2,.mov (.c .nils),none⟩]) ( .ret)) ( .skip))) (
.seq (
.ops [] [⟨some 5,.bsl (some none) none (.int .i64 0) 0 [],none⟩,⟨some 6,.mov (.t 0),none⟩,⟨some 7,.app none 8 (.t 5) (.t 6),none⟩,⟨some 2,.mov (.t 7),none⟩]) (
.ret)))⟩
def rf290 : RF := ⟨42,[.tmp 4,.tmp 5],.seq (
.ops [] [⟨some 2,.box none (.t 0) none,none⟩,⟨some 3,.box none (.t 1) none,none⟩,⟨some 4,.mov (.c (.int .i64 0)),none⟩,⟨some 5,.mov (.c .nils),none⟩]) (
.seq (
.ops [] [⟨some 9,.load false 1 (.t 3),none⟩,⟨some 10,.len (.t 9),none⟩,⟨some 6,.alloc none (.int .i64 0) none,none⟩,⟨none,.store 1 (.t 6) (.t 10),none⟩]) (
.seq (
.ops [] [⟨some 11,.mkfn 328 [] [(.t 2),(.t 6),(.t 3)],none⟩,⟨some 7,.mov (.t 11),none⟩]) (
.seq (
.seq (
.ops [] [⟨some 12,.load false 1 (.t 6),none⟩,⟨some 8,.mov (.t 12),none⟩]) (
.block 0 ( .loop ( .seq ( .seq ( .ops [] [⟨some 13,.mov (.t 8),none⟩,⟨some 14,.bin .gtr (.t 13) (.c (.int .i64 1)),none⟩]) ( .cond (.t 14) ( .skip) ( .exit 0))) ( .seq ( .block 1 ( .seq ( .ops [] [⟨some 17,.load false 1 (.t 6),none⟩,⟨some 18,.mov (.t 8),none⟩,⟨some 19,.bin .rem (.t 17) (.t 18),none⟩,⟨some 20,.bin .eql (.t 19) (.c (.int .i64 0)),none⟩,⟨some 21,.mov (.t 20),none⟩,⟨some 22,.load false 1 (.t 2),(some (21,true))⟩,⟨some 23,.mov (.t 8),(some (21,true))⟩,⟨some 24,.bin .rem (.t 22) (.t 23),(some (21,true))⟩,⟨some 25,.bin .eql (.t 24) (.c (.int .i64 0)),(some (21,true))⟩,⟨some 26,.pick (.t 21) (.t 25) (.c (.bool false)),none⟩,⟨some 27,.mov (.t 26),none⟩,⟨some 28,.mov (.t 7),(some (27,true))⟩,⟨some 29,.mov (.t 8),(some (27,true))⟩,⟨some 30,.call (.t 28) [(.t 29)],(some (27,true))⟩,⟨some 31,.pick (.t 27) (.t 30) (.c (.bool false)),none⟩]) ( .cond (.t 31) ( .seq ( .dops [] 0 [⟨some 32,.load false 1 (.t 2),none⟩,⟨some 33,.mov (.t 8),none⟩,⟨some 34,.bin .quo (.t 32) (.t 33),none⟩,⟨some 35,.load false 1 (.t 3),none⟩,⟨some 36,.load false 1 (.t 6),none⟩,⟨some 37,.mov (.t 8),none⟩,⟨some 38,.bin .quo (.t 36) (.t 37),none⟩,⟨some 39,.slice 1 (.t 35) none (some (.t 38)) none,none⟩,⟨some 4,.mov (.t 34),none⟩,⟨some 5,.mov (.t 39),none⟩] []) ( .ret)) ( .skip)))) ( .ops [] [⟨some 15,.mov (.t 8),none⟩,⟨some 16,.bin .sub (.t 15) (.c (.int .i64 1)),none⟩,⟨some 8,.mov (.t 16),none⟩])))))) (
.seq (
.dops [] 0 [⟨some 40,.load false 1 (.t 2),none⟩,⟨some 41,.load false 1 (.t 3),none⟩,⟨some 4,.mov (.t 40),none⟩,⟨some 5,.mov (.t 41),none⟩] []) (
.ret)))))⟩
def rf291 : RF := ⟨4,[.tmp 2],.seq (
.ops [] [⟨some 1,.box none (.t 0) none,none⟩,⟨some 2,.mov (.c .nilf),none⟩]) (
.seq (
.ops [] [⟨some 3,.mkfn 329 [] [(.t 1)],none⟩,⟨some 2,.mov (.t 3),none⟩]) (
.ret))⟩
def rf292 : RF := ⟨72,[.cell 6 true 13],.seq (
.ops [] [⟨some 3,.box (some 4) (.t 0) none,none⟩,⟨some 4,.box (some 4) (.t 1) none,none⟩,⟨some 6,.alloc (some 13) (.agg [.nils,(.int .i64 0),(.int .i64 0),.nils,.nils,(.int .i64 0),(.int .i64 0),.nils,(.int .i64 0),.nils,.nils,(.int .i64 0),.nilm]) none,none⟩]) (
.seq (
.dops [] 2 [⟨some 10,.load true 4 (.t 3),none⟩,⟨some 11,.call (.c (.fn 255 [] [])) [(.t 10)],none⟩,⟨some 12,.load true 4 (.t 4),none⟩,⟨some 13,.call (.c (.fn 255 [] [])) [(.t 12)],none⟩,⟨some 14,.mkmap (some 0),none⟩,⟨some 15,.build [.nils,(.int .i64 0),(.int .i64 0),.nils,.nils,(.int .i64 0),(.int .i64 0),.nils,(.int .i64 0),.nils,.nils,(.int .i64 0),.nilm] [(0,4,(.t 11)),(4,4,(.t 13)),(12,1,(.t 14))],none⟩,⟨some 7,.alloc (some 13) (.agg [.nils,(.int .i64 0),(.int .i64 0),.nils,.nils,(.int .i64 0),(.int .i64 0),.nils,(.int .i64 0),.nils,.nils,(.int .i64 0),.nilm]) (some 1),none⟩,⟨none,.store 13 (.t 7) (.t 15),none⟩] []) (
.seq (
.ops [] [⟨some 16,.fa 0 (.t 7),none⟩,⟨some 17,.fa 1 (.t 16),none⟩,⟨some 18,.load false 1 (.t 17),none⟩,⟨some 19,.fa 4 (.t 7),none⟩,⟨some 20,.fa 1 (.t 19),none⟩,⟨some 21,.load false 1 (.t 20),none⟩,⟨some 22,.mov (.t 2),none⟩,⟨some 23,.mx [(.t 18),(.t 21),(.t 22)],none⟩,⟨some 24,.fa 8 (.t 7),none⟩,⟨none,.store 1 (.t 24) (.t 23),none⟩]) (
.seq (
.dops [] 0 [⟨some 25,.fa 0 (.t 7),none⟩,⟨some 26,.load true 4 (.t 25),none⟩,⟨some 27,.fa 8 (.t 7),none⟩,⟨some 28,.load false 1 (.t 27),none⟩,⟨some 31,.fa 4 (.t 7),none⟩,⟨some 32,.load true 4 (.t 31),none⟩,⟨some 33,.fa 8 (.t 7),none⟩,⟨some 34,.load false 1 (.t 33),none⟩,⟨some 29,.call (.c (.fn 270 [] [])) [(.t 26),(.t 28)],none⟩,⟨some 30,.fld false 3 1 (.t 29),none⟩,⟨some 37,.fa 9 (.t 7),none⟩,⟨some 35,.call (.c (.fn 270 [] [])) [(.t 32),(.t 34)],none⟩,⟨some 36,.fld false 3 1 (.t 35),none⟩,⟨none,.store 1 (.t 37) (.t 30),none⟩,⟨some 38,.fa 10 (.t 7),none⟩,⟨none,.store 1 (.t 38) (.t 36),none⟩] []) (
.seq (
.ops [] [⟨some 39,.fa 0 (.t 7),none⟩,⟨some 40,.fa 2 (.t 39),none⟩,⟨some 41,.load false 1 (.t 40),none⟩,⟨some 42,.fa 4 (.t 7),none⟩,⟨some 43,.fa 2 (.t 42),none⟩,⟨some 44,.load false 1 (.t 43),none⟩,⟨some 45,.call (.c (.fn 263 [] [])) [(.t 41),(.t 44)],none⟩,⟨some 46,.fa 11 (.t 7),none⟩,⟨none,.store 1 (.t 46) (.t 45),none⟩]) (
.seq (
.seq (
.ops [] [⟨some 47,.fa 10 (.t 7),none⟩,⟨some 48,.load false 1 (.t 47),none⟩,⟨some 49,.len (.t 48),none⟩,⟨some 50,.mov (.c (.int .i64 0)),none⟩]) (
.block 0 ( .loop ( .seq ( .ops [] [⟨some 51,.bin .lss (.t 50) (.t 49),none⟩]) ( .seq ( .cond (.t 51) ( .skip) ( .exit 0)) ( .seq ( .block 1 ( .seq ( .ops [] [⟨some 52,.ia 1 (.t 48) (.t 50),none⟩,⟨some 53,.load false 1 (.t 52),none⟩,⟨some 9,.mov (.t 53),none⟩]) ( .dops [] 0 [⟨some 54,.fa 12 (.t 7),none⟩,⟨some 55,.load false 1 (.t 54),none⟩,⟨some 56,.mov (.t 9),none⟩,⟨some 57,.fa 11 (.t 7),none⟩,⟨some 58,.load false 1 (.t 57),none⟩,⟨some 59,.bin .rem (.t 56) (.t 58),none⟩,⟨some 60,.fa 12 (.t 7),none⟩,⟨some 61,.load false 1 (.t 60),none⟩,⟨some 62,.mov (.t 9),none⟩,⟨some 63,.fa 11 (.t 7),none⟩,⟨some 64,.load false 1 (.t 63),none⟩,⟨some 65,.bin .rem (.t 62) (.t 64),none⟩,⟨some 66,.look false [.int] .nils (.t 61) (.t 65) false,none⟩,⟨some 67,.mov (.t 9),none⟩,⟨some 68,.bsl none none (.int .i64 0) 1 [(0,(.t 67))],none⟩,⟨some 69,.app none 8 (.t 66) (.t 68),none⟩,⟨none,.mupd false [.int] (.t 55) (.t 59) (.t 69),none⟩] [(1,15),(4,15)]))) ( .ops [] [⟨some 70,.bin .add (.t 50) (.c (.int .i64 1)),none⟩,⟨some 50,.mov (.t 70),none⟩]))))))) (
.seq (
.ops [] [⟨some 71,.load true 13 (.t 7),none⟩,⟨none,.store 13 (.t 6) (.t 71),none⟩]) (
.ret)))))))⟩
def rf293 : RF := ⟨35,[.tmp 2],.seq (
.ops [] [⟨some 1,.box (some 13) (.t 0) none,none⟩,⟨some 2,.mov (.c .nils),none⟩]) (
.seq (
.dops [] 2 [⟨some 8,.fa 0 (.t 1),none⟩,⟨some 9,.load true 4 (.t 8),none⟩,⟨some 10,.fa 4 (.t 1),none⟩,⟨some 11,.load true 4 (.t 10),none⟩,⟨some 3,.alloc (some 4) (.agg [.nils,(.int .i64 0),(.int .i64 0),.nils]) (some 0),none⟩,⟨some 4,.alloc (some 4) (.agg [.nils,(.int .i64 0),(.int .i64 0),.nils]) (some 1),none⟩,⟨none,.store 4 (.t 3) (.t 9),none⟩,⟨none,.store 4 (.t 4) (.t 11),none⟩] [(3,6)]) (
.seq (
.seq (
.ops [] [⟨some 12,.fa 1 (.t 3),none⟩,⟨some 13,.load false 1 (.t 12),none⟩,⟨some 14,.fa 8 (.t 1),none⟩,⟨some 15,.load false 1 (.t 14),none⟩,⟨some 16,.bin .neq (.t 13) (.t 15),none⟩]) (
.cond (.t 16) ( .ops [] [⟨some 17,.load true 4 (.t 4),none⟩,⟨some 18,.load true 4 (.t 3),none⟩,⟨none,.store 4 (.t 3) (.t 17),none⟩,⟨none,.store 4 (.t 4) (.t 18),none⟩]) ( .skip))) (
.seq (
.ops [] [⟨some 5,.mov (.c .nils),none⟩]) (
.seq (
.seq (
.ops [] [⟨some 19,.fa 0 (.t 3),none⟩,⟨some 20,.load false 1 (.t 19),none⟩,⟨some 21,.len (.t 20),none⟩,⟨some 22,.mov (.c (.int .i64 0)),none⟩]) (
.block 0 ( .loop ( .seq ( .ops [] [⟨some 23,.bin .lss (.t 22) (.t 21),none⟩]) ( .seq ( .cond (.t 23) ( .skip) ( .exit 0)) ( .seq ( .block 1 ( .seq ( .ops [] [⟨some 24,.ia 1 (.t 20) (.t 22),none⟩,⟨some 25,.load false 1 (.t 24),none⟩,⟨some 7,.mov (.t 25),none⟩]) ( .seq ( .ops [] [⟨some 26,.load true 4 (.t 4),none⟩,⟨some 27,.mov (.t 7),none⟩,⟨some 28,.call (.c (.fn 305 [] [])) [(.t 26),(.t 27)],none⟩]) ( .cond (.t 28) ( .ops [] [⟨some 29,.mov (.t 5),none⟩,⟨some 30,.mov (.t 7),none⟩,⟨some 31,.bsl none none (.int .i64 0) 1 [(0,(.t 30))],none⟩,⟨some 32,.app none 8 (.t 29) (.t 31),none⟩,⟨some 5,.mov (.t 32),none⟩]) ( .skip))))) ( .ops [] [⟨some 33,.bin .add (.t 22) (.c (.int .i64 1)),none⟩,⟨some 22,.mov (.t 33),none⟩]))))))) (
.seq (
.ops [] [⟨some 34,.mov (.t 5),none⟩,⟨some 2,.mov (.t 34),none⟩]) (
.ret))))))⟩
def rf294 : RF := ⟨25,[.tmp 2],.seq (
.ops [] [⟨some 1,.box (some 13) (.t 0) none,none⟩,⟨some 2,.mov (.c (.int .i64 0)),none⟩]) (
.seq (
.ops [] [⟨some 3,.mov (.c (.int .i64 0)),none⟩]) (
.seq (
.seq (
.ops [] [⟨some 6,.fa 9 (.t 1),none⟩,⟨some 7,.load false 1 (.t 6),none⟩,⟨some 8,.len (.t 7),none⟩,⟨some 9,.mov (.c (.int .i64 0)),none⟩]) (
.block 0 ( .loop ( .seq ( .ops [] [⟨some 10,.bin .lss (.t 9) (.t 8),none⟩]) ( .seq ( .cond (.t 10) ( .skip) ( .exit 0)) ( .seq ( .block 1 ( .seq ( .ops [] [⟨some 11,.ia 1 (.t 7) (.t 9),none⟩,⟨some 12,.load false 1 (.t 11),none⟩,⟨some 5,.mov (.t 12),none⟩]) ( .dops [] 0 [⟨some 13,.mov (.t 3),none⟩,⟨some 14,.fa 12 (.t 1),none⟩,⟨some 15,.load false 1 (.t 14),none⟩,⟨some 16,.mov (.t 5),none⟩,⟨some 17,.fa 11 (.t 1),none⟩,⟨some 18,.load false 1 (.t 17),none⟩,⟨some 19,.bin .rem (.t 16) (.t 18),none⟩,⟨some 20,.look false [.int] .nils (.t 15) (.t 19) false,none⟩,⟨some 21,.len (.t 20),none⟩,⟨some 22,.bin .add (.t 13) (.t 21),none⟩,⟨some 3,.mov (.t 22),none⟩] []))) ( .ops [] [⟨some 23,.bin .add (.t 9) (.c (.int .i64 1)),none⟩,⟨some 9,.mov (.t 23),none⟩]))))))) (
.seq (
.ops [] [⟨some 24,.mov (.t 3),none⟩,⟨some 2,.mov (.t 24),none⟩]) (
.ret))))⟩
def rf295 : RF := ⟨51,[.tmp 4],.seq (
.ops [] [⟨some 2,.box (some 4) (.t 0) none,none⟩,⟨some 4,.mov (.c (.int .i64 0)),none⟩]) (
.seq (
.seq (
.ops [] [⟨some 9,.mov (.t 1),none⟩,⟨some 10,.fa 1 (.t 2),none⟩,⟨some 11,.load false 1 (.t 10),none⟩,⟨some 12,.bin .leq (.t 9) (.t 11),none⟩]) (
.cond (.t 12) ( .seq ( .ops [] [⟨some 14,.fa 0 (.t 2),none⟩,⟨some 15,.load false 1 (.t 14),none⟩,⟨some 16,.mov (.t 1),none⟩,⟨some 17,.call (.c (.fn 147 [] [])) [(.t 15),(.t 16)],none⟩,⟨some 13,.mov (.t 17),none⟩,⟨some 18,.ext (.t 13) 0,none⟩,⟨some 19,.ext (.t 13) 1,none⟩,⟨some 5,.mov (.t 18),none⟩,⟨some 6,.mov (.t 19),none⟩]) ( .seq ( .ops [] [⟨some 20,.mov (.t 5),none⟩,⟨some 4,.mov (.t 20),none⟩]) ( .ret))) ( .skip))) (
.seq (
.dops [] 0 [⟨some 22,.fa 3 (.t 2),none⟩,⟨some 23,.load false 1 (.t 22),none⟩,⟨some 24,.mov (.t 1),none⟩,⟨some 25,.fa 1 (.t 2),none⟩,⟨some 26,.load false 1 (.t 25),none⟩,⟨some 27,.bin .sub (.t 24) (.t 26),none⟩,⟨some 28,.fa 2 (.t 2),none⟩,⟨some 29,.load false 1 (.t 28),none⟩,⟨some 30,.bin .rem (.t 27) (.t 29),none⟩,⟨some 31,.call (.c (.fn 147 [] [])) [(.t 23),(.t 30)],none⟩,⟨some 21,.mov (.t 31),none⟩,⟨some 32,.ext (.t 21) 0,none⟩,⟨some 33,.ext (.t 21) 1,none⟩,⟨some 7,.mov (.t 32),none⟩,⟨some 8,.mov (.t 33),none⟩] []) (
.seq (
.dops [] 0 [⟨some 34,.fa 0 (.t 2),none⟩,⟨some 35,.load false 1 (.t 34),none⟩,⟨some 36,.len (.t 35),none⟩,⟨some 37,.mov (.t 1),none⟩,⟨some 38,.fa 1 (.t 2),none⟩,⟨some 39,.load false 1 (.t 38),none⟩,⟨some 40,.bin .sub (.t 37) (.t 39),none⟩,⟨some 41,.fa 2 (.t 2),none⟩,⟨some 42,.load false 1 (.t 41),none⟩,⟨some 43,.bin .quo (.t 40) (.t 42),none⟩,⟨some 44,.fa 3 (.t 2),none⟩,⟨some 45,.load false 1 (.t 44),none⟩,⟨some 46,.len (.t 45),none⟩,⟨some 47,.bin .mul (.t 43) (.t 46),none⟩,⟨some 48,.bin .add (.t 36) (.t 47),none⟩,⟨some 49,.mov (.t 7),none⟩,⟨some 50,.bin .add (.t 48) (.t 49),none⟩,⟨some 4,.mov (.t 50),none⟩] []) (
.ret))))⟩
def rf296 : RF := ⟨54,[.tmp 4],.seq (
.ops [] [⟨some 2,.box (some 13) (.t 0) none,none⟩,⟨some 4,.mov (.c .nils),none⟩]) (
.seq (
.seq (
.ops [] [⟨some 12,.fa 9 (.t 2),none⟩,⟨some 13,.load false 1 (.t 12),none⟩,⟨some 14,.len (.t 13),none⟩,⟨some 15,.mov (.c (.int .i64 0)),none⟩]) (
.block 0 ( .loop ( .seq ( .ops [] [⟨some 16,.bin .lss (.t 15) (.t 14),none⟩]) ( .seq ( .cond (.t 16) ( .skip) ( .exit 0)) ( .seq ( .block 1 ( .seq ( .ops [] [⟨some 17,.ia 1 (.t 13) (.t 15),none⟩,⟨some 18,.load false 1 (.t 17),none⟩,⟨some 6,.mov (.t 18),none⟩]) ( .seq ( .dops [] 0 [⟨some 19,.fa 12 (.t 2),none⟩,⟨some 20,.load false 1 (.t 19),none⟩,⟨some 21,.mov (.t 6),none⟩,⟨some 22,.fa 11 (.t 2),none⟩,⟨some 23,.load false 1 (.t 22),none⟩,⟨some 24,.bin .rem (.t 21) (.t 23),none⟩,⟨some 25,.look false [.int] .nils (.t 20) (.t 24) false,none⟩,⟨some 26,.len (.t 25),none⟩,⟨some 27,.mov (.c (.int .i64 0)),none⟩] []) ( .block 2 ( .loop ( .seq ( .ops [] [⟨some 28,.bin .lss (.t 27) (.t 26),none⟩]) ( .seq ( .cond (.t 28) ( .skip) ( .exit 2)) ( .seq ( .block 3 ( .seq ( .ops [] [⟨some 29,.ia 1 (.t 25) (.t 27),none⟩,⟨some 30,.load false 1 (.t 29),none⟩,⟨some 8,.mov (.t 30),none⟩]) ( .seq ( .ops [] [⟨some 32,.mov (.t 6),none⟩,⟨some 33,.fa 0 (.t 2),none⟩,⟨some 34,.fa 2 (.t 33),none⟩,⟨some 35,.load false 1 (.t 34),none⟩,⟨some 36,.mov (.t 8),none⟩,⟨some 37,.fa 4 (.t 2),none⟩,⟨some 38,.fa 2 (.t 37),none⟩,⟨some 39,.load false 1 (.t 38),none⟩,⟨some 40,.call (.c (.fn 330 [] [])) [(.t 32),(.t 35),(.t 36),(.t 39)],none⟩,⟨some 31,.mov (.t 40),none⟩,⟨some 41,.ext (.t 31) 0,none⟩,⟨some 42,.ext (.t 31) 1,none⟩,⟨some 43,.ext (.t 31) 2,none⟩,⟨some 9,.mov (.t 41),none⟩,⟨some 10,.mov (.t 42),none⟩,⟨some 11,.mov (.t 43),none⟩]) ( .ops [] [⟨some 44,.mov (.t 1),none⟩,⟨some 45,.fa 8 (.t 2),none⟩,⟨some 46,.load false 1 (.t 45),none⟩,⟨some 47,.mov (.t 9),none⟩,⟨some 48,.bin .add (.t 46) (.t 47),none⟩,⟨some 49,.bsl none none (.int .i64 0) 1 [(0,(.t 48))],none⟩,⟨some 50,.app none 8 (.t 44) (.t 49),none⟩,⟨some 1,.mov (.t 50),none⟩])))) ( .ops [] [⟨some 51,.bin .add (.t 27) (.c (.int .i64 1)),none⟩,⟨some 27,.mov (.t 51),none⟩]))))))))) ( .ops [] [⟨some 52,.bin .add (.t 15) (.c (.int .i64 1)),none⟩,⟨some 15,.mov (.t 52),none⟩]))))))) (
.seq (
.ops [] [⟨some 53,.mov (.t 1),none⟩,⟨some 4,.mov (.t 53),none⟩]) (
.ret)))⟩
def rf297 : RF := ⟨36,[.tmp 2],.seq (
.ops [] [⟨some 2,.mov (.c .nils),none⟩]) (
.seq (
.ops [] [⟨some 3,.mov (.c (.int .i64 0)),none⟩]) (
.seq (
.seq (
.ops [] [⟨some 9,.mov (.t 0),none⟩,⟨some 10,.len (.t 9),none⟩,⟨some 11,.mov (.c (.int .i64 0)),none⟩]) (
.block 0 ( .loop ( .seq ( .ops [] [⟨some 12,.bin .lss (.t 11) (.t 10),none⟩]) ( .seq ( .cond (.t 12) ( .skip) ( .exit 0)) ( .seq ( .block 1 ( .seq ( .ops [] [⟨some 13,.ia 1 (.t 9) (.t 11),none⟩,⟨some 14,.load false 1 (.t 13),none⟩,⟨some 5,.mov (.t 14),none⟩]) ( .seq ( .ops [] [⟨some 15,.mov (.t 3),none⟩,⟨some 16,.mov (.t 5),none⟩,⟨some 17,.len (.t 16),none⟩,⟨some 18,.bin .add (.t 15) (.t 17),none⟩,⟨some 3,.mov (.t 18),none⟩]) ( .seq ( .ops [] [⟨some 19,.mov (.t 3),none⟩,⟨some 20,.bin .lss (.t 19) (.c (.int .i64 0)),none⟩]) ( .cond (.t 20) ( .ops [] [⟨some 21,.bad,none⟩,⟨none,.bad,none⟩]) ( .skip)))))) ( .ops [] [⟨some 22,.bin .add (.t 11) (.c (.int .i64 1)),none⟩,⟨some 11,.mov (.t 22),none⟩]))))))) (
.seq (
.ops [] [⟨some 23,.mov (.t 3),none⟩,⟨some 24,.call (.c (.fn 331 [] [])) [(.c .nils),(.t 23)],none⟩,⟨some 6,.mov (.t 24),none⟩]) (
.seq (
.seq (
.ops [] [⟨some 25,.mov (.t 0),none⟩,⟨some 26,.len (.t 25),none⟩,⟨some 27,.mov (.c (.int .i64 0)),none⟩]) (
.block 2 ( .loop ( .seq ( .ops [] [⟨some 28,.bin .lss (.t 27) (.t 26),none⟩]) ( .seq ( .cond (.t 28) ( .skip) ( .exit 2)) ( .seq ( .block 3 ( .seq ( .ops [] [⟨some 29,.ia 1 (.t 25) (.t 27),none⟩,⟨some 30,.load false 1 (.t 29),none⟩,⟨some 8,.mov (.t 30),none⟩]) ( .ops [] [⟨some 31,.mov (.t 6),none⟩,⟨some 32,.mov (.t 8),none⟩,⟨some 33,.app none 8 (.t 31) (.t 32),none⟩,⟨some 6,.mov (.t 33),none⟩]))) ( .ops [] [⟨some 34,.bin .add (.t 27) (.c (.int .i64 1)),none⟩,⟨some 27,.mov (.t 34),none⟩]))))))) (
.seq (
.ops [] [⟨some 35,.mov (.t 6),none⟩,⟨some 2,.mov (.t 35),none⟩]) (
.ret))))))⟩
def rf298 : RF := ⟨21,[.tmp 6],.seq (
.ops [] [⟨some 3,.box (some 4) (.t 0) none,none⟩,⟨some 5,.box none (.t 2) none,none⟩,⟨some 6,.mov (.c .nils),none⟩]) (
.seq (
.ops [] [⟨some 7,.alloc none .nils none,none⟩]) (
.seq (
.seq (
.ops [] [⟨some 9,.load true 4 (.t 3),none⟩,⟨some 10,.mov (.t 1),none⟩,⟨some 11,.call (.c (.fn 332 [] [])) [(.t 9),(.t 10)],none⟩]) (
.block 0 ( .rangeF (.t 11) [12] ( .ops [] [⟨some 8,.mov (.t 12),none⟩]) ( .block 1 ( .seq ( .seq ( .ops [] [⟨some 13,.mov (.t 8),none⟩,⟨some 14,.load false 1 (.t 5),none⟩,⟨some 15,.bin .geq (.t 13) (.t 14),none⟩]) ( .cond (.t 15) ( .exit 0) ( .skip))) ( .ops [] [⟨some 16,.load false 1 (.t 7),none⟩,⟨some 17,.mov (.t 8),none⟩,⟨some 18,.bsl none none (.int .i64 0) 1 [(0,(.t 17))],none⟩,⟨some 19,.app none 8 (.t 16) (.t 18),none⟩,⟨none,.store 1 (.t 7) (.t 19),none⟩])))))) (
.seq (
.ops [] [⟨some 20,.load false 1 (.t 7),none⟩,⟨some 6,.mov (.t 20),none⟩]) (
.ret))))⟩ end Go.S32
