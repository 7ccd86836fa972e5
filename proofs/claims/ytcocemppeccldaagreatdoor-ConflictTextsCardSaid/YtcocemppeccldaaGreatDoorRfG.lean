/- Functions of the program as abstract code: that they are such is proved in the texts C. -/
import Derived.Test.YtcocemppeccldaaGreatDoorAiF
set_option linter.unusedVariables false
set_option linter.unusedSimpArgs false
set_option maxRecDepth 100000
namespace Go.S32
open Go Go.Ai def rf299 : RF := ⟨52,[.tmp 4],.seq (
.ops [] [⟨some 2,.box (some 13) (.t 0) none,none⟩,⟨some 4,.mov (.c .nils),none⟩]) (
.seq (
.ops [] [⟨some 11,.mkfn 333 [] [(.t 2)],none⟩,⟨some 5,.alloc none .nilf none,none⟩,⟨none,.store 1 (.t 5) (.t 11),none⟩]) (
.seq (
.ops [] [⟨some 6,.alloc none .nils none,none⟩]) (
.seq (
.seq (
.ops [] [⟨some 12,.fa 0 (.t 2),none⟩,⟨some 13,.load true 4 (.t 12),none⟩,⟨some 14,.call (.c (.fn 332 [] [])) [(.t 13),(.c (.int .i64 0))],none⟩]) (
.block 0 ( .rangeF (.t 14) [15] ( .ops [] [⟨some 7,.mov (.t 15),none⟩]) ( .block 1 ( .seq ( .seq ( .ops [] [⟨some 16,.mov (.t 7),none⟩,⟨some 17,.fa 8 (.t 2),none⟩,⟨some 18,.load false 1 (.t 17),none⟩,⟨some 19,.bin .geq (.t 16) (.t 18),none⟩]) ( .cond (.t 19) ( .exit 0) ( .skip))) ( .ops [] [⟨some 20,.load false 1 (.t 5),none⟩,⟨some 21,.load false 1 (.t 6),none⟩,⟨some 22,.mov (.t 7),none⟩,⟨some 23,.call (.t 20) [(.t 21),(.t 22)],none⟩,⟨none,.store 1 (.t 6) (.t 23),none⟩])))))) (
.seq (
.seq (
.ops [] [⟨some 24,.fa 9 (.t 2),none⟩,⟨some 25,.load false 1 (.t 24),none⟩,⟨some 26,.len (.t 25),none⟩,⟨some 27,.mov (.c (.int .i64 0)),none⟩]) (
.block 2 ( .loop ( .seq ( .ops [] [⟨some 28,.bin .lss (.t 27) (.t 26),none⟩]) ( .seq ( .cond (.t 28) ( .skip) ( .exit 2)) ( .seq ( .block 3 ( .seq ( .ops [] [⟨some 29,.ia 1 (.t 25) (.t 27),none⟩,⟨some 30,.load false 1 (.t 29),none⟩,⟨some 9,.mov (.t 30),none⟩]) ( .seq ( .seq ( .ops [] [⟨some 31,.load true 13 (.t 2),none⟩,⟨some 32,.mov (.t 9),none⟩,⟨some 33,.call (.c (.fn 334 [] [])) [(.t 31),(.t 32)],none⟩]) ( .cond (.t 33) ( .exit 3) ( .skip))) ( .seq ( .ops [] [⟨some 34,.mov (.t 9),none⟩,⟨some 10,.mov (.t 34),none⟩]) ( .block 4 ( .loop ( .seq ( .seq ( .ops [] [⟨some 35,.mov (.t 10),none⟩,⟨some 36,.mov (.t 1),none⟩,⟨some 37,.bin .lss (.t 35) (.t 36),none⟩]) ( .cond (.t 37) ( .skip) ( .exit 4))) ( .seq ( .block 5 ( .ops [] [⟨some 43,.load false 1 (.t 5),none⟩,⟨some 44,.load false 1 (.t 6),none⟩,⟨some 45,.fa 8 (.t 2),none⟩,⟨some 46,.load false 1 (.t 45),none⟩,⟨some 47,.mov (.t 10),none⟩,⟨some 48,.bin .add (.t 46) (.t 47),none⟩,⟨some 49,.call (.t 43) [(.t 44),(.t 48)],none⟩,⟨none,.store 1 (.t 6) (.t 49),none⟩])) ( .ops [] [⟨some 38,.mov (.t 10),none⟩,⟨some 39,.fa 0 (.t 2),none⟩,⟨some 40,.fa 2 (.t 39),none⟩,⟨some 41,.load false 1 (.t 40),none⟩,⟨some 42,.bin .add (.t 38) (.t 41),none⟩,⟨some 10,.mov (.t 42),none⟩]))))))))) ( .ops [] [⟨some 50,.bin .add (.t 27) (.c (.int .i64 1)),none⟩,⟨some 27,.mov (.t 50),none⟩]))))))) (
.seq (
.ops [] [⟨some 51,.load false 1 (.t 6),none⟩,⟨some 4,.mov (.t 51),none⟩]) (
.ret))))))⟩
def rf300 : RF := ⟨10,[.tmp 2],.seq (
.ops [] [⟨some 2,.mov (.c (.int .u64 0)),none⟩]) (
.seq (
.seq (
.ops [] [⟨some 3,.mov (.t 0),none⟩,⟨some 4,.bin .lss (.t 3) (.c (.int .i64 0)),none⟩]) (
.cond (.t 4) ( .seq ( .ops [] [⟨some 5,.mov (.t 0),none⟩,⟨some 6,.conv .u64 (.t 5),none⟩,⟨some 7,.un .neg (.t 6),none⟩,⟨some 2,.mov (.t 7),none⟩]) ( .ret)) ( .skip))) (
.seq (
.ops [] [⟨some 8,.mov (.t 0),none⟩,⟨some 9,.conv .u64 (.t 8),none⟩,⟨some 2,.mov (.t 9),none⟩]) (
.ret)))⟩
def rf301 : RF := ⟨51,[.tmp 4,.tmp 5],.seq (
.ops [] [⟨some 4,.mov (.c (.int .u64 0)),none⟩,⟨some 5,.mov (.c (.int .u64 0)),none⟩]) (
.seq (
.ops [] [⟨some 14,.mov (.t 0),none⟩,⟨some 15,.bin .and (.t 14) (.c (.int .u64 4294967295)),none⟩,⟨some 6,.mov (.t 15),none⟩]) (
.seq (
.ops [] [⟨some 16,.mov (.t 0),none⟩,⟨some 17,.bin .shr (.t 16) (.c (.int .u64 32)),none⟩,⟨some 7,.mov (.t 17),none⟩]) (
.seq (
.ops [] [⟨some 18,.mov (.t 1),none⟩,⟨some 19,.bin .and (.t 18) (.c (.int .u64 4294967295)),none⟩,⟨some 8,.mov (.t 19),none⟩]) (
.seq (
.ops [] [⟨some 20,.mov (.t 1),none⟩,⟨some 21,.bin .shr (.t 20) (.c (.int .u64 32)),none⟩,⟨some 9,.mov (.t 21),none⟩]) (
.seq (
.ops [] [⟨some 22,.mov (.t 6),none⟩,⟨some 23,.mov (.t 8),none⟩,⟨some 24,.bin .mul (.t 22) (.t 23),none⟩,⟨some 10,.mov (.t 24),none⟩]) (
.seq (
.ops [] [⟨some 25,.mov (.t 7),none⟩,⟨some 26,.mov (.t 8),none⟩,⟨some 27,.bin .mul (.t 25) (.t 26),none⟩,⟨some 28,.mov (.t 10),none⟩,⟨some 29,.bin .shr (.t 28) (.c (.int .u64 32)),none⟩,⟨some 30,.bin .add (.t 27) (.t 29),none⟩,⟨some 11,.mov (.t 30),none⟩]) (
.seq (
.ops [] [⟨some 31,.mov (.t 11),none⟩,⟨some 32,.bin .and (.t 31) (.c (.int .u64 4294967295)),none⟩,⟨some 12,.mov (.t 32),none⟩]) (
.seq (
.ops [] [⟨some 33,.mov (.t 11),none⟩,⟨some 34,.bin .shr (.t 33) (.c (.int .u64 32)),none⟩,⟨some 13,.mov (.t 34),none⟩]) (
.seq (
.ops [] [⟨some 35,.mov (.t 12),none⟩,⟨some 36,.mov (.t 6),none⟩,⟨some 37,.mov (.t 9),none⟩,⟨some 38,.bin .mul (.t 36) (.t 37),none⟩,⟨some 39,.bin .add (.t 35) (.t 38),none⟩,⟨some 12,.mov (.t 39),none⟩]) (
.seq (
.ops [] [⟨some 40,.mov (.t 7),none⟩,⟨some 41,.mov (.t 9),none⟩,⟨some 42,.bin .mul (.t 40) (.t 41),none⟩,⟨some 43,.mov (.t 13),none⟩,⟨some 44,.bin .add (.t 42) (.t 43),none⟩,⟨some 45,.mov (.t 12),none⟩,⟨some 46,.bin .shr (.t 45) (.c (.int .u64 32)),none⟩,⟨some 47,.bin .add (.t 44) (.t 46),none⟩,⟨some 4,.mov (.t 47),none⟩]) (
.seq (
.ops [] [⟨some 48,.mov (.t 0),none⟩,⟨some 49,.mov (.t 1),none⟩,⟨some 50,.bin .mul (.t 48) (.t 49),none⟩,⟨some 5,.mov (.t 50),none⟩]) (
.ret))))))))))))⟩
def rf302 : RF := ⟨38,[.tmp 4],.seq (
.ops [] [⟨some 4,.mov (.c (.int .i64 0)),none⟩]) (
.seq (
.ops [] [⟨some 10,.mov (.t 0),none⟩,⟨some 11,.mov (.t 1),none⟩,⟨some 12,.bin .rem (.t 10) (.t 11),none⟩,⟨some 13,.mov (.t 1),none⟩,⟨some 5,.mov (.t 12),none⟩,⟨some 6,.mov (.t 13),none⟩,⟨some 7,.mov (.c (.int .i64 1)),none⟩,⟨some 8,.mov (.c (.int .i64 0)),none⟩]) (
.seq (
.block 0 ( .loop ( .seq ( .seq ( .ops [] [⟨some 14,.mov (.t 5),none⟩,⟨some 15,.bin .gtr (.t 14) (.c (.int .i64 1)),none⟩]) ( .cond (.t 15) ( .skip) ( .exit 0))) ( .block 1 ( .seq ( .ops [] [⟨some 16,.mov (.t 6),none⟩,⟨some 17,.mov (.t 5),none⟩,⟨some 18,.bin .quo (.t 16) (.t 17),none⟩,⟨some 9,.mov (.t 18),none⟩]) ( .seq ( .ops [] [⟨some 19,.mov (.t 6),none⟩,⟨some 20,.mov (.t 9),none⟩,⟨some 21,.mov (.t 5),none⟩,⟨some 22,.bin .mul (.t 20) (.t 21),none⟩,⟨some 23,.bin .sub (.t 19) (.t 22),none⟩,⟨some 24,.mov (.t 5),none⟩,⟨some 5,.mov (.t 23),none⟩,⟨some 6,.mov (.t 24),none⟩]) ( .ops [] [⟨some 25,.mov (.t 8),none⟩,⟨some 26,.mov (.t 9),none⟩,⟨some 27,.mov (.t 7),none⟩,⟨some 28,.bin .mul (.t 26) (.t 27),none⟩,⟨some 29,.bin .sub (.t 25) (.t 28),none⟩,⟨some 30,.mov (.t 7),none⟩,⟨some 7,.mov (.t 29),none⟩,⟨some 8,.mov (.t 30),none⟩]))))))) (
.seq (
.ops [] [⟨some 31,.mov (.t 7),none⟩,⟨some 32,.mov (.t 1),none⟩,⟨some 33,.bin .rem (.t 31) (.t 32),none⟩,⟨some 34,.mov (.t 1),none⟩,⟨some 35,.bin .add (.t 33) (.t 34),none⟩,⟨some 36,.mov (.t 1),none⟩,⟨some 37,.bin .rem (.t 35) (.t 36),none⟩,⟨some 4,.mov (.t 37),none⟩]) (
.ret))))⟩
def rf303 : RF := ⟨135,[.tmp 6,.tmp 7],.seq (
.ops [] [⟨some 6,.mov (.c (.int .u64 0)),none⟩,⟨some 7,.mov (.c (.int .u64 0)),none⟩]) (
.seq (
.seq (
.ops [] [⟨some 19,.mov (.t 2),none⟩,⟨some 20,.bin .eql (.t 19) (.c (.int .u64 0)),none⟩]) (
.cond (.t 20) ( .ops [] [⟨some 21,.bad,none⟩,⟨none,.bad,none⟩]) ( .skip))) (
.seq (
.seq (
.ops [] [⟨some 22,.mov (.t 2),none⟩,⟨some 23,.mov (.t 0),none⟩,⟨some 24,.bin .leq (.t 22) (.t 23),none⟩]) (
.cond (.t 24) ( .ops [] [⟨some 25,.bad,none⟩,⟨none,.bad,none⟩]) ( .skip))) (
.seq (
.seq (
.ops [] [⟨some 26,.mov (.t 0),none⟩,⟨some 27,.bin .eql (.t 26) (.c (.int .u64 0)),none⟩]) (
.cond (.t 27) ( .seq ( .dops [] 0 [⟨some 28,.mov (.t 1),none⟩,⟨some 29,.mov (.t 2),none⟩,⟨some 30,.bin .quo (.t 28) (.t 29),none⟩,⟨some 31,.mov (.t 1),none⟩,⟨some 32,.mov (.t 2),none⟩,⟨some 33,.bin .rem (.t 31) (.t 32),none⟩,⟨some 6,.mov (.t 30),none⟩,⟨some 7,.mov (.t 33),none⟩] []) ( .ret)) ( .skip))) (
.seq (
.ops [] [⟨some 34,.mov (.t 2),none⟩,⟨some 35,.call (.c (.fn 335 [] [])) [(.t 34)],none⟩,⟨some 36,.conv .u64 (.t 35),none⟩,⟨some 8,.mov (.t 36),none⟩]) (
.seq (
.ops [] [⟨some 37,.mov (.t 2),none⟩,⟨some 38,.mov (.t 8),none⟩,⟨some 39,.bin .shl (.t 37) (.t 38),none⟩,⟨some 2,.mov (.t 39),none⟩]) (
.seq (
.ops [] [⟨some 40,.mov (.t 2),none⟩,⟨some 41,.bin .shr (.t 40) (.c (.int .u64 32)),none⟩,⟨some 9,.mov (.t 41),none⟩]) (
.seq (
.ops [] [⟨some 42,.mov (.t 2),none⟩,⟨some 43,.bin .and (.t 42) (.c (.int .u64 4294967295)),none⟩,⟨some 10,.mov (.t 43),none⟩]) (
.seq (
.ops [] [⟨some 44,.mov (.t 0),none⟩,⟨some 45,.mov (.t 8),none⟩,⟨some 46,.bin .shl (.t 44) (.t 45),none⟩,⟨some 47,.mov (.t 1),none⟩,⟨some 48,.mov (.t 8),none⟩,⟨some 49,.bin .sub (.c (.int .u64 64)) (.t 48),none⟩,⟨some 50,.bin .shr (.t 47) (.t 49),none⟩,⟨some 51,.bin .or (.t 46) (.t 50),none⟩,⟨some 11,.mov (.t 51),none⟩]) (
.seq (
.ops [] [⟨some 52,.mov (.t 1),none⟩,⟨some 53,.mov (.t 8),none⟩,⟨some 54,.bin .shl (.t 52) (.t 53),none⟩,⟨some 12,.mov (.t 54),none⟩]) (
.seq (
.ops [] [⟨some 55,.mov (.t 12),none⟩,⟨some 56,.bin .shr (.t 55) (.c (.int .u64 32)),none⟩,⟨some 13,.mov (.t 56),none⟩]) (
.seq (
.ops [] [⟨some 57,.mov (.t 12),none⟩,⟨some 58,.bin .and (.t 57) (.c (.int .u64 4294967295)),none⟩,⟨some 14,.mov (.t 58),none⟩]) (
.seq (
.ops [] [⟨some 59,.mov (.t 11),none⟩,⟨some 60,.mov (.t 9),none⟩,⟨some 61,.bin .quo (.t 59) (.t 60),none⟩,⟨some 15,.mov (.t 61),none⟩]) (
.seq (
.ops [] [⟨some 62,.mov (.t 11),none⟩,⟨some 63,.mov (.t 15),none⟩,⟨some 64,.mov (.t 9),none⟩,⟨some 65,.bin .mul (.t 63) (.t 64),none⟩,⟨some 66,.bin .sub (.t 62) (.t 65),none⟩,⟨some 16,.mov (.t 66),none⟩]) (
.seq (
.block 0 ( .loop ( .seq ( .seq ( .ops [] [⟨some 67,.mov (.t 15),none⟩,⟨some 68,.bin .geq (.t 67) (.c (.int .u64 4294967296)),none⟩,⟨some 69,.mov (.t 68),none⟩,⟨some 70,.mov (.t 15),(some (69,false))⟩,⟨some 71,.mov (.t 10),(some (69,false))⟩,⟨some 72,.bin .mul (.t 70) (.t 71),(some (69,false))⟩,⟨some 73,.mov (.t 16),(some (69,false))⟩,⟨some 74,.bin .mul (.c (.int .u64 4294967296)) (.t 73),(some (69,false))⟩,⟨some 75,.mov (.t 13),(some (69,false))⟩,⟨some 76,.bin .add (.t 74) (.t 75),(some (69,false))⟩,⟨some 77,.bin .gtr (.t 72) (.t 76),(some (69,false))⟩,⟨some 78,.pick (.t 69) (.c (.bool true)) (.t 77),none⟩]) ( .cond (.t 78) ( .skip) ( .exit 0))) ( .block 1 ( .seq ( .ops [] [⟨some 79,.mov (.t 15),none⟩,⟨some 80,.bin .sub (.t 79) (.c (.int .u64 1)),none⟩,⟨some 15,.mov (.t 80),none⟩]) ( .seq ( .ops [] [⟨some 81,.mov (.t 16),none⟩,⟨some 82,.mov (.t 9),none⟩,⟨some 83,.bin .add (.t 81) (.t 82),none⟩,⟨some 16,.mov (.t 83),none⟩]) ( .seq ( .ops [] [⟨some 84,.mov (.t 16),none⟩,⟨some 85,.bin .geq (.t 84) (.c (.int .u64 4294967296)),none⟩]) ( .cond (.t 85) ( .exit 0) ( .skip))))))))) (
.seq (
.ops [] [⟨some 86,.mov (.t 11),none⟩,⟨some 87,.bin .mul (.t 86) (.c (.int .u64 4294967296)),none⟩,⟨some 88,.mov (.t 13),none⟩,⟨some 89,.bin .add (.t 87) (.t 88),none⟩,⟨some 90,.mov (.t 15),none⟩,⟨some 91,.mov (.t 2),none⟩,⟨some 92,.bin .mul (.t 90) (.t 91),none⟩,⟨some 93,.bin .sub (.t 89) (.t 92),none⟩,⟨some 17,.mov (.t 93),none⟩]) (
.seq (
.ops [] [⟨some 94,.mov (.t 17),none⟩,⟨some 95,.mov (.t 9),none⟩,⟨some 96,.bin .quo (.t 94) (.t 95),none⟩,⟨some 18,.mov (.t 96),none⟩]) (
.seq (
.ops [] [⟨some 97,.mov (.t 17),none⟩,⟨some 98,.mov (.t 18),none⟩,⟨some 99,.mov (.t 9),none⟩,⟨some 100,.bin .mul (.t 98) (.t 99),none⟩,⟨some 101,.bin .sub (.t 97) (.t 100),none⟩,⟨some 16,.mov (.t 101),none⟩]) (
.seq (
.block 2 ( .loop ( .seq ( .seq ( .ops [] [⟨some 102,.mov (.t 18),none⟩,⟨some 103,.bin .geq (.t 102) (.c (.int .u64 4294967296)),none⟩,⟨some 104,.mov (.t 103),none⟩,⟨some 105,.mov (.t 18),(some (104,false))⟩,⟨some 106,.mov (.t 10),(some (104,false))⟩,⟨some 107,.bin .mul (.t 105) (.t 106),(some (104,false))⟩,⟨some 108,.mov (.t 16),(some (104,false))⟩,⟨some 109,.bin .mul (.c (.int .u64 4294967296)) (.t 108),(some (104,false))⟩,⟨some 110,.mov (.t 14),(some (104,false))⟩,⟨some 111,.bin .add (.t 109) (.t 110),(some (104,false))⟩,⟨some 112,.bin .gtr (.t 107) (.t 111),(some (104,false))⟩,⟨some 113,.pick (.t 104) (.c (.bool true)) (.t 112),none⟩]) ( .cond (.t 113) ( .skip) ( .exit 2))) ( .block 3 ( .seq ( .ops [] [⟨some 114,.mov (.t 18),none⟩,⟨some 115,.bin .sub (.t 114) (.c (.int .u64 1)),none⟩,⟨some 18,.mov (.t 115),none⟩]) ( .seq ( .ops [] [⟨some 116,.mov (.t 16),none⟩,⟨some 117,.mov (.t 9),none⟩,⟨some 118,.bin .add (.t 116) (.t 117),none⟩,⟨some 16,.mov (.t 118),none⟩]) ( .seq ( .ops [] [⟨some 119,.mov (.t 16),none⟩,⟨some 120,.bin .geq (.t 119) (.c (.int .u64 4294967296)),none⟩]) ( .cond (.t 120) ( .exit 2) ( .skip))))))))) (
.seq (
.ops [] [⟨some 121,.mov (.t 15),none⟩,⟨some 122,.bin .mul (.t 121) (.c (.int .u64 4294967296)),none⟩,⟨some 123,.mov (.t 18),none⟩,⟨some 124,.bin .add (.t 122) (.t 123),none⟩,⟨some 125,.mov (.t 17),none⟩,⟨some 126,.bin .mul (.t 125) (.c (.int .u64 4294967296)),none⟩,⟨some 127,.mov (.t 14),none⟩,⟨some 128,.bin .add (.t 126) (.t 127),none⟩,⟨some 129,.mov (.t 18),none⟩,⟨some 130,.mov (.t 2),none⟩,⟨some 131,.bin .mul (.t 129) (.t 130),none⟩,⟨some 132,.bin .sub (.t 128) (.t 131),none⟩,⟨some 133,.mov (.t 8),none⟩,⟨some 134,.bin .shr (.t 132) (.t 133),none⟩,⟨some 6,.mov (.t 124),none⟩,⟨some 7,.mov (.t 134),none⟩]) (
.ret))))))))))))))))))))⟩
def rf304 : RF := ⟨101,[.cell 4 true 2,.tmp 5],.seq (
.ops [] [⟨some 4,.alloc (some 2) (.agg [(.int .i64 0),(.int .i64 0)]) none,none⟩,⟨some 5,.mov (.c (.bool false)),none⟩]) (
.seq (
.ops [] [⟨some 6,.mov (.c (.fn 336 [] [])),none⟩]) (
.seq (
.seq (
.ops [] [⟨some 13,.mov (.t 0),none⟩,⟨some 14,.nilchk (.t 13),none⟩,⟨some 15,.fa 8 (.t 14),none⟩,⟨some 16,.load false 1 (.t 15),none⟩,⟨some 17,.len (.t 16),none⟩,⟨some 18,.bin .gtr (.t 17) (.c (.int .i64 0)),none⟩,⟨some 19,.mov (.t 18),none⟩,⟨some 20,.mov (.t 1),(some (19,true))⟩,⟨some 21,.mov (.t 0),(some (19,true))⟩,⟨some 22,.nilchk (.t 21),(some (19,true))⟩,⟨some 23,.fa 8 (.t 22),(some (19,true))⟩,⟨some 24,.load false 1 (.t 23),(some (19,true))⟩,⟨some 25,.ia 2 (.t 24) (.c (.int .i64 0)),(some (19,true))⟩,⟨some 26,.fa 0 (.t 25),(some (19,true))⟩,⟨some 27,.load false 1 (.t 26),(some (19,true))⟩,⟨some 28,.bin .geq (.t 20) (.t 27),(some (19,true))⟩,⟨some 29,.pick (.t 19) (.t 28) (.c (.bool false)),none⟩]) (
.cond (.t 29) ( .seq ( .ops [] [⟨some 30,.mov (.t 0),none⟩,⟨some 31,.mov (.t 1),none⟩,⟨some 32,.call (.c (.fn 248 [] [])) [(.t 30),(.t 31)],none⟩,⟨some 33,.mov (.t 0),none⟩,⟨some 34,.call (.c (.fn 246 [] [])) [(.t 33)],none⟩,⟨some 35,.bin .mul (.t 32) (.t 34),none⟩,⟨some 7,.mov (.t 35),none⟩]) ( .seq ( .ops [] [⟨some 37,.mov (.t 0),none⟩,⟨some 38,.nilchk (.t 37),none⟩,⟨some 39,.fa 8 (.t 38),none⟩,⟨some 40,.load false 1 (.t 39),none⟩,⟨some 41,.mov (.t 1),none⟩,⟨some 42,.mov (.t 7),none⟩,⟨some 43,.bin .sub (.t 41) (.t 42),none⟩,⟨some 44,.mov (.t 6),none⟩,⟨some 45,.call (.c (.fn 337 [] [])) [(.t 40),(.t 43),(.t 44)],none⟩,⟨some 36,.mov (.t 45),none⟩,⟨some 46,.ext (.t 36) 0,none⟩,⟨some 47,.ext (.t 36) 1,none⟩,⟨some 8,.mov (.t 46),none⟩,⟨some 9,.mov (.t 47),none⟩]) ( .seq ( .seq ( .ops [] [⟨some 48,.mov (.t 9),none⟩,⟨some 49,.un .not (.t 48),none⟩]) ( .cond (.t 49) ( .ops [] [⟨some 50,.mov (.t 8),none⟩,⟨some 51,.bin .sub (.t 50) (.c (.int .i64 1)),none⟩,⟨some 8,.mov (.t 51),none⟩]) ( .skip))) ( .seq ( .ops [] [⟨some 52,.mov (.t 0),none⟩,⟨some 53,.nilchk (.t 52),none⟩,⟨some 54,.fa 8 (.t 53),none⟩,⟨some 55,.load false 1 (.t 54),none⟩,⟨some 56,.mov (.t 8),none⟩,⟨some 57,.ia 2 (.t 55) (.t 56),none⟩,⟨some 58,.load true 2 (.t 57),none⟩,⟨some 10,.alloc (some 2) (.agg [(.int .i64 0),(.int .i64 0)]) none,none⟩,⟨none,.store 2 (.t 10) (.t 58),none⟩]) ( .seq ( .dops [] 0 [⟨some 59,.fa 0 (.t 10),none⟩,⟨some 60,.load false 1 (.t 59),none⟩,⟨some 61,.mov (.t 7),none⟩,⟨some 62,.bin .add (.t 60) (.t 61),none⟩,⟨some 63,.mov (.t 0),none⟩,⟨some 64,.nilchk (.t 63),none⟩,⟨some 65,.fa 0 (.t 64),none⟩,⟨some 66,.fa 6 (.t 65),none⟩,⟨some 67,.load false 1 (.t 66),none⟩,⟨some 68,.bin .geq (.t 62) (.t 67),none⟩] []) ( .cond (.t 68) ( .seq ( .ops [] [⟨some 69,.fa 0 (.t 10),none⟩,⟨some 70,.load false 1 (.t 69),none⟩,⟨some 71,.mov (.t 7),none⟩,⟨some 72,.bin .add (.t 70) (.t 71),none⟩,⟨some 73,.fa 0 (.t 10),none⟩,⟨none,.store 1 (.t 73) (.t 72),none⟩]) ( .seq ( .ops [] [⟨some 74,.load true 2 (.t 10),none⟩,⟨none,.store 2 (.t 4) (.t 74),none⟩,⟨some 5,.mov (.c (.bool true)),none⟩]) ( .ret))) ( .skip))))))) ( .skip))) (
.seq (
.ops [] [⟨some 76,.mov (.t 0),none⟩,⟨some 77,.nilchk (.t 76),none⟩,⟨some 78,.fa 0 (.t 77),none⟩,⟨some 79,.fa 5 (.t 78),none⟩,⟨some 80,.load false 1 (.t 79),none⟩,⟨some 81,.mov (.t 1),none⟩,⟨some 82,.mov (.t 6),none⟩,⟨some 83,.call (.c (.fn 337 [] [])) [(.t 80),(.t 81),(.t 82)],none⟩,⟨some 75,.mov (.t 83),none⟩,⟨some 84,.ext (.t 75) 0,none⟩,⟨some 85,.ext (.t 75) 1,none⟩,⟨some 11,.mov (.t 84),none⟩,⟨some 12,.mov (.t 85),none⟩]) (
.seq (
.seq (
.ops [] [⟨some 86,.mov (.t 12),none⟩,⟨some 87,.un .not (.t 86),none⟩]) (
.cond (.t 87) ( .ops [] [⟨some 88,.mov (.t 11),none⟩,⟨some 89,.bin .sub (.t 88) (.c (.int .i64 1)),none⟩,⟨some 11,.mov (.t 89),none⟩]) ( .skip))) (
.seq (
.seq (
.ops [] [⟨some 90,.mov (.t 11),none⟩,⟨some 91,.bin .lss (.t 90) (.c (.int .i64 0)),none⟩]) (
.cond (.t 91) ( .seq ( .ops [] [⟨some 92,.build [(.int .i64 0),(.int .i64 0)] [],none⟩,⟨none,.store 2 (.t 4) (.t 92),none⟩,⟨some 5,.mov (.c (.bool false)),none⟩]) ( .ret)) ( .skip))) (
.seq (
.ops [] [⟨some 93,.mov (.t 0),none⟩,⟨some 94,.nilchk (.t 93),none⟩,⟨some 95,.fa 0 (.t 94),none⟩,⟨some 96,.fa 5 (.t 95),none⟩,⟨some 97,.load false 1 (.t 96),none⟩,⟨some 98,.mov (.t 11),none⟩,⟨some 99,.ia 2 (.t 97) (.t 98),none⟩,⟨some 100,.load true 2 (.t 99),none⟩,⟨none,.store 2 (.t 4) (.t 100),none⟩,⟨some 5,.mov (.c (.bool true)),none⟩]) (
.ret)))))))⟩
def rf305 : RF := ⟨32,[.tmp 4],.seq (
.ops [] [⟨some 2,.box (some 4) (.t 0) none,none⟩,⟨some 4,.mov (.c (.bool false)),none⟩]) (
.seq (
.ops [] [⟨some 9,.fa 0 (.t 2),none⟩,⟨some 10,.load false 1 (.t 9),none⟩,⟨some 11,.mov (.t 1),none⟩,⟨some 5,.mov (.t 10),none⟩,⟨some 6,.mov (.t 11),none⟩]) (
.seq (
.seq (
.ops [] [⟨some 12,.mov (.t 1),none⟩,⟨some 13,.fa 1 (.t 2),none⟩,⟨some 14,.load false 1 (.t 13),none⟩,⟨some 15,.bin .geq (.t 12) (.t 14),none⟩]) (
.cond (.t 15) ( .dops [] 0 [⟨some 16,.fa 3 (.t 2),none⟩,⟨some 17,.load false 1 (.t 16),none⟩,⟨some 18,.mov (.t 1),none⟩,⟨some 19,.fa 1 (.t 2),none⟩,⟨some 20,.load false 1 (.t 19),none⟩,⟨some 21,.bin .sub (.t 18) (.t 20),none⟩,⟨some 22,.fa 2 (.t 2),none⟩,⟨some 23,.load false 1 (.t 22),none⟩,⟨some 24,.bin .rem (.t 21) (.t 23),none⟩,⟨some 5,.mov (.t 17),none⟩,⟨some 6,.mov (.t 24),none⟩] []) ( .skip))) (
.seq (
.ops [] [⟨some 26,.mov (.t 5),none⟩,⟨some 27,.mov (.t 6),none⟩,⟨some 28,.call (.c (.fn 147 [] [])) [(.t 26),(.t 27)],none⟩,⟨some 25,.mov (.t 28),none⟩,⟨some 29,.ext (.t 25) 0,none⟩,⟨some 30,.ext (.t 25) 1,none⟩,⟨some 7,.mov (.t 29),none⟩,⟨some 8,.mov (.t 30),none⟩]) (
.seq (
.ops [] [⟨some 31,.mov (.t 8),none⟩,⟨some 4,.mov (.t 31),none⟩]) (
.ret)))))⟩
def rf306 : RF := ⟨14,[.tmp 4],.seq (
.ops [] [⟨some 4,.mov (.c (.int .i64 0)),none⟩]) (
.seq (
.seq (
.ops [] [⟨some 5,.mov (.t 0),none⟩,⟨some 6,.mov (.t 1),none⟩,⟨some 7,.bin .rem (.t 5) (.t 6),none⟩,⟨some 0,.mov (.t 7),none⟩]) (
.seq (
.ops [] [⟨some 8,.mov (.t 0),none⟩,⟨some 9,.bin .lss (.t 8) (.c (.int .i64 0)),none⟩]) (
.cond (.t 9) ( .ops [] [⟨some 10,.mov (.t 0),none⟩,⟨some 11,.mov (.t 1),none⟩,⟨some 12,.bin .add (.t 10) (.t 11),none⟩,⟨some 0,.mov (.t 12),none⟩]) ( .skip)))) (
.seq (
.ops [] [⟨some 13,.mov (.t 0),none⟩,⟨some 4,.mov (.t 13),none⟩]) (
.ret)))⟩
def rf320 : RF := ⟨53,[],.seq (
.ops [] [⟨some 10,.mov (.t 1),none⟩,⟨some 11,.bin .add (.t 10) (.c (.int .i64 1)),none⟩,⟨some 8,.mov (.t 11),none⟩]) (
.block 0 ( .loop ( .seq ( .seq ( .ops [] [⟨some 12,.mov (.t 8),none⟩,⟨some 13,.mov (.t 2),none⟩,⟨some 14,.bin .lss (.t 12) (.t 13),none⟩]) ( .cond (.t 14) ( .skip) ( .exit 0))) ( .seq ( .block 1 ( .seq ( .ops [] [⟨some 17,.mov (.t 8),none⟩,⟨some 9,.mov (.t 17),none⟩]) ( .block 2 ( .loop ( .seq ( .seq ( .dops [] 0 [⟨some 18,.mov (.t 9),none⟩,⟨some 19,.mov (.t 1),none⟩,⟨some 20,.bin .gtr (.t 18) (.t 19),none⟩,⟨some 21,.mov (.t 20),none⟩,⟨some 22,.mov (.t 3),(some (21,true))⟩,⟨some 23,.mov (.t 0),(some (21,true))⟩,⟨some 24,.mov (.t 9),(some (21,true))⟩,⟨some 25,.ia 5 (.t 23) (.t 24),(some (21,true))⟩,⟨some 26,.load true 5 (.t 25),(some (21,true))⟩,⟨some 27,.mov (.t 0),(some (21,true))⟩,⟨some 28,.mov (.t 9),(some (21,true))⟩,⟨some 29,.bin .sub (.t 28) (.c (.int .i64 1)),(some (21,true))⟩,⟨some 30,.ia 5 (.t 27) (.t 29),(some (21,true))⟩,⟨some 31,.load true 5 (.t 30),(some (21,true))⟩,⟨some 32,.call (.t 22) [(.t 26),(.t 31)],(some (21,true))⟩,⟨some 33,.bin .lss (.t 32) (.c (.int .i64 0)),(some (21,true))⟩,⟨some 34,.pick (.t 21) (.t 33) (.c (.bool false)),none⟩] []) ( .cond (.t 34) ( .skip) ( .exit 2))) ( .seq ( .block 3 ( .dops [] 0 [⟨some 37,.mov (.t 0),none⟩,⟨some 38,.mov (.t 9),none⟩,⟨some 39,.mov (.t 0),none⟩,⟨some 40,.mov (.t 9),none⟩,⟨some 41,.bin .sub (.t 40) (.c (.int .i64 1)),none⟩,⟨some 42,.mov (.t 0),none⟩,⟨some 43,.mov (.t 9),none⟩,⟨some 44,.bin .sub (.t 43) (.c (.int .i64 1)),none⟩,⟨some 45,.ia 5 (.t 42) (.t 44),none⟩,⟨some 46,.load true 5 (.t 45),none⟩,⟨some 47,.mov (.t 0),none⟩,⟨some 48,.mov (.t 9),none⟩,⟨some 49,.ia 5 (.t 47) (.t 48),none⟩,⟨some 50,.load true 5 (.t 49),none⟩,⟨some 51,.ia 5 (.t 37) (.t 38),none⟩,⟨none,.store 5 (.t 51) (.t 46),none⟩,⟨some 52,.ia 5 (.t 39) (.t 41),none⟩,⟨none,.store 5 (.t 52) (.t 50),none⟩] [])) ( .ops [] [⟨some 35,.mov (.t 9),none⟩,⟨some 36,.bin .sub (.t 35) (.c (.int .i64 1)),none⟩,⟨some 9,.mov (.t 36),none⟩]))))))) ( .ops [] [⟨some 15,.mov (.t 8),none⟩,⟨some 16,.bin .add (.t 15) (.c (.int .i64 1)),none⟩,⟨some 8,.mov (.t 16),none⟩])))))⟩
def rf329 : RF := ⟨19,[],.seq (
.ops [] [⟨some 4,.load false 1 (.t 1),none⟩,⟨some 5,.len (.t 4),none⟩,⟨some 6,.bin .sub (.t 5) (.c (.int .i64 1)),none⟩,⟨some 3,.mov (.t 6),none⟩]) (
.block 0 ( .loop ( .seq ( .seq ( .ops [] [⟨some 7,.mov (.t 3),none⟩,⟨some 8,.bin .geq (.t 7) (.c (.int .i64 0)),none⟩]) ( .cond (.t 8) ( .skip) ( .exit 0))) ( .seq ( .block 1 ( .seq ( .ops [] [⟨some 11,.mov (.t 0),none⟩,⟨some 12,.mov (.t 3),none⟩,⟨some 13,.load false 1 (.t 1),none⟩,⟨some 14,.mov (.t 3),none⟩,⟨some 15,.ia 1 (.t 13) (.t 14),none⟩,⟨some 16,.load false 1 (.t 15),none⟩,⟨some 17,.call (.t 11) [(.t 12),(.t 16)],none⟩,⟨some 18,.un .not (.t 17),none⟩]) ( .cond (.t 18) ( .ret) ( .skip)))) ( .ops [] [⟨some 9,.mov (.t 3),none⟩,⟨some 10,.bin .sub (.t 9) (.c (.int .i64 1)),none⟩,⟨some 3,.mov (.t 10),none⟩])))))⟩
def rf330 : RF := ⟨73,[.tmp 8,.tmp 9,.tmp 10],.seq (
.ops [] [⟨some 8,.mov (.c (.int .i64 0)),none⟩,⟨some 9,.mov (.c (.int .i64 0)),none⟩,⟨some 10,.mov (.c (.int .i64 0)),none⟩]) (
.seq (
.seq (
.ops [] [⟨some 18,.mov (.t 1),none⟩,⟨some 19,.bin .lss (.t 18) (.c (.int .i64 1)),none⟩,⟨some 20,.mov (.t 19),none⟩,⟨some 21,.mov (.t 3),(some (20,false))⟩,⟨some 22,.bin .lss (.t 21) (.c (.int .i64 1)),(some (20,false))⟩,⟨some 23,.pick (.t 20) (.c (.bool true)) (.t 22),none⟩]) (
.cond (.t 23) ( .seq ( .ops [] [⟨some 8,.mov (.c (.int .i64 0)),none⟩,⟨some 9,.mov (.c (.int .i64 0)),none⟩,⟨some 10,.mov (.c (.int .i64 1)),none⟩]) ( .ret)) ( .skip))) (
.seq (
.ops [] [⟨some 24,.mov (.t 1),none⟩,⟨some 25,.mov (.t 3),none⟩,⟨some 26,.call (.c (.fn 263 [] [])) [(.t 24),(.t 25)],none⟩,⟨some 11,.mov (.t 26),none⟩]) (
.seq (
.ops [] [⟨some 27,.mov (.t 0),none⟩,⟨some 28,.mov (.t 1),none⟩,⟨some 29,.call (.c (.fn 249 [] [])) [(.t 27),(.t 28)],none⟩,⟨some 30,.mov (.t 2),none⟩,⟨some 31,.mov (.t 3),none⟩,⟨some 32,.call (.c (.fn 249 [] [])) [(.t 30),(.t 31)],none⟩,⟨some 12,.mov (.t 29),none⟩,⟨some 13,.mov (.t 32),none⟩]) (
.seq (
.seq (
.ops [] [⟨some 33,.mov (.t 13),none⟩,⟨some 34,.mov (.t 12),none⟩,⟨some 35,.bin .sub (.t 33) (.t 34),none⟩,⟨some 36,.mov (.t 11),none⟩,⟨some 37,.bin .rem (.t 35) (.t 36),none⟩,⟨some 38,.bin .neq (.t 37) (.c (.int .i64 0)),none⟩]) (
.cond (.t 38) ( .seq ( .ops [] [⟨some 8,.mov (.c (.int .i64 0)),none⟩,⟨some 9,.mov (.c (.int .i64 0)),none⟩,⟨some 10,.mov (.c (.int .i64 4)),none⟩]) ( .ret)) ( .skip))) (
.seq (
.ops [] [⟨some 40,.mov (.t 1),none⟩,⟨some 41,.mov (.t 3),none⟩,⟨some 42,.call (.c (.fn 230 [] [])) [(.t 40),(.t 41)],none⟩,⟨some 39,.mov (.t 42),none⟩,⟨some 43,.ext (.t 39) 0,none⟩,⟨some 44,.ext (.t 39) 1,none⟩,⟨some 14,.mov (.t 43),none⟩,⟨some 15,.mov (.t 44),none⟩]) (
.seq (
.seq (
.ops [] [⟨some 45,.mov (.t 15),none⟩,⟨some 46,.bin .neq (.t 45) (.c (.int .i64 0)),none⟩]) (
.cond (.t 46) ( .seq ( .ops [] [⟨some 47,.mov (.t 15),none⟩,⟨some 8,.mov (.c (.int .i64 0)),none⟩,⟨some 9,.mov (.c (.int .i64 0)),none⟩,⟨some 10,.mov (.t 47),none⟩]) ( .ret)) ( .skip))) (
.seq (
.ops [] [⟨some 48,.mov (.t 3),none⟩,⟨some 49,.mov (.t 11),none⟩,⟨some 50,.bin .quo (.t 48) (.t 49),none⟩,⟨some 16,.mov (.t 50),none⟩]) (
.seq (
.dops [] 0 [⟨some 51,.mov (.t 13),none⟩,⟨some 52,.mov (.t 12),none⟩,⟨some 53,.bin .sub (.t 51) (.t 52),none⟩,⟨some 54,.mov (.t 11),none⟩,⟨some 55,.bin .quo (.t 53) (.t 54),none⟩,⟨some 56,.mov (.t 16),none⟩,⟨some 57,.call (.c (.fn 249 [] [])) [(.t 55),(.t 56)],none⟩,⟨some 58,.mov (.t 1),none⟩,⟨some 59,.mov (.t 11),none⟩,⟨some 60,.bin .quo (.t 58) (.t 59),none⟩,⟨some 61,.mov (.t 16),none⟩,⟨some 62,.call (.c (.fn 249 [] [])) [(.t 60),(.t 61)],none⟩,⟨some 63,.mov (.t 16),none⟩,⟨some 64,.call (.c (.fn 347 [] [])) [(.t 62),(.t 63)],none⟩,⟨some 65,.mov (.t 16),none⟩,⟨some 66,.call (.c (.fn 346 [] [])) [(.t 57),(.t 64),(.t 65)],none⟩,⟨some 17,.mov (.t 66),none⟩] []) (
.seq (
.ops [] [⟨some 67,.mov (.t 12),none⟩,⟨some 68,.mov (.t 1),none⟩,⟨some 69,.mov (.t 17),none⟩,⟨some 70,.bin .mul (.t 68) (.t 69),none⟩,⟨some 71,.bin .add (.t 67) (.t 70),none⟩,⟨some 72,.mov (.t 14),none⟩,⟨some 8,.mov (.t 71),none⟩,⟨some 9,.mov (.t 72),none⟩,⟨some 10,.mov (.c (.int .i64 0)),none⟩]) (
.ret))))))))))⟩
def rf331 : RF := ⟨27,[.tmp 4],.seq (
.ops [] [⟨some 4,.mov (.c .nils),none⟩]) (
.seq (
.seq (
.ops [] [⟨some 5,.mov (.t 1),none⟩,⟨some 6,.bin .lss (.t 5) (.c (.int .i64 0)),none⟩]) (
.cond (.t 6) ( .ops [] [⟨some 7,.bad,none⟩,⟨none,.bad,none⟩]) ( .skip))) (
.seq (
.seq (
.ops [] [⟨some 8,.mov (.t 1),none⟩,⟨some 9,.mov (.t 0),none⟩,⟨some 10,.cap (.t 9),none⟩,⟨some 11,.mov (.t 0),none⟩,⟨some 12,.len (.t 11),none⟩,⟨some 13,.bin .sub (.t 10) (.t 12),none⟩,⟨some 14,.bin .sub (.t 8) (.t 13),none⟩,⟨some 1,.mov (.t 14),none⟩]) (
.seq (
.ops [] [⟨some 15,.mov (.t 1),none⟩,⟨some 16,.bin .gtr (.t 15) (.c (.int .i64 0)),none⟩]) (
.cond (.t 16) ( .ops [] [⟨some 17,.mov (.t 0),none⟩,⟨some 18,.mov (.t 0),none⟩,⟨some 19,.cap (.t 18),none⟩,⟨some 20,.slice 1 (.t 17) none (some (.t 19)) none,none⟩,⟨some 21,.mov (.t 1),none⟩,⟨some 22,.appz none 8 (.int .i64 0) (.t 20) (.t 21),none⟩,⟨some 23,.mov (.t 0),none⟩,⟨some 24,.len (.t 23),none⟩,⟨some 25,.slice 1 (.t 22) none (some (.t 24)) none,none⟩,⟨some 0,.mov (.t 25),none⟩]) ( .skip)))) (
.seq (
.ops [] [⟨some 26,.mov (.t 0),none⟩,⟨some 4,.mov (.t 26),none⟩]) (
.ret))))⟩
def rf332 : RF := ⟨6,[.tmp 4],.seq (
.ops [] [⟨some 2,.box (some 4) (.t 0) none,none⟩,⟨some 3,.box none (.t 1) none,none⟩,⟨some 4,.mov (.c .nilf),none⟩]) (
.seq (
.ops [] [⟨some 5,.mkfn 348 [] [(.t 2),(.t 3)],none⟩,⟨some 4,.mov (.t 5),none⟩]) (
.ret))⟩
def rf333 : RF := ⟨15,[.tmp 5],.seq (
.ops [] [⟨some 5,.mov (.c .nils),none⟩]) (
.seq (
.seq (
.ops [] [⟨some 6,.fa 4 (.t 2),none⟩,⟨some 7,.load true 4 (.t 6),none⟩,⟨some 8,.mov (.t 1),none⟩,⟨some 9,.call (.c (.fn 305 [] [])) [(.t 7),(.t 8)],none⟩]) (
.cond (.t 9) ( .seq ( .ops [] [⟨some 10,.mov (.t 0),none⟩,⟨some 5,.mov (.t 10),none⟩]) ( .ret)) ( .skip))) (
.seq (
.ops [] [⟨some 11,.mov (.t 0),none⟩,⟨some 12,.mov (.t 1),none⟩,⟨some 13,.bsl none none (.int .i64 0) 1 [(0,(.t 12))],none⟩,⟨some 14,.app none 8 (.t 11) (.t 13),none⟩,⟨some 5,.mov (.t 14),none⟩]) (
.ret)))⟩
def rf334 : RF := ⟨20,[.tmp 4],.seq (
.ops [] [⟨some 2,.box (some 13) (.t 0) none,none⟩,⟨some 4,.mov (.c (.bool false)),none⟩]) (
.seq (
.dops [] 0 [⟨some 5,.fa 12 (.t 2),none⟩,⟨some 6,.load false 1 (.t 5),none⟩,⟨some 7,.mov (.t 1),none⟩,⟨some 8,.fa 11 (.t 2),none⟩,⟨some 9,.load false 1 (.t 8),none⟩,⟨some 10,.bin .rem (.t 7) (.t 9),none⟩,⟨some 11,.look false [.int] .nils (.t 6) (.t 10) false,none⟩,⟨some 12,.len (.t 11),none⟩,⟨some 13,.fa 4 (.t 2),none⟩,⟨some 14,.fa 2 (.t 13),none⟩,⟨some 15,.load false 1 (.t 14),none⟩,⟨some 16,.fa 11 (.t 2),none⟩,⟨some 17,.load false 1 (.t 16),none⟩,⟨some 18,.bin .quo (.t 15) (.t 17),none⟩,⟨some 19,.bin .eql (.t 12) (.t 18),none⟩,⟨some 4,.mov (.t 19),none⟩] []) (
.ret))⟩
def rf337 : RF := ⟨49,[.tmp 6,.tmp 7],.seq (
.ops [] [⟨some 6,.mov (.c (.int .i64 0)),none⟩,⟨some 7,.mov (.c (.bool false)),none⟩]) (
.seq (
.ops [] [⟨some 12,.mov (.t 0),none⟩,⟨some 13,.len (.t 12),none⟩,⟨some 8,.mov (.t 13),none⟩]) (
.seq (
.ops [] [⟨some 14,.mov (.t 8),none⟩,⟨some 9,.mov (.c (.int .i64 0)),none⟩,⟨some 10,.mov (.t 14),none⟩]) (
.seq (
.block 0 ( .loop ( .seq ( .seq ( .ops [] [⟨some 15,.mov (.t 9),none⟩,⟨some 16,.mov (.t 10),none⟩,⟨some 17,.bin .lss (.t 15) (.t 16),none⟩]) ( .cond (.t 17) ( .skip) ( .exit 0))) ( .block 1 ( .seq ( .ops [] [⟨some 18,.mov (.t 9),none⟩,⟨some 19,.mov (.t 10),none⟩,⟨some 20,.bin .add (.t 18) (.t 19),none⟩,⟨some 21,.conv .u64 (.t 20),none⟩,⟨some 22,.bin .shr (.t 21) (.c (.int .u64 1)),none⟩,⟨some 23,.conv .i64 (.t 22),none⟩,⟨some 11,.mov (.t 23),none⟩]) ( .seq ( .ops [] [⟨some 24,.mov (.t 2),none⟩,⟨some 25,.mov (.t 0),none⟩,⟨some 26,.mov (.t 11),none⟩,⟨some 27,.ia 2 (.t 25) (.t 26),none⟩,⟨some 28,.load true 2 (.t 27),none⟩,⟨some 29,.mov (.t 1),none⟩,⟨some 30,.call (.t 24) [(.t 28),(.t 29)],none⟩,⟨some 31,.bin .lss (.t 30) (.c (.int .i64 0)),none⟩]) ( .cond (.t 31) ( .ops [] [⟨some 32,.mov (.t 11),none⟩,⟨some 33,.bin .add (.t 32) (.c (.int .i64 1)),none⟩,⟨some 9,.mov (.t 33),none⟩]) ( .ops [] [⟨some 34,.mov (.t 11),none⟩,⟨some 10,.mov (.t 34),none⟩])))))))) (
.seq (
.ops [] [⟨some 35,.mov (.t 9),none⟩,⟨some 36,.mov (.t 9),none⟩,⟨some 37,.mov (.t 8),none⟩,⟨some 38,.bin .lss (.t 36) (.t 37),none⟩,⟨some 39,.mov (.t 38),none⟩,⟨some 40,.mov (.t 2),(some (39,true))⟩,⟨some 41,.mov (.t 0),(some (39,true))⟩,⟨some 42,.mov (.t 9),(some (39,true))⟩,⟨some 43,.ia 2 (.t 41) (.t 42),(some (39,true))⟩,⟨some 44,.load true 2 (.t 43),(some (39,true))⟩,⟨some 45,.mov (.t 1),(some (39,true))⟩,⟨some 46,.call (.t 40) [(.t 44),(.t 45)],(some (39,true))⟩,⟨some 47,.bin .eql (.t 46) (.c (.int .i64 0)),(some (39,true))⟩,⟨some 48,.pick (.t 39) (.t 47) (.c (.bool false)),none⟩,⟨some 6,.mov (.t 35),none⟩,⟨some 7,.mov (.t 48),none⟩]) (
.ret)))))⟩
def rf346 : RF := ⟨23,[.tmp 6],.seq (
.ops [] [⟨some 6,.mov (.c (.int .i64 0)),none⟩]) (
.seq (
.ops [] [⟨some 10,.mov (.t 0),none⟩,⟨some 11,.conv .u64 (.t 10),none⟩,⟨some 12,.mov (.t 1),none⟩,⟨some 13,.conv .u64 (.t 12),none⟩,⟨some 14,.call (.c (.fn 301 [] [])) [(.t 11),(.t 13)],none⟩,⟨some 9,.mov (.t 14),none⟩,⟨some 15,.ext (.t 9) 0,none⟩,⟨some 16,.ext (.t 9) 1,none⟩,⟨some 7,.mov (.t 15),none⟩,⟨some 8,.mov (.t 16),none⟩]) (
.seq (
.ops [] [⟨some 17,.mov (.t 7),none⟩,⟨some 18,.mov (.t 8),none⟩,⟨some 19,.mov (.t 2),none⟩,⟨some 20,.conv .u64 (.t 19),none⟩,⟨some 21,.call (.c (.fn 352 [] [])) [(.t 17),(.t 18),(.t 20)],none⟩,⟨some 22,.conv .i64 (.t 21),none⟩,⟨some 6,.mov (.t 22),none⟩]) (
.ret)))⟩
def rf347 : RF := ⟨32,[.tmp 4],.seq (
.ops [] [⟨some 4,.mov (.c (.int .i64 0)),none⟩]) (
.seq (
.ops [] [⟨some 10,.mov (.t 0),none⟩,⟨some 11,.mov (.t 1),none⟩,⟨some 5,.mov (.t 10),none⟩,⟨some 6,.mov (.t 11),none⟩,⟨some 7,.mov (.c (.int .i64 1)),none⟩,⟨some 8,.mov (.c (.int .i64 0)),none⟩]) (
.seq (
.block 0 ( .loop ( .seq ( .seq ( .ops [] [⟨some 12,.mov (.t 6),none⟩,⟨some 13,.bin .neq (.t 12) (.c (.int .i64 0)),none⟩]) ( .cond (.t 13) ( .skip) ( .exit 0))) ( .block 1 ( .seq ( .ops [] [⟨some 14,.mov (.t 5),none⟩,⟨some 15,.mov (.t 6),none⟩,⟨some 16,.bin .quo (.t 14) (.t 15),none⟩,⟨some 9,.mov (.t 16),none⟩]) ( .seq ( .ops [] [⟨some 17,.mov (.t 6),none⟩,⟨some 18,.mov (.t 5),none⟩,⟨some 19,.mov (.t 9),none⟩,⟨some 20,.mov (.t 6),none⟩,⟨some 21,.bin .mul (.t 19) (.t 20),none⟩,⟨some 22,.bin .sub (.t 18) (.t 21),none⟩,⟨some 5,.mov (.t 17),none⟩,⟨some 6,.mov (.t 22),none⟩]) ( .ops [] [⟨some 23,.mov (.t 8),none⟩,⟨some 24,.mov (.t 7),none⟩,⟨some 25,.mov (.t 9),none⟩,⟨some 26,.mov (.t 8),none⟩,⟨some 27,.bin .mul (.t 25) (.t 26),none⟩,⟨some 28,.bin .sub (.t 24) (.t 27),none⟩,⟨some 7,.mov (.t 23),none⟩,⟨some 8,.mov (.t 28),none⟩]))))))) (
.seq (
.ops [] [⟨some 29,.mov (.t 7),none⟩,⟨some 30,.mov (.t 1),none⟩,⟨some 31,.call (.c (.fn 249 [] [])) [(.t 29),(.t 30)],none⟩,⟨some 4,.mov (.t 31),none⟩]) (
.ret))))⟩
def rf348 : RF := ⟨78,[],.seq (
.ops [] [⟨some 12,.fa 0 (.t 1),none⟩,⟨some 13,.load false 1 (.t 12),none⟩,⟨some 14,.load false 1 (.t 2),none⟩,⟨some 15,.call (.c (.fn 147 [] [])) [(.t 13),(.t 14)],none⟩,⟨some 11,.mov (.t 15),none⟩,⟨some 16,.ext (.t 11) 0,none⟩,⟨some 17,.ext (.t 11) 1,none⟩,⟨some 4,.mov (.t 16),none⟩,⟨some 5,.mov (.t 17),none⟩]) (
.seq (
.seq (
.ops [] [⟨some 18,.fa 0 (.t 1),none⟩,⟨some 19,.load false 1 (.t 18),none⟩,⟨some 20,.mov (.t 4),none⟩,⟨some 21,.slice 1 (.t 19) (some (.t 20)) none none,none⟩,⟨some 22,.len (.t 21),none⟩,⟨some 23,.mov (.c (.int .i64 0)),none⟩]) (
.block 0 ( .loop ( .seq ( .ops [] [⟨some 24,.bin .lss (.t 23) (.t 22),none⟩]) ( .seq ( .cond (.t 24) ( .skip) ( .exit 0)) ( .seq ( .block 1 ( .seq ( .ops [] [⟨some 25,.ia 1 (.t 21) (.t 23),none⟩,⟨some 26,.load false 1 (.t 25),none⟩,⟨some 7,.mov (.t 26),none⟩]) ( .seq ( .ops [] [⟨some 27,.mov (.t 0),none⟩,⟨some 28,.mov (.t 7),none⟩,⟨some 29,.call (.t 27) [(.t 28)],none⟩,⟨some 30,.un .not (.t 29),none⟩]) ( .cond (.t 30) ( .ret) ( .skip))))) ( .ops [] [⟨some 31,.bin .add (.t 23) (.c (.int .i64 1)),none⟩,⟨some 23,.mov (.t 31),none⟩]))))))) (
.seq (
.seq (
.ops [] [⟨some 32,.fa 3 (.t 1),none⟩,⟨some 33,.load false 1 (.t 32),none⟩,⟨some 34,.len (.t 33),none⟩,⟨some 35,.bin .eql (.t 34) (.c (.int .i64 0)),none⟩]) (
.cond (.t 35) ( .ret) ( .skip))) (
.seq (
.ops [] [⟨some 36,.load false 1 (.t 2),none⟩,⟨some 37,.fa 1 (.t 1),none⟩,⟨some 38,.load false 1 (.t 37),none⟩,⟨some 39,.mx [(.t 36),(.t 38)],none⟩,⟨none,.store 1 (.t 2) (.t 39),none⟩]) (
.seq (
.dops [] 0 [⟨some 40,.load false 1 (.t 2),none⟩,⟨some 41,.load false 1 (.t 2),none⟩,⟨some 42,.fa 1 (.t 1),none⟩,⟨some 43,.load false 1 (.t 42),none⟩,⟨some 44,.bin .sub (.t 41) (.t 43),none⟩,⟨some 45,.fa 2 (.t 1),none⟩,⟨some 46,.load false 1 (.t 45),none⟩,⟨some 47,.bin .rem (.t 44) (.t 46),none⟩,⟨some 48,.bin .sub (.t 40) (.t 47),none⟩,⟨some 8,.mov (.t 48),none⟩] []) (
.seq (
.ops [] [⟨some 50,.fa 3 (.t 1),none⟩,⟨some 51,.load false 1 (.t 50),none⟩,⟨some 52,.load false 1 (.t 2),none⟩,⟨some 53,.mov (.t 8),none⟩,⟨some 54,.bin .sub (.t 52) (.t 53),none⟩,⟨some 55,.call (.c (.fn 147 [] [])) [(.t 51),(.t 54)],none⟩,⟨some 49,.mov (.t 55),none⟩,⟨some 56,.ext (.t 49) 0,none⟩,⟨some 57,.ext (.t 49) 1,none⟩,⟨some 4,.mov (.t 56),none⟩]) (
.block 2 ( .loop ( .block 3 ( .seq ( .seq ( .ops [] [⟨some 58,.fa 3 (.t 1),none⟩,⟨some 59,.load false 1 (.t 58),none⟩,⟨some 60,.mov (.t 4),none⟩,⟨some 61,.slice 1 (.t 59) (some (.t 60)) none none,none⟩,⟨some 62,.len (.t 61),none⟩,⟨some 63,.mov (.c (.int .i64 0)),none⟩]) ( .block 4 ( .loop ( .seq ( .ops [] [⟨some 64,.bin .lss (.t 63) (.t 62),none⟩]) ( .seq ( .cond (.t 64) ( .skip) ( .exit 4)) ( .seq ( .block 5 ( .seq ( .ops [] [⟨some 65,.ia 1 (.t 61) (.t 63),none⟩,⟨some 66,.load false 1 (.t 65),none⟩,⟨some 10,.mov (.t 66),none⟩]) ( .seq ( .ops [] [⟨some 67,.mov (.t 0),none⟩,⟨some 68,.mov (.t 8),none⟩,⟨some 69,.mov (.t 10),none⟩,⟨some 70,.bin .add (.t 68) (.t 69),none⟩,⟨some 71,.call (.t 67) [(.t 70)],none⟩,⟨some 72,.un .not (.t 71),none⟩]) ( .cond (.t 72) ( .ret) ( .skip))))) ( .ops [] [⟨some 73,.bin .add (.t 63) (.c (.int .i64 1)),none⟩,⟨some 63,.mov (.t 73),none⟩]))))))) ( .seq ( .ops [] [⟨some 4,.mov (.c (.int .i64 0)),none⟩]) ( .ops [] [⟨some 74,.mov (.t 8),none⟩,⟨some 75,.fa 2 (.t 1),none⟩,⟨some 76,.load false 1 (.t 75),none⟩,⟨some 77,.bin .add (.t 74) (.t 76),none⟩,⟨some 8,.mov (.t 77),none⟩])))))))))))⟩
def rf352 : RF := ⟨19,[.tmp 6],.seq (
.ops [] [⟨some 6,.mov (.c (.int .u64 0)),none⟩]) (
.seq (
.ops [] [⟨some 10,.mov (.t 0),none⟩,⟨some 11,.mov (.t 2),none⟩,⟨some 12,.bin .rem (.t 10) (.t 11),none⟩,⟨some 13,.mov (.t 1),none⟩,⟨some 14,.mov (.t 2),none⟩,⟨some 15,.call (.c (.fn 303 [] [])) [(.t 12),(.t 13),(.t 14)],none⟩,⟨some 9,.mov (.t 15),none⟩,⟨some 16,.ext (.t 9) 0,none⟩,⟨some 17,.ext (.t 9) 1,none⟩,⟨some 7,.mov (.t 16),none⟩,⟨some 8,.mov (.t 17),none⟩]) (
.seq (
.ops [] [⟨some 18,.mov (.t 8),none⟩,⟨some 6,.mov (.t 18),none⟩]) (
.ret)))⟩ end Go.S32
