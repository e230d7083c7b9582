/- The proofs zex the intermediate form, part QYardLossesd. -/
import Derived.Test.YtonnmmemnjnjbaaQYardLossesa
import Derived.Test.YtonnmmemnjnjbaaQYardLossesb
import Derived.Test.YtonnmmemnjnjbaaQYardLossesc
open Go.IntKind (i64)
set_option linter.unusedVariables false
set_option linter.unusedSimpArgs false
set_option maxRecDepth 100000
namespace Go.Rh
def zhn : IFunc := ⟨35, [.tmp 4, .tmp 5], (.seq (.reg [kq 2 (.box (.t 0)), kq 4 (.mv (.c (.pointer none))), kq 5 (.mv (ki 0))]) (.seq (.reg [kq 10 (.ld (some 330) (.t 2)), km 11 1, kq 12 (.call "roundhouse/head.New" [(.t 10), (.t 11)]), km 9 12, kq 13 (.ext 0 (.t 9)), kq 14 (.ext 1 (.t 9)), km 6 13, km 7 14]) (.seq (.seq (.reg [km 15 7, kq 16 (.bin .neq (.t 15) (ki 0))]) (.cond (.t 16) (.seq (.reg [km 17 7, kq 4 (.mv (.c (.pointer none))), km 5 17]) .ret) .skip)) (.seq (.reg [km 18 6, kq 19 (.bld [(1, .pointer none), (2, (.slice none 0 0))] [(0, 1, (.t 18))]), kq 20 (.box (.t 19)), km 8 20]) (.seq (.seq (.reg [km 21 1, kq 22 (.mv (ki 0))]) (.block 0 (.loop (.seq (.reg [kq 23 (.bin .lss (.t 22) (.t 21))]) (.seq (.cond (.t 23) .skip (.exit 0)) (.seq (.block 1 (.dreg [km 24 8, kq 25 (.nilc (.t 24)), kq 26 (.fad 1 (.t 25)), kq 27 (.call "roundhouse/plane.New" []), kq 28 (.mkc 1), kq 29 (.bld [(1, .pointer none), (324, (.int .i64 0)), (6, (.int .u64 0)), (1, (.int .i64 0)), (1, (.chan none))] [(0, 1, (.t 27)), (332, 1, (.t 28))]), kq 30 (.box (.t 29)), kq 31 (.bsl [(1, .pointer none)] 1 1 [(0, 1, (.t 30))]), kq 32 (.call "(*roundhouse/yard.row[*roundhouse/yard.unit]).put" [(.t 26), (.t 31)])] [[], [0], [1, 0], [], [], [3, 4], [5, 3, 4], [6, 5, 3, 4], [2, 1, 0, 7, 6, 5, 3, 4]])) (.reg [kq 33 (.bin .add (.t 22) (ki 1)), km 22 33]))))))) (.seq (.reg [km 34 8, km 4 34, kq 5 (.mv (ki 0))]) .ret))))))⟩
abbrev zhg (P : Program) : Prop := zX P "roundhouse/yard.New" = some zhn
def zdA : IFunc := ⟨14, [.tmp 2], (.seq (.reg [kq 2 (.mv (ki 0))]) (.seq (.dreg [km 3 0, kq 4 (.nilc (.t 3)), kq 5 (.fad 2 (.t 4)), km 6 0, kq 7 (.nilc (.t 6)), kq 8 (.fad 0 (.t 7)), kq 9 (.ld none (.t 8)), kq 10 (.call "(*roundhouse/head.Head).Send" [(.t 9)]), kq 11 (.call "(*roundhouse/yard.row[roundhouse/head.Note]).put" [(.t 5), (.t 10)])] [[], [0], [1, 0], [], [3], [4, 3], [5, 4, 3], [6, 5, 4, 3], [2, 1, 0, 7, 6, 5, 4, 3]]) (.seq (.reg [km 12 0, kq 13 (.call "(*roundhouse/yard.Yard).Notes" [(.t 12)]), km 2 13]) .ret)))⟩
abbrev zcm (P : Program) : Prop := zX P "(*roundhouse/yard.Yard).Tick" = some zdA
def zbM : IFunc := ⟨67, [.tmp 6], (.seq (.reg [kq 6 (.mv kF)]) (.seq (.reg [km 14 0, kq 15 (.nilc (.t 14)), kq 16 (.fad 2 (.t 15)), km 17 1, kq 18 (.call "(*roundhouse/yard.row[roundhouse/head.Note]).at" [(.t 16), (.t 17)]), km 13 18, kq 19 (.ext 0 (.t 13)), kq 20 (.ext 1 (.t 13)), kq 7 (.new kB), ku (.st 342 (.t 7) (.t 19)), km 8 20]) (.seq (.seq (.reg [km 21 8, kq 22 (.un .not (.t 21))]) (.cond (.t 22) (.seq (.reg [kq 6 (.mv kF)]) .ret) .skip)) (.seq (.seq (.reg [km 23 2, kq 24 (.un .not (.t 23))]) (.cond (.t 24) (.reg [km 25 0, kq 26 (.nilc (.t 25)), kq 27 (.fad 2 (.t 26)), km 28 1, kq 29 (.call "(*roundhouse/yard.row[roundhouse/head.Note]).drop" [(.t 27), (.t 28)])]) .skip)) (.seq (.seq (.reg [kq 30 (.fad 4 (.t 7)), kq 31 (.ld none (.t 30))]) (.cond (.t 31) (.seq (.dreg [km 32 0, kq 33 (.nilc (.t 32)), kq 34 (.fad 0 (.t 33)), kq 35 (.ld none (.t 34)), kq 36 (.ld (some 342) (.t 7)), kq 37 (.call "(*roundhouse/head.Head).Heard" [(.t 35), (.t 36)])] [[], [0], [1, 0], [2, 1, 0], [], [3, 2, 1, 0, 4]]) (.seq (.reg [kq 6 (.mv kT)]) .ret)) .skip)) (.seq (.seq (.dreg [km 39 0, kq 40 (.nilc (.t 39)), kq 41 (.fad 1 (.t 40)), kq 42 (.fad 0 (.t 7)), kq 43 (.ld none (.t 42)), kq 44 (.call "(*roundhouse/yard.row[*roundhouse/yard.unit]).at" [(.t 41), (.t 43)]), km 38 44, kq 45 (.ext 0 (.t 38)), kq 46 (.ext 1 (.t 38)), km 9 45, km 10 46] [[], [0], [1, 0], [], [3], [2, 1, 0, 4, 3], [5, 2, 1, 0, 4, 3], [6, 5, 2, 1, 0, 4, 3], [6, 5, 2, 1, 0, 4, 3], [7, 6, 5, 2, 1, 0, 4, 3], [8, 6, 5, 2, 1, 0, 4, 3, 9, 7]]) (.seq (.reg [km 47 10]) (.cond (.t 47) (.seq (.dreg [km 48 9, kq 49 (.nilc (.t 48)), kq 50 (.fad 332 (.t 49)), kq 51 (.ld none (.t 50)), kq 52 (.ld (some 342) (.t 7)), ku (.snd (.t 51) (.t 52))] [[], [0], [1, 0], [2, 1, 0], [], [3, 2, 1, 0, 4]]) (.seq (.reg [km 54 9, kq 55 (.fad 0 (.t 7)), kq 56 (.ld none (.t 55)), kq 57 (.call "(*roundhouse/yard.unit).hear" [(.t 54), (.t 56)]), km 53 57, kq 58 (.ext 0 (.t 53)), kq 59 (.ext 1 (.t 53)), kq 11 (.new kB), ku (.st 342 (.t 11) (.t 58)), km 12 59]) (.seq (.reg [km 60 12]) (.cond (.t 60) (.dreg [km 61 0, kq 62 (.nilc (.t 61)), kq 63 (.fad 2 (.t 62)), kq 64 (.ld (some 342) (.t 11)), kq 65 (.bsl kB 342 1 [(0, 342, (.t 64))]), kq 66 (.call "(*roundhouse/yard.row[roundhouse/head.Note]).put" [(.t 63), (.t 65)])] [[], [0], [1, 0], [], [3], [2, 1, 0, 4, 3]]) .skip)))) .skip))) (.seq (.reg [kq 6 (.mv kT)]) .ret)))))))⟩
abbrev zbk (P : Program) : Prop := zX P "(*roundhouse/yard.Yard).Deliver" = some zbM
def zcu : IFunc := ⟨25, [.tmp 4, .tmp 5], (.seq (.reg [kq 4 (.mv (ki 0)), kq 5 (.mv kF)]) (.seq (.reg [km 9 0, kq 10 (.nilc (.t 9)), kq 11 (.fad 1 (.t 10)), km 12 1, kq 13 (.call "(*roundhouse/yard.row[*roundhouse/yard.unit]).at" [(.t 11), (.t 12)]), km 8 13, kq 14 (.ext 0 (.t 8)), kq 15 (.ext 1 (.t 8)), km 6 14, km 7 15]) (.seq (.seq (.reg [km 16 7, kq 17 (.un .not (.t 16))]) (.cond (.t 17) (.seq (.reg [kq 4 (.mv (ki 0)), kq 5 (.mv kF)]) .ret) .skip)) (.seq (.reg [km 18 6, kq 19 (.nilc (.t 18)), kq 20 (.fad 0 (.t 19)), kq 21 (.ld none (.t 20)), kq 22 (.call "(*roundhouse/plane.Plane).Version" [(.t 21)]), kq 23 (.ext 0 (.t 22)), kq 24 (.ext 1 (.t 22)), km 4 23, km 5 24]) .ret))))⟩
abbrev zbK (P : Program) : Prop := zX P "(*roundhouse/yard.Yard).Version" = some zcu
def zcb : IFunc := ⟨9, [.tmp 2], (.seq (.reg [kq 2 (.mv (ki 0))]) (.seq (.reg [km 3 0, kq 4 (.nilc (.t 3)), kq 5 (.fad 2 (.t 4)), kq 6 (.fad 0 (.t 5)), kq 7 (.ld none (.t 6)), kq 8 (.lenS (.t 7)), km 2 8]) .ret))⟩
abbrev zbi (P : Program) : Prop := zX P "(*roundhouse/yard.Yard).Notes" = some zcb
def zdC : IFunc := ⟨22, [.tmp 4], (.seq (.reg [kq 4 (.mv kF)]) (.seq (.reg [km 8 0, kq 9 (.nilc (.t 8)), kq 10 (.fad 2 (.t 9)), km 11 1, kq 12 (.call "(*roundhouse/yard.row[roundhouse/head.Note]).at" [(.t 10), (.t 11)]), km 7 12, kq 13 (.ext 0 (.t 7)), kq 14 (.ext 1 (.t 7)), kq 5 (.new kB), ku (.st 342 (.t 5) (.t 13)), km 6 14]) (.seq (.seq (.reg [km 15 6]) (.cond (.t 15) (.reg [km 16 0, kq 17 (.nilc (.t 16)), kq 18 (.fad 2 (.t 17)), km 19 1, kq 20 (.call "(*roundhouse/yard.row[roundhouse/head.Note]).drop" [(.t 18), (.t 19)])]) .skip)) (.seq (.reg [km 21 6, km 4 21]) .ret))))⟩
abbrev zco (P : Program) : Prop := zX P "(*roundhouse/yard.Yard).Lose" = some zdC
def zeE : IFunc := ⟨33, [.tmp 4], (.seq (.reg [kq 4 (.mv kF)]) (.seq (.reg [km 8 0, kq 9 (.nilc (.t 8)), kq 10 (.fad 1 (.t 9)), km 11 1, kq 12 (.call "(*roundhouse/yard.row[*roundhouse/yard.unit]).at" [(.t 10), (.t 11)]), km 7 12, kq 13 (.ext 0 (.t 7)), kq 14 (.ext 1 (.t 7)), km 5 13, km 6 14]) (.seq (.seq (.reg [km 15 6]) (.cond (.t 15) (.seq (.reg [km 16 5, kq 17 (.nilc (.t 16)), kq 18 (.fad 0 (.t 17)), kq 19 (.ld none (.t 18)), kq 20 (.call "(*roundhouse/plane.Plane).Crash" [(.t 19)])]) (.seq (.reg [km 21 5, kq 22 (.bld kA []), kq 23 (.nilc (.t 21)), kq 24 (.fad 1 (.t 23)), ku (.st 330 (.t 24) (.t 22))]) (.reg [km 25 5, kq 26 (.nilc (.t 25)), kq 27 (.fad 331 (.t 26)), kq 28 (.ld none (.t 27)), kq 29 (.bin .add (.t 28) (ki 1)), kq 30 (.nilc (.t 25)), kq 31 (.fad 331 (.t 30)), ku (.st 1 (.t 31) (.t 29))]))) .skip)) (.seq (.reg [km 32 6, km 4 32]) .ret))))⟩
abbrev zc4 (P : Program) : Prop := zX P "(*roundhouse/yard.Yard).Crash" = some zeE
def ze0 : IFunc := ⟨11, [.tmp 4], (.seq (.reg [kq 4 (.mv (ki 0))]) (.seq (.reg [km 5 0, kq 6 (.nilc (.t 5)), kq 7 (.fad 0 (.t 6)), kq 8 (.ld none (.t 7)), km 9 1, kq 10 (.call "(*roundhouse/head.Head).Wish" [(.t 8), (.t 9)]), km 4 10]) .ret))⟩
abbrev zdv (P : Program) : Prop := zX P "(*roundhouse/yard.Yard).Wish" = some ze0
def zdB : IFunc := ⟨8, [.cell 2 (some 330)], (.seq (.reg [kq 2 (.new kA)]) (.seq (.reg [km 3 0, kq 4 (.nilc (.t 3)), kq 5 (.fad 0 (.t 4)), kq 6 (.ld none (.t 5)), kq 7 (.call "(*roundhouse/head.Head).Pool" [(.t 6)]), ku (.st 330 (.t 2) (.t 7))]) .ret))⟩
abbrev zcn (P : Program) : Prop := zX P "(*roundhouse/yard.Yard).Pool" = some zdB
def zbF : IFunc := ⟨13, [], (.reg [km 4 0, km 5 0, kq 6 (.nilc (.t 5)), kq 7 (.fad 0 (.t 6)), kq 8 (.ld none (.t 7)), km 9 1, kq 10 (.app [(1, .pointer none)] 1 8 (.t 8) (.t 9)), kq 11 (.nilc (.t 4)), kq 12 (.fad 0 (.t 11)), ku (.st 1 (.t 12) (.t 10))])⟩
abbrev zba (P : Program) : Prop := zX P "(*roundhouse/yard.row[*roundhouse/yard.unit]).put" = some zbF
def zgs : IFunc := ⟨3, [.tmp 0], (.seq (.reg [kq 0 (.mv (.c (.pointer none)))]) (.seq (.reg [kq 1 (.bld [(324, (.int .i64 0)), (6, (.int .u64 0)), (1, (.bool false)), (1, (.int .u32 0)), (1, (.bool false)), (1, (.int .u32 0)), (1, (.bool false)), (1, (.int .u32 0)), (1, (.bool false)), (1, (.int .u32 0)), (1, (.bool false)), (1, (.int .u32 0)), (1, (.bool false)), (1, (.int .u32 0)), (1, (.bool false)), (1, (.int .u32 0)), (1, (.bool false)), (1, (.int .u32 0)), (1, (.bool false)), (1, (.int .u32 0)), (1, (.bool false)), (1, (.int .u32 0)), (1, (.bool false)), (1, (.int .u32 0)), (1, (.bool false)), (1, (.int .u32 0)), (1, (.bool false)), (1, (.int .u32 0)), (1, (.bool false)), (1, (.int .u32 0)), (1, (.bool false)), (1, (.int .u32 0)), (1, (.bool false)), (1, (.int .u32 0)), (1, (.bool false)), (1, (.int .u32 0)), (1, (.bool false)), (1, (.int .u32 0)), (1, (.bool false)), (1, (.int .u32 0)), (1, (.bool false)), (1, (.int .u32 0)), (1, (.bool false)), (1, (.int .u32 0)), (1, (.bool false)), (1, (.int .u32 0)), (1, (.bool false)), (1, (.int .u32 0)), (1, (.bool false)), (1, (.int .u32 0)), (1, (.bool false)), (1, (.int .u32 0)), (1, (.bool false)), (1, (.int .u32 0)), (1, (.bool false)), (1, (.int .u32 0)), (1, (.bool false)), (1, (.int .u32 0)), (1, (.bool false)), (1, (.int .u32 0)), (1, (.bool false)), (1, (.int .u32 0)), (1, (.bool false)), (1, (.int .u32 0)), (1, (.bool false)), (1, (.int .u32 0)), (1, (.bool false)), (1, (.int .u32 0)), (1, (.bool false)), (1, (.int .u32 0)), (1, (.bool false)), (1, (.int .u32 0)), (1, (.bool false)), (1, (.int .u32 0)), (1, (.bool false)), (1, (.int .u32 0)), (1, (.bool false)), (1, (.int .u32 0)), (1, (.bool false)), (1, (.int .u32 0)), (1, (.bool false)), (1, (.int .u32 0)), (1, (.bool false)), (1, (.int .u32 0)), (1, (.bool false)), (1, (.int .u32 0)), (1, (.bool false)), (1, (.int .u32 0)), (1, (.bool false)), (1, (.int .u32 0)), (1, (.bool false)), (1, (.int .u32 0)), (1, (.bool false)), (1, (.int .u32 0)), (1, (.bool false)), (1, (.int .u32 0)), (1, (.bool false)), (1, (.int .u32 0)), (1, (.bool false)), (1, (.int .u32 0)), (1, (.bool false)), (1, (.int .u32 0)), (1, (.bool false)), (1, (.int .u32 0)), (1, (.bool false)), (1, (.int .u32 0)), (1, (.bool false)), (1, (.int .u32 0)), (1, (.bool false)), (1, (.int .u32 0)), (1, (.bool false)), (1, (.int .u32 0)), (1, (.bool false)), (1, (.int .u32 0)), (1, (.bool false)), (1, (.int .u32 0)), (1, (.bool false)), (1, (.int .u32 0)), (1, (.bool false)), (1, (.int .u32 0)), (1, (.bool false)), (1, (.int .u32 0)), (1, (.bool false)), (1, (.int .u32 0)), (1, (.bool false)), (1, (.int .u32 0)), (1, (.bool false)), (1, (.int .u32 0)), (1, (.bool false)), (1, (.int .u32 0)), (1, (.bool false)), (1, (.slice none 0 0))] []), kq 2 (.box (.t 1)), km 0 2]) .ret))⟩
abbrev zeR (P : Program) : Prop := zX P "roundhouse/plane.New" = some zgs
def zbG : IFunc := ⟨13, [], (.reg [km 4 0, km 5 0, kq 6 (.nilc (.t 5)), kq 7 (.fad 0 (.t 6)), kq 8 (.ld none (.t 7)), km 9 1, kq 10 (.app kB 342 2728 (.t 8) (.t 9)), kq 11 (.nilc (.t 4)), kq 12 (.fad 0 (.t 11)), ku (.st 1 (.t 12) (.t 10))])⟩
abbrev zaC (P : Program) : Prop := zX P "(*roundhouse/yard.row[roundhouse/head.Note]).put" = some zbG
def zbd : IFunc := ⟨26, [.cell 4 (some 342), .tmp 5], (.seq (.reg [kq 4 (.new kB), kq 5 (.mv kF)]) (.seq (.seq (.reg [km 7 1, kq 8 (.bin .lss (.t 7) (ki 0)), km 9 8, kg 10 (.mv (.t 1)) 9 false, kg 11 (.mv (.t 0)) 9 false, kg 12 (.nilc (.t 11)) 9 false, kg 13 (.fad 0 (.t 12)) 9 false, kg 14 (.ld none (.t 13)) 9 false, kg 15 (.lenS (.t 14)) 9 false, kg 16 (.bin .geq (.t 10) (.t 15)) 9 false, kq 17 (.pick (.t 9) kT (.t 16))]) (.cond (.t 17) (.seq (.reg [kq 6 (.new kB)]) (.seq (.reg [kq 18 (.ld (some 342) (.t 6)), ku (.st 342 (.t 4) (.t 18)), kq 5 (.mv kF)]) .ret)) .skip)) (.seq (.reg [km 19 0, kq 20 (.nilc (.t 19)), kq 21 (.fad 0 (.t 20)), kq 22 (.ld none (.t 21)), km 23 1, kq 24 (.iadS 342 (.t 22) (.t 23)), kq 25 (.ld (some 342) (.t 24)), ku (.st 342 (.t 4) (.t 25)), kq 5 (.mv kT)]) .ret)))⟩
abbrev zah (P : Program) : Prop := zX P "(*roundhouse/yard.row[roundhouse/head.Note]).at" = some zbd
def zby : IFunc := ⟨22, [], (.dreg [km 4 0, km 5 0, kq 6 (.nilc (.t 5)), kq 7 (.fad 0 (.t 6)), kq 8 (.ld none (.t 7)), km 9 1, km 10 1, kq 11 (.slcS 342 (.t 8) none (some (.t 9)) (some (.t 10))), km 12 0, kq 13 (.nilc (.t 12)), kq 14 (.fad 0 (.t 13)), kq 15 (.ld none (.t 14)), km 16 1, kq 17 (.bin .add (.t 16) (ki 1)), kq 18 (.slcS 342 (.t 15) (some (.t 17)) none none), kq 19 (.app kB 342 2728 (.t 11) (.t 18)), kq 20 (.nilc (.t 4)), kq 21 (.fad 0 (.t 20)), ku (.st 1 (.t 21) (.t 19))] [[], [], [1], [2, 1], [3, 2, 1], [], [], [4, 3, 2, 1, 5, 6], [], [8], [9, 8], [10, 9, 8], [], [12], [11, 10, 9, 8, 13, 12], [7, 4, 3, 2, 1, 5, 6, 14, 11, 10, 9, 8, 13, 12], [0, 1, 2, 3, 4, 5, 6, 7, 8, 9, 10, 11, 12, 13, 14, 15], [16, 0, 1, 2, 3, 4, 5, 6, 7, 8, 9, 10, 11, 12, 13, 14, 15], [17, 16, 0, 1, 2, 3, 4, 5, 6, 7, 8, 9, 10, 11, 12, 13, 14, 15]])⟩
abbrev zai (P : Program) : Prop := zX P "(*roundhouse/yard.row[roundhouse/head.Note]).drop" = some zby
def zbL : IFunc := ⟨26, [.tmp 4, .tmp 5], (.seq (.reg [kq 4 (.mv (.c (.pointer none))), kq 5 (.mv kF)]) (.seq (.seq (.reg [km 7 1, kq 8 (.bin .lss (.t 7) (ki 0)), km 9 8, kg 10 (.mv (.t 1)) 9 false, kg 11 (.mv (.t 0)) 9 false, kg 12 (.nilc (.t 11)) 9 false, kg 13 (.fad 0 (.t 12)) 9 false, kg 14 (.ld none (.t 13)) 9 false, kg 15 (.lenS (.t 14)) 9 false, kg 16 (.bin .geq (.t 10) (.t 15)) 9 false, kq 17 (.pick (.t 9) kT (.t 16))]) (.cond (.t 17) (.seq (.reg [kq 6 (.mv (.c (.pointer none)))]) (.seq (.reg [km 18 6, km 4 18, kq 5 (.mv kF)]) .ret)) .skip)) (.seq (.reg [km 19 0, kq 20 (.nilc (.t 19)), kq 21 (.fad 0 (.t 20)), kq 22 (.ld none (.t 21)), km 23 1, kq 24 (.iadS 1 (.t 22) (.t 23)), kq 25 (.ld none (.t 24)), km 4 25, kq 5 (.mv kT)]) .ret)))⟩
abbrev zag (P : Program) : Prop := zX P "(*roundhouse/yard.row[*roundhouse/yard.unit]).at" = some zbL
def zdz : IFunc := ⟨81, [.cell 4 (some 342), .tmp 5], (.seq (.reg [kq 4 (.new kB), kq 5 (.mv kF)]) (.seq (.reg [km 10 0, kq 11 (.nilc (.t 10)), kq 12 (.fad 332 (.t 11)), kq 13 (.ld none (.t 12))]) (.seq (.reg [kq 14 (.sel1 kB true (.t 13)), kq 15 (.ext 0 (.t 14)), kq 16 (.bin .eql (.t 15) (ki 0))]) (.block 0 (.cond (.t 16) (.seq (.reg [kq 18 (.ext 2 (.t 14)), kq 6 (.new kB), ku (.st 342 (.t 6) (.t 18))]) (.seq (.reg [km 19 0, kq 20 (.call "(*roundhouse/yard.unit).version" [(.t 19)]), km 7 20]) (.seq (.block 1 (.seq (.dreg [kq 22 (.fad 1 (.t 6)), kq 23 (.ld none (.t 22)), km 24 0, kq 25 (.nilc (.t 24)), kq 26 (.fad 331 (.t 25)), kq 27 (.ld none (.t 26)), kq 28 (.bin .neq (.t 23) (.t 27)), km 21 28] [[], [0], [], [2], [3, 2], [4, 3, 2], [1, 0, 5, 4, 3, 2], [6, 1, 0, 5, 4, 3, 2]]) (.cond (.t 21) .skip (.seq (.reg [kq 30 (.fad 3 (.t 6)), kq 31 (.ld none (.t 30)), km 32 31, kg 33 (.mv (.t 7)) 32 true, kg 34 (.fad 12 (.t 6)) 32 true, kg 35 (.fad 0 (.t 34)) 32 true, kg 36 (.ld none (.t 35)) 32 true, kg 37 (.bin .lss (.t 33) (.t 36)) 32 true, kq 38 (.pick (.t 32) (.t 37) kF), km 29 38]) (.cond (.t 29) (.reg [km 39 0, kq 40 (.fad 12 (.t 6)), kq 41 (.ld (some 330) (.t 40)), kq 42 (.call "(*roundhouse/yard.unit).load" [(.t 39), (.t 41)])]) (.seq (.reg [kq 44 (.fad 3 (.t 6)), kq 45 (.ld none (.t 44)), kq 46 (.un .not (.t 45)), km 47 46, kg 48 (.mv (.t 7)) 47 true, kg 49 (.bin .geq (.t 48) (ki 0)) 47 true, kq 50 (.pick (.t 47) (.t 49) kF), km 51 50, kg 52 (.fad 2 (.t 6)) 51 true, kg 53 (.ld none (.t 52)) 51 true, kg 54 (.mv (.t 7)) 51 true, kg 55 (.bin .add (.t 54) (ki 1)) 51 true, kg 56 (.bin .eql (.t 53) (.t 55)) 51 true, kq 57 (.pick (.t 51) (.t 56) kF), km 43 57]) (.cond (.t 43) (.seq (.dreg [km 59 0, kq 60 (.nilc (.t 59)), kq 61 (.fad 1 (.t 60)), kq 62 (.ld (some 330) (.t 61)), kq 63 (.fad 5 (.t 6)), kq 64 (.ld (some 7) (.t 63)), kq 65 (.call "roundhouse/pool.Apply" [(.t 62), (.t 64)]), km 58 65, kq 66 (.ext 0 (.t 58)), kq 67 (.ext 1 (.t 58)), kq 8 (.new kA), ku (.st 330 (.t 8) (.t 66)), km 9 67] [[], [0], [1, 0], [2, 1, 0], [], [4], [3, 2, 1, 0, 5, 4], [6, 3, 2, 1, 0, 5, 4], [7, 6, 3, 2, 1, 0, 5, 4], [7, 6, 3, 2, 1, 0, 5, 4], [], [10, 8, 7, 6, 3, 2, 1, 0, 5, 4], [9, 7, 6, 3, 2, 1, 0, 5, 4, 11, 10, 8]]) (.seq (.reg [km 68 9, kq 69 (.bin .eql (.t 68) (ki 0))]) (.cond (.t 69) (.reg [km 70 0, kq 71 (.ld (some 330) (.t 8)), kq 72 (.call "(*roundhouse/yard.unit).load" [(.t 70), (.t 71)])]) .skip))) .skip))))))) (.seq (.dreg [km 73 1, km 74 0, kq 75 (.nilc (.t 74)), kq 76 (.fad 331 (.t 75)), kq 77 (.ld none (.t 76)), km 78 0, kq 79 (.call "(*roundhouse/yard.unit).version" [(.t 78)]), kq 80 (.bld kB [(0, 1, (.t 73)), (1, 1, (.t 77)), (2, 1, (.t 79)), (4, 1, kT)]), ku (.st 342 (.t 4) (.t 80)), kq 5 (.mv kT)] [[], [], [1], [2, 1], [3, 2, 1], [], [5], [0, 4, 3, 2, 1, 6, 5], [7, 0, 4, 3, 2, 1, 6, 5], [8, 7, 0, 4, 3, 2, 1, 6, 5]]) .ret)))) (.seq (.reg [kq 17 (.bld kB []), ku (.st 342 (.t 4) (.t 17)), kq 5 (.mv kF)]) .ret))))))⟩
abbrev zbO (P : Program) : Prop := zX P "(*roundhouse/yard.unit).hear" = some zdz
def zb6 : IFunc := ⟨15, [.tmp 2, .tmp 3], (.seq (.reg [kq 2 (.mv (ki 0)), kq 3 (.mv kF)]) (.seq (.dreg [km 4 0, kq 5 (.nilc (.t 4)), kq 6 (.fad 0 (.t 5)), kq 7 (.fad 0 (.t 6)), kq 8 (.fad 0 (.t 7)), kq 9 (.ld none (.t 8)), km 10 0, kq 11 (.nilc (.t 10)), kq 12 (.fad 0 (.t 11)), kq 13 (.fad 330 (.t 12)), kq 14 (.ld none (.t 13)), km 2 9, km 3 14] [[], [0], [1, 0], [2, 1, 0], [3, 2, 1, 0], [4, 3, 2, 1, 0], [], [6], [7, 6], [8, 7, 6], [9, 8, 7, 6], [5, 4, 3, 2, 1, 0], [10, 9, 8, 7, 6, 11, 5, 4, 3, 2, 1, 0]]) .ret))⟩
abbrev zas (P : Program) : Prop := zX P "(*roundhouse/plane.Plane).Version" = some zb6
def zd3 : IFunc := ⟨5, [], (.reg [km 2 0, kq 3 (.bld [(324, (.int .i64 0)), (6, (.int .u64 0)), (1, (.bool false)), (1, (.int .u32 0)), (1, (.bool false)), (1, (.int .u32 0)), (1, (.bool false)), (1, (.int .u32 0)), (1, (.bool false)), (1, (.int .u32 0)), (1, (.bool false)), (1, (.int .u32 0)), (1, (.bool false)), (1, (.int .u32 0)), (1, (.bool false)), (1, (.int .u32 0)), (1, (.bool false)), (1, (.int .u32 0)), (1, (.bool false)), (1, (.int .u32 0)), (1, (.bool false)), (1, (.int .u32 0)), (1, (.bool false)), (1, (.int .u32 0)), (1, (.bool false)), (1, (.int .u32 0)), (1, (.bool false)), (1, (.int .u32 0)), (1, (.bool false)), (1, (.int .u32 0)), (1, (.bool false)), (1, (.int .u32 0)), (1, (.bool false)), (1, (.int .u32 0)), (1, (.bool false)), (1, (.int .u32 0)), (1, (.bool false)), (1, (.int .u32 0)), (1, (.bool false)), (1, (.int .u32 0)), (1, (.bool false)), (1, (.int .u32 0)), (1, (.bool false)), (1, (.int .u32 0)), (1, (.bool false)), (1, (.int .u32 0)), (1, (.bool false)), (1, (.int .u32 0)), (1, (.bool false)), (1, (.int .u32 0)), (1, (.bool false)), (1, (.int .u32 0)), (1, (.bool false)), (1, (.int .u32 0)), (1, (.bool false)), (1, (.int .u32 0)), (1, (.bool false)), (1, (.int .u32 0)), (1, (.bool false)), (1, (.int .u32 0)), (1, (.bool false)), (1, (.int .u32 0)), (1, (.bool false)), (1, (.int .u32 0)), (1, (.bool false)), (1, (.int .u32 0)), (1, (.bool false)), (1, (.int .u32 0)), (1, (.bool false)), (1, (.int .u32 0)), (1, (.bool false)), (1, (.int .u32 0)), (1, (.bool false)), (1, (.int .u32 0)), (1, (.bool false)), (1, (.int .u32 0)), (1, (.bool false)), (1, (.int .u32 0)), (1, (.bool false)), (1, (.int .u32 0)), (1, (.bool false)), (1, (.int .u32 0)), (1, (.bool false)), (1, (.int .u32 0)), (1, (.bool false)), (1, (.int .u32 0)), (1, (.bool false)), (1, (.int .u32 0)), (1, (.bool false)), (1, (.int .u32 0)), (1, (.bool false)), (1, (.int .u32 0)), (1, (.bool false)), (1, (.int .u32 0)), (1, (.bool false)), (1, (.int .u32 0)), (1, (.bool false)), (1, (.int .u32 0)), (1, (.bool false)), (1, (.int .u32 0)), (1, (.bool false)), (1, (.int .u32 0)), (1, (.bool false)), (1, (.int .u32 0)), (1, (.bool false)), (1, (.int .u32 0)), (1, (.bool false)), (1, (.int .u32 0)), (1, (.bool false)), (1, (.int .u32 0)), (1, (.bool false)), (1, (.int .u32 0)), (1, (.bool false)), (1, (.int .u32 0)), (1, (.bool false)), (1, (.int .u32 0)), (1, (.bool false)), (1, (.int .u32 0)), (1, (.bool false)), (1, (.int .u32 0)), (1, (.bool false)), (1, (.int .u32 0)), (1, (.bool false)), (1, (.int .u32 0)), (1, (.bool false)), (1, (.int .u32 0)), (1, (.bool false)), (1, (.int .u32 0)), (1, (.bool false)), (1, (.int .u32 0)), (1, (.bool false)), (1, (.slice none 0 0))] []), kq 4 (.nilc (.t 2)), ku (.st 460 (.t 4) (.t 3))])⟩
abbrev zcr (P : Program) : Prop := zX P "(*roundhouse/plane.Plane).Crash" = some zd3
def zct : IFunc := ⟨15, [.tmp 2], (.seq (.reg [kq 2 (.mv (ki 0))]) (.seq (.seq (.reg [km 6 0, kq 7 (.nilc (.t 6)), kq 8 (.fad 0 (.t 7)), kq 9 (.ld none (.t 8)), kq 10 (.call "(*roundhouse/plane.Plane).Version" [(.t 9)]), km 5 10, kq 11 (.ext 0 (.t 5)), kq 12 (.ext 1 (.t 5)), km 3 11, km 4 12]) (.seq (.reg [km 13 4]) (.cond (.t 13) (.seq (.reg [km 14 3, km 2 14]) .ret) .skip))) (.seq (.reg [kq 2 (.mv (ki (-1)))]) .ret)))⟩
abbrev za3 (P : Program) : Prop := zX P "(*roundhouse/yard.unit).version" = some zct
def zdy : IFunc := ⟨14, [], (.seq (.reg [kq 3 (.box (.t 1))]) (.seq (.reg [km 4 0, kq 5 (.ld (some 330) (.t 3)), kq 6 (.nilc (.t 4)), kq 7 (.fad 1 (.t 6)), ku (.st 330 (.t 7) (.t 5))]) (.dreg [km 8 0, kq 9 (.nilc (.t 8)), kq 10 (.fad 0 (.t 9)), kq 11 (.ld none (.t 10)), kq 12 (.ld (some 330) (.t 3)), kq 13 (.call "(*roundhouse/plane.Plane).Load" [(.t 11), (.t 12)])] [[], [0], [1, 0], [2, 1, 0], [], [3, 2, 1, 0, 4]])))⟩
abbrev zbq (P : Program) : Prop := zX P "(*roundhouse/yard.unit).load" = some zdy
def zcS : IFunc := ⟨14, [], (.seq (.reg [kq 3 (.box (.t 1))]) (.seq (.dreg [km 4 0, kq 5 (.nilc (.t 4)), kq 6 (.fad 0 (.t 5)), kq 7 (.ld (some 330) (.t 3)), kq 8 (.call "(*roundhouse/plane.maybe[roundhouse/api.Pool]).lay" [(.t 6), (.t 7)])] [[], [0], [1, 0], [], [2, 1, 0, 3]]) (.reg [km 9 0, kq 10 (.ld (some 330) (.t 3)), kq 11 (.call "roundhouse/wheel.Make" [(.t 10)]), kq 12 (.nilc (.t 9)), kq 13 (.fad 459 (.t 12)), ku (.st 1 (.t 13) (.t 11))])))⟩
abbrev zaW (P : Program) : Prop := zX P "(*roundhouse/plane.Plane).Load" = some zcS
def zbp : IFunc := ⟨11, [], (.seq (.reg [kq 3 (.box (.t 1))]) (.reg [km 4 0, km 5 0, kq 6 (.ld (some 330) (.t 3)), kq 7 (.nilc (.t 4)), kq 8 (.fad 0 (.t 7)), ku (.st 330 (.t 8) (.t 6)), kq 9 (.nilc (.t 5)), kq 10 (.fad 330 (.t 9)), ku (.st 1 (.t 10) kT)]))⟩
abbrev qW (P : Program) : Prop := zX P "(*roundhouse/plane.maybe[roundhouse/api.Pool]).lay" = some zbp
end Go.Rh

namespace Go.Rh
section
variable {P : Program} {C : zab}
def wpF3 (C : zab) (c : IFunc) (args : List Value) (h : List Blk) (R : zd8) : Prop :=
 wpC C h.length c.body (fun ex s => (match ex with | .exit _ => False | .goto _ => False | _ => True) ∧ ∃ l, zfM s c.res = some l ∧ (∀ v ∈ l, zbH v = false) ∧ vpf (one l) = true ∧ ∃ s0, Wk h.length s s0 ∧ R (one l) s0.h) ⟨reg (argL 0 args), h⟩
theorem wpF3_sound (hC : ziL P C) {f : FuncId} {fn : Func} {c : IFunc} {args : List Value} {h : List Blk} {R : zd8} (hf' : P.funcs[f]? = some fn) (hc : cFunc P fn = some c) (hwp : wpF3 C c args h R) : ACalls P f args h R := by
 unfold cFunc at hc
 split at hc <;> try cases hc
 rename_i body res hb hres
 split at hc <;> cases hc
 rename_i hwf
 intro w φ args' H hl hargs
 refine calls_of_wp hf' hb (wp_mono (zbN (n := fn.ntmps) (h0 := h) (w0 := w) (φ0 := φ) hC H body _ _ w hwf ⟨φ, _, hwp, ?_⟩) ?_)
 ·refine ⟨by simp; omega, fun t => ?_, rfl, H, FrC.refl _ _ _⟩
  simp only [Array.getD_eq_getD_getElem?]
  rcases zh1 args 0 t with h1 | ⟨v, h0, h1, h2⟩
  ·rw [h1]; exact VR.junk
  ·have ht := zJ h1
   have h3 : args'[t]? = some (args'[t]'(by omega)) := by simp [show t < args'.size by omega]
   rw [Array.getElem?_append_left (by omega), h2, h3]
   exact hargs t _ _ (by simpa using h1) h3
 ·intro e a' w' he
  have fin : Sim fn.ntmps φ h w (fun s => ∃ l, zfM s res = some l ∧ (∀ v ∈ l, zbH v = false) ∧ vpf (one l) = true ∧ ∃ s0, Wk h.length s s0 ∧ R (one l) s0.h) a' w' →
    a'.defers = [] ∧ ∃ v, (results fn a'.tmps).run P w' = .ok v w' ∧ ∃ v0 v' h' φ', (Ending.returned v : Ending) = .returned v' ∧ R v0 h' ∧ VR φ' v0 v' ∧ HR φ' (hf h') w' ∧ FrC φ h w φ' h' w' := by
   intro hS
   obtain ⟨φ1, s, ⟨l, hl1, hl2, hvp, s0, hwk, hR⟩, I⟩ := hS
   obtain ⟨φ2, I2⟩ := I.weak H hwk
   obtain ⟨l', hr, hE⟩ := zdW I hres hl1
   refine ⟨I.defers, if h : l'.toArray.size = 1 then l'.toArray[0] else .tuple l'.toArray, ?_, ?_⟩
   ·rw [zhc]
    simp [Array.mapM_eq_mapM_toList, hr]
   ·have hV : VR φ1 (one l) (if h : l'.toArray.size = 1 then l'.toArray[0] else .tuple l'.toArray) := by
     have hlen := hE.1
     unfold one
     split
     ·rename_i v
      match l', hE with
      | [v'], hE => simpa using hE.2 0 v v' rfl rfl
      | [], hE => simp at hlen
      | _ :: _ :: _, hE => simp at hlen
     ·rename_i hne
      have : ¬ l'.toArray.size = 1 := by
       intro h1
       have h2 : l.length = 1 := by rw [hlen]; simpa using h1
       match l, h2 with
       | [v], _ => exact hne v rfl
      rw [dif_neg this]
      exact ⟨l'.toArray, rfl, by simpa using hE.mono2 fun v v' hv hr => GR.of_VR (hl2 v hv) hr⟩
    exact ⟨_, _, _, φ2, rfl, hR, VR.plain' hvp hV, I2.heap, I2.fr⟩
  cases e with
  | normal => exact fin (he.mono fun s h => h.2)
  | ret => exact fin (he.mono fun s h => h.2)
  | exit id => obtain ⟨_, _, ⟨h, _⟩, _⟩ := he; exact h.elim
  | goto l => obtain ⟨_, _, ⟨h, _⟩, _⟩ := he; exact h.elim
  | _ => exact he.elim
theorem Env.of3 {P : Program} {g : String} {c : IFunc} {args : List Value} {h : List Blk} {R : zd8} (hc : zX P g = some c) (hwp : wpF3 (Env P) c args h R) : Env P g args h R := by
 intro f fn hf hn
 unfold zX at hc
 split at hc <;> try cases hc
 rename_i fn' hfl
 have hm : fn ∈ P.funcs.toList.filter (·.name == g) := List.mem_filter.2 ⟨by
  have := Array.mem_of_getElem? hf
  simpa using this, by simpa using hn⟩
 rw [hfl] at hm
 have : fn = fn' := by simpa using hm
 subst this
 exact wpF3_sound (Env.sound P) hf hc hwp
end
theorem Env.by3 {P : Program} {g : String} {c : IFunc} {args : List Value} {h : List Blk} {R : zd8} (hc : zX P g = some c)
  (hg : GC (Env P) h.length c.body (fun ex s => (match ex with | .exit _ => False | .goto _ => False | _ => True) ∧ ∃ l, zfM s c.res = some l ∧ (∀ v ∈ l, zbH v = false) ∧ vpf (one l) = true ∧ ∃ s0, Wk h.length s s0 ∧ R (one l) s0.h) ⟨reg (argL 0 args), h⟩) : Env P g args h R := Env.of3 hc hg.out
end Go.Rh

namespace Go.Rh
def viewL (ρ : Nat → Nat) (h : List Blk) : List Nat → List Blk → Prop
 | k :: ks, b :: bs => (∃ b', h[k]? = some b' ∧ Blk.view (zaY ρ b) b') ∧ viewL ρ h ks bs
 | _, _ => True
theorem ze3 {ρ : Nat → Nat} {h : List Blk} : ∀ {sel : List Nat} {bs : List Blk}, viewL ρ h sel bs → ∀ (i k : Nat) b1, sel[i]? = some k → bs[i]? = some b1 → ∃ b, h[k]? = some b ∧ Blk.view (zaY ρ b1) b
 | [], _, _, i, _, _, h1, _ => by simp at h1
 | _ :: _, [], _, i, _, _, _, h2 => by simp at h2
 | _ :: _, _ :: _, hb, 0, _, _, h1, h2 => by simp at h1 h2; subst h1; subst h2; exact hb.1
 | _ :: _, _ :: _, hb, i + 1, k, b, h1, h2 => ze3 hb.2 i k b (by simpa using h1) (by simpa using h2)
theorem zdI {C : zab} {g : String} {vals : List Value} {K : zd8} {h : List Blk} {R : zd8} (sel : List Nat) (h1 : List Blk) (a1 : List Value) (hC : C g a1 h1 R) (hl : h1.length = sel.length) (ha : a1.map (zbw (rho sel h.length)) = vals)
  (hs : viewL (rho sel h.length) h sel h1) (hd : sel.Nodup) (hK : ∀ v h1', R v h1' → zem h1 h1' ∧ ∃ v' xs ys, zbw (rho sel h.length) v = v' ∧ zhO sel h1' (rho sel h.length) 0 h xs ∧ renL (rho sel h.length) (h1'.drop sel.length) ys ∧ K v' (xs ++ ys)) : zcV C g vals K h := by
 refine ⟨sel, h1, a1, R, hC, hl, ha, ze3 hs, fun i j k b1 hij e1 e2 _ => ?_, fun v h1' hR _ _ => ?_⟩
 ·exact (zgP hd hij e1 e2).elim
 ·obtain ⟨hg, v', xs, ys, e1, e2, e3, e4⟩ := hK v h1' hR
  rw [e1, ziE e2 e3]; exact ⟨hg, e4⟩
section
variable {C : zab} {un : Nat → Nat → Bool} {K : St → Prop} {L : List (Nat × Value)} {h : List Blk} {i nid : Nat} {log : List Foot}
theorem zgl {d : Nat} {g : String} {args : List Opd} {r : List ICell} {R : zd8} (sel : List Nat) (h1 : List Blk) (a1 : List Value) (hC : C g a1 h1 R) (hl : h1.length = sel.length) (ha : a1.map (zbw (rho sel h.length)) = args.map (evf (reg L)))
  (hs : viewL (rho sel h.length) h sel h1) (hd : sel.Nodup) (hx : ∃ v h1', R v h1' ∧ sel.length ≤ h1'.length ∧ zcP h1 h1')
  (hK : ∀ v h1', R v h1' → zem h1 h1' ∧ ∃ v' xs ys, zbw (rho sel h.length) v = v' ∧ zhO sel h1' (rho sel h.length) 0 h xs ∧ renL (rho sel h.length) (h1'.drop sel.length) ys ∧ GD C un (i + 1) nid r (⟨i, sel, zcA sel h1, some h.length⟩ :: log) K ⟨reg ((d, v') :: L), xs ++ ys⟩)
  (hfit : ziz un ⟨i, sel, zcA sel h1, some h.length⟩ log = true := by kernel_rfl) : GD C un i nid (⟨some d, .call g args, none⟩ :: r) log K ⟨reg L, h⟩ := by
 refine ⟨⟨sel, h1, a1, R, hC, hl, ha, ze3 hs, fun i j k b1 hij e1 e2 _ => ?_, zc9 hfit, fun _ => hx, fun v h1' hR _ _ => ?_⟩⟩
 ·exact (zgP hd hij e1 e2).elim
 ·obtain ⟨hg, v', xs, ys, e1, e2, e3, e4⟩ := hK v h1' hR
  rw [e1, ziE e2 e3]; exact ⟨hg, e4.out⟩
theorem d_clHW {d : Nat} {g : String} {args : List Opd} {r : List ICell} {R : zd8} (w : List Nat) (sel : List Nat) (h1 : List Blk) (a1 : List Value) (hC : C g a1 h1 R) (hw : zcA sel h1 = w) (hl : h1.length = sel.length) (ha : a1.map (zbw (rho sel h.length)) = args.map (evf (reg L)))
  (hs : viewL (rho sel h.length) h sel h1) (hd : sel.Nodup) (hx : ∃ v h1', R v h1' ∧ sel.length ≤ h1'.length ∧ zcP h1 h1')
  (hK : ∀ v h1', R v h1' → zem h1 h1' ∧ ∃ v' xs ys, zbw (rho sel h.length) v = v' ∧ zhO sel h1' (rho sel h.length) 0 h xs ∧ renL (rho sel h.length) (h1'.drop sel.length) ys ∧ GD C un (i + 1) nid r (⟨i, sel, w, some h.length⟩ :: log) K ⟨reg ((d, v') :: L), xs ++ ys⟩)
  (hfit : ziz un ⟨i, sel, w, some h.length⟩ log = true := by kernel_rfl) : GD C un i nid (⟨some d, .call g args, none⟩ :: r) log K ⟨reg L, h⟩ := by
 subst hw
 refine ⟨⟨sel, h1, a1, R, hC, hl, ha, ze3 hs, fun i j k b1 hij e1 e2 _ => ?_, zc9 hfit, fun _ => hx, fun v h1' hR _ _ => ?_⟩⟩
 ·exact (zgP hd hij e1 e2).elim
 ·obtain ⟨hg, v', xs, ys, e1, e2, e3, e4⟩ := hK v h1' hR
  rw [e1, ziE e2 e3]; exact ⟨hg, e4.out⟩
theorem d_mk {d : Nat} {op : IOp} {r : List ICell} {v : Value} {B : Blk} (hm : op.makes = true) (hs : zO op (evf (reg L)) (hf h) nid = some (v, .push B)) (hg : h[nid]? = some .gone) (hfit : ziz un ⟨i, [], [nid], none⟩ log = true)
  (hk : GD C un (i + 1) (nid + 1) r (⟨i, [], [nid], none⟩ :: log) K ⟨reg ((d, v) :: L), h.set nid B⟩) : GD C un i nid (⟨some d, op, none⟩ :: r) log K ⟨reg L, h⟩ := by
 refine ⟨?_⟩
 show za6 C un ⟨i, nid, ⟨some d, op, none⟩⟩ log (fun log' s' => wpD C un (zbz (i + 1) (if op.makes then nid + 1 else nid) r) log' K s') ⟨reg L, h⟩
 have hsp : qF op = 0 := by cases op <;> first | rfl | cases hm
 have hrd : rdE op (evf (reg L)) = [] := by unfold rdE; rw [zis hm]; rfl
 refine (za0 (fun _ => hsp)).2 ⟨⟨i, [], [nid], none⟩, ⟨zaw (reg L) (some d) v, h.set nid B⟩, ?_, zc9 hfit, ?_⟩
 ·simp [ziC, gJ, zbW, hs, hrd, hg]
 ·have hk := hk.out
  simp only [hm, if_true]
  exact hk
theorem zgE {x : Opd} {e : Opd → Value} {h : Nat → Option Blk} {n : Nat} {c : List Value} (hx : e x = .agg ⟨c⟩) (hc : c.length = 342) : zO (.bsl zNt' 342 1 [(0, 342, x)]) e h n = some (sv n 0 1 1, .push (cw c)) := by
 have h1 : (List.replicate 1 (qY zNt')).flatten = ntF 0 0 0 false false e0 zG := by rw [zNt_eq]; simp
 have h2 : zcG (.agg ⟨c⟩) = c := rfl
 have h3 : splice (ntF 0 0 0 false false e0 zG) 0 c = c := zdM (by rw [hc, z6])
 simp only [zO, List.map_cons, List.map_nil, hx, h1, zdH, h2]
 rw [if_pos ⟨rfl, hc, by rw [z6]; omega⟩, h3]
end
theorem zK {ρ : Nat → Nat} {c : List Value} {rw : Bool} : Blk.view (zaY ρ (cr [])) (.cells c rw) := .inr ⟨rfl, _, _, rfl⟩
theorem qA {a b : Blk} (h : Blk.sees a b) : Blk.view a b := .inl h
theorem z9 {l : List Blk} : zem [] l := fun i h => by simp at h
theorem zA {b b' : Blk} {h h' : List Blk} (h1 : b = .gone → b' = .gone) (h2 : zem h h') : zem (b :: h) (b' :: h') := by
 intro i hi
 cases i with
 | zero => simp only [List.getElem?_cons_zero, Option.some.injEq] at hi ⊢; exact h1 hi
 | succ i => simp only [List.getElem?_cons_succ] at hi ⊢; exact h2 i hi
theorem zE {b : Blk} : b = .gone → b = .gone := fun h => h
theorem qI {c : List Value} {rw : Bool} {b : Blk} : Blk.cells c rw = .gone → b = .gone := fun h => by cases h
def ntE (n : Nt) : Value := ntV n.u n.b n.v n.w n.a n.e n.p
theorem zac {ρ : Nat → Nat} {n : Nat} (w : List Nt) : zaY ρ (.chan n (w.map ntE)) = .chan n (w.map ntE) := by
 have hr : ∀ e : Nt, zf1 ρ (ntE e) = ntE e := fun e => zgM (zaU _ _ _ _ _ _ _)
 simp only [zaY, List.map_map]
 congr 1
 exact List.map_congr_left fun e _ => hr e
theorem zca {ρ : Nat → Nat} {n : Nat} (w : List Nt) : Blk.seen (zaY ρ (.chan n (w.map ntE))) (.chan n (w.map ntE)) := by rw [zac]; rfl
def z8 (k : Nat) (p : qJ) (b : Int) (kc : Nat) : List Value := [pv k 0] ++ (pl p ++ [iv b, .chan (some kc)])
theorem unitL_length (k : Nat) (p : qJ) (b : Int) (kc : Nat) : (z8 k p b kc).length = 333 := by simp [z8, zM]
theorem unit_rP {m : Option Nat} {k : Nat} {p : qJ} {b : Int} {kc o : Nat} {v : Value} (h : zaz m (pl p) o = some v) : zaz m (z8 k p b kc) (1 + o) = some v := (zff (a := [pv k 0]) rfl).trans (zdt h)
theorem zdU {m : Option Nat} {k : Nat} {p : qJ} {b : Int} {kc : Nat} (o : Nat) : zaz m (z8 k p b kc) (331 + o) = zaz m [iv b, .chan (some kc)] o := by
 rw [show 331 + o = 1 + (330 + o) by omega]
 exact (zff (a := [pv k 0]) rfl).trans (zff (zM p))
theorem unit_wP {k : Nat} {p q : qJ} {b : Int} {kc : Nat} : splice (z8 k p b kc) 1 (pl q) = z8 k q b kc := by
 have : splice (z8 k p b kc) (1 + 0) (pl q) = [pv k 0] ++ splice (pl p ++ [iv b, .chan (some kc)]) 0 (pl q) := zcI rfl
 rw [zee (by rw [zM, zM]; omega), qT] at this; exact this
theorem unit_le {k : Nat} {p : qJ} {b : Int} {kc m : Nat} (h : m ≤ 333) : m ≤ (z8 k p b kc).length := by rw [unitL_length]; exact h
theorem zch {ρ : Nat → Nat} {k k' : Nat} {p : qJ} {b : Int} {kc kc' : Nat} {rw : Bool} (h1 : ρ k = k') (h2 : ρ kc = kc') : zaY ρ (.cells (z8 k p b kc) rw) = .cells (z8 k' p b kc') rw := by
 subst h1; subst h2
 simp only [zaY, z8, List.map_append, ren_pl]; rfl
theorem zaP {ρ : Nat → Nat} {k k' : Nat} {p : qJ} {b : Int} {kc kc' : Nat} {rw : Bool} (h1 : ρ k = k') (h2 : ρ kc = kc') : some (Blk.cells (z8 k' p b kc') rw) = some (zaY ρ (.cells (z8 k p b kc) rw)) := by rw [zch h1 h2]
theorem zbB {ρ : Nat → Nat} {k k' : Nat} {p : qJ} {b : Int} {kc kc' : Nat} {rw rw' : Bool} (h1 : ρ k = k') (h2 : ρ kc = kc') (hr : rw = true → rw' = true) : Blk.seen (zaY ρ (.cells (z8 k p b kc) rw)) (.cells (z8 k' p b kc') rw') := by
 rw [zch h1 h2]; exact ⟨rfl, hr⟩
def zUn : RL := [(1, .pointer none), (324, .int .i64 0), (6, .int .u64 0), (1, .int .i64 0), (1, .chan none)]
theorem bld_unit (k kc : Nat) : zdH (qY zUn) [(0, 1, pv k 0), (332, 1, .chan (some kc))] = some (z8 k zG 0 kc) := by kernel_rfl
def nearL (nr : Nat → Int × Bool) : List Value := ((List.range 64).map fun i => [.int .u32 (nr i).1, bv (nr i).2]).flatten
def nr0 : Nat → Int × Bool := fun _ => (0, false)
def zjb (is : Bool) (nr : Nat → Int × Bool) (w : Value) : List Value := [bv is] ++ (nearL nr ++ [w])
def zL (p : qJ) (is : Bool) (nr : Nat → Int × Bool) (w : Value) : List Value := pl p ++ zjb is nr w
theorem planeT_length (is : Bool) (nr : Nat → Int × Bool) (w : Value) : (zjb is nr w).length = 130 := rfl
theorem planeL_length (p : qJ) (is : Bool) (nr : Nat → Int × Bool) (w : Value) : (zL p is nr w).length = 460 := by simp only [zL, List.length_append, zM, planeT_length]
theorem plane_rP {m : Option Nat} {p : qJ} {is : Bool} {nr : Nat → Int × Bool} {w v : Value} {o : Nat} (h : zaz m (pl p) o = some v) : zaz m (zL p is nr w) o = some v := zdt h
theorem plane_rT {m : Option Nat} {p : qJ} {is : Bool} {nr : Nat → Int × Bool} {w : Value} (o : Nat) : zaz m (zL p is nr w) (330 + o) = zaz m (zjb is nr w) o := zff (zM p)
theorem plane_wP {p q : qJ} {is : Bool} {nr : Nat → Int × Bool} {w : Value} : splice (zL p is nr w) 0 (pl q) = zL q is nr w := by
 unfold zL; rw [zee (by rw [zM, zM]; omega), qT]
theorem plane_wI {p : qJ} {is is' : Bool} {nr : Nat → Int × Bool} {w : Value} : splice (zL p is nr w) 330 [bv is'] = zL p is' nr w := zcI (o := 0) (zM p)
theorem plane_wW {p : qJ} {is : Bool} {nr : Nat → Int × Bool} {w w' : Value} : splice (zL p is nr w) 459 [w'] = zL p is nr w' := by
 have h1 : splice (zL p is nr w) (330 + 129) [w'] = pl p ++ splice (zjb is nr w) 129 [w'] := zcI (zM p)
 have h2 : splice (zjb is nr w) (1 + 128) [w'] = [bv is] ++ splice (nearL nr ++ [w]) 128 [w'] := zcI rfl
 have h3 : splice (nearL nr ++ [w]) (128 + 0) [w'] = nearL nr ++ splice [w] 0 [w'] := zcI rfl
 rw [h3] at h2; rw [h2] at h1; exact h1
theorem plane_le {p : qJ} {is : Bool} {nr : Nat → Int × Bool} {w : Value} {m : Nat} (h : m ≤ 460) : m ≤ (zL p is nr w).length := by rw [planeL_length]; exact h
theorem nearL_scl (nr : Nat → Int × Bool) : (nearL nr).all zbA = true := by
 simp only [nearL, List.all_flatten, List.all_map]
 exact List.all_eq_true.2 fun i _ => rfl
theorem ren_nearL {ρ : Nat → Nat} (nr : Nat → Int × Bool) : (nearL nr).map (zek ρ) = nearL nr := za1 fun v hv => zew (List.all_eq_true.1 (nearL_scl nr) v hv)
theorem zbh {ρ : Nat → Nat} {p : qJ} {is : Bool} {nr : Nat → Int × Bool} {w w' : Value} {rw : Bool} (h : zek ρ w = w') : zaY ρ (.cells (zL p is nr w) rw) = .cells (zL p is nr w') rw := by
 subst h
 simp only [zaY, zL, zjb, List.map_append, ren_pl, ren_nearL]; rfl
theorem zaj {ρ : Nat → Nat} {p : qJ} {is : Bool} {nr : Nat → Int × Bool} {w w' : Value} {rw : Bool} (h : zek ρ w = w') : some (Blk.cells (zL p is nr w') rw) = some (zaY ρ (.cells (zL p is nr w) rw)) := by rw [zbh h]
theorem zaO {ρ : Nat → Nat} {p : qJ} {is : Bool} {nr : Nat → Int × Bool} {w w' : Value} {rw rw' : Bool} (h : zek ρ w = w') (hr : rw = true → rw' = true) : Blk.seen (zaY ρ (.cells (zL p is nr w) rw)) (.cells (zL p is nr w') rw') := by
 rw [zbh h]; exact ⟨rfl, hr⟩
theorem bld_plane : zdH (qY [(324, Value.int .i64 0), (6, .int .u64 0), (1, .bool false), (1, .int .u32 0), (1, .bool false), (1, .int .u32 0), (1, .bool false), (1, .int .u32 0), (1, .bool false), (1, .int .u32 0), (1, .bool false), (1, .int .u32 0), (1, .bool false), (1, .int .u32 0), (1, .bool false), (1, .int .u32 0), (1, .bool false), (1, .int .u32 0), (1, .bool false), (1, .int .u32 0), (1, .bool false), (1, .int .u32 0), (1, .bool false), (1, .int .u32 0), (1, .bool false), (1, .int .u32 0), (1, .bool false), (1, .int .u32 0), (1, .bool false), (1, .int .u32 0), (1, .bool false), (1, .int .u32 0), (1, .bool false), (1, .int .u32 0), (1, .bool false), (1, .int .u32 0), (1, .bool false), (1, .int .u32 0), (1, .bool false), (1, .int .u32 0), (1, .bool false), (1, .int .u32 0), (1, .bool false), (1, .int .u32 0), (1, .bool false), (1, .int .u32 0), (1, .bool false), (1, .int .u32 0), (1, .bool false), (1, .int .u32 0), (1, .bool false), (1, .int .u32 0), (1, .bool false), (1, .int .u32 0), (1, .bool false), (1, .int .u32 0), (1, .bool false), (1, .int .u32 0), (1, .bool false), (1, .int .u32 0), (1, .bool false), (1, .int .u32 0), (1, .bool false), (1, .int .u32 0), (1, .bool false), (1, .int .u32 0), (1, .bool false), (1, .int .u32 0), (1, .bool false), (1, .int .u32 0), (1, .bool false), (1, .int .u32 0), (1, .bool false), (1, .int .u32 0), (1, .bool false), (1, .int .u32 0), (1, .bool false), (1, .int .u32 0), (1, .bool false), (1, .int .u32 0), (1, .bool false), (1, .int .u32 0), (1, .bool false), (1, .int .u32 0), (1, .bool false), (1, .int .u32 0), (1, .bool false), (1, .int .u32 0), (1, .bool false), (1, .int .u32 0), (1, .bool false), (1, .int .u32 0), (1, .bool false), (1, .int .u32 0), (1, .bool false), (1, .int .u32 0), (1, .bool false), (1, .int .u32 0), (1, .bool false), (1, .int .u32 0), (1, .bool false), (1, .int .u32 0), (1, .bool false), (1, .int .u32 0), (1, .bool false), (1, .int .u32 0), (1, .bool false), (1, .int .u32 0), (1, .bool false), (1, .int .u32 0), (1, .bool false), (1, .int .u32 0), (1, .bool false), (1, .int .u32 0), (1, .bool false), (1, .int .u32 0), (1, .bool false), (1, .int .u32 0), (1, .bool false), (1, .int .u32 0), (1, .bool false), (1, .int .u32 0), (1, .bool false), (1, .int .u32 0), (1, .bool false), (1, .int .u32 0), (1, .bool false), (1, .int .u32 0), (1, .bool false), (1, .int .u32 0), (1, .bool false), (1, .slice none 0 0)]) [] = some (zL zG false nr0 (.slice none 0 0)) := by kernel_rfl
def uf (i a b : Nat) : Nat → Nat := fun j => if j = i then a else b + j
def za8 (n : Nat) (f : Nat → Nat) : List Value := (List.range n).map fun j => pv (f j) 0
def zbn (m : Nat) : List Value := zc1 [.pointer none] m
theorem ptrs_length (n : Nat) (f : Nat → Nat) : (za8 n f).length = n := by simp [za8]
theorem ptrs_r {n m j : Nat} {f : Nat → Nat} (h : j < n) : zaz none (za8 n f ++ zbn m) j = some (pv (f j) 0) := by
 show (za8 n f ++ zbn m)[j]? = _
 rw [List.getElem?_append_left (by rw [ptrs_length]; exact h)]
 simp [za8, h]
theorem zfO {ρ : Nat → Nat} {n m : Nat} {f f' : Nat → Nat} {rw : Bool} (h : ∀ j, j < n → ρ (f j) = f' j) : zaY ρ (.cells (za8 n f ++ zbn m) rw) = .cells (za8 n f' ++ zbn m) rw := by
 simp only [zaY, List.map_append]
 congr 2
 ·simp only [za8, List.map_map]
  refine List.map_congr_left fun j hj => ?_
  show zek ρ (pv (f j) 0) = pv (f' j) 0
  rw [← h j (List.mem_range.1 hj)]; rfl
 ·exact za1 fun v hv => zew (List.all_eq_true.1 (zhV (z := [.pointer none]) rfl m) v hv)
theorem uf_ren {ρ : Nat → Nat} {i a b a' b' : Nat} (h1 : ρ a = a') (h2 : ∀ j, j < 16 → ρ (b + j) = b' + j) : ∀ j, j < 16 → ρ (uf i a b j) = uf i a' b' j := by
 intro j hj
 unfold uf
 split
 ·exact h1
 ·exact h2 j hj
theorem h16 {sel : List Nat} {N b b' : Nat} (h : (List.range 16).all (fun j => sel[b + j]? == some (b' + j)) = true) : ∀ j, j < 16 → rho sel N (b + j) = b' + j := by
 intro j hj
 have := List.all_eq_true.1 h j (List.mem_range.2 hj)
 exact zcX (by simpa using this)
theorem zgI {ρ : Nat → Nat} {n m i a b a' b' : Nat} {rw rw' : Bool} (h1 : ρ a = a') (h2 : ∀ j, j < 16 → ρ (b + j) = b' + j) (hn : n ≤ 16) (hr : rw = true → rw' = true) : Blk.seen (zaY ρ (.cells (za8 n (uf i a b) ++ zbn m) rw)) (.cells (za8 n (uf i a' b') ++ zbn m) rw') := by
 rw [zfO fun j hj => uf_ren h1 h2 j (by omega)]; exact ⟨rfl, hr⟩
theorem zci {ρ : Nat → Nat} {n m i a b : Nat} {rw : Bool} (h1 : ρ a = a) (h2 : ∀ j, j < 16 → ρ (b + j) = b + j) (hn : n ≤ 16) : some (Blk.cells (za8 n (uf i a b) ++ zbn m) rw) = some (zaY ρ (.cells (za8 n (uf i a b) ++ zbn m) rw)) := by
 rw [zfO fun j hj => uf_ren h1 h2 j (by omega)]
theorem uf_at (i a b : Nat) : uf i a b i = a := if_pos rfl
abbrev Gr := Option (Nat × List Value)
def gV (k n : Nat) : Gr → Value
 | none => .slice none 0 0
 | some (c, _) => sv k 0 n c
def gB (l : List Nt) : Gr → Blk
 | none => .gone
 | some (_, t) => cw (zaX l ++ t)
def hidB : Bool → Blk
 | false => .gone
 | true => cr []
theorem view_hidS {ρ : Nat → Nat} {z c : List Value} (q : Option Nat) : Blk.view (zaY ρ (hidB q.isSome)) (slB z c q) := by
 cases q with
 | none => exact .inl (.inr ⟨rfl, rfl⟩)
 | some x => exact .inr ⟨rfl, _, _, rfl⟩
def gOk (l : List Nt) : Gr → Prop
 | none => l = []
 | some (c, t) => l.length ≤ c ∧ (c - l.length) * 342 ≤ t.length ∧ t.all zbA = true
theorem zer {ρ : Nat → Nat} {l : List Nt} (o : Gr) : Blk.view (zaY ρ (hidB o.isSome)) (gB l o) := by
 cases o with
 | none => exact .inl (.inr ⟨rfl, rfl⟩)
 | some x => exact zK
theorem gB_scl {l : List Nt} {c : Nat} {t : List Value} (h : gOk l (some (c, t))) : (zaX l ++ t).all zbA = true := zfC (zfP l) h.2.2
theorem qX {ρ : Nat → Nat} {l : List Nt} {o : Gr} (h : gOk l o) : zaY ρ (gB l o) = gB l o := by
 cases o with
 | none => rfl
 | some x => exact zbC (gB_scl h)
theorem zcd {ρ : Nat → Nat} {l : List Nt} {o : Gr} (h : gOk l o) : Blk.view (zaY ρ (gB l o)) (gB l o) := by
 rw [qX h]
 cases o with
 | none => exact .inl (.inr ⟨rfl, rfl⟩)
 | some x => exact .inl (.inl ⟨rfl, fun q => q⟩)
theorem zaa {sel : List Nat} {N k k' n : Nat} (o : Gr) (h : rho sel N k = k') : zek (rho sel N) (gV k n o) = gV k' n o := by
 cases o with
 | none => rfl
 | some x => subst h; rfl
theorem zfV {l l' : List Nt} {o o' : Gr} (h : o'.isSome = o.isSome) : gB l o = .gone → gB l' o' = .gone := by
 cases o with
 | none => cases o' with
  | none => exact fun _ => rfl
  | some x => cases h
 | some x => exact fun h => by cases h
theorem zhX (a b : List Nt) : zaX (a ++ b) = zaX a ++ zaX b := by simp [zaX]
theorem nts_take (l : List Nt) (t : List Value) : ((zaX l ++ t).drop 0).take (l.length * 342) = zaX l := by
 rw [List.drop_zero, ← za2, List.take_append_of_le_length (Nat.le_refl _), List.take_length]
theorem app_g {C : zab} {K : Value → List Blk → Prop} {s x : Opd} {L : List (Nat × Value)} {h : List Blk} {k : Nat} {l xs : List Nt} {o : Gr} {xv : Value}
  (hs : evf (reg L) s = gV k l.length o) (hk : h[k]? = some (gB l o)) (ho : gOk l o) (hx : evf (reg L) x = xv) (hq : lenV xv = some xs.length) (hf1 : first (hf h) 342 xs.length xv = some (zaX xs)) (hb : l.length + xs.length ≤ 1000000)
  (h0 : xs = [] → K (gV k l.length o) h)
  (h1 : xs ≠ [] → ∀ c t, o = some (c, t) → gOk (l ++ xs) (some (c, t.drop (xs.length * 342))) → K (gV k (l ++ xs).length (some (c, t.drop (xs.length * 342)))) (h.set k (gB (l ++ xs) (some (c, t.drop (xs.length * 342))))))
  (h2 : xs ≠ [] → ∀ o', o'.isSome = true → gOk (l ++ xs) o' → K (gV h.length (l ++ xs).length o') (h ++ [gB (l ++ xs) o'])) : zf0 C (.app zNt' 342 2728 s x) (reg L) h K := by
 show appK zNt' 342 2728 (evf (reg L) s) (evf (reg L) x) (fun v e => K v (e.on h)) (hf h) h.length
 rw [hs, hx]
 have e1 : first (hf h) 342 l.length (gV k l.length o) = some (zaX l) := by
  cases o with
  | none => have : l = [] := ho; subst this; rfl
  | some ct =>
   obtain ⟨c, t⟩ := ct
   refine zbS (zax.2 ⟨hk, by simp [gB]⟩) (nts_take l t) ?_
   rw [List.length_append, za2]; omega
 have e2 : ∃ b c, gV k l.length o = .slice b l.length c ∧ (c = match o with | none => 0 | some (c, _) => c) ∧ (b = match o with | none => none | some _ => some ⟨k, 0, none⟩) := by
  cases o with
  | none => have : l = [] := ho; subst this; exact ⟨_, _, rfl, rfl, rfl⟩
  | some ct => exact ⟨_, _, rfl, rfl, rfl⟩
 obtain ⟨b, c, e3, e4, e5⟩ := e2
 have new : ∀ c, l.length + xs.length ≤ c → xs ≠ [] → K (.slice (some ⟨h.length, 0, none⟩) (l.length + xs.length) c) (h ++ [.cells (zaX l ++ zaX xs ++ (List.replicate (c - (l.length + xs.length)) (qY zNt')).flatten) true]) := by
  intro c hc hne
  have := h2 hne (some (c, (List.replicate (c - (l.length + xs.length)) (qY zNt')).flatten)) rfl ?_
  ·simp only [gV, gB, zhX, List.length_append] at this
   exact this
  ·refine ⟨by simp; omega, ?_, ?_⟩
   ·rw [show ((List.replicate (c - (l.length + xs.length)) (qY zNt')).flatten).length = (c - (l.length + xs.length)) * 342 by rw [zNt_eq]; simp [z6]]
    simp
   ·rw [zNt_eq]; exact zhV (zhe 0 0 0 false false e0 zG) _
 rw [e3] at e1 ⊢
 simp only [appK, hq]
 rw [e1, hf1]
 simp only
 by_cases hfit : l.length + xs.length ≤ c
 ·rw [if_pos hfit]
  by_cases hz : xs.length = 0
  ·have hxn : xs = [] := List.eq_nil_of_length_eq_zero hz
   cases o with
   | none =>
    simp only at e5; subst e5
    simp only [hz, if_true, Eff.on]
    have := h0 hxn
    rw [e3] at this; simpa [hxn] using this
   | some ct =>
    simp only at e5; subst e5
    simp only [hz, if_true, Eff.on]
    have := h0 hxn
    rw [e3] at this; simpa [hxn] using this
  ·have hxn : xs ≠ [] := fun e => hz (by rw [e]; rfl)
   cases o with
   | none =>
    simp only at e4; subst e4; omega
   | some ct =>
    obtain ⟨c1, t⟩ := ct
    simp only at e4 e5; subst e4; subst e5
    simp only [hz, if_false]
    have e6 : hf h k = some (.cells (zaX l ++ t) true) := zax.2 ⟨hk, by simp⟩
    rw [e6]
    simp only
    obtain ⟨o1, o2, o3⟩ := ho
    have hle : 0 + l.length * 342 + (zaX xs).length ≤ (zaX l ++ t).length := by
     rw [List.length_append, za2, za2]
     have : xs.length * 342 ≤ (c - l.length) * 342 := Nat.mul_le_mul_right _ (by omega)
     omega
    rw [if_pos hle]
    have hsp : splice (zaX l ++ t) (0 + l.length * 342) (zaX xs) = zaX (l ++ xs) ++ t.drop (xs.length * 342) := by
     rw [Nat.zero_add, ← za2 l]
     unfold splice
     rw [List.take_append_of_le_length (Nat.le_refl _), List.take_length, zhX, List.drop_append, List.drop_eq_nil_of_le (by omega), List.nil_append, za2 xs]
     rw [Nat.add_sub_cancel_left, List.append_assoc]
    have := h1 hxn c t rfl ⟨by simp; omega, ?_, ?_⟩
    ·simp only [gV, gB, List.length_append] at this
     rw [hsp]
     exact this
    ·rw [List.length_drop, List.length_append]
     have : (c - (l.length + xs.length)) * 342 = (c - l.length) * 342 - xs.length * 342 := by rw [← Nat.sub_mul]; congr 1; omega
     omega
    ·exact List.all_eq_true.2 fun v hv => List.all_eq_true.1 o3 v (List.mem_of_mem_drop hv)
 ·rw [if_neg hfit]
  have hxn : xs ≠ [] := fun e => by
   subst e
   cases o with
   | none => have : l = [] := ho; subst this; simp at hfit
   | some ct => obtain ⟨c1, t⟩ := ct; simp only at e4; have := ho.1; simp at hfit; omega
  refine ⟨by omega, fun c hc => ?_⟩
  have := new c (by omega) hxn
  simpa [Eff.on] using this
theorem o_app {C : zab} {K : St → Prop} {L : List (Nat × Value)} {h : List Blk} {d : Nat} {op : IOp} {r : List ICell} (hw : zf0 C op (reg L) h (fun v h' => GO C r K ⟨reg ((d, v) :: L), h'⟩)) : GO C (⟨some d, op, none⟩ :: r) K ⟨reg L, h⟩ := ⟨zcg (fun v h' q => q.out) hw⟩
def z4 (kh : Nat) (u w : Value) : List Value := [pv kh 0, u, w]
theorem zaB {ρ : Nat → Nat} {kh kh' : Nat} {u u' w w' : Value} {rw : Bool} (h0 : ρ kh = kh') (h1 : zek ρ u = u') (h2 : zek ρ w = w') : zaY ρ (.cells (z4 kh u w) rw) = .cells (z4 kh' u' w') rw := by
 subst h0; subst h1; subst h2; rfl
theorem zam {ρ : Nat → Nat} {kh kh' : Nat} {u u' w w' : Value} {rw : Bool} (h0 : ρ kh = kh') (h1 : zek ρ u = u') (h2 : zek ρ w = w') : some (Blk.cells (z4 kh' u' w') rw) = some (zaY ρ (.cells (z4 kh u w) rw)) := by rw [zaB h0 h1 h2]
theorem zaE {ρ : Nat → Nat} {kh kh' : Nat} {u u' w w' : Value} {rw rw' : Bool} (h0 : ρ kh = kh') (h1 : zek ρ u = u') (h2 : zek ρ w = w') (hr : rw = true → rw' = true) : Blk.seen (zaY ρ (.cells (z4 kh u w) rw)) (.cells (z4 kh' u' w') rw') := by
 rw [zaB h0 h1 h2]; exact ⟨rfl, hr⟩
theorem putNC {P : Program} (hc : zaC P) (l x : List Nt) (o : Gr) (q : Option Nat) (n m : Nat) (ho : gOk l o) (hq : q = none → x = []) (hl : l.length + x.length ≤ 1000000) :
  Env P "(*roundhouse/yard.row[roundhouse/head.Note]).put" [pv 0 2, slV 2 x.length q] [cw [pv 3 0, sv 4 0 n (n + m), gV 1 l.length o], gB l o, slB zNt (zaX x) q, cr [], cr []]
   (fun v h' => v = .tuple #[] ∧ ∃ o', gOk (l ++ x) o' ∧ ((o'.isSome = o.isSome ∧ h' = [cw [pv 3 0, sv 4 0 n (n + m), gV 1 (l ++ x).length o'], gB (l ++ x) o', slB zNt (zaX x) q, cr [], cr []]) ∨ (o'.isSome = true ∧ h' = [cw [pv 3 0, sv 4 0 n (n + m), gV 5 (l ++ x).length o'], gB l o, slB zNt (zaX x) q, cr [], cr [], gB (l ++ x) o']))) := by
 refine Env.by2 hc ?_
 unfold zbG
 show GC _ 5 _ _ ⟨reg [(0, pv 0 2), (1, slV 2 x.length q)], [cw [pv 3 0, sv 4 0 n (n + m), gV 1 l.length o], gB l o, slB zNt (zaX x) q, cr [], cr []]⟩
 refine zU (o_d 6 [(9, slV 2 x.length q), (8, gV 1 l.length o), (7, pv 0 2), (6, pv 0 2), (5, pv 0 2), (4, pv 0 2)] (by kernel_rfl) (o_app (app_g (l := l) (xs := x) (o := o) (k := 1) rfl rfl ho rfl ?_ ?_ hl (fun hx => ?_) (fun hx c t ht hg => ?_) (fun hx o' hs hg => ?_))))
 ·cases q with
  | none => rw [hq rfl]; rfl
  | some c => rfl
 ·cases q with
  | none => rw [hq rfl]; rfl
  | some c => exact zbS rfl (nts_take x _) (by rw [List.length_append, za2]; omega)
 ·subst hx
  refine o_b 3 [(12, pv 0 2), (11, pv 0 2)] [cw [pv 3 0, sv 4 0 n (n + m), gV 1 l.length o], gB l o, slB zNt (zaX []) q, cr [], cr []] (by cases o <;> kernel_rfl) ?_
  refine zF ⟨trivial, _, .inl rfl, [], rfl, qB, rfl, o, by simpa using ho, .inl ⟨rfl, ?_⟩⟩
  simp only [List.append_nil]
 ·subst ht
  exact o_b 3 [(12, pv 0 2), (11, pv 0 2)] [cw [pv 3 0, sv 4 0 n (n + m), gV 1 (l ++ x).length (some (c, t.drop (x.length * 342)))], gB (l ++ x) (some (c, t.drop (x.length * 342))), slB zNt (zaX x) q, cr [], cr []] (by kernel_rfl) (zF ⟨trivial, _, .inl rfl, [], rfl, qB, rfl, _, hg, .inl ⟨rfl, rfl⟩⟩)
 ·cases o' with
  | none => cases hs
  | some ct =>
   exact o_b 3 [(12, pv 0 2), (11, pv 0 2)] [cw [pv 3 0, sv 4 0 n (n + m), gV 5 (l ++ x).length (some ct)], gB l o, slB zNt (zaX x) q, cr [], cr [], gB (l ++ x) (some ct)] (by kernel_rfl) (zF ⟨trivial, _, .inl rfl, [], rfl, qB, rfl, _, hg, .inr ⟨rfl, rfl⟩⟩)
theorem nt1_eq {u b v : Int} {w a : Bool} {e : Ent} {p : qJ} : slB zNt (zaX [⟨u, b, v, w, a, e, p⟩]) (some 0) = cw (ntF u b v w a e p) := by
 show cw (zaX [_] ++ zc1 zNt 0) = _
 simp [zaX, zc1, ntL]
theorem zhQ {ρ : Nat → Nat} {u b v : Int} {w a : Bool} {e : Ent} {p : qJ} : Blk.view (zaY ρ (slB zNt (zaX [⟨u, b, v, w, a, e, p⟩]) (some 0))) (cw (ntF u b v w a e p)) := by
 rw [nt1_eq, zbC ntF_scl']; exact .inl (.inl ⟨rfl, fun q => q⟩)
theorem zfb {ρ : Nat → Nat} {u b v : Int} {w a : Bool} {e : Ent} {p : qJ} : zaY ρ (slB zNt (zaX [⟨u, b, v, w, a, e, p⟩]) (some 0)) = cw (ntF u b v w a e p) := by
 rw [nt1_eq, zbC ntF_scl']
theorem zim (l x : List Nt) (o : Gr) (q : Option Nat) (n m : Nat) : ∃ (v : Value) (h1' : List Blk), (v = .tuple #[] ∧ ∃ o', gOk (l ++ x) o' ∧ ((o'.isSome = o.isSome ∧ h1' = [cw [pv 3 0, sv 4 0 n (n + m), gV 1 (l ++ x).length o'], gB (l ++ x) o', slB zNt (zaX x) q, cr [], cr []]) ∨ (o'.isSome = true ∧ h1' = [cw [pv 3 0, sv 4 0 n (n + m), gV 5 (l ++ x).length o'], gB l o, slB zNt (zaX x) q, cr [], cr [], gB (l ++ x) o']))) ∧ 5 ≤ h1'.length ∧ zcP [cw [pv 3 0, sv 4 0 n (n + m), gV 1 l.length o], gB l o, slB zNt (zaX x) q, cr [], cr []] h1' :=
 ⟨_, _, ⟨rfl, some ((l ++ x).length, []), ⟨Nat.le_refl _, by simp, rfl⟩, .inr ⟨rfl, rfl⟩⟩, Nat.le_add_right 5 1, zfW rfl (zbb [_, _, _, _] [_])⟩
theorem wr_put (k k2 k3 k4 k5 : Nat) (l x : List Nt) (o : Gr) (q : Option Nat) {c : List Value} : zcA [k, k2, k3, k4, k5] [cw c, gB l o, slB zNt (zaX x) q, cr [], cr []] = [k, k2, k3] := by cases o <;> cases q <;> rfl
theorem run_lenG {d : Option Nat} {x : Opd} {L : List (Nat × Value)} {hp : List Blk} {k : Nat} {l : List Nt} {o : Gr} (hx : evf (reg L) x = gV k l.length o) (ho : gOk l o) : zdp [⟨d, .lenS x, none⟩] ⟨reg L, hp⟩ = some ⟨zaw (reg L) d (iv (l.length : Nat)), hp⟩ := by
 refine zaK (e := .no) rfl rfl ?_
 cases o with
 | none => have : l = [] := ho; subst this; simp [zO, hx, gV]
 | some ct => simp [zO, hx, gV]
def laA (n m : Nat) (x : HS) (k : Nat) (l : List Nt) (o : Gr) : List Blk := [cw (z4 1 (sv 4 0 n (n + m)) (gV k l.length o)), cw (z5 x.p 2 3 x.e x.s), .chan 200 (x.w.map zap), .map (hdM x.hd), cr []]
def PA (n m : Nat) (o0 : Gr) (x : HS) (l : List Nt) (h' : List Blk) : Prop := ∃ o X k T, gOk l o ∧ (o0 = none → X = Blk.gone) ∧ ((k = 5 ∧ X = gB l o ∧ T = []) ∨ (k = 6 ∧ T = [gB l o])) ∧ h' = laA n m x k l o ++ [X] ++ T
theorem sendS_len {x : HS} : (zak x).2.length ≤ x.hd.length := by
 have := notesTo_len (goS x) (goS x).hd.length
 rw [goS_hd] at this
 simpa [zak, goS_hd] using this
def laB (n m i kl kw : Nat) (l : List Nt) (o : Gr) (p : qJ) (is : Bool) (nr : Nat → Int × Bool) (b : Int) (q : Option Nat) (X : Blk) : List Blk :=
 [cw (z4 1 (sv 2 0 n (n + m)) (gV kl l.length o)), cr [], cr (za8 n (uf i 3 8) ++ zbn m), cw (z8 4 p b 5), cw (zL p is nr (slV kw 127 q)), .chan 1 (([] : List Nt).map ntE), cr [], X] ++ List.replicate 16 (cr [])
structure PBok (n m i : Nat) (o0 : Gr) (l : List Nt) (p : qJ) (is : Bool) (nr : Nat → Int × Bool) (b : Int) (ld : Bool) (q0 : Option Nat) (W : Blk → Nat → Prop) (h' : List Blk) (o : Gr) (X : Blk) (kl kw : Nat) (qw : Option Nat) (T : List Blk) : Prop where
  ok : gOk l o
  gone : o0 = none → X = .gone
  eq : h' = laB n m i kl kw l o p is nr b qw X ++ T
  way : (kl = 7 ∧ X = gB l o) ∨ ∃ j, kl = 24 + j ∧ T[j]? = some (gB l o)
  ne : kl ≠ kw
  whl : (ld = false ∧ kw = 6 ∧ qw = q0) ∨ ∃ j c B, ld = true ∧ kw = 24 + j ∧ qw = some c ∧ T[j]? = some B ∧ W B c
def PB (n m i : Nat) (o0 : Gr) (l : List Nt) (p : qJ) (is : Bool) (nr : Nat → Int × Bool) (b : Int) (ld : Bool) (q0 : Option Nat) (W : Blk → Nat → Prop) (h' : List Blk) : Prop := ∃ o X kl kw qw T, PBok n m i o0 l p is nr b ld q0 W h' o X kl kw qw T
end Go.Rh

set_option maxHeartbeats 4000000
namespace Go.Rh
end Go.Rh

namespace Go.Rh
theorem bnds_hi {n c : Nat} {ik : IntKind} {v : Int} (h : 0 ≤ v ∧ v ≤ c) : bnds n c none (some (.int ik v)) none = some (0, v.toNat, c) := by
 have hb : bnd c (.int ik v) = some v.toNat := by simp [bnd, h]
 show (match bnd c (.int ik v) with | none => none | some h => some (0, h, c)) = _
 rw [hb]
theorem bnds_lo {n c : Nat} {ik : IntKind} {v : Int} (h : 0 ≤ v ∧ v ≤ n) : bnds n c (some (.int ik v)) none none = some (v.toNat, n, c) := by
 have hb : bnd n (.int ik v) = some v.toNat := by simp [bnd, h]
 show (match bnd n (.int ik v) with | none => none | some l => some (l, n, c)) = _
 rw [hb]
theorem run_slcHi {d : Option Nat} {size : Nat} {x lo : Opd} {L : List (Nat × Value)} {hp : List Blk} {b n c : Nat} {ik : IntKind} {v : Int} (hx : evf (reg L) x = .slice (some ⟨b, 0, none⟩) n c) (hh : evf (reg L) lo = .int ik v) (hv : 0 ≤ v ∧ v ≤ n) :
  zdp [⟨d, .slcS size x (some lo) none none, none⟩] ⟨reg L, hp⟩ = some ⟨zaw (reg L) d (.slice (some ⟨b, if c = v.toNat then 0 else v.toNat * size, none⟩) (n - v.toNat) (c - v.toNat)), hp⟩ := by
 refine zaK (e := .no) rfl rfl ?_
 simp only [zO, slcV, hx, Option.map_none, Option.map_some, hh, bnds_lo hv]
 by_cases hc : c = v.toNat <;> simp [hc, addA]
end Go.Rh

namespace Go.Rh
theorem r_app {C : zab} {pu : List String} {K : St → Prop} {L : List (Nat × Value)} {h : List Blk} {d : Nat} {z : RL} {n b : Nat} {x y : Opd} {r : List ICell} (hw : zf0 C (.app z n b x y) (reg L) h (fun v h' => GE C pu r K ⟨reg ((d, v) :: L), h'⟩)) : GE C pu (⟨some d, .app z n b x y, none⟩ :: r) K ⟨reg L, h⟩ :=
 ⟨zcg (K' := fun v h' => wpR C pu r K ⟨zaw (reg L) (some d) v, h'⟩) (fun v h' q => q.out) hw⟩
theorem run_slc3 {d : Option Nat} {size : Nat} {x hi mx : Opd} {L : List (Nat × Value)} {hp : List Blk} {b n c : Nat} {v : Int} (hx : evf (reg L) x = .slice (some ⟨b, 0, none⟩) n c) (hh : evf (reg L) hi = iv v) (hm : evf (reg L) mx = iv v) (hv : 0 ≤ v ∧ v ≤ c) :
  zdp [⟨d, .slcS size x none (some hi) (some mx), none⟩] ⟨reg L, hp⟩ = some ⟨zaw (reg L) d (.slice (some ⟨b, 0, none⟩) v.toNat v.toNat), hp⟩ := by
 refine zaK (e := .no) rfl rfl ?_
 have h1 : bnd c (.int .i64 v) = some v.toNat := by simp [bnd, hv]
 have h2 : bnd v.toNat (.int .i64 v) = some v.toNat := by simp [bnd, hv]; omega
 have hb : bnds n c none (some (.int .i64 v)) (some (.int .i64 v)) = some (0, v.toNat, v.toNat) := by
  show (match bnd c (.int .i64 v) with | none => none | some m => match bnd m (.int .i64 v) with | none => none | some h => some (0, h, m)) = _
  rw [h1]
  simp only [h2]
 simp only [zO, slcV, hx, Option.map_none, Option.map_some, hh, hm, hb]
 by_cases hc : v.toNat = 0 <;> simp [hc, addA]
theorem gB_cut {l : List Nt} {c i : Nat} {t : List Value} : gB l (some (c, t)) = gB (l.take i) (some (i, zaX (l.drop i) ++ t)) := by
 show cw (zaX l ++ t) = cw (zaX (l.take i) ++ (zaX (l.drop i) ++ t))
 rw [← List.append_assoc, ← zhX, List.take_append_drop]
theorem gOk_cut {l : List Nt} {c i : Nat} {t : List Value} (h : gOk l (some (c, t))) (hi : i < l.length) : gOk (l.take i) (some (i, zaX (l.drop i) ++ t)) := by
 refine ⟨by simp; omega, ?_, zfC (zfP _) h.2.2⟩
 have : (l.take i).length = i := by simp; omega
 rw [this]; simp
theorem nts_dropS {l : List Nt} {t : List Value} {j : Nat} (h : j ≤ l.length) : ((zaX l ++ t).drop (j * 342)).take ((l.drop j).length * 342) = zaX (l.drop j) := by
 have e : zaX l ++ t = zaX (l.take j) ++ (zaX (l.drop j) ++ t) := by rw [← List.append_assoc, ← zhX, List.take_append_drop]
 have e1 : (zaX (l.take j)).length = j * 342 := by rw [za2]; simp [Nat.min_eq_left h]
 rw [e, ← e1, List.drop_append_of_le_length (Nat.le_refl _), List.drop_length, List.nil_append]
 have := nts_take (l.drop j) t
 rwa [List.drop_zero] at this
theorem zfY {l : List Nt} {i : Nat} : l.take i ++ l.drop (i + 1) = l.eraseIdx i := (List.eraseIdx_eq_take_drop_succ l i).symm
theorem dropNC {P : Program} (hc : zai P) (l : List Nt) (o : Gr) (k : Int) (n m : Nat) (ho : gOk l o) (hk : 0 ≤ k ∧ k < l.length) (hl : l.length ≤ 1000000) :
  Env P "(*roundhouse/yard.row[roundhouse/head.Note]).drop" [pv 0 2, iv k] [cw [pv 2 0, sv 3 0 n (n + m), gV 1 l.length o], gB l o, cr [], cr []]
   (fun v h' => v = .tuple #[] ∧ ∃ o', o'.isSome = true ∧ gOk (l.eraseIdx k.toNat) o' ∧ (h' = [cw [pv 2 0, sv 3 0 n (n + m), gV 1 (l.eraseIdx k.toNat).length o'], gB (l.eraseIdx k.toNat) o', cr [], cr []] ∨ h' = [cw [pv 2 0, sv 3 0 n (n + m), gV 4 (l.eraseIdx k.toNat).length o'], gB l o, cr [], cr [], gB (l.eraseIdx k.toNat) o'])) := by
 obtain ⟨i, rfl⟩ : ∃ i : Nat, k = (i : Nat) := ⟨k.toNat, by omega⟩
 have hi : i < l.length := by omega
 rw [show ((i : Nat) : Int).toNat = i from rfl]
 cases o with
 | none => have : l = [] := ho; subst this; simp at hi
 | some ct =>
 obtain ⟨c, t⟩ := ct
 have hlc := ho.1
 refine Env.by2 hc ?_
 unfold zby
 show GC _ 4 _ _ ⟨reg [(0, pv 0 2), (1, iv (i : Nat))], [cw [pv 2 0, sv 3 0 n (n + m), sv 1 0 l.length c], cw (zaX l ++ t), cr [], cr []]⟩
 refine zc8 [] (by kernel_rfl) (r_d 7 [(10, iv (i : Nat)), (9, iv (i : Nat)), (8, sv 1 0 l.length c), (7, pv 0 2), (6, pv 0 2), (5, pv 0 2), (4, pv 0 2)] (by kernel_rfl) (r_s (run_slc3 (v := (i : Nat)) (b := 1) (n := l.length) (c := c) rfl rfl rfl (by omega)) ?_))
 refine r_d 5 [(16, iv (i : Nat)), (15, sv 1 0 l.length c), (14, pv 0 2), (13, pv 0 2), (12, pv 0 2)] (by kernel_rfl) (r_s (by refine zae (v := .int .i64 (i64.wrap ((i : Nat) + 1))) (congrArg (Value.int .i64) (w64 (by omega) (by omega))) ?_; kernel_rfl) ?_)
 refine r_s (run_slcHi (v := ((i : Nat) : Int) + 1) (b := 1) (n := l.length) (c := c) rfl rfl (by omega)) ?_
 have hlt : (l.take i).length = i := by simp; omega
 have hld : (l.drop (i + 1)).length = l.length - (i + 1) := by simp
 have hsum : (l.take i ++ l.drop (i + 1)).length = (l.eraseIdx i).length := by rw [zfY]
 refine r_app (app_g (l := l.take i) (xs := l.drop (i + 1)) (o := some (i, zaX (l.drop i) ++ t)) (k := 1) ?_ ?_ (gOk_cut ho hi) rfl ?_ ?_ (by rw [hlt, hld]; omega) (fun hx => ?_) (fun hx c' t' ht hg => ?_) (fun hx o' hs hg => ?_))
 ·rw [hlt]; rfl
 ·rw [← gB_cut (c := c)]; rfl
 ·rw [hld]; exact congrArg some (by omega)
 ·rw [hld]
  refine zbS (rw := true) (t := zaX l ++ t) rfl ?_ ?_
  ·by_cases hcc : c = (((i : Nat) : Int) + 1).toNat
   ·have h0 : l.length - (i + 1) = 0 := by omega
    have h1 : l.drop (i + 1) = [] := List.eq_nil_of_length_eq_zero (by rw [hld]; exact h0)
    rw [h0, h1]; simp [zaX]
   ·rw [if_neg hcc, ← hld]
    have : (((i : Nat) : Int) + 1).toNat = i + 1 := by omega
    rw [this]; exact nts_dropS (by omega)
  ·by_cases hcc : c = (((i : Nat) : Int) + 1).toNat
   ·rw [if_pos hcc, List.length_append, za2]; omega
   ·rw [if_neg hcc, List.length_append, za2]; omega
 ·refine r_b 3 [(21, pv 0 2), (20, pv 0 2)] [cw [pv 2 0, sv 3 0 n (n + m), gV 1 (l.take i).length (some (i, zaX (l.drop i) ++ t))], cw (zaX l ++ t), cr [], cr []] (by kernel_rfl) ?_
  refine zcB ⟨trivial, _, .inl rfl, [], rfl, qB, rfl, some (i, zaX (l.drop i) ++ t), rfl, ?_, .inl ?_⟩
  ·rw [← zfY, hx, List.append_nil]; exact gOk_cut ho hi
  ·rw [← zfY, hx, List.append_nil, ← gB_cut (c := c)]; rfl
 ·exfalso
  have h2 := hg.1
  simp only [Option.some.injEq, Prod.mk.injEq] at ht
  rw [hsum, ← ht.1, ← zfY, List.length_append, hlt] at h2
  exact hx (List.eq_nil_of_length_eq_zero (by omega))
 ·cases o' with
  | none => cases hs
  | some ct =>
   refine r_b 3 [(21, pv 0 2), (20, pv 0 2)] [cw [pv 2 0, sv 3 0 n (n + m), gV 4 (l.take i ++ l.drop (i + 1)).length (some ct)], cw (zaX l ++ t), cr [], cr [], gB (l.take i ++ l.drop (i + 1)) (some ct)] (by kernel_rfl) (zcB ⟨trivial, _, .inl rfl, [], rfl, qB, rfl, some ct, rfl, ?_, .inr ?_⟩)
   ·rw [← zfY]; exact hg
   ·rw [← zfY]; rfl
end Go.Rh

namespace Go.Rh
def u8 (l : List Int) : List Value := l.map fun x => .int .u8 (x % 256)
theorem u8_length (l : List Int) : (u8 l).length = l.length := by simp [u8]
theorem zf6 (l : List Int) : (u8 l).all zbA = true := by
 refine List.all_eq_true.2 fun v hv => ?_
 obtain ⟨b, _, rfl⟩ := List.mem_map.1 hv; rfl
theorem u8_get {l : List Int} {i : Nat} (h : i < l.length) : zaz none (u8 l) i = some (.int .u8 (l.getD i 0 % 256)) := by
 simp [zaz, u8, List.getD_eq_getElem?_getD, h]
theorem u8_app (a b : List Int) : u8 a ++ u8 b = u8 (a ++ b) := by simp [u8]
theorem u8_rep (n : Nat) : (List.replicate n [(.int .u8 0 : Value)]).flatten = u8 (List.replicate n 0) := by
 induction n with
 | zero => rfl
 | succ n ih => simp only [List.replicate_succ, List.flatten_cons, ih]; rfl
def zeM (q : Option (Nat × Nat)) (k n : Nat) : Value := match q with
 | none => .slice none 0 0
 | some (o, c) => .slice (some ⟨k, o, none⟩) n c
def zej (q : Option (Nat × Nat)) (c : List Value) (rw : Bool) : Blk := match q with
 | none => .gone
 | some _ => .cells c rw
def qo (q : Option (Nat × Nat)) : Nat := match q with
 | none => 0
 | some (o, _) => o
structure RowOf (q : Option (Nat × Nat)) (L l : List Int) : Prop where
  nil : q = none → l.length = 0
  off : q ≠ none → qo q + l.length ≤ L.length
  at_ : q ≠ none → (L.drop (qo q)).take l.length = l
  cap : ∀ o c, q = some (o, c) → l.length ≤ c
theorem zg9 {d : Option Nat} {x : Opd} {L : List (Nat × Value)} {hp : List Blk} {k n : Nat} {q : Option (Nat × Nat)} (hx : evf (reg L) x = zeM q k n) (ho : q = none → n = 0) : zdp [⟨d, .lenS x, none⟩] ⟨reg L, hp⟩ = some ⟨zaw (reg L) d (.int .i64 (n : Nat)), hp⟩ := by
 refine zaK (e := .no) rfl rfl ?_
 cases q with
 | none => simp [zO, hx, zeM, ho rfl]
 | some p => simp [zO, hx, zeM]
theorem run_iadRow {d : Option Nat} {x i : Opd} {L : List (Nat × Value)} {hp : List Blk} {k o' m : Nat} {q : Option (Nat × Nat)} {ik : IntKind} {n : Int} (hx : evf (reg L) x = zeM q k m) (ho : q = none → m = 0) (hi : evf (reg L) i = .int ik n) (hn : 0 ≤ n ∧ n < m) (he : qo q + n.toNat = o') : zdp [⟨d, .iadS 1 x i, none⟩] ⟨reg L, hp⟩ = some ⟨zaw (reg L) d (.pointer (some ⟨k, o', none⟩)), hp⟩ := by
 cases q with
 | none => have := ho rfl; omega
 | some p => exact zhT (o := p.1) hx hi hn (by simpa [qo] using he)
theorem hf_row {h : List Blk} {k n : Nat} {q : Option (Nat × Nat)} {c : List Value} {rw : Bool} (hk : h[k]? = some (zej q c rw)) (ho : q = none → n = 0) (hn : 0 < n) : hf h k = some (.cells c rw) := by
 cases q with
 | none => have := ho rfl; omega
 | some p => exact zax.2 ⟨hk, by simp [zej]⟩
theorem row_r {q : Option (Nat × Nat)} {L l : List Int} (hr : RowOf q L l) {i o : Nat} (hi : i < l.length) (ho : o = qo q + i) : zaz none (u8 L) o = some (.int .u8 (l.getD i 0 % 256)) := by
 have hq : q ≠ none := fun e => by have := hr.nil e; omega
 have h1 := hr.off hq
 subst ho
 rw [u8_get (by omega)]
 have : (L.drop (qo q)).getD i 0 = l.getD i 0 := by
  have h3 := congrArg (fun z : List Int => z[i]?) (hr.at_ hq)
  simp only [List.getElem?_take, if_pos hi] at h3
  rw [List.getD_eq_getElem?_getD, List.getD_eq_getElem?_getD, h3]
 rw [← this, List.getD_eq_getElem?_getD, List.getD_eq_getElem?_getD, List.getElem?_drop]
theorem row_slc {q : Option (Nat × Nat)} {L l : List Int} {k : Nat} (hr : RowOf q L l) {lo hi mx : Option Value} (a b : Nat) (hab : a ≤ b ∧ b ≤ l.length) (hlo : (lo = none ∧ a = 0) ∨ lo = some (iv (a : Nat))) (hhi : (hi = none ∧ b = l.length ∧ mx = none) ∨ hi = some (iv (b : Nat))) (hmx : mx = none ∨ mx = some (iv (b : Nat))) :
  ∃ (q' : Option (Nat × Nat)) (l' : List Int), l' = (l.drop a).take (b - a) ∧ l'.length = b - a ∧ slcV 1 (zeM q k l.length) lo hi mx = some (zeM q' k l'.length) ∧ RowOf q' L l' ∧ q'.isSome = q.isSome := by
 have hln : ((l.drop a).take (b - a)).length = b - a := by simp; omega
 have bn : ∀ (y i : Nat), i ≤ y → bnd y (iv (i : Nat)) = some i := fun y i h => by simp [bnd]; omega
 cases q with
 | none =>
  have h0 := hr.nil rfl
  have ha : a = 0 := by omega
  have hb : b = 0 := by omega
  subst ha; subst hb
  refine ⟨none, _, rfl, hln, ?_, ⟨fun _ => hln, fun e => absurd rfl e, fun e => absurd rfl e, (fun o c e => by cases e)⟩, rfl⟩
  show slcV 1 (.slice none 0 0) lo hi mx = some (.slice none 0 0)
  rcases hmx with rfl | rfl <;> rcases hlo with ⟨rfl, _⟩ | rfl <;> rcases hhi with ⟨rfl, _, hz⟩ | rfl <;> first | rfl | (cases hz)
 | some p =>
  obtain ⟨o, c⟩ := p
  have hc := hr.cap o c rfl
  have h1 := hr.off (by simp)
  have h2 := hr.at_ (by simp)
  simp only [qo] at h1 h2
  have key : ∀ m, b ≤ m → m ≤ c → bnds l.length c lo hi mx = some (a, b, m) → ∃ (q' : Option (Nat × Nat)) (l' : List Int), l' = (l.drop a).take (b - a) ∧ l'.length = b - a ∧ slcV 1 (zeM (some (o, c)) k l.length) lo hi mx = some (zeM q' k l'.length) ∧ RowOf q' L l' ∧ q'.isSome = (some (o, c)).isSome := by
   intro m hm1 hm2 hb
   refine ⟨some (if m = a then o else o + a * 1, m - a), _, rfl, hln, ?_, ⟨(fun e => by cases e), fun _ => ?_, fun _ => ?_, fun o' c' e => ?_⟩, rfl⟩
   ·simp only [zeM, slcV, hb, hln]
    split <;> rfl
   ·rw [hln]; simp only [qo]; split <;> omega
   ·rw [hln]
    simp only [qo]
    split
    ·rename_i hma
     have : b - a = 0 := by omega
     rw [this]; simp
    ·have h4 : l.drop a = (L.drop (o + a)).take (l.length - a) := by
      conv => lhs; rw [← h2]
      rw [List.drop_take, List.drop_drop]
     rw [Nat.mul_one, h4, List.take_take, show min (b - a) (l.length - a) = b - a by omega]
   ·cases e; rw [hln]; omega
  have e3 : (match (generalizing := false) lo with | some v => bnd b v | none => some 0) = some a := by
   rcases hlo with ⟨rfl, rfl⟩ | rfl
   ·rfl
   ·exact bn b a hab.1
  rcases hmx with rfl | rfl
  ·refine key c (by omega) (Nat.le_refl _) ?_
   rcases hhi with ⟨rfl, rfl, _⟩ | rfl
   ·show (match (generalizing := false) (match (generalizing := false) lo with | some v => bnd l.length v | none => some 0) with | none => none | some l' => some (l', l.length, c)) = _
    rw [e3]
   ·show (match (generalizing := false) bnd c (iv (b : Nat)) with | none => none | some h => match (generalizing := false) (match (generalizing := false) lo with | some v => bnd h v | none => some 0) with | none => none | some l' => some (l', h, c)) = _
    rw [bn c b (by omega)]
    show (match (generalizing := false) (match (generalizing := false) lo with | some v => bnd b v | none => some 0) with | none => none | some l' => some (l', b, c)) = _
    rw [e3]
  ·refine key b (Nat.le_refl _) (by omega) ?_
   rcases hhi with ⟨_, _, hz⟩ | rfl
   ·cases hz
   ·show (match (generalizing := false) bnd c (iv (b : Nat)) with | none => none | some m => match (generalizing := false) bnd m (iv (b : Nat)) with | none => none | some h => match (generalizing := false) (match (generalizing := false) lo with | some v => bnd h v | none => some 0) with | none => none | some l' => some (l', h, m)) = _
    rw [bn c b (by omega)]
    show (match (generalizing := false) bnd b (iv (b : Nat)) with | none => none | some h => match (generalizing := false) (match (generalizing := false) lo with | some v => bnd h v | none => some 0) with | none => none | some l' => some (l', h, b)) = _
    rw [bn b b (Nat.le_refl _)]
    show (match (generalizing := false) (match (generalizing := false) lo with | some v => bnd b v | none => some 0) with | none => none | some l' => some (l', b, b)) = _
    rw [e3]
theorem zi7 {d : Option Nat} {x : Opd} {lo hi mx : Option Opd} {L : List (Nat × Value)} {hp : List Blk} {v w : Value} (hx : evf (reg L) x = v) (h : slcV 1 v (lo.map (evf (reg L))) (hi.map (evf (reg L))) (mx.map (evf (reg L))) = some w) : zdp [⟨d, .slcS 1 x lo hi mx, none⟩] ⟨reg L, hp⟩ = some ⟨zaw (reg L) d w, hp⟩ := by
 refine zaK (e := .no) rfl rfl ?_
 simp only [zO, hx, h]
theorem ren_rowB {ρ : Nat → Nat} {q : Option (Nat × Nat)} {c : List Value} {rw : Bool} (h : c.all zbA = true) : zaY ρ (zej q c rw) = zej q c rw := by
 cases q with
 | none => rfl
 | some p => exact zbC h
theorem zfN {ρ : Nat → Nat} {q : Option (Nat × Nat)} {c : List Value} {rw : Bool} (h : c.all zbA = true) : some (zej q c rw) = some (zaY ρ (zej q c rw)) := by rw [ren_rowB h]
theorem zid {ρ : Nat → Nat} {q q' : Option (Nat × Nat)} {c : List Value} {rw rw' : Bool} (h : c.all zbA = true) (hs : q'.isSome = q.isSome) (hr : rw = true → rw' = true) : Blk.sees (zaY ρ (zej q' c rw)) (zej q c rw') := by
 rw [ren_rowB h]
 cases q <;> cases q' <;> first | exact .inr ⟨rfl, rfl⟩ | exact .inl ⟨rfl, hr⟩ | (cases hs)
theorem zcL {ρ : Nat → Nat} {q : Option (Nat × Nat)} {k k' n : Nat} (h : ρ k = k') : zbw ρ (zeM q k n) = zeM q k' n := by
 subst h; cases q <;> rfl
end Go.Rh

namespace Go.Rh
theorem wrap_u64 {x : Int} (h : 0 ≤ x ∧ x < 18446744073709551616) : IntKind.u64.wrap x = x := by show x % 18446744073709551616 = x; omega
theorem hf_row2 {h : List Blk} {k n : Nat} {q q' : Option (Nat × Nat)} {c : List Value} {rw : Bool} (hk : h[k]? = some (zej q c rw)) (hs : q'.isSome = q.isSome) (ho : q' = none → n = 0) (hn : 0 < n) : hf h k = some (.cells c rw) :=
 hf_row (n := n) hk (fun e => by subst e; cases q' with | none => exact ho rfl | some p => cases hs) hn
end Go.Rh

namespace Go.Rh
def zB : List Value := [.int .u8 0]
theorem room_zB (m : Nat) : zc1 zB m = u8 (List.replicate m 0) := u8_rep m
theorem zh6 (l : List Int) (m : Nat) : (u8 l ++ zc1 zB m).all zbA = true := by rw [room_zB, u8_app]; exact zf6 _
theorem u8_len (l : List Int) : (u8 l).length = l.length * 1 := by rw [u8_length, Nat.mul_one]
theorem run_mks0 {d : Option Nat} {z : RL} {size bytes n : Nat} {ik : IntKind} {v : Int} {l c : Opd} {L : List (Nat × Value)} {hp : List Blk} {zl : List Value} (hz : qY z = zl) (hl : evf (reg L) l = iv 0) (hc : evf (reg L) c = .int ik v) (hv : 0 ≤ v ∧ v ≤ 1000000) (hn : v.toNat = n) (hb : bytes ≤ 1000) :
  zdp [⟨d, .mks z size bytes l c, none⟩] ⟨reg L, hp⟩ = some ⟨zaw (reg L) d (sv hp.length 0 0 (0 + n)), hp ++ [cw ([] ++ zc1 zl n)]⟩ := by
 have h1 : (bytes : Int) * v ≤ 1000 * 1000000 := Int.mul_le_mul (by omega) hv.2 hv.1 (by omega)
 refine zaK (e := .push (cw ([] ++ zc1 zl n))) (v := sv hp.length 0 0 (0 + n)) rfl rfl ?_
 subst hn
 simp only [zO, hl, hc, iv]
 rw [if_pos ⟨by omega, hv.1, by omega, by omega⟩, hz]
 simp [sv, zc1]
def qsl (n : Nat) (o : Option Nat) : Option (Nat × Nat) := match o with
 | none => none
 | some m => some (0, n + m)
theorem rowV_qsl (k n : Nat) (o : Option Nat) : zeM (qsl n o) k n = slV k n o := by cases o <;> rfl
theorem rowB_qsl {n : Nat} {l : List Int} (o : Option Nat) : zej (qsl n o) (u8 (l ++ List.replicate (o.getD 0) 0)) true = slB zB (u8 l) o := by
 cases o with
 | none => rfl
 | some m => simp [zej, qsl, slB, room_zB, u8_app]
theorem row_qsl {l : List Int} {n : Nat} {o : Option Nat} (ho : o = none → l.length = 0) (hn : n = l.length) : RowOf (qsl n o) (l ++ List.replicate (o.getD 0) 0) l := by
 subst hn
 cases o with
 | none => exact ⟨fun _ => ho rfl, fun q => absurd rfl q, fun q => absurd rfl q, (fun o c q => by cases q)⟩
 | some m => exact ⟨(fun q => by cases q), (fun _ => by simp [qsl, qo]), (fun _ => by simp [qsl, qo]), (fun o c q => by cases q; omega)⟩
theorem sees_qsl {ρ : Nat → Nat} {n : Nat} {l : List Int} {rw : Bool} (o : Option Nat) : Blk.sees (zaY ρ (zej (qsl n o) (u8 (l ++ List.replicate (o.getD 0) 0)) rw)) (slB zB (u8 l) o) := by
 rw [← rowB_qsl (n := n) o]; exact zid (zf6 _) rfl (fun _ => rfl)
theorem renV_qsl {ρ : Nat → Nat} {k k' n m : Nat} (o : Option Nat) (h : ρ k = k') (hn : n = m) : zbw ρ (zeM (qsl n o) k m) = slV k' n o := by
 subst hn; rw [zcL h, rowV_qsl]
theorem u8_app1 {l : List Int} {v w : Int} (h : v % 256 = w) : u8 l ++ [.int .u8 w] = u8 (l ++ [v]) := by subst h; simp [u8]
theorem over_row {ρ : Nat → Nat} {k : Nat} {ss : List Nat} {bs : List Blk} {q q' : Option (Nat × Nat)} {c c2 : List Value} {rw : Bool} (hs : q'.isSome = q.isSome) (hn : zex k ss bs = none) : (match zex k (k :: ss) (zej q' c false :: bs) with
  | some b' => zaY ρ b'
  | none => zej q c2 rw) = zej q c2 rw := by
 cases q' <;> cases q <;> first | (cases hs; done) | (simp [zex, zej, Blk.rw, hn, zaY])
theorem over_qsl {ρ : Nat → Nat} {k n : Nat} {ss : List Nat} {bs : List Blk} {c z cs : List Value} {o : Option Nat} (hn : zex k ss bs = none) : (match zex k (k :: ss) (zej (qsl n o) c false :: bs) with
  | some b' => zaY ρ b'
  | none => slB z cs o) = slB z cs o := by
 cases o <;> simp [zex, zej, qsl, slB, Blk.rw, hn, zaY]
end Go.Rh

set_option maxHeartbeats 8000000
namespace Go.Rh
def zan : IFunc := ⟨17, [.tmp 4], (.seq (.reg [kq 4 (.mv (.c (.int .u64 0)))]) (.seq (.reg [km 6 1, kq 7 (.cvi .u64 (.t 6)), kq 8 (.bin .and (.t 7) (.c (.int .u64 63))), km 5 8]) (.seq (.reg [km 9 0, km 10 5, kq 11 (.bin .shl (.t 9) (.t 10)), km 12 0, km 13 5, kq 14 (.bin .sub (.c (.int .u64 64)) (.t 13)), kq 15 (.bin .shr (.t 12) (.t 14)), kq 16 (.bin .or (.t 11) (.t 15)), km 4 16]) .ret)))⟩
abbrev zS (P : Program) : Prop := zX P "math/bits.RotateLeft64" = some zan
def zdb : IFunc := ⟨114, [], (.seq (.dreg [km 2 0, kq 3 (.nilc (.t 2)), kq 4 (.fad 0 (.t 3)), kq 5 (.ld none (.t 4)), km 6 0, kq 7 (.nilc (.t 6)), kq 8 (.fad 1 (.t 7)), kq 9 (.ld none (.t 8)), kq 10 (.bin .add (.t 5) (.t 9)), kq 11 (.nilc (.t 2)), kq 12 (.fad 0 (.t 11)), ku (.st 1 (.t 12) (.t 10))] [[], [0], [1, 0], [2, 1, 0], [], [4], [5, 4], [6, 5, 4], [3, 2, 1, 0, 7, 6, 5, 4], [0, 1, 2, 3, 4, 5, 6, 7, 8], [9, 0, 1, 2, 3, 4, 5, 6, 7, 8], [10, 9, 0, 1, 2, 3, 4, 5, 6, 7, 8]]) (.seq (.dreg [km 13 0, km 14 0, kq 15 (.nilc (.t 14)), kq 16 (.fad 1 (.t 15)), kq 17 (.ld none (.t 16)), kq 18 (.call "math/bits.RotateLeft64" [(.t 17), (ki 13)]), km 19 0, kq 20 (.nilc (.t 19)), kq 21 (.fad 0 (.t 20)), kq 22 (.ld none (.t 21)), kq 23 (.bin .xor (.t 18) (.t 22)), kq 24 (.nilc (.t 13)), kq 25 (.fad 1 (.t 24)), ku (.st 1 (.t 25) (.t 23))] [[], [], [1], [2, 1], [3, 2, 1], [4, 3, 2, 1], [], [6], [7, 6], [8, 7, 6], [5, 4, 3, 2, 1, 9, 8, 7, 6], [0, 1, 2, 3, 4, 5, 6, 7, 8, 9, 10], [11, 0, 1, 2, 3, 4, 5, 6, 7, 8, 9, 10], [12, 11, 0, 1, 2, 3, 4, 5, 6, 7, 8, 9, 10]]) (.seq (.reg [km 26 0, km 27 0, kq 28 (.nilc (.t 27)), kq 29 (.fad 0 (.t 28)), kq 30 (.ld none (.t 29)), kq 31 (.call "math/bits.RotateLeft64" [(.t 30), (ki 32)]), kq 32 (.nilc (.t 26)), kq 33 (.fad 0 (.t 32)), ku (.st 1 (.t 33) (.t 31))]) (.seq (.dreg [km 34 0, kq 35 (.nilc (.t 34)), kq 36 (.fad 2 (.t 35)), kq 37 (.ld none (.t 36)), km 38 0, kq 39 (.nilc (.t 38)), kq 40 (.fad 3 (.t 39)), kq 41 (.ld none (.t 40)), kq 42 (.bin .add (.t 37) (.t 41)), kq 43 (.nilc (.t 34)), kq 44 (.fad 2 (.t 43)), ku (.st 1 (.t 44) (.t 42))] [[], [0], [1, 0], [2, 1, 0], [], [4], [5, 4], [6, 5, 4], [3, 2, 1, 0, 7, 6, 5, 4], [0, 1, 2, 3, 4, 5, 6, 7, 8], [9, 0, 1, 2, 3, 4, 5, 6, 7, 8], [10, 9, 0, 1, 2, 3, 4, 5, 6, 7, 8]]) (.seq (.dreg [km 45 0, km 46 0, kq 47 (.nilc (.t 46)), kq 48 (.fad 3 (.t 47)), kq 49 (.ld none (.t 48)), kq 50 (.call "math/bits.RotateLeft64" [(.t 49), (ki 16)]), km 51 0, kq 52 (.nilc (.t 51)), kq 53 (.fad 2 (.t 52)), kq 54 (.ld none (.t 53)), kq 55 (.bin .xor (.t 50) (.t 54)), kq 56 (.nilc (.t 45)), kq 57 (.fad 3 (.t 56)), ku (.st 1 (.t 57) (.t 55))] [[], [], [1], [2, 1], [3, 2, 1], [4, 3, 2, 1], [], [6], [7, 6], [8, 7, 6], [5, 4, 3, 2, 1, 9, 8, 7, 6], [0, 1, 2, 3, 4, 5, 6, 7, 8, 9, 10], [11, 0, 1, 2, 3, 4, 5, 6, 7, 8, 9, 10], [12, 11, 0, 1, 2, 3, 4, 5, 6, 7, 8, 9, 10]]) (.seq (.dreg [km 58 0, kq 59 (.nilc (.t 58)), kq 60 (.fad 0 (.t 59)), kq 61 (.ld none (.t 60)), km 62 0, kq 63 (.nilc (.t 62)), kq 64 (.fad 3 (.t 63)), kq 65 (.ld none (.t 64)), kq 66 (.bin .add (.t 61) (.t 65)), kq 67 (.nilc (.t 58)), kq 68 (.fad 0 (.t 67)), ku (.st 1 (.t 68) (.t 66))] [[], [0], [1, 0], [2, 1, 0], [], [4], [5, 4], [6, 5, 4], [3, 2, 1, 0, 7, 6, 5, 4], [0, 1, 2, 3, 4, 5, 6, 7, 8], [9, 0, 1, 2, 3, 4, 5, 6, 7, 8], [10, 9, 0, 1, 2, 3, 4, 5, 6, 7, 8]]) (.seq (.dreg [km 69 0, km 70 0, kq 71 (.nilc (.t 70)), kq 72 (.fad 3 (.t 71)), kq 73 (.ld none (.t 72)), kq 74 (.call "math/bits.RotateLeft64" [(.t 73), (ki 21)]), km 75 0, kq 76 (.nilc (.t 75)), kq 77 (.fad 0 (.t 76)), kq 78 (.ld none (.t 77)), kq 79 (.bin .xor (.t 74) (.t 78)), kq 80 (.nilc (.t 69)), kq 81 (.fad 3 (.t 80)), ku (.st 1 (.t 81) (.t 79))] [[], [], [1], [2, 1], [3, 2, 1], [4, 3, 2, 1], [], [6], [7, 6], [8, 7, 6], [5, 4, 3, 2, 1, 9, 8, 7, 6], [0, 1, 2, 3, 4, 5, 6, 7, 8, 9, 10], [11, 0, 1, 2, 3, 4, 5, 6, 7, 8, 9, 10], [12, 11, 0, 1, 2, 3, 4, 5, 6, 7, 8, 9, 10]]) (.seq (.dreg [km 82 0, kq 83 (.nilc (.t 82)), kq 84 (.fad 2 (.t 83)), kq 85 (.ld none (.t 84)), km 86 0, kq 87 (.nilc (.t 86)), kq 88 (.fad 1 (.t 87)), kq 89 (.ld none (.t 88)), kq 90 (.bin .add (.t 85) (.t 89)), kq 91 (.nilc (.t 82)), kq 92 (.fad 2 (.t 91)), ku (.st 1 (.t 92) (.t 90))] [[], [0], [1, 0], [2, 1, 0], [], [4], [5, 4], [6, 5, 4], [3, 2, 1, 0, 7, 6, 5, 4], [0, 1, 2, 3, 4, 5, 6, 7, 8], [9, 0, 1, 2, 3, 4, 5, 6, 7, 8], [10, 9, 0, 1, 2, 3, 4, 5, 6, 7, 8]]) (.seq (.dreg [km 93 0, km 94 0, kq 95 (.nilc (.t 94)), kq 96 (.fad 1 (.t 95)), kq 97 (.ld none (.t 96)), kq 98 (.call "math/bits.RotateLeft64" [(.t 97), (ki 17)]), km 99 0, kq 100 (.nilc (.t 99)), kq 101 (.fad 2 (.t 100)), kq 102 (.ld none (.t 101)), kq 103 (.bin .xor (.t 98) (.t 102)), kq 104 (.nilc (.t 93)), kq 105 (.fad 1 (.t 104)), ku (.st 1 (.t 105) (.t 103))] [[], [], [1], [2, 1], [3, 2, 1], [4, 3, 2, 1], [], [6], [7, 6], [8, 7, 6], [5, 4, 3, 2, 1, 9, 8, 7, 6], [0, 1, 2, 3, 4, 5, 6, 7, 8, 9, 10], [11, 0, 1, 2, 3, 4, 5, 6, 7, 8, 9, 10], [12, 11, 0, 1, 2, 3, 4, 5, 6, 7, 8, 9, 10]]) (.reg [km 106 0, km 107 0, kq 108 (.nilc (.t 107)), kq 109 (.fad 2 (.t 108)), kq 110 (.ld none (.t 109)), kq 111 (.call "math/bits.RotateLeft64" [(.t 110), (ki 32)]), kq 112 (.nilc (.t 106)), kq 113 (.fad 2 (.t 112)), ku (.st 1 (.t 113) (.t 111))]))))))))))⟩
abbrev qO (P : Program) : Prop := zX P "(*roundhouse/sip.state).round" = some zdb
def xo (a b : Int) : Int := IntKind.u64.wrap ((BitVec.ofInt 64 a ^^^ BitVec.ofInt 64 b).toNat)
def ad (a b : Int) : Int := IntKind.u64.wrap (a + b)
def oo (a b : Int) : Int := IntKind.u64.wrap ((BitVec.ofInt 64 a ||| BitVec.ofInt 64 b).toNat)
def sl (a b : Int) : Int := IntKind.u64.wrap (a * 2 ^ (min b.toNat 64))
def zdq (R Q x : Int) : Int := IntKind.u64.wrap ((BitVec.ofInt 64 (IntKind.u64.wrap (x * R)) ||| BitVec.ofInt 64 (x.fdiv Q)).toNat)
structure Q4 where
  (a b c d : Int)
def q4L (q : Q4) : List Value := [uv q.a, uv q.b, uv q.c, uv q.d]
def rs1 (q : Q4) : Q4 := ⟨ad q.a q.b, q.b, q.c, q.d⟩
def rs2 (q : Q4) : Q4 := let x := rs1 q; ⟨x.a, xo (zdq 8192 2251799813685248 x.b) x.a, x.c, x.d⟩
def rs3 (q : Q4) : Q4 := let x := rs2 q; ⟨zdq 4294967296 4294967296 x.a, x.b, x.c, x.d⟩
def rs4 (q : Q4) : Q4 := let x := rs3 q; ⟨x.a, x.b, ad x.c x.d, x.d⟩
def rs5 (q : Q4) : Q4 := let x := rs4 q; ⟨x.a, x.b, x.c, xo (zdq 65536 281474976710656 x.d) x.c⟩
def rs6 (q : Q4) : Q4 := let x := rs5 q; ⟨ad x.a x.d, x.b, x.c, x.d⟩
def rs7 (q : Q4) : Q4 := let x := rs6 q; ⟨x.a, x.b, x.c, xo (zdq 2097152 8796093022208 x.d) x.a⟩
def rs8 (q : Q4) : Q4 := let x := rs7 q; ⟨x.a, x.b, ad x.c x.b, x.d⟩
def rs9 (q : Q4) : Q4 := let x := rs8 q; ⟨x.a, xo (zdq 131072 140737488355328 x.b) x.c, x.c, x.d⟩
def rs10 (q : Q4) : Q4 := let x := rs9 q; ⟨x.a, x.b, zdq 4294967296 4294967296 x.c, x.d⟩
theorem rot13C {P : Program} (hc : zS P) (x : Int) :
    Env P "math/bits.RotateLeft64" [uv x, iv 13] ([]) (Ans (uv (zdq 8192 2251799813685248 x)) ([])) := by
 refine Env.by hc ?_
 unfold zan
 show GC _ 0 _ _ ⟨reg [(0, uv x), (1, iv 13)], []⟩
 refine zQ (zU (o_d 1 [(4, uv 0)] (by kernel_rfl) (zF (zC (zQ (zU (o_d 4 [(5, uv 13), (8, uv 13), (7, uv 13), (6, iv 13)] (by kernel_rfl) (zF (zC (zQ (zU (o_d 9 [(4, uv (IntKind.u64.wrap ((BitVec.ofInt 64 (IntKind.u64.wrap (x * 8192)) ||| BitVec.ofInt 64 (x.fdiv 2251799813685248)).toNat))), (16, uv (IntKind.u64.wrap ((BitVec.ofInt 64 (IntKind.u64.wrap (x * 8192)) ||| BitVec.ofInt 64 (x.fdiv 2251799813685248)).toNat))), (15, uv (x.fdiv 2251799813685248)), (14, uv 51), (13, uv 13), (12, uv x), (11, uv (IntKind.u64.wrap (x * 8192))), (10, uv 13), (9, uv x)] (by kernel_rfl) ?_))))))))))))
 refine zF (zC (zaZ ?_))
 have E0_ : zdq 8192 2251799813685248 x = IntKind.u64.wrap ((BitVec.ofInt 64 (IntKind.u64.wrap (x * 8192)) ||| BitVec.ofInt 64 (x.fdiv 2251799813685248)).toNat) := by
  rfl
 exact qE [uv (IntKind.u64.wrap ((BitVec.ofInt 64 (IntKind.u64.wrap (x * 8192)) ||| BitVec.ofInt 64 (x.fdiv 2251799813685248)).toNat))] (qD rfl rfl) rfl (by rw [E0_]; rfl) rfl rfl
theorem rot32C {P : Program} (hc : zS P) (x : Int) :
    Env P "math/bits.RotateLeft64" [uv x, iv 32] ([]) (Ans (uv (zdq 4294967296 4294967296 x)) ([])) := by
 refine Env.by hc ?_
 unfold zan
 show GC _ 0 _ _ ⟨reg [(0, uv x), (1, iv 32)], []⟩
 refine zQ (zU (o_d 1 [(4, uv 0)] (by kernel_rfl) (zF (zC (zQ (zU (o_d 4 [(5, uv 32), (8, uv 32), (7, uv 32), (6, iv 32)] (by kernel_rfl) (zF (zC (zQ (zU (o_d 9 [(4, uv (IntKind.u64.wrap ((BitVec.ofInt 64 (IntKind.u64.wrap (x * 4294967296)) ||| BitVec.ofInt 64 (x.fdiv 4294967296)).toNat))), (16, uv (IntKind.u64.wrap ((BitVec.ofInt 64 (IntKind.u64.wrap (x * 4294967296)) ||| BitVec.ofInt 64 (x.fdiv 4294967296)).toNat))), (15, uv (x.fdiv 4294967296)), (14, uv 32), (13, uv 32), (12, uv x), (11, uv (IntKind.u64.wrap (x * 4294967296))), (10, uv 32), (9, uv x)] (by kernel_rfl) ?_))))))))))))
 refine zF (zC (zaZ ?_))
 have E0_ : zdq 4294967296 4294967296 x = IntKind.u64.wrap ((BitVec.ofInt 64 (IntKind.u64.wrap (x * 4294967296)) ||| BitVec.ofInt 64 (x.fdiv 4294967296)).toNat) := by
  rfl
 exact qE [uv (IntKind.u64.wrap ((BitVec.ofInt 64 (IntKind.u64.wrap (x * 4294967296)) ||| BitVec.ofInt 64 (x.fdiv 4294967296)).toNat))] (qD rfl rfl) rfl (by rw [E0_]; rfl) rfl rfl
theorem rot16C {P : Program} (hc : zS P) (x : Int) :
    Env P "math/bits.RotateLeft64" [uv x, iv 16] ([]) (Ans (uv (zdq 65536 281474976710656 x)) ([])) := by
 refine Env.by hc ?_
 unfold zan
 show GC _ 0 _ _ ⟨reg [(0, uv x), (1, iv 16)], []⟩
 refine zQ (zU (o_d 1 [(4, uv 0)] (by kernel_rfl) (zF (zC (zQ (zU (o_d 4 [(5, uv 16), (8, uv 16), (7, uv 16), (6, iv 16)] (by kernel_rfl) (zF (zC (zQ (zU (o_d 9 [(4, uv (IntKind.u64.wrap ((BitVec.ofInt 64 (IntKind.u64.wrap (x * 65536)) ||| BitVec.ofInt 64 (x.fdiv 281474976710656)).toNat))), (16, uv (IntKind.u64.wrap ((BitVec.ofInt 64 (IntKind.u64.wrap (x * 65536)) ||| BitVec.ofInt 64 (x.fdiv 281474976710656)).toNat))), (15, uv (x.fdiv 281474976710656)), (14, uv 48), (13, uv 16), (12, uv x), (11, uv (IntKind.u64.wrap (x * 65536))), (10, uv 16), (9, uv x)] (by kernel_rfl) ?_))))))))))))
 refine zF (zC (zaZ ?_))
 have E0_ : zdq 65536 281474976710656 x = IntKind.u64.wrap ((BitVec.ofInt 64 (IntKind.u64.wrap (x * 65536)) ||| BitVec.ofInt 64 (x.fdiv 281474976710656)).toNat) := by
  rfl
 exact qE [uv (IntKind.u64.wrap ((BitVec.ofInt 64 (IntKind.u64.wrap (x * 65536)) ||| BitVec.ofInt 64 (x.fdiv 281474976710656)).toNat))] (qD rfl rfl) rfl (by rw [E0_]; rfl) rfl rfl
theorem rot21C {P : Program} (hc : zS P) (x : Int) :
    Env P "math/bits.RotateLeft64" [uv x, iv 21] ([]) (Ans (uv (zdq 2097152 8796093022208 x)) ([])) := by
 refine Env.by hc ?_
 unfold zan
 show GC _ 0 _ _ ⟨reg [(0, uv x), (1, iv 21)], []⟩
 refine zQ (zU (o_d 1 [(4, uv 0)] (by kernel_rfl) (zF (zC (zQ (zU (o_d 4 [(5, uv 21), (8, uv 21), (7, uv 21), (6, iv 21)] (by kernel_rfl) (zF (zC (zQ (zU (o_d 9 [(4, uv (IntKind.u64.wrap ((BitVec.ofInt 64 (IntKind.u64.wrap (x * 2097152)) ||| BitVec.ofInt 64 (x.fdiv 8796093022208)).toNat))), (16, uv (IntKind.u64.wrap ((BitVec.ofInt 64 (IntKind.u64.wrap (x * 2097152)) ||| BitVec.ofInt 64 (x.fdiv 8796093022208)).toNat))), (15, uv (x.fdiv 8796093022208)), (14, uv 43), (13, uv 21), (12, uv x), (11, uv (IntKind.u64.wrap (x * 2097152))), (10, uv 21), (9, uv x)] (by kernel_rfl) ?_))))))))))))
 refine zF (zC (zaZ ?_))
 have E0_ : zdq 2097152 8796093022208 x = IntKind.u64.wrap ((BitVec.ofInt 64 (IntKind.u64.wrap (x * 2097152)) ||| BitVec.ofInt 64 (x.fdiv 8796093022208)).toNat) := by
  rfl
 exact qE [uv (IntKind.u64.wrap ((BitVec.ofInt 64 (IntKind.u64.wrap (x * 2097152)) ||| BitVec.ofInt 64 (x.fdiv 8796093022208)).toNat))] (qD rfl rfl) rfl (by rw [E0_]; rfl) rfl rfl
theorem rot17C {P : Program} (hc : zS P) (x : Int) :
    Env P "math/bits.RotateLeft64" [uv x, iv 17] ([]) (Ans (uv (zdq 131072 140737488355328 x)) ([])) := by
 refine Env.by hc ?_
 unfold zan
 show GC _ 0 _ _ ⟨reg [(0, uv x), (1, iv 17)], []⟩
 refine zQ (zU (o_d 1 [(4, uv 0)] (by kernel_rfl) (zF (zC (zQ (zU (o_d 4 [(5, uv 17), (8, uv 17), (7, uv 17), (6, iv 17)] (by kernel_rfl) (zF (zC (zQ (zU (o_d 9 [(4, uv (IntKind.u64.wrap ((BitVec.ofInt 64 (IntKind.u64.wrap (x * 131072)) ||| BitVec.ofInt 64 (x.fdiv 140737488355328)).toNat))), (16, uv (IntKind.u64.wrap ((BitVec.ofInt 64 (IntKind.u64.wrap (x * 131072)) ||| BitVec.ofInt 64 (x.fdiv 140737488355328)).toNat))), (15, uv (x.fdiv 140737488355328)), (14, uv 47), (13, uv 17), (12, uv x), (11, uv (IntKind.u64.wrap (x * 131072))), (10, uv 17), (9, uv x)] (by kernel_rfl) ?_))))))))))))
 refine zF (zC (zaZ ?_))
 have E0_ : zdq 131072 140737488355328 x = IntKind.u64.wrap ((BitVec.ofInt 64 (IntKind.u64.wrap (x * 131072)) ||| BitVec.ofInt 64 (x.fdiv 140737488355328)).toNat) := by
  rfl
 exact qE [uv (IntKind.u64.wrap ((BitVec.ofInt 64 (IntKind.u64.wrap (x * 131072)) ||| BitVec.ofInt 64 (x.fdiv 140737488355328)).toNat))] (qD rfl rfl) rfl (by rw [E0_]; rfl) rfl rfl
theorem roundC {P : Program} (hc : qO P) (h_math_bits_RotateLeft64 : zS P) (q : Q4) :
    Env P "(*roundhouse/sip.state).round" [pv 0 0] ([cw [uv q.a, uv q.b, uv q.c, uv q.d]]) (fun v h' => v = .tuple #[] ∧ h' = [cw (q4L (rs10 q))]) := by
 refine Env.by2 hc ?_
 unfold zdb
 show GC _ 1 _ _ ⟨reg [(0, pv 0 0)], [cw [uv q.a, uv q.b, uv q.c, uv q.d]]⟩
 refine gcut (fun s => ∃ (x : Q4), 0 = 0 ∧ (x = rs1 q) ∧ s = ⟨reg [(0, pv 0 0)], [cw [uv x.a, uv x.b, uv x.c, uv x.d]]⟩) ?_ ?_
 ·skip
  refine zc8 ["math/bits.RotateLeft64"] (by kernel_rfl) (r_b 12 [(12, pv 0 0), (11, pv 0 0), (10, uv (ad q.a q.b)), (9, uv q.b), (8, pv 0 1), (7, pv 0 0), (6, pv 0 0), (5, uv q.a), (4, pv 0 0), (3, pv 0 0), (2, pv 0 0)] [cw [uv (ad q.a q.b), uv q.b, uv q.c, uv q.d]] (by kernel_rfl) (zcB (⟨⟨reg [(0, pv 0 0)], [cw [uv (Q4.mk (ad q.a q.b) q.b q.c q.d).a, uv (Q4.mk (ad q.a q.b) q.b q.c q.d).b, uv (Q4.mk (ad q.a q.b) q.b q.c q.d).c, uv (Q4.mk (ad q.a q.b) q.b q.c q.d).d]]⟩, ?_⟩)))
  refine ⟨?_, ?_⟩
  ·exact Wk.ren [0] rfl rfl (by decide) ⟨rfl, trivial⟩ ⟨.inl rfl, trivial⟩
  ·exact ⟨(Q4.mk (ad q.a q.b) q.b q.c q.d), rfl, rfl, rfl⟩
 rintro s ⟨x, -, hx, rfl⟩
 refine gcut (fun s => ∃ (x : Q4), 0 = 0 ∧ (x = rs2 q) ∧ s = ⟨reg [(0, pv 0 0)], [cw [uv x.a, uv x.b, uv x.c, uv x.d]]⟩) ?_ ?_
 ·skip
  refine zc8 ["math/bits.RotateLeft64"] (by kernel_rfl) (r_d 5 [(17, uv x.b), (16, pv 0 1), (15, pv 0 0), (14, pv 0 0), (13, pv 0 0)] (by kernel_rfl) (r_cl (zhK (rot13C h_math_bits_RotateLeft64 x.b) rfl rfl rfl (r_b 8 [(25, pv 0 1), (24, pv 0 0), (23, uv (xo (zdq 8192 2251799813685248 x.b) x.a)), (22, uv x.a), (21, pv 0 0), (20, pv 0 0), (19, pv 0 0)] [cw [uv x.a, uv (xo (zdq 8192 2251799813685248 x.b) x.a), uv x.c, uv x.d]] (by kernel_rfl) (zcB (⟨⟨reg [(0, pv 0 0)], [cw [uv (Q4.mk x.a (xo (zdq 8192 2251799813685248 x.b) x.a) x.c x.d).a, uv (Q4.mk x.a (xo (zdq 8192 2251799813685248 x.b) x.a) x.c x.d).b, uv (Q4.mk x.a (xo (zdq 8192 2251799813685248 x.b) x.a) x.c x.d).c, uv (Q4.mk x.a (xo (zdq 8192 2251799813685248 x.b) x.a) x.c x.d).d]]⟩, ?_⟩))))))
  refine ⟨?_, ?_⟩
  ·exact Wk.ren [0] rfl rfl (by decide) ⟨rfl, trivial⟩ ⟨.inl rfl, trivial⟩
  ·exact ⟨(Q4.mk x.a (xo (zdq 8192 2251799813685248 x.b) x.a) x.c x.d), rfl, (by rw [hx]; rfl), rfl⟩
 rintro s ⟨x, -, hx, rfl⟩
 refine gcut (fun s => ∃ (x : Q4), 0 = 0 ∧ (x = rs3 q) ∧ s = ⟨reg [(0, pv 0 0)], [cw [uv x.a, uv x.b, uv x.c, uv x.d]]⟩) ?_ ?_
 ·skip
  refine zU (o_d 5 [(30, uv x.a), (29, pv 0 0), (28, pv 0 0), (27, pv 0 0), (26, pv 0 0)] (by kernel_rfl) (zb8 (zda (rot32C h_math_bits_RotateLeft64 x.a) rfl rfl rfl (o_b 3 [(33, pv 0 0), (32, pv 0 0)] [cw [uv (zdq 4294967296 4294967296 x.a), uv x.b, uv x.c, uv x.d]] (by kernel_rfl) (zF (⟨⟨reg [(0, pv 0 0)], [cw [uv (Q4.mk (zdq 4294967296 4294967296 x.a) x.b x.c x.d).a, uv (Q4.mk (zdq 4294967296 4294967296 x.a) x.b x.c x.d).b, uv (Q4.mk (zdq 4294967296 4294967296 x.a) x.b x.c x.d).c, uv (Q4.mk (zdq 4294967296 4294967296 x.a) x.b x.c x.d).d]]⟩, ?_⟩))))))
  refine ⟨?_, ?_⟩
  ·exact Wk.ren [0] rfl rfl (by decide) ⟨rfl, trivial⟩ ⟨.inl rfl, trivial⟩
  ·exact ⟨(Q4.mk (zdq 4294967296 4294967296 x.a) x.b x.c x.d), rfl, (by rw [hx]; rfl), rfl⟩
 rintro s ⟨x, -, hx, rfl⟩
 refine gcut (fun s => ∃ (x : Q4), 0 = 0 ∧ (x = rs4 q) ∧ s = ⟨reg [(0, pv 0 0)], [cw [uv x.a, uv x.b, uv x.c, uv x.d]]⟩) ?_ ?_
 ·skip
  refine zc8 ["math/bits.RotateLeft64"] (by kernel_rfl) (r_b 12 [(44, pv 0 2), (43, pv 0 0), (42, uv (ad x.c x.d)), (41, uv x.d), (40, pv 0 3), (39, pv 0 0), (38, pv 0 0), (37, uv x.c), (36, pv 0 2), (35, pv 0 0), (34, pv 0 0)] [cw [uv x.a, uv x.b, uv (ad x.c x.d), uv x.d]] (by kernel_rfl) (zcB (⟨⟨reg [(0, pv 0 0)], [cw [uv (Q4.mk x.a x.b (ad x.c x.d) x.d).a, uv (Q4.mk x.a x.b (ad x.c x.d) x.d).b, uv (Q4.mk x.a x.b (ad x.c x.d) x.d).c, uv (Q4.mk x.a x.b (ad x.c x.d) x.d).d]]⟩, ?_⟩)))
  refine ⟨?_, ?_⟩
  ·exact Wk.ren [0] rfl rfl (by decide) ⟨rfl, trivial⟩ ⟨.inl rfl, trivial⟩
  ·exact ⟨(Q4.mk x.a x.b (ad x.c x.d) x.d), rfl, (by rw [hx]; rfl), rfl⟩
 rintro s ⟨x, -, hx, rfl⟩
 refine gcut (fun s => ∃ (x : Q4), 0 = 0 ∧ (x = rs5 q) ∧ s = ⟨reg [(0, pv 0 0)], [cw [uv x.a, uv x.b, uv x.c, uv x.d]]⟩) ?_ ?_
 ·skip
  refine zc8 ["math/bits.RotateLeft64"] (by kernel_rfl) (r_d 5 [(49, uv x.d), (48, pv 0 3), (47, pv 0 0), (46, pv 0 0), (45, pv 0 0)] (by kernel_rfl) (r_cl (zhK (rot16C h_math_bits_RotateLeft64 x.d) rfl rfl rfl (r_b 8 [(57, pv 0 3), (56, pv 0 0), (55, uv (xo (zdq 65536 281474976710656 x.d) x.c)), (54, uv x.c), (53, pv 0 2), (52, pv 0 0), (51, pv 0 0)] [cw [uv x.a, uv x.b, uv x.c, uv (xo (zdq 65536 281474976710656 x.d) x.c)]] (by kernel_rfl) (zcB (⟨⟨reg [(0, pv 0 0)], [cw [uv (Q4.mk x.a x.b x.c (xo (zdq 65536 281474976710656 x.d) x.c)).a, uv (Q4.mk x.a x.b x.c (xo (zdq 65536 281474976710656 x.d) x.c)).b, uv (Q4.mk x.a x.b x.c (xo (zdq 65536 281474976710656 x.d) x.c)).c, uv (Q4.mk x.a x.b x.c (xo (zdq 65536 281474976710656 x.d) x.c)).d]]⟩, ?_⟩))))))
  refine ⟨?_, ?_⟩
  ·exact Wk.ren [0] rfl rfl (by decide) ⟨rfl, trivial⟩ ⟨.inl rfl, trivial⟩
  ·exact ⟨(Q4.mk x.a x.b x.c (xo (zdq 65536 281474976710656 x.d) x.c)), rfl, (by rw [hx]; rfl), rfl⟩
 rintro s ⟨x, -, hx, rfl⟩
 refine gcut (fun s => ∃ (x : Q4), 0 = 0 ∧ (x = rs6 q) ∧ s = ⟨reg [(0, pv 0 0)], [cw [uv x.a, uv x.b, uv x.c, uv x.d]]⟩) ?_ ?_
 ·skip
  refine zc8 ["math/bits.RotateLeft64"] (by kernel_rfl) (r_b 12 [(68, pv 0 0), (67, pv 0 0), (66, uv (ad x.a x.d)), (65, uv x.d), (64, pv 0 3), (63, pv 0 0), (62, pv 0 0), (61, uv x.a), (60, pv 0 0), (59, pv 0 0), (58, pv 0 0)] [cw [uv (ad x.a x.d), uv x.b, uv x.c, uv x.d]] (by kernel_rfl) (zcB (⟨⟨reg [(0, pv 0 0)], [cw [uv (Q4.mk (ad x.a x.d) x.b x.c x.d).a, uv (Q4.mk (ad x.a x.d) x.b x.c x.d).b, uv (Q4.mk (ad x.a x.d) x.b x.c x.d).c, uv (Q4.mk (ad x.a x.d) x.b x.c x.d).d]]⟩, ?_⟩)))
  refine ⟨?_, ?_⟩
  ·exact Wk.ren [0] rfl rfl (by decide) ⟨rfl, trivial⟩ ⟨.inl rfl, trivial⟩
  ·exact ⟨(Q4.mk (ad x.a x.d) x.b x.c x.d), rfl, (by rw [hx]; rfl), rfl⟩
 rintro s ⟨x, -, hx, rfl⟩
 refine gcut (fun s => ∃ (x : Q4), 0 = 0 ∧ (x = rs7 q) ∧ s = ⟨reg [(0, pv 0 0)], [cw [uv x.a, uv x.b, uv x.c, uv x.d]]⟩) ?_ ?_
 ·skip
  refine zc8 ["math/bits.RotateLeft64"] (by kernel_rfl) (r_d 5 [(73, uv x.d), (72, pv 0 3), (71, pv 0 0), (70, pv 0 0), (69, pv 0 0)] (by kernel_rfl) (r_cl (zhK (rot21C h_math_bits_RotateLeft64 x.d) rfl rfl rfl (r_b 8 [(81, pv 0 3), (80, pv 0 0), (79, uv (xo (zdq 2097152 8796093022208 x.d) x.a)), (78, uv x.a), (77, pv 0 0), (76, pv 0 0), (75, pv 0 0)] [cw [uv x.a, uv x.b, uv x.c, uv (xo (zdq 2097152 8796093022208 x.d) x.a)]] (by kernel_rfl) (zcB (⟨⟨reg [(0, pv 0 0)], [cw [uv (Q4.mk x.a x.b x.c (xo (zdq 2097152 8796093022208 x.d) x.a)).a, uv (Q4.mk x.a x.b x.c (xo (zdq 2097152 8796093022208 x.d) x.a)).b, uv (Q4.mk x.a x.b x.c (xo (zdq 2097152 8796093022208 x.d) x.a)).c, uv (Q4.mk x.a x.b x.c (xo (zdq 2097152 8796093022208 x.d) x.a)).d]]⟩, ?_⟩))))))
  refine ⟨?_, ?_⟩
  ·exact Wk.ren [0] rfl rfl (by decide) ⟨rfl, trivial⟩ ⟨.inl rfl, trivial⟩
  ·exact ⟨(Q4.mk x.a x.b x.c (xo (zdq 2097152 8796093022208 x.d) x.a)), rfl, (by rw [hx]; rfl), rfl⟩
 rintro s ⟨x, -, hx, rfl⟩
 refine gcut (fun s => ∃ (x : Q4), 0 = 0 ∧ (x = rs8 q) ∧ s = ⟨reg [(0, pv 0 0)], [cw [uv x.a, uv x.b, uv x.c, uv x.d]]⟩) ?_ ?_
 ·skip
  refine zc8 ["math/bits.RotateLeft64"] (by kernel_rfl) (r_b 12 [(92, pv 0 2), (91, pv 0 0), (90, uv (ad x.c x.b)), (89, uv x.b), (88, pv 0 1), (87, pv 0 0), (86, pv 0 0), (85, uv x.c), (84, pv 0 2), (83, pv 0 0), (82, pv 0 0)] [cw [uv x.a, uv x.b, uv (ad x.c x.b), uv x.d]] (by kernel_rfl) (zcB (⟨⟨reg [(0, pv 0 0)], [cw [uv (Q4.mk x.a x.b (ad x.c x.b) x.d).a, uv (Q4.mk x.a x.b (ad x.c x.b) x.d).b, uv (Q4.mk x.a x.b (ad x.c x.b) x.d).c, uv (Q4.mk x.a x.b (ad x.c x.b) x.d).d]]⟩, ?_⟩)))
  refine ⟨?_, ?_⟩
  ·exact Wk.ren [0] rfl rfl (by decide) ⟨rfl, trivial⟩ ⟨.inl rfl, trivial⟩
  ·exact ⟨(Q4.mk x.a x.b (ad x.c x.b) x.d), rfl, (by rw [hx]; rfl), rfl⟩
 rintro s ⟨x, -, hx, rfl⟩
 refine gcut (fun s => ∃ (x : Q4), 0 = 0 ∧ (x = rs9 q) ∧ s = ⟨reg [(0, pv 0 0)], [cw [uv x.a, uv x.b, uv x.c, uv x.d]]⟩) ?_ ?_
 ·skip
  refine zc8 ["math/bits.RotateLeft64"] (by kernel_rfl) (r_d 5 [(97, uv x.b), (96, pv 0 1), (95, pv 0 0), (94, pv 0 0), (93, pv 0 0)] (by kernel_rfl) (r_cl (zhK (rot17C h_math_bits_RotateLeft64 x.b) rfl rfl rfl (r_b 8 [(105, pv 0 1), (104, pv 0 0), (103, uv (xo (zdq 131072 140737488355328 x.b) x.c)), (102, uv x.c), (101, pv 0 2), (100, pv 0 0), (99, pv 0 0)] [cw [uv x.a, uv (xo (zdq 131072 140737488355328 x.b) x.c), uv x.c, uv x.d]] (by kernel_rfl) (zcB (⟨⟨reg [(0, pv 0 0)], [cw [uv (Q4.mk x.a (xo (zdq 131072 140737488355328 x.b) x.c) x.c x.d).a, uv (Q4.mk x.a (xo (zdq 131072 140737488355328 x.b) x.c) x.c x.d).b, uv (Q4.mk x.a (xo (zdq 131072 140737488355328 x.b) x.c) x.c x.d).c, uv (Q4.mk x.a (xo (zdq 131072 140737488355328 x.b) x.c) x.c x.d).d]]⟩, ?_⟩))))))
  refine ⟨?_, ?_⟩
  ·exact Wk.ren [0] rfl rfl (by decide) ⟨rfl, trivial⟩ ⟨.inl rfl, trivial⟩
  ·exact ⟨(Q4.mk x.a (xo (zdq 131072 140737488355328 x.b) x.c) x.c x.d), rfl, (by rw [hx]; rfl), rfl⟩
 rintro s ⟨x, -, hx, rfl⟩
 exact zU (o_d 5 [(110, uv x.c), (109, pv 0 2), (108, pv 0 0), (107, pv 0 0), (106, pv 0 0)] (by kernel_rfl) (zb8 (zda (rot32C h_math_bits_RotateLeft64 x.c) rfl rfl rfl (o_b 3 [(113, pv 0 2), (112, pv 0 0)] [cw [uv x.a, uv x.b, uv (zdq 4294967296 4294967296 x.c), uv x.d]] (by kernel_rfl) (zF (⟨trivial, ⟨reg [], [cw [uv x.a, uv x.b, uv (zdq 4294967296 4294967296 x.c), uv x.d]]⟩, Wk.ren [0] rfl rfl (by decide) trivial ⟨.inl rfl, trivial⟩, [], rfl, qB, (by rfl), (by rw [hx]; rfl)⟩))))))
end Go.Rh

set_option maxHeartbeats 8000000
namespace Go.Rh
def zcR : IFunc := ⟨10, [], (.seq (.reg [km 4 1, kq 5 (.mv (ki 0))]) (.block 0 (.loop (.seq (.reg [kq 6 (.bin .lss (.t 5) (.t 4))]) (.seq (.cond (.t 6) .skip (.exit 0)) (.seq (.block 1 (.reg [km 7 0, kq 8 (.call "(*roundhouse/sip.state).round" [(.t 7)])])) (.reg [kq 9 (.bin .add (.t 5) (ki 1)), km 5 9])))))))⟩
abbrev qM (P : Program) : Prop := zX P "(*roundhouse/sip.state).rounds" = some zcR
def zdD : IFunc := ⟨22, [], (.seq (.reg [km 4 0, kq 5 (.nilc (.t 4)), kq 6 (.fad 3 (.t 5)), kq 7 (.ld none (.t 6)), km 8 1, kq 9 (.bin .xor (.t 7) (.t 8)), kq 10 (.nilc (.t 4)), kq 11 (.fad 3 (.t 10)), ku (.st 1 (.t 11) (.t 9))]) (.seq (.reg [km 12 0, kq 13 (.call "(*roundhouse/sip.state).rounds" [(.t 12), (ki 2)])]) (.reg [km 14 0, kq 15 (.nilc (.t 14)), kq 16 (.fad 0 (.t 15)), kq 17 (.ld none (.t 16)), km 18 1, kq 19 (.bin .xor (.t 17) (.t 18)), kq 20 (.nilc (.t 14)), kq 21 (.fad 0 (.t 20)), ku (.st 1 (.t 21) (.t 19))])))⟩
abbrev zaf (P : Program) : Prop := zX P "(*roundhouse/sip.state).take" = some zdD
def zdc : IFunc := ⟨23, [.tmp 2], (.seq (.reg [kq 2 (.mv (.c (.int .u64 0)))]) (.seq (.reg [kq 3 (.mv (.c (.int .u64 0)))]) (.seq (.seq (.reg [km 5 0, kq 6 (.lenS (.t 5)), kq 7 (.mm false (.t 6) (ki 8)), kq 8 (.mv (ki 0))]) (.block 0 (.loop (.seq (.reg [kq 9 (.bin .lss (.t 8) (.t 7))]) (.seq (.cond (.t 9) .skip (.exit 0)) (.seq (.block 1 (.seq (.reg [km 10 8, km 4 10]) (.reg [km 11 3, km 12 0, km 13 4, kq 14 (.iadS 1 (.t 12) (.t 13)), kq 15 (.ld none (.t 14)), kq 16 (.cvi .u64 (.t 15)), km 17 4, kq 18 (.bin .mul (ki 8) (.t 17)), kq 19 (.bin .shl (.t 16) (.t 18)), kq 20 (.bin .or (.t 11) (.t 19)), km 3 20]))) (.reg [kq 21 (.bin .add (.t 8) (ki 1)), km 8 21]))))))) (.seq (.reg [km 22 3, km 2 22]) .ret))))⟩
abbrev qZ (P : Program) : Prop := zX P "roundhouse/sip.number[[]byte]" = some zdc
def rnds : Nat → Q4 → Q4
 | 0, q => q
 | n + 1, q => rs10 (rnds n q)
def zge (m : Int) (q : Q4) : Q4 := let x := rnds 2 ⟨q.a, q.b, q.c, xo q.d m⟩; ⟨xo x.a m, x.b, x.c, x.d⟩
theorem takeS_eq {m : Int} {q y : Q4} (h : rnds 2 (Q4.mk q.a q.b q.c (xo q.d m)) = y) : zge m q = ⟨xo y.a m, y.b, y.c, y.d⟩ := by subst h; rfl
def numT (l : List Int) : Nat → Int
 | 0 => 0
 | i + 1 => oo (numT l i) (sl (l.getD i 0 % 256) (8 * (i : Int)))
def ziP (l : List Int) : Int := numT l (min l.length 8)
theorem roundsC {P : Program} (hc : qM P) (h_sip_state_round : qO P) (h_math_bits_RotateLeft64 : zS P) (q : Q4) (n : Nat) (hn : n ≤ 1000) :
    Env P "(*roundhouse/sip.state).rounds" [pv 0 0, iv (n : Nat)] ([cw [uv q.a, uv q.b, uv q.c, uv q.d]]) (fun v h' => v = .tuple #[] ∧ h' = [cw (q4L (rnds n q))]) := by
 refine Env.by2 hc ?_
 unfold zcR
 show GC _ 1 _ _ ⟨reg [(0, pv 0 0), (1, iv (n : Nat))], [cw [uv q.a, uv q.b, uv q.c, uv q.d]]⟩
 refine zQ (zU (o_d 2 [(5, iv 0), (4, iv (n : Nat))] (by kernel_rfl) (zF (zC (zat (zen (fun μ s => ∃ (i : Nat), ∃ (x : Q4), μ = n - i ∧ (i ≤ n) ∧ (x = rnds i q) ∧ s = ⟨reg [(5, iv (i : Int)), (4, iv (n : Nat)), (0, pv 0 0)], [cw [uv x.a, uv x.b, uv x.c, uv x.d]]⟩) ⟨(n - 0), ?_⟩ ?_))))))
 ·skip
  refine ⟨⟨reg [(5, iv (0 : Int)), (4, iv (n : Nat)), (0, pv 0 0)], [cw [uv q.a, uv q.b, uv q.c, uv q.d]]⟩, ?_⟩
  refine ⟨?_, ?_⟩
  ·exact Wk.ren [0] rfl rfl (by decide) ⟨rfl, ⟨rfl, ⟨rfl, trivial⟩⟩⟩ ⟨.inl rfl, trivial⟩
  ·exact ⟨0, q, rfl, (Nat.zero_le _), rfl, rfl⟩
 rintro μ s ⟨i, x, rfl, hi, hx, rfl⟩
 refine zQ (zU (o_d 1 [(6, bv (decide ((i : Int) < (n : Nat))))] (by kernel_rfl) (zF (zC (zQ (zad (t := decide ((i : Int) < (n : Nat))) rfl (fun h1 => ?_) (fun h1 => ?_)))))))
 ·skip
  have h1' : (i : Int) < (n : Nat) := of_decide_eq_true h1
  refine zar (zC (zQ (zat (zU (o_d 1 [(7, pv 0 0)] (by kernel_rfl) (zb8 (callG [0] [cw [uv x.a, uv x.b, uv x.c, uv x.d]] [pv 0 0] (roundC h_sip_state_round h_math_bits_RotateLeft64 x) rfl rfl ⟨⟨_, rfl, zc0 rfl (fun q => rfl)⟩, trivial⟩ (by decide) ?_)))))))
  rintro v1 h1' ⟨rfl, rfl⟩
  refine ⟨.tuple #[], [cw [uv ((rs10 x).a), uv ((rs10 x).b), uv ((rs10 x).c), uv ((rs10 x).d)]], [], (by simp [zbw]), ⟨rfl, trivial⟩, trivial, ?_⟩
  generalize hy2 : rs10 x = y2
  refine zF (zC (zU (o_s (by refine zae (v := .int .i64 (i64.wrap ((i : Int) + 1))) (congrArg (Value.int .i64) (w64 (by omega) (by omega))) ?_; kernel_rfl) ?_)))
  refine o_d 1 [(5, iv ((i : Int) + 1))] (by kernel_rfl) (zF (⟨n - (i + 1), ?_⟩))
  refine ⟨⟨reg [(5, iv ((i + 1) : Int)), (4, iv (n : Nat)), (0, pv 0 0)], [cw [uv y2.a, uv y2.b, uv y2.c, uv y2.d]]⟩, ?_⟩
  refine zgA (by omega) ⟨?_, ?_⟩
  ·exact Wk.ren [0] rfl rfl (by decide) ⟨rfl, ⟨rfl, ⟨rfl, trivial⟩⟩⟩ ⟨.inl rfl, trivial⟩
  ·exact ⟨(i + 1), y2, rfl, by omega, (by rw [← hy2, hx]; rfl), rfl⟩
 have h1' : ¬ ((i : Int) < (n : Nat)) := of_decide_eq_false h1
 exact zdx (⟨trivial, ⟨reg [], [cw [uv x.a, uv x.b, uv x.c, uv x.d]]⟩, Wk.ren [0] rfl rfl (by decide) trivial ⟨.inl rfl, trivial⟩, [], rfl, qB, rfl, (by rw [hx, show i = n by omega]; rfl)⟩)
theorem takeC {P : Program} (hc : zaf P) (h_sip_state_rounds : qM P) (h_sip_state_round : qO P) (h_math_bits_RotateLeft64 : zS P) (q : Q4) (m : Int) :
    Env P "(*roundhouse/sip.state).take" [pv 0 0, uv m] ([cw [uv q.a, uv q.b, uv q.c, uv q.d]]) (fun v h' => v = .tuple #[] ∧ h' = [cw (q4L (zge m q))]) := by
 refine Env.by2 hc ?_
 unfold zdD
 show GC _ 1 _ _ ⟨reg [(0, pv 0 0), (1, uv m)], [cw [uv q.a, uv q.b, uv q.c, uv q.d]]⟩
 refine zQ (zU (o_b 9 [(11, pv 0 3), (10, pv 0 0), (9, uv (xo q.d m)), (8, uv m), (7, uv q.d), (6, pv 0 3), (5, pv 0 0), (4, pv 0 0)] [cw [uv q.a, uv q.b, uv q.c, uv (xo q.d m)]] (by kernel_rfl) (zF (zC (zQ (zU (o_d 1 [(12, pv 0 0)] (by kernel_rfl) (zb8 (callG [0] [cw [uv q.a, uv q.b, uv q.c, uv (xo q.d m)]] [pv 0 0, iv 2] (roundsC h_sip_state_rounds h_sip_state_round h_math_bits_RotateLeft64 (Q4.mk q.a q.b q.c (xo q.d m)) 2 (by decide)) rfl rfl ⟨⟨_, rfl, zc0 rfl (fun q => rfl)⟩, trivial⟩ (by decide) ?_)))))))))
 rintro v1 h1' ⟨rfl, rfl⟩
 refine ⟨.tuple #[], [cw [uv ((rnds 2 (Q4.mk q.a q.b q.c (xo q.d m))).a), uv ((rnds 2 (Q4.mk q.a q.b q.c (xo q.d m))).b), uv ((rnds 2 (Q4.mk q.a q.b q.c (xo q.d m))).c), uv ((rnds 2 (Q4.mk q.a q.b q.c (xo q.d m))).d)]], [], (by simp [zbw]), ⟨rfl, trivial⟩, trivial, ?_⟩
 generalize hy1 : rnds 2 (Q4.mk q.a q.b q.c (xo q.d m)) = y1
 exact zF (zC (zU (o_b 9 [(21, pv 0 0), (20, pv 0 0), (19, uv (xo y1.a m)), (18, uv m), (17, uv y1.a), (16, pv 0 0), (15, pv 0 0), (14, pv 0 0)] [cw [uv (xo y1.a m), uv y1.b, uv y1.c, uv y1.d]] (by kernel_rfl) (zF (⟨trivial, ⟨reg [], [cw [uv (xo y1.a m), uv y1.b, uv y1.c, uv y1.d]]⟩, Wk.ren [0] rfl rfl (by decide) trivial ⟨.inl rfl, trivial⟩, [], rfl, qB, rfl, (by rw [takeS_eq hy1]; rfl)⟩)))))
theorem numberC {P : Program} (hc : qZ P) (q : Option (Nat × Nat)) (L l : List Int) (hr : RowOf q L l) (hl : l.length ≤ 100000) :
    Env P "roundhouse/sip.number[[]byte]" [zeM q 0 l.length] ([zej q (u8 L) false]) (fun v h' => v = uv (ziP l) ∧ h' = [zej q (u8 L) false]) := by
 refine Env.by2 hc ?_
 unfold zdc
 show GC _ 1 _ _ ⟨reg [(0, zeM q 0 l.length)], [zej q (u8 L) false]⟩
 refine zQ (zU (o_d 1 [(2, uv 0)] (by kernel_rfl) (zF (zC (zQ (zU (o_d 1 [(3, uv 0)] (by kernel_rfl) (zF (zC (zQ (zQ (zU ?_))))))))))))
 refine o_d 1 [(5, zeM q 0 l.length)] (by kernel_rfl) (o_s (by exact zg9 rfl hr.nil) ?_)
 refine o_d 2 [(8, iv 0), (7, iv (if (8 : Int) < ((l.length : Nat) : Int) then (8 : Int) else ((l.length : Nat) : Int)))] (by kernel_rfl) (zF (zC (zat (zen (fun μ s => ∃ (i : Nat), ∃ (x : Int), μ = 8 - i ∧ (i ≤ l.length ∧ i ≤ 8) ∧ (x = numT l i) ∧ s = ⟨reg [(8, iv (i : Int)), (7, iv (if (8 : Int) < ((l.length : Nat) : Int) then (8 : Int) else ((l.length : Nat) : Int))), (3, uv x), (0, zeM q 0 l.length)], [zej q (u8 L) false]⟩) ⟨(8 - 0), ?_⟩ ?_))))
 ·skip
  refine ⟨⟨reg [(8, iv (0 : Int)), (7, iv (if (8 : Int) < ((l.length : Nat) : Int) then (8 : Int) else ((l.length : Nat) : Int))), (3, uv 0), (0, zeM q 0 l.length)], [zej q (u8 L) false]⟩, ?_⟩
  refine ⟨?_, ?_⟩
  ·exact Wk.ren [0] rfl rfl (by decide) ⟨rfl, ⟨rfl, ⟨rfl, ⟨((zcL rfl)).trans rfl, trivial⟩⟩⟩⟩ ⟨.inl (zfN (zf6 _)), trivial⟩
  ·exact ⟨0, 0, rfl, ⟨Nat.zero_le _, Nat.zero_le _⟩, rfl, rfl⟩
 rintro μ s ⟨i, x, rfl, hi, hx, rfl⟩
 refine zQ (zU (o_d 1 [(9, bv (decide ((i : Int) < (if (8 : Int) < ((l.length : Nat) : Int) then (8 : Int) else ((l.length : Nat) : Int)))))] (by kernel_rfl) (zF (zC (zQ (zad (t := decide ((i : Int) < (if (8 : Int) < ((l.length : Nat) : Int) then (8 : Int) else ((l.length : Nat) : Int)))) rfl (fun h1 => ?_) (fun h1 => ?_)))))))
 ·skip
  have h1' : (i : Int) < (if (8 : Int) < ((l.length : Nat) : Int) then (8 : Int) else ((l.length : Nat) : Int)) := of_decide_eq_true h1
  have h9 : i < l.length ∧ i < 8 := by split at h1' <;> omega
  refine zar (zC (zQ (zat (zQ (zU (o_d 2 [(4, iv (i : Int)), (10, iv (i : Int))] (by kernel_rfl) (zF (zC (zU (o_d 3 [(13, iv (i : Int)), (12, zeM q 0 l.length), (11, uv x)] (by kernel_rfl) (o_s (by exact run_iadRow (o' := qo q + i) rfl hr.nil rfl (by omega) (by omega)) ?_)))))))))))
  refine o_s (by refine zZ (v := .int .u8 (l.getD i 0 % 256)) rfl (hf_row2 (n := l.length) rfl rfl hr.nil (by omega)) ?_; exact row_r hr (by omega) rfl) ?_
  refine o_s (by refine zae (v := .int .u64 (IntKind.u64.wrap (l.getD i 0 % 256))) (congrArg (Value.int .u64) (wrap_u64 (by omega))) ?_; kernel_rfl) ?_
  refine o_d 1 [(17, iv (i : Int))] (by kernel_rfl) (o_s (by refine zae (v := .int .i64 (i64.wrap (8 * (i : Int)))) (congrArg (Value.int .i64) (w64 (by omega) (by omega))) ?_; kernel_rfl) ?_)
  refine o_d 3 [(3, uv (oo x (sl (l.getD i 0 % 256) (8 * (i : Int))))), (20, uv (oo x (sl (l.getD i 0 % 256) (8 * (i : Int))))), (19, uv (sl (l.getD i 0 % 256) (8 * (i : Int))))] (by kernel_rfl) (zF (zC (zU (o_s (by refine zae (v := .int .i64 (i64.wrap ((i : Int) + 1))) (congrArg (Value.int .i64) (w64 (by omega) (by omega))) ?_; kernel_rfl) ?_))))
  refine o_d 1 [(8, iv ((i : Int) + 1))] (by kernel_rfl) (zF (⟨8 - (i + 1), ?_⟩))
  refine ⟨⟨reg [(8, iv ((i + 1) : Int)), (7, iv (if (8 : Int) < ((l.length : Nat) : Int) then (8 : Int) else ((l.length : Nat) : Int))), (3, uv (oo x (sl (l.getD i 0 % 256) (8 * (i : Int))))), (0, zeM q 0 l.length)], [zej q (u8 L) false]⟩, ?_⟩
  refine zgA (by omega) ⟨?_, ?_⟩
  ·exact Wk.ren [0] rfl rfl (by decide) ⟨rfl, ⟨rfl, ⟨rfl, ⟨((zcL rfl)).trans rfl, trivial⟩⟩⟩⟩ ⟨.inl (zfN (zf6 _)), trivial⟩
  ·exact ⟨(i + 1), (oo x (sl (l.getD i 0 % 256) (8 * (i : Int)))), rfl, by omega, (by rw [hx]; rfl), rfl⟩
 have h1' : ¬ ((i : Int) < (if (8 : Int) < ((l.length : Nat) : Int) then (8 : Int) else ((l.length : Nat) : Int))) := of_decide_eq_false h1
 have h9 : ¬ (i < l.length ∧ i < 8) := by split at h1' <;> omega
 refine zdx (zC (zQ (zU (o_d 2 [(2, uv x), (22, uv x)] (by kernel_rfl) (zF (zC (zaZ ?_)))))))
 have hi9 : True := trivial
 exact ⟨trivial, ⟨reg [(2, uv x)], [zej q (u8 L) false]⟩, Wk.ren [0] rfl rfl (by decide) ⟨rfl, trivial⟩ ⟨.inl (zfN (zf6 _)), trivial⟩, [uv x], (qD rfl rfl), (zV rfl qB), (congrArg (Value.int .u64) (hx.trans (congrArg (numT l) (by omega : i = min l.length 8)))), rfl⟩
end Go.Rh

set_option maxHeartbeats 1000000
namespace Go.Rh
def c_sip_Of : IFunc := ⟨69, [.tmp 4], (.seq (.reg [kq 2 (.box (.t 0)), kq 4 (.mv (.c (.int .u64 0)))]) (.seq (.reg [kq 7 (.fad 0 (.t 2)), kq 8 (.ld none (.t 7)), kq 9 (.bin .xor (.t 8) (.c (.int .u64 8317987319222330741))), kq 10 (.fad 1 (.t 2)), kq 11 (.ld none (.t 10)), kq 12 (.bin .xor (.t 11) (.c (.int .u64 7237128888997146477))), kq 13 (.fad 0 (.t 2)), kq 14 (.ld none (.t 13)), kq 15 (.bin .xor (.t 14) (.c (.int .u64 7816392313619706465))), kq 16 (.fad 1 (.t 2)), kq 17 (.ld none (.t 16)), kq 18 (.bin .xor (.t 17) (.c (.int .u64 8387220255154660723))), kq 19 (.bld [(4, (.int .u64 0))] [(0, 1, (.t 9)), (1, 1, (.t 12)), (2, 1, (.t 15)), (3, 1, (.t 18))]), kq 20 (.box (.t 19)), km 5 20]) (.seq (.reg [km 21 1, km 6 21]) (.seq (.block 0 (.loop (.seq (.seq (.reg [km 22 6, kq 23 (.lenS (.t 22)), kq 24 (.bin .geq (.t 23) (ki 8))]) (.cond (.t 24) .skip (.exit 0))) (.block 1 (.seq (.reg [km 25 5, km 26 6, kq 27 (.slcS 1 (.t 26) none (some (ki 8)) none), kq 28 (.call "roundhouse/sip.number[[]byte]" [(.t 27)]), kq 29 (.call "(*roundhouse/sip.state).take" [(.t 25), (.t 28)])]) (.reg [km 30 6, kq 31 (.slcS 1 (.t 30) (some (ki 8)) none none), km 6 31])))))) (.seq (.reg [km 32 5, km 33 6, kq 34 (.call "roundhouse/sip.number[[]byte]" [(.t 33)]), km 35 1, kq 36 (.lenS (.t 35)), kq 37 (.cvi .u64 (.t 36)), kq 38 (.bin .shl (.t 37) (.c (.int .u64 56))), kq 39 (.bin .or (.t 34) (.t 38)), kq 40 (.call "(*roundhouse/sip.state).take" [(.t 32), (.t 39)])]) (.seq (.reg [km 41 5, kq 42 (.nilc (.t 41)), kq 43 (.fad 2 (.t 42)), kq 44 (.ld none (.t 43)), kq 45 (.bin .xor (.t 44) (.c (.int .u64 255))), kq 46 (.nilc (.t 41)), kq 47 (.fad 2 (.t 46)), ku (.st 1 (.t 47) (.t 45))]) (.seq (.reg [km 48 5, kq 49 (.call "(*roundhouse/sip.state).rounds" [(.t 48), (ki 4)])]) (.seq (.dreg [km 50 5, kq 51 (.nilc (.t 50)), kq 52 (.fad 0 (.t 51)), kq 53 (.ld none (.t 52)), km 54 5, kq 55 (.nilc (.t 54)), kq 56 (.fad 1 (.t 55)), kq 57 (.ld none (.t 56)), kq 58 (.bin .xor (.t 53) (.t 57)), km 59 5, kq 60 (.nilc (.t 59)), kq 61 (.fad 2 (.t 60)), kq 62 (.ld none (.t 61)), kq 63 (.bin .xor (.t 58) (.t 62)), km 64 5, kq 65 (.nilc (.t 64)), kq 66 (.fad 3 (.t 65)), kq 67 (.ld none (.t 66)), kq 68 (.bin .xor (.t 63) (.t 67)), km 4 68] [[], [0], [1, 0], [2, 1, 0], [], [4], [5, 4], [6, 5, 4], [3, 2, 1, 0, 7, 6, 5, 4], [], [9], [10, 9], [11, 10, 9], [8, 3, 2, 1, 0, 7, 6, 5, 4, 12, 11, 10, 9], [], [14], [15, 14], [16, 15, 14], [13, 8, 3, 2, 1, 0, 7, 6, 5, 4, 12, 11, 10, 9, 17, 16, 15, 14], [18, 13, 8, 3, 2, 1, 0, 7, 6, 5, 4, 12, 11, 10, 9, 17, 16, 15, 14]]) .ret))))))))⟩
abbrev zcp (P : Program) : Prop := zX P "roundhouse/sip.Of" = some c_sip_Of
def sipT (l : List Int) : Nat → Q4 → Q4
 | 0, q => q
 | i + 1, q => zge (ziP ((l.drop (8 * i)).take 8)) (sipT l i q)
def c255 (y : Q4) : Q4 := ⟨y.a, y.b, xo y.c 255, y.d⟩
def fin4 (z : Q4) : Int := xo (xo (xo z.a z.b) z.c) z.d
def sip0 (ka kb : Int) : Q4 := (Q4.mk (xo ka 8317987319222330741) (xo kb 7237128888997146477) (xo ka 7816392313619706465) (xo kb 8387220255154660723))
def ofS (ka kb : Int) (l : List Int) : Int := fin4 (rnds 4 (c255 (zge (oo (ziP (l.drop (8 * (l.length / 8)))) (sl ((l.length : Int) % 18446744073709551616) 56)) (sipT l (l.length / 8) (sip0 ka kb)))))
theorem drop8 {l l2 l3 : List Int} {i : Nat} (h : l2 = l.drop (8 * i)) (h3 : l3 = (l2.drop 8).take (l2.length - 8)) : l3 = l.drop (8 * (i + 1)) := by
 rw [h3, List.take_of_length_le (by simp), h, List.drop_drop]; congr 1
theorem ofS_eq {ka kb s : Int} {l l2 : List Int} {i : Nat} {x y z : Q4} (hi : i = l.length / 8) (hx : x = sipT l i (Q4.mk (xo ka 8317987319222330741) (xo kb 7237128888997146477) (xo ka 7816392313619706465) (xo kb 8387220255154660723))) (hl : l2 = l.drop (8 * i)) (hs : s = sl ((l.length : Int) % 18446744073709551616) 56) (hy : zge (oo (ziP l2) s) x = y) (hz : rnds 4 (Q4.mk y.a y.b (xo y.c 255) y.d) = z) : xo (xo (xo z.a z.b) z.c) z.d = ofS ka kb l := by
 subst hi; subst hx; subst hl; subst hs; subst hy; subst hz; rfl
theorem ofC {P : Program} (hc : zcp P) (h_sip_number_byte : qZ P) (h_sip_state_take : zaf P) (h_sip_state_rounds : qM P) (h_sip_state_round : qO P) (h_math_bits_RotateLeft64 : zS P) (ka kb : Int) (q : Option (Nat × Nat)) (L l : List Int) (hr : RowOf q L l) (hl : l.length ≤ 100000) :
    Env P "roundhouse/sip.Of" [.agg #[uv ka, uv kb], zeM q 0 l.length] ([zej q (u8 L) false]) (fun v h' => v = uv (ofS ka kb l) ∧ h' = [zej q (u8 L) false]) := by
 refine Env.by2 hc ?_
 unfold c_sip_Of
 show GC _ 1 _ _ ⟨reg [(0, .agg #[uv ka, uv kb]), (1, zeM q 0 l.length)], [zej q (u8 L) false]⟩
 refine zQ (zU (o_b 2 [(4, uv 0), (2, pv 1 0)] [zej q (u8 L) false, cw [uv ka, uv kb]] (by kernel_rfl) (zF (zC (zQ (zU (o_b 15 [(5, pv 2 0), (20, pv 2 0), (19, .agg #[uv (xo ka 8317987319222330741), uv (xo kb 7237128888997146477), uv (xo ka 7816392313619706465), uv (xo kb 8387220255154660723)]), (18, uv (xo kb 8387220255154660723)), (17, uv kb), (16, pv 1 1), (15, uv (xo ka 7816392313619706465)), (14, uv ka), (13, pv 1 0), (12, uv (xo kb 7237128888997146477)), (11, uv kb), (10, pv 1 1), (9, uv (xo ka 8317987319222330741)), (8, uv ka), (7, pv 1 0)] [zej q (u8 L) false, cw [uv ka, uv kb], cw [uv (xo ka 8317987319222330741), uv (xo kb 7237128888997146477), uv (xo ka 7816392313619706465), uv (xo kb 8387220255154660723)]] (by kernel_rfl) (zF (zC (zQ (zU (o_d 2 [(6, zeM q 0 l.length), (21, zeM q 0 l.length)] (by kernel_rfl) ?_))))))))))))
 refine zF (zC (zQ (zat (zen (fun μ s => ∃ (i : Nat), ∃ (q2 : Option (Nat × Nat)), ∃ (l2 : List Int), ∃ (x : Q4), μ = l.length - i ∧ (8 * i ≤ l.length) ∧ (l2 = l.drop (8 * i)) ∧ (x = sipT l i (Q4.mk (xo ka 8317987319222330741) (xo kb 7237128888997146477) (xo ka 7816392313619706465) (xo kb 8387220255154660723))) ∧ (RowOf q2 L l2) ∧ (q2.isSome = q.isSome) ∧ s = ⟨reg [(6, zeM q2 0 l2.length), (5, pv 2 0), (1, zeM q 0 l.length)], [zej q (u8 L) false, cw [uv ka, uv kb], cw [uv x.a, uv x.b, uv x.c, uv x.d]]⟩) ⟨(l.length - 0), ?_⟩ ?_))))
 ·skip
  refine ⟨⟨reg [(6, zeM q 0 l.length), (5, pv 2 0), (1, zeM q 0 l.length)], [zej q (u8 L) false, cw [uv ka, uv kb], cw [uv (Q4.mk (xo ka 8317987319222330741) (xo kb 7237128888997146477) (xo ka 7816392313619706465) (xo kb 8387220255154660723)).a, uv (Q4.mk (xo ka 8317987319222330741) (xo kb 7237128888997146477) (xo ka 7816392313619706465) (xo kb 8387220255154660723)).b, uv (Q4.mk (xo ka 8317987319222330741) (xo kb 7237128888997146477) (xo ka 7816392313619706465) (xo kb 8387220255154660723)).c, uv (Q4.mk (xo ka 8317987319222330741) (xo kb 7237128888997146477) (xo ka 7816392313619706465) (xo kb 8387220255154660723)).d]]⟩, ?_⟩
  refine ⟨?_, ?_⟩
  ·exact Wk.ren [0, 1, 2] rfl rfl (by decide) ⟨((zcL rfl)).trans rfl, ⟨rfl, ⟨((zcL rfl)).trans rfl, trivial⟩⟩⟩ ⟨.inl (zfN (zf6 _)), ⟨.inl rfl, ⟨.inl rfl, trivial⟩⟩⟩
  ·exact ⟨0, q, l, (Q4.mk (xo ka 8317987319222330741) (xo kb 7237128888997146477) (xo ka 7816392313619706465) (xo kb 8387220255154660723)), rfl, (by omega), rfl, rfl, hr, rfl, rfl⟩
 rintro μ s ⟨i, q2, l2, x, rfl, hi, hl2, hx, hr2, hs2, rfl⟩
 have hn2 : l2.length = l.length - 8 * i := by rw [hl2]; simp
 refine zQ (zQ (zU (o_d 1 [(22, zeM q2 0 l2.length)] (by kernel_rfl) (o_s (by exact zg9 rfl hr2.nil) ?_))))
 refine o_d 1 [(24, bv (decide (((l2.length : Nat) : Int) ≥ 8)))] (by kernel_rfl) (zF (zC (zad (t := decide (((l2.length : Nat) : Int) ≥ 8)) rfl (fun h1 => ?_) (fun h1 => ?_))))
 ·skip
  have h1' : ((l2.length : Nat) : Int) ≥ 8 := of_decide_eq_true h1
  refine zar (zC (zat (zQ (zU (o_d 2 [(26, zeM q2 0 l2.length), (25, pv 2 0)] (by kernel_rfl) ?_)))))
  obtain ⟨qz2, lz2, hlz2, hn2z, hq2z, hr2z, hs2z⟩ := row_slc (k := 0) hr2 (lo := none) (hi := (some (iv 8))) (mx := none) 0 8 (by omega) (.inl ⟨rfl, rfl⟩) (.inr rfl) (.inl rfl)
  have hs2y := hs2z.trans hs2
  refine o_s (by exact zi7 rfl hq2z) ?_
  refine zb8 (callN [0] [zej qz2 (u8 L) false] [zeM qz2 0 lz2.length] (numberC h_sip_number_byte qz2 L lz2 hr2z (by omega)) rfl (zaG (zcL rfl) rfl) ⟨⟨_, rfl, zid (zf6 _) hs2y (fun q => q)⟩, trivial⟩ (by decide) ?_)
  rintro v1 h1' ⟨rfl, rfl⟩
  refine ⟨zix [_] [], uv (ziP lz2), [zej q (u8 L) false, cw [uv ka, uv kb], cw [uv x.a, uv x.b, uv x.c, uv x.d]], [], rfl, ⟨(over_row hs2y rfl), ⟨rfl, ⟨rfl, trivial⟩⟩⟩, trivial, ?_⟩
  refine zb8 (callG [2] [cw [uv x.a, uv x.b, uv x.c, uv x.d]] [pv 0 0, uv (ziP lz2)] (takeC h_sip_state_take h_sip_state_rounds h_sip_state_round h_math_bits_RotateLeft64 x (ziP lz2)) rfl rfl ⟨⟨_, rfl, zc0 rfl (fun q => rfl)⟩, trivial⟩ (by decide) ?_)
  rintro v1 h1' ⟨rfl, rfl⟩
  refine ⟨.tuple #[], [zej q (u8 L) false, cw [uv ka, uv kb], cw [uv ((zge (ziP lz2) x).a), uv ((zge (ziP lz2) x).b), uv ((zge (ziP lz2) x).c), uv ((zge (ziP lz2) x).d)]], [], (by simp [zbw]), ⟨rfl, ⟨rfl, ⟨rfl, trivial⟩⟩⟩, trivial, ?_⟩
  generalize hy3 : zge (ziP lz2) x = y3
  refine zF (zC (zU (o_d 1 [(30, zeM q2 0 l2.length)] (by kernel_rfl) ?_)))
  obtain ⟨qz4, lz4, hlz4, hn4z, hq4z, hr4z, hs4z⟩ := row_slc (k := 0) hr2 (lo := (some (iv 8))) (hi := none) (mx := none) 8 l2.length (by omega) (.inr rfl) (.inl ⟨rfl, rfl, rfl⟩) (.inl rfl)
  have hs4y := hs4z.trans hs2
  refine o_s (by exact zi7 rfl hq4z) ?_
  refine o_d 1 [(6, zeM qz4 0 lz4.length)] (by kernel_rfl) (zF (⟨l.length - (i + 1), ?_⟩))
  refine ⟨⟨reg [(6, zeM qz4 0 lz4.length), (5, pv 2 0), (1, zeM q 0 l.length)], [zej q (u8 L) false, cw [uv ka, uv kb], cw [uv y3.a, uv y3.b, uv y3.c, uv y3.d]]⟩, ?_⟩
  refine zgA (by omega) ⟨?_, ?_⟩
  ·exact Wk.ren [0, 1, 2] rfl rfl (by decide) ⟨((zcL rfl)).trans rfl, ⟨rfl, ⟨((zcL rfl)).trans rfl, trivial⟩⟩⟩ ⟨.inl (zfN (zf6 _)), ⟨.inl rfl, ⟨.inl rfl, trivial⟩⟩⟩
  ·exact ⟨(i + 1), qz4, lz4, y3, rfl, (by omega), (drop8 hl2 hlz4), (by rw [← hy3, hlz2, hx, hl2]; rfl), hr4z, hs4y, rfl⟩
 have h1' : ¬ (((l2.length : Nat) : Int) ≥ 8) := of_decide_eq_false h1
 refine zdx (zC (zQ (zU (o_d 2 [(33, zeM q2 0 l2.length), (32, pv 2 0)] (by kernel_rfl) (zb8 (callN [0] [zej q2 (u8 L) false] [zeM q2 0 l2.length] (numberC h_sip_number_byte q2 L l2 hr2 (by omega)) rfl (zaG (zcL rfl) rfl) ⟨⟨_, rfl, zid (zf6 _) hs2 (fun q => q)⟩, trivial⟩ (by decide) ?_))))))
 rintro v1 h1' ⟨rfl, rfl⟩
 refine ⟨zix [_] [], uv (ziP l2), [zej q (u8 L) false, cw [uv ka, uv kb], cw [uv x.a, uv x.b, uv x.c, uv x.d]], [], rfl, ⟨(over_row hs2 rfl), ⟨rfl, ⟨rfl, trivial⟩⟩⟩, trivial, ?_⟩
 refine o_d 1 [(35, zeM q 0 l.length)] (by kernel_rfl) (o_s (by exact zg9 rfl hr.nil) ?_)
 refine o_d 3 [(39, uv (oo (ziP l2) (sl (((l.length : Nat) : Int) % 18446744073709551616) 56))), (38, uv (sl (((l.length : Nat) : Int) % 18446744073709551616) 56)), (37, uv (((l.length : Nat) : Int) % 18446744073709551616))] (by kernel_rfl) (zb8 (callG [2] [cw [uv x.a, uv x.b, uv x.c, uv x.d]] [pv 0 0, uv (oo (ziP l2) (sl (((l.length : Nat) : Int) % 18446744073709551616) 56))] (takeC h_sip_state_take h_sip_state_rounds h_sip_state_round h_math_bits_RotateLeft64 x (oo (ziP l2) (sl (((l.length : Nat) : Int) % 18446744073709551616) 56))) rfl rfl ⟨⟨_, rfl, zc0 rfl (fun q => rfl)⟩, trivial⟩ (by decide) ?_))
 rintro v1 h1' ⟨rfl, rfl⟩
 refine ⟨.tuple #[], [zej q (u8 L) false, cw [uv ka, uv kb], cw [uv ((zge (oo (ziP l2) (sl (((l.length : Nat) : Int) % 18446744073709551616) 56)) x).a), uv ((zge (oo (ziP l2) (sl (((l.length : Nat) : Int) % 18446744073709551616) 56)) x).b), uv ((zge (oo (ziP l2) (sl (((l.length : Nat) : Int) % 18446744073709551616) 56)) x).c), uv ((zge (oo (ziP l2) (sl (((l.length : Nat) : Int) % 18446744073709551616) 56)) x).d)]], [], (by simp [zbw]), ⟨rfl, ⟨rfl, ⟨rfl, trivial⟩⟩⟩, trivial, ?_⟩
 generalize hy5 : zge (oo (ziP l2) (sl (((l.length : Nat) : Int) % 18446744073709551616) 56)) x = y5
 refine zF (zC (zQ (zU (o_b 8 [(47, pv 2 2), (46, pv 2 0), (45, uv (xo y5.c 255)), (44, uv y5.c), (43, pv 2 2), (42, pv 2 0), (41, pv 2 0)] [zej q (u8 L) false, cw [uv ka, uv kb], cw [uv y5.a, uv y5.b, uv (xo y5.c 255), uv y5.d]] (by kernel_rfl) (zF (zY [(5, pv 2 0)] (by kernel_rfl) (zQ (zU (o_d 1 [(48, pv 2 0)] (by kernel_rfl) (zb8 (callG [2] [cw [uv y5.a, uv y5.b, uv (xo y5.c 255), uv y5.d]] [pv 0 0, iv 4] (roundsC h_sip_state_rounds h_sip_state_round h_math_bits_RotateLeft64 (Q4.mk y5.a y5.b (xo y5.c 255) y5.d) 4 (by decide)) rfl rfl ⟨⟨_, rfl, zc0 rfl (fun q => rfl)⟩, trivial⟩ (by decide) ?_)))))))))))
 rintro v1 h1' ⟨rfl, rfl⟩
 refine ⟨.tuple #[], [zej q (u8 L) false, cw [uv ka, uv kb], cw [uv ((rnds 4 (Q4.mk y5.a y5.b (xo y5.c 255) y5.d)).a), uv ((rnds 4 (Q4.mk y5.a y5.b (xo y5.c 255) y5.d)).b), uv ((rnds 4 (Q4.mk y5.a y5.b (xo y5.c 255) y5.d)).c), uv ((rnds 4 (Q4.mk y5.a y5.b (xo y5.c 255) y5.d)).d)]], [], (by simp [zbw]), ⟨rfl, ⟨rfl, ⟨rfl, trivial⟩⟩⟩, trivial, ?_⟩
 generalize hy6 : rnds 4 (Q4.mk y5.a y5.b (xo y5.c 255) y5.d) = y6
 exact zF (zC (zQ (zc8 [] (by kernel_rfl) (r_d 20 [(4, uv (xo (xo (xo y6.a y6.b) y6.c) y6.d)), (68, uv (xo (xo (xo y6.a y6.b) y6.c) y6.d)), (67, uv y6.d), (66, pv 2 3), (65, pv 2 0), (64, pv 2 0), (63, uv (xo (xo y6.a y6.b) y6.c)), (62, uv y6.c), (61, pv 2 2), (60, pv 2 0), (59, pv 2 0), (58, uv (xo y6.a y6.b)), (57, uv y6.b), (56, pv 2 1), (55, pv 2 0), (54, pv 2 0), (53, uv y6.a), (52, pv 2 0), (51, pv 2 0), (50, pv 2 0)] (by kernel_rfl) (zcB (zY [(4, uv (xo (xo (xo y6.a y6.b) y6.c) y6.d))] (by kernel_rfl) (zaZ (⟨trivial, ⟨reg [(4, uv (xo (xo (xo y6.a y6.b) y6.c) y6.d))], [zej q (u8 L) false]⟩, Wk.ren [0] rfl rfl (by decide) ⟨rfl, trivial⟩ ⟨.inl (zfN (zf6 _)), trivial⟩, [uv (xo (xo (xo y6.a y6.b) y6.c) y6.d)], (qD rfl rfl), (zV rfl qB), (congrArg (Value.int .u64) (ofS_eq (i := i) (by omega) hx hl2 rfl hy5 hy6)), rfl⟩))))))))
end Go.Rh

set_option maxHeartbeats 1000000
namespace Go.Rh
def zgm : IFunc := ⟨36, [.tmp 4], (.seq (.reg [kq 2 (.box (.t 0)), kq 4 (.mv (.c (.int .u64 0)))]) (.seq (.reg [km 9 1, kq 10 (.lenS (.t 9)), kq 11 (.bin .mul (ki 8) (.t 10)), kq 12 (.mks [(1, (.int .u8 0))] 1 1 (ki 0) (.t 11)), km 5 12]) (.seq (.seq (.reg [km 13 1, kq 14 (.lenS (.t 13)), kq 15 (.mv (ki 0))]) (.block 0 (.loop (.seq (.reg [kq 16 (.bin .lss (.t 15) (.t 14))]) (.seq (.cond (.t 16) .skip (.exit 0)) (.seq (.block 1 (.seq (.reg [kq 17 (.iadS 1 (.t 13) (.t 15)), kq 18 (.ld none (.t 17)), km 7 18]) (.seq (.reg [kq 19 (.mv (ki 0))]) (.block 2 (.loop (.seq (.reg [kq 20 (.bin .lss (.t 19) (ki 8))]) (.seq (.cond (.t 20) .skip (.exit 2)) (.seq (.block 3 (.seq (.reg [km 21 19, km 8 21]) (.reg [km 22 5, km 23 7, kq 24 (.cvi .u64 (.t 23)), km 25 8, kq 26 (.bin .mul (ki 8) (.t 25)), kq 27 (.bin .shr (.t 24) (.t 26)), kq 28 (.cvi .u8 (.t 27)), kq 29 (.bsl [(1, (.int .u8 0))] 1 1 [(0, 1, (.t 28))]), kq 30 (.app [(1, (.int .u8 0))] 1 1 (.t 22) (.t 29)), km 5 30]))) (.reg [kq 31 (.bin .add (.t 19) (ki 1)), km 19 31]))))))))) (.reg [kq 32 (.bin .add (.t 15) (ki 1)), km 15 32]))))))) (.seq (.reg [kq 33 (.ld (some 2) (.t 2)), km 34 5, kq 35 (.call "roundhouse/sip.Of" [(.t 33), (.t 34)]), km 4 35]) .ret))))⟩
abbrev zbl (P : Program) : Prop := zX P "roundhouse/sip.Words" = some zgm
def wB (n : Int) : Nat → List Int
 | 0 => []
 | j + 1 => wB n j ++ [(n % 18446744073709551616).fdiv (2 ^ (min (8 * (j : Int)).toNat 64))]
def wsT (ns : List Int) : Nat → List Int
 | 0 => []
 | i + 1 => wsT ns i ++ wB (ns.getD i 0) 8
def zdh (ka kb : Int) (ns : List Int) : Int := ofS ka kb (wsT ns ns.length)
theorem wordsC {P : Program} (hc : zbl P) (h_sip_Of : zcp P) (h_sip_number_byte : qZ P) (h_sip_state_take : zaf P) (h_sip_state_rounds : qM P) (h_sip_state_round : qO P) (h_math_bits_RotateLeft64 : zS P) (ka kb : Int) (ns : List Int) (hl : ns.length ≤ 1000) :
    Env P "roundhouse/sip.Words" [.agg #[uv ka, uv kb], sv 0 0 ns.length ns.length] ([cr (ii ns)]) (fun v h' => v = uv (zdh ka kb ns) ∧ h' = [cr (ii ns)]) := by
 refine Env.by2 hc ?_
 unfold zgm
 show GC _ 1 _ _ ⟨reg [(0, .agg #[uv ka, uv kb]), (1, sv 0 0 ns.length ns.length)], [cr (ii ns)]⟩
 refine zQ (zU (o_b 2 [(4, uv 0), (2, pv 1 0)] [cr (ii ns), cw [uv ka, uv kb]] (by kernel_rfl) (zF (zC (zQ (zU (o_d 2 [(10, iv (ns.length : Nat)), (9, sv 0 0 ns.length ns.length)] (by kernel_rfl) (o_s (by refine zae (v := .int .i64 (i64.wrap (8 * (ns.length : Nat)))) (congrArg (Value.int .i64) (w64 (by omega) (by omega))) ?_; kernel_rfl) ?_))))))))
 refine o_s (by exact run_mks0 rfl rfl rfl (by omega) (by first | rfl | omega) (by decide)) ?_
 refine o_b 1 [(5, sv 2 0 0 (0 + (8 * ns.length)))] [cr (ii ns), cw [uv ka, uv kb], cw (u8 ([] : List Int) ++ zc1 zB (8 * ns.length))] (by kernel_rfl) (zF (zC (zQ (zQ (zU (o_d 3 [(15, iv 0), (14, iv (ns.length : Nat)), (13, sv 0 0 ns.length ns.length)] (by kernel_rfl) (zF (zC (zat (zen (fun μ s => ∃ (i : Nat), ∃ (bs : List Int), ∃ (n : Nat), ∃ (o : Option Nat), μ = ns.length - i ∧ (i ≤ ns.length) ∧ (bs = wsT ns i) ∧ (bs.length = n ∧ n = 8 * i) ∧ (o = none → bs.length = 0) ∧ s = ⟨reg [(15, iv (i : Int)), (14, iv (ns.length : Nat)), (13, sv 0 0 ns.length ns.length), (5, slV 2 n o), (2, pv 1 0)], [cr (ii ns), cw [uv ka, uv kb], slB zB (u8 bs) o]⟩) ⟨(ns.length - 0), ?_⟩ ?_))))))))))
 ·skip
  refine ⟨⟨reg [(15, iv (0 : Int)), (14, iv (ns.length : Nat)), (13, sv 0 0 ns.length ns.length), (5, slV 2 0 (some (8 * ns.length))), (2, pv 1 0)], [cr (ii ns), cw [uv ka, uv kb], slB zB (u8 ([] : List Int)) (some (8 * ns.length))]⟩, ?_⟩
  refine ⟨?_, ?_⟩
  ·exact Wk.ren [0, 1, 2] rfl rfl (by decide) ⟨rfl, ⟨rfl, ⟨rfl, ⟨rfl, ⟨rfl, trivial⟩⟩⟩⟩⟩ ⟨.inl (zR (zaR ns)), ⟨.inl rfl, ⟨.inl (zR (zh6 _ _)), trivial⟩⟩⟩
  ·exact ⟨0, ([] : List Int), 0, (some (8 * ns.length)), rfl, (Nat.zero_le _), rfl, ⟨rfl, rfl⟩, (fun _ => rfl), rfl⟩
 rintro μ s ⟨i, bs, n, o, rfl, hi, hbs, hn, ho, rfl⟩
 refine zQ (zU (o_d 1 [(16, bv (decide ((i : Int) < (ns.length : Nat))))] (by kernel_rfl) (zF (zC (zQ (zad (t := decide ((i : Int) < (ns.length : Nat))) rfl (fun h1 => ?_) (fun h1 => ?_)))))))
 ·skip
  have h1' : (i : Int) < (ns.length : Nat) := of_decide_eq_true h1
  obtain ⟨x, hx, hdr, ht⟩ := zfk (l := ns) (i := i) (by omega)
  have hgx : ns.getD i 0 = x := by simp [List.getD_eq_getElem?_getD, hx]
  refine zar (zC (zQ (zat (zQ (zU (o_s (by exact zhT (o := 0) (o' := i) rfl rfl (by omega) (by omega)) ?_))))))
  refine o_s (by refine zZ (v := iv x) rfl rfl ?_; exact ii_r (i := i) (by omega) hx) ?_
  refine o_d 1 [(7, iv x)] (by kernel_rfl) (zF (zC (zQ (zU (o_d 1 [(19, iv 0)] (by kernel_rfl) (zF (zC (zat (zen (fun μ s => ∃ (j : Nat), ∃ (bs2 : List Int), ∃ (n2 : Nat), ∃ (o2 : Option Nat), μ = 8 - j ∧ (j ≤ 8) ∧ (bs2 = bs ++ wB x j) ∧ (bs2.length = n2 ∧ n2 = n + j) ∧ (o2 = none → bs2.length = 0) ∧ s = ⟨reg [(19, iv (j : Int)), (7, iv x), (15, iv (i : Int)), (14, iv (ns.length : Nat)), (13, sv 0 0 ns.length ns.length), (5, slV 2 n2 o2), (2, pv 1 0)], [cr (ii ns), cw [uv ka, uv kb], slB zB (u8 bs2) o2]⟩) ⟨(8 - 0), ?_⟩ ?_)))))))))
  ·skip
   refine ⟨⟨reg [(19, iv (0 : Int)), (7, iv x), (15, iv (i : Int)), (14, iv (ns.length : Nat)), (13, sv 0 0 ns.length ns.length), (5, slV 2 n o), (2, pv 1 0)], [cr (ii ns), cw [uv ka, uv kb], slB zB (u8 bs) o]⟩, ?_⟩
   refine ⟨?_, ?_⟩
   ·exact Wk.ren [0, 1, 2] rfl rfl (by decide) ⟨rfl, ⟨rfl, ⟨rfl, ⟨rfl, ⟨rfl, ⟨((zbt o rfl)).trans rfl, ⟨rfl, trivial⟩⟩⟩⟩⟩⟩⟩ ⟨.inl (zR (zaR ns)), ⟨.inl rfl, ⟨.inl (zaM o (fun _ => (zh6 _ _))), trivial⟩⟩⟩
   ·exact ⟨0, bs, n, o, rfl, (by omega), (List.append_nil _).symm, ⟨hn.1, rfl⟩, ho, rfl⟩
  rintro μ s ⟨j, bs2, n2, o2, rfl, hj, hb2, hn2, ho2, rfl⟩
  refine zQ (zU (o_d 1 [(20, bv (decide ((j : Int) < 8)))] (by kernel_rfl) (zF (zC (zQ (zad (t := decide ((j : Int) < 8)) rfl (fun h2 => ?_) (fun h2 => ?_)))))))
  ·skip
   have h2' : (j : Int) < 8 := of_decide_eq_true h2
   refine zar (zC (zQ (zat (zQ (zU (o_d 2 [(8, iv (j : Int)), (21, iv (j : Int))] (by kernel_rfl) (zF (zC (zU (o_d 4 [(25, iv (j : Int)), (24, uv (x % 18446744073709551616)), (23, iv x), (22, slV 2 n2 o2)] (by kernel_rfl) (o_s (by refine zae (v := .int .i64 (i64.wrap (8 * (j : Int)))) (congrArg (Value.int .i64) (w64 (by omega) (by omega))) ?_; kernel_rfl) ?_)))))))))))
   refine o_b 3 [(29, sv 3 0 1 1), (28, .int .u8 (((x % 18446744073709551616).fdiv (2 ^ (min (8 * (j : Int)).toNat 64))) % 256)), (27, uv ((x % 18446744073709551616).fdiv (2 ^ (min (8 * (j : Int)).toNat 64))))] [cr (ii ns), cw [uv ka, uv kb], slB zB (u8 bs2) o2, cw [.int .u8 (((x % 18446744073709551616).fdiv (2 ^ (min (8 * (j : Int)).toNat 64))) % 256)]] (by kernel_rfl) (zio (k := 2) (n := n2) (o := o2) (q := 1) (cs := u8 bs2) (xs := [.int .u8 (((x % 18446744073709551616).fdiv (2 ^ (min (8 * (j : Int)).toNat 64))) % 256)]) (cs2 := u8 (bs2 ++ [(x % 18446744073709551616).fdiv (2 ^ (min (8 * (j : Int)).toNat 64))])) (zl := zB) rfl rfl rfl (fun m q => by subst q; rfl) (fun z => by have h0 := ho2 z; have h1 := List.eq_nil_of_length_eq_zero h0; subst h1; exact ⟨by omega, rfl⟩) (by first | exact u8_len _ | (rw [u8_length]; omega) | simp [u8]) rfl rfl (zbS rfl rfl (by simp)) (by rfl) (by omega) (by omega) (u8_app1 rfl) (fun m3 e4 => ?_) (fun m3 => ?_))
   ·skip
    subst e4
    refine o_d 1 [(5, sv 2 0 (n2 + 1) (n2 + 1 + m3))] (by kernel_rfl) (zF (zC (zU (o_s (by refine zae (v := .int .i64 (i64.wrap ((j : Int) + 1))) (congrArg (Value.int .i64) (w64 (by omega) (by omega))) ?_; kernel_rfl) ?_))))
    refine o_d 1 [(19, iv ((j : Int) + 1))] (by kernel_rfl) (zF (⟨8 - (j + 1), ?_⟩))
    refine ⟨⟨reg [(19, iv ((j + 1) : Int)), (7, iv x), (15, iv (i : Int)), (14, iv (ns.length : Nat)), (13, sv 0 0 ns.length ns.length), (5, slV 2 (n2 + 1) (some m3)), (2, pv 1 0)], [cr (ii ns), cw [uv ka, uv kb], slB zB (u8 (bs2 ++ [(x % 18446744073709551616).fdiv (2 ^ (min (8 * (j : Int)).toNat 64))])) (some m3)]⟩, ?_⟩
    refine zgA (by omega) ⟨?_, ?_⟩
    ·exact Wk.ren [0, 1, 2] rfl rfl (by decide) ⟨rfl, ⟨rfl, ⟨rfl, ⟨rfl, ⟨rfl, ⟨rfl, ⟨rfl, trivial⟩⟩⟩⟩⟩⟩⟩ ⟨.inl (zR (zaR ns)), ⟨.inl rfl, ⟨.inl (zR (zh6 _ _)), trivial⟩⟩⟩
    ·exact ⟨(j + 1), (bs2 ++ [(x % 18446744073709551616).fdiv (2 ^ (min (8 * (j : Int)).toNat 64))]), (n2 + 1), (some m3), rfl, by omega, (by rw [hb2, List.append_assoc]; rfl), (by simp only [List.length_append, List.length_singleton]; omega), (fun z => by cases z), rfl⟩
   refine o_d 1 [(5, sv 4 0 (n2 + 1) (n2 + 1 + m3))] (by kernel_rfl) (zF (zC (zU (o_s (by refine zae (v := .int .i64 (i64.wrap ((j : Int) + 1))) (congrArg (Value.int .i64) (w64 (by omega) (by omega))) ?_; kernel_rfl) ?_))))
   refine o_d 1 [(19, iv ((j : Int) + 1))] (by kernel_rfl) (zF (⟨8 - (j + 1), ?_⟩))
   refine ⟨⟨reg [(19, iv ((j + 1) : Int)), (7, iv x), (15, iv (i : Int)), (14, iv (ns.length : Nat)), (13, sv 0 0 ns.length ns.length), (5, slV 2 (n2 + 1) (some m3)), (2, pv 1 0)], [cr (ii ns), cw [uv ka, uv kb], slB zB (u8 (bs2 ++ [(x % 18446744073709551616).fdiv (2 ^ (min (8 * (j : Int)).toNat 64))])) (some m3)]⟩, ?_⟩
   refine zgA (by omega) ⟨?_, ?_⟩
   ·exact Wk.ren [0, 1, 4] rfl rfl (by decide) ⟨rfl, ⟨rfl, ⟨rfl, ⟨rfl, ⟨rfl, ⟨rfl, ⟨rfl, trivial⟩⟩⟩⟩⟩⟩⟩ ⟨.inl (zR (zaR ns)), ⟨.inl rfl, ⟨.inl (zR (zh6 _ _)), trivial⟩⟩⟩
   ·exact ⟨(j + 1), (bs2 ++ [(x % 18446744073709551616).fdiv (2 ^ (min (8 * (j : Int)).toNat 64))]), (n2 + 1), (some m3), rfl, by omega, (by rw [hb2, List.append_assoc]; rfl), (by simp only [List.length_append, List.length_singleton]; omega), (fun z => by cases z), rfl⟩
  have h2' : ¬ ((j : Int) < 8) := of_decide_eq_false h2
  refine zdx (zC (zU (o_s (by refine zae (v := .int .i64 (i64.wrap ((i : Int) + 1))) (congrArg (Value.int .i64) (w64 (by omega) (by omega))) ?_; kernel_rfl) ?_)))
  refine o_d 1 [(15, iv ((i : Int) + 1))] (by kernel_rfl) (zF (⟨ns.length - (i + 1), ?_⟩))
  refine ⟨⟨reg [(15, iv ((i + 1) : Int)), (14, iv (ns.length : Nat)), (13, sv 0 0 ns.length ns.length), (5, slV 2 n2 o2), (2, pv 1 0)], [cr (ii ns), cw [uv ka, uv kb], slB zB (u8 bs2) o2]⟩, ?_⟩
  refine zgA (by omega) ⟨?_, ?_⟩
  ·exact Wk.ren [0, 1, 2] rfl rfl (by decide) ⟨rfl, ⟨rfl, ⟨rfl, ⟨((zbt o2 rfl)).trans rfl, ⟨rfl, trivial⟩⟩⟩⟩⟩ ⟨.inl (zR (zaR ns)), ⟨.inl rfl, ⟨.inl (zaM o2 (fun _ => (zh6 _ _))), trivial⟩⟩⟩
  ·exact ⟨(i + 1), bs2, n2, o2, rfl, by omega, (by rw [hb2, show j = 8 by omega, hbs, ← hgx]; rfl), (by omega), ho2, rfl⟩
 have h1' : ¬ ((i : Int) < (ns.length : Nat)) := of_decide_eq_false h1
 refine zdx (zC (zQ (zU (o_d 2 [(34, slV 2 n o), (33, .agg #[uv ka, uv kb])] (by kernel_rfl) (zb8 (callN [2] [zej (qsl n o) (u8 (bs ++ List.replicate (o.getD 0) 0)) false] [.agg #[uv ka, uv kb], zeM (qsl n o) 0 bs.length] (ofC h_sip_Of h_sip_number_byte h_sip_state_take h_sip_state_rounds h_sip_state_round h_math_bits_RotateLeft64 ka kb (qsl n o) (bs ++ List.replicate (o.getD 0) 0) bs (row_qsl ho (by omega)) (by omega)) rfl (zaG (qK rfl) (zaG (renV_qsl o rfl (by omega)) rfl)) ⟨⟨_, rfl, sees_qsl o⟩, trivial⟩ (by decide) ?_))))))
 rintro v1 h1' ⟨rfl, rfl⟩
 refine ⟨zix [_] [], uv (ofS ka kb bs), [cr (ii ns), cw [uv ka, uv kb], slB zB (u8 bs) o], [], rfl, ⟨rfl, ⟨rfl, ⟨(over_qsl rfl), trivial⟩⟩⟩, trivial, ?_⟩
 exact o_d 1 [(4, uv (ofS ka kb bs))] (by kernel_rfl) (zF (zC (zaZ (⟨trivial, ⟨reg [(4, uv (ofS ka kb bs))], [cr (ii ns)]⟩, Wk.ren [0] rfl rfl (by decide) ⟨rfl, trivial⟩ ⟨.inl (zR (zaR ns)), trivial⟩, [uv (ofS ka kb bs)], (qD rfl rfl), (zV rfl qB), (congrArg (Value.int .u64) (congrArg (ofS ka kb) (by rw [hbs, show i = ns.length by omega]))), rfl⟩))))
end Go.Rh

namespace Go.Rh
def zI : List Value := [iv 0]
theorem zaQ (l : List Int) : (ii l).length = l.length := by simp [ii]
theorem ii_len1 (l : List Int) : (ii l).length = l.length * 1 := by simp [ii]
theorem room_zI (m : Nat) : zc1 zI m = ii (List.replicate m 0) := by
 induction m with
 | zero => rfl
 | succ n ih => simp only [zc1, List.replicate_succ, List.flatten_cons] at ih ⊢; rw [ih]; rfl
theorem ii_app (a b : List Int) : ii a ++ ii b = ii (a ++ b) := by simp [ii]
theorem zb5 (l : List Int) (m : Nat) : (ii l ++ zc1 zI m).all zbA = true := by rw [room_zI, ii_app]; exact zaR _
theorem ii_g {l : List Int} {i o : Nat} (ho : o = i) (h : i < l.length) : zaz none (ii l) o = some (iv (l.getD i 0)) :=
 ii_r ho (by simp [List.getD_eq_getElem?_getD, h])
theorem ii_w {l : List Int} {i o : Nat} {v : Int} (ho : o = i) (h : i < l.length) : splice (ii l) o [iv v] = ii (l.set i v) := by
 subst ho
 refine zc3 (by rw [zg6 (by rw [zaQ]; exact h), zaQ, zaQ, List.length_set]) fun k hk => ?_
 rw [zi3 (by rw [zaQ]; exact h)]
 simp only [ii, List.getElem?_map, List.length_singleton]
 rw [List.getElem?_set]
 by_cases hki : o = k
 ·subst hki; rw [if_pos ⟨Nat.le_refl _, by omega⟩, if_pos rfl, if_pos h]; simp
 ·rw [if_neg (by omega), if_neg hki]
theorem ii_all {l : List Int} {n : Nat} (h : l.length = n) : zaz (some n) (ii l) 0 = some (.agg ⟨ii l⟩) := by
 subst h; simp [zaz, zaQ, ← zaQ]
def eqI (a b : List Int) : Bool := decide (a = b)
theorem eqI_K : ∀ {n : Nat} {a b : List Int}, a.length = n → b.length = n → eqK (List.replicate n LK.i) (ii a) (ii b) = some (eqI a b)
 | 0, [], [], _, _ => rfl
 | n + 1, x :: a, y :: b, h1, h2 => by
  have ih := eqI_K (n := n) (a := a) (b := b) (by simpa using h1) (by simpa using h2)
  simp only [ii, List.replicate_succ, List.map_cons, eqK] at ih ⊢
  rw [ih]
  simp only [eq1K, eqI]
  by_cases hx : x = y <;> by_cases ha : a = b <;> simp [hx, ha]
 | 0, _ :: _, _, h, _ => by simp at h
 | 0, [], _ :: _, _, h => by simp at h
 | _ + 1, [], _, h, _ => by simp at h
 | _ + 1, _ :: _, [], _, h => by simp at h
theorem eqI_run {x y : Value} (a b : List Int) (ha : a.length = 127) (hb : b.length = 127) (hx : x = .agg ⟨ii a⟩) (hy : y = .agg ⟨ii b⟩) : x = .agg ⟨ii a⟩ ∧ y = .agg ⟨ii b⟩ ∧ eqK (zcH [(127, .i)]) (ii a) (ii b) = some (eqI a b) :=
 ⟨hx, hy, by rw [show zcH [(127, .i)] = List.replicate 127 LK.i by simp [zcH]]; exact eqI_K ha hb⟩
def zdr {α : Type} (f : α → List Value) (l : List α) : List Value := l.flatMap f
theorem zeO {α : Type} {f : α → List Value} {n : Nat} (hf : ∀ x, (f x).length = n) (l : List α) : (zdr f l).length = l.length * n := by
 induction l with
 | nil => simp [zdr]
 | cons x l ih => simp only [zdr, List.flatMap_cons, List.length_append, List.length_cons] at ih ⊢; rw [ih, hf, Nat.add_mul]; omega
theorem recL_app {α : Type} (f : α → List Value) (a b : List α) : zdr f a ++ zdr f b = zdr f (a ++ b) := by simp [zdr]
theorem recL_scl {α : Type} {f : α → List Value} (hf : ∀ x, (f x).all zbA = true) (l : List α) : (zdr f l).all zbA = true := by
 induction l with
 | nil => rfl
 | cons x l ih => simp only [zdr, List.flatMap_cons, List.all_append] at ih ⊢; rw [hf, ih]; rfl
theorem zil {α : Type} {f : α → List Value} {l : List α} {i : Nat} {x : α} (hx : l[i]? = some x) : zdr f l = zdr f (l.take i) ++ (f x ++ zdr f (l.drop (i + 1))) := by
 have h := zJ hx
 have : l = l.take i ++ x :: l.drop (i + 1) := by
  rw [List.getElem?_eq_getElem h] at hx; cases hx
  simp
 conv => lhs; rw [this]
 simp [zdr]
theorem rec_r {α : Type} {f : α → List Value} {n i j o : Nat} {m : Option Nat} {l : List α} {x : α} {v : Value} (hf : ∀ x, (f x).length = n) (ho : o = n * i + j) (hx : l[i]? = some x) (h : zaz m (f x) j = some v) : zaz m (zdr f l) o = some v := by
 have hl := zJ hx
 rw [zil hx, ho, zff (by rw [zeO hf, List.length_take, Nat.min_eq_left (by omega), Nat.mul_comm])]
 exact zdt h
theorem rec_w {α : Type} {f : α → List Value} {n i j o : Nat} {l : List α} {x y : α} {vs : List Value} (hf : ∀ x, (f x).length = n) (ho : o = n * i + j) (hx : l[i]? = some x) (hj : j + vs.length ≤ n) (h : splice (f x) j vs = f y) : splice (zdr f l) o vs = zdr f (l.set i y) := by
 have hl := zJ hx
 have hy : (l.set i y)[i]? = some y := by simp [hl]
 rw [zil hx, zil hy, ho, zcI (by rw [zeO hf, List.length_take, Nat.min_eq_left (by omega), Nat.mul_comm]), zee (by rw [hf]; exact hj), h]
 rw [List.take_set_of_le (Nat.le_refl _), List.drop_set_of_lt (by omega)]
structure Wl where
  (s a b w : Int)
def wlF (x : Wl) : List Value := [iv x.s, iv x.a, iv x.b, iv x.w]
def zW : List Value := [iv 0, iv 0, iv 0, iv 0]
theorem zeJ (x : Wl) : (wlF x).length = 4 := rfl
theorem zcY (l : List Wl) (m : Nat) : (zdr wlF l ++ zc1 zW m).all zbA = true := zfC (recL_scl (fun _ => rfl) l) (zhV rfl m)
theorem wl_app1 (l : List Wl) (s a b w : Int) : zdr wlF l ++ [iv s, iv a, iv b, iv w] = zdr wlF (l ++ [⟨s, a, b, w⟩]) := by rw [← recL_app]; rfl
def zbX (m : Int) (ns : List Int) : Int := zdh 0 0 ns % m
theorem xo_rng (a b : Int) : 0 ≤ xo a b ∧ xo a b < 18446744073709551616 := by
 show 0 ≤ (_ : Int) % 18446744073709551616 ∧ (_ : Int) % 18446744073709551616 < 18446744073709551616
 omega
theorem words_rng (ka kb : Int) (ns : List Int) : 0 ≤ zdh ka kb ns ∧ zdh ka kb ns < 18446744073709551616 := xo_rng _ _
theorem spun_eq {m : Int} {ns : List Int} (h : 0 < m ∧ m ≤ 1000) : i64.wrap ((zdh 0 0 ns).tmod m) = zbX m ns := by
 have h1 := words_rng 0 0 ns
 rw [rem_nn (by omega)]
 have h2 := Int.emod_nonneg (zdh 0 0 ns) (by omega : m ≠ 0)
 have h3 := Int.emod_lt_of_pos (zdh 0 0 ns) h.1
 exact w64 (by omega) (by omega)
theorem zhR {m : Int} {ns : List Int} (h : 0 < m) : 0 ≤ zbX m ns ∧ zbX m ns < m := ⟨Int.emod_nonneg _ (by omega), Int.emod_lt_of_pos _ h⟩
def wlOf (p : qJ) (i : Nat) : Wl := ⟨i, zbX 127 [1, p (3 + 5 * i + 1), p (3 + 5 * i + 2)], 1 + zbX 126 [2, p (3 + 5 * i + 1), p (3 + 5 * i + 2)], (if (8 : Int) < (if (1 : Int) > p (3 + 5 * i + 3) then (1 : Int) else p (3 + 5 * i + 3)) then (8 : Int) else (if (1 : Int) > p (3 + 5 * i + 3) then (1 : Int) else p (3 + 5 * i + 3)))⟩
def wlks (p : qJ) : Nat → List Wl
 | 0 => []
 | i + 1 => if p (3 + 5 * i) = 2 then wlks p i ++ [wlOf p i] else wlks p i
structure WlOk (x : Wl) : Prop where
  s : 0 ≤ x.s ∧ x.s < 64
  a : 0 ≤ x.a ∧ x.a < 127
  b : 1 ≤ x.b ∧ x.b ≤ 126
  w : 1 ≤ x.w ∧ x.w ≤ 8
theorem wlOf_ok (p : qJ) {i : Nat} (h : i < 64) : WlOk (wlOf p i) := by
 have h1 := zhR (m := 127) (ns := [1, p (3 + 5 * i + 1), p (3 + 5 * i + 2)]) (by omega)
 have h2 := zhR (m := 126) (ns := [2, p (3 + 5 * i + 1), p (3 + 5 * i + 2)]) (by omega)
 refine ⟨by simp only [wlOf]; omega, h1, by simp only [wlOf]; omega, ?_⟩
 simp only [wlOf]
 (repeat' split) <;> omega
theorem wlks_ok (p : qJ) : ∀ {n : Nat}, n ≤ 64 → ∀ x ∈ wlks p n, WlOk x
 | 0, _, _, hx => by simp [wlks] at hx
 | n + 1, h, x, hx => by
  simp only [wlks] at hx
  split at hx
  ·rcases List.mem_append.1 hx with q | q
   ·exact wlks_ok p (by omega) x q
   ·simp at q; subst q; exact wlOf_ok p (by omega)
  ·exact wlks_ok p (by omega) x hx
theorem wlks_len (p : qJ) : ∀ n, (wlks p n).length ≤ n
 | 0 => by simp [wlks]
 | n + 1 => by
  have := wlks_len p n
  simp only [wlks]; split <;> simp <;> omega
def nobodyL : List Int := List.replicate 127 (-1)
def zeD (W : List Int) : Nat := W.count (-1)
def prb (W : List Int) (b : Int) : Nat → Int → Int
 | 0, a => a
 | n + 1, a => if W.getD a.toNat 0 = -1 then a else prb W b n ((a + b) % 127)
abbrev WS := List Int × List Wl
def ziO (k : Nat) (S : WS) : WS := if zeD S.1 = 0 then S else match S.2[k]? with
 | none => S
 | some x => (S.1.set (prb S.1 x.b 127 x.a).toNat x.s, S.2.set k ⟨x.s, prb S.1 x.b 127 x.a, x.b, x.w⟩)
def itr {α : Type} (f : α → α) : Nat → α → α
 | 0, x => x
 | n + 1, x => f (itr f n x)
def wtOf (l0 : List Wl) (k : Nat) : Nat := match l0[k]? with
 | none => 0
 | some x => x.w.toNat
def zfa (l0 : List Wl) (S : WS) : Nat → WS
 | 0 => S
 | k + 1 => itr (ziO k) (wtOf l0 k) (zfa l0 S k)
def zbT (l0 : List Wl) (r : Nat) : WS := itr (fun S => zfa l0 S l0.length) r (nobodyL, l0)
def zaA (p : qJ) : List Int := (zbT (wlks p 64) 127).1
theorem turn_full {k : Nat} {S : WS} (h : zeD S.1 = 0) : ziO k S = S := by simp [ziO, h]
theorem zgR {α : Type} {f : α → α} {x : α} (h : f x = x) : ∀ n, itr f n x = x
 | 0 => rfl
 | n + 1 => by simp only [itr]; rw [zgR h n, h]
theorem itr_add {α : Type} (f : α → α) (x : α) (m : Nat) : ∀ n, itr f (n + m) x = itr f n (itr f m x)
 | 0 => by simp [itr]
 | n + 1 => by rw [show n + 1 + m = n + m + 1 by omega]; simp only [itr]; rw [itr_add f x m n]
theorem zhb {l0 : List Wl} {S0 S : WS} {k : Nat} (h : zeD S.1 = 0) (hk : zfa l0 S0 k = S) : ∀ n, zfa l0 S0 (k + n) = S
 | 0 => hk
 | n + 1 => by rw [show k + (n + 1) = (k + n) + 1 by omega]; simp only [zfa]; rw [zhb h hk n]; exact zgR (turn_full h) _
theorem zij {l0 : List Wl} {r : Nat} {S : WS} (h : zeD S.1 = 0) (hr : zbT l0 r = S) {n : Nat} (hn : r ≤ n) : zbT l0 n = S := by
 obtain ⟨m, rfl⟩ : ∃ m, n = m + r := ⟨n - r, by omega⟩
 unfold zbT at hr ⊢
 rw [itr_add, hr]
 refine zgR ?_ m
 have := zhb (l0 := l0) (S0 := S) (k := 0) h rfl l0.length
 simpa using this
theorem point_full {l0 : List Wl} {r k t : Nat} {S : WS} (hS : S = itr (ziO k) t (zfa l0 (zbT l0 r) k)) (hk : k < l0.length) (ht : t ≤ wtOf l0 k) (h : zeD S.1 = 0) : zbT l0 (r + 1) = S := by
 have h1 : zfa l0 (zbT l0 r) (k + 1) = S := by
  show itr (ziO k) (wtOf l0 k) (zfa l0 (zbT l0 r) k) = S
  obtain ⟨m, hm⟩ : ∃ m, wtOf l0 k = m + t := ⟨wtOf l0 k - t, by omega⟩
  rw [hm, itr_add, ← hS]; exact zgR (turn_full h) m
 have h2 := zhb h h1 (l0.length - (k + 1))
 rw [show k + 1 + (l0.length - (k + 1)) = l0.length by omega] at h2
 exact h2
theorem inv127 : ∀ b : Fin 127, b.val ≠ 0 → ∃ c : Fin 127, (b.val * c.val) % 127 = 1 := by decide
theorem free_at {W : List Int} (h : zeD W ≠ 0) : ∃ i, i < W.length ∧ W.getD i 0 = -1 := by
 have h1 : 0 < W.count (-1) := Nat.pos_of_ne_zero h
 have h2 : (-1 : Int) ∈ W := List.count_pos_iff.1 h1
 obtain ⟨i, hi, e⟩ := List.getElem_of_mem h2
 exact ⟨i, hi, by simp [List.getD_eq_getElem?_getD, hi, e]⟩
theorem reach {a b : Int} (ha : 0 ≤ a ∧ a < 127) (hb : 1 ≤ b ∧ b ≤ 126) (t : Nat) (ht : t < 127) : ∃ n : Nat, n < 127 ∧ (a + n * b) % 127 = t := by
 obtain ⟨c, hc⟩ := inv127 ⟨b.toNat, by omega⟩ (by simp; omega)
 simp only at hc
 refine ⟨((((t : Int) - a) * c.val) % 127).toNat, by omega, ?_⟩
 have hb' : ((b.toNat : Nat) : Int) = b := by omega
 have hc' : (b * (c.val : Int)) % 127 = 1 := by rw [← hb']; exact_mod_cast hc
 rw [Int.toNat_of_nonneg (by omega)]
 have e1 : (((t : Int) - a) * c.val % 127 * b) % 127 = ((t : Int) - a) % 127 := by
  rw [Int.mul_emod, Int.emod_emod, ← Int.mul_emod, Int.mul_assoc, Int.mul_comm (c.val : Int) b, Int.mul_emod, hc', Int.mul_one, Int.emod_emod]
 omega
theorem least {P : Nat → Prop} [DecidablePred P] {n : Nat} (h : P n) : ∃ m, m ≤ n ∧ P m ∧ ∀ k, k < m → ¬ P k := by
 induction n using Nat.strongRecOn with
 | _ n ih =>
  by_cases hq : ∃ k, k < n ∧ P k
  ·obtain ⟨k, hk, hp⟩ := hq
   obtain ⟨m, h1, h2, h3⟩ := ih k hk hp
   exact ⟨m, by omega, h2, h3⟩
  ·exact ⟨n, Nat.le_refl _, h, fun k hk hp => hq ⟨k, hk, hp⟩⟩
def zcW (a b : Int) (m : Nat) : Int := (a + m * b) % 127
theorem walk_0 {a b : Int} (ha : 0 ≤ a ∧ a < 127) : zcW a b 0 = a := by unfold zcW; omega
theorem walk_1 (a b : Int) (m : Nat) : (zcW a b m + b) % 127 = zcW a b (m + 1) := by
 unfold zcW; rw [show ((m + 1 : Nat) : Int) * b = m * b + b by push_cast; rw [Int.add_mul, Int.one_mul]]; omega
theorem walk_rng (a b : Int) (m : Nat) : 0 ≤ zcW a b m ∧ zcW a b m < 127 := by unfold zcW; omega
theorem prb_walk {W : List Int} {a b : Int} {n : Nat} (hW : W.getD (zcW a b n).toNat 0 = -1) : ∀ (d m f : Nat), m + d = n → d < f → (∀ k, m ≤ k → k < n → W.getD (zcW a b k).toNat 0 ≠ -1) → prb W b f (zcW a b m) = zcW a b n
 | 0, m, f + 1, e, _, _ => by
  have : m = n := by omega
  subst this; simp only [prb]; rw [if_pos hW]
 | d + 1, m, f + 1, e, hf, hk => by
  simp only [prb]
  rw [if_neg (hk m (Nat.le_refl _) (by omega)), walk_1]
  exact prb_walk hW d (m + 1) f (by omega) (by omega) fun k h1 h2 => hk k (by omega) h2
 | _, _, 0, _, h, _ => by omega
theorem found {W : List Int} {a b : Int} (hW : W.length = 127) (hf : zeD W ≠ 0) (ha : 0 ≤ a ∧ a < 127) (hb : 1 ≤ b ∧ b ≤ 126) : ∃ n, n < 127 ∧ W.getD (zcW a b n).toNat 0 = -1 ∧ (∀ k, k < n → W.getD (zcW a b k).toNat 0 ≠ -1) ∧ prb W b 127 a = zcW a b n := by
 obtain ⟨i, hi, hg⟩ := free_at hf
 obtain ⟨n, hn, he⟩ := reach ha hb i (by omega)
 have h0 : W.getD (zcW a b n).toNat 0 = -1 := by unfold zcW; rw [he]; simpa using hg
 obtain ⟨m, h1, h2, h3⟩ := least (P := fun n => W.getD (zcW a b n).toNat 0 = -1) h0
 refine ⟨m, by omega, h2, h3, ?_⟩
 have := prb_walk h2 m 0 127 (by omega) (by omega) fun k _ hk => h3 k hk
 rwa [walk_0 ha] at this
theorem free_set {W : List Int} {i : Nat} {s : Int} (hi : i < W.length) (h : W.getD i 0 = -1) (hs : s ≠ -1) : zeD (W.set i s) + 1 = zeD W := by
 have e : W[i] = -1 := by simpa [List.getD_eq_getElem?_getD, hi] using h
 unfold zeD
 rw [List.count_set hi]
 have : 0 < W.count (-1) := List.count_pos_iff.2 (e ▸ List.getElem_mem hi)
 simp [e, hs]; omega
theorem set_neq {W : List Int} {i : Nat} {s : Int} (hi : i < W.length) (h : W.getD i 0 = -1) (hs : s ≠ -1) : eqI (W.set i s) W = false := by
 refine decide_eq_false fun q => ?_
 have := congrArg (fun l => List.getD l i 0) q
 simp only [h] at this
 simp [List.getD_eq_getElem?_getD, hi] at this
 exact hs this
structure WOk (l0 : List Wl) (W : List Int) (l : List Wl) : Prop where
  len : l.length = l0.length
  wl : W.length = 127
  same : ∀ (k : Nat) (x : Wl), l[k]? = some x → ∃ y, l0[k]? = some y ∧ x.s = y.s ∧ x.b = y.b ∧ x.w = y.w ∧ 0 ≤ x.a ∧ x.a < 127
  good : ∀ y ∈ l0, WlOk y
theorem WOk.init {l0 : List Wl} (h : ∀ y ∈ l0, WlOk y) : WOk l0 nobodyL l0 :=
 ⟨rfl, rfl, fun k x hx => ⟨x, hx, rfl, rfl, rfl, (h x (List.mem_of_getElem? hx)).a⟩, h⟩
theorem WOk.at_ {l0 l : List Wl} {W : List Int} (h : WOk l0 W l) {k : Nat} {x : Wl} (hx : l[k]? = some x) : WlOk x ∧ wtOf l0 k = x.w.toNat := by
 obtain ⟨y, h1, h2, h3, h4, h5⟩ := h.same k x hx
 have hy := h.good y (List.mem_of_getElem? h1)
 refine ⟨⟨h2 ▸ hy.s, h5, h3 ▸ hy.b, h4 ▸ hy.w⟩, ?_⟩
 simp [wtOf, h1, h4]
theorem WOk.set {l0 l : List Wl} {W : List Int} (h : WOk l0 W l) {k : Nat} {x : Wl} (hx : l[k]? = some x) {a : Int} (ha : 0 ≤ a ∧ a < 127) : WOk l0 W (l.set k ⟨x.s, a, x.b, x.w⟩) := by
 refine ⟨by rw [List.length_set]; exact h.len, h.wl, fun j z hz => ?_, h.good⟩
 have hl := zJ hx
 rw [List.getElem?_set] at hz
 by_cases hj : k = j
 ·subst hj
  rw [if_pos rfl, if_pos hl] at hz; cases hz
  obtain ⟨y, h1, h2, h3, h4, _⟩ := h.same k x hx
  exact ⟨y, h1, h2, h3, h4, ha⟩
 ·rw [if_neg hj] at hz; exact h.same j z hz
theorem WOk.put {l0 l : List Wl} {W : List Int} (h : WOk l0 W l) (i : Nat) (s : Int) : WOk l0 (W.set i s) l :=
 ⟨h.len, by rw [List.length_set]; exact h.wl, h.same, h.good⟩
theorem turn_eq {W : List Int} {l : List Wl} {k n : Nat} {x : Wl} (hf : zeD W ≠ 0) (hx : l[k]? = some x) (hp : prb W x.b 127 x.a = zcW x.a x.b n) : ziO k (W, l) = (W.set (zcW x.a x.b n).toNat x.s, l.set k ⟨x.s, zcW x.a x.b n, x.b, x.w⟩) := by
 simp [ziO, hf, hx, hp]
theorem run_stSl {d : Option Nat} {n n2 : Nat} {x y : Opd} {L : List (Nat × Value)} {hp : List Blk} {k o : Nat} {c c' z : List Value} {q : Option Nat} (hx : evf (reg L) x = .pointer (some ⟨k, o, none⟩)) (hk : hp[k]? = some (slB z c q)) (hq : q = none → n2 = 0) (hn2 : 0 < n2) (ht : zbH (evf (reg L) y) = false) (hl : (zcG (evf (reg L) y)).length = n) (ho : o + n ≤ c.length) (hc : splice c o (zcG (evf (reg L) y)) = c') : zdp [⟨d, .st n x y, none⟩] ⟨reg L, hp⟩ = some ⟨zaw (reg L) d undef, hp.set k (slB z c' q)⟩ := by
 cases q with
 | none => have := hq rfl; omega
 | some m =>
  refine qP (c := c ++ zc1 z m) (c' := c' ++ zc1 z m) hx (zax.2 ⟨hk, by simp [slB]⟩) ht hl (by simp; omega) ?_
  rw [zee (by omega), hc]
theorem rounds_nil (n : Nat) : zbT [] n = (nobodyL, []) := by
 unfold zbT; exact zgR rfl n
theorem fin_a {l0 l : List Wl} {W : List Int} {r : Nat} {f : Int} (hS : (W, l) = zbT l0 r) (hf : f = if l0.length = 0 then 0 else ((zeD W : Nat) : Int)) (hr : f + r ≤ 127) (h0 : ¬ f > 0) : W = (zbT l0 127).1 := by
 by_cases h : l0.length = 0
 ·have : l0 = [] := List.eq_nil_of_length_eq_zero h
  subst this
  rw [rounds_nil] at hS ⊢; exact congrArg Prod.fst hS
 ·rw [if_neg h] at hf
  rw [zij (S := (W, l)) (by show zeD W = 0; omega) hS.symm (by omega)]
theorem fin_b {l0 l : List Wl} {W : List Int} {r k t : Nat} {f : Int} (hS : (W, l) = itr (ziO k) t (zfa l0 (zbT l0 r) k)) (hk : k < l0.length) (ht : t ≤ wtOf l0 k) (hf : f = ((zeD W : Nat) : Int)) (h0 : f = 0) (hr : r + 1 ≤ 127) : W = (zbT l0 127).1 := by
 rw [zij (S := (W, l)) (by show zeD W = 0; omega) (point_full hS hk ht (by show zeD W = 0; omega)) hr]
theorem set_id {l : List Wl} {k : Nat} {x : Wl} (hx : l[k]? = some x) (ha : 0 ≤ x.a ∧ x.a < 127) : l = l.set k ⟨x.s, zcW x.a x.b 0, x.b, x.w⟩ := by
 rw [walk_0 ha]
 have h := zJ hx
 rw [List.getElem?_eq_getElem h] at hx; cases hx
 exact (List.set_getElem_self h).symm
theorem nob_next {i : Nat} {W : List Int} (h : W = List.replicate i (-1) ++ List.replicate (127 - i) 0) (hi : i < 127) : W.set i (-1) = List.replicate (i + 1) (-1) ++ List.replicate (127 - (i + 1)) 0 := by
 subst h
 rw [List.set_append_right _ _ (by simp)]
 simp only [List.length_replicate, Nat.sub_self]
 rw [show 127 - i = (127 - (i + 1)) + 1 by omega, List.replicate_succ, List.set_cons_zero, List.replicate_succ', List.append_assoc]; rfl
end Go.Rh

set_option maxHeartbeats 8000000
namespace Go.Rh
def zei : IFunc := ⟨11, [.tmp 4], (.seq (.reg [kq 4 (.mv (ki 0))]) (.seq (.reg [kq 5 (.bld [(2, (.int .u64 0))] []), km 6 1, kq 7 (.call "roundhouse/sip.Words" [(.t 5), (.t 6)]), km 8 0, kq 9 (.bin .rem (.t 7) (.t 8)), kq 10 (.cvi .i64 (.t 9)), km 4 10]) .ret))⟩
abbrev zbe (P : Program) : Prop := zX P "roundhouse/wheel.spun" = some zei
def zfo : IFunc := ⟨113, [.tmp 2], (.seq (.reg [kq 1 (.box (.t 0)), kq 2 (.mv (.c (.slice none 0 0)))]) (.scp 0 (.seq .skip (.seq (.block 4 (.loop (.seq (.seq (.reg [km 52 8, kq 53 (.bin .gtr (.t 52) (ki 0))]) (.cond (.t 53) .skip (.exit 4))) (.block 5 (.seq (.reg [km 54 5, kq 55 (.lenS (.t 54)), kq 56 (.mv (ki 0))]) (.block 6 (.loop (.seq (.reg [kq 57 (.bin .lss (.t 56) (.t 55))]) (.seq (.cond (.t 57) .skip (.exit 6)) (.seq (.block 7 (.seq (.reg [km 58 56, km 9 58]) (.seq (.reg [km 59 5, km 60 9, kq 61 (.iadS 4 (.t 59) (.t 60)), kq 62 (.fad 3 (.t 61)), kq 63 (.ld none (.t 62)), kq 64 (.mv (ki 0))]) (.block 8 (.loop (.seq (.reg [kq 65 (.bin .lss (.t 64) (.t 63))]) (.seq (.cond (.t 65) .skip (.exit 8)) (.seq (.block 9 (.seq (.seq (.reg [km 66 8, kq 67 (.bin .eql (.t 66) (ki 0))]) (.cond (.t 67) (.exit 4) .skip)) (.seq (.reg [kq 68 (.ld (some 127) (.t 3)), kq 10 (.new [(127, (.int .i64 0))]), ku (.st 127 (.t 10) (.t 68))]) (.seq (.block 10 (.loop (.seq (.seq (.reg [km 69 5, km 70 9, kq 71 (.iadS 4 (.t 69) (.t 70)), kq 72 (.fad 1 (.t 71)), kq 73 (.ld none (.t 72)), kq 74 (.iadA 127 1 (.t 3) (.t 73)), kq 75 (.ld none (.t 74)), kq 76 (.bin .neq (.t 75) (ki (-1)))]) (.cond (.t 76) .skip (.exit 10))) (.block 11 (.dreg [km 77 5, km 78 9, km 79 5, km 80 9, kq 81 (.iadS 4 (.t 79) (.t 80)), kq 82 (.fad 1 (.t 81)), kq 83 (.ld none (.t 82)), km 84 5, km 85 9, kq 86 (.iadS 4 (.t 84) (.t 85)), kq 87 (.fad 2 (.t 86)), kq 88 (.ld none (.t 87)), kq 89 (.bin .add (.t 83) (.t 88)), kq 90 (.bin .rem (.t 89) (ki 127)), kq 91 (.iadS 4 (.t 77) (.t 78)), kq 92 (.fad 1 (.t 91)), ku (.st 1 (.t 92) (.t 90))] [[], [], [], [], [2, 3], [4, 2, 3], [5, 4, 2, 3], [], [], [7, 8], [9, 7, 8], [10, 9, 7, 8], [6, 5, 4, 2, 3, 11, 10, 9, 7, 8], [12, 6, 5, 4, 2, 3, 11, 10, 9, 7, 8], [0, 1, 2, 3, 4, 5, 6, 7, 8, 9, 10, 11, 12, 13], [14, 0, 1, 2, 3, 4, 5, 6, 7, 8, 9, 10, 11, 12, 13], [15, 14, 0, 1, 2, 3, 4, 5, 6, 7, 8, 9, 10, 11, 12, 13]]))))) (.seq (.dreg [km 93 5, km 94 9, kq 95 (.iadS 4 (.t 93) (.t 94)), kq 96 (.fad 1 (.t 95)), kq 97 (.ld none (.t 96)), km 98 5, km 99 9, kq 100 (.iadS 4 (.t 98) (.t 99)), kq 101 (.fad 0 (.t 100)), kq 102 (.ld none (.t 101)), kq 103 (.iadA 127 1 (.t 3) (.t 97)), ku (.st 1 (.t 103) (.t 102))] [[], [], [0, 1], [2, 0, 1], [3, 2, 0, 1], [], [], [5, 6], [7, 5, 6], [8, 7, 5, 6], [4, 3, 2, 0, 1, 5, 6, 7, 8, 9], [10, 4, 3, 2, 0, 1, 5, 6, 7, 8, 9]]) (.seq (.reg [kq 104 (.ld (some 127) (.t 3)), kq 105 (.ld (some 127) (.t 10)), kq 106 (.eqa true [(127, .i)] (.t 104) (.t 105))]) (.cond (.t 106) (.reg [km 107 8, kq 108 (.bin .sub (.t 107) (ki 1)), km 8 108]) .skip))))))) (.reg [kq 109 (.bin .add (.t 64) (ki 1)), km 64 109]))))))))) (.reg [kq 110 (.bin .add (.t 56) (ki 1)), km 56 110]))))))))))) (.seq (.reg [kq 111 (.slcA 127 1 (.t 3) none none none), kq 112 (.app [(1, (.int .i64 0))] 1 8 (.c (.slice none 0 0)) (.t 111)), km 2 112]) .ret))) (.seq (.reg [kq 3 (.new [(127, (.int .i64 0))])]) (.seq (.seq (.reg [kq 11 (.mv (ki 0))]) (.block 0 (.loop (.seq (.reg [kq 12 (.bin .lss (.t 11) (ki 127))]) (.seq (.cond (.t 12) .skip (.exit 0)) (.seq (.block 1 (.seq (.reg [km 13 11, km 4 13]) (.reg [km 14 4, kq 15 (.iadA 127 1 (.t 3) (.t 14)), ku (.st 1 (.t 15) (ki (-1)))]))) (.reg [kq 16 (.bin .add (.t 11) (ki 1)), km 11 16]))))))) (.seq (.reg [kq 5 (.mv (.c (.slice none 0 0)))]) (.seq (.seq (.reg [kq 17 (.fad 3 (.t 1)), kq 18 (.ld (some 320) (.t 17)), kq 19 (.mv (ki 0))]) (.block 2 (.loop (.seq (.reg [kq 20 (.bin .lss (.t 19) (ki 64))]) (.seq (.cond (.t 20) .skip (.exit 2)) (.seq (.block 3 (.seq (.reg [km 21 19, kq 22 (.ixA 64 5 (some 5) (.t 18) (.t 19)), kq 7 (.new [(5, (.int .i64 0))]), km 6 21, ku (.st 5 (.t 7) (.t 22))]) (.seq (.reg [kq 23 (.fad 0 (.t 7)), kq 24 (.ld none (.t 23)), kq 25 (.bin .eql (.t 24) (ki 2))]) (.cond (.t 25) (.dreg [km 26 5, km 27 6, kq 28 (.fad 1 (.t 7)), kq 29 (.ld none (.t 28)), kq 30 (.fad 2 (.t 7)), kq 31 (.ld none (.t 30)), kq 32 (.bsl [(1, (.int .i64 0))] 1 3 [(0, 1, (ki 1)), (1, 1, (.t 29)), (2, 1, (.t 31))]), kq 33 (.call "roundhouse/wheel.spun" [(.c (.int .u64 127)), (.t 32)]), kq 34 (.fad 1 (.t 7)), kq 35 (.ld none (.t 34)), kq 36 (.fad 2 (.t 7)), kq 37 (.ld none (.t 36)), kq 38 (.bsl [(1, (.int .i64 0))] 1 3 [(0, 1, (ki 2)), (1, 1, (.t 35)), (2, 1, (.t 37))]), kq 39 (.call "roundhouse/wheel.spun" [(.c (.int .u64 126)), (.t 38)]), kq 40 (.bin .add (ki 1) (.t 39)), kq 41 (.fad 3 (.t 7)), kq 42 (.ld none (.t 41)), kq 43 (.mm true (.t 42) (ki 1)), kq 44 (.mm false (.t 43) (ki 8)), kq 45 (.bld [(4, (.int .i64 0))] [(0, 1, (.t 27)), (1, 1, (.t 33)), (2, 1, (.t 40)), (3, 1, (.t 44))]), kq 46 (.bsl [(4, (.int .i64 0))] 4 1 [(0, 4, (.t 45))]), kq 47 (.app [(4, (.int .i64 0))] 4 32 (.t 26) (.t 46)), km 5 47] [[], [], [], [2], [], [4], [3, 2, 5, 4], [6, 3, 2, 5, 4], [], [8], [], [10], [9, 8, 11, 10], [12, 9, 8, 11, 10, 7, 6, 3, 2, 5, 4], [13, 12, 9, 8, 11, 10, 7, 6, 3, 2, 5, 4], [], [15], [16, 15], [17, 16, 15], [1, 7, 6, 3, 2, 5, 4, 14, 13, 12, 9, 8, 11, 10, 18, 17, 16, 15], [19, 1, 7, 6, 3, 2, 5, 4, 14, 13, 12, 9, 8, 11, 10, 18, 17, 16, 15], [0, 20, 19, 1, 7, 6, 3, 2, 5, 4, 14, 13, 12, 9, 8, 11, 10, 18, 17, 16, 15], [21, 0, 20, 19, 1, 7, 6, 3, 2, 5, 4, 14, 13, 12, 9, 8, 11, 10, 18, 17, 16, 15]]) .skip)))) (.reg [kq 48 (.bin .add (.t 19) (ki 1)), km 19 48]))))))) (.seq (.reg [kq 8 (.mv (ki 127))]) (.seq (.seq (.reg [km 49 5, kq 50 (.lenS (.t 49)), kq 51 (.bin .eql (.t 50) (ki 0))]) (.cond (.t 51) (.reg [kq 8 (.mv (ki 0))]) .skip)) (.seq (.label 0) (.seq (.block 4 (.loop (.seq (.seq (.reg [km 52 8, kq 53 (.bin .gtr (.t 52) (ki 0))]) (.cond (.t 53) .skip (.exit 4))) (.block 5 (.seq (.reg [km 54 5, kq 55 (.lenS (.t 54)), kq 56 (.mv (ki 0))]) (.block 6 (.loop (.seq (.reg [kq 57 (.bin .lss (.t 56) (.t 55))]) (.seq (.cond (.t 57) .skip (.exit 6)) (.seq (.block 7 (.seq (.reg [km 58 56, km 9 58]) (.seq (.reg [km 59 5, km 60 9, kq 61 (.iadS 4 (.t 59) (.t 60)), kq 62 (.fad 3 (.t 61)), kq 63 (.ld none (.t 62)), kq 64 (.mv (ki 0))]) (.block 8 (.loop (.seq (.reg [kq 65 (.bin .lss (.t 64) (.t 63))]) (.seq (.cond (.t 65) .skip (.exit 8)) (.seq (.block 9 (.seq (.seq (.reg [km 66 8, kq 67 (.bin .eql (.t 66) (ki 0))]) (.cond (.t 67) (.exit 4) .skip)) (.seq (.reg [kq 68 (.ld (some 127) (.t 3)), kq 10 (.new [(127, (.int .i64 0))]), ku (.st 127 (.t 10) (.t 68))]) (.seq (.block 10 (.loop (.seq (.seq (.reg [km 69 5, km 70 9, kq 71 (.iadS 4 (.t 69) (.t 70)), kq 72 (.fad 1 (.t 71)), kq 73 (.ld none (.t 72)), kq 74 (.iadA 127 1 (.t 3) (.t 73)), kq 75 (.ld none (.t 74)), kq 76 (.bin .neq (.t 75) (ki (-1)))]) (.cond (.t 76) .skip (.exit 10))) (.block 11 (.dreg [km 77 5, km 78 9, km 79 5, km 80 9, kq 81 (.iadS 4 (.t 79) (.t 80)), kq 82 (.fad 1 (.t 81)), kq 83 (.ld none (.t 82)), km 84 5, km 85 9, kq 86 (.iadS 4 (.t 84) (.t 85)), kq 87 (.fad 2 (.t 86)), kq 88 (.ld none (.t 87)), kq 89 (.bin .add (.t 83) (.t 88)), kq 90 (.bin .rem (.t 89) (ki 127)), kq 91 (.iadS 4 (.t 77) (.t 78)), kq 92 (.fad 1 (.t 91)), ku (.st 1 (.t 92) (.t 90))] [[], [], [], [], [2, 3], [4, 2, 3], [5, 4, 2, 3], [], [], [7, 8], [9, 7, 8], [10, 9, 7, 8], [6, 5, 4, 2, 3, 11, 10, 9, 7, 8], [12, 6, 5, 4, 2, 3, 11, 10, 9, 7, 8], [0, 1, 2, 3, 4, 5, 6, 7, 8, 9, 10, 11, 12, 13], [14, 0, 1, 2, 3, 4, 5, 6, 7, 8, 9, 10, 11, 12, 13], [15, 14, 0, 1, 2, 3, 4, 5, 6, 7, 8, 9, 10, 11, 12, 13]]))))) (.seq (.dreg [km 93 5, km 94 9, kq 95 (.iadS 4 (.t 93) (.t 94)), kq 96 (.fad 1 (.t 95)), kq 97 (.ld none (.t 96)), km 98 5, km 99 9, kq 100 (.iadS 4 (.t 98) (.t 99)), kq 101 (.fad 0 (.t 100)), kq 102 (.ld none (.t 101)), kq 103 (.iadA 127 1 (.t 3) (.t 97)), ku (.st 1 (.t 103) (.t 102))] [[], [], [0, 1], [2, 0, 1], [3, 2, 0, 1], [], [], [5, 6], [7, 5, 6], [8, 7, 5, 6], [4, 3, 2, 0, 1, 5, 6, 7, 8, 9], [10, 4, 3, 2, 0, 1, 5, 6, 7, 8, 9]]) (.seq (.reg [kq 104 (.ld (some 127) (.t 3)), kq 105 (.ld (some 127) (.t 10)), kq 106 (.eqa true [(127, .i)] (.t 104) (.t 105))]) (.cond (.t 106) (.reg [km 107 8, kq 108 (.bin .sub (.t 107) (ki 1)), km 8 108]) .skip))))))) (.reg [kq 109 (.bin .add (.t 64) (ki 1)), km 64 109]))))))))) (.reg [kq 110 (.bin .add (.t 56) (ki 1)), km 56 110]))))))))))) (.seq (.reg [kq 111 (.slcA 127 1 (.t 3) none none none), kq 112 (.app [(1, (.int .i64 0))] 1 8 (.c (.slice none 0 0)) (.t 111)), km 2 112]) .ret)))))))))))⟩
abbrev zbI (P : Program) : Prop := zX P "roundhouse/wheel.Make" = some zfo
theorem spun127C {P : Program} (hc : zbe P) (h_sip_Words : zbl P) (h_sip_Of : zcp P) (h_sip_number_byte : qZ P) (h_sip_state_take : zaf P) (h_sip_state_rounds : qM P) (h_sip_state_round : qO P) (h_math_bits_RotateLeft64 : zS P) (ns : List Int) (hl : ns.length ≤ 1000) :
    Env P "roundhouse/wheel.spun" [uv 127, sv 0 0 ns.length ns.length] ([cr (ii ns)]) (Ans (iv (zbX 127 ns)) [cr (ii ns)]) := by
 refine Env.by2 hc ?_
 unfold zei
 show GC _ 1 _ _ ⟨reg [(0, uv 127), (1, sv 0 0 ns.length ns.length)], [cr (ii ns)]⟩
 refine zQ (zU (o_d 1 [(4, iv 0)] (by kernel_rfl) (zF (zC (zQ (zU (o_d 2 [(6, sv 0 0 ns.length ns.length), (5, .agg #[uv 0, uv 0])] (by kernel_rfl) (zb8 (callS (a1 := [.agg #[uv 0, uv 0], sv 0 0 ns.length ns.length]) [0] [ii ns] (wordsC h_sip_Words h_sip_Of h_sip_number_byte h_sip_state_take h_sip_state_rounds h_sip_state_round h_math_bits_RotateLeft64 0 0 ns (by first | omega | decide | (simp; done))) rfl (fun _ => zaG (qK rfl) (zaG rfl rfl)) ⟨⟨_, rfl⟩, zaR _, trivial⟩ rfl ?_)))))))))
 exact o_d 4 [(4, iv (i64.wrap ((zdh 0 0 ns).tmod 127))), (10, iv (i64.wrap ((zdh 0 0 ns).tmod 127))), (9, uv ((zdh 0 0 ns).tmod 127)), (8, uv 127)] (by kernel_rfl) (zF (zC (zaZ (⟨trivial, ⟨reg [(4, iv (i64.wrap ((zdh 0 0 ns).tmod 127)))], [cr (ii ns)]⟩, Wk.ren [0] rfl rfl (by decide) ⟨rfl, trivial⟩ ⟨.inl (zR (zaR ns)), trivial⟩, [iv (i64.wrap ((zdh 0 0 ns).tmod 127))], (qD rfl rfl), (zV rfl qB), (congrArg (Value.int .i64) (spun_eq (by omega))), rfl⟩))))
theorem spun126C {P : Program} (hc : zbe P) (h_sip_Words : zbl P) (h_sip_Of : zcp P) (h_sip_number_byte : qZ P) (h_sip_state_take : zaf P) (h_sip_state_rounds : qM P) (h_sip_state_round : qO P) (h_math_bits_RotateLeft64 : zS P) (ns : List Int) (hl : ns.length ≤ 1000) :
    Env P "roundhouse/wheel.spun" [uv 126, sv 0 0 ns.length ns.length] ([cr (ii ns)]) (Ans (iv (zbX 126 ns)) [cr (ii ns)]) := by
 refine Env.by2 hc ?_
 unfold zei
 show GC _ 1 _ _ ⟨reg [(0, uv 126), (1, sv 0 0 ns.length ns.length)], [cr (ii ns)]⟩
 refine zQ (zU (o_d 1 [(4, iv 0)] (by kernel_rfl) (zF (zC (zQ (zU (o_d 2 [(6, sv 0 0 ns.length ns.length), (5, .agg #[uv 0, uv 0])] (by kernel_rfl) (zb8 (callS (a1 := [.agg #[uv 0, uv 0], sv 0 0 ns.length ns.length]) [0] [ii ns] (wordsC h_sip_Words h_sip_Of h_sip_number_byte h_sip_state_take h_sip_state_rounds h_sip_state_round h_math_bits_RotateLeft64 0 0 ns (by first | omega | decide | (simp; done))) rfl (fun _ => zaG (qK rfl) (zaG rfl rfl)) ⟨⟨_, rfl⟩, zaR _, trivial⟩ rfl ?_)))))))))
 exact o_d 4 [(4, iv (i64.wrap ((zdh 0 0 ns).tmod 126))), (10, iv (i64.wrap ((zdh 0 0 ns).tmod 126))), (9, uv ((zdh 0 0 ns).tmod 126)), (8, uv 126)] (by kernel_rfl) (zF (zC (zaZ (⟨trivial, ⟨reg [(4, iv (i64.wrap ((zdh 0 0 ns).tmod 126)))], [cr (ii ns)]⟩, Wk.ren [0] rfl rfl (by decide) ⟨rfl, trivial⟩ ⟨.inl (zR (zaR ns)), trivial⟩, [iv (i64.wrap ((zdh 0 0 ns).tmod 126))], (qD rfl rfl), (zV rfl qB), (congrArg (Value.int .i64) (spun_eq (by omega))), rfl⟩))))
theorem makeWC {P : Program} (hc : zbI P) (h_wheel_spun : zbe P) (h_sip_Words : zbl P) (h_sip_Of : zcp P) (h_sip_number_byte : qZ P) (h_sip_state_take : zaf P) (h_sip_state_rounds : qM P) (h_sip_state_round : qO P) (h_math_bits_RotateLeft64 : zS P) (p : qJ) :
    Env P "roundhouse/wheel.Make" [qL p] ([]) (fun v h' => ∃ m, v = slV 0 127 (some m) ∧ h' = [slB zI (ii (zaA p)) (some m)]) := by
 refine Env.by2 hc ?_
 unfold zfo
 show GC _ 0 _ _ ⟨reg [(0, qL p)], []⟩
 refine zQ (zU (o_b 2 [(2, .slice none 0 0), (1, pv 0 0)] [cw (pl p)] (by kernel_rfl) (zF (zC (gscp (fun _ _ => False) ?_ (fun _ _ q => q.elim))))))
 refine zQ (zU (o_b 1 [(3, pv 1 0)] [cw (pl p), cw (ii (List.replicate 127 0))] (by kernel_rfl) (zF (zC (zQ (zQ (zU (o_d 1 [(11, iv 0)] (by kernel_rfl) (zF (zC (zat (zen (fun μ s => ∃ (i0 : Nat), ∃ (W0 : List Int), μ = 127 - i0 ∧ (i0 ≤ 127) ∧ (W0 = List.replicate i0 (-1) ++ List.replicate (127 - i0) 0) ∧ (W0.length = 127) ∧ s = ⟨reg [(11, iv (i0 : Int)), (3, pv 1 0), (1, pv 0 0)], [cw (pl p), cw (ii W0)]⟩) ⟨(127 - 0), ?_⟩ ?_))))))))))))
 ·skip
  refine ⟨⟨reg [(11, iv (0 : Int)), (3, pv 1 0), (1, pv 0 0)], [cw (pl p), cw (ii (List.replicate 127 0))]⟩, ?_⟩
  refine ⟨?_, ?_⟩
  ·exact Wk.ren [0, 1] rfl rfl (by decide) ⟨rfl, ⟨rfl, ⟨rfl, trivial⟩⟩⟩ ⟨.inl (zR (zaI p)), ⟨.inl (zR (zaR (List.replicate 127 0))), trivial⟩⟩
  ·exact ⟨0, (List.replicate 127 0), rfl, (by omega), rfl, (List.length_replicate ..), rfl⟩
 rintro μ s ⟨i0, W0, rfl, hi0, hW0, hwl, rfl⟩
 refine zQ (zU (o_d 1 [(12, bv (decide ((i0 : Int) < 127)))] (by kernel_rfl) (zF (zC (zQ (zad (t := decide ((i0 : Int) < 127)) rfl (fun h1 => ?_) (fun h1 => ?_)))))))
 ·skip
  have h1' : (i0 : Int) < 127 := of_decide_eq_true h1
  refine zar (zC (zQ (zat (zQ (zU (o_d 2 [(4, iv (i0 : Int)), (13, iv (i0 : Int))] (by kernel_rfl) (zF (zC (zU (o_d 1 [(14, iv (i0 : Int))] (by kernel_rfl) (o_s (by exact zbV (o := 0) (o' := i0) rfl rfl (by omega) (by omega)) ?_)))))))))))
  refine zde (by refine qP (c' := ii (W0.set i0 (-1))) rfl rfl rfl ?_ ?_ ?_; exact rfl; exact (by rw [zaQ, hwl]; omega); exact ii_w (i := i0) rfl (by rw [hwl]; omega)) ?_
  refine zF (zC (zU (o_s (by refine zae (v := .int .i64 (i64.wrap ((i0 : Int) + 1))) (congrArg (Value.int .i64) (w64 (by omega) (by omega))) ?_; kernel_rfl) ?_)))
  refine o_d 1 [(11, iv ((i0 : Int) + 1))] (by kernel_rfl) (zF (⟨127 - (i0 + 1), ?_⟩))
  refine ⟨⟨reg [(11, iv ((i0 + 1) : Int)), (3, pv 1 0), (1, pv 0 0)], [cw (pl p), cw (ii (W0.set i0 (-1)))]⟩, ?_⟩
  refine zgA (by omega) ⟨?_, ?_⟩
  ·exact Wk.ren [0, 1] rfl rfl (by decide) ⟨rfl, ⟨rfl, ⟨rfl, trivial⟩⟩⟩ ⟨.inl (zR (zaI p)), ⟨.inl (zR (zaR (W0.set i0 (-1)))), trivial⟩⟩
  ·exact ⟨(i0 + 1), (W0.set i0 (-1)), rfl, by omega, (nob_next hW0 (by omega)), ((List.length_set ..).trans hwl), rfl⟩
 have h1' : ¬ ((i0 : Int) < 127) := of_decide_eq_false h1
 refine zdx (zC (zQ (zU (o_d 1 [(5, .slice none 0 0)] (by kernel_rfl) (zF (zC (zQ (zQ (zU (o_d 1 [(17, pv 0 3)] (by kernel_rfl) (o_s (by refine zZ (v := zf7 p) rfl rfl ?_; exact pl_rA p) ?_)))))))))))
 refine o_d 1 [(19, iv 0)] (by kernel_rfl) (zF (zC (zat (zen (fun μ s => ∃ (i : Nat), ∃ (l1 : List Wl), ∃ (n1 : Nat), ∃ (o1 : Option Nat), μ = 64 - i ∧ (i ≤ 64) ∧ (l1 = wlks p i) ∧ (n1 = l1.length ∧ n1 ≤ i) ∧ (o1 = none → n1 = 0) ∧ s = ⟨reg [(19, iv (i : Int)), (18, zf7 p), (5, slV 2 n1 o1), (3, pv 1 0)], [cw (pl p), cw (ii W0), slB zW (zdr wlF l1) o1]⟩) ⟨(64 - 0), ?_⟩ ?_))))
 ·skip
  refine ⟨⟨reg [(19, iv (0 : Int)), (18, zf7 p), (5, slV 2 0 none), (3, pv 1 0)], [cw (pl p), cw (ii W0), slB zW (zdr wlF ([] : List Wl)) none]⟩, ?_⟩
  refine ⟨?_, ?_⟩
  ·exact Wk.ren [0, 1, 4] rfl rfl (by decide) ⟨rfl, ⟨((qK (zfK p))).trans rfl, ⟨rfl, ⟨rfl, trivial⟩⟩⟩⟩ ⟨.inl (zR (zaI p)), ⟨.inl (zR (zaR W0)), ⟨.inr ⟨rfl, rfl⟩, trivial⟩⟩⟩
  ·exact ⟨0, ([] : List Wl), 0, none, rfl, (by omega), rfl, ⟨rfl, by omega⟩, (fun _ => rfl), rfl⟩
 rintro μ s ⟨i, l1, n1, o1, rfl, hi, hl1, hn1, ho1, rfl⟩
 refine zQ (zU (o_d 1 [(20, bv (decide ((i : Int) < 64)))] (by kernel_rfl) (zF (zC (zQ (zad (t := decide ((i : Int) < 64)) rfl (fun h2 => ?_) (fun h2 => ?_)))))))
 ·skip
  have h2' : (i : Int) < 64 := of_decide_eq_true h2
  refine zar (zC (zQ (zat (zQ (zU (o_d 1 [(21, iv (i : Int))] (by kernel_rfl) (o_s (by refine run_ixA (v := .agg #[iv (p (3 + 5 * i)), iv (p (3 + 5 * i + 1)), iv (p (3 + 5 * i + 2)), iv (p (3 + 5 * i + 3)), iv (p (3 + 5 * i + 4))]) (o := 5 * i) rfl rfl (by omega) (by omega) ?_; exact slots_r p i (by omega) (by omega)) ?_)))))))
  refine o_b 3 [(6, iv (i : Int)), (7, pv 3 0)] [cw (pl p), cw (ii W0), slB zW (zdr wlF l1) o1, cw [iv (p (3 + 5 * i)), iv (p (3 + 5 * i + 1)), iv (p (3 + 5 * i + 2)), iv (p (3 + 5 * i + 3)), iv (p (3 + 5 * i + 4))]] (by kernel_rfl) (zF (zC (zQ (zU (o_d 3 [(25, bv ((p (3 + 5 * i)) == 2)), (24, iv (p (3 + 5 * i))), (23, pv 3 0)] (by kernel_rfl) (zF (zC (zad (t := (p (3 + 5 * i)) == 2) rfl (fun h3 => ?_) (fun h3 => ?_)))))))))
  ·skip
   have h3' : p (3 + 5 * i) = 2 := zbY h3
   refine zbE [cw (pl p), cw (ii W0), slB zW (zdr wlF l1) o1, cw [iv (p (3 + 5 * i)), iv (p (3 + 5 * i + 1)), iv (p (3 + 5 * i + 2)), iv (p (3 + 5 * i + 3)), iv (p (3 + 5 * i + 4))], .gone, .gone, .gone] (by kernel_rfl) (d_n 7 7 5 [(32, sv 4 0 3 3), (31, iv (p (3 + 5 * i + 2))), (30, pv 3 2), (29, iv (p (3 + 5 * i + 1))), (28, pv 3 1), (27, iv (i : Int)), (26, slV 2 n1 o1)] [cw (pl p), cw (ii W0), slB zW (zdr wlF l1) o1, cw [iv (p (3 + 5 * i)), iv (p (3 + 5 * i + 1)), iv (p (3 + 5 * i + 2)), iv (p (3 + 5 * i + 3)), iv (p (3 + 5 * i + 4))], cw [iv 1, iv (p (3 + 5 * i + 1)), iv (p (3 + 5 * i + 2))], .gone, .gone] [⟨6, [], [4], none⟩, ⟨5, [3], [], none⟩, ⟨3, [3], [], none⟩] (by kernel_rfl) rfl rfl ?_)
   have hsp127 := zhR (m := 127) (ns := [1, p (3 + 5 * i + 1), p (3 + 5 * i + 2)]) (by decide)
   refine d_clG [4] [cr [iv 1, iv (p (3 + 5 * i + 1)), iv (p (3 + 5 * i + 2))]] [uv 127, sv 0 0 3 3] (spun127C h_wheel_spun h_sip_Words h_sip_Of h_sip_number_byte h_sip_state_take h_sip_state_rounds h_sip_state_round h_math_bits_RotateLeft64 [1, p (3 + 5 * i + 1), p (3 + 5 * i + 2)] (by simp)) rfl rfl ⟨⟨_, rfl, zc0 rfl (fun q => rfl)⟩, trivial⟩ (by decide) ⟨_, _, ⟨rfl, rfl⟩, Nat.le_refl _, zbb [_] []⟩ ?_ (by kernel_rfl)
   rintro v1 h1' ⟨rfl, rfl⟩
   refine ⟨iv (zbX 127 [1, p (3 + 5 * i + 1), p (3 + 5 * i + 2)]), [cw (pl p), cw (ii W0), slB zW (zdr wlF l1) o1, cw [iv (p (3 + 5 * i)), iv (p (3 + 5 * i + 1)), iv (p (3 + 5 * i + 2)), iv (p (3 + 5 * i + 3)), iv (p (3 + 5 * i + 4))], cw [iv 1, iv (p (3 + 5 * i + 1)), iv (p (3 + 5 * i + 2))], .gone, .gone], [], rfl, ⟨rfl, ⟨rfl, ⟨rfl, ⟨rfl, ⟨rfl, ⟨rfl, ⟨rfl, trivial⟩⟩⟩⟩⟩⟩⟩, trivial, ?_⟩
   refine d_n 5 13 6 [(38, sv 5 0 3 3), (37, iv (p (3 + 5 * i + 2))), (36, pv 3 2), (35, iv (p (3 + 5 * i + 1))), (34, pv 3 1)] [cw (pl p), cw (ii W0), slB zW (zdr wlF l1) o1, cw [iv (p (3 + 5 * i)), iv (p (3 + 5 * i + 1)), iv (p (3 + 5 * i + 2)), iv (p (3 + 5 * i + 3)), iv (p (3 + 5 * i + 4))], cw [iv 1, iv (p (3 + 5 * i + 1)), iv (p (3 + 5 * i + 2))], cw [iv 2, iv (p (3 + 5 * i + 1)), iv (p (3 + 5 * i + 2))], .gone] [⟨12, [], [5], none⟩, ⟨11, [3], [], none⟩, ⟨9, [3], [], none⟩, ⟨7, [4], [], some 7⟩, ⟨6, [], [4], none⟩, ⟨5, [3], [], none⟩, ⟨3, [3], [], none⟩] (by kernel_rfl) rfl rfl ?_
   have hsp126 := zhR (m := 126) (ns := [2, p (3 + 5 * i + 1), p (3 + 5 * i + 2)]) (by decide)
   refine d_clG [5] [cr [iv 2, iv (p (3 + 5 * i + 1)), iv (p (3 + 5 * i + 2))]] [uv 126, sv 0 0 3 3] (spun126C h_wheel_spun h_sip_Words h_sip_Of h_sip_number_byte h_sip_state_take h_sip_state_rounds h_sip_state_round h_math_bits_RotateLeft64 [2, p (3 + 5 * i + 1), p (3 + 5 * i + 2)] (by simp)) rfl rfl ⟨⟨_, rfl, zc0 rfl (fun q => rfl)⟩, trivial⟩ (by decide) ⟨_, _, ⟨rfl, rfl⟩, Nat.le_refl _, zbb [_] []⟩ ?_ (by kernel_rfl)
   rintro v1 h1' ⟨rfl, rfl⟩
   refine ⟨iv (zbX 126 [2, p (3 + 5 * i + 1), p (3 + 5 * i + 2)]), [cw (pl p), cw (ii W0), slB zW (zdr wlF l1) o1, cw [iv (p (3 + 5 * i)), iv (p (3 + 5 * i + 1)), iv (p (3 + 5 * i + 2)), iv (p (3 + 5 * i + 3)), iv (p (3 + 5 * i + 4))], cw [iv 1, iv (p (3 + 5 * i + 1)), iv (p (3 + 5 * i + 2))], cw [iv 2, iv (p (3 + 5 * i + 1)), iv (p (3 + 5 * i + 2))], .gone], [], rfl, ⟨rfl, ⟨rfl, ⟨rfl, ⟨rfl, ⟨rfl, ⟨rfl, ⟨rfl, trivial⟩⟩⟩⟩⟩⟩⟩, trivial, ?_⟩
   refine d_s rfl rfl rfl (by kernel_rfl) (by refine zae (v := .int .i64 (i64.wrap (1 + zbX 126 [2, p (3 + 5 * i + 1), p (3 + 5 * i + 2)]))) (congrArg (Value.int .i64) (w64 (by omega) (by omega))) ?_; kernel_rfl) ?_
   refine d_n 6 21 7 [(46, sv 6 0 1 1), (45, .agg #[iv (i : Int), iv (zbX 127 [1, p (3 + 5 * i + 1), p (3 + 5 * i + 2)]), iv (1 + zbX 126 [2, p (3 + 5 * i + 1), p (3 + 5 * i + 2)]), iv (if (8 : Int) < (if (1 : Int) > p (3 + 5 * i + 3) then (1 : Int) else p (3 + 5 * i + 3)) then (8 : Int) else (if (1 : Int) > p (3 + 5 * i + 3) then (1 : Int) else p (3 + 5 * i + 3)))]), (44, iv (if (8 : Int) < (if (1 : Int) > p (3 + 5 * i + 3) then (1 : Int) else p (3 + 5 * i + 3)) then (8 : Int) else (if (1 : Int) > p (3 + 5 * i + 3) then (1 : Int) else p (3 + 5 * i + 3)))), (43, iv (if (1 : Int) > p (3 + 5 * i + 3) then (1 : Int) else p (3 + 5 * i + 3))), (42, iv (p (3 + 5 * i + 3))), (41, pv 3 3)] [cw (pl p), cw (ii W0), slB zW (zdr wlF l1) o1, cw [iv (p (3 + 5 * i)), iv (p (3 + 5 * i + 1)), iv (p (3 + 5 * i + 2)), iv (p (3 + 5 * i + 3)), iv (p (3 + 5 * i + 4))], cw [iv 1, iv (p (3 + 5 * i + 1)), iv (p (3 + 5 * i + 2))], cw [iv 2, iv (p (3 + 5 * i + 1)), iv (p (3 + 5 * i + 2))], cw [iv (i : Int), iv (zbX 127 [1, p (3 + 5 * i + 1), p (3 + 5 * i + 2)]), iv (1 + zbX 126 [2, p (3 + 5 * i + 1), p (3 + 5 * i + 2)]), iv (if (8 : Int) < (if (1 : Int) > p (3 + 5 * i + 3) then (1 : Int) else p (3 + 5 * i + 3)) then (8 : Int) else (if (1 : Int) > p (3 + 5 * i + 3) then (1 : Int) else p (3 + 5 * i + 3)))]] [⟨20, [], [6], none⟩, ⟨16, [3], [], none⟩, ⟨13, [5], [], some 7⟩, ⟨12, [], [5], none⟩, ⟨11, [3], [], none⟩, ⟨9, [3], [], none⟩, ⟨7, [4], [], some 7⟩, ⟨6, [], [4], none⟩, ⟨5, [3], [], none⟩, ⟨3, [3], [], none⟩] (by kernel_rfl) rfl rfl (d_appC (k := 2) (n := n1) (o := o1) (q := 1) (cs := zdr wlF l1) (xs := [iv (i : Int), iv (zbX 127 [1, p (3 + 5 * i + 1), p (3 + 5 * i + 2)]), iv (1 + zbX 126 [2, p (3 + 5 * i + 1), p (3 + 5 * i + 2)]), iv (if (8 : Int) < (if (1 : Int) > p (3 + 5 * i + 3) then (1 : Int) else p (3 + 5 * i + 3)) then (8 : Int) else (if (1 : Int) > p (3 + 5 * i + 3) then (1 : Int) else p (3 + 5 * i + 3)))]) (cs2 := zdr wlF (l1 ++ [(Wl.mk (i : Int) (zbX 127 [1, p (3 + 5 * i + 1), p (3 + 5 * i + 2)]) (1 + zbX 126 [2, p (3 + 5 * i + 1), p (3 + 5 * i + 2)]) (if (8 : Int) < (if (1 : Int) > p (3 + 5 * i + 3) then (1 : Int) else p (3 + 5 * i + 3)) then (8 : Int) else (if (1 : Int) > p (3 + 5 * i + 3) then (1 : Int) else p (3 + 5 * i + 3))))])) (zl := zW) rfl rfl rfl (fun m q => by subst q; rfl) (fun z => by have h0 := ho1 z; have h1 : l1 = [] := List.eq_nil_of_length_eq_zero (by omega); subst h1; exact ⟨h0, rfl⟩) (by rw [zeO zeJ]; first | omega | (simp; try omega)) rfl rfl (zbS rfl rfl (by simp)) (by rfl) (by omega) (by omega) (wl_app1 l1 (i : Int) (zbX 127 [1, p (3 + 5 * i + 1), p (3 + 5 * i + 2)]) (1 + zbX 126 [2, p (3 + 5 * i + 1), p (3 + 5 * i + 2)]) (if (8 : Int) < (if (1 : Int) > p (3 + 5 * i + 3) then (1 : Int) else p (3 + 5 * i + 3)) then (8 : Int) else (if (1 : Int) > p (3 + 5 * i + 3) then (1 : Int) else p (3 + 5 * i + 3)))) (fun m4 e5 => ?_) (fun m4 => ?_))
   ·skip
    subst e5
    refine d_n 1 23 7 [(5, sv 2 0 (n1 + 1) (n1 + 1 + m4))] [cw (pl p), cw (ii W0), cw (zdr wlF (l1 ++ [(Wl.mk (i : Int) (zbX 127 [1, p (3 + 5 * i + 1), p (3 + 5 * i + 2)]) (1 + zbX 126 [2, p (3 + 5 * i + 1), p (3 + 5 * i + 2)]) (if (8 : Int) < (if (1 : Int) > p (3 + 5 * i + 3) then (1 : Int) else p (3 + 5 * i + 3)) then (8 : Int) else (if (1 : Int) > p (3 + 5 * i + 3) then (1 : Int) else p (3 + 5 * i + 3))))]) ++ zc1 zW m4), cw [iv (p (3 + 5 * i)), iv (p (3 + 5 * i + 1)), iv (p (3 + 5 * i + 2)), iv (p (3 + 5 * i + 3)), iv (p (3 + 5 * i + 4))], cw [iv 1, iv (p (3 + 5 * i + 1)), iv (p (3 + 5 * i + 2))], cw [iv 2, iv (p (3 + 5 * i + 1)), iv (p (3 + 5 * i + 2))], cw [iv (i : Int), iv (zbX 127 [1, p (3 + 5 * i + 1), p (3 + 5 * i + 2)]), iv (1 + zbX 126 [2, p (3 + 5 * i + 1), p (3 + 5 * i + 2)]), iv (if (8 : Int) < (if (1 : Int) > p (3 + 5 * i + 3) then (1 : Int) else p (3 + 5 * i + 3)) then (8 : Int) else (if (1 : Int) > p (3 + 5 * i + 3) then (1 : Int) else p (3 + 5 * i + 3)))]] [⟨20, [], [6], none⟩, ⟨16, [3], [], none⟩, ⟨13, [5], [], some 7⟩, ⟨12, [], [5], none⟩, ⟨11, [3], [], none⟩, ⟨9, [3], [], none⟩, ⟨7, [4], [], some 7⟩, ⟨6, [], [4], none⟩, ⟨5, [3], [], none⟩, ⟨3, [3], [], none⟩] (by kernel_rfl) rfl rfl (zcf (zY [(5, sv 2 0 (n1 + 1) (n1 + 1 + m4)), (19, iv (i : Int)), (18, zf7 p), (3, pv 1 0)] (by kernel_rfl) (zU (o_s (by refine zae (v := .int .i64 (i64.wrap ((i : Int) + 1))) (congrArg (Value.int .i64) (w64 (by omega) (by omega))) ?_; kernel_rfl) ?_))))
    refine o_d 1 [(19, iv ((i : Int) + 1))] (by kernel_rfl) (zF (⟨64 - (i + 1), ?_⟩))
    refine ⟨⟨reg [(19, iv ((i + 1) : Int)), (18, zf7 p), (5, slV 2 (n1 + 1) (some m4)), (3, pv 1 0)], [cw (pl p), cw (ii W0), slB zW (zdr wlF (l1 ++ [(Wl.mk (i : Int) (zbX 127 [1, p (3 + 5 * i + 1), p (3 + 5 * i + 2)]) (1 + zbX 126 [2, p (3 + 5 * i + 1), p (3 + 5 * i + 2)]) (if (8 : Int) < (if (1 : Int) > p (3 + 5 * i + 3) then (1 : Int) else p (3 + 5 * i + 3)) then (8 : Int) else (if (1 : Int) > p (3 + 5 * i + 3) then (1 : Int) else p (3 + 5 * i + 3))))])) (some m4)]⟩, ?_⟩
    refine zgA (by omega) ⟨?_, ?_⟩
    ·exact Wk.ren [0, 1, 2] rfl rfl (by decide) ⟨rfl, ⟨((qK (zfK p))).trans rfl, ⟨rfl, ⟨rfl, trivial⟩⟩⟩⟩ ⟨.inl (zR (zaI p)), ⟨.inl (zR (zaR W0)), ⟨.inl (zR (zcY _ _)), trivial⟩⟩⟩
    ·exact ⟨(i + 1), (l1 ++ [(Wl.mk (i : Int) (zbX 127 [1, p (3 + 5 * i + 1), p (3 + 5 * i + 2)]) (1 + zbX 126 [2, p (3 + 5 * i + 1), p (3 + 5 * i + 2)]) (if (8 : Int) < (if (1 : Int) > p (3 + 5 * i + 3) then (1 : Int) else p (3 + 5 * i + 3)) then (8 : Int) else (if (1 : Int) > p (3 + 5 * i + 3) then (1 : Int) else p (3 + 5 * i + 3))))]), (n1 + 1), (some m4), rfl, by omega, (by rw [hl1]; simp only [wlks]; rw [if_pos (show p (3 + 5 * i) = 2 by assumption)]; rfl), (by simp only [List.length_append, List.length_singleton]; omega), (fun z => by cases z), rfl⟩
   refine d_n 1 23 7 [(5, sv 7 0 (n1 + 1) (n1 + 1 + m4))] [cw (pl p), cw (ii W0), slB zW (zdr wlF l1) o1, cw [iv (p (3 + 5 * i)), iv (p (3 + 5 * i + 1)), iv (p (3 + 5 * i + 2)), iv (p (3 + 5 * i + 3)), iv (p (3 + 5 * i + 4))], cw [iv 1, iv (p (3 + 5 * i + 1)), iv (p (3 + 5 * i + 2))], cw [iv 2, iv (p (3 + 5 * i + 1)), iv (p (3 + 5 * i + 2))], cw [iv (i : Int), iv (zbX 127 [1, p (3 + 5 * i + 1), p (3 + 5 * i + 2)]), iv (1 + zbX 126 [2, p (3 + 5 * i + 1), p (3 + 5 * i + 2)]), iv (if (8 : Int) < (if (1 : Int) > p (3 + 5 * i + 3) then (1 : Int) else p (3 + 5 * i + 3)) then (8 : Int) else (if (1 : Int) > p (3 + 5 * i + 3) then (1 : Int) else p (3 + 5 * i + 3)))], cw (zdr wlF (l1 ++ [(Wl.mk (i : Int) (zbX 127 [1, p (3 + 5 * i + 1), p (3 + 5 * i + 2)]) (1 + zbX 126 [2, p (3 + 5 * i + 1), p (3 + 5 * i + 2)]) (if (8 : Int) < (if (1 : Int) > p (3 + 5 * i + 3) then (1 : Int) else p (3 + 5 * i + 3)) then (8 : Int) else (if (1 : Int) > p (3 + 5 * i + 3) then (1 : Int) else p (3 + 5 * i + 3))))]) ++ zc1 zW m4)] [⟨20, [], [6], none⟩, ⟨16, [3], [], none⟩, ⟨13, [5], [], some 7⟩, ⟨12, [], [5], none⟩, ⟨11, [3], [], none⟩, ⟨9, [3], [], none⟩, ⟨7, [4], [], some 7⟩, ⟨6, [], [4], none⟩, ⟨5, [3], [], none⟩, ⟨3, [3], [], none⟩] (by kernel_rfl) rfl rfl (zcf (zY [(5, sv 7 0 (n1 + 1) (n1 + 1 + m4)), (19, iv (i : Int)), (18, zf7 p), (3, pv 1 0)] (by kernel_rfl) (zU (o_s (by refine zae (v := .int .i64 (i64.wrap ((i : Int) + 1))) (congrArg (Value.int .i64) (w64 (by omega) (by omega))) ?_; kernel_rfl) ?_))))
   refine o_d 1 [(19, iv ((i : Int) + 1))] (by kernel_rfl) (zF (⟨64 - (i + 1), ?_⟩))
   refine ⟨⟨reg [(19, iv ((i + 1) : Int)), (18, zf7 p), (5, slV 2 (n1 + 1) (some m4)), (3, pv 1 0)], [cw (pl p), cw (ii W0), slB zW (zdr wlF (l1 ++ [(Wl.mk (i : Int) (zbX 127 [1, p (3 + 5 * i + 1), p (3 + 5 * i + 2)]) (1 + zbX 126 [2, p (3 + 5 * i + 1), p (3 + 5 * i + 2)]) (if (8 : Int) < (if (1 : Int) > p (3 + 5 * i + 3) then (1 : Int) else p (3 + 5 * i + 3)) then (8 : Int) else (if (1 : Int) > p (3 + 5 * i + 3) then (1 : Int) else p (3 + 5 * i + 3))))])) (some m4)]⟩, ?_⟩
   refine zgA (by omega) ⟨?_, ?_⟩
   ·exact Wk.ren [0, 1, 7] rfl rfl (by decide) ⟨rfl, ⟨((qK (zfK p))).trans rfl, ⟨rfl, ⟨rfl, trivial⟩⟩⟩⟩ ⟨.inl (zR (zaI p)), ⟨.inl (zR (zaR W0)), ⟨.inl (zR (zcY _ _)), trivial⟩⟩⟩
   ·exact ⟨(i + 1), (l1 ++ [(Wl.mk (i : Int) (zbX 127 [1, p (3 + 5 * i + 1), p (3 + 5 * i + 2)]) (1 + zbX 126 [2, p (3 + 5 * i + 1), p (3 + 5 * i + 2)]) (if (8 : Int) < (if (1 : Int) > p (3 + 5 * i + 3) then (1 : Int) else p (3 + 5 * i + 3)) then (8 : Int) else (if (1 : Int) > p (3 + 5 * i + 3) then (1 : Int) else p (3 + 5 * i + 3))))]), (n1 + 1), (some m4), rfl, by omega, (by rw [hl1]; simp only [wlks]; rw [if_pos (show p (3 + 5 * i) = 2 by assumption)]; rfl), (by simp only [List.length_append, List.length_singleton]; omega), (fun z => by cases z), rfl⟩
  have h3' : ¬ (p (3 + 5 * i) = 2) := zbZ h3
  refine zar (zC (zU (o_s (by refine zae (v := .int .i64 (i64.wrap ((i : Int) + 1))) (congrArg (Value.int .i64) (w64 (by omega) (by omega))) ?_; kernel_rfl) ?_)))
  refine o_d 1 [(19, iv ((i : Int) + 1))] (by kernel_rfl) (zF (⟨64 - (i + 1), ?_⟩))
  refine ⟨⟨reg [(19, iv ((i + 1) : Int)), (18, zf7 p), (5, slV 2 n1 o1), (3, pv 1 0)], [cw (pl p), cw (ii W0), slB zW (zdr wlF l1) o1]⟩, ?_⟩
  refine zgA (by omega) ⟨?_, ?_⟩
  ·exact Wk.ren [0, 1, 2] rfl rfl (by decide) ⟨rfl, ⟨((qK (zfK p))).trans rfl, ⟨((zbt o1 rfl)).trans rfl, ⟨rfl, trivial⟩⟩⟩⟩ ⟨.inl (zR (zaI p)), ⟨.inl (zR (zaR W0)), ⟨.inl (zaM o1 (fun _ => (zcY _ _))), trivial⟩⟩⟩
  ·exact ⟨(i + 1), l1, n1, o1, rfl, by omega, (by rw [hl1]; simp only [wlks]; rw [if_neg (show ¬ p (3 + 5 * i) = 2 by assumption)]), (by omega), ho1, rfl⟩
 have h2' : ¬ ((i : Int) < 64) := of_decide_eq_false h2
 refine zdx (zC (zQ (zU (o_d 1 [(8, iv 127)] (by kernel_rfl) (zF (zC (gcut (fun s => ∃ (f0 : Int), 0 = 0 ∧ (f0 = if n1 = 0 then 0 else 127) ∧ s = ⟨reg [(8, iv f0), (5, slV 2 n1 o1), (3, pv 1 0)], [cw (pl p), cw (ii W0), slB zW (zdr wlF l1) o1]⟩) ?_ ?_)))))))
 ·skip
  refine zQ (zU (o_d 1 [(49, slV 2 n1 o1)] (by kernel_rfl) (o_s (by exact run_lenSl rfl ho1) ?_)))
  refine o_d 1 [(51, bv (((n1 : Nat) : Int) == 0))] (by kernel_rfl) (zF (zC (zad (t := ((n1 : Nat) : Int) == 0) rfl (fun h6 => ?_) (fun h6 => ?_))))
  ·skip
   have h6' : ((n1 : Nat) : Int) = 0 := zbY h6
   refine zU (o_d 1 [(8, iv 0)] (by kernel_rfl) (zF (⟨⟨reg [(8, iv 0), (5, slV 2 n1 o1), (3, pv 1 0)], [cw (pl p), cw (ii W0), slB zW (zdr wlF l1) o1]⟩, ?_⟩)))
   refine ⟨?_, ?_⟩
   ·exact Wk.ren [0, 1, 2] rfl rfl (by decide) ⟨rfl, ⟨((zbt o1 rfl)).trans rfl, ⟨rfl, trivial⟩⟩⟩ ⟨.inl (zR (zaI p)), ⟨.inl (zR (zaR W0)), ⟨.inl (zaM o1 (fun _ => (zcY _ _))), trivial⟩⟩⟩
   ·exact ⟨0, rfl, (by first | (rw [if_pos (by omega)]; done) | (rw [if_neg (by omega)]; done)), rfl⟩
  have h6' : ¬ (((n1 : Nat) : Int) = 0) := zbZ h6
  refine zar (⟨⟨reg [(8, iv 127), (5, slV 2 n1 o1), (3, pv 1 0)], [cw (pl p), cw (ii W0), slB zW (zdr wlF l1) o1]⟩, ?_⟩)
  refine ⟨?_, ?_⟩
  ·exact Wk.ren [0, 1, 2] rfl rfl (by decide) ⟨rfl, ⟨((zbt o1 rfl)).trans rfl, ⟨rfl, trivial⟩⟩⟩ ⟨.inl (zR (zaI p)), ⟨.inl (zR (zaR W0)), ⟨.inl (zaM o1 (fun _ => (zcY _ _))), trivial⟩⟩⟩
  ·exact ⟨127, rfl, (by first | (rw [if_pos (by omega)]; done) | (rw [if_neg (by omega)]; done)), rfl⟩
 rintro s ⟨f0, -, hf0, rfl⟩
 have hi64 : i = 64 := by omega
 have hW9 : W0 = nobodyL := by rw [hW0, show i0 = 127 by omega]; rfl
 obtain ⟨L0, hL0⟩ : ∃ z, z = wlks p 64 := ⟨_, rfl⟩
 have hok0 : WOk L0 W0 l1 := by rw [hl1, hW9, hi64, hL0]; exact WOk.init (wlks_ok p (Nat.le_refl _))
 have hS0 : (W0, l1) = zbT L0 0 := by rw [hl1, hW9, hi64, hL0]; rfl
 have hlen : L0.length = n1 := by rw [hn1.1, hl1, hi64, hL0]
 refine zQ (glabel (zC (zQ (zat (zen (fun μ s => ∃ (r : Nat), ∃ (W : List Int), ∃ (l : List Wl), ∃ (f : Int), μ = f.toNat ∧ (WOk L0 W l) ∧ ((W, l) = zbT L0 r) ∧ (f = if L0.length = 0 then 0 else ((zeD W : Nat) : Int)) ∧ (f + r ≤ 127) ∧ s = ⟨reg [(8, iv f), (5, slV 2 n1 o1), (3, pv 1 0)], [cw (pl p), cw (ii W), slB zW (zdr wlF l) o1]⟩) ⟨f0.toNat, ?_⟩ ?_)))))
 ·skip
  refine ⟨⟨reg [(8, iv f0), (5, slV 2 n1 o1), (3, pv 1 0)], [cw (pl p), cw (ii W0), slB zW (zdr wlF l1) o1]⟩, ?_⟩
  refine ⟨?_, ?_⟩
  ·exact Wk.ren [0, 1, 2] rfl rfl (by decide) ⟨rfl, ⟨((zbt o1 rfl)).trans rfl, ⟨rfl, trivial⟩⟩⟩ ⟨.inl (zR (zaI p)), ⟨.inl (zR (zaR W0)), ⟨.inl (zaM o1 (fun _ => (zcY _ _))), trivial⟩⟩⟩
  ·exact ⟨0, W0, l1, f0, rfl, hok0, hS0, (by rw [hf0, hlen, hW9]; rfl), (by rw [hf0]; split <;> omega), rfl⟩
 rintro μ s ⟨r, W, l, f, rfl, hok, hS, hf, hr, rfl⟩
 refine zQ (zQ (zU (o_d 2 [(53, bv (decide (f > 0))), (52, iv f)] (by kernel_rfl) (zF (zC (zad (t := decide (f > 0)) rfl (fun h7 => ?_) (fun h7 => ?_)))))))
 ·skip
  have h7' : f > 0 := of_decide_eq_true h7
  refine zar (zC (zat (zQ (zU (o_d 1 [(54, slV 2 n1 o1)] (by kernel_rfl) (o_s (by exact run_lenSl rfl ho1) ?_))))))
  refine o_d 1 [(56, iv 0)] (by kernel_rfl) (zF (zC (zat (zen (fun μ s => ∃ (k : Nat), ∃ (Wq : List Int), ∃ (lk : List Wl), ∃ (fk : Int), μ = n1 - k ∧ (k ≤ n1) ∧ (WOk L0 Wq lk) ∧ ((Wq, lk) = zfa L0 (zbT L0 r) k) ∧ (fk = ((zeD Wq : Nat) : Int) ∧ fk ≤ f ∧ (1 ≤ k → fk < f)) ∧ s = ⟨reg [(56, iv (k : Int)), (55, iv (n1 : Nat)), (8, iv fk), (5, slV 2 n1 o1), (3, pv 1 0)], [cw (pl p), cw (ii Wq), slB zW (zdr wlF lk) o1]⟩) ⟨(n1 - 0), ?_⟩ ?_))))
  ·skip
   refine ⟨⟨reg [(56, iv (0 : Int)), (55, iv (n1 : Nat)), (8, iv f), (5, slV 2 n1 o1), (3, pv 1 0)], [cw (pl p), cw (ii W), slB zW (zdr wlF l) o1]⟩, ?_⟩
   refine ⟨?_, ?_⟩
   ·exact Wk.ren [0, 1, 2] rfl rfl (by decide) ⟨rfl, ⟨rfl, ⟨rfl, ⟨((zbt o1 rfl)).trans rfl, ⟨rfl, trivial⟩⟩⟩⟩⟩ ⟨.inl (zR (zaI p)), ⟨.inl (zR (zaR W)), ⟨.inl (zaM o1 (fun _ => (zcY _ _))), trivial⟩⟩⟩
   ·exact ⟨0, W, l, f, rfl, (by omega), hok, hS, (by rw [if_neg (by omega)] at hf; omega), rfl⟩
  rintro μ s ⟨k, Wq, lk, fk, rfl, hk, hokk, hSk, hfk, rfl⟩
  refine zQ (zU (o_d 1 [(57, bv (decide ((k : Int) < (n1 : Nat))))] (by kernel_rfl) (zF (zC (zQ (zad (t := decide ((k : Int) < (n1 : Nat))) rfl (fun h8 => ?_) (fun h8 => ?_)))))))
  ·skip
   have h8' : (k : Int) < (n1 : Nat) := of_decide_eq_true h8
   have hl0 := hokk.len
   have hb1 : k < lk.length := by omega
   refine (zfk hb1).elim fun x0 hx0q => ?_
   have hx0 := hx0q.1
   have hq1 := hokk.at_ hx0
   have hx0ok := hq1.1
   have hx0w := hq1.2
   have hx0b := hx0ok.w
   refine zar (zC (zQ (zat (zQ (zU (o_d 2 [(9, iv (k : Int)), (58, iv (k : Int))] (by kernel_rfl) (zF (zC (zQ (zU (o_d 2 [(60, iv (k : Int)), (59, slV 2 n1 o1)] (by kernel_rfl) (o_s (by exact zdV (o' := 4 * k) rfl ho1 rfl (by omega) (by omega)) ?_))))))))))))
   refine o_s (by refine zeL (o' := 3 + 4 * k) rfl (by omega)) ?_
   refine o_s (by refine zZ (v := iv x0.w) rfl (hf_sl (n := n1) rfl ho1 (by omega)) ?_; exact zdt (rec_r (m := none) zeJ (i := k) (j := 3) (by omega) hx0 rfl)) ?_
   refine o_d 1 [(64, iv 0)] (by kernel_rfl) (zF (zC (zat (zen (fun μ s => ∃ (t : Nat), ∃ (Wt : List Int), ∃ (lt : List Wl), ∃ (ft : Int), μ = x0.w.toNat - t ∧ ((t : Int) ≤ x0.w) ∧ (WOk L0 Wt lt) ∧ ((Wt, lt) = itr (ziO k) t (zfa L0 (zbT L0 r) k)) ∧ (ft = ((zeD Wt : Nat) : Int) ∧ ft ≤ fk ∧ (1 ≤ t → ft < fk)) ∧ s = ⟨reg [(64, iv (t : Int)), (63, iv x0.w), (9, iv (k : Int)), (56, iv (k : Int)), (55, iv (n1 : Nat)), (8, iv ft), (5, slV 2 n1 o1), (3, pv 1 0)], [cw (pl p), cw (ii Wt), slB zW (zdr wlF lt) o1]⟩) ⟨(x0.w.toNat - 0), ?_⟩ ?_))))
   ·skip
    refine ⟨⟨reg [(64, iv (0 : Int)), (63, iv x0.w), (9, iv (k : Int)), (56, iv (k : Int)), (55, iv (n1 : Nat)), (8, iv fk), (5, slV 2 n1 o1), (3, pv 1 0)], [cw (pl p), cw (ii Wq), slB zW (zdr wlF lk) o1]⟩, ?_⟩
    refine ⟨?_, ?_⟩
    ·exact Wk.ren [0, 1, 2] rfl rfl (by decide) ⟨rfl, ⟨rfl, ⟨rfl, ⟨rfl, ⟨rfl, ⟨rfl, ⟨((zbt o1 rfl)).trans rfl, ⟨rfl, trivial⟩⟩⟩⟩⟩⟩⟩⟩ ⟨.inl (zR (zaI p)), ⟨.inl (zR (zaR Wq)), ⟨.inl (zaM o1 (fun _ => (zcY _ _))), trivial⟩⟩⟩
    ·exact ⟨0, Wq, lk, fk, rfl, (by omega), hokk, hSk, (by omega), rfl⟩
   rintro μ s ⟨t, Wt, lt, ft, rfl, ht, hokt, hSt, hft, rfl⟩
   refine zQ (zU (o_d 1 [(65, bv (decide ((t : Int) < x0.w)))] (by kernel_rfl) (zF (zC (zQ (zad (t := decide ((t : Int) < x0.w)) rfl (fun h9 => ?_) (fun h9 => ?_)))))))
   ·skip
    have h9' : (t : Int) < x0.w := of_decide_eq_true h9
    refine zar (zC (zQ (zat (zQ (zQ (zU (o_d 2 [(67, bv (ft == 0)), (66, iv ft)] (by kernel_rfl) (zF (zC (zad (t := ft == 0) rfl (fun h10 => ?_) (fun h10 => ?_)))))))))))
    ·skip
     have h10' : ft = 0 := zbY h10
     refine zdx (zC (zQ (zU (o_d 1 [(111, sv 1 0 127 127)] (by kernel_rfl) (zio (k := 0) (n := 0) (o := none) (q := 127) (cs := ii ([] : List Int)) (xs := ii Wt) (cs2 := ii Wt) (zl := zI) rfl rfl rfl (fun m q => by cases q) (fun _ => ⟨rfl, rfl⟩) (by first | exact ii_len1 _ | (rw [zaQ]; omega) | simp [ii]) rfl rfl (zbS rfl (by rw [List.drop_zero]; exact List.take_of_length_le (by rw [zaQ, hokt.wl]; omega)) (by rw [zaQ, hokt.wl]; omega)) (by rw [zaQ, hokt.wl]) (by omega) (by omega) rfl (fun m11 e12 => ?_) (fun m11 => ?_))))))
     ·cases e12
     refine o_d 1 [(2, sv 3 0 127 (127 + m11))] (by kernel_rfl) (zF (zC (zaZ ?_)))
     have hW9 : Wt = zaA p := by rw [zaA, ← hL0]; exact (fin_b hSt (by omega) (by omega) hft.1 (by omega) (by omega))
     exact ⟨trivial, ⟨reg [(2, sv 0 0 127 (127 + m11))], [cw (ii Wt ++ zc1 zI m11)]⟩, Wk.ren [3] rfl rfl (by decide) ⟨rfl, trivial⟩ ⟨.inl (zR (zb5 Wt m11)), trivial⟩, [sv 0 0 127 (127 + m11)], (qD rfl rfl), (zV rfl qB), m11, rfl, (by rw [← hW9]; rfl)⟩
    have h10' : ¬ (ft = 0) := zbZ h10
    have hlt0 := hokt.len
    have hb2 : k < lt.length := by omega
    refine (zfk hb2).elim fun x hxq => ?_
    have hx := hxq.1
    have hq2 := hokt.at_ hx
    have hxok := hq2.1
    have hxw := hq2.2
    have hxs := hxok.s
    have hxb := hxok.b
    have hb3 : zeD Wt ≠ 0 := by omega
    refine (found hokt.wl hb3 hxok.a hxok.b).elim fun n hnq => ?_
    have hn := hnq.1
    have hn2 := hnq.2.1
    have hn3 := hnq.2.2.1
    have hp := hnq.2.2.2
    refine zar (zC (zQ (zU (o_s (by refine zZ (v := .agg ⟨ii Wt⟩) rfl rfl ?_; exact ii_all hokt.wl) ?_))))
    refine o_b 1 [(10, pv 3 0)] [cw (pl p), cw (ii Wt), slB zW (zdr wlF lt) o1, cw (ii (List.replicate 127 0))] (by kernel_rfl) (zde (by refine qP (c' := ii Wt) rfl rfl rfl ?_ ?_ ?_; exact (by show (ii Wt).length = 127; rw [zaQ, hokt.wl]); exact (by rw [zaQ, (List.length_replicate ..)]; omega); exact zdM (vs := ii Wt) (c := ii (List.replicate 127 0)) (by rw [zaQ, zaQ, hokt.wl, (List.length_replicate ..)])) ?_)
    refine zF (zC (zQ (zat (zen (fun μ s => ∃ (m : Nat), ∃ (lm : List Wl), μ = n - m ∧ (m ≤ n) ∧ (lm = lt.set k ⟨x.s, zcW x.a x.b m, x.b, x.w⟩) ∧ (WOk L0 Wt lm) ∧ s = ⟨reg [(10, pv 3 0), (64, iv (t : Int)), (63, iv x0.w), (9, iv (k : Int)), (56, iv (k : Int)), (55, iv (n1 : Nat)), (8, iv ft), (5, slV 2 n1 o1), (3, pv 1 0)], [cw (pl p), cw (ii Wt), slB zW (zdr wlF lm) o1, cw (ii Wt)]⟩) ⟨(n - 0), ?_⟩ ?_))))
    ·skip
     refine ⟨⟨reg [(10, pv 3 0), (64, iv (t : Int)), (63, iv x0.w), (9, iv (k : Int)), (56, iv (k : Int)), (55, iv (n1 : Nat)), (8, iv ft), (5, slV 2 n1 o1), (3, pv 1 0)], [cw (pl p), cw (ii Wt), slB zW (zdr wlF lt) o1, cw (ii Wt)]⟩, ?_⟩
     refine ⟨?_, ?_⟩
     ·exact Wk.ren [0, 1, 2, 3] rfl rfl (by decide) ⟨rfl, ⟨rfl, ⟨rfl, ⟨rfl, ⟨rfl, ⟨rfl, ⟨rfl, ⟨((zbt o1 rfl)).trans rfl, ⟨rfl, trivial⟩⟩⟩⟩⟩⟩⟩⟩⟩ ⟨.inl (zR (zaI p)), ⟨.inl (zR (zaR Wt)), ⟨.inl (zaM o1 (fun _ => (zcY _ _))), ⟨.inl (zR (zaR Wt)), trivial⟩⟩⟩⟩
     ·exact ⟨0, lt, rfl, (Nat.zero_le _), (set_id hx hxok.a), hokt, rfl⟩
    rintro μ s ⟨m, lm, rfl, hm, hlm, hokm, rfl⟩
    have hwr := walk_rng x.a x.b m
    have hlt := hokm.len
    have hx2 : lm[k]? = some ⟨x.s, zcW x.a x.b m, x.b, x.w⟩ := by rw [hlm, List.getElem?_set_self (by omega)]
    refine zQ (zQ (zU (o_d 2 [(70, iv (k : Int)), (69, slV 2 n1 o1)] (by kernel_rfl) (o_s (by exact zdV (o' := 4 * k) rfl ho1 rfl (by omega) (by omega)) ?_))))
    refine o_s (by refine zeL (o' := 1 + 4 * k) rfl (by omega)) ?_
    refine o_s (by refine zZ (v := iv (zcW x.a x.b m)) rfl (hf_sl (n := n1) rfl ho1 (by omega)) ?_; exact zdt (rec_r (m := none) zeJ (i := k) (j := 1) (by omega) hx2 rfl)) ?_
    refine o_s (by exact zbV (o := 0) (o' := ((zcW x.a x.b m).toNat)) rfl rfl (by omega) (by omega)) ?_
    refine o_s (by refine zZ (v := iv (Wt.getD ((zcW x.a x.b m).toNat) 0)) rfl rfl ?_; exact ii_g (i := ((zcW x.a x.b m).toNat)) rfl (by rw [hokt.wl]; omega)) ?_
    refine o_d 1 [(76, bv ((Wt.getD ((zcW x.a x.b m).toNat) 0) != (-1)))] (by kernel_rfl) (zF (zC (zad (t := (Wt.getD ((zcW x.a x.b m).toNat) 0) != (-1)) rfl (fun h13 => ?_) (fun h13 => ?_))))
    ·skip
     have h13' : Wt.getD ((zcW x.a x.b m).toNat) 0 ≠ (-1) := neI_t h13
     have hmlt : m < n := Nat.lt_of_le_of_ne hm (by rintro rfl; exact absurd hn2 (by assumption))
     refine zar (zC (zat (zc8 ["roundhouse/wheel.spun"] (by kernel_rfl) (r_d 4 [(80, iv (k : Int)), (79, slV 2 n1 o1), (78, iv (k : Int)), (77, slV 2 n1 o1)] (by kernel_rfl) (r_s (by exact zdV (o' := 4 * k) rfl ho1 rfl (by omega) (by omega)) ?_)))))
     refine r_s (by refine zeL (o' := 1 + 4 * k) rfl (by omega)) ?_
     refine r_s (by refine zZ (v := iv (zcW x.a x.b m)) rfl (hf_sl (n := n1) rfl ho1 (by omega)) ?_; exact zdt (rec_r (m := none) zeJ (i := k) (j := 1) (by omega) hx2 rfl)) ?_
     refine r_d 2 [(85, iv (k : Int)), (84, slV 2 n1 o1)] (by kernel_rfl) (r_s (by exact zdV (o' := 4 * k) rfl ho1 rfl (by omega) (by omega)) ?_)
     refine r_s (by refine zeL (o' := 2 + 4 * k) rfl (by omega)) ?_
     refine r_s (by refine zZ (v := iv x.b) rfl (hf_sl (n := n1) rfl ho1 (by omega)) ?_; exact zdt (rec_r (m := none) zeJ (i := k) (j := 2) (by omega) hx2 rfl)) ?_
     refine r_s (by refine zae (v := .int .i64 (i64.wrap (zcW x.a x.b m + x.b))) (congrArg (Value.int .i64) (w64 (by omega) (by omega))) ?_; kernel_rfl) ?_
     refine r_s (by refine zae (v := .int .i64 ((zcW x.a x.b m + x.b).tmod 127)) (congrArg (Value.int .i64) (rem_nn (by omega))) ?_; kernel_rfl) ?_
     refine r_s (by exact zdV (o' := 4 * k) rfl ho1 rfl (by omega) (by omega)) ?_
     refine r_s (by refine zeL (o' := 1 + 4 * k) rfl (by omega)) ?_
     refine r_s0 (by exact run_stSl (n2 := n1) rfl rfl ho1 (by omega) rfl rfl (by rw [zeO zeJ]; omega) (rec_w (y := (Wl.mk x.s ((zcW x.a x.b m + x.b) % 127) x.b x.w)) zeJ (i := k) (j := 1) (by omega) hx2 (Nat.le_of_ble_eq_true rfl) rfl)) ?_
     refine zcB (⟨n - (m + 1), ?_⟩)
     refine ⟨⟨reg [(10, pv 3 0), (64, iv (t : Int)), (63, iv x0.w), (9, iv (k : Int)), (56, iv (k : Int)), (55, iv (n1 : Nat)), (8, iv ft), (5, slV 2 n1 o1), (3, pv 1 0)], [cw (pl p), cw (ii Wt), slB zW (zdr wlF (lm.set k (Wl.mk x.s ((zcW x.a x.b m + x.b) % 127) x.b x.w))) o1, cw (ii Wt)]⟩, ?_⟩
     refine zgA (by omega) ⟨?_, ?_⟩
     ·exact Wk.ren [0, 1, 2, 3] rfl rfl (by decide) ⟨rfl, ⟨rfl, ⟨rfl, ⟨rfl, ⟨rfl, ⟨rfl, ⟨rfl, ⟨((zbt o1 rfl)).trans rfl, ⟨rfl, trivial⟩⟩⟩⟩⟩⟩⟩⟩⟩ ⟨.inl (zR (zaI p)), ⟨.inl (zR (zaR Wt)), ⟨.inl (zaM o1 (fun _ => (zcY _ _))), ⟨.inl (zR (zaR Wt)), trivial⟩⟩⟩⟩
     ·exact ⟨(m + 1), (lm.set k (Wl.mk x.s ((zcW x.a x.b m + x.b) % 127) x.b x.w)), rfl, (by omega), (by rw [hlm, List.set_set, walk_1]), (WOk.set (x := ⟨x.s, zcW x.a x.b m, x.b, x.w⟩) hokm hx2 (by omega)), rfl⟩
    have h13' : ¬ (Wt.getD ((zcW x.a x.b m).toNat) 0 ≠ (-1)) := neI_f h13
    have hmn : m = n := Nat.le_antisymm hm (Nat.le_of_not_lt fun q => hn3 m q (Decidable.of_not_not (by assumption)))
    have hfree : Wt.getD (zcW x.a x.b m).toNat 0 = -1 := by rw [hmn]; exact hn2
    refine zdx (zC (zQ (zc8 ["roundhouse/wheel.spun"] (by kernel_rfl) (r_d 2 [(94, iv (k : Int)), (93, slV 2 n1 o1)] (by kernel_rfl) (r_s (by exact zdV (o' := 4 * k) rfl ho1 rfl (by omega) (by omega)) ?_)))))
    refine r_s (by refine zeL (o' := 1 + 4 * k) rfl (by omega)) ?_
    refine r_s (by refine zZ (v := iv (zcW x.a x.b m)) rfl (hf_sl (n := n1) rfl ho1 (by omega)) ?_; exact zdt (rec_r (m := none) zeJ (i := k) (j := 1) (by omega) hx2 rfl)) ?_
    refine r_d 2 [(99, iv (k : Int)), (98, slV 2 n1 o1)] (by kernel_rfl) (r_s (by exact zdV (o' := 4 * k) rfl ho1 rfl (by omega) (by omega)) ?_)
    refine r_s (by refine zeL (o' := 4 * k) rfl (by omega)) ?_
    refine r_s (by refine zZ (v := iv x.s) rfl (hf_sl (n := n1) rfl ho1 (by omega)) ?_; exact zdt (rec_r (m := none) zeJ (i := k) (j := 0) (by omega) hx2 rfl)) ?_
    refine r_s (by exact zbV (o := 0) (o' := ((zcW x.a x.b m).toNat)) rfl rfl (by omega) (by omega)) ?_
    refine r_s0 (by refine qP (c' := ii (Wt.set ((zcW x.a x.b m).toNat) x.s)) rfl rfl rfl ?_ ?_ ?_; exact rfl; exact (by rw [zaQ, hokt.wl]; omega); exact ii_w (i := ((zcW x.a x.b m).toNat)) rfl (by rw [hokt.wl]; omega)) ?_
    refine zcB (zC (zQ (zU (o_s (by refine zZ (v := .agg ⟨ii (Wt.set ((zcW x.a x.b m).toNat) x.s)⟩) rfl rfl ?_; exact ii_all ((List.length_set ..).trans hokt.wl)) ?_))))
    refine o_s (by refine zZ (v := .agg ⟨ii Wt⟩) rfl rfl ?_; exact ii_all hokt.wl) ?_
    refine o_s (by refine run_eqa (a := ⟨ii (Wt.set ((zcW x.a x.b m).toNat) x.s)⟩) (b := ⟨ii Wt⟩) (r := eqI (Wt.set ((zcW x.a x.b m).toNat) x.s) Wt) (R := !(eqI (Wt.set ((zcW x.a x.b m).toNat) x.s) Wt)) ?_ rfl; exact eqI_run (Wt.set ((zcW x.a x.b m).toNat) x.s) Wt ((List.length_set ..).trans hokt.wl) hokt.wl rfl rfl) ?_
    refine zF (zY [(106, bv (!(eqI (Wt.set ((zcW x.a x.b m).toNat) x.s) Wt))), (64, iv (t : Int)), (63, iv x0.w), (9, iv (k : Int)), (56, iv (k : Int)), (55, iv (n1 : Nat)), (8, iv ft), (5, slV 2 n1 o1), (3, pv 1 0)] (by kernel_rfl) (zad (t := !(eqI (Wt.set ((zcW x.a x.b m).toNat) x.s) Wt)) rfl (fun _ => ?_) (fun q => by rw [(by rw [set_neq (by rw [hokt.wl]; omega) hfree (by omega)]; rfl : (!(eqI (Wt.set ((zcW x.a x.b m).toNat) x.s) Wt)) = true)] at q; cases q)))
    refine zU (o_d 1 [(107, iv ft)] (by kernel_rfl) (o_s (by refine zae (v := .int .i64 (i64.wrap (ft - 1))) (congrArg (Value.int .i64) (w64 (by omega) (by omega))) ?_; kernel_rfl) ?_))
    refine o_d 1 [(8, iv (ft - 1))] (by kernel_rfl) (zF (zC (zU (o_s (by refine zae (v := .int .i64 (i64.wrap ((t : Int) + 1))) (congrArg (Value.int .i64) (w64 (by omega) (by omega))) ?_; kernel_rfl) ?_))))
    refine o_d 1 [(64, iv ((t : Int) + 1))] (by kernel_rfl) (zF (⟨x0.w.toNat - (t + 1), ?_⟩))
    refine ⟨⟨reg [(64, iv ((t + 1) : Int)), (63, iv x0.w), (9, iv (k : Int)), (56, iv (k : Int)), (55, iv (n1 : Nat)), (8, iv (ft - 1)), (5, slV 2 n1 o1), (3, pv 1 0)], [cw (pl p), cw (ii (Wt.set ((zcW x.a x.b m).toNat) x.s)), slB zW (zdr wlF lm) o1]⟩, ?_⟩
    refine zgA (by omega) ⟨?_, ?_⟩
    ·exact Wk.ren [0, 1, 2] rfl rfl (by decide) ⟨rfl, ⟨rfl, ⟨rfl, ⟨rfl, ⟨rfl, ⟨rfl, ⟨((zbt o1 rfl)).trans rfl, ⟨rfl, trivial⟩⟩⟩⟩⟩⟩⟩⟩ ⟨.inl (zR (zaI p)), ⟨.inl (zR (zaR (Wt.set ((zcW x.a x.b m).toNat) x.s))), ⟨.inl (zaM o1 (fun _ => (zcY _ _))), trivial⟩⟩⟩
    ·exact ⟨(t + 1), (Wt.set ((zcW x.a x.b m).toNat) x.s), lm, (ft - 1), rfl, (by omega), (WOk.put hokm _ _), (by rw [hlm, hmn]; exact (turn_eq (by omega) hx hp).symm.trans (congrArg (ziO k) hSt)), (by have h9 := free_set (i := (zcW x.a x.b m).toNat) (s := x.s) (by rw [hokt.wl]; omega) hfree (by omega); omega), rfl⟩
   have h9' : ¬ ((t : Int) < x0.w) := of_decide_eq_false h9
   refine zdx (zC (zU (o_s (by refine zae (v := .int .i64 (i64.wrap ((k : Int) + 1))) (congrArg (Value.int .i64) (w64 (by omega) (by omega))) ?_; kernel_rfl) ?_)))
   refine o_d 1 [(56, iv ((k : Int) + 1))] (by kernel_rfl) (zF (⟨n1 - (k + 1), ?_⟩))
   refine ⟨⟨reg [(56, iv ((k + 1) : Int)), (55, iv (n1 : Nat)), (8, iv ft), (5, slV 2 n1 o1), (3, pv 1 0)], [cw (pl p), cw (ii Wt), slB zW (zdr wlF lt) o1]⟩, ?_⟩
   refine zgA (by omega) ⟨?_, ?_⟩
   ·exact Wk.ren [0, 1, 2] rfl rfl (by decide) ⟨rfl, ⟨rfl, ⟨rfl, ⟨((zbt o1 rfl)).trans rfl, ⟨rfl, trivial⟩⟩⟩⟩⟩ ⟨.inl (zR (zaI p)), ⟨.inl (zR (zaR Wt)), ⟨.inl (zaM o1 (fun _ => (zcY _ _))), trivial⟩⟩⟩
   ·exact ⟨(k + 1), Wt, lt, ft, rfl, (by omega), hokt, (by rw [hSt, show t = wtOf L0 k by omega]; rfl), (by omega), rfl⟩
  have h8' : ¬ ((k : Int) < (n1 : Nat)) := of_decide_eq_false h8
  refine zdx (⟨fk.toNat, ?_⟩)
  refine ⟨⟨reg [(8, iv fk), (5, slV 2 n1 o1), (3, pv 1 0)], [cw (pl p), cw (ii Wq), slB zW (zdr wlF lk) o1]⟩, ?_⟩
  refine zgA (by omega) ⟨?_, ?_⟩
  ·exact Wk.ren [0, 1, 2] rfl rfl (by decide) ⟨rfl, ⟨((zbt o1 rfl)).trans rfl, ⟨rfl, trivial⟩⟩⟩ ⟨.inl (zR (zaI p)), ⟨.inl (zR (zaR Wq)), ⟨.inl (zaM o1 (fun _ => (zcY _ _))), trivial⟩⟩⟩
  ·exact ⟨(r + 1), Wq, lk, fk, rfl, hokk, (by rw [hSk, show k = L0.length by omega]; rfl), (by rw [if_neg (by omega)]; exact hfk.1), (by omega), rfl⟩
 have h7' : ¬ (f > 0) := of_decide_eq_false h7
 refine zdx (zC (zQ (zU (o_d 1 [(111, sv 1 0 127 127)] (by kernel_rfl) (zio (k := 0) (n := 0) (o := none) (q := 127) (cs := ii ([] : List Int)) (xs := ii W) (cs2 := ii W) (zl := zI) rfl rfl rfl (fun m q => by cases q) (fun _ => ⟨rfl, rfl⟩) (by first | exact ii_len1 _ | (rw [zaQ]; omega) | simp [ii]) rfl rfl (zbS rfl (by rw [List.drop_zero]; exact List.take_of_length_le (by rw [zaQ, hok.wl]; omega)) (by rw [zaQ, hok.wl]; omega)) (by rw [zaQ, hok.wl]) (by omega) (by omega) rfl (fun m14 e15 => ?_) (fun m14 => ?_))))))
 ·cases e15
 refine o_d 1 [(2, sv 3 0 127 (127 + m14))] (by kernel_rfl) (zF (zC (zaZ ?_)))
 have hW9 : W = zaA p := by rw [zaA, ← hL0]; exact (fin_a hS hf hr (by omega))
 exact ⟨trivial, ⟨reg [(2, sv 0 0 127 (127 + m14))], [cw (ii W ++ zc1 zI m14)]⟩, Wk.ren [3] rfl rfl (by decide) ⟨rfl, trivial⟩ ⟨.inl (zR (zb5 W m14)), trivial⟩, [sv 0 0 127 (127 + m14)], (qD rfl rfl), (zV rfl qB), m14, rfl, (by rw [← hW9]; rfl)⟩
end Go.Rh

set_option maxHeartbeats 8000000
namespace Go.Rh
def qQ (p : qJ) (is : Bool) : Int := if is = true then p 0 else -1
theorem PVersionC {P : Program} (hc : zas P) (p : qJ) (is : Bool) (nr : Nat → Int × Bool) (q : Option Nat) :
    Env P "(*roundhouse/plane.Plane).Version" [pv 0 0] ([cr (zL p is nr (slV 1 127 q)), cr []]) (fun v h' => v = .tuple #[iv (p 0), bv is] ∧ h' = [cr (zL p is nr (slV 1 127 q)), cr []]) := by
 refine Env.by2 hc ?_
 unfold zb6
 show GC _ 2 _ _ ⟨reg [(0, pv 0 0)], [cr (zL p is nr (slV 1 127 q)), cr []]⟩
 refine zQ (zU (o_d 2 [(3, bv false), (2, iv 0)] (by kernel_rfl) (zF (zC (zQ (zc8 [] (by kernel_rfl) (r_d 5 [(8, pv 0 0), (7, pv 0 0), (6, pv 0 0), (5, pv 0 0), (4, pv 0 0)] (by kernel_rfl) (r_s (by refine zZ (v := iv (p 0)) rfl rfl ?_; exact plane_rP (pl_r p 0 rfl (by omega))) ?_))))))))
 refine r_d 4 [(13, pv 0 330), (12, pv 0 0), (11, pv 0 0), (10, pv 0 0)] (by kernel_rfl) (r_s (by refine zZ (v := bv is) rfl rfl ?_; exact (plane_rT 0).trans rfl) ?_)
 exact r_d 2 [(3, bv is), (2, iv (p 0))] (by kernel_rfl) (zcB (zC (zaZ (⟨trivial, ⟨reg [(2, iv (p 0)), (3, bv is)], [cr (zL p is nr (slV 1 127 q)), cr []]⟩, Wk.ren [0, 1] rfl rfl (by decide) ⟨rfl, ⟨rfl, trivial⟩⟩ ⟨.inl (zaj (qU q rfl)), ⟨.inl rfl, trivial⟩⟩, [iv (p 0), bv is], (qD rfl (qD rfl rfl)), (zV rfl (zV rfl qB)), rfl, rfl⟩))))
theorem PLayC {P : Program} (hc : qW P) (p : qJ) (is : Bool) (nr : Nat → Int × Bool) (q : Option Nat) (x : qJ) :
    Env P "(*roundhouse/plane.maybe[roundhouse/api.Pool]).lay" [pv 0 0, qL x] ([cw (zL p is nr (slV 1 127 q)), cr []]) (fun v h' => v = .tuple #[] ∧ h' = [cw (zL x true nr (slV 1 127 q)), cr []]) := by
 refine Env.by2 hc ?_
 unfold zbp
 show GC _ 2 _ _ ⟨reg [(0, pv 0 0), (1, qL x)], [cw (zL p is nr (slV 1 127 q)), cr []]⟩
 refine zQ (zU (o_b 1 [(3, pv 2 0)] [cw (zL p is nr (slV 1 127 q)), cr [], cw (pl x)] (by kernel_rfl) (zF (zC (zU (o_d 2 [(5, pv 0 0), (4, pv 0 0)] (by kernel_rfl) (o_s (by refine zZ (v := qL x) rfl rfl ?_; exact zau x) ?_)))))))
 refine o_d 2 [(8, pv 0 0), (7, pv 0 0)] (by kernel_rfl) (zde (by refine qP (c' := zL x is nr (slV 1 127 q)) rfl rfl rfl ?_ ?_ ?_; exact zM _; exact plane_le (by omega); exact plane_wP) ?_)
 refine o_b 2 [(10, pv 0 330), (9, pv 0 0)] [cw (zL x is nr (slV 1 127 q)), cr [], cw (pl x)] (by kernel_rfl) (zde (by refine qP (c' := zL x true nr (slV 1 127 q)) rfl rfl rfl ?_ ?_ ?_; exact rfl; exact plane_le (by omega); exact plane_wI) ?_)
 exact zF (⟨trivial, ⟨reg [], [cw (zL x true nr (slV 1 127 q)), cr []]⟩, Wk.ren [0, 1] rfl rfl (by decide) trivial ⟨.inl (zaj (qU q rfl)), ⟨.inl rfl, trivial⟩⟩, [], rfl, qB, rfl, rfl⟩)
theorem PLoadC {P : Program} (hc : zaW P) (h_plane_maybe_api_Pool_lay : qW P) (h_wheel_Make : zbI P) (h_wheel_spun : zbe P) (h_sip_Words : zbl P) (h_sip_Of : zcp P) (h_sip_number_byte : qZ P) (h_sip_state_take : zaf P) (h_sip_state_rounds : qM P) (h_sip_state_round : qO P) (h_math_bits_RotateLeft64 : zS P) (p : qJ) (is : Bool) (nr : Nat → Int × Bool) (q : Option Nat) (x : qJ) :
    Env P "(*roundhouse/plane.Plane).Load" [pv 0 0, qL x] ([cw (zL p is nr (slV 1 127 q)), cr []]) (fun v h' => v = .tuple #[] ∧ ∃ m, h' = [cw (zL x true nr (slV 2 127 (some m))), cr [], slB zI (ii (zaA x)) (some m)]) := by
 refine Env.by2 hc ?_
 unfold zcS
 show GC _ 2 _ _ ⟨reg [(0, pv 0 0), (1, qL x)], [cw (zL p is nr (slV 1 127 q)), cr []]⟩
 refine zQ (zU (o_b 1 [(3, pv 2 0)] [cw (zL p is nr (slV 1 127 q)), cr [], cw (pl x)] (by kernel_rfl) (zF (zC (zQ (zbE [cw (zL p is nr (slV 1 127 q)), cr [], cw (pl x)] (by kernel_rfl) (d_n 3 3 3 [(6, pv 0 0), (5, pv 0 0), (4, pv 0 0)] [cw (zL p is nr (slV 1 127 q)), cr [], cw (pl x)] [] (by kernel_rfl) rfl rfl (d_s rfl rfl rfl (by kernel_rfl) (by refine zZ (v := qL x) rfl rfl ?_; exact zau x) ?_))))))))
 refine zgl [0, 1] [cw (zL p is nr (slV 1 127 q)), cr []] [pv 0 0, qL x] (PLayC h_plane_maybe_api_Pool_lay p is nr q x) rfl (zaG rfl (zaG (qK (zaT x)) rfl)) ⟨⟨_, rfl, qA (.inl (zaO (qU q rfl) (fun q => rfl)))⟩, ⟨⟨_, rfl, zK⟩, trivial⟩⟩ (by decide) ⟨_, _, ⟨rfl, rfl⟩, Nat.le_refl _, zfW rfl (zbb [_] [])⟩ ?_ (by kernel_rfl)
 rintro v1 h1' ⟨rfl, rfl⟩
 refine ⟨(zA qI (zA zE z9)), .tuple #[], [cw (zL x true nr (slV 1 127 q)), cr [], cw (pl x)], [], (by simp [zbw]), ⟨zbh (qU q rfl), ⟨(by cases true <;> rfl), ⟨rfl, trivial⟩⟩⟩, trivial, ?_⟩
 refine zcf (zC (zU (o_d 1 [(9, pv 0 0)] (by kernel_rfl) (o_s (by refine zZ (v := qL x) rfl rfl ?_; exact zau x) ?_))))
 refine zb8 (zdI [] [] [qL x] (makeWC h_wheel_Make h_wheel_spun h_sip_Words h_sip_Of h_sip_number_byte h_sip_state_take h_sip_state_rounds h_sip_state_round h_math_bits_RotateLeft64 x) rfl (zaG (qK (zaT x)) rfl) trivial (by decide) ?_)
 rintro v1 h1' ⟨m1, rfl, rfl⟩
 refine ⟨z9, slV 3 127 (some m1), [cw (zL x true nr (slV 1 127 q)), cr [], cw (pl x)], [slB zI (ii (zaA x)) (some m1)], rfl, ⟨rfl, ⟨rfl, ⟨rfl, trivial⟩⟩⟩, ⟨(Option.some.inj (zaM (some m1) (fun _ => (zb5 _ _)))).symm, trivial⟩, ?_⟩
 refine o_d 2 [(13, pv 0 459), (12, pv 0 0)] (by kernel_rfl) (zde (by refine qP (c' := zL x true nr (slV 3 127 (some m1))) rfl rfl rfl ?_ ?_ ?_; exact rfl; exact plane_le (by omega); exact plane_wW) ?_)
 exact zF (⟨trivial, ⟨reg [], [cw (zL x true nr (slV 2 127 (some m1))), cr [], slB zI (ii (zaA x)) (some m1)]⟩, Wk.ren [0, 1, 3] rfl rfl (by decide) trivial ⟨.inl (zaj rfl), ⟨.inl rfl, ⟨.inl (zaM (some m1) (fun _ => (zb5 _ _))), trivial⟩⟩⟩, [], rfl, qB, rfl, m1, rfl⟩)
theorem PNewC {P : Program} (hc : zeR P)  :
    Env P "roundhouse/plane.New" [] ([]) (fun v h' => v = pv 0 0 ∧ h' = [cw (zL zG false nr0 (.slice none 0 0))]) := by
 refine Env.by2 hc ?_
 unfold zgs
 show GC _ 0 _ _ ⟨reg [], []⟩
 refine zQ (zU (o_d 1 [(0, .pointer none)] (by kernel_rfl) (zF (zC (zQ (zU (o_s (by refine zb2 (c := zL zG false nr0 (.slice none 0 0)) ?_; exact bld_plane) ?_)))))))
 exact o_b 2 [(0, pv 0 0), (2, pv 0 0)] [cw (zL zG false nr0 (.slice none 0 0))] (by kernel_rfl) (zF (zC (zaZ (⟨trivial, ⟨reg [(0, pv 0 0)], [cw (zL zG false nr0 (.slice none 0 0))]⟩, Wk.ren [0] rfl rfl (by decide) ⟨rfl, trivial⟩ ⟨.inl (zaj rfl), trivial⟩, [pv 0 0], (qD rfl rfl), (zV rfl qB), rfl, rfl⟩))))
theorem zdo {P : Program} (hc : za3 P) (h_plane_Plane_Version : zas P) (p : qJ) (is : Bool) (nr : Nat → Int × Bool) (q : Option Nat) (b : Int) (w : List Nt) :
    Env P "(*roundhouse/yard.unit).version" [pv 0 0] ([cr (z8 1 p b 2), cr (zL p is nr (slV 3 127 q)), .chan 1 (w.map ntE), cr []]) (fun v h' => v = iv (qQ p is) ∧ h' = [cr (z8 1 p b 2), cr (zL p is nr (slV 3 127 q)), .chan 1 (w.map ntE), cr []]) := by
 refine Env.by2 hc ?_
 unfold zct
 show GC _ 4 _ _ ⟨reg [(0, pv 0 0)], [cr (z8 1 p b 2), cr (zL p is nr (slV 3 127 q)), .chan 1 (w.map ntE), cr []]⟩
 refine zQ (zU (o_d 1 [(2, iv 0)] (by kernel_rfl) (zF (zC (zQ (zQ (zU (o_d 3 [(8, pv 0 0), (7, pv 0 0), (6, pv 0 0)] (by kernel_rfl) (o_s (by refine zZ (v := pv 1 0) rfl rfl ?_; exact rfl) ?_)))))))))
 refine zb8 (zdI [1, 3] [cr (zL p is nr (slV 1 127 q)), cr []] [pv 0 0] (PVersionC h_plane_Plane_Version p is nr q) rfl rfl ⟨⟨_, rfl, qA (.inl (zaO (qU q rfl) (fun q => q)))⟩, ⟨⟨_, rfl, zK⟩, trivial⟩⟩ (by decide) ?_)
 rintro v1 h1' ⟨rfl, rfl⟩
 refine ⟨(zA zE (zA zE z9)), .tuple #[iv (p 0), bv is], [cr (z8 1 p b 2), cr (zL p is nr (slV 3 127 q)), .chan 1 (w.map ntE), cr []], [], (qK rfl), ⟨rfl, ⟨rfl, ⟨rfl, ⟨(by cases true <;> rfl), trivial⟩⟩⟩⟩, trivial, ?_⟩
 refine o_d 5 [(4, bv is), (3, iv (p 0)), (12, bv is), (11, iv (p 0)), (5, .tuple #[iv (p 0), bv is])] (by kernel_rfl) (zF (zC (zQ (zU (o_d 1 [(13, bv is)] (by kernel_rfl) (zF (zC (zad (t := is) rfl (fun h1 => ?_) (fun h1 => ?_)))))))))
 ·skip
  exact zQ (zU (o_d 2 [(2, iv (p 0)), (14, iv (p 0))] (by kernel_rfl) (zF (zC (zaZ (⟨trivial, ⟨reg [(2, iv (p 0))], [cr (z8 1 p b 2), cr (zL p is nr (slV 3 127 q)), .chan 1 (w.map ntE), cr []]⟩, Wk.ren [0, 1, 2, 3] rfl rfl (by decide) ⟨rfl, trivial⟩ ⟨.inl (zaP rfl rfl), ⟨.inl (zaj (qU q rfl)), ⟨.inl (congrArg some (zac _).symm), ⟨.inl rfl, trivial⟩⟩⟩⟩, [iv (p 0)], (qD rfl rfl), (zV rfl qB), (by simp [qQ, one, *]), rfl⟩))))))
 exact zar (zC (zQ (zU (o_d 1 [(2, iv (-1))] (by kernel_rfl) (zF (zC (zaZ (⟨trivial, ⟨reg [(2, iv (-1))], [cr (z8 1 p b 2), cr (zL p is nr (slV 3 127 q)), .chan 1 (w.map ntE), cr []]⟩, Wk.ren [0, 1, 2, 3] rfl rfl (by decide) ⟨rfl, trivial⟩ ⟨.inl (zaP rfl rfl), ⟨.inl (zaj (qU q rfl)), ⟨.inl (congrArg some (zac _).symm), ⟨.inl rfl, trivial⟩⟩⟩⟩, [iv (-1)], (qD rfl rfl), (zV rfl qB), (by simp [qQ, one, *]), rfl⟩))))))))
theorem ULoadC {P : Program} (hc : zbq P) (h_plane_Plane_Load : zaW P) (h_plane_maybe_api_Pool_lay : qW P) (h_wheel_Make : zbI P) (h_wheel_spun : zbe P) (h_sip_Words : zbl P) (h_sip_Of : zcp P) (h_sip_number_byte : qZ P) (h_sip_state_take : zaf P) (h_sip_state_rounds : qM P) (h_sip_state_round : qO P) (h_math_bits_RotateLeft64 : zS P) (p : qJ) (is : Bool) (nr : Nat → Int × Bool) (q : Option Nat) (b : Int) (w : List Nt) (x : qJ) :
    Env P "(*roundhouse/yard.unit).load" [pv 0 0, qL x] ([cw (z8 1 p b 2), cw (zL p is nr (slV 3 127 q)), .chan 1 (w.map ntE), cr []]) (fun v h' => v = .tuple #[] ∧ ∃ m, h' = [cw (z8 1 x b 2), cw (zL x true nr (slV 4 127 (some m))), .chan 1 (w.map ntE), cr [], slB zI (ii (zaA x)) (some m)]) := by
 refine Env.by2 hc ?_
 unfold zdy
 show GC _ 4 _ _ ⟨reg [(0, pv 0 0), (1, qL x)], [cw (z8 1 p b 2), cw (zL p is nr (slV 3 127 q)), .chan 1 (w.map ntE), cr []]⟩
 refine zQ (zU (o_b 1 [(3, pv 4 0)] [cw (z8 1 p b 2), cw (zL p is nr (slV 3 127 q)), .chan 1 (w.map ntE), cr [], cw (pl x)] (by kernel_rfl) (zF (zC (zQ (zU (o_d 1 [(4, pv 0 0)] (by kernel_rfl) (o_s (by refine zZ (v := qL x) rfl rfl ?_; exact zau x) ?_))))))))
 refine o_d 2 [(7, pv 0 1), (6, pv 0 0)] (by kernel_rfl) (zde (by refine qP (c' := z8 1 x b 2) rfl rfl rfl ?_ ?_ ?_; exact zM _; exact unit_le (by omega); exact unit_wP) ?_)
 refine zF (zC (zbE [cw (z8 1 x b 2), cw (zL p is nr (slV 3 127 q)), .chan 1 (w.map ntE), cr [], cw (pl x)] (by kernel_rfl) (d_n 3 3 5 [(10, pv 0 0), (9, pv 0 0), (8, pv 0 0)] [cw (z8 1 x b 2), cw (zL p is nr (slV 3 127 q)), .chan 1 (w.map ntE), cr [], cw (pl x)] [] (by kernel_rfl) rfl rfl (d_s rfl rfl rfl (by kernel_rfl) (by refine zZ (v := pv 1 0) rfl rfl ?_; exact rfl) ?_))))
 refine d_s rfl rfl rfl (by kernel_rfl) (by refine zZ (v := qL x) rfl rfl ?_; exact zau x) ?_
 refine zgl [1, 3] [cw (zL p is nr (slV 1 127 q)), cr []] [pv 0 0, qL x] (PLoadC h_plane_Plane_Load h_plane_maybe_api_Pool_lay h_wheel_Make h_wheel_spun h_sip_Words h_sip_Of h_sip_number_byte h_sip_state_take h_sip_state_rounds h_sip_state_round h_math_bits_RotateLeft64 p is nr q x) rfl (zaG rfl (zaG (qK (zaT x)) rfl)) ⟨⟨_, rfl, qA (.inl (zaO (qU q rfl) (fun q => rfl)))⟩, ⟨⟨_, rfl, zK⟩, trivial⟩⟩ (by decide) ⟨_, _, ⟨rfl, 0, rfl⟩, Nat.le_add_right 2 1, zfW rfl (zbb [_] [_])⟩ ?_ (by kernel_rfl)
 rintro v1 h1' ⟨rfl, m1, rfl⟩
 refine ⟨(zA qI (zA zE z9)), .tuple #[], [cw (z8 1 x b 2), cw (zL x true nr (slV 5 127 (some m1))), .chan 1 (w.map ntE), cr [], cw (pl x)], [slB zI (ii (zaA x)) (some m1)], (by simp [zbw]), ⟨rfl, ⟨zbh rfl, ⟨rfl, ⟨(by cases true <;> rfl), ⟨rfl, trivial⟩⟩⟩⟩⟩, ⟨(Option.some.inj (zaM (some m1) (fun _ => (zb5 _ _)))).symm, trivial⟩, ?_⟩
 exact zcf (⟨trivial, ⟨reg [], [cw (z8 1 x b 2), cw (zL x true nr (slV 4 127 (some m1))), .chan 1 (w.map ntE), cr [], slB zI (ii (zaA x)) (some m1)]⟩, Wk.ren [0, 1, 2, 3, 5] rfl rfl (by decide) trivial ⟨.inl (zaP rfl rfl), ⟨.inl (zaj rfl), ⟨.inl (congrArg some (zac _).symm), ⟨.inl rfl, ⟨.inl (zaM (some m1) (fun _ => (zb5 _ _))), trivial⟩⟩⟩⟩⟩, [], rfl, qB, rfl, m1, rfl⟩)
end Go.Rh
