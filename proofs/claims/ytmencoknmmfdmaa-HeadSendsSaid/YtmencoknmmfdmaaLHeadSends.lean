import Derived.Test.YtmencoknmmfdmaaMf
set_option linter.unusedSimpArgs false
set_option linter.unusedVariables false
set_option maxRecDepth 100000
set_option maxHeartbeats 8000000
namespace Go.Rh
def c_law11_HeadSends : IFunc :=
  ⟨141, [.tmp 6], (.seq (.reg [⟨(some 6), .mv (.c (.bool false)), none⟩]) (.seq (.seq (.reg [⟨(some 17), .call "roundhouse/roundhouselaw11.known" [], none⟩, ⟨(some 18), .un .not (.t 17), none⟩]) (.cond (.t 18) (.seq (.reg [⟨(some 6), .mv (.c (.bool false)), none⟩]) .ret) .skip)) (.seq (.reg [⟨(some 19), .mv (.t 0), none⟩, ⟨(some 20), .call "roundhouse/roundhouselaw6.Make" [(.t 19), (.c (.int .i64 30))], none⟩, ⟨(some 7), .new [(324, (.int .i64 0)), (6, (.int .u64 0))], none⟩, ⟨none, .st 330 (.t 7) (.t 20), none⟩]) (.seq (.reg [⟨(some 21), .mv (.t 1), none⟩, ⟨(some 22), .call "roundhouse/roundhouselaw11.within" [(.t 21), (.c (.int .i64 8))], none⟩, ⟨(some 23), .bin .add (.c (.int .i64 1)) (.t 22), none⟩, ⟨(some 8), .mv (.t 23), none⟩]) (.seq (.reg [⟨(some 25), .ld (some 330) (.t 7), none⟩, ⟨(some 26), .mv (.t 8), none⟩, ⟨(some 27), .call "roundhouse/head.New" [(.t 25), (.t 26)], none⟩, ⟨(some 24), .mv (.t 27), none⟩, ⟨(some 28), .ext 0 (.t 24), none⟩, ⟨(some 29), .ext 1 (.t 24), none⟩, ⟨(some 9), .mv (.t 28), none⟩, ⟨(some 10), .mv (.t 29), none⟩]) (.seq (.seq (.reg [⟨(some 30), .mv (.t 10), none⟩, ⟨(some 31), .bin .neq (.t 30) (.c (.int .i64 0)), none⟩, ⟨(some 32), .mv (.t 31), none⟩, ⟨(some 33), .mv (.t 9), some (32, false)⟩, ⟨(some 34), .eqn false .ptr (.t 33) (.c (.pointer none)), some (32, false)⟩, ⟨(some 35), .pick (.t 32) (.c (.bool true)) (.t 34), none⟩]) (.cond (.t 35) (.seq (.reg [⟨(some 6), .mv (.c (.bool false)), none⟩]) .ret) .skip)) (.seq (.reg [⟨(some 11), .new [(16, (.bool false))], none⟩]) (.seq (.seq (.reg [⟨(some 12), .mv (.c (.int .i64 0)), none⟩]) (.block 0 (.loop (.seq (.seq (.reg [⟨(some 36), .mv (.t 12), none⟩, ⟨(some 37), .mv (.t 2), none⟩, ⟨(some 38), .lenS (.t 37), none⟩, ⟨(some 39), .bin .lss (.t 36) (.t 38), none⟩, ⟨(some 40), .mv (.t 39), none⟩, ⟨(some 41), .mv (.t 12), some (40, true)⟩, ⟨(some 42), .bin .lss (.t 41) (.c (.int .i64 20)), some (40, true)⟩, ⟨(some 43), .pick (.t 40) (.t 42) (.c (.bool false)), none⟩]) (.cond (.t 43) .skip (.exit 0))) (.seq (.block 1 (.seq (.reg [⟨(some 46), .mv (.t 2), none⟩, ⟨(some 47), .mv (.t 12), none⟩, ⟨(some 48), .iadS 1 (.t 46) (.t 47), none⟩, ⟨(some 49), .ld none (.t 48), none⟩, ⟨(some 50), .call "roundhouse/roundhouselaw11.within" [(.t 49), (.c (.int .i64 1048576))], none⟩, ⟨(some 13), .mv (.t 50), none⟩]) (.seq (.dreg [⟨(some 51), .mv (.t 9), none⟩, ⟨(some 52), .mv (.t 13), none⟩, ⟨(some 53), .mv (.t 8), none⟩, ⟨(some 54), .bin .rem (.t 52) (.t 53), none⟩, ⟨(some 55), .fad 0 (.t 7), none⟩, ⟨(some 56), .ld none (.t 55), none⟩, ⟨(some 57), .mv (.t 13), none⟩, ⟨(some 58), .bin .quo (.t 57) (.c (.int .i64 8)), none⟩, ⟨(some 59), .bin .rem (.t 58) (.c (.int .i64 2)), none⟩, ⟨(some 60), .bin .sub (.t 56) (.t 59), none⟩, ⟨(some 61), .bld [(3, (.int .i64 0)), (2, (.bool false)), (5, (.int .i64 0)), (2, (.int .u64 0)), (324, (.int .i64 0)), (6, (.int .u64 0))] [(0, 1, (.t 54)), (2, 1, (.t 60)), (4, 1, (.c (.bool true)))], none⟩, ⟨(some 62), .call "(*roundhouse/head.Head).Heard" [(.t 51), (.t 61)], none⟩] [[], [], [], [1, 2], [], [4], [], [6], [7, 6], [5, 4, 8, 7, 6], [3, 1, 2, 9, 5, 4, 8, 7, 6], [0, 10, 3, 1, 2, 9, 5, 4, 8, 7, 6]]) (.dreg [⟨(some 63), .mv (.t 13), none⟩, ⟨(some 64), .mv (.t 8), none⟩, ⟨(some 65), .bin .rem (.t 63) (.t 64), none⟩, ⟨(some 66), .mv (.t 13), none⟩, ⟨(some 67), .mv (.t 8), none⟩, ⟨(some 68), .bin .rem (.t 66) (.t 67), none⟩, ⟨(some 69), .iadA 16 1 (.t 11) (.t 68), none⟩, ⟨(some 70), .ld none (.t 69), none⟩, ⟨(some 71), .mv (.t 70), none⟩, ⟨(some 72), .mv (.t 13), some (71, false)⟩, ⟨(some 73), .bin .quo (.t 72) (.c (.int .i64 8)), some (71, false)⟩, ⟨(some 74), .bin .rem (.t 73) (.c (.int .i64 2)), some (71, false)⟩, ⟨(some 75), .bin .eql (.t 74) (.c (.int .i64 0)), some (71, false)⟩, ⟨(some 76), .pick (.t 71) (.c (.bool true)) (.t 75), none⟩, ⟨(some 77), .iadA 16 1 (.t 11) (.t 65), none⟩, ⟨none, .st 1 (.t 77) (.t 76), none⟩] [[], [], [0, 1], [], [], [3, 4], [5, 3, 4], [6, 5, 3, 4], [7, 6, 5, 3, 4], [8, 7, 6, 5, 3, 4], [9, 8, 7, 6, 5, 3, 4], [10, 9, 8, 7, 6, 5, 3, 4], [11, 10, 9, 8, 7, 6, 5, 3, 4], [8, 7, 6, 5, 3, 4, 12, 11, 10, 9], [2, 0, 1, 3, 4, 5, 6, 7, 8, 9, 10, 11, 12, 13], [14, 2, 0, 1, 3, 4, 5, 6, 7, 8, 9, 10, 11, 12, 13]])))) (.reg [⟨(some 44), .mv (.t 12), none⟩, ⟨(some 45), .bin .add (.t 44) (.c (.int .i64 1)), none⟩, ⟨(some 12), .mv (.t 45), none⟩])))))) (.seq (.reg [⟨(some 78), .mv (.t 9), none⟩, ⟨(some 79), .call "(*roundhouse/head.Head).Send" [(.t 78)], none⟩, ⟨(some 14), .mv (.t 79), none⟩]) (.seq (.reg [⟨(some 15), .mv (.c (.int .i64 0)), none⟩]) (.seq (.seq (.reg [⟨(some 16), .mv (.c (.int .i64 0)), none⟩]) (.block 2 (.loop (.seq (.seq (.reg [⟨(some 80), .mv (.t 16), none⟩, ⟨(some 81), .mv (.t 8), none⟩, ⟨(some 82), .bin .lss (.t 80) (.t 81), none⟩]) (.cond (.t 82) .skip (.exit 2))) (.seq (.block 3 (.seq (.seq (.reg [⟨(some 85), .mv (.t 16), none⟩, ⟨(some 86), .iadA 16 1 (.t 11) (.t 85), none⟩, ⟨(some 87), .ld none (.t 86), none⟩]) (.cond (.t 87) (.exit 3) .skip)) (.seq (.seq (.dreg [⟨(some 88), .mv (.t 15), none⟩, ⟨(some 89), .mv (.t 14), none⟩, ⟨(some 90), .lenS (.t 89), none⟩, ⟨(some 91), .bin .geq (.t 88) (.t 90), none⟩, ⟨(some 92), .mv (.t 91), none⟩, ⟨(some 93), .mv (.t 14), some (92, false)⟩, ⟨(some 94), .mv (.t 15), some (92, false)⟩, ⟨(some 95), .iadS 342 (.t 93) (.t 94), some (92, false)⟩, ⟨(some 96), .fad 0 (.t 95), some (92, false)⟩, ⟨(some 97), .ld none (.t 96), some (92, false)⟩, ⟨(some 98), .mv (.t 16), some (92, false)⟩, ⟨(some 99), .bin .neq (.t 97) (.t 98), some (92, false)⟩, ⟨(some 100), .pick (.t 92) (.c (.bool true)) (.t 99), none⟩, ⟨(some 101), .mv (.t 100), none⟩, ⟨(some 102), .mv (.t 14), some (101, false)⟩, ⟨(some 103), .mv (.t 15), some (101, false)⟩, ⟨(some 104), .iadS 342 (.t 102) (.t 103), some (101, false)⟩, ⟨(some 105), .fad 4 (.t 104), some (101, false)⟩, ⟨(some 106), .ld none (.t 105), some (101, false)⟩, ⟨(some 107), .pick (.t 101) (.c (.bool true)) (.t 106), none⟩, ⟨(some 108), .mv (.t 107), none⟩, ⟨(some 109), .mv (.t 14), some (108, false)⟩, ⟨(some 110), .mv (.t 15), some (108, false)⟩, ⟨(some 111), .iadS 342 (.t 109) (.t 110), some (108, false)⟩, ⟨(some 112), .fad 3 (.t 111), some (108, false)⟩, ⟨(some 113), .ld none (.t 112), some (108, false)⟩, ⟨(some 114), .un .not (.t 113), some (108, false)⟩, ⟨(some 115), .pick (.t 108) (.c (.bool true)) (.t 114), none⟩, ⟨(some 116), .mv (.t 115), none⟩, ⟨(some 117), .mv (.t 14), some (116, false)⟩, ⟨(some 118), .mv (.t 15), some (116, false)⟩, ⟨(some 119), .iadS 342 (.t 117) (.t 118), some (116, false)⟩, ⟨(some 120), .fad 2 (.t 119), some (116, false)⟩, ⟨(some 121), .ld none (.t 120), some (116, false)⟩, ⟨(some 122), .fad 0 (.t 7), some (116, false)⟩, ⟨(some 123), .ld none (.t 122), some (116, false)⟩, ⟨(some 124), .bin .neq (.t 121) (.t 123), some (116, false)⟩, ⟨(some 125), .pick (.t 116) (.c (.bool true)) (.t 124), none⟩, ⟨(some 126), .mv (.t 125), none⟩, ⟨(some 127), .mv (.t 14), some (126, false)⟩, ⟨(some 128), .mv (.t 15), some (126, false)⟩, ⟨(some 129), .iadS 342 (.t 127) (.t 128), some (126, false)⟩, ⟨(some 130), .fad 12 (.t 129), some (126, false)⟩, ⟨(some 131), .ld (some 330) (.t 130), some (126, false)⟩, ⟨(some 132), .ld (some 330) (.t 7), some (126, false)⟩, ⟨(some 133), .eqa true [(330, .i)] (.t 131) (.t 132), some (126, false)⟩, ⟨(some 134), .pick (.t 126) (.c (.bool true)) (.t 133), none⟩] [[], [], [1], [0, 2, 1], [3, 0, 2, 1], [4, 3, 0, 2, 1], [4, 3, 0, 2, 1], [5, 4, 3, 0, 2, 1, 6], [7, 5, 4, 3, 0, 2, 1, 6], [8, 7, 5, 4, 3, 0, 2, 1, 6], [4, 3, 0, 2, 1], [9, 8, 7, 5, 4, 3, 0, 2, 1, 6, 10], [4, 3, 0, 2, 1, 11, 9, 8, 7, 5, 6, 10], [12, 4, 3, 0, 2, 1, 11, 9, 8, 7, 5, 6, 10], [13, 12, 4, 3, 0, 2, 1, 11, 9, 8, 7, 5, 6, 10], [13, 12, 4, 3, 0, 2, 1, 11, 9, 8, 7, 5, 6, 10], [14, 13, 12, 4, 3, 0, 2, 1, 11, 9, 8, 7, 5, 6, 10, 15], [16, 14, 13, 12, 4, 3, 0, 2, 1, 11, 9, 8, 7, 5, 6, 10, 15], [17, 16, 14, 13, 12, 4, 3, 0, 2, 1, 11, 9, 8, 7, 5, 6, 10, 15], [13, 12, 4, 3, 0, 2, 1, 11, 9, 8, 7, 5, 6, 10, 18, 17, 16, 14, 15], [19, 13, 12, 4, 3, 0, 2, 1, 11, 9, 8, 7, 5, 6, 10, 18, 17, 16, 14, 15], [20, 19, 13, 12, 4, 3, 0, 2, 1, 11, 9, 8, 7, 5, 6, 10, 18, 17, 16, 14, 15], [20, 19, 13, 12, 4, 3, 0, 2, 1, 11, 9, 8, 7, 5, 6, 10, 18, 17, 16, 14, 15], [21, 20, 19, 13, 12, 4, 3, 0, 2, 1, 11, 9, 8, 7, 5, 6, 10, 18, 17, 16, 14, 15, 22], [23, 21, 20, 19, 13, 12, 4, 3, 0, 2, 1, 11, 9, 8, 7, 5, 6, 10, 18, 17, 16, 14, 15, 22], [24, 23, 21, 20, 19, 13, 12, 4, 3, 0, 2, 1, 11, 9, 8, 7, 5, 6, 10, 18, 17, 16, 14, 15, 22], [25, 24, 23, 21, 20, 19, 13, 12, 4, 3, 0, 2, 1, 11, 9, 8, 7, 5, 6, 10, 18, 17, 16, 14, 15, 22], [20, 19, 13, 12, 4, 3, 0, 2, 1, 11, 9, 8, 7, 5, 6, 10, 18, 17, 16, 14, 15, 26, 25, 24, 23, 21, 22], [27, 20, 19, 13, 12, 4, 3, 0, 2, 1, 11, 9, 8, 7, 5, 6, 10, 18, 17, 16, 14, 15, 26, 25, 24, 23, 21, 22], [28, 27, 20, 19, 13, 12, 4, 3, 0, 2, 1, 11, 9, 8, 7, 5, 6, 10, 18, 17, 16, 14, 15, 26, 25, 24, 23, 21, 22], [28, 27, 20, 19, 13, 12, 4, 3, 0, 2, 1, 11, 9, 8, 7, 5, 6, 10, 18, 17, 16, 14, 15, 26, 25, 24, 23, 21, 22], [29, 28, 27, 20, 19, 13, 12, 4, 3, 0, 2, 1, 11, 9, 8, 7, 5, 6, 10, 18, 17, 16, 14, 15, 26, 25, 24, 23, 21, 22, 30], [31, 29, 28, 27, 20, 19, 13, 12, 4, 3, 0, 2, 1, 11, 9, 8, 7, 5, 6, 10, 18, 17, 16, 14, 15, 26, 25, 24, 23, 21, 22, 30], [32, 31, 29, 28, 27, 20, 19, 13, 12, 4, 3, 0, 2, 1, 11, 9, 8, 7, 5, 6, 10, 18, 17, 16, 14, 15, 26, 25, 24, 23, 21, 22, 30], [28, 27, 20, 19, 13, 12, 4, 3, 0, 2, 1, 11, 9, 8, 7, 5, 6, 10, 18, 17, 16, 14, 15, 26, 25, 24, 23, 21, 22], [34, 28, 27, 20, 19, 13, 12, 4, 3, 0, 2, 1, 11, 9, 8, 7, 5, 6, 10, 18, 17, 16, 14, 15, 26, 25, 24, 23, 21, 22], [33, 32, 31, 29, 28, 27, 20, 19, 13, 12, 4, 3, 0, 2, 1, 11, 9, 8, 7, 5, 6, 10, 18, 17, 16, 14, 15, 26, 25, 24, 23, 21, 22, 30, 35, 34], [28, 27, 20, 19, 13, 12, 4, 3, 0, 2, 1, 11, 9, 8, 7, 5, 6, 10, 18, 17, 16, 14, 15, 26, 25, 24, 23, 21, 22, 36, 33, 32, 31, 29, 30, 35, 34], [37, 28, 27, 20, 19, 13, 12, 4, 3, 0, 2, 1, 11, 9, 8, 7, 5, 6, 10, 18, 17, 16, 14, 15, 26, 25, 24, 23, 21, 22, 36, 33, 32, 31, 29, 30, 35, 34], [38, 37, 28, 27, 20, 19, 13, 12, 4, 3, 0, 2, 1, 11, 9, 8, 7, 5, 6, 10, 18, 17, 16, 14, 15, 26, 25, 24, 23, 21, 22, 36, 33, 32, 31, 29, 30, 35, 34], [38, 37, 28, 27, 20, 19, 13, 12, 4, 3, 0, 2, 1, 11, 9, 8, 7, 5, 6, 10, 18, 17, 16, 14, 15, 26, 25, 24, 23, 21, 22, 36, 33, 32, 31, 29, 30, 35, 34], [39, 38, 37, 28, 27, 20, 19, 13, 12, 4, 3, 0, 2, 1, 11, 9, 8, 7, 5, 6, 10, 18, 17, 16, 14, 15, 26, 25, 24, 23, 21, 22, 36, 33, 32, 31, 29, 30, 35, 34, 40], [41, 39, 38, 37, 28, 27, 20, 19, 13, 12, 4, 3, 0, 2, 1, 11, 9, 8, 7, 5, 6, 10, 18, 17, 16, 14, 15, 26, 25, 24, 23, 21, 22, 36, 33, 32, 31, 29, 30, 35, 34, 40], [42, 41, 39, 38, 37, 28, 27, 20, 19, 13, 12, 4, 3, 0, 2, 1, 11, 9, 8, 7, 5, 6, 10, 18, 17, 16, 14, 15, 26, 25, 24, 23, 21, 22, 36, 33, 32, 31, 29, 30, 35, 34, 40], [38, 37, 28, 27, 20, 19, 13, 12, 4, 3, 0, 2, 1, 11, 9, 8, 7, 5, 6, 10, 18, 17, 16, 14, 15, 26, 25, 24, 23, 21, 22, 36, 33, 32, 31, 29, 30, 35, 34], [43, 42, 41, 39, 38, 37, 28, 27, 20, 19, 13, 12, 4, 3, 0, 2, 1, 11, 9, 8, 7, 5, 6, 10, 18, 17, 16, 14, 15, 26, 25, 24, 23, 21, 22, 36, 33, 32, 31, 29, 30, 35, 34, 40, 44], [38, 37, 28, 27, 20, 19, 13, 12, 4, 3, 0, 2, 1, 11, 9, 8, 7, 5, 6, 10, 18, 17, 16, 14, 15, 26, 25, 24, 23, 21, 22, 36, 33, 32, 31, 29, 30, 35, 34, 45, 43, 42, 41, 39, 40, 44]]) (.cond (.t 134) (.seq (.reg [⟨(some 6), .mv (.c (.bool false)), none⟩]) .ret) .skip)) (.reg [⟨(some 135), .mv (.t 15), none⟩, ⟨(some 136), .bin .add (.t 135) (.c (.int .i64 1)), none⟩, ⟨(some 15), .mv (.t 136), none⟩])))) (.reg [⟨(some 83), .mv (.t 16), none⟩, ⟨(some 84), .bin .add (.t 83) (.c (.int .i64 1)), none⟩, ⟨(some 16), .mv (.t 84), none⟩])))))) (.seq (.reg [⟨(some 137), .mv (.t 15), none⟩, ⟨(some 138), .mv (.t 14), none⟩, ⟨(some 139), .lenS (.t 138), none⟩, ⟨(some 140), .bin .eql (.t 137) (.t 139), none⟩, ⟨(some 6), .mv (.t 140), none⟩]) .ret))))))))))))⟩
structure Snd (p : Flat) (u : Nat) (hs : List Bool) (hd : List (Int × Int)) : Prop where
  hu : u ≤ 16
  len : hd.length = u
  hl : hs.length = 16
  at_ : ∀ j, j < u → ∃ v, hd[j]? = some (0, v) ∧ (hs.getD j false = true → v = p 0) ∧ (hs.getD j false = false → v < p 0)
theorem snd_cold {p : Flat} {u : Nat} (h : u ≤ 16 ∧ 0 ≤ p 0) : Snd p u (List.replicate 16 false) (List.replicate u (0, -1)) :=
  ⟨h.1, by simp, rfl, fun j hj => ⟨-1, by rw [List.getElem?_replicate, if_pos hj], (fun q => by rw [List.getD_eq_getElem?_getD, List.getElem?_replicate, if_pos (by omega)] at q; cases q), fun _ => by omega⟩⟩
theorem ok_snd {p : Flat} {u : Nat} {hs : List Bool} {hd : List (Int × Int)} (h : Snd p u hs hd) : HOK ⟨p, [], hd, e0, false⟩ := ⟨by simp, by show hd.length ≤ 1000; rw [h.len]; have := h.hu; omega⟩
theorem snd_send {p : Flat} {u : Nat} {hs : List Bool} {hd : List (Int × Int)} (h : Snd p u hs hd) : (sendS ⟨p, [], hd, e0, false⟩).2 = notesTo ⟨p, [], hd, e0, false⟩ u := by
  rw [send_quiet (.inl rfl)]; show notesTo _ hd.length = _; rw [h.len]
theorem snd_note {p : Flat} {u : Nat} {hs : List Bool} {hd : List (Int × Int)} (h : Snd p u hs hd) {i : Nat} (hi : i < u) (hb : hs.getD i false = false) : noteS ⟨p, [], hd, e0, false⟩ i = some ⟨(i : Nat), 0, p 0, true, false, e0, p⟩ := by
  obtain ⟨v, h1, h2, h3⟩ := h.at_ i hi
  have hl : lkS hd (i : Nat) = ((0, v), true) := by rw [lk_at (lt_of_getElem? h1), List.getD_eq_getElem?_getD, h1]; rfl
  have := h3 hb
  rw [note_down rfl (by show (lkS hd (i : Nat)).1.2 < p 0; rw [hl]; exact this)]
  show some (Nt.mk _ (lkS hd (i : Nat)).1.1 _ _ _ _ _) = _
  rw [hl]
theorem snd_more {p : Flat} {u : Nat} {hs : List Bool} {hd : List (Int × Int)} (h : Snd p u hs hd) {i a : Nat} (hi : i < u) (hb : hs.getD i false = false) (ha : (notesTo ⟨p, [], hd, e0, false⟩ i).length = a) : (notesTo ⟨p, [], hd, e0, false⟩ (i + 1)).length = a + 1 := by
  rw [notesTo_some (snd_note h hi hb)]; simp [ha]
theorem snd_less {p : Flat} {u : Nat} {hs : List Bool} {hd : List (Int × Int)} (h : Snd p u hs hd) {i a : Nat} (hi : i < u) (hb : hs.getD i false = true) (ha : (notesTo ⟨p, [], hd, e0, false⟩ i).length = a) : (notesTo ⟨p, [], hd, e0, false⟩ (i + 1)).length = a := by
  obtain ⟨v, h1, h2, h3⟩ := h.at_ i hi
  have hl : lkS hd (i : Nat) = ((0, v), true) := by rw [lk_at (lt_of_getElem? h1), List.getD_eq_getElem?_getD, h1]; rfl
  rw [notesTo_none (note_has (by show p 0 ≤ (lkS hd (i : Nat)).1.2; rw [hl, h2 hb]; exact Int.le_refl _)), ha]
theorem notesTo_pre (x : HS) : ∀ {i u : Nat}, i ≤ u → ∃ l, notesTo x u = notesTo x i ++ l
  | i, u, h => by
    obtain ⟨k, rfl⟩ : ∃ k, u = i + k := ⟨u - i, by omega⟩
    induction k with
    | zero => exact ⟨[], by simp⟩
    | succ k ih =>
      obtain ⟨l, hl⟩ := ih (by omega)
      cases hn : noteS x (i + k) with
      | none => exact ⟨l, by rw [← Nat.add_assoc, notesTo_none hn, hl]⟩
      | some n => exact ⟨l ++ [n], by rw [← Nat.add_assoc, notesTo_some hn, hl, List.append_assoc]⟩
theorem snd_get {p : Flat} {u : Nat} {hs : List Bool} {hd : List (Int × Int)} (h : Snd p u hs hd) {i a : Nat} (hi : i < u) (hb : hs.getD i false = false) (ha : (notesTo ⟨p, [], hd, e0, false⟩ i).length = a) :
    a < (notesTo ⟨p, [], hd, e0, false⟩ u).length ∧ (notesTo ⟨p, [], hd, e0, false⟩ u).getD a n0 = ⟨(i : Nat), 0, p 0, true, false, e0, p⟩ := by
  obtain ⟨l, hl⟩ := notesTo_pre ⟨p, [], hd, e0, false⟩ (show i + 1 ≤ u by omega)
  rw [notesTo_some (snd_note h hi hb), List.append_assoc] at hl
  rw [hl]
  subst ha
  refine ⟨by simp, ?_⟩
  rw [List.getD_eq_getElem?_getD, List.getElem?_append_right (Nat.le_refl _)]
  simp
theorem snd_step {p : Flat} {u : Nat} {hs : List Bool} {hd : List (Int × Int)} (h : Snd p u hs hd) {K c : Int} {b : Bool} (hK : 0 ≤ K ∧ K.toNat < u) (hp : 0 ≤ p 0) (hc : 0 ≤ c) (hb : b = true ↔ hs.getD K.toNat false = true ∨ c = 0) : Snd p u (hs.set K.toNat b) (heardS hd ⟨K, 0, p 0 - c, false, true, e0, zeroP⟩) := by
  obtain ⟨v, h1, h2, h3⟩ := h.at_ K.toNat hK.2
  have hl : lkS hd K = ((0, v), true) := by
    have : lkS hd (K.toNat : Nat) = ((0, v), true) := by rw [lk_at (lt_of_getElem? h1), List.getD_eq_getElem?_getD, h1]; rfl
    rwa [Int.toNat_of_nonneg hK.1] at this
  have hs' : heardS hd ⟨K, 0, p 0 - c, false, true, e0, zeroP⟩ = hd.set K.toNat (0, if mxS (p 0 - c) > v then mxS (p 0 - c) else v) := by
    rw [heard_in rfl (congrArg Prod.snd hl) (by show (lkS hd K).1.1 ≤ 0; rw [hl]; exact Int.le_refl _)]
    show hd.set K.toNat (if (0 : Int) > (lkS hd K).1.1 ∨ mxS (p 0 - c) > (lkS hd K).1.2 then (0, mxS (p 0 - c)) else ((lkS hd K).1.1, (lkS hd K).1.2)) = _
    rw [hl]
    congr 1
    by_cases q : mxS (p 0 - c) > v
    · rw [if_pos (.inr q), if_pos q]
    · rw [if_neg (by simp only; omega), if_neg q]
  rw [hs']
  refine ⟨h.hu, by rw [List.length_set]; exact h.len, by rw [List.length_set]; exact h.hl, fun j hj => ?_⟩
  by_cases hj' : K.toNat = j
  · subst hj'
    refine ⟨_, by rw [List.getElem?_set_self (by rw [h.len]; exact hj)], ?_⟩
    have hg : (hs.set K.toNat b).getD K.toNat false = b := by rw [List.getD_eq_getElem?_getD, List.getElem?_set_self (by rw [h.hl]; have := h.hu; omega)]; rfl
    rw [hg]
    have hm : mxS (p 0 - c) = if p 0 - c ≤ -1 then -1 else p 0 - c := by
      split
      · exact mx_neg (by assumption)
      · exact mx_pos (by omega)
    constructor
    · intro hbt
      rcases hb.1 hbt with q | q
      · have := h2 q; subst this; rw [hm]; split <;> split <;> omega
      · subst q
        rw [hm]
        cases hq : hs.getD K.toNat false with
        | true => have := h2 hq; split <;> split <;> omega
        | false => have := h3 hq; split <;> split <;> omega
    · intro hbf
      have hnot : ¬ (hs.getD K.toNat false = true ∨ c = 0) := fun q => by rw [hb.2 q] at hbf; cases hbf
      have hq : hs.getD K.toNat false = false := by cases q : hs.getD K.toNat false <;> simp_all
      have := h3 hq
      have : c ≠ 0 := fun q => hnot (.inr q)
      rw [hm]; split <;> split <;> omega
  · obtain ⟨v', g1, g2, g3⟩ := h.at_ j hj
    have hg : (hs.set K.toNat b).getD j false = hs.getD j false := by rw [List.getD_eq_getElem?_getD, List.getElem?_set_ne hj', List.getD_eq_getElem?_getD]
    rw [hg]
    exact ⟨v', by rw [List.getElem?_set_ne hj']; exact g1, g2, g3⟩
theorem HeadSendsC {P : Program} (hc : codeOf P "roundhouse/roundhouselaw11.HeadSends" = some c_law11_HeadSends) (h_law11_known : codeOf P "roundhouse/roundhouselaw11.known" = some c_law11_known) (h_ref6_New : codeOf P "roundhouse/roundhouseref6.New" = some c_ref6_New) (h_ref6_out : codeOf P "roundhouse/roundhouseref6.out" = some c_ref6_out) (h_ref5_Ring : codeOf P "roundhouse/roundhouseref5.Ring" = some c_ref5_Ring) (h_head_New : codeOf P "roundhouse/head.New" = some c_head_New) (h_head_Head_Send : codeOf P "(*roundhouse/head.Head).Send" = some c_head_Head_Send) (h_head_Head_all : codeOf P "(*roundhouse/head.Head).all" = some c_head_Head_all) (h_head_Head_publish : codeOf P "(*roundhouse/head.Head).publish" = some c_head_Head_publish) (h_pool_Apply : codeOf P "roundhouse/pool.Apply" = some c_pool_Apply) (h_pool_may : codeOf P "roundhouse/pool.may" = some c_pool_may) (h_pool_held : codeOf P "roundhouse/pool.held" = some c_pool_held) (h_pool_fits : codeOf P "roundhouse/pool.fits" = some c_pool_fits) (h_pool_Check : codeOf P "roundhouse/pool.Check" = some c_pool_Check) (h_pool_placed : codeOf P "roundhouse/pool.placed" = some c_pool_placed) (h_cookie_Next : codeOf P "roundhouse/cookie.Next" = some c_cookie_Next) (h_head_Head_Wish : codeOf P "(*roundhouse/head.Head).Wish" = some c_head_Head_Wish) (h_head_Head_waiting : codeOf P "(*roundhouse/head.Head).waiting" = some c_head_Head_waiting) (h_pool_All : codeOf P "roundhouse/pool.All" = some c_pool_All) (h_head_Head_Heard : codeOf P "(*roundhouse/head.Head).Heard" = some c_head_Head_Heard) (h_head_Head_Version : codeOf P "(*roundhouse/head.Head).Version" = some c_head_Head_Version) (h_head_Head_Waiting : codeOf P "(*roundhouse/head.Head).Waiting" = some c_head_Head_Waiting) (h_head_Head_Pool : codeOf P "(*roundhouse/head.Head).Pool" = some c_head_Head_Pool) (h_law6_Make : codeOf P "roundhouse/roundhouselaw6.Make" = some c_law6_Make) (h_law5_Key : codeOf P "roundhouse/roundhouselaw5.Key" = some c_law5_Key) (h_law6_Entry : codeOf P "roundhouse/roundhouselaw6.Entry" = some c_law6_Entry) (h_law6_within : codeOf P "roundhouse/roundhouselaw6.within" = some c_law6_within) (h_ref6_Apply : codeOf P "roundhouse/roundhouseref6.Apply" = some c_ref6_Apply) (h_ref6_Check : codeOf P "roundhouse/roundhouseref6.Check" = some c_ref6_Check) (h_ref6_bad : codeOf P "roundhouse/roundhouseref6.bad" = some c_ref6_bad) (h_ref6_Held : codeOf P "roundhouse/roundhouseref6.Held" = some c_ref6_Held) (h_ref5_Next : codeOf P "roundhouse/roundhouseref5.Next" = some c_ref5_Next) (h_law11_within : codeOf P "roundhouse/roundhouselaw11.within" = some c_law11_within) (o : Option Nat) (ns : List Int) (hnns : o = none → ns = []) (hl : (ns.length : Int) ≤ 9223372036854775807) (units : Int) (o2 : Option Nat) (ks : List Int) (hnks : o2 = none → ks = []) (hlk : (ks.length : Int) ≤ 9223372036854775807) :
    Env P "roundhouse/roundhouselaw11.HeadSends" [inV o 0 ns.length, iv units, inV o2 1 ks.length] ([inB o (ii ns), inB o2 (ii ks)]) (Ans (.bool true) ([inB o (ii ns), inB o2 (ii ks)])) := by
 refine Env.by hc ?_
 unfold c_law11_HeadSends
 show GC _ 2 _ _ ⟨reg [(0, inV o 0 ns.length), (1, iv units), (2, inV o2 1 ks.length)], [inB o (ii ns), inB o2 (ii ks)]⟩
 refine gseq ?_
 refine greg ?_
 refine o_d 1 [(6, bv false)] (by kernel_rfl) ?_
 refine o_nil ?_
 refine seq_go ?_
 refine gseq ?_
 refine gseq ?_
 refine greg ?_
 refine o_cl (callV (known11C h_law11_known h_ref6_New h_ref6_out h_ref5_Ring h_head_New h_head_Head_Send h_head_Head_all h_head_Head_publish h_pool_Apply h_pool_may h_pool_held h_pool_fits h_pool_Check h_pool_placed h_cookie_Next h_head_Head_Wish h_head_Head_waiting h_pool_All h_head_Head_Heard h_head_Head_Version h_head_Head_Waiting h_head_Head_Pool) rfl rfl rfl ?_)
 refine o_d 1 [(18, bv false)] (by kernel_rfl) ?_
 refine o_nil ?_
 refine seq_go ?_
 refine gfalse rfl ?_
 refine gskip ?_
 refine seq_go ?_
 refine gseq ?_
 refine greg ?_
 refine o_d 1 [(19, inV o 0 ns.length)] (by kernel_rfl) ?_
 refine o_cl (callRO_K (callIn 0 (MakeC h_law6_Make h_law5_Key h_ref6_New h_ref6_out h_ref5_Ring h_law6_Entry h_law6_within h_ref6_Apply h_ref6_Check h_ref6_bad h_ref6_Held h_ref5_Next o ns hnns hl 30 (by omega)) rfl (ii_scl _) rfl rfl (poolV_vpf _) ?_))
 have I0 := makeS_inv ns (k := 30) (by omega)
 have hpv := I0.ver
 generalize makeS ns 30 = p at I0 hpv ⊢
 refine o_b 1 [(7, pv 2 0)] [inB o (ii ns), inB o2 (ii ks), cw (pl zeroP)] (by kernel_rfl) ?_
 refine o_s0 (by refine run_st (c' := pl p) rfl rfl rfl ?_ ?_ ?_; exact pl_length _; exact pl_le (by omega); exact splice_pl0 zeroP p) ?_
 refine o_nil ?_
 refine seq_go ?_
 refine gseq ?_
 refine greg ?_
 refine o_d 1 [(21, iv units)] (by kernel_rfl) ?_
 refine o_cl (callV (within11C h_law11_within units 8 (by decide)) rfl rfl rfl ?_)
 have hw_u0 := within_lt units (n := 8) (by decide)
 generalize withinS units 8 = u0 at hw_u0 ⊢
 refine o_s (by refine run_val (v := .int .i64 (IntKind.i64.wrap (1 + u0))) (congrArg (Value.int .i64) (w64 (by omega) (by omega))) ?_; kernel_rfl) ?_
 refine o_d 1 [(8, iv (1 + u0))] (by kernel_rfl) ?_
 refine o_nil ?_
 refine seq_go ?_
 refine gseq ?_
 refine greg ?_
 refine o_s (by refine run_ld (v := poolV p) rfl rfl ?_; exact pl_all p) ?_
 refine o_d 1 [(26, iv (1 + u0))] (by kernel_rfl) ?_
 refine o_cl (callG [] [] [poolV p, iv (1 + u0)] (HNewC h_head_New p (1 + u0)) rfl (cons_eq (renV_vpf (poolV_vpf p)) (cons_eq rfl rfl)) trivial (by decide) ?_)
 rintro v1 h1' hN1
 rw [if_neg (by omega)] at hN1
 obtain ⟨rfl, rfl⟩ := hN1
 refine ⟨.tuple #[pv 3 0, iv 0], [inB o (ii ns), inB o2 (ii ks), cw (pl p)], [cw (headL ((HS.mk p [] (List.replicate (1 + u0).toNat (0, -1)) e0 false).p) 4 5 ((HS.mk p [] (List.replicate (1 + u0).toNat (0, -1)) e0 false).e) ((HS.mk p [] (List.replicate (1 + u0).toNat (0, -1)) e0 false).s)), .chan 200 (((HS.mk p [] (List.replicate (1 + u0).toNat (0, -1)) e0 false).w).map entV), .map (hdM ((HS.mk p [] (List.replicate (1 + u0).toNat (0, -1)) e0 false).hd))], ((renV_tup _).trans rfl), ⟨rfl, ⟨rfl, ⟨rfl, trivial⟩⟩⟩, ⟨(Option.some.inj (ren_headS rfl rfl)).symm, ⟨(Option.some.inj (congrArg some (ren_entsV _).symm)).symm, ⟨(Option.some.inj (congrArg some (ren_hdM _).symm)).symm, trivial⟩⟩⟩, ?_⟩
 refine o_d 5 [(10, iv 0), (9, pv 3 0), (29, iv 0), (28, pv 3 0), (24, .tuple #[pv 3 0, iv 0])] (by kernel_rfl) ?_
 refine o_nil ?_
 refine seq_go ?_
 refine gseq ?_
 refine gseq ?_
 refine greg ?_
 refine o_d 6 [(35, bv false), (34, bv false), (33, pv 3 0), (32, bv false), (31, bv false), (30, iv 0)] (by kernel_rfl) ?_
 refine o_nil ?_
 refine seq_regs [(35, bv false), (9, pv 3 0), (8, iv (1 + u0)), (7, pv 2 0), (2, inV o2 1 ks.length)] (by kernel_rfl) ?_
 refine gfalse rfl ?_
 refine gskip ?_
 refine seq_go ?_
 refine gseq ?_
 refine greg ?_
 refine o_b 1 [(11, pv 6 0)] [inB o (ii ns), inB o2 (ii ks), cw (pl p), cw (headL ((HS.mk p [] (List.replicate (1 + u0).toNat (0, -1)) e0 false).p) 4 5 ((HS.mk p [] (List.replicate (1 + u0).toNat (0, -1)) e0 false).e) ((HS.mk p [] (List.replicate (1 + u0).toNat (0, -1)) e0 false).s)), .chan 200 (((HS.mk p [] (List.replicate (1 + u0).toNat (0, -1)) e0 false).w).map entV), .map (hdM ((HS.mk p [] (List.replicate (1 + u0).toNat (0, -1)) e0 false).hd)), cw [bv false, bv false, bv false, bv false, bv false, bv false, bv false, bv false, bv false, bv false, bv false, bv false, bv false, bv false, bv false, bv false]] (by kernel_rfl) ?_
 refine o_nil ?_
 refine seq_go ?_
 refine gseq ?_
 refine gseq ?_
 refine greg ?_
 refine o_d 1 [(12, iv 0)] (by kernel_rfl) ?_
 refine o_nil ?_
 refine seq_go ?_
 refine gblock ?_
 refine gloop (fun μ s => ∃ (i : Nat), ∃ (hd : List (Int × Int)), ∃ (hs : List Bool), μ = ks.length - i ∧ (i ≤ ks.length ∧ i ≤ 20) ∧ (Snd p (1 + u0).toNat hs hd) ∧ s = ⟨reg [(12, iv (i : Int)), (11, pv 6 0), (9, pv 3 0), (8, iv (1 + u0)), (7, pv 2 0), (2, inV o2 1 ks.length)], [inB o (ii ns), inB o2 (ii ks), cw (pl p), cw (headL ((HS.mk p [] hd e0 false).p) 4 5 ((HS.mk p [] hd e0 false).e) ((HS.mk p [] hd e0 false).s)), .chan 200 (((HS.mk p [] hd e0 false).w).map entV), .map (hdM ((HS.mk p [] hd e0 false).hd)), cw (bb hs)]⟩) ⟨(ks.length - 0), ?_⟩ ?_
 ·skip
  refine ⟨⟨reg [(12, iv (0 : Int)), (11, pv 6 0), (9, pv 3 0), (8, iv (1 + u0)), (7, pv 2 0), (2, inV o2 1 ks.length)], [inB o (ii ns), inB o2 (ii ks), cw (pl p), cw (headL ((HS.mk p [] (List.replicate (1 + u0).toNat (0, -1)) e0 false).p) 4 5 ((HS.mk p [] (List.replicate (1 + u0).toNat (0, -1)) e0 false).e) ((HS.mk p [] (List.replicate (1 + u0).toNat (0, -1)) e0 false).s)), .chan 200 (((HS.mk p [] (List.replicate (1 + u0).toNat (0, -1)) e0 false).w).map entV), .map (hdM ((HS.mk p [] (List.replicate (1 + u0).toNat (0, -1)) e0 false).hd)), cw (bb (List.replicate 16 false))]⟩, ?_⟩
  refine ⟨?_, ?_⟩
  ·exact Wk.ren [0, 1, 2, 3, 4, 5, 6] rfl rfl (by decide) ⟨rfl, ⟨rfl, ⟨rfl, ⟨rfl, ⟨rfl, ⟨((renV_inV o2 rfl)).trans rfl, trivial⟩⟩⟩⟩⟩⟩ ⟨.inl (ren_inB o (ii_scl ns)), ⟨.inl (ren_inB o2 (ii_scl ks)), ⟨.inl (ren_cells (pl_scl p)), ⟨.inl (ren_headS rfl rfl), ⟨.inl (congrArg some (ren_entsV _).symm), ⟨.inl (congrArg some (ren_hdM _).symm), ⟨.inl (ren_cells (bb_scl (List.replicate 16 false))), trivial⟩⟩⟩⟩⟩⟩⟩
  ·exact ⟨0, (List.replicate (1 + u0).toNat (0, -1)), (List.replicate 16 false), rfl, ⟨Nat.zero_le _, Nat.zero_le _⟩, (snd_cold (by omega)), rfl⟩
 rintro μ s ⟨i, hd, hs, rfl, hi, hS, rfl⟩
 refine gseq ?_
 refine gseq ?_
 refine greg ?_
 refine o_d 2 [(37, inV o2 1 ks.length), (36, iv (i : Int))] (by kernel_rfl) ?_
 refine o_s (by exact run_lenIn rfl (fun q => by rw [hnks q]; rfl)) ?_
 refine o_d 2 [(40, bv (decide ((i : Int) < (ks.length : Nat)))), (39, bv (decide ((i : Int) < (ks.length : Nat))))] (by kernel_rfl) ?_
 refine o_sp (b := decide ((i : Int) < (ks.length : Nat))) 40 rfl (fun h2 => ?_) (fun h2 => ?_)
 ·skip
  have h2' : (i : Int) < (ks.length : Nat) := of_decide_eq_true h2
  refine o_d 3 [(43, bv (decide ((i : Int) < 20))), (42, bv (decide ((i : Int) < 20))), (41, iv (i : Int))] (by kernel_rfl) ?_
  refine o_nil ?_
  refine seq_go ?_
  refine gcond (t := decide ((i : Int) < 20)) rfl (fun h3 => ?_) (fun h3 => ?_)
  ·skip
   have h3' : (i : Int) < 20 := of_decide_eq_true h3
   obtain ⟨x, hx, hdr, ht⟩ := get_of_lt (l := ks) (i := i) (by omega)
   refine gskip ?_
   refine seq_go ?_
   refine gseq ?_
   refine gblock ?_
   refine gseq ?_
   refine greg ?_
   refine o_d 2 [(47, iv (i : Int)), (46, inV o2 1 ks.length)] (by kernel_rfl) ?_
   refine o_s (by exact run_iadIn (o' := i) rfl (fun q => by rw [hnks q]; rfl) rfl (by omega) (by omega)) ?_
   refine o_s (by refine run_ld (v := iv x) rfl (hf_in (n := ks.length) rfl (fun q => by rw [hnks q]; rfl) (by omega)) ?_; exact ii_r (i := i) (by omega) hx) ?_
   refine o_cl (callV (within11C h_law11_within x 1048576 (by decide)) rfl rfl rfl ?_)
   have hw_k := within_lt x (n := 1048576) (by decide)
   generalize withinS x 1048576 = k at hw_k ⊢
   have hku : 0 ≤ k % (1 + u0) ∧ k % (1 + u0) < 1 + u0 := ⟨Int.emod_nonneg _ (by omega), Int.emod_lt_of_pos _ (by omega)⟩
   refine o_d 1 [(13, iv k)] (by kernel_rfl) ?_
   refine o_nil ?_
   refine seq_go ?_
   refine gseq ?_
   refine gdregD [inB o (ii ns), inB o2 (ii ks), cw (pl p), cw (headL ((HS.mk p [] hd e0 false).p) 4 5 ((HS.mk p [] hd e0 false).e) ((HS.mk p [] hd e0 false).s)), .chan 200 (((HS.mk p [] hd e0 false).w).map entV), .map (hdM ((HS.mk p [] hd e0 false).hd)), cw (bb hs)] (by kernel_rfl) ?_
   refine d_n 3 3 7 [(53, iv (1 + u0)), (52, iv k), (51, pv 3 0)] [inB o (ii ns), inB o2 (ii ks), cw (pl p), cw (headL ((HS.mk p [] hd e0 false).p) 4 5 ((HS.mk p [] hd e0 false).e) ((HS.mk p [] hd e0 false).s)), .chan 200 (((HS.mk p [] hd e0 false).w).map entV), .map (hdM ((HS.mk p [] hd e0 false).hd)), cw (bb hs)] [] (by kernel_rfl) rfl rfl ?_
   refine d_s rfl rfl rfl (by kernel_rfl) (by refine run_val (congrArg (Value.int .i64) (rem_nn (a := k) (c := 1 + u0) (by omega))) ?_; exact run_rem rfl rfl (by omega)) ?_
   refine d_n 1 5 7 [(55, pv 2 0)] [inB o (ii ns), inB o2 (ii ks), cw (pl p), cw (headL ((HS.mk p [] hd e0 false).p) 4 5 ((HS.mk p [] hd e0 false).e) ((HS.mk p [] hd e0 false).s)), .chan 200 (((HS.mk p [] hd e0 false).w).map entV), .map (hdM ((HS.mk p [] hd e0 false).hd)), cw (bb hs)] [] (by kernel_rfl) rfl rfl ?_
   refine d_s rfl rfl rfl (by kernel_rfl) (by refine run_ld (v := iv (p 0)) rfl rfl ?_; exact pl_r p 0 rfl (by omega)) ?_
   refine d_n 1 7 7 [(57, iv k)] [inB o (ii ns), inB o2 (ii ks), cw (pl p), cw (headL ((HS.mk p [] hd e0 false).p) 4 5 ((HS.mk p [] hd e0 false).e) ((HS.mk p [] hd e0 false).s)), .chan 200 (((HS.mk p [] hd e0 false).w).map entV), .map (hdM ((HS.mk p [] hd e0 false).hd)), cw (bb hs)] [⟨5, [2], [], none⟩] (by kernel_rfl) rfl rfl ?_
   refine d_s rfl rfl rfl (by kernel_rfl) (by refine run_val (v := .int .i64 (IntKind.i64.wrap (k.tdiv 8))) (congrArg (Value.int .i64) (quo_nn (by omega) (by omega))) ?_; kernel_rfl) ?_
   refine d_s rfl rfl rfl (by kernel_rfl) (by refine run_val (v := .int .i64 ((k / 8).tmod 2)) (congrArg (Value.int .i64) (rem_nn (by omega))) ?_; kernel_rfl) ?_
   refine d_s rfl rfl rfl (by kernel_rfl) (by refine run_val (v := .int .i64 (IntKind.i64.wrap (p 0 - (k / 8) % 2))) (congrArg (Value.int .i64) (w64 (by omega) (by omega))) ?_; kernel_rfl) ?_
   refine d_s rfl rfl rfl (by kernel_rfl) (by refine run_bld (c := ntF (k % (1 + u0)) 0 (p 0 - (k / 8) % 2) false true e0 zeroP) ?_; exact bld_nt rfl) ?_
   refine d_clG [3, 4, 5] [cw (headL ((HS.mk p [] hd e0 false).p) 1 2 ((HS.mk p [] hd e0 false).e) ((HS.mk p [] hd e0 false).s)), .chan 200 (((HS.mk p [] hd e0 false).w).map entV), .map (hdM ((HS.mk p [] hd e0 false).hd))] [pv 0 0, ntV (k % (1 + u0)) 0 (p 0 - (k / 8) % 2) false true e0 zeroP] (HheardC h_head_Head_Heard ((HS.mk p [] hd e0 false).p) ((HS.mk p [] hd e0 false).w) ((HS.mk p [] hd e0 false).hd) ((HS.mk p [] hd e0 false).e) ((HS.mk p [] hd e0 false).s) (k % (1 + u0)) 0 (p 0 - (k / 8) % 2) false true e0 zeroP) rfl (cons_eq rfl (cons_eq (renV_vpf (ntV_vpf (k % (1 + u0)) 0 (p 0 - (k / 8) % 2) false true e0 zeroP)) rfl)) ⟨⟨_, rfl, seen_head rfl rfl (fun q => rfl)⟩, ⟨⟨_, rfl, seen_ents _⟩, ⟨⟨_, rfl, seen_hdM _⟩, trivial⟩⟩⟩ (by decide) ⟨_, _, ⟨rfl, rfl⟩, Nat.le_refl 3, flags_of3⟩ ?_ (by kernel_rfl)
   rintro v1 h1' ⟨rfl, rfl⟩
   refine ⟨.tuple #[], [inB o (ii ns), inB o2 (ii ks), cw (pl p), cw (headL ((HS.mk p [] (heardS hd (Nt.mk (k % (1 + u0)) 0 (p 0 - (k / 8) % 2) false true e0 zeroP)) e0 false).p) 4 5 ((HS.mk p [] (heardS hd (Nt.mk (k % (1 + u0)) 0 (p 0 - (k / 8) % 2) false true e0 zeroP)) e0 false).e) ((HS.mk p [] (heardS hd (Nt.mk (k % (1 + u0)) 0 (p 0 - (k / 8) % 2) false true e0 zeroP)) e0 false).s)), .chan 200 (((HS.mk p [] (heardS hd (Nt.mk (k % (1 + u0)) 0 (p 0 - (k / 8) % 2) false true e0 zeroP)) e0 false).w).map entV), .map (hdM ((HS.mk p [] (heardS hd (Nt.mk (k % (1 + u0)) 0 (p 0 - (k / 8) % 2) false true e0 zeroP)) e0 false).hd)), cw (bb hs)], [], (by simp [renV]), ⟨rfl, ⟨rfl, ⟨rfl, ⟨ren_headL rfl rfl, ⟨ren_entsV _, ⟨ren_hdM _, ⟨rfl, trivial⟩⟩⟩⟩⟩⟩⟩, trivial, ?_⟩
   refine d_nil ?_
   refine seq_regs [(13, iv k), (12, iv (i : Int)), (11, pv 6 0), (9, pv 3 0), (8, iv (1 + u0)), (7, pv 2 0), (2, inV o2 1 ks.length)] (by kernel_rfl) ?_
   refine gdreg [] (by kernel_rfl) ?_
   refine r_d 2 [(64, iv (1 + u0)), (63, iv k)] (by kernel_rfl) ?_
   refine r_s (by refine run_val (congrArg (Value.int .i64) (rem_nn (a := k) (c := 1 + u0) (by omega))) ?_; exact run_rem rfl rfl (by omega)) ?_
   refine r_d 2 [(67, iv (1 + u0)), (66, iv k)] (by kernel_rfl) ?_
   refine r_s (by refine run_val (congrArg (Value.int .i64) (rem_nn (a := k) (c := 1 + u0) (by omega))) ?_; exact run_rem rfl rfl (by omega)) ?_
   refine r_s (by exact run_iadA (o := 0) (o' := ((k % (1 + u0)).toNat)) rfl rfl (by omega) (by omega)) ?_
   refine r_s (by refine run_ld (v := bv (hs.getD ((k % (1 + u0)).toNat) false)) rfl rfl ?_; exact bb_r (by have := hS.hl; omega)) ?_
   refine r_d 1 [(71, bv (hs.getD ((k % (1 + u0)).toNat) false))] (by kernel_rfl) ?_
   refine r_sp (b := hs.getD ((k % (1 + u0)).toNat) false) 71 rfl (fun h4 => ?_) (fun h4 => ?_)
   ·skip
    refine r_d 5 [(76, bv true), (75, undef), (74, undef), (73, undef), (72, undef)] (by kernel_rfl) ?_
    refine r_s (by exact run_iadA (o := 0) (o' := ((k % (1 + u0)).toNat)) rfl rfl (by omega) (by omega)) ?_
    refine r_s0 (by refine run_st (c' := bb (hs.set ((k % (1 + u0)).toNat) true)) rfl rfl rfl ?_ ?_ ?_; exact rfl; exact (by rw [bb_length]; have := hS.hl; omega); exact bb_w (by have := hS.hl; omega)) ?_
    refine r_nil ?_
    refine seq_go ?_
    refine greg ?_
    refine o_d 1 [(44, iv (i : Int))] (by kernel_rfl) ?_
    refine o_s (by refine run_val (v := .int .i64 (IntKind.i64.wrap ((i : Int) + 1))) (congrArg (Value.int .i64) (w64 (by omega) (by omega))) ?_; kernel_rfl) ?_
    refine o_d 1 [(12, iv ((i : Int) + 1))] (by kernel_rfl) ?_
    refine o_nil ?_
    refine ⟨ks.length - (i + 1), ?_⟩
    refine ⟨⟨reg [(12, iv ((i + 1) : Int)), (11, pv 6 0), (9, pv 3 0), (8, iv (1 + u0)), (7, pv 2 0), (2, inV o2 1 ks.length)], [inB o (ii ns), inB o2 (ii ks), cw (pl p), cw (headL ((HS.mk p [] (heardS hd (Nt.mk (k % (1 + u0)) 0 (p 0 - (k / 8) % 2) false true e0 zeroP)) e0 false).p) 4 5 ((HS.mk p [] (heardS hd (Nt.mk (k % (1 + u0)) 0 (p 0 - (k / 8) % 2) false true e0 zeroP)) e0 false).e) ((HS.mk p [] (heardS hd (Nt.mk (k % (1 + u0)) 0 (p 0 - (k / 8) % 2) false true e0 zeroP)) e0 false).s)), .chan 200 (((HS.mk p [] (heardS hd (Nt.mk (k % (1 + u0)) 0 (p 0 - (k / 8) % 2) false true e0 zeroP)) e0 false).w).map entV), .map (hdM ((HS.mk p [] (heardS hd (Nt.mk (k % (1 + u0)) 0 (p 0 - (k / 8) % 2) false true e0 zeroP)) e0 false).hd)), cw (bb (hs.set ((k % (1 + u0)).toNat) true))]⟩, ?_⟩
    refine and3 (by omega) ⟨?_, ?_⟩
    ·exact Wk.ren [0, 1, 2, 3, 4, 5, 6] rfl rfl (by decide) ⟨rfl, ⟨rfl, ⟨rfl, ⟨rfl, ⟨rfl, ⟨((renV_inV o2 rfl)).trans rfl, trivial⟩⟩⟩⟩⟩⟩ ⟨.inl (ren_inB o (ii_scl ns)), ⟨.inl (ren_inB o2 (ii_scl ks)), ⟨.inl (ren_cells (pl_scl p)), ⟨.inl (ren_headS rfl rfl), ⟨.inl (congrArg some (ren_entsV _).symm), ⟨.inl (congrArg some (ren_hdM _).symm), ⟨.inl (ren_cells (bb_scl (hs.set ((k % (1 + u0)).toNat) true))), trivial⟩⟩⟩⟩⟩⟩⟩
    ·exact ⟨(i + 1), (heardS hd (Nt.mk (k % (1 + u0)) 0 (p 0 - (k / 8) % 2) false true e0 zeroP)), (hs.set ((k % (1 + u0)).toNat) true), rfl, by omega, (snd_step hS (by omega) hpv.1 (by omega) (by first | (simp_all; done) | (simp_all; omega))), rfl⟩
   refine r_d 1 [(72, iv k)] (by kernel_rfl) ?_
   refine r_unguard rfl ?_
   refine r_s (by refine run_val (v := .int .i64 (IntKind.i64.wrap (k.tdiv 8))) (congrArg (Value.int .i64) (quo_nn (by omega) (by omega))) ?_; kernel_rfl) ?_
   refine r_unguard rfl ?_
   refine r_s (by refine run_val (v := .int .i64 ((k / 8).tmod 2)) (congrArg (Value.int .i64) (rem_nn (by omega))) ?_; kernel_rfl) ?_
   refine r_d 2 [(76, bv (((k / 8) % 2) == 0)), (75, bv (((k / 8) % 2) == 0))] (by kernel_rfl) ?_
   refine r_s (by exact run_iadA (o := 0) (o' := ((k % (1 + u0)).toNat)) rfl rfl (by omega) (by omega)) ?_
   refine r_s0 (by refine run_st (c' := bb (hs.set ((k % (1 + u0)).toNat) (((k / 8) % 2) == 0))) rfl rfl rfl ?_ ?_ ?_; exact rfl; exact (by rw [bb_length]; have := hS.hl; omega); exact bb_w (by have := hS.hl; omega)) ?_
   refine r_nil ?_
   refine seq_go ?_
   refine greg ?_
   refine o_d 1 [(44, iv (i : Int))] (by kernel_rfl) ?_
   refine o_s (by refine run_val (v := .int .i64 (IntKind.i64.wrap ((i : Int) + 1))) (congrArg (Value.int .i64) (w64 (by omega) (by omega))) ?_; kernel_rfl) ?_
   refine o_d 1 [(12, iv ((i : Int) + 1))] (by kernel_rfl) ?_
   refine o_nil ?_
   refine ⟨ks.length - (i + 1), ?_⟩
   refine ⟨⟨reg [(12, iv ((i + 1) : Int)), (11, pv 6 0), (9, pv 3 0), (8, iv (1 + u0)), (7, pv 2 0), (2, inV o2 1 ks.length)], [inB o (ii ns), inB o2 (ii ks), cw (pl p), cw (headL ((HS.mk p [] (heardS hd (Nt.mk (k % (1 + u0)) 0 (p 0 - (k / 8) % 2) false true e0 zeroP)) e0 false).p) 4 5 ((HS.mk p [] (heardS hd (Nt.mk (k % (1 + u0)) 0 (p 0 - (k / 8) % 2) false true e0 zeroP)) e0 false).e) ((HS.mk p [] (heardS hd (Nt.mk (k % (1 + u0)) 0 (p 0 - (k / 8) % 2) false true e0 zeroP)) e0 false).s)), .chan 200 (((HS.mk p [] (heardS hd (Nt.mk (k % (1 + u0)) 0 (p 0 - (k / 8) % 2) false true e0 zeroP)) e0 false).w).map entV), .map (hdM ((HS.mk p [] (heardS hd (Nt.mk (k % (1 + u0)) 0 (p 0 - (k / 8) % 2) false true e0 zeroP)) e0 false).hd)), cw (bb (hs.set ((k % (1 + u0)).toNat) (((k / 8) % 2) == 0)))]⟩, ?_⟩
   refine and3 (by omega) ⟨?_, ?_⟩
   ·exact Wk.ren [0, 1, 2, 3, 4, 5, 6] rfl rfl (by decide) ⟨rfl, ⟨rfl, ⟨rfl, ⟨rfl, ⟨rfl, ⟨((renV_inV o2 rfl)).trans rfl, trivial⟩⟩⟩⟩⟩⟩ ⟨.inl (ren_inB o (ii_scl ns)), ⟨.inl (ren_inB o2 (ii_scl ks)), ⟨.inl (ren_cells (pl_scl p)), ⟨.inl (ren_headS rfl rfl), ⟨.inl (congrArg some (ren_entsV _).symm), ⟨.inl (congrArg some (ren_hdM _).symm), ⟨.inl (ren_cells (bb_scl (hs.set ((k % (1 + u0)).toNat) (((k / 8) % 2) == 0)))), trivial⟩⟩⟩⟩⟩⟩⟩
   ·exact ⟨(i + 1), (heardS hd (Nt.mk (k % (1 + u0)) 0 (p 0 - (k / 8) % 2) false true e0 zeroP)), (hs.set ((k % (1 + u0)).toNat) (((k / 8) % 2) == 0)), rfl, by omega, (snd_step hS (by omega) hpv.1 (by omega) (by first | (simp_all; done) | (simp_all; omega))), rfl⟩
  have h3' : ¬ ((i : Int) < 20) := of_decide_eq_false h3
  refine gexit ?_
  refine seq_go ?_
  refine gseq ?_
  refine greg ?_
  refine o_d 1 [(78, pv 3 0)] (by kernel_rfl) ?_
  refine o_cl (callG [3, 4, 5] [cw (headL ((HS.mk p [] hd e0 false).p) 1 2 ((HS.mk p [] hd e0 false).e) ((HS.mk p [] hd e0 false).s)), .chan 200 (((HS.mk p [] hd e0 false).w).map entV), .map (hdM ((HS.mk p [] hd e0 false).hd))] [pv 0 0] (HsendC h_head_Head_Send h_head_Head_all h_head_Head_publish h_pool_Apply h_pool_may h_pool_held h_pool_fits h_pool_Check h_pool_placed h_cookie_Next ((HS.mk p [] hd e0 false).p) ((HS.mk p [] hd e0 false).w) ((HS.mk p [] hd e0 false).hd) ((HS.mk p [] hd e0 false).e) ((HS.mk p [] hd e0 false).s) ((show HOK (HS.mk p [] hd e0 false) from ok_snd hS)).hd) rfl rfl ⟨⟨_, rfl, seen_head rfl rfl (fun q => rfl)⟩, ⟨⟨_, rfl, seen_ents _⟩, ⟨⟨_, rfl, seen_hdM _⟩, trivial⟩⟩⟩ (by decide) ?_)
  rintro v1 h1' ⟨q5, hq6, rfl, rfl⟩
  refine ⟨slV 7 ((sendS (HS.mk p [] hd e0 false)).2.length) q5, [inB o (ii ns), inB o2 (ii ks), cw (pl p), cw (headL ((sendS (HS.mk p [] hd e0 false)).1.p) 4 5 ((sendS (HS.mk p [] hd e0 false)).1.e) ((sendS (HS.mk p [] hd e0 false)).1.s)), .chan 200 (((sendS (HS.mk p [] hd e0 false)).1.w).map entV), .map (hdM ((sendS (HS.mk p [] hd e0 false)).1.hd)), cw (bb hs)], [slB zNt (ntsL ((sendS (HS.mk p [] hd e0 false)).2)) q5], (renV_slV q5 rfl), ⟨rfl, ⟨rfl, ⟨rfl, ⟨ren_headL rfl rfl, ⟨ren_entsV _, ⟨(ren_hdM2 (sendS_hd _)), ⟨rfl, trivial⟩⟩⟩⟩⟩⟩⟩, ⟨(Option.some.inj (ren_slB q5 (fun _ => (ntsR_scl _ _)))).symm, trivial⟩, ?_⟩
  have ok_y7 := (ok_send (show HOK (HS.mk p [] hd e0 false) from ok_snd hS))
  generalize hd_y7 : (sendS (HS.mk p [] hd e0 false)) = y7 at ok_y7 hq6 ⊢
  have hL : y7.2 = notesTo (HS.mk p [] hd e0 false) (1 + u0).toNat := by rw [← hd_y7]; exact snd_send hS
  refine o_d 1 [(14, slV 7 y7.2.length q5)] (by kernel_rfl) ?_
  refine o_nil ?_
  refine seq_go ?_
  refine gseq ?_
  refine greg ?_
  refine o_d 1 [(15, iv 0)] (by kernel_rfl) ?_
  refine o_nil ?_
  refine seq_go ?_
  refine gseq ?_
  refine gseq ?_
  refine greg ?_
  refine o_d 1 [(16, iv 0)] (by kernel_rfl) ?_
  refine o_nil ?_
  refine seq_go ?_
  refine gblock ?_
  refine gloop (fun μ s => ∃ (i : Nat), ∃ (a : Nat), μ = (1 + u0).toNat - i ∧ (i ≤ (1 + u0).toNat) ∧ ((notesTo (HS.mk p [] hd e0 false) i).length = a) ∧ s = ⟨reg [(16, iv (i : Int)), (15, iv (a : Int)), (14, slV 7 y7.2.length q5), (11, pv 6 0), (8, iv (1 + u0)), (7, pv 2 0)], [inB o (ii ns), inB o2 (ii ks), cw (pl p), cw (headL y7.1.p 4 5 y7.1.e y7.1.s), .chan 200 (y7.1.w.map entV), .map (hdM y7.1.hd), cw (bb hs), slB zNt (ntsL y7.2) q5]⟩) ⟨((1 + u0).toNat - 0), ?_⟩ ?_
  ·skip
   refine ⟨⟨reg [(16, iv (0 : Int)), (15, iv (0 : Int)), (14, slV 7 y7.2.length q5), (11, pv 6 0), (8, iv (1 + u0)), (7, pv 2 0)], [inB o (ii ns), inB o2 (ii ks), cw (pl p), cw (headL y7.1.p 4 5 y7.1.e y7.1.s), .chan 200 (y7.1.w.map entV), .map (hdM y7.1.hd), cw (bb hs), slB zNt (ntsL y7.2) q5]⟩, ?_⟩
   refine ⟨?_, ?_⟩
   ·exact Wk.ren [0, 1, 2, 3, 4, 5, 6, 7] rfl rfl (by decide) ⟨rfl, ⟨rfl, ⟨((renV_slV q5 rfl)).trans rfl, ⟨rfl, ⟨rfl, ⟨rfl, trivial⟩⟩⟩⟩⟩⟩ ⟨.inl (ren_inB o (ii_scl ns)), ⟨.inl (ren_inB o2 (ii_scl ks)), ⟨.inl (ren_cells (pl_scl p)), ⟨.inl (ren_headS rfl rfl), ⟨.inl (congrArg some (ren_entsV _).symm), ⟨.inl (congrArg some (ren_hdM _).symm), ⟨.inl (ren_cells (bb_scl hs)), ⟨.inl (ren_slB q5 (fun _ => (ntsR_scl _ _))), trivial⟩⟩⟩⟩⟩⟩⟩⟩
   ·exact ⟨0, 0, rfl, (Nat.zero_le _), rfl, rfl⟩
  rintro μ s ⟨i, a, rfl, hi, ha, rfl⟩
  refine gseq ?_
  refine gseq ?_
  refine greg ?_
  refine o_d 3 [(82, bv (decide ((i : Int) < 1 + u0))), (81, iv (1 + u0)), (80, iv (i : Int))] (by kernel_rfl) ?_
  refine o_nil ?_
  refine seq_go ?_
  refine gcond (t := decide ((i : Int) < 1 + u0)) rfl (fun h8 => ?_) (fun h8 => ?_)
  ·skip
   have h8' : (i : Int) < 1 + u0 := of_decide_eq_true h8
   refine gskip ?_
   refine seq_go ?_
   refine gseq ?_
   refine gblock ?_
   refine gseq ?_
   refine gseq ?_
   refine greg ?_
   refine o_d 1 [(85, iv (i : Int))] (by kernel_rfl) ?_
   refine o_s (by exact run_iadA (o := 0) (o' := i) rfl rfl (by omega) (by omega)) ?_
   refine o_s (by refine run_ld (v := bv (hs.getD i false)) rfl rfl ?_; exact bb_r (by have := hS.hl; omega)) ?_
   refine o_nil ?_
   refine seq_go ?_
   refine gcond (t := hs.getD i false) rfl (fun h9 => ?_) (fun h9 => ?_)
   ·skip
    refine gexit ?_
    refine seq_go ?_
    refine greg ?_
    refine o_d 1 [(83, iv (i : Int))] (by kernel_rfl) ?_
    refine o_s (by refine run_val (v := .int .i64 (IntKind.i64.wrap ((i : Int) + 1))) (congrArg (Value.int .i64) (w64 (by omega) (by omega))) ?_; kernel_rfl) ?_
    refine o_d 1 [(16, iv ((i : Int) + 1))] (by kernel_rfl) ?_
    refine o_nil ?_
    refine ⟨(1 + u0).toNat - (i + 1), ?_⟩
    refine ⟨⟨reg [(16, iv ((i + 1) : Int)), (15, iv (a : Int)), (14, slV 7 y7.2.length q5), (11, pv 6 0), (8, iv (1 + u0)), (7, pv 2 0)], [inB o (ii ns), inB o2 (ii ks), cw (pl p), cw (headL y7.1.p 4 5 y7.1.e y7.1.s), .chan 200 (y7.1.w.map entV), .map (hdM y7.1.hd), cw (bb hs), slB zNt (ntsL y7.2) q5]⟩, ?_⟩
    refine and3 (by omega) ⟨?_, ?_⟩
    ·exact Wk.ren [0, 1, 2, 3, 4, 5, 6, 7] rfl rfl (by decide) ⟨rfl, ⟨rfl, ⟨((renV_slV q5 rfl)).trans rfl, ⟨rfl, ⟨rfl, ⟨rfl, trivial⟩⟩⟩⟩⟩⟩ ⟨.inl (ren_inB o (ii_scl ns)), ⟨.inl (ren_inB o2 (ii_scl ks)), ⟨.inl (ren_cells (pl_scl p)), ⟨.inl (ren_headS rfl rfl), ⟨.inl (congrArg some (ren_entsV _).symm), ⟨.inl (congrArg some (ren_hdM _).symm), ⟨.inl (ren_cells (bb_scl hs)), ⟨.inl (ren_slB q5 (fun _ => (ntsR_scl _ _))), trivial⟩⟩⟩⟩⟩⟩⟩⟩
    ·exact ⟨(i + 1), a, rfl, by omega, (by first | exact snd_more hS (by omega) (by assumption) ha | exact snd_less hS (by omega) (by assumption) ha), rfl⟩
   obtain ⟨hGl, hE⟩ := snd_get hS (by omega) (by assumption) ha
   rw [← hL] at hGl hE
   have hal : a ≤ i := ha ▸ notesTo_len _ i
   refine gskip ?_
   refine seq_go ?_
   refine gseq ?_
   refine gseq ?_
   refine gdreg [] (by kernel_rfl) ?_
   refine r_d 2 [(89, slV 7 y7.2.length q5), (88, iv (a : Int))] (by kernel_rfl) ?_
   refine r_s (by exact run_lenSl rfl (fun z => congrArg List.length (hq6 z))) ?_
   refine r_d 2 [(92, bv (decide ((a : Int) ≥ (y7.2.length : Nat)))), (91, bv (decide ((a : Int) ≥ (y7.2.length : Nat))))] (by kernel_rfl) ?_
   refine r_sp (b := decide ((a : Int) ≥ (y7.2.length : Nat))) 92 rfl (fun q => by rw [(by first | (rw [hE]; done) | (rw [hE]; rfl) | (rw [hE]; simp; done) | (rw [hE]; simp [eqP_self]; done) | (simp; omega) : (decide ((a : Int) ≥ (y7.2.length : Nat))) = false)] at q; cases q) (fun k10 => ?_)
   refine r_d 2 [(94, iv (a : Int)), (93, slV 7 y7.2.length q5)] (by kernel_rfl) ?_
   refine r_unguard rfl ?_
   refine r_s (by exact run_iadSl (o' := 342 * a) rfl (fun z => congrArg List.length (hq6 z)) rfl (by omega) (by omega)) ?_
   refine r_unguard rfl ?_
   refine r_s (by refine run_fad (o' := 342 * a) rfl (by omega)) ?_
   refine r_unguard rfl ?_
   refine r_s (by refine run_ld (v := iv ((y7.2.getD a n0).u)) rfl (hf_sl (n := y7.2.length) rfl (fun z => congrArg List.length (hq6 z)) (by omega)) ?_; exact nts_r2 (i := a) (j := 0) (by omega) (nts_get (by omega)) (nt_rL (nt_rH rfl))) ?_
   refine r_d 4 [(101, bv (((y7.2.getD a n0).u) != (i : Int))), (100, bv (((y7.2.getD a n0).u) != (i : Int))), (99, bv (((y7.2.getD a n0).u) != (i : Int))), (98, iv (i : Int))] (by kernel_rfl) ?_
   refine r_sp (b := ((y7.2.getD a n0).u) != (i : Int)) 101 rfl (fun q => by rw [(by first | (rw [hE]; done) | (rw [hE]; rfl) | (rw [hE]; simp; done) | (rw [hE]; simp [eqP_self]; done) | (simp; omega) : (((y7.2.getD a n0).u) != (i : Int)) = false)] at q; cases q) (fun k11 => ?_)
   refine r_d 2 [(103, iv (a : Int)), (102, slV 7 y7.2.length q5)] (by kernel_rfl) ?_
   refine r_unguard rfl ?_
   refine r_s (by exact run_iadSl (o' := 342 * a) rfl (fun z => congrArg List.length (hq6 z)) rfl (by omega) (by omega)) ?_
   refine r_unguard rfl ?_
   refine r_s (by refine run_fad (o' := 4 + 342 * a) rfl (by omega)) ?_
   refine r_unguard rfl ?_
   refine r_s (by refine run_ld (v := bv ((y7.2.getD a n0).a)) rfl (hf_sl (n := y7.2.length) rfl (fun z => congrArg List.length (hq6 z)) (by omega)) ?_; exact nts_r2 (i := a) (j := 4) (by omega) (nts_get (by omega)) (nt_rL (nt_rH rfl))) ?_
   refine r_d 2 [(108, bv ((y7.2.getD a n0).a)), (107, bv ((y7.2.getD a n0).a))] (by kernel_rfl) ?_
   refine r_sp (b := (y7.2.getD a n0).a) 108 rfl (fun q => by rw [(by first | (rw [hE]; done) | (rw [hE]; rfl) | (rw [hE]; simp; done) | (rw [hE]; simp [eqP_self]; done) | (simp; omega) : ((y7.2.getD a n0).a) = false)] at q; cases q) (fun k12 => ?_)
   refine r_d 2 [(110, iv (a : Int)), (109, slV 7 y7.2.length q5)] (by kernel_rfl) ?_
   refine r_unguard rfl ?_
   refine r_s (by exact run_iadSl (o' := 342 * a) rfl (fun z => congrArg List.length (hq6 z)) rfl (by omega) (by omega)) ?_
   refine r_unguard rfl ?_
   refine r_s (by refine run_fad (o' := 3 + 342 * a) rfl (by omega)) ?_
   refine r_unguard rfl ?_
   refine r_s (by refine run_ld (v := bv ((y7.2.getD a n0).w)) rfl (hf_sl (n := y7.2.length) rfl (fun z => congrArg List.length (hq6 z)) (by omega)) ?_; exact nts_r2 (i := a) (j := 3) (by omega) (nts_get (by omega)) (nt_rL (nt_rH rfl))) ?_
   refine r_d 3 [(116, bv (!((y7.2.getD a n0).w))), (115, bv (!((y7.2.getD a n0).w))), (114, bv (!((y7.2.getD a n0).w)))] (by kernel_rfl) ?_
   refine r_sp (b := !((y7.2.getD a n0).w)) 116 rfl (fun q => by rw [(by first | (rw [hE]; done) | (rw [hE]; rfl) | (rw [hE]; simp; done) | (rw [hE]; simp [eqP_self]; done) | (simp; omega) : (!((y7.2.getD a n0).w)) = false)] at q; cases q) (fun k13 => ?_)
   refine r_d 2 [(118, iv (a : Int)), (117, slV 7 y7.2.length q5)] (by kernel_rfl) ?_
   refine r_unguard rfl ?_
   refine r_s (by exact run_iadSl (o' := 342 * a) rfl (fun z => congrArg List.length (hq6 z)) rfl (by omega) (by omega)) ?_
   refine r_unguard rfl ?_
   refine r_s (by refine run_fad (o' := 2 + 342 * a) rfl (by omega)) ?_
   refine r_unguard rfl ?_
   refine r_s (by refine run_ld (v := iv ((y7.2.getD a n0).v)) rfl (hf_sl (n := y7.2.length) rfl (fun z => congrArg List.length (hq6 z)) (by omega)) ?_; exact nts_r2 (i := a) (j := 2) (by omega) (nts_get (by omega)) (nt_rL (nt_rH rfl))) ?_
   refine r_d 1 [(122, pv 2 0)] (by kernel_rfl) ?_
   refine r_unguard rfl ?_
   refine r_s (by refine run_ld (v := iv (p 0)) rfl rfl ?_; exact pl_r p 0 rfl (by omega)) ?_
   refine r_d 3 [(126, bv (((y7.2.getD a n0).v) != (p 0))), (125, bv (((y7.2.getD a n0).v) != (p 0))), (124, bv (((y7.2.getD a n0).v) != (p 0)))] (by kernel_rfl) ?_
   refine r_sp (b := ((y7.2.getD a n0).v) != (p 0)) 126 rfl (fun q => by rw [(by first | (rw [hE]; done) | (rw [hE]; rfl) | (rw [hE]; simp; done) | (rw [hE]; simp [eqP_self]; done) | (simp; omega) : (((y7.2.getD a n0).v) != (p 0)) = false)] at q; cases q) (fun k14 => ?_)
   refine r_d 2 [(128, iv (a : Int)), (127, slV 7 y7.2.length q5)] (by kernel_rfl) ?_
   refine r_unguard rfl ?_
   refine r_s (by exact run_iadSl (o' := 342 * a) rfl (fun z => congrArg List.length (hq6 z)) rfl (by omega) (by omega)) ?_
   refine r_unguard rfl ?_
   refine r_s (by refine run_fad (o' := 12 + 342 * a) rfl (by omega)) ?_
   refine r_unguard rfl ?_
   refine r_s (by refine run_ld (v := poolV ((y7.2.getD a n0).p)) rfl (hf_sl (n := y7.2.length) rfl (fun z => congrArg List.length (hq6 z)) (by omega)) ?_; exact nts_r2 (i := a) (j := 12) (by omega) (nts_get (by omega)) (nt_rL ((nt_rP 0).trans (pl_all ((y7.2.getD a n0).p))))) ?_
   refine r_unguard rfl ?_
   refine r_s (by refine run_ld (v := poolV p) rfl rfl ?_; exact pl_all p) ?_
   refine r_unguard rfl ?_
   refine r_s (by refine run_eqa (a := ⟨pl ((y7.2.getD a n0).p)⟩) (b := ⟨pl p⟩) (r := eqP ((y7.2.getD a n0).p) p) (R := !(eqP ((y7.2.getD a n0).p) p)) ?_ rfl; exact eqP_run ((y7.2.getD a n0).p) p rfl rfl) ?_
   refine r_d 1 [(134, bv (!(eqP ((y7.2.getD a n0).p) p)))] (by kernel_rfl) ?_
   refine r_nil ?_
   refine seq_regs [(134, bv (!(eqP ((y7.2.getD a n0).p) p))), (16, iv (i : Int)), (15, iv (a : Int)), (14, slV 7 y7.2.length q5), (11, pv 6 0), (8, iv (1 + u0)), (7, pv 2 0)] (by kernel_rfl) ?_
   refine gcond (t := !(eqP ((y7.2.getD a n0).p) p)) rfl (fun q => by rw [(by first | (rw [hE]; done) | (rw [hE]; rfl) | (rw [hE]; simp; done) | (rw [hE]; simp [eqP_self]; done) | (simp; omega) : (!(eqP ((y7.2.getD a n0).p) p)) = false)] at q; cases q) (fun _ => ?_)
   refine gskip ?_
   refine seq_go ?_
   refine greg ?_
   refine o_d 1 [(135, iv (a : Int))] (by kernel_rfl) ?_
   refine o_s (by refine run_val (v := .int .i64 (IntKind.i64.wrap ((a : Int) + 1))) (congrArg (Value.int .i64) (w64 (by omega) (by omega))) ?_; kernel_rfl) ?_
   refine o_d 1 [(15, iv ((a : Int) + 1))] (by kernel_rfl) ?_
   refine o_nil ?_
   refine seq_go ?_
   refine greg ?_
   refine o_d 1 [(83, iv (i : Int))] (by kernel_rfl) ?_
   refine o_s (by refine run_val (v := .int .i64 (IntKind.i64.wrap ((i : Int) + 1))) (congrArg (Value.int .i64) (w64 (by omega) (by omega))) ?_; kernel_rfl) ?_
   refine o_d 1 [(16, iv ((i : Int) + 1))] (by kernel_rfl) ?_
   refine o_nil ?_
   refine ⟨(1 + u0).toNat - (i + 1), ?_⟩
   refine ⟨⟨reg [(16, iv ((i + 1) : Int)), (15, iv ((a + 1) : Int)), (14, slV 7 y7.2.length q5), (11, pv 6 0), (8, iv (1 + u0)), (7, pv 2 0)], [inB o (ii ns), inB o2 (ii ks), cw (pl p), cw (headL y7.1.p 4 5 y7.1.e y7.1.s), .chan 200 (y7.1.w.map entV), .map (hdM y7.1.hd), cw (bb hs), slB zNt (ntsL y7.2) q5]⟩, ?_⟩
   refine and3 (by omega) ⟨?_, ?_⟩
   ·exact Wk.ren [0, 1, 2, 3, 4, 5, 6, 7] rfl rfl (by decide) ⟨rfl, ⟨rfl, ⟨((renV_slV q5 rfl)).trans rfl, ⟨rfl, ⟨rfl, ⟨rfl, trivial⟩⟩⟩⟩⟩⟩ ⟨.inl (ren_inB o (ii_scl ns)), ⟨.inl (ren_inB o2 (ii_scl ks)), ⟨.inl (ren_cells (pl_scl p)), ⟨.inl (ren_headS rfl rfl), ⟨.inl (congrArg some (ren_entsV _).symm), ⟨.inl (congrArg some (ren_hdM _).symm), ⟨.inl (ren_cells (bb_scl hs)), ⟨.inl (ren_slB q5 (fun _ => (ntsR_scl _ _))), trivial⟩⟩⟩⟩⟩⟩⟩⟩
   ·exact ⟨(i + 1), (a + 1), rfl, by omega, (by first | exact snd_more hS (by omega) (by assumption) ha | exact snd_less hS (by omega) (by assumption) ha), rfl⟩
  have h8' : ¬ ((i : Int) < 1 + u0) := of_decide_eq_false h8
  refine gexit ?_
  refine seq_go ?_
  refine gseq ?_
  refine greg ?_
  refine o_d 2 [(138, slV 7 y7.2.length q5), (137, iv (a : Int))] (by kernel_rfl) ?_
  refine o_s (by exact run_lenSl rfl (fun z => congrArg List.length (hq6 z))) ?_
  refine o_d 2 [(6, bv ((a : Int) == (y7.2.length : Nat))), (140, bv ((a : Int) == (y7.2.length : Nat)))] (by kernel_rfl) ?_
  refine o_nil ?_
  refine seq_go ?_
  refine gret ?_
  have E0_ : ((a : Int) == (y7.2.length : Nat)) = true := by
   (rw [hL]; have : i = (1 + u0).toNat := by omega
    rw [this] at ha; rw [ha]; simp)
  exact fin_ans [bv ((a : Int) == (y7.2.length : Nat))] (resV_t rfl rfl) rfl (by rw [E0_]; rfl) rfl (show List.all [inB o (ii ns), inB o2 (ii ks)] blkf = true from (all_cons (inB_gone _ (ii_scl ns)) (all_cons (inB_gone _ (ii_scl ks)) rfl)))
 have h2' : ¬ ((i : Int) < (ks.length : Nat)) := of_decide_eq_false h2
 refine o_d 3 [(43, bv false), (42, undef), (41, undef)] (by kernel_rfl) ?_
 refine o_nil ?_
 refine seq_go ?_
 refine gfalse rfl ?_
 refine gexit ?_
 refine seq_go ?_
 refine gseq ?_
 refine greg ?_
 refine o_d 1 [(78, pv 3 0)] (by kernel_rfl) ?_
 refine o_cl (callG [3, 4, 5] [cw (headL ((HS.mk p [] hd e0 false).p) 1 2 ((HS.mk p [] hd e0 false).e) ((HS.mk p [] hd e0 false).s)), .chan 200 (((HS.mk p [] hd e0 false).w).map entV), .map (hdM ((HS.mk p [] hd e0 false).hd))] [pv 0 0] (HsendC h_head_Head_Send h_head_Head_all h_head_Head_publish h_pool_Apply h_pool_may h_pool_held h_pool_fits h_pool_Check h_pool_placed h_cookie_Next ((HS.mk p [] hd e0 false).p) ((HS.mk p [] hd e0 false).w) ((HS.mk p [] hd e0 false).hd) ((HS.mk p [] hd e0 false).e) ((HS.mk p [] hd e0 false).s) ((show HOK (HS.mk p [] hd e0 false) from ok_snd hS)).hd) rfl rfl ⟨⟨_, rfl, seen_head rfl rfl (fun q => rfl)⟩, ⟨⟨_, rfl, seen_ents _⟩, ⟨⟨_, rfl, seen_hdM _⟩, trivial⟩⟩⟩ (by decide) ?_)
 rintro v1 h1' ⟨q15, hq16, rfl, rfl⟩
 refine ⟨slV 7 ((sendS (HS.mk p [] hd e0 false)).2.length) q15, [inB o (ii ns), inB o2 (ii ks), cw (pl p), cw (headL ((sendS (HS.mk p [] hd e0 false)).1.p) 4 5 ((sendS (HS.mk p [] hd e0 false)).1.e) ((sendS (HS.mk p [] hd e0 false)).1.s)), .chan 200 (((sendS (HS.mk p [] hd e0 false)).1.w).map entV), .map (hdM ((sendS (HS.mk p [] hd e0 false)).1.hd)), cw (bb hs)], [slB zNt (ntsL ((sendS (HS.mk p [] hd e0 false)).2)) q15], (renV_slV q15 rfl), ⟨rfl, ⟨rfl, ⟨rfl, ⟨ren_headL rfl rfl, ⟨ren_entsV _, ⟨(ren_hdM2 (sendS_hd _)), ⟨rfl, trivial⟩⟩⟩⟩⟩⟩⟩, ⟨(Option.some.inj (ren_slB q15 (fun _ => (ntsR_scl _ _)))).symm, trivial⟩, ?_⟩
 have ok_y17 := (ok_send (show HOK (HS.mk p [] hd e0 false) from ok_snd hS))
 generalize hd_y17 : (sendS (HS.mk p [] hd e0 false)) = y17 at ok_y17 hq16 ⊢
 have hL : y17.2 = notesTo (HS.mk p [] hd e0 false) (1 + u0).toNat := by rw [← hd_y17]; exact snd_send hS
 refine o_d 1 [(14, slV 7 y17.2.length q15)] (by kernel_rfl) ?_
 refine o_nil ?_
 refine seq_go ?_
 refine gseq ?_
 refine greg ?_
 refine o_d 1 [(15, iv 0)] (by kernel_rfl) ?_
 refine o_nil ?_
 refine seq_go ?_
 refine gseq ?_
 refine gseq ?_
 refine greg ?_
 refine o_d 1 [(16, iv 0)] (by kernel_rfl) ?_
 refine o_nil ?_
 refine seq_go ?_
 refine gblock ?_
 refine gloop (fun μ s => ∃ (i : Nat), ∃ (a : Nat), μ = (1 + u0).toNat - i ∧ (i ≤ (1 + u0).toNat) ∧ ((notesTo (HS.mk p [] hd e0 false) i).length = a) ∧ s = ⟨reg [(16, iv (i : Int)), (15, iv (a : Int)), (14, slV 7 y17.2.length q15), (11, pv 6 0), (8, iv (1 + u0)), (7, pv 2 0)], [inB o (ii ns), inB o2 (ii ks), cw (pl p), cw (headL y17.1.p 4 5 y17.1.e y17.1.s), .chan 200 (y17.1.w.map entV), .map (hdM y17.1.hd), cw (bb hs), slB zNt (ntsL y17.2) q15]⟩) ⟨((1 + u0).toNat - 0), ?_⟩ ?_
 ·skip
  refine ⟨⟨reg [(16, iv (0 : Int)), (15, iv (0 : Int)), (14, slV 7 y17.2.length q15), (11, pv 6 0), (8, iv (1 + u0)), (7, pv 2 0)], [inB o (ii ns), inB o2 (ii ks), cw (pl p), cw (headL y17.1.p 4 5 y17.1.e y17.1.s), .chan 200 (y17.1.w.map entV), .map (hdM y17.1.hd), cw (bb hs), slB zNt (ntsL y17.2) q15]⟩, ?_⟩
  refine ⟨?_, ?_⟩
  ·exact Wk.ren [0, 1, 2, 3, 4, 5, 6, 7] rfl rfl (by decide) ⟨rfl, ⟨rfl, ⟨((renV_slV q15 rfl)).trans rfl, ⟨rfl, ⟨rfl, ⟨rfl, trivial⟩⟩⟩⟩⟩⟩ ⟨.inl (ren_inB o (ii_scl ns)), ⟨.inl (ren_inB o2 (ii_scl ks)), ⟨.inl (ren_cells (pl_scl p)), ⟨.inl (ren_headS rfl rfl), ⟨.inl (congrArg some (ren_entsV _).symm), ⟨.inl (congrArg some (ren_hdM _).symm), ⟨.inl (ren_cells (bb_scl hs)), ⟨.inl (ren_slB q15 (fun _ => (ntsR_scl _ _))), trivial⟩⟩⟩⟩⟩⟩⟩⟩
  ·exact ⟨0, 0, rfl, (Nat.zero_le _), rfl, rfl⟩
 rintro μ s ⟨i, a, rfl, hi, ha, rfl⟩
 refine gseq ?_
 refine gseq ?_
 refine greg ?_
 refine o_d 3 [(82, bv (decide ((i : Int) < 1 + u0))), (81, iv (1 + u0)), (80, iv (i : Int))] (by kernel_rfl) ?_
 refine o_nil ?_
 refine seq_go ?_
 refine gcond (t := decide ((i : Int) < 1 + u0)) rfl (fun h18 => ?_) (fun h18 => ?_)
 ·skip
  have h18' : (i : Int) < 1 + u0 := of_decide_eq_true h18
  refine gskip ?_
  refine seq_go ?_
  refine gseq ?_
  refine gblock ?_
  refine gseq ?_
  refine gseq ?_
  refine greg ?_
  refine o_d 1 [(85, iv (i : Int))] (by kernel_rfl) ?_
  refine o_s (by exact run_iadA (o := 0) (o' := i) rfl rfl (by omega) (by omega)) ?_
  refine o_s (by refine run_ld (v := bv (hs.getD i false)) rfl rfl ?_; exact bb_r (by have := hS.hl; omega)) ?_
  refine o_nil ?_
  refine seq_go ?_
  refine gcond (t := hs.getD i false) rfl (fun h19 => ?_) (fun h19 => ?_)
  ·skip
   refine gexit ?_
   refine seq_go ?_
   refine greg ?_
   refine o_d 1 [(83, iv (i : Int))] (by kernel_rfl) ?_
   refine o_s (by refine run_val (v := .int .i64 (IntKind.i64.wrap ((i : Int) + 1))) (congrArg (Value.int .i64) (w64 (by omega) (by omega))) ?_; kernel_rfl) ?_
   refine o_d 1 [(16, iv ((i : Int) + 1))] (by kernel_rfl) ?_
   refine o_nil ?_
   refine ⟨(1 + u0).toNat - (i + 1), ?_⟩
   refine ⟨⟨reg [(16, iv ((i + 1) : Int)), (15, iv (a : Int)), (14, slV 7 y17.2.length q15), (11, pv 6 0), (8, iv (1 + u0)), (7, pv 2 0)], [inB o (ii ns), inB o2 (ii ks), cw (pl p), cw (headL y17.1.p 4 5 y17.1.e y17.1.s), .chan 200 (y17.1.w.map entV), .map (hdM y17.1.hd), cw (bb hs), slB zNt (ntsL y17.2) q15]⟩, ?_⟩
   refine and3 (by omega) ⟨?_, ?_⟩
   ·exact Wk.ren [0, 1, 2, 3, 4, 5, 6, 7] rfl rfl (by decide) ⟨rfl, ⟨rfl, ⟨((renV_slV q15 rfl)).trans rfl, ⟨rfl, ⟨rfl, ⟨rfl, trivial⟩⟩⟩⟩⟩⟩ ⟨.inl (ren_inB o (ii_scl ns)), ⟨.inl (ren_inB o2 (ii_scl ks)), ⟨.inl (ren_cells (pl_scl p)), ⟨.inl (ren_headS rfl rfl), ⟨.inl (congrArg some (ren_entsV _).symm), ⟨.inl (congrArg some (ren_hdM _).symm), ⟨.inl (ren_cells (bb_scl hs)), ⟨.inl (ren_slB q15 (fun _ => (ntsR_scl _ _))), trivial⟩⟩⟩⟩⟩⟩⟩⟩
   ·exact ⟨(i + 1), a, rfl, by omega, (by first | exact snd_more hS (by omega) (by assumption) ha | exact snd_less hS (by omega) (by assumption) ha), rfl⟩
  obtain ⟨hGl, hE⟩ := snd_get hS (by omega) (by assumption) ha
  rw [← hL] at hGl hE
  have hal : a ≤ i := ha ▸ notesTo_len _ i
  refine gskip ?_
  refine seq_go ?_
  refine gseq ?_
  refine gseq ?_
  refine gdreg [] (by kernel_rfl) ?_
  refine r_d 2 [(89, slV 7 y17.2.length q15), (88, iv (a : Int))] (by kernel_rfl) ?_
  refine r_s (by exact run_lenSl rfl (fun z => congrArg List.length (hq16 z))) ?_
  refine r_d 2 [(92, bv (decide ((a : Int) ≥ (y17.2.length : Nat)))), (91, bv (decide ((a : Int) ≥ (y17.2.length : Nat))))] (by kernel_rfl) ?_
  refine r_sp (b := decide ((a : Int) ≥ (y17.2.length : Nat))) 92 rfl (fun q => by rw [(by first | (rw [hE]; done) | (rw [hE]; rfl) | (rw [hE]; simp; done) | (rw [hE]; simp [eqP_self]; done) | (simp; omega) : (decide ((a : Int) ≥ (y17.2.length : Nat))) = false)] at q; cases q) (fun k20 => ?_)
  refine r_d 2 [(94, iv (a : Int)), (93, slV 7 y17.2.length q15)] (by kernel_rfl) ?_
  refine r_unguard rfl ?_
  refine r_s (by exact run_iadSl (o' := 342 * a) rfl (fun z => congrArg List.length (hq16 z)) rfl (by omega) (by omega)) ?_
  refine r_unguard rfl ?_
  refine r_s (by refine run_fad (o' := 342 * a) rfl (by omega)) ?_
  refine r_unguard rfl ?_
  refine r_s (by refine run_ld (v := iv ((y17.2.getD a n0).u)) rfl (hf_sl (n := y17.2.length) rfl (fun z => congrArg List.length (hq16 z)) (by omega)) ?_; exact nts_r2 (i := a) (j := 0) (by omega) (nts_get (by omega)) (nt_rL (nt_rH rfl))) ?_
  refine r_d 4 [(101, bv (((y17.2.getD a n0).u) != (i : Int))), (100, bv (((y17.2.getD a n0).u) != (i : Int))), (99, bv (((y17.2.getD a n0).u) != (i : Int))), (98, iv (i : Int))] (by kernel_rfl) ?_
  refine r_sp (b := ((y17.2.getD a n0).u) != (i : Int)) 101 rfl (fun q => by rw [(by first | (rw [hE]; done) | (rw [hE]; rfl) | (rw [hE]; simp; done) | (rw [hE]; simp [eqP_self]; done) | (simp; omega) : (((y17.2.getD a n0).u) != (i : Int)) = false)] at q; cases q) (fun k21 => ?_)
  refine r_d 2 [(103, iv (a : Int)), (102, slV 7 y17.2.length q15)] (by kernel_rfl) ?_
  refine r_unguard rfl ?_
  refine r_s (by exact run_iadSl (o' := 342 * a) rfl (fun z => congrArg List.length (hq16 z)) rfl (by omega) (by omega)) ?_
  refine r_unguard rfl ?_
  refine r_s (by refine run_fad (o' := 4 + 342 * a) rfl (by omega)) ?_
  refine r_unguard rfl ?_
  refine r_s (by refine run_ld (v := bv ((y17.2.getD a n0).a)) rfl (hf_sl (n := y17.2.length) rfl (fun z => congrArg List.length (hq16 z)) (by omega)) ?_; exact nts_r2 (i := a) (j := 4) (by omega) (nts_get (by omega)) (nt_rL (nt_rH rfl))) ?_
  refine r_d 2 [(108, bv ((y17.2.getD a n0).a)), (107, bv ((y17.2.getD a n0).a))] (by kernel_rfl) ?_
  refine r_sp (b := (y17.2.getD a n0).a) 108 rfl (fun q => by rw [(by first | (rw [hE]; done) | (rw [hE]; rfl) | (rw [hE]; simp; done) | (rw [hE]; simp [eqP_self]; done) | (simp; omega) : ((y17.2.getD a n0).a) = false)] at q; cases q) (fun k22 => ?_)
  refine r_d 2 [(110, iv (a : Int)), (109, slV 7 y17.2.length q15)] (by kernel_rfl) ?_
  refine r_unguard rfl ?_
  refine r_s (by exact run_iadSl (o' := 342 * a) rfl (fun z => congrArg List.length (hq16 z)) rfl (by omega) (by omega)) ?_
  refine r_unguard rfl ?_
  refine r_s (by refine run_fad (o' := 3 + 342 * a) rfl (by omega)) ?_
  refine r_unguard rfl ?_
  refine r_s (by refine run_ld (v := bv ((y17.2.getD a n0).w)) rfl (hf_sl (n := y17.2.length) rfl (fun z => congrArg List.length (hq16 z)) (by omega)) ?_; exact nts_r2 (i := a) (j := 3) (by omega) (nts_get (by omega)) (nt_rL (nt_rH rfl))) ?_
  refine r_d 3 [(116, bv (!((y17.2.getD a n0).w))), (115, bv (!((y17.2.getD a n0).w))), (114, bv (!((y17.2.getD a n0).w)))] (by kernel_rfl) ?_
  refine r_sp (b := !((y17.2.getD a n0).w)) 116 rfl (fun q => by rw [(by first | (rw [hE]; done) | (rw [hE]; rfl) | (rw [hE]; simp; done) | (rw [hE]; simp [eqP_self]; done) | (simp; omega) : (!((y17.2.getD a n0).w)) = false)] at q; cases q) (fun k23 => ?_)
  refine r_d 2 [(118, iv (a : Int)), (117, slV 7 y17.2.length q15)] (by kernel_rfl) ?_
  refine r_unguard rfl ?_
  refine r_s (by exact run_iadSl (o' := 342 * a) rfl (fun z => congrArg List.length (hq16 z)) rfl (by omega) (by omega)) ?_
  refine r_unguard rfl ?_
  refine r_s (by refine run_fad (o' := 2 + 342 * a) rfl (by omega)) ?_
  refine r_unguard rfl ?_
  refine r_s (by refine run_ld (v := iv ((y17.2.getD a n0).v)) rfl (hf_sl (n := y17.2.length) rfl (fun z => congrArg List.length (hq16 z)) (by omega)) ?_; exact nts_r2 (i := a) (j := 2) (by omega) (nts_get (by omega)) (nt_rL (nt_rH rfl))) ?_
  refine r_d 1 [(122, pv 2 0)] (by kernel_rfl) ?_
  refine r_unguard rfl ?_
  refine r_s (by refine run_ld (v := iv (p 0)) rfl rfl ?_; exact pl_r p 0 rfl (by omega)) ?_
  refine r_d 3 [(126, bv (((y17.2.getD a n0).v) != (p 0))), (125, bv (((y17.2.getD a n0).v) != (p 0))), (124, bv (((y17.2.getD a n0).v) != (p 0)))] (by kernel_rfl) ?_
  refine r_sp (b := ((y17.2.getD a n0).v) != (p 0)) 126 rfl (fun q => by rw [(by first | (rw [hE]; done) | (rw [hE]; rfl) | (rw [hE]; simp; done) | (rw [hE]; simp [eqP_self]; done) | (simp; omega) : (((y17.2.getD a n0).v) != (p 0)) = false)] at q; cases q) (fun k24 => ?_)
  refine r_d 2 [(128, iv (a : Int)), (127, slV 7 y17.2.length q15)] (by kernel_rfl) ?_
  refine r_unguard rfl ?_
  refine r_s (by exact run_iadSl (o' := 342 * a) rfl (fun z => congrArg List.length (hq16 z)) rfl (by omega) (by omega)) ?_
  refine r_unguard rfl ?_
  refine r_s (by refine run_fad (o' := 12 + 342 * a) rfl (by omega)) ?_
  refine r_unguard rfl ?_
  refine r_s (by refine run_ld (v := poolV ((y17.2.getD a n0).p)) rfl (hf_sl (n := y17.2.length) rfl (fun z => congrArg List.length (hq16 z)) (by omega)) ?_; exact nts_r2 (i := a) (j := 12) (by omega) (nts_get (by omega)) (nt_rL ((nt_rP 0).trans (pl_all ((y17.2.getD a n0).p))))) ?_
  refine r_unguard rfl ?_
  refine r_s (by refine run_ld (v := poolV p) rfl rfl ?_; exact pl_all p) ?_
  refine r_unguard rfl ?_
  refine r_s (by refine run_eqa (a := ⟨pl ((y17.2.getD a n0).p)⟩) (b := ⟨pl p⟩) (r := eqP ((y17.2.getD a n0).p) p) (R := !(eqP ((y17.2.getD a n0).p) p)) ?_ rfl; exact eqP_run ((y17.2.getD a n0).p) p rfl rfl) ?_
  refine r_d 1 [(134, bv (!(eqP ((y17.2.getD a n0).p) p)))] (by kernel_rfl) ?_
  refine r_nil ?_
  refine seq_regs [(134, bv (!(eqP ((y17.2.getD a n0).p) p))), (16, iv (i : Int)), (15, iv (a : Int)), (14, slV 7 y17.2.length q15), (11, pv 6 0), (8, iv (1 + u0)), (7, pv 2 0)] (by kernel_rfl) ?_
  refine gcond (t := !(eqP ((y17.2.getD a n0).p) p)) rfl (fun q => by rw [(by first | (rw [hE]; done) | (rw [hE]; rfl) | (rw [hE]; simp; done) | (rw [hE]; simp [eqP_self]; done) | (simp; omega) : (!(eqP ((y17.2.getD a n0).p) p)) = false)] at q; cases q) (fun _ => ?_)
  refine gskip ?_
  refine seq_go ?_
  refine greg ?_
  refine o_d 1 [(135, iv (a : Int))] (by kernel_rfl) ?_
  refine o_s (by refine run_val (v := .int .i64 (IntKind.i64.wrap ((a : Int) + 1))) (congrArg (Value.int .i64) (w64 (by omega) (by omega))) ?_; kernel_rfl) ?_
  refine o_d 1 [(15, iv ((a : Int) + 1))] (by kernel_rfl) ?_
  refine o_nil ?_
  refine seq_go ?_
  refine greg ?_
  refine o_d 1 [(83, iv (i : Int))] (by kernel_rfl) ?_
  refine o_s (by refine run_val (v := .int .i64 (IntKind.i64.wrap ((i : Int) + 1))) (congrArg (Value.int .i64) (w64 (by omega) (by omega))) ?_; kernel_rfl) ?_
  refine o_d 1 [(16, iv ((i : Int) + 1))] (by kernel_rfl) ?_
  refine o_nil ?_
  refine ⟨(1 + u0).toNat - (i + 1), ?_⟩
  refine ⟨⟨reg [(16, iv ((i + 1) : Int)), (15, iv ((a + 1) : Int)), (14, slV 7 y17.2.length q15), (11, pv 6 0), (8, iv (1 + u0)), (7, pv 2 0)], [inB o (ii ns), inB o2 (ii ks), cw (pl p), cw (headL y17.1.p 4 5 y17.1.e y17.1.s), .chan 200 (y17.1.w.map entV), .map (hdM y17.1.hd), cw (bb hs), slB zNt (ntsL y17.2) q15]⟩, ?_⟩
  refine and3 (by omega) ⟨?_, ?_⟩
  ·exact Wk.ren [0, 1, 2, 3, 4, 5, 6, 7] rfl rfl (by decide) ⟨rfl, ⟨rfl, ⟨((renV_slV q15 rfl)).trans rfl, ⟨rfl, ⟨rfl, ⟨rfl, trivial⟩⟩⟩⟩⟩⟩ ⟨.inl (ren_inB o (ii_scl ns)), ⟨.inl (ren_inB o2 (ii_scl ks)), ⟨.inl (ren_cells (pl_scl p)), ⟨.inl (ren_headS rfl rfl), ⟨.inl (congrArg some (ren_entsV _).symm), ⟨.inl (congrArg some (ren_hdM _).symm), ⟨.inl (ren_cells (bb_scl hs)), ⟨.inl (ren_slB q15 (fun _ => (ntsR_scl _ _))), trivial⟩⟩⟩⟩⟩⟩⟩⟩
  ·exact ⟨(i + 1), (a + 1), rfl, by omega, (by first | exact snd_more hS (by omega) (by assumption) ha | exact snd_less hS (by omega) (by assumption) ha), rfl⟩
 have h18' : ¬ ((i : Int) < 1 + u0) := of_decide_eq_false h18
 refine gexit ?_
 refine seq_go ?_
 refine gseq ?_
 refine greg ?_
 refine o_d 2 [(138, slV 7 y17.2.length q15), (137, iv (a : Int))] (by kernel_rfl) ?_
 refine o_s (by exact run_lenSl rfl (fun z => congrArg List.length (hq16 z))) ?_
 refine o_d 2 [(6, bv ((a : Int) == (y17.2.length : Nat))), (140, bv ((a : Int) == (y17.2.length : Nat)))] (by kernel_rfl) ?_
 refine o_nil ?_
 refine seq_go ?_
 refine gret ?_
 have E0_ : ((a : Int) == (y17.2.length : Nat)) = true := by
  (rw [hL]; have : i = (1 + u0).toNat := by omega
   rw [this] at ha; rw [ha]; simp)
 exact fin_ans [bv ((a : Int) == (y17.2.length : Nat))] (resV_t rfl rfl) rfl (by rw [E0_]; rfl) rfl (show List.all [inB o (ii ns), inB o2 (ii ks)] blkf = true from (all_cons (inB_gone _ (ii_scl ns)) (all_cons (inB_gone _ (ii_scl ks)) rfl)))
end Go.Rh
