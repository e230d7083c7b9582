import Derived.Test.YtmencoknmmfdmaaMf
set_option linter.unusedSimpArgs false
set_option linter.unusedVariables false
set_option maxRecDepth 100000
set_option maxHeartbeats 8000000
namespace Go.Rh
def c_law11_HeadBarrier : IFunc :=
  ⟨103, [.tmp 8], (.seq (.reg [⟨(some 8), .mv (.c (.bool false)), none⟩]) (.seq (.seq (.reg [⟨(some 17), .call "roundhouse/roundhouselaw11.known" [], none⟩, ⟨(some 18), .un .not (.t 17), none⟩]) (.cond (.t 18) (.seq (.reg [⟨(some 8), .mv (.c (.bool false)), none⟩]) .ret) .skip)) (.seq (.reg [⟨(some 19), .mv (.t 0), none⟩, ⟨(some 20), .call "roundhouse/roundhouselaw6.Make" [(.t 19), (.c (.int .i64 30))], none⟩, ⟨(some 9), .new [(324, (.int .i64 0)), (6, (.int .u64 0))], none⟩, ⟨none, .st 330 (.t 9) (.t 20), none⟩]) (.seq (.reg [⟨(some 21), .mv (.t 1), none⟩, ⟨(some 22), .call "roundhouse/roundhouselaw11.within" [(.t 21), (.c (.int .i64 6))], none⟩, ⟨(some 23), .bin .add (.c (.int .i64 2)) (.t 22), none⟩, ⟨(some 10), .mv (.t 23), none⟩]) (.seq (.reg [⟨(some 25), .ld (some 330) (.t 9), none⟩, ⟨(some 26), .mv (.t 10), none⟩, ⟨(some 27), .call "roundhouse/head.New" [(.t 25), (.t 26)], none⟩, ⟨(some 24), .mv (.t 27), none⟩, ⟨(some 28), .ext 0 (.t 24), none⟩, ⟨(some 29), .ext 1 (.t 24), none⟩, ⟨(some 11), .mv (.t 28), none⟩, ⟨(some 12), .mv (.t 29), none⟩]) (.seq (.seq (.reg [⟨(some 30), .mv (.t 12), none⟩, ⟨(some 31), .bin .neq (.t 30) (.c (.int .i64 0)), none⟩, ⟨(some 32), .mv (.t 31), none⟩, ⟨(some 33), .mv (.t 11), some (32, false)⟩, ⟨(some 34), .eqn false .ptr (.t 33) (.c (.pointer none)), some (32, false)⟩, ⟨(some 35), .pick (.t 32) (.c (.bool true)) (.t 34), none⟩]) (.cond (.t 35) (.seq (.reg [⟨(some 8), .mv (.c (.bool false)), none⟩]) .ret) .skip)) (.seq (.reg [⟨(some 36), .mv (.t 2), none⟩, ⟨(some 37), .mv (.t 10), none⟩, ⟨(some 38), .call "roundhouse/roundhouselaw11.within" [(.t 36), (.t 37)], none⟩, ⟨(some 13), .mv (.t 38), none⟩]) (.seq (.seq (.reg [⟨(some 14), .mv (.c (.int .i64 0)), none⟩]) (.block 0 (.loop (.seq (.seq (.reg [⟨(some 39), .mv (.t 14), none⟩, ⟨(some 40), .bin .lss (.t 39) (.c (.int .i64 3)), none⟩]) (.cond (.t 40) .skip (.exit 0))) (.seq (.block 1 (.seq (.reg [⟨(some 43), .mv (.t 11), none⟩, ⟨(some 44), .mv (.t 14), none⟩, ⟨(some 45), .cvi .u64 (.t 44), none⟩, ⟨(some 46), .bld [(2, (.int .u64 0))] [(0, 1, (.t 45))], none⟩, ⟨(some 47), .bld [(5, (.int .i64 0)), (2, (.int .u64 0))] [(0, 1, (.c (.int .i64 6))), (5, 2, (.t 46))], none⟩, ⟨(some 48), .bsl [(5, (.int .i64 0)), (2, (.int .u64 0))] 7 1 [(0, 7, (.t 47))], none⟩, ⟨(some 49), .call "(*roundhouse/head.Head).Wish" [(.t 43), (.t 48)], none⟩, ⟨(some 50), .bin .neq (.t 49) (.c (.int .i64 0)), none⟩]) (.cond (.t 50) (.seq (.reg [⟨(some 8), .mv (.c (.bool false)), none⟩]) .ret) .skip))) (.reg [⟨(some 41), .mv (.t 14), none⟩, ⟨(some 42), .bin .add (.t 41) (.c (.int .i64 1)), none⟩, ⟨(some 14), .mv (.t 42), none⟩])))))) (.seq (.seq (.reg [⟨(some 15), .mv (.c (.int .i64 0)), none⟩]) (.block 2 (.loop (.seq (.seq (.reg [⟨(some 51), .mv (.t 15), none⟩, ⟨(some 52), .mv (.t 3), none⟩, ⟨(some 53), .call "roundhouse/roundhouselaw11.within" [(.t 52), (.c (.int .i64 6))], none⟩, ⟨(some 54), .bin .add (.c (.int .i64 1)) (.t 53), none⟩, ⟨(some 55), .bin .lss (.t 51) (.t 54), none⟩]) (.cond (.t 55) .skip (.exit 2))) (.seq (.block 3 (.seq (.reg [⟨(some 58), .mv (.t 11), none⟩, ⟨(some 59), .call "(*roundhouse/head.Head).Send" [(.t 58)], none⟩]) (.seq (.seq (.reg [⟨(some 16), .mv (.c (.int .i64 0)), none⟩]) (.block 4 (.loop (.seq (.seq (.reg [⟨(some 60), .mv (.t 16), none⟩, ⟨(some 61), .mv (.t 10), none⟩, ⟨(some 62), .bin .lss (.t 60) (.t 61), none⟩]) (.cond (.t 62) .skip (.exit 4))) (.seq (.block 5 (.seq (.reg [⟨(some 65), .mv (.t 16), none⟩, ⟨(some 66), .mv (.t 13), none⟩, ⟨(some 67), .bin .neq (.t 65) (.t 66), none⟩]) (.cond (.t 67) (.reg [⟨(some 68), .mv (.t 11), none⟩, ⟨(some 69), .mv (.t 16), none⟩, ⟨(some 70), .mv (.t 11), none⟩, ⟨(some 71), .call "(*roundhouse/head.Head).Version" [(.t 70)], none⟩, ⟨(some 72), .bld [(3, (.int .i64 0)), (2, (.bool false)), (5, (.int .i64 0)), (2, (.int .u64 0)), (324, (.int .i64 0)), (6, (.int .u64 0))] [(0, 1, (.t 69)), (2, 1, (.t 71)), (4, 1, (.c (.bool true)))], none⟩, ⟨(some 73), .call "(*roundhouse/head.Head).Heard" [(.t 68), (.t 72)], none⟩]) .skip))) (.reg [⟨(some 63), .mv (.t 16), none⟩, ⟨(some 64), .bin .add (.t 63) (.c (.int .i64 1)), none⟩, ⟨(some 16), .mv (.t 64), none⟩])))))) (.seq (.dreg [⟨(some 74), .mv (.t 11), none⟩, ⟨(some 75), .call "(*roundhouse/head.Head).Version" [(.t 74)], none⟩, ⟨(some 76), .fad 0 (.t 9), none⟩, ⟨(some 77), .ld none (.t 76), none⟩, ⟨(some 78), .bin .neq (.t 75) (.t 77), none⟩, ⟨(some 79), .mv (.t 78), none⟩, ⟨(some 80), .mv (.t 11), some (79, false)⟩, ⟨(some 81), .call "(*roundhouse/head.Head).Waiting" [(.t 80)], some (79, false)⟩, ⟨(some 82), .bin .neq (.t 81) (.c (.int .i64 3)), some (79, false)⟩, ⟨(some 83), .pick (.t 79) (.c (.bool true)) (.t 82), none⟩] [[], [0], [], [2], [1, 0, 3, 2], [4, 1, 0, 3, 2], [5, 4, 1, 0, 3, 2], [6, 5, 4, 1, 0, 3, 2], [7, 6, 5, 4, 1, 0, 3, 2], [5, 4, 1, 0, 3, 2, 8, 7, 6]]) (.cond (.t 83) (.seq (.reg [⟨(some 8), .mv (.c (.bool false)), none⟩]) .ret) .skip))))) (.reg [⟨(some 56), .mv (.t 15), none⟩, ⟨(some 57), .bin .add (.t 56) (.c (.int .i64 1)), none⟩, ⟨(some 15), .mv (.t 57), none⟩])))))) (.seq (.reg [⟨(some 84), .mv (.t 11), none⟩, ⟨(some 85), .mv (.t 13), none⟩, ⟨(some 86), .mv (.t 11), none⟩, ⟨(some 87), .call "(*roundhouse/head.Head).Version" [(.t 86)], none⟩, ⟨(some 88), .bld [(3, (.int .i64 0)), (2, (.bool false)), (5, (.int .i64 0)), (2, (.int .u64 0)), (324, (.int .i64 0)), (6, (.int .u64 0))] [(0, 1, (.t 85)), (2, 1, (.t 87)), (4, 1, (.c (.bool true)))], none⟩, ⟨(some 89), .call "(*roundhouse/head.Head).Heard" [(.t 84), (.t 88)], none⟩]) (.seq (.reg [⟨(some 90), .mv (.t 11), none⟩, ⟨(some 91), .call "(*roundhouse/head.Head).Send" [(.t 90)], none⟩]) (.seq (.dreg [⟨(some 92), .mv (.t 11), none⟩, ⟨(some 93), .call "(*roundhouse/head.Head).Version" [(.t 92)], none⟩, ⟨(some 94), .fad 0 (.t 9), none⟩, ⟨(some 95), .ld none (.t 94), none⟩, ⟨(some 96), .bin .add (.t 95) (.c (.int .i64 1)), none⟩, ⟨(some 97), .bin .eql (.t 93) (.t 96), none⟩, ⟨(some 98), .mv (.t 97), none⟩, ⟨(some 99), .mv (.t 11), some (98, true)⟩, ⟨(some 100), .call "(*roundhouse/head.Head).Waiting" [(.t 99)], some (98, true)⟩, ⟨(some 101), .bin .eql (.t 100) (.c (.int .i64 2)), some (98, true)⟩, ⟨(some 102), .pick (.t 98) (.t 101) (.c (.bool false)), none⟩, ⟨(some 8), .mv (.t 102), none⟩] [[], [0], [], [2], [3, 2], [1, 0, 4, 3, 2], [5, 1, 0, 4, 3, 2], [6, 5, 1, 0, 4, 3, 2], [7, 6, 5, 1, 0, 4, 3, 2], [8, 7, 6, 5, 1, 0, 4, 3, 2], [6, 5, 1, 0, 4, 3, 2, 9, 8, 7], [10, 6, 5, 1, 0, 4, 3, 2, 9, 8, 7]]) .ret))))))))))))⟩
def wl (n : Nat) : List Ent := (List.range n).map fun i => rotE (IntKind.u64.wrap (i : Nat)) 0
theorem wl_rots (n : Nat) : Rots (wl n) := by
  intro e he
  obtain ⟨i, _, rfl⟩ := List.mem_map.1 he
  exact ⟨_, _, rfl⟩
theorem bar_wish {p : Flat} {u i : Nat} (hi : i < 3) : wisS (coldS p u (wl i)) [⟨6, 0, 0, 0, 0, IntKind.u64.wrap (i : Nat), 0⟩] = coldS p u (wl (i + 1)) := by
  show wisS (coldS p u (wl i)) [rotE (IntKind.u64.wrap (i : Nat)) 0] = _
  rw [cold_wis p u (Rots.one _ _) (by simp [wl]; omega)]
  simp [wl, List.range_succ, rotE]
structure Bar (p : Flat) (u w m : Nat) (hd : List (Int × Int)) : Prop where
  len : hd.length = u
  hw : w < u
  hu : u ≤ 16
  own : hd[w]? = some (0, -1)
  oth : ∀ j, j < u → j ≠ w → hd[j]? = some (0, p 0) ∨ (m ≤ j ∧ hd[j]? = some (0, -1))
theorem bar_cold {p : Flat} {u : Nat} {w : Int} (h : 0 ≤ w ∧ w.toNat < u ∧ u ≤ 16) : Bar p u w.toNat 0 (List.replicate u (0, -1)) :=
  ⟨by simp, h.2.1, h.2.2, by rw [List.getElem?_replicate, if_pos h.2.1], fun j hj _ => .inr ⟨Nat.zero_le _, by rw [List.getElem?_replicate, if_pos hj]⟩⟩
theorem bar_zero {p : Flat} {u w m : Nat} {hd : List (Int × Int)} (h : Bar p u w m hd) : Bar p u w 0 hd := ⟨h.len, h.hw, h.hu, h.own, fun j hj hn => (h.oth j hj hn).imp id fun q => ⟨Nat.zero_le _, q.2⟩⟩
theorem bar_end {p : Flat} {u w m : Nat} {hd : List (Int × Int)} (hm : u ≤ m) (h : Bar p u w m hd) : Bar p u w u hd := ⟨h.len, h.hw, h.hu, h.own, fun j hj hn => (h.oth j hj hn).imp id fun q => by omega⟩
theorem bar_set {p : Flat} {u m : Nat} {w : Int} {hd : List (Int × Int)} (h : Bar p u w.toNat m hd) (hm : m < u) (hn : 0 ≤ w ∧ (m : Int) ≠ w) : Bar p u w.toNat (m + 1) (hd.set m (0, p 0)) :=
  ⟨by simp [h.len], h.hw, h.hu, by rw [List.getElem?_set_ne (by omega)]; exact h.own, fun j hj hne => by
    by_cases hjm : m = j
    · subst hjm; exact .inl (by rw [List.getElem?_set_self (by rw [h.len]; exact hj)])
    · rw [List.getElem?_set_ne hjm]
      exact (h.oth j hj hne).imp id fun q => ⟨by omega, q.2⟩⟩
theorem bar_skip {p : Flat} {u m : Nat} {w : Int} {hd : List (Int × Int)} (h : Bar p u w.toNat m hd) (hn : 0 ≤ w ∧ ¬ (m : Int) ≠ w) : Bar p u w.toNat (m + 1) hd :=
  ⟨h.len, h.hw, h.hu, h.own, fun j hj hne => (h.oth j hj hne).imp id fun q => ⟨by omega, q.2⟩⟩
theorem ok_bar {p : Flat} {u w m : Nat} {hd : List (Int × Int)} (h : Bar p u w m hd) : HOK ⟨p, wl 3, hd, e0, false⟩ := ⟨by simp [wl], by show hd.length ≤ 1000; rw [h.len]; have := h.hu; omega⟩
theorem ok_bset {p : Flat} {u w m : Nat} {hd : List (Int × Int)} {k : Nat} {x : Int × Int} (h : Bar p u w m hd) : HOK ⟨p, wl 3, hd.set k x, e0, false⟩ := ⟨(ok_bar h).w, by show (hd.set k x).length ≤ 1000; rw [List.length_set]; exact (ok_bar h).hd⟩
theorem bar_send {p : Flat} {u w m : Nat} {hd : List (Int × Int)} (h : Bar p u w m hd) (hp : 0 ≤ p 0) : sendS ⟨p, wl 3, hd, e0, false⟩ = (⟨p, wl 3, hd, e0, false⟩, notesTo ⟨p, wl 3, hd, e0, false⟩ hd.length) := by
  refine send_quiet (.inr ?_)
  refine allW_false (j := w) h.own ?_
  show ¬ (-1 : Int) = p 0; omega
theorem bar_hear {p : Flat} {u m : Nat} {w : Int} {hd : List (Int × Int)} (h : Bar p u w.toNat m hd) (hp : 0 ≤ p 0) (hm : m < u) (hn : 0 ≤ w ∧ (m : Int) ≠ w) : hearS ⟨p, wl 3, hd, e0, false⟩ ⟨(m : Nat), 0, p 0, false, true, e0, zeroP⟩ = ⟨p, wl 3, hd.set m (0, p 0), e0, false⟩ := by
  rcases h.oth m hm (by omega) with q | ⟨_, q⟩
  · exact hear_at q (.inl rfl) hp
  · exact hear_at q (.inr rfl) hp
theorem bar_last {p : Flat} {u m : Nat} {w : Int} {hd : List (Int × Int)} (h : Bar p u w.toNat m hd) (hp : 0 ≤ p 0) (hw : 0 ≤ w) : hearS ⟨p, wl 3, hd, e0, false⟩ ⟨w, 0, p 0, false, true, e0, zeroP⟩ = ⟨p, wl 3, hd.set w.toNat (0, p 0), e0, false⟩ := by
  have := hear_at (w := wl 3) h.own (.inr rfl) hp
  rwa [Int.toNat_of_nonneg hw] at this
theorem bar_all {p : Flat} {u w : Nat} {hd : List (Int × Int)} (h : Bar p u w u hd) : allW (hd.set w (0, p 0)) (p 0) = true := by
  refine allW_true fun k hk => ?_
  rw [hdM_length, List.length_set, h.len] at hk
  rw [List.getD_eq_getElem?_getD]
  by_cases hkw : w = k
  · subst hkw; rw [List.getElem?_set_self (by rw [h.len]; exact hk)]; rfl
  · rw [List.getElem?_set_ne hkw]
    rcases h.oth k hk (fun e => hkw e.symm) with q | ⟨q, _⟩
    · rw [q]; rfl
    · omega
theorem bar_go {p : Flat} {k : Nat} {hd : List (Int × Int)} (hA : allW hd (p 0) = true) (hp : 0 ≤ p 0 ∧ p 0 ≤ k) (hk : k ≤ 1000) : (sendS ⟨p, wl 3, hd, e0, false⟩).1.p 0 = p 0 + 1 ∧ (sendS ⟨p, wl 3, hd, e0, false⟩).1.w.length = 2 := by
  have := go_pub (x := ⟨p, wl 3, hd, e0, false⟩) (a := IntKind.u64.wrap ((0 : Nat) : Int)) (b := 0) (r := [rotE (IntKind.u64.wrap ((1 : Nat) : Int)) 0, rotE (IntKind.u64.wrap ((2 : Nat) : Int)) 0]) rfl hA
  unfold sendS
  rw [this]
  exact ⟨rot_ver (p := p) (by omega) (IntKind.u64.wrap ((0 : Nat) : Int)) 0, rfl⟩
theorem HeadBarrierC {P : Program} (hc : codeOf P "roundhouse/roundhouselaw11.HeadBarrier" = some c_law11_HeadBarrier) (h_law11_known : codeOf P "roundhouse/roundhouselaw11.known" = some c_law11_known) (h_ref6_New : codeOf P "roundhouse/roundhouseref6.New" = some c_ref6_New) (h_ref6_out : codeOf P "roundhouse/roundhouseref6.out" = some c_ref6_out) (h_ref5_Ring : codeOf P "roundhouse/roundhouseref5.Ring" = some c_ref5_Ring) (h_head_New : codeOf P "roundhouse/head.New" = some c_head_New) (h_head_Head_Send : codeOf P "(*roundhouse/head.Head).Send" = some c_head_Head_Send) (h_head_Head_all : codeOf P "(*roundhouse/head.Head).all" = some c_head_Head_all) (h_head_Head_publish : codeOf P "(*roundhouse/head.Head).publish" = some c_head_Head_publish) (h_pool_Apply : codeOf P "roundhouse/pool.Apply" = some c_pool_Apply) (h_pool_may : codeOf P "roundhouse/pool.may" = some c_pool_may) (h_pool_held : codeOf P "roundhouse/pool.held" = some c_pool_held) (h_pool_fits : codeOf P "roundhouse/pool.fits" = some c_pool_fits) (h_pool_Check : codeOf P "roundhouse/pool.Check" = some c_pool_Check) (h_pool_placed : codeOf P "roundhouse/pool.placed" = some c_pool_placed) (h_cookie_Next : codeOf P "roundhouse/cookie.Next" = some c_cookie_Next) (h_head_Head_Wish : codeOf P "(*roundhouse/head.Head).Wish" = some c_head_Head_Wish) (h_head_Head_waiting : codeOf P "(*roundhouse/head.Head).waiting" = some c_head_Head_waiting) (h_pool_All : codeOf P "roundhouse/pool.All" = some c_pool_All) (h_head_Head_Heard : codeOf P "(*roundhouse/head.Head).Heard" = some c_head_Head_Heard) (h_head_Head_Version : codeOf P "(*roundhouse/head.Head).Version" = some c_head_Head_Version) (h_head_Head_Waiting : codeOf P "(*roundhouse/head.Head).Waiting" = some c_head_Head_Waiting) (h_head_Head_Pool : codeOf P "(*roundhouse/head.Head).Pool" = some c_head_Head_Pool) (h_law6_Make : codeOf P "roundhouse/roundhouselaw6.Make" = some c_law6_Make) (h_law5_Key : codeOf P "roundhouse/roundhouselaw5.Key" = some c_law5_Key) (h_law6_Entry : codeOf P "roundhouse/roundhouselaw6.Entry" = some c_law6_Entry) (h_law6_within : codeOf P "roundhouse/roundhouselaw6.within" = some c_law6_within) (h_ref6_Apply : codeOf P "roundhouse/roundhouseref6.Apply" = some c_ref6_Apply) (h_ref6_Check : codeOf P "roundhouse/roundhouseref6.Check" = some c_ref6_Check) (h_ref6_bad : codeOf P "roundhouse/roundhouseref6.bad" = some c_ref6_bad) (h_ref6_Held : codeOf P "roundhouse/roundhouseref6.Held" = some c_ref6_Held) (h_ref5_Next : codeOf P "roundhouse/roundhouseref5.Next" = some c_ref5_Next) (h_law11_within : codeOf P "roundhouse/roundhouselaw11.within" = some c_law11_within) (o : Option Nat) (ns : List Int) (hnns : o = none → ns = []) (hl : (ns.length : Int) ≤ 9223372036854775807) (units who turns : Int) :
    Env P "roundhouse/roundhouselaw11.HeadBarrier" [inV o 0 ns.length, iv units, iv who, iv turns] ([inB o (ii ns)]) (Ans (.bool true) ([inB o (ii ns)])) := by
 refine Env.by hc ?_
 unfold c_law11_HeadBarrier
 show GC _ 1 _ _ ⟨reg [(0, inV o 0 ns.length), (1, iv units), (2, iv who), (3, iv turns)], [inB o (ii ns)]⟩
 have wt := within_lt turns (n := 6) (by decide)
 refine gseq ?_
 refine greg ?_
 refine o_d 1 [(8, bv false)] (by kernel_rfl) ?_
 refine o_nil ?_
 refine seq_go ?_
 refine gseq ?_
 refine gseq ?_
 refine greg ?_
 refine o_cl (callV (known11C h_law11_known h_ref6_New h_ref6_out h_ref5_Ring h_head_New h_head_Head_Send h_head_Head_all h_head_Head_publish h_pool_Apply h_pool_may h_pool_held h_pool_fits h_pool_Check h_pool_placed h_cookie_Next h_head_Head_Wish h_head_Head_waiting h_pool_All h_head_Head_Heard h_head_Head_Version h_head_Head_Waiting h_head_Head_Pool) rfl rfl rfl ?_)
 refine o_d 1 [(18, bv false)] (by kernel_rfl) ?_
 refine o_nil ?_
 refine seq_go ?_
 refine gfalse rfl ?_
 refine gskip ?_
 refine seq_go ?_
 refine gseq ?_
 refine greg ?_
 refine o_d 1 [(19, inV o 0 ns.length)] (by kernel_rfl) ?_
 refine o_cl (callRO_K (callIn 0 (MakeC h_law6_Make h_law5_Key h_ref6_New h_ref6_out h_ref5_Ring h_law6_Entry h_law6_within h_ref6_Apply h_ref6_Check h_ref6_bad h_ref6_Held h_ref5_Next o ns hnns hl 30 (by omega)) rfl (ii_scl _) rfl rfl (poolV_vpf _) ?_))
 have I0 := makeS_inv ns (k := 30) (by omega)
 have hpv := I0.ver
 generalize makeS ns 30 = p at I0 hpv ⊢
 refine o_b 1 [(9, pv 1 0)] [inB o (ii ns), cw (pl zeroP)] (by kernel_rfl) ?_
 refine o_s0 (by refine run_st (c' := pl p) rfl rfl rfl ?_ ?_ ?_; exact pl_length _; exact pl_le (by omega); exact splice_pl0 zeroP p) ?_
 refine o_nil ?_
 refine seq_go ?_
 refine gseq ?_
 refine greg ?_
 refine o_d 1 [(21, iv units)] (by kernel_rfl) ?_
 refine o_cl (callV (within11C h_law11_within units 6 (by decide)) rfl rfl rfl ?_)
 have hw_u0 := within_lt units (n := 6) (by decide)
 generalize withinS units 6 = u0 at hw_u0 ⊢
 refine o_s (by refine run_val (v := .int .i64 (IntKind.i64.wrap (2 + u0))) (congrArg (Value.int .i64) (w64 (by omega) (by omega))) ?_; kernel_rfl) ?_
 refine o_d 1 [(10, iv (2 + u0))] (by kernel_rfl) ?_
 refine o_nil ?_
 refine seq_go ?_
 refine gseq ?_
 refine greg ?_
 refine o_s (by refine run_ld (v := poolV p) rfl rfl ?_; exact pl_all p) ?_
 refine o_d 1 [(26, iv (2 + u0))] (by kernel_rfl) ?_
 refine o_cl (callG [] [] [poolV p, iv (2 + u0)] (HNewC h_head_New p (2 + u0)) rfl (cons_eq (renV_vpf (poolV_vpf p)) (cons_eq rfl rfl)) trivial (by decide) ?_)
 rintro v1 h1' hN1
 rw [if_neg (by omega)] at hN1
 obtain ⟨rfl, rfl⟩ := hN1
 refine ⟨.tuple #[pv 2 0, iv 0], [inB o (ii ns), cw (pl p)], [cw (headL ((coldS p (2 + u0).toNat []).p) 3 4 ((coldS p (2 + u0).toNat []).e) ((coldS p (2 + u0).toNat []).s)), .chan 200 (((coldS p (2 + u0).toNat []).w).map entV), .map (hdM ((coldS p (2 + u0).toNat []).hd))], ((renV_tup _).trans rfl), ⟨rfl, ⟨rfl, trivial⟩⟩, ⟨(Option.some.inj (ren_headS rfl rfl)).symm, ⟨(Option.some.inj (congrArg some (ren_entsV _).symm)).symm, ⟨(Option.some.inj (congrArg some (ren_hdM _).symm)).symm, trivial⟩⟩⟩, ?_⟩
 refine o_d 5 [(12, iv 0), (11, pv 2 0), (29, iv 0), (28, pv 2 0), (24, .tuple #[pv 2 0, iv 0])] (by kernel_rfl) ?_
 refine o_nil ?_
 refine seq_go ?_
 refine gseq ?_
 refine gseq ?_
 refine greg ?_
 refine o_d 6 [(35, bv false), (34, bv false), (33, pv 2 0), (32, bv false), (31, bv false), (30, iv 0)] (by kernel_rfl) ?_
 refine o_nil ?_
 refine seq_regs [(35, bv false), (11, pv 2 0), (10, iv (2 + u0)), (9, pv 1 0), (2, iv who), (3, iv turns)] (by kernel_rfl) ?_
 refine gfalse rfl ?_
 refine gskip ?_
 refine seq_go ?_
 refine gseq ?_
 refine greg ?_
 refine o_d 2 [(37, iv (2 + u0)), (36, iv who)] (by kernel_rfl) ?_
 refine o_cl (callV (within11C h_law11_within who (2 + u0) (by omega)) rfl rfl rfl ?_)
 have hw_w := within_lt who (n := 2 + u0) (by omega)
 generalize withinS who (2 + u0) = w at hw_w ⊢
 refine o_d 1 [(13, iv w)] (by kernel_rfl) ?_
 refine o_nil ?_
 refine seq_go ?_
 refine gseq ?_
 refine gseq ?_
 refine greg ?_
 refine o_d 1 [(14, iv 0)] (by kernel_rfl) ?_
 refine o_nil ?_
 refine seq_go ?_
 refine gblock ?_
 refine gloop (fun μ s => ∃ (i : Nat), μ = 3 - i ∧ (i ≤ 3) ∧ s = ⟨reg [(14, iv (i : Int)), (13, iv w), (11, pv 2 0), (10, iv (2 + u0)), (9, pv 1 0), (3, iv turns)], [inB o (ii ns), cw (pl p), cw (headL ((coldS p (2 + u0).toNat (wl i)).p) 3 4 ((coldS p (2 + u0).toNat (wl i)).e) ((coldS p (2 + u0).toNat (wl i)).s)), .chan 200 (((coldS p (2 + u0).toNat (wl i)).w).map entV), .map (hdM ((coldS p (2 + u0).toNat (wl i)).hd))]⟩) ⟨(3 - 0), ?_⟩ ?_
 ·skip
  refine ⟨⟨reg [(14, iv (0 : Int)), (13, iv w), (11, pv 2 0), (10, iv (2 + u0)), (9, pv 1 0), (3, iv turns)], [inB o (ii ns), cw (pl p), cw (headL ((coldS p (2 + u0).toNat (wl 0)).p) 3 4 ((coldS p (2 + u0).toNat (wl 0)).e) ((coldS p (2 + u0).toNat (wl 0)).s)), .chan 200 (((coldS p (2 + u0).toNat (wl 0)).w).map entV), .map (hdM ((coldS p (2 + u0).toNat (wl 0)).hd))]⟩, ?_⟩
  refine ⟨?_, ?_⟩
  ·exact Wk.ren [0, 1, 2, 3, 4] rfl rfl (by decide) ⟨rfl, ⟨rfl, ⟨rfl, ⟨rfl, ⟨rfl, ⟨rfl, trivial⟩⟩⟩⟩⟩⟩ ⟨.inl (ren_inB o (ii_scl ns)), ⟨.inl (ren_cells (pl_scl p)), ⟨.inl (ren_headS rfl rfl), ⟨.inl (congrArg some (ren_entsV _).symm), ⟨.inl (congrArg some (ren_hdM _).symm), trivial⟩⟩⟩⟩⟩
  ·exact ⟨0, rfl, by omega, rfl⟩
 rintro μ s ⟨i, rfl, hi, rfl⟩
 refine gseq ?_
 refine gseq ?_
 refine greg ?_
 refine o_d 2 [(40, bv (decide ((i : Int) < 3))), (39, iv (i : Int))] (by kernel_rfl) ?_
 refine o_nil ?_
 refine seq_go ?_
 refine gcond (t := decide ((i : Int) < 3)) rfl (fun h2 => ?_) (fun h2 => ?_)
 ·skip
  have h2' : (i : Int) < 3 := of_decide_eq_true h2
  refine gskip ?_
  refine seq_go ?_
  refine gseq ?_
  refine gblock ?_
  refine gseq ?_
  refine greg ?_
  refine o_b 6 [(48, sv 5 0 1 1), (47, .agg #[iv 6, iv 0, iv 0, iv 0, iv 0, uv (IntKind.u64.wrap (i : Int)), uv 0]), (46, .agg #[uv (IntKind.u64.wrap (i : Int)), uv 0]), (45, uv (IntKind.u64.wrap (i : Int))), (44, iv (i : Int)), (43, pv 2 0)] [inB o (ii ns), cw (pl p), cw (headL ((coldS p (2 + u0).toNat (wl i)).p) 3 4 ((coldS p (2 + u0).toNat (wl i)).e) ((coldS p (2 + u0).toNat (wl i)).s)), .chan 200 (((coldS p (2 + u0).toNat (wl i)).w).map entV), .map (hdM ((coldS p (2 + u0).toNat (wl i)).hd)), cw [iv 6, iv 0, iv 0, iv 0, iv 0, uv (IntKind.u64.wrap (i : Int)), uv 0]] (by kernel_rfl) ?_
  refine o_cl (callN [2, 3, 4, 5] [cw (headL ((coldS p (2 + u0).toNat (wl i)).p) 1 2 ((coldS p (2 + u0).toNat (wl i)).e) ((coldS p (2 + u0).toNat (wl i)).s)), .chan 200 (((coldS p (2 + u0).toNat (wl i)).w).map entV), .map (hdM ((coldS p (2 + u0).toNat (wl i)).hd)), slB zE (entsL ([(⟨6, 0, 0, 0, 0, IntKind.u64.wrap (i : Int), 0⟩ : Ent)])) (some 0)] [pv 0 0, slV 3 ([(⟨6, 0, 0, 0, 0, IntKind.u64.wrap (i : Int), 0⟩ : Ent)]).length (some 0)] (HWishC h_head_Head_Wish h_head_Head_waiting h_pool_All h_pool_Apply h_pool_may h_pool_held h_pool_fits h_pool_Check h_pool_placed h_cookie_Next ((coldS p (2 + u0).toNat (wl i)).p) ((coldS p (2 + u0).toNat (wl i)).w) ((coldS p (2 + u0).toNat (wl i)).hd) ((coldS p (2 + u0).toNat (wl i)).e) ((coldS p (2 + u0).toNat (wl i)).s) ([(⟨6, 0, 0, 0, 0, IntKind.u64.wrap (i : Int), 0⟩ : Ent)]) (some 0) ((show HOK (coldS p (2 + u0).toNat (wl i)) from ok_cold p (by omega) (by simp [wl]; omega))).w (fun z => by cases z) (by simp)) rfl rfl ⟨⟨_, rfl, .inl (seen_head rfl rfl (fun q => q))⟩, ⟨_, rfl, .inl (seen_ents _)⟩, ⟨_, rfl, .inl (seen_hdM _)⟩, ⟨_, rfl, .inl ⟨rfl, fun q => q⟩⟩, trivial⟩ (by decide) ?_)
  rintro v1 h1' ⟨rfl, rfl⟩
  refine ⟨(gone_cons (fun q => by cases q) (gone_cons (fun q => by cases q) (gone_cons (fun q => by cases q) (gone_cons (fun q => q) gone_nil)))), iv (wishS (coldS p (2 + u0).toNat (wl i)) ([(⟨6, 0, 0, 0, 0, IntKind.u64.wrap (i : Int), 0⟩ : Ent)])).1, [inB o (ii ns), cw (pl p), cw (headL ((wisS (coldS p (2 + u0).toNat (wl i)) ([(⟨6, 0, 0, 0, 0, IntKind.u64.wrap (i : Int), 0⟩ : Ent)])).p) 3 4 ((wisS (coldS p (2 + u0).toNat (wl i)) ([(⟨6, 0, 0, 0, 0, IntKind.u64.wrap (i : Int), 0⟩ : Ent)])).e) ((wisS (coldS p (2 + u0).toNat (wl i)) ([(⟨6, 0, 0, 0, 0, IntKind.u64.wrap (i : Int), 0⟩ : Ent)])).s)), .chan 200 (((wisS (coldS p (2 + u0).toNat (wl i)) ([(⟨6, 0, 0, 0, 0, IntKind.u64.wrap (i : Int), 0⟩ : Ent)])).w).map entV), .map (hdM ((wisS (coldS p (2 + u0).toNat (wl i)) ([(⟨6, 0, 0, 0, 0, IntKind.u64.wrap (i : Int), 0⟩ : Ent)])).hd)), cw [iv 6, iv 0, iv 0, iv 0, iv 0, uv (IntKind.u64.wrap (i : Int)), uv 0]], [], rfl, ⟨rfl, ⟨rfl, ⟨ren_headL rfl rfl, ⟨ren_entsV _, ⟨ren_hdM _, ⟨rfl, trivial⟩⟩⟩⟩⟩⟩, trivial, ?_⟩
  rw [show iv (wishS (coldS p (2 + u0).toNat (wl i)) ([(⟨6, 0, 0, 0, 0, IntKind.u64.wrap (i : Int), 0⟩ : Ent)])).1 = iv 0 from congrArg (fun z : Int × HS => iv z.1) (wish_rot (Rots.one _ _) (by simp [coldS, wl]; omega))]
  have ok_y3 := (ok_wis (show HOK (coldS p (2 + u0).toNat (wl i)) from ok_cold p (by omega) (by simp [wl]; omega)) ([(⟨6, 0, 0, 0, 0, IntKind.u64.wrap (i : Int), 0⟩ : Ent)]))
  generalize hd_y3 : (wisS (coldS p (2 + u0).toNat (wl i)) ([(⟨6, 0, 0, 0, 0, IntKind.u64.wrap (i : Int), 0⟩ : Ent)])) = y3 at ok_y3 ⊢
  have hy_y3 : y3 = coldS p (2 + u0).toNat (wl (i + 1)) := by rw [← hd_y3]; exact bar_wish (by omega)
  subst hy_y3
  refine o_d 1 [(50, bv false)] (by kernel_rfl) ?_
  refine o_nil ?_
  refine seq_go ?_
  refine gfalse rfl ?_
  refine gskip ?_
  refine seq_go ?_
  refine greg ?_
  refine o_d 1 [(41, iv (i : Int))] (by kernel_rfl) ?_
  refine o_s (by refine run_val (v := .int .i64 (IntKind.i64.wrap ((i : Int) + 1))) (congrArg (Value.int .i64) (w64 (by omega) (by omega))) ?_; kernel_rfl) ?_
  refine o_d 1 [(14, iv ((i : Int) + 1))] (by kernel_rfl) ?_
  refine o_nil ?_
  refine ⟨3 - (i + 1), ?_⟩
  refine ⟨⟨reg [(14, iv ((i + 1) : Int)), (13, iv w), (11, pv 2 0), (10, iv (2 + u0)), (9, pv 1 0), (3, iv turns)], [inB o (ii ns), cw (pl p), cw (headL ((coldS p (2 + u0).toNat (wl (i + 1))).p) 3 4 ((coldS p (2 + u0).toNat (wl (i + 1))).e) ((coldS p (2 + u0).toNat (wl (i + 1))).s)), .chan 200 (((coldS p (2 + u0).toNat (wl (i + 1))).w).map entV), .map (hdM ((coldS p (2 + u0).toNat (wl (i + 1))).hd))]⟩, ?_⟩
  refine and3 (by omega) ⟨?_, ?_⟩
  ·exact Wk.ren [0, 1, 2, 3, 4] rfl rfl (by decide) ⟨rfl, ⟨rfl, ⟨rfl, ⟨rfl, ⟨rfl, ⟨rfl, trivial⟩⟩⟩⟩⟩⟩ ⟨.inl (ren_inB o (ii_scl ns)), ⟨.inl (ren_cells (pl_scl p)), ⟨.inl (ren_headS rfl rfl), ⟨.inl (congrArg some (ren_entsV _).symm), ⟨.inl (congrArg some (ren_hdM _).symm), trivial⟩⟩⟩⟩⟩
  ·exact ⟨(i + 1), rfl, by omega, rfl⟩
 have h2' : ¬ ((i : Int) < 3) := of_decide_eq_false h2
 obtain rfl : i = 3 := by omega
 refine gexit ?_
 refine seq_go ?_
 refine gseq ?_
 refine gseq ?_
 refine greg ?_
 refine o_d 1 [(15, iv 0)] (by kernel_rfl) ?_
 refine o_nil ?_
 refine seq_go ?_
 refine gblock ?_
 refine gloop (fun μ s => ∃ (i : Nat), ∃ (hd : List (Int × Int)), μ = (1 + withinS turns 6).toNat - i ∧ ((i : Int) ≤ 1 + withinS turns 6) ∧ (Bar p (2 + u0).toNat w.toNat 0 hd) ∧ (0 < i → Bar p (2 + u0).toNat w.toNat (2 + u0).toNat hd) ∧ s = ⟨reg [(15, iv (i : Int)), (13, iv w), (11, pv 2 0), (10, iv (2 + u0)), (9, pv 1 0), (3, iv turns)], [inB o (ii ns), cw (pl p), cw (headL ((HS.mk p (wl 3) hd e0 false).p) 3 4 ((HS.mk p (wl 3) hd e0 false).e) ((HS.mk p (wl 3) hd e0 false).s)), .chan 200 (((HS.mk p (wl 3) hd e0 false).w).map entV), .map (hdM ((HS.mk p (wl 3) hd e0 false).hd))]⟩) ⟨((1 + withinS turns 6).toNat - 0), ?_⟩ ?_
 ·skip
  refine ⟨⟨reg [(15, iv (0 : Int)), (13, iv w), (11, pv 2 0), (10, iv (2 + u0)), (9, pv 1 0), (3, iv turns)], [inB o (ii ns), cw (pl p), cw (headL ((HS.mk p (wl 3) (List.replicate (2 + u0).toNat (0, -1)) e0 false).p) 3 4 ((HS.mk p (wl 3) (List.replicate (2 + u0).toNat (0, -1)) e0 false).e) ((HS.mk p (wl 3) (List.replicate (2 + u0).toNat (0, -1)) e0 false).s)), .chan 200 (((HS.mk p (wl 3) (List.replicate (2 + u0).toNat (0, -1)) e0 false).w).map entV), .map (hdM ((HS.mk p (wl 3) (List.replicate (2 + u0).toNat (0, -1)) e0 false).hd))]⟩, ?_⟩
  refine ⟨?_, ?_⟩
  ·exact Wk.ren [0, 1, 2, 3, 4] rfl rfl (by decide) ⟨rfl, ⟨rfl, ⟨rfl, ⟨rfl, ⟨rfl, ⟨rfl, trivial⟩⟩⟩⟩⟩⟩ ⟨.inl (ren_inB o (ii_scl ns)), ⟨.inl (ren_cells (pl_scl p)), ⟨.inl (ren_headS rfl rfl), ⟨.inl (congrArg some (ren_entsV _).symm), ⟨.inl (congrArg some (ren_hdM _).symm), trivial⟩⟩⟩⟩⟩
  ·exact ⟨0, (List.replicate (2 + u0).toNat (0, -1)), rfl, (by omega), (bar_cold (by omega)), (by intro z; omega), rfl⟩
 rintro μ s ⟨i, hd, rfl, hi, hB, hB0, rfl⟩
 refine gseq ?_
 refine gseq ?_
 refine greg ?_
 refine o_d 2 [(52, iv turns), (51, iv (i : Int))] (by kernel_rfl) ?_
 refine o_cl (callV (within11C h_law11_within turns 6 (by decide)) rfl rfl rfl ?_)
 refine o_s (by refine run_val (v := .int .i64 (IntKind.i64.wrap (1 + withinS turns 6))) (congrArg (Value.int .i64) (w64 (by omega) (by omega))) ?_; kernel_rfl) ?_
 refine o_d 1 [(55, bv (decide ((i : Int) < 1 + withinS turns 6)))] (by kernel_rfl) ?_
 refine o_nil ?_
 refine seq_go ?_
 refine gcond (t := decide ((i : Int) < 1 + withinS turns 6)) rfl (fun h4 => ?_) (fun h4 => ?_)
 ·skip
  have h4' : (i : Int) < 1 + withinS turns 6 := of_decide_eq_true h4
  refine gskip ?_
  refine seq_go ?_
  refine gseq ?_
  refine gblock ?_
  refine gseq ?_
  refine greg ?_
  refine o_d 1 [(58, pv 2 0)] (by kernel_rfl) ?_
  refine o_cl (callG [2, 3, 4] [cw (headL ((HS.mk p (wl 3) hd e0 false).p) 1 2 ((HS.mk p (wl 3) hd e0 false).e) ((HS.mk p (wl 3) hd e0 false).s)), .chan 200 (((HS.mk p (wl 3) hd e0 false).w).map entV), .map (hdM ((HS.mk p (wl 3) hd e0 false).hd))] [pv 0 0] (HsendC h_head_Head_Send h_head_Head_all h_head_Head_publish h_pool_Apply h_pool_may h_pool_held h_pool_fits h_pool_Check h_pool_placed h_cookie_Next ((HS.mk p (wl 3) hd e0 false).p) ((HS.mk p (wl 3) hd e0 false).w) ((HS.mk p (wl 3) hd e0 false).hd) ((HS.mk p (wl 3) hd e0 false).e) ((HS.mk p (wl 3) hd e0 false).s) ((show HOK (HS.mk p (wl 3) hd e0 false) from by first | exact ok_bar hB2 | exact ok_bar hB | exact ok_bset hB)).hd) rfl rfl ⟨⟨_, rfl, seen_head rfl rfl (fun q => rfl)⟩, ⟨⟨_, rfl, seen_ents _⟩, ⟨⟨_, rfl, seen_hdM _⟩, trivial⟩⟩⟩ (by decide) ?_)
  rintro v1 h1' ⟨q5, hq6, rfl, rfl⟩
  refine ⟨slV 5 ((sendS (HS.mk p (wl 3) hd e0 false)).2.length) q5, [inB o (ii ns), cw (pl p), cw (headL ((sendS (HS.mk p (wl 3) hd e0 false)).1.p) 3 4 ((sendS (HS.mk p (wl 3) hd e0 false)).1.e) ((sendS (HS.mk p (wl 3) hd e0 false)).1.s)), .chan 200 (((sendS (HS.mk p (wl 3) hd e0 false)).1.w).map entV), .map (hdM ((sendS (HS.mk p (wl 3) hd e0 false)).1.hd))], [slB zNt (ntsL ((sendS (HS.mk p (wl 3) hd e0 false)).2)) q5], (renV_slV q5 rfl), ⟨rfl, ⟨rfl, ⟨ren_headL rfl rfl, ⟨ren_entsV _, ⟨(ren_hdM2 (sendS_hd _)), trivial⟩⟩⟩⟩⟩, ⟨(Option.some.inj (ren_slB q5 (fun _ => (ntsR_scl _ _)))).symm, trivial⟩, ?_⟩
  have ok_y7 := (ok_send (show HOK (HS.mk p (wl 3) hd e0 false) from by first | exact ok_bar hB2 | exact ok_bar hB | exact ok_bset hB))
  generalize hd_y7 : (sendS (HS.mk p (wl 3) hd e0 false)) = y7 at ok_y7 hq6 ⊢
  have hy_y7 : y7 = ((HS.mk p (wl 3) hd e0 false), notesTo (HS.mk p (wl 3) hd e0 false) hd.length) := by rw [← hd_y7]; exact bar_send hB hpv.1
  subst hy_y7
  refine o_nil ?_
  refine seq_go ?_
  refine gseq ?_
  refine gseq ?_
  refine greg ?_
  refine o_d 1 [(16, iv 0)] (by kernel_rfl) ?_
  refine o_nil ?_
  refine seq_go ?_
  refine gblock ?_
  refine gloop (fun μ s => ∃ (k : Nat), ∃ (hd2 : List (Int × Int)), μ = (2 + u0).toNat - k ∧ (k ≤ (2 + u0).toNat) ∧ (Bar p (2 + u0).toNat w.toNat k hd2) ∧ s = ⟨reg [(16, iv (k : Int)), (15, iv (i : Int)), (13, iv w), (11, pv 2 0), (10, iv (2 + u0)), (9, pv 1 0), (3, iv turns)], [inB o (ii ns), cw (pl p), cw (headL ((HS.mk p (wl 3) hd2 e0 false).p) 3 4 ((HS.mk p (wl 3) hd2 e0 false).e) ((HS.mk p (wl 3) hd2 e0 false).s)), .chan 200 (((HS.mk p (wl 3) hd2 e0 false).w).map entV), .map (hdM ((HS.mk p (wl 3) hd2 e0 false).hd)), slB zNt (ntsL (notesTo (HS.mk p (wl 3) hd e0 false) hd.length)) q5]⟩) ⟨((2 + u0).toNat - 0), ?_⟩ ?_
  ·skip
   refine ⟨⟨reg [(16, iv (0 : Int)), (15, iv (i : Int)), (13, iv w), (11, pv 2 0), (10, iv (2 + u0)), (9, pv 1 0), (3, iv turns)], [inB o (ii ns), cw (pl p), cw (headL ((HS.mk p (wl 3) hd e0 false).p) 3 4 ((HS.mk p (wl 3) hd e0 false).e) ((HS.mk p (wl 3) hd e0 false).s)), .chan 200 (((HS.mk p (wl 3) hd e0 false).w).map entV), .map (hdM ((HS.mk p (wl 3) hd e0 false).hd)), slB zNt (ntsL (notesTo (HS.mk p (wl 3) hd e0 false) hd.length)) q5]⟩, ?_⟩
   refine ⟨?_, ?_⟩
   ·exact Wk.ren [0, 1, 2, 3, 4, 5] rfl rfl (by decide) ⟨rfl, ⟨rfl, ⟨rfl, ⟨rfl, ⟨rfl, ⟨rfl, ⟨rfl, trivial⟩⟩⟩⟩⟩⟩⟩ ⟨.inl (ren_inB o (ii_scl ns)), ⟨.inl (ren_cells (pl_scl p)), ⟨.inl (ren_headS rfl rfl), ⟨.inl (congrArg some (ren_entsV _).symm), ⟨.inl (congrArg some (ren_hdM _).symm), ⟨.inl (ren_slB q5 (fun _ => (ntsR_scl _ _))), trivial⟩⟩⟩⟩⟩⟩
   ·exact ⟨0, hd, rfl, (Nat.zero_le _), hB, rfl⟩
  rintro μ s ⟨k, hd2, rfl, hk, hB2, rfl⟩
  refine gseq ?_
  refine gseq ?_
  refine greg ?_
  refine o_d 3 [(62, bv (decide ((k : Int) < 2 + u0))), (61, iv (2 + u0)), (60, iv (k : Int))] (by kernel_rfl) ?_
  refine o_nil ?_
  refine seq_go ?_
  refine gcond (t := decide ((k : Int) < 2 + u0)) rfl (fun h8 => ?_) (fun h8 => ?_)
  ·skip
   have h8' : (k : Int) < 2 + u0 := of_decide_eq_true h8
   refine gskip ?_
   refine seq_go ?_
   refine gseq ?_
   refine gblock ?_
   refine gseq ?_
   refine greg ?_
   refine o_d 3 [(67, bv ((k : Int) != w)), (66, iv w), (65, iv (k : Int))] (by kernel_rfl) ?_
   refine o_nil ?_
   refine seq_go ?_
   refine gcond (t := (k : Int) != w) rfl (fun h9 => ?_) (fun h9 => ?_)
   ·skip
    have h9' : (k : Int) ≠ w := neI_t h9
    refine greg ?_
    refine o_d 3 [(70, pv 2 0), (69, iv (k : Int)), (68, pv 2 0)] (by kernel_rfl) ?_
    refine o_cl (callG [2, 3, 4] [cr (headL ((HS.mk p (wl 3) hd2 e0 false).p) 1 2 ((HS.mk p (wl 3) hd2 e0 false).e) ((HS.mk p (wl 3) hd2 e0 false).s)), .chan 200 (((HS.mk p (wl 3) hd2 e0 false).w).map entV), .map (hdM ((HS.mk p (wl 3) hd2 e0 false).hd))] [pv 0 0] (HVersionC h_head_Head_Version ((HS.mk p (wl 3) hd2 e0 false).p) ((HS.mk p (wl 3) hd2 e0 false).w) ((HS.mk p (wl 3) hd2 e0 false).hd) ((HS.mk p (wl 3) hd2 e0 false).e) ((HS.mk p (wl 3) hd2 e0 false).s)) rfl rfl ⟨⟨_, rfl, seen_head rfl rfl (fun q => rfl)⟩, ⟨⟨_, rfl, seen_ents _⟩, ⟨⟨_, rfl, seen_hdM _⟩, trivial⟩⟩⟩ (by decide) ?_)
    rintro v1 h1' ⟨rfl, rfl⟩
    refine ⟨iv (((HS.mk p (wl 3) hd2 e0 false).p) 0), [inB o (ii ns), cw (pl p), cw (headL ((HS.mk p (wl 3) hd2 e0 false).p) 3 4 ((HS.mk p (wl 3) hd2 e0 false).e) ((HS.mk p (wl 3) hd2 e0 false).s)), .chan 200 (((HS.mk p (wl 3) hd2 e0 false).w).map entV), .map (hdM ((HS.mk p (wl 3) hd2 e0 false).hd)), slB zNt (ntsL (notesTo (HS.mk p (wl 3) hd e0 false) hd.length)) q5], [], rfl, ⟨rfl, ⟨rfl, ⟨rfl, ⟨ren_entsV _, ⟨ren_hdM _, ⟨rfl, trivial⟩⟩⟩⟩⟩⟩, trivial, ?_⟩
    refine o_s (by refine run_bld (c := ntF (k : Int) 0 (((HS.mk p (wl 3) hd2 e0 false).p) 0) false true e0 zeroP) ?_; exact bld_nt rfl) ?_
    refine o_cl (callG [2, 3, 4] [cw (headL ((HS.mk p (wl 3) hd2 e0 false).p) 1 2 ((HS.mk p (wl 3) hd2 e0 false).e) ((HS.mk p (wl 3) hd2 e0 false).s)), .chan 200 (((HS.mk p (wl 3) hd2 e0 false).w).map entV), .map (hdM ((HS.mk p (wl 3) hd2 e0 false).hd))] [pv 0 0, ntV (k : Int) 0 (((HS.mk p (wl 3) hd2 e0 false).p) 0) false true e0 zeroP] (HheardC h_head_Head_Heard ((HS.mk p (wl 3) hd2 e0 false).p) ((HS.mk p (wl 3) hd2 e0 false).w) ((HS.mk p (wl 3) hd2 e0 false).hd) ((HS.mk p (wl 3) hd2 e0 false).e) ((HS.mk p (wl 3) hd2 e0 false).s) (k : Int) 0 (((HS.mk p (wl 3) hd2 e0 false).p) 0) false true e0 zeroP) rfl (cons_eq rfl (cons_eq (renV_vpf (ntV_vpf (k : Int) 0 (((HS.mk p (wl 3) hd2 e0 false).p) 0) false true e0 zeroP)) rfl)) ⟨⟨_, rfl, seen_head rfl rfl (fun q => rfl)⟩, ⟨⟨_, rfl, seen_ents _⟩, ⟨⟨_, rfl, seen_hdM _⟩, trivial⟩⟩⟩ (by decide) ?_)
    rintro v1 h1' ⟨rfl, rfl⟩
    refine ⟨.tuple #[], [inB o (ii ns), cw (pl p), cw (headL ((hearS (HS.mk p (wl 3) hd2 e0 false) (Nt.mk (k : Int) 0 (((HS.mk p (wl 3) hd2 e0 false).p) 0) false true e0 zeroP)).p) 3 4 ((hearS (HS.mk p (wl 3) hd2 e0 false) (Nt.mk (k : Int) 0 (((HS.mk p (wl 3) hd2 e0 false).p) 0) false true e0 zeroP)).e) ((hearS (HS.mk p (wl 3) hd2 e0 false) (Nt.mk (k : Int) 0 (((HS.mk p (wl 3) hd2 e0 false).p) 0) false true e0 zeroP)).s)), .chan 200 (((hearS (HS.mk p (wl 3) hd2 e0 false) (Nt.mk (k : Int) 0 (((HS.mk p (wl 3) hd2 e0 false).p) 0) false true e0 zeroP)).w).map entV), .map (hdM ((hearS (HS.mk p (wl 3) hd2 e0 false) (Nt.mk (k : Int) 0 (((HS.mk p (wl 3) hd2 e0 false).p) 0) false true e0 zeroP)).hd)), slB zNt (ntsL (notesTo (HS.mk p (wl 3) hd e0 false) hd.length)) q5], [], (by simp [renV]), ⟨rfl, ⟨rfl, ⟨ren_headL rfl rfl, ⟨ren_entsV _, ⟨ren_hdM _, ⟨rfl, trivial⟩⟩⟩⟩⟩⟩, trivial, ?_⟩
    have ok_y10 := (ok_hear (show HOK (HS.mk p (wl 3) hd2 e0 false) from by first | exact ok_bar hB2 | exact ok_bar hB | exact ok_bset hB) (Nt.mk (k : Int) 0 (((HS.mk p (wl 3) hd2 e0 false).p) 0) false true e0 zeroP))
    generalize hd_y10 : (hearS (HS.mk p (wl 3) hd2 e0 false) (Nt.mk (k : Int) 0 (((HS.mk p (wl 3) hd2 e0 false).p) 0) false true e0 zeroP)) = y10 at ok_y10 ⊢
    have hy_y10 : y10 = (HS.mk p (wl 3) (hd2.set k (0, p 0)) e0 false) := by rw [← hd_y10]; exact bar_hear hB2 hpv.1 (by omega) (by omega)
    subst hy_y10
    refine o_nil ?_
    refine seq_go ?_
    refine greg ?_
    refine o_d 1 [(63, iv (k : Int))] (by kernel_rfl) ?_
    refine o_s (by refine run_val (v := .int .i64 (IntKind.i64.wrap ((k : Int) + 1))) (congrArg (Value.int .i64) (w64 (by omega) (by omega))) ?_; kernel_rfl) ?_
    refine o_d 1 [(16, iv ((k : Int) + 1))] (by kernel_rfl) ?_
    refine o_nil ?_
    refine ⟨(2 + u0).toNat - (k + 1), ?_⟩
    refine ⟨⟨reg [(16, iv ((k + 1) : Int)), (15, iv (i : Int)), (13, iv w), (11, pv 2 0), (10, iv (2 + u0)), (9, pv 1 0), (3, iv turns)], [inB o (ii ns), cw (pl p), cw (headL ((HS.mk p (wl 3) (hd2.set k (0, p 0)) e0 false).p) 3 4 ((HS.mk p (wl 3) (hd2.set k (0, p 0)) e0 false).e) ((HS.mk p (wl 3) (hd2.set k (0, p 0)) e0 false).s)), .chan 200 (((HS.mk p (wl 3) (hd2.set k (0, p 0)) e0 false).w).map entV), .map (hdM ((HS.mk p (wl 3) (hd2.set k (0, p 0)) e0 false).hd)), slB zNt (ntsL (notesTo (HS.mk p (wl 3) hd e0 false) hd.length)) q5]⟩, ?_⟩
    refine and3 (by omega) ⟨?_, ?_⟩
    ·exact Wk.ren [0, 1, 2, 3, 4, 5] rfl rfl (by decide) ⟨rfl, ⟨rfl, ⟨rfl, ⟨rfl, ⟨rfl, ⟨rfl, ⟨rfl, trivial⟩⟩⟩⟩⟩⟩⟩ ⟨.inl (ren_inB o (ii_scl ns)), ⟨.inl (ren_cells (pl_scl p)), ⟨.inl (ren_headS rfl rfl), ⟨.inl (congrArg some (ren_entsV _).symm), ⟨.inl (congrArg some (ren_hdM _).symm), ⟨.inl (ren_slB q5 (fun _ => (ntsR_scl _ _))), trivial⟩⟩⟩⟩⟩⟩
    ·exact ⟨(k + 1), (hd2.set k (0, p 0)), rfl, by omega, (by first | exact bar_set hB2 (by omega) (by omega) | exact bar_skip hB2 (by omega)), rfl⟩
   have h9' : ¬ ((k : Int) ≠ w) := neI_f h9
   refine gskip ?_
   refine seq_go ?_
   refine greg ?_
   refine o_d 1 [(63, iv (k : Int))] (by kernel_rfl) ?_
   refine o_s (by refine run_val (v := .int .i64 (IntKind.i64.wrap ((k : Int) + 1))) (congrArg (Value.int .i64) (w64 (by omega) (by omega))) ?_; kernel_rfl) ?_
   refine o_d 1 [(16, iv ((k : Int) + 1))] (by kernel_rfl) ?_
   refine o_nil ?_
   refine ⟨(2 + u0).toNat - (k + 1), ?_⟩
   refine ⟨⟨reg [(16, iv ((k + 1) : Int)), (15, iv (i : Int)), (13, iv w), (11, pv 2 0), (10, iv (2 + u0)), (9, pv 1 0), (3, iv turns)], [inB o (ii ns), cw (pl p), cw (headL ((HS.mk p (wl 3) hd2 e0 false).p) 3 4 ((HS.mk p (wl 3) hd2 e0 false).e) ((HS.mk p (wl 3) hd2 e0 false).s)), .chan 200 (((HS.mk p (wl 3) hd2 e0 false).w).map entV), .map (hdM ((HS.mk p (wl 3) hd2 e0 false).hd)), slB zNt (ntsL (notesTo (HS.mk p (wl 3) hd e0 false) hd.length)) q5]⟩, ?_⟩
   refine and3 (by omega) ⟨?_, ?_⟩
   ·exact Wk.ren [0, 1, 2, 3, 4, 5] rfl rfl (by decide) ⟨rfl, ⟨rfl, ⟨rfl, ⟨rfl, ⟨rfl, ⟨rfl, ⟨rfl, trivial⟩⟩⟩⟩⟩⟩⟩ ⟨.inl (ren_inB o (ii_scl ns)), ⟨.inl (ren_cells (pl_scl p)), ⟨.inl (ren_headS rfl rfl), ⟨.inl (congrArg some (ren_entsV _).symm), ⟨.inl (congrArg some (ren_hdM _).symm), ⟨.inl (ren_slB q5 (fun _ => (ntsR_scl _ _))), trivial⟩⟩⟩⟩⟩⟩
   ·exact ⟨(k + 1), hd2, rfl, by omega, (by first | exact bar_set hB2 (by omega) (by omega) | exact bar_skip hB2 (by omega)), rfl⟩
  have h8' : ¬ ((k : Int) < 2 + u0) := of_decide_eq_false h8
  refine gexit ?_
  refine seq_go ?_
  refine gseq ?_
  refine gdregD [inB o (ii ns), cw (pl p), cw (headL ((HS.mk p (wl 3) hd2 e0 false).p) 3 4 ((HS.mk p (wl 3) hd2 e0 false).e) ((HS.mk p (wl 3) hd2 e0 false).s)), .chan 200 (((HS.mk p (wl 3) hd2 e0 false).w).map entV), .map (hdM ((HS.mk p (wl 3) hd2 e0 false).hd)), slB zNt (ntsL (notesTo (HS.mk p (wl 3) hd e0 false) hd.length)) q5] (by kernel_rfl) ?_
  refine d_n 1 1 6 [(74, pv 2 0)] [inB o (ii ns), cw (pl p), cw (headL ((HS.mk p (wl 3) hd2 e0 false).p) 3 4 ((HS.mk p (wl 3) hd2 e0 false).e) ((HS.mk p (wl 3) hd2 e0 false).s)), .chan 200 (((HS.mk p (wl 3) hd2 e0 false).w).map entV), .map (hdM ((HS.mk p (wl 3) hd2 e0 false).hd)), slB zNt (ntsL (notesTo (HS.mk p (wl 3) hd e0 false) hd.length)) q5] [] (by kernel_rfl) rfl rfl ?_
  refine d_clG [2, 3, 4] [cr (headL ((HS.mk p (wl 3) hd2 e0 false).p) 1 2 ((HS.mk p (wl 3) hd2 e0 false).e) ((HS.mk p (wl 3) hd2 e0 false).s)), .chan 200 (((HS.mk p (wl 3) hd2 e0 false).w).map entV), .map (hdM ((HS.mk p (wl 3) hd2 e0 false).hd))] [pv 0 0] (HVersionC h_head_Head_Version ((HS.mk p (wl 3) hd2 e0 false).p) ((HS.mk p (wl 3) hd2 e0 false).w) ((HS.mk p (wl 3) hd2 e0 false).hd) ((HS.mk p (wl 3) hd2 e0 false).e) ((HS.mk p (wl 3) hd2 e0 false).s)) rfl rfl ⟨⟨_, rfl, seen_head rfl rfl (fun q => rfl)⟩, ⟨⟨_, rfl, seen_ents _⟩, ⟨⟨_, rfl, seen_hdM _⟩, trivial⟩⟩⟩ (by decide) ⟨_, _, ⟨rfl, rfl⟩, Nat.le_add_right 3 0, flags_app [_, _, _] []⟩ ?_ (by kernel_rfl)
  rintro v1 h1' ⟨rfl, rfl⟩
  refine ⟨iv (((HS.mk p (wl 3) hd2 e0 false).p) 0), [inB o (ii ns), cw (pl p), cw (headL ((HS.mk p (wl 3) hd2 e0 false).p) 3 4 ((HS.mk p (wl 3) hd2 e0 false).e) ((HS.mk p (wl 3) hd2 e0 false).s)), .chan 200 (((HS.mk p (wl 3) hd2 e0 false).w).map entV), .map (hdM ((HS.mk p (wl 3) hd2 e0 false).hd)), slB zNt (ntsL (notesTo (HS.mk p (wl 3) hd e0 false) hd.length)) q5], [], rfl, ⟨rfl, ⟨rfl, ⟨rfl, ⟨ren_entsV _, ⟨ren_hdM _, ⟨rfl, trivial⟩⟩⟩⟩⟩⟩, trivial, ?_⟩
  refine d_n 1 3 6 [(76, pv 1 0)] [inB o (ii ns), cw (pl p), cw (headL ((HS.mk p (wl 3) hd2 e0 false).p) 3 4 ((HS.mk p (wl 3) hd2 e0 false).e) ((HS.mk p (wl 3) hd2 e0 false).s)), .chan 200 (((HS.mk p (wl 3) hd2 e0 false).w).map entV), .map (hdM ((HS.mk p (wl 3) hd2 e0 false).hd)), slB zNt (ntsL (notesTo (HS.mk p (wl 3) hd e0 false) hd.length)) q5] [⟨1, [2, 3, 4], [3, 4], some 6⟩] (by kernel_rfl) rfl rfl ?_
  refine d_s rfl rfl rfl (by kernel_rfl) (by refine run_ld (v := iv (p 0)) rfl rfl ?_; exact pl_r p 0 rfl (by omega)) ?_
  refine d_n 2 6 6 [(79, bv ((((HS.mk p (wl 3) hd2 e0 false).p) 0) != (p 0))), (78, bv ((((HS.mk p (wl 3) hd2 e0 false).p) 0) != (p 0)))] [inB o (ii ns), cw (pl p), cw (headL ((HS.mk p (wl 3) hd2 e0 false).p) 3 4 ((HS.mk p (wl 3) hd2 e0 false).e) ((HS.mk p (wl 3) hd2 e0 false).s)), .chan 200 (((HS.mk p (wl 3) hd2 e0 false).w).map entV), .map (hdM ((HS.mk p (wl 3) hd2 e0 false).hd)), slB zNt (ntsL (notesTo (HS.mk p (wl 3) hd e0 false) hd.length)) q5] [⟨3, [1], [], none⟩, ⟨1, [2, 3, 4], [3, 4], some 6⟩] (by kernel_rfl) rfl rfl ?_
  refine d_sp (b := (((HS.mk p (wl 3) hd2 e0 false).p) 0) != (p 0)) 79 rfl (fun q => by rw [(by first | (simp; done) | (simp [wl]; done) : ((((HS.mk p (wl 3) hd2 e0 false).p) 0) != (p 0)) = false)] at q; cases q) (fun k11 => ?_)
  refine d_n 1 7 6 [(80, pv 2 0)] [inB o (ii ns), cw (pl p), cw (headL ((HS.mk p (wl 3) hd2 e0 false).p) 3 4 ((HS.mk p (wl 3) hd2 e0 false).e) ((HS.mk p (wl 3) hd2 e0 false).s)), .chan 200 (((HS.mk p (wl 3) hd2 e0 false).w).map entV), .map (hdM ((HS.mk p (wl 3) hd2 e0 false).hd)), slB zNt (ntsL (notesTo (HS.mk p (wl 3) hd e0 false) hd.length)) q5] [⟨3, [1], [], none⟩, ⟨1, [2, 3, 4], [3, 4], some 6⟩] (by kernel_rfl) rfl rfl ?_
  refine d_unguard rfl ?_
  refine d_clG [2, 3, 4] [cr (headL ((HS.mk p (wl 3) hd2 e0 false).p) 1 2 ((HS.mk p (wl 3) hd2 e0 false).e) ((HS.mk p (wl 3) hd2 e0 false).s)), .chan 200 (((HS.mk p (wl 3) hd2 e0 false).w).map entV), .map (hdM ((HS.mk p (wl 3) hd2 e0 false).hd))] [pv 0 0] (HWaitingC h_head_Head_Waiting ((HS.mk p (wl 3) hd2 e0 false).p) ((HS.mk p (wl 3) hd2 e0 false).w) ((HS.mk p (wl 3) hd2 e0 false).hd) ((HS.mk p (wl 3) hd2 e0 false).e) ((HS.mk p (wl 3) hd2 e0 false).s)) rfl rfl ⟨⟨_, rfl, seen_head rfl rfl (fun q => rfl)⟩, ⟨⟨_, rfl, seen_ents _⟩, ⟨⟨_, rfl, seen_hdM _⟩, trivial⟩⟩⟩ (by decide) ⟨_, _, ⟨rfl, rfl⟩, Nat.le_add_right 3 0, flags_app [_, _, _] []⟩ ?_ (by kernel_rfl)
  rintro v1 h1' ⟨rfl, rfl⟩
  refine ⟨iv (((HS.mk p (wl 3) hd2 e0 false).w).length : Nat), [inB o (ii ns), cw (pl p), cw (headL ((HS.mk p (wl 3) hd2 e0 false).p) 3 4 ((HS.mk p (wl 3) hd2 e0 false).e) ((HS.mk p (wl 3) hd2 e0 false).s)), .chan 200 (((HS.mk p (wl 3) hd2 e0 false).w).map entV), .map (hdM ((HS.mk p (wl 3) hd2 e0 false).hd)), slB zNt (ntsL (notesTo (HS.mk p (wl 3) hd e0 false) hd.length)) q5], [], rfl, ⟨rfl, ⟨rfl, ⟨rfl, ⟨ren_entsV _, ⟨ren_hdM _, ⟨rfl, trivial⟩⟩⟩⟩⟩⟩, trivial, ?_⟩
  refine d_n 2 10 6 [(83, bv (((((HS.mk p (wl 3) hd2 e0 false).w).length : Nat) : Int) != 3)), (82, bv (((((HS.mk p (wl 3) hd2 e0 false).w).length : Nat) : Int) != 3))] [inB o (ii ns), cw (pl p), cw (headL ((HS.mk p (wl 3) hd2 e0 false).p) 3 4 ((HS.mk p (wl 3) hd2 e0 false).e) ((HS.mk p (wl 3) hd2 e0 false).s)), .chan 200 (((HS.mk p (wl 3) hd2 e0 false).w).map entV), .map (hdM ((HS.mk p (wl 3) hd2 e0 false).hd)), slB zNt (ntsL (notesTo (HS.mk p (wl 3) hd e0 false) hd.length)) q5] [⟨7, [2, 3, 4], [3, 4], some 6⟩, ⟨3, [1], [], none⟩, ⟨1, [2, 3, 4], [3, 4], some 6⟩] (by kernel_rfl) rfl rfl ?_
  refine d_nil ?_
  refine seq_go ?_
  refine gcond (t := ((((HS.mk p (wl 3) hd2 e0 false).w).length : Nat) : Int) != 3) rfl (fun q => by rw [(by first | (simp; done) | (simp [wl]; done) : (((((HS.mk p (wl 3) hd2 e0 false).w).length : Nat) : Int) != 3) = false)] at q; cases q) (fun _ => ?_)
  refine gskip ?_
  refine seq_go ?_
  refine greg ?_
  refine o_d 1 [(56, iv (i : Int))] (by kernel_rfl) ?_
  refine o_s (by refine run_val (v := .int .i64 (IntKind.i64.wrap ((i : Int) + 1))) (congrArg (Value.int .i64) (w64 (by omega) (by omega))) ?_; kernel_rfl) ?_
  refine o_d 1 [(15, iv ((i : Int) + 1))] (by kernel_rfl) ?_
  refine o_nil ?_
  refine ⟨(1 + withinS turns 6).toNat - (i + 1), ?_⟩
  refine ⟨⟨reg [(15, iv ((i + 1) : Int)), (13, iv w), (11, pv 2 0), (10, iv (2 + u0)), (9, pv 1 0), (3, iv turns)], [inB o (ii ns), cw (pl p), cw (headL ((HS.mk p (wl 3) hd2 e0 false).p) 3 4 ((HS.mk p (wl 3) hd2 e0 false).e) ((HS.mk p (wl 3) hd2 e0 false).s)), .chan 200 (((HS.mk p (wl 3) hd2 e0 false).w).map entV), .map (hdM ((HS.mk p (wl 3) hd2 e0 false).hd))]⟩, ?_⟩
  refine and3 (by omega) ⟨?_, ?_⟩
  ·exact Wk.ren [0, 1, 2, 3, 4] rfl rfl (by decide) ⟨rfl, ⟨rfl, ⟨rfl, ⟨rfl, ⟨rfl, ⟨rfl, trivial⟩⟩⟩⟩⟩⟩ ⟨.inl (ren_inB o (ii_scl ns)), ⟨.inl (ren_cells (pl_scl p)), ⟨.inl (ren_headS rfl rfl), ⟨.inl (congrArg some (ren_entsV _).symm), ⟨.inl (congrArg some (ren_hdM _).symm), trivial⟩⟩⟩⟩⟩
  ·exact ⟨(i + 1), hd2, rfl, by omega, (bar_zero hB2), (fun _ => bar_end (by omega) hB2), rfl⟩
 have h4' : ¬ ((i : Int) < 1 + withinS turns 6) := of_decide_eq_false h4
 refine gexit ?_
 refine seq_go ?_
 refine gseq ?_
 refine greg ?_
 refine o_d 3 [(86, pv 2 0), (85, iv w), (84, pv 2 0)] (by kernel_rfl) ?_
 refine o_cl (callG [2, 3, 4] [cr (headL ((HS.mk p (wl 3) hd e0 false).p) 1 2 ((HS.mk p (wl 3) hd e0 false).e) ((HS.mk p (wl 3) hd e0 false).s)), .chan 200 (((HS.mk p (wl 3) hd e0 false).w).map entV), .map (hdM ((HS.mk p (wl 3) hd e0 false).hd))] [pv 0 0] (HVersionC h_head_Head_Version ((HS.mk p (wl 3) hd e0 false).p) ((HS.mk p (wl 3) hd e0 false).w) ((HS.mk p (wl 3) hd e0 false).hd) ((HS.mk p (wl 3) hd e0 false).e) ((HS.mk p (wl 3) hd e0 false).s)) rfl rfl ⟨⟨_, rfl, seen_head rfl rfl (fun q => rfl)⟩, ⟨⟨_, rfl, seen_ents _⟩, ⟨⟨_, rfl, seen_hdM _⟩, trivial⟩⟩⟩ (by decide) ?_)
 rintro v1 h1' ⟨rfl, rfl⟩
 refine ⟨iv (((HS.mk p (wl 3) hd e0 false).p) 0), [inB o (ii ns), cw (pl p), cw (headL ((HS.mk p (wl 3) hd e0 false).p) 3 4 ((HS.mk p (wl 3) hd e0 false).e) ((HS.mk p (wl 3) hd e0 false).s)), .chan 200 (((HS.mk p (wl 3) hd e0 false).w).map entV), .map (hdM ((HS.mk p (wl 3) hd e0 false).hd))], [], rfl, ⟨rfl, ⟨rfl, ⟨rfl, ⟨ren_entsV _, ⟨ren_hdM _, trivial⟩⟩⟩⟩⟩, trivial, ?_⟩
 refine o_s (by refine run_bld (c := ntF w 0 (((HS.mk p (wl 3) hd e0 false).p) 0) false true e0 zeroP) ?_; exact bld_nt rfl) ?_
 refine o_cl (callG [2, 3, 4] [cw (headL ((HS.mk p (wl 3) hd e0 false).p) 1 2 ((HS.mk p (wl 3) hd e0 false).e) ((HS.mk p (wl 3) hd e0 false).s)), .chan 200 (((HS.mk p (wl 3) hd e0 false).w).map entV), .map (hdM ((HS.mk p (wl 3) hd e0 false).hd))] [pv 0 0, ntV w 0 (((HS.mk p (wl 3) hd e0 false).p) 0) false true e0 zeroP] (HheardC h_head_Head_Heard ((HS.mk p (wl 3) hd e0 false).p) ((HS.mk p (wl 3) hd e0 false).w) ((HS.mk p (wl 3) hd e0 false).hd) ((HS.mk p (wl 3) hd e0 false).e) ((HS.mk p (wl 3) hd e0 false).s) w 0 (((HS.mk p (wl 3) hd e0 false).p) 0) false true e0 zeroP) rfl (cons_eq rfl (cons_eq (renV_vpf (ntV_vpf w 0 (((HS.mk p (wl 3) hd e0 false).p) 0) false true e0 zeroP)) rfl)) ⟨⟨_, rfl, seen_head rfl rfl (fun q => rfl)⟩, ⟨⟨_, rfl, seen_ents _⟩, ⟨⟨_, rfl, seen_hdM _⟩, trivial⟩⟩⟩ (by decide) ?_)
 rintro v1 h1' ⟨rfl, rfl⟩
 refine ⟨.tuple #[], [inB o (ii ns), cw (pl p), cw (headL ((hearS (HS.mk p (wl 3) hd e0 false) (Nt.mk w 0 (((HS.mk p (wl 3) hd e0 false).p) 0) false true e0 zeroP)).p) 3 4 ((hearS (HS.mk p (wl 3) hd e0 false) (Nt.mk w 0 (((HS.mk p (wl 3) hd e0 false).p) 0) false true e0 zeroP)).e) ((hearS (HS.mk p (wl 3) hd e0 false) (Nt.mk w 0 (((HS.mk p (wl 3) hd e0 false).p) 0) false true e0 zeroP)).s)), .chan 200 (((hearS (HS.mk p (wl 3) hd e0 false) (Nt.mk w 0 (((HS.mk p (wl 3) hd e0 false).p) 0) false true e0 zeroP)).w).map entV), .map (hdM ((hearS (HS.mk p (wl 3) hd e0 false) (Nt.mk w 0 (((HS.mk p (wl 3) hd e0 false).p) 0) false true e0 zeroP)).hd))], [], (by simp [renV]), ⟨rfl, ⟨rfl, ⟨ren_headL rfl rfl, ⟨ren_entsV _, ⟨ren_hdM _, trivial⟩⟩⟩⟩⟩, trivial, ?_⟩
 have ok_y12 := (ok_hear (show HOK (HS.mk p (wl 3) hd e0 false) from by first | exact ok_bar hB2 | exact ok_bar hB | exact ok_bset hB) (Nt.mk w 0 (((HS.mk p (wl 3) hd e0 false).p) 0) false true e0 zeroP))
 generalize hd_y12 : (hearS (HS.mk p (wl 3) hd e0 false) (Nt.mk w 0 (((HS.mk p (wl 3) hd e0 false).p) 0) false true e0 zeroP)) = y12 at ok_y12 ⊢
 have hy_y12 : y12 = (HS.mk p (wl 3) (hd.set w.toNat (0, p 0)) e0 false) := by rw [← hd_y12]; exact bar_last hB hpv.1 (by omega)
 subst hy_y12
 have hA := bar_all (hB0 (by omega))
 refine o_nil ?_
 refine seq_go ?_
 refine gseq ?_
 refine greg ?_
 refine o_d 1 [(90, pv 2 0)] (by kernel_rfl) ?_
 refine o_cl (callG [2, 3, 4] [cw (headL ((HS.mk p (wl 3) (hd.set w.toNat (0, p 0)) e0 false).p) 1 2 ((HS.mk p (wl 3) (hd.set w.toNat (0, p 0)) e0 false).e) ((HS.mk p (wl 3) (hd.set w.toNat (0, p 0)) e0 false).s)), .chan 200 (((HS.mk p (wl 3) (hd.set w.toNat (0, p 0)) e0 false).w).map entV), .map (hdM ((HS.mk p (wl 3) (hd.set w.toNat (0, p 0)) e0 false).hd))] [pv 0 0] (HsendC h_head_Head_Send h_head_Head_all h_head_Head_publish h_pool_Apply h_pool_may h_pool_held h_pool_fits h_pool_Check h_pool_placed h_cookie_Next ((HS.mk p (wl 3) (hd.set w.toNat (0, p 0)) e0 false).p) ((HS.mk p (wl 3) (hd.set w.toNat (0, p 0)) e0 false).w) ((HS.mk p (wl 3) (hd.set w.toNat (0, p 0)) e0 false).hd) ((HS.mk p (wl 3) (hd.set w.toNat (0, p 0)) e0 false).e) ((HS.mk p (wl 3) (hd.set w.toNat (0, p 0)) e0 false).s) ((show HOK (HS.mk p (wl 3) (hd.set w.toNat (0, p 0)) e0 false) from by first | exact ok_bar hB2 | exact ok_bar hB | exact ok_bset hB)).hd) rfl rfl ⟨⟨_, rfl, seen_head rfl rfl (fun q => rfl)⟩, ⟨⟨_, rfl, seen_ents _⟩, ⟨⟨_, rfl, seen_hdM _⟩, trivial⟩⟩⟩ (by decide) ?_)
 rintro v1 h1' ⟨q13, hq14, rfl, rfl⟩
 refine ⟨slV 5 ((sendS (HS.mk p (wl 3) (hd.set w.toNat (0, p 0)) e0 false)).2.length) q13, [inB o (ii ns), cw (pl p), cw (headL ((sendS (HS.mk p (wl 3) (hd.set w.toNat (0, p 0)) e0 false)).1.p) 3 4 ((sendS (HS.mk p (wl 3) (hd.set w.toNat (0, p 0)) e0 false)).1.e) ((sendS (HS.mk p (wl 3) (hd.set w.toNat (0, p 0)) e0 false)).1.s)), .chan 200 (((sendS (HS.mk p (wl 3) (hd.set w.toNat (0, p 0)) e0 false)).1.w).map entV), .map (hdM ((sendS (HS.mk p (wl 3) (hd.set w.toNat (0, p 0)) e0 false)).1.hd))], [slB zNt (ntsL ((sendS (HS.mk p (wl 3) (hd.set w.toNat (0, p 0)) e0 false)).2)) q13], (renV_slV q13 rfl), ⟨rfl, ⟨rfl, ⟨ren_headL rfl rfl, ⟨ren_entsV _, ⟨(ren_hdM2 (sendS_hd _)), trivial⟩⟩⟩⟩⟩, ⟨(Option.some.inj (ren_slB q13 (fun _ => (ntsR_scl _ _)))).symm, trivial⟩, ?_⟩
 have ok_y15 := (ok_send (show HOK (HS.mk p (wl 3) (hd.set w.toNat (0, p 0)) e0 false) from by first | exact ok_bar hB2 | exact ok_bar hB | exact ok_bset hB))
 generalize hd_y15 : (sendS (HS.mk p (wl 3) (hd.set w.toNat (0, p 0)) e0 false)) = y15 at ok_y15 hq14 ⊢
 have hS1 : y15.1.p 0 = p 0 + 1 ∧ y15.1.w.length = 2 := by rw [← hd_y15]; exact bar_go hA hpv (by omega)
 refine o_nil ?_
 refine seq_go ?_
 refine gseq ?_
 refine gdregD [inB o (ii ns), cw (pl p), cw (headL y15.1.p 3 4 y15.1.e y15.1.s), .chan 200 (y15.1.w.map entV), .map (hdM y15.1.hd), slB zNt (ntsL y15.2) q13] (by kernel_rfl) ?_
 refine d_n 1 1 6 [(92, pv 2 0)] [inB o (ii ns), cw (pl p), cw (headL y15.1.p 3 4 y15.1.e y15.1.s), .chan 200 (y15.1.w.map entV), .map (hdM y15.1.hd), slB zNt (ntsL y15.2) q13] [] (by kernel_rfl) rfl rfl ?_
 refine d_clG [2, 3, 4] [cr (headL y15.1.p 1 2 y15.1.e y15.1.s), .chan 200 (y15.1.w.map entV), .map (hdM y15.1.hd)] [pv 0 0] (HVersionC h_head_Head_Version y15.1.p y15.1.w y15.1.hd y15.1.e y15.1.s) rfl rfl ⟨⟨_, rfl, seen_head rfl rfl (fun q => rfl)⟩, ⟨⟨_, rfl, seen_ents _⟩, ⟨⟨_, rfl, seen_hdM _⟩, trivial⟩⟩⟩ (by decide) ⟨_, _, ⟨rfl, rfl⟩, Nat.le_add_right 3 0, flags_app [_, _, _] []⟩ ?_ (by kernel_rfl)
 rintro v1 h1' ⟨rfl, rfl⟩
 refine ⟨iv (y15.1.p 0), [inB o (ii ns), cw (pl p), cw (headL y15.1.p 3 4 y15.1.e y15.1.s), .chan 200 (y15.1.w.map entV), .map (hdM y15.1.hd), slB zNt (ntsL y15.2) q13], [], rfl, ⟨rfl, ⟨rfl, ⟨rfl, ⟨ren_entsV _, ⟨ren_hdM _, ⟨rfl, trivial⟩⟩⟩⟩⟩⟩, trivial, ?_⟩
 refine d_n 1 3 6 [(94, pv 1 0)] [inB o (ii ns), cw (pl p), cw (headL y15.1.p 3 4 y15.1.e y15.1.s), .chan 200 (y15.1.w.map entV), .map (hdM y15.1.hd), slB zNt (ntsL y15.2) q13] [⟨1, [2, 3, 4], [3, 4], some 6⟩] (by kernel_rfl) rfl rfl ?_
 refine d_s rfl rfl rfl (by kernel_rfl) (by refine run_ld (v := iv (p 0)) rfl rfl ?_; exact pl_r p 0 rfl (by omega)) ?_
 refine d_s rfl rfl rfl (by kernel_rfl) (by refine run_val (v := .int .i64 (IntKind.i64.wrap (p 0 + 1))) (congrArg (Value.int .i64) (w64 (by omega) (by omega))) ?_; kernel_rfl) ?_
 refine d_n 2 7 6 [(98, bv ((y15.1.p 0) == (p 0 + 1))), (97, bv ((y15.1.p 0) == (p 0 + 1)))] [inB o (ii ns), cw (pl p), cw (headL y15.1.p 3 4 y15.1.e y15.1.s), .chan 200 (y15.1.w.map entV), .map (hdM y15.1.hd), slB zNt (ntsL y15.2) q13] [⟨3, [1], [], none⟩, ⟨1, [2, 3, 4], [3, 4], some 6⟩] (by kernel_rfl) rfl rfl ?_
 refine d_sp (b := (y15.1.p 0) == (p 0 + 1)) 98 rfl (fun k16 => ?_) (fun q => by rw [(by first | rfl | (rw [hS1.1]; simp) | (rw [hS1.2]; rfl) : ((y15.1.p 0) == (p 0 + 1)) = true)] at q; cases q)
 refine d_n 1 8 6 [(99, pv 2 0)] [inB o (ii ns), cw (pl p), cw (headL y15.1.p 3 4 y15.1.e y15.1.s), .chan 200 (y15.1.w.map entV), .map (hdM y15.1.hd), slB zNt (ntsL y15.2) q13] [⟨3, [1], [], none⟩, ⟨1, [2, 3, 4], [3, 4], some 6⟩] (by kernel_rfl) rfl rfl ?_
 refine d_unguard rfl ?_
 refine d_clG [2, 3, 4] [cr (headL y15.1.p 1 2 y15.1.e y15.1.s), .chan 200 (y15.1.w.map entV), .map (hdM y15.1.hd)] [pv 0 0] (HWaitingC h_head_Head_Waiting y15.1.p y15.1.w y15.1.hd y15.1.e y15.1.s) rfl rfl ⟨⟨_, rfl, seen_head rfl rfl (fun q => rfl)⟩, ⟨⟨_, rfl, seen_ents _⟩, ⟨⟨_, rfl, seen_hdM _⟩, trivial⟩⟩⟩ (by decide) ⟨_, _, ⟨rfl, rfl⟩, Nat.le_add_right 3 0, flags_app [_, _, _] []⟩ ?_ (by kernel_rfl)
 rintro v1 h1' ⟨rfl, rfl⟩
 refine ⟨iv (y15.1.w.length : Nat), [inB o (ii ns), cw (pl p), cw (headL y15.1.p 3 4 y15.1.e y15.1.s), .chan 200 (y15.1.w.map entV), .map (hdM y15.1.hd), slB zNt (ntsL y15.2) q13], [], rfl, ⟨rfl, ⟨rfl, ⟨rfl, ⟨ren_entsV _, ⟨ren_hdM _, ⟨rfl, trivial⟩⟩⟩⟩⟩⟩, trivial, ?_⟩
 refine d_n 3 12 6 [(8, bv (((y15.1.w.length : Nat) : Int) == 2)), (102, bv (((y15.1.w.length : Nat) : Int) == 2)), (101, bv (((y15.1.w.length : Nat) : Int) == 2))] [inB o (ii ns), cw (pl p), cw (headL y15.1.p 3 4 y15.1.e y15.1.s), .chan 200 (y15.1.w.map entV), .map (hdM y15.1.hd), slB zNt (ntsL y15.2) q13] [⟨8, [2, 3, 4], [3, 4], some 6⟩, ⟨3, [1], [], none⟩, ⟨1, [2, 3, 4], [3, 4], some 6⟩] (by kernel_rfl) rfl rfl ?_
 refine d_nil ?_
 refine seq_regs [(8, bv (((y15.1.w.length : Nat) : Int) == 2))] (by kernel_rfl) ?_
 refine gret ?_
 have E0_ : (((y15.1.w.length : Nat) : Int) == 2) = true := by
  first | rfl | (rw [hS1.2]; rfl)
 exact fin_ans [bv (((y15.1.w.length : Nat) : Int) == 2)] (resV_t rfl rfl) rfl (by rw [E0_]; rfl) rfl (show List.all [inB o (ii ns)] blkf = true from (all_cons (inB_gone _ (ii_scl ns)) rfl))
end Go.Rh
