import Derived.Test.YtdkpglcjjadhbaaMe

set_option linter.unusedSimpArgs false
set_option linter.unusedVariables false
set_option maxRecDepth 100000
set_option maxHeartbeats 8000000
namespace Go.Rh
def c_law6_PoolTwo : IFunc :=
  ⟨113, [.tmp 6], (.seq (.reg [⟨(some 6), .mv (.c (.bool false)), none⟩]) (.seq (.seq (.reg [⟨(some 18), .call "roundhouse/roundhouselaw6.known" [], none⟩, ⟨(some 19), .un .not (.t 18), none⟩]) (.cond (.t 19) (.seq (.reg [⟨(some 6), .mv (.c (.bool false)), none⟩]) .ret) .skip)) (.seq (.reg [⟨(some 20), .mv (.t 0), none⟩, ⟨(some 21), .call "roundhouse/roundhouselaw6.Make" [(.t 20), (.c (.int .i64 60))], none⟩, ⟨(some 7), .new [(324, (.int .i64 0)), (6, (.int .u64 0))], none⟩, ⟨none, .st 330 (.t 7) (.t 21), none⟩]) (.seq (.reg [⟨(some 22), .mv (.t 1), none⟩, ⟨(some 23), .call "roundhouse/roundhouselaw6.within" [(.t 22), (.c (.int .i64 5))], none⟩, ⟨(some 24), .mv (.t 2), none⟩, ⟨(some 25), .call "roundhouse/roundhouselaw6.within" [(.t 24), (.c (.int .i64 3))], none⟩, ⟨(some 8), .mv (.t 23), none⟩, ⟨(some 9), .mv (.t 25), none⟩]) (.seq (.reg [⟨(some 10), .mv (.c (.int .i64 (-1))), none⟩]) (.seq (.seq (.reg [⟨(some 11), .mv (.c (.int .i64 63)), none⟩]) (.block 0 (.loop (.seq (.seq (.reg [⟨(some 26), .mv (.t 11), none⟩, ⟨(some 27), .bin .geq (.t 26) (.c (.int .i64 0)), none⟩]) (.cond (.t 27) .skip (.exit 0))) (.seq (.block 1 (.seq (.reg [⟨(some 30), .mv (.t 11), none⟩, ⟨(some 31), .fad 3 (.t 7), none⟩, ⟨(some 32), .iadA 64 5 (.t 31) (.t 30), none⟩, ⟨(some 33), .fad 0 (.t 32), none⟩, ⟨(some 34), .ld none (.t 33), none⟩, ⟨(some 35), .bin .eql (.t 34) (.c (.int .i64 0)), none⟩]) (.cond (.t 35) (.reg [⟨(some 36), .mv (.t 11), none⟩, ⟨(some 10), .mv (.t 36), none⟩]) .skip))) (.reg [⟨(some 28), .mv (.t 11), none⟩, ⟨(some 29), .bin .sub (.t 28) (.c (.int .i64 1)), none⟩, ⟨(some 11), .mv (.t 29), none⟩])))))) (.seq (.reg [⟨(some 12), .mv (.c (.bool false)), none⟩]) (.seq (.seq (.reg [⟨(some 13), .mv (.c (.int .i64 0)), none⟩]) (.block 2 (.loop (.seq (.seq (.reg [⟨(some 37), .mv (.t 13), none⟩, ⟨(some 38), .bin .lss (.t 37) (.c (.int .i64 64)), none⟩]) (.cond (.t 38) .skip (.exit 2))) (.seq (.block 3 (.reg [⟨(some 41), .mv (.t 12), none⟩, ⟨(some 42), .mv (.t 41), none⟩, ⟨(some 43), .mv (.t 13), some (42, false)⟩, ⟨(some 44), .fad 3 (.t 7), some (42, false)⟩, ⟨(some 45), .iadA 64 5 (.t 44) (.t 43), some (42, false)⟩, ⟨(some 46), .fad 0 (.t 45), some (42, false)⟩, ⟨(some 47), .ld none (.t 46), some (42, false)⟩, ⟨(some 48), .bin .neq (.t 47) (.c (.int .i64 0)), some (42, false)⟩, ⟨(some 49), .mv (.t 48), some (42, false)⟩, ⟨(some 50), .mv (.t 13), some (49, true)⟩, ⟨(some 51), .fad 3 (.t 7), some (49, true)⟩, ⟨(some 52), .iadA 64 5 (.t 51) (.t 50), some (49, true)⟩, ⟨(some 53), .fad 1 (.t 52), some (49, true)⟩, ⟨(some 54), .ld none (.t 53), some (49, true)⟩, ⟨(some 55), .mv (.t 8), some (49, true)⟩, ⟨(some 56), .bin .eql (.t 54) (.t 55), some (49, true)⟩, ⟨(some 57), .pick (.t 49) (.t 56) (.c (.bool false)), some (42, false)⟩, ⟨(some 58), .mv (.t 57), some (42, false)⟩, ⟨(some 59), .mv (.t 13), some (58, true)⟩, ⟨(some 60), .fad 3 (.t 7), some (58, true)⟩, ⟨(some 61), .iadA 64 5 (.t 60) (.t 59), some (58, true)⟩, ⟨(some 62), .fad 2 (.t 61), some (58, true)⟩, ⟨(some 63), .ld none (.t 62), some (58, true)⟩, ⟨(some 64), .mv (.t 9), some (58, true)⟩, ⟨(some 65), .bin .eql (.t 63) (.t 64), some (58, true)⟩, ⟨(some 66), .pick (.t 58) (.t 65) (.c (.bool false)), some (42, false)⟩, ⟨(some 67), .pick (.t 42) (.c (.bool true)) (.t 66), none⟩, ⟨(some 12), .mv (.t 67), none⟩])) (.reg [⟨(some 39), .mv (.t 13), none⟩, ⟨(some 40), .bin .add (.t 39) (.c (.int .i64 1)), none⟩, ⟨(some 13), .mv (.t 40), none⟩])))))) (.seq (.seq (.reg [⟨(some 68), .mv (.t 10), none⟩, ⟨(some 69), .bin .lss (.t 68) (.c (.int .i64 0)), none⟩]) (.cond (.t 69) (.seq (.reg [⟨(some 6), .mv (.c (.bool true)), none⟩]) .ret) .skip)) (.seq (.reg [⟨(some 71), .ld (some 330) (.t 7), none⟩, ⟨(some 72), .mv (.t 10), none⟩, ⟨(some 73), .mv (.t 8), none⟩, ⟨(some 74), .mv (.t 9), none⟩, ⟨(some 75), .bld [(5, (.int .i64 0)), (2, (.int .u64 0))] [(0, 1, (.c (.int .i64 1))), (1, 1, (.t 72)), (2, 1, (.t 73)), (3, 1, (.t 74)), (4, 1, (.c (.int .i64 1)))], none⟩, ⟨(some 76), .call "roundhouse/pool.Apply" [(.t 71), (.t 75)], none⟩, ⟨(some 70), .mv (.t 76), none⟩, ⟨(some 77), .ext 0 (.t 70), none⟩, ⟨(some 78), .ext 1 (.t 70), none⟩, ⟨(some 14), .new [(324, (.int .i64 0)), (6, (.int .u64 0))], none⟩, ⟨none, .st 330 (.t 14) (.t 77), none⟩, ⟨(some 15), .mv (.t 78), none⟩]) (.seq (.reg [⟨(some 80), .ld (some 330) (.t 7), none⟩, ⟨(some 81), .mv (.t 10), none⟩, ⟨(some 82), .fad 1 (.t 7), none⟩, ⟨(some 83), .ld none (.t 82), none⟩, ⟨(some 84), .fad 2 (.t 7), none⟩, ⟨(some 85), .ld none (.t 84), none⟩, ⟨(some 86), .bld [(5, (.int .i64 0)), (2, (.int .u64 0))] [(0, 1, (.c (.int .i64 1))), (1, 1, (.t 81)), (2, 1, (.t 83)), (3, 1, (.t 85)), (4, 1, (.c (.int .i64 1)))], none⟩, ⟨(some 87), .call "roundhouse/pool.Apply" [(.t 80), (.t 86)], none⟩, ⟨(some 79), .mv (.t 87), none⟩, ⟨(some 88), .ext 0 (.t 79), none⟩, ⟨(some 89), .ext 1 (.t 79), none⟩, ⟨(some 16), .new [(324, (.int .i64 0)), (6, (.int .u64 0))], none⟩, ⟨none, .st 330 (.t 16) (.t 88), none⟩, ⟨(some 17), .mv (.t 89), none⟩]) (.seq (.reg [⟨(some 90), .mv (.t 15), none⟩, ⟨(some 91), .bin .eql (.t 90) (.c (.int .i64 12)), none⟩, ⟨(some 92), .mv (.t 12), none⟩, ⟨(some 93), .eqb false (.t 91) (.t 92), none⟩, ⟨(some 94), .mv (.t 93), none⟩, ⟨(some 95), .mv (.t 12), some (94, true)⟩, ⟨(some 96), .mv (.t 95), some (94, true)⟩, ⟨(some 97), .mv (.t 15), some (96, false)⟩, ⟨(some 98), .bin .eql (.t 97) (.c (.int .i64 0)), some (96, false)⟩, ⟨(some 99), .mv (.t 98), some (96, false)⟩, ⟨(some 100), .mv (.t 10), some (99, true)⟩, ⟨(some 101), .fad 3 (.t 14), some (99, true)⟩, ⟨(some 102), .iadA 64 5 (.t 101) (.t 100), some (99, true)⟩, ⟨(some 103), .fad 0 (.t 102), some (99, true)⟩, ⟨(some 104), .ld none (.t 103), some (99, true)⟩, ⟨(some 105), .bin .eql (.t 104) (.c (.int .i64 1)), some (99, true)⟩, ⟨(some 106), .pick (.t 99) (.t 105) (.c (.bool false)), some (96, false)⟩, ⟨(some 107), .pick (.t 96) (.c (.bool true)) (.t 106), some (94, true)⟩, ⟨(some 108), .pick (.t 94) (.t 107) (.c (.bool false)), none⟩, ⟨(some 109), .mv (.t 108), none⟩, ⟨(some 110), .mv (.t 17), some (109, true)⟩, ⟨(some 111), .bin .eql (.t 110) (.c (.int .i64 12)), some (109, true)⟩, ⟨(some 112), .pick (.t 109) (.t 111) (.c (.bool false)), none⟩, ⟨(some 6), .mv (.t 112), none⟩]) .ret))))))))))))⟩
theorem two_bind {c : Flat} {b : Nat} (I : PInv c b) (hp : c 1 = 10 ∧ c 2 = 80) {s x y : Int} (hs : 0 ≤ s ∧ s < 64) (hz : c (3 + 5 * s.toNat) = 0) (hx : 0 ≤ x ∧ x < 5) (hy : 0 ≤ y ∧ y < 3) :
    (applyS c ⟨1, s, x, y, 1, 0, 0⟩).2 = (if heldTo c x y 64 = true then 12 else 0) ∧ (heldTo c x y 64 = false → (applyS c ⟨1, s, x, y, 1, 0, 0⟩).1 (3 + 5 * s.toNat) = 1) ∧ (applyS c ⟨1, s, c 1, c 2, 1, 0, 0⟩).2 = 12 := by
  have p1 : placedS x y = true := by simp [placedS]; omega
  have p2 : placedS (c 1) (c 2) = true := by rw [hp.1, hp.2]; decide
  have n1 : ¬ (s < 0 ∨ 64 ≤ s) := by omega
  have c1 : checkS ⟨1, s, x, y, 1, 0, 0⟩ = 0 := by simp [checkS, p1]; omega
  have c2 : checkS ⟨1, s, c 1, c 2, 1, 0, 0⟩ = 0 := by simp [checkS, p2]; omega
  have h1 : heldS c x y = heldTo c x y 64 := by
    have : ¬ (c 1 = x ∧ c 2 = y) := by omega
    simp [heldS]; intro e1 e2; exact absurd ⟨e1, e2⟩ this
  have b1 : badS c ⟨1, s, x, y, 1, 0, 0⟩ = heldTo c x y 64 := by simp [badS, hz, h1]
  have b2 : badS c ⟨1, s, c 1, c 2, 1, 0, 0⟩ = true := by simp [badS, heldS]
  refine ⟨?_, fun h => ?_, ?_⟩
  · rw [apply_snd]; simp only [errS, c1, fitsS, b1]; simp
  · have e0 : (applyS c ⟨1, s, x, y, 1, 0, 0⟩).2 = 0 := by rw [apply_snd]; simp [errS, c1, fitsS, b1, h]
    rw [(apply_ok e0).1]
    obtain ⟨x0, x1, x2, x3, x4, hd, g1, _⟩ := done_set c ⟨1, s, x, y, 1, 0, 0⟩ (by simp)
    rw [hd, ss0, if_pos rfl]; exact (g1 rfl).1
  · rw [apply_snd]; simp [errS, c2, fitsS, b2]
theorem PoolTwoC {P : Program} (hc : codeOf P "roundhouse/roundhouselaw6.PoolTwo" = some c_law6_PoolTwo) (h_law6_known : codeOf P "roundhouse/roundhouselaw6.known" = some c_law6_known) (h_pool_New : codeOf P "roundhouse/pool.New" = some c_pool_New) (h_pool_placed : codeOf P "roundhouse/pool.placed" = some c_pool_placed) (h_cookie_Ring : codeOf P "roundhouse/cookie.Ring" = some c_cookie_Ring) (h_pool_Find : codeOf P "roundhouse/pool.Find" = some c_pool_Find) (h_pool_may : codeOf P "roundhouse/pool.may" = some c_pool_may) (h_pool_All : codeOf P "roundhouse/pool.All" = some c_pool_All) (h_pool_Apply : codeOf P "roundhouse/pool.Apply" = some c_pool_Apply) (h_pool_held : codeOf P "roundhouse/pool.held" = some c_pool_held) (h_pool_fits : codeOf P "roundhouse/pool.fits" = some c_pool_fits) (h_pool_Check : codeOf P "roundhouse/pool.Check" = some c_pool_Check) (h_cookie_Next : codeOf P "roundhouse/cookie.Next" = some c_cookie_Next) (h_pool_Takes : codeOf P "roundhouse/pool.Takes" = some c_pool_Takes) (h_law6_Make : codeOf P "roundhouse/roundhouselaw6.Make" = some c_law6_Make) (h_law5_Key : codeOf P "roundhouse/roundhouselaw5.Key" = some c_law5_Key) (h_ref6_New : codeOf P "roundhouse/roundhouseref6.New" = some c_ref6_New) (h_ref6_out : codeOf P "roundhouse/roundhouseref6.out" = some c_ref6_out) (h_ref5_Ring : codeOf P "roundhouse/roundhouseref5.Ring" = some c_ref5_Ring) (h_law6_Entry : codeOf P "roundhouse/roundhouselaw6.Entry" = some c_law6_Entry) (h_law6_within : codeOf P "roundhouse/roundhouselaw6.within" = some c_law6_within) (h_ref6_Apply : codeOf P "roundhouse/roundhouseref6.Apply" = some c_ref6_Apply) (h_ref6_Check : codeOf P "roundhouse/roundhouseref6.Check" = some c_ref6_Check) (h_ref6_bad : codeOf P "roundhouse/roundhouseref6.bad" = some c_ref6_bad) (h_ref6_Held : codeOf P "roundhouse/roundhouseref6.Held" = some c_ref6_Held) (h_ref5_Next : codeOf P "roundhouse/roundhouseref5.Next" = some c_ref5_Next) (o : Option Nat) (ns : List Int) (hnns : o = none → ns = []) (hl : (ns.length : Int) ≤ 9223372036854775807) (addr port : Int) :
    Env P "roundhouse/roundhouselaw6.PoolTwo" [inV o 0 ns.length, iv addr, iv port] ([inB o (ii ns)]) (Ans (.bool true) ([inB o (ii ns)])) := by
  refine Env.by hc ?_
  unfold c_law6_PoolTwo
  show GC _ 1 _ _ ⟨reg [(0, inV o 0 ns.length), (1, iv addr), (2, iv port)], [inB o (ii ns)]⟩
  have I := makeS_inv ns (k := 60) (by omega)
  have hx5 := within_lt addr (n := 5) (by decide)
  have hy3 := within_lt port (n := 3) (by decide)
  refine gseq ?_
  refine greg ?_
  refine o_d 1 [(6, bv false)] (by kernel_rfl) ?_
  refine o_nil ?_
  refine seq_go ?_
  refine gseq ?_
  refine gseq ?_
  refine greg ?_
  refine o_cl (callV (knownC h_law6_known h_pool_New h_pool_placed h_cookie_Ring h_pool_Find h_pool_may h_pool_All h_pool_Apply h_pool_held h_pool_fits h_pool_Check h_cookie_Next h_pool_Takes) rfl rfl rfl ?_)
  refine o_d 1 [(19, bv false)] (by kernel_rfl) ?_
  refine o_nil ?_
  refine seq_go ?_
  refine gfalse rfl ?_
  refine gskip ?_
  refine seq_go ?_
  refine gseq ?_
  refine greg ?_
  refine o_d 1 [(20, inV o 0 ns.length)] (by kernel_rfl) ?_
  refine o_cl (callRO_K (callIn 0 (MakeC h_law6_Make h_law5_Key h_ref6_New h_ref6_out h_ref5_Ring h_law6_Entry h_law6_within h_ref6_Apply h_ref6_Check h_ref6_bad h_ref6_Held h_ref5_Next o ns hnns hl 60 (by omega)) rfl (ii_scl _) rfl rfl (poolV_vpf _) ?_))
  refine o_b 1 [(7, pv 1 0)] [inB o (ii ns), cw (pl zeroP)] (by kernel_rfl) ?_
  refine o_s0 (by refine run_st (c' := pl (makeS ns 60)) rfl rfl rfl ?_ ?_ ?_; exact pl_length _; exact pl_le (by omega); exact splice_pl0 zeroP (makeS ns 60)) ?_
  refine o_nil ?_
  refine seq_go ?_
  refine gseq ?_
  refine greg ?_
  refine o_d 1 [(22, iv addr)] (by kernel_rfl) ?_
  refine o_cl (callV (withinC h_law6_within addr 5 (by decide)) rfl rfl rfl ?_)
  refine o_d 1 [(24, iv port)] (by kernel_rfl) ?_
  refine o_cl (callV (withinC h_law6_within port 3 (by decide)) rfl rfl rfl ?_)
  refine o_d 2 [(9, iv (withinS port 3)), (8, iv (withinS addr 5))] (by kernel_rfl) ?_
  refine o_nil ?_
  refine seq_go ?_
  refine gseq ?_
  refine greg ?_
  refine o_d 1 [(10, iv (-1))] (by kernel_rfl) ?_
  refine o_nil ?_
  refine seq_go ?_
  refine gseq ?_
  refine gseq ?_
  refine greg ?_
  refine o_d 1 [(11, iv 63)] (by kernel_rfl) ?_
  refine o_nil ?_
  refine seq_go ?_
  refine gblock ?_
  refine gloop (fun μ s => ∃ (i : Int), ∃ (v : Int), μ = (i + 1).toNat ∧ (-1 ≤ i ∧ i ≤ 63) ∧ (v = -1 ∨ (0 ≤ v ∧ v < 64 ∧ (makeS ns 60) (3 + 5 * v.toNat) = 0)) ∧ s = ⟨reg [(11, iv i), (10, iv v), (9, iv (withinS port 3)), (8, iv (withinS addr 5)), (7, pv 1 0)], [inB o (ii ns), cw (pl (makeS ns 60))]⟩) ⟨(((63 : Int) + 1).toNat), ?_⟩ ?_
  · skip
    refine ⟨⟨reg [(11, iv (63 : Int)), (10, iv (-1)), (9, iv (withinS port 3)), (8, iv (withinS addr 5)), (7, pv 1 0)], [inB o (ii ns), cw (pl (makeS ns 60))]⟩, ?_⟩
    refine ⟨?_, ?_⟩
    · exact Wk.ren [0, 1] rfl rfl (by decide) ⟨rfl, ⟨rfl, ⟨rfl, ⟨rfl, ⟨rfl, trivial⟩⟩⟩⟩⟩ ⟨.inl (ren_inB o (ii_scl ns)), ⟨.inl (ren_cells (pl_scl (makeS ns 60))), trivial⟩⟩
    · exact ⟨(63 : Int), (-1), rfl, by omega, (.inl rfl), rfl⟩
  · rintro μ s ⟨i, v, rfl, hi, hv, rfl⟩
    refine gseq ?_
    refine gseq ?_
    refine greg ?_
    refine o_d 2 [(27, bv (decide (i ≥ 0))), (26, iv i)] (by kernel_rfl) ?_
    refine o_nil ?_
    refine seq_go ?_
    refine gcond (t := decide (i ≥ 0)) rfl (fun h1 => ?_) (fun h1 => ?_)
    · skip
      have h1' : i ≥ 0 := of_decide_eq_true h1
      refine gskip ?_
      refine seq_go ?_
      refine gseq ?_
      refine gblock ?_
      refine gseq ?_
      refine greg ?_
      refine o_d 2 [(31, pv 1 3), (30, iv i)] (by kernel_rfl) ?_
      refine o_s (by exact run_iadA (o := 3) (o' := 3 + 5 * i.toNat) rfl rfl (by omega) (by omega)) ?_
      refine o_s (by refine run_fad (o' := 3 + 5 * i.toNat) rfl (by omega)) ?_
      refine o_s (by refine run_ld (v := iv ((makeS ns 60) (3 + 5 * i.toNat))) rfl rfl ?_; exact pl_r (makeS ns 60) (3 + 5 * i.toNat) (by omega) (by omega)) ?_
      refine o_d 1 [(35, bv (((makeS ns 60) (3 + 5 * i.toNat)) == 0))] (by kernel_rfl) ?_
      refine o_nil ?_
      refine seq_go ?_
      refine gcond (t := ((makeS ns 60) (3 + 5 * i.toNat)) == 0) rfl (fun h2 => ?_) (fun h2 => ?_)
      · skip
        have h2' : (makeS ns 60) (3 + 5 * i.toNat) = 0 := eqI_t h2
        refine greg ?_
        refine o_d 2 [(10, iv i), (36, iv i)] (by kernel_rfl) ?_
        refine o_nil ?_
        refine seq_go ?_
        refine greg ?_
        refine o_d 1 [(28, iv i)] (by kernel_rfl) ?_
        refine o_s (by refine run_val (v := .int .i64 (IntKind.i64.wrap (i - 1))) (congrArg (Value.int .i64) (w64 (by omega) (by omega))) ?_; kernel_rfl) ?_
        refine o_d 1 [(11, iv (i - 1))] (by kernel_rfl) ?_
        refine o_nil ?_
        refine ⟨((i - 1) + 1).toNat, ?_⟩
        refine ⟨⟨reg [(11, iv (i - 1)), (10, iv i), (9, iv (withinS port 3)), (8, iv (withinS addr 5)), (7, pv 1 0)], [inB o (ii ns), cw (pl (makeS ns 60))]⟩, ?_⟩
        refine and3 (by omega) ⟨?_, ?_⟩
        · exact Wk.ren [0, 1] rfl rfl (by decide) ⟨rfl, ⟨rfl, ⟨rfl, ⟨rfl, ⟨rfl, trivial⟩⟩⟩⟩⟩ ⟨.inl (ren_inB o (ii_scl ns)), ⟨.inl (ren_cells (pl_scl (makeS ns 60))), trivial⟩⟩
        · exact ⟨(i - 1), i, rfl, by omega, (.inr ⟨by omega, by omega, h2'⟩), rfl⟩
      · skip
        have h2' : ¬ ((makeS ns 60) (3 + 5 * i.toNat) = 0) := eqI_f h2
        refine gskip ?_
        refine seq_go ?_
        refine greg ?_
        refine o_d 1 [(28, iv i)] (by kernel_rfl) ?_
        refine o_s (by refine run_val (v := .int .i64 (IntKind.i64.wrap (i - 1))) (congrArg (Value.int .i64) (w64 (by omega) (by omega))) ?_; kernel_rfl) ?_
        refine o_d 1 [(11, iv (i - 1))] (by kernel_rfl) ?_
        refine o_nil ?_
        refine ⟨((i - 1) + 1).toNat, ?_⟩
        refine ⟨⟨reg [(11, iv (i - 1)), (10, iv v), (9, iv (withinS port 3)), (8, iv (withinS addr 5)), (7, pv 1 0)], [inB o (ii ns), cw (pl (makeS ns 60))]⟩, ?_⟩
        refine and3 (by omega) ⟨?_, ?_⟩
        · exact Wk.ren [0, 1] rfl rfl (by decide) ⟨rfl, ⟨rfl, ⟨rfl, ⟨rfl, ⟨rfl, trivial⟩⟩⟩⟩⟩ ⟨.inl (ren_inB o (ii_scl ns)), ⟨.inl (ren_cells (pl_scl (makeS ns 60))), trivial⟩⟩
        · exact ⟨(i - 1), v, rfl, by omega, hv, rfl⟩
    · skip
      have h1' : ¬ (i ≥ 0) := of_decide_eq_false h1
      refine gexit ?_
      refine seq_go ?_
      refine gseq ?_
      refine greg ?_
      refine o_d 1 [(12, bv false)] (by kernel_rfl) ?_
      refine o_nil ?_
      refine seq_go ?_
      refine gseq ?_
      refine gseq ?_
      refine greg ?_
      refine o_d 1 [(13, iv 0)] (by kernel_rfl) ?_
      refine o_nil ?_
      refine seq_go ?_
      refine gblock ?_
      refine gloop (fun μ s => ∃ (i : Nat), ∃ (h : Bool), μ = 64 - i ∧ (i ≤ 64) ∧ (heldTo (makeS ns 60) (withinS addr 5) (withinS port 3) i = h) ∧ s = ⟨reg [(13, iv (i : Int)), (12, bv h), (10, iv v), (9, iv (withinS port 3)), (8, iv (withinS addr 5)), (7, pv 1 0)], [inB o (ii ns), cw (pl (makeS ns 60))]⟩) ⟨(64 - 0), ?_⟩ ?_
      · skip
        refine ⟨⟨reg [(13, iv (0 : Int)), (12, bv false), (10, iv v), (9, iv (withinS port 3)), (8, iv (withinS addr 5)), (7, pv 1 0)], [inB o (ii ns), cw (pl (makeS ns 60))]⟩, ?_⟩
        refine ⟨?_, ?_⟩
        · exact Wk.ren [0, 1] rfl rfl (by decide) ⟨rfl, ⟨rfl, ⟨rfl, ⟨rfl, ⟨rfl, ⟨rfl, trivial⟩⟩⟩⟩⟩⟩ ⟨.inl (ren_inB o (ii_scl ns)), ⟨.inl (ren_cells (pl_scl (makeS ns 60))), trivial⟩⟩
        · exact ⟨0, false, rfl, by omega, rfl, rfl⟩
      · rintro μ s ⟨i, h, rfl, hi, hh, rfl⟩
        refine gseq ?_
        refine gseq ?_
        refine greg ?_
        refine o_d 2 [(38, bv (decide ((i : Int) < 64))), (37, iv (i : Int))] (by kernel_rfl) ?_
        refine o_nil ?_
        refine seq_go ?_
        refine gcond (t := decide ((i : Int) < 64)) rfl (fun h3 => ?_) (fun h3 => ?_)
        · skip
          have h3' : (i : Int) < 64 := of_decide_eq_true h3
          refine gskip ?_
          refine seq_go ?_
          refine gseq ?_
          refine gblock ?_
          refine greg ?_
          refine o_d 2 [(42, bv h), (41, bv h)] (by kernel_rfl) ?_
          refine o_sp (b := h) 42 rfl (fun h4 => ?_) (fun h4 => ?_)
          · skip
            refine o_d 26 [(12, bv true), (67, bv true), (66, undef), (65, undef), (64, undef), (63, undef), (62, undef), (61, undef), (60, undef), (59, undef), (58, undef), (57, undef), (56, undef), (55, undef), (54, undef), (53, undef), (52, undef), (51, undef), (50, undef), (49, undef), (48, undef), (47, undef), (46, undef), (45, undef), (44, undef), (43, undef)] (by kernel_rfl) ?_
            refine o_nil ?_
            refine seq_regs [(12, bv true), (13, iv (i : Int)), (10, iv v), (9, iv (withinS port 3)), (8, iv (withinS addr 5)), (7, pv 1 0)] (by kernel_rfl) ?_
            refine greg ?_
            refine o_d 1 [(39, iv (i : Int))] (by kernel_rfl) ?_
            refine o_s (by refine run_val (v := .int .i64 (IntKind.i64.wrap ((i : Int) + 1))) (congrArg (Value.int .i64) (w64 (by omega) (by omega))) ?_; kernel_rfl) ?_
            refine o_d 1 [(13, iv ((i : Int) + 1))] (by kernel_rfl) ?_
            refine o_nil ?_
            refine ⟨64 - (i + 1), ?_⟩
            refine ⟨⟨reg [(13, iv ((i + 1) : Int)), (12, bv true), (10, iv v), (9, iv (withinS port 3)), (8, iv (withinS addr 5)), (7, pv 1 0)], [inB o (ii ns), cw (pl (makeS ns 60))]⟩, ?_⟩
            refine and3 (by omega) ⟨?_, ?_⟩
            · exact Wk.ren [0, 1] rfl rfl (by decide) ⟨rfl, ⟨rfl, ⟨rfl, ⟨rfl, ⟨rfl, ⟨rfl, trivial⟩⟩⟩⟩⟩⟩ ⟨.inl (ren_inB o (ii_scl ns)), ⟨.inl (ren_cells (pl_scl (makeS ns 60))), trivial⟩⟩
            · exact ⟨(i + 1), true, rfl, by omega, (by simp [heldTo, slotHas, hh, h1, h1', h3, h3', h4] <;> rfl), rfl⟩
          · skip
            refine o_d 2 [(44, pv 1 3), (43, iv (i : Int))] (by kernel_rfl) ?_
            refine o_unguard rfl ?_
            refine o_s (by exact run_iadA (o := 3) (o' := 3 + 5 * i) rfl rfl (by omega) (by omega)) ?_
            refine o_unguard rfl ?_
            refine o_s (by refine run_fad (o' := 3 + 5 * i) rfl (by omega)) ?_
            refine o_unguard rfl ?_
            refine o_s (by refine run_ld (v := iv ((makeS ns 60) (3 + 5 * i))) rfl rfl ?_; exact pl_r (makeS ns 60) (3 + 5 * i) (by omega) (by omega)) ?_
            refine o_d 2 [(49, bv (((makeS ns 60) (3 + 5 * i)) != 0)), (48, bv (((makeS ns 60) (3 + 5 * i)) != 0))] (by kernel_rfl) ?_
            refine o_sp (b := ((makeS ns 60) (3 + 5 * i)) != 0) 49 rfl (fun h5 => ?_) (fun h5 => ?_)
            · skip
              have h5' : (makeS ns 60) (3 + 5 * i) ≠ 0 := neI_t h5
              refine o_d 2 [(51, pv 1 3), (50, iv (i : Int))] (by kernel_rfl) ?_
              refine o_unguard rfl ?_
              refine o_s (by exact run_iadA (o := 3) (o' := 3 + 5 * i) rfl rfl (by omega) (by omega)) ?_
              refine o_unguard rfl ?_
              refine o_s (by refine run_fad (o' := 4 + 5 * i) rfl (by omega)) ?_
              refine o_unguard rfl ?_
              refine o_s (by refine run_ld (v := iv ((makeS ns 60) (3 + 5 * i + 1))) rfl rfl ?_; exact pl_r (makeS ns 60) (3 + 5 * i + 1) (by omega) (by omega)) ?_
              refine o_d 4 [(58, bv (((makeS ns 60) (3 + 5 * i + 1)) == (withinS addr 5))), (57, bv (((makeS ns 60) (3 + 5 * i + 1)) == (withinS addr 5))), (56, bv (((makeS ns 60) (3 + 5 * i + 1)) == (withinS addr 5))), (55, iv (withinS addr 5))] (by kernel_rfl) ?_
              refine o_sp (b := ((makeS ns 60) (3 + 5 * i + 1)) == (withinS addr 5)) 58 rfl (fun h6 => ?_) (fun h6 => ?_)
              · skip
                have h6' : (makeS ns 60) (3 + 5 * i + 1) = withinS addr 5 := eqI_t h6
                refine o_d 2 [(60, pv 1 3), (59, iv (i : Int))] (by kernel_rfl) ?_
                refine o_unguard rfl ?_
                refine o_s (by exact run_iadA (o := 3) (o' := 3 + 5 * i) rfl rfl (by omega) (by omega)) ?_
                refine o_unguard rfl ?_
                refine o_s (by refine run_fad (o' := 5 + 5 * i) rfl (by omega)) ?_
                refine o_unguard rfl ?_
                refine o_s (by refine run_ld (v := iv ((makeS ns 60) (3 + 5 * i + 2))) rfl rfl ?_; exact pl_r (makeS ns 60) (3 + 5 * i + 2) (by omega) (by omega)) ?_
                refine o_d 5 [(12, bv (((makeS ns 60) (3 + 5 * i + 2)) == (withinS port 3))), (67, bv (((makeS ns 60) (3 + 5 * i + 2)) == (withinS port 3))), (66, bv (((makeS ns 60) (3 + 5 * i + 2)) == (withinS port 3))), (65, bv (((makeS ns 60) (3 + 5 * i + 2)) == (withinS port 3))), (64, iv (withinS port 3))] (by kernel_rfl) ?_
                refine o_nil ?_
                refine seq_regs [(12, bv (((makeS ns 60) (3 + 5 * i + 2)) == (withinS port 3))), (13, iv (i : Int)), (10, iv v), (9, iv (withinS port 3)), (8, iv (withinS addr 5)), (7, pv 1 0)] (by kernel_rfl) ?_
                refine greg ?_
                refine o_d 1 [(39, iv (i : Int))] (by kernel_rfl) ?_
                refine o_s (by refine run_val (v := .int .i64 (IntKind.i64.wrap ((i : Int) + 1))) (congrArg (Value.int .i64) (w64 (by omega) (by omega))) ?_; kernel_rfl) ?_
                refine o_d 1 [(13, iv ((i : Int) + 1))] (by kernel_rfl) ?_
                refine o_nil ?_
                refine ⟨64 - (i + 1), ?_⟩
                refine ⟨⟨reg [(13, iv ((i + 1) : Int)), (12, bv (((makeS ns 60) (3 + 5 * i + 2)) == (withinS port 3))), (10, iv v), (9, iv (withinS port 3)), (8, iv (withinS addr 5)), (7, pv 1 0)], [inB o (ii ns), cw (pl (makeS ns 60))]⟩, ?_⟩
                refine and3 (by omega) ⟨?_, ?_⟩
                · exact Wk.ren [0, 1] rfl rfl (by decide) ⟨rfl, ⟨rfl, ⟨rfl, ⟨rfl, ⟨rfl, ⟨rfl, trivial⟩⟩⟩⟩⟩⟩ ⟨.inl (ren_inB o (ii_scl ns)), ⟨.inl (ren_cells (pl_scl (makeS ns 60))), trivial⟩⟩
                · exact ⟨(i + 1), (((makeS ns 60) (3 + 5 * i + 2)) == (withinS port 3)), rfl, by omega, (by simp [heldTo, slotHas, hh, h1, h1', h3, h3', h4, h5, h5', h6, h6'] <;> rfl), rfl⟩
              · skip
                have h6' : ¬ ((makeS ns 60) (3 + 5 * i + 1) = withinS addr 5) := eqI_f h6
                refine o_d 10 [(12, bv false), (67, bv false), (66, bv false), (65, undef), (64, undef), (63, undef), (62, undef), (61, undef), (60, undef), (59, undef)] (by kernel_rfl) ?_
                refine o_nil ?_
                refine seq_regs [(12, bv false), (13, iv (i : Int)), (10, iv v), (9, iv (withinS port 3)), (8, iv (withinS addr 5)), (7, pv 1 0)] (by kernel_rfl) ?_
                refine greg ?_
                refine o_d 1 [(39, iv (i : Int))] (by kernel_rfl) ?_
                refine o_s (by refine run_val (v := .int .i64 (IntKind.i64.wrap ((i : Int) + 1))) (congrArg (Value.int .i64) (w64 (by omega) (by omega))) ?_; kernel_rfl) ?_
                refine o_d 1 [(13, iv ((i : Int) + 1))] (by kernel_rfl) ?_
                refine o_nil ?_
                refine ⟨64 - (i + 1), ?_⟩
                refine ⟨⟨reg [(13, iv ((i + 1) : Int)), (12, bv false), (10, iv v), (9, iv (withinS port 3)), (8, iv (withinS addr 5)), (7, pv 1 0)], [inB o (ii ns), cw (pl (makeS ns 60))]⟩, ?_⟩
                refine and3 (by omega) ⟨?_, ?_⟩
                · exact Wk.ren [0, 1] rfl rfl (by decide) ⟨rfl, ⟨rfl, ⟨rfl, ⟨rfl, ⟨rfl, ⟨rfl, trivial⟩⟩⟩⟩⟩⟩ ⟨.inl (ren_inB o (ii_scl ns)), ⟨.inl (ren_cells (pl_scl (makeS ns 60))), trivial⟩⟩
                · exact ⟨(i + 1), false, rfl, by omega, (by simp [heldTo, slotHas, hh, h1, h1', h3, h3', h4, h5, h5', h6, h6'] <;> rfl), rfl⟩
            · skip
              have h5' : ¬ ((makeS ns 60) (3 + 5 * i) ≠ 0) := neI_f h5
              refine o_d 19 [(12, bv false), (67, bv false), (66, bv false), (65, undef), (64, undef), (63, undef), (62, undef), (61, undef), (60, undef), (59, undef), (58, bv false), (57, bv false), (56, undef), (55, undef), (54, undef), (53, undef), (52, undef), (51, undef), (50, undef)] (by kernel_rfl) ?_
              refine o_nil ?_
              refine seq_regs [(12, bv false), (13, iv (i : Int)), (10, iv v), (9, iv (withinS port 3)), (8, iv (withinS addr 5)), (7, pv 1 0)] (by kernel_rfl) ?_
              refine greg ?_
              refine o_d 1 [(39, iv (i : Int))] (by kernel_rfl) ?_
              refine o_s (by refine run_val (v := .int .i64 (IntKind.i64.wrap ((i : Int) + 1))) (congrArg (Value.int .i64) (w64 (by omega) (by omega))) ?_; kernel_rfl) ?_
              refine o_d 1 [(13, iv ((i : Int) + 1))] (by kernel_rfl) ?_
              refine o_nil ?_
              refine ⟨64 - (i + 1), ?_⟩
              refine ⟨⟨reg [(13, iv ((i + 1) : Int)), (12, bv false), (10, iv v), (9, iv (withinS port 3)), (8, iv (withinS addr 5)), (7, pv 1 0)], [inB o (ii ns), cw (pl (makeS ns 60))]⟩, ?_⟩
              refine and3 (by omega) ⟨?_, ?_⟩
              · exact Wk.ren [0, 1] rfl rfl (by decide) ⟨rfl, ⟨rfl, ⟨rfl, ⟨rfl, ⟨rfl, ⟨rfl, trivial⟩⟩⟩⟩⟩⟩ ⟨.inl (ren_inB o (ii_scl ns)), ⟨.inl (ren_cells (pl_scl (makeS ns 60))), trivial⟩⟩
              · exact ⟨(i + 1), false, rfl, by omega, (by simp [heldTo, slotHas, hh, h1, h1', h3, h3', h4, h5, h5'] <;> rfl), rfl⟩
        · skip
          have h3' : ¬ ((i : Int) < 64) := of_decide_eq_false h3
          refine gexit ?_
          refine seq_go ?_
          refine gseq ?_
          refine gseq ?_
          refine greg ?_
          refine o_d 2 [(69, bv (decide (v < 0))), (68, iv v)] (by kernel_rfl) ?_
          refine o_nil ?_
          refine seq_go ?_
          refine gcond (t := decide (v < 0)) rfl (fun h7 => ?_) (fun h7 => ?_)
          · skip
            have h7' : v < 0 := of_decide_eq_true h7
            refine gseq ?_
            refine greg ?_
            refine o_d 1 [(6, bv true)] (by kernel_rfl) ?_
            refine o_nil ?_
            refine seq_go ?_
            refine gret ?_
            exact fin_ans [bv true] (resV_t rfl rfl) rfl (by rfl) rfl (show List.all [inB o (ii ns)] blkf = true from (all_cons (inB_gone _ (ii_scl ns)) rfl))
          · skip
            have h7' : ¬ (v < 0) := of_decide_eq_false h7
            have hs := hv.resolve_left (by omega)
            have hi64 : i = 64 := by omega
            subst hi64
            obtain ⟨hE1, hE2, hE3⟩ := two_bind I (makeS_place ns 60) ⟨hs.1, hs.2.1⟩ hs.2.2 hx5 hy3
            rw [hh] at hE1 hE2
            refine gskip ?_
            refine seq_go ?_
            refine gseq ?_
            refine greg ?_
            refine o_s (by refine run_ld (v := poolV (makeS ns 60)) rfl rfl ?_; exact pl_all (makeS ns 60)) ?_
            refine o_d 4 [(75, .agg #[iv 1, iv v, iv (withinS addr 5), iv (withinS port 3), iv 1, uv 0, uv 0]), (74, iv (withinS port 3)), (73, iv (withinS addr 5)), (72, iv v)] (by kernel_rfl) ?_
            refine o_cl (callV (ApplyC h_pool_Apply h_pool_may h_pool_held h_pool_fits h_pool_Check h_pool_placed h_cookie_Next (makeS ns 60) (⟨1, v, withinS addr 5, withinS port 3, 1, 0, 0⟩)) rfl (all_cons (poolV_vpf (makeS ns 60)) (all_cons rfl rfl)) (all_cons (poolV_aggf ((applyS (makeS ns 60) (⟨1, v, withinS addr 5, withinS port 3, 1, 0, 0⟩)).1)) (all_cons rfl rfl)) ?_)
            refine o_b 4 [(14, pv 2 0), (78, iv ((applyS (makeS ns 60) (⟨1, v, withinS addr 5, withinS port 3, 1, 0, 0⟩)).2)), (77, poolV ((applyS (makeS ns 60) (⟨1, v, withinS addr 5, withinS port 3, 1, 0, 0⟩)).1)), (70, .tuple #[poolV ((applyS (makeS ns 60) (⟨1, v, withinS addr 5, withinS port 3, 1, 0, 0⟩)).1), iv ((applyS (makeS ns 60) (⟨1, v, withinS addr 5, withinS port 3, 1, 0, 0⟩)).2)])] [inB o (ii ns), cw (pl (makeS ns 60)), cw (pl zeroP)] (by kernel_rfl) ?_
            refine o_s0 (by refine run_st (c' := pl ((applyS (makeS ns 60) (⟨1, v, withinS addr 5, withinS port 3, 1, 0, 0⟩)).1)) rfl rfl rfl ?_ ?_ ?_; exact pl_length _; exact pl_le (by omega); exact splice_pl0 zeroP ((applyS (makeS ns 60) (⟨1, v, withinS addr 5, withinS port 3, 1, 0, 0⟩)).1)) ?_
            refine o_b 1 [(15, iv ((applyS (makeS ns 60) (⟨1, v, withinS addr 5, withinS port 3, 1, 0, 0⟩)).2))] [inB o (ii ns), cw (pl (makeS ns 60)), cw (pl ((applyS (makeS ns 60) (⟨1, v, withinS addr 5, withinS port 3, 1, 0, 0⟩)).1))] (by kernel_rfl) ?_
            refine o_nil ?_
            refine seq_go ?_
            refine gseq ?_
            refine greg ?_
            refine o_s (by refine run_ld (v := poolV (makeS ns 60)) rfl rfl ?_; exact pl_all (makeS ns 60)) ?_
            refine o_d 2 [(82, pv 1 1), (81, iv v)] (by kernel_rfl) ?_
            refine o_s (by refine run_ld (v := iv ((makeS ns 60) 1)) rfl rfl ?_; exact pl_r (makeS ns 60) 1 rfl (by omega)) ?_
            refine o_d 1 [(84, pv 1 2)] (by kernel_rfl) ?_
            refine o_s (by refine run_ld (v := iv ((makeS ns 60) 2)) rfl rfl ?_; exact pl_r (makeS ns 60) 2 rfl (by omega)) ?_
            refine o_d 1 [(86, .agg #[iv 1, iv v, iv ((makeS ns 60) 1), iv ((makeS ns 60) 2), iv 1, uv 0, uv 0])] (by kernel_rfl) ?_
            refine o_cl (callV (ApplyC h_pool_Apply h_pool_may h_pool_held h_pool_fits h_pool_Check h_pool_placed h_cookie_Next (makeS ns 60) (⟨1, v, (makeS ns 60) 1, (makeS ns 60) 2, 1, 0, 0⟩)) rfl (all_cons (poolV_vpf (makeS ns 60)) (all_cons rfl rfl)) (all_cons (poolV_aggf ((applyS (makeS ns 60) (⟨1, v, (makeS ns 60) 1, (makeS ns 60) 2, 1, 0, 0⟩)).1)) (all_cons rfl rfl)) ?_)
            refine o_b 4 [(16, pv 3 0), (89, iv ((applyS (makeS ns 60) (⟨1, v, (makeS ns 60) 1, (makeS ns 60) 2, 1, 0, 0⟩)).2)), (88, poolV ((applyS (makeS ns 60) (⟨1, v, (makeS ns 60) 1, (makeS ns 60) 2, 1, 0, 0⟩)).1)), (79, .tuple #[poolV ((applyS (makeS ns 60) (⟨1, v, (makeS ns 60) 1, (makeS ns 60) 2, 1, 0, 0⟩)).1), iv ((applyS (makeS ns 60) (⟨1, v, (makeS ns 60) 1, (makeS ns 60) 2, 1, 0, 0⟩)).2)])] [inB o (ii ns), cw (pl (makeS ns 60)), cw (pl ((applyS (makeS ns 60) (⟨1, v, withinS addr 5, withinS port 3, 1, 0, 0⟩)).1)), cw (pl zeroP)] (by kernel_rfl) ?_
            refine o_s0 (by refine run_st (c' := pl ((applyS (makeS ns 60) (⟨1, v, (makeS ns 60) 1, (makeS ns 60) 2, 1, 0, 0⟩)).1)) rfl rfl rfl ?_ ?_ ?_; exact pl_length _; exact pl_le (by omega); exact splice_pl0 zeroP ((applyS (makeS ns 60) (⟨1, v, (makeS ns 60) 1, (makeS ns 60) 2, 1, 0, 0⟩)).1)) ?_
            refine o_b 1 [(17, iv ((applyS (makeS ns 60) (⟨1, v, (makeS ns 60) 1, (makeS ns 60) 2, 1, 0, 0⟩)).2))] [inB o (ii ns), cw (pl (makeS ns 60)), cw (pl ((applyS (makeS ns 60) (⟨1, v, withinS addr 5, withinS port 3, 1, 0, 0⟩)).1)), cw (pl ((applyS (makeS ns 60) (⟨1, v, (makeS ns 60) 1, (makeS ns 60) 2, 1, 0, 0⟩)).1))] (by kernel_rfl) ?_
            refine o_nil ?_
            refine seq_regs [(17, iv ((applyS (makeS ns 60) (⟨1, v, (makeS ns 60) 1, (makeS ns 60) 2, 1, 0, 0⟩)).2)), (15, iv ((applyS (makeS ns 60) (⟨1, v, withinS addr 5, withinS port 3, 1, 0, 0⟩)).2)), (14, pv 2 0), (12, bv h), (10, iv v)] (by kernel_rfl) ?_
            refine gseq ?_
            refine greg ?_
            refine o_d 5 [(94, bv ((((applyS (makeS ns 60) (⟨1, v, withinS addr 5, withinS port 3, 1, 0, 0⟩)).2) == 12) == h)), (93, bv ((((applyS (makeS ns 60) (⟨1, v, withinS addr 5, withinS port 3, 1, 0, 0⟩)).2) == 12) == h)), (92, bv h), (91, bv (((applyS (makeS ns 60) (⟨1, v, withinS addr 5, withinS port 3, 1, 0, 0⟩)).2) == 12)), (90, iv ((applyS (makeS ns 60) (⟨1, v, withinS addr 5, withinS port 3, 1, 0, 0⟩)).2))] (by kernel_rfl) ?_
            refine o_sp (b := (((applyS (makeS ns 60) (⟨1, v, withinS addr 5, withinS port 3, 1, 0, 0⟩)).2) == 12) == h) 94 rfl (fun k8 => ?_) (fun q => by rw [(by rw [hE1]; cases h <;> rfl : ((((applyS (makeS ns 60) (⟨1, v, withinS addr 5, withinS port 3, 1, 0, 0⟩)).2) == 12) == h) = true)] at q; cases q)
            refine o_d 2 [(96, bv h), (95, bv h)] (by kernel_rfl) ?_
            refine o_sp (b := h) 96 rfl (fun h9 => ?_) (fun h9 => ?_)
            · skip
              refine o_d 17 [(6, bv (((applyS (makeS ns 60) (⟨1, v, (makeS ns 60) 1, (makeS ns 60) 2, 1, 0, 0⟩)).2) == 12)), (112, bv (((applyS (makeS ns 60) (⟨1, v, (makeS ns 60) 1, (makeS ns 60) 2, 1, 0, 0⟩)).2) == 12)), (111, bv (((applyS (makeS ns 60) (⟨1, v, (makeS ns 60) 1, (makeS ns 60) 2, 1, 0, 0⟩)).2) == 12)), (110, iv ((applyS (makeS ns 60) (⟨1, v, (makeS ns 60) 1, (makeS ns 60) 2, 1, 0, 0⟩)).2)), (109, bv true), (108, bv true), (107, bv true), (106, undef), (105, undef), (104, undef), (103, undef), (102, undef), (101, undef), (100, undef), (99, undef), (98, undef), (97, undef)] (by kernel_rfl) ?_
              refine o_nil ?_
              refine seq_regs [(6, bv (((applyS (makeS ns 60) (⟨1, v, (makeS ns 60) 1, (makeS ns 60) 2, 1, 0, 0⟩)).2) == 12))] (by kernel_rfl) ?_
              refine gret ?_
              have e0 : (((applyS (makeS ns 60) (⟨1, v, (makeS ns 60) 1, (makeS ns 60) 2, 1, 0, 0⟩)).2) == 12) = true := by
                first | (rw [hE3]; rfl) | simp_all
              exact fin_ans [bv (((applyS (makeS ns 60) (⟨1, v, (makeS ns 60) 1, (makeS ns 60) 2, 1, 0, 0⟩)).2) == 12)] (resV_t rfl rfl) rfl (by rw [e0]; rfl) rfl (show List.all [inB o (ii ns)] blkf = true from (all_cons (inB_gone _ (ii_scl ns)) rfl))
            · skip
              refine o_d 3 [(99, bv (((applyS (makeS ns 60) (⟨1, v, withinS addr 5, withinS port 3, 1, 0, 0⟩)).2) == 0)), (98, bv (((applyS (makeS ns 60) (⟨1, v, withinS addr 5, withinS port 3, 1, 0, 0⟩)).2) == 0)), (97, iv ((applyS (makeS ns 60) (⟨1, v, withinS addr 5, withinS port 3, 1, 0, 0⟩)).2))] (by kernel_rfl) ?_
              refine o_sp (b := ((applyS (makeS ns 60) (⟨1, v, withinS addr 5, withinS port 3, 1, 0, 0⟩)).2) == 0) 99 rfl (fun k10 => ?_) (fun q => by rw [(by rw [hE1, h9]; rfl : (((applyS (makeS ns 60) (⟨1, v, withinS addr 5, withinS port 3, 1, 0, 0⟩)).2) == 0) = true)] at q; cases q)
              refine o_d 2 [(101, pv 2 3), (100, iv v)] (by kernel_rfl) ?_
              refine o_unguard rfl ?_
              refine o_s (by exact run_iadA (o := 3) (o' := 3 + 5 * v.toNat) rfl rfl (by omega) (by omega)) ?_
              refine o_unguard rfl ?_
              refine o_s (by refine run_fad (o' := 3 + 5 * v.toNat) rfl (by omega)) ?_
              refine o_unguard rfl ?_
              refine o_s (by refine run_ld (v := iv (((applyS (makeS ns 60) (⟨1, v, withinS addr 5, withinS port 3, 1, 0, 0⟩)).1) (3 + 5 * v.toNat))) rfl rfl ?_; exact pl_r ((applyS (makeS ns 60) (⟨1, v, withinS addr 5, withinS port 3, 1, 0, 0⟩)).1) (3 + 5 * v.toNat) (by omega) (by omega)) ?_
              refine o_d 5 [(109, bv ((((applyS (makeS ns 60) (⟨1, v, withinS addr 5, withinS port 3, 1, 0, 0⟩)).1) (3 + 5 * v.toNat)) == 1)), (108, bv ((((applyS (makeS ns 60) (⟨1, v, withinS addr 5, withinS port 3, 1, 0, 0⟩)).1) (3 + 5 * v.toNat)) == 1)), (107, bv ((((applyS (makeS ns 60) (⟨1, v, withinS addr 5, withinS port 3, 1, 0, 0⟩)).1) (3 + 5 * v.toNat)) == 1)), (106, bv ((((applyS (makeS ns 60) (⟨1, v, withinS addr 5, withinS port 3, 1, 0, 0⟩)).1) (3 + 5 * v.toNat)) == 1)), (105, bv ((((applyS (makeS ns 60) (⟨1, v, withinS addr 5, withinS port 3, 1, 0, 0⟩)).1) (3 + 5 * v.toNat)) == 1))] (by kernel_rfl) ?_
              refine o_sp (b := (((applyS (makeS ns 60) (⟨1, v, withinS addr 5, withinS port 3, 1, 0, 0⟩)).1) (3 + 5 * v.toNat)) == 1) 109 rfl (fun k11 => ?_) (fun q => by rw [(by rw [hE2 h9]; rfl : ((((applyS (makeS ns 60) (⟨1, v, withinS addr 5, withinS port 3, 1, 0, 0⟩)).1) (3 + 5 * v.toNat)) == 1) = true)] at q; cases q)
              refine o_d 4 [(6, bv (((applyS (makeS ns 60) (⟨1, v, (makeS ns 60) 1, (makeS ns 60) 2, 1, 0, 0⟩)).2) == 12)), (112, bv (((applyS (makeS ns 60) (⟨1, v, (makeS ns 60) 1, (makeS ns 60) 2, 1, 0, 0⟩)).2) == 12)), (111, bv (((applyS (makeS ns 60) (⟨1, v, (makeS ns 60) 1, (makeS ns 60) 2, 1, 0, 0⟩)).2) == 12)), (110, iv ((applyS (makeS ns 60) (⟨1, v, (makeS ns 60) 1, (makeS ns 60) 2, 1, 0, 0⟩)).2))] (by kernel_rfl) ?_
              refine o_nil ?_
              refine seq_regs [(6, bv (((applyS (makeS ns 60) (⟨1, v, (makeS ns 60) 1, (makeS ns 60) 2, 1, 0, 0⟩)).2) == 12))] (by kernel_rfl) ?_
              refine gret ?_
              have e0 : (((applyS (makeS ns 60) (⟨1, v, (makeS ns 60) 1, (makeS ns 60) 2, 1, 0, 0⟩)).2) == 12) = true := by
                first | (rw [hE3]; rfl) | simp_all
              exact fin_ans [bv (((applyS (makeS ns 60) (⟨1, v, (makeS ns 60) 1, (makeS ns 60) 2, 1, 0, 0⟩)).2) == 12)] (resV_t rfl rfl) rfl (by rw [e0]; rfl) rfl (show List.all [inB o (ii ns)] blkf = true from (all_cons (inB_gone _ (ii_scl ns)) rfl))
end Go.Rh
