import Derived.Test.YtdkpglcjjadhbaaMe

set_option linter.unusedSimpArgs false
set_option linter.unusedVariables false
set_option maxRecDepth 100000
set_option maxHeartbeats 8000000
namespace Go.Rh
def c_law6_PoolQuiet : IFunc :=
  ⟨87, [.tmp 6], (.seq (.reg [⟨(some 6), .mv (.c (.bool false)), none⟩]) (.seq (.seq (.reg [⟨(some 15), .call "roundhouse/roundhouselaw6.known" [], none⟩, ⟨(some 16), .un .not (.t 15), none⟩]) (.cond (.t 16) (.seq (.reg [⟨(some 6), .mv (.c (.bool false)), none⟩]) .ret) .skip)) (.seq (.reg [⟨(some 17), .mv (.t 0), none⟩, ⟨(some 18), .call "roundhouse/roundhouselaw6.Make" [(.t 17), (.c (.int .i64 40))], none⟩, ⟨(some 7), .new [(324, (.int .i64 0)), (6, (.int .u64 0))], none⟩, ⟨none, .st 330 (.t 7) (.t 18), none⟩]) (.seq (.reg [⟨(some 19), .mv (.t 1), none⟩, ⟨(some 20), .call "roundhouse/roundhouselaw6.within" [(.t 19), (.c (.int .i64 6))], none⟩, ⟨(some 8), .mv (.t 20), none⟩]) (.seq (.seq (.reg [⟨(some 21), .mv (.t 8), none⟩, ⟨(some 22), .fad 3 (.t 7), none⟩, ⟨(some 23), .iadA 64 5 (.t 22) (.t 21), none⟩, ⟨(some 24), .fad 0 (.t 23), none⟩, ⟨(some 25), .ld none (.t 24), none⟩, ⟨(some 26), .bin .neq (.t 25) (.c (.int .i64 1)), none⟩, ⟨(some 27), .mv (.t 26), none⟩, ⟨(some 28), .mv (.t 8), some (27, true)⟩, ⟨(some 29), .fad 3 (.t 7), some (27, true)⟩, ⟨(some 30), .iadA 64 5 (.t 29) (.t 28), some (27, true)⟩, ⟨(some 31), .fad 0 (.t 30), some (27, true)⟩, ⟨(some 32), .ld none (.t 31), some (27, true)⟩, ⟨(some 33), .bin .neq (.t 32) (.c (.int .i64 3)), some (27, true)⟩, ⟨(some 34), .pick (.t 27) (.t 33) (.c (.bool false)), none⟩]) (.cond (.t 34) (.seq (.reg [⟨(some 6), .mv (.c (.bool true)), none⟩]) .ret) .skip)) (.seq (.reg [⟨(some 36), .ld (some 330) (.t 7), none⟩, ⟨(some 37), .mv (.t 8), none⟩, ⟨(some 38), .bld [(5, (.int .i64 0)), (2, (.int .u64 0))] [(0, 1, (.c (.int .i64 4))), (1, 1, (.t 37))], none⟩, ⟨(some 39), .call "roundhouse/pool.Apply" [(.t 36), (.t 38)], none⟩, ⟨(some 35), .mv (.t 39), none⟩, ⟨(some 40), .ext 0 (.t 35), none⟩, ⟨(some 41), .ext 1 (.t 35), none⟩, ⟨(some 9), .new [(324, (.int .i64 0)), (6, (.int .u64 0))], none⟩, ⟨none, .st 330 (.t 9) (.t 40), none⟩, ⟨(some 10), .mv (.t 41), none⟩]) (.seq (.seq (.reg [⟨(some 42), .mv (.t 10), none⟩, ⟨(some 43), .bin .neq (.t 42) (.c (.int .i64 0)), none⟩]) (.cond (.t 43) (.seq (.reg [⟨(some 6), .mv (.c (.bool false)), none⟩]) .ret) .skip)) (.seq (.reg [⟨(some 44), .mv (.t 2), none⟩, ⟨(some 45), .call "roundhouse/roundhouselaw6.within" [(.t 44), (.c (.int .i64 6))], none⟩, ⟨(some 11), .mv (.t 45), none⟩]) (.seq (.seq (.reg [⟨(some 12), .mv (.c (.int .i64 0)), none⟩]) (.block 0 (.loop (.seq (.seq (.reg [⟨(some 46), .mv (.t 12), none⟩, ⟨(some 47), .mv (.t 11), none⟩, ⟨(some 48), .bin .lss (.t 46) (.t 47), none⟩]) (.cond (.t 48) .skip (.exit 0))) (.seq (.block 1 (.seq (.dreg [⟨(some 52), .ld (some 330) (.t 9), none⟩, ⟨(some 53), .mv (.t 12), none⟩, ⟨(some 54), .call "roundhouse/roundhouselaw5.Key" [(.t 53)], none⟩, ⟨(some 55), .bld [(5, (.int .i64 0)), (2, (.int .u64 0))] [(0, 1, (.c (.int .i64 6))), (5, 2, (.t 54))], none⟩, ⟨(some 56), .call "roundhouse/pool.Apply" [(.t 52), (.t 55)], none⟩, ⟨(some 51), .mv (.t 56), none⟩, ⟨(some 57), .ext 0 (.t 51), none⟩, ⟨(some 58), .ext 1 (.t 51), none⟩, ⟨none, .st 330 (.t 9) (.t 57), none⟩, ⟨(some 10), .mv (.t 58), none⟩] [[], [], [1], [2, 1], [0, 3, 2, 1], [4, 0, 3, 2, 1], [5, 4, 0, 3, 2, 1], [5, 4, 0, 3, 2, 1], [6, 5, 4, 0, 3, 2, 1], [7, 5, 4, 0, 3, 2, 1, 8, 6]]) (.seq (.reg [⟨(some 59), .mv (.t 10), none⟩, ⟨(some 60), .bin .neq (.t 59) (.c (.int .i64 0)), none⟩]) (.cond (.t 60) (.seq (.reg [⟨(some 6), .mv (.c (.bool false)), none⟩]) .ret) .skip)))) (.reg [⟨(some 49), .mv (.t 12), none⟩, ⟨(some 50), .bin .add (.t 49) (.c (.int .i64 1)), none⟩, ⟨(some 12), .mv (.t 50), none⟩])))))) (.seq (.reg [⟨(some 62), .ld (some 330) (.t 9), none⟩, ⟨(some 63), .mv (.t 8), none⟩, ⟨(some 64), .bld [(5, (.int .i64 0)), (2, (.int .u64 0))] [(0, 1, (.c (.int .i64 5))), (1, 1, (.t 63))], none⟩, ⟨(some 65), .call "roundhouse/pool.Apply" [(.t 62), (.t 64)], none⟩, ⟨(some 61), .mv (.t 65), none⟩, ⟨(some 66), .ext 0 (.t 61), none⟩, ⟨(some 67), .ext 1 (.t 61), none⟩, ⟨(some 13), .new [(324, (.int .i64 0)), (6, (.int .u64 0))], none⟩, ⟨none, .st 330 (.t 13) (.t 66), none⟩, ⟨(some 14), .mv (.t 67), none⟩]) (.seq (.seq (.reg [⟨(some 68), .mv (.t 11), none⟩, ⟨(some 69), .bin .lss (.t 68) (.c (.int .i64 3)), none⟩]) (.cond (.t 69) (.seq (.reg [⟨(some 70), .mv (.t 14), none⟩, ⟨(some 71), .bin .eql (.t 70) (.c (.int .i64 13)), none⟩, ⟨(some 72), .mv (.t 71), none⟩, ⟨(some 73), .ld (some 330) (.t 13), some (72, true)⟩, ⟨(some 74), .bld [(324, (.int .i64 0)), (6, (.int .u64 0))] [], some (72, true)⟩, ⟨(some 75), .eqa false [(330, .i)] (.t 73) (.t 74), some (72, true)⟩, ⟨(some 76), .pick (.t 72) (.t 75) (.c (.bool false)), none⟩, ⟨(some 6), .mv (.t 76), none⟩]) .ret) .skip)) (.seq (.reg [⟨(some 77), .mv (.t 14), none⟩, ⟨(some 78), .bin .eql (.t 77) (.c (.int .i64 0)), none⟩, ⟨(some 79), .mv (.t 78), none⟩, ⟨(some 80), .mv (.t 8), some (79, true)⟩, ⟨(some 81), .fad 3 (.t 13), some (79, true)⟩, ⟨(some 82), .iadA 64 5 (.t 81) (.t 80), some (79, true)⟩, ⟨(some 83), .ld (some 5) (.t 82), some (79, true)⟩, ⟨(some 84), .bld [(5, (.int .i64 0))] [], some (79, true)⟩, ⟨(some 85), .eqa false [(5, .i)] (.t 83) (.t 84), some (79, true)⟩, ⟨(some 86), .pick (.t 79) (.t 85) (.c (.bool false)), none⟩, ⟨(some 6), .mv (.t 86), none⟩]) .ret))))))))))))⟩
theorem quiet_shut {c : Flat} {s : Int} (hs : 0 ≤ s ∧ s < 6) (h : c (3 + 5 * s.toNat) = 1 ∨ c (3 + 5 * s.toNat) = 3) :
    (applyS c ⟨4, s, 0, 0, 0, 0, 0⟩).2 = 0 ∧ (applyS c ⟨4, s, 0, 0, 0, 0, 0⟩).1 (3 + 5 * s.toNat) = 4 ∧ (applyS c ⟨4, s, 0, 0, 0, 0, 0⟩).1 (3 + 5 * s.toNat + 4) = c 323 ∧ (applyS c ⟨4, s, 0, 0, 0, 0, 0⟩).1 323 = c 323 := by
  have c1 : checkS ⟨4, s, 0, 0, 0, 0, 0⟩ = 0 := by simp [checkS]; omega
  have b1 : badS c ⟨4, s, 0, 0, 0, 0, 0⟩ = false := by rcases h with h | h <;> simp [badS, h]
  have e0 : (applyS c ⟨4, s, 0, 0, 0, 0, 0⟩).2 = 0 := by rw [apply_snd]; simp [errS, c1, fitsS, b1]
  obtain ⟨x0, x1, x2, x3, x4, hd, _, _, g3⟩ := done_set c ⟨4, s, 0, 0, 0, 0, 0⟩ (by simp)
  obtain ⟨z0, _, _, _, z4, _⟩ := g3 (by simp) (by simp)
  refine ⟨e0, ?_, ?_, ?_⟩
  · rw [(apply_ok e0).1, hd, ss0, if_pos rfl]; exact z0
  · rw [(apply_ok e0).1, hd, ss4, if_pos rfl]; exact z4 rfl
  · exact apply_ring e0 (by simp) (by omega)
theorem quiet_rot {d : Flat} {s E : Int} {i : Nat} {a b : Int} (hs : 0 ≤ s ∧ s < 6) (hE : 1 ≤ E ∧ E ≤ 1000) (hi : i < 6) (h : d (3 + 5 * s.toNat) = 4 ∧ d (3 + 5 * s.toNat + 4) = E ∧ d 323 = E + i) :
    (applyS d ⟨6, 0, 0, 0, 0, a, b⟩).1 (3 + 5 * s.toNat) = 4 ∧ (applyS d ⟨6, 0, 0, 0, 0, a, b⟩).1 (3 + 5 * s.toNat + 4) = E ∧ (applyS d ⟨6, 0, 0, 0, 0, a, b⟩).1 323 = E + (i + 1 : Nat) := by
  have e0 : (applyS d ⟨6, 0, 0, 0, 0, a, b⟩).2 = 0 := by rw [apply_rot]
  rw [(apply_ok e0).1, done6 rfl (by omega), done6 rfl (by omega), done6e rfl, h.2.2, w1 (by omega)]
  exact ⟨h.1, h.2.1, by push_cast; omega⟩
theorem quiet_free {d : Flat} {s E : Int} {i : Nat} (hs : 0 ≤ s ∧ s < 6) (h : d (3 + 5 * s.toNat) = 4 ∧ d (3 + 5 * s.toNat + 4) = E ∧ d 323 = E + i) (hE : 1 ≤ E ∧ E ≤ 1000) :
    (applyS d ⟨5, s, 0, 0, 0, 0, 0⟩).2 = (if i < 3 then 13 else 0) ∧ (3 ≤ i → (applyS d ⟨5, s, 0, 0, 0, 0, 0⟩).1 (3 + 5 * s.toNat) = 0 ∧ (applyS d ⟨5, s, 0, 0, 0, 0, 0⟩).1 (3 + 5 * s.toNat + 1) = 0 ∧ (applyS d ⟨5, s, 0, 0, 0, 0, 0⟩).1 (3 + 5 * s.toNat + 2) = 0 ∧ (applyS d ⟨5, s, 0, 0, 0, 0, 0⟩).1 (3 + 5 * s.toNat + 3) = 0 ∧ (applyS d ⟨5, s, 0, 0, 0, 0, 0⟩).1 (3 + 5 * s.toNat + 4) = 0) := by
  have c1 : checkS ⟨5, s, 0, 0, 0, 0, 0⟩ = 0 := by simp [checkS]; omega
  have b1 : badS d ⟨5, s, 0, 0, 0, 0, 0⟩ = false := by simp [badS, h.1]
  have hw : IntKind.i64.wrap (E + 3) = E + 3 := w64 (by omega) (by omega)
  have e1 : (applyS d ⟨5, s, 0, 0, 0, 0, 0⟩).2 = (if i < 3 then 13 else 0) := by
    rw [apply_snd]; simp only [errS, c1, fitsS, b1, h.2.1, h.2.2, hw]
    by_cases q : i < 3
    · rw [if_pos q]; simp; omega
    · rw [if_neg q]; simp; omega
  refine ⟨e1, fun hi => ?_⟩
  have e0 : (applyS d ⟨5, s, 0, 0, 0, 0, 0⟩).2 = 0 := by rw [e1, if_neg (by omega)]
  obtain ⟨x0, x1, x2, x3, x4, hd, _, g5, _⟩ := done_set d ⟨5, s, 0, 0, 0, 0, 0⟩ (by simp)
  obtain ⟨z0, z1, z2, z3, z4⟩ := g5 rfl
  rw [(apply_ok e0).1, hd, ss0, ss1, ss2, ss3, ss4]
  simp only [if_true]
  exact ⟨z0, z1, z2, z3, z4⟩
theorem PoolQuietC {P : Program} (hc : codeOf P "roundhouse/roundhouselaw6.PoolQuiet" = some c_law6_PoolQuiet) (h_law6_known : codeOf P "roundhouse/roundhouselaw6.known" = some c_law6_known) (h_pool_New : codeOf P "roundhouse/pool.New" = some c_pool_New) (h_pool_placed : codeOf P "roundhouse/pool.placed" = some c_pool_placed) (h_cookie_Ring : codeOf P "roundhouse/cookie.Ring" = some c_cookie_Ring) (h_pool_Find : codeOf P "roundhouse/pool.Find" = some c_pool_Find) (h_pool_may : codeOf P "roundhouse/pool.may" = some c_pool_may) (h_pool_All : codeOf P "roundhouse/pool.All" = some c_pool_All) (h_pool_Apply : codeOf P "roundhouse/pool.Apply" = some c_pool_Apply) (h_pool_held : codeOf P "roundhouse/pool.held" = some c_pool_held) (h_pool_fits : codeOf P "roundhouse/pool.fits" = some c_pool_fits) (h_pool_Check : codeOf P "roundhouse/pool.Check" = some c_pool_Check) (h_cookie_Next : codeOf P "roundhouse/cookie.Next" = some c_cookie_Next) (h_pool_Takes : codeOf P "roundhouse/pool.Takes" = some c_pool_Takes) (h_law6_Make : codeOf P "roundhouse/roundhouselaw6.Make" = some c_law6_Make) (h_law5_Key : codeOf P "roundhouse/roundhouselaw5.Key" = some c_law5_Key) (h_ref6_New : codeOf P "roundhouse/roundhouseref6.New" = some c_ref6_New) (h_ref6_out : codeOf P "roundhouse/roundhouseref6.out" = some c_ref6_out) (h_ref5_Ring : codeOf P "roundhouse/roundhouseref5.Ring" = some c_ref5_Ring) (h_law6_Entry : codeOf P "roundhouse/roundhouselaw6.Entry" = some c_law6_Entry) (h_law6_within : codeOf P "roundhouse/roundhouselaw6.within" = some c_law6_within) (h_ref6_Apply : codeOf P "roundhouse/roundhouseref6.Apply" = some c_ref6_Apply) (h_ref6_Check : codeOf P "roundhouse/roundhouseref6.Check" = some c_ref6_Check) (h_ref6_bad : codeOf P "roundhouse/roundhouseref6.bad" = some c_ref6_bad) (h_ref6_Held : codeOf P "roundhouse/roundhouseref6.Held" = some c_ref6_Held) (h_ref5_Next : codeOf P "roundhouse/roundhouseref5.Next" = some c_ref5_Next) (o : Option Nat) (ns : List Int) (hnns : o = none → ns = []) (hl : (ns.length : Int) ≤ 9223372036854775807) (slot turns : Int) :
    Env P "roundhouse/roundhouselaw6.PoolQuiet" [inV o 0 ns.length, iv slot, iv turns] ([inB o (ii ns)]) (Ans (.bool true) ([inB o (ii ns)])) := by
  refine Env.by hc ?_
  unfold c_law6_PoolQuiet
  show GC _ 1 _ _ ⟨reg [(0, inV o 0 ns.length), (1, iv slot), (2, iv turns)], [inB o (ii ns)]⟩
  have I := makeS_inv ns (k := 40) (by omega)
  have hie := I.ep
  have hw := within_lt slot (n := 6) (by decide)
  have hw2 := within_lt turns (n := 6) (by decide)
  refine gseq ?_
  refine greg ?_
  refine o_d 1 [(6, bv false)] (by kernel_rfl) ?_
  refine o_nil ?_
  refine seq_go ?_
  refine gseq ?_
  refine gseq ?_
  refine greg ?_
  refine o_cl (callV (knownC h_law6_known h_pool_New h_pool_placed h_cookie_Ring h_pool_Find h_pool_may h_pool_All h_pool_Apply h_pool_held h_pool_fits h_pool_Check h_cookie_Next h_pool_Takes) rfl rfl rfl ?_)
  refine o_d 1 [(16, bv false)] (by kernel_rfl) ?_
  refine o_nil ?_
  refine seq_go ?_
  refine gfalse rfl ?_
  refine gskip ?_
  refine seq_go ?_
  refine gseq ?_
  refine greg ?_
  refine o_d 1 [(17, inV o 0 ns.length)] (by kernel_rfl) ?_
  refine o_cl (callRO_K (callIn 0 (MakeC h_law6_Make h_law5_Key h_ref6_New h_ref6_out h_ref5_Ring h_law6_Entry h_law6_within h_ref6_Apply h_ref6_Check h_ref6_bad h_ref6_Held h_ref5_Next o ns hnns hl 40 (by omega)) rfl (ii_scl _) rfl rfl (poolV_vpf _) ?_))
  refine o_b 1 [(7, pv 1 0)] [inB o (ii ns), cw (pl zeroP)] (by kernel_rfl) ?_
  refine o_s0 (by refine run_st (c' := pl (makeS ns 40)) rfl rfl rfl ?_ ?_ ?_; exact pl_length _; exact pl_le (by omega); exact splice_pl0 zeroP (makeS ns 40)) ?_
  refine o_nil ?_
  refine seq_go ?_
  refine gseq ?_
  refine greg ?_
  refine o_d 1 [(19, iv slot)] (by kernel_rfl) ?_
  refine o_cl (callV (withinC h_law6_within slot 6 (by decide)) rfl rfl rfl ?_)
  refine o_d 1 [(8, iv (withinS slot 6))] (by kernel_rfl) ?_
  refine o_nil ?_
  refine seq_go ?_
  refine gseq ?_
  refine gseq ?_
  refine greg ?_
  refine o_d 2 [(22, pv 1 3), (21, iv (withinS slot 6))] (by kernel_rfl) ?_
  refine o_s (by exact run_iadA (o := 3) (o' := 3 + 5 * ((withinS slot 6).toNat)) rfl rfl (by omega) (by omega)) ?_
  refine o_s (by refine run_fad (o' := 3 + 5 * ((withinS slot 6).toNat)) rfl (by omega)) ?_
  refine o_s (by refine run_ld (v := iv ((makeS ns 40) (3 + 5 * ((withinS slot 6).toNat)))) rfl rfl ?_; exact pl_r (makeS ns 40) (3 + 5 * ((withinS slot 6).toNat)) (by omega) (by omega)) ?_
  refine o_d 2 [(27, bv (((makeS ns 40) (3 + 5 * ((withinS slot 6).toNat))) != 1)), (26, bv (((makeS ns 40) (3 + 5 * ((withinS slot 6).toNat))) != 1))] (by kernel_rfl) ?_
  refine o_sp (b := ((makeS ns 40) (3 + 5 * ((withinS slot 6).toNat))) != 1) 27 rfl (fun h1 => ?_) (fun h1 => ?_)
  · skip
    have h1' : (makeS ns 40) (3 + 5 * ((withinS slot 6).toNat)) ≠ 1 := neI_t h1
    refine o_d 2 [(29, pv 1 3), (28, iv (withinS slot 6))] (by kernel_rfl) ?_
    refine o_unguard rfl ?_
    refine o_s (by exact run_iadA (o := 3) (o' := 3 + 5 * ((withinS slot 6).toNat)) rfl rfl (by omega) (by omega)) ?_
    refine o_unguard rfl ?_
    refine o_s (by refine run_fad (o' := 3 + 5 * ((withinS slot 6).toNat)) rfl (by omega)) ?_
    refine o_unguard rfl ?_
    refine o_s (by refine run_ld (v := iv ((makeS ns 40) (3 + 5 * ((withinS slot 6).toNat)))) rfl rfl ?_; exact pl_r (makeS ns 40) (3 + 5 * ((withinS slot 6).toNat)) (by omega) (by omega)) ?_
    refine o_d 2 [(34, bv (((makeS ns 40) (3 + 5 * ((withinS slot 6).toNat))) != 3)), (33, bv (((makeS ns 40) (3 + 5 * ((withinS slot 6).toNat))) != 3))] (by kernel_rfl) ?_
    refine o_nil ?_
    refine seq_regs [(34, bv (((makeS ns 40) (3 + 5 * ((withinS slot 6).toNat))) != 3)), (8, iv (withinS slot 6)), (7, pv 1 0), (2, iv turns)] (by kernel_rfl) ?_
    refine gcond (t := ((makeS ns 40) (3 + 5 * ((withinS slot 6).toNat))) != 3) rfl (fun h2 => ?_) (fun h2 => ?_)
    · skip
      have h2' : (makeS ns 40) (3 + 5 * ((withinS slot 6).toNat)) ≠ 3 := neI_t h2
      refine gseq ?_
      refine greg ?_
      refine o_d 1 [(6, bv true)] (by kernel_rfl) ?_
      refine o_nil ?_
      refine seq_go ?_
      refine gret ?_
      exact fin_ans [bv true] (resV_t rfl rfl) rfl (by rfl) rfl (show List.all [inB o (ii ns)] blkf = true from (all_cons (inB_gone _ (ii_scl ns)) rfl))
    · skip
      have h2' : ¬ ((makeS ns 40) (3 + 5 * ((withinS slot 6).toNat)) ≠ 3) := neI_f h2
      have hst : ((makeS ns 40) (3 + 5 * ((withinS slot 6).toNat))) = 1 ∨ ((makeS ns 40) (3 + 5 * ((withinS slot 6).toNat))) = 3 := .inr (by omega)
      refine gskip ?_
      refine seq_go ?_
      refine gseq ?_
      refine greg ?_
      refine o_s (by refine run_ld (v := poolV (makeS ns 40)) rfl rfl ?_; exact pl_all (makeS ns 40)) ?_
      refine o_d 2 [(38, .agg #[iv 4, iv (withinS slot 6), iv 0, iv 0, iv 0, uv 0, uv 0]), (37, iv (withinS slot 6))] (by kernel_rfl) ?_
      refine o_cl (callV (ApplyC h_pool_Apply h_pool_may h_pool_held h_pool_fits h_pool_Check h_pool_placed h_cookie_Next (makeS ns 40) (⟨4, withinS slot 6, 0, 0, 0, 0, 0⟩)) rfl (all_cons (poolV_vpf (makeS ns 40)) (all_cons rfl rfl)) (all_cons (poolV_aggf ((applyS (makeS ns 40) (⟨4, withinS slot 6, 0, 0, 0, 0, 0⟩)).1)) (all_cons rfl rfl)) ?_)
      refine o_b 4 [(9, pv 2 0), (41, iv ((applyS (makeS ns 40) (⟨4, withinS slot 6, 0, 0, 0, 0, 0⟩)).2)), (40, poolV ((applyS (makeS ns 40) (⟨4, withinS slot 6, 0, 0, 0, 0, 0⟩)).1)), (35, .tuple #[poolV ((applyS (makeS ns 40) (⟨4, withinS slot 6, 0, 0, 0, 0, 0⟩)).1), iv ((applyS (makeS ns 40) (⟨4, withinS slot 6, 0, 0, 0, 0, 0⟩)).2)])] [inB o (ii ns), cw (pl (makeS ns 40)), cw (pl zeroP)] (by kernel_rfl) ?_
      refine o_s0 (by refine run_st (c' := pl ((applyS (makeS ns 40) (⟨4, withinS slot 6, 0, 0, 0, 0, 0⟩)).1)) rfl rfl rfl ?_ ?_ ?_; exact pl_length _; exact pl_le (by omega); exact splice_pl0 zeroP ((applyS (makeS ns 40) (⟨4, withinS slot 6, 0, 0, 0, 0, 0⟩)).1)) ?_
      refine o_b 1 [(10, iv ((applyS (makeS ns 40) (⟨4, withinS slot 6, 0, 0, 0, 0, 0⟩)).2))] [inB o (ii ns), cw (pl (makeS ns 40)), cw (pl ((applyS (makeS ns 40) (⟨4, withinS slot 6, 0, 0, 0, 0, 0⟩)).1))] (by kernel_rfl) ?_
      refine o_nil ?_
      refine seq_go ?_
      refine gseq ?_
      refine gseq ?_
      refine greg ?_
      refine o_d 2 [(43, bv (((applyS (makeS ns 40) (⟨4, withinS slot 6, 0, 0, 0, 0, 0⟩)).2) != 0)), (42, iv ((applyS (makeS ns 40) (⟨4, withinS slot 6, 0, 0, 0, 0, 0⟩)).2))] (by kernel_rfl) ?_
      refine o_nil ?_
      refine seq_go ?_
      refine gcond (t := ((applyS (makeS ns 40) (⟨4, withinS slot 6, 0, 0, 0, 0, 0⟩)).2) != 0) rfl (fun q => by rw [(by rw [(quiet_shut hw hst).1]; rfl : (((applyS (makeS ns 40) (⟨4, withinS slot 6, 0, 0, 0, 0, 0⟩)).2) != 0) = false)] at q; cases q) (fun _ => ?_)
      refine gskip ?_
      refine seq_go ?_
      refine gseq ?_
      refine greg ?_
      refine o_d 1 [(44, iv turns)] (by kernel_rfl) ?_
      refine o_cl (callV (withinC h_law6_within turns 6 (by decide)) rfl rfl rfl ?_)
      refine o_d 1 [(11, iv (withinS turns 6))] (by kernel_rfl) ?_
      refine o_nil ?_
      refine seq_go ?_
      refine gseq ?_
      refine gseq ?_
      refine greg ?_
      refine o_d 1 [(12, iv 0)] (by kernel_rfl) ?_
      refine o_nil ?_
      refine seq_go ?_
      refine gblock ?_
      refine gloop (fun μ s => ∃ (i : Nat), ∃ (d : Flat), μ = 6 - i ∧ ((i : Int) ≤ withinS turns 6) ∧ (d (3 + 5 * (withinS slot 6).toNat) = 4 ∧ d (3 + 5 * (withinS slot 6).toNat + 4) = (makeS ns 40) 323 ∧ d 323 = (makeS ns 40) 323 + i) ∧ s = ⟨reg [(12, iv (i : Int)), (11, iv (withinS turns 6)), (9, pv 2 0), (8, iv (withinS slot 6))], [inB o (ii ns), cw (pl (makeS ns 40)), cw (pl d)]⟩) ⟨(6 - 0), ?_⟩ ?_
      · skip
        refine ⟨⟨reg [(12, iv (0 : Int)), (11, iv (withinS turns 6)), (9, pv 2 0), (8, iv (withinS slot 6))], [inB o (ii ns), cw (pl (makeS ns 40)), cw (pl ((applyS (makeS ns 40) ⟨4, withinS slot 6, 0, 0, 0, 0, 0⟩).1))]⟩, ?_⟩
        refine ⟨?_, ?_⟩
        · exact Wk.ren [0, 1, 2] rfl rfl (by decide) ⟨rfl, ⟨rfl, ⟨rfl, ⟨rfl, trivial⟩⟩⟩⟩ ⟨.inl (ren_inB o (ii_scl ns)), ⟨.inl (ren_cells (pl_scl (makeS ns 40))), ⟨.inl (ren_cells (pl_scl ((applyS (makeS ns 40) ⟨4, withinS slot 6, 0, 0, 0, 0, 0⟩).1))), trivial⟩⟩⟩
        · exact ⟨0, ((applyS (makeS ns 40) ⟨4, withinS slot 6, 0, 0, 0, 0, 0⟩).1), rfl, (by omega), (by obtain ⟨_, q1, q2, q3⟩ := quiet_shut hw hst; exact ⟨q1, q2, by rw [q3]; simp⟩), rfl⟩
      · rintro μ s ⟨i, d, rfl, hi, hq, rfl⟩
        refine gseq ?_
        refine gseq ?_
        refine greg ?_
        refine o_d 3 [(48, bv (decide ((i : Int) < withinS turns 6))), (47, iv (withinS turns 6)), (46, iv (i : Int))] (by kernel_rfl) ?_
        refine o_nil ?_
        refine seq_go ?_
        refine gcond (t := decide ((i : Int) < withinS turns 6)) rfl (fun h3 => ?_) (fun h3 => ?_)
        · skip
          have h3' : (i : Int) < withinS turns 6 := of_decide_eq_true h3
          refine gskip ?_
          refine seq_go ?_
          refine gseq ?_
          refine gblock ?_
          refine gseq ?_
          refine gdreg ["roundhouse/roundhouselaw5.Key", "roundhouse/pool.Apply"] (by kernel_rfl) ?_
          refine r_s (by refine run_ld (v := poolV d) rfl rfl ?_; exact pl_all d) ?_
          refine r_d 1 [(53, iv (i : Int))] (by kernel_rfl) ?_
          refine r_cl (callVR (KeyC h_law5_Key (i : Int)) rfl rfl rfl ?_)
          refine r_d 1 [(55, .agg #[iv 6, iv 0, iv 0, iv 0, iv 0, uv (keyA (i : Int)), uv (keyB (i : Int))])] (by kernel_rfl) ?_
          refine r_cl (callVR (ApplyC h_pool_Apply h_pool_may h_pool_held h_pool_fits h_pool_Check h_pool_placed h_cookie_Next d (⟨6, 0, 0, 0, 0, keyA (i : Int), keyB (i : Int)⟩)) rfl (all_cons (poolV_vpf d) (all_cons rfl rfl)) (all_cons (poolV_aggf ((applyS d (⟨6, 0, 0, 0, 0, keyA (i : Int), keyB (i : Int)⟩)).1)) (all_cons rfl rfl)) ?_)
          refine r_d 3 [(58, iv ((applyS d (⟨6, 0, 0, 0, 0, keyA (i : Int), keyB (i : Int)⟩)).2)), (57, poolV ((applyS d (⟨6, 0, 0, 0, 0, keyA (i : Int), keyB (i : Int)⟩)).1)), (51, .tuple #[poolV ((applyS d (⟨6, 0, 0, 0, 0, keyA (i : Int), keyB (i : Int)⟩)).1), iv ((applyS d (⟨6, 0, 0, 0, 0, keyA (i : Int), keyB (i : Int)⟩)).2)])] (by kernel_rfl) ?_
          refine r_s0 (by refine run_st (c' := pl ((applyS d (⟨6, 0, 0, 0, 0, keyA (i : Int), keyB (i : Int)⟩)).1)) rfl rfl rfl ?_ ?_ ?_; exact pl_length _; exact pl_le (by omega); exact splice_pl0 d ((applyS d (⟨6, 0, 0, 0, 0, keyA (i : Int), keyB (i : Int)⟩)).1)) ?_
          refine r_b 1 [(10, iv ((applyS d (⟨6, 0, 0, 0, 0, keyA (i : Int), keyB (i : Int)⟩)).2))] [inB o (ii ns), cw (pl (makeS ns 40)), cw (pl ((applyS d (⟨6, 0, 0, 0, 0, keyA (i : Int), keyB (i : Int)⟩)).1))] (by kernel_rfl) ?_
          refine r_nil ?_
          refine seq_go ?_
          refine gseq ?_
          refine greg ?_
          refine o_d 2 [(60, bv (((applyS d (⟨6, 0, 0, 0, 0, keyA (i : Int), keyB (i : Int)⟩)).2) != 0)), (59, iv ((applyS d (⟨6, 0, 0, 0, 0, keyA (i : Int), keyB (i : Int)⟩)).2))] (by kernel_rfl) ?_
          refine o_nil ?_
          refine seq_go ?_
          refine gcond (t := ((applyS d (⟨6, 0, 0, 0, 0, keyA (i : Int), keyB (i : Int)⟩)).2) != 0) rfl (fun q => by rw [(by rw [apply_rot]; rfl : (((applyS d (⟨6, 0, 0, 0, 0, keyA (i : Int), keyB (i : Int)⟩)).2) != 0) = false)] at q; cases q) (fun _ => ?_)
          refine gskip ?_
          refine seq_go ?_
          refine greg ?_
          refine o_d 1 [(49, iv (i : Int))] (by kernel_rfl) ?_
          refine o_s (by refine run_val (v := .int .i64 (IntKind.i64.wrap ((i : Int) + 1))) (congrArg (Value.int .i64) (w64 (by omega) (by omega))) ?_; kernel_rfl) ?_
          refine o_d 1 [(12, iv ((i : Int) + 1))] (by kernel_rfl) ?_
          refine o_nil ?_
          refine ⟨6 - (i + 1), ?_⟩
          refine ⟨⟨reg [(12, iv ((i + 1) : Int)), (11, iv (withinS turns 6)), (9, pv 2 0), (8, iv (withinS slot 6))], [inB o (ii ns), cw (pl (makeS ns 40)), cw (pl ((applyS d (⟨6, 0, 0, 0, 0, keyA (i : Int), keyB (i : Int)⟩)).1))]⟩, ?_⟩
          refine and3 (by omega) ⟨?_, ?_⟩
          · exact Wk.ren [0, 1, 2] rfl rfl (by decide) ⟨rfl, ⟨rfl, ⟨rfl, ⟨rfl, trivial⟩⟩⟩⟩ ⟨.inl (ren_inB o (ii_scl ns)), ⟨.inl (ren_cells (pl_scl (makeS ns 40))), ⟨.inl (ren_cells (pl_scl ((applyS d (⟨6, 0, 0, 0, 0, keyA (i : Int), keyB (i : Int)⟩)).1))), trivial⟩⟩⟩
          · exact ⟨(i + 1), ((applyS d (⟨6, 0, 0, 0, 0, keyA (i : Int), keyB (i : Int)⟩)).1), rfl, by omega, (quiet_rot hw ⟨by omega, by omega⟩ (by omega) hq), rfl⟩
        · skip
          have h3' : ¬ ((i : Int) < withinS turns 6) := of_decide_eq_false h3
          refine gexit ?_
          refine seq_go ?_
          refine gseq ?_
          refine greg ?_
          refine o_s (by refine run_ld (v := poolV d) rfl rfl ?_; exact pl_all d) ?_
          refine o_d 2 [(64, .agg #[iv 5, iv (withinS slot 6), iv 0, iv 0, iv 0, uv 0, uv 0]), (63, iv (withinS slot 6))] (by kernel_rfl) ?_
          refine o_cl (callV (ApplyC h_pool_Apply h_pool_may h_pool_held h_pool_fits h_pool_Check h_pool_placed h_cookie_Next d (⟨5, withinS slot 6, 0, 0, 0, 0, 0⟩)) rfl (all_cons (poolV_vpf d) (all_cons rfl rfl)) (all_cons (poolV_aggf ((applyS d (⟨5, withinS slot 6, 0, 0, 0, 0, 0⟩)).1)) (all_cons rfl rfl)) ?_)
          refine o_b 4 [(13, pv 3 0), (67, iv ((applyS d (⟨5, withinS slot 6, 0, 0, 0, 0, 0⟩)).2)), (66, poolV ((applyS d (⟨5, withinS slot 6, 0, 0, 0, 0, 0⟩)).1)), (61, .tuple #[poolV ((applyS d (⟨5, withinS slot 6, 0, 0, 0, 0, 0⟩)).1), iv ((applyS d (⟨5, withinS slot 6, 0, 0, 0, 0, 0⟩)).2)])] [inB o (ii ns), cw (pl (makeS ns 40)), cw (pl d), cw (pl zeroP)] (by kernel_rfl) ?_
          refine o_s0 (by refine run_st (c' := pl ((applyS d (⟨5, withinS slot 6, 0, 0, 0, 0, 0⟩)).1)) rfl rfl rfl ?_ ?_ ?_; exact pl_length _; exact pl_le (by omega); exact splice_pl0 zeroP ((applyS d (⟨5, withinS slot 6, 0, 0, 0, 0, 0⟩)).1)) ?_
          refine o_b 1 [(14, iv ((applyS d (⟨5, withinS slot 6, 0, 0, 0, 0, 0⟩)).2))] [inB o (ii ns), cw (pl (makeS ns 40)), cw (pl d), cw (pl ((applyS d (⟨5, withinS slot 6, 0, 0, 0, 0, 0⟩)).1))] (by kernel_rfl) ?_
          refine o_nil ?_
          refine seq_go ?_
          refine gseq ?_
          refine gseq ?_
          refine greg ?_
          refine o_d 2 [(69, bv (decide (withinS turns 6 < 3))), (68, iv (withinS turns 6))] (by kernel_rfl) ?_
          refine o_nil ?_
          refine seq_go ?_
          refine gcond (t := decide (withinS turns 6 < 3)) rfl (fun h4 => ?_) (fun h4 => ?_)
          · skip
            have h4' : withinS turns 6 < 3 := of_decide_eq_true h4
            refine gseq ?_
            refine greg ?_
            refine o_d 3 [(72, bv (((applyS d (⟨5, withinS slot 6, 0, 0, 0, 0, 0⟩)).2) == 13)), (71, bv (((applyS d (⟨5, withinS slot 6, 0, 0, 0, 0, 0⟩)).2) == 13)), (70, iv ((applyS d (⟨5, withinS slot 6, 0, 0, 0, 0, 0⟩)).2))] (by kernel_rfl) ?_
            refine o_sp (b := ((applyS d (⟨5, withinS slot 6, 0, 0, 0, 0, 0⟩)).2) == 13) 72 rfl (fun k5 => ?_) (fun q => by rw [(by rw [(quiet_free hw hq ⟨by omega, by omega⟩).1]; exact decide_eq_true (by rw [if_pos (by omega)]) : (((applyS d (⟨5, withinS slot 6, 0, 0, 0, 0, 0⟩)).2) == 13) = true)] at q; cases q)
            refine o_unguard rfl ?_
            refine o_s (by refine run_ld (v := poolV ((applyS d (⟨5, withinS slot 6, 0, 0, 0, 0, 0⟩)).1)) rfl rfl ?_; exact pl_all ((applyS d (⟨5, withinS slot 6, 0, 0, 0, 0, 0⟩)).1)) ?_
            refine o_unguard rfl ?_
            refine o_s (by refine run_bld (c := pl zeroP) ?_; exact bld_zP) ?_
            refine o_unguard rfl ?_
            refine o_s (by refine run_eqa (a := ⟨pl ((applyS d (⟨5, withinS slot 6, 0, 0, 0, 0, 0⟩)).1)⟩) (b := ⟨pl zeroP⟩) (r := eqP ((applyS d (⟨5, withinS slot 6, 0, 0, 0, 0, 0⟩)).1) zeroP) (R := eqP ((applyS d (⟨5, withinS slot 6, 0, 0, 0, 0, 0⟩)).1) zeroP) ?_ rfl; exact eqP_run ((applyS d (⟨5, withinS slot 6, 0, 0, 0, 0, 0⟩)).1) zeroP rfl rfl) ?_
            refine o_d 2 [(6, bv (eqP ((applyS d (⟨5, withinS slot 6, 0, 0, 0, 0, 0⟩)).1) zeroP)), (76, bv (eqP ((applyS d (⟨5, withinS slot 6, 0, 0, 0, 0, 0⟩)).1) zeroP))] (by kernel_rfl) ?_
            refine o_nil ?_
            refine seq_regs [(6, bv (eqP ((applyS d (⟨5, withinS slot 6, 0, 0, 0, 0, 0⟩)).1) zeroP))] (by kernel_rfl) ?_
            refine gret ?_
            have e0 : (eqP ((applyS d (⟨5, withinS slot 6, 0, 0, 0, 0, 0⟩)).1) zeroP) = true := by
              first | (rw [apply_err (by rw [(quiet_free hw hq ⟨by omega, by omega⟩).1, if_pos (by omega)]; decide)]; exact eqP_self _) | (obtain ⟨_, hz⟩ := quiet_free hw hq ⟨by omega, by omega⟩; obtain ⟨z0, z1, z2, z3, z4⟩ := hz (by omega); rw [z0, z1, z2, z3, z4]; rfl)
            exact fin_ans [bv (eqP ((applyS d (⟨5, withinS slot 6, 0, 0, 0, 0, 0⟩)).1) zeroP)] (resV_t rfl rfl) rfl (by rw [e0]; rfl) rfl (show List.all [inB o (ii ns)] blkf = true from (all_cons (inB_gone _ (ii_scl ns)) rfl))
          · skip
            have h4' : ¬ (withinS turns 6 < 3) := of_decide_eq_false h4
            refine gskip ?_
            refine seq_go ?_
            refine gseq ?_
            refine greg ?_
            refine o_d 3 [(79, bv (((applyS d (⟨5, withinS slot 6, 0, 0, 0, 0, 0⟩)).2) == 0)), (78, bv (((applyS d (⟨5, withinS slot 6, 0, 0, 0, 0, 0⟩)).2) == 0)), (77, iv ((applyS d (⟨5, withinS slot 6, 0, 0, 0, 0, 0⟩)).2))] (by kernel_rfl) ?_
            refine o_sp (b := ((applyS d (⟨5, withinS slot 6, 0, 0, 0, 0, 0⟩)).2) == 0) 79 rfl (fun k6 => ?_) (fun q => by rw [(by rw [(quiet_free hw hq ⟨by omega, by omega⟩).1]; exact decide_eq_true (by rw [if_neg (by omega)]) : (((applyS d (⟨5, withinS slot 6, 0, 0, 0, 0, 0⟩)).2) == 0) = true)] at q; cases q)
            refine o_d 2 [(81, pv 3 3), (80, iv (withinS slot 6))] (by kernel_rfl) ?_
            refine o_unguard rfl ?_
            refine o_s (by exact run_iadA (o := 3) (o' := 3 + 5 * ((withinS slot 6).toNat)) rfl rfl (by omega) (by omega)) ?_
            refine o_unguard rfl ?_
            refine o_s (by refine run_ld (v := .agg #[iv (((applyS d (⟨5, withinS slot 6, 0, 0, 0, 0, 0⟩)).1) (3 + 5 * ((withinS slot 6).toNat))), iv (((applyS d (⟨5, withinS slot 6, 0, 0, 0, 0, 0⟩)).1) (3 + 5 * ((withinS slot 6).toNat) + 1)), iv (((applyS d (⟨5, withinS slot 6, 0, 0, 0, 0, 0⟩)).1) (3 + 5 * ((withinS slot 6).toNat) + 2)), iv (((applyS d (⟨5, withinS slot 6, 0, 0, 0, 0, 0⟩)).1) (3 + 5 * ((withinS slot 6).toNat) + 3)), iv (((applyS d (⟨5, withinS slot 6, 0, 0, 0, 0, 0⟩)).1) (3 + 5 * ((withinS slot 6).toNat) + 4))]) rfl rfl ?_; exact pl_rS ((applyS d (⟨5, withinS slot 6, 0, 0, 0, 0, 0⟩)).1) ((withinS slot 6).toNat) (by omega) (by omega)) ?_
            refine o_d 4 [(6, bv (((((applyS d (⟨5, withinS slot 6, 0, 0, 0, 0, 0⟩)).1) (3 + 5 * ((withinS slot 6).toNat))) == 0) && (((((applyS d (⟨5, withinS slot 6, 0, 0, 0, 0, 0⟩)).1) (3 + 5 * ((withinS slot 6).toNat) + 1)) == 0) && (((((applyS d (⟨5, withinS slot 6, 0, 0, 0, 0, 0⟩)).1) (3 + 5 * ((withinS slot 6).toNat) + 2)) == 0) && (((((applyS d (⟨5, withinS slot 6, 0, 0, 0, 0, 0⟩)).1) (3 + 5 * ((withinS slot 6).toNat) + 3)) == 0) && (((((applyS d (⟨5, withinS slot 6, 0, 0, 0, 0, 0⟩)).1) (3 + 5 * ((withinS slot 6).toNat) + 4)) == 0) && true)))))), (86, bv (((((applyS d (⟨5, withinS slot 6, 0, 0, 0, 0, 0⟩)).1) (3 + 5 * ((withinS slot 6).toNat))) == 0) && (((((applyS d (⟨5, withinS slot 6, 0, 0, 0, 0, 0⟩)).1) (3 + 5 * ((withinS slot 6).toNat) + 1)) == 0) && (((((applyS d (⟨5, withinS slot 6, 0, 0, 0, 0, 0⟩)).1) (3 + 5 * ((withinS slot 6).toNat) + 2)) == 0) && (((((applyS d (⟨5, withinS slot 6, 0, 0, 0, 0, 0⟩)).1) (3 + 5 * ((withinS slot 6).toNat) + 3)) == 0) && (((((applyS d (⟨5, withinS slot 6, 0, 0, 0, 0, 0⟩)).1) (3 + 5 * ((withinS slot 6).toNat) + 4)) == 0) && true)))))), (85, bv (((((applyS d (⟨5, withinS slot 6, 0, 0, 0, 0, 0⟩)).1) (3 + 5 * ((withinS slot 6).toNat))) == 0) && (((((applyS d (⟨5, withinS slot 6, 0, 0, 0, 0, 0⟩)).1) (3 + 5 * ((withinS slot 6).toNat) + 1)) == 0) && (((((applyS d (⟨5, withinS slot 6, 0, 0, 0, 0, 0⟩)).1) (3 + 5 * ((withinS slot 6).toNat) + 2)) == 0) && (((((applyS d (⟨5, withinS slot 6, 0, 0, 0, 0, 0⟩)).1) (3 + 5 * ((withinS slot 6).toNat) + 3)) == 0) && (((((applyS d (⟨5, withinS slot 6, 0, 0, 0, 0, 0⟩)).1) (3 + 5 * ((withinS slot 6).toNat) + 4)) == 0) && true)))))), (84, .agg #[iv 0, iv 0, iv 0, iv 0, iv 0])] (by kernel_rfl) ?_
            refine o_nil ?_
            refine seq_regs [(6, bv (((((applyS d (⟨5, withinS slot 6, 0, 0, 0, 0, 0⟩)).1) (3 + 5 * ((withinS slot 6).toNat))) == 0) && (((((applyS d (⟨5, withinS slot 6, 0, 0, 0, 0, 0⟩)).1) (3 + 5 * ((withinS slot 6).toNat) + 1)) == 0) && (((((applyS d (⟨5, withinS slot 6, 0, 0, 0, 0, 0⟩)).1) (3 + 5 * ((withinS slot 6).toNat) + 2)) == 0) && (((((applyS d (⟨5, withinS slot 6, 0, 0, 0, 0, 0⟩)).1) (3 + 5 * ((withinS slot 6).toNat) + 3)) == 0) && (((((applyS d (⟨5, withinS slot 6, 0, 0, 0, 0, 0⟩)).1) (3 + 5 * ((withinS slot 6).toNat) + 4)) == 0) && true))))))] (by kernel_rfl) ?_
            refine gret ?_
            have e0 : (((((applyS d (⟨5, withinS slot 6, 0, 0, 0, 0, 0⟩)).1) (3 + 5 * ((withinS slot 6).toNat))) == 0) && (((((applyS d (⟨5, withinS slot 6, 0, 0, 0, 0, 0⟩)).1) (3 + 5 * ((withinS slot 6).toNat) + 1)) == 0) && (((((applyS d (⟨5, withinS slot 6, 0, 0, 0, 0, 0⟩)).1) (3 + 5 * ((withinS slot 6).toNat) + 2)) == 0) && (((((applyS d (⟨5, withinS slot 6, 0, 0, 0, 0, 0⟩)).1) (3 + 5 * ((withinS slot 6).toNat) + 3)) == 0) && (((((applyS d (⟨5, withinS slot 6, 0, 0, 0, 0, 0⟩)).1) (3 + 5 * ((withinS slot 6).toNat) + 4)) == 0) && true))))) = true := by
              first | (rw [apply_err (by rw [(quiet_free hw hq ⟨by omega, by omega⟩).1, if_pos (by omega)]; decide)]; exact eqP_self _) | (obtain ⟨_, hz⟩ := quiet_free hw hq ⟨by omega, by omega⟩; obtain ⟨z0, z1, z2, z3, z4⟩ := hz (by omega); rw [z0, z1, z2, z3, z4]; rfl)
            exact fin_ans [bv (((((applyS d (⟨5, withinS slot 6, 0, 0, 0, 0, 0⟩)).1) (3 + 5 * ((withinS slot 6).toNat))) == 0) && (((((applyS d (⟨5, withinS slot 6, 0, 0, 0, 0, 0⟩)).1) (3 + 5 * ((withinS slot 6).toNat) + 1)) == 0) && (((((applyS d (⟨5, withinS slot 6, 0, 0, 0, 0, 0⟩)).1) (3 + 5 * ((withinS slot 6).toNat) + 2)) == 0) && (((((applyS d (⟨5, withinS slot 6, 0, 0, 0, 0, 0⟩)).1) (3 + 5 * ((withinS slot 6).toNat) + 3)) == 0) && (((((applyS d (⟨5, withinS slot 6, 0, 0, 0, 0, 0⟩)).1) (3 + 5 * ((withinS slot 6).toNat) + 4)) == 0) && true)))))] (resV_t rfl rfl) rfl (by rw [e0]; rfl) rfl (show List.all [inB o (ii ns)] blkf = true from (all_cons (inB_gone _ (ii_scl ns)) rfl))
  · skip
    have h1' : ¬ ((makeS ns 40) (3 + 5 * ((withinS slot 6).toNat)) ≠ 1) := neI_f h1
    have hst : ((makeS ns 40) (3 + 5 * ((withinS slot 6).toNat))) = 1 ∨ ((makeS ns 40) (3 + 5 * ((withinS slot 6).toNat))) = 3 := .inl (by omega)
    refine o_d 7 [(34, bv false), (33, undef), (32, undef), (31, undef), (30, undef), (29, undef), (28, undef)] (by kernel_rfl) ?_
    refine o_nil ?_
    refine seq_regs [(34, bv false), (8, iv (withinS slot 6)), (7, pv 1 0), (2, iv turns)] (by kernel_rfl) ?_
    refine gfalse rfl ?_
    refine gskip ?_
    refine seq_go ?_
    refine gseq ?_
    refine greg ?_
    refine o_s (by refine run_ld (v := poolV (makeS ns 40)) rfl rfl ?_; exact pl_all (makeS ns 40)) ?_
    refine o_d 2 [(38, .agg #[iv 4, iv (withinS slot 6), iv 0, iv 0, iv 0, uv 0, uv 0]), (37, iv (withinS slot 6))] (by kernel_rfl) ?_
    refine o_cl (callV (ApplyC h_pool_Apply h_pool_may h_pool_held h_pool_fits h_pool_Check h_pool_placed h_cookie_Next (makeS ns 40) (⟨4, withinS slot 6, 0, 0, 0, 0, 0⟩)) rfl (all_cons (poolV_vpf (makeS ns 40)) (all_cons rfl rfl)) (all_cons (poolV_aggf ((applyS (makeS ns 40) (⟨4, withinS slot 6, 0, 0, 0, 0, 0⟩)).1)) (all_cons rfl rfl)) ?_)
    refine o_b 4 [(9, pv 2 0), (41, iv ((applyS (makeS ns 40) (⟨4, withinS slot 6, 0, 0, 0, 0, 0⟩)).2)), (40, poolV ((applyS (makeS ns 40) (⟨4, withinS slot 6, 0, 0, 0, 0, 0⟩)).1)), (35, .tuple #[poolV ((applyS (makeS ns 40) (⟨4, withinS slot 6, 0, 0, 0, 0, 0⟩)).1), iv ((applyS (makeS ns 40) (⟨4, withinS slot 6, 0, 0, 0, 0, 0⟩)).2)])] [inB o (ii ns), cw (pl (makeS ns 40)), cw (pl zeroP)] (by kernel_rfl) ?_
    refine o_s0 (by refine run_st (c' := pl ((applyS (makeS ns 40) (⟨4, withinS slot 6, 0, 0, 0, 0, 0⟩)).1)) rfl rfl rfl ?_ ?_ ?_; exact pl_length _; exact pl_le (by omega); exact splice_pl0 zeroP ((applyS (makeS ns 40) (⟨4, withinS slot 6, 0, 0, 0, 0, 0⟩)).1)) ?_
    refine o_b 1 [(10, iv ((applyS (makeS ns 40) (⟨4, withinS slot 6, 0, 0, 0, 0, 0⟩)).2))] [inB o (ii ns), cw (pl (makeS ns 40)), cw (pl ((applyS (makeS ns 40) (⟨4, withinS slot 6, 0, 0, 0, 0, 0⟩)).1))] (by kernel_rfl) ?_
    refine o_nil ?_
    refine seq_go ?_
    refine gseq ?_
    refine gseq ?_
    refine greg ?_
    refine o_d 2 [(43, bv (((applyS (makeS ns 40) (⟨4, withinS slot 6, 0, 0, 0, 0, 0⟩)).2) != 0)), (42, iv ((applyS (makeS ns 40) (⟨4, withinS slot 6, 0, 0, 0, 0, 0⟩)).2))] (by kernel_rfl) ?_
    refine o_nil ?_
    refine seq_go ?_
    refine gcond (t := ((applyS (makeS ns 40) (⟨4, withinS slot 6, 0, 0, 0, 0, 0⟩)).2) != 0) rfl (fun q => by rw [(by rw [(quiet_shut hw hst).1]; rfl : (((applyS (makeS ns 40) (⟨4, withinS slot 6, 0, 0, 0, 0, 0⟩)).2) != 0) = false)] at q; cases q) (fun _ => ?_)
    refine gskip ?_
    refine seq_go ?_
    refine gseq ?_
    refine greg ?_
    refine o_d 1 [(44, iv turns)] (by kernel_rfl) ?_
    refine o_cl (callV (withinC h_law6_within turns 6 (by decide)) rfl rfl rfl ?_)
    refine o_d 1 [(11, iv (withinS turns 6))] (by kernel_rfl) ?_
    refine o_nil ?_
    refine seq_go ?_
    refine gseq ?_
    refine gseq ?_
    refine greg ?_
    refine o_d 1 [(12, iv 0)] (by kernel_rfl) ?_
    refine o_nil ?_
    refine seq_go ?_
    refine gblock ?_
    refine gloop (fun μ s => ∃ (i : Nat), ∃ (d : Flat), μ = 6 - i ∧ ((i : Int) ≤ withinS turns 6) ∧ (d (3 + 5 * (withinS slot 6).toNat) = 4 ∧ d (3 + 5 * (withinS slot 6).toNat + 4) = (makeS ns 40) 323 ∧ d 323 = (makeS ns 40) 323 + i) ∧ s = ⟨reg [(12, iv (i : Int)), (11, iv (withinS turns 6)), (9, pv 2 0), (8, iv (withinS slot 6))], [inB o (ii ns), cw (pl (makeS ns 40)), cw (pl d)]⟩) ⟨(6 - 0), ?_⟩ ?_
    · skip
      refine ⟨⟨reg [(12, iv (0 : Int)), (11, iv (withinS turns 6)), (9, pv 2 0), (8, iv (withinS slot 6))], [inB o (ii ns), cw (pl (makeS ns 40)), cw (pl ((applyS (makeS ns 40) ⟨4, withinS slot 6, 0, 0, 0, 0, 0⟩).1))]⟩, ?_⟩
      refine ⟨?_, ?_⟩
      · exact Wk.ren [0, 1, 2] rfl rfl (by decide) ⟨rfl, ⟨rfl, ⟨rfl, ⟨rfl, trivial⟩⟩⟩⟩ ⟨.inl (ren_inB o (ii_scl ns)), ⟨.inl (ren_cells (pl_scl (makeS ns 40))), ⟨.inl (ren_cells (pl_scl ((applyS (makeS ns 40) ⟨4, withinS slot 6, 0, 0, 0, 0, 0⟩).1))), trivial⟩⟩⟩
      · exact ⟨0, ((applyS (makeS ns 40) ⟨4, withinS slot 6, 0, 0, 0, 0, 0⟩).1), rfl, (by omega), (by obtain ⟨_, q1, q2, q3⟩ := quiet_shut hw hst; exact ⟨q1, q2, by rw [q3]; simp⟩), rfl⟩
    · rintro μ s ⟨i, d, rfl, hi, hq, rfl⟩
      refine gseq ?_
      refine gseq ?_
      refine greg ?_
      refine o_d 3 [(48, bv (decide ((i : Int) < withinS turns 6))), (47, iv (withinS turns 6)), (46, iv (i : Int))] (by kernel_rfl) ?_
      refine o_nil ?_
      refine seq_go ?_
      refine gcond (t := decide ((i : Int) < withinS turns 6)) rfl (fun h7 => ?_) (fun h7 => ?_)
      · skip
        have h7' : (i : Int) < withinS turns 6 := of_decide_eq_true h7
        refine gskip ?_
        refine seq_go ?_
        refine gseq ?_
        refine gblock ?_
        refine gseq ?_
        refine gdreg ["roundhouse/roundhouselaw5.Key", "roundhouse/pool.Apply"] (by kernel_rfl) ?_
        refine r_s (by refine run_ld (v := poolV d) rfl rfl ?_; exact pl_all d) ?_
        refine r_d 1 [(53, iv (i : Int))] (by kernel_rfl) ?_
        refine r_cl (callVR (KeyC h_law5_Key (i : Int)) rfl rfl rfl ?_)
        refine r_d 1 [(55, .agg #[iv 6, iv 0, iv 0, iv 0, iv 0, uv (keyA (i : Int)), uv (keyB (i : Int))])] (by kernel_rfl) ?_
        refine r_cl (callVR (ApplyC h_pool_Apply h_pool_may h_pool_held h_pool_fits h_pool_Check h_pool_placed h_cookie_Next d (⟨6, 0, 0, 0, 0, keyA (i : Int), keyB (i : Int)⟩)) rfl (all_cons (poolV_vpf d) (all_cons rfl rfl)) (all_cons (poolV_aggf ((applyS d (⟨6, 0, 0, 0, 0, keyA (i : Int), keyB (i : Int)⟩)).1)) (all_cons rfl rfl)) ?_)
        refine r_d 3 [(58, iv ((applyS d (⟨6, 0, 0, 0, 0, keyA (i : Int), keyB (i : Int)⟩)).2)), (57, poolV ((applyS d (⟨6, 0, 0, 0, 0, keyA (i : Int), keyB (i : Int)⟩)).1)), (51, .tuple #[poolV ((applyS d (⟨6, 0, 0, 0, 0, keyA (i : Int), keyB (i : Int)⟩)).1), iv ((applyS d (⟨6, 0, 0, 0, 0, keyA (i : Int), keyB (i : Int)⟩)).2)])] (by kernel_rfl) ?_
        refine r_s0 (by refine run_st (c' := pl ((applyS d (⟨6, 0, 0, 0, 0, keyA (i : Int), keyB (i : Int)⟩)).1)) rfl rfl rfl ?_ ?_ ?_; exact pl_length _; exact pl_le (by omega); exact splice_pl0 d ((applyS d (⟨6, 0, 0, 0, 0, keyA (i : Int), keyB (i : Int)⟩)).1)) ?_
        refine r_b 1 [(10, iv ((applyS d (⟨6, 0, 0, 0, 0, keyA (i : Int), keyB (i : Int)⟩)).2))] [inB o (ii ns), cw (pl (makeS ns 40)), cw (pl ((applyS d (⟨6, 0, 0, 0, 0, keyA (i : Int), keyB (i : Int)⟩)).1))] (by kernel_rfl) ?_
        refine r_nil ?_
        refine seq_go ?_
        refine gseq ?_
        refine greg ?_
        refine o_d 2 [(60, bv (((applyS d (⟨6, 0, 0, 0, 0, keyA (i : Int), keyB (i : Int)⟩)).2) != 0)), (59, iv ((applyS d (⟨6, 0, 0, 0, 0, keyA (i : Int), keyB (i : Int)⟩)).2))] (by kernel_rfl) ?_
        refine o_nil ?_
        refine seq_go ?_
        refine gcond (t := ((applyS d (⟨6, 0, 0, 0, 0, keyA (i : Int), keyB (i : Int)⟩)).2) != 0) rfl (fun q => by rw [(by rw [apply_rot]; rfl : (((applyS d (⟨6, 0, 0, 0, 0, keyA (i : Int), keyB (i : Int)⟩)).2) != 0) = false)] at q; cases q) (fun _ => ?_)
        refine gskip ?_
        refine seq_go ?_
        refine greg ?_
        refine o_d 1 [(49, iv (i : Int))] (by kernel_rfl) ?_
        refine o_s (by refine run_val (v := .int .i64 (IntKind.i64.wrap ((i : Int) + 1))) (congrArg (Value.int .i64) (w64 (by omega) (by omega))) ?_; kernel_rfl) ?_
        refine o_d 1 [(12, iv ((i : Int) + 1))] (by kernel_rfl) ?_
        refine o_nil ?_
        refine ⟨6 - (i + 1), ?_⟩
        refine ⟨⟨reg [(12, iv ((i + 1) : Int)), (11, iv (withinS turns 6)), (9, pv 2 0), (8, iv (withinS slot 6))], [inB o (ii ns), cw (pl (makeS ns 40)), cw (pl ((applyS d (⟨6, 0, 0, 0, 0, keyA (i : Int), keyB (i : Int)⟩)).1))]⟩, ?_⟩
        refine and3 (by omega) ⟨?_, ?_⟩
        · exact Wk.ren [0, 1, 2] rfl rfl (by decide) ⟨rfl, ⟨rfl, ⟨rfl, ⟨rfl, trivial⟩⟩⟩⟩ ⟨.inl (ren_inB o (ii_scl ns)), ⟨.inl (ren_cells (pl_scl (makeS ns 40))), ⟨.inl (ren_cells (pl_scl ((applyS d (⟨6, 0, 0, 0, 0, keyA (i : Int), keyB (i : Int)⟩)).1))), trivial⟩⟩⟩
        · exact ⟨(i + 1), ((applyS d (⟨6, 0, 0, 0, 0, keyA (i : Int), keyB (i : Int)⟩)).1), rfl, by omega, (quiet_rot hw ⟨by omega, by omega⟩ (by omega) hq), rfl⟩
      · skip
        have h7' : ¬ ((i : Int) < withinS turns 6) := of_decide_eq_false h7
        refine gexit ?_
        refine seq_go ?_
        refine gseq ?_
        refine greg ?_
        refine o_s (by refine run_ld (v := poolV d) rfl rfl ?_; exact pl_all d) ?_
        refine o_d 2 [(64, .agg #[iv 5, iv (withinS slot 6), iv 0, iv 0, iv 0, uv 0, uv 0]), (63, iv (withinS slot 6))] (by kernel_rfl) ?_
        refine o_cl (callV (ApplyC h_pool_Apply h_pool_may h_pool_held h_pool_fits h_pool_Check h_pool_placed h_cookie_Next d (⟨5, withinS slot 6, 0, 0, 0, 0, 0⟩)) rfl (all_cons (poolV_vpf d) (all_cons rfl rfl)) (all_cons (poolV_aggf ((applyS d (⟨5, withinS slot 6, 0, 0, 0, 0, 0⟩)).1)) (all_cons rfl rfl)) ?_)
        refine o_b 4 [(13, pv 3 0), (67, iv ((applyS d (⟨5, withinS slot 6, 0, 0, 0, 0, 0⟩)).2)), (66, poolV ((applyS d (⟨5, withinS slot 6, 0, 0, 0, 0, 0⟩)).1)), (61, .tuple #[poolV ((applyS d (⟨5, withinS slot 6, 0, 0, 0, 0, 0⟩)).1), iv ((applyS d (⟨5, withinS slot 6, 0, 0, 0, 0, 0⟩)).2)])] [inB o (ii ns), cw (pl (makeS ns 40)), cw (pl d), cw (pl zeroP)] (by kernel_rfl) ?_
        refine o_s0 (by refine run_st (c' := pl ((applyS d (⟨5, withinS slot 6, 0, 0, 0, 0, 0⟩)).1)) rfl rfl rfl ?_ ?_ ?_; exact pl_length _; exact pl_le (by omega); exact splice_pl0 zeroP ((applyS d (⟨5, withinS slot 6, 0, 0, 0, 0, 0⟩)).1)) ?_
        refine o_b 1 [(14, iv ((applyS d (⟨5, withinS slot 6, 0, 0, 0, 0, 0⟩)).2))] [inB o (ii ns), cw (pl (makeS ns 40)), cw (pl d), cw (pl ((applyS d (⟨5, withinS slot 6, 0, 0, 0, 0, 0⟩)).1))] (by kernel_rfl) ?_
        refine o_nil ?_
        refine seq_go ?_
        refine gseq ?_
        refine gseq ?_
        refine greg ?_
        refine o_d 2 [(69, bv (decide (withinS turns 6 < 3))), (68, iv (withinS turns 6))] (by kernel_rfl) ?_
        refine o_nil ?_
        refine seq_go ?_
        refine gcond (t := decide (withinS turns 6 < 3)) rfl (fun h8 => ?_) (fun h8 => ?_)
        · skip
          have h8' : withinS turns 6 < 3 := of_decide_eq_true h8
          refine gseq ?_
          refine greg ?_
          refine o_d 3 [(72, bv (((applyS d (⟨5, withinS slot 6, 0, 0, 0, 0, 0⟩)).2) == 13)), (71, bv (((applyS d (⟨5, withinS slot 6, 0, 0, 0, 0, 0⟩)).2) == 13)), (70, iv ((applyS d (⟨5, withinS slot 6, 0, 0, 0, 0, 0⟩)).2))] (by kernel_rfl) ?_
          refine o_sp (b := ((applyS d (⟨5, withinS slot 6, 0, 0, 0, 0, 0⟩)).2) == 13) 72 rfl (fun k9 => ?_) (fun q => by rw [(by rw [(quiet_free hw hq ⟨by omega, by omega⟩).1]; exact decide_eq_true (by rw [if_pos (by omega)]) : (((applyS d (⟨5, withinS slot 6, 0, 0, 0, 0, 0⟩)).2) == 13) = true)] at q; cases q)
          refine o_unguard rfl ?_
          refine o_s (by refine run_ld (v := poolV ((applyS d (⟨5, withinS slot 6, 0, 0, 0, 0, 0⟩)).1)) rfl rfl ?_; exact pl_all ((applyS d (⟨5, withinS slot 6, 0, 0, 0, 0, 0⟩)).1)) ?_
          refine o_unguard rfl ?_
          refine o_s (by refine run_bld (c := pl zeroP) ?_; exact bld_zP) ?_
          refine o_unguard rfl ?_
          refine o_s (by refine run_eqa (a := ⟨pl ((applyS d (⟨5, withinS slot 6, 0, 0, 0, 0, 0⟩)).1)⟩) (b := ⟨pl zeroP⟩) (r := eqP ((applyS d (⟨5, withinS slot 6, 0, 0, 0, 0, 0⟩)).1) zeroP) (R := eqP ((applyS d (⟨5, withinS slot 6, 0, 0, 0, 0, 0⟩)).1) zeroP) ?_ rfl; exact eqP_run ((applyS d (⟨5, withinS slot 6, 0, 0, 0, 0, 0⟩)).1) zeroP rfl rfl) ?_
          refine o_d 2 [(6, bv (eqP ((applyS d (⟨5, withinS slot 6, 0, 0, 0, 0, 0⟩)).1) zeroP)), (76, bv (eqP ((applyS d (⟨5, withinS slot 6, 0, 0, 0, 0, 0⟩)).1) zeroP))] (by kernel_rfl) ?_
          refine o_nil ?_
          refine seq_regs [(6, bv (eqP ((applyS d (⟨5, withinS slot 6, 0, 0, 0, 0, 0⟩)).1) zeroP))] (by kernel_rfl) ?_
          refine gret ?_
          have e0 : (eqP ((applyS d (⟨5, withinS slot 6, 0, 0, 0, 0, 0⟩)).1) zeroP) = true := by
            first | (rw [apply_err (by rw [(quiet_free hw hq ⟨by omega, by omega⟩).1, if_pos (by omega)]; decide)]; exact eqP_self _) | (obtain ⟨_, hz⟩ := quiet_free hw hq ⟨by omega, by omega⟩; obtain ⟨z0, z1, z2, z3, z4⟩ := hz (by omega); rw [z0, z1, z2, z3, z4]; rfl)
          exact fin_ans [bv (eqP ((applyS d (⟨5, withinS slot 6, 0, 0, 0, 0, 0⟩)).1) zeroP)] (resV_t rfl rfl) rfl (by rw [e0]; rfl) rfl (show List.all [inB o (ii ns)] blkf = true from (all_cons (inB_gone _ (ii_scl ns)) rfl))
        · skip
          have h8' : ¬ (withinS turns 6 < 3) := of_decide_eq_false h8
          refine gskip ?_
          refine seq_go ?_
          refine gseq ?_
          refine greg ?_
          refine o_d 3 [(79, bv (((applyS d (⟨5, withinS slot 6, 0, 0, 0, 0, 0⟩)).2) == 0)), (78, bv (((applyS d (⟨5, withinS slot 6, 0, 0, 0, 0, 0⟩)).2) == 0)), (77, iv ((applyS d (⟨5, withinS slot 6, 0, 0, 0, 0, 0⟩)).2))] (by kernel_rfl) ?_
          refine o_sp (b := ((applyS d (⟨5, withinS slot 6, 0, 0, 0, 0, 0⟩)).2) == 0) 79 rfl (fun k10 => ?_) (fun q => by rw [(by rw [(quiet_free hw hq ⟨by omega, by omega⟩).1]; exact decide_eq_true (by rw [if_neg (by omega)]) : (((applyS d (⟨5, withinS slot 6, 0, 0, 0, 0, 0⟩)).2) == 0) = true)] at q; cases q)
          refine o_d 2 [(81, pv 3 3), (80, iv (withinS slot 6))] (by kernel_rfl) ?_
          refine o_unguard rfl ?_
          refine o_s (by exact run_iadA (o := 3) (o' := 3 + 5 * ((withinS slot 6).toNat)) rfl rfl (by omega) (by omega)) ?_
          refine o_unguard rfl ?_
          refine o_s (by refine run_ld (v := .agg #[iv (((applyS d (⟨5, withinS slot 6, 0, 0, 0, 0, 0⟩)).1) (3 + 5 * ((withinS slot 6).toNat))), iv (((applyS d (⟨5, withinS slot 6, 0, 0, 0, 0, 0⟩)).1) (3 + 5 * ((withinS slot 6).toNat) + 1)), iv (((applyS d (⟨5, withinS slot 6, 0, 0, 0, 0, 0⟩)).1) (3 + 5 * ((withinS slot 6).toNat) + 2)), iv (((applyS d (⟨5, withinS slot 6, 0, 0, 0, 0, 0⟩)).1) (3 + 5 * ((withinS slot 6).toNat) + 3)), iv (((applyS d (⟨5, withinS slot 6, 0, 0, 0, 0, 0⟩)).1) (3 + 5 * ((withinS slot 6).toNat) + 4))]) rfl rfl ?_; exact pl_rS ((applyS d (⟨5, withinS slot 6, 0, 0, 0, 0, 0⟩)).1) ((withinS slot 6).toNat) (by omega) (by omega)) ?_
          refine o_d 4 [(6, bv (((((applyS d (⟨5, withinS slot 6, 0, 0, 0, 0, 0⟩)).1) (3 + 5 * ((withinS slot 6).toNat))) == 0) && (((((applyS d (⟨5, withinS slot 6, 0, 0, 0, 0, 0⟩)).1) (3 + 5 * ((withinS slot 6).toNat) + 1)) == 0) && (((((applyS d (⟨5, withinS slot 6, 0, 0, 0, 0, 0⟩)).1) (3 + 5 * ((withinS slot 6).toNat) + 2)) == 0) && (((((applyS d (⟨5, withinS slot 6, 0, 0, 0, 0, 0⟩)).1) (3 + 5 * ((withinS slot 6).toNat) + 3)) == 0) && (((((applyS d (⟨5, withinS slot 6, 0, 0, 0, 0, 0⟩)).1) (3 + 5 * ((withinS slot 6).toNat) + 4)) == 0) && true)))))), (86, bv (((((applyS d (⟨5, withinS slot 6, 0, 0, 0, 0, 0⟩)).1) (3 + 5 * ((withinS slot 6).toNat))) == 0) && (((((applyS d (⟨5, withinS slot 6, 0, 0, 0, 0, 0⟩)).1) (3 + 5 * ((withinS slot 6).toNat) + 1)) == 0) && (((((applyS d (⟨5, withinS slot 6, 0, 0, 0, 0, 0⟩)).1) (3 + 5 * ((withinS slot 6).toNat) + 2)) == 0) && (((((applyS d (⟨5, withinS slot 6, 0, 0, 0, 0, 0⟩)).1) (3 + 5 * ((withinS slot 6).toNat) + 3)) == 0) && (((((applyS d (⟨5, withinS slot 6, 0, 0, 0, 0, 0⟩)).1) (3 + 5 * ((withinS slot 6).toNat) + 4)) == 0) && true)))))), (85, bv (((((applyS d (⟨5, withinS slot 6, 0, 0, 0, 0, 0⟩)).1) (3 + 5 * ((withinS slot 6).toNat))) == 0) && (((((applyS d (⟨5, withinS slot 6, 0, 0, 0, 0, 0⟩)).1) (3 + 5 * ((withinS slot 6).toNat) + 1)) == 0) && (((((applyS d (⟨5, withinS slot 6, 0, 0, 0, 0, 0⟩)).1) (3 + 5 * ((withinS slot 6).toNat) + 2)) == 0) && (((((applyS d (⟨5, withinS slot 6, 0, 0, 0, 0, 0⟩)).1) (3 + 5 * ((withinS slot 6).toNat) + 3)) == 0) && (((((applyS d (⟨5, withinS slot 6, 0, 0, 0, 0, 0⟩)).1) (3 + 5 * ((withinS slot 6).toNat) + 4)) == 0) && true)))))), (84, .agg #[iv 0, iv 0, iv 0, iv 0, iv 0])] (by kernel_rfl) ?_
          refine o_nil ?_
          refine seq_regs [(6, bv (((((applyS d (⟨5, withinS slot 6, 0, 0, 0, 0, 0⟩)).1) (3 + 5 * ((withinS slot 6).toNat))) == 0) && (((((applyS d (⟨5, withinS slot 6, 0, 0, 0, 0, 0⟩)).1) (3 + 5 * ((withinS slot 6).toNat) + 1)) == 0) && (((((applyS d (⟨5, withinS slot 6, 0, 0, 0, 0, 0⟩)).1) (3 + 5 * ((withinS slot 6).toNat) + 2)) == 0) && (((((applyS d (⟨5, withinS slot 6, 0, 0, 0, 0, 0⟩)).1) (3 + 5 * ((withinS slot 6).toNat) + 3)) == 0) && (((((applyS d (⟨5, withinS slot 6, 0, 0, 0, 0, 0⟩)).1) (3 + 5 * ((withinS slot 6).toNat) + 4)) == 0) && true))))))] (by kernel_rfl) ?_
          refine gret ?_
          have e0 : (((((applyS d (⟨5, withinS slot 6, 0, 0, 0, 0, 0⟩)).1) (3 + 5 * ((withinS slot 6).toNat))) == 0) && (((((applyS d (⟨5, withinS slot 6, 0, 0, 0, 0, 0⟩)).1) (3 + 5 * ((withinS slot 6).toNat) + 1)) == 0) && (((((applyS d (⟨5, withinS slot 6, 0, 0, 0, 0, 0⟩)).1) (3 + 5 * ((withinS slot 6).toNat) + 2)) == 0) && (((((applyS d (⟨5, withinS slot 6, 0, 0, 0, 0, 0⟩)).1) (3 + 5 * ((withinS slot 6).toNat) + 3)) == 0) && (((((applyS d (⟨5, withinS slot 6, 0, 0, 0, 0, 0⟩)).1) (3 + 5 * ((withinS slot 6).toNat) + 4)) == 0) && true))))) = true := by
            first | (rw [apply_err (by rw [(quiet_free hw hq ⟨by omega, by omega⟩).1, if_pos (by omega)]; decide)]; exact eqP_self _) | (obtain ⟨_, hz⟩ := quiet_free hw hq ⟨by omega, by omega⟩; obtain ⟨z0, z1, z2, z3, z4⟩ := hz (by omega); rw [z0, z1, z2, z3, z4]; rfl)
          exact fin_ans [bv (((((applyS d (⟨5, withinS slot 6, 0, 0, 0, 0, 0⟩)).1) (3 + 5 * ((withinS slot 6).toNat))) == 0) && (((((applyS d (⟨5, withinS slot 6, 0, 0, 0, 0, 0⟩)).1) (3 + 5 * ((withinS slot 6).toNat) + 1)) == 0) && (((((applyS d (⟨5, withinS slot 6, 0, 0, 0, 0, 0⟩)).1) (3 + 5 * ((withinS slot 6).toNat) + 2)) == 0) && (((((applyS d (⟨5, withinS slot 6, 0, 0, 0, 0, 0⟩)).1) (3 + 5 * ((withinS slot 6).toNat) + 3)) == 0) && (((((applyS d (⟨5, withinS slot 6, 0, 0, 0, 0, 0⟩)).1) (3 + 5 * ((withinS slot 6).toNat) + 4)) == 0) && true)))))] (resV_t rfl rfl) rfl (by rw [e0]; rfl) rfl (show List.all [inB o (ii ns)] blkf = true from (all_cons (inB_gone _ (ii_scl ns)) rfl))
end Go.Rh
