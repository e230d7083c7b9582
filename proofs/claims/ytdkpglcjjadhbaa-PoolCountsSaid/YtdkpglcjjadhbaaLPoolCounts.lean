import Derived.Test.YtdkpglcjjadhbaaMe

set_option linter.unusedSimpArgs false
set_option linter.unusedVariables false
set_option maxRecDepth 100000
set_option maxHeartbeats 8000000
namespace Go.Rh
def c_law6_PoolCounts : IFunc :=
  ⟨97, [.tmp 4], (.seq (.reg [⟨(some 4), .mv (.c (.bool false)), none⟩]) (.seq (.seq (.reg [⟨(some 11), .call "roundhouse/roundhouselaw6.known" [], none⟩, ⟨(some 12), .un .not (.t 11), none⟩]) (.cond (.t 12) (.seq (.reg [⟨(some 4), .mv (.c (.bool false)), none⟩]) .ret) .skip)) (.seq (.reg [⟨(some 13), .mv (.t 0), none⟩, ⟨(some 14), .call "roundhouse/roundhouselaw6.Make" [(.t 13), (.c (.int .i64 60))], none⟩, ⟨(some 5), .new [(324, (.int .i64 0)), (6, (.int .u64 0))], none⟩, ⟨none, .st 330 (.t 5) (.t 14), none⟩]) (.seq (.reg [⟨(some 15), .mv (.t 1), none⟩, ⟨(some 16), .call "roundhouse/roundhouselaw6.Entry" [(.t 15)], none⟩, ⟨(some 6), .new [(5, (.int .i64 0)), (2, (.int .u64 0))], none⟩, ⟨none, .st 7 (.t 6) (.t 16), none⟩]) (.seq (.reg [⟨(some 18), .ld (some 330) (.t 5), none⟩, ⟨(some 19), .ld (some 7) (.t 6), none⟩, ⟨(some 20), .call "roundhouse/pool.Apply" [(.t 18), (.t 19)], none⟩, ⟨(some 17), .mv (.t 20), none⟩, ⟨(some 21), .ext 0 (.t 17), none⟩, ⟨(some 22), .ext 1 (.t 17), none⟩, ⟨(some 7), .new [(324, (.int .i64 0)), (6, (.int .u64 0))], none⟩, ⟨none, .st 330 (.t 7) (.t 21), none⟩, ⟨(some 8), .mv (.t 22), none⟩]) (.seq (.seq (.reg [⟨(some 23), .mv (.t 8), none⟩, ⟨(some 24), .bin .neq (.t 23) (.c (.int .i64 0)), none⟩]) (.cond (.t 24) (.seq (.reg [⟨(some 25), .ld (some 330) (.t 7), none⟩, ⟨(some 26), .bld [(324, (.int .i64 0)), (6, (.int .u64 0))] [], none⟩, ⟨(some 27), .eqa false [(330, .i)] (.t 25) (.t 26), none⟩, ⟨(some 4), .mv (.t 27), none⟩]) .ret) .skip)) (.seq (.seq (.reg [⟨(some 9), .mv (.c (.int .i64 0)), none⟩]) (.block 0 (.loop (.seq (.seq (.reg [⟨(some 28), .mv (.t 9), none⟩, ⟨(some 29), .bin .lss (.t 28) (.c (.int .i64 64)), none⟩]) (.cond (.t 29) .skip (.exit 0))) (.seq (.block 1 (.seq (.dreg [⟨(some 32), .mv (.t 9), none⟩, ⟨(some 33), .fad 1 (.t 6), none⟩, ⟨(some 34), .ld none (.t 33), none⟩, ⟨(some 35), .bin .neq (.t 32) (.t 34), none⟩, ⟨(some 36), .mv (.t 35), none⟩, ⟨(some 37), .fad 0 (.t 6), some (36, false)⟩, ⟨(some 38), .ld none (.t 37), some (36, false)⟩, ⟨(some 39), .bin .eql (.t 38) (.c (.int .i64 6)), some (36, false)⟩, ⟨(some 40), .pick (.t 36) (.c (.bool true)) (.t 39), none⟩, ⟨(some 41), .mv (.t 40), none⟩, ⟨(some 42), .mv (.t 9), some (41, true)⟩, ⟨(some 43), .fad 3 (.t 7), some (41, true)⟩, ⟨(some 44), .iadA 64 5 (.t 43) (.t 42), some (41, true)⟩, ⟨(some 45), .ld (some 5) (.t 44), some (41, true)⟩, ⟨(some 46), .mv (.t 9), some (41, true)⟩, ⟨(some 47), .fad 3 (.t 5), some (41, true)⟩, ⟨(some 48), .iadA 64 5 (.t 47) (.t 46), some (41, true)⟩, ⟨(some 49), .ld (some 5) (.t 48), some (41, true)⟩, ⟨(some 50), .eqa true [(5, .i)] (.t 45) (.t 49), some (41, true)⟩, ⟨(some 51), .pick (.t 41) (.t 50) (.c (.bool false)), none⟩] [[], [], [1], [0, 2, 1], [3, 0, 2, 1], [4, 3, 0, 2, 1], [5, 4, 3, 0, 2, 1], [6, 5, 4, 3, 0, 2, 1], [4, 3, 0, 2, 1, 7, 6, 5], [8, 4, 3, 0, 2, 1, 7, 6, 5], [9, 8, 4, 3, 0, 2, 1, 7, 6, 5], [9, 8, 4, 3, 0, 2, 1, 7, 6, 5], [11, 9, 8, 4, 3, 0, 2, 1, 7, 6, 5, 10], [12, 11, 9, 8, 4, 3, 0, 2, 1, 7, 6, 5, 10], [9, 8, 4, 3, 0, 2, 1, 7, 6, 5], [9, 8, 4, 3, 0, 2, 1, 7, 6, 5], [15, 9, 8, 4, 3, 0, 2, 1, 7, 6, 5, 14], [16, 15, 9, 8, 4, 3, 0, 2, 1, 7, 6, 5, 14], [13, 12, 11, 9, 8, 4, 3, 0, 2, 1, 7, 6, 5, 10, 17, 16, 15, 14], [9, 8, 4, 3, 0, 2, 1, 7, 6, 5, 18, 13, 12, 11, 10, 17, 16, 15, 14]]) (.cond (.t 51) (.seq (.reg [⟨(some 4), .mv (.c (.bool false)), none⟩]) .ret) .skip))) (.reg [⟨(some 30), .mv (.t 9), none⟩, ⟨(some 31), .bin .add (.t 30) (.c (.int .i64 1)), none⟩, ⟨(some 9), .mv (.t 31), none⟩])))))) (.seq (.reg [⟨(some 10), .mv (.c (.int .i64 0)), none⟩]) (.seq (.seq (.reg [⟨(some 52), .fad 0 (.t 6), none⟩, ⟨(some 53), .ld none (.t 52), none⟩, ⟨(some 54), .bin .eql (.t 53) (.c (.int .i64 6)), none⟩]) (.cond (.t 54) (.reg [⟨(some 10), .mv (.c (.int .i64 1)), none⟩]) .skip)) (.seq (.reg [⟨(some 55), .fad 0 (.t 7), none⟩, ⟨(some 56), .ld none (.t 55), none⟩, ⟨(some 57), .fad 0 (.t 5), none⟩, ⟨(some 58), .ld none (.t 57), none⟩, ⟨(some 59), .bin .add (.t 58) (.c (.int .i64 1)), none⟩, ⟨(some 60), .bin .eql (.t 56) (.t 59), none⟩, ⟨(some 61), .mv (.t 60), none⟩, ⟨(some 62), .fad 323 (.t 7), some (61, true)⟩, ⟨(some 63), .fad 0 (.t 62), some (61, true)⟩, ⟨(some 64), .ld none (.t 63), some (61, true)⟩, ⟨(some 65), .fad 323 (.t 5), some (61, true)⟩, ⟨(some 66), .fad 0 (.t 65), some (61, true)⟩, ⟨(some 67), .ld none (.t 66), some (61, true)⟩, ⟨(some 68), .mv (.t 10), some (61, true)⟩, ⟨(some 69), .bin .add (.t 67) (.t 68), some (61, true)⟩, ⟨(some 70), .bin .eql (.t 64) (.t 69), some (61, true)⟩, ⟨(some 71), .pick (.t 61) (.t 70) (.c (.bool false)), none⟩, ⟨(some 72), .mv (.t 71), none⟩, ⟨(some 73), .mv (.t 10), some (72, true)⟩, ⟨(some 74), .bin .eql (.t 73) (.c (.int .i64 1)), some (72, true)⟩, ⟨(some 75), .mv (.t 74), some (72, true)⟩, ⟨(some 76), .fad 323 (.t 7), some (75, false)⟩, ⟨(some 77), .ld (some 7) (.t 76), some (75, false)⟩, ⟨(some 78), .fad 323 (.t 5), some (75, false)⟩, ⟨(some 79), .ld (some 7) (.t 78), some (75, false)⟩, ⟨(some 80), .eqa false [(7, .i)] (.t 77) (.t 79), some (75, false)⟩, ⟨(some 81), .pick (.t 75) (.c (.bool true)) (.t 80), some (72, true)⟩, ⟨(some 82), .pick (.t 72) (.t 81) (.c (.bool false)), none⟩, ⟨(some 83), .mv (.t 82), none⟩, ⟨(some 84), .fad 1 (.t 7), some (83, true)⟩, ⟨(some 85), .ld none (.t 84), some (83, true)⟩, ⟨(some 86), .fad 1 (.t 5), some (83, true)⟩, ⟨(some 87), .ld none (.t 86), some (83, true)⟩, ⟨(some 88), .bin .eql (.t 85) (.t 87), some (83, true)⟩, ⟨(some 89), .pick (.t 83) (.t 88) (.c (.bool false)), none⟩, ⟨(some 90), .mv (.t 89), none⟩, ⟨(some 91), .fad 2 (.t 7), some (90, true)⟩, ⟨(some 92), .ld none (.t 91), some (90, true)⟩, ⟨(some 93), .fad 2 (.t 5), some (90, true)⟩, ⟨(some 94), .ld none (.t 93), some (90, true)⟩, ⟨(some 95), .bin .eql (.t 92) (.t 94), some (90, true)⟩, ⟨(some 96), .pick (.t 90) (.t 95) (.c (.bool false)), none⟩, ⟨(some 4), .mv (.t 96), none⟩]) .ret))))))))))⟩
theorem PoolCountsC {P : Program} (hc : codeOf P "roundhouse/roundhouselaw6.PoolCounts" = some c_law6_PoolCounts) (h_law6_known : codeOf P "roundhouse/roundhouselaw6.known" = some c_law6_known) (h_pool_New : codeOf P "roundhouse/pool.New" = some c_pool_New) (h_pool_placed : codeOf P "roundhouse/pool.placed" = some c_pool_placed) (h_cookie_Ring : codeOf P "roundhouse/cookie.Ring" = some c_cookie_Ring) (h_pool_Find : codeOf P "roundhouse/pool.Find" = some c_pool_Find) (h_pool_may : codeOf P "roundhouse/pool.may" = some c_pool_may) (h_pool_All : codeOf P "roundhouse/pool.All" = some c_pool_All) (h_pool_Apply : codeOf P "roundhouse/pool.Apply" = some c_pool_Apply) (h_pool_held : codeOf P "roundhouse/pool.held" = some c_pool_held) (h_pool_fits : codeOf P "roundhouse/pool.fits" = some c_pool_fits) (h_pool_Check : codeOf P "roundhouse/pool.Check" = some c_pool_Check) (h_cookie_Next : codeOf P "roundhouse/cookie.Next" = some c_cookie_Next) (h_pool_Takes : codeOf P "roundhouse/pool.Takes" = some c_pool_Takes) (h_law6_Make : codeOf P "roundhouse/roundhouselaw6.Make" = some c_law6_Make) (h_law5_Key : codeOf P "roundhouse/roundhouselaw5.Key" = some c_law5_Key) (h_ref6_New : codeOf P "roundhouse/roundhouseref6.New" = some c_ref6_New) (h_ref6_out : codeOf P "roundhouse/roundhouseref6.out" = some c_ref6_out) (h_ref5_Ring : codeOf P "roundhouse/roundhouseref5.Ring" = some c_ref5_Ring) (h_law6_Entry : codeOf P "roundhouse/roundhouselaw6.Entry" = some c_law6_Entry) (h_law6_within : codeOf P "roundhouse/roundhouselaw6.within" = some c_law6_within) (h_ref6_Apply : codeOf P "roundhouse/roundhouseref6.Apply" = some c_ref6_Apply) (h_ref6_Check : codeOf P "roundhouse/roundhouseref6.Check" = some c_ref6_Check) (h_ref6_bad : codeOf P "roundhouse/roundhouseref6.bad" = some c_ref6_bad) (h_ref6_Held : codeOf P "roundhouse/roundhouseref6.Held" = some c_ref6_Held) (h_ref5_Next : codeOf P "roundhouse/roundhouseref5.Next" = some c_ref5_Next) (o : Option Nat) (ns : List Int) (hnns : o = none → ns = []) (hl : (ns.length : Int) ≤ 9223372036854775807) (n : Int) :
    Env P "roundhouse/roundhouselaw6.PoolCounts" [inV o 0 ns.length, iv n] ([inB o (ii ns)]) (Ans (.bool true) ([inB o (ii ns)])) := by
  refine Env.by hc ?_
  unfold c_law6_PoolCounts
  show GC _ 1 _ _ ⟨reg [(0, inV o 0 ns.length), (1, iv n)], [inB o (ii ns)]⟩
  have I := makeS_inv ns (k := 60) (by omega)
  have hiv := I.ver
  have hie := I.ep
  refine gseq ?_
  refine greg ?_
  refine o_d 1 [(4, bv false)] (by kernel_rfl) ?_
  refine o_nil ?_
  refine seq_go ?_
  refine gseq ?_
  refine gseq ?_
  refine greg ?_
  refine o_cl (callV (knownC h_law6_known h_pool_New h_pool_placed h_cookie_Ring h_pool_Find h_pool_may h_pool_All h_pool_Apply h_pool_held h_pool_fits h_pool_Check h_cookie_Next h_pool_Takes) rfl rfl rfl ?_)
  refine o_d 1 [(12, bv false)] (by kernel_rfl) ?_
  refine o_nil ?_
  refine seq_go ?_
  refine gfalse rfl ?_
  refine gskip ?_
  refine seq_go ?_
  refine gseq ?_
  refine greg ?_
  refine o_d 1 [(13, inV o 0 ns.length)] (by kernel_rfl) ?_
  refine o_cl (callRO_K (callIn 0 (MakeC h_law6_Make h_law5_Key h_ref6_New h_ref6_out h_ref5_Ring h_law6_Entry h_law6_within h_ref6_Apply h_ref6_Check h_ref6_bad h_ref6_Held h_ref5_Next o ns hnns hl 60 (by omega)) rfl (ii_scl _) rfl rfl (poolV_vpf _) ?_))
  refine o_b 1 [(5, pv 1 0)] [inB o (ii ns), cw (pl zeroP)] (by kernel_rfl) ?_
  refine o_s0 (by refine run_st (c' := pl (makeS ns 60)) rfl rfl rfl ?_ ?_ ?_; exact pl_length _; exact pl_le (by omega); exact splice_pl0 zeroP (makeS ns 60)) ?_
  refine o_nil ?_
  refine seq_go ?_
  refine gseq ?_
  refine greg ?_
  refine o_d 1 [(15, iv n)] (by kernel_rfl) ?_
  refine o_cl (callV (EntryC h_law6_Entry h_law6_within h_law5_Key n) rfl rfl rfl ?_)
  refine o_b 2 [(6, pv 2 0)] [inB o (ii ns), cw (pl (makeS ns 60)), cw [iv ((entS n).k), iv ((entS n).s), iv ((entS n).a), iv ((entS n).p), iv ((entS n).g), uv ((entS n).ka), uv ((entS n).kb)]] (by kernel_rfl) ?_
  refine o_nil ?_
  refine seq_go ?_
  refine gseq ?_
  refine greg ?_
  refine o_s (by refine run_ld (v := poolV (makeS ns 60)) rfl rfl ?_; exact pl_all (makeS ns 60)) ?_
  refine o_d 1 [(19, .agg #[iv ((entS n).k), iv ((entS n).s), iv ((entS n).a), iv ((entS n).p), iv ((entS n).g), uv ((entS n).ka), uv ((entS n).kb)])] (by kernel_rfl) ?_
  refine o_cl (callV (ApplyC h_pool_Apply h_pool_may h_pool_held h_pool_fits h_pool_Check h_pool_placed h_cookie_Next (makeS ns 60) (entS n)) rfl (all_cons (poolV_vpf (makeS ns 60)) (all_cons rfl rfl)) (all_cons (poolV_aggf ((applyS (makeS ns 60) (entS n)).1)) (all_cons rfl rfl)) ?_)
  refine o_b 4 [(7, pv 3 0), (22, iv ((applyS (makeS ns 60) (entS n)).2)), (21, poolV ((applyS (makeS ns 60) (entS n)).1)), (17, .tuple #[poolV ((applyS (makeS ns 60) (entS n)).1), iv ((applyS (makeS ns 60) (entS n)).2)])] [inB o (ii ns), cw (pl (makeS ns 60)), cw [iv ((entS n).k), iv ((entS n).s), iv ((entS n).a), iv ((entS n).p), iv ((entS n).g), uv ((entS n).ka), uv ((entS n).kb)], cw (pl zeroP)] (by kernel_rfl) ?_
  refine o_s0 (by refine run_st (c' := pl ((applyS (makeS ns 60) (entS n)).1)) rfl rfl rfl ?_ ?_ ?_; exact pl_length _; exact pl_le (by omega); exact splice_pl0 zeroP ((applyS (makeS ns 60) (entS n)).1)) ?_
  refine o_b 1 [(8, iv ((applyS (makeS ns 60) (entS n)).2))] [inB o (ii ns), cw (pl (makeS ns 60)), cw [iv ((entS n).k), iv ((entS n).s), iv ((entS n).a), iv ((entS n).p), iv ((entS n).g), uv ((entS n).ka), uv ((entS n).kb)], cw (pl ((applyS (makeS ns 60) (entS n)).1))] (by kernel_rfl) ?_
  refine o_nil ?_
  refine seq_go ?_
  refine gseq ?_
  refine gseq ?_
  refine greg ?_
  refine o_d 2 [(24, bv (((applyS (makeS ns 60) (entS n)).2) != 0)), (23, iv ((applyS (makeS ns 60) (entS n)).2))] (by kernel_rfl) ?_
  refine o_nil ?_
  refine seq_go ?_
  refine gcond (t := ((applyS (makeS ns 60) (entS n)).2) != 0) rfl (fun h1 => ?_) (fun h1 => ?_)
  · skip
    have h1' : (applyS (makeS ns 60) (entS n)).2 ≠ 0 := neI_t h1
    refine gseq ?_
    refine greg ?_
    refine o_s (by refine run_ld (v := poolV ((applyS (makeS ns 60) (entS n)).1)) rfl rfl ?_; exact pl_all ((applyS (makeS ns 60) (entS n)).1)) ?_
    refine o_s (by refine run_bld (c := pl zeroP) ?_; exact bld_zP) ?_
    refine o_s (by refine run_eqa (a := ⟨pl ((applyS (makeS ns 60) (entS n)).1)⟩) (b := ⟨pl zeroP⟩) (r := eqP ((applyS (makeS ns 60) (entS n)).1) zeroP) (R := eqP ((applyS (makeS ns 60) (entS n)).1) zeroP) ?_ rfl; exact eqP_run ((applyS (makeS ns 60) (entS n)).1) zeroP rfl rfl) ?_
    refine o_d 1 [(4, bv (eqP ((applyS (makeS ns 60) (entS n)).1) zeroP))] (by kernel_rfl) ?_
    refine o_nil ?_
    refine seq_regs [(4, bv (eqP ((applyS (makeS ns 60) (entS n)).1) zeroP))] (by kernel_rfl) ?_
    refine gret ?_
    have e0 : (eqP ((applyS (makeS ns 60) (entS n)).1) zeroP) = true := by
      first | (rw [apply_err (by assumption)]; exact eqP_self _) | (rw [(apply_place (Decidable.of_not_not (by assumption))).2]; simp)
    exact fin_ans [bv (eqP ((applyS (makeS ns 60) (entS n)).1) zeroP)] (resV_t rfl rfl) rfl (by rw [e0]; rfl) rfl (show List.all [inB o (ii ns)] blkf = true from (all_cons (inB_gone _ (ii_scl ns)) rfl))
  · skip
    have h1' : ¬ ((applyS (makeS ns 60) (entS n)).2 ≠ 0) := neI_f h1
    refine gskip ?_
    refine seq_go ?_
    refine gseq ?_
    refine gseq ?_
    refine greg ?_
    refine o_d 1 [(9, iv 0)] (by kernel_rfl) ?_
    refine o_nil ?_
    refine seq_go ?_
    refine gblock ?_
    refine gloop (fun μ s => ∃ (i : Nat), μ = 64 - i ∧ (i ≤ 64) ∧ s = ⟨reg [(9, iv (i : Int)), (7, pv 3 0), (6, pv 2 0), (5, pv 1 0)], [inB o (ii ns), cw (pl (makeS ns 60)), cw [iv ((entS n).k), iv ((entS n).s), iv ((entS n).a), iv ((entS n).p), iv ((entS n).g), uv ((entS n).ka), uv ((entS n).kb)], cw (pl ((applyS (makeS ns 60) (entS n)).1))]⟩) ⟨(64 - 0), ?_⟩ ?_
    · skip
      refine ⟨⟨reg [(9, iv (0 : Int)), (7, pv 3 0), (6, pv 2 0), (5, pv 1 0)], [inB o (ii ns), cw (pl (makeS ns 60)), cw [iv ((entS n).k), iv ((entS n).s), iv ((entS n).a), iv ((entS n).p), iv ((entS n).g), uv ((entS n).ka), uv ((entS n).kb)], cw (pl ((applyS (makeS ns 60) (entS n)).1))]⟩, ?_⟩
      refine ⟨?_, ?_⟩
      · exact Wk.ren [0, 1, 2, 3] rfl rfl (by decide) ⟨rfl, ⟨rfl, ⟨rfl, ⟨rfl, trivial⟩⟩⟩⟩ ⟨.inl (ren_inB o (ii_scl ns)), ⟨.inl (ren_cells (pl_scl (makeS ns 60))), ⟨.inl rfl, ⟨.inl (ren_cells (pl_scl ((applyS (makeS ns 60) (entS n)).1))), trivial⟩⟩⟩⟩
      · exact ⟨0, rfl, by omega, rfl⟩
    · rintro μ s ⟨i, rfl, hi, rfl⟩
      refine gseq ?_
      refine gseq ?_
      refine greg ?_
      refine o_d 2 [(29, bv (decide ((i : Int) < 64))), (28, iv (i : Int))] (by kernel_rfl) ?_
      refine o_nil ?_
      refine seq_go ?_
      refine gcond (t := decide ((i : Int) < 64)) rfl (fun h2 => ?_) (fun h2 => ?_)
      · skip
        have h2' : (i : Int) < 64 := of_decide_eq_true h2
        refine gskip ?_
        refine seq_go ?_
        refine gseq ?_
        refine gblock ?_
        refine gseq ?_
        refine gdreg [] (by kernel_rfl) ?_
        refine r_d 5 [(36, bv ((i : Int) != ((entS n).s))), (35, bv ((i : Int) != ((entS n).s))), (34, iv ((entS n).s)), (33, pv 2 1), (32, iv (i : Int))] (by kernel_rfl) ?_
        refine r_sp (b := (i : Int) != ((entS n).s)) 36 rfl (fun h3 => ?_) (fun h3 => ?_)
        · skip
          have h3' : (i : Int) ≠ (entS n).s := neI_t h3
          refine r_d 7 [(43, pv 3 3), (42, iv (i : Int)), (41, bv true), (40, bv true), (39, undef), (38, undef), (37, undef)] (by kernel_rfl) ?_
          refine r_unguard rfl ?_
          refine r_s (by exact run_iadA (o := 3) (o' := 3 + 5 * i) rfl rfl (by omega) (by omega)) ?_
          refine r_unguard rfl ?_
          refine r_s (by refine run_ld (v := .agg #[iv (((applyS (makeS ns 60) (entS n)).1) (3 + 5 * i)), iv (((applyS (makeS ns 60) (entS n)).1) (3 + 5 * i + 1)), iv (((applyS (makeS ns 60) (entS n)).1) (3 + 5 * i + 2)), iv (((applyS (makeS ns 60) (entS n)).1) (3 + 5 * i + 3)), iv (((applyS (makeS ns 60) (entS n)).1) (3 + 5 * i + 4))]) rfl rfl ?_; exact pl_rS ((applyS (makeS ns 60) (entS n)).1) i (by omega) (by omega)) ?_
          refine r_d 2 [(47, pv 1 3), (46, iv (i : Int))] (by kernel_rfl) ?_
          refine r_unguard rfl ?_
          refine r_s (by exact run_iadA (o := 3) (o' := 3 + 5 * i) rfl rfl (by omega) (by omega)) ?_
          refine r_unguard rfl ?_
          refine r_s (by refine run_ld (v := .agg #[iv ((makeS ns 60) (3 + 5 * i)), iv ((makeS ns 60) (3 + 5 * i + 1)), iv ((makeS ns 60) (3 + 5 * i + 2)), iv ((makeS ns 60) (3 + 5 * i + 3)), iv ((makeS ns 60) (3 + 5 * i + 4))]) rfl rfl ?_; exact pl_rS (makeS ns 60) i (by omega) (by omega)) ?_
          refine r_d 2 [(51, bv (!(((((applyS (makeS ns 60) (entS n)).1) (3 + 5 * i)) == ((makeS ns 60) (3 + 5 * i))) && (((((applyS (makeS ns 60) (entS n)).1) (3 + 5 * i + 1)) == ((makeS ns 60) (3 + 5 * i + 1))) && (((((applyS (makeS ns 60) (entS n)).1) (3 + 5 * i + 2)) == ((makeS ns 60) (3 + 5 * i + 2))) && (((((applyS (makeS ns 60) (entS n)).1) (3 + 5 * i + 3)) == ((makeS ns 60) (3 + 5 * i + 3))) && (((((applyS (makeS ns 60) (entS n)).1) (3 + 5 * i + 4)) == ((makeS ns 60) (3 + 5 * i + 4))) && true))))))), (50, bv (!(((((applyS (makeS ns 60) (entS n)).1) (3 + 5 * i)) == ((makeS ns 60) (3 + 5 * i))) && (((((applyS (makeS ns 60) (entS n)).1) (3 + 5 * i + 1)) == ((makeS ns 60) (3 + 5 * i + 1))) && (((((applyS (makeS ns 60) (entS n)).1) (3 + 5 * i + 2)) == ((makeS ns 60) (3 + 5 * i + 2))) && (((((applyS (makeS ns 60) (entS n)).1) (3 + 5 * i + 3)) == ((makeS ns 60) (3 + 5 * i + 3))) && (((((applyS (makeS ns 60) (entS n)).1) (3 + 5 * i + 4)) == ((makeS ns 60) (3 + 5 * i + 4))) && true)))))))] (by kernel_rfl) ?_
          refine r_nil ?_
          refine seq_regs [(51, bv (!(((((applyS (makeS ns 60) (entS n)).1) (3 + 5 * i)) == ((makeS ns 60) (3 + 5 * i))) && (((((applyS (makeS ns 60) (entS n)).1) (3 + 5 * i + 1)) == ((makeS ns 60) (3 + 5 * i + 1))) && (((((applyS (makeS ns 60) (entS n)).1) (3 + 5 * i + 2)) == ((makeS ns 60) (3 + 5 * i + 2))) && (((((applyS (makeS ns 60) (entS n)).1) (3 + 5 * i + 3)) == ((makeS ns 60) (3 + 5 * i + 3))) && (((((applyS (makeS ns 60) (entS n)).1) (3 + 5 * i + 4)) == ((makeS ns 60) (3 + 5 * i + 4))) && true))))))), (9, iv (i : Int)), (7, pv 3 0), (6, pv 2 0), (5, pv 1 0)] (by kernel_rfl) ?_
          refine gcond (t := !(((((applyS (makeS ns 60) (entS n)).1) (3 + 5 * i)) == ((makeS ns 60) (3 + 5 * i))) && (((((applyS (makeS ns 60) (entS n)).1) (3 + 5 * i + 1)) == ((makeS ns 60) (3 + 5 * i + 1))) && (((((applyS (makeS ns 60) (entS n)).1) (3 + 5 * i + 2)) == ((makeS ns 60) (3 + 5 * i + 2))) && (((((applyS (makeS ns 60) (entS n)).1) (3 + 5 * i + 3)) == ((makeS ns 60) (3 + 5 * i + 3))) && (((((applyS (makeS ns 60) (entS n)).1) (3 + 5 * i + 4)) == ((makeS ns 60) (3 + 5 * i + 4))) && true)))))) rfl (fun q => by rw [(by obtain ⟨o1, o2, o3, o4, o5⟩ := apply_other (Decidable.of_not_not h1') (k := i) (by omega) (.inl h3'); rw [o1, o2, o3, o4, o5]; simp : (!(((((applyS (makeS ns 60) (entS n)).1) (3 + 5 * i)) == ((makeS ns 60) (3 + 5 * i))) && (((((applyS (makeS ns 60) (entS n)).1) (3 + 5 * i + 1)) == ((makeS ns 60) (3 + 5 * i + 1))) && (((((applyS (makeS ns 60) (entS n)).1) (3 + 5 * i + 2)) == ((makeS ns 60) (3 + 5 * i + 2))) && (((((applyS (makeS ns 60) (entS n)).1) (3 + 5 * i + 3)) == ((makeS ns 60) (3 + 5 * i + 3))) && (((((applyS (makeS ns 60) (entS n)).1) (3 + 5 * i + 4)) == ((makeS ns 60) (3 + 5 * i + 4))) && true)))))) = false)] at q; cases q) (fun _ => ?_)
          refine gskip ?_
          refine seq_go ?_
          refine greg ?_
          refine o_d 1 [(30, iv (i : Int))] (by kernel_rfl) ?_
          refine o_s (by refine run_val (v := .int .i64 (IntKind.i64.wrap ((i : Int) + 1))) (congrArg (Value.int .i64) (w64 (by omega) (by omega))) ?_; kernel_rfl) ?_
          refine o_d 1 [(9, iv ((i : Int) + 1))] (by kernel_rfl) ?_
          refine o_nil ?_
          refine ⟨64 - (i + 1), ?_⟩
          refine ⟨⟨reg [(9, iv ((i + 1) : Int)), (7, pv 3 0), (6, pv 2 0), (5, pv 1 0)], [inB o (ii ns), cw (pl (makeS ns 60)), cw [iv ((entS n).k), iv ((entS n).s), iv ((entS n).a), iv ((entS n).p), iv ((entS n).g), uv ((entS n).ka), uv ((entS n).kb)], cw (pl ((applyS (makeS ns 60) (entS n)).1))]⟩, ?_⟩
          refine and3 (by omega) ⟨?_, ?_⟩
          · exact Wk.ren [0, 1, 2, 3] rfl rfl (by decide) ⟨rfl, ⟨rfl, ⟨rfl, ⟨rfl, trivial⟩⟩⟩⟩ ⟨.inl (ren_inB o (ii_scl ns)), ⟨.inl (ren_cells (pl_scl (makeS ns 60))), ⟨.inl rfl, ⟨.inl (ren_cells (pl_scl ((applyS (makeS ns 60) (entS n)).1))), trivial⟩⟩⟩⟩
          · exact ⟨(i + 1), rfl, by omega, rfl⟩
        · skip
          have h3' : ¬ ((i : Int) ≠ (entS n).s) := neI_f h3
          refine r_d 5 [(41, bv (((entS n).k) == 6)), (40, bv (((entS n).k) == 6)), (39, bv (((entS n).k) == 6)), (38, iv ((entS n).k)), (37, pv 2 0)] (by kernel_rfl) ?_
          refine r_sp (b := ((entS n).k) == 6) 41 rfl (fun h4 => ?_) (fun h4 => ?_)
          · skip
            have h4' : (entS n).k = 6 := eqI_t h4
            refine r_d 2 [(43, pv 3 3), (42, iv (i : Int))] (by kernel_rfl) ?_
            refine r_unguard rfl ?_
            refine r_s (by exact run_iadA (o := 3) (o' := 3 + 5 * i) rfl rfl (by omega) (by omega)) ?_
            refine r_unguard rfl ?_
            refine r_s (by refine run_ld (v := .agg #[iv (((applyS (makeS ns 60) (entS n)).1) (3 + 5 * i)), iv (((applyS (makeS ns 60) (entS n)).1) (3 + 5 * i + 1)), iv (((applyS (makeS ns 60) (entS n)).1) (3 + 5 * i + 2)), iv (((applyS (makeS ns 60) (entS n)).1) (3 + 5 * i + 3)), iv (((applyS (makeS ns 60) (entS n)).1) (3 + 5 * i + 4))]) rfl rfl ?_; exact pl_rS ((applyS (makeS ns 60) (entS n)).1) i (by omega) (by omega)) ?_
            refine r_d 2 [(47, pv 1 3), (46, iv (i : Int))] (by kernel_rfl) ?_
            refine r_unguard rfl ?_
            refine r_s (by exact run_iadA (o := 3) (o' := 3 + 5 * i) rfl rfl (by omega) (by omega)) ?_
            refine r_unguard rfl ?_
            refine r_s (by refine run_ld (v := .agg #[iv ((makeS ns 60) (3 + 5 * i)), iv ((makeS ns 60) (3 + 5 * i + 1)), iv ((makeS ns 60) (3 + 5 * i + 2)), iv ((makeS ns 60) (3 + 5 * i + 3)), iv ((makeS ns 60) (3 + 5 * i + 4))]) rfl rfl ?_; exact pl_rS (makeS ns 60) i (by omega) (by omega)) ?_
            refine r_d 2 [(51, bv (!(((((applyS (makeS ns 60) (entS n)).1) (3 + 5 * i)) == ((makeS ns 60) (3 + 5 * i))) && (((((applyS (makeS ns 60) (entS n)).1) (3 + 5 * i + 1)) == ((makeS ns 60) (3 + 5 * i + 1))) && (((((applyS (makeS ns 60) (entS n)).1) (3 + 5 * i + 2)) == ((makeS ns 60) (3 + 5 * i + 2))) && (((((applyS (makeS ns 60) (entS n)).1) (3 + 5 * i + 3)) == ((makeS ns 60) (3 + 5 * i + 3))) && (((((applyS (makeS ns 60) (entS n)).1) (3 + 5 * i + 4)) == ((makeS ns 60) (3 + 5 * i + 4))) && true))))))), (50, bv (!(((((applyS (makeS ns 60) (entS n)).1) (3 + 5 * i)) == ((makeS ns 60) (3 + 5 * i))) && (((((applyS (makeS ns 60) (entS n)).1) (3 + 5 * i + 1)) == ((makeS ns 60) (3 + 5 * i + 1))) && (((((applyS (makeS ns 60) (entS n)).1) (3 + 5 * i + 2)) == ((makeS ns 60) (3 + 5 * i + 2))) && (((((applyS (makeS ns 60) (entS n)).1) (3 + 5 * i + 3)) == ((makeS ns 60) (3 + 5 * i + 3))) && (((((applyS (makeS ns 60) (entS n)).1) (3 + 5 * i + 4)) == ((makeS ns 60) (3 + 5 * i + 4))) && true)))))))] (by kernel_rfl) ?_
            refine r_nil ?_
            refine seq_regs [(51, bv (!(((((applyS (makeS ns 60) (entS n)).1) (3 + 5 * i)) == ((makeS ns 60) (3 + 5 * i))) && (((((applyS (makeS ns 60) (entS n)).1) (3 + 5 * i + 1)) == ((makeS ns 60) (3 + 5 * i + 1))) && (((((applyS (makeS ns 60) (entS n)).1) (3 + 5 * i + 2)) == ((makeS ns 60) (3 + 5 * i + 2))) && (((((applyS (makeS ns 60) (entS n)).1) (3 + 5 * i + 3)) == ((makeS ns 60) (3 + 5 * i + 3))) && (((((applyS (makeS ns 60) (entS n)).1) (3 + 5 * i + 4)) == ((makeS ns 60) (3 + 5 * i + 4))) && true))))))), (9, iv (i : Int)), (7, pv 3 0), (6, pv 2 0), (5, pv 1 0)] (by kernel_rfl) ?_
            refine gcond (t := !(((((applyS (makeS ns 60) (entS n)).1) (3 + 5 * i)) == ((makeS ns 60) (3 + 5 * i))) && (((((applyS (makeS ns 60) (entS n)).1) (3 + 5 * i + 1)) == ((makeS ns 60) (3 + 5 * i + 1))) && (((((applyS (makeS ns 60) (entS n)).1) (3 + 5 * i + 2)) == ((makeS ns 60) (3 + 5 * i + 2))) && (((((applyS (makeS ns 60) (entS n)).1) (3 + 5 * i + 3)) == ((makeS ns 60) (3 + 5 * i + 3))) && (((((applyS (makeS ns 60) (entS n)).1) (3 + 5 * i + 4)) == ((makeS ns 60) (3 + 5 * i + 4))) && true)))))) rfl (fun q => by rw [(by obtain ⟨o1, o2, o3, o4, o5⟩ := apply_other (Decidable.of_not_not h1') (k := i) (by omega) (.inr h4'); rw [o1, o2, o3, o4, o5]; simp : (!(((((applyS (makeS ns 60) (entS n)).1) (3 + 5 * i)) == ((makeS ns 60) (3 + 5 * i))) && (((((applyS (makeS ns 60) (entS n)).1) (3 + 5 * i + 1)) == ((makeS ns 60) (3 + 5 * i + 1))) && (((((applyS (makeS ns 60) (entS n)).1) (3 + 5 * i + 2)) == ((makeS ns 60) (3 + 5 * i + 2))) && (((((applyS (makeS ns 60) (entS n)).1) (3 + 5 * i + 3)) == ((makeS ns 60) (3 + 5 * i + 3))) && (((((applyS (makeS ns 60) (entS n)).1) (3 + 5 * i + 4)) == ((makeS ns 60) (3 + 5 * i + 4))) && true)))))) = false)] at q; cases q) (fun _ => ?_)
            refine gskip ?_
            refine seq_go ?_
            refine greg ?_
            refine o_d 1 [(30, iv (i : Int))] (by kernel_rfl) ?_
            refine o_s (by refine run_val (v := .int .i64 (IntKind.i64.wrap ((i : Int) + 1))) (congrArg (Value.int .i64) (w64 (by omega) (by omega))) ?_; kernel_rfl) ?_
            refine o_d 1 [(9, iv ((i : Int) + 1))] (by kernel_rfl) ?_
            refine o_nil ?_
            refine ⟨64 - (i + 1), ?_⟩
            refine ⟨⟨reg [(9, iv ((i + 1) : Int)), (7, pv 3 0), (6, pv 2 0), (5, pv 1 0)], [inB o (ii ns), cw (pl (makeS ns 60)), cw [iv ((entS n).k), iv ((entS n).s), iv ((entS n).a), iv ((entS n).p), iv ((entS n).g), uv ((entS n).ka), uv ((entS n).kb)], cw (pl ((applyS (makeS ns 60) (entS n)).1))]⟩, ?_⟩
            refine and3 (by omega) ⟨?_, ?_⟩
            · exact Wk.ren [0, 1, 2, 3] rfl rfl (by decide) ⟨rfl, ⟨rfl, ⟨rfl, ⟨rfl, trivial⟩⟩⟩⟩ ⟨.inl (ren_inB o (ii_scl ns)), ⟨.inl (ren_cells (pl_scl (makeS ns 60))), ⟨.inl rfl, ⟨.inl (ren_cells (pl_scl ((applyS (makeS ns 60) (entS n)).1))), trivial⟩⟩⟩⟩
            · exact ⟨(i + 1), rfl, by omega, rfl⟩
          · skip
            have h4' : ¬ ((entS n).k = 6) := eqI_f h4
            refine r_d 10 [(51, bv false), (50, undef), (49, undef), (48, undef), (47, undef), (46, undef), (45, undef), (44, undef), (43, undef), (42, undef)] (by kernel_rfl) ?_
            refine r_nil ?_
            refine seq_regs [(51, bv false), (9, iv (i : Int)), (7, pv 3 0), (6, pv 2 0), (5, pv 1 0)] (by kernel_rfl) ?_
            refine gfalse rfl ?_
            refine gskip ?_
            refine seq_go ?_
            refine greg ?_
            refine o_d 1 [(30, iv (i : Int))] (by kernel_rfl) ?_
            refine o_s (by refine run_val (v := .int .i64 (IntKind.i64.wrap ((i : Int) + 1))) (congrArg (Value.int .i64) (w64 (by omega) (by omega))) ?_; kernel_rfl) ?_
            refine o_d 1 [(9, iv ((i : Int) + 1))] (by kernel_rfl) ?_
            refine o_nil ?_
            refine ⟨64 - (i + 1), ?_⟩
            refine ⟨⟨reg [(9, iv ((i + 1) : Int)), (7, pv 3 0), (6, pv 2 0), (5, pv 1 0)], [inB o (ii ns), cw (pl (makeS ns 60)), cw [iv ((entS n).k), iv ((entS n).s), iv ((entS n).a), iv ((entS n).p), iv ((entS n).g), uv ((entS n).ka), uv ((entS n).kb)], cw (pl ((applyS (makeS ns 60) (entS n)).1))]⟩, ?_⟩
            refine and3 (by omega) ⟨?_, ?_⟩
            · exact Wk.ren [0, 1, 2, 3] rfl rfl (by decide) ⟨rfl, ⟨rfl, ⟨rfl, ⟨rfl, trivial⟩⟩⟩⟩ ⟨.inl (ren_inB o (ii_scl ns)), ⟨.inl (ren_cells (pl_scl (makeS ns 60))), ⟨.inl rfl, ⟨.inl (ren_cells (pl_scl ((applyS (makeS ns 60) (entS n)).1))), trivial⟩⟩⟩⟩
            · exact ⟨(i + 1), rfl, by omega, rfl⟩
      · skip
        have h2' : ¬ ((i : Int) < 64) := of_decide_eq_false h2
        refine gexit ?_
        refine seq_go ?_
        refine gseq ?_
        refine greg ?_
        refine o_d 1 [(10, iv 0)] (by kernel_rfl) ?_
        refine o_nil ?_
        refine seq_go ?_
        refine gseq ?_
        refine gseq ?_
        refine greg ?_
        refine o_d 3 [(54, bv (((entS n).k) == 6)), (53, iv ((entS n).k)), (52, pv 2 0)] (by kernel_rfl) ?_
        refine o_nil ?_
        refine seq_go ?_
        refine gcond (t := ((entS n).k) == 6) rfl (fun h5 => ?_) (fun h5 => ?_)
        · skip
          have h5' : (entS n).k = 6 := eqI_t h5
          refine greg ?_
          refine o_d 1 [(10, iv 1)] (by kernel_rfl) ?_
          refine o_nil ?_
          refine seq_go ?_
          refine gseq ?_
          refine greg ?_
          refine o_d 1 [(55, pv 3 0)] (by kernel_rfl) ?_
          refine o_s (by refine run_ld (v := iv (((applyS (makeS ns 60) (entS n)).1) 0)) rfl rfl ?_; exact pl_r ((applyS (makeS ns 60) (entS n)).1) 0 rfl (by omega)) ?_
          refine o_d 1 [(57, pv 1 0)] (by kernel_rfl) ?_
          refine o_s (by refine run_ld (v := iv ((makeS ns 60) 0)) rfl rfl ?_; exact pl_r (makeS ns 60) 0 rfl (by omega)) ?_
          refine o_d 3 [(61, bv ((((applyS (makeS ns 60) (entS n)).1) 0) == (IntKind.i64.wrap ((makeS ns 60) 0 + 1)))), (60, bv ((((applyS (makeS ns 60) (entS n)).1) 0) == (IntKind.i64.wrap ((makeS ns 60) 0 + 1)))), (59, iv (IntKind.i64.wrap ((makeS ns 60) 0 + 1)))] (by kernel_rfl) ?_
          refine o_sp (b := (((applyS (makeS ns 60) (entS n)).1) 0) == (IntKind.i64.wrap ((makeS ns 60) 0 + 1))) 61 rfl (fun k6 => ?_) (fun q => by rw [(by rw [apply_ver (Decidable.of_not_not h1')]; simp : ((((applyS (makeS ns 60) (entS n)).1) 0) == (IntKind.i64.wrap ((makeS ns 60) 0 + 1))) = true)] at q; cases q)
          refine o_d 2 [(63, pv 3 323), (62, pv 3 323)] (by kernel_rfl) ?_
          refine o_unguard rfl ?_
          refine o_s (by refine run_ld (v := iv (((applyS (makeS ns 60) (entS n)).1) 323)) rfl rfl ?_; exact pl_r ((applyS (makeS ns 60) (entS n)).1) 323 rfl (by omega)) ?_
          refine o_d 2 [(66, pv 1 323), (65, pv 1 323)] (by kernel_rfl) ?_
          refine o_unguard rfl ?_
          refine o_s (by refine run_ld (v := iv ((makeS ns 60) 323)) rfl rfl ?_; exact pl_r (makeS ns 60) 323 rfl (by omega)) ?_
          refine o_d 5 [(72, bv ((((applyS (makeS ns 60) (entS n)).1) 323) == (IntKind.i64.wrap ((makeS ns 60) 323 + 1)))), (71, bv ((((applyS (makeS ns 60) (entS n)).1) 323) == (IntKind.i64.wrap ((makeS ns 60) 323 + 1)))), (70, bv ((((applyS (makeS ns 60) (entS n)).1) 323) == (IntKind.i64.wrap ((makeS ns 60) 323 + 1)))), (69, iv (IntKind.i64.wrap ((makeS ns 60) 323 + 1))), (68, iv 1)] (by kernel_rfl) ?_
          refine o_sp (b := (((applyS (makeS ns 60) (entS n)).1) 323) == (IntKind.i64.wrap ((makeS ns 60) 323 + 1))) 72 rfl (fun k7 => ?_) (fun q => by rw [(by rw [apply_epoch (Decidable.of_not_not h1') h5']; simp : ((((applyS (makeS ns 60) (entS n)).1) 323) == (IntKind.i64.wrap ((makeS ns 60) 323 + 1))) = true)] at q; cases q)
          refine o_d 12 [(84, pv 3 1), (83, bv true), (82, bv true), (81, bv true), (80, undef), (79, undef), (78, undef), (77, undef), (76, undef), (75, bv true), (74, bv true), (73, iv 1)] (by kernel_rfl) ?_
          refine o_unguard rfl ?_
          refine o_s (by refine run_ld (v := iv (((applyS (makeS ns 60) (entS n)).1) 1)) rfl rfl ?_; exact pl_r ((applyS (makeS ns 60) (entS n)).1) 1 rfl (by omega)) ?_
          refine o_d 1 [(86, pv 1 1)] (by kernel_rfl) ?_
          refine o_unguard rfl ?_
          refine o_s (by refine run_ld (v := iv ((makeS ns 60) 1)) rfl rfl ?_; exact pl_r (makeS ns 60) 1 rfl (by omega)) ?_
          refine o_d 3 [(90, bv ((((applyS (makeS ns 60) (entS n)).1) 1) == ((makeS ns 60) 1))), (89, bv ((((applyS (makeS ns 60) (entS n)).1) 1) == ((makeS ns 60) 1))), (88, bv ((((applyS (makeS ns 60) (entS n)).1) 1) == ((makeS ns 60) 1)))] (by kernel_rfl) ?_
          refine o_sp (b := (((applyS (makeS ns 60) (entS n)).1) 1) == ((makeS ns 60) 1)) 90 rfl (fun k8 => ?_) (fun q => by rw [(by rw [(apply_place (Decidable.of_not_not h1')).1]; simp : ((((applyS (makeS ns 60) (entS n)).1) 1) == ((makeS ns 60) 1)) = true)] at q; cases q)
          refine o_d 1 [(91, pv 3 2)] (by kernel_rfl) ?_
          refine o_unguard rfl ?_
          refine o_s (by refine run_ld (v := iv (((applyS (makeS ns 60) (entS n)).1) 2)) rfl rfl ?_; exact pl_r ((applyS (makeS ns 60) (entS n)).1) 2 rfl (by omega)) ?_
          refine o_d 1 [(93, pv 1 2)] (by kernel_rfl) ?_
          refine o_unguard rfl ?_
          refine o_s (by refine run_ld (v := iv ((makeS ns 60) 2)) rfl rfl ?_; exact pl_r (makeS ns 60) 2 rfl (by omega)) ?_
          refine o_d 3 [(4, bv ((((applyS (makeS ns 60) (entS n)).1) 2) == ((makeS ns 60) 2))), (96, bv ((((applyS (makeS ns 60) (entS n)).1) 2) == ((makeS ns 60) 2))), (95, bv ((((applyS (makeS ns 60) (entS n)).1) 2) == ((makeS ns 60) 2)))] (by kernel_rfl) ?_
          refine o_nil ?_
          refine seq_regs [(4, bv ((((applyS (makeS ns 60) (entS n)).1) 2) == ((makeS ns 60) 2)))] (by kernel_rfl) ?_
          refine gret ?_
          have e0 : ((((applyS (makeS ns 60) (entS n)).1) 2) == ((makeS ns 60) 2)) = true := by
            first | (rw [apply_err (by assumption)]; exact eqP_self _) | (rw [(apply_place (Decidable.of_not_not (by assumption))).2]; simp)
          exact fin_ans [bv ((((applyS (makeS ns 60) (entS n)).1) 2) == ((makeS ns 60) 2))] (resV_t rfl rfl) rfl (by rw [e0]; rfl) rfl (show List.all [inB o (ii ns)] blkf = true from (all_cons (inB_gone _ (ii_scl ns)) rfl))
        · skip
          have h5' : ¬ ((entS n).k = 6) := eqI_f h5
          refine gskip ?_
          refine seq_go ?_
          refine gseq ?_
          refine greg ?_
          refine o_d 1 [(55, pv 3 0)] (by kernel_rfl) ?_
          refine o_s (by refine run_ld (v := iv (((applyS (makeS ns 60) (entS n)).1) 0)) rfl rfl ?_; exact pl_r ((applyS (makeS ns 60) (entS n)).1) 0 rfl (by omega)) ?_
          refine o_d 1 [(57, pv 1 0)] (by kernel_rfl) ?_
          refine o_s (by refine run_ld (v := iv ((makeS ns 60) 0)) rfl rfl ?_; exact pl_r (makeS ns 60) 0 rfl (by omega)) ?_
          refine o_d 3 [(61, bv ((((applyS (makeS ns 60) (entS n)).1) 0) == (IntKind.i64.wrap ((makeS ns 60) 0 + 1)))), (60, bv ((((applyS (makeS ns 60) (entS n)).1) 0) == (IntKind.i64.wrap ((makeS ns 60) 0 + 1)))), (59, iv (IntKind.i64.wrap ((makeS ns 60) 0 + 1)))] (by kernel_rfl) ?_
          refine o_sp (b := (((applyS (makeS ns 60) (entS n)).1) 0) == (IntKind.i64.wrap ((makeS ns 60) 0 + 1))) 61 rfl (fun k9 => ?_) (fun q => by rw [(by rw [apply_ver (Decidable.of_not_not h1')]; simp : ((((applyS (makeS ns 60) (entS n)).1) 0) == (IntKind.i64.wrap ((makeS ns 60) 0 + 1))) = true)] at q; cases q)
          refine o_d 2 [(63, pv 3 323), (62, pv 3 323)] (by kernel_rfl) ?_
          refine o_unguard rfl ?_
          refine o_s (by refine run_ld (v := iv (((applyS (makeS ns 60) (entS n)).1) 323)) rfl rfl ?_; exact pl_r ((applyS (makeS ns 60) (entS n)).1) 323 rfl (by omega)) ?_
          refine o_d 2 [(66, pv 1 323), (65, pv 1 323)] (by kernel_rfl) ?_
          refine o_unguard rfl ?_
          refine o_s (by refine run_ld (v := iv ((makeS ns 60) 323)) rfl rfl ?_; exact pl_r (makeS ns 60) 323 rfl (by omega)) ?_
          refine o_d 5 [(72, bv ((((applyS (makeS ns 60) (entS n)).1) 323) == (IntKind.i64.wrap ((makeS ns 60) 323 + 0)))), (71, bv ((((applyS (makeS ns 60) (entS n)).1) 323) == (IntKind.i64.wrap ((makeS ns 60) 323 + 0)))), (70, bv ((((applyS (makeS ns 60) (entS n)).1) 323) == (IntKind.i64.wrap ((makeS ns 60) 323 + 0)))), (69, iv (IntKind.i64.wrap ((makeS ns 60) 323 + 0))), (68, iv 0)] (by kernel_rfl) ?_
          refine o_sp (b := (((applyS (makeS ns 60) (entS n)).1) 323) == (IntKind.i64.wrap ((makeS ns 60) 323 + 0))) 72 rfl (fun k10 => ?_) (fun q => by rw [(by rw [apply_ring (Decidable.of_not_not h1') h5' (by omega), w64 (by omega) (by omega)]; simp : ((((applyS (makeS ns 60) (entS n)).1) 323) == (IntKind.i64.wrap ((makeS ns 60) 323 + 0))) = true)] at q; cases q)
          refine o_d 4 [(76, pv 3 323), (75, bv false), (74, bv false), (73, iv 0)] (by kernel_rfl) ?_
          refine o_unguard rfl ?_
          refine o_s (by refine run_ld (v := .agg #[iv (((applyS (makeS ns 60) (entS n)).1) 323), uv (((applyS (makeS ns 60) (entS n)).1) 324), uv (((applyS (makeS ns 60) (entS n)).1) 325), uv (((applyS (makeS ns 60) (entS n)).1) 326), uv (((applyS (makeS ns 60) (entS n)).1) 327), uv (((applyS (makeS ns 60) (entS n)).1) 328), uv (((applyS (makeS ns 60) (entS n)).1) 329)]) rfl rfl ?_; exact pl_ring ((applyS (makeS ns 60) (entS n)).1)) ?_
          refine o_d 1 [(78, pv 1 323)] (by kernel_rfl) ?_
          refine o_unguard rfl ?_
          refine o_s (by refine run_ld (v := .agg #[iv ((makeS ns 60) 323), uv ((makeS ns 60) 324), uv ((makeS ns 60) 325), uv ((makeS ns 60) 326), uv ((makeS ns 60) 327), uv ((makeS ns 60) 328), uv ((makeS ns 60) 329)]) rfl rfl ?_; exact pl_ring (makeS ns 60)) ?_
          refine o_d 4 [(83, bv (((((applyS (makeS ns 60) (entS n)).1) 323) == ((makeS ns 60) 323)) && (((((applyS (makeS ns 60) (entS n)).1) 324) == ((makeS ns 60) 324)) && (((((applyS (makeS ns 60) (entS n)).1) 325) == ((makeS ns 60) 325)) && (((((applyS (makeS ns 60) (entS n)).1) 326) == ((makeS ns 60) 326)) && (((((applyS (makeS ns 60) (entS n)).1) 327) == ((makeS ns 60) 327)) && (((((applyS (makeS ns 60) (entS n)).1) 328) == ((makeS ns 60) 328)) && (((((applyS (makeS ns 60) (entS n)).1) 329) == ((makeS ns 60) 329)) && true)))))))), (82, bv (((((applyS (makeS ns 60) (entS n)).1) 323) == ((makeS ns 60) 323)) && (((((applyS (makeS ns 60) (entS n)).1) 324) == ((makeS ns 60) 324)) && (((((applyS (makeS ns 60) (entS n)).1) 325) == ((makeS ns 60) 325)) && (((((applyS (makeS ns 60) (entS n)).1) 326) == ((makeS ns 60) 326)) && (((((applyS (makeS ns 60) (entS n)).1) 327) == ((makeS ns 60) 327)) && (((((applyS (makeS ns 60) (entS n)).1) 328) == ((makeS ns 60) 328)) && (((((applyS (makeS ns 60) (entS n)).1) 329) == ((makeS ns 60) 329)) && true)))))))), (81, bv (((((applyS (makeS ns 60) (entS n)).1) 323) == ((makeS ns 60) 323)) && (((((applyS (makeS ns 60) (entS n)).1) 324) == ((makeS ns 60) 324)) && (((((applyS (makeS ns 60) (entS n)).1) 325) == ((makeS ns 60) 325)) && (((((applyS (makeS ns 60) (entS n)).1) 326) == ((makeS ns 60) 326)) && (((((applyS (makeS ns 60) (entS n)).1) 327) == ((makeS ns 60) 327)) && (((((applyS (makeS ns 60) (entS n)).1) 328) == ((makeS ns 60) 328)) && (((((applyS (makeS ns 60) (entS n)).1) 329) == ((makeS ns 60) 329)) && true)))))))), (80, bv (((((applyS (makeS ns 60) (entS n)).1) 323) == ((makeS ns 60) 323)) && (((((applyS (makeS ns 60) (entS n)).1) 324) == ((makeS ns 60) 324)) && (((((applyS (makeS ns 60) (entS n)).1) 325) == ((makeS ns 60) 325)) && (((((applyS (makeS ns 60) (entS n)).1) 326) == ((makeS ns 60) 326)) && (((((applyS (makeS ns 60) (entS n)).1) 327) == ((makeS ns 60) 327)) && (((((applyS (makeS ns 60) (entS n)).1) 328) == ((makeS ns 60) 328)) && (((((applyS (makeS ns 60) (entS n)).1) 329) == ((makeS ns 60) 329)) && true))))))))] (by kernel_rfl) ?_
          refine o_sp (b := ((((applyS (makeS ns 60) (entS n)).1) 323) == ((makeS ns 60) 323)) && (((((applyS (makeS ns 60) (entS n)).1) 324) == ((makeS ns 60) 324)) && (((((applyS (makeS ns 60) (entS n)).1) 325) == ((makeS ns 60) 325)) && (((((applyS (makeS ns 60) (entS n)).1) 326) == ((makeS ns 60) 326)) && (((((applyS (makeS ns 60) (entS n)).1) 327) == ((makeS ns 60) 327)) && (((((applyS (makeS ns 60) (entS n)).1) 328) == ((makeS ns 60) 328)) && (((((applyS (makeS ns 60) (entS n)).1) 329) == ((makeS ns 60) 329)) && true))))))) 83 rfl (fun k11 => ?_) (fun q => by rw [(by simp only [apply_ring (Decidable.of_not_not h1') h5' (i := 323) (by omega), apply_ring (Decidable.of_not_not h1') h5' (i := 324) (by omega), apply_ring (Decidable.of_not_not h1') h5' (i := 325) (by omega), apply_ring (Decidable.of_not_not h1') h5' (i := 326) (by omega), apply_ring (Decidable.of_not_not h1') h5' (i := 327) (by omega), apply_ring (Decidable.of_not_not h1') h5' (i := 328) (by omega), apply_ring (Decidable.of_not_not h1') h5' (i := 329) (by omega)]; simp : (((((applyS (makeS ns 60) (entS n)).1) 323) == ((makeS ns 60) 323)) && (((((applyS (makeS ns 60) (entS n)).1) 324) == ((makeS ns 60) 324)) && (((((applyS (makeS ns 60) (entS n)).1) 325) == ((makeS ns 60) 325)) && (((((applyS (makeS ns 60) (entS n)).1) 326) == ((makeS ns 60) 326)) && (((((applyS (makeS ns 60) (entS n)).1) 327) == ((makeS ns 60) 327)) && (((((applyS (makeS ns 60) (entS n)).1) 328) == ((makeS ns 60) 328)) && (((((applyS (makeS ns 60) (entS n)).1) 329) == ((makeS ns 60) 329)) && true))))))) = true)] at q; cases q)
          refine o_d 1 [(84, pv 3 1)] (by kernel_rfl) ?_
          refine o_unguard rfl ?_
          refine o_s (by refine run_ld (v := iv (((applyS (makeS ns 60) (entS n)).1) 1)) rfl rfl ?_; exact pl_r ((applyS (makeS ns 60) (entS n)).1) 1 rfl (by omega)) ?_
          refine o_d 1 [(86, pv 1 1)] (by kernel_rfl) ?_
          refine o_unguard rfl ?_
          refine o_s (by refine run_ld (v := iv ((makeS ns 60) 1)) rfl rfl ?_; exact pl_r (makeS ns 60) 1 rfl (by omega)) ?_
          refine o_d 3 [(90, bv ((((applyS (makeS ns 60) (entS n)).1) 1) == ((makeS ns 60) 1))), (89, bv ((((applyS (makeS ns 60) (entS n)).1) 1) == ((makeS ns 60) 1))), (88, bv ((((applyS (makeS ns 60) (entS n)).1) 1) == ((makeS ns 60) 1)))] (by kernel_rfl) ?_
          refine o_sp (b := (((applyS (makeS ns 60) (entS n)).1) 1) == ((makeS ns 60) 1)) 90 rfl (fun k12 => ?_) (fun q => by rw [(by rw [(apply_place (Decidable.of_not_not h1')).1]; simp : ((((applyS (makeS ns 60) (entS n)).1) 1) == ((makeS ns 60) 1)) = true)] at q; cases q)
          refine o_d 1 [(91, pv 3 2)] (by kernel_rfl) ?_
          refine o_unguard rfl ?_
          refine o_s (by refine run_ld (v := iv (((applyS (makeS ns 60) (entS n)).1) 2)) rfl rfl ?_; exact pl_r ((applyS (makeS ns 60) (entS n)).1) 2 rfl (by omega)) ?_
          refine o_d 1 [(93, pv 1 2)] (by kernel_rfl) ?_
          refine o_unguard rfl ?_
          refine o_s (by refine run_ld (v := iv ((makeS ns 60) 2)) rfl rfl ?_; exact pl_r (makeS ns 60) 2 rfl (by omega)) ?_
          refine o_d 3 [(4, bv ((((applyS (makeS ns 60) (entS n)).1) 2) == ((makeS ns 60) 2))), (96, bv ((((applyS (makeS ns 60) (entS n)).1) 2) == ((makeS ns 60) 2))), (95, bv ((((applyS (makeS ns 60) (entS n)).1) 2) == ((makeS ns 60) 2)))] (by kernel_rfl) ?_
          refine o_nil ?_
          refine seq_regs [(4, bv ((((applyS (makeS ns 60) (entS n)).1) 2) == ((makeS ns 60) 2)))] (by kernel_rfl) ?_
          refine gret ?_
          have e0 : ((((applyS (makeS ns 60) (entS n)).1) 2) == ((makeS ns 60) 2)) = true := by
            first | (rw [apply_err (by assumption)]; exact eqP_self _) | (rw [(apply_place (Decidable.of_not_not (by assumption))).2]; simp)
          exact fin_ans [bv ((((applyS (makeS ns 60) (entS n)).1) 2) == ((makeS ns 60) 2))] (resV_t rfl rfl) rfl (by rw [e0]; rfl) rfl (show List.all [inB o (ii ns)] blkf = true from (all_cons (inB_gone _ (ii_scl ns)) rfl))
end Go.Rh
