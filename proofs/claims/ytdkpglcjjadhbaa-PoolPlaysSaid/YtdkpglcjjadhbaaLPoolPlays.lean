import Derived.Test.YtdkpglcjjadhbaaMe

set_option linter.unusedSimpArgs false
set_option linter.unusedVariables false
set_option maxRecDepth 100000
set_option maxHeartbeats 8000000
namespace Go.Rh
def c_law6_PoolPlays : IFunc :=
  ⟨94, [.tmp 6], (.seq (.reg [⟨(some 6), .mv (.c (.bool false)), none⟩]) (.seq (.seq (.reg [⟨(some 18), .call "roundhouse/roundhouselaw6.known" [], none⟩, ⟨(some 19), .un .not (.t 18), none⟩]) (.cond (.t 19) (.seq (.reg [⟨(some 6), .mv (.c (.bool false)), none⟩]) .ret) .skip)) (.seq (.reg [⟨(some 20), .mv (.t 1), none⟩, ⟨(some 21), .call "roundhouse/roundhouselaw6.within" [(.t 20), (.c (.int .i64 6))], none⟩, ⟨(some 22), .mv (.t 2), none⟩, ⟨(some 23), .call "roundhouse/roundhouselaw6.within" [(.t 22), (.c (.int .i64 4))], none⟩, ⟨(some 7), .mv (.t 21), none⟩, ⟨(some 8), .mv (.t 23), none⟩]) (.seq (.reg [⟨(some 25), .mv (.t 7), none⟩, ⟨(some 26), .mv (.t 8), none⟩, ⟨(some 27), .mv (.t 1), none⟩, ⟨(some 28), .call "roundhouse/roundhouselaw5.Key" [(.t 27)], none⟩, ⟨(some 29), .mv (.t 2), none⟩, ⟨(some 30), .call "roundhouse/roundhouselaw5.Key" [(.t 29)], none⟩, ⟨(some 31), .call "roundhouse/pool.New" [(.t 25), (.t 26), (.t 28), (.t 30)], none⟩, ⟨(some 24), .mv (.t 31), none⟩, ⟨(some 32), .ext 0 (.t 24), none⟩, ⟨(some 33), .ext 1 (.t 24), none⟩, ⟨(some 9), .new [(324, (.int .i64 0)), (6, (.int .u64 0))], none⟩, ⟨none, .st 330 (.t 9) (.t 32), none⟩, ⟨(some 10), .mv (.t 33), none⟩]) (.seq (.reg [⟨(some 35), .mv (.t 7), none⟩, ⟨(some 36), .mv (.t 8), none⟩, ⟨(some 37), .mv (.t 1), none⟩, ⟨(some 38), .call "roundhouse/roundhouselaw5.Key" [(.t 37)], none⟩, ⟨(some 39), .mv (.t 2), none⟩, ⟨(some 40), .call "roundhouse/roundhouselaw5.Key" [(.t 39)], none⟩, ⟨(some 41), .call "roundhouse/roundhouseref6.New" [(.t 35), (.t 36), (.t 38), (.t 40)], none⟩, ⟨(some 34), .mv (.t 41), none⟩, ⟨(some 42), .ext 0 (.t 34), none⟩, ⟨(some 43), .ext 1 (.t 34), none⟩, ⟨(some 11), .new [(324, (.int .i64 0)), (6, (.int .u64 0))], none⟩, ⟨none, .st 330 (.t 11) (.t 42), none⟩, ⟨(some 12), .mv (.t 43), none⟩]) (.seq (.seq (.reg [⟨(some 44), .mv (.t 10), none⟩, ⟨(some 45), .mv (.t 12), none⟩, ⟨(some 46), .bin .neq (.t 44) (.t 45), none⟩, ⟨(some 47), .mv (.t 46), none⟩, ⟨(some 48), .ld (some 330) (.t 9), some (47, false)⟩, ⟨(some 49), .ld (some 330) (.t 11), some (47, false)⟩, ⟨(some 50), .eqa true [(330, .i)] (.t 48) (.t 49), some (47, false)⟩, ⟨(some 51), .pick (.t 47) (.c (.bool true)) (.t 50), none⟩]) (.cond (.t 51) (.seq (.reg [⟨(some 6), .mv (.c (.bool false)), none⟩]) .ret) .skip)) (.seq (.seq (.reg [⟨(some 13), .mv (.c (.int .i64 0)), none⟩]) (.block 0 (.loop (.seq (.seq (.reg [⟨(some 52), .mv (.t 13), none⟩, ⟨(some 53), .mv (.t 0), none⟩, ⟨(some 54), .lenS (.t 53), none⟩, ⟨(some 55), .bin .lss (.t 52) (.t 54), none⟩, ⟨(some 56), .mv (.t 55), none⟩, ⟨(some 57), .mv (.t 13), some (56, true)⟩, ⟨(some 58), .bin .lss (.t 57) (.c (.int .i64 80)), some (56, true)⟩, ⟨(some 59), .pick (.t 56) (.t 58) (.c (.bool false)), none⟩]) (.cond (.t 59) .skip (.exit 0))) (.seq (.block 1 (.seq (.dreg [⟨(some 63), .ld (some 330) (.t 9), none⟩, ⟨(some 64), .mv (.t 0), none⟩, ⟨(some 65), .mv (.t 13), none⟩, ⟨(some 66), .iadS 1 (.t 64) (.t 65), none⟩, ⟨(some 67), .ld none (.t 66), none⟩, ⟨(some 68), .call "roundhouse/roundhouselaw6.Entry" [(.t 67)], none⟩, ⟨(some 69), .call "roundhouse/pool.Apply" [(.t 63), (.t 68)], none⟩, ⟨(some 62), .mv (.t 69), none⟩, ⟨(some 70), .ext 0 (.t 62), none⟩, ⟨(some 71), .ext 1 (.t 62), none⟩, ⟨(some 14), .new [(324, (.int .i64 0)), (6, (.int .u64 0))], none⟩, ⟨none, .st 330 (.t 14) (.t 70), none⟩, ⟨(some 15), .mv (.t 71), none⟩] [[], [], [], [1, 2], [3, 1, 2], [4, 3, 1, 2], [0, 5, 4, 3, 1, 2], [6, 0, 5, 4, 3, 1, 2], [7, 6, 0, 5, 4, 3, 1, 2], [7, 6, 0, 5, 4, 3, 1, 2], [], [10, 8, 7, 6, 0, 5, 4, 3, 1, 2], [9, 7, 6, 0, 5, 4, 3, 1, 2, 11, 10, 8]]) (.seq (.dreg [⟨(some 73), .ld (some 330) (.t 11), none⟩, ⟨(some 74), .mv (.t 0), none⟩, ⟨(some 75), .mv (.t 13), none⟩, ⟨(some 76), .iadS 1 (.t 74) (.t 75), none⟩, ⟨(some 77), .ld none (.t 76), none⟩, ⟨(some 78), .call "roundhouse/roundhouselaw6.Entry" [(.t 77)], none⟩, ⟨(some 79), .call "roundhouse/roundhouseref6.Apply" [(.t 73), (.t 78)], none⟩, ⟨(some 72), .mv (.t 79), none⟩, ⟨(some 80), .ext 0 (.t 72), none⟩, ⟨(some 81), .ext 1 (.t 72), none⟩, ⟨(some 16), .new [(324, (.int .i64 0)), (6, (.int .u64 0))], none⟩, ⟨none, .st 330 (.t 16) (.t 80), none⟩, ⟨(some 17), .mv (.t 81), none⟩] [[], [], [], [1, 2], [3, 1, 2], [4, 3, 1, 2], [0, 5, 4, 3, 1, 2], [6, 0, 5, 4, 3, 1, 2], [7, 6, 0, 5, 4, 3, 1, 2], [7, 6, 0, 5, 4, 3, 1, 2], [], [10, 8, 7, 6, 0, 5, 4, 3, 1, 2], [9, 7, 6, 0, 5, 4, 3, 1, 2, 11, 10, 8]]) (.seq (.seq (.reg [⟨(some 82), .mv (.t 15), none⟩, ⟨(some 83), .mv (.t 17), none⟩, ⟨(some 84), .bin .neq (.t 82) (.t 83), none⟩, ⟨(some 85), .mv (.t 84), none⟩, ⟨(some 86), .ld (some 330) (.t 14), some (85, false)⟩, ⟨(some 87), .ld (some 330) (.t 16), some (85, false)⟩, ⟨(some 88), .eqa true [(330, .i)] (.t 86) (.t 87), some (85, false)⟩, ⟨(some 89), .pick (.t 85) (.c (.bool true)) (.t 88), none⟩]) (.cond (.t 89) (.seq (.reg [⟨(some 6), .mv (.c (.bool false)), none⟩]) .ret) .skip)) (.seq (.reg [⟨(some 90), .mv (.t 15), none⟩, ⟨(some 91), .bin .eql (.t 90) (.c (.int .i64 0)), none⟩]) (.cond (.t 91) (.dreg [⟨(some 92), .ld (some 330) (.t 14), none⟩, ⟨(some 93), .ld (some 330) (.t 16), none⟩, ⟨none, .st 330 (.t 9) (.t 92), none⟩, ⟨none, .st 330 (.t 11) (.t 93), none⟩] [[], [], [0], [1, 2, 0]]) .skip)))))) (.reg [⟨(some 60), .mv (.t 13), none⟩, ⟨(some 61), .bin .add (.t 60) (.c (.int .i64 1)), none⟩, ⟨(some 13), .mv (.t 61), none⟩])))))) (.seq (.reg [⟨(some 6), .mv (.c (.bool true)), none⟩]) .ret))))))))⟩
theorem PoolPlaysC {P : Program} (hc : codeOf P "roundhouse/roundhouselaw6.PoolPlays" = some c_law6_PoolPlays) (h_law6_known : codeOf P "roundhouse/roundhouselaw6.known" = some c_law6_known) (h_pool_New : codeOf P "roundhouse/pool.New" = some c_pool_New) (h_pool_placed : codeOf P "roundhouse/pool.placed" = some c_pool_placed) (h_cookie_Ring : codeOf P "roundhouse/cookie.Ring" = some c_cookie_Ring) (h_pool_Find : codeOf P "roundhouse/pool.Find" = some c_pool_Find) (h_pool_may : codeOf P "roundhouse/pool.may" = some c_pool_may) (h_pool_All : codeOf P "roundhouse/pool.All" = some c_pool_All) (h_pool_Apply : codeOf P "roundhouse/pool.Apply" = some c_pool_Apply) (h_pool_held : codeOf P "roundhouse/pool.held" = some c_pool_held) (h_pool_fits : codeOf P "roundhouse/pool.fits" = some c_pool_fits) (h_pool_Check : codeOf P "roundhouse/pool.Check" = some c_pool_Check) (h_cookie_Next : codeOf P "roundhouse/cookie.Next" = some c_cookie_Next) (h_pool_Takes : codeOf P "roundhouse/pool.Takes" = some c_pool_Takes) (h_law6_within : codeOf P "roundhouse/roundhouselaw6.within" = some c_law6_within) (h_law5_Key : codeOf P "roundhouse/roundhouselaw5.Key" = some c_law5_Key) (h_ref6_New : codeOf P "roundhouse/roundhouseref6.New" = some c_ref6_New) (h_ref6_out : codeOf P "roundhouse/roundhouseref6.out" = some c_ref6_out) (h_ref5_Ring : codeOf P "roundhouse/roundhouseref5.Ring" = some c_ref5_Ring) (h_law6_Entry : codeOf P "roundhouse/roundhouselaw6.Entry" = some c_law6_Entry) (h_ref6_Apply : codeOf P "roundhouse/roundhouseref6.Apply" = some c_ref6_Apply) (h_ref6_Check : codeOf P "roundhouse/roundhouseref6.Check" = some c_ref6_Check) (h_ref6_bad : codeOf P "roundhouse/roundhouseref6.bad" = some c_ref6_bad) (h_ref6_Held : codeOf P "roundhouse/roundhouseref6.Held" = some c_ref6_Held) (h_ref5_Next : codeOf P "roundhouse/roundhouseref5.Next" = some c_ref5_Next) (o : Option Nat) (ns : List Int) (hnns : o = none → ns = []) (hl : (ns.length : Int) ≤ 9223372036854775807) (addr port : Int) :
    Env P "roundhouse/roundhouselaw6.PoolPlays" [inV o 0 ns.length, iv addr, iv port] ([inB o (ii ns)]) (Ans (.bool true) ([inB o (ii ns)])) := by
  refine Env.by hc ?_
  unfold c_law6_PoolPlays
  show GC _ 1 _ _ ⟨reg [(0, inV o 0 ns.length), (1, iv addr), (2, iv port)], [inB o (ii ns)]⟩
  refine gseq ?_
  refine greg ?_
  refine o_d 1 [(6, bv false)] (by kernel_rfl) ?_
  refine o_nil ?_
  refine seq_go ?_
  refine gseq ?_
  refine gseq ?_
  refine greg ?_
  refine o_cl (callV (knownC h_law6_known h_pool_New h_pool_placed h_cookie_Ring h_pool_Find h_pool_may h_pool_All h_pool_Apply h_pool_held h_pool_fits h_pool_Check h_cookie_Next h_pool_Takes) rfl rfl rfl ?_)
  refine o_d 1 [(19, bv false)] (by kernel_rfl) ?_
  refine o_nil ?_
  refine seq_go ?_
  refine gfalse rfl ?_
  refine gskip ?_
  refine seq_go ?_
  refine gseq ?_
  refine greg ?_
  refine o_d 1 [(20, iv addr)] (by kernel_rfl) ?_
  refine o_cl (callV (withinC h_law6_within addr 6 (by decide)) rfl rfl rfl ?_)
  refine o_d 1 [(22, iv port)] (by kernel_rfl) ?_
  refine o_cl (callV (withinC h_law6_within port 4 (by decide)) rfl rfl rfl ?_)
  refine o_d 2 [(8, iv (withinS port 4)), (7, iv (withinS addr 6))] (by kernel_rfl) ?_
  refine o_nil ?_
  refine seq_go ?_
  refine gseq ?_
  refine greg ?_
  refine o_d 3 [(27, iv addr), (26, iv (withinS port 4)), (25, iv (withinS addr 6))] (by kernel_rfl) ?_
  refine o_cl (callV (KeyC h_law5_Key addr) rfl rfl rfl ?_)
  refine o_d 1 [(29, iv port)] (by kernel_rfl) ?_
  refine o_cl (callV (KeyC h_law5_Key port) rfl rfl rfl ?_)
  refine o_cl (callV (NewC' h_pool_New h_pool_placed h_cookie_Ring (withinS addr 6) (withinS port 4) (keyA addr) (keyB addr) (keyA port) (keyB port)) rfl rfl (all_cons (poolV_aggf ((newP (withinS addr 6) (withinS port 4) (keyA addr) (keyB addr) (keyA port) (keyB port)).1)) (all_cons rfl rfl)) ?_)
  refine o_b 4 [(9, pv 1 0), (33, iv ((newP (withinS addr 6) (withinS port 4) (keyA addr) (keyB addr) (keyA port) (keyB port)).2)), (32, poolV ((newP (withinS addr 6) (withinS port 4) (keyA addr) (keyB addr) (keyA port) (keyB port)).1)), (24, .tuple #[poolV ((newP (withinS addr 6) (withinS port 4) (keyA addr) (keyB addr) (keyA port) (keyB port)).1), iv ((newP (withinS addr 6) (withinS port 4) (keyA addr) (keyB addr) (keyA port) (keyB port)).2)])] [inB o (ii ns), cw (pl zeroP)] (by kernel_rfl) ?_
  refine o_s0 (by refine run_st (c' := pl ((newP (withinS addr 6) (withinS port 4) (keyA addr) (keyB addr) (keyA port) (keyB port)).1)) rfl rfl rfl ?_ ?_ ?_; exact pl_length _; exact pl_le (by omega); exact splice_pl0 zeroP ((newP (withinS addr 6) (withinS port 4) (keyA addr) (keyB addr) (keyA port) (keyB port)).1)) ?_
  refine o_b 1 [(10, iv ((newP (withinS addr 6) (withinS port 4) (keyA addr) (keyB addr) (keyA port) (keyB port)).2))] [inB o (ii ns), cw (pl ((newP (withinS addr 6) (withinS port 4) (keyA addr) (keyB addr) (keyA port) (keyB port)).1))] (by kernel_rfl) ?_
  refine o_nil ?_
  refine seq_go ?_
  refine gseq ?_
  refine greg ?_
  refine o_d 3 [(37, iv addr), (36, iv (withinS port 4)), (35, iv (withinS addr 6))] (by kernel_rfl) ?_
  refine o_cl (callV (KeyC h_law5_Key addr) rfl rfl rfl ?_)
  refine o_d 1 [(39, iv port)] (by kernel_rfl) ?_
  refine o_cl (callV (KeyC h_law5_Key port) rfl rfl rfl ?_)
  refine o_cl (callV (refNewC h_ref6_New h_ref6_out h_ref5_Ring (withinS addr 6) (withinS port 4) (keyA addr) (keyB addr) (keyA port) (keyB port)) rfl rfl (all_cons (poolV_aggf ((newP (withinS addr 6) (withinS port 4) (keyA addr) (keyB addr) (keyA port) (keyB port)).1)) (all_cons rfl rfl)) ?_)
  refine o_b 4 [(11, pv 2 0), (43, iv ((newP (withinS addr 6) (withinS port 4) (keyA addr) (keyB addr) (keyA port) (keyB port)).2)), (42, poolV ((newP (withinS addr 6) (withinS port 4) (keyA addr) (keyB addr) (keyA port) (keyB port)).1)), (34, .tuple #[poolV ((newP (withinS addr 6) (withinS port 4) (keyA addr) (keyB addr) (keyA port) (keyB port)).1), iv ((newP (withinS addr 6) (withinS port 4) (keyA addr) (keyB addr) (keyA port) (keyB port)).2)])] [inB o (ii ns), cw (pl ((newP (withinS addr 6) (withinS port 4) (keyA addr) (keyB addr) (keyA port) (keyB port)).1)), cw (pl zeroP)] (by kernel_rfl) ?_
  refine o_s0 (by refine run_st (c' := pl ((newP (withinS addr 6) (withinS port 4) (keyA addr) (keyB addr) (keyA port) (keyB port)).1)) rfl rfl rfl ?_ ?_ ?_; exact pl_length _; exact pl_le (by omega); exact splice_pl0 zeroP ((newP (withinS addr 6) (withinS port 4) (keyA addr) (keyB addr) (keyA port) (keyB port)).1)) ?_
  refine o_b 1 [(12, iv ((newP (withinS addr 6) (withinS port 4) (keyA addr) (keyB addr) (keyA port) (keyB port)).2))] [inB o (ii ns), cw (pl ((newP (withinS addr 6) (withinS port 4) (keyA addr) (keyB addr) (keyA port) (keyB port)).1)), cw (pl ((newP (withinS addr 6) (withinS port 4) (keyA addr) (keyB addr) (keyA port) (keyB port)).1))] (by kernel_rfl) ?_
  refine o_nil ?_
  refine seq_regs [(12, iv ((newP (withinS addr 6) (withinS port 4) (keyA addr) (keyB addr) (keyA port) (keyB port)).2)), (11, pv 2 0), (10, iv ((newP (withinS addr 6) (withinS port 4) (keyA addr) (keyB addr) (keyA port) (keyB port)).2)), (9, pv 1 0), (0, inV o 0 ns.length)] (by kernel_rfl) ?_
  refine gseq ?_
  refine gseq ?_
  refine greg ?_
  refine o_d 2 [(45, iv ((newP (withinS addr 6) (withinS port 4) (keyA addr) (keyB addr) (keyA port) (keyB port)).2)), (44, iv ((newP (withinS addr 6) (withinS port 4) (keyA addr) (keyB addr) (keyA port) (keyB port)).2))] (by kernel_rfl) ?_
  refine o_s (by refine run_val (v := bv (((newP (withinS addr 6) (withinS port 4) (keyA addr) (keyB addr) (keyA port) (keyB port)).2) != ((newP (withinS addr 6) (withinS port 4) (keyA addr) (keyB addr) (keyA port) (keyB port)).2))) (congrArg Value.bool (bne_self_eq_false ((newP (withinS addr 6) (withinS port 4) (keyA addr) (keyB addr) (keyA port) (keyB port)).2))) ?_; kernel_rfl) ?_
  refine o_d 1 [(47, bv false)] (by kernel_rfl) ?_
  refine o_unguard rfl ?_
  refine o_s (by refine run_ld (v := poolV ((newP (withinS addr 6) (withinS port 4) (keyA addr) (keyB addr) (keyA port) (keyB port)).1)) rfl rfl ?_; exact pl_all ((newP (withinS addr 6) (withinS port 4) (keyA addr) (keyB addr) (keyA port) (keyB port)).1)) ?_
  refine o_unguard rfl ?_
  refine o_s (by refine run_ld (v := poolV ((newP (withinS addr 6) (withinS port 4) (keyA addr) (keyB addr) (keyA port) (keyB port)).1)) rfl rfl ?_; exact pl_all ((newP (withinS addr 6) (withinS port 4) (keyA addr) (keyB addr) (keyA port) (keyB port)).1)) ?_
  refine o_unguard rfl ?_
  refine o_s (by refine run_eqa (a := ⟨pl ((newP (withinS addr 6) (withinS port 4) (keyA addr) (keyB addr) (keyA port) (keyB port)).1)⟩) (b := ⟨pl ((newP (withinS addr 6) (withinS port 4) (keyA addr) (keyB addr) (keyA port) (keyB port)).1)⟩) (r := true) (R := false) ?_ rfl; exact eqP_runR ((newP (withinS addr 6) (withinS port 4) (keyA addr) (keyB addr) (keyA port) (keyB port)).1) rfl rfl) ?_
  refine o_d 1 [(51, bv false)] (by kernel_rfl) ?_
  refine o_nil ?_
  refine seq_go ?_
  refine gfalse rfl ?_
  refine gskip ?_
  refine seq_go ?_
  refine gseq ?_
  refine gseq ?_
  refine greg ?_
  refine o_d 1 [(13, iv 0)] (by kernel_rfl) ?_
  refine o_nil ?_
  refine seq_go ?_
  refine gblock ?_
  refine gloop (fun μ s => ∃ (i : Nat), ∃ (d : Flat), μ = ns.length - i ∧ (i ≤ ns.length ∧ i ≤ 80) ∧ s = ⟨reg [(13, iv (i : Int)), (11, pv 2 0), (9, pv 1 0), (0, inV o 0 ns.length)], [inB o (ii ns), cw (pl d), cw (pl d)]⟩) ⟨(ns.length - 0), ?_⟩ ?_
  · skip
    refine ⟨⟨reg [(13, iv (0 : Int)), (11, pv 2 0), (9, pv 1 0), (0, inV o 0 ns.length)], [inB o (ii ns), cw (pl ((newP (withinS addr 6) (withinS port 4) (keyA addr) (keyB addr) (keyA port) (keyB port)).1)), cw (pl ((newP (withinS addr 6) (withinS port 4) (keyA addr) (keyB addr) (keyA port) (keyB port)).1))]⟩, ?_⟩
    refine ⟨?_, ?_⟩
    · exact Wk.ren [0, 1, 2] rfl rfl (by decide) ⟨rfl, ⟨rfl, ⟨rfl, ⟨((renV_inV o rfl)).trans rfl, trivial⟩⟩⟩⟩ ⟨.inl (ren_inB o (ii_scl ns)), ⟨.inl (ren_cells (pl_scl ((newP (withinS addr 6) (withinS port 4) (keyA addr) (keyB addr) (keyA port) (keyB port)).1))), ⟨.inl (ren_cells (pl_scl ((newP (withinS addr 6) (withinS port 4) (keyA addr) (keyB addr) (keyA port) (keyB port)).1))), trivial⟩⟩⟩
    · exact ⟨0, ((newP (withinS addr 6) (withinS port 4) (keyA addr) (keyB addr) (keyA port) (keyB port)).1), rfl, ⟨Nat.zero_le _, Nat.zero_le _⟩, rfl⟩
  · rintro μ s ⟨i, d, rfl, hi, rfl⟩
    refine gseq ?_
    refine gseq ?_
    refine greg ?_
    refine o_d 2 [(53, inV o 0 ns.length), (52, iv (i : Int))] (by kernel_rfl) ?_
    refine o_s (by exact run_lenIn rfl (fun q => by rw [hnns q]; rfl)) ?_
    refine o_d 2 [(56, bv (decide ((i : Int) < (ns.length : Nat)))), (55, bv (decide ((i : Int) < (ns.length : Nat))))] (by kernel_rfl) ?_
    refine o_sp (b := decide ((i : Int) < (ns.length : Nat))) 56 rfl (fun h1 => ?_) (fun h1 => ?_)
    · skip
      have h1' : (i : Int) < (ns.length : Nat) := of_decide_eq_true h1
      refine o_d 3 [(59, bv (decide ((i : Int) < 80))), (58, bv (decide ((i : Int) < 80))), (57, iv (i : Int))] (by kernel_rfl) ?_
      refine o_nil ?_
      refine seq_go ?_
      refine gcond (t := decide ((i : Int) < 80)) rfl (fun h2 => ?_) (fun h2 => ?_)
      · skip
        have h2' : (i : Int) < 80 := of_decide_eq_true h2
        obtain ⟨x, hx, hd, ht⟩ := get_of_lt (l := ns) (i := i) (by omega)
        refine gskip ?_
        refine seq_go ?_
        refine gseq ?_
        refine gblock ?_
        refine gseq ?_
        refine gdreg ["roundhouse/roundhouselaw6.Entry", "roundhouse/roundhouseref6.Apply", "roundhouse/pool.Apply"] (by kernel_rfl) ?_
        refine r_s (by refine run_ld (v := poolV d) rfl rfl ?_; exact pl_all d) ?_
        refine r_d 2 [(65, iv (i : Int)), (64, inV o 0 ns.length)] (by kernel_rfl) ?_
        refine r_s (by exact run_iadIn (o' := i) rfl (fun q => by rw [hnns q]; rfl) rfl (by omega) (by omega)) ?_
        refine r_s (by refine run_ld (v := iv x) rfl (hf_in (n := ns.length) rfl (fun q => by rw [hnns q]; rfl) (by omega)) ?_; exact ii_r (i := i) (by omega) hx) ?_
        refine r_cl (callVR (EntryC h_law6_Entry h_law6_within h_law5_Key x) rfl rfl rfl ?_)
        refine r_cl (callVR (ApplyC h_pool_Apply h_pool_may h_pool_held h_pool_fits h_pool_Check h_pool_placed h_cookie_Next d (entS x)) rfl (all_cons (poolV_vpf d) (all_cons rfl rfl)) (all_cons (poolV_aggf ((applyS d (entS x)).1)) (all_cons rfl rfl)) ?_)
        refine r_b 4 [(14, pv 3 0), (71, iv ((applyS d (entS x)).2)), (70, poolV ((applyS d (entS x)).1)), (62, .tuple #[poolV ((applyS d (entS x)).1), iv ((applyS d (entS x)).2)])] [inB o (ii ns), cw (pl d), cw (pl d), cw (pl zeroP)] (by kernel_rfl) ?_
        refine r_s0 (by refine run_st (c' := pl ((applyS d (entS x)).1)) rfl rfl rfl ?_ ?_ ?_; exact pl_length _; exact pl_le (by omega); exact splice_pl0 zeroP ((applyS d (entS x)).1)) ?_
        refine r_b 1 [(15, iv ((applyS d (entS x)).2))] [inB o (ii ns), cw (pl d), cw (pl d), cw (pl ((applyS d (entS x)).1))] (by kernel_rfl) ?_
        refine r_nil ?_
        refine seq_go ?_
        refine gseq ?_
        refine gdreg ["roundhouse/roundhouselaw6.Entry", "roundhouse/roundhouseref6.Apply", "roundhouse/pool.Apply"] (by kernel_rfl) ?_
        refine r_s (by refine run_ld (v := poolV d) rfl rfl ?_; exact pl_all d) ?_
        refine r_d 2 [(75, iv (i : Int)), (74, inV o 0 ns.length)] (by kernel_rfl) ?_
        refine r_s (by exact run_iadIn (o' := i) rfl (fun q => by rw [hnns q]; rfl) rfl (by omega) (by omega)) ?_
        refine r_s (by refine run_ld (v := iv x) rfl (hf_in (n := ns.length) rfl (fun q => by rw [hnns q]; rfl) (by omega)) ?_; exact ii_r (i := i) (by omega) hx) ?_
        refine r_cl (callVR (EntryC h_law6_Entry h_law6_within h_law5_Key x) rfl rfl rfl ?_)
        refine r_cl (callVR (refApplyC h_ref6_Apply h_ref6_Check h_ref6_out h_ref6_bad h_ref6_Held h_ref5_Next d (entS x)) rfl (all_cons (poolV_vpf d) (all_cons rfl rfl)) (all_cons (poolV_aggf ((applyS d (entS x)).1)) (all_cons rfl rfl)) ?_)
        refine r_b 4 [(16, pv 4 0), (81, iv ((applyS d (entS x)).2)), (80, poolV ((applyS d (entS x)).1)), (72, .tuple #[poolV ((applyS d (entS x)).1), iv ((applyS d (entS x)).2)])] [inB o (ii ns), cw (pl d), cw (pl d), cw (pl ((applyS d (entS x)).1)), cw (pl zeroP)] (by kernel_rfl) ?_
        refine r_s0 (by refine run_st (c' := pl ((applyS d (entS x)).1)) rfl rfl rfl ?_ ?_ ?_; exact pl_length _; exact pl_le (by omega); exact splice_pl0 zeroP ((applyS d (entS x)).1)) ?_
        refine r_b 1 [(17, iv ((applyS d (entS x)).2))] [inB o (ii ns), cw (pl d), cw (pl d), cw (pl ((applyS d (entS x)).1)), cw (pl ((applyS d (entS x)).1))] (by kernel_rfl) ?_
        refine r_nil ?_
        refine seq_regs [(17, iv ((applyS d (entS x)).2)), (16, pv 4 0), (15, iv ((applyS d (entS x)).2)), (14, pv 3 0), (13, iv (i : Int)), (11, pv 2 0), (9, pv 1 0), (0, inV o 0 ns.length)] (by kernel_rfl) ?_
        refine gseq ?_
        refine gseq ?_
        refine greg ?_
        refine o_d 2 [(83, iv ((applyS d (entS x)).2)), (82, iv ((applyS d (entS x)).2))] (by kernel_rfl) ?_
        refine o_s (by refine run_val (v := bv (((applyS d (entS x)).2) != ((applyS d (entS x)).2))) (congrArg Value.bool (bne_self_eq_false ((applyS d (entS x)).2))) ?_; kernel_rfl) ?_
        refine o_d 1 [(85, bv false)] (by kernel_rfl) ?_
        refine o_unguard rfl ?_
        refine o_s (by refine run_ld (v := poolV ((applyS d (entS x)).1)) rfl rfl ?_; exact pl_all ((applyS d (entS x)).1)) ?_
        refine o_unguard rfl ?_
        refine o_s (by refine run_ld (v := poolV ((applyS d (entS x)).1)) rfl rfl ?_; exact pl_all ((applyS d (entS x)).1)) ?_
        refine o_unguard rfl ?_
        refine o_s (by refine run_eqa (a := ⟨pl ((applyS d (entS x)).1)⟩) (b := ⟨pl ((applyS d (entS x)).1)⟩) (r := true) (R := false) ?_ rfl; exact eqP_runR ((applyS d (entS x)).1) rfl rfl) ?_
        refine o_d 1 [(89, bv false)] (by kernel_rfl) ?_
        refine o_nil ?_
        refine seq_go ?_
        refine gfalse rfl ?_
        refine gskip ?_
        refine seq_go ?_
        refine gseq ?_
        refine greg ?_
        refine o_d 2 [(91, bv (((applyS d (entS x)).2) == 0)), (90, iv ((applyS d (entS x)).2))] (by kernel_rfl) ?_
        refine o_nil ?_
        refine seq_go ?_
        refine gcond (t := ((applyS d (entS x)).2) == 0) rfl (fun h3 => ?_) (fun h3 => ?_)
        · skip
          have h3' : (applyS d (entS x)).2 = 0 := eqI_t h3
          refine gdregK [(93, poolV ((applyS d (entS x)).1)), (92, poolV ((applyS d (entS x)).1))] [inB o (ii ns), cw (pl ((applyS d (entS x)).1)), cw (pl ((applyS d (entS x)).1)), cw (pl ((applyS d (entS x)).1)), cw (pl ((applyS d (entS x)).1))] (by kernel_rfl) ?_
          refine seq_go ?_
          refine greg ?_
          refine o_d 1 [(60, iv (i : Int))] (by kernel_rfl) ?_
          refine o_s (by refine run_val (v := .int .i64 (IntKind.i64.wrap ((i : Int) + 1))) (congrArg (Value.int .i64) (w64 (by omega) (by omega))) ?_; kernel_rfl) ?_
          refine o_d 1 [(13, iv ((i : Int) + 1))] (by kernel_rfl) ?_
          refine o_nil ?_
          refine ⟨ns.length - (i + 1), ?_⟩
          refine ⟨⟨reg [(13, iv ((i + 1) : Int)), (11, pv 2 0), (9, pv 1 0), (0, inV o 0 ns.length)], [inB o (ii ns), cw (pl ((applyS d (entS x)).1)), cw (pl ((applyS d (entS x)).1))]⟩, ?_⟩
          refine and3 (by omega) ⟨?_, ?_⟩
          · exact Wk.ren [0, 1, 2] rfl rfl (by decide) ⟨rfl, ⟨rfl, ⟨rfl, ⟨((renV_inV o rfl)).trans rfl, trivial⟩⟩⟩⟩ ⟨.inl (ren_inB o (ii_scl ns)), ⟨.inl (ren_cells (pl_scl ((applyS d (entS x)).1))), ⟨.inl (ren_cells (pl_scl ((applyS d (entS x)).1))), trivial⟩⟩⟩
          · exact ⟨(i + 1), ((applyS d (entS x)).1), rfl, by omega, rfl⟩
        · skip
          have h3' : ¬ ((applyS d (entS x)).2 = 0) := eqI_f h3
          refine gskip ?_
          refine seq_go ?_
          refine greg ?_
          refine o_d 1 [(60, iv (i : Int))] (by kernel_rfl) ?_
          refine o_s (by refine run_val (v := .int .i64 (IntKind.i64.wrap ((i : Int) + 1))) (congrArg (Value.int .i64) (w64 (by omega) (by omega))) ?_; kernel_rfl) ?_
          refine o_d 1 [(13, iv ((i : Int) + 1))] (by kernel_rfl) ?_
          refine o_nil ?_
          refine ⟨ns.length - (i + 1), ?_⟩
          refine ⟨⟨reg [(13, iv ((i + 1) : Int)), (11, pv 2 0), (9, pv 1 0), (0, inV o 0 ns.length)], [inB o (ii ns), cw (pl d), cw (pl d)]⟩, ?_⟩
          refine and3 (by omega) ⟨?_, ?_⟩
          · exact Wk.ren [0, 1, 2] rfl rfl (by decide) ⟨rfl, ⟨rfl, ⟨rfl, ⟨((renV_inV o rfl)).trans rfl, trivial⟩⟩⟩⟩ ⟨.inl (ren_inB o (ii_scl ns)), ⟨.inl (ren_cells (pl_scl d)), ⟨.inl (ren_cells (pl_scl d)), trivial⟩⟩⟩
          · exact ⟨(i + 1), d, rfl, by omega, rfl⟩
      · skip
        have h2' : ¬ ((i : Int) < 80) := of_decide_eq_false h2
        refine gexit ?_
        refine seq_go ?_
        refine gseq ?_
        refine greg ?_
        refine o_d 1 [(6, bv true)] (by kernel_rfl) ?_
        refine o_nil ?_
        refine seq_go ?_
        refine gret ?_
        exact fin_ans [bv true] (resV_t rfl rfl) rfl (by rfl) rfl (show List.all [inB o (ii ns)] blkf = true from (all_cons (inB_gone _ (ii_scl ns)) rfl))
    · skip
      have h1' : ¬ ((i : Int) < (ns.length : Nat)) := of_decide_eq_false h1
      refine o_d 3 [(59, bv false), (58, undef), (57, undef)] (by kernel_rfl) ?_
      refine o_nil ?_
      refine seq_go ?_
      refine gfalse rfl ?_
      refine gexit ?_
      refine seq_go ?_
      refine gseq ?_
      refine greg ?_
      refine o_d 1 [(6, bv true)] (by kernel_rfl) ?_
      refine o_nil ?_
      refine seq_go ?_
      refine gret ?_
      exact fin_ans [bv true] (resV_t rfl rfl) rfl (by rfl) rfl (show List.all [inB o (ii ns)] blkf = true from (all_cons (inB_gone _ (ii_scl ns)) rfl))
end Go.Rh
