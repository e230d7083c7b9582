import Derived.Test.YtdkpglcjjadhbaaMe

set_option linter.unusedSimpArgs false
set_option linter.unusedVariables false
set_option maxRecDepth 100000
set_option maxHeartbeats 8000000
namespace Go.Rh
def c_law6_PoolFinds : IFunc :=
  ⟨124, [.tmp 10], (.seq (.reg [⟨(some 10), .mv (.c (.bool false)), none⟩]) (.seq (.seq (.reg [⟨(some 24), .call "roundhouse/roundhouselaw6.known" [], none⟩, ⟨(some 25), .un .not (.t 24), none⟩]) (.cond (.t 25) (.seq (.reg [⟨(some 10), .mv (.c (.bool false)), none⟩]) .ret) .skip)) (.seq (.reg [⟨(some 26), .mv (.t 0), none⟩, ⟨(some 27), .call "roundhouse/roundhouselaw6.Make" [(.t 26), (.c (.int .i64 60))], none⟩, ⟨(some 11), .new [(324, (.int .i64 0)), (6, (.int .u64 0))], none⟩, ⟨none, .st 330 (.t 11) (.t 27), none⟩]) (.seq (.reg [⟨(some 28), .mv (.t 1), none⟩, ⟨(some 29), .call "roundhouse/roundhouselaw6.within" [(.t 28), (.c (.int .i64 6))], none⟩, ⟨(some 30), .mv (.t 2), none⟩, ⟨(some 31), .call "roundhouse/roundhouselaw6.within" [(.t 30), (.c (.int .i64 4))], none⟩, ⟨(some 12), .mv (.t 29), none⟩, ⟨(some 13), .mv (.t 31), none⟩]) (.seq (.reg [⟨(some 33), .ld (some 330) (.t 11), none⟩, ⟨(some 34), .mv (.t 12), none⟩, ⟨(some 35), .mv (.t 13), none⟩, ⟨(some 36), .call "roundhouse/pool.Find" [(.t 33), (.t 34), (.t 35)], none⟩, ⟨(some 32), .mv (.t 36), none⟩, ⟨(some 37), .ext 0 (.t 32), none⟩, ⟨(some 38), .ext 1 (.t 32), none⟩, ⟨(some 14), .mv (.t 37), none⟩, ⟨(some 15), .mv (.t 38), none⟩]) (.seq (.reg [⟨(some 40), .ld (some 330) (.t 11), none⟩, ⟨(some 41), .mv (.t 12), none⟩, ⟨(some 42), .mv (.t 13), none⟩, ⟨(some 43), .call "roundhouse/roundhouseref6.Find" [(.t 40), (.t 41), (.t 42)], none⟩, ⟨(some 39), .mv (.t 43), none⟩, ⟨(some 44), .ext 0 (.t 39), none⟩, ⟨(some 45), .ext 1 (.t 39), none⟩, ⟨(some 16), .mv (.t 44), none⟩, ⟨(some 17), .mv (.t 45), none⟩]) (.seq (.reg [⟨(some 47), .ld (some 330) (.t 11), none⟩, ⟨(some 48), .mv (.t 3), none⟩, ⟨(some 49), .mv (.t 4), none⟩, ⟨(some 50), .call "roundhouse/pool.Find" [(.t 47), (.t 48), (.t 49)], none⟩, ⟨(some 46), .mv (.t 50), none⟩, ⟨(some 51), .ext 0 (.t 46), none⟩, ⟨(some 52), .ext 1 (.t 46), none⟩, ⟨(some 18), .mv (.t 51), none⟩, ⟨(some 19), .mv (.t 52), none⟩]) (.seq (.reg [⟨(some 54), .ld (some 330) (.t 11), none⟩, ⟨(some 55), .mv (.t 3), none⟩, ⟨(some 56), .mv (.t 4), none⟩, ⟨(some 57), .call "roundhouse/roundhouseref6.Find" [(.t 54), (.t 55), (.t 56)], none⟩, ⟨(some 53), .mv (.t 57), none⟩, ⟨(some 58), .ext 0 (.t 53), none⟩, ⟨(some 59), .ext 1 (.t 53), none⟩, ⟨(some 20), .mv (.t 58), none⟩, ⟨(some 21), .mv (.t 59), none⟩]) (.seq (.seq (.reg [⟨(some 22), .mv (.c (.int .i64 0)), none⟩]) (.block 0 (.loop (.seq (.seq (.reg [⟨(some 60), .mv (.t 22), none⟩, ⟨(some 61), .bin .lss (.t 60) (.c (.int .i64 64)), none⟩]) (.cond (.t 61) .skip (.exit 0))) (.seq (.block 1 (.seq (.reg [⟨(some 64), .mv (.t 22), none⟩, ⟨(some 65), .fad 3 (.t 11), none⟩, ⟨(some 66), .iadA 64 5 (.t 65) (.t 64), none⟩, ⟨(some 67), .ld (some 5) (.t 66), none⟩, ⟨(some 23), .new [(5, (.int .i64 0))], none⟩, ⟨none, .st 5 (.t 23) (.t 67), none⟩]) (.seq (.dreg [⟨(some 68), .ld (some 5) (.t 23), none⟩, ⟨(some 69), .call "roundhouse/pool.Takes" [(.t 68)], none⟩, ⟨(some 70), .ld (some 5) (.t 23), none⟩, ⟨(some 71), .call "roundhouse/roundhouseref6.Takes" [(.t 70)], none⟩, ⟨(some 72), .eqb true (.t 69) (.t 71), none⟩, ⟨(some 73), .mv (.t 72), none⟩, ⟨(some 74), .ld (some 5) (.t 23), some (73, false)⟩, ⟨(some 75), .call "roundhouse/pool.Takes" [(.t 74)], some (73, false)⟩, ⟨(some 76), .mv (.t 75), some (73, false)⟩, ⟨(some 77), .fad 1 (.t 23), some (76, true)⟩, ⟨(some 78), .ld none (.t 77), some (76, true)⟩, ⟨(some 79), .mv (.t 12), some (76, true)⟩, ⟨(some 80), .bin .eql (.t 78) (.t 79), some (76, true)⟩, ⟨(some 81), .pick (.t 76) (.t 80) (.c (.bool false)), some (73, false)⟩, ⟨(some 82), .mv (.t 81), some (73, false)⟩, ⟨(some 83), .fad 2 (.t 23), some (82, true)⟩, ⟨(some 84), .ld none (.t 83), some (82, true)⟩, ⟨(some 85), .mv (.t 13), some (82, true)⟩, ⟨(some 86), .bin .eql (.t 84) (.t 85), some (82, true)⟩, ⟨(some 87), .pick (.t 82) (.t 86) (.c (.bool false)), some (73, false)⟩, ⟨(some 88), .mv (.t 87), some (73, false)⟩, ⟨(some 89), .mv (.t 22), some (88, true)⟩, ⟨(some 90), .mv (.t 14), some (88, true)⟩, ⟨(some 91), .bin .neq (.t 89) (.t 90), some (88, true)⟩, ⟨(some 92), .pick (.t 88) (.t 91) (.c (.bool false)), some (73, false)⟩, ⟨(some 93), .pick (.t 73) (.c (.bool true)) (.t 92), none⟩] [[], [0], [], [2, 1, 0], [1, 0, 3, 2], [4, 1, 0, 3, 2], [5, 4, 1, 0, 3, 2], [6, 5, 4, 1, 0, 3, 2], [7, 6, 5, 4, 1, 0, 3, 2], [8, 7, 6, 5, 4, 1, 0, 3, 2], [9, 8, 7, 6, 5, 4, 1, 0, 3, 2], [8, 7, 6, 5, 4, 1, 0, 3, 2], [10, 9, 8, 7, 6, 5, 4, 1, 0, 3, 2, 11], [8, 7, 6, 5, 4, 1, 0, 3, 2, 12, 10, 9, 11], [13, 8, 7, 6, 5, 4, 1, 0, 3, 2, 12, 10, 9, 11], [14, 13, 8, 7, 6, 5, 4, 1, 0, 3, 2, 12, 10, 9, 11], [15, 14, 13, 8, 7, 6, 5, 4, 1, 0, 3, 2, 12, 10, 9, 11], [14, 13, 8, 7, 6, 5, 4, 1, 0, 3, 2, 12, 10, 9, 11], [16, 15, 14, 13, 8, 7, 6, 5, 4, 1, 0, 3, 2, 12, 10, 9, 11, 17], [14, 13, 8, 7, 6, 5, 4, 1, 0, 3, 2, 12, 10, 9, 11, 18, 16, 15, 17], [19, 14, 13, 8, 7, 6, 5, 4, 1, 0, 3, 2, 12, 10, 9, 11, 18, 16, 15, 17], [20, 19, 14, 13, 8, 7, 6, 5, 4, 1, 0, 3, 2, 12, 10, 9, 11, 18, 16, 15, 17], [20, 19, 14, 13, 8, 7, 6, 5, 4, 1, 0, 3, 2, 12, 10, 9, 11, 18, 16, 15, 17], [21, 20, 19, 14, 13, 8, 7, 6, 5, 4, 1, 0, 3, 2, 12, 10, 9, 11, 18, 16, 15, 17, 22], [20, 19, 14, 13, 8, 7, 6, 5, 4, 1, 0, 3, 2, 12, 10, 9, 11, 18, 16, 15, 17, 23, 21, 22], [5, 4, 1, 0, 3, 2, 24, 20, 19, 14, 13, 8, 7, 6, 12, 10, 9, 11, 18, 16, 15, 17, 23, 21, 22]]) (.cond (.t 93) (.seq (.reg [⟨(some 10), .mv (.c (.bool false)), none⟩]) .ret) .skip)))) (.reg [⟨(some 62), .mv (.t 22), none⟩, ⟨(some 63), .bin .add (.t 62) (.c (.int .i64 1)), none⟩, ⟨(some 22), .mv (.t 63), none⟩])))))) (.seq (.reg [⟨(some 94), .mv (.t 14), none⟩, ⟨(some 95), .mv (.t 16), none⟩, ⟨(some 96), .bin .eql (.t 94) (.t 95), none⟩, ⟨(some 97), .mv (.t 96), none⟩, ⟨(some 98), .mv (.t 15), some (97, true)⟩, ⟨(some 99), .mv (.t 17), some (97, true)⟩, ⟨(some 100), .eqb false (.t 98) (.t 99), some (97, true)⟩, ⟨(some 101), .pick (.t 97) (.t 100) (.c (.bool false)), none⟩, ⟨(some 102), .mv (.t 101), none⟩, ⟨(some 103), .mv (.t 18), some (102, true)⟩, ⟨(some 104), .mv (.t 20), some (102, true)⟩, ⟨(some 105), .bin .eql (.t 103) (.t 104), some (102, true)⟩, ⟨(some 106), .pick (.t 102) (.t 105) (.c (.bool false)), none⟩, ⟨(some 107), .mv (.t 106), none⟩, ⟨(some 108), .mv (.t 19), some (107, true)⟩, ⟨(some 109), .mv (.t 21), some (107, true)⟩, ⟨(some 110), .eqb false (.t 108) (.t 109), some (107, true)⟩, ⟨(some 111), .pick (.t 107) (.t 110) (.c (.bool false)), none⟩, ⟨(some 112), .mv (.t 111), none⟩, ⟨(some 113), .mv (.t 3), some (112, true)⟩, ⟨(some 114), .bld [(5, (.int .i64 0))] [(0, 1, (.t 113))], some (112, true)⟩, ⟨(some 115), .call "roundhouse/pool.Takes" [(.t 114)], some (112, true)⟩, ⟨(some 116), .mv (.t 3), some (112, true)⟩, ⟨(some 117), .bin .geq (.t 116) (.c (.int .i64 1)), some (112, true)⟩, ⟨(some 118), .mv (.t 117), some (112, true)⟩, ⟨(some 119), .mv (.t 3), some (118, true)⟩, ⟨(some 120), .bin .leq (.t 119) (.c (.int .i64 3)), some (118, true)⟩, ⟨(some 121), .pick (.t 118) (.t 120) (.c (.bool false)), some (112, true)⟩, ⟨(some 122), .eqb false (.t 115) (.t 121), some (112, true)⟩, ⟨(some 123), .pick (.t 112) (.t 122) (.c (.bool false)), none⟩, ⟨(some 10), .mv (.t 123), none⟩]) .ret))))))))))⟩
theorem PoolFindsC {P : Program} (hc : codeOf P "roundhouse/roundhouselaw6.PoolFinds" = some c_law6_PoolFinds) (h_law6_known : codeOf P "roundhouse/roundhouselaw6.known" = some c_law6_known) (h_pool_New : codeOf P "roundhouse/pool.New" = some c_pool_New) (h_pool_placed : codeOf P "roundhouse/pool.placed" = some c_pool_placed) (h_cookie_Ring : codeOf P "roundhouse/cookie.Ring" = some c_cookie_Ring) (h_pool_Find : codeOf P "roundhouse/pool.Find" = some c_pool_Find) (h_pool_may : codeOf P "roundhouse/pool.may" = some c_pool_may) (h_pool_All : codeOf P "roundhouse/pool.All" = some c_pool_All) (h_pool_Apply : codeOf P "roundhouse/pool.Apply" = some c_pool_Apply) (h_pool_held : codeOf P "roundhouse/pool.held" = some c_pool_held) (h_pool_fits : codeOf P "roundhouse/pool.fits" = some c_pool_fits) (h_pool_Check : codeOf P "roundhouse/pool.Check" = some c_pool_Check) (h_cookie_Next : codeOf P "roundhouse/cookie.Next" = some c_cookie_Next) (h_pool_Takes : codeOf P "roundhouse/pool.Takes" = some c_pool_Takes) (h_law6_Make : codeOf P "roundhouse/roundhouselaw6.Make" = some c_law6_Make) (h_law5_Key : codeOf P "roundhouse/roundhouselaw5.Key" = some c_law5_Key) (h_ref6_New : codeOf P "roundhouse/roundhouseref6.New" = some c_ref6_New) (h_ref6_out : codeOf P "roundhouse/roundhouseref6.out" = some c_ref6_out) (h_ref5_Ring : codeOf P "roundhouse/roundhouseref5.Ring" = some c_ref5_Ring) (h_law6_Entry : codeOf P "roundhouse/roundhouselaw6.Entry" = some c_law6_Entry) (h_law6_within : codeOf P "roundhouse/roundhouselaw6.within" = some c_law6_within) (h_ref6_Apply : codeOf P "roundhouse/roundhouseref6.Apply" = some c_ref6_Apply) (h_ref6_Check : codeOf P "roundhouse/roundhouseref6.Check" = some c_ref6_Check) (h_ref6_bad : codeOf P "roundhouse/roundhouseref6.bad" = some c_ref6_bad) (h_ref6_Held : codeOf P "roundhouse/roundhouseref6.Held" = some c_ref6_Held) (h_ref5_Next : codeOf P "roundhouse/roundhouseref5.Next" = some c_ref5_Next) (h_ref6_Find : codeOf P "roundhouse/roundhouseref6.Find" = some c_ref6_Find) (h_ref6_Takes : codeOf P "roundhouse/roundhouseref6.Takes" = some c_ref6_Takes) (o : Option Nat) (ns : List Int) (hnns : o = none → ns = []) (hl : (ns.length : Int) ≤ 9223372036854775807) (addr port a b : Int) :
    Env P "roundhouse/roundhouselaw6.PoolFinds" [inV o 0 ns.length, iv addr, iv port, iv a, iv b] ([inB o (ii ns)]) (Ans (.bool true) ([inB o (ii ns)])) := by
  refine Env.by hc ?_
  unfold c_law6_PoolFinds
  show GC _ 1 _ _ ⟨reg [(0, inV o 0 ns.length), (1, iv addr), (2, iv port), (3, iv a), (4, iv b)], [inB o (ii ns)]⟩
  have I := makeS_inv ns (k := 60) (by omega)
  refine gseq ?_
  refine greg ?_
  refine o_d 1 [(10, bv false)] (by kernel_rfl) ?_
  refine o_nil ?_
  refine seq_go ?_
  refine gseq ?_
  refine gseq ?_
  refine greg ?_
  refine o_cl (callV (knownC h_law6_known h_pool_New h_pool_placed h_cookie_Ring h_pool_Find h_pool_may h_pool_All h_pool_Apply h_pool_held h_pool_fits h_pool_Check h_cookie_Next h_pool_Takes) rfl rfl rfl ?_)
  refine o_d 1 [(25, bv false)] (by kernel_rfl) ?_
  refine o_nil ?_
  refine seq_go ?_
  refine gfalse rfl ?_
  refine gskip ?_
  refine seq_go ?_
  refine gseq ?_
  refine greg ?_
  refine o_d 1 [(26, inV o 0 ns.length)] (by kernel_rfl) ?_
  refine o_cl (callRO_K (callIn 0 (MakeC h_law6_Make h_law5_Key h_ref6_New h_ref6_out h_ref5_Ring h_law6_Entry h_law6_within h_ref6_Apply h_ref6_Check h_ref6_bad h_ref6_Held h_ref5_Next o ns hnns hl 60 (by omega)) rfl (ii_scl _) rfl rfl (poolV_vpf _) ?_))
  refine o_b 1 [(11, pv 1 0)] [inB o (ii ns), cw (pl zeroP)] (by kernel_rfl) ?_
  refine o_s0 (by refine run_st (c' := pl (makeS ns 60)) rfl rfl rfl ?_ ?_ ?_; exact pl_length _; exact pl_le (by omega); exact splice_pl0 zeroP (makeS ns 60)) ?_
  refine o_nil ?_
  refine seq_go ?_
  refine gseq ?_
  refine greg ?_
  refine o_d 1 [(28, iv addr)] (by kernel_rfl) ?_
  refine o_cl (callV (withinC h_law6_within addr 6 (by decide)) rfl rfl rfl ?_)
  refine o_d 1 [(30, iv port)] (by kernel_rfl) ?_
  refine o_cl (callV (withinC h_law6_within port 4 (by decide)) rfl rfl rfl ?_)
  refine o_d 2 [(13, iv (withinS port 4)), (12, iv (withinS addr 6))] (by kernel_rfl) ?_
  refine o_nil ?_
  refine seq_go ?_
  refine gseq ?_
  refine greg ?_
  refine o_s (by refine run_ld (v := poolV (makeS ns 60)) rfl rfl ?_; exact pl_all (makeS ns 60)) ?_
  refine o_d 2 [(35, iv (withinS port 4)), (34, iv (withinS addr 6))] (by kernel_rfl) ?_
  refine o_cl (callV (FindC h_pool_Find h_pool_may (makeS ns 60) (withinS addr 6) (withinS port 4)) rfl (all_cons (poolV_vpf (makeS ns 60)) (all_cons rfl (all_cons rfl rfl))) rfl ?_)
  refine o_d 5 [(15, bv ((findR (hitS (makeS ns 60) (withinS addr 6) (withinS port 4)) 0 64).2)), (14, iv ((findR (hitS (makeS ns 60) (withinS addr 6) (withinS port 4)) 0 64).1)), (38, bv ((findR (hitS (makeS ns 60) (withinS addr 6) (withinS port 4)) 0 64).2)), (37, iv ((findR (hitS (makeS ns 60) (withinS addr 6) (withinS port 4)) 0 64).1)), (32, .tuple #[iv ((findR (hitS (makeS ns 60) (withinS addr 6) (withinS port 4)) 0 64).1), bv ((findR (hitS (makeS ns 60) (withinS addr 6) (withinS port 4)) 0 64).2)])] (by kernel_rfl) ?_
  refine o_nil ?_
  refine seq_go ?_
  refine gseq ?_
  refine greg ?_
  refine o_s (by refine run_ld (v := poolV (makeS ns 60)) rfl rfl ?_; exact pl_all (makeS ns 60)) ?_
  refine o_d 2 [(42, iv (withinS port 4)), (41, iv (withinS addr 6))] (by kernel_rfl) ?_
  refine o_cl (callV (refFindC h_ref6_Find h_ref6_Takes (makeS ns 60) (withinS addr 6) (withinS port 4)) rfl (all_cons (poolV_vpf (makeS ns 60)) (all_cons rfl (all_cons rfl rfl))) rfl ?_)
  refine o_d 5 [(17, bv ((findR (hitR (makeS ns 60) (withinS addr 6) (withinS port 4)) 0 64).2)), (16, iv ((findR (hitR (makeS ns 60) (withinS addr 6) (withinS port 4)) 0 64).1)), (45, bv ((findR (hitR (makeS ns 60) (withinS addr 6) (withinS port 4)) 0 64).2)), (44, iv ((findR (hitR (makeS ns 60) (withinS addr 6) (withinS port 4)) 0 64).1)), (39, .tuple #[iv ((findR (hitR (makeS ns 60) (withinS addr 6) (withinS port 4)) 0 64).1), bv ((findR (hitR (makeS ns 60) (withinS addr 6) (withinS port 4)) 0 64).2)])] (by kernel_rfl) ?_
  refine o_nil ?_
  refine seq_regs [(17, bv ((findR (hitR (makeS ns 60) (withinS addr 6) (withinS port 4)) 0 64).2)), (16, iv ((findR (hitR (makeS ns 60) (withinS addr 6) (withinS port 4)) 0 64).1)), (15, bv ((findR (hitS (makeS ns 60) (withinS addr 6) (withinS port 4)) 0 64).2)), (14, iv ((findR (hitS (makeS ns 60) (withinS addr 6) (withinS port 4)) 0 64).1)), (13, iv (withinS port 4)), (12, iv (withinS addr 6)), (11, pv 1 0), (3, iv a), (4, iv b)] (by kernel_rfl) ?_
  refine gseq ?_
  refine greg ?_
  refine o_s (by refine run_ld (v := poolV (makeS ns 60)) rfl rfl ?_; exact pl_all (makeS ns 60)) ?_
  refine o_d 2 [(49, iv b), (48, iv a)] (by kernel_rfl) ?_
  refine o_cl (callV (FindC h_pool_Find h_pool_may (makeS ns 60) a b) rfl (all_cons (poolV_vpf (makeS ns 60)) (all_cons rfl (all_cons rfl rfl))) rfl ?_)
  refine o_d 5 [(19, bv ((findR (hitS (makeS ns 60) a b) 0 64).2)), (18, iv ((findR (hitS (makeS ns 60) a b) 0 64).1)), (52, bv ((findR (hitS (makeS ns 60) a b) 0 64).2)), (51, iv ((findR (hitS (makeS ns 60) a b) 0 64).1)), (46, .tuple #[iv ((findR (hitS (makeS ns 60) a b) 0 64).1), bv ((findR (hitS (makeS ns 60) a b) 0 64).2)])] (by kernel_rfl) ?_
  refine o_nil ?_
  refine seq_go ?_
  refine gseq ?_
  refine greg ?_
  refine o_s (by refine run_ld (v := poolV (makeS ns 60)) rfl rfl ?_; exact pl_all (makeS ns 60)) ?_
  refine o_d 2 [(56, iv b), (55, iv a)] (by kernel_rfl) ?_
  refine o_cl (callV (refFindC h_ref6_Find h_ref6_Takes (makeS ns 60) a b) rfl (all_cons (poolV_vpf (makeS ns 60)) (all_cons rfl (all_cons rfl rfl))) rfl ?_)
  refine o_d 5 [(21, bv ((findR (hitR (makeS ns 60) a b) 0 64).2)), (20, iv ((findR (hitR (makeS ns 60) a b) 0 64).1)), (59, bv ((findR (hitR (makeS ns 60) a b) 0 64).2)), (58, iv ((findR (hitR (makeS ns 60) a b) 0 64).1)), (53, .tuple #[iv ((findR (hitR (makeS ns 60) a b) 0 64).1), bv ((findR (hitR (makeS ns 60) a b) 0 64).2)])] (by kernel_rfl) ?_
  refine o_nil ?_
  refine seq_go ?_
  refine gseq ?_
  refine gseq ?_
  refine greg ?_
  refine o_d 1 [(22, iv 0)] (by kernel_rfl) ?_
  refine o_nil ?_
  refine seq_go ?_
  refine gblock ?_
  refine gloop (fun μ s => ∃ (i : Nat), μ = 64 - i ∧ (i ≤ 64) ∧ s = ⟨reg [(22, iv (i : Int)), (21, bv ((findR (hitR (makeS ns 60) a b) 0 64).2)), (20, iv ((findR (hitR (makeS ns 60) a b) 0 64).1)), (19, bv ((findR (hitS (makeS ns 60) a b) 0 64).2)), (18, iv ((findR (hitS (makeS ns 60) a b) 0 64).1)), (17, bv ((findR (hitR (makeS ns 60) (withinS addr 6) (withinS port 4)) 0 64).2)), (16, iv ((findR (hitR (makeS ns 60) (withinS addr 6) (withinS port 4)) 0 64).1)), (15, bv ((findR (hitS (makeS ns 60) (withinS addr 6) (withinS port 4)) 0 64).2)), (14, iv ((findR (hitS (makeS ns 60) (withinS addr 6) (withinS port 4)) 0 64).1)), (13, iv (withinS port 4)), (12, iv (withinS addr 6)), (11, pv 1 0), (3, iv a)], [inB o (ii ns), cw (pl (makeS ns 60))]⟩) ⟨(64 - 0), ?_⟩ ?_
  · skip
    refine ⟨⟨reg [(22, iv (0 : Int)), (21, bv ((findR (hitR (makeS ns 60) a b) 0 64).2)), (20, iv ((findR (hitR (makeS ns 60) a b) 0 64).1)), (19, bv ((findR (hitS (makeS ns 60) a b) 0 64).2)), (18, iv ((findR (hitS (makeS ns 60) a b) 0 64).1)), (17, bv ((findR (hitR (makeS ns 60) (withinS addr 6) (withinS port 4)) 0 64).2)), (16, iv ((findR (hitR (makeS ns 60) (withinS addr 6) (withinS port 4)) 0 64).1)), (15, bv ((findR (hitS (makeS ns 60) (withinS addr 6) (withinS port 4)) 0 64).2)), (14, iv ((findR (hitS (makeS ns 60) (withinS addr 6) (withinS port 4)) 0 64).1)), (13, iv (withinS port 4)), (12, iv (withinS addr 6)), (11, pv 1 0), (3, iv a)], [inB o (ii ns), cw (pl (makeS ns 60))]⟩, ?_⟩
    refine ⟨?_, ?_⟩
    · exact Wk.ren [0, 1] rfl rfl (by decide) ⟨rfl, ⟨rfl, ⟨rfl, ⟨rfl, ⟨rfl, ⟨rfl, ⟨rfl, ⟨rfl, ⟨rfl, ⟨rfl, ⟨rfl, ⟨rfl, ⟨rfl, trivial⟩⟩⟩⟩⟩⟩⟩⟩⟩⟩⟩⟩⟩ ⟨.inl (ren_inB o (ii_scl ns)), ⟨.inl (ren_cells (pl_scl (makeS ns 60))), trivial⟩⟩
    · exact ⟨0, rfl, by omega, rfl⟩
  · rintro μ s ⟨i, rfl, hi, rfl⟩
    refine gseq ?_
    refine gseq ?_
    refine greg ?_
    refine o_d 2 [(61, bv (decide ((i : Int) < 64))), (60, iv (i : Int))] (by kernel_rfl) ?_
    refine o_nil ?_
    refine seq_go ?_
    refine gcond (t := decide ((i : Int) < 64)) rfl (fun h1 => ?_) (fun h1 => ?_)
    · skip
      have h1' : (i : Int) < 64 := of_decide_eq_true h1
      refine gskip ?_
      refine seq_go ?_
      refine gseq ?_
      refine gblock ?_
      refine gseq ?_
      refine greg ?_
      refine o_d 2 [(65, pv 1 3), (64, iv (i : Int))] (by kernel_rfl) ?_
      refine o_s (by exact run_iadA (o := 3) (o' := 3 + 5 * i) rfl rfl (by omega) (by omega)) ?_
      refine o_s (by refine run_ld (v := .agg #[iv ((makeS ns 60) (3 + 5 * i)), iv ((makeS ns 60) (3 + 5 * i + 1)), iv ((makeS ns 60) (3 + 5 * i + 2)), iv ((makeS ns 60) (3 + 5 * i + 3)), iv ((makeS ns 60) (3 + 5 * i + 4))]) rfl rfl ?_; exact pl_rS (makeS ns 60) i (by omega) (by omega)) ?_
      refine o_b 2 [(23, pv 2 0)] [inB o (ii ns), cw (pl (makeS ns 60)), cw [iv ((makeS ns 60) (3 + 5 * i)), iv ((makeS ns 60) (3 + 5 * i + 1)), iv ((makeS ns 60) (3 + 5 * i + 2)), iv ((makeS ns 60) (3 + 5 * i + 3)), iv ((makeS ns 60) (3 + 5 * i + 4))]] (by kernel_rfl) ?_
      refine o_nil ?_
      refine seq_go ?_
      refine gseq ?_
      refine gdreg ["roundhouse/pool.Takes", "roundhouse/roundhouseref6.Takes"] (by kernel_rfl) ?_
      refine r_d 1 [(68, .agg #[iv ((makeS ns 60) (3 + 5 * i)), iv ((makeS ns 60) (3 + 5 * i + 1)), iv ((makeS ns 60) (3 + 5 * i + 2)), iv ((makeS ns 60) (3 + 5 * i + 3)), iv ((makeS ns 60) (3 + 5 * i + 4))])] (by kernel_rfl) ?_
      refine r_cl (callVR (TakesC h_pool_Takes h_pool_may ((makeS ns 60) (3 + 5 * i)) ((makeS ns 60) (3 + 5 * i + 1)) ((makeS ns 60) (3 + 5 * i + 2)) ((makeS ns 60) (3 + 5 * i + 3)) ((makeS ns 60) (3 + 5 * i + 4))) rfl rfl rfl ?_)
      refine r_d 1 [(70, .agg #[iv ((makeS ns 60) (3 + 5 * i)), iv ((makeS ns 60) (3 + 5 * i + 1)), iv ((makeS ns 60) (3 + 5 * i + 2)), iv ((makeS ns 60) (3 + 5 * i + 3)), iv ((makeS ns 60) (3 + 5 * i + 4))])] (by kernel_rfl) ?_
      refine r_cl (callVR (refTakesC h_ref6_Takes ((makeS ns 60) (3 + 5 * i)) ((makeS ns 60) (3 + 5 * i + 1)) ((makeS ns 60) (3 + 5 * i + 2)) ((makeS ns 60) (3 + 5 * i + 3)) ((makeS ns 60) (3 + 5 * i + 4))) rfl rfl rfl ?_)
      refine r_d 2 [(73, bv (([1, 2, 3].contains ((makeS ns 60) (3 + 5 * i))) != (takesS ((makeS ns 60) (3 + 5 * i))))), (72, bv (([1, 2, 3].contains ((makeS ns 60) (3 + 5 * i))) != (takesS ((makeS ns 60) (3 + 5 * i)))))] (by kernel_rfl) ?_
      refine r_sp (b := ([1, 2, 3].contains ((makeS ns 60) (3 + 5 * i))) != (takesS ((makeS ns 60) (3 + 5 * i)))) 73 rfl (fun q => by rw [(by rw [takes_eq]; simp : (([1, 2, 3].contains ((makeS ns 60) (3 + 5 * i))) != (takesS ((makeS ns 60) (3 + 5 * i)))) = false)] at q; cases q) (fun k2 => ?_)
      refine r_d 1 [(74, .agg #[iv ((makeS ns 60) (3 + 5 * i)), iv ((makeS ns 60) (3 + 5 * i + 1)), iv ((makeS ns 60) (3 + 5 * i + 2)), iv ((makeS ns 60) (3 + 5 * i + 3)), iv ((makeS ns 60) (3 + 5 * i + 4))])] (by kernel_rfl) ?_
      refine r_unguard rfl ?_
      refine r_cl (callVR (TakesC h_pool_Takes h_pool_may ((makeS ns 60) (3 + 5 * i)) ((makeS ns 60) (3 + 5 * i + 1)) ((makeS ns 60) (3 + 5 * i + 2)) ((makeS ns 60) (3 + 5 * i + 3)) ((makeS ns 60) (3 + 5 * i + 4))) rfl rfl rfl ?_)
      refine r_d 1 [(76, bv ([1, 2, 3].contains ((makeS ns 60) (3 + 5 * i))))] (by kernel_rfl) ?_
      refine r_sp (b := [1, 2, 3].contains ((makeS ns 60) (3 + 5 * i))) 76 rfl (fun h3 => ?_) (fun h3 => ?_)
      · skip
        refine r_d 6 [(82, bv (((makeS ns 60) (3 + 5 * i + 1)) == (withinS addr 6))), (81, bv (((makeS ns 60) (3 + 5 * i + 1)) == (withinS addr 6))), (80, bv (((makeS ns 60) (3 + 5 * i + 1)) == (withinS addr 6))), (79, iv (withinS addr 6)), (78, iv ((makeS ns 60) (3 + 5 * i + 1))), (77, pv 2 1)] (by kernel_rfl) ?_
        refine r_sp (b := ((makeS ns 60) (3 + 5 * i + 1)) == (withinS addr 6)) 82 rfl (fun h4 => ?_) (fun h4 => ?_)
        · skip
          have h4' : (makeS ns 60) (3 + 5 * i + 1) = withinS addr 6 := eqI_t h4
          refine r_d 6 [(88, bv (((makeS ns 60) (3 + 5 * i + 2)) == (withinS port 4))), (87, bv (((makeS ns 60) (3 + 5 * i + 2)) == (withinS port 4))), (86, bv (((makeS ns 60) (3 + 5 * i + 2)) == (withinS port 4))), (85, iv (withinS port 4)), (84, iv ((makeS ns 60) (3 + 5 * i + 2))), (83, pv 2 2)] (by kernel_rfl) ?_
          refine r_sp (b := ((makeS ns 60) (3 + 5 * i + 2)) == (withinS port 4)) 88 rfl (fun h5 => ?_) (fun h5 => ?_)
          · skip
            have h5' : (makeS ns 60) (3 + 5 * i + 2) = withinS port 4 := eqI_t h5
            refine r_d 5 [(93, bv ((i : Int) != ((findR (hitS (makeS ns 60) (withinS addr 6) (withinS port 4)) 0 64).1))), (92, bv ((i : Int) != ((findR (hitS (makeS ns 60) (withinS addr 6) (withinS port 4)) 0 64).1))), (91, bv ((i : Int) != ((findR (hitS (makeS ns 60) (withinS addr 6) (withinS port 4)) 0 64).1))), (90, iv ((findR (hitS (makeS ns 60) (withinS addr 6) (withinS port 4)) 0 64).1)), (89, iv (i : Int))] (by kernel_rfl) ?_
            refine r_nil ?_
            refine seq_regs [(93, bv ((i : Int) != ((findR (hitS (makeS ns 60) (withinS addr 6) (withinS port 4)) 0 64).1))), (22, iv (i : Int)), (21, bv ((findR (hitR (makeS ns 60) a b) 0 64).2)), (20, iv ((findR (hitR (makeS ns 60) a b) 0 64).1)), (19, bv ((findR (hitS (makeS ns 60) a b) 0 64).2)), (18, iv ((findR (hitS (makeS ns 60) a b) 0 64).1)), (17, bv ((findR (hitR (makeS ns 60) (withinS addr 6) (withinS port 4)) 0 64).2)), (16, iv ((findR (hitR (makeS ns 60) (withinS addr 6) (withinS port 4)) 0 64).1)), (15, bv ((findR (hitS (makeS ns 60) (withinS addr 6) (withinS port 4)) 0 64).2)), (14, iv ((findR (hitS (makeS ns 60) (withinS addr 6) (withinS port 4)) 0 64).1)), (13, iv (withinS port 4)), (12, iv (withinS addr 6)), (11, pv 1 0), (3, iv a)] (by kernel_rfl) ?_
            refine gcond (t := (i : Int) != ((findR (hitS (makeS ns 60) (withinS addr 6) (withinS port 4)) 0 64).1)) rfl (fun q => by rw [(by rw [find_it I (k := i) (by omega) ((takes_eq _).symm.trans h3) h4' h5']; simp : ((i : Int) != ((findR (hitS (makeS ns 60) (withinS addr 6) (withinS port 4)) 0 64).1)) = false)] at q; cases q) (fun _ => ?_)
            refine gskip ?_
            refine seq_go ?_
            refine greg ?_
            refine o_d 1 [(62, iv (i : Int))] (by kernel_rfl) ?_
            refine o_s (by refine run_val (v := .int .i64 (IntKind.i64.wrap ((i : Int) + 1))) (congrArg (Value.int .i64) (w64 (by omega) (by omega))) ?_; kernel_rfl) ?_
            refine o_d 1 [(22, iv ((i : Int) + 1))] (by kernel_rfl) ?_
            refine o_nil ?_
            refine ⟨64 - (i + 1), ?_⟩
            refine ⟨⟨reg [(22, iv ((i + 1) : Int)), (21, bv ((findR (hitR (makeS ns 60) a b) 0 64).2)), (20, iv ((findR (hitR (makeS ns 60) a b) 0 64).1)), (19, bv ((findR (hitS (makeS ns 60) a b) 0 64).2)), (18, iv ((findR (hitS (makeS ns 60) a b) 0 64).1)), (17, bv ((findR (hitR (makeS ns 60) (withinS addr 6) (withinS port 4)) 0 64).2)), (16, iv ((findR (hitR (makeS ns 60) (withinS addr 6) (withinS port 4)) 0 64).1)), (15, bv ((findR (hitS (makeS ns 60) (withinS addr 6) (withinS port 4)) 0 64).2)), (14, iv ((findR (hitS (makeS ns 60) (withinS addr 6) (withinS port 4)) 0 64).1)), (13, iv (withinS port 4)), (12, iv (withinS addr 6)), (11, pv 1 0), (3, iv a)], [inB o (ii ns), cw (pl (makeS ns 60))]⟩, ?_⟩
            refine and3 (by omega) ⟨?_, ?_⟩
            · exact Wk.ren [0, 1] rfl rfl (by decide) ⟨rfl, ⟨rfl, ⟨rfl, ⟨rfl, ⟨rfl, ⟨rfl, ⟨rfl, ⟨rfl, ⟨rfl, ⟨rfl, ⟨rfl, ⟨rfl, ⟨rfl, trivial⟩⟩⟩⟩⟩⟩⟩⟩⟩⟩⟩⟩⟩ ⟨.inl (ren_inB o (ii_scl ns)), ⟨.inl (ren_cells (pl_scl (makeS ns 60))), trivial⟩⟩
            · exact ⟨(i + 1), rfl, by omega, rfl⟩
          · skip
            have h5' : ¬ ((makeS ns 60) (3 + 5 * i + 2) = withinS port 4) := eqI_f h5
            refine r_d 5 [(93, bv false), (92, bv false), (91, undef), (90, undef), (89, undef)] (by kernel_rfl) ?_
            refine r_nil ?_
            refine seq_regs [(93, bv false), (22, iv (i : Int)), (21, bv ((findR (hitR (makeS ns 60) a b) 0 64).2)), (20, iv ((findR (hitR (makeS ns 60) a b) 0 64).1)), (19, bv ((findR (hitS (makeS ns 60) a b) 0 64).2)), (18, iv ((findR (hitS (makeS ns 60) a b) 0 64).1)), (17, bv ((findR (hitR (makeS ns 60) (withinS addr 6) (withinS port 4)) 0 64).2)), (16, iv ((findR (hitR (makeS ns 60) (withinS addr 6) (withinS port 4)) 0 64).1)), (15, bv ((findR (hitS (makeS ns 60) (withinS addr 6) (withinS port 4)) 0 64).2)), (14, iv ((findR (hitS (makeS ns 60) (withinS addr 6) (withinS port 4)) 0 64).1)), (13, iv (withinS port 4)), (12, iv (withinS addr 6)), (11, pv 1 0), (3, iv a)] (by kernel_rfl) ?_
            refine gfalse rfl ?_
            refine gskip ?_
            refine seq_go ?_
            refine greg ?_
            refine o_d 1 [(62, iv (i : Int))] (by kernel_rfl) ?_
            refine o_s (by refine run_val (v := .int .i64 (IntKind.i64.wrap ((i : Int) + 1))) (congrArg (Value.int .i64) (w64 (by omega) (by omega))) ?_; kernel_rfl) ?_
            refine o_d 1 [(22, iv ((i : Int) + 1))] (by kernel_rfl) ?_
            refine o_nil ?_
            refine ⟨64 - (i + 1), ?_⟩
            refine ⟨⟨reg [(22, iv ((i + 1) : Int)), (21, bv ((findR (hitR (makeS ns 60) a b) 0 64).2)), (20, iv ((findR (hitR (makeS ns 60) a b) 0 64).1)), (19, bv ((findR (hitS (makeS ns 60) a b) 0 64).2)), (18, iv ((findR (hitS (makeS ns 60) a b) 0 64).1)), (17, bv ((findR (hitR (makeS ns 60) (withinS addr 6) (withinS port 4)) 0 64).2)), (16, iv ((findR (hitR (makeS ns 60) (withinS addr 6) (withinS port 4)) 0 64).1)), (15, bv ((findR (hitS (makeS ns 60) (withinS addr 6) (withinS port 4)) 0 64).2)), (14, iv ((findR (hitS (makeS ns 60) (withinS addr 6) (withinS port 4)) 0 64).1)), (13, iv (withinS port 4)), (12, iv (withinS addr 6)), (11, pv 1 0), (3, iv a)], [inB o (ii ns), cw (pl (makeS ns 60))]⟩, ?_⟩
            refine and3 (by omega) ⟨?_, ?_⟩
            · exact Wk.ren [0, 1] rfl rfl (by decide) ⟨rfl, ⟨rfl, ⟨rfl, ⟨rfl, ⟨rfl, ⟨rfl, ⟨rfl, ⟨rfl, ⟨rfl, ⟨rfl, ⟨rfl, ⟨rfl, ⟨rfl, trivial⟩⟩⟩⟩⟩⟩⟩⟩⟩⟩⟩⟩⟩ ⟨.inl (ren_inB o (ii_scl ns)), ⟨.inl (ren_cells (pl_scl (makeS ns 60))), trivial⟩⟩
            · exact ⟨(i + 1), rfl, by omega, rfl⟩
        · skip
          have h4' : ¬ ((makeS ns 60) (3 + 5 * i + 1) = withinS addr 6) := eqI_f h4
          refine r_d 11 [(93, bv false), (92, bv false), (91, undef), (90, undef), (89, undef), (88, bv false), (87, bv false), (86, undef), (85, undef), (84, undef), (83, undef)] (by kernel_rfl) ?_
          refine r_nil ?_
          refine seq_regs [(93, bv false), (22, iv (i : Int)), (21, bv ((findR (hitR (makeS ns 60) a b) 0 64).2)), (20, iv ((findR (hitR (makeS ns 60) a b) 0 64).1)), (19, bv ((findR (hitS (makeS ns 60) a b) 0 64).2)), (18, iv ((findR (hitS (makeS ns 60) a b) 0 64).1)), (17, bv ((findR (hitR (makeS ns 60) (withinS addr 6) (withinS port 4)) 0 64).2)), (16, iv ((findR (hitR (makeS ns 60) (withinS addr 6) (withinS port 4)) 0 64).1)), (15, bv ((findR (hitS (makeS ns 60) (withinS addr 6) (withinS port 4)) 0 64).2)), (14, iv ((findR (hitS (makeS ns 60) (withinS addr 6) (withinS port 4)) 0 64).1)), (13, iv (withinS port 4)), (12, iv (withinS addr 6)), (11, pv 1 0), (3, iv a)] (by kernel_rfl) ?_
          refine gfalse rfl ?_
          refine gskip ?_
          refine seq_go ?_
          refine greg ?_
          refine o_d 1 [(62, iv (i : Int))] (by kernel_rfl) ?_
          refine o_s (by refine run_val (v := .int .i64 (IntKind.i64.wrap ((i : Int) + 1))) (congrArg (Value.int .i64) (w64 (by omega) (by omega))) ?_; kernel_rfl) ?_
          refine o_d 1 [(22, iv ((i : Int) + 1))] (by kernel_rfl) ?_
          refine o_nil ?_
          refine ⟨64 - (i + 1), ?_⟩
          refine ⟨⟨reg [(22, iv ((i + 1) : Int)), (21, bv ((findR (hitR (makeS ns 60) a b) 0 64).2)), (20, iv ((findR (hitR (makeS ns 60) a b) 0 64).1)), (19, bv ((findR (hitS (makeS ns 60) a b) 0 64).2)), (18, iv ((findR (hitS (makeS ns 60) a b) 0 64).1)), (17, bv ((findR (hitR (makeS ns 60) (withinS addr 6) (withinS port 4)) 0 64).2)), (16, iv ((findR (hitR (makeS ns 60) (withinS addr 6) (withinS port 4)) 0 64).1)), (15, bv ((findR (hitS (makeS ns 60) (withinS addr 6) (withinS port 4)) 0 64).2)), (14, iv ((findR (hitS (makeS ns 60) (withinS addr 6) (withinS port 4)) 0 64).1)), (13, iv (withinS port 4)), (12, iv (withinS addr 6)), (11, pv 1 0), (3, iv a)], [inB o (ii ns), cw (pl (makeS ns 60))]⟩, ?_⟩
          refine and3 (by omega) ⟨?_, ?_⟩
          · exact Wk.ren [0, 1] rfl rfl (by decide) ⟨rfl, ⟨rfl, ⟨rfl, ⟨rfl, ⟨rfl, ⟨rfl, ⟨rfl, ⟨rfl, ⟨rfl, ⟨rfl, ⟨rfl, ⟨rfl, ⟨rfl, trivial⟩⟩⟩⟩⟩⟩⟩⟩⟩⟩⟩⟩⟩ ⟨.inl (ren_inB o (ii_scl ns)), ⟨.inl (ren_cells (pl_scl (makeS ns 60))), trivial⟩⟩
          · exact ⟨(i + 1), rfl, by omega, rfl⟩
      · skip
        refine r_d 17 [(93, bv false), (92, bv false), (91, undef), (90, undef), (89, undef), (88, bv false), (87, bv false), (86, undef), (85, undef), (84, undef), (83, undef), (82, bv false), (81, bv false), (80, undef), (79, undef), (78, undef), (77, undef)] (by kernel_rfl) ?_
        refine r_nil ?_
        refine seq_regs [(93, bv false), (22, iv (i : Int)), (21, bv ((findR (hitR (makeS ns 60) a b) 0 64).2)), (20, iv ((findR (hitR (makeS ns 60) a b) 0 64).1)), (19, bv ((findR (hitS (makeS ns 60) a b) 0 64).2)), (18, iv ((findR (hitS (makeS ns 60) a b) 0 64).1)), (17, bv ((findR (hitR (makeS ns 60) (withinS addr 6) (withinS port 4)) 0 64).2)), (16, iv ((findR (hitR (makeS ns 60) (withinS addr 6) (withinS port 4)) 0 64).1)), (15, bv ((findR (hitS (makeS ns 60) (withinS addr 6) (withinS port 4)) 0 64).2)), (14, iv ((findR (hitS (makeS ns 60) (withinS addr 6) (withinS port 4)) 0 64).1)), (13, iv (withinS port 4)), (12, iv (withinS addr 6)), (11, pv 1 0), (3, iv a)] (by kernel_rfl) ?_
        refine gfalse rfl ?_
        refine gskip ?_
        refine seq_go ?_
        refine greg ?_
        refine o_d 1 [(62, iv (i : Int))] (by kernel_rfl) ?_
        refine o_s (by refine run_val (v := .int .i64 (IntKind.i64.wrap ((i : Int) + 1))) (congrArg (Value.int .i64) (w64 (by omega) (by omega))) ?_; kernel_rfl) ?_
        refine o_d 1 [(22, iv ((i : Int) + 1))] (by kernel_rfl) ?_
        refine o_nil ?_
        refine ⟨64 - (i + 1), ?_⟩
        refine ⟨⟨reg [(22, iv ((i + 1) : Int)), (21, bv ((findR (hitR (makeS ns 60) a b) 0 64).2)), (20, iv ((findR (hitR (makeS ns 60) a b) 0 64).1)), (19, bv ((findR (hitS (makeS ns 60) a b) 0 64).2)), (18, iv ((findR (hitS (makeS ns 60) a b) 0 64).1)), (17, bv ((findR (hitR (makeS ns 60) (withinS addr 6) (withinS port 4)) 0 64).2)), (16, iv ((findR (hitR (makeS ns 60) (withinS addr 6) (withinS port 4)) 0 64).1)), (15, bv ((findR (hitS (makeS ns 60) (withinS addr 6) (withinS port 4)) 0 64).2)), (14, iv ((findR (hitS (makeS ns 60) (withinS addr 6) (withinS port 4)) 0 64).1)), (13, iv (withinS port 4)), (12, iv (withinS addr 6)), (11, pv 1 0), (3, iv a)], [inB o (ii ns), cw (pl (makeS ns 60))]⟩, ?_⟩
        refine and3 (by omega) ⟨?_, ?_⟩
        · exact Wk.ren [0, 1] rfl rfl (by decide) ⟨rfl, ⟨rfl, ⟨rfl, ⟨rfl, ⟨rfl, ⟨rfl, ⟨rfl, ⟨rfl, ⟨rfl, ⟨rfl, ⟨rfl, ⟨rfl, ⟨rfl, trivial⟩⟩⟩⟩⟩⟩⟩⟩⟩⟩⟩⟩⟩ ⟨.inl (ren_inB o (ii_scl ns)), ⟨.inl (ren_cells (pl_scl (makeS ns 60))), trivial⟩⟩
        · exact ⟨(i + 1), rfl, by omega, rfl⟩
    · skip
      have h1' : ¬ ((i : Int) < 64) := of_decide_eq_false h1
      refine gexit ?_
      refine seq_go ?_
      refine gseq ?_
      refine greg ?_
      refine o_d 4 [(97, bv (((findR (hitS (makeS ns 60) (withinS addr 6) (withinS port 4)) 0 64).1) == ((findR (hitR (makeS ns 60) (withinS addr 6) (withinS port 4)) 0 64).1))), (96, bv (((findR (hitS (makeS ns 60) (withinS addr 6) (withinS port 4)) 0 64).1) == ((findR (hitR (makeS ns 60) (withinS addr 6) (withinS port 4)) 0 64).1))), (95, iv ((findR (hitR (makeS ns 60) (withinS addr 6) (withinS port 4)) 0 64).1)), (94, iv ((findR (hitS (makeS ns 60) (withinS addr 6) (withinS port 4)) 0 64).1))] (by kernel_rfl) ?_
      refine o_sp (b := ((findR (hitS (makeS ns 60) (withinS addr 6) (withinS port 4)) 0 64).1) == ((findR (hitR (makeS ns 60) (withinS addr 6) (withinS port 4)) 0 64).1)) 97 rfl (fun k6 => ?_) (fun q => by rw [(by rw [find_eq I]; simp : (((findR (hitS (makeS ns 60) (withinS addr 6) (withinS port 4)) 0 64).1) == ((findR (hitR (makeS ns 60) (withinS addr 6) (withinS port 4)) 0 64).1)) = true)] at q; cases q)
      refine o_d 5 [(102, bv (((findR (hitS (makeS ns 60) (withinS addr 6) (withinS port 4)) 0 64).2) == ((findR (hitR (makeS ns 60) (withinS addr 6) (withinS port 4)) 0 64).2))), (101, bv (((findR (hitS (makeS ns 60) (withinS addr 6) (withinS port 4)) 0 64).2) == ((findR (hitR (makeS ns 60) (withinS addr 6) (withinS port 4)) 0 64).2))), (100, bv (((findR (hitS (makeS ns 60) (withinS addr 6) (withinS port 4)) 0 64).2) == ((findR (hitR (makeS ns 60) (withinS addr 6) (withinS port 4)) 0 64).2))), (99, bv ((findR (hitR (makeS ns 60) (withinS addr 6) (withinS port 4)) 0 64).2)), (98, bv ((findR (hitS (makeS ns 60) (withinS addr 6) (withinS port 4)) 0 64).2))] (by kernel_rfl) ?_
      refine o_sp (b := ((findR (hitS (makeS ns 60) (withinS addr 6) (withinS port 4)) 0 64).2) == ((findR (hitR (makeS ns 60) (withinS addr 6) (withinS port 4)) 0 64).2)) 102 rfl (fun k7 => ?_) (fun q => by rw [(by rw [find_eq I]; simp : (((findR (hitS (makeS ns 60) (withinS addr 6) (withinS port 4)) 0 64).2) == ((findR (hitR (makeS ns 60) (withinS addr 6) (withinS port 4)) 0 64).2)) = true)] at q; cases q)
      refine o_d 5 [(107, bv (((findR (hitS (makeS ns 60) a b) 0 64).1) == ((findR (hitR (makeS ns 60) a b) 0 64).1))), (106, bv (((findR (hitS (makeS ns 60) a b) 0 64).1) == ((findR (hitR (makeS ns 60) a b) 0 64).1))), (105, bv (((findR (hitS (makeS ns 60) a b) 0 64).1) == ((findR (hitR (makeS ns 60) a b) 0 64).1))), (104, iv ((findR (hitR (makeS ns 60) a b) 0 64).1)), (103, iv ((findR (hitS (makeS ns 60) a b) 0 64).1))] (by kernel_rfl) ?_
      refine o_sp (b := ((findR (hitS (makeS ns 60) a b) 0 64).1) == ((findR (hitR (makeS ns 60) a b) 0 64).1)) 107 rfl (fun k8 => ?_) (fun q => by rw [(by rw [find_eq I]; simp : (((findR (hitS (makeS ns 60) a b) 0 64).1) == ((findR (hitR (makeS ns 60) a b) 0 64).1)) = true)] at q; cases q)
      refine o_d 5 [(112, bv (((findR (hitS (makeS ns 60) a b) 0 64).2) == ((findR (hitR (makeS ns 60) a b) 0 64).2))), (111, bv (((findR (hitS (makeS ns 60) a b) 0 64).2) == ((findR (hitR (makeS ns 60) a b) 0 64).2))), (110, bv (((findR (hitS (makeS ns 60) a b) 0 64).2) == ((findR (hitR (makeS ns 60) a b) 0 64).2))), (109, bv ((findR (hitR (makeS ns 60) a b) 0 64).2)), (108, bv ((findR (hitS (makeS ns 60) a b) 0 64).2))] (by kernel_rfl) ?_
      refine o_sp (b := ((findR (hitS (makeS ns 60) a b) 0 64).2) == ((findR (hitR (makeS ns 60) a b) 0 64).2)) 112 rfl (fun k9 => ?_) (fun q => by rw [(by rw [find_eq I]; simp : (((findR (hitS (makeS ns 60) a b) 0 64).2) == ((findR (hitR (makeS ns 60) a b) 0 64).2)) = true)] at q; cases q)
      refine o_d 2 [(114, .agg #[iv a, iv 0, iv 0, iv 0, iv 0]), (113, iv a)] (by kernel_rfl) ?_
      refine o_unguard rfl ?_
      refine o_cl (callV (TakesC h_pool_Takes h_pool_may a 0 0 0 0) rfl rfl rfl ?_)
      refine o_d 3 [(118, bv (decide (a ≥ 1))), (117, bv (decide (a ≥ 1))), (116, iv a)] (by kernel_rfl) ?_
      refine o_sp (b := decide (a ≥ 1)) 118 rfl (fun h10 => ?_) (fun h10 => ?_)
      · skip
        have h10' : a ≥ 1 := of_decide_eq_true h10
        refine o_d 6 [(10, bv (([1, 2, 3].contains a) == (decide (a ≤ 3)))), (123, bv (([1, 2, 3].contains a) == (decide (a ≤ 3)))), (122, bv (([1, 2, 3].contains a) == (decide (a ≤ 3)))), (121, bv (decide (a ≤ 3))), (120, bv (decide (a ≤ 3))), (119, iv a)] (by kernel_rfl) ?_
        refine o_nil ?_
        refine seq_regs [(10, bv (([1, 2, 3].contains a) == (decide (a ≤ 3))))] (by kernel_rfl) ?_
        refine gret ?_
        have e0 : (([1, 2, 3].contains a) == (decide (a ≤ 3))) = true := by
          first | (rw [takes_eq, beq_iff_eq, Bool.eq_iff_iff]; simp [takesS]; omega) | (rw [takes_eq]; simp [takesS]; omega)
        exact fin_ans [bv (([1, 2, 3].contains a) == (decide (a ≤ 3)))] (resV_t rfl rfl) rfl (by rw [e0]; rfl) rfl (show List.all [inB o (ii ns)] blkf = true from (all_cons (inB_gone _ (ii_scl ns)) rfl))
      · skip
        have h10' : ¬ (a ≥ 1) := of_decide_eq_false h10
        refine o_d 6 [(10, bv (([1, 2, 3].contains a) == false)), (123, bv (([1, 2, 3].contains a) == false)), (122, bv (([1, 2, 3].contains a) == false)), (121, bv false), (120, undef), (119, undef)] (by kernel_rfl) ?_
        refine o_nil ?_
        refine seq_regs [(10, bv (([1, 2, 3].contains a) == false))] (by kernel_rfl) ?_
        refine gret ?_
        have e0 : (([1, 2, 3].contains a) == false) = true := by
          first | (rw [takes_eq, beq_iff_eq, Bool.eq_iff_iff]; simp [takesS]; omega) | (rw [takes_eq]; simp [takesS]; omega)
        exact fin_ans [bv (([1, 2, 3].contains a) == false)] (resV_t rfl rfl) rfl (by rw [e0]; rfl) rfl (show List.all [inB o (ii ns)] blkf = true from (all_cons (inB_gone _ (ii_scl ns)) rfl))
end Go.Rh
