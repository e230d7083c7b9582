import Derived.Test.YtdkpglcjjadhbaaMe

set_option linter.unusedSimpArgs false
set_option linter.unusedVariables false
set_option maxRecDepth 100000
set_option maxHeartbeats 8000000
namespace Go.Rh
def c_law6_PoolAlls : IFunc :=
  ⟨94, [.tmp 4], (.seq (.reg [⟨(some 4), .mv (.c (.bool false)), none⟩]) (.seq (.seq (.reg [⟨(some 17), .call "roundhouse/roundhouselaw6.known" [], none⟩, ⟨(some 18), .un .not (.t 17), none⟩]) (.cond (.t 18) (.seq (.reg [⟨(some 4), .mv (.c (.bool false)), none⟩]) .ret) .skip)) (.seq (.reg [⟨(some 19), .mv (.t 0), none⟩, ⟨(some 20), .call "roundhouse/roundhouselaw6.Make" [(.t 19), (.c (.int .i64 40))], none⟩, ⟨(some 5), .new [(324, (.int .i64 0)), (6, (.int .u64 0))], none⟩, ⟨none, .st 330 (.t 5) (.t 20), none⟩]) (.seq (.reg [⟨(some 6), .mv (.c (.slice none 0 0)), none⟩]) (.seq (.seq (.reg [⟨(some 7), .mv (.c (.int .i64 0)), none⟩]) (.block 0 (.loop (.seq (.seq (.reg [⟨(some 21), .mv (.t 7), none⟩, ⟨(some 22), .mv (.t 1), none⟩, ⟨(some 23), .lenS (.t 22), none⟩, ⟨(some 24), .bin .lss (.t 21) (.t 23), none⟩, ⟨(some 25), .mv (.t 24), none⟩, ⟨(some 26), .mv (.t 7), some (25, true)⟩, ⟨(some 27), .bin .lss (.t 26) (.c (.int .i64 20)), some (25, true)⟩, ⟨(some 28), .pick (.t 25) (.t 27) (.c (.bool false)), none⟩]) (.cond (.t 28) .skip (.exit 0))) (.seq (.block 1 (.reg [⟨(some 31), .mv (.t 6), none⟩, ⟨(some 32), .mv (.t 1), none⟩, ⟨(some 33), .mv (.t 7), none⟩, ⟨(some 34), .iadS 1 (.t 32) (.t 33), none⟩, ⟨(some 35), .ld none (.t 34), none⟩, ⟨(some 36), .call "roundhouse/roundhouselaw6.Entry" [(.t 35)], none⟩, ⟨(some 37), .bsl [(5, (.int .i64 0)), (2, (.int .u64 0))] 7 1 [(0, 7, (.t 36))], none⟩, ⟨(some 38), .app [(5, (.int .i64 0)), (2, (.int .u64 0))] 7 56 (.t 31) (.t 37), none⟩, ⟨(some 6), .mv (.t 38), none⟩])) (.reg [⟨(some 29), .mv (.t 7), none⟩, ⟨(some 30), .bin .add (.t 29) (.c (.int .i64 1)), none⟩, ⟨(some 7), .mv (.t 30), none⟩])))))) (.seq (.reg [⟨(some 40), .ld (some 330) (.t 5), none⟩, ⟨(some 41), .mv (.t 6), none⟩, ⟨(some 42), .call "roundhouse/pool.All" [(.t 40), (.t 41)], none⟩, ⟨(some 39), .mv (.t 42), none⟩, ⟨(some 43), .ext 0 (.t 39), none⟩, ⟨(some 44), .ext 1 (.t 39), none⟩, ⟨(some 45), .ext 2 (.t 39), none⟩, ⟨(some 8), .new [(324, (.int .i64 0)), (6, (.int .u64 0))], none⟩, ⟨none, .st 330 (.t 8) (.t 43), none⟩, ⟨(some 9), .mv (.t 44), none⟩, ⟨(some 10), .mv (.t 45), none⟩]) (.seq (.reg [⟨(some 47), .ld (some 330) (.t 5), none⟩, ⟨(some 48), .mv (.t 6), none⟩, ⟨(some 49), .call "roundhouse/roundhouseref6.All" [(.t 47), (.t 48)], none⟩, ⟨(some 46), .mv (.t 49), none⟩, ⟨(some 50), .ext 0 (.t 46), none⟩, ⟨(some 51), .ext 1 (.t 46), none⟩, ⟨(some 52), .ext 2 (.t 46), none⟩, ⟨(some 11), .new [(324, (.int .i64 0)), (6, (.int .u64 0))], none⟩, ⟨none, .st 330 (.t 11) (.t 50), none⟩, ⟨(some 12), .mv (.t 51), none⟩, ⟨(some 13), .mv (.t 52), none⟩]) (.seq (.reg [⟨(some 54), .ld (some 330) (.t 5), none⟩, ⟨(some 55), .call "roundhouse/pool.All" [(.t 54), (.c (.slice none 0 0))], none⟩, ⟨(some 53), .mv (.t 55), none⟩, ⟨(some 56), .ext 0 (.t 53), none⟩, ⟨(some 57), .ext 1 (.t 53), none⟩, ⟨(some 58), .ext 2 (.t 53), none⟩, ⟨(some 14), .new [(324, (.int .i64 0)), (6, (.int .u64 0))], none⟩, ⟨none, .st 330 (.t 14) (.t 56), none⟩, ⟨(some 15), .mv (.t 57), none⟩, ⟨(some 16), .mv (.t 58), none⟩]) (.seq (.reg [⟨(some 59), .ld (some 330) (.t 8), none⟩, ⟨(some 60), .ld (some 330) (.t 11), none⟩, ⟨(some 61), .eqa false [(330, .i)] (.t 59) (.t 60), none⟩, ⟨(some 62), .mv (.t 61), none⟩, ⟨(some 63), .mv (.t 9), some (62, true)⟩, ⟨(some 64), .mv (.t 12), some (62, true)⟩, ⟨(some 65), .bin .eql (.t 63) (.t 64), some (62, true)⟩, ⟨(some 66), .pick (.t 62) (.t 65) (.c (.bool false)), none⟩, ⟨(some 67), .mv (.t 66), none⟩, ⟨(some 68), .mv (.t 10), some (67, true)⟩, ⟨(some 69), .mv (.t 13), some (67, true)⟩, ⟨(some 70), .bin .eql (.t 68) (.t 69), some (67, true)⟩, ⟨(some 71), .pick (.t 67) (.t 70) (.c (.bool false)), none⟩, ⟨(some 72), .mv (.t 71), none⟩, ⟨(some 73), .ld (some 330) (.t 14), some (72, true)⟩, ⟨(some 74), .ld (some 330) (.t 5), some (72, true)⟩, ⟨(some 75), .eqa false [(330, .i)] (.t 73) (.t 74), some (72, true)⟩, ⟨(some 76), .pick (.t 72) (.t 75) (.c (.bool false)), none⟩, ⟨(some 77), .mv (.t 76), none⟩, ⟨(some 78), .mv (.t 15), some (77, true)⟩, ⟨(some 79), .bin .eql (.t 78) (.c (.int .i64 0)), some (77, true)⟩, ⟨(some 80), .pick (.t 77) (.t 79) (.c (.bool false)), none⟩, ⟨(some 81), .mv (.t 80), none⟩, ⟨(some 82), .mv (.t 16), some (81, true)⟩, ⟨(some 83), .bin .eql (.t 82) (.c (.int .i64 0)), some (81, true)⟩, ⟨(some 84), .pick (.t 81) (.t 83) (.c (.bool false)), none⟩, ⟨(some 85), .mv (.t 84), none⟩, ⟨(some 86), .fad 0 (.t 8), some (85, true)⟩, ⟨(some 87), .ld none (.t 86), some (85, true)⟩, ⟨(some 88), .fad 0 (.t 5), some (85, true)⟩, ⟨(some 89), .ld none (.t 88), some (85, true)⟩, ⟨(some 90), .mv (.t 9), some (85, true)⟩, ⟨(some 91), .bin .add (.t 89) (.t 90), some (85, true)⟩, ⟨(some 92), .bin .eql (.t 87) (.t 91), some (85, true)⟩, ⟨(some 93), .pick (.t 85) (.t 92) (.c (.bool false)), none⟩, ⟨(some 4), .mv (.t 93), none⟩]) .ret)))))))))⟩
theorem take_snoc {ms : List Int} {i : Nat} {x : Int} (ht : ms.take (i + 1) = ms.take i ++ [x]) : entsL ((ms.take i).map entS) ++ eL (entS x) = entsL ((ms.take (i + 1)).map entS) := by
  rw [ht, List.map_append, List.map_singleton]; exact entsL_snoc _ _
theorem PoolAllsC {P : Program} (hc : codeOf P "roundhouse/roundhouselaw6.PoolAlls" = some c_law6_PoolAlls) (h_law6_known : codeOf P "roundhouse/roundhouselaw6.known" = some c_law6_known) (h_pool_New : codeOf P "roundhouse/pool.New" = some c_pool_New) (h_pool_placed : codeOf P "roundhouse/pool.placed" = some c_pool_placed) (h_cookie_Ring : codeOf P "roundhouse/cookie.Ring" = some c_cookie_Ring) (h_pool_Find : codeOf P "roundhouse/pool.Find" = some c_pool_Find) (h_pool_may : codeOf P "roundhouse/pool.may" = some c_pool_may) (h_pool_All : codeOf P "roundhouse/pool.All" = some c_pool_All) (h_pool_Apply : codeOf P "roundhouse/pool.Apply" = some c_pool_Apply) (h_pool_held : codeOf P "roundhouse/pool.held" = some c_pool_held) (h_pool_fits : codeOf P "roundhouse/pool.fits" = some c_pool_fits) (h_pool_Check : codeOf P "roundhouse/pool.Check" = some c_pool_Check) (h_cookie_Next : codeOf P "roundhouse/cookie.Next" = some c_cookie_Next) (h_pool_Takes : codeOf P "roundhouse/pool.Takes" = some c_pool_Takes) (h_law6_Make : codeOf P "roundhouse/roundhouselaw6.Make" = some c_law6_Make) (h_law5_Key : codeOf P "roundhouse/roundhouselaw5.Key" = some c_law5_Key) (h_ref6_New : codeOf P "roundhouse/roundhouseref6.New" = some c_ref6_New) (h_ref6_out : codeOf P "roundhouse/roundhouseref6.out" = some c_ref6_out) (h_ref5_Ring : codeOf P "roundhouse/roundhouseref5.Ring" = some c_ref5_Ring) (h_law6_Entry : codeOf P "roundhouse/roundhouselaw6.Entry" = some c_law6_Entry) (h_law6_within : codeOf P "roundhouse/roundhouselaw6.within" = some c_law6_within) (h_ref6_Apply : codeOf P "roundhouse/roundhouseref6.Apply" = some c_ref6_Apply) (h_ref6_Check : codeOf P "roundhouse/roundhouseref6.Check" = some c_ref6_Check) (h_ref6_bad : codeOf P "roundhouse/roundhouseref6.bad" = some c_ref6_bad) (h_ref6_Held : codeOf P "roundhouse/roundhouseref6.Held" = some c_ref6_Held) (h_ref5_Next : codeOf P "roundhouse/roundhouseref5.Next" = some c_ref5_Next) (h_ref6_All : codeOf P "roundhouse/roundhouseref6.All" = some c_ref6_All) (o : Option Nat) (ns : List Int) (hnns : o = none → ns = []) (hl : (ns.length : Int) ≤ 9223372036854775807) (o2 : Option Nat) (ms : List Int) (hnms : o2 = none → ms = []) (hlm : (ms.length : Int) ≤ 9223372036854775807) :
    Env P "roundhouse/roundhouselaw6.PoolAlls" [inV o 0 ns.length, inV o2 1 ms.length] ([inB o (ii ns), inB o2 (ii ms)]) (Ans (.bool true) ([inB o (ii ns), inB o2 (ii ms)])) := by
  refine Env.by hc ?_
  unfold c_law6_PoolAlls
  show GC _ 2 _ _ ⟨reg [(0, inV o 0 ns.length), (1, inV o2 1 ms.length)], [inB o (ii ns), inB o2 (ii ms)]⟩
  refine gseq ?_
  refine greg ?_
  refine o_d 1 [(4, bv false)] (by kernel_rfl) ?_
  refine o_nil ?_
  refine seq_go ?_
  refine gseq ?_
  refine gseq ?_
  refine greg ?_
  refine o_cl (callV (knownC h_law6_known h_pool_New h_pool_placed h_cookie_Ring h_pool_Find h_pool_may h_pool_All h_pool_Apply h_pool_held h_pool_fits h_pool_Check h_cookie_Next h_pool_Takes) rfl rfl rfl ?_)
  refine o_d 1 [(18, bv false)] (by kernel_rfl) ?_
  refine o_nil ?_
  refine seq_go ?_
  refine gfalse rfl ?_
  refine gskip ?_
  refine seq_go ?_
  refine gseq ?_
  refine greg ?_
  refine o_d 1 [(19, inV o 0 ns.length)] (by kernel_rfl) ?_
  refine o_cl (callRO_K (callIn 0 (MakeC h_law6_Make h_law5_Key h_ref6_New h_ref6_out h_ref5_Ring h_law6_Entry h_law6_within h_ref6_Apply h_ref6_Check h_ref6_bad h_ref6_Held h_ref5_Next o ns hnns hl 40 (by omega)) rfl (ii_scl _) rfl rfl (poolV_vpf _) ?_))
  refine o_b 1 [(5, pv 2 0)] [inB o (ii ns), inB o2 (ii ms), cw (pl zeroP)] (by kernel_rfl) ?_
  refine o_s0 (by refine run_st (c' := pl (makeS ns 40)) rfl rfl rfl ?_ ?_ ?_; exact pl_length _; exact pl_le (by omega); exact splice_pl0 zeroP (makeS ns 40)) ?_
  refine o_nil ?_
  refine seq_go ?_
  refine gseq ?_
  refine greg ?_
  refine o_d 1 [(6, .slice none 0 0)] (by kernel_rfl) ?_
  refine o_nil ?_
  refine seq_go ?_
  refine gseq ?_
  refine gseq ?_
  refine greg ?_
  refine o_d 1 [(7, iv 0)] (by kernel_rfl) ?_
  refine o_nil ?_
  refine seq_go ?_
  refine gblock ?_
  refine gloop (fun μ s => ∃ (i : Nat), ∃ (q : Option Nat), μ = ms.length - i ∧ (i ≤ ms.length ∧ i ≤ 20) ∧ (q = none → i = 0) ∧ s = ⟨reg [(7, iv (i : Int)), (6, slV 3 i q), (5, pv 2 0), (1, inV o2 1 ms.length)], [inB o (ii ns), inB o2 (ii ms), cw (pl (makeS ns 40)), slB zE (entsL ((ms.take i).map entS)) q]⟩) ⟨(ms.length - 0), ?_⟩ ?_
  · skip
    refine ⟨⟨reg [(7, iv (0 : Int)), (6, slV 3 0 none), (5, pv 2 0), (1, inV o2 1 ms.length)], [inB o (ii ns), inB o2 (ii ms), cw (pl (makeS ns 40)), slB zE (entsL ((ms.take 0).map entS)) none]⟩, ?_⟩
    refine ⟨?_, ?_⟩
    · exact Wk.ren [0, 1, 2, 6] rfl rfl (by decide) ⟨rfl, ⟨rfl, ⟨rfl, ⟨((renV_inV o2 rfl)).trans rfl, trivial⟩⟩⟩⟩ ⟨.inl (ren_inB o (ii_scl ns)), ⟨.inl (ren_inB o2 (ii_scl ms)), ⟨.inl (ren_cells (pl_scl (makeS ns 40))), ⟨.inr ⟨rfl, rfl⟩, trivial⟩⟩⟩⟩
    · exact ⟨0, none, rfl, ⟨Nat.zero_le _, Nat.zero_le _⟩, (fun _ => rfl), rfl⟩
  · rintro μ s ⟨i, q, rfl, hi, hq, rfl⟩
    refine gseq ?_
    refine gseq ?_
    refine greg ?_
    refine o_d 2 [(22, inV o2 1 ms.length), (21, iv (i : Int))] (by kernel_rfl) ?_
    refine o_s (by exact run_lenIn rfl (fun q => by rw [hnms q]; rfl)) ?_
    refine o_d 2 [(25, bv (decide ((i : Int) < (ms.length : Nat)))), (24, bv (decide ((i : Int) < (ms.length : Nat))))] (by kernel_rfl) ?_
    refine o_sp (b := decide ((i : Int) < (ms.length : Nat))) 25 rfl (fun h1 => ?_) (fun h1 => ?_)
    · skip
      have h1' : (i : Int) < (ms.length : Nat) := of_decide_eq_true h1
      refine o_d 3 [(28, bv (decide ((i : Int) < 20))), (27, bv (decide ((i : Int) < 20))), (26, iv (i : Int))] (by kernel_rfl) ?_
      refine o_nil ?_
      refine seq_go ?_
      refine gcond (t := decide ((i : Int) < 20)) rfl (fun h2 => ?_) (fun h2 => ?_)
      · skip
        have h2' : (i : Int) < 20 := of_decide_eq_true h2
        obtain ⟨x, hx, hd, ht⟩ := get_of_lt (l := ms) (i := i) (by omega)
        refine gskip ?_
        refine seq_go ?_
        refine gseq ?_
        refine gblock ?_
        refine greg ?_
        refine o_d 3 [(33, iv (i : Int)), (32, inV o2 1 ms.length), (31, slV 3 i q)] (by kernel_rfl) ?_
        refine o_s (by exact run_iadIn (o' := i) rfl (fun q => by rw [hnms q]; rfl) rfl (by omega) (by omega)) ?_
        refine o_s (by refine run_ld (v := iv x) rfl (hf_in (n := ms.length) rfl (fun q => by rw [hnms q]; rfl) (by omega)) ?_; exact ii_r (i := i) (by omega) hx) ?_
        refine o_cl (callV (EntryC h_law6_Entry h_law6_within h_law5_Key x) rfl rfl rfl ?_)
        refine o_b 1 [(37, sv 4 0 1 1)] [inB o (ii ns), inB o2 (ii ms), cw (pl (makeS ns 40)), slB zE (entsL ((ms.take i).map entS)) q, cw [iv ((entS x).k), iv ((entS x).s), iv ((entS x).a), iv ((entS x).p), iv ((entS x).g), uv ((entS x).ka), uv ((entS x).kb)]] (by kernel_rfl) ?_
        refine o_appC (k := 3) (n := i) (o := q) (q := 1) (cs := entsL ((ms.take i).map entS)) (xs := [iv ((entS x).k), iv ((entS x).s), iv ((entS x).a), iv ((entS x).p), iv ((entS x).g), uv ((entS x).ka), uv ((entS x).kb)]) (cs2 := entsL ((ms.take (i + 1)).map entS)) (zl := zE) rfl rfl rfl (fun m q => by subst q; rfl) (fun z => by have := hq z; subst this; exact ⟨rfl, rfl⟩) (by rw [entsL_len]; simp; try omega) rfl rfl (app_first rfl rfl (by simp)) (by rfl) (by omega) (by omega) (take_snoc ht) (fun m3 e4 => ?_) (fun m3 => ?_)
        · skip
          subst e4
          refine o_d 1 [(6, sv 3 0 (i + 1) (i + 1 + m3))] (by kernel_rfl) ?_
          refine o_nil ?_
          refine seq_go ?_
          refine greg ?_
          refine o_d 1 [(29, iv (i : Int))] (by kernel_rfl) ?_
          refine o_s (by refine run_val (v := .int .i64 (IntKind.i64.wrap ((i : Int) + 1))) (congrArg (Value.int .i64) (w64 (by omega) (by omega))) ?_; kernel_rfl) ?_
          refine o_d 1 [(7, iv ((i : Int) + 1))] (by kernel_rfl) ?_
          refine o_nil ?_
          refine ⟨ms.length - (i + 1), ?_⟩
          refine ⟨⟨reg [(7, iv ((i + 1) : Int)), (6, slV 3 (i + 1) (some m3)), (5, pv 2 0), (1, inV o2 1 ms.length)], [inB o (ii ns), inB o2 (ii ms), cw (pl (makeS ns 40)), slB zE (entsL ((ms.take (i + 1)).map entS)) (some m3)]⟩, ?_⟩
          refine and3 (by omega) ⟨?_, ?_⟩
          · exact Wk.ren [0, 1, 2, 3] rfl rfl (by decide) ⟨rfl, ⟨rfl, ⟨rfl, ⟨((renV_inV o2 rfl)).trans rfl, trivial⟩⟩⟩⟩ ⟨.inl (ren_inB o (ii_scl ns)), ⟨.inl (ren_inB o2 (ii_scl ms)), ⟨.inl (ren_cells (pl_scl (makeS ns 40))), ⟨.inl (ren_cells (entsR_scl _ _)), trivial⟩⟩⟩⟩
          · exact ⟨(i + 1), (some m3), rfl, by omega, (fun q => by cases q), rfl⟩
        · skip
          refine o_d 1 [(6, sv 5 0 (i + 1) (i + 1 + m3))] (by kernel_rfl) ?_
          refine o_nil ?_
          refine seq_go ?_
          refine greg ?_
          refine o_d 1 [(29, iv (i : Int))] (by kernel_rfl) ?_
          refine o_s (by refine run_val (v := .int .i64 (IntKind.i64.wrap ((i : Int) + 1))) (congrArg (Value.int .i64) (w64 (by omega) (by omega))) ?_; kernel_rfl) ?_
          refine o_d 1 [(7, iv ((i : Int) + 1))] (by kernel_rfl) ?_
          refine o_nil ?_
          refine ⟨ms.length - (i + 1), ?_⟩
          refine ⟨⟨reg [(7, iv ((i + 1) : Int)), (6, slV 3 (i + 1) (some m3)), (5, pv 2 0), (1, inV o2 1 ms.length)], [inB o (ii ns), inB o2 (ii ms), cw (pl (makeS ns 40)), slB zE (entsL ((ms.take (i + 1)).map entS)) (some m3)]⟩, ?_⟩
          refine and3 (by omega) ⟨?_, ?_⟩
          · exact Wk.ren [0, 1, 2, 5] rfl rfl (by decide) ⟨rfl, ⟨rfl, ⟨rfl, ⟨((renV_inV o2 rfl)).trans rfl, trivial⟩⟩⟩⟩ ⟨.inl (ren_inB o (ii_scl ns)), ⟨.inl (ren_inB o2 (ii_scl ms)), ⟨.inl (ren_cells (pl_scl (makeS ns 40))), ⟨.inl (ren_cells (entsR_scl _ _)), trivial⟩⟩⟩⟩
          · exact ⟨(i + 1), (some m3), rfl, by omega, (fun q => by cases q), rfl⟩
      · skip
        have h2' : ¬ ((i : Int) < 20) := of_decide_eq_false h2
        refine gexit ?_
        refine seq_go ?_
        refine gseq ?_
        refine greg ?_
        refine o_s (by refine run_ld (v := poolV (makeS ns 40)) rfl rfl ?_; exact pl_all (makeS ns 40)) ?_
        refine o_d 1 [(41, slV 3 i q)] (by kernel_rfl) ?_
        rcases q with _ | m5
        · skip
          have hi0 : i = 0 := hq rfl
          subst hi0
          refine o_cl (callV (All0 h_pool_All h_pool_Apply h_pool_may h_pool_held h_pool_fits h_pool_Check h_pool_placed h_cookie_Next (makeS ns 40)) rfl (all_cons (poolV_vpf (makeS ns 40)) (all_cons rfl rfl)) (all_cons (poolV_aggf (makeS ns 40)) (all_cons rfl (all_cons rfl rfl))) ?_)
          refine o_b 5 [(8, pv 4 0), (45, iv 0), (44, iv 0), (43, poolV (makeS ns 40)), (39, .tuple #[poolV (makeS ns 40), iv 0, iv 0])] [inB o (ii ns), inB o2 (ii ms), cw (pl (makeS ns 40)), .gone, cw (pl zeroP)] (by kernel_rfl) ?_
          refine o_s0 (by refine run_st (c' := pl (makeS ns 40)) rfl rfl rfl ?_ ?_ ?_; exact pl_length _; exact pl_le (by omega); exact splice_pl0 zeroP (makeS ns 40)) ?_
          refine o_b 2 [(10, iv 0), (9, iv 0)] [inB o (ii ns), inB o2 (ii ms), cw (pl (makeS ns 40)), .gone, cw (pl (makeS ns 40))] (by kernel_rfl) ?_
          refine o_nil ?_
          refine seq_go ?_
          refine gseq ?_
          refine greg ?_
          refine o_s (by refine run_ld (v := poolV (makeS ns 40)) rfl rfl ?_; exact pl_all (makeS ns 40)) ?_
          refine o_d 1 [(48, .slice none 0 0)] (by kernel_rfl) ?_
          refine o_cl (callV (refAll0 h_ref6_All h_ref6_Apply h_ref6_Check h_ref6_out h_ref6_bad h_ref6_Held h_ref5_Next (makeS ns 40)) rfl (all_cons (poolV_vpf (makeS ns 40)) (all_cons rfl rfl)) (all_cons (poolV_aggf (makeS ns 40)) (all_cons rfl (all_cons rfl rfl))) ?_)
          refine o_b 5 [(11, pv 5 0), (52, iv 0), (51, iv 0), (50, poolV (makeS ns 40)), (46, .tuple #[poolV (makeS ns 40), iv 0, iv 0])] [inB o (ii ns), inB o2 (ii ms), cw (pl (makeS ns 40)), .gone, cw (pl (makeS ns 40)), cw (pl zeroP)] (by kernel_rfl) ?_
          refine o_s0 (by refine run_st (c' := pl (makeS ns 40)) rfl rfl rfl ?_ ?_ ?_; exact pl_length _; exact pl_le (by omega); exact splice_pl0 zeroP (makeS ns 40)) ?_
          refine o_b 2 [(13, iv 0), (12, iv 0)] [inB o (ii ns), inB o2 (ii ms), cw (pl (makeS ns 40)), .gone, cw (pl (makeS ns 40)), cw (pl (makeS ns 40))] (by kernel_rfl) ?_
          refine o_nil ?_
          refine seq_regs [(13, iv 0), (12, iv 0), (11, pv 5 0), (10, iv 0), (9, iv 0), (8, pv 4 0), (5, pv 2 0)] (by kernel_rfl) ?_
          refine gseq ?_
          refine greg ?_
          refine o_s (by refine run_ld (v := poolV (makeS ns 40)) rfl rfl ?_; exact pl_all (makeS ns 40)) ?_
          refine o_cl (callV (All0 h_pool_All h_pool_Apply h_pool_may h_pool_held h_pool_fits h_pool_Check h_pool_placed h_cookie_Next (makeS ns 40)) rfl (all_cons (poolV_vpf (makeS ns 40)) (all_cons rfl rfl)) (all_cons (poolV_aggf (makeS ns 40)) (all_cons rfl (all_cons rfl rfl))) ?_)
          refine o_b 5 [(14, pv 6 0), (58, iv 0), (57, iv 0), (56, poolV (makeS ns 40)), (53, .tuple #[poolV (makeS ns 40), iv 0, iv 0])] [inB o (ii ns), inB o2 (ii ms), cw (pl (makeS ns 40)), .gone, cw (pl (makeS ns 40)), cw (pl (makeS ns 40)), cw (pl zeroP)] (by kernel_rfl) ?_
          refine o_s0 (by refine run_st (c' := pl (makeS ns 40)) rfl rfl rfl ?_ ?_ ?_; exact pl_length _; exact pl_le (by omega); exact splice_pl0 zeroP (makeS ns 40)) ?_
          refine o_b 2 [(16, iv 0), (15, iv 0)] [inB o (ii ns), inB o2 (ii ms), cw (pl (makeS ns 40)), .gone, cw (pl (makeS ns 40)), cw (pl (makeS ns 40)), cw (pl (makeS ns 40))] (by kernel_rfl) ?_
          refine o_nil ?_
          refine seq_go ?_
          refine gseq ?_
          refine greg ?_
          refine o_s (by refine run_ld (v := poolV (makeS ns 40)) rfl rfl ?_; exact pl_all (makeS ns 40)) ?_
          refine o_s (by refine run_ld (v := poolV (makeS ns 40)) rfl rfl ?_; exact pl_all (makeS ns 40)) ?_
          refine o_s (by refine run_eqa (a := ⟨pl (makeS ns 40)⟩) (b := ⟨pl (makeS ns 40)⟩) (r := true) (R := true) ?_ rfl; exact eqP_runR (makeS ns 40) rfl rfl) ?_
          refine o_d 11 [(72, bv true), (71, bv true), (70, bv true), (69, iv 0), (68, iv 0), (67, bv true), (66, bv true), (65, bv true), (64, iv 0), (63, iv 0), (62, bv true)] (by kernel_rfl) ?_
          refine o_unguard rfl ?_
          refine o_s (by refine run_ld (v := poolV (makeS ns 40)) rfl rfl ?_; exact pl_all (makeS ns 40)) ?_
          refine o_unguard rfl ?_
          refine o_s (by refine run_ld (v := poolV (makeS ns 40)) rfl rfl ?_; exact pl_all (makeS ns 40)) ?_
          refine o_unguard rfl ?_
          refine o_s (by refine run_eqa (a := ⟨pl (makeS ns 40)⟩) (b := ⟨pl (makeS ns 40)⟩) (r := true) (R := true) ?_ rfl; exact eqP_runR (makeS ns 40) rfl rfl) ?_
          refine o_d 11 [(86, pv 4 0), (85, bv true), (84, bv true), (83, bv true), (82, iv 0), (81, bv true), (80, bv true), (79, bv true), (78, iv 0), (77, bv true), (76, bv true)] (by kernel_rfl) ?_
          refine o_unguard rfl ?_
          refine o_s (by refine run_ld (v := iv ((makeS ns 40) 0)) rfl rfl ?_; exact pl_r (makeS ns 40) 0 rfl (by omega)) ?_
          refine o_d 1 [(88, pv 2 0)] (by kernel_rfl) ?_
          refine o_unguard rfl ?_
          refine o_s (by refine run_ld (v := iv ((makeS ns 40) 0)) rfl rfl ?_; exact pl_r (makeS ns 40) 0 rfl (by omega)) ?_
          refine o_d 5 [(4, bv (((makeS ns 40) 0) == (IntKind.i64.wrap ((makeS ns 40) 0 + 0)))), (93, bv (((makeS ns 40) 0) == (IntKind.i64.wrap ((makeS ns 40) 0 + 0)))), (92, bv (((makeS ns 40) 0) == (IntKind.i64.wrap ((makeS ns 40) 0 + 0)))), (91, iv (IntKind.i64.wrap ((makeS ns 40) 0 + 0))), (90, iv 0)] (by kernel_rfl) ?_
          refine o_nil ?_
          refine seq_regs [(4, bv (((makeS ns 40) 0) == (IntKind.i64.wrap ((makeS ns 40) 0 + 0))))] (by kernel_rfl) ?_
          refine gret ?_
          have e0 : (((makeS ns 40) 0) == (IntKind.i64.wrap ((makeS ns 40) 0 + 0))) = true := by
            first | exact all_ver (makeS_inv ns (k := 40) (by omega)) (by omega) _ | exact all_ver (makeS_inv ns (k := 40) (by omega)) (by omega) [] | (simp_all [eqP_self]; done)
          exact fin_ans [bv (((makeS ns 40) 0) == (IntKind.i64.wrap ((makeS ns 40) 0 + 0)))] (resV_t rfl rfl) rfl (by rw [e0]; rfl) rfl (show List.all [inB o (ii ns), inB o2 (ii ms)] blkf = true from (all_cons (inB_gone _ (ii_scl ns)) (all_cons (inB_gone _ (ii_scl ms)) rfl)))
        · skip
          refine o_cl (callS (a1 := [poolV (makeS ns 40), .slice (some ⟨0, 0, none⟩) i (i + m5)]) [3] [entsL ((ms.take i).map entS) ++ room zE m5] (AllE h_pool_All h_pool_Apply h_pool_may h_pool_held h_pool_fits h_pool_Check h_pool_placed h_cookie_Next (makeS ns 40) ((ms.take i).map entS) m5 i (i + m5) (by simp; omega) (by omega)) rfl (fun n => ren_pool_sl _ _ _ _ _) ⟨⟨_, rfl⟩, entsR_scl _ _, trivial⟩ (all_cons (poolV_aggf ((allS (makeS ns 40) ((ms.take i).map entS) 0).1)) (all_cons rfl (all_cons rfl rfl))) ?_)
          refine o_b 5 [(8, pv 4 0), (45, iv ((allS (makeS ns 40) ((ms.take i).map entS) 0).2.2)), (44, iv ((allS (makeS ns 40) ((ms.take i).map entS) 0).2.1 : Int)), (43, poolV ((allS (makeS ns 40) ((ms.take i).map entS) 0).1)), (39, .tuple #[poolV ((allS (makeS ns 40) ((ms.take i).map entS) 0).1), iv ((allS (makeS ns 40) ((ms.take i).map entS) 0).2.1 : Int), iv ((allS (makeS ns 40) ((ms.take i).map entS) 0).2.2)])] [inB o (ii ns), inB o2 (ii ms), cw (pl (makeS ns 40)), cw (entsL ((ms.take i).map entS) ++ room zE m5), cw (pl zeroP)] (by kernel_rfl) ?_
          refine o_s0 (by refine run_st (c' := pl ((allS (makeS ns 40) ((ms.take i).map entS) 0).1)) rfl rfl rfl ?_ ?_ ?_; exact pl_length _; exact pl_le (by omega); exact splice_pl0 zeroP ((allS (makeS ns 40) ((ms.take i).map entS) 0).1)) ?_
          refine o_b 2 [(10, iv ((allS (makeS ns 40) ((ms.take i).map entS) 0).2.2)), (9, iv ((allS (makeS ns 40) ((ms.take i).map entS) 0).2.1 : Int))] [inB o (ii ns), inB o2 (ii ms), cw (pl (makeS ns 40)), cw (entsL ((ms.take i).map entS) ++ room zE m5), cw (pl ((allS (makeS ns 40) ((ms.take i).map entS) 0).1))] (by kernel_rfl) ?_
          refine o_nil ?_
          refine seq_go ?_
          refine gseq ?_
          refine greg ?_
          refine o_s (by refine run_ld (v := poolV (makeS ns 40)) rfl rfl ?_; exact pl_all (makeS ns 40)) ?_
          refine o_d 1 [(48, sv 3 0 i (i + m5))] (by kernel_rfl) ?_
          refine o_cl (callS (a1 := [poolV (makeS ns 40), .slice (some ⟨0, 0, none⟩) i (i + m5)]) [3] [entsL ((ms.take i).map entS) ++ room zE m5] (refAllE h_ref6_All h_ref6_Apply h_ref6_Check h_ref6_out h_ref6_bad h_ref6_Held h_ref5_Next (makeS ns 40) ((ms.take i).map entS) m5 i (i + m5) (by simp; omega) (by omega)) rfl (fun n => ren_pool_sl _ _ _ _ _) ⟨⟨_, rfl⟩, entsR_scl _ _, trivial⟩ (all_cons (poolV_aggf ((allS (makeS ns 40) ((ms.take i).map entS) 0).1)) (all_cons rfl (all_cons rfl rfl))) ?_)
          refine o_b 5 [(11, pv 5 0), (52, iv ((allS (makeS ns 40) ((ms.take i).map entS) 0).2.2)), (51, iv ((allS (makeS ns 40) ((ms.take i).map entS) 0).2.1 : Int)), (50, poolV ((allS (makeS ns 40) ((ms.take i).map entS) 0).1)), (46, .tuple #[poolV ((allS (makeS ns 40) ((ms.take i).map entS) 0).1), iv ((allS (makeS ns 40) ((ms.take i).map entS) 0).2.1 : Int), iv ((allS (makeS ns 40) ((ms.take i).map entS) 0).2.2)])] [inB o (ii ns), inB o2 (ii ms), cw (pl (makeS ns 40)), cw (entsL ((ms.take i).map entS) ++ room zE m5), cw (pl ((allS (makeS ns 40) ((ms.take i).map entS) 0).1)), cw (pl zeroP)] (by kernel_rfl) ?_
          refine o_s0 (by refine run_st (c' := pl ((allS (makeS ns 40) ((ms.take i).map entS) 0).1)) rfl rfl rfl ?_ ?_ ?_; exact pl_length _; exact pl_le (by omega); exact splice_pl0 zeroP ((allS (makeS ns 40) ((ms.take i).map entS) 0).1)) ?_
          refine o_b 2 [(13, iv ((allS (makeS ns 40) ((ms.take i).map entS) 0).2.2)), (12, iv ((allS (makeS ns 40) ((ms.take i).map entS) 0).2.1 : Int))] [inB o (ii ns), inB o2 (ii ms), cw (pl (makeS ns 40)), cw (entsL ((ms.take i).map entS) ++ room zE m5), cw (pl ((allS (makeS ns 40) ((ms.take i).map entS) 0).1)), cw (pl ((allS (makeS ns 40) ((ms.take i).map entS) 0).1))] (by kernel_rfl) ?_
          refine o_nil ?_
          refine seq_regs [(13, iv ((allS (makeS ns 40) ((ms.take i).map entS) 0).2.2)), (12, iv ((allS (makeS ns 40) ((ms.take i).map entS) 0).2.1 : Int)), (11, pv 5 0), (10, iv ((allS (makeS ns 40) ((ms.take i).map entS) 0).2.2)), (9, iv ((allS (makeS ns 40) ((ms.take i).map entS) 0).2.1 : Int)), (8, pv 4 0), (5, pv 2 0)] (by kernel_rfl) ?_
          refine gseq ?_
          refine greg ?_
          refine o_s (by refine run_ld (v := poolV (makeS ns 40)) rfl rfl ?_; exact pl_all (makeS ns 40)) ?_
          refine o_cl (callV (All0 h_pool_All h_pool_Apply h_pool_may h_pool_held h_pool_fits h_pool_Check h_pool_placed h_cookie_Next (makeS ns 40)) rfl (all_cons (poolV_vpf (makeS ns 40)) (all_cons rfl rfl)) (all_cons (poolV_aggf (makeS ns 40)) (all_cons rfl (all_cons rfl rfl))) ?_)
          refine o_b 5 [(14, pv 6 0), (58, iv 0), (57, iv 0), (56, poolV (makeS ns 40)), (53, .tuple #[poolV (makeS ns 40), iv 0, iv 0])] [inB o (ii ns), inB o2 (ii ms), cw (pl (makeS ns 40)), cw (entsL ((ms.take i).map entS) ++ room zE m5), cw (pl ((allS (makeS ns 40) ((ms.take i).map entS) 0).1)), cw (pl ((allS (makeS ns 40) ((ms.take i).map entS) 0).1)), cw (pl zeroP)] (by kernel_rfl) ?_
          refine o_s0 (by refine run_st (c' := pl (makeS ns 40)) rfl rfl rfl ?_ ?_ ?_; exact pl_length _; exact pl_le (by omega); exact splice_pl0 zeroP (makeS ns 40)) ?_
          refine o_b 2 [(16, iv 0), (15, iv 0)] [inB o (ii ns), inB o2 (ii ms), cw (pl (makeS ns 40)), cw (entsL ((ms.take i).map entS) ++ room zE m5), cw (pl ((allS (makeS ns 40) ((ms.take i).map entS) 0).1)), cw (pl ((allS (makeS ns 40) ((ms.take i).map entS) 0).1)), cw (pl (makeS ns 40))] (by kernel_rfl) ?_
          refine o_nil ?_
          refine seq_go ?_
          refine gseq ?_
          refine greg ?_
          refine o_s (by refine run_ld (v := poolV ((allS (makeS ns 40) ((ms.take i).map entS) 0).1)) rfl rfl ?_; exact pl_all ((allS (makeS ns 40) ((ms.take i).map entS) 0).1)) ?_
          refine o_s (by refine run_ld (v := poolV ((allS (makeS ns 40) ((ms.take i).map entS) 0).1)) rfl rfl ?_; exact pl_all ((allS (makeS ns 40) ((ms.take i).map entS) 0).1)) ?_
          refine o_s (by refine run_eqa (a := ⟨pl ((allS (makeS ns 40) ((ms.take i).map entS) 0).1)⟩) (b := ⟨pl ((allS (makeS ns 40) ((ms.take i).map entS) 0).1)⟩) (r := true) (R := true) ?_ rfl; exact eqP_runR ((allS (makeS ns 40) ((ms.take i).map entS) 0).1) rfl rfl) ?_
          refine o_d 3 [(64, iv ((allS (makeS ns 40) ((ms.take i).map entS) 0).2.1 : Int)), (63, iv ((allS (makeS ns 40) ((ms.take i).map entS) 0).2.1 : Int)), (62, bv true)] (by kernel_rfl) ?_
          refine o_unguard rfl ?_
          refine o_s (by refine run_val (v := bv (((allS (makeS ns 40) ((ms.take i).map entS) 0).2.1 : Int) == ((allS (makeS ns 40) ((ms.take i).map entS) 0).2.1 : Int))) (congrArg Value.bool (beq_self_eq_true ((allS (makeS ns 40) ((ms.take i).map entS) 0).2.1 : Int))) ?_; kernel_rfl) ?_
          refine o_d 4 [(69, iv ((allS (makeS ns 40) ((ms.take i).map entS) 0).2.2)), (68, iv ((allS (makeS ns 40) ((ms.take i).map entS) 0).2.2)), (67, bv true), (66, bv true)] (by kernel_rfl) ?_
          refine o_unguard rfl ?_
          refine o_s (by refine run_val (v := bv (((allS (makeS ns 40) ((ms.take i).map entS) 0).2.2) == ((allS (makeS ns 40) ((ms.take i).map entS) 0).2.2))) (congrArg Value.bool (beq_self_eq_true ((allS (makeS ns 40) ((ms.take i).map entS) 0).2.2))) ?_; kernel_rfl) ?_
          refine o_d 2 [(72, bv true), (71, bv true)] (by kernel_rfl) ?_
          refine o_unguard rfl ?_
          refine o_s (by refine run_ld (v := poolV (makeS ns 40)) rfl rfl ?_; exact pl_all (makeS ns 40)) ?_
          refine o_unguard rfl ?_
          refine o_s (by refine run_ld (v := poolV (makeS ns 40)) rfl rfl ?_; exact pl_all (makeS ns 40)) ?_
          refine o_unguard rfl ?_
          refine o_s (by refine run_eqa (a := ⟨pl (makeS ns 40)⟩) (b := ⟨pl (makeS ns 40)⟩) (r := true) (R := true) ?_ rfl; exact eqP_runR (makeS ns 40) rfl rfl) ?_
          refine o_d 11 [(86, pv 4 0), (85, bv true), (84, bv true), (83, bv true), (82, iv 0), (81, bv true), (80, bv true), (79, bv true), (78, iv 0), (77, bv true), (76, bv true)] (by kernel_rfl) ?_
          refine o_unguard rfl ?_
          refine o_s (by refine run_ld (v := iv (((allS (makeS ns 40) ((ms.take i).map entS) 0).1) 0)) rfl rfl ?_; exact pl_r ((allS (makeS ns 40) ((ms.take i).map entS) 0).1) 0 rfl (by omega)) ?_
          refine o_d 1 [(88, pv 2 0)] (by kernel_rfl) ?_
          refine o_unguard rfl ?_
          refine o_s (by refine run_ld (v := iv ((makeS ns 40) 0)) rfl rfl ?_; exact pl_r (makeS ns 40) 0 rfl (by omega)) ?_
          refine o_d 5 [(4, bv ((((allS (makeS ns 40) ((ms.take i).map entS) 0).1) 0) == (IntKind.i64.wrap ((makeS ns 40) 0 + ((allS (makeS ns 40) ((ms.take i).map entS) 0).2.1 : Int))))), (93, bv ((((allS (makeS ns 40) ((ms.take i).map entS) 0).1) 0) == (IntKind.i64.wrap ((makeS ns 40) 0 + ((allS (makeS ns 40) ((ms.take i).map entS) 0).2.1 : Int))))), (92, bv ((((allS (makeS ns 40) ((ms.take i).map entS) 0).1) 0) == (IntKind.i64.wrap ((makeS ns 40) 0 + ((allS (makeS ns 40) ((ms.take i).map entS) 0).2.1 : Int))))), (91, iv (IntKind.i64.wrap ((makeS ns 40) 0 + ((allS (makeS ns 40) ((ms.take i).map entS) 0).2.1 : Int)))), (90, iv ((allS (makeS ns 40) ((ms.take i).map entS) 0).2.1 : Int))] (by kernel_rfl) ?_
          refine o_nil ?_
          refine seq_regs [(4, bv ((((allS (makeS ns 40) ((ms.take i).map entS) 0).1) 0) == (IntKind.i64.wrap ((makeS ns 40) 0 + ((allS (makeS ns 40) ((ms.take i).map entS) 0).2.1 : Int)))))] (by kernel_rfl) ?_
          refine gret ?_
          have e0 : ((((allS (makeS ns 40) ((ms.take i).map entS) 0).1) 0) == (IntKind.i64.wrap ((makeS ns 40) 0 + ((allS (makeS ns 40) ((ms.take i).map entS) 0).2.1 : Int)))) = true := by
            first | exact all_ver (makeS_inv ns (k := 40) (by omega)) (by omega) _ | exact all_ver (makeS_inv ns (k := 40) (by omega)) (by omega) [] | (simp_all [eqP_self]; done)
          exact fin_ans [bv ((((allS (makeS ns 40) ((ms.take i).map entS) 0).1) 0) == (IntKind.i64.wrap ((makeS ns 40) 0 + ((allS (makeS ns 40) ((ms.take i).map entS) 0).2.1 : Int))))] (resV_t rfl rfl) rfl (by rw [e0]; rfl) rfl (show List.all [inB o (ii ns), inB o2 (ii ms)] blkf = true from (all_cons (inB_gone _ (ii_scl ns)) (all_cons (inB_gone _ (ii_scl ms)) rfl)))
    · skip
      have h1' : ¬ ((i : Int) < (ms.length : Nat)) := of_decide_eq_false h1
      refine o_d 3 [(28, bv false), (27, undef), (26, undef)] (by kernel_rfl) ?_
      refine o_nil ?_
      refine seq_go ?_
      refine gfalse rfl ?_
      refine gexit ?_
      refine seq_go ?_
      refine gseq ?_
      refine greg ?_
      refine o_s (by refine run_ld (v := poolV (makeS ns 40)) rfl rfl ?_; exact pl_all (makeS ns 40)) ?_
      refine o_d 1 [(41, slV 3 i q)] (by kernel_rfl) ?_
      rcases q with _ | m6
      · skip
        have hi0 : i = 0 := hq rfl
        subst hi0
        refine o_cl (callV (All0 h_pool_All h_pool_Apply h_pool_may h_pool_held h_pool_fits h_pool_Check h_pool_placed h_cookie_Next (makeS ns 40)) rfl (all_cons (poolV_vpf (makeS ns 40)) (all_cons rfl rfl)) (all_cons (poolV_aggf (makeS ns 40)) (all_cons rfl (all_cons rfl rfl))) ?_)
        refine o_b 5 [(8, pv 4 0), (45, iv 0), (44, iv 0), (43, poolV (makeS ns 40)), (39, .tuple #[poolV (makeS ns 40), iv 0, iv 0])] [inB o (ii ns), inB o2 (ii ms), cw (pl (makeS ns 40)), .gone, cw (pl zeroP)] (by kernel_rfl) ?_
        refine o_s0 (by refine run_st (c' := pl (makeS ns 40)) rfl rfl rfl ?_ ?_ ?_; exact pl_length _; exact pl_le (by omega); exact splice_pl0 zeroP (makeS ns 40)) ?_
        refine o_b 2 [(10, iv 0), (9, iv 0)] [inB o (ii ns), inB o2 (ii ms), cw (pl (makeS ns 40)), .gone, cw (pl (makeS ns 40))] (by kernel_rfl) ?_
        refine o_nil ?_
        refine seq_go ?_
        refine gseq ?_
        refine greg ?_
        refine o_s (by refine run_ld (v := poolV (makeS ns 40)) rfl rfl ?_; exact pl_all (makeS ns 40)) ?_
        refine o_d 1 [(48, .slice none 0 0)] (by kernel_rfl) ?_
        refine o_cl (callV (refAll0 h_ref6_All h_ref6_Apply h_ref6_Check h_ref6_out h_ref6_bad h_ref6_Held h_ref5_Next (makeS ns 40)) rfl (all_cons (poolV_vpf (makeS ns 40)) (all_cons rfl rfl)) (all_cons (poolV_aggf (makeS ns 40)) (all_cons rfl (all_cons rfl rfl))) ?_)
        refine o_b 5 [(11, pv 5 0), (52, iv 0), (51, iv 0), (50, poolV (makeS ns 40)), (46, .tuple #[poolV (makeS ns 40), iv 0, iv 0])] [inB o (ii ns), inB o2 (ii ms), cw (pl (makeS ns 40)), .gone, cw (pl (makeS ns 40)), cw (pl zeroP)] (by kernel_rfl) ?_
        refine o_s0 (by refine run_st (c' := pl (makeS ns 40)) rfl rfl rfl ?_ ?_ ?_; exact pl_length _; exact pl_le (by omega); exact splice_pl0 zeroP (makeS ns 40)) ?_
        refine o_b 2 [(13, iv 0), (12, iv 0)] [inB o (ii ns), inB o2 (ii ms), cw (pl (makeS ns 40)), .gone, cw (pl (makeS ns 40)), cw (pl (makeS ns 40))] (by kernel_rfl) ?_
        refine o_nil ?_
        refine seq_regs [(13, iv 0), (12, iv 0), (11, pv 5 0), (10, iv 0), (9, iv 0), (8, pv 4 0), (5, pv 2 0)] (by kernel_rfl) ?_
        refine gseq ?_
        refine greg ?_
        refine o_s (by refine run_ld (v := poolV (makeS ns 40)) rfl rfl ?_; exact pl_all (makeS ns 40)) ?_
        refine o_cl (callV (All0 h_pool_All h_pool_Apply h_pool_may h_pool_held h_pool_fits h_pool_Check h_pool_placed h_cookie_Next (makeS ns 40)) rfl (all_cons (poolV_vpf (makeS ns 40)) (all_cons rfl rfl)) (all_cons (poolV_aggf (makeS ns 40)) (all_cons rfl (all_cons rfl rfl))) ?_)
        refine o_b 5 [(14, pv 6 0), (58, iv 0), (57, iv 0), (56, poolV (makeS ns 40)), (53, .tuple #[poolV (makeS ns 40), iv 0, iv 0])] [inB o (ii ns), inB o2 (ii ms), cw (pl (makeS ns 40)), .gone, cw (pl (makeS ns 40)), cw (pl (makeS ns 40)), cw (pl zeroP)] (by kernel_rfl) ?_
        refine o_s0 (by refine run_st (c' := pl (makeS ns 40)) rfl rfl rfl ?_ ?_ ?_; exact pl_length _; exact pl_le (by omega); exact splice_pl0 zeroP (makeS ns 40)) ?_
        refine o_b 2 [(16, iv 0), (15, iv 0)] [inB o (ii ns), inB o2 (ii ms), cw (pl (makeS ns 40)), .gone, cw (pl (makeS ns 40)), cw (pl (makeS ns 40)), cw (pl (makeS ns 40))] (by kernel_rfl) ?_
        refine o_nil ?_
        refine seq_go ?_
        refine gseq ?_
        refine greg ?_
        refine o_s (by refine run_ld (v := poolV (makeS ns 40)) rfl rfl ?_; exact pl_all (makeS ns 40)) ?_
        refine o_s (by refine run_ld (v := poolV (makeS ns 40)) rfl rfl ?_; exact pl_all (makeS ns 40)) ?_
        refine o_s (by refine run_eqa (a := ⟨pl (makeS ns 40)⟩) (b := ⟨pl (makeS ns 40)⟩) (r := true) (R := true) ?_ rfl; exact eqP_runR (makeS ns 40) rfl rfl) ?_
        refine o_d 11 [(72, bv true), (71, bv true), (70, bv true), (69, iv 0), (68, iv 0), (67, bv true), (66, bv true), (65, bv true), (64, iv 0), (63, iv 0), (62, bv true)] (by kernel_rfl) ?_
        refine o_unguard rfl ?_
        refine o_s (by refine run_ld (v := poolV (makeS ns 40)) rfl rfl ?_; exact pl_all (makeS ns 40)) ?_
        refine o_unguard rfl ?_
        refine o_s (by refine run_ld (v := poolV (makeS ns 40)) rfl rfl ?_; exact pl_all (makeS ns 40)) ?_
        refine o_unguard rfl ?_
        refine o_s (by refine run_eqa (a := ⟨pl (makeS ns 40)⟩) (b := ⟨pl (makeS ns 40)⟩) (r := true) (R := true) ?_ rfl; exact eqP_runR (makeS ns 40) rfl rfl) ?_
        refine o_d 11 [(86, pv 4 0), (85, bv true), (84, bv true), (83, bv true), (82, iv 0), (81, bv true), (80, bv true), (79, bv true), (78, iv 0), (77, bv true), (76, bv true)] (by kernel_rfl) ?_
        refine o_unguard rfl ?_
        refine o_s (by refine run_ld (v := iv ((makeS ns 40) 0)) rfl rfl ?_; exact pl_r (makeS ns 40) 0 rfl (by omega)) ?_
        refine o_d 1 [(88, pv 2 0)] (by kernel_rfl) ?_
        refine o_unguard rfl ?_
        refine o_s (by refine run_ld (v := iv ((makeS ns 40) 0)) rfl rfl ?_; exact pl_r (makeS ns 40) 0 rfl (by omega)) ?_
        refine o_d 5 [(4, bv (((makeS ns 40) 0) == (IntKind.i64.wrap ((makeS ns 40) 0 + 0)))), (93, bv (((makeS ns 40) 0) == (IntKind.i64.wrap ((makeS ns 40) 0 + 0)))), (92, bv (((makeS ns 40) 0) == (IntKind.i64.wrap ((makeS ns 40) 0 + 0)))), (91, iv (IntKind.i64.wrap ((makeS ns 40) 0 + 0))), (90, iv 0)] (by kernel_rfl) ?_
        refine o_nil ?_
        refine seq_regs [(4, bv (((makeS ns 40) 0) == (IntKind.i64.wrap ((makeS ns 40) 0 + 0))))] (by kernel_rfl) ?_
        refine gret ?_
        have e0 : (((makeS ns 40) 0) == (IntKind.i64.wrap ((makeS ns 40) 0 + 0))) = true := by
          first | exact all_ver (makeS_inv ns (k := 40) (by omega)) (by omega) _ | exact all_ver (makeS_inv ns (k := 40) (by omega)) (by omega) [] | (simp_all [eqP_self]; done)
        exact fin_ans [bv (((makeS ns 40) 0) == (IntKind.i64.wrap ((makeS ns 40) 0 + 0)))] (resV_t rfl rfl) rfl (by rw [e0]; rfl) rfl (show List.all [inB o (ii ns), inB o2 (ii ms)] blkf = true from (all_cons (inB_gone _ (ii_scl ns)) (all_cons (inB_gone _ (ii_scl ms)) rfl)))
      · skip
        refine o_cl (callS (a1 := [poolV (makeS ns 40), .slice (some ⟨0, 0, none⟩) i (i + m6)]) [3] [entsL ((ms.take i).map entS) ++ room zE m6] (AllE h_pool_All h_pool_Apply h_pool_may h_pool_held h_pool_fits h_pool_Check h_pool_placed h_cookie_Next (makeS ns 40) ((ms.take i).map entS) m6 i (i + m6) (by simp; omega) (by omega)) rfl (fun n => ren_pool_sl _ _ _ _ _) ⟨⟨_, rfl⟩, entsR_scl _ _, trivial⟩ (all_cons (poolV_aggf ((allS (makeS ns 40) ((ms.take i).map entS) 0).1)) (all_cons rfl (all_cons rfl rfl))) ?_)
        refine o_b 5 [(8, pv 4 0), (45, iv ((allS (makeS ns 40) ((ms.take i).map entS) 0).2.2)), (44, iv ((allS (makeS ns 40) ((ms.take i).map entS) 0).2.1 : Int)), (43, poolV ((allS (makeS ns 40) ((ms.take i).map entS) 0).1)), (39, .tuple #[poolV ((allS (makeS ns 40) ((ms.take i).map entS) 0).1), iv ((allS (makeS ns 40) ((ms.take i).map entS) 0).2.1 : Int), iv ((allS (makeS ns 40) ((ms.take i).map entS) 0).2.2)])] [inB o (ii ns), inB o2 (ii ms), cw (pl (makeS ns 40)), cw (entsL ((ms.take i).map entS) ++ room zE m6), cw (pl zeroP)] (by kernel_rfl) ?_
        refine o_s0 (by refine run_st (c' := pl ((allS (makeS ns 40) ((ms.take i).map entS) 0).1)) rfl rfl rfl ?_ ?_ ?_; exact pl_length _; exact pl_le (by omega); exact splice_pl0 zeroP ((allS (makeS ns 40) ((ms.take i).map entS) 0).1)) ?_
        refine o_b 2 [(10, iv ((allS (makeS ns 40) ((ms.take i).map entS) 0).2.2)), (9, iv ((allS (makeS ns 40) ((ms.take i).map entS) 0).2.1 : Int))] [inB o (ii ns), inB o2 (ii ms), cw (pl (makeS ns 40)), cw (entsL ((ms.take i).map entS) ++ room zE m6), cw (pl ((allS (makeS ns 40) ((ms.take i).map entS) 0).1))] (by kernel_rfl) ?_
        refine o_nil ?_
        refine seq_go ?_
        refine gseq ?_
        refine greg ?_
        refine o_s (by refine run_ld (v := poolV (makeS ns 40)) rfl rfl ?_; exact pl_all (makeS ns 40)) ?_
        refine o_d 1 [(48, sv 3 0 i (i + m6))] (by kernel_rfl) ?_
        refine o_cl (callS (a1 := [poolV (makeS ns 40), .slice (some ⟨0, 0, none⟩) i (i + m6)]) [3] [entsL ((ms.take i).map entS) ++ room zE m6] (refAllE h_ref6_All h_ref6_Apply h_ref6_Check h_ref6_out h_ref6_bad h_ref6_Held h_ref5_Next (makeS ns 40) ((ms.take i).map entS) m6 i (i + m6) (by simp; omega) (by omega)) rfl (fun n => ren_pool_sl _ _ _ _ _) ⟨⟨_, rfl⟩, entsR_scl _ _, trivial⟩ (all_cons (poolV_aggf ((allS (makeS ns 40) ((ms.take i).map entS) 0).1)) (all_cons rfl (all_cons rfl rfl))) ?_)
        refine o_b 5 [(11, pv 5 0), (52, iv ((allS (makeS ns 40) ((ms.take i).map entS) 0).2.2)), (51, iv ((allS (makeS ns 40) ((ms.take i).map entS) 0).2.1 : Int)), (50, poolV ((allS (makeS ns 40) ((ms.take i).map entS) 0).1)), (46, .tuple #[poolV ((allS (makeS ns 40) ((ms.take i).map entS) 0).1), iv ((allS (makeS ns 40) ((ms.take i).map entS) 0).2.1 : Int), iv ((allS (makeS ns 40) ((ms.take i).map entS) 0).2.2)])] [inB o (ii ns), inB o2 (ii ms), cw (pl (makeS ns 40)), cw (entsL ((ms.take i).map entS) ++ room zE m6), cw (pl ((allS (makeS ns 40) ((ms.take i).map entS) 0).1)), cw (pl zeroP)] (by kernel_rfl) ?_
        refine o_s0 (by refine run_st (c' := pl ((allS (makeS ns 40) ((ms.take i).map entS) 0).1)) rfl rfl rfl ?_ ?_ ?_; exact pl_length _; exact pl_le (by omega); exact splice_pl0 zeroP ((allS (makeS ns 40) ((ms.take i).map entS) 0).1)) ?_
        refine o_b 2 [(13, iv ((allS (makeS ns 40) ((ms.take i).map entS) 0).2.2)), (12, iv ((allS (makeS ns 40) ((ms.take i).map entS) 0).2.1 : Int))] [inB o (ii ns), inB o2 (ii ms), cw (pl (makeS ns 40)), cw (entsL ((ms.take i).map entS) ++ room zE m6), cw (pl ((allS (makeS ns 40) ((ms.take i).map entS) 0).1)), cw (pl ((allS (makeS ns 40) ((ms.take i).map entS) 0).1))] (by kernel_rfl) ?_
        refine o_nil ?_
        refine seq_regs [(13, iv ((allS (makeS ns 40) ((ms.take i).map entS) 0).2.2)), (12, iv ((allS (makeS ns 40) ((ms.take i).map entS) 0).2.1 : Int)), (11, pv 5 0), (10, iv ((allS (makeS ns 40) ((ms.take i).map entS) 0).2.2)), (9, iv ((allS (makeS ns 40) ((ms.take i).map entS) 0).2.1 : Int)), (8, pv 4 0), (5, pv 2 0)] (by kernel_rfl) ?_
        refine gseq ?_
        refine greg ?_
        refine o_s (by refine run_ld (v := poolV (makeS ns 40)) rfl rfl ?_; exact pl_all (makeS ns 40)) ?_
        refine o_cl (callV (All0 h_pool_All h_pool_Apply h_pool_may h_pool_held h_pool_fits h_pool_Check h_pool_placed h_cookie_Next (makeS ns 40)) rfl (all_cons (poolV_vpf (makeS ns 40)) (all_cons rfl rfl)) (all_cons (poolV_aggf (makeS ns 40)) (all_cons rfl (all_cons rfl rfl))) ?_)
        refine o_b 5 [(14, pv 6 0), (58, iv 0), (57, iv 0), (56, poolV (makeS ns 40)), (53, .tuple #[poolV (makeS ns 40), iv 0, iv 0])] [inB o (ii ns), inB o2 (ii ms), cw (pl (makeS ns 40)), cw (entsL ((ms.take i).map entS) ++ room zE m6), cw (pl ((allS (makeS ns 40) ((ms.take i).map entS) 0).1)), cw (pl ((allS (makeS ns 40) ((ms.take i).map entS) 0).1)), cw (pl zeroP)] (by kernel_rfl) ?_
        refine o_s0 (by refine run_st (c' := pl (makeS ns 40)) rfl rfl rfl ?_ ?_ ?_; exact pl_length _; exact pl_le (by omega); exact splice_pl0 zeroP (makeS ns 40)) ?_
        refine o_b 2 [(16, iv 0), (15, iv 0)] [inB o (ii ns), inB o2 (ii ms), cw (pl (makeS ns 40)), cw (entsL ((ms.take i).map entS) ++ room zE m6), cw (pl ((allS (makeS ns 40) ((ms.take i).map entS) 0).1)), cw (pl ((allS (makeS ns 40) ((ms.take i).map entS) 0).1)), cw (pl (makeS ns 40))] (by kernel_rfl) ?_
        refine o_nil ?_
        refine seq_go ?_
        refine gseq ?_
        refine greg ?_
        refine o_s (by refine run_ld (v := poolV ((allS (makeS ns 40) ((ms.take i).map entS) 0).1)) rfl rfl ?_; exact pl_all ((allS (makeS ns 40) ((ms.take i).map entS) 0).1)) ?_
        refine o_s (by refine run_ld (v := poolV ((allS (makeS ns 40) ((ms.take i).map entS) 0).1)) rfl rfl ?_; exact pl_all ((allS (makeS ns 40) ((ms.take i).map entS) 0).1)) ?_
        refine o_s (by refine run_eqa (a := ⟨pl ((allS (makeS ns 40) ((ms.take i).map entS) 0).1)⟩) (b := ⟨pl ((allS (makeS ns 40) ((ms.take i).map entS) 0).1)⟩) (r := true) (R := true) ?_ rfl; exact eqP_runR ((allS (makeS ns 40) ((ms.take i).map entS) 0).1) rfl rfl) ?_
        refine o_d 3 [(64, iv ((allS (makeS ns 40) ((ms.take i).map entS) 0).2.1 : Int)), (63, iv ((allS (makeS ns 40) ((ms.take i).map entS) 0).2.1 : Int)), (62, bv true)] (by kernel_rfl) ?_
        refine o_unguard rfl ?_
        refine o_s (by refine run_val (v := bv (((allS (makeS ns 40) ((ms.take i).map entS) 0).2.1 : Int) == ((allS (makeS ns 40) ((ms.take i).map entS) 0).2.1 : Int))) (congrArg Value.bool (beq_self_eq_true ((allS (makeS ns 40) ((ms.take i).map entS) 0).2.1 : Int))) ?_; kernel_rfl) ?_
        refine o_d 4 [(69, iv ((allS (makeS ns 40) ((ms.take i).map entS) 0).2.2)), (68, iv ((allS (makeS ns 40) ((ms.take i).map entS) 0).2.2)), (67, bv true), (66, bv true)] (by kernel_rfl) ?_
        refine o_unguard rfl ?_
        refine o_s (by refine run_val (v := bv (((allS (makeS ns 40) ((ms.take i).map entS) 0).2.2) == ((allS (makeS ns 40) ((ms.take i).map entS) 0).2.2))) (congrArg Value.bool (beq_self_eq_true ((allS (makeS ns 40) ((ms.take i).map entS) 0).2.2))) ?_; kernel_rfl) ?_
        refine o_d 2 [(72, bv true), (71, bv true)] (by kernel_rfl) ?_
        refine o_unguard rfl ?_
        refine o_s (by refine run_ld (v := poolV (makeS ns 40)) rfl rfl ?_; exact pl_all (makeS ns 40)) ?_
        refine o_unguard rfl ?_
        refine o_s (by refine run_ld (v := poolV (makeS ns 40)) rfl rfl ?_; exact pl_all (makeS ns 40)) ?_
        refine o_unguard rfl ?_
        refine o_s (by refine run_eqa (a := ⟨pl (makeS ns 40)⟩) (b := ⟨pl (makeS ns 40)⟩) (r := true) (R := true) ?_ rfl; exact eqP_runR (makeS ns 40) rfl rfl) ?_
        refine o_d 11 [(86, pv 4 0), (85, bv true), (84, bv true), (83, bv true), (82, iv 0), (81, bv true), (80, bv true), (79, bv true), (78, iv 0), (77, bv true), (76, bv true)] (by kernel_rfl) ?_
        refine o_unguard rfl ?_
        refine o_s (by refine run_ld (v := iv (((allS (makeS ns 40) ((ms.take i).map entS) 0).1) 0)) rfl rfl ?_; exact pl_r ((allS (makeS ns 40) ((ms.take i).map entS) 0).1) 0 rfl (by omega)) ?_
        refine o_d 1 [(88, pv 2 0)] (by kernel_rfl) ?_
        refine o_unguard rfl ?_
        refine o_s (by refine run_ld (v := iv ((makeS ns 40) 0)) rfl rfl ?_; exact pl_r (makeS ns 40) 0 rfl (by omega)) ?_
        refine o_d 5 [(4, bv ((((allS (makeS ns 40) ((ms.take i).map entS) 0).1) 0) == (IntKind.i64.wrap ((makeS ns 40) 0 + ((allS (makeS ns 40) ((ms.take i).map entS) 0).2.1 : Int))))), (93, bv ((((allS (makeS ns 40) ((ms.take i).map entS) 0).1) 0) == (IntKind.i64.wrap ((makeS ns 40) 0 + ((allS (makeS ns 40) ((ms.take i).map entS) 0).2.1 : Int))))), (92, bv ((((allS (makeS ns 40) ((ms.take i).map entS) 0).1) 0) == (IntKind.i64.wrap ((makeS ns 40) 0 + ((allS (makeS ns 40) ((ms.take i).map entS) 0).2.1 : Int))))), (91, iv (IntKind.i64.wrap ((makeS ns 40) 0 + ((allS (makeS ns 40) ((ms.take i).map entS) 0).2.1 : Int)))), (90, iv ((allS (makeS ns 40) ((ms.take i).map entS) 0).2.1 : Int))] (by kernel_rfl) ?_
        refine o_nil ?_
        refine seq_regs [(4, bv ((((allS (makeS ns 40) ((ms.take i).map entS) 0).1) 0) == (IntKind.i64.wrap ((makeS ns 40) 0 + ((allS (makeS ns 40) ((ms.take i).map entS) 0).2.1 : Int)))))] (by kernel_rfl) ?_
        refine gret ?_
        have e0 : ((((allS (makeS ns 40) ((ms.take i).map entS) 0).1) 0) == (IntKind.i64.wrap ((makeS ns 40) 0 + ((allS (makeS ns 40) ((ms.take i).map entS) 0).2.1 : Int)))) = true := by
          first | exact all_ver (makeS_inv ns (k := 40) (by omega)) (by omega) _ | exact all_ver (makeS_inv ns (k := 40) (by omega)) (by omega) [] | (simp_all [eqP_self]; done)
        exact fin_ans [bv ((((allS (makeS ns 40) ((ms.take i).map entS) 0).1) 0) == (IntKind.i64.wrap ((makeS ns 40) 0 + ((allS (makeS ns 40) ((ms.take i).map entS) 0).2.1 : Int))))] (resV_t rfl rfl) rfl (by rw [e0]; rfl) rfl (show List.all [inB o (ii ns), inB o2 (ii ms)] blkf = true from (all_cons (inB_gone _ (ii_scl ns)) (all_cons (inB_gone _ (ii_scl ms)) rfl)))
end Go.Rh
