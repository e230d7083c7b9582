import Derived.Test.YtdkpglcjjadhbaaMe

set_option linter.unusedSimpArgs false
set_option linter.unusedVariables false
set_option maxRecDepth 100000
set_option maxHeartbeats 8000000
namespace Go.Rh
def c_law6_PoolSplit : IFunc :=
  ⟨102, [.tmp 6], (.seq (.reg [⟨(some 6), .mv (.c (.bool false)), none⟩]) (.seq (.seq (.reg [⟨(some 20), .call "roundhouse/roundhouselaw6.known" [], none⟩, ⟨(some 21), .un .not (.t 20), none⟩]) (.cond (.t 21) (.seq (.reg [⟨(some 6), .mv (.c (.bool false)), none⟩]) .ret) .skip)) (.seq (.reg [⟨(some 22), .mv (.t 0), none⟩, ⟨(some 23), .call "roundhouse/roundhouselaw6.Make" [(.t 22), (.c (.int .i64 30))], none⟩, ⟨(some 7), .new [(324, (.int .i64 0)), (6, (.int .u64 0))], none⟩, ⟨none, .st 330 (.t 7) (.t 23), none⟩]) (.seq (.reg [⟨(some 8), .mv (.c (.slice none 0 0)), none⟩]) (.seq (.seq (.reg [⟨(some 9), .mv (.c (.int .i64 0)), none⟩]) (.block 0 (.loop (.seq (.seq (.reg [⟨(some 24), .mv (.t 9), none⟩, ⟨(some 25), .mv (.t 1), none⟩, ⟨(some 26), .lenS (.t 25), none⟩, ⟨(some 27), .bin .lss (.t 24) (.t 26), none⟩, ⟨(some 28), .mv (.t 27), none⟩, ⟨(some 29), .mv (.t 9), some (28, true)⟩, ⟨(some 30), .bin .lss (.t 29) (.c (.int .i64 20)), some (28, true)⟩, ⟨(some 31), .pick (.t 28) (.t 30) (.c (.bool false)), none⟩]) (.cond (.t 31) .skip (.exit 0))) (.seq (.block 1 (.reg [⟨(some 34), .mv (.t 8), none⟩, ⟨(some 35), .mv (.t 1), none⟩, ⟨(some 36), .mv (.t 9), none⟩, ⟨(some 37), .iadS 1 (.t 35) (.t 36), none⟩, ⟨(some 38), .ld none (.t 37), none⟩, ⟨(some 39), .call "roundhouse/roundhouselaw6.Entry" [(.t 38)], none⟩, ⟨(some 40), .bsl [(5, (.int .i64 0)), (2, (.int .u64 0))] 7 1 [(0, 7, (.t 39))], none⟩, ⟨(some 41), .app [(5, (.int .i64 0)), (2, (.int .u64 0))] 7 56 (.t 34) (.t 40), none⟩, ⟨(some 8), .mv (.t 41), none⟩])) (.reg [⟨(some 32), .mv (.t 9), none⟩, ⟨(some 33), .bin .add (.t 32) (.c (.int .i64 1)), none⟩, ⟨(some 9), .mv (.t 33), none⟩])))))) (.seq (.reg [⟨(some 42), .mv (.t 2), none⟩, ⟨(some 43), .mv (.t 8), none⟩, ⟨(some 44), .lenS (.t 43), none⟩, ⟨(some 45), .bin .add (.t 44) (.c (.int .i64 1)), none⟩, ⟨(some 46), .call "roundhouse/roundhouselaw6.within" [(.t 42), (.t 45)], none⟩, ⟨(some 10), .mv (.t 46), none⟩]) (.seq (.reg [⟨(some 48), .ld (some 330) (.t 7), none⟩, ⟨(some 49), .mv (.t 8), none⟩, ⟨(some 50), .call "roundhouse/pool.All" [(.t 48), (.t 49)], none⟩, ⟨(some 47), .mv (.t 50), none⟩, ⟨(some 51), .ext 0 (.t 47), none⟩, ⟨(some 52), .ext 1 (.t 47), none⟩, ⟨(some 53), .ext 2 (.t 47), none⟩, ⟨(some 11), .new [(324, (.int .i64 0)), (6, (.int .u64 0))], none⟩, ⟨none, .st 330 (.t 11) (.t 51), none⟩, ⟨(some 12), .mv (.t 52), none⟩, ⟨(some 13), .mv (.t 53), none⟩]) (.seq (.dreg [⟨(some 55), .ld (some 330) (.t 7), none⟩, ⟨(some 56), .mv (.t 8), none⟩, ⟨(some 57), .mv (.t 10), none⟩, ⟨(some 58), .slcS 7 (.t 56) none (some (.t 57)) none, none⟩, ⟨(some 59), .call "roundhouse/pool.All" [(.t 55), (.t 58)], none⟩, ⟨(some 54), .mv (.t 59), none⟩, ⟨(some 60), .ext 0 (.t 54), none⟩, ⟨(some 61), .ext 1 (.t 54), none⟩, ⟨(some 62), .ext 2 (.t 54), none⟩, ⟨(some 14), .new [(324, (.int .i64 0)), (6, (.int .u64 0))], none⟩, ⟨none, .st 330 (.t 14) (.t 60), none⟩, ⟨(some 15), .mv (.t 61), none⟩, ⟨(some 16), .mv (.t 62), none⟩] [[], [], [], [1, 2], [0, 3, 1, 2], [4, 0, 3, 1, 2], [5, 4, 0, 3, 1, 2], [5, 4, 0, 3, 1, 2], [5, 4, 0, 3, 1, 2], [], [9, 6, 5, 4, 0, 3, 1, 2], [7, 5, 4, 0, 3, 1, 2, 10, 9, 6], [8, 5, 4, 0, 3, 1, 2, 11, 7, 10, 9, 6]]) (.seq (.seq (.reg [⟨(some 63), .mv (.t 16), none⟩, ⟨(some 64), .bin .neq (.t 63) (.c (.int .i64 0)), none⟩]) (.cond (.t 64) (.seq (.reg [⟨(some 65), .ld (some 330) (.t 11), none⟩, ⟨(some 66), .ld (some 330) (.t 14), none⟩, ⟨(some 67), .eqa false [(330, .i)] (.t 65) (.t 66), none⟩, ⟨(some 68), .mv (.t 67), none⟩, ⟨(some 69), .mv (.t 12), some (68, true)⟩, ⟨(some 70), .mv (.t 15), some (68, true)⟩, ⟨(some 71), .bin .eql (.t 69) (.t 70), some (68, true)⟩, ⟨(some 72), .pick (.t 68) (.t 71) (.c (.bool false)), none⟩, ⟨(some 73), .mv (.t 72), none⟩, ⟨(some 74), .mv (.t 13), some (73, true)⟩, ⟨(some 75), .mv (.t 16), some (73, true)⟩, ⟨(some 76), .bin .eql (.t 74) (.t 75), some (73, true)⟩, ⟨(some 77), .pick (.t 73) (.t 76) (.c (.bool false)), none⟩, ⟨(some 6), .mv (.t 77), none⟩]) .ret) .skip)) (.seq (.dreg [⟨(some 79), .ld (some 330) (.t 14), none⟩, ⟨(some 80), .mv (.t 8), none⟩, ⟨(some 81), .mv (.t 10), none⟩, ⟨(some 82), .slcS 7 (.t 80) (some (.t 81)) none none, none⟩, ⟨(some 83), .call "roundhouse/pool.All" [(.t 79), (.t 82)], none⟩, ⟨(some 78), .mv (.t 83), none⟩, ⟨(some 84), .ext 0 (.t 78), none⟩, ⟨(some 85), .ext 1 (.t 78), none⟩, ⟨(some 86), .ext 2 (.t 78), none⟩, ⟨(some 17), .new [(324, (.int .i64 0)), (6, (.int .u64 0))], none⟩, ⟨none, .st 330 (.t 17) (.t 84), none⟩, ⟨(some 18), .mv (.t 85), none⟩, ⟨(some 19), .mv (.t 86), none⟩] [[], [], [], [1, 2], [0, 3, 1, 2], [4, 0, 3, 1, 2], [5, 4, 0, 3, 1, 2], [5, 4, 0, 3, 1, 2], [5, 4, 0, 3, 1, 2], [], [9, 6, 5, 4, 0, 3, 1, 2], [7, 5, 4, 0, 3, 1, 2, 10, 9, 6], [8, 5, 4, 0, 3, 1, 2, 11, 7, 10, 9, 6]]) (.seq (.reg [⟨(some 87), .ld (some 330) (.t 11), none⟩, ⟨(some 88), .ld (some 330) (.t 17), none⟩, ⟨(some 89), .eqa false [(330, .i)] (.t 87) (.t 88), none⟩, ⟨(some 90), .mv (.t 89), none⟩, ⟨(some 91), .mv (.t 12), some (90, true)⟩, ⟨(some 92), .mv (.t 15), some (90, true)⟩, ⟨(some 93), .mv (.t 18), some (90, true)⟩, ⟨(some 94), .bin .add (.t 92) (.t 93), some (90, true)⟩, ⟨(some 95), .bin .eql (.t 91) (.t 94), some (90, true)⟩, ⟨(some 96), .pick (.t 90) (.t 95) (.c (.bool false)), none⟩, ⟨(some 97), .mv (.t 96), none⟩, ⟨(some 98), .mv (.t 13), some (97, true)⟩, ⟨(some 99), .mv (.t 19), some (97, true)⟩, ⟨(some 100), .bin .eql (.t 98) (.t 99), some (97, true)⟩, ⟨(some 101), .pick (.t 97) (.t 100) (.c (.bool false)), none⟩, ⟨(some 6), .mv (.t 101), none⟩]) .ret)))))))))))⟩
theorem take_snoc {ms : List Int} {i : Nat} {x : Int} (ht : ms.take (i + 1) = ms.take i ++ [x]) : entsL ((ms.take i).map entS) ++ eL (entS x) = entsL ((ms.take (i + 1)).map entS) := by
  rw [ht, List.map_append, List.map_singleton]; exact entsL_snoc _ _
theorem PoolSplitC {P : Program} (hc : codeOf P "roundhouse/roundhouselaw6.PoolSplit" = some c_law6_PoolSplit) (h_law6_known : codeOf P "roundhouse/roundhouselaw6.known" = some c_law6_known) (h_pool_New : codeOf P "roundhouse/pool.New" = some c_pool_New) (h_pool_placed : codeOf P "roundhouse/pool.placed" = some c_pool_placed) (h_cookie_Ring : codeOf P "roundhouse/cookie.Ring" = some c_cookie_Ring) (h_pool_Find : codeOf P "roundhouse/pool.Find" = some c_pool_Find) (h_pool_may : codeOf P "roundhouse/pool.may" = some c_pool_may) (h_pool_All : codeOf P "roundhouse/pool.All" = some c_pool_All) (h_pool_Apply : codeOf P "roundhouse/pool.Apply" = some c_pool_Apply) (h_pool_held : codeOf P "roundhouse/pool.held" = some c_pool_held) (h_pool_fits : codeOf P "roundhouse/pool.fits" = some c_pool_fits) (h_pool_Check : codeOf P "roundhouse/pool.Check" = some c_pool_Check) (h_cookie_Next : codeOf P "roundhouse/cookie.Next" = some c_cookie_Next) (h_pool_Takes : codeOf P "roundhouse/pool.Takes" = some c_pool_Takes) (h_law6_Make : codeOf P "roundhouse/roundhouselaw6.Make" = some c_law6_Make) (h_law5_Key : codeOf P "roundhouse/roundhouselaw5.Key" = some c_law5_Key) (h_ref6_New : codeOf P "roundhouse/roundhouseref6.New" = some c_ref6_New) (h_ref6_out : codeOf P "roundhouse/roundhouseref6.out" = some c_ref6_out) (h_ref5_Ring : codeOf P "roundhouse/roundhouseref5.Ring" = some c_ref5_Ring) (h_law6_Entry : codeOf P "roundhouse/roundhouselaw6.Entry" = some c_law6_Entry) (h_law6_within : codeOf P "roundhouse/roundhouselaw6.within" = some c_law6_within) (h_ref6_Apply : codeOf P "roundhouse/roundhouseref6.Apply" = some c_ref6_Apply) (h_ref6_Check : codeOf P "roundhouse/roundhouseref6.Check" = some c_ref6_Check) (h_ref6_bad : codeOf P "roundhouse/roundhouseref6.bad" = some c_ref6_bad) (h_ref6_Held : codeOf P "roundhouse/roundhouseref6.Held" = some c_ref6_Held) (h_ref5_Next : codeOf P "roundhouse/roundhouseref5.Next" = some c_ref5_Next) (o : Option Nat) (ns : List Int) (hnns : o = none → ns = []) (hl : (ns.length : Int) ≤ 9223372036854775807) (o2 : Option Nat) (ms : List Int) (hnms : o2 = none → ms = []) (hlm : (ms.length : Int) ≤ 9223372036854775807) (cut : Int) :
    Env P "roundhouse/roundhouselaw6.PoolSplit" [inV o 0 ns.length, inV o2 1 ms.length, iv cut] ([inB o (ii ns), inB o2 (ii ms)]) (Ans (.bool true) ([inB o (ii ns), inB o2 (ii ms)])) := by
  refine Env.by hc ?_
  unfold c_law6_PoolSplit
  show GC _ 2 _ _ ⟨reg [(0, inV o 0 ns.length), (1, inV o2 1 ms.length), (2, iv cut)], [inB o (ii ns), inB o2 (ii ms)]⟩
  refine gseq ?_
  refine greg ?_
  refine o_d 1 [(6, bv false)] (by kernel_rfl) ?_
  refine o_nil ?_
  refine seq_go ?_
  refine gseq ?_
  refine gseq ?_
  refine greg ?_
  refine o_cl (callV (knownC h_law6_known h_pool_New h_pool_placed h_cookie_Ring h_pool_Find h_pool_may h_pool_All h_pool_Apply h_pool_held h_pool_fits h_pool_Check h_cookie_Next h_pool_Takes) rfl rfl rfl ?_)
  refine o_d 1 [(21, bv false)] (by kernel_rfl) ?_
  refine o_nil ?_
  refine seq_go ?_
  refine gfalse rfl ?_
  refine gskip ?_
  refine seq_go ?_
  refine gseq ?_
  refine greg ?_
  refine o_d 1 [(22, inV o 0 ns.length)] (by kernel_rfl) ?_
  refine o_cl (callRO_K (callIn 0 (MakeC h_law6_Make h_law5_Key h_ref6_New h_ref6_out h_ref5_Ring h_law6_Entry h_law6_within h_ref6_Apply h_ref6_Check h_ref6_bad h_ref6_Held h_ref5_Next o ns hnns hl 30 (by omega)) rfl (ii_scl _) rfl rfl (poolV_vpf _) ?_))
  refine o_b 1 [(7, pv 2 0)] [inB o (ii ns), inB o2 (ii ms), cw (pl zeroP)] (by kernel_rfl) ?_
  refine o_s0 (by refine run_st (c' := pl (makeS ns 30)) rfl rfl rfl ?_ ?_ ?_; exact pl_length _; exact pl_le (by omega); exact splice_pl0 zeroP (makeS ns 30)) ?_
  refine o_nil ?_
  refine seq_go ?_
  refine gseq ?_
  refine greg ?_
  refine o_d 1 [(8, .slice none 0 0)] (by kernel_rfl) ?_
  refine o_nil ?_
  refine seq_go ?_
  refine gseq ?_
  refine gseq ?_
  refine greg ?_
  refine o_d 1 [(9, iv 0)] (by kernel_rfl) ?_
  refine o_nil ?_
  refine seq_go ?_
  refine gblock ?_
  refine gloop (fun μ s => ∃ (i : Nat), ∃ (q : Option Nat), μ = ms.length - i ∧ (i ≤ ms.length ∧ i ≤ 20) ∧ (q = none → i = 0) ∧ s = ⟨reg [(9, iv (i : Int)), (8, slV 3 i q), (7, pv 2 0), (1, inV o2 1 ms.length), (2, iv cut)], [inB o (ii ns), inB o2 (ii ms), cw (pl (makeS ns 30)), slB zE (entsL ((ms.take i).map entS)) q]⟩) ⟨(ms.length - 0), ?_⟩ ?_
  · skip
    refine ⟨⟨reg [(9, iv (0 : Int)), (8, slV 3 0 none), (7, pv 2 0), (1, inV o2 1 ms.length), (2, iv cut)], [inB o (ii ns), inB o2 (ii ms), cw (pl (makeS ns 30)), slB zE (entsL ((ms.take 0).map entS)) none]⟩, ?_⟩
    refine ⟨?_, ?_⟩
    · exact Wk.ren [0, 1, 2, 6] rfl rfl (by decide) ⟨rfl, ⟨rfl, ⟨rfl, ⟨((renV_inV o2 rfl)).trans rfl, ⟨rfl, trivial⟩⟩⟩⟩⟩ ⟨.inl (ren_inB o (ii_scl ns)), ⟨.inl (ren_inB o2 (ii_scl ms)), ⟨.inl (ren_cells (pl_scl (makeS ns 30))), ⟨.inr ⟨rfl, rfl⟩, trivial⟩⟩⟩⟩
    · exact ⟨0, none, rfl, ⟨Nat.zero_le _, Nat.zero_le _⟩, (fun _ => rfl), rfl⟩
  · rintro μ s ⟨i, q, rfl, hi, hq, rfl⟩
    refine gseq ?_
    refine gseq ?_
    refine greg ?_
    refine o_d 2 [(25, inV o2 1 ms.length), (24, iv (i : Int))] (by kernel_rfl) ?_
    refine o_s (by exact run_lenIn rfl (fun q => by rw [hnms q]; rfl)) ?_
    refine o_d 2 [(28, bv (decide ((i : Int) < (ms.length : Nat)))), (27, bv (decide ((i : Int) < (ms.length : Nat))))] (by kernel_rfl) ?_
    refine o_sp (b := decide ((i : Int) < (ms.length : Nat))) 28 rfl (fun h1 => ?_) (fun h1 => ?_)
    · skip
      have h1' : (i : Int) < (ms.length : Nat) := of_decide_eq_true h1
      refine o_d 3 [(31, bv (decide ((i : Int) < 20))), (30, bv (decide ((i : Int) < 20))), (29, iv (i : Int))] (by kernel_rfl) ?_
      refine o_nil ?_
      refine seq_go ?_
      refine gcond (t := decide ((i : Int) < 20)) rfl (fun h2 => ?_) (fun h2 => ?_)
      · skip
        have h2' : (i : Int) < 20 := of_decide_eq_true h2
        obtain ⟨x, hx, hd, ht⟩ := get_of_lt (l := ms) (i := i) (by omega)
        refine gskip ?_
        refine seq_go ?_
        refine gseq ?_
        refine gblock ?_
        refine greg ?_
        refine o_d 3 [(36, iv (i : Int)), (35, inV o2 1 ms.length), (34, slV 3 i q)] (by kernel_rfl) ?_
        refine o_s (by exact run_iadIn (o' := i) rfl (fun q => by rw [hnms q]; rfl) rfl (by omega) (by omega)) ?_
        refine o_s (by refine run_ld (v := iv x) rfl (hf_in (n := ms.length) rfl (fun q => by rw [hnms q]; rfl) (by omega)) ?_; exact ii_r (i := i) (by omega) hx) ?_
        refine o_cl (callV (EntryC h_law6_Entry h_law6_within h_law5_Key x) rfl rfl rfl ?_)
        refine o_b 1 [(40, sv 4 0 1 1)] [inB o (ii ns), inB o2 (ii ms), cw (pl (makeS ns 30)), slB zE (entsL ((ms.take i).map entS)) q, cw [iv ((entS x).k), iv ((entS x).s), iv ((entS x).a), iv ((entS x).p), iv ((entS x).g), uv ((entS x).ka), uv ((entS x).kb)]] (by kernel_rfl) ?_
        refine o_appC (k := 3) (n := i) (o := q) (q := 1) (cs := entsL ((ms.take i).map entS)) (xs := [iv ((entS x).k), iv ((entS x).s), iv ((entS x).a), iv ((entS x).p), iv ((entS x).g), uv ((entS x).ka), uv ((entS x).kb)]) (cs2 := entsL ((ms.take (i + 1)).map entS)) (zl := zE) rfl rfl rfl (fun m q => by subst q; rfl) (fun z => by have := hq z; subst this; exact ⟨rfl, rfl⟩) (by rw [entsL_len]; simp; try omega) rfl rfl (app_first rfl rfl (by simp)) (by rfl) (by omega) (by omega) (take_snoc ht) (fun m3 e4 => ?_) (fun m3 => ?_)
        · skip
          subst e4
          refine o_d 1 [(8, sv 3 0 (i + 1) (i + 1 + m3))] (by kernel_rfl) ?_
          refine o_nil ?_
          refine seq_go ?_
          refine greg ?_
          refine o_d 1 [(32, iv (i : Int))] (by kernel_rfl) ?_
          refine o_s (by refine run_val (v := .int .i64 (IntKind.i64.wrap ((i : Int) + 1))) (congrArg (Value.int .i64) (w64 (by omega) (by omega))) ?_; kernel_rfl) ?_
          refine o_d 1 [(9, iv ((i : Int) + 1))] (by kernel_rfl) ?_
          refine o_nil ?_
          refine ⟨ms.length - (i + 1), ?_⟩
          refine ⟨⟨reg [(9, iv ((i + 1) : Int)), (8, slV 3 (i + 1) (some m3)), (7, pv 2 0), (1, inV o2 1 ms.length), (2, iv cut)], [inB o (ii ns), inB o2 (ii ms), cw (pl (makeS ns 30)), slB zE (entsL ((ms.take (i + 1)).map entS)) (some m3)]⟩, ?_⟩
          refine and3 (by omega) ⟨?_, ?_⟩
          · exact Wk.ren [0, 1, 2, 3] rfl rfl (by decide) ⟨rfl, ⟨rfl, ⟨rfl, ⟨((renV_inV o2 rfl)).trans rfl, ⟨rfl, trivial⟩⟩⟩⟩⟩ ⟨.inl (ren_inB o (ii_scl ns)), ⟨.inl (ren_inB o2 (ii_scl ms)), ⟨.inl (ren_cells (pl_scl (makeS ns 30))), ⟨.inl (ren_cells (entsR_scl _ _)), trivial⟩⟩⟩⟩
          · exact ⟨(i + 1), (some m3), rfl, by omega, (fun q => by cases q), rfl⟩
        · skip
          refine o_d 1 [(8, sv 5 0 (i + 1) (i + 1 + m3))] (by kernel_rfl) ?_
          refine o_nil ?_
          refine seq_go ?_
          refine greg ?_
          refine o_d 1 [(32, iv (i : Int))] (by kernel_rfl) ?_
          refine o_s (by refine run_val (v := .int .i64 (IntKind.i64.wrap ((i : Int) + 1))) (congrArg (Value.int .i64) (w64 (by omega) (by omega))) ?_; kernel_rfl) ?_
          refine o_d 1 [(9, iv ((i : Int) + 1))] (by kernel_rfl) ?_
          refine o_nil ?_
          refine ⟨ms.length - (i + 1), ?_⟩
          refine ⟨⟨reg [(9, iv ((i + 1) : Int)), (8, slV 3 (i + 1) (some m3)), (7, pv 2 0), (1, inV o2 1 ms.length), (2, iv cut)], [inB o (ii ns), inB o2 (ii ms), cw (pl (makeS ns 30)), slB zE (entsL ((ms.take (i + 1)).map entS)) (some m3)]⟩, ?_⟩
          refine and3 (by omega) ⟨?_, ?_⟩
          · exact Wk.ren [0, 1, 2, 5] rfl rfl (by decide) ⟨rfl, ⟨rfl, ⟨rfl, ⟨((renV_inV o2 rfl)).trans rfl, ⟨rfl, trivial⟩⟩⟩⟩⟩ ⟨.inl (ren_inB o (ii_scl ns)), ⟨.inl (ren_inB o2 (ii_scl ms)), ⟨.inl (ren_cells (pl_scl (makeS ns 30))), ⟨.inl (ren_cells (entsR_scl _ _)), trivial⟩⟩⟩⟩
          · exact ⟨(i + 1), (some m3), rfl, by omega, (fun q => by cases q), rfl⟩
      · skip
        have h2' : ¬ ((i : Int) < 20) := of_decide_eq_false h2
        refine gexit ?_
        refine seq_go ?_
        refine gseq ?_
        refine greg ?_
        refine o_d 2 [(43, slV 3 i q), (42, iv cut)] (by kernel_rfl) ?_
        refine o_s (by exact run_lenSl rfl hq) ?_
        refine o_s (by refine run_val (v := .int .i64 (IntKind.i64.wrap ((i : Nat) + 1))) (congrArg (Value.int .i64) (w64 (by omega) (by omega))) ?_; kernel_rfl) ?_
        refine o_cl (callV (withinC h_law6_within cut ((i : Nat) + 1) (by omega)) rfl rfl rfl ?_)
        have w5 := within_lt cut (n := (i : Nat) + 1) (by omega)
        refine o_d 1 [(10, iv (withinS cut ((i : Nat) + 1)))] (by kernel_rfl) ?_
        refine o_nil ?_
        refine seq_go ?_
        refine gseq ?_
        refine greg ?_
        refine o_s (by refine run_ld (v := poolV (makeS ns 30)) rfl rfl ?_; exact pl_all (makeS ns 30)) ?_
        refine o_d 1 [(49, slV 3 i q)] (by kernel_rfl) ?_
        rcases q with _ | m6
        · skip
          have hi0 : i = 0 := hq rfl
          refine o_cl (callV (All0 h_pool_All h_pool_Apply h_pool_may h_pool_held h_pool_fits h_pool_Check h_pool_placed h_cookie_Next (makeS ns 30)) rfl (all_cons (poolV_vpf (makeS ns 30)) (all_cons rfl rfl)) (all_cons (poolV_aggf (makeS ns 30)) (all_cons rfl (all_cons rfl rfl))) ?_)
          refine o_b 5 [(11, pv 4 0), (53, iv 0), (52, iv 0), (51, poolV (makeS ns 30)), (47, .tuple #[poolV (makeS ns 30), iv 0, iv 0])] [inB o (ii ns), inB o2 (ii ms), cw (pl (makeS ns 30)), .gone, cw (pl zeroP)] (by kernel_rfl) ?_
          refine o_s0 (by refine run_st (c' := pl (makeS ns 30)) rfl rfl rfl ?_ ?_ ?_; exact pl_length _; exact pl_le (by omega); exact splice_pl0 zeroP (makeS ns 30)) ?_
          refine o_b 2 [(13, iv 0), (12, iv 0)] [inB o (ii ns), inB o2 (ii ms), cw (pl (makeS ns 30)), .gone, cw (pl (makeS ns 30))] (by kernel_rfl) ?_
          refine o_nil ?_
          refine seq_regs [(13, iv 0), (12, iv 0), (11, pv 4 0), (10, iv (withinS cut ((i : Nat) + 1))), (8, .slice none 0 0), (7, pv 2 0)] (by kernel_rfl) ?_
          refine gseq ?_
          refine gdreg [] (by kernel_rfl) ?_
          refine r_s (by refine run_ld (v := poolV (makeS ns 30)) rfl rfl ?_; exact pl_all (makeS ns 30)) ?_
          refine r_d 2 [(57, iv (withinS cut ((i : Nat) + 1))), (56, .slice none 0 0)] (by kernel_rfl) ?_
          refine r_s (by exact run_slcN rfl rfl (by omega)) ?_
          refine r_cl (callVR (All0 h_pool_All h_pool_Apply h_pool_may h_pool_held h_pool_fits h_pool_Check h_pool_placed h_cookie_Next (makeS ns 30)) rfl (all_cons (poolV_vpf (makeS ns 30)) (all_cons rfl rfl)) (all_cons (poolV_aggf (makeS ns 30)) (all_cons rfl (all_cons rfl rfl))) ?_)
          refine r_b 5 [(14, pv 5 0), (62, iv 0), (61, iv 0), (60, poolV (makeS ns 30)), (54, .tuple #[poolV (makeS ns 30), iv 0, iv 0])] [inB o (ii ns), inB o2 (ii ms), cw (pl (makeS ns 30)), .gone, cw (pl (makeS ns 30)), cw (pl zeroP)] (by kernel_rfl) ?_
          refine r_s0 (by refine run_st (c' := pl (makeS ns 30)) rfl rfl rfl ?_ ?_ ?_; exact pl_length _; exact pl_le (by omega); exact splice_pl0 zeroP (makeS ns 30)) ?_
          refine r_b 2 [(16, iv 0), (15, iv 0)] [inB o (ii ns), inB o2 (ii ms), cw (pl (makeS ns 30)), .gone, cw (pl (makeS ns 30)), cw (pl (makeS ns 30))] (by kernel_rfl) ?_
          refine r_nil ?_
          refine seq_go ?_
          refine gseq ?_
          refine gseq ?_
          refine greg ?_
          refine o_d 2 [(64, bv false), (63, iv 0)] (by kernel_rfl) ?_
          refine o_nil ?_
          refine seq_go ?_
          refine gfalse rfl ?_
          refine gskip ?_
          refine seq_go ?_
          refine gseq ?_
          refine gdreg [] (by kernel_rfl) ?_
          refine r_s (by refine run_ld (v := poolV (makeS ns 30)) rfl rfl ?_; exact pl_all (makeS ns 30)) ?_
          refine r_d 2 [(81, iv (withinS cut ((i : Nat) + 1))), (80, .slice none 0 0)] (by kernel_rfl) ?_
          refine r_s (by exact run_slcM rfl rfl (by omega)) ?_
          refine r_cl (callVR (All0 h_pool_All h_pool_Apply h_pool_may h_pool_held h_pool_fits h_pool_Check h_pool_placed h_cookie_Next (makeS ns 30)) rfl (all_cons (poolV_vpf (makeS ns 30)) (all_cons rfl rfl)) (all_cons (poolV_aggf (makeS ns 30)) (all_cons rfl (all_cons rfl rfl))) ?_)
          refine r_b 5 [(17, pv 6 0), (86, iv 0), (85, iv 0), (84, poolV (makeS ns 30)), (78, .tuple #[poolV (makeS ns 30), iv 0, iv 0])] [inB o (ii ns), inB o2 (ii ms), cw (pl (makeS ns 30)), .gone, cw (pl (makeS ns 30)), cw (pl (makeS ns 30)), cw (pl zeroP)] (by kernel_rfl) ?_
          refine r_s0 (by refine run_st (c' := pl (makeS ns 30)) rfl rfl rfl ?_ ?_ ?_; exact pl_length _; exact pl_le (by omega); exact splice_pl0 zeroP (makeS ns 30)) ?_
          refine r_b 2 [(19, iv 0), (18, iv 0)] [inB o (ii ns), inB o2 (ii ms), cw (pl (makeS ns 30)), .gone, cw (pl (makeS ns 30)), cw (pl (makeS ns 30)), cw (pl (makeS ns 30))] (by kernel_rfl) ?_
          refine r_nil ?_
          refine seq_regs [(19, iv 0), (18, iv 0), (17, pv 6 0), (15, iv 0), (13, iv 0), (12, iv 0), (11, pv 4 0)] (by kernel_rfl) ?_
          refine gseq ?_
          refine greg ?_
          refine o_s (by refine run_ld (v := poolV (makeS ns 30)) rfl rfl ?_; exact pl_all (makeS ns 30)) ?_
          refine o_s (by refine run_ld (v := poolV (makeS ns 30)) rfl rfl ?_; exact pl_all (makeS ns 30)) ?_
          refine o_s (by refine run_eqa (a := ⟨pl (makeS ns 30)⟩) (b := ⟨pl (makeS ns 30)⟩) (r := true) (R := true) ?_ rfl; exact eqP_runR (makeS ns 30) rfl rfl) ?_
          refine o_d 13 [(6, bv true), (101, bv true), (100, bv true), (99, iv 0), (98, iv 0), (97, bv true), (96, bv true), (95, bv true), (94, iv 0), (93, iv 0), (92, iv 0), (91, iv 0), (90, bv true)] (by kernel_rfl) ?_
          refine o_nil ?_
          refine seq_regs [(6, bv true)] (by kernel_rfl) ?_
          refine gret ?_
          exact fin_ans [bv true] (resV_t rfl rfl) rfl (by rfl) rfl (show List.all [inB o (ii ns), inB o2 (ii ms)] blkf = true from (all_cons (inB_gone _ (ii_scl ns)) (all_cons (inB_gone _ (ii_scl ms)) rfl)))
        · skip
          refine o_cl (callS (a1 := [poolV (makeS ns 30), .slice (some ⟨0, 0, none⟩) i (i + m6)]) [3] [entsL ((ms.take i).map entS) ++ room zE m6] (AllE h_pool_All h_pool_Apply h_pool_may h_pool_held h_pool_fits h_pool_Check h_pool_placed h_cookie_Next (makeS ns 30) ((ms.take i).map entS) m6 i (i + m6) (by simp; omega) (by omega)) rfl (fun n => ren_pool_sl _ _ _ _ _) ⟨⟨_, rfl⟩, entsR_scl _ _, trivial⟩ (all_cons (poolV_aggf ((allS (makeS ns 30) ((ms.take i).map entS) 0).1)) (all_cons rfl (all_cons rfl rfl))) ?_)
          refine o_b 5 [(11, pv 4 0), (53, iv ((allS (makeS ns 30) ((ms.take i).map entS) 0).2.2)), (52, iv ((allS (makeS ns 30) ((ms.take i).map entS) 0).2.1 : Int)), (51, poolV ((allS (makeS ns 30) ((ms.take i).map entS) 0).1)), (47, .tuple #[poolV ((allS (makeS ns 30) ((ms.take i).map entS) 0).1), iv ((allS (makeS ns 30) ((ms.take i).map entS) 0).2.1 : Int), iv ((allS (makeS ns 30) ((ms.take i).map entS) 0).2.2)])] [inB o (ii ns), inB o2 (ii ms), cw (pl (makeS ns 30)), cw (entsL ((ms.take i).map entS) ++ room zE m6), cw (pl zeroP)] (by kernel_rfl) ?_
          refine o_s0 (by refine run_st (c' := pl ((allS (makeS ns 30) ((ms.take i).map entS) 0).1)) rfl rfl rfl ?_ ?_ ?_; exact pl_length _; exact pl_le (by omega); exact splice_pl0 zeroP ((allS (makeS ns 30) ((ms.take i).map entS) 0).1)) ?_
          refine o_b 2 [(13, iv ((allS (makeS ns 30) ((ms.take i).map entS) 0).2.2)), (12, iv ((allS (makeS ns 30) ((ms.take i).map entS) 0).2.1 : Int))] [inB o (ii ns), inB o2 (ii ms), cw (pl (makeS ns 30)), cw (entsL ((ms.take i).map entS) ++ room zE m6), cw (pl ((allS (makeS ns 30) ((ms.take i).map entS) 0).1))] (by kernel_rfl) ?_
          refine o_nil ?_
          refine seq_regs [(13, iv ((allS (makeS ns 30) ((ms.take i).map entS) 0).2.2)), (12, iv ((allS (makeS ns 30) ((ms.take i).map entS) 0).2.1 : Int)), (11, pv 4 0), (10, iv (withinS cut ((i : Nat) + 1))), (8, sv 3 0 i (i + m6)), (7, pv 2 0)] (by kernel_rfl) ?_
          refine gseq ?_
          refine gdreg [] (by kernel_rfl) ?_
          refine r_s (by refine run_ld (v := poolV (makeS ns 30)) rfl rfl ?_; exact pl_all (makeS ns 30)) ?_
          refine r_d 2 [(57, iv (withinS cut ((i : Nat) + 1))), (56, sv 3 0 i (i + m6))] (by kernel_rfl) ?_
          refine r_s (by exact run_slcLo rfl rfl (by omega)) ?_
          refine r_cl (callSR (a1 := [poolV (makeS ns 30), .slice (some ⟨0, 0, none⟩) ((withinS cut ((i : Nat) + 1)).toNat) (i + m6)]) [3] [entsL ((ms.take i).map entS) ++ room zE m6] (AllG h_pool_All h_pool_Apply h_pool_may h_pool_held h_pool_fits h_pool_Check h_pool_placed h_cookie_Next (makeS ns 30) ((ms.take i).map entS) (((ms.take i).map entS).take ((withinS cut ((i : Nat) + 1)).toNat)) m6 0 ((withinS cut ((i : Nat) + 1)).toNat) (i + m6) (by simp; omega) (by omega) take_ents) rfl (fun n => ren_pool_slo _ _ _ _ _ _) ⟨⟨_, rfl⟩, entsR_scl _ _, trivial⟩ (all_cons (poolV_aggf ((allS (makeS ns 30) (((ms.take i).map entS).take ((withinS cut ((i : Nat) + 1)).toNat)) 0).1)) (all_cons rfl (all_cons rfl rfl))) ?_)
          refine r_b 5 [(14, pv 5 0), (62, iv ((allS (makeS ns 30) (((ms.take i).map entS).take ((withinS cut ((i : Nat) + 1)).toNat)) 0).2.2)), (61, iv ((allS (makeS ns 30) (((ms.take i).map entS).take ((withinS cut ((i : Nat) + 1)).toNat)) 0).2.1 : Int)), (60, poolV ((allS (makeS ns 30) (((ms.take i).map entS).take ((withinS cut ((i : Nat) + 1)).toNat)) 0).1)), (54, .tuple #[poolV ((allS (makeS ns 30) (((ms.take i).map entS).take ((withinS cut ((i : Nat) + 1)).toNat)) 0).1), iv ((allS (makeS ns 30) (((ms.take i).map entS).take ((withinS cut ((i : Nat) + 1)).toNat)) 0).2.1 : Int), iv ((allS (makeS ns 30) (((ms.take i).map entS).take ((withinS cut ((i : Nat) + 1)).toNat)) 0).2.2)])] [inB o (ii ns), inB o2 (ii ms), cw (pl (makeS ns 30)), cw (entsL ((ms.take i).map entS) ++ room zE m6), cw (pl ((allS (makeS ns 30) ((ms.take i).map entS) 0).1)), cw (pl zeroP)] (by kernel_rfl) ?_
          refine r_s0 (by refine run_st (c' := pl ((allS (makeS ns 30) (((ms.take i).map entS).take ((withinS cut ((i : Nat) + 1)).toNat)) 0).1)) rfl rfl rfl ?_ ?_ ?_; exact pl_length _; exact pl_le (by omega); exact splice_pl0 zeroP ((allS (makeS ns 30) (((ms.take i).map entS).take ((withinS cut ((i : Nat) + 1)).toNat)) 0).1)) ?_
          refine r_b 2 [(16, iv ((allS (makeS ns 30) (((ms.take i).map entS).take ((withinS cut ((i : Nat) + 1)).toNat)) 0).2.2)), (15, iv ((allS (makeS ns 30) (((ms.take i).map entS).take ((withinS cut ((i : Nat) + 1)).toNat)) 0).2.1 : Int))] [inB o (ii ns), inB o2 (ii ms), cw (pl (makeS ns 30)), cw (entsL ((ms.take i).map entS) ++ room zE m6), cw (pl ((allS (makeS ns 30) ((ms.take i).map entS) 0).1)), cw (pl ((allS (makeS ns 30) (((ms.take i).map entS).take ((withinS cut ((i : Nat) + 1)).toNat)) 0).1))] (by kernel_rfl) ?_
          refine r_nil ?_
          refine seq_go ?_
          refine gseq ?_
          refine gseq ?_
          refine greg ?_
          refine o_d 2 [(64, bv (((allS (makeS ns 30) (((ms.take i).map entS).take ((withinS cut ((i : Nat) + 1)).toNat)) 0).2.2) != 0)), (63, iv ((allS (makeS ns 30) (((ms.take i).map entS).take ((withinS cut ((i : Nat) + 1)).toNat)) 0).2.2))] (by kernel_rfl) ?_
          refine o_nil ?_
          refine seq_go ?_
          refine gcond (t := ((allS (makeS ns 30) (((ms.take i).map entS).take ((withinS cut ((i : Nat) + 1)).toNat)) 0).2.2) != 0) rfl (fun h7 => ?_) (fun h7 => ?_)
          · skip
            have h7' : (allS (makeS ns 30) (((ms.take i).map entS).take ((withinS cut ((i : Nat) + 1)).toNat)) 0).2.2 ≠ 0 := neI_t h7
            have hstop := split_stop (makeS ns 30) ((ms.take i).map entS) ((withinS cut ((i : Nat) + 1)).toNat) (by assumption)
            refine gseq ?_
            refine greg ?_
            refine o_s (by refine run_ld (v := poolV ((allS (makeS ns 30) ((ms.take i).map entS) 0).1)) rfl rfl ?_; exact pl_all ((allS (makeS ns 30) ((ms.take i).map entS) 0).1)) ?_
            refine o_s (by refine run_ld (v := poolV ((allS (makeS ns 30) (((ms.take i).map entS).take ((withinS cut ((i : Nat) + 1)).toNat)) 0).1)) rfl rfl ?_; exact pl_all ((allS (makeS ns 30) (((ms.take i).map entS).take ((withinS cut ((i : Nat) + 1)).toNat)) 0).1)) ?_
            refine o_s (by refine run_eqa (a := ⟨pl ((allS (makeS ns 30) ((ms.take i).map entS) 0).1)⟩) (b := ⟨pl ((allS (makeS ns 30) (((ms.take i).map entS).take ((withinS cut ((i : Nat) + 1)).toNat)) 0).1)⟩) (r := eqP ((allS (makeS ns 30) ((ms.take i).map entS) 0).1) ((allS (makeS ns 30) (((ms.take i).map entS).take ((withinS cut ((i : Nat) + 1)).toNat)) 0).1)) (R := eqP ((allS (makeS ns 30) ((ms.take i).map entS) 0).1) ((allS (makeS ns 30) (((ms.take i).map entS).take ((withinS cut ((i : Nat) + 1)).toNat)) 0).1)) ?_ rfl; exact eqP_run ((allS (makeS ns 30) ((ms.take i).map entS) 0).1) ((allS (makeS ns 30) (((ms.take i).map entS).take ((withinS cut ((i : Nat) + 1)).toNat)) 0).1) rfl rfl) ?_
            refine o_d 1 [(68, bv (eqP ((allS (makeS ns 30) ((ms.take i).map entS) 0).1) ((allS (makeS ns 30) (((ms.take i).map entS).take ((withinS cut ((i : Nat) + 1)).toNat)) 0).1)))] (by kernel_rfl) ?_
            refine o_sp (b := eqP ((allS (makeS ns 30) ((ms.take i).map entS) 0).1) ((allS (makeS ns 30) (((ms.take i).map entS).take ((withinS cut ((i : Nat) + 1)).toNat)) 0).1)) 68 rfl (fun k8 => ?_) (fun q => by rw [(by rw [hstop]; first | exact eqP_self _ | simp : (eqP ((allS (makeS ns 30) ((ms.take i).map entS) 0).1) ((allS (makeS ns 30) (((ms.take i).map entS).take ((withinS cut ((i : Nat) + 1)).toNat)) 0).1)) = true)] at q; cases q)
            refine o_d 5 [(73, bv (((allS (makeS ns 30) ((ms.take i).map entS) 0).2.1 : Int) == ((allS (makeS ns 30) (((ms.take i).map entS).take ((withinS cut ((i : Nat) + 1)).toNat)) 0).2.1 : Int))), (72, bv (((allS (makeS ns 30) ((ms.take i).map entS) 0).2.1 : Int) == ((allS (makeS ns 30) (((ms.take i).map entS).take ((withinS cut ((i : Nat) + 1)).toNat)) 0).2.1 : Int))), (71, bv (((allS (makeS ns 30) ((ms.take i).map entS) 0).2.1 : Int) == ((allS (makeS ns 30) (((ms.take i).map entS).take ((withinS cut ((i : Nat) + 1)).toNat)) 0).2.1 : Int))), (70, iv ((allS (makeS ns 30) (((ms.take i).map entS).take ((withinS cut ((i : Nat) + 1)).toNat)) 0).2.1 : Int)), (69, iv ((allS (makeS ns 30) ((ms.take i).map entS) 0).2.1 : Int))] (by kernel_rfl) ?_
            refine o_sp (b := ((allS (makeS ns 30) ((ms.take i).map entS) 0).2.1 : Int) == ((allS (makeS ns 30) (((ms.take i).map entS).take ((withinS cut ((i : Nat) + 1)).toNat)) 0).2.1 : Int)) 73 rfl (fun k9 => ?_) (fun q => by rw [(by rw [hstop]; first | exact eqP_self _ | simp : (((allS (makeS ns 30) ((ms.take i).map entS) 0).2.1 : Int) == ((allS (makeS ns 30) (((ms.take i).map entS).take ((withinS cut ((i : Nat) + 1)).toNat)) 0).2.1 : Int)) = true)] at q; cases q)
            refine o_d 5 [(6, bv (((allS (makeS ns 30) ((ms.take i).map entS) 0).2.2) == ((allS (makeS ns 30) (((ms.take i).map entS).take ((withinS cut ((i : Nat) + 1)).toNat)) 0).2.2))), (77, bv (((allS (makeS ns 30) ((ms.take i).map entS) 0).2.2) == ((allS (makeS ns 30) (((ms.take i).map entS).take ((withinS cut ((i : Nat) + 1)).toNat)) 0).2.2))), (76, bv (((allS (makeS ns 30) ((ms.take i).map entS) 0).2.2) == ((allS (makeS ns 30) (((ms.take i).map entS).take ((withinS cut ((i : Nat) + 1)).toNat)) 0).2.2))), (75, iv ((allS (makeS ns 30) (((ms.take i).map entS).take ((withinS cut ((i : Nat) + 1)).toNat)) 0).2.2)), (74, iv ((allS (makeS ns 30) ((ms.take i).map entS) 0).2.2))] (by kernel_rfl) ?_
            refine o_nil ?_
            refine seq_regs [(6, bv (((allS (makeS ns 30) ((ms.take i).map entS) 0).2.2) == ((allS (makeS ns 30) (((ms.take i).map entS).take ((withinS cut ((i : Nat) + 1)).toNat)) 0).2.2)))] (by kernel_rfl) ?_
            refine gret ?_
            have e0 : (((allS (makeS ns 30) ((ms.take i).map entS) 0).2.2) == ((allS (makeS ns 30) (((ms.take i).map entS).take ((withinS cut ((i : Nat) + 1)).toNat)) 0).2.2)) = true := by
              first | (rw [hstop]; first | exact eqP_self _ | simp) | (rw [happ]; first | exact eqP_self _ | simp)
            exact fin_ans [bv (((allS (makeS ns 30) ((ms.take i).map entS) 0).2.2) == ((allS (makeS ns 30) (((ms.take i).map entS).take ((withinS cut ((i : Nat) + 1)).toNat)) 0).2.2))] (resV_t rfl rfl) rfl (by rw [e0]; rfl) rfl (show List.all [inB o (ii ns), inB o2 (ii ms)] blkf = true from (all_cons (inB_gone _ (ii_scl ns)) (all_cons (inB_gone _ (ii_scl ms)) rfl)))
          · skip
            have h7' : ¬ ((allS (makeS ns 30) (((ms.take i).map entS).take ((withinS cut ((i : Nat) + 1)).toNat)) 0).2.2 ≠ 0) := neI_f h7
            have happ := split_go (makeS ns 30) ((ms.take i).map entS) ((withinS cut ((i : Nat) + 1)).toNat) (Decidable.of_not_not (by assumption))
            have hb1 := allS_le (((ms.take i).map entS).take ((withinS cut ((i : Nat) + 1)).toNat)) (makeS ns 30) 0
            have hb2 := allS_le (((ms.take i).map entS).drop ((withinS cut ((i : Nat) + 1)).toNat)) ((allS (makeS ns 30) (((ms.take i).map entS).take ((withinS cut ((i : Nat) + 1)).toNat)) 0).1) 0
            have hb3 : ((ms.take i).map entS).length = i := by simp; omega
            rw [List.length_take, hb3] at hb1
            rw [List.length_drop, hb3] at hb2
            refine gskip ?_
            refine seq_go ?_
            refine gseq ?_
            refine gdreg [] (by kernel_rfl) ?_
            refine r_s (by refine run_ld (v := poolV ((allS (makeS ns 30) (((ms.take i).map entS).take ((withinS cut ((i : Nat) + 1)).toNat)) 0).1)) rfl rfl ?_; exact pl_all ((allS (makeS ns 30) (((ms.take i).map entS).take ((withinS cut ((i : Nat) + 1)).toNat)) 0).1)) ?_
            refine r_d 2 [(81, iv (withinS cut ((i : Nat) + 1))), (80, sv 3 0 i (i + m6))] (by kernel_rfl) ?_
            refine r_s (by exact run_slcHi rfl rfl (by omega)) ?_
            refine r_cl (callSR (a1 := [poolV ((allS (makeS ns 30) (((ms.take i).map entS).take ((withinS cut ((i : Nat) + 1)).toNat)) 0).1), .slice (some ⟨0, if i + m6 = (withinS cut ((i : Nat) + 1)).toNat then 0 else (withinS cut ((i : Nat) + 1)).toNat * 7, none⟩) (i - (withinS cut ((i : Nat) + 1)).toNat) (i + m6 - (withinS cut ((i : Nat) + 1)).toNat)]) [3] [entsL ((ms.take i).map entS) ++ room zE m6] (AllG h_pool_All h_pool_Apply h_pool_may h_pool_held h_pool_fits h_pool_Check h_pool_placed h_cookie_Next ((allS (makeS ns 30) (((ms.take i).map entS).take ((withinS cut ((i : Nat) + 1)).toNat)) 0).1) ((ms.take i).map entS) (((ms.take i).map entS).drop ((withinS cut ((i : Nat) + 1)).toNat)) m6 (if i + m6 = (withinS cut ((i : Nat) + 1)).toNat then 0 else (withinS cut ((i : Nat) + 1)).toNat * 7) (i - (withinS cut ((i : Nat) + 1)).toNat) (i + m6 - (withinS cut ((i : Nat) + 1)).toNat) (by simp; omega) (by omega) (drop_ents (by simp; omega))) rfl (fun n => ren_pool_slo _ _ _ _ _ _) ⟨⟨_, rfl⟩, entsR_scl _ _, trivial⟩ (all_cons (poolV_aggf ((allS ((allS (makeS ns 30) (((ms.take i).map entS).take ((withinS cut ((i : Nat) + 1)).toNat)) 0).1) (((ms.take i).map entS).drop ((withinS cut ((i : Nat) + 1)).toNat)) 0).1)) (all_cons rfl (all_cons rfl rfl))) ?_)
            refine r_b 5 [(17, pv 6 0), (86, iv ((allS ((allS (makeS ns 30) (((ms.take i).map entS).take ((withinS cut ((i : Nat) + 1)).toNat)) 0).1) (((ms.take i).map entS).drop ((withinS cut ((i : Nat) + 1)).toNat)) 0).2.2)), (85, iv ((allS ((allS (makeS ns 30) (((ms.take i).map entS).take ((withinS cut ((i : Nat) + 1)).toNat)) 0).1) (((ms.take i).map entS).drop ((withinS cut ((i : Nat) + 1)).toNat)) 0).2.1 : Int)), (84, poolV ((allS ((allS (makeS ns 30) (((ms.take i).map entS).take ((withinS cut ((i : Nat) + 1)).toNat)) 0).1) (((ms.take i).map entS).drop ((withinS cut ((i : Nat) + 1)).toNat)) 0).1)), (78, .tuple #[poolV ((allS ((allS (makeS ns 30) (((ms.take i).map entS).take ((withinS cut ((i : Nat) + 1)).toNat)) 0).1) (((ms.take i).map entS).drop ((withinS cut ((i : Nat) + 1)).toNat)) 0).1), iv ((allS ((allS (makeS ns 30) (((ms.take i).map entS).take ((withinS cut ((i : Nat) + 1)).toNat)) 0).1) (((ms.take i).map entS).drop ((withinS cut ((i : Nat) + 1)).toNat)) 0).2.1 : Int), iv ((allS ((allS (makeS ns 30) (((ms.take i).map entS).take ((withinS cut ((i : Nat) + 1)).toNat)) 0).1) (((ms.take i).map entS).drop ((withinS cut ((i : Nat) + 1)).toNat)) 0).2.2)])] [inB o (ii ns), inB o2 (ii ms), cw (pl (makeS ns 30)), cw (entsL ((ms.take i).map entS) ++ room zE m6), cw (pl ((allS (makeS ns 30) ((ms.take i).map entS) 0).1)), cw (pl ((allS (makeS ns 30) (((ms.take i).map entS).take ((withinS cut ((i : Nat) + 1)).toNat)) 0).1)), cw (pl zeroP)] (by kernel_rfl) ?_
            refine r_s0 (by refine run_st (c' := pl ((allS ((allS (makeS ns 30) (((ms.take i).map entS).take ((withinS cut ((i : Nat) + 1)).toNat)) 0).1) (((ms.take i).map entS).drop ((withinS cut ((i : Nat) + 1)).toNat)) 0).1)) rfl rfl rfl ?_ ?_ ?_; exact pl_length _; exact pl_le (by omega); exact splice_pl0 zeroP ((allS ((allS (makeS ns 30) (((ms.take i).map entS).take ((withinS cut ((i : Nat) + 1)).toNat)) 0).1) (((ms.take i).map entS).drop ((withinS cut ((i : Nat) + 1)).toNat)) 0).1)) ?_
            refine r_b 2 [(19, iv ((allS ((allS (makeS ns 30) (((ms.take i).map entS).take ((withinS cut ((i : Nat) + 1)).toNat)) 0).1) (((ms.take i).map entS).drop ((withinS cut ((i : Nat) + 1)).toNat)) 0).2.2)), (18, iv ((allS ((allS (makeS ns 30) (((ms.take i).map entS).take ((withinS cut ((i : Nat) + 1)).toNat)) 0).1) (((ms.take i).map entS).drop ((withinS cut ((i : Nat) + 1)).toNat)) 0).2.1 : Int))] [inB o (ii ns), inB o2 (ii ms), cw (pl (makeS ns 30)), cw (entsL ((ms.take i).map entS) ++ room zE m6), cw (pl ((allS (makeS ns 30) ((ms.take i).map entS) 0).1)), cw (pl ((allS (makeS ns 30) (((ms.take i).map entS).take ((withinS cut ((i : Nat) + 1)).toNat)) 0).1)), cw (pl ((allS ((allS (makeS ns 30) (((ms.take i).map entS).take ((withinS cut ((i : Nat) + 1)).toNat)) 0).1) (((ms.take i).map entS).drop ((withinS cut ((i : Nat) + 1)).toNat)) 0).1))] (by kernel_rfl) ?_
            refine r_nil ?_
            refine seq_regs [(19, iv ((allS ((allS (makeS ns 30) (((ms.take i).map entS).take ((withinS cut ((i : Nat) + 1)).toNat)) 0).1) (((ms.take i).map entS).drop ((withinS cut ((i : Nat) + 1)).toNat)) 0).2.2)), (18, iv ((allS ((allS (makeS ns 30) (((ms.take i).map entS).take ((withinS cut ((i : Nat) + 1)).toNat)) 0).1) (((ms.take i).map entS).drop ((withinS cut ((i : Nat) + 1)).toNat)) 0).2.1 : Int)), (17, pv 6 0), (15, iv ((allS (makeS ns 30) (((ms.take i).map entS).take ((withinS cut ((i : Nat) + 1)).toNat)) 0).2.1 : Int)), (13, iv ((allS (makeS ns 30) ((ms.take i).map entS) 0).2.2)), (12, iv ((allS (makeS ns 30) ((ms.take i).map entS) 0).2.1 : Int)), (11, pv 4 0)] (by kernel_rfl) ?_
            refine gseq ?_
            refine greg ?_
            refine o_s (by refine run_ld (v := poolV ((allS (makeS ns 30) ((ms.take i).map entS) 0).1)) rfl rfl ?_; exact pl_all ((allS (makeS ns 30) ((ms.take i).map entS) 0).1)) ?_
            refine o_s (by refine run_ld (v := poolV ((allS ((allS (makeS ns 30) (((ms.take i).map entS).take ((withinS cut ((i : Nat) + 1)).toNat)) 0).1) (((ms.take i).map entS).drop ((withinS cut ((i : Nat) + 1)).toNat)) 0).1)) rfl rfl ?_; exact pl_all ((allS ((allS (makeS ns 30) (((ms.take i).map entS).take ((withinS cut ((i : Nat) + 1)).toNat)) 0).1) (((ms.take i).map entS).drop ((withinS cut ((i : Nat) + 1)).toNat)) 0).1)) ?_
            refine o_s (by refine run_eqa (a := ⟨pl ((allS (makeS ns 30) ((ms.take i).map entS) 0).1)⟩) (b := ⟨pl ((allS ((allS (makeS ns 30) (((ms.take i).map entS).take ((withinS cut ((i : Nat) + 1)).toNat)) 0).1) (((ms.take i).map entS).drop ((withinS cut ((i : Nat) + 1)).toNat)) 0).1)⟩) (r := eqP ((allS (makeS ns 30) ((ms.take i).map entS) 0).1) ((allS ((allS (makeS ns 30) (((ms.take i).map entS).take ((withinS cut ((i : Nat) + 1)).toNat)) 0).1) (((ms.take i).map entS).drop ((withinS cut ((i : Nat) + 1)).toNat)) 0).1)) (R := eqP ((allS (makeS ns 30) ((ms.take i).map entS) 0).1) ((allS ((allS (makeS ns 30) (((ms.take i).map entS).take ((withinS cut ((i : Nat) + 1)).toNat)) 0).1) (((ms.take i).map entS).drop ((withinS cut ((i : Nat) + 1)).toNat)) 0).1)) ?_ rfl; exact eqP_run ((allS (makeS ns 30) ((ms.take i).map entS) 0).1) ((allS ((allS (makeS ns 30) (((ms.take i).map entS).take ((withinS cut ((i : Nat) + 1)).toNat)) 0).1) (((ms.take i).map entS).drop ((withinS cut ((i : Nat) + 1)).toNat)) 0).1) rfl rfl) ?_
            refine o_d 1 [(90, bv (eqP ((allS (makeS ns 30) ((ms.take i).map entS) 0).1) ((allS ((allS (makeS ns 30) (((ms.take i).map entS).take ((withinS cut ((i : Nat) + 1)).toNat)) 0).1) (((ms.take i).map entS).drop ((withinS cut ((i : Nat) + 1)).toNat)) 0).1)))] (by kernel_rfl) ?_
            refine o_sp (b := eqP ((allS (makeS ns 30) ((ms.take i).map entS) 0).1) ((allS ((allS (makeS ns 30) (((ms.take i).map entS).take ((withinS cut ((i : Nat) + 1)).toNat)) 0).1) (((ms.take i).map entS).drop ((withinS cut ((i : Nat) + 1)).toNat)) 0).1)) 90 rfl (fun k10 => ?_) (fun q => by rw [(by rw [happ]; first | exact eqP_self _ | simp : (eqP ((allS (makeS ns 30) ((ms.take i).map entS) 0).1) ((allS ((allS (makeS ns 30) (((ms.take i).map entS).take ((withinS cut ((i : Nat) + 1)).toNat)) 0).1) (((ms.take i).map entS).drop ((withinS cut ((i : Nat) + 1)).toNat)) 0).1)) = true)] at q; cases q)
            refine o_d 3 [(93, iv ((allS ((allS (makeS ns 30) (((ms.take i).map entS).take ((withinS cut ((i : Nat) + 1)).toNat)) 0).1) (((ms.take i).map entS).drop ((withinS cut ((i : Nat) + 1)).toNat)) 0).2.1 : Int)), (92, iv ((allS (makeS ns 30) (((ms.take i).map entS).take ((withinS cut ((i : Nat) + 1)).toNat)) 0).2.1 : Int)), (91, iv ((allS (makeS ns 30) ((ms.take i).map entS) 0).2.1 : Int))] (by kernel_rfl) ?_
            refine o_unguard rfl ?_
            refine o_s (by refine run_val (v := .int .i64 (IntKind.i64.wrap (((allS (makeS ns 30) (((ms.take i).map entS).take ((withinS cut ((i : Nat) + 1)).toNat)) 0).2.1 : Int) + ((allS ((allS (makeS ns 30) (((ms.take i).map entS).take ((withinS cut ((i : Nat) + 1)).toNat)) 0).1) (((ms.take i).map entS).drop ((withinS cut ((i : Nat) + 1)).toNat)) 0).2.1 : Int)))) (congrArg (Value.int .i64) (w64 (by omega) (by omega))) ?_; kernel_rfl) ?_
            refine o_d 3 [(97, bv (((allS (makeS ns 30) ((ms.take i).map entS) 0).2.1 : Int) == (((allS (makeS ns 30) (((ms.take i).map entS).take ((withinS cut ((i : Nat) + 1)).toNat)) 0).2.1 : Int) + ((allS ((allS (makeS ns 30) (((ms.take i).map entS).take ((withinS cut ((i : Nat) + 1)).toNat)) 0).1) (((ms.take i).map entS).drop ((withinS cut ((i : Nat) + 1)).toNat)) 0).2.1 : Int)))), (96, bv (((allS (makeS ns 30) ((ms.take i).map entS) 0).2.1 : Int) == (((allS (makeS ns 30) (((ms.take i).map entS).take ((withinS cut ((i : Nat) + 1)).toNat)) 0).2.1 : Int) + ((allS ((allS (makeS ns 30) (((ms.take i).map entS).take ((withinS cut ((i : Nat) + 1)).toNat)) 0).1) (((ms.take i).map entS).drop ((withinS cut ((i : Nat) + 1)).toNat)) 0).2.1 : Int)))), (95, bv (((allS (makeS ns 30) ((ms.take i).map entS) 0).2.1 : Int) == (((allS (makeS ns 30) (((ms.take i).map entS).take ((withinS cut ((i : Nat) + 1)).toNat)) 0).2.1 : Int) + ((allS ((allS (makeS ns 30) (((ms.take i).map entS).take ((withinS cut ((i : Nat) + 1)).toNat)) 0).1) (((ms.take i).map entS).drop ((withinS cut ((i : Nat) + 1)).toNat)) 0).2.1 : Int))))] (by kernel_rfl) ?_
            refine o_sp (b := ((allS (makeS ns 30) ((ms.take i).map entS) 0).2.1 : Int) == (((allS (makeS ns 30) (((ms.take i).map entS).take ((withinS cut ((i : Nat) + 1)).toNat)) 0).2.1 : Int) + ((allS ((allS (makeS ns 30) (((ms.take i).map entS).take ((withinS cut ((i : Nat) + 1)).toNat)) 0).1) (((ms.take i).map entS).drop ((withinS cut ((i : Nat) + 1)).toNat)) 0).2.1 : Int))) 97 rfl (fun k11 => ?_) (fun q => by rw [(by rw [happ]; first | exact eqP_self _ | simp : (((allS (makeS ns 30) ((ms.take i).map entS) 0).2.1 : Int) == (((allS (makeS ns 30) (((ms.take i).map entS).take ((withinS cut ((i : Nat) + 1)).toNat)) 0).2.1 : Int) + ((allS ((allS (makeS ns 30) (((ms.take i).map entS).take ((withinS cut ((i : Nat) + 1)).toNat)) 0).1) (((ms.take i).map entS).drop ((withinS cut ((i : Nat) + 1)).toNat)) 0).2.1 : Int))) = true)] at q; cases q)
            refine o_d 5 [(6, bv (((allS (makeS ns 30) ((ms.take i).map entS) 0).2.2) == ((allS ((allS (makeS ns 30) (((ms.take i).map entS).take ((withinS cut ((i : Nat) + 1)).toNat)) 0).1) (((ms.take i).map entS).drop ((withinS cut ((i : Nat) + 1)).toNat)) 0).2.2))), (101, bv (((allS (makeS ns 30) ((ms.take i).map entS) 0).2.2) == ((allS ((allS (makeS ns 30) (((ms.take i).map entS).take ((withinS cut ((i : Nat) + 1)).toNat)) 0).1) (((ms.take i).map entS).drop ((withinS cut ((i : Nat) + 1)).toNat)) 0).2.2))), (100, bv (((allS (makeS ns 30) ((ms.take i).map entS) 0).2.2) == ((allS ((allS (makeS ns 30) (((ms.take i).map entS).take ((withinS cut ((i : Nat) + 1)).toNat)) 0).1) (((ms.take i).map entS).drop ((withinS cut ((i : Nat) + 1)).toNat)) 0).2.2))), (99, iv ((allS ((allS (makeS ns 30) (((ms.take i).map entS).take ((withinS cut ((i : Nat) + 1)).toNat)) 0).1) (((ms.take i).map entS).drop ((withinS cut ((i : Nat) + 1)).toNat)) 0).2.2)), (98, iv ((allS (makeS ns 30) ((ms.take i).map entS) 0).2.2))] (by kernel_rfl) ?_
            refine o_nil ?_
            refine seq_regs [(6, bv (((allS (makeS ns 30) ((ms.take i).map entS) 0).2.2) == ((allS ((allS (makeS ns 30) (((ms.take i).map entS).take ((withinS cut ((i : Nat) + 1)).toNat)) 0).1) (((ms.take i).map entS).drop ((withinS cut ((i : Nat) + 1)).toNat)) 0).2.2)))] (by kernel_rfl) ?_
            refine gret ?_
            have e0 : (((allS (makeS ns 30) ((ms.take i).map entS) 0).2.2) == ((allS ((allS (makeS ns 30) (((ms.take i).map entS).take ((withinS cut ((i : Nat) + 1)).toNat)) 0).1) (((ms.take i).map entS).drop ((withinS cut ((i : Nat) + 1)).toNat)) 0).2.2)) = true := by
              first | (rw [hstop]; first | exact eqP_self _ | simp) | (rw [happ]; first | exact eqP_self _ | simp)
            exact fin_ans [bv (((allS (makeS ns 30) ((ms.take i).map entS) 0).2.2) == ((allS ((allS (makeS ns 30) (((ms.take i).map entS).take ((withinS cut ((i : Nat) + 1)).toNat)) 0).1) (((ms.take i).map entS).drop ((withinS cut ((i : Nat) + 1)).toNat)) 0).2.2))] (resV_t rfl rfl) rfl (by rw [e0]; rfl) rfl (show List.all [inB o (ii ns), inB o2 (ii ms)] blkf = true from (all_cons (inB_gone _ (ii_scl ns)) (all_cons (inB_gone _ (ii_scl ms)) rfl)))
    · skip
      have h1' : ¬ ((i : Int) < (ms.length : Nat)) := of_decide_eq_false h1
      refine o_d 3 [(31, bv false), (30, undef), (29, undef)] (by kernel_rfl) ?_
      refine o_nil ?_
      refine seq_go ?_
      refine gfalse rfl ?_
      refine gexit ?_
      refine seq_go ?_
      refine gseq ?_
      refine greg ?_
      refine o_d 2 [(43, slV 3 i q), (42, iv cut)] (by kernel_rfl) ?_
      refine o_s (by exact run_lenSl rfl hq) ?_
      refine o_s (by refine run_val (v := .int .i64 (IntKind.i64.wrap ((i : Nat) + 1))) (congrArg (Value.int .i64) (w64 (by omega) (by omega))) ?_; kernel_rfl) ?_
      refine o_cl (callV (withinC h_law6_within cut ((i : Nat) + 1) (by omega)) rfl rfl rfl ?_)
      have w12 := within_lt cut (n := (i : Nat) + 1) (by omega)
      refine o_d 1 [(10, iv (withinS cut ((i : Nat) + 1)))] (by kernel_rfl) ?_
      refine o_nil ?_
      refine seq_go ?_
      refine gseq ?_
      refine greg ?_
      refine o_s (by refine run_ld (v := poolV (makeS ns 30)) rfl rfl ?_; exact pl_all (makeS ns 30)) ?_
      refine o_d 1 [(49, slV 3 i q)] (by kernel_rfl) ?_
      rcases q with _ | m13
      · skip
        have hi0 : i = 0 := hq rfl
        refine o_cl (callV (All0 h_pool_All h_pool_Apply h_pool_may h_pool_held h_pool_fits h_pool_Check h_pool_placed h_cookie_Next (makeS ns 30)) rfl (all_cons (poolV_vpf (makeS ns 30)) (all_cons rfl rfl)) (all_cons (poolV_aggf (makeS ns 30)) (all_cons rfl (all_cons rfl rfl))) ?_)
        refine o_b 5 [(11, pv 4 0), (53, iv 0), (52, iv 0), (51, poolV (makeS ns 30)), (47, .tuple #[poolV (makeS ns 30), iv 0, iv 0])] [inB o (ii ns), inB o2 (ii ms), cw (pl (makeS ns 30)), .gone, cw (pl zeroP)] (by kernel_rfl) ?_
        refine o_s0 (by refine run_st (c' := pl (makeS ns 30)) rfl rfl rfl ?_ ?_ ?_; exact pl_length _; exact pl_le (by omega); exact splice_pl0 zeroP (makeS ns 30)) ?_
        refine o_b 2 [(13, iv 0), (12, iv 0)] [inB o (ii ns), inB o2 (ii ms), cw (pl (makeS ns 30)), .gone, cw (pl (makeS ns 30))] (by kernel_rfl) ?_
        refine o_nil ?_
        refine seq_regs [(13, iv 0), (12, iv 0), (11, pv 4 0), (10, iv (withinS cut ((i : Nat) + 1))), (8, .slice none 0 0), (7, pv 2 0)] (by kernel_rfl) ?_
        refine gseq ?_
        refine gdreg [] (by kernel_rfl) ?_
        refine r_s (by refine run_ld (v := poolV (makeS ns 30)) rfl rfl ?_; exact pl_all (makeS ns 30)) ?_
        refine r_d 2 [(57, iv (withinS cut ((i : Nat) + 1))), (56, .slice none 0 0)] (by kernel_rfl) ?_
        refine r_s (by exact run_slcN rfl rfl (by omega)) ?_
        refine r_cl (callVR (All0 h_pool_All h_pool_Apply h_pool_may h_pool_held h_pool_fits h_pool_Check h_pool_placed h_cookie_Next (makeS ns 30)) rfl (all_cons (poolV_vpf (makeS ns 30)) (all_cons rfl rfl)) (all_cons (poolV_aggf (makeS ns 30)) (all_cons rfl (all_cons rfl rfl))) ?_)
        refine r_b 5 [(14, pv 5 0), (62, iv 0), (61, iv 0), (60, poolV (makeS ns 30)), (54, .tuple #[poolV (makeS ns 30), iv 0, iv 0])] [inB o (ii ns), inB o2 (ii ms), cw (pl (makeS ns 30)), .gone, cw (pl (makeS ns 30)), cw (pl zeroP)] (by kernel_rfl) ?_
        refine r_s0 (by refine run_st (c' := pl (makeS ns 30)) rfl rfl rfl ?_ ?_ ?_; exact pl_length _; exact pl_le (by omega); exact splice_pl0 zeroP (makeS ns 30)) ?_
        refine r_b 2 [(16, iv 0), (15, iv 0)] [inB o (ii ns), inB o2 (ii ms), cw (pl (makeS ns 30)), .gone, cw (pl (makeS ns 30)), cw (pl (makeS ns 30))] (by kernel_rfl) ?_
        refine r_nil ?_
        refine seq_go ?_
        refine gseq ?_
        refine gseq ?_
        refine greg ?_
        refine o_d 2 [(64, bv false), (63, iv 0)] (by kernel_rfl) ?_
        refine o_nil ?_
        refine seq_go ?_
        refine gfalse rfl ?_
        refine gskip ?_
        refine seq_go ?_
        refine gseq ?_
        refine gdreg [] (by kernel_rfl) ?_
        refine r_s (by refine run_ld (v := poolV (makeS ns 30)) rfl rfl ?_; exact pl_all (makeS ns 30)) ?_
        refine r_d 2 [(81, iv (withinS cut ((i : Nat) + 1))), (80, .slice none 0 0)] (by kernel_rfl) ?_
        refine r_s (by exact run_slcM rfl rfl (by omega)) ?_
        refine r_cl (callVR (All0 h_pool_All h_pool_Apply h_pool_may h_pool_held h_pool_fits h_pool_Check h_pool_placed h_cookie_Next (makeS ns 30)) rfl (all_cons (poolV_vpf (makeS ns 30)) (all_cons rfl rfl)) (all_cons (poolV_aggf (makeS ns 30)) (all_cons rfl (all_cons rfl rfl))) ?_)
        refine r_b 5 [(17, pv 6 0), (86, iv 0), (85, iv 0), (84, poolV (makeS ns 30)), (78, .tuple #[poolV (makeS ns 30), iv 0, iv 0])] [inB o (ii ns), inB o2 (ii ms), cw (pl (makeS ns 30)), .gone, cw (pl (makeS ns 30)), cw (pl (makeS ns 30)), cw (pl zeroP)] (by kernel_rfl) ?_
        refine r_s0 (by refine run_st (c' := pl (makeS ns 30)) rfl rfl rfl ?_ ?_ ?_; exact pl_length _; exact pl_le (by omega); exact splice_pl0 zeroP (makeS ns 30)) ?_
        refine r_b 2 [(19, iv 0), (18, iv 0)] [inB o (ii ns), inB o2 (ii ms), cw (pl (makeS ns 30)), .gone, cw (pl (makeS ns 30)), cw (pl (makeS ns 30)), cw (pl (makeS ns 30))] (by kernel_rfl) ?_
        refine r_nil ?_
        refine seq_regs [(19, iv 0), (18, iv 0), (17, pv 6 0), (15, iv 0), (13, iv 0), (12, iv 0), (11, pv 4 0)] (by kernel_rfl) ?_
        refine gseq ?_
        refine greg ?_
        refine o_s (by refine run_ld (v := poolV (makeS ns 30)) rfl rfl ?_; exact pl_all (makeS ns 30)) ?_
        refine o_s (by refine run_ld (v := poolV (makeS ns 30)) rfl rfl ?_; exact pl_all (makeS ns 30)) ?_
        refine o_s (by refine run_eqa (a := ⟨pl (makeS ns 30)⟩) (b := ⟨pl (makeS ns 30)⟩) (r := true) (R := true) ?_ rfl; exact eqP_runR (makeS ns 30) rfl rfl) ?_
        refine o_d 13 [(6, bv true), (101, bv true), (100, bv true), (99, iv 0), (98, iv 0), (97, bv true), (96, bv true), (95, bv true), (94, iv 0), (93, iv 0), (92, iv 0), (91, iv 0), (90, bv true)] (by kernel_rfl) ?_
        refine o_nil ?_
        refine seq_regs [(6, bv true)] (by kernel_rfl) ?_
        refine gret ?_
        exact fin_ans [bv true] (resV_t rfl rfl) rfl (by rfl) rfl (show List.all [inB o (ii ns), inB o2 (ii ms)] blkf = true from (all_cons (inB_gone _ (ii_scl ns)) (all_cons (inB_gone _ (ii_scl ms)) rfl)))
      · skip
        refine o_cl (callS (a1 := [poolV (makeS ns 30), .slice (some ⟨0, 0, none⟩) i (i + m13)]) [3] [entsL ((ms.take i).map entS) ++ room zE m13] (AllE h_pool_All h_pool_Apply h_pool_may h_pool_held h_pool_fits h_pool_Check h_pool_placed h_cookie_Next (makeS ns 30) ((ms.take i).map entS) m13 i (i + m13) (by simp; omega) (by omega)) rfl (fun n => ren_pool_sl _ _ _ _ _) ⟨⟨_, rfl⟩, entsR_scl _ _, trivial⟩ (all_cons (poolV_aggf ((allS (makeS ns 30) ((ms.take i).map entS) 0).1)) (all_cons rfl (all_cons rfl rfl))) ?_)
        refine o_b 5 [(11, pv 4 0), (53, iv ((allS (makeS ns 30) ((ms.take i).map entS) 0).2.2)), (52, iv ((allS (makeS ns 30) ((ms.take i).map entS) 0).2.1 : Int)), (51, poolV ((allS (makeS ns 30) ((ms.take i).map entS) 0).1)), (47, .tuple #[poolV ((allS (makeS ns 30) ((ms.take i).map entS) 0).1), iv ((allS (makeS ns 30) ((ms.take i).map entS) 0).2.1 : Int), iv ((allS (makeS ns 30) ((ms.take i).map entS) 0).2.2)])] [inB o (ii ns), inB o2 (ii ms), cw (pl (makeS ns 30)), cw (entsL ((ms.take i).map entS) ++ room zE m13), cw (pl zeroP)] (by kernel_rfl) ?_
        refine o_s0 (by refine run_st (c' := pl ((allS (makeS ns 30) ((ms.take i).map entS) 0).1)) rfl rfl rfl ?_ ?_ ?_; exact pl_length _; exact pl_le (by omega); exact splice_pl0 zeroP ((allS (makeS ns 30) ((ms.take i).map entS) 0).1)) ?_
        refine o_b 2 [(13, iv ((allS (makeS ns 30) ((ms.take i).map entS) 0).2.2)), (12, iv ((allS (makeS ns 30) ((ms.take i).map entS) 0).2.1 : Int))] [inB o (ii ns), inB o2 (ii ms), cw (pl (makeS ns 30)), cw (entsL ((ms.take i).map entS) ++ room zE m13), cw (pl ((allS (makeS ns 30) ((ms.take i).map entS) 0).1))] (by kernel_rfl) ?_
        refine o_nil ?_
        refine seq_regs [(13, iv ((allS (makeS ns 30) ((ms.take i).map entS) 0).2.2)), (12, iv ((allS (makeS ns 30) ((ms.take i).map entS) 0).2.1 : Int)), (11, pv 4 0), (10, iv (withinS cut ((i : Nat) + 1))), (8, sv 3 0 i (i + m13)), (7, pv 2 0)] (by kernel_rfl) ?_
        refine gseq ?_
        refine gdreg [] (by kernel_rfl) ?_
        refine r_s (by refine run_ld (v := poolV (makeS ns 30)) rfl rfl ?_; exact pl_all (makeS ns 30)) ?_
        refine r_d 2 [(57, iv (withinS cut ((i : Nat) + 1))), (56, sv 3 0 i (i + m13))] (by kernel_rfl) ?_
        refine r_s (by exact run_slcLo rfl rfl (by omega)) ?_
        refine r_cl (callSR (a1 := [poolV (makeS ns 30), .slice (some ⟨0, 0, none⟩) ((withinS cut ((i : Nat) + 1)).toNat) (i + m13)]) [3] [entsL ((ms.take i).map entS) ++ room zE m13] (AllG h_pool_All h_pool_Apply h_pool_may h_pool_held h_pool_fits h_pool_Check h_pool_placed h_cookie_Next (makeS ns 30) ((ms.take i).map entS) (((ms.take i).map entS).take ((withinS cut ((i : Nat) + 1)).toNat)) m13 0 ((withinS cut ((i : Nat) + 1)).toNat) (i + m13) (by simp; omega) (by omega) take_ents) rfl (fun n => ren_pool_slo _ _ _ _ _ _) ⟨⟨_, rfl⟩, entsR_scl _ _, trivial⟩ (all_cons (poolV_aggf ((allS (makeS ns 30) (((ms.take i).map entS).take ((withinS cut ((i : Nat) + 1)).toNat)) 0).1)) (all_cons rfl (all_cons rfl rfl))) ?_)
        refine r_b 5 [(14, pv 5 0), (62, iv ((allS (makeS ns 30) (((ms.take i).map entS).take ((withinS cut ((i : Nat) + 1)).toNat)) 0).2.2)), (61, iv ((allS (makeS ns 30) (((ms.take i).map entS).take ((withinS cut ((i : Nat) + 1)).toNat)) 0).2.1 : Int)), (60, poolV ((allS (makeS ns 30) (((ms.take i).map entS).take ((withinS cut ((i : Nat) + 1)).toNat)) 0).1)), (54, .tuple #[poolV ((allS (makeS ns 30) (((ms.take i).map entS).take ((withinS cut ((i : Nat) + 1)).toNat)) 0).1), iv ((allS (makeS ns 30) (((ms.take i).map entS).take ((withinS cut ((i : Nat) + 1)).toNat)) 0).2.1 : Int), iv ((allS (makeS ns 30) (((ms.take i).map entS).take ((withinS cut ((i : Nat) + 1)).toNat)) 0).2.2)])] [inB o (ii ns), inB o2 (ii ms), cw (pl (makeS ns 30)), cw (entsL ((ms.take i).map entS) ++ room zE m13), cw (pl ((allS (makeS ns 30) ((ms.take i).map entS) 0).1)), cw (pl zeroP)] (by kernel_rfl) ?_
        refine r_s0 (by refine run_st (c' := pl ((allS (makeS ns 30) (((ms.take i).map entS).take ((withinS cut ((i : Nat) + 1)).toNat)) 0).1)) rfl rfl rfl ?_ ?_ ?_; exact pl_length _; exact pl_le (by omega); exact splice_pl0 zeroP ((allS (makeS ns 30) (((ms.take i).map entS).take ((withinS cut ((i : Nat) + 1)).toNat)) 0).1)) ?_
        refine r_b 2 [(16, iv ((allS (makeS ns 30) (((ms.take i).map entS).take ((withinS cut ((i : Nat) + 1)).toNat)) 0).2.2)), (15, iv ((allS (makeS ns 30) (((ms.take i).map entS).take ((withinS cut ((i : Nat) + 1)).toNat)) 0).2.1 : Int))] [inB o (ii ns), inB o2 (ii ms), cw (pl (makeS ns 30)), cw (entsL ((ms.take i).map entS) ++ room zE m13), cw (pl ((allS (makeS ns 30) ((ms.take i).map entS) 0).1)), cw (pl ((allS (makeS ns 30) (((ms.take i).map entS).take ((withinS cut ((i : Nat) + 1)).toNat)) 0).1))] (by kernel_rfl) ?_
        refine r_nil ?_
        refine seq_go ?_
        refine gseq ?_
        refine gseq ?_
        refine greg ?_
        refine o_d 2 [(64, bv (((allS (makeS ns 30) (((ms.take i).map entS).take ((withinS cut ((i : Nat) + 1)).toNat)) 0).2.2) != 0)), (63, iv ((allS (makeS ns 30) (((ms.take i).map entS).take ((withinS cut ((i : Nat) + 1)).toNat)) 0).2.2))] (by kernel_rfl) ?_
        refine o_nil ?_
        refine seq_go ?_
        refine gcond (t := ((allS (makeS ns 30) (((ms.take i).map entS).take ((withinS cut ((i : Nat) + 1)).toNat)) 0).2.2) != 0) rfl (fun h14 => ?_) (fun h14 => ?_)
        · skip
          have h14' : (allS (makeS ns 30) (((ms.take i).map entS).take ((withinS cut ((i : Nat) + 1)).toNat)) 0).2.2 ≠ 0 := neI_t h14
          have hstop := split_stop (makeS ns 30) ((ms.take i).map entS) ((withinS cut ((i : Nat) + 1)).toNat) (by assumption)
          refine gseq ?_
          refine greg ?_
          refine o_s (by refine run_ld (v := poolV ((allS (makeS ns 30) ((ms.take i).map entS) 0).1)) rfl rfl ?_; exact pl_all ((allS (makeS ns 30) ((ms.take i).map entS) 0).1)) ?_
          refine o_s (by refine run_ld (v := poolV ((allS (makeS ns 30) (((ms.take i).map entS).take ((withinS cut ((i : Nat) + 1)).toNat)) 0).1)) rfl rfl ?_; exact pl_all ((allS (makeS ns 30) (((ms.take i).map entS).take ((withinS cut ((i : Nat) + 1)).toNat)) 0).1)) ?_
          refine o_s (by refine run_eqa (a := ⟨pl ((allS (makeS ns 30) ((ms.take i).map entS) 0).1)⟩) (b := ⟨pl ((allS (makeS ns 30) (((ms.take i).map entS).take ((withinS cut ((i : Nat) + 1)).toNat)) 0).1)⟩) (r := eqP ((allS (makeS ns 30) ((ms.take i).map entS) 0).1) ((allS (makeS ns 30) (((ms.take i).map entS).take ((withinS cut ((i : Nat) + 1)).toNat)) 0).1)) (R := eqP ((allS (makeS ns 30) ((ms.take i).map entS) 0).1) ((allS (makeS ns 30) (((ms.take i).map entS).take ((withinS cut ((i : Nat) + 1)).toNat)) 0).1)) ?_ rfl; exact eqP_run ((allS (makeS ns 30) ((ms.take i).map entS) 0).1) ((allS (makeS ns 30) (((ms.take i).map entS).take ((withinS cut ((i : Nat) + 1)).toNat)) 0).1) rfl rfl) ?_
          refine o_d 1 [(68, bv (eqP ((allS (makeS ns 30) ((ms.take i).map entS) 0).1) ((allS (makeS ns 30) (((ms.take i).map entS).take ((withinS cut ((i : Nat) + 1)).toNat)) 0).1)))] (by kernel_rfl) ?_
          refine o_sp (b := eqP ((allS (makeS ns 30) ((ms.take i).map entS) 0).1) ((allS (makeS ns 30) (((ms.take i).map entS).take ((withinS cut ((i : Nat) + 1)).toNat)) 0).1)) 68 rfl (fun k15 => ?_) (fun q => by rw [(by rw [hstop]; first | exact eqP_self _ | simp : (eqP ((allS (makeS ns 30) ((ms.take i).map entS) 0).1) ((allS (makeS ns 30) (((ms.take i).map entS).take ((withinS cut ((i : Nat) + 1)).toNat)) 0).1)) = true)] at q; cases q)
          refine o_d 5 [(73, bv (((allS (makeS ns 30) ((ms.take i).map entS) 0).2.1 : Int) == ((allS (makeS ns 30) (((ms.take i).map entS).take ((withinS cut ((i : Nat) + 1)).toNat)) 0).2.1 : Int))), (72, bv (((allS (makeS ns 30) ((ms.take i).map entS) 0).2.1 : Int) == ((allS (makeS ns 30) (((ms.take i).map entS).take ((withinS cut ((i : Nat) + 1)).toNat)) 0).2.1 : Int))), (71, bv (((allS (makeS ns 30) ((ms.take i).map entS) 0).2.1 : Int) == ((allS (makeS ns 30) (((ms.take i).map entS).take ((withinS cut ((i : Nat) + 1)).toNat)) 0).2.1 : Int))), (70, iv ((allS (makeS ns 30) (((ms.take i).map entS).take ((withinS cut ((i : Nat) + 1)).toNat)) 0).2.1 : Int)), (69, iv ((allS (makeS ns 30) ((ms.take i).map entS) 0).2.1 : Int))] (by kernel_rfl) ?_
          refine o_sp (b := ((allS (makeS ns 30) ((ms.take i).map entS) 0).2.1 : Int) == ((allS (makeS ns 30) (((ms.take i).map entS).take ((withinS cut ((i : Nat) + 1)).toNat)) 0).2.1 : Int)) 73 rfl (fun k16 => ?_) (fun q => by rw [(by rw [hstop]; first | exact eqP_self _ | simp : (((allS (makeS ns 30) ((ms.take i).map entS) 0).2.1 : Int) == ((allS (makeS ns 30) (((ms.take i).map entS).take ((withinS cut ((i : Nat) + 1)).toNat)) 0).2.1 : Int)) = true)] at q; cases q)
          refine o_d 5 [(6, bv (((allS (makeS ns 30) ((ms.take i).map entS) 0).2.2) == ((allS (makeS ns 30) (((ms.take i).map entS).take ((withinS cut ((i : Nat) + 1)).toNat)) 0).2.2))), (77, bv (((allS (makeS ns 30) ((ms.take i).map entS) 0).2.2) == ((allS (makeS ns 30) (((ms.take i).map entS).take ((withinS cut ((i : Nat) + 1)).toNat)) 0).2.2))), (76, bv (((allS (makeS ns 30) ((ms.take i).map entS) 0).2.2) == ((allS (makeS ns 30) (((ms.take i).map entS).take ((withinS cut ((i : Nat) + 1)).toNat)) 0).2.2))), (75, iv ((allS (makeS ns 30) (((ms.take i).map entS).take ((withinS cut ((i : Nat) + 1)).toNat)) 0).2.2)), (74, iv ((allS (makeS ns 30) ((ms.take i).map entS) 0).2.2))] (by kernel_rfl) ?_
          refine o_nil ?_
          refine seq_regs [(6, bv (((allS (makeS ns 30) ((ms.take i).map entS) 0).2.2) == ((allS (makeS ns 30) (((ms.take i).map entS).take ((withinS cut ((i : Nat) + 1)).toNat)) 0).2.2)))] (by kernel_rfl) ?_
          refine gret ?_
          have e0 : (((allS (makeS ns 30) ((ms.take i).map entS) 0).2.2) == ((allS (makeS ns 30) (((ms.take i).map entS).take ((withinS cut ((i : Nat) + 1)).toNat)) 0).2.2)) = true := by
            first | (rw [hstop]; first | exact eqP_self _ | simp) | (rw [happ]; first | exact eqP_self _ | simp)
          exact fin_ans [bv (((allS (makeS ns 30) ((ms.take i).map entS) 0).2.2) == ((allS (makeS ns 30) (((ms.take i).map entS).take ((withinS cut ((i : Nat) + 1)).toNat)) 0).2.2))] (resV_t rfl rfl) rfl (by rw [e0]; rfl) rfl (show List.all [inB o (ii ns), inB o2 (ii ms)] blkf = true from (all_cons (inB_gone _ (ii_scl ns)) (all_cons (inB_gone _ (ii_scl ms)) rfl)))
        · skip
          have h14' : ¬ ((allS (makeS ns 30) (((ms.take i).map entS).take ((withinS cut ((i : Nat) + 1)).toNat)) 0).2.2 ≠ 0) := neI_f h14
          have happ := split_go (makeS ns 30) ((ms.take i).map entS) ((withinS cut ((i : Nat) + 1)).toNat) (Decidable.of_not_not (by assumption))
          have hb1 := allS_le (((ms.take i).map entS).take ((withinS cut ((i : Nat) + 1)).toNat)) (makeS ns 30) 0
          have hb2 := allS_le (((ms.take i).map entS).drop ((withinS cut ((i : Nat) + 1)).toNat)) ((allS (makeS ns 30) (((ms.take i).map entS).take ((withinS cut ((i : Nat) + 1)).toNat)) 0).1) 0
          have hb3 : ((ms.take i).map entS).length = i := by simp; omega
          rw [List.length_take, hb3] at hb1
          rw [List.length_drop, hb3] at hb2
          refine gskip ?_
          refine seq_go ?_
          refine gseq ?_
          refine gdreg [] (by kernel_rfl) ?_
          refine r_s (by refine run_ld (v := poolV ((allS (makeS ns 30) (((ms.take i).map entS).take ((withinS cut ((i : Nat) + 1)).toNat)) 0).1)) rfl rfl ?_; exact pl_all ((allS (makeS ns 30) (((ms.take i).map entS).take ((withinS cut ((i : Nat) + 1)).toNat)) 0).1)) ?_
          refine r_d 2 [(81, iv (withinS cut ((i : Nat) + 1))), (80, sv 3 0 i (i + m13))] (by kernel_rfl) ?_
          refine r_s (by exact run_slcHi rfl rfl (by omega)) ?_
          refine r_cl (callSR (a1 := [poolV ((allS (makeS ns 30) (((ms.take i).map entS).take ((withinS cut ((i : Nat) + 1)).toNat)) 0).1), .slice (some ⟨0, if i + m13 = (withinS cut ((i : Nat) + 1)).toNat then 0 else (withinS cut ((i : Nat) + 1)).toNat * 7, none⟩) (i - (withinS cut ((i : Nat) + 1)).toNat) (i + m13 - (withinS cut ((i : Nat) + 1)).toNat)]) [3] [entsL ((ms.take i).map entS) ++ room zE m13] (AllG h_pool_All h_pool_Apply h_pool_may h_pool_held h_pool_fits h_pool_Check h_pool_placed h_cookie_Next ((allS (makeS ns 30) (((ms.take i).map entS).take ((withinS cut ((i : Nat) + 1)).toNat)) 0).1) ((ms.take i).map entS) (((ms.take i).map entS).drop ((withinS cut ((i : Nat) + 1)).toNat)) m13 (if i + m13 = (withinS cut ((i : Nat) + 1)).toNat then 0 else (withinS cut ((i : Nat) + 1)).toNat * 7) (i - (withinS cut ((i : Nat) + 1)).toNat) (i + m13 - (withinS cut ((i : Nat) + 1)).toNat) (by simp; omega) (by omega) (drop_ents (by simp; omega))) rfl (fun n => ren_pool_slo _ _ _ _ _ _) ⟨⟨_, rfl⟩, entsR_scl _ _, trivial⟩ (all_cons (poolV_aggf ((allS ((allS (makeS ns 30) (((ms.take i).map entS).take ((withinS cut ((i : Nat) + 1)).toNat)) 0).1) (((ms.take i).map entS).drop ((withinS cut ((i : Nat) + 1)).toNat)) 0).1)) (all_cons rfl (all_cons rfl rfl))) ?_)
          refine r_b 5 [(17, pv 6 0), (86, iv ((allS ((allS (makeS ns 30) (((ms.take i).map entS).take ((withinS cut ((i : Nat) + 1)).toNat)) 0).1) (((ms.take i).map entS).drop ((withinS cut ((i : Nat) + 1)).toNat)) 0).2.2)), (85, iv ((allS ((allS (makeS ns 30) (((ms.take i).map entS).take ((withinS cut ((i : Nat) + 1)).toNat)) 0).1) (((ms.take i).map entS).drop ((withinS cut ((i : Nat) + 1)).toNat)) 0).2.1 : Int)), (84, poolV ((allS ((allS (makeS ns 30) (((ms.take i).map entS).take ((withinS cut ((i : Nat) + 1)).toNat)) 0).1) (((ms.take i).map entS).drop ((withinS cut ((i : Nat) + 1)).toNat)) 0).1)), (78, .tuple #[poolV ((allS ((allS (makeS ns 30) (((ms.take i).map entS).take ((withinS cut ((i : Nat) + 1)).toNat)) 0).1) (((ms.take i).map entS).drop ((withinS cut ((i : Nat) + 1)).toNat)) 0).1), iv ((allS ((allS (makeS ns 30) (((ms.take i).map entS).take ((withinS cut ((i : Nat) + 1)).toNat)) 0).1) (((ms.take i).map entS).drop ((withinS cut ((i : Nat) + 1)).toNat)) 0).2.1 : Int), iv ((allS ((allS (makeS ns 30) (((ms.take i).map entS).take ((withinS cut ((i : Nat) + 1)).toNat)) 0).1) (((ms.take i).map entS).drop ((withinS cut ((i : Nat) + 1)).toNat)) 0).2.2)])] [inB o (ii ns), inB o2 (ii ms), cw (pl (makeS ns 30)), cw (entsL ((ms.take i).map entS) ++ room zE m13), cw (pl ((allS (makeS ns 30) ((ms.take i).map entS) 0).1)), cw (pl ((allS (makeS ns 30) (((ms.take i).map entS).take ((withinS cut ((i : Nat) + 1)).toNat)) 0).1)), cw (pl zeroP)] (by kernel_rfl) ?_
          refine r_s0 (by refine run_st (c' := pl ((allS ((allS (makeS ns 30) (((ms.take i).map entS).take ((withinS cut ((i : Nat) + 1)).toNat)) 0).1) (((ms.take i).map entS).drop ((withinS cut ((i : Nat) + 1)).toNat)) 0).1)) rfl rfl rfl ?_ ?_ ?_; exact pl_length _; exact pl_le (by omega); exact splice_pl0 zeroP ((allS ((allS (makeS ns 30) (((ms.take i).map entS).take ((withinS cut ((i : Nat) + 1)).toNat)) 0).1) (((ms.take i).map entS).drop ((withinS cut ((i : Nat) + 1)).toNat)) 0).1)) ?_
          refine r_b 2 [(19, iv ((allS ((allS (makeS ns 30) (((ms.take i).map entS).take ((withinS cut ((i : Nat) + 1)).toNat)) 0).1) (((ms.take i).map entS).drop ((withinS cut ((i : Nat) + 1)).toNat)) 0).2.2)), (18, iv ((allS ((allS (makeS ns 30) (((ms.take i).map entS).take ((withinS cut ((i : Nat) + 1)).toNat)) 0).1) (((ms.take i).map entS).drop ((withinS cut ((i : Nat) + 1)).toNat)) 0).2.1 : Int))] [inB o (ii ns), inB o2 (ii ms), cw (pl (makeS ns 30)), cw (entsL ((ms.take i).map entS) ++ room zE m13), cw (pl ((allS (makeS ns 30) ((ms.take i).map entS) 0).1)), cw (pl ((allS (makeS ns 30) (((ms.take i).map entS).take ((withinS cut ((i : Nat) + 1)).toNat)) 0).1)), cw (pl ((allS ((allS (makeS ns 30) (((ms.take i).map entS).take ((withinS cut ((i : Nat) + 1)).toNat)) 0).1) (((ms.take i).map entS).drop ((withinS cut ((i : Nat) + 1)).toNat)) 0).1))] (by kernel_rfl) ?_
          refine r_nil ?_
          refine seq_regs [(19, iv ((allS ((allS (makeS ns 30) (((ms.take i).map entS).take ((withinS cut ((i : Nat) + 1)).toNat)) 0).1) (((ms.take i).map entS).drop ((withinS cut ((i : Nat) + 1)).toNat)) 0).2.2)), (18, iv ((allS ((allS (makeS ns 30) (((ms.take i).map entS).take ((withinS cut ((i : Nat) + 1)).toNat)) 0).1) (((ms.take i).map entS).drop ((withinS cut ((i : Nat) + 1)).toNat)) 0).2.1 : Int)), (17, pv 6 0), (15, iv ((allS (makeS ns 30) (((ms.take i).map entS).take ((withinS cut ((i : Nat) + 1)).toNat)) 0).2.1 : Int)), (13, iv ((allS (makeS ns 30) ((ms.take i).map entS) 0).2.2)), (12, iv ((allS (makeS ns 30) ((ms.take i).map entS) 0).2.1 : Int)), (11, pv 4 0)] (by kernel_rfl) ?_
          refine gseq ?_
          refine greg ?_
          refine o_s (by refine run_ld (v := poolV ((allS (makeS ns 30) ((ms.take i).map entS) 0).1)) rfl rfl ?_; exact pl_all ((allS (makeS ns 30) ((ms.take i).map entS) 0).1)) ?_
          refine o_s (by refine run_ld (v := poolV ((allS ((allS (makeS ns 30) (((ms.take i).map entS).take ((withinS cut ((i : Nat) + 1)).toNat)) 0).1) (((ms.take i).map entS).drop ((withinS cut ((i : Nat) + 1)).toNat)) 0).1)) rfl rfl ?_; exact pl_all ((allS ((allS (makeS ns 30) (((ms.take i).map entS).take ((withinS cut ((i : Nat) + 1)).toNat)) 0).1) (((ms.take i).map entS).drop ((withinS cut ((i : Nat) + 1)).toNat)) 0).1)) ?_
          refine o_s (by refine run_eqa (a := ⟨pl ((allS (makeS ns 30) ((ms.take i).map entS) 0).1)⟩) (b := ⟨pl ((allS ((allS (makeS ns 30) (((ms.take i).map entS).take ((withinS cut ((i : Nat) + 1)).toNat)) 0).1) (((ms.take i).map entS).drop ((withinS cut ((i : Nat) + 1)).toNat)) 0).1)⟩) (r := eqP ((allS (makeS ns 30) ((ms.take i).map entS) 0).1) ((allS ((allS (makeS ns 30) (((ms.take i).map entS).take ((withinS cut ((i : Nat) + 1)).toNat)) 0).1) (((ms.take i).map entS).drop ((withinS cut ((i : Nat) + 1)).toNat)) 0).1)) (R := eqP ((allS (makeS ns 30) ((ms.take i).map entS) 0).1) ((allS ((allS (makeS ns 30) (((ms.take i).map entS).take ((withinS cut ((i : Nat) + 1)).toNat)) 0).1) (((ms.take i).map entS).drop ((withinS cut ((i : Nat) + 1)).toNat)) 0).1)) ?_ rfl; exact eqP_run ((allS (makeS ns 30) ((ms.take i).map entS) 0).1) ((allS ((allS (makeS ns 30) (((ms.take i).map entS).take ((withinS cut ((i : Nat) + 1)).toNat)) 0).1) (((ms.take i).map entS).drop ((withinS cut ((i : Nat) + 1)).toNat)) 0).1) rfl rfl) ?_
          refine o_d 1 [(90, bv (eqP ((allS (makeS ns 30) ((ms.take i).map entS) 0).1) ((allS ((allS (makeS ns 30) (((ms.take i).map entS).take ((withinS cut ((i : Nat) + 1)).toNat)) 0).1) (((ms.take i).map entS).drop ((withinS cut ((i : Nat) + 1)).toNat)) 0).1)))] (by kernel_rfl) ?_
          refine o_sp (b := eqP ((allS (makeS ns 30) ((ms.take i).map entS) 0).1) ((allS ((allS (makeS ns 30) (((ms.take i).map entS).take ((withinS cut ((i : Nat) + 1)).toNat)) 0).1) (((ms.take i).map entS).drop ((withinS cut ((i : Nat) + 1)).toNat)) 0).1)) 90 rfl (fun k17 => ?_) (fun q => by rw [(by rw [happ]; first | exact eqP_self _ | simp : (eqP ((allS (makeS ns 30) ((ms.take i).map entS) 0).1) ((allS ((allS (makeS ns 30) (((ms.take i).map entS).take ((withinS cut ((i : Nat) + 1)).toNat)) 0).1) (((ms.take i).map entS).drop ((withinS cut ((i : Nat) + 1)).toNat)) 0).1)) = true)] at q; cases q)
          refine o_d 3 [(93, iv ((allS ((allS (makeS ns 30) (((ms.take i).map entS).take ((withinS cut ((i : Nat) + 1)).toNat)) 0).1) (((ms.take i).map entS).drop ((withinS cut ((i : Nat) + 1)).toNat)) 0).2.1 : Int)), (92, iv ((allS (makeS ns 30) (((ms.take i).map entS).take ((withinS cut ((i : Nat) + 1)).toNat)) 0).2.1 : Int)), (91, iv ((allS (makeS ns 30) ((ms.take i).map entS) 0).2.1 : Int))] (by kernel_rfl) ?_
          refine o_unguard rfl ?_
          refine o_s (by refine run_val (v := .int .i64 (IntKind.i64.wrap (((allS (makeS ns 30) (((ms.take i).map entS).take ((withinS cut ((i : Nat) + 1)).toNat)) 0).2.1 : Int) + ((allS ((allS (makeS ns 30) (((ms.take i).map entS).take ((withinS cut ((i : Nat) + 1)).toNat)) 0).1) (((ms.take i).map entS).drop ((withinS cut ((i : Nat) + 1)).toNat)) 0).2.1 : Int)))) (congrArg (Value.int .i64) (w64 (by omega) (by omega))) ?_; kernel_rfl) ?_
          refine o_d 3 [(97, bv (((allS (makeS ns 30) ((ms.take i).map entS) 0).2.1 : Int) == (((allS (makeS ns 30) (((ms.take i).map entS).take ((withinS cut ((i : Nat) + 1)).toNat)) 0).2.1 : Int) + ((allS ((allS (makeS ns 30) (((ms.take i).map entS).take ((withinS cut ((i : Nat) + 1)).toNat)) 0).1) (((ms.take i).map entS).drop ((withinS cut ((i : Nat) + 1)).toNat)) 0).2.1 : Int)))), (96, bv (((allS (makeS ns 30) ((ms.take i).map entS) 0).2.1 : Int) == (((allS (makeS ns 30) (((ms.take i).map entS).take ((withinS cut ((i : Nat) + 1)).toNat)) 0).2.1 : Int) + ((allS ((allS (makeS ns 30) (((ms.take i).map entS).take ((withinS cut ((i : Nat) + 1)).toNat)) 0).1) (((ms.take i).map entS).drop ((withinS cut ((i : Nat) + 1)).toNat)) 0).2.1 : Int)))), (95, bv (((allS (makeS ns 30) ((ms.take i).map entS) 0).2.1 : Int) == (((allS (makeS ns 30) (((ms.take i).map entS).take ((withinS cut ((i : Nat) + 1)).toNat)) 0).2.1 : Int) + ((allS ((allS (makeS ns 30) (((ms.take i).map entS).take ((withinS cut ((i : Nat) + 1)).toNat)) 0).1) (((ms.take i).map entS).drop ((withinS cut ((i : Nat) + 1)).toNat)) 0).2.1 : Int))))] (by kernel_rfl) ?_
          refine o_sp (b := ((allS (makeS ns 30) ((ms.take i).map entS) 0).2.1 : Int) == (((allS (makeS ns 30) (((ms.take i).map entS).take ((withinS cut ((i : Nat) + 1)).toNat)) 0).2.1 : Int) + ((allS ((allS (makeS ns 30) (((ms.take i).map entS).take ((withinS cut ((i : Nat) + 1)).toNat)) 0).1) (((ms.take i).map entS).drop ((withinS cut ((i : Nat) + 1)).toNat)) 0).2.1 : Int))) 97 rfl (fun k18 => ?_) (fun q => by rw [(by rw [happ]; first | exact eqP_self _ | simp : (((allS (makeS ns 30) ((ms.take i).map entS) 0).2.1 : Int) == (((allS (makeS ns 30) (((ms.take i).map entS).take ((withinS cut ((i : Nat) + 1)).toNat)) 0).2.1 : Int) + ((allS ((allS (makeS ns 30) (((ms.take i).map entS).take ((withinS cut ((i : Nat) + 1)).toNat)) 0).1) (((ms.take i).map entS).drop ((withinS cut ((i : Nat) + 1)).toNat)) 0).2.1 : Int))) = true)] at q; cases q)
          refine o_d 5 [(6, bv (((allS (makeS ns 30) ((ms.take i).map entS) 0).2.2) == ((allS ((allS (makeS ns 30) (((ms.take i).map entS).take ((withinS cut ((i : Nat) + 1)).toNat)) 0).1) (((ms.take i).map entS).drop ((withinS cut ((i : Nat) + 1)).toNat)) 0).2.2))), (101, bv (((allS (makeS ns 30) ((ms.take i).map entS) 0).2.2) == ((allS ((allS (makeS ns 30) (((ms.take i).map entS).take ((withinS cut ((i : Nat) + 1)).toNat)) 0).1) (((ms.take i).map entS).drop ((withinS cut ((i : Nat) + 1)).toNat)) 0).2.2))), (100, bv (((allS (makeS ns 30) ((ms.take i).map entS) 0).2.2) == ((allS ((allS (makeS ns 30) (((ms.take i).map entS).take ((withinS cut ((i : Nat) + 1)).toNat)) 0).1) (((ms.take i).map entS).drop ((withinS cut ((i : Nat) + 1)).toNat)) 0).2.2))), (99, iv ((allS ((allS (makeS ns 30) (((ms.take i).map entS).take ((withinS cut ((i : Nat) + 1)).toNat)) 0).1) (((ms.take i).map entS).drop ((withinS cut ((i : Nat) + 1)).toNat)) 0).2.2)), (98, iv ((allS (makeS ns 30) ((ms.take i).map entS) 0).2.2))] (by kernel_rfl) ?_
          refine o_nil ?_
          refine seq_regs [(6, bv (((allS (makeS ns 30) ((ms.take i).map entS) 0).2.2) == ((allS ((allS (makeS ns 30) (((ms.take i).map entS).take ((withinS cut ((i : Nat) + 1)).toNat)) 0).1) (((ms.take i).map entS).drop ((withinS cut ((i : Nat) + 1)).toNat)) 0).2.2)))] (by kernel_rfl) ?_
          refine gret ?_
          have e0 : (((allS (makeS ns 30) ((ms.take i).map entS) 0).2.2) == ((allS ((allS (makeS ns 30) (((ms.take i).map entS).take ((withinS cut ((i : Nat) + 1)).toNat)) 0).1) (((ms.take i).map entS).drop ((withinS cut ((i : Nat) + 1)).toNat)) 0).2.2)) = true := by
            first | (rw [hstop]; first | exact eqP_self _ | simp) | (rw [happ]; first | exact eqP_self _ | simp)
          exact fin_ans [bv (((allS (makeS ns 30) ((ms.take i).map entS) 0).2.2) == ((allS ((allS (makeS ns 30) (((ms.take i).map entS).take ((withinS cut ((i : Nat) + 1)).toNat)) 0).1) (((ms.take i).map entS).drop ((withinS cut ((i : Nat) + 1)).toNat)) 0).2.2))] (resV_t rfl rfl) rfl (by rw [e0]; rfl) rfl (show List.all [inB o (ii ns), inB o2 (ii ms)] blkf = true from (all_cons (inB_gone _ (ii_scl ns)) (all_cons (inB_gone _ (ii_scl ms)) rfl)))
end Go.Rh
