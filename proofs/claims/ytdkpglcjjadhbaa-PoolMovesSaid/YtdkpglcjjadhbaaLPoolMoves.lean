import Derived.Test.YtdkpglcjjadhbaaMe
import Derived.Test.YtdkpglcjjadhbaaPm
import Derived.Test.YtdkpglcjjadhbaaPn
set_option linter.unusedSimpArgs false
set_option linter.unusedVariables false
set_option maxRecDepth 100000
set_option maxHeartbeats 8000000
namespace Go.Rh
theorem PoolMovesC {P : Program} (hc : codeOf P "roundhouse/roundhouselaw6.PoolMoves" = some c_law6_PoolMoves) (h_law6_known : codeOf P "roundhouse/roundhouselaw6.known" = some c_law6_known) (h_pool_New : codeOf P "roundhouse/pool.New" = some c_pool_New) (h_pool_placed : codeOf P "roundhouse/pool.placed" = some c_pool_placed) (h_cookie_Ring : codeOf P "roundhouse/cookie.Ring" = some c_cookie_Ring) (h_pool_Find : codeOf P "roundhouse/pool.Find" = some c_pool_Find) (h_pool_may : codeOf P "roundhouse/pool.may" = some c_pool_may) (h_pool_All : codeOf P "roundhouse/pool.All" = some c_pool_All) (h_pool_Apply : codeOf P "roundhouse/pool.Apply" = some c_pool_Apply) (h_pool_held : codeOf P "roundhouse/pool.held" = some c_pool_held) (h_pool_fits : codeOf P "roundhouse/pool.fits" = some c_pool_fits) (h_pool_Check : codeOf P "roundhouse/pool.Check" = some c_pool_Check) (h_cookie_Next : codeOf P "roundhouse/cookie.Next" = some c_cookie_Next) (h_pool_Takes : codeOf P "roundhouse/pool.Takes" = some c_pool_Takes) (h_law5_Key : codeOf P "roundhouse/roundhouselaw5.Key" = some c_law5_Key) (h_ref6_New : codeOf P "roundhouse/roundhouseref6.New" = some c_ref6_New) (h_ref6_out : codeOf P "roundhouse/roundhouseref6.out" = some c_ref6_out) (h_ref5_Ring : codeOf P "roundhouse/roundhouseref5.Ring" = some c_ref5_Ring) (h_law6_within : codeOf P "roundhouse/roundhouselaw6.within" = some c_law6_within) (h_ref6_All : codeOf P "roundhouse/roundhouseref6.All" = some c_ref6_All) (h_ref6_Apply : codeOf P "roundhouse/roundhouseref6.Apply" = some c_ref6_Apply) (h_ref6_Check : codeOf P "roundhouse/roundhouseref6.Check" = some c_ref6_Check) (h_ref6_bad : codeOf P "roundhouse/roundhouseref6.bad" = some c_ref6_bad) (h_ref6_Held : codeOf P "roundhouse/roundhouseref6.Held" = some c_ref6_Held) (h_ref5_Next : codeOf P "roundhouse/roundhouseref5.Next" = some c_ref5_Next) (state kind slot since : Int) :
    Env P "roundhouse/roundhouselaw6.PoolMoves" [iv state, iv kind, iv slot, iv since] ([]) (Ans (.bool true) ([])) := by
 refine Env.by hc ?_
 unfold c_law6_PoolMoves
 show GC _ 0 _ _ ⟨reg [(0, iv state), (1, iv kind), (2, iv slot), (3, iv since)], []⟩
 obtain ⟨tn, htn⟩ : ∃ n : Nat, withinS since 3 = (n : Int) := ⟨(withinS since 3).toNat, by have := within_lt since (n := 3) (by decide); omega⟩
 have ht3 : tn < 3 := by have := within_lt since (n := 3) (by decide); omega
 obtain ⟨ss, hss⟩ : ∃ v : Int, withinS slot 64 = v := ⟨_, rfl⟩
 have hs : 0 ≤ ss ∧ ss < 64 := by have := within_lt slot (n := 64) (by decide); omega
 obtain ⟨kk, hkk⟩ : ∃ v : Int, withinS kind 6 = v := ⟨_, rfl⟩
 have hkr : 0 ≤ kk ∧ kk < 6 := by have := within_lt kind (n := 6) (by decide); omega
 obtain ⟨su, hsu⟩ : ∃ v : Int, withinS state 5 = v := ⟨_, rfl⟩
 have hsr : 0 ≤ su ∧ su < 5 := by have := within_lt state (n := 5) (by decide); omega
 have hsu0 : su = 0 ∨ su = 1 ∨ su = 2 ∨ su = 3 ∨ su = 4 := by omega
 refine gseq ?_
 refine greg ?_
 refine o_d 1 [(8, bv false)] (by kernel_rfl) ?_
 refine o_nil ?_
 refine seq_go ?_
 refine gseq ?_
 refine gseq ?_
 refine greg ?_
 refine o_cl (callV (knownC h_law6_known h_pool_New h_pool_placed h_cookie_Ring h_pool_Find h_pool_may h_pool_All h_pool_Apply h_pool_held h_pool_fits h_pool_Check h_cookie_Next h_pool_Takes) rfl rfl rfl ?_)
 refine o_d 1 [(26, bv false)] (by kernel_rfl) ?_
 refine o_nil ?_
 refine seq_go ?_
 refine gfalse rfl ?_
 refine gskip ?_
 refine seq_go ?_
 refine gseq ?_
 refine greg ?_
 refine o_cl (callV (KeyC h_law5_Key 1) rfl rfl rfl ?_)
 refine o_cl (callV (KeyC h_law5_Key 2) rfl rfl rfl ?_)
 refine o_cl (callV (refNewC h_ref6_New h_ref6_out h_ref5_Ring 10 80 (keyA 1) (keyB 1) (keyA 2) (keyB 2)) rfl rfl (all_cons (poolV_aggf ((newP 10 80 (keyA 1) (keyB 1) (keyA 2) (keyB 2)).1)) (all_cons rfl rfl)) ?_)
 refine o_b 4 [(9, pv 0 0), (32, iv ((newP 10 80 (keyA 1) (keyB 1) (keyA 2) (keyB 2)).2)), (31, poolV ((newP 10 80 (keyA 1) (keyB 1) (keyA 2) (keyB 2)).1)), (27, .tuple #[poolV ((newP 10 80 (keyA 1) (keyB 1) (keyA 2) (keyB 2)).1), iv ((newP 10 80 (keyA 1) (keyB 1) (keyA 2) (keyB 2)).2)])] [cw (pl zeroP)] (by kernel_rfl) ?_
 refine o_s0 (by refine run_st (c' := pl ((newP 10 80 (keyA 1) (keyB 1) (keyA 2) (keyB 2)).1)) rfl rfl rfl ?_ ?_ ?_; exact pl_length _; exact pl_le (by omega); exact splice_pl0 zeroP ((newP 10 80 (keyA 1) (keyB 1) (keyA 2) (keyB 2)).1)) ?_
 refine o_b 1 [(10, iv ((newP 10 80 (keyA 1) (keyB 1) (keyA 2) (keyB 2)).2))] [cw (pl ((newP 10 80 (keyA 1) (keyB 1) (keyA 2) (keyB 2)).1))] (by kernel_rfl) ?_
 refine o_nil ?_
 refine seq_go ?_
 refine gseq ?_
 refine greg ?_
 refine o_d 1 [(33, iv slot)] (by kernel_rfl) ?_
 refine o_cl (callV (withinC_eq h_law6_within slot 64 (by decide) hss) rfl rfl rfl ?_)
 refine o_d 1 [(35, iv kind)] (by kernel_rfl) ?_
 refine o_cl (callV (withinC_eq h_law6_within kind 6 (by decide) hkk) rfl rfl rfl ?_)
 refine o_s (by refine run_val (v := .int .i64 (IntKind.i64.wrap (1 + kk))) (congrArg (Value.int .i64) (w64 (by omega) (by omega))) ?_; kernel_rfl) ?_
 refine o_d 1 [(38, iv since)] (by kernel_rfl) ?_
 refine o_cl (callV (withinC_eq h_law6_within since 3 (by decide) htn) rfl rfl rfl ?_)
 refine o_d 3 [(13, iv (tn : Int)), (12, iv (1 + kk)), (11, iv ss)] (by kernel_rfl) ?_
 refine o_nil ?_
 refine seq_go ?_
 refine gseq ?_
 refine greg ?_
 refine o_b 16 [(17, pv 4 0), (16, pv 3 0), (15, pv 2 0), (14, pv 1 0), (47, .agg #[iv 4, iv ss, iv 0, iv 0, iv 0, uv 0, uv 0]), (46, iv ss), (45, .agg #[iv 3, iv ss, iv 0, iv 0, iv 0, uv 0, uv 0]), (44, iv ss), (43, .agg #[iv 2, iv ss, iv 0, iv 0, iv 0, uv 0, uv 0]), (42, iv ss), (41, .agg #[iv 1, iv ss, iv 3, iv 4, iv 5, uv 0, uv 0]), (40, iv ss)] [cw (pl ((newP 10 80 (keyA 1) (keyB 1) (keyA 2) (keyB 2)).1)), cw [iv 1, iv ss, iv 3, iv 4, iv 5, uv 0, uv 0], cw [iv 2, iv ss, iv 0, iv 0, iv 0, uv 0, uv 0], cw [iv 3, iv ss, iv 0, iv 0, iv 0, uv 0, uv 0], cw [iv 4, iv ss, iv 0, iv 0, iv 0, uv 0, uv 0]] (by kernel_rfl) ?_
 refine o_nil ?_
 refine seq_regs [(17, pv 4 0), (16, pv 3 0), (15, pv 2 0), (14, pv 1 0), (13, iv (tn : Int)), (12, iv (1 + kk)), (11, iv ss), (9, pv 0 0), (0, iv state)] (by kernel_rfl) ?_
 refine gseq ?_
 refine greg ?_
 refine o_d 1 [(18, .slice none 0 0)] (by kernel_rfl) ?_
 refine o_nil ?_
 refine seq_go ?_
 refine gseq ?_
 refine gseq ?_
 refine greg ?_
 refine o_d 1 [(19, iv 0)] (by kernel_rfl) ?_
 refine o_nil ?_
 refine seq_go ?_
 refine gblock ?_
 refine gloop (fun μ s => ∃ (i : Nat), ∃ (e1 : List Ent), ∃ (q : Option Nat), μ = tn - i ∧ (i ≤ tn) ∧ (e1 = rots2 0 i ∧ e1.length = i) ∧ (q = none → i = 0) ∧ s = ⟨reg [(19, iv (i : Int)), (18, slV 5 i q), (17, pv 4 0), (16, pv 3 0), (15, pv 2 0), (14, pv 1 0), (13, iv (tn : Int)), (12, iv (1 + kk)), (11, iv ss), (9, pv 0 0), (0, iv state)], [cw (pl ((newP 10 80 (keyA 1) (keyB 1) (keyA 2) (keyB 2)).1)), cw [iv 1, iv ss, iv 3, iv 4, iv 5, uv 0, uv 0], cw [iv 2, iv ss, iv 0, iv 0, iv 0, uv 0, uv 0], cw [iv 3, iv ss, iv 0, iv 0, iv 0, uv 0, uv 0], cw [iv 4, iv ss, iv 0, iv 0, iv 0, uv 0, uv 0], slB zE (entsL e1) q]⟩) ⟨(tn - 0), ?_⟩ ?_
 ·skip
  refine ⟨⟨reg [(19, iv (0 : Int)), (18, slV 5 0 none), (17, pv 4 0), (16, pv 3 0), (15, pv 2 0), (14, pv 1 0), (13, iv (tn : Int)), (12, iv (1 + kk)), (11, iv ss), (9, pv 0 0), (0, iv state)], [cw (pl ((newP 10 80 (keyA 1) (keyB 1) (keyA 2) (keyB 2)).1)), cw [iv 1, iv ss, iv 3, iv 4, iv 5, uv 0, uv 0], cw [iv 2, iv ss, iv 0, iv 0, iv 0, uv 0, uv 0], cw [iv 3, iv ss, iv 0, iv 0, iv 0, uv 0, uv 0], cw [iv 4, iv ss, iv 0, iv 0, iv 0, uv 0, uv 0], slB zE (entsL ([])) none]⟩, ?_⟩
  refine ⟨?_, ?_⟩
  ·exact Wk.ren [0, 1, 2, 3, 4, 10] rfl rfl (by decide) ⟨rfl, ⟨rfl, ⟨rfl, ⟨rfl, ⟨rfl, ⟨rfl, ⟨rfl, ⟨rfl, ⟨rfl, ⟨rfl, ⟨rfl, trivial⟩⟩⟩⟩⟩⟩⟩⟩⟩⟩⟩ ⟨.inl (ren_cells (pl_scl ((newP 10 80 (keyA 1) (keyB 1) (keyA 2) (keyB 2)).1))), ⟨.inl rfl, ⟨.inl rfl, ⟨.inl rfl, ⟨.inl rfl, ⟨.inr ⟨rfl, rfl⟩, trivial⟩⟩⟩⟩⟩⟩
  ·exact ⟨0, ([]), none, rfl, (Nat.zero_le _), ⟨(rots2_self 0).symm, rfl⟩, (fun _ => rfl), rfl⟩
 rintro μ s ⟨i, e1, q, rfl, hi, he1, hq, rfl⟩
 refine gseq ?_
 refine gseq ?_
 refine greg ?_
 refine o_d 3 [(50, bv (decide ((i : Int) < (tn : Int)))), (49, iv (tn : Int)), (48, iv (i : Int))] (by kernel_rfl) ?_
 refine o_nil ?_
 refine seq_go ?_
 refine gcond (t := decide ((i : Int) < (tn : Int))) rfl (fun h1 => ?_) (fun h1 => ?_)
 ·skip
  have h1' : (i : Int) < (tn : Int) := of_decide_eq_true h1
  refine gskip ?_
  refine seq_go ?_
  refine gseq ?_
  refine gblock ?_
  refine greg ?_
  refine o_d 2 [(54, iv (i : Int)), (53, slV 5 i q)] (by kernel_rfl) ?_
  refine o_cl (callV (KeyC h_law5_Key (i : Int)) rfl rfl rfl ?_)
  refine o_b 2 [(57, sv 6 0 1 1), (56, .agg #[iv 6, iv 0, iv 0, iv 0, iv 0, uv (keyA (i : Int)), uv (keyB (i : Int))])] [cw (pl ((newP 10 80 (keyA 1) (keyB 1) (keyA 2) (keyB 2)).1)), cw [iv 1, iv ss, iv 3, iv 4, iv 5, uv 0, uv 0], cw [iv 2, iv ss, iv 0, iv 0, iv 0, uv 0, uv 0], cw [iv 3, iv ss, iv 0, iv 0, iv 0, uv 0, uv 0], cw [iv 4, iv ss, iv 0, iv 0, iv 0, uv 0, uv 0], slB zE (entsL e1) q, cw [iv 6, iv 0, iv 0, iv 0, iv 0, uv (keyA (i : Int)), uv (keyB (i : Int))]] (by kernel_rfl) ?_
  refine o_appC (k := 5) (n := i) (o := q) (q := 1) (cs := entsL e1) (xs := [iv 6, iv 0, iv 0, iv 0, iv 0, uv (keyA (i : Int)), uv (keyB (i : Int))]) (cs2 := entsL (e1 ++ [(⟨6, 0, 0, 0, 0, keyA (i : Int), keyB (i : Int)⟩ : Ent)])) (zl := zE) rfl rfl rfl (fun m q => by subst q; rfl) (fun z => by have := hq z; subst this; have h1 := he1.1; rw [rots2_self] at h1; subst h1; exact ⟨rfl, rfl⟩) (by rw [entsL_len]; first | omega | (simp; try omega)) rfl rfl (app_first rfl rfl (by simp)) (by rfl) (by omega) (by omega) (entsL_apps e1 [(⟨6, 0, 0, 0, 0, keyA (i : Int), keyB (i : Int)⟩ : Ent)] rfl) (fun m2 e3 => ?_) (fun m2 => ?_)
  ·skip
   subst e3
   refine o_d 1 [(18, sv 5 0 (i + 1) (i + 1 + m2))] (by kernel_rfl) ?_
   refine o_nil ?_
   refine seq_go ?_
   refine greg ?_
   refine o_d 1 [(51, iv (i : Int))] (by kernel_rfl) ?_
   refine o_s (by refine run_val (v := .int .i64 (IntKind.i64.wrap ((i : Int) + 1))) (congrArg (Value.int .i64) (w64 (by omega) (by omega))) ?_; kernel_rfl) ?_
   refine o_d 1 [(19, iv ((i : Int) + 1))] (by kernel_rfl) ?_
   refine o_nil ?_
   refine ⟨tn - (i + 1), ?_⟩
   refine ⟨⟨reg [(19, iv ((i + 1) : Int)), (18, slV 5 (i + 1) (some m2)), (17, pv 4 0), (16, pv 3 0), (15, pv 2 0), (14, pv 1 0), (13, iv (tn : Int)), (12, iv (1 + kk)), (11, iv ss), (9, pv 0 0), (0, iv state)], [cw (pl ((newP 10 80 (keyA 1) (keyB 1) (keyA 2) (keyB 2)).1)), cw [iv 1, iv ss, iv 3, iv 4, iv 5, uv 0, uv 0], cw [iv 2, iv ss, iv 0, iv 0, iv 0, uv 0, uv 0], cw [iv 3, iv ss, iv 0, iv 0, iv 0, uv 0, uv 0], cw [iv 4, iv ss, iv 0, iv 0, iv 0, uv 0, uv 0], slB zE (entsL (e1 ++ [(⟨6, 0, 0, 0, 0, keyA (i : Int), keyB (i : Int)⟩ : Ent)])) (some m2)]⟩, ?_⟩
   refine and3 (by omega) ⟨?_, ?_⟩
   ·exact Wk.ren [0, 1, 2, 3, 4, 5] rfl rfl (by decide) ⟨rfl, ⟨rfl, ⟨rfl, ⟨rfl, ⟨rfl, ⟨rfl, ⟨rfl, ⟨rfl, ⟨rfl, ⟨rfl, ⟨rfl, trivial⟩⟩⟩⟩⟩⟩⟩⟩⟩⟩⟩ ⟨.inl (ren_cells (pl_scl ((newP 10 80 (keyA 1) (keyB 1) (keyA 2) (keyB 2)).1))), ⟨.inl rfl, ⟨.inl rfl, ⟨.inl rfl, ⟨.inl rfl, ⟨.inl (ren_cells (entsR_scl _ _)), trivial⟩⟩⟩⟩⟩⟩
   ·exact ⟨(i + 1), (e1 ++ [(⟨6, 0, 0, 0, 0, keyA (i : Int), keyB (i : Int)⟩ : Ent)]), (some m2), rfl, by omega, ⟨by rw [rots2_snoc (Nat.zero_le _), ← he1.1], by simp [he1.2]⟩, (fun q => by cases q), rfl⟩
  refine o_d 1 [(18, sv 7 0 (i + 1) (i + 1 + m2))] (by kernel_rfl) ?_
  refine o_nil ?_
  refine seq_go ?_
  refine greg ?_
  refine o_d 1 [(51, iv (i : Int))] (by kernel_rfl) ?_
  refine o_s (by refine run_val (v := .int .i64 (IntKind.i64.wrap ((i : Int) + 1))) (congrArg (Value.int .i64) (w64 (by omega) (by omega))) ?_; kernel_rfl) ?_
  refine o_d 1 [(19, iv ((i : Int) + 1))] (by kernel_rfl) ?_
  refine o_nil ?_
  refine ⟨tn - (i + 1), ?_⟩
  refine ⟨⟨reg [(19, iv ((i + 1) : Int)), (18, slV 5 (i + 1) (some m2)), (17, pv 4 0), (16, pv 3 0), (15, pv 2 0), (14, pv 1 0), (13, iv (tn : Int)), (12, iv (1 + kk)), (11, iv ss), (9, pv 0 0), (0, iv state)], [cw (pl ((newP 10 80 (keyA 1) (keyB 1) (keyA 2) (keyB 2)).1)), cw [iv 1, iv ss, iv 3, iv 4, iv 5, uv 0, uv 0], cw [iv 2, iv ss, iv 0, iv 0, iv 0, uv 0, uv 0], cw [iv 3, iv ss, iv 0, iv 0, iv 0, uv 0, uv 0], cw [iv 4, iv ss, iv 0, iv 0, iv 0, uv 0, uv 0], slB zE (entsL (e1 ++ [(⟨6, 0, 0, 0, 0, keyA (i : Int), keyB (i : Int)⟩ : Ent)])) (some m2)]⟩, ?_⟩
  refine and3 (by omega) ⟨?_, ?_⟩
  ·exact Wk.ren [0, 1, 2, 3, 4, 7] rfl rfl (by decide) ⟨rfl, ⟨rfl, ⟨rfl, ⟨rfl, ⟨rfl, ⟨rfl, ⟨rfl, ⟨rfl, ⟨rfl, ⟨rfl, ⟨rfl, trivial⟩⟩⟩⟩⟩⟩⟩⟩⟩⟩⟩ ⟨.inl (ren_cells (pl_scl ((newP 10 80 (keyA 1) (keyB 1) (keyA 2) (keyB 2)).1))), ⟨.inl rfl, ⟨.inl rfl, ⟨.inl rfl, ⟨.inl rfl, ⟨.inl (ren_cells (entsR_scl _ _)), trivial⟩⟩⟩⟩⟩⟩
  ·exact ⟨(i + 1), (e1 ++ [(⟨6, 0, 0, 0, 0, keyA (i : Int), keyB (i : Int)⟩ : Ent)]), (some m2), rfl, by omega, ⟨by rw [rots2_snoc (Nat.zero_le _), ← he1.1], by simp [he1.2]⟩, (fun q => by cases q), rfl⟩
 have h1' : ¬ ((i : Int) < (tn : Int)) := of_decide_eq_false h1
 refine gexit ?_
 refine seq_go ?_
 refine gcut (fun s => ∃ (n : Nat), ∃ (es : List Ent), ∃ (q2 : Option Nat), 0 = 0 ∧ (es = rots2 0 tn ++ stE su ss) ∧ (es.length = n ∧ n ≤ 5) ∧ (q2 = none → n = 0) ∧ s = ⟨reg [(9, pv 0 0), (11, iv ss), (12, iv (1 + kk)), (13, iv (tn : Int)), (18, slV 1 n q2)], [cw (pl ((newP 10 80 (keyA 1) (keyB 1) (keyA 2) (keyB 2)).1)), slB zE (entsL es) q2]⟩) ?_ ?_
 ·skip
  refine gdregD [cw (pl ((newP 10 80 (keyA 1) (keyB 1) (keyA 2) (keyB 2)).1)), cw [iv 1, iv ss, iv 3, iv 4, iv 5, uv 0, uv 0], cw [iv 2, iv ss, iv 0, iv 0, iv 0, uv 0, uv 0], cw [iv 3, iv ss, iv 0, iv 0, iv 0, uv 0, uv 0], cw [iv 4, iv ss, iv 0, iv 0, iv 0, uv 0, uv 0], slB zE (entsL e1) q, .gone, .gone, .gone, .gone, .gone] (by kernel_rfl) ?_
  refine d_n 15 15 11 [(73, iv state), (72, sv 10 0 5 5), (71, sv 9 0 2 2), (70, .agg #[iv 4, iv ss, iv 0, iv 0, iv 0, uv 0, uv 0]), (69, .agg #[iv 1, iv ss, iv 3, iv 4, iv 5, uv 0, uv 0]), (68, sv 8 0 3 3), (67, .agg #[iv 3, iv ss, iv 0, iv 0, iv 0, uv 0, uv 0]), (66, .agg #[iv 2, iv ss, iv 0, iv 0, iv 0, uv 0, uv 0]), (65, .agg #[iv 1, iv ss, iv 3, iv 4, iv 5, uv 0, uv 0]), (64, sv 7 0 2 2), (63, .agg #[iv 2, iv ss, iv 0, iv 0, iv 0, uv 0, uv 0]), (62, .agg #[iv 1, iv ss, iv 3, iv 4, iv 5, uv 0, uv 0]), (61, sv 6 0 1 1), (60, .agg #[iv 1, iv ss, iv 3, iv 4, iv 5, uv 0, uv 0]), (59, slV 5 i q)] [cw (pl ((newP 10 80 (keyA 1) (keyB 1) (keyA 2) (keyB 2)).1)), cw [iv 1, iv ss, iv 3, iv 4, iv 5, uv 0, uv 0], cw [iv 2, iv ss, iv 0, iv 0, iv 0, uv 0, uv 0], cw [iv 3, iv ss, iv 0, iv 0, iv 0, uv 0, uv 0], cw [iv 4, iv ss, iv 0, iv 0, iv 0, uv 0, uv 0], slB zE (entsL e1) q, cw [iv 1, iv ss, iv 3, iv 4, iv 5, uv 0, uv 0], cw [iv 1, iv ss, iv 3, iv 4, iv 5, uv 0, uv 0, iv 2, iv ss, iv 0, iv 0, iv 0, uv 0, uv 0], cw [iv 1, iv ss, iv 3, iv 4, iv 5, uv 0, uv 0, iv 2, iv ss, iv 0, iv 0, iv 0, uv 0, uv 0, iv 3, iv ss, iv 0, iv 0, iv 0, uv 0, uv 0], cw [iv 1, iv ss, iv 3, iv 4, iv 5, uv 0, uv 0, iv 4, iv ss, iv 0, iv 0, iv 0, uv 0, uv 0], cw [.slice none 0 0, sv 6 0 1 1, sv 7 0 2 2, sv 8 0 3 3, sv 9 0 2 2]] [⟨13, [], [10], none⟩, ⟨12, [], [9], none⟩, ⟨11, [4], [], none⟩, ⟨10, [1], [], none⟩, ⟨9, [], [8], none⟩, ⟨8, [3], [], none⟩, ⟨7, [2], [], none⟩, ⟨6, [1], [], none⟩, ⟨5, [], [7], none⟩, ⟨4, [2], [], none⟩, ⟨3, [1], [], none⟩, ⟨2, [], [6], none⟩, ⟨1, [1], [], none⟩] (by kernel_rfl) rfl rfl ?_
  rcases hsu0 with rfl | rfl | rfl | rfl | rfl
  ·skip
   refine d_cl (callVR (withinC_eq h_law6_within state 5 (by decide) hsu) rfl rfl rfl ?_)
   refine d_n 2 18 11 [(76, .slice none 0 0), (75, pv 10 0)] [cw (pl ((newP 10 80 (keyA 1) (keyB 1) (keyA 2) (keyB 2)).1)), cw [iv 1, iv ss, iv 3, iv 4, iv 5, uv 0, uv 0], cw [iv 2, iv ss, iv 0, iv 0, iv 0, uv 0, uv 0], cw [iv 3, iv ss, iv 0, iv 0, iv 0, uv 0, uv 0], cw [iv 4, iv ss, iv 0, iv 0, iv 0, uv 0, uv 0], slB zE (entsL e1) q, cw [iv 1, iv ss, iv 3, iv 4, iv 5, uv 0, uv 0], cw [iv 1, iv ss, iv 3, iv 4, iv 5, uv 0, uv 0, iv 2, iv ss, iv 0, iv 0, iv 0, uv 0, uv 0], cw [iv 1, iv ss, iv 3, iv 4, iv 5, uv 0, uv 0, iv 2, iv ss, iv 0, iv 0, iv 0, uv 0, uv 0, iv 3, iv ss, iv 0, iv 0, iv 0, uv 0, uv 0], cw [iv 1, iv ss, iv 3, iv 4, iv 5, uv 0, uv 0, iv 4, iv ss, iv 0, iv 0, iv 0, uv 0, uv 0], cw [.slice none 0 0, sv 6 0 1 1, sv 7 0 2 2, sv 8 0 3 3, sv 9 0 2 2]] [⟨17, [10], [], none⟩, ⟨15, [], [], some 11⟩, ⟨13, [], [10], none⟩, ⟨12, [], [9], none⟩, ⟨11, [4], [], none⟩, ⟨10, [1], [], none⟩, ⟨9, [], [8], none⟩, ⟨8, [3], [], none⟩, ⟨7, [2], [], none⟩, ⟨6, [1], [], none⟩, ⟨5, [], [7], none⟩, ⟨4, [2], [], none⟩, ⟨3, [1], [], none⟩, ⟨2, [], [6], none⟩, ⟨1, [1], [], none⟩] (by kernel_rfl) rfl rfl ?_
   rcases q with _ | m4
   ·skip
    have hi0 : i = 0 := hq rfl
    refine d_app00 rfl rfl rfl rfl ?_
    refine d_n 1 20 11 [(18, .slice none 0 0)] [cw (pl ((newP 10 80 (keyA 1) (keyB 1) (keyA 2) (keyB 2)).1)), cw [iv 1, iv ss, iv 3, iv 4, iv 5, uv 0, uv 0], cw [iv 2, iv ss, iv 0, iv 0, iv 0, uv 0, uv 0], cw [iv 3, iv ss, iv 0, iv 0, iv 0, uv 0, uv 0], cw [iv 4, iv ss, iv 0, iv 0, iv 0, uv 0, uv 0], .gone, cw [iv 1, iv ss, iv 3, iv 4, iv 5, uv 0, uv 0], cw [iv 1, iv ss, iv 3, iv 4, iv 5, uv 0, uv 0, iv 2, iv ss, iv 0, iv 0, iv 0, uv 0, uv 0], cw [iv 1, iv ss, iv 3, iv 4, iv 5, uv 0, uv 0, iv 2, iv ss, iv 0, iv 0, iv 0, uv 0, uv 0, iv 3, iv ss, iv 0, iv 0, iv 0, uv 0, uv 0], cw [iv 1, iv ss, iv 3, iv 4, iv 5, uv 0, uv 0, iv 4, iv ss, iv 0, iv 0, iv 0, uv 0, uv 0], cw [.slice none 0 0, sv 6 0 1 1, sv 7 0 2 2, sv 8 0 3 3, sv 9 0 2 2]] [⟨17, [10], [], none⟩, ⟨15, [], [], some 11⟩, ⟨13, [], [10], none⟩, ⟨12, [], [9], none⟩, ⟨11, [4], [], none⟩, ⟨10, [1], [], none⟩, ⟨9, [], [8], none⟩, ⟨8, [3], [], none⟩, ⟨7, [2], [], none⟩, ⟨6, [1], [], none⟩, ⟨5, [], [7], none⟩, ⟨4, [2], [], none⟩, ⟨3, [1], [], none⟩, ⟨2, [], [6], none⟩, ⟨1, [1], [], none⟩] (by kernel_rfl) rfl rfl ?_
    refine d_nil ?_
    refine ⟨⟨reg [(9, pv 0 0), (11, iv ss), (12, iv (1 + kk)), (13, iv (tn : Int)), (18, slV 1 0 none)], [cw (pl ((newP 10 80 (keyA 1) (keyB 1) (keyA 2) (keyB 2)).1)), slB zE (entsL e1) none]⟩, ?_⟩
    refine ⟨?_, ?_⟩
    ·exact Wk.ren [0, 12] rfl rfl (by decide) ⟨rfl, ⟨rfl, ⟨rfl, ⟨rfl, ⟨rfl, trivial⟩⟩⟩⟩⟩ ⟨.inl (ren_cells (pl_scl ((newP 10 80 (keyA 1) (keyB 1) (keyA 2) (keyB 2)).1))), ⟨.inr ⟨rfl, rfl⟩, trivial⟩⟩
    ·exact ⟨0, e1, none, rfl, (by rw [he1.1, show i = tn by omega]; simp [stE]), ⟨by simp [he1.2] <;> omega, by omega⟩, (fun _ => rfl), rfl⟩
   ·skip
    refine d_app0 (n := i) (m := m4) (cs := entsL e1) rfl rfl rfl rfl rfl (by rw [entsL_len]; first | omega | (simp; try omega)) ?_
    refine d_n 1 20 11 [(18, sv 5 0 i (i + m4))] [cw (pl ((newP 10 80 (keyA 1) (keyB 1) (keyA 2) (keyB 2)).1)), cw [iv 1, iv ss, iv 3, iv 4, iv 5, uv 0, uv 0], cw [iv 2, iv ss, iv 0, iv 0, iv 0, uv 0, uv 0], cw [iv 3, iv ss, iv 0, iv 0, iv 0, uv 0, uv 0], cw [iv 4, iv ss, iv 0, iv 0, iv 0, uv 0, uv 0], cw (entsL e1 ++ room zE m4), cw [iv 1, iv ss, iv 3, iv 4, iv 5, uv 0, uv 0], cw [iv 1, iv ss, iv 3, iv 4, iv 5, uv 0, uv 0, iv 2, iv ss, iv 0, iv 0, iv 0, uv 0, uv 0], cw [iv 1, iv ss, iv 3, iv 4, iv 5, uv 0, uv 0, iv 2, iv ss, iv 0, iv 0, iv 0, uv 0, uv 0, iv 3, iv ss, iv 0, iv 0, iv 0, uv 0, uv 0], cw [iv 1, iv ss, iv 3, iv 4, iv 5, uv 0, uv 0, iv 4, iv ss, iv 0, iv 0, iv 0, uv 0, uv 0], cw [.slice none 0 0, sv 6 0 1 1, sv 7 0 2 2, sv 8 0 3 3, sv 9 0 2 2]] [⟨17, [10], [], none⟩, ⟨15, [], [], some 11⟩, ⟨13, [], [10], none⟩, ⟨12, [], [9], none⟩, ⟨11, [4], [], none⟩, ⟨10, [1], [], none⟩, ⟨9, [], [8], none⟩, ⟨8, [3], [], none⟩, ⟨7, [2], [], none⟩, ⟨6, [1], [], none⟩, ⟨5, [], [7], none⟩, ⟨4, [2], [], none⟩, ⟨3, [1], [], none⟩, ⟨2, [], [6], none⟩, ⟨1, [1], [], none⟩] (by kernel_rfl) rfl rfl ?_
    refine d_nil ?_
    refine ⟨⟨reg [(9, pv 0 0), (11, iv ss), (12, iv (1 + kk)), (13, iv (tn : Int)), (18, slV 1 i (some m4))], [cw (pl ((newP 10 80 (keyA 1) (keyB 1) (keyA 2) (keyB 2)).1)), slB zE (entsL e1) (some m4)]⟩, ?_⟩
    refine ⟨?_, ?_⟩
    ·exact Wk.ren [0, 5] rfl rfl (by decide) ⟨rfl, ⟨rfl, ⟨rfl, ⟨rfl, ⟨rfl, trivial⟩⟩⟩⟩⟩ ⟨.inl (ren_cells (pl_scl ((newP 10 80 (keyA 1) (keyB 1) (keyA 2) (keyB 2)).1))), ⟨.inl (ren_cells (entsR_scl _ _)), trivial⟩⟩
    ·exact ⟨i, e1, (some m4), rfl, (by rw [he1.1, show i = tn by omega]; simp [stE]), ⟨by simp [he1.2] <;> omega, by omega⟩, (fun q => by cases q), rfl⟩
  ·skip
   refine d_cl (callVR (withinC_eq h_law6_within state 5 (by decide) hsu) rfl rfl rfl ?_)
   refine d_n 2 18 11 [(76, sv 6 0 1 1), (75, pv 10 1)] [cw (pl ((newP 10 80 (keyA 1) (keyB 1) (keyA 2) (keyB 2)).1)), cw [iv 1, iv ss, iv 3, iv 4, iv 5, uv 0, uv 0], cw [iv 2, iv ss, iv 0, iv 0, iv 0, uv 0, uv 0], cw [iv 3, iv ss, iv 0, iv 0, iv 0, uv 0, uv 0], cw [iv 4, iv ss, iv 0, iv 0, iv 0, uv 0, uv 0], slB zE (entsL e1) q, cw [iv 1, iv ss, iv 3, iv 4, iv 5, uv 0, uv 0], cw [iv 1, iv ss, iv 3, iv 4, iv 5, uv 0, uv 0, iv 2, iv ss, iv 0, iv 0, iv 0, uv 0, uv 0], cw [iv 1, iv ss, iv 3, iv 4, iv 5, uv 0, uv 0, iv 2, iv ss, iv 0, iv 0, iv 0, uv 0, uv 0, iv 3, iv ss, iv 0, iv 0, iv 0, uv 0, uv 0], cw [iv 1, iv ss, iv 3, iv 4, iv 5, uv 0, uv 0, iv 4, iv ss, iv 0, iv 0, iv 0, uv 0, uv 0], cw [.slice none 0 0, sv 6 0 1 1, sv 7 0 2 2, sv 8 0 3 3, sv 9 0 2 2]] [⟨17, [10], [], none⟩, ⟨15, [], [], some 11⟩, ⟨13, [], [10], none⟩, ⟨12, [], [9], none⟩, ⟨11, [4], [], none⟩, ⟨10, [1], [], none⟩, ⟨9, [], [8], none⟩, ⟨8, [3], [], none⟩, ⟨7, [2], [], none⟩, ⟨6, [1], [], none⟩, ⟨5, [], [7], none⟩, ⟨4, [2], [], none⟩, ⟨3, [1], [], none⟩, ⟨2, [], [6], none⟩, ⟨1, [1], [], none⟩] (by kernel_rfl) rfl rfl ?_
   refine d_appC (k := 5) (n := i) (o := q) (q := 1) (cs := entsL e1) (xs := [iv 1, iv ss, iv 3, iv 4, iv 5, uv 0, uv 0]) (cs2 := entsL (e1 ++ [(⟨1, ss, 3, 4, 5, 0, 0⟩ : Ent)])) (zl := zE) rfl rfl rfl (fun m q => by subst q; rfl) (fun z => by have := hq z; subst this; have h1 := he1.1; rw [rots2_self] at h1; subst h1; exact ⟨rfl, rfl⟩) (by rw [entsL_len]; first | omega | (simp; try omega)) rfl rfl (app_first rfl rfl (by simp)) (by rfl) (by omega) (by omega) (entsL_apps e1 [(⟨1, ss, 3, 4, 5, 0, 0⟩ : Ent)] rfl) (fun m5 e6 => ?_) (fun m5 => ?_)
   ·skip
    subst e6
    refine d_n 1 20 11 [(18, sv 5 0 (i + 1) (i + 1 + m5))] [cw (pl ((newP 10 80 (keyA 1) (keyB 1) (keyA 2) (keyB 2)).1)), cw [iv 1, iv ss, iv 3, iv 4, iv 5, uv 0, uv 0], cw [iv 2, iv ss, iv 0, iv 0, iv 0, uv 0, uv 0], cw [iv 3, iv ss, iv 0, iv 0, iv 0, uv 0, uv 0], cw [iv 4, iv ss, iv 0, iv 0, iv 0, uv 0, uv 0], cw (entsL (e1 ++ [(⟨1, ss, 3, 4, 5, 0, 0⟩ : Ent)]) ++ room zE m5), cw [iv 1, iv ss, iv 3, iv 4, iv 5, uv 0, uv 0], cw [iv 1, iv ss, iv 3, iv 4, iv 5, uv 0, uv 0, iv 2, iv ss, iv 0, iv 0, iv 0, uv 0, uv 0], cw [iv 1, iv ss, iv 3, iv 4, iv 5, uv 0, uv 0, iv 2, iv ss, iv 0, iv 0, iv 0, uv 0, uv 0, iv 3, iv ss, iv 0, iv 0, iv 0, uv 0, uv 0], cw [iv 1, iv ss, iv 3, iv 4, iv 5, uv 0, uv 0, iv 4, iv ss, iv 0, iv 0, iv 0, uv 0, uv 0], cw [.slice none 0 0, sv 6 0 1 1, sv 7 0 2 2, sv 8 0 3 3, sv 9 0 2 2]] [⟨17, [10], [], none⟩, ⟨15, [], [], some 11⟩, ⟨13, [], [10], none⟩, ⟨12, [], [9], none⟩, ⟨11, [4], [], none⟩, ⟨10, [1], [], none⟩, ⟨9, [], [8], none⟩, ⟨8, [3], [], none⟩, ⟨7, [2], [], none⟩, ⟨6, [1], [], none⟩, ⟨5, [], [7], none⟩, ⟨4, [2], [], none⟩, ⟨3, [1], [], none⟩, ⟨2, [], [6], none⟩, ⟨1, [1], [], none⟩] (by kernel_rfl) rfl rfl ?_
    refine d_nil ?_
    refine ⟨⟨reg [(9, pv 0 0), (11, iv ss), (12, iv (1 + kk)), (13, iv (tn : Int)), (18, slV 1 (i + 1) (some m5))], [cw (pl ((newP 10 80 (keyA 1) (keyB 1) (keyA 2) (keyB 2)).1)), slB zE (entsL (e1 ++ [(⟨1, ss, 3, 4, 5, 0, 0⟩ : Ent)])) (some m5)]⟩, ?_⟩
    refine ⟨?_, ?_⟩
    ·exact Wk.ren [0, 5] rfl rfl (by decide) ⟨rfl, ⟨rfl, ⟨rfl, ⟨rfl, ⟨rfl, trivial⟩⟩⟩⟩⟩ ⟨.inl (ren_cells (pl_scl ((newP 10 80 (keyA 1) (keyB 1) (keyA 2) (keyB 2)).1))), ⟨.inl (ren_cells (entsR_scl _ _)), trivial⟩⟩
    ·exact ⟨(i + 1), (e1 ++ [(⟨1, ss, 3, 4, 5, 0, 0⟩ : Ent)]), (some m5), rfl, (by rw [he1.1, show i = tn by omega]; simp [stE]), ⟨by simp [he1.2] <;> omega, by omega⟩, (fun q => by cases q), rfl⟩
   refine d_n 1 20 11 [(18, sv 11 0 (i + 1) (i + 1 + m5))] [cw (pl ((newP 10 80 (keyA 1) (keyB 1) (keyA 2) (keyB 2)).1)), cw [iv 1, iv ss, iv 3, iv 4, iv 5, uv 0, uv 0], cw [iv 2, iv ss, iv 0, iv 0, iv 0, uv 0, uv 0], cw [iv 3, iv ss, iv 0, iv 0, iv 0, uv 0, uv 0], cw [iv 4, iv ss, iv 0, iv 0, iv 0, uv 0, uv 0], slB zE (entsL e1) q, cw [iv 1, iv ss, iv 3, iv 4, iv 5, uv 0, uv 0], cw [iv 1, iv ss, iv 3, iv 4, iv 5, uv 0, uv 0, iv 2, iv ss, iv 0, iv 0, iv 0, uv 0, uv 0], cw [iv 1, iv ss, iv 3, iv 4, iv 5, uv 0, uv 0, iv 2, iv ss, iv 0, iv 0, iv 0, uv 0, uv 0, iv 3, iv ss, iv 0, iv 0, iv 0, uv 0, uv 0], cw [iv 1, iv ss, iv 3, iv 4, iv 5, uv 0, uv 0, iv 4, iv ss, iv 0, iv 0, iv 0, uv 0, uv 0], cw [.slice none 0 0, sv 6 0 1 1, sv 7 0 2 2, sv 8 0 3 3, sv 9 0 2 2], cw (entsL (e1 ++ [(⟨1, ss, 3, 4, 5, 0, 0⟩ : Ent)]) ++ room zE m5)] [⟨17, [10], [], none⟩, ⟨15, [], [], some 11⟩, ⟨13, [], [10], none⟩, ⟨12, [], [9], none⟩, ⟨11, [4], [], none⟩, ⟨10, [1], [], none⟩, ⟨9, [], [8], none⟩, ⟨8, [3], [], none⟩, ⟨7, [2], [], none⟩, ⟨6, [1], [], none⟩, ⟨5, [], [7], none⟩, ⟨4, [2], [], none⟩, ⟨3, [1], [], none⟩, ⟨2, [], [6], none⟩, ⟨1, [1], [], none⟩] (by kernel_rfl) rfl rfl ?_
   refine d_nil ?_
   refine ⟨⟨reg [(9, pv 0 0), (11, iv ss), (12, iv (1 + kk)), (13, iv (tn : Int)), (18, slV 1 (i + 1) (some m5))], [cw (pl ((newP 10 80 (keyA 1) (keyB 1) (keyA 2) (keyB 2)).1)), slB zE (entsL (e1 ++ [(⟨1, ss, 3, 4, 5, 0, 0⟩ : Ent)])) (some m5)]⟩, ?_⟩
   refine ⟨?_, ?_⟩
   ·exact Wk.ren [0, 11] rfl rfl (by decide) ⟨rfl, ⟨rfl, ⟨rfl, ⟨rfl, ⟨rfl, trivial⟩⟩⟩⟩⟩ ⟨.inl (ren_cells (pl_scl ((newP 10 80 (keyA 1) (keyB 1) (keyA 2) (keyB 2)).1))), ⟨.inl (ren_cells (entsR_scl _ _)), trivial⟩⟩
   ·exact ⟨(i + 1), (e1 ++ [(⟨1, ss, 3, 4, 5, 0, 0⟩ : Ent)]), (some m5), rfl, (by rw [he1.1, show i = tn by omega]; simp [stE]), ⟨by simp [he1.2] <;> omega, by omega⟩, (fun q => by cases q), rfl⟩
  ·skip
   refine d_cl (callVR (withinC_eq h_law6_within state 5 (by decide) hsu) rfl rfl rfl ?_)
   refine d_n 2 18 11 [(76, sv 7 0 2 2), (75, pv 10 2)] [cw (pl ((newP 10 80 (keyA 1) (keyB 1) (keyA 2) (keyB 2)).1)), cw [iv 1, iv ss, iv 3, iv 4, iv 5, uv 0, uv 0], cw [iv 2, iv ss, iv 0, iv 0, iv 0, uv 0, uv 0], cw [iv 3, iv ss, iv 0, iv 0, iv 0, uv 0, uv 0], cw [iv 4, iv ss, iv 0, iv 0, iv 0, uv 0, uv 0], slB zE (entsL e1) q, cw [iv 1, iv ss, iv 3, iv 4, iv 5, uv 0, uv 0], cw [iv 1, iv ss, iv 3, iv 4, iv 5, uv 0, uv 0, iv 2, iv ss, iv 0, iv 0, iv 0, uv 0, uv 0], cw [iv 1, iv ss, iv 3, iv 4, iv 5, uv 0, uv 0, iv 2, iv ss, iv 0, iv 0, iv 0, uv 0, uv 0, iv 3, iv ss, iv 0, iv 0, iv 0, uv 0, uv 0], cw [iv 1, iv ss, iv 3, iv 4, iv 5, uv 0, uv 0, iv 4, iv ss, iv 0, iv 0, iv 0, uv 0, uv 0], cw [.slice none 0 0, sv 6 0 1 1, sv 7 0 2 2, sv 8 0 3 3, sv 9 0 2 2]] [⟨17, [10], [], none⟩, ⟨15, [], [], some 11⟩, ⟨13, [], [10], none⟩, ⟨12, [], [9], none⟩, ⟨11, [4], [], none⟩, ⟨10, [1], [], none⟩, ⟨9, [], [8], none⟩, ⟨8, [3], [], none⟩, ⟨7, [2], [], none⟩, ⟨6, [1], [], none⟩, ⟨5, [], [7], none⟩, ⟨4, [2], [], none⟩, ⟨3, [1], [], none⟩, ⟨2, [], [6], none⟩, ⟨1, [1], [], none⟩] (by kernel_rfl) rfl rfl ?_
   refine d_appC (k := 5) (n := i) (o := q) (q := 2) (cs := entsL e1) (xs := [iv 1, iv ss, iv 3, iv 4, iv 5, uv 0, uv 0, iv 2, iv ss, iv 0, iv 0, iv 0, uv 0, uv 0]) (cs2 := entsL (e1 ++ [(⟨1, ss, 3, 4, 5, 0, 0⟩ : Ent), (⟨2, ss, 0, 0, 0, 0, 0⟩ : Ent)])) (zl := zE) rfl rfl rfl (fun m q => by subst q; rfl) (fun z => by have := hq z; subst this; have h1 := he1.1; rw [rots2_self] at h1; subst h1; exact ⟨rfl, rfl⟩) (by rw [entsL_len]; first | omega | (simp; try omega)) rfl rfl (app_first rfl rfl (by simp)) (by rfl) (by omega) (by omega) (entsL_apps e1 [(⟨1, ss, 3, 4, 5, 0, 0⟩ : Ent), (⟨2, ss, 0, 0, 0, 0, 0⟩ : Ent)] rfl) (fun m7 e8 => ?_) (fun m7 => ?_)
   ·skip
    subst e8
    refine d_n 1 20 11 [(18, sv 5 0 (i + 2) (i + 2 + m7))] [cw (pl ((newP 10 80 (keyA 1) (keyB 1) (keyA 2) (keyB 2)).1)), cw [iv 1, iv ss, iv 3, iv 4, iv 5, uv 0, uv 0], cw [iv 2, iv ss, iv 0, iv 0, iv 0, uv 0, uv 0], cw [iv 3, iv ss, iv 0, iv 0, iv 0, uv 0, uv 0], cw [iv 4, iv ss, iv 0, iv 0, iv 0, uv 0, uv 0], cw (entsL (e1 ++ [(⟨1, ss, 3, 4, 5, 0, 0⟩ : Ent), (⟨2, ss, 0, 0, 0, 0, 0⟩ : Ent)]) ++ room zE m7), cw [iv 1, iv ss, iv 3, iv 4, iv 5, uv 0, uv 0], cw [iv 1, iv ss, iv 3, iv 4, iv 5, uv 0, uv 0, iv 2, iv ss, iv 0, iv 0, iv 0, uv 0, uv 0], cw [iv 1, iv ss, iv 3, iv 4, iv 5, uv 0, uv 0, iv 2, iv ss, iv 0, iv 0, iv 0, uv 0, uv 0, iv 3, iv ss, iv 0, iv 0, iv 0, uv 0, uv 0], cw [iv 1, iv ss, iv 3, iv 4, iv 5, uv 0, uv 0, iv 4, iv ss, iv 0, iv 0, iv 0, uv 0, uv 0], cw [.slice none 0 0, sv 6 0 1 1, sv 7 0 2 2, sv 8 0 3 3, sv 9 0 2 2]] [⟨17, [10], [], none⟩, ⟨15, [], [], some 11⟩, ⟨13, [], [10], none⟩, ⟨12, [], [9], none⟩, ⟨11, [4], [], none⟩, ⟨10, [1], [], none⟩, ⟨9, [], [8], none⟩, ⟨8, [3], [], none⟩, ⟨7, [2], [], none⟩, ⟨6, [1], [], none⟩, ⟨5, [], [7], none⟩, ⟨4, [2], [], none⟩, ⟨3, [1], [], none⟩, ⟨2, [], [6], none⟩, ⟨1, [1], [], none⟩] (by kernel_rfl) rfl rfl ?_
    refine d_nil ?_
    refine ⟨⟨reg [(9, pv 0 0), (11, iv ss), (12, iv (1 + kk)), (13, iv (tn : Int)), (18, slV 1 (i + 2) (some m7))], [cw (pl ((newP 10 80 (keyA 1) (keyB 1) (keyA 2) (keyB 2)).1)), slB zE (entsL (e1 ++ [(⟨1, ss, 3, 4, 5, 0, 0⟩ : Ent), (⟨2, ss, 0, 0, 0, 0, 0⟩ : Ent)])) (some m7)]⟩, ?_⟩
    refine ⟨?_, ?_⟩
    ·exact Wk.ren [0, 5] rfl rfl (by decide) ⟨rfl, ⟨rfl, ⟨rfl, ⟨rfl, ⟨rfl, trivial⟩⟩⟩⟩⟩ ⟨.inl (ren_cells (pl_scl ((newP 10 80 (keyA 1) (keyB 1) (keyA 2) (keyB 2)).1))), ⟨.inl (ren_cells (entsR_scl _ _)), trivial⟩⟩
    ·exact ⟨(i + 2), (e1 ++ [(⟨1, ss, 3, 4, 5, 0, 0⟩ : Ent), (⟨2, ss, 0, 0, 0, 0, 0⟩ : Ent)]), (some m7), rfl, (by rw [he1.1, show i = tn by omega]; simp [stE]), ⟨by simp [he1.2] <;> omega, by omega⟩, (fun q => by cases q), rfl⟩
   refine d_n 1 20 11 [(18, sv 11 0 (i + 2) (i + 2 + m7))] [cw (pl ((newP 10 80 (keyA 1) (keyB 1) (keyA 2) (keyB 2)).1)), cw [iv 1, iv ss, iv 3, iv 4, iv 5, uv 0, uv 0], cw [iv 2, iv ss, iv 0, iv 0, iv 0, uv 0, uv 0], cw [iv 3, iv ss, iv 0, iv 0, iv 0, uv 0, uv 0], cw [iv 4, iv ss, iv 0, iv 0, iv 0, uv 0, uv 0], slB zE (entsL e1) q, cw [iv 1, iv ss, iv 3, iv 4, iv 5, uv 0, uv 0], cw [iv 1, iv ss, iv 3, iv 4, iv 5, uv 0, uv 0, iv 2, iv ss, iv 0, iv 0, iv 0, uv 0, uv 0], cw [iv 1, iv ss, iv 3, iv 4, iv 5, uv 0, uv 0, iv 2, iv ss, iv 0, iv 0, iv 0, uv 0, uv 0, iv 3, iv ss, iv 0, iv 0, iv 0, uv 0, uv 0], cw [iv 1, iv ss, iv 3, iv 4, iv 5, uv 0, uv 0, iv 4, iv ss, iv 0, iv 0, iv 0, uv 0, uv 0], cw [.slice none 0 0, sv 6 0 1 1, sv 7 0 2 2, sv 8 0 3 3, sv 9 0 2 2], cw (entsL (e1 ++ [(⟨1, ss, 3, 4, 5, 0, 0⟩ : Ent), (⟨2, ss, 0, 0, 0, 0, 0⟩ : Ent)]) ++ room zE m7)] [⟨17, [10], [], none⟩, ⟨15, [], [], some 11⟩, ⟨13, [], [10], none⟩, ⟨12, [], [9], none⟩, ⟨11, [4], [], none⟩, ⟨10, [1], [], none⟩, ⟨9, [], [8], none⟩, ⟨8, [3], [], none⟩, ⟨7, [2], [], none⟩, ⟨6, [1], [], none⟩, ⟨5, [], [7], none⟩, ⟨4, [2], [], none⟩, ⟨3, [1], [], none⟩, ⟨2, [], [6], none⟩, ⟨1, [1], [], none⟩] (by kernel_rfl) rfl rfl ?_
   refine d_nil ?_
   refine ⟨⟨reg [(9, pv 0 0), (11, iv ss), (12, iv (1 + kk)), (13, iv (tn : Int)), (18, slV 1 (i + 2) (some m7))], [cw (pl ((newP 10 80 (keyA 1) (keyB 1) (keyA 2) (keyB 2)).1)), slB zE (entsL (e1 ++ [(⟨1, ss, 3, 4, 5, 0, 0⟩ : Ent), (⟨2, ss, 0, 0, 0, 0, 0⟩ : Ent)])) (some m7)]⟩, ?_⟩
   refine ⟨?_, ?_⟩
   ·exact Wk.ren [0, 11] rfl rfl (by decide) ⟨rfl, ⟨rfl, ⟨rfl, ⟨rfl, ⟨rfl, trivial⟩⟩⟩⟩⟩ ⟨.inl (ren_cells (pl_scl ((newP 10 80 (keyA 1) (keyB 1) (keyA 2) (keyB 2)).1))), ⟨.inl (ren_cells (entsR_scl _ _)), trivial⟩⟩
   ·exact ⟨(i + 2), (e1 ++ [(⟨1, ss, 3, 4, 5, 0, 0⟩ : Ent), (⟨2, ss, 0, 0, 0, 0, 0⟩ : Ent)]), (some m7), rfl, (by rw [he1.1, show i = tn by omega]; simp [stE]), ⟨by simp [he1.2] <;> omega, by omega⟩, (fun q => by cases q), rfl⟩
  ·skip
   refine d_cl (callVR (withinC_eq h_law6_within state 5 (by decide) hsu) rfl rfl rfl ?_)
   refine d_n 2 18 11 [(76, sv 8 0 3 3), (75, pv 10 3)] [cw (pl ((newP 10 80 (keyA 1) (keyB 1) (keyA 2) (keyB 2)).1)), cw [iv 1, iv ss, iv 3, iv 4, iv 5, uv 0, uv 0], cw [iv 2, iv ss, iv 0, iv 0, iv 0, uv 0, uv 0], cw [iv 3, iv ss, iv 0, iv 0, iv 0, uv 0, uv 0], cw [iv 4, iv ss, iv 0, iv 0, iv 0, uv 0, uv 0], slB zE (entsL e1) q, cw [iv 1, iv ss, iv 3, iv 4, iv 5, uv 0, uv 0], cw [iv 1, iv ss, iv 3, iv 4, iv 5, uv 0, uv 0, iv 2, iv ss, iv 0, iv 0, iv 0, uv 0, uv 0], cw [iv 1, iv ss, iv 3, iv 4, iv 5, uv 0, uv 0, iv 2, iv ss, iv 0, iv 0, iv 0, uv 0, uv 0, iv 3, iv ss, iv 0, iv 0, iv 0, uv 0, uv 0], cw [iv 1, iv ss, iv 3, iv 4, iv 5, uv 0, uv 0, iv 4, iv ss, iv 0, iv 0, iv 0, uv 0, uv 0], cw [.slice none 0 0, sv 6 0 1 1, sv 7 0 2 2, sv 8 0 3 3, sv 9 0 2 2]] [⟨17, [10], [], none⟩, ⟨15, [], [], some 11⟩, ⟨13, [], [10], none⟩, ⟨12, [], [9], none⟩, ⟨11, [4], [], none⟩, ⟨10, [1], [], none⟩, ⟨9, [], [8], none⟩, ⟨8, [3], [], none⟩, ⟨7, [2], [], none⟩, ⟨6, [1], [], none⟩, ⟨5, [], [7], none⟩, ⟨4, [2], [], none⟩, ⟨3, [1], [], none⟩, ⟨2, [], [6], none⟩, ⟨1, [1], [], none⟩] (by kernel_rfl) rfl rfl ?_
   refine d_appC (k := 5) (n := i) (o := q) (q := 3) (cs := entsL e1) (xs := [iv 1, iv ss, iv 3, iv 4, iv 5, uv 0, uv 0, iv 2, iv ss, iv 0, iv 0, iv 0, uv 0, uv 0, iv 3, iv ss, iv 0, iv 0, iv 0, uv 0, uv 0]) (cs2 := entsL (e1 ++ [(⟨1, ss, 3, 4, 5, 0, 0⟩ : Ent), (⟨2, ss, 0, 0, 0, 0, 0⟩ : Ent), (⟨3, ss, 0, 0, 0, 0, 0⟩ : Ent)])) (zl := zE) rfl rfl rfl (fun m q => by subst q; rfl) (fun z => by have := hq z; subst this; have h1 := he1.1; rw [rots2_self] at h1; subst h1; exact ⟨rfl, rfl⟩) (by rw [entsL_len]; first | omega | (simp; try omega)) rfl rfl (app_first rfl rfl (by simp)) (by rfl) (by omega) (by omega) (entsL_apps e1 [(⟨1, ss, 3, 4, 5, 0, 0⟩ : Ent), (⟨2, ss, 0, 0, 0, 0, 0⟩ : Ent), (⟨3, ss, 0, 0, 0, 0, 0⟩ : Ent)] rfl) (fun m9 e10 => ?_) (fun m9 => ?_)
   ·skip
    subst e10
    refine d_n 1 20 11 [(18, sv 5 0 (i + 3) (i + 3 + m9))] [cw (pl ((newP 10 80 (keyA 1) (keyB 1) (keyA 2) (keyB 2)).1)), cw [iv 1, iv ss, iv 3, iv 4, iv 5, uv 0, uv 0], cw [iv 2, iv ss, iv 0, iv 0, iv 0, uv 0, uv 0], cw [iv 3, iv ss, iv 0, iv 0, iv 0, uv 0, uv 0], cw [iv 4, iv ss, iv 0, iv 0, iv 0, uv 0, uv 0], cw (entsL (e1 ++ [(⟨1, ss, 3, 4, 5, 0, 0⟩ : Ent), (⟨2, ss, 0, 0, 0, 0, 0⟩ : Ent), (⟨3, ss, 0, 0, 0, 0, 0⟩ : Ent)]) ++ room zE m9), cw [iv 1, iv ss, iv 3, iv 4, iv 5, uv 0, uv 0], cw [iv 1, iv ss, iv 3, iv 4, iv 5, uv 0, uv 0, iv 2, iv ss, iv 0, iv 0, iv 0, uv 0, uv 0], cw [iv 1, iv ss, iv 3, iv 4, iv 5, uv 0, uv 0, iv 2, iv ss, iv 0, iv 0, iv 0, uv 0, uv 0, iv 3, iv ss, iv 0, iv 0, iv 0, uv 0, uv 0], cw [iv 1, iv ss, iv 3, iv 4, iv 5, uv 0, uv 0, iv 4, iv ss, iv 0, iv 0, iv 0, uv 0, uv 0], cw [.slice none 0 0, sv 6 0 1 1, sv 7 0 2 2, sv 8 0 3 3, sv 9 0 2 2]] [⟨17, [10], [], none⟩, ⟨15, [], [], some 11⟩, ⟨13, [], [10], none⟩, ⟨12, [], [9], none⟩, ⟨11, [4], [], none⟩, ⟨10, [1], [], none⟩, ⟨9, [], [8], none⟩, ⟨8, [3], [], none⟩, ⟨7, [2], [], none⟩, ⟨6, [1], [], none⟩, ⟨5, [], [7], none⟩, ⟨4, [2], [], none⟩, ⟨3, [1], [], none⟩, ⟨2, [], [6], none⟩, ⟨1, [1], [], none⟩] (by kernel_rfl) rfl rfl ?_
    refine d_nil ?_
    refine ⟨⟨reg [(9, pv 0 0), (11, iv ss), (12, iv (1 + kk)), (13, iv (tn : Int)), (18, slV 1 (i + 3) (some m9))], [cw (pl ((newP 10 80 (keyA 1) (keyB 1) (keyA 2) (keyB 2)).1)), slB zE (entsL (e1 ++ [(⟨1, ss, 3, 4, 5, 0, 0⟩ : Ent), (⟨2, ss, 0, 0, 0, 0, 0⟩ : Ent), (⟨3, ss, 0, 0, 0, 0, 0⟩ : Ent)])) (some m9)]⟩, ?_⟩
    refine ⟨?_, ?_⟩
    ·exact Wk.ren [0, 5] rfl rfl (by decide) ⟨rfl, ⟨rfl, ⟨rfl, ⟨rfl, ⟨rfl, trivial⟩⟩⟩⟩⟩ ⟨.inl (ren_cells (pl_scl ((newP 10 80 (keyA 1) (keyB 1) (keyA 2) (keyB 2)).1))), ⟨.inl (ren_cells (entsR_scl _ _)), trivial⟩⟩
    ·exact ⟨(i + 3), (e1 ++ [(⟨1, ss, 3, 4, 5, 0, 0⟩ : Ent), (⟨2, ss, 0, 0, 0, 0, 0⟩ : Ent), (⟨3, ss, 0, 0, 0, 0, 0⟩ : Ent)]), (some m9), rfl, (by rw [he1.1, show i = tn by omega]; simp [stE]), ⟨by simp [he1.2] <;> omega, by omega⟩, (fun q => by cases q), rfl⟩
   refine d_n 1 20 11 [(18, sv 11 0 (i + 3) (i + 3 + m9))] [cw (pl ((newP 10 80 (keyA 1) (keyB 1) (keyA 2) (keyB 2)).1)), cw [iv 1, iv ss, iv 3, iv 4, iv 5, uv 0, uv 0], cw [iv 2, iv ss, iv 0, iv 0, iv 0, uv 0, uv 0], cw [iv 3, iv ss, iv 0, iv 0, iv 0, uv 0, uv 0], cw [iv 4, iv ss, iv 0, iv 0, iv 0, uv 0, uv 0], slB zE (entsL e1) q, cw [iv 1, iv ss, iv 3, iv 4, iv 5, uv 0, uv 0], cw [iv 1, iv ss, iv 3, iv 4, iv 5, uv 0, uv 0, iv 2, iv ss, iv 0, iv 0, iv 0, uv 0, uv 0], cw [iv 1, iv ss, iv 3, iv 4, iv 5, uv 0, uv 0, iv 2, iv ss, iv 0, iv 0, iv 0, uv 0, uv 0, iv 3, iv ss, iv 0, iv 0, iv 0, uv 0, uv 0], cw [iv 1, iv ss, iv 3, iv 4, iv 5, uv 0, uv 0, iv 4, iv ss, iv 0, iv 0, iv 0, uv 0, uv 0], cw [.slice none 0 0, sv 6 0 1 1, sv 7 0 2 2, sv 8 0 3 3, sv 9 0 2 2], cw (entsL (e1 ++ [(⟨1, ss, 3, 4, 5, 0, 0⟩ : Ent), (⟨2, ss, 0, 0, 0, 0, 0⟩ : Ent), (⟨3, ss, 0, 0, 0, 0, 0⟩ : Ent)]) ++ room zE m9)] [⟨17, [10], [], none⟩, ⟨15, [], [], some 11⟩, ⟨13, [], [10], none⟩, ⟨12, [], [9], none⟩, ⟨11, [4], [], none⟩, ⟨10, [1], [], none⟩, ⟨9, [], [8], none⟩, ⟨8, [3], [], none⟩, ⟨7, [2], [], none⟩, ⟨6, [1], [], none⟩, ⟨5, [], [7], none⟩, ⟨4, [2], [], none⟩, ⟨3, [1], [], none⟩, ⟨2, [], [6], none⟩, ⟨1, [1], [], none⟩] (by kernel_rfl) rfl rfl ?_
   refine d_nil ?_
   refine ⟨⟨reg [(9, pv 0 0), (11, iv ss), (12, iv (1 + kk)), (13, iv (tn : Int)), (18, slV 1 (i + 3) (some m9))], [cw (pl ((newP 10 80 (keyA 1) (keyB 1) (keyA 2) (keyB 2)).1)), slB zE (entsL (e1 ++ [(⟨1, ss, 3, 4, 5, 0, 0⟩ : Ent), (⟨2, ss, 0, 0, 0, 0, 0⟩ : Ent), (⟨3, ss, 0, 0, 0, 0, 0⟩ : Ent)])) (some m9)]⟩, ?_⟩
   refine ⟨?_, ?_⟩
   ·exact Wk.ren [0, 11] rfl rfl (by decide) ⟨rfl, ⟨rfl, ⟨rfl, ⟨rfl, ⟨rfl, trivial⟩⟩⟩⟩⟩ ⟨.inl (ren_cells (pl_scl ((newP 10 80 (keyA 1) (keyB 1) (keyA 2) (keyB 2)).1))), ⟨.inl (ren_cells (entsR_scl _ _)), trivial⟩⟩
   ·exact ⟨(i + 3), (e1 ++ [(⟨1, ss, 3, 4, 5, 0, 0⟩ : Ent), (⟨2, ss, 0, 0, 0, 0, 0⟩ : Ent), (⟨3, ss, 0, 0, 0, 0, 0⟩ : Ent)]), (some m9), rfl, (by rw [he1.1, show i = tn by omega]; simp [stE]), ⟨by simp [he1.2] <;> omega, by omega⟩, (fun q => by cases q), rfl⟩
  ·skip
   refine d_cl (callVR (withinC_eq h_law6_within state 5 (by decide) hsu) rfl rfl rfl ?_)
   refine d_n 2 18 11 [(76, sv 9 0 2 2), (75, pv 10 4)] [cw (pl ((newP 10 80 (keyA 1) (keyB 1) (keyA 2) (keyB 2)).1)), cw [iv 1, iv ss, iv 3, iv 4, iv 5, uv 0, uv 0], cw [iv 2, iv ss, iv 0, iv 0, iv 0, uv 0, uv 0], cw [iv 3, iv ss, iv 0, iv 0, iv 0, uv 0, uv 0], cw [iv 4, iv ss, iv 0, iv 0, iv 0, uv 0, uv 0], slB zE (entsL e1) q, cw [iv 1, iv ss, iv 3, iv 4, iv 5, uv 0, uv 0], cw [iv 1, iv ss, iv 3, iv 4, iv 5, uv 0, uv 0, iv 2, iv ss, iv 0, iv 0, iv 0, uv 0, uv 0], cw [iv 1, iv ss, iv 3, iv 4, iv 5, uv 0, uv 0, iv 2, iv ss, iv 0, iv 0, iv 0, uv 0, uv 0, iv 3, iv ss, iv 0, iv 0, iv 0, uv 0, uv 0], cw [iv 1, iv ss, iv 3, iv 4, iv 5, uv 0, uv 0, iv 4, iv ss, iv 0, iv 0, iv 0, uv 0, uv 0], cw [.slice none 0 0, sv 6 0 1 1, sv 7 0 2 2, sv 8 0 3 3, sv 9 0 2 2]] [⟨17, [10], [], none⟩, ⟨15, [], [], some 11⟩, ⟨13, [], [10], none⟩, ⟨12, [], [9], none⟩, ⟨11, [4], [], none⟩, ⟨10, [1], [], none⟩, ⟨9, [], [8], none⟩, ⟨8, [3], [], none⟩, ⟨7, [2], [], none⟩, ⟨6, [1], [], none⟩, ⟨5, [], [7], none⟩, ⟨4, [2], [], none⟩, ⟨3, [1], [], none⟩, ⟨2, [], [6], none⟩, ⟨1, [1], [], none⟩] (by kernel_rfl) rfl rfl ?_
   refine d_appC (k := 5) (n := i) (o := q) (q := 2) (cs := entsL e1) (xs := [iv 1, iv ss, iv 3, iv 4, iv 5, uv 0, uv 0, iv 4, iv ss, iv 0, iv 0, iv 0, uv 0, uv 0]) (cs2 := entsL (e1 ++ [(⟨1, ss, 3, 4, 5, 0, 0⟩ : Ent), (⟨4, ss, 0, 0, 0, 0, 0⟩ : Ent)])) (zl := zE) rfl rfl rfl (fun m q => by subst q; rfl) (fun z => by have := hq z; subst this; have h1 := he1.1; rw [rots2_self] at h1; subst h1; exact ⟨rfl, rfl⟩) (by rw [entsL_len]; first | omega | (simp; try omega)) rfl rfl (app_first rfl rfl (by simp)) (by rfl) (by omega) (by omega) (entsL_apps e1 [(⟨1, ss, 3, 4, 5, 0, 0⟩ : Ent), (⟨4, ss, 0, 0, 0, 0, 0⟩ : Ent)] rfl) (fun m11 e12 => ?_) (fun m11 => ?_)
   ·skip
    subst e12
    refine d_n 1 20 11 [(18, sv 5 0 (i + 2) (i + 2 + m11))] [cw (pl ((newP 10 80 (keyA 1) (keyB 1) (keyA 2) (keyB 2)).1)), cw [iv 1, iv ss, iv 3, iv 4, iv 5, uv 0, uv 0], cw [iv 2, iv ss, iv 0, iv 0, iv 0, uv 0, uv 0], cw [iv 3, iv ss, iv 0, iv 0, iv 0, uv 0, uv 0], cw [iv 4, iv ss, iv 0, iv 0, iv 0, uv 0, uv 0], cw (entsL (e1 ++ [(⟨1, ss, 3, 4, 5, 0, 0⟩ : Ent), (⟨4, ss, 0, 0, 0, 0, 0⟩ : Ent)]) ++ room zE m11), cw [iv 1, iv ss, iv 3, iv 4, iv 5, uv 0, uv 0], cw [iv 1, iv ss, iv 3, iv 4, iv 5, uv 0, uv 0, iv 2, iv ss, iv 0, iv 0, iv 0, uv 0, uv 0], cw [iv 1, iv ss, iv 3, iv 4, iv 5, uv 0, uv 0, iv 2, iv ss, iv 0, iv 0, iv 0, uv 0, uv 0, iv 3, iv ss, iv 0, iv 0, iv 0, uv 0, uv 0], cw [iv 1, iv ss, iv 3, iv 4, iv 5, uv 0, uv 0, iv 4, iv ss, iv 0, iv 0, iv 0, uv 0, uv 0], cw [.slice none 0 0, sv 6 0 1 1, sv 7 0 2 2, sv 8 0 3 3, sv 9 0 2 2]] [⟨17, [10], [], none⟩, ⟨15, [], [], some 11⟩, ⟨13, [], [10], none⟩, ⟨12, [], [9], none⟩, ⟨11, [4], [], none⟩, ⟨10, [1], [], none⟩, ⟨9, [], [8], none⟩, ⟨8, [3], [], none⟩, ⟨7, [2], [], none⟩, ⟨6, [1], [], none⟩, ⟨5, [], [7], none⟩, ⟨4, [2], [], none⟩, ⟨3, [1], [], none⟩, ⟨2, [], [6], none⟩, ⟨1, [1], [], none⟩] (by kernel_rfl) rfl rfl ?_
    refine d_nil ?_
    refine ⟨⟨reg [(9, pv 0 0), (11, iv ss), (12, iv (1 + kk)), (13, iv (tn : Int)), (18, slV 1 (i + 2) (some m11))], [cw (pl ((newP 10 80 (keyA 1) (keyB 1) (keyA 2) (keyB 2)).1)), slB zE (entsL (e1 ++ [(⟨1, ss, 3, 4, 5, 0, 0⟩ : Ent), (⟨4, ss, 0, 0, 0, 0, 0⟩ : Ent)])) (some m11)]⟩, ?_⟩
    refine ⟨?_, ?_⟩
    ·exact Wk.ren [0, 5] rfl rfl (by decide) ⟨rfl, ⟨rfl, ⟨rfl, ⟨rfl, ⟨rfl, trivial⟩⟩⟩⟩⟩ ⟨.inl (ren_cells (pl_scl ((newP 10 80 (keyA 1) (keyB 1) (keyA 2) (keyB 2)).1))), ⟨.inl (ren_cells (entsR_scl _ _)), trivial⟩⟩
    ·exact ⟨(i + 2), (e1 ++ [(⟨1, ss, 3, 4, 5, 0, 0⟩ : Ent), (⟨4, ss, 0, 0, 0, 0, 0⟩ : Ent)]), (some m11), rfl, (by rw [he1.1, show i = tn by omega]; simp [stE]), ⟨by simp [he1.2] <;> omega, by omega⟩, (fun q => by cases q), rfl⟩
   refine d_n 1 20 11 [(18, sv 11 0 (i + 2) (i + 2 + m11))] [cw (pl ((newP 10 80 (keyA 1) (keyB 1) (keyA 2) (keyB 2)).1)), cw [iv 1, iv ss, iv 3, iv 4, iv 5, uv 0, uv 0], cw [iv 2, iv ss, iv 0, iv 0, iv 0, uv 0, uv 0], cw [iv 3, iv ss, iv 0, iv 0, iv 0, uv 0, uv 0], cw [iv 4, iv ss, iv 0, iv 0, iv 0, uv 0, uv 0], slB zE (entsL e1) q, cw [iv 1, iv ss, iv 3, iv 4, iv 5, uv 0, uv 0], cw [iv 1, iv ss, iv 3, iv 4, iv 5, uv 0, uv 0, iv 2, iv ss, iv 0, iv 0, iv 0, uv 0, uv 0], cw [iv 1, iv ss, iv 3, iv 4, iv 5, uv 0, uv 0, iv 2, iv ss, iv 0, iv 0, iv 0, uv 0, uv 0, iv 3, iv ss, iv 0, iv 0, iv 0, uv 0, uv 0], cw [iv 1, iv ss, iv 3, iv 4, iv 5, uv 0, uv 0, iv 4, iv ss, iv 0, iv 0, iv 0, uv 0, uv 0], cw [.slice none 0 0, sv 6 0 1 1, sv 7 0 2 2, sv 8 0 3 3, sv 9 0 2 2], cw (entsL (e1 ++ [(⟨1, ss, 3, 4, 5, 0, 0⟩ : Ent), (⟨4, ss, 0, 0, 0, 0, 0⟩ : Ent)]) ++ room zE m11)] [⟨17, [10], [], none⟩, ⟨15, [], [], some 11⟩, ⟨13, [], [10], none⟩, ⟨12, [], [9], none⟩, ⟨11, [4], [], none⟩, ⟨10, [1], [], none⟩, ⟨9, [], [8], none⟩, ⟨8, [3], [], none⟩, ⟨7, [2], [], none⟩, ⟨6, [1], [], none⟩, ⟨5, [], [7], none⟩, ⟨4, [2], [], none⟩, ⟨3, [1], [], none⟩, ⟨2, [], [6], none⟩, ⟨1, [1], [], none⟩] (by kernel_rfl) rfl rfl ?_
   refine d_nil ?_
   refine ⟨⟨reg [(9, pv 0 0), (11, iv ss), (12, iv (1 + kk)), (13, iv (tn : Int)), (18, slV 1 (i + 2) (some m11))], [cw (pl ((newP 10 80 (keyA 1) (keyB 1) (keyA 2) (keyB 2)).1)), slB zE (entsL (e1 ++ [(⟨1, ss, 3, 4, 5, 0, 0⟩ : Ent), (⟨4, ss, 0, 0, 0, 0, 0⟩ : Ent)])) (some m11)]⟩, ?_⟩
   refine ⟨?_, ?_⟩
   ·exact Wk.ren [0, 11] rfl rfl (by decide) ⟨rfl, ⟨rfl, ⟨rfl, ⟨rfl, ⟨rfl, trivial⟩⟩⟩⟩⟩ ⟨.inl (ren_cells (pl_scl ((newP 10 80 (keyA 1) (keyB 1) (keyA 2) (keyB 2)).1))), ⟨.inl (ren_cells (entsR_scl _ _)), trivial⟩⟩
   ·exact ⟨(i + 2), (e1 ++ [(⟨1, ss, 3, 4, 5, 0, 0⟩ : Ent), (⟨4, ss, 0, 0, 0, 0, 0⟩ : Ent)]), (some m11), rfl, (by rw [he1.1, show i = tn by omega]; simp [stE]), ⟨by simp [he1.2] <;> omega, by omega⟩, (fun q => by cases q), rfl⟩
 rintro s ⟨n, es, q2, -, hes, hn, hq2, rfl⟩
 refine gseq ?_
 refine gseq ?_
 refine greg ?_
 refine o_d 2 [(20, iv (tn : Int)), (78, iv (tn : Int))] (by kernel_rfl) ?_
 refine o_nil ?_
 refine seq_go ?_
 refine gblock ?_
 refine gloop (fun μ s => ∃ (j : Nat), ∃ (e2 : List Ent), ∃ (n2 : Nat), ∃ (q3 : Option Nat), μ = 3 - j ∧ (tn ≤ j ∧ j ≤ 3) ∧ (e2 = (rots2 0 tn ++ stE su ss) ++ rots2 tn j) ∧ (e2.length = n2 ∧ n2 + tn ≤ 5 + j) ∧ (q3 = none → n2 = 0) ∧ s = ⟨reg [(20, iv (j : Int)), (9, pv 0 0), (11, iv ss), (12, iv (1 + kk)), (18, slV 1 n2 q3)], [cw (pl ((newP 10 80 (keyA 1) (keyB 1) (keyA 2) (keyB 2)).1)), slB zE (entsL e2) q3]⟩) ⟨(3 - tn), ?_⟩ ?_
 ·skip
  refine ⟨⟨reg [(20, iv (tn : Int)), (9, pv 0 0), (11, iv ss), (12, iv (1 + kk)), (18, slV 1 n q2)], [cw (pl ((newP 10 80 (keyA 1) (keyB 1) (keyA 2) (keyB 2)).1)), slB zE (entsL es) q2]⟩, ?_⟩
  refine ⟨?_, ?_⟩
  ·exact Wk.ren [0, 1] rfl rfl (by decide) ⟨rfl, ⟨rfl, ⟨rfl, ⟨rfl, ⟨((renV_slV q2 rfl)).trans rfl, trivial⟩⟩⟩⟩⟩ ⟨.inl (ren_cells (pl_scl ((newP 10 80 (keyA 1) (keyB 1) (keyA 2) (keyB 2)).1))), ⟨.inl (ren_slB q2 (fun _ => (entsR_scl _ _))), trivial⟩⟩
  ·exact ⟨tn, es, n, q2, rfl, ⟨Nat.le_refl _, by omega⟩, (by rw [rots2_self, List.append_nil]; exact hes), ⟨hn.1, by omega⟩, hq2, rfl⟩
 rintro μ s ⟨j, e2, n2, q3, rfl, hj, he2, hn2, hq3, rfl⟩
 refine gseq ?_
 refine gseq ?_
 refine greg ?_
 refine o_d 2 [(80, bv (decide ((j : Int) < 3))), (79, iv (j : Int))] (by kernel_rfl) ?_
 refine o_nil ?_
 refine seq_go ?_
 refine gcond (t := decide ((j : Int) < 3)) rfl (fun h13 => ?_) (fun h13 => ?_)
 ·skip
  have h13' : (j : Int) < 3 := of_decide_eq_true h13
  refine gskip ?_
  refine seq_go ?_
  refine gseq ?_
  refine gblock ?_
  refine greg ?_
  refine o_d 2 [(84, iv (j : Int)), (83, slV 1 n2 q3)] (by kernel_rfl) ?_
  refine o_cl (callV (KeyC h_law5_Key (j : Int)) rfl rfl rfl ?_)
  refine o_b 2 [(87, sv 2 0 1 1), (86, .agg #[iv 6, iv 0, iv 0, iv 0, iv 0, uv (keyA (j : Int)), uv (keyB (j : Int))])] [cw (pl ((newP 10 80 (keyA 1) (keyB 1) (keyA 2) (keyB 2)).1)), slB zE (entsL e2) q3, cw [iv 6, iv 0, iv 0, iv 0, iv 0, uv (keyA (j : Int)), uv (keyB (j : Int))]] (by kernel_rfl) ?_
  refine o_appC (k := 1) (n := n2) (o := q3) (q := 1) (cs := entsL e2) (xs := [iv 6, iv 0, iv 0, iv 0, iv 0, uv (keyA (j : Int)), uv (keyB (j : Int))]) (cs2 := entsL (e2 ++ [(⟨6, 0, 0, 0, 0, keyA (j : Int), keyB (j : Int)⟩ : Ent)])) (zl := zE) rfl rfl rfl (fun m q => by subst q; rfl) (fun z => by have h0 := hq3 z; have h1 := hn2.1; rw [h0] at h1; have h2 := List.eq_nil_of_length_eq_zero h1; rw [h2]; exact ⟨h0, rfl⟩) (by rw [entsL_len]; first | omega | (simp; try omega)) rfl rfl (app_first rfl rfl (by simp)) (by rfl) (by omega) (by omega) (entsL_apps e2 [(⟨6, 0, 0, 0, 0, keyA (j : Int), keyB (j : Int)⟩ : Ent)] rfl) (fun m14 e15 => ?_) (fun m14 => ?_)
  ·skip
   subst e15
   refine o_d 1 [(18, sv 1 0 (n2 + 1) (n2 + 1 + m14))] (by kernel_rfl) ?_
   refine o_nil ?_
   refine seq_go ?_
   refine greg ?_
   refine o_d 1 [(81, iv (j : Int))] (by kernel_rfl) ?_
   refine o_s (by refine run_val (v := .int .i64 (IntKind.i64.wrap ((j : Int) + 1))) (congrArg (Value.int .i64) (w64 (by omega) (by omega))) ?_; kernel_rfl) ?_
   refine o_d 1 [(20, iv ((j : Int) + 1))] (by kernel_rfl) ?_
   refine o_nil ?_
   refine ⟨3 - (j + 1), ?_⟩
   refine ⟨⟨reg [(20, iv ((j + 1) : Int)), (9, pv 0 0), (11, iv ss), (12, iv (1 + kk)), (18, slV 1 (n2 + 1) (some m14))], [cw (pl ((newP 10 80 (keyA 1) (keyB 1) (keyA 2) (keyB 2)).1)), slB zE (entsL (e2 ++ [(⟨6, 0, 0, 0, 0, keyA (j : Int), keyB (j : Int)⟩ : Ent)])) (some m14)]⟩, ?_⟩
   refine and3 (by omega) ⟨?_, ?_⟩
   ·exact Wk.ren [0, 1] rfl rfl (by decide) ⟨rfl, ⟨rfl, ⟨rfl, ⟨rfl, ⟨rfl, trivial⟩⟩⟩⟩⟩ ⟨.inl (ren_cells (pl_scl ((newP 10 80 (keyA 1) (keyB 1) (keyA 2) (keyB 2)).1))), ⟨.inl (ren_cells (entsR_scl _ _)), trivial⟩⟩
   ·exact ⟨(j + 1), (e2 ++ [(⟨6, 0, 0, 0, 0, keyA (j : Int), keyB (j : Int)⟩ : Ent)]), (n2 + 1), (some m14), rfl, by omega, (by rw [rots2_snoc hj.1, ← List.append_assoc, ← he2]), ⟨by simp [hn2.1], by omega⟩, (fun q => by cases q), rfl⟩
  refine o_d 1 [(18, sv 3 0 (n2 + 1) (n2 + 1 + m14))] (by kernel_rfl) ?_
  refine o_nil ?_
  refine seq_go ?_
  refine greg ?_
  refine o_d 1 [(81, iv (j : Int))] (by kernel_rfl) ?_
  refine o_s (by refine run_val (v := .int .i64 (IntKind.i64.wrap ((j : Int) + 1))) (congrArg (Value.int .i64) (w64 (by omega) (by omega))) ?_; kernel_rfl) ?_
  refine o_d 1 [(20, iv ((j : Int) + 1))] (by kernel_rfl) ?_
  refine o_nil ?_
  refine ⟨3 - (j + 1), ?_⟩
  refine ⟨⟨reg [(20, iv ((j + 1) : Int)), (9, pv 0 0), (11, iv ss), (12, iv (1 + kk)), (18, slV 1 (n2 + 1) (some m14))], [cw (pl ((newP 10 80 (keyA 1) (keyB 1) (keyA 2) (keyB 2)).1)), slB zE (entsL (e2 ++ [(⟨6, 0, 0, 0, 0, keyA (j : Int), keyB (j : Int)⟩ : Ent)])) (some m14)]⟩, ?_⟩
  refine and3 (by omega) ⟨?_, ?_⟩
  ·exact Wk.ren [0, 3] rfl rfl (by decide) ⟨rfl, ⟨rfl, ⟨rfl, ⟨rfl, ⟨rfl, trivial⟩⟩⟩⟩⟩ ⟨.inl (ren_cells (pl_scl ((newP 10 80 (keyA 1) (keyB 1) (keyA 2) (keyB 2)).1))), ⟨.inl (ren_cells (entsR_scl _ _)), trivial⟩⟩
  ·exact ⟨(j + 1), (e2 ++ [(⟨6, 0, 0, 0, 0, keyA (j : Int), keyB (j : Int)⟩ : Ent)]), (n2 + 1), (some m14), rfl, by omega, (by rw [rots2_snoc hj.1, ← List.append_assoc, ← he2]), ⟨by simp [hn2.1], by omega⟩, (fun q => by cases q), rfl⟩
 have h13' : ¬ ((j : Int) < 3) := of_decide_eq_false h13
 refine gexit ?_
 refine seq_go ?_
 refine gseq ?_
 refine greg ?_
 refine o_s (by refine run_ld (v := poolV ((newP 10 80 (keyA 1) (keyB 1) (keyA 2) (keyB 2)).1)) rfl rfl ?_; exact pl_all ((newP 10 80 (keyA 1) (keyB 1) (keyA 2) (keyB 2)).1)) ?_
 refine o_d 1 [(91, slV 1 n2 q3)] (by kernel_rfl) ?_
 rcases q3 with _ | m16
 ·skip
  have h0 := hq3 rfl
  have h1 := hn2.1
  rw [he2] at h1
  simp [rots2_len] at h1
  omega
 ·skip
  refine o_cl (callS (a1 := [poolV ((newP 10 80 (keyA 1) (keyB 1) (keyA 2) (keyB 2)).1), .slice (some ⟨0, 0, none⟩) n2 (n2 + m16)]) [1] [entsL e2 ++ room zE m16] (refAllE h_ref6_All h_ref6_Apply h_ref6_Check h_ref6_out h_ref6_bad h_ref6_Held h_ref5_Next ((newP 10 80 (keyA 1) (keyB 1) (keyA 2) (keyB 2)).1) e2 m16 n2 (n2 + m16) (by exact hn2.1.symm) (by omega)) rfl (fun n => ren_pool_sl _ _ _ _ _) ⟨⟨_, rfl⟩, entsR_scl _ _, trivial⟩ (all_cons (poolV_aggf ((allS ((newP 10 80 (keyA 1) (keyB 1) (keyA 2) (keyB 2)).1) e2 0).1)) (all_cons rfl (all_cons rfl rfl))) ?_)
  refine o_d 4 [(95, iv ((allS ((newP 10 80 (keyA 1) (keyB 1) (keyA 2) (keyB 2)).1) e2 0).2.2)), (94, iv ((allS ((newP 10 80 (keyA 1) (keyB 1) (keyA 2) (keyB 2)).1) e2 0).2.1 : Int)), (93, poolV ((allS ((newP 10 80 (keyA 1) (keyB 1) (keyA 2) (keyB 2)).1) e2 0).1)), (89, .tuple #[poolV ((allS ((newP 10 80 (keyA 1) (keyB 1) (keyA 2) (keyB 2)).1) e2 0).1), iv ((allS ((newP 10 80 (keyA 1) (keyB 1) (keyA 2) (keyB 2)).1) e2 0).2.1 : Int), iv ((allS ((newP 10 80 (keyA 1) (keyB 1) (keyA 2) (keyB 2)).1) e2 0).2.2)])] (by kernel_rfl) ?_
  refine o_s0 (by refine run_st (c' := pl ((allS ((newP 10 80 (keyA 1) (keyB 1) (keyA 2) (keyB 2)).1) e2 0).1)) rfl rfl rfl ?_ ?_ ?_; exact pl_length _; exact pl_le (by omega); exact splice_pl0 ((newP 10 80 (keyA 1) (keyB 1) (keyA 2) (keyB 2)).1) ((allS ((newP 10 80 (keyA 1) (keyB 1) (keyA 2) (keyB 2)).1) e2 0).1)) ?_
  refine o_nil ?_
  have hj3 : j = 3 := by omega
  subst hj3
  have hM : MV ((allS ((newP 10 80 (keyA 1) (keyB 1) (keyA 2) (keyB 2)).1) e2 0).1) ss su ((tn : Int) + 1) 4 := moves_all' he2 hs (by omega) ht3
  generalize (allS ((newP 10 80 (keyA 1) (keyB 1) (keyA 2) (keyB 2)).1) e2 0).1 = P at hM ⊢
  have hsu5 : su = 0 ∨ su = 1 ∨ su = 2 ∨ su = 3 ∨ su = 4 := by omega
  have hkk6 : kk = 0 ∨ kk = 1 ∨ kk = 2 ∨ kk = 3 ∨ kk = 4 ∨ kk = 5 := by omega
  rcases hsu5 with rfl | rfl | rfl | rfl | rfl
  ·rcases hkk6 with rfl | rfl | rfl | rfl | rfl | rfl
   ·skip
    have hE : (applyS P ⟨1, ss, 1, 2, 3, 0, 0⟩).2 = 0 := (mv_bind hM hs (a := 1) (p := 2) (g := 3) (by decide) (by decide) (by decide)).trans (by decide)
    have hS : (applyS P ⟨1, ss, 1, 2, 3, 0, 0⟩).1 (3 + 5 * ss.toNat) = 1 := (moves_to hM hs rfl ⟨by simp, by simp⟩ hE).trans rfl
    have hV := apply_ver hE
    refine seq_regs [(9, pv 0 0), (11, iv ss), (12, iv 1)] (by kernel_rfl) ?_
    refine gseq ?_
    refine greg ?_
    refine o_b 5 [(21, pv 2 0), (98, .agg #[iv 1, iv ss, iv 0, iv 0, iv 0, uv 0, uv 0]), (97, iv ss), (96, iv 1)] [cw (pl P), cw (entsL e2 ++ room zE m16), cw [iv 1, iv ss, iv 0, iv 0, iv 0, uv 0, uv 0]] (by kernel_rfl) ?_
    refine o_nil ?_
    refine seq_go ?_
    refine gseq ?_
    refine gseq ?_
    refine greg ?_
    refine o_d 2 [(100, bv true), (99, iv 1)] (by kernel_rfl) ?_
    refine o_nil ?_
    refine seq_go ?_
    refine gtrue rfl ?_
    refine greg ?_
    refine o_b 6 [(103, pv 2 4), (102, pv 2 3), (101, pv 2 2)] [cw (pl P), cw (entsL e2 ++ room zE m16), cw [iv 1, iv ss, iv 1, iv 2, iv 3, uv 0, uv 0]] (by kernel_rfl) ?_
    refine o_nil ?_
    refine seq_go ?_
    refine gseq ?_
    refine gseq ?_
    refine greg ?_
    refine o_d 2 [(105, bv false), (104, iv 1)] (by kernel_rfl) ?_
    refine o_nil ?_
    refine seq_go ?_
    refine gfalse rfl ?_
    refine gskip ?_
    refine seq_go ?_
    refine gseq ?_
    refine gdregD [cw (pl P), cw (entsL e2 ++ room zE m16), cw [iv 1, iv ss, iv 1, iv 2, iv 3, uv 0, uv 0], .gone, .gone, .gone, .gone, .gone, .gone, .gone] (by kernel_rfl) ?_
    refine d_n 13 13 10 [(119, pv 0 3), (118, iv ss), (117, sv 3 0 5 5), (116, pv 9 0), (115, iv 0), (114, iv 1), (113, sv 9 0 6 6), (112, sv 8 0 5 5), (111, sv 7 0 5 5), (110, sv 6 0 5 5), (109, sv 5 0 5 5), (108, sv 4 0 5 5), (107, sv 3 0 5 5)] [cw (pl P), cw (entsL e2 ++ room zE m16), cw [iv 1, iv ss, iv 1, iv 2, iv 3, uv 0, uv 0], cw [iv 1, iv (-1), iv (-1), iv (-1), iv (-1)], cw [iv (-1), iv 2, iv (-1), iv 2, iv (-1)], cw [iv (-1), iv (-1), iv 3, iv (-1), iv (-1)], cw [iv (-1), iv 4, iv (-1), iv 4, iv (-1)], cw [iv (-1), iv (-1), iv (-1), iv (-1), iv 0], cw [iv 0, iv 1, iv 2, iv 3, iv 4], cw [sv 3 0 5 5, sv 4 0 5 5, sv 5 0 5 5, sv 6 0 5 5, sv 7 0 5 5, sv 8 0 5 5]] [⟨10, [9], [], none⟩, ⟨6, [], [9], none⟩, ⟨5, [], [8], none⟩, ⟨4, [], [7], none⟩, ⟨3, [], [6], none⟩, ⟨2, [], [5], none⟩, ⟨1, [], [4], none⟩, ⟨0, [], [3], none⟩] (by kernel_rfl) rfl rfl ?_
    refine d_s rfl rfl rfl (by kernel_rfl) (by exact run_iadA (o := 3) (o' := 3 + 5 * ss.toNat) rfl rfl (by omega) (by omega)) ?_
    refine d_s rfl rfl rfl (by kernel_rfl) (by refine run_fad (o' := 3 + 5 * ss.toNat) rfl (by omega)) ?_
    refine d_s rfl rfl rfl (by kernel_rfl) (by refine run_ld (v := iv 0) rfl rfl ?_; exact (pl_r P (3 + 5 * ss.toNat) (by omega) (by omega)).trans (congrArg (fun x => some (iv x)) hM.cur)) ?_
    refine d_n 3 19 10 [(22, iv 1), (124, iv 1), (123, pv 3 0)] [cw (pl P), cw (entsL e2 ++ room zE m16), cw [iv 1, iv ss, iv 1, iv 2, iv 3, uv 0, uv 0], cw [iv 1, iv (-1), iv (-1), iv (-1), iv (-1)], cw [iv (-1), iv 2, iv (-1), iv 2, iv (-1)], cw [iv (-1), iv (-1), iv 3, iv (-1), iv (-1)], cw [iv (-1), iv 4, iv (-1), iv 4, iv (-1)], cw [iv (-1), iv (-1), iv (-1), iv (-1), iv 0], cw [iv 0, iv 1, iv 2, iv 3, iv 4], cw [sv 3 0 5 5, sv 4 0 5 5, sv 5 0 5 5, sv 6 0 5 5, sv 7 0 5 5, sv 8 0 5 5]] [⟨17, [3], [], none⟩, ⟨15, [0], [], none⟩, ⟨10, [9], [], none⟩, ⟨6, [], [9], none⟩, ⟨5, [], [8], none⟩, ⟨4, [], [7], none⟩, ⟨3, [], [6], none⟩, ⟨2, [], [5], none⟩, ⟨1, [], [4], none⟩, ⟨0, [], [3], none⟩] (by kernel_rfl) rfl rfl ?_
    refine d_nil ?_
    refine ⟨⟨reg [(22, iv 1), (21, pv 2 0), (9, pv 0 0), (11, iv ss), (12, iv 1)], [cw (pl P), cw (entsL e2 ++ room zE m16), cw [iv 1, iv ss, iv 1, iv 2, iv 3, uv 0, uv 0]]⟩, Wk.ren [0, 1, 2] rfl rfl (by decide) ⟨rfl, ⟨rfl, ⟨rfl, ⟨rfl, ⟨rfl, trivial⟩⟩⟩⟩⟩ ⟨.inl (ren_cells (pl_scl P)), ⟨.inl (ren_cells (entsR_scl e2 m16)), ⟨.inl rfl, trivial⟩⟩⟩, ?_⟩
    refine gseq ?_
    refine greg ?_
    refine o_s (by refine run_ld (v := poolV P) rfl rfl ?_; exact pl_all P) ?_
    refine o_d 1 [(127, .agg #[iv 1, iv ss, iv 1, iv 2, iv 3, uv 0, uv 0])] (by kernel_rfl) ?_
    refine o_cl (callV (ApplyC h_pool_Apply h_pool_may h_pool_held h_pool_fits h_pool_Check h_pool_placed h_cookie_Next P (⟨1, ss, 1, 2, 3, 0, 0⟩)) rfl (all_cons (poolV_vpf P) (all_cons rfl rfl)) (all_cons (poolV_aggf ((applyS P (⟨1, ss, 1, 2, 3, 0, 0⟩)).1)) (all_cons rfl rfl)) ?_)
    refine o_b 4 [(23, pv 3 0), (130, iv ((applyS P (⟨1, ss, 1, 2, 3, 0, 0⟩)).2)), (129, poolV ((applyS P (⟨1, ss, 1, 2, 3, 0, 0⟩)).1)), (125, .tuple #[poolV ((applyS P (⟨1, ss, 1, 2, 3, 0, 0⟩)).1), iv ((applyS P (⟨1, ss, 1, 2, 3, 0, 0⟩)).2)])] [cw (pl P), cw (entsL e2 ++ room zE m16), cw [iv 1, iv ss, iv 1, iv 2, iv 3, uv 0, uv 0], cw (pl zeroP)] (by kernel_rfl) ?_
    refine o_s0 (by refine run_st (c' := pl ((applyS P (⟨1, ss, 1, 2, 3, 0, 0⟩)).1)) rfl rfl rfl ?_ ?_ ?_; exact pl_length _; exact pl_le (by omega); exact splice_pl0 zeroP ((applyS P (⟨1, ss, 1, 2, 3, 0, 0⟩)).1)) ?_
    refine o_b 1 [(24, iv ((applyS P (⟨1, ss, 1, 2, 3, 0, 0⟩)).2))] [cw (pl P), cw (entsL e2 ++ room zE m16), cw [iv 1, iv ss, iv 1, iv 2, iv 3, uv 0, uv 0], cw (pl ((applyS P (⟨1, ss, 1, 2, 3, 0, 0⟩)).1))] (by kernel_rfl) ?_
    refine o_nil ?_
    refine seq_go ?_
    refine gseq ?_
    refine gseq ?_
    refine greg ?_
    refine o_d 2 [(132, bv false), (131, iv 1)] (by kernel_rfl) ?_
    refine o_nil ?_
    refine seq_go ?_
    refine gfalse rfl ?_
    refine gskip ?_
    refine seq_go ?_
    refine gseq ?_
    refine gseq ?_
    refine greg ?_
    refine o_d 10 [(149, bv false), (148, undef), (147, undef), (146, undef), (145, undef), (144, undef), (143, undef), (142, bv false), (141, bv false), (140, iv 1)] (by kernel_rfl) ?_
    refine o_nil ?_
    refine seq_go ?_
    refine gfalse rfl ?_
    refine gskip ?_
    refine seq_go ?_
    refine gseq ?_
    refine greg ?_
    refine o_d 3 [(154, bv (((applyS P (⟨1, ss, 1, 2, 3, 0, 0⟩)).2) == 0)), (153, bv (((applyS P (⟨1, ss, 1, 2, 3, 0, 0⟩)).2) == 0)), (152, iv ((applyS P (⟨1, ss, 1, 2, 3, 0, 0⟩)).2))] (by kernel_rfl) ?_
    refine o_sp (b := ((applyS P (⟨1, ss, 1, 2, 3, 0, 0⟩)).2) == 0) 154 rfl (fun k17 => ?_) (fun q => by rw [(by rw [hE]; rfl : (((applyS P (⟨1, ss, 1, 2, 3, 0, 0⟩)).2) == 0) = true)] at q; cases q)
    refine o_d 2 [(156, pv 3 3), (155, iv ss)] (by kernel_rfl) ?_
    refine o_unguard rfl ?_
    refine o_s (by exact run_iadA (o := 3) (o' := 3 + 5 * ss.toNat) rfl rfl (by omega) (by omega)) ?_
    refine o_unguard rfl ?_
    refine o_s (by refine run_fad (o' := 3 + 5 * ss.toNat) rfl (by omega)) ?_
    refine o_unguard rfl ?_
    refine o_s (by refine run_ld (v := iv (((applyS P (⟨1, ss, 1, 2, 3, 0, 0⟩)).1) (3 + 5 * ss.toNat))) rfl rfl ?_; exact pl_r ((applyS P (⟨1, ss, 1, 2, 3, 0, 0⟩)).1) (3 + 5 * ss.toNat) (by omega) (by omega)) ?_
    refine o_d 4 [(163, bv ((((applyS P (⟨1, ss, 1, 2, 3, 0, 0⟩)).1) (3 + 5 * ss.toNat)) == 1)), (162, bv ((((applyS P (⟨1, ss, 1, 2, 3, 0, 0⟩)).1) (3 + 5 * ss.toNat)) == 1)), (161, bv ((((applyS P (⟨1, ss, 1, 2, 3, 0, 0⟩)).1) (3 + 5 * ss.toNat)) == 1)), (160, iv 1)] (by kernel_rfl) ?_
    refine o_sp (b := (((applyS P (⟨1, ss, 1, 2, 3, 0, 0⟩)).1) (3 + 5 * ss.toNat)) == 1) 163 rfl (fun k18 => ?_) (fun q => by rw [(by rw [hS]; rfl : ((((applyS P (⟨1, ss, 1, 2, 3, 0, 0⟩)).1) (3 + 5 * ss.toNat)) == 1) = true)] at q; cases q)
    refine o_d 1 [(164, pv 3 0)] (by kernel_rfl) ?_
    refine o_unguard rfl ?_
    refine o_s (by refine run_ld (v := iv (((applyS P (⟨1, ss, 1, 2, 3, 0, 0⟩)).1) 0)) rfl rfl ?_; exact pl_r ((applyS P (⟨1, ss, 1, 2, 3, 0, 0⟩)).1) 0 rfl (by omega)) ?_
    refine o_d 1 [(166, pv 0 0)] (by kernel_rfl) ?_
    refine o_unguard rfl ?_
    refine o_s (by refine run_ld (v := iv (P 0)) rfl rfl ?_; exact pl_r P 0 rfl (by omega)) ?_
    refine o_d 4 [(8, bv ((((applyS P (⟨1, ss, 1, 2, 3, 0, 0⟩)).1) 0) == (IntKind.i64.wrap (P 0 + 1)))), (170, bv ((((applyS P (⟨1, ss, 1, 2, 3, 0, 0⟩)).1) 0) == (IntKind.i64.wrap (P 0 + 1)))), (169, bv ((((applyS P (⟨1, ss, 1, 2, 3, 0, 0⟩)).1) 0) == (IntKind.i64.wrap (P 0 + 1)))), (168, iv (IntKind.i64.wrap (P 0 + 1)))] (by kernel_rfl) ?_
    refine o_nil ?_
    refine ⟨⟨reg [(8, bv ((((applyS P (⟨1, ss, 1, 2, 3, 0, 0⟩)).1) 0) == (IntKind.i64.wrap (P 0 + 1))))], []⟩, Wk.ren [] rfl rfl (by decide) ⟨rfl, trivial⟩ trivial, ?_⟩
    refine gret ?_
    have e0 : ((((applyS P (⟨1, ss, 1, 2, 3, 0, 0⟩)).1) 0) == (IntKind.i64.wrap (P 0 + 1))) = true := by
     first | done | (rw [apply_err (by rw [hE]; decide)]; exact eqP_self _) | (rw [hE5, if_pos (by omega)]; rfl) | (rw [hV]; simp) | (rw [apply_ver (hE5.trans (if_neg (by omega)))]; simp)
    exact fin_ans [bv ((((applyS P (⟨1, ss, 1, 2, 3, 0, 0⟩)).1) 0) == (IntKind.i64.wrap (P 0 + 1)))] (resV_t rfl rfl) rfl (by rw [e0]; rfl) rfl rfl
   ·skip
    have hE : (applyS P ⟨2, ss, 0, 0, 0, 0, 0⟩).2 = 12 := (mv_k hM hs (k := 2) (by decide)).trans (by decide)
    refine seq_regs [(9, pv 0 0), (11, iv ss), (12, iv 2)] (by kernel_rfl) ?_
    refine gseq ?_
    refine greg ?_
    refine o_b 5 [(21, pv 2 0), (98, .agg #[iv 2, iv ss, iv 0, iv 0, iv 0, uv 0, uv 0]), (97, iv ss), (96, iv 2)] [cw (pl P), cw (entsL e2 ++ room zE m16), cw [iv 2, iv ss, iv 0, iv 0, iv 0, uv 0, uv 0]] (by kernel_rfl) ?_
    refine o_nil ?_
    refine seq_go ?_
    refine gseq ?_
    refine gseq ?_
    refine greg ?_
    refine o_d 2 [(100, bv false), (99, iv 2)] (by kernel_rfl) ?_
    refine o_nil ?_
    refine seq_go ?_
    refine gfalse rfl ?_
    refine gskip ?_
    refine seq_go ?_
    refine gseq ?_
    refine gseq ?_
    refine greg ?_
    refine o_d 2 [(105, bv false), (104, iv 2)] (by kernel_rfl) ?_
    refine o_nil ?_
    refine seq_go ?_
    refine gfalse rfl ?_
    refine gskip ?_
    refine seq_go ?_
    refine gseq ?_
    refine gdregD [cw (pl P), cw (entsL e2 ++ room zE m16), cw [iv 2, iv ss, iv 0, iv 0, iv 0, uv 0, uv 0], .gone, .gone, .gone, .gone, .gone, .gone, .gone] (by kernel_rfl) ?_
    refine d_n 13 13 10 [(119, pv 0 3), (118, iv ss), (117, sv 4 0 5 5), (116, pv 9 1), (115, iv 1), (114, iv 2), (113, sv 9 0 6 6), (112, sv 8 0 5 5), (111, sv 7 0 5 5), (110, sv 6 0 5 5), (109, sv 5 0 5 5), (108, sv 4 0 5 5), (107, sv 3 0 5 5)] [cw (pl P), cw (entsL e2 ++ room zE m16), cw [iv 2, iv ss, iv 0, iv 0, iv 0, uv 0, uv 0], cw [iv 1, iv (-1), iv (-1), iv (-1), iv (-1)], cw [iv (-1), iv 2, iv (-1), iv 2, iv (-1)], cw [iv (-1), iv (-1), iv 3, iv (-1), iv (-1)], cw [iv (-1), iv 4, iv (-1), iv 4, iv (-1)], cw [iv (-1), iv (-1), iv (-1), iv (-1), iv 0], cw [iv 0, iv 1, iv 2, iv 3, iv 4], cw [sv 3 0 5 5, sv 4 0 5 5, sv 5 0 5 5, sv 6 0 5 5, sv 7 0 5 5, sv 8 0 5 5]] [⟨10, [9], [], none⟩, ⟨6, [], [9], none⟩, ⟨5, [], [8], none⟩, ⟨4, [], [7], none⟩, ⟨3, [], [6], none⟩, ⟨2, [], [5], none⟩, ⟨1, [], [4], none⟩, ⟨0, [], [3], none⟩] (by kernel_rfl) rfl rfl ?_
    refine d_s rfl rfl rfl (by kernel_rfl) (by exact run_iadA (o := 3) (o' := 3 + 5 * ss.toNat) rfl rfl (by omega) (by omega)) ?_
    refine d_s rfl rfl rfl (by kernel_rfl) (by refine run_fad (o' := 3 + 5 * ss.toNat) rfl (by omega)) ?_
    refine d_s rfl rfl rfl (by kernel_rfl) (by refine run_ld (v := iv 0) rfl rfl ?_; exact (pl_r P (3 + 5 * ss.toNat) (by omega) (by omega)).trans (congrArg (fun x => some (iv x)) hM.cur)) ?_
    refine d_n 3 19 10 [(22, iv (-1)), (124, iv (-1)), (123, pv 4 0)] [cw (pl P), cw (entsL e2 ++ room zE m16), cw [iv 2, iv ss, iv 0, iv 0, iv 0, uv 0, uv 0], cw [iv 1, iv (-1), iv (-1), iv (-1), iv (-1)], cw [iv (-1), iv 2, iv (-1), iv 2, iv (-1)], cw [iv (-1), iv (-1), iv 3, iv (-1), iv (-1)], cw [iv (-1), iv 4, iv (-1), iv 4, iv (-1)], cw [iv (-1), iv (-1), iv (-1), iv (-1), iv 0], cw [iv 0, iv 1, iv 2, iv 3, iv 4], cw [sv 3 0 5 5, sv 4 0 5 5, sv 5 0 5 5, sv 6 0 5 5, sv 7 0 5 5, sv 8 0 5 5]] [⟨17, [4], [], none⟩, ⟨15, [0], [], none⟩, ⟨10, [9], [], none⟩, ⟨6, [], [9], none⟩, ⟨5, [], [8], none⟩, ⟨4, [], [7], none⟩, ⟨3, [], [6], none⟩, ⟨2, [], [5], none⟩, ⟨1, [], [4], none⟩, ⟨0, [], [3], none⟩] (by kernel_rfl) rfl rfl ?_
    refine d_nil ?_
    refine ⟨⟨reg [(22, iv (-1)), (21, pv 2 0), (9, pv 0 0), (11, iv ss), (12, iv 2)], [cw (pl P), cw (entsL e2 ++ room zE m16), cw [iv 2, iv ss, iv 0, iv 0, iv 0, uv 0, uv 0]]⟩, Wk.ren [0, 1, 2] rfl rfl (by decide) ⟨rfl, ⟨rfl, ⟨rfl, ⟨rfl, ⟨rfl, trivial⟩⟩⟩⟩⟩ ⟨.inl (ren_cells (pl_scl P)), ⟨.inl (ren_cells (entsR_scl e2 m16)), ⟨.inl rfl, trivial⟩⟩⟩, ?_⟩
    refine gseq ?_
    refine greg ?_
    refine o_s (by refine run_ld (v := poolV P) rfl rfl ?_; exact pl_all P) ?_
    refine o_d 1 [(127, .agg #[iv 2, iv ss, iv 0, iv 0, iv 0, uv 0, uv 0])] (by kernel_rfl) ?_
    refine o_cl (callV (ApplyC h_pool_Apply h_pool_may h_pool_held h_pool_fits h_pool_Check h_pool_placed h_cookie_Next P (⟨2, ss, 0, 0, 0, 0, 0⟩)) rfl (all_cons (poolV_vpf P) (all_cons rfl rfl)) (all_cons (poolV_aggf ((applyS P (⟨2, ss, 0, 0, 0, 0, 0⟩)).1)) (all_cons rfl rfl)) ?_)
    refine o_b 4 [(23, pv 3 0), (130, iv ((applyS P (⟨2, ss, 0, 0, 0, 0, 0⟩)).2)), (129, poolV ((applyS P (⟨2, ss, 0, 0, 0, 0, 0⟩)).1)), (125, .tuple #[poolV ((applyS P (⟨2, ss, 0, 0, 0, 0, 0⟩)).1), iv ((applyS P (⟨2, ss, 0, 0, 0, 0, 0⟩)).2)])] [cw (pl P), cw (entsL e2 ++ room zE m16), cw [iv 2, iv ss, iv 0, iv 0, iv 0, uv 0, uv 0], cw (pl zeroP)] (by kernel_rfl) ?_
    refine o_s0 (by refine run_st (c' := pl ((applyS P (⟨2, ss, 0, 0, 0, 0, 0⟩)).1)) rfl rfl rfl ?_ ?_ ?_; exact pl_length _; exact pl_le (by omega); exact splice_pl0 zeroP ((applyS P (⟨2, ss, 0, 0, 0, 0, 0⟩)).1)) ?_
    refine o_b 1 [(24, iv ((applyS P (⟨2, ss, 0, 0, 0, 0, 0⟩)).2))] [cw (pl P), cw (entsL e2 ++ room zE m16), cw [iv 2, iv ss, iv 0, iv 0, iv 0, uv 0, uv 0], cw (pl ((applyS P (⟨2, ss, 0, 0, 0, 0, 0⟩)).1))] (by kernel_rfl) ?_
    refine o_nil ?_
    refine seq_go ?_
    refine gseq ?_
    refine gseq ?_
    refine greg ?_
    refine o_d 2 [(132, bv true), (131, iv (-1))] (by kernel_rfl) ?_
    refine o_nil ?_
    refine seq_go ?_
    refine gtrue rfl ?_
    refine gseq ?_
    refine greg ?_
    refine o_d 3 [(135, bv (((applyS P (⟨2, ss, 0, 0, 0, 0, 0⟩)).2) == 12)), (134, bv (((applyS P (⟨2, ss, 0, 0, 0, 0, 0⟩)).2) == 12)), (133, iv ((applyS P (⟨2, ss, 0, 0, 0, 0, 0⟩)).2))] (by kernel_rfl) ?_
    refine o_sp (b := ((applyS P (⟨2, ss, 0, 0, 0, 0, 0⟩)).2) == 12) 135 rfl (fun k19 => ?_) (fun q => by rw [(by rw [hE]; rfl : (((applyS P (⟨2, ss, 0, 0, 0, 0, 0⟩)).2) == 12) = true)] at q; cases q)
    refine o_unguard rfl ?_
    refine o_s (by refine run_ld (v := poolV ((applyS P (⟨2, ss, 0, 0, 0, 0, 0⟩)).1)) rfl rfl ?_; exact pl_all ((applyS P (⟨2, ss, 0, 0, 0, 0, 0⟩)).1)) ?_
    refine o_unguard rfl ?_
    refine o_s (by refine run_bld (c := pl zeroP) ?_; exact bld_zP) ?_
    refine o_unguard rfl ?_
    refine o_s (by refine run_eqa (a := ⟨pl ((applyS P (⟨2, ss, 0, 0, 0, 0, 0⟩)).1)⟩) (b := ⟨pl zeroP⟩) (r := eqP ((applyS P (⟨2, ss, 0, 0, 0, 0, 0⟩)).1) zeroP) (R := eqP ((applyS P (⟨2, ss, 0, 0, 0, 0, 0⟩)).1) zeroP) ?_ rfl; exact eqP_run ((applyS P (⟨2, ss, 0, 0, 0, 0, 0⟩)).1) zeroP rfl rfl) ?_
    refine o_d 2 [(8, bv (eqP ((applyS P (⟨2, ss, 0, 0, 0, 0, 0⟩)).1) zeroP)), (139, bv (eqP ((applyS P (⟨2, ss, 0, 0, 0, 0, 0⟩)).1) zeroP))] (by kernel_rfl) ?_
    refine o_nil ?_
    refine ⟨⟨reg [(8, bv (eqP ((applyS P (⟨2, ss, 0, 0, 0, 0, 0⟩)).1) zeroP))], []⟩, Wk.ren [] rfl rfl (by decide) ⟨rfl, trivial⟩ trivial, ?_⟩
    refine gret ?_
    have e0 : (eqP ((applyS P (⟨2, ss, 0, 0, 0, 0, 0⟩)).1) zeroP) = true := by
     first | done | (rw [apply_err (by rw [hE]; decide)]; exact eqP_self _) | (rw [hE5, if_pos (by omega)]; rfl) | (rw [hV]; simp) | (rw [apply_ver (hE5.trans (if_neg (by omega)))]; simp)
    exact fin_ans [bv (eqP ((applyS P (⟨2, ss, 0, 0, 0, 0, 0⟩)).1) zeroP)] (resV_t rfl rfl) rfl (by rw [e0]; rfl) rfl rfl
   ·skip
    have hE : (applyS P ⟨3, ss, 0, 0, 0, 0, 0⟩).2 = 12 := (mv_k hM hs (k := 3) (by decide)).trans (by decide)
    refine seq_regs [(9, pv 0 0), (11, iv ss), (12, iv 3)] (by kernel_rfl) ?_
    refine gseq ?_
    refine greg ?_
    refine o_b 5 [(21, pv 2 0), (98, .agg #[iv 3, iv ss, iv 0, iv 0, iv 0, uv 0, uv 0]), (97, iv ss), (96, iv 3)] [cw (pl P), cw (entsL e2 ++ room zE m16), cw [iv 3, iv ss, iv 0, iv 0, iv 0, uv 0, uv 0]] (by kernel_rfl) ?_
    refine o_nil ?_
    refine seq_go ?_
    refine gseq ?_
    refine gseq ?_
    refine greg ?_
    refine o_d 2 [(100, bv false), (99, iv 3)] (by kernel_rfl) ?_
    refine o_nil ?_
    refine seq_go ?_
    refine gfalse rfl ?_
    refine gskip ?_
    refine seq_go ?_
    refine gseq ?_
    refine gseq ?_
    refine greg ?_
    refine o_d 2 [(105, bv false), (104, iv 3)] (by kernel_rfl) ?_
    refine o_nil ?_
    refine seq_go ?_
    refine gfalse rfl ?_
    refine gskip ?_
    refine seq_go ?_
    refine gseq ?_
    refine gdregD [cw (pl P), cw (entsL e2 ++ room zE m16), cw [iv 3, iv ss, iv 0, iv 0, iv 0, uv 0, uv 0], .gone, .gone, .gone, .gone, .gone, .gone, .gone] (by kernel_rfl) ?_
    refine d_n 13 13 10 [(119, pv 0 3), (118, iv ss), (117, sv 5 0 5 5), (116, pv 9 2), (115, iv 2), (114, iv 3), (113, sv 9 0 6 6), (112, sv 8 0 5 5), (111, sv 7 0 5 5), (110, sv 6 0 5 5), (109, sv 5 0 5 5), (108, sv 4 0 5 5), (107, sv 3 0 5 5)] [cw (pl P), cw (entsL e2 ++ room zE m16), cw [iv 3, iv ss, iv 0, iv 0, iv 0, uv 0, uv 0], cw [iv 1, iv (-1), iv (-1), iv (-1), iv (-1)], cw [iv (-1), iv 2, iv (-1), iv 2, iv (-1)], cw [iv (-1), iv (-1), iv 3, iv (-1), iv (-1)], cw [iv (-1), iv 4, iv (-1), iv 4, iv (-1)], cw [iv (-1), iv (-1), iv (-1), iv (-1), iv 0], cw [iv 0, iv 1, iv 2, iv 3, iv 4], cw [sv 3 0 5 5, sv 4 0 5 5, sv 5 0 5 5, sv 6 0 5 5, sv 7 0 5 5, sv 8 0 5 5]] [⟨10, [9], [], none⟩, ⟨6, [], [9], none⟩, ⟨5, [], [8], none⟩, ⟨4, [], [7], none⟩, ⟨3, [], [6], none⟩, ⟨2, [], [5], none⟩, ⟨1, [], [4], none⟩, ⟨0, [], [3], none⟩] (by kernel_rfl) rfl rfl ?_
    refine d_s rfl rfl rfl (by kernel_rfl) (by exact run_iadA (o := 3) (o' := 3 + 5 * ss.toNat) rfl rfl (by omega) (by omega)) ?_
    refine d_s rfl rfl rfl (by kernel_rfl) (by refine run_fad (o' := 3 + 5 * ss.toNat) rfl (by omega)) ?_
    refine d_s rfl rfl rfl (by kernel_rfl) (by refine run_ld (v := iv 0) rfl rfl ?_; exact (pl_r P (3 + 5 * ss.toNat) (by omega) (by omega)).trans (congrArg (fun x => some (iv x)) hM.cur)) ?_
    refine d_n 3 19 10 [(22, iv (-1)), (124, iv (-1)), (123, pv 5 0)] [cw (pl P), cw (entsL e2 ++ room zE m16), cw [iv 3, iv ss, iv 0, iv 0, iv 0, uv 0, uv 0], cw [iv 1, iv (-1), iv (-1), iv (-1), iv (-1)], cw [iv (-1), iv 2, iv (-1), iv 2, iv (-1)], cw [iv (-1), iv (-1), iv 3, iv (-1), iv (-1)], cw [iv (-1), iv 4, iv (-1), iv 4, iv (-1)], cw [iv (-1), iv (-1), iv (-1), iv (-1), iv 0], cw [iv 0, iv 1, iv 2, iv 3, iv 4], cw [sv 3 0 5 5, sv 4 0 5 5, sv 5 0 5 5, sv 6 0 5 5, sv 7 0 5 5, sv 8 0 5 5]] [⟨17, [5], [], none⟩, ⟨15, [0], [], none⟩, ⟨10, [9], [], none⟩, ⟨6, [], [9], none⟩, ⟨5, [], [8], none⟩, ⟨4, [], [7], none⟩, ⟨3, [], [6], none⟩, ⟨2, [], [5], none⟩, ⟨1, [], [4], none⟩, ⟨0, [], [3], none⟩] (by kernel_rfl) rfl rfl ?_
    refine d_nil ?_
    refine ⟨⟨reg [(22, iv (-1)), (21, pv 2 0), (9, pv 0 0), (11, iv ss), (12, iv 3)], [cw (pl P), cw (entsL e2 ++ room zE m16), cw [iv 3, iv ss, iv 0, iv 0, iv 0, uv 0, uv 0]]⟩, Wk.ren [0, 1, 2] rfl rfl (by decide) ⟨rfl, ⟨rfl, ⟨rfl, ⟨rfl, ⟨rfl, trivial⟩⟩⟩⟩⟩ ⟨.inl (ren_cells (pl_scl P)), ⟨.inl (ren_cells (entsR_scl e2 m16)), ⟨.inl rfl, trivial⟩⟩⟩, ?_⟩
    refine gseq ?_
    refine greg ?_
    refine o_s (by refine run_ld (v := poolV P) rfl rfl ?_; exact pl_all P) ?_
    refine o_d 1 [(127, .agg #[iv 3, iv ss, iv 0, iv 0, iv 0, uv 0, uv 0])] (by kernel_rfl) ?_
    refine o_cl (callV (ApplyC h_pool_Apply h_pool_may h_pool_held h_pool_fits h_pool_Check h_pool_placed h_cookie_Next P (⟨3, ss, 0, 0, 0, 0, 0⟩)) rfl (all_cons (poolV_vpf P) (all_cons rfl rfl)) (all_cons (poolV_aggf ((applyS P (⟨3, ss, 0, 0, 0, 0, 0⟩)).1)) (all_cons rfl rfl)) ?_)
    refine o_b 4 [(23, pv 3 0), (130, iv ((applyS P (⟨3, ss, 0, 0, 0, 0, 0⟩)).2)), (129, poolV ((applyS P (⟨3, ss, 0, 0, 0, 0, 0⟩)).1)), (125, .tuple #[poolV ((applyS P (⟨3, ss, 0, 0, 0, 0, 0⟩)).1), iv ((applyS P (⟨3, ss, 0, 0, 0, 0, 0⟩)).2)])] [cw (pl P), cw (entsL e2 ++ room zE m16), cw [iv 3, iv ss, iv 0, iv 0, iv 0, uv 0, uv 0], cw (pl zeroP)] (by kernel_rfl) ?_
    refine o_s0 (by refine run_st (c' := pl ((applyS P (⟨3, ss, 0, 0, 0, 0, 0⟩)).1)) rfl rfl rfl ?_ ?_ ?_; exact pl_length _; exact pl_le (by omega); exact splice_pl0 zeroP ((applyS P (⟨3, ss, 0, 0, 0, 0, 0⟩)).1)) ?_
    refine o_b 1 [(24, iv ((applyS P (⟨3, ss, 0, 0, 0, 0, 0⟩)).2))] [cw (pl P), cw (entsL e2 ++ room zE m16), cw [iv 3, iv ss, iv 0, iv 0, iv 0, uv 0, uv 0], cw (pl ((applyS P (⟨3, ss, 0, 0, 0, 0, 0⟩)).1))] (by kernel_rfl) ?_
    refine o_nil ?_
    refine seq_go ?_
    refine gseq ?_
    refine gseq ?_
    refine greg ?_
    refine o_d 2 [(132, bv true), (131, iv (-1))] (by kernel_rfl) ?_
    refine o_nil ?_
    refine seq_go ?_
    refine gtrue rfl ?_
    refine gseq ?_
    refine greg ?_
    refine o_d 3 [(135, bv (((applyS P (⟨3, ss, 0, 0, 0, 0, 0⟩)).2) == 12)), (134, bv (((applyS P (⟨3, ss, 0, 0, 0, 0, 0⟩)).2) == 12)), (133, iv ((applyS P (⟨3, ss, 0, 0, 0, 0, 0⟩)).2))] (by kernel_rfl) ?_
    refine o_sp (b := ((applyS P (⟨3, ss, 0, 0, 0, 0, 0⟩)).2) == 12) 135 rfl (fun k20 => ?_) (fun q => by rw [(by rw [hE]; rfl : (((applyS P (⟨3, ss, 0, 0, 0, 0, 0⟩)).2) == 12) = true)] at q; cases q)
    refine o_unguard rfl ?_
    refine o_s (by refine run_ld (v := poolV ((applyS P (⟨3, ss, 0, 0, 0, 0, 0⟩)).1)) rfl rfl ?_; exact pl_all ((applyS P (⟨3, ss, 0, 0, 0, 0, 0⟩)).1)) ?_
    refine o_unguard rfl ?_
    refine o_s (by refine run_bld (c := pl zeroP) ?_; exact bld_zP) ?_
    refine o_unguard rfl ?_
    refine o_s (by refine run_eqa (a := ⟨pl ((applyS P (⟨3, ss, 0, 0, 0, 0, 0⟩)).1)⟩) (b := ⟨pl zeroP⟩) (r := eqP ((applyS P (⟨3, ss, 0, 0, 0, 0, 0⟩)).1) zeroP) (R := eqP ((applyS P (⟨3, ss, 0, 0, 0, 0, 0⟩)).1) zeroP) ?_ rfl; exact eqP_run ((applyS P (⟨3, ss, 0, 0, 0, 0, 0⟩)).1) zeroP rfl rfl) ?_
    refine o_d 2 [(8, bv (eqP ((applyS P (⟨3, ss, 0, 0, 0, 0, 0⟩)).1) zeroP)), (139, bv (eqP ((applyS P (⟨3, ss, 0, 0, 0, 0, 0⟩)).1) zeroP))] (by kernel_rfl) ?_
    refine o_nil ?_
    refine ⟨⟨reg [(8, bv (eqP ((applyS P (⟨3, ss, 0, 0, 0, 0, 0⟩)).1) zeroP))], []⟩, Wk.ren [] rfl rfl (by decide) ⟨rfl, trivial⟩ trivial, ?_⟩
    refine gret ?_
    have e0 : (eqP ((applyS P (⟨3, ss, 0, 0, 0, 0, 0⟩)).1) zeroP) = true := by
     first | done | (rw [apply_err (by rw [hE]; decide)]; exact eqP_self _) | (rw [hE5, if_pos (by omega)]; rfl) | (rw [hV]; simp) | (rw [apply_ver (hE5.trans (if_neg (by omega)))]; simp)
    exact fin_ans [bv (eqP ((applyS P (⟨3, ss, 0, 0, 0, 0, 0⟩)).1) zeroP)] (resV_t rfl rfl) rfl (by rw [e0]; rfl) rfl rfl
   ·skip
    have hE : (applyS P ⟨4, ss, 0, 0, 0, 0, 0⟩).2 = 12 := (mv_k hM hs (k := 4) (by decide)).trans (by decide)
    refine seq_regs [(9, pv 0 0), (11, iv ss), (12, iv 4)] (by kernel_rfl) ?_
    refine gseq ?_
    refine greg ?_
    refine o_b 5 [(21, pv 2 0), (98, .agg #[iv 4, iv ss, iv 0, iv 0, iv 0, uv 0, uv 0]), (97, iv ss), (96, iv 4)] [cw (pl P), cw (entsL e2 ++ room zE m16), cw [iv 4, iv ss, iv 0, iv 0, iv 0, uv 0, uv 0]] (by kernel_rfl) ?_
    refine o_nil ?_
    refine seq_go ?_
    refine gseq ?_
    refine gseq ?_
    refine greg ?_
    refine o_d 2 [(100, bv false), (99, iv 4)] (by kernel_rfl) ?_
    refine o_nil ?_
    refine seq_go ?_
    refine gfalse rfl ?_
    refine gskip ?_
    refine seq_go ?_
    refine gseq ?_
    refine gseq ?_
    refine greg ?_
    refine o_d 2 [(105, bv false), (104, iv 4)] (by kernel_rfl) ?_
    refine o_nil ?_
    refine seq_go ?_
    refine gfalse rfl ?_
    refine gskip ?_
    refine seq_go ?_
    refine gseq ?_
    refine gdregD [cw (pl P), cw (entsL e2 ++ room zE m16), cw [iv 4, iv ss, iv 0, iv 0, iv 0, uv 0, uv 0], .gone, .gone, .gone, .gone, .gone, .gone, .gone] (by kernel_rfl) ?_
    refine d_n 13 13 10 [(119, pv 0 3), (118, iv ss), (117, sv 6 0 5 5), (116, pv 9 3), (115, iv 3), (114, iv 4), (113, sv 9 0 6 6), (112, sv 8 0 5 5), (111, sv 7 0 5 5), (110, sv 6 0 5 5), (109, sv 5 0 5 5), (108, sv 4 0 5 5), (107, sv 3 0 5 5)] [cw (pl P), cw (entsL e2 ++ room zE m16), cw [iv 4, iv ss, iv 0, iv 0, iv 0, uv 0, uv 0], cw [iv 1, iv (-1), iv (-1), iv (-1), iv (-1)], cw [iv (-1), iv 2, iv (-1), iv 2, iv (-1)], cw [iv (-1), iv (-1), iv 3, iv (-1), iv (-1)], cw [iv (-1), iv 4, iv (-1), iv 4, iv (-1)], cw [iv (-1), iv (-1), iv (-1), iv (-1), iv 0], cw [iv 0, iv 1, iv 2, iv 3, iv 4], cw [sv 3 0 5 5, sv 4 0 5 5, sv 5 0 5 5, sv 6 0 5 5, sv 7 0 5 5, sv 8 0 5 5]] [⟨10, [9], [], none⟩, ⟨6, [], [9], none⟩, ⟨5, [], [8], none⟩, ⟨4, [], [7], none⟩, ⟨3, [], [6], none⟩, ⟨2, [], [5], none⟩, ⟨1, [], [4], none⟩, ⟨0, [], [3], none⟩] (by kernel_rfl) rfl rfl ?_
    refine d_s rfl rfl rfl (by kernel_rfl) (by exact run_iadA (o := 3) (o' := 3 + 5 * ss.toNat) rfl rfl (by omega) (by omega)) ?_
    refine d_s rfl rfl rfl (by kernel_rfl) (by refine run_fad (o' := 3 + 5 * ss.toNat) rfl (by omega)) ?_
    refine d_s rfl rfl rfl (by kernel_rfl) (by refine run_ld (v := iv 0) rfl rfl ?_; exact (pl_r P (3 + 5 * ss.toNat) (by omega) (by omega)).trans (congrArg (fun x => some (iv x)) hM.cur)) ?_
    refine d_n 3 19 10 [(22, iv (-1)), (124, iv (-1)), (123, pv 6 0)] [cw (pl P), cw (entsL e2 ++ room zE m16), cw [iv 4, iv ss, iv 0, iv 0, iv 0, uv 0, uv 0], cw [iv 1, iv (-1), iv (-1), iv (-1), iv (-1)], cw [iv (-1), iv 2, iv (-1), iv 2, iv (-1)], cw [iv (-1), iv (-1), iv 3, iv (-1), iv (-1)], cw [iv (-1), iv 4, iv (-1), iv 4, iv (-1)], cw [iv (-1), iv (-1), iv (-1), iv (-1), iv 0], cw [iv 0, iv 1, iv 2, iv 3, iv 4], cw [sv 3 0 5 5, sv 4 0 5 5, sv 5 0 5 5, sv 6 0 5 5, sv 7 0 5 5, sv 8 0 5 5]] [⟨17, [6], [], none⟩, ⟨15, [0], [], none⟩, ⟨10, [9], [], none⟩, ⟨6, [], [9], none⟩, ⟨5, [], [8], none⟩, ⟨4, [], [7], none⟩, ⟨3, [], [6], none⟩, ⟨2, [], [5], none⟩, ⟨1, [], [4], none⟩, ⟨0, [], [3], none⟩] (by kernel_rfl) rfl rfl ?_
    refine d_nil ?_
    refine ⟨⟨reg [(22, iv (-1)), (21, pv 2 0), (9, pv 0 0), (11, iv ss), (12, iv 4)], [cw (pl P), cw (entsL e2 ++ room zE m16), cw [iv 4, iv ss, iv 0, iv 0, iv 0, uv 0, uv 0]]⟩, Wk.ren [0, 1, 2] rfl rfl (by decide) ⟨rfl, ⟨rfl, ⟨rfl, ⟨rfl, ⟨rfl, trivial⟩⟩⟩⟩⟩ ⟨.inl (ren_cells (pl_scl P)), ⟨.inl (ren_cells (entsR_scl e2 m16)), ⟨.inl rfl, trivial⟩⟩⟩, ?_⟩
    refine gseq ?_
    refine greg ?_
    refine o_s (by refine run_ld (v := poolV P) rfl rfl ?_; exact pl_all P) ?_
    refine o_d 1 [(127, .agg #[iv 4, iv ss, iv 0, iv 0, iv 0, uv 0, uv 0])] (by kernel_rfl) ?_
    refine o_cl (callV (ApplyC h_pool_Apply h_pool_may h_pool_held h_pool_fits h_pool_Check h_pool_placed h_cookie_Next P (⟨4, ss, 0, 0, 0, 0, 0⟩)) rfl (all_cons (poolV_vpf P) (all_cons rfl rfl)) (all_cons (poolV_aggf ((applyS P (⟨4, ss, 0, 0, 0, 0, 0⟩)).1)) (all_cons rfl rfl)) ?_)
    refine o_b 4 [(23, pv 3 0), (130, iv ((applyS P (⟨4, ss, 0, 0, 0, 0, 0⟩)).2)), (129, poolV ((applyS P (⟨4, ss, 0, 0, 0, 0, 0⟩)).1)), (125, .tuple #[poolV ((applyS P (⟨4, ss, 0, 0, 0, 0, 0⟩)).1), iv ((applyS P (⟨4, ss, 0, 0, 0, 0, 0⟩)).2)])] [cw (pl P), cw (entsL e2 ++ room zE m16), cw [iv 4, iv ss, iv 0, iv 0, iv 0, uv 0, uv 0], cw (pl zeroP)] (by kernel_rfl) ?_
    refine o_s0 (by refine run_st (c' := pl ((applyS P (⟨4, ss, 0, 0, 0, 0, 0⟩)).1)) rfl rfl rfl ?_ ?_ ?_; exact pl_length _; exact pl_le (by omega); exact splice_pl0 zeroP ((applyS P (⟨4, ss, 0, 0, 0, 0, 0⟩)).1)) ?_
    refine o_b 1 [(24, iv ((applyS P (⟨4, ss, 0, 0, 0, 0, 0⟩)).2))] [cw (pl P), cw (entsL e2 ++ room zE m16), cw [iv 4, iv ss, iv 0, iv 0, iv 0, uv 0, uv 0], cw (pl ((applyS P (⟨4, ss, 0, 0, 0, 0, 0⟩)).1))] (by kernel_rfl) ?_
    refine o_nil ?_
    refine seq_go ?_
    refine gseq ?_
    refine gseq ?_
    refine greg ?_
    refine o_d 2 [(132, bv true), (131, iv (-1))] (by kernel_rfl) ?_
    refine o_nil ?_
    refine seq_go ?_
    refine gtrue rfl ?_
    refine gseq ?_
    refine greg ?_
    refine o_d 3 [(135, bv (((applyS P (⟨4, ss, 0, 0, 0, 0, 0⟩)).2) == 12)), (134, bv (((applyS P (⟨4, ss, 0, 0, 0, 0, 0⟩)).2) == 12)), (133, iv ((applyS P (⟨4, ss, 0, 0, 0, 0, 0⟩)).2))] (by kernel_rfl) ?_
    refine o_sp (b := ((applyS P (⟨4, ss, 0, 0, 0, 0, 0⟩)).2) == 12) 135 rfl (fun k21 => ?_) (fun q => by rw [(by rw [hE]; rfl : (((applyS P (⟨4, ss, 0, 0, 0, 0, 0⟩)).2) == 12) = true)] at q; cases q)
    refine o_unguard rfl ?_
    refine o_s (by refine run_ld (v := poolV ((applyS P (⟨4, ss, 0, 0, 0, 0, 0⟩)).1)) rfl rfl ?_; exact pl_all ((applyS P (⟨4, ss, 0, 0, 0, 0, 0⟩)).1)) ?_
    refine o_unguard rfl ?_
    refine o_s (by refine run_bld (c := pl zeroP) ?_; exact bld_zP) ?_
    refine o_unguard rfl ?_
    refine o_s (by refine run_eqa (a := ⟨pl ((applyS P (⟨4, ss, 0, 0, 0, 0, 0⟩)).1)⟩) (b := ⟨pl zeroP⟩) (r := eqP ((applyS P (⟨4, ss, 0, 0, 0, 0, 0⟩)).1) zeroP) (R := eqP ((applyS P (⟨4, ss, 0, 0, 0, 0, 0⟩)).1) zeroP) ?_ rfl; exact eqP_run ((applyS P (⟨4, ss, 0, 0, 0, 0, 0⟩)).1) zeroP rfl rfl) ?_
    refine o_d 2 [(8, bv (eqP ((applyS P (⟨4, ss, 0, 0, 0, 0, 0⟩)).1) zeroP)), (139, bv (eqP ((applyS P (⟨4, ss, 0, 0, 0, 0, 0⟩)).1) zeroP))] (by kernel_rfl) ?_
    refine o_nil ?_
    refine ⟨⟨reg [(8, bv (eqP ((applyS P (⟨4, ss, 0, 0, 0, 0, 0⟩)).1) zeroP))], []⟩, Wk.ren [] rfl rfl (by decide) ⟨rfl, trivial⟩ trivial, ?_⟩
    refine gret ?_
    have e0 : (eqP ((applyS P (⟨4, ss, 0, 0, 0, 0, 0⟩)).1) zeroP) = true := by
     first | done | (rw [apply_err (by rw [hE]; decide)]; exact eqP_self _) | (rw [hE5, if_pos (by omega)]; rfl) | (rw [hV]; simp) | (rw [apply_ver (hE5.trans (if_neg (by omega)))]; simp)
    exact fin_ans [bv (eqP ((applyS P (⟨4, ss, 0, 0, 0, 0, 0⟩)).1) zeroP)] (resV_t rfl rfl) rfl (by rw [e0]; rfl) rfl rfl
   ·skip
    have hE : (applyS P ⟨5, ss, 0, 0, 0, 0, 0⟩).2 = 12 := (mv_free hM hs (by omega)).trans (if_neg (by decide))
    refine seq_regs [(9, pv 0 0), (11, iv ss), (12, iv 5)] (by kernel_rfl) ?_
    refine gseq ?_
    refine greg ?_
    refine o_b 5 [(21, pv 2 0), (98, .agg #[iv 5, iv ss, iv 0, iv 0, iv 0, uv 0, uv 0]), (97, iv ss), (96, iv 5)] [cw (pl P), cw (entsL e2 ++ room zE m16), cw [iv 5, iv ss, iv 0, iv 0, iv 0, uv 0, uv 0]] (by kernel_rfl) ?_
    refine o_nil ?_
    refine seq_go ?_
    refine gseq ?_
    refine gseq ?_
    refine greg ?_
    refine o_d 2 [(100, bv false), (99, iv 5)] (by kernel_rfl) ?_
    refine o_nil ?_
    refine seq_go ?_
    refine gfalse rfl ?_
    refine gskip ?_
    refine seq_go ?_
    refine gseq ?_
    refine gseq ?_
    refine greg ?_
    refine o_d 2 [(105, bv false), (104, iv 5)] (by kernel_rfl) ?_
    refine o_nil ?_
    refine seq_go ?_
    refine gfalse rfl ?_
    refine gskip ?_
    refine seq_go ?_
    refine gseq ?_
    refine gdregD [cw (pl P), cw (entsL e2 ++ room zE m16), cw [iv 5, iv ss, iv 0, iv 0, iv 0, uv 0, uv 0], .gone, .gone, .gone, .gone, .gone, .gone, .gone] (by kernel_rfl) ?_
    refine d_n 13 13 10 [(119, pv 0 3), (118, iv ss), (117, sv 7 0 5 5), (116, pv 9 4), (115, iv 4), (114, iv 5), (113, sv 9 0 6 6), (112, sv 8 0 5 5), (111, sv 7 0 5 5), (110, sv 6 0 5 5), (109, sv 5 0 5 5), (108, sv 4 0 5 5), (107, sv 3 0 5 5)] [cw (pl P), cw (entsL e2 ++ room zE m16), cw [iv 5, iv ss, iv 0, iv 0, iv 0, uv 0, uv 0], cw [iv 1, iv (-1), iv (-1), iv (-1), iv (-1)], cw [iv (-1), iv 2, iv (-1), iv 2, iv (-1)], cw [iv (-1), iv (-1), iv 3, iv (-1), iv (-1)], cw [iv (-1), iv 4, iv (-1), iv 4, iv (-1)], cw [iv (-1), iv (-1), iv (-1), iv (-1), iv 0], cw [iv 0, iv 1, iv 2, iv 3, iv 4], cw [sv 3 0 5 5, sv 4 0 5 5, sv 5 0 5 5, sv 6 0 5 5, sv 7 0 5 5, sv 8 0 5 5]] [⟨10, [9], [], none⟩, ⟨6, [], [9], none⟩, ⟨5, [], [8], none⟩, ⟨4, [], [7], none⟩, ⟨3, [], [6], none⟩, ⟨2, [], [5], none⟩, ⟨1, [], [4], none⟩, ⟨0, [], [3], none⟩] (by kernel_rfl) rfl rfl ?_
    refine d_s rfl rfl rfl (by kernel_rfl) (by exact run_iadA (o := 3) (o' := 3 + 5 * ss.toNat) rfl rfl (by omega) (by omega)) ?_
    refine d_s rfl rfl rfl (by kernel_rfl) (by refine run_fad (o' := 3 + 5 * ss.toNat) rfl (by omega)) ?_
    refine d_s rfl rfl rfl (by kernel_rfl) (by refine run_ld (v := iv 0) rfl rfl ?_; exact (pl_r P (3 + 5 * ss.toNat) (by omega) (by omega)).trans (congrArg (fun x => some (iv x)) hM.cur)) ?_
    refine d_n 3 19 10 [(22, iv (-1)), (124, iv (-1)), (123, pv 7 0)] [cw (pl P), cw (entsL e2 ++ room zE m16), cw [iv 5, iv ss, iv 0, iv 0, iv 0, uv 0, uv 0], cw [iv 1, iv (-1), iv (-1), iv (-1), iv (-1)], cw [iv (-1), iv 2, iv (-1), iv 2, iv (-1)], cw [iv (-1), iv (-1), iv 3, iv (-1), iv (-1)], cw [iv (-1), iv 4, iv (-1), iv 4, iv (-1)], cw [iv (-1), iv (-1), iv (-1), iv (-1), iv 0], cw [iv 0, iv 1, iv 2, iv 3, iv 4], cw [sv 3 0 5 5, sv 4 0 5 5, sv 5 0 5 5, sv 6 0 5 5, sv 7 0 5 5, sv 8 0 5 5]] [⟨17, [7], [], none⟩, ⟨15, [0], [], none⟩, ⟨10, [9], [], none⟩, ⟨6, [], [9], none⟩, ⟨5, [], [8], none⟩, ⟨4, [], [7], none⟩, ⟨3, [], [6], none⟩, ⟨2, [], [5], none⟩, ⟨1, [], [4], none⟩, ⟨0, [], [3], none⟩] (by kernel_rfl) rfl rfl ?_
    refine d_nil ?_
    refine ⟨⟨reg [(22, iv (-1)), (21, pv 2 0), (9, pv 0 0), (11, iv ss), (12, iv 5)], [cw (pl P), cw (entsL e2 ++ room zE m16), cw [iv 5, iv ss, iv 0, iv 0, iv 0, uv 0, uv 0]]⟩, Wk.ren [0, 1, 2] rfl rfl (by decide) ⟨rfl, ⟨rfl, ⟨rfl, ⟨rfl, ⟨rfl, trivial⟩⟩⟩⟩⟩ ⟨.inl (ren_cells (pl_scl P)), ⟨.inl (ren_cells (entsR_scl e2 m16)), ⟨.inl rfl, trivial⟩⟩⟩, ?_⟩
    refine gseq ?_
    refine greg ?_
    refine o_s (by refine run_ld (v := poolV P) rfl rfl ?_; exact pl_all P) ?_
    refine o_d 1 [(127, .agg #[iv 5, iv ss, iv 0, iv 0, iv 0, uv 0, uv 0])] (by kernel_rfl) ?_
    refine o_cl (callV (ApplyC h_pool_Apply h_pool_may h_pool_held h_pool_fits h_pool_Check h_pool_placed h_cookie_Next P (⟨5, ss, 0, 0, 0, 0, 0⟩)) rfl (all_cons (poolV_vpf P) (all_cons rfl rfl)) (all_cons (poolV_aggf ((applyS P (⟨5, ss, 0, 0, 0, 0, 0⟩)).1)) (all_cons rfl rfl)) ?_)
    refine o_b 4 [(23, pv 3 0), (130, iv ((applyS P (⟨5, ss, 0, 0, 0, 0, 0⟩)).2)), (129, poolV ((applyS P (⟨5, ss, 0, 0, 0, 0, 0⟩)).1)), (125, .tuple #[poolV ((applyS P (⟨5, ss, 0, 0, 0, 0, 0⟩)).1), iv ((applyS P (⟨5, ss, 0, 0, 0, 0, 0⟩)).2)])] [cw (pl P), cw (entsL e2 ++ room zE m16), cw [iv 5, iv ss, iv 0, iv 0, iv 0, uv 0, uv 0], cw (pl zeroP)] (by kernel_rfl) ?_
    refine o_s0 (by refine run_st (c' := pl ((applyS P (⟨5, ss, 0, 0, 0, 0, 0⟩)).1)) rfl rfl rfl ?_ ?_ ?_; exact pl_length _; exact pl_le (by omega); exact splice_pl0 zeroP ((applyS P (⟨5, ss, 0, 0, 0, 0, 0⟩)).1)) ?_
    refine o_b 1 [(24, iv ((applyS P (⟨5, ss, 0, 0, 0, 0, 0⟩)).2))] [cw (pl P), cw (entsL e2 ++ room zE m16), cw [iv 5, iv ss, iv 0, iv 0, iv 0, uv 0, uv 0], cw (pl ((applyS P (⟨5, ss, 0, 0, 0, 0, 0⟩)).1))] (by kernel_rfl) ?_
    refine o_nil ?_
    refine seq_go ?_
    refine gseq ?_
    refine gseq ?_
    refine greg ?_
    refine o_d 2 [(132, bv true), (131, iv (-1))] (by kernel_rfl) ?_
    refine o_nil ?_
    refine seq_go ?_
    refine gtrue rfl ?_
    refine gseq ?_
    refine greg ?_
    refine o_d 3 [(135, bv (((applyS P (⟨5, ss, 0, 0, 0, 0, 0⟩)).2) == 12)), (134, bv (((applyS P (⟨5, ss, 0, 0, 0, 0, 0⟩)).2) == 12)), (133, iv ((applyS P (⟨5, ss, 0, 0, 0, 0, 0⟩)).2))] (by kernel_rfl) ?_
    refine o_sp (b := ((applyS P (⟨5, ss, 0, 0, 0, 0, 0⟩)).2) == 12) 135 rfl (fun k22 => ?_) (fun q => by rw [(by rw [hE]; rfl : (((applyS P (⟨5, ss, 0, 0, 0, 0, 0⟩)).2) == 12) = true)] at q; cases q)
    refine o_unguard rfl ?_
    refine o_s (by refine run_ld (v := poolV ((applyS P (⟨5, ss, 0, 0, 0, 0, 0⟩)).1)) rfl rfl ?_; exact pl_all ((applyS P (⟨5, ss, 0, 0, 0, 0, 0⟩)).1)) ?_
    refine o_unguard rfl ?_
    refine o_s (by refine run_bld (c := pl zeroP) ?_; exact bld_zP) ?_
    refine o_unguard rfl ?_
    refine o_s (by refine run_eqa (a := ⟨pl ((applyS P (⟨5, ss, 0, 0, 0, 0, 0⟩)).1)⟩) (b := ⟨pl zeroP⟩) (r := eqP ((applyS P (⟨5, ss, 0, 0, 0, 0, 0⟩)).1) zeroP) (R := eqP ((applyS P (⟨5, ss, 0, 0, 0, 0, 0⟩)).1) zeroP) ?_ rfl; exact eqP_run ((applyS P (⟨5, ss, 0, 0, 0, 0, 0⟩)).1) zeroP rfl rfl) ?_
    refine o_d 2 [(8, bv (eqP ((applyS P (⟨5, ss, 0, 0, 0, 0, 0⟩)).1) zeroP)), (139, bv (eqP ((applyS P (⟨5, ss, 0, 0, 0, 0, 0⟩)).1) zeroP))] (by kernel_rfl) ?_
    refine o_nil ?_
    refine ⟨⟨reg [(8, bv (eqP ((applyS P (⟨5, ss, 0, 0, 0, 0, 0⟩)).1) zeroP))], []⟩, Wk.ren [] rfl rfl (by decide) ⟨rfl, trivial⟩ trivial, ?_⟩
    refine gret ?_
    have e0 : (eqP ((applyS P (⟨5, ss, 0, 0, 0, 0, 0⟩)).1) zeroP) = true := by
     first | done | (rw [apply_err (by rw [hE]; decide)]; exact eqP_self _) | (rw [hE5, if_pos (by omega)]; rfl) | (rw [hV]; simp) | (rw [apply_ver (hE5.trans (if_neg (by omega)))]; simp)
    exact fin_ans [bv (eqP ((applyS P (⟨5, ss, 0, 0, 0, 0, 0⟩)).1) zeroP)] (resV_t rfl rfl) rfl (by rw [e0]; rfl) rfl rfl
   ·skip
    obtain ⟨hE, hS⟩ := moves_rot hM hs 0 0
    have hV := apply_ver hE
    refine seq_regs [(9, pv 0 0), (11, iv ss), (12, iv 6)] (by kernel_rfl) ?_
    refine gseq ?_
    refine greg ?_
    refine o_b 5 [(21, pv 2 0), (98, .agg #[iv 6, iv ss, iv 0, iv 0, iv 0, uv 0, uv 0]), (97, iv ss), (96, iv 6)] [cw (pl P), cw (entsL e2 ++ room zE m16), cw [iv 6, iv ss, iv 0, iv 0, iv 0, uv 0, uv 0]] (by kernel_rfl) ?_
    refine o_nil ?_
    refine seq_go ?_
    refine gseq ?_
    refine gseq ?_
    refine greg ?_
    refine o_d 2 [(100, bv false), (99, iv 6)] (by kernel_rfl) ?_
    refine o_nil ?_
    refine seq_go ?_
    refine gfalse rfl ?_
    refine gskip ?_
    refine seq_go ?_
    refine gseq ?_
    refine gseq ?_
    refine greg ?_
    refine o_d 2 [(105, bv true), (104, iv 6)] (by kernel_rfl) ?_
    refine o_nil ?_
    refine seq_go ?_
    refine gtrue rfl ?_
    refine greg ?_
    refine o_b 2 [(106, pv 2 1)] [cw (pl P), cw (entsL e2 ++ room zE m16), cw [iv 6, iv 0, iv 0, iv 0, iv 0, uv 0, uv 0]] (by kernel_rfl) ?_
    refine o_nil ?_
    refine seq_go ?_
    refine gseq ?_
    refine gdregD [cw (pl P), cw (entsL e2 ++ room zE m16), cw [iv 6, iv 0, iv 0, iv 0, iv 0, uv 0, uv 0], .gone, .gone, .gone, .gone, .gone, .gone, .gone] (by kernel_rfl) ?_
    refine d_n 13 13 10 [(119, pv 0 3), (118, iv ss), (117, sv 8 0 5 5), (116, pv 9 5), (115, iv 5), (114, iv 6), (113, sv 9 0 6 6), (112, sv 8 0 5 5), (111, sv 7 0 5 5), (110, sv 6 0 5 5), (109, sv 5 0 5 5), (108, sv 4 0 5 5), (107, sv 3 0 5 5)] [cw (pl P), cw (entsL e2 ++ room zE m16), cw [iv 6, iv 0, iv 0, iv 0, iv 0, uv 0, uv 0], cw [iv 1, iv (-1), iv (-1), iv (-1), iv (-1)], cw [iv (-1), iv 2, iv (-1), iv 2, iv (-1)], cw [iv (-1), iv (-1), iv 3, iv (-1), iv (-1)], cw [iv (-1), iv 4, iv (-1), iv 4, iv (-1)], cw [iv (-1), iv (-1), iv (-1), iv (-1), iv 0], cw [iv 0, iv 1, iv 2, iv 3, iv 4], cw [sv 3 0 5 5, sv 4 0 5 5, sv 5 0 5 5, sv 6 0 5 5, sv 7 0 5 5, sv 8 0 5 5]] [⟨10, [9], [], none⟩, ⟨6, [], [9], none⟩, ⟨5, [], [8], none⟩, ⟨4, [], [7], none⟩, ⟨3, [], [6], none⟩, ⟨2, [], [5], none⟩, ⟨1, [], [4], none⟩, ⟨0, [], [3], none⟩] (by kernel_rfl) rfl rfl ?_
    refine d_s rfl rfl rfl (by kernel_rfl) (by exact run_iadA (o := 3) (o' := 3 + 5 * ss.toNat) rfl rfl (by omega) (by omega)) ?_
    refine d_s rfl rfl rfl (by kernel_rfl) (by refine run_fad (o' := 3 + 5 * ss.toNat) rfl (by omega)) ?_
    refine d_s rfl rfl rfl (by kernel_rfl) (by refine run_ld (v := iv 0) rfl rfl ?_; exact (pl_r P (3 + 5 * ss.toNat) (by omega) (by omega)).trans (congrArg (fun x => some (iv x)) hM.cur)) ?_
    refine d_n 3 19 10 [(22, iv 0), (124, iv 0), (123, pv 8 0)] [cw (pl P), cw (entsL e2 ++ room zE m16), cw [iv 6, iv 0, iv 0, iv 0, iv 0, uv 0, uv 0], cw [iv 1, iv (-1), iv (-1), iv (-1), iv (-1)], cw [iv (-1), iv 2, iv (-1), iv 2, iv (-1)], cw [iv (-1), iv (-1), iv 3, iv (-1), iv (-1)], cw [iv (-1), iv 4, iv (-1), iv 4, iv (-1)], cw [iv (-1), iv (-1), iv (-1), iv (-1), iv 0], cw [iv 0, iv 1, iv 2, iv 3, iv 4], cw [sv 3 0 5 5, sv 4 0 5 5, sv 5 0 5 5, sv 6 0 5 5, sv 7 0 5 5, sv 8 0 5 5]] [⟨17, [8], [], none⟩, ⟨15, [0], [], none⟩, ⟨10, [9], [], none⟩, ⟨6, [], [9], none⟩, ⟨5, [], [8], none⟩, ⟨4, [], [7], none⟩, ⟨3, [], [6], none⟩, ⟨2, [], [5], none⟩, ⟨1, [], [4], none⟩, ⟨0, [], [3], none⟩] (by kernel_rfl) rfl rfl ?_
    refine d_nil ?_
    refine ⟨⟨reg [(22, iv 0), (21, pv 2 0), (9, pv 0 0), (11, iv ss), (12, iv 6)], [cw (pl P), cw (entsL e2 ++ room zE m16), cw [iv 6, iv 0, iv 0, iv 0, iv 0, uv 0, uv 0]]⟩, Wk.ren [0, 1, 2] rfl rfl (by decide) ⟨rfl, ⟨rfl, ⟨rfl, ⟨rfl, ⟨rfl, trivial⟩⟩⟩⟩⟩ ⟨.inl (ren_cells (pl_scl P)), ⟨.inl (ren_cells (entsR_scl e2 m16)), ⟨.inl rfl, trivial⟩⟩⟩, ?_⟩
    refine gseq ?_
    refine greg ?_
    refine o_s (by refine run_ld (v := poolV P) rfl rfl ?_; exact pl_all P) ?_
    refine o_d 1 [(127, .agg #[iv 6, iv 0, iv 0, iv 0, iv 0, uv 0, uv 0])] (by kernel_rfl) ?_
    refine o_cl (callV (ApplyC h_pool_Apply h_pool_may h_pool_held h_pool_fits h_pool_Check h_pool_placed h_cookie_Next P (⟨6, 0, 0, 0, 0, 0, 0⟩)) rfl (all_cons (poolV_vpf P) (all_cons rfl rfl)) (all_cons (poolV_aggf ((applyS P (⟨6, 0, 0, 0, 0, 0, 0⟩)).1)) (all_cons rfl rfl)) ?_)
    refine o_b 4 [(23, pv 3 0), (130, iv ((applyS P (⟨6, 0, 0, 0, 0, 0, 0⟩)).2)), (129, poolV ((applyS P (⟨6, 0, 0, 0, 0, 0, 0⟩)).1)), (125, .tuple #[poolV ((applyS P (⟨6, 0, 0, 0, 0, 0, 0⟩)).1), iv ((applyS P (⟨6, 0, 0, 0, 0, 0, 0⟩)).2)])] [cw (pl P), cw (entsL e2 ++ room zE m16), cw [iv 6, iv 0, iv 0, iv 0, iv 0, uv 0, uv 0], cw (pl zeroP)] (by kernel_rfl) ?_
    refine o_s0 (by refine run_st (c' := pl ((applyS P (⟨6, 0, 0, 0, 0, 0, 0⟩)).1)) rfl rfl rfl ?_ ?_ ?_; exact pl_length _; exact pl_le (by omega); exact splice_pl0 zeroP ((applyS P (⟨6, 0, 0, 0, 0, 0, 0⟩)).1)) ?_
    refine o_b 1 [(24, iv ((applyS P (⟨6, 0, 0, 0, 0, 0, 0⟩)).2))] [cw (pl P), cw (entsL e2 ++ room zE m16), cw [iv 6, iv 0, iv 0, iv 0, iv 0, uv 0, uv 0], cw (pl ((applyS P (⟨6, 0, 0, 0, 0, 0, 0⟩)).1))] (by kernel_rfl) ?_
    refine o_nil ?_
    refine seq_go ?_
    refine gseq ?_
    refine gseq ?_
    refine greg ?_
    refine o_d 2 [(132, bv false), (131, iv 0)] (by kernel_rfl) ?_
    refine o_nil ?_
    refine seq_go ?_
    refine gfalse rfl ?_
    refine gskip ?_
    refine seq_go ?_
    refine gseq ?_
    refine gseq ?_
    refine greg ?_
    refine o_d 10 [(149, bv false), (148, undef), (147, undef), (146, undef), (145, undef), (144, undef), (143, undef), (142, bv false), (141, bv false), (140, iv 6)] (by kernel_rfl) ?_
    refine o_nil ?_
    refine seq_go ?_
    refine gfalse rfl ?_
    refine gskip ?_
    refine seq_go ?_
    refine gseq ?_
    refine greg ?_
    refine o_d 3 [(154, bv (((applyS P (⟨6, 0, 0, 0, 0, 0, 0⟩)).2) == 0)), (153, bv (((applyS P (⟨6, 0, 0, 0, 0, 0, 0⟩)).2) == 0)), (152, iv ((applyS P (⟨6, 0, 0, 0, 0, 0, 0⟩)).2))] (by kernel_rfl) ?_
    refine o_sp (b := ((applyS P (⟨6, 0, 0, 0, 0, 0, 0⟩)).2) == 0) 154 rfl (fun k23 => ?_) (fun q => by rw [(by rw [hE]; rfl : (((applyS P (⟨6, 0, 0, 0, 0, 0, 0⟩)).2) == 0) = true)] at q; cases q)
    refine o_d 2 [(156, pv 3 3), (155, iv ss)] (by kernel_rfl) ?_
    refine o_unguard rfl ?_
    refine o_s (by exact run_iadA (o := 3) (o' := 3 + 5 * ss.toNat) rfl rfl (by omega) (by omega)) ?_
    refine o_unguard rfl ?_
    refine o_s (by refine run_fad (o' := 3 + 5 * ss.toNat) rfl (by omega)) ?_
    refine o_unguard rfl ?_
    refine o_s (by refine run_ld (v := iv (((applyS P (⟨6, 0, 0, 0, 0, 0, 0⟩)).1) (3 + 5 * ss.toNat))) rfl rfl ?_; exact pl_r ((applyS P (⟨6, 0, 0, 0, 0, 0, 0⟩)).1) (3 + 5 * ss.toNat) (by omega) (by omega)) ?_
    refine o_d 4 [(163, bv ((((applyS P (⟨6, 0, 0, 0, 0, 0, 0⟩)).1) (3 + 5 * ss.toNat)) == 0)), (162, bv ((((applyS P (⟨6, 0, 0, 0, 0, 0, 0⟩)).1) (3 + 5 * ss.toNat)) == 0)), (161, bv ((((applyS P (⟨6, 0, 0, 0, 0, 0, 0⟩)).1) (3 + 5 * ss.toNat)) == 0)), (160, iv 0)] (by kernel_rfl) ?_
    refine o_sp (b := (((applyS P (⟨6, 0, 0, 0, 0, 0, 0⟩)).1) (3 + 5 * ss.toNat)) == 0) 163 rfl (fun k24 => ?_) (fun q => by rw [(by rw [hS]; rfl : ((((applyS P (⟨6, 0, 0, 0, 0, 0, 0⟩)).1) (3 + 5 * ss.toNat)) == 0) = true)] at q; cases q)
    refine o_d 1 [(164, pv 3 0)] (by kernel_rfl) ?_
    refine o_unguard rfl ?_
    refine o_s (by refine run_ld (v := iv (((applyS P (⟨6, 0, 0, 0, 0, 0, 0⟩)).1) 0)) rfl rfl ?_; exact pl_r ((applyS P (⟨6, 0, 0, 0, 0, 0, 0⟩)).1) 0 rfl (by omega)) ?_
    refine o_d 1 [(166, pv 0 0)] (by kernel_rfl) ?_
    refine o_unguard rfl ?_
    refine o_s (by refine run_ld (v := iv (P 0)) rfl rfl ?_; exact pl_r P 0 rfl (by omega)) ?_
    refine o_d 4 [(8, bv ((((applyS P (⟨6, 0, 0, 0, 0, 0, 0⟩)).1) 0) == (IntKind.i64.wrap (P 0 + 1)))), (170, bv ((((applyS P (⟨6, 0, 0, 0, 0, 0, 0⟩)).1) 0) == (IntKind.i64.wrap (P 0 + 1)))), (169, bv ((((applyS P (⟨6, 0, 0, 0, 0, 0, 0⟩)).1) 0) == (IntKind.i64.wrap (P 0 + 1)))), (168, iv (IntKind.i64.wrap (P 0 + 1)))] (by kernel_rfl) ?_
    refine o_nil ?_
    refine ⟨⟨reg [(8, bv ((((applyS P (⟨6, 0, 0, 0, 0, 0, 0⟩)).1) 0) == (IntKind.i64.wrap (P 0 + 1))))], []⟩, Wk.ren [] rfl rfl (by decide) ⟨rfl, trivial⟩ trivial, ?_⟩
    refine gret ?_
    have e0 : ((((applyS P (⟨6, 0, 0, 0, 0, 0, 0⟩)).1) 0) == (IntKind.i64.wrap (P 0 + 1))) = true := by
     first | done | (rw [apply_err (by rw [hE]; decide)]; exact eqP_self _) | (rw [hE5, if_pos (by omega)]; rfl) | (rw [hV]; simp) | (rw [apply_ver (hE5.trans (if_neg (by omega)))]; simp)
    exact fin_ans [bv ((((applyS P (⟨6, 0, 0, 0, 0, 0, 0⟩)).1) 0) == (IntKind.i64.wrap (P 0 + 1)))] (resV_t rfl rfl) rfl (by rw [e0]; rfl) rfl rfl
  ·rcases hkk6 with rfl | rfl | rfl | rfl | rfl | rfl
   ·skip
    have hE : (applyS P ⟨1, ss, 1, 2, 3, 0, 0⟩).2 = 12 := (mv_bind hM hs (a := 1) (p := 2) (g := 3) (by decide) (by decide) (by decide)).trans (by decide)
    refine seq_regs [(9, pv 0 0), (11, iv ss), (12, iv 1)] (by kernel_rfl) ?_
    refine gseq ?_
    refine greg ?_
    refine o_b 5 [(21, pv 2 0), (98, .agg #[iv 1, iv ss, iv 0, iv 0, iv 0, uv 0, uv 0]), (97, iv ss), (96, iv 1)] [cw (pl P), cw (entsL e2 ++ room zE m16), cw [iv 1, iv ss, iv 0, iv 0, iv 0, uv 0, uv 0]] (by kernel_rfl) ?_
    refine o_nil ?_
    refine seq_go ?_
    refine gseq ?_
    refine gseq ?_
    refine greg ?_
    refine o_d 2 [(100, bv true), (99, iv 1)] (by kernel_rfl) ?_
    refine o_nil ?_
    refine seq_go ?_
    refine gtrue rfl ?_
    refine greg ?_
    refine o_b 6 [(103, pv 2 4), (102, pv 2 3), (101, pv 2 2)] [cw (pl P), cw (entsL e2 ++ room zE m16), cw [iv 1, iv ss, iv 1, iv 2, iv 3, uv 0, uv 0]] (by kernel_rfl) ?_
    refine o_nil ?_
    refine seq_go ?_
    refine gseq ?_
    refine gseq ?_
    refine greg ?_
    refine o_d 2 [(105, bv false), (104, iv 1)] (by kernel_rfl) ?_
    refine o_nil ?_
    refine seq_go ?_
    refine gfalse rfl ?_
    refine gskip ?_
    refine seq_go ?_
    refine gseq ?_
    refine gdregD [cw (pl P), cw (entsL e2 ++ room zE m16), cw [iv 1, iv ss, iv 1, iv 2, iv 3, uv 0, uv 0], .gone, .gone, .gone, .gone, .gone, .gone, .gone] (by kernel_rfl) ?_
    refine d_n 13 13 10 [(119, pv 0 3), (118, iv ss), (117, sv 3 0 5 5), (116, pv 9 0), (115, iv 0), (114, iv 1), (113, sv 9 0 6 6), (112, sv 8 0 5 5), (111, sv 7 0 5 5), (110, sv 6 0 5 5), (109, sv 5 0 5 5), (108, sv 4 0 5 5), (107, sv 3 0 5 5)] [cw (pl P), cw (entsL e2 ++ room zE m16), cw [iv 1, iv ss, iv 1, iv 2, iv 3, uv 0, uv 0], cw [iv 1, iv (-1), iv (-1), iv (-1), iv (-1)], cw [iv (-1), iv 2, iv (-1), iv 2, iv (-1)], cw [iv (-1), iv (-1), iv 3, iv (-1), iv (-1)], cw [iv (-1), iv 4, iv (-1), iv 4, iv (-1)], cw [iv (-1), iv (-1), iv (-1), iv (-1), iv 0], cw [iv 0, iv 1, iv 2, iv 3, iv 4], cw [sv 3 0 5 5, sv 4 0 5 5, sv 5 0 5 5, sv 6 0 5 5, sv 7 0 5 5, sv 8 0 5 5]] [⟨10, [9], [], none⟩, ⟨6, [], [9], none⟩, ⟨5, [], [8], none⟩, ⟨4, [], [7], none⟩, ⟨3, [], [6], none⟩, ⟨2, [], [5], none⟩, ⟨1, [], [4], none⟩, ⟨0, [], [3], none⟩] (by kernel_rfl) rfl rfl ?_
    refine d_s rfl rfl rfl (by kernel_rfl) (by exact run_iadA (o := 3) (o' := 3 + 5 * ss.toNat) rfl rfl (by omega) (by omega)) ?_
    refine d_s rfl rfl rfl (by kernel_rfl) (by refine run_fad (o' := 3 + 5 * ss.toNat) rfl (by omega)) ?_
    refine d_s rfl rfl rfl (by kernel_rfl) (by refine run_ld (v := iv 1) rfl rfl ?_; exact (pl_r P (3 + 5 * ss.toNat) (by omega) (by omega)).trans (congrArg (fun x => some (iv x)) hM.cur)) ?_
    refine d_n 3 19 10 [(22, iv (-1)), (124, iv (-1)), (123, pv 3 1)] [cw (pl P), cw (entsL e2 ++ room zE m16), cw [iv 1, iv ss, iv 1, iv 2, iv 3, uv 0, uv 0], cw [iv 1, iv (-1), iv (-1), iv (-1), iv (-1)], cw [iv (-1), iv 2, iv (-1), iv 2, iv (-1)], cw [iv (-1), iv (-1), iv 3, iv (-1), iv (-1)], cw [iv (-1), iv 4, iv (-1), iv 4, iv (-1)], cw [iv (-1), iv (-1), iv (-1), iv (-1), iv 0], cw [iv 0, iv 1, iv 2, iv 3, iv 4], cw [sv 3 0 5 5, sv 4 0 5 5, sv 5 0 5 5, sv 6 0 5 5, sv 7 0 5 5, sv 8 0 5 5]] [⟨17, [3], [], none⟩, ⟨15, [0], [], none⟩, ⟨10, [9], [], none⟩, ⟨6, [], [9], none⟩, ⟨5, [], [8], none⟩, ⟨4, [], [7], none⟩, ⟨3, [], [6], none⟩, ⟨2, [], [5], none⟩, ⟨1, [], [4], none⟩, ⟨0, [], [3], none⟩] (by kernel_rfl) rfl rfl ?_
    refine d_nil ?_
    refine ⟨⟨reg [(22, iv (-1)), (21, pv 2 0), (9, pv 0 0), (11, iv ss), (12, iv 1)], [cw (pl P), cw (entsL e2 ++ room zE m16), cw [iv 1, iv ss, iv 1, iv 2, iv 3, uv 0, uv 0]]⟩, Wk.ren [0, 1, 2] rfl rfl (by decide) ⟨rfl, ⟨rfl, ⟨rfl, ⟨rfl, ⟨rfl, trivial⟩⟩⟩⟩⟩ ⟨.inl (ren_cells (pl_scl P)), ⟨.inl (ren_cells (entsR_scl e2 m16)), ⟨.inl rfl, trivial⟩⟩⟩, ?_⟩
    refine gseq ?_
    refine greg ?_
    refine o_s (by refine run_ld (v := poolV P) rfl rfl ?_; exact pl_all P) ?_
    refine o_d 1 [(127, .agg #[iv 1, iv ss, iv 1, iv 2, iv 3, uv 0, uv 0])] (by kernel_rfl) ?_
    refine o_cl (callV (ApplyC h_pool_Apply h_pool_may h_pool_held h_pool_fits h_pool_Check h_pool_placed h_cookie_Next P (⟨1, ss, 1, 2, 3, 0, 0⟩)) rfl (all_cons (poolV_vpf P) (all_cons rfl rfl)) (all_cons (poolV_aggf ((applyS P (⟨1, ss, 1, 2, 3, 0, 0⟩)).1)) (all_cons rfl rfl)) ?_)
    refine o_b 4 [(23, pv 3 0), (130, iv ((applyS P (⟨1, ss, 1, 2, 3, 0, 0⟩)).2)), (129, poolV ((applyS P (⟨1, ss, 1, 2, 3, 0, 0⟩)).1)), (125, .tuple #[poolV ((applyS P (⟨1, ss, 1, 2, 3, 0, 0⟩)).1), iv ((applyS P (⟨1, ss, 1, 2, 3, 0, 0⟩)).2)])] [cw (pl P), cw (entsL e2 ++ room zE m16), cw [iv 1, iv ss, iv 1, iv 2, iv 3, uv 0, uv 0], cw (pl zeroP)] (by kernel_rfl) ?_
    refine o_s0 (by refine run_st (c' := pl ((applyS P (⟨1, ss, 1, 2, 3, 0, 0⟩)).1)) rfl rfl rfl ?_ ?_ ?_; exact pl_length _; exact pl_le (by omega); exact splice_pl0 zeroP ((applyS P (⟨1, ss, 1, 2, 3, 0, 0⟩)).1)) ?_
    refine o_b 1 [(24, iv ((applyS P (⟨1, ss, 1, 2, 3, 0, 0⟩)).2))] [cw (pl P), cw (entsL e2 ++ room zE m16), cw [iv 1, iv ss, iv 1, iv 2, iv 3, uv 0, uv 0], cw (pl ((applyS P (⟨1, ss, 1, 2, 3, 0, 0⟩)).1))] (by kernel_rfl) ?_
    refine o_nil ?_
    refine seq_go ?_
    refine gseq ?_
    refine gseq ?_
    refine greg ?_
    refine o_d 2 [(132, bv true), (131, iv (-1))] (by kernel_rfl) ?_
    refine o_nil ?_
    refine seq_go ?_
    refine gtrue rfl ?_
    refine gseq ?_
    refine greg ?_
    refine o_d 3 [(135, bv (((applyS P (⟨1, ss, 1, 2, 3, 0, 0⟩)).2) == 12)), (134, bv (((applyS P (⟨1, ss, 1, 2, 3, 0, 0⟩)).2) == 12)), (133, iv ((applyS P (⟨1, ss, 1, 2, 3, 0, 0⟩)).2))] (by kernel_rfl) ?_
    refine o_sp (b := ((applyS P (⟨1, ss, 1, 2, 3, 0, 0⟩)).2) == 12) 135 rfl (fun k25 => ?_) (fun q => by rw [(by rw [hE]; rfl : (((applyS P (⟨1, ss, 1, 2, 3, 0, 0⟩)).2) == 12) = true)] at q; cases q)
    refine o_unguard rfl ?_
    refine o_s (by refine run_ld (v := poolV ((applyS P (⟨1, ss, 1, 2, 3, 0, 0⟩)).1)) rfl rfl ?_; exact pl_all ((applyS P (⟨1, ss, 1, 2, 3, 0, 0⟩)).1)) ?_
    refine o_unguard rfl ?_
    refine o_s (by refine run_bld (c := pl zeroP) ?_; exact bld_zP) ?_
    refine o_unguard rfl ?_
    refine o_s (by refine run_eqa (a := ⟨pl ((applyS P (⟨1, ss, 1, 2, 3, 0, 0⟩)).1)⟩) (b := ⟨pl zeroP⟩) (r := eqP ((applyS P (⟨1, ss, 1, 2, 3, 0, 0⟩)).1) zeroP) (R := eqP ((applyS P (⟨1, ss, 1, 2, 3, 0, 0⟩)).1) zeroP) ?_ rfl; exact eqP_run ((applyS P (⟨1, ss, 1, 2, 3, 0, 0⟩)).1) zeroP rfl rfl) ?_
    refine o_d 2 [(8, bv (eqP ((applyS P (⟨1, ss, 1, 2, 3, 0, 0⟩)).1) zeroP)), (139, bv (eqP ((applyS P (⟨1, ss, 1, 2, 3, 0, 0⟩)).1) zeroP))] (by kernel_rfl) ?_
    refine o_nil ?_
    refine ⟨⟨reg [(8, bv (eqP ((applyS P (⟨1, ss, 1, 2, 3, 0, 0⟩)).1) zeroP))], []⟩, Wk.ren [] rfl rfl (by decide) ⟨rfl, trivial⟩ trivial, ?_⟩
    refine gret ?_
    have e0 : (eqP ((applyS P (⟨1, ss, 1, 2, 3, 0, 0⟩)).1) zeroP) = true := by
     first | done | (rw [apply_err (by rw [hE]; decide)]; exact eqP_self _) | (rw [hE5, if_pos (by omega)]; rfl) | (rw [hV]; simp) | (rw [apply_ver (hE5.trans (if_neg (by omega)))]; simp)
    exact fin_ans [bv (eqP ((applyS P (⟨1, ss, 1, 2, 3, 0, 0⟩)).1) zeroP)] (resV_t rfl rfl) rfl (by rw [e0]; rfl) rfl rfl
   ·skip
    have hE : (applyS P ⟨2, ss, 0, 0, 0, 0, 0⟩).2 = 0 := (mv_k hM hs (k := 2) (by decide)).trans (by decide)
    have hS : (applyS P ⟨2, ss, 0, 0, 0, 0, 0⟩).1 (3 + 5 * ss.toNat) = 2 := (moves_to hM hs rfl ⟨by simp, by simp⟩ hE).trans rfl
    have hV := apply_ver hE
    refine seq_regs [(9, pv 0 0), (11, iv ss), (12, iv 2)] (by kernel_rfl) ?_
    refine gseq ?_
    refine greg ?_
    refine o_b 5 [(21, pv 2 0), (98, .agg #[iv 2, iv ss, iv 0, iv 0, iv 0, uv 0, uv 0]), (97, iv ss), (96, iv 2)] [cw (pl P), cw (entsL e2 ++ room zE m16), cw [iv 2, iv ss, iv 0, iv 0, iv 0, uv 0, uv 0]] (by kernel_rfl) ?_
    refine o_nil ?_
    refine seq_go ?_
    refine gseq ?_
    refine gseq ?_
    refine greg ?_
    refine o_d 2 [(100, bv false), (99, iv 2)] (by kernel_rfl) ?_
    refine o_nil ?_
    refine seq_go ?_
    refine gfalse rfl ?_
    refine gskip ?_
    refine seq_go ?_
    refine gseq ?_
    refine gseq ?_
    refine greg ?_
    refine o_d 2 [(105, bv false), (104, iv 2)] (by kernel_rfl) ?_
    refine o_nil ?_
    refine seq_go ?_
    refine gfalse rfl ?_
    refine gskip ?_
    refine seq_go ?_
    refine gseq ?_
    refine gdregD [cw (pl P), cw (entsL e2 ++ room zE m16), cw [iv 2, iv ss, iv 0, iv 0, iv 0, uv 0, uv 0], .gone, .gone, .gone, .gone, .gone, .gone, .gone] (by kernel_rfl) ?_
    refine d_n 13 13 10 [(119, pv 0 3), (118, iv ss), (117, sv 4 0 5 5), (116, pv 9 1), (115, iv 1), (114, iv 2), (113, sv 9 0 6 6), (112, sv 8 0 5 5), (111, sv 7 0 5 5), (110, sv 6 0 5 5), (109, sv 5 0 5 5), (108, sv 4 0 5 5), (107, sv 3 0 5 5)] [cw (pl P), cw (entsL e2 ++ room zE m16), cw [iv 2, iv ss, iv 0, iv 0, iv 0, uv 0, uv 0], cw [iv 1, iv (-1), iv (-1), iv (-1), iv (-1)], cw [iv (-1), iv 2, iv (-1), iv 2, iv (-1)], cw [iv (-1), iv (-1), iv 3, iv (-1), iv (-1)], cw [iv (-1), iv 4, iv (-1), iv 4, iv (-1)], cw [iv (-1), iv (-1), iv (-1), iv (-1), iv 0], cw [iv 0, iv 1, iv 2, iv 3, iv 4], cw [sv 3 0 5 5, sv 4 0 5 5, sv 5 0 5 5, sv 6 0 5 5, sv 7 0 5 5, sv 8 0 5 5]] [⟨10, [9], [], none⟩, ⟨6, [], [9], none⟩, ⟨5, [], [8], none⟩, ⟨4, [], [7], none⟩, ⟨3, [], [6], none⟩, ⟨2, [], [5], none⟩, ⟨1, [], [4], none⟩, ⟨0, [], [3], none⟩] (by kernel_rfl) rfl rfl ?_
    refine d_s rfl rfl rfl (by kernel_rfl) (by exact run_iadA (o := 3) (o' := 3 + 5 * ss.toNat) rfl rfl (by omega) (by omega)) ?_
    refine d_s rfl rfl rfl (by kernel_rfl) (by refine run_fad (o' := 3 + 5 * ss.toNat) rfl (by omega)) ?_
    refine d_s rfl rfl rfl (by kernel_rfl) (by refine run_ld (v := iv 1) rfl rfl ?_; exact (pl_r P (3 + 5 * ss.toNat) (by omega) (by omega)).trans (congrArg (fun x => some (iv x)) hM.cur)) ?_
    refine d_n 3 19 10 [(22, iv 2), (124, iv 2), (123, pv 4 1)] [cw (pl P), cw (entsL e2 ++ room zE m16), cw [iv 2, iv ss, iv 0, iv 0, iv 0, uv 0, uv 0], cw [iv 1, iv (-1), iv (-1), iv (-1), iv (-1)], cw [iv (-1), iv 2, iv (-1), iv 2, iv (-1)], cw [iv (-1), iv (-1), iv 3, iv (-1), iv (-1)], cw [iv (-1), iv 4, iv (-1), iv 4, iv (-1)], cw [iv (-1), iv (-1), iv (-1), iv (-1), iv 0], cw [iv 0, iv 1, iv 2, iv 3, iv 4], cw [sv 3 0 5 5, sv 4 0 5 5, sv 5 0 5 5, sv 6 0 5 5, sv 7 0 5 5, sv 8 0 5 5]] [⟨17, [4], [], none⟩, ⟨15, [0], [], none⟩, ⟨10, [9], [], none⟩, ⟨6, [], [9], none⟩, ⟨5, [], [8], none⟩, ⟨4, [], [7], none⟩, ⟨3, [], [6], none⟩, ⟨2, [], [5], none⟩, ⟨1, [], [4], none⟩, ⟨0, [], [3], none⟩] (by kernel_rfl) rfl rfl ?_
    refine d_nil ?_
    refine ⟨⟨reg [(22, iv 2), (21, pv 2 0), (9, pv 0 0), (11, iv ss), (12, iv 2)], [cw (pl P), cw (entsL e2 ++ room zE m16), cw [iv 2, iv ss, iv 0, iv 0, iv 0, uv 0, uv 0]]⟩, Wk.ren [0, 1, 2] rfl rfl (by decide) ⟨rfl, ⟨rfl, ⟨rfl, ⟨rfl, ⟨rfl, trivial⟩⟩⟩⟩⟩ ⟨.inl (ren_cells (pl_scl P)), ⟨.inl (ren_cells (entsR_scl e2 m16)), ⟨.inl rfl, trivial⟩⟩⟩, ?_⟩
    refine gseq ?_
    refine greg ?_
    refine o_s (by refine run_ld (v := poolV P) rfl rfl ?_; exact pl_all P) ?_
    refine o_d 1 [(127, .agg #[iv 2, iv ss, iv 0, iv 0, iv 0, uv 0, uv 0])] (by kernel_rfl) ?_
    refine o_cl (callV (ApplyC h_pool_Apply h_pool_may h_pool_held h_pool_fits h_pool_Check h_pool_placed h_cookie_Next P (⟨2, ss, 0, 0, 0, 0, 0⟩)) rfl (all_cons (poolV_vpf P) (all_cons rfl rfl)) (all_cons (poolV_aggf ((applyS P (⟨2, ss, 0, 0, 0, 0, 0⟩)).1)) (all_cons rfl rfl)) ?_)
    refine o_b 4 [(23, pv 3 0), (130, iv ((applyS P (⟨2, ss, 0, 0, 0, 0, 0⟩)).2)), (129, poolV ((applyS P (⟨2, ss, 0, 0, 0, 0, 0⟩)).1)), (125, .tuple #[poolV ((applyS P (⟨2, ss, 0, 0, 0, 0, 0⟩)).1), iv ((applyS P (⟨2, ss, 0, 0, 0, 0, 0⟩)).2)])] [cw (pl P), cw (entsL e2 ++ room zE m16), cw [iv 2, iv ss, iv 0, iv 0, iv 0, uv 0, uv 0], cw (pl zeroP)] (by kernel_rfl) ?_
    refine o_s0 (by refine run_st (c' := pl ((applyS P (⟨2, ss, 0, 0, 0, 0, 0⟩)).1)) rfl rfl rfl ?_ ?_ ?_; exact pl_length _; exact pl_le (by omega); exact splice_pl0 zeroP ((applyS P (⟨2, ss, 0, 0, 0, 0, 0⟩)).1)) ?_
    refine o_b 1 [(24, iv ((applyS P (⟨2, ss, 0, 0, 0, 0, 0⟩)).2))] [cw (pl P), cw (entsL e2 ++ room zE m16), cw [iv 2, iv ss, iv 0, iv 0, iv 0, uv 0, uv 0], cw (pl ((applyS P (⟨2, ss, 0, 0, 0, 0, 0⟩)).1))] (by kernel_rfl) ?_
    refine o_nil ?_
    refine seq_go ?_
    refine gseq ?_
    refine gseq ?_
    refine greg ?_
    refine o_d 2 [(132, bv false), (131, iv 2)] (by kernel_rfl) ?_
    refine o_nil ?_
    refine seq_go ?_
    refine gfalse rfl ?_
    refine gskip ?_
    refine seq_go ?_
    refine gseq ?_
    refine gseq ?_
    refine greg ?_
    refine o_d 10 [(149, bv false), (148, undef), (147, undef), (146, undef), (145, undef), (144, undef), (143, undef), (142, bv false), (141, bv false), (140, iv 2)] (by kernel_rfl) ?_
    refine o_nil ?_
    refine seq_go ?_
    refine gfalse rfl ?_
    refine gskip ?_
    refine seq_go ?_
    refine gseq ?_
    refine greg ?_
    refine o_d 3 [(154, bv (((applyS P (⟨2, ss, 0, 0, 0, 0, 0⟩)).2) == 0)), (153, bv (((applyS P (⟨2, ss, 0, 0, 0, 0, 0⟩)).2) == 0)), (152, iv ((applyS P (⟨2, ss, 0, 0, 0, 0, 0⟩)).2))] (by kernel_rfl) ?_
    refine o_sp (b := ((applyS P (⟨2, ss, 0, 0, 0, 0, 0⟩)).2) == 0) 154 rfl (fun k26 => ?_) (fun q => by rw [(by rw [hE]; rfl : (((applyS P (⟨2, ss, 0, 0, 0, 0, 0⟩)).2) == 0) = true)] at q; cases q)
    refine o_d 2 [(156, pv 3 3), (155, iv ss)] (by kernel_rfl) ?_
    refine o_unguard rfl ?_
    refine o_s (by exact run_iadA (o := 3) (o' := 3 + 5 * ss.toNat) rfl rfl (by omega) (by omega)) ?_
    refine o_unguard rfl ?_
    refine o_s (by refine run_fad (o' := 3 + 5 * ss.toNat) rfl (by omega)) ?_
    refine o_unguard rfl ?_
    refine o_s (by refine run_ld (v := iv (((applyS P (⟨2, ss, 0, 0, 0, 0, 0⟩)).1) (3 + 5 * ss.toNat))) rfl rfl ?_; exact pl_r ((applyS P (⟨2, ss, 0, 0, 0, 0, 0⟩)).1) (3 + 5 * ss.toNat) (by omega) (by omega)) ?_
    refine o_d 4 [(163, bv ((((applyS P (⟨2, ss, 0, 0, 0, 0, 0⟩)).1) (3 + 5 * ss.toNat)) == 2)), (162, bv ((((applyS P (⟨2, ss, 0, 0, 0, 0, 0⟩)).1) (3 + 5 * ss.toNat)) == 2)), (161, bv ((((applyS P (⟨2, ss, 0, 0, 0, 0, 0⟩)).1) (3 + 5 * ss.toNat)) == 2)), (160, iv 2)] (by kernel_rfl) ?_
    refine o_sp (b := (((applyS P (⟨2, ss, 0, 0, 0, 0, 0⟩)).1) (3 + 5 * ss.toNat)) == 2) 163 rfl (fun k27 => ?_) (fun q => by rw [(by rw [hS]; rfl : ((((applyS P (⟨2, ss, 0, 0, 0, 0, 0⟩)).1) (3 + 5 * ss.toNat)) == 2) = true)] at q; cases q)
    refine o_d 1 [(164, pv 3 0)] (by kernel_rfl) ?_
    refine o_unguard rfl ?_
    refine o_s (by refine run_ld (v := iv (((applyS P (⟨2, ss, 0, 0, 0, 0, 0⟩)).1) 0)) rfl rfl ?_; exact pl_r ((applyS P (⟨2, ss, 0, 0, 0, 0, 0⟩)).1) 0 rfl (by omega)) ?_
    refine o_d 1 [(166, pv 0 0)] (by kernel_rfl) ?_
    refine o_unguard rfl ?_
    refine o_s (by refine run_ld (v := iv (P 0)) rfl rfl ?_; exact pl_r P 0 rfl (by omega)) ?_
    refine o_d 4 [(8, bv ((((applyS P (⟨2, ss, 0, 0, 0, 0, 0⟩)).1) 0) == (IntKind.i64.wrap (P 0 + 1)))), (170, bv ((((applyS P (⟨2, ss, 0, 0, 0, 0, 0⟩)).1) 0) == (IntKind.i64.wrap (P 0 + 1)))), (169, bv ((((applyS P (⟨2, ss, 0, 0, 0, 0, 0⟩)).1) 0) == (IntKind.i64.wrap (P 0 + 1)))), (168, iv (IntKind.i64.wrap (P 0 + 1)))] (by kernel_rfl) ?_
    refine o_nil ?_
    refine ⟨⟨reg [(8, bv ((((applyS P (⟨2, ss, 0, 0, 0, 0, 0⟩)).1) 0) == (IntKind.i64.wrap (P 0 + 1))))], []⟩, Wk.ren [] rfl rfl (by decide) ⟨rfl, trivial⟩ trivial, ?_⟩
    refine gret ?_
    have e0 : ((((applyS P (⟨2, ss, 0, 0, 0, 0, 0⟩)).1) 0) == (IntKind.i64.wrap (P 0 + 1))) = true := by
     first | done | (rw [apply_err (by rw [hE]; decide)]; exact eqP_self _) | (rw [hE5, if_pos (by omega)]; rfl) | (rw [hV]; simp) | (rw [apply_ver (hE5.trans (if_neg (by omega)))]; simp)
    exact fin_ans [bv ((((applyS P (⟨2, ss, 0, 0, 0, 0, 0⟩)).1) 0) == (IntKind.i64.wrap (P 0 + 1)))] (resV_t rfl rfl) rfl (by rw [e0]; rfl) rfl rfl
   ·skip
    have hE : (applyS P ⟨3, ss, 0, 0, 0, 0, 0⟩).2 = 12 := (mv_k hM hs (k := 3) (by decide)).trans (by decide)
    refine seq_regs [(9, pv 0 0), (11, iv ss), (12, iv 3)] (by kernel_rfl) ?_
    refine gseq ?_
    refine greg ?_
    refine o_b 5 [(21, pv 2 0), (98, .agg #[iv 3, iv ss, iv 0, iv 0, iv 0, uv 0, uv 0]), (97, iv ss), (96, iv 3)] [cw (pl P), cw (entsL e2 ++ room zE m16), cw [iv 3, iv ss, iv 0, iv 0, iv 0, uv 0, uv 0]] (by kernel_rfl) ?_
    refine o_nil ?_
    refine seq_go ?_
    refine gseq ?_
    refine gseq ?_
    refine greg ?_
    refine o_d 2 [(100, bv false), (99, iv 3)] (by kernel_rfl) ?_
    refine o_nil ?_
    refine seq_go ?_
    refine gfalse rfl ?_
    refine gskip ?_
    refine seq_go ?_
    refine gseq ?_
    refine gseq ?_
    refine greg ?_
    refine o_d 2 [(105, bv false), (104, iv 3)] (by kernel_rfl) ?_
    refine o_nil ?_
    refine seq_go ?_
    refine gfalse rfl ?_
    refine gskip ?_
    refine seq_go ?_
    refine gseq ?_
    refine gdregD [cw (pl P), cw (entsL e2 ++ room zE m16), cw [iv 3, iv ss, iv 0, iv 0, iv 0, uv 0, uv 0], .gone, .gone, .gone, .gone, .gone, .gone, .gone] (by kernel_rfl) ?_
    refine d_n 13 13 10 [(119, pv 0 3), (118, iv ss), (117, sv 5 0 5 5), (116, pv 9 2), (115, iv 2), (114, iv 3), (113, sv 9 0 6 6), (112, sv 8 0 5 5), (111, sv 7 0 5 5), (110, sv 6 0 5 5), (109, sv 5 0 5 5), (108, sv 4 0 5 5), (107, sv 3 0 5 5)] [cw (pl P), cw (entsL e2 ++ room zE m16), cw [iv 3, iv ss, iv 0, iv 0, iv 0, uv 0, uv 0], cw [iv 1, iv (-1), iv (-1), iv (-1), iv (-1)], cw [iv (-1), iv 2, iv (-1), iv 2, iv (-1)], cw [iv (-1), iv (-1), iv 3, iv (-1), iv (-1)], cw [iv (-1), iv 4, iv (-1), iv 4, iv (-1)], cw [iv (-1), iv (-1), iv (-1), iv (-1), iv 0], cw [iv 0, iv 1, iv 2, iv 3, iv 4], cw [sv 3 0 5 5, sv 4 0 5 5, sv 5 0 5 5, sv 6 0 5 5, sv 7 0 5 5, sv 8 0 5 5]] [⟨10, [9], [], none⟩, ⟨6, [], [9], none⟩, ⟨5, [], [8], none⟩, ⟨4, [], [7], none⟩, ⟨3, [], [6], none⟩, ⟨2, [], [5], none⟩, ⟨1, [], [4], none⟩, ⟨0, [], [3], none⟩] (by kernel_rfl) rfl rfl ?_
    refine d_s rfl rfl rfl (by kernel_rfl) (by exact run_iadA (o := 3) (o' := 3 + 5 * ss.toNat) rfl rfl (by omega) (by omega)) ?_
    refine d_s rfl rfl rfl (by kernel_rfl) (by refine run_fad (o' := 3 + 5 * ss.toNat) rfl (by omega)) ?_
    refine d_s rfl rfl rfl (by kernel_rfl) (by refine run_ld (v := iv 1) rfl rfl ?_; exact (pl_r P (3 + 5 * ss.toNat) (by omega) (by omega)).trans (congrArg (fun x => some (iv x)) hM.cur)) ?_
    refine d_n 3 19 10 [(22, iv (-1)), (124, iv (-1)), (123, pv 5 1)] [cw (pl P), cw (entsL e2 ++ room zE m16), cw [iv 3, iv ss, iv 0, iv 0, iv 0, uv 0, uv 0], cw [iv 1, iv (-1), iv (-1), iv (-1), iv (-1)], cw [iv (-1), iv 2, iv (-1), iv 2, iv (-1)], cw [iv (-1), iv (-1), iv 3, iv (-1), iv (-1)], cw [iv (-1), iv 4, iv (-1), iv 4, iv (-1)], cw [iv (-1), iv (-1), iv (-1), iv (-1), iv 0], cw [iv 0, iv 1, iv 2, iv 3, iv 4], cw [sv 3 0 5 5, sv 4 0 5 5, sv 5 0 5 5, sv 6 0 5 5, sv 7 0 5 5, sv 8 0 5 5]] [⟨17, [5], [], none⟩, ⟨15, [0], [], none⟩, ⟨10, [9], [], none⟩, ⟨6, [], [9], none⟩, ⟨5, [], [8], none⟩, ⟨4, [], [7], none⟩, ⟨3, [], [6], none⟩, ⟨2, [], [5], none⟩, ⟨1, [], [4], none⟩, ⟨0, [], [3], none⟩] (by kernel_rfl) rfl rfl ?_
    refine d_nil ?_
    refine ⟨⟨reg [(22, iv (-1)), (21, pv 2 0), (9, pv 0 0), (11, iv ss), (12, iv 3)], [cw (pl P), cw (entsL e2 ++ room zE m16), cw [iv 3, iv ss, iv 0, iv 0, iv 0, uv 0, uv 0]]⟩, Wk.ren [0, 1, 2] rfl rfl (by decide) ⟨rfl, ⟨rfl, ⟨rfl, ⟨rfl, ⟨rfl, trivial⟩⟩⟩⟩⟩ ⟨.inl (ren_cells (pl_scl P)), ⟨.inl (ren_cells (entsR_scl e2 m16)), ⟨.inl rfl, trivial⟩⟩⟩, ?_⟩
    refine gseq ?_
    refine greg ?_
    refine o_s (by refine run_ld (v := poolV P) rfl rfl ?_; exact pl_all P) ?_
    refine o_d 1 [(127, .agg #[iv 3, iv ss, iv 0, iv 0, iv 0, uv 0, uv 0])] (by kernel_rfl) ?_
    refine o_cl (callV (ApplyC h_pool_Apply h_pool_may h_pool_held h_pool_fits h_pool_Check h_pool_placed h_cookie_Next P (⟨3, ss, 0, 0, 0, 0, 0⟩)) rfl (all_cons (poolV_vpf P) (all_cons rfl rfl)) (all_cons (poolV_aggf ((applyS P (⟨3, ss, 0, 0, 0, 0, 0⟩)).1)) (all_cons rfl rfl)) ?_)
    refine o_b 4 [(23, pv 3 0), (130, iv ((applyS P (⟨3, ss, 0, 0, 0, 0, 0⟩)).2)), (129, poolV ((applyS P (⟨3, ss, 0, 0, 0, 0, 0⟩)).1)), (125, .tuple #[poolV ((applyS P (⟨3, ss, 0, 0, 0, 0, 0⟩)).1), iv ((applyS P (⟨3, ss, 0, 0, 0, 0, 0⟩)).2)])] [cw (pl P), cw (entsL e2 ++ room zE m16), cw [iv 3, iv ss, iv 0, iv 0, iv 0, uv 0, uv 0], cw (pl zeroP)] (by kernel_rfl) ?_
    refine o_s0 (by refine run_st (c' := pl ((applyS P (⟨3, ss, 0, 0, 0, 0, 0⟩)).1)) rfl rfl rfl ?_ ?_ ?_; exact pl_length _; exact pl_le (by omega); exact splice_pl0 zeroP ((applyS P (⟨3, ss, 0, 0, 0, 0, 0⟩)).1)) ?_
    refine o_b 1 [(24, iv ((applyS P (⟨3, ss, 0, 0, 0, 0, 0⟩)).2))] [cw (pl P), cw (entsL e2 ++ room zE m16), cw [iv 3, iv ss, iv 0, iv 0, iv 0, uv 0, uv 0], cw (pl ((applyS P (⟨3, ss, 0, 0, 0, 0, 0⟩)).1))] (by kernel_rfl) ?_
    refine o_nil ?_
    refine seq_go ?_
    refine gseq ?_
    refine gseq ?_
    refine greg ?_
    refine o_d 2 [(132, bv true), (131, iv (-1))] (by kernel_rfl) ?_
    refine o_nil ?_
    refine seq_go ?_
    refine gtrue rfl ?_
    refine gseq ?_
    refine greg ?_
    refine o_d 3 [(135, bv (((applyS P (⟨3, ss, 0, 0, 0, 0, 0⟩)).2) == 12)), (134, bv (((applyS P (⟨3, ss, 0, 0, 0, 0, 0⟩)).2) == 12)), (133, iv ((applyS P (⟨3, ss, 0, 0, 0, 0, 0⟩)).2))] (by kernel_rfl) ?_
    refine o_sp (b := ((applyS P (⟨3, ss, 0, 0, 0, 0, 0⟩)).2) == 12) 135 rfl (fun k28 => ?_) (fun q => by rw [(by rw [hE]; rfl : (((applyS P (⟨3, ss, 0, 0, 0, 0, 0⟩)).2) == 12) = true)] at q; cases q)
    refine o_unguard rfl ?_
    refine o_s (by refine run_ld (v := poolV ((applyS P (⟨3, ss, 0, 0, 0, 0, 0⟩)).1)) rfl rfl ?_; exact pl_all ((applyS P (⟨3, ss, 0, 0, 0, 0, 0⟩)).1)) ?_
    refine o_unguard rfl ?_
    refine o_s (by refine run_bld (c := pl zeroP) ?_; exact bld_zP) ?_
    refine o_unguard rfl ?_
    refine o_s (by refine run_eqa (a := ⟨pl ((applyS P (⟨3, ss, 0, 0, 0, 0, 0⟩)).1)⟩) (b := ⟨pl zeroP⟩) (r := eqP ((applyS P (⟨3, ss, 0, 0, 0, 0, 0⟩)).1) zeroP) (R := eqP ((applyS P (⟨3, ss, 0, 0, 0, 0, 0⟩)).1) zeroP) ?_ rfl; exact eqP_run ((applyS P (⟨3, ss, 0, 0, 0, 0, 0⟩)).1) zeroP rfl rfl) ?_
    refine o_d 2 [(8, bv (eqP ((applyS P (⟨3, ss, 0, 0, 0, 0, 0⟩)).1) zeroP)), (139, bv (eqP ((applyS P (⟨3, ss, 0, 0, 0, 0, 0⟩)).1) zeroP))] (by kernel_rfl) ?_
    refine o_nil ?_
    refine ⟨⟨reg [(8, bv (eqP ((applyS P (⟨3, ss, 0, 0, 0, 0, 0⟩)).1) zeroP))], []⟩, Wk.ren [] rfl rfl (by decide) ⟨rfl, trivial⟩ trivial, ?_⟩
    refine gret ?_
    have e0 : (eqP ((applyS P (⟨3, ss, 0, 0, 0, 0, 0⟩)).1) zeroP) = true := by
     first | done | (rw [apply_err (by rw [hE]; decide)]; exact eqP_self _) | (rw [hE5, if_pos (by omega)]; rfl) | (rw [hV]; simp) | (rw [apply_ver (hE5.trans (if_neg (by omega)))]; simp)
    exact fin_ans [bv (eqP ((applyS P (⟨3, ss, 0, 0, 0, 0, 0⟩)).1) zeroP)] (resV_t rfl rfl) rfl (by rw [e0]; rfl) rfl rfl
   ·skip
    have hE : (applyS P ⟨4, ss, 0, 0, 0, 0, 0⟩).2 = 0 := (mv_k hM hs (k := 4) (by decide)).trans (by decide)
    have hS : (applyS P ⟨4, ss, 0, 0, 0, 0, 0⟩).1 (3 + 5 * ss.toNat) = 4 := (moves_to hM hs rfl ⟨by simp, by simp⟩ hE).trans rfl
    have hV := apply_ver hE
    refine seq_regs [(9, pv 0 0), (11, iv ss), (12, iv 4)] (by kernel_rfl) ?_
    refine gseq ?_
    refine greg ?_
    refine o_b 5 [(21, pv 2 0), (98, .agg #[iv 4, iv ss, iv 0, iv 0, iv 0, uv 0, uv 0]), (97, iv ss), (96, iv 4)] [cw (pl P), cw (entsL e2 ++ room zE m16), cw [iv 4, iv ss, iv 0, iv 0, iv 0, uv 0, uv 0]] (by kernel_rfl) ?_
    refine o_nil ?_
    refine seq_go ?_
    refine gseq ?_
    refine gseq ?_
    refine greg ?_
    refine o_d 2 [(100, bv false), (99, iv 4)] (by kernel_rfl) ?_
    refine o_nil ?_
    refine seq_go ?_
    refine gfalse rfl ?_
    refine gskip ?_
    refine seq_go ?_
    refine gseq ?_
    refine gseq ?_
    refine greg ?_
    refine o_d 2 [(105, bv false), (104, iv 4)] (by kernel_rfl) ?_
    refine o_nil ?_
    refine seq_go ?_
    refine gfalse rfl ?_
    refine gskip ?_
    refine seq_go ?_
    refine gseq ?_
    refine gdregD [cw (pl P), cw (entsL e2 ++ room zE m16), cw [iv 4, iv ss, iv 0, iv 0, iv 0, uv 0, uv 0], .gone, .gone, .gone, .gone, .gone, .gone, .gone] (by kernel_rfl) ?_
    refine d_n 13 13 10 [(119, pv 0 3), (118, iv ss), (117, sv 6 0 5 5), (116, pv 9 3), (115, iv 3), (114, iv 4), (113, sv 9 0 6 6), (112, sv 8 0 5 5), (111, sv 7 0 5 5), (110, sv 6 0 5 5), (109, sv 5 0 5 5), (108, sv 4 0 5 5), (107, sv 3 0 5 5)] [cw (pl P), cw (entsL e2 ++ room zE m16), cw [iv 4, iv ss, iv 0, iv 0, iv 0, uv 0, uv 0], cw [iv 1, iv (-1), iv (-1), iv (-1), iv (-1)], cw [iv (-1), iv 2, iv (-1), iv 2, iv (-1)], cw [iv (-1), iv (-1), iv 3, iv (-1), iv (-1)], cw [iv (-1), iv 4, iv (-1), iv 4, iv (-1)], cw [iv (-1), iv (-1), iv (-1), iv (-1), iv 0], cw [iv 0, iv 1, iv 2, iv 3, iv 4], cw [sv 3 0 5 5, sv 4 0 5 5, sv 5 0 5 5, sv 6 0 5 5, sv 7 0 5 5, sv 8 0 5 5]] [⟨10, [9], [], none⟩, ⟨6, [], [9], none⟩, ⟨5, [], [8], none⟩, ⟨4, [], [7], none⟩, ⟨3, [], [6], none⟩, ⟨2, [], [5], none⟩, ⟨1, [], [4], none⟩, ⟨0, [], [3], none⟩] (by kernel_rfl) rfl rfl ?_
    refine d_s rfl rfl rfl (by kernel_rfl) (by exact run_iadA (o := 3) (o' := 3 + 5 * ss.toNat) rfl rfl (by omega) (by omega)) ?_
    refine d_s rfl rfl rfl (by kernel_rfl) (by refine run_fad (o' := 3 + 5 * ss.toNat) rfl (by omega)) ?_
    refine d_s rfl rfl rfl (by kernel_rfl) (by refine run_ld (v := iv 1) rfl rfl ?_; exact (pl_r P (3 + 5 * ss.toNat) (by omega) (by omega)).trans (congrArg (fun x => some (iv x)) hM.cur)) ?_
    refine d_n 3 19 10 [(22, iv 4), (124, iv 4), (123, pv 6 1)] [cw (pl P), cw (entsL e2 ++ room zE m16), cw [iv 4, iv ss, iv 0, iv 0, iv 0, uv 0, uv 0], cw [iv 1, iv (-1), iv (-1), iv (-1), iv (-1)], cw [iv (-1), iv 2, iv (-1), iv 2, iv (-1)], cw [iv (-1), iv (-1), iv 3, iv (-1), iv (-1)], cw [iv (-1), iv 4, iv (-1), iv 4, iv (-1)], cw [iv (-1), iv (-1), iv (-1), iv (-1), iv 0], cw [iv 0, iv 1, iv 2, iv 3, iv 4], cw [sv 3 0 5 5, sv 4 0 5 5, sv 5 0 5 5, sv 6 0 5 5, sv 7 0 5 5, sv 8 0 5 5]] [⟨17, [6], [], none⟩, ⟨15, [0], [], none⟩, ⟨10, [9], [], none⟩, ⟨6, [], [9], none⟩, ⟨5, [], [8], none⟩, ⟨4, [], [7], none⟩, ⟨3, [], [6], none⟩, ⟨2, [], [5], none⟩, ⟨1, [], [4], none⟩, ⟨0, [], [3], none⟩] (by kernel_rfl) rfl rfl ?_
    refine d_nil ?_
    refine ⟨⟨reg [(22, iv 4), (21, pv 2 0), (9, pv 0 0), (11, iv ss), (12, iv 4)], [cw (pl P), cw (entsL e2 ++ room zE m16), cw [iv 4, iv ss, iv 0, iv 0, iv 0, uv 0, uv 0]]⟩, Wk.ren [0, 1, 2] rfl rfl (by decide) ⟨rfl, ⟨rfl, ⟨rfl, ⟨rfl, ⟨rfl, trivial⟩⟩⟩⟩⟩ ⟨.inl (ren_cells (pl_scl P)), ⟨.inl (ren_cells (entsR_scl e2 m16)), ⟨.inl rfl, trivial⟩⟩⟩, ?_⟩
    refine gseq ?_
    refine greg ?_
    refine o_s (by refine run_ld (v := poolV P) rfl rfl ?_; exact pl_all P) ?_
    refine o_d 1 [(127, .agg #[iv 4, iv ss, iv 0, iv 0, iv 0, uv 0, uv 0])] (by kernel_rfl) ?_
    refine o_cl (callV (ApplyC h_pool_Apply h_pool_may h_pool_held h_pool_fits h_pool_Check h_pool_placed h_cookie_Next P (⟨4, ss, 0, 0, 0, 0, 0⟩)) rfl (all_cons (poolV_vpf P) (all_cons rfl rfl)) (all_cons (poolV_aggf ((applyS P (⟨4, ss, 0, 0, 0, 0, 0⟩)).1)) (all_cons rfl rfl)) ?_)
    refine o_b 4 [(23, pv 3 0), (130, iv ((applyS P (⟨4, ss, 0, 0, 0, 0, 0⟩)).2)), (129, poolV ((applyS P (⟨4, ss, 0, 0, 0, 0, 0⟩)).1)), (125, .tuple #[poolV ((applyS P (⟨4, ss, 0, 0, 0, 0, 0⟩)).1), iv ((applyS P (⟨4, ss, 0, 0, 0, 0, 0⟩)).2)])] [cw (pl P), cw (entsL e2 ++ room zE m16), cw [iv 4, iv ss, iv 0, iv 0, iv 0, uv 0, uv 0], cw (pl zeroP)] (by kernel_rfl) ?_
    refine o_s0 (by refine run_st (c' := pl ((applyS P (⟨4, ss, 0, 0, 0, 0, 0⟩)).1)) rfl rfl rfl ?_ ?_ ?_; exact pl_length _; exact pl_le (by omega); exact splice_pl0 zeroP ((applyS P (⟨4, ss, 0, 0, 0, 0, 0⟩)).1)) ?_
    refine o_b 1 [(24, iv ((applyS P (⟨4, ss, 0, 0, 0, 0, 0⟩)).2))] [cw (pl P), cw (entsL e2 ++ room zE m16), cw [iv 4, iv ss, iv 0, iv 0, iv 0, uv 0, uv 0], cw (pl ((applyS P (⟨4, ss, 0, 0, 0, 0, 0⟩)).1))] (by kernel_rfl) ?_
    refine o_nil ?_
    refine seq_go ?_
    refine gseq ?_
    refine gseq ?_
    refine greg ?_
    refine o_d 2 [(132, bv false), (131, iv 4)] (by kernel_rfl) ?_
    refine o_nil ?_
    refine seq_go ?_
    refine gfalse rfl ?_
    refine gskip ?_
    refine seq_go ?_
    refine gseq ?_
    refine gseq ?_
    refine greg ?_
    refine o_d 10 [(149, bv false), (148, undef), (147, undef), (146, undef), (145, undef), (144, undef), (143, undef), (142, bv false), (141, bv false), (140, iv 4)] (by kernel_rfl) ?_
    refine o_nil ?_
    refine seq_go ?_
    refine gfalse rfl ?_
    refine gskip ?_
    refine seq_go ?_
    refine gseq ?_
    refine greg ?_
    refine o_d 3 [(154, bv (((applyS P (⟨4, ss, 0, 0, 0, 0, 0⟩)).2) == 0)), (153, bv (((applyS P (⟨4, ss, 0, 0, 0, 0, 0⟩)).2) == 0)), (152, iv ((applyS P (⟨4, ss, 0, 0, 0, 0, 0⟩)).2))] (by kernel_rfl) ?_
    refine o_sp (b := ((applyS P (⟨4, ss, 0, 0, 0, 0, 0⟩)).2) == 0) 154 rfl (fun k29 => ?_) (fun q => by rw [(by rw [hE]; rfl : (((applyS P (⟨4, ss, 0, 0, 0, 0, 0⟩)).2) == 0) = true)] at q; cases q)
    refine o_d 2 [(156, pv 3 3), (155, iv ss)] (by kernel_rfl) ?_
    refine o_unguard rfl ?_
    refine o_s (by exact run_iadA (o := 3) (o' := 3 + 5 * ss.toNat) rfl rfl (by omega) (by omega)) ?_
    refine o_unguard rfl ?_
    refine o_s (by refine run_fad (o' := 3 + 5 * ss.toNat) rfl (by omega)) ?_
    refine o_unguard rfl ?_
    refine o_s (by refine run_ld (v := iv (((applyS P (⟨4, ss, 0, 0, 0, 0, 0⟩)).1) (3 + 5 * ss.toNat))) rfl rfl ?_; exact pl_r ((applyS P (⟨4, ss, 0, 0, 0, 0, 0⟩)).1) (3 + 5 * ss.toNat) (by omega) (by omega)) ?_
    refine o_d 4 [(163, bv ((((applyS P (⟨4, ss, 0, 0, 0, 0, 0⟩)).1) (3 + 5 * ss.toNat)) == 4)), (162, bv ((((applyS P (⟨4, ss, 0, 0, 0, 0, 0⟩)).1) (3 + 5 * ss.toNat)) == 4)), (161, bv ((((applyS P (⟨4, ss, 0, 0, 0, 0, 0⟩)).1) (3 + 5 * ss.toNat)) == 4)), (160, iv 4)] (by kernel_rfl) ?_
    refine o_sp (b := (((applyS P (⟨4, ss, 0, 0, 0, 0, 0⟩)).1) (3 + 5 * ss.toNat)) == 4) 163 rfl (fun k30 => ?_) (fun q => by rw [(by rw [hS]; rfl : ((((applyS P (⟨4, ss, 0, 0, 0, 0, 0⟩)).1) (3 + 5 * ss.toNat)) == 4) = true)] at q; cases q)
    refine o_d 1 [(164, pv 3 0)] (by kernel_rfl) ?_
    refine o_unguard rfl ?_
    refine o_s (by refine run_ld (v := iv (((applyS P (⟨4, ss, 0, 0, 0, 0, 0⟩)).1) 0)) rfl rfl ?_; exact pl_r ((applyS P (⟨4, ss, 0, 0, 0, 0, 0⟩)).1) 0 rfl (by omega)) ?_
    refine o_d 1 [(166, pv 0 0)] (by kernel_rfl) ?_
    refine o_unguard rfl ?_
    refine o_s (by refine run_ld (v := iv (P 0)) rfl rfl ?_; exact pl_r P 0 rfl (by omega)) ?_
    refine o_d 4 [(8, bv ((((applyS P (⟨4, ss, 0, 0, 0, 0, 0⟩)).1) 0) == (IntKind.i64.wrap (P 0 + 1)))), (170, bv ((((applyS P (⟨4, ss, 0, 0, 0, 0, 0⟩)).1) 0) == (IntKind.i64.wrap (P 0 + 1)))), (169, bv ((((applyS P (⟨4, ss, 0, 0, 0, 0, 0⟩)).1) 0) == (IntKind.i64.wrap (P 0 + 1)))), (168, iv (IntKind.i64.wrap (P 0 + 1)))] (by kernel_rfl) ?_
    refine o_nil ?_
    refine ⟨⟨reg [(8, bv ((((applyS P (⟨4, ss, 0, 0, 0, 0, 0⟩)).1) 0) == (IntKind.i64.wrap (P 0 + 1))))], []⟩, Wk.ren [] rfl rfl (by decide) ⟨rfl, trivial⟩ trivial, ?_⟩
    refine gret ?_
    have e0 : ((((applyS P (⟨4, ss, 0, 0, 0, 0, 0⟩)).1) 0) == (IntKind.i64.wrap (P 0 + 1))) = true := by
     first | done | (rw [apply_err (by rw [hE]; decide)]; exact eqP_self _) | (rw [hE5, if_pos (by omega)]; rfl) | (rw [hV]; simp) | (rw [apply_ver (hE5.trans (if_neg (by omega)))]; simp)
    exact fin_ans [bv ((((applyS P (⟨4, ss, 0, 0, 0, 0, 0⟩)).1) 0) == (IntKind.i64.wrap (P 0 + 1)))] (resV_t rfl rfl) rfl (by rw [e0]; rfl) rfl rfl
   ·skip
    have hE : (applyS P ⟨5, ss, 0, 0, 0, 0, 0⟩).2 = 12 := (mv_free hM hs (by omega)).trans (if_neg (by decide))
    refine seq_regs [(9, pv 0 0), (11, iv ss), (12, iv 5)] (by kernel_rfl) ?_
    refine gseq ?_
    refine greg ?_
    refine o_b 5 [(21, pv 2 0), (98, .agg #[iv 5, iv ss, iv 0, iv 0, iv 0, uv 0, uv 0]), (97, iv ss), (96, iv 5)] [cw (pl P), cw (entsL e2 ++ room zE m16), cw [iv 5, iv ss, iv 0, iv 0, iv 0, uv 0, uv 0]] (by kernel_rfl) ?_
    refine o_nil ?_
    refine seq_go ?_
    refine gseq ?_
    refine gseq ?_
    refine greg ?_
    refine o_d 2 [(100, bv false), (99, iv 5)] (by kernel_rfl) ?_
    refine o_nil ?_
    refine seq_go ?_
    refine gfalse rfl ?_
    refine gskip ?_
    refine seq_go ?_
    refine gseq ?_
    refine gseq ?_
    refine greg ?_
    refine o_d 2 [(105, bv false), (104, iv 5)] (by kernel_rfl) ?_
    refine o_nil ?_
    refine seq_go ?_
    refine gfalse rfl ?_
    refine gskip ?_
    refine seq_go ?_
    refine gseq ?_
    refine gdregD [cw (pl P), cw (entsL e2 ++ room zE m16), cw [iv 5, iv ss, iv 0, iv 0, iv 0, uv 0, uv 0], .gone, .gone, .gone, .gone, .gone, .gone, .gone] (by kernel_rfl) ?_
    refine d_n 13 13 10 [(119, pv 0 3), (118, iv ss), (117, sv 7 0 5 5), (116, pv 9 4), (115, iv 4), (114, iv 5), (113, sv 9 0 6 6), (112, sv 8 0 5 5), (111, sv 7 0 5 5), (110, sv 6 0 5 5), (109, sv 5 0 5 5), (108, sv 4 0 5 5), (107, sv 3 0 5 5)] [cw (pl P), cw (entsL e2 ++ room zE m16), cw [iv 5, iv ss, iv 0, iv 0, iv 0, uv 0, uv 0], cw [iv 1, iv (-1), iv (-1), iv (-1), iv (-1)], cw [iv (-1), iv 2, iv (-1), iv 2, iv (-1)], cw [iv (-1), iv (-1), iv 3, iv (-1), iv (-1)], cw [iv (-1), iv 4, iv (-1), iv 4, iv (-1)], cw [iv (-1), iv (-1), iv (-1), iv (-1), iv 0], cw [iv 0, iv 1, iv 2, iv 3, iv 4], cw [sv 3 0 5 5, sv 4 0 5 5, sv 5 0 5 5, sv 6 0 5 5, sv 7 0 5 5, sv 8 0 5 5]] [⟨10, [9], [], none⟩, ⟨6, [], [9], none⟩, ⟨5, [], [8], none⟩, ⟨4, [], [7], none⟩, ⟨3, [], [6], none⟩, ⟨2, [], [5], none⟩, ⟨1, [], [4], none⟩, ⟨0, [], [3], none⟩] (by kernel_rfl) rfl rfl ?_
    refine d_s rfl rfl rfl (by kernel_rfl) (by exact run_iadA (o := 3) (o' := 3 + 5 * ss.toNat) rfl rfl (by omega) (by omega)) ?_
    refine d_s rfl rfl rfl (by kernel_rfl) (by refine run_fad (o' := 3 + 5 * ss.toNat) rfl (by omega)) ?_
    refine d_s rfl rfl rfl (by kernel_rfl) (by refine run_ld (v := iv 1) rfl rfl ?_; exact (pl_r P (3 + 5 * ss.toNat) (by omega) (by omega)).trans (congrArg (fun x => some (iv x)) hM.cur)) ?_
    refine d_n 3 19 10 [(22, iv (-1)), (124, iv (-1)), (123, pv 7 1)] [cw (pl P), cw (entsL e2 ++ room zE m16), cw [iv 5, iv ss, iv 0, iv 0, iv 0, uv 0, uv 0], cw [iv 1, iv (-1), iv (-1), iv (-1), iv (-1)], cw [iv (-1), iv 2, iv (-1), iv 2, iv (-1)], cw [iv (-1), iv (-1), iv 3, iv (-1), iv (-1)], cw [iv (-1), iv 4, iv (-1), iv 4, iv (-1)], cw [iv (-1), iv (-1), iv (-1), iv (-1), iv 0], cw [iv 0, iv 1, iv 2, iv 3, iv 4], cw [sv 3 0 5 5, sv 4 0 5 5, sv 5 0 5 5, sv 6 0 5 5, sv 7 0 5 5, sv 8 0 5 5]] [⟨17, [7], [], none⟩, ⟨15, [0], [], none⟩, ⟨10, [9], [], none⟩, ⟨6, [], [9], none⟩, ⟨5, [], [8], none⟩, ⟨4, [], [7], none⟩, ⟨3, [], [6], none⟩, ⟨2, [], [5], none⟩, ⟨1, [], [4], none⟩, ⟨0, [], [3], none⟩] (by kernel_rfl) rfl rfl ?_
    refine d_nil ?_
    refine ⟨⟨reg [(22, iv (-1)), (21, pv 2 0), (9, pv 0 0), (11, iv ss), (12, iv 5)], [cw (pl P), cw (entsL e2 ++ room zE m16), cw [iv 5, iv ss, iv 0, iv 0, iv 0, uv 0, uv 0]]⟩, Wk.ren [0, 1, 2] rfl rfl (by decide) ⟨rfl, ⟨rfl, ⟨rfl, ⟨rfl, ⟨rfl, trivial⟩⟩⟩⟩⟩ ⟨.inl (ren_cells (pl_scl P)), ⟨.inl (ren_cells (entsR_scl e2 m16)), ⟨.inl rfl, trivial⟩⟩⟩, ?_⟩
    refine gseq ?_
    refine greg ?_
    refine o_s (by refine run_ld (v := poolV P) rfl rfl ?_; exact pl_all P) ?_
    refine o_d 1 [(127, .agg #[iv 5, iv ss, iv 0, iv 0, iv 0, uv 0, uv 0])] (by kernel_rfl) ?_
    refine o_cl (callV (ApplyC h_pool_Apply h_pool_may h_pool_held h_pool_fits h_pool_Check h_pool_placed h_cookie_Next P (⟨5, ss, 0, 0, 0, 0, 0⟩)) rfl (all_cons (poolV_vpf P) (all_cons rfl rfl)) (all_cons (poolV_aggf ((applyS P (⟨5, ss, 0, 0, 0, 0, 0⟩)).1)) (all_cons rfl rfl)) ?_)
    refine o_b 4 [(23, pv 3 0), (130, iv ((applyS P (⟨5, ss, 0, 0, 0, 0, 0⟩)).2)), (129, poolV ((applyS P (⟨5, ss, 0, 0, 0, 0, 0⟩)).1)), (125, .tuple #[poolV ((applyS P (⟨5, ss, 0, 0, 0, 0, 0⟩)).1), iv ((applyS P (⟨5, ss, 0, 0, 0, 0, 0⟩)).2)])] [cw (pl P), cw (entsL e2 ++ room zE m16), cw [iv 5, iv ss, iv 0, iv 0, iv 0, uv 0, uv 0], cw (pl zeroP)] (by kernel_rfl) ?_
    refine o_s0 (by refine run_st (c' := pl ((applyS P (⟨5, ss, 0, 0, 0, 0, 0⟩)).1)) rfl rfl rfl ?_ ?_ ?_; exact pl_length _; exact pl_le (by omega); exact splice_pl0 zeroP ((applyS P (⟨5, ss, 0, 0, 0, 0, 0⟩)).1)) ?_
    refine o_b 1 [(24, iv ((applyS P (⟨5, ss, 0, 0, 0, 0, 0⟩)).2))] [cw (pl P), cw (entsL e2 ++ room zE m16), cw [iv 5, iv ss, iv 0, iv 0, iv 0, uv 0, uv 0], cw (pl ((applyS P (⟨5, ss, 0, 0, 0, 0, 0⟩)).1))] (by kernel_rfl) ?_
    refine o_nil ?_
    refine seq_go ?_
    refine gseq ?_
    refine gseq ?_
    refine greg ?_
    refine o_d 2 [(132, bv true), (131, iv (-1))] (by kernel_rfl) ?_
    refine o_nil ?_
    refine seq_go ?_
    refine gtrue rfl ?_
    refine gseq ?_
    refine greg ?_
    refine o_d 3 [(135, bv (((applyS P (⟨5, ss, 0, 0, 0, 0, 0⟩)).2) == 12)), (134, bv (((applyS P (⟨5, ss, 0, 0, 0, 0, 0⟩)).2) == 12)), (133, iv ((applyS P (⟨5, ss, 0, 0, 0, 0, 0⟩)).2))] (by kernel_rfl) ?_
    refine o_sp (b := ((applyS P (⟨5, ss, 0, 0, 0, 0, 0⟩)).2) == 12) 135 rfl (fun k31 => ?_) (fun q => by rw [(by rw [hE]; rfl : (((applyS P (⟨5, ss, 0, 0, 0, 0, 0⟩)).2) == 12) = true)] at q; cases q)
    refine o_unguard rfl ?_
    refine o_s (by refine run_ld (v := poolV ((applyS P (⟨5, ss, 0, 0, 0, 0, 0⟩)).1)) rfl rfl ?_; exact pl_all ((applyS P (⟨5, ss, 0, 0, 0, 0, 0⟩)).1)) ?_
    refine o_unguard rfl ?_
    refine o_s (by refine run_bld (c := pl zeroP) ?_; exact bld_zP) ?_
    refine o_unguard rfl ?_
    refine o_s (by refine run_eqa (a := ⟨pl ((applyS P (⟨5, ss, 0, 0, 0, 0, 0⟩)).1)⟩) (b := ⟨pl zeroP⟩) (r := eqP ((applyS P (⟨5, ss, 0, 0, 0, 0, 0⟩)).1) zeroP) (R := eqP ((applyS P (⟨5, ss, 0, 0, 0, 0, 0⟩)).1) zeroP) ?_ rfl; exact eqP_run ((applyS P (⟨5, ss, 0, 0, 0, 0, 0⟩)).1) zeroP rfl rfl) ?_
    refine o_d 2 [(8, bv (eqP ((applyS P (⟨5, ss, 0, 0, 0, 0, 0⟩)).1) zeroP)), (139, bv (eqP ((applyS P (⟨5, ss, 0, 0, 0, 0, 0⟩)).1) zeroP))] (by kernel_rfl) ?_
    refine o_nil ?_
    refine ⟨⟨reg [(8, bv (eqP ((applyS P (⟨5, ss, 0, 0, 0, 0, 0⟩)).1) zeroP))], []⟩, Wk.ren [] rfl rfl (by decide) ⟨rfl, trivial⟩ trivial, ?_⟩
    refine gret ?_
    have e0 : (eqP ((applyS P (⟨5, ss, 0, 0, 0, 0, 0⟩)).1) zeroP) = true := by
     first | done | (rw [apply_err (by rw [hE]; decide)]; exact eqP_self _) | (rw [hE5, if_pos (by omega)]; rfl) | (rw [hV]; simp) | (rw [apply_ver (hE5.trans (if_neg (by omega)))]; simp)
    exact fin_ans [bv (eqP ((applyS P (⟨5, ss, 0, 0, 0, 0, 0⟩)).1) zeroP)] (resV_t rfl rfl) rfl (by rw [e0]; rfl) rfl rfl
   ·skip
    obtain ⟨hE, hS⟩ := moves_rot hM hs 0 0
    have hV := apply_ver hE
    refine seq_regs [(9, pv 0 0), (11, iv ss), (12, iv 6)] (by kernel_rfl) ?_
    refine gseq ?_
    refine greg ?_
    refine o_b 5 [(21, pv 2 0), (98, .agg #[iv 6, iv ss, iv 0, iv 0, iv 0, uv 0, uv 0]), (97, iv ss), (96, iv 6)] [cw (pl P), cw (entsL e2 ++ room zE m16), cw [iv 6, iv ss, iv 0, iv 0, iv 0, uv 0, uv 0]] (by kernel_rfl) ?_
    refine o_nil ?_
    refine seq_go ?_
    refine gseq ?_
    refine gseq ?_
    refine greg ?_
    refine o_d 2 [(100, bv false), (99, iv 6)] (by kernel_rfl) ?_
    refine o_nil ?_
    refine seq_go ?_
    refine gfalse rfl ?_
    refine gskip ?_
    refine seq_go ?_
    refine gseq ?_
    refine gseq ?_
    refine greg ?_
    refine o_d 2 [(105, bv true), (104, iv 6)] (by kernel_rfl) ?_
    refine o_nil ?_
    refine seq_go ?_
    refine gtrue rfl ?_
    refine greg ?_
    refine o_b 2 [(106, pv 2 1)] [cw (pl P), cw (entsL e2 ++ room zE m16), cw [iv 6, iv 0, iv 0, iv 0, iv 0, uv 0, uv 0]] (by kernel_rfl) ?_
    refine o_nil ?_
    refine seq_go ?_
    refine gseq ?_
    refine gdregD [cw (pl P), cw (entsL e2 ++ room zE m16), cw [iv 6, iv 0, iv 0, iv 0, iv 0, uv 0, uv 0], .gone, .gone, .gone, .gone, .gone, .gone, .gone] (by kernel_rfl) ?_
    refine d_n 13 13 10 [(119, pv 0 3), (118, iv ss), (117, sv 8 0 5 5), (116, pv 9 5), (115, iv 5), (114, iv 6), (113, sv 9 0 6 6), (112, sv 8 0 5 5), (111, sv 7 0 5 5), (110, sv 6 0 5 5), (109, sv 5 0 5 5), (108, sv 4 0 5 5), (107, sv 3 0 5 5)] [cw (pl P), cw (entsL e2 ++ room zE m16), cw [iv 6, iv 0, iv 0, iv 0, iv 0, uv 0, uv 0], cw [iv 1, iv (-1), iv (-1), iv (-1), iv (-1)], cw [iv (-1), iv 2, iv (-1), iv 2, iv (-1)], cw [iv (-1), iv (-1), iv 3, iv (-1), iv (-1)], cw [iv (-1), iv 4, iv (-1), iv 4, iv (-1)], cw [iv (-1), iv (-1), iv (-1), iv (-1), iv 0], cw [iv 0, iv 1, iv 2, iv 3, iv 4], cw [sv 3 0 5 5, sv 4 0 5 5, sv 5 0 5 5, sv 6 0 5 5, sv 7 0 5 5, sv 8 0 5 5]] [⟨10, [9], [], none⟩, ⟨6, [], [9], none⟩, ⟨5, [], [8], none⟩, ⟨4, [], [7], none⟩, ⟨3, [], [6], none⟩, ⟨2, [], [5], none⟩, ⟨1, [], [4], none⟩, ⟨0, [], [3], none⟩] (by kernel_rfl) rfl rfl ?_
    refine d_s rfl rfl rfl (by kernel_rfl) (by exact run_iadA (o := 3) (o' := 3 + 5 * ss.toNat) rfl rfl (by omega) (by omega)) ?_
    refine d_s rfl rfl rfl (by kernel_rfl) (by refine run_fad (o' := 3 + 5 * ss.toNat) rfl (by omega)) ?_
    refine d_s rfl rfl rfl (by kernel_rfl) (by refine run_ld (v := iv 1) rfl rfl ?_; exact (pl_r P (3 + 5 * ss.toNat) (by omega) (by omega)).trans (congrArg (fun x => some (iv x)) hM.cur)) ?_
    refine d_n 3 19 10 [(22, iv 1), (124, iv 1), (123, pv 8 1)] [cw (pl P), cw (entsL e2 ++ room zE m16), cw [iv 6, iv 0, iv 0, iv 0, iv 0, uv 0, uv 0], cw [iv 1, iv (-1), iv (-1), iv (-1), iv (-1)], cw [iv (-1), iv 2, iv (-1), iv 2, iv (-1)], cw [iv (-1), iv (-1), iv 3, iv (-1), iv (-1)], cw [iv (-1), iv 4, iv (-1), iv 4, iv (-1)], cw [iv (-1), iv (-1), iv (-1), iv (-1), iv 0], cw [iv 0, iv 1, iv 2, iv 3, iv 4], cw [sv 3 0 5 5, sv 4 0 5 5, sv 5 0 5 5, sv 6 0 5 5, sv 7 0 5 5, sv 8 0 5 5]] [⟨17, [8], [], none⟩, ⟨15, [0], [], none⟩, ⟨10, [9], [], none⟩, ⟨6, [], [9], none⟩, ⟨5, [], [8], none⟩, ⟨4, [], [7], none⟩, ⟨3, [], [6], none⟩, ⟨2, [], [5], none⟩, ⟨1, [], [4], none⟩, ⟨0, [], [3], none⟩] (by kernel_rfl) rfl rfl ?_
    refine d_nil ?_
    refine ⟨⟨reg [(22, iv 1), (21, pv 2 0), (9, pv 0 0), (11, iv ss), (12, iv 6)], [cw (pl P), cw (entsL e2 ++ room zE m16), cw [iv 6, iv 0, iv 0, iv 0, iv 0, uv 0, uv 0]]⟩, Wk.ren [0, 1, 2] rfl rfl (by decide) ⟨rfl, ⟨rfl, ⟨rfl, ⟨rfl, ⟨rfl, trivial⟩⟩⟩⟩⟩ ⟨.inl (ren_cells (pl_scl P)), ⟨.inl (ren_cells (entsR_scl e2 m16)), ⟨.inl rfl, trivial⟩⟩⟩, ?_⟩
    refine gseq ?_
    refine greg ?_
    refine o_s (by refine run_ld (v := poolV P) rfl rfl ?_; exact pl_all P) ?_
    refine o_d 1 [(127, .agg #[iv 6, iv 0, iv 0, iv 0, iv 0, uv 0, uv 0])] (by kernel_rfl) ?_
    refine o_cl (callV (ApplyC h_pool_Apply h_pool_may h_pool_held h_pool_fits h_pool_Check h_pool_placed h_cookie_Next P (⟨6, 0, 0, 0, 0, 0, 0⟩)) rfl (all_cons (poolV_vpf P) (all_cons rfl rfl)) (all_cons (poolV_aggf ((applyS P (⟨6, 0, 0, 0, 0, 0, 0⟩)).1)) (all_cons rfl rfl)) ?_)
    refine o_b 4 [(23, pv 3 0), (130, iv ((applyS P (⟨6, 0, 0, 0, 0, 0, 0⟩)).2)), (129, poolV ((applyS P (⟨6, 0, 0, 0, 0, 0, 0⟩)).1)), (125, .tuple #[poolV ((applyS P (⟨6, 0, 0, 0, 0, 0, 0⟩)).1), iv ((applyS P (⟨6, 0, 0, 0, 0, 0, 0⟩)).2)])] [cw (pl P), cw (entsL e2 ++ room zE m16), cw [iv 6, iv 0, iv 0, iv 0, iv 0, uv 0, uv 0], cw (pl zeroP)] (by kernel_rfl) ?_
    refine o_s0 (by refine run_st (c' := pl ((applyS P (⟨6, 0, 0, 0, 0, 0, 0⟩)).1)) rfl rfl rfl ?_ ?_ ?_; exact pl_length _; exact pl_le (by omega); exact splice_pl0 zeroP ((applyS P (⟨6, 0, 0, 0, 0, 0, 0⟩)).1)) ?_
    refine o_b 1 [(24, iv ((applyS P (⟨6, 0, 0, 0, 0, 0, 0⟩)).2))] [cw (pl P), cw (entsL e2 ++ room zE m16), cw [iv 6, iv 0, iv 0, iv 0, iv 0, uv 0, uv 0], cw (pl ((applyS P (⟨6, 0, 0, 0, 0, 0, 0⟩)).1))] (by kernel_rfl) ?_
    refine o_nil ?_
    refine seq_go ?_
    refine gseq ?_
    refine gseq ?_
    refine greg ?_
    refine o_d 2 [(132, bv false), (131, iv 1)] (by kernel_rfl) ?_
    refine o_nil ?_
    refine seq_go ?_
    refine gfalse rfl ?_
    refine gskip ?_
    refine seq_go ?_
    refine gseq ?_
    refine gseq ?_
    refine greg ?_
    refine o_d 10 [(149, bv false), (148, undef), (147, undef), (146, undef), (145, undef), (144, undef), (143, undef), (142, bv false), (141, bv false), (140, iv 6)] (by kernel_rfl) ?_
    refine o_nil ?_
    refine seq_go ?_
    refine gfalse rfl ?_
    refine gskip ?_
    refine seq_go ?_
    refine gseq ?_
    refine greg ?_
    refine o_d 3 [(154, bv (((applyS P (⟨6, 0, 0, 0, 0, 0, 0⟩)).2) == 0)), (153, bv (((applyS P (⟨6, 0, 0, 0, 0, 0, 0⟩)).2) == 0)), (152, iv ((applyS P (⟨6, 0, 0, 0, 0, 0, 0⟩)).2))] (by kernel_rfl) ?_
    refine o_sp (b := ((applyS P (⟨6, 0, 0, 0, 0, 0, 0⟩)).2) == 0) 154 rfl (fun k32 => ?_) (fun q => by rw [(by rw [hE]; rfl : (((applyS P (⟨6, 0, 0, 0, 0, 0, 0⟩)).2) == 0) = true)] at q; cases q)
    refine o_d 2 [(156, pv 3 3), (155, iv ss)] (by kernel_rfl) ?_
    refine o_unguard rfl ?_
    refine o_s (by exact run_iadA (o := 3) (o' := 3 + 5 * ss.toNat) rfl rfl (by omega) (by omega)) ?_
    refine o_unguard rfl ?_
    refine o_s (by refine run_fad (o' := 3 + 5 * ss.toNat) rfl (by omega)) ?_
    refine o_unguard rfl ?_
    refine o_s (by refine run_ld (v := iv (((applyS P (⟨6, 0, 0, 0, 0, 0, 0⟩)).1) (3 + 5 * ss.toNat))) rfl rfl ?_; exact pl_r ((applyS P (⟨6, 0, 0, 0, 0, 0, 0⟩)).1) (3 + 5 * ss.toNat) (by omega) (by omega)) ?_
    refine o_d 4 [(163, bv ((((applyS P (⟨6, 0, 0, 0, 0, 0, 0⟩)).1) (3 + 5 * ss.toNat)) == 1)), (162, bv ((((applyS P (⟨6, 0, 0, 0, 0, 0, 0⟩)).1) (3 + 5 * ss.toNat)) == 1)), (161, bv ((((applyS P (⟨6, 0, 0, 0, 0, 0, 0⟩)).1) (3 + 5 * ss.toNat)) == 1)), (160, iv 1)] (by kernel_rfl) ?_
    refine o_sp (b := (((applyS P (⟨6, 0, 0, 0, 0, 0, 0⟩)).1) (3 + 5 * ss.toNat)) == 1) 163 rfl (fun k33 => ?_) (fun q => by rw [(by rw [hS]; rfl : ((((applyS P (⟨6, 0, 0, 0, 0, 0, 0⟩)).1) (3 + 5 * ss.toNat)) == 1) = true)] at q; cases q)
    refine o_d 1 [(164, pv 3 0)] (by kernel_rfl) ?_
    refine o_unguard rfl ?_
    refine o_s (by refine run_ld (v := iv (((applyS P (⟨6, 0, 0, 0, 0, 0, 0⟩)).1) 0)) rfl rfl ?_; exact pl_r ((applyS P (⟨6, 0, 0, 0, 0, 0, 0⟩)).1) 0 rfl (by omega)) ?_
    refine o_d 1 [(166, pv 0 0)] (by kernel_rfl) ?_
    refine o_unguard rfl ?_
    refine o_s (by refine run_ld (v := iv (P 0)) rfl rfl ?_; exact pl_r P 0 rfl (by omega)) ?_
    refine o_d 4 [(8, bv ((((applyS P (⟨6, 0, 0, 0, 0, 0, 0⟩)).1) 0) == (IntKind.i64.wrap (P 0 + 1)))), (170, bv ((((applyS P (⟨6, 0, 0, 0, 0, 0, 0⟩)).1) 0) == (IntKind.i64.wrap (P 0 + 1)))), (169, bv ((((applyS P (⟨6, 0, 0, 0, 0, 0, 0⟩)).1) 0) == (IntKind.i64.wrap (P 0 + 1)))), (168, iv (IntKind.i64.wrap (P 0 + 1)))] (by kernel_rfl) ?_
    refine o_nil ?_
    refine ⟨⟨reg [(8, bv ((((applyS P (⟨6, 0, 0, 0, 0, 0, 0⟩)).1) 0) == (IntKind.i64.wrap (P 0 + 1))))], []⟩, Wk.ren [] rfl rfl (by decide) ⟨rfl, trivial⟩ trivial, ?_⟩
    refine gret ?_
    have e0 : ((((applyS P (⟨6, 0, 0, 0, 0, 0, 0⟩)).1) 0) == (IntKind.i64.wrap (P 0 + 1))) = true := by
     first | done | (rw [apply_err (by rw [hE]; decide)]; exact eqP_self _) | (rw [hE5, if_pos (by omega)]; rfl) | (rw [hV]; simp) | (rw [apply_ver (hE5.trans (if_neg (by omega)))]; simp)
    exact fin_ans [bv ((((applyS P (⟨6, 0, 0, 0, 0, 0, 0⟩)).1) 0) == (IntKind.i64.wrap (P 0 + 1)))] (resV_t rfl rfl) rfl (by rw [e0]; rfl) rfl rfl
  ·rcases hkk6 with rfl | rfl | rfl | rfl | rfl | rfl
   ·skip
    have hE : (applyS P ⟨1, ss, 1, 2, 3, 0, 0⟩).2 = 12 := (mv_bind hM hs (a := 1) (p := 2) (g := 3) (by decide) (by decide) (by decide)).trans (by decide)
    refine seq_regs [(9, pv 0 0), (11, iv ss), (12, iv 1)] (by kernel_rfl) ?_
    refine gseq ?_
    refine greg ?_
    refine o_b 5 [(21, pv 2 0), (98, .agg #[iv 1, iv ss, iv 0, iv 0, iv 0, uv 0, uv 0]), (97, iv ss), (96, iv 1)] [cw (pl P), cw (entsL e2 ++ room zE m16), cw [iv 1, iv ss, iv 0, iv 0, iv 0, uv 0, uv 0]] (by kernel_rfl) ?_
    refine o_nil ?_
    refine seq_go ?_
    refine gseq ?_
    refine gseq ?_
    refine greg ?_
    refine o_d 2 [(100, bv true), (99, iv 1)] (by kernel_rfl) ?_
    refine o_nil ?_
    refine seq_go ?_
    refine gtrue rfl ?_
    refine greg ?_
    refine o_b 6 [(103, pv 2 4), (102, pv 2 3), (101, pv 2 2)] [cw (pl P), cw (entsL e2 ++ room zE m16), cw [iv 1, iv ss, iv 1, iv 2, iv 3, uv 0, uv 0]] (by kernel_rfl) ?_
    refine o_nil ?_
    refine seq_go ?_
    refine gseq ?_
    refine gseq ?_
    refine greg ?_
    refine o_d 2 [(105, bv false), (104, iv 1)] (by kernel_rfl) ?_
    refine o_nil ?_
    refine seq_go ?_
    refine gfalse rfl ?_
    refine gskip ?_
    refine seq_go ?_
    refine gseq ?_
    refine gdregD [cw (pl P), cw (entsL e2 ++ room zE m16), cw [iv 1, iv ss, iv 1, iv 2, iv 3, uv 0, uv 0], .gone, .gone, .gone, .gone, .gone, .gone, .gone] (by kernel_rfl) ?_
    refine d_n 13 13 10 [(119, pv 0 3), (118, iv ss), (117, sv 3 0 5 5), (116, pv 9 0), (115, iv 0), (114, iv 1), (113, sv 9 0 6 6), (112, sv 8 0 5 5), (111, sv 7 0 5 5), (110, sv 6 0 5 5), (109, sv 5 0 5 5), (108, sv 4 0 5 5), (107, sv 3 0 5 5)] [cw (pl P), cw (entsL e2 ++ room zE m16), cw [iv 1, iv ss, iv 1, iv 2, iv 3, uv 0, uv 0], cw [iv 1, iv (-1), iv (-1), iv (-1), iv (-1)], cw [iv (-1), iv 2, iv (-1), iv 2, iv (-1)], cw [iv (-1), iv (-1), iv 3, iv (-1), iv (-1)], cw [iv (-1), iv 4, iv (-1), iv 4, iv (-1)], cw [iv (-1), iv (-1), iv (-1), iv (-1), iv 0], cw [iv 0, iv 1, iv 2, iv 3, iv 4], cw [sv 3 0 5 5, sv 4 0 5 5, sv 5 0 5 5, sv 6 0 5 5, sv 7 0 5 5, sv 8 0 5 5]] [⟨10, [9], [], none⟩, ⟨6, [], [9], none⟩, ⟨5, [], [8], none⟩, ⟨4, [], [7], none⟩, ⟨3, [], [6], none⟩, ⟨2, [], [5], none⟩, ⟨1, [], [4], none⟩, ⟨0, [], [3], none⟩] (by kernel_rfl) rfl rfl ?_
    refine d_s rfl rfl rfl (by kernel_rfl) (by exact run_iadA (o := 3) (o' := 3 + 5 * ss.toNat) rfl rfl (by omega) (by omega)) ?_
    refine d_s rfl rfl rfl (by kernel_rfl) (by refine run_fad (o' := 3 + 5 * ss.toNat) rfl (by omega)) ?_
    refine d_s rfl rfl rfl (by kernel_rfl) (by refine run_ld (v := iv 2) rfl rfl ?_; exact (pl_r P (3 + 5 * ss.toNat) (by omega) (by omega)).trans (congrArg (fun x => some (iv x)) hM.cur)) ?_
    refine d_n 3 19 10 [(22, iv (-1)), (124, iv (-1)), (123, pv 3 2)] [cw (pl P), cw (entsL e2 ++ room zE m16), cw [iv 1, iv ss, iv 1, iv 2, iv 3, uv 0, uv 0], cw [iv 1, iv (-1), iv (-1), iv (-1), iv (-1)], cw [iv (-1), iv 2, iv (-1), iv 2, iv (-1)], cw [iv (-1), iv (-1), iv 3, iv (-1), iv (-1)], cw [iv (-1), iv 4, iv (-1), iv 4, iv (-1)], cw [iv (-1), iv (-1), iv (-1), iv (-1), iv 0], cw [iv 0, iv 1, iv 2, iv 3, iv 4], cw [sv 3 0 5 5, sv 4 0 5 5, sv 5 0 5 5, sv 6 0 5 5, sv 7 0 5 5, sv 8 0 5 5]] [⟨17, [3], [], none⟩, ⟨15, [0], [], none⟩, ⟨10, [9], [], none⟩, ⟨6, [], [9], none⟩, ⟨5, [], [8], none⟩, ⟨4, [], [7], none⟩, ⟨3, [], [6], none⟩, ⟨2, [], [5], none⟩, ⟨1, [], [4], none⟩, ⟨0, [], [3], none⟩] (by kernel_rfl) rfl rfl ?_
    refine d_nil ?_
    refine ⟨⟨reg [(22, iv (-1)), (21, pv 2 0), (9, pv 0 0), (11, iv ss), (12, iv 1)], [cw (pl P), cw (entsL e2 ++ room zE m16), cw [iv 1, iv ss, iv 1, iv 2, iv 3, uv 0, uv 0]]⟩, Wk.ren [0, 1, 2] rfl rfl (by decide) ⟨rfl, ⟨rfl, ⟨rfl, ⟨rfl, ⟨rfl, trivial⟩⟩⟩⟩⟩ ⟨.inl (ren_cells (pl_scl P)), ⟨.inl (ren_cells (entsR_scl e2 m16)), ⟨.inl rfl, trivial⟩⟩⟩, ?_⟩
    refine gseq ?_
    refine greg ?_
    refine o_s (by refine run_ld (v := poolV P) rfl rfl ?_; exact pl_all P) ?_
    refine o_d 1 [(127, .agg #[iv 1, iv ss, iv 1, iv 2, iv 3, uv 0, uv 0])] (by kernel_rfl) ?_
    refine o_cl (callV (ApplyC h_pool_Apply h_pool_may h_pool_held h_pool_fits h_pool_Check h_pool_placed h_cookie_Next P (⟨1, ss, 1, 2, 3, 0, 0⟩)) rfl (all_cons (poolV_vpf P) (all_cons rfl rfl)) (all_cons (poolV_aggf ((applyS P (⟨1, ss, 1, 2, 3, 0, 0⟩)).1)) (all_cons rfl rfl)) ?_)
    refine o_b 4 [(23, pv 3 0), (130, iv ((applyS P (⟨1, ss, 1, 2, 3, 0, 0⟩)).2)), (129, poolV ((applyS P (⟨1, ss, 1, 2, 3, 0, 0⟩)).1)), (125, .tuple #[poolV ((applyS P (⟨1, ss, 1, 2, 3, 0, 0⟩)).1), iv ((applyS P (⟨1, ss, 1, 2, 3, 0, 0⟩)).2)])] [cw (pl P), cw (entsL e2 ++ room zE m16), cw [iv 1, iv ss, iv 1, iv 2, iv 3, uv 0, uv 0], cw (pl zeroP)] (by kernel_rfl) ?_
    refine o_s0 (by refine run_st (c' := pl ((applyS P (⟨1, ss, 1, 2, 3, 0, 0⟩)).1)) rfl rfl rfl ?_ ?_ ?_; exact pl_length _; exact pl_le (by omega); exact splice_pl0 zeroP ((applyS P (⟨1, ss, 1, 2, 3, 0, 0⟩)).1)) ?_
    refine o_b 1 [(24, iv ((applyS P (⟨1, ss, 1, 2, 3, 0, 0⟩)).2))] [cw (pl P), cw (entsL e2 ++ room zE m16), cw [iv 1, iv ss, iv 1, iv 2, iv 3, uv 0, uv 0], cw (pl ((applyS P (⟨1, ss, 1, 2, 3, 0, 0⟩)).1))] (by kernel_rfl) ?_
    refine o_nil ?_
    refine seq_go ?_
    refine gseq ?_
    refine gseq ?_
    refine greg ?_
    refine o_d 2 [(132, bv true), (131, iv (-1))] (by kernel_rfl) ?_
    refine o_nil ?_
    refine seq_go ?_
    refine gtrue rfl ?_
    refine gseq ?_
    refine greg ?_
    refine o_d 3 [(135, bv (((applyS P (⟨1, ss, 1, 2, 3, 0, 0⟩)).2) == 12)), (134, bv (((applyS P (⟨1, ss, 1, 2, 3, 0, 0⟩)).2) == 12)), (133, iv ((applyS P (⟨1, ss, 1, 2, 3, 0, 0⟩)).2))] (by kernel_rfl) ?_
    refine o_sp (b := ((applyS P (⟨1, ss, 1, 2, 3, 0, 0⟩)).2) == 12) 135 rfl (fun k34 => ?_) (fun q => by rw [(by rw [hE]; rfl : (((applyS P (⟨1, ss, 1, 2, 3, 0, 0⟩)).2) == 12) = true)] at q; cases q)
    refine o_unguard rfl ?_
    refine o_s (by refine run_ld (v := poolV ((applyS P (⟨1, ss, 1, 2, 3, 0, 0⟩)).1)) rfl rfl ?_; exact pl_all ((applyS P (⟨1, ss, 1, 2, 3, 0, 0⟩)).1)) ?_
    refine o_unguard rfl ?_
    refine o_s (by refine run_bld (c := pl zeroP) ?_; exact bld_zP) ?_
    refine o_unguard rfl ?_
    refine o_s (by refine run_eqa (a := ⟨pl ((applyS P (⟨1, ss, 1, 2, 3, 0, 0⟩)).1)⟩) (b := ⟨pl zeroP⟩) (r := eqP ((applyS P (⟨1, ss, 1, 2, 3, 0, 0⟩)).1) zeroP) (R := eqP ((applyS P (⟨1, ss, 1, 2, 3, 0, 0⟩)).1) zeroP) ?_ rfl; exact eqP_run ((applyS P (⟨1, ss, 1, 2, 3, 0, 0⟩)).1) zeroP rfl rfl) ?_
    refine o_d 2 [(8, bv (eqP ((applyS P (⟨1, ss, 1, 2, 3, 0, 0⟩)).1) zeroP)), (139, bv (eqP ((applyS P (⟨1, ss, 1, 2, 3, 0, 0⟩)).1) zeroP))] (by kernel_rfl) ?_
    refine o_nil ?_
    refine ⟨⟨reg [(8, bv (eqP ((applyS P (⟨1, ss, 1, 2, 3, 0, 0⟩)).1) zeroP))], []⟩, Wk.ren [] rfl rfl (by decide) ⟨rfl, trivial⟩ trivial, ?_⟩
    refine gret ?_
    have e0 : (eqP ((applyS P (⟨1, ss, 1, 2, 3, 0, 0⟩)).1) zeroP) = true := by
     first | done | (rw [apply_err (by rw [hE]; decide)]; exact eqP_self _) | (rw [hE5, if_pos (by omega)]; rfl) | (rw [hV]; simp) | (rw [apply_ver (hE5.trans (if_neg (by omega)))]; simp)
    exact fin_ans [bv (eqP ((applyS P (⟨1, ss, 1, 2, 3, 0, 0⟩)).1) zeroP)] (resV_t rfl rfl) rfl (by rw [e0]; rfl) rfl rfl
   ·skip
    have hE : (applyS P ⟨2, ss, 0, 0, 0, 0, 0⟩).2 = 12 := (mv_k hM hs (k := 2) (by decide)).trans (by decide)
    refine seq_regs [(9, pv 0 0), (11, iv ss), (12, iv 2)] (by kernel_rfl) ?_
    refine gseq ?_
    refine greg ?_
    refine o_b 5 [(21, pv 2 0), (98, .agg #[iv 2, iv ss, iv 0, iv 0, iv 0, uv 0, uv 0]), (97, iv ss), (96, iv 2)] [cw (pl P), cw (entsL e2 ++ room zE m16), cw [iv 2, iv ss, iv 0, iv 0, iv 0, uv 0, uv 0]] (by kernel_rfl) ?_
    refine o_nil ?_
    refine seq_go ?_
    refine gseq ?_
    refine gseq ?_
    refine greg ?_
    refine o_d 2 [(100, bv false), (99, iv 2)] (by kernel_rfl) ?_
    refine o_nil ?_
    refine seq_go ?_
    refine gfalse rfl ?_
    refine gskip ?_
    refine seq_go ?_
    refine gseq ?_
    refine gseq ?_
    refine greg ?_
    refine o_d 2 [(105, bv false), (104, iv 2)] (by kernel_rfl) ?_
    refine o_nil ?_
    refine seq_go ?_
    refine gfalse rfl ?_
    refine gskip ?_
    refine seq_go ?_
    refine gseq ?_
    refine gdregD [cw (pl P), cw (entsL e2 ++ room zE m16), cw [iv 2, iv ss, iv 0, iv 0, iv 0, uv 0, uv 0], .gone, .gone, .gone, .gone, .gone, .gone, .gone] (by kernel_rfl) ?_
    refine d_n 13 13 10 [(119, pv 0 3), (118, iv ss), (117, sv 4 0 5 5), (116, pv 9 1), (115, iv 1), (114, iv 2), (113, sv 9 0 6 6), (112, sv 8 0 5 5), (111, sv 7 0 5 5), (110, sv 6 0 5 5), (109, sv 5 0 5 5), (108, sv 4 0 5 5), (107, sv 3 0 5 5)] [cw (pl P), cw (entsL e2 ++ room zE m16), cw [iv 2, iv ss, iv 0, iv 0, iv 0, uv 0, uv 0], cw [iv 1, iv (-1), iv (-1), iv (-1), iv (-1)], cw [iv (-1), iv 2, iv (-1), iv 2, iv (-1)], cw [iv (-1), iv (-1), iv 3, iv (-1), iv (-1)], cw [iv (-1), iv 4, iv (-1), iv 4, iv (-1)], cw [iv (-1), iv (-1), iv (-1), iv (-1), iv 0], cw [iv 0, iv 1, iv 2, iv 3, iv 4], cw [sv 3 0 5 5, sv 4 0 5 5, sv 5 0 5 5, sv 6 0 5 5, sv 7 0 5 5, sv 8 0 5 5]] [⟨10, [9], [], none⟩, ⟨6, [], [9], none⟩, ⟨5, [], [8], none⟩, ⟨4, [], [7], none⟩, ⟨3, [], [6], none⟩, ⟨2, [], [5], none⟩, ⟨1, [], [4], none⟩, ⟨0, [], [3], none⟩] (by kernel_rfl) rfl rfl ?_
    refine d_s rfl rfl rfl (by kernel_rfl) (by exact run_iadA (o := 3) (o' := 3 + 5 * ss.toNat) rfl rfl (by omega) (by omega)) ?_
    refine d_s rfl rfl rfl (by kernel_rfl) (by refine run_fad (o' := 3 + 5 * ss.toNat) rfl (by omega)) ?_
    refine d_s rfl rfl rfl (by kernel_rfl) (by refine run_ld (v := iv 2) rfl rfl ?_; exact (pl_r P (3 + 5 * ss.toNat) (by omega) (by omega)).trans (congrArg (fun x => some (iv x)) hM.cur)) ?_
    refine d_n 3 19 10 [(22, iv (-1)), (124, iv (-1)), (123, pv 4 2)] [cw (pl P), cw (entsL e2 ++ room zE m16), cw [iv 2, iv ss, iv 0, iv 0, iv 0, uv 0, uv 0], cw [iv 1, iv (-1), iv (-1), iv (-1), iv (-1)], cw [iv (-1), iv 2, iv (-1), iv 2, iv (-1)], cw [iv (-1), iv (-1), iv 3, iv (-1), iv (-1)], cw [iv (-1), iv 4, iv (-1), iv 4, iv (-1)], cw [iv (-1), iv (-1), iv (-1), iv (-1), iv 0], cw [iv 0, iv 1, iv 2, iv 3, iv 4], cw [sv 3 0 5 5, sv 4 0 5 5, sv 5 0 5 5, sv 6 0 5 5, sv 7 0 5 5, sv 8 0 5 5]] [⟨17, [4], [], none⟩, ⟨15, [0], [], none⟩, ⟨10, [9], [], none⟩, ⟨6, [], [9], none⟩, ⟨5, [], [8], none⟩, ⟨4, [], [7], none⟩, ⟨3, [], [6], none⟩, ⟨2, [], [5], none⟩, ⟨1, [], [4], none⟩, ⟨0, [], [3], none⟩] (by kernel_rfl) rfl rfl ?_
    refine d_nil ?_
    refine ⟨⟨reg [(22, iv (-1)), (21, pv 2 0), (9, pv 0 0), (11, iv ss), (12, iv 2)], [cw (pl P), cw (entsL e2 ++ room zE m16), cw [iv 2, iv ss, iv 0, iv 0, iv 0, uv 0, uv 0]]⟩, Wk.ren [0, 1, 2] rfl rfl (by decide) ⟨rfl, ⟨rfl, ⟨rfl, ⟨rfl, ⟨rfl, trivial⟩⟩⟩⟩⟩ ⟨.inl (ren_cells (pl_scl P)), ⟨.inl (ren_cells (entsR_scl e2 m16)), ⟨.inl rfl, trivial⟩⟩⟩, ?_⟩
    refine gseq ?_
    refine greg ?_
    refine o_s (by refine run_ld (v := poolV P) rfl rfl ?_; exact pl_all P) ?_
    refine o_d 1 [(127, .agg #[iv 2, iv ss, iv 0, iv 0, iv 0, uv 0, uv 0])] (by kernel_rfl) ?_
    refine o_cl (callV (ApplyC h_pool_Apply h_pool_may h_pool_held h_pool_fits h_pool_Check h_pool_placed h_cookie_Next P (⟨2, ss, 0, 0, 0, 0, 0⟩)) rfl (all_cons (poolV_vpf P) (all_cons rfl rfl)) (all_cons (poolV_aggf ((applyS P (⟨2, ss, 0, 0, 0, 0, 0⟩)).1)) (all_cons rfl rfl)) ?_)
    refine o_b 4 [(23, pv 3 0), (130, iv ((applyS P (⟨2, ss, 0, 0, 0, 0, 0⟩)).2)), (129, poolV ((applyS P (⟨2, ss, 0, 0, 0, 0, 0⟩)).1)), (125, .tuple #[poolV ((applyS P (⟨2, ss, 0, 0, 0, 0, 0⟩)).1), iv ((applyS P (⟨2, ss, 0, 0, 0, 0, 0⟩)).2)])] [cw (pl P), cw (entsL e2 ++ room zE m16), cw [iv 2, iv ss, iv 0, iv 0, iv 0, uv 0, uv 0], cw (pl zeroP)] (by kernel_rfl) ?_
    refine o_s0 (by refine run_st (c' := pl ((applyS P (⟨2, ss, 0, 0, 0, 0, 0⟩)).1)) rfl rfl rfl ?_ ?_ ?_; exact pl_length _; exact pl_le (by omega); exact splice_pl0 zeroP ((applyS P (⟨2, ss, 0, 0, 0, 0, 0⟩)).1)) ?_
    refine o_b 1 [(24, iv ((applyS P (⟨2, ss, 0, 0, 0, 0, 0⟩)).2))] [cw (pl P), cw (entsL e2 ++ room zE m16), cw [iv 2, iv ss, iv 0, iv 0, iv 0, uv 0, uv 0], cw (pl ((applyS P (⟨2, ss, 0, 0, 0, 0, 0⟩)).1))] (by kernel_rfl) ?_
    refine o_nil ?_
    refine seq_go ?_
    refine gseq ?_
    refine gseq ?_
    refine greg ?_
    refine o_d 2 [(132, bv true), (131, iv (-1))] (by kernel_rfl) ?_
    refine o_nil ?_
    refine seq_go ?_
    refine gtrue rfl ?_
    refine gseq ?_
    refine greg ?_
    refine o_d 3 [(135, bv (((applyS P (⟨2, ss, 0, 0, 0, 0, 0⟩)).2) == 12)), (134, bv (((applyS P (⟨2, ss, 0, 0, 0, 0, 0⟩)).2) == 12)), (133, iv ((applyS P (⟨2, ss, 0, 0, 0, 0, 0⟩)).2))] (by kernel_rfl) ?_
    refine o_sp (b := ((applyS P (⟨2, ss, 0, 0, 0, 0, 0⟩)).2) == 12) 135 rfl (fun k35 => ?_) (fun q => by rw [(by rw [hE]; rfl : (((applyS P (⟨2, ss, 0, 0, 0, 0, 0⟩)).2) == 12) = true)] at q; cases q)
    refine o_unguard rfl ?_
    refine o_s (by refine run_ld (v := poolV ((applyS P (⟨2, ss, 0, 0, 0, 0, 0⟩)).1)) rfl rfl ?_; exact pl_all ((applyS P (⟨2, ss, 0, 0, 0, 0, 0⟩)).1)) ?_
    refine o_unguard rfl ?_
    refine o_s (by refine run_bld (c := pl zeroP) ?_; exact bld_zP) ?_
    refine o_unguard rfl ?_
    refine o_s (by refine run_eqa (a := ⟨pl ((applyS P (⟨2, ss, 0, 0, 0, 0, 0⟩)).1)⟩) (b := ⟨pl zeroP⟩) (r := eqP ((applyS P (⟨2, ss, 0, 0, 0, 0, 0⟩)).1) zeroP) (R := eqP ((applyS P (⟨2, ss, 0, 0, 0, 0, 0⟩)).1) zeroP) ?_ rfl; exact eqP_run ((applyS P (⟨2, ss, 0, 0, 0, 0, 0⟩)).1) zeroP rfl rfl) ?_
    refine o_d 2 [(8, bv (eqP ((applyS P (⟨2, ss, 0, 0, 0, 0, 0⟩)).1) zeroP)), (139, bv (eqP ((applyS P (⟨2, ss, 0, 0, 0, 0, 0⟩)).1) zeroP))] (by kernel_rfl) ?_
    refine o_nil ?_
    refine ⟨⟨reg [(8, bv (eqP ((applyS P (⟨2, ss, 0, 0, 0, 0, 0⟩)).1) zeroP))], []⟩, Wk.ren [] rfl rfl (by decide) ⟨rfl, trivial⟩ trivial, ?_⟩
    refine gret ?_
    have e0 : (eqP ((applyS P (⟨2, ss, 0, 0, 0, 0, 0⟩)).1) zeroP) = true := by
     first | done | (rw [apply_err (by rw [hE]; decide)]; exact eqP_self _) | (rw [hE5, if_pos (by omega)]; rfl) | (rw [hV]; simp) | (rw [apply_ver (hE5.trans (if_neg (by omega)))]; simp)
    exact fin_ans [bv (eqP ((applyS P (⟨2, ss, 0, 0, 0, 0, 0⟩)).1) zeroP)] (resV_t rfl rfl) rfl (by rw [e0]; rfl) rfl rfl
   ·skip
    have hE : (applyS P ⟨3, ss, 0, 0, 0, 0, 0⟩).2 = 0 := (mv_k hM hs (k := 3) (by decide)).trans (by decide)
    have hS : (applyS P ⟨3, ss, 0, 0, 0, 0, 0⟩).1 (3 + 5 * ss.toNat) = 3 := (moves_to hM hs rfl ⟨by simp, by simp⟩ hE).trans rfl
    have hV := apply_ver hE
    refine seq_regs [(9, pv 0 0), (11, iv ss), (12, iv 3)] (by kernel_rfl) ?_
    refine gseq ?_
    refine greg ?_
    refine o_b 5 [(21, pv 2 0), (98, .agg #[iv 3, iv ss, iv 0, iv 0, iv 0, uv 0, uv 0]), (97, iv ss), (96, iv 3)] [cw (pl P), cw (entsL e2 ++ room zE m16), cw [iv 3, iv ss, iv 0, iv 0, iv 0, uv 0, uv 0]] (by kernel_rfl) ?_
    refine o_nil ?_
    refine seq_go ?_
    refine gseq ?_
    refine gseq ?_
    refine greg ?_
    refine o_d 2 [(100, bv false), (99, iv 3)] (by kernel_rfl) ?_
    refine o_nil ?_
    refine seq_go ?_
    refine gfalse rfl ?_
    refine gskip ?_
    refine seq_go ?_
    refine gseq ?_
    refine gseq ?_
    refine greg ?_
    refine o_d 2 [(105, bv false), (104, iv 3)] (by kernel_rfl) ?_
    refine o_nil ?_
    refine seq_go ?_
    refine gfalse rfl ?_
    refine gskip ?_
    refine seq_go ?_
    refine gseq ?_
    refine gdregD [cw (pl P), cw (entsL e2 ++ room zE m16), cw [iv 3, iv ss, iv 0, iv 0, iv 0, uv 0, uv 0], .gone, .gone, .gone, .gone, .gone, .gone, .gone] (by kernel_rfl) ?_
    refine d_n 13 13 10 [(119, pv 0 3), (118, iv ss), (117, sv 5 0 5 5), (116, pv 9 2), (115, iv 2), (114, iv 3), (113, sv 9 0 6 6), (112, sv 8 0 5 5), (111, sv 7 0 5 5), (110, sv 6 0 5 5), (109, sv 5 0 5 5), (108, sv 4 0 5 5), (107, sv 3 0 5 5)] [cw (pl P), cw (entsL e2 ++ room zE m16), cw [iv 3, iv ss, iv 0, iv 0, iv 0, uv 0, uv 0], cw [iv 1, iv (-1), iv (-1), iv (-1), iv (-1)], cw [iv (-1), iv 2, iv (-1), iv 2, iv (-1)], cw [iv (-1), iv (-1), iv 3, iv (-1), iv (-1)], cw [iv (-1), iv 4, iv (-1), iv 4, iv (-1)], cw [iv (-1), iv (-1), iv (-1), iv (-1), iv 0], cw [iv 0, iv 1, iv 2, iv 3, iv 4], cw [sv 3 0 5 5, sv 4 0 5 5, sv 5 0 5 5, sv 6 0 5 5, sv 7 0 5 5, sv 8 0 5 5]] [⟨10, [9], [], none⟩, ⟨6, [], [9], none⟩, ⟨5, [], [8], none⟩, ⟨4, [], [7], none⟩, ⟨3, [], [6], none⟩, ⟨2, [], [5], none⟩, ⟨1, [], [4], none⟩, ⟨0, [], [3], none⟩] (by kernel_rfl) rfl rfl ?_
    refine d_s rfl rfl rfl (by kernel_rfl) (by exact run_iadA (o := 3) (o' := 3 + 5 * ss.toNat) rfl rfl (by omega) (by omega)) ?_
    refine d_s rfl rfl rfl (by kernel_rfl) (by refine run_fad (o' := 3 + 5 * ss.toNat) rfl (by omega)) ?_
    refine d_s rfl rfl rfl (by kernel_rfl) (by refine run_ld (v := iv 2) rfl rfl ?_; exact (pl_r P (3 + 5 * ss.toNat) (by omega) (by omega)).trans (congrArg (fun x => some (iv x)) hM.cur)) ?_
    refine d_n 3 19 10 [(22, iv 3), (124, iv 3), (123, pv 5 2)] [cw (pl P), cw (entsL e2 ++ room zE m16), cw [iv 3, iv ss, iv 0, iv 0, iv 0, uv 0, uv 0], cw [iv 1, iv (-1), iv (-1), iv (-1), iv (-1)], cw [iv (-1), iv 2, iv (-1), iv 2, iv (-1)], cw [iv (-1), iv (-1), iv 3, iv (-1), iv (-1)], cw [iv (-1), iv 4, iv (-1), iv 4, iv (-1)], cw [iv (-1), iv (-1), iv (-1), iv (-1), iv 0], cw [iv 0, iv 1, iv 2, iv 3, iv 4], cw [sv 3 0 5 5, sv 4 0 5 5, sv 5 0 5 5, sv 6 0 5 5, sv 7 0 5 5, sv 8 0 5 5]] [⟨17, [5], [], none⟩, ⟨15, [0], [], none⟩, ⟨10, [9], [], none⟩, ⟨6, [], [9], none⟩, ⟨5, [], [8], none⟩, ⟨4, [], [7], none⟩, ⟨3, [], [6], none⟩, ⟨2, [], [5], none⟩, ⟨1, [], [4], none⟩, ⟨0, [], [3], none⟩] (by kernel_rfl) rfl rfl ?_
    refine d_nil ?_
    refine ⟨⟨reg [(22, iv 3), (21, pv 2 0), (9, pv 0 0), (11, iv ss), (12, iv 3)], [cw (pl P), cw (entsL e2 ++ room zE m16), cw [iv 3, iv ss, iv 0, iv 0, iv 0, uv 0, uv 0]]⟩, Wk.ren [0, 1, 2] rfl rfl (by decide) ⟨rfl, ⟨rfl, ⟨rfl, ⟨rfl, ⟨rfl, trivial⟩⟩⟩⟩⟩ ⟨.inl (ren_cells (pl_scl P)), ⟨.inl (ren_cells (entsR_scl e2 m16)), ⟨.inl rfl, trivial⟩⟩⟩, ?_⟩
    refine gseq ?_
    refine greg ?_
    refine o_s (by refine run_ld (v := poolV P) rfl rfl ?_; exact pl_all P) ?_
    refine o_d 1 [(127, .agg #[iv 3, iv ss, iv 0, iv 0, iv 0, uv 0, uv 0])] (by kernel_rfl) ?_
    refine o_cl (callV (ApplyC h_pool_Apply h_pool_may h_pool_held h_pool_fits h_pool_Check h_pool_placed h_cookie_Next P (⟨3, ss, 0, 0, 0, 0, 0⟩)) rfl (all_cons (poolV_vpf P) (all_cons rfl rfl)) (all_cons (poolV_aggf ((applyS P (⟨3, ss, 0, 0, 0, 0, 0⟩)).1)) (all_cons rfl rfl)) ?_)
    refine o_b 4 [(23, pv 3 0), (130, iv ((applyS P (⟨3, ss, 0, 0, 0, 0, 0⟩)).2)), (129, poolV ((applyS P (⟨3, ss, 0, 0, 0, 0, 0⟩)).1)), (125, .tuple #[poolV ((applyS P (⟨3, ss, 0, 0, 0, 0, 0⟩)).1), iv ((applyS P (⟨3, ss, 0, 0, 0, 0, 0⟩)).2)])] [cw (pl P), cw (entsL e2 ++ room zE m16), cw [iv 3, iv ss, iv 0, iv 0, iv 0, uv 0, uv 0], cw (pl zeroP)] (by kernel_rfl) ?_
    refine o_s0 (by refine run_st (c' := pl ((applyS P (⟨3, ss, 0, 0, 0, 0, 0⟩)).1)) rfl rfl rfl ?_ ?_ ?_; exact pl_length _; exact pl_le (by omega); exact splice_pl0 zeroP ((applyS P (⟨3, ss, 0, 0, 0, 0, 0⟩)).1)) ?_
    refine o_b 1 [(24, iv ((applyS P (⟨3, ss, 0, 0, 0, 0, 0⟩)).2))] [cw (pl P), cw (entsL e2 ++ room zE m16), cw [iv 3, iv ss, iv 0, iv 0, iv 0, uv 0, uv 0], cw (pl ((applyS P (⟨3, ss, 0, 0, 0, 0, 0⟩)).1))] (by kernel_rfl) ?_
    refine o_nil ?_
    refine seq_go ?_
    refine gseq ?_
    refine gseq ?_
    refine greg ?_
    refine o_d 2 [(132, bv false), (131, iv 3)] (by kernel_rfl) ?_
    refine o_nil ?_
    refine seq_go ?_
    refine gfalse rfl ?_
    refine gskip ?_
    refine seq_go ?_
    refine gseq ?_
    refine gseq ?_
    refine greg ?_
    refine o_d 10 [(149, bv false), (148, undef), (147, undef), (146, undef), (145, undef), (144, undef), (143, undef), (142, bv false), (141, bv false), (140, iv 3)] (by kernel_rfl) ?_
    refine o_nil ?_
    refine seq_go ?_
    refine gfalse rfl ?_
    refine gskip ?_
    refine seq_go ?_
    refine gseq ?_
    refine greg ?_
    refine o_d 3 [(154, bv (((applyS P (⟨3, ss, 0, 0, 0, 0, 0⟩)).2) == 0)), (153, bv (((applyS P (⟨3, ss, 0, 0, 0, 0, 0⟩)).2) == 0)), (152, iv ((applyS P (⟨3, ss, 0, 0, 0, 0, 0⟩)).2))] (by kernel_rfl) ?_
    refine o_sp (b := ((applyS P (⟨3, ss, 0, 0, 0, 0, 0⟩)).2) == 0) 154 rfl (fun k36 => ?_) (fun q => by rw [(by rw [hE]; rfl : (((applyS P (⟨3, ss, 0, 0, 0, 0, 0⟩)).2) == 0) = true)] at q; cases q)
    refine o_d 2 [(156, pv 3 3), (155, iv ss)] (by kernel_rfl) ?_
    refine o_unguard rfl ?_
    refine o_s (by exact run_iadA (o := 3) (o' := 3 + 5 * ss.toNat) rfl rfl (by omega) (by omega)) ?_
    refine o_unguard rfl ?_
    refine o_s (by refine run_fad (o' := 3 + 5 * ss.toNat) rfl (by omega)) ?_
    refine o_unguard rfl ?_
    refine o_s (by refine run_ld (v := iv (((applyS P (⟨3, ss, 0, 0, 0, 0, 0⟩)).1) (3 + 5 * ss.toNat))) rfl rfl ?_; exact pl_r ((applyS P (⟨3, ss, 0, 0, 0, 0, 0⟩)).1) (3 + 5 * ss.toNat) (by omega) (by omega)) ?_
    refine o_d 4 [(163, bv ((((applyS P (⟨3, ss, 0, 0, 0, 0, 0⟩)).1) (3 + 5 * ss.toNat)) == 3)), (162, bv ((((applyS P (⟨3, ss, 0, 0, 0, 0, 0⟩)).1) (3 + 5 * ss.toNat)) == 3)), (161, bv ((((applyS P (⟨3, ss, 0, 0, 0, 0, 0⟩)).1) (3 + 5 * ss.toNat)) == 3)), (160, iv 3)] (by kernel_rfl) ?_
    refine o_sp (b := (((applyS P (⟨3, ss, 0, 0, 0, 0, 0⟩)).1) (3 + 5 * ss.toNat)) == 3) 163 rfl (fun k37 => ?_) (fun q => by rw [(by rw [hS]; rfl : ((((applyS P (⟨3, ss, 0, 0, 0, 0, 0⟩)).1) (3 + 5 * ss.toNat)) == 3) = true)] at q; cases q)
    refine o_d 1 [(164, pv 3 0)] (by kernel_rfl) ?_
    refine o_unguard rfl ?_
    refine o_s (by refine run_ld (v := iv (((applyS P (⟨3, ss, 0, 0, 0, 0, 0⟩)).1) 0)) rfl rfl ?_; exact pl_r ((applyS P (⟨3, ss, 0, 0, 0, 0, 0⟩)).1) 0 rfl (by omega)) ?_
    refine o_d 1 [(166, pv 0 0)] (by kernel_rfl) ?_
    refine o_unguard rfl ?_
    refine o_s (by refine run_ld (v := iv (P 0)) rfl rfl ?_; exact pl_r P 0 rfl (by omega)) ?_
    refine o_d 4 [(8, bv ((((applyS P (⟨3, ss, 0, 0, 0, 0, 0⟩)).1) 0) == (IntKind.i64.wrap (P 0 + 1)))), (170, bv ((((applyS P (⟨3, ss, 0, 0, 0, 0, 0⟩)).1) 0) == (IntKind.i64.wrap (P 0 + 1)))), (169, bv ((((applyS P (⟨3, ss, 0, 0, 0, 0, 0⟩)).1) 0) == (IntKind.i64.wrap (P 0 + 1)))), (168, iv (IntKind.i64.wrap (P 0 + 1)))] (by kernel_rfl) ?_
    refine o_nil ?_
    refine ⟨⟨reg [(8, bv ((((applyS P (⟨3, ss, 0, 0, 0, 0, 0⟩)).1) 0) == (IntKind.i64.wrap (P 0 + 1))))], []⟩, Wk.ren [] rfl rfl (by decide) ⟨rfl, trivial⟩ trivial, ?_⟩
    refine gret ?_
    have e0 : ((((applyS P (⟨3, ss, 0, 0, 0, 0, 0⟩)).1) 0) == (IntKind.i64.wrap (P 0 + 1))) = true := by
     first | done | (rw [apply_err (by rw [hE]; decide)]; exact eqP_self _) | (rw [hE5, if_pos (by omega)]; rfl) | (rw [hV]; simp) | (rw [apply_ver (hE5.trans (if_neg (by omega)))]; simp)
    exact fin_ans [bv ((((applyS P (⟨3, ss, 0, 0, 0, 0, 0⟩)).1) 0) == (IntKind.i64.wrap (P 0 + 1)))] (resV_t rfl rfl) rfl (by rw [e0]; rfl) rfl rfl
   ·skip
    have hE : (applyS P ⟨4, ss, 0, 0, 0, 0, 0⟩).2 = 12 := (mv_k hM hs (k := 4) (by decide)).trans (by decide)
    refine seq_regs [(9, pv 0 0), (11, iv ss), (12, iv 4)] (by kernel_rfl) ?_
    refine gseq ?_
    refine greg ?_
    refine o_b 5 [(21, pv 2 0), (98, .agg #[iv 4, iv ss, iv 0, iv 0, iv 0, uv 0, uv 0]), (97, iv ss), (96, iv 4)] [cw (pl P), cw (entsL e2 ++ room zE m16), cw [iv 4, iv ss, iv 0, iv 0, iv 0, uv 0, uv 0]] (by kernel_rfl) ?_
    refine o_nil ?_
    refine seq_go ?_
    refine gseq ?_
    refine gseq ?_
    refine greg ?_
    refine o_d 2 [(100, bv false), (99, iv 4)] (by kernel_rfl) ?_
    refine o_nil ?_
    refine seq_go ?_
    refine gfalse rfl ?_
    refine gskip ?_
    refine seq_go ?_
    refine gseq ?_
    refine gseq ?_
    refine greg ?_
    refine o_d 2 [(105, bv false), (104, iv 4)] (by kernel_rfl) ?_
    refine o_nil ?_
    refine seq_go ?_
    refine gfalse rfl ?_
    refine gskip ?_
    refine seq_go ?_
    refine gseq ?_
    refine gdregD [cw (pl P), cw (entsL e2 ++ room zE m16), cw [iv 4, iv ss, iv 0, iv 0, iv 0, uv 0, uv 0], .gone, .gone, .gone, .gone, .gone, .gone, .gone] (by kernel_rfl) ?_
    refine d_n 13 13 10 [(119, pv 0 3), (118, iv ss), (117, sv 6 0 5 5), (116, pv 9 3), (115, iv 3), (114, iv 4), (113, sv 9 0 6 6), (112, sv 8 0 5 5), (111, sv 7 0 5 5), (110, sv 6 0 5 5), (109, sv 5 0 5 5), (108, sv 4 0 5 5), (107, sv 3 0 5 5)] [cw (pl P), cw (entsL e2 ++ room zE m16), cw [iv 4, iv ss, iv 0, iv 0, iv 0, uv 0, uv 0], cw [iv 1, iv (-1), iv (-1), iv (-1), iv (-1)], cw [iv (-1), iv 2, iv (-1), iv 2, iv (-1)], cw [iv (-1), iv (-1), iv 3, iv (-1), iv (-1)], cw [iv (-1), iv 4, iv (-1), iv 4, iv (-1)], cw [iv (-1), iv (-1), iv (-1), iv (-1), iv 0], cw [iv 0, iv 1, iv 2, iv 3, iv 4], cw [sv 3 0 5 5, sv 4 0 5 5, sv 5 0 5 5, sv 6 0 5 5, sv 7 0 5 5, sv 8 0 5 5]] [⟨10, [9], [], none⟩, ⟨6, [], [9], none⟩, ⟨5, [], [8], none⟩, ⟨4, [], [7], none⟩, ⟨3, [], [6], none⟩, ⟨2, [], [5], none⟩, ⟨1, [], [4], none⟩, ⟨0, [], [3], none⟩] (by kernel_rfl) rfl rfl ?_
    refine d_s rfl rfl rfl (by kernel_rfl) (by exact run_iadA (o := 3) (o' := 3 + 5 * ss.toNat) rfl rfl (by omega) (by omega)) ?_
    refine d_s rfl rfl rfl (by kernel_rfl) (by refine run_fad (o' := 3 + 5 * ss.toNat) rfl (by omega)) ?_
    refine d_s rfl rfl rfl (by kernel_rfl) (by refine run_ld (v := iv 2) rfl rfl ?_; exact (pl_r P (3 + 5 * ss.toNat) (by omega) (by omega)).trans (congrArg (fun x => some (iv x)) hM.cur)) ?_
    refine d_n 3 19 10 [(22, iv (-1)), (124, iv (-1)), (123, pv 6 2)] [cw (pl P), cw (entsL e2 ++ room zE m16), cw [iv 4, iv ss, iv 0, iv 0, iv 0, uv 0, uv 0], cw [iv 1, iv (-1), iv (-1), iv (-1), iv (-1)], cw [iv (-1), iv 2, iv (-1), iv 2, iv (-1)], cw [iv (-1), iv (-1), iv 3, iv (-1), iv (-1)], cw [iv (-1), iv 4, iv (-1), iv 4, iv (-1)], cw [iv (-1), iv (-1), iv (-1), iv (-1), iv 0], cw [iv 0, iv 1, iv 2, iv 3, iv 4], cw [sv 3 0 5 5, sv 4 0 5 5, sv 5 0 5 5, sv 6 0 5 5, sv 7 0 5 5, sv 8 0 5 5]] [⟨17, [6], [], none⟩, ⟨15, [0], [], none⟩, ⟨10, [9], [], none⟩, ⟨6, [], [9], none⟩, ⟨5, [], [8], none⟩, ⟨4, [], [7], none⟩, ⟨3, [], [6], none⟩, ⟨2, [], [5], none⟩, ⟨1, [], [4], none⟩, ⟨0, [], [3], none⟩] (by kernel_rfl) rfl rfl ?_
    refine d_nil ?_
    refine ⟨⟨reg [(22, iv (-1)), (21, pv 2 0), (9, pv 0 0), (11, iv ss), (12, iv 4)], [cw (pl P), cw (entsL e2 ++ room zE m16), cw [iv 4, iv ss, iv 0, iv 0, iv 0, uv 0, uv 0]]⟩, Wk.ren [0, 1, 2] rfl rfl (by decide) ⟨rfl, ⟨rfl, ⟨rfl, ⟨rfl, ⟨rfl, trivial⟩⟩⟩⟩⟩ ⟨.inl (ren_cells (pl_scl P)), ⟨.inl (ren_cells (entsR_scl e2 m16)), ⟨.inl rfl, trivial⟩⟩⟩, ?_⟩
    refine gseq ?_
    refine greg ?_
    refine o_s (by refine run_ld (v := poolV P) rfl rfl ?_; exact pl_all P) ?_
    refine o_d 1 [(127, .agg #[iv 4, iv ss, iv 0, iv 0, iv 0, uv 0, uv 0])] (by kernel_rfl) ?_
    refine o_cl (callV (ApplyC h_pool_Apply h_pool_may h_pool_held h_pool_fits h_pool_Check h_pool_placed h_cookie_Next P (⟨4, ss, 0, 0, 0, 0, 0⟩)) rfl (all_cons (poolV_vpf P) (all_cons rfl rfl)) (all_cons (poolV_aggf ((applyS P (⟨4, ss, 0, 0, 0, 0, 0⟩)).1)) (all_cons rfl rfl)) ?_)
    refine o_b 4 [(23, pv 3 0), (130, iv ((applyS P (⟨4, ss, 0, 0, 0, 0, 0⟩)).2)), (129, poolV ((applyS P (⟨4, ss, 0, 0, 0, 0, 0⟩)).1)), (125, .tuple #[poolV ((applyS P (⟨4, ss, 0, 0, 0, 0, 0⟩)).1), iv ((applyS P (⟨4, ss, 0, 0, 0, 0, 0⟩)).2)])] [cw (pl P), cw (entsL e2 ++ room zE m16), cw [iv 4, iv ss, iv 0, iv 0, iv 0, uv 0, uv 0], cw (pl zeroP)] (by kernel_rfl) ?_
    refine o_s0 (by refine run_st (c' := pl ((applyS P (⟨4, ss, 0, 0, 0, 0, 0⟩)).1)) rfl rfl rfl ?_ ?_ ?_; exact pl_length _; exact pl_le (by omega); exact splice_pl0 zeroP ((applyS P (⟨4, ss, 0, 0, 0, 0, 0⟩)).1)) ?_
    refine o_b 1 [(24, iv ((applyS P (⟨4, ss, 0, 0, 0, 0, 0⟩)).2))] [cw (pl P), cw (entsL e2 ++ room zE m16), cw [iv 4, iv ss, iv 0, iv 0, iv 0, uv 0, uv 0], cw (pl ((applyS P (⟨4, ss, 0, 0, 0, 0, 0⟩)).1))] (by kernel_rfl) ?_
    refine o_nil ?_
    refine seq_go ?_
    refine gseq ?_
    refine gseq ?_
    refine greg ?_
    refine o_d 2 [(132, bv true), (131, iv (-1))] (by kernel_rfl) ?_
    refine o_nil ?_
    refine seq_go ?_
    refine gtrue rfl ?_
    refine gseq ?_
    refine greg ?_
    refine o_d 3 [(135, bv (((applyS P (⟨4, ss, 0, 0, 0, 0, 0⟩)).2) == 12)), (134, bv (((applyS P (⟨4, ss, 0, 0, 0, 0, 0⟩)).2) == 12)), (133, iv ((applyS P (⟨4, ss, 0, 0, 0, 0, 0⟩)).2))] (by kernel_rfl) ?_
    refine o_sp (b := ((applyS P (⟨4, ss, 0, 0, 0, 0, 0⟩)).2) == 12) 135 rfl (fun k38 => ?_) (fun q => by rw [(by rw [hE]; rfl : (((applyS P (⟨4, ss, 0, 0, 0, 0, 0⟩)).2) == 12) = true)] at q; cases q)
    refine o_unguard rfl ?_
    refine o_s (by refine run_ld (v := poolV ((applyS P (⟨4, ss, 0, 0, 0, 0, 0⟩)).1)) rfl rfl ?_; exact pl_all ((applyS P (⟨4, ss, 0, 0, 0, 0, 0⟩)).1)) ?_
    refine o_unguard rfl ?_
    refine o_s (by refine run_bld (c := pl zeroP) ?_; exact bld_zP) ?_
    refine o_unguard rfl ?_
    refine o_s (by refine run_eqa (a := ⟨pl ((applyS P (⟨4, ss, 0, 0, 0, 0, 0⟩)).1)⟩) (b := ⟨pl zeroP⟩) (r := eqP ((applyS P (⟨4, ss, 0, 0, 0, 0, 0⟩)).1) zeroP) (R := eqP ((applyS P (⟨4, ss, 0, 0, 0, 0, 0⟩)).1) zeroP) ?_ rfl; exact eqP_run ((applyS P (⟨4, ss, 0, 0, 0, 0, 0⟩)).1) zeroP rfl rfl) ?_
    refine o_d 2 [(8, bv (eqP ((applyS P (⟨4, ss, 0, 0, 0, 0, 0⟩)).1) zeroP)), (139, bv (eqP ((applyS P (⟨4, ss, 0, 0, 0, 0, 0⟩)).1) zeroP))] (by kernel_rfl) ?_
    refine o_nil ?_
    refine ⟨⟨reg [(8, bv (eqP ((applyS P (⟨4, ss, 0, 0, 0, 0, 0⟩)).1) zeroP))], []⟩, Wk.ren [] rfl rfl (by decide) ⟨rfl, trivial⟩ trivial, ?_⟩
    refine gret ?_
    have e0 : (eqP ((applyS P (⟨4, ss, 0, 0, 0, 0, 0⟩)).1) zeroP) = true := by
     first | done | (rw [apply_err (by rw [hE]; decide)]; exact eqP_self _) | (rw [hE5, if_pos (by omega)]; rfl) | (rw [hV]; simp) | (rw [apply_ver (hE5.trans (if_neg (by omega)))]; simp)
    exact fin_ans [bv (eqP ((applyS P (⟨4, ss, 0, 0, 0, 0, 0⟩)).1) zeroP)] (resV_t rfl rfl) rfl (by rw [e0]; rfl) rfl rfl
   ·skip
    have hE : (applyS P ⟨5, ss, 0, 0, 0, 0, 0⟩).2 = 12 := (mv_free hM hs (by omega)).trans (if_neg (by decide))
    refine seq_regs [(9, pv 0 0), (11, iv ss), (12, iv 5)] (by kernel_rfl) ?_
    refine gseq ?_
    refine greg ?_
    refine o_b 5 [(21, pv 2 0), (98, .agg #[iv 5, iv ss, iv 0, iv 0, iv 0, uv 0, uv 0]), (97, iv ss), (96, iv 5)] [cw (pl P), cw (entsL e2 ++ room zE m16), cw [iv 5, iv ss, iv 0, iv 0, iv 0, uv 0, uv 0]] (by kernel_rfl) ?_
    refine o_nil ?_
    refine seq_go ?_
    refine gseq ?_
    refine gseq ?_
    refine greg ?_
    refine o_d 2 [(100, bv false), (99, iv 5)] (by kernel_rfl) ?_
    refine o_nil ?_
    refine seq_go ?_
    refine gfalse rfl ?_
    refine gskip ?_
    refine seq_go ?_
    refine gseq ?_
    refine gseq ?_
    refine greg ?_
    refine o_d 2 [(105, bv false), (104, iv 5)] (by kernel_rfl) ?_
    refine o_nil ?_
    refine seq_go ?_
    refine gfalse rfl ?_
    refine gskip ?_
    refine seq_go ?_
    refine gseq ?_
    refine gdregD [cw (pl P), cw (entsL e2 ++ room zE m16), cw [iv 5, iv ss, iv 0, iv 0, iv 0, uv 0, uv 0], .gone, .gone, .gone, .gone, .gone, .gone, .gone] (by kernel_rfl) ?_
    refine d_n 13 13 10 [(119, pv 0 3), (118, iv ss), (117, sv 7 0 5 5), (116, pv 9 4), (115, iv 4), (114, iv 5), (113, sv 9 0 6 6), (112, sv 8 0 5 5), (111, sv 7 0 5 5), (110, sv 6 0 5 5), (109, sv 5 0 5 5), (108, sv 4 0 5 5), (107, sv 3 0 5 5)] [cw (pl P), cw (entsL e2 ++ room zE m16), cw [iv 5, iv ss, iv 0, iv 0, iv 0, uv 0, uv 0], cw [iv 1, iv (-1), iv (-1), iv (-1), iv (-1)], cw [iv (-1), iv 2, iv (-1), iv 2, iv (-1)], cw [iv (-1), iv (-1), iv 3, iv (-1), iv (-1)], cw [iv (-1), iv 4, iv (-1), iv 4, iv (-1)], cw [iv (-1), iv (-1), iv (-1), iv (-1), iv 0], cw [iv 0, iv 1, iv 2, iv 3, iv 4], cw [sv 3 0 5 5, sv 4 0 5 5, sv 5 0 5 5, sv 6 0 5 5, sv 7 0 5 5, sv 8 0 5 5]] [⟨10, [9], [], none⟩, ⟨6, [], [9], none⟩, ⟨5, [], [8], none⟩, ⟨4, [], [7], none⟩, ⟨3, [], [6], none⟩, ⟨2, [], [5], none⟩, ⟨1, [], [4], none⟩, ⟨0, [], [3], none⟩] (by kernel_rfl) rfl rfl ?_
    refine d_s rfl rfl rfl (by kernel_rfl) (by exact run_iadA (o := 3) (o' := 3 + 5 * ss.toNat) rfl rfl (by omega) (by omega)) ?_
    refine d_s rfl rfl rfl (by kernel_rfl) (by refine run_fad (o' := 3 + 5 * ss.toNat) rfl (by omega)) ?_
    refine d_s rfl rfl rfl (by kernel_rfl) (by refine run_ld (v := iv 2) rfl rfl ?_; exact (pl_r P (3 + 5 * ss.toNat) (by omega) (by omega)).trans (congrArg (fun x => some (iv x)) hM.cur)) ?_
    refine d_n 3 19 10 [(22, iv (-1)), (124, iv (-1)), (123, pv 7 2)] [cw (pl P), cw (entsL e2 ++ room zE m16), cw [iv 5, iv ss, iv 0, iv 0, iv 0, uv 0, uv 0], cw [iv 1, iv (-1), iv (-1), iv (-1), iv (-1)], cw [iv (-1), iv 2, iv (-1), iv 2, iv (-1)], cw [iv (-1), iv (-1), iv 3, iv (-1), iv (-1)], cw [iv (-1), iv 4, iv (-1), iv 4, iv (-1)], cw [iv (-1), iv (-1), iv (-1), iv (-1), iv 0], cw [iv 0, iv 1, iv 2, iv 3, iv 4], cw [sv 3 0 5 5, sv 4 0 5 5, sv 5 0 5 5, sv 6 0 5 5, sv 7 0 5 5, sv 8 0 5 5]] [⟨17, [7], [], none⟩, ⟨15, [0], [], none⟩, ⟨10, [9], [], none⟩, ⟨6, [], [9], none⟩, ⟨5, [], [8], none⟩, ⟨4, [], [7], none⟩, ⟨3, [], [6], none⟩, ⟨2, [], [5], none⟩, ⟨1, [], [4], none⟩, ⟨0, [], [3], none⟩] (by kernel_rfl) rfl rfl ?_
    refine d_nil ?_
    refine ⟨⟨reg [(22, iv (-1)), (21, pv 2 0), (9, pv 0 0), (11, iv ss), (12, iv 5)], [cw (pl P), cw (entsL e2 ++ room zE m16), cw [iv 5, iv ss, iv 0, iv 0, iv 0, uv 0, uv 0]]⟩, Wk.ren [0, 1, 2] rfl rfl (by decide) ⟨rfl, ⟨rfl, ⟨rfl, ⟨rfl, ⟨rfl, trivial⟩⟩⟩⟩⟩ ⟨.inl (ren_cells (pl_scl P)), ⟨.inl (ren_cells (entsR_scl e2 m16)), ⟨.inl rfl, trivial⟩⟩⟩, ?_⟩
    refine gseq ?_
    refine greg ?_
    refine o_s (by refine run_ld (v := poolV P) rfl rfl ?_; exact pl_all P) ?_
    refine o_d 1 [(127, .agg #[iv 5, iv ss, iv 0, iv 0, iv 0, uv 0, uv 0])] (by kernel_rfl) ?_
    refine o_cl (callV (ApplyC h_pool_Apply h_pool_may h_pool_held h_pool_fits h_pool_Check h_pool_placed h_cookie_Next P (⟨5, ss, 0, 0, 0, 0, 0⟩)) rfl (all_cons (poolV_vpf P) (all_cons rfl rfl)) (all_cons (poolV_aggf ((applyS P (⟨5, ss, 0, 0, 0, 0, 0⟩)).1)) (all_cons rfl rfl)) ?_)
    refine o_b 4 [(23, pv 3 0), (130, iv ((applyS P (⟨5, ss, 0, 0, 0, 0, 0⟩)).2)), (129, poolV ((applyS P (⟨5, ss, 0, 0, 0, 0, 0⟩)).1)), (125, .tuple #[poolV ((applyS P (⟨5, ss, 0, 0, 0, 0, 0⟩)).1), iv ((applyS P (⟨5, ss, 0, 0, 0, 0, 0⟩)).2)])] [cw (pl P), cw (entsL e2 ++ room zE m16), cw [iv 5, iv ss, iv 0, iv 0, iv 0, uv 0, uv 0], cw (pl zeroP)] (by kernel_rfl) ?_
    refine o_s0 (by refine run_st (c' := pl ((applyS P (⟨5, ss, 0, 0, 0, 0, 0⟩)).1)) rfl rfl rfl ?_ ?_ ?_; exact pl_length _; exact pl_le (by omega); exact splice_pl0 zeroP ((applyS P (⟨5, ss, 0, 0, 0, 0, 0⟩)).1)) ?_
    refine o_b 1 [(24, iv ((applyS P (⟨5, ss, 0, 0, 0, 0, 0⟩)).2))] [cw (pl P), cw (entsL e2 ++ room zE m16), cw [iv 5, iv ss, iv 0, iv 0, iv 0, uv 0, uv 0], cw (pl ((applyS P (⟨5, ss, 0, 0, 0, 0, 0⟩)).1))] (by kernel_rfl) ?_
    refine o_nil ?_
    refine seq_go ?_
    refine gseq ?_
    refine gseq ?_
    refine greg ?_
    refine o_d 2 [(132, bv true), (131, iv (-1))] (by kernel_rfl) ?_
    refine o_nil ?_
    refine seq_go ?_
    refine gtrue rfl ?_
    refine gseq ?_
    refine greg ?_
    refine o_d 3 [(135, bv (((applyS P (⟨5, ss, 0, 0, 0, 0, 0⟩)).2) == 12)), (134, bv (((applyS P (⟨5, ss, 0, 0, 0, 0, 0⟩)).2) == 12)), (133, iv ((applyS P (⟨5, ss, 0, 0, 0, 0, 0⟩)).2))] (by kernel_rfl) ?_
    refine o_sp (b := ((applyS P (⟨5, ss, 0, 0, 0, 0, 0⟩)).2) == 12) 135 rfl (fun k39 => ?_) (fun q => by rw [(by rw [hE]; rfl : (((applyS P (⟨5, ss, 0, 0, 0, 0, 0⟩)).2) == 12) = true)] at q; cases q)
    refine o_unguard rfl ?_
    refine o_s (by refine run_ld (v := poolV ((applyS P (⟨5, ss, 0, 0, 0, 0, 0⟩)).1)) rfl rfl ?_; exact pl_all ((applyS P (⟨5, ss, 0, 0, 0, 0, 0⟩)).1)) ?_
    refine o_unguard rfl ?_
    refine o_s (by refine run_bld (c := pl zeroP) ?_; exact bld_zP) ?_
    refine o_unguard rfl ?_
    refine o_s (by refine run_eqa (a := ⟨pl ((applyS P (⟨5, ss, 0, 0, 0, 0, 0⟩)).1)⟩) (b := ⟨pl zeroP⟩) (r := eqP ((applyS P (⟨5, ss, 0, 0, 0, 0, 0⟩)).1) zeroP) (R := eqP ((applyS P (⟨5, ss, 0, 0, 0, 0, 0⟩)).1) zeroP) ?_ rfl; exact eqP_run ((applyS P (⟨5, ss, 0, 0, 0, 0, 0⟩)).1) zeroP rfl rfl) ?_
    refine o_d 2 [(8, bv (eqP ((applyS P (⟨5, ss, 0, 0, 0, 0, 0⟩)).1) zeroP)), (139, bv (eqP ((applyS P (⟨5, ss, 0, 0, 0, 0, 0⟩)).1) zeroP))] (by kernel_rfl) ?_
    refine o_nil ?_
    refine ⟨⟨reg [(8, bv (eqP ((applyS P (⟨5, ss, 0, 0, 0, 0, 0⟩)).1) zeroP))], []⟩, Wk.ren [] rfl rfl (by decide) ⟨rfl, trivial⟩ trivial, ?_⟩
    refine gret ?_
    have e0 : (eqP ((applyS P (⟨5, ss, 0, 0, 0, 0, 0⟩)).1) zeroP) = true := by
     first | done | (rw [apply_err (by rw [hE]; decide)]; exact eqP_self _) | (rw [hE5, if_pos (by omega)]; rfl) | (rw [hV]; simp) | (rw [apply_ver (hE5.trans (if_neg (by omega)))]; simp)
    exact fin_ans [bv (eqP ((applyS P (⟨5, ss, 0, 0, 0, 0, 0⟩)).1) zeroP)] (resV_t rfl rfl) rfl (by rw [e0]; rfl) rfl rfl
   ·skip
    obtain ⟨hE, hS⟩ := moves_rot hM hs 0 0
    have hV := apply_ver hE
    refine seq_regs [(9, pv 0 0), (11, iv ss), (12, iv 6)] (by kernel_rfl) ?_
    refine gseq ?_
    refine greg ?_
    refine o_b 5 [(21, pv 2 0), (98, .agg #[iv 6, iv ss, iv 0, iv 0, iv 0, uv 0, uv 0]), (97, iv ss), (96, iv 6)] [cw (pl P), cw (entsL e2 ++ room zE m16), cw [iv 6, iv ss, iv 0, iv 0, iv 0, uv 0, uv 0]] (by kernel_rfl) ?_
    refine o_nil ?_
    refine seq_go ?_
    refine gseq ?_
    refine gseq ?_
    refine greg ?_
    refine o_d 2 [(100, bv false), (99, iv 6)] (by kernel_rfl) ?_
    refine o_nil ?_
    refine seq_go ?_
    refine gfalse rfl ?_
    refine gskip ?_
    refine seq_go ?_
    refine gseq ?_
    refine gseq ?_
    refine greg ?_
    refine o_d 2 [(105, bv true), (104, iv 6)] (by kernel_rfl) ?_
    refine o_nil ?_
    refine seq_go ?_
    refine gtrue rfl ?_
    refine greg ?_
    refine o_b 2 [(106, pv 2 1)] [cw (pl P), cw (entsL e2 ++ room zE m16), cw [iv 6, iv 0, iv 0, iv 0, iv 0, uv 0, uv 0]] (by kernel_rfl) ?_
    refine o_nil ?_
    refine seq_go ?_
    refine gseq ?_
    refine gdregD [cw (pl P), cw (entsL e2 ++ room zE m16), cw [iv 6, iv 0, iv 0, iv 0, iv 0, uv 0, uv 0], .gone, .gone, .gone, .gone, .gone, .gone, .gone] (by kernel_rfl) ?_
    refine d_n 13 13 10 [(119, pv 0 3), (118, iv ss), (117, sv 8 0 5 5), (116, pv 9 5), (115, iv 5), (114, iv 6), (113, sv 9 0 6 6), (112, sv 8 0 5 5), (111, sv 7 0 5 5), (110, sv 6 0 5 5), (109, sv 5 0 5 5), (108, sv 4 0 5 5), (107, sv 3 0 5 5)] [cw (pl P), cw (entsL e2 ++ room zE m16), cw [iv 6, iv 0, iv 0, iv 0, iv 0, uv 0, uv 0], cw [iv 1, iv (-1), iv (-1), iv (-1), iv (-1)], cw [iv (-1), iv 2, iv (-1), iv 2, iv (-1)], cw [iv (-1), iv (-1), iv 3, iv (-1), iv (-1)], cw [iv (-1), iv 4, iv (-1), iv 4, iv (-1)], cw [iv (-1), iv (-1), iv (-1), iv (-1), iv 0], cw [iv 0, iv 1, iv 2, iv 3, iv 4], cw [sv 3 0 5 5, sv 4 0 5 5, sv 5 0 5 5, sv 6 0 5 5, sv 7 0 5 5, sv 8 0 5 5]] [⟨10, [9], [], none⟩, ⟨6, [], [9], none⟩, ⟨5, [], [8], none⟩, ⟨4, [], [7], none⟩, ⟨3, [], [6], none⟩, ⟨2, [], [5], none⟩, ⟨1, [], [4], none⟩, ⟨0, [], [3], none⟩] (by kernel_rfl) rfl rfl ?_
    refine d_s rfl rfl rfl (by kernel_rfl) (by exact run_iadA (o := 3) (o' := 3 + 5 * ss.toNat) rfl rfl (by omega) (by omega)) ?_
    refine d_s rfl rfl rfl (by kernel_rfl) (by refine run_fad (o' := 3 + 5 * ss.toNat) rfl (by omega)) ?_
    refine d_s rfl rfl rfl (by kernel_rfl) (by refine run_ld (v := iv 2) rfl rfl ?_; exact (pl_r P (3 + 5 * ss.toNat) (by omega) (by omega)).trans (congrArg (fun x => some (iv x)) hM.cur)) ?_
    refine d_n 3 19 10 [(22, iv 2), (124, iv 2), (123, pv 8 2)] [cw (pl P), cw (entsL e2 ++ room zE m16), cw [iv 6, iv 0, iv 0, iv 0, iv 0, uv 0, uv 0], cw [iv 1, iv (-1), iv (-1), iv (-1), iv (-1)], cw [iv (-1), iv 2, iv (-1), iv 2, iv (-1)], cw [iv (-1), iv (-1), iv 3, iv (-1), iv (-1)], cw [iv (-1), iv 4, iv (-1), iv 4, iv (-1)], cw [iv (-1), iv (-1), iv (-1), iv (-1), iv 0], cw [iv 0, iv 1, iv 2, iv 3, iv 4], cw [sv 3 0 5 5, sv 4 0 5 5, sv 5 0 5 5, sv 6 0 5 5, sv 7 0 5 5, sv 8 0 5 5]] [⟨17, [8], [], none⟩, ⟨15, [0], [], none⟩, ⟨10, [9], [], none⟩, ⟨6, [], [9], none⟩, ⟨5, [], [8], none⟩, ⟨4, [], [7], none⟩, ⟨3, [], [6], none⟩, ⟨2, [], [5], none⟩, ⟨1, [], [4], none⟩, ⟨0, [], [3], none⟩] (by kernel_rfl) rfl rfl ?_
    refine d_nil ?_
    refine ⟨⟨reg [(22, iv 2), (21, pv 2 0), (9, pv 0 0), (11, iv ss), (12, iv 6)], [cw (pl P), cw (entsL e2 ++ room zE m16), cw [iv 6, iv 0, iv 0, iv 0, iv 0, uv 0, uv 0]]⟩, Wk.ren [0, 1, 2] rfl rfl (by decide) ⟨rfl, ⟨rfl, ⟨rfl, ⟨rfl, ⟨rfl, trivial⟩⟩⟩⟩⟩ ⟨.inl (ren_cells (pl_scl P)), ⟨.inl (ren_cells (entsR_scl e2 m16)), ⟨.inl rfl, trivial⟩⟩⟩, ?_⟩
    refine gseq ?_
    refine greg ?_
    refine o_s (by refine run_ld (v := poolV P) rfl rfl ?_; exact pl_all P) ?_
    refine o_d 1 [(127, .agg #[iv 6, iv 0, iv 0, iv 0, iv 0, uv 0, uv 0])] (by kernel_rfl) ?_
    refine o_cl (callV (ApplyC h_pool_Apply h_pool_may h_pool_held h_pool_fits h_pool_Check h_pool_placed h_cookie_Next P (⟨6, 0, 0, 0, 0, 0, 0⟩)) rfl (all_cons (poolV_vpf P) (all_cons rfl rfl)) (all_cons (poolV_aggf ((applyS P (⟨6, 0, 0, 0, 0, 0, 0⟩)).1)) (all_cons rfl rfl)) ?_)
    refine o_b 4 [(23, pv 3 0), (130, iv ((applyS P (⟨6, 0, 0, 0, 0, 0, 0⟩)).2)), (129, poolV ((applyS P (⟨6, 0, 0, 0, 0, 0, 0⟩)).1)), (125, .tuple #[poolV ((applyS P (⟨6, 0, 0, 0, 0, 0, 0⟩)).1), iv ((applyS P (⟨6, 0, 0, 0, 0, 0, 0⟩)).2)])] [cw (pl P), cw (entsL e2 ++ room zE m16), cw [iv 6, iv 0, iv 0, iv 0, iv 0, uv 0, uv 0], cw (pl zeroP)] (by kernel_rfl) ?_
    refine o_s0 (by refine run_st (c' := pl ((applyS P (⟨6, 0, 0, 0, 0, 0, 0⟩)).1)) rfl rfl rfl ?_ ?_ ?_; exact pl_length _; exact pl_le (by omega); exact splice_pl0 zeroP ((applyS P (⟨6, 0, 0, 0, 0, 0, 0⟩)).1)) ?_
    refine o_b 1 [(24, iv ((applyS P (⟨6, 0, 0, 0, 0, 0, 0⟩)).2))] [cw (pl P), cw (entsL e2 ++ room zE m16), cw [iv 6, iv 0, iv 0, iv 0, iv 0, uv 0, uv 0], cw (pl ((applyS P (⟨6, 0, 0, 0, 0, 0, 0⟩)).1))] (by kernel_rfl) ?_
    refine o_nil ?_
    refine seq_go ?_
    refine gseq ?_
    refine gseq ?_
    refine greg ?_
    refine o_d 2 [(132, bv false), (131, iv 2)] (by kernel_rfl) ?_
    refine o_nil ?_
    refine seq_go ?_
    refine gfalse rfl ?_
    refine gskip ?_
    refine seq_go ?_
    refine gseq ?_
    refine gseq ?_
    refine greg ?_
    refine o_d 10 [(149, bv false), (148, undef), (147, undef), (146, undef), (145, undef), (144, undef), (143, undef), (142, bv false), (141, bv false), (140, iv 6)] (by kernel_rfl) ?_
    refine o_nil ?_
    refine seq_go ?_
    refine gfalse rfl ?_
    refine gskip ?_
    refine seq_go ?_
    refine gseq ?_
    refine greg ?_
    refine o_d 3 [(154, bv (((applyS P (⟨6, 0, 0, 0, 0, 0, 0⟩)).2) == 0)), (153, bv (((applyS P (⟨6, 0, 0, 0, 0, 0, 0⟩)).2) == 0)), (152, iv ((applyS P (⟨6, 0, 0, 0, 0, 0, 0⟩)).2))] (by kernel_rfl) ?_
    refine o_sp (b := ((applyS P (⟨6, 0, 0, 0, 0, 0, 0⟩)).2) == 0) 154 rfl (fun k40 => ?_) (fun q => by rw [(by rw [hE]; rfl : (((applyS P (⟨6, 0, 0, 0, 0, 0, 0⟩)).2) == 0) = true)] at q; cases q)
    refine o_d 2 [(156, pv 3 3), (155, iv ss)] (by kernel_rfl) ?_
    refine o_unguard rfl ?_
    refine o_s (by exact run_iadA (o := 3) (o' := 3 + 5 * ss.toNat) rfl rfl (by omega) (by omega)) ?_
    refine o_unguard rfl ?_
    refine o_s (by refine run_fad (o' := 3 + 5 * ss.toNat) rfl (by omega)) ?_
    refine o_unguard rfl ?_
    refine o_s (by refine run_ld (v := iv (((applyS P (⟨6, 0, 0, 0, 0, 0, 0⟩)).1) (3 + 5 * ss.toNat))) rfl rfl ?_; exact pl_r ((applyS P (⟨6, 0, 0, 0, 0, 0, 0⟩)).1) (3 + 5 * ss.toNat) (by omega) (by omega)) ?_
    refine o_d 4 [(163, bv ((((applyS P (⟨6, 0, 0, 0, 0, 0, 0⟩)).1) (3 + 5 * ss.toNat)) == 2)), (162, bv ((((applyS P (⟨6, 0, 0, 0, 0, 0, 0⟩)).1) (3 + 5 * ss.toNat)) == 2)), (161, bv ((((applyS P (⟨6, 0, 0, 0, 0, 0, 0⟩)).1) (3 + 5 * ss.toNat)) == 2)), (160, iv 2)] (by kernel_rfl) ?_
    refine o_sp (b := (((applyS P (⟨6, 0, 0, 0, 0, 0, 0⟩)).1) (3 + 5 * ss.toNat)) == 2) 163 rfl (fun k41 => ?_) (fun q => by rw [(by rw [hS]; rfl : ((((applyS P (⟨6, 0, 0, 0, 0, 0, 0⟩)).1) (3 + 5 * ss.toNat)) == 2) = true)] at q; cases q)
    refine o_d 1 [(164, pv 3 0)] (by kernel_rfl) ?_
    refine o_unguard rfl ?_
    refine o_s (by refine run_ld (v := iv (((applyS P (⟨6, 0, 0, 0, 0, 0, 0⟩)).1) 0)) rfl rfl ?_; exact pl_r ((applyS P (⟨6, 0, 0, 0, 0, 0, 0⟩)).1) 0 rfl (by omega)) ?_
    refine o_d 1 [(166, pv 0 0)] (by kernel_rfl) ?_
    refine o_unguard rfl ?_
    refine o_s (by refine run_ld (v := iv (P 0)) rfl rfl ?_; exact pl_r P 0 rfl (by omega)) ?_
    refine o_d 4 [(8, bv ((((applyS P (⟨6, 0, 0, 0, 0, 0, 0⟩)).1) 0) == (IntKind.i64.wrap (P 0 + 1)))), (170, bv ((((applyS P (⟨6, 0, 0, 0, 0, 0, 0⟩)).1) 0) == (IntKind.i64.wrap (P 0 + 1)))), (169, bv ((((applyS P (⟨6, 0, 0, 0, 0, 0, 0⟩)).1) 0) == (IntKind.i64.wrap (P 0 + 1)))), (168, iv (IntKind.i64.wrap (P 0 + 1)))] (by kernel_rfl) ?_
    refine o_nil ?_
    refine ⟨⟨reg [(8, bv ((((applyS P (⟨6, 0, 0, 0, 0, 0, 0⟩)).1) 0) == (IntKind.i64.wrap (P 0 + 1))))], []⟩, Wk.ren [] rfl rfl (by decide) ⟨rfl, trivial⟩ trivial, ?_⟩
    refine gret ?_
    have e0 : ((((applyS P (⟨6, 0, 0, 0, 0, 0, 0⟩)).1) 0) == (IntKind.i64.wrap (P 0 + 1))) = true := by
     first | done | (rw [apply_err (by rw [hE]; decide)]; exact eqP_self _) | (rw [hE5, if_pos (by omega)]; rfl) | (rw [hV]; simp) | (rw [apply_ver (hE5.trans (if_neg (by omega)))]; simp)
    exact fin_ans [bv ((((applyS P (⟨6, 0, 0, 0, 0, 0, 0⟩)).1) 0) == (IntKind.i64.wrap (P 0 + 1)))] (resV_t rfl rfl) rfl (by rw [e0]; rfl) rfl rfl
  ·rcases hkk6 with rfl | rfl | rfl | rfl | rfl | rfl
   ·skip
    have hE : (applyS P ⟨1, ss, 1, 2, 3, 0, 0⟩).2 = 12 := (mv_bind hM hs (a := 1) (p := 2) (g := 3) (by decide) (by decide) (by decide)).trans (by decide)
    refine seq_regs [(9, pv 0 0), (11, iv ss), (12, iv 1)] (by kernel_rfl) ?_
    refine gseq ?_
    refine greg ?_
    refine o_b 5 [(21, pv 2 0), (98, .agg #[iv 1, iv ss, iv 0, iv 0, iv 0, uv 0, uv 0]), (97, iv ss), (96, iv 1)] [cw (pl P), cw (entsL e2 ++ room zE m16), cw [iv 1, iv ss, iv 0, iv 0, iv 0, uv 0, uv 0]] (by kernel_rfl) ?_
    refine o_nil ?_
    refine seq_go ?_
    refine gseq ?_
    refine gseq ?_
    refine greg ?_
    refine o_d 2 [(100, bv true), (99, iv 1)] (by kernel_rfl) ?_
    refine o_nil ?_
    refine seq_go ?_
    refine gtrue rfl ?_
    refine greg ?_
    refine o_b 6 [(103, pv 2 4), (102, pv 2 3), (101, pv 2 2)] [cw (pl P), cw (entsL e2 ++ room zE m16), cw [iv 1, iv ss, iv 1, iv 2, iv 3, uv 0, uv 0]] (by kernel_rfl) ?_
    refine o_nil ?_
    refine seq_go ?_
    refine gseq ?_
    refine gseq ?_
    refine greg ?_
    refine o_d 2 [(105, bv false), (104, iv 1)] (by kernel_rfl) ?_
    refine o_nil ?_
    refine seq_go ?_
    refine gfalse rfl ?_
    refine gskip ?_
    refine seq_go ?_
    refine gseq ?_
    refine gdregD [cw (pl P), cw (entsL e2 ++ room zE m16), cw [iv 1, iv ss, iv 1, iv 2, iv 3, uv 0, uv 0], .gone, .gone, .gone, .gone, .gone, .gone, .gone] (by kernel_rfl) ?_
    refine d_n 13 13 10 [(119, pv 0 3), (118, iv ss), (117, sv 3 0 5 5), (116, pv 9 0), (115, iv 0), (114, iv 1), (113, sv 9 0 6 6), (112, sv 8 0 5 5), (111, sv 7 0 5 5), (110, sv 6 0 5 5), (109, sv 5 0 5 5), (108, sv 4 0 5 5), (107, sv 3 0 5 5)] [cw (pl P), cw (entsL e2 ++ room zE m16), cw [iv 1, iv ss, iv 1, iv 2, iv 3, uv 0, uv 0], cw [iv 1, iv (-1), iv (-1), iv (-1), iv (-1)], cw [iv (-1), iv 2, iv (-1), iv 2, iv (-1)], cw [iv (-1), iv (-1), iv 3, iv (-1), iv (-1)], cw [iv (-1), iv 4, iv (-1), iv 4, iv (-1)], cw [iv (-1), iv (-1), iv (-1), iv (-1), iv 0], cw [iv 0, iv 1, iv 2, iv 3, iv 4], cw [sv 3 0 5 5, sv 4 0 5 5, sv 5 0 5 5, sv 6 0 5 5, sv 7 0 5 5, sv 8 0 5 5]] [⟨10, [9], [], none⟩, ⟨6, [], [9], none⟩, ⟨5, [], [8], none⟩, ⟨4, [], [7], none⟩, ⟨3, [], [6], none⟩, ⟨2, [], [5], none⟩, ⟨1, [], [4], none⟩, ⟨0, [], [3], none⟩] (by kernel_rfl) rfl rfl ?_
    refine d_s rfl rfl rfl (by kernel_rfl) (by exact run_iadA (o := 3) (o' := 3 + 5 * ss.toNat) rfl rfl (by omega) (by omega)) ?_
    refine d_s rfl rfl rfl (by kernel_rfl) (by refine run_fad (o' := 3 + 5 * ss.toNat) rfl (by omega)) ?_
    refine d_s rfl rfl rfl (by kernel_rfl) (by refine run_ld (v := iv 3) rfl rfl ?_; exact (pl_r P (3 + 5 * ss.toNat) (by omega) (by omega)).trans (congrArg (fun x => some (iv x)) hM.cur)) ?_
    refine d_n 3 19 10 [(22, iv (-1)), (124, iv (-1)), (123, pv 3 3)] [cw (pl P), cw (entsL e2 ++ room zE m16), cw [iv 1, iv ss, iv 1, iv 2, iv 3, uv 0, uv 0], cw [iv 1, iv (-1), iv (-1), iv (-1), iv (-1)], cw [iv (-1), iv 2, iv (-1), iv 2, iv (-1)], cw [iv (-1), iv (-1), iv 3, iv (-1), iv (-1)], cw [iv (-1), iv 4, iv (-1), iv 4, iv (-1)], cw [iv (-1), iv (-1), iv (-1), iv (-1), iv 0], cw [iv 0, iv 1, iv 2, iv 3, iv 4], cw [sv 3 0 5 5, sv 4 0 5 5, sv 5 0 5 5, sv 6 0 5 5, sv 7 0 5 5, sv 8 0 5 5]] [⟨17, [3], [], none⟩, ⟨15, [0], [], none⟩, ⟨10, [9], [], none⟩, ⟨6, [], [9], none⟩, ⟨5, [], [8], none⟩, ⟨4, [], [7], none⟩, ⟨3, [], [6], none⟩, ⟨2, [], [5], none⟩, ⟨1, [], [4], none⟩, ⟨0, [], [3], none⟩] (by kernel_rfl) rfl rfl ?_
    refine d_nil ?_
    refine ⟨⟨reg [(22, iv (-1)), (21, pv 2 0), (9, pv 0 0), (11, iv ss), (12, iv 1)], [cw (pl P), cw (entsL e2 ++ room zE m16), cw [iv 1, iv ss, iv 1, iv 2, iv 3, uv 0, uv 0]]⟩, Wk.ren [0, 1, 2] rfl rfl (by decide) ⟨rfl, ⟨rfl, ⟨rfl, ⟨rfl, ⟨rfl, trivial⟩⟩⟩⟩⟩ ⟨.inl (ren_cells (pl_scl P)), ⟨.inl (ren_cells (entsR_scl e2 m16)), ⟨.inl rfl, trivial⟩⟩⟩, ?_⟩
    refine gseq ?_
    refine greg ?_
    refine o_s (by refine run_ld (v := poolV P) rfl rfl ?_; exact pl_all P) ?_
    refine o_d 1 [(127, .agg #[iv 1, iv ss, iv 1, iv 2, iv 3, uv 0, uv 0])] (by kernel_rfl) ?_
    refine o_cl (callV (ApplyC h_pool_Apply h_pool_may h_pool_held h_pool_fits h_pool_Check h_pool_placed h_cookie_Next P (⟨1, ss, 1, 2, 3, 0, 0⟩)) rfl (all_cons (poolV_vpf P) (all_cons rfl rfl)) (all_cons (poolV_aggf ((applyS P (⟨1, ss, 1, 2, 3, 0, 0⟩)).1)) (all_cons rfl rfl)) ?_)
    refine o_b 4 [(23, pv 3 0), (130, iv ((applyS P (⟨1, ss, 1, 2, 3, 0, 0⟩)).2)), (129, poolV ((applyS P (⟨1, ss, 1, 2, 3, 0, 0⟩)).1)), (125, .tuple #[poolV ((applyS P (⟨1, ss, 1, 2, 3, 0, 0⟩)).1), iv ((applyS P (⟨1, ss, 1, 2, 3, 0, 0⟩)).2)])] [cw (pl P), cw (entsL e2 ++ room zE m16), cw [iv 1, iv ss, iv 1, iv 2, iv 3, uv 0, uv 0], cw (pl zeroP)] (by kernel_rfl) ?_
    refine o_s0 (by refine run_st (c' := pl ((applyS P (⟨1, ss, 1, 2, 3, 0, 0⟩)).1)) rfl rfl rfl ?_ ?_ ?_; exact pl_length _; exact pl_le (by omega); exact splice_pl0 zeroP ((applyS P (⟨1, ss, 1, 2, 3, 0, 0⟩)).1)) ?_
    refine o_b 1 [(24, iv ((applyS P (⟨1, ss, 1, 2, 3, 0, 0⟩)).2))] [cw (pl P), cw (entsL e2 ++ room zE m16), cw [iv 1, iv ss, iv 1, iv 2, iv 3, uv 0, uv 0], cw (pl ((applyS P (⟨1, ss, 1, 2, 3, 0, 0⟩)).1))] (by kernel_rfl) ?_
    refine o_nil ?_
    refine seq_go ?_
    refine gseq ?_
    refine gseq ?_
    refine greg ?_
    refine o_d 2 [(132, bv true), (131, iv (-1))] (by kernel_rfl) ?_
    refine o_nil ?_
    refine seq_go ?_
    refine gtrue rfl ?_
    refine gseq ?_
    refine greg ?_
    refine o_d 3 [(135, bv (((applyS P (⟨1, ss, 1, 2, 3, 0, 0⟩)).2) == 12)), (134, bv (((applyS P (⟨1, ss, 1, 2, 3, 0, 0⟩)).2) == 12)), (133, iv ((applyS P (⟨1, ss, 1, 2, 3, 0, 0⟩)).2))] (by kernel_rfl) ?_
    refine o_sp (b := ((applyS P (⟨1, ss, 1, 2, 3, 0, 0⟩)).2) == 12) 135 rfl (fun k42 => ?_) (fun q => by rw [(by rw [hE]; rfl : (((applyS P (⟨1, ss, 1, 2, 3, 0, 0⟩)).2) == 12) = true)] at q; cases q)
    refine o_unguard rfl ?_
    refine o_s (by refine run_ld (v := poolV ((applyS P (⟨1, ss, 1, 2, 3, 0, 0⟩)).1)) rfl rfl ?_; exact pl_all ((applyS P (⟨1, ss, 1, 2, 3, 0, 0⟩)).1)) ?_
    refine o_unguard rfl ?_
    refine o_s (by refine run_bld (c := pl zeroP) ?_; exact bld_zP) ?_
    refine o_unguard rfl ?_
    refine o_s (by refine run_eqa (a := ⟨pl ((applyS P (⟨1, ss, 1, 2, 3, 0, 0⟩)).1)⟩) (b := ⟨pl zeroP⟩) (r := eqP ((applyS P (⟨1, ss, 1, 2, 3, 0, 0⟩)).1) zeroP) (R := eqP ((applyS P (⟨1, ss, 1, 2, 3, 0, 0⟩)).1) zeroP) ?_ rfl; exact eqP_run ((applyS P (⟨1, ss, 1, 2, 3, 0, 0⟩)).1) zeroP rfl rfl) ?_
    refine o_d 2 [(8, bv (eqP ((applyS P (⟨1, ss, 1, 2, 3, 0, 0⟩)).1) zeroP)), (139, bv (eqP ((applyS P (⟨1, ss, 1, 2, 3, 0, 0⟩)).1) zeroP))] (by kernel_rfl) ?_
    refine o_nil ?_
    refine ⟨⟨reg [(8, bv (eqP ((applyS P (⟨1, ss, 1, 2, 3, 0, 0⟩)).1) zeroP))], []⟩, Wk.ren [] rfl rfl (by decide) ⟨rfl, trivial⟩ trivial, ?_⟩
    refine gret ?_
    have e0 : (eqP ((applyS P (⟨1, ss, 1, 2, 3, 0, 0⟩)).1) zeroP) = true := by
     first | done | (rw [apply_err (by rw [hE]; decide)]; exact eqP_self _) | (rw [hE5, if_pos (by omega)]; rfl) | (rw [hV]; simp) | (rw [apply_ver (hE5.trans (if_neg (by omega)))]; simp)
    exact fin_ans [bv (eqP ((applyS P (⟨1, ss, 1, 2, 3, 0, 0⟩)).1) zeroP)] (resV_t rfl rfl) rfl (by rw [e0]; rfl) rfl rfl
   ·skip
    have hE : (applyS P ⟨2, ss, 0, 0, 0, 0, 0⟩).2 = 0 := (mv_k hM hs (k := 2) (by decide)).trans (by decide)
    have hS : (applyS P ⟨2, ss, 0, 0, 0, 0, 0⟩).1 (3 + 5 * ss.toNat) = 2 := (moves_to hM hs rfl ⟨by simp, by simp⟩ hE).trans rfl
    have hV := apply_ver hE
    refine seq_regs [(9, pv 0 0), (11, iv ss), (12, iv 2)] (by kernel_rfl) ?_
    refine gseq ?_
    refine greg ?_
    refine o_b 5 [(21, pv 2 0), (98, .agg #[iv 2, iv ss, iv 0, iv 0, iv 0, uv 0, uv 0]), (97, iv ss), (96, iv 2)] [cw (pl P), cw (entsL e2 ++ room zE m16), cw [iv 2, iv ss, iv 0, iv 0, iv 0, uv 0, uv 0]] (by kernel_rfl) ?_
    refine o_nil ?_
    refine seq_go ?_
    refine gseq ?_
    refine gseq ?_
    refine greg ?_
    refine o_d 2 [(100, bv false), (99, iv 2)] (by kernel_rfl) ?_
    refine o_nil ?_
    refine seq_go ?_
    refine gfalse rfl ?_
    refine gskip ?_
    refine seq_go ?_
    refine gseq ?_
    refine gseq ?_
    refine greg ?_
    refine o_d 2 [(105, bv false), (104, iv 2)] (by kernel_rfl) ?_
    refine o_nil ?_
    refine seq_go ?_
    refine gfalse rfl ?_
    refine gskip ?_
    refine seq_go ?_
    refine gseq ?_
    refine gdregD [cw (pl P), cw (entsL e2 ++ room zE m16), cw [iv 2, iv ss, iv 0, iv 0, iv 0, uv 0, uv 0], .gone, .gone, .gone, .gone, .gone, .gone, .gone] (by kernel_rfl) ?_
    refine d_n 13 13 10 [(119, pv 0 3), (118, iv ss), (117, sv 4 0 5 5), (116, pv 9 1), (115, iv 1), (114, iv 2), (113, sv 9 0 6 6), (112, sv 8 0 5 5), (111, sv 7 0 5 5), (110, sv 6 0 5 5), (109, sv 5 0 5 5), (108, sv 4 0 5 5), (107, sv 3 0 5 5)] [cw (pl P), cw (entsL e2 ++ room zE m16), cw [iv 2, iv ss, iv 0, iv 0, iv 0, uv 0, uv 0], cw [iv 1, iv (-1), iv (-1), iv (-1), iv (-1)], cw [iv (-1), iv 2, iv (-1), iv 2, iv (-1)], cw [iv (-1), iv (-1), iv 3, iv (-1), iv (-1)], cw [iv (-1), iv 4, iv (-1), iv 4, iv (-1)], cw [iv (-1), iv (-1), iv (-1), iv (-1), iv 0], cw [iv 0, iv 1, iv 2, iv 3, iv 4], cw [sv 3 0 5 5, sv 4 0 5 5, sv 5 0 5 5, sv 6 0 5 5, sv 7 0 5 5, sv 8 0 5 5]] [⟨10, [9], [], none⟩, ⟨6, [], [9], none⟩, ⟨5, [], [8], none⟩, ⟨4, [], [7], none⟩, ⟨3, [], [6], none⟩, ⟨2, [], [5], none⟩, ⟨1, [], [4], none⟩, ⟨0, [], [3], none⟩] (by kernel_rfl) rfl rfl ?_
    refine d_s rfl rfl rfl (by kernel_rfl) (by exact run_iadA (o := 3) (o' := 3 + 5 * ss.toNat) rfl rfl (by omega) (by omega)) ?_
    refine d_s rfl rfl rfl (by kernel_rfl) (by refine run_fad (o' := 3 + 5 * ss.toNat) rfl (by omega)) ?_
    refine d_s rfl rfl rfl (by kernel_rfl) (by refine run_ld (v := iv 3) rfl rfl ?_; exact (pl_r P (3 + 5 * ss.toNat) (by omega) (by omega)).trans (congrArg (fun x => some (iv x)) hM.cur)) ?_
    refine d_n 3 19 10 [(22, iv 2), (124, iv 2), (123, pv 4 3)] [cw (pl P), cw (entsL e2 ++ room zE m16), cw [iv 2, iv ss, iv 0, iv 0, iv 0, uv 0, uv 0], cw [iv 1, iv (-1), iv (-1), iv (-1), iv (-1)], cw [iv (-1), iv 2, iv (-1), iv 2, iv (-1)], cw [iv (-1), iv (-1), iv 3, iv (-1), iv (-1)], cw [iv (-1), iv 4, iv (-1), iv 4, iv (-1)], cw [iv (-1), iv (-1), iv (-1), iv (-1), iv 0], cw [iv 0, iv 1, iv 2, iv 3, iv 4], cw [sv 3 0 5 5, sv 4 0 5 5, sv 5 0 5 5, sv 6 0 5 5, sv 7 0 5 5, sv 8 0 5 5]] [⟨17, [4], [], none⟩, ⟨15, [0], [], none⟩, ⟨10, [9], [], none⟩, ⟨6, [], [9], none⟩, ⟨5, [], [8], none⟩, ⟨4, [], [7], none⟩, ⟨3, [], [6], none⟩, ⟨2, [], [5], none⟩, ⟨1, [], [4], none⟩, ⟨0, [], [3], none⟩] (by kernel_rfl) rfl rfl ?_
    refine d_nil ?_
    refine ⟨⟨reg [(22, iv 2), (21, pv 2 0), (9, pv 0 0), (11, iv ss), (12, iv 2)], [cw (pl P), cw (entsL e2 ++ room zE m16), cw [iv 2, iv ss, iv 0, iv 0, iv 0, uv 0, uv 0]]⟩, Wk.ren [0, 1, 2] rfl rfl (by decide) ⟨rfl, ⟨rfl, ⟨rfl, ⟨rfl, ⟨rfl, trivial⟩⟩⟩⟩⟩ ⟨.inl (ren_cells (pl_scl P)), ⟨.inl (ren_cells (entsR_scl e2 m16)), ⟨.inl rfl, trivial⟩⟩⟩, ?_⟩
    refine gseq ?_
    refine greg ?_
    refine o_s (by refine run_ld (v := poolV P) rfl rfl ?_; exact pl_all P) ?_
    refine o_d 1 [(127, .agg #[iv 2, iv ss, iv 0, iv 0, iv 0, uv 0, uv 0])] (by kernel_rfl) ?_
    refine o_cl (callV (ApplyC h_pool_Apply h_pool_may h_pool_held h_pool_fits h_pool_Check h_pool_placed h_cookie_Next P (⟨2, ss, 0, 0, 0, 0, 0⟩)) rfl (all_cons (poolV_vpf P) (all_cons rfl rfl)) (all_cons (poolV_aggf ((applyS P (⟨2, ss, 0, 0, 0, 0, 0⟩)).1)) (all_cons rfl rfl)) ?_)
    refine o_b 4 [(23, pv 3 0), (130, iv ((applyS P (⟨2, ss, 0, 0, 0, 0, 0⟩)).2)), (129, poolV ((applyS P (⟨2, ss, 0, 0, 0, 0, 0⟩)).1)), (125, .tuple #[poolV ((applyS P (⟨2, ss, 0, 0, 0, 0, 0⟩)).1), iv ((applyS P (⟨2, ss, 0, 0, 0, 0, 0⟩)).2)])] [cw (pl P), cw (entsL e2 ++ room zE m16), cw [iv 2, iv ss, iv 0, iv 0, iv 0, uv 0, uv 0], cw (pl zeroP)] (by kernel_rfl) ?_
    refine o_s0 (by refine run_st (c' := pl ((applyS P (⟨2, ss, 0, 0, 0, 0, 0⟩)).1)) rfl rfl rfl ?_ ?_ ?_; exact pl_length _; exact pl_le (by omega); exact splice_pl0 zeroP ((applyS P (⟨2, ss, 0, 0, 0, 0, 0⟩)).1)) ?_
    refine o_b 1 [(24, iv ((applyS P (⟨2, ss, 0, 0, 0, 0, 0⟩)).2))] [cw (pl P), cw (entsL e2 ++ room zE m16), cw [iv 2, iv ss, iv 0, iv 0, iv 0, uv 0, uv 0], cw (pl ((applyS P (⟨2, ss, 0, 0, 0, 0, 0⟩)).1))] (by kernel_rfl) ?_
    refine o_nil ?_
    refine seq_go ?_
    refine gseq ?_
    refine gseq ?_
    refine greg ?_
    refine o_d 2 [(132, bv false), (131, iv 2)] (by kernel_rfl) ?_
    refine o_nil ?_
    refine seq_go ?_
    refine gfalse rfl ?_
    refine gskip ?_
    refine seq_go ?_
    refine gseq ?_
    refine gseq ?_
    refine greg ?_
    refine o_d 10 [(149, bv false), (148, undef), (147, undef), (146, undef), (145, undef), (144, undef), (143, undef), (142, bv false), (141, bv false), (140, iv 2)] (by kernel_rfl) ?_
    refine o_nil ?_
    refine seq_go ?_
    refine gfalse rfl ?_
    refine gskip ?_
    refine seq_go ?_
    refine gseq ?_
    refine greg ?_
    refine o_d 3 [(154, bv (((applyS P (⟨2, ss, 0, 0, 0, 0, 0⟩)).2) == 0)), (153, bv (((applyS P (⟨2, ss, 0, 0, 0, 0, 0⟩)).2) == 0)), (152, iv ((applyS P (⟨2, ss, 0, 0, 0, 0, 0⟩)).2))] (by kernel_rfl) ?_
    refine o_sp (b := ((applyS P (⟨2, ss, 0, 0, 0, 0, 0⟩)).2) == 0) 154 rfl (fun k43 => ?_) (fun q => by rw [(by rw [hE]; rfl : (((applyS P (⟨2, ss, 0, 0, 0, 0, 0⟩)).2) == 0) = true)] at q; cases q)
    refine o_d 2 [(156, pv 3 3), (155, iv ss)] (by kernel_rfl) ?_
    refine o_unguard rfl ?_
    refine o_s (by exact run_iadA (o := 3) (o' := 3 + 5 * ss.toNat) rfl rfl (by omega) (by omega)) ?_
    refine o_unguard rfl ?_
    refine o_s (by refine run_fad (o' := 3 + 5 * ss.toNat) rfl (by omega)) ?_
    refine o_unguard rfl ?_
    refine o_s (by refine run_ld (v := iv (((applyS P (⟨2, ss, 0, 0, 0, 0, 0⟩)).1) (3 + 5 * ss.toNat))) rfl rfl ?_; exact pl_r ((applyS P (⟨2, ss, 0, 0, 0, 0, 0⟩)).1) (3 + 5 * ss.toNat) (by omega) (by omega)) ?_
    refine o_d 4 [(163, bv ((((applyS P (⟨2, ss, 0, 0, 0, 0, 0⟩)).1) (3 + 5 * ss.toNat)) == 2)), (162, bv ((((applyS P (⟨2, ss, 0, 0, 0, 0, 0⟩)).1) (3 + 5 * ss.toNat)) == 2)), (161, bv ((((applyS P (⟨2, ss, 0, 0, 0, 0, 0⟩)).1) (3 + 5 * ss.toNat)) == 2)), (160, iv 2)] (by kernel_rfl) ?_
    refine o_sp (b := (((applyS P (⟨2, ss, 0, 0, 0, 0, 0⟩)).1) (3 + 5 * ss.toNat)) == 2) 163 rfl (fun k44 => ?_) (fun q => by rw [(by rw [hS]; rfl : ((((applyS P (⟨2, ss, 0, 0, 0, 0, 0⟩)).1) (3 + 5 * ss.toNat)) == 2) = true)] at q; cases q)
    refine o_d 1 [(164, pv 3 0)] (by kernel_rfl) ?_
    refine o_unguard rfl ?_
    refine o_s (by refine run_ld (v := iv (((applyS P (⟨2, ss, 0, 0, 0, 0, 0⟩)).1) 0)) rfl rfl ?_; exact pl_r ((applyS P (⟨2, ss, 0, 0, 0, 0, 0⟩)).1) 0 rfl (by omega)) ?_
    refine o_d 1 [(166, pv 0 0)] (by kernel_rfl) ?_
    refine o_unguard rfl ?_
    refine o_s (by refine run_ld (v := iv (P 0)) rfl rfl ?_; exact pl_r P 0 rfl (by omega)) ?_
    refine o_d 4 [(8, bv ((((applyS P (⟨2, ss, 0, 0, 0, 0, 0⟩)).1) 0) == (IntKind.i64.wrap (P 0 + 1)))), (170, bv ((((applyS P (⟨2, ss, 0, 0, 0, 0, 0⟩)).1) 0) == (IntKind.i64.wrap (P 0 + 1)))), (169, bv ((((applyS P (⟨2, ss, 0, 0, 0, 0, 0⟩)).1) 0) == (IntKind.i64.wrap (P 0 + 1)))), (168, iv (IntKind.i64.wrap (P 0 + 1)))] (by kernel_rfl) ?_
    refine o_nil ?_
    refine ⟨⟨reg [(8, bv ((((applyS P (⟨2, ss, 0, 0, 0, 0, 0⟩)).1) 0) == (IntKind.i64.wrap (P 0 + 1))))], []⟩, Wk.ren [] rfl rfl (by decide) ⟨rfl, trivial⟩ trivial, ?_⟩
    refine gret ?_
    have e0 : ((((applyS P (⟨2, ss, 0, 0, 0, 0, 0⟩)).1) 0) == (IntKind.i64.wrap (P 0 + 1))) = true := by
     first | done | (rw [apply_err (by rw [hE]; decide)]; exact eqP_self _) | (rw [hE5, if_pos (by omega)]; rfl) | (rw [hV]; simp) | (rw [apply_ver (hE5.trans (if_neg (by omega)))]; simp)
    exact fin_ans [bv ((((applyS P (⟨2, ss, 0, 0, 0, 0, 0⟩)).1) 0) == (IntKind.i64.wrap (P 0 + 1)))] (resV_t rfl rfl) rfl (by rw [e0]; rfl) rfl rfl
   ·skip
    have hE : (applyS P ⟨3, ss, 0, 0, 0, 0, 0⟩).2 = 12 := (mv_k hM hs (k := 3) (by decide)).trans (by decide)
    refine seq_regs [(9, pv 0 0), (11, iv ss), (12, iv 3)] (by kernel_rfl) ?_
    refine gseq ?_
    refine greg ?_
    refine o_b 5 [(21, pv 2 0), (98, .agg #[iv 3, iv ss, iv 0, iv 0, iv 0, uv 0, uv 0]), (97, iv ss), (96, iv 3)] [cw (pl P), cw (entsL e2 ++ room zE m16), cw [iv 3, iv ss, iv 0, iv 0, iv 0, uv 0, uv 0]] (by kernel_rfl) ?_
    refine o_nil ?_
    refine seq_go ?_
    refine gseq ?_
    refine gseq ?_
    refine greg ?_
    refine o_d 2 [(100, bv false), (99, iv 3)] (by kernel_rfl) ?_
    refine o_nil ?_
    refine seq_go ?_
    refine gfalse rfl ?_
    refine gskip ?_
    refine seq_go ?_
    refine gseq ?_
    refine gseq ?_
    refine greg ?_
    refine o_d 2 [(105, bv false), (104, iv 3)] (by kernel_rfl) ?_
    refine o_nil ?_
    refine seq_go ?_
    refine gfalse rfl ?_
    refine gskip ?_
    refine seq_go ?_
    refine gseq ?_
    refine gdregD [cw (pl P), cw (entsL e2 ++ room zE m16), cw [iv 3, iv ss, iv 0, iv 0, iv 0, uv 0, uv 0], .gone, .gone, .gone, .gone, .gone, .gone, .gone] (by kernel_rfl) ?_
    refine d_n 13 13 10 [(119, pv 0 3), (118, iv ss), (117, sv 5 0 5 5), (116, pv 9 2), (115, iv 2), (114, iv 3), (113, sv 9 0 6 6), (112, sv 8 0 5 5), (111, sv 7 0 5 5), (110, sv 6 0 5 5), (109, sv 5 0 5 5), (108, sv 4 0 5 5), (107, sv 3 0 5 5)] [cw (pl P), cw (entsL e2 ++ room zE m16), cw [iv 3, iv ss, iv 0, iv 0, iv 0, uv 0, uv 0], cw [iv 1, iv (-1), iv (-1), iv (-1), iv (-1)], cw [iv (-1), iv 2, iv (-1), iv 2, iv (-1)], cw [iv (-1), iv (-1), iv 3, iv (-1), iv (-1)], cw [iv (-1), iv 4, iv (-1), iv 4, iv (-1)], cw [iv (-1), iv (-1), iv (-1), iv (-1), iv 0], cw [iv 0, iv 1, iv 2, iv 3, iv 4], cw [sv 3 0 5 5, sv 4 0 5 5, sv 5 0 5 5, sv 6 0 5 5, sv 7 0 5 5, sv 8 0 5 5]] [⟨10, [9], [], none⟩, ⟨6, [], [9], none⟩, ⟨5, [], [8], none⟩, ⟨4, [], [7], none⟩, ⟨3, [], [6], none⟩, ⟨2, [], [5], none⟩, ⟨1, [], [4], none⟩, ⟨0, [], [3], none⟩] (by kernel_rfl) rfl rfl ?_
    refine d_s rfl rfl rfl (by kernel_rfl) (by exact run_iadA (o := 3) (o' := 3 + 5 * ss.toNat) rfl rfl (by omega) (by omega)) ?_
    refine d_s rfl rfl rfl (by kernel_rfl) (by refine run_fad (o' := 3 + 5 * ss.toNat) rfl (by omega)) ?_
    refine d_s rfl rfl rfl (by kernel_rfl) (by refine run_ld (v := iv 3) rfl rfl ?_; exact (pl_r P (3 + 5 * ss.toNat) (by omega) (by omega)).trans (congrArg (fun x => some (iv x)) hM.cur)) ?_
    refine d_n 3 19 10 [(22, iv (-1)), (124, iv (-1)), (123, pv 5 3)] [cw (pl P), cw (entsL e2 ++ room zE m16), cw [iv 3, iv ss, iv 0, iv 0, iv 0, uv 0, uv 0], cw [iv 1, iv (-1), iv (-1), iv (-1), iv (-1)], cw [iv (-1), iv 2, iv (-1), iv 2, iv (-1)], cw [iv (-1), iv (-1), iv 3, iv (-1), iv (-1)], cw [iv (-1), iv 4, iv (-1), iv 4, iv (-1)], cw [iv (-1), iv (-1), iv (-1), iv (-1), iv 0], cw [iv 0, iv 1, iv 2, iv 3, iv 4], cw [sv 3 0 5 5, sv 4 0 5 5, sv 5 0 5 5, sv 6 0 5 5, sv 7 0 5 5, sv 8 0 5 5]] [⟨17, [5], [], none⟩, ⟨15, [0], [], none⟩, ⟨10, [9], [], none⟩, ⟨6, [], [9], none⟩, ⟨5, [], [8], none⟩, ⟨4, [], [7], none⟩, ⟨3, [], [6], none⟩, ⟨2, [], [5], none⟩, ⟨1, [], [4], none⟩, ⟨0, [], [3], none⟩] (by kernel_rfl) rfl rfl ?_
    refine d_nil ?_
    refine ⟨⟨reg [(22, iv (-1)), (21, pv 2 0), (9, pv 0 0), (11, iv ss), (12, iv 3)], [cw (pl P), cw (entsL e2 ++ room zE m16), cw [iv 3, iv ss, iv 0, iv 0, iv 0, uv 0, uv 0]]⟩, Wk.ren [0, 1, 2] rfl rfl (by decide) ⟨rfl, ⟨rfl, ⟨rfl, ⟨rfl, ⟨rfl, trivial⟩⟩⟩⟩⟩ ⟨.inl (ren_cells (pl_scl P)), ⟨.inl (ren_cells (entsR_scl e2 m16)), ⟨.inl rfl, trivial⟩⟩⟩, ?_⟩
    refine gseq ?_
    refine greg ?_
    refine o_s (by refine run_ld (v := poolV P) rfl rfl ?_; exact pl_all P) ?_
    refine o_d 1 [(127, .agg #[iv 3, iv ss, iv 0, iv 0, iv 0, uv 0, uv 0])] (by kernel_rfl) ?_
    refine o_cl (callV (ApplyC h_pool_Apply h_pool_may h_pool_held h_pool_fits h_pool_Check h_pool_placed h_cookie_Next P (⟨3, ss, 0, 0, 0, 0, 0⟩)) rfl (all_cons (poolV_vpf P) (all_cons rfl rfl)) (all_cons (poolV_aggf ((applyS P (⟨3, ss, 0, 0, 0, 0, 0⟩)).1)) (all_cons rfl rfl)) ?_)
    refine o_b 4 [(23, pv 3 0), (130, iv ((applyS P (⟨3, ss, 0, 0, 0, 0, 0⟩)).2)), (129, poolV ((applyS P (⟨3, ss, 0, 0, 0, 0, 0⟩)).1)), (125, .tuple #[poolV ((applyS P (⟨3, ss, 0, 0, 0, 0, 0⟩)).1), iv ((applyS P (⟨3, ss, 0, 0, 0, 0, 0⟩)).2)])] [cw (pl P), cw (entsL e2 ++ room zE m16), cw [iv 3, iv ss, iv 0, iv 0, iv 0, uv 0, uv 0], cw (pl zeroP)] (by kernel_rfl) ?_
    refine o_s0 (by refine run_st (c' := pl ((applyS P (⟨3, ss, 0, 0, 0, 0, 0⟩)).1)) rfl rfl rfl ?_ ?_ ?_; exact pl_length _; exact pl_le (by omega); exact splice_pl0 zeroP ((applyS P (⟨3, ss, 0, 0, 0, 0, 0⟩)).1)) ?_
    refine o_b 1 [(24, iv ((applyS P (⟨3, ss, 0, 0, 0, 0, 0⟩)).2))] [cw (pl P), cw (entsL e2 ++ room zE m16), cw [iv 3, iv ss, iv 0, iv 0, iv 0, uv 0, uv 0], cw (pl ((applyS P (⟨3, ss, 0, 0, 0, 0, 0⟩)).1))] (by kernel_rfl) ?_
    refine o_nil ?_
    refine seq_go ?_
    refine gseq ?_
    refine gseq ?_
    refine greg ?_
    refine o_d 2 [(132, bv true), (131, iv (-1))] (by kernel_rfl) ?_
    refine o_nil ?_
    refine seq_go ?_
    refine gtrue rfl ?_
    refine gseq ?_
    refine greg ?_
    refine o_d 3 [(135, bv (((applyS P (⟨3, ss, 0, 0, 0, 0, 0⟩)).2) == 12)), (134, bv (((applyS P (⟨3, ss, 0, 0, 0, 0, 0⟩)).2) == 12)), (133, iv ((applyS P (⟨3, ss, 0, 0, 0, 0, 0⟩)).2))] (by kernel_rfl) ?_
    refine o_sp (b := ((applyS P (⟨3, ss, 0, 0, 0, 0, 0⟩)).2) == 12) 135 rfl (fun k45 => ?_) (fun q => by rw [(by rw [hE]; rfl : (((applyS P (⟨3, ss, 0, 0, 0, 0, 0⟩)).2) == 12) = true)] at q; cases q)
    refine o_unguard rfl ?_
    refine o_s (by refine run_ld (v := poolV ((applyS P (⟨3, ss, 0, 0, 0, 0, 0⟩)).1)) rfl rfl ?_; exact pl_all ((applyS P (⟨3, ss, 0, 0, 0, 0, 0⟩)).1)) ?_
    refine o_unguard rfl ?_
    refine o_s (by refine run_bld (c := pl zeroP) ?_; exact bld_zP) ?_
    refine o_unguard rfl ?_
    refine o_s (by refine run_eqa (a := ⟨pl ((applyS P (⟨3, ss, 0, 0, 0, 0, 0⟩)).1)⟩) (b := ⟨pl zeroP⟩) (r := eqP ((applyS P (⟨3, ss, 0, 0, 0, 0, 0⟩)).1) zeroP) (R := eqP ((applyS P (⟨3, ss, 0, 0, 0, 0, 0⟩)).1) zeroP) ?_ rfl; exact eqP_run ((applyS P (⟨3, ss, 0, 0, 0, 0, 0⟩)).1) zeroP rfl rfl) ?_
    refine o_d 2 [(8, bv (eqP ((applyS P (⟨3, ss, 0, 0, 0, 0, 0⟩)).1) zeroP)), (139, bv (eqP ((applyS P (⟨3, ss, 0, 0, 0, 0, 0⟩)).1) zeroP))] (by kernel_rfl) ?_
    refine o_nil ?_
    refine ⟨⟨reg [(8, bv (eqP ((applyS P (⟨3, ss, 0, 0, 0, 0, 0⟩)).1) zeroP))], []⟩, Wk.ren [] rfl rfl (by decide) ⟨rfl, trivial⟩ trivial, ?_⟩
    refine gret ?_
    have e0 : (eqP ((applyS P (⟨3, ss, 0, 0, 0, 0, 0⟩)).1) zeroP) = true := by
     first | done | (rw [apply_err (by rw [hE]; decide)]; exact eqP_self _) | (rw [hE5, if_pos (by omega)]; rfl) | (rw [hV]; simp) | (rw [apply_ver (hE5.trans (if_neg (by omega)))]; simp)
    exact fin_ans [bv (eqP ((applyS P (⟨3, ss, 0, 0, 0, 0, 0⟩)).1) zeroP)] (resV_t rfl rfl) rfl (by rw [e0]; rfl) rfl rfl
   ·skip
    have hE : (applyS P ⟨4, ss, 0, 0, 0, 0, 0⟩).2 = 0 := (mv_k hM hs (k := 4) (by decide)).trans (by decide)
    have hS : (applyS P ⟨4, ss, 0, 0, 0, 0, 0⟩).1 (3 + 5 * ss.toNat) = 4 := (moves_to hM hs rfl ⟨by simp, by simp⟩ hE).trans rfl
    have hV := apply_ver hE
    refine seq_regs [(9, pv 0 0), (11, iv ss), (12, iv 4)] (by kernel_rfl) ?_
    refine gseq ?_
    refine greg ?_
    refine o_b 5 [(21, pv 2 0), (98, .agg #[iv 4, iv ss, iv 0, iv 0, iv 0, uv 0, uv 0]), (97, iv ss), (96, iv 4)] [cw (pl P), cw (entsL e2 ++ room zE m16), cw [iv 4, iv ss, iv 0, iv 0, iv 0, uv 0, uv 0]] (by kernel_rfl) ?_
    refine o_nil ?_
    refine seq_go ?_
    refine gseq ?_
    refine gseq ?_
    refine greg ?_
    refine o_d 2 [(100, bv false), (99, iv 4)] (by kernel_rfl) ?_
    refine o_nil ?_
    refine seq_go ?_
    refine gfalse rfl ?_
    refine gskip ?_
    refine seq_go ?_
    refine gseq ?_
    refine gseq ?_
    refine greg ?_
    refine o_d 2 [(105, bv false), (104, iv 4)] (by kernel_rfl) ?_
    refine o_nil ?_
    refine seq_go ?_
    refine gfalse rfl ?_
    refine gskip ?_
    refine seq_go ?_
    refine gseq ?_
    refine gdregD [cw (pl P), cw (entsL e2 ++ room zE m16), cw [iv 4, iv ss, iv 0, iv 0, iv 0, uv 0, uv 0], .gone, .gone, .gone, .gone, .gone, .gone, .gone] (by kernel_rfl) ?_
    refine d_n 13 13 10 [(119, pv 0 3), (118, iv ss), (117, sv 6 0 5 5), (116, pv 9 3), (115, iv 3), (114, iv 4), (113, sv 9 0 6 6), (112, sv 8 0 5 5), (111, sv 7 0 5 5), (110, sv 6 0 5 5), (109, sv 5 0 5 5), (108, sv 4 0 5 5), (107, sv 3 0 5 5)] [cw (pl P), cw (entsL e2 ++ room zE m16), cw [iv 4, iv ss, iv 0, iv 0, iv 0, uv 0, uv 0], cw [iv 1, iv (-1), iv (-1), iv (-1), iv (-1)], cw [iv (-1), iv 2, iv (-1), iv 2, iv (-1)], cw [iv (-1), iv (-1), iv 3, iv (-1), iv (-1)], cw [iv (-1), iv 4, iv (-1), iv 4, iv (-1)], cw [iv (-1), iv (-1), iv (-1), iv (-1), iv 0], cw [iv 0, iv 1, iv 2, iv 3, iv 4], cw [sv 3 0 5 5, sv 4 0 5 5, sv 5 0 5 5, sv 6 0 5 5, sv 7 0 5 5, sv 8 0 5 5]] [⟨10, [9], [], none⟩, ⟨6, [], [9], none⟩, ⟨5, [], [8], none⟩, ⟨4, [], [7], none⟩, ⟨3, [], [6], none⟩, ⟨2, [], [5], none⟩, ⟨1, [], [4], none⟩, ⟨0, [], [3], none⟩] (by kernel_rfl) rfl rfl ?_
    refine d_s rfl rfl rfl (by kernel_rfl) (by exact run_iadA (o := 3) (o' := 3 + 5 * ss.toNat) rfl rfl (by omega) (by omega)) ?_
    refine d_s rfl rfl rfl (by kernel_rfl) (by refine run_fad (o' := 3 + 5 * ss.toNat) rfl (by omega)) ?_
    refine d_s rfl rfl rfl (by kernel_rfl) (by refine run_ld (v := iv 3) rfl rfl ?_; exact (pl_r P (3 + 5 * ss.toNat) (by omega) (by omega)).trans (congrArg (fun x => some (iv x)) hM.cur)) ?_
    refine d_n 3 19 10 [(22, iv 4), (124, iv 4), (123, pv 6 3)] [cw (pl P), cw (entsL e2 ++ room zE m16), cw [iv 4, iv ss, iv 0, iv 0, iv 0, uv 0, uv 0], cw [iv 1, iv (-1), iv (-1), iv (-1), iv (-1)], cw [iv (-1), iv 2, iv (-1), iv 2, iv (-1)], cw [iv (-1), iv (-1), iv 3, iv (-1), iv (-1)], cw [iv (-1), iv 4, iv (-1), iv 4, iv (-1)], cw [iv (-1), iv (-1), iv (-1), iv (-1), iv 0], cw [iv 0, iv 1, iv 2, iv 3, iv 4], cw [sv 3 0 5 5, sv 4 0 5 5, sv 5 0 5 5, sv 6 0 5 5, sv 7 0 5 5, sv 8 0 5 5]] [⟨17, [6], [], none⟩, ⟨15, [0], [], none⟩, ⟨10, [9], [], none⟩, ⟨6, [], [9], none⟩, ⟨5, [], [8], none⟩, ⟨4, [], [7], none⟩, ⟨3, [], [6], none⟩, ⟨2, [], [5], none⟩, ⟨1, [], [4], none⟩, ⟨0, [], [3], none⟩] (by kernel_rfl) rfl rfl ?_
    refine d_nil ?_
    refine ⟨⟨reg [(22, iv 4), (21, pv 2 0), (9, pv 0 0), (11, iv ss), (12, iv 4)], [cw (pl P), cw (entsL e2 ++ room zE m16), cw [iv 4, iv ss, iv 0, iv 0, iv 0, uv 0, uv 0]]⟩, Wk.ren [0, 1, 2] rfl rfl (by decide) ⟨rfl, ⟨rfl, ⟨rfl, ⟨rfl, ⟨rfl, trivial⟩⟩⟩⟩⟩ ⟨.inl (ren_cells (pl_scl P)), ⟨.inl (ren_cells (entsR_scl e2 m16)), ⟨.inl rfl, trivial⟩⟩⟩, ?_⟩
    refine gseq ?_
    refine greg ?_
    refine o_s (by refine run_ld (v := poolV P) rfl rfl ?_; exact pl_all P) ?_
    refine o_d 1 [(127, .agg #[iv 4, iv ss, iv 0, iv 0, iv 0, uv 0, uv 0])] (by kernel_rfl) ?_
    refine o_cl (callV (ApplyC h_pool_Apply h_pool_may h_pool_held h_pool_fits h_pool_Check h_pool_placed h_cookie_Next P (⟨4, ss, 0, 0, 0, 0, 0⟩)) rfl (all_cons (poolV_vpf P) (all_cons rfl rfl)) (all_cons (poolV_aggf ((applyS P (⟨4, ss, 0, 0, 0, 0, 0⟩)).1)) (all_cons rfl rfl)) ?_)
    refine o_b 4 [(23, pv 3 0), (130, iv ((applyS P (⟨4, ss, 0, 0, 0, 0, 0⟩)).2)), (129, poolV ((applyS P (⟨4, ss, 0, 0, 0, 0, 0⟩)).1)), (125, .tuple #[poolV ((applyS P (⟨4, ss, 0, 0, 0, 0, 0⟩)).1), iv ((applyS P (⟨4, ss, 0, 0, 0, 0, 0⟩)).2)])] [cw (pl P), cw (entsL e2 ++ room zE m16), cw [iv 4, iv ss, iv 0, iv 0, iv 0, uv 0, uv 0], cw (pl zeroP)] (by kernel_rfl) ?_
    refine o_s0 (by refine run_st (c' := pl ((applyS P (⟨4, ss, 0, 0, 0, 0, 0⟩)).1)) rfl rfl rfl ?_ ?_ ?_; exact pl_length _; exact pl_le (by omega); exact splice_pl0 zeroP ((applyS P (⟨4, ss, 0, 0, 0, 0, 0⟩)).1)) ?_
    refine o_b 1 [(24, iv ((applyS P (⟨4, ss, 0, 0, 0, 0, 0⟩)).2))] [cw (pl P), cw (entsL e2 ++ room zE m16), cw [iv 4, iv ss, iv 0, iv 0, iv 0, uv 0, uv 0], cw (pl ((applyS P (⟨4, ss, 0, 0, 0, 0, 0⟩)).1))] (by kernel_rfl) ?_
    refine o_nil ?_
    refine seq_go ?_
    refine gseq ?_
    refine gseq ?_
    refine greg ?_
    refine o_d 2 [(132, bv false), (131, iv 4)] (by kernel_rfl) ?_
    refine o_nil ?_
    refine seq_go ?_
    refine gfalse rfl ?_
    refine gskip ?_
    refine seq_go ?_
    refine gseq ?_
    refine gseq ?_
    refine greg ?_
    refine o_d 10 [(149, bv false), (148, undef), (147, undef), (146, undef), (145, undef), (144, undef), (143, undef), (142, bv false), (141, bv false), (140, iv 4)] (by kernel_rfl) ?_
    refine o_nil ?_
    refine seq_go ?_
    refine gfalse rfl ?_
    refine gskip ?_
    refine seq_go ?_
    refine gseq ?_
    refine greg ?_
    refine o_d 3 [(154, bv (((applyS P (⟨4, ss, 0, 0, 0, 0, 0⟩)).2) == 0)), (153, bv (((applyS P (⟨4, ss, 0, 0, 0, 0, 0⟩)).2) == 0)), (152, iv ((applyS P (⟨4, ss, 0, 0, 0, 0, 0⟩)).2))] (by kernel_rfl) ?_
    refine o_sp (b := ((applyS P (⟨4, ss, 0, 0, 0, 0, 0⟩)).2) == 0) 154 rfl (fun k46 => ?_) (fun q => by rw [(by rw [hE]; rfl : (((applyS P (⟨4, ss, 0, 0, 0, 0, 0⟩)).2) == 0) = true)] at q; cases q)
    refine o_d 2 [(156, pv 3 3), (155, iv ss)] (by kernel_rfl) ?_
    refine o_unguard rfl ?_
    refine o_s (by exact run_iadA (o := 3) (o' := 3 + 5 * ss.toNat) rfl rfl (by omega) (by omega)) ?_
    refine o_unguard rfl ?_
    refine o_s (by refine run_fad (o' := 3 + 5 * ss.toNat) rfl (by omega)) ?_
    refine o_unguard rfl ?_
    refine o_s (by refine run_ld (v := iv (((applyS P (⟨4, ss, 0, 0, 0, 0, 0⟩)).1) (3 + 5 * ss.toNat))) rfl rfl ?_; exact pl_r ((applyS P (⟨4, ss, 0, 0, 0, 0, 0⟩)).1) (3 + 5 * ss.toNat) (by omega) (by omega)) ?_
    refine o_d 4 [(163, bv ((((applyS P (⟨4, ss, 0, 0, 0, 0, 0⟩)).1) (3 + 5 * ss.toNat)) == 4)), (162, bv ((((applyS P (⟨4, ss, 0, 0, 0, 0, 0⟩)).1) (3 + 5 * ss.toNat)) == 4)), (161, bv ((((applyS P (⟨4, ss, 0, 0, 0, 0, 0⟩)).1) (3 + 5 * ss.toNat)) == 4)), (160, iv 4)] (by kernel_rfl) ?_
    refine o_sp (b := (((applyS P (⟨4, ss, 0, 0, 0, 0, 0⟩)).1) (3 + 5 * ss.toNat)) == 4) 163 rfl (fun k47 => ?_) (fun q => by rw [(by rw [hS]; rfl : ((((applyS P (⟨4, ss, 0, 0, 0, 0, 0⟩)).1) (3 + 5 * ss.toNat)) == 4) = true)] at q; cases q)
    refine o_d 1 [(164, pv 3 0)] (by kernel_rfl) ?_
    refine o_unguard rfl ?_
    refine o_s (by refine run_ld (v := iv (((applyS P (⟨4, ss, 0, 0, 0, 0, 0⟩)).1) 0)) rfl rfl ?_; exact pl_r ((applyS P (⟨4, ss, 0, 0, 0, 0, 0⟩)).1) 0 rfl (by omega)) ?_
    refine o_d 1 [(166, pv 0 0)] (by kernel_rfl) ?_
    refine o_unguard rfl ?_
    refine o_s (by refine run_ld (v := iv (P 0)) rfl rfl ?_; exact pl_r P 0 rfl (by omega)) ?_
    refine o_d 4 [(8, bv ((((applyS P (⟨4, ss, 0, 0, 0, 0, 0⟩)).1) 0) == (IntKind.i64.wrap (P 0 + 1)))), (170, bv ((((applyS P (⟨4, ss, 0, 0, 0, 0, 0⟩)).1) 0) == (IntKind.i64.wrap (P 0 + 1)))), (169, bv ((((applyS P (⟨4, ss, 0, 0, 0, 0, 0⟩)).1) 0) == (IntKind.i64.wrap (P 0 + 1)))), (168, iv (IntKind.i64.wrap (P 0 + 1)))] (by kernel_rfl) ?_
    refine o_nil ?_
    refine ⟨⟨reg [(8, bv ((((applyS P (⟨4, ss, 0, 0, 0, 0, 0⟩)).1) 0) == (IntKind.i64.wrap (P 0 + 1))))], []⟩, Wk.ren [] rfl rfl (by decide) ⟨rfl, trivial⟩ trivial, ?_⟩
    refine gret ?_
    have e0 : ((((applyS P (⟨4, ss, 0, 0, 0, 0, 0⟩)).1) 0) == (IntKind.i64.wrap (P 0 + 1))) = true := by
     first | done | (rw [apply_err (by rw [hE]; decide)]; exact eqP_self _) | (rw [hE5, if_pos (by omega)]; rfl) | (rw [hV]; simp) | (rw [apply_ver (hE5.trans (if_neg (by omega)))]; simp)
    exact fin_ans [bv ((((applyS P (⟨4, ss, 0, 0, 0, 0, 0⟩)).1) 0) == (IntKind.i64.wrap (P 0 + 1)))] (resV_t rfl rfl) rfl (by rw [e0]; rfl) rfl rfl
   ·skip
    have hE : (applyS P ⟨5, ss, 0, 0, 0, 0, 0⟩).2 = 12 := (mv_free hM hs (by omega)).trans (if_neg (by decide))
    refine seq_regs [(9, pv 0 0), (11, iv ss), (12, iv 5)] (by kernel_rfl) ?_
    refine gseq ?_
    refine greg ?_
    refine o_b 5 [(21, pv 2 0), (98, .agg #[iv 5, iv ss, iv 0, iv 0, iv 0, uv 0, uv 0]), (97, iv ss), (96, iv 5)] [cw (pl P), cw (entsL e2 ++ room zE m16), cw [iv 5, iv ss, iv 0, iv 0, iv 0, uv 0, uv 0]] (by kernel_rfl) ?_
    refine o_nil ?_
    refine seq_go ?_
    refine gseq ?_
    refine gseq ?_
    refine greg ?_
    refine o_d 2 [(100, bv false), (99, iv 5)] (by kernel_rfl) ?_
    refine o_nil ?_
    refine seq_go ?_
    refine gfalse rfl ?_
    refine gskip ?_
    refine seq_go ?_
    refine gseq ?_
    refine gseq ?_
    refine greg ?_
    refine o_d 2 [(105, bv false), (104, iv 5)] (by kernel_rfl) ?_
    refine o_nil ?_
    refine seq_go ?_
    refine gfalse rfl ?_
    refine gskip ?_
    refine seq_go ?_
    refine gseq ?_
    refine gdregD [cw (pl P), cw (entsL e2 ++ room zE m16), cw [iv 5, iv ss, iv 0, iv 0, iv 0, uv 0, uv 0], .gone, .gone, .gone, .gone, .gone, .gone, .gone] (by kernel_rfl) ?_
    refine d_n 13 13 10 [(119, pv 0 3), (118, iv ss), (117, sv 7 0 5 5), (116, pv 9 4), (115, iv 4), (114, iv 5), (113, sv 9 0 6 6), (112, sv 8 0 5 5), (111, sv 7 0 5 5), (110, sv 6 0 5 5), (109, sv 5 0 5 5), (108, sv 4 0 5 5), (107, sv 3 0 5 5)] [cw (pl P), cw (entsL e2 ++ room zE m16), cw [iv 5, iv ss, iv 0, iv 0, iv 0, uv 0, uv 0], cw [iv 1, iv (-1), iv (-1), iv (-1), iv (-1)], cw [iv (-1), iv 2, iv (-1), iv 2, iv (-1)], cw [iv (-1), iv (-1), iv 3, iv (-1), iv (-1)], cw [iv (-1), iv 4, iv (-1), iv 4, iv (-1)], cw [iv (-1), iv (-1), iv (-1), iv (-1), iv 0], cw [iv 0, iv 1, iv 2, iv 3, iv 4], cw [sv 3 0 5 5, sv 4 0 5 5, sv 5 0 5 5, sv 6 0 5 5, sv 7 0 5 5, sv 8 0 5 5]] [⟨10, [9], [], none⟩, ⟨6, [], [9], none⟩, ⟨5, [], [8], none⟩, ⟨4, [], [7], none⟩, ⟨3, [], [6], none⟩, ⟨2, [], [5], none⟩, ⟨1, [], [4], none⟩, ⟨0, [], [3], none⟩] (by kernel_rfl) rfl rfl ?_
    refine d_s rfl rfl rfl (by kernel_rfl) (by exact run_iadA (o := 3) (o' := 3 + 5 * ss.toNat) rfl rfl (by omega) (by omega)) ?_
    refine d_s rfl rfl rfl (by kernel_rfl) (by refine run_fad (o' := 3 + 5 * ss.toNat) rfl (by omega)) ?_
    refine d_s rfl rfl rfl (by kernel_rfl) (by refine run_ld (v := iv 3) rfl rfl ?_; exact (pl_r P (3 + 5 * ss.toNat) (by omega) (by omega)).trans (congrArg (fun x => some (iv x)) hM.cur)) ?_
    refine d_n 3 19 10 [(22, iv (-1)), (124, iv (-1)), (123, pv 7 3)] [cw (pl P), cw (entsL e2 ++ room zE m16), cw [iv 5, iv ss, iv 0, iv 0, iv 0, uv 0, uv 0], cw [iv 1, iv (-1), iv (-1), iv (-1), iv (-1)], cw [iv (-1), iv 2, iv (-1), iv 2, iv (-1)], cw [iv (-1), iv (-1), iv 3, iv (-1), iv (-1)], cw [iv (-1), iv 4, iv (-1), iv 4, iv (-1)], cw [iv (-1), iv (-1), iv (-1), iv (-1), iv 0], cw [iv 0, iv 1, iv 2, iv 3, iv 4], cw [sv 3 0 5 5, sv 4 0 5 5, sv 5 0 5 5, sv 6 0 5 5, sv 7 0 5 5, sv 8 0 5 5]] [⟨17, [7], [], none⟩, ⟨15, [0], [], none⟩, ⟨10, [9], [], none⟩, ⟨6, [], [9], none⟩, ⟨5, [], [8], none⟩, ⟨4, [], [7], none⟩, ⟨3, [], [6], none⟩, ⟨2, [], [5], none⟩, ⟨1, [], [4], none⟩, ⟨0, [], [3], none⟩] (by kernel_rfl) rfl rfl ?_
    refine d_nil ?_
    refine ⟨⟨reg [(22, iv (-1)), (21, pv 2 0), (9, pv 0 0), (11, iv ss), (12, iv 5)], [cw (pl P), cw (entsL e2 ++ room zE m16), cw [iv 5, iv ss, iv 0, iv 0, iv 0, uv 0, uv 0]]⟩, Wk.ren [0, 1, 2] rfl rfl (by decide) ⟨rfl, ⟨rfl, ⟨rfl, ⟨rfl, ⟨rfl, trivial⟩⟩⟩⟩⟩ ⟨.inl (ren_cells (pl_scl P)), ⟨.inl (ren_cells (entsR_scl e2 m16)), ⟨.inl rfl, trivial⟩⟩⟩, ?_⟩
    refine gseq ?_
    refine greg ?_
    refine o_s (by refine run_ld (v := poolV P) rfl rfl ?_; exact pl_all P) ?_
    refine o_d 1 [(127, .agg #[iv 5, iv ss, iv 0, iv 0, iv 0, uv 0, uv 0])] (by kernel_rfl) ?_
    refine o_cl (callV (ApplyC h_pool_Apply h_pool_may h_pool_held h_pool_fits h_pool_Check h_pool_placed h_cookie_Next P (⟨5, ss, 0, 0, 0, 0, 0⟩)) rfl (all_cons (poolV_vpf P) (all_cons rfl rfl)) (all_cons (poolV_aggf ((applyS P (⟨5, ss, 0, 0, 0, 0, 0⟩)).1)) (all_cons rfl rfl)) ?_)
    refine o_b 4 [(23, pv 3 0), (130, iv ((applyS P (⟨5, ss, 0, 0, 0, 0, 0⟩)).2)), (129, poolV ((applyS P (⟨5, ss, 0, 0, 0, 0, 0⟩)).1)), (125, .tuple #[poolV ((applyS P (⟨5, ss, 0, 0, 0, 0, 0⟩)).1), iv ((applyS P (⟨5, ss, 0, 0, 0, 0, 0⟩)).2)])] [cw (pl P), cw (entsL e2 ++ room zE m16), cw [iv 5, iv ss, iv 0, iv 0, iv 0, uv 0, uv 0], cw (pl zeroP)] (by kernel_rfl) ?_
    refine o_s0 (by refine run_st (c' := pl ((applyS P (⟨5, ss, 0, 0, 0, 0, 0⟩)).1)) rfl rfl rfl ?_ ?_ ?_; exact pl_length _; exact pl_le (by omega); exact splice_pl0 zeroP ((applyS P (⟨5, ss, 0, 0, 0, 0, 0⟩)).1)) ?_
    refine o_b 1 [(24, iv ((applyS P (⟨5, ss, 0, 0, 0, 0, 0⟩)).2))] [cw (pl P), cw (entsL e2 ++ room zE m16), cw [iv 5, iv ss, iv 0, iv 0, iv 0, uv 0, uv 0], cw (pl ((applyS P (⟨5, ss, 0, 0, 0, 0, 0⟩)).1))] (by kernel_rfl) ?_
    refine o_nil ?_
    refine seq_go ?_
    refine gseq ?_
    refine gseq ?_
    refine greg ?_
    refine o_d 2 [(132, bv true), (131, iv (-1))] (by kernel_rfl) ?_
    refine o_nil ?_
    refine seq_go ?_
    refine gtrue rfl ?_
    refine gseq ?_
    refine greg ?_
    refine o_d 3 [(135, bv (((applyS P (⟨5, ss, 0, 0, 0, 0, 0⟩)).2) == 12)), (134, bv (((applyS P (⟨5, ss, 0, 0, 0, 0, 0⟩)).2) == 12)), (133, iv ((applyS P (⟨5, ss, 0, 0, 0, 0, 0⟩)).2))] (by kernel_rfl) ?_
    refine o_sp (b := ((applyS P (⟨5, ss, 0, 0, 0, 0, 0⟩)).2) == 12) 135 rfl (fun k48 => ?_) (fun q => by rw [(by rw [hE]; rfl : (((applyS P (⟨5, ss, 0, 0, 0, 0, 0⟩)).2) == 12) = true)] at q; cases q)
    refine o_unguard rfl ?_
    refine o_s (by refine run_ld (v := poolV ((applyS P (⟨5, ss, 0, 0, 0, 0, 0⟩)).1)) rfl rfl ?_; exact pl_all ((applyS P (⟨5, ss, 0, 0, 0, 0, 0⟩)).1)) ?_
    refine o_unguard rfl ?_
    refine o_s (by refine run_bld (c := pl zeroP) ?_; exact bld_zP) ?_
    refine o_unguard rfl ?_
    refine o_s (by refine run_eqa (a := ⟨pl ((applyS P (⟨5, ss, 0, 0, 0, 0, 0⟩)).1)⟩) (b := ⟨pl zeroP⟩) (r := eqP ((applyS P (⟨5, ss, 0, 0, 0, 0, 0⟩)).1) zeroP) (R := eqP ((applyS P (⟨5, ss, 0, 0, 0, 0, 0⟩)).1) zeroP) ?_ rfl; exact eqP_run ((applyS P (⟨5, ss, 0, 0, 0, 0, 0⟩)).1) zeroP rfl rfl) ?_
    refine o_d 2 [(8, bv (eqP ((applyS P (⟨5, ss, 0, 0, 0, 0, 0⟩)).1) zeroP)), (139, bv (eqP ((applyS P (⟨5, ss, 0, 0, 0, 0, 0⟩)).1) zeroP))] (by kernel_rfl) ?_
    refine o_nil ?_
    refine ⟨⟨reg [(8, bv (eqP ((applyS P (⟨5, ss, 0, 0, 0, 0, 0⟩)).1) zeroP))], []⟩, Wk.ren [] rfl rfl (by decide) ⟨rfl, trivial⟩ trivial, ?_⟩
    refine gret ?_
    have e0 : (eqP ((applyS P (⟨5, ss, 0, 0, 0, 0, 0⟩)).1) zeroP) = true := by
     first | done | (rw [apply_err (by rw [hE]; decide)]; exact eqP_self _) | (rw [hE5, if_pos (by omega)]; rfl) | (rw [hV]; simp) | (rw [apply_ver (hE5.trans (if_neg (by omega)))]; simp)
    exact fin_ans [bv (eqP ((applyS P (⟨5, ss, 0, 0, 0, 0, 0⟩)).1) zeroP)] (resV_t rfl rfl) rfl (by rw [e0]; rfl) rfl rfl
   ·skip
    obtain ⟨hE, hS⟩ := moves_rot hM hs 0 0
    have hV := apply_ver hE
    refine seq_regs [(9, pv 0 0), (11, iv ss), (12, iv 6)] (by kernel_rfl) ?_
    refine gseq ?_
    refine greg ?_
    refine o_b 5 [(21, pv 2 0), (98, .agg #[iv 6, iv ss, iv 0, iv 0, iv 0, uv 0, uv 0]), (97, iv ss), (96, iv 6)] [cw (pl P), cw (entsL e2 ++ room zE m16), cw [iv 6, iv ss, iv 0, iv 0, iv 0, uv 0, uv 0]] (by kernel_rfl) ?_
    refine o_nil ?_
    refine seq_go ?_
    refine gseq ?_
    refine gseq ?_
    refine greg ?_
    refine o_d 2 [(100, bv false), (99, iv 6)] (by kernel_rfl) ?_
    refine o_nil ?_
    refine seq_go ?_
    refine gfalse rfl ?_
    refine gskip ?_
    refine seq_go ?_
    refine gseq ?_
    refine gseq ?_
    refine greg ?_
    refine o_d 2 [(105, bv true), (104, iv 6)] (by kernel_rfl) ?_
    refine o_nil ?_
    refine seq_go ?_
    refine gtrue rfl ?_
    refine greg ?_
    refine o_b 2 [(106, pv 2 1)] [cw (pl P), cw (entsL e2 ++ room zE m16), cw [iv 6, iv 0, iv 0, iv 0, iv 0, uv 0, uv 0]] (by kernel_rfl) ?_
    refine o_nil ?_
    refine seq_go ?_
    refine gseq ?_
    refine gdregD [cw (pl P), cw (entsL e2 ++ room zE m16), cw [iv 6, iv 0, iv 0, iv 0, iv 0, uv 0, uv 0], .gone, .gone, .gone, .gone, .gone, .gone, .gone] (by kernel_rfl) ?_
    refine d_n 13 13 10 [(119, pv 0 3), (118, iv ss), (117, sv 8 0 5 5), (116, pv 9 5), (115, iv 5), (114, iv 6), (113, sv 9 0 6 6), (112, sv 8 0 5 5), (111, sv 7 0 5 5), (110, sv 6 0 5 5), (109, sv 5 0 5 5), (108, sv 4 0 5 5), (107, sv 3 0 5 5)] [cw (pl P), cw (entsL e2 ++ room zE m16), cw [iv 6, iv 0, iv 0, iv 0, iv 0, uv 0, uv 0], cw [iv 1, iv (-1), iv (-1), iv (-1), iv (-1)], cw [iv (-1), iv 2, iv (-1), iv 2, iv (-1)], cw [iv (-1), iv (-1), iv 3, iv (-1), iv (-1)], cw [iv (-1), iv 4, iv (-1), iv 4, iv (-1)], cw [iv (-1), iv (-1), iv (-1), iv (-1), iv 0], cw [iv 0, iv 1, iv 2, iv 3, iv 4], cw [sv 3 0 5 5, sv 4 0 5 5, sv 5 0 5 5, sv 6 0 5 5, sv 7 0 5 5, sv 8 0 5 5]] [⟨10, [9], [], none⟩, ⟨6, [], [9], none⟩, ⟨5, [], [8], none⟩, ⟨4, [], [7], none⟩, ⟨3, [], [6], none⟩, ⟨2, [], [5], none⟩, ⟨1, [], [4], none⟩, ⟨0, [], [3], none⟩] (by kernel_rfl) rfl rfl ?_
    refine d_s rfl rfl rfl (by kernel_rfl) (by exact run_iadA (o := 3) (o' := 3 + 5 * ss.toNat) rfl rfl (by omega) (by omega)) ?_
    refine d_s rfl rfl rfl (by kernel_rfl) (by refine run_fad (o' := 3 + 5 * ss.toNat) rfl (by omega)) ?_
    refine d_s rfl rfl rfl (by kernel_rfl) (by refine run_ld (v := iv 3) rfl rfl ?_; exact (pl_r P (3 + 5 * ss.toNat) (by omega) (by omega)).trans (congrArg (fun x => some (iv x)) hM.cur)) ?_
    refine d_n 3 19 10 [(22, iv 3), (124, iv 3), (123, pv 8 3)] [cw (pl P), cw (entsL e2 ++ room zE m16), cw [iv 6, iv 0, iv 0, iv 0, iv 0, uv 0, uv 0], cw [iv 1, iv (-1), iv (-1), iv (-1), iv (-1)], cw [iv (-1), iv 2, iv (-1), iv 2, iv (-1)], cw [iv (-1), iv (-1), iv 3, iv (-1), iv (-1)], cw [iv (-1), iv 4, iv (-1), iv 4, iv (-1)], cw [iv (-1), iv (-1), iv (-1), iv (-1), iv 0], cw [iv 0, iv 1, iv 2, iv 3, iv 4], cw [sv 3 0 5 5, sv 4 0 5 5, sv 5 0 5 5, sv 6 0 5 5, sv 7 0 5 5, sv 8 0 5 5]] [⟨17, [8], [], none⟩, ⟨15, [0], [], none⟩, ⟨10, [9], [], none⟩, ⟨6, [], [9], none⟩, ⟨5, [], [8], none⟩, ⟨4, [], [7], none⟩, ⟨3, [], [6], none⟩, ⟨2, [], [5], none⟩, ⟨1, [], [4], none⟩, ⟨0, [], [3], none⟩] (by kernel_rfl) rfl rfl ?_
    refine d_nil ?_
    refine ⟨⟨reg [(22, iv 3), (21, pv 2 0), (9, pv 0 0), (11, iv ss), (12, iv 6)], [cw (pl P), cw (entsL e2 ++ room zE m16), cw [iv 6, iv 0, iv 0, iv 0, iv 0, uv 0, uv 0]]⟩, Wk.ren [0, 1, 2] rfl rfl (by decide) ⟨rfl, ⟨rfl, ⟨rfl, ⟨rfl, ⟨rfl, trivial⟩⟩⟩⟩⟩ ⟨.inl (ren_cells (pl_scl P)), ⟨.inl (ren_cells (entsR_scl e2 m16)), ⟨.inl rfl, trivial⟩⟩⟩, ?_⟩
    refine gseq ?_
    refine greg ?_
    refine o_s (by refine run_ld (v := poolV P) rfl rfl ?_; exact pl_all P) ?_
    refine o_d 1 [(127, .agg #[iv 6, iv 0, iv 0, iv 0, iv 0, uv 0, uv 0])] (by kernel_rfl) ?_
    refine o_cl (callV (ApplyC h_pool_Apply h_pool_may h_pool_held h_pool_fits h_pool_Check h_pool_placed h_cookie_Next P (⟨6, 0, 0, 0, 0, 0, 0⟩)) rfl (all_cons (poolV_vpf P) (all_cons rfl rfl)) (all_cons (poolV_aggf ((applyS P (⟨6, 0, 0, 0, 0, 0, 0⟩)).1)) (all_cons rfl rfl)) ?_)
    refine o_b 4 [(23, pv 3 0), (130, iv ((applyS P (⟨6, 0, 0, 0, 0, 0, 0⟩)).2)), (129, poolV ((applyS P (⟨6, 0, 0, 0, 0, 0, 0⟩)).1)), (125, .tuple #[poolV ((applyS P (⟨6, 0, 0, 0, 0, 0, 0⟩)).1), iv ((applyS P (⟨6, 0, 0, 0, 0, 0, 0⟩)).2)])] [cw (pl P), cw (entsL e2 ++ room zE m16), cw [iv 6, iv 0, iv 0, iv 0, iv 0, uv 0, uv 0], cw (pl zeroP)] (by kernel_rfl) ?_
    refine o_s0 (by refine run_st (c' := pl ((applyS P (⟨6, 0, 0, 0, 0, 0, 0⟩)).1)) rfl rfl rfl ?_ ?_ ?_; exact pl_length _; exact pl_le (by omega); exact splice_pl0 zeroP ((applyS P (⟨6, 0, 0, 0, 0, 0, 0⟩)).1)) ?_
    refine o_b 1 [(24, iv ((applyS P (⟨6, 0, 0, 0, 0, 0, 0⟩)).2))] [cw (pl P), cw (entsL e2 ++ room zE m16), cw [iv 6, iv 0, iv 0, iv 0, iv 0, uv 0, uv 0], cw (pl ((applyS P (⟨6, 0, 0, 0, 0, 0, 0⟩)).1))] (by kernel_rfl) ?_
    refine o_nil ?_
    refine seq_go ?_
    refine gseq ?_
    refine gseq ?_
    refine greg ?_
    refine o_d 2 [(132, bv false), (131, iv 3)] (by kernel_rfl) ?_
    refine o_nil ?_
    refine seq_go ?_
    refine gfalse rfl ?_
    refine gskip ?_
    refine seq_go ?_
    refine gseq ?_
    refine gseq ?_
    refine greg ?_
    refine o_d 10 [(149, bv false), (148, undef), (147, undef), (146, undef), (145, undef), (144, undef), (143, undef), (142, bv false), (141, bv false), (140, iv 6)] (by kernel_rfl) ?_
    refine o_nil ?_
    refine seq_go ?_
    refine gfalse rfl ?_
    refine gskip ?_
    refine seq_go ?_
    refine gseq ?_
    refine greg ?_
    refine o_d 3 [(154, bv (((applyS P (⟨6, 0, 0, 0, 0, 0, 0⟩)).2) == 0)), (153, bv (((applyS P (⟨6, 0, 0, 0, 0, 0, 0⟩)).2) == 0)), (152, iv ((applyS P (⟨6, 0, 0, 0, 0, 0, 0⟩)).2))] (by kernel_rfl) ?_
    refine o_sp (b := ((applyS P (⟨6, 0, 0, 0, 0, 0, 0⟩)).2) == 0) 154 rfl (fun k49 => ?_) (fun q => by rw [(by rw [hE]; rfl : (((applyS P (⟨6, 0, 0, 0, 0, 0, 0⟩)).2) == 0) = true)] at q; cases q)
    refine o_d 2 [(156, pv 3 3), (155, iv ss)] (by kernel_rfl) ?_
    refine o_unguard rfl ?_
    refine o_s (by exact run_iadA (o := 3) (o' := 3 + 5 * ss.toNat) rfl rfl (by omega) (by omega)) ?_
    refine o_unguard rfl ?_
    refine o_s (by refine run_fad (o' := 3 + 5 * ss.toNat) rfl (by omega)) ?_
    refine o_unguard rfl ?_
    refine o_s (by refine run_ld (v := iv (((applyS P (⟨6, 0, 0, 0, 0, 0, 0⟩)).1) (3 + 5 * ss.toNat))) rfl rfl ?_; exact pl_r ((applyS P (⟨6, 0, 0, 0, 0, 0, 0⟩)).1) (3 + 5 * ss.toNat) (by omega) (by omega)) ?_
    refine o_d 4 [(163, bv ((((applyS P (⟨6, 0, 0, 0, 0, 0, 0⟩)).1) (3 + 5 * ss.toNat)) == 3)), (162, bv ((((applyS P (⟨6, 0, 0, 0, 0, 0, 0⟩)).1) (3 + 5 * ss.toNat)) == 3)), (161, bv ((((applyS P (⟨6, 0, 0, 0, 0, 0, 0⟩)).1) (3 + 5 * ss.toNat)) == 3)), (160, iv 3)] (by kernel_rfl) ?_
    refine o_sp (b := (((applyS P (⟨6, 0, 0, 0, 0, 0, 0⟩)).1) (3 + 5 * ss.toNat)) == 3) 163 rfl (fun k50 => ?_) (fun q => by rw [(by rw [hS]; rfl : ((((applyS P (⟨6, 0, 0, 0, 0, 0, 0⟩)).1) (3 + 5 * ss.toNat)) == 3) = true)] at q; cases q)
    refine o_d 1 [(164, pv 3 0)] (by kernel_rfl) ?_
    refine o_unguard rfl ?_
    refine o_s (by refine run_ld (v := iv (((applyS P (⟨6, 0, 0, 0, 0, 0, 0⟩)).1) 0)) rfl rfl ?_; exact pl_r ((applyS P (⟨6, 0, 0, 0, 0, 0, 0⟩)).1) 0 rfl (by omega)) ?_
    refine o_d 1 [(166, pv 0 0)] (by kernel_rfl) ?_
    refine o_unguard rfl ?_
    refine o_s (by refine run_ld (v := iv (P 0)) rfl rfl ?_; exact pl_r P 0 rfl (by omega)) ?_
    refine o_d 4 [(8, bv ((((applyS P (⟨6, 0, 0, 0, 0, 0, 0⟩)).1) 0) == (IntKind.i64.wrap (P 0 + 1)))), (170, bv ((((applyS P (⟨6, 0, 0, 0, 0, 0, 0⟩)).1) 0) == (IntKind.i64.wrap (P 0 + 1)))), (169, bv ((((applyS P (⟨6, 0, 0, 0, 0, 0, 0⟩)).1) 0) == (IntKind.i64.wrap (P 0 + 1)))), (168, iv (IntKind.i64.wrap (P 0 + 1)))] (by kernel_rfl) ?_
    refine o_nil ?_
    refine ⟨⟨reg [(8, bv ((((applyS P (⟨6, 0, 0, 0, 0, 0, 0⟩)).1) 0) == (IntKind.i64.wrap (P 0 + 1))))], []⟩, Wk.ren [] rfl rfl (by decide) ⟨rfl, trivial⟩ trivial, ?_⟩
    refine gret ?_
    have e0 : ((((applyS P (⟨6, 0, 0, 0, 0, 0, 0⟩)).1) 0) == (IntKind.i64.wrap (P 0 + 1))) = true := by
     first | done | (rw [apply_err (by rw [hE]; decide)]; exact eqP_self _) | (rw [hE5, if_pos (by omega)]; rfl) | (rw [hV]; simp) | (rw [apply_ver (hE5.trans (if_neg (by omega)))]; simp)
    exact fin_ans [bv ((((applyS P (⟨6, 0, 0, 0, 0, 0, 0⟩)).1) 0) == (IntKind.i64.wrap (P 0 + 1)))] (resV_t rfl rfl) rfl (by rw [e0]; rfl) rfl rfl
  ·rcases hkk6 with rfl | rfl | rfl | rfl | rfl | rfl
   ·skip
    have hE : (applyS P ⟨1, ss, 1, 2, 3, 0, 0⟩).2 = 12 := (mv_bind hM hs (a := 1) (p := 2) (g := 3) (by decide) (by decide) (by decide)).trans (by decide)
    refine seq_regs [(9, pv 0 0), (11, iv ss), (12, iv 1)] (by kernel_rfl) ?_
    refine gseq ?_
    refine greg ?_
    refine o_b 5 [(21, pv 2 0), (98, .agg #[iv 1, iv ss, iv 0, iv 0, iv 0, uv 0, uv 0]), (97, iv ss), (96, iv 1)] [cw (pl P), cw (entsL e2 ++ room zE m16), cw [iv 1, iv ss, iv 0, iv 0, iv 0, uv 0, uv 0]] (by kernel_rfl) ?_
    refine o_nil ?_
    refine seq_go ?_
    refine gseq ?_
    refine gseq ?_
    refine greg ?_
    refine o_d 2 [(100, bv true), (99, iv 1)] (by kernel_rfl) ?_
    refine o_nil ?_
    refine seq_go ?_
    refine gtrue rfl ?_
    refine greg ?_
    refine o_b 6 [(103, pv 2 4), (102, pv 2 3), (101, pv 2 2)] [cw (pl P), cw (entsL e2 ++ room zE m16), cw [iv 1, iv ss, iv 1, iv 2, iv 3, uv 0, uv 0]] (by kernel_rfl) ?_
    refine o_nil ?_
    refine seq_go ?_
    refine gseq ?_
    refine gseq ?_
    refine greg ?_
    refine o_d 2 [(105, bv false), (104, iv 1)] (by kernel_rfl) ?_
    refine o_nil ?_
    refine seq_go ?_
    refine gfalse rfl ?_
    refine gskip ?_
    refine seq_go ?_
    refine gseq ?_
    refine gdregD [cw (pl P), cw (entsL e2 ++ room zE m16), cw [iv 1, iv ss, iv 1, iv 2, iv 3, uv 0, uv 0], .gone, .gone, .gone, .gone, .gone, .gone, .gone] (by kernel_rfl) ?_
    refine d_n 13 13 10 [(119, pv 0 3), (118, iv ss), (117, sv 3 0 5 5), (116, pv 9 0), (115, iv 0), (114, iv 1), (113, sv 9 0 6 6), (112, sv 8 0 5 5), (111, sv 7 0 5 5), (110, sv 6 0 5 5), (109, sv 5 0 5 5), (108, sv 4 0 5 5), (107, sv 3 0 5 5)] [cw (pl P), cw (entsL e2 ++ room zE m16), cw [iv 1, iv ss, iv 1, iv 2, iv 3, uv 0, uv 0], cw [iv 1, iv (-1), iv (-1), iv (-1), iv (-1)], cw [iv (-1), iv 2, iv (-1), iv 2, iv (-1)], cw [iv (-1), iv (-1), iv 3, iv (-1), iv (-1)], cw [iv (-1), iv 4, iv (-1), iv 4, iv (-1)], cw [iv (-1), iv (-1), iv (-1), iv (-1), iv 0], cw [iv 0, iv 1, iv 2, iv 3, iv 4], cw [sv 3 0 5 5, sv 4 0 5 5, sv 5 0 5 5, sv 6 0 5 5, sv 7 0 5 5, sv 8 0 5 5]] [⟨10, [9], [], none⟩, ⟨6, [], [9], none⟩, ⟨5, [], [8], none⟩, ⟨4, [], [7], none⟩, ⟨3, [], [6], none⟩, ⟨2, [], [5], none⟩, ⟨1, [], [4], none⟩, ⟨0, [], [3], none⟩] (by kernel_rfl) rfl rfl ?_
    refine d_s rfl rfl rfl (by kernel_rfl) (by exact run_iadA (o := 3) (o' := 3 + 5 * ss.toNat) rfl rfl (by omega) (by omega)) ?_
    refine d_s rfl rfl rfl (by kernel_rfl) (by refine run_fad (o' := 3 + 5 * ss.toNat) rfl (by omega)) ?_
    refine d_s rfl rfl rfl (by kernel_rfl) (by refine run_ld (v := iv 4) rfl rfl ?_; exact (pl_r P (3 + 5 * ss.toNat) (by omega) (by omega)).trans (congrArg (fun x => some (iv x)) hM.cur)) ?_
    refine d_n 3 19 10 [(22, iv (-1)), (124, iv (-1)), (123, pv 3 4)] [cw (pl P), cw (entsL e2 ++ room zE m16), cw [iv 1, iv ss, iv 1, iv 2, iv 3, uv 0, uv 0], cw [iv 1, iv (-1), iv (-1), iv (-1), iv (-1)], cw [iv (-1), iv 2, iv (-1), iv 2, iv (-1)], cw [iv (-1), iv (-1), iv 3, iv (-1), iv (-1)], cw [iv (-1), iv 4, iv (-1), iv 4, iv (-1)], cw [iv (-1), iv (-1), iv (-1), iv (-1), iv 0], cw [iv 0, iv 1, iv 2, iv 3, iv 4], cw [sv 3 0 5 5, sv 4 0 5 5, sv 5 0 5 5, sv 6 0 5 5, sv 7 0 5 5, sv 8 0 5 5]] [⟨17, [3], [], none⟩, ⟨15, [0], [], none⟩, ⟨10, [9], [], none⟩, ⟨6, [], [9], none⟩, ⟨5, [], [8], none⟩, ⟨4, [], [7], none⟩, ⟨3, [], [6], none⟩, ⟨2, [], [5], none⟩, ⟨1, [], [4], none⟩, ⟨0, [], [3], none⟩] (by kernel_rfl) rfl rfl ?_
    refine d_nil ?_
    refine ⟨⟨reg [(22, iv (-1)), (21, pv 2 0), (9, pv 0 0), (11, iv ss), (12, iv 1)], [cw (pl P), cw (entsL e2 ++ room zE m16), cw [iv 1, iv ss, iv 1, iv 2, iv 3, uv 0, uv 0]]⟩, Wk.ren [0, 1, 2] rfl rfl (by decide) ⟨rfl, ⟨rfl, ⟨rfl, ⟨rfl, ⟨rfl, trivial⟩⟩⟩⟩⟩ ⟨.inl (ren_cells (pl_scl P)), ⟨.inl (ren_cells (entsR_scl e2 m16)), ⟨.inl rfl, trivial⟩⟩⟩, ?_⟩
    refine gseq ?_
    refine greg ?_
    refine o_s (by refine run_ld (v := poolV P) rfl rfl ?_; exact pl_all P) ?_
    refine o_d 1 [(127, .agg #[iv 1, iv ss, iv 1, iv 2, iv 3, uv 0, uv 0])] (by kernel_rfl) ?_
    refine o_cl (callV (ApplyC h_pool_Apply h_pool_may h_pool_held h_pool_fits h_pool_Check h_pool_placed h_cookie_Next P (⟨1, ss, 1, 2, 3, 0, 0⟩)) rfl (all_cons (poolV_vpf P) (all_cons rfl rfl)) (all_cons (poolV_aggf ((applyS P (⟨1, ss, 1, 2, 3, 0, 0⟩)).1)) (all_cons rfl rfl)) ?_)
    refine o_b 4 [(23, pv 3 0), (130, iv ((applyS P (⟨1, ss, 1, 2, 3, 0, 0⟩)).2)), (129, poolV ((applyS P (⟨1, ss, 1, 2, 3, 0, 0⟩)).1)), (125, .tuple #[poolV ((applyS P (⟨1, ss, 1, 2, 3, 0, 0⟩)).1), iv ((applyS P (⟨1, ss, 1, 2, 3, 0, 0⟩)).2)])] [cw (pl P), cw (entsL e2 ++ room zE m16), cw [iv 1, iv ss, iv 1, iv 2, iv 3, uv 0, uv 0], cw (pl zeroP)] (by kernel_rfl) ?_
    refine o_s0 (by refine run_st (c' := pl ((applyS P (⟨1, ss, 1, 2, 3, 0, 0⟩)).1)) rfl rfl rfl ?_ ?_ ?_; exact pl_length _; exact pl_le (by omega); exact splice_pl0 zeroP ((applyS P (⟨1, ss, 1, 2, 3, 0, 0⟩)).1)) ?_
    refine o_b 1 [(24, iv ((applyS P (⟨1, ss, 1, 2, 3, 0, 0⟩)).2))] [cw (pl P), cw (entsL e2 ++ room zE m16), cw [iv 1, iv ss, iv 1, iv 2, iv 3, uv 0, uv 0], cw (pl ((applyS P (⟨1, ss, 1, 2, 3, 0, 0⟩)).1))] (by kernel_rfl) ?_
    refine o_nil ?_
    refine seq_go ?_
    refine gseq ?_
    refine gseq ?_
    refine greg ?_
    refine o_d 2 [(132, bv true), (131, iv (-1))] (by kernel_rfl) ?_
    refine o_nil ?_
    refine seq_go ?_
    refine gtrue rfl ?_
    refine gseq ?_
    refine greg ?_
    refine o_d 3 [(135, bv (((applyS P (⟨1, ss, 1, 2, 3, 0, 0⟩)).2) == 12)), (134, bv (((applyS P (⟨1, ss, 1, 2, 3, 0, 0⟩)).2) == 12)), (133, iv ((applyS P (⟨1, ss, 1, 2, 3, 0, 0⟩)).2))] (by kernel_rfl) ?_
    refine o_sp (b := ((applyS P (⟨1, ss, 1, 2, 3, 0, 0⟩)).2) == 12) 135 rfl (fun k51 => ?_) (fun q => by rw [(by rw [hE]; rfl : (((applyS P (⟨1, ss, 1, 2, 3, 0, 0⟩)).2) == 12) = true)] at q; cases q)
    refine o_unguard rfl ?_
    refine o_s (by refine run_ld (v := poolV ((applyS P (⟨1, ss, 1, 2, 3, 0, 0⟩)).1)) rfl rfl ?_; exact pl_all ((applyS P (⟨1, ss, 1, 2, 3, 0, 0⟩)).1)) ?_
    refine o_unguard rfl ?_
    refine o_s (by refine run_bld (c := pl zeroP) ?_; exact bld_zP) ?_
    refine o_unguard rfl ?_
    refine o_s (by refine run_eqa (a := ⟨pl ((applyS P (⟨1, ss, 1, 2, 3, 0, 0⟩)).1)⟩) (b := ⟨pl zeroP⟩) (r := eqP ((applyS P (⟨1, ss, 1, 2, 3, 0, 0⟩)).1) zeroP) (R := eqP ((applyS P (⟨1, ss, 1, 2, 3, 0, 0⟩)).1) zeroP) ?_ rfl; exact eqP_run ((applyS P (⟨1, ss, 1, 2, 3, 0, 0⟩)).1) zeroP rfl rfl) ?_
    refine o_d 2 [(8, bv (eqP ((applyS P (⟨1, ss, 1, 2, 3, 0, 0⟩)).1) zeroP)), (139, bv (eqP ((applyS P (⟨1, ss, 1, 2, 3, 0, 0⟩)).1) zeroP))] (by kernel_rfl) ?_
    refine o_nil ?_
    refine ⟨⟨reg [(8, bv (eqP ((applyS P (⟨1, ss, 1, 2, 3, 0, 0⟩)).1) zeroP))], []⟩, Wk.ren [] rfl rfl (by decide) ⟨rfl, trivial⟩ trivial, ?_⟩
    refine gret ?_
    have e0 : (eqP ((applyS P (⟨1, ss, 1, 2, 3, 0, 0⟩)).1) zeroP) = true := by
     first | done | (rw [apply_err (by rw [hE]; decide)]; exact eqP_self _) | (rw [hE5, if_pos (by omega)]; rfl) | (rw [hV]; simp) | (rw [apply_ver (hE5.trans (if_neg (by omega)))]; simp)
    exact fin_ans [bv (eqP ((applyS P (⟨1, ss, 1, 2, 3, 0, 0⟩)).1) zeroP)] (resV_t rfl rfl) rfl (by rw [e0]; rfl) rfl rfl
   ·skip
    have hE : (applyS P ⟨2, ss, 0, 0, 0, 0, 0⟩).2 = 12 := (mv_k hM hs (k := 2) (by decide)).trans (by decide)
    refine seq_regs [(9, pv 0 0), (11, iv ss), (12, iv 2)] (by kernel_rfl) ?_
    refine gseq ?_
    refine greg ?_
    refine o_b 5 [(21, pv 2 0), (98, .agg #[iv 2, iv ss, iv 0, iv 0, iv 0, uv 0, uv 0]), (97, iv ss), (96, iv 2)] [cw (pl P), cw (entsL e2 ++ room zE m16), cw [iv 2, iv ss, iv 0, iv 0, iv 0, uv 0, uv 0]] (by kernel_rfl) ?_
    refine o_nil ?_
    refine seq_go ?_
    refine gseq ?_
    refine gseq ?_
    refine greg ?_
    refine o_d 2 [(100, bv false), (99, iv 2)] (by kernel_rfl) ?_
    refine o_nil ?_
    refine seq_go ?_
    refine gfalse rfl ?_
    refine gskip ?_
    refine seq_go ?_
    refine gseq ?_
    refine gseq ?_
    refine greg ?_
    refine o_d 2 [(105, bv false), (104, iv 2)] (by kernel_rfl) ?_
    refine o_nil ?_
    refine seq_go ?_
    refine gfalse rfl ?_
    refine gskip ?_
    refine seq_go ?_
    refine gseq ?_
    refine gdregD [cw (pl P), cw (entsL e2 ++ room zE m16), cw [iv 2, iv ss, iv 0, iv 0, iv 0, uv 0, uv 0], .gone, .gone, .gone, .gone, .gone, .gone, .gone] (by kernel_rfl) ?_
    refine d_n 13 13 10 [(119, pv 0 3), (118, iv ss), (117, sv 4 0 5 5), (116, pv 9 1), (115, iv 1), (114, iv 2), (113, sv 9 0 6 6), (112, sv 8 0 5 5), (111, sv 7 0 5 5), (110, sv 6 0 5 5), (109, sv 5 0 5 5), (108, sv 4 0 5 5), (107, sv 3 0 5 5)] [cw (pl P), cw (entsL e2 ++ room zE m16), cw [iv 2, iv ss, iv 0, iv 0, iv 0, uv 0, uv 0], cw [iv 1, iv (-1), iv (-1), iv (-1), iv (-1)], cw [iv (-1), iv 2, iv (-1), iv 2, iv (-1)], cw [iv (-1), iv (-1), iv 3, iv (-1), iv (-1)], cw [iv (-1), iv 4, iv (-1), iv 4, iv (-1)], cw [iv (-1), iv (-1), iv (-1), iv (-1), iv 0], cw [iv 0, iv 1, iv 2, iv 3, iv 4], cw [sv 3 0 5 5, sv 4 0 5 5, sv 5 0 5 5, sv 6 0 5 5, sv 7 0 5 5, sv 8 0 5 5]] [⟨10, [9], [], none⟩, ⟨6, [], [9], none⟩, ⟨5, [], [8], none⟩, ⟨4, [], [7], none⟩, ⟨3, [], [6], none⟩, ⟨2, [], [5], none⟩, ⟨1, [], [4], none⟩, ⟨0, [], [3], none⟩] (by kernel_rfl) rfl rfl ?_
    refine d_s rfl rfl rfl (by kernel_rfl) (by exact run_iadA (o := 3) (o' := 3 + 5 * ss.toNat) rfl rfl (by omega) (by omega)) ?_
    refine d_s rfl rfl rfl (by kernel_rfl) (by refine run_fad (o' := 3 + 5 * ss.toNat) rfl (by omega)) ?_
    refine d_s rfl rfl rfl (by kernel_rfl) (by refine run_ld (v := iv 4) rfl rfl ?_; exact (pl_r P (3 + 5 * ss.toNat) (by omega) (by omega)).trans (congrArg (fun x => some (iv x)) hM.cur)) ?_
    refine d_n 3 19 10 [(22, iv (-1)), (124, iv (-1)), (123, pv 4 4)] [cw (pl P), cw (entsL e2 ++ room zE m16), cw [iv 2, iv ss, iv 0, iv 0, iv 0, uv 0, uv 0], cw [iv 1, iv (-1), iv (-1), iv (-1), iv (-1)], cw [iv (-1), iv 2, iv (-1), iv 2, iv (-1)], cw [iv (-1), iv (-1), iv 3, iv (-1), iv (-1)], cw [iv (-1), iv 4, iv (-1), iv 4, iv (-1)], cw [iv (-1), iv (-1), iv (-1), iv (-1), iv 0], cw [iv 0, iv 1, iv 2, iv 3, iv 4], cw [sv 3 0 5 5, sv 4 0 5 5, sv 5 0 5 5, sv 6 0 5 5, sv 7 0 5 5, sv 8 0 5 5]] [⟨17, [4], [], none⟩, ⟨15, [0], [], none⟩, ⟨10, [9], [], none⟩, ⟨6, [], [9], none⟩, ⟨5, [], [8], none⟩, ⟨4, [], [7], none⟩, ⟨3, [], [6], none⟩, ⟨2, [], [5], none⟩, ⟨1, [], [4], none⟩, ⟨0, [], [3], none⟩] (by kernel_rfl) rfl rfl ?_
    refine d_nil ?_
    refine ⟨⟨reg [(22, iv (-1)), (21, pv 2 0), (9, pv 0 0), (11, iv ss), (12, iv 2)], [cw (pl P), cw (entsL e2 ++ room zE m16), cw [iv 2, iv ss, iv 0, iv 0, iv 0, uv 0, uv 0]]⟩, Wk.ren [0, 1, 2] rfl rfl (by decide) ⟨rfl, ⟨rfl, ⟨rfl, ⟨rfl, ⟨rfl, trivial⟩⟩⟩⟩⟩ ⟨.inl (ren_cells (pl_scl P)), ⟨.inl (ren_cells (entsR_scl e2 m16)), ⟨.inl rfl, trivial⟩⟩⟩, ?_⟩
    refine gseq ?_
    refine greg ?_
    refine o_s (by refine run_ld (v := poolV P) rfl rfl ?_; exact pl_all P) ?_
    refine o_d 1 [(127, .agg #[iv 2, iv ss, iv 0, iv 0, iv 0, uv 0, uv 0])] (by kernel_rfl) ?_
    refine o_cl (callV (ApplyC h_pool_Apply h_pool_may h_pool_held h_pool_fits h_pool_Check h_pool_placed h_cookie_Next P (⟨2, ss, 0, 0, 0, 0, 0⟩)) rfl (all_cons (poolV_vpf P) (all_cons rfl rfl)) (all_cons (poolV_aggf ((applyS P (⟨2, ss, 0, 0, 0, 0, 0⟩)).1)) (all_cons rfl rfl)) ?_)
    refine o_b 4 [(23, pv 3 0), (130, iv ((applyS P (⟨2, ss, 0, 0, 0, 0, 0⟩)).2)), (129, poolV ((applyS P (⟨2, ss, 0, 0, 0, 0, 0⟩)).1)), (125, .tuple #[poolV ((applyS P (⟨2, ss, 0, 0, 0, 0, 0⟩)).1), iv ((applyS P (⟨2, ss, 0, 0, 0, 0, 0⟩)).2)])] [cw (pl P), cw (entsL e2 ++ room zE m16), cw [iv 2, iv ss, iv 0, iv 0, iv 0, uv 0, uv 0], cw (pl zeroP)] (by kernel_rfl) ?_
    refine o_s0 (by refine run_st (c' := pl ((applyS P (⟨2, ss, 0, 0, 0, 0, 0⟩)).1)) rfl rfl rfl ?_ ?_ ?_; exact pl_length _; exact pl_le (by omega); exact splice_pl0 zeroP ((applyS P (⟨2, ss, 0, 0, 0, 0, 0⟩)).1)) ?_
    refine o_b 1 [(24, iv ((applyS P (⟨2, ss, 0, 0, 0, 0, 0⟩)).2))] [cw (pl P), cw (entsL e2 ++ room zE m16), cw [iv 2, iv ss, iv 0, iv 0, iv 0, uv 0, uv 0], cw (pl ((applyS P (⟨2, ss, 0, 0, 0, 0, 0⟩)).1))] (by kernel_rfl) ?_
    refine o_nil ?_
    refine seq_go ?_
    refine gseq ?_
    refine gseq ?_
    refine greg ?_
    refine o_d 2 [(132, bv true), (131, iv (-1))] (by kernel_rfl) ?_
    refine o_nil ?_
    refine seq_go ?_
    refine gtrue rfl ?_
    refine gseq ?_
    refine greg ?_
    refine o_d 3 [(135, bv (((applyS P (⟨2, ss, 0, 0, 0, 0, 0⟩)).2) == 12)), (134, bv (((applyS P (⟨2, ss, 0, 0, 0, 0, 0⟩)).2) == 12)), (133, iv ((applyS P (⟨2, ss, 0, 0, 0, 0, 0⟩)).2))] (by kernel_rfl) ?_
    refine o_sp (b := ((applyS P (⟨2, ss, 0, 0, 0, 0, 0⟩)).2) == 12) 135 rfl (fun k52 => ?_) (fun q => by rw [(by rw [hE]; rfl : (((applyS P (⟨2, ss, 0, 0, 0, 0, 0⟩)).2) == 12) = true)] at q; cases q)
    refine o_unguard rfl ?_
    refine o_s (by refine run_ld (v := poolV ((applyS P (⟨2, ss, 0, 0, 0, 0, 0⟩)).1)) rfl rfl ?_; exact pl_all ((applyS P (⟨2, ss, 0, 0, 0, 0, 0⟩)).1)) ?_
    refine o_unguard rfl ?_
    refine o_s (by refine run_bld (c := pl zeroP) ?_; exact bld_zP) ?_
    refine o_unguard rfl ?_
    refine o_s (by refine run_eqa (a := ⟨pl ((applyS P (⟨2, ss, 0, 0, 0, 0, 0⟩)).1)⟩) (b := ⟨pl zeroP⟩) (r := eqP ((applyS P (⟨2, ss, 0, 0, 0, 0, 0⟩)).1) zeroP) (R := eqP ((applyS P (⟨2, ss, 0, 0, 0, 0, 0⟩)).1) zeroP) ?_ rfl; exact eqP_run ((applyS P (⟨2, ss, 0, 0, 0, 0, 0⟩)).1) zeroP rfl rfl) ?_
    refine o_d 2 [(8, bv (eqP ((applyS P (⟨2, ss, 0, 0, 0, 0, 0⟩)).1) zeroP)), (139, bv (eqP ((applyS P (⟨2, ss, 0, 0, 0, 0, 0⟩)).1) zeroP))] (by kernel_rfl) ?_
    refine o_nil ?_
    refine ⟨⟨reg [(8, bv (eqP ((applyS P (⟨2, ss, 0, 0, 0, 0, 0⟩)).1) zeroP))], []⟩, Wk.ren [] rfl rfl (by decide) ⟨rfl, trivial⟩ trivial, ?_⟩
    refine gret ?_
    have e0 : (eqP ((applyS P (⟨2, ss, 0, 0, 0, 0, 0⟩)).1) zeroP) = true := by
     first | done | (rw [apply_err (by rw [hE]; decide)]; exact eqP_self _) | (rw [hE5, if_pos (by omega)]; rfl) | (rw [hV]; simp) | (rw [apply_ver (hE5.trans (if_neg (by omega)))]; simp)
    exact fin_ans [bv (eqP ((applyS P (⟨2, ss, 0, 0, 0, 0, 0⟩)).1) zeroP)] (resV_t rfl rfl) rfl (by rw [e0]; rfl) rfl rfl
   ·skip
    have hE : (applyS P ⟨3, ss, 0, 0, 0, 0, 0⟩).2 = 12 := (mv_k hM hs (k := 3) (by decide)).trans (by decide)
    refine seq_regs [(9, pv 0 0), (11, iv ss), (12, iv 3)] (by kernel_rfl) ?_
    refine gseq ?_
    refine greg ?_
    refine o_b 5 [(21, pv 2 0), (98, .agg #[iv 3, iv ss, iv 0, iv 0, iv 0, uv 0, uv 0]), (97, iv ss), (96, iv 3)] [cw (pl P), cw (entsL e2 ++ room zE m16), cw [iv 3, iv ss, iv 0, iv 0, iv 0, uv 0, uv 0]] (by kernel_rfl) ?_
    refine o_nil ?_
    refine seq_go ?_
    refine gseq ?_
    refine gseq ?_
    refine greg ?_
    refine o_d 2 [(100, bv false), (99, iv 3)] (by kernel_rfl) ?_
    refine o_nil ?_
    refine seq_go ?_
    refine gfalse rfl ?_
    refine gskip ?_
    refine seq_go ?_
    refine gseq ?_
    refine gseq ?_
    refine greg ?_
    refine o_d 2 [(105, bv false), (104, iv 3)] (by kernel_rfl) ?_
    refine o_nil ?_
    refine seq_go ?_
    refine gfalse rfl ?_
    refine gskip ?_
    refine seq_go ?_
    refine gseq ?_
    refine gdregD [cw (pl P), cw (entsL e2 ++ room zE m16), cw [iv 3, iv ss, iv 0, iv 0, iv 0, uv 0, uv 0], .gone, .gone, .gone, .gone, .gone, .gone, .gone] (by kernel_rfl) ?_
    refine d_n 13 13 10 [(119, pv 0 3), (118, iv ss), (117, sv 5 0 5 5), (116, pv 9 2), (115, iv 2), (114, iv 3), (113, sv 9 0 6 6), (112, sv 8 0 5 5), (111, sv 7 0 5 5), (110, sv 6 0 5 5), (109, sv 5 0 5 5), (108, sv 4 0 5 5), (107, sv 3 0 5 5)] [cw (pl P), cw (entsL e2 ++ room zE m16), cw [iv 3, iv ss, iv 0, iv 0, iv 0, uv 0, uv 0], cw [iv 1, iv (-1), iv (-1), iv (-1), iv (-1)], cw [iv (-1), iv 2, iv (-1), iv 2, iv (-1)], cw [iv (-1), iv (-1), iv 3, iv (-1), iv (-1)], cw [iv (-1), iv 4, iv (-1), iv 4, iv (-1)], cw [iv (-1), iv (-1), iv (-1), iv (-1), iv 0], cw [iv 0, iv 1, iv 2, iv 3, iv 4], cw [sv 3 0 5 5, sv 4 0 5 5, sv 5 0 5 5, sv 6 0 5 5, sv 7 0 5 5, sv 8 0 5 5]] [⟨10, [9], [], none⟩, ⟨6, [], [9], none⟩, ⟨5, [], [8], none⟩, ⟨4, [], [7], none⟩, ⟨3, [], [6], none⟩, ⟨2, [], [5], none⟩, ⟨1, [], [4], none⟩, ⟨0, [], [3], none⟩] (by kernel_rfl) rfl rfl ?_
    refine d_s rfl rfl rfl (by kernel_rfl) (by exact run_iadA (o := 3) (o' := 3 + 5 * ss.toNat) rfl rfl (by omega) (by omega)) ?_
    refine d_s rfl rfl rfl (by kernel_rfl) (by refine run_fad (o' := 3 + 5 * ss.toNat) rfl (by omega)) ?_
    refine d_s rfl rfl rfl (by kernel_rfl) (by refine run_ld (v := iv 4) rfl rfl ?_; exact (pl_r P (3 + 5 * ss.toNat) (by omega) (by omega)).trans (congrArg (fun x => some (iv x)) hM.cur)) ?_
    refine d_n 3 19 10 [(22, iv (-1)), (124, iv (-1)), (123, pv 5 4)] [cw (pl P), cw (entsL e2 ++ room zE m16), cw [iv 3, iv ss, iv 0, iv 0, iv 0, uv 0, uv 0], cw [iv 1, iv (-1), iv (-1), iv (-1), iv (-1)], cw [iv (-1), iv 2, iv (-1), iv 2, iv (-1)], cw [iv (-1), iv (-1), iv 3, iv (-1), iv (-1)], cw [iv (-1), iv 4, iv (-1), iv 4, iv (-1)], cw [iv (-1), iv (-1), iv (-1), iv (-1), iv 0], cw [iv 0, iv 1, iv 2, iv 3, iv 4], cw [sv 3 0 5 5, sv 4 0 5 5, sv 5 0 5 5, sv 6 0 5 5, sv 7 0 5 5, sv 8 0 5 5]] [⟨17, [5], [], none⟩, ⟨15, [0], [], none⟩, ⟨10, [9], [], none⟩, ⟨6, [], [9], none⟩, ⟨5, [], [8], none⟩, ⟨4, [], [7], none⟩, ⟨3, [], [6], none⟩, ⟨2, [], [5], none⟩, ⟨1, [], [4], none⟩, ⟨0, [], [3], none⟩] (by kernel_rfl) rfl rfl ?_
    refine d_nil ?_
    refine ⟨⟨reg [(22, iv (-1)), (21, pv 2 0), (9, pv 0 0), (11, iv ss), (12, iv 3)], [cw (pl P), cw (entsL e2 ++ room zE m16), cw [iv 3, iv ss, iv 0, iv 0, iv 0, uv 0, uv 0]]⟩, Wk.ren [0, 1, 2] rfl rfl (by decide) ⟨rfl, ⟨rfl, ⟨rfl, ⟨rfl, ⟨rfl, trivial⟩⟩⟩⟩⟩ ⟨.inl (ren_cells (pl_scl P)), ⟨.inl (ren_cells (entsR_scl e2 m16)), ⟨.inl rfl, trivial⟩⟩⟩, ?_⟩
    refine gseq ?_
    refine greg ?_
    refine o_s (by refine run_ld (v := poolV P) rfl rfl ?_; exact pl_all P) ?_
    refine o_d 1 [(127, .agg #[iv 3, iv ss, iv 0, iv 0, iv 0, uv 0, uv 0])] (by kernel_rfl) ?_
    refine o_cl (callV (ApplyC h_pool_Apply h_pool_may h_pool_held h_pool_fits h_pool_Check h_pool_placed h_cookie_Next P (⟨3, ss, 0, 0, 0, 0, 0⟩)) rfl (all_cons (poolV_vpf P) (all_cons rfl rfl)) (all_cons (poolV_aggf ((applyS P (⟨3, ss, 0, 0, 0, 0, 0⟩)).1)) (all_cons rfl rfl)) ?_)
    refine o_b 4 [(23, pv 3 0), (130, iv ((applyS P (⟨3, ss, 0, 0, 0, 0, 0⟩)).2)), (129, poolV ((applyS P (⟨3, ss, 0, 0, 0, 0, 0⟩)).1)), (125, .tuple #[poolV ((applyS P (⟨3, ss, 0, 0, 0, 0, 0⟩)).1), iv ((applyS P (⟨3, ss, 0, 0, 0, 0, 0⟩)).2)])] [cw (pl P), cw (entsL e2 ++ room zE m16), cw [iv 3, iv ss, iv 0, iv 0, iv 0, uv 0, uv 0], cw (pl zeroP)] (by kernel_rfl) ?_
    refine o_s0 (by refine run_st (c' := pl ((applyS P (⟨3, ss, 0, 0, 0, 0, 0⟩)).1)) rfl rfl rfl ?_ ?_ ?_; exact pl_length _; exact pl_le (by omega); exact splice_pl0 zeroP ((applyS P (⟨3, ss, 0, 0, 0, 0, 0⟩)).1)) ?_
    refine o_b 1 [(24, iv ((applyS P (⟨3, ss, 0, 0, 0, 0, 0⟩)).2))] [cw (pl P), cw (entsL e2 ++ room zE m16), cw [iv 3, iv ss, iv 0, iv 0, iv 0, uv 0, uv 0], cw (pl ((applyS P (⟨3, ss, 0, 0, 0, 0, 0⟩)).1))] (by kernel_rfl) ?_
    refine o_nil ?_
    refine seq_go ?_
    refine gseq ?_
    refine gseq ?_
    refine greg ?_
    refine o_d 2 [(132, bv true), (131, iv (-1))] (by kernel_rfl) ?_
    refine o_nil ?_
    refine seq_go ?_
    refine gtrue rfl ?_
    refine gseq ?_
    refine greg ?_
    refine o_d 3 [(135, bv (((applyS P (⟨3, ss, 0, 0, 0, 0, 0⟩)).2) == 12)), (134, bv (((applyS P (⟨3, ss, 0, 0, 0, 0, 0⟩)).2) == 12)), (133, iv ((applyS P (⟨3, ss, 0, 0, 0, 0, 0⟩)).2))] (by kernel_rfl) ?_
    refine o_sp (b := ((applyS P (⟨3, ss, 0, 0, 0, 0, 0⟩)).2) == 12) 135 rfl (fun k53 => ?_) (fun q => by rw [(by rw [hE]; rfl : (((applyS P (⟨3, ss, 0, 0, 0, 0, 0⟩)).2) == 12) = true)] at q; cases q)
    refine o_unguard rfl ?_
    refine o_s (by refine run_ld (v := poolV ((applyS P (⟨3, ss, 0, 0, 0, 0, 0⟩)).1)) rfl rfl ?_; exact pl_all ((applyS P (⟨3, ss, 0, 0, 0, 0, 0⟩)).1)) ?_
    refine o_unguard rfl ?_
    refine o_s (by refine run_bld (c := pl zeroP) ?_; exact bld_zP) ?_
    refine o_unguard rfl ?_
    refine o_s (by refine run_eqa (a := ⟨pl ((applyS P (⟨3, ss, 0, 0, 0, 0, 0⟩)).1)⟩) (b := ⟨pl zeroP⟩) (r := eqP ((applyS P (⟨3, ss, 0, 0, 0, 0, 0⟩)).1) zeroP) (R := eqP ((applyS P (⟨3, ss, 0, 0, 0, 0, 0⟩)).1) zeroP) ?_ rfl; exact eqP_run ((applyS P (⟨3, ss, 0, 0, 0, 0, 0⟩)).1) zeroP rfl rfl) ?_
    refine o_d 2 [(8, bv (eqP ((applyS P (⟨3, ss, 0, 0, 0, 0, 0⟩)).1) zeroP)), (139, bv (eqP ((applyS P (⟨3, ss, 0, 0, 0, 0, 0⟩)).1) zeroP))] (by kernel_rfl) ?_
    refine o_nil ?_
    refine ⟨⟨reg [(8, bv (eqP ((applyS P (⟨3, ss, 0, 0, 0, 0, 0⟩)).1) zeroP))], []⟩, Wk.ren [] rfl rfl (by decide) ⟨rfl, trivial⟩ trivial, ?_⟩
    refine gret ?_
    have e0 : (eqP ((applyS P (⟨3, ss, 0, 0, 0, 0, 0⟩)).1) zeroP) = true := by
     first | done | (rw [apply_err (by rw [hE]; decide)]; exact eqP_self _) | (rw [hE5, if_pos (by omega)]; rfl) | (rw [hV]; simp) | (rw [apply_ver (hE5.trans (if_neg (by omega)))]; simp)
    exact fin_ans [bv (eqP ((applyS P (⟨3, ss, 0, 0, 0, 0, 0⟩)).1) zeroP)] (resV_t rfl rfl) rfl (by rw [e0]; rfl) rfl rfl
   ·skip
    have hE : (applyS P ⟨4, ss, 0, 0, 0, 0, 0⟩).2 = 12 := (mv_k hM hs (k := 4) (by decide)).trans (by decide)
    refine seq_regs [(9, pv 0 0), (11, iv ss), (12, iv 4)] (by kernel_rfl) ?_
    refine gseq ?_
    refine greg ?_
    refine o_b 5 [(21, pv 2 0), (98, .agg #[iv 4, iv ss, iv 0, iv 0, iv 0, uv 0, uv 0]), (97, iv ss), (96, iv 4)] [cw (pl P), cw (entsL e2 ++ room zE m16), cw [iv 4, iv ss, iv 0, iv 0, iv 0, uv 0, uv 0]] (by kernel_rfl) ?_
    refine o_nil ?_
    refine seq_go ?_
    refine gseq ?_
    refine gseq ?_
    refine greg ?_
    refine o_d 2 [(100, bv false), (99, iv 4)] (by kernel_rfl) ?_
    refine o_nil ?_
    refine seq_go ?_
    refine gfalse rfl ?_
    refine gskip ?_
    refine seq_go ?_
    refine gseq ?_
    refine gseq ?_
    refine greg ?_
    refine o_d 2 [(105, bv false), (104, iv 4)] (by kernel_rfl) ?_
    refine o_nil ?_
    refine seq_go ?_
    refine gfalse rfl ?_
    refine gskip ?_
    refine seq_go ?_
    refine gseq ?_
    refine gdregD [cw (pl P), cw (entsL e2 ++ room zE m16), cw [iv 4, iv ss, iv 0, iv 0, iv 0, uv 0, uv 0], .gone, .gone, .gone, .gone, .gone, .gone, .gone] (by kernel_rfl) ?_
    refine d_n 13 13 10 [(119, pv 0 3), (118, iv ss), (117, sv 6 0 5 5), (116, pv 9 3), (115, iv 3), (114, iv 4), (113, sv 9 0 6 6), (112, sv 8 0 5 5), (111, sv 7 0 5 5), (110, sv 6 0 5 5), (109, sv 5 0 5 5), (108, sv 4 0 5 5), (107, sv 3 0 5 5)] [cw (pl P), cw (entsL e2 ++ room zE m16), cw [iv 4, iv ss, iv 0, iv 0, iv 0, uv 0, uv 0], cw [iv 1, iv (-1), iv (-1), iv (-1), iv (-1)], cw [iv (-1), iv 2, iv (-1), iv 2, iv (-1)], cw [iv (-1), iv (-1), iv 3, iv (-1), iv (-1)], cw [iv (-1), iv 4, iv (-1), iv 4, iv (-1)], cw [iv (-1), iv (-1), iv (-1), iv (-1), iv 0], cw [iv 0, iv 1, iv 2, iv 3, iv 4], cw [sv 3 0 5 5, sv 4 0 5 5, sv 5 0 5 5, sv 6 0 5 5, sv 7 0 5 5, sv 8 0 5 5]] [⟨10, [9], [], none⟩, ⟨6, [], [9], none⟩, ⟨5, [], [8], none⟩, ⟨4, [], [7], none⟩, ⟨3, [], [6], none⟩, ⟨2, [], [5], none⟩, ⟨1, [], [4], none⟩, ⟨0, [], [3], none⟩] (by kernel_rfl) rfl rfl ?_
    refine d_s rfl rfl rfl (by kernel_rfl) (by exact run_iadA (o := 3) (o' := 3 + 5 * ss.toNat) rfl rfl (by omega) (by omega)) ?_
    refine d_s rfl rfl rfl (by kernel_rfl) (by refine run_fad (o' := 3 + 5 * ss.toNat) rfl (by omega)) ?_
    refine d_s rfl rfl rfl (by kernel_rfl) (by refine run_ld (v := iv 4) rfl rfl ?_; exact (pl_r P (3 + 5 * ss.toNat) (by omega) (by omega)).trans (congrArg (fun x => some (iv x)) hM.cur)) ?_
    refine d_n 3 19 10 [(22, iv (-1)), (124, iv (-1)), (123, pv 6 4)] [cw (pl P), cw (entsL e2 ++ room zE m16), cw [iv 4, iv ss, iv 0, iv 0, iv 0, uv 0, uv 0], cw [iv 1, iv (-1), iv (-1), iv (-1), iv (-1)], cw [iv (-1), iv 2, iv (-1), iv 2, iv (-1)], cw [iv (-1), iv (-1), iv 3, iv (-1), iv (-1)], cw [iv (-1), iv 4, iv (-1), iv 4, iv (-1)], cw [iv (-1), iv (-1), iv (-1), iv (-1), iv 0], cw [iv 0, iv 1, iv 2, iv 3, iv 4], cw [sv 3 0 5 5, sv 4 0 5 5, sv 5 0 5 5, sv 6 0 5 5, sv 7 0 5 5, sv 8 0 5 5]] [⟨17, [6], [], none⟩, ⟨15, [0], [], none⟩, ⟨10, [9], [], none⟩, ⟨6, [], [9], none⟩, ⟨5, [], [8], none⟩, ⟨4, [], [7], none⟩, ⟨3, [], [6], none⟩, ⟨2, [], [5], none⟩, ⟨1, [], [4], none⟩, ⟨0, [], [3], none⟩] (by kernel_rfl) rfl rfl ?_
    refine d_nil ?_
    refine ⟨⟨reg [(22, iv (-1)), (21, pv 2 0), (9, pv 0 0), (11, iv ss), (12, iv 4)], [cw (pl P), cw (entsL e2 ++ room zE m16), cw [iv 4, iv ss, iv 0, iv 0, iv 0, uv 0, uv 0]]⟩, Wk.ren [0, 1, 2] rfl rfl (by decide) ⟨rfl, ⟨rfl, ⟨rfl, ⟨rfl, ⟨rfl, trivial⟩⟩⟩⟩⟩ ⟨.inl (ren_cells (pl_scl P)), ⟨.inl (ren_cells (entsR_scl e2 m16)), ⟨.inl rfl, trivial⟩⟩⟩, ?_⟩
    refine gseq ?_
    refine greg ?_
    refine o_s (by refine run_ld (v := poolV P) rfl rfl ?_; exact pl_all P) ?_
    refine o_d 1 [(127, .agg #[iv 4, iv ss, iv 0, iv 0, iv 0, uv 0, uv 0])] (by kernel_rfl) ?_
    refine o_cl (callV (ApplyC h_pool_Apply h_pool_may h_pool_held h_pool_fits h_pool_Check h_pool_placed h_cookie_Next P (⟨4, ss, 0, 0, 0, 0, 0⟩)) rfl (all_cons (poolV_vpf P) (all_cons rfl rfl)) (all_cons (poolV_aggf ((applyS P (⟨4, ss, 0, 0, 0, 0, 0⟩)).1)) (all_cons rfl rfl)) ?_)
    refine o_b 4 [(23, pv 3 0), (130, iv ((applyS P (⟨4, ss, 0, 0, 0, 0, 0⟩)).2)), (129, poolV ((applyS P (⟨4, ss, 0, 0, 0, 0, 0⟩)).1)), (125, .tuple #[poolV ((applyS P (⟨4, ss, 0, 0, 0, 0, 0⟩)).1), iv ((applyS P (⟨4, ss, 0, 0, 0, 0, 0⟩)).2)])] [cw (pl P), cw (entsL e2 ++ room zE m16), cw [iv 4, iv ss, iv 0, iv 0, iv 0, uv 0, uv 0], cw (pl zeroP)] (by kernel_rfl) ?_
    refine o_s0 (by refine run_st (c' := pl ((applyS P (⟨4, ss, 0, 0, 0, 0, 0⟩)).1)) rfl rfl rfl ?_ ?_ ?_; exact pl_length _; exact pl_le (by omega); exact splice_pl0 zeroP ((applyS P (⟨4, ss, 0, 0, 0, 0, 0⟩)).1)) ?_
    refine o_b 1 [(24, iv ((applyS P (⟨4, ss, 0, 0, 0, 0, 0⟩)).2))] [cw (pl P), cw (entsL e2 ++ room zE m16), cw [iv 4, iv ss, iv 0, iv 0, iv 0, uv 0, uv 0], cw (pl ((applyS P (⟨4, ss, 0, 0, 0, 0, 0⟩)).1))] (by kernel_rfl) ?_
    refine o_nil ?_
    refine seq_go ?_
    refine gseq ?_
    refine gseq ?_
    refine greg ?_
    refine o_d 2 [(132, bv true), (131, iv (-1))] (by kernel_rfl) ?_
    refine o_nil ?_
    refine seq_go ?_
    refine gtrue rfl ?_
    refine gseq ?_
    refine greg ?_
    refine o_d 3 [(135, bv (((applyS P (⟨4, ss, 0, 0, 0, 0, 0⟩)).2) == 12)), (134, bv (((applyS P (⟨4, ss, 0, 0, 0, 0, 0⟩)).2) == 12)), (133, iv ((applyS P (⟨4, ss, 0, 0, 0, 0, 0⟩)).2))] (by kernel_rfl) ?_
    refine o_sp (b := ((applyS P (⟨4, ss, 0, 0, 0, 0, 0⟩)).2) == 12) 135 rfl (fun k54 => ?_) (fun q => by rw [(by rw [hE]; rfl : (((applyS P (⟨4, ss, 0, 0, 0, 0, 0⟩)).2) == 12) = true)] at q; cases q)
    refine o_unguard rfl ?_
    refine o_s (by refine run_ld (v := poolV ((applyS P (⟨4, ss, 0, 0, 0, 0, 0⟩)).1)) rfl rfl ?_; exact pl_all ((applyS P (⟨4, ss, 0, 0, 0, 0, 0⟩)).1)) ?_
    refine o_unguard rfl ?_
    refine o_s (by refine run_bld (c := pl zeroP) ?_; exact bld_zP) ?_
    refine o_unguard rfl ?_
    refine o_s (by refine run_eqa (a := ⟨pl ((applyS P (⟨4, ss, 0, 0, 0, 0, 0⟩)).1)⟩) (b := ⟨pl zeroP⟩) (r := eqP ((applyS P (⟨4, ss, 0, 0, 0, 0, 0⟩)).1) zeroP) (R := eqP ((applyS P (⟨4, ss, 0, 0, 0, 0, 0⟩)).1) zeroP) ?_ rfl; exact eqP_run ((applyS P (⟨4, ss, 0, 0, 0, 0, 0⟩)).1) zeroP rfl rfl) ?_
    refine o_d 2 [(8, bv (eqP ((applyS P (⟨4, ss, 0, 0, 0, 0, 0⟩)).1) zeroP)), (139, bv (eqP ((applyS P (⟨4, ss, 0, 0, 0, 0, 0⟩)).1) zeroP))] (by kernel_rfl) ?_
    refine o_nil ?_
    refine ⟨⟨reg [(8, bv (eqP ((applyS P (⟨4, ss, 0, 0, 0, 0, 0⟩)).1) zeroP))], []⟩, Wk.ren [] rfl rfl (by decide) ⟨rfl, trivial⟩ trivial, ?_⟩
    refine gret ?_
    have e0 : (eqP ((applyS P (⟨4, ss, 0, 0, 0, 0, 0⟩)).1) zeroP) = true := by
     first | done | (rw [apply_err (by rw [hE]; decide)]; exact eqP_self _) | (rw [hE5, if_pos (by omega)]; rfl) | (rw [hV]; simp) | (rw [apply_ver (hE5.trans (if_neg (by omega)))]; simp)
    exact fin_ans [bv (eqP ((applyS P (⟨4, ss, 0, 0, 0, 0, 0⟩)).1) zeroP)] (resV_t rfl rfl) rfl (by rw [e0]; rfl) rfl rfl
   ·skip
    have hE5 : (applyS P ⟨5, ss, 0, 0, 0, 0, 0⟩).2 = (if (4 : Int) < ((tn : Int) + 1) + 3 then 13 else 0) := (mv_free hM hs (by omega)).trans (if_pos rfl)
    refine seq_regs [(9, pv 0 0), (11, iv ss), (12, iv 5)] (by kernel_rfl) ?_
    refine gseq ?_
    refine greg ?_
    refine o_b 5 [(21, pv 2 0), (98, .agg #[iv 5, iv ss, iv 0, iv 0, iv 0, uv 0, uv 0]), (97, iv ss), (96, iv 5)] [cw (pl P), cw (entsL e2 ++ room zE m16), cw [iv 5, iv ss, iv 0, iv 0, iv 0, uv 0, uv 0]] (by kernel_rfl) ?_
    refine o_nil ?_
    refine seq_go ?_
    refine gseq ?_
    refine gseq ?_
    refine greg ?_
    refine o_d 2 [(100, bv false), (99, iv 5)] (by kernel_rfl) ?_
    refine o_nil ?_
    refine seq_go ?_
    refine gfalse rfl ?_
    refine gskip ?_
    refine seq_go ?_
    refine gseq ?_
    refine gseq ?_
    refine greg ?_
    refine o_d 2 [(105, bv false), (104, iv 5)] (by kernel_rfl) ?_
    refine o_nil ?_
    refine seq_go ?_
    refine gfalse rfl ?_
    refine gskip ?_
    refine seq_go ?_
    refine gseq ?_
    refine gdregD [cw (pl P), cw (entsL e2 ++ room zE m16), cw [iv 5, iv ss, iv 0, iv 0, iv 0, uv 0, uv 0], .gone, .gone, .gone, .gone, .gone, .gone, .gone] (by kernel_rfl) ?_
    refine d_n 13 13 10 [(119, pv 0 3), (118, iv ss), (117, sv 7 0 5 5), (116, pv 9 4), (115, iv 4), (114, iv 5), (113, sv 9 0 6 6), (112, sv 8 0 5 5), (111, sv 7 0 5 5), (110, sv 6 0 5 5), (109, sv 5 0 5 5), (108, sv 4 0 5 5), (107, sv 3 0 5 5)] [cw (pl P), cw (entsL e2 ++ room zE m16), cw [iv 5, iv ss, iv 0, iv 0, iv 0, uv 0, uv 0], cw [iv 1, iv (-1), iv (-1), iv (-1), iv (-1)], cw [iv (-1), iv 2, iv (-1), iv 2, iv (-1)], cw [iv (-1), iv (-1), iv 3, iv (-1), iv (-1)], cw [iv (-1), iv 4, iv (-1), iv 4, iv (-1)], cw [iv (-1), iv (-1), iv (-1), iv (-1), iv 0], cw [iv 0, iv 1, iv 2, iv 3, iv 4], cw [sv 3 0 5 5, sv 4 0 5 5, sv 5 0 5 5, sv 6 0 5 5, sv 7 0 5 5, sv 8 0 5 5]] [⟨10, [9], [], none⟩, ⟨6, [], [9], none⟩, ⟨5, [], [8], none⟩, ⟨4, [], [7], none⟩, ⟨3, [], [6], none⟩, ⟨2, [], [5], none⟩, ⟨1, [], [4], none⟩, ⟨0, [], [3], none⟩] (by kernel_rfl) rfl rfl ?_
    refine d_s rfl rfl rfl (by kernel_rfl) (by exact run_iadA (o := 3) (o' := 3 + 5 * ss.toNat) rfl rfl (by omega) (by omega)) ?_
    refine d_s rfl rfl rfl (by kernel_rfl) (by refine run_fad (o' := 3 + 5 * ss.toNat) rfl (by omega)) ?_
    refine d_s rfl rfl rfl (by kernel_rfl) (by refine run_ld (v := iv 4) rfl rfl ?_; exact (pl_r P (3 + 5 * ss.toNat) (by omega) (by omega)).trans (congrArg (fun x => some (iv x)) hM.cur)) ?_
    refine d_n 3 19 10 [(22, iv 0), (124, iv 0), (123, pv 7 4)] [cw (pl P), cw (entsL e2 ++ room zE m16), cw [iv 5, iv ss, iv 0, iv 0, iv 0, uv 0, uv 0], cw [iv 1, iv (-1), iv (-1), iv (-1), iv (-1)], cw [iv (-1), iv 2, iv (-1), iv 2, iv (-1)], cw [iv (-1), iv (-1), iv 3, iv (-1), iv (-1)], cw [iv (-1), iv 4, iv (-1), iv 4, iv (-1)], cw [iv (-1), iv (-1), iv (-1), iv (-1), iv 0], cw [iv 0, iv 1, iv 2, iv 3, iv 4], cw [sv 3 0 5 5, sv 4 0 5 5, sv 5 0 5 5, sv 6 0 5 5, sv 7 0 5 5, sv 8 0 5 5]] [⟨17, [7], [], none⟩, ⟨15, [0], [], none⟩, ⟨10, [9], [], none⟩, ⟨6, [], [9], none⟩, ⟨5, [], [8], none⟩, ⟨4, [], [7], none⟩, ⟨3, [], [6], none⟩, ⟨2, [], [5], none⟩, ⟨1, [], [4], none⟩, ⟨0, [], [3], none⟩] (by kernel_rfl) rfl rfl ?_
    refine d_nil ?_
    refine ⟨⟨reg [(22, iv 0), (21, pv 2 0), (9, pv 0 0), (11, iv ss), (12, iv 5)], [cw (pl P), cw (entsL e2 ++ room zE m16), cw [iv 5, iv ss, iv 0, iv 0, iv 0, uv 0, uv 0]]⟩, Wk.ren [0, 1, 2] rfl rfl (by decide) ⟨rfl, ⟨rfl, ⟨rfl, ⟨rfl, ⟨rfl, trivial⟩⟩⟩⟩⟩ ⟨.inl (ren_cells (pl_scl P)), ⟨.inl (ren_cells (entsR_scl e2 m16)), ⟨.inl rfl, trivial⟩⟩⟩, ?_⟩
    refine gseq ?_
    refine greg ?_
    refine o_s (by refine run_ld (v := poolV P) rfl rfl ?_; exact pl_all P) ?_
    refine o_d 1 [(127, .agg #[iv 5, iv ss, iv 0, iv 0, iv 0, uv 0, uv 0])] (by kernel_rfl) ?_
    refine o_cl (callV (ApplyC h_pool_Apply h_pool_may h_pool_held h_pool_fits h_pool_Check h_pool_placed h_cookie_Next P (⟨5, ss, 0, 0, 0, 0, 0⟩)) rfl (all_cons (poolV_vpf P) (all_cons rfl rfl)) (all_cons (poolV_aggf ((applyS P (⟨5, ss, 0, 0, 0, 0, 0⟩)).1)) (all_cons rfl rfl)) ?_)
    refine o_b 4 [(23, pv 3 0), (130, iv ((applyS P (⟨5, ss, 0, 0, 0, 0, 0⟩)).2)), (129, poolV ((applyS P (⟨5, ss, 0, 0, 0, 0, 0⟩)).1)), (125, .tuple #[poolV ((applyS P (⟨5, ss, 0, 0, 0, 0, 0⟩)).1), iv ((applyS P (⟨5, ss, 0, 0, 0, 0, 0⟩)).2)])] [cw (pl P), cw (entsL e2 ++ room zE m16), cw [iv 5, iv ss, iv 0, iv 0, iv 0, uv 0, uv 0], cw (pl zeroP)] (by kernel_rfl) ?_
    refine o_s0 (by refine run_st (c' := pl ((applyS P (⟨5, ss, 0, 0, 0, 0, 0⟩)).1)) rfl rfl rfl ?_ ?_ ?_; exact pl_length _; exact pl_le (by omega); exact splice_pl0 zeroP ((applyS P (⟨5, ss, 0, 0, 0, 0, 0⟩)).1)) ?_
    refine o_b 1 [(24, iv ((applyS P (⟨5, ss, 0, 0, 0, 0, 0⟩)).2))] [cw (pl P), cw (entsL e2 ++ room zE m16), cw [iv 5, iv ss, iv 0, iv 0, iv 0, uv 0, uv 0], cw (pl ((applyS P (⟨5, ss, 0, 0, 0, 0, 0⟩)).1))] (by kernel_rfl) ?_
    refine o_nil ?_
    refine seq_go ?_
    refine gseq ?_
    refine gseq ?_
    refine greg ?_
    refine o_d 2 [(132, bv false), (131, iv 0)] (by kernel_rfl) ?_
    refine o_nil ?_
    refine seq_go ?_
    refine gfalse rfl ?_
    refine gskip ?_
    refine seq_go ?_
    refine gseq ?_
    refine gseq ?_
    refine greg ?_
    refine o_d 5 [(144, pv 0 3), (143, iv ss), (142, bv true), (141, bv true), (140, iv 5)] (by kernel_rfl) ?_
    refine o_unguard rfl ?_
    refine o_s (by exact run_iadA (o := 3) (o' := 3 + 5 * ss.toNat) rfl rfl (by omega) (by omega)) ?_
    refine o_unguard rfl ?_
    refine o_s (by refine run_fad (o' := 7 + 5 * ss.toNat) rfl (by omega)) ?_
    refine o_unguard rfl ?_
    refine o_s (by refine run_ld (v := iv ((tn : Int) + 1)) rfl rfl ?_; exact (pl_r P (3 + 5 * ss.toNat + 4) (by omega) (by omega)).trans (congrArg (fun x => some (iv x)) (hM.si rfl))) ?_
    refine o_d 2 [(149, bv (decide ((tn : Int) + 1 > 1))), (148, bv (decide ((tn : Int) + 1 > 1)))] (by kernel_rfl) ?_
    refine o_nil ?_
    refine seq_go ?_
    refine gcond (t := decide ((tn : Int) + 1 > 1)) rfl (fun h55 => ?_) (fun h55 => ?_)
    ·skip
     have h55' : (tn : Int) + 1 > 1 := of_decide_eq_true h55
     refine gseq ?_
     refine greg ?_
     refine o_d 3 [(8, bv (((applyS P (⟨5, ss, 0, 0, 0, 0, 0⟩)).2) == 13)), (151, bv (((applyS P (⟨5, ss, 0, 0, 0, 0, 0⟩)).2) == 13)), (150, iv ((applyS P (⟨5, ss, 0, 0, 0, 0, 0⟩)).2))] (by kernel_rfl) ?_
     refine o_nil ?_
     refine ⟨⟨reg [(8, bv (((applyS P (⟨5, ss, 0, 0, 0, 0, 0⟩)).2) == 13))], []⟩, Wk.ren [] rfl rfl (by decide) ⟨rfl, trivial⟩ trivial, ?_⟩
     refine gret ?_
     have e0 : (((applyS P (⟨5, ss, 0, 0, 0, 0, 0⟩)).2) == 13) = true := by
      first | done | (rw [apply_err (by rw [hE]; decide)]; exact eqP_self _) | (rw [hE5, if_pos (by omega)]; rfl) | (rw [hV]; simp) | (rw [apply_ver (hE5.trans (if_neg (by omega)))]; simp)
     exact fin_ans [bv (((applyS P (⟨5, ss, 0, 0, 0, 0, 0⟩)).2) == 13)] (resV_t rfl rfl) rfl (by rw [e0]; rfl) rfl rfl
    have h55' : ¬ ((tn : Int) + 1 > 1) := of_decide_eq_false h55
    refine gskip ?_
    refine seq_go ?_
    refine gseq ?_
    refine greg ?_
    refine o_d 3 [(154, bv (((applyS P (⟨5, ss, 0, 0, 0, 0, 0⟩)).2) == 0)), (153, bv (((applyS P (⟨5, ss, 0, 0, 0, 0, 0⟩)).2) == 0)), (152, iv ((applyS P (⟨5, ss, 0, 0, 0, 0, 0⟩)).2))] (by kernel_rfl) ?_
    refine o_sp (b := ((applyS P (⟨5, ss, 0, 0, 0, 0, 0⟩)).2) == 0) 154 rfl (fun k56 => ?_) (fun q => by rw [(by rw [hE5, if_neg (by omega)]; rfl : (((applyS P (⟨5, ss, 0, 0, 0, 0, 0⟩)).2) == 0) = true)] at q; cases q)
    refine o_d 2 [(156, pv 3 3), (155, iv ss)] (by kernel_rfl) ?_
    refine o_unguard rfl ?_
    refine o_s (by exact run_iadA (o := 3) (o' := 3 + 5 * ss.toNat) rfl rfl (by omega) (by omega)) ?_
    refine o_unguard rfl ?_
    refine o_s (by refine run_fad (o' := 3 + 5 * ss.toNat) rfl (by omega)) ?_
    refine o_unguard rfl ?_
    refine o_s (by refine run_ld (v := iv (((applyS P (⟨5, ss, 0, 0, 0, 0, 0⟩)).1) (3 + 5 * ss.toNat))) rfl rfl ?_; exact pl_r ((applyS P (⟨5, ss, 0, 0, 0, 0, 0⟩)).1) (3 + 5 * ss.toNat) (by omega) (by omega)) ?_
    refine o_d 4 [(163, bv ((((applyS P (⟨5, ss, 0, 0, 0, 0, 0⟩)).1) (3 + 5 * ss.toNat)) == 0)), (162, bv ((((applyS P (⟨5, ss, 0, 0, 0, 0, 0⟩)).1) (3 + 5 * ss.toNat)) == 0)), (161, bv ((((applyS P (⟨5, ss, 0, 0, 0, 0, 0⟩)).1) (3 + 5 * ss.toNat)) == 0)), (160, iv 0)] (by kernel_rfl) ?_
    refine o_sp (b := (((applyS P (⟨5, ss, 0, 0, 0, 0, 0⟩)).1) (3 + 5 * ss.toNat)) == 0) 163 rfl (fun k57 => ?_) (fun q => by rw [(by rw [moves_to hM hs rfl ⟨by simp, by simp⟩ (hE5.trans (if_neg (by omega)))]; rfl : ((((applyS P (⟨5, ss, 0, 0, 0, 0, 0⟩)).1) (3 + 5 * ss.toNat)) == 0) = true)] at q; cases q)
    refine o_d 1 [(164, pv 3 0)] (by kernel_rfl) ?_
    refine o_unguard rfl ?_
    refine o_s (by refine run_ld (v := iv (((applyS P (⟨5, ss, 0, 0, 0, 0, 0⟩)).1) 0)) rfl rfl ?_; exact pl_r ((applyS P (⟨5, ss, 0, 0, 0, 0, 0⟩)).1) 0 rfl (by omega)) ?_
    refine o_d 1 [(166, pv 0 0)] (by kernel_rfl) ?_
    refine o_unguard rfl ?_
    refine o_s (by refine run_ld (v := iv (P 0)) rfl rfl ?_; exact pl_r P 0 rfl (by omega)) ?_
    refine o_d 4 [(8, bv ((((applyS P (⟨5, ss, 0, 0, 0, 0, 0⟩)).1) 0) == (IntKind.i64.wrap (P 0 + 1)))), (170, bv ((((applyS P (⟨5, ss, 0, 0, 0, 0, 0⟩)).1) 0) == (IntKind.i64.wrap (P 0 + 1)))), (169, bv ((((applyS P (⟨5, ss, 0, 0, 0, 0, 0⟩)).1) 0) == (IntKind.i64.wrap (P 0 + 1)))), (168, iv (IntKind.i64.wrap (P 0 + 1)))] (by kernel_rfl) ?_
    refine o_nil ?_
    refine ⟨⟨reg [(8, bv ((((applyS P (⟨5, ss, 0, 0, 0, 0, 0⟩)).1) 0) == (IntKind.i64.wrap (P 0 + 1))))], []⟩, Wk.ren [] rfl rfl (by decide) ⟨rfl, trivial⟩ trivial, ?_⟩
    refine gret ?_
    have e0 : ((((applyS P (⟨5, ss, 0, 0, 0, 0, 0⟩)).1) 0) == (IntKind.i64.wrap (P 0 + 1))) = true := by
     first | done | (rw [apply_err (by rw [hE]; decide)]; exact eqP_self _) | (rw [hE5, if_pos (by omega)]; rfl) | (rw [hV]; simp) | (rw [apply_ver (hE5.trans (if_neg (by omega)))]; simp)
    exact fin_ans [bv ((((applyS P (⟨5, ss, 0, 0, 0, 0, 0⟩)).1) 0) == (IntKind.i64.wrap (P 0 + 1)))] (resV_t rfl rfl) rfl (by rw [e0]; rfl) rfl rfl
   ·skip
    obtain ⟨hE, hS⟩ := moves_rot hM hs 0 0
    have hV := apply_ver hE
    refine seq_regs [(9, pv 0 0), (11, iv ss), (12, iv 6)] (by kernel_rfl) ?_
    refine gseq ?_
    refine greg ?_
    refine o_b 5 [(21, pv 2 0), (98, .agg #[iv 6, iv ss, iv 0, iv 0, iv 0, uv 0, uv 0]), (97, iv ss), (96, iv 6)] [cw (pl P), cw (entsL e2 ++ room zE m16), cw [iv 6, iv ss, iv 0, iv 0, iv 0, uv 0, uv 0]] (by kernel_rfl) ?_
    refine o_nil ?_
    refine seq_go ?_
    refine gseq ?_
    refine gseq ?_
    refine greg ?_
    refine o_d 2 [(100, bv false), (99, iv 6)] (by kernel_rfl) ?_
    refine o_nil ?_
    refine seq_go ?_
    refine gfalse rfl ?_
    refine gskip ?_
    refine seq_go ?_
    refine gseq ?_
    refine gseq ?_
    refine greg ?_
    refine o_d 2 [(105, bv true), (104, iv 6)] (by kernel_rfl) ?_
    refine o_nil ?_
    refine seq_go ?_
    refine gtrue rfl ?_
    refine greg ?_
    refine o_b 2 [(106, pv 2 1)] [cw (pl P), cw (entsL e2 ++ room zE m16), cw [iv 6, iv 0, iv 0, iv 0, iv 0, uv 0, uv 0]] (by kernel_rfl) ?_
    refine o_nil ?_
    refine seq_go ?_
    refine gseq ?_
    refine gdregD [cw (pl P), cw (entsL e2 ++ room zE m16), cw [iv 6, iv 0, iv 0, iv 0, iv 0, uv 0, uv 0], .gone, .gone, .gone, .gone, .gone, .gone, .gone] (by kernel_rfl) ?_
    refine d_n 13 13 10 [(119, pv 0 3), (118, iv ss), (117, sv 8 0 5 5), (116, pv 9 5), (115, iv 5), (114, iv 6), (113, sv 9 0 6 6), (112, sv 8 0 5 5), (111, sv 7 0 5 5), (110, sv 6 0 5 5), (109, sv 5 0 5 5), (108, sv 4 0 5 5), (107, sv 3 0 5 5)] [cw (pl P), cw (entsL e2 ++ room zE m16), cw [iv 6, iv 0, iv 0, iv 0, iv 0, uv 0, uv 0], cw [iv 1, iv (-1), iv (-1), iv (-1), iv (-1)], cw [iv (-1), iv 2, iv (-1), iv 2, iv (-1)], cw [iv (-1), iv (-1), iv 3, iv (-1), iv (-1)], cw [iv (-1), iv 4, iv (-1), iv 4, iv (-1)], cw [iv (-1), iv (-1), iv (-1), iv (-1), iv 0], cw [iv 0, iv 1, iv 2, iv 3, iv 4], cw [sv 3 0 5 5, sv 4 0 5 5, sv 5 0 5 5, sv 6 0 5 5, sv 7 0 5 5, sv 8 0 5 5]] [⟨10, [9], [], none⟩, ⟨6, [], [9], none⟩, ⟨5, [], [8], none⟩, ⟨4, [], [7], none⟩, ⟨3, [], [6], none⟩, ⟨2, [], [5], none⟩, ⟨1, [], [4], none⟩, ⟨0, [], [3], none⟩] (by kernel_rfl) rfl rfl ?_
    refine d_s rfl rfl rfl (by kernel_rfl) (by exact run_iadA (o := 3) (o' := 3 + 5 * ss.toNat) rfl rfl (by omega) (by omega)) ?_
    refine d_s rfl rfl rfl (by kernel_rfl) (by refine run_fad (o' := 3 + 5 * ss.toNat) rfl (by omega)) ?_
    refine d_s rfl rfl rfl (by kernel_rfl) (by refine run_ld (v := iv 4) rfl rfl ?_; exact (pl_r P (3 + 5 * ss.toNat) (by omega) (by omega)).trans (congrArg (fun x => some (iv x)) hM.cur)) ?_
    refine d_n 3 19 10 [(22, iv 4), (124, iv 4), (123, pv 8 4)] [cw (pl P), cw (entsL e2 ++ room zE m16), cw [iv 6, iv 0, iv 0, iv 0, iv 0, uv 0, uv 0], cw [iv 1, iv (-1), iv (-1), iv (-1), iv (-1)], cw [iv (-1), iv 2, iv (-1), iv 2, iv (-1)], cw [iv (-1), iv (-1), iv 3, iv (-1), iv (-1)], cw [iv (-1), iv 4, iv (-1), iv 4, iv (-1)], cw [iv (-1), iv (-1), iv (-1), iv (-1), iv 0], cw [iv 0, iv 1, iv 2, iv 3, iv 4], cw [sv 3 0 5 5, sv 4 0 5 5, sv 5 0 5 5, sv 6 0 5 5, sv 7 0 5 5, sv 8 0 5 5]] [⟨17, [8], [], none⟩, ⟨15, [0], [], none⟩, ⟨10, [9], [], none⟩, ⟨6, [], [9], none⟩, ⟨5, [], [8], none⟩, ⟨4, [], [7], none⟩, ⟨3, [], [6], none⟩, ⟨2, [], [5], none⟩, ⟨1, [], [4], none⟩, ⟨0, [], [3], none⟩] (by kernel_rfl) rfl rfl ?_
    refine d_nil ?_
    refine ⟨⟨reg [(22, iv 4), (21, pv 2 0), (9, pv 0 0), (11, iv ss), (12, iv 6)], [cw (pl P), cw (entsL e2 ++ room zE m16), cw [iv 6, iv 0, iv 0, iv 0, iv 0, uv 0, uv 0]]⟩, Wk.ren [0, 1, 2] rfl rfl (by decide) ⟨rfl, ⟨rfl, ⟨rfl, ⟨rfl, ⟨rfl, trivial⟩⟩⟩⟩⟩ ⟨.inl (ren_cells (pl_scl P)), ⟨.inl (ren_cells (entsR_scl e2 m16)), ⟨.inl rfl, trivial⟩⟩⟩, ?_⟩
    refine gseq ?_
    refine greg ?_
    refine o_s (by refine run_ld (v := poolV P) rfl rfl ?_; exact pl_all P) ?_
    refine o_d 1 [(127, .agg #[iv 6, iv 0, iv 0, iv 0, iv 0, uv 0, uv 0])] (by kernel_rfl) ?_
    refine o_cl (callV (ApplyC h_pool_Apply h_pool_may h_pool_held h_pool_fits h_pool_Check h_pool_placed h_cookie_Next P (⟨6, 0, 0, 0, 0, 0, 0⟩)) rfl (all_cons (poolV_vpf P) (all_cons rfl rfl)) (all_cons (poolV_aggf ((applyS P (⟨6, 0, 0, 0, 0, 0, 0⟩)).1)) (all_cons rfl rfl)) ?_)
    refine o_b 4 [(23, pv 3 0), (130, iv ((applyS P (⟨6, 0, 0, 0, 0, 0, 0⟩)).2)), (129, poolV ((applyS P (⟨6, 0, 0, 0, 0, 0, 0⟩)).1)), (125, .tuple #[poolV ((applyS P (⟨6, 0, 0, 0, 0, 0, 0⟩)).1), iv ((applyS P (⟨6, 0, 0, 0, 0, 0, 0⟩)).2)])] [cw (pl P), cw (entsL e2 ++ room zE m16), cw [iv 6, iv 0, iv 0, iv 0, iv 0, uv 0, uv 0], cw (pl zeroP)] (by kernel_rfl) ?_
    refine o_s0 (by refine run_st (c' := pl ((applyS P (⟨6, 0, 0, 0, 0, 0, 0⟩)).1)) rfl rfl rfl ?_ ?_ ?_; exact pl_length _; exact pl_le (by omega); exact splice_pl0 zeroP ((applyS P (⟨6, 0, 0, 0, 0, 0, 0⟩)).1)) ?_
    refine o_b 1 [(24, iv ((applyS P (⟨6, 0, 0, 0, 0, 0, 0⟩)).2))] [cw (pl P), cw (entsL e2 ++ room zE m16), cw [iv 6, iv 0, iv 0, iv 0, iv 0, uv 0, uv 0], cw (pl ((applyS P (⟨6, 0, 0, 0, 0, 0, 0⟩)).1))] (by kernel_rfl) ?_
    refine o_nil ?_
    refine seq_go ?_
    refine gseq ?_
    refine gseq ?_
    refine greg ?_
    refine o_d 2 [(132, bv false), (131, iv 4)] (by kernel_rfl) ?_
    refine o_nil ?_
    refine seq_go ?_
    refine gfalse rfl ?_
    refine gskip ?_
    refine seq_go ?_
    refine gseq ?_
    refine gseq ?_
    refine greg ?_
    refine o_d 10 [(149, bv false), (148, undef), (147, undef), (146, undef), (145, undef), (144, undef), (143, undef), (142, bv false), (141, bv false), (140, iv 6)] (by kernel_rfl) ?_
    refine o_nil ?_
    refine seq_go ?_
    refine gfalse rfl ?_
    refine gskip ?_
    refine seq_go ?_
    refine gseq ?_
    refine greg ?_
    refine o_d 3 [(154, bv (((applyS P (⟨6, 0, 0, 0, 0, 0, 0⟩)).2) == 0)), (153, bv (((applyS P (⟨6, 0, 0, 0, 0, 0, 0⟩)).2) == 0)), (152, iv ((applyS P (⟨6, 0, 0, 0, 0, 0, 0⟩)).2))] (by kernel_rfl) ?_
    refine o_sp (b := ((applyS P (⟨6, 0, 0, 0, 0, 0, 0⟩)).2) == 0) 154 rfl (fun k58 => ?_) (fun q => by rw [(by rw [hE]; rfl : (((applyS P (⟨6, 0, 0, 0, 0, 0, 0⟩)).2) == 0) = true)] at q; cases q)
    refine o_d 2 [(156, pv 3 3), (155, iv ss)] (by kernel_rfl) ?_
    refine o_unguard rfl ?_
    refine o_s (by exact run_iadA (o := 3) (o' := 3 + 5 * ss.toNat) rfl rfl (by omega) (by omega)) ?_
    refine o_unguard rfl ?_
    refine o_s (by refine run_fad (o' := 3 + 5 * ss.toNat) rfl (by omega)) ?_
    refine o_unguard rfl ?_
    refine o_s (by refine run_ld (v := iv (((applyS P (⟨6, 0, 0, 0, 0, 0, 0⟩)).1) (3 + 5 * ss.toNat))) rfl rfl ?_; exact pl_r ((applyS P (⟨6, 0, 0, 0, 0, 0, 0⟩)).1) (3 + 5 * ss.toNat) (by omega) (by omega)) ?_
    refine o_d 4 [(163, bv ((((applyS P (⟨6, 0, 0, 0, 0, 0, 0⟩)).1) (3 + 5 * ss.toNat)) == 4)), (162, bv ((((applyS P (⟨6, 0, 0, 0, 0, 0, 0⟩)).1) (3 + 5 * ss.toNat)) == 4)), (161, bv ((((applyS P (⟨6, 0, 0, 0, 0, 0, 0⟩)).1) (3 + 5 * ss.toNat)) == 4)), (160, iv 4)] (by kernel_rfl) ?_
    refine o_sp (b := (((applyS P (⟨6, 0, 0, 0, 0, 0, 0⟩)).1) (3 + 5 * ss.toNat)) == 4) 163 rfl (fun k59 => ?_) (fun q => by rw [(by rw [hS]; rfl : ((((applyS P (⟨6, 0, 0, 0, 0, 0, 0⟩)).1) (3 + 5 * ss.toNat)) == 4) = true)] at q; cases q)
    refine o_d 1 [(164, pv 3 0)] (by kernel_rfl) ?_
    refine o_unguard rfl ?_
    refine o_s (by refine run_ld (v := iv (((applyS P (⟨6, 0, 0, 0, 0, 0, 0⟩)).1) 0)) rfl rfl ?_; exact pl_r ((applyS P (⟨6, 0, 0, 0, 0, 0, 0⟩)).1) 0 rfl (by omega)) ?_
    refine o_d 1 [(166, pv 0 0)] (by kernel_rfl) ?_
    refine o_unguard rfl ?_
    refine o_s (by refine run_ld (v := iv (P 0)) rfl rfl ?_; exact pl_r P 0 rfl (by omega)) ?_
    refine o_d 4 [(8, bv ((((applyS P (⟨6, 0, 0, 0, 0, 0, 0⟩)).1) 0) == (IntKind.i64.wrap (P 0 + 1)))), (170, bv ((((applyS P (⟨6, 0, 0, 0, 0, 0, 0⟩)).1) 0) == (IntKind.i64.wrap (P 0 + 1)))), (169, bv ((((applyS P (⟨6, 0, 0, 0, 0, 0, 0⟩)).1) 0) == (IntKind.i64.wrap (P 0 + 1)))), (168, iv (IntKind.i64.wrap (P 0 + 1)))] (by kernel_rfl) ?_
    refine o_nil ?_
    refine ⟨⟨reg [(8, bv ((((applyS P (⟨6, 0, 0, 0, 0, 0, 0⟩)).1) 0) == (IntKind.i64.wrap (P 0 + 1))))], []⟩, Wk.ren [] rfl rfl (by decide) ⟨rfl, trivial⟩ trivial, ?_⟩
    refine gret ?_
    have e0 : ((((applyS P (⟨6, 0, 0, 0, 0, 0, 0⟩)).1) 0) == (IntKind.i64.wrap (P 0 + 1))) = true := by
     first | done | (rw [apply_err (by rw [hE]; decide)]; exact eqP_self _) | (rw [hE5, if_pos (by omega)]; rfl) | (rw [hV]; simp) | (rw [apply_ver (hE5.trans (if_neg (by omega)))]; simp)
    exact fin_ans [bv ((((applyS P (⟨6, 0, 0, 0, 0, 0, 0⟩)).1) 0) == (IntKind.i64.wrap (P 0 + 1)))] (resV_t rfl rfl) rfl (by rw [e0]; rfl) rfl rfl
end Go.Rh
