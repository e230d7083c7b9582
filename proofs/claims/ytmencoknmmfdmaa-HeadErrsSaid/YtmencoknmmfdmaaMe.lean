/- The proofs over the intermediate form, part Me. -/
import Derived.Test.YtmencoknmmfdmaaMd
import Derived.Test.YtmencoknmmfdmaaMc
set_option linter.unusedSimpArgs false
set_option linter.unusedVariables false
set_option maxRecDepth 100000
set_option maxHeartbeats 8000000
namespace Go.Rh
theorem upd_eq (c : Flat) (i : Nat) (v : Int) : upd c i v i = v := by simp [upd]
theorem upd_ne (c : Flat) {i k : Nat} (v : Int) (h : k ≠ i) : upd c i v k = c k := by simp [upd, h]
theorem setSlot_0 (d : Flat) (k : Nat) (x : Int) : setSlot d k x (d (3 + 5 * k + 1)) (d (3 + 5 * k + 2)) (d (3 + 5 * k + 3)) (d (3 + 5 * k + 4)) = upd d (3 + 5 * k) x := by
  funext i; simp only [setSlot, upd]; repeat' split
  all_goals first | rfl | (subst_vars; first | rfl | omega)
theorem setSlot_04 (d : Flat) (k : Nat) (x y : Int) : setSlot d k x (d (3 + 5 * k + 1)) (d (3 + 5 * k + 2)) (d (3 + 5 * k + 3)) y = upd (upd d (3 + 5 * k) x) (3 + 5 * k + 4) y := by
  funext i; simp only [setSlot, upd]; repeat' split
  all_goals first | rfl | (subst_vars; first | rfl | omega)
theorem setSlot_5 (d : Flat) (k : Nat) : setSlot d k (d (3 + 5 * k)) (d (3 + 5 * k + 1)) (d (3 + 5 * k + 2)) (d (3 + 5 * k + 3)) (d (3 + 5 * k + 4)) = d := by
  funext i; simp only [setSlot, upd]; repeat' split
  all_goals first | rfl | (subst_vars; first | rfl | omega)
theorem setSlot_id {d : Flat} {k : Nat} {x0 x1 x2 x3 x4 : Int} (h0 : x0 = d (3 + 5 * k)) (h1 : x1 = d (3 + 5 * k + 1)) (h2 : x2 = d (3 + 5 * k + 2)) (h3 : x3 = d (3 + 5 * k + 3)) (h4 : x4 = d (3 + 5 * k + 4)) : setSlot d k x0 x1 x2 x3 x4 = d := by
  subst h0 h1 h2 h3 h4; exact setSlot_5 d k
theorem ring_low (c : Flat) (x0 x1 x2 x3 x4 x5 x6 : Int) {i : Nat} (h : i < 323) : upd (upd (upd (upd (upd (upd (upd c 323 x0) 324 x1) 325 x2) 326 x3) 327 x4) 328 x5) 329 x6 i = c i := by
  simp only [upd]; rw [if_neg (by omega), if_neg (by omega), if_neg (by omega), if_neg (by omega), if_neg (by omega), if_neg (by omega), if_neg (by omega)]
theorem check_s {e : Ent} (h : ¬ (checkS e ≠ 0)) : 0 ≤ e.s ∧ e.s < 64 := by
  have h1 : checkS e = 0 := Decidable.of_not_not h
  unfold checkS at h1
  split at h1
  · cases h1
  · split at h1
    · cases h1
    · omega
theorem check_k {e : Ent} (h : ¬ (checkS e ≠ 0)) : 1 ≤ e.k ∧ e.k ≤ 6 := by
  have h1 : checkS e = 0 := Decidable.of_not_not h
  unfold checkS at h1
  split at h1
  · cases h1
  · omega
theorem refRingC {P : Program} (hc : codeOf P "roundhouse/roundhouseref5.Ring" = some c_ref5_Ring) (x a1 b1 a2 b2 a3 b3 : Int) :
    Env P "roundhouse/roundhouseref5.Ring" [iv x, sv 0 0 3 3] (roL [[uv a1, uv b1, uv a2, uv b2, uv a3, uv b3]]) (Ans (.agg #[iv x, uv a1, uv b1, uv a2, uv b2, uv a3, uv b3]) (roL [[uv a1, uv b1, uv a2, uv b2, uv a3, uv b3]])) := by
  refine Env.by hc ?_
  unfold c_ref5_Ring
  show GC _ 1 _ _ ⟨reg [(0, iv x), (1, sv 0 0 3 3)], [cr [uv a1, uv b1, uv a2, uv b2, uv a3, uv b3]]⟩
  refine gseq ?_
  refine greg ?_
  refine o_b 1 [(4, pv 1 0)] [cr [uv a1, uv b1, uv a2, uv b2, uv a3, uv b3], cw [iv 0, uv 0, uv 0, uv 0, uv 0, uv 0, uv 0]] (by kernel_rfl) ?_
  refine o_nil ?_
  refine seq_go ?_
  refine gseq ?_
  refine greg ?_
  refine o_b 1 [(5, pv 2 0)] [cr [uv a1, uv b1, uv a2, uv b2, uv a3, uv b3], cw [iv 0, uv 0, uv 0, uv 0, uv 0, uv 0, uv 0], cw [uv 0, uv 0, uv 0, uv 0, uv 0, uv 0]] (by kernel_rfl) ?_
  refine o_nil ?_
  refine seq_go ?_
  refine gseq ?_
  refine gseq ?_
  refine greg ?_
  refine o_d 1 [(6, iv 0)] (by kernel_rfl) ?_
  refine o_nil ?_
  refine seq_go ?_
  refine gblock ?_
  refine gloop (fun μ s => (μ = 3 ∧ s = ⟨reg [(6, iv 0), (5, pv 2 0), (4, pv 1 0), (0, iv x), (1, sv 0 0 3 3)], [cr [uv a1, uv b1, uv a2, uv b2, uv a3, uv b3], cw [iv 0, uv 0, uv 0, uv 0, uv 0, uv 0, uv 0], cw [uv 0, uv 0, uv 0, uv 0, uv 0, uv 0]]⟩) ∨ (μ = 2 ∧ s = ⟨reg [(6, iv 1), (5, pv 2 0), (4, pv 1 0), (0, iv x), (1, sv 0 0 3 3)], [cr [uv a1, uv b1, uv a2, uv b2, uv a3, uv b3], cw [iv 0, uv 0, uv 0, uv 0, uv 0, uv 0, uv 0], cw [uv a1, uv b1, uv 0, uv 0, uv 0, uv 0]]⟩) ∨ (μ = 1 ∧ s = ⟨reg [(6, iv 2), (5, pv 2 0), (4, pv 1 0), (0, iv x), (1, sv 0 0 3 3)], [cr [uv a1, uv b1, uv a2, uv b2, uv a3, uv b3], cw [iv 0, uv 0, uv 0, uv 0, uv 0, uv 0, uv 0], cw [uv a1, uv b1, uv a2, uv b2, uv 0, uv 0]]⟩) ∨ (μ = 0 ∧ s = ⟨reg [(6, iv 3), (5, pv 2 0), (4, pv 1 0), (0, iv x), (1, sv 0 0 3 3)], [cr [uv a1, uv b1, uv a2, uv b2, uv a3, uv b3], cw [iv 0, uv 0, uv 0, uv 0, uv 0, uv 0, uv 0], cw [uv a1, uv b1, uv a2, uv b2, uv a3, uv b3]]⟩)) ⟨3, ?_⟩ ?_
  · skip
    refine ⟨⟨reg [(6, iv 0), (5, pv 2 0), (4, pv 1 0), (0, iv x), (1, sv 0 0 3 3)], [cr [uv a1, uv b1, uv a2, uv b2, uv a3, uv b3], cw [iv 0, uv 0, uv 0, uv 0, uv 0, uv 0, uv 0], cw [uv 0, uv 0, uv 0, uv 0, uv 0, uv 0]]⟩, ?_⟩
    refine ⟨?_, ?_⟩
    · exact Wk.ren [0, 1, 2] rfl rfl (by decide) ⟨rfl, ⟨rfl, ⟨rfl, ⟨rfl, ⟨rfl, trivial⟩⟩⟩⟩⟩ ⟨.inl rfl, ⟨.inl rfl, ⟨.inl rfl, trivial⟩⟩⟩
    · exact .inl ⟨rfl, rfl⟩
  · rintro μ s (⟨rfl, rfl⟩ | ⟨rfl, rfl⟩ | ⟨rfl, rfl⟩ | ⟨rfl, rfl⟩)
    · skip
      refine gseq ?_
      refine gseq ?_
      refine greg ?_
      refine o_d 8 [(14, bv true), (13, bv true), (12, iv 0), (11, bv true), (10, bv true), (9, iv 3), (8, sv 0 0 3 3), (7, iv 0)] (by kernel_rfl) ?_
      refine o_nil ?_
      refine seq_go ?_
      refine gtrue rfl ?_
      refine gskip ?_
      refine seq_go ?_
      refine gseq ?_
      refine gblock ?_
      refine greg ?_
      refine o_b 7 [(22, pv 2 0), (21, .agg #[uv a1, uv b1]), (20, pv 0 0), (19, iv 0), (18, sv 0 0 3 3), (17, iv 0)] [cr [uv a1, uv b1, uv a2, uv b2, uv a3, uv b3], cw [iv 0, uv 0, uv 0, uv 0, uv 0, uv 0, uv 0], cw [uv a1, uv b1, uv 0, uv 0, uv 0, uv 0]] (by kernel_rfl) ?_
      refine o_nil ?_
      refine seq_go ?_
      refine greg ?_
      refine o_d 3 [(6, iv 1), (16, iv 1), (15, iv 0)] (by kernel_rfl) ?_
      refine o_nil ?_
      refine ⟨2, ?_⟩
      refine ⟨⟨reg [(6, iv 1), (5, pv 2 0), (4, pv 1 0), (0, iv x), (1, sv 0 0 3 3)], [cr [uv a1, uv b1, uv a2, uv b2, uv a3, uv b3], cw [iv 0, uv 0, uv 0, uv 0, uv 0, uv 0, uv 0], cw [uv a1, uv b1, uv 0, uv 0, uv 0, uv 0]]⟩, ?_⟩
      refine and3 (by decide) ⟨?_, ?_⟩
      · exact Wk.ren [0, 1, 2] rfl rfl (by decide) ⟨rfl, ⟨rfl, ⟨rfl, ⟨rfl, ⟨rfl, trivial⟩⟩⟩⟩⟩ ⟨.inl rfl, ⟨.inl rfl, ⟨.inl rfl, trivial⟩⟩⟩
      · exact .inr (.inl ⟨rfl, rfl⟩)
    · skip
      refine gseq ?_
      refine gseq ?_
      refine greg ?_
      refine o_d 8 [(14, bv true), (13, bv true), (12, iv 1), (11, bv true), (10, bv true), (9, iv 3), (8, sv 0 0 3 3), (7, iv 1)] (by kernel_rfl) ?_
      refine o_nil ?_
      refine seq_go ?_
      refine gtrue rfl ?_
      refine gskip ?_
      refine seq_go ?_
      refine gseq ?_
      refine gblock ?_
      refine greg ?_
      refine o_b 7 [(22, pv 2 2), (21, .agg #[uv a2, uv b2]), (20, pv 0 2), (19, iv 1), (18, sv 0 0 3 3), (17, iv 1)] [cr [uv a1, uv b1, uv a2, uv b2, uv a3, uv b3], cw [iv 0, uv 0, uv 0, uv 0, uv 0, uv 0, uv 0], cw [uv a1, uv b1, uv a2, uv b2, uv 0, uv 0]] (by kernel_rfl) ?_
      refine o_nil ?_
      refine seq_go ?_
      refine greg ?_
      refine o_d 3 [(6, iv 2), (16, iv 2), (15, iv 1)] (by kernel_rfl) ?_
      refine o_nil ?_
      refine ⟨1, ?_⟩
      refine ⟨⟨reg [(6, iv 2), (5, pv 2 0), (4, pv 1 0), (0, iv x), (1, sv 0 0 3 3)], [cr [uv a1, uv b1, uv a2, uv b2, uv a3, uv b3], cw [iv 0, uv 0, uv 0, uv 0, uv 0, uv 0, uv 0], cw [uv a1, uv b1, uv a2, uv b2, uv 0, uv 0]]⟩, ?_⟩
      refine and3 (by decide) ⟨?_, ?_⟩
      · exact Wk.ren [0, 1, 2] rfl rfl (by decide) ⟨rfl, ⟨rfl, ⟨rfl, ⟨rfl, ⟨rfl, trivial⟩⟩⟩⟩⟩ ⟨.inl rfl, ⟨.inl rfl, ⟨.inl rfl, trivial⟩⟩⟩
      · exact .inr (.inr (.inl ⟨rfl, rfl⟩))
    · skip
      refine gseq ?_
      refine gseq ?_
      refine greg ?_
      refine o_d 8 [(14, bv true), (13, bv true), (12, iv 2), (11, bv true), (10, bv true), (9, iv 3), (8, sv 0 0 3 3), (7, iv 2)] (by kernel_rfl) ?_
      refine o_nil ?_
      refine seq_go ?_
      refine gtrue rfl ?_
      refine gskip ?_
      refine seq_go ?_
      refine gseq ?_
      refine gblock ?_
      refine greg ?_
      refine o_b 7 [(22, pv 2 4), (21, .agg #[uv a3, uv b3]), (20, pv 0 4), (19, iv 2), (18, sv 0 0 3 3), (17, iv 2)] [cr [uv a1, uv b1, uv a2, uv b2, uv a3, uv b3], cw [iv 0, uv 0, uv 0, uv 0, uv 0, uv 0, uv 0], cw [uv a1, uv b1, uv a2, uv b2, uv a3, uv b3]] (by kernel_rfl) ?_
      refine o_nil ?_
      refine seq_go ?_
      refine greg ?_
      refine o_d 3 [(6, iv 3), (16, iv 3), (15, iv 2)] (by kernel_rfl) ?_
      refine o_nil ?_
      refine ⟨0, ?_⟩
      refine ⟨⟨reg [(6, iv 3), (5, pv 2 0), (4, pv 1 0), (0, iv x), (1, sv 0 0 3 3)], [cr [uv a1, uv b1, uv a2, uv b2, uv a3, uv b3], cw [iv 0, uv 0, uv 0, uv 0, uv 0, uv 0, uv 0], cw [uv a1, uv b1, uv a2, uv b2, uv a3, uv b3]]⟩, ?_⟩
      refine and3 (by decide) ⟨?_, ?_⟩
      · exact Wk.ren [0, 1, 2] rfl rfl (by decide) ⟨rfl, ⟨rfl, ⟨rfl, ⟨rfl, ⟨rfl, trivial⟩⟩⟩⟩⟩ ⟨.inl rfl, ⟨.inl rfl, ⟨.inl rfl, trivial⟩⟩⟩
      · exact .inr (.inr (.inr (⟨rfl, rfl⟩)))
    · skip
      refine gseq ?_
      refine gseq ?_
      refine greg ?_
      refine o_d 8 [(14, bv false), (13, undef), (12, undef), (11, bv false), (10, bv false), (9, iv 3), (8, sv 0 0 3 3), (7, iv 3)] (by kernel_rfl) ?_
      refine o_nil ?_
      refine seq_go ?_
      refine gfalse rfl ?_
      refine gexit ?_
      refine seq_go ?_
      refine gseq ?_
      refine greg ?_
      refine o_b 9 [(30, .agg #[iv x, uv a1, uv b1, uv a2, uv b2, uv a3, uv b3]), (29, .agg #[uv a3, uv b3]), (28, pv 2 4), (27, .agg #[uv a2, uv b2]), (26, pv 2 2), (25, .agg #[uv a1, uv b1]), (24, pv 2 0), (23, iv x)] [cr [uv a1, uv b1, uv a2, uv b2, uv a3, uv b3], cw [iv x, uv a1, uv b1, uv a2, uv b2, uv a3, uv b3], cw [uv a1, uv b1, uv a2, uv b2, uv a3, uv b3]] (by kernel_rfl) ?_
      refine o_nil ?_
      refine seq_go ?_
      refine gret ?_
      exact fin_ans [.agg #[iv x, uv a1, uv b1, uv a2, uv b2, uv a3, uv b3]] (resV_c rfl rfl rfl rfl) rfl (by rfl) rfl rfl
theorem refHeldC {P : Program} (hc : codeOf P "roundhouse/roundhouseref6.Held" = some c_ref6_Held) (c : Flat) (a p : Int) :
    Env P "roundhouse/roundhouseref6.Held" [poolV c, iv a, iv p] ([]) (Ans (.bool (heldS c a p)) ([])) := by
  refine Env.by hc ?_
  unfold c_ref6_Held
  show GC _ 0 _ _ ⟨reg [(0, poolV c), (1, iv a), (2, iv p)], []⟩
  refine gseq ?_
  refine greg ?_
  refine o_b 2 [(6, bv false), (3, pv 0 0)] [cw (pl c)] (by kernel_rfl) ?_
  refine o_nil ?_
  refine seq_go ?_
  refine gseq ?_
  refine gseq ?_
  refine greg ?_
  refine o_d 1 [(7, iv 0)] (by kernel_rfl) ?_
  refine o_nil ?_
  refine seq_go ?_
  refine gblock ?_
  refine gloop (fun μ s => ∃ (i : Nat), μ = 64 - i ∧ (i ≤ 64) ∧ (heldTo c a p i = false) ∧ s = ⟨reg [(7, iv (i : Int)), (3, pv 0 0), (1, iv a), (2, iv p)], [cw (pl c)]⟩) ⟨(64 - 0), ?_⟩ ?_
  · skip
    refine ⟨⟨reg [(7, iv (0 : Int)), (3, pv 0 0), (1, iv a), (2, iv p)], [cw (pl c)]⟩, ?_⟩
    refine ⟨?_, ?_⟩
    · exact Wk.ren [0] rfl rfl (by decide) ⟨rfl, ⟨rfl, ⟨rfl, ⟨rfl, trivial⟩⟩⟩⟩ ⟨.inl (ren_cells (pl_scl c)), trivial⟩
    · exact ⟨0, rfl, by omega, rfl, rfl⟩
  rintro μ s ⟨i, rfl, hi, hto, rfl⟩
  refine gseq ?_
  refine gseq ?_
  refine greg ?_
  refine o_d 2 [(10, bv (decide ((i : Int) < 64))), (9, iv (i : Int))] (by kernel_rfl) ?_
  refine o_nil ?_
  refine seq_go ?_
  refine gcond (t := decide ((i : Int) < 64)) rfl (fun h1 => ?_) (fun h1 => ?_)
  · skip
    have h1' : (i : Int) < 64 := of_decide_eq_true h1
    refine gskip ?_
    refine seq_go ?_
    refine gseq ?_
    refine gblock ?_
    refine gseq ?_
    refine greg ?_
    refine o_d 2 [(14, pv 0 3), (13, iv (i : Int))] (by kernel_rfl) ?_
    refine o_s (by exact run_iadA (o := 3) (o' := 3 + 5 * i) rfl rfl (by omega) (by omega)) ?_
    refine o_s (by refine run_ld (v := .agg #[iv (c (3 + 5 * i)), iv (c (3 + 5 * i + 1)), iv (c (3 + 5 * i + 2)), iv (c (3 + 5 * i + 3)), iv (c (3 + 5 * i + 4))]) rfl rfl ?_; exact pl_rS c i (by omega) (by omega)) ?_
    refine o_b 2 [(8, pv 1 0)] [cw (pl c), cw [iv (c (3 + 5 * i)), iv (c (3 + 5 * i + 1)), iv (c (3 + 5 * i + 2)), iv (c (3 + 5 * i + 3)), iv (c (3 + 5 * i + 4))]] (by kernel_rfl) ?_
    refine o_nil ?_
    refine seq_go ?_
    refine gseq ?_
    refine greg ?_
    refine o_d 4 [(20, bv ((c (3 + 5 * i)) != 0)), (19, bv ((c (3 + 5 * i)) != 0)), (18, iv (c (3 + 5 * i))), (17, pv 1 0)] (by kernel_rfl) ?_
    refine o_sp (b := (c (3 + 5 * i)) != 0) 20 rfl (fun h2 => ?_) (fun h2 => ?_)
    · skip
      have h2' : c (3 + 5 * i) ≠ 0 := neI_t h2
      refine o_d 6 [(26, bv ((c (3 + 5 * i + 1)) == a)), (25, bv ((c (3 + 5 * i + 1)) == a)), (24, bv ((c (3 + 5 * i + 1)) == a)), (23, iv a), (22, iv (c (3 + 5 * i + 1))), (21, pv 1 1)] (by kernel_rfl) ?_
      refine o_sp (b := (c (3 + 5 * i + 1)) == a) 26 rfl (fun h3 => ?_) (fun h3 => ?_)
      · skip
        have h3' : c (3 + 5 * i + 1) = a := eqI_t h3
        refine o_d 5 [(31, bv ((c (3 + 5 * i + 2)) == p)), (30, bv ((c (3 + 5 * i + 2)) == p)), (29, iv p), (28, iv (c (3 + 5 * i + 2))), (27, pv 1 2)] (by kernel_rfl) ?_
        refine o_nil ?_
        refine seq_regs [(31, bv ((c (3 + 5 * i + 2)) == p)), (7, iv (i : Int)), (3, pv 0 0), (1, iv a), (2, iv p)] (by kernel_rfl) ?_
        refine gcond (t := (c (3 + 5 * i + 2)) == p) rfl (fun h4 => ?_) (fun h4 => ?_)
        · skip
          have h4' : c (3 + 5 * i + 2) = p := eqI_t h4
          refine gseq ?_
          refine greg ?_
          refine o_d 1 [(6, bv true)] (by kernel_rfl) ?_
          refine o_nil ?_
          refine seq_go ?_
          refine gret ?_
          have E0_ : heldS c a p = true := by
            simp [heldS, heldTo_of c a p (i := i) (n := 64) (by omega) (by simp [slotHas, h1, h1', h2, h2', h3, h3', h4, h4'])]
          exact fin_ans [bv true] (resV_t rfl rfl) rfl (by rw [E0_]; rfl) rfl rfl
        have h4' : ¬ (c (3 + 5 * i + 2) = p) := eqI_f h4
        refine gskip ?_
        refine seq_go ?_
        refine greg ?_
        refine o_d 1 [(11, iv (i : Int))] (by kernel_rfl) ?_
        refine o_s (by refine run_val (v := .int .i64 (IntKind.i64.wrap ((i : Int) + 1))) (congrArg (Value.int .i64) (w64 (by omega) (by omega))) ?_; kernel_rfl) ?_
        refine o_d 1 [(7, iv ((i : Int) + 1))] (by kernel_rfl) ?_
        refine o_nil ?_
        refine ⟨64 - (i + 1), ?_⟩
        refine ⟨⟨reg [(7, iv ((i + 1) : Int)), (3, pv 0 0), (1, iv a), (2, iv p)], [cw (pl c)]⟩, ?_⟩
        refine and3 (by omega) ⟨?_, ?_⟩
        · exact Wk.ren [0] rfl rfl (by decide) ⟨rfl, ⟨rfl, ⟨rfl, ⟨rfl, trivial⟩⟩⟩⟩ ⟨.inl (ren_cells (pl_scl c)), trivial⟩
        · exact ⟨(i + 1), rfl, by omega, (by simp [heldTo, hto, slotHas, h1, h1', h2, h2', h3, h3', h4, h4']), rfl⟩
      have h3' : ¬ (c (3 + 5 * i + 1) = a) := eqI_f h3
      refine o_d 5 [(31, bv false), (30, undef), (29, undef), (28, undef), (27, undef)] (by kernel_rfl) ?_
      refine o_nil ?_
      refine seq_regs [(31, bv false), (7, iv (i : Int)), (3, pv 0 0), (1, iv a), (2, iv p)] (by kernel_rfl) ?_
      refine gfalse rfl ?_
      refine gskip ?_
      refine seq_go ?_
      refine greg ?_
      refine o_d 1 [(11, iv (i : Int))] (by kernel_rfl) ?_
      refine o_s (by refine run_val (v := .int .i64 (IntKind.i64.wrap ((i : Int) + 1))) (congrArg (Value.int .i64) (w64 (by omega) (by omega))) ?_; kernel_rfl) ?_
      refine o_d 1 [(7, iv ((i : Int) + 1))] (by kernel_rfl) ?_
      refine o_nil ?_
      refine ⟨64 - (i + 1), ?_⟩
      refine ⟨⟨reg [(7, iv ((i + 1) : Int)), (3, pv 0 0), (1, iv a), (2, iv p)], [cw (pl c)]⟩, ?_⟩
      refine and3 (by omega) ⟨?_, ?_⟩
      · exact Wk.ren [0] rfl rfl (by decide) ⟨rfl, ⟨rfl, ⟨rfl, ⟨rfl, trivial⟩⟩⟩⟩ ⟨.inl (ren_cells (pl_scl c)), trivial⟩
      · exact ⟨(i + 1), rfl, by omega, (by simp [heldTo, hto, slotHas, h1, h1', h2, h2', h3, h3']), rfl⟩
    have h2' : ¬ (c (3 + 5 * i) ≠ 0) := neI_f h2
    refine o_d 11 [(31, bv false), (30, undef), (29, undef), (28, undef), (27, undef), (26, bv false), (25, bv false), (24, undef), (23, undef), (22, undef), (21, undef)] (by kernel_rfl) ?_
    refine o_nil ?_
    refine seq_regs [(31, bv false), (7, iv (i : Int)), (3, pv 0 0), (1, iv a), (2, iv p)] (by kernel_rfl) ?_
    refine gfalse rfl ?_
    refine gskip ?_
    refine seq_go ?_
    refine greg ?_
    refine o_d 1 [(11, iv (i : Int))] (by kernel_rfl) ?_
    refine o_s (by refine run_val (v := .int .i64 (IntKind.i64.wrap ((i : Int) + 1))) (congrArg (Value.int .i64) (w64 (by omega) (by omega))) ?_; kernel_rfl) ?_
    refine o_d 1 [(7, iv ((i : Int) + 1))] (by kernel_rfl) ?_
    refine o_nil ?_
    refine ⟨64 - (i + 1), ?_⟩
    refine ⟨⟨reg [(7, iv ((i + 1) : Int)), (3, pv 0 0), (1, iv a), (2, iv p)], [cw (pl c)]⟩, ?_⟩
    refine and3 (by omega) ⟨?_, ?_⟩
    · exact Wk.ren [0] rfl rfl (by decide) ⟨rfl, ⟨rfl, ⟨rfl, ⟨rfl, trivial⟩⟩⟩⟩ ⟨.inl (ren_cells (pl_scl c)), trivial⟩
    · exact ⟨(i + 1), rfl, by omega, (by simp [heldTo, hto, slotHas, h1, h1', h2, h2']), rfl⟩
  have h1' : ¬ ((i : Int) < 64) := of_decide_eq_false h1
  refine gexit ?_
  refine seq_go ?_
  refine gseq ?_
  refine greg ?_
  refine o_d 1 [(32, pv 0 1)] (by kernel_rfl) ?_
  refine o_s (by refine run_ld (v := iv (c 1)) rfl rfl ?_; exact pl_r c 1 rfl (by omega)) ?_
  refine o_d 3 [(36, bv ((c 1) == a)), (35, bv ((c 1) == a)), (34, iv a)] (by kernel_rfl) ?_
  refine o_sp (b := (c 1) == a) 36 rfl (fun h5 => ?_) (fun h5 => ?_)
  · skip
    have h5' : c 1 = a := eqI_t h5
    refine o_d 1 [(37, pv 0 2)] (by kernel_rfl) ?_
    refine o_unguard rfl ?_
    refine o_s (by refine run_ld (v := iv (c 2)) rfl rfl ?_; exact pl_r c 2 rfl (by omega)) ?_
    refine o_d 4 [(6, bv ((c 2) == p)), (41, bv ((c 2) == p)), (40, bv ((c 2) == p)), (39, iv p)] (by kernel_rfl) ?_
    refine o_nil ?_
    refine seq_go ?_
    refine gret ?_
    have E0_ : heldS c a p = ((c 2) == p) := by
      have hi' : i = 64 := by omega
      subst hi'
      simp [heldS, hto, h1, h1', h5, h5'] <;> rfl
    exact fin_ans [bv ((c 2) == p)] (resV_t rfl rfl) rfl (by rw [E0_]; rfl) rfl rfl
  have h5' : ¬ (c 1 = a) := eqI_f h5
  refine o_d 6 [(6, bv false), (41, bv false), (40, undef), (39, undef), (38, undef), (37, undef)] (by kernel_rfl) ?_
  refine o_nil ?_
  refine seq_go ?_
  refine gret ?_
  have E0_ : heldS c a p = false := by
    have hi' : i = 64 := by omega
    subst hi'
    simp [heldS, hto, h1, h1', h5, h5'] <;> rfl
  exact fin_ans [bv false] (resV_t rfl rfl) rfl (by rw [E0_]; rfl) rfl rfl
theorem refBadC {P : Program} (hc : codeOf P "roundhouse/roundhouseref6.bad" = some c_ref6_bad) (h_ref6_Held : codeOf P "roundhouse/roundhouseref6.Held" = some c_ref6_Held) (c : Flat) (e : Ent) (hs : 0 ≤ e.s ∧ e.s < 64) :
    Env P "roundhouse/roundhouseref6.bad" [poolV c, .agg #[iv e.k, iv e.s, iv e.a, iv e.p, iv e.g, uv e.ka, uv e.kb]] ([]) (Ans (.bool (badS c e)) ([])) := by
  refine Env.by hc ?_
  unfold c_ref6_bad
  show GC _ 0 _ _ ⟨reg [(0, poolV c), (1, .agg #[iv e.k, iv e.s, iv e.a, iv e.p, iv e.g, uv e.ka, uv e.kb])], []⟩
  refine gseq ?_
  refine greg ?_
  refine o_b 3 [(4, bv false), (3, pv 1 0), (2, pv 0 0)] [cw (pl c), cw [iv e.k, iv e.s, iv e.a, iv e.p, iv e.g, uv e.ka, uv e.kb]] (by kernel_rfl) ?_
  refine o_nil ?_
  refine seq_go ?_
  refine gseq ?_
  refine greg ?_
  refine o_d 3 [(8, pv 0 3), (7, iv e.s), (6, pv 1 1)] (by kernel_rfl) ?_
  refine o_s (by exact run_iadA (o := 3) (o' := 3 + 5 * e.s.toNat) rfl rfl (by omega) (by omega)) ?_
  refine o_s (by refine run_fad (o' := 3 + 5 * e.s.toNat) rfl (by omega)) ?_
  refine o_s (by refine run_ld (v := iv (c (3 + 5 * e.s.toNat))) rfl rfl ?_; exact pl_r c (3 + 5 * e.s.toNat) (by omega) (by omega)) ?_
  refine o_d 1 [(5, iv (c (3 + 5 * e.s.toNat)))] (by kernel_rfl) ?_
  refine o_nil ?_
  refine seq_go ?_
  refine gseq ?_
  refine gseq ?_
  refine greg ?_
  refine o_d 2 [(13, iv e.k), (12, pv 1 0)] (by kernel_rfl) ?_
  refine o_nil ?_
  refine seq_go ?_
  refine gblock ?_
  refine gseq ?_
  refine greg ?_
  refine o_d 2 [(14, bv (e.k == 1)), (15, bv (e.k == 1))] (by kernel_rfl) ?_
  refine o_nil ?_
  refine seq_go ?_
  refine gcond (t := e.k == 1) rfl (fun h1 => ?_) (fun h1 => ?_)
  · skip
    have h1' : e.k = 1 := eqI_t h1
    refine gseq ?_
    refine greg ?_
    refine o_d 3 [(18, bv ((c (3 + 5 * e.s.toNat)) != 0)), (17, bv ((c (3 + 5 * e.s.toNat)) != 0)), (16, iv (c (3 + 5 * e.s.toNat)))] (by kernel_rfl) ?_
    refine o_sp (b := (c (3 + 5 * e.s.toNat)) != 0) 18 rfl (fun h2 => ?_) (fun h2 => ?_)
    · skip
      have h2' : c (3 + 5 * e.s.toNat) ≠ 0 := neI_t h2
      refine o_d 8 [(4, bv true), (25, bv true), (24, undef), (23, undef), (22, undef), (21, undef), (20, undef), (19, undef)] (by kernel_rfl) ?_
      refine o_nil ?_
      refine seq_regs [(4, bv true)] (by kernel_rfl) ?_
      refine gret ?_
      have E0_ : badS c e = true := by
        first | (simp [badS, h1, h1', h2, h2']; done) | (simp [badS, h1, h1', h2, h2'] <;> rfl) | (rw [Bool.eq_iff_iff]; simp [badS, h1, h1', h2, h2']; done) | (rw [Bool.eq_iff_iff]; simp [badS, h1, h1', h2, h2']; omega) | (simp [badS, h1, h1', h2, h2']; omega)
      exact fin_ans [bv true] (resV_t rfl rfl) rfl (by rw [E0_]; rfl) rfl rfl
    have h2' : ¬ (c (3 + 5 * e.s.toNat) ≠ 0) := neI_f h2
    refine o_unguard rfl ?_
    refine o_s (by refine run_ld (v := poolV c) rfl rfl ?_; exact pl_all c) ?_
    refine o_d 4 [(23, iv e.p), (22, pv 1 3), (21, iv e.a), (20, pv 1 2)] (by kernel_rfl) ?_
    refine o_unguard rfl ?_
    refine o_cl (callV (refHeldC h_ref6_Held c e.a e.p) rfl (all_cons (poolV_vpf c) (all_cons rfl (all_cons rfl rfl))) rfl ?_)
    refine o_d 2 [(4, bv (heldS c e.a e.p)), (25, bv (heldS c e.a e.p))] (by kernel_rfl) ?_
    refine o_nil ?_
    refine seq_regs [(4, bv (heldS c e.a e.p))] (by kernel_rfl) ?_
    refine gret ?_
    have E0_ : badS c e = (heldS c e.a e.p) := by
      first | (simp [badS, h1, h1', h2, h2']; done) | (simp [badS, h1, h1', h2, h2'] <;> rfl) | (rw [Bool.eq_iff_iff]; simp [badS, h1, h1', h2, h2']; done) | (rw [Bool.eq_iff_iff]; simp [badS, h1, h1', h2, h2']; omega) | (simp [badS, h1, h1', h2, h2']; omega)
    exact fin_ans [bv (heldS c e.a e.p)] (resV_t rfl rfl) rfl (by rw [E0_]; rfl) rfl rfl
  have h1' : ¬ (e.k = 1) := eqI_f h1
  refine gseq ?_
  refine gseq ?_
  refine greg ?_
  refine o_d 2 [(26, bv (e.k == 2)), (27, bv (e.k == 2))] (by kernel_rfl) ?_
  refine o_nil ?_
  refine seq_go ?_
  refine gcond (t := e.k == 2) rfl (fun h3 => ?_) (fun h3 => ?_)
  · skip
    have h3' : e.k = 2 := eqI_t h3
    refine gskip ?_
    refine seq_go ?_
    refine gcond (t := e.k == 2) rfl (fun _ => ?_) (fun q => by rw [h3] at q; cases q)
    refine gseq ?_
    refine greg ?_
    refine o_d 3 [(31, bv ((c (3 + 5 * e.s.toNat)) != 1)), (30, bv ((c (3 + 5 * e.s.toNat)) != 1)), (29, iv (c (3 + 5 * e.s.toNat)))] (by kernel_rfl) ?_
    refine o_sp (b := (c (3 + 5 * e.s.toNat)) != 1) 31 rfl (fun h4 => ?_) (fun h4 => ?_)
    · skip
      have h4' : c (3 + 5 * e.s.toNat) ≠ 1 := neI_t h4
      refine o_d 4 [(4, bv ((c (3 + 5 * e.s.toNat)) != 3)), (34, bv ((c (3 + 5 * e.s.toNat)) != 3)), (33, bv ((c (3 + 5 * e.s.toNat)) != 3)), (32, iv (c (3 + 5 * e.s.toNat)))] (by kernel_rfl) ?_
      refine o_nil ?_
      refine seq_regs [(4, bv ((c (3 + 5 * e.s.toNat)) != 3))] (by kernel_rfl) ?_
      refine gret ?_
      have E0_ : badS c e = ((c (3 + 5 * e.s.toNat)) != 3) := by
        first | (simp [badS, h1, h1', h3, h3', h4, h4']; done) | (simp [badS, h1, h1', h3, h3', h4, h4'] <;> rfl) | (rw [Bool.eq_iff_iff]; simp [badS, h1, h1', h3, h3', h4, h4']; done) | (rw [Bool.eq_iff_iff]; simp [badS, h1, h1', h3, h3', h4, h4']; omega) | (simp [badS, h1, h1', h3, h3', h4, h4']; omega)
      exact fin_ans [bv ((c (3 + 5 * e.s.toNat)) != 3)] (resV_t rfl rfl) rfl (by rw [E0_]; rfl) rfl rfl
    have h4' : ¬ (c (3 + 5 * e.s.toNat) ≠ 1) := neI_f h4
    refine o_d 4 [(4, bv false), (34, bv false), (33, undef), (32, undef)] (by kernel_rfl) ?_
    refine o_nil ?_
    refine seq_regs [(4, bv false)] (by kernel_rfl) ?_
    refine gret ?_
    have E0_ : badS c e = false := by
      first | (simp [badS, h1, h1', h3, h3', h4, h4']; done) | (simp [badS, h1, h1', h3, h3', h4, h4'] <;> rfl) | (rw [Bool.eq_iff_iff]; simp [badS, h1, h1', h3, h3', h4, h4']; done) | (rw [Bool.eq_iff_iff]; simp [badS, h1, h1', h3, h3', h4, h4']; omega) | (simp [badS, h1, h1', h3, h3', h4, h4']; omega)
    exact fin_ans [bv false] (resV_t rfl rfl) rfl (by rw [E0_]; rfl) rfl rfl
  have h3' : ¬ (e.k = 2) := eqI_f h3
  refine greg ?_
  refine o_d 2 [(26, bv (e.k == 4)), (28, bv (e.k == 4))] (by kernel_rfl) ?_
  refine o_nil ?_
  refine seq_go ?_
  refine gcond (t := e.k == 4) rfl (fun h5 => ?_) (fun h5 => ?_)
  · skip
    have h5' : e.k = 4 := eqI_t h5
    refine gseq ?_
    refine greg ?_
    refine o_d 3 [(31, bv ((c (3 + 5 * e.s.toNat)) != 1)), (30, bv ((c (3 + 5 * e.s.toNat)) != 1)), (29, iv (c (3 + 5 * e.s.toNat)))] (by kernel_rfl) ?_
    refine o_sp (b := (c (3 + 5 * e.s.toNat)) != 1) 31 rfl (fun h6 => ?_) (fun h6 => ?_)
    · skip
      have h6' : c (3 + 5 * e.s.toNat) ≠ 1 := neI_t h6
      refine o_d 4 [(4, bv ((c (3 + 5 * e.s.toNat)) != 3)), (34, bv ((c (3 + 5 * e.s.toNat)) != 3)), (33, bv ((c (3 + 5 * e.s.toNat)) != 3)), (32, iv (c (3 + 5 * e.s.toNat)))] (by kernel_rfl) ?_
      refine o_nil ?_
      refine seq_regs [(4, bv ((c (3 + 5 * e.s.toNat)) != 3))] (by kernel_rfl) ?_
      refine gret ?_
      have E0_ : badS c e = ((c (3 + 5 * e.s.toNat)) != 3) := by
        first | (simp [badS, h1, h1', h3, h3', h5, h5', h6, h6']; done) | (simp [badS, h1, h1', h3, h3', h5, h5', h6, h6'] <;> rfl) | (rw [Bool.eq_iff_iff]; simp [badS, h1, h1', h3, h3', h5, h5', h6, h6']; done) | (rw [Bool.eq_iff_iff]; simp [badS, h1, h1', h3, h3', h5, h5', h6, h6']; omega) | (simp [badS, h1, h1', h3, h3', h5, h5', h6, h6']; omega)
      exact fin_ans [bv ((c (3 + 5 * e.s.toNat)) != 3)] (resV_t rfl rfl) rfl (by rw [E0_]; rfl) rfl rfl
    have h6' : ¬ (c (3 + 5 * e.s.toNat) ≠ 1) := neI_f h6
    refine o_d 4 [(4, bv false), (34, bv false), (33, undef), (32, undef)] (by kernel_rfl) ?_
    refine o_nil ?_
    refine seq_regs [(4, bv false)] (by kernel_rfl) ?_
    refine gret ?_
    have E0_ : badS c e = false := by
      first | (simp [badS, h1, h1', h3, h3', h5, h5', h6, h6']; done) | (simp [badS, h1, h1', h3, h3', h5, h5', h6, h6'] <;> rfl) | (rw [Bool.eq_iff_iff]; simp [badS, h1, h1', h3, h3', h5, h5', h6, h6']; done) | (rw [Bool.eq_iff_iff]; simp [badS, h1, h1', h3, h3', h5, h5', h6, h6']; omega) | (simp [badS, h1, h1', h3, h3', h5, h5', h6, h6']; omega)
    exact fin_ans [bv false] (resV_t rfl rfl) rfl (by rw [E0_]; rfl) rfl rfl
  have h5' : ¬ (e.k = 4) := eqI_f h5
  refine gseq ?_
  refine greg ?_
  refine o_d 2 [(35, bv (e.k == 3)), (36, bv (e.k == 3))] (by kernel_rfl) ?_
  refine o_nil ?_
  refine seq_go ?_
  refine gcond (t := e.k == 3) rfl (fun h7 => ?_) (fun h7 => ?_)
  · skip
    have h7' : e.k = 3 := eqI_t h7
    refine gseq ?_
    refine greg ?_
    refine o_d 3 [(4, bv ((c (3 + 5 * e.s.toNat)) != 2)), (38, bv ((c (3 + 5 * e.s.toNat)) != 2)), (37, iv (c (3 + 5 * e.s.toNat)))] (by kernel_rfl) ?_
    refine o_nil ?_
    refine seq_regs [(4, bv ((c (3 + 5 * e.s.toNat)) != 2))] (by kernel_rfl) ?_
    refine gret ?_
    have E0_ : badS c e = ((c (3 + 5 * e.s.toNat)) != 2) := by
      first | (simp [badS, h1, h1', h3, h3', h5, h5', h7, h7']; done) | (simp [badS, h1, h1', h3, h3', h5, h5', h7, h7'] <;> rfl) | (rw [Bool.eq_iff_iff]; simp [badS, h1, h1', h3, h3', h5, h5', h7, h7']; done) | (rw [Bool.eq_iff_iff]; simp [badS, h1, h1', h3, h3', h5, h5', h7, h7']; omega) | (simp [badS, h1, h1', h3, h3', h5, h5', h7, h7']; omega)
    exact fin_ans [bv ((c (3 + 5 * e.s.toNat)) != 2)] (resV_t rfl rfl) rfl (by rw [E0_]; rfl) rfl rfl
  have h7' : ¬ (e.k = 3) := eqI_f h7
  refine gseq ?_
  refine greg ?_
  refine o_d 2 [(39, bv (e.k == 5)), (40, bv (e.k == 5))] (by kernel_rfl) ?_
  refine o_nil ?_
  refine seq_regs [(39, bv (e.k == 5)), (5, iv (c (3 + 5 * e.s.toNat)))] (by kernel_rfl) ?_
  refine gcond (t := e.k == 5) rfl (fun h8 => ?_) (fun h8 => ?_)
  · skip
    have h8' : e.k = 5 := eqI_t h8
    refine gseq ?_
    refine greg ?_
    refine o_d 3 [(4, bv ((c (3 + 5 * e.s.toNat)) != 4)), (42, bv ((c (3 + 5 * e.s.toNat)) != 4)), (41, iv (c (3 + 5 * e.s.toNat)))] (by kernel_rfl) ?_
    refine o_nil ?_
    refine seq_go ?_
    refine gret ?_
    have E0_ : badS c e = ((c (3 + 5 * e.s.toNat)) != 4) := by
      first | (simp [badS, h1, h1', h3, h3', h5, h5', h7, h7', h8, h8']; done) | (simp [badS, h1, h1', h3, h3', h5, h5', h7, h7', h8, h8'] <;> rfl) | (rw [Bool.eq_iff_iff]; simp [badS, h1, h1', h3, h3', h5, h5', h7, h7', h8, h8']; done) | (rw [Bool.eq_iff_iff]; simp [badS, h1, h1', h3, h3', h5, h5', h7, h7', h8, h8']; omega) | (simp [badS, h1, h1', h3, h3', h5, h5', h7, h7', h8, h8']; omega)
    exact fin_ans [bv ((c (3 + 5 * e.s.toNat)) != 4)] (resV_t rfl rfl) rfl (by rw [E0_]; rfl) rfl rfl
  have h8' : ¬ (e.k = 5) := eqI_f h8
  refine gskip ?_
  refine seq_go ?_
  refine gseq ?_
  refine greg ?_
  refine o_d 1 [(4, bv false)] (by kernel_rfl) ?_
  refine o_nil ?_
  refine seq_go ?_
  refine gret ?_
  have E0_ : badS c e = false := by
    first | (simp [badS, h1, h1', h3, h3', h5, h5', h7, h7', h8, h8']; done) | (simp [badS, h1, h1', h3, h3', h5, h5', h7, h7', h8, h8'] <;> rfl) | (rw [Bool.eq_iff_iff]; simp [badS, h1, h1', h3, h3', h5, h5', h7, h7', h8, h8']; done) | (rw [Bool.eq_iff_iff]; simp [badS, h1, h1', h3, h3', h5, h5', h7, h7', h8, h8']; omega) | (simp [badS, h1, h1', h3, h3', h5, h5', h7, h7', h8, h8']; omega)
  exact fin_ans [bv false] (resV_t rfl rfl) rfl (by rw [E0_]; rfl) rfl rfl
theorem refApplyC {P : Program} (hc : codeOf P "roundhouse/roundhouseref6.Apply" = some c_ref6_Apply) (h_ref6_Check : codeOf P "roundhouse/roundhouseref6.Check" = some c_ref6_Check) (h_ref6_out : codeOf P "roundhouse/roundhouseref6.out" = some c_ref6_out) (h_ref6_bad : codeOf P "roundhouse/roundhouseref6.bad" = some c_ref6_bad) (h_ref6_Held : codeOf P "roundhouse/roundhouseref6.Held" = some c_ref6_Held) (h_ref5_Next : codeOf P "roundhouse/roundhouseref5.Next" = some c_ref5_Next) (c : Flat) (e : Ent) :
    Env P "roundhouse/roundhouseref6.Apply" [poolV c, .agg #[iv e.k, iv e.s, iv e.a, iv e.p, iv e.g, uv e.ka, uv e.kb]] ([]) (Ans (.tuple #[poolV (applyS c e).1, .int .i64 (applyS c e).2]) ([])) := by
  refine Env.by hc ?_
  unfold c_ref6_Apply
  show GC _ 0 _ _ ⟨reg [(0, poolV c), (1, .agg #[iv e.k, iv e.s, iv e.a, iv e.p, iv e.g, uv e.ka, uv e.kb])], []⟩
  refine gseq ?_
  refine greg ?_
  refine o_b 4 [(5, iv 0), (4, pv 2 0), (3, pv 1 0), (2, pv 0 0)] [cw (pl c), cw [iv e.k, iv e.s, iv e.a, iv e.p, iv e.g, uv e.ka, uv e.kb], cw (pl zeroP)] (by kernel_rfl) ?_
  refine o_nil ?_
  refine seq_go ?_
  refine gseq ?_
  refine gseq ?_
  refine greg ?_
  refine o_d 1 [(8, .agg #[iv e.k, iv e.s, iv e.a, iv e.p, iv e.g, uv e.ka, uv e.kb])] (by kernel_rfl) ?_
  refine o_cl (callV (refCheckC h_ref6_Check h_ref6_out e) rfl rfl rfl ?_)
  refine o_d 1 [(6, iv (checkS e))] (by kernel_rfl) ?_
  refine o_nil ?_
  refine seq_go ?_
  refine gseq ?_
  refine greg ?_
  refine o_d 2 [(11, bv ((checkS e) != 0)), (10, iv (checkS e))] (by kernel_rfl) ?_
  refine o_nil ?_
  refine seq_go ?_
  refine gcond (t := (checkS e) != 0) rfl (fun h1 => ?_) (fun h1 => ?_)
  · skip
    have h1' : checkS e ≠ 0 := neI_t h1
    refine gseq ?_
    refine greg ?_
    refine o_s (by refine run_bld (c := pl zeroP) ?_; exact bld_zP) ?_
    refine o_d 1 [(13, iv (checkS e))] (by kernel_rfl) ?_
    refine o_s0 (by refine run_st (c' := pl zeroP) rfl rfl rfl ?_ ?_ ?_; exact pl_length _; exact pl_le (by omega); exact splice_pl0 zeroP zeroP) ?_
    refine o_d 1 [(5, iv (checkS e))] (by kernel_rfl) ?_
    refine o_nil ?_
    refine seq_go ?_
    refine gret ?_
    have E0_ : applyS c e = (zeroP, checkS e) := by
      first | (simp [applyS, errS, fitsS, doneS, h1, h1']; done) | (simp [applyS, errS, fitsS, doneS, h1, h1'] <;> rfl) | (rw [Bool.eq_iff_iff]; simp [applyS, errS, fitsS, doneS, h1, h1']; done) | (rw [Bool.eq_iff_iff]; simp [applyS, errS, fitsS, doneS, h1, h1']; omega) | (simp [applyS, errS, fitsS, doneS, h1, h1']; omega)
    exact fin_ans [poolV zeroP, iv (checkS e)] (resV_c rfl rfl (pl_all zeroP) (resV_t rfl rfl)) (all_cons (poolV_aggf zeroP) (all_cons rfl rfl)) (by rw [E0_]; rfl) rfl rfl
  have h1' : ¬ (checkS e ≠ 0) := neI_f h1
  have hs : 0 ≤ e.s ∧ e.s < 64 := check_s h1'
  have hk6 : 1 ≤ e.k ∧ e.k ≤ 6 := check_k h1'
  refine gskip ?_
  refine seq_go ?_
  refine gseq ?_
  refine gseq ?_
  refine greg ?_
  refine o_s (by refine run_ld (v := poolV c) rfl rfl ?_; exact pl_all c) ?_
  refine o_d 1 [(15, .agg #[iv e.k, iv e.s, iv e.a, iv e.p, iv e.g, uv e.ka, uv e.kb])] (by kernel_rfl) ?_
  refine o_cl (callV (refBadC h_ref6_bad h_ref6_Held c e hs) rfl (all_cons (poolV_vpf c) (all_cons rfl rfl)) rfl ?_)
  refine o_nil ?_
  refine seq_go ?_
  refine gcond (t := badS c e) rfl (fun h2 => ?_) (fun h2 => ?_)
  · skip
    refine gseq ?_
    refine greg ?_
    refine o_s (by refine run_bld (c := pl zeroP) ?_; exact bld_zP) ?_
    refine o_s0 (by refine run_st (c' := pl zeroP) rfl rfl rfl ?_ ?_ ?_; exact pl_length _; exact pl_le (by omega); exact splice_pl0 zeroP zeroP) ?_
    refine o_d 1 [(5, iv 12)] (by kernel_rfl) ?_
    refine o_nil ?_
    refine seq_go ?_
    refine gret ?_
    have E0_ : applyS c e = (zeroP, 12) := by
      first | (simp [applyS, errS, fitsS, doneS, h1, h1', h2]; done) | (simp [applyS, errS, fitsS, doneS, h1, h1', h2] <;> rfl) | (rw [Bool.eq_iff_iff]; simp [applyS, errS, fitsS, doneS, h1, h1', h2]; done) | (rw [Bool.eq_iff_iff]; simp [applyS, errS, fitsS, doneS, h1, h1', h2]; omega) | (simp [applyS, errS, fitsS, doneS, h1, h1', h2]; omega)
    exact fin_ans [poolV zeroP, iv 12] (resV_c rfl rfl (pl_all zeroP) (resV_t rfl rfl)) (all_cons (poolV_aggf zeroP) (all_cons rfl rfl)) (by rw [E0_]; rfl) rfl rfl
  refine gskip ?_
  refine seq_go ?_
  refine gseq ?_
  refine gseq ?_
  refine gdreg [] (by kernel_rfl) ?_
  refine r_d 4 [(21, bv (e.k == 5)), (20, bv (e.k == 5)), (19, iv e.k), (18, pv 1 0)] (by kernel_rfl) ?_
  refine r_sp (b := e.k == 5) 21 rfl (fun h3 => ?_) (fun h3 => ?_)
  · skip
    have h3' : e.k = 5 := eqI_t h3
    refine r_d 2 [(23, pv 0 323), (22, pv 0 323)] (by kernel_rfl) ?_
    refine r_unguard rfl ?_
    refine r_s (by refine run_ld (v := iv (c 323)) rfl rfl ?_; exact pl_r c 323 rfl (by omega)) ?_
    refine r_d 3 [(27, pv 0 3), (26, iv e.s), (25, pv 1 1)] (by kernel_rfl) ?_
    refine r_unguard rfl ?_
    refine r_s (by exact run_iadA (o := 3) (o' := 3 + 5 * e.s.toNat) rfl rfl (by omega) (by omega)) ?_
    refine r_unguard rfl ?_
    refine r_s (by refine run_fad (o' := 7 + 5 * e.s.toNat) rfl (by omega)) ?_
    refine r_unguard rfl ?_
    refine r_s (by refine run_ld (v := iv (c (3 + 5 * e.s.toNat + 4))) rfl rfl ?_; exact pl_r c (3 + 5 * e.s.toNat + 4) (by omega) (by omega)) ?_
    refine r_d 3 [(33, bv (decide (c 323 < IntKind.i64.wrap (c (3 + 5 * e.s.toNat + 4) + 3)))), (32, bv (decide (c 323 < IntKind.i64.wrap (c (3 + 5 * e.s.toNat + 4) + 3)))), (31, iv (IntKind.i64.wrap (c (3 + 5 * e.s.toNat + 4) + 3)))] (by kernel_rfl) ?_
    refine r_nil ?_
    refine seq_regs [(33, bv (decide (c 323 < IntKind.i64.wrap (c (3 + 5 * e.s.toNat + 4) + 3)))), (4, pv 2 0), (3, pv 1 0), (2, pv 0 0)] (by kernel_rfl) ?_
    refine gcond (t := decide (c 323 < IntKind.i64.wrap (c (3 + 5 * e.s.toNat + 4) + 3))) rfl (fun h4 => ?_) (fun h4 => ?_)
    · skip
      have h4' : c 323 < IntKind.i64.wrap (c (3 + 5 * e.s.toNat + 4) + 3) := of_decide_eq_true h4
      refine gseq ?_
      refine greg ?_
      refine o_s (by refine run_bld (c := pl zeroP) ?_; exact bld_zP) ?_
      refine o_s0 (by refine run_st (c' := pl zeroP) rfl rfl rfl ?_ ?_ ?_; exact pl_length _; exact pl_le (by omega); exact splice_pl0 zeroP zeroP) ?_
      refine o_d 1 [(5, iv 13)] (by kernel_rfl) ?_
      refine o_nil ?_
      refine seq_go ?_
      refine gret ?_
      have E0_ : applyS c e = (zeroP, 13) := by
        first | (simp [applyS, errS, fitsS, doneS, h1, h1', h2, h3, h3', h4, h4']; done) | (simp [applyS, errS, fitsS, doneS, h1, h1', h2, h3, h3', h4, h4'] <;> rfl) | (rw [Bool.eq_iff_iff]; simp [applyS, errS, fitsS, doneS, h1, h1', h2, h3, h3', h4, h4']; done) | (rw [Bool.eq_iff_iff]; simp [applyS, errS, fitsS, doneS, h1, h1', h2, h3, h3', h4, h4']; omega) | (simp [applyS, errS, fitsS, doneS, h1, h1', h2, h3, h3', h4, h4']; omega)
      exact fin_ans [poolV zeroP, iv 13] (resV_c rfl rfl (pl_all zeroP) (resV_t rfl rfl)) (all_cons (poolV_aggf zeroP) (all_cons rfl rfl)) (by rw [E0_]; rfl) rfl rfl
    have h4' : ¬ (c 323 < IntKind.i64.wrap (c (3 + 5 * e.s.toNat + 4) + 3)) := of_decide_eq_false h4
    refine gskip ?_
    refine seq_go ?_
    refine gseq ?_
    refine greg ?_
    refine o_d 1 [(35, pv 0 0)] (by kernel_rfl) ?_
    refine o_s (by refine run_ld (v := iv (c 0)) rfl rfl ?_; exact pl_r c 0 rfl (by omega)) ?_
    refine o_d 2 [(38, pv 0 0), (37, iv (IntKind.i64.wrap (c 0 + 1)))] (by kernel_rfl) ?_
    refine o_s0 (by refine run_st (c' := pl (upd c 0 (IntKind.i64.wrap (c 0 + 1)))) rfl rfl rfl ?_ ?_ ?_; exact rfl; exact pl_le (by omega); exact pl_w c 0 (IntKind.i64.wrap (c 0 + 1)) (by omega) (by omega)) ?_
    refine o_nil ?_
    refine seq_go ?_
    refine gseq ?_
    refine greg ?_
    refine o_d 3 [(41, pv 0 3), (40, iv e.s), (39, pv 1 1)] (by kernel_rfl) ?_
    refine o_s (by exact run_iadA (o := 3) (o' := 3 + 5 * e.s.toNat) rfl rfl (by omega) (by omega)) ?_
    refine o_s (by refine run_ld (v := .agg #[iv ((upd c 0 (IntKind.i64.wrap (c 0 + 1))) (3 + 5 * e.s.toNat)), iv ((upd c 0 (IntKind.i64.wrap (c 0 + 1))) (3 + 5 * e.s.toNat + 1)), iv ((upd c 0 (IntKind.i64.wrap (c 0 + 1))) (3 + 5 * e.s.toNat + 2)), iv ((upd c 0 (IntKind.i64.wrap (c 0 + 1))) (3 + 5 * e.s.toNat + 3)), iv ((upd c 0 (IntKind.i64.wrap (c 0 + 1))) (3 + 5 * e.s.toNat + 4))]) rfl rfl ?_; exact pl_rS (upd c 0 (IntKind.i64.wrap (c 0 + 1))) e.s.toNat (by omega) (by omega)) ?_
    refine o_b 2 [(7, pv 3 0)] [cw (pl (upd c 0 (IntKind.i64.wrap (c 0 + 1)))), cw [iv e.k, iv e.s, iv e.a, iv e.p, iv e.g, uv e.ka, uv e.kb], cw (pl zeroP), cw [iv ((upd c 0 (IntKind.i64.wrap (c 0 + 1))) (3 + 5 * e.s.toNat)), iv ((upd c 0 (IntKind.i64.wrap (c 0 + 1))) (3 + 5 * e.s.toNat + 1)), iv ((upd c 0 (IntKind.i64.wrap (c 0 + 1))) (3 + 5 * e.s.toNat + 2)), iv ((upd c 0 (IntKind.i64.wrap (c 0 + 1))) (3 + 5 * e.s.toNat + 3)), iv ((upd c 0 (IntKind.i64.wrap (c 0 + 1))) (3 + 5 * e.s.toNat + 4))]] (by kernel_rfl) ?_
    refine o_nil ?_
    refine seq_go ?_
    refine gseq ?_
    refine gseq ?_
    refine greg ?_
    refine o_d 2 [(45, iv e.k), (44, pv 1 0)] (by kernel_rfl) ?_
    refine o_nil ?_
    refine seq_go ?_
    refine gblock ?_
    refine gseq ?_
    refine greg ?_
    refine o_d 2 [(46, bv (e.k == 1)), (47, bv (e.k == 1))] (by kernel_rfl) ?_
    refine o_nil ?_
    refine seq_go ?_
    refine gcond (t := e.k == 1) rfl (fun q => absurd (eq_of_beq q) (by omega)) (fun _ => ?_)
    refine gseq ?_
    refine greg ?_
    refine o_d 2 [(55, bv (e.k == 2)), (56, bv (e.k == 2))] (by kernel_rfl) ?_
    refine o_nil ?_
    refine seq_go ?_
    refine gcond (t := e.k == 2) rfl (fun q => absurd (eq_of_beq q) (by omega)) (fun _ => ?_)
    refine gseq ?_
    refine greg ?_
    refine o_d 2 [(58, bv (e.k == 3)), (59, bv (e.k == 3))] (by kernel_rfl) ?_
    refine o_nil ?_
    refine seq_go ?_
    refine gcond (t := e.k == 3) rfl (fun q => absurd (eq_of_beq q) (by omega)) (fun _ => ?_)
    refine gseq ?_
    refine greg ?_
    refine o_d 2 [(61, bv (e.k == 4)), (62, bv (e.k == 4))] (by kernel_rfl) ?_
    refine o_nil ?_
    refine seq_go ?_
    refine gcond (t := e.k == 4) rfl (fun q => absurd (eq_of_beq q) (by omega)) (fun _ => ?_)
    refine gseq ?_
    refine greg ?_
    refine o_d 2 [(68, bv (e.k == 5)), (69, bv (e.k == 5))] (by kernel_rfl) ?_
    refine o_nil ?_
    refine seq_go ?_
    refine gcond (t := e.k == 5) rfl (fun _ => ?_) (fun q => by rw [h3] at q; cases q)
    refine greg ?_
    refine o_b 2 [(70, .agg #[iv 0, iv 0, iv 0, iv 0, iv 0])] [cw (pl (upd c 0 (IntKind.i64.wrap (c 0 + 1)))), cw [iv e.k, iv e.s, iv e.a, iv e.p, iv e.g, uv e.ka, uv e.kb], cw (pl zeroP), cw [iv 0, iv 0, iv 0, iv 0, iv 0]] (by kernel_rfl) ?_
    refine o_nil ?_
    refine seq_regs [(7, pv 3 0), (4, pv 2 0), (3, pv 1 0), (2, pv 0 0)] (by kernel_rfl) ?_
    refine gseq ?_
    refine greg ?_
    refine o_d 4 [(82, pv 0 3), (81, .agg #[iv 0, iv 0, iv 0, iv 0, iv 0]), (80, iv e.s), (79, pv 1 1)] (by kernel_rfl) ?_
    refine o_s (by exact run_iadA (o := 3) (o' := 3 + 5 * e.s.toNat) rfl rfl (by omega) (by omega)) ?_
    refine o_s0 (by refine run_st (c' := pl (setSlot (upd c 0 (IntKind.i64.wrap (c 0 + 1))) e.s.toNat 0 0 0 0 0)) rfl rfl rfl ?_ ?_ ?_; exact rfl; exact pl_le (by omega); exact pl_wS (upd c 0 (IntKind.i64.wrap (c 0 + 1))) e.s.toNat 0 0 0 0 0 (by omega) (by omega)) ?_
    refine o_nil ?_
    refine seq_go ?_
    refine gseq ?_
    refine greg ?_
    refine o_s (by refine run_ld (v := poolV (setSlot (upd c 0 (IntKind.i64.wrap (c 0 + 1))) e.s.toNat 0 0 0 0 0)) rfl rfl ?_; exact pl_all (setSlot (upd c 0 (IntKind.i64.wrap (c 0 + 1))) e.s.toNat 0 0 0 0 0)) ?_
    refine o_s0 (by refine run_st (c' := pl (setSlot (upd c 0 (IntKind.i64.wrap (c 0 + 1))) e.s.toNat 0 0 0 0 0)) rfl rfl rfl ?_ ?_ ?_; exact pl_length _; exact pl_le (by omega); exact splice_pl0 zeroP (setSlot (upd c 0 (IntKind.i64.wrap (c 0 + 1))) e.s.toNat 0 0 0 0 0)) ?_
    refine o_b 1 [(5, iv 0)] [cw (pl (setSlot (upd c 0 (IntKind.i64.wrap (c 0 + 1))) e.s.toNat 0 0 0 0 0)), cw [iv e.k, iv e.s, iv e.a, iv e.p, iv e.g, uv e.ka, uv e.kb], cw (pl (setSlot (upd c 0 (IntKind.i64.wrap (c 0 + 1))) e.s.toNat 0 0 0 0 0)), cw [iv 0, iv 0, iv 0, iv 0, iv 0]] (by kernel_rfl) ?_
    refine o_nil ?_
    refine seq_go ?_
    refine gret ?_
    have E0_ : applyS c e = (setSlot (upd c 0 (IntKind.i64.wrap (c 0 + 1))) e.s.toNat 0 0 0 0 0, 0) := by
      first | (simp [applyS, errS, fitsS, doneS, h1, h1', h2, h3, h3', h4, h4']; done) | (simp [applyS, errS, fitsS, doneS, h1, h1', h2, h3, h3', h4, h4'] <;> rfl) | (rw [Bool.eq_iff_iff]; simp [applyS, errS, fitsS, doneS, h1, h1', h2, h3, h3', h4, h4']; done) | (rw [Bool.eq_iff_iff]; simp [applyS, errS, fitsS, doneS, h1, h1', h2, h3, h3', h4, h4']; omega) | (simp [applyS, errS, fitsS, doneS, h1, h1', h2, h3, h3', h4, h4']; omega)
    exact fin_ans [poolV (setSlot (upd c 0 (IntKind.i64.wrap (c 0 + 1))) e.s.toNat 0 0 0 0 0), iv 0] (resV_c rfl rfl (pl_all (setSlot (upd c 0 (IntKind.i64.wrap (c 0 + 1))) e.s.toNat 0 0 0 0 0)) (resV_t rfl rfl)) (all_cons (poolV_aggf (setSlot (upd c 0 (IntKind.i64.wrap (c 0 + 1))) e.s.toNat 0 0 0 0 0)) (all_cons rfl rfl)) (by rw [E0_]; rfl) rfl rfl
  have h3' : ¬ (e.k = 5) := eqI_f h3
  refine r_d 12 [(33, bv false), (32, undef), (31, undef), (30, undef), (29, undef), (28, undef), (27, undef), (26, undef), (25, undef), (24, undef), (23, undef), (22, undef)] (by kernel_rfl) ?_
  refine r_nil ?_
  refine seq_regs [(33, bv false), (4, pv 2 0), (3, pv 1 0), (2, pv 0 0)] (by kernel_rfl) ?_
  refine gfalse rfl ?_
  refine gskip ?_
  refine seq_go ?_
  refine gseq ?_
  refine greg ?_
  refine o_d 1 [(35, pv 0 0)] (by kernel_rfl) ?_
  refine o_s (by refine run_ld (v := iv (c 0)) rfl rfl ?_; exact pl_r c 0 rfl (by omega)) ?_
  refine o_d 2 [(38, pv 0 0), (37, iv (IntKind.i64.wrap (c 0 + 1)))] (by kernel_rfl) ?_
  refine o_s0 (by refine run_st (c' := pl (upd c 0 (IntKind.i64.wrap (c 0 + 1)))) rfl rfl rfl ?_ ?_ ?_; exact rfl; exact pl_le (by omega); exact pl_w c 0 (IntKind.i64.wrap (c 0 + 1)) (by omega) (by omega)) ?_
  refine o_nil ?_
  refine seq_go ?_
  refine gseq ?_
  refine greg ?_
  refine o_d 3 [(41, pv 0 3), (40, iv e.s), (39, pv 1 1)] (by kernel_rfl) ?_
  refine o_s (by exact run_iadA (o := 3) (o' := 3 + 5 * e.s.toNat) rfl rfl (by omega) (by omega)) ?_
  refine o_s (by refine run_ld (v := .agg #[iv ((upd c 0 (IntKind.i64.wrap (c 0 + 1))) (3 + 5 * e.s.toNat)), iv ((upd c 0 (IntKind.i64.wrap (c 0 + 1))) (3 + 5 * e.s.toNat + 1)), iv ((upd c 0 (IntKind.i64.wrap (c 0 + 1))) (3 + 5 * e.s.toNat + 2)), iv ((upd c 0 (IntKind.i64.wrap (c 0 + 1))) (3 + 5 * e.s.toNat + 3)), iv ((upd c 0 (IntKind.i64.wrap (c 0 + 1))) (3 + 5 * e.s.toNat + 4))]) rfl rfl ?_; exact pl_rS (upd c 0 (IntKind.i64.wrap (c 0 + 1))) e.s.toNat (by omega) (by omega)) ?_
  refine o_b 2 [(7, pv 3 0)] [cw (pl (upd c 0 (IntKind.i64.wrap (c 0 + 1)))), cw [iv e.k, iv e.s, iv e.a, iv e.p, iv e.g, uv e.ka, uv e.kb], cw (pl zeroP), cw [iv ((upd c 0 (IntKind.i64.wrap (c 0 + 1))) (3 + 5 * e.s.toNat)), iv ((upd c 0 (IntKind.i64.wrap (c 0 + 1))) (3 + 5 * e.s.toNat + 1)), iv ((upd c 0 (IntKind.i64.wrap (c 0 + 1))) (3 + 5 * e.s.toNat + 2)), iv ((upd c 0 (IntKind.i64.wrap (c 0 + 1))) (3 + 5 * e.s.toNat + 3)), iv ((upd c 0 (IntKind.i64.wrap (c 0 + 1))) (3 + 5 * e.s.toNat + 4))]] (by kernel_rfl) ?_
  refine o_nil ?_
  refine seq_go ?_
  refine gseq ?_
  refine gseq ?_
  refine greg ?_
  refine o_d 2 [(45, iv e.k), (44, pv 1 0)] (by kernel_rfl) ?_
  refine o_nil ?_
  refine seq_go ?_
  refine gblock ?_
  refine gseq ?_
  refine greg ?_
  refine o_d 2 [(46, bv (e.k == 1)), (47, bv (e.k == 1))] (by kernel_rfl) ?_
  refine o_nil ?_
  refine seq_go ?_
  refine gcond (t := e.k == 1) rfl (fun h5 => ?_) (fun h5 => ?_)
  · skip
    have h5' : e.k = 1 := eqI_t h5
    refine greg ?_
    refine o_b 8 [(54, .agg #[iv 1, iv e.a, iv e.p, iv e.g, iv 0]), (53, iv e.g), (52, pv 1 4), (51, iv e.p), (50, pv 1 3), (49, iv e.a), (48, pv 1 2)] [cw (pl (upd c 0 (IntKind.i64.wrap (c 0 + 1)))), cw [iv e.k, iv e.s, iv e.a, iv e.p, iv e.g, uv e.ka, uv e.kb], cw (pl zeroP), cw [iv 1, iv e.a, iv e.p, iv e.g, iv 0]] (by kernel_rfl) ?_
    refine o_nil ?_
    refine seq_regs [(7, pv 3 0), (4, pv 2 0), (3, pv 1 0), (2, pv 0 0)] (by kernel_rfl) ?_
    refine gseq ?_
    refine greg ?_
    refine o_d 4 [(82, pv 0 3), (81, .agg #[iv 1, iv e.a, iv e.p, iv e.g, iv 0]), (80, iv e.s), (79, pv 1 1)] (by kernel_rfl) ?_
    refine o_s (by exact run_iadA (o := 3) (o' := 3 + 5 * e.s.toNat) rfl rfl (by omega) (by omega)) ?_
    refine o_s0 (by refine run_st (c' := pl (setSlot (upd c 0 (IntKind.i64.wrap (c 0 + 1))) e.s.toNat 1 e.a e.p e.g 0)) rfl rfl rfl ?_ ?_ ?_; exact rfl; exact pl_le (by omega); exact pl_wS (upd c 0 (IntKind.i64.wrap (c 0 + 1))) e.s.toNat 1 e.a e.p e.g 0 (by omega) (by omega)) ?_
    refine o_nil ?_
    refine seq_go ?_
    refine gseq ?_
    refine greg ?_
    refine o_s (by refine run_ld (v := poolV (setSlot (upd c 0 (IntKind.i64.wrap (c 0 + 1))) e.s.toNat 1 e.a e.p e.g 0)) rfl rfl ?_; exact pl_all (setSlot (upd c 0 (IntKind.i64.wrap (c 0 + 1))) e.s.toNat 1 e.a e.p e.g 0)) ?_
    refine o_s0 (by refine run_st (c' := pl (setSlot (upd c 0 (IntKind.i64.wrap (c 0 + 1))) e.s.toNat 1 e.a e.p e.g 0)) rfl rfl rfl ?_ ?_ ?_; exact pl_length _; exact pl_le (by omega); exact splice_pl0 zeroP (setSlot (upd c 0 (IntKind.i64.wrap (c 0 + 1))) e.s.toNat 1 e.a e.p e.g 0)) ?_
    refine o_b 1 [(5, iv 0)] [cw (pl (setSlot (upd c 0 (IntKind.i64.wrap (c 0 + 1))) e.s.toNat 1 e.a e.p e.g 0)), cw [iv e.k, iv e.s, iv e.a, iv e.p, iv e.g, uv e.ka, uv e.kb], cw (pl (setSlot (upd c 0 (IntKind.i64.wrap (c 0 + 1))) e.s.toNat 1 e.a e.p e.g 0)), cw [iv 1, iv e.a, iv e.p, iv e.g, iv 0]] (by kernel_rfl) ?_
    refine o_nil ?_
    refine seq_go ?_
    refine gret ?_
    have E0_ : applyS c e = (setSlot (upd c 0 (IntKind.i64.wrap (c 0 + 1))) e.s.toNat 1 e.a e.p e.g 0, 0) := by
      first | (simp [applyS, errS, fitsS, doneS, h1, h1', h2, h3, h3', h5, h5']; done) | (simp [applyS, errS, fitsS, doneS, h1, h1', h2, h3, h3', h5, h5'] <;> rfl) | (rw [Bool.eq_iff_iff]; simp [applyS, errS, fitsS, doneS, h1, h1', h2, h3, h3', h5, h5']; done) | (rw [Bool.eq_iff_iff]; simp [applyS, errS, fitsS, doneS, h1, h1', h2, h3, h3', h5, h5']; omega) | (simp [applyS, errS, fitsS, doneS, h1, h1', h2, h3, h3', h5, h5']; omega)
    exact fin_ans [poolV (setSlot (upd c 0 (IntKind.i64.wrap (c 0 + 1))) e.s.toNat 1 e.a e.p e.g 0), iv 0] (resV_c rfl rfl (pl_all (setSlot (upd c 0 (IntKind.i64.wrap (c 0 + 1))) e.s.toNat 1 e.a e.p e.g 0)) (resV_t rfl rfl)) (all_cons (poolV_aggf (setSlot (upd c 0 (IntKind.i64.wrap (c 0 + 1))) e.s.toNat 1 e.a e.p e.g 0)) (all_cons rfl rfl)) (by rw [E0_]; rfl) rfl rfl
  have h5' : ¬ (e.k = 1) := eqI_f h5
  refine gseq ?_
  refine greg ?_
  refine o_d 2 [(55, bv (e.k == 2)), (56, bv (e.k == 2))] (by kernel_rfl) ?_
  refine o_nil ?_
  refine seq_go ?_
  refine gcond (t := e.k == 2) rfl (fun h6 => ?_) (fun h6 => ?_)
  · skip
    have h6' : e.k = 2 := eqI_t h6
    refine greg ?_
    refine o_b 2 [(57, pv 3 0)] [cw (pl (upd c 0 (IntKind.i64.wrap (c 0 + 1)))), cw [iv e.k, iv e.s, iv e.a, iv e.p, iv e.g, uv e.ka, uv e.kb], cw (pl zeroP), cw [iv 2, iv ((upd c 0 (IntKind.i64.wrap (c 0 + 1))) (3 + 5 * e.s.toNat + 1)), iv ((upd c 0 (IntKind.i64.wrap (c 0 + 1))) (3 + 5 * e.s.toNat + 2)), iv ((upd c 0 (IntKind.i64.wrap (c 0 + 1))) (3 + 5 * e.s.toNat + 3)), iv ((upd c 0 (IntKind.i64.wrap (c 0 + 1))) (3 + 5 * e.s.toNat + 4))]] (by kernel_rfl) ?_
    refine o_nil ?_
    refine seq_go ?_
    refine gseq ?_
    refine greg ?_
    refine o_d 4 [(82, pv 0 3), (81, .agg #[iv 2, iv ((upd c 0 (IntKind.i64.wrap (c 0 + 1))) (3 + 5 * e.s.toNat + 1)), iv ((upd c 0 (IntKind.i64.wrap (c 0 + 1))) (3 + 5 * e.s.toNat + 2)), iv ((upd c 0 (IntKind.i64.wrap (c 0 + 1))) (3 + 5 * e.s.toNat + 3)), iv ((upd c 0 (IntKind.i64.wrap (c 0 + 1))) (3 + 5 * e.s.toNat + 4))]), (80, iv e.s), (79, pv 1 1)] (by kernel_rfl) ?_
    refine o_s (by exact run_iadA (o := 3) (o' := 3 + 5 * e.s.toNat) rfl rfl (by omega) (by omega)) ?_
    refine o_s0 (by refine run_st (c' := pl (setSlot (upd c 0 (IntKind.i64.wrap (c 0 + 1))) e.s.toNat 2 ((upd c 0 (IntKind.i64.wrap (c 0 + 1))) (3 + 5 * e.s.toNat + 1)) ((upd c 0 (IntKind.i64.wrap (c 0 + 1))) (3 + 5 * e.s.toNat + 2)) ((upd c 0 (IntKind.i64.wrap (c 0 + 1))) (3 + 5 * e.s.toNat + 3)) ((upd c 0 (IntKind.i64.wrap (c 0 + 1))) (3 + 5 * e.s.toNat + 4)))) rfl rfl rfl ?_ ?_ ?_; exact rfl; exact pl_le (by omega); exact pl_wS (upd c 0 (IntKind.i64.wrap (c 0 + 1))) e.s.toNat 2 ((upd c 0 (IntKind.i64.wrap (c 0 + 1))) (3 + 5 * e.s.toNat + 1)) ((upd c 0 (IntKind.i64.wrap (c 0 + 1))) (3 + 5 * e.s.toNat + 2)) ((upd c 0 (IntKind.i64.wrap (c 0 + 1))) (3 + 5 * e.s.toNat + 3)) ((upd c 0 (IntKind.i64.wrap (c 0 + 1))) (3 + 5 * e.s.toNat + 4)) (by omega) (by omega)) ?_
    refine o_nil ?_
    refine seq_regs [(4, pv 2 0), (2, pv 0 0)] (by kernel_rfl) ?_
    refine gseq ?_
    refine greg ?_
    refine o_s (by refine run_ld (v := poolV (setSlot (upd c 0 (IntKind.i64.wrap (c 0 + 1))) e.s.toNat 2 ((upd c 0 (IntKind.i64.wrap (c 0 + 1))) (3 + 5 * e.s.toNat + 1)) ((upd c 0 (IntKind.i64.wrap (c 0 + 1))) (3 + 5 * e.s.toNat + 2)) ((upd c 0 (IntKind.i64.wrap (c 0 + 1))) (3 + 5 * e.s.toNat + 3)) ((upd c 0 (IntKind.i64.wrap (c 0 + 1))) (3 + 5 * e.s.toNat + 4)))) rfl rfl ?_; exact pl_all (setSlot (upd c 0 (IntKind.i64.wrap (c 0 + 1))) e.s.toNat 2 ((upd c 0 (IntKind.i64.wrap (c 0 + 1))) (3 + 5 * e.s.toNat + 1)) ((upd c 0 (IntKind.i64.wrap (c 0 + 1))) (3 + 5 * e.s.toNat + 2)) ((upd c 0 (IntKind.i64.wrap (c 0 + 1))) (3 + 5 * e.s.toNat + 3)) ((upd c 0 (IntKind.i64.wrap (c 0 + 1))) (3 + 5 * e.s.toNat + 4)))) ?_
    refine o_s0 (by refine run_st (c' := pl (setSlot (upd c 0 (IntKind.i64.wrap (c 0 + 1))) e.s.toNat 2 ((upd c 0 (IntKind.i64.wrap (c 0 + 1))) (3 + 5 * e.s.toNat + 1)) ((upd c 0 (IntKind.i64.wrap (c 0 + 1))) (3 + 5 * e.s.toNat + 2)) ((upd c 0 (IntKind.i64.wrap (c 0 + 1))) (3 + 5 * e.s.toNat + 3)) ((upd c 0 (IntKind.i64.wrap (c 0 + 1))) (3 + 5 * e.s.toNat + 4)))) rfl rfl rfl ?_ ?_ ?_; exact pl_length _; exact pl_le (by omega); exact splice_pl0 zeroP (setSlot (upd c 0 (IntKind.i64.wrap (c 0 + 1))) e.s.toNat 2 ((upd c 0 (IntKind.i64.wrap (c 0 + 1))) (3 + 5 * e.s.toNat + 1)) ((upd c 0 (IntKind.i64.wrap (c 0 + 1))) (3 + 5 * e.s.toNat + 2)) ((upd c 0 (IntKind.i64.wrap (c 0 + 1))) (3 + 5 * e.s.toNat + 3)) ((upd c 0 (IntKind.i64.wrap (c 0 + 1))) (3 + 5 * e.s.toNat + 4)))) ?_
    refine o_b 1 [(5, iv 0)] [cw (pl (setSlot (upd c 0 (IntKind.i64.wrap (c 0 + 1))) e.s.toNat 2 ((upd c 0 (IntKind.i64.wrap (c 0 + 1))) (3 + 5 * e.s.toNat + 1)) ((upd c 0 (IntKind.i64.wrap (c 0 + 1))) (3 + 5 * e.s.toNat + 2)) ((upd c 0 (IntKind.i64.wrap (c 0 + 1))) (3 + 5 * e.s.toNat + 3)) ((upd c 0 (IntKind.i64.wrap (c 0 + 1))) (3 + 5 * e.s.toNat + 4)))), cw [iv e.k, iv e.s, iv e.a, iv e.p, iv e.g, uv e.ka, uv e.kb], cw (pl (setSlot (upd c 0 (IntKind.i64.wrap (c 0 + 1))) e.s.toNat 2 ((upd c 0 (IntKind.i64.wrap (c 0 + 1))) (3 + 5 * e.s.toNat + 1)) ((upd c 0 (IntKind.i64.wrap (c 0 + 1))) (3 + 5 * e.s.toNat + 2)) ((upd c 0 (IntKind.i64.wrap (c 0 + 1))) (3 + 5 * e.s.toNat + 3)) ((upd c 0 (IntKind.i64.wrap (c 0 + 1))) (3 + 5 * e.s.toNat + 4)))), cw [iv 2, iv ((upd c 0 (IntKind.i64.wrap (c 0 + 1))) (3 + 5 * e.s.toNat + 1)), iv ((upd c 0 (IntKind.i64.wrap (c 0 + 1))) (3 + 5 * e.s.toNat + 2)), iv ((upd c 0 (IntKind.i64.wrap (c 0 + 1))) (3 + 5 * e.s.toNat + 3)), iv ((upd c 0 (IntKind.i64.wrap (c 0 + 1))) (3 + 5 * e.s.toNat + 4))]] (by kernel_rfl) ?_
    refine o_nil ?_
    refine seq_go ?_
    refine gret ?_
    have E0_ : applyS c e = (setSlot (upd c 0 (IntKind.i64.wrap (c 0 + 1))) e.s.toNat 2 ((upd c 0 (IntKind.i64.wrap (c 0 + 1))) (3 + 5 * e.s.toNat + 1)) ((upd c 0 (IntKind.i64.wrap (c 0 + 1))) (3 + 5 * e.s.toNat + 2)) ((upd c 0 (IntKind.i64.wrap (c 0 + 1))) (3 + 5 * e.s.toNat + 3)) ((upd c 0 (IntKind.i64.wrap (c 0 + 1))) (3 + 5 * e.s.toNat + 4)), 0) := by
      have hd := setSlot_0 (upd c 0 (IntKind.i64.wrap (c 0 + 1))) e.s.toNat
      simp only [hd]
      simp [applyS, errS, fitsS, doneS, h1, h1', h2, h3, h3', h5, h5', h6, h6']
    exact fin_ans [poolV (setSlot (upd c 0 (IntKind.i64.wrap (c 0 + 1))) e.s.toNat 2 ((upd c 0 (IntKind.i64.wrap (c 0 + 1))) (3 + 5 * e.s.toNat + 1)) ((upd c 0 (IntKind.i64.wrap (c 0 + 1))) (3 + 5 * e.s.toNat + 2)) ((upd c 0 (IntKind.i64.wrap (c 0 + 1))) (3 + 5 * e.s.toNat + 3)) ((upd c 0 (IntKind.i64.wrap (c 0 + 1))) (3 + 5 * e.s.toNat + 4))), iv 0] (resV_c rfl rfl (pl_all (setSlot (upd c 0 (IntKind.i64.wrap (c 0 + 1))) e.s.toNat 2 ((upd c 0 (IntKind.i64.wrap (c 0 + 1))) (3 + 5 * e.s.toNat + 1)) ((upd c 0 (IntKind.i64.wrap (c 0 + 1))) (3 + 5 * e.s.toNat + 2)) ((upd c 0 (IntKind.i64.wrap (c 0 + 1))) (3 + 5 * e.s.toNat + 3)) ((upd c 0 (IntKind.i64.wrap (c 0 + 1))) (3 + 5 * e.s.toNat + 4)))) (resV_t rfl rfl)) (all_cons (poolV_aggf (setSlot (upd c 0 (IntKind.i64.wrap (c 0 + 1))) e.s.toNat 2 ((upd c 0 (IntKind.i64.wrap (c 0 + 1))) (3 + 5 * e.s.toNat + 1)) ((upd c 0 (IntKind.i64.wrap (c 0 + 1))) (3 + 5 * e.s.toNat + 2)) ((upd c 0 (IntKind.i64.wrap (c 0 + 1))) (3 + 5 * e.s.toNat + 3)) ((upd c 0 (IntKind.i64.wrap (c 0 + 1))) (3 + 5 * e.s.toNat + 4)))) (all_cons rfl rfl)) (by rw [E0_]; rfl) rfl rfl
  have h6' : ¬ (e.k = 2) := eqI_f h6
  refine gseq ?_
  refine greg ?_
  refine o_d 2 [(58, bv (e.k == 3)), (59, bv (e.k == 3))] (by kernel_rfl) ?_
  refine o_nil ?_
  refine seq_go ?_
  refine gcond (t := e.k == 3) rfl (fun h7 => ?_) (fun h7 => ?_)
  · skip
    have h7' : e.k = 3 := eqI_t h7
    refine greg ?_
    refine o_b 2 [(60, pv 3 0)] [cw (pl (upd c 0 (IntKind.i64.wrap (c 0 + 1)))), cw [iv e.k, iv e.s, iv e.a, iv e.p, iv e.g, uv e.ka, uv e.kb], cw (pl zeroP), cw [iv 3, iv ((upd c 0 (IntKind.i64.wrap (c 0 + 1))) (3 + 5 * e.s.toNat + 1)), iv ((upd c 0 (IntKind.i64.wrap (c 0 + 1))) (3 + 5 * e.s.toNat + 2)), iv ((upd c 0 (IntKind.i64.wrap (c 0 + 1))) (3 + 5 * e.s.toNat + 3)), iv ((upd c 0 (IntKind.i64.wrap (c 0 + 1))) (3 + 5 * e.s.toNat + 4))]] (by kernel_rfl) ?_
    refine o_nil ?_
    refine seq_go ?_
    refine gseq ?_
    refine greg ?_
    refine o_d 4 [(82, pv 0 3), (81, .agg #[iv 3, iv ((upd c 0 (IntKind.i64.wrap (c 0 + 1))) (3 + 5 * e.s.toNat + 1)), iv ((upd c 0 (IntKind.i64.wrap (c 0 + 1))) (3 + 5 * e.s.toNat + 2)), iv ((upd c 0 (IntKind.i64.wrap (c 0 + 1))) (3 + 5 * e.s.toNat + 3)), iv ((upd c 0 (IntKind.i64.wrap (c 0 + 1))) (3 + 5 * e.s.toNat + 4))]), (80, iv e.s), (79, pv 1 1)] (by kernel_rfl) ?_
    refine o_s (by exact run_iadA (o := 3) (o' := 3 + 5 * e.s.toNat) rfl rfl (by omega) (by omega)) ?_
    refine o_s0 (by refine run_st (c' := pl (setSlot (upd c 0 (IntKind.i64.wrap (c 0 + 1))) e.s.toNat 3 ((upd c 0 (IntKind.i64.wrap (c 0 + 1))) (3 + 5 * e.s.toNat + 1)) ((upd c 0 (IntKind.i64.wrap (c 0 + 1))) (3 + 5 * e.s.toNat + 2)) ((upd c 0 (IntKind.i64.wrap (c 0 + 1))) (3 + 5 * e.s.toNat + 3)) ((upd c 0 (IntKind.i64.wrap (c 0 + 1))) (3 + 5 * e.s.toNat + 4)))) rfl rfl rfl ?_ ?_ ?_; exact rfl; exact pl_le (by omega); exact pl_wS (upd c 0 (IntKind.i64.wrap (c 0 + 1))) e.s.toNat 3 ((upd c 0 (IntKind.i64.wrap (c 0 + 1))) (3 + 5 * e.s.toNat + 1)) ((upd c 0 (IntKind.i64.wrap (c 0 + 1))) (3 + 5 * e.s.toNat + 2)) ((upd c 0 (IntKind.i64.wrap (c 0 + 1))) (3 + 5 * e.s.toNat + 3)) ((upd c 0 (IntKind.i64.wrap (c 0 + 1))) (3 + 5 * e.s.toNat + 4)) (by omega) (by omega)) ?_
    refine o_nil ?_
    refine seq_regs [(4, pv 2 0), (2, pv 0 0)] (by kernel_rfl) ?_
    refine gseq ?_
    refine greg ?_
    refine o_s (by refine run_ld (v := poolV (setSlot (upd c 0 (IntKind.i64.wrap (c 0 + 1))) e.s.toNat 3 ((upd c 0 (IntKind.i64.wrap (c 0 + 1))) (3 + 5 * e.s.toNat + 1)) ((upd c 0 (IntKind.i64.wrap (c 0 + 1))) (3 + 5 * e.s.toNat + 2)) ((upd c 0 (IntKind.i64.wrap (c 0 + 1))) (3 + 5 * e.s.toNat + 3)) ((upd c 0 (IntKind.i64.wrap (c 0 + 1))) (3 + 5 * e.s.toNat + 4)))) rfl rfl ?_; exact pl_all (setSlot (upd c 0 (IntKind.i64.wrap (c 0 + 1))) e.s.toNat 3 ((upd c 0 (IntKind.i64.wrap (c 0 + 1))) (3 + 5 * e.s.toNat + 1)) ((upd c 0 (IntKind.i64.wrap (c 0 + 1))) (3 + 5 * e.s.toNat + 2)) ((upd c 0 (IntKind.i64.wrap (c 0 + 1))) (3 + 5 * e.s.toNat + 3)) ((upd c 0 (IntKind.i64.wrap (c 0 + 1))) (3 + 5 * e.s.toNat + 4)))) ?_
    refine o_s0 (by refine run_st (c' := pl (setSlot (upd c 0 (IntKind.i64.wrap (c 0 + 1))) e.s.toNat 3 ((upd c 0 (IntKind.i64.wrap (c 0 + 1))) (3 + 5 * e.s.toNat + 1)) ((upd c 0 (IntKind.i64.wrap (c 0 + 1))) (3 + 5 * e.s.toNat + 2)) ((upd c 0 (IntKind.i64.wrap (c 0 + 1))) (3 + 5 * e.s.toNat + 3)) ((upd c 0 (IntKind.i64.wrap (c 0 + 1))) (3 + 5 * e.s.toNat + 4)))) rfl rfl rfl ?_ ?_ ?_; exact pl_length _; exact pl_le (by omega); exact splice_pl0 zeroP (setSlot (upd c 0 (IntKind.i64.wrap (c 0 + 1))) e.s.toNat 3 ((upd c 0 (IntKind.i64.wrap (c 0 + 1))) (3 + 5 * e.s.toNat + 1)) ((upd c 0 (IntKind.i64.wrap (c 0 + 1))) (3 + 5 * e.s.toNat + 2)) ((upd c 0 (IntKind.i64.wrap (c 0 + 1))) (3 + 5 * e.s.toNat + 3)) ((upd c 0 (IntKind.i64.wrap (c 0 + 1))) (3 + 5 * e.s.toNat + 4)))) ?_
    refine o_b 1 [(5, iv 0)] [cw (pl (setSlot (upd c 0 (IntKind.i64.wrap (c 0 + 1))) e.s.toNat 3 ((upd c 0 (IntKind.i64.wrap (c 0 + 1))) (3 + 5 * e.s.toNat + 1)) ((upd c 0 (IntKind.i64.wrap (c 0 + 1))) (3 + 5 * e.s.toNat + 2)) ((upd c 0 (IntKind.i64.wrap (c 0 + 1))) (3 + 5 * e.s.toNat + 3)) ((upd c 0 (IntKind.i64.wrap (c 0 + 1))) (3 + 5 * e.s.toNat + 4)))), cw [iv e.k, iv e.s, iv e.a, iv e.p, iv e.g, uv e.ka, uv e.kb], cw (pl (setSlot (upd c 0 (IntKind.i64.wrap (c 0 + 1))) e.s.toNat 3 ((upd c 0 (IntKind.i64.wrap (c 0 + 1))) (3 + 5 * e.s.toNat + 1)) ((upd c 0 (IntKind.i64.wrap (c 0 + 1))) (3 + 5 * e.s.toNat + 2)) ((upd c 0 (IntKind.i64.wrap (c 0 + 1))) (3 + 5 * e.s.toNat + 3)) ((upd c 0 (IntKind.i64.wrap (c 0 + 1))) (3 + 5 * e.s.toNat + 4)))), cw [iv 3, iv ((upd c 0 (IntKind.i64.wrap (c 0 + 1))) (3 + 5 * e.s.toNat + 1)), iv ((upd c 0 (IntKind.i64.wrap (c 0 + 1))) (3 + 5 * e.s.toNat + 2)), iv ((upd c 0 (IntKind.i64.wrap (c 0 + 1))) (3 + 5 * e.s.toNat + 3)), iv ((upd c 0 (IntKind.i64.wrap (c 0 + 1))) (3 + 5 * e.s.toNat + 4))]] (by kernel_rfl) ?_
    refine o_nil ?_
    refine seq_go ?_
    refine gret ?_
    have E0_ : applyS c e = (setSlot (upd c 0 (IntKind.i64.wrap (c 0 + 1))) e.s.toNat 3 ((upd c 0 (IntKind.i64.wrap (c 0 + 1))) (3 + 5 * e.s.toNat + 1)) ((upd c 0 (IntKind.i64.wrap (c 0 + 1))) (3 + 5 * e.s.toNat + 2)) ((upd c 0 (IntKind.i64.wrap (c 0 + 1))) (3 + 5 * e.s.toNat + 3)) ((upd c 0 (IntKind.i64.wrap (c 0 + 1))) (3 + 5 * e.s.toNat + 4)), 0) := by
      have hd := setSlot_0 (upd c 0 (IntKind.i64.wrap (c 0 + 1))) e.s.toNat
      simp only [hd]
      simp [applyS, errS, fitsS, doneS, h1, h1', h2, h3, h3', h5, h5', h6, h6', h7, h7']
    exact fin_ans [poolV (setSlot (upd c 0 (IntKind.i64.wrap (c 0 + 1))) e.s.toNat 3 ((upd c 0 (IntKind.i64.wrap (c 0 + 1))) (3 + 5 * e.s.toNat + 1)) ((upd c 0 (IntKind.i64.wrap (c 0 + 1))) (3 + 5 * e.s.toNat + 2)) ((upd c 0 (IntKind.i64.wrap (c 0 + 1))) (3 + 5 * e.s.toNat + 3)) ((upd c 0 (IntKind.i64.wrap (c 0 + 1))) (3 + 5 * e.s.toNat + 4))), iv 0] (resV_c rfl rfl (pl_all (setSlot (upd c 0 (IntKind.i64.wrap (c 0 + 1))) e.s.toNat 3 ((upd c 0 (IntKind.i64.wrap (c 0 + 1))) (3 + 5 * e.s.toNat + 1)) ((upd c 0 (IntKind.i64.wrap (c 0 + 1))) (3 + 5 * e.s.toNat + 2)) ((upd c 0 (IntKind.i64.wrap (c 0 + 1))) (3 + 5 * e.s.toNat + 3)) ((upd c 0 (IntKind.i64.wrap (c 0 + 1))) (3 + 5 * e.s.toNat + 4)))) (resV_t rfl rfl)) (all_cons (poolV_aggf (setSlot (upd c 0 (IntKind.i64.wrap (c 0 + 1))) e.s.toNat 3 ((upd c 0 (IntKind.i64.wrap (c 0 + 1))) (3 + 5 * e.s.toNat + 1)) ((upd c 0 (IntKind.i64.wrap (c 0 + 1))) (3 + 5 * e.s.toNat + 2)) ((upd c 0 (IntKind.i64.wrap (c 0 + 1))) (3 + 5 * e.s.toNat + 3)) ((upd c 0 (IntKind.i64.wrap (c 0 + 1))) (3 + 5 * e.s.toNat + 4)))) (all_cons rfl rfl)) (by rw [E0_]; rfl) rfl rfl
  have h7' : ¬ (e.k = 3) := eqI_f h7
  refine gseq ?_
  refine greg ?_
  refine o_d 2 [(61, bv (e.k == 4)), (62, bv (e.k == 4))] (by kernel_rfl) ?_
  refine o_nil ?_
  refine seq_go ?_
  refine gcond (t := e.k == 4) rfl (fun h8 => ?_) (fun h8 => ?_)
  · skip
    have h8' : e.k = 4 := eqI_t h8
    refine gdregK [(67, pv 3 4), (66, pv 3 0), (65, iv ((upd c 0 (IntKind.i64.wrap (c 0 + 1))) 323)), (64, pv 0 323), (63, pv 0 323)] [cw (pl (upd c 0 (IntKind.i64.wrap (c 0 + 1)))), cw [iv e.k, iv e.s, iv e.a, iv e.p, iv e.g, uv e.ka, uv e.kb], cw (pl zeroP), cw [iv 4, iv ((upd c 0 (IntKind.i64.wrap (c 0 + 1))) (3 + 5 * e.s.toNat + 1)), iv ((upd c 0 (IntKind.i64.wrap (c 0 + 1))) (3 + 5 * e.s.toNat + 2)), iv ((upd c 0 (IntKind.i64.wrap (c 0 + 1))) (3 + 5 * e.s.toNat + 3)), iv ((upd c 0 (IntKind.i64.wrap (c 0 + 1))) 323)]] (by kernel_rfl) ?_
    refine seq_regs [(7, pv 3 0), (4, pv 2 0), (3, pv 1 0), (2, pv 0 0)] (by kernel_rfl) ?_
    refine gseq ?_
    refine greg ?_
    refine o_d 4 [(82, pv 0 3), (81, .agg #[iv 4, iv ((upd c 0 (IntKind.i64.wrap (c 0 + 1))) (3 + 5 * e.s.toNat + 1)), iv ((upd c 0 (IntKind.i64.wrap (c 0 + 1))) (3 + 5 * e.s.toNat + 2)), iv ((upd c 0 (IntKind.i64.wrap (c 0 + 1))) (3 + 5 * e.s.toNat + 3)), iv ((upd c 0 (IntKind.i64.wrap (c 0 + 1))) 323)]), (80, iv e.s), (79, pv 1 1)] (by kernel_rfl) ?_
    refine o_s (by exact run_iadA (o := 3) (o' := 3 + 5 * e.s.toNat) rfl rfl (by omega) (by omega)) ?_
    refine o_s0 (by refine run_st (c' := pl (setSlot (upd c 0 (IntKind.i64.wrap (c 0 + 1))) e.s.toNat 4 ((upd c 0 (IntKind.i64.wrap (c 0 + 1))) (3 + 5 * e.s.toNat + 1)) ((upd c 0 (IntKind.i64.wrap (c 0 + 1))) (3 + 5 * e.s.toNat + 2)) ((upd c 0 (IntKind.i64.wrap (c 0 + 1))) (3 + 5 * e.s.toNat + 3)) ((upd c 0 (IntKind.i64.wrap (c 0 + 1))) 323))) rfl rfl rfl ?_ ?_ ?_; exact rfl; exact pl_le (by omega); exact pl_wS (upd c 0 (IntKind.i64.wrap (c 0 + 1))) e.s.toNat 4 ((upd c 0 (IntKind.i64.wrap (c 0 + 1))) (3 + 5 * e.s.toNat + 1)) ((upd c 0 (IntKind.i64.wrap (c 0 + 1))) (3 + 5 * e.s.toNat + 2)) ((upd c 0 (IntKind.i64.wrap (c 0 + 1))) (3 + 5 * e.s.toNat + 3)) ((upd c 0 (IntKind.i64.wrap (c 0 + 1))) 323) (by omega) (by omega)) ?_
    refine o_nil ?_
    refine seq_go ?_
    refine gseq ?_
    refine greg ?_
    refine o_s (by refine run_ld (v := poolV (setSlot (upd c 0 (IntKind.i64.wrap (c 0 + 1))) e.s.toNat 4 ((upd c 0 (IntKind.i64.wrap (c 0 + 1))) (3 + 5 * e.s.toNat + 1)) ((upd c 0 (IntKind.i64.wrap (c 0 + 1))) (3 + 5 * e.s.toNat + 2)) ((upd c 0 (IntKind.i64.wrap (c 0 + 1))) (3 + 5 * e.s.toNat + 3)) ((upd c 0 (IntKind.i64.wrap (c 0 + 1))) 323))) rfl rfl ?_; exact pl_all (setSlot (upd c 0 (IntKind.i64.wrap (c 0 + 1))) e.s.toNat 4 ((upd c 0 (IntKind.i64.wrap (c 0 + 1))) (3 + 5 * e.s.toNat + 1)) ((upd c 0 (IntKind.i64.wrap (c 0 + 1))) (3 + 5 * e.s.toNat + 2)) ((upd c 0 (IntKind.i64.wrap (c 0 + 1))) (3 + 5 * e.s.toNat + 3)) ((upd c 0 (IntKind.i64.wrap (c 0 + 1))) 323))) ?_
    refine o_s0 (by refine run_st (c' := pl (setSlot (upd c 0 (IntKind.i64.wrap (c 0 + 1))) e.s.toNat 4 ((upd c 0 (IntKind.i64.wrap (c 0 + 1))) (3 + 5 * e.s.toNat + 1)) ((upd c 0 (IntKind.i64.wrap (c 0 + 1))) (3 + 5 * e.s.toNat + 2)) ((upd c 0 (IntKind.i64.wrap (c 0 + 1))) (3 + 5 * e.s.toNat + 3)) ((upd c 0 (IntKind.i64.wrap (c 0 + 1))) 323))) rfl rfl rfl ?_ ?_ ?_; exact pl_length _; exact pl_le (by omega); exact splice_pl0 zeroP (setSlot (upd c 0 (IntKind.i64.wrap (c 0 + 1))) e.s.toNat 4 ((upd c 0 (IntKind.i64.wrap (c 0 + 1))) (3 + 5 * e.s.toNat + 1)) ((upd c 0 (IntKind.i64.wrap (c 0 + 1))) (3 + 5 * e.s.toNat + 2)) ((upd c 0 (IntKind.i64.wrap (c 0 + 1))) (3 + 5 * e.s.toNat + 3)) ((upd c 0 (IntKind.i64.wrap (c 0 + 1))) 323))) ?_
    refine o_b 1 [(5, iv 0)] [cw (pl (setSlot (upd c 0 (IntKind.i64.wrap (c 0 + 1))) e.s.toNat 4 ((upd c 0 (IntKind.i64.wrap (c 0 + 1))) (3 + 5 * e.s.toNat + 1)) ((upd c 0 (IntKind.i64.wrap (c 0 + 1))) (3 + 5 * e.s.toNat + 2)) ((upd c 0 (IntKind.i64.wrap (c 0 + 1))) (3 + 5 * e.s.toNat + 3)) ((upd c 0 (IntKind.i64.wrap (c 0 + 1))) 323))), cw [iv e.k, iv e.s, iv e.a, iv e.p, iv e.g, uv e.ka, uv e.kb], cw (pl (setSlot (upd c 0 (IntKind.i64.wrap (c 0 + 1))) e.s.toNat 4 ((upd c 0 (IntKind.i64.wrap (c 0 + 1))) (3 + 5 * e.s.toNat + 1)) ((upd c 0 (IntKind.i64.wrap (c 0 + 1))) (3 + 5 * e.s.toNat + 2)) ((upd c 0 (IntKind.i64.wrap (c 0 + 1))) (3 + 5 * e.s.toNat + 3)) ((upd c 0 (IntKind.i64.wrap (c 0 + 1))) 323))), cw [iv 4, iv ((upd c 0 (IntKind.i64.wrap (c 0 + 1))) (3 + 5 * e.s.toNat + 1)), iv ((upd c 0 (IntKind.i64.wrap (c 0 + 1))) (3 + 5 * e.s.toNat + 2)), iv ((upd c 0 (IntKind.i64.wrap (c 0 + 1))) (3 + 5 * e.s.toNat + 3)), iv ((upd c 0 (IntKind.i64.wrap (c 0 + 1))) 323)]] (by kernel_rfl) ?_
    refine o_nil ?_
    refine seq_go ?_
    refine gret ?_
    have E0_ : applyS c e = (setSlot (upd c 0 (IntKind.i64.wrap (c 0 + 1))) e.s.toNat 4 ((upd c 0 (IntKind.i64.wrap (c 0 + 1))) (3 + 5 * e.s.toNat + 1)) ((upd c 0 (IntKind.i64.wrap (c 0 + 1))) (3 + 5 * e.s.toNat + 2)) ((upd c 0 (IntKind.i64.wrap (c 0 + 1))) (3 + 5 * e.s.toNat + 3)) ((upd c 0 (IntKind.i64.wrap (c 0 + 1))) 323), 0) := by
      have hd := setSlot_04 (upd c 0 (IntKind.i64.wrap (c 0 + 1))) e.s.toNat
      simp only [hd]
      simp [applyS, errS, fitsS, doneS, upd_ne, h1, h1', h2, h3, h3', h5, h5', h6, h6', h7, h7', h8, h8']
    exact fin_ans [poolV (setSlot (upd c 0 (IntKind.i64.wrap (c 0 + 1))) e.s.toNat 4 ((upd c 0 (IntKind.i64.wrap (c 0 + 1))) (3 + 5 * e.s.toNat + 1)) ((upd c 0 (IntKind.i64.wrap (c 0 + 1))) (3 + 5 * e.s.toNat + 2)) ((upd c 0 (IntKind.i64.wrap (c 0 + 1))) (3 + 5 * e.s.toNat + 3)) ((upd c 0 (IntKind.i64.wrap (c 0 + 1))) 323)), iv 0] (resV_c rfl rfl (pl_all (setSlot (upd c 0 (IntKind.i64.wrap (c 0 + 1))) e.s.toNat 4 ((upd c 0 (IntKind.i64.wrap (c 0 + 1))) (3 + 5 * e.s.toNat + 1)) ((upd c 0 (IntKind.i64.wrap (c 0 + 1))) (3 + 5 * e.s.toNat + 2)) ((upd c 0 (IntKind.i64.wrap (c 0 + 1))) (3 + 5 * e.s.toNat + 3)) ((upd c 0 (IntKind.i64.wrap (c 0 + 1))) 323))) (resV_t rfl rfl)) (all_cons (poolV_aggf (setSlot (upd c 0 (IntKind.i64.wrap (c 0 + 1))) e.s.toNat 4 ((upd c 0 (IntKind.i64.wrap (c 0 + 1))) (3 + 5 * e.s.toNat + 1)) ((upd c 0 (IntKind.i64.wrap (c 0 + 1))) (3 + 5 * e.s.toNat + 2)) ((upd c 0 (IntKind.i64.wrap (c 0 + 1))) (3 + 5 * e.s.toNat + 3)) ((upd c 0 (IntKind.i64.wrap (c 0 + 1))) 323))) (all_cons rfl rfl)) (by rw [E0_]; rfl) rfl rfl
  have h8' : ¬ (e.k = 4) := eqI_f h8
  refine gseq ?_
  refine greg ?_
  refine o_d 2 [(68, bv (e.k == 5)), (69, bv (e.k == 5))] (by kernel_rfl) ?_
  refine o_nil ?_
  refine seq_go ?_
  refine gcond (t := e.k == 5) rfl (fun q => by rw [h3] at q; cases q) (fun _ => ?_)
  refine gseq ?_
  refine greg ?_
  refine o_d 2 [(71, bv (e.k == 6)), (72, bv (e.k == 6))] (by kernel_rfl) ?_
  refine o_nil ?_
  refine seq_regs [(71, bv (e.k == 6)), (7, pv 3 0), (4, pv 2 0), (3, pv 1 0), (2, pv 0 0)] (by kernel_rfl) ?_
  refine gcond (t := e.k == 6) rfl (fun h9 => ?_) (fun h9 => ?_)
  · skip
    have h9' : e.k = 6 := eqI_t h9
    refine greg ?_
    refine o_d 1 [(73, pv 0 323)] (by kernel_rfl) ?_
    refine o_s (by refine run_ld (v := .agg #[iv ((upd c 0 (IntKind.i64.wrap (c 0 + 1))) 323), uv ((upd c 0 (IntKind.i64.wrap (c 0 + 1))) 324), uv ((upd c 0 (IntKind.i64.wrap (c 0 + 1))) 325), uv ((upd c 0 (IntKind.i64.wrap (c 0 + 1))) 326), uv ((upd c 0 (IntKind.i64.wrap (c 0 + 1))) 327), uv ((upd c 0 (IntKind.i64.wrap (c 0 + 1))) 328), uv ((upd c 0 (IntKind.i64.wrap (c 0 + 1))) 329)]) rfl rfl ?_; exact pl_ring (upd c 0 (IntKind.i64.wrap (c 0 + 1)))) ?_
    refine o_d 2 [(76, .agg #[uv e.ka, uv e.kb]), (75, pv 1 5)] (by kernel_rfl) ?_
    refine o_cl (callV (refNextC h_ref5_Next) rfl rfl rfl ?_)
    refine o_d 1 [(78, pv 0 323)] (by kernel_rfl) ?_
    refine o_s0 (by refine run_st (c' := pl (upd (upd (upd (upd (upd (upd (upd (upd c 0 (IntKind.i64.wrap (c 0 + 1))) 323 (IntKind.i64.wrap (((upd c 0 (IntKind.i64.wrap (c 0 + 1))) 323) + 1))) 324 ((upd c 0 (IntKind.i64.wrap (c 0 + 1))) 326)) 325 ((upd c 0 (IntKind.i64.wrap (c 0 + 1))) 327)) 326 ((upd c 0 (IntKind.i64.wrap (c 0 + 1))) 328)) 327 ((upd c 0 (IntKind.i64.wrap (c 0 + 1))) 329)) 328 e.ka) 329 e.kb)) rfl rfl rfl ?_ ?_ ?_; exact rfl; exact pl_le (by omega); exact splice_ring (upd c 0 (IntKind.i64.wrap (c 0 + 1))) (IntKind.i64.wrap (((upd c 0 (IntKind.i64.wrap (c 0 + 1))) 323) + 1)) ((upd c 0 (IntKind.i64.wrap (c 0 + 1))) 326) ((upd c 0 (IntKind.i64.wrap (c 0 + 1))) 327) ((upd c 0 (IntKind.i64.wrap (c 0 + 1))) 328) ((upd c 0 (IntKind.i64.wrap (c 0 + 1))) 329) e.ka e.kb) ?_
    refine o_nil ?_
    refine seq_go ?_
    refine gseq ?_
    refine greg ?_
    refine o_d 4 [(82, pv 0 3), (81, .agg #[iv ((upd c 0 (IntKind.i64.wrap (c 0 + 1))) (3 + 5 * e.s.toNat)), iv ((upd c 0 (IntKind.i64.wrap (c 0 + 1))) (3 + 5 * e.s.toNat + 1)), iv ((upd c 0 (IntKind.i64.wrap (c 0 + 1))) (3 + 5 * e.s.toNat + 2)), iv ((upd c 0 (IntKind.i64.wrap (c 0 + 1))) (3 + 5 * e.s.toNat + 3)), iv ((upd c 0 (IntKind.i64.wrap (c 0 + 1))) (3 + 5 * e.s.toNat + 4))]), (80, iv e.s), (79, pv 1 1)] (by kernel_rfl) ?_
    refine o_s (by exact run_iadA (o := 3) (o' := 3 + 5 * e.s.toNat) rfl rfl (by omega) (by omega)) ?_
    refine o_s0 (by refine run_st (c' := pl (setSlot (upd (upd (upd (upd (upd (upd (upd (upd c 0 (IntKind.i64.wrap (c 0 + 1))) 323 (IntKind.i64.wrap (((upd c 0 (IntKind.i64.wrap (c 0 + 1))) 323) + 1))) 324 ((upd c 0 (IntKind.i64.wrap (c 0 + 1))) 326)) 325 ((upd c 0 (IntKind.i64.wrap (c 0 + 1))) 327)) 326 ((upd c 0 (IntKind.i64.wrap (c 0 + 1))) 328)) 327 ((upd c 0 (IntKind.i64.wrap (c 0 + 1))) 329)) 328 e.ka) 329 e.kb) e.s.toNat ((upd c 0 (IntKind.i64.wrap (c 0 + 1))) (3 + 5 * e.s.toNat)) ((upd c 0 (IntKind.i64.wrap (c 0 + 1))) (3 + 5 * e.s.toNat + 1)) ((upd c 0 (IntKind.i64.wrap (c 0 + 1))) (3 + 5 * e.s.toNat + 2)) ((upd c 0 (IntKind.i64.wrap (c 0 + 1))) (3 + 5 * e.s.toNat + 3)) ((upd c 0 (IntKind.i64.wrap (c 0 + 1))) (3 + 5 * e.s.toNat + 4)))) rfl rfl rfl ?_ ?_ ?_; exact rfl; exact pl_le (by omega); exact pl_wS (upd (upd (upd (upd (upd (upd (upd (upd c 0 (IntKind.i64.wrap (c 0 + 1))) 323 (IntKind.i64.wrap (((upd c 0 (IntKind.i64.wrap (c 0 + 1))) 323) + 1))) 324 ((upd c 0 (IntKind.i64.wrap (c 0 + 1))) 326)) 325 ((upd c 0 (IntKind.i64.wrap (c 0 + 1))) 327)) 326 ((upd c 0 (IntKind.i64.wrap (c 0 + 1))) 328)) 327 ((upd c 0 (IntKind.i64.wrap (c 0 + 1))) 329)) 328 e.ka) 329 e.kb) e.s.toNat ((upd c 0 (IntKind.i64.wrap (c 0 + 1))) (3 + 5 * e.s.toNat)) ((upd c 0 (IntKind.i64.wrap (c 0 + 1))) (3 + 5 * e.s.toNat + 1)) ((upd c 0 (IntKind.i64.wrap (c 0 + 1))) (3 + 5 * e.s.toNat + 2)) ((upd c 0 (IntKind.i64.wrap (c 0 + 1))) (3 + 5 * e.s.toNat + 3)) ((upd c 0 (IntKind.i64.wrap (c 0 + 1))) (3 + 5 * e.s.toNat + 4)) (by omega) (by omega)) ?_
    refine o_nil ?_
    refine seq_go ?_
    refine gseq ?_
    refine greg ?_
    refine o_s (by refine run_ld (v := poolV (setSlot (upd (upd (upd (upd (upd (upd (upd (upd c 0 (IntKind.i64.wrap (c 0 + 1))) 323 (IntKind.i64.wrap (((upd c 0 (IntKind.i64.wrap (c 0 + 1))) 323) + 1))) 324 ((upd c 0 (IntKind.i64.wrap (c 0 + 1))) 326)) 325 ((upd c 0 (IntKind.i64.wrap (c 0 + 1))) 327)) 326 ((upd c 0 (IntKind.i64.wrap (c 0 + 1))) 328)) 327 ((upd c 0 (IntKind.i64.wrap (c 0 + 1))) 329)) 328 e.ka) 329 e.kb) e.s.toNat ((upd c 0 (IntKind.i64.wrap (c 0 + 1))) (3 + 5 * e.s.toNat)) ((upd c 0 (IntKind.i64.wrap (c 0 + 1))) (3 + 5 * e.s.toNat + 1)) ((upd c 0 (IntKind.i64.wrap (c 0 + 1))) (3 + 5 * e.s.toNat + 2)) ((upd c 0 (IntKind.i64.wrap (c 0 + 1))) (3 + 5 * e.s.toNat + 3)) ((upd c 0 (IntKind.i64.wrap (c 0 + 1))) (3 + 5 * e.s.toNat + 4)))) rfl rfl ?_; exact pl_all (setSlot (upd (upd (upd (upd (upd (upd (upd (upd c 0 (IntKind.i64.wrap (c 0 + 1))) 323 (IntKind.i64.wrap (((upd c 0 (IntKind.i64.wrap (c 0 + 1))) 323) + 1))) 324 ((upd c 0 (IntKind.i64.wrap (c 0 + 1))) 326)) 325 ((upd c 0 (IntKind.i64.wrap (c 0 + 1))) 327)) 326 ((upd c 0 (IntKind.i64.wrap (c 0 + 1))) 328)) 327 ((upd c 0 (IntKind.i64.wrap (c 0 + 1))) 329)) 328 e.ka) 329 e.kb) e.s.toNat ((upd c 0 (IntKind.i64.wrap (c 0 + 1))) (3 + 5 * e.s.toNat)) ((upd c 0 (IntKind.i64.wrap (c 0 + 1))) (3 + 5 * e.s.toNat + 1)) ((upd c 0 (IntKind.i64.wrap (c 0 + 1))) (3 + 5 * e.s.toNat + 2)) ((upd c 0 (IntKind.i64.wrap (c 0 + 1))) (3 + 5 * e.s.toNat + 3)) ((upd c 0 (IntKind.i64.wrap (c 0 + 1))) (3 + 5 * e.s.toNat + 4)))) ?_
    refine o_s0 (by refine run_st (c' := pl (setSlot (upd (upd (upd (upd (upd (upd (upd (upd c 0 (IntKind.i64.wrap (c 0 + 1))) 323 (IntKind.i64.wrap (((upd c 0 (IntKind.i64.wrap (c 0 + 1))) 323) + 1))) 324 ((upd c 0 (IntKind.i64.wrap (c 0 + 1))) 326)) 325 ((upd c 0 (IntKind.i64.wrap (c 0 + 1))) 327)) 326 ((upd c 0 (IntKind.i64.wrap (c 0 + 1))) 328)) 327 ((upd c 0 (IntKind.i64.wrap (c 0 + 1))) 329)) 328 e.ka) 329 e.kb) e.s.toNat ((upd c 0 (IntKind.i64.wrap (c 0 + 1))) (3 + 5 * e.s.toNat)) ((upd c 0 (IntKind.i64.wrap (c 0 + 1))) (3 + 5 * e.s.toNat + 1)) ((upd c 0 (IntKind.i64.wrap (c 0 + 1))) (3 + 5 * e.s.toNat + 2)) ((upd c 0 (IntKind.i64.wrap (c 0 + 1))) (3 + 5 * e.s.toNat + 3)) ((upd c 0 (IntKind.i64.wrap (c 0 + 1))) (3 + 5 * e.s.toNat + 4)))) rfl rfl rfl ?_ ?_ ?_; exact pl_length _; exact pl_le (by omega); exact splice_pl0 zeroP (setSlot (upd (upd (upd (upd (upd (upd (upd (upd c 0 (IntKind.i64.wrap (c 0 + 1))) 323 (IntKind.i64.wrap (((upd c 0 (IntKind.i64.wrap (c 0 + 1))) 323) + 1))) 324 ((upd c 0 (IntKind.i64.wrap (c 0 + 1))) 326)) 325 ((upd c 0 (IntKind.i64.wrap (c 0 + 1))) 327)) 326 ((upd c 0 (IntKind.i64.wrap (c 0 + 1))) 328)) 327 ((upd c 0 (IntKind.i64.wrap (c 0 + 1))) 329)) 328 e.ka) 329 e.kb) e.s.toNat ((upd c 0 (IntKind.i64.wrap (c 0 + 1))) (3 + 5 * e.s.toNat)) ((upd c 0 (IntKind.i64.wrap (c 0 + 1))) (3 + 5 * e.s.toNat + 1)) ((upd c 0 (IntKind.i64.wrap (c 0 + 1))) (3 + 5 * e.s.toNat + 2)) ((upd c 0 (IntKind.i64.wrap (c 0 + 1))) (3 + 5 * e.s.toNat + 3)) ((upd c 0 (IntKind.i64.wrap (c 0 + 1))) (3 + 5 * e.s.toNat + 4)))) ?_
    refine o_b 1 [(5, iv 0)] [cw (pl (setSlot (upd (upd (upd (upd (upd (upd (upd (upd c 0 (IntKind.i64.wrap (c 0 + 1))) 323 (IntKind.i64.wrap (((upd c 0 (IntKind.i64.wrap (c 0 + 1))) 323) + 1))) 324 ((upd c 0 (IntKind.i64.wrap (c 0 + 1))) 326)) 325 ((upd c 0 (IntKind.i64.wrap (c 0 + 1))) 327)) 326 ((upd c 0 (IntKind.i64.wrap (c 0 + 1))) 328)) 327 ((upd c 0 (IntKind.i64.wrap (c 0 + 1))) 329)) 328 e.ka) 329 e.kb) e.s.toNat ((upd c 0 (IntKind.i64.wrap (c 0 + 1))) (3 + 5 * e.s.toNat)) ((upd c 0 (IntKind.i64.wrap (c 0 + 1))) (3 + 5 * e.s.toNat + 1)) ((upd c 0 (IntKind.i64.wrap (c 0 + 1))) (3 + 5 * e.s.toNat + 2)) ((upd c 0 (IntKind.i64.wrap (c 0 + 1))) (3 + 5 * e.s.toNat + 3)) ((upd c 0 (IntKind.i64.wrap (c 0 + 1))) (3 + 5 * e.s.toNat + 4)))), cw [iv e.k, iv e.s, iv e.a, iv e.p, iv e.g, uv e.ka, uv e.kb], cw (pl (setSlot (upd (upd (upd (upd (upd (upd (upd (upd c 0 (IntKind.i64.wrap (c 0 + 1))) 323 (IntKind.i64.wrap (((upd c 0 (IntKind.i64.wrap (c 0 + 1))) 323) + 1))) 324 ((upd c 0 (IntKind.i64.wrap (c 0 + 1))) 326)) 325 ((upd c 0 (IntKind.i64.wrap (c 0 + 1))) 327)) 326 ((upd c 0 (IntKind.i64.wrap (c 0 + 1))) 328)) 327 ((upd c 0 (IntKind.i64.wrap (c 0 + 1))) 329)) 328 e.ka) 329 e.kb) e.s.toNat ((upd c 0 (IntKind.i64.wrap (c 0 + 1))) (3 + 5 * e.s.toNat)) ((upd c 0 (IntKind.i64.wrap (c 0 + 1))) (3 + 5 * e.s.toNat + 1)) ((upd c 0 (IntKind.i64.wrap (c 0 + 1))) (3 + 5 * e.s.toNat + 2)) ((upd c 0 (IntKind.i64.wrap (c 0 + 1))) (3 + 5 * e.s.toNat + 3)) ((upd c 0 (IntKind.i64.wrap (c 0 + 1))) (3 + 5 * e.s.toNat + 4)))), cw [iv ((upd c 0 (IntKind.i64.wrap (c 0 + 1))) (3 + 5 * e.s.toNat)), iv ((upd c 0 (IntKind.i64.wrap (c 0 + 1))) (3 + 5 * e.s.toNat + 1)), iv ((upd c 0 (IntKind.i64.wrap (c 0 + 1))) (3 + 5 * e.s.toNat + 2)), iv ((upd c 0 (IntKind.i64.wrap (c 0 + 1))) (3 + 5 * e.s.toNat + 3)), iv ((upd c 0 (IntKind.i64.wrap (c 0 + 1))) (3 + 5 * e.s.toNat + 4))]] (by kernel_rfl) ?_
    refine o_nil ?_
    refine seq_go ?_
    refine gret ?_
    have E0_ : applyS c e = (setSlot (upd (upd (upd (upd (upd (upd (upd (upd c 0 (IntKind.i64.wrap (c 0 + 1))) 323 (IntKind.i64.wrap (((upd c 0 (IntKind.i64.wrap (c 0 + 1))) 323) + 1))) 324 ((upd c 0 (IntKind.i64.wrap (c 0 + 1))) 326)) 325 ((upd c 0 (IntKind.i64.wrap (c 0 + 1))) 327)) 326 ((upd c 0 (IntKind.i64.wrap (c 0 + 1))) 328)) 327 ((upd c 0 (IntKind.i64.wrap (c 0 + 1))) 329)) 328 e.ka) 329 e.kb) e.s.toNat ((upd c 0 (IntKind.i64.wrap (c 0 + 1))) (3 + 5 * e.s.toNat)) ((upd c 0 (IntKind.i64.wrap (c 0 + 1))) (3 + 5 * e.s.toNat + 1)) ((upd c 0 (IntKind.i64.wrap (c 0 + 1))) (3 + 5 * e.s.toNat + 2)) ((upd c 0 (IntKind.i64.wrap (c 0 + 1))) (3 + 5 * e.s.toNat + 3)) ((upd c 0 (IntKind.i64.wrap (c 0 + 1))) (3 + 5 * e.s.toNat + 4)), 0) := by
      rw [setSlot_id (ring_low _ _ _ _ _ _ _ _ (by omega)).symm (ring_low _ _ _ _ _ _ _ _ (by omega)).symm (ring_low _ _ _ _ _ _ _ _ (by omega)).symm (ring_low _ _ _ _ _ _ _ _ (by omega)).symm (ring_low _ _ _ _ _ _ _ _ (by omega)).symm]
      simp [applyS, errS, fitsS, doneS, nextS, upd_ne, h1, h1', h2, h3, h3', h5, h5', h6, h6', h7, h7', h8, h8', h9, h9']
    exact fin_ans [poolV (setSlot (upd (upd (upd (upd (upd (upd (upd (upd c 0 (IntKind.i64.wrap (c 0 + 1))) 323 (IntKind.i64.wrap (((upd c 0 (IntKind.i64.wrap (c 0 + 1))) 323) + 1))) 324 ((upd c 0 (IntKind.i64.wrap (c 0 + 1))) 326)) 325 ((upd c 0 (IntKind.i64.wrap (c 0 + 1))) 327)) 326 ((upd c 0 (IntKind.i64.wrap (c 0 + 1))) 328)) 327 ((upd c 0 (IntKind.i64.wrap (c 0 + 1))) 329)) 328 e.ka) 329 e.kb) e.s.toNat ((upd c 0 (IntKind.i64.wrap (c 0 + 1))) (3 + 5 * e.s.toNat)) ((upd c 0 (IntKind.i64.wrap (c 0 + 1))) (3 + 5 * e.s.toNat + 1)) ((upd c 0 (IntKind.i64.wrap (c 0 + 1))) (3 + 5 * e.s.toNat + 2)) ((upd c 0 (IntKind.i64.wrap (c 0 + 1))) (3 + 5 * e.s.toNat + 3)) ((upd c 0 (IntKind.i64.wrap (c 0 + 1))) (3 + 5 * e.s.toNat + 4))), iv 0] (resV_c rfl rfl (pl_all (setSlot (upd (upd (upd (upd (upd (upd (upd (upd c 0 (IntKind.i64.wrap (c 0 + 1))) 323 (IntKind.i64.wrap (((upd c 0 (IntKind.i64.wrap (c 0 + 1))) 323) + 1))) 324 ((upd c 0 (IntKind.i64.wrap (c 0 + 1))) 326)) 325 ((upd c 0 (IntKind.i64.wrap (c 0 + 1))) 327)) 326 ((upd c 0 (IntKind.i64.wrap (c 0 + 1))) 328)) 327 ((upd c 0 (IntKind.i64.wrap (c 0 + 1))) 329)) 328 e.ka) 329 e.kb) e.s.toNat ((upd c 0 (IntKind.i64.wrap (c 0 + 1))) (3 + 5 * e.s.toNat)) ((upd c 0 (IntKind.i64.wrap (c 0 + 1))) (3 + 5 * e.s.toNat + 1)) ((upd c 0 (IntKind.i64.wrap (c 0 + 1))) (3 + 5 * e.s.toNat + 2)) ((upd c 0 (IntKind.i64.wrap (c 0 + 1))) (3 + 5 * e.s.toNat + 3)) ((upd c 0 (IntKind.i64.wrap (c 0 + 1))) (3 + 5 * e.s.toNat + 4)))) (resV_t rfl rfl)) (all_cons (poolV_aggf (setSlot (upd (upd (upd (upd (upd (upd (upd (upd c 0 (IntKind.i64.wrap (c 0 + 1))) 323 (IntKind.i64.wrap (((upd c 0 (IntKind.i64.wrap (c 0 + 1))) 323) + 1))) 324 ((upd c 0 (IntKind.i64.wrap (c 0 + 1))) 326)) 325 ((upd c 0 (IntKind.i64.wrap (c 0 + 1))) 327)) 326 ((upd c 0 (IntKind.i64.wrap (c 0 + 1))) 328)) 327 ((upd c 0 (IntKind.i64.wrap (c 0 + 1))) 329)) 328 e.ka) 329 e.kb) e.s.toNat ((upd c 0 (IntKind.i64.wrap (c 0 + 1))) (3 + 5 * e.s.toNat)) ((upd c 0 (IntKind.i64.wrap (c 0 + 1))) (3 + 5 * e.s.toNat + 1)) ((upd c 0 (IntKind.i64.wrap (c 0 + 1))) (3 + 5 * e.s.toNat + 2)) ((upd c 0 (IntKind.i64.wrap (c 0 + 1))) (3 + 5 * e.s.toNat + 3)) ((upd c 0 (IntKind.i64.wrap (c 0 + 1))) (3 + 5 * e.s.toNat + 4)))) (all_cons rfl rfl)) (by rw [E0_]; rfl) rfl rfl
  have h9' : ¬ (e.k = 6) := eqI_f h9
  refine gskip ?_
  refine seq_go ?_
  refine gseq ?_
  refine greg ?_
  refine o_d 4 [(82, pv 0 3), (81, .agg #[iv ((upd c 0 (IntKind.i64.wrap (c 0 + 1))) (3 + 5 * e.s.toNat)), iv ((upd c 0 (IntKind.i64.wrap (c 0 + 1))) (3 + 5 * e.s.toNat + 1)), iv ((upd c 0 (IntKind.i64.wrap (c 0 + 1))) (3 + 5 * e.s.toNat + 2)), iv ((upd c 0 (IntKind.i64.wrap (c 0 + 1))) (3 + 5 * e.s.toNat + 3)), iv ((upd c 0 (IntKind.i64.wrap (c 0 + 1))) (3 + 5 * e.s.toNat + 4))]), (80, iv e.s), (79, pv 1 1)] (by kernel_rfl) ?_
  refine o_s (by exact run_iadA (o := 3) (o' := 3 + 5 * e.s.toNat) rfl rfl (by omega) (by omega)) ?_
  refine o_s0 (by refine run_st (c' := pl (setSlot (upd c 0 (IntKind.i64.wrap (c 0 + 1))) e.s.toNat ((upd c 0 (IntKind.i64.wrap (c 0 + 1))) (3 + 5 * e.s.toNat)) ((upd c 0 (IntKind.i64.wrap (c 0 + 1))) (3 + 5 * e.s.toNat + 1)) ((upd c 0 (IntKind.i64.wrap (c 0 + 1))) (3 + 5 * e.s.toNat + 2)) ((upd c 0 (IntKind.i64.wrap (c 0 + 1))) (3 + 5 * e.s.toNat + 3)) ((upd c 0 (IntKind.i64.wrap (c 0 + 1))) (3 + 5 * e.s.toNat + 4)))) rfl rfl rfl ?_ ?_ ?_; exact rfl; exact pl_le (by omega); exact pl_wS (upd c 0 (IntKind.i64.wrap (c 0 + 1))) e.s.toNat ((upd c 0 (IntKind.i64.wrap (c 0 + 1))) (3 + 5 * e.s.toNat)) ((upd c 0 (IntKind.i64.wrap (c 0 + 1))) (3 + 5 * e.s.toNat + 1)) ((upd c 0 (IntKind.i64.wrap (c 0 + 1))) (3 + 5 * e.s.toNat + 2)) ((upd c 0 (IntKind.i64.wrap (c 0 + 1))) (3 + 5 * e.s.toNat + 3)) ((upd c 0 (IntKind.i64.wrap (c 0 + 1))) (3 + 5 * e.s.toNat + 4)) (by omega) (by omega)) ?_
  refine o_nil ?_
  refine seq_go ?_
  refine gseq ?_
  refine greg ?_
  refine o_s (by refine run_ld (v := poolV (setSlot (upd c 0 (IntKind.i64.wrap (c 0 + 1))) e.s.toNat ((upd c 0 (IntKind.i64.wrap (c 0 + 1))) (3 + 5 * e.s.toNat)) ((upd c 0 (IntKind.i64.wrap (c 0 + 1))) (3 + 5 * e.s.toNat + 1)) ((upd c 0 (IntKind.i64.wrap (c 0 + 1))) (3 + 5 * e.s.toNat + 2)) ((upd c 0 (IntKind.i64.wrap (c 0 + 1))) (3 + 5 * e.s.toNat + 3)) ((upd c 0 (IntKind.i64.wrap (c 0 + 1))) (3 + 5 * e.s.toNat + 4)))) rfl rfl ?_; exact pl_all (setSlot (upd c 0 (IntKind.i64.wrap (c 0 + 1))) e.s.toNat ((upd c 0 (IntKind.i64.wrap (c 0 + 1))) (3 + 5 * e.s.toNat)) ((upd c 0 (IntKind.i64.wrap (c 0 + 1))) (3 + 5 * e.s.toNat + 1)) ((upd c 0 (IntKind.i64.wrap (c 0 + 1))) (3 + 5 * e.s.toNat + 2)) ((upd c 0 (IntKind.i64.wrap (c 0 + 1))) (3 + 5 * e.s.toNat + 3)) ((upd c 0 (IntKind.i64.wrap (c 0 + 1))) (3 + 5 * e.s.toNat + 4)))) ?_
  refine o_s0 (by refine run_st (c' := pl (setSlot (upd c 0 (IntKind.i64.wrap (c 0 + 1))) e.s.toNat ((upd c 0 (IntKind.i64.wrap (c 0 + 1))) (3 + 5 * e.s.toNat)) ((upd c 0 (IntKind.i64.wrap (c 0 + 1))) (3 + 5 * e.s.toNat + 1)) ((upd c 0 (IntKind.i64.wrap (c 0 + 1))) (3 + 5 * e.s.toNat + 2)) ((upd c 0 (IntKind.i64.wrap (c 0 + 1))) (3 + 5 * e.s.toNat + 3)) ((upd c 0 (IntKind.i64.wrap (c 0 + 1))) (3 + 5 * e.s.toNat + 4)))) rfl rfl rfl ?_ ?_ ?_; exact pl_length _; exact pl_le (by omega); exact splice_pl0 zeroP (setSlot (upd c 0 (IntKind.i64.wrap (c 0 + 1))) e.s.toNat ((upd c 0 (IntKind.i64.wrap (c 0 + 1))) (3 + 5 * e.s.toNat)) ((upd c 0 (IntKind.i64.wrap (c 0 + 1))) (3 + 5 * e.s.toNat + 1)) ((upd c 0 (IntKind.i64.wrap (c 0 + 1))) (3 + 5 * e.s.toNat + 2)) ((upd c 0 (IntKind.i64.wrap (c 0 + 1))) (3 + 5 * e.s.toNat + 3)) ((upd c 0 (IntKind.i64.wrap (c 0 + 1))) (3 + 5 * e.s.toNat + 4)))) ?_
  refine o_b 1 [(5, iv 0)] [cw (pl (setSlot (upd c 0 (IntKind.i64.wrap (c 0 + 1))) e.s.toNat ((upd c 0 (IntKind.i64.wrap (c 0 + 1))) (3 + 5 * e.s.toNat)) ((upd c 0 (IntKind.i64.wrap (c 0 + 1))) (3 + 5 * e.s.toNat + 1)) ((upd c 0 (IntKind.i64.wrap (c 0 + 1))) (3 + 5 * e.s.toNat + 2)) ((upd c 0 (IntKind.i64.wrap (c 0 + 1))) (3 + 5 * e.s.toNat + 3)) ((upd c 0 (IntKind.i64.wrap (c 0 + 1))) (3 + 5 * e.s.toNat + 4)))), cw [iv e.k, iv e.s, iv e.a, iv e.p, iv e.g, uv e.ka, uv e.kb], cw (pl (setSlot (upd c 0 (IntKind.i64.wrap (c 0 + 1))) e.s.toNat ((upd c 0 (IntKind.i64.wrap (c 0 + 1))) (3 + 5 * e.s.toNat)) ((upd c 0 (IntKind.i64.wrap (c 0 + 1))) (3 + 5 * e.s.toNat + 1)) ((upd c 0 (IntKind.i64.wrap (c 0 + 1))) (3 + 5 * e.s.toNat + 2)) ((upd c 0 (IntKind.i64.wrap (c 0 + 1))) (3 + 5 * e.s.toNat + 3)) ((upd c 0 (IntKind.i64.wrap (c 0 + 1))) (3 + 5 * e.s.toNat + 4)))), cw [iv ((upd c 0 (IntKind.i64.wrap (c 0 + 1))) (3 + 5 * e.s.toNat)), iv ((upd c 0 (IntKind.i64.wrap (c 0 + 1))) (3 + 5 * e.s.toNat + 1)), iv ((upd c 0 (IntKind.i64.wrap (c 0 + 1))) (3 + 5 * e.s.toNat + 2)), iv ((upd c 0 (IntKind.i64.wrap (c 0 + 1))) (3 + 5 * e.s.toNat + 3)), iv ((upd c 0 (IntKind.i64.wrap (c 0 + 1))) (3 + 5 * e.s.toNat + 4))]] (by kernel_rfl) ?_
  refine o_nil ?_
  refine seq_go ?_
  refine gret ?_
  have E0_ : applyS c e = (setSlot (upd c 0 (IntKind.i64.wrap (c 0 + 1))) e.s.toNat ((upd c 0 (IntKind.i64.wrap (c 0 + 1))) (3 + 5 * e.s.toNat)) ((upd c 0 (IntKind.i64.wrap (c 0 + 1))) (3 + 5 * e.s.toNat + 1)) ((upd c 0 (IntKind.i64.wrap (c 0 + 1))) (3 + 5 * e.s.toNat + 2)) ((upd c 0 (IntKind.i64.wrap (c 0 + 1))) (3 + 5 * e.s.toNat + 3)) ((upd c 0 (IntKind.i64.wrap (c 0 + 1))) (3 + 5 * e.s.toNat + 4)), 0) := by
    first | (simp [applyS, errS, fitsS, doneS, h1, h1', h2, h3, h3', h5, h5', h6, h6', h7, h7', h8, h8', h9, h9']; done) | (simp [applyS, errS, fitsS, doneS, h1, h1', h2, h3, h3', h5, h5', h6, h6', h7, h7', h8, h8', h9, h9'] <;> rfl) | (rw [Bool.eq_iff_iff]; simp [applyS, errS, fitsS, doneS, h1, h1', h2, h3, h3', h5, h5', h6, h6', h7, h7', h8, h8', h9, h9']; done) | (rw [Bool.eq_iff_iff]; simp [applyS, errS, fitsS, doneS, h1, h1', h2, h3, h3', h5, h5', h6, h6', h7, h7', h8, h8', h9, h9']; omega) | (simp [applyS, errS, fitsS, doneS, h1, h1', h2, h3, h3', h5, h5', h6, h6', h7, h7', h8, h8', h9, h9']; omega)
  exact fin_ans [poolV (setSlot (upd c 0 (IntKind.i64.wrap (c 0 + 1))) e.s.toNat ((upd c 0 (IntKind.i64.wrap (c 0 + 1))) (3 + 5 * e.s.toNat)) ((upd c 0 (IntKind.i64.wrap (c 0 + 1))) (3 + 5 * e.s.toNat + 1)) ((upd c 0 (IntKind.i64.wrap (c 0 + 1))) (3 + 5 * e.s.toNat + 2)) ((upd c 0 (IntKind.i64.wrap (c 0 + 1))) (3 + 5 * e.s.toNat + 3)) ((upd c 0 (IntKind.i64.wrap (c 0 + 1))) (3 + 5 * e.s.toNat + 4))), iv 0] (resV_c rfl rfl (pl_all (setSlot (upd c 0 (IntKind.i64.wrap (c 0 + 1))) e.s.toNat ((upd c 0 (IntKind.i64.wrap (c 0 + 1))) (3 + 5 * e.s.toNat)) ((upd c 0 (IntKind.i64.wrap (c 0 + 1))) (3 + 5 * e.s.toNat + 1)) ((upd c 0 (IntKind.i64.wrap (c 0 + 1))) (3 + 5 * e.s.toNat + 2)) ((upd c 0 (IntKind.i64.wrap (c 0 + 1))) (3 + 5 * e.s.toNat + 3)) ((upd c 0 (IntKind.i64.wrap (c 0 + 1))) (3 + 5 * e.s.toNat + 4)))) (resV_t rfl rfl)) (all_cons (poolV_aggf (setSlot (upd c 0 (IntKind.i64.wrap (c 0 + 1))) e.s.toNat ((upd c 0 (IntKind.i64.wrap (c 0 + 1))) (3 + 5 * e.s.toNat)) ((upd c 0 (IntKind.i64.wrap (c 0 + 1))) (3 + 5 * e.s.toNat + 1)) ((upd c 0 (IntKind.i64.wrap (c 0 + 1))) (3 + 5 * e.s.toNat + 2)) ((upd c 0 (IntKind.i64.wrap (c 0 + 1))) (3 + 5 * e.s.toNat + 3)) ((upd c 0 (IntKind.i64.wrap (c 0 + 1))) (3 + 5 * e.s.toNat + 4)))) (all_cons rfl rfl)) (by rw [E0_]; rfl) rfl rfl
end Go.Rh

set_option linter.unusedSimpArgs false
set_option linter.unusedVariables false
set_option maxRecDepth 100000
namespace Go.Rh
def entsL (es : List Ent) : List Value := (es.map eL).flatten
def zE : List Value := [iv 0, iv 0, iv 0, iv 0, iv 0, uv 0, uv 0]
theorem eL_scl (e : Ent) : (eL e).all sclf = true := rfl
theorem entsL_scl (es : List Ent) : (entsL es).all sclf = true := by
  simp only [entsL, List.all_flatten, List.all_map]
  exact List.all_eq_true.2 fun e _ => eL_scl e
theorem entsL_len (es : List Ent) : (entsL es).length = es.length * 7 := by
  induction es with
  | nil => rfl
  | cons e r ih => simp only [entsL, List.map_cons, List.flatten_cons, List.length_append, List.length_cons] at ih ⊢; rw [ih]; simp [eL]; omega
theorem entsL_snoc (es : List Ent) (e : Ent) : entsL es ++ eL e = entsL (es ++ [e]) := by simp [entsL]
theorem entsR_scl (es : List Ent) (m : Nat) : (entsL es ++ room zE m).all sclf = true := app_scl (entsL_scl es) (room_scl rfl m)
theorem entsL_get : ∀ (es : List Ent) (t : List Value) (i : Nat) (e : Ent), es[i]? = some e → partL (some 7) (entsL es ++ t) (i * 7) = some (entV e)
  | [], _, _, _, h => by simp at h
  | e :: es, t, 0, e', h => by
    simp at h; subst h
    have : entsL (e :: es) ++ t = eL e ++ (entsL es ++ t) := by simp [entsL]
    rw [this]; simp [partL, eL, entV]
  | e :: es, t, i + 1, e', h => by
    have h1 := entsL_get es t i e' (by simpa using h)
    have : entsL (e :: es) ++ t = eL e ++ (entsL es ++ t) := by simp [entsL]
    rw [this]
    unfold partL at h1 ⊢
    simp only at h1 ⊢
    split at h1
    · rename_i hl
      rw [if_pos (by simp [eL] at hl ⊢; omega)]
      rw [show (i + 1) * 7 = (eL e).length + i * 7 by simp [eL]; omega, List.drop_append]
      rw [List.drop_eq_nil_of_le (by simp [eL])]
      simpa using h1
    · cases h1
theorem ents_r {es : List Ent} {t : List Value} {o i : Nat} {e : Ent} (ho : o = 7 * i) (h : es[i]? = some e) : partL (some 7) (entsL es ++ t) o = some (entV e) := by
  subst ho; rw [Nat.mul_comm]; exact entsL_get es t i e h
theorem bld_newS (a p ka kb na nb : Int) : fillL (expand zP) [(1, 1, .int .i64 a), (2, 1, .int .i64 p), (323, 7, .agg #[.int .i64 1, .int .u64 0, .int .u64 0, .int .u64 ka, .int .u64 kb, .int .u64 na, .int .u64 nb])] = some (pl (newS a p ka kb na nb)) := by
  rw [zP_pl]
  have e1 : splice (pl zeroP) 1 [.int .i64 a] = pl (upd zeroP 1 a) := splice_one _ (by omega) _
  have e2 : splice (pl (upd zeroP 1 a)) 2 [.int .i64 p] = pl (upd (upd zeroP 1 a) 2 p) := splice_one _ (by omega) _
  have e3 := splice_ring (upd (upd zeroP 1 a) 2 p) 1 0 0 ka kb na nb
  simp only [fillL, isTup, vcells, List.length_cons, List.length_nil, pl_length]
  simp only [e1, e2, pl_length]
  simp only [e3]
  simp
  refine pl_ext fun k hk => ?_
  simp only [upd, newS, zeroP]
  by_cases h1 : k = 1
  · subst h1; simp
  by_cases h2 : k = 2
  · subst h2; simp
  by_cases h3 : k = 323
  · subst h3; simp
  by_cases h4 : k = 326
  · subst h4; simp
  by_cases h5 : k = 327
  · subst h5; simp
  by_cases h6 : k = 328
  · subst h6; simp
  by_cases h7 : k = 329
  · subst h7; simp
  simp [h1, h2, h3, h4, h5, h6, h7]
def newP (a p ka kb na nb : Int) : Flat × Int := if placedS a p = true then (newS a p ka kb na nb, 0) else (zeroP, 14)
theorem NewC' {P : Program} (hc : codeOf P "roundhouse/pool.New" = some c_pool_New) (hpl : codeOf P "roundhouse/pool.placed" = some c_pool_placed) (hring : codeOf P "roundhouse/cookie.Ring" = some c_cookie_Ring) (a p ka kb na nb : Int) :
    Env P "roundhouse/pool.New" [.int .i64 a, .int .i64 p, .agg #[.int .u64 ka, .int .u64 kb], .agg #[.int .u64 na, .int .u64 nb]] []
      (Ans (.tuple #[poolV (newP a p ka kb na nb).1, .int .i64 (newP a p ka kb na nb).2]) []) := by
  have h := NewC hc hpl hring a p ka kb na nb
  unfold newP
  by_cases hp : placedS a p = true
  · simp only [hp, if_true] at h ⊢; exact h
  · simp only [hp, if_false] at h ⊢; exact h
theorem AllE {P : Program} (hc : codeOf P "roundhouse/pool.All" = some c_pool_All) (h1 : codeOf P "roundhouse/pool.Apply" = some c_pool_Apply) (h2 : codeOf P "roundhouse/pool.may" = some c_pool_may) (h3 : codeOf P "roundhouse/pool.held" = some c_pool_held) (h4 : codeOf P "roundhouse/pool.fits" = some c_pool_fits) (h5 : codeOf P "roundhouse/pool.Check" = some c_pool_Check) (h6 : codeOf P "roundhouse/pool.placed" = some c_pool_placed) (h7 : codeOf P "roundhouse/cookie.Next" = some c_cookie_Next)
    (c : Flat) (es : List Ent) (m n cap : Nat) (hne : n = es.length) (hn : n ≤ 1000000) :
    Env P "roundhouse/pool.All" [poolV c, .slice (some ⟨0, 0, none⟩) n cap] (roL [entsL es ++ room zE m]) (Ans (.tuple #[poolV (allS c es 0).1, .int .i64 (allS c es 0).2.1, .int .i64 (allS c es 0).2.2]) (roL [entsL es ++ room zE m])) :=
  by subst hne; exact AllC hc ⟨h1, h2, h3, h4, h5, h6, h7⟩ c es _ 0 cap (entsR_scl es m) (fun i e he => by rw [Nat.zero_add]; exact entsL_get es _ i e he) hn
theorem getE {es : List Ent} {i : Nat} (h : i < es.length) : ∃ e, es[i]? = some e ∧ es.drop i = e :: es.drop (i + 1) :=
  ⟨es[i], by simp [h], List.drop_eq_getElem_cons h⟩
end Go.Rh

set_option linter.unusedSimpArgs false
set_option linter.unusedVariables false
set_option maxRecDepth 100000
set_option maxHeartbeats 8000000
namespace Go.Rh
def hitR (c : Flat) (a p : Int) (k : Nat) : Bool := takesS (c (3 + 5 * k)) && (c (3 + 5 * k + 1) == a && c (3 + 5 * k + 2) == p)
theorem refNewC {P : Program} (hc : codeOf P "roundhouse/roundhouseref6.New" = some c_ref6_New) (h_ref6_out : codeOf P "roundhouse/roundhouseref6.out" = some c_ref6_out) (h_ref5_Ring : codeOf P "roundhouse/roundhouseref5.Ring" = some c_ref5_Ring) (a p ka kb na nb : Int) :
    Env P "roundhouse/roundhouseref6.New" [iv a, iv p, .agg #[uv ka, uv kb], .agg #[uv na, uv nb]] ([]) (Ans (.tuple #[poolV ((newP a p ka kb na nb).1), iv ((newP a p ka kb na nb).2)]) ([])) := by
  refine Env.by hc ?_
  unfold c_ref6_New
  show GC _ 0 _ _ ⟨reg [(0, iv a), (1, iv p), (2, .agg #[uv ka, uv kb]), (3, .agg #[uv na, uv nb])], []⟩
  refine gseq ?_
  refine greg ?_
  refine o_b 4 [(9, iv 0), (8, pv 2 0), (7, pv 1 0), (6, pv 0 0)] [cw [uv ka, uv kb], cw [uv na, uv nb], cw (pl zeroP)] (by kernel_rfl) ?_
  refine o_nil ?_
  refine seq_go ?_
  refine gseq ?_
  refine gseq ?_
  refine greg ?_
  refine o_d 1 [(10, iv a)] (by kernel_rfl) ?_
  refine o_cl (callV (outC h_ref6_out a 0 4294967295) rfl rfl rfl ?_)
  refine o_d 1 [(12, bv (outS a 0 4294967295))] (by kernel_rfl) ?_
  refine o_sp (b := outS a 0 4294967295) 12 rfl (fun h1 => ?_) (fun h1 => ?_)
  · skip
    refine o_d 3 [(15, bv true), (14, undef), (13, undef)] (by kernel_rfl) ?_
    refine o_nil ?_
    refine seq_go ?_
    refine gtrue rfl ?_
    refine gseq ?_
    refine greg ?_
    refine o_s (by refine run_bld (c := pl zeroP) ?_; exact bld_zP) ?_
    refine o_s0 (by refine run_st (c' := pl zeroP) rfl rfl rfl ?_ ?_ ?_; exact pl_length _; exact pl_le (by omega); exact splice_pl0 zeroP zeroP) ?_
    refine o_d 1 [(9, iv 14)] (by kernel_rfl) ?_
    refine o_nil ?_
    refine seq_go ?_
    refine gret ?_
    have e0 : newP a p ka kb na nb = (zeroP, 14) := by
      have hp := out_placed a p
      simp only [h1, Bool.true_or, Bool.false_or] at hp
      have hp2 : placedS a p = false := by revert hp; cases placedS a p <;> simp
      simp [newP, hp2]
    exact fin_ans [poolV zeroP, iv 14] (resV_c rfl rfl (pl_all zeroP) (resV_t rfl rfl)) (all_cons (poolV_aggf zeroP) (all_cons rfl rfl)) (by rw [e0]; rfl) rfl rfl
  · skip
    refine o_d 1 [(13, iv p)] (by kernel_rfl) ?_
    refine o_unguard rfl ?_
    refine o_cl (callV (outC h_ref6_out p 0 65535) rfl rfl rfl ?_)
    refine o_d 1 [(15, bv (outS p 0 65535))] (by kernel_rfl) ?_
    refine o_nil ?_
    refine seq_go ?_
    refine gcond (t := outS p 0 65535) rfl (fun h2 => ?_) (fun h2 => ?_)
    · skip
      refine gseq ?_
      refine greg ?_
      refine o_s (by refine run_bld (c := pl zeroP) ?_; exact bld_zP) ?_
      refine o_s0 (by refine run_st (c' := pl zeroP) rfl rfl rfl ?_ ?_ ?_; exact pl_length _; exact pl_le (by omega); exact splice_pl0 zeroP zeroP) ?_
      refine o_d 1 [(9, iv 14)] (by kernel_rfl) ?_
      refine o_nil ?_
      refine seq_go ?_
      refine gret ?_
      have e0 : newP a p ka kb na nb = (zeroP, 14) := by
        have hp := out_placed a p
        simp only [h1, h2, Bool.true_or, Bool.false_or] at hp
        have hp2 : placedS a p = false := by revert hp; cases placedS a p <;> simp
        simp [newP, hp2]
      exact fin_ans [poolV zeroP, iv 14] (resV_c rfl rfl (pl_all zeroP) (resV_t rfl rfl)) (all_cons (poolV_aggf zeroP) (all_cons rfl rfl)) (by rw [e0]; rfl) rfl rfl
    · skip
      refine gskip ?_
      refine seq_go ?_
      refine gseq ?_
      refine greg ?_
      refine o_b 6 [(22, sv 3 0 3 3), (21, .agg #[uv na, uv nb]), (20, .agg #[uv ka, uv kb]), (19, .agg #[uv 0, uv 0]), (18, iv p), (17, iv a)] [cw [uv ka, uv kb], cw [uv na, uv nb], cw (pl zeroP), cw [uv 0, uv 0, uv ka, uv kb, uv na, uv nb]] (by kernel_rfl) ?_
      refine o_cl (callS (a1 := [.int .i64 1, .slice (some ⟨0, 0, none⟩) 3 3]) [3] [[uv 0, uv 0, uv ka, uv kb, uv na, uv nb]] (refRingC h_ref5_Ring 1 0 0 ka kb na nb) rfl (fun _ => rfl) ⟨⟨_, rfl⟩, rfl, trivial⟩ rfl ?_)
      refine o_s (by refine run_bld (c := pl (newS a p ka kb na nb)) ?_; exact (bld_newS a p ka kb na nb)) ?_
      refine o_s0 (by refine run_st (c' := pl (newS a p ka kb na nb)) rfl rfl rfl ?_ ?_ ?_; exact pl_length _; exact pl_le (by omega); exact splice_pl0 zeroP (newS a p ka kb na nb)) ?_
      refine o_b 1 [(9, iv 0)] [cw [uv ka, uv kb], cw [uv na, uv nb], cw (pl (newS a p ka kb na nb)), cw [uv 0, uv 0, uv ka, uv kb, uv na, uv nb]] (by kernel_rfl) ?_
      refine o_nil ?_
      refine seq_regs [(9, iv 0), (8, pv 2 0)] (by kernel_rfl) ?_
      refine gret ?_
      have e0 : newP a p ka kb na nb = (newS a p ka kb na nb, 0) := by
        have hp := out_placed a p
        simp only [h1, h2, Bool.true_or, Bool.false_or] at hp
        have hp2 : placedS a p = true := by revert hp; cases placedS a p <;> simp
        simp [newP, hp2]
      exact fin_ans [poolV (newS a p ka kb na nb), iv 0] (resV_c rfl rfl (pl_all (newS a p ka kb na nb)) (resV_t rfl rfl)) (all_cons (poolV_aggf (newS a p ka kb na nb)) (all_cons rfl rfl)) (by rw [e0]; rfl) rfl rfl
theorem refAllC {P : Program} (hc : codeOf P "roundhouse/roundhouseref6.All" = some c_ref6_All) (h_ref6_Apply : codeOf P "roundhouse/roundhouseref6.Apply" = some c_ref6_Apply) (h_ref6_Check : codeOf P "roundhouse/roundhouseref6.Check" = some c_ref6_Check) (h_ref6_out : codeOf P "roundhouse/roundhouseref6.out" = some c_ref6_out) (h_ref6_bad : codeOf P "roundhouse/roundhouseref6.bad" = some c_ref6_bad) (h_ref6_Held : codeOf P "roundhouse/roundhouseref6.Held" = some c_ref6_Held) (h_ref5_Next : codeOf P "roundhouse/roundhouseref5.Next" = some c_ref5_Next) (c : Flat) (es : List Ent) (m cap : Nat) (hn : es.length ≤ 1000000) :
    Env P "roundhouse/roundhouseref6.All" [poolV c, sv 0 0 es.length cap] (roL [entsL es ++ room zE m]) (Ans (.tuple #[poolV ((allS c es 0).1), iv ((allS c es 0).2.1), iv ((allS c es 0).2.2)]) (roL [entsL es ++ room zE m])) := by
  refine Env.by hc ?_
  unfold c_ref6_All
  show GC _ 1 _ _ ⟨reg [(0, poolV c), (1, sv 0 0 es.length cap)], [cr (entsL es ++ room zE m)]⟩
  refine gseq ?_
  refine greg ?_
  refine o_b 4 [(6, iv 0), (5, iv 0), (4, pv 2 0), (2, pv 1 0)] [cr (entsL es ++ room zE m), cw (pl c), cw (pl zeroP)] (by kernel_rfl) ?_
  refine o_nil ?_
  refine seq_go ?_
  refine gseq ?_
  refine gseq ?_
  refine greg ?_
  refine o_d 1 [(7, iv 0)] (by kernel_rfl) ?_
  refine o_nil ?_
  refine seq_go ?_
  refine gblock ?_
  refine gloop (fun μ s => ∃ (i : Nat), ∃ (d : Flat), μ = es.length - i ∧ (i ≤ es.length) ∧ (allS d (es.drop i) i = allS c es 0) ∧ s = ⟨reg [(7, iv (i : Int)), (4, pv 2 0), (2, pv 1 0), (1, sv 0 0 es.length cap)], [cr (entsL es ++ room zE m), cw (pl d), cw (pl zeroP)]⟩) ⟨(es.length - 0), ?_⟩ ?_
  · skip
    refine ⟨⟨reg [(7, iv (0 : Int)), (4, pv 2 0), (2, pv 1 0), (1, sv 0 0 es.length cap)], [cr (entsL es ++ room zE m), cw (pl c), cw (pl zeroP)]⟩, ?_⟩
    refine ⟨?_, ?_⟩
    · exact Wk.ren [0, 1, 2] rfl rfl (by decide) ⟨rfl, ⟨rfl, ⟨rfl, ⟨rfl, trivial⟩⟩⟩⟩ ⟨.inl (ren_cells (entsR_scl es m)), ⟨.inl (ren_cells (pl_scl c)), ⟨.inl (ren_cells (pl_scl zeroP)), trivial⟩⟩⟩
    · exact ⟨0, c, rfl, by omega, rfl, rfl⟩
  · rintro μ s ⟨i, d, rfl, hi, hf, rfl⟩
    refine gseq ?_
    refine gseq ?_
    refine greg ?_
    refine o_d 4 [(13, bv (decide ((i : Int) < (es.length : Nat)))), (12, iv (es.length : Nat)), (11, sv 0 0 es.length cap), (10, iv (i : Int))] (by kernel_rfl) ?_
    refine o_nil ?_
    refine seq_go ?_
    refine gcond (t := decide ((i : Int) < (es.length : Nat))) rfl (fun h1 => ?_) (fun h1 => ?_)
    · skip
      have h1' : (i : Int) < (es.length : Nat) := of_decide_eq_true h1
      have hlt : i < es.length := by omega
      obtain ⟨e, he, hdrop⟩ := getE hlt
      refine gskip ?_
      refine seq_go ?_
      refine gseq ?_
      refine gblock ?_
      refine gseq ?_
      refine gdreg ["roundhouse/roundhouseref6.Apply"] (by kernel_rfl) ?_
      refine r_s (by refine run_ld (v := poolV d) rfl rfl ?_; exact pl_all d) ?_
      refine r_d 2 [(19, iv (i : Int)), (18, sv 0 0 es.length cap)] (by kernel_rfl) ?_
      refine r_s (by exact run_iadS (o := 0) (o' := 7 * i) rfl rfl (by omega) (by omega)) ?_
      refine r_s (by refine run_ld (v := .agg #[iv e.k, iv e.s, iv e.a, iv e.p, iv e.g, uv e.ka, uv e.kb]) rfl rfl ?_; exact ents_r (i := i) (by omega) he) ?_
      refine r_cl (callVR (refApplyC h_ref6_Apply h_ref6_Check h_ref6_out h_ref6_bad h_ref6_Held h_ref5_Next d e) rfl (all_cons (poolV_vpf d) (all_cons rfl rfl)) (all_cons (poolV_aggf ((applyS d e).1)) (all_cons rfl rfl)) ?_)
      refine r_b 4 [(8, pv 3 0), (24, iv ((applyS d e).2)), (23, poolV ((applyS d e).1)), (16, .tuple #[poolV ((applyS d e).1), iv ((applyS d e).2)])] [cr (entsL es ++ room zE m), cw (pl d), cw (pl zeroP), cw (pl zeroP)] (by kernel_rfl) ?_
      refine r_s0 (by refine run_st (c' := pl ((applyS d e).1)) rfl rfl rfl ?_ ?_ ?_; exact pl_length _; exact pl_le (by omega); exact splice_pl0 zeroP ((applyS d e).1)) ?_
      refine r_b 1 [(9, iv ((applyS d e).2))] [cr (entsL es ++ room zE m), cw (pl d), cw (pl zeroP), cw (pl ((applyS d e).1))] (by kernel_rfl) ?_
      refine r_nil ?_
      refine seq_go ?_
      refine gseq ?_
      refine gseq ?_
      refine greg ?_
      refine o_d 2 [(26, bv (((applyS d e).2) != 0)), (25, iv ((applyS d e).2))] (by kernel_rfl) ?_
      refine o_nil ?_
      refine seq_go ?_
      refine gcond (t := ((applyS d e).2) != 0) rfl (fun h2 => ?_) (fun h2 => ?_)
      · skip
        have h2' : (applyS d e).2 ≠ 0 := neI_t h2
        refine gseq ?_
        refine greg ?_
        refine o_s (by refine run_ld (v := poolV d) rfl rfl ?_; exact pl_all d) ?_
        refine o_d 2 [(29, iv ((applyS d e).2)), (28, iv (i : Int))] (by kernel_rfl) ?_
        refine o_s0 (by refine run_st (c' := pl d) rfl rfl rfl ?_ ?_ ?_; exact pl_length _; exact pl_le (by omega); exact splice_pl0 zeroP d) ?_
        refine o_b 2 [(6, iv ((applyS d e).2)), (5, iv (i : Int))] [cr (entsL es ++ room zE m), cw (pl d), cw (pl d), cw (pl ((applyS d e).1))] (by kernel_rfl) ?_
        refine o_nil ?_
        refine seq_regs [(6, iv ((applyS d e).2)), (5, iv (i : Int)), (4, pv 2 0)] (by kernel_rfl) ?_
        refine gret ?_
        have e0 : allS c es 0 = (d, i, (applyS d e).2) := by
          rw [← hf]; simp [allS, hdrop, h1, h1', h2, h2']
        exact fin_ans [poolV d, iv (i : Int), iv ((applyS d e).2)] (resV_c rfl rfl (pl_all d) (resV_t rfl (resV_t rfl rfl))) (all_cons (poolV_aggf d) (all_cons rfl (all_cons rfl rfl))) (by rw [e0]; rfl) rfl (show List.all [cr (entsL es ++ room zE m)] blkf = true from (all_cons (entsR_scl es m) rfl))
      · skip
        have h2' : ¬ ((applyS d e).2 ≠ 0) := neI_f h2
        refine gskip ?_
        refine seq_go ?_
        refine greg ?_
        refine o_s (by refine run_ld (v := poolV ((applyS d e).1)) rfl rfl ?_; exact pl_all ((applyS d e).1)) ?_
        refine o_s0 (by refine run_st (c' := pl ((applyS d e).1)) rfl rfl rfl ?_ ?_ ?_; exact pl_length _; exact pl_le (by omega); exact splice_pl0 d ((applyS d e).1)) ?_
        refine o_nil ?_
        refine seq_go ?_
        refine greg ?_
        refine o_d 1 [(14, iv (i : Int))] (by kernel_rfl) ?_
        refine o_s (by refine run_val (v := .int .i64 (IntKind.i64.wrap ((i : Int) + 1))) (congrArg (Value.int .i64) (w64 (by omega) (by omega))) ?_; kernel_rfl) ?_
        refine o_d 1 [(7, iv ((i : Int) + 1))] (by kernel_rfl) ?_
        refine o_nil ?_
        refine ⟨es.length - (i + 1), ?_⟩
        refine ⟨⟨reg [(7, iv ((i + 1) : Int)), (4, pv 2 0), (2, pv 1 0), (1, sv 0 0 es.length cap)], [cr (entsL es ++ room zE m), cw (pl ((applyS d e).1)), cw (pl zeroP)]⟩, ?_⟩
        refine and3 (by omega) ⟨?_, ?_⟩
        · exact Wk.ren [0, 1, 2] rfl rfl (by decide) ⟨rfl, ⟨rfl, ⟨rfl, ⟨rfl, trivial⟩⟩⟩⟩ ⟨.inl (ren_cells (entsR_scl es m)), ⟨.inl (ren_cells (pl_scl ((applyS d e).1))), ⟨.inl (ren_cells (pl_scl zeroP)), trivial⟩⟩⟩
        · exact ⟨(i + 1), ((applyS d e).1), rfl, by omega, (by rw [← hf]; simp [allS, hdrop, h1, h1', h2, h2']), rfl⟩
    · skip
      have h1' : ¬ ((i : Int) < (es.length : Nat)) := of_decide_eq_false h1
      refine gexit ?_
      refine seq_go ?_
      refine gseq ?_
      refine greg ?_
      refine o_s (by refine run_ld (v := poolV d) rfl rfl ?_; exact pl_all d) ?_
      refine o_d 2 [(33, iv (es.length : Nat)), (32, sv 0 0 es.length cap)] (by kernel_rfl) ?_
      refine o_s0 (by refine run_st (c' := pl d) rfl rfl rfl ?_ ?_ ?_; exact pl_length _; exact pl_le (by omega); exact splice_pl0 zeroP d) ?_
      refine o_b 2 [(6, iv 0), (5, iv (es.length : Nat))] [cr (entsL es ++ room zE m), cw (pl d), cw (pl d)] (by kernel_rfl) ?_
      refine o_nil ?_
      refine seq_go ?_
      refine gret ?_
      have e0 : allS c es 0 = (d, es.length, 0) := by
        have hi' : es.length ≤ i := by omega
        rw [← hf, List.drop_eq_nil_of_le hi']
        have : i = es.length := by omega
        subst this; rfl
      exact fin_ans [poolV d, iv (es.length : Nat), iv 0] (resV_c rfl rfl (pl_all d) (resV_t rfl (resV_t rfl rfl))) (all_cons (poolV_aggf d) (all_cons rfl (all_cons rfl rfl))) (by rw [e0]; rfl) rfl (show List.all [cr (entsL es ++ room zE m)] blkf = true from (all_cons (entsR_scl es m) rfl))
theorem refFindC {P : Program} (hc : codeOf P "roundhouse/roundhouseref6.Find" = some c_ref6_Find) (h_ref6_Takes : codeOf P "roundhouse/roundhouseref6.Takes" = some c_ref6_Takes) (c : Flat) (a p : Int) :
    Env P "roundhouse/roundhouseref6.Find" [poolV c, iv a, iv p] ([]) (Ans (.tuple #[iv ((findR (hitR c a p) 0 64).1), bv ((findR (hitR c a p) 0 64).2)]) ([])) := by
  refine Env.by hc ?_
  unfold c_ref6_Find
  show GC _ 0 _ _ ⟨reg [(0, poolV c), (1, iv a), (2, iv p)], []⟩
  refine gseq ?_
  refine greg ?_
  refine o_b 3 [(7, bv false), (6, iv 0), (3, pv 0 0)] [cw (pl c)] (by kernel_rfl) ?_
  refine o_nil ?_
  refine seq_go ?_
  refine gseq ?_
  refine gseq ?_
  refine greg ?_
  refine o_d 1 [(8, iv 0)] (by kernel_rfl) ?_
  refine o_nil ?_
  refine seq_go ?_
  refine gblock ?_
  refine gloop (fun μ s => ∃ (i : Nat), μ = 64 - i ∧ (i ≤ 64) ∧ (findR (hitR c a p) i (64 - i) = findR (hitR c a p) 0 64) ∧ s = ⟨reg [(8, iv (i : Int)), (3, pv 0 0), (1, iv a), (2, iv p)], [cw (pl c)]⟩) ⟨(64 - 0), ?_⟩ ?_
  · skip
    refine ⟨⟨reg [(8, iv (0 : Int)), (3, pv 0 0), (1, iv a), (2, iv p)], [cw (pl c)]⟩, ?_⟩
    refine ⟨?_, ?_⟩
    · exact Wk.ren [0] rfl rfl (by decide) ⟨rfl, ⟨rfl, ⟨rfl, ⟨rfl, trivial⟩⟩⟩⟩ ⟨.inl (ren_cells (pl_scl c)), trivial⟩
    · exact ⟨0, rfl, by omega, rfl, rfl⟩
  · rintro μ s ⟨i, rfl, hi, hf, rfl⟩
    refine gseq ?_
    refine gseq ?_
    refine greg ?_
    refine o_d 2 [(11, bv (decide ((i : Int) < 64))), (10, iv (i : Int))] (by kernel_rfl) ?_
    refine o_nil ?_
    refine seq_go ?_
    refine gcond (t := decide ((i : Int) < 64)) rfl (fun h1 => ?_) (fun h1 => ?_)
    · skip
      have h1' : (i : Int) < 64 := of_decide_eq_true h1
      have hstep : findR (hitR c a p) i (64 - i) = if hitR c a p i then ((i : Int), true) else findR (hitR c a p) (i + 1) (64 - (i + 1)) := by rw [show 64 - i = (64 - (i + 1)) + 1 by omega]; rfl
      refine gskip ?_
      refine seq_go ?_
      refine gseq ?_
      refine gblock ?_
      refine gseq ?_
      refine greg ?_
      refine o_d 2 [(15, pv 0 3), (14, iv (i : Int))] (by kernel_rfl) ?_
      refine o_s (by exact run_iadA (o := 3) (o' := 3 + 5 * i) rfl rfl (by omega) (by omega)) ?_
      refine o_s (by refine run_ld (v := .agg #[iv (c (3 + 5 * i)), iv (c (3 + 5 * i + 1)), iv (c (3 + 5 * i + 2)), iv (c (3 + 5 * i + 3)), iv (c (3 + 5 * i + 4))]) rfl rfl ?_; exact pl_rS c i (by omega) (by omega)) ?_
      refine o_b 2 [(9, pv 1 0)] [cw (pl c), cw [iv (c (3 + 5 * i)), iv (c (3 + 5 * i + 1)), iv (c (3 + 5 * i + 2)), iv (c (3 + 5 * i + 3)), iv (c (3 + 5 * i + 4))]] (by kernel_rfl) ?_
      refine o_nil ?_
      refine seq_go ?_
      refine gseq ?_
      refine greg ?_
      refine o_d 1 [(18, .agg #[iv (c (3 + 5 * i)), iv (c (3 + 5 * i + 1)), iv (c (3 + 5 * i + 2)), iv (c (3 + 5 * i + 3)), iv (c (3 + 5 * i + 4))])] (by kernel_rfl) ?_
      refine o_cl (callV (refTakesC h_ref6_Takes (c (3 + 5 * i)) (c (3 + 5 * i + 1)) (c (3 + 5 * i + 2)) (c (3 + 5 * i + 3)) (c (3 + 5 * i + 4))) rfl rfl rfl ?_)
      refine o_d 1 [(20, bv (takesS (c (3 + 5 * i))))] (by kernel_rfl) ?_
      refine o_sp (b := takesS (c (3 + 5 * i))) 20 rfl (fun h2 => ?_) (fun h2 => ?_)
      · skip
        refine o_d 6 [(26, bv ((c (3 + 5 * i + 1)) == a)), (25, bv ((c (3 + 5 * i + 1)) == a)), (24, bv ((c (3 + 5 * i + 1)) == a)), (23, iv a), (22, iv (c (3 + 5 * i + 1))), (21, pv 1 1)] (by kernel_rfl) ?_
        refine o_sp (b := (c (3 + 5 * i + 1)) == a) 26 rfl (fun h3 => ?_) (fun h3 => ?_)
        · skip
          have h3' : c (3 + 5 * i + 1) = a := eqI_t h3
          refine o_d 5 [(31, bv ((c (3 + 5 * i + 2)) == p)), (30, bv ((c (3 + 5 * i + 2)) == p)), (29, iv p), (28, iv (c (3 + 5 * i + 2))), (27, pv 1 2)] (by kernel_rfl) ?_
          refine o_nil ?_
          refine seq_regs [(31, bv ((c (3 + 5 * i + 2)) == p)), (8, iv (i : Int)), (3, pv 0 0), (1, iv a), (2, iv p)] (by kernel_rfl) ?_
          refine gcond (t := (c (3 + 5 * i + 2)) == p) rfl (fun h4 => ?_) (fun h4 => ?_)
          · skip
            have h4' : c (3 + 5 * i + 2) = p := eqI_t h4
            refine gseq ?_
            refine greg ?_
            refine o_d 3 [(7, bv true), (6, iv (i : Int)), (32, iv (i : Int))] (by kernel_rfl) ?_
            refine o_nil ?_
            refine seq_go ?_
            refine gret ?_
            have e0 : findR (hitR c a p) 0 64 = ((i : Int), true) := by
              rw [← hf, hstep]; simp [hitR, h1, h1', h2, h3, h3', h4, h4']
            exact fin_ans [iv (i : Int), bv true] (resV_t rfl (resV_t rfl rfl)) rfl (by rw [e0]; rfl) rfl rfl
          · skip
            have h4' : ¬ (c (3 + 5 * i + 2) = p) := eqI_f h4
            refine gskip ?_
            refine seq_go ?_
            refine greg ?_
            refine o_d 1 [(12, iv (i : Int))] (by kernel_rfl) ?_
            refine o_s (by refine run_val (v := .int .i64 (IntKind.i64.wrap ((i : Int) + 1))) (congrArg (Value.int .i64) (w64 (by omega) (by omega))) ?_; kernel_rfl) ?_
            refine o_d 1 [(8, iv ((i : Int) + 1))] (by kernel_rfl) ?_
            refine o_nil ?_
            refine ⟨64 - (i + 1), ?_⟩
            refine ⟨⟨reg [(8, iv ((i + 1) : Int)), (3, pv 0 0), (1, iv a), (2, iv p)], [cw (pl c)]⟩, ?_⟩
            refine and3 (by omega) ⟨?_, ?_⟩
            · exact Wk.ren [0] rfl rfl (by decide) ⟨rfl, ⟨rfl, ⟨rfl, ⟨rfl, trivial⟩⟩⟩⟩ ⟨.inl (ren_cells (pl_scl c)), trivial⟩
            · exact ⟨(i + 1), rfl, by omega, (by rw [← hf, hstep]; simp [hitR, h1, h1', h2, h3, h3', h4, h4']), rfl⟩
        · skip
          have h3' : ¬ (c (3 + 5 * i + 1) = a) := eqI_f h3
          refine o_d 5 [(31, bv false), (30, undef), (29, undef), (28, undef), (27, undef)] (by kernel_rfl) ?_
          refine o_nil ?_
          refine seq_regs [(31, bv false), (8, iv (i : Int)), (3, pv 0 0), (1, iv a), (2, iv p)] (by kernel_rfl) ?_
          refine gfalse rfl ?_
          refine gskip ?_
          refine seq_go ?_
          refine greg ?_
          refine o_d 1 [(12, iv (i : Int))] (by kernel_rfl) ?_
          refine o_s (by refine run_val (v := .int .i64 (IntKind.i64.wrap ((i : Int) + 1))) (congrArg (Value.int .i64) (w64 (by omega) (by omega))) ?_; kernel_rfl) ?_
          refine o_d 1 [(8, iv ((i : Int) + 1))] (by kernel_rfl) ?_
          refine o_nil ?_
          refine ⟨64 - (i + 1), ?_⟩
          refine ⟨⟨reg [(8, iv ((i + 1) : Int)), (3, pv 0 0), (1, iv a), (2, iv p)], [cw (pl c)]⟩, ?_⟩
          refine and3 (by omega) ⟨?_, ?_⟩
          · exact Wk.ren [0] rfl rfl (by decide) ⟨rfl, ⟨rfl, ⟨rfl, ⟨rfl, trivial⟩⟩⟩⟩ ⟨.inl (ren_cells (pl_scl c)), trivial⟩
          · exact ⟨(i + 1), rfl, by omega, (by rw [← hf, hstep]; simp [hitR, h1, h1', h2, h3, h3']), rfl⟩
      · skip
        refine o_d 11 [(31, bv false), (30, undef), (29, undef), (28, undef), (27, undef), (26, bv false), (25, bv false), (24, undef), (23, undef), (22, undef), (21, undef)] (by kernel_rfl) ?_
        refine o_nil ?_
        refine seq_regs [(31, bv false), (8, iv (i : Int)), (3, pv 0 0), (1, iv a), (2, iv p)] (by kernel_rfl) ?_
        refine gfalse rfl ?_
        refine gskip ?_
        refine seq_go ?_
        refine greg ?_
        refine o_d 1 [(12, iv (i : Int))] (by kernel_rfl) ?_
        refine o_s (by refine run_val (v := .int .i64 (IntKind.i64.wrap ((i : Int) + 1))) (congrArg (Value.int .i64) (w64 (by omega) (by omega))) ?_; kernel_rfl) ?_
        refine o_d 1 [(8, iv ((i : Int) + 1))] (by kernel_rfl) ?_
        refine o_nil ?_
        refine ⟨64 - (i + 1), ?_⟩
        refine ⟨⟨reg [(8, iv ((i + 1) : Int)), (3, pv 0 0), (1, iv a), (2, iv p)], [cw (pl c)]⟩, ?_⟩
        refine and3 (by omega) ⟨?_, ?_⟩
        · exact Wk.ren [0] rfl rfl (by decide) ⟨rfl, ⟨rfl, ⟨rfl, ⟨rfl, trivial⟩⟩⟩⟩ ⟨.inl (ren_cells (pl_scl c)), trivial⟩
        · exact ⟨(i + 1), rfl, by omega, (by rw [← hf, hstep]; simp [hitR, h1, h1', h2]), rfl⟩
    · skip
      have h1' : ¬ ((i : Int) < 64) := of_decide_eq_false h1
      refine gexit ?_
      refine seq_go ?_
      refine gseq ?_
      refine greg ?_
      refine o_d 2 [(7, bv false), (6, iv 0)] (by kernel_rfl) ?_
      refine o_nil ?_
      refine seq_go ?_
      refine gret ?_
      have e0 : findR (hitR c a p) 0 64 = (0, false) := by
        have hi' : i = 64 := by omega
        subst hi'
        rw [← hf]; rfl
      exact fin_ans [iv 0, bv false] (resV_t rfl (resV_t rfl rfl)) rfl (by rw [e0]; rfl) rfl rfl
def entS (n : Int) : Ent := (bif ((IntKind.i64.wrap ((withinS n 1125899906842624).tdiv 48)).tmod 29) == 0 then (bif ((withinS n 1125899906842624).tmod 8) == 0 then ⟨1, (IntKind.i64.wrap ((withinS n 1125899906842624).tdiv 48)).tmod 66, (IntKind.i64.wrap ((withinS n 1125899906842624).tdiv 400)).tmod 5, (IntKind.i64.wrap ((withinS n 1125899906842624).tdiv 2000)).tmod 3, IntKind.i64.wrap (1 + (IntKind.i64.wrap ((withinS n 1125899906842624).tdiv 6000)).tmod 8), 0, 0⟩ else (bif ((withinS n 1125899906842624).tmod 8) == 1 then ⟨1, (IntKind.i64.wrap ((withinS n 1125899906842624).tdiv 48)).tmod 66, (IntKind.i64.wrap ((withinS n 1125899906842624).tdiv 400)).tmod 5, (IntKind.i64.wrap ((withinS n 1125899906842624).tdiv 2000)).tmod 3, IntKind.i64.wrap (1 + (IntKind.i64.wrap ((withinS n 1125899906842624).tdiv 6000)).tmod 8), 0, 0⟩ else (bif ((withinS n 1125899906842624).tmod 8) == 2 then ⟨2, (IntKind.i64.wrap ((withinS n 1125899906842624).tdiv 48)).tmod 66, 0, 0, 0, 0, 0⟩ else (bif ((withinS n 1125899906842624).tmod 8) == 3 then ⟨3, (IntKind.i64.wrap ((withinS n 1125899906842624).tdiv 48)).tmod 66, 0, 0, 0, 0, 0⟩ else (bif ((withinS n 1125899906842624).tmod 8) == 4 then ⟨4, (IntKind.i64.wrap ((withinS n 1125899906842624).tdiv 48)).tmod 66, 0, 0, 0, 0, 0⟩ else (bif ((withinS n 1125899906842624).tmod 8) == 5 then ⟨5, (IntKind.i64.wrap ((withinS n 1125899906842624).tdiv 48)).tmod 66, 0, 0, 0, 0, 0⟩ else ⟨6, 0, 0, 0, 0, keyA (withinS n 1125899906842624), keyB (withinS n 1125899906842624)⟩)))))) else (bif ((withinS n 1125899906842624).tmod 8) == 0 then ⟨1, (IntKind.i64.wrap ((withinS n 1125899906842624).tdiv 8)).tmod 6, (IntKind.i64.wrap ((withinS n 1125899906842624).tdiv 400)).tmod 5, (IntKind.i64.wrap ((withinS n 1125899906842624).tdiv 2000)).tmod 3, IntKind.i64.wrap (1 + (IntKind.i64.wrap ((withinS n 1125899906842624).tdiv 6000)).tmod 8), 0, 0⟩ else (bif ((withinS n 1125899906842624).tmod 8) == 1 then ⟨1, (IntKind.i64.wrap ((withinS n 1125899906842624).tdiv 8)).tmod 6, (IntKind.i64.wrap ((withinS n 1125899906842624).tdiv 400)).tmod 5, (IntKind.i64.wrap ((withinS n 1125899906842624).tdiv 2000)).tmod 3, IntKind.i64.wrap (1 + (IntKind.i64.wrap ((withinS n 1125899906842624).tdiv 6000)).tmod 8), 0, 0⟩ else (bif ((withinS n 1125899906842624).tmod 8) == 2 then ⟨2, (IntKind.i64.wrap ((withinS n 1125899906842624).tdiv 8)).tmod 6, 0, 0, 0, 0, 0⟩ else (bif ((withinS n 1125899906842624).tmod 8) == 3 then ⟨3, (IntKind.i64.wrap ((withinS n 1125899906842624).tdiv 8)).tmod 6, 0, 0, 0, 0, 0⟩ else (bif ((withinS n 1125899906842624).tmod 8) == 4 then ⟨4, (IntKind.i64.wrap ((withinS n 1125899906842624).tdiv 8)).tmod 6, 0, 0, 0, 0, 0⟩ else (bif ((withinS n 1125899906842624).tmod 8) == 5 then ⟨5, (IntKind.i64.wrap ((withinS n 1125899906842624).tdiv 8)).tmod 6, 0, 0, 0, 0, 0⟩ else ⟨6, 0, 0, 0, 0, keyA (withinS n 1125899906842624), keyB (withinS n 1125899906842624)⟩)))))))
theorem EntryC {P : Program} (hc : codeOf P "roundhouse/roundhouselaw6.Entry" = some c_law6_Entry) (h_law6_within : codeOf P "roundhouse/roundhouselaw6.within" = some c_law6_within) (h_law5_Key : codeOf P "roundhouse/roundhouselaw5.Key" = some c_law5_Key) (n : Int) :
    Env P "roundhouse/roundhouselaw6.Entry" [iv n] ([]) (Ans (.agg #[iv ((entS n).k), iv ((entS n).s), iv ((entS n).a), iv ((entS n).p), iv ((entS n).g), uv ((entS n).ka), uv ((entS n).kb)]) ([])) := by
  refine Env.by hc ?_
  unfold c_law6_Entry
  show GC _ 0 _ _ ⟨reg [(0, iv n)], []⟩
  refine gseq ?_
  refine greg ?_
  refine o_b 1 [(2, pv 0 0)] [cw [iv 0, iv 0, iv 0, iv 0, iv 0, uv 0, uv 0]] (by kernel_rfl) ?_
  refine o_nil ?_
  refine seq_go ?_
  refine gseq ?_
  refine greg ?_
  refine o_d 1 [(5, iv n)] (by kernel_rfl) ?_
  refine o_cl (callV (withinC h_law6_within n 1125899906842624 (by decide)) rfl rfl rfl ?_)
  refine o_d 1 [(3, iv (withinS n 1125899906842624))] (by kernel_rfl) ?_
  refine o_nil ?_
  refine seq_go ?_
  refine gseq ?_
  refine greg ?_
  refine o_d 4 [(4, iv ((IntKind.i64.wrap ((withinS n 1125899906842624).tdiv 8)).tmod 6)), (9, iv ((IntKind.i64.wrap ((withinS n 1125899906842624).tdiv 8)).tmod 6)), (8, iv (IntKind.i64.wrap ((withinS n 1125899906842624).tdiv 8))), (7, iv (withinS n 1125899906842624))] (by kernel_rfl) ?_
  refine o_nil ?_
  refine seq_go ?_
  refine gseq ?_
  refine gseq ?_
  refine greg ?_
  refine o_d 4 [(13, bv (((IntKind.i64.wrap ((withinS n 1125899906842624).tdiv 48)).tmod 29) == 0)), (12, iv ((IntKind.i64.wrap ((withinS n 1125899906842624).tdiv 48)).tmod 29)), (11, iv (IntKind.i64.wrap ((withinS n 1125899906842624).tdiv 48))), (10, iv (withinS n 1125899906842624))] (by kernel_rfl) ?_
  refine o_nil ?_
  refine seq_go ?_
  refine gcond (t := ((IntKind.i64.wrap ((withinS n 1125899906842624).tdiv 48)).tmod 29) == 0) rfl (fun h1 => ?_) (fun h1 => ?_)
  · skip
    have h1' : (IntKind.i64.wrap ((withinS n 1125899906842624).tdiv 48)).tmod 29 = 0 := eqI_t h1
    refine greg ?_
    refine o_d 4 [(4, iv ((IntKind.i64.wrap ((withinS n 1125899906842624).tdiv 48)).tmod 66)), (16, iv ((IntKind.i64.wrap ((withinS n 1125899906842624).tdiv 48)).tmod 66)), (15, iv (IntKind.i64.wrap ((withinS n 1125899906842624).tdiv 48))), (14, iv (withinS n 1125899906842624))] (by kernel_rfl) ?_
    refine o_nil ?_
    refine seq_go ?_
    refine gseq ?_
    refine gseq ?_
    refine greg ?_
    refine o_d 2 [(18, iv ((withinS n 1125899906842624).tmod 8)), (17, iv (withinS n 1125899906842624))] (by kernel_rfl) ?_
    refine o_nil ?_
    refine seq_go ?_
    refine gblock ?_
    refine gseq ?_
    refine gseq ?_
    refine greg ?_
    refine o_d 2 [(19, bv (((withinS n 1125899906842624).tmod 8) == 0)), (20, bv (((withinS n 1125899906842624).tmod 8) == 0))] (by kernel_rfl) ?_
    refine o_nil ?_
    refine seq_go ?_
    refine gcond (t := ((withinS n 1125899906842624).tmod 8) == 0) rfl (fun h2 => ?_) (fun h2 => ?_)
    · skip
      have h2' : (withinS n 1125899906842624).tmod 8 = 0 := eqI_t h2
      refine gskip ?_
      refine seq_go ?_
      refine gcond (t := ((withinS n 1125899906842624).tmod 8) == 0) rfl (fun _ => ?_) (fun q => by rw [h2] at q; cases q)
      refine gseq ?_
      refine greg ?_
      refine o_b 13 [(33, .agg #[iv 1, iv ((IntKind.i64.wrap ((withinS n 1125899906842624).tdiv 48)).tmod 66), iv ((IntKind.i64.wrap ((withinS n 1125899906842624).tdiv 400)).tmod 5), iv ((IntKind.i64.wrap ((withinS n 1125899906842624).tdiv 2000)).tmod 3), iv (IntKind.i64.wrap (1 + (IntKind.i64.wrap ((withinS n 1125899906842624).tdiv 6000)).tmod 8)), uv 0, uv 0]), (32, iv (IntKind.i64.wrap (1 + (IntKind.i64.wrap ((withinS n 1125899906842624).tdiv 6000)).tmod 8))), (31, iv ((IntKind.i64.wrap ((withinS n 1125899906842624).tdiv 6000)).tmod 8)), (30, iv (IntKind.i64.wrap ((withinS n 1125899906842624).tdiv 6000))), (29, iv (withinS n 1125899906842624)), (28, iv ((IntKind.i64.wrap ((withinS n 1125899906842624).tdiv 2000)).tmod 3)), (27, iv (IntKind.i64.wrap ((withinS n 1125899906842624).tdiv 2000))), (26, iv (withinS n 1125899906842624)), (25, iv ((IntKind.i64.wrap ((withinS n 1125899906842624).tdiv 400)).tmod 5)), (24, iv (IntKind.i64.wrap ((withinS n 1125899906842624).tdiv 400))), (23, iv (withinS n 1125899906842624)), (22, iv ((IntKind.i64.wrap ((withinS n 1125899906842624).tdiv 48)).tmod 66))] [cw [iv 1, iv ((IntKind.i64.wrap ((withinS n 1125899906842624).tdiv 48)).tmod 66), iv ((IntKind.i64.wrap ((withinS n 1125899906842624).tdiv 400)).tmod 5), iv ((IntKind.i64.wrap ((withinS n 1125899906842624).tdiv 2000)).tmod 3), iv (IntKind.i64.wrap (1 + (IntKind.i64.wrap ((withinS n 1125899906842624).tdiv 6000)).tmod 8)), uv 0, uv 0]] (by kernel_rfl) ?_
      refine o_nil ?_
      refine seq_regs [(2, pv 0 0)] (by kernel_rfl) ?_
      refine gret ?_
      have e0 : entS n = ⟨1, (IntKind.i64.wrap ((withinS n 1125899906842624).tdiv 48)).tmod 66, (IntKind.i64.wrap ((withinS n 1125899906842624).tdiv 400)).tmod 5, (IntKind.i64.wrap ((withinS n 1125899906842624).tdiv 2000)).tmod 3, IntKind.i64.wrap (1 + (IntKind.i64.wrap ((withinS n 1125899906842624).tdiv 6000)).tmod 8), 0, 0⟩ := by
        simp only [entS, h1, h2, cond_true, cond_false]
      exact fin_ans [.agg #[iv 1, iv ((IntKind.i64.wrap ((withinS n 1125899906842624).tdiv 48)).tmod 66), iv ((IntKind.i64.wrap ((withinS n 1125899906842624).tdiv 400)).tmod 5), iv ((IntKind.i64.wrap ((withinS n 1125899906842624).tdiv 2000)).tmod 3), iv (IntKind.i64.wrap (1 + (IntKind.i64.wrap ((withinS n 1125899906842624).tdiv 6000)).tmod 8)), uv 0, uv 0]] (resV_c rfl rfl rfl rfl) rfl (by rw [e0]; rfl) rfl rfl
    · skip
      have h2' : ¬ ((withinS n 1125899906842624).tmod 8 = 0) := eqI_f h2
      refine greg ?_
      refine o_d 2 [(19, bv (((withinS n 1125899906842624).tmod 8) == 1)), (21, bv (((withinS n 1125899906842624).tmod 8) == 1))] (by kernel_rfl) ?_
      refine o_nil ?_
      refine seq_go ?_
      refine gcond (t := ((withinS n 1125899906842624).tmod 8) == 1) rfl (fun h3 => ?_) (fun h3 => ?_)
      · skip
        have h3' : (withinS n 1125899906842624).tmod 8 = 1 := eqI_t h3
        refine gseq ?_
        refine greg ?_
        refine o_b 13 [(33, .agg #[iv 1, iv ((IntKind.i64.wrap ((withinS n 1125899906842624).tdiv 48)).tmod 66), iv ((IntKind.i64.wrap ((withinS n 1125899906842624).tdiv 400)).tmod 5), iv ((IntKind.i64.wrap ((withinS n 1125899906842624).tdiv 2000)).tmod 3), iv (IntKind.i64.wrap (1 + (IntKind.i64.wrap ((withinS n 1125899906842624).tdiv 6000)).tmod 8)), uv 0, uv 0]), (32, iv (IntKind.i64.wrap (1 + (IntKind.i64.wrap ((withinS n 1125899906842624).tdiv 6000)).tmod 8))), (31, iv ((IntKind.i64.wrap ((withinS n 1125899906842624).tdiv 6000)).tmod 8)), (30, iv (IntKind.i64.wrap ((withinS n 1125899906842624).tdiv 6000))), (29, iv (withinS n 1125899906842624)), (28, iv ((IntKind.i64.wrap ((withinS n 1125899906842624).tdiv 2000)).tmod 3)), (27, iv (IntKind.i64.wrap ((withinS n 1125899906842624).tdiv 2000))), (26, iv (withinS n 1125899906842624)), (25, iv ((IntKind.i64.wrap ((withinS n 1125899906842624).tdiv 400)).tmod 5)), (24, iv (IntKind.i64.wrap ((withinS n 1125899906842624).tdiv 400))), (23, iv (withinS n 1125899906842624)), (22, iv ((IntKind.i64.wrap ((withinS n 1125899906842624).tdiv 48)).tmod 66))] [cw [iv 1, iv ((IntKind.i64.wrap ((withinS n 1125899906842624).tdiv 48)).tmod 66), iv ((IntKind.i64.wrap ((withinS n 1125899906842624).tdiv 400)).tmod 5), iv ((IntKind.i64.wrap ((withinS n 1125899906842624).tdiv 2000)).tmod 3), iv (IntKind.i64.wrap (1 + (IntKind.i64.wrap ((withinS n 1125899906842624).tdiv 6000)).tmod 8)), uv 0, uv 0]] (by kernel_rfl) ?_
        refine o_nil ?_
        refine seq_regs [(2, pv 0 0)] (by kernel_rfl) ?_
        refine gret ?_
        have e0 : entS n = ⟨1, (IntKind.i64.wrap ((withinS n 1125899906842624).tdiv 48)).tmod 66, (IntKind.i64.wrap ((withinS n 1125899906842624).tdiv 400)).tmod 5, (IntKind.i64.wrap ((withinS n 1125899906842624).tdiv 2000)).tmod 3, IntKind.i64.wrap (1 + (IntKind.i64.wrap ((withinS n 1125899906842624).tdiv 6000)).tmod 8), 0, 0⟩ := by
          simp only [entS, h1, h2, h3, cond_true, cond_false]
        exact fin_ans [.agg #[iv 1, iv ((IntKind.i64.wrap ((withinS n 1125899906842624).tdiv 48)).tmod 66), iv ((IntKind.i64.wrap ((withinS n 1125899906842624).tdiv 400)).tmod 5), iv ((IntKind.i64.wrap ((withinS n 1125899906842624).tdiv 2000)).tmod 3), iv (IntKind.i64.wrap (1 + (IntKind.i64.wrap ((withinS n 1125899906842624).tdiv 6000)).tmod 8)), uv 0, uv 0]] (resV_c rfl rfl rfl rfl) rfl (by rw [e0]; rfl) rfl rfl
      · skip
        have h3' : ¬ ((withinS n 1125899906842624).tmod 8 = 1) := eqI_f h3
        refine gseq ?_
        refine greg ?_
        refine o_d 2 [(34, bv (((withinS n 1125899906842624).tmod 8) == 2)), (35, bv (((withinS n 1125899906842624).tmod 8) == 2))] (by kernel_rfl) ?_
        refine o_nil ?_
        refine seq_go ?_
        refine gcond (t := ((withinS n 1125899906842624).tmod 8) == 2) rfl (fun h4 => ?_) (fun h4 => ?_)
        · skip
          have h4' : (withinS n 1125899906842624).tmod 8 = 2 := eqI_t h4
          refine gseq ?_
          refine greg ?_
          refine o_b 3 [(37, .agg #[iv 2, iv ((IntKind.i64.wrap ((withinS n 1125899906842624).tdiv 48)).tmod 66), iv 0, iv 0, iv 0, uv 0, uv 0]), (36, iv ((IntKind.i64.wrap ((withinS n 1125899906842624).tdiv 48)).tmod 66))] [cw [iv 2, iv ((IntKind.i64.wrap ((withinS n 1125899906842624).tdiv 48)).tmod 66), iv 0, iv 0, iv 0, uv 0, uv 0]] (by kernel_rfl) ?_
          refine o_nil ?_
          refine seq_regs [(2, pv 0 0)] (by kernel_rfl) ?_
          refine gret ?_
          have e0 : entS n = ⟨2, (IntKind.i64.wrap ((withinS n 1125899906842624).tdiv 48)).tmod 66, 0, 0, 0, 0, 0⟩ := by
            simp only [entS, h1, h2, h3, h4, cond_true, cond_false]
          exact fin_ans [.agg #[iv 2, iv ((IntKind.i64.wrap ((withinS n 1125899906842624).tdiv 48)).tmod 66), iv 0, iv 0, iv 0, uv 0, uv 0]] (resV_c rfl rfl rfl rfl) rfl (by rw [e0]; rfl) rfl rfl
        · skip
          have h4' : ¬ ((withinS n 1125899906842624).tmod 8 = 2) := eqI_f h4
          refine gseq ?_
          refine greg ?_
          refine o_d 2 [(38, bv (((withinS n 1125899906842624).tmod 8) == 3)), (39, bv (((withinS n 1125899906842624).tmod 8) == 3))] (by kernel_rfl) ?_
          refine o_nil ?_
          refine seq_regs [(38, bv (((withinS n 1125899906842624).tmod 8) == 3)), (18, iv ((withinS n 1125899906842624).tmod 8)), (4, iv ((IntKind.i64.wrap ((withinS n 1125899906842624).tdiv 48)).tmod 66)), (3, iv (withinS n 1125899906842624)), (2, pv 0 0)] (by kernel_rfl) ?_
          refine gcond (t := ((withinS n 1125899906842624).tmod 8) == 3) rfl (fun h5 => ?_) (fun h5 => ?_)
          · skip
            have h5' : (withinS n 1125899906842624).tmod 8 = 3 := eqI_t h5
            refine gseq ?_
            refine greg ?_
            refine o_b 3 [(41, .agg #[iv 3, iv ((IntKind.i64.wrap ((withinS n 1125899906842624).tdiv 48)).tmod 66), iv 0, iv 0, iv 0, uv 0, uv 0]), (40, iv ((IntKind.i64.wrap ((withinS n 1125899906842624).tdiv 48)).tmod 66))] [cw [iv 3, iv ((IntKind.i64.wrap ((withinS n 1125899906842624).tdiv 48)).tmod 66), iv 0, iv 0, iv 0, uv 0, uv 0]] (by kernel_rfl) ?_
            refine o_nil ?_
            refine seq_go ?_
            refine gret ?_
            have e0 : entS n = ⟨3, (IntKind.i64.wrap ((withinS n 1125899906842624).tdiv 48)).tmod 66, 0, 0, 0, 0, 0⟩ := by
              simp only [entS, h1, h2, h3, h4, h5, cond_true, cond_false]
            exact fin_ans [.agg #[iv 3, iv ((IntKind.i64.wrap ((withinS n 1125899906842624).tdiv 48)).tmod 66), iv 0, iv 0, iv 0, uv 0, uv 0]] (resV_c rfl rfl rfl rfl) rfl (by rw [e0]; rfl) rfl rfl
          · skip
            have h5' : ¬ ((withinS n 1125899906842624).tmod 8 = 3) := eqI_f h5
            refine gseq ?_
            refine greg ?_
            refine o_d 2 [(42, bv (((withinS n 1125899906842624).tmod 8) == 4)), (43, bv (((withinS n 1125899906842624).tmod 8) == 4))] (by kernel_rfl) ?_
            refine o_nil ?_
            refine seq_go ?_
            refine gcond (t := ((withinS n 1125899906842624).tmod 8) == 4) rfl (fun h6 => ?_) (fun h6 => ?_)
            · skip
              have h6' : (withinS n 1125899906842624).tmod 8 = 4 := eqI_t h6
              refine gseq ?_
              refine greg ?_
              refine o_b 3 [(45, .agg #[iv 4, iv ((IntKind.i64.wrap ((withinS n 1125899906842624).tdiv 48)).tmod 66), iv 0, iv 0, iv 0, uv 0, uv 0]), (44, iv ((IntKind.i64.wrap ((withinS n 1125899906842624).tdiv 48)).tmod 66))] [cw [iv 4, iv ((IntKind.i64.wrap ((withinS n 1125899906842624).tdiv 48)).tmod 66), iv 0, iv 0, iv 0, uv 0, uv 0]] (by kernel_rfl) ?_
              refine o_nil ?_
              refine seq_go ?_
              refine gret ?_
              have e0 : entS n = ⟨4, (IntKind.i64.wrap ((withinS n 1125899906842624).tdiv 48)).tmod 66, 0, 0, 0, 0, 0⟩ := by
                simp only [entS, h1, h2, h3, h4, h5, h6, cond_true, cond_false]
              exact fin_ans [.agg #[iv 4, iv ((IntKind.i64.wrap ((withinS n 1125899906842624).tdiv 48)).tmod 66), iv 0, iv 0, iv 0, uv 0, uv 0]] (resV_c rfl rfl rfl rfl) rfl (by rw [e0]; rfl) rfl rfl
            · skip
              have h6' : ¬ ((withinS n 1125899906842624).tmod 8 = 4) := eqI_f h6
              refine gseq ?_
              refine greg ?_
              refine o_d 2 [(46, bv (((withinS n 1125899906842624).tmod 8) == 5)), (47, bv (((withinS n 1125899906842624).tmod 8) == 5))] (by kernel_rfl) ?_
              refine o_nil ?_
              refine seq_go ?_
              refine gcond (t := ((withinS n 1125899906842624).tmod 8) == 5) rfl (fun h7 => ?_) (fun h7 => ?_)
              · skip
                have h7' : (withinS n 1125899906842624).tmod 8 = 5 := eqI_t h7
                refine gseq ?_
                refine greg ?_
                refine o_b 3 [(49, .agg #[iv 5, iv ((IntKind.i64.wrap ((withinS n 1125899906842624).tdiv 48)).tmod 66), iv 0, iv 0, iv 0, uv 0, uv 0]), (48, iv ((IntKind.i64.wrap ((withinS n 1125899906842624).tdiv 48)).tmod 66))] [cw [iv 5, iv ((IntKind.i64.wrap ((withinS n 1125899906842624).tdiv 48)).tmod 66), iv 0, iv 0, iv 0, uv 0, uv 0]] (by kernel_rfl) ?_
                refine o_nil ?_
                refine seq_go ?_
                refine gret ?_
                have e0 : entS n = ⟨5, (IntKind.i64.wrap ((withinS n 1125899906842624).tdiv 48)).tmod 66, 0, 0, 0, 0, 0⟩ := by
                  simp only [entS, h1, h2, h3, h4, h5, h6, h7, cond_true, cond_false]
                exact fin_ans [.agg #[iv 5, iv ((IntKind.i64.wrap ((withinS n 1125899906842624).tdiv 48)).tmod 66), iv 0, iv 0, iv 0, uv 0, uv 0]] (resV_c rfl rfl rfl rfl) rfl (by rw [e0]; rfl) rfl rfl
              · skip
                have h7' : ¬ ((withinS n 1125899906842624).tmod 8 = 5) := eqI_f h7
                refine gskip ?_
                refine seq_go ?_
                refine gseq ?_
                refine greg ?_
                refine o_d 1 [(50, iv (withinS n 1125899906842624))] (by kernel_rfl) ?_
                refine o_cl (callV (KeyC h_law5_Key (withinS n 1125899906842624)) rfl rfl rfl ?_)
                refine o_b 2 [(52, .agg #[iv 6, iv 0, iv 0, iv 0, iv 0, uv (keyA (withinS n 1125899906842624)), uv (keyB (withinS n 1125899906842624))])] [cw [iv 6, iv 0, iv 0, iv 0, iv 0, uv (keyA (withinS n 1125899906842624)), uv (keyB (withinS n 1125899906842624))]] (by kernel_rfl) ?_
                refine o_nil ?_
                refine seq_go ?_
                refine gret ?_
                have e0 : entS n = ⟨6, 0, 0, 0, 0, keyA (withinS n 1125899906842624), keyB (withinS n 1125899906842624)⟩ := by
                  simp only [entS, h1, h2, h3, h4, h5, h6, h7, cond_true, cond_false]
                exact fin_ans [.agg #[iv 6, iv 0, iv 0, iv 0, iv 0, uv (keyA (withinS n 1125899906842624)), uv (keyB (withinS n 1125899906842624))]] (resV_c rfl rfl rfl rfl) rfl (by rw [e0]; rfl) rfl rfl
  · skip
    have h1' : ¬ ((IntKind.i64.wrap ((withinS n 1125899906842624).tdiv 48)).tmod 29 = 0) := eqI_f h1
    refine gskip ?_
    refine seq_go ?_
    refine gseq ?_
    refine gseq ?_
    refine greg ?_
    refine o_d 2 [(18, iv ((withinS n 1125899906842624).tmod 8)), (17, iv (withinS n 1125899906842624))] (by kernel_rfl) ?_
    refine o_nil ?_
    refine seq_go ?_
    refine gblock ?_
    refine gseq ?_
    refine gseq ?_
    refine greg ?_
    refine o_d 2 [(19, bv (((withinS n 1125899906842624).tmod 8) == 0)), (20, bv (((withinS n 1125899906842624).tmod 8) == 0))] (by kernel_rfl) ?_
    refine o_nil ?_
    refine seq_go ?_
    refine gcond (t := ((withinS n 1125899906842624).tmod 8) == 0) rfl (fun h8 => ?_) (fun h8 => ?_)
    · skip
      have h8' : (withinS n 1125899906842624).tmod 8 = 0 := eqI_t h8
      refine gskip ?_
      refine seq_go ?_
      refine gcond (t := ((withinS n 1125899906842624).tmod 8) == 0) rfl (fun _ => ?_) (fun q => by rw [h8] at q; cases q)
      refine gseq ?_
      refine greg ?_
      refine o_b 13 [(33, .agg #[iv 1, iv ((IntKind.i64.wrap ((withinS n 1125899906842624).tdiv 8)).tmod 6), iv ((IntKind.i64.wrap ((withinS n 1125899906842624).tdiv 400)).tmod 5), iv ((IntKind.i64.wrap ((withinS n 1125899906842624).tdiv 2000)).tmod 3), iv (IntKind.i64.wrap (1 + (IntKind.i64.wrap ((withinS n 1125899906842624).tdiv 6000)).tmod 8)), uv 0, uv 0]), (32, iv (IntKind.i64.wrap (1 + (IntKind.i64.wrap ((withinS n 1125899906842624).tdiv 6000)).tmod 8))), (31, iv ((IntKind.i64.wrap ((withinS n 1125899906842624).tdiv 6000)).tmod 8)), (30, iv (IntKind.i64.wrap ((withinS n 1125899906842624).tdiv 6000))), (29, iv (withinS n 1125899906842624)), (28, iv ((IntKind.i64.wrap ((withinS n 1125899906842624).tdiv 2000)).tmod 3)), (27, iv (IntKind.i64.wrap ((withinS n 1125899906842624).tdiv 2000))), (26, iv (withinS n 1125899906842624)), (25, iv ((IntKind.i64.wrap ((withinS n 1125899906842624).tdiv 400)).tmod 5)), (24, iv (IntKind.i64.wrap ((withinS n 1125899906842624).tdiv 400))), (23, iv (withinS n 1125899906842624)), (22, iv ((IntKind.i64.wrap ((withinS n 1125899906842624).tdiv 8)).tmod 6))] [cw [iv 1, iv ((IntKind.i64.wrap ((withinS n 1125899906842624).tdiv 8)).tmod 6), iv ((IntKind.i64.wrap ((withinS n 1125899906842624).tdiv 400)).tmod 5), iv ((IntKind.i64.wrap ((withinS n 1125899906842624).tdiv 2000)).tmod 3), iv (IntKind.i64.wrap (1 + (IntKind.i64.wrap ((withinS n 1125899906842624).tdiv 6000)).tmod 8)), uv 0, uv 0]] (by kernel_rfl) ?_
      refine o_nil ?_
      refine seq_regs [(2, pv 0 0)] (by kernel_rfl) ?_
      refine gret ?_
      have e0 : entS n = ⟨1, (IntKind.i64.wrap ((withinS n 1125899906842624).tdiv 8)).tmod 6, (IntKind.i64.wrap ((withinS n 1125899906842624).tdiv 400)).tmod 5, (IntKind.i64.wrap ((withinS n 1125899906842624).tdiv 2000)).tmod 3, IntKind.i64.wrap (1 + (IntKind.i64.wrap ((withinS n 1125899906842624).tdiv 6000)).tmod 8), 0, 0⟩ := by
        simp only [entS, h1, h8, cond_true, cond_false]
      exact fin_ans [.agg #[iv 1, iv ((IntKind.i64.wrap ((withinS n 1125899906842624).tdiv 8)).tmod 6), iv ((IntKind.i64.wrap ((withinS n 1125899906842624).tdiv 400)).tmod 5), iv ((IntKind.i64.wrap ((withinS n 1125899906842624).tdiv 2000)).tmod 3), iv (IntKind.i64.wrap (1 + (IntKind.i64.wrap ((withinS n 1125899906842624).tdiv 6000)).tmod 8)), uv 0, uv 0]] (resV_c rfl rfl rfl rfl) rfl (by rw [e0]; rfl) rfl rfl
    · skip
      have h8' : ¬ ((withinS n 1125899906842624).tmod 8 = 0) := eqI_f h8
      refine greg ?_
      refine o_d 2 [(19, bv (((withinS n 1125899906842624).tmod 8) == 1)), (21, bv (((withinS n 1125899906842624).tmod 8) == 1))] (by kernel_rfl) ?_
      refine o_nil ?_
      refine seq_go ?_
      refine gcond (t := ((withinS n 1125899906842624).tmod 8) == 1) rfl (fun h9 => ?_) (fun h9 => ?_)
      · skip
        have h9' : (withinS n 1125899906842624).tmod 8 = 1 := eqI_t h9
        refine gseq ?_
        refine greg ?_
        refine o_b 13 [(33, .agg #[iv 1, iv ((IntKind.i64.wrap ((withinS n 1125899906842624).tdiv 8)).tmod 6), iv ((IntKind.i64.wrap ((withinS n 1125899906842624).tdiv 400)).tmod 5), iv ((IntKind.i64.wrap ((withinS n 1125899906842624).tdiv 2000)).tmod 3), iv (IntKind.i64.wrap (1 + (IntKind.i64.wrap ((withinS n 1125899906842624).tdiv 6000)).tmod 8)), uv 0, uv 0]), (32, iv (IntKind.i64.wrap (1 + (IntKind.i64.wrap ((withinS n 1125899906842624).tdiv 6000)).tmod 8))), (31, iv ((IntKind.i64.wrap ((withinS n 1125899906842624).tdiv 6000)).tmod 8)), (30, iv (IntKind.i64.wrap ((withinS n 1125899906842624).tdiv 6000))), (29, iv (withinS n 1125899906842624)), (28, iv ((IntKind.i64.wrap ((withinS n 1125899906842624).tdiv 2000)).tmod 3)), (27, iv (IntKind.i64.wrap ((withinS n 1125899906842624).tdiv 2000))), (26, iv (withinS n 1125899906842624)), (25, iv ((IntKind.i64.wrap ((withinS n 1125899906842624).tdiv 400)).tmod 5)), (24, iv (IntKind.i64.wrap ((withinS n 1125899906842624).tdiv 400))), (23, iv (withinS n 1125899906842624)), (22, iv ((IntKind.i64.wrap ((withinS n 1125899906842624).tdiv 8)).tmod 6))] [cw [iv 1, iv ((IntKind.i64.wrap ((withinS n 1125899906842624).tdiv 8)).tmod 6), iv ((IntKind.i64.wrap ((withinS n 1125899906842624).tdiv 400)).tmod 5), iv ((IntKind.i64.wrap ((withinS n 1125899906842624).tdiv 2000)).tmod 3), iv (IntKind.i64.wrap (1 + (IntKind.i64.wrap ((withinS n 1125899906842624).tdiv 6000)).tmod 8)), uv 0, uv 0]] (by kernel_rfl) ?_
        refine o_nil ?_
        refine seq_regs [(2, pv 0 0)] (by kernel_rfl) ?_
        refine gret ?_
        have e0 : entS n = ⟨1, (IntKind.i64.wrap ((withinS n 1125899906842624).tdiv 8)).tmod 6, (IntKind.i64.wrap ((withinS n 1125899906842624).tdiv 400)).tmod 5, (IntKind.i64.wrap ((withinS n 1125899906842624).tdiv 2000)).tmod 3, IntKind.i64.wrap (1 + (IntKind.i64.wrap ((withinS n 1125899906842624).tdiv 6000)).tmod 8), 0, 0⟩ := by
          simp only [entS, h1, h8, h9, cond_true, cond_false]
        exact fin_ans [.agg #[iv 1, iv ((IntKind.i64.wrap ((withinS n 1125899906842624).tdiv 8)).tmod 6), iv ((IntKind.i64.wrap ((withinS n 1125899906842624).tdiv 400)).tmod 5), iv ((IntKind.i64.wrap ((withinS n 1125899906842624).tdiv 2000)).tmod 3), iv (IntKind.i64.wrap (1 + (IntKind.i64.wrap ((withinS n 1125899906842624).tdiv 6000)).tmod 8)), uv 0, uv 0]] (resV_c rfl rfl rfl rfl) rfl (by rw [e0]; rfl) rfl rfl
      · skip
        have h9' : ¬ ((withinS n 1125899906842624).tmod 8 = 1) := eqI_f h9
        refine gseq ?_
        refine greg ?_
        refine o_d 2 [(34, bv (((withinS n 1125899906842624).tmod 8) == 2)), (35, bv (((withinS n 1125899906842624).tmod 8) == 2))] (by kernel_rfl) ?_
        refine o_nil ?_
        refine seq_go ?_
        refine gcond (t := ((withinS n 1125899906842624).tmod 8) == 2) rfl (fun h10 => ?_) (fun h10 => ?_)
        · skip
          have h10' : (withinS n 1125899906842624).tmod 8 = 2 := eqI_t h10
          refine gseq ?_
          refine greg ?_
          refine o_b 3 [(37, .agg #[iv 2, iv ((IntKind.i64.wrap ((withinS n 1125899906842624).tdiv 8)).tmod 6), iv 0, iv 0, iv 0, uv 0, uv 0]), (36, iv ((IntKind.i64.wrap ((withinS n 1125899906842624).tdiv 8)).tmod 6))] [cw [iv 2, iv ((IntKind.i64.wrap ((withinS n 1125899906842624).tdiv 8)).tmod 6), iv 0, iv 0, iv 0, uv 0, uv 0]] (by kernel_rfl) ?_
          refine o_nil ?_
          refine seq_regs [(2, pv 0 0)] (by kernel_rfl) ?_
          refine gret ?_
          have e0 : entS n = ⟨2, (IntKind.i64.wrap ((withinS n 1125899906842624).tdiv 8)).tmod 6, 0, 0, 0, 0, 0⟩ := by
            simp only [entS, h1, h8, h9, h10, cond_true, cond_false]
          exact fin_ans [.agg #[iv 2, iv ((IntKind.i64.wrap ((withinS n 1125899906842624).tdiv 8)).tmod 6), iv 0, iv 0, iv 0, uv 0, uv 0]] (resV_c rfl rfl rfl rfl) rfl (by rw [e0]; rfl) rfl rfl
        · skip
          have h10' : ¬ ((withinS n 1125899906842624).tmod 8 = 2) := eqI_f h10
          refine gseq ?_
          refine greg ?_
          refine o_d 2 [(38, bv (((withinS n 1125899906842624).tmod 8) == 3)), (39, bv (((withinS n 1125899906842624).tmod 8) == 3))] (by kernel_rfl) ?_
          refine o_nil ?_
          refine seq_go ?_
          refine gcond (t := ((withinS n 1125899906842624).tmod 8) == 3) rfl (fun h11 => ?_) (fun h11 => ?_)
          · skip
            have h11' : (withinS n 1125899906842624).tmod 8 = 3 := eqI_t h11
            refine gseq ?_
            refine greg ?_
            refine o_b 3 [(41, .agg #[iv 3, iv ((IntKind.i64.wrap ((withinS n 1125899906842624).tdiv 8)).tmod 6), iv 0, iv 0, iv 0, uv 0, uv 0]), (40, iv ((IntKind.i64.wrap ((withinS n 1125899906842624).tdiv 8)).tmod 6))] [cw [iv 3, iv ((IntKind.i64.wrap ((withinS n 1125899906842624).tdiv 8)).tmod 6), iv 0, iv 0, iv 0, uv 0, uv 0]] (by kernel_rfl) ?_
            refine o_nil ?_
            refine seq_regs [(2, pv 0 0)] (by kernel_rfl) ?_
            refine gret ?_
            have e0 : entS n = ⟨3, (IntKind.i64.wrap ((withinS n 1125899906842624).tdiv 8)).tmod 6, 0, 0, 0, 0, 0⟩ := by
              simp only [entS, h1, h8, h9, h10, h11, cond_true, cond_false]
            exact fin_ans [.agg #[iv 3, iv ((IntKind.i64.wrap ((withinS n 1125899906842624).tdiv 8)).tmod 6), iv 0, iv 0, iv 0, uv 0, uv 0]] (resV_c rfl rfl rfl rfl) rfl (by rw [e0]; rfl) rfl rfl
          · skip
            have h11' : ¬ ((withinS n 1125899906842624).tmod 8 = 3) := eqI_f h11
            refine gseq ?_
            refine greg ?_
            refine o_d 2 [(42, bv (((withinS n 1125899906842624).tmod 8) == 4)), (43, bv (((withinS n 1125899906842624).tmod 8) == 4))] (by kernel_rfl) ?_
            refine o_nil ?_
            refine seq_go ?_
            refine gcond (t := ((withinS n 1125899906842624).tmod 8) == 4) rfl (fun h12 => ?_) (fun h12 => ?_)
            · skip
              have h12' : (withinS n 1125899906842624).tmod 8 = 4 := eqI_t h12
              refine gseq ?_
              refine greg ?_
              refine o_b 3 [(45, .agg #[iv 4, iv ((IntKind.i64.wrap ((withinS n 1125899906842624).tdiv 8)).tmod 6), iv 0, iv 0, iv 0, uv 0, uv 0]), (44, iv ((IntKind.i64.wrap ((withinS n 1125899906842624).tdiv 8)).tmod 6))] [cw [iv 4, iv ((IntKind.i64.wrap ((withinS n 1125899906842624).tdiv 8)).tmod 6), iv 0, iv 0, iv 0, uv 0, uv 0]] (by kernel_rfl) ?_
              refine o_nil ?_
              refine seq_regs [(2, pv 0 0)] (by kernel_rfl) ?_
              refine gret ?_
              have e0 : entS n = ⟨4, (IntKind.i64.wrap ((withinS n 1125899906842624).tdiv 8)).tmod 6, 0, 0, 0, 0, 0⟩ := by
                simp only [entS, h1, h8, h9, h10, h11, h12, cond_true, cond_false]
              exact fin_ans [.agg #[iv 4, iv ((IntKind.i64.wrap ((withinS n 1125899906842624).tdiv 8)).tmod 6), iv 0, iv 0, iv 0, uv 0, uv 0]] (resV_c rfl rfl rfl rfl) rfl (by rw [e0]; rfl) rfl rfl
            · skip
              have h12' : ¬ ((withinS n 1125899906842624).tmod 8 = 4) := eqI_f h12
              refine gseq ?_
              refine greg ?_
              refine o_d 2 [(46, bv (((withinS n 1125899906842624).tmod 8) == 5)), (47, bv (((withinS n 1125899906842624).tmod 8) == 5))] (by kernel_rfl) ?_
              refine o_nil ?_
              refine seq_regs [(46, bv (((withinS n 1125899906842624).tmod 8) == 5)), (4, iv ((IntKind.i64.wrap ((withinS n 1125899906842624).tdiv 8)).tmod 6)), (3, iv (withinS n 1125899906842624)), (2, pv 0 0)] (by kernel_rfl) ?_
              refine gcond (t := ((withinS n 1125899906842624).tmod 8) == 5) rfl (fun h13 => ?_) (fun h13 => ?_)
              · skip
                have h13' : (withinS n 1125899906842624).tmod 8 = 5 := eqI_t h13
                refine gseq ?_
                refine greg ?_
                refine o_b 3 [(49, .agg #[iv 5, iv ((IntKind.i64.wrap ((withinS n 1125899906842624).tdiv 8)).tmod 6), iv 0, iv 0, iv 0, uv 0, uv 0]), (48, iv ((IntKind.i64.wrap ((withinS n 1125899906842624).tdiv 8)).tmod 6))] [cw [iv 5, iv ((IntKind.i64.wrap ((withinS n 1125899906842624).tdiv 8)).tmod 6), iv 0, iv 0, iv 0, uv 0, uv 0]] (by kernel_rfl) ?_
                refine o_nil ?_
                refine seq_go ?_
                refine gret ?_
                have e0 : entS n = ⟨5, (IntKind.i64.wrap ((withinS n 1125899906842624).tdiv 8)).tmod 6, 0, 0, 0, 0, 0⟩ := by
                  simp only [entS, h1, h8, h9, h10, h11, h12, h13, cond_true, cond_false]
                exact fin_ans [.agg #[iv 5, iv ((IntKind.i64.wrap ((withinS n 1125899906842624).tdiv 8)).tmod 6), iv 0, iv 0, iv 0, uv 0, uv 0]] (resV_c rfl rfl rfl rfl) rfl (by rw [e0]; rfl) rfl rfl
              · skip
                have h13' : ¬ ((withinS n 1125899906842624).tmod 8 = 5) := eqI_f h13
                refine gskip ?_
                refine seq_go ?_
                refine gseq ?_
                refine greg ?_
                refine o_d 1 [(50, iv (withinS n 1125899906842624))] (by kernel_rfl) ?_
                refine o_cl (callV (KeyC h_law5_Key (withinS n 1125899906842624)) rfl rfl rfl ?_)
                refine o_b 2 [(52, .agg #[iv 6, iv 0, iv 0, iv 0, iv 0, uv (keyA (withinS n 1125899906842624)), uv (keyB (withinS n 1125899906842624))])] [cw [iv 6, iv 0, iv 0, iv 0, iv 0, uv (keyA (withinS n 1125899906842624)), uv (keyB (withinS n 1125899906842624))]] (by kernel_rfl) ?_
                refine o_nil ?_
                refine seq_go ?_
                refine gret ?_
                have e0 : entS n = ⟨6, 0, 0, 0, 0, keyA (withinS n 1125899906842624), keyB (withinS n 1125899906842624)⟩ := by
                  simp only [entS, h1, h8, h9, h10, h11, h12, h13, cond_true, cond_false]
                exact fin_ans [.agg #[iv 6, iv 0, iv 0, iv 0, iv 0, uv (keyA (withinS n 1125899906842624)), uv (keyB (withinS n 1125899906842624))]] (resV_c rfl rfl rfl rfl) rfl (by rw [e0]; rfl) rfl rfl
end Go.Rh

set_option linter.unusedSimpArgs false
set_option linter.unusedVariables false
set_option maxRecDepth 100000
set_option maxHeartbeats 8000000
namespace Go.Rh
def stepM (p : Flat) (n : Int) : Flat := if (applyS p (entS n)).2 = 0 then (applyS p (entS n)).1 else p
def makeS (ns : List Int) (k : Nat) : Flat := (ns.take k).foldl stepM (newP 10 80 (keyA 1) (keyB 1) (keyA 2) (keyB 2)).1
theorem MakeC {P : Program} (hc : codeOf P "roundhouse/roundhouselaw6.Make" = some c_law6_Make) (h_law5_Key : codeOf P "roundhouse/roundhouselaw5.Key" = some c_law5_Key) (h_ref6_New : codeOf P "roundhouse/roundhouseref6.New" = some c_ref6_New) (h_ref6_out : codeOf P "roundhouse/roundhouseref6.out" = some c_ref6_out) (h_ref5_Ring : codeOf P "roundhouse/roundhouseref5.Ring" = some c_ref5_Ring) (h_law6_Entry : codeOf P "roundhouse/roundhouselaw6.Entry" = some c_law6_Entry) (h_law6_within : codeOf P "roundhouse/roundhouselaw6.within" = some c_law6_within) (h_ref6_Apply : codeOf P "roundhouse/roundhouseref6.Apply" = some c_ref6_Apply) (h_ref6_Check : codeOf P "roundhouse/roundhouseref6.Check" = some c_ref6_Check) (h_ref6_bad : codeOf P "roundhouse/roundhouseref6.bad" = some c_ref6_bad) (h_ref6_Held : codeOf P "roundhouse/roundhouseref6.Held" = some c_ref6_Held) (h_ref5_Next : codeOf P "roundhouse/roundhouseref5.Next" = some c_ref5_Next) (o : Option Nat) (ns : List Int) (hnns : o = none → ns = []) (hl : (ns.length : Int) ≤ 9223372036854775807) (k : Nat) (hk : (k : Int) ≤ 1000) :
    Env P "roundhouse/roundhouselaw6.Make" [inV o 0 ns.length, iv (k : Int)] ([inB o (ii ns)]) (Ans (poolV (makeS ns k)) ([inB o (ii ns)])) := by
  refine Env.by hc ?_
  unfold c_law6_Make
  show GC _ 1 _ _ ⟨reg [(0, inV o 0 ns.length), (1, iv (k : Int))], [inB o (ii ns)]⟩
  refine gseq ?_
  refine greg ?_
  refine o_b 1 [(4, pv 1 0)] [inB o (ii ns), cw (pl zeroP)] (by kernel_rfl) ?_
  refine o_nil ?_
  refine seq_go ?_
  refine gseq ?_
  refine greg ?_
  refine o_cl (callV (KeyC h_law5_Key 1) rfl rfl rfl ?_)
  refine o_cl (callV (KeyC h_law5_Key 2) rfl rfl rfl ?_)
  refine o_cl (callV (refNewC h_ref6_New h_ref6_out h_ref5_Ring 10 80 (keyA 1) (keyB 1) (keyA 2) (keyB 2)) rfl rfl (all_cons (poolV_aggf ((newP 10 80 (keyA 1) (keyB 1) (keyA 2) (keyB 2)).1)) (all_cons rfl rfl)) ?_)
  refine o_b 4 [(5, pv 2 0), (15, iv ((newP 10 80 (keyA 1) (keyB 1) (keyA 2) (keyB 2)).2)), (14, poolV ((newP 10 80 (keyA 1) (keyB 1) (keyA 2) (keyB 2)).1)), (10, .tuple #[poolV ((newP 10 80 (keyA 1) (keyB 1) (keyA 2) (keyB 2)).1), iv ((newP 10 80 (keyA 1) (keyB 1) (keyA 2) (keyB 2)).2)])] [inB o (ii ns), cw (pl zeroP), cw (pl zeroP)] (by kernel_rfl) ?_
  refine o_s0 (by refine run_st (c' := pl ((newP 10 80 (keyA 1) (keyB 1) (keyA 2) (keyB 2)).1)) rfl rfl rfl ?_ ?_ ?_; exact pl_length _; exact pl_le (by omega); exact splice_pl0 zeroP ((newP 10 80 (keyA 1) (keyB 1) (keyA 2) (keyB 2)).1)) ?_
  refine o_b 1 [(6, iv ((newP 10 80 (keyA 1) (keyB 1) (keyA 2) (keyB 2)).2))] [inB o (ii ns), cw (pl zeroP), cw (pl ((newP 10 80 (keyA 1) (keyB 1) (keyA 2) (keyB 2)).1))] (by kernel_rfl) ?_
  refine o_nil ?_
  refine seq_go ?_
  refine gseq ?_
  refine gseq ?_
  refine greg ?_
  refine o_d 1 [(7, iv 0)] (by kernel_rfl) ?_
  refine o_nil ?_
  refine seq_go ?_
  refine gblock ?_
  refine gloop (fun μ s => ∃ (i : Nat), ∃ (d : Flat), μ = ns.length - i ∧ (i ≤ ns.length ∧ i ≤ k) ∧ (((ns.drop i).take (k - i)).foldl stepM d = makeS ns k) ∧ s = ⟨reg [(7, iv (i : Int)), (5, pv 2 0), (4, pv 1 0), (0, inV o 0 ns.length), (1, iv (k : Int))], [inB o (ii ns), cw (pl zeroP), cw (pl d)]⟩) ⟨(ns.length - 0), ?_⟩ ?_
  · skip
    refine ⟨⟨reg [(7, iv (0 : Int)), (5, pv 2 0), (4, pv 1 0), (0, inV o 0 ns.length), (1, iv (k : Int))], [inB o (ii ns), cw (pl zeroP), cw (pl ((newP 10 80 (keyA 1) (keyB 1) (keyA 2) (keyB 2)).1))]⟩, ?_⟩
    refine ⟨?_, ?_⟩
    · exact Wk.ren [0, 1, 2] rfl rfl (by decide) ⟨rfl, ⟨rfl, ⟨rfl, ⟨((renV_inV o rfl)).trans rfl, ⟨rfl, trivial⟩⟩⟩⟩⟩ ⟨.inl (ren_inB o (ii_scl ns)), ⟨.inl (ren_cells (pl_scl zeroP)), ⟨.inl (ren_cells (pl_scl ((newP 10 80 (keyA 1) (keyB 1) (keyA 2) (keyB 2)).1))), trivial⟩⟩⟩
    · exact ⟨0, ((newP 10 80 (keyA 1) (keyB 1) (keyA 2) (keyB 2)).1), rfl, ⟨Nat.zero_le _, Nat.zero_le _⟩, rfl, rfl⟩
  · rintro μ s ⟨i, d, rfl, hi, hf, rfl⟩
    refine gseq ?_
    refine gseq ?_
    refine greg ?_
    refine o_d 2 [(17, inV o 0 ns.length), (16, iv (i : Int))] (by kernel_rfl) ?_
    refine o_s (by exact run_lenIn rfl (fun q => by rw [hnns q]; rfl)) ?_
    refine o_d 2 [(20, bv (decide ((i : Int) < (ns.length : Nat)))), (19, bv (decide ((i : Int) < (ns.length : Nat))))] (by kernel_rfl) ?_
    refine o_sp (b := decide ((i : Int) < (ns.length : Nat))) 20 rfl (fun h1 => ?_) (fun h1 => ?_)
    · skip
      have h1' : (i : Int) < (ns.length : Nat) := of_decide_eq_true h1
      refine o_d 4 [(24, bv (decide ((i : Int) < (k : Int)))), (23, bv (decide ((i : Int) < (k : Int)))), (22, iv (k : Int)), (21, iv (i : Int))] (by kernel_rfl) ?_
      refine o_nil ?_
      refine seq_go ?_
      refine gcond (t := decide ((i : Int) < (k : Int))) rfl (fun h2 => ?_) (fun h2 => ?_)
      · skip
        have h2' : (i : Int) < (k : Int) := of_decide_eq_true h2
        obtain ⟨x, hx, hd, ht⟩ := get_of_lt (l := ns) (i := i) (by omega)
        have hstep : (ns.drop i).take (k - i) = x :: (ns.drop (i + 1)).take (k - (i + 1)) := by rw [hd, show k - i = (k - (i + 1)) + 1 by omega]; rfl
        refine gskip ?_
        refine seq_go ?_
        refine gseq ?_
        refine gblock ?_
        refine gseq ?_
        refine gdreg ["roundhouse/roundhouselaw6.Entry", "roundhouse/roundhouseref6.Apply"] (by kernel_rfl) ?_
        refine r_s (by refine run_ld (v := poolV d) rfl rfl ?_; exact pl_all d) ?_
        refine r_d 2 [(30, iv (i : Int)), (29, inV o 0 ns.length)] (by kernel_rfl) ?_
        refine r_s (by exact run_iadIn (o' := i) rfl (fun q => by rw [hnns q]; rfl) rfl (by omega) (by omega)) ?_
        refine r_s (by refine run_ld (v := iv x) rfl (hf_in (n := ns.length) rfl (fun q => by rw [hnns q]; rfl) (by omega)) ?_; exact ii_r (i := i) (by omega) hx) ?_
        refine r_cl (callVR (EntryC h_law6_Entry h_law6_within h_law5_Key x) rfl rfl rfl ?_)
        refine r_cl (callVR (refApplyC h_ref6_Apply h_ref6_Check h_ref6_out h_ref6_bad h_ref6_Held h_ref5_Next d (entS x)) rfl (all_cons (poolV_vpf d) (all_cons rfl rfl)) (all_cons (poolV_aggf ((applyS d (entS x)).1)) (all_cons rfl rfl)) ?_)
        refine r_b 4 [(8, pv 3 0), (36, iv ((applyS d (entS x)).2)), (35, poolV ((applyS d (entS x)).1)), (27, .tuple #[poolV ((applyS d (entS x)).1), iv ((applyS d (entS x)).2)])] [inB o (ii ns), cw (pl zeroP), cw (pl d), cw (pl zeroP)] (by kernel_rfl) ?_
        refine r_s0 (by refine run_st (c' := pl ((applyS d (entS x)).1)) rfl rfl rfl ?_ ?_ ?_; exact pl_length _; exact pl_le (by omega); exact splice_pl0 zeroP ((applyS d (entS x)).1)) ?_
        refine r_b 1 [(9, iv ((applyS d (entS x)).2))] [inB o (ii ns), cw (pl zeroP), cw (pl d), cw (pl ((applyS d (entS x)).1))] (by kernel_rfl) ?_
        refine r_nil ?_
        refine seq_go ?_
        refine gseq ?_
        refine greg ?_
        refine o_d 2 [(38, bv (((applyS d (entS x)).2) == 0)), (37, iv ((applyS d (entS x)).2))] (by kernel_rfl) ?_
        refine o_nil ?_
        refine seq_regs [(38, bv (((applyS d (entS x)).2) == 0)), (8, pv 3 0), (7, iv (i : Int)), (5, pv 2 0), (4, pv 1 0), (0, inV o 0 ns.length), (1, iv (k : Int))] (by kernel_rfl) ?_
        refine gcond (t := ((applyS d (entS x)).2) == 0) rfl (fun h3 => ?_) (fun h3 => ?_)
        · skip
          have h3' : (applyS d (entS x)).2 = 0 := eqI_t h3
          refine greg ?_
          refine o_s (by refine run_ld (v := poolV ((applyS d (entS x)).1)) rfl rfl ?_; exact pl_all ((applyS d (entS x)).1)) ?_
          refine o_s0 (by refine run_st (c' := pl ((applyS d (entS x)).1)) rfl rfl rfl ?_ ?_ ?_; exact pl_length _; exact pl_le (by omega); exact splice_pl0 d ((applyS d (entS x)).1)) ?_
          refine o_nil ?_
          refine seq_go ?_
          refine greg ?_
          refine o_d 1 [(25, iv (i : Int))] (by kernel_rfl) ?_
          refine o_s (by refine run_val (v := .int .i64 (IntKind.i64.wrap ((i : Int) + 1))) (congrArg (Value.int .i64) (w64 (by omega) (by omega))) ?_; kernel_rfl) ?_
          refine o_d 1 [(7, iv ((i : Int) + 1))] (by kernel_rfl) ?_
          refine o_nil ?_
          refine ⟨ns.length - (i + 1), ?_⟩
          refine ⟨⟨reg [(7, iv ((i + 1) : Int)), (5, pv 2 0), (4, pv 1 0), (0, inV o 0 ns.length), (1, iv (k : Int))], [inB o (ii ns), cw (pl zeroP), cw (pl ((applyS d (entS x)).1))]⟩, ?_⟩
          refine and3 (by omega) ⟨?_, ?_⟩
          · exact Wk.ren [0, 1, 2] rfl rfl (by decide) ⟨rfl, ⟨rfl, ⟨rfl, ⟨((renV_inV o rfl)).trans rfl, ⟨rfl, trivial⟩⟩⟩⟩⟩ ⟨.inl (ren_inB o (ii_scl ns)), ⟨.inl (ren_cells (pl_scl zeroP)), ⟨.inl (ren_cells (pl_scl ((applyS d (entS x)).1))), trivial⟩⟩⟩
          · exact ⟨(i + 1), ((applyS d (entS x)).1), rfl, by omega, (by rw [← hf, hstep]; simp [stepM, h1, h1', h2, h2', h3, h3']), rfl⟩
        · skip
          have h3' : ¬ ((applyS d (entS x)).2 = 0) := eqI_f h3
          refine gskip ?_
          refine seq_go ?_
          refine greg ?_
          refine o_d 1 [(25, iv (i : Int))] (by kernel_rfl) ?_
          refine o_s (by refine run_val (v := .int .i64 (IntKind.i64.wrap ((i : Int) + 1))) (congrArg (Value.int .i64) (w64 (by omega) (by omega))) ?_; kernel_rfl) ?_
          refine o_d 1 [(7, iv ((i : Int) + 1))] (by kernel_rfl) ?_
          refine o_nil ?_
          refine ⟨ns.length - (i + 1), ?_⟩
          refine ⟨⟨reg [(7, iv ((i + 1) : Int)), (5, pv 2 0), (4, pv 1 0), (0, inV o 0 ns.length), (1, iv (k : Int))], [inB o (ii ns), cw (pl zeroP), cw (pl d)]⟩, ?_⟩
          refine and3 (by omega) ⟨?_, ?_⟩
          · exact Wk.ren [0, 1, 2] rfl rfl (by decide) ⟨rfl, ⟨rfl, ⟨rfl, ⟨((renV_inV o rfl)).trans rfl, ⟨rfl, trivial⟩⟩⟩⟩⟩ ⟨.inl (ren_inB o (ii_scl ns)), ⟨.inl (ren_cells (pl_scl zeroP)), ⟨.inl (ren_cells (pl_scl d)), trivial⟩⟩⟩
          · exact ⟨(i + 1), d, rfl, by omega, (by rw [← hf, hstep]; simp [stepM, h1, h1', h2, h2', h3, h3']), rfl⟩
      · skip
        have h2' : ¬ ((i : Int) < (k : Int)) := of_decide_eq_false h2
        refine gexit ?_
        refine seq_go ?_
        refine gseq ?_
        refine greg ?_
        refine o_s (by refine run_ld (v := poolV d) rfl rfl ?_; exact pl_all d) ?_
        refine o_s0 (by refine run_st (c' := pl d) rfl rfl rfl ?_ ?_ ?_; exact pl_length _; exact pl_le (by omega); exact splice_pl0 zeroP d) ?_
        refine o_nil ?_
        refine seq_go ?_
        refine gret ?_
        have e0 : makeS ns k = d := by
          rw [← hf]; have : (ns.drop i).take (k - i) = [] := by simp; omega
          rw [this]; rfl
        exact fin_ans [poolV d] (resV_c rfl rfl (pl_all d) rfl) (all_cons (poolV_aggf d) rfl) (by rw [e0]; rfl) rfl (show List.all [inB o (ii ns)] blkf = true from (all_cons (inB_gone _ (ii_scl ns)) rfl))
    · skip
      have h1' : ¬ ((i : Int) < (ns.length : Nat)) := of_decide_eq_false h1
      refine o_d 4 [(24, bv false), (23, undef), (22, undef), (21, undef)] (by kernel_rfl) ?_
      refine o_nil ?_
      refine seq_go ?_
      refine gfalse rfl ?_
      refine gexit ?_
      refine seq_go ?_
      refine gseq ?_
      refine greg ?_
      refine o_s (by refine run_ld (v := poolV d) rfl rfl ?_; exact pl_all d) ?_
      refine o_s0 (by refine run_st (c' := pl d) rfl rfl rfl ?_ ?_ ?_; exact pl_length _; exact pl_le (by omega); exact splice_pl0 zeroP d) ?_
      refine o_nil ?_
      refine seq_go ?_
      refine gret ?_
      have e0 : makeS ns k = d := by
        rw [← hf]; have : (ns.drop i).take (k - i) = [] := by simp; omega
        rw [this]; rfl
      exact fin_ans [poolV d] (resV_c rfl rfl (pl_all d) rfl) (all_cons (poolV_aggf d) rfl) (by rw [e0]; rfl) rfl (show List.all [inB o (ii ns)] blkf = true from (all_cons (inB_gone _ (ii_scl ns)) rfl))
end Go.Rh

set_option linter.unusedSimpArgs false
set_option linter.unusedVariables false
set_option maxRecDepth 100000
set_option maxHeartbeats 8000000
namespace Go.Rh
theorem ren_pool_sl (c : Flat) (k n cap m : Nat) : [poolV c, .slice (some ⟨0, 0, none⟩) n cap].map (renV (rho [k] m)) = [poolV c, .slice (some ⟨k, 0, none⟩) n cap] := by
  simp only [List.map_cons, List.map_nil]; rw [renV_vpf (poolV_vpf c)]; rfl
theorem refAllE {P : Program} (h0 : codeOf P "roundhouse/roundhouseref6.All" = some c_ref6_All) (h1 : codeOf P "roundhouse/roundhouseref6.Apply" = some c_ref6_Apply) (h2 : codeOf P "roundhouse/roundhouseref6.Check" = some c_ref6_Check) (h3 : codeOf P "roundhouse/roundhouseref6.out" = some c_ref6_out) (h4 : codeOf P "roundhouse/roundhouseref6.bad" = some c_ref6_bad) (h5 : codeOf P "roundhouse/roundhouseref6.Held" = some c_ref6_Held) (h6 : codeOf P "roundhouse/roundhouseref5.Next" = some c_ref5_Next) (c : Flat) (es : List Ent) (m n cap : Nat) (hne : n = es.length) (hn : n ≤ 1000000) :
    Env P "roundhouse/roundhouseref6.All" [poolV c, .slice (some ⟨0, 0, none⟩) n cap] (roL [entsL es ++ room zE m]) (Ans (.tuple #[poolV (allS c es 0).1, .int .i64 (allS c es 0).2.1, .int .i64 (allS c es 0).2.2]) (roL [entsL es ++ room zE m])) := by
  subst hne; exact refAllC h0 h1 h2 h3 h4 h5 h6 c es m cap hn
theorem All0 {P : Program} (hc : codeOf P "roundhouse/pool.All" = some c_pool_All) (h_pool_Apply : codeOf P "roundhouse/pool.Apply" = some c_pool_Apply) (h_pool_may : codeOf P "roundhouse/pool.may" = some c_pool_may) (h_pool_held : codeOf P "roundhouse/pool.held" = some c_pool_held) (h_pool_fits : codeOf P "roundhouse/pool.fits" = some c_pool_fits) (h_pool_Check : codeOf P "roundhouse/pool.Check" = some c_pool_Check) (h_pool_placed : codeOf P "roundhouse/pool.placed" = some c_pool_placed) (h_cookie_Next : codeOf P "roundhouse/cookie.Next" = some c_cookie_Next) (c : Flat) :
    Env P "roundhouse/pool.All" [poolV c, .slice none 0 0] ([]) (Ans (.tuple #[poolV c, iv 0, iv 0]) ([])) := by
  refine Env.by hc ?_
  unfold c_pool_All
  show GC _ 0 _ _ ⟨reg [(0, poolV c), (1, .slice none 0 0)], []⟩
  refine gseq ?_
  refine greg ?_
  refine o_b 4 [(6, iv 0), (5, iv 0), (4, pv 1 0), (2, pv 0 0)] [cw (pl c), cw (pl zeroP)] (by kernel_rfl) ?_
  refine o_nil ?_
  refine seq_go ?_
  refine gseq ?_
  refine gseq ?_
  refine greg ?_
  refine o_d 3 [(13, iv 0), (12, iv 0), (11, .slice none 0 0)] (by kernel_rfl) ?_
  refine o_nil ?_
  refine seq_go ?_
  refine gblock ?_
  refine gloop (fun μ s => (μ = 0 ∧ s = ⟨reg [(13, iv 0), (12, iv 0), (11, .slice none 0 0), (4, pv 1 0), (2, pv 0 0), (1, .slice none 0 0)], [cw (pl c), cw (pl zeroP)]⟩)) ⟨0, ?_⟩ ?_
  · skip
    refine ⟨⟨reg [(13, iv 0), (12, iv 0), (11, .slice none 0 0), (4, pv 1 0), (2, pv 0 0), (1, .slice none 0 0)], [cw (pl c), cw (pl zeroP)]⟩, ?_⟩
    refine ⟨?_, ?_⟩
    · exact Wk.ren [0, 1] rfl rfl (by decide) ⟨rfl, ⟨rfl, ⟨rfl, ⟨rfl, ⟨rfl, ⟨rfl, trivial⟩⟩⟩⟩⟩⟩ ⟨.inl (ren_cells (pl_scl c)), ⟨.inl (ren_cells (pl_scl zeroP)), trivial⟩⟩
    · exact ⟨rfl, rfl⟩
  · rintro μ s (⟨rfl, rfl⟩)
    · skip
      refine gseq ?_
      refine greg ?_
      refine o_d 1 [(14, bv false)] (by kernel_rfl) ?_
      refine o_nil ?_
      refine seq_go ?_
      refine gseq ?_
      refine gfalse rfl ?_
      refine gexit ?_
      refine seq_go ?_
      refine gseq ?_
      refine greg ?_
      refine o_s (by refine run_ld (v := poolV c) rfl rfl ?_; exact pl_all c) ?_
      refine o_d 2 [(33, iv 0), (32, .slice none 0 0)] (by kernel_rfl) ?_
      refine o_s0 (by refine run_st (c' := pl c) rfl rfl rfl ?_ ?_ ?_; exact pl_length _; exact pl_le (by omega); exact splice_pl0 zeroP c) ?_
      refine o_b 2 [(6, iv 0), (5, iv 0)] [cw (pl c), cw (pl c)] (by kernel_rfl) ?_
      refine o_nil ?_
      refine seq_go ?_
      refine gret ?_
      exact fin_ans [poolV c, iv 0, iv 0] (resV_c rfl rfl (pl_all c) (resV_t rfl (resV_t rfl rfl))) (all_cons (poolV_aggf c) (all_cons rfl (all_cons rfl rfl))) (by rfl) rfl rfl
theorem refAll0 {P : Program} (hc : codeOf P "roundhouse/roundhouseref6.All" = some c_ref6_All) (h_ref6_Apply : codeOf P "roundhouse/roundhouseref6.Apply" = some c_ref6_Apply) (h_ref6_Check : codeOf P "roundhouse/roundhouseref6.Check" = some c_ref6_Check) (h_ref6_out : codeOf P "roundhouse/roundhouseref6.out" = some c_ref6_out) (h_ref6_bad : codeOf P "roundhouse/roundhouseref6.bad" = some c_ref6_bad) (h_ref6_Held : codeOf P "roundhouse/roundhouseref6.Held" = some c_ref6_Held) (h_ref5_Next : codeOf P "roundhouse/roundhouseref5.Next" = some c_ref5_Next) (c : Flat) :
    Env P "roundhouse/roundhouseref6.All" [poolV c, .slice none 0 0] ([]) (Ans (.tuple #[poolV c, iv 0, iv 0]) ([])) := by
  refine Env.by hc ?_
  unfold c_ref6_All
  show GC _ 0 _ _ ⟨reg [(0, poolV c), (1, .slice none 0 0)], []⟩
  refine gseq ?_
  refine greg ?_
  refine o_b 4 [(6, iv 0), (5, iv 0), (4, pv 1 0), (2, pv 0 0)] [cw (pl c), cw (pl zeroP)] (by kernel_rfl) ?_
  refine o_nil ?_
  refine seq_go ?_
  refine gseq ?_
  refine gseq ?_
  refine greg ?_
  refine o_d 1 [(7, iv 0)] (by kernel_rfl) ?_
  refine o_nil ?_
  refine seq_go ?_
  refine gblock ?_
  refine gloop (fun μ s => (μ = 0 ∧ s = ⟨reg [(7, iv 0), (4, pv 1 0), (2, pv 0 0), (1, .slice none 0 0)], [cw (pl c), cw (pl zeroP)]⟩)) ⟨0, ?_⟩ ?_
  · skip
    refine ⟨⟨reg [(7, iv 0), (4, pv 1 0), (2, pv 0 0), (1, .slice none 0 0)], [cw (pl c), cw (pl zeroP)]⟩, ?_⟩
    refine ⟨?_, ?_⟩
    · exact Wk.ren [0, 1] rfl rfl (by decide) ⟨rfl, ⟨rfl, ⟨rfl, ⟨rfl, trivial⟩⟩⟩⟩ ⟨.inl (ren_cells (pl_scl c)), ⟨.inl (ren_cells (pl_scl zeroP)), trivial⟩⟩
    · exact ⟨rfl, rfl⟩
  · rintro μ s (⟨rfl, rfl⟩)
    · skip
      refine gseq ?_
      refine gseq ?_
      refine greg ?_
      refine o_d 4 [(13, bv false), (12, iv 0), (11, .slice none 0 0), (10, iv 0)] (by kernel_rfl) ?_
      refine o_nil ?_
      refine seq_go ?_
      refine gfalse rfl ?_
      refine gexit ?_
      refine seq_go ?_
      refine gseq ?_
      refine greg ?_
      refine o_s (by refine run_ld (v := poolV c) rfl rfl ?_; exact pl_all c) ?_
      refine o_d 2 [(33, iv 0), (32, .slice none 0 0)] (by kernel_rfl) ?_
      refine o_s0 (by refine run_st (c' := pl c) rfl rfl rfl ?_ ?_ ?_; exact pl_length _; exact pl_le (by omega); exact splice_pl0 zeroP c) ?_
      refine o_b 2 [(6, iv 0), (5, iv 0)] [cw (pl c), cw (pl c)] (by kernel_rfl) ?_
      refine o_nil ?_
      refine seq_go ?_
      refine gret ?_
      exact fin_ans [poolV c, iv 0, iv 0] (resV_c rfl rfl (pl_all c) (resV_t rfl (resV_t rfl rfl))) (all_cons (poolV_aggf c) (all_cons rfl (all_cons rfl rfl))) (by rfl) rfl rfl
theorem knownC {P : Program} (hc : codeOf P "roundhouse/roundhouselaw6.known" = some c_law6_known) (h_pool_New : codeOf P "roundhouse/pool.New" = some c_pool_New) (h_pool_placed : codeOf P "roundhouse/pool.placed" = some c_pool_placed) (h_cookie_Ring : codeOf P "roundhouse/cookie.Ring" = some c_cookie_Ring) (h_pool_Find : codeOf P "roundhouse/pool.Find" = some c_pool_Find) (h_pool_may : codeOf P "roundhouse/pool.may" = some c_pool_may) (h_pool_All : codeOf P "roundhouse/pool.All" = some c_pool_All) (h_pool_Apply : codeOf P "roundhouse/pool.Apply" = some c_pool_Apply) (h_pool_held : codeOf P "roundhouse/pool.held" = some c_pool_held) (h_pool_fits : codeOf P "roundhouse/pool.fits" = some c_pool_fits) (h_pool_Check : codeOf P "roundhouse/pool.Check" = some c_pool_Check) (h_cookie_Next : codeOf P "roundhouse/cookie.Next" = some c_cookie_Next) (h_pool_Takes : codeOf P "roundhouse/pool.Takes" = some c_pool_Takes)  :
    Env P "roundhouse/roundhouselaw6.known" [] ([]) (Ans (.bool true) ([])) := by
  refine Env.by hc ?_
  unfold c_law6_known
  show GC _ 0 _ _ ⟨reg [], []⟩
  refine gseq ?_
  refine greg ?_
  refine o_d 1 [(0, bv false)] (by kernel_rfl) ?_
  refine o_nil ?_
  refine seq_go ?_
  refine gseq ?_
  refine greg ?_
  refine o_d 2 [(14, .agg #[uv 2, uv 0]), (13, .agg #[uv 1, uv 0])] (by kernel_rfl) ?_
  refine o_cl (callV (NewC' h_pool_New h_pool_placed h_cookie_Ring 1 2 1 0 2 0) rfl rfl (all_cons (poolV_aggf ((newP 1 2 1 0 2 0).1)) (all_cons rfl rfl)) ?_)
  refine o_b 4 [(1, pv 0 0), (17, iv ((newP 1 2 1 0 2 0).2)), (16, poolV ((newP 1 2 1 0 2 0).1)), (12, .tuple #[poolV ((newP 1 2 1 0 2 0).1), iv ((newP 1 2 1 0 2 0).2)])] [cw (pl zeroP)] (by kernel_rfl) ?_
  refine o_s0 (by refine run_st (c' := pl ((newP 1 2 1 0 2 0).1)) rfl rfl rfl ?_ ?_ ?_; exact pl_length _; exact pl_le (by omega); exact splice_pl0 zeroP ((newP 1 2 1 0 2 0).1)) ?_
  refine o_b 1 [(2, iv ((newP 1 2 1 0 2 0).2))] [cw (pl ((newP 1 2 1 0 2 0).1))] (by kernel_rfl) ?_
  refine o_nil ?_
  refine seq_go ?_
  refine gseq ?_
  refine greg ?_
  refine o_s (by refine run_ld (v := poolV ((newP 1 2 1 0 2 0).1)) rfl rfl ?_; exact pl_all ((newP 1 2 1 0 2 0).1)) ?_
  refine o_cl (callV (FindC h_pool_Find h_pool_may ((newP 1 2 1 0 2 0).1) 3 4) rfl (all_cons (poolV_vpf ((newP 1 2 1 0 2 0).1)) (all_cons rfl (all_cons rfl rfl))) rfl ?_)
  refine o_d 5 [(4, bv ((findR (hitS ((newP 1 2 1 0 2 0).1) 3 4) 0 64).2)), (3, iv ((findR (hitS ((newP 1 2 1 0 2 0).1) 3 4) 0 64).1)), (22, bv ((findR (hitS ((newP 1 2 1 0 2 0).1) 3 4) 0 64).2)), (21, iv ((findR (hitS ((newP 1 2 1 0 2 0).1) 3 4) 0 64).1)), (18, .tuple #[iv ((findR (hitS ((newP 1 2 1 0 2 0).1) 3 4) 0 64).1), bv ((findR (hitS ((newP 1 2 1 0 2 0).1) 3 4) 0 64).2)])] (by kernel_rfl) ?_
  refine o_nil ?_
  refine seq_go ?_
  refine gseq ?_
  refine greg ?_
  refine o_s (by refine run_ld (v := poolV ((newP 1 2 1 0 2 0).1)) rfl rfl ?_; exact pl_all ((newP 1 2 1 0 2 0).1)) ?_
  refine o_b 3 [(27, sv 1 0 2 2), (26, .agg #[iv 2, iv 5, iv 0, iv 0, iv 0, uv 0, uv 0]), (25, .agg #[iv 1, iv 5, iv 3, iv 4, iv 1, uv 0, uv 0])] [cw (pl ((newP 1 2 1 0 2 0).1)), cw [iv 1, iv 5, iv 3, iv 4, iv 1, uv 0, uv 0, iv 2, iv 5, iv 0, iv 0, iv 0, uv 0, uv 0]] (by kernel_rfl) ?_
  refine o_cl (callS (a1 := [poolV ((newP 1 2 1 0 2 0).1), .slice (some ⟨0, 0, none⟩) 2 2]) [1] [entsL ([(⟨1, 5, 3, 4, 1, 0, 0⟩ : Ent), (⟨2, 5, 0, 0, 0, 0, 0⟩ : Ent)]) ++ room zE 0] (AllE h_pool_All h_pool_Apply h_pool_may h_pool_held h_pool_fits h_pool_Check h_pool_placed h_cookie_Next ((newP 1 2 1 0 2 0).1) ([(⟨1, 5, 3, 4, 1, 0, 0⟩ : Ent), (⟨2, 5, 0, 0, 0, 0, 0⟩ : Ent)]) 0 2 2 (by simp) (by omega)) rfl (fun n => ren_pool_sl _ _ _ _ _) ⟨⟨_, rfl⟩, entsR_scl _ _, trivial⟩ (all_cons (poolV_aggf ((allS ((newP 1 2 1 0 2 0).1) ([(⟨1, 5, 3, 4, 1, 0, 0⟩ : Ent), (⟨2, 5, 0, 0, 0, 0, 0⟩ : Ent)]) 0).1)) (all_cons rfl (all_cons rfl rfl))) ?_)
  refine o_b 5 [(5, pv 2 0), (31, iv ((allS ((newP 1 2 1 0 2 0).1) ([(⟨1, 5, 3, 4, 1, 0, 0⟩ : Ent), (⟨2, 5, 0, 0, 0, 0, 0⟩ : Ent)]) 0).2.2)), (30, iv ((allS ((newP 1 2 1 0 2 0).1) ([(⟨1, 5, 3, 4, 1, 0, 0⟩ : Ent), (⟨2, 5, 0, 0, 0, 0, 0⟩ : Ent)]) 0).2.1 : Int)), (29, poolV ((allS ((newP 1 2 1 0 2 0).1) ([(⟨1, 5, 3, 4, 1, 0, 0⟩ : Ent), (⟨2, 5, 0, 0, 0, 0, 0⟩ : Ent)]) 0).1)), (23, .tuple #[poolV ((allS ((newP 1 2 1 0 2 0).1) ([(⟨1, 5, 3, 4, 1, 0, 0⟩ : Ent), (⟨2, 5, 0, 0, 0, 0, 0⟩ : Ent)]) 0).1), iv ((allS ((newP 1 2 1 0 2 0).1) ([(⟨1, 5, 3, 4, 1, 0, 0⟩ : Ent), (⟨2, 5, 0, 0, 0, 0, 0⟩ : Ent)]) 0).2.1 : Int), iv ((allS ((newP 1 2 1 0 2 0).1) ([(⟨1, 5, 3, 4, 1, 0, 0⟩ : Ent), (⟨2, 5, 0, 0, 0, 0, 0⟩ : Ent)]) 0).2.2)])] [cw (pl ((newP 1 2 1 0 2 0).1)), cw [iv 1, iv 5, iv 3, iv 4, iv 1, uv 0, uv 0, iv 2, iv 5, iv 0, iv 0, iv 0, uv 0, uv 0], cw (pl zeroP)] (by kernel_rfl) ?_
  refine o_s0 (by refine run_st (c' := pl ((allS ((newP 1 2 1 0 2 0).1) ([(⟨1, 5, 3, 4, 1, 0, 0⟩ : Ent), (⟨2, 5, 0, 0, 0, 0, 0⟩ : Ent)]) 0).1)) rfl rfl rfl ?_ ?_ ?_; exact pl_length _; exact pl_le (by omega); exact splice_pl0 zeroP ((allS ((newP 1 2 1 0 2 0).1) ([(⟨1, 5, 3, 4, 1, 0, 0⟩ : Ent), (⟨2, 5, 0, 0, 0, 0, 0⟩ : Ent)]) 0).1)) ?_
  refine o_b 2 [(7, iv ((allS ((newP 1 2 1 0 2 0).1) ([(⟨1, 5, 3, 4, 1, 0, 0⟩ : Ent), (⟨2, 5, 0, 0, 0, 0, 0⟩ : Ent)]) 0).2.2)), (6, iv ((allS ((newP 1 2 1 0 2 0).1) ([(⟨1, 5, 3, 4, 1, 0, 0⟩ : Ent), (⟨2, 5, 0, 0, 0, 0, 0⟩ : Ent)]) 0).2.1 : Int))] [cw (pl ((newP 1 2 1 0 2 0).1)), cw [iv 1, iv 5, iv 3, iv 4, iv 1, uv 0, uv 0, iv 2, iv 5, iv 0, iv 0, iv 0, uv 0, uv 0], cw (pl ((allS ((newP 1 2 1 0 2 0).1) ([(⟨1, 5, 3, 4, 1, 0, 0⟩ : Ent), (⟨2, 5, 0, 0, 0, 0, 0⟩ : Ent)]) 0).1))] (by kernel_rfl) ?_
  refine o_nil ?_
  refine seq_regs [(7, iv ((allS ((newP 1 2 1 0 2 0).1) ([(⟨1, 5, 3, 4, 1, 0, 0⟩ : Ent), (⟨2, 5, 0, 0, 0, 0, 0⟩ : Ent)]) 0).2.2)), (6, iv ((allS ((newP 1 2 1 0 2 0).1) ([(⟨1, 5, 3, 4, 1, 0, 0⟩ : Ent), (⟨2, 5, 0, 0, 0, 0, 0⟩ : Ent)]) 0).2.1 : Int)), (5, pv 2 0), (4, bv ((findR (hitS ((newP 1 2 1 0 2 0).1) 3 4) 0 64).2)), (2, iv ((newP 1 2 1 0 2 0).2)), (1, pv 0 0)] (by kernel_rfl) ?_
  refine gseq ?_
  refine greg ?_
  refine o_s (by refine run_ld (v := poolV ((allS ((newP 1 2 1 0 2 0).1) ([(⟨1, 5, 3, 4, 1, 0, 0⟩ : Ent), (⟨2, 5, 0, 0, 0, 0, 0⟩ : Ent)]) 0).1)) rfl rfl ?_; exact pl_all ((allS ((newP 1 2 1 0 2 0).1) ([(⟨1, 5, 3, 4, 1, 0, 0⟩ : Ent), (⟨2, 5, 0, 0, 0, 0, 0⟩ : Ent)]) 0).1)) ?_
  refine o_cl (callV (FindC h_pool_Find h_pool_may ((allS ((newP 1 2 1 0 2 0).1) ([(⟨1, 5, 3, 4, 1, 0, 0⟩ : Ent), (⟨2, 5, 0, 0, 0, 0, 0⟩ : Ent)]) 0).1) 3 4) rfl (all_cons (poolV_vpf ((allS ((newP 1 2 1 0 2 0).1) ([(⟨1, 5, 3, 4, 1, 0, 0⟩ : Ent), (⟨2, 5, 0, 0, 0, 0, 0⟩ : Ent)]) 0).1)) (all_cons rfl (all_cons rfl rfl))) rfl ?_)
  refine o_d 5 [(9, bv ((findR (hitS ((allS ((newP 1 2 1 0 2 0).1) ([(⟨1, 5, 3, 4, 1, 0, 0⟩ : Ent), (⟨2, 5, 0, 0, 0, 0, 0⟩ : Ent)]) 0).1) 3 4) 0 64).2)), (8, iv ((findR (hitS ((allS ((newP 1 2 1 0 2 0).1) ([(⟨1, 5, 3, 4, 1, 0, 0⟩ : Ent), (⟨2, 5, 0, 0, 0, 0, 0⟩ : Ent)]) 0).1) 3 4) 0 64).1)), (36, bv ((findR (hitS ((allS ((newP 1 2 1 0 2 0).1) ([(⟨1, 5, 3, 4, 1, 0, 0⟩ : Ent), (⟨2, 5, 0, 0, 0, 0, 0⟩ : Ent)]) 0).1) 3 4) 0 64).2)), (35, iv ((findR (hitS ((allS ((newP 1 2 1 0 2 0).1) ([(⟨1, 5, 3, 4, 1, 0, 0⟩ : Ent), (⟨2, 5, 0, 0, 0, 0, 0⟩ : Ent)]) 0).1) 3 4) 0 64).1)), (32, .tuple #[iv ((findR (hitS ((allS ((newP 1 2 1 0 2 0).1) ([(⟨1, 5, 3, 4, 1, 0, 0⟩ : Ent), (⟨2, 5, 0, 0, 0, 0, 0⟩ : Ent)]) 0).1) 3 4) 0 64).1), bv ((findR (hitS ((allS ((newP 1 2 1 0 2 0).1) ([(⟨1, 5, 3, 4, 1, 0, 0⟩ : Ent), (⟨2, 5, 0, 0, 0, 0, 0⟩ : Ent)]) 0).1) 3 4) 0 64).2)])] (by kernel_rfl) ?_
  refine o_nil ?_
  refine seq_go ?_
  refine gseq ?_
  refine greg ?_
  refine o_s (by refine run_ld (v := poolV ((allS ((newP 1 2 1 0 2 0).1) ([(⟨1, 5, 3, 4, 1, 0, 0⟩ : Ent), (⟨2, 5, 0, 0, 0, 0, 0⟩ : Ent)]) 0).1)) rfl rfl ?_; exact pl_all ((allS ((newP 1 2 1 0 2 0).1) ([(⟨1, 5, 3, 4, 1, 0, 0⟩ : Ent), (⟨2, 5, 0, 0, 0, 0, 0⟩ : Ent)]) 0).1)) ?_
  refine o_d 1 [(39, .agg #[iv 5, iv 5, iv 0, iv 0, iv 0, uv 0, uv 0])] (by kernel_rfl) ?_
  refine o_cl (callV (ApplyC h_pool_Apply h_pool_may h_pool_held h_pool_fits h_pool_Check h_pool_placed h_cookie_Next ((allS ((newP 1 2 1 0 2 0).1) ([(⟨1, 5, 3, 4, 1, 0, 0⟩ : Ent), (⟨2, 5, 0, 0, 0, 0, 0⟩ : Ent)]) 0).1) (⟨5, 5, 0, 0, 0, 0, 0⟩)) rfl (all_cons (poolV_vpf ((allS ((newP 1 2 1 0 2 0).1) ([(⟨1, 5, 3, 4, 1, 0, 0⟩ : Ent), (⟨2, 5, 0, 0, 0, 0, 0⟩ : Ent)]) 0).1)) (all_cons rfl rfl)) (all_cons (poolV_aggf ((applyS ((allS ((newP 1 2 1 0 2 0).1) ([(⟨1, 5, 3, 4, 1, 0, 0⟩ : Ent), (⟨2, 5, 0, 0, 0, 0, 0⟩ : Ent)]) 0).1) (⟨5, 5, 0, 0, 0, 0, 0⟩)).1)) (all_cons rfl rfl)) ?_)
  refine o_b 4 [(10, pv 3 0), (42, iv ((applyS ((allS ((newP 1 2 1 0 2 0).1) ([(⟨1, 5, 3, 4, 1, 0, 0⟩ : Ent), (⟨2, 5, 0, 0, 0, 0, 0⟩ : Ent)]) 0).1) (⟨5, 5, 0, 0, 0, 0, 0⟩)).2)), (41, poolV ((applyS ((allS ((newP 1 2 1 0 2 0).1) ([(⟨1, 5, 3, 4, 1, 0, 0⟩ : Ent), (⟨2, 5, 0, 0, 0, 0, 0⟩ : Ent)]) 0).1) (⟨5, 5, 0, 0, 0, 0, 0⟩)).1)), (37, .tuple #[poolV ((applyS ((allS ((newP 1 2 1 0 2 0).1) ([(⟨1, 5, 3, 4, 1, 0, 0⟩ : Ent), (⟨2, 5, 0, 0, 0, 0, 0⟩ : Ent)]) 0).1) (⟨5, 5, 0, 0, 0, 0, 0⟩)).1), iv ((applyS ((allS ((newP 1 2 1 0 2 0).1) ([(⟨1, 5, 3, 4, 1, 0, 0⟩ : Ent), (⟨2, 5, 0, 0, 0, 0, 0⟩ : Ent)]) 0).1) (⟨5, 5, 0, 0, 0, 0, 0⟩)).2)])] [cw (pl ((newP 1 2 1 0 2 0).1)), cw [iv 1, iv 5, iv 3, iv 4, iv 1, uv 0, uv 0, iv 2, iv 5, iv 0, iv 0, iv 0, uv 0, uv 0], cw (pl ((allS ((newP 1 2 1 0 2 0).1) ([(⟨1, 5, 3, 4, 1, 0, 0⟩ : Ent), (⟨2, 5, 0, 0, 0, 0, 0⟩ : Ent)]) 0).1)), cw (pl zeroP)] (by kernel_rfl) ?_
  refine o_s0 (by refine run_st (c' := pl ((applyS ((allS ((newP 1 2 1 0 2 0).1) ([(⟨1, 5, 3, 4, 1, 0, 0⟩ : Ent), (⟨2, 5, 0, 0, 0, 0, 0⟩ : Ent)]) 0).1) (⟨5, 5, 0, 0, 0, 0, 0⟩)).1)) rfl rfl rfl ?_ ?_ ?_; exact pl_length _; exact pl_le (by omega); exact splice_pl0 zeroP ((applyS ((allS ((newP 1 2 1 0 2 0).1) ([(⟨1, 5, 3, 4, 1, 0, 0⟩ : Ent), (⟨2, 5, 0, 0, 0, 0, 0⟩ : Ent)]) 0).1) (⟨5, 5, 0, 0, 0, 0, 0⟩)).1)) ?_
  refine o_b 1 [(11, iv ((applyS ((allS ((newP 1 2 1 0 2 0).1) ([(⟨1, 5, 3, 4, 1, 0, 0⟩ : Ent), (⟨2, 5, 0, 0, 0, 0, 0⟩ : Ent)]) 0).1) (⟨5, 5, 0, 0, 0, 0, 0⟩)).2))] [cw (pl ((newP 1 2 1 0 2 0).1)), cw [iv 1, iv 5, iv 3, iv 4, iv 1, uv 0, uv 0, iv 2, iv 5, iv 0, iv 0, iv 0, uv 0, uv 0], cw (pl ((allS ((newP 1 2 1 0 2 0).1) ([(⟨1, 5, 3, 4, 1, 0, 0⟩ : Ent), (⟨2, 5, 0, 0, 0, 0, 0⟩ : Ent)]) 0).1)), cw (pl ((applyS ((allS ((newP 1 2 1 0 2 0).1) ([(⟨1, 5, 3, 4, 1, 0, 0⟩ : Ent), (⟨2, 5, 0, 0, 0, 0, 0⟩ : Ent)]) 0).1) (⟨5, 5, 0, 0, 0, 0, 0⟩)).1))] (by kernel_rfl) ?_
  refine o_nil ?_
  refine seq_go ?_
  refine gseq ?_
  refine greg ?_
  refine o_d 3 [(45, bv (((newP 1 2 1 0 2 0).2) == 0)), (44, bv (((newP 1 2 1 0 2 0).2) == 0)), (43, iv ((newP 1 2 1 0 2 0).2))] (by kernel_rfl) ?_
  refine o_sp (b := ((newP 1 2 1 0 2 0).2) == 0) 45 rfl (fun k1 => ?_) (fun q => by rw [(by kernel_rfl : (((newP 1 2 1 0 2 0).2) == 0) = true)] at q; cases q)
  refine o_d 4 [(49, bv (!((findR (hitS ((newP 1 2 1 0 2 0).1) 3 4) 0 64).2))), (48, bv (!((findR (hitS ((newP 1 2 1 0 2 0).1) 3 4) 0 64).2))), (47, bv (!((findR (hitS ((newP 1 2 1 0 2 0).1) 3 4) 0 64).2))), (46, bv ((findR (hitS ((newP 1 2 1 0 2 0).1) 3 4) 0 64).2))] (by kernel_rfl) ?_
  refine o_sp (b := !((findR (hitS ((newP 1 2 1 0 2 0).1) 3 4) 0 64).2)) 49 rfl (fun k2 => ?_) (fun q => by rw [(by kernel_rfl : (!((findR (hitS ((newP 1 2 1 0 2 0).1) 3 4) 0 64).2)) = true)] at q; cases q)
  refine o_d 2 [(51, pv 0 323), (50, pv 0 323)] (by kernel_rfl) ?_
  refine o_unguard rfl ?_
  refine o_s (by refine run_ld (v := iv (((newP 1 2 1 0 2 0).1) 323)) rfl rfl ?_; exact pl_r ((newP 1 2 1 0 2 0).1) 323 rfl (by omega)) ?_
  refine o_d 3 [(55, bv ((((newP 1 2 1 0 2 0).1) 323) == 1)), (54, bv ((((newP 1 2 1 0 2 0).1) 323) == 1)), (53, bv ((((newP 1 2 1 0 2 0).1) 323) == 1))] (by kernel_rfl) ?_
  refine o_sp (b := (((newP 1 2 1 0 2 0).1) 323) == 1) 55 rfl (fun k3 => ?_) (fun q => by rw [(by kernel_rfl : ((((newP 1 2 1 0 2 0).1) 323) == 1) = true)] at q; cases q)
  refine o_d 4 [(59, bv (((allS ((newP 1 2 1 0 2 0).1) ([(⟨1, 5, 3, 4, 1, 0, 0⟩ : Ent), (⟨2, 5, 0, 0, 0, 0, 0⟩ : Ent)]) 0).2.2) == 0)), (58, bv (((allS ((newP 1 2 1 0 2 0).1) ([(⟨1, 5, 3, 4, 1, 0, 0⟩ : Ent), (⟨2, 5, 0, 0, 0, 0, 0⟩ : Ent)]) 0).2.2) == 0)), (57, bv (((allS ((newP 1 2 1 0 2 0).1) ([(⟨1, 5, 3, 4, 1, 0, 0⟩ : Ent), (⟨2, 5, 0, 0, 0, 0, 0⟩ : Ent)]) 0).2.2) == 0)), (56, iv ((allS ((newP 1 2 1 0 2 0).1) ([(⟨1, 5, 3, 4, 1, 0, 0⟩ : Ent), (⟨2, 5, 0, 0, 0, 0, 0⟩ : Ent)]) 0).2.2))] (by kernel_rfl) ?_
  refine o_sp (b := ((allS ((newP 1 2 1 0 2 0).1) ([(⟨1, 5, 3, 4, 1, 0, 0⟩ : Ent), (⟨2, 5, 0, 0, 0, 0, 0⟩ : Ent)]) 0).2.2) == 0) 59 rfl (fun k4 => ?_) (fun q => by rw [(by kernel_rfl : (((allS ((newP 1 2 1 0 2 0).1) ([(⟨1, 5, 3, 4, 1, 0, 0⟩ : Ent), (⟨2, 5, 0, 0, 0, 0, 0⟩ : Ent)]) 0).2.2) == 0) = true)] at q; cases q)
  refine o_d 4 [(63, bv (((allS ((newP 1 2 1 0 2 0).1) ([(⟨1, 5, 3, 4, 1, 0, 0⟩ : Ent), (⟨2, 5, 0, 0, 0, 0, 0⟩ : Ent)]) 0).2.1 : Int) == 2)), (62, bv (((allS ((newP 1 2 1 0 2 0).1) ([(⟨1, 5, 3, 4, 1, 0, 0⟩ : Ent), (⟨2, 5, 0, 0, 0, 0, 0⟩ : Ent)]) 0).2.1 : Int) == 2)), (61, bv (((allS ((newP 1 2 1 0 2 0).1) ([(⟨1, 5, 3, 4, 1, 0, 0⟩ : Ent), (⟨2, 5, 0, 0, 0, 0, 0⟩ : Ent)]) 0).2.1 : Int) == 2)), (60, iv ((allS ((newP 1 2 1 0 2 0).1) ([(⟨1, 5, 3, 4, 1, 0, 0⟩ : Ent), (⟨2, 5, 0, 0, 0, 0, 0⟩ : Ent)]) 0).2.1 : Int))] (by kernel_rfl) ?_
  refine o_sp (b := ((allS ((newP 1 2 1 0 2 0).1) ([(⟨1, 5, 3, 4, 1, 0, 0⟩ : Ent), (⟨2, 5, 0, 0, 0, 0, 0⟩ : Ent)]) 0).2.1 : Int) == 2) 63 rfl (fun k5 => ?_) (fun q => by rw [(by kernel_rfl : (((allS ((newP 1 2 1 0 2 0).1) ([(⟨1, 5, 3, 4, 1, 0, 0⟩ : Ent), (⟨2, 5, 0, 0, 0, 0, 0⟩ : Ent)]) 0).2.1 : Int) == 2) = true)] at q; cases q)
  refine o_d 1 [(64, pv 2 0)] (by kernel_rfl) ?_
  refine o_unguard rfl ?_
  refine o_s (by refine run_ld (v := iv (((allS ((newP 1 2 1 0 2 0).1) ([(⟨1, 5, 3, 4, 1, 0, 0⟩ : Ent), (⟨2, 5, 0, 0, 0, 0, 0⟩ : Ent)]) 0).1) 0)) rfl rfl ?_; exact pl_r ((allS ((newP 1 2 1 0 2 0).1) ([(⟨1, 5, 3, 4, 1, 0, 0⟩ : Ent), (⟨2, 5, 0, 0, 0, 0, 0⟩ : Ent)]) 0).1) 0 rfl (by omega)) ?_
  refine o_d 3 [(68, bv ((((allS ((newP 1 2 1 0 2 0).1) ([(⟨1, 5, 3, 4, 1, 0, 0⟩ : Ent), (⟨2, 5, 0, 0, 0, 0, 0⟩ : Ent)]) 0).1) 0) == 2)), (67, bv ((((allS ((newP 1 2 1 0 2 0).1) ([(⟨1, 5, 3, 4, 1, 0, 0⟩ : Ent), (⟨2, 5, 0, 0, 0, 0, 0⟩ : Ent)]) 0).1) 0) == 2)), (66, bv ((((allS ((newP 1 2 1 0 2 0).1) ([(⟨1, 5, 3, 4, 1, 0, 0⟩ : Ent), (⟨2, 5, 0, 0, 0, 0, 0⟩ : Ent)]) 0).1) 0) == 2))] (by kernel_rfl) ?_
  refine o_sp (b := (((allS ((newP 1 2 1 0 2 0).1) ([(⟨1, 5, 3, 4, 1, 0, 0⟩ : Ent), (⟨2, 5, 0, 0, 0, 0, 0⟩ : Ent)]) 0).1) 0) == 2) 68 rfl (fun k6 => ?_) (fun q => by rw [(by kernel_rfl : ((((allS ((newP 1 2 1 0 2 0).1) ([(⟨1, 5, 3, 4, 1, 0, 0⟩ : Ent), (⟨2, 5, 0, 0, 0, 0, 0⟩ : Ent)]) 0).1) 0) == 2) = true)] at q; cases q)
  refine o_d 3 [(71, bv ((findR (hitS ((allS ((newP 1 2 1 0 2 0).1) ([(⟨1, 5, 3, 4, 1, 0, 0⟩ : Ent), (⟨2, 5, 0, 0, 0, 0, 0⟩ : Ent)]) 0).1) 3 4) 0 64).2)), (70, bv ((findR (hitS ((allS ((newP 1 2 1 0 2 0).1) ([(⟨1, 5, 3, 4, 1, 0, 0⟩ : Ent), (⟨2, 5, 0, 0, 0, 0, 0⟩ : Ent)]) 0).1) 3 4) 0 64).2)), (69, bv ((findR (hitS ((allS ((newP 1 2 1 0 2 0).1) ([(⟨1, 5, 3, 4, 1, 0, 0⟩ : Ent), (⟨2, 5, 0, 0, 0, 0, 0⟩ : Ent)]) 0).1) 3 4) 0 64).2))] (by kernel_rfl) ?_
  refine o_sp (b := (findR (hitS ((allS ((newP 1 2 1 0 2 0).1) ([(⟨1, 5, 3, 4, 1, 0, 0⟩ : Ent), (⟨2, 5, 0, 0, 0, 0, 0⟩ : Ent)]) 0).1) 3 4) 0 64).2) 71 rfl (fun k7 => ?_) (fun q => by rw [(by kernel_rfl : ((findR (hitS ((allS ((newP 1 2 1 0 2 0).1) ([(⟨1, 5, 3, 4, 1, 0, 0⟩ : Ent), (⟨2, 5, 0, 0, 0, 0, 0⟩ : Ent)]) 0).1) 3 4) 0 64).2) = true)] at q; cases q)
  refine o_d 4 [(75, bv (((findR (hitS ((allS ((newP 1 2 1 0 2 0).1) ([(⟨1, 5, 3, 4, 1, 0, 0⟩ : Ent), (⟨2, 5, 0, 0, 0, 0, 0⟩ : Ent)]) 0).1) 3 4) 0 64).1) == 5)), (74, bv (((findR (hitS ((allS ((newP 1 2 1 0 2 0).1) ([(⟨1, 5, 3, 4, 1, 0, 0⟩ : Ent), (⟨2, 5, 0, 0, 0, 0, 0⟩ : Ent)]) 0).1) 3 4) 0 64).1) == 5)), (73, bv (((findR (hitS ((allS ((newP 1 2 1 0 2 0).1) ([(⟨1, 5, 3, 4, 1, 0, 0⟩ : Ent), (⟨2, 5, 0, 0, 0, 0, 0⟩ : Ent)]) 0).1) 3 4) 0 64).1) == 5)), (72, iv ((findR (hitS ((allS ((newP 1 2 1 0 2 0).1) ([(⟨1, 5, 3, 4, 1, 0, 0⟩ : Ent), (⟨2, 5, 0, 0, 0, 0, 0⟩ : Ent)]) 0).1) 3 4) 0 64).1))] (by kernel_rfl) ?_
  refine o_sp (b := ((findR (hitS ((allS ((newP 1 2 1 0 2 0).1) ([(⟨1, 5, 3, 4, 1, 0, 0⟩ : Ent), (⟨2, 5, 0, 0, 0, 0, 0⟩ : Ent)]) 0).1) 3 4) 0 64).1) == 5) 75 rfl (fun k8 => ?_) (fun q => by rw [(by kernel_rfl : (((findR (hitS ((allS ((newP 1 2 1 0 2 0).1) ([(⟨1, 5, 3, 4, 1, 0, 0⟩ : Ent), (⟨2, 5, 0, 0, 0, 0, 0⟩ : Ent)]) 0).1) 3 4) 0 64).1) == 5) = true)] at q; cases q)
  refine o_d 2 [(77, pv 2 28), (76, pv 2 3)] (by kernel_rfl) ?_
  refine o_unguard rfl ?_
  refine o_s (by refine run_ld (v := .agg #[iv (((allS ((newP 1 2 1 0 2 0).1) ([(⟨1, 5, 3, 4, 1, 0, 0⟩ : Ent), (⟨2, 5, 0, 0, 0, 0, 0⟩ : Ent)]) 0).1) (3 + 5 * 5)), iv (((allS ((newP 1 2 1 0 2 0).1) ([(⟨1, 5, 3, 4, 1, 0, 0⟩ : Ent), (⟨2, 5, 0, 0, 0, 0, 0⟩ : Ent)]) 0).1) (3 + 5 * 5 + 1)), iv (((allS ((newP 1 2 1 0 2 0).1) ([(⟨1, 5, 3, 4, 1, 0, 0⟩ : Ent), (⟨2, 5, 0, 0, 0, 0, 0⟩ : Ent)]) 0).1) (3 + 5 * 5 + 2)), iv (((allS ((newP 1 2 1 0 2 0).1) ([(⟨1, 5, 3, 4, 1, 0, 0⟩ : Ent), (⟨2, 5, 0, 0, 0, 0, 0⟩ : Ent)]) 0).1) (3 + 5 * 5 + 3)), iv (((allS ((newP 1 2 1 0 2 0).1) ([(⟨1, 5, 3, 4, 1, 0, 0⟩ : Ent), (⟨2, 5, 0, 0, 0, 0, 0⟩ : Ent)]) 0).1) (3 + 5 * 5 + 4))]) rfl rfl ?_; exact pl_rS ((allS ((newP 1 2 1 0 2 0).1) ([(⟨1, 5, 3, 4, 1, 0, 0⟩ : Ent), (⟨2, 5, 0, 0, 0, 0, 0⟩ : Ent)]) 0).1) 5 rfl (by omega)) ?_
  refine o_unguard rfl ?_
  refine o_cl (callV (TakesC h_pool_Takes h_pool_may (((allS ((newP 1 2 1 0 2 0).1) ([(⟨1, 5, 3, 4, 1, 0, 0⟩ : Ent), (⟨2, 5, 0, 0, 0, 0, 0⟩ : Ent)]) 0).1) (3 + 5 * 5)) (((allS ((newP 1 2 1 0 2 0).1) ([(⟨1, 5, 3, 4, 1, 0, 0⟩ : Ent), (⟨2, 5, 0, 0, 0, 0, 0⟩ : Ent)]) 0).1) (3 + 5 * 5 + 1)) (((allS ((newP 1 2 1 0 2 0).1) ([(⟨1, 5, 3, 4, 1, 0, 0⟩ : Ent), (⟨2, 5, 0, 0, 0, 0, 0⟩ : Ent)]) 0).1) (3 + 5 * 5 + 2)) (((allS ((newP 1 2 1 0 2 0).1) ([(⟨1, 5, 3, 4, 1, 0, 0⟩ : Ent), (⟨2, 5, 0, 0, 0, 0, 0⟩ : Ent)]) 0).1) (3 + 5 * 5 + 3)) (((allS ((newP 1 2 1 0 2 0).1) ([(⟨1, 5, 3, 4, 1, 0, 0⟩ : Ent), (⟨2, 5, 0, 0, 0, 0, 0⟩ : Ent)]) 0).1) (3 + 5 * 5 + 4))) rfl rfl rfl ?_)
  refine o_d 2 [(81, bv ([1, 2, 3].contains (((allS ((newP 1 2 1 0 2 0).1) ([(⟨1, 5, 3, 4, 1, 0, 0⟩ : Ent), (⟨2, 5, 0, 0, 0, 0, 0⟩ : Ent)]) 0).1) (3 + 5 * 5)))), (80, bv ([1, 2, 3].contains (((allS ((newP 1 2 1 0 2 0).1) ([(⟨1, 5, 3, 4, 1, 0, 0⟩ : Ent), (⟨2, 5, 0, 0, 0, 0, 0⟩ : Ent)]) 0).1) (3 + 5 * 5))))] (by kernel_rfl) ?_
  refine o_sp (b := [1, 2, 3].contains (((allS ((newP 1 2 1 0 2 0).1) ([(⟨1, 5, 3, 4, 1, 0, 0⟩ : Ent), (⟨2, 5, 0, 0, 0, 0, 0⟩ : Ent)]) 0).1) (3 + 5 * 5))) 81 rfl (fun k9 => ?_) (fun q => by rw [(by kernel_rfl : ([1, 2, 3].contains (((allS ((newP 1 2 1 0 2 0).1) ([(⟨1, 5, 3, 4, 1, 0, 0⟩ : Ent), (⟨2, 5, 0, 0, 0, 0, 0⟩ : Ent)]) 0).1) (3 + 5 * 5))) = true)] at q; cases q)
  refine o_d 4 [(85, bv (((applyS ((allS ((newP 1 2 1 0 2 0).1) ([(⟨1, 5, 3, 4, 1, 0, 0⟩ : Ent), (⟨2, 5, 0, 0, 0, 0, 0⟩ : Ent)]) 0).1) (⟨5, 5, 0, 0, 0, 0, 0⟩)).2) == 12)), (84, bv (((applyS ((allS ((newP 1 2 1 0 2 0).1) ([(⟨1, 5, 3, 4, 1, 0, 0⟩ : Ent), (⟨2, 5, 0, 0, 0, 0, 0⟩ : Ent)]) 0).1) (⟨5, 5, 0, 0, 0, 0, 0⟩)).2) == 12)), (83, bv (((applyS ((allS ((newP 1 2 1 0 2 0).1) ([(⟨1, 5, 3, 4, 1, 0, 0⟩ : Ent), (⟨2, 5, 0, 0, 0, 0, 0⟩ : Ent)]) 0).1) (⟨5, 5, 0, 0, 0, 0, 0⟩)).2) == 12)), (82, iv ((applyS ((allS ((newP 1 2 1 0 2 0).1) ([(⟨1, 5, 3, 4, 1, 0, 0⟩ : Ent), (⟨2, 5, 0, 0, 0, 0, 0⟩ : Ent)]) 0).1) (⟨5, 5, 0, 0, 0, 0, 0⟩)).2))] (by kernel_rfl) ?_
  refine o_sp (b := ((applyS ((allS ((newP 1 2 1 0 2 0).1) ([(⟨1, 5, 3, 4, 1, 0, 0⟩ : Ent), (⟨2, 5, 0, 0, 0, 0, 0⟩ : Ent)]) 0).1) (⟨5, 5, 0, 0, 0, 0, 0⟩)).2) == 12) 85 rfl (fun k10 => ?_) (fun q => by rw [(by kernel_rfl : (((applyS ((allS ((newP 1 2 1 0 2 0).1) ([(⟨1, 5, 3, 4, 1, 0, 0⟩ : Ent), (⟨2, 5, 0, 0, 0, 0, 0⟩ : Ent)]) 0).1) (⟨5, 5, 0, 0, 0, 0, 0⟩)).2) == 12) = true)] at q; cases q)
  refine o_d 1 [(86, .agg #[iv 0, iv 0, iv 0, iv 0, iv 0])] (by kernel_rfl) ?_
  refine o_unguard rfl ?_
  refine o_cl (callV (TakesC h_pool_Takes h_pool_may 0 0 0 0 0) rfl rfl rfl ?_)
  refine o_d 3 [(0, bv (!([1, 2, 3].contains 0))), (89, bv (!([1, 2, 3].contains 0))), (88, bv (!([1, 2, 3].contains 0)))] (by kernel_rfl) ?_
  refine o_nil ?_
  refine seq_regs [(0, bv (!([1, 2, 3].contains 0)))] (by kernel_rfl) ?_
  refine gret ?_
  have e0 : (!([1, 2, 3].contains 0)) = true := by
    kernel_rfl
  exact fin_ans [bv (!([1, 2, 3].contains 0))] (resV_t rfl rfl) rfl (by rw [e0]; rfl) rfl rfl
end Go.Rh

set_option linter.unusedSimpArgs false
set_option linter.unusedVariables false
set_option maxRecDepth 100000
set_option maxHeartbeats 4000000
namespace Go.Rh
theorem ss0 (d : Flat) (s k : Nat) (x0 x1 x2 x3 x4 : Int) : setSlot d s x0 x1 x2 x3 x4 (3 + 5 * k) = if k = s then x0 else d (3 + 5 * k) := by
  simp only [setSlot, upd]; repeat' split
  all_goals first | rfl | omega | (exfalso; omega)
theorem ss1 (d : Flat) (s k : Nat) (x0 x1 x2 x3 x4 : Int) : setSlot d s x0 x1 x2 x3 x4 (3 + 5 * k + 1) = if k = s then x1 else d (3 + 5 * k + 1) := by
  simp only [setSlot, upd]; repeat' split
  all_goals first | rfl | omega | (exfalso; omega)
theorem ss2 (d : Flat) (s k : Nat) (x0 x1 x2 x3 x4 : Int) : setSlot d s x0 x1 x2 x3 x4 (3 + 5 * k + 2) = if k = s then x2 else d (3 + 5 * k + 2) := by
  simp only [setSlot, upd]; repeat' split
  all_goals first | rfl | omega | (exfalso; omega)
theorem ss3 (d : Flat) (s k : Nat) (x0 x1 x2 x3 x4 : Int) : setSlot d s x0 x1 x2 x3 x4 (3 + 5 * k + 3) = if k = s then x3 else d (3 + 5 * k + 3) := by
  simp only [setSlot, upd]; repeat' split
  all_goals first | rfl | omega | (exfalso; omega)
theorem ss4 (d : Flat) (s k : Nat) (x0 x1 x2 x3 x4 : Int) : setSlot d s x0 x1 x2 x3 x4 (3 + 5 * k + 4) = if k = s then x4 else d (3 + 5 * k + 4) := by
  simp only [setSlot, upd]; repeat' split
  all_goals first | rfl | omega | (exfalso; omega)
theorem ssN (d : Flat) {s i : Nat} (x0 x1 x2 x3 x4 : Int) (hs : s < 64) (h : i < 3 ∨ 323 ≤ i) : setSlot d s x0 x1 x2 x3 x4 i = d i := by
  simp only [setSlot, upd]; rw [if_neg (by omega), if_neg (by omega), if_neg (by omega), if_neg (by omega), if_neg (by omega)]
theorem done_set (c : Flat) (e : Ent) (hk : 1 ≤ e.k ∧ e.k ≤ 5) : ∃ x0 x1 x2 x3 x4, doneS c e = setSlot (upd c 0 (IntKind.i64.wrap (c 0 + 1))) e.s.toNat x0 x1 x2 x3 x4 ∧
    (e.k = 1 → x0 = 1 ∧ x1 = e.a ∧ x2 = e.p ∧ x3 = e.g ∧ x4 = 0) ∧ (e.k = 5 → x0 = 0 ∧ x1 = 0 ∧ x2 = 0 ∧ x3 = 0 ∧ x4 = 0) ∧
    (e.k ≠ 1 → e.k ≠ 5 → x0 = e.k ∧ x1 = c (3 + 5 * e.s.toNat + 1) ∧ x2 = c (3 + 5 * e.s.toNat + 2) ∧ x3 = c (3 + 5 * e.s.toNat + 3) ∧ (e.k = 4 → x4 = c 323) ∧ (e.k ≠ 4 → x4 = c (3 + 5 * e.s.toNat + 4))) := by
  have hu : ∀ j, upd c 0 (IntKind.i64.wrap (c 0 + 1)) (3 + 5 * e.s.toNat + j) = c (3 + 5 * e.s.toNat + j) := fun j => upd_ne _ _ (by omega)
  by_cases h1 : e.k = 1
  · exact ⟨1, e.a, e.p, e.g, 0, by simp only [doneS, h1, if_true], by simp [h1], by simp [h1], by simp [h1]⟩
  by_cases h5 : e.k = 5
  · exact ⟨0, 0, 0, 0, 0, by simp [doneS, h5], by simp [h5], by simp [h5], by simp [h5]⟩
  by_cases h4 : e.k = 4
  · refine ⟨4, _, _, _, c 323, ?_, by simp [h4], by simp [h4], fun _ _ => ⟨h4.symm, hu 1, hu 2, hu 3, fun _ => rfl, fun h => absurd h4 h⟩⟩
    simp only [doneS, h4]; exact (setSlot_04 _ _ _ _).symm
  by_cases h2 : e.k = 2
  · refine ⟨2, _, _, _, _, ?_, by simp [h2], by simp [h2], fun _ _ => ⟨h2.symm, hu 1, hu 2, hu 3, fun h => by omega, fun _ => hu 4⟩⟩
    simp only [doneS, h2]; exact (setSlot_0 _ _ _).symm
  · have h3 : e.k = 3 := by omega
    refine ⟨3, _, _, _, _, ?_, by simp [h3], by simp [h3], fun _ _ => ⟨h3.symm, hu 1, hu 2, hu 3, fun h => by omega, fun _ => hu 4⟩⟩
    simp only [doneS, h3]; exact (setSlot_0 _ _ _).symm
theorem done6 {c : Flat} {e : Ent} (h : e.k = 6) {i : Nat} (hi : 1 ≤ i ∧ i < 323) : doneS c e i = c i := by
  simp only [doneS, h]
  show nextS (upd c 0 _) e.ka e.kb i = c i
  unfold nextS
  rw [ring_low _ _ _ _ _ _ _ _ (by omega)]
  exact upd_ne _ _ (by omega)
theorem done6e {c : Flat} {e : Ent} (h : e.k = 6) : doneS c e 323 = IntKind.i64.wrap (c 323 + 1) := by
  simp only [doneS, h]; rfl
theorem done0 (c : Flat) (e : Ent) (hs : 0 ≤ e.s ∧ e.s < 64) : doneS c e 0 = IntKind.i64.wrap (c 0 + 1) := by
  simp only [doneS]
  repeat' split
  · rw [ssN _ _ _ _ _ _ (by omega) (by omega)]; rfl
  · rw [upd_ne _ _ (by omega)]; rfl
  · rw [upd_ne _ _ (by omega)]; rfl
  · rw [upd_ne _ _ (by omega), upd_ne _ _ (by omega)]; rfl
  · rw [ssN _ _ _ _ _ _ (by omega) (by omega)]; rfl
  · unfold nextS; rw [ring_low _ _ _ _ _ _ _ _ (by omega)]; rfl

theorem checkS_ok {e : Ent} (h : checkS e = 0) : (1 ≤ e.k ∧ e.k ≤ 6) ∧ (0 ≤ e.s ∧ e.s < 64) ∧ (e.k = 6 → e.s = 0) ∧ (e.k = 1 → placedS e.a e.p = true ∧ 1 ≤ e.g ∧ e.g ≤ 8) ∧ (e.k ≠ 1 → e.a = 0 ∧ e.p = 0 ∧ e.g = 0) ∧ (e.k ≠ 6 → e.ka = 0 ∧ e.kb = 0) := by
  unfold checkS at h
  split at h
  · cases h
  rename_i h1
  split at h
  · cases h
  rename_i h2
  split at h
  · cases h
  rename_i h3
  split at h
  · cases h
  rename_i h4
  refine ⟨by omega, by omega, fun q => by omega, fun q => ?_, fun q => by omega, fun q => by omega⟩
  have : ¬ (placedS e.a e.p = false ∨ e.g < 1 ∨ 8 < e.g) := fun x => h3 ⟨q, x⟩
  exact ⟨by cases hp : placedS e.a e.p <;> simp [hp] at this ⊢, by omega, by omega⟩
theorem apply_ok {c : Flat} {e : Ent} (h : (applyS c e).2 = 0) : (applyS c e).1 = doneS c e ∧ checkS e = 0 ∧ badS c e = false ∧ (e.k = 5 → ¬ c 323 < IntKind.i64.wrap (c (3 + 5 * e.s.toNat + 4) + 3)) := by
  unfold applyS at h ⊢
  split at h
  · rename_i he
    rw [if_pos he]
    refine ⟨rfl, ?_⟩
    unfold errS at he
    split at he
    · rename_i hc; exact absurd he hc
    · rename_i hc
      have hc : checkS e = 0 := Decidable.of_not_not hc
      unfold fitsS at he
      split at he
      · cases he
      · rename_i hb
        split at he
        · cases he
        · rename_i hs
          exact ⟨hc, by simpa using hb, fun h5 hx => hs ⟨h5, hx⟩⟩
  · rename_i he; exact absurd h he
theorem apply_err {c : Flat} {e : Ent} (h : (applyS c e).2 ≠ 0) : (applyS c e).1 = zeroP := by
  unfold applyS at h ⊢
  split
  · rename_i he; rw [if_pos he] at h; exact absurd rfl h
  · rfl
theorem apply_snd (c : Flat) (e : Ent) : (applyS c e).2 = errS c e := by
  unfold applyS; split
  · rename_i h; exact h.symm
  · rfl
theorem bad_false {c : Flat} {e : Ent} (h : badS c e = false) : (e.k = 1 → c (3 + 5 * e.s.toNat) = 0 ∧ heldS c e.a e.p = false) ∧ (e.k = 2 ∨ e.k = 4 → c (3 + 5 * e.s.toNat) = 1 ∨ c (3 + 5 * e.s.toNat) = 3) ∧ (e.k = 3 → c (3 + 5 * e.s.toNat) = 2) ∧ (e.k = 5 → c (3 + 5 * e.s.toNat) = 4) := by
  unfold badS at h
  simp only at h
  refine ⟨fun q => ?_, fun q => ?_, fun q => ?_, fun q => ?_⟩
  · rw [if_pos q] at h
    simp only [Bool.or_eq_false_iff, decide_eq_false_iff_not, Decidable.not_not] at h; exact h
  · rw [if_neg (by omega), if_pos q] at h
    simp only [Bool.and_eq_false_iff, decide_eq_false_iff_not, Decidable.not_not] at h; exact h
  · rw [if_neg (by omega), if_neg (by omega), if_pos q] at h
    simp only [decide_eq_false_iff_not, Decidable.not_not] at h; exact h
  · rw [if_neg (by omega), if_neg (by omega), if_neg (by omega), if_pos q] at h
    simp only [decide_eq_false_iff_not, Decidable.not_not] at h; exact h
theorem heldTo_false {c : Flat} {a p : Int} : ∀ {n : Nat}, heldTo c a p n = false → ∀ k, k < n → c (3 + 5 * k) ≠ 0 → ¬ (c (3 + 5 * k + 1) = a ∧ c (3 + 5 * k + 2) = p)
  | n + 1, h, k, hk, h0 => by
    simp only [heldTo, Bool.or_eq_false_iff] at h
    by_cases e : k = n
    · subst e
      have := h.2
      simp [slotHas, h0] at this
      exact fun q => this q.1 q.2
    · exact heldTo_false h.1 k (by omega) h0
theorem held_false {c : Flat} {a p : Int} (h : heldS c a p = false) : ¬ (c 1 = a ∧ c 2 = p) ∧ ∀ k, k < 64 → c (3 + 5 * k) ≠ 0 → ¬ (c (3 + 5 * k + 1) = a ∧ c (3 + 5 * k + 2) = p) := by
  simp only [heldS, Bool.or_eq_false_iff] at h
  refine ⟨?_, heldTo_false h.2⟩
  have := h.1
  simp at this
  exact fun q => this q.1 q.2

/-- What every pool keeps; b: how many entries were done, at most. -/
structure PInv (c : Flat) (b : Nat) : Prop where
  ver : 0 ≤ c 0 ∧ c 0 ≤ b
  ep : 1 ≤ c 323 ∧ c 323 ≤ b + 1
  st : ∀ k, k < 64 → 0 ≤ c (3 + 5 * k) ∧ c (3 + 5 * k) ≤ 4
  since : ∀ k, k < 64 → 0 ≤ c (3 + 5 * k + 4) ∧ c (3 + 5 * k + 4) ≤ c 323
  uniq : ∀ j k, j < 64 → k < 64 → j ≠ k → c (3 + 5 * j) ≠ 0 → c (3 + 5 * k) ≠ 0 → ¬ (c (3 + 5 * j + 1) = c (3 + 5 * k + 1) ∧ c (3 + 5 * j + 2) = c (3 + 5 * k + 2))
  own : ∀ k, k < 64 → c (3 + 5 * k) ≠ 0 → ¬ (c (3 + 5 * k + 1) = c 1 ∧ c (3 + 5 * k + 2) = c 2)
  place : placedS (c 1) (c 2) = true
  slot : ∀ k, k < 64 → c (3 + 5 * k) ≠ 0 → placedS (c (3 + 5 * k + 1)) (c (3 + 5 * k + 2)) = true ∧ 1 ≤ c (3 + 5 * k + 3) ∧ c (3 + 5 * k + 3) ≤ 8
theorem w1 {x : Int} (h : 0 ≤ x ∧ x ≤ 4611686018427387904) : IntKind.i64.wrap (x + 1) = x + 1 := w64 (by omega) (by omega)
theorem PInv.apply {c : Flat} {b : Nat} (I : PInv c b) (hb : b ≤ 1000000) {e : Ent} (h : (applyS c e).2 = 0) : PInv (applyS c e).1 (b + 1) := by
  obtain ⟨h1, hc, hbad, hsoon⟩ := apply_ok h
  rw [h1]
  obtain ⟨hk, hs, hk6, hbind, hno, hnk⟩ := checkS_ok hc
  obtain ⟨b1, b2, b3, b4⟩ := bad_false hbad
  have i1 := I.ver; have i2 := I.ep
  have hv : IntKind.i64.wrap (c 0 + 1) = c 0 + 1 := w1 (by omega)
  by_cases h6 : e.k = 6
  · have hw : IntKind.i64.wrap (c 323 + 1) = c 323 + 1 := w1 (by omega)
    have hd : ∀ {i : Nat}, 1 ≤ i ∧ i < 323 → doneS c e i = c i := fun hi => done6 h6 hi
    have e0 := done0 c e hs
    have e323 : doneS c e 323 = c 323 + 1 := by rw [done6e h6, hw]
    refine ⟨by rw [e0, hv]; omega, by rw [e323]; omega, fun k hk => ?_, fun k hk => ?_, fun j k hj hk hjk => ?_, fun k hk => ?_, ?_, fun k hk => ?_⟩
    · rw [hd (by omega)]; exact I.st k hk
    · rw [hd (by omega), e323]; have := I.since k hk; omega
    · rw [hd (by omega), hd (by omega), hd (by omega), hd (by omega), hd (by omega), hd (by omega)]; exact I.uniq j k hj hk hjk
    · rw [hd (by omega), hd (by omega), hd (by omega), hd (by omega), hd (by omega)]; exact I.own k hk
    · rw [hd (by omega), hd (by omega)]; exact I.place
    · rw [hd (by omega), hd (by omega), hd (by omega), hd (by omega)]; exact I.slot k hk
  · obtain ⟨x0, x1, x2, x3, x4, hd, g1, g5, g3⟩ := done_set c e (by omega)
    rw [hd]
    have hs64 : e.s.toNat < 64 := by omega
    have u : ∀ {i : Nat}, 0 < i → upd c 0 (IntKind.i64.wrap (c 0 + 1)) i = c i := fun hi => upd_ne _ _ (by omega)
    have hst := I.st _ hs64
    have hsi := I.since _ hs64
    refine ⟨?_, ?_, fun k hk => ?_, fun k hk => ?_, fun j k hj hk hjk => ?_, fun k hk => ?_, ?_, fun k hk => ?_⟩
    · rw [ssN _ _ _ _ _ _ hs64 (by omega), upd_eq, hv]; omega
    · rw [ssN _ _ _ _ _ _ hs64 (by omega), u (by omega)]; omega
    · rw [ss0, u (by omega)]
      split
      · by_cases q1 : e.k = 1
        · have := g1 q1; omega
        by_cases q5 : e.k = 5
        · have := g5 q5; omega
        · have := g3 q1 q5; omega
      · exact I.st k hk
    · rw [ss4, ssN _ _ _ _ _ _ hs64 (by omega), u (by omega), u (by omega)]
      split
      · by_cases q1 : e.k = 1
        · have := g1 q1; omega
        by_cases q5 : e.k = 5
        · have := g5 q5; omega
        · obtain ⟨_, _, _, _, q4, q4'⟩ := g3 q1 q5
          by_cases q : e.k = 4
          · rw [q4 q]; omega
          · rw [q4' q]; exact hsi
      · exact I.since k hk
    · rw [ss0, ss0, ss1, ss1, ss2, ss2, u (by omega), u (by omega), u (by omega), u (by omega), u (by omega), u (by omega)]
      intro n1 n2
      by_cases q5 : e.k = 5
      · obtain ⟨z0, _⟩ := g5 q5
        by_cases ej : j = e.s.toNat
        · rw [if_pos ej, z0] at n1; exact absurd rfl n1
        by_cases ek : k = e.s.toNat
        · rw [if_pos ek, z0] at n2; exact absurd rfl n2
        simp only [ej, ek, if_false] at n1 n2 ⊢
        exact I.uniq j k hj hk hjk n1 n2
      by_cases q1 : e.k = 1
      · obtain ⟨z0, z1, z2, _⟩ := g1 q1
        obtain ⟨_, hh⟩ := b1 q1
        have hf := (held_false hh).2
        by_cases ej : j = e.s.toNat
        · have ek : k ≠ e.s.toNat := fun q => hjk (ej.trans q.symm)
          simp only [ej, ek, if_true, if_false] at n1 n2 ⊢
          have := hf k hk n2
          rw [z1, z2]; exact fun q => this ⟨q.1.symm, q.2.symm⟩
        by_cases ek : k = e.s.toNat
        · simp only [ej, ek, if_true, if_false] at n1 n2 ⊢
          rw [z1, z2]; exact hf j hj n1
        simp only [ej, ek, if_false] at n1 n2 ⊢
        exact I.uniq j k hj hk hjk n1 n2
      · obtain ⟨z0, z1, z2, z3, _⟩ := g3 q1 q5
        have hne : c (3 + 5 * e.s.toNat) ≠ 0 := by
          have : e.k = 2 ∨ e.k = 3 ∨ e.k = 4 := by omega
          rcases this with q | q | q
          · have := b2 (.inl q); omega
          · have := b3 q; omega
          · have := b2 (.inr q); omega
        have f : ∀ i, (if i = e.s.toNat then x0 else c (3 + 5 * i)) ≠ 0 → c (3 + 5 * i) ≠ 0 := fun i q => by
          by_cases ei : i = e.s.toNat
          · rw [ei]; exact hne
          · rw [if_neg ei] at q; exact q
        have f1 : ∀ i, (if i = e.s.toNat then x1 else c (3 + 5 * i + 1)) = c (3 + 5 * i + 1) := fun i => by
          by_cases ei : i = e.s.toNat
          · rw [if_pos ei, z1, ei]
          · rw [if_neg ei]
        have f2 : ∀ i, (if i = e.s.toNat then x2 else c (3 + 5 * i + 2)) = c (3 + 5 * i + 2) := fun i => by
          by_cases ei : i = e.s.toNat
          · rw [if_pos ei, z2, ei]
          · rw [if_neg ei]
        rw [f1, f1, f2, f2]
        exact I.uniq j k hj hk hjk (f j n1) (f k n2)
    · rw [ss0, ss1, ss2, ssN _ _ _ _ _ _ hs64 (by omega), ssN _ _ _ _ _ _ hs64 (by omega), u (by omega), u (by omega), u (by omega), u (by omega), u (by omega)]
      intro n1
      by_cases ek : k = e.s.toNat
      · simp only [ek, if_true] at n1 ⊢
        by_cases q1 : e.k = 1
        · obtain ⟨z0, z1, z2, _⟩ := g1 q1
          have := (held_false (b1 q1).2).1
          rw [z1, z2]; exact fun q => this ⟨q.1.symm, q.2.symm⟩
        by_cases q5 : e.k = 5
        · rw [(g5 q5).1] at n1; exact absurd rfl n1
        · obtain ⟨z0, z1, z2, z3, _⟩ := g3 q1 q5
          rw [z1, z2]
          refine I.own _ hs64 ?_
          have : e.k = 2 ∨ e.k = 3 ∨ e.k = 4 := by omega
          rcases this with q | q | q
          · have := b2 (.inl q); omega
          · have := b3 q; omega
          · have := b2 (.inr q); omega
      · simp only [ek, if_false] at n1 ⊢
        exact I.own k hk n1
    · rw [ssN _ _ _ _ _ _ hs64 (by omega), ssN _ _ _ _ _ _ hs64 (by omega), u (by omega), u (by omega)]; exact I.place
    · rw [ss0, ss1, ss2, ss3, u (by omega), u (by omega), u (by omega), u (by omega)]
      intro n1
      by_cases ek : k = e.s.toNat
      · simp only [ek, if_true] at n1 ⊢
        by_cases q1 : e.k = 1
        · obtain ⟨z0, z1, z2, z3, _⟩ := g1 q1
          rw [z1, z2, z3]; exact hbind q1
        by_cases q5 : e.k = 5
        · rw [(g5 q5).1] at n1; exact absurd rfl n1
        · obtain ⟨z0, z1, z2, z3, _⟩ := g3 q1 q5
          rw [z1, z2, z3]
          refine I.slot _ hs64 ?_
          have : e.k = 2 ∨ e.k = 3 ∨ e.k = 4 := by omega
          rcases this with q | q | q
          · have := b2 (.inl q); omega
          · have := b3 q; omega
          · have := b2 (.inr q); omega
      · simp only [ek, if_false] at n1 ⊢
        exact I.slot k hk n1
theorem newS_at (a p ka kb na nb : Int) {i : Nat} (h : 3 ≤ i ∧ i < 323) : newS a p ka kb na nb i = 0 := by
  simp only [newS]
  rw [if_neg (by omega), if_neg (by omega), if_neg (by omega), if_neg (by omega), if_neg (by omega), if_neg (by omega), if_neg (by omega)]
theorem PInv.new {a p ka kb na nb : Int} (h : placedS a p = true) : PInv (newS a p ka kb na nb) 0 := by
  refine ⟨(by decide : (0 : Int) ≤ 0 ∧ (0 : Int) ≤ 0), (by decide : (1 : Int) ≤ 1 ∧ (1 : Int) ≤ 0 + 1), fun k hk => ?_, fun k hk => ?_, fun j k hj hk hjk h1 => ?_, fun k hk h1 => ?_, h, fun k hk h1 => ?_⟩
  · rw [newS_at _ _ _ _ _ _ (by omega)]; decide
  · rw [newS_at _ _ _ _ _ _ (by omega)]; exact ⟨by decide, (by decide : (0 : Int) ≤ 1)⟩
  · rw [newS_at _ _ _ _ _ _ (by omega)] at h1; exact absurd rfl h1
  · rw [newS_at _ _ _ _ _ _ (by omega)] at h1; exact absurd rfl h1
  · rw [newS_at _ _ _ _ _ _ (by omega)] at h1; exact absurd rfl h1
theorem PInv.mono {c : Flat} {b b' : Nat} (I : PInv c b) (h : b ≤ b') : PInv c b' :=
  ⟨by have := I.ver; omega, by have := I.ep; omega, I.st, I.since, I.uniq, I.own, I.place, I.slot⟩
end Go.Rh

set_option linter.unusedSimpArgs false
set_option linter.unusedVariables false
set_option maxRecDepth 100000
namespace Go.Rh
theorem stepM_inv {c : Flat} {b : Nat} (I : PInv c b) (hb : b ≤ 1000000) (n : Int) : PInv (stepM c n) (b + 1) := by
  unfold stepM
  split
  · rename_i h; exact I.apply hb h
  · exact I.mono (by omega)
theorem fold_inv : ∀ (l : List Int) {c : Flat} {b : Nat}, PInv c b → b + l.length ≤ 1000000 → PInv (l.foldl stepM c) (b + l.length)
  | [], _, _, I, _ => I
  | n :: l, c, b, I, hb => by
    simp only [List.length_cons] at hb
    have := fold_inv l (stepM_inv I (by omega) n) (by omega)
    simp only [List.foldl_cons, List.length_cons]
    exact this.mono (by omega)
theorem makeS_inv (ns : List Int) {k : Nat} (hk : k ≤ 1000) : PInv (makeS ns k) k := by
  have h0 : PInv (newP 10 80 (keyA 1) (keyB 1) (keyA 2) (keyB 2)).1 0 := by
    have hp : placedS 10 80 = true := by decide
    simp only [newP, hp, if_true]
    exact PInv.new hp
  have hl : (ns.take k).length ≤ k := by simp; omega
  exact (fold_inv (ns.take k) h0 (by omega)).mono (by omega)
theorem wrap_add {a b : Int} : IntKind.i64.wrap (IntKind.i64.wrap a + b) = IntKind.i64.wrap (a + b) := by
  rw [IntKind.wrap_i64, IntKind.wrap_i64, IntKind.wrap_i64]; omega
theorem allS_le : ∀ (es : List Ent) (c : Flat) (i : Nat), i ≤ (allS c es i).2.1 ∧ (allS c es i).2.1 ≤ i + es.length
  | [], _, _ => by simp [allS]
  | e :: r, c, i => by
    simp only [allS, List.length_cons]
    split
    · have := allS_le r (applyS c e).1 (i + 1); omega
    · exact ⟨Nat.le_refl i, Nat.le_add_right i _⟩
theorem allS_ver : ∀ (es : List Ent) (c : Flat) (i : Nat), IntKind.i64.wrap (c 0) = c 0 → (allS c es i).1 0 = IntKind.i64.wrap (c 0 + (((allS c es i).2.1 : Int) - i))
  | [], c, i, h => by simp only [allS]; rw [show c 0 + ((i : Int) - i) = c 0 by omega, h]
  | e :: r, c, i, h => by
    simp only [allS]
    split
    · rename_i h0
      have hd := apply_ok h0
      have hs := (checkS_ok hd.2.1).2.1
      have e1 : (applyS c e).1 0 = IntKind.i64.wrap (c 0 + 1) := by rw [hd.1, done0 c e hs]
      rw [allS_ver r (applyS c e).1 (i + 1) (by rw [e1]; have := @wrap_add (c 0 + 1) 0; simpa using this), e1, wrap_add]
      congr 1; push_cast; omega
    · show c 0 = _
      rw [show c 0 + ((i : Int) - i) = c 0 by omega, h]
theorem allS_app : ∀ (es fs : List Ent) (c : Flat) (i : Nat), (allS c es i).2.2 = 0 → allS c (es ++ fs) i = allS (allS c es i).1 fs (allS c es i).2.1
  | [], fs, c, i, _ => rfl
  | e :: r, fs, c, i, h => by
    simp only [allS, List.cons_append] at h ⊢
    split at h
    · rename_i h0; rw [if_pos h0, if_pos h0]; exact allS_app r fs _ _ h
    · rename_i h0; exact absurd h h0
theorem allS_stop : ∀ (es fs : List Ent) (c : Flat) (i : Nat), (allS c es i).2.2 ≠ 0 → allS c (es ++ fs) i = allS c es i
  | [], fs, c, i, h => absurd rfl h
  | e :: r, fs, c, i, h => by
    simp only [allS, List.cons_append] at h ⊢
    split at h
    · rename_i h0; rw [if_pos h0, if_pos h0]; exact allS_stop r fs _ _ h
    · rename_i h0; rw [if_neg h0, if_neg h0]
theorem allS_at : ∀ (es : List Ent) (c : Flat) (i j : Nat), (allS c es (i + j)).1 = (allS c es i).1 ∧ (allS c es (i + j)).2.1 = (allS c es i).2.1 + j ∧ (allS c es (i + j)).2.2 = (allS c es i).2.2
  | [], c, i, j => ⟨rfl, rfl, rfl⟩
  | e :: r, c, i, j => by
    simp only [allS]
    split
    · have := allS_at r (applyS c e).1 (i + 1) j
      rw [show i + 1 + j = i + j + 1 by omega] at this
      exact this
    · exact ⟨rfl, rfl, rfl⟩
theorem within_lt (x : Int) {n : Int} (hn : 0 < n ∧ n ≤ 4611686018427387904) : 0 ≤ withinS x n ∧ withinS x n < n := by
  have h2 : x.tmod n < n := Int.tmod_lt_of_pos x hn.1
  have h3 : -n < x.tmod n := by
    have := Int.lt_tmod_of_pos x hn.1
    exact this
  unfold withinS
  split
  · rename_i h; rw [w64 (by omega) (by omega)]; omega
  · omega
end Go.Rh
namespace Go.Rh
theorem all_ver {c : Flat} {b : Nat} (I : PInv c b) (hb : b ≤ 1000000) (es : List Ent) : ((allS c es 0).1 0 == IntKind.i64.wrap (c 0 + ((allS c es 0).2.1 : Int))) = true := by
  have h := I.ver
  have := allS_ver es c 0 (w64 (by omega) (by omega))
  simp at this
  rw [this]; simp
end Go.Rh

set_option linter.unusedSimpArgs false
set_option linter.unusedVariables false
set_option maxRecDepth 100000
set_option maxHeartbeats 4000000
namespace Go.Rh
theorem apply_rot (c : Flat) (ka kb : Int) : applyS c ⟨6, 0, 0, 0, 0, ka, kb⟩ = (nextS (upd c 0 (IntKind.i64.wrap (c 0 + 1))) ka kb, 0) := by
  simp [applyS, errS, checkS, fitsS, badS, doneS]
theorem apply_place {c : Flat} {e : Ent} (h : (applyS c e).2 = 0) : (applyS c e).1 1 = c 1 ∧ (applyS c e).1 2 = c 2 := by
  obtain ⟨h1, hc, _, _⟩ := apply_ok h
  rw [h1]
  obtain ⟨hk, hs, _⟩ := checkS_ok hc
  by_cases h6 : e.k = 6
  · exact ⟨done6 h6 (by omega), done6 h6 (by omega)⟩
  · obtain ⟨x0, x1, x2, x3, x4, hd, _⟩ := done_set c e (by omega)
    rw [hd, ssN _ _ _ _ _ _ (by omega) (by omega), ssN _ _ _ _ _ _ (by omega) (by omega)]
    exact ⟨upd_ne _ _ (by omega), upd_ne _ _ (by omega)⟩
theorem fold_place : ∀ (l : List Int) (c : Flat), (l.foldl stepM c) 1 = c 1 ∧ (l.foldl stepM c) 2 = c 2
  | [], c => ⟨rfl, rfl⟩
  | n :: l, c => by
    have := fold_place l (stepM c n)
    simp only [List.foldl_cons]
    rw [this.1, this.2]
    unfold stepM
    split
    · rename_i h; exact apply_place h
    · exact ⟨rfl, rfl⟩
theorem makeS_place (ns : List Int) (k : Nat) : makeS ns k 1 = 10 ∧ makeS ns k 2 = 80 := by
  have := fold_place (ns.take k) (newP 10 80 (keyA 1) (keyB 1) (keyA 2) (keyB 2)).1
  unfold makeS
  rw [this.1, this.2]
  have hp : placedS 10 80 = true := by decide
  simp only [newP, hp, if_true]
  exact ⟨rfl, rfl⟩
/-- A slot that an entry does not name stays. -/
theorem apply_other {c : Flat} {e : Ent} (h : (applyS c e).2 = 0) {k : Nat} (hk : k < 64) (hne : (k : Int) ≠ e.s ∨ e.k = 6) :
    (applyS c e).1 (3 + 5 * k) = c (3 + 5 * k) ∧ (applyS c e).1 (3 + 5 * k + 1) = c (3 + 5 * k + 1) ∧ (applyS c e).1 (3 + 5 * k + 2) = c (3 + 5 * k + 2) ∧ (applyS c e).1 (3 + 5 * k + 3) = c (3 + 5 * k + 3) ∧ (applyS c e).1 (3 + 5 * k + 4) = c (3 + 5 * k + 4) := by
  obtain ⟨h1, hc, _, _⟩ := apply_ok h
  rw [h1]
  obtain ⟨hkk, hs, _⟩ := checkS_ok hc
  by_cases h6 : e.k = 6
  · exact ⟨done6 h6 (by omega), done6 h6 (by omega), done6 h6 (by omega), done6 h6 (by omega), done6 h6 (by omega)⟩
  · obtain ⟨x0, x1, x2, x3, x4, hd, _⟩ := done_set c e (by omega)
    have hn : k ≠ e.s.toNat := by omega
    rw [hd, ss0, ss1, ss2, ss3, ss4]
    simp only [hn, if_false]
    exact ⟨upd_ne _ _ (by omega), upd_ne _ _ (by omega), upd_ne _ _ (by omega), upd_ne _ _ (by omega), upd_ne _ _ (by omega)⟩
theorem apply_ring {c : Flat} {e : Ent} (h : (applyS c e).2 = 0) (h6 : e.k ≠ 6) {i : Nat} (hi : 323 ≤ i) : (applyS c e).1 i = c i := by
  obtain ⟨h1, hc, _, _⟩ := apply_ok h
  rw [h1]
  obtain ⟨hkk, hs, _⟩ := checkS_ok hc
  obtain ⟨x0, x1, x2, x3, x4, hd, _⟩ := done_set c e (by omega)
  rw [hd, ssN _ _ _ _ _ _ (by omega) (by omega)]
  exact upd_ne _ _ (by omega)
theorem apply_ver {c : Flat} {e : Ent} (h : (applyS c e).2 = 0) : (applyS c e).1 0 = IntKind.i64.wrap (c 0 + 1) := by
  obtain ⟨h1, hc, _, _⟩ := apply_ok h
  rw [h1]; exact done0 c e (checkS_ok hc).2.1
theorem apply_epoch {c : Flat} {e : Ent} (h : (applyS c e).2 = 0) (h6 : e.k = 6) : (applyS c e).1 323 = IntKind.i64.wrap (c 323 + 1) := by
  obtain ⟨h1, _⟩ := apply_ok h
  rw [h1]; exact done6e h6
theorem findR_congr {f g : Nat → Bool} : ∀ (n i : Nat), (∀ k, k < i + n → f k = g k) → findR f i n = findR g i n
  | 0, _, _ => rfl
  | n + 1, i, h => by
    simp only [findR, h i (by omega)]
    rw [findR_congr n (i + 1) (fun k hk => h k (by omega))]
theorem find_eq {c : Flat} {b : Nat} (I : PInv c b) (a p : Int) : findR (hitS c a p) 0 64 = findR (hitR c a p) 0 64 := by
  refine findR_congr 64 0 fun k hk => ?_
  have := I.st k (by omega)
  have e : (!([0, 4].contains (c (3 + 5 * k)))) = takesS (c (3 + 5 * k)) := by
    have h5 : c (3 + 5 * k) = 0 ∨ c (3 + 5 * k) = 1 ∨ c (3 + 5 * k) = 2 ∨ c (3 + 5 * k) = 3 ∨ c (3 + 5 * k) = 4 := by omega
    rcases h5 with h | h | h | h | h <;> rw [h] <;> rfl
  simp only [hitS, hitR, e, Bool.and_true]
theorem findR_first {f : Nat → Bool} : ∀ (n i k : Nat), i ≤ k → k < i + n → f k = true → (∀ j, i ≤ j → j < i + n → f j = true → j = k) → findR f i n = ((k : Int), true)
  | 0, i, k, h1, h2, _, _ => by omega
  | n + 1, i, k, h1, h2, h3, h4 => by
    simp only [findR]
    by_cases e : i = k
    · subst e; simp [h3]
    · have : f i = false := by
        cases hf : f i with
        | false => rfl
        | true => exact absurd (h4 i (Nat.le_refl _) (by omega) hf) e
      rw [this]
      exact findR_first n (i + 1) k (by omega) (by omega) h3 fun j hj hj2 hf => h4 j (by omega) (by omega) hf
theorem takes_eq (x : Int) : [1, 2, 3].contains x = takesS x := by
  rw [Bool.eq_iff_iff]; simp [takesS]
/-- Of a place that a slot has that takes, that slot is found. -/
theorem find_it {c : Flat} {b : Nat} (I : PInv c b) {a p : Int} {k : Nat} (hk : k < 64) (ht : takesS (c (3 + 5 * k)) = true) (h1 : c (3 + 5 * k + 1) = a) (h2 : c (3 + 5 * k + 2) = p) : findR (hitS c a p) 0 64 = ((k : Int), true) := by
  rw [find_eq I]
  have nz : ∀ x, takesS x = true → x ≠ 0 := fun x h e => by subst e; cases h
  refine findR_first 64 0 k (by omega) (by omega) (by simp [hitR, ht, h1, h2]) fun j _ hj hf => ?_
  simp [hitR] at hf
  by_cases e : j = k
  · exact e
  · exact absurd ⟨hf.2.1.trans h1.symm, hf.2.2.trans h2.symm⟩ (I.uniq j k (by omega) hk e (nz _ hf.1) (nz _ ht))
end Go.Rh

set_option linter.unusedSimpArgs false
set_option linter.unusedVariables false
set_option maxRecDepth 100000
namespace Go.Rh
theorem bnds_hi {n c : Nat} {ik : IntKind} {v : Int} (h : 0 ≤ v ∧ v ≤ c) : bnds n c none (some (.int ik v)) none = some (0, v.toNat, c) := by
  have hb : bnd c (.int ik v) = some v.toNat := by simp [bnd, h]
  show (match bnd c (.int ik v) with | none => none | some h => some (0, h, c)) = _
  rw [hb]
theorem bnds_lo {n c : Nat} {ik : IntKind} {v : Int} (h : 0 ≤ v ∧ v ≤ n) : bnds n c (some (.int ik v)) none none = some (v.toNat, n, c) := by
  have hb : bnd n (.int ik v) = some v.toNat := by simp [bnd, h]
  show (match bnd n (.int ik v) with | none => none | some l => some (l, n, c)) = _
  rw [hb]
theorem run_slcLo {d : Option Nat} {size : Nat} {x hi : Opd} {L : List (Nat × Value)} {hp : List Blk} {b n c : Nat} {ik : IntKind} {v : Int} (hx : evf (reg L) x = .slice (some ⟨b, 0, none⟩) n c) (hh : evf (reg L) hi = .int ik v) (hv : 0 ≤ v ∧ v ≤ c) :
    runL [⟨d, .slcS size x none (some hi) none, none⟩] ⟨reg L, hp⟩ = some ⟨putf (reg L) d (.slice (some ⟨b, 0, none⟩) v.toNat c), hp⟩ := by
  refine run_step (e := .no) rfl rfl ?_
  simp only [stepE, slcV, hx, Option.map_none, Option.map_some, hh, bnds_hi hv]
  by_cases hc : c = 0 <;> simp [hc, addA]
theorem run_slcHi {d : Option Nat} {size : Nat} {x lo : Opd} {L : List (Nat × Value)} {hp : List Blk} {b n c : Nat} {ik : IntKind} {v : Int} (hx : evf (reg L) x = .slice (some ⟨b, 0, none⟩) n c) (hh : evf (reg L) lo = .int ik v) (hv : 0 ≤ v ∧ v ≤ n) :
    runL [⟨d, .slcS size x (some lo) none none, none⟩] ⟨reg L, hp⟩ = some ⟨putf (reg L) d (.slice (some ⟨b, if c = v.toNat then 0 else v.toNat * size, none⟩) (n - v.toNat) (c - v.toNat)), hp⟩ := by
  refine run_step (e := .no) rfl rfl ?_
  simp only [stepE, slcV, hx, Option.map_none, Option.map_some, hh, bnds_lo hv]
  by_cases hc : c = v.toNat <;> simp [hc, addA]
theorem run_slcN {d : Option Nat} {size : Nat} {x hi : Opd} {L : List (Nat × Value)} {hp : List Blk} {ik : IntKind} {v : Int} (hx : evf (reg L) x = .slice none 0 0) (hh : evf (reg L) hi = .int ik v) (hv : v = 0) :
    runL [⟨d, .slcS size x none (some hi) none, none⟩] ⟨reg L, hp⟩ = some ⟨putf (reg L) d (.slice none 0 0), hp⟩ := by
  subst hv
  refine run_step (e := .no) rfl rfl ?_
  simp only [stepE, slcV, hx, Option.map_none, Option.map_some, hh, bnds_hi (n := 0) (c := 0) (v := 0) (by simp)]
  rfl
theorem run_slcM {d : Option Nat} {size : Nat} {x lo : Opd} {L : List (Nat × Value)} {hp : List Blk} {ik : IntKind} {v : Int} (hx : evf (reg L) x = .slice none 0 0) (hh : evf (reg L) lo = .int ik v) (hv : v = 0) :
    runL [⟨d, .slcS size x (some lo) none none, none⟩] ⟨reg L, hp⟩ = some ⟨putf (reg L) d (.slice none 0 0), hp⟩ := by
  subst hv
  refine run_step (e := .no) rfl rfl ?_
  simp only [stepE, slcV, hx, Option.map_none, Option.map_some, hh, bnds_lo (n := 0) (c := 0) (v := 0) (by simp)]
  rfl
theorem AllG {P : Program} (hc : codeOf P "roundhouse/pool.All" = some c_pool_All) (h1 : codeOf P "roundhouse/pool.Apply" = some c_pool_Apply) (h2 : codeOf P "roundhouse/pool.may" = some c_pool_may) (h3 : codeOf P "roundhouse/pool.held" = some c_pool_held) (h4 : codeOf P "roundhouse/pool.fits" = some c_pool_fits) (h5 : codeOf P "roundhouse/pool.Check" = some c_pool_Check) (h6 : codeOf P "roundhouse/pool.placed" = some c_pool_placed) (h7 : codeOf P "roundhouse/cookie.Next" = some c_cookie_Next)
    (c : Flat) (es fs : List Ent) (m o n cap : Nat) (hne : n = fs.length) (hn : n ≤ 1000000) (hes : ∀ (i : Nat) e, fs[i]? = some e → partL (some 7) (entsL es ++ room zE m) (o + i * 7) = some (entV e)) :
    Env P "roundhouse/pool.All" [poolV c, .slice (some ⟨0, o, none⟩) n cap] (roL [entsL es ++ room zE m]) (Ans (.tuple #[poolV (allS c fs 0).1, .int .i64 (allS c fs 0).2.1, .int .i64 (allS c fs 0).2.2]) (roL [entsL es ++ room zE m])) := by
  subst hne; exact AllC hc ⟨h1, h2, h3, h4, h5, h6, h7⟩ c fs _ o cap (entsR_scl es m) hes hn
theorem take_ents {es : List Ent} {m k : Nat} : ∀ (i : Nat) e, (es.take k)[i]? = some e → partL (some 7) (entsL es ++ room zE m) (0 + i * 7) = some (entV e) := fun i e he => by
  rw [Nat.zero_add]
  refine entsL_get es _ i e ?_
  rw [List.getElem?_take] at he
  split at he
  · exact he
  · cases he
theorem drop_ents {es : List Ent} {m k c : Nat} (hc : es.length ≤ c) : ∀ (i : Nat) e, (es.drop k)[i]? = some e → partL (some 7) (entsL es ++ room zE m) ((if c = k then 0 else k * 7) + i * 7) = some (entV e) := fun i e he => by
  rw [List.getElem?_drop] at he
  have hlt := lt_of_getElem? he
  rw [if_neg (by omega), ← Nat.add_mul]
  exact entsL_get es _ (k + i) e he
theorem ren_pool_slo (c : Flat) (k o n cap m : Nat) : [poolV c, .slice (some ⟨0, o, none⟩) n cap].map (renV (rho [k] m)) = [poolV c, .slice (some ⟨k, o, none⟩) n cap] := by
  simp only [List.map_cons, List.map_nil]; rw [renV_vpf (poolV_vpf c)]; rfl
theorem split_stop (p : Flat) (es : List Ent) (k : Nat) (h : (allS p (es.take k) 0).2.2 ≠ 0) : allS p es 0 = allS p (es.take k) 0 := by
  have := allS_stop (es.take k) (es.drop k) p 0 h
  rwa [List.take_append_drop] at this
theorem split_go (p : Flat) (es : List Ent) (k : Nat) (h : (allS p (es.take k) 0).2.2 = 0) : allS p es 0 = ((allS (allS p (es.take k) 0).1 (es.drop k) 0).1, (allS p (es.take k) 0).2.1 + (allS (allS p (es.take k) 0).1 (es.drop k) 0).2.1, (allS (allS p (es.take k) 0).1 (es.drop k) 0).2.2) := by
  have h1 := allS_app (es.take k) (es.drop k) p 0 h
  rw [List.take_append_drop] at h1
  have h2 := allS_at (es.drop k) (allS p (es.take k) 0).1 0 (allS p (es.take k) 0).2.1
  rw [Nat.zero_add] at h2
  rw [h1]
  refine Prod.ext h2.1 (Prod.ext ?_ h2.2.2)
  show _ = _ + _
  rw [h2.2.1]; omega
end Go.Rh
