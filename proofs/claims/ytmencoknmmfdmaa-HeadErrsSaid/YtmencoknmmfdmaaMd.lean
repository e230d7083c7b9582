/- The proofs over the intermediate form, part Md. -/
import Derived.Test.YtmencoknmmfdmaaMc
set_option linter.unusedSimpArgs false
set_option linter.unusedVariables false
namespace Go.Rh
theorem may_call {P : Program} {K : Post} {h : List Blk} {vals : List Value} {rw : Bool} {x0 x1 x2 x3 x4 : Int} (hmay : codeOf P "roundhouse/pool.may" = some c_pool_may) (l : List Int) (k : Nat) (hl : (l.length : Int) ≤ 1000) (hk : h[k]? = some (.cells (ii l) rw))
    (hv : vals = [.agg #[.int .i64 x0, .int .i64 x1, .int .i64 x2, .int .i64 x3, .int .i64 x4], .slice (some ⟨k, 0, none⟩) l.length l.length]) (hK : K (.bool (l.contains x0)) h) : CallK (Env P) "roundhouse/pool.may" vals K h :=
  callRS (pre := [.agg #[.int .i64 x0, .int .i64 x1, .int .i64 x2, .int .i64 x3, .int .i64 x4]]) k (mayC hmay x0 x1 x2 x3 x4 l hl) hk (ii_scl l) rfl hv rfl hK
theorem TakesC {P : Program} (hc : codeOf P "roundhouse/pool.Takes" = some c_pool_Takes) (hmay : codeOf P "roundhouse/pool.may" = some c_pool_may) (x0 x1 x2 x3 x4 : Int) :
    Env P "roundhouse/pool.Takes" [.agg #[.int .i64 x0, .int .i64 x1, .int .i64 x2, .int .i64 x3, .int .i64 x4]] [] (Ans (.bool ([1, 2, 3].contains x0)) []) := by
  refine Env.of hc ?_
  unfold wpF c_pool_Takes
  refine wpOps_all (s' := _) rfl (seq_go ?_)
  refine wpC_seq (wpOps_n (s' := _) 2 rfl (wpOps_call (may_call (x0 := x0) hmay [1, 2, 3] 1 (by decide) rfl rfl ?_)))
  refine wpOps_all (s' := _) rfl (seq_go ?_)
  exact fin_ans [.bool ([1, 2, 3].contains x0)] rfl rfl rfl rfl rfl

theorem placedC {P : Program} (hc : codeOf P "roundhouse/pool.placed" = some c_pool_placed) (a p : Int) :
    Env P "roundhouse/pool.placed" [.int .i64 a, .int .i64 p] [] (Ans (.bool (placedS a p)) []) := by
  refine Env.of hc ?_
  unfold wpF c_pool_placed
  refine wpOps_all (s' := _) rfl (seq_go ?_)
  refine wpC_seq (wpOps_n (s' := _) 3 rfl ?_)
  refine wpOps_split (b := decide (a ≥ 0)) 7 rfl (fun h1 => ?_) (fun h1 => ?_)
  · refine wpOps_n (s' := _) 4 rfl ?_
    refine wpOps_split (b := decide (a ≤ 4294967295)) 11 rfl (fun h2 => ?_) (fun h2 => ?_)
    · refine wpOps_n (s' := _) 4 rfl ?_
      refine wpOps_split (b := decide (p ≥ 0)) 15 rfl (fun h3 => ?_) (fun h3 => ?_)
      · refine wpOps_all (s' := _) rfl (seq_go ?_)
        refine fin_ans [.bool (decide (p ≤ 65535))] rfl rfl ?_ rfl rfl
        have h1 := of_decide_eq_true h1; have h2 := of_decide_eq_true h2; have h3 := of_decide_eq_true h3
        simp [one, placedS, h1, h2, h3]
      · refine wpOps_all (s' := _) rfl (seq_go ?_)
        refine fin_ans [.bool false] rfl rfl ?_ rfl rfl
        have h3 := of_decide_eq_false h3
        simp [one, placedS]; omega
    · refine wpOps_all (s' := _) rfl (seq_go ?_)
      refine fin_ans [.bool false] rfl rfl ?_ rfl rfl
      have h2 := of_decide_eq_false h2
      simp [one, placedS]; omega
  · refine wpOps_all (s' := _) rfl (seq_go ?_)
    refine fin_ans [.bool false] rfl rfl ?_ rfl rfl
    have h1 := of_decide_eq_false h1
    simp [one, placedS]; omega

theorem CheckC {P : Program} (hc : codeOf P "roundhouse/pool.Check" = some c_pool_Check) (hpl : codeOf P "roundhouse/pool.placed" = some c_pool_placed) (e : Ent) :
    Env P "roundhouse/pool.Check" [entV e] [] (Ans (.int .i64 (checkS e)) []) := by
  refine Env.of hc ?_
  unfold wpF c_pool_Check
  refine wpOps_all (s' := _) rfl (seq_go ?_)
  refine wpC_cut (fun s => (1 ≤ e.k ∧ e.k ≤ 6) ∧ (0 ≤ e.s ∧ e.s < 64 ∧ (e.k = 6 → e.s = 0)) ∧ s = ⟨reg [(1, .pointer (some ⟨0, 0, none⟩))], [.cells [.int .i64 e.k, .int .i64 e.s, .int .i64 e.a, .int .i64 e.p, .int .i64 e.g, .int .u64 e.ka, .int .u64 e.kb] true]⟩) ?_ ?_
  · refine wpC_block (wpC_seq (wpOps_n (s' := _) 4 rfl ?_))
    refine wpOps_split (b := decide (e.k < 1)) 8 rfl (fun h1 => ?_) (fun h1 => ?_)
    · refine wpOps_all (s' := _) rfl (seq_go (wpC_cond (t := true) rfl (fun _ => ?_) (fun h => by cases h)))
      refine wpOps_all (s' := _) rfl (seq_go ?_)
      refine fin_ans [.int .i64 2] rfl rfl ?_ rfl rfl
      have h1 := of_decide_eq_true h1
      simp [one, checkS, h1]
    · refine wpOps_all (s' := _) rfl (seq_go (wpC_cond (t := decide (e.k > 6)) rfl (fun h2 => ?_) (fun h2 => ?_)))
      · refine wpOps_all (s' := _) rfl (seq_go ?_)
        refine fin_ans [.int .i64 2] rfl rfl ?_ rfl rfl
        have h2 := of_decide_eq_true h2
        simp [one, checkS, show 6 < e.k from h2]
      · have h1 := of_decide_eq_false h1
        have h2 := of_decide_eq_false h2
        have err : ∀ s : St, s.f 2 = .int .i64 11 → s.h.take 0 = [] → (e.s < 0 ∨ 64 ≤ e.s ∨ (e.k = 6 ∧ e.s ≠ 0)) → True ∧ ∃ l', resV s [.tmp 2] = some l' ∧ (∀ v ∈ l', isTup v = false) ∧ (Ans (.int .i64 (checkS e)) [] (one l') s.h ∨ (vpf (one l') = true ∧ (∀ b ∈ s.h.take 0, blkf b = true) ∧ Ans (.int .i64 (checkS e)) [] (one l') (s.h.take 0))) := by
          intro s h4 h5 h6
          refine fin_ans [.int .i64 11] (by simp [resV, h4]) rfl ?_ h5 rfl
          have : ¬ (e.k < 1 ∨ 6 < e.k) := by omega
          simp [one, checkS, this, h6]
        have ok : ∀ s : St, s.f 1 = .pointer (some ⟨0, 0, none⟩) → s.h.take 1 = [.cells [.int .i64 e.k, .int .i64 e.s, .int .i64 e.a, .int .i64 e.p, .int .i64 e.g, .int .u64 e.ka, .int .u64 e.kb] true] → (0 ≤ e.s ∧ e.s < 64 ∧ (e.k = 6 → e.s = 0)) →
            ∃ s0, Wk 0 s s0 ∧ (1 ≤ e.k ∧ e.k ≤ 6) ∧ (0 ≤ e.s ∧ e.s < 64 ∧ (e.k = 6 → e.s = 0)) ∧ s0 = ⟨reg [(1, .pointer (some ⟨0, 0, none⟩))], [.cells [.int .i64 e.k, .int .i64 e.s, .int .i64 e.a, .int .i64 e.p, .int .i64 e.g, .int .u64 e.ka, .int .u64 e.kb] true]⟩ :=
          fun s h4 h5 h6 => ⟨_, Wk.to (l := [(1, .pointer (some ⟨0, 0, none⟩))]) (hs := [.cells [.int .i64 e.k, .int .i64 e.s, .int .i64 e.a, .int .i64 e.p, .int .i64 e.g, .int .u64 e.ka, .int .u64 e.kb] true]) (Nat.zero_le _) h5 ⟨⟨h4, rfl⟩, trivial⟩ rfl, ⟨by omega, by omega⟩, h6, rfl⟩
        refine wpC_seq (wpOps_n (s' := _) 4 rfl ?_)
        refine wpOps_split (b := decide (e.s < 0)) 17 rfl (fun h3 => ?_) (fun h3 => ?_)
        · refine wpOps_all (s' := _) rfl (seq_go (wpC_cond (t := true) rfl (fun _ => ?_) (fun h => by cases h)))
          exact wpC_seq (wpOps_all (s' := _) rfl (seq_go (err _ rfl rfl (.inl (of_decide_eq_true h3)))))
        · refine wpOps_n (s' := _) 5 rfl ?_
          refine wpOps_split (b := decide (e.s ≥ 64)) 22 rfl (fun h4 => ?_) (fun h4 => ?_)
          · refine wpOps_all (s' := _) rfl (seq_go (wpC_cond (t := true) rfl (fun _ => ?_) (fun h => by cases h)))
            exact wpC_seq (wpOps_all (s' := _) rfl (seq_go (err _ rfl rfl (.inr (.inl (of_decide_eq_true h4))))))
          · refine wpOps_n (s' := _) 4 rfl ?_
            have h3 := of_decide_eq_false h3
            have h4 := of_decide_eq_false h4
            refine wpOps_split (b := e.k == 6) 26 rfl (fun h5 => ?_) (fun h5 => ?_)
            · have h5 := eq_of_beq h5
              refine wpOps_all (s' := _) rfl (seq_go (wpC_cond (t := e.s != 0) rfl (fun h6 => ?_) (fun h6 => ?_)))
              · exact wpC_seq (wpOps_all (s' := _) rfl (seq_go (err _ rfl rfl (.inr (.inr ⟨h5, by simpa using h6⟩)))))
              · exact ok _ rfl rfl ⟨by omega, by omega, fun _ => by simpa using h6⟩
            · have h5 : e.k ≠ 6 := by simpa using h5
              refine wpOps_all (s' := _) rfl (seq_go (wpC_cond (t := false) rfl (fun h => by cases h) (fun h6 => ?_)))
              exact ok _ rfl rfl ⟨by omega, by omega, fun h => absurd h h5⟩
  · rintro s ⟨hk, hs, rfl⟩
    refine wpOps_all (s' := _) rfl (seq_go ?_)
    refine wpOps_all (s' := _) rfl (seq_go ?_)
    have hk1 : ¬ (e.k < 1 ∨ 6 < e.k) := by omega
    have hs1 : ¬ (e.s < 0 ∨ 64 ≤ e.s ∨ (e.k = 6 ∧ e.s ≠ 0)) := by
      rintro (h | h | ⟨h, h'⟩)
      · omega
      · omega
      · exact h' (hs.2.2 h)
    refine wpC_cut (fun s => ¬ (e.k = 1 ∧ (placedS e.a e.p = false ∨ e.g < 1 ∨ 8 < e.g)) ∧ ∃ a p g ka kb, s = ⟨reg [(3, .pointer (some ⟨1, 0, none⟩))], [.cells [.int .i64 e.k, .int .i64 e.s, .int .i64 e.a, .int .i64 e.p, .int .i64 e.g, .int .u64 e.ka, .int .u64 e.kb] true, .cells [.int .i64 0, .int .i64 0, .int .i64 a, .int .i64 p, .int .i64 g, .int .u64 ka, .int .u64 kb] true]⟩ ∧
      ((a ≠ 0 ∨ p ≠ 0 ∨ g ≠ 0 ∨ ka ≠ 0 ∨ kb ≠ 0) ↔ ((e.k ≠ 1 ∧ (e.a ≠ 0 ∨ e.p ≠ 0 ∨ e.g ≠ 0)) ∨ (e.k ≠ 6 ∧ (e.ka ≠ 0 ∨ e.kb ≠ 0))))) ?_ ?_
    · have ok : ∀ (a p g ka kb : Int) (s : St), ¬ (e.k = 1 ∧ (placedS e.a e.p = false ∨ e.g < 1 ∨ 8 < e.g)) → ((a ≠ 0 ∨ p ≠ 0 ∨ g ≠ 0 ∨ ka ≠ 0 ∨ kb ≠ 0) ↔ ((e.k ≠ 1 ∧ (e.a ≠ 0 ∨ e.p ≠ 0 ∨ e.g ≠ 0)) ∨ (e.k ≠ 6 ∧ (e.ka ≠ 0 ∨ e.kb ≠ 0)))) →
          s.f 3 = .pointer (some ⟨1, 0, none⟩) → s.h.take 2 = [.cells [.int .i64 e.k, .int .i64 e.s, .int .i64 e.a, .int .i64 e.p, .int .i64 e.g, .int .u64 e.ka, .int .u64 e.kb] true, .cells [.int .i64 0, .int .i64 0, .int .i64 a, .int .i64 p, .int .i64 g, .int .u64 ka, .int .u64 kb] true] →
          ∃ s0, Wk 0 s s0 ∧ ¬ (e.k = 1 ∧ (placedS e.a e.p = false ∨ e.g < 1 ∨ 8 < e.g)) ∧ ∃ a p g ka kb, s0 = ⟨reg [(3, .pointer (some ⟨1, 0, none⟩))], [.cells [.int .i64 e.k, .int .i64 e.s, .int .i64 e.a, .int .i64 e.p, .int .i64 e.g, .int .u64 e.ka, .int .u64 e.kb] true, .cells [.int .i64 0, .int .i64 0, .int .i64 a, .int .i64 p, .int .i64 g, .int .u64 ka, .int .u64 kb] true]⟩ ∧
            ((a ≠ 0 ∨ p ≠ 0 ∨ g ≠ 0 ∨ ka ≠ 0 ∨ kb ≠ 0) ↔ ((e.k ≠ 1 ∧ (e.a ≠ 0 ∨ e.p ≠ 0 ∨ e.g ≠ 0)) ∨ (e.k ≠ 6 ∧ (e.ka ≠ 0 ∨ e.kb ≠ 0)))) := by
        intro a p g ka kb s h1 h2 h3 h4
        exact ⟨_, Wk.to (l := [(3, .pointer (some ⟨1, 0, none⟩))]) (hs := [.cells [.int .i64 e.k, .int .i64 e.s, .int .i64 e.a, .int .i64 e.p, .int .i64 e.g, .int .u64 e.ka, .int .u64 e.kb] true, .cells [.int .i64 0, .int .i64 0, .int .i64 a, .int .i64 p, .int .i64 g, .int .u64 ka, .int .u64 kb] true]) (Nat.zero_le _) h4 ⟨⟨h3, rfl⟩, trivial⟩ rfl, h1, a, p, g, ka, kb, rfl, h2⟩
      have err : ∀ s : St, s.f 2 = .int .i64 14 → s.h.take 0 = [] → e.k = 1 → (placedS e.a e.p = false ∨ e.g < 1 ∨ 8 < e.g) → True ∧ ∃ l', resV s [.tmp 2] = some l' ∧ (∀ v ∈ l', isTup v = false) ∧ (Ans (.int .i64 (checkS e)) [] (one l') s.h ∨ (vpf (one l') = true ∧ (∀ b ∈ s.h.take 0, blkf b = true) ∧ Ans (.int .i64 (checkS e)) [] (one l') (s.h.take 0))) := by
        intro s h4 h5 h6 h7
        refine fin_ans [.int .i64 14] (by simp [resV, h4]) rfl ?_ h5 rfl
        simp only [one, checkS, hk1, hs1, if_false, if_pos (And.intro h6 h7)]
      refine wpC_seq (wpOps_all (s' := _) rfl (seq_go ?_))
      refine wpC_block (wpC_seq (wpOps_all (s' := _) rfl (seq_go (wpC_cond (t := e.k == 1) rfl (fun h1 => ?_) (fun h1 => ?_)))))
      · have h1 := eq_of_beq h1
        refine wpC_seq (wpC_seq (wpOps_n (s' := _) 4 rfl (wpOps_call (callP (placedC hpl e.a e.p) rfl rfl ?_))))
        refine wpOps_n (s' := _) 2 rfl ?_
        refine wpOps_split (b := !(placedS e.a e.p)) 45 rfl (fun h2 => ?_) (fun h2 => ?_)
        · refine wpOps_all (s' := _) rfl (seq_go (wpC_cond (t := true) rfl (fun _ => ?_) (fun h => by cases h)))
          exact wpC_seq (wpOps_all (s' := _) rfl (seq_go (err _ rfl rfl h1 (.inl (by simpa using h2)))))
        · refine wpOps_n (s' := _) 5 rfl ?_
          refine wpOps_split (b := decide (e.g < 1)) 50 rfl (fun h3 => ?_) (fun h3 => ?_)
          · refine wpOps_all (s' := _) rfl (seq_go (wpC_cond (t := true) rfl (fun _ => ?_) (fun h => by cases h)))
            exact wpC_seq (wpOps_all (s' := _) rfl (seq_go (err _ rfl rfl h1 (.inr (.inl (of_decide_eq_true h3))))))
          · refine wpOps_all (s' := _) rfl (seq_go (wpC_cond (t := decide (e.g > 8)) rfl (fun h4 => ?_) (fun h4 => ?_)))
            · exact wpC_seq (wpOps_all (s' := _) rfl (seq_go (err _ rfl rfl h1 (.inr (.inr (of_decide_eq_true h4))))))
            · refine seq_go (wpOps_all (s' := _) rfl ?_)
              refine ok 0 0 0 e.ka e.kb _ ?_ ?_ rfl rfl
              · have h2 : placedS e.a e.p = true := by simpa using h2
                have h3 := of_decide_eq_false h3
                have h4 := of_decide_eq_false h4
                rintro ⟨_, h | h | h⟩
                · rw [h2] at h; cases h
                · exact h3 h
                · exact h4 h
              · simp [h1]
      · have h1 : e.k ≠ 1 := by simpa using h1
        refine wpC_seq (wpOps_all (s' := _) rfl (seq_go (wpC_cond (t := e.k == 6) rfl (fun h2 => ?_) (fun h2 => ?_))))
        · have h2 := eq_of_beq h2
          refine wpOps_all (s' := _) rfl ?_
          refine ok e.a e.p e.g 0 0 _ (fun h => h1 h.1) ?_ rfl rfl
          simp [h2]
        · have h2 : e.k ≠ 6 := by simpa using h2
          refine ok e.a e.p e.g e.ka e.kb _ (fun h => h1 h.1) ?_ rfl rfl
          simp [h1, h2]
          omega
    · rintro s ⟨h1, a, p, g, ka, kb, rfl, h2⟩
      refine wpC_seq (wpC_seq (wpOps_all (s' := _) rfl (seq_go (wpC_cond (t := !((0 : Int) == 0 && ((0 : Int) == 0 && (a == 0 && (p == 0 && (g == 0 && (ka == 0 && (kb == 0 && true)))))))) rfl (fun h3 => ?_) (fun h3 => ?_)))))
      · refine wpOps_all (s' := _) rfl (seq_go ?_)
        refine fin_ans [.int .i64 14] rfl rfl ?_ rfl rfl
        have : a ≠ 0 ∨ p ≠ 0 ∨ g ≠ 0 ∨ ka ≠ 0 ∨ kb ≠ 0 := by
          simp at h3
          by_cases e1 : a = 0 <;> by_cases e2 : p = 0 <;> by_cases e3 : g = 0 <;> by_cases e4 : ka = 0 <;> simp_all
        simp only [one, checkS, hk1, hs1, h1, if_false, if_pos (h2.1 this)]
      · refine seq_go ?_
        refine wpOps_all (s' := _) rfl (seq_go ?_)
        refine fin_ans [.int .i64 0] rfl rfl ?_ rfl rfl
        have : ¬ (a ≠ 0 ∨ p ≠ 0 ∨ g ≠ 0 ∨ ka ≠ 0 ∨ kb ≠ 0) := by
          simp at h3
          obtain ⟨e1, e2, e3, e4, e5⟩ := h3
          simp [e1, e2, e3, e4, e5]
        simp only [one, checkS, hk1, hs1, h1, if_false, if_neg (fun h => this (h2.2 h))]
end Go.Rh

set_option linter.unusedSimpArgs false
set_option linter.unusedVariables false
set_option maxRecDepth 100000
namespace Go.Rh
def eL (e : Ent) : List Value := [.int .i64 e.k, .int .i64 e.s, .int .i64 e.a, .int .i64 e.p, .int .i64 e.g, .int .u64 e.ka, .int .u64 e.kb]
def sL (c : Flat) (k : Nat) : List Value := [.int .i64 (c (3 + 5 * k)), .int .i64 (c (3 + 5 * k + 1)), .int .i64 (c (3 + 5 * k + 2)), .int .i64 (c (3 + 5 * k + 3)), .int .i64 (c (3 + 5 * k + 4))]
theorem fitsC {P : Program} (hc : codeOf P "roundhouse/pool.fits" = some c_pool_fits) (hmay : codeOf P "roundhouse/pool.may" = some c_pool_may) (hheld : codeOf P "roundhouse/pool.held" = some c_pool_held) (c : Flat) (e : Ent) (hs : 0 ≤ e.s ∧ e.s < 64) :
    Env P "roundhouse/pool.fits" [poolV c, entV e] [] (Ans (.int .i64 (fitsS c e)) []) := by
  refine Env.of hc ?_
  unfold wpF c_pool_fits
  obtain ⟨k, hk⟩ : ∃ k, k = e.s.toNat := ⟨_, rfl⟩
  have hk64 : k < 64 := by omega
  refine wpOps_all (s' := _) rfl (seq_go ?_)
  refine wpC_seq (wpOps_n (s' := _) 3 rfl (wpOps_iadA (n := e.s) rfl rfl (by omega) ?_))
  rw [← hk]
  refine wpOps_ld (v := slotV c k) rfl rfl (pl_slot' c hk64) ?_
  refine wpOps_all (s' := _) rfl (seq_go ?_)
  refine wpOps_all (s' := _) rfl (seq_go ?_)
  refine wpC_cut (fun s => s = ⟨reg [(2, .pointer (some ⟨0, 0, none⟩)), (3, .pointer (some ⟨1, 0, none⟩)), (5, .pointer (some ⟨2, 0, none⟩)), (6, .bool (!(badS c e)))], [.cells (pl c) true, .cells (eL e) true, .cells (sL c k) true]⟩) ?_ ?_
  · have ok : ∀ (b : Bool) (s : St), b = !(badS c e) → s.f 2 = .pointer (some ⟨0, 0, none⟩) → s.f 3 = .pointer (some ⟨1, 0, none⟩) → s.f 5 = .pointer (some ⟨2, 0, none⟩) → s.f 6 = .bool b → s.h.take 3 = [.cells (pl c) true, .cells (eL e) true, .cells (sL c k) true] →
        ∃ s0, Wk 0 s s0 ∧ s0 = ⟨reg [(2, .pointer (some ⟨0, 0, none⟩)), (3, .pointer (some ⟨1, 0, none⟩)), (5, .pointer (some ⟨2, 0, none⟩)), (6, .bool (!(badS c e)))], [.cells (pl c) true, .cells (eL e) true, .cells (sL c k) true]⟩ := by
      intro b s hb h2 h3 h5 h6 hh
      refine ⟨_, Wk.to (l := [(2, .pointer (some ⟨0, 0, none⟩)), (3, .pointer (some ⟨1, 0, none⟩)), (5, .pointer (some ⟨2, 0, none⟩)), (6, .bool (!(badS c e)))]) (hs := [.cells (pl c) true, .cells (eL e) true, .cells (sL c k) true]) (Nat.zero_le _) hh ⟨⟨h2, rfl⟩, ⟨h3, rfl⟩, ⟨h5, rfl⟩, ⟨h6.trans (congrArg Value.bool hb), rfl⟩, trivial⟩ ?_, rfl⟩
      simp [bbel, pl_bel, eL, sL, sbel]
    refine wpC_seq (wpOps_all (s' := _) rfl (seq_go ?_))
    refine wpC_block (wpC_seq (wpOps_all (s' := _) rfl (seq_go (wpC_cond (t := e.k == 1) rfl (fun h1 => ?_) (fun h1 => ?_)))))
    · have h1 := eq_of_beq h1
      refine wpOps_n (s' := _) 2 rfl (wpOps_call (may_call (x0 := c (3 + 5 * k)) (x1 := c (3 + 5 * k + 1)) hmay [0] 3 (by decide) rfl rfl ?_))
      refine wpOps_n (s' := _) 1 rfl ?_
      refine wpOps_split (b := [0].contains (c (3 + 5 * k))) 19 rfl (fun h2 => ?_) (fun h2 => ?_)
      · refine wpOps_unguard rfl (wpOps_ld (v := poolV c) rfl rfl (pl_all c) ?_)
        refine wpOps_n (s' := _) 5 rfl (wpOps_unguard rfl (wpOps_call (callV (heldC hheld c e.a e.p) rfl ?_ rfl ?_)))
        · rw [List.all_cons, poolV_vpf]; rfl
        refine wpOps_all (s' := _) rfl ?_
        refine ok (!(heldS c e.a e.p)) _ ?_ rfl rfl rfl rfl rfl
        have h2 : c (3 + 5 * k) = 0 := by simpa using h2
        simp [badS, h1, ← hk, h2]
      · refine wpOps_all (s' := _) rfl ?_
        refine ok false _ ?_ rfl rfl rfl rfl rfl
        have h2 : c (3 + 5 * k) ≠ 0 := by simpa using h2
        simp [badS, h1, ← hk, h2]
    · have h1 : e.k ≠ 1 := by simpa using h1
      have two : ∀ s : St, (∃ b, s.f 29 = .bool b ∧ (b = true ↔ e.k = 2 ∨ e.k = 4)) → True := fun _ _ => trivial
      refine wpC_cut (fun s => s = ⟨reg [(2, .pointer (some ⟨0, 0, none⟩)), (3, .pointer (some ⟨1, 0, none⟩)), (5, .pointer (some ⟨2, 0, none⟩)), (6, .bool true), (13, .int .i64 e.k), (29, .bool (e.k == 2 || e.k == 4))], [.cells (pl c) true, .cells (eL e) true, .cells (sL c k) true]⟩) ?_ ?_
      · have st : ∀ (b : Bool) (s : St), b = (e.k == 2 || e.k == 4) → s.f 2 = .pointer (some ⟨0, 0, none⟩) → s.f 3 = .pointer (some ⟨1, 0, none⟩) → s.f 5 = .pointer (some ⟨2, 0, none⟩) → s.f 6 = .bool true → s.f 13 = .int .i64 e.k → s.f 29 = .bool b → s.h.take 3 = [.cells (pl c) true, .cells (eL e) true, .cells (sL c k) true] →
            ∃ s0, Wk 0 s s0 ∧ s0 = ⟨reg [(2, .pointer (some ⟨0, 0, none⟩)), (3, .pointer (some ⟨1, 0, none⟩)), (5, .pointer (some ⟨2, 0, none⟩)), (6, .bool true), (13, .int .i64 e.k), (29, .bool (e.k == 2 || e.k == 4))], [.cells (pl c) true, .cells (eL e) true, .cells (sL c k) true]⟩ := by
          intro b s hb h2 h3 h5 h6 h13 h29 hh
          refine ⟨_, Wk.to (l := [(2, .pointer (some ⟨0, 0, none⟩)), (3, .pointer (some ⟨1, 0, none⟩)), (5, .pointer (some ⟨2, 0, none⟩)), (6, .bool true), (13, .int .i64 e.k), (29, .bool (e.k == 2 || e.k == 4))]) (hs := [.cells (pl c) true, .cells (eL e) true, .cells (sL c k) true]) (Nat.zero_le _) hh ⟨⟨h2, rfl⟩, ⟨h3, rfl⟩, ⟨h5, rfl⟩, ⟨h6, rfl⟩, ⟨h13, rfl⟩, ⟨h29.trans (congrArg Value.bool hb), rfl⟩, trivial⟩ ?_, rfl⟩
          simp [bbel, pl_bel, eL, sL, sbel]
        refine wpC_seq (wpOps_all (s' := _) rfl (seq_go (wpC_cond (t := e.k == 2) rfl (fun h2 => ?_) (fun h2 => ?_))))
        · exact st true _ (by simp [eq_of_beq h2]) rfl rfl rfl rfl rfl (congrArg Value.bool h2) rfl
        · refine wpOps_all (s' := _) rfl ?_
          exact st (e.k == 4) _ (by simp [h2]) rfl rfl rfl rfl rfl rfl rfl
      · rintro s rfl
        refine wpC_cond (t := (e.k == 2 || e.k == 4)) rfl (fun h2 => ?_) (fun h2 => ?_)
        · refine wpOps_n (s' := _) 2 rfl (wpOps_call (may_call (x0 := c (3 + 5 * k)) (x1 := c (3 + 5 * k + 1)) hmay [1, 3] 3 (by decide) rfl rfl ?_))
          refine wpOps_all (s' := _) rfl ?_
          refine ok ([1, 3].contains (c (3 + 5 * k))) _ ?_ rfl rfl rfl rfl rfl
          have h2 : e.k = 2 ∨ e.k = 4 := by simpa using h2
          simp only [badS, h1, if_false, if_pos h2, ← hk]
          by_cases ha : c (3 + 5 * k) = 1 <;> by_cases hb : c (3 + 5 * k) = 3 <;> simp [ha, hb]
        · have h2 : ¬ (e.k = 2 ∨ e.k = 4) := by simpa using h2
          refine wpC_seq (wpOps_all (s' := _) rfl (seq_go (wpC_cond (t := e.k == 3) rfl (fun h3 => ?_) (fun h3 => ?_))))
          · have h3 := eq_of_beq h3
            refine wpOps_n (s' := _) 2 rfl (wpOps_call (may_call (x0 := c (3 + 5 * k)) (x1 := c (3 + 5 * k + 1)) hmay [2] 3 (by decide) rfl rfl ?_))
            refine wpOps_all (s' := _) rfl ?_
            refine ok ([2].contains (c (3 + 5 * k))) _ ?_ rfl rfl rfl rfl rfl
            simp only [badS, h1, h2, if_false, if_pos h3, ← hk]
            by_cases ha : c (3 + 5 * k) = 2 <;> simp [ha]
          · have h3 : e.k ≠ 3 := by simpa using h3
            refine wpC_seq (wpOps_all (s' := _) rfl (seq_go (wpC_cond (t := e.k == 5) rfl (fun h4 => ?_) (fun h4 => ?_))))
            · have h4 := eq_of_beq h4
              refine wpOps_n (s' := _) 2 rfl (wpOps_call (may_call (x0 := c (3 + 5 * k)) (x1 := c (3 + 5 * k + 1)) hmay [4] 3 (by decide) rfl rfl ?_))
              refine wpOps_all (s' := _) rfl ?_
              refine ok ([4].contains (c (3 + 5 * k))) _ ?_ rfl rfl rfl rfl rfl
              simp only [badS, h1, h2, h3, if_false, if_pos h4, ← hk]
              by_cases ha : c (3 + 5 * k) = 4 <;> simp [ha]
            · have h4 : e.k ≠ 5 := by simpa using h4
              refine ok true _ ?_ rfl rfl rfl rfl rfl
              simp only [badS, h1, h2, h3, h4, if_false]; rfl
  · rintro s rfl
    refine wpC_seq (wpC_block (wpC_seq (wpOps_all (s' := _) rfl (seq_go (wpC_cond (t := !(!(badS c e))) rfl (fun h1 => ?_) (fun h1 => ?_))))))
    · refine wpOps_all (s' := _) rfl (seq_go ?_)
      refine fin_ans [.int .i64 12] rfl rfl ?_ rfl rfl
      have h1 : badS c e = true := by simpa using h1
      simp [one, fitsS, h1]
    · have h1 : badS c e = false := by simpa using h1
      refine wpC_seq (wpOps_n (s' := _) 4 rfl ?_)
      refine wpOps_split (b := e.k == 5) 52 rfl (fun h2 => ?_) (fun h2 => ?_)
      · have h2 := eq_of_beq h2
        refine wpOps_all (s' := _) rfl (seq_go (wpC_cond (t := decide (c 323 < IntKind.i64.wrap (c (3 + 5 * k + 4) + 3))) rfl (fun h3 => ?_) (fun h3 => ?_)))
        · refine wpOps_all (s' := _) rfl (seq_go ?_)
          refine fin_ans [.int .i64 13] rfl rfl ?_ rfl rfl
          have h3 := of_decide_eq_true h3
          simp [one, fitsS, h1, h2, ← hk, h3]
        · refine seq_go (wpOps_all (s' := _) rfl (seq_go ?_))
          refine fin_ans [.int .i64 0] rfl rfl ?_ rfl rfl
          have h3 := of_decide_eq_false h3
          simp [one, fitsS, h1, h2, ← hk, h3]
      · have h2 : e.k ≠ 5 := by simpa using h2
        refine wpOps_all (s' := _) rfl (seq_go (wpC_cond (t := false) rfl (fun h => by cases h) (fun h3 => ?_)))
        refine seq_go (wpOps_all (s' := _) rfl (seq_go ?_))
        refine fin_ans [.int .i64 0] rfl rfl ?_ rfl rfl
        simp [one, fitsS, h1, h2]
end Go.Rh

set_option linter.unusedSimpArgs false
set_option linter.unusedVariables false
set_option maxRecDepth 100000
set_option maxHeartbeats 8000000
namespace Go.Rh
theorem resV_pool {s : St} {t u k : Nat} {d : Flat} {v : Value} {rw : Bool} (h4 : s.f t = .pointer (some ⟨k, 0, none⟩)) (hh : hf s.h k = some (.cells (pl d) rw)) (h5 : s.f u = v) : resV s [.cell t (some 330), .tmp u] = some [poolV d, v] := by
  simp only [resV, ldV, h4, hh, pl_all, h5, Option.map_some]
theorem splice_zP (d : Flat) : splice (expand zP) 0 (pl d) = pl d := splice_all (by rw [zP_pl, pl_length, pl_length])
theorem splice_pl0 (c d : Flat) : splice (pl c) 0 (pl d) = pl d := splice_all (by rw [pl_length, pl_length])
theorem zlen : (expand zP).length = 330 := by rw [zP_pl, pl_length]
theorem ApplyC {P : Program} (hc : codeOf P "roundhouse/pool.Apply" = some c_pool_Apply) (hmay : codeOf P "roundhouse/pool.may" = some c_pool_may) (hheld : codeOf P "roundhouse/pool.held" = some c_pool_held) (hfits : codeOf P "roundhouse/pool.fits" = some c_pool_fits)
    (hcheck : codeOf P "roundhouse/pool.Check" = some c_pool_Check) (hpl : codeOf P "roundhouse/pool.placed" = some c_pool_placed) (hnext : codeOf P "roundhouse/cookie.Next" = some c_cookie_Next) (c : Flat) (e : Ent) :
    Env P "roundhouse/pool.Apply" [poolV c, entV e] [] (Ans (.tuple #[poolV (applyS c e).1, .int .i64 (applyS c e).2]) []) := by
  refine Env.of hc ?_
  unfold wpF c_pool_Apply
  have fin : ∀ (d : Flat) (x : Int) (rw : Bool) (s : St), applyS c e = (d, x) → s.f 4 = .pointer (some ⟨2, 0, none⟩) → hf s.h 2 = some (.cells (pl d) rw) → s.f 5 = .int .i64 x →
      True ∧ ∃ l', resV s [.cell 4 (some 330), .tmp 5] = some l' ∧ (∀ v ∈ l', isTup v = false) ∧ (Ans (.tuple #[poolV (applyS c e).1, .int .i64 (applyS c e).2]) [] (one l') s.h ∨ (vpf (one l') = true ∧ (∀ b ∈ s.h.take 0, blkf b = true) ∧ Ans (.tuple #[poolV (applyS c e).1, .int .i64 (applyS c e).2]) [] (one l') (s.h.take 0))) := by
    intro d x rw s hd h4 hh h5
    refine fin_ans [poolV d, .int .i64 x] (resV_pool h4 hh h5) ?_ ?_ rfl rfl
    · rw [List.all_cons, poolV_aggf]; rfl
    · rw [hd]; rfl
  have hb3 : ∀ d : Flat, ([.cells (pl d) true, .cells (eL e) true, .cells (expand zP) true] : List Blk).all (bbel 3) = true := by
    intro d; simp [bbel, pl_bel, eL, sbel, zP_pl]
  refine wpOps_all (s' := _) rfl (seq_to [(2, .pointer (some ⟨0, 0, none⟩)), (3, .pointer (some ⟨1, 0, none⟩)), (4, .pointer (some ⟨2, 0, none⟩))] [.cells (pl c) true, .cells (eL e) true, .cells (expand zP) true] (Nat.zero_le _) rfl ⟨⟨rfl, rfl⟩, ⟨rfl, rfl⟩, ⟨rfl, rfl⟩, trivial⟩ (hb3 c) ?_)
  -- what is refused
  have hbld : ∀ (e' : Opd → Value) (h : Nat → Option Blk) (n : Nat), stepE (.bld [(324, .int .i64 0), (6, .int .u64 0)] []) e' h n = some (poolV zeroP, .no) := by
    intro e' h n
    show some (Value.agg (expand zP).toArray, Eff.no) = _
    rw [zP_pl]; rfl
  refine wpC_seq (wpC_seq (wpOps_n (s' := _) 1 rfl (wpOps_call (callV (CheckC hcheck hpl e) rfl rfl rfl ?_))))
  refine wpOps_all (s' := _) rfl (seq_go ?_)
  refine wpC_seq (wpOps_all (s' := _) rfl (seq_go (wpC_cond (t := checkS e != 0) rfl (fun h1 => ?_) (fun h1 => ?_))))
  · have h1 : checkS e ≠ 0 := by simpa using h1
    refine wpC_seq (wpOps_step (v := poolV zeroP) (e := .no) rfl (hbld _ _ _) ?_)
    refine wpOps_n (s' := _) 1 rfl (wpOps_st (c := expand zP) (c' := pl zeroP) rfl rfl rfl (pl_length _) (by rw [zlen]; omega) (splice_zP _) ?_)
    refine wpOps_all (s' := _) rfl (seq_go ?_)
    exact fin zeroP (checkS e) true _ (by simp [applyS, errS, h1]) rfl rfl rfl
  have h1 : checkS e = 0 := by simpa using h1
  have hs : 0 ≤ e.s ∧ e.s < 64 := by
    unfold checkS at h1
    split at h1
    · cases h1
    · split at h1
      · cases h1
      · omega
  have hk6 : 1 ≤ e.k ∧ e.k ≤ 6 := by
    unfold checkS at h1
    split at h1
    · cases h1
    · omega
  refine seq_to [(2, .pointer (some ⟨0, 0, none⟩)), (3, .pointer (some ⟨1, 0, none⟩)), (4, .pointer (some ⟨2, 0, none⟩))] [.cells (pl c) true, .cells (eL e) true, .cells (expand zP) true] (Nat.zero_le _) rfl ⟨⟨rfl, rfl⟩, ⟨rfl, rfl⟩, ⟨rfl, rfl⟩, trivial⟩ (hb3 c) ?_
  refine wpC_seq (wpC_seq (wpOps_ld (v := poolV c) rfl rfl (pl_all c) ?_))
  refine wpOps_n (s' := _) 1 rfl (wpOps_call (callV (fitsC hfits hmay hheld c e hs) rfl ?_ rfl ?_))
  · rw [List.all_cons, poolV_vpf]; rfl
  refine wpOps_all (s' := _) rfl (seq_go ?_)
  refine wpC_seq (wpOps_all (s' := _) rfl (seq_go (wpC_cond (t := fitsS c e != 0) rfl (fun h2 => ?_) (fun h2 => ?_))))
  · have h2 : fitsS c e ≠ 0 := by simpa using h2
    refine wpC_seq (wpOps_step (v := poolV zeroP) (e := .no) rfl (hbld _ _ _) ?_)
    refine wpOps_n (s' := _) 1 rfl (wpOps_st (c := expand zP) (c' := pl zeroP) rfl rfl rfl (pl_length _) (by rw [zlen]; omega) (splice_zP _) ?_)
    refine wpOps_all (s' := _) rfl (seq_go ?_)
    exact fin zeroP (fitsS c e) true _ (by simp [applyS, errS, h1, h2]) rfl rfl rfl
  have h2 : fitsS c e = 0 := by simpa using h2
  refine seq_to [(2, .pointer (some ⟨0, 0, none⟩)), (3, .pointer (some ⟨1, 0, none⟩)), (4, .pointer (some ⟨2, 0, none⟩))] [.cells (pl c) true, .cells (eL e) true, .cells (expand zP) true] (Nat.zero_le _) rfl ⟨⟨rfl, rfl⟩, ⟨rfl, rfl⟩, ⟨rfl, rfl⟩, trivial⟩ (hb3 c) ?_
  obtain ⟨k, hk⟩ : ∃ k, k = e.s.toNat := ⟨_, rfl⟩
  have hk64 : k < 64 := by omega
  generalize hd : upd c 0 (IntKind.i64.wrap (c 0 + 1)) = d
  refine wpC_seq (wpOps_n (s' := _) 4 rfl (wpOps_st (c := pl c) (c' := pl d) rfl rfl rfl rfl (by rw [pl_length]; omega) (by rw [← hd]; exact splice_one c (by omega) _) ?_))
  refine seq_to [(2, .pointer (some ⟨0, 0, none⟩)), (3, .pointer (some ⟨1, 0, none⟩)), (4, .pointer (some ⟨2, 0, none⟩))] [.cells (pl d) true, .cells (eL e) true, .cells (expand zP) true] (Nat.zero_le _) rfl ⟨⟨rfl, rfl⟩, ⟨rfl, rfl⟩, ⟨rfl, rfl⟩, trivial⟩ (hb3 d) ?_
  refine wpC_seq (wpOps_n (s' := _) 3 rfl (wpOps_iadA (n := e.s) rfl rfl (by omega) (wpOps_all (s' := _) rfl ?_)))
  rw [← hk]
  refine seq_to [(2, .pointer (some ⟨0, 0, none⟩)), (3, .pointer (some ⟨1, 0, none⟩)), (4, .pointer (some ⟨2, 0, none⟩)), (8, .pointer (some ⟨0, 0 + 3 + k * 5, none⟩))] [.cells (pl d) true, .cells (eL e) true, .cells (expand zP) true] (Nat.zero_le _) rfl ⟨⟨rfl, rfl⟩, ⟨rfl, rfl⟩, ⟨rfl, rfl⟩, ⟨rfl, rfl⟩, trivial⟩ (hb3 d) ?_
  refine wpC_cut (fun s => s = ⟨reg [(2, .pointer (some ⟨0, 0, none⟩)), (4, .pointer (some ⟨2, 0, none⟩))], [.cells (pl (doneS c e)) true, .cells (eL e) true, .cells (expand zP) true]⟩) ?_ ?_
  · have ok : ∀ (d' : Flat) (s : St), doneS c e = d' → s.f 2 = .pointer (some ⟨0, 0, none⟩) → s.f 4 = .pointer (some ⟨2, 0, none⟩) → s.h.take 3 = [.cells (pl d') true, .cells (eL e) true, .cells (expand zP) true] →
        ∃ s0, Wk 0 s s0 ∧ s0 = ⟨reg [(2, .pointer (some ⟨0, 0, none⟩)), (4, .pointer (some ⟨2, 0, none⟩))], [.cells (pl (doneS c e)) true, .cells (eL e) true, .cells (expand zP) true]⟩ := by
      intro d' s hd' h2 h4 hh
      refine ⟨_, Wk.to (l := [(2, .pointer (some ⟨0, 0, none⟩)), (4, .pointer (some ⟨2, 0, none⟩))]) (hs := [.cells (pl (doneS c e)) true, .cells (eL e) true, .cells (expand zP) true]) (Nat.zero_le _) (by rw [hd']; exact hh) ⟨⟨h2, rfl⟩, ⟨h4, rfl⟩, trivial⟩ ?_, rfl⟩
      simp [bbel, pl_bel, eL, sbel, zP_pl]
    refine wpC_seq (wpOps_all (s' := _) rfl (seq_go ?_))
    refine wpC_block (wpC_seq (wpOps_all (s' := _) rfl (seq_go (wpC_cond (t := e.k == 1) rfl (fun h3 => ?_) (fun h3 => ?_)))))
    · have h3 := eq_of_beq h3
      refine wpOps_n (s' := _) 9 rfl (wpOps_st (c := pl d) (c' := pl (setSlot d k 1 e.a e.p e.g 0)) rfl rfl rfl rfl (by rw [pl_length]; omega) ?_ ?_)
      · rw [show 0 + 3 + k * 5 = 3 + 5 * k by omega]; exact splice_slot d hk64 1 e.a e.p e.g 0
      exact ok _ _ (by simp [doneS, h3, hd, ← hk]) rfl rfl rfl
    have h3 : e.k ≠ 1 := by simpa using h3
    refine wpC_seq (wpOps_all (s' := _) rfl (seq_go (wpC_cond (t := e.k == 2) rfl (fun h4 => ?_) (fun h4 => ?_))))
    · have h4 := eq_of_beq h4
      refine wpOps_n (s' := _) 3 rfl (wpOps_st (c := pl d) (c' := pl (upd d (3 + 5 * k) 2)) rfl rfl rfl rfl (by rw [pl_length]; omega) ?_ ?_)
      · rw [show 0 + 3 + k * 5 + 0 = 3 + 5 * k by omega]; exact splice_one d (by omega) 2
      exact ok _ _ (by simp [doneS, h4, hd, ← hk]) rfl rfl rfl
    have h4 : e.k ≠ 2 := by simpa using h4
    refine wpC_seq (wpOps_all (s' := _) rfl (seq_go (wpC_cond (t := e.k == 3) rfl (fun h5 => ?_) (fun h5 => ?_))))
    · have h5 := eq_of_beq h5
      refine wpOps_n (s' := _) 3 rfl (wpOps_st (c := pl d) (c' := pl (upd d (3 + 5 * k) 3)) rfl rfl rfl rfl (by rw [pl_length]; omega) ?_ ?_)
      · rw [show 0 + 3 + k * 5 + 0 = 3 + 5 * k by omega]; exact splice_one d (by omega) 3
      exact ok _ _ (by simp [doneS, h5, hd, ← hk]) rfl rfl rfl
    have h5 : e.k ≠ 3 := by simpa using h5
    refine wpC_seq (wpOps_all (s' := _) rfl (seq_go (wpC_cond (t := e.k == 4) rfl (fun h6 => ?_) (fun h6 => ?_))))
    · have h6 := eq_of_beq h6
      refine wpOps_n (s' := _) 4 rfl (wpOps_ld (v := .int .i64 (d 323)) rfl rfl ?_ ?_)
      · simp only [partL]; exact pl_get64 d (by omega)
      refine wpOps_n (s' := _) 2 rfl (wpOps_st (c := pl d) (c' := pl (upd d (3 + 5 * k) 4)) rfl rfl rfl rfl (by rw [pl_length]; omega) ?_ ?_)
      · exact (congrArg (fun o => splice (pl d) o [.int .i64 4]) (show 0 + 3 + k * 5 + 0 = 3 + 5 * k by omega)).trans (splice_one d (by omega) 4)
      refine wpOps_n (s' := _) 2 rfl (wpOps_st (c := pl (upd d (3 + 5 * k) 4)) (c' := pl (upd (upd d (3 + 5 * k) 4) (3 + 5 * k + 4) (d 323))) rfl rfl rfl rfl (by rw [pl_length]; omega) ?_ ?_)
      · exact (congrArg (fun o => splice (pl (upd d (3 + 5 * k) 4)) o [.int .i64 (d 323)]) (show 0 + 3 + k * 5 + 4 = 3 + 5 * k + 4 by omega)).trans (splice_one _ (by omega) _)
      have hdone : doneS c e = upd (upd d (3 + 5 * k) 4) (3 + 5 * k + 4) (d 323) := by
        have : d 323 = c 323 := by rw [← hd]; simp [upd]
        rw [this, ← hd, hk]; simp [doneS, h6]
      exact ok _ _ hdone rfl rfl rfl
    have h6 : e.k ≠ 4 := by simpa using h6
    refine wpC_seq (wpOps_all (s' := _) rfl (seq_go (wpC_cond (t := e.k == 5) rfl (fun h7 => ?_) (fun h7 => ?_))))
    · have h7 := eq_of_beq h7
      refine wpOps_n (s' := _) 3 rfl (wpOps_st (c := pl d) (c' := pl (setSlot d k 0 0 0 0 0)) rfl rfl rfl rfl (by rw [pl_length]; omega) ?_ ?_)
      · rw [show 0 + 3 + k * 5 = 3 + 5 * k by omega]; exact splice_slot d hk64 0 0 0 0 0
      exact ok _ _ (by simp [doneS, h7, hd, ← hk]) rfl rfl rfl
    have h7 : e.k ≠ 5 := by simpa using h7
    refine wpC_seq (wpOps_all (s' := _) rfl (seq_go (wpC_cond (t := e.k == 6) rfl (fun h8 => ?_) (fun h8 => ?_))))
    · have h8 := eq_of_beq h8
      refine wpOps_n (s' := _) 1 rfl (wpOps_ld (v := ringV d) rfl rfl (pl_ring d) ?_)
      refine wpOps_n (s' := _) 2 rfl (wpOps_call (callV (nextC hnext) rfl rfl rfl ?_))
      refine wpOps_n (s' := _) 1 rfl (wpOps_st (c := pl d) (c' := pl (nextS d e.ka e.kb)) rfl rfl rfl rfl (by rw [pl_length]; omega) (splice_ring d _ _ _ _ _ _ _) ?_)
      exact ok _ _ (by simp [doneS, h8, hd]) rfl rfl rfl
    · have h8 : e.k ≠ 6 := by simpa using h8
      omega
  · rintro s rfl
    refine wpC_seq (wpOps_ld (v := poolV (doneS c e)) rfl rfl (pl_all _) ?_)
    refine wpOps_st (c := expand zP) (c' := pl (doneS c e)) rfl rfl rfl (pl_length _) (by rw [zlen]; omega) (splice_zP _) ?_
    refine wpOps_all (s' := _) rfl (seq_go ?_)
    exact fin (doneS c e) 0 true _ (by simp [applyS, errS, h1, h2]) rfl rfl rfl
end Go.Rh

set_option linter.unusedSimpArgs false
set_option linter.unusedVariables false
set_option maxRecDepth 100000
set_option maxHeartbeats 8000000
namespace Go.Rh
def uu (l : List Int) : List Value := l.map fun x => .int .u64 x
theorem RingC {P : Program} (hc : codeOf P "roundhouse/cookie.Ring" = some c_cookie_Ring) (x a1 b1 a2 b2 a3 b3 : Int) :
    Env P "roundhouse/cookie.Ring" [.int .i64 x, .slice (some ⟨0, 0, none⟩) 3 3] [.cells (uu [a1, b1, a2, b2, a3, b3]) false]
      (Ans (.agg #[.int .i64 x, .int .u64 a1, .int .u64 b1, .int .u64 a2, .int .u64 b2, .int .u64 a3, .int .u64 b3]) [.cells (uu [a1, b1, a2, b2, a3, b3]) false]) := by
  refine Env.of hc ?_
  unfold wpF c_cookie_Ring
  refine wpOps_all (s' := _) rfl (seq_go ?_)
  refine wpOps_all (s' := _) rfl (seq_go ?_)
  refine wpOps_all (s' := _) rfl (seq_to [(0, .int .i64 x), (4, .pointer (some ⟨1, 0, none⟩)), (5, .pointer (some ⟨2, 0, none⟩))] [.cells (uu [a1, b1, a2, b2, a3, b3]) false, .cells [.int .i64 0, .int .u64 0, .int .u64 0, .int .u64 0, .int .u64 0, .int .u64 0, .int .u64 0] true, .cells (uu [a1, b1, a2, b2, a3, b3]) true] (by simp) rfl ⟨⟨rfl, rfl⟩, ⟨rfl, rfl⟩, ⟨rfl, rfl⟩, trivial⟩ rfl ?_)
  refine wpOps_all (s' := _) rfl (seq_go ?_)
  exact fin_ans [.agg #[.int .i64 x, .int .u64 a1, .int .u64 b1, .int .u64 a2, .int .u64 b2, .int .u64 a3, .int .u64 b3]] rfl rfl rfl rfl rfl
theorem NewC {P : Program} (hc : codeOf P "roundhouse/pool.New" = some c_pool_New) (hpl : codeOf P "roundhouse/pool.placed" = some c_pool_placed) (hring : codeOf P "roundhouse/cookie.Ring" = some c_cookie_Ring) (a p ka kb na nb : Int) :
    Env P "roundhouse/pool.New" [.int .i64 a, .int .i64 p, .agg #[.int .u64 ka, .int .u64 kb], .agg #[.int .u64 na, .int .u64 nb]] []
      (Ans (.tuple #[poolV (if placedS a p then newS a p ka kb na nb else zeroP), .int .i64 (if placedS a p then 0 else 14)]) []) := by
  refine Env.of hc ?_
  unfold wpF c_pool_New
  have fin : ∀ (d : Flat) (x : Int) (rw : Bool) (s : St), d = (if placedS a p then newS a p ka kb na nb else zeroP) → x = (if placedS a p then 0 else 14) → s.f 8 = .pointer (some ⟨2, 0, none⟩) → hf s.h 2 = some (.cells (pl d) rw) → s.f 9 = .int .i64 x →
      True ∧ ∃ l', resV s [.cell 8 (some 330), .tmp 9] = some l' ∧ (∀ v ∈ l', isTup v = false) ∧ (Ans (.tuple #[poolV (if placedS a p then newS a p ka kb na nb else zeroP), .int .i64 (if placedS a p then 0 else 14)]) [] (one l') s.h ∨ (vpf (one l') = true ∧ (∀ b ∈ s.h.take 0, blkf b = true) ∧ Ans (.tuple #[poolV (if placedS a p then newS a p ka kb na nb else zeroP), .int .i64 (if placedS a p then 0 else 14)]) [] (one l') (s.h.take 0))) := by
    intro d x rw s hd hx h4 hh h5
    subst hd; subst hx
    refine fin_ans [poolV _, .int .i64 _] (resV_pool h4 hh h5) ?_ rfl rfl rfl
    rw [List.all_cons, poolV_aggf]; rfl
  have hb : ([.cells (uu [ka, kb]) true, .cells (uu [na, nb]) true, .cells (expand zP) true] : List Blk).all (bbel 3) = true := by
    simp [bbel, pl_bel, uu, sbel, zP_pl]
  have hbld : ∀ (e' : Opd → Value) (h : Nat → Option Blk) (n : Nat), stepE (.bld [(324, .int .i64 0), (6, .int .u64 0)] []) e' h n = some (poolV zeroP, .no) := by
    intro e' h n
    show some (Value.agg (expand zP).toArray, Eff.no) = _
    rw [zP_pl]; rfl
  have hfill : fillL (expand zP) [(1, 1, .int .i64 a), (2, 1, .int .i64 p), (323, 7, .agg #[.int .i64 1, .int .u64 0, .int .u64 0, .int .u64 ka, .int .u64 kb, .int .u64 na, .int .u64 nb])] = some (pl (newS a p ka kb na nb)) := by
    rw [zP_pl]
    have e1 : splice (pl zeroP) 1 [.int .i64 a] = pl (upd zeroP 1 a) := splice_one _ (by omega) _
    have e2 : splice (pl (upd zeroP 1 a)) 2 [.int .i64 p] = pl (upd (upd zeroP 1 a) 2 p) := splice_one _ (by omega) _
    have e3 := splice_ring (upd (upd zeroP 1 a) 2 p) 1 0 0 ka kb na nb
    simp only [fillL, isTup, vcells, List.length_cons, List.length_nil, pl_length]
    simp only [e1, e2, pl_length]
    simp only [e3]
    simp
    refine pl_ext fun k hk => ?_
    simp only [upd, newS, zeroP]
    by_cases h1 : k = 1
    · subst h1; simp
    by_cases h2 : k = 2
    · subst h2; simp
    by_cases h3 : k = 323
    · subst h3; simp
    by_cases h4 : k = 326
    · subst h4; simp
    by_cases h5 : k = 327
    · subst h5; simp
    by_cases h6 : k = 328
    · subst h6; simp
    by_cases h7 : k = 329
    · subst h7; simp
    simp [h1, h2, h3, h4, h5, h6, h7]
  refine wpOps_all (s' := _) rfl (seq_to [(0, .int .i64 a), (1, .int .i64 p), (6, .pointer (some ⟨0, 0, none⟩)), (7, .pointer (some ⟨1, 0, none⟩)), (8, .pointer (some ⟨2, 0, none⟩))] [.cells (uu [ka, kb]) true, .cells (uu [na, nb]) true, .cells (expand zP) true] (Nat.zero_le _) rfl ⟨⟨rfl, rfl⟩, ⟨rfl, rfl⟩, ⟨rfl, rfl⟩, ⟨rfl, rfl⟩, ⟨rfl, rfl⟩, trivial⟩ hb ?_)
  refine wpC_seq (wpC_seq (wpOps_n (s' := _) 2 rfl (wpOps_call (callV (placedC hpl a p) rfl rfl rfl ?_))))
  refine wpOps_all (s' := _) rfl (seq_go (wpC_cond (t := !(placedS a p)) rfl (fun h1 => ?_) (fun h1 => ?_)))
  · have h1 : placedS a p = false := by simpa using h1
    refine wpC_seq (wpOps_step (v := poolV zeroP) (e := .no) rfl (hbld _ _ _) ?_)
    refine wpOps_st (c := expand zP) (c' := pl zeroP) rfl rfl rfl (pl_length _) (by rw [zlen]; omega) (splice_zP _) ?_
    refine wpOps_all (s' := _) rfl (seq_go ?_)
    exact fin zeroP 14 true _ (by simp [h1]) (by simp [h1]) rfl rfl rfl
  · have h1 : placedS a p = true := by simpa using h1
    refine seq_to [(0, .int .i64 a), (1, .int .i64 p), (6, .pointer (some ⟨0, 0, none⟩)), (7, .pointer (some ⟨1, 0, none⟩)), (8, .pointer (some ⟨2, 0, none⟩))] [.cells (uu [ka, kb]) true, .cells (uu [na, nb]) true, .cells (expand zP) true] (Nat.zero_le _) rfl ⟨⟨rfl, rfl⟩, ⟨rfl, rfl⟩, ⟨rfl, rfl⟩, ⟨rfl, rfl⟩, ⟨rfl, rfl⟩, trivial⟩ hb ?_
    refine wpC_seq (wpOps_n (s' := _) 6 rfl (wpOps_call (callRS (pre := [.int .i64 1]) (c := uu [0, 0, ka, kb, na, nb]) 3 (RingC hring 1 0 0 ka kb na nb) rfl rfl rfl rfl rfl ?_)))
    refine wpOps_step (v := poolV (newS a p ka kb na nb)) (e := .no) rfl ?_ ?_
    · show (match fillL (expand zP) [(1, 1, .int .i64 a), (2, 1, .int .i64 p), (323, 7, .agg #[.int .i64 1, .int .u64 0, .int .u64 0, .int .u64 ka, .int .u64 kb, .int .u64 na, .int .u64 nb])] with
        | some c => some (Value.agg c.toArray, Eff.no)
        | none => none) = _
      rw [hfill]; rfl
    refine wpOps_st (c := expand zP) (c' := pl (newS a p ka kb na nb)) rfl rfl rfl (pl_length _) (by rw [zlen]; omega) (splice_zP _) ?_
    refine wpOps_all (s' := _) rfl (seq_go ?_)
    exact fin _ 0 true _ (by simp [h1]) (by simp [h1]) rfl rfl rfl
end Go.Rh

set_option linter.unusedSimpArgs false
set_option linter.unusedVariables false
set_option maxRecDepth 100000
namespace Go.Rh
theorem pl_r (c : Flat) {o : Nat} (i : Nat) (ho : o = i) (h : i < 324) : partL none (pl c) o = some (.int .i64 (c i)) := by subst ho; exact pl_get64 c h
theorem pl_rU (c : Flat) {o : Nat} (i : Nat) (ho : o = i) (h : 324 ≤ i) (h2 : i < 330) : partL none (pl c) o = some (.int .u64 (c i)) := by
  subst ho; show (pl c)[o]? = _; rw [pl_get c h2]; simp [pk, Nat.not_lt.2 h]
theorem pl_rS (c : Flat) {o : Nat} (k : Nat) (ho : o = 3 + 5 * k) (h : k < 64) : partL (some 5) (pl c) o = some (slotV c k) := by subst ho; exact pl_slot c h
theorem pl_rK (c : Flat) {o : Nat} (ho : o = 324 ∨ o = 326 ∨ o = 328) : partL (some 2) (pl c) o = some (.agg #[.int .u64 (c o), .int .u64 (c (o + 1))]) := by
  unfold partL
  simp only []
  rw [if_pos (by rw [pl_length]; omega)]
  rcases ho with rfl | rfl | rfl <;> rfl
def slotsV (c : Flat) : Value := .agg ⟨slotsL c⟩
theorem slotsV_scl (c : Flat) : (slotsL c).all sclf = true := take_scl (drop_scl (pl_scl c) 3) 320
theorem slotsV_vpf (c : Flat) : vpf (slotsV c) = true := slotsV_scl c
theorem slotsV_aggf (c : Flat) : aggf (slotsV c) = true := slotsV_scl c
theorem pl_rA (c : Flat) : partL (some 320) (pl c) 3 = some (slotsV c) := by
  unfold partL
  simp only []
  rw [if_pos (by rw [pl_length]; omega)]
  rfl
theorem slots_r (c : Flat) {o : Nat} (k : Nat) (ho : o = 5 * k) (h : k < 64) : partL (some 5) (slotsL c) o = some (slotV c k) := by
  subst ho; rw [Nat.mul_comm]; exact slotsL_slot c h
theorem pl_le {c : Flat} {m : Nat} (h : m ≤ 330) : m ≤ (pl c).length := by rw [pl_length]; exact h
theorem pl_w (c : Flat) {o : Nat} (i : Nat) (v : Int) (ho : o = i) (h : i < 324) : splice (pl c) o [.int .i64 v] = pl (upd c i v) := by subst ho; exact splice_one c h v
theorem pl_wS (c : Flat) {o : Nat} (k : Nat) (x0 x1 x2 x3 x4 : Int) (ho : o = 3 + 5 * k) (h : k < 64) : splice (pl c) o [.int .i64 x0, .int .i64 x1, .int .i64 x2, .int .i64 x3, .int .i64 x4] = pl (setSlot c k x0 x1 x2 x3 x4) := by subst ho; exact splice_slot c h x0 x1 x2 x3 x4
def eqN (n : Nat) (a b : Flat) : Bool := decide (∀ k, k < n → a k = b k)
def eqP (a b : Flat) : Bool := eqN 330 a b
theorem eqP_self (a : Flat) : eqP a a = true := by simp [eqP, eqN]
theorem eqP_iff {a b : Flat} : eqP a b = true ↔ ∀ k, k < 330 → a k = b k := by simp [eqP, eqN]
theorem eqP_plF (a b : Flat) : ∀ n i, eqK (List.replicate n .i) (plF a i n) (plF b i n) = some (decide (∀ k, k < n → a (i + k) = b (i + k)))
  | 0, i => by simp [eqK, plF]
  | n + 1, i => by
    simp only [List.replicate_succ, plF, eqK, eq1K, if_true, eqP_plF a b n (i + 1)]
    congr 1
    rw [Bool.eq_iff_iff]
    simp only [Bool.and_eq_true, beq_iff_eq, decide_eq_true_eq]
    constructor
    · rintro ⟨h1, h2⟩ k hk
      cases k with
      | zero => exact h1
      | succ k => have := h2 k (by omega); rwa [show i + 1 + k = i + (k + 1) by omega] at this
    · intro h
      refine ⟨h 0 (by omega), fun k hk => ?_⟩
      have := h (k + 1) (by omega)
      rwa [show i + (k + 1) = i + 1 + k by omega] at this
theorem eqP_eqK (a b : Flat) : eqK (unpackK [(330, .i)]) (pl a) (pl b) = some (eqP a b) := by
  have h := eqP_plF a b 330 0
  have h : eqK (List.replicate 330 LK.i) (plF a 0 330) (plF b 0 330) = some (eqP a b) := by rw [h]; simp only [Nat.zero_add]; rfl
  have e : unpackK [(330, .i)] = List.replicate 330 LK.i := by simp [unpackK]
  rw [e]; exact h
theorem eqP_run {x y : Value} (a b : Flat) (hx : x = poolV a) (hy : y = poolV b) : x = .agg ⟨pl a⟩ ∧ y = .agg ⟨pl b⟩ ∧ eqK (unpackK [(330, .i)]) (pl a) (pl b) = some (eqP a b) := ⟨hx, hy, eqP_eqK a b⟩
theorem eqP_runR {x y : Value} (a : Flat) (hx : x = poolV a) (hy : y = poolV a) : x = .agg ⟨pl a⟩ ∧ y = .agg ⟨pl a⟩ ∧ eqK (unpackK [(330, .i)]) (pl a) (pl a) = some true := ⟨hx, hy, by rw [eqP_eqK, eqP_self]⟩
theorem bld_zP : fillL (expand zP) [] = some (pl zeroP) := congrArg some zP_pl
end Go.Rh

set_option linter.unusedSimpArgs false
set_option linter.unusedVariables false
set_option maxRecDepth 100000
set_option maxHeartbeats 8000000
namespace Go.Rh
/-- The first of n numbers from i on. -/
def findR (h : Nat → Bool) : Nat → Nat → Int × Bool
  | _, 0 => (0, false)
  | i, n + 1 => if h i then ((i : Int), true) else findR h (i + 1) n
def hitS (c : Flat) (a p : Int) (k : Nat) : Bool := !([0, 4].contains (c (3 + 5 * k))) && (c (3 + 5 * k + 1) == a && (c (3 + 5 * k + 2) == p && true))
theorem FindC {P : Program} (hc : codeOf P "roundhouse/pool.Find" = some c_pool_Find) (hmay : codeOf P "roundhouse/pool.may" = some c_pool_may) (c : Flat) (a p : Int) :
    Env P "roundhouse/pool.Find" [poolV c, .int .i64 a, .int .i64 p] [] (Ans (.tuple #[.int .i64 (findR (hitS c a p) 0 64).1, .bool (findR (hitS c a p) 0 64).2]) []) := by
  refine Env.of hc ?_
  unfold wpF c_pool_Find
  have fin : ∀ (x : Int) (b : Bool) (s : St), findR (hitS c a p) 0 64 = (x, b) → s.f 6 = .int .i64 x → s.f 7 = .bool b →
      True ∧ ∃ l', resV s [.tmp 6, .tmp 7] = some l' ∧ (∀ v ∈ l', isTup v = false) ∧ (Ans (.tuple #[.int .i64 (findR (hitS c a p) 0 64).1, .bool (findR (hitS c a p) 0 64).2]) [] (one l') s.h ∨ (vpf (one l') = true ∧ (∀ b ∈ s.h.take 0, blkf b = true) ∧ Ans (.tuple #[.int .i64 (findR (hitS c a p) 0 64).1, .bool (findR (hitS c a p) 0 64).2]) [] (one l') (s.h.take 0))) := by
    intro x b s h h6 h7
    refine fin_ans [.int .i64 x, .bool b] (by simp [resV, h6, h7]) rfl (by rw [h]; rfl) rfl rfl
  refine wpOps_all (s' := _) rfl (seq_go ?_)
  refine wpC_seq (wpC_seq (wpOps_all (s' := _) rfl (seq_go ?_)))
  refine ⟨fun m s => ∃ i : Nat, i ≤ 64 ∧ m = 64 - i ∧ findR (hitS c a p) i (64 - i) = findR (hitS c a p) 0 64 ∧ s = ⟨reg [(1, .int .i64 a), (2, .int .i64 p), (3, .pointer (some ⟨0, 0, none⟩)), (11, .agg ⟨slotsL c⟩), (12, .int .i64 i)], [.cells (pl c) true]⟩,
    ⟨64, _, Wk.to (l := [(1, .int .i64 a), (2, .int .i64 p), (3, .pointer (some ⟨0, 0, none⟩)), (11, .agg ⟨slotsL c⟩), (12, .int .i64 (0 : Nat))]) (hs := [.cells (pl c) true]) (Nat.zero_le _) rfl ⟨⟨rfl, rfl⟩, ⟨rfl, rfl⟩, ⟨rfl, rfl⟩, ⟨rfl, bel_of_scl (take_scl (drop_scl (pl_scl c) 3) 320)⟩, ⟨rfl, rfl⟩, trivial⟩ (by simp [bbel, pl_bel]), 0, Nat.zero_le _, rfl, rfl, rfl⟩, ?_⟩
  rintro m s ⟨i, hi, rfl, hf, rfl⟩
  refine wpOps_all (s' := _) rfl (seq_go ?_)
  refine wpC_seq (wpC_cond (t := decide ((i : Int) < 64)) rfl (fun ht => ?_) (fun ht => ?_))
  · refine seq_go ?_
    have ht : i < 64 := by have := of_decide_eq_true ht; omega
    have hstep : findR (hitS c a p) i (64 - i) = if hitS c a p i then ((i : Int), true) else findR (hitS c a p) (i + 1) (64 - (i + 1)) := by
      rw [show 64 - i = (64 - (i + 1)) + 1 by omega]; rfl
    have next : hitS c a p i = false → ∀ s : St, s.f 1 = .int .i64 a → s.f 2 = .int .i64 p → s.f 3 = .pointer (some ⟨0, 0, none⟩) → s.f 11 = .agg ⟨slotsL c⟩ → s.f 12 = .int .i64 (IntKind.i64.wrap ((i : Int) + 1)) → s.h.take 1 = [.cells (pl c) true] →
        ∃ m s0, m < 64 - i ∧ Wk 0 s s0 ∧ ∃ i : Nat, i ≤ 64 ∧ m = 64 - i ∧ findR (hitS c a p) i (64 - i) = findR (hitS c a p) 0 64 ∧ s0 = ⟨reg [(1, .int .i64 a), (2, .int .i64 p), (3, .pointer (some ⟨0, 0, none⟩)), (11, .agg ⟨slotsL c⟩), (12, .int .i64 i)], [.cells (pl c) true]⟩ := by
      intro hto s h1 h2 h3 h11 h12 hh
      refine ⟨64 - (i + 1), _, by omega, Wk.to (l := [(1, .int .i64 a), (2, .int .i64 p), (3, .pointer (some ⟨0, 0, none⟩)), (11, .agg ⟨slotsL c⟩), (12, .int .i64 (i + 1 : Nat))]) (hs := [.cells (pl c) true]) (Nat.zero_le _) hh ⟨⟨h1, rfl⟩, ⟨h2, rfl⟩, ⟨h3, rfl⟩, ⟨h11, bel_of_scl (take_scl (drop_scl (pl_scl c) 3) 320)⟩, ⟨?_, rfl⟩, trivial⟩ (by simp [bbel, pl_bel]), i + 1, by omega, rfl, ?_, rfl⟩
      · rw [h12, w64 (by omega) (by omega)]; rfl
      · rw [← hf, hstep, hto]; rfl
    refine wpC_seq (wpC_block (wpC_seq (wpOps_n (s' := _) 1 rfl (wpOps_ixA (n := i) (v := slotV c i) rfl rfl (by omega) (slotsL_slot c ht) ?_))))
    refine wpOps_all (s' := _) rfl (seq_to [(1, .int .i64 a), (2, .int .i64 p), (3, .pointer (some ⟨0, 0, none⟩)), (8, .int .i64 i), (9, .pointer (some ⟨1, 0, none⟩)), (11, .agg ⟨slotsL c⟩), (12, .int .i64 i)] [.cells (pl c) true, .cells (sL c i) true] (Nat.zero_le _) rfl ⟨⟨rfl, rfl⟩, ⟨rfl, rfl⟩, ⟨rfl, rfl⟩, ⟨rfl, rfl⟩, ⟨rfl, rfl⟩, ⟨rfl, bel_of_scl (take_scl (drop_scl (pl_scl c) 3) 320)⟩, ⟨rfl, rfl⟩, trivial⟩ (by simp [bbel, pl_bel, sL, sbel]) ?_)
    refine wpC_seq (wpOps_n (s' := _) 2 rfl (wpOps_call (may_call (x0 := c (3 + 5 * i)) (x1 := c (3 + 5 * i + 1)) hmay [0, 4] 2 (by decide) rfl rfl ?_)))
    refine wpOps_n (s' := _) 2 rfl ?_
    refine wpOps_split (b := !([0, 4].contains (c (3 + 5 * i)))) 20 rfl (fun h1 => ?_) (fun h1 => ?_)
    · refine wpOps_all (s' := _) rfl (seq_go (wpC_cond (t := (c (3 + 5 * i + 1) == a && (c (3 + 5 * i + 2) == p && true))) rfl (fun h2 => ?_) (fun h2 => ?_)))
      · refine wpOps_all (s' := _) rfl (seq_go ?_)
        refine fin i true _ ?_ rfl rfl
        rw [← hf, hstep]; simp only [hitS, h1, h2, Bool.and_self, if_true]
      · refine seq_go (wpOps_all (s' := _) rfl ?_)
        refine next ?_ _ rfl rfl rfl rfl rfl rfl
        simp only [hitS, h2, Bool.and_false]
    · refine wpOps_all (s' := _) rfl (seq_go (wpC_cond (t := false) rfl (fun h => by cases h) (fun h2 => ?_)))
      refine seq_go (wpOps_all (s' := _) rfl ?_)
      refine next ?_ _ rfl rfl rfl rfl rfl rfl
      simp only [hitS, h1, Bool.false_and]
  · refine seq_go (wpOps_all (s' := _) rfl (seq_go ?_))
    have ht : ¬ i < 64 := by have := of_decide_eq_false ht; omega
    refine fin 0 false _ ?_ rfl rfl
    rw [← hf, show 64 - i = 0 by omega]; rfl
end Go.Rh

set_option linter.unusedSimpArgs false
set_option linter.unusedVariables false
set_option maxRecDepth 100000
set_option maxHeartbeats 8000000
namespace Go.Rh
def allS : Flat → List Ent → Nat → Flat × Nat × Int
  | c, [], i => (c, i, 0)
  | c, e :: r, i => if (applyS c e).2 = 0 then allS (applyS c e).1 r (i + 1) else (c, i, (applyS c e).2)
structure Codes (P : Program) : Prop where
  apply : codeOf P "roundhouse/pool.Apply" = some c_pool_Apply
  may : codeOf P "roundhouse/pool.may" = some c_pool_may
  held : codeOf P "roundhouse/pool.held" = some c_pool_held
  fits : codeOf P "roundhouse/pool.fits" = some c_pool_fits
  check : codeOf P "roundhouse/pool.Check" = some c_pool_Check
  placed : codeOf P "roundhouse/pool.placed" = some c_pool_placed
  next : codeOf P "roundhouse/cookie.Next" = some c_cookie_Next
theorem Codes.applyC {P : Program} (H : Codes P) (c : Flat) (e : Ent) : Env P "roundhouse/pool.Apply" [poolV c, entV e] [] (Ans (.tuple #[poolV (applyS c e).1, .int .i64 (applyS c e).2]) []) :=
  ApplyC H.apply H.may H.held H.fits H.check H.placed H.next c e
theorem AllC {P : Program} (hc : codeOf P "roundhouse/pool.All" = some c_pool_All) (H : Codes P) (c : Flat) (es : List Ent) (cs : List Value) (o cap : Nat) (hcs : cs.all sclf = true) (hes : ∀ (i : Nat) e, es[i]? = some e → partL (some 7) cs (o + i * 7) = some (entV e)) (hn : es.length ≤ 1000000) :
    Env P "roundhouse/pool.All" [poolV c, .slice (some ⟨0, o, none⟩) es.length cap] [.cells cs false] (Ans (.tuple #[poolV (allS c es 0).1, .int .i64 (allS c es 0).2.1, .int .i64 (allS c es 0).2.2]) [.cells cs false]) := by
  refine Env.of hc ?_
  unfold wpF c_pool_All
  have hblk : ([.cells cs false] : List Blk).all blkf = true := by simpa [blkf] using hcs
  have fin : ∀ (d : Flat) (n : Nat) (x : Int) (s : St), allS c es 0 = (d, n, x) → s.f 4 = .pointer (some ⟨2, 0, none⟩) → hf s.h 2 = some (.cells (pl d) true) → s.f 5 = .int .i64 n → s.f 6 = .int .i64 x → s.h.take 1 = [.cells cs false] →
      True ∧ ∃ l', resV s [.cell 4 (some 330), .tmp 5, .tmp 6] = some l' ∧ (∀ v ∈ l', isTup v = false) ∧ (Ans (.tuple #[poolV (allS c es 0).1, .int .i64 (allS c es 0).2.1, .int .i64 (allS c es 0).2.2]) [.cells cs false] (one l') s.h ∨ (vpf (one l') = true ∧ (∀ b ∈ s.h.take 1, blkf b = true) ∧ Ans (.tuple #[poolV (allS c es 0).1, .int .i64 (allS c es 0).2.1, .int .i64 (allS c es 0).2.2]) [.cells cs false] (one l') (s.h.take 1))) := by
    intro d n x s hd h4 hh h5 h6 ht
    refine fin_ans [poolV d, .int .i64 n, .int .i64 x] ?_ ?_ (by rw [hd]; rfl) ht hblk
    · simp only [resV, ldV, h4, hh, pl_all, h5, h6, Option.map_some]
    · rw [List.all_cons, poolV_aggf]; rfl
  have hb3 : ∀ d : Flat, ([.cells cs false, .cells (pl d) true, .cells (expand zP) true] : List Blk).all (bbel 3) = true := by
    intro d; simp [bbel, pl_bel, zP_pl, bel_of_scl hcs]
  refine wpOps_all (s' := _) rfl (seq_go ?_)
  refine wpC_seq (wpC_seq (wpOps_all (s' := _) rfl (seq_go ?_)))
  refine ⟨fun m s => ∃ (i : Nat) (d : Flat), i ≤ es.length ∧ m = es.length - i ∧ allS d (es.drop i) i = allS c es 0 ∧ s = ⟨reg [(1, .slice (some ⟨0, o, none⟩) es.length cap), (2, .pointer (some ⟨1, 0, none⟩)), (4, .pointer (some ⟨2, 0, none⟩)), (11, .slice (some ⟨0, o, none⟩) es.length cap), (12, .int .i64 es.length), (13, .int .i64 i)], [.cells cs false, .cells (pl d) true, .cells (expand zP) true]⟩,
    ⟨es.length, _, Wk.to (l := [(1, .slice (some ⟨0, o, none⟩) es.length cap), (2, .pointer (some ⟨1, 0, none⟩)), (4, .pointer (some ⟨2, 0, none⟩)), (11, .slice (some ⟨0, o, none⟩) es.length cap), (12, .int .i64 es.length), (13, .int .i64 (0 : Nat))]) (hs := [.cells cs false, .cells (pl c) true, .cells (expand zP) true]) (by simp) rfl ⟨⟨rfl, rfl⟩, ⟨rfl, rfl⟩, ⟨rfl, rfl⟩, ⟨rfl, rfl⟩, ⟨rfl, rfl⟩, ⟨rfl, rfl⟩, trivial⟩ (hb3 c), 0, c, Nat.zero_le _, rfl, rfl, rfl⟩, ?_⟩
  rintro m s ⟨i, d, hi, rfl, hf, rfl⟩
  refine wpOps_all (s' := _) rfl (seq_go ?_)
  refine wpC_seq (wpC_cond (t := decide ((i : Int) < (es.length : Int))) rfl (fun ht => ?_) (fun ht => ?_))
  · have ht : i < es.length := by have := of_decide_eq_true ht; omega
    refine seq_go ?_
    obtain ⟨e, he⟩ : ∃ e, es[i]? = some e := ⟨es[i], by simp [ht]⟩
    have hdrop : es.drop i = e :: es.drop (i + 1) := by
      rw [List.drop_eq_getElem_cons ht]
      have : es[i]? = some es[i] := by simp [ht]
      rw [he] at this; rw [Option.some.inj this]
    refine wpC_seq (wpC_block (wpC_seq (wpOps_n (s' := _) 1 rfl (wpOps_iadS (n := i) rfl rfl (by omega) (wpOps_ld (v := entV e) rfl rfl (hes i e he) ?_)))))
    refine wpOps_all (s' := _) rfl (seq_to [(1, .slice (some ⟨0, o, none⟩) es.length cap), (2, .pointer (some ⟨1, 0, none⟩)), (4, .pointer (some ⟨2, 0, none⟩)), (7, .int .i64 i), (8, .pointer (some ⟨3, 0, none⟩)), (11, .slice (some ⟨0, o, none⟩) es.length cap), (12, .int .i64 es.length), (13, .int .i64 i)] [.cells cs false, .cells (pl d) true, .cells (expand zP) true, .cells (eL e) true] (by simp) rfl ⟨⟨rfl, rfl⟩, ⟨rfl, rfl⟩, ⟨rfl, rfl⟩, ⟨rfl, rfl⟩, ⟨rfl, rfl⟩, ⟨rfl, rfl⟩, ⟨rfl, rfl⟩, ⟨rfl, rfl⟩, trivial⟩ (by simp [bbel, pl_bel, zP_pl, bel_of_scl hcs, eL, sbel]) ?_)
    generalize hq : applyS d e = q
    have hC := H.applyC d e
    rw [hq] at hC
    refine wpC_seq (wpOps_ld (v := poolV d) rfl rfl (pl_all d) ?_)
    refine wpOps_n (s' := _) 1 rfl (wpOps_call (callV hC rfl ?_ ?_ ?_))
    · rw [List.all_cons, poolV_vpf]; rfl
    · show (([poolV q.1, .int .i64 q.2] : List Value).all aggf) = true
      rw [List.all_cons, poolV_aggf]; rfl
    refine wpOps_n (s' := _) 4 rfl (wpOps_st (c := expand zP) (c' := pl q.1) rfl rfl rfl (pl_length _) (by rw [zlen]; omega) (splice_zP _) ?_)
    refine wpOps_all (s' := _) rfl (seq_to [(1, .slice (some ⟨0, o, none⟩) es.length cap), (2, .pointer (some ⟨1, 0, none⟩)), (4, .pointer (some ⟨2, 0, none⟩)), (7, .int .i64 i), (9, .pointer (some ⟨4, 0, none⟩)), (10, .int .i64 q.2), (11, .slice (some ⟨0, o, none⟩) es.length cap), (12, .int .i64 es.length), (13, .int .i64 i)] [.cells cs false, .cells (pl d) true, .cells (expand zP) true, .cells (eL e) true, .cells (pl q.1) true] (by simp) rfl ⟨⟨rfl, rfl⟩, ⟨rfl, rfl⟩, ⟨rfl, rfl⟩, ⟨rfl, rfl⟩, ⟨rfl, rfl⟩, ⟨rfl, rfl⟩, ⟨rfl, rfl⟩, ⟨rfl, rfl⟩, ⟨rfl, rfl⟩, trivial⟩ (by simp [bbel, pl_bel, zP_pl, bel_of_scl hcs, eL, sbel]) ?_)
    refine wpC_seq (wpC_seq (wpOps_all (s' := _) rfl (seq_go (wpC_cond (t := q.2 != 0) rfl (fun h1 => ?_) (fun h1 => ?_)))))
    · have h1 : q.2 ≠ 0 := by simpa using h1
      refine wpC_seq (wpOps_ld (v := poolV d) rfl rfl (pl_all d) ?_)
      refine wpOps_n (s' := _) 2 rfl (wpOps_st (c := expand zP) (c' := pl d) rfl rfl rfl (pl_length _) (by rw [zlen]; omega) (splice_zP _) ?_)
      refine wpOps_all (s' := _) rfl (seq_go ?_)
      refine fin d i q.2 _ ?_ rfl rfl rfl rfl rfl
      rw [← hf, hdrop]; simp [allS, hq, h1]
    · have h1 : q.2 = 0 := by simpa using h1
      refine seq_go (wpOps_ld (v := poolV q.1) rfl rfl (pl_all q.1) ?_)
      refine wpOps_st (c := pl d) (c' := pl q.1) rfl rfl rfl (pl_length _) (by rw [pl_length]; omega) (splice_pl0 _ _) (seq_go ?_)
      refine wpOps_all (s' := _) rfl ?_
      refine ⟨es.length - (i + 1), _, by omega, Wk.to (l := [(1, .slice (some ⟨0, o, none⟩) es.length cap), (2, .pointer (some ⟨1, 0, none⟩)), (4, .pointer (some ⟨2, 0, none⟩)), (11, .slice (some ⟨0, o, none⟩) es.length cap), (12, .int .i64 es.length), (13, .int .i64 (i + 1 : Nat))]) (hs := [.cells cs false, .cells (pl q.1) true, .cells (expand zP) true]) (by simp) rfl ⟨⟨rfl, rfl⟩, ⟨rfl, rfl⟩, ⟨rfl, rfl⟩, ⟨rfl, rfl⟩, ⟨rfl, rfl⟩, ⟨?_, rfl⟩, trivial⟩ (hb3 q.1), i + 1, q.1, by omega, rfl, ?_, rfl⟩
      · exact congrArg (Value.int .i64) (w64 (by omega) (by omega))
      · rw [← hf, hdrop]; simp [allS, hq, h1]
  · have ht : ¬ i < es.length := by have := of_decide_eq_false ht; omega
    have : i = es.length := by omega
    subst this
    refine seq_go ?_
    refine wpC_seq (wpOps_ld (v := poolV d) rfl rfl (pl_all d) ?_)
    refine wpOps_n (s' := _) 2 rfl (wpOps_st (c := expand zP) (c' := pl d) rfl rfl rfl (pl_length _) (by rw [zlen]; omega) (splice_zP _) ?_)
    refine wpOps_all (s' := _) rfl (seq_go ?_)
    refine fin d es.length 0 _ ?_ rfl rfl rfl rfl rfl
    rw [← hf, List.drop_length]; rfl
end Go.Rh

set_option linter.all false
set_option maxRecDepth 100000
namespace Go.Rh
def c_ref6_New : IFunc :=
  ⟨25, [.cell 8 (some 330), .tmp 9],
  (.seq (.reg [⟨(some 6), .box (.t 2), none⟩,
     ⟨(some 7), .box (.t 3), none⟩,
     ⟨(some 8), .new [(324, (.int .i64 0)), (6, (.int .u64 0))], none⟩,
     ⟨(some 9), .mv (.c (.int .i64 0)), none⟩])
  (.seq (.seq (.reg [⟨(some 10), .mv (.t 0), none⟩,
      ⟨(some 11), .call "roundhouse/roundhouseref6.out" [(.t 10), (.c (.int .i64 0)), (.c (.int .i64 4294967295))], none⟩,
      ⟨(some 12), .mv (.t 11), none⟩,
      ⟨(some 13), .mv (.t 1), some (12, false)⟩,
      ⟨(some 14), .call "roundhouse/roundhouseref6.out" [(.t 13), (.c (.int .i64 0)), (.c (.int .i64 65535))], some (12, false)⟩,
      ⟨(some 15), .pick (.t 12) (.c (.bool true)) (.t 14), none⟩])
   (.cond (.t 15)
     (.seq (.reg [⟨(some 16), .bld [(324, (.int .i64 0)), (6, (.int .u64 0))] [], none⟩,
        ⟨none, .st 330 (.t 8) (.t 16), none⟩,
        ⟨(some 9), .mv (.c (.int .i64 14)), none⟩])
     .ret)
     .skip))
  (.seq (.reg [⟨(some 17), .mv (.t 0), none⟩,
     ⟨(some 18), .mv (.t 1), none⟩,
     ⟨(some 19), .bld [(2, (.int .u64 0))] [], none⟩,
     ⟨(some 20), .ld (some 2) (.t 6), none⟩,
     ⟨(some 21), .ld (some 2) (.t 7), none⟩,
     ⟨(some 22), .bsl [(2, (.int .u64 0))] 2 3 [(0, 2, (.t 19)), (2, 2, (.t 20)), (4, 2, (.t 21))], none⟩,
     ⟨(some 23), .call "roundhouse/roundhouseref5.Ring" [(.c (.int .i64 1)), (.t 22)], none⟩,
     ⟨(some 24), .bld [(324, (.int .i64 0)), (6, (.int .u64 0))] [(1, 1, (.t 17)), (2, 1, (.t 18)), (323, 7, (.t 23))], none⟩,
     ⟨none, .st 330 (.t 8) (.t 24), none⟩,
     ⟨(some 9), .mv (.c (.int .i64 0)), none⟩])
  .ret)))⟩
def c_ref6_Apply : IFunc :=
  ⟨85, [.cell 4 (some 330), .tmp 5],
  (.seq (.reg [⟨(some 2), .box (.t 0), none⟩,
     ⟨(some 3), .box (.t 1), none⟩,
     ⟨(some 4), .new [(324, (.int .i64 0)), (6, (.int .u64 0))], none⟩,
     ⟨(some 5), .mv (.c (.int .i64 0)), none⟩])
  (.seq (.seq (.reg [⟨(some 8), .ld (some 7) (.t 3), none⟩,
      ⟨(some 9), .call "roundhouse/roundhouseref6.Check" [(.t 8)], none⟩,
      ⟨(some 6), .mv (.t 9), none⟩])
   (.seq (.reg [⟨(some 10), .mv (.t 6), none⟩,
      ⟨(some 11), .bin .neq (.t 10) (.c (.int .i64 0)), none⟩])
   (.cond (.t 11)
     (.seq (.reg [⟨(some 12), .bld [(324, (.int .i64 0)), (6, (.int .u64 0))] [], none⟩,
        ⟨(some 13), .mv (.t 6), none⟩,
        ⟨none, .st 330 (.t 4) (.t 12), none⟩,
        ⟨(some 5), .mv (.t 13), none⟩])
     .ret)
     .skip)))
  (.seq (.seq (.reg [⟨(some 14), .ld (some 330) (.t 2), none⟩,
      ⟨(some 15), .ld (some 7) (.t 3), none⟩,
      ⟨(some 16), .call "roundhouse/roundhouseref6.bad" [(.t 14), (.t 15)], none⟩])
   (.cond (.t 16)
     (.seq (.reg [⟨(some 17), .bld [(324, (.int .i64 0)), (6, (.int .u64 0))] [], none⟩,
        ⟨none, .st 330 (.t 4) (.t 17), none⟩,
        ⟨(some 5), .mv (.c (.int .i64 12)), none⟩])
     .ret)
     .skip))
  (.seq (.seq (.dreg [⟨(some 18), .fad 0 (.t 3), none⟩,
      ⟨(some 19), .ld none (.t 18), none⟩,
      ⟨(some 20), .bin .eql (.t 19) (.c (.int .i64 5)), none⟩,
      ⟨(some 21), .mv (.t 20), none⟩,
      ⟨(some 22), .fad 323 (.t 2), some (21, true)⟩,
      ⟨(some 23), .fad 0 (.t 22), some (21, true)⟩,
      ⟨(some 24), .ld none (.t 23), some (21, true)⟩,
      ⟨(some 25), .fad 1 (.t 3), some (21, true)⟩,
      ⟨(some 26), .ld none (.t 25), some (21, true)⟩,
      ⟨(some 27), .fad 3 (.t 2), some (21, true)⟩,
      ⟨(some 28), .iadA 64 5 (.t 27) (.t 26), some (21, true)⟩,
      ⟨(some 29), .fad 4 (.t 28), some (21, true)⟩,
      ⟨(some 30), .ld none (.t 29), some (21, true)⟩,
      ⟨(some 31), .bin .add (.t 30) (.c (.int .i64 3)), some (21, true)⟩,
      ⟨(some 32), .bin .lss (.t 24) (.t 31), some (21, true)⟩,
      ⟨(some 33), .pick (.t 21) (.t 32) (.c (.bool false)), none⟩] [[], [0], [1, 0], [2, 1, 0], [3, 2, 1, 0], [4, 3, 2, 1, 0], [5, 4, 3, 2, 1, 0], [3, 2, 1, 0], [7, 3, 2, 1, 0], [3, 2, 1, 0], [9, 3, 2, 1, 0, 8, 7], [10, 9, 3, 2, 1, 0, 8, 7], [11, 10, 9, 3, 2, 1, 0, 8, 7], [12, 11, 10, 9, 3, 2, 1, 0, 8, 7], [6, 5, 4, 3, 2, 1, 0, 13, 12, 11, 10, 9, 8, 7], [3, 2, 1, 0, 14, 6, 5, 4, 13, 12, 11, 10, 9, 8, 7]])
   (.cond (.t 33)
     (.seq (.reg [⟨(some 34), .bld [(324, (.int .i64 0)), (6, (.int .u64 0))] [], none⟩,
        ⟨none, .st 330 (.t 4) (.t 34), none⟩,
        ⟨(some 5), .mv (.c (.int .i64 13)), none⟩])
     .ret)
     .skip))
  (.seq (.reg [⟨(some 35), .fad 0 (.t 2), none⟩,
     ⟨(some 36), .ld none (.t 35), none⟩,
     ⟨(some 37), .bin .add (.t 36) (.c (.int .i64 1)), none⟩,
     ⟨(some 38), .fad 0 (.t 2), none⟩,
     ⟨none, .st 1 (.t 38) (.t 37), none⟩])
  (.seq (.reg [⟨(some 39), .fad 1 (.t 3), none⟩,
     ⟨(some 40), .ld none (.t 39), none⟩,
     ⟨(some 41), .fad 3 (.t 2), none⟩,
     ⟨(some 42), .iadA 64 5 (.t 41) (.t 40), none⟩,
     ⟨(some 43), .ld (some 5) (.t 42), none⟩,
     ⟨(some 7), .new [(5, (.int .i64 0))], none⟩,
     ⟨none, .st 5 (.t 7) (.t 43), none⟩])
  (.seq (.seq (.reg [⟨(some 44), .fad 0 (.t 3), none⟩,
      ⟨(some 45), .ld none (.t 44), none⟩])
   (.block 0
     (.seq (.reg [⟨(some 47), .bin .eql (.t 45) (.c (.int .i64 1)), none⟩,
        ⟨(some 46), .mv (.t 47), none⟩])
     (.cond (.t 46)
       (.reg [⟨(some 48), .fad 2 (.t 3), none⟩,
         ⟨(some 49), .ld none (.t 48), none⟩,
         ⟨(some 50), .fad 3 (.t 3), none⟩,
         ⟨(some 51), .ld none (.t 50), none⟩,
         ⟨(some 52), .fad 4 (.t 3), none⟩,
         ⟨(some 53), .ld none (.t 52), none⟩,
         ⟨(some 54), .bld [(5, (.int .i64 0))] [(0, 1, (.c (.int .i64 1))), (1, 1, (.t 49)), (2, 1, (.t 51)), (3, 1, (.t 53))], none⟩,
         ⟨none, .st 5 (.t 7) (.t 54), none⟩])
       (.seq (.reg [⟨(some 56), .bin .eql (.t 45) (.c (.int .i64 2)), none⟩,
          ⟨(some 55), .mv (.t 56), none⟩])
       (.cond (.t 55)
         (.reg [⟨(some 57), .fad 0 (.t 7), none⟩,
           ⟨none, .st 1 (.t 57) (.c (.int .i64 2)), none⟩])
         (.seq (.reg [⟨(some 59), .bin .eql (.t 45) (.c (.int .i64 3)), none⟩,
            ⟨(some 58), .mv (.t 59), none⟩])
         (.cond (.t 58)
           (.reg [⟨(some 60), .fad 0 (.t 7), none⟩,
             ⟨none, .st 1 (.t 60) (.c (.int .i64 3)), none⟩])
           (.seq (.reg [⟨(some 62), .bin .eql (.t 45) (.c (.int .i64 4)), none⟩,
              ⟨(some 61), .mv (.t 62), none⟩])
           (.cond (.t 61)
             (.dreg [⟨(some 63), .fad 323 (.t 2), none⟩,
               ⟨(some 64), .fad 0 (.t 63), none⟩,
               ⟨(some 65), .ld none (.t 64), none⟩,
               ⟨(some 66), .fad 0 (.t 7), none⟩,
               ⟨none, .st 1 (.t 66) (.c (.int .i64 4)), none⟩,
               ⟨(some 67), .fad 4 (.t 7), none⟩,
               ⟨none, .st 1 (.t 67) (.t 65), none⟩] [[], [0], [1, 0], [], [3], [0, 1, 2, 3, 4], [5, 0, 1, 2, 3, 4]])
             (.seq (.reg [⟨(some 69), .bin .eql (.t 45) (.c (.int .i64 5)), none⟩,
                ⟨(some 68), .mv (.t 69), none⟩])
             (.cond (.t 68)
               (.reg [⟨(some 70), .bld [(5, (.int .i64 0))] [], none⟩,
                 ⟨none, .st 5 (.t 7) (.t 70), none⟩])
               (.seq (.reg [⟨(some 72), .bin .eql (.t 45) (.c (.int .i64 6)), none⟩,
                  ⟨(some 71), .mv (.t 72), none⟩])
               (.cond (.t 71)
                 (.reg [⟨(some 73), .fad 323 (.t 2), none⟩,
                   ⟨(some 74), .ld (some 7) (.t 73), none⟩,
                   ⟨(some 75), .fad 5 (.t 3), none⟩,
                   ⟨(some 76), .ld (some 2) (.t 75), none⟩,
                   ⟨(some 77), .call "roundhouse/roundhouseref5.Next" [(.t 74), (.t 76)], none⟩,
                   ⟨(some 78), .fad 323 (.t 2), none⟩,
                   ⟨none, .st 7 (.t 78) (.t 77), none⟩])
                 .skip))))))))))))))
  (.seq (.reg [⟨(some 79), .fad 1 (.t 3), none⟩,
     ⟨(some 80), .ld none (.t 79), none⟩,
     ⟨(some 81), .ld (some 5) (.t 7), none⟩,
     ⟨(some 82), .fad 3 (.t 2), none⟩,
     ⟨(some 83), .iadA 64 5 (.t 82) (.t 80), none⟩,
     ⟨none, .st 5 (.t 83) (.t 81), none⟩])
  (.seq (.reg [⟨(some 84), .ld (some 330) (.t 2), none⟩,
     ⟨none, .st 330 (.t 4) (.t 84), none⟩,
     ⟨(some 5), .mv (.c (.int .i64 0)), none⟩])
  .ret)))))))))⟩
def c_ref6_Check : IFunc :=
  ⟨72, [.tmp 2],
  (.seq (.reg [⟨(some 1), .box (.t 0), none⟩,
     ⟨(some 2), .mv (.c (.int .i64 0)), none⟩])
  (.seq (.dreg [⟨(some 5), .fad 0 (.t 1), none⟩,
     ⟨(some 6), .ld none (.t 5), none⟩,
     ⟨(some 7), .bin .eql (.t 6) (.c (.int .i64 1)), none⟩,
     ⟨(some 8), .fad 0 (.t 1), none⟩,
     ⟨(some 9), .ld none (.t 8), none⟩,
     ⟨(some 10), .bin .eql (.t 9) (.c (.int .i64 6)), none⟩,
     ⟨(some 3), .mv (.t 7), none⟩,
     ⟨(some 4), .mv (.t 10), none⟩] [[], [0], [1, 0], [], [3], [4, 3], [2, 1, 0], [5, 4, 3, 6, 2, 1, 0]])
  (.seq (.block 0
     (.seq (.reg [⟨(some 12), .fad 0 (.t 1), none⟩,
        ⟨(some 13), .ld none (.t 12), none⟩,
        ⟨(some 14), .call "roundhouse/roundhouseref6.out" [(.t 13), (.c (.int .i64 1)), (.c (.int .i64 6))], none⟩,
        ⟨(some 11), .mv (.t 14), none⟩])
     (.cond (.t 11)
       (.seq (.reg [⟨(some 2), .mv (.c (.int .i64 2)), none⟩])
       .ret)
       (.seq (.reg [⟨(some 16), .fad 1 (.t 1), none⟩,
          ⟨(some 17), .ld none (.t 16), none⟩,
          ⟨(some 18), .call "roundhouse/roundhouseref6.out" [(.t 17), (.c (.int .i64 0)), (.c (.int .i64 63))], none⟩,
          ⟨(some 19), .mv (.t 18), none⟩,
          ⟨(some 20), .mv (.t 4), some (19, false)⟩,
          ⟨(some 21), .mv (.t 20), some (19, false)⟩,
          ⟨(some 22), .fad 1 (.t 1), some (21, true)⟩,
          ⟨(some 23), .ld none (.t 22), some (21, true)⟩,
          ⟨(some 24), .bin .neq (.t 23) (.c (.int .i64 0)), some (21, true)⟩,
          ⟨(some 25), .pick (.t 21) (.t 24) (.c (.bool false)), some (19, false)⟩,
          ⟨(some 26), .pick (.t 19) (.c (.bool true)) (.t 25), none⟩,
          ⟨(some 15), .mv (.t 26), none⟩])
       (.cond (.t 15)
         (.seq (.reg [⟨(some 2), .mv (.c (.int .i64 11)), none⟩])
         .ret)
         (.seq (.reg [⟨(some 28), .mv (.t 3), none⟩,
            ⟨(some 29), .mv (.t 28), none⟩,
            ⟨(some 30), .fad 2 (.t 1), some (29, true)⟩,
            ⟨(some 31), .ld none (.t 30), some (29, true)⟩,
            ⟨(some 32), .call "roundhouse/roundhouseref6.out" [(.t 31), (.c (.int .i64 0)), (.c (.int .i64 4294967295))], some (29, true)⟩,
            ⟨(some 33), .mv (.t 32), some (29, true)⟩,
            ⟨(some 34), .fad 3 (.t 1), some (33, false)⟩,
            ⟨(some 35), .ld none (.t 34), some (33, false)⟩,
            ⟨(some 36), .call "roundhouse/roundhouseref6.out" [(.t 35), (.c (.int .i64 0)), (.c (.int .i64 65535))], some (33, false)⟩,
            ⟨(some 37), .pick (.t 33) (.c (.bool true)) (.t 36), some (29, true)⟩,
            ⟨(some 38), .mv (.t 37), some (29, true)⟩,
            ⟨(some 39), .fad 4 (.t 1), some (38, false)⟩,
            ⟨(some 40), .ld none (.t 39), some (38, false)⟩,
            ⟨(some 41), .call "roundhouse/roundhouseref6.out" [(.t 40), (.c (.int .i64 1)), (.c (.int .i64 8))], some (38, false)⟩,
            ⟨(some 42), .pick (.t 38) (.c (.bool true)) (.t 41), some (29, true)⟩,
            ⟨(some 43), .pick (.t 29) (.t 42) (.c (.bool false)), none⟩,
            ⟨(some 27), .mv (.t 43), none⟩])
         (.cond (.t 27)
           (.seq (.reg [⟨(some 2), .mv (.c (.int .i64 14)), none⟩])
           .ret)
           (.seq (.reg [⟨(some 45), .mv (.t 3), none⟩,
              ⟨(some 46), .un .not (.t 45), none⟩,
              ⟨(some 47), .mv (.t 46), none⟩,
              ⟨(some 48), .fad 2 (.t 1), some (47, true)⟩,
              ⟨(some 49), .ld none (.t 48), some (47, true)⟩,
              ⟨(some 50), .bin .neq (.t 49) (.c (.int .i64 0)), some (47, true)⟩,
              ⟨(some 51), .mv (.t 50), some (47, true)⟩,
              ⟨(some 52), .fad 3 (.t 1), some (51, false)⟩,
              ⟨(some 53), .ld none (.t 52), some (51, false)⟩,
              ⟨(some 54), .bin .neq (.t 53) (.c (.int .i64 0)), some (51, false)⟩,
              ⟨(some 55), .pick (.t 51) (.c (.bool true)) (.t 54), some (47, true)⟩,
              ⟨(some 56), .mv (.t 55), some (47, true)⟩,
              ⟨(some 57), .fad 4 (.t 1), some (56, false)⟩,
              ⟨(some 58), .ld none (.t 57), some (56, false)⟩,
              ⟨(some 59), .bin .neq (.t 58) (.c (.int .i64 0)), some (56, false)⟩,
              ⟨(some 60), .pick (.t 56) (.c (.bool true)) (.t 59), some (47, true)⟩,
              ⟨(some 61), .pick (.t 47) (.t 60) (.c (.bool false)), none⟩,
              ⟨(some 62), .mv (.t 61), none⟩,
              ⟨(some 63), .mv (.t 4), some (62, false)⟩,
              ⟨(some 64), .un .not (.t 63), some (62, false)⟩,
              ⟨(some 65), .mv (.t 64), some (62, false)⟩,
              ⟨(some 66), .fad 5 (.t 1), some (65, true)⟩,
              ⟨(some 67), .ld (some 2) (.t 66), some (65, true)⟩,
              ⟨(some 68), .bld [(2, (.int .u64 0))] [], some (65, true)⟩,
              ⟨(some 69), .eqa true [(2, .i)] (.t 67) (.t 68), some (65, true)⟩,
              ⟨(some 70), .pick (.t 65) (.t 69) (.c (.bool false)), some (62, false)⟩,
              ⟨(some 71), .pick (.t 62) (.c (.bool true)) (.t 70), none⟩,
              ⟨(some 44), .mv (.t 71), none⟩])
           (.cond (.t 44)
             (.seq (.reg [⟨(some 2), .mv (.c (.int .i64 14)), none⟩])
             .ret)
             .skip)))))))))
  (.seq (.reg [⟨(some 2), .mv (.c (.int .i64 0)), none⟩])
  .ret))))⟩
def c_ref6_All : IFunc :=
  ⟨34, [.cell 4 (some 330), .tmp 5, .tmp 6],
  (.seq (.reg [⟨(some 2), .box (.t 0), none⟩,
     ⟨(some 4), .new [(324, (.int .i64 0)), (6, (.int .u64 0))], none⟩,
     ⟨(some 5), .mv (.c (.int .i64 0)), none⟩,
     ⟨(some 6), .mv (.c (.int .i64 0)), none⟩])
  (.seq (.seq (.reg [⟨(some 7), .mv (.c (.int .i64 0)), none⟩])
   (.block 0
     (.loop
       (.seq (.seq (.reg [⟨(some 10), .mv (.t 7), none⟩,
           ⟨(some 11), .mv (.t 1), none⟩,
           ⟨(some 12), .lenS (.t 11), none⟩,
           ⟨(some 13), .bin .lss (.t 10) (.t 12), none⟩])
        (.cond (.t 13)
          .skip
          (.exit 0)))
       (.seq (.block 1
          (.seq (.dreg [⟨(some 17), .ld (some 330) (.t 2), none⟩,
             ⟨(some 18), .mv (.t 1), none⟩,
             ⟨(some 19), .mv (.t 7), none⟩,
             ⟨(some 20), .iadS 7 (.t 18) (.t 19), none⟩,
             ⟨(some 21), .ld (some 7) (.t 20), none⟩,
             ⟨(some 22), .call "roundhouse/roundhouseref6.Apply" [(.t 17), (.t 21)], none⟩,
             ⟨(some 16), .mv (.t 22), none⟩,
             ⟨(some 23), .ext 0 (.t 16), none⟩,
             ⟨(some 24), .ext 1 (.t 16), none⟩,
             ⟨(some 8), .new [(324, (.int .i64 0)), (6, (.int .u64 0))], none⟩,
             ⟨none, .st 330 (.t 8) (.t 23), none⟩,
             ⟨(some 9), .mv (.t 24), none⟩] [[], [], [], [1, 2], [3, 1, 2], [0, 4, 3, 1, 2], [5, 0, 4, 3, 1, 2], [6, 5, 0, 4, 3, 1, 2], [6, 5, 0, 4, 3, 1, 2], [], [9, 7, 6, 5, 0, 4, 3, 1, 2], [8, 6, 5, 0, 4, 3, 1, 2, 10, 9, 7]])
          (.seq (.seq (.reg [⟨(some 25), .mv (.t 9), none⟩,
              ⟨(some 26), .bin .neq (.t 25) (.c (.int .i64 0)), none⟩])
           (.cond (.t 26)
             (.seq (.reg [⟨(some 27), .ld (some 330) (.t 2), none⟩,
                ⟨(some 28), .mv (.t 7), none⟩,
                ⟨(some 29), .mv (.t 9), none⟩,
                ⟨none, .st 330 (.t 4) (.t 27), none⟩,
                ⟨(some 5), .mv (.t 28), none⟩,
                ⟨(some 6), .mv (.t 29), none⟩])
             .ret)
             .skip))
          (.reg [⟨(some 30), .ld (some 330) (.t 8), none⟩,
            ⟨none, .st 330 (.t 2) (.t 30), none⟩]))))
       (.reg [⟨(some 14), .mv (.t 7), none⟩,
         ⟨(some 15), .bin .add (.t 14) (.c (.int .i64 1)), none⟩,
         ⟨(some 7), .mv (.t 15), none⟩]))))))
  (.seq (.reg [⟨(some 31), .ld (some 330) (.t 2), none⟩,
     ⟨(some 32), .mv (.t 1), none⟩,
     ⟨(some 33), .lenS (.t 32), none⟩,
     ⟨none, .st 330 (.t 4) (.t 31), none⟩,
     ⟨(some 5), .mv (.t 33), none⟩,
     ⟨(some 6), .mv (.c (.int .i64 0)), none⟩])
  .ret)))⟩
def c_ref6_Find : IFunc :=
  ⟨33, [.tmp 6, .tmp 7],
  (.seq (.reg [⟨(some 3), .box (.t 0), none⟩,
     ⟨(some 6), .mv (.c (.int .i64 0)), none⟩,
     ⟨(some 7), .mv (.c (.bool false)), none⟩])
  (.seq (.seq (.reg [⟨(some 8), .mv (.c (.int .i64 0)), none⟩])
   (.block 0
     (.loop
       (.seq (.seq (.reg [⟨(some 10), .mv (.t 8), none⟩,
           ⟨(some 11), .bin .lss (.t 10) (.c (.int .i64 64)), none⟩])
        (.cond (.t 11)
          .skip
          (.exit 0)))
       (.seq (.block 1
          (.seq (.reg [⟨(some 14), .mv (.t 8), none⟩,
             ⟨(some 15), .fad 3 (.t 3), none⟩,
             ⟨(some 16), .iadA 64 5 (.t 15) (.t 14), none⟩,
             ⟨(some 17), .ld (some 5) (.t 16), none⟩,
             ⟨(some 9), .new [(5, (.int .i64 0))], none⟩,
             ⟨none, .st 5 (.t 9) (.t 17), none⟩])
          (.seq (.reg [⟨(some 18), .ld (some 5) (.t 9), none⟩,
             ⟨(some 19), .call "roundhouse/roundhouseref6.Takes" [(.t 18)], none⟩,
             ⟨(some 20), .mv (.t 19), none⟩,
             ⟨(some 21), .fad 1 (.t 9), some (20, true)⟩,
             ⟨(some 22), .ld none (.t 21), some (20, true)⟩,
             ⟨(some 23), .mv (.t 1), some (20, true)⟩,
             ⟨(some 24), .bin .eql (.t 22) (.t 23), some (20, true)⟩,
             ⟨(some 25), .pick (.t 20) (.t 24) (.c (.bool false)), none⟩,
             ⟨(some 26), .mv (.t 25), none⟩,
             ⟨(some 27), .fad 2 (.t 9), some (26, true)⟩,
             ⟨(some 28), .ld none (.t 27), some (26, true)⟩,
             ⟨(some 29), .mv (.t 2), some (26, true)⟩,
             ⟨(some 30), .bin .eql (.t 28) (.t 29), some (26, true)⟩,
             ⟨(some 31), .pick (.t 26) (.t 30) (.c (.bool false)), none⟩])
          (.cond (.t 31)
            (.seq (.reg [⟨(some 32), .mv (.t 8), none⟩,
               ⟨(some 6), .mv (.t 32), none⟩,
               ⟨(some 7), .mv (.c (.bool true)), none⟩])
            .ret)
            .skip))))
       (.reg [⟨(some 12), .mv (.t 8), none⟩,
         ⟨(some 13), .bin .add (.t 12) (.c (.int .i64 1)), none⟩,
         ⟨(some 8), .mv (.t 13), none⟩]))))))
  (.seq (.reg [⟨(some 6), .mv (.c (.int .i64 0)), none⟩,
     ⟨(some 7), .mv (.c (.bool false)), none⟩])
  .ret)))⟩
def c_ref6_Takes : IFunc :=
  ⟨16, [.tmp 2],
  (.seq (.reg [⟨(some 1), .box (.t 0), none⟩,
     ⟨(some 2), .mv (.c (.bool false)), none⟩])
  (.seq (.reg [⟨(some 3), .fad 0 (.t 1), none⟩,
     ⟨(some 4), .ld none (.t 3), none⟩,
     ⟨(some 5), .bin .eql (.t 4) (.c (.int .i64 1)), none⟩,
     ⟨(some 6), .mv (.t 5), none⟩,
     ⟨(some 7), .fad 0 (.t 1), some (6, false)⟩,
     ⟨(some 8), .ld none (.t 7), some (6, false)⟩,
     ⟨(some 9), .bin .eql (.t 8) (.c (.int .i64 2)), some (6, false)⟩,
     ⟨(some 10), .pick (.t 6) (.c (.bool true)) (.t 9), none⟩,
     ⟨(some 11), .mv (.t 10), none⟩,
     ⟨(some 12), .fad 0 (.t 1), some (11, false)⟩,
     ⟨(some 13), .ld none (.t 12), some (11, false)⟩,
     ⟨(some 14), .bin .eql (.t 13) (.c (.int .i64 3)), some (11, false)⟩,
     ⟨(some 15), .pick (.t 11) (.c (.bool true)) (.t 14), none⟩,
     ⟨(some 2), .mv (.t 15), none⟩])
  .ret))⟩
def c_ref6_out : IFunc :=
  ⟨15, [.tmp 6],
  (.seq (.reg [⟨(some 6), .mv (.c (.bool false)), none⟩])
  (.seq (.reg [⟨(some 7), .mv (.t 0), none⟩,
     ⟨(some 8), .mv (.t 1), none⟩,
     ⟨(some 9), .bin .lss (.t 7) (.t 8), none⟩,
     ⟨(some 10), .mv (.t 9), none⟩,
     ⟨(some 11), .mv (.t 0), some (10, false)⟩,
     ⟨(some 12), .mv (.t 2), some (10, false)⟩,
     ⟨(some 13), .bin .gtr (.t 11) (.t 12), some (10, false)⟩,
     ⟨(some 14), .pick (.t 10) (.c (.bool true)) (.t 13), none⟩,
     ⟨(some 6), .mv (.t 14), none⟩])
  .ret))⟩
def c_ref6_bad : IFunc :=
  ⟨43, [.tmp 4],
  (.seq (.reg [⟨(some 2), .box (.t 0), none⟩,
     ⟨(some 3), .box (.t 1), none⟩,
     ⟨(some 4), .mv (.c (.bool false)), none⟩])
  (.seq (.reg [⟨(some 6), .fad 1 (.t 3), none⟩,
     ⟨(some 7), .ld none (.t 6), none⟩,
     ⟨(some 8), .fad 3 (.t 2), none⟩,
     ⟨(some 9), .iadA 64 5 (.t 8) (.t 7), none⟩,
     ⟨(some 10), .fad 0 (.t 9), none⟩,
     ⟨(some 11), .ld none (.t 10), none⟩,
     ⟨(some 5), .mv (.t 11), none⟩])
  (.seq (.seq (.reg [⟨(some 12), .fad 0 (.t 3), none⟩,
      ⟨(some 13), .ld none (.t 12), none⟩])
   (.block 0
     (.seq (.reg [⟨(some 15), .bin .eql (.t 13) (.c (.int .i64 1)), none⟩,
        ⟨(some 14), .mv (.t 15), none⟩])
     (.cond (.t 14)
       (.seq (.reg [⟨(some 16), .mv (.t 5), none⟩,
          ⟨(some 17), .bin .neq (.t 16) (.c (.int .i64 0)), none⟩,
          ⟨(some 18), .mv (.t 17), none⟩,
          ⟨(some 19), .ld (some 330) (.t 2), some (18, false)⟩,
          ⟨(some 20), .fad 2 (.t 3), some (18, false)⟩,
          ⟨(some 21), .ld none (.t 20), some (18, false)⟩,
          ⟨(some 22), .fad 3 (.t 3), some (18, false)⟩,
          ⟨(some 23), .ld none (.t 22), some (18, false)⟩,
          ⟨(some 24), .call "roundhouse/roundhouseref6.Held" [(.t 19), (.t 21), (.t 23)], some (18, false)⟩,
          ⟨(some 25), .pick (.t 18) (.c (.bool true)) (.t 24), none⟩,
          ⟨(some 4), .mv (.t 25), none⟩])
       .ret)
       (.seq (.seq (.reg [⟨(some 27), .bin .eql (.t 13) (.c (.int .i64 2)), none⟩,
           ⟨(some 26), .mv (.t 27), none⟩])
        (.cond (.t 26)
          .skip
          (.reg [⟨(some 28), .bin .eql (.t 13) (.c (.int .i64 4)), none⟩,
            ⟨(some 26), .mv (.t 28), none⟩])))
       (.cond (.t 26)
         (.seq (.reg [⟨(some 29), .mv (.t 5), none⟩,
            ⟨(some 30), .bin .neq (.t 29) (.c (.int .i64 1)), none⟩,
            ⟨(some 31), .mv (.t 30), none⟩,
            ⟨(some 32), .mv (.t 5), some (31, true)⟩,
            ⟨(some 33), .bin .neq (.t 32) (.c (.int .i64 3)), some (31, true)⟩,
            ⟨(some 34), .pick (.t 31) (.t 33) (.c (.bool false)), none⟩,
            ⟨(some 4), .mv (.t 34), none⟩])
         .ret)
         (.seq (.reg [⟨(some 36), .bin .eql (.t 13) (.c (.int .i64 3)), none⟩,
            ⟨(some 35), .mv (.t 36), none⟩])
         (.cond (.t 35)
           (.seq (.reg [⟨(some 37), .mv (.t 5), none⟩,
              ⟨(some 38), .bin .neq (.t 37) (.c (.int .i64 2)), none⟩,
              ⟨(some 4), .mv (.t 38), none⟩])
           .ret)
           (.seq (.reg [⟨(some 40), .bin .eql (.t 13) (.c (.int .i64 5)), none⟩,
              ⟨(some 39), .mv (.t 40), none⟩])
           (.cond (.t 39)
             (.seq (.reg [⟨(some 41), .mv (.t 5), none⟩,
                ⟨(some 42), .bin .neq (.t 41) (.c (.int .i64 4)), none⟩,
                ⟨(some 4), .mv (.t 42), none⟩])
             .ret)
             .skip))))))))))
  (.seq (.reg [⟨(some 4), .mv (.c (.bool false)), none⟩])
  .ret))))⟩
def c_ref6_Held : IFunc :=
  ⟨42, [.tmp 6],
  (.seq (.reg [⟨(some 3), .box (.t 0), none⟩,
     ⟨(some 6), .mv (.c (.bool false)), none⟩])
  (.seq (.seq (.reg [⟨(some 7), .mv (.c (.int .i64 0)), none⟩])
   (.block 0
     (.loop
       (.seq (.seq (.reg [⟨(some 9), .mv (.t 7), none⟩,
           ⟨(some 10), .bin .lss (.t 9) (.c (.int .i64 64)), none⟩])
        (.cond (.t 10)
          .skip
          (.exit 0)))
       (.seq (.block 1
          (.seq (.reg [⟨(some 13), .mv (.t 7), none⟩,
             ⟨(some 14), .fad 3 (.t 3), none⟩,
             ⟨(some 15), .iadA 64 5 (.t 14) (.t 13), none⟩,
             ⟨(some 16), .ld (some 5) (.t 15), none⟩,
             ⟨(some 8), .new [(5, (.int .i64 0))], none⟩,
             ⟨none, .st 5 (.t 8) (.t 16), none⟩])
          (.seq (.reg [⟨(some 17), .fad 0 (.t 8), none⟩,
             ⟨(some 18), .ld none (.t 17), none⟩,
             ⟨(some 19), .bin .neq (.t 18) (.c (.int .i64 0)), none⟩,
             ⟨(some 20), .mv (.t 19), none⟩,
             ⟨(some 21), .fad 1 (.t 8), some (20, true)⟩,
             ⟨(some 22), .ld none (.t 21), some (20, true)⟩,
             ⟨(some 23), .mv (.t 1), some (20, true)⟩,
             ⟨(some 24), .bin .eql (.t 22) (.t 23), some (20, true)⟩,
             ⟨(some 25), .pick (.t 20) (.t 24) (.c (.bool false)), none⟩,
             ⟨(some 26), .mv (.t 25), none⟩,
             ⟨(some 27), .fad 2 (.t 8), some (26, true)⟩,
             ⟨(some 28), .ld none (.t 27), some (26, true)⟩,
             ⟨(some 29), .mv (.t 2), some (26, true)⟩,
             ⟨(some 30), .bin .eql (.t 28) (.t 29), some (26, true)⟩,
             ⟨(some 31), .pick (.t 26) (.t 30) (.c (.bool false)), none⟩])
          (.cond (.t 31)
            (.seq (.reg [⟨(some 6), .mv (.c (.bool true)), none⟩])
            .ret)
            .skip))))
       (.reg [⟨(some 11), .mv (.t 7), none⟩,
         ⟨(some 12), .bin .add (.t 11) (.c (.int .i64 1)), none⟩,
         ⟨(some 7), .mv (.t 12), none⟩]))))))
  (.seq (.reg [⟨(some 32), .fad 1 (.t 3), none⟩,
     ⟨(some 33), .ld none (.t 32), none⟩,
     ⟨(some 34), .mv (.t 1), none⟩,
     ⟨(some 35), .bin .eql (.t 33) (.t 34), none⟩,
     ⟨(some 36), .mv (.t 35), none⟩,
     ⟨(some 37), .fad 2 (.t 3), some (36, true)⟩,
     ⟨(some 38), .ld none (.t 37), some (36, true)⟩,
     ⟨(some 39), .mv (.t 2), some (36, true)⟩,
     ⟨(some 40), .bin .eql (.t 38) (.t 39), some (36, true)⟩,
     ⟨(some 41), .pick (.t 36) (.t 40) (.c (.bool false)), none⟩,
     ⟨(some 6), .mv (.t 41), none⟩])
  .ret)))⟩
def c_ref5_Ring : IFunc :=
  ⟨31, [.cell 4 (some 7)],
  (.seq (.reg [⟨(some 4), .new [(1, (.int .i64 0)), (6, (.int .u64 0))], none⟩])
  (.seq (.reg [⟨(some 5), .new [(6, (.int .u64 0))], none⟩])
  (.seq (.seq (.reg [⟨(some 6), .mv (.c (.int .i64 0)), none⟩])
   (.block 0
     (.loop
       (.seq (.seq (.reg [⟨(some 7), .mv (.t 6), none⟩,
           ⟨(some 8), .mv (.t 1), none⟩,
           ⟨(some 9), .lenS (.t 8), none⟩,
           ⟨(some 10), .bin .lss (.t 7) (.t 9), none⟩,
           ⟨(some 11), .mv (.t 10), none⟩,
           ⟨(some 12), .mv (.t 6), some (11, true)⟩,
           ⟨(some 13), .bin .lss (.t 12) (.c (.int .i64 3)), some (11, true)⟩,
           ⟨(some 14), .pick (.t 11) (.t 13) (.c (.bool false)), none⟩])
        (.cond (.t 14)
          .skip
          (.exit 0)))
       (.seq (.block 1
          (.reg [⟨(some 17), .mv (.t 6), none⟩,
            ⟨(some 18), .mv (.t 1), none⟩,
            ⟨(some 19), .mv (.t 6), none⟩,
            ⟨(some 20), .iadS 2 (.t 18) (.t 19), none⟩,
            ⟨(some 21), .ld (some 2) (.t 20), none⟩,
            ⟨(some 22), .iadA 3 2 (.t 5) (.t 17), none⟩,
            ⟨none, .st 2 (.t 22) (.t 21), none⟩]))
       (.reg [⟨(some 15), .mv (.t 6), none⟩,
         ⟨(some 16), .bin .add (.t 15) (.c (.int .i64 1)), none⟩,
         ⟨(some 6), .mv (.t 16), none⟩]))))))
  (.seq (.reg [⟨(some 23), .mv (.t 0), none⟩,
     ⟨(some 24), .iadA 3 2 (.t 5) (.c (.int .i64 0)), none⟩,
     ⟨(some 25), .ld (some 2) (.t 24), none⟩,
     ⟨(some 26), .iadA 3 2 (.t 5) (.c (.int .i64 1)), none⟩,
     ⟨(some 27), .ld (some 2) (.t 26), none⟩,
     ⟨(some 28), .iadA 3 2 (.t 5) (.c (.int .i64 2)), none⟩,
     ⟨(some 29), .ld (some 2) (.t 28), none⟩,
     ⟨(some 30), .bld [(1, (.int .i64 0)), (6, (.int .u64 0))] [(0, 1, (.t 23)), (1, 2, (.t 25)), (3, 2, (.t 27)), (5, 2, (.t 29))], none⟩,
     ⟨none, .st 7 (.t 4) (.t 30), none⟩])
  .ret))))⟩
def c_ref5_Next : IFunc :=
  ⟨14, [.cell 4 (some 7)],
  (.seq (.reg [⟨(some 2), .box (.t 0), none⟩,
     ⟨(some 3), .box (.t 1), none⟩,
     ⟨(some 4), .new [(1, (.int .i64 0)), (6, (.int .u64 0))], none⟩])
  (.seq (.reg [⟨(some 5), .fad 0 (.t 2), none⟩,
     ⟨(some 6), .ld none (.t 5), none⟩,
     ⟨(some 7), .bin .add (.t 6) (.c (.int .i64 1)), none⟩,
     ⟨(some 8), .fad 3 (.t 2), none⟩,
     ⟨(some 9), .ld (some 2) (.t 8), none⟩,
     ⟨(some 10), .fad 5 (.t 2), none⟩,
     ⟨(some 11), .ld (some 2) (.t 10), none⟩,
     ⟨(some 12), .ld (some 2) (.t 3), none⟩,
     ⟨(some 13), .bld [(1, (.int .i64 0)), (6, (.int .u64 0))] [(0, 1, (.t 7)), (1, 2, (.t 9)), (3, 2, (.t 11)), (5, 2, (.t 12))], none⟩,
     ⟨none, .st 7 (.t 4) (.t 13), none⟩])
  .ret))⟩
def c_law5_Key : IFunc :=
  ⟨10, [.cell 2 (some 2)],
  (.seq (.reg [⟨(some 2), .new [(2, (.int .u64 0))], none⟩])
  (.seq (.reg [⟨(some 3), .mv (.t 0), none⟩,
     ⟨(some 4), .cvi .u64 (.t 3), none⟩,
     ⟨(some 5), .bin .mul (.t 4) (.c (.int .u64 11400714819323198485)), none⟩,
     ⟨(some 6), .mv (.t 0), none⟩,
     ⟨(some 7), .cvi .u64 (.t 6), none⟩,
     ⟨(some 8), .bin .xor (.t 7) (.c (.int .u64 19088743)), none⟩,
     ⟨(some 9), .bld [(2, (.int .u64 0))] [(0, 1, (.t 5)), (1, 1, (.t 8))], none⟩,
     ⟨none, .st 2 (.t 2) (.t 9), none⟩])
  .ret))⟩
def c_law6_Entry : IFunc :=
  ⟨53, [.cell 2 (some 7)],
  (.seq (.reg [⟨(some 2), .new [(5, (.int .i64 0)), (2, (.int .u64 0))], none⟩])
  (.seq (.reg [⟨(some 5), .mv (.t 0), none⟩,
     ⟨(some 6), .call "roundhouse/roundhouselaw6.within" [(.t 5), (.c (.int .i64 1125899906842624))], none⟩,
     ⟨(some 3), .mv (.t 6), none⟩])
  (.seq (.reg [⟨(some 7), .mv (.t 3), none⟩,
     ⟨(some 8), .bin .quo (.t 7) (.c (.int .i64 8)), none⟩,
     ⟨(some 9), .bin .rem (.t 8) (.c (.int .i64 6)), none⟩,
     ⟨(some 4), .mv (.t 9), none⟩])
  (.seq (.seq (.reg [⟨(some 10), .mv (.t 3), none⟩,
      ⟨(some 11), .bin .quo (.t 10) (.c (.int .i64 48)), none⟩,
      ⟨(some 12), .bin .rem (.t 11) (.c (.int .i64 29)), none⟩,
      ⟨(some 13), .bin .eql (.t 12) (.c (.int .i64 0)), none⟩])
   (.cond (.t 13)
     (.reg [⟨(some 14), .mv (.t 3), none⟩,
       ⟨(some 15), .bin .quo (.t 14) (.c (.int .i64 48)), none⟩,
       ⟨(some 16), .bin .rem (.t 15) (.c (.int .i64 66)), none⟩,
       ⟨(some 4), .mv (.t 16), none⟩])
     .skip))
  (.seq (.seq (.reg [⟨(some 17), .mv (.t 3), none⟩,
      ⟨(some 18), .bin .rem (.t 17) (.c (.int .i64 8)), none⟩])
   (.block 0
     (.seq (.seq (.reg [⟨(some 20), .bin .eql (.t 18) (.c (.int .i64 0)), none⟩,
         ⟨(some 19), .mv (.t 20), none⟩])
      (.cond (.t 19)
        .skip
        (.reg [⟨(some 21), .bin .eql (.t 18) (.c (.int .i64 1)), none⟩,
          ⟨(some 19), .mv (.t 21), none⟩])))
     (.cond (.t 19)
       (.seq (.reg [⟨(some 22), .mv (.t 4), none⟩,
          ⟨(some 23), .mv (.t 3), none⟩,
          ⟨(some 24), .bin .quo (.t 23) (.c (.int .i64 400)), none⟩,
          ⟨(some 25), .bin .rem (.t 24) (.c (.int .i64 5)), none⟩,
          ⟨(some 26), .mv (.t 3), none⟩,
          ⟨(some 27), .bin .quo (.t 26) (.c (.int .i64 2000)), none⟩,
          ⟨(some 28), .bin .rem (.t 27) (.c (.int .i64 3)), none⟩,
          ⟨(some 29), .mv (.t 3), none⟩,
          ⟨(some 30), .bin .quo (.t 29) (.c (.int .i64 6000)), none⟩,
          ⟨(some 31), .bin .rem (.t 30) (.c (.int .i64 8)), none⟩,
          ⟨(some 32), .bin .add (.c (.int .i64 1)) (.t 31), none⟩,
          ⟨(some 33), .bld [(5, (.int .i64 0)), (2, (.int .u64 0))] [(0, 1, (.c (.int .i64 1))), (1, 1, (.t 22)), (2, 1, (.t 25)), (3, 1, (.t 28)), (4, 1, (.t 32))], none⟩,
          ⟨none, .st 7 (.t 2) (.t 33), none⟩])
       .ret)
       (.seq (.reg [⟨(some 35), .bin .eql (.t 18) (.c (.int .i64 2)), none⟩,
          ⟨(some 34), .mv (.t 35), none⟩])
       (.cond (.t 34)
         (.seq (.reg [⟨(some 36), .mv (.t 4), none⟩,
            ⟨(some 37), .bld [(5, (.int .i64 0)), (2, (.int .u64 0))] [(0, 1, (.c (.int .i64 2))), (1, 1, (.t 36))], none⟩,
            ⟨none, .st 7 (.t 2) (.t 37), none⟩])
         .ret)
         (.seq (.reg [⟨(some 39), .bin .eql (.t 18) (.c (.int .i64 3)), none⟩,
            ⟨(some 38), .mv (.t 39), none⟩])
         (.cond (.t 38)
           (.seq (.reg [⟨(some 40), .mv (.t 4), none⟩,
              ⟨(some 41), .bld [(5, (.int .i64 0)), (2, (.int .u64 0))] [(0, 1, (.c (.int .i64 3))), (1, 1, (.t 40))], none⟩,
              ⟨none, .st 7 (.t 2) (.t 41), none⟩])
           .ret)
           (.seq (.reg [⟨(some 43), .bin .eql (.t 18) (.c (.int .i64 4)), none⟩,
              ⟨(some 42), .mv (.t 43), none⟩])
           (.cond (.t 42)
             (.seq (.reg [⟨(some 44), .mv (.t 4), none⟩,
                ⟨(some 45), .bld [(5, (.int .i64 0)), (2, (.int .u64 0))] [(0, 1, (.c (.int .i64 4))), (1, 1, (.t 44))], none⟩,
                ⟨none, .st 7 (.t 2) (.t 45), none⟩])
             .ret)
             (.seq (.reg [⟨(some 47), .bin .eql (.t 18) (.c (.int .i64 5)), none⟩,
                ⟨(some 46), .mv (.t 47), none⟩])
             (.cond (.t 46)
               (.seq (.reg [⟨(some 48), .mv (.t 4), none⟩,
                  ⟨(some 49), .bld [(5, (.int .i64 0)), (2, (.int .u64 0))] [(0, 1, (.c (.int .i64 5))), (1, 1, (.t 48))], none⟩,
                  ⟨none, .st 7 (.t 2) (.t 49), none⟩])
               .ret)
               .skip))))))))))))
  (.seq (.reg [⟨(some 50), .mv (.t 3), none⟩,
     ⟨(some 51), .call "roundhouse/roundhouselaw5.Key" [(.t 50)], none⟩,
     ⟨(some 52), .bld [(5, (.int .i64 0)), (2, (.int .u64 0))] [(0, 1, (.c (.int .i64 6))), (5, 2, (.t 51))], none⟩,
     ⟨none, .st 7 (.t 2) (.t 52), none⟩])
  .ret))))))⟩
def c_law6_within : IFunc :=
  ⟨15, [.tmp 4],
  (.seq (.reg [⟨(some 4), .mv (.c (.int .i64 0)), none⟩])
  (.seq (.reg [⟨(some 6), .mv (.t 0), none⟩,
     ⟨(some 7), .mv (.t 1), none⟩,
     ⟨(some 8), .bin .rem (.t 6) (.t 7), none⟩,
     ⟨(some 5), .mv (.t 8), none⟩])
  (.seq (.seq (.reg [⟨(some 9), .mv (.t 5), none⟩,
      ⟨(some 10), .bin .lss (.t 9) (.c (.int .i64 0)), none⟩])
   (.cond (.t 10)
     (.reg [⟨(some 11), .mv (.t 5), none⟩,
       ⟨(some 12), .mv (.t 1), none⟩,
       ⟨(some 13), .bin .add (.t 11) (.t 12), none⟩,
       ⟨(some 5), .mv (.t 13), none⟩])
     .skip))
  (.seq (.reg [⟨(some 14), .mv (.t 5), none⟩,
     ⟨(some 4), .mv (.t 14), none⟩])
  .ret))))⟩
def c_law6_Make : IFunc :=
  ⟨41, [.cell 4 (some 330)],
  (.seq (.reg [⟨(some 4), .new [(324, (.int .i64 0)), (6, (.int .u64 0))], none⟩])
  (.seq (.reg [⟨(some 11), .call "roundhouse/roundhouselaw5.Key" [(.c (.int .i64 1))], none⟩,
     ⟨(some 12), .call "roundhouse/roundhouselaw5.Key" [(.c (.int .i64 2))], none⟩,
     ⟨(some 13), .call "roundhouse/roundhouseref6.New" [(.c (.int .i64 10)), (.c (.int .i64 80)), (.t 11), (.t 12)], none⟩,
     ⟨(some 10), .mv (.t 13), none⟩,
     ⟨(some 14), .ext 0 (.t 10), none⟩,
     ⟨(some 15), .ext 1 (.t 10), none⟩,
     ⟨(some 5), .new [(324, (.int .i64 0)), (6, (.int .u64 0))], none⟩,
     ⟨none, .st 330 (.t 5) (.t 14), none⟩,
     ⟨(some 6), .mv (.t 15), none⟩])
  (.seq (.seq (.reg [⟨(some 7), .mv (.c (.int .i64 0)), none⟩])
   (.block 0
     (.loop
       (.seq (.seq (.reg [⟨(some 16), .mv (.t 7), none⟩,
           ⟨(some 17), .mv (.t 0), none⟩,
           ⟨(some 18), .lenS (.t 17), none⟩,
           ⟨(some 19), .bin .lss (.t 16) (.t 18), none⟩,
           ⟨(some 20), .mv (.t 19), none⟩,
           ⟨(some 21), .mv (.t 7), some (20, true)⟩,
           ⟨(some 22), .mv (.t 1), some (20, true)⟩,
           ⟨(some 23), .bin .lss (.t 21) (.t 22), some (20, true)⟩,
           ⟨(some 24), .pick (.t 20) (.t 23) (.c (.bool false)), none⟩])
        (.cond (.t 24)
          .skip
          (.exit 0)))
       (.seq (.block 1
          (.seq (.dreg [⟨(some 28), .ld (some 330) (.t 5), none⟩,
             ⟨(some 29), .mv (.t 0), none⟩,
             ⟨(some 30), .mv (.t 7), none⟩,
             ⟨(some 31), .iadS 1 (.t 29) (.t 30), none⟩,
             ⟨(some 32), .ld none (.t 31), none⟩,
             ⟨(some 33), .call "roundhouse/roundhouselaw6.Entry" [(.t 32)], none⟩,
             ⟨(some 34), .call "roundhouse/roundhouseref6.Apply" [(.t 28), (.t 33)], none⟩,
             ⟨(some 27), .mv (.t 34), none⟩,
             ⟨(some 35), .ext 0 (.t 27), none⟩,
             ⟨(some 36), .ext 1 (.t 27), none⟩,
             ⟨(some 8), .new [(324, (.int .i64 0)), (6, (.int .u64 0))], none⟩,
             ⟨none, .st 330 (.t 8) (.t 35), none⟩,
             ⟨(some 9), .mv (.t 36), none⟩] [[], [], [], [1, 2], [3, 1, 2], [4, 3, 1, 2], [0, 5, 4, 3, 1, 2], [6, 0, 5, 4, 3, 1, 2], [7, 6, 0, 5, 4, 3, 1, 2], [7, 6, 0, 5, 4, 3, 1, 2], [], [10, 8, 7, 6, 0, 5, 4, 3, 1, 2], [9, 7, 6, 0, 5, 4, 3, 1, 2, 11, 10, 8]])
          (.seq (.reg [⟨(some 37), .mv (.t 9), none⟩,
             ⟨(some 38), .bin .eql (.t 37) (.c (.int .i64 0)), none⟩])
          (.cond (.t 38)
            (.reg [⟨(some 39), .ld (some 330) (.t 8), none⟩,
              ⟨none, .st 330 (.t 5) (.t 39), none⟩])
            .skip))))
       (.reg [⟨(some 25), .mv (.t 7), none⟩,
         ⟨(some 26), .bin .add (.t 25) (.c (.int .i64 1)), none⟩,
         ⟨(some 7), .mv (.t 26), none⟩]))))))
  (.seq (.reg [⟨(some 40), .ld (some 330) (.t 5), none⟩,
     ⟨none, .st 330 (.t 4) (.t 40), none⟩])
  .ret))))⟩
def c_law6_known : IFunc :=
  ⟨90, [.tmp 0],
  (.seq (.reg [⟨(some 0), .mv (.c (.bool false)), none⟩])
  (.seq (.reg [⟨(some 13), .bld [(2, (.int .u64 0))] [(0, 1, (.c (.int .u64 1)))], none⟩,
     ⟨(some 14), .bld [(2, (.int .u64 0))] [(0, 1, (.c (.int .u64 2)))], none⟩,
     ⟨(some 15), .call "roundhouse/pool.New" [(.c (.int .i64 1)), (.c (.int .i64 2)), (.t 13), (.t 14)], none⟩,
     ⟨(some 12), .mv (.t 15), none⟩,
     ⟨(some 16), .ext 0 (.t 12), none⟩,
     ⟨(some 17), .ext 1 (.t 12), none⟩,
     ⟨(some 1), .new [(324, (.int .i64 0)), (6, (.int .u64 0))], none⟩,
     ⟨none, .st 330 (.t 1) (.t 16), none⟩,
     ⟨(some 2), .mv (.t 17), none⟩])
  (.seq (.reg [⟨(some 19), .ld (some 330) (.t 1), none⟩,
     ⟨(some 20), .call "roundhouse/pool.Find" [(.t 19), (.c (.int .i64 3)), (.c (.int .i64 4))], none⟩,
     ⟨(some 18), .mv (.t 20), none⟩,
     ⟨(some 21), .ext 0 (.t 18), none⟩,
     ⟨(some 22), .ext 1 (.t 18), none⟩,
     ⟨(some 3), .mv (.t 21), none⟩,
     ⟨(some 4), .mv (.t 22), none⟩])
  (.seq (.reg [⟨(some 24), .ld (some 330) (.t 1), none⟩,
     ⟨(some 25), .bld [(5, (.int .i64 0)), (2, (.int .u64 0))] [(0, 1, (.c (.int .i64 1))), (1, 1, (.c (.int .i64 5))), (2, 1, (.c (.int .i64 3))), (3, 1, (.c (.int .i64 4))), (4, 1, (.c (.int .i64 1)))], none⟩,
     ⟨(some 26), .bld [(5, (.int .i64 0)), (2, (.int .u64 0))] [(0, 1, (.c (.int .i64 2))), (1, 1, (.c (.int .i64 5)))], none⟩,
     ⟨(some 27), .bsl [(5, (.int .i64 0)), (2, (.int .u64 0))] 7 2 [(0, 7, (.t 25)), (7, 7, (.t 26))], none⟩,
     ⟨(some 28), .call "roundhouse/pool.All" [(.t 24), (.t 27)], none⟩,
     ⟨(some 23), .mv (.t 28), none⟩,
     ⟨(some 29), .ext 0 (.t 23), none⟩,
     ⟨(some 30), .ext 1 (.t 23), none⟩,
     ⟨(some 31), .ext 2 (.t 23), none⟩,
     ⟨(some 5), .new [(324, (.int .i64 0)), (6, (.int .u64 0))], none⟩,
     ⟨none, .st 330 (.t 5) (.t 29), none⟩,
     ⟨(some 6), .mv (.t 30), none⟩,
     ⟨(some 7), .mv (.t 31), none⟩])
  (.seq (.reg [⟨(some 33), .ld (some 330) (.t 5), none⟩,
     ⟨(some 34), .call "roundhouse/pool.Find" [(.t 33), (.c (.int .i64 3)), (.c (.int .i64 4))], none⟩,
     ⟨(some 32), .mv (.t 34), none⟩,
     ⟨(some 35), .ext 0 (.t 32), none⟩,
     ⟨(some 36), .ext 1 (.t 32), none⟩,
     ⟨(some 8), .mv (.t 35), none⟩,
     ⟨(some 9), .mv (.t 36), none⟩])
  (.seq (.reg [⟨(some 38), .ld (some 330) (.t 5), none⟩,
     ⟨(some 39), .bld [(5, (.int .i64 0)), (2, (.int .u64 0))] [(0, 1, (.c (.int .i64 5))), (1, 1, (.c (.int .i64 5)))], none⟩,
     ⟨(some 40), .call "roundhouse/pool.Apply" [(.t 38), (.t 39)], none⟩,
     ⟨(some 37), .mv (.t 40), none⟩,
     ⟨(some 41), .ext 0 (.t 37), none⟩,
     ⟨(some 42), .ext 1 (.t 37), none⟩,
     ⟨(some 10), .new [(324, (.int .i64 0)), (6, (.int .u64 0))], none⟩,
     ⟨none, .st 330 (.t 10) (.t 41), none⟩,
     ⟨(some 11), .mv (.t 42), none⟩])
  (.seq (.reg [⟨(some 43), .mv (.t 2), none⟩,
     ⟨(some 44), .bin .eql (.t 43) (.c (.int .i64 0)), none⟩,
     ⟨(some 45), .mv (.t 44), none⟩,
     ⟨(some 46), .mv (.t 4), some (45, true)⟩,
     ⟨(some 47), .un .not (.t 46), some (45, true)⟩,
     ⟨(some 48), .pick (.t 45) (.t 47) (.c (.bool false)), none⟩,
     ⟨(some 49), .mv (.t 48), none⟩,
     ⟨(some 50), .fad 323 (.t 1), some (49, true)⟩,
     ⟨(some 51), .fad 0 (.t 50), some (49, true)⟩,
     ⟨(some 52), .ld none (.t 51), some (49, true)⟩,
     ⟨(some 53), .bin .eql (.t 52) (.c (.int .i64 1)), some (49, true)⟩,
     ⟨(some 54), .pick (.t 49) (.t 53) (.c (.bool false)), none⟩,
     ⟨(some 55), .mv (.t 54), none⟩,
     ⟨(some 56), .mv (.t 7), some (55, true)⟩,
     ⟨(some 57), .bin .eql (.t 56) (.c (.int .i64 0)), some (55, true)⟩,
     ⟨(some 58), .pick (.t 55) (.t 57) (.c (.bool false)), none⟩,
     ⟨(some 59), .mv (.t 58), none⟩,
     ⟨(some 60), .mv (.t 6), some (59, true)⟩,
     ⟨(some 61), .bin .eql (.t 60) (.c (.int .i64 2)), some (59, true)⟩,
     ⟨(some 62), .pick (.t 59) (.t 61) (.c (.bool false)), none⟩,
     ⟨(some 63), .mv (.t 62), none⟩,
     ⟨(some 64), .fad 0 (.t 5), some (63, true)⟩,
     ⟨(some 65), .ld none (.t 64), some (63, true)⟩,
     ⟨(some 66), .bin .eql (.t 65) (.c (.int .i64 2)), some (63, true)⟩,
     ⟨(some 67), .pick (.t 63) (.t 66) (.c (.bool false)), none⟩,
     ⟨(some 68), .mv (.t 67), none⟩,
     ⟨(some 69), .mv (.t 9), some (68, true)⟩,
     ⟨(some 70), .pick (.t 68) (.t 69) (.c (.bool false)), none⟩,
     ⟨(some 71), .mv (.t 70), none⟩,
     ⟨(some 72), .mv (.t 8), some (71, true)⟩,
     ⟨(some 73), .bin .eql (.t 72) (.c (.int .i64 5)), some (71, true)⟩,
     ⟨(some 74), .pick (.t 71) (.t 73) (.c (.bool false)), none⟩,
     ⟨(some 75), .mv (.t 74), none⟩,
     ⟨(some 76), .fad 3 (.t 5), some (75, true)⟩,
     ⟨(some 77), .iadA 64 5 (.t 76) (.c (.int .i64 5)), some (75, true)⟩,
     ⟨(some 78), .ld (some 5) (.t 77), some (75, true)⟩,
     ⟨(some 79), .call "roundhouse/pool.Takes" [(.t 78)], some (75, true)⟩,
     ⟨(some 80), .pick (.t 75) (.t 79) (.c (.bool false)), none⟩,
     ⟨(some 81), .mv (.t 80), none⟩,
     ⟨(some 82), .mv (.t 11), some (81, true)⟩,
     ⟨(some 83), .bin .eql (.t 82) (.c (.int .i64 12)), some (81, true)⟩,
     ⟨(some 84), .pick (.t 81) (.t 83) (.c (.bool false)), none⟩,
     ⟨(some 85), .mv (.t 84), none⟩,
     ⟨(some 86), .bld [(5, (.int .i64 0))] [], some (85, true)⟩,
     ⟨(some 87), .call "roundhouse/pool.Takes" [(.t 86)], some (85, true)⟩,
     ⟨(some 88), .un .not (.t 87), some (85, true)⟩,
     ⟨(some 89), .pick (.t 85) (.t 88) (.c (.bool false)), none⟩,
     ⟨(some 0), .mv (.t 89), none⟩])
  .ret)))))))⟩
end Go.Rh

set_option linter.unusedSimpArgs false
set_option linter.unusedVariables false
set_option maxRecDepth 100000
set_option maxHeartbeats 8000000
namespace Go.Rh
def outS (n lo hi : Int) : Bool := decide (n < lo) || decide (n > hi)
theorem outC {P : Program} (hc : codeOf P "roundhouse/roundhouseref6.out" = some c_ref6_out) (n lo hi : Int) :
    Env P "roundhouse/roundhouseref6.out" [.int .i64 n, .int .i64 lo, .int .i64 hi] [] (Ans (.bool (outS n lo hi)) []) := by
  refine Env.of hc ?_
  unfold wpF c_ref6_out
  refine wpOps_all (s' := _) rfl (seq_go ?_)
  refine wpC_seq (wpOps_n (s' := _) 4 rfl (wpOps_split (b := decide (n < lo)) 10 rfl (fun h => ?_) (fun h => ?_)))
  · refine wpOps_all (s' := _) rfl (seq_go ?_)
    exact fin_ans [.bool true] rfl rfl (by simp only [one, outS, h, Bool.true_or]) rfl rfl
  · refine wpOps_all (s' := _) rfl (seq_go ?_)
    exact fin_ans [.bool (decide (n > hi))] rfl rfl (by simp only [one, outS, h, Bool.false_or]) rfl rfl
theorem refNextC {P : Program} (hc : codeOf P "roundhouse/roundhouseref5.Next" = some c_ref5_Next) {x0 y1 y2 y3 y4 y5 y6 k1 k2 : Int} :
    Env P "roundhouse/roundhouseref5.Next" [.agg #[.int .i64 x0, .int .u64 y1, .int .u64 y2, .int .u64 y3, .int .u64 y4, .int .u64 y5, .int .u64 y6], .agg #[.int .u64 k1, .int .u64 k2]] []
      (Ans (.agg #[.int .i64 (IntKind.i64.wrap (x0 + 1)), .int .u64 y3, .int .u64 y4, .int .u64 y5, .int .u64 y6, .int .u64 k1, .int .u64 k2]) []) := by
  refine Env.of hc ?_
  unfold wpF c_ref5_Next
  refine wpOps_all (s' := _) rfl (seq_go ?_)
  refine wpOps_all (s' := _) rfl (seq_go ?_)
  exact fin_ans [.agg #[.int .i64 (IntKind.i64.wrap (x0 + 1)), .int .u64 y3, .int .u64 y4, .int .u64 y5, .int .u64 y6, .int .u64 k1, .int .u64 k2]] rfl rfl rfl rfl rfl
def keyA (n : Int) : Int := IntKind.u64.wrap (IntKind.u64.wrap n * 11400714819323198485)
def keyB (n : Int) : Int := IntKind.u64.wrap (BitVec.ofInt IntKind.u64.bits (IntKind.u64.wrap n) ^^^ BitVec.ofInt IntKind.u64.bits 19088743).toNat
def keyV (n : Int) : Value := .agg #[.int .u64 (keyA n), .int .u64 (keyB n)]
theorem KeyC {P : Program} (hc : codeOf P "roundhouse/roundhouselaw5.Key" = some c_law5_Key) (n : Int) :
    Env P "roundhouse/roundhouselaw5.Key" [.int .i64 n] [] (Ans (keyV n) []) := by
  refine Env.of hc ?_
  unfold wpF c_law5_Key
  refine wpOps_all (s' := _) rfl (seq_go ?_)
  refine wpOps_all (s' := _) rfl (seq_go ?_)
  exact fin_ans [keyV n] rfl rfl rfl rfl rfl
def withinS (at_ n : Int) : Int := if at_.tmod n < 0 then IntKind.i64.wrap (at_.tmod n + n) else at_.tmod n
theorem withinC {P : Program} (hc : codeOf P "roundhouse/roundhouselaw6.within" = some c_law6_within) (x n : Int) (hn : n ≠ 0) :
    Env P "roundhouse/roundhouselaw6.within" [.int .i64 x, .int .i64 n] [] (Ans (.int .i64 (withinS x n)) []) := by
  refine Env.of hc ?_
  unfold wpF c_law6_within
  refine wpOps_all (s' := _) rfl (seq_go ?_)
  refine wpC_seq (wpOps_n (s' := _) 2 rfl (wpOps_step (v := .int .i64 (x.tmod n)) (e := .no) rfl ?_ ?_))
  · show (match (if n = 0 then (none : Option Value) else some (.int .i64 (x.tmod n))) with | some v => some (v, Eff.no) | none => none) = _
    rw [if_neg hn]
  refine wpOps_all (s' := _) rfl (seq_go ?_)
  refine wpC_cut (fun s => s = ⟨reg [(5, .int .i64 (withinS x n))], []⟩) ?_ ?_
  · refine wpC_seq (wpOps_all (s' := _) rfl (seq_go (wpC_cond (t := decide (x.tmod n < 0)) rfl (fun h => ?_) (fun h => ?_))))
    · have h := of_decide_eq_true h
      refine wpOps_all (s' := _) rfl ?_
      exact ⟨_, Wk.to (l := [(5, .int .i64 (withinS x n))]) (hs := []) (Nat.zero_le _) rfl ⟨⟨by simp only [withinS, if_pos h]; rfl, rfl⟩, trivial⟩ rfl, rfl⟩
    · have h := of_decide_eq_false h
      exact ⟨_, Wk.to (l := [(5, .int .i64 (withinS x n))]) (hs := []) (Nat.zero_le _) rfl ⟨⟨by simp only [withinS, if_neg h]; rfl, rfl⟩, trivial⟩ rfl, rfl⟩
  · rintro s rfl
    refine wpOps_all (s' := _) rfl (seq_go ?_)
    exact fin_ans [.int .i64 (withinS x n)] rfl rfl rfl rfl rfl
end Go.Rh

set_option linter.unusedSimpArgs false
set_option linter.unusedVariables false
set_option maxRecDepth 100000
set_option maxHeartbeats 8000000
namespace Go.Rh
def takesS (x : Int) : Bool := x == 1 || (x == 2 || x == 3)
theorem refTakesC {P : Program} (hc : codeOf P "roundhouse/roundhouseref6.Takes" = some c_ref6_Takes) (x0 x1 x2 x3 x4 : Int) :
    Env P "roundhouse/roundhouseref6.Takes" [.agg #[.int .i64 x0, .int .i64 x1, .int .i64 x2, .int .i64 x3, .int .i64 x4]] [] (Ans (.bool (takesS x0)) []) := by
  refine Env.of hc ?_
  unfold wpF c_ref6_Takes
  refine wpOps_all (s' := _) rfl (seq_go ?_)
  refine wpC_seq (wpOps_n (s' := _) 4 rfl (wpOps_split (b := x0 == 1) 6 rfl (fun h => ?_) (fun h => ?_)))
  · refine wpOps_all (s' := _) rfl (seq_go ?_)
    exact fin_ans [.bool true] rfl rfl (by simp only [one, takesS, h, Bool.true_or]) rfl rfl
  · refine wpOps_n (s' := _) 5 rfl (wpOps_split (b := x0 == 2) 11 rfl (fun h2 => ?_) (fun h2 => ?_))
    · refine wpOps_all (s' := _) rfl (seq_go ?_)
      exact fin_ans [.bool true] rfl rfl (by simp only [one, takesS, h, h2, Bool.true_or, Bool.or_true]) rfl rfl
    · refine wpOps_all (s' := _) rfl (seq_go ?_)
      exact fin_ans [.bool (x0 == 3)] rfl rfl (by simp only [one, takesS, h, h2, Bool.false_or]) rfl rfl
theorem out_placed (a p : Int) : (outS a 0 4294967295 || outS p 0 65535) = !(placedS a p) := by
  simp only [outS, placedS]
  by_cases h1 : a < 0 <;> by_cases h2 : a > 4294967295 <;> by_cases h3 : p < 0 <;> by_cases h4 : p > 65535 <;> simp [h1, h2, h3, h4] <;> omega
theorem refCheckC {P : Program} (hc : codeOf P "roundhouse/roundhouseref6.Check" = some c_ref6_Check) (hout : codeOf P "roundhouse/roundhouseref6.out" = some c_ref6_out) (e : Ent) :
    Env P "roundhouse/roundhouseref6.Check" [entV e] [] (Ans (.int .i64 (checkS e)) []) := by
  refine Env.of hc ?_
  unfold wpF c_ref6_Check
  have hb : ([.cells (eL e) true] : List Blk).all (bbel 1) = true := by simp [bbel, eL, sbel]
  have fin : ∀ (x : Int) (s : St), checkS e = x → s.f 2 = .int .i64 x → True ∧ ∃ l', resV s [.tmp 2] = some l' ∧ (∀ v ∈ l', isTup v = false) ∧ (Ans (.int .i64 (checkS e)) [] (one l') s.h ∨ (vpf (one l') = true ∧ (∀ b ∈ s.h.take 0, blkf b = true) ∧ Ans (.int .i64 (checkS e)) [] (one l') (s.h.take 0))) := by
    intro x s hx h2
    exact fin_ans [.int .i64 x] (by simp [resV, h2]) rfl (by rw [hx]; rfl) rfl rfl
  refine wpOps_all (s' := _) rfl (seq_to [(1, .pointer (some ⟨0, 0, none⟩))] [.cells (eL e) true] (Nat.zero_le _) rfl ⟨⟨rfl, rfl⟩, trivial⟩ hb ?_)
  refine wpC_seq (wpD_all (log' := _) (s' := _) rfl (seq_to [(1, .pointer (some ⟨0, 0, none⟩)), (3, .bool (e.k == 1)), (4, .bool (e.k == 6))] [.cells (eL e) true] (Nat.zero_le _) rfl ⟨⟨rfl, rfl⟩, ⟨rfl, rfl⟩, ⟨rfl, rfl⟩, trivial⟩ hb ?_))
  have tob : ∀ (t : Nat) (b : Bool) (s : St), s.f 1 = .pointer (some ⟨0, 0, none⟩) → s.f 3 = .bool (e.k == 1) → s.f 4 = .bool (e.k == 6) → s.f t = .bool b → s.h.take 1 = [.cells (eL e) true] →
      ∃ s0, Wk 0 s s0 ∧ s0 = ⟨reg [(1, .pointer (some ⟨0, 0, none⟩)), (3, .bool (e.k == 1)), (4, .bool (e.k == 6)), (t, .bool b)], [.cells (eL e) true]⟩ := by
    intro t b s h1 h3 h4 ht hh
    exact ⟨_, Wk.to (l := [(1, .pointer (some ⟨0, 0, none⟩)), (3, .bool (e.k == 1)), (4, .bool (e.k == 6)), (t, .bool b)]) (hs := [.cells (eL e) true]) (Nat.zero_le _) hh ⟨⟨h1, rfl⟩, ⟨h3, rfl⟩, ⟨h4, rfl⟩, ⟨ht, rfl⟩, trivial⟩ hb, rfl⟩
  refine wpC_seq (wpC_block (wpC_seq (wpOps_n (s' := _) 2 rfl (wpOps_call (callV (outC hout e.k 1 6) rfl rfl rfl ?_)))))
  refine wpOps_all (s' := _) rfl (seq_go (wpC_cond (t := outS e.k 1 6) rfl (fun h1 => ?_) (fun h1 => ?_)))
  · refine wpC_seq (wpOps_all (s' := _) rfl (seq_go (fin 2 _ ?_ rfl)))
    have : e.k < 1 ∨ 6 < e.k := by simpa [outS] using h1
    simp [checkS, this]
  have h1 : ¬ (e.k < 1 ∨ 6 < e.k) := by
    intro h; have : outS e.k 1 6 = true := by simpa [outS] using h
    rw [this] at h1; cases h1
  refine wpC_cut (fun s => s = ⟨reg [(1, .pointer (some ⟨0, 0, none⟩)), (3, .bool (e.k == 1)), (4, .bool (e.k == 6)), (15, .bool (outS e.s 0 63 || (e.k == 6 && e.s != 0)))], [.cells (eL e) true]⟩) ?_ ?_
  · refine wpOps_n (s' := _) 2 rfl (wpOps_call (callV (outC hout e.s 0 63) rfl rfl rfl ?_))
    refine wpOps_n (s' := _) 1 rfl (wpOps_split (b := outS e.s 0 63) 19 rfl (fun h => ?_) (fun h => ?_))
    · have hB : (outS e.s 0 63 || (e.k == 6 && e.s != 0)) = true := by rw [h]; rfl
      rw [hB]
      exact wpOps_all (s' := _) rfl (tob 15 true _ rfl rfl rfl rfl rfl)
    · refine wpOps_n (s' := _) 2 rfl (wpOps_split (b := e.k == 6) 21 rfl (fun h2 => ?_) (fun h2 => ?_))
      · have hB : (outS e.s 0 63 || (e.k == 6 && e.s != 0)) = (e.s != 0) := by rw [h, h2]; rfl
        rw [hB]
        exact wpOps_all (s' := _) rfl (tob 15 (e.s != 0) _ rfl rfl rfl rfl rfl)
      · have hB : (outS e.s 0 63 || (e.k == 6 && e.s != 0)) = false := by rw [h, h2]; rfl
        rw [hB]
        exact wpOps_all (s' := _) rfl (tob 15 false _ rfl rfl rfl rfl rfl)
  rintro s rfl
  refine wpC_cond (t := (outS e.s 0 63 || (e.k == 6 && e.s != 0))) rfl (fun h2 => ?_) (fun h2 => ?_)
  · refine wpC_seq (wpOps_all (s' := _) rfl (seq_go (fin 11 _ ?_ rfl)))
    have : e.s < 0 ∨ 64 ≤ e.s ∨ (e.k = 6 ∧ e.s ≠ 0) := by
      simp [outS] at h2; omega
    simp only [checkS, h1, this, if_true, if_false]
  have hs1 : ¬ (e.s < 0 ∨ 64 ≤ e.s ∨ (e.k = 6 ∧ e.s ≠ 0)) := by
    simp [outS] at h2; omega
  refine wpC_cut (fun s => s = ⟨reg [(1, .pointer (some ⟨0, 0, none⟩)), (3, .bool (e.k == 1)), (4, .bool (e.k == 6)), (27, .bool (e.k == 1 && ((outS e.a 0 4294967295 || outS e.p 0 65535) || outS e.g 1 8)))], [.cells (eL e) true]⟩) ?_ ?_
  · generalize hB : (e.k == 1 && ((outS e.a 0 4294967295 || outS e.p 0 65535) || outS e.g 1 8)) = B
    refine wpOps_n (s' := _) 2 rfl (wpOps_split (b := e.k == 1) 29 rfl (fun g1 => ?_) (fun g1 => ?_))
    · refine wpOps_n (s' := _) 2 rfl (wpOps_unguard rfl (wpOps_call (callV (outC hout e.a 0 4294967295) rfl rfl rfl ?_)))
      refine wpOps_n (s' := _) 1 rfl (wpOps_split (b := outS e.a 0 4294967295) 33 rfl (fun g2 => ?_) (fun g2 => ?_))
      · have : B = true := by rw [← hB, g1, g2]; rfl
        subst this
        exact wpOps_all (s' := _) rfl (tob 27 true _ rfl rfl rfl rfl rfl)
      · refine wpOps_n (s' := _) 2 rfl (wpOps_unguard rfl (wpOps_call (callV (outC hout e.p 0 65535) rfl rfl rfl ?_)))
        refine wpOps_n (s' := _) 2 rfl (wpOps_split (b := outS e.p 0 65535) 38 rfl (fun g3 => ?_) (fun g3 => ?_))
        · have : B = true := by rw [← hB, g1, g2, g3]; rfl
          subst this
          exact wpOps_all (s' := _) rfl (tob 27 true _ rfl rfl rfl rfl rfl)
        · have : B = outS e.g 1 8 := by rw [← hB, g1, g2, g3]; rfl
          subst this
          refine wpOps_n (s' := _) 2 rfl (wpOps_unguard rfl (wpOps_call (callV (outC hout e.g 1 8) rfl rfl rfl ?_)))
          exact wpOps_all (s' := _) rfl (tob 27 (outS e.g 1 8) _ rfl rfl rfl rfl rfl)
    · have : B = false := by rw [← hB, g1]; rfl
      subst this
      exact wpOps_all (s' := _) rfl (tob 27 false _ rfl rfl rfl rfl rfl)
  rintro s rfl
  refine wpC_cond (t := (e.k == 1 && ((outS e.a 0 4294967295 || outS e.p 0 65535) || outS e.g 1 8))) rfl (fun h3 => ?_) (fun h3 => ?_)
  · refine wpC_seq (wpOps_all (s' := _) rfl (seq_go (fin 14 _ ?_ rfl)))
    rw [out_placed] at h3
    have : e.k = 1 ∧ (placedS e.a e.p = false ∨ e.g < 1 ∨ 8 < e.g) := by simpa [outS] using h3
    unfold checkS; rw [if_neg h1, if_neg hs1, if_pos this]
  have hp1 : ¬ (e.k = 1 ∧ (placedS e.a e.p = false ∨ e.g < 1 ∨ 8 < e.g)) := by
    intro h
    rw [out_placed] at h3
    have : (e.k == 1 && (!placedS e.a e.p || outS e.g 1 8)) = true := by simpa [outS] using h
    rw [this] at h3; cases h3
  refine wpC_cut (fun s => s = ⟨reg [(1, .pointer (some ⟨0, 0, none⟩)), (3, .bool (e.k == 1)), (4, .bool (e.k == 6)), (44, .bool ((!(e.k == 1) && ((e.a != 0 || e.p != 0) || e.g != 0)) || (!(e.k == 6) && !(e.ka == 0 && (e.kb == 0 && true)))))], [.cells (eL e) true]⟩) ?_ ?_
  · generalize hB : ((!(e.k == 1) && ((e.a != 0 || e.p != 0) || e.g != 0)) || (!(e.k == 6) && !(e.ka == 0 && (e.kb == 0 && true)))) = B
    have tail : ∀ (s : St), (!(e.k == 1) && ((e.a != 0 || e.p != 0) || e.g != 0)) = false → s = s → True := fun _ _ _ => trivial
    refine wpOps_n (s' := _) 3 rfl (wpOps_split (b := !(e.k == 1)) 47 rfl (fun g1 => ?_) (fun g1 => ?_))
    · refine wpOps_n (s' := _) 4 rfl (wpOps_split (b := e.a != 0) 51 rfl (fun g2 => ?_) (fun g2 => ?_))
      · have : B = true := by rw [← hB, g1, g2]; rfl
        subst this
        exact wpOps_all (s' := _) rfl (tob 44 true _ rfl rfl rfl rfl rfl)
      · refine wpOps_n (s' := _) 5 rfl (wpOps_split (b := e.p != 0) 56 rfl (fun g3 => ?_) (fun g3 => ?_))
        · have : B = true := by rw [← hB, g1, g2, g3]; rfl
          subst this
          exact wpOps_all (s' := _) rfl (tob 44 true _ rfl rfl rfl rfl rfl)
        · refine wpOps_n (s' := _) 6 rfl (wpOps_split (b := e.g != 0) 62 rfl (fun g4 => ?_) (fun g4 => ?_))
          · have : B = true := by rw [← hB, g1, g2, g3, g4]; rfl
            subst this
            exact wpOps_all (s' := _) rfl (tob 44 true _ rfl rfl rfl rfl rfl)
          · refine wpOps_n (s' := _) 3 rfl (wpOps_split (b := !(e.k == 6)) 65 rfl (fun g5 => ?_) (fun g5 => ?_))
            · have : B = !(e.ka == 0 && (e.kb == 0 && true)) := by rw [← hB, g1, g2, g3, g4, g5]; rfl
              subst this
              exact wpOps_all (s' := _) rfl (tob 44 (!(e.ka == 0 && (e.kb == 0 && true))) _ rfl rfl rfl rfl rfl)
            · have : B = false := by rw [← hB, g1, g2, g3, g4, g5]; rfl
              subst this
              exact wpOps_all (s' := _) rfl (tob 44 false _ rfl rfl rfl rfl rfl)
    · refine wpOps_n (s' := _) 18 rfl (wpOps_split (b := !(e.k == 6)) 65 rfl (fun g5 => ?_) (fun g5 => ?_))
      · have : B = !(e.ka == 0 && (e.kb == 0 && true)) := by rw [← hB, g1, g5]; rfl
        subst this
        exact wpOps_all (s' := _) rfl (tob 44 (!(e.ka == 0 && (e.kb == 0 && true))) _ rfl rfl rfl rfl rfl)
      · have : B = false := by rw [← hB, g1, g5]; rfl
        subst this
        exact wpOps_all (s' := _) rfl (tob 44 false _ rfl rfl rfl rfl rfl)
  have h5 : ((!(e.k == 1) && ((e.a != 0 || e.p != 0) || e.g != 0)) || (!(e.k == 6) && !(e.ka == 0 && (e.kb == 0 && true)))) = decide ((e.k ≠ 1 ∧ (e.a ≠ 0 ∨ e.p ≠ 0 ∨ e.g ≠ 0)) ∨ (e.k ≠ 6 ∧ (e.ka ≠ 0 ∨ e.kb ≠ 0))) := by
    by_cases q1 : e.k = 1 <;> by_cases q2 : e.a = 0 <;> by_cases q3 : e.p = 0 <;> by_cases q4 : e.g = 0 <;> by_cases q5 : e.k = 6 <;> by_cases q6 : e.ka = 0 <;> by_cases q7 : e.kb = 0 <;> simp [q1, q2, q3, q4, q5, q6, q7]
  rintro s rfl
  refine wpC_cond (t := ((!(e.k == 1) && ((e.a != 0 || e.p != 0) || e.g != 0)) || (!(e.k == 6) && !(e.ka == 0 && (e.kb == 0 && true))))) rfl (fun h4 => ?_) (fun h4 => ?_)
  · refine wpC_seq (wpOps_all (s' := _) rfl (seq_go (fin 14 _ ?_ rfl)))
    rw [h5] at h4
    unfold checkS; rw [if_neg h1, if_neg hs1, if_neg hp1, if_pos (of_decide_eq_true h4)]
  · refine seq_go (wpOps_all (s' := _) rfl (seq_go (fin 0 _ ?_ rfl)))
    rw [h5] at h4
    unfold checkS; rw [if_neg h1, if_neg hs1, if_neg hp1, if_neg (of_decide_eq_false h4)]
end Go.Rh
