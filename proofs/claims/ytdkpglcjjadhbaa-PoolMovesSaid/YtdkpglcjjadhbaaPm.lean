/- Pools: a slot's states (PoolMoves). -/
import Derived.Test.YtdkpglcjjadhbaaMe
set_option linter.unusedSimpArgs false
set_option linter.unusedVariables false
set_option maxRecDepth 100000
set_option maxHeartbeats 4000000
namespace Go.Rh
def rotE (k : Int) : Ent := ⟨6, 0, 0, 0, 0, keyA k, keyB k⟩
def rots2 (a i : Nat) : List Ent := (List.range' a (i - a)).map fun (k : Nat) => rotE (k : Int)
theorem rots2_self (a : Nat) : rots2 a a = [] := by simp [rots2]
theorem rots2_snoc {a i : Nat} (h : a ≤ i) : rots2 a (i + 1) = rots2 a i ++ [⟨6, 0, 0, 0, 0, keyA (i : Nat), keyB (i : Nat)⟩] := by
  have h1 : i + 1 - a = (i - a) + 1 := by omega
  have h2 : a + (i - a) = i := by omega
  simp only [rots2, h1, List.range'_1_concat, List.map_append, List.map_cons, List.map_nil, h2]
  rfl
theorem rots2_len (a i : Nat) : (rots2 a i).length = i - a := by simp [rots2]
def stE (st s : Int) : List Ent := if st = 0 then [] else if st = 1 then [⟨1, s, 3, 4, 5, 0, 0⟩] else if st = 2 then [⟨1, s, 3, 4, 5, 0, 0⟩, ⟨2, s, 0, 0, 0, 0, 0⟩] else if st = 3 then [⟨1, s, 3, 4, 5, 0, 0⟩, ⟨2, s, 0, 0, 0, 0, 0⟩, ⟨3, s, 0, 0, 0, 0, 0⟩] else [⟨1, s, 3, 4, 5, 0, 0⟩, ⟨4, s, 0, 0, 0, 0, 0⟩]
def p0M : Flat := (newP 10 80 (keyA 1) (keyB 1) (keyA 2) (keyB 2)).1
/-- The slot s is in the state st; all others are free. -/
structure MV (c : Flat) (s st S E : Int) : Prop where
  pl : c 1 = 10 ∧ c 2 = 80
  oth : ∀ k, k < 64 → k ≠ s.toNat → c (3 + 5 * k) = 0
  cur : c (3 + 5 * s.toNat) = st
  at_ : st ≠ 0 → c (3 + 5 * s.toNat + 1) = 3 ∧ c (3 + 5 * s.toNat + 2) = 4
  si : st = 4 → c (3 + 5 * s.toNat + 4) = S
  ep : c 323 = E
theorem mv_new {s S : Int} (hs : 0 ≤ s ∧ s < 64) : MV p0M s 0 S 1 := by
  have hp : placedS 10 80 = true := by decide
  have e : p0M = newS 10 80 (keyA 1) (keyB 1) (keyA 2) (keyB 2) := by simp only [p0M, newP, hp, if_true]
  rw [e]
  refine ⟨⟨rfl, rfl⟩, fun k hk _ => newS_at _ _ _ _ _ _ (by omega), newS_at _ _ _ _ _ _ (by omega), fun h => absurd rfl h, fun h => absurd h (by decide), rfl⟩
theorem mv_rot {c : Flat} {s st S E : Int} (M : MV c s st S E) (hs : 0 ≤ s ∧ s < 64) (hE : 0 ≤ E ∧ E ≤ 1000) (k : Int) : (applyS c (rotE k)).2 = 0 ∧ MV (applyS c (rotE k)).1 s st S (E + 1) := by
  have e0 : (applyS c (rotE k)).2 = 0 := by unfold rotE; rw [apply_rot]
  refine ⟨e0, ?_⟩
  have hd : ∀ {i : Nat}, 1 ≤ i ∧ i < 323 → (applyS c (rotE k)).1 i = c i := fun hi => by rw [(apply_ok e0).1]; exact done6 rfl hi
  refine ⟨?_, fun k' hk hne => ?_, ?_, fun h => ?_, fun h => ?_, ?_⟩
  · rw [hd (by omega), hd (by omega)]; exact M.pl
  · rw [hd (by omega)]; exact M.oth k' hk hne
  · rw [hd (by omega)]; exact M.cur
  · rw [hd (by omega), hd (by omega)]; exact M.at_ h
  · rw [hd (by omega)]; exact M.si h
  · rw [(apply_ok e0).1, done6e rfl, M.ep, w64 (by omega) (by omega)]
theorem mv_do {c : Flat} {s st S E : Int} {e : Ent} (M : MV c s st S E) (hs : 0 ≤ s ∧ s < 64) (hes : e.s = s) (hk : 1 ≤ e.k ∧ e.k ≤ 5) (h0 : (applyS c e).2 = 0) (h1 : e.k = 1 → e.a = 3 ∧ e.p = 4) (hst : e.k ≠ 1 → e.k ≠ 5 → st ≠ 0) (h4 : e.k = 4 → S = E) :
    MV (applyS c e).1 s (if e.k = 5 then 0 else e.k) S E := by
  obtain ⟨x0, x1, x2, x3, x4, hd, g1, g5, g3⟩ := done_set c e hk
  rw [(apply_ok h0).1, hd, hes]
  have hs64 : s.toNat < 64 := by omega
  have u : ∀ {i : Nat}, 0 < i → upd c 0 (IntKind.i64.wrap (c 0 + 1)) i = c i := fun hi => upd_ne _ _ (by omega)
  rw [hes] at g3
  refine ⟨?_, fun k hk hne => ?_, ?_, fun h => ?_, fun h => ?_, ?_⟩
  · rw [ssN _ _ _ _ _ _ hs64 (by omega), ssN _ _ _ _ _ _ hs64 (by omega), u (by omega), u (by omega)]; exact M.pl
  · rw [ss0, if_neg hne, u (by omega)]; exact M.oth k hk hne
  · rw [ss0, if_pos rfl]
    by_cases q5 : e.k = 5
    · rw [if_pos q5]; exact (g5 q5).1
    by_cases q1 : e.k = 1
    · rw [if_neg q5, (g1 q1).1, q1]
    · rw [if_neg q5]; exact (g3 q1 q5).1
  · rw [ss1, ss2, if_pos rfl, if_pos rfl]
    by_cases q5 : e.k = 5
    · rw [if_pos q5] at h; exact absurd rfl h
    by_cases q1 : e.k = 1
    · obtain ⟨_, z1, z2, _⟩ := g1 q1
      rw [z1, z2]; exact h1 q1
    · obtain ⟨_, z1, z2, _⟩ := g3 q1 q5
      rw [z1, z2]; exact M.at_ (hst q1 q5)
  · rw [ss4, if_pos rfl]
    by_cases q5 : e.k = 5
    · rw [if_pos q5] at h; cases h
    rw [if_neg q5] at h
    obtain ⟨_, _, _, _, z4, _⟩ := g3 (by omega) q5
    rw [z4 h, M.ep]; exact (h4 h).symm
  · rw [ssN _ _ _ _ _ _ hs64 (by omega), u (by omega)]; exact M.ep
theorem mv_held {c : Flat} {s st S E a p : Int} (M : MV c s st S E) (hs : 0 ≤ s ∧ s < 64) (h0 : st = 0) (hp : ¬ (10 = a ∧ 80 = p)) : heldS c a p = false := by
  have hz : ∀ k, k < 64 → c (3 + 5 * k) = 0 := fun k hk => by
    by_cases e : k = s.toNat
    · rw [e, M.cur, h0]
    · exact M.oth k hk e
  have ht : ∀ n, n ≤ 64 → heldTo c a p n = false := by
    intro n
    induction n with
    | zero => intro _; rfl
    | succ n ih =>
      intro hn
      simp only [heldTo, slotHas, hz n (by omega), ih (by omega)]
      rfl
  simp only [heldS, ht 64 (Nat.le_refl _), M.pl.1, M.pl.2, Bool.or_false]
  by_cases h1 : (10 : Int) = a
  · have h2 : ¬ (80 : Int) = p := fun h => hp ⟨h1, h⟩
    simp [h2]
  · simp [h1]
theorem mv_bind {c : Flat} {s st S E a p g : Int} (M : MV c s st S E) (hs : 0 ≤ s ∧ s < 64) (hp : ¬ (10 = a ∧ 80 = p)) (hpl : placedS a p = true) (hg : 1 ≤ g ∧ g ≤ 8) : (applyS c ⟨1, s, a, p, g, 0, 0⟩).2 = if st = 0 then 0 else 12 := by
  have c1 : checkS ⟨1, s, a, p, g, 0, 0⟩ = 0 := by simp [checkS, hpl]; omega
  rw [apply_snd]; simp only [errS, c1, fitsS]
  by_cases h : st = 0
  · have b : badS c ⟨1, s, a, p, g, 0, 0⟩ = false := by simp [badS, M.cur, h, mv_held M hs h hp]
    rw [b, if_pos h]; simp
  · have b : badS c ⟨1, s, a, p, g, 0, 0⟩ = true := by simp [badS, M.cur, h]
    rw [b, if_neg h]; simp
theorem mv_k {c : Flat} {s st S E k : Int} (M : MV c s st S E) (hs : 0 ≤ s ∧ s < 64) (hk : 2 ≤ k ∧ k ≤ 4) : (applyS c ⟨k, s, 0, 0, 0, 0, 0⟩).2 = if (k = 3 ∧ st = 2) ∨ (k ≠ 3 ∧ (st = 1 ∨ st = 3)) then 0 else 12 := by
  have c1 : checkS ⟨k, s, 0, 0, 0, 0, 0⟩ = 0 := by
    simp only [checkS]
    rw [if_neg (by omega), if_neg (by omega), if_neg (by omega), if_neg (by omega)]
  rw [apply_snd]; simp only [errS, c1, fitsS]
  have hk3 : k = 2 ∨ k = 3 ∨ k = 4 := by omega
  rcases hk3 with rfl | rfl | rfl <;> simp [badS, M.cur] <;> by_cases h1 : st = 1 <;> by_cases h2 : st = 2 <;> by_cases h3 : st = 3 <;> simp_all
theorem mv_free {c : Flat} {s st S E : Int} (M : MV c s st S E) (hs : 0 ≤ s ∧ s < 64) (hS : 0 ≤ S ∧ S ≤ 1000) : (applyS c ⟨5, s, 0, 0, 0, 0, 0⟩).2 = if st = 4 then (if E < S + 3 then 13 else 0) else 12 := by
  have c1 : checkS ⟨5, s, 0, 0, 0, 0, 0⟩ = 0 := by simp [checkS]; omega
  rw [apply_snd]; simp only [errS, c1, fitsS]
  by_cases h : st = 4
  · have b : badS c ⟨5, s, 0, 0, 0, 0, 0⟩ = false := by simp [badS, M.cur, h]
    have hw : IntKind.i64.wrap (S + 3) = S + 3 := w64 (by omega) (by omega)
    rw [b, if_pos h, M.ep, M.si h, hw]; simp
  · have b : badS c ⟨5, s, 0, 0, 0, 0, 0⟩ = true := by simp [badS, M.cur, h]
    rw [b, if_neg h]; simp
theorem allS_rots {s st S : Int} (hs : 0 ≤ s ∧ s < 64) : ∀ (l : List Nat) (c : Flat) (E : Int) (r : List Ent) (i : Nat), MV c s st S E → 0 ≤ E → E + l.length ≤ 1000 → ∃ c' j, MV c' s st S (E + l.length) ∧ (allS c (l.map (fun (k : Nat) => rotE (k : Int)) ++ r) i).1 = (allS c' r j).1
  | [], c, E, r, i, M, _, _ => ⟨c, i, by simpa using M, rfl⟩
  | k :: l, c, E, r, i, M, h0, h1 => by
    simp only [List.length_cons] at h1
    obtain ⟨e0, M'⟩ := mv_rot M hs ⟨h0, by omega⟩ (k : Int)
    obtain ⟨c', j, M2, e⟩ := allS_rots hs l _ _ r (i + 1) M' (by omega) (by omega)
    refine ⟨c', j, ?_, ?_⟩
    · rw [show E + ((k :: l).length : Nat) = E + 1 + (l.length : Nat) by simp; omega]; exact M2
    · simp only [List.map_cons, List.cons_append, allS, e0, if_true]; exact e
theorem allS_one {c : Flat} {e : Ent} {r : List Ent} {i : Nat} (h : (applyS c e).2 = 0) : (allS c (e :: r) i).1 = (allS (applyS c e).1 r (i + 1)).1 := by simp only [allS, h, if_true]
theorem allS_st {c : Flat} {s st E : Int} (hs : 0 ≤ s ∧ s < 64) (hst : 0 ≤ st ∧ st ≤ 4) (r : List Ent) (i : Nat) (M : MV c s 0 E E) : ∃ c' j, MV c' s st E E ∧ (allS c (stE st s ++ r) i).1 = (allS c' r j).1 := by
  have hb := mv_bind M hs (a := 3) (p := 4) (g := 5) (by decide) (by decide) (by decide)
  rw [if_pos rfl] at hb
  have M1 := mv_do M hs rfl ⟨by simp, by simp⟩ hb (fun _ => ⟨rfl, rfl⟩) (fun h => absurd rfl h) (fun h => by cases h)
  have M1 : MV (applyS c ⟨1, s, 3, 4, 5, 0, 0⟩).1 s 1 E E := M1
  have h5 : st = 0 ∨ st = 1 ∨ st = 2 ∨ st = 3 ∨ st = 4 := by omega
  rcases h5 with rfl | rfl | rfl | rfl | rfl
  · exact ⟨c, i, M, rfl⟩
  · exact ⟨_, _, M1, allS_one hb⟩
  all_goals skip
  · have h2 := mv_k M1 hs (k := 2) (by decide)
    rw [if_pos (by decide)] at h2
    have M2 := mv_do M1 hs rfl ⟨by simp, by simp⟩ h2 (fun h => by cases h) (fun _ _ => by decide) (fun h => by cases h)
    exact ⟨_, _, M2, (allS_one hb).trans (allS_one h2)⟩
  · have h2 := mv_k M1 hs (k := 2) (by decide)
    rw [if_pos (by decide)] at h2
    have M2 : MV (applyS (applyS c ⟨1, s, 3, 4, 5, 0, 0⟩).1 ⟨2, s, 0, 0, 0, 0, 0⟩).1 s 2 E E := mv_do M1 hs rfl ⟨by simp, by simp⟩ h2 (fun h => by cases h) (fun _ _ => by decide) (fun h => by cases h)
    have h3 := mv_k M2 hs (k := 3) (by decide)
    rw [if_pos (by decide)] at h3
    have M3 := mv_do M2 hs rfl ⟨by simp, by simp⟩ h3 (fun h => by cases h) (fun _ _ => by decide) (fun h => by cases h)
    exact ⟨_, _, M3, (allS_one hb).trans ((allS_one h2).trans (allS_one h3))⟩
  · have h2 := mv_k M1 hs (k := 4) (by decide)
    rw [if_pos (by decide)] at h2
    have M2 := mv_do M1 hs rfl ⟨by simp, by simp⟩ h2 (fun h => by cases h) (fun _ _ => by decide) (fun _ => rfl)
    exact ⟨_, _, M2, (allS_one hb).trans (allS_one h2)⟩
/-- The pool behind the entries of PoolMoves. -/
theorem moves_all {s st : Int} {tn : Nat} (hs : 0 ≤ s ∧ s < 64) (hst : 0 ≤ st ∧ st ≤ 4) (ht : tn < 3) : MV (allS p0M ((rots2 0 tn ++ stE st s) ++ rots2 tn 3) 0).1 s st ((tn : Int) + 1) 4 := by
  obtain ⟨c1, j1, M1, e1⟩ := allS_rots hs (List.range' 0 (tn - 0)) p0M 1 (stE st s ++ rots2 tn 3) 0 (mv_new (S := (tn : Int) + 1) hs) (by decide) (by simp; omega)
  have hl : (1 : Int) + ((List.range' 0 (tn - 0)).length : Nat) = (tn : Int) + 1 := by simp; omega
  rw [hl] at M1
  obtain ⟨c2, j2, M2, e2⟩ := allS_st hs hst (rots2 tn 3) j1 M1
  obtain ⟨c3, j3, M3, e3⟩ := allS_rots hs (List.range' tn (3 - tn)) c2 _ [] j2 M2 (by omega) (by simp; omega)
  have hl2 : ((tn : Int) + 1) + ((List.range' tn (3 - tn)).length : Nat) = 4 := by simp; omega
  rw [hl2] at M3
  have e : (allS p0M ((rots2 0 tn ++ stE st s) ++ rots2 tn 3) 0).1 = c3 := by
    rw [List.append_assoc]
    refine e1.trans (e2.trans ?_)
    have := e3
    rw [List.append_nil] at this
    exact this
  rw [e]; exact M3
theorem moves_to {c : Flat} {s st S E : Int} {e : Ent} (M : MV c s st S E) (hs : 0 ≤ s ∧ s < 64) (hes : e.s = s) (hk : 1 ≤ e.k ∧ e.k ≤ 5) (h0 : (applyS c e).2 = 0) : (applyS c e).1 (3 + 5 * s.toNat) = if e.k = 5 then 0 else e.k := by
  obtain ⟨x0, x1, x2, x3, x4, hd, g1, g5, g3⟩ := done_set c e hk
  rw [(apply_ok h0).1, hd, hes, ss0, if_pos rfl]
  by_cases q5 : e.k = 5
  · rw [if_pos q5]; exact (g5 q5).1
  by_cases q1 : e.k = 1
  · rw [if_neg q5, (g1 q1).1, q1]
  · rw [if_neg q5]; exact (g3 q1 q5).1
theorem moves_rot {c : Flat} {s st S E : Int} (M : MV c s st S E) (hs : 0 ≤ s ∧ s < 64) (a b : Int) : (applyS c ⟨6, 0, 0, 0, 0, a, b⟩).2 = 0 ∧ (applyS c ⟨6, 0, 0, 0, 0, a, b⟩).1 (3 + 5 * s.toNat) = st := by
  have e0 : (applyS c ⟨6, 0, 0, 0, 0, a, b⟩).2 = 0 := by rw [apply_rot]
  refine ⟨e0, ?_⟩
  rw [(apply_ok e0).1, done6 rfl (by omega)]; exact M.cur
theorem entsL_apps (es l : List Ent) {xs : List Value} (h : entsL l = xs) : entsL es ++ xs = entsL (es ++ l) := by
  subst h; simp [entsL]
theorem moves_all' {s st : Int} {tn : Nat} {es : List Ent} (he : es = (rots2 0 tn ++ stE st s) ++ rots2 tn 3) (hs : 0 ≤ s ∧ s < 64) (hst : 0 ≤ st ∧ st ≤ 4) (ht : tn < 3) : MV (allS ((newP 10 80 (keyA 1) (keyB 1) (keyA 2) (keyB 2)).1) es 0).1 s st ((tn : Int) + 1) 4 := by
  subst he; exact moves_all hs hst ht
theorem withinC_eq {P : Program} (hc : codeOf P "roundhouse/roundhouselaw6.within" = some c_law6_within) (x n : Int) (hn : n ≠ 0) {v : Int} (h : withinS x n = v) :
    Env P "roundhouse/roundhouselaw6.within" [iv x, iv n] [] (Ans (iv v) []) := h ▸ withinC hc x n hn
end Go.Rh
