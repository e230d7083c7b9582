/- The proofs over the intermediate form, part QYardTwicef. -/
import Derived.Test.YtonnmmemnjnjbaaQYardTwicee
import Derived.Test.YtonnmmemnjnjbaaQYardTwiced
open Go.IntKind (i64)
set_option linter.unusedVariables false
set_option linter.unusedSimpArgs false
set_option maxRecDepth 100000
namespace Go.Rh
section
variable {sel : List Nat} {h h1 h1' : List Blk} {ρ : Nat → Nat} {k i : Nat} {b : Blk}
theorem over_at : ∀ {sel : List Nat} {h1 : List Blk} {k i : Nat} {b : Blk}, (∀ j, sel[j]? = some k → j = i) → sel[i]? = some k → h1[i]? = some b → b.rw = true → over k sel h1 = some b
  | [], _, _, _, _, _, h, _, _ => by simp at h
  | _ :: _, [], _, _, _, _, _, h, _ => by simp at h
  | s :: ss, c :: cs, k, 0, b, hu, h1, h2, hr => by
    simp at h1 h2; subst h1; subst h2
    simp [over, hr]
  | s :: ss, c :: cs, k, i + 1, b, hu, h1, h2, hr => by
    have hs : s ≠ k := fun e => by have := hu 0 (by simp [e]); omega
    simp only [over, hs, false_and, if_false]
    exact over_at (i := i) (fun j hj => by have := hu (j + 1) (by simpa using hj); omega) (by simpa using h1) (by simpa using h2) hr
theorem back_at (hk : k < h.length) (hu : ∀ j, sel[j]? = some k → j = i) (h1s : sel[i]? = some k) (h2 : h1[i]? = some b) (hr : b.rw = true) : (back h sel h1 ρ)[k]? = some (renB ρ b) := by
  rw [back_lt hk, over_at hu h1s h2 hr]
theorem back_keep (hk : k < h.length) (hro : ∀ (j : Nat) (b : Blk), sel[j]? = some k → h1[j]? = some b → b.rw = false) : (back h sel h1 ρ)[k]? = h[k]? := by
  rw [back_lt hk]
  cases ho : over k sel h1 with
  | none => rfl
  | some b =>
    obtain ⟨j, e1, e2, e3⟩ := over_some ho
    rw [hro j b e1 e2] at e3; cases e3
theorem back_new (j : Nat) : (back h sel h1 ρ)[h.length + j]? = (h1[sel.length + j]?).map (renB ρ) := by
  rw [getElem?_back_ge (Nat.le_add_right _ _), Nat.add_sub_cancel_left]
theorem back_len : h.length ≤ (back h sel h1 ρ).length := by unfold back; simp
theorem back_frame {G : Nat → Prop} (hlo : ∀ (j : Nat) k, sel[j]? = some k → G k) (hl : ∀ k, h.length ≤ k → G k) : ∀ k, ¬ G k → (back h sel h1 ρ)[k]? = h[k]? := fun k hk =>
  back_keep (Nat.lt_of_not_le fun q => hk (hl k q)) fun i b e1 _ => absurd (hlo i k e1) hk
end
theorem gone_back {h h1 h1' : List Blk} {sel : List Nat} {n : Nat} {ρ : Nat → Nat} (hg : goneL h1 h1') (hl : h1.length = sel.length) (hs : ∀ (i k : Nat) b1, sel[i]? = some k → h1[i]? = some b1 → ∃ b, h[k]? = some b ∧ Blk.view (renB (rho sel n) b1) b) : goneL h (back h sel h1' ρ) := by
  intro k hk
  have hkl := lt_of_getElem? hk
  rw [back_lt hkl]
  cases ho : over k sel h1' with
  | none => exact hk
  | some b' =>
    obtain ⟨i, e1, e2, e3⟩ := over_some ho
    have hi := lt_of_getElem? e1
    have e4 : h1[i]? = some (h1[i]'(by omega)) := by simp [show i < h1.length by omega]
    obtain ⟨b, hb, hv⟩ := hs i k _ e1 e4
    rw [hk] at hb; cases hb
    have hgo : h1[i]'(by omega) = .gone := by
      rcases view_W hv with hv | ⟨hv, _⟩
      · exact absurd rfl (seenW_gone hv).2
      · exact renB_gone.1 hv
    rw [hgo] at e4
    have := hg i e4
    rw [e2] at this
    cases this
    rfl
structure FrY (F : Nat → Prop) (h h' : List Blk) : Prop where
  fr : ∀ k, ¬ F k → h'[k]? = h[k]?
  len : h.length ≤ h'.length
  gone : goneL h h'
theorem FrY.refl (F : Nat → Prop) (h : List Blk) : FrY F h h := ⟨fun _ _ => rfl, Nat.le_refl _, fun _ e => e⟩
theorem FrY.trans {F : Nat → Prop} {a b c : List Blk} (h1 : FrY F a b) (h2 : FrY F b c) : FrY F a c := ⟨fun k hk => (h2.fr k hk).trans (h1.fr k hk), Nat.le_trans h1.len h2.len, fun i e => h2.gone i (h1.gone i e)⟩
structure US where
  p : Flat
  is : Bool
  b : Int
  nr : Nat → Int × Bool
  q : Option Nat
def whB (u : US) (B : Blk) : Prop := match u.q with
  | none => ∃ c rw, B = .cells c rw
  | some c => B = slB zI (ii (wheelS u.p)) (some c)
theorem whB_cells {u : US} {B : Blk} (h : whB u B) : ∃ c rw, B = .cells c rw := by
  unfold whB at h
  split at h
  · exact h
  · exact ⟨_, _, h⟩
theorem whB_ren {u : US} {B : Blk} {ρ : Nat → Nat} (h : whB u B) : whB u (renB ρ B) := by
  unfold whB at h ⊢
  split at h
  · obtain ⟨c, rw, rfl⟩ := h; exact ⟨_, _, rfl⟩
  · subst h; exact renB_cells (iiR_scl _ _)
def pB (n : Nat) (f : Nat → Nat) (ro : Option Nat) : Blk := slB [.pointer none] (ptrs n f) ro
structure YH (n : Nat) (ro : Option Nat) (x : HS) (us : Nat → US) (l : List Nt) (o : Gr) (pl : Nat → Nat) (h : List Blk) : Prop where
  inj : ∀ a b, a < 6 + 4 * n → b < 6 + 4 * n → pl a = pl b → a = b
  ro0 : ro = none → n = 0
  y : h[pl 0]? = some (cw (yardL (pl 1) (slV (pl 4) n ro) (gV (pl 5) l.length o)))
  hd : h[pl 1]? = some (cw (headL x.p (pl 2) (pl 3) x.e x.s))
  hc : h[pl 2]? = some (.chan 200 (x.w.map entV))
  hm : h[pl 3]? = some (.map (hdM x.hd))
  ur : h[pl 4]? = some (pB n (fun j => pl (6 + 4 * j)) ro)
  way : h[pl 5]? = some (gB l o)
  ok : gOk l o
  un : ∀ j, j < n → h[pl (6 + 4 * j)]? = some (cw (unitL (pl (7 + 4 * j)) (us j).p (us j).b (pl (8 + 4 * j))))
  pn : ∀ j, j < n → h[pl (7 + 4 * j)]? = some (cw (planeL (us j).p (us j).is (us j).nr (slV (pl (9 + 4 * j)) 127 (us j).q)))
  ch : ∀ j, j < n → h[pl (8 + 4 * j)]? = some (.chan 1 (([] : List Nt).map ntE))
  wh : ∀ j, j < n → ∃ B, h[pl (9 + 4 * j)]? = some B ∧ whB (us j) B
theorem YH.lt {n : Nat} {ro : Option Nat} {x : HS} {us : Nat → US} {l : List Nt} {o : Gr} {pl : Nat → Nat} {h : List Blk} (Y : YH n ro x us l o pl h) {a : Nat} (ha : a < 6 + 4 * n) : pl a < h.length := by
  rcases Nat.lt_or_ge a 6 with h1 | h1
  · match a, h1 with
    | 0, _ => exact lt_of_getElem? Y.y
    | 1, _ => exact lt_of_getElem? Y.hd
    | 2, _ => exact lt_of_getElem? Y.hc
    | 3, _ => exact lt_of_getElem? Y.hm
    | 4, _ => exact lt_of_getElem? Y.ur
    | 5, _ => exact lt_of_getElem? Y.way
  · obtain ⟨j, c, rfl, hc⟩ : ∃ j c, a = 6 + c + 4 * j ∧ c < 4 := ⟨(a - 6) / 4, (a - 6) % 4, by omega, by omega⟩
    have hj : j < n := by omega
    match c, hc with
    | 0, _ => exact lt_of_getElem? (Y.un j hj)
    | 1, _ => exact lt_of_getElem? (Y.pn j hj)
    | 2, _ => exact lt_of_getElem? (Y.ch j hj)
    | 3, _ => obtain ⟨B, hB, _⟩ := Y.wh j hj; exact lt_of_getElem? hB
def YT (G : Nat → Prop) (y n : Nat) (x : HS) (us : Nat → US) (l : List Nt) (h : List Blk) : Prop :=
  ∃ m o pl, YH n (some m) x us l o pl h ∧ pl 0 = y ∧ (∀ a, a < 6 + 4 * n → G (pl a)) ∧ 1 ≤ n ∧ n ≤ 16 ∧ ∀ k, h.length ≤ k → G k
theorem getElem?_map {l : List Nat} {pl : Nat → Nat} {i k : Nat} (h : (l.map pl)[i]? = some k) : ∃ a, l[i]? = some a ∧ pl a = k := by
  rw [List.getElem?_map] at h
  cases hq : l[i]? with
  | none => rw [hq] at h; cases h
  | some a => rw [hq] at h; exact ⟨a, rfl, by simpa using h⟩
section
variable {C : CallT} {g : String} {G : Nat → Prop} {y n : Nat} {x x' : HS} {us us' : Nat → US} {l l' : List Nt} {h : List Blk} {ex : List Value} {V : Value} {K : Post}
def CallF (C : CallT) (g : String) (vals : List Value) (h : List Blk) (G : Nat → Prop) (hX : Prop) (S : Post) : Prop :=
  ∃ (sel : List Nat) (h1 : List Blk) (a1 : List Value) (R : Post), C g a1 h1 R ∧ h1.length = sel.length ∧ a1.map (renV (rho sel h.length)) = vals ∧
    (∀ (i k : Nat) b1, sel[i]? = some k → h1[i]? = some b1 → ∃ b, h[k]? = some b ∧ Blk.view (renB (rho sel h.length) b1) b) ∧
    (∀ (i j k : Nat) b1, i ≠ j → sel[i]? = some k → sel[j]? = some k → h1[i]? = some b1 → b1.rw = false) ∧
    (∀ (i k : Nat), sel[i]? = some k → G k) ∧ (hX → ∃ v h1', R v h1' ∧ sel.length ≤ h1'.length ∧ flagsL h1 h1') ∧
    ∀ v h1', R v h1' → sel.length ≤ h1'.length → flagsL h1 h1' → goneL h1 h1' ∧ S (renV (rho sel h.length) v) (back h sel h1' (rho sel h.length))
theorem CallF.toK {vals : List Value} {hX : Prop} (hc : CallF C g vals h G hX K) : CallK C g vals K h := by
  obtain ⟨sel, h1, a1, R, e1, e2, e3, e4, e5, _, _, e8⟩ := hc
  exact ⟨sel, h1, a1, R, e1, e2, e3, e4, e5, e8⟩
theorem glueA0 {hX : Prop} (hY : YT G y n x us l h) (hex : ex.all vpf = true) (hV : vpf V = true)
    (hC : ∀ m o, gOk l o → ∃ R, C g (pv 0 0 :: ex) (laA n m x 5 l o ++ [gB l o]) R ∧ (∀ v h', R v h' → v = V ∧ PA n m o x' l' h') ∧ (hX → ∃ v h', R v h' ∧ 6 ≤ h'.length ∧ flagsL (laA n m x 5 l o ++ [gB l o]) h'))
    (hK : ∀ h', YT G y n x' us l' h' → FrY G h h' → K V h') : CallF C g (pv y 0 :: ex) h G hX K := by
  obtain ⟨m, o, pl, Y, rfl, hlo, h1, h16, hll⟩ := hY
  obtain ⟨R, hC, hR, hXX⟩ := hC m o Y.ok
  have hsel : ∀ (i k : Nat), ([0, 1, 2, 3, 4, 5].map pl)[i]? = some k → i < 6 ∧ pl i = k := fun i k e => by
    obtain ⟨a, e1, e2⟩ := getElem?_map e
    match i, e1 with
    | 0, e1 => simp at e1; subst e1; exact ⟨by omega, e2⟩
    | 1, e1 => simp at e1; subst e1; exact ⟨by omega, e2⟩
    | 2, e1 => simp at e1; subst e1; exact ⟨by omega, e2⟩
    | 3, e1 => simp at e1; subst e1; exact ⟨by omega, e2⟩
    | 4, e1 => simp at e1; subst e1; exact ⟨by omega, e2⟩
    | 5, e1 => simp at e1; subst e1; exact ⟨by omega, e2⟩
    | i + 6, e1 => simp at e1
  have hinj : ∀ (i j k : Nat), ([0, 1, 2, 3, 4, 5].map pl)[i]? = some k → ([0, 1, 2, 3, 4, 5].map pl)[j]? = some k → i = j := fun i j k e1 e2 => by
    obtain ⟨a1, a2⟩ := hsel i k e1
    obtain ⟨b1, b2⟩ := hsel j k e2
    exact Y.inj i j (by omega) (by omega) (a2.trans b2.symm)
  have hview := viewL_get (ρ := rho ([0, 1, 2, 3, 4, 5].map pl) h.length) (h := h) (sel := [0, 1, 2, 3, 4, 5].map pl) (bs := laA n m x 5 l o ++ [gB l o]) ⟨⟨_, Y.y, view_of (.inl (seen_yard rfl rfl (ren_gV o rfl) (fun q => q)))⟩, ⟨_, Y.hd, view_of (.inl (seen_head rfl rfl (fun q => q)))⟩, ⟨_, Y.hc, view_of (.inl (seen_ents _))⟩, ⟨_, Y.hm, view_of (.inl (seen_hdM _))⟩, ⟨_, Y.ur, .inr ⟨rfl, _, _, rfl⟩⟩, ⟨_, Y.way, view_gB Y.ok⟩, trivial⟩
  refine ⟨[0, 1, 2, 3, 4, 5].map pl, laA n m x 5 l o ++ [gB l o], pv 0 0 :: ex, R, hC, rfl, ?_, hview, fun i j k b1 hij e1 e2 _ => absurd (hinj i j k e1 e2) hij, fun i k e => (let ⟨a1, a2⟩ := hsel i k e; a2 ▸ hlo i (by omega)), hXX, fun v h1' hRv hlen hfl => ?_⟩
  · exact cons_eq rfl (map_id_of fun v hv => renV_vpf (List.all_eq_true.1 hex v hv))
  · obtain ⟨rfl, o', X, k, T, hg', hX, hs, rfl⟩ := hR v h1' hRv
    have hgo : goneL (laA n m x 5 l o ++ [gB l o]) (laA n m x' k l' o' ++ [X] ++ T) := by
      refine goneL_cons gone_cells (goneL_cons gone_cells (goneL_cons (fun h => by cases h) (goneL_cons (fun h => by cases h) (goneL_cons gone_same (goneL_cons (fun hg => ?_) goneL_nil)))))
      refine hX ?_
      cases o with
      | none => rfl
      | some z => cases hg
    refine ⟨hgo, ?_⟩
    · rw [renV_vpf hV]
      have at_ : ∀ (i : Nat) b, i < 6 → (laA n m x' k l' o' ++ [X] ++ T)[i]? = some b → b.rw = true → (back h ([0, 1, 2, 3, 4, 5].map pl) (laA n m x' k l' o' ++ [X] ++ T) (rho ([0, 1, 2, 3, 4, 5].map pl) h.length))[pl i]? = some (renB (rho ([0, 1, 2, 3, 4, 5].map pl) h.length) b) := fun i b hi hb hr => by
        have hs' : ([0, 1, 2, 3, 4, 5].map pl)[i]? = some (pl i) := by
          match i, hi with
          | 0, _ | 1, _ | 2, _ | 3, _ | 4, _ | 5, _ => rfl
        exact back_at (Y.lt (by omega)) (fun j hj => hinj j i _ hj hs') hs' hb hr
      have keep_ : ∀ a, a < 6 + 4 * n → 6 ≤ a ∨ a = 4 → (back h ([0, 1, 2, 3, 4, 5].map pl) (laA n m x' k l' o' ++ [X] ++ T) (rho ([0, 1, 2, 3, 4, 5].map pl) h.length))[pl a]? = h[pl a]? := fun a ha h6 => back_keep (Y.lt ha) fun j b e1 e2 => by
        obtain ⟨a1, a2⟩ := hsel j _ e1
        have := Y.inj j a (by omega) ha a2
        have : j = 4 := by omega
        subst this
        have : b = cr [] := by simpa [laA] using e2.symm
        rw [this]; rfl
      have hpl5 : ∀ a, a < 6 + 4 * n → pl a ≠ h.length := fun a ha e => by have := Y.lt ha; omega
      refine hK _ ⟨m, o', fun a => if k = 6 ∧ a = 5 then h.length else pl a, ⟨?_, ?_, ?_, ?_, ?_, ?_, ?_, ?_, hg', ?_, ?_, ?_, ?_⟩, ?_, ?_, h1, h16, fun k hk => hll k (Nat.le_trans back_len hk)⟩ ⟨back_frame (fun j k e => by obtain ⟨a1, a2⟩ := hsel j k e; rw [← a2]; exact hlo j (by omega)) hll, back_len, gone_back hgo rfl hview⟩
      · intro a b ha hb e
        split at e <;> split at e
        · omega
        · exact absurd e.symm (hpl5 b hb)
        · exact absurd e (hpl5 a ha)
        · exact Y.inj a b ha hb e
      · intro e; cases e
      · have := at_ 0 _ (by omega) rfl rfl
        simp only [show ¬ (k = 6 ∧ 0 = 5) by omega, show ¬ (k = 6 ∧ 1 = 5) by omega, show ¬ (k = 6 ∧ 4 = 5) by omega, if_false]
        rw [this]
        rcases hs with ⟨rfl, rfl, rfl⟩ | ⟨rfl, rfl⟩
        · exact congrArg some (ren_yardL rfl rfl (ren_gV o' rfl))
        · exact congrArg some (ren_yardL rfl rfl (ren_gV o' (rho_ge (by simp))))
      · have := at_ 1 _ (by omega) rfl rfl
        simp only [show ¬ (k = 6 ∧ 1 = 5) by omega, show ¬ (k = 6 ∧ 2 = 5) by omega, show ¬ (k = 6 ∧ 3 = 5) by omega, if_false]
        rw [this]; exact congrArg some (ren_headL rfl rfl)
      · have := at_ 2 _ (by omega) rfl rfl
        simp only [show ¬ (k = 6 ∧ 2 = 5) by omega, if_false]
        rw [this]; exact congrArg some (ren_entsV _)
      · have := at_ 3 _ (by omega) rfl rfl
        simp only [show ¬ (k = 6 ∧ 3 = 5) by omega, if_false]
        rw [this]; exact congrArg some (ren_hdM _)
      · simp only [show ¬ (k = 6 ∧ 4 = 5) by omega, if_false]
        rw [keep_ 4 (by omega) (.inr rfl), Y.ur]
        have : (fun j => pl (6 + 4 * j)) = fun j => if k = 6 ∧ 6 + 4 * j = 5 then h.length else pl (6 + 4 * j) := by
          funext j; rw [if_neg (by omega)]
        rw [this]
      · rcases hs with ⟨rfl, rfl, rfl⟩ | ⟨rfl, rfl⟩
        · simp only [show ¬ (5 = 6 ∧ True) by omega, show ¬ ((5 : Nat) = 6 ∧ (5 : Nat) = 5) by omega, if_false]
          have := at_ 5 (gB l' o') (by omega) rfl (by cases o' <;> rfl)
          rw [this, ren_gB hg']
        · simp only [and_self, if_true]
          have := back_new (h := h) (sel := [0, 1, 2, 3, 4, 5].map pl) (h1 := laA n m x' 6 l' o' ++ [X] ++ [gB l' o']) (ρ := rho ([0, 1, 2, 3, 4, 5].map pl) h.length) 0
          rw [Nat.add_zero] at this
          rw [this]
          exact congrArg some (ren_gB hg')
      · intro j hj
        simp only [show ¬ (k = 6 ∧ 6 + 4 * j = 5) by omega, show ¬ (k = 6 ∧ 7 + 4 * j = 5) by omega, show ¬ (k = 6 ∧ 8 + 4 * j = 5) by omega, if_false]
        rw [keep_ _ (by omega) (.inl (by omega))]; exact Y.un j hj
      · intro j hj
        simp only [show ¬ (k = 6 ∧ 7 + 4 * j = 5) by omega, show ¬ (k = 6 ∧ 9 + 4 * j = 5) by omega, if_false]
        rw [keep_ _ (by omega) (.inl (by omega))]; exact Y.pn j hj
      · intro j hj
        simp only [show ¬ (k = 6 ∧ 8 + 4 * j = 5) by omega, if_false]
        rw [keep_ _ (by omega) (.inl (by omega))]; exact Y.ch j hj
      · intro j hj
        simp only [show ¬ (k = 6 ∧ 9 + 4 * j = 5) by omega, if_false]
        rw [keep_ _ (by omega) (.inl (by omega))]; exact Y.wh j hj
      · simp only [show ¬ (k = 6 ∧ 0 = 5) by omega, if_false]
      · intro a ha
        show G (if k = 6 ∧ a = 5 then h.length else pl a)
        split
        · exact hll _ (Nat.le_refl _)
        · exact hlo a ha
theorem glueA (hY : YT G y n x us l h) (hex : ex.all vpf = true) (hV : vpf V = true)
    (hC : ∀ m o, gOk l o → ∃ R, C g (pv 0 0 :: ex) (laA n m x 5 l o ++ [gB l o]) R ∧ ∀ v h', R v h' → v = V ∧ PA n m o x' l' h')
    (hK : ∀ h', YT G y n x' us l' h' → FrY G h h' → K V h') : CallK C g (pv y 0 :: ex) K h :=
  (glueA0 (hX := False) hY hex hV (fun m o ho => let ⟨R, h1, h2⟩ := hC m o ho; ⟨R, h1, h2, fun q => q.elim⟩) hK).toK
end
end Go.Rh

namespace Go.Rh
def ixH (n i : Nat) : List Nat := (List.range 16).map fun j => if j < n ∧ j ≠ i then 6 + 4 * j else 1
def ixB (n i : Nat) : List Nat := [0, 1, 4, 6 + 4 * i, 7 + 4 * i, 8 + 4 * i, 9 + 4 * i, 5] ++ ixH n i
theorem ixH_at {n i j : Nat} (hj : j < 16) : (ixB n i)[8 + j]? = some (if j < n ∧ j ≠ i then 6 + 4 * j else 1) := by
  unfold ixB
  rw [List.getElem?_append_right (by simp)]
  simp [ixH, hj]
theorem ixB_len (n i : Nat) : (ixB n i).length = 24 := by simp [ixB, ixH]
theorem ixB_inv {n i t a : Nat} (h : (ixB n i)[t]? = some a) : (t = 0 ∧ a = 0) ∨ (t = 1 ∧ a = 1) ∨ (t = 2 ∧ a = 4) ∨ (t = 3 ∧ a = 6 + 4 * i) ∨ (t = 4 ∧ a = 7 + 4 * i) ∨ (t = 5 ∧ a = 8 + 4 * i) ∨ (t = 6 ∧ a = 9 + 4 * i) ∨ (t = 7 ∧ a = 5) ∨ (8 ≤ t ∧ t < 24 ∧ (a = 1 ∨ ∃ j, j < n ∧ j ≠ i ∧ a = 6 + 4 * j)) := by
  have hl := lt_of_getElem? h
  rw [ixB_len] at hl
  rcases Nat.lt_or_ge t 8 with h8 | h8
  · match t, h8 with
    | 0, _ => simp [ixB] at h; simp [h]
    | 1, _ => simp [ixB] at h; simp [h]
    | 2, _ => simp [ixB] at h; simp [h]
    | 3, _ => simp [ixB] at h; simp [h]
    | 4, _ => simp [ixB] at h; simp [h]
    | 5, _ => simp [ixB] at h; simp [h]
    | 6, _ => simp [ixB] at h; simp [h]
    | 7, _ => simp [ixB] at h; simp [h]
  · obtain ⟨j, rfl⟩ : ∃ j, t = 8 + j := ⟨t - 8, by omega⟩
    rw [ixH_at (by omega)] at h
    refine .inr (.inr (.inr (.inr (.inr (.inr (.inr (.inr ⟨h8, hl, ?_⟩)))))))
    have h := Option.some.inj h
    split at h
    · rename_i hc; exact .inr ⟨j, hc.1, hc.2, h.symm⟩
    · exact .inl h.symm
structure PGok (n m i : Nat) (o0 : Gr) (l' : List Nt) (u0 u' : US) (h' : List Blk) (o : Gr) (X : Blk) (kl kw : Nat) (T : List Blk) : Prop where
  ok : gOk l' o
  gone : o0 = none → X = .gone
  eq : h' = laB n m i kl kw l' o u'.p u'.is u'.nr u'.b u'.q X ++ T
  way : (kl = 7 ∧ X = gB l' o) ∨ ∃ j, kl = 24 + j ∧ T[j]? = some (gB l' o)
  ne : kl ≠ kw
  whl : (kw = 6 ∧ ∀ B, whB u0 B → whB u' B) ∨ ∃ j B, kw = 24 + j ∧ T[j]? = some B ∧ whB u' B
def PG (n m i : Nat) (o0 : Gr) (l' : List Nt) (u0 u' : US) (h' : List Blk) : Prop := ∃ o X kl kw T, PGok n m i o0 l' u0 u' h' o X kl kw T
def upd1 (us : Nat → US) (i : Nat) (u : US) : Nat → US := fun j => if j = i then u else us j
theorem laB_len (n m i kl kw : Nat) (l : List Nt) (o : Gr) (p : Flat) (is : Bool) (nr : Nat → Int × Bool) (b : Int) (q : Option Nat) (X : Blk) : (laB n m i kl kw l o p is nr b q X).length = 24 := by simp [laB]
theorem laB_hid {n m i kl kw : Nat} {l : List Nt} {o : Gr} {p : Flat} {is : Bool} {nr : Nat → Int × Bool} {b : Int} {q : Option Nat} {X : Blk} {T : List Blk} {t : Nat} (h8 : 8 ≤ t) (ht : t < 24) : (laB n m i kl kw l o p is nr b q X ++ T)[t]? = some (cr []) := by
  rw [List.getElem?_append_left (by rw [laB_len]; exact ht)]
  unfold laB
  rw [List.getElem?_append_right (by simpa using h8)]
  exact List.getElem?_replicate_of_lt (by simp; omega)
section
variable {C : CallT} {g : String} {F : Nat → Prop} {y n i : Nat} {x : HS} {us : Nat → US} {l l' : List Nt} {h : List Blk} {ex : List Value} {V : Value} {K : Post}
theorem glueB2 {u' : Option Nat → US} {ok : Option Nat → Prop} (hi : i < n) (hY : YT F y n x us l h) (hex : ex.all vpf = true) (hV : vpf V = true)
    (hC : ∀ m o, gOk l o → n ≤ 16 → ∃ R, C g (pv 0 0 :: ex) (laB n m i 7 6 l o (us i).p (us i).is (us i).nr (us i).b (us i).q (gB l o)) R ∧ ∀ v h', R v h' → v = V ∧ ∃ c, ok c ∧ PG n m i o l' (us i) (u' c) h')
    (hK : ∀ c, ok c → ∀ h', YT F y n x (upd1 us i (u' c)) l' h' → FrY F h h' → K V h') : CallK C g (pv y 0 :: ex) K h := by
  obtain ⟨m, o, pl, Y, rfl, hlo, h1, h16, hll⟩ := hY
  obtain ⟨R, hC, hR⟩ := hC m o Y.ok h16
  have hix : ∀ {t a : Nat}, (ixB n i)[t]? = some a → a < 6 + 4 * n := fun {t a} e => by
    rcases ixB_inv e with h | h | h | h | h | h | h | h | ⟨_, _, h | ⟨j, hj, _, h⟩⟩ <;> omega
  have hsel : ∀ (t a : Nat), a < 6 + 4 * n → ((ixB n i).map pl)[t]? = some (pl a) → (ixB n i)[t]? = some a := fun t a ha e => by
    obtain ⟨a', e1, e2⟩ := getElem?_map e
    have := Y.inj a' a (hix e1) ha e2
    rw [← this]; exact e1
  have huq : ∀ (t t' a : Nat), a ≠ 1 → (∀ j, a = 6 + 4 * j → j = i) → a < 6 + 4 * n → ((ixB n i).map pl)[t]? = some (pl a) → ((ixB n i).map pl)[t']? = some (pl a) → t = t' := fun t t' a h1 h2 ha e1 e2 => by
    have e1 := ixB_inv (hsel t a ha e1)
    have e2 := ixB_inv (hsel t' a ha e2)
    have hno : ∀ t : Nat, (8 ≤ t ∧ t < 24 ∧ (a = 1 ∨ ∃ j, j < n ∧ j ≠ i ∧ a = 6 + 4 * j)) → False := fun t q => by
      rcases q.2.2 with q | ⟨j, _, q1, q2⟩
      · exact h1 q
      · exact q1 (h2 j q2)
    rcases e1 with h | h | h | h | h | h | h | h | h <;> first | exact (hno _ h).elim | skip
    all_goals rcases e2 with h' | h' | h' | h' | h' | h' | h' | h' | h' <;> first | exact (hno _ h').elim | omega
  have hss : ∀ (t a : Nat), (ixB n i)[t]? = some a → ((ixB n i).map pl)[t]? = some (pl a) := fun t a e => by rw [List.getElem?_map, e]; rfl
  have hρ : ∀ (t a : Nat), (ixB n i)[t]? = some a → rho ((ixB n i).map pl) h.length t = pl a := fun t a e => rho_lt (hss t a e)
  have hρn : ∀ j : Nat, rho ((ixB n i).map pl) h.length (24 + j) = h.length + j := fun j => by
    rw [rho_ge (by rw [List.length_map, ixB_len]; omega), List.length_map, ixB_len, Nat.add_sub_cancel_left]
  have hptr : ∀ j, j < n → rho ((ixB n i).map pl) h.length (uf i 3 8 j) = pl (6 + 4 * j) := fun j hj => by
    unfold uf
    split
    · rename_i e; subst e; exact hρ 3 _ rfl
    · rename_i e
      refine hρ (8 + j) _ ?_
      rw [ixH_at (by omega), if_pos ⟨hj, e⟩]
  have hl24 : (laB n m i 7 6 l o (us i).p (us i).is (us i).nr (us i).b (us i).q (gB l o)).length = ((ixB n i).map pl).length := by rw [laB_len, List.length_map, ixB_len]
  have hview : ∀ (t k : Nat) b1, ((ixB n i).map pl)[t]? = some k → (laB n m i 7 6 l o (us i).p (us i).is (us i).nr (us i).b (us i).q (gB l o))[t]? = some b1 → ∃ b, h[k]? = some b ∧ Blk.view (renB (rho ((ixB n i).map pl) h.length) b1) b := by
    intro t k b1 e1 e2
    obtain ⟨a, e3, rfl⟩ := getElem?_map e1
    rcases ixB_inv e3 with ⟨rfl, rfl⟩ | ⟨rfl, rfl⟩ | ⟨rfl, rfl⟩ | ⟨rfl, rfl⟩ | ⟨rfl, rfl⟩ | ⟨rfl, rfl⟩ | ⟨rfl, rfl⟩ | ⟨rfl, rfl⟩ | ⟨h8, h24, q⟩
    · cases e2; exact ⟨_, Y.y, .inl (.inl (seen_yard (hρ 1 1 rfl) (by show ren1 _ (slV 2 n (some m)) = _; exact ren1_slV (some m) (hρ 2 4 rfl)) (ren_gV o (hρ 7 5 rfl)) (fun q => q)))⟩
    · cases e2; exact ⟨_, Y.hd, view_hid⟩
    · cases e2
      refine ⟨_, Y.ur, .inl (.inl ?_)⟩
      show Blk.seen (renB _ (.cells (ptrs n (uf i 3 8) ++ nils m) false)) (.cells (ptrs n (fun j => pl (6 + 4 * j)) ++ nils m) true)
      rw [ren_ptrs hptr]; exact ⟨rfl, fun q => by cases q⟩
    · cases e2; exact ⟨_, Y.un i hi, .inl (.inl (seen_unit (hρ 4 _ rfl) (hρ 5 _ rfl) (fun q => q)))⟩
    · cases e2; exact ⟨_, Y.pn i hi, .inl (.inl (seen_plane (ren1_slV _ (hρ 6 _ rfl)) (fun q => q)))⟩
    · cases e2; exact ⟨_, Y.ch i hi, .inl (.inl (seen_nts _))⟩
    · cases e2
      obtain ⟨B, hB, hw⟩ := Y.wh i hi
      obtain ⟨c, rw, rfl⟩ := whB_cells hw
      exact ⟨_, hB, view_hid⟩
    · cases e2; exact ⟨_, Y.way, view_gB Y.ok⟩
    · have := laB_hid (n := n) (m := m) (i := i) (kl := 7) (kw := 6) (l := l) (o := o) (p := (us i).p) (is := (us i).is) (nr := (us i).nr) (b := (us i).b) (q := (us i).q) (X := gB l o) (T := []) h8 h24
      rw [List.append_nil] at this
      rw [this] at e2; cases e2
      rcases q with rfl | ⟨j, hj, _, rfl⟩
      · exact ⟨_, Y.hd, view_hid⟩
      · exact ⟨_, Y.un j hj, view_hid⟩
  refine ⟨(ixB n i).map pl, laB n m i 7 6 l o (us i).p (us i).is (us i).nr (us i).b (us i).q (gB l o), pv 0 0 :: ex, R, hC, hl24, ?_, hview, ?_, fun v h1' hRv hlen hfl => ?_⟩
  · exact cons_eq (by show pv (rho _ _ 0) 0 = _; rw [hρ 0 0 rfl]) (map_id_of fun v hv => renV_vpf (List.all_eq_true.1 hex v hv))
  · intro t t' k b1 htt e1 e2 e3
    obtain ⟨a, e4, rfl⟩ := getElem?_map e1
    have ha := hix e4
    rcases ixB_inv e4 with ⟨rfl, rfl⟩ | ⟨rfl, rfl⟩ | ⟨rfl, rfl⟩ | ⟨rfl, rfl⟩ | ⟨rfl, rfl⟩ | ⟨rfl, rfl⟩ | ⟨rfl, rfl⟩ | ⟨rfl, rfl⟩ | ⟨h8, h24, q⟩
    · exact absurd (huq _ _ 0 (by omega) (fun j e => by omega) ha e1 e2) htt
    · cases e3; rfl
    · cases e3; rfl
    · exact absurd (huq _ _ (6 + 4 * i) (by omega) (fun j e => by omega) ha e1 e2) htt
    · exact absurd (huq _ _ (7 + 4 * i) (by omega) (fun j e => by omega) ha e1 e2) htt
    · exact absurd (huq _ _ (8 + 4 * i) (by omega) (fun j e => by omega) ha e1 e2) htt
    · cases e3; rfl
    · exact absurd (huq _ _ 5 (by omega) (fun j e => by omega) ha e1 e2) htt
    · have := laB_hid (n := n) (m := m) (i := i) (kl := 7) (kw := 6) (l := l) (o := o) (p := (us i).p) (is := (us i).is) (nr := (us i).nr) (b := (us i).b) (q := (us i).q) (X := gB l o) (T := []) h8 h24
      rw [List.append_nil] at this
      rw [this] at e3; cases e3; rfl
  · obtain ⟨rfl, c0, hc0, o', X, kl, kw, T, G⟩ := hR v h1' hRv
    have hK := hK c0 hc0
    generalize u' c0 = u' at G hK
    have hh := G.eq
    subst hh
    have hgt : ∀ {t : Nat}, 24 ≤ t → (laB n m i kl kw l' o' u'.p u'.is u'.nr u'.b u'.q X ++ T)[t]? = T[t - 24]? := fun {t} ht => by
      rw [List.getElem?_append_right (by rw [laB_len]; exact ht), laB_len]
    have hgo : goneL (laB n m i 7 6 l o (us i).p (us i).is (us i).nr (us i).b (us i).q (gB l o)) (laB n m i kl kw l' o' u'.p u'.is u'.nr u'.b u'.q X ++ T) := by
      intro t ht
      have htl := lt_of_getElem? ht
      rw [laB_len] at htl
      rcases Nat.lt_or_ge t 8 with h8 | h8
      · match t, h8 with
        | 0, _ => cases ht
        | 1, _ => cases ht
        | 2, _ => cases ht
        | 3, _ => cases ht
        | 4, _ => cases ht
        | 5, _ => cases ht
        | 6, _ => cases ht
        | 7, _ =>
          have hg : gB l o = .gone := Option.some.inj ht
          have : X = .gone := G.gone (by
            cases o with
            | none => rfl
            | some z => cases hg)
          show some X = _
          rw [this]
      · have := laB_hid (n := n) (m := m) (i := i) (kl := 7) (kw := 6) (l := l) (o := o) (p := (us i).p) (is := (us i).is) (nr := (us i).nr) (b := (us i).b) (q := (us i).q) (X := gB l o) (T := []) h8 htl
        rw [List.append_nil] at this
        rw [this] at ht; cases ht
    refine ⟨hgo, ?_⟩
    · rw [renV_vpf hV]
      let H2 := back h ((ixB n i).map pl) (laB n m i kl kw l' o' u'.p u'.is u'.nr u'.b u'.q X ++ T) (rho ((ixB n i).map pl) h.length)
      have at_ : ∀ (t a : Nat) b, (ixB n i)[t]? = some a → a ≠ 1 → (∀ j, a = 6 + 4 * j → j = i) → (laB n m i kl kw l' o' u'.p u'.is u'.nr u'.b u'.q X ++ T)[t]? = some b → b.rw = true → H2[pl a]? = some (renB (rho ((ixB n i).map pl) h.length) b) := fun t a b e h1 h2 hb hr =>
        back_at (Y.lt (hix e)) (fun j hj => huq j t a h1 h2 (hix e) hj (hss t a e)) (hss t a e) hb hr
      have keep_ : ∀ a, a < 6 + 4 * n → a ≠ 0 → a ≠ 5 → a ≠ 6 + 4 * i → a ≠ 7 + 4 * i → a ≠ 8 + 4 * i → H2[pl a]? = h[pl a]? := fun a ha h0 h5 h6 h7 h8 => back_keep (Y.lt ha) fun t b e1 e2 => by
        rcases ixB_inv (hsel t a ha e1) with q | ⟨rfl, q⟩ | ⟨rfl, q⟩ | q | q | q | ⟨rfl, q⟩ | q | ⟨q8, q24, q⟩ <;> first | omega | skip
        · have : b = cr [] := by simpa [laB] using e2.symm
          rw [this]; rfl
        · have : b = cr (ptrs n (uf i 3 8) ++ nils m) := by simpa [laB] using e2.symm
          rw [this]; rfl
        · have : b = cr [] := by simpa [laB] using e2.symm
          rw [this]; rfl
        · rw [laB_hid q8 q24] at e2; cases e2; rfl
      have new_ : ∀ (j : Nat), H2[h.length + j]? = (T[j]?).map (renB (rho ((ixB n i).map pl) h.length)) := fun j => by
        have := back_new (h := h) (sel := (ixB n i).map pl) (h1 := laB n m i kl kw l' o' u'.p u'.is u'.nr u'.b u'.q X ++ T) (ρ := rho ((ixB n i).map pl) h.length) j
        rw [List.length_map, ixB_len, hgt (by omega), Nat.add_sub_cancel_left] at this
        exact this
      have hkl : rho ((ixB n i).map pl) h.length kl = if kl = 7 then pl 5 else h.length + (kl - 24) := by
        rcases G.way with ⟨rfl, _⟩ | ⟨j, rfl, _⟩
        · rw [if_pos rfl]; exact hρ 7 5 rfl
        · rw [if_neg (by omega), hρn, Nat.add_sub_cancel_left]
      have hkw : rho ((ixB n i).map pl) h.length kw = if kw = 6 then pl (9 + 4 * i) else h.length + (kw - 24) := by
        rcases G.whl with ⟨rfl, _⟩ | ⟨j, B, rfl, _, _⟩
        · rw [if_pos rfl]; exact hρ 6 _ rfl
        · rw [if_neg (by omega), hρn, Nat.add_sub_cancel_left]
      have hlt : ∀ a, a < 6 + 4 * n → pl a < h.length := fun a ha => Y.lt ha
      have hne := G.ne
      have h24l : kl = 7 ∨ 24 ≤ kl := by rcases G.way with ⟨rfl, _⟩ | ⟨j, rfl, _⟩ <;> omega
      have h24w : kw = 6 ∨ 24 ≤ kw := by rcases G.whl with ⟨rfl, _⟩ | ⟨j, B, rfl, _, _⟩ <;> omega
      let P2 : Nat → Nat := fun a => if a = 5 then (if kl = 7 then pl 5 else h.length + (kl - 24)) else if a = 9 + 4 * i then (if kw = 6 then pl (9 + 4 * i) else h.length + (kw - 24)) else pl a
      have p5 : P2 5 = if kl = 7 then pl 5 else h.length + (kl - 24) := if_pos rfl
      have p9 : P2 (9 + 4 * i) = if kw = 6 then pl (9 + 4 * i) else h.length + (kw - 24) := by
        show (if 9 + 4 * i = 5 then _ else _) = _
        rw [if_neg (by omega), if_pos rfl]
      have pn_ : ∀ a, a ≠ 5 → a ≠ 9 + 4 * i → P2 a = pl a := fun a h5 h9 => by
        show (if a = 5 then _ else _) = _
        rw [if_neg h5, if_neg h9]
      have plo : ∀ a, a < 6 + 4 * n → F (P2 a) := fun a ha => by
        by_cases h5 : a = 5
        · subst h5; rw [p5]; split
          · exact hlo 5 (by omega)
          · exact hll _ (Nat.le_add_right _ _)
        by_cases h9 : a = 9 + 4 * i
        · subst h9; rw [p9]; split
          · exact hlo _ (by omega)
          · exact hll _ (Nat.le_add_right _ _)
        rw [pn_ a h5 h9]; exact hlo a ha
      refine hK H2 ⟨m, o', P2, ⟨?_, (fun e => by cases e), ?_, ?_, ?_, ?_, ?_, ?_, G.ok, ?_, ?_, ?_, ?_⟩, pn_ 0 (by omega) (by omega), plo, h1, h16, fun k hk => hll k (Nat.le_trans back_len hk)⟩ ⟨back_frame (fun j k e => by
        obtain ⟨a, e1, rfl⟩ := getElem?_map e; exact hlo a (hix e1)) hll, back_len, gone_back hgo hl24 hview⟩
      · intro a b ha hb e
        have key : ∀ a, a < 6 + 4 * n → (a ≠ 5 ∧ a ≠ 9 + 4 * i ∧ P2 a = pl a ∧ P2 a < h.length) ∨ (a = 5 ∧ ((kl = 7 ∧ P2 a = pl a) ∨ (24 ≤ kl ∧ P2 a = h.length + (kl - 24)))) ∨ (a = 9 + 4 * i ∧ ((kw = 6 ∧ P2 a = pl a) ∨ (24 ≤ kw ∧ P2 a = h.length + (kw - 24)))) := fun a ha => by
          by_cases h5 : a = 5
          · subst h5
            refine .inr (.inl ⟨rfl, ?_⟩)
            rw [p5]
            rcases h24l with q | q
            · exact .inl ⟨q, if_pos q⟩
            · exact .inr ⟨q, if_neg (by omega)⟩
          by_cases h9 : a = 9 + 4 * i
          · subst h9
            refine .inr (.inr ⟨rfl, ?_⟩)
            rw [p9]
            rcases h24w with q | q
            · exact .inl ⟨q, if_pos q⟩
            · exact .inr ⟨q, if_neg (by omega)⟩
          exact .inl ⟨h5, h9, pn_ a h5 h9, by rw [pn_ a h5 h9]; exact hlt a ha⟩
        have ka := key a ha
        have kb := key b hb
        have la := hlt a ha
        have lb := hlt b hb
        rcases ka with ⟨a1, a2, a3, a4⟩ | ⟨a1, ⟨a2, a3⟩ | ⟨a2, a3⟩⟩ | ⟨a1, ⟨a2, a3⟩ | ⟨a2, a3⟩⟩ <;> rcases kb with ⟨b1, b2, b3, b4⟩ | ⟨b1, ⟨b2, b3⟩ | ⟨b2, b3⟩⟩ | ⟨b1, ⟨b2, b3⟩ | ⟨b2, b3⟩⟩ <;> first | omega | exact Y.inj a b ha hb (a3.symm.trans (e.trans b3))
      · have := at_ 0 0 _ rfl (by omega) (fun j e => by omega) rfl rfl
        rw [pn_ 0 (by omega) (by omega), pn_ 1 (by omega) (by omega), pn_ 4 (by omega) (by omega), p5, this]
        exact congrArg some (ren_yardL (hρ 1 1 rfl) (by show ren1 _ (slV 2 n (some m)) = _; exact ren1_slV (some m) (hρ 2 4 rfl)) (ren_gV o' hkl))
      · rw [pn_ 1 (by omega) (by omega), pn_ 2 (by omega) (by omega), pn_ 3 (by omega) (by omega), keep_ 1 (by omega) (by omega) (by omega) (by omega) (by omega) (by omega)]
        exact Y.hd
      · rw [pn_ 2 (by omega) (by omega), keep_ 2 (by omega) (by omega) (by omega) (by omega) (by omega) (by omega)]
        exact Y.hc
      · rw [pn_ 3 (by omega) (by omega), keep_ 3 (by omega) (by omega) (by omega) (by omega) (by omega) (by omega)]
        exact Y.hm
      · rw [pn_ 4 (by omega) (by omega), keep_ 4 (by omega) (by omega) (by omega) (by omega) (by omega) (by omega), Y.ur]
        have : (fun j => pl (6 + 4 * j)) = fun j => P2 (6 + 4 * j) := by
          funext j; rw [pn_ _ (by omega) (by omega)]
        rw [this]
      · rw [p5]
        rcases G.way with ⟨hk7, rfl⟩ | ⟨j, hk, hT⟩
        · rw [if_pos hk7, at_ 7 5 _ rfl (by omega) (fun j e => by omega) rfl (by cases o' <;> rfl), ren_gB G.ok]
        · rw [if_neg (by omega), show kl - 24 = j by omega, new_ j, hT]
          exact congrArg some (ren_gB G.ok)
      · intro j hj
        by_cases hji : j = i
        · subst hji
          rw [pn_ _ (by omega) (by omega), pn_ _ (by omega) (by omega), pn_ _ (by omega) (by omega), at_ 3 _ _ rfl (by omega) (fun j' e => by omega) rfl rfl]
          simp only [upd1, if_true]
          exact congrArg some (ren_unitL (hρ 4 _ rfl) (hρ 5 _ rfl))
        · rw [pn_ _ (by omega) (by omega), pn_ _ (by omega) (by omega), pn_ _ (by omega) (by omega), keep_ _ (by omega) (by omega) (by omega) (by omega) (by omega) (by omega)]
          simp only [upd1, hji, if_false]; exact Y.un j hj
      · intro j hj
        by_cases hji : j = i
        · subst hji
          rw [pn_ _ (by omega) (by omega), p9, at_ 4 _ _ rfl (by omega) (fun j' e => by omega) rfl rfl]
          simp only [upd1, if_true]
          exact congrArg some (ren_planeL (ren1_slV _ hkw))
        · rw [pn_ _ (by omega) (by omega), pn_ _ (by omega) (by omega), keep_ _ (by omega) (by omega) (by omega) (by omega) (by omega) (by omega)]
          simp only [upd1, hji, if_false]; exact Y.pn j hj
      · intro j hj
        by_cases hji : j = i
        · subst hji
          rw [pn_ _ (by omega) (by omega), at_ 5 _ _ rfl (by omega) (fun j' e => by omega) rfl rfl]
          exact congrArg some (ren_ntsV _)
        · rw [pn_ _ (by omega) (by omega), keep_ _ (by omega) (by omega) (by omega) (by omega) (by omega) (by omega)]
          exact Y.ch j hj
      · intro j hj
        by_cases hji : j = i
        · subst hji
          simp only [upd1, if_true]
          rw [p9]
          rcases G.whl with ⟨hk6, hw⟩ | ⟨j', B, hk, hT, hw⟩
          · obtain ⟨B, hB, hwB⟩ := Y.wh j hj
            rw [if_pos hk6, keep_ _ (by omega) (by omega) (by omega) (by omega) (by omega) (by omega)]
            exact ⟨B, hB, hw B hwB⟩
          · rw [if_neg (by omega), show kw - 24 = j' by omega, new_ j', hT]
            exact ⟨_, rfl, whB_ren hw⟩
        · rw [pn_ _ (by omega) (by omega), keep_ _ (by omega) (by omega) (by omega) (by omega) (by omega) (by omega)]
          simp only [upd1, hji, if_false]; exact Y.wh j hj
theorem glueB {u' : US} (hi : i < n) (hY : YT F y n x us l h) (hex : ex.all vpf = true) (hV : vpf V = true)
    (hC : ∀ m o, gOk l o → n ≤ 16 → ∃ R, C g (pv 0 0 :: ex) (laB n m i 7 6 l o (us i).p (us i).is (us i).nr (us i).b (us i).q (gB l o)) R ∧ ∀ v h', R v h' → v = V ∧ PG n m i o l' (us i) u' h')
    (hK : ∀ h', YT F y n x (upd1 us i u') l' h' → FrY F h h' → K V h') : CallK C g (pv y 0 :: ex) K h :=
  glueB2 (u' := fun _ => u') (ok := fun _ => True) hi hY hex hV (fun m o ho h16 => let ⟨R, h1, h2⟩ := hC m o ho h16; ⟨R, h1, fun v h' hr => ⟨(h2 v h' hr).1, none, trivial, (h2 v h' hr).2⟩⟩) (fun _ _ => hK)
end
end Go.Rh

namespace Go.Rh
structure YCode (P : Program) : Prop where
  h_yard_Yard_Notes : k_yard_Yard_Notes P
  h_yard_Yard_Pool : k_yard_Yard_Pool P
  h_head_Head_Pool : k_head_Head_Pool P
  h_yard_Yard_Wish : k_yard_Yard_Wish P
  h_head_Head_Wish : k_head_Head_Wish P
  h_head_Head_waiting : k_head_Head_waiting P
  h_pool_All : k_pool_All P
  h_pool_Apply : k_pool_Apply P
  h_pool_may : k_pool_may P
  h_pool_held : k_pool_held P
  h_pool_fits : k_pool_fits P
  h_pool_Check : k_pool_Check P
  h_pool_placed : k_pool_placed P
  h_cookie_Next : k_cookie_Next P
  h_yard_Yard_Tick : k_yard_Yard_Tick P
  h_head_Head_Send : k_head_Head_Send P
  h_head_Head_all : k_head_Head_all P
  h_head_Head_publish : k_head_Head_publish P
  h_yard_row_head_Note_put : k_yard_row_head_Note_put P
  h_yard_Yard_Lose : k_yard_Yard_Lose P
  h_yard_row_head_Note_at : k_yard_row_head_Note_at P
  h_yard_row_head_Note_drop : k_yard_row_head_Note_drop P
  h_yard_Yard_Version : k_yard_Yard_Version P
  h_yard_row_yard_unit_at : k_yard_row_yard_unit_at P
  h_plane_Plane_Version : k_plane_Plane_Version P
  h_yard_Yard_Crash : k_yard_Yard_Crash P
  h_plane_Plane_Crash : k_plane_Plane_Crash P
  h_yard_Yard_Deliver : k_yard_Yard_Deliver P
  h_head_Head_Heard : k_head_Head_Heard P
  h_yard_unit_hear : k_yard_unit_hear P
  h_yard_unit_version : k_yard_unit_version P
  h_yard_unit_load : k_yard_unit_load P
  h_plane_Plane_Load : k_plane_Plane_Load P
  h_plane_maybe_api_Pool_lay : k_plane_maybe_api_Pool_lay P
  h_wheel_Make : k_wheel_Make P
  h_wheel_spun : k_wheel_spun P
  h_sip_Words : k_sip_Words P
  h_sip_Of : k_sip_Of P
  h_sip_number_byte : k_sip_number_byte P
  h_sip_state_take : k_sip_state_take P
  h_sip_state_rounds : k_sip_state_rounds P
  h_sip_state_round : k_sip_state_round P
  h_math_bits_RotateLeft64 : k_math_bits_RotateLeft64 P
  h_head_New : k_head_New P
  h_plane_New : k_plane_New P
  h_yard_New : k_yard_New P
  h_yard_row_yard_unit_put : k_yard_row_yard_unit_put P
structure UP where
  p : Flat
  is : Bool
  b : Int
  nr : Nat → Int × Bool
structure YS where
  n : Nat
  x : HS
  us : Nat → UP
  l : List Nt
def UP.u (v : UP) (q : Option Nat) : US := ⟨v.p, v.is, v.b, v.nr, q⟩
def YP (F : Nat → Prop) (y : Nat) (s : YS) (h : List Blk) : Prop := ∃ q : Nat → Option Nat, (∀ j, j < s.n → (s.us j).is = true → (q j).isSome = true) ∧ YT F y s.n s.x (fun j => (s.us j).u (q j)) s.l h
def updU (us : Nat → UP) (i : Nat) (u : UP) : Nat → UP := fun j => if j = i then u else us j
def tickS (s : YS) : YS := { s with x := (sendS s.x).1, l := s.l ++ (sendS s.x).2 }
def loseY (s : YS) (k : Int) : YS := { s with l := loseS s.l k }
def inU (n : Nat) (u : Int) : Bool := decide (0 ≤ u ∧ u < n)
def hearU (u : UP) (n : Nt) : UP := ⟨(uhS u.p u.is u.b n).1, (uhS u.p u.is u.b n).2, u.b, u.nr⟩
def dlvS (s : YS) (k : Int) (keep : Bool) : YS :=
  if (atS s.l k).2 = true then
    (if (atS s.l k).1.a = true then { s with x := hearS s.x (atS s.l k).1, l := restS s.l k keep }
    else { s with us := updU s.us (atS s.l k).1.u.toNat (hearU (s.us (atS s.l k).1.u.toNat) (atS s.l k).1), l := restS s.l k keep ++ [ackN (atS s.l k).1.u (s.us (atS s.l k).1.u.toNat).b (uhS (s.us (atS s.l k).1.u.toNat).p (s.us (atS s.l k).1.u.toNat).is (s.us (atS s.l k).1.u.toNat).b (atS s.l k).1)] })
  else s
def verY (s : YS) (u : Int) : Int × Bool := if inU s.n u = true then ((s.us u.toNat).p 0, (s.us u.toNat).is) else (0, false)
def NOK (s : YS) : Prop := ∀ nt ∈ s.l, nt.a = false → 0 ≤ nt.u ∧ nt.u < s.n
section
variable {P : Program} {F : Nat → Prop} {y : Nat} {s : YS} {h : List Blk} {K : Post}
theorem YP.fun_eq {n : Nat} {x : HS} {us us' : Nat → US} {l : List Nt} (h1 : YT F y n x us l h) (he : us = us') : YT F y n x us' l h := he ▸ h1
theorem YP.of {q : Nat → Option Nat} {x' : HS} {l' : List Nt} {h' : List Blk} (hq : ∀ j, j < s.n → (s.us j).is = true → (q j).isSome = true) (hY : YT F y s.n x' (fun j => (s.us j).u (q j)) l' h') : YP F y { s with x := x', l := l' } h' := ⟨q, hq, hY⟩
theorem YNotesK (H : YCode P) (hY : YP F y s h) (hK : ∀ h', YP F y s h' → FrY F h h' → K (iv (s.l.length : Nat)) h') : CallK (Env P) "(*roundhouse/yard.Yard).Notes" [pv y 0] K h := by
  obtain ⟨q, hq, hY⟩ := hY
  refine glueA (ex := []) (V := iv (s.l.length : Nat)) (x' := s.x) (l' := s.l) hY rfl rfl (fun m o ho => ⟨_, YNotesAC H.h_yard_Yard_Notes s.x.p s.x.w s.x.hd s.x.e s.x.s s.n m s.l o ho, ?_⟩) (fun h' hT => hK h' (YP.of hq hT))
  rintro v h' ⟨rfl, rfl⟩
  exact ⟨rfl, o, gB s.l o, 5, [], ho, (fun z => by subst z; rfl), .inl ⟨rfl, rfl, rfl⟩, rfl⟩
theorem YTickK (H : YCode P) (hY : YP F y s h) (hl : s.l.length ≤ 900000) (hh : s.x.hd.length ≤ 1000) (hK : ∀ h', YP F y (tickS s) h' → FrY F h h' → K (iv ((tickS s).l.length : Nat)) h') : CallK (Env P) "(*roundhouse/yard.Yard).Tick" [pv y 0] K h := by
  obtain ⟨q, hq, hY⟩ := hY
  refine glueA (ex := []) (V := iv ((tickS s).l.length : Nat)) (x' := (tickS s).x) (l' := (tickS s).l) hY rfl rfl (fun m o ho => ⟨_, YTickC H.h_yard_Yard_Tick H.h_head_Head_Send H.h_head_Head_all H.h_head_Head_publish H.h_pool_Apply H.h_pool_may H.h_pool_held H.h_pool_fits H.h_pool_Check H.h_pool_placed H.h_cookie_Next H.h_yard_row_head_Note_put H.h_yard_Yard_Notes s.x.p s.x.w s.x.hd s.x.e s.x.s s.n m s.l o ho hl hh, ?_⟩) (fun h' hT => hK h' (YP.of hq hT))
  rintro v h' ⟨rfl, hp⟩
  exact ⟨rfl, hp⟩
theorem YLoseK (H : YCode P) (hY : YP F y s h) (hl : s.l.length ≤ 900000) (k : Int) (hK : ∀ h', YP F y (loseY s k) h' → FrY F h h' → K (bv (atS s.l k).2) h') : CallK (Env P) "(*roundhouse/yard.Yard).Lose" [pv y 0, iv k] K h := by
  obtain ⟨q, hq, hY⟩ := hY
  refine glueA (ex := [iv k]) (V := bv (atS s.l k).2) (x' := s.x) (l' := loseS s.l k) hY rfl rfl (fun m o ho => ⟨_, YLoseC H.h_yard_Yard_Lose H.h_yard_row_head_Note_at H.h_yard_row_head_Note_drop s.x.p s.x.w s.x.hd s.x.e s.x.s s.n m s.l o ho hl k, ?_⟩) (fun h' hT => hK h' (YP.of hq hT))
  rintro v h' ⟨rfl, hp⟩
  exact ⟨rfl, hp⟩
theorem YVersionK (H : YCode P) (hY : YP F y s h) (u : Int) (hK : ∀ h', YP F y s h' → FrY F h h' → K (.tuple #[iv (verY s u).1, bv (verY s u).2]) h') : CallK (Env P) "(*roundhouse/yard.Yard).Version" [pv y 0, iv u] K h := by
  obtain ⟨q, hq, hY⟩ := hY
  have h1n : 1 ≤ s.n := by obtain ⟨_, _, _, _, _, _, h1, _⟩ := hY; exact h1
  obtain ⟨i, hi, hui⟩ : ∃ i : Nat, i < s.n ∧ (0 ≤ u ∧ u < (s.n : Nat) → u = (i : Nat)) := by
    by_cases hu : 0 ≤ u ∧ u < (s.n : Nat)
    · exact ⟨u.toNat, by omega, fun _ => by omega⟩
    · exact ⟨0, h1n, fun q => absurd q hu⟩
  refine glueB (i := i) (u' := (s.us i).u (q i)) (l' := s.l) (ex := [iv u]) (V := .tuple #[iv (verY s u).1, bv (verY s u).2]) hi hY rfl rfl (fun m o ho h16 => ⟨_, YVersionC H.h_yard_Yard_Version H.h_yard_row_yard_unit_at H.h_plane_Plane_Version s.n m i h16 hi s.l o ho (s.us i).p (s.us i).is (s.us i).nr (s.us i).b (q i) u hui, ?_⟩) (fun h' hT => hK h' ⟨q, hq, ?_⟩)
  · rintro v h' ⟨rfl, rfl⟩
    refine ⟨?_, o, gB s.l o, 7, 6, [], ⟨ho, (fun z => by subst z; rfl), rfl, .inl ⟨rfl, rfl⟩, by decide, .inl ⟨rfl, fun B hB => hB⟩⟩⟩
    unfold verY inU
    by_cases hu : 0 ≤ u ∧ u < (s.n : Nat)
    · rw [if_pos hu, if_pos (decide_eq_true hu), show u.toNat = i by have := hui hu; omega]
    · rw [if_neg hu, if_neg (by simpa using hu)]
  · refine YP.fun_eq hT ?_
    funext j
    unfold upd1; split
    · rename_i e; rw [e]
    · rfl
theorem atS_mem {l : List Nt} {k : Int} (h : (atS l k).2 = true) : (atS l k).1 ∈ l := by
  have hin := atS_in h
  unfold atS
  rw [if_pos hin]
  exact List.mem_of_getElem? (nts_get (l := l) (k := k.toNat) (by omega))
theorem YDeliverK (H : YCode P) (hY : YP F y s h) (hl : s.l.length ≤ 900000) (hN : NOK s) (k : Int) (keep : Bool) (hK : ∀ h', YP F y (dlvS s k keep) h' → FrY F h h' → K (bv (atS s.l k).2) h') : CallK (Env P) "(*roundhouse/yard.Yard).Deliver" [pv y 0, iv k, bv keep] K h := by
  obtain ⟨q, hq, hY⟩ := hY
  by_cases hack : (atS s.l k).2 = true → (atS s.l k).1.a = true
  · refine glueA (ex := [iv k, bv keep]) (V := bv (atS s.l k).2) (x' := (ackS s.x s.l k keep).1) (l' := (ackS s.x s.l k keep).2) hY rfl rfl (fun m o ho => ⟨_, YDeliverAC H.h_yard_Yard_Deliver H.h_yard_row_head_Note_at H.h_yard_row_head_Note_drop H.h_head_Head_Heard s.x.p s.x.w s.x.hd s.x.e s.x.s s.n m s.l o ho hl k keep hack, ?_⟩) (fun h' hT => hK h' ?_)
    · rintro v h' ⟨rfl, hp⟩
      exact ⟨rfl, hp⟩
    · have : dlvS s k keep = { s with x := (ackS s.x s.l k keep).1, l := (ackS s.x s.l k keep).2 } := by
        unfold dlvS ackS
        by_cases hf : (atS s.l k).2 = true
        · rw [if_pos hf, if_pos hf, if_pos (hack hf)]; rfl
        · rw [if_neg hf, if_neg hf]
      rw [this]
      exact YP.of hq hT
  · have hf : (atS s.l k).2 = true := Decidable.byContradiction fun e => hack fun q => absurd q e
    have ha : (atS s.l k).1.a = false := by
      cases e : (atS s.l k).1.a with
      | true => exact absurd (fun _ => e) hack
      | false => rfl
    obtain ⟨hu0, hun⟩ := hN _ (atS_mem hf) ha
    obtain ⟨i, hi⟩ : ∃ i : Nat, (atS s.l k).1.u = (i : Nat) := ⟨(atS s.l k).1.u.toNat, by omega⟩
    have hin : i < s.n := by omega
    have hd : ∀ ld, dlvB (s.us i).p (s.us i).is (s.us i).b s.l k keep = ld → ld = (uhS (s.us i).p (s.us i).is (s.us i).b (atS s.l k).1, restS s.l k keep ++ [ackN (atS s.l k).1.u (s.us i).b (uhS (s.us i).p (s.us i).is (s.us i).b (atS s.l k).1)]) := by
      rintro ld rfl
      unfold dlvB; rw [if_pos hf]; rfl
    have hds : dlvS s k keep = { s with us := updU s.us i (hearU (s.us i) (atS s.l k).1), l := restS s.l k keep ++ [ackN (atS s.l k).1.u (s.us i).b (uhS (s.us i).p (s.us i).is (s.us i).b (atS s.l k).1)] } := by
      unfold dlvS
      rw [if_pos hf, if_neg (by rw [ha]; simp), show (atS s.l k).1.u.toNat = i by omega]
    -- the capacity of the new wheel is not known ahead: one contract, its answers by cases
    have key := fun m o ho h16 => YDeliverBC H.h_yard_Yard_Deliver H.h_yard_row_head_Note_at H.h_yard_row_head_Note_drop H.h_yard_row_yard_unit_at H.h_yard_unit_hear H.h_yard_unit_version H.h_plane_Plane_Version H.h_yard_unit_load H.h_plane_Plane_Load H.h_plane_maybe_api_Pool_lay H.h_wheel_Make H.h_wheel_spun H.h_sip_Words H.h_sip_Of H.h_sip_number_byte H.h_sip_state_take H.h_sip_state_rounds H.h_sip_state_round H.h_math_bits_RotateLeft64 H.h_pool_Apply H.h_pool_may H.h_pool_held H.h_pool_fits H.h_pool_Check H.h_pool_placed H.h_cookie_Next H.h_yard_row_head_Note_put H.h_head_Head_Heard s.n m i h16 hin s.l o ho hl (s.us i).p (s.us i).is (s.us i).nr (s.us i).b (q i) k keep (fun _ => ⟨ha, hi⟩) (atS s.l k).1 rfl
    refine glueB2 (i := i) (u' := fun c => (hearU (s.us i) (atS s.l k).1).u c) (ok := fun c => (uhS (s.us i).p (s.us i).is (s.us i).b (atS s.l k).1).2 = true → c.isSome = true) (l' := restS s.l k keep ++ [ackN (atS s.l k).1.u (s.us i).b (uhS (s.us i).p (s.us i).is (s.us i).b (atS s.l k).1)]) (ex := [iv k, bv keep]) (V := bv (atS s.l k).2) hin hY rfl rfl (fun m o ho h16 => ⟨_, key m o ho h16, ?_⟩) (fun c hc h' hT => hK h' ?_)
    · rintro v h' ⟨rfl, ld, e1, e2, o', X, kl, kw, qw, T, G⟩
      have hdd := hd _ rfl
      rw [hdd] at G e1 e2
      refine ⟨rfl, qw, ?_, o', X, kl, kw, T, ⟨G.ok, G.gone, G.eq, G.way, G.ne, ?_⟩⟩
      · intro his
        rcases G.whl with ⟨hld, _, hqw⟩ | ⟨j, c, B, _, _, hqw, _, _⟩
        · have := e1 hld
          simp only at this
          rw [this] at his
          rw [hqw]; exact hq i hin his
        · rw [hqw]; rfl
      · rcases G.whl with ⟨hld, hkw, hqw⟩ | ⟨j, c, B, hld, hkw, hqw, hT, hB⟩
        · refine .inl ⟨hkw, fun B hB => ?_⟩
          have e1 := e1 hld
          simp only at e1
          subst hqw
          unfold whB at hB ⊢
          simp only [UP.u, hearU, e1] at hB ⊢
          exact hB
        · refine .inr ⟨j, B, hkw, hT, ?_⟩
          subst hqw
          unfold whB
          simp only [UP.u, hearU]
          exact hB
    · rw [hds]
      refine ⟨fun j => if j = i then c else q j, ?_, ?_⟩
      · intro j hj his
        simp only [updU] at his
        by_cases e : j = i
        · rw [if_pos e] at his; simp only [e, if_true]; exact hc his
        · rw [if_neg e] at his; simp only [e, if_false]; exact hq j hj his
      · refine YP.fun_eq hT ?_
        funext j
        unfold upd1 updU
        by_cases e : j = i <;> simp [e]
end
end Go.Rh

namespace Go.Rh
section
variable {C : CallT} {un : Nat → Nat → Bool} {K : St → Prop} {L : List (Nat × Value)} {h : List Blk} {i nid : Nat} {log : List Foot}
theorem d_mkF {d : Nat} {op : IOp} {r : List ICell} {v : Value} {B : Blk} (hm : op.makes = true) (hs : stepE op (evf (reg L)) (hf h) nid = some (v, .push B)) (hg : h[nid]? = some .gone) (hfit : fits un ⟨i, [], [nid], none⟩ log)
    (hk : GD C un (i + 1) (nid + 1) r (⟨i, [], [nid], none⟩ :: log) K ⟨reg ((d, v) :: L), h.set nid B⟩) : GD C un i nid (⟨some d, op, none⟩ :: r) log K ⟨reg L, h⟩ := by
  refine ⟨?_⟩
  show stepD C un ⟨i, nid, ⟨some d, op, none⟩⟩ log (fun log' s' => wpD C un (annot (i + 1) (if op.makes then nid + 1 else nid) r) log' K s') ⟨reg L, h⟩
  have hsp : special op = 0 := by cases op <;> first | rfl | cases hm
  have hrd : rdE op (evf (reg L)) = [] := by unfold rdE; rw [makes_rdl hm]; rfl
  refine (stepD_det (fun _ => hsp)).2 ⟨⟨i, [], [nid], none⟩, ⟨putf (reg L) (some d) v, h.set nid B⟩, ?_, hfit, ?_⟩
  · simp [detD, gJ, want, hs, hrd, hg]
  · have hk := hk.out
    simp only [hm, if_true]
    exact hk
theorem d_callF {d : Nat} {g : String} {args : List Opd} {r : List ICell} {R : Post} (sel : List Nat) (h1 : List Blk) (a1 : List Value) (hC : C g a1 h1 R) (hl : h1.length = sel.length) (ha : a1.map (renV (rho sel h.length)) = args.map (evf (reg L)))
    (hs : ∀ (i k : Nat) b1, sel[i]? = some k → h1[i]? = some b1 → ∃ b, h[k]? = some b ∧ Blk.view (renB (rho sel h.length) b1) b)
    (hd : ∀ (i j k : Nat) b1, i ≠ j → sel[i]? = some k → sel[j]? = some k → h1[i]? = some b1 → b1.rw = false)
    (hfit : fits un ⟨i, sel, wrsel sel h1, some h.length⟩ log) (hx : ∃ v h1', R v h1' ∧ sel.length ≤ h1'.length ∧ flagsL h1 h1')
    (hK : ∀ v h1', R v h1' → goneL h1 h1' ∧ GD C un (i + 1) nid r (⟨i, sel, wrsel sel h1, some h.length⟩ :: log) K ⟨reg ((d, renV (rho sel h.length) v) :: L), back h sel h1' (rho sel h.length)⟩) : GD C un i nid (⟨some d, .call g args, none⟩ :: r) log K ⟨reg L, h⟩ :=
  ⟨⟨sel, h1, a1, R, hC, hl, ha, hs, hd, hfit, fun _ => hx, fun v h1' hR _ _ => ⟨(hK v h1' hR).1, (hK v h1' hR).2.out⟩⟩⟩
end
theorem ptrs_succ (k : Nat) (f : Nat → Nat) : ptrs k f ++ [pv (f k) 0] = ptrs (k + 1) f := by
  simp [ptrs, List.range_succ]
theorem putUC {P : Program} (hc : k_yard_row_yard_unit_put P) (k : Nat) (hk : k ≤ 1000) (f : Nat → Nat) (ro : Option Nat) (ho : ro = none → k = 0) (w : Value) (T : List Blk) :
    Env P "(*roundhouse/yard.row[*roundhouse/yard.unit]).put" [pv 0 1, sv 2 0 1 1] ([cw [pv 3 0, slV 1 k ro, w], pB k f ro, cw [pv (f k) 0], cr []] ++ T)
      (fun v h' => v = .tuple #[] ∧ ∃ m, (ro.isSome = true ∧ h' = [cw [pv 3 0, slV 1 (k + 1) (some m), w], pB (k + 1) f (some m), cw [pv (f k) 0], cr []] ++ T) ∨ h' = [cw [pv 3 0, slV (4 + T.length) (k + 1) (some m), w], pB k f ro, cw [pv (f k) 0], cr []] ++ T ++ [pB (k + 1) f (some m)]) := by
  refine Env.by2 hc ?_
  unfold c_yard_row_yard_unit_put
  show GC _ _ _ _ ⟨reg [(0, pv 0 1), (1, sv 2 0 1 1)], [cw [pv 3 0, slV 1 k ro, w], pB k f ro, cw [pv (f k) 0], cr []] ++ T⟩
  refine greg (o_d 6 [(9, sv 2 0 1 1), (8, slV 1 k ro), (7, pv 0 1), (6, pv 0 1), (5, pv 0 1), (4, pv 0 1)] (by kernel_rfl) (o_appC (k := 1) (n := k) (o := ro) (q := 1) (cs := ptrs k f) (xs := [pv (f k) 0]) (cs2 := ptrs (k + 1) f) (zl := [.pointer none]) rfl rfl rfl (fun m q => by subst q; rfl) (fun q => by have := ho q; subst this; exact ⟨rfl, rfl⟩) (by simp [ptrs]) rfl rfl (app_first rfl rfl (by simp)) rfl (by omega) (by omega) (ptrs_succ k f) (fun m q => ?_) (fun m => ?_)))
  · subst q
    exact o_b 3 [(12, pv 0 1), (11, pv 0 1)] ([cw [pv 3 0, slV 1 (k + 1) (some m), w], pB (k + 1) f (some m), cw [pv (f k) 0], cr []] ++ T) (by kernel_rfl) (o_nil ⟨trivial, _, .inl rfl, [], rfl, tup_nil, rfl, m, .inl ⟨rfl, rfl⟩⟩)
  · have hl : ([cw [pv 3 0, slV 1 k ro, w], pB k f ro, cw [pv (f k) 0], cr []] ++ T).length = 4 + T.length := by simp; omega
    rw [hl]
    exact o_b 3 [(12, pv 0 1), (11, pv 0 1)] ([cw [pv 3 0, slV (4 + T.length) (k + 1) (some m), w], pB k f ro, cw [pv (f k) 0], cr []] ++ T ++ [pB (k + 1) f (some m)]) (by kernel_rfl) (o_nil ⟨trivial, _, .inl rfl, [], rfl, tup_nil, rfl, m, .inr rfl⟩)
def u00 : US := ⟨zeroP, false, 0, nr0, none⟩
def nyS (p : Flat) (n : Nat) : YS := ⟨n, newHS p (n : Nat), fun _ => ⟨zeroP, false, 0, nr0⟩, []⟩
def YHn (k : Nat) (x : HS) (h : List Blk) : Prop := ∃ ro pl, YH k ro x (fun _ => u00) [] none pl h ∧ pl 0 = 0
theorem app_at {h T : List Blk} {k : Nat} {b : Blk} (hb : h[k]? = some b) : (h ++ T)[k]? = some b := by
  rw [List.getElem?_append_left (lt_of_getElem? hb)]; exact hb
theorem new_at {h T : List Blk} (j : Nat) : (h ++ T)[h.length + j]? = T[j]? := by
  rw [List.getElem?_append_right (Nat.le_add_right _ _), Nat.add_sub_cancel_left]
theorem YH.more {k : Nat} {ro : Option Nat} {x : HS} {us : Nat → US} {l : List Nt} {o : Gr} {pl : Nat → Nat} {h : List Blk} (Y : YH k ro x us l o pl h) (T : List Blk) : YH k ro x us l o pl (h ++ T) :=
  ⟨Y.inj, Y.ro0, app_at Y.y, app_at Y.hd, app_at Y.hc, app_at Y.hm, app_at Y.ur, app_at Y.way, Y.ok, fun j hj => app_at (Y.un j hj), fun j hj => app_at (Y.pn j hj), fun j hj => app_at (Y.ch j hj), fun j hj => let ⟨B, h1, h2⟩ := Y.wh j hj; ⟨B, app_at h1, h2⟩⟩
theorem YH.grow {k : Nat} {ro : Option Nat} {x : HS} {pl : Nat → Nat} {h h' : List Blk} (Y : YH k ro x (fun _ => u00) [] none pl h) (hp : pl 0 = 0) (ku m : Nat) (f : Nat → Nat) (N : Nat) (hN : N = h.length)
    (hf : ∀ j, j < k → f j = pl (6 + 4 * j)) (hfk : f k = N + 1) (hku : ku = pl 4 ∨ N + 4 ≤ ku)
    (e0 : h'[pl 0]? = some (cw (yardL (pl 1) (slV ku (k + 1) (some m)) (gV (pl 5) 0 none))))
    (e4 : h'[ku]? = some (pB (k + 1) f (some m)))
    (ek : ∀ a, a < 6 + 4 * k → a ≠ 0 → a ≠ 4 → h'[pl a]? = h[pl a]?)
    (e1 : h'[N]? = some (.chan 1 (([] : List Nt).map ntE))) (e2 : h'[N + 1]? = some (cw (unitL (N + 3) zeroP 0 N))) (e3 : ∃ c rw, h'[N + 2]? = some (.cells c rw)) (e5 : h'[N + 3]? = some (cw (planeL zeroP false nr0 (.slice none 0 0)))) : YHn (k + 1) x h' := by
  subst hN
  have hlt : ∀ a, a < 6 + 4 * k → pl a < h.length := fun a ha => Y.lt ha
  let P2 : Nat → Nat := fun a => if a = 4 then ku else if a < 6 + 4 * k then pl a else if a = 6 + 4 * k then h.length + 1 else if a = 7 + 4 * k then h.length + 3 else if a = 8 + 4 * k then h.length else h.length + 2
  have q4 : P2 4 = ku := if_pos rfl
  have q1 : ∀ a, a ≠ 4 → a < 6 + 4 * k → P2 a = pl a := fun a h4 ha => by
    show (if a = 4 then _ else _) = _
    rw [if_neg h4, if_pos ha]
  have q6 : P2 (6 + 4 * k) = h.length + 1 := by
    show (if 6 + 4 * k = 4 then _ else _) = _
    rw [if_neg (by omega), if_neg (by omega), if_pos rfl]
  have q7 : P2 (7 + 4 * k) = h.length + 3 := by
    show (if 7 + 4 * k = 4 then _ else _) = _
    rw [if_neg (by omega), if_neg (by omega), if_neg (by omega), if_pos rfl]
  have q8 : P2 (8 + 4 * k) = h.length := by
    show (if 8 + 4 * k = 4 then _ else _) = _
    rw [if_neg (by omega), if_neg (by omega), if_neg (by omega), if_neg (by omega), if_pos rfl]
  have q9 : P2 (9 + 4 * k) = h.length + 2 := by
    show (if 9 + 4 * k = 4 then _ else _) = _
    rw [if_neg (by omega), if_neg (by omega), if_neg (by omega), if_neg (by omega), if_neg (by omega)]
  refine ⟨some m, P2, ⟨?_, (fun e => by cases e), ?_, ?_, ?_, ?_, ?_, ?_, rfl, ?_, ?_, ?_, ?_⟩, by rw [q1 0 (by omega) (by omega)]; exact hp⟩
  · intro a b ha hb e
    have key : ∀ a, a < 6 + 4 * (k + 1) → (a ≠ 4 ∧ a < 6 + 4 * k ∧ P2 a = pl a ∧ P2 a < h.length ∧ (a ≠ 4 → pl a ≠ pl 4)) ∨ (a = 4 ∧ P2 a = ku) ∨ (a = 6 + 4 * k ∧ P2 a = h.length + 1) ∨ (a = 7 + 4 * k ∧ P2 a = h.length + 3) ∨ (a = 8 + 4 * k ∧ P2 a = h.length) ∨ (a = 9 + 4 * k ∧ P2 a = h.length + 2) := fun a ha => by
      by_cases h4 : a = 4
      · subst h4; exact .inr (.inl ⟨rfl, q4⟩)
      by_cases h6 : a < 6 + 4 * k
      · exact .inl ⟨h4, h6, q1 a h4 h6, by rw [q1 a h4 h6]; exact hlt a h6, fun h4 e => h4 (Y.inj a 4 h6 (by omega) e)⟩
      have : a = 6 + 4 * k ∨ a = 7 + 4 * k ∨ a = 8 + 4 * k ∨ a = 9 + 4 * k := by omega
      rcases this with rfl | rfl | rfl | rfl
      · exact .inr (.inr (.inl ⟨rfl, q6⟩))
      · exact .inr (.inr (.inr (.inl ⟨rfl, q7⟩)))
      · exact .inr (.inr (.inr (.inr (.inl ⟨rfl, q8⟩))))
      · exact .inr (.inr (.inr (.inr (.inr ⟨rfl, q9⟩))))
    have ka := key a ha
    have kb := key b hb
    have l4 := hlt 4 (by omega)
    rcases ka with ⟨a1, a2, a3, a4, a5⟩ | ⟨a1, a2⟩ | ⟨a1, a2⟩ | ⟨a1, a2⟩ | ⟨a1, a2⟩ | ⟨a1, a2⟩ <;> rcases kb with ⟨b1, b2, b3, b4, b5⟩ | ⟨b1, b2⟩ | ⟨b1, b2⟩ | ⟨b1, b2⟩ | ⟨b1, b2⟩ | ⟨b1, b2⟩ <;> first | omega | exact Y.inj a b a2 b2 (a3.symm.trans (e.trans b3)) | skip
    all_goals
      rcases hku with hku | hku
      · first
          | exact absurd (a3.symm.trans (e.trans (b2.trans hku))) (a5 a1)
          | exact absurd (b3.symm.trans (e.symm.trans (a2.trans hku))) (b5 b1)
      · omega
  · rw [q1 0 (by omega) (by omega), q1 1 (by omega) (by omega), q4, q1 5 (by omega) (by omega)]; exact e0
  · rw [q1 1 (by omega) (by omega), q1 2 (by omega) (by omega), q1 3 (by omega) (by omega), ek 1 (by omega) (by omega) (by omega)]; exact Y.hd
  · rw [q1 2 (by omega) (by omega), ek 2 (by omega) (by omega) (by omega)]; exact Y.hc
  · rw [q1 3 (by omega) (by omega), ek 3 (by omega) (by omega) (by omega)]; exact Y.hm
  · rw [q4, e4]
    unfold pB
    have : ptrs (k + 1) f = ptrs (k + 1) (fun j => P2 (6 + 4 * j)) := by
      unfold ptrs
      refine List.map_congr_left fun j hj => ?_
      have hj := List.mem_range.1 hj
      show pv (f j) 0 = pv (P2 (6 + 4 * j)) 0
      by_cases hjk : j = k
      · subst hjk; rw [hfk, q6]
      · rw [hf j (by omega), q1 _ (by omega) (by omega)]
    rw [this]
  · rw [q1 5 (by omega) (by omega), ek 5 (by omega) (by omega) (by omega)]; exact Y.way
  · intro j hj
    by_cases hjk : j = k
    · subst hjk; rw [q6, q7, q8]; exact e2
    · rw [q1 _ (by omega) (by omega), q1 _ (by omega) (by omega), q1 _ (by omega) (by omega), ek _ (by omega) (by omega) (by omega)]; exact Y.un j (by omega)
  · intro j hj
    by_cases hjk : j = k
    · subst hjk; rw [q7, q9]; exact e5
    · rw [q1 _ (by omega) (by omega), q1 _ (by omega) (by omega), ek _ (by omega) (by omega) (by omega)]; exact Y.pn j (by omega)
  · intro j hj
    by_cases hjk : j = k
    · subst hjk; rw [q8]; exact e1
    · rw [q1 _ (by omega) (by omega), ek _ (by omega) (by omega) (by omega)]; exact Y.ch j (by omega)
  · intro j hj
    by_cases hjk : j = k
    · subst hjk; rw [q9]
      obtain ⟨c, rw, e3⟩ := e3
      exact ⟨_, e3, ⟨c, rw, rfl⟩⟩
    · rw [q1 _ (by omega) (by omega), ek _ (by omega) (by omega) (by omega)]; exact Y.wh j (by omega)
theorem back_nil {h h1 : List Blk} {ρ : Nat → Nat} : back h [] h1 ρ = h ++ h1.map (renB ρ) := by
  unfold back
  have : (h.mapIdx fun k b => match over k [] h1 with | some b' => renB ρ b' | none => b) = h := by
    refine List.ext_getElem? fun k => ?_
    simp [List.getElem?_mapIdx, over]
  exact congrArg (· ++ h1.map (renB ρ)) this
theorem set_new {h T : List Blk} {j : Nat} {b : Blk} : (h ++ T).set (h.length + j) b = h ++ T.set j b := by
  rw [List.set_append_right _ _ (Nat.le_add_right _ _), Nat.add_sub_cancel_left]
theorem pl_nodup {k : Nat} {ro : Option Nat} {x : HS} {us : Nat → US} {l : List Nt} {o : Gr} {pl : Nat → Nat} {h : List Blk} (Y : YH k ro x us l o pl h) {a b : Nat} (ha : a < 6 + 4 * k) (hb : b < 6 + 4 * k) (hab : a ≠ b) : pl a ≠ pl b := fun e => hab (Y.inj a b ha hb e)
theorem new_body {P : Program} (H : YCode P) {B : Nat} {Q : IExit → St → Prop} {k : Nat} {x : HS} {h : List Blk} {v a c : Value} (hk : k < 16) (hY : YHn k x h)
    (hQ : ∀ h' v27 v28 v29 v30 v31 v32, YHn (k + 1) x h' → h.length ≤ h'.length → Q .normal ⟨reg [(32, v32), (31, v31), (30, v30), (29, v29), (28, v28), (27, v27), (26, pv 0 1), (25, pv 0 0), (24, pv 0 0), (23, v), (22, a), (21, c), (8, pv 0 0)], h'⟩) :
    GC (Env P) B (.dreg [⟨(some 24), .mv (.t 8), none⟩, ⟨(some 25), .nilc (.t 24), none⟩, ⟨(some 26), .fad 1 (.t 25), none⟩, ⟨(some 27), .call "roundhouse/plane.New" [], none⟩, ⟨(some 28), .mkc 1, none⟩, ⟨(some 29), .bld [(1, .pointer none), (324, (.int .i64 0)), (6, (.int .u64 0)), (1, (.int .i64 0)), (1, (.chan none))] [(0, 1, (.t 27)), (332, 1, (.t 28))], none⟩, ⟨(some 30), .box (.t 29), none⟩, ⟨(some 31), .bsl [(1, .pointer none)] 1 1 [(0, 1, (.t 30))], none⟩, ⟨(some 32), .call "(*roundhouse/yard.row[*roundhouse/yard.unit]).put" [(.t 26), (.t 31)], none⟩] [[], [0], [1, 0], [], [], [3, 4], [5, 3, 4], [6, 5, 3, 4], [2, 1, 0, 7, 6, 5, 3, 4]]) Q ⟨reg [(23, v), (22, a), (21, c), (8, pv 0 0)], h⟩ := by
  obtain ⟨ro, pl, Y, hp⟩ := hY
  refine gdregD (h ++ [.gone, .gone, .gone]) rfl (d_n 3 3 h.length [(26, pv 0 1), (25, pv 0 0), (24, pv 0 0)] (h ++ [.gone, .gone, .gone]) [] (by kernel_rfl) rfl rfl (d_callF [] [] [] (PNewC H.h_plane_New) rfl rfl (fun i k b1 e => by simp at e) (fun i j k b1 _ e => by simp at e) (fun y hy => by cases hy) ⟨_, _, ⟨rfl, rfl⟩, Nat.zero_le _, flags_app [] [_]⟩ ?_))
  rintro v1 h1' ⟨rfl, rfl⟩
  refine ⟨goneL_nil, ?_⟩
  have hlen : (h ++ [Blk.gone, .gone, .gone]).length = h.length + 3 := by simp
  rw [back_nil, hlen, List.append_assoc]
  have e1 : renV (rho [] (h.length + 3)) (pv 0 0) = pv (h.length + 3) 0 := rfl
  have e2 : [cw (planeL zeroP false nr0 (.slice none 0 0))].map (renB (rho [] (h.length + 3))) = [cw (planeL zeroP false nr0 (.slice none 0 0))] := by
    simp only [List.map_cons, List.map_nil]; rw [ren_planeL (w' := .slice none 0 0) rfl]
  rw [e1, e2]
  refine d_mkF (B := .chan 1 (([] : List Nt).map ntE)) (v := .chan (some h.length)) rfl rfl (new_at 0) ?_ ?_
  · intro y hy
    rcases List.mem_cons.1 hy with rfl | hy
    · refine .inl ⟨fun k hk => ?_, fun k _ => by simp, ?_, trivial⟩
      · simp [wrsel] at hk
      · intro k hk; simp at hk; omega
    · cases hy
  rw [show (h ++ ([Blk.gone, .gone, .gone] ++ [cw (planeL zeroP false nr0 (.slice none 0 0))])).set h.length (.chan 1 (([] : List Nt).map ntE)) = h ++ [.chan 1 (([] : List Nt).map ntE), .gone, .gone, cw (planeL zeroP false nr0 (.slice none 0 0))] from set_new (j := 0)]
  refine d_s rfl rfl rfl (by kernel_rfl) (by refine run_bld (c := unitL (h.length + 3) zeroP 0 h.length) ?_; exact bld_unit _ _) ?_
  refine d_mkF (B := cw (unitL (h.length + 3) zeroP 0 h.length)) (v := pv (h.length + 1) 0) rfl rfl (new_at 1) (fun y hy => .inr ?_) ?_
  · rcases List.mem_cons.1 hy with rfl | hy
    · rfl
    · rcases List.mem_cons.1 hy with rfl | hy
      · rfl
      · cases hy
  rw [set_new (j := 1)]
  refine d_mkF (B := cw [pv (h.length + 1) 0]) (v := sv (h.length + 2) 0 1 1) rfl rfl (new_at 2) (fun y hy => .inr ?_) ?_
  · rcases List.mem_cons.1 hy with rfl | hy
    · rfl
    · rcases List.mem_cons.1 hy with rfl | hy
      · rfl
      · rcases List.mem_cons.1 hy with rfl | hy
        · rfl
        · cases hy
  rw [set_new (j := 2)]
  show GD _ _ _ _ _ _ _ ⟨_, h ++ [.chan 1 (([] : List Nt).map ntE), cw (unitL (h.length + 3) zeroP 0 h.length), cw [pv (h.length + 1) 0], cw (planeL zeroP false nr0 (.slice none 0 0))]⟩
  generalize hh5 : h ++ [.chan 1 (([] : List Nt).map ntE), cw (unitL (h.length + 3) zeroP 0 h.length), cw [pv (h.length + 1) 0], cw (planeL zeroP false nr0 (.slice none 0 0))] = h5
  have n0_ : h5[h.length]? = some (.chan 1 (([] : List Nt).map ntE)) := by rw [← hh5]; exact new_at 0
  have n1_ : h5[h.length + 1]? = some (cw (unitL (h.length + 3) zeroP 0 h.length)) := by rw [← hh5]; exact new_at 1
  have n2_ : h5[h.length + 2]? = some (cw [pv (h.length + 1) 0]) := by rw [← hh5]; exact new_at 2
  have n3_ : h5[h.length + 3]? = some (cw (planeL zeroP false nr0 (.slice none 0 0))) := by rw [← hh5]; exact new_at 3
  have Y5 : YH k ro x (fun _ => u00) [] none pl h5 := hh5 ▸ Y.more _
  have hl5 : h5.length = h.length + 4 := by rw [← hh5]; simp
  have hlt : ∀ a, a < 6 + 4 * k → pl a < h.length := fun a ha => Y.lt ha
  -- the callee's places: 0 the yard, 1 the row, 2 the new pointer, 3 the head, 4 + j the units
  let sel : List Nat := [pl 0, pl 4, h.length + 2, pl 1] ++ (List.range (k + 1)).map fun j => if j < k then pl (6 + 4 * j) else h.length + 1
  have hsl : sel.length = 4 + (k + 1) := by simp [sel]; omega
  have hs4 : ∀ j, j < k + 1 → sel[4 + j]? = some (if j < k then pl (6 + 4 * j) else h.length + 1) := fun j hj => by
    show ([pl 0, pl 4, h.length + 2, pl 1] ++ (List.range (k + 1)).map fun j => if j < k then pl (6 + 4 * j) else h.length + 1)[4 + j]? = _
    rw [List.getElem?_append_right (by simp)]
    simp [hj]
  have hsi : ∀ (t q : Nat), sel[t]? = some q → (t = 0 ∧ q = pl 0) ∨ (t = 1 ∧ q = pl 4) ∨ (t = 2 ∧ q = h.length + 2) ∨ (t = 3 ∧ q = pl 1) ∨ ∃ j, j < k + 1 ∧ t = 4 + j ∧ q = if j < k then pl (6 + 4 * j) else h.length + 1 := fun t q e => by
    rcases Nat.lt_or_ge t 4 with h4 | h4
    · match t, h4 with
      | 0, _ => exact .inl ⟨rfl, (Option.some.inj e).symm⟩
      | 1, _ => exact .inr (.inl ⟨rfl, (Option.some.inj e).symm⟩)
      | 2, _ => exact .inr (.inr (.inl ⟨rfl, (Option.some.inj e).symm⟩))
      | 3, _ => exact .inr (.inr (.inr (.inl ⟨rfl, (Option.some.inj e).symm⟩)))
    · obtain ⟨j, rfl⟩ : ∃ j, t = 4 + j := ⟨t - 4, by omega⟩
      have hj : j < k + 1 := by have := lt_of_getElem? e; omega
      rw [hs4 j hj] at e
      exact .inr (.inr (.inr (.inr ⟨j, hj, rfl, (Option.some.inj e).symm⟩)))
  have hinj : ∀ (t t' q : Nat), sel[t]? = some q → sel[t']? = some q → t = t' := fun t t' q e1 e2 => by
    have nd := fun a b ha hb hab => pl_nodup Y (a := a) (b := b) ha hb hab
    have l0 := hlt 0 (by omega)
    have l1 := hlt 1 (by omega)
    have l4 := hlt 4 (by omega)
    rcases hsi t q e1 with ⟨a1, a2⟩ | ⟨a1, a2⟩ | ⟨a1, a2⟩ | ⟨a1, a2⟩ | ⟨j, hj, a1, a2⟩ <;> rcases hsi t' q e2 with ⟨b1, b2⟩ | ⟨b1, b2⟩ | ⟨b1, b2⟩ | ⟨b1, b2⟩ | ⟨j', hj', b1, b2⟩
    all_goals first
      | omega
      | exact absurd (a2.symm.trans b2) (nd _ _ (by omega) (by omega) (by omega))
      | skip
    all_goals first
      | (split at a2
         · have := hlt (6 + 4 * j) (by omega)
           first | omega | exact absurd (a2.symm.trans b2) (nd _ _ (by omega) (by omega) (by omega))
         · omega)
      | (split at b2
         · have := hlt (6 + 4 * j') (by omega)
           first | omega | exact absurd (a2.symm.trans b2) (nd _ _ (by omega) (by omega) (by omega))
         · omega)
      | skip
    split at a2 <;> split at b2
    · by_cases hjj : j = j'
      · omega
      · exact absurd (a2.symm.trans b2) (nd _ _ (by omega) (by omega) (by omega))
    · have := hlt (6 + 4 * j) (by omega); omega
    · have := hlt (6 + 4 * j') (by omega); omega
    · omega
  have hρ : ∀ (t q : Nat), sel[t]? = some q → rho sel h5.length t = q := fun t q e => rho_lt e
  have hptr : ∀ j, j < k + 1 → rho sel h5.length (4 + j) = if j < k then pl (6 + 4 * j) else h.length + 1 := fun j hj => hρ _ _ (hs4 j hj)
  have hpk : rho sel h5.length (4 + k) = h.length + 1 := by rw [hptr k (by omega), if_neg (by omega)]
  refine d_callF sel ([cw [pv 3 0, slV 1 k ro, .slice none 0 0], pB k (fun j => 4 + j) ro, cw [pv (4 + k) 0], cr []] ++ List.replicate (k + 1) (cr [])) [pv 0 1, sv 2 0 1 1] (putUC H.h_yard_row_yard_unit_put k (by omega) (fun j => 4 + j) ro Y.ro0 (.slice none 0 0) _) ?_ ?_ ?_ (fun t t' q b1 htt e1 e2 _ => absurd (hinj t t' q e1 e2) htt) (fun y hy => .inr ?_) ?_ ?_
  · rw [hsl]; simp; omega
  · refine cons_eq ?_ (cons_eq ?_ rfl)
    · show pv (rho sel h5.length 0) 1 = pv 0 1
      rw [hρ 0 (pl 0) rfl, hp]
    · show sv (rho sel h5.length 2) 0 1 1 = sv (h.length + 2) 0 1 1
      rw [hρ 2 (h.length + 2) rfl]
  · intro t q b1 e1 e2
    rcases hsi t q e1 with ⟨rfl, rfl⟩ | ⟨rfl, rfl⟩ | ⟨rfl, rfl⟩ | ⟨rfl, rfl⟩ | ⟨j, hj, rfl, rfl⟩
    · cases e2
      refine ⟨_, Y5.y, .inl (.inl ?_)⟩
      show Blk.seen (renB _ (.cells (yardL 3 (slV 1 k ro) (.slice none 0 0)) true)) _
      exact seen_yard (hρ 3 (pl 1) rfl) (ren1_slV ro (hρ 1 (pl 4) rfl)) rfl (fun q => q)
    · cases e2
      refine ⟨_, Y5.ur, .inl ?_⟩
      unfold pB
      cases ro with
      | none => exact .inr ⟨rfl, rfl⟩
      | some m =>
        refine .inl ?_
        show Blk.seen (renB _ (.cells (ptrs k (fun j => 4 + j) ++ nils m) true)) (.cells (ptrs k (fun j => pl (6 + 4 * j)) ++ nils m) true)
        rw [ren_ptrs fun j hj => (hptr j (by omega)).trans (if_pos hj)]; exact ⟨rfl, fun q => q⟩
    · cases e2
      refine ⟨_, n2_, .inl (.inl ⟨?_, fun q => q⟩)⟩
      show [pv (rho sel h5.length (4 + k)) 0] = _
      rw [hpk]
    · cases e2; exact ⟨_, Y5.hd, view_hid⟩
    · have : ([cw [pv 3 0, slV 1 k ro, .slice none 0 0], pB k (fun j => 4 + j) ro, cw [pv (4 + k) 0], cr []] ++ List.replicate (k + 1) (cr []))[4 + j]? = some (cr []) := by
        rw [List.getElem?_append_right (by simp)]
        exact List.getElem?_replicate_of_lt (by simp; omega)
      rw [this] at e2; cases e2
      split
      · rename_i hjk; exact ⟨_, Y5.un j hjk, view_hid⟩
      · exact ⟨_, n1_, view_hid⟩
  · rcases List.mem_cons.1 hy with rfl | hy
    · rfl
    · rcases List.mem_cons.1 hy with rfl | hy
      · rfl
      · rcases List.mem_cons.1 hy with rfl | hy
        · rfl
        · rcases List.mem_cons.1 hy with rfl | hy
          · rfl
          · cases hy
  · refine ⟨_, _, ⟨rfl, 0, .inr rfl⟩, by rw [hsl]; simp; omega, ?_⟩
    rw [List.append_assoc]
    exact flags_cons rfl (flags_app ([_, _, _] ++ List.replicate (k + 1) (cr [])) [_])
  · rintro v1 h1' ⟨rfl, m, hw⟩
    have hat : ∀ (j : Nat) {A : List Blk}, A.length = 4 → (A ++ List.replicate (k + 1) (cr []))[4 + j]? = (List.replicate (k + 1) (cr []))[j]? := fun j A hA => by
      rw [List.getElem?_append_right (by omega), hA, Nat.add_sub_cancel_left]
    refine ⟨?_, ?_⟩
    · rcases hw with ⟨hs, rfl⟩ | rfl
      · refine goneL_cons gone_cells (goneL_cons (fun hg => ?_) (goneL_cons gone_cells (goneL_cons gone_cells (fun i hi => hi))))
        cases ro with
        | none => cases hs
        | some z => cases hg
      · rw [List.append_assoc]
        refine goneL_cons gone_cells (goneL_cons (fun hg => hg) (goneL_cons gone_cells (goneL_cons gone_cells (fun i hi => ?_))))
        have := lt_of_getElem? hi
        simp at this
        show (List.replicate (k + 1) (cr []) ++ [pB (k + 1) (fun j => 4 + j) (some m)])[i]? = _
        rw [List.getElem?_append_left (by simp; omega)]; exact hi
    · refine d_nil ?_
      have hkeep : ∀ {h1' : List Blk}, (∀ (t : Nat) b, t ≠ 0 → t ≠ 1 → t ≠ 2 → t < 4 + (k + 1) → h1'[t]? = some b → b.rw = false) → ∀ a, a < 6 + 4 * k → a ≠ 0 → a ≠ 4 → (back h5 sel h1' (rho sel h5.length))[pl a]? = h[pl a]? := fun {h1'} hro a ha h0 h4 => by
        rw [back_keep (by have := hlt a ha; omega) fun t b e1 e2 => ?_]
        · rw [← hh5]; exact List.getElem?_append_left (hlt a ha)
        · have hlq := hlt a ha
          have htl : t < 4 + (k + 1) := by have := lt_of_getElem? e1; omega
          refine hro t b ?_ ?_ ?_ htl e2
          · rintro rfl; exact pl_nodup Y ha (by omega) h0 (Option.some.inj e1).symm
          · rintro rfl; exact pl_nodup Y ha (by omega) h4 (Option.some.inj e1).symm
          · rintro rfl; have := Option.some.inj e1; omega
      have hkN : ∀ {h1' : List Blk} (q : Nat), (q = h.length ∨ q = h.length + 1 ∨ q = h.length + 3) → (∀ (t : Nat) b, t ≠ 0 → t ≠ 1 → t ≠ 2 → t < 4 + (k + 1) → h1'[t]? = some b → b.rw = false) → (back h5 sel h1' (rho sel h5.length))[q]? = h5[q]? := fun {h1'} q hq hro => by
        refine back_keep (by omega) fun t b e1 e2 => ?_
        have htl : t < 4 + (k + 1) := by have := lt_of_getElem? e1; omega
        refine hro t b ?_ ?_ ?_ htl e2
        · rintro rfl; have := Option.some.inj e1; have := hlt 0 (by omega); omega
        · rintro rfl; have := Option.some.inj e1; have := hlt 4 (by omega); omega
        · rintro rfl; have := Option.some.inj e1; omega
      have hat2 : ∀ {h1' : List Blk} (t q : Nat) (b : Blk), sel[t]? = some q → h1'[t]? = some b → b.rw = true → (back h5 sel h1' (rho sel h5.length))[q]? = some (renB (rho sel h5.length) b) := fun {h1'} t q b e1 e2 hr => by
        refine back_at ?_ (fun j hj => hinj j t q hj e1) e1 e2 hr
        rcases hsi t q e1 with ⟨_, rfl⟩ | ⟨_, rfl⟩ | ⟨_, rfl⟩ | ⟨_, rfl⟩ | ⟨j, hj, _, rfl⟩
        · have := hlt 0 (by omega); omega
        · have := hlt 4 (by omega); omega
        · omega
        · have := hlt 1 (by omega); omega
        · split
          · have := hlt (6 + 4 * j) (by omega); omega
          · omega
      have hren : renB (rho sel h5.length) (pB (k + 1) (fun j => 4 + j) (some m)) = pB (k + 1) (fun j => if j < k then pl (6 + 4 * j) else h.length + 1) (some m) := ren_ptrs fun j hj => hptr j hj
      have hrow : ∀ {h1' : List Blk}, h1'[2]? = some (cw [pv (4 + k) 0]) → ∃ c rw, (back h5 sel h1' (rho sel h5.length))[h.length + 2]? = some (.cells c rw) := fun {h1'} e2 => ⟨_, _, hat2 2 _ _ rfl e2 rfl⟩
      rcases hw with ⟨hs, rfl⟩ | rfl
      · have hro : ∀ (t : Nat) b, t ≠ 0 → t ≠ 1 → t ≠ 2 → t < 4 + (k + 1) → ([cw [pv 3 0, slV 1 (k + 1) (some m), .slice none 0 0], pB (k + 1) (fun j => 4 + j) (some m), cw [pv (4 + k) 0], cr []] ++ List.replicate (k + 1) (cr []))[t]? = some b → b.rw = false := fun t b h0 h1 h2 ht e => by
          by_cases h3 : t = 3
          · subst h3; cases e; rfl
          · obtain ⟨j, rfl⟩ : ∃ j, t = 4 + j := ⟨t - 4, by omega⟩
            rw [hat j rfl, List.getElem?_replicate_of_lt (by omega)] at e
            cases e; rfl
        refine hQ _ _ _ _ _ _ _ (Y.grow hp (pl 4) m (fun j => if j < k then pl (6 + 4 * j) else h.length + 1) h.length rfl (fun j hj => if_pos hj) (if_neg (by omega)) (.inl rfl) ?_ ?_ (hkeep hro) ?_ ?_ (hrow rfl) ?_) (by have := back_len (h := h5) (sel := sel) (h1 := [cw [pv 3 0, slV 1 (k + 1) (some m), .slice none 0 0], pB (k + 1) (fun j => 4 + j) (some m), cw [pv (4 + k) 0], cr []] ++ List.replicate (k + 1) (cr [])) (ρ := rho sel h5.length); omega)
        · rw [hat2 0 (pl 0) _ rfl rfl rfl]
          exact congrArg some (ren_yardL (kh := 3) (u := slV 1 (k + 1) (some m)) (w := .slice none 0 0) (hρ 3 (pl 1) rfl) (ren1_slV _ (hρ 1 (pl 4) rfl)) rfl)
        · rw [hat2 1 (pl 4) _ rfl rfl rfl, hren]
        · rw [hkN _ (.inl rfl) hro]; exact n0_
        · rw [hkN _ (.inr (.inl rfl)) hro]; exact n1_
        · rw [hkN _ (.inr (.inr rfl)) hro]; exact n3_
      · have hTl : (List.replicate (k + 1) (cr [])).length = k + 1 := by simp
        rw [hTl]
        have hro : ∀ (t : Nat) b, t ≠ 0 → t ≠ 1 → t ≠ 2 → t < 4 + (k + 1) → ([cw [pv 3 0, slV (4 + (k + 1)) (k + 1) (some m), .slice none 0 0], pB k (fun j => 4 + j) ro, cw [pv (4 + k) 0], cr []] ++ List.replicate (k + 1) (cr []) ++ [pB (k + 1) (fun j => 4 + j) (some m)])[t]? = some b → b.rw = false := fun t b h0 h1 h2 ht e => by
          rw [List.getElem?_append_left (by simp; omega)] at e
          by_cases h3 : t = 3
          · subst h3; cases e; rfl
          · obtain ⟨j, rfl⟩ : ∃ j, t = 4 + j := ⟨t - 4, by omega⟩
            rw [hat j rfl, List.getElem?_replicate_of_lt (by omega)] at e
            cases e; rfl
        have hρn : rho sel h5.length (4 + (k + 1)) = h.length + 4 := by rw [rho_ge (by omega), hsl, hl5]; omega
        refine hQ _ _ _ _ _ _ _ (Y.grow hp (h.length + 4) m (fun j => if j < k then pl (6 + 4 * j) else h.length + 1) h.length rfl (fun j hj => if_pos hj) (if_neg (by omega)) (.inr (Nat.le_refl _)) ?_ ?_ (hkeep hro) ?_ ?_ (hrow rfl) ?_) (by have := back_len (h := h5) (sel := sel) (h1 := [cw [pv 3 0, slV (4 + (k + 1)) (k + 1) (some m), .slice none 0 0], pB k (fun j => 4 + j) ro, cw [pv (4 + k) 0], cr []] ++ List.replicate (k + 1) (cr []) ++ [pB (k + 1) (fun j => 4 + j) (some m)]) (ρ := rho sel h5.length); omega)
        · rw [hat2 0 (pl 0) _ rfl rfl rfl]
          exact congrArg some (ren_yardL (kh := 3) (u := slV (4 + (k + 1)) (k + 1) (some m)) (w := .slice none 0 0) (hρ 3 (pl 1) rfl) (ren1_slV _ hρn) rfl)
        · have := back_new (h := h5) (sel := sel) (h1 := [cw [pv 3 0, slV (4 + (k + 1)) (k + 1) (some m), .slice none 0 0], pB k (fun j => 4 + j) ro, cw [pv (4 + k) 0], cr []] ++ List.replicate (k + 1) (cr []) ++ [pB (k + 1) (fun j => 4 + j) (some m)]) (ρ := rho sel h5.length) 0
          rw [hsl, List.getElem?_append_right (by simp; omega)] at this
          rw [show h.length + 4 = h5.length + 0 by omega, this]
          have h0 : 4 + (k + 1) + 0 - ([cw [pv 3 0, slV (4 + (k + 1)) (k + 1) (some m), .slice none 0 0], pB k (fun j => 4 + j) ro, cw [pv (4 + k) 0], cr []] ++ List.replicate (k + 1) (cr [])).length = 0 := by simp; omega
          rw [h0]
          exact congrArg some hren
        · rw [hkN _ (.inl rfl) hro]; exact n0_
        · rw [hkN _ (.inr (.inl rfl)) hro]; exact n1_
        · rw [hkN _ (.inr (.inr rfl)) hro]; exact n3_
end Go.Rh

namespace Go.Rh
theorem HNew0C {P : Program} (hc : k_head_New P) (p : Flat) (units : Int) (hu : units < 1 ∨ 16 < units) :
    Env P "roundhouse/head.New" [poolV p, iv units] ([]) (fun v h' => v = .tuple #[.pointer none, iv 14] ∧ h' = []) := by
  have h := HNewC hc p units
  have e : (fun (v : Value) (h' : List Blk) => if units < 1 ∨ 16 < units then v = .tuple #[.pointer none, iv 14] ∧ h' = [] else v = .tuple #[pv 0 0, iv 0] ∧ h' = [cw (headL p 1 2 e0 false), .chan 200 (([] : List Ent).map entV), .map (hdM (List.replicate units.toNat (0, -1)))]) = fun v h' => v = .tuple #[.pointer none, iv 14] ∧ h' = [] := by
    funext v h'; rw [if_pos hu]
  rw [e] at h; exact h
theorem HNew1C {P : Program} (hc : k_head_New P) (p : Flat) (units : Int) (hu : ¬ (units < 1 ∨ 16 < units)) :
    Env P "roundhouse/head.New" [poolV p, iv units] ([]) (fun v h' => v = .tuple #[pv 0 0, iv 0] ∧ h' = [cw (headL p 1 2 e0 false), .chan 200 (([] : List Ent).map entV), .map (hdM (List.replicate units.toNat (0, -1)))]) := by
  have h := HNewC hc p units
  have e : (fun (v : Value) (h' : List Blk) => if units < 1 ∨ 16 < units then v = .tuple #[.pointer none, iv 14] ∧ h' = [] else v = .tuple #[pv 0 0, iv 0] ∧ h' = [cw (headL p 1 2 e0 false), .chan 200 (([] : List Ent).map entV), .map (hdM (List.replicate units.toNat (0, -1)))]) = fun v h' => v = .tuple #[pv 0 0, iv 0] ∧ h' = [cw (headL p 1 2 e0 false), .chan 200 (([] : List Ent).map entV), .map (hdM (List.replicate units.toNat (0, -1)))] := by
    funext v h'; rw [if_neg hu]
  rw [e] at h; exact h
theorem YHn.to {n : Nat} {p : Flat} {h : List Blk} (h1 : 1 ≤ n) (h16 : n ≤ 16) (hY : YHn n (newHS p (n : Nat)) h) : YP (fun _ => True) 0 (nyS p n) h := by
  obtain ⟨ro, pl, Y, hp⟩ := hY
  cases ro with
  | none => have := Y.ro0 rfl; omega
  | some m => exact ⟨fun _ => none, ⟨fun j _ his => by simp [nyS] at his, ⟨m, none, pl, Y, hp, fun _ _ => trivial, h1, h16, fun _ _ => trivial⟩⟩⟩
theorem YNewC {P : Program} (H : YCode P) (p : Flat) (units : Int) :
    Env P "roundhouse/yard.New" [poolV p, iv units] ([]) (fun v h' => if units < 1 ∨ 16 < units then v = .tuple #[.pointer none, iv 14] ∧ h' = [] else v = .tuple #[pv 0 0, iv 0] ∧ YP (fun _ => True) 0 (nyS p units.toNat) h') := by
 refine Env.by2 H.h_yard_New ?_
 unfold c_yard_New
 show GC _ 0 _ _ ⟨reg [(0, poolV p), (1, iv units)], []⟩
 refine gseq (greg (o_b 3 [(5, iv 0), (4, .pointer none), (2, pv 0 0)] [cw (pl p)] (by kernel_rfl) (o_nil (seq_go (gseq (greg ?_))))))
 refine o_s (by refine run_ld (v := poolV p) rfl rfl ?_; exact pl_all p) ?_
 refine o_d 1 [(11, iv units)] (by kernel_rfl) ?_
 by_cases hu : units < 1 ∨ 16 < units
 · refine o_cl (callH [] [] [poolV p, iv units] (HNew0C H.h_head_New p units hu) rfl (cons_eq (renV_vpf (poolV_vpf p)) (cons_eq rfl rfl)) trivial (by decide) ?_)
   rintro v1 h1' ⟨rfl, rfl⟩
   refine ⟨goneL_nil, .tuple #[.pointer none, iv 14], [cw (pl p)], [], (renV_vpf rfl), ⟨rfl, trivial⟩, trivial, ?_⟩
   refine o_d 5 [(7, iv 14), (6, .pointer none), (14, iv 14), (13, .pointer none), (9, .tuple #[.pointer none, iv 14])] (by kernel_rfl) (o_nil (seq_go (gseq (gseq (greg (o_d 2 [(16, bv true), (15, iv 14)] (by kernel_rfl) ?_))))))
   refine o_nil (seq_go (gtrue rfl (gseq (greg (o_d 3 [(5, iv 14), (4, .pointer none), (17, iv 14)] (by kernel_rfl) (o_nil ?_))))))
   exact seq_go (gret (⟨trivial, ⟨reg [(4, .pointer none), (5, iv 14)], []⟩, Wk.ren [] rfl rfl (by decide) ⟨rfl, ⟨rfl, trivial⟩⟩ trivial, [.pointer none, iv 14], (resV_t rfl (resV_t rfl rfl)), (tup_cons rfl (tup_cons rfl tup_nil)), by rw [if_pos hu]; exact ⟨rfl, rfl⟩⟩))
 refine o_cl (callH [] [] [poolV p, iv units] (HNew1C H.h_head_New p units hu) rfl (cons_eq (renV_vpf (poolV_vpf p)) (cons_eq rfl rfl)) trivial (by decide) ?_)
 rintro v1 h1' ⟨rfl, rfl⟩
 refine ⟨goneL_nil, .tuple #[pv 1 0, iv 0], [cw (pl p)], [cw (headL p 2 3 e0 false), .chan 200 (([] : List Ent).map entV), .map (hdM (List.replicate units.toNat (0, -1)))], ((renV_tup _).trans rfl), ⟨rfl, trivial⟩, ⟨(Option.some.inj (ren_headS rfl rfl)).symm, ⟨(Option.some.inj (congrArg some (ren_entsV _).symm)).symm, ⟨(Option.some.inj (congrArg some (ren_hdM _).symm)).symm, trivial⟩⟩⟩, ?_⟩
 refine o_d 5 [(7, iv 0), (6, pv 1 0), (14, iv 0), (13, pv 1 0), (9, .tuple #[pv 1 0, iv 0])] (by kernel_rfl) (o_nil (seq_go (gseq (gseq (greg (o_d 2 [(16, bv false), (15, iv 0)] (by kernel_rfl) ?_))))))
 refine o_nil (seq_go (gfalse rfl (gskip (seq_go (gseq (greg ?_))))))
 refine o_b 4 [(8, pv 4 0), (20, pv 4 0), (19, .agg #[pv 1 0, .slice none 0 0, .slice none 0 0]), (18, pv 1 0)] [cw (pl p), cw (headL p 2 3 e0 false), .chan 200 (([] : List Ent).map entV), .map (hdM (List.replicate units.toNat (0, -1))), cw [pv 1 0, .slice none 0 0, .slice none 0 0]] (by kernel_rfl) (o_nil (seq_go (gseq (gseq (greg (o_d 2 [(22, iv 0), (21, iv units)] (by kernel_rfl) ?_))))))
 refine o_nil ?_
 -- the yard first; a place for the row of units, one for the row of notes
 refine ⟨⟨reg [(22, iv 0), (21, iv units), (8, pv 0 0)], [cw (yardL 1 (.slice none 0 0) (.slice none 0 0)), cw (headL p 2 3 e0 false), .chan 200 (([] : List Ent).map entV), .map (hdM (List.replicate units.toNat (0, -1))), .gone, .gone]⟩,
   Wk.ren [4, 1, 2, 3, 5, 6] rfl rfl (by decide) ⟨rfl, ⟨rfl, ⟨rfl, trivial⟩⟩⟩ ⟨.inl rfl, ⟨.inl (ren_headS rfl rfl), ⟨.inl (congrArg some (ren_entsV _).symm), ⟨.inl (congrArg some (ren_hdM _).symm), ⟨.inr ⟨rfl, rfl⟩, ⟨.inr ⟨rfl, rfl⟩, trivial⟩⟩⟩⟩⟩⟩, ?_⟩
 refine gblock (gloop (fun μ s => ∃ (k : Nat) (h : List Blk), μ = units.toNat - k ∧ (k : Int) ≤ units ∧ YHn k (newHS p units) h ∧ s = ⟨reg [(22, iv (k : Nat)), (21, iv units), (8, pv 0 0)], h⟩) ⟨units.toNat - 0, _, .inl rfl, 0, _, rfl, by omega, ⟨none, fun a => a, ⟨fun a b _ _ e => e, fun _ => rfl, rfl, rfl, rfl, rfl, rfl, rfl, rfl, fun j hj => by omega, fun j hj => by omega, fun j hj => by omega, fun j hj => by omega⟩, rfl⟩, rfl⟩ ?_)
 rintro μ s ⟨k, h, rfl, hk, hY, rfl⟩
 refine gseq (greg (o_d 1 [(23, bv (decide ((k : Int) < units)))] (by kernel_rfl) (o_nil (seq_go (gseq (gcond (t := decide ((k : Int) < units)) rfl (fun h1 => ?_) (fun h1 => ?_)))))))
 · have h1 := of_decide_eq_true h1
   refine gskip (seq_go (gseq (gblock (new_body H (by omega) hY (fun h' v27 v28 v29 v30 v31 v32 hY' hle => ?_)))))
   refine seq_go (greg (o_s (by refine run_val (v := .int .i64 (i64.wrap ((k : Nat) + 1))) (congrArg (Value.int .i64) (w64 (by omega) (by omega))) ?_; kernel_rfl) ?_))
   refine o_d 1 [(22, iv ((k : Int) + 1))] (by kernel_rfl) (o_nil ?_)
   obtain ⟨s0, hw, hs⟩ := seq_regs (B := 0) (K := fun s => s = ⟨reg [(22, iv ((k + 1 : Nat) : Int)), (21, iv units), (8, pv 0 0)], h'⟩) [(22, iv ((k + 1 : Nat) : Int)), (21, iv units), (8, pv 0 0)] (L := [(22, iv ((k : Int) + 1)), (33, iv ((k : Int) + 1)), (32, v32), (31, v31), (30, v30), (29, v29), (28, v28), (27, v27), (26, pv 0 1), (25, pv 0 0), (24, pv 0 0), (23, bv (decide ((k : Int) < units))), (22, iv (k : Nat)), (21, iv units), (8, pv 0 0)]) (h := h') rfl rfl (Nat.zero_le _)
   exact ⟨units.toNat - (k + 1), s0, by omega, hw, k + 1, h', rfl, by omega, hY', hs⟩
 · have h1 := of_decide_eq_false h1
   refine gexit ?_
   have hkn : k = units.toNat := by omega
   refine seq_go (gseq (greg (o_d 3 [(5, iv 0), (4, pv 0 0), (34, pv 0 0)] (by kernel_rfl) (o_nil (seq_go (gret ?_))))))
   refine ⟨trivial, _, .inl rfl, [pv 0 0, iv 0], (resV_t rfl (resV_t rfl rfl)), (tup_cons rfl (tup_cons rfl tup_nil)), ?_⟩
   rw [if_neg hu]
   refine ⟨rfl, ?_⟩
   subst hkn
   refine YHn.to (by omega) (by omega) ?_
   rw [show ((units.toNat : Nat) : Int) = units by omega]; exact hY
theorem YP.shift {F : Nat → Prop} {y : Nat} {s : YS} {T : List Blk} (hY : YP F y s T) (h : List Blk) : YP (fun k => h.length ≤ k) (h.length + y) s (h ++ T.map (renB (rho [] h.length))) := by
  obtain ⟨q, hq, m, o, pl, Y, rfl, _, h1, h16, _⟩ := hY
  have hρ : ∀ i, rho [] h.length i = h.length + i := fun i => by rw [rho_ge (by simp)]; simp
  have at_ : ∀ (k : Nat) b, T[k]? = some b → (h ++ T.map (renB (rho [] h.length)))[h.length + k]? = some (renB (rho [] h.length) b) := fun k b e => by
    rw [new_at, List.getElem?_map, e]; rfl
  refine ⟨q, hq, m, o, fun a => h.length + pl a, ⟨fun a b ha hb e => Y.inj a b ha hb (by omega), (fun e => by cases e), ?_, ?_, ?_, ?_, ?_, ?_, Y.ok, fun j hj => ?_, fun j hj => ?_, fun j hj => ?_, fun j hj => ?_⟩, rfl, fun a _ => Nat.le_add_right _ _, h1, h16, fun k hk => by simp at hk; omega⟩
  · rw [at_ _ _ Y.y]; exact congrArg some (ren_yardL (hρ _) (ren1_slV _ (hρ _)) (ren_gV _ (hρ _)))
  · rw [at_ _ _ Y.hd]; exact congrArg some (ren_headL (hρ _) (hρ _))
  · rw [at_ _ _ Y.hc]; exact congrArg some (ren_entsV _)
  · rw [at_ _ _ Y.hm]; exact congrArg some (ren_hdM _)
  · rw [at_ _ _ Y.ur]; exact congrArg some (ren_ptrs fun j _ => hρ _)
  · rw [at_ _ _ Y.way]; exact congrArg some (ren_gB Y.ok)
  · rw [at_ _ _ (Y.un j hj)]; exact congrArg some (ren_unitL (hρ _) (hρ _))
  · rw [at_ _ _ (Y.pn j hj)]; exact congrArg some (ren_planeL (ren1_slV _ (hρ _)))
  · rw [at_ _ _ (Y.ch j hj)]; exact congrArg some (ren_ntsV _)
  · obtain ⟨B, hB, hw⟩ := Y.wh j hj
    exact ⟨_, at_ _ _ hB, whB_ren hw⟩
theorem YNewK {P : Program} (H : YCode P) (p : Flat) (units : Int) {K : Post} {h : List Blk}
    (h0 : units < 1 ∨ 16 < units → K (.tuple #[.pointer none, iv 14]) h)
    (h1 : ∀ T, ¬ (units < 1 ∨ 16 < units) → YP (fun k => h.length ≤ k) h.length (nyS p units.toNat) (h ++ T) → K (.tuple #[pv h.length 0, iv 0]) (h ++ T)) : CallK (Env P) "roundhouse/yard.New" [poolV p, iv units] K h := by
  refine ⟨[], [], [poolV p, iv units], _, YNewC H p units, rfl, cons_eq (renV_vpf (poolV_vpf p)) rfl, fun i k b1 e => by simp at e, fun i j k b1 _ e => by simp at e, fun v h1' hR _ _ => ⟨fun i hi => by simp at hi, ?_⟩⟩
  rw [back_nil]
  by_cases hu : units < 1 ∨ 16 < units
  · rw [if_pos hu] at hR
    obtain ⟨rfl, rfl⟩ := hR
    rw [renV_vpf rfl]
    simpa using h0 hu
  · rw [if_neg hu] at hR
    obtain ⟨rfl, hY⟩ := hR
    have := h1 _ hu (by have := hY.shift h; rwa [Nat.add_zero] at this)
    rwa [show renV (rho [] h.length) (.tuple #[pv 0 0, iv 0]) = .tuple #[pv h.length 0, iv 0] from (renV_tup _).trans rfl]
end Go.Rh

namespace Go.Rh
theorem ex_eq {α : Type} (x : α) : ∃ y, y = x := ⟨x, rfl⟩
theorem FrY.split {L T h' : List Blk} {F : Nat → Prop} (hF : FrY F (L ++ T) h') (hl : ∀ k, k < L.length → ¬ F k) : ∃ T', h' = L ++ T' := by
  refine ⟨h'.drop L.length, List.ext_getElem? fun k => ?_⟩
  rcases Nat.lt_or_ge k L.length with h | h
  · rw [hF.fr k (hl k h), List.getElem?_append_left h, List.getElem?_append_left h]
  · rw [List.getElem?_append_right h, List.getElem?_drop]; congr 1; omega
theorem spl {L T : List Blk} {y : Nat} {S : YS} {K' : List Blk → Prop} {lo : Nat} (hlo : L.length = lo) (hk : ∀ T', YP (fun k => lo ≤ k) y S (L ++ T') → K' (L ++ T')) : ∀ h', YP (fun k => lo ≤ k) y S h' → FrY (fun k => lo ≤ k) (L ++ T) h' → K' h' := fun h' hY hF => by
  obtain ⟨T', rfl⟩ := hF.split (fun k hk => by omega)
  exact hk T' hY
def aloneB (anc : List (List Nat)) (i : Nat) : Bool := (List.range anc.length).all fun k => Nat.beq k i || !(unA anc i k)
theorem alone_of {anc : List (List Nat)} {i : Nat} (h : aloneB anc i = true) : ∀ k, k ≠ i → unA anc i k = false := by
  intro k hk
  rcases Nat.lt_or_ge k anc.length with hl | hl
  · have := List.all_eq_true.1 h k (List.mem_range.2 hl)
    simp only [Bool.or_eq_true, Nat.beq_eq, Bool.not_eq_true'] at this
    exact this.resolve_left hk
  · unfold unA
    have : Nat.blt k anc.length = false := by
      cases e : Nat.blt k anc.length with
      | false => rfl
      | true => have : k < anc.length := Nat.blt_eq ▸ e
                omega
    rw [this]; simp
theorem unA_symm (anc : List (List Nat)) (i j : Nat) : unA anc i j = unA anc j i := by
  unfold unA
  cases Nat.blt i anc.length <;> cases Nat.blt j anc.length <;> cases ((anc.getD i []).any (Nat.beq j)) <;> cases ((anc.getD j []).any (Nat.beq i)) <;> rfl
section
variable {C : CallT} {anc : List (List Nat)} {K : St → Prop} {L : List (Nat × Value)} {h : List Blk} {i nid : Nat} {log : List Foot}
theorem d_clK {d : Nat} {g : String} {args : List Opd} {r : List ICell} (ha : aloneB anc i = true) (hlog : log.all (fun y => !(Nat.beq y.i i)) = true)
    (hc : CallK C g (args.map (evf (reg L))) (fun v h' => ∀ rd wr, GD C (unA anc) (i + 1) nid r (⟨i, rd, wr, some h.length⟩ :: log) K ⟨reg ((d, v) :: L), h'⟩) h) : GD C (unA anc) i nid (⟨some d, .call g args, none⟩ :: r) log K ⟨reg L, h⟩ := by
  obtain ⟨sel, h1, a1, R, e1, e2, e3, e4, e5, e6⟩ := hc
  refine ⟨⟨sel, h1, a1, R, e1, e2, e3, e4, e5, fun y hy => .inr ?_, fun ⟨k, hk, hu⟩ => ?_, fun v h1' a b c => ⟨(e6 v h1' a b c).1, ((e6 v h1' a b c).2 _ _).out⟩⟩⟩
  · have := List.all_eq_true.1 hlog y hy
    rw [unA_symm]
    refine alone_of ha y.i ?_
    have h9 : Nat.beq y.i i = false := by simpa using this
    intro e; rw [e] at h9; simp at h9
  · rw [alone_of ha k hk] at hu; cases hu
theorem d_clS {d : Nat} {g : String} {args : List Opd} {r : List ICell} {G : Nat → Prop} (hlog : ∀ y ∈ log, unA anc y.i i = false)
    (hc : CallF C g (args.map (evf (reg L))) h G True (fun v h' => ∀ rd wr, (∀ k ∈ wr, G k) → GD C (unA anc) (i + 1) nid r (⟨i, rd, wr, some h.length⟩ :: log) K ⟨reg ((d, v) :: L), h'⟩)) : GD C (unA anc) i nid (⟨some d, .call g args, none⟩ :: r) log K ⟨reg L, h⟩ := by
  obtain ⟨sel, h1, a1, R, e1, e2, e3, e4, e5, eG, eX, e6⟩ := hc
  refine ⟨⟨sel, h1, a1, R, e1, e2, e3, e4, e5, fun y hy => .inr (hlog y hy), fun _ => eX trivial, fun v h1' a b c => ⟨(e6 v h1' a b c).1, ((e6 v h1' a b c).2 _ _ ?_).out⟩⟩⟩
  have : ∀ (sel : List Nat) (h1 : List Blk), ∀ k ∈ wrsel sel h1, k ∈ sel := by
    intro sel
    induction sel with
    | nil => intro h1 k hk; cases h1 <;> simp [wrsel] at hk
    | cons a l ih =>
      intro h1 k hk
      cases h1 with
      | nil => simp [wrsel] at hk
      | cons b t =>
        simp only [wrsel] at hk
        split at hk
        · rcases List.mem_cons.1 hk with rfl | hk
          · simp
          · exact List.mem_cons_of_mem _ (ih t k hk)
        · exact List.mem_cons_of_mem _ (ih t k hk)
  intro k hk
  obtain ⟨j, hj⟩ := List.mem_iff_getElem?.1 (this sel h1 k hk)
  exact eG j k hj
theorem fits_alone {x : Foot} (h : log.all (fun y => !(unA anc y.i x.i)) = true) : ∀ y ∈ log, unA anc y.i x.i = false := fun y hy => by
  have := List.all_eq_true.1 h y hy
  simpa using this
theorem d_ldF {d : Nat} {m : Option Nat} {x : Opd} {r : List ICell} {k o : Nat} {c : List Value} {rw : Bool} {v : Value} (hx : evf (reg L) x = .pointer (some ⟨k, o, none⟩)) (hh : hf h k = some (.cells c rw)) (hv : partL m c o = some v)
    (hfit : fits (unA anc) ⟨i, [k], [], none⟩ log) (hk : GD C (unA anc) (i + 1) nid r (⟨i, [k], [], none⟩ :: log) K ⟨reg ((d, v) :: L), h⟩) : GD C (unA anc) i nid (⟨some d, .ld m x, none⟩ :: r) log K ⟨reg L, h⟩ := by
  refine ⟨?_⟩
  show stepD C (unA anc) ⟨i, nid, ⟨some d, .ld m x, none⟩⟩ log (fun log' s' => wpD C (unA anc) (annot (i + 1) nid r) log' K s') ⟨reg L, h⟩
  refine (stepD_det (fun _ => rfl)).2 ⟨⟨i, [k], [], none⟩, ⟨putf (reg L) (some d) v, h⟩, ?_, hfit, hk.out⟩
  have h1 : rdE (.ld m x) (evf (reg L)) = [k] := by simp [rdE, IOp.rdl, hx, idsOf]
  have h2 : stepE (.ld m x) (evf (reg L)) (hf h) nid = some (v, .no) := by simp [stepE, ldV, hx, hh, hv]
  simp [detD, gJ, want, h1, h2]
theorem fits_ld {k j n lo : Nat} {rd wr : List Nat} {log : List Foot} (hk : k < lo) (hw : ∀ k ∈ wr, lo ≤ k) (hn : k < n) (hr : fits (unA anc) ⟨i, [k], [], none⟩ log) : fits (unA anc) ⟨i, [k], [], none⟩ (⟨j, rd, wr, some n⟩ :: log) := by
  intro y hy
  rcases List.mem_cons.1 hy with rfl | hy
  · refine .inl ⟨fun q hq => ⟨?_, by simp⟩, fun q hq => by simp at hq, fun q hq => ?_, trivial⟩
    · simp only [List.mem_singleton]; have := hw q hq; omega
    · simp at hq; omega
  · exact hr y hy
end
section
variable {P : Program} {F : Nat → Prop} {y : Nat} {s : YS} {h : List Blk} {K : Post}
theorem YPoolF (H : YCode P) (hY : YP F y s h) (hK : ∀ h', YP F y s h' → FrY F h h' → K (poolV s.x.p) h') : CallF (Env P) "(*roundhouse/yard.Yard).Pool" [pv y 0] h F True K := by
  obtain ⟨q, hq, hY⟩ := hY
  refine glueA0 (hX := True) (ex := []) (V := poolV s.x.p) (x' := s.x) (l' := s.l) hY rfl (poolV_vpf _) (fun m o ho => ⟨_, YPoolC H.h_yard_Yard_Pool H.h_head_Head_Pool s.x.p s.x.w s.x.hd s.x.e s.x.s s.n m s.l o ho, ?_, fun _ => ⟨_, _, ⟨rfl, rfl⟩, Nat.le_refl 6, fun i b b' e1 e2 => ?_⟩⟩) (fun h' hT => hK h' (YP.of hq hT))
  · rintro v h' ⟨rfl, rfl⟩
    exact ⟨rfl, o, gB s.l o, 5, [], ho, (fun z => by subst z; rfl), .inl ⟨rfl, rfl, rfl⟩, rfl⟩
  · have e1' : (laA s.n m s.x 5 s.l o ++ [gB s.l o])[i]? = some b' := e2
    rw [e1'] at e1; cases e1; rfl
end
structure YOK (S : YS) : Prop where
  hd : S.x.hd.length = S.n
  n : 1 ≤ S.n ∧ S.n ≤ 16
  nok : NOK S
theorem notesTo_mem {x : HS} {n : Nat} {nt : Nt} (h : nt ∈ notesTo x n) : 0 ≤ nt.u ∧ nt.u < n ∧ nt.a = false := by
  unfold notesTo at h
  obtain ⟨i, hi, he⟩ := List.mem_filterMap.1 h
  have hi := List.mem_range.1 hi
  unfold noteS at he
  simp only at he
  split at he
  · cases he
  · split at he
    · cases he; exact ⟨by simp only; omega, by simp only; omega, rfl⟩
    · cases he; exact ⟨by simp only; omega, by simp only; omega, rfl⟩
theorem ok_tick {S : YS} (h : YOK S) : YOK (tickS S) := by
  refine ⟨?_, h.n, fun nt hm ha => ?_⟩
  · show (sendS S.x).1.hd.length = _; rw [sendS_hd]; exact h.hd
  · have hm : nt ∈ S.l ++ (sendS S.x).2 := hm
    rcases List.mem_append.1 hm with hm | hm
    · exact h.nok nt hm ha
    · have := notesTo_mem (x := goS S.x) (n := (goS S.x).hd.length) hm
      rw [goS_hd, h.hd] at this
      exact ⟨this.1, this.2.1⟩
theorem tick_len {S : YS} (h : YOK S) : (tickS S).l.length ≤ S.l.length + 16 := by
  show (S.l ++ (sendS S.x).2).length ≤ _
  have := sendS_len (x := S.x)
  rw [h.hd] at this
  have := h.n
  simp; omega
theorem rest_mem {l : List Nt} {k : Int} {keep : Bool} {nt : Nt} (h : nt ∈ restS l k keep) : nt ∈ l := by
  unfold restS at h
  split at h
  · exact h
  · exact List.mem_of_mem_eraseIdx h
theorem rest_len {l : List Nt} {k : Int} {keep : Bool} : (restS l k keep).length ≤ l.length := by
  unfold restS; split
  · exact Nat.le_refl _
  · exact List.length_eraseIdx_le ..
theorem ok_dlv {S : YS} (h : YOK S) (k : Int) (keep : Bool) : YOK (dlvS S k keep) := by
  unfold dlvS
  split
  · split
    · refine ⟨?_, h.n, fun nt hm ha => h.nok nt (rest_mem hm) ha⟩
      show (heardS S.x.hd _).length = _; rw [heardS_len]; exact h.hd
    · refine ⟨h.hd, h.n, fun nt hm ha => ?_⟩
      have hm : nt ∈ restS S.l k keep ++ [_] := hm
      rcases List.mem_append.1 hm with hm | hm
      · exact h.nok nt (rest_mem hm) ha
      · simp at hm; subst hm; cases ha
  · exact h
theorem dlv_len (S : YS) (k : Int) (keep : Bool) : (dlvS S k keep).l.length ≤ S.l.length + 1 := by
  have := rest_len (l := S.l) (k := k) (keep := keep)
  unfold dlvS
  split
  · split
    · simp only; omega
    · simp only [List.length_append, List.length_singleton]; omega
  · omega
theorem ok_nyS (p : Flat) {n : Nat} (h1 : 1 ≤ n) (h2 : n ≤ 16) : YOK (nyS p n) := by
  refine ⟨?_, ⟨h1, h2⟩, fun nt hm => by cases hm⟩
  show (List.replicate ((n : Nat) : Int).toNat ((0 : Int), (-1 : Int))).length = n
  simp
end Go.Rh

set_option maxHeartbeats 8000000
namespace Go.Rh
def c_law12_within : IFunc :=
  ⟨15, [.tmp 4], (.seq (.reg [⟨(some 4), .mv (.c (.int .i64 0)), none⟩]) (.seq (.reg [⟨(some 6), .mv (.t 0), none⟩, ⟨(some 7), .mv (.t 1), none⟩, ⟨(some 8), .bin .rem (.t 6) (.t 7), none⟩, ⟨(some 5), .mv (.t 8), none⟩]) (.seq (.seq (.reg [⟨(some 9), .mv (.t 5), none⟩, ⟨(some 10), .bin .lss (.t 9) (.c (.int .i64 0)), none⟩]) (.cond (.t 10) (.reg [⟨(some 11), .mv (.t 5), none⟩, ⟨(some 12), .mv (.t 1), none⟩, ⟨(some 13), .bin .add (.t 11) (.t 12), none⟩, ⟨(some 5), .mv (.t 13), none⟩]) .skip)) (.seq (.reg [⟨(some 14), .mv (.t 5), none⟩, ⟨(some 4), .mv (.t 14), none⟩]) .ret))))⟩
theorem within12C {P : Program} (hc : codeOf P "roundhouse/roundhouselaw12.within" = some c_law12_within) (x n : Int) (hn : n ≠ 0) :
    Env P "roundhouse/roundhouselaw12.within" [iv x, iv n] ([]) (Ans (.int .i64 (withinS x n)) ([])) := by
 refine Env.by hc ?_
 unfold c_law12_within
 show GC _ 0 _ _ ⟨reg [(0, iv x), (1, iv n)], []⟩
 refine gseq (greg (o_d 1 [(4, iv 0)] (by kernel_rfl) (o_nil (seq_go (gseq (greg ?_))))))
 refine o_d 2 [(7, iv n), (6, iv x)] (by kernel_rfl) (o_s (by exact run_rem rfl rfl (by omega)) ?_)
 refine o_d 1 [(5, iv (x.tmod n))] (by kernel_rfl) (o_nil (seq_go (gseq (gseq (greg (o_d 2 [(10, bv (decide (x.tmod n < 0))), (9, iv (x.tmod n))] (by kernel_rfl) ?_))))))
 refine o_nil (seq_go (gcond (t := decide (x.tmod n < 0)) rfl (fun h1 => ?_) (fun h1 => ?_)))
 ·skip
  have h1' : x.tmod n < 0 := of_decide_eq_true h1
  refine greg (o_d 4 [(5, iv (i64.wrap (x.tmod n + n))), (13, iv (i64.wrap (x.tmod n + n))), (12, iv n), (11, iv (x.tmod n))] (by kernel_rfl) (o_nil (seq_go (gseq (greg (o_d 2 [(4, iv (i64.wrap (x.tmod n + n))), (14, iv (i64.wrap (x.tmod n + n)))] (by kernel_rfl) ?_))))))
  refine o_nil (seq_go (gret ?_))
  have E0_ : withinS x n = (i64.wrap (x.tmod n + n)) := by
   unfold withinS; simp only [h1', if_true, if_false]
  exact fin_ans [iv (i64.wrap (x.tmod n + n))] (resV_t rfl rfl) rfl (by rw [E0_]; rfl) rfl rfl
 have h1' : ¬ (x.tmod n < 0) := of_decide_eq_false h1
 refine gskip (seq_go (gseq (greg (o_d 2 [(4, iv (x.tmod n)), (14, iv (x.tmod n))] (by kernel_rfl) (o_nil (seq_go ?_))))))
 refine gret ?_
 have E0_ : withinS x n = (x.tmod n) := by
  unfold withinS; simp only [h1', if_true, if_false]
 exact fin_ans [iv (x.tmod n)] (resV_t rfl rfl) rfl (by rw [E0_]; rfl) rfl rfl
end Go.Rh

set_option maxHeartbeats 8000000
namespace Go.Rh
def c_law12_known : IFunc :=
  ⟨84, [.tmp 0], (.seq (.reg [⟨(some 0), .mv (.c (.bool false)), none⟩]) (.seq (.reg [⟨(some 12), .bld [(2, (.int .u64 0))] [], none⟩, ⟨(some 13), .bld [(2, (.int .u64 0))] [], none⟩, ⟨(some 14), .call "roundhouse/roundhouseref6.New" [(.c (.int .i64 10)), (.c (.int .i64 80)), (.t 12), (.t 13)], none⟩, ⟨(some 11), .mv (.t 14), none⟩, ⟨(some 15), .ext 0 (.t 11), none⟩, ⟨(some 16), .ext 1 (.t 11), none⟩, ⟨(some 1), .new [(324, (.int .i64 0)), (6, (.int .u64 0))], none⟩, ⟨none, .st 330 (.t 1) (.t 15), none⟩, ⟨(some 2), .mv (.t 16), none⟩]) (.seq (.reg [⟨(some 18), .ld (some 330) (.t 1), none⟩, ⟨(some 19), .call "roundhouse/yard.New" [(.t 18), (.c (.int .i64 2))], none⟩, ⟨(some 17), .mv (.t 19), none⟩, ⟨(some 20), .ext 0 (.t 17), none⟩, ⟨(some 21), .ext 1 (.t 17), none⟩, ⟨(some 3), .mv (.t 20), none⟩, ⟨(some 4), .mv (.t 21), none⟩]) (.seq (.seq (.reg [⟨(some 22), .mv (.t 4), none⟩, ⟨(some 23), .bin .neq (.t 22) (.c (.int .i64 0)), none⟩, ⟨(some 24), .mv (.t 23), none⟩, ⟨(some 25), .mv (.t 3), some (24, false)⟩, ⟨(some 26), .eqn false .ptr (.t 25) (.c (.pointer none)), some (24, false)⟩, ⟨(some 27), .pick (.t 24) (.c (.bool true)) (.t 26), none⟩]) (.cond (.t 27) (.seq (.reg [⟨(some 0), .mv (.c (.bool false)), none⟩]) .ret) .skip)) (.seq (.reg [⟨(some 28), .mv (.t 3), none⟩, ⟨(some 29), .call "(*roundhouse/yard.Yard).Notes" [(.t 28)], none⟩, ⟨(some 5), .mv (.t 29), none⟩]) (.seq (.reg [⟨(some 30), .mv (.t 3), none⟩, ⟨(some 31), .call "(*roundhouse/yard.Yard).Tick" [(.t 30)], none⟩, ⟨(some 6), .mv (.t 31), none⟩]) (.seq (.reg [⟨(some 32), .mv (.t 3), none⟩, ⟨(some 33), .call "(*roundhouse/yard.Yard).Deliver" [(.t 32), (.c (.int .i64 0)), (.c (.bool false))], none⟩, ⟨(some 34), .mv (.t 3), none⟩, ⟨(some 35), .call "(*roundhouse/yard.Yard).Deliver" [(.t 34), (.c (.int .i64 0)), (.c (.bool false))], none⟩, ⟨(some 7), .mv (.t 33), none⟩, ⟨(some 8), .mv (.t 35), none⟩]) (.seq (.reg [⟨(some 37), .mv (.t 3), none⟩, ⟨(some 38), .call "(*roundhouse/yard.Yard).Version" [(.t 37), (.c (.int .i64 1))], none⟩, ⟨(some 36), .mv (.t 38), none⟩, ⟨(some 39), .ext 0 (.t 36), none⟩, ⟨(some 40), .ext 1 (.t 36), none⟩, ⟨(some 9), .mv (.t 39), none⟩, ⟨(some 10), .mv (.t 40), none⟩]) (.seq (.dreg [⟨(some 41), .mv (.t 5), none⟩, ⟨(some 42), .bin .eql (.t 41) (.c (.int .i64 0)), none⟩, ⟨(some 43), .mv (.t 42), none⟩, ⟨(some 44), .mv (.t 6), some (43, true)⟩, ⟨(some 45), .bin .eql (.t 44) (.c (.int .i64 2)), some (43, true)⟩, ⟨(some 46), .pick (.t 43) (.t 45) (.c (.bool false)), none⟩, ⟨(some 47), .mv (.t 46), none⟩, ⟨(some 48), .mv (.t 7), some (47, true)⟩, ⟨(some 49), .pick (.t 47) (.t 48) (.c (.bool false)), none⟩, ⟨(some 50), .mv (.t 49), none⟩, ⟨(some 51), .mv (.t 8), some (50, true)⟩, ⟨(some 52), .pick (.t 50) (.t 51) (.c (.bool false)), none⟩, ⟨(some 53), .mv (.t 52), none⟩, ⟨(some 54), .mv (.t 3), some (53, true)⟩, ⟨(some 55), .call "(*roundhouse/yard.Yard).Notes" [(.t 54)], some (53, true)⟩, ⟨(some 56), .bin .eql (.t 55) (.c (.int .i64 2)), some (53, true)⟩, ⟨(some 57), .pick (.t 53) (.t 56) (.c (.bool false)), none⟩, ⟨(some 58), .mv (.t 57), none⟩, ⟨(some 59), .mv (.t 10), some (58, true)⟩, ⟨(some 60), .pick (.t 58) (.t 59) (.c (.bool false)), none⟩, ⟨(some 61), .mv (.t 60), none⟩, ⟨(some 62), .mv (.t 9), some (61, true)⟩, ⟨(some 63), .bin .eql (.t 62) (.c (.int .i64 0)), some (61, true)⟩, ⟨(some 64), .pick (.t 61) (.t 63) (.c (.bool false)), none⟩, ⟨(some 65), .mv (.t 64), none⟩, ⟨(some 66), .mv (.t 3), some (65, true)⟩, ⟨(some 67), .call "(*roundhouse/yard.Yard).Deliver" [(.t 66), (.c (.int .i64 0)), (.c (.bool false))], some (65, true)⟩, ⟨(some 68), .pick (.t 65) (.t 67) (.c (.bool false)), none⟩, ⟨(some 69), .mv (.t 68), none⟩, ⟨(some 70), .mv (.t 3), some (69, true)⟩, ⟨(some 71), .call "(*roundhouse/yard.Yard).Lose" [(.t 70), (.c (.int .i64 0))], some (69, true)⟩, ⟨(some 72), .pick (.t 69) (.t 71) (.c (.bool false)), none⟩, ⟨(some 73), .mv (.t 72), none⟩, ⟨(some 74), .mv (.t 3), some (73, true)⟩, ⟨(some 75), .call "(*roundhouse/yard.Yard).Lose" [(.t 74), (.c (.int .i64 0))], some (73, true)⟩, ⟨(some 76), .un .not (.t 75), some (73, true)⟩, ⟨(some 77), .pick (.t 73) (.t 76) (.c (.bool false)), none⟩, ⟨(some 78), .mv (.t 77), none⟩, ⟨(some 79), .mv (.t 3), some (78, true)⟩, ⟨(some 80), .call "(*roundhouse/yard.Yard).Pool" [(.t 79)], some (78, true)⟩, ⟨(some 81), .ld (some 330) (.t 1), some (78, true)⟩, ⟨(some 82), .eqa false [(330, .i)] (.t 80) (.t 81), some (78, true)⟩, ⟨(some 83), .pick (.t 78) (.t 82) (.c (.bool false)), none⟩, ⟨(some 0), .mv (.t 83), none⟩] [[], [0], [1, 0], [2, 1, 0], [3, 2, 1, 0], [2, 1, 0, 4, 3], [5, 2, 1, 0, 4, 3], [6, 5, 2, 1, 0, 4, 3], [6, 5, 2, 1, 0, 4, 3, 7], [8, 6, 5, 2, 1, 0, 4, 3, 7], [9, 8, 6, 5, 2, 1, 0, 4, 3, 7], [9, 8, 6, 5, 2, 1, 0, 4, 3, 7, 10], [11, 9, 8, 6, 5, 2, 1, 0, 4, 3, 7, 10], [12, 11, 9, 8, 6, 5, 2, 1, 0, 4, 3, 7, 10], [13, 12, 11, 9, 8, 6, 5, 2, 1, 0, 4, 3, 7, 10], [14, 13, 12, 11, 9, 8, 6, 5, 2, 1, 0, 4, 3, 7, 10], [12, 11, 9, 8, 6, 5, 2, 1, 0, 4, 3, 7, 10, 15, 14, 13], [16, 12, 11, 9, 8, 6, 5, 2, 1, 0, 4, 3, 7, 10, 15, 14, 13], [17, 16, 12, 11, 9, 8, 6, 5, 2, 1, 0, 4, 3, 7, 10, 15, 14, 13], [17, 16, 12, 11, 9, 8, 6, 5, 2, 1, 0, 4, 3, 7, 10, 15, 14, 13, 18], [19, 17, 16, 12, 11, 9, 8, 6, 5, 2, 1, 0, 4, 3, 7, 10, 15, 14, 13, 18], [20, 19, 17, 16, 12, 11, 9, 8, 6, 5, 2, 1, 0, 4, 3, 7, 10, 15, 14, 13, 18], [21, 20, 19, 17, 16, 12, 11, 9, 8, 6, 5, 2, 1, 0, 4, 3, 7, 10, 15, 14, 13, 18], [20, 19, 17, 16, 12, 11, 9, 8, 6, 5, 2, 1, 0, 4, 3, 7, 10, 15, 14, 13, 18, 22, 21], [23, 20, 19, 17, 16, 12, 11, 9, 8, 6, 5, 2, 1, 0, 4, 3, 7, 10, 15, 14, 13, 18, 22, 21], [24, 23, 20, 19, 17, 16, 12, 11, 9, 8, 6, 5, 2, 1, 0, 4, 3, 7, 10, 15, 14, 13, 18, 22, 21], [25, 24, 23, 20, 19, 17, 16, 12, 11, 9, 8, 6, 5, 2, 1, 0, 4, 3, 7, 10, 15, 14, 13, 18, 22, 21], [24, 23, 20, 19, 17, 16, 12, 11, 9, 8, 6, 5, 2, 1, 0, 4, 3, 7, 10, 15, 14, 13, 18, 22, 21, 26, 25], [27, 24, 23, 20, 19, 17, 16, 12, 11, 9, 8, 6, 5, 2, 1, 0, 4, 3, 7, 10, 15, 14, 13, 18, 22, 21, 26, 25], [28, 27, 24, 23, 20, 19, 17, 16, 12, 11, 9, 8, 6, 5, 2, 1, 0, 4, 3, 7, 10, 15, 14, 13, 18, 22, 21, 26, 25], [29, 28, 27, 24, 23, 20, 19, 17, 16, 12, 11, 9, 8, 6, 5, 2, 1, 0, 4, 3, 7, 10, 15, 14, 13, 18, 22, 21, 26, 25], [28, 27, 24, 23, 20, 19, 17, 16, 12, 11, 9, 8, 6, 5, 2, 1, 0, 4, 3, 7, 10, 15, 14, 13, 18, 22, 21, 26, 25, 30, 29], [31, 28, 27, 24, 23, 20, 19, 17, 16, 12, 11, 9, 8, 6, 5, 2, 1, 0, 4, 3, 7, 10, 15, 14, 13, 18, 22, 21, 26, 25, 30, 29], [32, 31, 28, 27, 24, 23, 20, 19, 17, 16, 12, 11, 9, 8, 6, 5, 2, 1, 0, 4, 3, 7, 10, 15, 14, 13, 18, 22, 21, 26, 25, 30, 29], [33, 32, 31, 28, 27, 24, 23, 20, 19, 17, 16, 12, 11, 9, 8, 6, 5, 2, 1, 0, 4, 3, 7, 10, 15, 14, 13, 18, 22, 21, 26, 25, 30, 29], [34, 33, 32, 31, 28, 27, 24, 23, 20, 19, 17, 16, 12, 11, 9, 8, 6, 5, 2, 1, 0, 4, 3, 7, 10, 15, 14, 13, 18, 22, 21, 26, 25, 30, 29], [32, 31, 28, 27, 24, 23, 20, 19, 17, 16, 12, 11, 9, 8, 6, 5, 2, 1, 0, 4, 3, 7, 10, 15, 14, 13, 18, 22, 21, 26, 25, 30, 29, 35, 34, 33], [36, 32, 31, 28, 27, 24, 23, 20, 19, 17, 16, 12, 11, 9, 8, 6, 5, 2, 1, 0, 4, 3, 7, 10, 15, 14, 13, 18, 22, 21, 26, 25, 30, 29, 35, 34, 33], [37, 36, 32, 31, 28, 27, 24, 23, 20, 19, 17, 16, 12, 11, 9, 8, 6, 5, 2, 1, 0, 4, 3, 7, 10, 15, 14, 13, 18, 22, 21, 26, 25, 30, 29, 35, 34, 33], [38, 37, 36, 32, 31, 28, 27, 24, 23, 20, 19, 17, 16, 12, 11, 9, 8, 6, 5, 2, 1, 0, 4, 3, 7, 10, 15, 14, 13, 18, 22, 21, 26, 25, 30, 29, 35, 34, 33], [37, 36, 32, 31, 28, 27, 24, 23, 20, 19, 17, 16, 12, 11, 9, 8, 6, 5, 2, 1, 0, 4, 3, 7, 10, 15, 14, 13, 18, 22, 21, 26, 25, 30, 29, 35, 34, 33], [39, 38, 37, 36, 32, 31, 28, 27, 24, 23, 20, 19, 17, 16, 12, 11, 9, 8, 6, 5, 2, 1, 0, 4, 3, 7, 10, 15, 14, 13, 18, 22, 21, 26, 25, 30, 29, 35, 34, 33, 40], [37, 36, 32, 31, 28, 27, 24, 23, 20, 19, 17, 16, 12, 11, 9, 8, 6, 5, 2, 1, 0, 4, 3, 7, 10, 15, 14, 13, 18, 22, 21, 26, 25, 30, 29, 35, 34, 33, 41, 39, 38, 40], [42, 37, 36, 32, 31, 28, 27, 24, 23, 20, 19, 17, 16, 12, 11, 9, 8, 6, 5, 2, 1, 0, 4, 3, 7, 10, 15, 14, 13, 18, 22, 21, 26, 25, 30, 29, 35, 34, 33, 41, 39, 38, 40]]) .ret)))))))))⟩
theorem known12C {P : Program} (hc : codeOf P "roundhouse/roundhouselaw12.known" = some c_law12_known) (h_ref6_New : k_ref6_New P) (h_ref6_out : k_ref6_out P) (h_ref5_Ring : k_ref5_Ring P) (h_yard_Yard_Notes : k_yard_Yard_Notes P) (h_yard_Yard_Pool : k_yard_Yard_Pool P) (h_head_Head_Pool : k_head_Head_Pool P) (h_yard_Yard_Wish : k_yard_Yard_Wish P) (h_head_Head_Wish : k_head_Head_Wish P) (h_head_Head_waiting : k_head_Head_waiting P) (h_pool_All : k_pool_All P) (h_pool_Apply : k_pool_Apply P) (h_pool_may : k_pool_may P) (h_pool_held : k_pool_held P) (h_pool_fits : k_pool_fits P) (h_pool_Check : k_pool_Check P) (h_pool_placed : k_pool_placed P) (h_cookie_Next : k_cookie_Next P) (h_yard_Yard_Tick : k_yard_Yard_Tick P) (h_head_Head_Send : k_head_Head_Send P) (h_head_Head_all : k_head_Head_all P) (h_head_Head_publish : k_head_Head_publish P) (h_yard_row_head_Note_put : k_yard_row_head_Note_put P) (h_yard_Yard_Lose : k_yard_Yard_Lose P) (h_yard_row_head_Note_at : k_yard_row_head_Note_at P) (h_yard_row_head_Note_drop : k_yard_row_head_Note_drop P) (h_yard_Yard_Version : k_yard_Yard_Version P) (h_yard_row_yard_unit_at : k_yard_row_yard_unit_at P) (h_plane_Plane_Version : k_plane_Plane_Version P) (h_yard_Yard_Crash : k_yard_Yard_Crash P) (h_plane_Plane_Crash : k_plane_Plane_Crash P) (h_yard_Yard_Deliver : k_yard_Yard_Deliver P) (h_head_Head_Heard : k_head_Head_Heard P) (h_yard_unit_hear : k_yard_unit_hear P) (h_yard_unit_version : k_yard_unit_version P) (h_yard_unit_load : k_yard_unit_load P) (h_plane_Plane_Load : k_plane_Plane_Load P) (h_plane_maybe_api_Pool_lay : k_plane_maybe_api_Pool_lay P) (h_wheel_Make : k_wheel_Make P) (h_wheel_spun : k_wheel_spun P) (h_sip_Words : k_sip_Words P) (h_sip_Of : k_sip_Of P) (h_sip_number_byte : k_sip_number_byte P) (h_sip_state_take : k_sip_state_take P) (h_sip_state_rounds : k_sip_state_rounds P) (h_sip_state_round : k_sip_state_round P) (h_math_bits_RotateLeft64 : k_math_bits_RotateLeft64 P) (h_head_New : k_head_New P) (h_plane_New : k_plane_New P) (h_yard_New : k_yard_New P) (h_yard_row_yard_unit_put : k_yard_row_yard_unit_put P)  :
    Env P "roundhouse/roundhouselaw12.known" [] ([]) (Ans (.bool true) ([])) := by
 refine Env.by hc ?_
 unfold c_law12_known
 show GC _ 0 _ _ ⟨reg [], []⟩
 have H : YCode P := ⟨h_yard_Yard_Notes, h_yard_Yard_Pool, h_head_Head_Pool, h_yard_Yard_Wish, h_head_Head_Wish, h_head_Head_waiting, h_pool_All, h_pool_Apply, h_pool_may, h_pool_held, h_pool_fits, h_pool_Check, h_pool_placed, h_cookie_Next, h_yard_Yard_Tick, h_head_Head_Send, h_head_Head_all, h_head_Head_publish, h_yard_row_head_Note_put, h_yard_Yard_Lose, h_yard_row_head_Note_at, h_yard_row_head_Note_drop, h_yard_Yard_Version, h_yard_row_yard_unit_at, h_plane_Plane_Version, h_yard_Yard_Crash, h_plane_Plane_Crash, h_yard_Yard_Deliver, h_head_Head_Heard, h_yard_unit_hear, h_yard_unit_version, h_yard_unit_load, h_plane_Plane_Load, h_plane_maybe_api_Pool_lay, h_wheel_Make, h_wheel_spun, h_sip_Words, h_sip_Of, h_sip_number_byte, h_sip_state_take, h_sip_state_rounds, h_sip_state_round, h_math_bits_RotateLeft64, h_head_New, h_plane_New, h_yard_New, h_yard_row_yard_unit_put⟩
 refine gseq (greg (o_d 1 [(0, bv false)] (by kernel_rfl) (o_nil (seq_go (gseq (greg ?_))))))
 refine o_d 2 [(13, .agg #[uv 0, uv 0]), (12, .agg #[uv 0, uv 0])] (by kernel_rfl) (o_cl (callV (refNewC h_ref6_New h_ref6_out h_ref5_Ring 10 80 0 0 0 0) rfl rfl (all_cons (poolV_aggf ((newP 10 80 0 0 0 0).1)) (all_cons rfl rfl)) (o_b 4 [(1, pv 0 0), (16, iv ((newP 10 80 0 0 0 0).2)), (15, poolV ((newP 10 80 0 0 0 0).1)), (11, .tuple #[poolV ((newP 10 80 0 0 0 0).1), iv ((newP 10 80 0 0 0 0).2)])] [cw (pl zeroP)] (by kernel_rfl) (o_s0 (by refine run_st (c' := pl ((newP 10 80 0 0 0 0).1)) rfl rfl rfl ?_ ?_ ?_; exact pl_length _; exact pl_le (by omega); exact splice_pl0 zeroP ((newP 10 80 0 0 0 0).1)) ?_))))
 refine o_b 1 [(2, iv ((newP 10 80 0 0 0 0).2))] [cw (pl ((newP 10 80 0 0 0 0).1))] (by kernel_rfl) (o_nil (seq_go (gseq (greg (o_s (by refine run_ld (v := poolV ((newP 10 80 0 0 0 0).1)) rfl rfl ?_; exact pl_all ((newP 10 80 0 0 0 0).1)) ?_)))))
 refine o_cl (YNewK H ((newP 10 80 0 0 0 0).1) 2 (fun q => absurd q (by omega)) (fun T0 hu0 hY0q => ?_))
 have hY0 : YP (fun k => 1 ≤ k) 1 (nyS ((newP 10 80 0 0 0 0).1) 2) ([cw (pl ((newP 10 80 0 0 0 0).1))] ++ T0) := hY0q
 refine o_d 5 [(4, iv 0), (3, pv 1 0), (21, iv 0), (20, pv 1 0), (17, .tuple #[pv 1 0, iv 0])] (by kernel_rfl) (o_nil (seq_go (gseq (gseq (greg (o_d 6 [(27, bv false), (26, bv false), (25, pv 1 0), (24, bv false), (23, bv false), (22, iv 0)] (by kernel_rfl) ?_))))))
 refine o_nil (seq_go (gfalse rfl (gskip (seq_go (gseq (greg ?_))))))
 refine o_d 1 [(28, pv 1 0)] (by kernel_rfl) (o_cl (YNotesK H hY0   (spl rfl fun T1 hY1q => ?_)))
 refine o_d 1 [(5, iv ((nyS ((newP 10 80 0 0 0 0).1) 2).l.length : Nat))] (by kernel_rfl) (o_nil (seq_regs [(5, iv ((nyS ((newP 10 80 0 0 0 0).1) 2).l.length : Nat)), (3, pv 1 0), (1, pv 0 0)] (by kernel_rfl) (gseq (greg (o_d 1 [(30, pv 1 0)] (by kernel_rfl) (o_cl (YTickK H hY1q (Nat.le_of_ble_eq_true (by kernel_rfl)) (Nat.le_of_ble_eq_true (by kernel_rfl))  (spl rfl fun T2 hY2q => ?_))))))))
 refine o_d 1 [(6, iv ((tickS (nyS ((newP 10 80 0 0 0 0).1) 2)).l.length : Nat))] (by kernel_rfl) (o_nil (seq_go (gseq (greg (o_d 1 [(32, pv 1 0)] (by kernel_rfl) (o_cl (YDeliverK H hY2q (Nat.le_of_ble_eq_true (by kernel_rfl)) (ok_tick (ok_nyS ((newP 10 80 0 0 0 0).1) (by decide) (by decide))).nok 0 false (spl rfl fun T3 hY3q => ?_))))))))
 refine o_d 1 [(34, pv 1 0)] (by kernel_rfl) (o_cl (YDeliverK H hY3q (Nat.le_of_ble_eq_true (by kernel_rfl)) (ok_dlv (ok_tick (ok_nyS ((newP 10 80 0 0 0 0).1) (by decide) (by decide))) _ _).nok 0 false (spl rfl fun T4 hY4q => ?_)))
 refine o_d 2 [(8, bv ((atS (dlvS (tickS (nyS ((newP 10 80 0 0 0 0).1) 2)) 0 false).l 0).2)), (7, bv ((atS (tickS (nyS ((newP 10 80 0 0 0 0).1) 2)).l 0).2))] (by kernel_rfl) (o_nil (seq_go (gseq (greg (o_d 1 [(37, pv 1 0)] (by kernel_rfl) (o_cl (YVersionK H hY4q  1 (spl rfl fun T5 hY5q => ?_))))))))
 refine o_d 5 [(10, bv ((verY (dlvS (dlvS (tickS (nyS ((newP 10 80 0 0 0 0).1) 2)) 0 false) 0 false) 1).2)), (9, iv ((verY (dlvS (dlvS (tickS (nyS ((newP 10 80 0 0 0 0).1) 2)) 0 false) 0 false) 1).1)), (40, bv ((verY (dlvS (dlvS (tickS (nyS ((newP 10 80 0 0 0 0).1) 2)) 0 false) 0 false) 1).2)), (39, iv ((verY (dlvS (dlvS (tickS (nyS ((newP 10 80 0 0 0 0).1) 2)) 0 false) 0 false) 1).1)), (36, .tuple #[iv ((verY (dlvS (dlvS (tickS (nyS ((newP 10 80 0 0 0 0).1) 2)) 0 false) 0 false) 1).1), bv ((verY (dlvS (dlvS (tickS (nyS ((newP 10 80 0 0 0 0).1) 2)) 0 false) 0 false) 1).2)])] (by kernel_rfl) (o_nil (seq_go (gseq (gdregD ([cw (pl ((newP 10 80 0 0 0 0).1))] ++ T5) (List.append_nil _) (d_n 3 3 _ [(43, bv ((((nyS ((newP 10 80 0 0 0 0).1) 2).l.length : Nat) : Int) == 0)), (42, bv ((((nyS ((newP 10 80 0 0 0 0).1) 2).l.length : Nat) : Int) == 0)), (41, iv ((nyS ((newP 10 80 0 0 0 0).1) 2).l.length : Nat))] ([cw (pl ((newP 10 80 0 0 0 0).1))] ++ T5) [] (by kernel_rfl) rfl rfl (d_sp (b := (((nyS ((newP 10 80 0 0 0 0).1) 2).l.length : Nat) : Int) == 0) 43 rfl (fun k7 => ?_) (fun q => by rw [(by kernel_rfl : ((((nyS ((newP 10 80 0 0 0 0).1) 2).l.length : Nat) : Int) == 0) = true)] at q; cases q)))))))
 refine d_n 4 7 _ [(47, bv ((((tickS (nyS ((newP 10 80 0 0 0 0).1) 2)).l.length : Nat) : Int) == 2)), (46, bv ((((tickS (nyS ((newP 10 80 0 0 0 0).1) 2)).l.length : Nat) : Int) == 2)), (45, bv ((((tickS (nyS ((newP 10 80 0 0 0 0).1) 2)).l.length : Nat) : Int) == 2)), (44, iv ((tickS (nyS ((newP 10 80 0 0 0 0).1) 2)).l.length : Nat))] ([cw (pl ((newP 10 80 0 0 0 0).1))] ++ T5) [] (by kernel_rfl) rfl rfl (d_sp (b := (((tickS (nyS ((newP 10 80 0 0 0 0).1) 2)).l.length : Nat) : Int) == 2) 47 rfl (fun k8 => ?_) (fun q => by rw [(by kernel_rfl : ((((tickS (nyS ((newP 10 80 0 0 0 0).1) 2)).l.length : Nat) : Int) == 2) = true)] at q; cases q))
 refine d_n 3 10 _ [(50, bv ((atS (tickS (nyS ((newP 10 80 0 0 0 0).1) 2)).l 0).2)), (49, bv ((atS (tickS (nyS ((newP 10 80 0 0 0 0).1) 2)).l 0).2)), (48, bv ((atS (tickS (nyS ((newP 10 80 0 0 0 0).1) 2)).l 0).2))] ([cw (pl ((newP 10 80 0 0 0 0).1))] ++ T5) [] (by kernel_rfl) rfl rfl (d_sp (b := (atS (tickS (nyS ((newP 10 80 0 0 0 0).1) 2)).l 0).2) 50 rfl (fun k9 => ?_) (fun q => by rw [(by kernel_rfl : ((atS (tickS (nyS ((newP 10 80 0 0 0 0).1) 2)).l 0).2) = true)] at q; cases q))
 refine d_n 3 13 _ [(53, bv ((atS (dlvS (tickS (nyS ((newP 10 80 0 0 0 0).1) 2)) 0 false).l 0).2)), (52, bv ((atS (dlvS (tickS (nyS ((newP 10 80 0 0 0 0).1) 2)) 0 false).l 0).2)), (51, bv ((atS (dlvS (tickS (nyS ((newP 10 80 0 0 0 0).1) 2)) 0 false).l 0).2))] ([cw (pl ((newP 10 80 0 0 0 0).1))] ++ T5) [] (by kernel_rfl) rfl rfl (d_sp (b := (atS (dlvS (tickS (nyS ((newP 10 80 0 0 0 0).1) 2)) 0 false).l 0).2) 53 rfl (fun k10 => ?_) (fun q => by rw [(by kernel_rfl : ((atS (dlvS (tickS (nyS ((newP 10 80 0 0 0 0).1) 2)) 0 false).l 0).2) = true)] at q; cases q))
 refine d_n 1 14 _ [(54, pv 1 0)] ([cw (pl ((newP 10 80 0 0 0 0).1))] ++ T5) [] (by kernel_rfl) rfl rfl (d_unguard rfl (d_clK (by kernel_rfl) (by kernel_rfl) (YNotesK H hY5q   (spl rfl fun T10 hY10q => fun rd10 wr10 => ?_))))
 refine d_n 3 18 _ [(58, bv ((((dlvS (dlvS (tickS (nyS ((newP 10 80 0 0 0 0).1) 2)) 0 false) 0 false).l.length : Nat) : Int) == 2)), (57, bv ((((dlvS (dlvS (tickS (nyS ((newP 10 80 0 0 0 0).1) 2)) 0 false) 0 false).l.length : Nat) : Int) == 2)), (56, bv ((((dlvS (dlvS (tickS (nyS ((newP 10 80 0 0 0 0).1) 2)) 0 false) 0 false).l.length : Nat) : Int) == 2))] ([cw (pl ((newP 10 80 0 0 0 0).1))] ++ T10) [⟨14, rd10, wr10, some ([cw (pl ((newP 10 80 0 0 0 0).1))] ++ T5).length⟩] (by kernel_rfl) rfl rfl (d_sp (b := (((dlvS (dlvS (tickS (nyS ((newP 10 80 0 0 0 0).1) 2)) 0 false) 0 false).l.length : Nat) : Int) == 2) 58 rfl (fun k12 => ?_) (fun q => by rw [(by kernel_rfl : ((((dlvS (dlvS (tickS (nyS ((newP 10 80 0 0 0 0).1) 2)) 0 false) 0 false).l.length : Nat) : Int) == 2) = true)] at q; cases q))
 refine d_n 3 21 _ [(61, bv ((verY (dlvS (dlvS (tickS (nyS ((newP 10 80 0 0 0 0).1) 2)) 0 false) 0 false) 1).2)), (60, bv ((verY (dlvS (dlvS (tickS (nyS ((newP 10 80 0 0 0 0).1) 2)) 0 false) 0 false) 1).2)), (59, bv ((verY (dlvS (dlvS (tickS (nyS ((newP 10 80 0 0 0 0).1) 2)) 0 false) 0 false) 1).2))] ([cw (pl ((newP 10 80 0 0 0 0).1))] ++ T10) [⟨14, rd10, wr10, some ([cw (pl ((newP 10 80 0 0 0 0).1))] ++ T5).length⟩] (by kernel_rfl) rfl rfl (d_sp (b := (verY (dlvS (dlvS (tickS (nyS ((newP 10 80 0 0 0 0).1) 2)) 0 false) 0 false) 1).2) 61 rfl (fun k13 => ?_) (fun q => by rw [(by kernel_rfl : ((verY (dlvS (dlvS (tickS (nyS ((newP 10 80 0 0 0 0).1) 2)) 0 false) 0 false) 1).2) = true)] at q; cases q))
 refine d_n 4 25 _ [(65, bv (((verY (dlvS (dlvS (tickS (nyS ((newP 10 80 0 0 0 0).1) 2)) 0 false) 0 false) 1).1) == 0)), (64, bv (((verY (dlvS (dlvS (tickS (nyS ((newP 10 80 0 0 0 0).1) 2)) 0 false) 0 false) 1).1) == 0)), (63, bv (((verY (dlvS (dlvS (tickS (nyS ((newP 10 80 0 0 0 0).1) 2)) 0 false) 0 false) 1).1) == 0)), (62, iv ((verY (dlvS (dlvS (tickS (nyS ((newP 10 80 0 0 0 0).1) 2)) 0 false) 0 false) 1).1))] ([cw (pl ((newP 10 80 0 0 0 0).1))] ++ T10) [⟨14, rd10, wr10, some ([cw (pl ((newP 10 80 0 0 0 0).1))] ++ T5).length⟩] (by kernel_rfl) rfl rfl (d_sp (b := ((verY (dlvS (dlvS (tickS (nyS ((newP 10 80 0 0 0 0).1) 2)) 0 false) 0 false) 1).1) == 0) 65 rfl (fun k14 => ?_) (fun q => by rw [(by kernel_rfl : (((verY (dlvS (dlvS (tickS (nyS ((newP 10 80 0 0 0 0).1) 2)) 0 false) 0 false) 1).1) == 0) = true)] at q; cases q))
 refine d_n 1 26 _ [(66, pv 1 0)] ([cw (pl ((newP 10 80 0 0 0 0).1))] ++ T10) [⟨14, rd10, wr10, some ([cw (pl ((newP 10 80 0 0 0 0).1))] ++ T5).length⟩] (by kernel_rfl) rfl rfl (d_unguard rfl (d_clK (by kernel_rfl) (by kernel_rfl) (YDeliverK H hY10q (Nat.le_of_ble_eq_true (by kernel_rfl)) (ok_dlv (ok_dlv (ok_tick (ok_nyS ((newP 10 80 0 0 0 0).1) (by decide) (by decide))) _ _) _ _).nok 0 false (spl rfl fun T14 hY14q => fun rd14 wr14 => ?_))))
 refine d_n 2 29 _ [(69, bv ((atS (dlvS (dlvS (tickS (nyS ((newP 10 80 0 0 0 0).1) 2)) 0 false) 0 false).l 0).2)), (68, bv ((atS (dlvS (dlvS (tickS (nyS ((newP 10 80 0 0 0 0).1) 2)) 0 false) 0 false).l 0).2))] ([cw (pl ((newP 10 80 0 0 0 0).1))] ++ T14) [⟨26, rd14, wr14, some ([cw (pl ((newP 10 80 0 0 0 0).1))] ++ T10).length⟩, ⟨14, rd10, wr10, some ([cw (pl ((newP 10 80 0 0 0 0).1))] ++ T5).length⟩] (by kernel_rfl) rfl rfl (d_sp (b := (atS (dlvS (dlvS (tickS (nyS ((newP 10 80 0 0 0 0).1) 2)) 0 false) 0 false).l 0).2) 69 rfl (fun k16 => ?_) (fun q => by rw [(by kernel_rfl : ((atS (dlvS (dlvS (tickS (nyS ((newP 10 80 0 0 0 0).1) 2)) 0 false) 0 false).l 0).2) = true)] at q; cases q))
 refine d_n 1 30 _ [(70, pv 1 0)] ([cw (pl ((newP 10 80 0 0 0 0).1))] ++ T14) [⟨26, rd14, wr14, some ([cw (pl ((newP 10 80 0 0 0 0).1))] ++ T10).length⟩, ⟨14, rd10, wr10, some ([cw (pl ((newP 10 80 0 0 0 0).1))] ++ T5).length⟩] (by kernel_rfl) rfl rfl (d_unguard rfl (d_clK (by kernel_rfl) (by kernel_rfl) (YLoseK H hY14q (Nat.le_of_ble_eq_true (by kernel_rfl)) 0 (spl rfl fun T16 hY16q => fun rd16 wr16 => ?_))))
 refine d_n 2 33 _ [(73, bv ((atS (dlvS (dlvS (dlvS (tickS (nyS ((newP 10 80 0 0 0 0).1) 2)) 0 false) 0 false) 0 false).l 0).2)), (72, bv ((atS (dlvS (dlvS (dlvS (tickS (nyS ((newP 10 80 0 0 0 0).1) 2)) 0 false) 0 false) 0 false).l 0).2))] ([cw (pl ((newP 10 80 0 0 0 0).1))] ++ T16) [⟨30, rd16, wr16, some ([cw (pl ((newP 10 80 0 0 0 0).1))] ++ T14).length⟩, ⟨26, rd14, wr14, some ([cw (pl ((newP 10 80 0 0 0 0).1))] ++ T10).length⟩, ⟨14, rd10, wr10, some ([cw (pl ((newP 10 80 0 0 0 0).1))] ++ T5).length⟩] (by kernel_rfl) rfl rfl (d_sp (b := (atS (dlvS (dlvS (dlvS (tickS (nyS ((newP 10 80 0 0 0 0).1) 2)) 0 false) 0 false) 0 false).l 0).2) 73 rfl (fun k18 => ?_) (fun q => by rw [(by kernel_rfl : ((atS (dlvS (dlvS (dlvS (tickS (nyS ((newP 10 80 0 0 0 0).1) 2)) 0 false) 0 false) 0 false).l 0).2) = true)] at q; cases q))
 refine d_n 1 34 _ [(74, pv 1 0)] ([cw (pl ((newP 10 80 0 0 0 0).1))] ++ T16) [⟨30, rd16, wr16, some ([cw (pl ((newP 10 80 0 0 0 0).1))] ++ T14).length⟩, ⟨26, rd14, wr14, some ([cw (pl ((newP 10 80 0 0 0 0).1))] ++ T10).length⟩, ⟨14, rd10, wr10, some ([cw (pl ((newP 10 80 0 0 0 0).1))] ++ T5).length⟩] (by kernel_rfl) rfl rfl (d_unguard rfl (d_clK (by kernel_rfl) (by kernel_rfl) (YLoseK H hY16q (Nat.le_of_ble_eq_true (by kernel_rfl)) 0 (spl rfl fun T18 hY18q => fun rd18 wr18 => ?_))))
 refine d_n 3 38 _ [(78, bv (!((atS (loseY (dlvS (dlvS (dlvS (tickS (nyS ((newP 10 80 0 0 0 0).1) 2)) 0 false) 0 false) 0 false) 0).l 0).2))), (77, bv (!((atS (loseY (dlvS (dlvS (dlvS (tickS (nyS ((newP 10 80 0 0 0 0).1) 2)) 0 false) 0 false) 0 false) 0).l 0).2))), (76, bv (!((atS (loseY (dlvS (dlvS (dlvS (tickS (nyS ((newP 10 80 0 0 0 0).1) 2)) 0 false) 0 false) 0 false) 0).l 0).2)))] ([cw (pl ((newP 10 80 0 0 0 0).1))] ++ T18) [⟨34, rd18, wr18, some ([cw (pl ((newP 10 80 0 0 0 0).1))] ++ T16).length⟩, ⟨30, rd16, wr16, some ([cw (pl ((newP 10 80 0 0 0 0).1))] ++ T14).length⟩, ⟨26, rd14, wr14, some ([cw (pl ((newP 10 80 0 0 0 0).1))] ++ T10).length⟩, ⟨14, rd10, wr10, some ([cw (pl ((newP 10 80 0 0 0 0).1))] ++ T5).length⟩] (by kernel_rfl) rfl rfl (d_sp (b := !((atS (loseY (dlvS (dlvS (dlvS (tickS (nyS ((newP 10 80 0 0 0 0).1) 2)) 0 false) 0 false) 0 false) 0).l 0).2)) 78 rfl (fun k20 => ?_) (fun q => by rw [(by kernel_rfl : (!((atS (loseY (dlvS (dlvS (dlvS (tickS (nyS ((newP 10 80 0 0 0 0).1) 2)) 0 false) 0 false) 0 false) 0).l 0).2)) = true)] at q; cases q))
 refine d_n 1 39 _ [(79, pv 1 0)] ([cw (pl ((newP 10 80 0 0 0 0).1))] ++ T18) [⟨34, rd18, wr18, some ([cw (pl ((newP 10 80 0 0 0 0).1))] ++ T16).length⟩, ⟨30, rd16, wr16, some ([cw (pl ((newP 10 80 0 0 0 0).1))] ++ T14).length⟩, ⟨26, rd14, wr14, some ([cw (pl ((newP 10 80 0 0 0 0).1))] ++ T10).length⟩, ⟨14, rd10, wr10, some ([cw (pl ((newP 10 80 0 0 0 0).1))] ++ T5).length⟩] (by kernel_rfl) rfl rfl (d_unguard rfl (d_clS (fits_alone (x := ⟨39, [], [], none⟩) (by kernel_rfl)) (YPoolF H hY18q (spl rfl fun T20 hY20q => fun rd20 wr20 hw20 => ?_))))
 refine d_unguard rfl (d_ldF (v := poolV ((newP 10 80 0 0 0 0).1)) rfl rfl (pl_all ((newP 10 80 0 0 0 0).1)) (fits_ld (by decide) hw20 (by simp) (fun y hy => .inr (fits_alone (x := ⟨40, [], [], none⟩) (by kernel_rfl) y hy))) ?_)
 refine d_unguard rfl (d_s rfl rfl rfl (by kernel_rfl) (by refine run_eqa (a := ⟨pl ((loseY (loseY (dlvS (dlvS (dlvS (tickS (nyS ((newP 10 80 0 0 0 0).1) 2)) 0 false) 0 false) 0 false) 0) 0).x.p)⟩) (b := ⟨pl ((newP 10 80 0 0 0 0).1)⟩) (r := eqP ((loseY (loseY (dlvS (dlvS (dlvS (tickS (nyS ((newP 10 80 0 0 0 0).1) 2)) 0 false) 0 false) 0 false) 0) 0).x.p) ((newP 10 80 0 0 0 0).1)) (R := eqP ((loseY (loseY (dlvS (dlvS (dlvS (tickS (nyS ((newP 10 80 0 0 0 0).1) 2)) 0 false) 0 false) 0 false) 0) 0).x.p) ((newP 10 80 0 0 0 0).1)) ?_ rfl; exact eqP_run ((loseY (loseY (dlvS (dlvS (dlvS (tickS (nyS ((newP 10 80 0 0 0 0).1) 2)) 0 false) 0 false) 0 false) 0) 0).x.p) ((newP 10 80 0 0 0 0).1) rfl rfl) ?_)
 refine d_n 2 44 _ [(0, bv (eqP ((loseY (loseY (dlvS (dlvS (dlvS (tickS (nyS ((newP 10 80 0 0 0 0).1) 2)) 0 false) 0 false) 0 false) 0) 0).x.p) ((newP 10 80 0 0 0 0).1))), (83, bv (eqP ((loseY (loseY (dlvS (dlvS (dlvS (tickS (nyS ((newP 10 80 0 0 0 0).1) 2)) 0 false) 0 false) 0 false) 0) 0).x.p) ((newP 10 80 0 0 0 0).1)))] ([cw (pl ((newP 10 80 0 0 0 0).1))] ++ T20) [⟨40, [0], [], none⟩, ⟨39, rd20, wr20, some ([cw (pl ((newP 10 80 0 0 0 0).1))] ++ T18).length⟩, ⟨34, rd18, wr18, some ([cw (pl ((newP 10 80 0 0 0 0).1))] ++ T16).length⟩, ⟨30, rd16, wr16, some ([cw (pl ((newP 10 80 0 0 0 0).1))] ++ T14).length⟩, ⟨26, rd14, wr14, some ([cw (pl ((newP 10 80 0 0 0 0).1))] ++ T10).length⟩, ⟨14, rd10, wr10, some ([cw (pl ((newP 10 80 0 0 0 0).1))] ++ T5).length⟩] (by kernel_rfl) rfl rfl (d_nil (seq_regs [(0, bv (eqP ((loseY (loseY (dlvS (dlvS (dlvS (tickS (nyS ((newP 10 80 0 0 0 0).1) 2)) 0 false) 0 false) 0 false) 0) 0).x.p) ((newP 10 80 0 0 0 0).1)))] (by kernel_rfl) (gret ?_)))
 have E0_ : (eqP ((loseY (loseY (dlvS (dlvS (dlvS (tickS (nyS ((newP 10 80 0 0 0 0).1) 2)) 0 false) 0 false) 0 false) 0) 0).x.p) ((newP 10 80 0 0 0 0).1)) = true := by
  kernel_rfl
 exact fin_ans [bv (eqP ((loseY (loseY (dlvS (dlvS (dlvS (tickS (nyS ((newP 10 80 0 0 0 0).1) 2)) 0 false) 0 false) 0 false) 0) 0).x.p) ((newP 10 80 0 0 0 0).1))] (resV_t rfl rfl) rfl (by rw [E0_]; rfl) rfl rfl
end Go.Rh

set_option maxHeartbeats 8000000
namespace Go.Rh
end Go.Rh

namespace Go.Rh
theorem go_quiet {x : HS} (h : x.w = [] ∨ allW x.hd (x.p 0) = false) : goS x = x := by
  unfold goS
  rcases h with h | h
  · split
    · unfold pubS; rw [h]
    · rfl
  · rw [h]; rfl
theorem send_quiet {x : HS} (h : x.w = [] ∨ allW x.hd (x.p 0) = false) : sendS x = (x, notesTo x x.hd.length) := by
  unfold sendS; rw [go_quiet h]
theorem lk_at {hd : List (Int × Int)} {u : Nat} (h : u < hd.length) : lkS hd (u : Nat) = (hd.getD u (0, 0), true) := by
  unfold lkS; rw [if_pos ⟨by omega, by omega⟩]; rfl
theorem note_down {x : HS} {u : Nat} (hs : x.s = false) (h : (lkS x.hd (u : Nat)).1.2 < x.p 0) : noteS x u = some ⟨(u : Nat), (lkS x.hd (u : Nat)).1.1, x.p 0, true, false, e0, x.p⟩ := by
  unfold noteS
  simp only
  rw [if_neg (by omega), if_neg (by simp [hs])]
def rotE (a b : Int) : Ent := ⟨6, 0, 0, 0, 0, a, b⟩
def Rots (l : List Ent) : Prop := ∀ e ∈ l, ∃ a b, e = rotE a b
theorem Rots.nil : Rots [] := by intro e h; simp at h
theorem Rots.cons {a b : Int} {l : List Ent} (h : Rots l) : Rots (rotE a b :: l) := by
  intro e he
  rcases List.mem_cons.1 he with rfl | he
  · exact ⟨_, _, rfl⟩
  · exact h e he
theorem Rots.app {l m : List Ent} (h : Rots l) (h2 : Rots m) : Rots (l ++ m) := by
  intro e he
  rcases List.mem_append.1 he with he | he
  · exact h e he
  · exact h2 e he
theorem Rots.one (a b : Int) : Rots [rotE a b] := Rots.nil.cons
def coldS (p : Flat) (u : Nat) (w : List Ent) : HS := ⟨p, w, List.replicate u (0, -1), e0, false⟩
theorem cold_new (p : Flat) {u : Int} : newHS p u = coldS p u.toNat [] := rfl
theorem cold_lk {u k : Nat} (h : k < u) : lkS (List.replicate u ((0 : Int), (-1 : Int))) (k : Nat) = ((0, -1), true) := by
  rw [lk_at (by simpa using h), List.getD_eq_getElem?_getD, List.getElem?_replicate, if_pos h]; rfl
theorem cold_all {p : Flat} (hp : 0 ≤ p 0) {u : Nat} (hu : 0 < u) : allW (List.replicate u (0, -1)) (p 0) = false := by
  obtain ⟨n, rfl⟩ : ∃ n, u = n + 1 := ⟨u - 1, by omega⟩
  simp [allW, List.replicate_succ]; omega
theorem cold_notes {p : Flat} (hp : 0 ≤ p 0) {u : Nat} {w : List Ent} : ∀ {n : Nat}, n ≤ u → notesTo (coldS p u w) n = (List.range n).map fun i => ⟨(i : Nat), 0, p 0, true, false, e0, p⟩
  | 0, _ => rfl
  | n + 1, h => by
    have hk : lkS (coldS p u w).hd (n : Nat) = ((0, -1), true) := cold_lk (by omega)
    rw [notesTo_some (note_down rfl (by rw [hk]; show (-1 : Int) < p 0; omega)), cold_notes hp (by omega), hk, List.range_succ, List.map_append]; rfl
theorem cold_send {p : Flat} (hp : 0 ≤ p 0) {u : Nat} (hu : 0 < u) {w : List Ent} : sendS (coldS p u w) = (coldS p u w, (List.range u).map fun i => ⟨(i : Nat), 0, p 0, true, false, e0, p⟩) := by
  rw [send_quiet (.inr (cold_all hp hu))]
  congr 1
  show notesTo (coldS p u w) (List.replicate u ((0 : Int), (-1 : Int))).length = _
  rw [List.length_replicate, cold_notes hp (Nat.le_refl u)]
def hdk (v : Int) (u k : Nat) : List (Int × Int) := List.replicate k (0, v) ++ List.replicate (u - k) (0, -1)
end Go.Rh

namespace Go.Rh
def wn (p : Flat) (u : Nat) : Nt := ⟨(u : Nat), 0, p 0, true, false, e0, p⟩
def an (p : Flat) (u : Int) : Nt := ⟨u, 0, p 0, false, true, e0, zeroP⟩
def dn : UP := ⟨zeroP, false, 0, nr0⟩
def up1 (p : Flat) : UP := ⟨p, true, 0, nr0⟩
theorem tick_new {p : Flat} (hp : 0 ≤ p 0) {n : Nat} (hn : 1 ≤ n) : tickS (nyS p n) = ⟨n, newHS p (n : Nat), fun _ => dn, (List.range n).map (wn p)⟩ := by
  have h := cold_send (p := p) hp (u := n) (by omega) (w := [])
  have e : newHS p (n : Nat) = coldS p n [] := by rw [cold_new]; simp
  show (⟨n, (sendS (newHS p (n : Nat))).1, fun _ => dn, [] ++ (sendS (newHS p (n : Nat))).2⟩ : YS) = _
  rw [e, h]; rfl
theorem hear_w {p : Flat} {u : Nat} (hp : 0 ≤ p 0) : hearU dn (wn p u) = up1 p := by
  have h : uhS zeroP false 0 (wn p u) = (p, true) := by
    unfold uhS
    rw [if_neg (by simp [wn]), if_pos ⟨rfl, by show verS zeroP false < p 0; simp [verS]; omega⟩]; rfl
  show (⟨(uhS zeroP false 0 (wn p u)).1, (uhS zeroP false 0 (wn p u)).2, 0, nr0⟩ : UP) = _
  rw [h]; rfl
theorem hear_w2 {p : Flat} {u : Nat} : hearU (up1 p) (wn p u) = up1 p := by
  have h : uhS p true 0 (wn p u) = (p, true) := by
    unfold uhS
    rw [if_neg (by simp [wn]), if_neg (by simp [wn, verS]), if_neg (by simp [wn])]
  show (⟨(uhS p true 0 (wn p u)).1, (uhS p true 0 (wn p u)).2, 0, nr0⟩ : UP) = _
  rw [h]; rfl
theorem ack_w {p : Flat} {u : Nat} {v : UP} (h : hearU v (wn p u) = up1 p) : ackN (wn p u).u v.b (uhS v.p v.is v.b (wn p u)) = ackN (u : Nat) v.b (p, true) := by
  have h1 : (uhS v.p v.is v.b (wn p u)) = (p, true) := by
    have e1 := congrArg UP.p h
    have e2 := congrArg UP.is h
    exact Prod.ext e1 e2
  rw [h1]; rfl
theorem atS_some {l : List Nt} {k : Nat} {x : Nt} (h : l[k]? = some x) : atS l (k : Nat) = (x, true) := by
  have hl := lt_of_getElem? h
  unfold atS
  rw [if_pos ⟨by omega, by omega⟩]
  simp [List.getD_eq_getElem?_getD, h]
theorem dlv_w {S : YS} {k : Nat} {p : Flat} {u : Nat} {keep : Bool} (h : S.l[k]? = some (wn p u)) (hh : hearU (S.us u) (wn p u) = up1 p) (hb : (S.us u).b = 0) :
    dlvS S (k : Nat) keep = { S with us := updU S.us u (up1 p), l := restS S.l (k : Nat) keep ++ [an p (u : Nat)] } := by
  unfold dlvS
  rw [atS_some h, if_pos rfl, if_neg (by simp [wn])]
  have e : (wn p u).u.toNat = u := by simp [wn]
  simp only [e]
  rw [hh, ack_w hh, hb]; rfl
theorem updU_at (us : Nat → UP) (u : Nat) (v : UP) : updU us u v u = v := if_pos rfl
theorem ver_at {S : YS} {u : Nat} (h : u < S.n) : verY S (u : Nat) = ((S.us u).p 0, (S.us u).is) := by
  unfold verY inU
  rw [if_pos (decide_eq_true ⟨by omega, by omega⟩)]
  simp
theorem twice {p : Flat} (hp : 0 ≤ p 0) {n i : Nat} (hn : 1 ≤ n) (hi : i < n) :
    (tickS (nyS p n)).l.length = n ∧ (atS (tickS (nyS p n)).l (i : Nat)).2 = true ∧ (atS (dlvS (tickS (nyS p n)) (i : Nat) true).l (i : Nat)).2 = true ∧ (atS (dlvS (dlvS (tickS (nyS p n)) (i : Nat) true) (i : Nat) true).l (i : Nat)).2 = true ∧
      verY (dlvS (dlvS (dlvS (tickS (nyS p n)) (i : Nat) true) (i : Nat) true) (i : Nat) false) (i : Nat) = (p 0, true) ∧ (dlvS (dlvS (dlvS (tickS (nyS p n)) (i : Nat) true) (i : Nat) true) (i : Nat) false).l.length = n - 1 + 3 := by
  rw [tick_new hp hn]
  have g0 : ((List.range n).map (wn p))[i]? = some (wn p i) := by simp [hi]
  have e1 := dlv_w (S := ⟨n, newHS p (n : Nat), fun _ => dn, (List.range n).map (wn p)⟩) (keep := true) g0 (hear_w hp) rfl
  rw [e1]
  have g1 : ((List.range n).map (wn p) ++ [an p (i : Nat)])[i]? = some (wn p i) := by rw [List.getElem?_append_left (by simp [hi])]; exact g0
  have e2 := dlv_w (S := ⟨n, newHS p (n : Nat), updU (fun _ => dn) i (up1 p), (List.range n).map (wn p) ++ [an p (i : Nat)]⟩) (keep := true) g1 (by simp only [updU_at]; exact hear_w2) (by simp only [updU_at]; rfl)
  have r1 : restS ((List.range n).map (wn p)) (i : Nat) true = (List.range n).map (wn p) := rfl
  simp only [r1]
  rw [e2]
  have g2 : ((List.range n).map (wn p) ++ [an p (i : Nat)] ++ [an p (i : Nat)])[i]? = some (wn p i) := by rw [List.getElem?_append_left (by simp; omega)]; exact g1
  have e3 := dlv_w (S := ⟨n, newHS p (n : Nat), updU (updU (fun _ => dn) i (up1 p)) i (up1 p), (List.range n).map (wn p) ++ [an p (i : Nat)] ++ [an p (i : Nat)]⟩) (keep := false) g2 (by simp only [updU_at]; exact hear_w2) (by simp only [updU_at]; rfl)
  have r2 : restS ((List.range n).map (wn p) ++ [an p (i : Nat)]) (i : Nat) true = (List.range n).map (wn p) ++ [an p (i : Nat)] := rfl
  simp only [r2]
  rw [e3]
  refine ⟨by simp, by rw [atS_some g0], by rw [atS_some g1], by rw [atS_some g2], ?_, ?_⟩
  · rw [ver_at (by exact hi)]
    simp only [updU_at]; rfl
  · show (restS _ _ _ ++ [_]).length = _
    unfold restS
    rw [if_neg (by simp)]
    simp only [Int.toNat_natCast, List.length_append, List.length_singleton]
    rw [List.length_eraseIdx_of_lt (by simp; omega)]
    simp; omega
theorem twiceI {p : Flat} (hp : 0 ≤ p 0) {n : Nat} {i : Int} (hn : 1 ≤ n) (hi : 0 ≤ i ∧ i < n) :
    (tickS (nyS p n)).l.length = n ∧ (atS (tickS (nyS p n)).l i).2 = true ∧ (atS (dlvS (tickS (nyS p n)) i true).l i).2 = true ∧ (atS (dlvS (dlvS (tickS (nyS p n)) i true) i true).l i).2 = true ∧
      verY (dlvS (dlvS (dlvS (tickS (nyS p n)) i true) i true) i false) i = (p 0, true) ∧ (dlvS (dlvS (dlvS (tickS (nyS p n)) i true) i true) i false).l.length = n - 1 + 3 := by
  obtain ⟨j, rfl⟩ : ∃ j : Nat, i = (j : Nat) := ⟨i.toNat, by omega⟩
  exact twice hp hn (by omega)
theorem tick_lenN {p : Flat} (hp : 0 ≤ p 0) {n : Nat} (hn : 1 ≤ n) : (tickS (nyS p n)).l.length = n := by rw [tick_new hp hn]; simp
end Go.Rh

set_option maxHeartbeats 8000000
namespace Go.Rh
def c_law12_YardTwice : IFunc :=
  ⟨84, [.tmp 6], (.seq (.reg [⟨(some 6), .mv (.c (.bool false)), none⟩]) (.seq (.seq (.reg [⟨(some 17), .call "roundhouse/roundhouselaw12.known" [], none⟩, ⟨(some 18), .un .not (.t 17), none⟩]) (.cond (.t 18) (.seq (.reg [⟨(some 6), .mv (.c (.bool false)), none⟩]) .ret) .skip)) (.seq (.reg [⟨(some 19), .mv (.t 0), none⟩, ⟨(some 20), .call "roundhouse/roundhouselaw6.Make" [(.t 19), (.c (.int .i64 30))], none⟩, ⟨(some 7), .new [(324, (.int .i64 0)), (6, (.int .u64 0))], none⟩, ⟨none, .st 330 (.t 7) (.t 20), none⟩]) (.seq (.reg [⟨(some 21), .mv (.t 1), none⟩, ⟨(some 22), .call "roundhouse/roundhouselaw12.within" [(.t 21), (.c (.int .i64 4))], none⟩, ⟨(some 23), .bin .add (.c (.int .i64 1)) (.t 22), none⟩, ⟨(some 8), .mv (.t 23), none⟩]) (.seq (.reg [⟨(some 25), .ld (some 330) (.t 7), none⟩, ⟨(some 26), .mv (.t 8), none⟩, ⟨(some 27), .call "roundhouse/yard.New" [(.t 25), (.t 26)], none⟩, ⟨(some 24), .mv (.t 27), none⟩, ⟨(some 28), .ext 0 (.t 24), none⟩, ⟨(some 29), .ext 1 (.t 24), none⟩, ⟨(some 9), .mv (.t 28), none⟩, ⟨(some 10), .mv (.t 29), none⟩]) (.seq (.seq (.reg [⟨(some 30), .mv (.t 10), none⟩, ⟨(some 31), .bin .neq (.t 30) (.c (.int .i64 0)), none⟩, ⟨(some 32), .mv (.t 31), none⟩, ⟨(some 33), .mv (.t 9), some (32, false)⟩, ⟨(some 34), .eqn false .ptr (.t 33) (.c (.pointer none)), some (32, false)⟩, ⟨(some 35), .pick (.t 32) (.c (.bool true)) (.t 34), none⟩, ⟨(some 36), .mv (.t 35), none⟩, ⟨(some 37), .mv (.t 9), some (36, false)⟩, ⟨(some 38), .call "(*roundhouse/yard.Yard).Tick" [(.t 37)], some (36, false)⟩, ⟨(some 39), .mv (.t 8), some (36, false)⟩, ⟨(some 40), .bin .neq (.t 38) (.t 39), some (36, false)⟩, ⟨(some 41), .pick (.t 36) (.c (.bool true)) (.t 40), none⟩]) (.cond (.t 41) (.seq (.reg [⟨(some 6), .mv (.c (.bool false)), none⟩]) .ret) .skip)) (.seq (.reg [⟨(some 42), .mv (.t 2), none⟩, ⟨(some 43), .mv (.t 8), none⟩, ⟨(some 44), .call "roundhouse/roundhouselaw12.within" [(.t 42), (.t 43)], none⟩, ⟨(some 11), .mv (.t 44), none⟩]) (.seq (.reg [⟨(some 45), .mv (.t 9), none⟩, ⟨(some 46), .mv (.t 11), none⟩, ⟨(some 47), .call "(*roundhouse/yard.Yard).Deliver" [(.t 45), (.t 46), (.c (.bool true))], none⟩, ⟨(some 48), .mv (.t 9), none⟩, ⟨(some 49), .mv (.t 11), none⟩, ⟨(some 50), .call "(*roundhouse/yard.Yard).Deliver" [(.t 48), (.t 49), (.c (.bool true))], none⟩, ⟨(some 51), .mv (.t 9), none⟩, ⟨(some 52), .mv (.t 11), none⟩, ⟨(some 53), .call "(*roundhouse/yard.Yard).Deliver" [(.t 51), (.t 52), (.c (.bool false))], none⟩, ⟨(some 12), .mv (.t 47), none⟩, ⟨(some 13), .mv (.t 50), none⟩, ⟨(some 14), .mv (.t 53), none⟩]) (.seq (.reg [⟨(some 55), .mv (.t 9), none⟩, ⟨(some 56), .mv (.t 11), none⟩, ⟨(some 57), .call "(*roundhouse/yard.Yard).Version" [(.t 55), (.t 56)], none⟩, ⟨(some 54), .mv (.t 57), none⟩, ⟨(some 58), .ext 0 (.t 54), none⟩, ⟨(some 59), .ext 1 (.t 54), none⟩, ⟨(some 15), .mv (.t 58), none⟩, ⟨(some 16), .mv (.t 59), none⟩]) (.seq (.reg [⟨(some 60), .mv (.t 12), none⟩, ⟨(some 61), .mv (.t 60), none⟩, ⟨(some 62), .mv (.t 13), some (61, true)⟩, ⟨(some 63), .pick (.t 61) (.t 62) (.c (.bool false)), none⟩, ⟨(some 64), .mv (.t 63), none⟩, ⟨(some 65), .mv (.t 14), some (64, true)⟩, ⟨(some 66), .pick (.t 64) (.t 65) (.c (.bool false)), none⟩, ⟨(some 67), .mv (.t 66), none⟩, ⟨(some 68), .mv (.t 16), some (67, true)⟩, ⟨(some 69), .pick (.t 67) (.t 68) (.c (.bool false)), none⟩, ⟨(some 70), .mv (.t 69), none⟩, ⟨(some 71), .mv (.t 15), some (70, true)⟩, ⟨(some 72), .fad 0 (.t 7), some (70, true)⟩, ⟨(some 73), .ld none (.t 72), some (70, true)⟩, ⟨(some 74), .bin .eql (.t 71) (.t 73), some (70, true)⟩, ⟨(some 75), .pick (.t 70) (.t 74) (.c (.bool false)), none⟩, ⟨(some 76), .mv (.t 75), none⟩, ⟨(some 77), .mv (.t 9), some (76, true)⟩, ⟨(some 78), .call "(*roundhouse/yard.Yard).Notes" [(.t 77)], some (76, true)⟩, ⟨(some 79), .mv (.t 8), some (76, true)⟩, ⟨(some 80), .bin .sub (.t 79) (.c (.int .i64 1)), some (76, true)⟩, ⟨(some 81), .bin .add (.t 80) (.c (.int .i64 3)), some (76, true)⟩, ⟨(some 82), .bin .eql (.t 78) (.t 81), some (76, true)⟩, ⟨(some 83), .pick (.t 76) (.t 82) (.c (.bool false)), none⟩, ⟨(some 6), .mv (.t 83), none⟩]) .ret))))))))))⟩
theorem YardTwiceC {P : Program} (hc : codeOf P "roundhouse/roundhouselaw12.YardTwice" = some c_law12_YardTwice) (h_law12_known : codeOf P "roundhouse/roundhouselaw12.known" = some c_law12_known) (h_ref6_New : k_ref6_New P) (h_ref6_out : k_ref6_out P) (h_ref5_Ring : k_ref5_Ring P) (h_yard_Yard_Notes : k_yard_Yard_Notes P) (h_yard_Yard_Pool : k_yard_Yard_Pool P) (h_head_Head_Pool : k_head_Head_Pool P) (h_yard_Yard_Wish : k_yard_Yard_Wish P) (h_head_Head_Wish : k_head_Head_Wish P) (h_head_Head_waiting : k_head_Head_waiting P) (h_pool_All : k_pool_All P) (h_pool_Apply : k_pool_Apply P) (h_pool_may : k_pool_may P) (h_pool_held : k_pool_held P) (h_pool_fits : k_pool_fits P) (h_pool_Check : k_pool_Check P) (h_pool_placed : k_pool_placed P) (h_cookie_Next : k_cookie_Next P) (h_yard_Yard_Tick : k_yard_Yard_Tick P) (h_head_Head_Send : k_head_Head_Send P) (h_head_Head_all : k_head_Head_all P) (h_head_Head_publish : k_head_Head_publish P) (h_yard_row_head_Note_put : k_yard_row_head_Note_put P) (h_yard_Yard_Lose : k_yard_Yard_Lose P) (h_yard_row_head_Note_at : k_yard_row_head_Note_at P) (h_yard_row_head_Note_drop : k_yard_row_head_Note_drop P) (h_yard_Yard_Version : k_yard_Yard_Version P) (h_yard_row_yard_unit_at : k_yard_row_yard_unit_at P) (h_plane_Plane_Version : k_plane_Plane_Version P) (h_yard_Yard_Crash : k_yard_Yard_Crash P) (h_plane_Plane_Crash : k_plane_Plane_Crash P) (h_yard_Yard_Deliver : k_yard_Yard_Deliver P) (h_head_Head_Heard : k_head_Head_Heard P) (h_yard_unit_hear : k_yard_unit_hear P) (h_yard_unit_version : k_yard_unit_version P) (h_yard_unit_load : k_yard_unit_load P) (h_plane_Plane_Load : k_plane_Plane_Load P) (h_plane_maybe_api_Pool_lay : k_plane_maybe_api_Pool_lay P) (h_wheel_Make : k_wheel_Make P) (h_wheel_spun : k_wheel_spun P) (h_sip_Words : k_sip_Words P) (h_sip_Of : k_sip_Of P) (h_sip_number_byte : k_sip_number_byte P) (h_sip_state_take : k_sip_state_take P) (h_sip_state_rounds : k_sip_state_rounds P) (h_sip_state_round : k_sip_state_round P) (h_math_bits_RotateLeft64 : k_math_bits_RotateLeft64 P) (h_head_New : k_head_New P) (h_plane_New : k_plane_New P) (h_yard_New : k_yard_New P) (h_yard_row_yard_unit_put : k_yard_row_yard_unit_put P) (h_law6_Make : codeOf P "roundhouse/roundhouselaw6.Make" = some c_law6_Make) (h_law5_Key : k_law5_Key P) (h_law6_Entry : k_law6_Entry P) (h_law6_within : k_law6_within P) (h_ref6_Apply : k_ref6_Apply P) (h_ref6_Check : k_ref6_Check P) (h_ref6_bad : k_ref6_bad P) (h_ref6_Held : k_ref6_Held P) (h_ref5_Next : k_ref5_Next P) (h_law12_within : codeOf P "roundhouse/roundhouselaw12.within" = some c_law12_within) (o : Option Nat) (ns : List Int) (hnns : o = none → ns = []) (hl : (ns.length : Int) ≤ 9223372036854775807) (units k : Int) :
    Env P "roundhouse/roundhouselaw12.YardTwice" [inV o 0 ns.length, iv units, iv k] ([inB o (ii ns)]) (Ans (.bool true) ([inB o (ii ns)])) := by
 refine Env.by hc ?_
 unfold c_law12_YardTwice
 show GC _ 1 _ _ ⟨reg [(0, inV o 0 ns.length), (1, iv units), (2, iv k)], [inB o (ii ns)]⟩
 have H : YCode P := ⟨h_yard_Yard_Notes, h_yard_Yard_Pool, h_head_Head_Pool, h_yard_Yard_Wish, h_head_Head_Wish, h_head_Head_waiting, h_pool_All, h_pool_Apply, h_pool_may, h_pool_held, h_pool_fits, h_pool_Check, h_pool_placed, h_cookie_Next, h_yard_Yard_Tick, h_head_Head_Send, h_head_Head_all, h_head_Head_publish, h_yard_row_head_Note_put, h_yard_Yard_Lose, h_yard_row_head_Note_at, h_yard_row_head_Note_drop, h_yard_Yard_Version, h_yard_row_yard_unit_at, h_plane_Plane_Version, h_yard_Yard_Crash, h_plane_Plane_Crash, h_yard_Yard_Deliver, h_head_Head_Heard, h_yard_unit_hear, h_yard_unit_version, h_yard_unit_load, h_plane_Plane_Load, h_plane_maybe_api_Pool_lay, h_wheel_Make, h_wheel_spun, h_sip_Words, h_sip_Of, h_sip_number_byte, h_sip_state_take, h_sip_state_rounds, h_sip_state_round, h_math_bits_RotateLeft64, h_head_New, h_plane_New, h_yard_New, h_yard_row_yard_unit_put⟩
 refine gseq (greg (o_d 1 [(6, bv false)] (by kernel_rfl) (o_nil (seq_go (gseq (gseq ?_))))))
 refine greg (o_cl (callV (known12C h_law12_known h_ref6_New h_ref6_out h_ref5_Ring h_yard_Yard_Notes h_yard_Yard_Pool h_head_Head_Pool h_yard_Yard_Wish h_head_Head_Wish h_head_Head_waiting h_pool_All h_pool_Apply h_pool_may h_pool_held h_pool_fits h_pool_Check h_pool_placed h_cookie_Next h_yard_Yard_Tick h_head_Head_Send h_head_Head_all h_head_Head_publish h_yard_row_head_Note_put h_yard_Yard_Lose h_yard_row_head_Note_at h_yard_row_head_Note_drop h_yard_Yard_Version h_yard_row_yard_unit_at h_plane_Plane_Version h_yard_Yard_Crash h_plane_Plane_Crash h_yard_Yard_Deliver h_head_Head_Heard h_yard_unit_hear h_yard_unit_version h_yard_unit_load h_plane_Plane_Load h_plane_maybe_api_Pool_lay h_wheel_Make h_wheel_spun h_sip_Words h_sip_Of h_sip_number_byte h_sip_state_take h_sip_state_rounds h_sip_state_round h_math_bits_RotateLeft64 h_head_New h_plane_New h_yard_New h_yard_row_yard_unit_put) rfl rfl rfl (o_d 1 [(18, bv false)] (by kernel_rfl) (o_nil (seq_go (gfalse rfl ?_))))))
 refine gskip (seq_go (gseq (greg (o_d 1 [(19, inV o 0 ns.length)] (by kernel_rfl) (o_cl (callRO_K (callIn 0 (MakeC h_law6_Make h_law5_Key h_ref6_New h_ref6_out h_ref5_Ring h_law6_Entry h_law6_within h_ref6_Apply h_ref6_Check h_ref6_bad h_ref6_Held h_ref5_Next o ns hnns hl 30 (by omega)) rfl (ii_scl _) rfl rfl (poolV_vpf _) ?_)))))))
 have I0 := makeS_inv ns (k := 30) (by omega)
 have hpv := I0.ver
 generalize makeS ns 30 = p at I0 hpv ⊢
 refine o_b 1 [(7, pv 1 0)] [inB o (ii ns), cw (pl zeroP)] (by kernel_rfl) (o_s0 (by refine run_st (c' := pl p) rfl rfl rfl ?_ ?_ ?_; exact pl_length _; exact pl_le (by omega); exact splice_pl0 zeroP p) ?_)
 refine o_nil (seq_go (gseq (greg (o_d 1 [(21, iv units)] (by kernel_rfl) (o_cl (callV (within12C h_law12_within units 4 (by decide)) rfl rfl rfl ?_))))))
 have w1 := within_lt units (n := 4) (by decide)
 refine o_s (by refine run_val (v := .int .i64 (i64.wrap (1 + (withinS units 4)))) (congrArg (Value.int .i64) (w64 (by omega) (by omega))) ?_; kernel_rfl) ?_
 refine o_d 1 [(8, iv (1 + (withinS units 4)))] (by kernel_rfl) (o_nil (seq_go (gseq (greg (o_s (by refine run_ld (v := poolV p) rfl rfl ?_; exact pl_all p) ?_)))))
 refine o_d 1 [(26, iv (1 + (withinS units 4)))] (by kernel_rfl) (o_cl (YNewK H p (1 + (withinS units 4)) (fun q => absurd q (by omega)) (fun T1 hu1 hY1q => ?_)))
 have hY1 : YP (fun k => 2 ≤ k) 2 (nyS p (1 + (withinS units 4)).toNat) ([inB o (ii ns), cw (pl p)] ++ T1) := hY1q
 refine (ex_eq (nyS p (1 + (withinS units 4)).toNat)).elim fun S3 hS4 => ?_
 have hY5 := hS4.symm ▸ hY1
 have ok6 : YOK S3 := hS4 ▸ (ok_nyS p (by omega) (by omega))
 have ln7 : S3.l.length ≤ 0 := hS4 ▸ Nat.zero_le _
 refine o_d 5 [(10, iv 0), (9, pv 2 0), (29, iv 0), (28, pv 2 0), (24, .tuple #[pv 2 0, iv 0])] (by kernel_rfl) (o_nil (seq_go (gseq (gseq (greg (o_d 8 [(37, pv 2 0), (36, bv false), (35, bv false), (34, bv false), (33, pv 2 0), (32, bv false), (31, bv false), (30, iv 0)] (by kernel_rfl) ?_))))))
 refine o_unguard rfl (o_cl (YTickK H hY5 (by omega) (by rw [ok6.hd]; have := ok6.n; omega)  (spl rfl fun T7 hY7q => ?_)))
 refine (ex_eq (tickS S3)).elim fun S9 hS10 => ?_
 have hY11 := hS10.symm ▸ hY7q
 have ok12 : YOK S9 := hS10 ▸ (ok_tick ok6)
 have ln13 : S9.l.length ≤ S3.l.length + 16 := hS10 ▸ tick_len ok6
 refine o_d 3 [(41, bv ((((tickS S3).l.length : Nat) : Int) != (1 + (withinS units 4)))), (40, bv ((((tickS S3).l.length : Nat) : Int) != (1 + (withinS units 4)))), (39, iv (1 + (withinS units 4)))] (by kernel_rfl) (o_nil (seq_regs [(41, bv ((((tickS S3).l.length : Nat) : Int) != (1 + (withinS units 4)))), (9, pv 2 0), (8, iv (1 + (withinS units 4))), (7, pv 1 0), (2, iv k)] (by kernel_rfl) (gcond (t := (((tickS S3).l.length : Nat) : Int) != (1 + (withinS units 4))) rfl (fun q => by rw [(by subst hS4 hS10; rw [tick_lenN hpv.1 (by omega)]; exact bne_eq_false_iff_eq.2 (by omega) : ((((tickS S3).l.length : Nat) : Int) != (1 + (withinS units 4))) = false)] at q; cases q) (fun _ => ?_))))
 refine gskip (seq_go (gseq (greg (o_d 2 [(43, iv (1 + (withinS units 4))), (42, iv k)] (by kernel_rfl) (o_cl (callV (within12C h_law12_within k (1 + (withinS units 4)) (by omega)) rfl rfl rfl ?_))))))
 have w14 := within_lt k (n := 1 + (withinS units 4)) (by omega)
 refine o_d 1 [(11, iv (withinS k (1 + (withinS units 4))))] (by kernel_rfl) (o_nil (seq_go (gseq (greg (o_d 2 [(46, iv (withinS k (1 + (withinS units 4)))), (45, pv 2 0)] (by kernel_rfl) (o_cl (YDeliverK H hY11 (by omega) ok12.nok (withinS k (1 + (withinS units 4))) true (spl rfl fun T14 hY14q => ?_))))))))
 refine (ex_eq (dlvS S9 (withinS k (1 + (withinS units 4))) true)).elim fun S16 hS17 => ?_
 have hY18 := hS17.symm ▸ hY14q
 have ok19 : YOK S16 := hS17 ▸ (ok_dlv ok12 _ _)
 have ln20 : S16.l.length ≤ S9.l.length + 1 := hS17 ▸ dlv_len _ _ _
 refine o_d 2 [(49, iv (withinS k (1 + (withinS units 4)))), (48, pv 2 0)] (by kernel_rfl) (o_cl (YDeliverK H hY18 (by omega) ok19.nok (withinS k (1 + (withinS units 4))) true (spl rfl fun T20 hY20q => ?_)))
 refine (ex_eq (dlvS S16 (withinS k (1 + (withinS units 4))) true)).elim fun S22 hS23 => ?_
 have hY24 := hS23.symm ▸ hY20q
 have ok25 : YOK S22 := hS23 ▸ (ok_dlv ok19 _ _)
 have ln26 : S22.l.length ≤ S16.l.length + 1 := hS23 ▸ dlv_len _ _ _
 refine o_d 2 [(52, iv (withinS k (1 + (withinS units 4)))), (51, pv 2 0)] (by kernel_rfl) (o_cl (YDeliverK H hY24 (by omega) ok25.nok (withinS k (1 + (withinS units 4))) false (spl rfl fun T26 hY26q => ?_)))
 refine (ex_eq (dlvS S22 (withinS k (1 + (withinS units 4))) false)).elim fun S28 hS29 => ?_
 have hY30 := hS29.symm ▸ hY26q
 have ok31 : YOK S28 := hS29 ▸ (ok_dlv ok25 _ _)
 have ln32 : S28.l.length ≤ S22.l.length + 1 := hS29 ▸ dlv_len _ _ _
 refine o_d 3 [(14, bv ((atS S22.l (withinS k (1 + (withinS units 4)))).2)), (13, bv ((atS S16.l (withinS k (1 + (withinS units 4)))).2)), (12, bv ((atS S9.l (withinS k (1 + (withinS units 4)))).2))] (by kernel_rfl) (o_nil (seq_go (gseq (greg (o_d 2 [(56, iv (withinS k (1 + (withinS units 4)))), (55, pv 2 0)] (by kernel_rfl) (o_cl (YVersionK H hY30  (withinS k (1 + (withinS units 4))) (spl rfl fun T32 hY32q => ?_))))))))
 refine o_d 5 [(16, bv ((verY S28 (withinS k (1 + (withinS units 4)))).2)), (15, iv ((verY S28 (withinS k (1 + (withinS units 4)))).1)), (59, bv ((verY S28 (withinS k (1 + (withinS units 4)))).2)), (58, iv ((verY S28 (withinS k (1 + (withinS units 4)))).1)), (54, .tuple #[iv ((verY S28 (withinS k (1 + (withinS units 4)))).1), bv ((verY S28 (withinS k (1 + (withinS units 4)))).2)])] (by kernel_rfl) (o_nil (seq_regs [(16, bv ((verY S28 (withinS k (1 + (withinS units 4)))).2)), (15, iv ((verY S28 (withinS k (1 + (withinS units 4)))).1)), (14, bv ((atS S22.l (withinS k (1 + (withinS units 4)))).2)), (13, bv ((atS S16.l (withinS k (1 + (withinS units 4)))).2)), (12, bv ((atS S9.l (withinS k (1 + (withinS units 4)))).2)), (9, pv 2 0), (8, iv (1 + (withinS units 4))), (7, pv 1 0)] (by kernel_rfl) (gseq (greg (o_d 2 [(61, bv ((atS S9.l (withinS k (1 + (withinS units 4)))).2)), (60, bv ((atS S9.l (withinS k (1 + (withinS units 4)))).2))] (by kernel_rfl) (o_sp (b := (atS S9.l (withinS k (1 + (withinS units 4)))).2) 61 rfl (fun k34 => ?_) (fun q => by rw [(by subst hS4 hS10 hS17 hS23 hS29; exact (twiceI (p := p) (n := (1 + (withinS units 4)).toNat) (i := (withinS k (1 + (withinS units 4)))) hpv.1 (by omega) (by omega)).2.1 : ((atS S9.l (withinS k (1 + (withinS units 4)))).2) = true)] at q; cases q)))))))
 refine o_d 3 [(64, bv ((atS S16.l (withinS k (1 + (withinS units 4)))).2)), (63, bv ((atS S16.l (withinS k (1 + (withinS units 4)))).2)), (62, bv ((atS S16.l (withinS k (1 + (withinS units 4)))).2))] (by kernel_rfl) (o_sp (b := (atS S16.l (withinS k (1 + (withinS units 4)))).2) 64 rfl (fun k35 => ?_) (fun q => by rw [(by subst hS4 hS10 hS17 hS23 hS29; exact (twiceI (p := p) (n := (1 + (withinS units 4)).toNat) (i := (withinS k (1 + (withinS units 4)))) hpv.1 (by omega) (by omega)).2.2.1 : ((atS S16.l (withinS k (1 + (withinS units 4)))).2) = true)] at q; cases q))
 refine o_d 3 [(67, bv ((atS S22.l (withinS k (1 + (withinS units 4)))).2)), (66, bv ((atS S22.l (withinS k (1 + (withinS units 4)))).2)), (65, bv ((atS S22.l (withinS k (1 + (withinS units 4)))).2))] (by kernel_rfl) (o_sp (b := (atS S22.l (withinS k (1 + (withinS units 4)))).2) 67 rfl (fun k36 => ?_) (fun q => by rw [(by subst hS4 hS10 hS17 hS23 hS29; exact (twiceI (p := p) (n := (1 + (withinS units 4)).toNat) (i := (withinS k (1 + (withinS units 4)))) hpv.1 (by omega) (by omega)).2.2.2.1 : ((atS S22.l (withinS k (1 + (withinS units 4)))).2) = true)] at q; cases q))
 refine o_d 3 [(70, bv ((verY S28 (withinS k (1 + (withinS units 4)))).2)), (69, bv ((verY S28 (withinS k (1 + (withinS units 4)))).2)), (68, bv ((verY S28 (withinS k (1 + (withinS units 4)))).2))] (by kernel_rfl) (o_sp (b := (verY S28 (withinS k (1 + (withinS units 4)))).2) 70 rfl (fun k37 => ?_) (fun q => by rw [(by subst hS4 hS10 hS17 hS23 hS29; rw [(twiceI (p := p) (n := (1 + (withinS units 4)).toNat) (i := (withinS k (1 + (withinS units 4)))) hpv.1 (by omega) (by omega)).2.2.2.2.1] : ((verY S28 (withinS k (1 + (withinS units 4)))).2) = true)] at q; cases q))
 refine o_d 2 [(72, pv 1 0), (71, iv ((verY S28 (withinS k (1 + (withinS units 4)))).1))] (by kernel_rfl) (o_unguard rfl (o_s (by refine run_ld (v := iv (p 0)) rfl rfl ?_; exact pl_r p 0 rfl (by omega)) ?_))
 refine o_d 3 [(76, bv (((verY S28 (withinS k (1 + (withinS units 4)))).1) == (p 0))), (75, bv (((verY S28 (withinS k (1 + (withinS units 4)))).1) == (p 0))), (74, bv (((verY S28 (withinS k (1 + (withinS units 4)))).1) == (p 0)))] (by kernel_rfl) (o_sp (b := ((verY S28 (withinS k (1 + (withinS units 4)))).1) == (p 0)) 76 rfl (fun k38 => ?_) (fun q => by rw [(by subst hS4 hS10 hS17 hS23 hS29; rw [(twiceI (p := p) (n := (1 + (withinS units 4)).toNat) (i := (withinS k (1 + (withinS units 4)))) hpv.1 (by omega) (by omega)).2.2.2.2.1]; exact beq_self_eq_true _ : (((verY S28 (withinS k (1 + (withinS units 4)))).1) == (p 0)) = true)] at q; cases q))
 refine o_d 1 [(77, pv 2 0)] (by kernel_rfl) (o_unguard rfl (o_cl (YNotesK H hY32q   (spl rfl fun T38 hY38q => ?_))))
 refine o_d 1 [(79, iv (1 + (withinS units 4)))] (by kernel_rfl) (o_unguard rfl (o_s (by refine run_val (v := .int .i64 (i64.wrap (1 + (withinS units 4) - 1))) (congrArg (Value.int .i64) (w64 (by omega) (by omega))) ?_; kernel_rfl) ?_))
 refine o_unguard rfl (o_s (by refine run_val (v := .int .i64 (i64.wrap (1 + (withinS units 4) - 1 + 3))) (congrArg (Value.int .i64) (w64 (by omega) (by omega))) ?_; kernel_rfl) ?_)
 refine o_d 3 [(6, bv (((S28.l.length : Nat) : Int) == (1 + (withinS units 4) - 1 + 3))), (83, bv (((S28.l.length : Nat) : Int) == (1 + (withinS units 4) - 1 + 3))), (82, bv (((S28.l.length : Nat) : Int) == (1 + (withinS units 4) - 1 + 3)))] (by kernel_rfl) (o_nil (seq_regs [(6, bv (((S28.l.length : Nat) : Int) == (1 + (withinS units 4) - 1 + 3)))] (by kernel_rfl) (gret ?_)))
 have E0_ : (((S28.l.length : Nat) : Int) == (1 + (withinS units 4) - 1 + 3)) = true := by
  have h9 := (twiceI (p := p) (n := (1 + (withinS units 4)).toNat) (i := (withinS k (1 + (withinS units 4)))) hpv.1 (by omega) (by omega)).2.2.2.2.2
  refine beq_iff_eq.2 ?_
  subst hS4 hS10 hS17 hS23 hS29
  omega
 exact fin_ans [bv (((S28.l.length : Nat) : Int) == (1 + (withinS units 4) - 1 + 3))] (resV_t rfl rfl) rfl (by rw [E0_]; rfl) rfl (show List.all [inB o (ii ns)] blkf = true from (all_cons (inB_gone _ (ii_scl ns)) rfl))
end Go.Rh
