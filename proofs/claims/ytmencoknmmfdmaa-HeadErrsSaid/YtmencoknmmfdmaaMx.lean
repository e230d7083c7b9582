/- The proofs over the intermediate form, part Mx. -/
import Derived.Test.YtmencoknmmfdmaaMc
set_option linter.unusedSimpArgs false
set_option linter.unusedVariables false
namespace Go.Rh
section
variable {C : CallT} {un : Nat → Nat → Bool} {K : St → Prop} {L : List (Nat × Value)} {h : List Blk} {i nid : Nat} {log : List Foot}
theorem o_snd {c x : Opd} {r : List ICell} {k n : Nat} {b b2 : List Value} {v : Value} (hc : evf (reg L) c = .chan (some k)) (hh : hf h k = some (.chan n b)) (hv : evf (reg L) x = v) (hl : b.length < n) (ht : isTup v = false) (hb : b ++ [v] = b2) (hk : GO C r K ⟨reg L, h.set k (.chan n b2)⟩) : GO C (⟨none, .snd c x, none⟩ :: r) K ⟨reg L, h⟩ := by
  refine ⟨?_⟩
  show sndK (evf (reg L) c) (evf (reg L) x) (fun v e => (fun v h => wpOps C r K ⟨putf (reg L) (none) v, h⟩) v (e.on h)) (hf h)
  subst hb
  rw [hc, hv]
  simp only [sndK, hh]
  exact ⟨hl, ht, hk.out⟩

theorem d_snd {c x : Opd} {r : List ICell} {k n : Nat} {b b2 : List Value} {v : Value} (hc : evf (reg L) c = .chan (some k)) (hh : hf h k = some (.chan n b)) (hv : evf (reg L) x = v) (hl : b.length < n) (ht : isTup v = false) (hb : b ++ [v] = b2) (hk : GD C un (i + 1) nid r log K ⟨reg L, h.set k (.chan n b2)⟩) : GD C un i nid (⟨none, .snd c x, none⟩ :: r) log K ⟨reg L, h⟩ := by
  refine ⟨?_⟩
  show sndK (evf (reg L) c) (evf (reg L) x) (fun v e => (fun v h => wpD C un (annot (i + 1) nid r) log K ⟨putf (reg L) (none) v, h⟩) v (e.on h)) (hf h)
  subst hb
  rw [hc, hv]
  simp only [sndK, hh]
  exact ⟨hl, ht, hk.out⟩

theorem o_rcv {d : Nat} {c : Opd} {r : List ICell} {k n : Nat} {b : List Value} {v : Value} (hc : evf (reg L) c = .chan (some k)) (hh : hf h k = some (.chan n (v :: b))) (hk : GO C r K ⟨reg ((d, v) :: L), h.set k (.chan n b)⟩) : GO C (⟨some d, .rcv c, none⟩ :: r) K ⟨reg L, h⟩ := by
  refine ⟨?_⟩
  show rcvK (evf (reg L) c) (fun v e => (fun v h => wpOps C r K ⟨putf (reg L) (some d) v, h⟩) v (e.on h)) (hf h)
  rw [hc]
  simp only [rcvK, hh]
  exact hk.out

theorem d_rcv {d : Nat} {c : Opd} {r : List ICell} {k n : Nat} {b : List Value} {v : Value} (hc : evf (reg L) c = .chan (some k)) (hh : hf h k = some (.chan n (v :: b))) (hk : GD C un (i + 1) nid r log K ⟨reg ((d, v) :: L), h.set k (.chan n b)⟩) : GD C un i nid (⟨some d, .rcv c, none⟩ :: r) log K ⟨reg L, h⟩ := by
  refine ⟨?_⟩
  show rcvK (evf (reg L) c) (fun v e => (fun v h => wpD C un (annot (i + 1) nid r) log K ⟨putf (reg L) (some d) v, h⟩) v (e.on h)) (hf h)
  rw [hc]
  simp only [rcvK, hh]
  exact hk.out

theorem o_sel1 {d : Nat} {z : RL} {agg : Bool} {c : Opd} {r : List ICell} {k n : Nat} {b : List Value} {v : Value} (hc : evf (reg L) c = .chan (some k)) (hh : hf h k = some (.chan n (v :: b))) (hk : GO C r K ⟨reg ((d, .tuple #[.int .i64 0, .bool true, v]) :: L), h.set k (.chan n b)⟩) : GO C (⟨some d, .sel1 z agg c, none⟩ :: r) K ⟨reg L, h⟩ := by
  refine ⟨?_⟩
  show selK z agg (evf (reg L) c) (fun v e => (fun v h => wpOps C r K ⟨putf (reg L) (some d) v, h⟩) v (e.on h)) (hf h)
  rw [hc]
  simp only [selK, hh]
  exact hk.out

theorem d_sel1 {d : Nat} {z : RL} {agg : Bool} {c : Opd} {r : List ICell} {k n : Nat} {b : List Value} {v : Value} (hc : evf (reg L) c = .chan (some k)) (hh : hf h k = some (.chan n (v :: b))) (hk : GD C un (i + 1) nid r log K ⟨reg ((d, .tuple #[.int .i64 0, .bool true, v]) :: L), h.set k (.chan n b)⟩) : GD C un i nid (⟨some d, .sel1 z agg c, none⟩ :: r) log K ⟨reg L, h⟩ := by
  refine ⟨?_⟩
  show selK z agg (evf (reg L) c) (fun v e => (fun v h => wpD C un (annot (i + 1) nid r) log K ⟨putf (reg L) (some d) v, h⟩) v (e.on h)) (hf h)
  rw [hc]
  simp only [selK, hh]
  exact hk.out

theorem o_sel0 {d : Nat} {z : RL} {agg : Bool} {c : Opd} {r : List ICell} {k n : Nat} {zv : Value} (hc : evf (reg L) c = .chan (some k)) (hh : hf h k = some (.chan n [])) (hz : zeroV z agg = some zv) (hk : GO C r K ⟨reg ((d, .tuple #[.int .i64 (-1), .bool false, zv]) :: L), h⟩) : GO C (⟨some d, .sel1 z agg c, none⟩ :: r) K ⟨reg L, h⟩ := by
  refine ⟨?_⟩
  show selK z agg (evf (reg L) c) (fun v e => (fun v h => wpOps C r K ⟨putf (reg L) (some d) v, h⟩) v (e.on h)) (hf h)
  rw [hc]
  simp only [selK, hh, hz]
  exact hk.out

theorem d_sel0 {d : Nat} {z : RL} {agg : Bool} {c : Opd} {r : List ICell} {k n : Nat} {zv : Value} (hc : evf (reg L) c = .chan (some k)) (hh : hf h k = some (.chan n [])) (hz : zeroV z agg = some zv) (hk : GD C un (i + 1) nid r log K ⟨reg ((d, .tuple #[.int .i64 (-1), .bool false, zv]) :: L), h⟩) : GD C un i nid (⟨some d, .sel1 z agg c, none⟩ :: r) log K ⟨reg L, h⟩ := by
  refine ⟨?_⟩
  show selK z agg (evf (reg L) c) (fun v e => (fun v h => wpD C un (annot (i + 1) nid r) log K ⟨putf (reg L) (some d) v, h⟩) v (e.on h)) (hf h)
  rw [hc]
  simp only [selK, hh, hz]
  exact hk.out

theorem o_rng {d : Nat} {c : Opd} {r : List ICell} {k : Nat} {es : List (Value × Value)} (hc : evf (reg L) c = .map (some k)) (hh : hf h k = some (.map es)) (hk : GO C r K ⟨reg ((d, pv h.length 0) :: L), h ++ [.iter k es.length []]⟩) : GO C (⟨some d, .rng c, none⟩ :: r) K ⟨reg L, h⟩ := by
  refine ⟨?_⟩
  show rngK (evf (reg L) c) (fun v e => (fun v h => wpOps C r K ⟨putf (reg L) (some d) v, h⟩) v (e.on h)) (hf h) h.length
  rw [hc]
  simp only [rngK, hh]
  exact hk.out

theorem d_rng {d : Nat} {c : Opd} {r : List ICell} {k : Nat} {es : List (Value × Value)} (hc : evf (reg L) c = .map (some k)) (hh : hf h k = some (.map es)) (hk : GD C un (i + 1) nid r log K ⟨reg ((d, pv h.length 0) :: L), h ++ [.iter k es.length []]⟩) : GD C un i nid (⟨some d, .rng c, none⟩ :: r) log K ⟨reg L, h⟩ := by
  refine ⟨?_⟩
  show rngK (evf (reg L) c) (fun v e => (fun v h => wpD C un (annot (i + 1) nid r) log K ⟨putf (reg L) (some d) v, h⟩) v (e.on h)) (hf h) h.length
  rw [hc]
  simp only [rngK, hh]
  exact hk.out

theorem o_nxt {d : Nat} {c : Opd} {r : List ICell} {k m : Nat} {es : List (Value × Value)} {seen : List Nat} (hc : evf (reg L) c = pv k 0) (hh : hf h k = some (.iter m es.length seen)) (hm : hf h m = some (.map es)) (h0 : (∀ i, i < es.length → i ∈ seen) → GO C r K ⟨reg ((d, .tuple #[.bool false]) :: L), h⟩) (h1 : ∀ (j : Nat) (e : Value × Value), j ∉ seen → es[j]? = some e → GO C r K ⟨reg ((d, .tuple #[.bool true, e.1, e.2]) :: L), h.set k (.iter m es.length (seen ++ [j]))⟩) : GO C (⟨some d, .nxt c, none⟩ :: r) K ⟨reg L, h⟩ := by
  refine ⟨?_⟩
  show nxtK (evf (reg L) c) (fun v e => (fun v h => wpOps C r K ⟨putf (reg L) (some d) v, h⟩) v (e.on h)) (hf h)
  rw [hc]
  simp only [nxtK, pv, hh, hm]
  exact ⟨trivial, fun q => (h0 q).out, fun j e q1 q2 => (h1 j e q1 q2).out⟩

theorem d_nxt {d : Nat} {c : Opd} {r : List ICell} {k m : Nat} {es : List (Value × Value)} {seen : List Nat} (hc : evf (reg L) c = pv k 0) (hh : hf h k = some (.iter m es.length seen)) (hm : hf h m = some (.map es)) (h0 : (∀ i, i < es.length → i ∈ seen) → GD C un (i + 1) nid r log K ⟨reg ((d, .tuple #[.bool false]) :: L), h⟩) (h1 : ∀ (j : Nat) (e : Value × Value), j ∉ seen → es[j]? = some e → GD C un (i + 1) nid r log K ⟨reg ((d, .tuple #[.bool true, e.1, e.2]) :: L), h.set k (.iter m es.length (seen ++ [j]))⟩) : GD C un i nid (⟨some d, .nxt c, none⟩ :: r) log K ⟨reg L, h⟩ := by
  refine ⟨?_⟩
  show nxtK (evf (reg L) c) (fun v e => (fun v h => wpD C un (annot (i + 1) nid r) log K ⟨putf (reg L) (some d) v, h⟩) v (e.on h)) (hf h)
  rw [hc]
  simp only [nxtK, pv, hh, hm]
  exact ⟨trivial, fun q => (h0 q).out, fun j e q1 q2 => (h1 j e q1 q2).out⟩

theorem o_ent {d : Nat} {c : Opd} {r : List ICell} {k m j : Nat} {es : List (Value × Value)} {e : Value × Value} {seen : List Nat} (hc : evf (reg L) c = pv k 0) (hh : hf h k = some (.iter m es.length (seen ++ [j]))) (hm : hf h m = some (.map es)) (he : es[j]? = some e) (hk : GO C r K ⟨reg ((d, .tuple #[e.1, e.2]) :: L), h⟩) : GO C (⟨some d, .ent c, none⟩ :: r) K ⟨reg L, h⟩ := by
  refine ⟨?_⟩
  show entK (evf (reg L) c) (fun v e => (fun v h => wpOps C r K ⟨putf (reg L) (some d) v, h⟩) v (e.on h)) (hf h)
  rw [hc]
  simp only [entK, pv, hh, hm, List.getLast?_append, List.getLast?_singleton, Option.some_or, he]
  exact ⟨trivial, hk.out⟩

theorem d_ent {d : Nat} {c : Opd} {r : List ICell} {k m j : Nat} {es : List (Value × Value)} {e : Value × Value} {seen : List Nat} (hc : evf (reg L) c = pv k 0) (hh : hf h k = some (.iter m es.length (seen ++ [j]))) (hm : hf h m = some (.map es)) (he : es[j]? = some e) (hk : GD C un (i + 1) nid r log K ⟨reg ((d, .tuple #[e.1, e.2]) :: L), h⟩) : GD C un i nid (⟨some d, .ent c, none⟩ :: r) log K ⟨reg L, h⟩ := by
  refine ⟨?_⟩
  show entK (evf (reg L) c) (fun v e => (fun v h => wpD C un (annot (i + 1) nid r) log K ⟨putf (reg L) (some d) v, h⟩) v (e.on h)) (hf h)
  rw [hc]
  simp only [entK, pv, hh, hm, List.getLast?_append, List.getLast?_singleton, Option.some_or, he]
  exact ⟨trivial, hk.out⟩
end
end Go.Rh

set_option linter.unusedSimpArgs false
set_option linter.unusedVariables false
namespace Go.Rh
section
variable {P : Program} {C : CallT}
def wpF2 (C : CallT) (c : IFunc) (args : List Value) (h : List Blk) (R : Post) : Prop :=
  wpC C h.length c.body (fun ex s => (match ex with | .exit _ => False | .goto _ => False | _ => True) ∧ ∃ s0, Wk h.length s s0 ∧ ∃ l, resV s0 c.res = some l ∧ (∀ v ∈ l, isTup v = false) ∧ R (one l) s0.h) ⟨reg (argL 0 args), h⟩
theorem wpF2_sound (hC : Sound P C) {f : FuncId} {fn : Func} {c : IFunc} {args : List Value} {h : List Blk} {R : Post} (hf' : P.funcs[f]? = some fn) (hc : cFunc P fn = some c) (hwp : wpF2 C c args h R) : ACalls P f args h R := by
  unfold cFunc at hc
  split at hc <;> try cases hc
  rename_i body res hb hres
  split at hc <;> cases hc
  rename_i hwf
  intro w φ args' H hl hargs
  refine calls_of_wp hf' hb ?_
  refine wp_mono (wpC_sound (n := fn.ntmps) (h0 := h) (w0 := w) (φ0 := φ) hC H body _ _ w hwf ⟨φ, _, hwp, ?_⟩) ?_
  · refine ⟨by simp; omega, fun t => ?_, rfl, H, FrC.refl _ _ _⟩
    simp only [Array.getD_eq_getD_getElem?]
    rcases argL_get args 0 t with h1 | ⟨v, h0, h1, h2⟩
    · rw [h1]; exact VR.junk
    · have ht := lt_of_getElem? h1
      have h3 : args'[t]? = some (args'[t]'(by omega)) := by simp [show t < args'.size by omega]
      rw [Array.getElem?_append_left (by omega), h2, h3]
      exact hargs t _ _ (by simpa using h1) h3
  · intro e a' w' he
    have fin : Sim fn.ntmps φ h w (fun s => ∃ s0, Wk h.length s s0 ∧ ∃ l, resV s0 res = some l ∧ (∀ v ∈ l, isTup v = false) ∧ R (one l) s0.h) a' w' →
        a'.defers = [] ∧ ∃ v, (results fn a'.tmps).run P w' = .ok v w' ∧ ∃ v0 v' h' φ', (Ending.returned v : Ending) = .returned v' ∧ R v0 h' ∧ VR φ' v0 v' ∧ HR φ' (hf h') w' ∧ FrC φ h w φ' h' w' := by
      intro hS
      obtain ⟨φ1, s, ⟨l, hl1, hl2, hR⟩, I⟩ := Sim.weak H hS
      obtain ⟨l', hr, hE⟩ := results_run I hres hl1
      refine ⟨I.defers, if h : l'.toArray.size = 1 then l'.toArray[0] else .tuple l'.toArray, ?_, ?_⟩
      · rw [results_eq]
        simp [Array.mapM_eq_mapM_toList, hr]
      · have hV : VR φ1 (one l) (if h : l'.toArray.size = 1 then l'.toArray[0] else .tuple l'.toArray) := by
          have hlen := hE.1
          unfold one
          split
          · rename_i v
            match l', hE with
            | [v'], hE => simpa using hE.2 0 v v' rfl rfl
            | [], hE => simp at hlen
            | _ :: _ :: _, hE => simp at hlen
          · rename_i hne
            have : ¬ l'.toArray.size = 1 := by
              intro h1
              have h2 : l.length = 1 := by rw [hlen]; simpa using h1
              match l, h2 with
              | [v], _ => exact hne v rfl
            rw [dif_neg this]
            exact ⟨l'.toArray, rfl, by simpa using hE.mono2 fun v v' hv hr => GR.of_VR (hl2 v hv) hr⟩
        exact ⟨_, _, _, φ1, rfl, hR, hV, I.heap, I.fr⟩
    cases e with
    | normal => exact fin (he.mono fun s h => h.2)
    | ret => exact fin (he.mono fun s h => h.2)
    | exit id => obtain ⟨_, _, ⟨h, _⟩, _⟩ := he; exact h.elim
    | goto l => obtain ⟨_, _, ⟨h, _⟩, _⟩ := he; exact h.elim
    | _ => exact he.elim
theorem Env.of2 {P : Program} {g : String} {c : IFunc} {args : List Value} {h : List Blk} {R : Post} (hc : codeOf P g = some c) (hwp : wpF2 (Env P) c args h R) : Env P g args h R := by
  intro f fn hf hn
  unfold codeOf at hc
  split at hc <;> try cases hc
  rename_i fn' hfl
  have hm : fn ∈ P.funcs.toList.filter (·.name == g) := List.mem_filter.2 ⟨by
    have := Array.mem_of_getElem? hf
    simpa using this, by simpa using hn⟩
  rw [hfl] at hm
  have : fn = fn' := by simpa using hm
  subst this
  exact wpF2_sound (Env.sound P) hf hc hwp
end
theorem Env.by2 {P : Program} {g : String} {c : IFunc} {args : List Value} {h : List Blk} {R : Post} (hc : codeOf P g = some c)
    (hg : GC (Env P) h.length c.body (fun ex s => (match ex with | .exit _ => False | .goto _ => False | _ => True) ∧ ∃ s0, Wk h.length s s0 ∧ ∃ l, resV s0 c.res = some l ∧ (∀ v ∈ l, isTup v = false) ∧ R (one l) s0.h) ⟨reg (argL 0 args), h⟩) : Env P g args h R := Env.of2 hc hg.out
end Go.Rh

set_option linter.unusedSimpArgs false
set_option linter.unusedVariables false
set_option maxRecDepth 100000
namespace Go.Rh
theorem partL_l {m : Option Nat} {a b : List Value} {o : Nat} {v : Value} (h : partL m a o = some v) : partL m (a ++ b) o = some v := by
  cases m with
  | none =>
    simp only [partL] at h ⊢
    have := lt_of_getElem? h
    rw [List.getElem?_append_left this]; exact h
  | some m =>
    simp only [partL] at h ⊢
    split at h
    · rename_i hl
      rw [if_pos (by simp; omega)]
      rw [← h, List.drop_append_of_le_length (by omega), List.take_append_of_le_length (by simp; omega)]
    · cases h
theorem partL_r {m : Option Nat} {a b : List Value} {n o : Nat} (ha : a.length = n) : partL m (a ++ b) (n + o) = partL m b o := by
  subst ha
  cases m with
  | none => simp only [partL]; rw [List.getElem?_append_right (by omega)]; congr 1; omega
  | some m =>
    simp only [partL, List.length_append]
    by_cases hl : o + m ≤ b.length
    · rw [if_pos (by omega), if_pos hl, List.drop_append, List.drop_eq_nil_of_le (by omega), show a.length + o - a.length = o by omega, List.nil_append]
    · rw [if_neg (by omega), if_neg hl]
theorem splice_l {a b vs : List Value} {o : Nat} (h : o + vs.length ≤ a.length) : splice (a ++ b) o vs = splice a o vs ++ b := by
  unfold splice
  rw [List.take_append_of_le_length (by omega), List.drop_append_of_le_length (by omega)]
  simp
theorem splice_r {a b vs : List Value} {n o : Nat} (ha : a.length = n) : splice (a ++ b) (n + o) vs = a ++ splice b o vs := by
  subst ha
  unfold splice
  rw [List.take_append, List.drop_append, List.take_of_length_le (by omega), List.drop_eq_nil_of_le (by omega), show a.length + o - a.length = o by omega, show a.length + o + vs.length - a.length = o + vs.length by omega]
  simp
/-! ### calls -/
def seenL (ρ : Nat → Nat) (h : List Blk) : List Nat → List Blk → Prop
  | k :: ks, b :: bs => (∃ b', h[k]? = some b' ∧ Blk.seen (renB ρ b) b') ∧ seenL ρ h ks bs
  | _, _ => True
theorem seenL_get {ρ : Nat → Nat} {h : List Blk} : ∀ {sel : List Nat} {bs : List Blk}, seenL ρ h sel bs → ∀ (i k : Nat) b1, sel[i]? = some k → bs[i]? = some b1 → ∃ b, h[k]? = some b ∧ Blk.seen (renB ρ b1) b
  | [], _, _, i, _, _, h1, _ => by simp at h1
  | _ :: _, [], _, i, _, _, _, h2 => by simp at h2
  | _ :: _, _ :: _, hb, 0, _, _, h1, h2 => by simp at h1 h2; subst h1; subst h2; exact hb.1
  | _ :: _, _ :: _, hb, i + 1, k, b, h1, h2 => seenL_get hb.2 i k b (by simpa using h1) (by simpa using h2)
def backL (sel : List Nat) (h1 : List Blk) (ρ : Nat → Nat) : Nat → List Blk → List Blk → Prop
  | k, b :: h, x :: xs => (match over k sel h1 with
    | some b' => renB ρ b'
    | none => b) = x ∧ backL sel h1 ρ (k + 1) h xs
  | _, [], [] => True
  | _, _, _ => False
def renL (ρ : Nat → Nat) : List Blk → List Blk → Prop
  | b :: r, x :: xs => renB ρ b = x ∧ renL ρ r xs
  | [], [] => True
  | _, _ => False
theorem renL_eq {ρ : Nat → Nat} : ∀ {l xs : List Blk}, renL ρ l xs → l.map (renB ρ) = xs
  | [], [], _ => rfl
  | _ :: _, _ :: _, h => by rw [List.map_cons, h.1, renL_eq h.2]
  | [], _ :: _, h => h.elim
  | _ :: _, [], h => h.elim
theorem backL_eq {sel : List Nat} {h1 : List Blk} {ρ : Nat → Nat} : ∀ {h xs : List Blk} {k : Nat}, backL sel h1 ρ k h xs → (h.mapIdx fun i b => match over (i + k) sel h1 with
    | some b' => renB ρ b'
    | none => b) = xs
  | [], [], _, _ => rfl
  | b :: h, x :: xs, k, q => by
    rw [List.mapIdx_cons]
    have h2 := backL_eq q.2
    have he : (fun (i : Nat) (b : Blk) => match over (i + 1 + k) sel h1 with | some b' => renB ρ b' | none => b) = fun i b => match over (i + (k + 1)) sel h1 with | some b' => renB ρ b' | none => b := by
      funext i b; rw [show i + 1 + k = i + (k + 1) by omega]
    rw [he, h2]
    have h3 := q.1
    rw [← h3, Nat.zero_add]
  | [], _ :: _, _, q => by simp [backL] at q
  | _ :: _, [], _, q => by simp [backL] at q
theorem back_of {sel : List Nat} {h1 : List Blk} {ρ : Nat → Nat} {h xs ys : List Blk} (h2 : backL sel h1 ρ 0 h xs) (h3 : renL ρ (h1.drop sel.length) ys) : back h sel h1 ρ = xs ++ ys := by
  unfold back
  rw [renL_eq h3]
  have := backL_eq h2
  simp only [Nat.add_zero] at this
  exact congrArg (· ++ ys) this
theorem nodup_ne {l : List Nat} (h : l.Nodup) {i j k : Nat} (hij : i ≠ j) (h1 : l[i]? = some k) (h2 : l[j]? = some k) : False := by
  have hi := lt_of_getElem? h1
  have hj := lt_of_getElem? h2
  rw [List.getElem?_eq_getElem hi] at h1
  rw [List.getElem?_eq_getElem hj] at h2
  have e : l[i] = l[j] := (Option.some.inj h1).trans (Option.some.inj h2).symm
  rcases Nat.lt_or_gt_of_ne hij with q | q
  · exact List.pairwise_iff_getElem.1 h i j hi hj q e
  · exact List.pairwise_iff_getElem.1 h j i hj hi q e.symm
def seesL (ρ : Nat → Nat) (h : List Blk) : List Nat → List Blk → Prop
  | k :: ks, b :: bs => (∃ b', h[k]? = some b' ∧ Blk.sees (renB ρ b) b') ∧ seesL ρ h ks bs
  | _, _ => True
theorem seesL_get {ρ : Nat → Nat} {h : List Blk} : ∀ {sel : List Nat} {bs : List Blk}, seesL ρ h sel bs → ∀ (i k : Nat) b1, sel[i]? = some k → bs[i]? = some b1 → ∃ b, h[k]? = some b ∧ Blk.sees (renB ρ b1) b
  | [], _, _, i, _, _, h1, _ => by simp at h1
  | _ :: _, [], _, i, _, _, _, h2 => by simp at h2
  | _ :: _, _ :: _, hb, 0, _, _, h1, h2 => by simp at h1 h2; subst h1; subst h2; exact hb.1
  | _ :: _, _ :: _, hb, i + 1, k, b, h1, h2 => seesL_get hb.2 i k b (by simpa using h1) (by simpa using h2)
theorem seesL_of {ρ : Nat → Nat} {h : List Blk} : ∀ {sel : List Nat} {bs : List Blk}, seenL ρ h sel bs → seesL ρ h sel bs
  | [], _, _ => by simp [seesL]
  | _ :: _, [], _ => by simp [seesL]
  | _ :: _, _ :: _, q => ⟨let ⟨b, h1, h2⟩ := q.1; ⟨b, h1, .inl h2⟩, seesL_of q.2⟩
theorem goneL_seen {ρ : Nat → Nat} {h : List Blk} {sel : List Nat} {h1 : List Blk} (hl : h1.length = sel.length) (hs : seenL ρ h sel h1) (h1' : List Blk) : goneL h1 h1' := by
  intro i hi
  have := lt_of_getElem? hi
  obtain ⟨b, _, hb⟩ := seenL_get hs i _ _ (List.getElem?_eq_getElem (show i < sel.length by omega)) hi
  exact absurd rfl (seen_gone hb).1
/-- A call of any function by its contract; rows may be nil: of what is gone the callee knows nothing. -/
theorem callN {C : CallT} {g : String} {vals : List Value} {K : Post} {h : List Blk} {R : Post} (sel : List Nat) (h1 : List Blk) (a1 : List Value) (hC : C g a1 h1 R) (hl : h1.length = sel.length) (ha : a1.map (renV (rho sel h.length)) = vals)
    (hs : seesL (rho sel h.length) h sel h1) (hd : sel.Nodup) (hK : ∀ v h1', R v h1' → goneL h1 h1' ∧ ∃ v' xs ys, renV (rho sel h.length) v = v' ∧ backL sel h1' (rho sel h.length) 0 h xs ∧ renL (rho sel h.length) (h1'.drop sel.length) ys ∧ K v' (xs ++ ys)) : CallK C g vals K h := by
  refine ⟨sel, h1, a1, R, hC, hl, ha, seesL_get hs, fun i j k b1 hij e1 e2 _ => ?_, fun v h1' hR _ _ => ?_⟩
  · exact (nodup_ne hd hij e1 e2).elim
  · obtain ⟨hg, v', xs, ys, e1, e2, e3, e4⟩ := hK v h1' hR
    rw [e1, back_of e2 e3]; exact ⟨hg, e4⟩
theorem callG {C : CallT} {g : String} {vals : List Value} {K : Post} {h : List Blk} {R : Post} (sel : List Nat) (h1 : List Blk) (a1 : List Value) (hC : C g a1 h1 R) (hl : h1.length = sel.length) (ha : a1.map (renV (rho sel h.length)) = vals)
    (hs : seenL (rho sel h.length) h sel h1) (hd : sel.Nodup) (hK : ∀ v h1', R v h1' → ∃ v' xs ys, renV (rho sel h.length) v = v' ∧ backL sel h1' (rho sel h.length) 0 h xs ∧ renL (rho sel h.length) (h1'.drop sel.length) ys ∧ K v' (xs ++ ys)) : CallK C g vals K h :=
  callN sel h1 a1 hC hl ha (seesL_of hs) hd fun v h1' q => ⟨goneL_seen hl hs h1', hK v h1' q⟩
section
variable {C : CallT} {un : Nat → Nat → Bool} {K : St → Prop} {L : List (Nat × Value)} {h : List Blk} {i nid : Nat} {log : List Foot}
theorem d_clN {d : Nat} {g : String} {args : List Opd} {r : List ICell} {R : Post} (sel : List Nat) (h1 : List Blk) (a1 : List Value) (hC : C g a1 h1 R) (hl : h1.length = sel.length) (ha : a1.map (renV (rho sel h.length)) = args.map (evf (reg L)))
    (hs : seesL (rho sel h.length) h sel h1) (hd : sel.Nodup) (hx : ∃ v h1', R v h1' ∧ sel.length ≤ h1'.length ∧ flagsL h1 h1')
    (hK : ∀ v h1', R v h1' → goneL h1 h1' ∧ ∃ v' xs ys, renV (rho sel h.length) v = v' ∧ backL sel h1' (rho sel h.length) 0 h xs ∧ renL (rho sel h.length) (h1'.drop sel.length) ys ∧ GD C un (i + 1) nid r (⟨i, sel, wrsel sel h1, some h.length⟩ :: log) K ⟨reg ((d, v') :: L), xs ++ ys⟩)
    (hfit : fitsB un ⟨i, sel, wrsel sel h1, some h.length⟩ log = true := by kernel_rfl) : GD C un i nid (⟨some d, .call g args, none⟩ :: r) log K ⟨reg L, h⟩ := by
  refine ⟨⟨sel, h1, a1, R, hC, hl, ha, seesL_get hs, fun i j k b1 hij e1 e2 _ => ?_, fitsB_spec hfit, hx, fun v h1' hR _ _ => ?_⟩⟩
  · exact (nodup_ne hd hij e1 e2).elim
  · obtain ⟨hg, v', xs, ys, e1, e2, e3, e4⟩ := hK v h1' hR
    rw [e1, back_of e2 e3]; exact ⟨hg, e4.out⟩
theorem d_clW {d : Nat} {g : String} {args : List Opd} {r : List ICell} {R : Post} (w : List Nat) (sel : List Nat) (h1 : List Blk) (a1 : List Value) (hC : C g a1 h1 R) (hw : wrsel sel h1 = w) (hl : h1.length = sel.length) (ha : a1.map (renV (rho sel h.length)) = args.map (evf (reg L)))
    (hs : seesL (rho sel h.length) h sel h1) (hd : sel.Nodup) (hx : ∃ v h1', R v h1' ∧ sel.length ≤ h1'.length ∧ flagsL h1 h1')
    (hK : ∀ v h1', R v h1' → goneL h1 h1' ∧ ∃ v' xs ys, renV (rho sel h.length) v = v' ∧ backL sel h1' (rho sel h.length) 0 h xs ∧ renL (rho sel h.length) (h1'.drop sel.length) ys ∧ GD C un (i + 1) nid r (⟨i, sel, w, some h.length⟩ :: log) K ⟨reg ((d, v') :: L), xs ++ ys⟩)
    (hfit : fitsB un ⟨i, sel, w, some h.length⟩ log = true := by kernel_rfl) : GD C un i nid (⟨some d, .call g args, none⟩ :: r) log K ⟨reg L, h⟩ := by
  subst hw; exact d_clN sel h1 a1 hC hl ha hs hd hx hK hfit
theorem d_clG {d : Nat} {g : String} {args : List Opd} {r : List ICell} {R : Post} (sel : List Nat) (h1 : List Blk) (a1 : List Value) (hC : C g a1 h1 R) (hl : h1.length = sel.length) (ha : a1.map (renV (rho sel h.length)) = args.map (evf (reg L)))
    (hs : seenL (rho sel h.length) h sel h1) (hd : sel.Nodup) (hx : ∃ v h1', R v h1' ∧ sel.length ≤ h1'.length ∧ flagsL h1 h1')
    (hK : ∀ v h1', R v h1' → ∃ v' xs ys, renV (rho sel h.length) v = v' ∧ backL sel h1' (rho sel h.length) 0 h xs ∧ renL (rho sel h.length) (h1'.drop sel.length) ys ∧ GD C un (i + 1) nid r (⟨i, sel, wrsel sel h1, some h.length⟩ :: log) K ⟨reg ((d, v') :: L), xs ++ ys⟩)
    (hfit : fitsB un ⟨i, sel, wrsel sel h1, some h.length⟩ log = true := by kernel_rfl) : GD C un i nid (⟨some d, .call g args, none⟩ :: r) log K ⟨reg L, h⟩ :=
  d_clN sel h1 a1 hC hl ha (seesL_of hs) hd hx (fun v h1' q => ⟨goneL_seen hl hs h1', hK v h1' q⟩) hfit
end
theorem d_s0m {C : CallT} {un : Nat → Nat → Bool} {K : St → Prop} {L : List (Nat × Value)} {h : List Blk} {i nid : Nat} {log : List Foot} {op : IOp} {r : List ICell} {h' : List Blk} {v : Value} (hsp : special op = 0) (hm : op.makes = false) (hw : ∃ kt m x y, op = .mup kt m x y) (hfit : fitsB un ⟨i, rdE op (evf (reg L)), rdE op (evf (reg L)), none⟩ log = true) (hr : runL [⟨none, op, none⟩] ⟨reg L, h⟩ = some ⟨putf (reg L) none v, h'⟩) (hk : GD C un (i + 1) nid r (addF ⟨i, rdE op (evf (reg L)), rdE op (evf (reg L)), none⟩ log) K ⟨reg L, h'⟩) : GD C un i nid (⟨none, op, none⟩ :: r) log K ⟨reg L, h⟩ := by
  obtain ⟨kt, m, x, y, rfl⟩ := hw
  obtain ⟨v1, e, hs, e2⟩ := run1_inv rfl hsp hr
  have e3 : h' = e.on h := congrArg St.h e2
  subst e3
  refine ⟨?_⟩
  show stepD C un ⟨i, nid, ⟨none, .mup kt m x y, none⟩⟩ log (fun log' s' => wpD C un (annot (i + 1) (if IOp.makes (.mup kt m x y) then nid + 1 else nid) r) log' K s') ⟨reg L, h⟩
  have hk := hk.out
  simp only [hm, if_false, Bool.false_eq_true]
  refine (stepD_det (fun _ => hsp)).2 ?_
  have hs' : stepE (.mup kt m x y) (evf (reg L)) (hf h) nid = some (v1, e) := by rw [stepE_nid (n := nid) (n' := h.length) hm]; exact hs
  have hset : ∃ k b, e = .set k b := by
    simp only [stepE] at hs
    (repeat' (split at hs)) <;> first | (cases hs; done) | (cases hs; exact ⟨_, _, rfl⟩)
  obtain ⟨k, b, rfl⟩ := hset
  have hkr : rdE (.mup kt m x y) (evf (reg L)) = [k] := by
    have h1 := stepE_set_rd hs
    simp only [rdE, IOp.rdl, List.flatMap_cons, List.flatMap_nil, List.append_nil] at h1 ⊢
    cases hx : evf (reg L) m with
    | map o => cases o with
      | none => rw [hx] at h1; simp [idsOf] at h1
      | some q => rw [hx] at h1; simp [idsOf] at h1 ⊢; exact h1.symm
    | _ => simp only [stepE, hx] at hs; (repeat' (split at hs)) <;> cases hs
  rw [hkr] at hfit hk
  refine ⟨⟨i, rdE (.mup kt m x y) (evf (reg L)), [k], none⟩, ⟨putf (reg L) none v1, h.set k b⟩, ?_, ?_, ?_⟩
  · simp [detD, gJ, want, hs']
  · rw [hkr]; exact fitsB_spec hfit
  · rw [hkr]; exact hk
theorem renV_tup {ρ : Nat → Nat} (l : List Value) : renV ρ (.tuple ⟨l⟩) = .tuple ⟨l.map (renG ρ)⟩ := by simp [renV]
theorem renG_agg {ρ : Nat → Nat} (l : List Value) : renG ρ (.agg ⟨l⟩) = .agg ⟨l.map (ren1 ρ)⟩ := by simp [renG]
theorem renV_agg {ρ : Nat → Nat} (l : List Value) : renV ρ (.agg ⟨l⟩) = .agg ⟨l.map (ren1 ρ)⟩ := by simp [renV, renG]
theorem cons_eq {a b : Value} {l m : List Value} (h : a = b) (h2 : l = m) : a :: l = b :: m := by rw [h, h2]
theorem seen_cells {ρ : Nat → Nat} {c : List Value} {rw rw' : Bool} (h : c.all sclf = true) (hr : rw = true → rw' = true) : Blk.seen (renB ρ (.cells c rw)) (.cells c rw') := by
  rw [renB_cells h]; exact ⟨rfl, hr⟩
theorem ren_slB2 {ρ : Nat → Nat} {z c : List Value} (o : Option Nat) (hc : ∀ m, (c ++ room z m).all sclf = true) : renB ρ (slB z c o) = slB z c o := (Option.some.inj (ren_slB (ρ := ρ) o hc)).symm
theorem sees_slB {ρ : Nat → Nat} {z c : List Value} (o : Option Nat) (hc : ∀ m, (c ++ room z m).all sclf = true) : Blk.sees (renB ρ (slB z c o)) (slB z c o) := by
  rw [ren_slB2 o hc]
  cases o with
  | none => exact .inr ⟨rfl, rfl⟩
  | some m => exact .inl ⟨rfl, fun q => q⟩
theorem flags_app (h l : List Blk) : flagsL h (h ++ l) := by
  intro i b b' e1 e2
  rw [List.getElem?_append_left (lt_of_getElem? e1), e1] at e2
  cases e2; rfl
/-- Nothing that was gone has come back. -/
theorem gone_cons {a a' : Blk} {h h' : List Blk} (h1 : a = .gone → a' = .gone) (h2 : goneL h h') : goneL (a :: h) (a' :: h') := by
  intro i hi
  cases i with
  | zero => simp at hi ⊢; exact h1 hi
  | succ i => simp at hi ⊢; exact h2 i hi
theorem gone_nil {h' : List Blk} : goneL [] h' := by intro i hi; simp at hi
theorem gone_refl (h l : List Blk) : goneL h (h ++ l) := by
  intro i hi; rw [List.getElem?_append_left (lt_of_getElem? hi)]; exact hi
theorem flags_of3 {a b c a' b' c' : Blk} (h1 : a'.rw = a.rw := by rfl) (h2 : b'.rw = b.rw := by rfl) (h3 : c'.rw = c.rw := by rfl) : flagsL [a, b, c] [a', b', c'] := by
  intro i x y e1 e2
  match i with
  | 0 => simp at e1 e2; subst e1; subst e2; exact h1
  | 1 => simp at e1 e2; subst e1; subst e2; exact h2
  | 2 => simp at e1 e2; subst e1; subst e2; exact h3
  | i + 3 => simp at e1
theorem quo_nn {a c : Int} (h : 0 ≤ a ∧ a ≤ 9223372036854775807) (hc : 0 < c) : IntKind.i64.wrap (a.tdiv c) = a / c := by
  have h1 : a.tdiv c = a / c := Int.tdiv_eq_ediv_of_nonneg h.1
  have h2 : 0 ≤ a / c := Int.ediv_nonneg h.1 (by omega)
  have h3 : a / c ≤ a := Int.ediv_le_self c h.1
  rw [h1, w64 (by omega) (by omega)]
theorem rem_nn {a c : Int} (h : 0 ≤ a) : a.tmod c = a % c := Int.tmod_eq_emod_of_nonneg h
theorem d_unguard {C : CallT} {un : Nat → Nat → Bool} {K : St → Prop} {L : List (Nat × Value)} {h : List Blk} {i nid : Nat} {log : List Foot} {d : Option Nat} {op : IOp} {g : Nat} {b : Bool} {r : List ICell} (hg : reg L g = .bool b) (hk : GD C un i nid (⟨d, op, none⟩ :: r) log K ⟨reg L, h⟩) : GD C un i nid (⟨d, op, some (g, b)⟩ :: r) log K ⟨reg L, h⟩ := by
  refine ⟨?_⟩
  have hk := hk.out
  simp only [annot, wpD, stepD, gJ, want, hg, beq_self_eq_true, if_true, Bool.false_eq_true, if_false] at hk ⊢
  exact hk
theorem flags_of31 {a b c a' b' c' d' : Blk} (h1 : a'.rw = a.rw := by rfl) (h2 : b'.rw = b.rw := by rfl) (h3 : c'.rw = c.rw := by rfl) : flagsL [a, b, c] [a', b', c', d'] := by
  intro i x y e1 e2
  match i with
  | 0 => simp at e1 e2; subst e1; subst e2; exact h1
  | 1 => simp at e1 e2; subst e1; subst e2; exact h2
  | 2 => simp at e1 e2; subst e1; subst e2; exact h3
  | i + 3 => simp at e1
theorem hf_sl {h : List Blk} {k n : Nat} {o : Option Nat} {z c : List Value} (hk : h[k]? = some (slB z c o)) (ho : o = none → n = 0) (hn : 0 < n) : hf h k = some (.cells (c ++ room z (o.getD 0)) true) := by
  cases o with
  | none => have := ho rfl; omega
  | some m => exact hf_some.2 ⟨hk, by simp [slB]⟩
theorem renV_slV2 {sel : List Nat} {n k k' m : Nat} (o : Option Nat) (h : rho sel n k = k') : renV (rho sel n) (slV k m o) = slV k' m o := renV_slV o h
theorem ren1_slV {ρ : Nat → Nat} {k k' n : Nat} (o : Option Nat) (h : ρ k = k') : ren1 ρ (slV k n o) = slV k' n o := by subst h; cases o <;> rfl
/-! ### a row behind a row -/
section
variable {C : CallT} {un : Nat → Nat → Bool} {pu : List String} {K : St → Prop} {L : List (Nat × Value)} {h : List Blk} {i nid : Nat} {log : List Foot}
theorem appR_k {K : Value → List Blk → Prop} {z : RL} {zl : List Value} {size bytes q : Nat} {s x : Opd} {k n : Nat} {o : Option Nat} {cs xs : List Value} {vx : Value}
    (hz : expand z = zl) (hzl : zl.length = size) (hs : evf (reg L) s = slV k n o) (hk : ∀ m, o = some m → hf h k = some (.cells (cs ++ room zl m) true)) (ho : o = none → n = 0 ∧ cs = []) (hcs : cs.length = n * size)
    (hx : evf (reg L) x = vx) (hq : lenV vx = some q) (hf1 : first (hf h) size q vx = some xs) (hxl : xs.length = q * size) (hb : 2 * (n + q) * bytes ≤ 2 ^ 48)
    (h3 : o = none → q = 0 → K (.slice none 0 0) h)
    (h1 : ∀ m, o = some (q + m) → K (sv k 0 (n + q) (n + q + m)) (h.set k (cw ((cs ++ xs) ++ room zl m))))
    (h2 : ∀ m, K (sv h.length 0 (n + q) (n + q + m)) (h ++ [cw ((cs ++ xs) ++ room zl m)])) : wpOp C (.app z size bytes s x) (reg L) h K := by
  rcases Nat.eq_zero_or_pos q with hq0 | hq0
  · subst hq0
    have hxs : xs = [] := List.eq_nil_of_length_eq_zero (by rw [hxl]; omega)
    subst hxs
    cases o with
    | none => exact app00_k hs hx hq hf1 (h3 rfl rfl)
    | some m =>
      have hkm := hk m rfl
      refine app0_k (m := m) hs hx hq hf1 hkm hcs ?_
      have hl := (hf_some.1 hkm).1
      have := h1 m (by simp)
      have e : h.set k (cw ((cs ++ []) ++ room zl m)) = h := by
        refine List.ext_getElem? fun j => ?_
        rw [List.getElem?_set]
        by_cases hj : k = j
        · subst hj; rw [if_pos rfl, if_pos (lt_of_getElem? hl), hl, List.append_nil]
        · rw [if_neg hj]
      rw [e] at this
      exact this
  · exact app_k hz hzl ⟨rfl, hs⟩ hk ho hcs hx hq hf1 hxl hq0 hb h1 h2
theorem o_appR {d : Nat} {z : RL} {zl : List Value} {size bytes q : Nat} {s x : Opd} {r : List ICell} {k n : Nat} {o : Option Nat} {cs xs cs2 : List Value} {vx : Value}
    (hz : expand z = zl) (hzl : zl.length = size) (hs : evf (reg L) s = slV k n o) (hk : ∀ m, o = some m → hf h k = some (.cells (cs ++ room zl m) true)) (ho : o = none → n = 0 ∧ cs = []) (hcs : cs.length = n * size)
    (hx : evf (reg L) x = vx) (hq : lenV vx = some q) (hf1 : first (hf h) size q vx = some xs) (hxl : xs.length = q * size) (hb : 2 * (n + q) * bytes ≤ 2 ^ 48) (hc : cs ++ xs = cs2)
    (h3 : o = none → q = 0 → GO C r K ⟨reg ((d, .slice none 0 0) :: L), h⟩)
    (h1 : ∀ m, o = some (q + m) → GO C r K ⟨reg ((d, sv k 0 (n + q) (n + q + m)) :: L), h.set k (cw (cs2 ++ room zl m))⟩)
    (h2 : ∀ m, GO C r K ⟨reg ((d, sv h.length 0 (n + q) (n + q + m)) :: L), h ++ [cw (cs2 ++ room zl m)]⟩) : GO C (⟨some d, .app z size bytes s x, none⟩ :: r) K ⟨reg L, h⟩ := by
  subst hc
  refine ⟨?_⟩
  exact appR_k (C := C) (K := fun v h => wpOps C r K ⟨putf (reg L) (some d) v, h⟩) hz hzl hs hk ho hcs hx hq hf1 hxl hb (fun e1 e2 => (h3 e1 e2).out) (fun m e => (h1 m e).out) (fun m => (h2 m).out)
theorem o_app0' {d : Nat} {z : RL} {size bytes : Nat} {s x : Opd} {r : List ICell} {vx : Value} {k n m : Nat} {cs rr : List Value} {rw : Bool} (hs : evf (reg L) s = sv k 0 n (n + m)) (hx : evf (reg L) x = vx) (hq : lenV vx = some 0) (hf1 : first (hf h) size 0 vx = some []) (hh : hf h k = some (.cells (cs ++ rr) rw)) (hcs : cs.length = n * size) (hk : GO C r K ⟨reg ((d, sv k 0 n (n + m)) :: L), h⟩) : GO C (⟨some d, .app z size bytes s x, none⟩ :: r) K ⟨reg L, h⟩ :=
  ⟨app0_k (C := C) (K := fun v h => wpOps C r K ⟨putf (reg L) (some d) v, h⟩) hs hx hq hf1 hh hcs hk.out⟩
theorem o_app00' {d : Nat} {z : RL} {size bytes : Nat} {s x : Opd} {r : List ICell} {vx : Value} (hs : evf (reg L) s = .slice none 0 0) (hx : evf (reg L) x = vx) (hq : lenV vx = some 0) (hf1 : first (hf h) size 0 vx = some []) (hk : GO C r K ⟨reg ((d, .slice none 0 0) :: L), h⟩) : GO C (⟨some d, .app z size bytes s x, none⟩ :: r) K ⟨reg L, h⟩ :=
  ⟨app00_k (C := C) (K := fun v h => wpOps C r K ⟨putf (reg L) (some d) v, h⟩) hs hx hq hf1 hk.out⟩
theorem r_appR {d : Nat} {z : RL} {zl : List Value} {size bytes q : Nat} {s x : Opd} {r : List ICell} {k n : Nat} {o : Option Nat} {cs xs cs2 : List Value} {vx : Value}
    (hz : expand z = zl) (hzl : zl.length = size) (hs : evf (reg L) s = slV k n o) (hk : ∀ m, o = some m → hf h k = some (.cells (cs ++ room zl m) true)) (ho : o = none → n = 0 ∧ cs = []) (hcs : cs.length = n * size)
    (hx : evf (reg L) x = vx) (hq : lenV vx = some q) (hf1 : first (hf h) size q vx = some xs) (hxl : xs.length = q * size) (hb : 2 * (n + q) * bytes ≤ 2 ^ 48) (hc : cs ++ xs = cs2)
    (h3 : o = none → q = 0 → GE C pu r K ⟨reg ((d, .slice none 0 0) :: L), h⟩)
    (h1 : ∀ m, o = some (q + m) → GE C pu r K ⟨reg ((d, sv k 0 (n + q) (n + q + m)) :: L), h.set k (cw (cs2 ++ room zl m))⟩)
    (h2 : ∀ m, GE C pu r K ⟨reg ((d, sv h.length 0 (n + q) (n + q + m)) :: L), h ++ [cw (cs2 ++ room zl m)]⟩) : GE C pu (⟨some d, .app z size bytes s x, none⟩ :: r) K ⟨reg L, h⟩ := by
  subst hc
  refine ⟨?_⟩
  exact appR_k (C := C) (K := fun v h => wpR C pu r K ⟨putf (reg L) (some d) v, h⟩) hz hzl hs hk ho hcs hx hq hf1 hxl hb (fun e1 e2 => (h3 e1 e2).out) (fun m e => (h1 m e).out) (fun m => (h2 m).out)
theorem r_app0' {d : Nat} {z : RL} {size bytes : Nat} {s x : Opd} {r : List ICell} {vx : Value} {k n m : Nat} {cs rr : List Value} {rw : Bool} (hs : evf (reg L) s = sv k 0 n (n + m)) (hx : evf (reg L) x = vx) (hq : lenV vx = some 0) (hf1 : first (hf h) size 0 vx = some []) (hh : hf h k = some (.cells (cs ++ rr) rw)) (hcs : cs.length = n * size) (hk : GE C pu r K ⟨reg ((d, sv k 0 n (n + m)) :: L), h⟩) : GE C pu (⟨some d, .app z size bytes s x, none⟩ :: r) K ⟨reg L, h⟩ :=
  ⟨app0_k (C := C) (K := fun v h => wpR C pu r K ⟨putf (reg L) (some d) v, h⟩) hs hx hq hf1 hh hcs hk.out⟩
theorem r_app00' {d : Nat} {z : RL} {size bytes : Nat} {s x : Opd} {r : List ICell} {vx : Value} (hs : evf (reg L) s = .slice none 0 0) (hx : evf (reg L) x = vx) (hq : lenV vx = some 0) (hf1 : first (hf h) size 0 vx = some []) (hk : GE C pu r K ⟨reg ((d, .slice none 0 0) :: L), h⟩) : GE C pu (⟨some d, .app z size bytes s x, none⟩ :: r) K ⟨reg L, h⟩ :=
  ⟨app00_k (C := C) (K := fun v h => wpR C pu r K ⟨putf (reg L) (some d) v, h⟩) hs hx hq hf1 hk.out⟩
theorem d_appR {d : Nat} {z : RL} {zl : List Value} {size bytes q : Nat} {s x : Opd} {r : List ICell} {k n : Nat} {o : Option Nat} {cs xs cs2 : List Value} {vx : Value}
    (hz : expand z = zl) (hzl : zl.length = size) (hs : evf (reg L) s = slV k n o) (hk : ∀ m, o = some m → hf h k = some (.cells (cs ++ room zl m) true)) (ho : o = none → n = 0 ∧ cs = []) (hcs : cs.length = n * size)
    (hx : evf (reg L) x = vx) (hq : lenV vx = some q) (hf1 : first (hf h) size q vx = some xs) (hxl : xs.length = q * size) (hb : 2 * (n + q) * bytes ≤ 2 ^ 48) (hc : cs ++ xs = cs2)
    (h3 : o = none → q = 0 → GD C un (i + 1) nid r log K ⟨reg ((d, .slice none 0 0) :: L), h⟩)
    (h1 : ∀ m, o = some (q + m) → GD C un (i + 1) nid r log K ⟨reg ((d, sv k 0 (n + q) (n + q + m)) :: L), h.set k (cw (cs2 ++ room zl m))⟩)
    (h2 : ∀ m, GD C un (i + 1) nid r log K ⟨reg ((d, sv h.length 0 (n + q) (n + q + m)) :: L), h ++ [cw (cs2 ++ room zl m)]⟩) : GD C un i nid (⟨some d, .app z size bytes s x, none⟩ :: r) log K ⟨reg L, h⟩ := by
  subst hc
  refine ⟨?_⟩
  exact appR_k (C := C) (K := fun v h => wpD C un (annot (i + 1) nid r) log K ⟨putf (reg L) (some d) v, h⟩) hz hzl hs hk ho hcs hx hq hf1 hxl hb (fun e1 e2 => (h3 e1 e2).out) (fun m e => (h1 m e).out) (fun m => (h2 m).out)
theorem d_app0' {d : Nat} {z : RL} {size bytes : Nat} {s x : Opd} {r : List ICell} {vx : Value} {k n m : Nat} {cs rr : List Value} {rw : Bool} (hs : evf (reg L) s = sv k 0 n (n + m)) (hx : evf (reg L) x = vx) (hq : lenV vx = some 0) (hf1 : first (hf h) size 0 vx = some []) (hh : hf h k = some (.cells (cs ++ rr) rw)) (hcs : cs.length = n * size) (hk : GD C un (i + 1) nid r log K ⟨reg ((d, sv k 0 n (n + m)) :: L), h⟩) : GD C un i nid (⟨some d, .app z size bytes s x, none⟩ :: r) log K ⟨reg L, h⟩ :=
  ⟨app0_k (C := C) (K := fun v h => wpD C un (annot (i + 1) nid r) log K ⟨putf (reg L) (some d) v, h⟩) hs hx hq hf1 hh hcs hk.out⟩
theorem d_app00' {d : Nat} {z : RL} {size bytes : Nat} {s x : Opd} {r : List ICell} {vx : Value} (hs : evf (reg L) s = .slice none 0 0) (hx : evf (reg L) x = vx) (hq : lenV vx = some 0) (hf1 : first (hf h) size 0 vx = some []) (hk : GD C un (i + 1) nid r log K ⟨reg ((d, .slice none 0 0) :: L), h⟩) : GD C un i nid (⟨some d, .app z size bytes s x, none⟩ :: r) log K ⟨reg L, h⟩ :=
  ⟨app00_k (C := C) (K := fun v h => wpD C un (annot (i + 1) nid r) log K ⟨putf (reg L) (some d) v, h⟩) hs hx hq hf1 hk.out⟩
end
theorem flags_cons {a a' : Blk} {h h' : List Blk} (h1 : a'.rw = a.rw) (h2 : flagsL h h') : flagsL (a :: h) (a' :: h') := by
  intro i x y e1 e2
  cases i with
  | zero => simp at e1 e2; subst e1; subst e2; exact h1
  | succ i => simp at e1 e2; exact h2 i x y e1 e2
end Go.Rh
