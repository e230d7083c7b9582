/- The proofs over the intermediate form, part Mf. -/
import Derived.Test.YtmencoknmmfdmaaMx
import Derived.Test.YtmencoknmmfdmaaMe
import Derived.Test.YtmencoknmmfdmaaMd
set_option linter.unusedSimpArgs false
set_option linter.unusedVariables false
set_option maxRecDepth 100000
namespace Go.Rh
/-! ### rows one behind the other -/
/-! ### Head -/
def hT (kc km : Nat) (e : Ent) (s : Bool) : List Value := [.chan (some kc), .map (some km), iv e.k, iv e.s, iv e.a, iv e.p, iv e.g, uv e.ka, uv e.kb, bv s]
/-- A head's cells: its pool, where its channel and its map are, the last entry, whether there was one. -/
def headL (c : Flat) (kc km : Nat) (e : Ent) (s : Bool) : List Value := pl c ++ hT kc km e s
theorem headL_length (c : Flat) (kc km : Nat) (e : Ent) (s : Bool) : (headL c kc km e s).length = 340 := by simp [headL, pl_length, hT]
theorem head_rT {m : Option Nat} {c : Flat} {kc km : Nat} {e : Ent} {s : Bool} (o : Nat) : partL m (headL c kc km e s) (330 + o) = partL m (hT kc km e s) o := partL_r (pl_length c)
theorem head_rP {m : Option Nat} {c : Flat} {kc km : Nat} {e : Ent} {s : Bool} {o : Nat} {v : Value} (h : partL m (pl c) o = some v) : partL m (headL c kc km e s) o = some v := partL_l h
theorem head_wP {c d : Flat} {kc km : Nat} {e : Ent} {s : Bool} : splice (headL c kc km e s) 0 (pl d) = headL d kc km e s := by
  unfold headL; rw [splice_l (by rw [pl_length, pl_length]; omega), splice_pl0]
theorem head_wE {c : Flat} {kc km : Nat} {e e' : Ent} {s : Bool} : splice (headL c kc km e s) 332 [iv e'.k, iv e'.s, iv e'.a, iv e'.p, iv e'.g, uv e'.ka, uv e'.kb] = headL c kc km e' s :=
  splice_r (o := 2) (pl_length c)
theorem head_wS {c : Flat} {kc km : Nat} {e : Ent} {s s' : Bool} : splice (headL c kc km e s) 339 [bv s'] = headL c kc km e s' := splice_r (o := 9) (pl_length c)
theorem head_le {c : Flat} {kc km : Nat} {e : Ent} {s : Bool} {m : Nat} (h : m ≤ 340) : m ≤ (headL c kc km e s).length := by rw [headL_length]; exact h
theorem ren_pl {ρ : Nat → Nat} (c : Flat) : (pl c).map (ren1 ρ) = pl c := map_id_of fun v hv => ren1_sclf (List.all_eq_true.1 (pl_scl c) v hv)
theorem ren_headL {ρ : Nat → Nat} {c : Flat} {kc km kc' km' : Nat} {e : Ent} {s rw : Bool} (h1 : ρ kc = kc') (h2 : ρ km = km') : renB ρ (.cells (headL c kc km e s) rw) = .cells (headL c kc' km' e s) rw := by
  subst h1; subst h2
  simp only [renB, headL, List.map_append, ren_pl]; rfl
/-! ### Notes -/
structure Nt where
  u : Int
  b : Int
  v : Int
  w : Bool
  a : Bool
  e : Ent
  p : Flat
def ntH (u b v : Int) (w a : Bool) (e : Ent) : List Value := [iv u, iv b, iv v, bv w, bv a, iv e.k, iv e.s, iv e.a, iv e.p, iv e.g, uv e.ka, uv e.kb]
def ntF (u b v : Int) (w a : Bool) (e : Ent) (p : Flat) : List Value := ntH u b v w a e ++ pl p
/-- A note's cells. -/
def ntL (n : Nt) : List Value := ntF n.u n.b n.v n.w n.a n.e n.p
def ntV (u b v : Int) (w a : Bool) (e : Ent) (p : Flat) : Value := .agg ⟨ntF u b v w a e p⟩
theorem ntF_length (u b v : Int) (w a : Bool) (e : Ent) (p : Flat) : (ntF u b v w a e p).length = 342 := by simp [ntF, ntH, pl_length]
theorem ntL_length (n : Nt) : (ntL n).length = 342 := ntF_length _ _ _ _ _ _ _
theorem ntF_scl (u b v : Int) (w a : Bool) (e : Ent) (p : Flat) : (ntF u b v w a e p).all sclf = true := app_scl (a := ntH u b v w a e) rfl (pl_scl p)
theorem ntF_scl' {u b v : Int} {w a : Bool} {e : Ent} {p : Flat} : (ntF u b v w a e p).all sclf = true := ntF_scl u b v w a e p
theorem ntL_scl (n : Nt) : (ntL n).all sclf = true := ntF_scl n.u n.b n.v n.w n.a n.e n.p
theorem ntV_vpf (u b v : Int) (w a : Bool) (e : Ent) (p : Flat) : vpf (ntV u b v w a e p) = true := ntF_scl u b v w a e p
theorem ntV_aggf (u b v : Int) (w a : Bool) (e : Ent) (p : Flat) : aggf (ntV u b v w a e p) = true := ntF_scl u b v w a e p
theorem nt_rH {m : Option Nat} {u b v : Int} {w a : Bool} {e : Ent} {p : Flat} {o : Nat} {x : Value} (h : partL m (ntH u b v w a e) o = some x) : partL m (ntF u b v w a e p) o = some x := partL_l h
theorem nt_rP {m : Option Nat} {u b v : Int} {w a : Bool} {e : Ent} {p : Flat} (o : Nat) : partL m (ntF u b v w a e p) (12 + o) = partL m (pl p) o := partL_r rfl
theorem nt_all (u b v : Int) (w a : Bool) (e : Ent) (p : Flat) : partL (some 342) (ntF u b v w a e p) 0 = some (ntV u b v w a e p) := by
  unfold partL
  simp only []
  rw [if_pos (by rw [ntF_length]; omega), List.drop_zero, List.take_of_length_le (by rw [ntF_length]; omega)]
  rfl
theorem nt_wP {u b v : Int} {w a : Bool} {e : Ent} {p q : Flat} : splice (ntF u b v w a e p) 12 (pl q) = ntF u b v w a e q := by
  have : splice (ntF u b v w a e p) (12 + 0) (pl q) = ntH u b v w a e ++ splice (pl p) 0 (pl q) := splice_r rfl
  rw [splice_pl0] at this; exact this
theorem nt_wH {u b v u' b' v' : Int} {w a w' a' : Bool} {e e' : Ent} {p : Flat} {o : Nat} {vs : List Value} (h : o + vs.length ≤ 12) (hs : splice (ntH u b v w a e) o vs = ntH u' b' v' w' a' e') : splice (ntF u b v w a e p) o vs = ntF u' b' v' w' a' e' p := by
  unfold ntF; rw [splice_l (by exact h), hs]
theorem nt_wAll {u b v u' b' v' : Int} {w a w' a' : Bool} {e e' : Ent} {p q : Flat} : splice (ntF u b v w a e p) 0 (ntF u' b' v' w' a' e' q) = ntF u' b' v' w' a' e' q := splice_all (by rw [ntF_length, ntF_length])
theorem nt_le {u b v : Int} {w a : Bool} {e : Ent} {p : Flat} {m : Nat} (h : m ≤ 342) : m ≤ (ntF u b v w a e p).length := by rw [ntF_length]; exact h
/-- Rows of notes. -/
def ntsL (l : List Nt) : List Value := (l.map ntL).flatten
theorem ntsL_length (l : List Nt) : (ntsL l).length = l.length * 342 := by
  induction l with
  | nil => rfl
  | cons n l ih => simp only [ntsL, List.map_cons, List.flatten_cons, List.length_append, ntL_length, List.length_cons] at ih ⊢; rw [ih]; omega
theorem ntsL_scl (l : List Nt) : (ntsL l).all sclf = true := by
  simp only [ntsL, List.all_flatten, List.all_map]
  exact List.all_eq_true.2 fun n _ => ntL_scl n
theorem ntsL_snoc (l : List Nt) (n : Nt) : ntsL l ++ ntL n = ntsL (l ++ [n]) := by simp [ntsL]
def zNt : List Value := ntF 0 0 0 false false ⟨0, 0, 0, 0, 0, 0, 0⟩ zeroP
theorem ntsR_scl (l : List Nt) (m : Nat) : (ntsL l ++ room zNt m).all sclf = true := app_scl (ntsL_scl l) (room_scl (ntF_scl 0 0 0 false false ⟨0, 0, 0, 0, 0, 0, 0⟩ zeroP) m)
/-- A field of a note in a row. -/
theorem nts_r {m : Option Nat} : ∀ {l : List Nt} {t : List Value} {i j : Nat} {n : Nt} {v : Value}, l[i]? = some n → partL m (ntL n) j = some v → partL m (ntsL l ++ t) (342 * i + j) = some v
  | [], _, _, _, _, _, h, _ => by simp at h
  | x :: l, t, 0, j, n, v, h, hv => by
    simp at h; subst h
    have e : ntsL (x :: l) ++ t = ntL x ++ (ntsL l ++ t) := by simp [ntsL]
    rw [e, show 342 * 0 + j = j by omega]
    exact partL_l hv
  | x :: l, t, i + 1, j, n, v, h, hv => by
    have e : ntsL (x :: l) ++ t = ntL x ++ (ntsL l ++ t) := by simp [ntsL]
    rw [e, show 342 * (i + 1) + j = 342 + (342 * i + j) by omega, partL_r (ntL_length x)]
    exact nts_r (by simpa using h) hv
/-! ### the words that were heard -/
def wV (x : Int × Int) : Value := .agg #[iv x.1, iv x.2]
def hdM (l : List (Int × Int)) : List (Value × Value) := l.mapIdx fun i x => (iv (i : Nat), wV x)
theorem hdM_length (l : List (Int × Int)) : (hdM l).length = l.length := by simp [hdM]
theorem hdM_get {l : List (Int × Int)} {i : Nat} : (hdM l)[i]? = (l[i]?).map fun x => (iv (i : Nat), wV x) := by simp [hdM]
theorem hdM_set {l : List (Int × Int)} {i : Nat} {x : Int × Int} : (hdM l).set i (iv (i : Nat), wV x) = hdM (l.set i x) := by
  refine List.ext_getElem? fun k => ?_
  rw [List.getElem?_set, hdM_get, hdM_get, List.getElem?_set, hdM_length]
  by_cases h : i = k
  · subst h
    by_cases h2 : i < l.length <;> simp [h2]
  · simp [h]
theorem hdM_snoc {l : List (Int × Int)} {x : Int × Int} : hdM l ++ [(iv (l.length : Nat), wV x)] = hdM (l ++ [x]) := by
  simp [hdM, List.mapIdx_append]
theorem find_hd : ∀ (l : List (Int × Int)) (n : Int), find .i (iv n) (hdM l) = some (if 0 ≤ n ∧ n < l.length then some n.toNat else none) := by
  have gen : ∀ (l : List (Int × Int)) (n : Int) (b : Nat), find .i (iv n) (l.mapIdx fun i x => (iv ((i + b : Nat) : Int), wV x)) = some (if (b : Int) ≤ n ∧ n < b + l.length then some (n.toNat - b) else none) := by
    intro l
    induction l with
    | nil => intro n b; simp [find]
    | cons x l ih =>
      intro n b
      have h2 := ih n (b + 1)
      rw [List.mapIdx_cons]
      simp only [find]
      have hs : sameKey .i (iv n) (iv ((0 + b : Nat) : Int)) = some (decide (n = (b : Int))) := by
        simp only [sameKey, Nat.zero_add]
        first | rfl | (congr 1; exact Bool.eq_iff_iff.2 (by simp))
      rw [hs]
      have he : (fun (i : Nat) (x : Int × Int) => (iv ((i + 1 + b : Nat) : Int), wV x)) = fun (i : Nat) (x : Int × Int) => (iv ((i + (b + 1) : Nat) : Int), wV x) := by
        funext i x; rw [show i + 1 + b = i + (b + 1) by omega]
      rw [he, h2]
      by_cases h : n = (b : Int)
      · simp [h]; omega
      · simp only [h, decide_false]
        by_cases h3 : ((b + 1 : Nat) : Int) ≤ n ∧ n < ((b + 1 : Nat) : Int) + l.length
        · rw [if_pos h3, if_pos (by simp; omega)]; simp; omega
        · rw [if_neg h3, if_neg (by simp; omega)]
  intro l n
  have := gen l n 0
  simpa [hdM] using this
end Go.Rh

set_option linter.unusedSimpArgs false
set_option linter.unusedVariables false
set_option maxRecDepth 100000
namespace Go.Rh
/-! ### the words' map -/
def lkS (hd : List (Int × Int)) (n : Int) : (Int × Int) × Bool := if 0 ≤ n ∧ n < hd.length then (hd.getD n.toNat (0, 0), true) else ((0, 0), false)
theorem run_lkuH {d : Option Nat} {x y : Opd} {L : List (Nat × Value)} {hp : List Blk} {r : Nat} {hd : List (Int × Int)} {n : Int} (hx : evf (reg L) x = .map (some r)) (hh : hf hp r = some (.map (hdM hd))) (hy : evf (reg L) y = iv n) :
    runL [⟨d, .lku .i [(2, .int .i64 0)] true false x y, none⟩] ⟨reg L, hp⟩ = some ⟨putf (reg L) d (.agg #[iv (lkS hd n).1.1, iv (lkS hd n).1.2]), hp⟩ := by
  refine run_step (e := .no) rfl rfl ?_
  simp only [stepE, zeroV, if_true, hx, hh, hy, find_hd]
  by_cases h : 0 ≤ n ∧ n < hd.length
  · have hl : n.toNat < hd.length := by omega
    simp only [if_pos h, hdM_get, lkS, List.getElem?_eq_getElem hl, Option.map_some, List.getD_eq_getElem?_getD, Option.getD_some]
    rfl
  · simp only [if_neg h, lkS]; rfl
theorem run_lkuH2 {d : Option Nat} {x y : Opd} {L : List (Nat × Value)} {hp : List Blk} {r : Nat} {hd : List (Int × Int)} {n : Int} (hx : evf (reg L) x = .map (some r)) (hh : hf hp r = some (.map (hdM hd))) (hy : evf (reg L) y = iv n) :
    runL [⟨d, .lku .i [(2, .int .i64 0)] true true x y, none⟩] ⟨reg L, hp⟩ = some ⟨putf (reg L) d (.tuple #[.agg #[iv (lkS hd n).1.1, iv (lkS hd n).1.2], bv (lkS hd n).2]), hp⟩ := by
  refine run_step (e := .no) rfl rfl ?_
  simp only [stepE, zeroV, if_true, hx, hh, hy, find_hd]
  by_cases h : 0 ≤ n ∧ n < hd.length
  · have hl : n.toNat < hd.length := by omega
    simp only [if_pos h, hdM_get, lkS, List.getElem?_eq_getElem hl, Option.map_some, List.getD_eq_getElem?_getD, Option.getD_some]
    rfl
  · simp only [if_neg h, lkS]; rfl
theorem run_mupS {x y z : Opd} {L : List (Nat × Value)} {hp : List Blk} {r : Nat} {hd : List (Int × Int)} {n a b : Int} (hx : evf (reg L) x = .map (some r)) (hh : hf hp r = some (.map (hdM hd))) (hy : evf (reg L) y = iv n) (hz : evf (reg L) z = .agg #[iv a, iv b]) (hn : 0 ≤ n ∧ n < hd.length) :
    runL [⟨none, .mup .i x y z, none⟩] ⟨reg L, hp⟩ = some ⟨putf (reg L) none undef, hp.set r (.map (hdM (hd.set n.toNat (a, b))))⟩ := by
  refine run_step (e := .set r (.map (hdM (hd.set n.toNat (a, b))))) rfl rfl ?_
  simp only [stepE, hx, hh, hy, hz, find_hd, if_pos hn]
  have e : iv n = iv (n.toNat : Nat) := by rw [Int.toNat_of_nonneg hn.1]
  have := hdM_set (l := hd) (i := n.toNat) (x := (a, b))
  rw [← this, ← e]; rfl
theorem run_mupA {x y z : Opd} {L : List (Nat × Value)} {hp : List Blk} {r : Nat} {hd : List (Int × Int)} {n a b : Int} (hx : evf (reg L) x = .map (some r)) (hh : hf hp r = some (.map (hdM hd))) (hy : evf (reg L) y = iv n) (hz : evf (reg L) z = .agg #[iv a, iv b]) (hn : n = hd.length) :
    runL [⟨none, .mup .i x y z, none⟩] ⟨reg L, hp⟩ = some ⟨putf (reg L) none undef, hp.set r (.map (hdM (hd ++ [(a, b)])))⟩ := by
  refine run_step (e := .set r (.map (hdM (hd ++ [(a, b)])))) rfl rfl ?_
  have hq := find_hd hd n
  rw [if_neg (by omega)] at hq
  simp only [stepE, hx, hh, hy, hz, hq]
  rw [← hdM_snoc, hn]; rfl
theorem run_lenH {d : Option Nat} {x : Opd} {L : List (Nat × Value)} {hp : List Blk} {r : Nat} {hd : List (Int × Int)} (hx : evf (reg L) x = .map (some r)) (hh : hf hp r = some (.map (hdM hd))) : runL [⟨d, .lenM x, none⟩] ⟨reg L, hp⟩ = some ⟨putf (reg L) d (iv (hd.length : Nat)), hp⟩ := by
  refine run_step (e := .no) rfl rfl ?_
  simp only [stepE, hx, hh, hdM_length]
theorem run_lenW {d : Option Nat} {x : Opd} {L : List (Nat × Value)} {hp : List Blk} {r n : Nat} {w : List Ent} (hx : evf (reg L) x = .chan (some r)) (hh : hf hp r = some (.chan n (w.map entV))) : runL [⟨d, .lenC x, none⟩] ⟨reg L, hp⟩ = some ⟨putf (reg L) d (iv (w.length : Nat)), hp⟩ := by
  refine run_step (e := .no) rfl rfl ?_
  simp only [stepE, hx, hh, List.length_map]
theorem ents_snocV (w : List Ent) (e : Ent) : w.map entV ++ [entV e] = (w ++ [e]).map entV := by simp
theorem ren_entsV {ρ : Nat → Nat} {n : Nat} (w : List Ent) : renB ρ (.chan n (w.map entV)) = .chan n (w.map entV) := by
  simp only [renB]
  rw [map_id_of fun v hv => ?_]
  obtain ⟨e, _, rfl⟩ := List.mem_map.1 hv
  exact renG_aggf rfl
theorem ren_hdM {ρ : Nat → Nat} (l : List (Int × Int)) : renB ρ (.map (hdM l)) = .map (hdM l) := by
  simp only [renB]
  congr 1
  refine (List.map_congr_left (g := id) fun e he => ?_).trans (by simp)
  obtain ⟨i, hi⟩ := List.mem_iff_getElem?.1 he
  rw [hdM_get] at hi
  simp only [Option.map_eq_some_iff] at hi
  obtain ⟨x, _, rfl⟩ := hi
  simp [renG, ren1, wV]
theorem seen_head {ρ : Nat → Nat} {c : Flat} {kc km kc' km' : Nat} {e : Ent} {s rw rw' : Bool} (h1 : ρ kc = kc') (h2 : ρ km = km') (hr : rw = true → rw' = true) : Blk.seen (renB ρ (.cells (headL c kc km e s) rw)) (.cells (headL c kc' km' e s) rw') := by
  rw [ren_headL h1 h2]; exact ⟨rfl, hr⟩
theorem ren_headS {ρ : Nat → Nat} {c : Flat} {kc km kc' km' : Nat} {e : Ent} {s rw : Bool} (h1 : ρ kc = kc') (h2 : ρ km = km') : some (Blk.cells (headL c kc' km' e s) rw) = some (renB ρ (.cells (headL c kc km e s) rw)) := by rw [ren_headL h1 h2]
theorem seen_ents {ρ : Nat → Nat} {n : Nat} (w : List Ent) : Blk.seen (renB ρ (.chan n (w.map entV))) (.chan n (w.map entV)) := by rw [ren_entsV]; rfl
theorem seen_hdM {ρ : Nat → Nat} (l : List (Int × Int)) : Blk.seen (renB ρ (.map (hdM l))) (.map (hdM l)) := by rw [ren_hdM]; rfl
theorem hdM_inv {l : List (Int × Int)} {j : Nat} {e : Value × Value} (h : (hdM l)[j]? = some e) : ∃ x, l[j]? = some x ∧ e = (iv (j : Nat), .agg #[iv x.1, iv x.2]) := by
  rw [hdM_get] at h
  simp only [Option.map_eq_some_iff] at h
  obtain ⟨x, h1, rfl⟩ := h
  exact ⟨x, h1, rfl⟩
end Go.Rh

set_option linter.unusedSimpArgs false
set_option linter.unusedVariables false
set_option maxRecDepth 100000
namespace Go.Rh
theorem fillL_l : ∀ {parts : List (Nat × Nat × Value)} {a a' b : List Value}, fillL a parts = some a' → fillL (a ++ b) parts = some (a' ++ b)
  | [], a, a', b, h => by simp only [fillL, Option.some.injEq] at h ⊢; rw [h]
  | (o, s, v) :: r, a, a', b, h => by
    simp only [fillL] at h ⊢
    split at h
    · rename_i q
      obtain ⟨q1, q2, q3⟩ := q
      rw [if_pos ⟨q1, q2, by simp; omega⟩, splice_l (by omega)]
      exact fillL_l h
    · cases h
def zHd : RL := [(324, .int .i64 0), (6, .int .u64 0), (1, .chan none), (1, .map none), (5, .int .i64 0), (2, .int .u64 0), (1, .bool false)]
def zNt' : RL := [(3, .int .i64 0), (2, .bool false), (5, .int .i64 0), (2, .int .u64 0), (324, .int .i64 0), (6, .int .u64 0)]
def e0 : Ent := ⟨0, 0, 0, 0, 0, 0, 0⟩
theorem zHd_eq : expand zHd = pl zeroP ++ [.chan none, .map none, iv 0, iv 0, iv 0, iv 0, iv 0, uv 0, uv 0, bv false] := by kernel_rfl
theorem zNt_eq : expand zNt' = ntF 0 0 0 false false e0 zeroP := by kernel_rfl
theorem bld_head (c : Flat) (kc km : Nat) : fillL (expand zHd) [(0, 330, poolV c), (330, 1, .chan (some kc)), (331, 1, .map (some km))] = some (headL c kc km e0 false) := by
  rw [zHd_eq]
  have h1 : vcells (poolV c) = pl c := rfl
  simp only [fillL, h1]
  rw [if_pos ⟨rfl, pl_length c, by simp [pl_length]⟩, splice_l (by rw [pl_length, pl_length]; omega), splice_pl0]
  have h2 : splice (pl c ++ [.chan none, .map none, iv 0, iv 0, iv 0, iv 0, iv 0, uv 0, uv 0, bv false]) 330 (vcells (.chan (some kc))) = pl c ++ [.chan (some kc), .map none, iv 0, iv 0, iv 0, iv 0, iv 0, uv 0, uv 0, bv false] := splice_r (o := 0) (pl_length c)
  rw [if_pos ⟨rfl, rfl, by simp [pl_length]⟩, h2]
  have h3 : splice (pl c ++ [.chan (some kc), .map none, iv 0, iv 0, iv 0, iv 0, iv 0, uv 0, uv 0, bv false]) 331 (vcells (.map (some km))) = pl c ++ [.chan (some kc), .map (some km), iv 0, iv 0, iv 0, iv 0, iv 0, uv 0, uv 0, bv false] := splice_r (o := 1) (pl_length c)
  rw [if_pos ⟨rfl, rfl, by simp [pl_length]⟩, h3]
  rfl
theorem bld_nt {parts : List (Nat × Nat × Value)} {u b v : Int} {w a : Bool} {e : Ent} (h : fillL (ntH 0 0 0 false false e0) parts = some (ntH u b v w a e)) : fillL (expand zNt') parts = some (ntF u b v w a e zeroP) := by
  rw [zNt_eq]; exact fillL_l h
theorem entsL_app1 (es : List Ent) (x : Ent) : entsL es ++ [iv x.k, iv x.s, iv x.a, iv x.p, iv x.g, uv x.ka, uv x.kb] = entsL (es ++ [x]) := by simp [entsL]; rfl
theorem isTup_slV (k n : Nat) (o : Option Nat) : isTup (slV k n o) = false := by cases o <;> rfl
theorem tup_nil : ∀ v ∈ ([] : List Value), isTup v = false := by simp
theorem tup_cons {a : Value} {l : List Value} (h1 : isTup a = false) (h2 : ∀ v ∈ l, isTup v = false) : ∀ v ∈ a :: l, isTup v = false := List.forall_mem_cons.2 ⟨h1, h2⟩
/-- A row of one note. -/
theorem run_bsl1 {d : Option Nat} {x : Opd} {L : List (Nat × Value)} {hp : List Blk} {c : List Value} (hx : evf (reg L) x = .agg ⟨c⟩) (hc : c.length = 342) : runL [⟨d, .bsl zNt' 342 1 [(0, 342, x)], none⟩] ⟨reg L, hp⟩ = some ⟨putf (reg L) d (sv hp.length 0 1 1), hp ++ [cw c]⟩ := by
  refine run_step (e := .push (cw c)) rfl rfl ?_
  have h1 : (List.replicate 1 (expand zNt')).flatten = ntF 0 0 0 false false e0 zeroP := by rw [zNt_eq]; simp
  have h2 : vcells (.agg ⟨c⟩) = c := rfl
  have h3 : splice (ntF 0 0 0 false false e0 zeroP) 0 c = c := splice_all (by rw [hc, ntF_length])
  simp only [stepE, List.map_cons, List.map_nil, hx, h1, fillL, h2]
  rw [if_pos ⟨rfl, hc, by rw [ntF_length]; omega⟩, h3]
theorem nt_first (u b v : Int) (w a : Bool) (e : Ent) (p : Flat) : ((ntF u b v w a e p).drop 0).take (1 * 342) = ntF u b v w a e p := by rw [List.drop_zero, List.take_of_length_le (by rw [ntF_length]; omega)]
theorem ntsL_app1 (l : List Nt) (u b v : Int) (w a : Bool) (e : Ent) (p : Flat) : ntsL l ++ ntF u b v w a e p = ntsL (l ++ [⟨u, b, v, w, a, e, p⟩]) := ntsL_snoc l ⟨u, b, v, w, a, e, p⟩
/-! ### what a head does, in plain terms -/
structure HS where
  p : Flat
  w : List Ent
  hd : List (Int × Int)
  e : Ent
  s : Bool
def allW (hd : List (Int × Int)) (v : Int) : Bool := hd.all fun x => x.2 == v
def pubS (x : HS) : HS := match x.w with
  | [] => x
  | e :: r => if (applyS x.p e).2 = 0 then ⟨(applyS x.p e).1, r, x.hd, e, true⟩ else ⟨x.p, r, x.hd, x.e, x.s⟩
def goS (x : HS) : HS := if allW x.hd (x.p 0) = true then pubS x else x
def noteS (x : HS) (u : Nat) : Option Nt :=
  let w := (lkS x.hd (u : Nat)).1
  if x.p 0 ≤ w.2 then none
  else if w.2 = IntKind.i64.wrap (x.p 0 - 1) ∧ x.s = true then some ⟨(u : Nat), w.1, x.p 0, false, false, x.e, zeroP⟩
  else some ⟨(u : Nat), w.1, x.p 0, true, false, e0, x.p⟩
def notesTo (x : HS) (n : Nat) : List Nt := (List.range n).filterMap (noteS x)
def sendS (x : HS) : HS × List Nt := (goS x, notesTo (goS x) (goS x).hd.length)
def wishS (x : HS) (l : List Ent) : Int × HS :=
  if 200 < x.w.length + l.length then (14, x)
  else if (allS (allS x.p x.w 0).1 l 0).2.2 ≠ 0 then ((allS (allS x.p x.w 0).1 l 0).2.2, x)
  else (0, { x with w := x.w ++ l })
def mxS (v : Int) : Int := if (-1) > v then (-1) else v
def heardS (hd : List (Int × Int)) (n : Nt) : List (Int × Int) :=
  if n.a = false ∨ (lkS hd n.u).2 = false ∨ n.b < (lkS hd n.u).1.1 then hd
  else if n.b > (lkS hd n.u).1.1 ∨ mxS n.v > (lkS hd n.u).1.2 then hd.set n.u.toNat (n.b, mxS n.v)
  else hd.set n.u.toNat ((lkS hd n.u).1.1, (lkS hd n.u).1.2)
theorem lkS_in {hd : List (Int × Int)} {n : Int} (h : (!(lkS hd n).2) = false) : 0 ≤ n ∧ n < hd.length := by
  unfold lkS at h
  split at h
  · assumption
  · cases h
theorem notesTo_none {x : HS} {i : Nat} (h : noteS x i = none) : notesTo x (i + 1) = notesTo x i := by
  simp [notesTo, List.range_succ, List.filterMap_append, h]
theorem notesTo_some {x : HS} {i : Nat} {n : Nt} (h : noteS x i = some n) : notesTo x (i + 1) = notesTo x i ++ [n] := by
  simp [notesTo, List.range_succ, List.filterMap_append, h]
theorem notesTo_len (x : HS) (i : Nat) : (notesTo x i).length ≤ i := by
  have := List.length_filterMap_le (noteS x) (List.range i)
  simpa [notesTo] using this
theorem pubS_hd (x : HS) : (pubS x).hd = x.hd := by
  unfold pubS; split
  · rfl
  · split <;> rfl
theorem goS_hd (x : HS) : (goS x).hd = x.hd := by
  unfold goS; split
  · exact pubS_hd x
  · rfl
end Go.Rh

set_option linter.unusedSimpArgs false
set_option linter.unusedVariables false
set_option maxRecDepth 100000
set_option maxHeartbeats 8000000
namespace Go.Rh
def c_head_Head_Heard : IFunc :=
  ⟨56, [], (.seq (.reg [⟨(some 3), .box (.t 1), none⟩]) (.seq (.dreg [⟨(some 8), .mv (.t 0), none⟩, ⟨(some 9), .nilc (.t 8), none⟩, ⟨(some 10), .fad 331 (.t 9), none⟩, ⟨(some 11), .ld none (.t 10), none⟩, ⟨(some 12), .fad 0 (.t 3), none⟩, ⟨(some 13), .ld none (.t 12), none⟩, ⟨(some 14), .lku .i [(2, (.int .i64 0))] true true (.t 11) (.t 13), none⟩, ⟨(some 7), .mv (.t 14), none⟩, ⟨(some 15), .ext 0 (.t 7), none⟩, ⟨(some 16), .ext 1 (.t 7), none⟩, ⟨(some 4), .new [(2, (.int .i64 0))], none⟩, ⟨none, .st 2 (.t 4) (.t 15), none⟩, ⟨(some 5), .mv (.t 16), none⟩] [[], [0], [1, 0], [2, 1, 0], [], [4], [3, 2, 1, 0, 5, 4], [6, 3, 2, 1, 0, 5, 4], [7, 6, 3, 2, 1, 0, 5, 4], [7, 6, 3, 2, 1, 0, 5, 4], [], [10, 8, 7, 6, 3, 2, 1, 0, 5, 4], [9, 7, 6, 3, 2, 1, 0, 5, 4, 11, 10, 8]]) (.seq (.seq (.reg [⟨(some 17), .fad 4 (.t 3), none⟩, ⟨(some 18), .ld none (.t 17), none⟩, ⟨(some 19), .un .not (.t 18), none⟩, ⟨(some 20), .mv (.t 19), none⟩, ⟨(some 21), .mv (.t 5), some (20, false)⟩, ⟨(some 22), .un .not (.t 21), some (20, false)⟩, ⟨(some 23), .pick (.t 20) (.c (.bool true)) (.t 22), none⟩, ⟨(some 24), .mv (.t 23), none⟩, ⟨(some 25), .fad 1 (.t 3), some (24, false)⟩, ⟨(some 26), .ld none (.t 25), some (24, false)⟩, ⟨(some 27), .fad 0 (.t 4), some (24, false)⟩, ⟨(some 28), .ld none (.t 27), some (24, false)⟩, ⟨(some 29), .bin .lss (.t 26) (.t 28), some (24, false)⟩, ⟨(some 30), .pick (.t 24) (.c (.bool true)) (.t 29), none⟩]) (.cond (.t 30) .ret .skip)) (.seq (.seq (.reg [⟨(some 31), .fad 2 (.t 3), none⟩, ⟨(some 32), .ld none (.t 31), none⟩, ⟨(some 33), .mm true (.t 32) (.c (.int .i64 (-1))), none⟩, ⟨(some 6), .mv (.t 33), none⟩]) (.seq (.reg [⟨(some 34), .fad 1 (.t 3), none⟩, ⟨(some 35), .ld none (.t 34), none⟩, ⟨(some 36), .fad 0 (.t 4), none⟩, ⟨(some 37), .ld none (.t 36), none⟩, ⟨(some 38), .bin .gtr (.t 35) (.t 37), none⟩, ⟨(some 39), .mv (.t 38), none⟩, ⟨(some 40), .mv (.t 6), some (39, false)⟩, ⟨(some 41), .fad 1 (.t 4), some (39, false)⟩, ⟨(some 42), .ld none (.t 41), some (39, false)⟩, ⟨(some 43), .bin .gtr (.t 40) (.t 42), some (39, false)⟩, ⟨(some 44), .pick (.t 39) (.c (.bool true)) (.t 43), none⟩]) (.cond (.t 44) (.reg [⟨(some 45), .fad 1 (.t 3), none⟩, ⟨(some 46), .ld none (.t 45), none⟩, ⟨(some 47), .mv (.t 6), none⟩, ⟨(some 48), .bld [(2, (.int .i64 0))] [(0, 1, (.t 46)), (1, 1, (.t 47))], none⟩, ⟨none, .st 2 (.t 4) (.t 48), none⟩]) .skip))) (.dreg [⟨(some 49), .mv (.t 0), none⟩, ⟨(some 50), .nilc (.t 49), none⟩, ⟨(some 51), .fad 331 (.t 50), none⟩, ⟨(some 52), .ld none (.t 51), none⟩, ⟨(some 53), .fad 0 (.t 3), none⟩, ⟨(some 54), .ld none (.t 53), none⟩, ⟨(some 55), .ld (some 2) (.t 4), none⟩, ⟨none, .mup .i (.t 52) (.t 54) (.t 55), none⟩] [[], [0], [1, 0], [2, 1, 0], [], [4], [], [3, 2, 1, 0, 5, 4, 6]])))))⟩
def c_head_New : IFunc :=
  ⟨31, [.tmp 4, .tmp 5], (.seq (.reg [⟨(some 2), .box (.t 0), none⟩, ⟨(some 4), .mv (.c (.pointer none)), none⟩, ⟨(some 5), .mv (.c (.int .i64 0)), none⟩]) (.seq (.seq (.reg [⟨(some 8), .mv (.t 1), none⟩, ⟨(some 9), .bin .lss (.t 8) (.c (.int .i64 1)), none⟩, ⟨(some 10), .mv (.t 9), none⟩, ⟨(some 11), .mv (.t 1), some (10, false)⟩, ⟨(some 12), .bin .gtr (.t 11) (.c (.int .i64 16)), some (10, false)⟩, ⟨(some 13), .pick (.t 10) (.c (.bool true)) (.t 12), none⟩]) (.cond (.t 13) (.seq (.reg [⟨(some 4), .mv (.c (.pointer none)), none⟩, ⟨(some 5), .mv (.c (.int .i64 14)), none⟩]) .ret) .skip)) (.seq (.dreg [⟨(some 14), .ld (some 330) (.t 2), none⟩, ⟨(some 15), .mkc 200, none⟩, ⟨(some 16), .mkm, none⟩, ⟨(some 17), .bld [(324, (.int .i64 0)), (6, (.int .u64 0)), (1, (.chan none)), (1, (.map none)), (5, (.int .i64 0)), (2, (.int .u64 0)), (1, (.bool false))] [(0, 330, (.t 14)), (330, 1, (.t 15)), (331, 1, (.t 16))], none⟩, ⟨(some 18), .box (.t 17), none⟩, ⟨(some 6), .mv (.t 18), none⟩] [[], [], [], [0, 1, 2], [3, 0, 1, 2], [4, 3, 0, 1, 2]]) (.seq (.seq (.reg [⟨(some 19), .mv (.t 1), none⟩, ⟨(some 20), .mv (.c (.int .i64 0)), none⟩]) (.block 0 (.loop (.seq (.reg [⟨(some 21), .bin .lss (.t 20) (.t 19), none⟩]) (.seq (.cond (.t 21) .skip (.exit 0)) (.seq (.block 1 (.seq (.reg [⟨(some 22), .mv (.t 20), none⟩, ⟨(some 7), .mv (.t 22), none⟩]) (.reg [⟨(some 23), .mv (.t 6), none⟩, ⟨(some 24), .nilc (.t 23), none⟩, ⟨(some 25), .fad 331 (.t 24), none⟩, ⟨(some 26), .ld none (.t 25), none⟩, ⟨(some 27), .mv (.t 7), none⟩, ⟨(some 28), .bld [(2, (.int .i64 0))] [(1, 1, (.c (.int .i64 (-1))))], none⟩, ⟨none, .mup .i (.t 26) (.t 27) (.t 28), none⟩]))) (.reg [⟨(some 29), .bin .add (.t 20) (.c (.int .i64 1)), none⟩, ⟨(some 20), .mv (.t 29), none⟩]))))))) (.seq (.reg [⟨(some 30), .mv (.t 6), none⟩, ⟨(some 4), .mv (.t 30), none⟩, ⟨(some 5), .mv (.c (.int .i64 0)), none⟩]) .ret)))))⟩
def c_head_Head_publish : IFunc :=
  ⟨35, [], (.seq (.reg [⟨(some 5), .mv (.t 0), none⟩, ⟨(some 6), .nilc (.t 5), none⟩, ⟨(some 7), .fad 330 (.t 6), none⟩, ⟨(some 8), .ld none (.t 7), none⟩]) (.seq (.reg [⟨(some 9), .sel1 [(5, (.int .i64 0)), (2, (.int .u64 0))] true (.t 8), none⟩, ⟨(some 10), .ext 0 (.t 9), none⟩, ⟨(some 11), .bin .eql (.t 10) (.c (.int .i64 0)), none⟩]) (.block 0 (.cond (.t 11) (.seq (.reg [⟨(some 12), .ext 2 (.t 9), none⟩, ⟨(some 2), .new [(5, (.int .i64 0)), (2, (.int .u64 0))], none⟩, ⟨none, .st 7 (.t 2) (.t 12), none⟩]) (.seq (.dreg [⟨(some 14), .mv (.t 0), none⟩, ⟨(some 15), .nilc (.t 14), none⟩, ⟨(some 16), .fad 0 (.t 15), none⟩, ⟨(some 17), .ld (some 330) (.t 16), none⟩, ⟨(some 18), .ld (some 7) (.t 2), none⟩, ⟨(some 19), .call "roundhouse/pool.Apply" [(.t 17), (.t 18)], none⟩, ⟨(some 13), .mv (.t 19), none⟩, ⟨(some 20), .ext 0 (.t 13), none⟩, ⟨(some 21), .ext 1 (.t 13), none⟩, ⟨(some 3), .new [(324, (.int .i64 0)), (6, (.int .u64 0))], none⟩, ⟨none, .st 330 (.t 3) (.t 20), none⟩, ⟨(some 4), .mv (.t 21), none⟩] [[], [0], [1, 0], [2, 1, 0], [], [3, 2, 1, 0, 4], [5, 3, 2, 1, 0, 4], [6, 5, 3, 2, 1, 0, 4], [6, 5, 3, 2, 1, 0, 4], [], [9, 7, 6, 5, 3, 2, 1, 0, 4], [8, 6, 5, 3, 2, 1, 0, 4, 10, 9, 7]]) (.seq (.reg [⟨(some 22), .mv (.t 4), none⟩, ⟨(some 23), .bin .eql (.t 22) (.c (.int .i64 0)), none⟩]) (.cond (.t 23) (.dreg [⟨(some 24), .mv (.t 0), none⟩, ⟨(some 25), .mv (.t 0), none⟩, ⟨(some 26), .mv (.t 0), none⟩, ⟨(some 27), .ld (some 330) (.t 3), none⟩, ⟨(some 28), .ld (some 7) (.t 2), none⟩, ⟨(some 29), .nilc (.t 24), none⟩, ⟨(some 30), .fad 0 (.t 29), none⟩, ⟨none, .st 330 (.t 30) (.t 27), none⟩, ⟨(some 31), .nilc (.t 25), none⟩, ⟨(some 32), .fad 332 (.t 31), none⟩, ⟨none, .st 7 (.t 32) (.t 28), none⟩, ⟨(some 33), .nilc (.t 26), none⟩, ⟨(some 34), .fad 339 (.t 33), none⟩, ⟨none, .st 1 (.t 34) (.c (.bool true)), none⟩] [[], [], [], [], [], [0, 3], [5, 0, 3], [6, 5, 0, 3], [1, 0, 3, 4, 5, 6, 7], [8, 1, 0, 3, 4, 5, 6, 7], [9, 8, 1, 0, 3, 4, 5, 6, 7], [2, 0, 1, 3, 4, 5, 6, 7, 8, 9, 10], [11, 2, 0, 1, 3, 4, 5, 6, 7, 8, 9, 10], [12, 11, 2, 0, 1, 3, 4, 5, 6, 7, 8, 9, 10]]) .skip)))) .skip))))⟩
def c_head_Head_waiting : IFunc :=
  ⟨28, [.tmp 2], (.seq (.reg [⟨(some 2), .mv (.c (.slice none 0 0)), none⟩]) (.seq (.reg [⟨(some 3), .mv (.c (.slice none 0 0)), none⟩]) (.seq (.seq (.reg [⟨(some 5), .mv (.t 0), none⟩, ⟨(some 6), .nilc (.t 5), none⟩, ⟨(some 7), .fad 330 (.t 6), none⟩, ⟨(some 8), .ld none (.t 7), none⟩, ⟨(some 9), .lenC (.t 8), none⟩, ⟨(some 10), .mv (.c (.int .i64 0)), none⟩]) (.block 0 (.loop (.seq (.reg [⟨(some 11), .bin .lss (.t 10) (.t 9), none⟩]) (.seq (.cond (.t 11) .skip (.exit 0)) (.seq (.block 1 (.seq (.reg [⟨(some 12), .mv (.t 0), none⟩, ⟨(some 13), .nilc (.t 12), none⟩, ⟨(some 14), .fad 330 (.t 13), none⟩, ⟨(some 15), .ld none (.t 14), none⟩, ⟨(some 16), .rcv (.t 15), none⟩, ⟨(some 4), .new [(5, (.int .i64 0)), (2, (.int .u64 0))], none⟩, ⟨none, .st 7 (.t 4) (.t 16), none⟩]) (.seq (.dreg [⟨(some 17), .mv (.t 0), none⟩, ⟨(some 18), .nilc (.t 17), none⟩, ⟨(some 19), .fad 330 (.t 18), none⟩, ⟨(some 20), .ld none (.t 19), none⟩, ⟨(some 21), .ld (some 7) (.t 4), none⟩, ⟨none, .snd (.t 20) (.t 21), none⟩] [[], [0], [1, 0], [2, 1, 0], [], [3, 2, 1, 0, 4]]) (.reg [⟨(some 22), .mv (.t 3), none⟩, ⟨(some 23), .ld (some 7) (.t 4), none⟩, ⟨(some 24), .bsl [(5, (.int .i64 0)), (2, (.int .u64 0))] 7 1 [(0, 7, (.t 23))], none⟩, ⟨(some 25), .app [(5, (.int .i64 0)), (2, (.int .u64 0))] 7 56 (.t 22) (.t 24), none⟩, ⟨(some 3), .mv (.t 25), none⟩])))) (.reg [⟨(some 26), .bin .add (.t 10) (.c (.int .i64 1)), none⟩, ⟨(some 10), .mv (.t 26), none⟩]))))))) (.seq (.reg [⟨(some 27), .mv (.t 3), none⟩, ⟨(some 2), .mv (.t 27), none⟩]) .ret))))⟩
def c_head_Head_Version : IFunc :=
  ⟨8, [.tmp 2], (.seq (.reg [⟨(some 2), .mv (.c (.int .i64 0)), none⟩]) (.seq (.reg [⟨(some 3), .mv (.t 0), none⟩, ⟨(some 4), .nilc (.t 3), none⟩, ⟨(some 5), .fad 0 (.t 4), none⟩, ⟨(some 6), .fad 0 (.t 5), none⟩, ⟨(some 7), .ld none (.t 6), none⟩, ⟨(some 2), .mv (.t 7), none⟩]) .ret))⟩
def c_head_Head_Waiting : IFunc :=
  ⟨8, [.tmp 2], (.seq (.reg [⟨(some 2), .mv (.c (.int .i64 0)), none⟩]) (.seq (.reg [⟨(some 3), .mv (.t 0), none⟩, ⟨(some 4), .nilc (.t 3), none⟩, ⟨(some 5), .fad 330 (.t 4), none⟩, ⟨(some 6), .ld none (.t 5), none⟩, ⟨(some 7), .lenC (.t 6), none⟩, ⟨(some 2), .mv (.t 7), none⟩]) .ret))⟩
def c_head_Head_Pool : IFunc :=
  ⟨7, [.cell 2 (some 330)], (.seq (.reg [⟨(some 2), .new [(324, (.int .i64 0)), (6, (.int .u64 0))], none⟩]) (.seq (.reg [⟨(some 3), .mv (.t 0), none⟩, ⟨(some 4), .nilc (.t 3), none⟩, ⟨(some 5), .fad 0 (.t 4), none⟩, ⟨(some 6), .ld (some 330) (.t 5), none⟩, ⟨none, .st 330 (.t 2) (.t 6), none⟩]) .ret))⟩
def c_head_Head_all : IFunc :=
  ⟨22, [.tmp 2], (.seq (.reg [⟨(some 2), .mv (.c (.bool false)), none⟩]) (.seq (.seq (.reg [⟨(some 5), .mv (.t 0), none⟩, ⟨(some 6), .nilc (.t 5), none⟩, ⟨(some 7), .fad 331 (.t 6), none⟩, ⟨(some 8), .ld none (.t 7), none⟩, ⟨(some 9), .rng (.t 8), none⟩]) (.block 0 (.loop (.seq (.reg [⟨(some 10), .nxt (.t 9), none⟩, ⟨(some 11), .ext 0 (.t 10), none⟩]) (.seq (.cond (.t 11) .skip (.exit 0)) (.block 1 (.seq (.reg [⟨(some 12), .ent (.t 9), none⟩, ⟨(some 13), .ext 1 (.t 12), none⟩, ⟨(some 4), .new [(2, (.int .i64 0))], none⟩, ⟨none, .st 2 (.t 4) (.t 13), none⟩]) (.seq (.dreg [⟨(some 14), .fad 1 (.t 4), none⟩, ⟨(some 15), .ld none (.t 14), none⟩, ⟨(some 16), .mv (.t 0), none⟩, ⟨(some 17), .nilc (.t 16), none⟩, ⟨(some 18), .fad 0 (.t 17), none⟩, ⟨(some 19), .fad 0 (.t 18), none⟩, ⟨(some 20), .ld none (.t 19), none⟩, ⟨(some 21), .bin .neq (.t 15) (.t 20), none⟩] [[], [0], [], [2], [3, 2], [4, 3, 2], [5, 4, 3, 2], [1, 0, 6, 5, 4, 3, 2]]) (.cond (.t 21) (.seq (.reg [⟨(some 2), .mv (.c (.bool false)), none⟩]) .ret) .skip))))))))) (.seq (.reg [⟨(some 2), .mv (.c (.bool true)), none⟩]) .ret)))⟩
theorem heard_eq (hd : List (Int × Int)) (n : Nt) : heardS hd n = (if (!n.a) = true then hd else if (!(lkS hd n.u).2) = true then hd else if decide (n.b < (lkS hd n.u).1.1) = true then hd else if decide (n.b > (lkS hd n.u).1.1) = true then hd.set n.u.toNat (n.b, mxS n.v) else if decide (mxS n.v > (lkS hd n.u).1.2) = true then hd.set n.u.toNat (n.b, mxS n.v) else hd.set n.u.toNat ((lkS hd n.u).1.1, (lkS hd n.u).1.2)) := by
  unfold heardS
  cases h1 : n.a <;> cases h2 : (lkS hd n.u).2 <;> simp
  by_cases h3 : n.b < (lkS hd n.u).1.1 <;> by_cases h4 : (lkS hd n.u).1.1 < n.b <;> by_cases h5 : (lkS hd n.u).1.2 < mxS n.v <;> simp [h3, h4, h5]
theorem allW_true {hd : List (Int × Int)} {v : Int} (h : ∀ k, k < (hdM hd).length → (hd.getD k (0, 0)).2 = v) : allW hd v = true := by
  refine List.all_eq_true.2 fun x hx => ?_
  obtain ⟨k, hk⟩ := List.mem_iff_getElem?.1 hx
  have := h k (by rw [hdM_length]; exact lt_of_getElem? hk)
  simp [List.getD_eq_getElem?_getD, hk] at this
  simp [this]
theorem allW_false {hd : List (Int × Int)} {v : Int} {j : Nat} {x : Int × Int} (hx : hd[j]? = some x) (h : ¬ x.2 = v) : allW hd v = false := by
  have hm := List.mem_of_getElem? hx
  cases hq : allW hd v with
  | false => rfl
  | true => exact absurd (by simpa using List.all_eq_true.1 hq x hm) h
theorem seen_more {α : Type} {es : List α} {seen : List Nat} {j : Nat} {e : α} (hn : seen.Nodup ∧ ∀ k ∈ seen, k < es.length) (hj : j ∉ seen) (he : es[j]? = some e) : (seen ++ [j]).Nodup ∧ ∀ k ∈ seen ++ [j], k < es.length := by
  refine ⟨List.nodup_append.2 ⟨hn.1, by simp, fun a ha b hb => ?_⟩, fun k hk => ?_⟩
  · simp at hb; subst hb; rintro rfl; exact hj ha
  · rcases List.mem_append.1 hk with h | h
    · exact hn.2 k h
    · simp at h; subst h; exact lt_of_getElem? he
theorem nodup_le : ∀ {n : Nat} {l : List Nat}, l.Nodup → (∀ k ∈ l, k < n) → l.length ≤ n
  | 0, l, _, hb => by
    cases l with
    | nil => simp
    | cons a t => exact absurd (hb a (by simp)) (by omega)
  | n + 1, l, h, hb => by
    have h1 := nodup_le (n := n) (l := l.erase n) (h.erase n) fun k hk => by
      have h2 := hb k (List.mem_of_mem_erase hk)
      have h3 : k ≠ n := by rintro rfl; exact List.Nodup.not_mem_erase h hk
      omega
    by_cases hm : n ∈ l
    · rw [List.length_erase_of_mem hm] at h1; omega
    · rw [List.erase_of_not_mem hm] at h1; omega
theorem seen_less {α : Type} {es : List α} {seen : List Nat} {j : Nat} {e : α} (hn : seen.Nodup ∧ ∀ k ∈ seen, k < es.length) (hj : j ∉ seen) (he : es[j]? = some e) : es.length - (seen ++ [j]).length < es.length - seen.length := by
  have h := seen_more hn hj he
  have := nodup_le h.1 h.2
  simp at this ⊢; omega
theorem seen_val {hd : List (Int × Int)} {v : Int} {seen : List Nat} {j : Nat} {x : Int × Int} (h : ∀ k, k ∈ seen → ∀ (hk : k < (hdM hd).length), (hd.getD k (0, 0)).2 = v) (hx : hd[j]? = some x) (hq : ¬ x.2 ≠ v) : ∀ k, k ∈ seen ++ [j] → ∀ (hk : k < (hdM hd).length), (hd.getD k (0, 0)).2 = v := by
  intro k hk hl
  rcases List.mem_append.1 hk with h1 | h1
  · exact h k h1 hl
  · simp at h1; subst h1
    simp [List.getD_eq_getElem?_getD, hx]; exact Decidable.of_not_not hq
theorem HVersionC {P : Program} (hc : codeOf P "(*roundhouse/head.Head).Version" = some c_head_Head_Version) (p : Flat) (w : List Ent) (hd : List (Int × Int)) (e : Ent) (b : Bool) :
    Env P "(*roundhouse/head.Head).Version" [pv 0 0] ([cr (headL p 1 2 e b), .chan 200 (w.map entV), .map (hdM hd)]) (fun v h' => v = iv (p 0) ∧ h' = [cr (headL p 1 2 e b), .chan 200 (w.map entV), .map (hdM hd)]) := by
 refine Env.by2 hc ?_
 unfold c_head_Head_Version
 show GC _ 3 _ _ ⟨reg [(0, pv 0 0)], [cr (headL p 1 2 e b), .chan 200 (w.map entV), .map (hdM hd)]⟩
 refine gseq ?_
 refine greg ?_
 refine o_d 1 [(2, iv 0)] (by kernel_rfl) ?_
 refine o_nil ?_
 refine seq_go ?_
 refine gseq ?_
 refine greg ?_
 refine o_d 4 [(6, pv 0 0), (5, pv 0 0), (4, pv 0 0), (3, pv 0 0)] (by kernel_rfl) ?_
 refine o_s (by refine run_ld (v := iv (p 0)) rfl rfl ?_; exact head_rP (pl_r p 0 rfl (by omega))) ?_
 refine o_d 1 [(2, iv (p 0))] (by kernel_rfl) ?_
 refine o_nil ?_
 refine seq_go ?_
 refine gret ?_
 exact ⟨trivial, ⟨reg [(2, iv (p 0))], [cr (headL p 1 2 e b), .chan 200 (w.map entV), .map (hdM hd)]⟩, Wk.ren [0, 1, 2] rfl rfl (by decide) ⟨rfl, trivial⟩ ⟨.inl (ren_headS rfl rfl), ⟨.inl (congrArg some (ren_entsV _).symm), ⟨.inl (congrArg some (ren_hdM _).symm), trivial⟩⟩⟩, [iv (p 0)], (resV_t rfl rfl), (tup_cons rfl tup_nil), rfl, rfl⟩
theorem HWaitingC {P : Program} (hc : codeOf P "(*roundhouse/head.Head).Waiting" = some c_head_Head_Waiting) (p : Flat) (w : List Ent) (hd : List (Int × Int)) (e : Ent) (b : Bool) :
    Env P "(*roundhouse/head.Head).Waiting" [pv 0 0] ([cr (headL p 1 2 e b), .chan 200 (w.map entV), .map (hdM hd)]) (fun v h' => v = iv (w.length : Nat) ∧ h' = [cr (headL p 1 2 e b), .chan 200 (w.map entV), .map (hdM hd)]) := by
 refine Env.by2 hc ?_
 unfold c_head_Head_Waiting
 show GC _ 3 _ _ ⟨reg [(0, pv 0 0)], [cr (headL p 1 2 e b), .chan 200 (w.map entV), .map (hdM hd)]⟩
 refine gseq ?_
 refine greg ?_
 refine o_d 1 [(2, iv 0)] (by kernel_rfl) ?_
 refine o_nil ?_
 refine seq_go ?_
 refine gseq ?_
 refine greg ?_
 refine o_d 3 [(5, pv 0 330), (4, pv 0 0), (3, pv 0 0)] (by kernel_rfl) ?_
 refine o_s (by refine run_ld (v := .chan (some 1)) rfl rfl ?_; exact (head_rT 0).trans rfl) ?_
 refine o_s (by exact run_lenW (w := w) rfl rfl) ?_
 refine o_d 1 [(2, iv (w.length : Nat))] (by kernel_rfl) ?_
 refine o_nil ?_
 refine seq_go ?_
 refine gret ?_
 exact ⟨trivial, ⟨reg [(2, iv (w.length : Nat))], [cr (headL p 1 2 e b), .chan 200 (w.map entV), .map (hdM hd)]⟩, Wk.ren [0, 1, 2] rfl rfl (by decide) ⟨rfl, trivial⟩ ⟨.inl (ren_headS rfl rfl), ⟨.inl (congrArg some (ren_entsV _).symm), ⟨.inl (congrArg some (ren_hdM _).symm), trivial⟩⟩⟩, [iv (w.length : Nat)], (resV_t rfl rfl), (tup_cons rfl tup_nil), rfl, rfl⟩
theorem HPoolC {P : Program} (hc : codeOf P "(*roundhouse/head.Head).Pool" = some c_head_Head_Pool) (p : Flat) (w : List Ent) (hd : List (Int × Int)) (e : Ent) (b : Bool) :
    Env P "(*roundhouse/head.Head).Pool" [pv 0 0] ([cr (headL p 1 2 e b), .chan 200 (w.map entV), .map (hdM hd)]) (fun v h' => v = poolV p ∧ h' = [cr (headL p 1 2 e b), .chan 200 (w.map entV), .map (hdM hd), cw (pl p)]) := by
 refine Env.by2 hc ?_
 unfold c_head_Head_Pool
 show GC _ 3 _ _ ⟨reg [(0, pv 0 0)], [cr (headL p 1 2 e b), .chan 200 (w.map entV), .map (hdM hd)]⟩
 refine gseq ?_
 refine greg ?_
 refine o_b 1 [(2, pv 3 0)] [cr (headL p 1 2 e b), .chan 200 (w.map entV), .map (hdM hd), cw (pl zeroP)] (by kernel_rfl) ?_
 refine o_nil ?_
 refine seq_go ?_
 refine gseq ?_
 refine greg ?_
 refine o_d 3 [(5, pv 0 0), (4, pv 0 0), (3, pv 0 0)] (by kernel_rfl) ?_
 refine o_s (by refine run_ld (v := poolV p) rfl rfl ?_; exact head_rP (pl_all p)) ?_
 refine o_s0 (by refine run_st (c' := pl p) rfl rfl rfl ?_ ?_ ?_; exact pl_length _; exact pl_le (by omega); exact splice_pl0 zeroP p) ?_
 refine o_nil ?_
 refine seq_go ?_
 refine gret ?_
 exact ⟨trivial, ⟨reg [(2, pv 3 0)], [cr (headL p 1 2 e b), .chan 200 (w.map entV), .map (hdM hd), cw (pl p)]⟩, Wk.ren [0, 1, 2, 3] rfl rfl (by decide) ⟨rfl, trivial⟩ ⟨.inl (ren_headS rfl rfl), ⟨.inl (congrArg some (ren_entsV _).symm), ⟨.inl (congrArg some (ren_hdM _).symm), ⟨.inl (ren_cells (pl_scl p)), trivial⟩⟩⟩⟩, [poolV p], (resV_c rfl rfl (pl_all p) rfl), (tup_cons rfl tup_nil), rfl, rfl⟩
theorem HallC {P : Program} (hc : codeOf P "(*roundhouse/head.Head).all" = some c_head_Head_all) (p : Flat) (w : List Ent) (hd : List (Int × Int)) (e : Ent) (b : Bool) :
    Env P "(*roundhouse/head.Head).all" [pv 0 0] ([cr (headL p 1 2 e b), .chan 200 (w.map entV), .map (hdM hd)]) (fun v h' => v = bv (allW hd (p 0)) ∧ h' = [cr (headL p 1 2 e b), .chan 200 (w.map entV), .map (hdM hd)]) := by
 refine Env.by2 hc ?_
 unfold c_head_Head_all
 show GC _ 3 _ _ ⟨reg [(0, pv 0 0)], [cr (headL p 1 2 e b), .chan 200 (w.map entV), .map (hdM hd)]⟩
 refine gseq ?_
 refine greg ?_
 refine o_d 1 [(2, bv false)] (by kernel_rfl) ?_
 refine o_nil ?_
 refine seq_go ?_
 refine gseq ?_
 refine gseq ?_
 refine greg ?_
 refine o_d 3 [(7, pv 0 331), (6, pv 0 0), (5, pv 0 0)] (by kernel_rfl) ?_
 refine o_s (by refine run_ld (v := .map (some 2)) rfl rfl ?_; exact (head_rT 1).trans rfl) ?_
 refine o_rng (k := 2) (es := hdM hd) rfl rfl ?_
 refine o_nil ?_
 refine seq_go ?_
 refine gblock ?_
 refine gloop (fun μ s => ∃ (seen : List Nat), μ = (hdM hd).length - seen.length ∧ (seen.Nodup ∧ ∀ k ∈ seen, k < (hdM hd).length) ∧ (∀ k, k ∈ seen → ∀ (hk : k < (hdM hd).length), (hd.getD k (0, 0)).2 = p 0) ∧ s = ⟨reg [(9, pv 3 0), (0, pv 0 0)], [cr (headL p 1 2 e b), .chan 200 (w.map entV), .map (hdM hd), .iter 2 ((hdM hd).length) seen]⟩) ⟨((hdM hd).length - ([] : List Nat).length), ?_⟩ ?_
 ·skip
  refine ⟨⟨reg [(9, pv 3 0), (0, pv 0 0)], [cr (headL p 1 2 e b), .chan 200 (w.map entV), .map (hdM hd), .iter 2 ((hdM hd).length) ([] : List Nat)]⟩, ?_⟩
  refine ⟨?_, ?_⟩
  ·exact Wk.ren [0, 1, 2, 3] rfl rfl (by decide) ⟨rfl, ⟨rfl, trivial⟩⟩ ⟨.inl (ren_headS rfl rfl), ⟨.inl (congrArg some (ren_entsV _).symm), ⟨.inl (congrArg some (ren_hdM _).symm), ⟨.inl rfl, trivial⟩⟩⟩⟩
  ·exact ⟨([] : List Nat), rfl, ⟨List.nodup_nil, by simp⟩, (by simp), rfl⟩
 rintro μ s ⟨seen, rfl, hn, hv, rfl⟩
 refine gseq ?_
 refine greg ?_
 refine o_nxt (k := 3) (m := 2) (es := hdM hd) (seen := seen) rfl rfl rfl (fun hall => ?_) (fun j e hj he => ?_)
 ·skip
  refine o_d 1 [(11, bv false)] (by kernel_rfl) ?_
  refine o_nil ?_
  refine seq_go ?_
  refine gseq ?_
  refine gfalse rfl ?_
  refine gexit ?_
  refine seq_go ?_
  refine gseq ?_
  refine greg ?_
  refine o_d 1 [(2, bv true)] (by kernel_rfl) ?_
  refine o_nil ?_
  refine seq_go ?_
  refine gret ?_
  have e0 : true = allW hd (p 0) := by
   rw [eq_comm, allW_true]; intro k hk; exact hv k (hall k hk) hk
  exact ⟨trivial, ⟨reg [(2, bv true)], [cr (headL p 1 2 e b), .chan 200 (w.map entV), .map (hdM hd)]⟩, Wk.ren [0, 1, 2] rfl rfl (by decide) ⟨rfl, trivial⟩ ⟨.inl (ren_headS rfl rfl), ⟨.inl (congrArg some (ren_entsV _).symm), ⟨.inl (congrArg some (ren_hdM _).symm), trivial⟩⟩⟩, [bv true], (resV_t rfl rfl), (tup_cons rfl tup_nil), (congrArg Value.bool e0), rfl⟩
 obtain ⟨x, hx, rfl⟩ := hdM_inv he
 refine o_d 1 [(11, bv true)] (by kernel_rfl) ?_
 refine o_nil ?_
 refine seq_go ?_
 refine gseq ?_
 refine gtrue rfl ?_
 refine gskip ?_
 refine seq_go ?_
 refine gblock ?_
 refine gseq ?_
 refine greg ?_
 refine o_ent (k := 3) (m := 2) (es := hdM hd) (j := j) (e := (iv (j : Nat), .agg #[iv x.1, iv x.2])) rfl rfl rfl he ?_
 refine o_b 3 [(4, pv 4 0), (13, .agg #[iv x.1, iv x.2])] [cr (headL p 1 2 e b), .chan 200 (w.map entV), .map (hdM hd), .iter 2 ((hdM hd).length) (seen ++ [j]), cw [iv x.1, iv x.2]] (by kernel_rfl) ?_
 refine o_nil ?_
 refine seq_go ?_
 refine gseq ?_
 refine gdreg [] (by kernel_rfl) ?_
 refine r_d 6 [(19, pv 0 0), (18, pv 0 0), (17, pv 0 0), (16, pv 0 0), (15, iv x.2), (14, pv 4 1)] (by kernel_rfl) ?_
 refine r_s (by refine run_ld (v := iv (p 0)) rfl rfl ?_; exact head_rP (pl_r p 0 rfl (by omega))) ?_
 refine r_d 1 [(21, bv (x.2 != (p 0)))] (by kernel_rfl) ?_
 refine r_nil ?_
 refine seq_go ?_
 refine gcond (t := x.2 != (p 0)) rfl (fun h1 => ?_) (fun h1 => ?_)
 ·skip
  have h1' : x.2 ≠ p 0 := neI_t h1
  refine gseq ?_
  refine greg ?_
  refine o_d 1 [(2, bv false)] (by kernel_rfl) ?_
  refine o_nil ?_
  refine seq_go ?_
  refine gret ?_
  have e0 : false = allW hd (p 0) := by
   rw [eq_comm]; exact allW_false hx (by assumption)
  exact ⟨trivial, ⟨reg [(2, bv false)], [cr (headL p 1 2 e b), .chan 200 (w.map entV), .map (hdM hd)]⟩, Wk.ren [0, 1, 2] rfl rfl (by decide) ⟨rfl, trivial⟩ ⟨.inl (ren_headS rfl rfl), ⟨.inl (congrArg some (ren_entsV _).symm), ⟨.inl (congrArg some (ren_hdM _).symm), trivial⟩⟩⟩, [bv false], (resV_t rfl rfl), (tup_cons rfl tup_nil), (congrArg Value.bool e0), rfl⟩
 have h1' : ¬ (x.2 ≠ p 0) := neI_f h1
 refine gskip ?_
 refine ⟨(hdM hd).length - (seen ++ [j]).length, ?_⟩
 refine ⟨⟨reg [(9, pv 3 0), (0, pv 0 0)], [cr (headL p 1 2 e b), .chan 200 (w.map entV), .map (hdM hd), .iter 2 ((hdM hd).length) (seen ++ [j])]⟩, ?_⟩
 refine and3 (by exact seen_less hn hj he) ⟨?_, ?_⟩
 ·exact Wk.ren [0, 1, 2, 3] rfl rfl (by decide) ⟨rfl, ⟨rfl, trivial⟩⟩ ⟨.inl (ren_headS rfl rfl), ⟨.inl (congrArg some (ren_entsV _).symm), ⟨.inl (congrArg some (ren_hdM _).symm), ⟨.inl rfl, trivial⟩⟩⟩⟩
 ·exact ⟨(seen ++ [j]), rfl, (seen_more hn hj he), (seen_val hv hx (by assumption)), rfl⟩
theorem HwaitingC {P : Program} (hc : codeOf P "(*roundhouse/head.Head).waiting" = some c_head_Head_waiting) (p : Flat) (w : List Ent) (hd : List (Int × Int)) (e : Ent) (b : Bool) (hw : w.length ≤ 200) :
    Env P "(*roundhouse/head.Head).waiting" [pv 0 0] ([cr (headL p 1 2 e b), .chan 200 (w.map entV), .map (hdM hd)]) (fun v h' => ∃ q : Option Nat, (q = none → w = []) ∧ v = slV 3 w.length q ∧ h' = [cr (headL p 1 2 e b), .chan 200 (w.map entV), .map (hdM hd), slB zE (entsL w) q]) := by
 refine Env.by2 hc ?_
 unfold c_head_Head_waiting
 show GC _ 3 _ _ ⟨reg [(0, pv 0 0)], [cr (headL p 1 2 e b), .chan 200 (w.map entV), .map (hdM hd)]⟩
 refine gseq ?_
 refine greg ?_
 refine o_d 1 [(2, .slice none 0 0)] (by kernel_rfl) ?_
 refine o_nil ?_
 refine seq_go ?_
 refine gseq ?_
 refine greg ?_
 refine o_d 1 [(3, .slice none 0 0)] (by kernel_rfl) ?_
 refine o_nil ?_
 refine seq_go ?_
 refine gseq ?_
 refine gseq ?_
 refine greg ?_
 refine o_d 3 [(7, pv 0 330), (6, pv 0 0), (5, pv 0 0)] (by kernel_rfl) ?_
 refine o_s (by refine run_ld (v := .chan (some 1)) rfl rfl ?_; exact (head_rT 0).trans rfl) ?_
 refine o_s (by exact run_lenW (w := w) rfl rfl) ?_
 refine o_d 1 [(10, iv 0)] (by kernel_rfl) ?_
 refine o_nil ?_
 refine seq_go ?_
 refine gblock ?_
 refine gloop (fun μ s => ∃ (i : Nat), ∃ (wc : List Ent), ∃ (q : Option Nat), μ = w.length - i ∧ (i ≤ w.length) ∧ (wc = w.drop i ++ w.take i) ∧ (q = none → i = 0) ∧ s = ⟨reg [(10, iv (i : Int)), (9, iv (w.length : Nat)), (3, slV 3 i q), (0, pv 0 0)], [cr (headL p 1 2 e b), .chan 200 (wc.map entV), .map (hdM hd), slB zE (entsL (w.take i)) q]⟩) ⟨(w.length - 0), ?_⟩ ?_
 ·skip
  refine ⟨⟨reg [(10, iv (0 : Int)), (9, iv (w.length : Nat)), (3, slV 3 0 none), (0, pv 0 0)], [cr (headL p 1 2 e b), .chan 200 (w.map entV), .map (hdM hd), slB zE (entsL (w.take 0)) none]⟩, ?_⟩
  refine ⟨?_, ?_⟩
  ·exact Wk.ren [0, 1, 2, 6] rfl rfl (by decide) ⟨rfl, ⟨rfl, ⟨rfl, ⟨rfl, trivial⟩⟩⟩⟩ ⟨.inl (ren_headS rfl rfl), ⟨.inl (congrArg some (ren_entsV _).symm), ⟨.inl (congrArg some (ren_hdM _).symm), ⟨.inr ⟨rfl, rfl⟩, trivial⟩⟩⟩⟩
  ·exact ⟨0, w, none, rfl, (Nat.zero_le _), (by simp), (fun _ => rfl), rfl⟩
 rintro μ s ⟨i, wc, q, rfl, hi, hwc, hq, rfl⟩
 refine gseq ?_
 refine greg ?_
 refine o_d 1 [(11, bv (decide ((i : Int) < (w.length : Nat))))] (by kernel_rfl) ?_
 refine o_nil ?_
 refine seq_go ?_
 refine gseq ?_
 refine gcond (t := decide ((i : Int) < (w.length : Nat))) rfl (fun h1 => ?_) (fun h1 => ?_)
 ·skip
  have h1' : (i : Int) < (w.length : Nat) := of_decide_eq_true h1
  refine gskip ?_
  refine seq_go ?_
  refine gseq ?_
  refine gblock ?_
  refine gseq ?_
  refine greg ?_
  refine o_d 3 [(14, pv 0 330), (13, pv 0 0), (12, pv 0 0)] (by kernel_rfl) ?_
  refine o_s (by refine run_ld (v := .chan (some 1)) rfl rfl ?_; exact (head_rT 0).trans rfl) ?_
  obtain ⟨x, hx, hdr, ht⟩ := get_of_lt (l := w) (i := i) (by omega)
  refine o_rcv (k := 1) (v := entV x) (b := (w.drop (i + 1) ++ w.take i).map entV) rfl (by show some (Blk.chan 200 (wc.map entV)) = some (Blk.chan 200 (entV x :: (w.drop (i + 1) ++ w.take i).map entV)); rw [(by rw [hwc, hdr]; rfl : wc = x :: (w.drop (i + 1) ++ w.take i))]; rfl) ?_
  refine o_b 2 [(4, pv 4 0)] [cr (headL p 1 2 e b), .chan 200 ((w.drop (i + 1) ++ w.take i).map entV), .map (hdM hd), slB zE (entsL (w.take i)) q, cw [iv x.k, iv x.s, iv x.a, iv x.p, iv x.g, uv x.ka, uv x.kb]] (by kernel_rfl) ?_
  refine o_nil ?_
  refine seq_go ?_
  refine gseq ?_
  refine gdregD [cr (headL p 1 2 e b), .chan 200 ((w.drop (i + 1) ++ w.take i).map entV), .map (hdM hd), slB zE (entsL (w.take i)) q, cw [iv x.k, iv x.s, iv x.a, iv x.p, iv x.g, uv x.ka, uv x.kb]] (by kernel_rfl) ?_
  refine d_n 3 3 5 [(19, pv 0 330), (18, pv 0 0), (17, pv 0 0)] [cr (headL p 1 2 e b), .chan 200 ((w.drop (i + 1) ++ w.take i).map entV), .map (hdM hd), slB zE (entsL (w.take i)) q, cw [iv x.k, iv x.s, iv x.a, iv x.p, iv x.g, uv x.ka, uv x.kb]] [] (by kernel_rfl) rfl rfl ?_
  refine d_s rfl rfl rfl (by kernel_rfl) (by refine run_ld (v := .chan (some 1)) rfl rfl ?_; exact (head_rT 0).trans rfl) ?_
  refine d_n 1 5 5 [(21, .agg #[iv x.k, iv x.s, iv x.a, iv x.p, iv x.g, uv x.ka, uv x.kb])] [cr (headL p 1 2 e b), .chan 200 ((w.drop (i + 1) ++ w.take i).map entV), .map (hdM hd), slB zE (entsL (w.take i)) q, cw [iv x.k, iv x.s, iv x.a, iv x.p, iv x.g, uv x.ka, uv x.kb]] [⟨4, [4], [], none⟩, ⟨3, [0], [], none⟩] (by kernel_rfl) rfl rfl ?_
  refine d_snd (k := 1) (b := (w.drop (i + 1) ++ w.take i).map entV) (b2 := ((w.drop (i + 1) ++ w.take i) ++ [x]).map entV) rfl rfl rfl (by rw [List.length_map]; simp; omega) rfl (ents_snocV (w.drop (i + 1) ++ w.take i) x) ?_
  refine d_nil ?_
  refine seq_go ?_
  refine greg ?_
  refine o_b 3 [(24, sv 5 0 1 1), (23, .agg #[iv x.k, iv x.s, iv x.a, iv x.p, iv x.g, uv x.ka, uv x.kb]), (22, slV 3 i q)] [cr (headL p 1 2 e b), .chan 200 (((w.drop (i + 1) ++ w.take i) ++ [x]).map entV), .map (hdM hd), slB zE (entsL (w.take i)) q, cw [iv x.k, iv x.s, iv x.a, iv x.p, iv x.g, uv x.ka, uv x.kb], cw [iv x.k, iv x.s, iv x.a, iv x.p, iv x.g, uv x.ka, uv x.kb]] (by kernel_rfl) ?_
  refine o_appC (k := 3) (n := i) (o := q) (q := 1) (cs := entsL (w.take i)) (xs := [iv x.k, iv x.s, iv x.a, iv x.p, iv x.g, uv x.ka, uv x.kb]) (cs2 := entsL (w.take (i + 1))) (zl := zE) rfl rfl rfl (fun m q => by subst q; rfl) (fun z => by have h0 := hq z; subst h0; exact ⟨rfl, rfl⟩) (by rw [entsL_len]; first | omega | (simp; try omega)) rfl rfl (app_first rfl rfl (by simp)) (by rfl) (by omega) (by omega) (by rw [ht]; exact entsL_app1 _ x) (fun m2 e3 => ?_) (fun m2 => ?_)
  ·skip
   subst e3
   refine o_d 1 [(3, sv 3 0 (i + 1) (i + 1 + m2))] (by kernel_rfl) ?_
   refine o_nil ?_
   refine seq_go ?_
   refine greg ?_
   refine o_s (by refine run_val (v := .int .i64 (IntKind.i64.wrap ((i : Int) + 1))) (congrArg (Value.int .i64) (w64 (by omega) (by omega))) ?_; kernel_rfl) ?_
   refine o_d 1 [(10, iv ((i : Int) + 1))] (by kernel_rfl) ?_
   refine o_nil ?_
   refine ⟨w.length - (i + 1), ?_⟩
   refine ⟨⟨reg [(10, iv ((i + 1) : Int)), (9, iv (w.length : Nat)), (3, slV 3 (i + 1) (some m2)), (0, pv 0 0)], [cr (headL p 1 2 e b), .chan 200 (((w.drop (i + 1) ++ w.take i) ++ [x]).map entV), .map (hdM hd), slB zE (entsL (w.take (i + 1))) (some m2)]⟩, ?_⟩
   refine and3 (by omega) ⟨?_, ?_⟩
   ·exact Wk.ren [0, 1, 2, 3] rfl rfl (by decide) ⟨rfl, ⟨rfl, ⟨rfl, ⟨rfl, trivial⟩⟩⟩⟩ ⟨.inl (ren_headS rfl rfl), ⟨.inl (congrArg some (ren_entsV _).symm), ⟨.inl (congrArg some (ren_hdM _).symm), ⟨.inl (ren_cells (entsR_scl _ _)), trivial⟩⟩⟩⟩
   ·exact ⟨(i + 1), ((w.drop (i + 1) ++ w.take i) ++ [x]), (some m2), rfl, by omega, (by rw [ht, List.append_assoc]), (fun q => by cases q), rfl⟩
  refine o_d 1 [(3, sv 6 0 (i + 1) (i + 1 + m2))] (by kernel_rfl) ?_
  refine o_nil ?_
  refine seq_go ?_
  refine greg ?_
  refine o_s (by refine run_val (v := .int .i64 (IntKind.i64.wrap ((i : Int) + 1))) (congrArg (Value.int .i64) (w64 (by omega) (by omega))) ?_; kernel_rfl) ?_
  refine o_d 1 [(10, iv ((i : Int) + 1))] (by kernel_rfl) ?_
  refine o_nil ?_
  refine ⟨w.length - (i + 1), ?_⟩
  refine ⟨⟨reg [(10, iv ((i + 1) : Int)), (9, iv (w.length : Nat)), (3, slV 3 (i + 1) (some m2)), (0, pv 0 0)], [cr (headL p 1 2 e b), .chan 200 (((w.drop (i + 1) ++ w.take i) ++ [x]).map entV), .map (hdM hd), slB zE (entsL (w.take (i + 1))) (some m2)]⟩, ?_⟩
  refine and3 (by omega) ⟨?_, ?_⟩
  ·exact Wk.ren [0, 1, 2, 6] rfl rfl (by decide) ⟨rfl, ⟨rfl, ⟨rfl, ⟨rfl, trivial⟩⟩⟩⟩ ⟨.inl (ren_headS rfl rfl), ⟨.inl (congrArg some (ren_entsV _).symm), ⟨.inl (congrArg some (ren_hdM _).symm), ⟨.inl (ren_cells (entsR_scl _ _)), trivial⟩⟩⟩⟩
  ·exact ⟨(i + 1), ((w.drop (i + 1) ++ w.take i) ++ [x]), (some m2), rfl, by omega, (by rw [ht, List.append_assoc]), (fun q => by cases q), rfl⟩
 have h1' : ¬ ((i : Int) < (w.length : Nat)) := of_decide_eq_false h1
 refine gexit ?_
 refine seq_go ?_
 refine gseq ?_
 refine greg ?_
 refine o_d 2 [(2, slV 3 i q), (27, slV 3 i q)] (by kernel_rfl) ?_
 refine o_nil ?_
 refine seq_go ?_
 refine gret ?_
 have hil : i = w.length := by omega
 have htk : w.take i = w := by rw [hil]; simp
 have hwc2 : wc = w := by rw [hwc, hil]; simp
 exact ⟨trivial, ⟨reg [(2, slV 3 i q)], [cr (headL p 1 2 e b), .chan 200 (wc.map entV), .map (hdM hd), slB zE (entsL (w.take i)) q]⟩, Wk.ren [0, 1, 2, 3] rfl rfl (by decide) ⟨(renV_slV q rfl).trans rfl, trivial⟩ ⟨.inl (ren_headS rfl rfl), ⟨.inl (congrArg some (ren_entsV _).symm), ⟨.inl (congrArg some (ren_hdM _).symm), ⟨.inl (ren_slB q (fun _ => (entsR_scl _ _))), trivial⟩⟩⟩⟩, [slV 3 i q], (resV_t rfl rfl), (tup_cons (isTup_slV _ _ _) tup_nil), q, (fun z => List.eq_nil_of_length_eq_zero (by have := hq z; omega)), (by rw [hil]; rfl), (by rw [hwc2, htk])⟩
theorem HpublishC {P : Program} (hc : codeOf P "(*roundhouse/head.Head).publish" = some c_head_Head_publish) (h_pool_Apply : codeOf P "roundhouse/pool.Apply" = some c_pool_Apply) (h_pool_may : codeOf P "roundhouse/pool.may" = some c_pool_may) (h_pool_held : codeOf P "roundhouse/pool.held" = some c_pool_held) (h_pool_fits : codeOf P "roundhouse/pool.fits" = some c_pool_fits) (h_pool_Check : codeOf P "roundhouse/pool.Check" = some c_pool_Check) (h_pool_placed : codeOf P "roundhouse/pool.placed" = some c_pool_placed) (h_cookie_Next : codeOf P "roundhouse/cookie.Next" = some c_cookie_Next) (p : Flat) (w : List Ent) (hd : List (Int × Int)) (e : Ent) (b : Bool) :
    Env P "(*roundhouse/head.Head).publish" [pv 0 0] ([cw (headL p 1 2 e b), .chan 200 (w.map entV), .map (hdM hd)]) (fun v h' => v = .tuple #[] ∧ h' = [cw (headL (pubS ⟨p, w, hd, e, b⟩).p 1 2 (pubS ⟨p, w, hd, e, b⟩).e (pubS ⟨p, w, hd, e, b⟩).s), .chan 200 ((pubS ⟨p, w, hd, e, b⟩).w.map entV), .map (hdM hd)]) := by
 refine Env.by2 hc ?_
 unfold c_head_Head_publish
 show GC _ 3 _ _ ⟨reg [(0, pv 0 0)], [cw (headL p 1 2 e b), .chan 200 (w.map entV), .map (hdM hd)]⟩
 refine gseq ?_
 refine greg ?_
 refine o_d 3 [(7, pv 0 330), (6, pv 0 0), (5, pv 0 0)] (by kernel_rfl) ?_
 refine o_s (by refine run_ld (v := .chan (some 1)) rfl rfl ?_; exact (head_rT 0).trans rfl) ?_
 refine o_nil ?_
 refine seq_go ?_
 refine gseq ?_
 refine greg ?_
 rcases w with _ | ⟨e1, r1⟩
 ·skip
  refine o_sel0 (k := 1) rfl rfl rfl ?_
  refine o_d 2 [(11, bv false), (10, iv (-1))] (by kernel_rfl) ?_
  refine o_nil ?_
  refine seq_go ?_
  refine gblock ?_
  refine gfalse rfl ?_
  refine gskip ?_
  exact ⟨trivial, ⟨reg [], [cw (headL p 1 2 e b), .chan 200 (([] : List Ent).map entV), .map (hdM hd)]⟩, Wk.ren [0, 1, 2] rfl rfl (by decide) trivial ⟨.inl (ren_headS rfl rfl), ⟨.inl (congrArg some (ren_entsV _).symm), ⟨.inl (congrArg some (ren_hdM _).symm), trivial⟩⟩⟩, [], rfl, tup_nil, rfl, rfl⟩
 ·skip
  refine o_sel1 (k := 1) (v := entV e1) (b := r1.map entV) rfl rfl ?_
  refine o_d 2 [(11, bv true), (10, iv 0)] (by kernel_rfl) ?_
  refine o_nil ?_
  refine seq_go ?_
  refine gblock ?_
  refine gtrue rfl ?_
  refine gseq ?_
  refine greg ?_
  refine o_b 3 [(2, pv 3 0), (12, .agg #[iv e1.k, iv e1.s, iv e1.a, iv e1.p, iv e1.g, uv e1.ka, uv e1.kb])] [cw (headL p 1 2 e b), .chan 200 (r1.map entV), .map (hdM hd), cw [iv e1.k, iv e1.s, iv e1.a, iv e1.p, iv e1.g, uv e1.ka, uv e1.kb]] (by kernel_rfl) ?_
  refine o_nil ?_
  refine seq_go ?_
  refine gseq ?_
  refine gdreg ["roundhouse/pool.Apply"] (by kernel_rfl) ?_
  refine r_d 3 [(16, pv 0 0), (15, pv 0 0), (14, pv 0 0)] (by kernel_rfl) ?_
  refine r_s (by refine run_ld (v := poolV p) rfl rfl ?_; exact head_rP (pl_all p)) ?_
  refine r_d 1 [(18, .agg #[iv e1.k, iv e1.s, iv e1.a, iv e1.p, iv e1.g, uv e1.ka, uv e1.kb])] (by kernel_rfl) ?_
  refine r_cl (callVR (ApplyC h_pool_Apply h_pool_may h_pool_held h_pool_fits h_pool_Check h_pool_placed h_cookie_Next p e1) rfl (all_cons (poolV_vpf p) (all_cons rfl rfl)) (all_cons (poolV_aggf ((applyS p e1).1)) (all_cons rfl rfl)) ?_)
  refine r_b 4 [(3, pv 4 0), (21, iv ((applyS p e1).2)), (20, poolV ((applyS p e1).1)), (13, .tuple #[poolV ((applyS p e1).1), iv ((applyS p e1).2)])] [cw (headL p 1 2 e b), .chan 200 (r1.map entV), .map (hdM hd), cw [iv e1.k, iv e1.s, iv e1.a, iv e1.p, iv e1.g, uv e1.ka, uv e1.kb], cw (pl zeroP)] (by kernel_rfl) ?_
  refine r_s0 (by refine run_st (c' := pl ((applyS p e1).1)) rfl rfl rfl ?_ ?_ ?_; exact pl_length _; exact pl_le (by omega); exact splice_pl0 zeroP ((applyS p e1).1)) ?_
  refine r_b 1 [(4, iv ((applyS p e1).2))] [cw (headL p 1 2 e b), .chan 200 (r1.map entV), .map (hdM hd), cw [iv e1.k, iv e1.s, iv e1.a, iv e1.p, iv e1.g, uv e1.ka, uv e1.kb], cw (pl ((applyS p e1).1))] (by kernel_rfl) ?_
  refine r_nil ?_
  refine seq_go ?_
  refine gseq ?_
  refine greg ?_
  refine o_d 2 [(23, bv (((applyS p e1).2) == 0)), (22, iv ((applyS p e1).2))] (by kernel_rfl) ?_
  refine o_nil ?_
  refine seq_go ?_
  refine gcond (t := ((applyS p e1).2) == 0) rfl (fun h1 => ?_) (fun h1 => ?_)
  ·skip
   have h1' : (applyS p e1).2 = 0 := eqI_t h1
   refine gdregD [cw (headL p 1 2 e b), .chan 200 (r1.map entV), .map (hdM hd), cw [iv e1.k, iv e1.s, iv e1.a, iv e1.p, iv e1.g, uv e1.ka, uv e1.kb], cw (pl ((applyS p e1).1))] (by kernel_rfl) ?_
   refine d_n 3 3 5 [(26, pv 0 0), (25, pv 0 0), (24, pv 0 0)] [cw (headL p 1 2 e b), .chan 200 (r1.map entV), .map (hdM hd), cw [iv e1.k, iv e1.s, iv e1.a, iv e1.p, iv e1.g, uv e1.ka, uv e1.kb], cw (pl ((applyS p e1).1))] [] (by kernel_rfl) rfl rfl ?_
   refine d_s rfl rfl rfl (by kernel_rfl) (by refine run_ld (v := poolV ((applyS p e1).1)) rfl rfl ?_; exact pl_all ((applyS p e1).1)) ?_
   refine d_n 3 7 5 [(30, pv 0 0), (29, pv 0 0), (28, .agg #[iv e1.k, iv e1.s, iv e1.a, iv e1.p, iv e1.g, uv e1.ka, uv e1.kb])] [cw (headL p 1 2 e b), .chan 200 (r1.map entV), .map (hdM hd), cw [iv e1.k, iv e1.s, iv e1.a, iv e1.p, iv e1.g, uv e1.ka, uv e1.kb], cw (pl ((applyS p e1).1))] [⟨4, [3], [], none⟩, ⟨3, [4], [], none⟩] (by kernel_rfl) rfl rfl ?_
   refine d_s0 rfl rfl ⟨_, _, _, rfl⟩ (by kernel_rfl) (by refine run_st (c' := headL ((applyS p e1).1) 1 2 e b) rfl rfl rfl ?_ ?_ ?_; exact pl_length _; exact head_le (by omega); exact head_wP) ?_
   refine d_n 2 10 5 [(32, pv 0 332), (31, pv 0 0)] [cw (headL ((applyS p e1).1) 1 2 e b), .chan 200 (r1.map entV), .map (hdM hd), cw [iv e1.k, iv e1.s, iv e1.a, iv e1.p, iv e1.g, uv e1.ka, uv e1.kb], cw (pl ((applyS p e1).1))] [⟨7, [0], [0], none⟩, ⟨4, [3], [], none⟩, ⟨3, [4], [], none⟩] (by kernel_rfl) rfl rfl ?_
   refine d_s0 rfl rfl ⟨_, _, _, rfl⟩ (by kernel_rfl) (by refine run_st (c' := headL ((applyS p e1).1) 1 2 e1 b) rfl rfl rfl ?_ ?_ ?_; exact rfl; exact head_le (by omega); exact head_wE (e' := e1)) ?_
   refine d_n 2 13 5 [(34, pv 0 339), (33, pv 0 0)] [cw (headL ((applyS p e1).1) 1 2 e1 b), .chan 200 (r1.map entV), .map (hdM hd), cw [iv e1.k, iv e1.s, iv e1.a, iv e1.p, iv e1.g, uv e1.ka, uv e1.kb], cw (pl ((applyS p e1).1))] [⟨10, [0], [0], none⟩, ⟨7, [0], [0], none⟩, ⟨4, [3], [], none⟩, ⟨3, [4], [], none⟩] (by kernel_rfl) rfl rfl ?_
   refine d_s0 rfl rfl ⟨_, _, _, rfl⟩ (by kernel_rfl) (by refine run_st (c' := headL ((applyS p e1).1) 1 2 e1 true) rfl rfl rfl ?_ ?_ ?_; exact rfl; exact head_le (by omega); exact head_wS) ?_
   refine d_nil ?_
   exact ⟨trivial, ⟨reg [], [cw (headL ((applyS p e1).1) 1 2 e1 true), .chan 200 (r1.map entV), .map (hdM hd)]⟩, Wk.ren [0, 1, 2] rfl rfl (by decide) trivial ⟨.inl (ren_headS rfl rfl), ⟨.inl (congrArg some (ren_entsV _).symm), ⟨.inl (congrArg some (ren_hdM _).symm), trivial⟩⟩⟩, [], rfl, tup_nil, rfl, (by simp only [pubS]; rw [if_pos h1'])⟩
  have h1' : ¬ ((applyS p e1).2 = 0) := eqI_f h1
  refine gskip ?_
  exact ⟨trivial, ⟨reg [], [cw (headL p 1 2 e b), .chan 200 (r1.map entV), .map (hdM hd)]⟩, Wk.ren [0, 1, 2] rfl rfl (by decide) trivial ⟨.inl (ren_headS rfl rfl), ⟨.inl (congrArg some (ren_entsV _).symm), ⟨.inl (congrArg some (ren_hdM _).symm), trivial⟩⟩⟩, [], rfl, tup_nil, rfl, (by simp only [pubS]; rw [if_neg h1'])⟩
theorem HNewC {P : Program} (hc : codeOf P "roundhouse/head.New" = some c_head_New) (p : Flat) (units : Int) :
    Env P "roundhouse/head.New" [poolV p, iv units] ([]) (fun v h' => if units < 1 ∨ 16 < units then v = .tuple #[.pointer none, iv 14] ∧ h' = [] else v = .tuple #[pv 0 0, iv 0] ∧ h' = [cw (headL p 1 2 e0 false), .chan 200 (([] : List Ent).map entV), .map (hdM (List.replicate units.toNat (0, -1)))]) := by
 refine Env.by2 hc ?_
 unfold c_head_New
 show GC _ 0 _ _ ⟨reg [(0, poolV p), (1, iv units)], []⟩
 refine gseq ?_
 refine greg ?_
 refine o_b 3 [(5, iv 0), (4, .pointer none), (2, pv 0 0)] [cw (pl p)] (by kernel_rfl) ?_
 refine o_nil ?_
 refine seq_go ?_
 refine gseq ?_
 refine gseq ?_
 refine greg ?_
 refine o_d 3 [(10, bv (decide (units < 1))), (9, bv (decide (units < 1))), (8, iv units)] (by kernel_rfl) ?_
 refine o_sp (b := decide (units < 1)) 10 rfl (fun h1 => ?_) (fun h1 => ?_)
 ·skip
  have h1' : units < 1 := of_decide_eq_true h1
  refine o_d 3 [(13, bv true), (12, undef), (11, undef)] (by kernel_rfl) ?_
  refine o_nil ?_
  refine seq_go ?_
  refine gtrue rfl ?_
  refine gseq ?_
  refine greg ?_
  refine o_d 2 [(5, iv 14), (4, .pointer none)] (by kernel_rfl) ?_
  refine o_nil ?_
  refine seq_go ?_
  refine gret ?_
  exact ⟨trivial, ⟨reg [(4, .pointer none), (5, iv 14)], []⟩, Wk.ren [] rfl rfl (by decide) ⟨rfl, ⟨rfl, trivial⟩⟩ trivial, [.pointer none, iv 14], (resV_t rfl (resV_t rfl rfl)), (tup_cons rfl (tup_cons rfl tup_nil)), (by show (if units < 1 ∨ 16 < units then _ else _); rw [if_pos (by omega)]; exact ⟨rfl, rfl⟩)⟩
 have h1' : ¬ (units < 1) := of_decide_eq_false h1
 refine o_d 3 [(13, bv (decide (units > 16))), (12, bv (decide (units > 16))), (11, iv units)] (by kernel_rfl) ?_
 refine o_nil ?_
 refine seq_go ?_
 refine gcond (t := decide (units > 16)) rfl (fun h2 => ?_) (fun h2 => ?_)
 ·skip
  have h2' : units > 16 := of_decide_eq_true h2
  refine gseq ?_
  refine greg ?_
  refine o_d 2 [(5, iv 14), (4, .pointer none)] (by kernel_rfl) ?_
  refine o_nil ?_
  refine seq_go ?_
  refine gret ?_
  exact ⟨trivial, ⟨reg [(4, .pointer none), (5, iv 14)], []⟩, Wk.ren [] rfl rfl (by decide) ⟨rfl, ⟨rfl, trivial⟩⟩ trivial, [.pointer none, iv 14], (resV_t rfl (resV_t rfl rfl)), (tup_cons rfl (tup_cons rfl tup_nil)), (by show (if units < 1 ∨ 16 < units then _ else _); rw [if_pos (by omega)]; exact ⟨rfl, rfl⟩)⟩
 have h2' : ¬ (units > 16) := of_decide_eq_false h2
 refine gskip ?_
 refine seq_go ?_
 refine gseq ?_
 refine gdreg [] (by kernel_rfl) ?_
 refine r_s (by refine run_ld (v := poolV p) rfl rfl ?_; exact pl_all p) ?_
 refine r_b 2 [(16, .map (some 2)), (15, .chan (some 1))] [cw (pl p), .chan 200 (([] : List Ent).map entV), .map (hdM ([]))] (by kernel_rfl) ?_
 refine r_s (by refine run_bld (c := headL p 1 2 e0 false) ?_; exact bld_head p 1 2) ?_
 refine r_b 2 [(6, pv 3 0), (18, pv 3 0)] [cw (pl p), .chan 200 (([] : List Ent).map entV), .map (hdM ([])), cw (headL p 1 2 e0 false)] (by kernel_rfl) ?_
 refine r_nil ?_
 refine seq_go ?_
 refine gseq ?_
 refine gseq ?_
 refine greg ?_
 refine o_d 2 [(20, iv 0), (19, iv units)] (by kernel_rfl) ?_
 refine o_nil ?_
 refine seq_go ?_
 refine gblock ?_
 refine gloop (fun μ s => ∃ (i : Nat), ∃ (wv : List (Int × Int)), μ = units.toNat - i ∧ ((i : Int) ≤ units) ∧ (wv = List.replicate i (0, -1)) ∧ s = ⟨reg [(20, iv (i : Int)), (19, iv units), (6, pv 3 0)], [cw (pl p), .chan 200 (([] : List Ent).map entV), .map (hdM wv), cw (headL p 1 2 e0 false)]⟩) ⟨(units.toNat - 0), ?_⟩ ?_
 ·skip
  refine ⟨⟨reg [(20, iv (0 : Int)), (19, iv units), (6, pv 3 0)], [cw (pl p), .chan 200 (([] : List Ent).map entV), .map (hdM ([])), cw (headL p 1 2 e0 false)]⟩, ?_⟩
  refine ⟨?_, ?_⟩
  ·exact Wk.ren [0, 1, 2, 3] rfl rfl (by decide) ⟨rfl, ⟨rfl, ⟨rfl, trivial⟩⟩⟩ ⟨.inl (ren_cells (pl_scl p)), ⟨.inl (congrArg some (ren_entsV _).symm), ⟨.inl (congrArg some (ren_hdM _).symm), ⟨.inl (ren_headS rfl rfl), trivial⟩⟩⟩⟩
  ·exact ⟨0, ([]), rfl, (by omega), rfl, rfl⟩
 rintro μ s ⟨i, wv, rfl, hi, hwv, rfl⟩
 refine gseq ?_
 refine greg ?_
 refine o_d 1 [(21, bv (decide ((i : Int) < units)))] (by kernel_rfl) ?_
 refine o_nil ?_
 refine seq_go ?_
 refine gseq ?_
 refine gcond (t := decide ((i : Int) < units)) rfl (fun h3 => ?_) (fun h3 => ?_)
 ·skip
  have h3' : (i : Int) < units := of_decide_eq_true h3
  refine gskip ?_
  refine seq_go ?_
  refine gseq ?_
  refine gblock ?_
  refine gseq ?_
  refine greg ?_
  refine o_d 2 [(7, iv (i : Int)), (22, iv (i : Int))] (by kernel_rfl) ?_
  refine o_nil ?_
  refine seq_go ?_
  refine greg ?_
  refine o_d 3 [(25, pv 3 331), (24, pv 3 0), (23, pv 3 0)] (by kernel_rfl) ?_
  refine o_s (by refine run_ld (v := .map (some 2)) rfl rfl ?_; exact (head_rT 1).trans rfl) ?_
  refine o_d 2 [(28, .agg #[iv 0, iv (-1)]), (27, iv (i : Int))] (by kernel_rfl) ?_
  refine o_s0 (by exact run_mupA (hd := wv) (n := (i : Int)) (a := 0) (b := (-1)) rfl rfl rfl rfl (by rw [hwv]; simp)) ?_
  refine o_nil ?_
  refine seq_go ?_
  refine greg ?_
  refine o_s (by refine run_val (v := .int .i64 (IntKind.i64.wrap ((i : Int) + 1))) (congrArg (Value.int .i64) (w64 (by omega) (by omega))) ?_; kernel_rfl) ?_
  refine o_d 1 [(20, iv ((i : Int) + 1))] (by kernel_rfl) ?_
  refine o_nil ?_
  refine ⟨units.toNat - (i + 1), ?_⟩
  refine ⟨⟨reg [(20, iv ((i + 1) : Int)), (19, iv units), (6, pv 3 0)], [cw (pl p), .chan 200 (([] : List Ent).map entV), .map (hdM (wv ++ [(0, (-1))])), cw (headL p 1 2 e0 false)]⟩, ?_⟩
  refine and3 (by omega) ⟨?_, ?_⟩
  ·exact Wk.ren [0, 1, 2, 3] rfl rfl (by decide) ⟨rfl, ⟨rfl, ⟨rfl, trivial⟩⟩⟩ ⟨.inl (ren_cells (pl_scl p)), ⟨.inl (congrArg some (ren_entsV _).symm), ⟨.inl (congrArg some (ren_hdM _).symm), ⟨.inl (ren_headS rfl rfl), trivial⟩⟩⟩⟩
  ·exact ⟨(i + 1), (wv ++ [(0, (-1))]), rfl, by omega, (by rw [hwv, List.replicate_succ']), rfl⟩
 have h3' : ¬ ((i : Int) < units) := of_decide_eq_false h3
 refine gexit ?_
 refine seq_go ?_
 refine gseq ?_
 refine greg ?_
 refine o_d 3 [(5, iv 0), (4, pv 3 0), (30, pv 3 0)] (by kernel_rfl) ?_
 refine o_nil ?_
 refine seq_go ?_
 refine gret ?_
 have hwv2 : wv = List.replicate units.toNat (0, -1) := by rw [hwv, show i = units.toNat by omega]
 exact ⟨trivial, ⟨reg [(4, pv 0 0), (5, iv 0)], [cw (headL p 1 2 e0 false), .chan 200 (([] : List Ent).map entV), .map (hdM wv)]⟩, Wk.ren [3, 1, 2] rfl rfl (by decide) ⟨rfl, ⟨rfl, trivial⟩⟩ ⟨.inl (ren_headS rfl rfl), ⟨.inl (congrArg some (ren_entsV _).symm), ⟨.inl (congrArg some (ren_hdM _).symm), trivial⟩⟩⟩, [pv 0 0, iv 0], (resV_t rfl (resV_t rfl rfl)), (tup_cons rfl (tup_cons rfl tup_nil)), (by show (if units < 1 ∨ 16 < units then _ else _); rw [if_neg (by omega)]; exact ⟨rfl, by rw [hwv2]⟩)⟩
theorem HheardC {P : Program} (hc : codeOf P "(*roundhouse/head.Head).Heard" = some c_head_Head_Heard) (p : Flat) (w : List Ent) (hd : List (Int × Int)) (e : Ent) (b : Bool) (u bt v : Int) (wh ak : Bool) (ne : Ent) (np : Flat) :
    Env P "(*roundhouse/head.Head).Heard" [pv 0 0, ntV u bt v wh ak ne np] ([cw (headL p 1 2 e b), .chan 200 (w.map entV), .map (hdM hd)]) (fun v1 h' => v1 = .tuple #[] ∧ h' = [cw (headL p 1 2 e b), .chan 200 (w.map entV), .map (hdM (heardS hd ⟨u, bt, v, wh, ak, ne, np⟩))]) := by
 refine Env.by2 hc ?_
 unfold c_head_Head_Heard
 show GC _ 3 _ _ ⟨reg [(0, pv 0 0), (1, ntV u bt v wh ak ne np)], [cw (headL p 1 2 e b), .chan 200 (w.map entV), .map (hdM hd)]⟩
 refine gseq ?_
 refine greg ?_
 refine o_b 1 [(3, pv 3 0)] [cw (headL p 1 2 e b), .chan 200 (w.map entV), .map (hdM hd), cw (ntF u bt v wh ak ne np)] (by kernel_rfl) ?_
 refine o_nil ?_
 refine seq_go ?_
 refine gseq ?_
 refine gdreg [] (by kernel_rfl) ?_
 refine r_d 3 [(10, pv 0 331), (9, pv 0 0), (8, pv 0 0)] (by kernel_rfl) ?_
 refine r_s (by refine run_ld (v := .map (some 2)) rfl rfl ?_; exact (head_rT 1).trans rfl) ?_
 refine r_d 1 [(12, pv 3 0)] (by kernel_rfl) ?_
 refine r_s (by refine run_ld (v := iv u) rfl rfl ?_; exact nt_rH rfl) ?_
 refine r_s (by exact run_lkuH2 (hd := hd) (n := u) rfl rfl rfl) ?_
 refine r_b 6 [(5, bv ((lkS hd u).2)), (4, pv 4 0), (16, bv ((lkS hd u).2)), (15, .agg #[iv ((lkS hd u).1.1), iv ((lkS hd u).1.2)]), (7, .tuple #[.agg #[iv ((lkS hd u).1.1), iv ((lkS hd u).1.2)], bv ((lkS hd u).2)])] [cw (headL p 1 2 e b), .chan 200 (w.map entV), .map (hdM hd), cw (ntF u bt v wh ak ne np), cw [iv ((lkS hd u).1.1), iv ((lkS hd u).1.2)]] (by kernel_rfl) ?_
 refine r_nil ?_
 refine seq_go ?_
 refine gseq ?_
 refine gseq ?_
 refine greg ?_
 refine o_d 1 [(17, pv 3 4)] (by kernel_rfl) ?_
 refine o_s (by refine run_ld (v := bv ak) rfl rfl ?_; exact nt_rH rfl) ?_
 refine o_d 2 [(20, bv (!ak)), (19, bv (!ak))] (by kernel_rfl) ?_
 refine o_sp (b := !ak) 20 rfl (fun h1 => ?_) (fun h1 => ?_)
 ·skip
  refine o_d 10 [(30, bv true), (29, undef), (28, undef), (27, undef), (26, undef), (25, undef), (24, bv true), (23, bv true), (22, undef), (21, undef)] (by kernel_rfl) ?_
  refine o_nil ?_
  refine seq_regs [(30, bv true), (4, pv 4 0), (3, pv 3 0), (0, pv 0 0)] (by kernel_rfl) ?_
  refine gtrue rfl ?_
  refine gret ?_
  have hH : heardS hd ⟨u, bt, v, wh, ak, ne, np⟩ = hd := by
   refine (heard_eq hd ⟨u, bt, v, wh, ak, ne, np⟩).trans ?_
   show (if (!ak) = true then hd else if (!(lkS hd u).2) = true then hd else if decide (bt < (lkS hd u).1.1) = true then hd else if decide (bt > (lkS hd u).1.1) = true then hd.set u.toNat (bt, if (-1) > v then (-1) else v) else if decide ((if (-1) > v then (-1) else v) > (lkS hd u).1.2) = true then hd.set u.toNat (bt, if (-1) > v then (-1) else v) else hd.set u.toNat ((lkS hd u).1.1, (lkS hd u).1.2)) = _
   simp only [h1, if_true, if_false, Bool.false_eq_true]
  exact ⟨trivial, ⟨reg [], [cw (headL p 1 2 e b), .chan 200 (w.map entV), .map (hdM hd)]⟩, Wk.ren [0, 1, 2] rfl rfl (by decide) trivial ⟨.inl (ren_headS rfl rfl), ⟨.inl (congrArg some (ren_entsV _).symm), ⟨.inl (congrArg some (ren_hdM _).symm), trivial⟩⟩⟩, [], rfl, tup_nil, rfl, (by rw [hH])⟩
 refine o_d 4 [(24, bv (!((lkS hd u).2))), (23, bv (!((lkS hd u).2))), (22, bv (!((lkS hd u).2))), (21, bv ((lkS hd u).2))] (by kernel_rfl) ?_
 refine o_sp (b := !((lkS hd u).2)) 24 rfl (fun h2 => ?_) (fun h2 => ?_)
 ·skip
  refine o_d 6 [(30, bv true), (29, undef), (28, undef), (27, undef), (26, undef), (25, undef)] (by kernel_rfl) ?_
  refine o_nil ?_
  refine seq_regs [(30, bv true), (4, pv 4 0), (3, pv 3 0), (0, pv 0 0)] (by kernel_rfl) ?_
  refine gtrue rfl ?_
  refine gret ?_
  have hH : heardS hd ⟨u, bt, v, wh, ak, ne, np⟩ = hd := by
   refine (heard_eq hd ⟨u, bt, v, wh, ak, ne, np⟩).trans ?_
   show (if (!ak) = true then hd else if (!(lkS hd u).2) = true then hd else if decide (bt < (lkS hd u).1.1) = true then hd else if decide (bt > (lkS hd u).1.1) = true then hd.set u.toNat (bt, if (-1) > v then (-1) else v) else if decide ((if (-1) > v then (-1) else v) > (lkS hd u).1.2) = true then hd.set u.toNat (bt, if (-1) > v then (-1) else v) else hd.set u.toNat ((lkS hd u).1.1, (lkS hd u).1.2)) = _
   simp only [h1, h2, if_true, if_false, Bool.false_eq_true]
  exact ⟨trivial, ⟨reg [], [cw (headL p 1 2 e b), .chan 200 (w.map entV), .map (hdM hd)]⟩, Wk.ren [0, 1, 2] rfl rfl (by decide) trivial ⟨.inl (ren_headS rfl rfl), ⟨.inl (congrArg some (ren_entsV _).symm), ⟨.inl (congrArg some (ren_hdM _).symm), trivial⟩⟩⟩, [], rfl, tup_nil, rfl, (by rw [hH])⟩
 refine o_d 1 [(25, pv 3 1)] (by kernel_rfl) ?_
 refine o_unguard rfl ?_
 refine o_s (by refine run_ld (v := iv bt) rfl rfl ?_; exact nt_rH rfl) ?_
 refine o_d 4 [(30, bv (decide (bt < (lkS hd u).1.1))), (29, bv (decide (bt < (lkS hd u).1.1))), (28, iv ((lkS hd u).1.1)), (27, pv 4 0)] (by kernel_rfl) ?_
 refine o_nil ?_
 refine seq_regs [(30, bv (decide (bt < (lkS hd u).1.1))), (4, pv 4 0), (3, pv 3 0), (0, pv 0 0)] (by kernel_rfl) ?_
 refine gcond (t := decide (bt < (lkS hd u).1.1)) rfl (fun h3 => ?_) (fun h3 => ?_)
 ·skip
  have h3' : bt < (lkS hd u).1.1 := of_decide_eq_true h3
  refine gret ?_
  have hH : heardS hd ⟨u, bt, v, wh, ak, ne, np⟩ = hd := by
   refine (heard_eq hd ⟨u, bt, v, wh, ak, ne, np⟩).trans ?_
   show (if (!ak) = true then hd else if (!(lkS hd u).2) = true then hd else if decide (bt < (lkS hd u).1.1) = true then hd else if decide (bt > (lkS hd u).1.1) = true then hd.set u.toNat (bt, if (-1) > v then (-1) else v) else if decide ((if (-1) > v then (-1) else v) > (lkS hd u).1.2) = true then hd.set u.toNat (bt, if (-1) > v then (-1) else v) else hd.set u.toNat ((lkS hd u).1.1, (lkS hd u).1.2)) = _
   simp only [h1, h2, h3, if_true, if_false, Bool.false_eq_true]
  exact ⟨trivial, ⟨reg [], [cw (headL p 1 2 e b), .chan 200 (w.map entV), .map (hdM hd)]⟩, Wk.ren [0, 1, 2] rfl rfl (by decide) trivial ⟨.inl (ren_headS rfl rfl), ⟨.inl (congrArg some (ren_entsV _).symm), ⟨.inl (congrArg some (ren_hdM _).symm), trivial⟩⟩⟩, [], rfl, tup_nil, rfl, (by rw [hH])⟩
 have h3' : ¬ (bt < (lkS hd u).1.1) := of_decide_eq_false h3
 refine gskip ?_
 refine seq_go ?_
 refine gseq ?_
 refine gseq ?_
 refine greg ?_
 refine o_d 1 [(31, pv 3 2)] (by kernel_rfl) ?_
 refine o_s (by refine run_ld (v := iv v) rfl rfl ?_; exact nt_rH rfl) ?_
 refine o_d 2 [(6, iv (if (-1) > v then (-1) else v)), (33, iv (if (-1) > v then (-1) else v))] (by kernel_rfl) ?_
 refine o_nil ?_
 refine seq_go ?_
 refine gseq ?_
 refine greg ?_
 refine o_d 1 [(34, pv 3 1)] (by kernel_rfl) ?_
 refine o_s (by refine run_ld (v := iv bt) rfl rfl ?_; exact nt_rH rfl) ?_
 refine o_d 4 [(39, bv (decide (bt > (lkS hd u).1.1))), (38, bv (decide (bt > (lkS hd u).1.1))), (37, iv ((lkS hd u).1.1)), (36, pv 4 0)] (by kernel_rfl) ?_
 refine o_sp (b := decide (bt > (lkS hd u).1.1)) 39 rfl (fun h4 => ?_) (fun h4 => ?_)
 ·skip
  have h4' : bt > (lkS hd u).1.1 := of_decide_eq_true h4
  refine o_d 5 [(44, bv true), (43, undef), (42, undef), (41, undef), (40, undef)] (by kernel_rfl) ?_
  refine o_nil ?_
  refine seq_go ?_
  refine gtrue rfl ?_
  refine greg ?_
  refine o_d 1 [(45, pv 3 1)] (by kernel_rfl) ?_
  refine o_s (by refine run_ld (v := iv bt) rfl rfl ?_; exact nt_rH rfl) ?_
  refine o_b 3 [(48, .agg #[iv bt, iv (if (-1) > v then (-1) else v)]), (47, iv (if (-1) > v then (-1) else v))] [cw (headL p 1 2 e b), .chan 200 (w.map entV), .map (hdM hd), cw (ntF u bt v wh ak ne np), cw [iv bt, iv (if (-1) > v then (-1) else v)]] (by kernel_rfl) ?_
  refine o_nil ?_
  refine seq_regs [(4, pv 4 0), (3, pv 3 0), (0, pv 0 0)] (by kernel_rfl) ?_
  refine gdreg [] (by kernel_rfl) ?_
  refine r_d 3 [(51, pv 0 331), (50, pv 0 0), (49, pv 0 0)] (by kernel_rfl) ?_
  refine r_s (by refine run_ld (v := .map (some 2)) rfl rfl ?_; exact (head_rT 1).trans rfl) ?_
  refine r_d 1 [(53, pv 3 0)] (by kernel_rfl) ?_
  refine r_s (by refine run_ld (v := iv u) rfl rfl ?_; exact nt_rH rfl) ?_
  refine r_d 1 [(55, .agg #[iv bt, iv (if (-1) > v then (-1) else v)])] (by kernel_rfl) ?_
  refine r_s0 (by exact run_mupS (hd := hd) (n := u) (a := bt) (b := (if (-1) > v then (-1) else v)) rfl rfl rfl rfl (by exact lkS_in (by assumption))) ?_
  refine r_nil ?_
  have hH : heardS hd ⟨u, bt, v, wh, ak, ne, np⟩ = hd.set u.toNat (bt, (if (-1) > v then (-1) else v)) := by
   refine (heard_eq hd ⟨u, bt, v, wh, ak, ne, np⟩).trans ?_
   show (if (!ak) = true then hd else if (!(lkS hd u).2) = true then hd else if decide (bt < (lkS hd u).1.1) = true then hd else if decide (bt > (lkS hd u).1.1) = true then hd.set u.toNat (bt, if (-1) > v then (-1) else v) else if decide ((if (-1) > v then (-1) else v) > (lkS hd u).1.2) = true then hd.set u.toNat (bt, if (-1) > v then (-1) else v) else hd.set u.toNat ((lkS hd u).1.1, (lkS hd u).1.2)) = _
   simp only [h1, h2, h3, h4, if_true, if_false, Bool.false_eq_true]
  exact ⟨trivial, ⟨reg [], [cw (headL p 1 2 e b), .chan 200 (w.map entV), .map (hdM (hd.set u.toNat (bt, (if (-1) > v then (-1) else v))))]⟩, Wk.ren [0, 1, 2] rfl rfl (by decide) trivial ⟨.inl (ren_headS rfl rfl), ⟨.inl (congrArg some (ren_entsV _).symm), ⟨.inl (congrArg some (ren_hdM _).symm), trivial⟩⟩⟩, [], rfl, tup_nil, rfl, (by rw [hH])⟩
 have h4' : ¬ (bt > (lkS hd u).1.1) := of_decide_eq_false h4
 refine o_d 5 [(44, bv (decide ((if (-1) > v then (-1) else v) > (lkS hd u).1.2))), (43, bv (decide ((if (-1) > v then (-1) else v) > (lkS hd u).1.2))), (42, iv ((lkS hd u).1.2)), (41, pv 4 1), (40, iv (if (-1) > v then (-1) else v))] (by kernel_rfl) ?_
 refine o_nil ?_
 refine seq_go ?_
 refine gcond (t := decide ((if (-1) > v then (-1) else v) > (lkS hd u).1.2)) rfl (fun h5 => ?_) (fun h5 => ?_)
 ·skip
  have h5' : (if (-1) > v then (-1) else v) > (lkS hd u).1.2 := of_decide_eq_true h5
  refine greg ?_
  refine o_d 1 [(45, pv 3 1)] (by kernel_rfl) ?_
  refine o_s (by refine run_ld (v := iv bt) rfl rfl ?_; exact nt_rH rfl) ?_
  refine o_b 3 [(48, .agg #[iv bt, iv (if (-1) > v then (-1) else v)]), (47, iv (if (-1) > v then (-1) else v))] [cw (headL p 1 2 e b), .chan 200 (w.map entV), .map (hdM hd), cw (ntF u bt v wh ak ne np), cw [iv bt, iv (if (-1) > v then (-1) else v)]] (by kernel_rfl) ?_
  refine o_nil ?_
  refine seq_regs [(4, pv 4 0), (3, pv 3 0), (0, pv 0 0)] (by kernel_rfl) ?_
  refine gdreg [] (by kernel_rfl) ?_
  refine r_d 3 [(51, pv 0 331), (50, pv 0 0), (49, pv 0 0)] (by kernel_rfl) ?_
  refine r_s (by refine run_ld (v := .map (some 2)) rfl rfl ?_; exact (head_rT 1).trans rfl) ?_
  refine r_d 1 [(53, pv 3 0)] (by kernel_rfl) ?_
  refine r_s (by refine run_ld (v := iv u) rfl rfl ?_; exact nt_rH rfl) ?_
  refine r_d 1 [(55, .agg #[iv bt, iv (if (-1) > v then (-1) else v)])] (by kernel_rfl) ?_
  refine r_s0 (by exact run_mupS (hd := hd) (n := u) (a := bt) (b := (if (-1) > v then (-1) else v)) rfl rfl rfl rfl (by exact lkS_in (by assumption))) ?_
  refine r_nil ?_
  have hH : heardS hd ⟨u, bt, v, wh, ak, ne, np⟩ = hd.set u.toNat (bt, (if (-1) > v then (-1) else v)) := by
   refine (heard_eq hd ⟨u, bt, v, wh, ak, ne, np⟩).trans ?_
   show (if (!ak) = true then hd else if (!(lkS hd u).2) = true then hd else if decide (bt < (lkS hd u).1.1) = true then hd else if decide (bt > (lkS hd u).1.1) = true then hd.set u.toNat (bt, if (-1) > v then (-1) else v) else if decide ((if (-1) > v then (-1) else v) > (lkS hd u).1.2) = true then hd.set u.toNat (bt, if (-1) > v then (-1) else v) else hd.set u.toNat ((lkS hd u).1.1, (lkS hd u).1.2)) = _
   simp only [h1, h2, h3, h4, h5, if_true, if_false, Bool.false_eq_true]
  exact ⟨trivial, ⟨reg [], [cw (headL p 1 2 e b), .chan 200 (w.map entV), .map (hdM (hd.set u.toNat (bt, (if (-1) > v then (-1) else v))))]⟩, Wk.ren [0, 1, 2] rfl rfl (by decide) trivial ⟨.inl (ren_headS rfl rfl), ⟨.inl (congrArg some (ren_entsV _).symm), ⟨.inl (congrArg some (ren_hdM _).symm), trivial⟩⟩⟩, [], rfl, tup_nil, rfl, (by rw [hH])⟩
 have h5' : ¬ ((if (-1) > v then (-1) else v) > (lkS hd u).1.2) := of_decide_eq_false h5
 refine gskip ?_
 refine seq_go ?_
 refine gdreg [] (by kernel_rfl) ?_
 refine r_d 3 [(51, pv 0 331), (50, pv 0 0), (49, pv 0 0)] (by kernel_rfl) ?_
 refine r_s (by refine run_ld (v := .map (some 2)) rfl rfl ?_; exact (head_rT 1).trans rfl) ?_
 refine r_d 1 [(53, pv 3 0)] (by kernel_rfl) ?_
 refine r_s (by refine run_ld (v := iv u) rfl rfl ?_; exact nt_rH rfl) ?_
 refine r_d 1 [(55, .agg #[iv ((lkS hd u).1.1), iv ((lkS hd u).1.2)])] (by kernel_rfl) ?_
 refine r_s0 (by exact run_mupS (hd := hd) (n := u) (a := (lkS hd u).1.1) (b := (lkS hd u).1.2) rfl rfl rfl rfl (by exact lkS_in (by assumption))) ?_
 refine r_nil ?_
 have hH : heardS hd ⟨u, bt, v, wh, ak, ne, np⟩ = hd.set u.toNat ((lkS hd u).1.1, (lkS hd u).1.2) := by
  refine (heard_eq hd ⟨u, bt, v, wh, ak, ne, np⟩).trans ?_
  show (if (!ak) = true then hd else if (!(lkS hd u).2) = true then hd else if decide (bt < (lkS hd u).1.1) = true then hd else if decide (bt > (lkS hd u).1.1) = true then hd.set u.toNat (bt, if (-1) > v then (-1) else v) else if decide ((if (-1) > v then (-1) else v) > (lkS hd u).1.2) = true then hd.set u.toNat (bt, if (-1) > v then (-1) else v) else hd.set u.toNat ((lkS hd u).1.1, (lkS hd u).1.2)) = _
  simp only [h1, h2, h3, h4, h5, if_true, if_false, Bool.false_eq_true]
 exact ⟨trivial, ⟨reg [], [cw (headL p 1 2 e b), .chan 200 (w.map entV), .map (hdM (hd.set u.toNat ((lkS hd u).1.1, (lkS hd u).1.2)))]⟩, Wk.ren [0, 1, 2] rfl rfl (by decide) trivial ⟨.inl (ren_headS rfl rfl), ⟨.inl (congrArg some (ren_entsV _).symm), ⟨.inl (congrArg some (ren_hdM _).symm), trivial⟩⟩⟩, [], rfl, tup_nil, rfl, (by rw [hH])⟩
end Go.Rh

set_option linter.unusedSimpArgs false
set_option linter.unusedVariables false
set_option maxRecDepth 100000
set_option maxHeartbeats 8000000
namespace Go.Rh
def c_head_Head_Send : IFunc :=
  ⟨76, [.tmp 2], (.seq (.reg [⟨(some 2), .mv (.c (.slice none 0 0)), none⟩]) (.seq (.seq (.reg [⟨(some 7), .mv (.t 0), none⟩, ⟨(some 8), .call "(*roundhouse/head.Head).all" [(.t 7)], none⟩]) (.cond (.t 8) (.reg [⟨(some 9), .mv (.t 0), none⟩, ⟨(some 10), .call "(*roundhouse/head.Head).publish" [(.t 9)], none⟩]) .skip)) (.seq (.reg [⟨(some 3), .mv (.c (.slice none 0 0)), none⟩]) (.seq (.seq (.reg [⟨(some 11), .mv (.t 0), none⟩, ⟨(some 12), .nilc (.t 11), none⟩, ⟨(some 13), .fad 331 (.t 12), none⟩, ⟨(some 14), .ld none (.t 13), none⟩, ⟨(some 15), .lenM (.t 14), none⟩, ⟨(some 16), .mv (.c (.int .i64 0)), none⟩]) (.block 0 (.loop (.seq (.reg [⟨(some 17), .bin .lss (.t 16) (.t 15), none⟩]) (.seq (.cond (.t 17) .skip (.exit 0)) (.seq (.block 1 (.seq (.reg [⟨(some 18), .mv (.t 16), none⟩, ⟨(some 4), .mv (.t 18), none⟩]) (.seq (.reg [⟨(some 19), .mv (.t 0), none⟩, ⟨(some 20), .nilc (.t 19), none⟩, ⟨(some 21), .fad 331 (.t 20), none⟩, ⟨(some 22), .ld none (.t 21), none⟩, ⟨(some 23), .mv (.t 4), none⟩, ⟨(some 24), .lku .i [(2, (.int .i64 0))] true false (.t 22) (.t 23), none⟩, ⟨(some 5), .new [(2, (.int .i64 0))], none⟩, ⟨none, .st 2 (.t 5) (.t 24), none⟩]) (.seq (.dreg [⟨(some 25), .mv (.t 4), none⟩, ⟨(some 26), .fad 0 (.t 5), none⟩, ⟨(some 27), .ld none (.t 26), none⟩, ⟨(some 28), .mv (.t 0), none⟩, ⟨(some 29), .nilc (.t 28), none⟩, ⟨(some 30), .fad 0 (.t 29), none⟩, ⟨(some 31), .fad 0 (.t 30), none⟩, ⟨(some 32), .ld none (.t 31), none⟩, ⟨(some 33), .bld [(3, (.int .i64 0)), (2, (.bool false)), (5, (.int .i64 0)), (2, (.int .u64 0)), (324, (.int .i64 0)), (6, (.int .u64 0))] [(0, 1, (.t 25)), (1, 1, (.t 27)), (2, 1, (.t 32))], none⟩, ⟨(some 6), .new [(3, (.int .i64 0)), (2, (.bool false)), (5, (.int .i64 0)), (2, (.int .u64 0)), (324, (.int .i64 0)), (6, (.int .u64 0))], none⟩, ⟨none, .st 342 (.t 6) (.t 33), none⟩] [[], [], [1], [], [3], [4, 3], [5, 4, 3], [6, 5, 4, 3], [0, 2, 1, 7, 6, 5, 4, 3], [], [9, 8, 0, 2, 1, 7, 6, 5, 4, 3]]) (.seq (.block 2 (.seq (.dreg [⟨(some 41), .fad 1 (.t 5), none⟩, ⟨(some 42), .ld none (.t 41), none⟩, ⟨(some 43), .mv (.t 0), none⟩, ⟨(some 44), .nilc (.t 43), none⟩, ⟨(some 45), .fad 0 (.t 44), none⟩, ⟨(some 46), .fad 0 (.t 45), none⟩, ⟨(some 47), .ld none (.t 46), none⟩, ⟨(some 48), .bin .geq (.t 42) (.t 47), none⟩, ⟨(some 40), .mv (.t 48), none⟩] [[], [0], [], [2], [3, 2], [4, 3, 2], [5, 4, 3, 2], [1, 0, 6, 5, 4, 3, 2], [7, 1, 0, 6, 5, 4, 3, 2]]) (.cond (.t 40) (.exit 1) (.seq (.dreg [⟨(some 50), .fad 1 (.t 5), none⟩, ⟨(some 51), .ld none (.t 50), none⟩, ⟨(some 52), .mv (.t 0), none⟩, ⟨(some 53), .nilc (.t 52), none⟩, ⟨(some 54), .fad 0 (.t 53), none⟩, ⟨(some 55), .fad 0 (.t 54), none⟩, ⟨(some 56), .ld none (.t 55), none⟩, ⟨(some 57), .bin .sub (.t 56) (.c (.int .i64 1)), none⟩, ⟨(some 58), .bin .eql (.t 51) (.t 57), none⟩, ⟨(some 59), .mv (.t 58), none⟩, ⟨(some 60), .mv (.t 0), some (59, true)⟩, ⟨(some 61), .nilc (.t 60), some (59, true)⟩, ⟨(some 62), .fad 339 (.t 61), some (59, true)⟩, ⟨(some 63), .ld none (.t 62), some (59, true)⟩, ⟨(some 64), .pick (.t 59) (.t 63) (.c (.bool false)), none⟩, ⟨(some 49), .mv (.t 64), none⟩] [[], [0], [], [2], [3, 2], [4, 3, 2], [5, 4, 3, 2], [6, 5, 4, 3, 2], [1, 0, 7, 6, 5, 4, 3, 2], [8, 1, 0, 7, 6, 5, 4, 3, 2], [9, 8, 1, 0, 7, 6, 5, 4, 3, 2], [10, 9, 8, 1, 0, 7, 6, 5, 4, 3, 2], [11, 10, 9, 8, 1, 0, 7, 6, 5, 4, 3, 2], [12, 11, 10, 9, 8, 1, 0, 7, 6, 5, 4, 3, 2], [9, 8, 1, 0, 7, 6, 5, 4, 3, 2, 13, 12, 11, 10], [14, 9, 8, 1, 0, 7, 6, 5, 4, 3, 2, 13, 12, 11, 10]]) (.cond (.t 49) (.reg [⟨(some 65), .mv (.t 0), none⟩, ⟨(some 66), .nilc (.t 65), none⟩, ⟨(some 67), .fad 332 (.t 66), none⟩, ⟨(some 68), .ld (some 7) (.t 67), none⟩, ⟨(some 69), .fad 5 (.t 6), none⟩, ⟨none, .st 7 (.t 69) (.t 68), none⟩]) (.dreg [⟨(some 34), .mv (.t 0), none⟩, ⟨(some 35), .nilc (.t 34), none⟩, ⟨(some 36), .fad 0 (.t 35), none⟩, ⟨(some 37), .ld (some 330) (.t 36), none⟩, ⟨(some 38), .fad 3 (.t 6), none⟩, ⟨none, .st 1 (.t 38) (.c (.bool true)), none⟩, ⟨(some 39), .fad 12 (.t 6), none⟩, ⟨none, .st 330 (.t 39) (.t 37), none⟩] [[], [0], [1, 0], [2, 1, 0], [], [4], [0, 1, 2, 3, 4, 5], [6, 0, 1, 2, 3, 4, 5]])))))) (.reg [⟨(some 70), .mv (.t 3), none⟩, ⟨(some 71), .ld (some 342) (.t 6), none⟩, ⟨(some 72), .bsl [(3, (.int .i64 0)), (2, (.bool false)), (5, (.int .i64 0)), (2, (.int .u64 0)), (324, (.int .i64 0)), (6, (.int .u64 0))] 342 1 [(0, 342, (.t 71))], none⟩, ⟨(some 73), .app [(3, (.int .i64 0)), (2, (.bool false)), (5, (.int .i64 0)), (2, (.int .u64 0)), (324, (.int .i64 0)), (6, (.int .u64 0))] 342 2728 (.t 70) (.t 72), none⟩, ⟨(some 3), .mv (.t 73), none⟩])))))) (.reg [⟨(some 74), .bin .add (.t 16) (.c (.int .i64 1)), none⟩, ⟨(some 16), .mv (.t 74), none⟩]))))))) (.seq (.reg [⟨(some 75), .mv (.t 3), none⟩, ⟨(some 2), .mv (.t 75), none⟩]) .ret)))))⟩
theorem note_skip {x : HS} {hd : List (Int × Int)} (hxh : x.hd = hd) {i : Nat} (h : (lkS hd (i : Int)).1.2 ≥ x.p 0) : noteS x i = none := by
  subst hxh; simp only [noteS]; rw [if_pos h]
theorem note_ent {x : HS} {hd : List (Int × Int)} (hxh : x.hd = hd) {i : Nat} (h : ¬ (lkS hd (i : Int)).1.2 ≥ x.p 0) (h2 : (lkS hd (i : Int)).1.2 = IntKind.i64.wrap (x.p 0 - 1)) (h3 : x.s = true) : noteS x i = some ⟨(i : Int), (lkS hd (i : Int)).1.1, x.p 0, false, false, x.e, zeroP⟩ := by
  subst hxh; simp only [noteS]; rw [if_neg h, if_pos ⟨h2, h3⟩]
theorem note_whole {x : HS} {hd : List (Int × Int)} (hxh : x.hd = hd) {i : Nat} (h : ¬ (lkS hd (i : Int)).1.2 ≥ x.p 0) (h2 : ¬ ((lkS hd (i : Int)).1.2 = IntKind.i64.wrap (x.p 0 - 1) ∧ x.s = true)) : noteS x i = some ⟨(i : Int), (lkS hd (i : Int)).1.1, x.p 0, true, false, e0, x.p⟩ := by
  subst hxh; simp only [noteS]; rw [if_neg h, if_neg h2]
theorem HsendC {P : Program} (hc : codeOf P "(*roundhouse/head.Head).Send" = some c_head_Head_Send) (h_head_Head_all : codeOf P "(*roundhouse/head.Head).all" = some c_head_Head_all) (h_head_Head_publish : codeOf P "(*roundhouse/head.Head).publish" = some c_head_Head_publish) (h_pool_Apply : codeOf P "roundhouse/pool.Apply" = some c_pool_Apply) (h_pool_may : codeOf P "roundhouse/pool.may" = some c_pool_may) (h_pool_held : codeOf P "roundhouse/pool.held" = some c_pool_held) (h_pool_fits : codeOf P "roundhouse/pool.fits" = some c_pool_fits) (h_pool_Check : codeOf P "roundhouse/pool.Check" = some c_pool_Check) (h_pool_placed : codeOf P "roundhouse/pool.placed" = some c_pool_placed) (h_cookie_Next : codeOf P "roundhouse/cookie.Next" = some c_cookie_Next) (p : Flat) (w : List Ent) (hd : List (Int × Int)) (e : Ent) (b : Bool) (hh : hd.length ≤ 1000) :
    Env P "(*roundhouse/head.Head).Send" [pv 0 0] ([cw (headL p 1 2 e b), .chan 200 (w.map entV), .map (hdM hd)]) (fun v1 h' => ∃ q : Option Nat, (q = none → (sendS (HS.mk p w hd e b)).2 = []) ∧ v1 = slV 3 (sendS (HS.mk p w hd e b)).2.length q ∧ h' = [cw (headL (sendS (HS.mk p w hd e b)).1.p 1 2 (sendS (HS.mk p w hd e b)).1.e (sendS (HS.mk p w hd e b)).1.s), .chan 200 ((sendS (HS.mk p w hd e b)).1.w.map entV), .map (hdM hd), slB zNt (ntsL (sendS (HS.mk p w hd e b)).2) q]) := by
 refine Env.by2 hc ?_
 unfold c_head_Head_Send
 show GC _ 3 _ _ ⟨reg [(0, pv 0 0)], [cw (headL p 1 2 e b), .chan 200 (w.map entV), .map (hdM hd)]⟩
 refine gseq ?_
 refine greg ?_
 refine o_d 1 [(2, .slice none 0 0)] (by kernel_rfl) ?_
 refine o_nil ?_
 refine seq_go ?_
 refine gcut (fun s => ∃ (x : HS), 0 = 0 ∧ (x = goS (HS.mk p w hd e b)) ∧ (x.hd = hd) ∧ s = ⟨reg [(0, pv 0 0)], [cw (headL x.p 1 2 x.e x.s), .chan 200 (x.w.map entV), .map (hdM hd)]⟩) ?_ ?_
 ·skip
  refine gseq ?_
  refine greg ?_
  refine o_d 1 [(7, pv 0 0)] (by kernel_rfl) ?_
  refine o_cl (callG [0, 1, 2] [cr (headL p 1 2 e b), .chan 200 (w.map entV), .map (hdM hd)] [pv 0 0] (HallC h_head_Head_all p w hd e b) rfl rfl ⟨⟨_, rfl, seen_head rfl rfl (fun _ => rfl)⟩, ⟨_, rfl, seen_ents _⟩, ⟨_, rfl, seen_hdM _⟩, trivial⟩ (by decide) ?_)
  rintro v1 h1' ⟨rfl, rfl⟩
  refine ⟨bv (allW hd (p 0)), [cw (headL p 1 2 e b), .chan 200 (w.map entV), .map (hdM hd)], [], rfl, ⟨rfl, ⟨ren_entsV _, ⟨ren_hdM _, trivial⟩⟩⟩, trivial, ?_⟩
  refine o_nil ?_
  refine seq_go ?_
  refine gcond (t := allW hd (p 0)) rfl (fun h1 => ?_) (fun h1 => ?_)
  ·skip
   refine greg ?_
   refine o_d 1 [(9, pv 0 0)] (by kernel_rfl) ?_
   refine o_cl (callG [0, 1, 2] [cw (headL p 1 2 e b), .chan 200 (w.map entV), .map (hdM hd)] [pv 0 0] (HpublishC h_head_Head_publish h_pool_Apply h_pool_may h_pool_held h_pool_fits h_pool_Check h_pool_placed h_cookie_Next p w hd e b) rfl rfl ⟨⟨_, rfl, seen_head rfl rfl (fun _ => rfl)⟩, ⟨_, rfl, seen_ents _⟩, ⟨_, rfl, seen_hdM _⟩, trivial⟩ (by decide) ?_)
   rintro v1 h1' ⟨rfl, rfl⟩
   refine ⟨.tuple #[], [cw (headL ((pubS ⟨p, w, hd, e, b⟩).p) 1 2 ((pubS ⟨p, w, hd, e, b⟩).e) ((pubS ⟨p, w, hd, e, b⟩).s)), .chan 200 (((pubS ⟨p, w, hd, e, b⟩).w).map entV), .map (hdM hd)], [], (by simp [renV]), ⟨ren_headL rfl rfl, ⟨ren_entsV _, ⟨ren_hdM _, trivial⟩⟩⟩, trivial, ?_⟩
   refine o_nil ?_
   refine ⟨⟨reg [(0, pv 0 0)], [cw (headL (pubS (HS.mk p w hd e b)).p 1 2 (pubS (HS.mk p w hd e b)).e (pubS (HS.mk p w hd e b)).s), .chan 200 ((pubS (HS.mk p w hd e b)).w.map entV), .map (hdM hd)]⟩, ?_⟩
   refine ⟨?_, ?_⟩
   ·exact Wk.ren [0, 1, 2] rfl rfl (by decide) ⟨rfl, trivial⟩ ⟨.inl (ren_headS rfl rfl), ⟨.inl (congrArg some (ren_entsV _).symm), ⟨.inl (congrArg some (ren_hdM _).symm), trivial⟩⟩⟩
   ·exact ⟨(pubS (HS.mk p w hd e b)), rfl, (by simp only [goS]; first | rw [if_pos (by assumption)] | rw [if_neg (by simp_all)]), (by first | rfl | exact pubS_hd _), rfl⟩
  refine gskip ?_
  refine ⟨⟨reg [(0, pv 0 0)], [cw (headL (HS.mk p w hd e b).p 1 2 (HS.mk p w hd e b).e (HS.mk p w hd e b).s), .chan 200 ((HS.mk p w hd e b).w.map entV), .map (hdM hd)]⟩, ?_⟩
  refine ⟨?_, ?_⟩
  ·exact Wk.ren [0, 1, 2] rfl rfl (by decide) ⟨rfl, trivial⟩ ⟨.inl (ren_headS rfl rfl), ⟨.inl (congrArg some (ren_entsV _).symm), ⟨.inl (congrArg some (ren_hdM _).symm), trivial⟩⟩⟩
  ·exact ⟨(HS.mk p w hd e b), rfl, (by simp only [goS]; first | rw [if_pos (by assumption)] | rw [if_neg (by simp_all)]), (by first | rfl | exact pubS_hd _), rfl⟩
 rintro s ⟨x, -, hx, hxh, rfl⟩
 refine gseq ?_
 refine greg ?_
 refine o_d 1 [(3, .slice none 0 0)] (by kernel_rfl) ?_
 refine o_nil ?_
 refine seq_go ?_
 refine gseq ?_
 refine gseq ?_
 refine greg ?_
 refine o_d 3 [(13, pv 0 331), (12, pv 0 0), (11, pv 0 0)] (by kernel_rfl) ?_
 refine o_s (by refine run_ld (v := .map (some 2)) rfl rfl ?_; exact (head_rT 1).trans rfl) ?_
 refine o_s (by exact run_lenH (hd := hd) rfl rfl) ?_
 refine o_d 1 [(16, iv 0)] (by kernel_rfl) ?_
 refine o_nil ?_
 refine seq_go ?_
 refine gblock ?_
 refine gloop (fun μ s => ∃ (i : Nat), ∃ (l : List Nt), ∃ (n : Nat), ∃ (q : Option Nat), μ = hd.length - i ∧ (i ≤ hd.length) ∧ (l = notesTo x i) ∧ (l.length = n ∧ n ≤ i) ∧ (q = none → n = 0) ∧ s = ⟨reg [(16, iv (i : Int)), (15, iv (hd.length : Nat)), (3, slV 3 n q), (0, pv 0 0)], [cw (headL x.p 1 2 x.e x.s), .chan 200 (x.w.map entV), .map (hdM hd), slB zNt (ntsL l) q]⟩) ⟨(hd.length - 0), ?_⟩ ?_
 ·skip
  refine ⟨⟨reg [(16, iv (0 : Int)), (15, iv (hd.length : Nat)), (3, slV 3 0 none), (0, pv 0 0)], [cw (headL x.p 1 2 x.e x.s), .chan 200 (x.w.map entV), .map (hdM hd), slB zNt (ntsL ([])) none]⟩, ?_⟩
  refine ⟨?_, ?_⟩
  ·exact Wk.ren [0, 1, 2, 6] rfl rfl (by decide) ⟨rfl, ⟨rfl, ⟨rfl, ⟨rfl, trivial⟩⟩⟩⟩ ⟨.inl (ren_headS rfl rfl), ⟨.inl (congrArg some (ren_entsV _).symm), ⟨.inl (congrArg some (ren_hdM _).symm), ⟨.inr ⟨rfl, rfl⟩, trivial⟩⟩⟩⟩
  ·exact ⟨0, ([]), 0, none, rfl, (Nat.zero_le _), rfl, ⟨rfl, Nat.le_refl _⟩, (fun _ => rfl), rfl⟩
 rintro μ s ⟨i, l, n, q, rfl, hi, hl, hn, hq, rfl⟩
 refine gseq ?_
 refine greg ?_
 refine o_d 1 [(17, bv (decide ((i : Int) < (hd.length : Nat))))] (by kernel_rfl) ?_
 refine o_nil ?_
 refine seq_go ?_
 refine gseq ?_
 refine gcond (t := decide ((i : Int) < (hd.length : Nat))) rfl (fun h2 => ?_) (fun h2 => ?_)
 ·skip
  have h2' : (i : Int) < (hd.length : Nat) := of_decide_eq_true h2
  refine gskip ?_
  refine seq_go ?_
  refine gseq ?_
  refine gblock ?_
  refine gseq ?_
  refine greg ?_
  refine o_d 2 [(4, iv (i : Int)), (18, iv (i : Int))] (by kernel_rfl) ?_
  refine o_nil ?_
  refine seq_go ?_
  refine gseq ?_
  refine greg ?_
  refine o_d 3 [(21, pv 0 331), (20, pv 0 0), (19, pv 0 0)] (by kernel_rfl) ?_
  refine o_s (by refine run_ld (v := .map (some 2)) rfl rfl ?_; exact (head_rT 1).trans rfl) ?_
  refine o_d 1 [(23, iv (i : Int))] (by kernel_rfl) ?_
  refine o_s (by exact run_lkuH (hd := hd) (n := (i : Int)) rfl rfl rfl) ?_
  refine o_b 2 [(5, pv 4 0)] [cw (headL x.p 1 2 x.e x.s), .chan 200 (x.w.map entV), .map (hdM hd), slB zNt (ntsL l) q, cw [iv ((lkS hd (i : Int)).1.1), iv ((lkS hd (i : Int)).1.2)]] (by kernel_rfl) ?_
  refine o_nil ?_
  refine seq_go ?_
  refine gseq ?_
  refine gdreg [] (by kernel_rfl) ?_
  refine r_d 7 [(31, pv 0 0), (30, pv 0 0), (29, pv 0 0), (28, pv 0 0), (27, iv ((lkS hd (i : Int)).1.1)), (26, pv 4 0), (25, iv (i : Int))] (by kernel_rfl) ?_
  refine r_s (by refine run_ld (v := iv (x.p 0)) rfl rfl ?_; exact head_rP (pl_r x.p 0 rfl (by omega))) ?_
  refine r_s (by refine run_bld (c := ntF (i : Int) ((lkS hd (i : Int)).1.1) (x.p 0) false false e0 zeroP) ?_; exact bld_nt rfl) ?_
  refine r_b 1 [(6, pv 5 0)] [cw (headL x.p 1 2 x.e x.s), .chan 200 (x.w.map entV), .map (hdM hd), slB zNt (ntsL l) q, cw [iv ((lkS hd (i : Int)).1.1), iv ((lkS hd (i : Int)).1.2)], cw (ntF 0 0 0 false false e0 zeroP)] (by kernel_rfl) ?_
  refine r_s0 (by refine run_st (c' := ntF (i : Int) ((lkS hd (i : Int)).1.1) (x.p 0) false false e0 zeroP) rfl rfl rfl ?_ ?_ ?_; exact ntF_length _ _ _ _ _ _ _; exact nt_le (by omega); exact nt_wAll) ?_
  refine r_nil ?_
  refine seq_go ?_
  refine gseq ?_
  refine gblock ?_
  refine gseq ?_
  refine gdreg [] (by kernel_rfl) ?_
  refine r_d 6 [(46, pv 0 0), (45, pv 0 0), (44, pv 0 0), (43, pv 0 0), (42, iv ((lkS hd (i : Int)).1.2)), (41, pv 4 1)] (by kernel_rfl) ?_
  refine r_s (by refine run_ld (v := iv (x.p 0)) rfl rfl ?_; exact head_rP (pl_r x.p 0 rfl (by omega))) ?_
  refine r_d 2 [(40, bv (decide ((lkS hd (i : Int)).1.2 ≥ x.p 0))), (48, bv (decide ((lkS hd (i : Int)).1.2 ≥ x.p 0)))] (by kernel_rfl) ?_
  refine r_nil ?_
  refine seq_regs [(40, bv (decide ((lkS hd (i : Int)).1.2 ≥ x.p 0))), (6, pv 5 0), (5, pv 4 0), (16, iv (i : Int)), (15, iv (hd.length : Nat)), (3, slV 3 n q), (0, pv 0 0)] (by kernel_rfl) ?_
  refine gcond (t := decide ((lkS hd (i : Int)).1.2 ≥ x.p 0)) rfl (fun h3 => ?_) (fun h3 => ?_)
  ·skip
   have h3' : (lkS hd (i : Int)).1.2 ≥ x.p 0 := of_decide_eq_true h3
   refine gexit ?_
   refine seq_go ?_
   refine greg ?_
   refine o_s (by refine run_val (v := .int .i64 (IntKind.i64.wrap ((i : Int) + 1))) (congrArg (Value.int .i64) (w64 (by omega) (by omega))) ?_; kernel_rfl) ?_
   refine o_d 1 [(16, iv ((i : Int) + 1))] (by kernel_rfl) ?_
   refine o_nil ?_
   refine ⟨hd.length - (i + 1), ?_⟩
   refine ⟨⟨reg [(16, iv ((i + 1) : Int)), (15, iv (hd.length : Nat)), (3, slV 3 n q), (0, pv 0 0)], [cw (headL x.p 1 2 x.e x.s), .chan 200 (x.w.map entV), .map (hdM hd), slB zNt (ntsL l) q]⟩, ?_⟩
   refine and3 (by omega) ⟨?_, ?_⟩
   ·exact Wk.ren [0, 1, 2, 3] rfl rfl (by decide) ⟨rfl, ⟨rfl, ⟨((renV_slV q rfl)).trans rfl, ⟨rfl, trivial⟩⟩⟩⟩ ⟨.inl (ren_headS rfl rfl), ⟨.inl (congrArg some (ren_entsV _).symm), ⟨.inl (congrArg some (ren_hdM _).symm), ⟨.inl (ren_slB q (fun _ => (ntsR_scl _ _))), trivial⟩⟩⟩⟩
   ·exact ⟨(i + 1), l, n, q, rfl, by omega, (by first | (rw [notesTo_none (note_skip hxh (by assumption)), ← hl]) | (rw [notesTo_some (note_ent hxh (by assumption) (by assumption) (by assumption)), ← hl]) | (rw [notesTo_some (note_whole hxh (by assumption) (by simp_all)), ← hl])), ⟨hn.1, by omega⟩, hq, rfl⟩
  have h3' : ¬ ((lkS hd (i : Int)).1.2 ≥ x.p 0) := of_decide_eq_false h3
  refine gseq ?_
  refine gdreg [] (by kernel_rfl) ?_
  refine r_d 6 [(55, pv 0 0), (54, pv 0 0), (53, pv 0 0), (52, pv 0 0), (51, iv ((lkS hd (i : Int)).1.2)), (50, pv 4 1)] (by kernel_rfl) ?_
  refine r_s (by refine run_ld (v := iv (x.p 0)) rfl rfl ?_; exact head_rP (pl_r x.p 0 rfl (by omega))) ?_
  refine r_d 3 [(59, bv (((lkS hd (i : Int)).1.2) == (IntKind.i64.wrap (x.p 0 - 1)))), (58, bv (((lkS hd (i : Int)).1.2) == (IntKind.i64.wrap (x.p 0 - 1)))), (57, iv (IntKind.i64.wrap (x.p 0 - 1)))] (by kernel_rfl) ?_
  refine r_sp (b := ((lkS hd (i : Int)).1.2) == (IntKind.i64.wrap (x.p 0 - 1))) 59 rfl (fun h4 => ?_) (fun h4 => ?_)
  ·skip
   have h4' : (lkS hd (i : Int)).1.2 = IntKind.i64.wrap (x.p 0 - 1) := eqI_t h4
   refine r_d 3 [(62, pv 0 339), (61, pv 0 0), (60, pv 0 0)] (by kernel_rfl) ?_
   refine r_unguard rfl ?_
   refine r_s (by refine run_ld (v := bv x.s) rfl rfl ?_; exact (head_rT 9).trans rfl) ?_
   refine r_d 2 [(49, bv x.s), (64, bv x.s)] (by kernel_rfl) ?_
   refine r_nil ?_
   refine seq_go ?_
   refine gcond (t := x.s) rfl (fun h5 => ?_) (fun h5 => ?_)
   ·skip
    refine greg ?_
    refine o_d 3 [(67, pv 0 332), (66, pv 0 0), (65, pv 0 0)] (by kernel_rfl) ?_
    refine o_s (by refine run_ld (v := .agg #[iv x.e.k, iv x.e.s, iv x.e.a, iv x.e.p, iv x.e.g, uv x.e.ka, uv x.e.kb]) rfl rfl ?_; exact (head_rT 2).trans rfl) ?_
    refine o_d 1 [(69, pv 5 5)] (by kernel_rfl) ?_
    refine o_s0 (by refine run_st (c' := ntF (i : Int) ((lkS hd (i : Int)).1.1) (x.p 0) false false x.e zeroP) rfl rfl rfl ?_ ?_ ?_; exact rfl; exact nt_le (by omega); exact nt_wH (Nat.le_of_ble_eq_true rfl) rfl) ?_
    refine o_nil ?_
    refine seq_regs [(6, pv 5 0), (16, iv (i : Int)), (15, iv (hd.length : Nat)), (3, slV 3 n q), (0, pv 0 0)] (by kernel_rfl) ?_
    refine greg ?_
    refine o_d 1 [(70, slV 3 n q)] (by kernel_rfl) ?_
    refine o_s (by refine run_ld (v := ntV (i : Int) ((lkS hd (i : Int)).1.1) (x.p 0) false false x.e zeroP) rfl rfl ?_; exact nt_all (i : Int) ((lkS hd (i : Int)).1.1) (x.p 0) false false x.e zeroP) ?_
    refine o_s (by exact run_bsl1 rfl (ntF_length _ _ _ _ _ _ _)) ?_
    refine o_appC (k := 3) (n := n) (o := q) (q := 1) (cs := ntsL l) (xs := ntF (i : Int) ((lkS hd (i : Int)).1.1) (x.p 0) false false x.e zeroP) (cs2 := ntsL (l ++ [(⟨(i : Int), (lkS hd (i : Int)).1.1, x.p 0, false, false, x.e, zeroP⟩ : Nt)])) (zl := zNt) rfl rfl rfl (fun m q => by subst q; rfl) (fun z => by have h0 := hq z; have h1 := List.eq_nil_of_length_eq_zero (hn.1.trans h0); exact ⟨h0, by rw [h1]; rfl⟩) (by rw [ntsL_length]; first | omega | (simp; try omega)) rfl rfl (app_first rfl (nt_first (i : Int) ((lkS hd (i : Int)).1.1) (x.p 0) false false x.e zeroP) (by simp [ntF_length])) (by rw [ntF_length]) (by omega) (by omega) (ntsL_app1 l (i : Int) ((lkS hd (i : Int)).1.1) (x.p 0) false false x.e zeroP) (fun m6 e7 => ?_) (fun m6 => ?_)
    ·skip
     subst e7
     refine o_d 1 [(3, sv 3 0 (n + 1) (n + 1 + m6))] (by kernel_rfl) ?_
     refine o_nil ?_
     refine seq_go ?_
     refine greg ?_
     refine o_s (by refine run_val (v := .int .i64 (IntKind.i64.wrap ((i : Int) + 1))) (congrArg (Value.int .i64) (w64 (by omega) (by omega))) ?_; kernel_rfl) ?_
     refine o_d 1 [(16, iv ((i : Int) + 1))] (by kernel_rfl) ?_
     refine o_nil ?_
     refine ⟨hd.length - (i + 1), ?_⟩
     refine ⟨⟨reg [(16, iv ((i + 1) : Int)), (15, iv (hd.length : Nat)), (3, slV 3 (n + 1) (some m6)), (0, pv 0 0)], [cw (headL x.p 1 2 x.e x.s), .chan 200 (x.w.map entV), .map (hdM hd), slB zNt (ntsL (l ++ [(⟨(i : Int), (lkS hd (i : Int)).1.1, x.p 0, false, false, x.e, zeroP⟩ : Nt)])) (some m6)]⟩, ?_⟩
     refine and3 (by omega) ⟨?_, ?_⟩
     ·exact Wk.ren [0, 1, 2, 3] rfl rfl (by decide) ⟨rfl, ⟨rfl, ⟨rfl, ⟨rfl, trivial⟩⟩⟩⟩ ⟨.inl (ren_headS rfl rfl), ⟨.inl (congrArg some (ren_entsV _).symm), ⟨.inl (congrArg some (ren_hdM _).symm), ⟨.inl (ren_cells (ntsR_scl _ _)), trivial⟩⟩⟩⟩
     ·exact ⟨(i + 1), (l ++ [(⟨(i : Int), (lkS hd (i : Int)).1.1, x.p 0, false, false, x.e, zeroP⟩ : Nt)]), (n + 1), (some m6), rfl, by omega, (by first | (rw [notesTo_none (note_skip hxh (by assumption)), ← hl]) | (rw [notesTo_some (note_ent hxh (by assumption) (by assumption) (by assumption)), ← hl]) | (rw [notesTo_some (note_whole hxh (by assumption) (by simp_all)), ← hl])), ⟨by simp [hn.1], by omega⟩, (fun q => by cases q), rfl⟩
    refine o_d 1 [(3, sv 7 0 (n + 1) (n + 1 + m6))] (by kernel_rfl) ?_
    refine o_nil ?_
    refine seq_go ?_
    refine greg ?_
    refine o_s (by refine run_val (v := .int .i64 (IntKind.i64.wrap ((i : Int) + 1))) (congrArg (Value.int .i64) (w64 (by omega) (by omega))) ?_; kernel_rfl) ?_
    refine o_d 1 [(16, iv ((i : Int) + 1))] (by kernel_rfl) ?_
    refine o_nil ?_
    refine ⟨hd.length - (i + 1), ?_⟩
    refine ⟨⟨reg [(16, iv ((i + 1) : Int)), (15, iv (hd.length : Nat)), (3, slV 3 (n + 1) (some m6)), (0, pv 0 0)], [cw (headL x.p 1 2 x.e x.s), .chan 200 (x.w.map entV), .map (hdM hd), slB zNt (ntsL (l ++ [(⟨(i : Int), (lkS hd (i : Int)).1.1, x.p 0, false, false, x.e, zeroP⟩ : Nt)])) (some m6)]⟩, ?_⟩
    refine and3 (by omega) ⟨?_, ?_⟩
    ·exact Wk.ren [0, 1, 2, 7] rfl rfl (by decide) ⟨rfl, ⟨rfl, ⟨rfl, ⟨rfl, trivial⟩⟩⟩⟩ ⟨.inl (ren_headS rfl rfl), ⟨.inl (congrArg some (ren_entsV _).symm), ⟨.inl (congrArg some (ren_hdM _).symm), ⟨.inl (ren_cells (ntsR_scl _ _)), trivial⟩⟩⟩⟩
    ·exact ⟨(i + 1), (l ++ [(⟨(i : Int), (lkS hd (i : Int)).1.1, x.p 0, false, false, x.e, zeroP⟩ : Nt)]), (n + 1), (some m6), rfl, by omega, (by first | (rw [notesTo_none (note_skip hxh (by assumption)), ← hl]) | (rw [notesTo_some (note_ent hxh (by assumption) (by assumption) (by assumption)), ← hl]) | (rw [notesTo_some (note_whole hxh (by assumption) (by simp_all)), ← hl])), ⟨by simp [hn.1], by omega⟩, (fun q => by cases q), rfl⟩
   refine gdregD [cw (headL x.p 1 2 x.e x.s), .chan 200 (x.w.map entV), .map (hdM hd), slB zNt (ntsL l) q, cw [iv ((lkS hd (i : Int)).1.1), iv ((lkS hd (i : Int)).1.2)], cw (ntF (i : Int) ((lkS hd (i : Int)).1.1) (x.p 0) false false e0 zeroP)] (by kernel_rfl) ?_
   refine d_n 3 3 6 [(36, pv 0 0), (35, pv 0 0), (34, pv 0 0)] [cw (headL x.p 1 2 x.e x.s), .chan 200 (x.w.map entV), .map (hdM hd), slB zNt (ntsL l) q, cw [iv ((lkS hd (i : Int)).1.1), iv ((lkS hd (i : Int)).1.2)], cw (ntF (i : Int) ((lkS hd (i : Int)).1.1) (x.p 0) false false e0 zeroP)] [] (by kernel_rfl) rfl rfl ?_
   refine d_s rfl rfl rfl (by kernel_rfl) (by refine run_ld (v := poolV x.p) rfl rfl ?_; exact head_rP (pl_all x.p)) ?_
   refine d_n 1 5 6 [(38, pv 5 3)] [cw (headL x.p 1 2 x.e x.s), .chan 200 (x.w.map entV), .map (hdM hd), slB zNt (ntsL l) q, cw [iv ((lkS hd (i : Int)).1.1), iv ((lkS hd (i : Int)).1.2)], cw (ntF (i : Int) ((lkS hd (i : Int)).1.1) (x.p 0) false false e0 zeroP)] [⟨3, [0], [], none⟩] (by kernel_rfl) rfl rfl ?_
   refine d_s0 rfl rfl ⟨_, _, _, rfl⟩ (by kernel_rfl) (by refine run_st (c' := ntF (i : Int) ((lkS hd (i : Int)).1.1) (x.p 0) true false e0 zeroP) rfl rfl rfl ?_ ?_ ?_; exact rfl; exact nt_le (by omega); exact nt_wH (Nat.le_of_ble_eq_true rfl) rfl) ?_
   refine d_n 1 7 6 [(39, pv 5 12)] [cw (headL x.p 1 2 x.e x.s), .chan 200 (x.w.map entV), .map (hdM hd), slB zNt (ntsL l) q, cw [iv ((lkS hd (i : Int)).1.1), iv ((lkS hd (i : Int)).1.2)], cw (ntF (i : Int) ((lkS hd (i : Int)).1.1) (x.p 0) true false e0 zeroP)] [⟨5, [5], [5], none⟩, ⟨3, [0], [], none⟩] (by kernel_rfl) rfl rfl ?_
   refine d_s0 rfl rfl ⟨_, _, _, rfl⟩ (by kernel_rfl) (by refine run_st (c' := ntF (i : Int) ((lkS hd (i : Int)).1.1) (x.p 0) true false e0 x.p) rfl rfl rfl ?_ ?_ ?_; exact pl_length _; exact nt_le (by omega); exact nt_wP) ?_
   refine d_nil ?_
   refine seq_regs [(6, pv 5 0), (16, iv (i : Int)), (15, iv (hd.length : Nat)), (3, slV 3 n q), (0, pv 0 0)] (by kernel_rfl) ?_
   refine greg ?_
   refine o_d 1 [(70, slV 3 n q)] (by kernel_rfl) ?_
   refine o_s (by refine run_ld (v := ntV (i : Int) ((lkS hd (i : Int)).1.1) (x.p 0) true false e0 x.p) rfl rfl ?_; exact nt_all (i : Int) ((lkS hd (i : Int)).1.1) (x.p 0) true false e0 x.p) ?_
   refine o_s (by exact run_bsl1 rfl (ntF_length _ _ _ _ _ _ _)) ?_
   refine o_appC (k := 3) (n := n) (o := q) (q := 1) (cs := ntsL l) (xs := ntF (i : Int) ((lkS hd (i : Int)).1.1) (x.p 0) true false e0 x.p) (cs2 := ntsL (l ++ [(⟨(i : Int), (lkS hd (i : Int)).1.1, x.p 0, true, false, e0, x.p⟩ : Nt)])) (zl := zNt) rfl rfl rfl (fun m q => by subst q; rfl) (fun z => by have h0 := hq z; have h1 := List.eq_nil_of_length_eq_zero (hn.1.trans h0); exact ⟨h0, by rw [h1]; rfl⟩) (by rw [ntsL_length]; first | omega | (simp; try omega)) rfl rfl (app_first rfl (nt_first (i : Int) ((lkS hd (i : Int)).1.1) (x.p 0) true false e0 x.p) (by simp [ntF_length])) (by rw [ntF_length]) (by omega) (by omega) (ntsL_app1 l (i : Int) ((lkS hd (i : Int)).1.1) (x.p 0) true false e0 x.p) (fun m8 e9 => ?_) (fun m8 => ?_)
   ·skip
    subst e9
    refine o_d 1 [(3, sv 3 0 (n + 1) (n + 1 + m8))] (by kernel_rfl) ?_
    refine o_nil ?_
    refine seq_go ?_
    refine greg ?_
    refine o_s (by refine run_val (v := .int .i64 (IntKind.i64.wrap ((i : Int) + 1))) (congrArg (Value.int .i64) (w64 (by omega) (by omega))) ?_; kernel_rfl) ?_
    refine o_d 1 [(16, iv ((i : Int) + 1))] (by kernel_rfl) ?_
    refine o_nil ?_
    refine ⟨hd.length - (i + 1), ?_⟩
    refine ⟨⟨reg [(16, iv ((i + 1) : Int)), (15, iv (hd.length : Nat)), (3, slV 3 (n + 1) (some m8)), (0, pv 0 0)], [cw (headL x.p 1 2 x.e x.s), .chan 200 (x.w.map entV), .map (hdM hd), slB zNt (ntsL (l ++ [(⟨(i : Int), (lkS hd (i : Int)).1.1, x.p 0, true, false, e0, x.p⟩ : Nt)])) (some m8)]⟩, ?_⟩
    refine and3 (by omega) ⟨?_, ?_⟩
    ·exact Wk.ren [0, 1, 2, 3] rfl rfl (by decide) ⟨rfl, ⟨rfl, ⟨rfl, ⟨rfl, trivial⟩⟩⟩⟩ ⟨.inl (ren_headS rfl rfl), ⟨.inl (congrArg some (ren_entsV _).symm), ⟨.inl (congrArg some (ren_hdM _).symm), ⟨.inl (ren_cells (ntsR_scl _ _)), trivial⟩⟩⟩⟩
    ·exact ⟨(i + 1), (l ++ [(⟨(i : Int), (lkS hd (i : Int)).1.1, x.p 0, true, false, e0, x.p⟩ : Nt)]), (n + 1), (some m8), rfl, by omega, (by first | (rw [notesTo_none (note_skip hxh (by assumption)), ← hl]) | (rw [notesTo_some (note_ent hxh (by assumption) (by assumption) (by assumption)), ← hl]) | (rw [notesTo_some (note_whole hxh (by assumption) (by simp_all)), ← hl])), ⟨by simp [hn.1], by omega⟩, (fun q => by cases q), rfl⟩
   refine o_d 1 [(3, sv 7 0 (n + 1) (n + 1 + m8))] (by kernel_rfl) ?_
   refine o_nil ?_
   refine seq_go ?_
   refine greg ?_
   refine o_s (by refine run_val (v := .int .i64 (IntKind.i64.wrap ((i : Int) + 1))) (congrArg (Value.int .i64) (w64 (by omega) (by omega))) ?_; kernel_rfl) ?_
   refine o_d 1 [(16, iv ((i : Int) + 1))] (by kernel_rfl) ?_
   refine o_nil ?_
   refine ⟨hd.length - (i + 1), ?_⟩
   refine ⟨⟨reg [(16, iv ((i + 1) : Int)), (15, iv (hd.length : Nat)), (3, slV 3 (n + 1) (some m8)), (0, pv 0 0)], [cw (headL x.p 1 2 x.e x.s), .chan 200 (x.w.map entV), .map (hdM hd), slB zNt (ntsL (l ++ [(⟨(i : Int), (lkS hd (i : Int)).1.1, x.p 0, true, false, e0, x.p⟩ : Nt)])) (some m8)]⟩, ?_⟩
   refine and3 (by omega) ⟨?_, ?_⟩
   ·exact Wk.ren [0, 1, 2, 7] rfl rfl (by decide) ⟨rfl, ⟨rfl, ⟨rfl, ⟨rfl, trivial⟩⟩⟩⟩ ⟨.inl (ren_headS rfl rfl), ⟨.inl (congrArg some (ren_entsV _).symm), ⟨.inl (congrArg some (ren_hdM _).symm), ⟨.inl (ren_cells (ntsR_scl _ _)), trivial⟩⟩⟩⟩
   ·exact ⟨(i + 1), (l ++ [(⟨(i : Int), (lkS hd (i : Int)).1.1, x.p 0, true, false, e0, x.p⟩ : Nt)]), (n + 1), (some m8), rfl, by omega, (by first | (rw [notesTo_none (note_skip hxh (by assumption)), ← hl]) | (rw [notesTo_some (note_ent hxh (by assumption) (by assumption) (by assumption)), ← hl]) | (rw [notesTo_some (note_whole hxh (by assumption) (by simp_all)), ← hl])), ⟨by simp [hn.1], by omega⟩, (fun q => by cases q), rfl⟩
  have h4' : ¬ ((lkS hd (i : Int)).1.2 = IntKind.i64.wrap (x.p 0 - 1)) := eqI_f h4
  refine r_d 6 [(49, bv false), (64, bv false), (63, undef), (62, undef), (61, undef), (60, undef)] (by kernel_rfl) ?_
  refine r_nil ?_
  refine seq_go ?_
  refine gfalse rfl ?_
  refine gdregD [cw (headL x.p 1 2 x.e x.s), .chan 200 (x.w.map entV), .map (hdM hd), slB zNt (ntsL l) q, cw [iv ((lkS hd (i : Int)).1.1), iv ((lkS hd (i : Int)).1.2)], cw (ntF (i : Int) ((lkS hd (i : Int)).1.1) (x.p 0) false false e0 zeroP)] (by kernel_rfl) ?_
  refine d_n 3 3 6 [(36, pv 0 0), (35, pv 0 0), (34, pv 0 0)] [cw (headL x.p 1 2 x.e x.s), .chan 200 (x.w.map entV), .map (hdM hd), slB zNt (ntsL l) q, cw [iv ((lkS hd (i : Int)).1.1), iv ((lkS hd (i : Int)).1.2)], cw (ntF (i : Int) ((lkS hd (i : Int)).1.1) (x.p 0) false false e0 zeroP)] [] (by kernel_rfl) rfl rfl ?_
  refine d_s rfl rfl rfl (by kernel_rfl) (by refine run_ld (v := poolV x.p) rfl rfl ?_; exact head_rP (pl_all x.p)) ?_
  refine d_n 1 5 6 [(38, pv 5 3)] [cw (headL x.p 1 2 x.e x.s), .chan 200 (x.w.map entV), .map (hdM hd), slB zNt (ntsL l) q, cw [iv ((lkS hd (i : Int)).1.1), iv ((lkS hd (i : Int)).1.2)], cw (ntF (i : Int) ((lkS hd (i : Int)).1.1) (x.p 0) false false e0 zeroP)] [⟨3, [0], [], none⟩] (by kernel_rfl) rfl rfl ?_
  refine d_s0 rfl rfl ⟨_, _, _, rfl⟩ (by kernel_rfl) (by refine run_st (c' := ntF (i : Int) ((lkS hd (i : Int)).1.1) (x.p 0) true false e0 zeroP) rfl rfl rfl ?_ ?_ ?_; exact rfl; exact nt_le (by omega); exact nt_wH (Nat.le_of_ble_eq_true rfl) rfl) ?_
  refine d_n 1 7 6 [(39, pv 5 12)] [cw (headL x.p 1 2 x.e x.s), .chan 200 (x.w.map entV), .map (hdM hd), slB zNt (ntsL l) q, cw [iv ((lkS hd (i : Int)).1.1), iv ((lkS hd (i : Int)).1.2)], cw (ntF (i : Int) ((lkS hd (i : Int)).1.1) (x.p 0) true false e0 zeroP)] [⟨5, [5], [5], none⟩, ⟨3, [0], [], none⟩] (by kernel_rfl) rfl rfl ?_
  refine d_s0 rfl rfl ⟨_, _, _, rfl⟩ (by kernel_rfl) (by refine run_st (c' := ntF (i : Int) ((lkS hd (i : Int)).1.1) (x.p 0) true false e0 x.p) rfl rfl rfl ?_ ?_ ?_; exact pl_length _; exact nt_le (by omega); exact nt_wP) ?_
  refine d_nil ?_
  refine seq_regs [(6, pv 5 0), (16, iv (i : Int)), (15, iv (hd.length : Nat)), (3, slV 3 n q), (0, pv 0 0)] (by kernel_rfl) ?_
  refine greg ?_
  refine o_d 1 [(70, slV 3 n q)] (by kernel_rfl) ?_
  refine o_s (by refine run_ld (v := ntV (i : Int) ((lkS hd (i : Int)).1.1) (x.p 0) true false e0 x.p) rfl rfl ?_; exact nt_all (i : Int) ((lkS hd (i : Int)).1.1) (x.p 0) true false e0 x.p) ?_
  refine o_s (by exact run_bsl1 rfl (ntF_length _ _ _ _ _ _ _)) ?_
  refine o_appC (k := 3) (n := n) (o := q) (q := 1) (cs := ntsL l) (xs := ntF (i : Int) ((lkS hd (i : Int)).1.1) (x.p 0) true false e0 x.p) (cs2 := ntsL (l ++ [(⟨(i : Int), (lkS hd (i : Int)).1.1, x.p 0, true, false, e0, x.p⟩ : Nt)])) (zl := zNt) rfl rfl rfl (fun m q => by subst q; rfl) (fun z => by have h0 := hq z; have h1 := List.eq_nil_of_length_eq_zero (hn.1.trans h0); exact ⟨h0, by rw [h1]; rfl⟩) (by rw [ntsL_length]; first | omega | (simp; try omega)) rfl rfl (app_first rfl (nt_first (i : Int) ((lkS hd (i : Int)).1.1) (x.p 0) true false e0 x.p) (by simp [ntF_length])) (by rw [ntF_length]) (by omega) (by omega) (ntsL_app1 l (i : Int) ((lkS hd (i : Int)).1.1) (x.p 0) true false e0 x.p) (fun m10 e11 => ?_) (fun m10 => ?_)
  ·skip
   subst e11
   refine o_d 1 [(3, sv 3 0 (n + 1) (n + 1 + m10))] (by kernel_rfl) ?_
   refine o_nil ?_
   refine seq_go ?_
   refine greg ?_
   refine o_s (by refine run_val (v := .int .i64 (IntKind.i64.wrap ((i : Int) + 1))) (congrArg (Value.int .i64) (w64 (by omega) (by omega))) ?_; kernel_rfl) ?_
   refine o_d 1 [(16, iv ((i : Int) + 1))] (by kernel_rfl) ?_
   refine o_nil ?_
   refine ⟨hd.length - (i + 1), ?_⟩
   refine ⟨⟨reg [(16, iv ((i + 1) : Int)), (15, iv (hd.length : Nat)), (3, slV 3 (n + 1) (some m10)), (0, pv 0 0)], [cw (headL x.p 1 2 x.e x.s), .chan 200 (x.w.map entV), .map (hdM hd), slB zNt (ntsL (l ++ [(⟨(i : Int), (lkS hd (i : Int)).1.1, x.p 0, true, false, e0, x.p⟩ : Nt)])) (some m10)]⟩, ?_⟩
   refine and3 (by omega) ⟨?_, ?_⟩
   ·exact Wk.ren [0, 1, 2, 3] rfl rfl (by decide) ⟨rfl, ⟨rfl, ⟨rfl, ⟨rfl, trivial⟩⟩⟩⟩ ⟨.inl (ren_headS rfl rfl), ⟨.inl (congrArg some (ren_entsV _).symm), ⟨.inl (congrArg some (ren_hdM _).symm), ⟨.inl (ren_cells (ntsR_scl _ _)), trivial⟩⟩⟩⟩
   ·exact ⟨(i + 1), (l ++ [(⟨(i : Int), (lkS hd (i : Int)).1.1, x.p 0, true, false, e0, x.p⟩ : Nt)]), (n + 1), (some m10), rfl, by omega, (by first | (rw [notesTo_none (note_skip hxh (by assumption)), ← hl]) | (rw [notesTo_some (note_ent hxh (by assumption) (by assumption) (by assumption)), ← hl]) | (rw [notesTo_some (note_whole hxh (by assumption) (by simp_all)), ← hl])), ⟨by simp [hn.1], by omega⟩, (fun q => by cases q), rfl⟩
  refine o_d 1 [(3, sv 7 0 (n + 1) (n + 1 + m10))] (by kernel_rfl) ?_
  refine o_nil ?_
  refine seq_go ?_
  refine greg ?_
  refine o_s (by refine run_val (v := .int .i64 (IntKind.i64.wrap ((i : Int) + 1))) (congrArg (Value.int .i64) (w64 (by omega) (by omega))) ?_; kernel_rfl) ?_
  refine o_d 1 [(16, iv ((i : Int) + 1))] (by kernel_rfl) ?_
  refine o_nil ?_
  refine ⟨hd.length - (i + 1), ?_⟩
  refine ⟨⟨reg [(16, iv ((i + 1) : Int)), (15, iv (hd.length : Nat)), (3, slV 3 (n + 1) (some m10)), (0, pv 0 0)], [cw (headL x.p 1 2 x.e x.s), .chan 200 (x.w.map entV), .map (hdM hd), slB zNt (ntsL (l ++ [(⟨(i : Int), (lkS hd (i : Int)).1.1, x.p 0, true, false, e0, x.p⟩ : Nt)])) (some m10)]⟩, ?_⟩
  refine and3 (by omega) ⟨?_, ?_⟩
  ·exact Wk.ren [0, 1, 2, 7] rfl rfl (by decide) ⟨rfl, ⟨rfl, ⟨rfl, ⟨rfl, trivial⟩⟩⟩⟩ ⟨.inl (ren_headS rfl rfl), ⟨.inl (congrArg some (ren_entsV _).symm), ⟨.inl (congrArg some (ren_hdM _).symm), ⟨.inl (ren_cells (ntsR_scl _ _)), trivial⟩⟩⟩⟩
  ·exact ⟨(i + 1), (l ++ [(⟨(i : Int), (lkS hd (i : Int)).1.1, x.p 0, true, false, e0, x.p⟩ : Nt)]), (n + 1), (some m10), rfl, by omega, (by first | (rw [notesTo_none (note_skip hxh (by assumption)), ← hl]) | (rw [notesTo_some (note_ent hxh (by assumption) (by assumption) (by assumption)), ← hl]) | (rw [notesTo_some (note_whole hxh (by assumption) (by simp_all)), ← hl])), ⟨by simp [hn.1], by omega⟩, (fun q => by cases q), rfl⟩
 have h2' : ¬ ((i : Int) < (hd.length : Nat)) := of_decide_eq_false h2
 refine gexit ?_
 refine seq_go ?_
 refine gseq ?_
 refine greg ?_
 refine o_d 2 [(2, slV 3 n q), (75, slV 3 n q)] (by kernel_rfl) ?_
 refine o_nil ?_
 refine seq_go ?_
 refine gret ?_
 have hil : i = hd.length := by omega
 have hs2 : (sendS (HS.mk p w hd e b)).2 = l := by rw [hl, hil]; simp only [sendS]; rw [← hx, hxh]
 have hs1 : (sendS (HS.mk p w hd e b)).1 = x := hx.symm
 exact ⟨trivial, ⟨reg [(2, slV 3 n q)], [cw (headL x.p 1 2 x.e x.s), .chan 200 (x.w.map entV), .map (hdM hd), slB zNt (ntsL l) q]⟩, Wk.ren [0, 1, 2, 3] rfl rfl (by decide) ⟨(renV_slV q rfl).trans rfl, trivial⟩ ⟨.inl (ren_headS rfl rfl), ⟨.inl (congrArg some (ren_entsV _).symm), ⟨.inl (congrArg some (ren_hdM _).symm), ⟨.inl (ren_slB q (fun _ => (ntsR_scl _ _))), trivial⟩⟩⟩⟩, [slV 3 n q], (resV_t rfl rfl), (tup_cons (isTup_slV _ _ _) tup_nil), q, (fun z => by rw [hs2]; exact List.eq_nil_of_length_eq_zero (hn.1.trans (hq z))), (by rw [hs2, hn.1]; rfl), (by rw [hs1, hs2])⟩
end Go.Rh

set_option linter.unusedSimpArgs false
set_option linter.unusedVariables false
set_option maxRecDepth 100000
namespace Go.Rh
end Go.Rh

set_option linter.unusedSimpArgs false
set_option linter.unusedVariables false
set_option maxRecDepth 100000
set_option maxHeartbeats 8000000
namespace Go.Rh
def c_head_Head_Wish : IFunc :=
  ⟨55, [.tmp 4], (.seq (.reg [⟨(some 4), .mv (.c (.int .i64 0)), none⟩]) (.seq (.seq (.reg [⟨(some 13), .mv (.t 0), none⟩, ⟨(some 14), .nilc (.t 13), none⟩, ⟨(some 15), .fad 330 (.t 14), none⟩, ⟨(some 16), .ld none (.t 15), none⟩, ⟨(some 17), .lenC (.t 16), none⟩, ⟨(some 18), .mv (.t 1), none⟩, ⟨(some 19), .lenS (.t 18), none⟩, ⟨(some 20), .bin .add (.t 17) (.t 19), none⟩, ⟨(some 21), .bin .gtr (.t 20) (.c (.int .i64 200)), none⟩]) (.cond (.t 21) (.seq (.reg [⟨(some 4), .mv (.c (.int .i64 14)), none⟩]) .ret) .skip)) (.seq (.dreg [⟨(some 23), .mv (.t 0), none⟩, ⟨(some 24), .nilc (.t 23), none⟩, ⟨(some 25), .fad 0 (.t 24), none⟩, ⟨(some 26), .ld (some 330) (.t 25), none⟩, ⟨(some 27), .mv (.t 0), none⟩, ⟨(some 28), .call "(*roundhouse/head.Head).waiting" [(.t 27)], none⟩, ⟨(some 29), .call "roundhouse/pool.All" [(.t 26), (.t 28)], none⟩, ⟨(some 22), .mv (.t 29), none⟩, ⟨(some 30), .ext 0 (.t 22), none⟩, ⟨(some 31), .ext 1 (.t 22), none⟩, ⟨(some 32), .ext 2 (.t 22), none⟩, ⟨(some 5), .new [(324, (.int .i64 0)), (6, (.int .u64 0))], none⟩, ⟨none, .st 330 (.t 5) (.t 30), none⟩, ⟨(some 6), .mv (.t 31), none⟩, ⟨(some 7), .mv (.t 32), none⟩] [[], [0], [1, 0], [2, 1, 0], [], [4], [3, 2, 1, 0, 5, 4], [6, 3, 2, 1, 0, 5, 4], [7, 6, 3, 2, 1, 0, 5, 4], [7, 6, 3, 2, 1, 0, 5, 4], [7, 6, 3, 2, 1, 0, 5, 4], [], [11, 8, 7, 6, 3, 2, 1, 0, 5, 4], [9, 7, 6, 3, 2, 1, 0, 5, 4, 12, 11, 8], [10, 7, 6, 3, 2, 1, 0, 5, 4, 13, 9, 12, 11, 8]]) (.seq (.seq (.reg [⟨(some 34), .ld (some 330) (.t 5), none⟩, ⟨(some 35), .mv (.t 1), none⟩, ⟨(some 36), .call "roundhouse/pool.All" [(.t 34), (.t 35)], none⟩, ⟨(some 33), .mv (.t 36), none⟩, ⟨(some 37), .ext 0 (.t 33), none⟩, ⟨(some 38), .ext 1 (.t 33), none⟩, ⟨(some 39), .ext 2 (.t 33), none⟩, ⟨(some 8), .new [(324, (.int .i64 0)), (6, (.int .u64 0))], none⟩, ⟨none, .st 330 (.t 8) (.t 37), none⟩, ⟨(some 9), .mv (.t 38), none⟩, ⟨(some 10), .mv (.t 39), none⟩]) (.seq (.reg [⟨(some 40), .mv (.t 10), none⟩, ⟨(some 41), .bin .neq (.t 40) (.c (.int .i64 0)), none⟩]) (.cond (.t 41) (.seq (.reg [⟨(some 42), .mv (.t 10), none⟩, ⟨(some 4), .mv (.t 42), none⟩]) .ret) .skip))) (.seq (.seq (.reg [⟨(some 43), .mv (.t 1), none⟩, ⟨(some 44), .lenS (.t 43), none⟩, ⟨(some 45), .mv (.c (.int .i64 0)), none⟩]) (.block 0 (.loop (.seq (.reg [⟨(some 46), .bin .lss (.t 45) (.t 44), none⟩]) (.seq (.cond (.t 46) .skip (.exit 0)) (.seq (.block 1 (.seq (.reg [⟨(some 47), .iadS 7 (.t 43) (.t 45), none⟩, ⟨(some 48), .ld (some 7) (.t 47), none⟩, ⟨(some 12), .new [(5, (.int .i64 0)), (2, (.int .u64 0))], none⟩, ⟨none, .st 7 (.t 12) (.t 48), none⟩]) (.dreg [⟨(some 49), .mv (.t 0), none⟩, ⟨(some 50), .nilc (.t 49), none⟩, ⟨(some 51), .fad 330 (.t 50), none⟩, ⟨(some 52), .ld none (.t 51), none⟩, ⟨(some 53), .ld (some 7) (.t 12), none⟩, ⟨none, .snd (.t 52) (.t 53), none⟩] [[], [0], [1, 0], [2, 1, 0], [], [3, 2, 1, 0, 4]]))) (.reg [⟨(some 54), .bin .add (.t 45) (.c (.int .i64 1)), none⟩, ⟨(some 45), .mv (.t 54), none⟩]))))))) (.seq (.reg [⟨(some 4), .mv (.c (.int .i64 0)), none⟩]) .ret))))))⟩
theorem wish_many {x : HS} {l : List Ent} (h : 200 < x.w.length + l.length) : wishS x l = (14, x) := by simp only [wishS]; rw [if_pos h]
theorem wish_bad {x : HS} {l : List Ent} (h : ¬ 200 < x.w.length + l.length) (h2 : (allS (allS x.p x.w 0).1 l 0).2.2 ≠ 0) : wishS x l = ((allS (allS x.p x.w 0).1 l 0).2.2, x) := by simp only [wishS]; rw [if_neg h, if_pos h2]
theorem wish_ok {x : HS} {l : List Ent} (h : ¬ 200 < x.w.length + l.length) (h2 : ¬ (allS (allS x.p x.w 0).1 l 0).2.2 ≠ 0) : wishS x l = (0, { x with w := x.w ++ l }) := by simp only [wishS]; rw [if_neg h, if_neg h2]
theorem HWishC {P : Program} (hc : codeOf P "(*roundhouse/head.Head).Wish" = some c_head_Head_Wish) (h_head_Head_waiting : codeOf P "(*roundhouse/head.Head).waiting" = some c_head_Head_waiting) (h_pool_All : codeOf P "roundhouse/pool.All" = some c_pool_All) (h_pool_Apply : codeOf P "roundhouse/pool.Apply" = some c_pool_Apply) (h_pool_may : codeOf P "roundhouse/pool.may" = some c_pool_may) (h_pool_held : codeOf P "roundhouse/pool.held" = some c_pool_held) (h_pool_fits : codeOf P "roundhouse/pool.fits" = some c_pool_fits) (h_pool_Check : codeOf P "roundhouse/pool.Check" = some c_pool_Check) (h_pool_placed : codeOf P "roundhouse/pool.placed" = some c_pool_placed) (h_cookie_Next : codeOf P "roundhouse/cookie.Next" = some c_cookie_Next) (p : Flat) (w : List Ent) (hd : List (Int × Int)) (e : Ent) (b : Bool) (l : List Ent) (q : Option Nat) (hw : w.length ≤ 200) (hq : q = none → l = []) (hl : l.length ≤ 1000000) :
    Env P "(*roundhouse/head.Head).Wish" [pv 0 0, slV 3 l.length q] ([cw (headL p 1 2 e b), .chan 200 (w.map entV), .map (hdM hd), slB zE (entsL l) q]) (fun v1 h' => v1 = iv (wishS (HS.mk p w hd e b) l).1 ∧ h' = [cw (headL p 1 2 e b), .chan 200 ((wishS (HS.mk p w hd e b) l).2.w.map entV), .map (hdM hd), slB zE (entsL l) q]) := by
 refine Env.by2 hc ?_
 unfold c_head_Head_Wish
 show GC _ 4 _ _ ⟨reg [(0, pv 0 0), (1, slV 3 l.length q)], [cw (headL p 1 2 e b), .chan 200 (w.map entV), .map (hdM hd), slB zE (entsL l) q]⟩
 refine gseq ?_
 refine greg ?_
 refine o_d 1 [(4, iv 0)] (by kernel_rfl) ?_
 refine o_nil ?_
 refine seq_go ?_
 refine gseq ?_
 refine gseq ?_
 refine greg ?_
 refine o_d 3 [(15, pv 0 330), (14, pv 0 0), (13, pv 0 0)] (by kernel_rfl) ?_
 refine o_s (by refine run_ld (v := .chan (some 1)) rfl rfl ?_; exact (head_rT 0).trans rfl) ?_
 refine o_s (by exact run_lenW (w := w) rfl rfl) ?_
 refine o_d 1 [(18, slV 3 l.length q)] (by kernel_rfl) ?_
 refine o_s (by exact run_lenSl rfl (fun z => by rw [hq z]; rfl)) ?_
 refine o_s (by refine run_val (v := .int .i64 (IntKind.i64.wrap ((w.length : Nat) + (l.length : Nat)))) (congrArg (Value.int .i64) (w64 (by first | omega | (simp at *; omega)) (by first | omega | (simp at *; omega)))) ?_; kernel_rfl) ?_
 refine o_d 1 [(21, bv (decide (((w.length : Nat) + (l.length : Nat) : Int) > 200)))] (by kernel_rfl) ?_
 refine o_nil ?_
 refine seq_go ?_
 refine gcond (t := decide (((w.length : Nat) + (l.length : Nat) : Int) > 200)) rfl (fun h1 => ?_) (fun h1 => ?_)
 ·skip
  have h1' : ((w.length : Nat) + (l.length : Nat) : Int) > 200 := of_decide_eq_true h1
  refine gseq ?_
  refine greg ?_
  refine o_d 1 [(4, iv 14)] (by kernel_rfl) ?_
  refine o_nil ?_
  refine seq_go ?_
  refine gret ?_
  have hW : wishS (HS.mk p w hd e b) l = (14, (HS.mk p w hd e b)) := wish_many (by show 200 < w.length + l.length; simp at *; omega)
  exact ⟨trivial, ⟨reg [(4, iv 14)], [cw (headL p 1 2 e b), .chan 200 (w.map entV), .map (hdM hd), slB zE (entsL l) q]⟩, Wk.ren [0, 1, 2, 3] rfl rfl (by decide) ⟨rfl, trivial⟩ ⟨.inl (ren_headS rfl rfl), ⟨.inl (congrArg some (ren_entsV _).symm), ⟨.inl (congrArg some (ren_hdM _).symm), ⟨.inl (ren_slB q (fun _ => (entsR_scl _ _))), trivial⟩⟩⟩⟩, [iv 14], (resV_t rfl rfl), (tup_cons rfl tup_nil), (by rw [hW]; rfl), (by first | (rw [hW]; done) | (rw [hW]; rfl) | (rw [hW, hil]; rfl) | (rw [hW, hil]; done) | (rw [hW, hl0, List.append_nil]; rfl) | (rw [hW, hl0, List.append_nil]; done))⟩
 have h1' : ¬ (((w.length : Nat) + (l.length : Nat) : Int) > 200) := of_decide_eq_false h1
 refine gskip ?_
 refine seq_go ?_
 refine gseq ?_
 refine gdregD [cw (headL p 1 2 e b), .chan 200 (w.map entV), .map (hdM hd), slB zE (entsL l) q, .gone] (by kernel_rfl) ?_
 refine d_n 3 3 4 [(25, pv 0 0), (24, pv 0 0), (23, pv 0 0)] [cw (headL p 1 2 e b), .chan 200 (w.map entV), .map (hdM hd), slB zE (entsL l) q, .gone] [] (by kernel_rfl) rfl rfl ?_
 refine d_s rfl rfl rfl (by kernel_rfl) (by refine run_ld (v := poolV p) rfl rfl ?_; exact head_rP (pl_all p)) ?_
 refine d_n 1 5 4 [(27, pv 0 0)] [cw (headL p 1 2 e b), .chan 200 (w.map entV), .map (hdM hd), slB zE (entsL l) q, .gone] [⟨3, [0], [], none⟩] (by kernel_rfl) rfl rfl ?_
 refine d_clG [0, 1, 2] [cr (headL p 1 2 e b), .chan 200 (w.map entV), .map (hdM hd)] [pv 0 0] (HwaitingC h_head_Head_waiting p w hd e b hw) rfl rfl ⟨⟨_, rfl, seen_head rfl rfl (fun q => rfl)⟩, ⟨⟨_, rfl, seen_ents _⟩, ⟨⟨_, rfl, seen_hdM _⟩, trivial⟩⟩⟩ (by decide) ⟨_, _, ⟨some 0, (fun q => by cases q), rfl, rfl⟩, Nat.le_add_right 3 1, flags_app [_, _, _] [_]⟩ ?_ (by kernel_rfl)
 rintro v1 h1' ⟨q2, hq3, rfl, rfl⟩
 refine ⟨slV 5 w.length q2, [cw (headL p 1 2 e b), .chan 200 (w.map entV), .map (hdM hd), slB zE (entsL l) q, .gone], [slB zE (entsL w) q2], (renV_slV q2 rfl), ⟨rfl, ⟨ren_entsV _, ⟨ren_hdM _, ⟨rfl, ⟨rfl, trivial⟩⟩⟩⟩⟩, ⟨(Option.some.inj (ren_slB q2 (fun _ => (entsR_scl _ _)))).symm, trivial⟩, ?_⟩
 rcases q2 with _ | m4
 ·skip
  have h0q2 := hq3 rfl
  refine d_cl (callVR (All0 h_pool_All h_pool_Apply h_pool_may h_pool_held h_pool_fits h_pool_Check h_pool_placed h_cookie_Next p) rfl (all_cons (poolV_vpf p) (all_cons rfl rfl)) (all_cons (poolV_aggf p) (all_cons rfl (all_cons rfl rfl))) ?_)
  refine d_n 5 12 5 [(5, pv 4 0), (32, iv 0), (31, iv 0), (30, poolV p), (22, .tuple #[poolV p, iv 0, iv 0])] [cw (headL p 1 2 e b), .chan 200 (w.map entV), .map (hdM hd), slB zE (entsL l) q, cw (pl zeroP), .gone] [⟨11, [], [4], none⟩, ⟨6, [], [], some 6⟩, ⟨5, [0, 1, 2], [1, 2], some 5⟩, ⟨3, [0], [], none⟩] (by kernel_rfl) rfl rfl ?_
  refine d_s0 rfl rfl ⟨_, _, _, rfl⟩ (by kernel_rfl) (by refine run_st (c' := pl p) rfl rfl rfl ?_ ?_ ?_; exact pl_length _; exact pl_le (by omega); exact splice_pl0 zeroP p) ?_
  refine d_n 2 15 5 [(7, iv 0), (6, iv 0)] [cw (headL p 1 2 e b), .chan 200 (w.map entV), .map (hdM hd), slB zE (entsL l) q, cw (pl p), .gone] [⟨12, [4], [4], none⟩, ⟨11, [], [4], none⟩, ⟨6, [], [], some 6⟩, ⟨5, [0, 1, 2], [1, 2], some 5⟩, ⟨3, [0], [], none⟩] (by kernel_rfl) rfl rfl ?_
  refine d_nil ?_
  refine seq_regs [(5, pv 4 0), (0, pv 0 0), (1, slV 3 l.length q)] (by kernel_rfl) ?_
  refine gseq ?_
  refine gseq ?_
  refine greg ?_
  refine o_s (by refine run_ld (v := poolV p) rfl rfl ?_; exact pl_all p) ?_
  refine o_d 1 [(35, slV 3 l.length q)] (by kernel_rfl) ?_
  rcases q with _ | m5
  ·skip
   have hl0 : l = [] := hq rfl
   refine o_cl (callV (All0 h_pool_All h_pool_Apply h_pool_may h_pool_held h_pool_fits h_pool_Check h_pool_placed h_cookie_Next p) rfl (all_cons (poolV_vpf p) (all_cons rfl rfl)) (all_cons (poolV_aggf p) (all_cons rfl (all_cons rfl rfl))) ?_)
   refine o_b 5 [(8, pv 6 0), (39, iv 0), (38, iv 0), (37, poolV p), (33, .tuple #[poolV p, iv 0, iv 0])] [cw (headL p 1 2 e b), .chan 200 (w.map entV), .map (hdM hd), .gone, cw (pl p), .gone, cw (pl zeroP)] (by kernel_rfl) ?_
   refine o_s0 (by refine run_st (c' := pl p) rfl rfl rfl ?_ ?_ ?_; exact pl_length _; exact pl_le (by omega); exact splice_pl0 zeroP p) ?_
   refine o_b 2 [(10, iv 0), (9, iv 0)] [cw (headL p 1 2 e b), .chan 200 (w.map entV), .map (hdM hd), .gone, cw (pl p), .gone, cw (pl p)] (by kernel_rfl) ?_
   refine o_nil ?_
   refine seq_go ?_
   refine gseq ?_
   refine greg ?_
   refine o_d 2 [(41, bv false), (40, iv 0)] (by kernel_rfl) ?_
   refine o_nil ?_
   refine seq_go ?_
   refine gfalse rfl ?_
   refine gskip ?_
   refine seq_go ?_
   refine gseq ?_
   refine gseq ?_
   refine greg ?_
   refine o_d 3 [(45, iv 0), (44, iv 0), (43, .slice none 0 0)] (by kernel_rfl) ?_
   refine o_nil ?_
   refine seq_go ?_
   refine gblock ?_
   refine gloop (fun μ s => (μ = 0 ∧ s = ⟨reg [(45, iv 0), (44, iv 0), (43, .slice none 0 0), (0, pv 0 0)], [cw (headL p 1 2 e b), .chan 200 (w.map entV), .map (hdM hd), .gone, cw (pl p), .gone, cw (pl p)]⟩)) ⟨0, ?_⟩ ?_
   ·skip
    refine ⟨⟨reg [(45, iv 0), (44, iv 0), (43, .slice none 0 0), (0, pv 0 0)], [cw (headL p 1 2 e b), .chan 200 (w.map entV), .map (hdM hd), .gone, cw (pl p), .gone, cw (pl p)]⟩, ?_⟩
    refine ⟨?_, ?_⟩
    ·exact Wk.ren [0, 1, 2, 3, 4, 5, 6] rfl rfl (by decide) ⟨rfl, ⟨rfl, ⟨rfl, ⟨rfl, trivial⟩⟩⟩⟩ ⟨.inl (ren_headS rfl rfl), ⟨.inl (congrArg some (ren_entsV _).symm), ⟨.inl (congrArg some (ren_hdM _).symm), ⟨.inl rfl, ⟨.inl (ren_cells (pl_scl p)), ⟨.inl rfl, ⟨.inl (ren_cells (pl_scl p)), trivial⟩⟩⟩⟩⟩⟩⟩
    ·exact ⟨rfl, rfl⟩
   ·rintro μ s (⟨rfl, rfl⟩)
    ·skip
     refine gseq ?_
     refine greg ?_
     refine o_d 1 [(46, bv false)] (by kernel_rfl) ?_
     refine o_nil ?_
     refine seq_go ?_
     refine gseq ?_
     refine gfalse rfl ?_
     refine gexit ?_
     refine seq_go ?_
     refine gseq ?_
     refine greg ?_
     refine o_d 1 [(4, iv 0)] (by kernel_rfl) ?_
     refine o_nil ?_
     refine seq_go ?_
     refine gret ?_
     have hW : wishS (HS.mk p w hd e b) l = (0, ⟨p, w ++ l, hd, e, b⟩) := wish_ok (by show ¬ 200 < w.length + l.length; simp at *; omega) (by first | assumption | (simp_all [allS]; done))
     exact ⟨trivial, ⟨reg [(4, iv 0)], [cw (headL p 1 2 e b), .chan 200 (w.map entV), .map (hdM hd), .gone]⟩, Wk.ren [0, 1, 2, 3] rfl rfl (by decide) ⟨rfl, trivial⟩ ⟨.inl (ren_headS rfl rfl), ⟨.inl (congrArg some (ren_entsV _).symm), ⟨.inl (congrArg some (ren_hdM _).symm), ⟨.inl rfl, trivial⟩⟩⟩⟩, [iv 0], (resV_t rfl rfl), (tup_cons rfl tup_nil), (by rw [hW]; rfl), (by first | (rw [hW]; done) | (rw [hW]; rfl) | (rw [hW, hil]; rfl) | (rw [hW, hil]; done) | (rw [hW, hl0, List.append_nil]; rfl) | (rw [hW, hl0, List.append_nil]; done))⟩
  ·skip
   refine o_cl (callS (a1 := [poolV p, .slice (some ⟨0, 0, none⟩) l.length (l.length + m5)]) [3] [entsL l ++ room zE m5] (AllE h_pool_All h_pool_Apply h_pool_may h_pool_held h_pool_fits h_pool_Check h_pool_placed h_cookie_Next p l m5 l.length (l.length + m5) (by simp) (by first | omega | (simp at *; omega))) rfl (fun n => ren_pool_sl _ _ _ _ _) ⟨⟨_, rfl⟩, entsR_scl _ _, trivial⟩ (all_cons (poolV_aggf ((allS p l 0).1)) (all_cons rfl (all_cons rfl rfl))) ?_)
   refine o_b 5 [(8, pv 6 0), (39, iv ((allS p l 0).2.2)), (38, iv ((allS p l 0).2.1 : Int)), (37, poolV ((allS p l 0).1)), (33, .tuple #[poolV ((allS p l 0).1), iv ((allS p l 0).2.1 : Int), iv ((allS p l 0).2.2)])] [cw (headL p 1 2 e b), .chan 200 (w.map entV), .map (hdM hd), cw (entsL l ++ room zE m5), cw (pl p), .gone, cw (pl zeroP)] (by kernel_rfl) ?_
   refine o_s0 (by refine run_st (c' := pl ((allS p l 0).1)) rfl rfl rfl ?_ ?_ ?_; exact pl_length _; exact pl_le (by omega); exact splice_pl0 zeroP ((allS p l 0).1)) ?_
   refine o_b 2 [(10, iv ((allS p l 0).2.2)), (9, iv ((allS p l 0).2.1 : Int))] [cw (headL p 1 2 e b), .chan 200 (w.map entV), .map (hdM hd), cw (entsL l ++ room zE m5), cw (pl p), .gone, cw (pl ((allS p l 0).1))] (by kernel_rfl) ?_
   refine o_nil ?_
   refine seq_go ?_
   refine gseq ?_
   refine greg ?_
   refine o_d 2 [(41, bv (((allS p l 0).2.2) != 0)), (40, iv ((allS p l 0).2.2))] (by kernel_rfl) ?_
   refine o_nil ?_
   refine seq_go ?_
   refine gcond (t := ((allS p l 0).2.2) != 0) rfl (fun h6 => ?_) (fun h6 => ?_)
   ·skip
    have h6' : (allS p l 0).2.2 ≠ 0 := neI_t h6
    refine gseq ?_
    refine greg ?_
    refine o_d 2 [(4, iv ((allS p l 0).2.2)), (42, iv ((allS p l 0).2.2))] (by kernel_rfl) ?_
    refine o_nil ?_
    refine seq_go ?_
    refine gret ?_
    have hW : wishS (HS.mk p w hd e b) l = ((allS p l 0).2.2, (HS.mk p w hd e b)) := by have z := @wish_bad (HS.mk p w hd e b) l (by show ¬ 200 < w.length + l.length; simp at *; omega) (by first | assumption | (simp_all [allS]; done)); first | exact z | (subst_vars; exact z)
    exact ⟨trivial, ⟨reg [(4, iv ((allS p l 0).2.2))], [cw (headL p 1 2 e b), .chan 200 (w.map entV), .map (hdM hd), cw (entsL l ++ room zE m5)]⟩, Wk.ren [0, 1, 2, 3] rfl rfl (by decide) ⟨rfl, trivial⟩ ⟨.inl (ren_headS rfl rfl), ⟨.inl (congrArg some (ren_entsV _).symm), ⟨.inl (congrArg some (ren_hdM _).symm), ⟨.inl (ren_cells (entsR_scl l m5)), trivial⟩⟩⟩⟩, [iv ((allS p l 0).2.2)], (resV_t rfl rfl), (tup_cons rfl tup_nil), (by rw [hW]; rfl), (by first | (rw [hW]; done) | (rw [hW]; rfl) | (rw [hW, hil]; rfl) | (rw [hW, hil]; done) | (rw [hW, hl0, List.append_nil]; rfl) | (rw [hW, hl0, List.append_nil]; done))⟩
   have h6' : ¬ ((allS p l 0).2.2 ≠ 0) := neI_f h6
   refine gskip ?_
   refine seq_go ?_
   refine gseq ?_
   refine gseq ?_
   refine greg ?_
   refine o_d 3 [(45, iv 0), (44, iv (l.length : Nat)), (43, sv 3 0 l.length (l.length + m5))] (by kernel_rfl) ?_
   refine o_nil ?_
   refine seq_go ?_
   refine gblock ?_
   refine gloop (fun μ s => ∃ (i : Nat), ∃ (wc : List Ent), μ = l.length - i ∧ (i ≤ l.length) ∧ (wc = w ++ l.take i) ∧ s = ⟨reg [(45, iv (i : Int)), (44, iv (l.length : Nat)), (43, sv 3 0 l.length (l.length + m5)), (0, pv 0 0)], [cw (headL p 1 2 e b), .chan 200 (wc.map entV), .map (hdM hd), cw (entsL l ++ room zE m5)]⟩) ⟨(l.length - 0), ?_⟩ ?_
   ·skip
    refine ⟨⟨reg [(45, iv (0 : Int)), (44, iv (l.length : Nat)), (43, sv 3 0 l.length (l.length + m5)), (0, pv 0 0)], [cw (headL p 1 2 e b), .chan 200 (w.map entV), .map (hdM hd), cw (entsL l ++ room zE m5)]⟩, ?_⟩
    refine ⟨?_, ?_⟩
    ·exact Wk.ren [0, 1, 2, 3] rfl rfl (by decide) ⟨rfl, ⟨rfl, ⟨rfl, ⟨rfl, trivial⟩⟩⟩⟩ ⟨.inl (ren_headS rfl rfl), ⟨.inl (congrArg some (ren_entsV _).symm), ⟨.inl (congrArg some (ren_hdM _).symm), ⟨.inl (ren_cells (entsR_scl l m5)), trivial⟩⟩⟩⟩
    ·exact ⟨0, w, rfl, (Nat.zero_le _), (by simp), rfl⟩
   rintro μ s ⟨i, wc, rfl, hi, hwc, rfl⟩
   refine gseq ?_
   refine greg ?_
   refine o_d 1 [(46, bv (decide ((i : Int) < (l.length : Nat))))] (by kernel_rfl) ?_
   refine o_nil ?_
   refine seq_go ?_
   refine gseq ?_
   refine gcond (t := decide ((i : Int) < (l.length : Nat))) rfl (fun h7 => ?_) (fun h7 => ?_)
   ·skip
    have h7' : (i : Int) < (l.length : Nat) := of_decide_eq_true h7
    obtain ⟨x, hx, hdr, ht⟩ := get_of_lt (l := l) (i := i) (by omega)
    refine gskip ?_
    refine seq_go ?_
    refine gseq ?_
    refine gblock ?_
    refine gseq ?_
    refine greg ?_
    refine o_s (by exact run_iadS (o := 0) (o' := 7 * i) rfl rfl (by first | omega | (simp at *; omega)) (by first | omega | (simp at *; omega))) ?_
    refine o_s (by refine run_ld (v := .agg #[iv x.k, iv x.s, iv x.a, iv x.p, iv x.g, uv x.ka, uv x.kb]) rfl rfl ?_; exact ents_r (i := i) (by omega) hx) ?_
    refine o_b 2 [(12, pv 4 0)] [cw (headL p 1 2 e b), .chan 200 (wc.map entV), .map (hdM hd), cw (entsL l ++ room zE m5), cw [iv x.k, iv x.s, iv x.a, iv x.p, iv x.g, uv x.ka, uv x.kb]] (by kernel_rfl) ?_
    refine o_nil ?_
    refine seq_go ?_
    refine gdregD [cw (headL p 1 2 e b), .chan 200 (wc.map entV), .map (hdM hd), cw (entsL l ++ room zE m5), cw [iv x.k, iv x.s, iv x.a, iv x.p, iv x.g, uv x.ka, uv x.kb]] (by kernel_rfl) ?_
    refine d_n 3 3 5 [(51, pv 0 330), (50, pv 0 0), (49, pv 0 0)] [cw (headL p 1 2 e b), .chan 200 (wc.map entV), .map (hdM hd), cw (entsL l ++ room zE m5), cw [iv x.k, iv x.s, iv x.a, iv x.p, iv x.g, uv x.ka, uv x.kb]] [] (by kernel_rfl) rfl rfl ?_
    refine d_s rfl rfl rfl (by kernel_rfl) (by refine run_ld (v := .chan (some 1)) rfl rfl ?_; exact (head_rT 0).trans rfl) ?_
    refine d_n 1 5 5 [(53, .agg #[iv x.k, iv x.s, iv x.a, iv x.p, iv x.g, uv x.ka, uv x.kb])] [cw (headL p 1 2 e b), .chan 200 (wc.map entV), .map (hdM hd), cw (entsL l ++ room zE m5), cw [iv x.k, iv x.s, iv x.a, iv x.p, iv x.g, uv x.ka, uv x.kb]] [⟨4, [4], [], none⟩, ⟨3, [0], [], none⟩] (by kernel_rfl) rfl rfl ?_
    refine d_snd (k := 1) (b := wc.map entV) (b2 := (wc ++ [x]).map entV) rfl rfl rfl (by rw [List.length_map]; rw [hwc]; simp; omega) rfl (ents_snocV wc x) ?_
    refine d_nil ?_
    refine seq_go ?_
    refine greg ?_
    refine o_s (by refine run_val (v := .int .i64 (IntKind.i64.wrap ((i : Int) + 1))) (congrArg (Value.int .i64) (w64 (by first | omega | (simp at *; omega)) (by first | omega | (simp at *; omega)))) ?_; kernel_rfl) ?_
    refine o_d 1 [(45, iv ((i : Int) + 1))] (by kernel_rfl) ?_
    refine o_nil ?_
    refine ⟨l.length - (i + 1), ?_⟩
    refine ⟨⟨reg [(45, iv ((i + 1) : Int)), (44, iv (l.length : Nat)), (43, sv 3 0 l.length (l.length + m5)), (0, pv 0 0)], [cw (headL p 1 2 e b), .chan 200 ((wc ++ [x]).map entV), .map (hdM hd), cw (entsL l ++ room zE m5)]⟩, ?_⟩
    refine and3 (by omega) ⟨?_, ?_⟩
    ·exact Wk.ren [0, 1, 2, 3] rfl rfl (by decide) ⟨rfl, ⟨rfl, ⟨rfl, ⟨rfl, trivial⟩⟩⟩⟩ ⟨.inl (ren_headS rfl rfl), ⟨.inl (congrArg some (ren_entsV _).symm), ⟨.inl (congrArg some (ren_hdM _).symm), ⟨.inl (ren_cells (entsR_scl l m5)), trivial⟩⟩⟩⟩
    ·exact ⟨(i + 1), (wc ++ [x]), rfl, by omega, (by rw [ht, hwc, List.append_assoc]), rfl⟩
   have h7' : ¬ ((i : Int) < (l.length : Nat)) := of_decide_eq_false h7
   refine gexit ?_
   refine seq_go ?_
   refine gseq ?_
   refine greg ?_
   refine o_d 1 [(4, iv 0)] (by kernel_rfl) ?_
   refine o_nil ?_
   refine seq_go ?_
   refine gret ?_
   have hW : wishS (HS.mk p w hd e b) l = (0, ⟨p, w ++ l, hd, e, b⟩) := wish_ok (by show ¬ 200 < w.length + l.length; simp at *; omega) (by first | assumption | (simp_all [allS]; done))
   have hil : wc = w ++ l := by rw [hwc, show i = l.length by omega]; simp
   exact ⟨trivial, ⟨reg [(4, iv 0)], [cw (headL p 1 2 e b), .chan 200 (wc.map entV), .map (hdM hd), cw (entsL l ++ room zE m5)]⟩, Wk.ren [0, 1, 2, 3] rfl rfl (by decide) ⟨rfl, trivial⟩ ⟨.inl (ren_headS rfl rfl), ⟨.inl (congrArg some (ren_entsV _).symm), ⟨.inl (congrArg some (ren_hdM _).symm), ⟨.inl (ren_cells (entsR_scl l m5)), trivial⟩⟩⟩⟩, [iv 0], (resV_t rfl rfl), (tup_cons rfl tup_nil), (by rw [hW]; rfl), (by first | (rw [hW]; done) | (rw [hW]; rfl) | (rw [hW, hil]; rfl) | (rw [hW, hil]; done) | (rw [hW, hl0, List.append_nil]; rfl) | (rw [hW, hl0, List.append_nil]; done))⟩
 ·skip
  refine d_clG [5] [cr (entsL w ++ room zE m4)] [poolV p, sv 0 0 w.length (w.length + m4)] (AllE h_pool_All h_pool_Apply h_pool_may h_pool_held h_pool_fits h_pool_Check h_pool_placed h_cookie_Next p w m4 w.length (w.length + m4) (by simp) (by first | omega | (simp at *; omega))) rfl (cons_eq (renV_vpf (poolV_vpf p)) (cons_eq rfl rfl)) ⟨⟨_, rfl, seen_cells (entsR_scl w m4) (fun q => rfl)⟩, trivial⟩ (by decide) ⟨_, _, ⟨rfl, rfl⟩, Nat.le_refl 1, flags_app [_] []⟩ ?_ (by kernel_rfl)
  rintro v1 h1' ⟨rfl, rfl⟩
  refine ⟨.tuple #[poolV ((allS p w 0).1), iv ((allS p w 0).2.1 : Int), iv ((allS p w 0).2.2)], [cw (headL p 1 2 e b), .chan 200 (w.map entV), .map (hdM hd), slB zE (entsL l) q, .gone, cw (entsL w ++ room zE m4)], [], (renV_vpf (all_cons (poolV_aggf ((allS p w 0).1)) (all_cons rfl (all_cons rfl rfl)))), ⟨rfl, ⟨rfl, ⟨rfl, ⟨rfl, ⟨rfl, ⟨rfl, trivial⟩⟩⟩⟩⟩⟩, trivial, ?_⟩
  refine d_n 5 12 5 [(5, pv 4 0), (32, iv ((allS p w 0).2.2)), (31, iv ((allS p w 0).2.1 : Int)), (30, poolV ((allS p w 0).1)), (22, .tuple #[poolV ((allS p w 0).1), iv ((allS p w 0).2.1 : Int), iv ((allS p w 0).2.2)])] [cw (headL p 1 2 e b), .chan 200 (w.map entV), .map (hdM hd), slB zE (entsL l) q, cw (pl zeroP), cw (entsL w ++ room zE m4)] [⟨11, [], [4], none⟩, ⟨6, [5], [], some 6⟩, ⟨5, [0, 1, 2], [1, 2], some 5⟩, ⟨3, [0], [], none⟩] (by kernel_rfl) rfl rfl ?_
  refine d_s0 rfl rfl ⟨_, _, _, rfl⟩ (by kernel_rfl) (by refine run_st (c' := pl ((allS p w 0).1)) rfl rfl rfl ?_ ?_ ?_; exact pl_length _; exact pl_le (by omega); exact splice_pl0 zeroP ((allS p w 0).1)) ?_
  refine d_n 2 15 5 [(7, iv ((allS p w 0).2.2)), (6, iv ((allS p w 0).2.1 : Int))] [cw (headL p 1 2 e b), .chan 200 (w.map entV), .map (hdM hd), slB zE (entsL l) q, cw (pl ((allS p w 0).1)), cw (entsL w ++ room zE m4)] [⟨12, [4], [4], none⟩, ⟨11, [], [4], none⟩, ⟨6, [5], [], some 6⟩, ⟨5, [0, 1, 2], [1, 2], some 5⟩, ⟨3, [0], [], none⟩] (by kernel_rfl) rfl rfl ?_
  refine d_nil ?_
  refine seq_regs [(5, pv 4 0), (0, pv 0 0), (1, slV 3 l.length q)] (by kernel_rfl) ?_
  refine gseq ?_
  refine gseq ?_
  refine greg ?_
  refine o_s (by refine run_ld (v := poolV ((allS p w 0).1)) rfl rfl ?_; exact pl_all ((allS p w 0).1)) ?_
  refine o_d 1 [(35, slV 3 l.length q)] (by kernel_rfl) ?_
  rcases q with _ | m8
  ·skip
   have hl0 : l = [] := hq rfl
   refine o_cl (callV (All0 h_pool_All h_pool_Apply h_pool_may h_pool_held h_pool_fits h_pool_Check h_pool_placed h_cookie_Next ((allS p w 0).1)) rfl (all_cons (poolV_vpf ((allS p w 0).1)) (all_cons rfl rfl)) (all_cons (poolV_aggf ((allS p w 0).1)) (all_cons rfl (all_cons rfl rfl))) ?_)
   refine o_b 5 [(8, pv 6 0), (39, iv 0), (38, iv 0), (37, poolV ((allS p w 0).1)), (33, .tuple #[poolV ((allS p w 0).1), iv 0, iv 0])] [cw (headL p 1 2 e b), .chan 200 (w.map entV), .map (hdM hd), .gone, cw (pl ((allS p w 0).1)), cw (entsL w ++ room zE m4), cw (pl zeroP)] (by kernel_rfl) ?_
   refine o_s0 (by refine run_st (c' := pl ((allS p w 0).1)) rfl rfl rfl ?_ ?_ ?_; exact pl_length _; exact pl_le (by omega); exact splice_pl0 zeroP ((allS p w 0).1)) ?_
   refine o_b 2 [(10, iv 0), (9, iv 0)] [cw (headL p 1 2 e b), .chan 200 (w.map entV), .map (hdM hd), .gone, cw (pl ((allS p w 0).1)), cw (entsL w ++ room zE m4), cw (pl ((allS p w 0).1))] (by kernel_rfl) ?_
   refine o_nil ?_
   refine seq_go ?_
   refine gseq ?_
   refine greg ?_
   refine o_d 2 [(41, bv false), (40, iv 0)] (by kernel_rfl) ?_
   refine o_nil ?_
   refine seq_go ?_
   refine gfalse rfl ?_
   refine gskip ?_
   refine seq_go ?_
   refine gseq ?_
   refine gseq ?_
   refine greg ?_
   refine o_d 3 [(45, iv 0), (44, iv 0), (43, .slice none 0 0)] (by kernel_rfl) ?_
   refine o_nil ?_
   refine seq_go ?_
   refine gblock ?_
   refine gloop (fun μ s => (μ = 0 ∧ s = ⟨reg [(45, iv 0), (44, iv 0), (43, .slice none 0 0), (0, pv 0 0)], [cw (headL p 1 2 e b), .chan 200 (w.map entV), .map (hdM hd), .gone, cw (pl ((allS p w 0).1)), cw (entsL w ++ room zE m4), cw (pl ((allS p w 0).1))]⟩)) ⟨0, ?_⟩ ?_
   ·skip
    refine ⟨⟨reg [(45, iv 0), (44, iv 0), (43, .slice none 0 0), (0, pv 0 0)], [cw (headL p 1 2 e b), .chan 200 (w.map entV), .map (hdM hd), .gone, cw (pl ((allS p w 0).1)), cw (entsL w ++ room zE m4), cw (pl ((allS p w 0).1))]⟩, ?_⟩
    refine ⟨?_, ?_⟩
    ·exact Wk.ren [0, 1, 2, 3, 4, 5, 6] rfl rfl (by decide) ⟨rfl, ⟨rfl, ⟨rfl, ⟨rfl, trivial⟩⟩⟩⟩ ⟨.inl (ren_headS rfl rfl), ⟨.inl (congrArg some (ren_entsV _).symm), ⟨.inl (congrArg some (ren_hdM _).symm), ⟨.inl rfl, ⟨.inl (ren_cells (pl_scl ((allS p w 0).1))), ⟨.inl (ren_cells (entsR_scl w m4)), ⟨.inl (ren_cells (pl_scl ((allS p w 0).1))), trivial⟩⟩⟩⟩⟩⟩⟩
    ·exact ⟨rfl, rfl⟩
   ·rintro μ s (⟨rfl, rfl⟩)
    ·skip
     refine gseq ?_
     refine greg ?_
     refine o_d 1 [(46, bv false)] (by kernel_rfl) ?_
     refine o_nil ?_
     refine seq_go ?_
     refine gseq ?_
     refine gfalse rfl ?_
     refine gexit ?_
     refine seq_go ?_
     refine gseq ?_
     refine greg ?_
     refine o_d 1 [(4, iv 0)] (by kernel_rfl) ?_
     refine o_nil ?_
     refine seq_go ?_
     refine gret ?_
     have hW : wishS (HS.mk p w hd e b) l = (0, ⟨p, w ++ l, hd, e, b⟩) := wish_ok (by show ¬ 200 < w.length + l.length; simp at *; omega) (by first | assumption | (simp_all [allS]; done))
     exact ⟨trivial, ⟨reg [(4, iv 0)], [cw (headL p 1 2 e b), .chan 200 (w.map entV), .map (hdM hd), .gone]⟩, Wk.ren [0, 1, 2, 3] rfl rfl (by decide) ⟨rfl, trivial⟩ ⟨.inl (ren_headS rfl rfl), ⟨.inl (congrArg some (ren_entsV _).symm), ⟨.inl (congrArg some (ren_hdM _).symm), ⟨.inl rfl, trivial⟩⟩⟩⟩, [iv 0], (resV_t rfl rfl), (tup_cons rfl tup_nil), (by rw [hW]; rfl), (by first | (rw [hW]; done) | (rw [hW]; rfl) | (rw [hW, hil]; rfl) | (rw [hW, hil]; done) | (rw [hW, hl0, List.append_nil]; rfl) | (rw [hW, hl0, List.append_nil]; done))⟩
  ·skip
   refine o_cl (callS (a1 := [poolV ((allS p w 0).1), .slice (some ⟨0, 0, none⟩) l.length (l.length + m8)]) [3] [entsL l ++ room zE m8] (AllE h_pool_All h_pool_Apply h_pool_may h_pool_held h_pool_fits h_pool_Check h_pool_placed h_cookie_Next ((allS p w 0).1) l m8 l.length (l.length + m8) (by simp) (by first | omega | (simp at *; omega))) rfl (fun n => ren_pool_sl _ _ _ _ _) ⟨⟨_, rfl⟩, entsR_scl _ _, trivial⟩ (all_cons (poolV_aggf ((allS ((allS p w 0).1) l 0).1)) (all_cons rfl (all_cons rfl rfl))) ?_)
   refine o_b 5 [(8, pv 6 0), (39, iv ((allS ((allS p w 0).1) l 0).2.2)), (38, iv ((allS ((allS p w 0).1) l 0).2.1 : Int)), (37, poolV ((allS ((allS p w 0).1) l 0).1)), (33, .tuple #[poolV ((allS ((allS p w 0).1) l 0).1), iv ((allS ((allS p w 0).1) l 0).2.1 : Int), iv ((allS ((allS p w 0).1) l 0).2.2)])] [cw (headL p 1 2 e b), .chan 200 (w.map entV), .map (hdM hd), cw (entsL l ++ room zE m8), cw (pl ((allS p w 0).1)), cw (entsL w ++ room zE m4), cw (pl zeroP)] (by kernel_rfl) ?_
   refine o_s0 (by refine run_st (c' := pl ((allS ((allS p w 0).1) l 0).1)) rfl rfl rfl ?_ ?_ ?_; exact pl_length _; exact pl_le (by omega); exact splice_pl0 zeroP ((allS ((allS p w 0).1) l 0).1)) ?_
   refine o_b 2 [(10, iv ((allS ((allS p w 0).1) l 0).2.2)), (9, iv ((allS ((allS p w 0).1) l 0).2.1 : Int))] [cw (headL p 1 2 e b), .chan 200 (w.map entV), .map (hdM hd), cw (entsL l ++ room zE m8), cw (pl ((allS p w 0).1)), cw (entsL w ++ room zE m4), cw (pl ((allS ((allS p w 0).1) l 0).1))] (by kernel_rfl) ?_
   refine o_nil ?_
   refine seq_go ?_
   refine gseq ?_
   refine greg ?_
   refine o_d 2 [(41, bv (((allS ((allS p w 0).1) l 0).2.2) != 0)), (40, iv ((allS ((allS p w 0).1) l 0).2.2))] (by kernel_rfl) ?_
   refine o_nil ?_
   refine seq_go ?_
   refine gcond (t := ((allS ((allS p w 0).1) l 0).2.2) != 0) rfl (fun h9 => ?_) (fun h9 => ?_)
   ·skip
    have h9' : (allS ((allS p w 0).1) l 0).2.2 ≠ 0 := neI_t h9
    refine gseq ?_
    refine greg ?_
    refine o_d 2 [(4, iv ((allS ((allS p w 0).1) l 0).2.2)), (42, iv ((allS ((allS p w 0).1) l 0).2.2))] (by kernel_rfl) ?_
    refine o_nil ?_
    refine seq_go ?_
    refine gret ?_
    have hW : wishS (HS.mk p w hd e b) l = ((allS ((allS p w 0).1) l 0).2.2, (HS.mk p w hd e b)) := by have z := @wish_bad (HS.mk p w hd e b) l (by show ¬ 200 < w.length + l.length; simp at *; omega) (by first | assumption | (simp_all [allS]; done)); first | exact z | (subst_vars; exact z)
    exact ⟨trivial, ⟨reg [(4, iv ((allS ((allS p w 0).1) l 0).2.2))], [cw (headL p 1 2 e b), .chan 200 (w.map entV), .map (hdM hd), cw (entsL l ++ room zE m8)]⟩, Wk.ren [0, 1, 2, 3] rfl rfl (by decide) ⟨rfl, trivial⟩ ⟨.inl (ren_headS rfl rfl), ⟨.inl (congrArg some (ren_entsV _).symm), ⟨.inl (congrArg some (ren_hdM _).symm), ⟨.inl (ren_cells (entsR_scl l m8)), trivial⟩⟩⟩⟩, [iv ((allS ((allS p w 0).1) l 0).2.2)], (resV_t rfl rfl), (tup_cons rfl tup_nil), (by rw [hW]; rfl), (by first | (rw [hW]; done) | (rw [hW]; rfl) | (rw [hW, hil]; rfl) | (rw [hW, hil]; done) | (rw [hW, hl0, List.append_nil]; rfl) | (rw [hW, hl0, List.append_nil]; done))⟩
   have h9' : ¬ ((allS ((allS p w 0).1) l 0).2.2 ≠ 0) := neI_f h9
   refine gskip ?_
   refine seq_go ?_
   refine gseq ?_
   refine gseq ?_
   refine greg ?_
   refine o_d 3 [(45, iv 0), (44, iv (l.length : Nat)), (43, sv 3 0 l.length (l.length + m8))] (by kernel_rfl) ?_
   refine o_nil ?_
   refine seq_go ?_
   refine gblock ?_
   refine gloop (fun μ s => ∃ (i : Nat), ∃ (wc : List Ent), μ = l.length - i ∧ (i ≤ l.length) ∧ (wc = w ++ l.take i) ∧ s = ⟨reg [(45, iv (i : Int)), (44, iv (l.length : Nat)), (43, sv 3 0 l.length (l.length + m8)), (0, pv 0 0)], [cw (headL p 1 2 e b), .chan 200 (wc.map entV), .map (hdM hd), cw (entsL l ++ room zE m8)]⟩) ⟨(l.length - 0), ?_⟩ ?_
   ·skip
    refine ⟨⟨reg [(45, iv (0 : Int)), (44, iv (l.length : Nat)), (43, sv 3 0 l.length (l.length + m8)), (0, pv 0 0)], [cw (headL p 1 2 e b), .chan 200 (w.map entV), .map (hdM hd), cw (entsL l ++ room zE m8)]⟩, ?_⟩
    refine ⟨?_, ?_⟩
    ·exact Wk.ren [0, 1, 2, 3] rfl rfl (by decide) ⟨rfl, ⟨rfl, ⟨rfl, ⟨rfl, trivial⟩⟩⟩⟩ ⟨.inl (ren_headS rfl rfl), ⟨.inl (congrArg some (ren_entsV _).symm), ⟨.inl (congrArg some (ren_hdM _).symm), ⟨.inl (ren_cells (entsR_scl l m8)), trivial⟩⟩⟩⟩
    ·exact ⟨0, w, rfl, (Nat.zero_le _), (by simp), rfl⟩
   rintro μ s ⟨i, wc, rfl, hi, hwc, rfl⟩
   refine gseq ?_
   refine greg ?_
   refine o_d 1 [(46, bv (decide ((i : Int) < (l.length : Nat))))] (by kernel_rfl) ?_
   refine o_nil ?_
   refine seq_go ?_
   refine gseq ?_
   refine gcond (t := decide ((i : Int) < (l.length : Nat))) rfl (fun h10 => ?_) (fun h10 => ?_)
   ·skip
    have h10' : (i : Int) < (l.length : Nat) := of_decide_eq_true h10
    obtain ⟨x, hx, hdr, ht⟩ := get_of_lt (l := l) (i := i) (by omega)
    refine gskip ?_
    refine seq_go ?_
    refine gseq ?_
    refine gblock ?_
    refine gseq ?_
    refine greg ?_
    refine o_s (by exact run_iadS (o := 0) (o' := 7 * i) rfl rfl (by first | omega | (simp at *; omega)) (by first | omega | (simp at *; omega))) ?_
    refine o_s (by refine run_ld (v := .agg #[iv x.k, iv x.s, iv x.a, iv x.p, iv x.g, uv x.ka, uv x.kb]) rfl rfl ?_; exact ents_r (i := i) (by omega) hx) ?_
    refine o_b 2 [(12, pv 4 0)] [cw (headL p 1 2 e b), .chan 200 (wc.map entV), .map (hdM hd), cw (entsL l ++ room zE m8), cw [iv x.k, iv x.s, iv x.a, iv x.p, iv x.g, uv x.ka, uv x.kb]] (by kernel_rfl) ?_
    refine o_nil ?_
    refine seq_go ?_
    refine gdregD [cw (headL p 1 2 e b), .chan 200 (wc.map entV), .map (hdM hd), cw (entsL l ++ room zE m8), cw [iv x.k, iv x.s, iv x.a, iv x.p, iv x.g, uv x.ka, uv x.kb]] (by kernel_rfl) ?_
    refine d_n 3 3 5 [(51, pv 0 330), (50, pv 0 0), (49, pv 0 0)] [cw (headL p 1 2 e b), .chan 200 (wc.map entV), .map (hdM hd), cw (entsL l ++ room zE m8), cw [iv x.k, iv x.s, iv x.a, iv x.p, iv x.g, uv x.ka, uv x.kb]] [] (by kernel_rfl) rfl rfl ?_
    refine d_s rfl rfl rfl (by kernel_rfl) (by refine run_ld (v := .chan (some 1)) rfl rfl ?_; exact (head_rT 0).trans rfl) ?_
    refine d_n 1 5 5 [(53, .agg #[iv x.k, iv x.s, iv x.a, iv x.p, iv x.g, uv x.ka, uv x.kb])] [cw (headL p 1 2 e b), .chan 200 (wc.map entV), .map (hdM hd), cw (entsL l ++ room zE m8), cw [iv x.k, iv x.s, iv x.a, iv x.p, iv x.g, uv x.ka, uv x.kb]] [⟨4, [4], [], none⟩, ⟨3, [0], [], none⟩] (by kernel_rfl) rfl rfl ?_
    refine d_snd (k := 1) (b := wc.map entV) (b2 := (wc ++ [x]).map entV) rfl rfl rfl (by rw [List.length_map]; rw [hwc]; simp; omega) rfl (ents_snocV wc x) ?_
    refine d_nil ?_
    refine seq_go ?_
    refine greg ?_
    refine o_s (by refine run_val (v := .int .i64 (IntKind.i64.wrap ((i : Int) + 1))) (congrArg (Value.int .i64) (w64 (by first | omega | (simp at *; omega)) (by first | omega | (simp at *; omega)))) ?_; kernel_rfl) ?_
    refine o_d 1 [(45, iv ((i : Int) + 1))] (by kernel_rfl) ?_
    refine o_nil ?_
    refine ⟨l.length - (i + 1), ?_⟩
    refine ⟨⟨reg [(45, iv ((i + 1) : Int)), (44, iv (l.length : Nat)), (43, sv 3 0 l.length (l.length + m8)), (0, pv 0 0)], [cw (headL p 1 2 e b), .chan 200 ((wc ++ [x]).map entV), .map (hdM hd), cw (entsL l ++ room zE m8)]⟩, ?_⟩
    refine and3 (by omega) ⟨?_, ?_⟩
    ·exact Wk.ren [0, 1, 2, 3] rfl rfl (by decide) ⟨rfl, ⟨rfl, ⟨rfl, ⟨rfl, trivial⟩⟩⟩⟩ ⟨.inl (ren_headS rfl rfl), ⟨.inl (congrArg some (ren_entsV _).symm), ⟨.inl (congrArg some (ren_hdM _).symm), ⟨.inl (ren_cells (entsR_scl l m8)), trivial⟩⟩⟩⟩
    ·exact ⟨(i + 1), (wc ++ [x]), rfl, by omega, (by rw [ht, hwc, List.append_assoc]), rfl⟩
   have h10' : ¬ ((i : Int) < (l.length : Nat)) := of_decide_eq_false h10
   refine gexit ?_
   refine seq_go ?_
   refine gseq ?_
   refine greg ?_
   refine o_d 1 [(4, iv 0)] (by kernel_rfl) ?_
   refine o_nil ?_
   refine seq_go ?_
   refine gret ?_
   have hW : wishS (HS.mk p w hd e b) l = (0, ⟨p, w ++ l, hd, e, b⟩) := wish_ok (by show ¬ 200 < w.length + l.length; simp at *; omega) (by first | assumption | (simp_all [allS]; done))
   have hil : wc = w ++ l := by rw [hwc, show i = l.length by omega]; simp
   exact ⟨trivial, ⟨reg [(4, iv 0)], [cw (headL p 1 2 e b), .chan 200 (wc.map entV), .map (hdM hd), cw (entsL l ++ room zE m8)]⟩, Wk.ren [0, 1, 2, 3] rfl rfl (by decide) ⟨rfl, trivial⟩ ⟨.inl (ren_headS rfl rfl), ⟨.inl (congrArg some (ren_entsV _).symm), ⟨.inl (congrArg some (ren_hdM _).symm), ⟨.inl (ren_cells (entsR_scl l m8)), trivial⟩⟩⟩⟩, [iv 0], (resV_t rfl rfl), (tup_cons rfl tup_nil), (by rw [hW]; rfl), (by first | (rw [hW]; done) | (rw [hW]; rfl) | (rw [hW, hil]; rfl) | (rw [hW, hil]; done) | (rw [hW, hl0, List.append_nil]; rfl) | (rw [hW, hl0, List.append_nil]; done))⟩
end Go.Rh

set_option linter.unusedSimpArgs false
set_option linter.unusedVariables false
set_option maxRecDepth 100000
namespace Go.Rh
def newHS (p : Flat) (u : Int) : HS := ⟨p, [], List.replicate u.toNat (0, -1), e0, false⟩
def hearS (x : HS) (n : Nt) : HS := ⟨x.p, x.w, heardS x.hd n, x.e, x.s⟩
def n0 : Nt := ⟨0, 0, 0, false, false, e0, zeroP⟩
structure HOK (x : HS) : Prop where
  w : x.w.length ≤ 200
  hd : x.hd.length ≤ 1000
theorem ok_new (p : Flat) {u : Int} (h : u ≤ 16) : HOK (newHS p u) := ⟨by simp [newHS], by simp [newHS]; omega⟩
theorem heardS_len (hd : List (Int × Int)) (n : Nt) : (heardS hd n).length = hd.length := by
  unfold heardS; split
  · rfl
  · split <;> simp
theorem ok_hear {x : HS} (h : HOK x) (n : Nt) : HOK (hearS x n) := ⟨h.w, by simp only [hearS, heardS_len]; exact h.hd⟩
theorem ok_pub {x : HS} (h : HOK x) : HOK (pubS x) := by
  unfold pubS
  split
  · exact h
  · rename_i e r hw
    have := h.w
    rw [hw] at this
    simp at this
    split
    · exact ⟨by simp only; omega, h.hd⟩
    · exact ⟨by simp only; omega, h.hd⟩
theorem ok_go {x : HS} (h : HOK x) : HOK (goS x) := by
  unfold goS; split
  · exact ok_pub h
  · exact h
theorem ok_send {x : HS} (h : HOK x) : HOK (sendS x).1 := ok_go h
theorem ok_wish {x : HS} (h : HOK x) (l : List Ent) : HOK (wishS x l).2 := by
  unfold wishS
  split
  · exact h
  · rename_i h1
    split
    · exact h
    · exact ⟨by simp; omega, h.hd⟩
def wisS (x : HS) (l : List Ent) : HS := ⟨x.p, (wishS x l).2.w, x.hd, x.e, x.s⟩
theorem ok_wis {x : HS} (h : HOK x) (l : List Ent) : HOK (wisS x l) := ⟨(ok_wish h l).w, h.hd⟩
theorem ren_hdM2 {ρ : Nat → Nat} {l l' : List (Int × Int)} (h : l' = l) : renB ρ (.map (hdM l)) = .map (hdM l') := by subst h; exact ren_hdM _
theorem sendS_hd (x : HS) : (sendS x).1.hd = x.hd := goS_hd x
theorem nts_get {l : List Nt} {k : Nat} (h : k < l.length) : l[k]? = some (l.getD k n0) := by
  simp [List.getD_eq_getElem?_getD, h]
theorem nt_rL {m : Option Nat} {n : Nt} {o : Nat} {v : Value} (h : partL m (ntF n.u n.b n.v n.w n.a n.e n.p) o = some v) : partL m (ntL n) o = some v := h
theorem nts_r2 {m : Option Nat} {l : List Nt} {t : List Value} {o i j : Nat} {n : Nt} {v : Value} (ho : o = 342 * i + j) (h : l[i]? = some n) (hv : partL m (ntL n) j = some v) : partL m (ntsL l ++ t) o = some v := by
  subst ho; exact nts_r h hv
end Go.Rh

set_option linter.unusedSimpArgs false
set_option linter.unusedVariables false
set_option maxRecDepth 100000
set_option maxHeartbeats 8000000
namespace Go.Rh
def c_law11_within : IFunc :=
  ⟨15, [.tmp 4], (.seq (.reg [⟨(some 4), .mv (.c (.int .i64 0)), none⟩]) (.seq (.reg [⟨(some 6), .mv (.t 0), none⟩, ⟨(some 7), .mv (.t 1), none⟩, ⟨(some 8), .bin .rem (.t 6) (.t 7), none⟩, ⟨(some 5), .mv (.t 8), none⟩]) (.seq (.seq (.reg [⟨(some 9), .mv (.t 5), none⟩, ⟨(some 10), .bin .lss (.t 9) (.c (.int .i64 0)), none⟩]) (.cond (.t 10) (.reg [⟨(some 11), .mv (.t 5), none⟩, ⟨(some 12), .mv (.t 1), none⟩, ⟨(some 13), .bin .add (.t 11) (.t 12), none⟩, ⟨(some 5), .mv (.t 13), none⟩]) .skip)) (.seq (.reg [⟨(some 14), .mv (.t 5), none⟩, ⟨(some 4), .mv (.t 14), none⟩]) .ret))))⟩
def c_law11_known : IFunc :=
  ⟨87, [.tmp 0], (.seq (.reg [⟨(some 0), .mv (.c (.bool false)), none⟩]) (.seq (.reg [⟨(some 9), .bld [(2, (.int .u64 0))] [], none⟩, ⟨(some 10), .bld [(2, (.int .u64 0))] [], none⟩, ⟨(some 11), .call "roundhouse/roundhouseref6.New" [(.c (.int .i64 10)), (.c (.int .i64 80)), (.t 9), (.t 10)], none⟩, ⟨(some 8), .mv (.t 11), none⟩, ⟨(some 12), .ext 0 (.t 8), none⟩, ⟨(some 13), .ext 1 (.t 8), none⟩, ⟨(some 1), .new [(324, (.int .i64 0)), (6, (.int .u64 0))], none⟩, ⟨none, .st 330 (.t 1) (.t 12), none⟩, ⟨(some 2), .mv (.t 13), none⟩]) (.seq (.reg [⟨(some 15), .ld (some 330) (.t 1), none⟩, ⟨(some 16), .call "roundhouse/head.New" [(.t 15), (.c (.int .i64 2))], none⟩, ⟨(some 14), .mv (.t 16), none⟩, ⟨(some 17), .ext 0 (.t 14), none⟩, ⟨(some 18), .ext 1 (.t 14), none⟩, ⟨(some 3), .mv (.t 17), none⟩, ⟨(some 4), .mv (.t 18), none⟩]) (.seq (.seq (.reg [⟨(some 19), .mv (.t 4), none⟩, ⟨(some 20), .bin .neq (.t 19) (.c (.int .i64 0)), none⟩, ⟨(some 21), .mv (.t 20), none⟩, ⟨(some 22), .mv (.t 3), some (21, false)⟩, ⟨(some 23), .eqn false .ptr (.t 22) (.c (.pointer none)), some (21, false)⟩, ⟨(some 24), .pick (.t 21) (.c (.bool true)) (.t 23), none⟩]) (.cond (.t 24) (.seq (.reg [⟨(some 0), .mv (.c (.bool false)), none⟩]) .ret) .skip)) (.seq (.reg [⟨(some 25), .mv (.t 3), none⟩, ⟨(some 26), .call "(*roundhouse/head.Head).Send" [(.t 25)], none⟩, ⟨(some 5), .mv (.t 26), none⟩]) (.seq (.reg [⟨(some 27), .mv (.t 3), none⟩, ⟨(some 28), .bld [(5, (.int .i64 0)), (2, (.int .u64 0))] [(0, 1, (.c (.int .i64 1))), (2, 1, (.c (.int .i64 1))), (3, 1, (.c (.int .i64 2))), (4, 1, (.c (.int .i64 1)))], none⟩, ⟨(some 29), .bsl [(5, (.int .i64 0)), (2, (.int .u64 0))] 7 1 [(0, 7, (.t 28))], none⟩, ⟨(some 30), .call "(*roundhouse/head.Head).Wish" [(.t 27), (.t 29)], none⟩, ⟨(some 6), .mv (.t 30), none⟩]) (.seq (.reg [⟨(some 31), .mv (.t 3), none⟩, ⟨(some 32), .bld [(3, (.int .i64 0)), (2, (.bool false)), (5, (.int .i64 0)), (2, (.int .u64 0)), (324, (.int .i64 0)), (6, (.int .u64 0))] [(0, 1, (.c (.int .i64 0))), (4, 1, (.c (.bool true)))], none⟩, ⟨(some 33), .call "(*roundhouse/head.Head).Heard" [(.t 31), (.t 32)], none⟩]) (.seq (.reg [⟨(some 34), .mv (.t 3), none⟩, ⟨(some 35), .bld [(3, (.int .i64 0)), (2, (.bool false)), (5, (.int .i64 0)), (2, (.int .u64 0)), (324, (.int .i64 0)), (6, (.int .u64 0))] [(0, 1, (.c (.int .i64 1))), (4, 1, (.c (.bool true)))], none⟩, ⟨(some 36), .call "(*roundhouse/head.Head).Heard" [(.t 34), (.t 35)], none⟩]) (.seq (.reg [⟨(some 37), .mv (.t 3), none⟩, ⟨(some 38), .call "(*roundhouse/head.Head).Send" [(.t 37)], none⟩, ⟨(some 7), .mv (.t 38), none⟩]) (.seq (.reg [⟨(some 39), .mv (.t 3), none⟩, ⟨(some 40), .call "(*roundhouse/head.Head).Version" [(.t 39)], none⟩, ⟨(some 41), .bin .eql (.t 40) (.c (.int .i64 1)), none⟩, ⟨(some 42), .mv (.t 41), none⟩, ⟨(some 43), .mv (.t 5), some (42, true)⟩, ⟨(some 44), .lenS (.t 43), some (42, true)⟩, ⟨(some 45), .bin .eql (.t 44) (.c (.int .i64 2)), some (42, true)⟩, ⟨(some 46), .pick (.t 42) (.t 45) (.c (.bool false)), none⟩, ⟨(some 47), .mv (.t 46), none⟩, ⟨(some 48), .mv (.t 5), some (47, true)⟩, ⟨(some 49), .iadS 342 (.t 48) (.c (.int .i64 0)), some (47, true)⟩, ⟨(some 50), .fad 3 (.t 49), some (47, true)⟩, ⟨(some 51), .ld none (.t 50), some (47, true)⟩, ⟨(some 52), .pick (.t 47) (.t 51) (.c (.bool false)), none⟩, ⟨(some 53), .mv (.t 52), none⟩, ⟨(some 54), .mv (.t 6), some (53, true)⟩, ⟨(some 55), .bin .eql (.t 54) (.c (.int .i64 0)), some (53, true)⟩, ⟨(some 56), .pick (.t 53) (.t 55) (.c (.bool false)), none⟩, ⟨(some 57), .mv (.t 56), none⟩, ⟨(some 58), .mv (.t 7), some (57, true)⟩, ⟨(some 59), .lenS (.t 58), some (57, true)⟩, ⟨(some 60), .bin .eql (.t 59) (.c (.int .i64 2)), some (57, true)⟩, ⟨(some 61), .pick (.t 57) (.t 60) (.c (.bool false)), none⟩, ⟨(some 62), .mv (.t 61), none⟩, ⟨(some 63), .mv (.t 7), some (62, true)⟩, ⟨(some 64), .iadS 342 (.t 63) (.c (.int .i64 1)), some (62, true)⟩, ⟨(some 65), .fad 3 (.t 64), some (62, true)⟩, ⟨(some 66), .ld none (.t 65), some (62, true)⟩, ⟨(some 67), .un .not (.t 66), some (62, true)⟩, ⟨(some 68), .pick (.t 62) (.t 67) (.c (.bool false)), none⟩, ⟨(some 69), .mv (.t 68), none⟩, ⟨(some 70), .mv (.t 7), some (69, true)⟩, ⟨(some 71), .iadS 342 (.t 70) (.c (.int .i64 1)), some (69, true)⟩, ⟨(some 72), .fad 2 (.t 71), some (69, true)⟩, ⟨(some 73), .ld none (.t 72), some (69, true)⟩, ⟨(some 74), .bin .eql (.t 73) (.c (.int .i64 1)), some (69, true)⟩, ⟨(some 75), .pick (.t 69) (.t 74) (.c (.bool false)), none⟩, ⟨(some 76), .mv (.t 75), none⟩, ⟨(some 77), .mv (.t 3), some (76, true)⟩, ⟨(some 78), .call "(*roundhouse/head.Head).Waiting" [(.t 77)], some (76, true)⟩, ⟨(some 79), .bin .eql (.t 78) (.c (.int .i64 0)), some (76, true)⟩, ⟨(some 80), .pick (.t 76) (.t 79) (.c (.bool false)), none⟩, ⟨(some 81), .mv (.t 80), none⟩, ⟨(some 82), .mv (.t 3), some (81, true)⟩, ⟨(some 83), .call "(*roundhouse/head.Head).Pool" [(.t 82)], some (81, true)⟩, ⟨(some 84), .fld none 0 (.t 83), some (81, true)⟩, ⟨(some 85), .bin .eql (.t 84) (.c (.int .i64 1)), some (81, true)⟩, ⟨(some 86), .pick (.t 81) (.t 85) (.c (.bool false)), none⟩, ⟨(some 0), .mv (.t 86), none⟩]) .ret))))))))))⟩
def kn0 : HS := newHS (newP 10 80 0 0 0 0).1 2
def kn1 : HS := (sendS kn0).1
def kn2 : HS := wisS kn1 [(⟨1, 0, 1, 2, 1, 0, 0⟩ : Ent)]
def kn3 : HS := hearS kn2 ⟨0, 0, 0, false, true, e0, zeroP⟩
def kn4 : HS := hearS kn3 ⟨1, 0, 0, false, true, e0, zeroP⟩
def kn5 : HS := (sendS kn4).1
theorem ok_kn0 : HOK kn0 := ⟨Nat.le_of_ble_eq_true (by kernel_rfl), Nat.le_of_ble_eq_true (by kernel_rfl)⟩
theorem ok_kn1 : HOK kn1 := ⟨Nat.le_of_ble_eq_true (by kernel_rfl), Nat.le_of_ble_eq_true (by kernel_rfl)⟩
theorem ok_kn2 : HOK kn2 := ⟨Nat.le_of_ble_eq_true (by kernel_rfl), Nat.le_of_ble_eq_true (by kernel_rfl)⟩
theorem ok_kn3 : HOK kn3 := ⟨Nat.le_of_ble_eq_true (by kernel_rfl), Nat.le_of_ble_eq_true (by kernel_rfl)⟩
theorem ok_kn4 : HOK kn4 := ⟨Nat.le_of_ble_eq_true (by kernel_rfl), Nat.le_of_ble_eq_true (by kernel_rfl)⟩
theorem ok_kn5 : HOK kn5 := ⟨Nat.le_of_ble_eq_true (by kernel_rfl), Nat.le_of_ble_eq_true (by kernel_rfl)⟩
theorem within11C {P : Program} (hc : codeOf P "roundhouse/roundhouselaw11.within" = some c_law11_within) (x n : Int) (hn : n ≠ 0) :
    Env P "roundhouse/roundhouselaw11.within" [iv x, iv n] ([]) (Ans (.int .i64 (withinS x n)) ([])) := by
 refine Env.by hc ?_
 unfold c_law11_within
 show GC _ 0 _ _ ⟨reg [(0, iv x), (1, iv n)], []⟩
 refine gseq ?_
 refine greg ?_
 refine o_d 1 [(4, iv 0)] (by kernel_rfl) ?_
 refine o_nil ?_
 refine seq_go ?_
 refine gseq ?_
 refine greg ?_
 refine o_d 2 [(7, iv n), (6, iv x)] (by kernel_rfl) ?_
 refine o_s (by exact run_rem rfl rfl (by omega)) ?_
 refine o_d 1 [(5, iv (x.tmod n))] (by kernel_rfl) ?_
 refine o_nil ?_
 refine seq_go ?_
 refine gseq ?_
 refine gseq ?_
 refine greg ?_
 refine o_d 2 [(10, bv (decide (x.tmod n < 0))), (9, iv (x.tmod n))] (by kernel_rfl) ?_
 refine o_nil ?_
 refine seq_go ?_
 refine gcond (t := decide (x.tmod n < 0)) rfl (fun h1 => ?_) (fun h1 => ?_)
 ·skip
  have h1' : x.tmod n < 0 := of_decide_eq_true h1
  refine greg ?_
  refine o_d 4 [(5, iv (IntKind.i64.wrap (x.tmod n + n))), (13, iv (IntKind.i64.wrap (x.tmod n + n))), (12, iv n), (11, iv (x.tmod n))] (by kernel_rfl) ?_
  refine o_nil ?_
  refine seq_go ?_
  refine gseq ?_
  refine greg ?_
  refine o_d 2 [(4, iv (IntKind.i64.wrap (x.tmod n + n))), (14, iv (IntKind.i64.wrap (x.tmod n + n)))] (by kernel_rfl) ?_
  refine o_nil ?_
  refine seq_go ?_
  refine gret ?_
  have E0_ : withinS x n = (IntKind.i64.wrap (x.tmod n + n)) := by
   unfold withinS; simp only [h1', if_true, if_false]
  exact fin_ans [iv (IntKind.i64.wrap (x.tmod n + n))] (resV_t rfl rfl) rfl (by rw [E0_]; rfl) rfl rfl
 have h1' : ¬ (x.tmod n < 0) := of_decide_eq_false h1
 refine gskip ?_
 refine seq_go ?_
 refine gseq ?_
 refine greg ?_
 refine o_d 2 [(4, iv (x.tmod n)), (14, iv (x.tmod n))] (by kernel_rfl) ?_
 refine o_nil ?_
 refine seq_go ?_
 refine gret ?_
 have E0_ : withinS x n = (x.tmod n) := by
  unfold withinS; simp only [h1', if_true, if_false]
 exact fin_ans [iv (x.tmod n)] (resV_t rfl rfl) rfl (by rw [E0_]; rfl) rfl rfl
theorem known11C {P : Program} (hc : codeOf P "roundhouse/roundhouselaw11.known" = some c_law11_known) (h_ref6_New : codeOf P "roundhouse/roundhouseref6.New" = some c_ref6_New) (h_ref6_out : codeOf P "roundhouse/roundhouseref6.out" = some c_ref6_out) (h_ref5_Ring : codeOf P "roundhouse/roundhouseref5.Ring" = some c_ref5_Ring) (h_head_New : codeOf P "roundhouse/head.New" = some c_head_New) (h_head_Head_Send : codeOf P "(*roundhouse/head.Head).Send" = some c_head_Head_Send) (h_head_Head_all : codeOf P "(*roundhouse/head.Head).all" = some c_head_Head_all) (h_head_Head_publish : codeOf P "(*roundhouse/head.Head).publish" = some c_head_Head_publish) (h_pool_Apply : codeOf P "roundhouse/pool.Apply" = some c_pool_Apply) (h_pool_may : codeOf P "roundhouse/pool.may" = some c_pool_may) (h_pool_held : codeOf P "roundhouse/pool.held" = some c_pool_held) (h_pool_fits : codeOf P "roundhouse/pool.fits" = some c_pool_fits) (h_pool_Check : codeOf P "roundhouse/pool.Check" = some c_pool_Check) (h_pool_placed : codeOf P "roundhouse/pool.placed" = some c_pool_placed) (h_cookie_Next : codeOf P "roundhouse/cookie.Next" = some c_cookie_Next) (h_head_Head_Wish : codeOf P "(*roundhouse/head.Head).Wish" = some c_head_Head_Wish) (h_head_Head_waiting : codeOf P "(*roundhouse/head.Head).waiting" = some c_head_Head_waiting) (h_pool_All : codeOf P "roundhouse/pool.All" = some c_pool_All) (h_head_Head_Heard : codeOf P "(*roundhouse/head.Head).Heard" = some c_head_Head_Heard) (h_head_Head_Version : codeOf P "(*roundhouse/head.Head).Version" = some c_head_Head_Version) (h_head_Head_Waiting : codeOf P "(*roundhouse/head.Head).Waiting" = some c_head_Head_Waiting) (h_head_Head_Pool : codeOf P "(*roundhouse/head.Head).Pool" = some c_head_Head_Pool)  :
    Env P "roundhouse/roundhouselaw11.known" [] ([]) (Ans (.bool true) ([])) := by
 refine Env.by hc ?_
 unfold c_law11_known
 show GC _ 0 _ _ ⟨reg [], []⟩
 refine gseq ?_
 refine greg ?_
 refine o_d 1 [(0, bv false)] (by kernel_rfl) ?_
 refine o_nil ?_
 refine seq_go ?_
 refine gseq ?_
 refine greg ?_
 refine o_d 2 [(10, .agg #[uv 0, uv 0]), (9, .agg #[uv 0, uv 0])] (by kernel_rfl) ?_
 refine o_cl (callV (refNewC h_ref6_New h_ref6_out h_ref5_Ring 10 80 0 0 0 0) rfl rfl (all_cons (poolV_aggf ((newP 10 80 0 0 0 0).1)) (all_cons rfl rfl)) ?_)
 refine o_b 4 [(1, pv 0 0), (13, iv ((newP 10 80 0 0 0 0).2)), (12, poolV ((newP 10 80 0 0 0 0).1)), (8, .tuple #[poolV ((newP 10 80 0 0 0 0).1), iv ((newP 10 80 0 0 0 0).2)])] [cw (pl zeroP)] (by kernel_rfl) ?_
 refine o_s0 (by refine run_st (c' := pl ((newP 10 80 0 0 0 0).1)) rfl rfl rfl ?_ ?_ ?_; exact pl_length _; exact pl_le (by omega); exact splice_pl0 zeroP ((newP 10 80 0 0 0 0).1)) ?_
 refine o_b 1 [(2, iv ((newP 10 80 0 0 0 0).2))] [cw (pl ((newP 10 80 0 0 0 0).1))] (by kernel_rfl) ?_
 refine o_nil ?_
 refine seq_go ?_
 refine gseq ?_
 refine greg ?_
 refine o_s (by refine run_ld (v := poolV ((newP 10 80 0 0 0 0).1)) rfl rfl ?_; exact pl_all ((newP 10 80 0 0 0 0).1)) ?_
 refine o_cl (callG [] [] [poolV ((newP 10 80 0 0 0 0).1), iv 2] (HNewC h_head_New ((newP 10 80 0 0 0 0).1) 2) rfl (cons_eq (renV_vpf (poolV_vpf ((newP 10 80 0 0 0 0).1))) (cons_eq rfl rfl)) trivial (by decide) ?_)
 rintro v1 h1' hN1
 rw [if_neg (by omega)] at hN1
 obtain ⟨rfl, rfl⟩ := hN1
 refine ⟨.tuple #[pv 1 0, iv 0], [cw (pl ((newP 10 80 0 0 0 0).1))], [cw (headL kn0.p 2 3 kn0.e kn0.s), .chan 200 (kn0.w.map entV), .map (hdM kn0.hd)], ((renV_tup _).trans rfl), ⟨rfl, trivial⟩, ⟨(Option.some.inj (ren_headS rfl rfl)).symm, ⟨(Option.some.inj (congrArg some (ren_entsV _).symm)).symm, ⟨(Option.some.inj (congrArg some (ren_hdM _).symm)).symm, trivial⟩⟩⟩, ?_⟩
 refine o_d 5 [(4, iv 0), (3, pv 1 0), (18, iv 0), (17, pv 1 0), (14, .tuple #[pv 1 0, iv 0])] (by kernel_rfl) ?_
 refine o_nil ?_
 refine seq_go ?_
 refine gseq ?_
 refine gseq ?_
 refine greg ?_
 refine o_d 6 [(24, bv false), (23, bv false), (22, pv 1 0), (21, bv false), (20, bv false), (19, iv 0)] (by kernel_rfl) ?_
 refine o_nil ?_
 refine seq_go ?_
 refine gfalse rfl ?_
 refine gskip ?_
 refine seq_regs [(3, pv 1 0)] (by kernel_rfl) ?_
 refine gseq ?_
 refine greg ?_
 refine o_d 1 [(25, pv 1 0)] (by kernel_rfl) ?_
 refine o_cl (callG [1, 2, 3] [cw (headL kn0.p 1 2 kn0.e kn0.s), .chan 200 (kn0.w.map entV), .map (hdM kn0.hd)] [pv 0 0] (HsendC h_head_Head_Send h_head_Head_all h_head_Head_publish h_pool_Apply h_pool_may h_pool_held h_pool_fits h_pool_Check h_pool_placed h_cookie_Next kn0.p kn0.w kn0.hd kn0.e kn0.s ((ok_kn0)).hd) rfl rfl ⟨⟨_, rfl, seen_head rfl rfl (fun q => rfl)⟩, ⟨⟨_, rfl, seen_ents _⟩, ⟨⟨_, rfl, seen_hdM _⟩, trivial⟩⟩⟩ (by decide) ?_)
 rintro v1 h1' ⟨q2, hq3, rfl, rfl⟩
 refine ⟨slV 4 ((sendS kn0).2.length) q2, [cw (pl ((newP 10 80 0 0 0 0).1)), cw (headL kn1.p 2 3 kn1.e kn1.s), .chan 200 (kn1.w.map entV), .map (hdM kn1.hd)], [slB zNt (ntsL ((sendS kn0).2)) q2], (renV_slV q2 rfl), ⟨rfl, ⟨ren_headL rfl rfl, ⟨ren_entsV _, ⟨(ren_hdM2 (sendS_hd _)), trivial⟩⟩⟩⟩, ⟨(Option.some.inj (ren_slB q2 (fun _ => (ntsR_scl _ _)))).symm, trivial⟩, ?_⟩
 refine o_d 1 [(5, slV 4 ((sendS kn0).2.length) q2)] (by kernel_rfl) ?_
 refine o_nil ?_
 refine seq_go ?_
 refine gseq ?_
 refine greg ?_
 refine o_b 3 [(29, sv 5 0 1 1), (28, .agg #[iv 1, iv 0, iv 1, iv 2, iv 1, uv 0, uv 0]), (27, pv 1 0)] [cw (pl ((newP 10 80 0 0 0 0).1)), cw (headL kn1.p 2 3 kn1.e kn1.s), .chan 200 (kn1.w.map entV), .map (hdM kn1.hd), slB zNt (ntsL ((sendS kn0).2)) q2, cw [iv 1, iv 0, iv 1, iv 2, iv 1, uv 0, uv 0]] (by kernel_rfl) ?_
 refine o_cl (callN [1, 2, 3, 5] [cw (headL kn1.p 1 2 kn1.e kn1.s), .chan 200 (kn1.w.map entV), .map (hdM kn1.hd), slB zE (entsL ([(⟨1, 0, 1, 2, 1, 0, 0⟩ : Ent)])) (some 0)] [pv 0 0, slV 3 ([(⟨1, 0, 1, 2, 1, 0, 0⟩ : Ent)]).length (some 0)] (HWishC h_head_Head_Wish h_head_Head_waiting h_pool_All h_pool_Apply h_pool_may h_pool_held h_pool_fits h_pool_Check h_pool_placed h_cookie_Next kn1.p kn1.w kn1.hd kn1.e kn1.s ([(⟨1, 0, 1, 2, 1, 0, 0⟩ : Ent)]) (some 0) ((ok_kn1)).w (fun z => by cases z) (by simp)) rfl rfl ⟨⟨_, rfl, .inl (seen_head rfl rfl (fun q => q))⟩, ⟨_, rfl, .inl (seen_ents _)⟩, ⟨_, rfl, .inl (seen_hdM _)⟩, ⟨_, rfl, .inl ⟨rfl, fun q => q⟩⟩, trivial⟩ (by decide) ?_)
 rintro v1 h1' ⟨rfl, rfl⟩
 refine ⟨(gone_cons (fun q => by cases q) (gone_cons (fun q => by cases q) (gone_cons (fun q => by cases q) (gone_cons (fun q => q) gone_nil)))), iv (wishS kn1 ([(⟨1, 0, 1, 2, 1, 0, 0⟩ : Ent)])).1, [cw (pl ((newP 10 80 0 0 0 0).1)), cw (headL kn2.p 2 3 kn2.e kn2.s), .chan 200 (kn2.w.map entV), .map (hdM kn2.hd), slB zNt (ntsL ((sendS kn0).2)) q2, cw [iv 1, iv 0, iv 1, iv 2, iv 1, uv 0, uv 0]], [], rfl, ⟨rfl, ⟨ren_headL rfl rfl, ⟨ren_entsV _, ⟨ren_hdM _, ⟨rfl, ⟨rfl, trivial⟩⟩⟩⟩⟩⟩, trivial, ?_⟩
 refine o_d 1 [(6, iv ((wishS kn1 ([(⟨1, 0, 1, 2, 1, 0, 0⟩ : Ent)])).1))] (by kernel_rfl) ?_
 refine o_nil ?_
 refine seq_go ?_
 refine gseq ?_
 refine greg ?_
 refine o_d 1 [(31, pv 1 0)] (by kernel_rfl) ?_
 refine o_s (by refine run_bld (c := ntF 0 0 0 false true e0 zeroP) ?_; exact bld_nt rfl) ?_
 refine o_cl (callG [1, 2, 3] [cw (headL kn2.p 1 2 kn2.e kn2.s), .chan 200 (kn2.w.map entV), .map (hdM kn2.hd)] [pv 0 0, ntV 0 0 0 false true e0 zeroP] (HheardC h_head_Head_Heard kn2.p kn2.w kn2.hd kn2.e kn2.s 0 0 0 false true e0 zeroP) rfl (cons_eq rfl (cons_eq (renV_vpf (ntV_vpf 0 0 0 false true e0 zeroP)) rfl)) ⟨⟨_, rfl, seen_head rfl rfl (fun q => rfl)⟩, ⟨⟨_, rfl, seen_ents _⟩, ⟨⟨_, rfl, seen_hdM _⟩, trivial⟩⟩⟩ (by decide) ?_)
 rintro v1 h1' ⟨rfl, rfl⟩
 refine ⟨.tuple #[], [cw (pl ((newP 10 80 0 0 0 0).1)), cw (headL kn3.p 2 3 kn3.e kn3.s), .chan 200 (kn3.w.map entV), .map (hdM kn3.hd), slB zNt (ntsL ((sendS kn0).2)) q2, cw [iv 1, iv 0, iv 1, iv 2, iv 1, uv 0, uv 0]], [], (by simp [renV]), ⟨rfl, ⟨ren_headL rfl rfl, ⟨ren_entsV _, ⟨ren_hdM _, ⟨rfl, ⟨rfl, trivial⟩⟩⟩⟩⟩⟩, trivial, ?_⟩
 refine o_nil ?_
 refine seq_go ?_
 refine gseq ?_
 refine greg ?_
 refine o_d 1 [(34, pv 1 0)] (by kernel_rfl) ?_
 refine o_s (by refine run_bld (c := ntF 1 0 0 false true e0 zeroP) ?_; exact bld_nt rfl) ?_
 refine o_cl (callG [1, 2, 3] [cw (headL kn3.p 1 2 kn3.e kn3.s), .chan 200 (kn3.w.map entV), .map (hdM kn3.hd)] [pv 0 0, ntV 1 0 0 false true e0 zeroP] (HheardC h_head_Head_Heard kn3.p kn3.w kn3.hd kn3.e kn3.s 1 0 0 false true e0 zeroP) rfl (cons_eq rfl (cons_eq (renV_vpf (ntV_vpf 1 0 0 false true e0 zeroP)) rfl)) ⟨⟨_, rfl, seen_head rfl rfl (fun q => rfl)⟩, ⟨⟨_, rfl, seen_ents _⟩, ⟨⟨_, rfl, seen_hdM _⟩, trivial⟩⟩⟩ (by decide) ?_)
 rintro v1 h1' ⟨rfl, rfl⟩
 refine ⟨.tuple #[], [cw (pl ((newP 10 80 0 0 0 0).1)), cw (headL kn4.p 2 3 kn4.e kn4.s), .chan 200 (kn4.w.map entV), .map (hdM kn4.hd), slB zNt (ntsL ((sendS kn0).2)) q2, cw [iv 1, iv 0, iv 1, iv 2, iv 1, uv 0, uv 0]], [], (by simp [renV]), ⟨rfl, ⟨ren_headL rfl rfl, ⟨ren_entsV _, ⟨ren_hdM _, ⟨rfl, ⟨rfl, trivial⟩⟩⟩⟩⟩⟩, trivial, ?_⟩
 refine o_nil ?_
 refine seq_go ?_
 refine gseq ?_
 refine greg ?_
 refine o_d 1 [(37, pv 1 0)] (by kernel_rfl) ?_
 refine o_cl (callG [1, 2, 3] [cw (headL kn4.p 1 2 kn4.e kn4.s), .chan 200 (kn4.w.map entV), .map (hdM kn4.hd)] [pv 0 0] (HsendC h_head_Head_Send h_head_Head_all h_head_Head_publish h_pool_Apply h_pool_may h_pool_held h_pool_fits h_pool_Check h_pool_placed h_cookie_Next kn4.p kn4.w kn4.hd kn4.e kn4.s ((ok_kn4)).hd) rfl rfl ⟨⟨_, rfl, seen_head rfl rfl (fun q => rfl)⟩, ⟨⟨_, rfl, seen_ents _⟩, ⟨⟨_, rfl, seen_hdM _⟩, trivial⟩⟩⟩ (by decide) ?_)
 rintro v1 h1' ⟨q4, hq5, rfl, rfl⟩
 refine ⟨slV 6 ((sendS kn4).2.length) q4, [cw (pl ((newP 10 80 0 0 0 0).1)), cw (headL kn5.p 2 3 kn5.e kn5.s), .chan 200 (kn5.w.map entV), .map (hdM kn5.hd), slB zNt (ntsL ((sendS kn0).2)) q2, cw [iv 1, iv 0, iv 1, iv 2, iv 1, uv 0, uv 0]], [slB zNt (ntsL ((sendS kn4).2)) q4], (renV_slV q4 rfl), ⟨rfl, ⟨ren_headL rfl rfl, ⟨ren_entsV _, ⟨(ren_hdM2 (sendS_hd _)), ⟨rfl, ⟨rfl, trivial⟩⟩⟩⟩⟩⟩, ⟨(Option.some.inj (ren_slB q4 (fun _ => (ntsR_scl _ _)))).symm, trivial⟩, ?_⟩
 refine o_d 1 [(7, slV 6 ((sendS kn4).2.length) q4)] (by kernel_rfl) ?_
 refine o_nil ?_
 refine seq_go ?_
 refine gseq ?_
 refine greg ?_
 refine o_d 1 [(39, pv 1 0)] (by kernel_rfl) ?_
 refine o_cl (callG [1, 2, 3] [cr (headL kn5.p 1 2 kn5.e kn5.s), .chan 200 (kn5.w.map entV), .map (hdM kn5.hd)] [pv 0 0] (HVersionC h_head_Head_Version kn5.p kn5.w kn5.hd kn5.e kn5.s) rfl rfl ⟨⟨_, rfl, seen_head rfl rfl (fun q => rfl)⟩, ⟨⟨_, rfl, seen_ents _⟩, ⟨⟨_, rfl, seen_hdM _⟩, trivial⟩⟩⟩ (by decide) ?_)
 rintro v1 h1' ⟨rfl, rfl⟩
 refine ⟨iv (kn5.p 0), [cw (pl ((newP 10 80 0 0 0 0).1)), cw (headL kn5.p 2 3 kn5.e kn5.s), .chan 200 (kn5.w.map entV), .map (hdM kn5.hd), slB zNt (ntsL ((sendS kn0).2)) q2, cw [iv 1, iv 0, iv 1, iv 2, iv 1, uv 0, uv 0], slB zNt (ntsL ((sendS kn4).2)) q4], [], rfl, ⟨rfl, ⟨rfl, ⟨ren_entsV _, ⟨ren_hdM _, ⟨rfl, ⟨rfl, ⟨rfl, trivial⟩⟩⟩⟩⟩⟩⟩, trivial, ?_⟩
 refine o_d 2 [(42, bv ((kn5.p 0) == 1)), (41, bv ((kn5.p 0) == 1))] (by kernel_rfl) ?_
 refine o_sp (b := (kn5.p 0) == 1) 42 rfl (fun k6 => ?_) (fun q => by rw [(by kernel_rfl : ((kn5.p 0) == 1) = true)] at q; cases q)
 refine o_d 1 [(43, slV 4 ((sendS kn0).2.length) q2)] (by kernel_rfl) ?_
 refine o_unguard rfl ?_
 refine o_s (by exact run_lenSl rfl (fun z => by rw [hq3 z]; rfl)) ?_
 refine o_d 3 [(47, bv (((sendS kn0).2.length : Nat) == 2)), (46, bv (((sendS kn0).2.length : Nat) == 2)), (45, bv (((sendS kn0).2.length : Nat) == 2))] (by kernel_rfl) ?_
 refine o_sp (b := ((sendS kn0).2.length : Nat) == 2) 47 rfl (fun k7 => ?_) (fun q => by rw [(by kernel_rfl : (((sendS kn0).2.length : Nat) == 2) = true)] at q; cases q)
 refine o_d 1 [(48, slV 4 ((sendS kn0).2.length) q2)] (by kernel_rfl) ?_
 refine o_unguard rfl ?_
 refine o_s (by exact run_iadSl (o' := 0) rfl (fun z => by rw [hq3 z]; rfl) rfl (by first | omega | (exact ⟨by decide, Int.ofNat_lt.2 (Nat.le_of_ble_eq_true (by kernel_rfl))⟩) | (refine Int.ofNat_lt.2 (Nat.le_of_ble_eq_true (by kernel_rfl)))) (by first | omega | (exact ⟨by decide, Int.ofNat_lt.2 (Nat.le_of_ble_eq_true (by kernel_rfl))⟩) | (refine Int.ofNat_lt.2 (Nat.le_of_ble_eq_true (by kernel_rfl))))) ?_
 refine o_d 1 [(50, pv 4 3)] (by kernel_rfl) ?_
 refine o_unguard rfl ?_
 refine o_s (by refine run_ld (v := bv (((sendS kn0).2.getD 0 n0).w)) rfl (hf_sl (n := ((sendS kn0).2).length) rfl (fun z => by rw [hq3 z]; rfl) (by exact Nat.le_of_ble_eq_true (by kernel_rfl))) ?_; exact nts_r2 (i := 0) (j := 3) (by omega) (nts_get (by exact Nat.le_of_ble_eq_true (by kernel_rfl))) (nt_rL (nt_rH rfl))) ?_
 refine o_d 2 [(53, bv (((sendS kn0).2.getD 0 n0).w)), (52, bv (((sendS kn0).2.getD 0 n0).w))] (by kernel_rfl) ?_
 refine o_sp (b := ((sendS kn0).2.getD 0 n0).w) 53 rfl (fun k8 => ?_) (fun q => by rw [(by kernel_rfl : (((sendS kn0).2.getD 0 n0).w) = true)] at q; cases q)
 refine o_d 4 [(57, bv (((wishS kn1 ([(⟨1, 0, 1, 2, 1, 0, 0⟩ : Ent)])).1) == 0)), (56, bv (((wishS kn1 ([(⟨1, 0, 1, 2, 1, 0, 0⟩ : Ent)])).1) == 0)), (55, bv (((wishS kn1 ([(⟨1, 0, 1, 2, 1, 0, 0⟩ : Ent)])).1) == 0)), (54, iv ((wishS kn1 ([(⟨1, 0, 1, 2, 1, 0, 0⟩ : Ent)])).1))] (by kernel_rfl) ?_
 refine o_sp (b := ((wishS kn1 ([(⟨1, 0, 1, 2, 1, 0, 0⟩ : Ent)])).1) == 0) 57 rfl (fun k9 => ?_) (fun q => by rw [(by kernel_rfl : (((wishS kn1 ([(⟨1, 0, 1, 2, 1, 0, 0⟩ : Ent)])).1) == 0) = true)] at q; cases q)
 refine o_d 1 [(58, slV 6 ((sendS kn4).2.length) q4)] (by kernel_rfl) ?_
 refine o_unguard rfl ?_
 refine o_s (by exact run_lenSl rfl (fun z => by rw [hq5 z]; rfl)) ?_
 refine o_d 3 [(62, bv (((sendS kn4).2.length : Nat) == 2)), (61, bv (((sendS kn4).2.length : Nat) == 2)), (60, bv (((sendS kn4).2.length : Nat) == 2))] (by kernel_rfl) ?_
 refine o_sp (b := ((sendS kn4).2.length : Nat) == 2) 62 rfl (fun k10 => ?_) (fun q => by rw [(by kernel_rfl : (((sendS kn4).2.length : Nat) == 2) = true)] at q; cases q)
 refine o_d 1 [(63, slV 6 ((sendS kn4).2.length) q4)] (by kernel_rfl) ?_
 refine o_unguard rfl ?_
 refine o_s (by exact run_iadSl (o' := 342) rfl (fun z => by rw [hq5 z]; rfl) rfl (by first | omega | (exact ⟨by decide, Int.ofNat_lt.2 (Nat.le_of_ble_eq_true (by kernel_rfl))⟩) | (refine Int.ofNat_lt.2 (Nat.le_of_ble_eq_true (by kernel_rfl)))) (by first | omega | (exact ⟨by decide, Int.ofNat_lt.2 (Nat.le_of_ble_eq_true (by kernel_rfl))⟩) | (refine Int.ofNat_lt.2 (Nat.le_of_ble_eq_true (by kernel_rfl))))) ?_
 refine o_d 1 [(65, pv 6 345)] (by kernel_rfl) ?_
 refine o_unguard rfl ?_
 refine o_s (by refine run_ld (v := bv (((sendS kn4).2.getD 1 n0).w)) rfl (hf_sl (n := ((sendS kn4).2).length) rfl (fun z => by rw [hq5 z]; rfl) (by exact Nat.le_of_ble_eq_true (by kernel_rfl))) ?_; exact nts_r2 (i := 1) (j := 3) (by omega) (nts_get (by exact Nat.le_of_ble_eq_true (by kernel_rfl))) (nt_rL (nt_rH rfl))) ?_
 refine o_d 3 [(69, bv (!(((sendS kn4).2.getD 1 n0).w))), (68, bv (!(((sendS kn4).2.getD 1 n0).w))), (67, bv (!(((sendS kn4).2.getD 1 n0).w)))] (by kernel_rfl) ?_
 refine o_sp (b := !(((sendS kn4).2.getD 1 n0).w)) 69 rfl (fun k11 => ?_) (fun q => by rw [(by kernel_rfl : (!(((sendS kn4).2.getD 1 n0).w)) = true)] at q; cases q)
 refine o_d 1 [(70, slV 6 ((sendS kn4).2.length) q4)] (by kernel_rfl) ?_
 refine o_unguard rfl ?_
 refine o_s (by exact run_iadSl (o' := 342) rfl (fun z => by rw [hq5 z]; rfl) rfl (by first | omega | (exact ⟨by decide, Int.ofNat_lt.2 (Nat.le_of_ble_eq_true (by kernel_rfl))⟩) | (refine Int.ofNat_lt.2 (Nat.le_of_ble_eq_true (by kernel_rfl)))) (by first | omega | (exact ⟨by decide, Int.ofNat_lt.2 (Nat.le_of_ble_eq_true (by kernel_rfl))⟩) | (refine Int.ofNat_lt.2 (Nat.le_of_ble_eq_true (by kernel_rfl))))) ?_
 refine o_d 1 [(72, pv 6 344)] (by kernel_rfl) ?_
 refine o_unguard rfl ?_
 refine o_s (by refine run_ld (v := iv (((sendS kn4).2.getD 1 n0).v)) rfl (hf_sl (n := ((sendS kn4).2).length) rfl (fun z => by rw [hq5 z]; rfl) (by exact Nat.le_of_ble_eq_true (by kernel_rfl))) ?_; exact nts_r2 (i := 1) (j := 2) (by omega) (nts_get (by exact Nat.le_of_ble_eq_true (by kernel_rfl))) (nt_rL (nt_rH rfl))) ?_
 refine o_d 3 [(76, bv ((((sendS kn4).2.getD 1 n0).v) == 1)), (75, bv ((((sendS kn4).2.getD 1 n0).v) == 1)), (74, bv ((((sendS kn4).2.getD 1 n0).v) == 1))] (by kernel_rfl) ?_
 refine o_sp (b := (((sendS kn4).2.getD 1 n0).v) == 1) 76 rfl (fun k12 => ?_) (fun q => by rw [(by kernel_rfl : ((((sendS kn4).2.getD 1 n0).v) == 1) = true)] at q; cases q)
 refine o_d 1 [(77, pv 1 0)] (by kernel_rfl) ?_
 refine o_unguard rfl ?_
 refine o_cl (callG [1, 2, 3] [cr (headL kn5.p 1 2 kn5.e kn5.s), .chan 200 (kn5.w.map entV), .map (hdM kn5.hd)] [pv 0 0] (HWaitingC h_head_Head_Waiting kn5.p kn5.w kn5.hd kn5.e kn5.s) rfl rfl ⟨⟨_, rfl, seen_head rfl rfl (fun q => rfl)⟩, ⟨⟨_, rfl, seen_ents _⟩, ⟨⟨_, rfl, seen_hdM _⟩, trivial⟩⟩⟩ (by decide) ?_)
 rintro v1 h1' ⟨rfl, rfl⟩
 refine ⟨iv (kn5.w.length : Nat), [cw (pl ((newP 10 80 0 0 0 0).1)), cw (headL kn5.p 2 3 kn5.e kn5.s), .chan 200 (kn5.w.map entV), .map (hdM kn5.hd), slB zNt (ntsL ((sendS kn0).2)) q2, cw [iv 1, iv 0, iv 1, iv 2, iv 1, uv 0, uv 0], slB zNt (ntsL ((sendS kn4).2)) q4], [], rfl, ⟨rfl, ⟨rfl, ⟨ren_entsV _, ⟨ren_hdM _, ⟨rfl, ⟨rfl, ⟨rfl, trivial⟩⟩⟩⟩⟩⟩⟩, trivial, ?_⟩
 refine o_d 3 [(81, bv ((kn5.w.length : Nat) == 0)), (80, bv ((kn5.w.length : Nat) == 0)), (79, bv ((kn5.w.length : Nat) == 0))] (by kernel_rfl) ?_
 refine o_sp (b := (kn5.w.length : Nat) == 0) 81 rfl (fun k13 => ?_) (fun q => by rw [(by kernel_rfl : ((kn5.w.length : Nat) == 0) = true)] at q; cases q)
 refine o_d 1 [(82, pv 1 0)] (by kernel_rfl) ?_
 refine o_unguard rfl ?_
 refine o_cl (callG [1, 2, 3] [cr (headL kn5.p 1 2 kn5.e kn5.s), .chan 200 (kn5.w.map entV), .map (hdM kn5.hd)] [pv 0 0] (HPoolC h_head_Head_Pool kn5.p kn5.w kn5.hd kn5.e kn5.s) rfl rfl ⟨⟨_, rfl, seen_head rfl rfl (fun q => rfl)⟩, ⟨⟨_, rfl, seen_ents _⟩, ⟨⟨_, rfl, seen_hdM _⟩, trivial⟩⟩⟩ (by decide) ?_)
 rintro v1 h1' ⟨rfl, rfl⟩
 refine ⟨poolV kn5.p, [cw (pl ((newP 10 80 0 0 0 0).1)), cw (headL kn5.p 2 3 kn5.e kn5.s), .chan 200 (kn5.w.map entV), .map (hdM kn5.hd), slB zNt (ntsL ((sendS kn0).2)) q2, cw [iv 1, iv 0, iv 1, iv 2, iv 1, uv 0, uv 0], slB zNt (ntsL ((sendS kn4).2)) q4], [cw (pl kn5.p)], (renV_vpf (poolV_vpf kn5.p)), ⟨rfl, ⟨rfl, ⟨ren_entsV _, ⟨ren_hdM _, ⟨rfl, ⟨rfl, ⟨rfl, trivial⟩⟩⟩⟩⟩⟩⟩, ⟨(Option.some.inj (ren_cells (pl_scl kn5.p))).symm, trivial⟩, ?_⟩
 refine o_unguard rfl ?_
 refine o_s (by refine run_fld (v := iv (kn5.p 0)) rfl ?_; exact pl_r kn5.p 0 rfl (by omega)) ?_
 refine o_d 3 [(0, bv ((kn5.p 0) == 1)), (86, bv ((kn5.p 0) == 1)), (85, bv ((kn5.p 0) == 1))] (by kernel_rfl) ?_
 refine o_nil ?_
 refine seq_regs [(0, bv ((kn5.p 0) == 1))] (by kernel_rfl) ?_
 refine gret ?_
 have E0_ : ((kn5.p 0) == 1) = true := by
  kernel_rfl
 exact fin_ans [bv ((kn5.p 0) == 1)] (resV_t rfl rfl) rfl (by rw [E0_]; rfl) rfl rfl
end Go.Rh

set_option linter.unusedSimpArgs false
set_option linter.unusedVariables false
set_option maxRecDepth 100000
namespace Go.Rh
theorem go_quiet {x : HS} (h : x.w = [] ∨ allW x.hd (x.p 0) = false) : goS x = x := by
  unfold goS
  rcases h with h | h
  · split
    · unfold pubS; rw [h]
    · rfl
  · rw [h]; rfl
theorem send_quiet {x : HS} (h : x.w = [] ∨ allW x.hd (x.p 0) = false) : sendS x = (x, notesTo x x.hd.length) := by
  unfold sendS; rw [go_quiet h]
theorem lk_at {hd : List (Int × Int)} {u : Nat} (h : u < hd.length) : lkS hd (u : Nat) = (hd.getD u (0, 0), true) := by
  unfold lkS; rw [if_pos ⟨by omega, by omega⟩]; rfl
theorem lk_off {hd : List (Int × Int)} {n : Int} (h : n < 0 ∨ hd.length ≤ n) : lkS hd n = ((0, 0), false) := by
  unfold lkS; rw [if_neg (by omega)]
/-- What a head notes of a unit that has heard nothing or an elder version: the whole pool, if no entry was published. -/
theorem note_down {x : HS} {u : Nat} (hs : x.s = false) (h : (lkS x.hd (u : Nat)).1.2 < x.p 0) : noteS x u = some ⟨(u : Nat), (lkS x.hd (u : Nat)).1.1, x.p 0, true, false, e0, x.p⟩ := by
  unfold noteS
  simp only
  rw [if_neg (by omega), if_neg (by simp [hs])]
theorem note_has {x : HS} {u : Nat} (h : x.p 0 ≤ (lkS x.hd (u : Nat)).1.2) : noteS x u = none := by
  unfold noteS; simp only; rw [if_pos h]
/-- Heard: a word of a later boot; of this one; of none. -/
theorem heard_off {hd : List (Int × Int)} {n : Nt} (h : n.a = false ∨ (lkS hd n.u).2 = false ∨ n.b < (lkS hd n.u).1.1) : heardS hd n = hd := by
  unfold heardS; rw [if_pos h]
theorem heard_in {hd : List (Int × Int)} {n : Nt} (h1 : n.a = true) (h2 : (lkS hd n.u).2 = true) (h3 : (lkS hd n.u).1.1 ≤ n.b) :
    heardS hd n = hd.set n.u.toNat (if n.b > (lkS hd n.u).1.1 ∨ mxS n.v > (lkS hd n.u).1.2 then (n.b, mxS n.v) else ((lkS hd n.u).1.1, (lkS hd n.u).1.2)) := by
  unfold heardS
  rw [if_neg (by simp [h1, h2]; omega)]
  split <;> rfl
/-! ### one unit -/
def one1 (p : Flat) (b v : Int) : HS := ⟨p, [], [(b, v)], e0, false⟩
theorem one_new (p : Flat) : newHS p 1 = one1 p 0 (-1) := rfl
theorem one_hear (p : Flat) (b v b' v' : Int) (e : Ent) (q : Flat) (w : Bool) : hearS (one1 p b v) ⟨0, b', v', w, true, e, q⟩ = if b' < b then one1 p b v else if b' > b ∨ mxS v' > v then one1 p b' (mxS v') else one1 p b v := by
  have hl : lkS (one1 p b v).hd 0 = ((b, v), true) := by simp [one1, lkS]
  unfold hearS
  by_cases h : b' < b
  · rw [if_pos h, heard_off (.inr (.inr (by show b' < (lkS (one1 p b v).hd 0).1.1; rw [hl]; exact h)))]
  · rw [if_neg h, heard_in rfl (congrArg Prod.snd hl) (by show (lkS (one1 p b v).hd 0).1.1 ≤ b'; rw [hl]; exact Int.not_lt.1 h)]
    show HS.mk p [] ((one1 p b v).hd.set 0 (if b' > (lkS (one1 p b v).hd 0).1.1 ∨ mxS v' > (lkS (one1 p b v).hd 0).1.2 then (b', mxS v') else ((lkS (one1 p b v).hd 0).1.1, (lkS (one1 p b v).hd 0).1.2))) e0 false = _
    rw [hl]
    simp only
    split <;> rfl
theorem one_send (p : Flat) (b v : Int) : sendS (one1 p b v) = (one1 p b v, if p 0 ≤ v then [] else [⟨0, b, p 0, true, false, e0, p⟩]) := by
  rw [send_quiet (.inl rfl)]
  congr 1
  have hl : (lkS (one1 p b v).hd ((0 : Nat) : Int)) = ((b, v), true) := by simp [one1, lkS]
  show notesTo (one1 p b v) 1 = _
  split
  · rename_i h
    rw [show (1 : Nat) = 0 + 1 from rfl, notesTo_none (note_has (by rw [hl]; exact h))]; rfl
  · rename_i h
    rw [show (1 : Nat) = 0 + 1 from rfl, notesTo_some (note_down rfl (by rw [hl]; show v < p 0; omega)), hl]; rfl
theorem mx_neg {v : Int} (h : v ≤ -1) : mxS v = -1 := by unfold mxS; split <;> omega
theorem mx_pos {v : Int} (h : -1 ≤ v) : mxS v = v := by unfold mxS; split <;> omega
/-! ### rows of bools -/
def bb (l : List Bool) : List Value := l.map .bool
theorem bb_length (l : List Bool) : (bb l).length = l.length := by simp [bb]
theorem bb_scl (l : List Bool) : (bb l).all sclf = true := by
  refine List.all_eq_true.2 fun v hv => ?_
  obtain ⟨b, _, rfl⟩ := List.mem_map.1 hv; rfl
theorem bb_r {l : List Bool} {i : Nat} (h : i < l.length) : partL none (bb l) i = some (bv (l.getD i false)) := by
  simp [partL, bb, List.getD_eq_getElem?_getD, h]
theorem bb_w {l : List Bool} {i : Nat} {b : Bool} (h : i < l.length) : splice (bb l) i [bv b] = bb (l.set i b) := by
  refine list_of_get (by rw [splice_len (by simp [bb]; omega), bb_length, bb_length, List.length_set]) fun k hk => ?_
  rw [splice_get (by simp [bb]; omega)]
  simp only [bb, List.getElem?_map, List.length_singleton]
  rw [List.getElem?_set]
  by_cases hki : i = k
  · subst hki; rw [if_pos ⟨Nat.le_refl _, by omega⟩, if_pos rfl, if_pos h]; simp
  · rw [if_neg (by omega), if_neg hki]
/-! ### wishes of new keys -/
def rotE (a b : Int) : Ent := ⟨6, 0, 0, 0, 0, a, b⟩
def Rots (l : List Ent) : Prop := ∀ e ∈ l, ∃ a b, e = rotE a b
theorem Rots.nil : Rots [] := by intro e h; simp at h
theorem Rots.cons {a b : Int} {l : List Ent} (h : Rots l) : Rots (rotE a b :: l) := by
  intro e he
  rcases List.mem_cons.1 he with rfl | he
  · exact ⟨_, _, rfl⟩
  · exact h e he
theorem Rots.app {l m : List Ent} (h : Rots l) (h2 : Rots m) : Rots (l ++ m) := by
  intro e he
  rcases List.mem_append.1 he with he | he
  · exact h e he
  · exact h2 e he
theorem Rots.one (a b : Int) : Rots [rotE a b] := Rots.nil.cons
theorem allS_rot : ∀ {l : List Ent} (c : Flat) (i : Nat), Rots l → (allS c l i).2.2 = 0
  | [], _, _, _ => rfl
  | e :: l, c, i, h => by
    obtain ⟨a, b, rfl⟩ := h e (by simp)
    have := apply_rot c a b
    simp only [allS, rotE, this]
    exact allS_rot _ _ fun e he => h e (by simp [he])
theorem wish_rot {x : HS} {l : List Ent} (h : Rots l) (hl : x.w.length + l.length ≤ 200) : wishS x l = (0, { x with w := x.w ++ l }) := wish_ok (by omega) (fun q => q (allS_rot _ _ h))
theorem wis_rot {x : HS} {l : List Ent} (h : Rots l) (hl : x.w.length + l.length ≤ 200) : wisS x l = { x with w := x.w ++ l } := by unfold wisS; rw [wish_rot h hl]
/-- A head whose units have heard nothing. -/
def coldS (p : Flat) (u : Nat) (w : List Ent) : HS := ⟨p, w, List.replicate u (0, -1), e0, false⟩
theorem cold_new (p : Flat) {u : Int} : newHS p u = coldS p u.toNat [] := rfl
theorem cold_wis (p : Flat) (u : Nat) {w l : List Ent} (h : Rots l) (hl : w.length + l.length ≤ 200) : wisS (coldS p u w) l = coldS p u (w ++ l) := wis_rot h hl
theorem cold_lk {u k : Nat} (h : k < u) : lkS (List.replicate u ((0 : Int), (-1 : Int))) (k : Nat) = ((0, -1), true) := by
  rw [lk_at (by simpa using h), List.getD_eq_getElem?_getD, List.getElem?_replicate, if_pos h]; rfl
theorem cold_all {p : Flat} (hp : 0 ≤ p 0) {u : Nat} (hu : 0 < u) : allW (List.replicate u (0, -1)) (p 0) = false := by
  obtain ⟨n, rfl⟩ : ∃ n, u = n + 1 := ⟨u - 1, by omega⟩
  simp [allW, List.replicate_succ]; omega
theorem cold_notes {p : Flat} (hp : 0 ≤ p 0) {u : Nat} {w : List Ent} : ∀ {n : Nat}, n ≤ u → notesTo (coldS p u w) n = (List.range n).map fun i => ⟨(i : Nat), 0, p 0, true, false, e0, p⟩
  | 0, _ => rfl
  | n + 1, h => by
    have hk : lkS (coldS p u w).hd (n : Nat) = ((0, -1), true) := cold_lk (by omega)
    rw [notesTo_some (note_down rfl (by rw [hk]; show (-1 : Int) < p 0; omega)), cold_notes hp (by omega), hk, List.range_succ, List.map_append]; rfl
theorem cold_send {p : Flat} (hp : 0 ≤ p 0) {u : Nat} (hu : 0 < u) {w : List Ent} : sendS (coldS p u w) = (coldS p u w, (List.range u).map fun i => ⟨(i : Nat), 0, p 0, true, false, e0, p⟩) := by
  rw [send_quiet (.inr (cold_all hp hu))]
  congr 1
  show notesTo (coldS p u w) (List.replicate u ((0 : Int), (-1 : Int))).length = _
  rw [List.length_replicate, cold_notes hp (Nat.le_refl u)]
theorem cold_deaf {p : Flat} {u : Nat} {w : List Ent} {n : Nt} (h : n.a = false ∨ (lkS (List.replicate u ((0 : Int), (-1 : Int))) n.u).2 = false ∨ n.b < 0) : hearS (coldS p u w) n = coldS p u w := by
  unfold hearS
  refine (congrArg (fun z => HS.mk p w z e0 false) (heard_off (hd := (coldS p u w).hd) (n := n) ?_)).trans rfl
  rcases h with h | h | h
  · exact .inl h
  · exact .inr (.inl h)
  · refine .inr (.inr ?_)
    show n.b < (lkS (List.replicate u ((0 : Int), (-1 : Int))) n.u).1.1
    unfold lkS
    split
    · rename_i q
      rw [List.getD_eq_getElem?_getD, List.getElem?_replicate, if_pos (by simp at q; omega)]; exact h
    · exact h
theorem cold_off {u : Nat} {n : Int} (h : n < 0 ∨ u ≤ n) : (lkS (List.replicate u ((0 : Int), (-1 : Int))) n).2 = false := by
  rw [lk_off (by simpa using h)]
theorem ok_cold (p : Flat) {u : Nat} {w : List Ent} (hu : u ≤ 1000 := by omega) (hw : w.length ≤ 200 := by simp) : HOK (coldS p u w) := ⟨hw, by simpa [coldS] using hu⟩
theorem off3 {u : Int} (hu : 1 ≤ u ∧ u ≤ 16) (i : Nat) : pickL [-1, u, 99] i < 0 ∨ u.toNat ≤ pickL [-1, u, 99] i ∨ 3 ≤ i := by
  match i with
  | 0 => simp [pickL]
  | 1 => simp [pickL]; omega
  | 2 => simp [pickL]; omega
  | i + 3 => omega
theorem lk_of {hd : List (Int × Int)} {k : Nat} {x : Int × Int} (h : hd[k]? = some x) : lkS hd (k : Nat) = (x, true) := by
  rw [lk_at (lt_of_getElem? h), List.getD_eq_getElem?_getD, h]; rfl
theorem hear_at {p : Flat} {w : List Ent} {hd : List (Int × Int)} {k : Nat} {x : Int × Int} (h : hd[k]? = some x) (h0 : x = (0, p 0) ∨ x = (0, -1)) (hp : 0 ≤ p 0) : hearS ⟨p, w, hd, e0, false⟩ ⟨(k : Nat), 0, p 0, false, true, e0, zeroP⟩ = ⟨p, w, hd.set k (0, p 0), e0, false⟩ := by
  have hl := lk_of h
  unfold hearS
  have h1 : heardS hd ⟨(k : Nat), 0, p 0, false, true, e0, zeroP⟩ = hd.set k (0, p 0) := by
    rw [heard_in rfl (by show (lkS hd (k : Nat)).2 = true; rw [hl]) (by show (lkS hd (k : Nat)).1.1 ≤ 0; rw [hl]; rcases h0 with rfl | rfl <;> exact Int.le_refl _)]
    show hd.set k (if (0 : Int) > (lkS hd (k : Nat)).1.1 ∨ mxS (p 0) > (lkS hd (k : Nat)).1.2 then (0, mxS (p 0)) else ((lkS hd (k : Nat)).1.1, (lkS hd (k : Nat)).1.2)) = _
    rw [hl, mx_pos (by omega)]
    rcases h0 with rfl | rfl
    · simp
    · simp only; rw [if_pos (.inr (by omega))]
  simp only [h1]
theorem go_pub {x : HS} {a b : Int} {r : List Ent} (hw : x.w = rotE a b :: r) (hA : allW x.hd (x.p 0) = true) : goS x = ⟨(applyS x.p (rotE a b)).1, r, x.hd, rotE a b, true⟩ := by
  unfold goS pubS
  rw [if_pos hA, hw]
  simp only
  rw [if_pos (by rw [rotE, apply_rot])]
theorem rot_ver {p : Flat} (hp : 0 ≤ p 0 ∧ p 0 ≤ 1000000) (a b : Int) : (applyS p (rotE a b)).1 0 = p 0 + 1 := by
  rw [apply_ver (by rw [rotE, apply_rot]), w1 (by omega)]
/-! ### the words that come in one by one -/
def hdk (v : Int) (u k : Nat) : List (Int × Int) := List.replicate k (0, v) ++ List.replicate (u - k) (0, -1)
theorem hdk_len {v : Int} {u k : Nat} (h : k ≤ u) : (hdk v u k).length = u := by
  unfold hdk; rw [List.length_append, List.length_replicate, List.length_replicate]; omega
theorem hdk_at {v : Int} {u k j : Nat} (h : k ≤ u) : (hdk v u k)[j]? = if j < k then some (0, v) else if j < u then some (0, -1) else none := by
  unfold hdk
  by_cases h1 : j < k
  · rw [List.getElem?_append_left (by simpa using h1), List.getElem?_replicate, if_pos h1, if_pos h1]
  · rw [List.getElem?_append_right (by simp; omega), List.getElem?_replicate, List.length_replicate, if_neg h1]
    by_cases h2 : j < u
    · rw [if_pos (by omega), if_pos h2]
    · rw [if_neg (by omega), if_neg h2]
theorem hdk_zero {v : Int} {u : Nat} : hdk v u 0 = List.replicate u (0, -1) := by simp [hdk]
theorem hdk_get {v : Int} {u k : Nat} (h : k < u) : (hdk v u k)[k]? = some (0, -1) := by
  rw [hdk_at (by omega), if_neg (by omega), if_pos h]
theorem hdk_set {v : Int} {u k : Nat} (h : k < u) : (hdk v u k).set k (0, v) = hdk v u (k + 1) := by
  refine List.ext_getElem? fun j => ?_
  rw [List.getElem?_set, hdk_len (by omega), hdk_at (by omega), hdk_at (by omega)]
  by_cases hj : k = j
  · subst hj; rw [if_pos rfl, if_pos h, if_pos (by omega)]
  · rw [if_neg hj]
    by_cases h1 : j < k
    · rw [if_pos h1, if_pos (by omega)]
    · rw [if_neg h1, if_neg (show ¬ j < k + 1 by omega)]
theorem hdk_all {v : Int} {u : Nat} : hdk v u u = List.replicate u (0, v) := by simp [hdk]
theorem hdk_hear {p : Flat} {w : List Ent} {u k : Nat} (h : k < u) (hp : 0 ≤ p 0) : hearS ⟨p, w, hdk (p 0) u k, e0, false⟩ ⟨(k : Nat), 0, p 0, false, true, e0, zeroP⟩ = ⟨p, w, hdk (p 0) u (k + 1), e0, false⟩ := by
  rw [hear_at (hdk_get h) (.inr rfl) hp, hdk_set h]
theorem notes_wish {a b : Int} {p : Flat} {u : Nat} : wisS (coldS p u []) [rotE a b] = ⟨p, [rotE a b], hdk (p 0) u 0, e0, false⟩ := by
  rw [cold_wis p u (Rots.one _ _) (by simp), hdk_zero]; rfl
theorem notes_send0 {a b : Int} {p : Flat} (hp : 0 ≤ p 0) {u : Nat} (hu : 0 < u) : sendS ⟨p, [rotE a b], hdk (p 0) u 0, e0, false⟩ = (⟨p, [rotE a b], hdk (p 0) u 0, e0, false⟩, (List.range u).map fun i => ⟨(i : Nat), 0, p 0, true, false, e0, p⟩) := by
  rw [hdk_zero]; exact cold_send hp hu
theorem rep_lk {u k : Nat} {v : Int} (h : k < u) : lkS (List.replicate u ((0 : Int), v)) (k : Nat) = ((0, v), true) := by
  rw [lk_at (by simpa using h), List.getD_eq_getElem?_getD, List.getElem?_replicate, if_pos h]; rfl
theorem note_ent2 {x : HS} {u : Nat} {v : Int} (hl : lkS x.hd (u : Nat) = ((0, v), true)) (h1 : x.p 0 = v + 1) (h2 : 0 ≤ v ∧ v ≤ 1000000) (hs : x.s = true) : noteS x u = some ⟨(u : Nat), 0, v + 1, false, false, x.e, zeroP⟩ := by
  unfold noteS
  simp only [hl, h1]
  rw [if_neg (by omega), if_pos ⟨by rw [w64 (by omega) (by omega)]; omega, hs⟩]
theorem notes_all {q : Flat} {v : Int} {e : Ent} (h1 : q 0 = v + 1) (h2 : 0 ≤ v ∧ v ≤ 1000000) {u : Nat} : ∀ {n : Nat}, n ≤ u → notesTo ⟨q, [], List.replicate u (0, v), e, true⟩ n = (List.range n).map fun i => ⟨(i : Nat), 0, v + 1, false, false, e, zeroP⟩
  | 0, _ => rfl
  | n + 1, h => by
    rw [notesTo_some (note_ent2 (rep_lk (by omega)) h1 h2 rfl), notes_all h1 h2 (by omega), List.range_succ, List.map_append]; rfl
theorem notes_send2 {a b : Int} {p : Flat} {k : Nat} (hp : 0 ≤ p 0 ∧ p 0 ≤ k) (hk : k ≤ 1000) {u : Nat} : sendS ⟨(applyS p (rotE a b)).1, [], List.replicate u (0, p 0), rotE a b, true⟩ = (⟨(applyS p (rotE a b)).1, [], List.replicate u (0, p 0), rotE a b, true⟩, (List.range u).map fun i => ⟨(i : Nat), 0, p 0 + 1, false, false, rotE a b, zeroP⟩) := by
  rw [send_quiet (.inl rfl)]
  congr 1
  show notesTo _ (List.replicate u ((0 : Int), p 0)).length = _
  rw [List.length_replicate]
  exact notes_all (rot_ver (by omega) _ _) (by omega) (Nat.le_refl _)
theorem notes_send1 {a b : Int} {p : Flat} {k : Nat} (hp : 0 ≤ p 0 ∧ p 0 ≤ k) (hk : k ≤ 1000) {u : Nat} : sendS ⟨p, [rotE a b], hdk (p 0) u u, e0, false⟩ = (⟨(applyS p (rotE a b)).1, [], List.replicate u (0, p 0), rotE a b, true⟩, (List.range u).map fun i => ⟨(i : Nat), 0, p 0 + 1, false, false, rotE a b, zeroP⟩) := by
  have hA : allW (hdk (p 0) u u) (p 0) = true := by rw [hdk_all]; exact List.all_eq_true.2 fun x hx => by rw [(List.mem_replicate.1 hx).2]; simp
  have hg := go_pub (x := ⟨p, [rotE a b], hdk (p 0) u u, e0, false⟩) (a := a) (b := b) (r := []) rfl hA
  have h2 := notes_send2 (a := a) (b := b) hp hk (u := u)
  rw [send_quiet (.inl rfl)] at h2
  unfold sendS
  rw [hg]
  show (HS.mk _ [] (hdk (p 0) u u) _ true, _) = _
  rw [hdk_all]
  exact h2
theorem notes_hear {a b : Int} {p : Flat} {k u : Nat} (hp : 0 ≤ p 0 ∧ p 0 ≤ k) (hk : k ≤ 1000) {w : Int} (hw : 0 ≤ w ∧ w.toNat < u) : hearS ⟨(applyS p (rotE a b)).1, [], List.replicate u (0, p 0), rotE a b, true⟩ ⟨w, 0, p 0 + 1, false, true, e0, zeroP⟩ = ⟨(applyS p (rotE a b)).1, [], (List.replicate u (0, p 0)).set w.toNat (0, p 0 + 1), rotE a b, true⟩ := by
  have hl : lkS (List.replicate u ((0 : Int), p 0)) w = ((0, p 0), true) := by
    have := rep_lk (v := p 0) hw.2
    rwa [Int.toNat_of_nonneg hw.1] at this
  unfold hearS
  simp only
  rw [heard_in rfl (congrArg Prod.snd hl) (by show (lkS _ w).1.1 ≤ 0; rw [hl]; exact Int.le_refl _)]
  show HS.mk _ _ ((List.replicate u ((0 : Int), p 0)).set w.toNat (if (0 : Int) > (lkS (List.replicate u ((0 : Int), p 0)) w).1.1 ∨ mxS (p 0 + 1) > (lkS (List.replicate u ((0 : Int), p 0)) w).1.2 then (0, mxS (p 0 + 1)) else _)) _ _ = _
  rw [hl, mx_pos (by omega), if_pos (.inr (by simp only; omega))]
theorem notes_last {a b : Int} {p : Flat} {k u : Nat} (hp : 0 ≤ p 0 ∧ p 0 ≤ k) (hk : k ≤ 1000) {w : Int} (hw : 0 ≤ w ∧ w.toNat < u) : (sendS ⟨(applyS p (rotE a b)).1, [], (List.replicate u (0, p 0)).set w.toNat (0, p 0 + 1), rotE a b, true⟩).2.length = u - 1 := by
  rw [send_quiet (.inl rfl)]
  show (notesTo _ ((List.replicate u ((0 : Int), p 0)).set w.toNat (0, p 0 + 1)).length).length = _
  rw [List.length_set, List.length_replicate]
  have gen : ∀ n, n ≤ u → (notesTo ⟨(applyS p (rotE a b)).1, [], (List.replicate u (0, p 0)).set w.toNat (0, p 0 + 1), rotE a b, true⟩ n).length = if w.toNat < n then n - 1 else n := by
    intro n
    induction n with
    | zero => intro _; rfl
    | succ n ih =>
      intro hn
      have ih := ih (by omega)
      have hv := rot_ver (p := p) (by omega) a b
      by_cases hwn : w.toNat = n
      · have hl : lkS ((List.replicate u ((0 : Int), p 0)).set w.toNat (0, p 0 + 1)) (n : Nat) = ((0, p 0 + 1), true) := by
          rw [lk_at (by simp; omega), List.getD_eq_getElem?_getD, ← hwn, List.getElem?_set_self (by simp; omega)]; rfl
        rw [notesTo_none (note_has (by show (applyS p (rotE a b)).1 0 ≤ (lkS _ (n : Nat)).1.2; rw [hl, hv]; exact Int.le_refl _)), ih, if_neg (by omega), if_pos (by omega)]; omega
      · have hl : lkS ((List.replicate u ((0 : Int), p 0)).set w.toNat (0, p 0 + 1)) (n : Nat) = ((0, p 0), true) := by
          rw [lk_at (by simp; omega), List.getD_eq_getElem?_getD, List.getElem?_set_ne hwn, List.getElem?_replicate, if_pos (by omega)]; rfl
        rw [notesTo_some (note_ent2 hl hv (by omega) rfl), List.length_append, ih]
        simp only [List.length_singleton]
        split <;> split <;> omega
  rw [gen u (Nat.le_refl _), if_pos hw.2]
theorem nts_w {vs : List Value} {t : List Value} : ∀ {l : List Nt} {o i j : Nat} {n n' : Nt}, o = 342 * i + j → l[i]? = some n → j + vs.length ≤ 342 → splice (ntL n) j vs = ntL n' → splice (ntsL l ++ t) o vs = ntsL (l.set i n') ++ t
  | [], _, _, _, _, _, _, h, _, _ => by simp at h
  | x :: l, o, 0, j, n, n', ho, h, hj, hs => by
    simp at h; subst h
    have e : ntsL (x :: l) ++ t = ntL x ++ (ntsL l ++ t) := by simp [ntsL]
    have e2 : ntsL ((x :: l).set 0 n') ++ t = ntL n' ++ (ntsL l ++ t) := by simp [ntsL]
    rw [e, e2, ho, show 342 * 0 + j = j by omega, splice_l (by rw [ntL_length]; omega), hs]
  | x :: l, o, i + 1, j, n, n', ho, h, hj, hs => by
    have e : ntsL (x :: l) ++ t = ntL x ++ (ntsL l ++ t) := by simp [ntsL]
    have e2 : ntsL ((x :: l).set (i + 1) n') ++ t = ntL x ++ (ntsL (l.set i n') ++ t) := by simp [ntsL]
    rw [e, e2, ho, show 342 * (i + 1) + j = 342 + (342 * i + j) by omega, splice_r (ntL_length x), nts_w rfl (by simpa using h) hj hs]
end Go.Rh

set_option linter.unusedSimpArgs false
set_option linter.unusedVariables false
set_option maxRecDepth 100000
set_option maxHeartbeats 8000000
namespace Go.Rh
def c_law11_as : IFunc :=
  ⟨19, [.tmp 2], (.seq (.reg [⟨(some 2), .mv (.c (.slice none 0 0)), none⟩]) (.seq (.reg [⟨(some 3), .mv (.c (.slice none 0 0)), none⟩]) (.seq (.seq (.reg [⟨(some 4), .mv (.c (.int .i64 0)), none⟩]) (.block 0 (.loop (.seq (.seq (.reg [⟨(some 5), .mv (.t 4), none⟩, ⟨(some 6), .mv (.t 0), none⟩, ⟨(some 7), .lenS (.t 6), none⟩, ⟨(some 8), .bin .lss (.t 5) (.t 7), none⟩]) (.cond (.t 8) .skip (.exit 0))) (.seq (.block 1 (.reg [⟨(some 11), .mv (.t 3), none⟩, ⟨(some 12), .mv (.t 0), none⟩, ⟨(some 13), .mv (.t 4), none⟩, ⟨(some 14), .iadS 342 (.t 12) (.t 13), none⟩, ⟨(some 15), .ld (some 342) (.t 14), none⟩, ⟨(some 16), .bsl [(3, (.int .i64 0)), (2, (.bool false)), (5, (.int .i64 0)), (2, (.int .u64 0)), (324, (.int .i64 0)), (6, (.int .u64 0))] 342 1 [(0, 342, (.t 15))], none⟩, ⟨(some 17), .app [(3, (.int .i64 0)), (2, (.bool false)), (5, (.int .i64 0)), (2, (.int .u64 0)), (324, (.int .i64 0)), (6, (.int .u64 0))] 342 2728 (.t 11) (.t 16), none⟩, ⟨(some 3), .mv (.t 17), none⟩])) (.reg [⟨(some 9), .mv (.t 4), none⟩, ⟨(some 10), .bin .add (.t 9) (.c (.int .i64 1)), none⟩, ⟨(some 4), .mv (.t 10), none⟩])))))) (.seq (.reg [⟨(some 18), .mv (.t 3), none⟩, ⟨(some 2), .mv (.t 18), none⟩]) .ret))))⟩
def c_ref11_Same : IFunc :=
  ⟨26, [.tmp 4], (.seq (.reg [⟨(some 4), .mv (.c (.bool false)), none⟩]) (.seq (.seq (.reg [⟨(some 6), .mv (.t 0), none⟩, ⟨(some 7), .lenS (.t 6), none⟩, ⟨(some 8), .mv (.t 1), none⟩, ⟨(some 9), .lenS (.t 8), none⟩, ⟨(some 10), .bin .neq (.t 7) (.t 9), none⟩]) (.cond (.t 10) (.seq (.reg [⟨(some 4), .mv (.c (.bool false)), none⟩]) .ret) .skip)) (.seq (.seq (.reg [⟨(some 5), .mv (.c (.int .i64 0)), none⟩]) (.block 0 (.loop (.seq (.seq (.reg [⟨(some 11), .mv (.t 5), none⟩, ⟨(some 12), .mv (.t 0), none⟩, ⟨(some 13), .lenS (.t 12), none⟩, ⟨(some 14), .bin .lss (.t 11) (.t 13), none⟩]) (.cond (.t 14) .skip (.exit 0))) (.seq (.block 1 (.seq (.dreg [⟨(some 17), .mv (.t 0), none⟩, ⟨(some 18), .mv (.t 5), none⟩, ⟨(some 19), .iadS 342 (.t 17) (.t 18), none⟩, ⟨(some 20), .ld (some 342) (.t 19), none⟩, ⟨(some 21), .mv (.t 1), none⟩, ⟨(some 22), .mv (.t 5), none⟩, ⟨(some 23), .iadS 342 (.t 21) (.t 22), none⟩, ⟨(some 24), .ld (some 342) (.t 23), none⟩, ⟨(some 25), .eqa true [(3, .i), (2, .b), (337, .i)] (.t 20) (.t 24), none⟩] [[], [], [0, 1], [2, 0, 1], [], [], [4, 5], [6, 4, 5], [3, 2, 0, 1, 7, 6, 4, 5]]) (.cond (.t 25) (.seq (.reg [⟨(some 4), .mv (.c (.bool false)), none⟩]) .ret) .skip))) (.reg [⟨(some 15), .mv (.t 5), none⟩, ⟨(some 16), .bin .add (.t 15) (.c (.int .i64 1)), none⟩, ⟨(some 5), .mv (.t 16), none⟩])))))) (.seq (.reg [⟨(some 4), .mv (.c (.bool true)), none⟩]) .ret))))⟩
theorem eqK_app : ∀ {k1 k2 : List LK} {x1 y1 x2 y2 : List Value} {r1 r2 : Bool}, eqK k1 x1 y1 = some r1 → eqK k2 x2 y2 = some r2 → eqK (k1 ++ k2) (x1 ++ x2) (y1 ++ y2) = some (r1 && r2)
  | [], k2, [], [], x2, y2, r1, r2, h1, h2 => by simp [eqK] at h1; subst h1; simpa using h2
  | k :: ks, k2, a :: x, b :: y, x2, y2, r1, r2, h1, h2 => by
    simp only [eqK] at h1
    split at h1 <;> try cases h1
    rename_i r q e1 e2
    have := eqK_app (x2 := x2) (y2 := y2) e2 h2
    simp [eqK, e1, this, Bool.and_assoc]
  | [], _, _ :: _, _, _, _, _, _, h1, _ => by simp [eqK] at h1
  | [], _, [], _ :: _, _, _, _, _, h1, _ => by simp [eqK] at h1
  | _ :: _, _, [], _, _, _, _, _, h1, _ => by simp [eqK] at h1
  | _ :: _, _, _ :: _, [], _, _, _, _, h1, _ => by simp [eqK] at h1
theorem eqK_selfI : ∀ (l : List Value), (∀ v ∈ l, ∃ k n, v = .int k n) → eqK (List.replicate l.length .i) l l = some true
  | [], _ => rfl
  | v :: l, h => by
    obtain ⟨k, n, rfl⟩ := h v (by simp)
    have := eqK_selfI l fun v hv => h v (by simp [hv])
    simp [List.replicate_succ, eqK, eq1K, this]
theorem eqN_runR {x y : Value} (u b v : Int) (w a : Bool) (e : Ent) (p : Flat) (hx : x = ntV u b v w a e p) (hy : y = ntV u b v w a e p) : x = .agg ⟨ntF u b v w a e p⟩ ∧ y = .agg ⟨ntF u b v w a e p⟩ ∧ eqK (unpackK [(3, .i), (2, .b), (337, .i)]) (ntF u b v w a e p) (ntF u b v w a e p) = some true := by
  refine ⟨hx, hy, ?_⟩
  have h1 : eqK [.i, .i, .i, .b, .b, .i, .i, .i, .i, .i, .i, .i] (ntH u b v w a e) (ntH u b v w a e) = some true := by simp [ntH, eqK, eq1K]
  have h2 : eqK (unpackK [(330, .i)]) (pl p) (pl p) = some true := by rw [eqP_eqK, eqP_self]
  exact (eqK_app (k1 := [.i, .i, .i, .b, .b, .i, .i, .i, .i, .i, .i, .i]) (k2 := unpackK [(330, .i)]) (x1 := ntH u b v w a e) (y1 := ntH u b v w a e) h1 h2).trans rfl
theorem as11C {P : Program} (hc : codeOf P "roundhouse/roundhouselaw11.as" = some c_law11_as) (l : List Nt) (q : Option Nat) (hq : q = none → l = []) (hl : l.length ≤ 1000) :
    Env P "roundhouse/roundhouselaw11.as" [slV 0 l.length q] ([slB zNt (ntsL l) q]) (fun v h' => ∃ q2 : Option Nat, (q2 = none → l = []) ∧ v = slV 1 l.length q2 ∧ h' = [slB zNt (ntsL l) q, slB zNt (ntsL l) q2]) := by
 refine Env.by2 hc ?_
 unfold c_law11_as
 show GC _ 1 _ _ ⟨reg [(0, slV 0 l.length q)], [slB zNt (ntsL l) q]⟩
 refine gseq ?_
 refine greg ?_
 refine o_d 1 [(2, .slice none 0 0)] (by kernel_rfl) ?_
 refine o_nil ?_
 refine seq_go ?_
 refine gseq ?_
 refine greg ?_
 refine o_d 1 [(3, .slice none 0 0)] (by kernel_rfl) ?_
 refine o_nil ?_
 refine seq_go ?_
 refine gseq ?_
 refine gseq ?_
 refine greg ?_
 refine o_d 1 [(4, iv 0)] (by kernel_rfl) ?_
 refine o_nil ?_
 refine seq_go ?_
 refine gblock ?_
 refine gloop (fun μ s => ∃ (i : Nat), ∃ (out : List Nt), ∃ (q2 : Option Nat), μ = l.length - i ∧ (i ≤ l.length) ∧ (out = l.take i) ∧ (q2 = none → i = 0) ∧ s = ⟨reg [(4, iv (i : Int)), (3, slV 1 i q2), (0, slV 0 l.length q)], [slB zNt (ntsL l) q, slB zNt (ntsL out) q2]⟩) ⟨(l.length - 0), ?_⟩ ?_
 ·skip
  refine ⟨⟨reg [(4, iv (0 : Int)), (3, slV 1 0 none), (0, slV 0 l.length q)], [slB zNt (ntsL l) q, slB zNt (ntsL ([] : List Nt)) none]⟩, ?_⟩
  refine ⟨?_, ?_⟩
  ·exact Wk.ren [0, 2] rfl rfl (by decide) ⟨rfl, ⟨rfl, ⟨((renV_slV q rfl)).trans rfl, trivial⟩⟩⟩ ⟨.inl (ren_slB q (fun _ => (ntsR_scl _ _))), ⟨.inr ⟨rfl, rfl⟩, trivial⟩⟩
  ·exact ⟨0, ([] : List Nt), none, rfl, (Nat.zero_le _), rfl, (fun _ => rfl), rfl⟩
 rintro μ s ⟨i, out, q2, rfl, hi, hout, hq2, rfl⟩
 refine gseq ?_
 refine gseq ?_
 refine greg ?_
 refine o_d 2 [(6, slV 0 l.length q), (5, iv (i : Int))] (by kernel_rfl) ?_
 refine o_s (by exact run_lenSl rfl (fun z => by rw [hq z]; rfl)) ?_
 refine o_d 1 [(8, bv (decide ((i : Int) < (l.length : Nat))))] (by kernel_rfl) ?_
 refine o_nil ?_
 refine seq_go ?_
 refine gcond (t := decide ((i : Int) < (l.length : Nat))) rfl (fun h1 => ?_) (fun h1 => ?_)
 ·skip
  have h1' : (i : Int) < (l.length : Nat) := of_decide_eq_true h1
  obtain ⟨x, hx, hdr, ht⟩ := get_of_lt (l := l) (i := i) (by omega)
  have hol : out.length = i := by rw [hout]; simp; omega
  refine gskip ?_
  refine seq_go ?_
  refine gseq ?_
  refine gblock ?_
  refine greg ?_
  refine o_d 3 [(13, iv (i : Int)), (12, slV 0 l.length q), (11, slV 1 i q2)] (by kernel_rfl) ?_
  refine o_s (by exact run_iadSl (o' := 342 * i) rfl (fun z => by rw [hq z]; rfl) rfl (by omega) (by omega)) ?_
  refine o_s (by refine run_ld (v := ntV x.u x.b x.v x.w x.a x.e x.p) rfl (hf_sl (n := l.length) rfl (fun z => by rw [hq z]; rfl) (by omega)) ?_; exact nts_r2 (i := i) (j := 0) (by omega) (hx) (nt_rL (nt_all x.u x.b x.v x.w x.a x.e x.p))) ?_
  refine o_s (by exact run_bsl1 rfl (ntF_length _ _ _ _ _ _ _)) ?_
  refine o_appC (k := 1) (n := i) (o := q2) (q := 1) (cs := ntsL out) (xs := ntF x.u x.b x.v x.w x.a x.e x.p) (cs2 := ntsL (out ++ [(⟨x.u, x.b, x.v, x.w, x.a, x.e, x.p⟩ : Nt)])) (zl := zNt) rfl rfl rfl (fun m q => by subst q; rfl) (fun z => by have h0 := hq2 z; subst h0; rw [hout]; exact ⟨rfl, rfl⟩) (by rw [ntsL_length]; first | omega | (simp; try omega)) rfl rfl (app_first rfl (nt_first x.u x.b x.v x.w x.a x.e x.p) (by simp [ntF_length])) (by rw [ntF_length]) (by omega) (by omega) (ntsL_app1 out x.u x.b x.v x.w x.a x.e x.p) (fun m2 e3 => ?_) (fun m2 => ?_)
  ·skip
   subst e3
   refine o_d 1 [(3, sv 1 0 (i + 1) (i + 1 + m2))] (by kernel_rfl) ?_
   refine o_nil ?_
   refine seq_go ?_
   refine greg ?_
   refine o_d 1 [(9, iv (i : Int))] (by kernel_rfl) ?_
   refine o_s (by refine run_val (v := .int .i64 (IntKind.i64.wrap ((i : Int) + 1))) (congrArg (Value.int .i64) (w64 (by omega) (by omega))) ?_; kernel_rfl) ?_
   refine o_d 1 [(4, iv ((i : Int) + 1))] (by kernel_rfl) ?_
   refine o_nil ?_
   refine ⟨l.length - (i + 1), ?_⟩
   refine ⟨⟨reg [(4, iv ((i + 1) : Int)), (3, slV 1 (i + 1) (some m2)), (0, slV 0 l.length q)], [slB zNt (ntsL l) q, slB zNt (ntsL (out ++ [(⟨x.u, x.b, x.v, x.w, x.a, x.e, x.p⟩ : Nt)])) (some m2)]⟩, ?_⟩
   refine and3 (by omega) ⟨?_, ?_⟩
   ·exact Wk.ren [0, 1] rfl rfl (by decide) ⟨rfl, ⟨rfl, ⟨((renV_slV q rfl)).trans rfl, trivial⟩⟩⟩ ⟨.inl (ren_slB q (fun _ => (ntsR_scl _ _))), ⟨.inl (ren_cells (ntsR_scl _ _)), trivial⟩⟩
   ·exact ⟨(i + 1), (out ++ [(⟨x.u, x.b, x.v, x.w, x.a, x.e, x.p⟩ : Nt)]), (some m2), rfl, by omega, (by rw [hout, ht]), (fun z => by cases z), rfl⟩
  refine o_d 1 [(3, sv 3 0 (i + 1) (i + 1 + m2))] (by kernel_rfl) ?_
  refine o_nil ?_
  refine seq_go ?_
  refine greg ?_
  refine o_d 1 [(9, iv (i : Int))] (by kernel_rfl) ?_
  refine o_s (by refine run_val (v := .int .i64 (IntKind.i64.wrap ((i : Int) + 1))) (congrArg (Value.int .i64) (w64 (by omega) (by omega))) ?_; kernel_rfl) ?_
  refine o_d 1 [(4, iv ((i : Int) + 1))] (by kernel_rfl) ?_
  refine o_nil ?_
  refine ⟨l.length - (i + 1), ?_⟩
  refine ⟨⟨reg [(4, iv ((i + 1) : Int)), (3, slV 1 (i + 1) (some m2)), (0, slV 0 l.length q)], [slB zNt (ntsL l) q, slB zNt (ntsL (out ++ [(⟨x.u, x.b, x.v, x.w, x.a, x.e, x.p⟩ : Nt)])) (some m2)]⟩, ?_⟩
  refine and3 (by omega) ⟨?_, ?_⟩
  ·exact Wk.ren [0, 3] rfl rfl (by decide) ⟨rfl, ⟨rfl, ⟨((renV_slV q rfl)).trans rfl, trivial⟩⟩⟩ ⟨.inl (ren_slB q (fun _ => (ntsR_scl _ _))), ⟨.inl (ren_cells (ntsR_scl _ _)), trivial⟩⟩
  ·exact ⟨(i + 1), (out ++ [(⟨x.u, x.b, x.v, x.w, x.a, x.e, x.p⟩ : Nt)]), (some m2), rfl, by omega, (by rw [hout, ht]), (fun z => by cases z), rfl⟩
 have h1' : ¬ ((i : Int) < (l.length : Nat)) := of_decide_eq_false h1
 refine gexit ?_
 refine seq_go ?_
 refine gseq ?_
 refine greg ?_
 refine o_d 2 [(2, slV 1 i q2), (18, slV 1 i q2)] (by kernel_rfl) ?_
 refine o_nil ?_
 refine seq_go ?_
 refine gret ?_
 exact ⟨trivial, ⟨reg [(2, slV 1 i q2)], [slB zNt (ntsL l) q, slB zNt (ntsL out) q2]⟩, Wk.ren [0, 1] rfl rfl (by decide) ⟨(renV_slV q2 rfl).trans rfl, trivial⟩ ⟨.inl (ren_slB q (fun _ => (ntsR_scl _ _))), ⟨.inl (ren_slB q2 (fun _ => (ntsR_scl _ _))), trivial⟩⟩, [slV 1 i q2], (resV_t rfl rfl), (tup_cons (isTup_slV _ _ _) tup_nil), q2, (fun z => by have h0 := hq2 z; refine List.eq_nil_of_length_eq_zero ?_; omega), (by rw [show i = l.length by omega]; rfl), (by rw [hout, show i = l.length by omega, List.take_length])⟩
theorem same11C {P : Program} (hc : codeOf P "roundhouse/roundhouseref11.Same" = some c_ref11_Same) (l : List Nt) (q q2 : Option Nat) (hq : q = none → l = []) (hq2 : q2 = none → l = []) (hl : l.length ≤ 1000) :
    Env P "roundhouse/roundhouseref11.Same" [slV 0 l.length q, slV 1 l.length q2] ([slB zNt (ntsL l) q, slB zNt (ntsL l) q2]) (fun v h' => v = bv true ∧ h' = [slB zNt (ntsL l) q, slB zNt (ntsL l) q2]) := by
 refine Env.by2 hc ?_
 unfold c_ref11_Same
 show GC _ 2 _ _ ⟨reg [(0, slV 0 l.length q), (1, slV 1 l.length q2)], [slB zNt (ntsL l) q, slB zNt (ntsL l) q2]⟩
 refine gseq ?_
 refine greg ?_
 refine o_d 1 [(4, bv false)] (by kernel_rfl) ?_
 refine o_nil ?_
 refine seq_go ?_
 refine gseq ?_
 refine gseq ?_
 refine greg ?_
 refine o_d 1 [(6, slV 0 l.length q)] (by kernel_rfl) ?_
 refine o_s (by exact run_lenSl rfl (fun z => by rw [hq z]; rfl)) ?_
 refine o_d 1 [(8, slV 1 l.length q2)] (by kernel_rfl) ?_
 refine o_s (by exact run_lenSl rfl (fun z => by rw [hq2 z]; rfl)) ?_
 refine o_s (by refine run_val (v := bv (((l.length : Nat) : Int) != ((l.length : Nat) : Int))) (congrArg Value.bool (bne_self_eq_false ((l.length : Nat) : Int))) ?_; kernel_rfl) ?_
 refine o_nil ?_
 refine seq_go ?_
 refine gfalse rfl ?_
 refine gskip ?_
 refine seq_go ?_
 refine gseq ?_
 refine gseq ?_
 refine greg ?_
 refine o_d 1 [(5, iv 0)] (by kernel_rfl) ?_
 refine o_nil ?_
 refine seq_go ?_
 refine gblock ?_
 refine gloop (fun μ s => ∃ (i : Nat), μ = l.length - i ∧ (i ≤ l.length) ∧ s = ⟨reg [(5, iv (i : Int)), (0, slV 0 l.length q), (1, slV 1 l.length q2)], [slB zNt (ntsL l) q, slB zNt (ntsL l) q2]⟩) ⟨(l.length - 0), ?_⟩ ?_
 ·skip
  refine ⟨⟨reg [(5, iv (0 : Int)), (0, slV 0 l.length q), (1, slV 1 l.length q2)], [slB zNt (ntsL l) q, slB zNt (ntsL l) q2]⟩, ?_⟩
  refine ⟨?_, ?_⟩
  ·exact Wk.ren [0, 1] rfl rfl (by decide) ⟨rfl, ⟨((renV_slV q rfl)).trans rfl, ⟨((renV_slV q2 rfl)).trans rfl, trivial⟩⟩⟩ ⟨.inl (ren_slB q (fun _ => (ntsR_scl _ _))), ⟨.inl (ren_slB q2 (fun _ => (ntsR_scl _ _))), trivial⟩⟩
  ·exact ⟨0, rfl, (Nat.zero_le _), rfl⟩
 rintro μ s ⟨i, rfl, hi, rfl⟩
 refine gseq ?_
 refine gseq ?_
 refine greg ?_
 refine o_d 2 [(12, slV 0 l.length q), (11, iv (i : Int))] (by kernel_rfl) ?_
 refine o_s (by exact run_lenSl rfl (fun z => by rw [hq z]; rfl)) ?_
 refine o_d 1 [(14, bv (decide ((i : Int) < (l.length : Nat))))] (by kernel_rfl) ?_
 refine o_nil ?_
 refine seq_go ?_
 refine gcond (t := decide ((i : Int) < (l.length : Nat))) rfl (fun h1 => ?_) (fun h1 => ?_)
 ·skip
  have h1' : (i : Int) < (l.length : Nat) := of_decide_eq_true h1
  obtain ⟨x, hx, hdr, ht⟩ := get_of_lt (l := l) (i := i) (by omega)
  refine gskip ?_
  refine seq_go ?_
  refine gseq ?_
  refine gblock ?_
  refine gseq ?_
  refine gdreg [] (by kernel_rfl) ?_
  refine r_d 2 [(18, iv (i : Int)), (17, slV 0 l.length q)] (by kernel_rfl) ?_
  refine r_s (by exact run_iadSl (o' := 342 * i) rfl (fun z => by rw [hq z]; rfl) rfl (by omega) (by omega)) ?_
  refine r_s (by refine run_ld (v := ntV x.u x.b x.v x.w x.a x.e x.p) rfl (hf_sl (n := l.length) rfl (fun z => by rw [hq z]; rfl) (by omega)) ?_; exact nts_r2 (i := i) (j := 0) (by omega) (hx) (nt_rL (nt_all x.u x.b x.v x.w x.a x.e x.p))) ?_
  refine r_d 2 [(22, iv (i : Int)), (21, slV 1 l.length q2)] (by kernel_rfl) ?_
  refine r_s (by exact run_iadSl (o' := 342 * i) rfl (fun z => by rw [hq2 z]; rfl) rfl (by omega) (by omega)) ?_
  refine r_s (by refine run_ld (v := ntV x.u x.b x.v x.w x.a x.e x.p) rfl (hf_sl (n := l.length) rfl (fun z => by rw [hq2 z]; rfl) (by omega)) ?_; exact nts_r2 (i := i) (j := 0) (by omega) (hx) (nt_rL (nt_all x.u x.b x.v x.w x.a x.e x.p))) ?_
  refine r_s (by refine run_eqa (a := ⟨ntF x.u x.b x.v x.w x.a x.e x.p⟩) (b := ⟨ntF x.u x.b x.v x.w x.a x.e x.p⟩) (r := true) (R := false) ?_ rfl; exact eqN_runR x.u x.b x.v x.w x.a x.e x.p rfl rfl) ?_
  refine r_nil ?_
  refine seq_go ?_
  refine gfalse rfl ?_
  refine gskip ?_
  refine seq_go ?_
  refine greg ?_
  refine o_d 1 [(15, iv (i : Int))] (by kernel_rfl) ?_
  refine o_s (by refine run_val (v := .int .i64 (IntKind.i64.wrap ((i : Int) + 1))) (congrArg (Value.int .i64) (w64 (by omega) (by omega))) ?_; kernel_rfl) ?_
  refine o_d 1 [(5, iv ((i : Int) + 1))] (by kernel_rfl) ?_
  refine o_nil ?_
  refine ⟨l.length - (i + 1), ?_⟩
  refine ⟨⟨reg [(5, iv ((i + 1) : Int)), (0, slV 0 l.length q), (1, slV 1 l.length q2)], [slB zNt (ntsL l) q, slB zNt (ntsL l) q2]⟩, ?_⟩
  refine and3 (by omega) ⟨?_, ?_⟩
  ·exact Wk.ren [0, 1] rfl rfl (by decide) ⟨rfl, ⟨((renV_slV q rfl)).trans rfl, ⟨((renV_slV q2 rfl)).trans rfl, trivial⟩⟩⟩ ⟨.inl (ren_slB q (fun _ => (ntsR_scl _ _))), ⟨.inl (ren_slB q2 (fun _ => (ntsR_scl _ _))), trivial⟩⟩
  ·exact ⟨(i + 1), rfl, by omega, rfl⟩
 have h1' : ¬ ((i : Int) < (l.length : Nat)) := of_decide_eq_false h1
 refine gexit ?_
 refine seq_go ?_
 refine gseq ?_
 refine greg ?_
 refine o_d 1 [(4, bv true)] (by kernel_rfl) ?_
 refine o_nil ?_
 refine seq_go ?_
 refine gret ?_
 exact ⟨trivial, ⟨reg [(4, bv true)], [slB zNt (ntsL l) q, slB zNt (ntsL l) q2]⟩, Wk.ren [0, 1] rfl rfl (by decide) ⟨rfl, trivial⟩ ⟨.inl (ren_slB q (fun _ => (ntsR_scl _ _))), ⟨.inl (ren_slB q2 (fun _ => (ntsR_scl _ _))), trivial⟩⟩, [bv true], (resV_t rfl rfl), (tup_cons rfl tup_nil), rfl, rfl⟩
end Go.Rh
