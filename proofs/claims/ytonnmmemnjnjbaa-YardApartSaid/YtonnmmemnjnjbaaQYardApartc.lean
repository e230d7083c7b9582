/- The proofs zeB the intermediate form, part QYardApartc. -/
import Derived.Test.YtonnmmemnjnjbaaQYardApartb
import Derived.Test.YtonnmmemnjnjbaaQYardAparta
open Go.IntKind (i64)
set_option linter.unusedVariables false
set_option linter.unusedSimpArgs false
set_option maxRecDepth 100000
set_option maxHeartbeats 8000000
namespace Go.Rh
theorem resV_pool {s : St} {t u k : Nat} {d : qO} {v : Value} {rw : Bool} (h4 : s.f t = .pointer (some ⟨k, 0, none⟩)) (hh : hf s.h k = some (.cells (pl d) rw)) (h5 : s.f u = v) : zfD s [.cell t (some 330), .tmp u] = some [qG d, v] := by
 simp only [zfD, ldV, h4, hh, zaU, h5, Option.map_some]
theorem zev (d : qO) : splice (qI zP) 0 (pl d) = pl d := zc5 (by rw [ziN, zN, zN])
theorem zae (c d : qO) : splice (pl c) 0 (pl d) = pl d := zc5 (by rw [zN, zN])
theorem zlen : (qI zP).length = 330 := by rw [ziN, zN]
theorem ApplyC {P : Program} (hc : zaI P) (hmay : zaP P) (hheld : zaG P) (hfits : zaM P)
    (hcheck : zaB P) (hpl : zai P) (hnext : zaq P) (c : qO) (e : Ent) :
    Env P "roundhouse/pool.Apply" [qG c, qH e] [] (Ans (.tuple #[qG (z2 c e).1, .int .i64 (z2 c e).2]) []) := by
  refine Env.of hc ?_
  unfold wpF zfl
  have fin : ∀ (d : qO) (x : Int) (rw : Bool) (s : St), z2 c e = (d, x) → s.f 4 = .pointer (some ⟨2, 0, none⟩) → hf s.h 2 = some (.cells (pl d) rw) → s.f 5 = .int .i64 x →
      True ∧ ∃ l', zfD s [.cell 4 (some 330), .tmp 5] = some l' ∧ (∀ v ∈ l', zbG v = false) ∧ (Ans (.tuple #[qG (z2 c e).1, .int .i64 (z2 c e).2]) [] (one l') s.h ∨ (vpf (one l') = true ∧ (∀ b ∈ s.h.take 0, ziT b = true) ∧ Ans (.tuple #[qG (z2 c e).1, .int .i64 (z2 c e).2]) [] (one l') (s.h.take 0))) := by
    intro d x rw s hd h4 hh h5
    refine zar [qG d, .int .i64 x] (resV_pool h4 hh h5) ?_ ?_ rfl rfl
    · rw [List.all_cons, zaL]; rfl
    · rw [hd]; rfl
  have hb3 : ∀ d : qO, ([.cells (pl d) true, .cells (eL e) true, .cells (qI zP) true] : List Blk).all (bbel 3) = true := by
    intro d; simp [bbel, zgE, eL, zhO, ziN]
  refine zL (s' := _) rfl (zh8 [(2, .pointer (some ⟨0, 0, none⟩)), (3, .pointer (some ⟨1, 0, none⟩)), (4, .pointer (some ⟨2, 0, none⟩))] [.cells (pl c) true, .cells (eL e) true, .cells (qI zP) true] (Nat.zero_le _) rfl ⟨⟨rfl, rfl⟩, ⟨rfl, rfl⟩, ⟨rfl, rfl⟩, trivial⟩ (hb3 c) ?_)
  -- what is refused
  have hbld : ∀ (e' : Opd → Value) (h : Nat → Option Blk) (n : Nat), zQ (.bld [(324, .int .i64 0), (6, .int .u64 0)] []) e' h n = some (qG zH, .no) := by
    intro e' h n
    show some (Value.agg (qI zP).toArray, Eff.no) = _
    rw [ziN]; rfl
  refine qF (qF (zac (s' := _) 1 rfl (zbX (zeO (CheckC hcheck hpl e) rfl rfl rfl (zL (s' := _) rfl (zC (qF (zL (s' := _) rfl (zC (qS (t := zcc e != 0) rfl (fun h1 => ?_) (fun h1 => ?_)))))))))))
  · have h1 : zcc e ≠ 0 := by simpa using h1
    refine qF (zc2 (v := qG zH) (e := .no) rfl (hbld _ _ _) (zac (s' := _) 1 rfl (zbJ (c := qI zP) (c' := pl zH) rfl rfl rfl (zN _) (by rw [zlen]; omega) (zev _) ?_)))
    exact zL (s' := _) rfl (zC (fin zH (zcc e) true _ (by simp [z2, errS, h1]) rfl rfl rfl))
  have h1 : zcc e = 0 := by simpa using h1
  have hs : 0 ≤ e.s ∧ e.s < 64 := by
    unfold zcc at h1
    split at h1
    · cases h1
    · split at h1
      · cases h1
      · omega
  have hk6 : 1 ≤ e.k ∧ e.k ≤ 6 := by
    unfold zcc at h1
    split at h1
    · cases h1
    · omega
  refine zh8 [(2, .pointer (some ⟨0, 0, none⟩)), (3, .pointer (some ⟨1, 0, none⟩)), (4, .pointer (some ⟨2, 0, none⟩))] [.cells (pl c) true, .cells (eL e) true, .cells (qI zP) true] (Nat.zero_le _) rfl ⟨⟨rfl, rfl⟩, ⟨rfl, rfl⟩, ⟨rfl, rfl⟩, trivial⟩ (hb3 c) (qF (qF (zcq (v := qG c) rfl rfl (zaU c) (zac (s' := _) 1 rfl (zbX (zeO (fitsC hfits hmay hheld c e hs) rfl ?_ rfl ?_))))))
  · rw [List.all_cons, zaA]; rfl
  refine zL (s' := _) rfl (zC (qF (zL (s' := _) rfl (zC (qS (t := zix c e != 0) rfl (fun h2 => ?_) (fun h2 => ?_))))))
  · have h2 : zix c e ≠ 0 := by simpa using h2
    refine qF (zc2 (v := qG zH) (e := .no) rfl (hbld _ _ _) (zac (s' := _) 1 rfl (zbJ (c := qI zP) (c' := pl zH) rfl rfl rfl (zN _) (by rw [zlen]; omega) (zev _) ?_)))
    exact zL (s' := _) rfl (zC (fin zH (zix c e) true _ (by simp [z2, errS, h1, h2]) rfl rfl rfl))
  have h2 : zix c e = 0 := by simpa using h2
  refine zh8 [(2, .pointer (some ⟨0, 0, none⟩)), (3, .pointer (some ⟨1, 0, none⟩)), (4, .pointer (some ⟨2, 0, none⟩))] [.cells (pl c) true, .cells (eL e) true, .cells (qI zP) true] (Nat.zero_le _) rfl ⟨⟨rfl, rfl⟩, ⟨rfl, rfl⟩, ⟨rfl, rfl⟩, trivial⟩ (hb3 c) ?_
  obtain ⟨k, hk⟩ : ∃ k, k = e.s.toNat := ⟨_, rfl⟩
  have hk64 : k < 64 := by omega
  generalize hd : upd c 0 (i64.wrap (c 0 + 1)) = d
  refine qF (zac (s' := _) 4 rfl (zbJ (c := pl c) (c' := pl d) rfl rfl rfl rfl (by rw [zN]; omega) (by rw [← hd]; exact zc4 c (by omega) _) ?_))
  refine zh8 [(2, .pointer (some ⟨0, 0, none⟩)), (3, .pointer (some ⟨1, 0, none⟩)), (4, .pointer (some ⟨2, 0, none⟩))] [.cells (pl d) true, .cells (eL e) true, .cells (qI zP) true] (Nat.zero_le _) rfl ⟨⟨rfl, rfl⟩, ⟨rfl, rfl⟩, ⟨rfl, rfl⟩, trivial⟩ (hb3 d) (qF (zac (s' := _) 3 rfl (zi5 (n := e.s) rfl rfl (by omega) (zL (s' := _) rfl ?_))))
  rw [← hk]
  refine zh8 [(2, .pointer (some ⟨0, 0, none⟩)), (3, .pointer (some ⟨1, 0, none⟩)), (4, .pointer (some ⟨2, 0, none⟩)), (8, .pointer (some ⟨0, 0 + 3 + k * 5, none⟩))] [.cells (pl d) true, .cells (eL e) true, .cells (qI zP) true] (Nat.zero_le _) rfl ⟨⟨rfl, rfl⟩, ⟨rfl, rfl⟩, ⟨rfl, rfl⟩, ⟨rfl, rfl⟩, trivial⟩ (hb3 d) (zh0 (fun s => s = ⟨reg [(2, .pointer (some ⟨0, 0, none⟩)), (4, .pointer (some ⟨2, 0, none⟩))], [.cells (pl (zeX c e)) true, .cells (eL e) true, .cells (qI zP) true]⟩) ?_ ?_)
  · have ok : ∀ (d' : qO) (s : St), zeX c e = d' → s.f 2 = .pointer (some ⟨0, 0, none⟩) → s.f 4 = .pointer (some ⟨2, 0, none⟩) → s.h.take 3 = [.cells (pl d') true, .cells (eL e) true, .cells (qI zP) true] →
        ∃ s0, Wk 0 s s0 ∧ s0 = ⟨reg [(2, .pointer (some ⟨0, 0, none⟩)), (4, .pointer (some ⟨2, 0, none⟩))], [.cells (pl (zeX c e)) true, .cells (eL e) true, .cells (qI zP) true]⟩ := by
      intro d' s hd' h2 h4 hh
      refine ⟨_, Wk.to (l := [(2, .pointer (some ⟨0, 0, none⟩)), (4, .pointer (some ⟨2, 0, none⟩))]) (hs := [.cells (pl (zeX c e)) true, .cells (eL e) true, .cells (qI zP) true]) (Nat.zero_le _) (by rw [hd']; exact hh) ⟨⟨h2, rfl⟩, ⟨h4, rfl⟩, trivial⟩ ?_, rfl⟩
      simp [bbel, zgE, eL, zhO, ziN]
    refine qF (zL (s' := _) rfl (zC (zdk (qF (zL (s' := _) rfl (zC (qS (t := e.k == 1) rfl (fun h3 => ?_) (fun h3 => ?_))))))))
    · have h3 := eq_of_beq h3
      refine zac (s' := _) 9 rfl (zbJ (c := pl d) (c' := pl (zc6 d k 1 e.a e.p e.g 0)) rfl rfl rfl rfl (by rw [zN]; omega) ?_ ?_)
      · rw [show 0 + 3 + k * 5 = 3 + 5 * k by omega]; exact zh4 d hk64 1 e.a e.p e.g 0
      exact ok _ _ (by simp [zeX, h3, hd, ← hk]) rfl rfl rfl
    have h3 : e.k ≠ 1 := by simpa using h3
    refine qF (zL (s' := _) rfl (zC (qS (t := e.k == 2) rfl (fun h4 => ?_) (fun h4 => ?_))))
    · have h4 := eq_of_beq h4
      refine zac (s' := _) 3 rfl (zbJ (c := pl d) (c' := pl (upd d (3 + 5 * k) 2)) rfl rfl rfl rfl (by rw [zN]; omega) ?_ ?_)
      · rw [show 0 + 3 + k * 5 + 0 = 3 + 5 * k by omega]; exact zc4 d (by omega) 2
      exact ok _ _ (by simp [zeX, h4, hd, ← hk]) rfl rfl rfl
    have h4 : e.k ≠ 2 := by simpa using h4
    refine qF (zL (s' := _) rfl (zC (qS (t := e.k == 3) rfl (fun h5 => ?_) (fun h5 => ?_))))
    · have h5 := eq_of_beq h5
      refine zac (s' := _) 3 rfl (zbJ (c := pl d) (c' := pl (upd d (3 + 5 * k) 3)) rfl rfl rfl rfl (by rw [zN]; omega) ?_ ?_)
      · rw [show 0 + 3 + k * 5 + 0 = 3 + 5 * k by omega]; exact zc4 d (by omega) 3
      exact ok _ _ (by simp [zeX, h5, hd, ← hk]) rfl rfl rfl
    have h5 : e.k ≠ 3 := by simpa using h5
    refine qF (zL (s' := _) rfl (zC (qS (t := e.k == 4) rfl (fun h6 => ?_) (fun h6 => ?_))))
    · have h6 := eq_of_beq h6
      refine zac (s' := _) 4 rfl (zcq (v := .int .i64 (d 323)) rfl rfl ?_ ?_)
      · simp only [zam]; exact zhR d (by omega)
      refine zac (s' := _) 2 rfl (zbJ (c := pl d) (c' := pl (upd d (3 + 5 * k) 4)) rfl rfl rfl rfl (by rw [zN]; omega) ?_ ?_)
      · exact (congrArg (fun o => splice (pl d) o [.int .i64 4]) (show 0 + 3 + k * 5 + 0 = 3 + 5 * k by omega)).trans (zc4 d (by omega) 4)
      refine zac (s' := _) 2 rfl (zbJ (c := pl (upd d (3 + 5 * k) 4)) (c' := pl (upd (upd d (3 + 5 * k) 4) (3 + 5 * k + 4) (d 323))) rfl rfl rfl rfl (by rw [zN]; omega) ?_ ?_)
      · exact (congrArg (fun o => splice (pl (upd d (3 + 5 * k) 4)) o [.int .i64 (d 323)]) (show 0 + 3 + k * 5 + 4 = 3 + 5 * k + 4 by omega)).trans (zc4 _ (by omega) _)
      have hdone : zeX c e = upd (upd d (3 + 5 * k) 4) (3 + 5 * k + 4) (d 323) := by
        have : d 323 = c 323 := by rw [← hd]; simp [upd]
        rw [this, ← hd, hk]; simp [zeX, h6]
      exact ok _ _ hdone rfl rfl rfl
    have h6 : e.k ≠ 4 := by simpa using h6
    refine qF (zL (s' := _) rfl (zC (qS (t := e.k == 5) rfl (fun h7 => ?_) (fun h7 => ?_))))
    · have h7 := eq_of_beq h7
      refine zac (s' := _) 3 rfl (zbJ (c := pl d) (c' := pl (zc6 d k 0 0 0 0 0)) rfl rfl rfl rfl (by rw [zN]; omega) ?_ ?_)
      · rw [show 0 + 3 + k * 5 = 3 + 5 * k by omega]; exact zh4 d hk64 0 0 0 0 0
      exact ok _ _ (by simp [zeX, h7, hd, ← hk]) rfl rfl rfl
    have h7 : e.k ≠ 5 := by simpa using h7
    refine qF (zL (s' := _) rfl (zC (qS (t := e.k == 6) rfl (fun h8 => ?_) (fun h8 => ?_))))
    · have h8 := eq_of_beq h8
      refine zac (s' := _) 1 rfl (zcq (v := ringV d) rfl rfl (pl_ring d) (zac (s' := _) 2 rfl (zbX (zeO (nextC hnext) rfl rfl rfl (zac (s' := _) 1 rfl (zbJ (c := pl d) (c' := pl (nextS d e.ka e.kb)) rfl rfl rfl rfl (by rw [zN]; omega) (zh5 d _ _ _ _ _ _ _) ?_))))))
      exact ok _ _ (by simp [zeX, h8, hd]) rfl rfl rfl
    · have h8 : e.k ≠ 6 := by simpa using h8
      omega
  · rintro s rfl
    refine qF (zcq (v := qG (zeX c e)) rfl rfl (zaU _) (zbJ (c := qI zP) (c' := pl (zeX c e)) rfl rfl rfl (zN _) (by rw [zlen]; omega) (zev _) ?_))
    exact zL (s' := _) rfl (zC (fin (zeX c e) 0 true _ (by simp [z2, errS, h1, h2]) rfl rfl rfl))
end Go.Rh

set_option maxHeartbeats 8000000
namespace Go.Rh
end Go.Rh

namespace Go.Rh
theorem pl_r (c : qO) {o : Nat} (i : Nat) (ho : o = i) (h : i < 324) : zam none (pl c) o = some (.int .i64 (c i)) := by subst ho; exact zhR c h
def zfV (c : qO) : Value := .agg ⟨ze0 c⟩
theorem slotsV_scl (c : qO) : (ze0 c).all zbz = true := take_scl (drop_scl (za7 c) 3) 320
theorem zfA (c : qO) : vpf (zfV c) = true := slotsV_scl c
theorem pl_rA (c : qO) : zam (some 320) (pl c) 3 = some (zfV c) := by
 unfold zam
 simp only []
 rw [if_pos (by rw [zN]; omega)]
 rfl
theorem slots_r (c : qO) {o : Nat} (k : Nat) (ho : o = 5 * k) (h : k < 64) : zam (some 5) (ze0 c) o = some (slotV c k) := by
 subst ho; rw [Nat.mul_comm]; exact zh7 c h
theorem zeW {c : qO} {m : Nat} (h : m ≤ 330) : m ≤ (pl c).length := by rw [zN]; exact h
def eqN (n : Nat) (a b : qO) : Bool := decide (∀ k, k < n → a k = b k)
def eqP (a b : qO) : Bool := eqN 330 a b
theorem eqP_plF (a b : qO) : ∀ n i, eqK (List.replicate n .i) (plF a i n) (plF b i n) = some (decide (∀ k, k < n → a (i + k) = b (i + k)))
 | 0, i => by simp [eqK, plF]
 | n + 1, i => by
  simp only [List.replicate_succ, plF, eqK, eq1K, if_true, eqP_plF a b n (i + 1)]
  congr 1
  rw [Bool.eq_iff_iff]
  simp only [Bool.and_eq_true, beq_iff_eq, decide_eq_true_eq]
  constructor
  ·rintro ⟨h1, h2⟩ k hk
   cases k with
   | zero => exact h1
   | succ k => have := h2 k (by omega); rwa [show i + 1 + k = i + (k + 1) by omega] at this
  ·intro h
   refine ⟨h 0 (by omega), fun k hk => ?_⟩
   have := h (k + 1) (by omega)
   rwa [show i + (k + 1) = i + 1 + k by omega] at this
theorem eqP_eqK (a b : qO) : eqK (zcO [(330, .i)]) (pl a) (pl b) = some (eqP a b) := by
 have h := eqP_plF a b 330 0
 have h : eqK (List.replicate 330 LK.i) (plF a 0 330) (plF b 0 330) = some (eqP a b) := by rw [h]; simp only [Nat.zero_add]; rfl
 have e : zcO [(330, .i)] = List.replicate 330 LK.i := by simp [zcO]
 rw [e]; exact h
theorem eqP_run {x y : Value} (a b : qO) (hx : x = qG a) (hy : y = qG b) : x = .agg ⟨pl a⟩ ∧ y = .agg ⟨pl b⟩ ∧ eqK (zcO [(330, .i)]) (pl a) (pl b) = some (eqP a b) := ⟨hx, hy, eqP_eqK a b⟩
theorem bld_zP : zdO (qI zP) [] = some (pl zH) := congrArg some ziN
end Go.Rh

set_option maxHeartbeats 8000000
namespace Go.Rh
end Go.Rh

set_option maxHeartbeats 8000000
namespace Go.Rh
def zaF : qO → List Ent → Nat → qO × Nat × Int
 | c, [], i => (c, i, 0)
 | c, e :: r, i => if (z2 c e).2 = 0 then zaF (z2 c e).1 r (i + 1) else (c, i, (z2 c e).2)
structure Codes (P : Program) : Prop where
  apply : zaI P
  may : zaP P
  held : zaG P
  fits : zaM P
  check : zaB P
  placed : zai P
  next : zaq P
theorem Codes.applyC {P : Program} (H : Codes P) (c : qO) (e : Ent) : Env P "roundhouse/pool.Apply" [qG c, qH e] [] (Ans (.tuple #[qG (z2 c e).1, .int .i64 (z2 c e).2]) []) :=
 ApplyC H.apply H.may H.held H.fits H.check H.placed H.next c e
theorem AllC {P : Program} (hc : zcH P) (H : Codes P) (c : qO) (es : List Ent) (cs : List Value) (o cap : Nat) (hcs : cs.all zbz = true) (hes : ∀ (i : Nat) e, es[i]? = some e → zam (some 7) cs (o + i * 7) = some (qH e)) (hn : es.length ≤ 1000000) :
  Env P "roundhouse/pool.All" [qG c, .slice (some ⟨0, o, none⟩) es.length cap] [.cells cs false] (Ans (.tuple #[qG (zaF c es 0).1, .int .i64 (zaF c es 0).2.1, .int .i64 (zaF c es 0).2.2]) [.cells cs false]) := by
 refine Env.of hc ?_
 unfold wpF zfP
 have hblk : ([.cells cs false] : List Blk).all ziT = true := by simpa [ziT] using hcs
 have fin : ∀ (d : qO) (n : Nat) (x : Int) (s : St), zaF c es 0 = (d, n, x) → s.f 4 = .pointer (some ⟨2, 0, none⟩) → hf s.h 2 = some (.cells (pl d) true) → s.f 5 = .int .i64 n → s.f 6 = .int .i64 x → s.h.take 1 = [.cells cs false] →
   True ∧ ∃ l', zfD s [.cell 4 (some 330), .tmp 5, .tmp 6] = some l' ∧ (∀ v ∈ l', zbG v = false) ∧ (Ans (.tuple #[qG (zaF c es 0).1, .int .i64 (zaF c es 0).2.1, .int .i64 (zaF c es 0).2.2]) [.cells cs false] (one l') s.h ∨ (vpf (one l') = true ∧ (∀ b ∈ s.h.take 1, ziT b = true) ∧ Ans (.tuple #[qG (zaF c es 0).1, .int .i64 (zaF c es 0).2.1, .int .i64 (zaF c es 0).2.2]) [.cells cs false] (one l') (s.h.take 1))) := by
  intro d n x s hd h4 hh h5 h6 ht
  refine zar [qG d, .int .i64 n, .int .i64 x] ?_ ?_ (by rw [hd]; rfl) ht hblk
  ·simp only [zfD, ldV, h4, hh, zaU, h5, h6, Option.map_some]
  ·rw [List.all_cons, zaL]; rfl
 have hb3 : ∀ d : qO, ([.cells cs false, .cells (pl d) true, .cells (qI zP) true] : List Blk).all (bbel 3) = true := by
  intro d; simp [bbel, zgE, ziN, zdW hcs]
 refine zL (s' := _) rfl (zC (qF (qF (zL (s' := _) rfl (zC ?_)))))
 refine ⟨fun m s => ∃ (i : Nat) (d : qO), i ≤ es.length ∧ m = es.length - i ∧ zaF d (es.drop i) i = zaF c es 0 ∧ s = ⟨reg [(1, .slice (some ⟨0, o, none⟩) es.length cap), (2, .pointer (some ⟨1, 0, none⟩)), (4, .pointer (some ⟨2, 0, none⟩)), (11, .slice (some ⟨0, o, none⟩) es.length cap), (12, .int .i64 es.length), (13, .int .i64 i)], [.cells cs false, .cells (pl d) true, .cells (qI zP) true]⟩,
  ⟨es.length, _, Wk.to (l := [(1, .slice (some ⟨0, o, none⟩) es.length cap), (2, .pointer (some ⟨1, 0, none⟩)), (4, .pointer (some ⟨2, 0, none⟩)), (11, .slice (some ⟨0, o, none⟩) es.length cap), (12, .int .i64 es.length), (13, .int .i64 (0 : Nat))]) (hs := [.cells cs false, .cells (pl c) true, .cells (qI zP) true]) (by simp) rfl ⟨⟨rfl, rfl⟩, ⟨rfl, rfl⟩, ⟨rfl, rfl⟩, ⟨rfl, rfl⟩, ⟨rfl, rfl⟩, ⟨rfl, rfl⟩, trivial⟩ (hb3 c), 0, c, Nat.zero_le _, rfl, rfl, rfl⟩, ?_⟩
 rintro m s ⟨i, d, hi, rfl, hf, rfl⟩
 refine zL (s' := _) rfl (zC (qF (qS (t := decide ((i : Int) < (es.length : Int))) rfl (fun ht => ?_) (fun ht => ?_))))
 ·have ht : i < es.length := by have := of_decide_eq_true ht; omega
  refine zC ?_
  obtain ⟨e, he⟩ : ∃ e, es[i]? = some e := ⟨es[i], by simp [ht]⟩
  have hdrop : es.drop i = e :: es.drop (i + 1) := by
   rw [List.drop_eq_getElem_cons ht]
   have : es[i]? = some es[i] := by simp [ht]
   rw [he] at this; rw [Option.some.inj this]
  refine qF (zdk (qF (zac (s' := _) 1 rfl (zi4 (n := i) rfl rfl (by omega) (zcq (v := qH e) rfl rfl (hes i e he) ?_)))))
  refine zL (s' := _) rfl (zh8 [(1, .slice (some ⟨0, o, none⟩) es.length cap), (2, .pointer (some ⟨1, 0, none⟩)), (4, .pointer (some ⟨2, 0, none⟩)), (7, .int .i64 i), (8, .pointer (some ⟨3, 0, none⟩)), (11, .slice (some ⟨0, o, none⟩) es.length cap), (12, .int .i64 es.length), (13, .int .i64 i)] [.cells cs false, .cells (pl d) true, .cells (qI zP) true, .cells (eL e) true] (by simp) rfl ⟨⟨rfl, rfl⟩, ⟨rfl, rfl⟩, ⟨rfl, rfl⟩, ⟨rfl, rfl⟩, ⟨rfl, rfl⟩, ⟨rfl, rfl⟩, ⟨rfl, rfl⟩, ⟨rfl, rfl⟩, trivial⟩ (by simp [bbel, zgE, ziN, zdW hcs, eL, zhO]) ?_)
  generalize hq : z2 d e = q
  have hC := H.applyC d e
  rw [hq] at hC
  refine qF (zcq (v := qG d) rfl rfl (zaU d) (zac (s' := _) 1 rfl (zbX (zeO hC rfl ?_ ?_ ?_))))
  ·rw [List.all_cons, zaA]; rfl
  ·show (([qG q.1, .int .i64 q.2] : List Value).all zi1) = true
   rw [List.all_cons, zaL]; rfl
  refine zac (s' := _) 4 rfl (zbJ (c := qI zP) (c' := pl q.1) rfl rfl rfl (zN _) (by rw [zlen]; omega) (zev _) ?_)
  refine zL (s' := _) rfl (zh8 [(1, .slice (some ⟨0, o, none⟩) es.length cap), (2, .pointer (some ⟨1, 0, none⟩)), (4, .pointer (some ⟨2, 0, none⟩)), (7, .int .i64 i), (9, .pointer (some ⟨4, 0, none⟩)), (10, .int .i64 q.2), (11, .slice (some ⟨0, o, none⟩) es.length cap), (12, .int .i64 es.length), (13, .int .i64 i)] [.cells cs false, .cells (pl d) true, .cells (qI zP) true, .cells (eL e) true, .cells (pl q.1) true] (by simp) rfl ⟨⟨rfl, rfl⟩, ⟨rfl, rfl⟩, ⟨rfl, rfl⟩, ⟨rfl, rfl⟩, ⟨rfl, rfl⟩, ⟨rfl, rfl⟩, ⟨rfl, rfl⟩, ⟨rfl, rfl⟩, ⟨rfl, rfl⟩, trivial⟩ (by simp [bbel, zgE, ziN, zdW hcs, eL, zhO]) ?_)
  refine qF (qF (zL (s' := _) rfl (zC (qS (t := q.2 != 0) rfl (fun h1 => ?_) (fun h1 => ?_)))))
  ·have h1 : q.2 ≠ 0 := by simpa using h1
   refine qF (zcq (v := qG d) rfl rfl (zaU d) (zac (s' := _) 2 rfl (zbJ (c := qI zP) (c' := pl d) rfl rfl rfl (zN _) (by rw [zlen]; omega) (zev _) ?_)))
   refine zL (s' := _) rfl (zC (fin d i q.2 _ ?_ rfl rfl rfl rfl rfl))
   rw [← hf, hdrop]; simp [zaF, hq, h1]
  ·have h1 : q.2 = 0 := by simpa using h1
   refine zC (zcq (v := qG q.1) rfl rfl (zaU q.1) (zbJ (c := pl d) (c' := pl q.1) rfl rfl rfl (zN _) (by rw [zN]; omega) (zae _ _) (zC ?_)))
   refine zL (s' := _) rfl (⟨es.length - (i + 1), _, by omega, Wk.to (l := [(1, .slice (some ⟨0, o, none⟩) es.length cap), (2, .pointer (some ⟨1, 0, none⟩)), (4, .pointer (some ⟨2, 0, none⟩)), (11, .slice (some ⟨0, o, none⟩) es.length cap), (12, .int .i64 es.length), (13, .int .i64 (i + 1 : Nat))]) (hs := [.cells cs false, .cells (pl q.1) true, .cells (qI zP) true]) (by simp) rfl ⟨⟨rfl, rfl⟩, ⟨rfl, rfl⟩, ⟨rfl, rfl⟩, ⟨rfl, rfl⟩, ⟨rfl, rfl⟩, ⟨?_, rfl⟩, trivial⟩ (hb3 q.1), i + 1, q.1, by omega, rfl, ?_, rfl⟩)
   ·exact congrArg (Value.int .i64) (w64 (by omega) (by omega))
   ·rw [← hf, hdrop]; simp [zaF, hq, h1]
 ·have ht : ¬ i < es.length := by have := of_decide_eq_false ht; omega
  have : i = es.length := by omega
  subst this
  refine zC (qF (zcq (v := qG d) rfl rfl (zaU d) (zac (s' := _) 2 rfl (zbJ (c := qI zP) (c' := pl d) rfl rfl rfl (zN _) (by rw [zlen]; omega) (zev _) ?_))))
  refine zL (s' := _) rfl (zC (fin d es.length 0 _ ?_ rfl rfl rfl rfl rfl))
  rw [← hf, List.drop_length]; rfl
end Go.Rh

namespace Go.Rh
def zhm : IFunc := ⟨25, [.cell 8 (some 330), .tmp 9], (.seq (.reg [kq 6 (.box (.t 2)), kq 7 (.box (.t 3)), kq 8 (.new kA), kq 9 (.mv (ki 0))]) (.seq (.seq (.reg [km 10 0, kq 11 (.call "roundhouse/roundhouseref6.out" [(.t 10), (ki 0), (ki 4294967295)]), km 12 11, kg 13 (.mv (.t 1)) 12 false, kg 14 (.call "roundhouse/roundhouseref6.out" [(.t 13), (ki 0), (ki 65535)]) 12 false, kq 15 (.pick (.t 12) kT (.t 14))]) (.cond (.t 15) (.seq (.reg [kq 16 (.bld kA []), ku (.st 330 (.t 8) (.t 16)), kq 9 (.mv (ki 14))]) .ret) .skip)) (.seq (.reg [km 17 0, km 18 1, kq 19 (.bld [(2, (.int .u64 0))] []), kq 20 (.ld (some 2) (.t 6)), kq 21 (.ld (some 2) (.t 7)), kq 22 (.bsl [(2, (.int .u64 0))] 2 3 [(0, 2, (.t 19)), (2, 2, (.t 20)), (4, 2, (.t 21))]), kq 23 (.call "roundhouse/roundhouseref5.Ring" [(ki 1), (.t 22)]), kq 24 (.bld kA [(1, 1, (.t 17)), (2, 1, (.t 18)), (323, 7, (.t 23))]), ku (.st 330 (.t 8) (.t 24)), kq 9 (.mv (ki 0))]) .ret)))⟩
abbrev zfJ (P : Program) : Prop := zX P "roundhouse/roundhouseref6.New" = some zhm
def zfj : IFunc := ⟨85, [.cell 4 (some 330), .tmp 5], (.seq (.reg [kq 2 (.box (.t 0)), kq 3 (.box (.t 1)), kq 4 (.new kA), kq 5 (.mv (ki 0))]) (.seq (.seq (.reg [kq 8 (.ld (some 7) (.t 3)), kq 9 (.call "roundhouse/roundhouseref6.Check" [(.t 8)]), km 6 9]) (.seq (.reg [km 10 6, kq 11 (.bin .neq (.t 10) (ki 0))]) (.cond (.t 11) (.seq (.reg [kq 12 (.bld kA []), km 13 6, ku (.st 330 (.t 4) (.t 12)), km 5 13]) .ret) .skip))) (.seq (.seq (.reg [kq 14 (.ld (some 330) (.t 2)), kq 15 (.ld (some 7) (.t 3)), kq 16 (.call "roundhouse/roundhouseref6.bad" [(.t 14), (.t 15)])]) (.cond (.t 16) (.seq (.reg [kq 17 (.bld kA []), ku (.st 330 (.t 4) (.t 17)), kq 5 (.mv (ki 12))]) .ret) .skip)) (.seq (.seq (.dreg [kq 18 (.fad 0 (.t 3)), kq 19 (.ld none (.t 18)), kq 20 (.bin .eql (.t 19) (ki 5)), km 21 20, kg 22 (.fad 323 (.t 2)) 21 true, kg 23 (.fad 0 (.t 22)) 21 true, kg 24 (.ld none (.t 23)) 21 true, kg 25 (.fad 1 (.t 3)) 21 true, kg 26 (.ld none (.t 25)) 21 true, kg 27 (.fad 3 (.t 2)) 21 true, kg 28 (.iadA 64 5 (.t 27) (.t 26)) 21 true, kg 29 (.fad 4 (.t 28)) 21 true, kg 30 (.ld none (.t 29)) 21 true, kg 31 (.bin .add (.t 30) (ki 3)) 21 true, kg 32 (.bin .lss (.t 24) (.t 31)) 21 true, kq 33 (.pick (.t 21) (.t 32) kF)] [[], [0], [1, 0], [2, 1, 0], [3, 2, 1, 0], [4, 3, 2, 1, 0], [5, 4, 3, 2, 1, 0], [3, 2, 1, 0], [7, 3, 2, 1, 0], [3, 2, 1, 0], [9, 3, 2, 1, 0, 8, 7], [10, 9, 3, 2, 1, 0, 8, 7], [11, 10, 9, 3, 2, 1, 0, 8, 7], [12, 11, 10, 9, 3, 2, 1, 0, 8, 7], [6, 5, 4, 3, 2, 1, 0, 13, 12, 11, 10, 9, 8, 7], [3, 2, 1, 0, 14, 6, 5, 4, 13, 12, 11, 10, 9, 8, 7]]) (.cond (.t 33) (.seq (.reg [kq 34 (.bld kA []), ku (.st 330 (.t 4) (.t 34)), kq 5 (.mv (ki 13))]) .ret) .skip)) (.seq (.reg [kq 35 (.fad 0 (.t 2)), kq 36 (.ld none (.t 35)), kq 37 (.bin .add (.t 36) (ki 1)), kq 38 (.fad 0 (.t 2)), ku (.st 1 (.t 38) (.t 37))]) (.seq (.reg [kq 39 (.fad 1 (.t 3)), kq 40 (.ld none (.t 39)), kq 41 (.fad 3 (.t 2)), kq 42 (.iadA 64 5 (.t 41) (.t 40)), kq 43 (.ld (some 5) (.t 42)), kq 7 (.new [(5, (.int .i64 0))]), ku (.st 5 (.t 7) (.t 43))]) (.seq (.seq (.reg [kq 44 (.fad 0 (.t 3)), kq 45 (.ld none (.t 44))]) (.block 0 (.seq (.reg [kq 47 (.bin .eql (.t 45) (ki 1)), km 46 47]) (.cond (.t 46) (.reg [kq 48 (.fad 2 (.t 3)), kq 49 (.ld none (.t 48)), kq 50 (.fad 3 (.t 3)), kq 51 (.ld none (.t 50)), kq 52 (.fad 4 (.t 3)), kq 53 (.ld none (.t 52)), kq 54 (.bld [(5, (.int .i64 0))] [(0, 1, (ki 1)), (1, 1, (.t 49)), (2, 1, (.t 51)), (3, 1, (.t 53))]), ku (.st 5 (.t 7) (.t 54))]) (.seq (.reg [kq 56 (.bin .eql (.t 45) (ki 2)), km 55 56]) (.cond (.t 55) (.reg [kq 57 (.fad 0 (.t 7)), ku (.st 1 (.t 57) (ki 2))]) (.seq (.reg [kq 59 (.bin .eql (.t 45) (ki 3)), km 58 59]) (.cond (.t 58) (.reg [kq 60 (.fad 0 (.t 7)), ku (.st 1 (.t 60) (ki 3))]) (.seq (.reg [kq 62 (.bin .eql (.t 45) (ki 4)), km 61 62]) (.cond (.t 61) (.dreg [kq 63 (.fad 323 (.t 2)), kq 64 (.fad 0 (.t 63)), kq 65 (.ld none (.t 64)), kq 66 (.fad 0 (.t 7)), ku (.st 1 (.t 66) (ki 4)), kq 67 (.fad 4 (.t 7)), ku (.st 1 (.t 67) (.t 65))] [[], [0], [1, 0], [], [3], [0, 1, 2, 3, 4], [5, 0, 1, 2, 3, 4]]) (.seq (.reg [kq 69 (.bin .eql (.t 45) (ki 5)), km 68 69]) (.cond (.t 68) (.reg [kq 70 (.bld [(5, (.int .i64 0))] []), ku (.st 5 (.t 7) (.t 70))]) (.seq (.reg [kq 72 (.bin .eql (.t 45) (ki 6)), km 71 72]) (.cond (.t 71) (.reg [kq 73 (.fad 323 (.t 2)), kq 74 (.ld (some 7) (.t 73)), kq 75 (.fad 5 (.t 3)), kq 76 (.ld (some 2) (.t 75)), kq 77 (.call "roundhouse/roundhouseref5.Next" [(.t 74), (.t 76)]), kq 78 (.fad 323 (.t 2)), ku (.st 7 (.t 78) (.t 77))]) .skip)))))))))))))) (.seq (.reg [kq 79 (.fad 1 (.t 3)), kq 80 (.ld none (.t 79)), kq 81 (.ld (some 5) (.t 7)), kq 82 (.fad 3 (.t 2)), kq 83 (.iadA 64 5 (.t 82) (.t 80)), ku (.st 5 (.t 83) (.t 81))]) (.seq (.reg [kq 84 (.ld (some 330) (.t 2)), ku (.st 330 (.t 4) (.t 84)), kq 5 (.mv (ki 0))]) .ret)))))))))⟩
def zfi : IFunc := ⟨72, [.tmp 2], (.seq (.reg [kq 1 (.box (.t 0)), kq 2 (.mv (ki 0))]) (.seq (.dreg [kq 5 (.fad 0 (.t 1)), kq 6 (.ld none (.t 5)), kq 7 (.bin .eql (.t 6) (ki 1)), kq 8 (.fad 0 (.t 1)), kq 9 (.ld none (.t 8)), kq 10 (.bin .eql (.t 9) (ki 6)), km 3 7, km 4 10] [[], [0], [1, 0], [], [3], [4, 3], [2, 1, 0], [5, 4, 3, 6, 2, 1, 0]]) (.seq (.block 0 (.seq (.reg [kq 12 (.fad 0 (.t 1)), kq 13 (.ld none (.t 12)), kq 14 (.call "roundhouse/roundhouseref6.out" [(.t 13), (ki 1), (ki 6)]), km 11 14]) (.cond (.t 11) (.seq (.reg [kq 2 (.mv (ki 2))]) .ret) (.seq (.reg [kq 16 (.fad 1 (.t 1)), kq 17 (.ld none (.t 16)), kq 18 (.call "roundhouse/roundhouseref6.out" [(.t 17), (ki 0), (ki 63)]), km 19 18, kg 20 (.mv (.t 4)) 19 false, kg 21 (.mv (.t 20)) 19 false, kg 22 (.fad 1 (.t 1)) 21 true, kg 23 (.ld none (.t 22)) 21 true, kg 24 (.bin .neq (.t 23) (ki 0)) 21 true, kg 25 (.pick (.t 21) (.t 24) kF) 19 false, kq 26 (.pick (.t 19) kT (.t 25)), km 15 26]) (.cond (.t 15) (.seq (.reg [kq 2 (.mv (ki 11))]) .ret) (.seq (.reg [km 28 3, km 29 28, kg 30 (.fad 2 (.t 1)) 29 true, kg 31 (.ld none (.t 30)) 29 true, kg 32 (.call "roundhouse/roundhouseref6.out" [(.t 31), (ki 0), (ki 4294967295)]) 29 true, kg 33 (.mv (.t 32)) 29 true, kg 34 (.fad 3 (.t 1)) 33 false, kg 35 (.ld none (.t 34)) 33 false, kg 36 (.call "roundhouse/roundhouseref6.out" [(.t 35), (ki 0), (ki 65535)]) 33 false, kg 37 (.pick (.t 33) kT (.t 36)) 29 true, kg 38 (.mv (.t 37)) 29 true, kg 39 (.fad 4 (.t 1)) 38 false, kg 40 (.ld none (.t 39)) 38 false, kg 41 (.call "roundhouse/roundhouseref6.out" [(.t 40), (ki 1), (ki 8)]) 38 false, kg 42 (.pick (.t 38) kT (.t 41)) 29 true, kq 43 (.pick (.t 29) (.t 42) kF), km 27 43]) (.cond (.t 27) (.seq (.reg [kq 2 (.mv (ki 14))]) .ret) (.seq (.reg [km 45 3, kq 46 (.un .not (.t 45)), km 47 46, kg 48 (.fad 2 (.t 1)) 47 true, kg 49 (.ld none (.t 48)) 47 true, kg 50 (.bin .neq (.t 49) (ki 0)) 47 true, kg 51 (.mv (.t 50)) 47 true, kg 52 (.fad 3 (.t 1)) 51 false, kg 53 (.ld none (.t 52)) 51 false, kg 54 (.bin .neq (.t 53) (ki 0)) 51 false, kg 55 (.pick (.t 51) kT (.t 54)) 47 true, kg 56 (.mv (.t 55)) 47 true, kg 57 (.fad 4 (.t 1)) 56 false, kg 58 (.ld none (.t 57)) 56 false, kg 59 (.bin .neq (.t 58) (ki 0)) 56 false, kg 60 (.pick (.t 56) kT (.t 59)) 47 true, kq 61 (.pick (.t 47) (.t 60) kF), km 62 61, kg 63 (.mv (.t 4)) 62 false, kg 64 (.un .not (.t 63)) 62 false, kg 65 (.mv (.t 64)) 62 false, kg 66 (.fad 5 (.t 1)) 65 true, kg 67 (.ld (some 2) (.t 66)) 65 true, kg 68 (.bld [(2, (.int .u64 0))] []) 65 true, kg 69 (.eqa true [(2, .i)] (.t 67) (.t 68)) 65 true, kg 70 (.pick (.t 65) (.t 69) kF) 62 false, kq 71 (.pick (.t 62) kT (.t 70)), km 44 71]) (.cond (.t 44) (.seq (.reg [kq 2 (.mv (ki 14))]) .ret) .skip))))))))) (.seq (.reg [kq 2 (.mv (ki 0))]) .ret))))⟩
def zhk : IFunc := ⟨15, [.tmp 6], (.seq (.reg [kq 6 (.mv kF)]) (.seq (.reg [km 7 0, km 8 1, kq 9 (.bin .lss (.t 7) (.t 8)), km 10 9, kg 11 (.mv (.t 0)) 10 false, kg 12 (.mv (.t 2)) 10 false, kg 13 (.bin .gtr (.t 11) (.t 12)) 10 false, kq 14 (.pick (.t 10) kT (.t 13)), km 6 14]) .ret))⟩
abbrev zeD (P : Program) : Prop := zX P "roundhouse/roundhouseref6.out" = some zhk
def zhl : IFunc := ⟨43, [.tmp 4], (.seq (.reg [kq 2 (.box (.t 0)), kq 3 (.box (.t 1)), kq 4 (.mv kF)]) (.seq (.reg [kq 6 (.fad 1 (.t 3)), kq 7 (.ld none (.t 6)), kq 8 (.fad 3 (.t 2)), kq 9 (.iadA 64 5 (.t 8) (.t 7)), kq 10 (.fad 0 (.t 9)), kq 11 (.ld none (.t 10)), km 5 11]) (.seq (.seq (.reg [kq 12 (.fad 0 (.t 3)), kq 13 (.ld none (.t 12))]) (.block 0 (.seq (.reg [kq 15 (.bin .eql (.t 13) (ki 1)), km 14 15]) (.cond (.t 14) (.seq (.reg [km 16 5, kq 17 (.bin .neq (.t 16) (ki 0)), km 18 17, kg 19 (.ld (some 330) (.t 2)) 18 false, kg 20 (.fad 2 (.t 3)) 18 false, kg 21 (.ld none (.t 20)) 18 false, kg 22 (.fad 3 (.t 3)) 18 false, kg 23 (.ld none (.t 22)) 18 false, kg 24 (.call "roundhouse/roundhouseref6.Held" [(.t 19), (.t 21), (.t 23)]) 18 false, kq 25 (.pick (.t 18) kT (.t 24)), km 4 25]) .ret) (.seq (.seq (.reg [kq 27 (.bin .eql (.t 13) (ki 2)), km 26 27]) (.cond (.t 26) .skip (.reg [kq 28 (.bin .eql (.t 13) (ki 4)), km 26 28]))) (.cond (.t 26) (.seq (.reg [km 29 5, kq 30 (.bin .neq (.t 29) (ki 1)), km 31 30, kg 32 (.mv (.t 5)) 31 true, kg 33 (.bin .neq (.t 32) (ki 3)) 31 true, kq 34 (.pick (.t 31) (.t 33) kF), km 4 34]) .ret) (.seq (.reg [kq 36 (.bin .eql (.t 13) (ki 3)), km 35 36]) (.cond (.t 35) (.seq (.reg [km 37 5, kq 38 (.bin .neq (.t 37) (ki 2)), km 4 38]) .ret) (.seq (.reg [kq 40 (.bin .eql (.t 13) (ki 5)), km 39 40]) (.cond (.t 39) (.seq (.reg [km 41 5, kq 42 (.bin .neq (.t 41) (ki 4)), km 4 42]) .ret) .skip)))))))))) (.seq (.reg [kq 4 (.mv kF)]) .ret))))⟩
def zgc : IFunc := ⟨42, [.tmp 6], (.seq (.reg [kq 3 (.box (.t 0)), kq 6 (.mv kF)]) (.seq (.seq (.reg [kq 7 (.mv (ki 0))]) (.block 0 (.loop (.seq (.seq (.reg [km 9 7, kq 10 (.bin .lss (.t 9) (ki 64))]) (.cond (.t 10) .skip (.exit 0))) (.seq (.block 1 (.seq (.reg [km 13 7, kq 14 (.fad 3 (.t 3)), kq 15 (.iadA 64 5 (.t 14) (.t 13)), kq 16 (.ld (some 5) (.t 15)), kq 8 (.new [(5, (.int .i64 0))]), ku (.st 5 (.t 8) (.t 16))]) (.seq (.reg [kq 17 (.fad 0 (.t 8)), kq 18 (.ld none (.t 17)), kq 19 (.bin .neq (.t 18) (ki 0)), km 20 19, kg 21 (.fad 1 (.t 8)) 20 true, kg 22 (.ld none (.t 21)) 20 true, kg 23 (.mv (.t 1)) 20 true, kg 24 (.bin .eql (.t 22) (.t 23)) 20 true, kq 25 (.pick (.t 20) (.t 24) kF), km 26 25, kg 27 (.fad 2 (.t 8)) 26 true, kg 28 (.ld none (.t 27)) 26 true, kg 29 (.mv (.t 2)) 26 true, kg 30 (.bin .eql (.t 28) (.t 29)) 26 true, kq 31 (.pick (.t 26) (.t 30) kF)]) (.cond (.t 31) (.seq (.reg [kq 6 (.mv kT)]) .ret) .skip)))) (.reg [km 11 7, kq 12 (.bin .add (.t 11) (ki 1)), km 7 12])))))) (.seq (.reg [kq 32 (.fad 1 (.t 3)), kq 33 (.ld none (.t 32)), km 34 1, kq 35 (.bin .eql (.t 33) (.t 34)), km 36 35, kg 37 (.fad 2 (.t 3)) 36 true, kg 38 (.ld none (.t 37)) 36 true, kg 39 (.mv (.t 2)) 36 true, kg 40 (.bin .eql (.t 38) (.t 39)) 36 true, kq 41 (.pick (.t 36) (.t 40) kF), km 6 41]) .ret)))⟩
def zgd : IFunc := ⟨31, [.cell 4 (some 7)], (.seq (.reg [kq 4 (.new [(1, (.int .i64 0)), (6, (.int .u64 0))])]) (.seq (.reg [kq 5 (.new [(6, (.int .u64 0))])]) (.seq (.seq (.reg [kq 6 (.mv (ki 0))]) (.block 0 (.loop (.seq (.seq (.reg [km 7 6, km 8 1, kq 9 (.lenS (.t 8)), kq 10 (.bin .lss (.t 7) (.t 9)), km 11 10, kg 12 (.mv (.t 6)) 11 true, kg 13 (.bin .lss (.t 12) (ki 3)) 11 true, kq 14 (.pick (.t 11) (.t 13) kF)]) (.cond (.t 14) .skip (.exit 0))) (.seq (.block 1 (.reg [km 17 6, km 18 1, km 19 6, kq 20 (.iadS 2 (.t 18) (.t 19)), kq 21 (.ld (some 2) (.t 20)), kq 22 (.iadA 3 2 (.t 5) (.t 17)), ku (.st 2 (.t 22) (.t 21))])) (.reg [km 15 6, kq 16 (.bin .add (.t 15) (ki 1)), km 6 16])))))) (.seq (.reg [km 23 0, kq 24 (.iadA 3 2 (.t 5) (ki 0)), kq 25 (.ld (some 2) (.t 24)), kq 26 (.iadA 3 2 (.t 5) (ki 1)), kq 27 (.ld (some 2) (.t 26)), kq 28 (.iadA 3 2 (.t 5) (ki 2)), kq 29 (.ld (some 2) (.t 28)), kq 30 (.bld [(1, (.int .i64 0)), (6, (.int .u64 0))] [(0, 1, (.t 23)), (1, 2, (.t 25)), (3, 2, (.t 27)), (5, 2, (.t 29))]), ku (.st 7 (.t 4) (.t 30))]) .ret))))⟩
abbrev zd4 (P : Program) : Prop := zX P "roundhouse/roundhouseref5.Ring" = some zgd
def zge : IFunc := ⟨14, [.cell 4 (some 7)], (.seq (.reg [kq 2 (.box (.t 0)), kq 3 (.box (.t 1)), kq 4 (.new [(1, (.int .i64 0)), (6, (.int .u64 0))])]) (.seq (.reg [kq 5 (.fad 0 (.t 2)), kq 6 (.ld none (.t 5)), kq 7 (.bin .add (.t 6) (ki 1)), kq 8 (.fad 3 (.t 2)), kq 9 (.ld (some 2) (.t 8)), kq 10 (.fad 5 (.t 2)), kq 11 (.ld (some 2) (.t 10)), kq 12 (.ld (some 2) (.t 3)), kq 13 (.bld [(1, (.int .i64 0)), (6, (.int .u64 0))] [(0, 1, (.t 7)), (1, 2, (.t 9)), (3, 2, (.t 11)), (5, 2, (.t 12))]), ku (.st 7 (.t 4) (.t 13))]) .ret))⟩
def zho : IFunc := ⟨10, [.cell 2 (some 2)], (.seq (.reg [kq 2 (.new [(2, (.int .u64 0))])]) (.seq (.reg [km 3 0, kq 4 (.cvi .u64 (.t 3)), kq 5 (.bin .mul (.t 4) (.c (.int .u64 11400714819323198485))), km 6 0, kq 7 (.cvi .u64 (.t 6)), kq 8 (.bin .xor (.t 7) (.c (.int .u64 19088743))), kq 9 (.bld [(2, (.int .u64 0))] [(0, 1, (.t 5)), (1, 1, (.t 8))]), ku (.st 2 (.t 2) (.t 9))]) .ret))⟩
abbrev zha (P : Program) : Prop := zX P "roundhouse/roundhouselaw5.Key" = some zho
def zfm : IFunc := ⟨53, [.cell 2 (some 7)], (.seq (.reg [kq 2 (.new kC)]) (.seq (.reg [km 5 0, kq 6 (.call "roundhouse/roundhouselaw6.within" [(.t 5), (ki 1125899906842624)]), km 3 6]) (.seq (.reg [km 7 3, kq 8 (.bin .quo (.t 7) (ki 8)), kq 9 (.bin .rem (.t 8) (ki 6)), km 4 9]) (.seq (.seq (.reg [km 10 3, kq 11 (.bin .quo (.t 10) (ki 48)), kq 12 (.bin .rem (.t 11) (ki 29)), kq 13 (.bin .eql (.t 12) (ki 0))]) (.cond (.t 13) (.reg [km 14 3, kq 15 (.bin .quo (.t 14) (ki 48)), kq 16 (.bin .rem (.t 15) (ki 66)), km 4 16]) .skip)) (.seq (.seq (.reg [km 17 3, kq 18 (.bin .rem (.t 17) (ki 8))]) (.block 0 (.seq (.seq (.reg [kq 20 (.bin .eql (.t 18) (ki 0)), km 19 20]) (.cond (.t 19) .skip (.reg [kq 21 (.bin .eql (.t 18) (ki 1)), km 19 21]))) (.cond (.t 19) (.seq (.reg [km 22 4, km 23 3, kq 24 (.bin .quo (.t 23) (ki 400)), kq 25 (.bin .rem (.t 24) (ki 5)), km 26 3, kq 27 (.bin .quo (.t 26) (ki 2000)), kq 28 (.bin .rem (.t 27) (ki 3)), km 29 3, kq 30 (.bin .quo (.t 29) (ki 6000)), kq 31 (.bin .rem (.t 30) (ki 8)), kq 32 (.bin .add (ki 1) (.t 31)), kq 33 (.bld kC [(0, 1, (ki 1)), (1, 1, (.t 22)), (2, 1, (.t 25)), (3, 1, (.t 28)), (4, 1, (.t 32))]), ku (.st 7 (.t 2) (.t 33))]) .ret) (.seq (.reg [kq 35 (.bin .eql (.t 18) (ki 2)), km 34 35]) (.cond (.t 34) (.seq (.reg [km 36 4, kq 37 (.bld kC [(0, 1, (ki 2)), (1, 1, (.t 36))]), ku (.st 7 (.t 2) (.t 37))]) .ret) (.seq (.reg [kq 39 (.bin .eql (.t 18) (ki 3)), km 38 39]) (.cond (.t 38) (.seq (.reg [km 40 4, kq 41 (.bld kC [(0, 1, (ki 3)), (1, 1, (.t 40))]), ku (.st 7 (.t 2) (.t 41))]) .ret) (.seq (.reg [kq 43 (.bin .eql (.t 18) (ki 4)), km 42 43]) (.cond (.t 42) (.seq (.reg [km 44 4, kq 45 (.bld kC [(0, 1, (ki 4)), (1, 1, (.t 44))]), ku (.st 7 (.t 2) (.t 45))]) .ret) (.seq (.reg [kq 47 (.bin .eql (.t 18) (ki 5)), km 46 47]) (.cond (.t 46) (.seq (.reg [km 48 4, kq 49 (.bld kC [(0, 1, (ki 5)), (1, 1, (.t 48))]), ku (.st 7 (.t 2) (.t 49))]) .ret) .skip)))))))))))) (.seq (.reg [km 50 3, kq 51 (.call "roundhouse/roundhouselaw5.Key" [(.t 50)]), kq 52 (.bld kC [(0, 1, (ki 6)), (5, 2, (.t 51))]), ku (.st 7 (.t 2) (.t 52))]) .ret))))))⟩
def zeQ : IFunc := ⟨15, [.tmp 4], (.seq (.reg [kq 4 (.mv (ki 0))]) (.seq (.reg [km 6 0, km 7 1, kq 8 (.bin .rem (.t 6) (.t 7)), km 5 8]) (.seq (.seq (.reg [km 9 5, kq 10 (.bin .lss (.t 9) (ki 0))]) (.cond (.t 10) (.reg [km 11 5, km 12 1, kq 13 (.bin .add (.t 11) (.t 12)), km 5 13]) .skip)) (.seq (.reg [km 14 5, km 4 14]) .ret))))⟩
def zeR : IFunc := ⟨41, [.cell 4 (some 330)], (.seq (.reg [kq 4 (.new kA)]) (.seq (.reg [kq 11 (.call "roundhouse/roundhouselaw5.Key" [(ki 1)]), kq 12 (.call "roundhouse/roundhouselaw5.Key" [(ki 2)]), kq 13 (.call "roundhouse/roundhouseref6.New" [(ki 10), (ki 80), (.t 11), (.t 12)]), km 10 13, kq 14 (.ext 0 (.t 10)), kq 15 (.ext 1 (.t 10)), kq 5 (.new kA), ku (.st 330 (.t 5) (.t 14)), km 6 15]) (.seq (.seq (.reg [kq 7 (.mv (ki 0))]) (.block 0 (.loop (.seq (.seq (.reg [km 16 7, km 17 0, kq 18 (.lenS (.t 17)), kq 19 (.bin .lss (.t 16) (.t 18)), km 20 19, kg 21 (.mv (.t 7)) 20 true, kg 22 (.mv (.t 1)) 20 true, kg 23 (.bin .lss (.t 21) (.t 22)) 20 true, kq 24 (.pick (.t 20) (.t 23) kF)]) (.cond (.t 24) .skip (.exit 0))) (.seq (.block 1 (.seq (.dreg [kq 28 (.ld (some 330) (.t 5)), km 29 0, km 30 7, kq 31 (.iadS 1 (.t 29) (.t 30)), kq 32 (.ld none (.t 31)), kq 33 (.call "roundhouse/roundhouselaw6.Entry" [(.t 32)]), kq 34 (.call "roundhouse/roundhouseref6.Apply" [(.t 28), (.t 33)]), km 27 34, kq 35 (.ext 0 (.t 27)), kq 36 (.ext 1 (.t 27)), kq 8 (.new kA), ku (.st 330 (.t 8) (.t 35)), km 9 36] [[], [], [], [1, 2], [3, 1, 2], [4, 3, 1, 2], [0, 5, 4, 3, 1, 2], [6, 0, 5, 4, 3, 1, 2], [7, 6, 0, 5, 4, 3, 1, 2], [7, 6, 0, 5, 4, 3, 1, 2], [], [10, 8, 7, 6, 0, 5, 4, 3, 1, 2], [9, 7, 6, 0, 5, 4, 3, 1, 2, 11, 10, 8]]) (.seq (.reg [km 37 9, kq 38 (.bin .eql (.t 37) (ki 0))]) (.cond (.t 38) (.reg [kq 39 (.ld (some 330) (.t 8)), ku (.st 330 (.t 5) (.t 39))]) .skip)))) (.reg [km 25 7, kq 26 (.bin .add (.t 25) (ki 1)), km 7 26])))))) (.seq (.reg [kq 40 (.ld (some 330) (.t 5)), ku (.st 330 (.t 4) (.t 40))]) .ret))))⟩
end Go.Rh

set_option maxHeartbeats 8000000
namespace Go.Rh
def outS (n lo hi : Int) : Bool := decide (n < lo) || decide (n > hi)
theorem outC {P : Program} (hc : zeD P) (n lo hi : Int) :
  Env P "roundhouse/roundhouseref6.out" [.int .i64 n, .int .i64 lo, .int .i64 hi] [] (Ans (.bool (outS n lo hi)) []) := by
 refine Env.of hc ?_
 unfold wpF zhk
 refine zL (s' := _) rfl (zC (qF (zac (s' := _) 4 rfl (zaT (b := decide (n < lo)) 10 rfl (fun h => ?_) (fun h => ?_)))))
 ·refine zL (s' := _) rfl (zC ?_)
  exact zar [.bool true] rfl rfl (by simp only [one, outS, h, Bool.true_or]) rfl rfl
 ·refine zL (s' := _) rfl (zC ?_)
  exact zar [.bool (decide (n > hi))] rfl rfl (by simp only [one, outS, h, Bool.false_or]) rfl rfl
def zed (n : Int) : Int := IntKind.u64.wrap (IntKind.u64.wrap n * 11400714819323198485)
def zec (n : Int) : Int := IntKind.u64.wrap (BitVec.ofInt IntKind.u64.bits (IntKind.u64.wrap n) ^^^ BitVec.ofInt IntKind.u64.bits 19088743).toNat
def keyV (n : Int) : Value := .agg #[.int .u64 (zed n), .int .u64 (zec n)]
theorem KeyC {P : Program} (hc : zha P) (n : Int) :
  Env P "roundhouse/roundhouselaw5.Key" [.int .i64 n] [] (Ans (keyV n) []) := by
 refine Env.of hc ?_
 unfold wpF zho
 exact zL (s' := _) rfl (zC (zL (s' := _) rfl (zC (zar [keyV n] rfl rfl rfl rfl rfl))))
def zM (at_ n : Int) : Int := if at_.tmod n < 0 then i64.wrap (at_.tmod n + n) else at_.tmod n
end Go.Rh

namespace Go.Rh
def qV (es : List Ent) : List Value := (es.map eL).flatten
def zE : List Value := [iv 0, iv 0, iv 0, iv 0, iv 0, uv 0, uv 0]
theorem eL_scl (e : Ent) : (eL e).all zbz = true := rfl
theorem entsL_scl (es : List Ent) : (qV es).all zbz = true := by
 simp only [qV, List.all_flatten, List.all_map]
 exact List.all_eq_true.2 fun e _ => eL_scl e
theorem entsL_len (es : List Ent) : (qV es).length = es.length * 7 := by
 induction es with
 | nil => rfl
 | cons e r ih => simp only [qV, List.map_cons, List.flatten_cons, List.length_append, List.length_cons] at ih ⊢; rw [ih]; simp [eL]; omega
theorem zaD (es : List Ent) (m : Nat) : (qV es ++ zbs zE m).all zbz = true := zeU (entsL_scl es) (zgA rfl m)
theorem ziA : ∀ (es : List Ent) (t : List Value) (i : Nat) (e : Ent), es[i]? = some e → zam (some 7) (qV es ++ t) (i * 7) = some (qH e)
 | [], _, _, _, h => by simp at h
 | e :: es, t, 0, e', h => by
  simp at h; subst h
  have : qV (e :: es) ++ t = eL e ++ (qV es ++ t) := by simp [qV]
  rw [this]; simp [zam, eL, qH]
 | e :: es, t, i + 1, e', h => by
  have h1 := ziA es t i e' (by simpa using h)
  have : qV (e :: es) ++ t = eL e ++ (qV es ++ t) := by simp [qV]
  rw [this]
  unfold zam at h1 ⊢
  simp only at h1 ⊢
  split at h1
  ·rename_i hl
   rw [if_pos (by simp [eL] at hl ⊢; omega)]
   rw [show (i + 1) * 7 = (eL e).length + i * 7 by simp [eL]; omega, List.drop_append]
   rw [List.drop_eq_nil_of_le (by simp [eL])]
   simpa using h1
  ·cases h1
theorem ents_r {es : List Ent} {t : List Value} {o i : Nat} {e : Ent} (ho : o = 7 * i) (h : es[i]? = some e) : zam (some 7) (qV es ++ t) o = some (qH e) := by
 subst ho; rw [Nat.mul_comm]; exact ziA es t i e h
theorem bld_newS (a p ka kb na nb : Int) : zdO (qI zP) [(1, 1, .int .i64 a), (2, 1, .int .i64 p), (323, 7, .agg #[.int .i64 1, .int .u64 0, .int .u64 0, .int .u64 ka, .int .u64 kb, .int .u64 na, .int .u64 nb])] = some (pl (newS a p ka kb na nb)) := by
 rw [ziN]
 have e1 : splice (pl zH) 1 [.int .i64 a] = pl (upd zH 1 a) := zc4 _ (by omega) _
 have e2 : splice (pl (upd zH 1 a)) 2 [.int .i64 p] = pl (upd (upd zH 1 a) 2 p) := zc4 _ (by omega) _
 have e3 := zh5 (upd (upd zH 1 a) 2 p) 1 0 0 ka kb na nb
 simp only [zdO, zbG, zcN, List.length_cons, List.length_nil, zN]
 simp only [e1, e2, zN]
 simp only [e3]
 simp
 refine pl_ext fun k hk => ?_
 simp only [upd, newS, zH]
 by_cases h1 : k = 1
 ·subst h1; simp
 by_cases h2 : k = 2
 ·subst h2; simp
 by_cases h3 : k = 323
 ·subst h3; simp
 by_cases h4 : k = 326
 ·subst h4; simp
 by_cases h5 : k = 327
 ·subst h5; simp
 by_cases h6 : k = 328
 ·subst h6; simp
 by_cases h7 : k = 329
 ·subst h7; simp
 simp [h1, h2, h3, h4, h5, h6, h7]
def zag (a p ka kb na nb : Int) : qO × Int := if za1 a p = true then (newS a p ka kb na nb, 0) else (zH, 14)
theorem AllE {P : Program} (hc : zcH P) (h1 : zaI P) (h2 : zaP P) (h3 : zaG P) (h4 : zaM P) (h5 : zaB P) (h6 : zai P) (h7 : zaq P)
  (c : qO) (es : List Ent) (m n cap : Nat) (hne : n = es.length) (hn : n ≤ 1000000) :
  Env P "roundhouse/pool.All" [qG c, .slice (some ⟨0, 0, none⟩) n cap] (roL [qV es ++ zbs zE m]) (Ans (.tuple #[qG (zaF c es 0).1, .int .i64 (zaF c es 0).2.1, .int .i64 (zaF c es 0).2.2]) (roL [qV es ++ zbs zE m])) :=
 by subst hne; exact AllC hc ⟨h1, h2, h3, h4, h5, h6, h7⟩ c es _ 0 cap (zaD es m) (fun i e he => by rw [Nat.zero_add]; exact ziA es _ i e he) hn
end Go.Rh

namespace Go.Rh
def hT (kc km : Nat) (e : Ent) (s : Bool) : List Value := [.chan (some kc), .map (some km), iv e.k, iv e.s, iv e.a, iv e.p, iv e.g, uv e.ka, uv e.kb, bv s]
def zR (c : qO) (kc km : Nat) (e : Ent) (s : Bool) : List Value := pl c ++ hT kc km e s
theorem headL_length (c : qO) (kc km : Nat) (e : Ent) (s : Bool) : (zR c kc km e s).length = 340 := by simp [zR, zN, hT]
theorem zcb {m : Option Nat} {c : qO} {kc km : Nat} {e : Ent} {s : Bool} (o : Nat) : zam m (zR c kc km e s) (330 + o) = zam m (hT kc km e s) o := zfa (zN c)
theorem zep {m : Option Nat} {c : qO} {kc km : Nat} {e : Ent} {s : Bool} {o : Nat} {v : Value} (h : zam m (pl c) o = some v) : zam m (zR c kc km e s) o = some v := zdw h
theorem head_wP {c d : qO} {kc km : Nat} {e : Ent} {s : Bool} : splice (zR c kc km e s) 0 (pl d) = zR d kc km e s := by
 unfold zR; rw [zej (by rw [zN, zN]; omega), zae]
theorem head_wE {c : qO} {kc km : Nat} {e e' : Ent} {s : Bool} : splice (zR c kc km e s) 332 [iv e'.k, iv e'.s, iv e'.a, iv e'.p, iv e'.g, uv e'.ka, uv e'.kb] = zR c kc km e' s :=
 zcf (o := 2) (zN c)
theorem head_wS {c : qO} {kc km : Nat} {e : Ent} {s s' : Bool} : splice (zR c kc km e s) 339 [bv s'] = zR c kc km e s' := zcf (o := 9) (zN c)
theorem head_le {c : qO} {kc km : Nat} {e : Ent} {s : Bool} {m : Nat} (h : m ≤ 340) : m ≤ (zR c kc km e s).length := by rw [headL_length]; exact h
theorem ren_pl {ρ : Nat → Nat} (c : qO) : (pl c).map (zet ρ) = pl c := zbf fun v hv => zeA (List.all_eq_true.1 (za7 c) v hv)
theorem zb7 {ρ : Nat → Nat} {c : qO} {kc km kc' km' : Nat} {e : Ent} {s rw : Bool} (h1 : ρ kc = kc') (h2 : ρ km = km') : zaR ρ (.cells (zR c kc km e s) rw) = .cells (zR c kc' km' e s) rw := by
 subst h1; subst h2
 simp only [zaR, zR, List.map_append, ren_pl]; rfl
structure Nt where
  u : Int
  b : Int
  v : Int
  w : Bool
  a : Bool
  e : Ent
  p : qO
def ntH (u b v : Int) (w a : Bool) (e : Ent) : List Value := [iv u, iv b, iv v, bv w, bv a, iv e.k, iv e.s, iv e.a, iv e.p, iv e.g, uv e.ka, uv e.kb]
def ntF (u b v : Int) (w a : Bool) (e : Ent) (p : qO) : List Value := ntH u b v w a e ++ pl p
def ntL (n : Nt) : List Value := ntF n.u n.b n.v n.w n.a n.e n.p
def ntV (u b v : Int) (w a : Bool) (e : Ent) (p : qO) : Value := .agg ⟨ntF u b v w a e p⟩
theorem z8 (u b v : Int) (w a : Bool) (e : Ent) (p : qO) : (ntF u b v w a e p).length = 342 := by simp [ntF, ntH, zN]
theorem zjj (n : Nt) : (ntL n).length = 342 := z8 _ _ _ _ _ _ _
theorem zg7 (u b v : Int) (w a : Bool) (e : Ent) (p : qO) : (ntF u b v w a e p).all zbz = true := zeU (a := ntH u b v w a e) rfl (za7 p)
theorem ntF_scl' {u b v : Int} {w a : Bool} {e : Ent} {p : qO} : (ntF u b v w a e p).all zbz = true := zg7 u b v w a e p
theorem ntL_scl (n : Nt) : (ntL n).all zbz = true := zg7 n.u n.b n.v n.w n.a n.e n.p
theorem ntV_vpf (u b v : Int) (w a : Bool) (e : Ent) (p : qO) : vpf (ntV u b v w a e p) = true := zg7 u b v w a e p
theorem zaV (u b v : Int) (w a : Bool) (e : Ent) (p : qO) : zi1 (ntV u b v w a e p) = true := zg7 u b v w a e p
theorem zdx {m : Option Nat} {u b v : Int} {w a : Bool} {e : Ent} {p : qO} {o : Nat} {x : Value} (h : zam m (ntH u b v w a e) o = some x) : zam m (ntF u b v w a e p) o = some x := zdw h
theorem nt_rP {m : Option Nat} {u b v : Int} {w a : Bool} {e : Ent} {p : qO} (o : Nat) : zam m (ntF u b v w a e p) (12 + o) = zam m (pl p) o := zfa rfl
theorem zbx (u b v : Int) (w a : Bool) (e : Ent) (p : qO) : zam (some 342) (ntF u b v w a e p) 0 = some (ntV u b v w a e p) := by
 unfold zam
 simp only []
 rw [if_pos (by rw [z8]; omega), List.drop_zero, List.take_of_length_le (by rw [z8]; omega)]
 rfl
theorem nt_wP {u b v : Int} {w a : Bool} {e : Ent} {p q : qO} : splice (ntF u b v w a e p) 12 (pl q) = ntF u b v w a e q := by
 have : splice (ntF u b v w a e p) (12 + 0) (pl q) = ntH u b v w a e ++ splice (pl p) 0 (pl q) := zcf rfl
 rw [zae] at this; exact this
theorem nt_wH {u b v u' b' v' : Int} {w a w' a' : Bool} {e e' : Ent} {p : qO} {o : Nat} {vs : List Value} (h : o + vs.length ≤ 12) (hs : splice (ntH u b v w a e) o vs = ntH u' b' v' w' a' e') : splice (ntF u b v w a e p) o vs = ntF u' b' v' w' a' e' p := by
 unfold ntF; rw [zej (by exact h), hs]
theorem zbh {u b v u' b' v' : Int} {w a w' a' : Bool} {e e' : Ent} {p q : qO} : splice (ntF u b v w a e p) 0 (ntF u' b' v' w' a' e' q) = ntF u' b' v' w' a' e' q := zc5 (by rw [z8, z8])
theorem zcR {u b v : Int} {w a : Bool} {e : Ent} {p : qO} {m : Nat} (h : m ≤ 342) : m ≤ (ntF u b v w a e p).length := by rw [z8]; exact h
def zaX (l : List Nt) : List Value := (l.map ntL).flatten
theorem za2 (l : List Nt) : (zaX l).length = l.length * 342 := by
 induction l with
 | nil => rfl
 | cons n l ih => simp only [zaX, List.map_cons, List.flatten_cons, List.length_append, zjj, List.length_cons] at ih ⊢; rw [ih]; omega
theorem zfH (l : List Nt) : (zaX l).all zbz = true := by
 simp only [zaX, List.all_flatten, List.all_map]
 exact List.all_eq_true.2 fun n _ => ntL_scl n
theorem ntsL_snoc (l : List Nt) (n : Nt) : zaX l ++ ntL n = zaX (l ++ [n]) := by simp [zaX]
def zNt : List Value := ntF 0 0 0 false false ⟨0, 0, 0, 0, 0, 0, 0⟩ zH
theorem zcs (l : List Nt) (m : Nat) : (zaX l ++ zbs zNt m).all zbz = true := zeU (zfH l) (zgA (zg7 0 0 0 false false ⟨0, 0, 0, 0, 0, 0, 0⟩ zH) m)
theorem nts_r {m : Option Nat} : ∀ {l : List Nt} {t : List Value} {i j : Nat} {n : Nt} {v : Value}, l[i]? = some n → zam m (ntL n) j = some v → zam m (zaX l ++ t) (342 * i + j) = some v
 | [], _, _, _, _, _, h, _ => by simp at h
 | x :: l, t, 0, j, n, v, h, hv => by
  simp at h; subst h
  have e : zaX (x :: l) ++ t = ntL x ++ (zaX l ++ t) := by simp [zaX]
  rw [e, show 342 * 0 + j = j by omega]
  exact zdw hv
 | x :: l, t, i + 1, j, n, v, h, hv => by
  have e : zaX (x :: l) ++ t = ntL x ++ (zaX l ++ t) := by simp [zaX]
  rw [e, show 342 * (i + 1) + j = 342 + (342 * i + j) by omega, zfa (zjj x)]
  exact nts_r (by simpa using h) hv
def wV (x : Int × Int) : Value := .agg #[iv x.1, iv x.2]
def hdM (l : List (Int × Int)) : List (Value × Value) := l.mapIdx fun i x => (iv (i : Nat), wV x)
theorem zhd (l : List (Int × Int)) : (hdM l).length = l.length := by simp [hdM]
theorem zhe {l : List (Int × Int)} {i : Nat} : (hdM l)[i]? = (l[i]?).map fun x => (iv (i : Nat), wV x) := by simp [hdM]
theorem hdM_set {l : List (Int × Int)} {i : Nat} {x : Int × Int} : (hdM l).set i (iv (i : Nat), wV x) = hdM (l.set i x) := by
 refine List.ext_getElem? fun k => ?_
 rw [List.getElem?_set, zhe, zhe, List.getElem?_set, zhd]
 by_cases h : i = k
 ·subst h
  by_cases h2 : i < l.length <;> simp [h2]
 ·simp [h]
theorem hdM_snoc {l : List (Int × Int)} {x : Int × Int} : hdM l ++ [(iv (l.length : Nat), wV x)] = hdM (l ++ [x]) := by
 simp [hdM, List.mapIdx_append]
theorem find_hd : ∀ (l : List (Int × Int)) (n : Int), ziS .i (iv n) (hdM l) = some (if 0 ≤ n ∧ n < l.length then some n.toNat else none) := by
 have gen : ∀ (l : List (Int × Int)) (n : Int) (b : Nat), ziS .i (iv n) (l.mapIdx fun i x => (iv ((i + b : Nat) : Int), wV x)) = some (if (b : Int) ≤ n ∧ n < b + l.length then some (n.toNat - b) else none) := by
  intro l
  induction l with
  | nil => intro n b; simp [ziS]
  | cons x l ih =>
   intro n b
   have h2 := ih n (b + 1)
   rw [List.mapIdx_cons]
   simp only [ziS]
   have hs : zdv .i (iv n) (iv ((0 + b : Nat) : Int)) = some (decide (n = (b : Int))) := by
    simp only [zdv, Nat.zero_add]
    first | rfl | (congr 1; exact Bool.eq_iff_iff.2 (by simp))
   rw [hs]
   have he : (fun (i : Nat) (x : Int × Int) => (iv ((i + 1 + b : Nat) : Int), wV x)) = fun (i : Nat) (x : Int × Int) => (iv ((i + (b + 1) : Nat) : Int), wV x) := by
    funext i x; rw [show i + 1 + b = i + (b + 1) by omega]
   rw [he, h2]
   by_cases h : n = (b : Int)
   ·simp [h]; omega
   ·simp only [h, decide_false]
    by_cases h3 : ((b + 1 : Nat) : Int) ≤ n ∧ n < ((b + 1 : Nat) : Int) + l.length
    ·rw [if_pos h3, if_pos (by simp; omega)]; simp; omega
    ·rw [if_neg h3, if_neg (by simp; omega)]
 intro l n
 have := gen l n 0
 simpa [hdM] using this
end Go.Rh

namespace Go.Rh
def lkS (hd : List (Int × Int)) (n : Int) : (Int × Int) × Bool := if 0 ≤ n ∧ n < hd.length then (hd.getD n.toNat (0, 0), true) else ((0, 0), false)
theorem run_lkuH {d : Option Nat} {x y : Opd} {L : List (Nat × Value)} {hp : List Blk} {r : Nat} {hd : List (Int × Int)} {n : Int} (hx : evf (reg L) x = .map (some r)) (hh : hf hp r = some (.map (hdM hd))) (hy : evf (reg L) y = iv n) :
  zdi [⟨d, .lku .i [(2, .int .i64 0)] true false x y, none⟩] ⟨reg L, hp⟩ = some ⟨zas (reg L) d (.agg #[iv (lkS hd n).1.1, iv (lkS hd n).1.2]), hp⟩ := by
 refine zaE (e := .no) rfl rfl ?_
 simp only [zQ, zeroV, if_true, hx, hh, hy, find_hd]
 by_cases h : 0 ≤ n ∧ n < hd.length
 ·have hl : n.toNat < hd.length := by omega
  simp only [if_pos h, zhe, lkS, List.getElem?_eq_getElem hl, Option.map_some, List.getD_eq_getElem?_getD, Option.getD_some]
  rfl
 ·simp only [if_neg h, lkS]; rfl
theorem run_lkuH2 {d : Option Nat} {x y : Opd} {L : List (Nat × Value)} {hp : List Blk} {r : Nat} {hd : List (Int × Int)} {n : Int} (hx : evf (reg L) x = .map (some r)) (hh : hf hp r = some (.map (hdM hd))) (hy : evf (reg L) y = iv n) :
  zdi [⟨d, .lku .i [(2, .int .i64 0)] true true x y, none⟩] ⟨reg L, hp⟩ = some ⟨zas (reg L) d (.tuple #[.agg #[iv (lkS hd n).1.1, iv (lkS hd n).1.2], bv (lkS hd n).2]), hp⟩ := by
 refine zaE (e := .no) rfl rfl ?_
 simp only [zQ, zeroV, if_true, hx, hh, hy, find_hd]
 by_cases h : 0 ≤ n ∧ n < hd.length
 ·have hl : n.toNat < hd.length := by omega
  simp only [if_pos h, zhe, lkS, List.getElem?_eq_getElem hl, Option.map_some, List.getD_eq_getElem?_getD, Option.getD_some]
  rfl
 ·simp only [if_neg h, lkS]; rfl
theorem run_mupS {x y z : Opd} {L : List (Nat × Value)} {hp : List Blk} {r : Nat} {hd : List (Int × Int)} {n a b : Int} (hx : evf (reg L) x = .map (some r)) (hh : hf hp r = some (.map (hdM hd))) (hy : evf (reg L) y = iv n) (hz : evf (reg L) z = .agg #[iv a, iv b]) (hn : 0 ≤ n ∧ n < hd.length) :
  zdi [⟨none, .mup .i x y z, none⟩] ⟨reg L, hp⟩ = some ⟨zas (reg L) none undef, hp.set r (.map (hdM (hd.set n.toNat (a, b))))⟩ := by
 refine zaE (e := .set r (.map (hdM (hd.set n.toNat (a, b))))) rfl rfl ?_
 simp only [zQ, hx, hh, hy, hz, find_hd, if_pos hn]
 have e : iv n = iv (n.toNat : Nat) := by rw [Int.toNat_of_nonneg hn.1]
 have := hdM_set (l := hd) (i := n.toNat) (x := (a, b))
 rw [← this, ← e]; rfl
theorem run_mupA {x y z : Opd} {L : List (Nat × Value)} {hp : List Blk} {r : Nat} {hd : List (Int × Int)} {n a b : Int} (hx : evf (reg L) x = .map (some r)) (hh : hf hp r = some (.map (hdM hd))) (hy : evf (reg L) y = iv n) (hz : evf (reg L) z = .agg #[iv a, iv b]) (hn : n = hd.length) :
  zdi [⟨none, .mup .i x y z, none⟩] ⟨reg L, hp⟩ = some ⟨zas (reg L) none undef, hp.set r (.map (hdM (hd ++ [(a, b)])))⟩ := by
 refine zaE (e := .set r (.map (hdM (hd ++ [(a, b)])))) rfl rfl ?_
 have hq := find_hd hd n
 rw [if_neg (by omega)] at hq
 simp only [zQ, hx, hh, hy, hz, hq]
 rw [← hdM_snoc, hn]; rfl
theorem run_lenH {d : Option Nat} {x : Opd} {L : List (Nat × Value)} {hp : List Blk} {r : Nat} {hd : List (Int × Int)} (hx : evf (reg L) x = .map (some r)) (hh : hf hp r = some (.map (hdM hd))) : zdi [⟨d, .lenM x, none⟩] ⟨reg L, hp⟩ = some ⟨zas (reg L) d (iv (hd.length : Nat)), hp⟩ := by
 refine zaE (e := .no) rfl rfl ?_
 simp only [zQ, hx, hh, zhd]
theorem run_lenW {d : Option Nat} {x : Opd} {L : List (Nat × Value)} {hp : List Blk} {r n : Nat} {w : List Ent} (hx : evf (reg L) x = .chan (some r)) (hh : hf hp r = some (.chan n (w.map qH))) : zdi [⟨d, .lenC x, none⟩] ⟨reg L, hp⟩ = some ⟨zas (reg L) d (iv (w.length : Nat)), hp⟩ := by
 refine zaE (e := .no) rfl rfl ?_
 simp only [zQ, hx, hh, List.length_map]
theorem zhh (w : List Ent) (e : Ent) : w.map qH ++ [qH e] = (w ++ [e]).map qH := by simp
theorem zU {ρ : Nat → Nat} {n : Nat} (w : List Ent) : zaR ρ (.chan n (w.map qH)) = .chan n (w.map qH) := by
 simp only [zaR]
 rw [zbf fun v hv => ?_]
 obtain ⟨e, _, rfl⟩ := List.mem_map.1 hv
 exact zgC rfl
theorem qA {ρ : Nat → Nat} (l : List (Int × Int)) : zaR ρ (.map (hdM l)) = .map (hdM l) := by
 simp only [zaR]
 congr 1
 refine (List.map_congr_left (g := id) fun e he => ?_).trans (by simp)
 obtain ⟨i, hi⟩ := List.mem_iff_getElem?.1 he
 rw [zhe] at hi
 simp only [Option.map_eq_some_iff] at hi
 obtain ⟨x, _, rfl⟩ := hi
 simp [zfX, zet, wV]
theorem zb4 {ρ : Nat → Nat} {c : qO} {kc km kc' km' : Nat} {e : Ent} {s rw rw' : Bool} (h1 : ρ kc = kc') (h2 : ρ km = km') (hr : rw = true → rw' = true) : Blk.seen (zaR ρ (.cells (zR c kc km e s) rw)) (.cells (zR c kc' km' e s) rw') := by
 rw [zb7 h1 h2]; exact ⟨rfl, hr⟩
theorem z3 {ρ : Nat → Nat} {c : qO} {kc km kc' km' : Nat} {e : Ent} {s rw : Bool} (h1 : ρ kc = kc') (h2 : ρ km = km') : some (Blk.cells (zR c kc' km' e s) rw) = some (zaR ρ (.cells (zR c kc km e s) rw)) := by rw [zb7 h1 h2]
theorem zb5 {ρ : Nat → Nat} {n : Nat} (w : List Ent) : Blk.seen (zaR ρ (.chan n (w.map qH))) (.chan n (w.map qH)) := by rw [zU]; rfl
theorem zcP {ρ : Nat → Nat} (l : List (Int × Int)) : Blk.seen (zaR ρ (.map (hdM l))) (.map (hdM l)) := by rw [qA]; rfl
theorem hdM_inv {l : List (Int × Int)} {j : Nat} {e : Value × Value} (h : (hdM l)[j]? = some e) : ∃ x, l[j]? = some x ∧ e = (iv (j : Nat), .agg #[iv x.1, iv x.2]) := by
 rw [zhe] at h
 simp only [Option.map_eq_some_iff] at h
 obtain ⟨x, h1, rfl⟩ := h
 exact ⟨x, h1, rfl⟩
end Go.Rh

namespace Go.Rh
theorem fillL_l : ∀ {parts : List (Nat × Nat × Value)} {a a' b : List Value}, zdO a parts = some a' → zdO (a ++ b) parts = some (a' ++ b)
 | [], a, a', b, h => by simp only [zdO, Option.some.injEq] at h ⊢; rw [h]
 | (o, s, v) :: r, a, a', b, h => by
  simp only [zdO] at h ⊢
  split at h
  ·rename_i q
   obtain ⟨q1, q2, q3⟩ := q
   rw [if_pos ⟨q1, q2, by simp; omega⟩, zej (by omega)]
   exact fillL_l h
  ·cases h
def zHd : RL := [(324, .int .i64 0), (6, .int .u64 0), (1, .chan none), (1, .map none), (5, .int .i64 0), (2, .int .u64 0), (1, .bool false)]
def zNt' : RL := [(3, .int .i64 0), (2, .bool false), (5, .int .i64 0), (2, .int .u64 0), (324, .int .i64 0), (6, .int .u64 0)]
def e0 : Ent := ⟨0, 0, 0, 0, 0, 0, 0⟩
theorem zHd_eq : qI zHd = pl zH ++ [.chan none, .map none, iv 0, iv 0, iv 0, iv 0, iv 0, uv 0, uv 0, bv false] := by kernel_rfl
theorem zNt_eq : qI zNt' = ntF 0 0 0 false false e0 zH := by kernel_rfl
theorem bld_head (c : qO) (kc km : Nat) : zdO (qI zHd) [(0, 330, qG c), (330, 1, .chan (some kc)), (331, 1, .map (some km))] = some (zR c kc km e0 false) := by
 rw [zHd_eq]
 have h1 : zcN (qG c) = pl c := rfl
 simp only [zdO, h1]
 rw [if_pos ⟨rfl, zN c, by simp [zN]⟩, zej (by rw [zN, zN]; omega), zae]
 have h2 : splice (pl c ++ [.chan none, .map none, iv 0, iv 0, iv 0, iv 0, iv 0, uv 0, uv 0, bv false]) 330 (zcN (.chan (some kc))) = pl c ++ [.chan (some kc), .map none, iv 0, iv 0, iv 0, iv 0, iv 0, uv 0, uv 0, bv false] := zcf (o := 0) (zN c)
 rw [if_pos ⟨rfl, rfl, by simp [zN]⟩, h2]
 have h3 : splice (pl c ++ [.chan (some kc), .map none, iv 0, iv 0, iv 0, iv 0, iv 0, uv 0, uv 0, bv false]) 331 (zcN (.map (some km))) = pl c ++ [.chan (some kc), .map (some km), iv 0, iv 0, iv 0, iv 0, iv 0, uv 0, uv 0, bv false] := zcf (o := 1) (zN c)
 rw [if_pos ⟨rfl, rfl, by simp [zN]⟩, h3]
 rfl
theorem zhF {parts : List (Nat × Nat × Value)} {u b v : Int} {w a : Bool} {e : Ent} (h : zdO (ntH 0 0 0 false false e0) parts = some (ntH u b v w a e)) : zdO (qI zNt') parts = some (ntF u b v w a e zH) := by
 rw [zNt_eq]; exact fillL_l h
theorem entsL_app1 (es : List Ent) (x : Ent) : qV es ++ [iv x.k, iv x.s, iv x.a, iv x.p, iv x.g, uv x.ka, uv x.kb] = qV (es ++ [x]) := by simp [qV]; rfl
theorem run_bsl1 {d : Option Nat} {x : Opd} {L : List (Nat × Value)} {hp : List Blk} {c : List Value} (hx : evf (reg L) x = .agg ⟨c⟩) (hc : c.length = 342) : zdi [⟨d, .bsl zNt' 342 1 [(0, 342, x)], none⟩] ⟨reg L, hp⟩ = some ⟨zas (reg L) d (sv hp.length 0 1 1), hp ++ [cw c]⟩ := by
 refine zaE (e := .push (cw c)) rfl rfl ?_
 have h1 : (List.replicate 1 (qI zNt')).flatten = ntF 0 0 0 false false e0 zH := by rw [zNt_eq]; simp
 have h2 : zcN (.agg ⟨c⟩) = c := rfl
 have h3 : splice (ntF 0 0 0 false false e0 zH) 0 c = c := zc5 (by rw [hc, z8])
 simp only [zQ, List.map_cons, List.map_nil, hx, h1, zdO, h2]
 rw [if_pos ⟨rfl, hc, by rw [z8]; omega⟩, h3]
theorem nt_first (u b v : Int) (w a : Bool) (e : Ent) (p : qO) : ((ntF u b v w a e p).drop 0).take (1 * 342) = ntF u b v w a e p := by rw [List.drop_zero, List.take_of_length_le (by rw [z8]; omega)]
theorem zin (l : List Nt) (u b v : Int) (w a : Bool) (e : Ent) (p : qO) : zaX l ++ ntF u b v w a e p = zaX (l ++ [⟨u, b, v, w, a, e, p⟩]) := ntsL_snoc l ⟨u, b, v, w, a, e, p⟩
structure HS where
  p : qO
  w : List Ent
  hd : List (Int × Int)
  e : Ent
  s : Bool
def allW (hd : List (Int × Int)) (v : Int) : Bool := hd.all fun x => x.2 == v
def pubS (x : HS) : HS := match x.w with
 | [] => x
 | e :: r => if (z2 x.p e).2 = 0 then ⟨(z2 x.p e).1, r, x.hd, e, true⟩ else ⟨x.p, r, x.hd, x.e, x.s⟩
def goS (x : HS) : HS := if allW x.hd (x.p 0) = true then pubS x else x
def zg8 (x : HS) (u : Nat) : Option Nt :=
 let w := (lkS x.hd (u : Nat)).1
 if x.p 0 ≤ w.2 then none
 else if w.2 = i64.wrap (x.p 0 - 1) ∧ x.s = true then some ⟨(u : Nat), w.1, x.p 0, false, false, x.e, zH⟩
 else some ⟨(u : Nat), w.1, x.p 0, true, false, e0, x.p⟩
def zcS (x : HS) (n : Nat) : List Nt := (List.range n).filterMap (zg8 x)
def zal (x : HS) : HS × List Nt := (goS x, zcS (goS x) (goS x).hd.length)
def zb2 (x : HS) (l : List Ent) : Int × HS :=
 if 200 < x.w.length + l.length then (14, x)
 else if (zaF (zaF x.p x.w 0).1 l 0).2.2 ≠ 0 then ((zaF (zaF x.p x.w 0).1 l 0).2.2, x)
 else (0, { x with w := x.w ++ l })
def mxS (v : Int) : Int := if (-1) > v then (-1) else v
def zbT (hd : List (Int × Int)) (n : Nt) : List (Int × Int) :=
 if n.a = false ∨ (lkS hd n.u).2 = false ∨ n.b < (lkS hd n.u).1.1 then hd
 else if n.b > (lkS hd n.u).1.1 ∨ mxS n.v > (lkS hd n.u).1.2 then hd.set n.u.toNat (n.b, mxS n.v)
 else hd.set n.u.toNat ((lkS hd n.u).1.1, (lkS hd n.u).1.2)
theorem lkS_in {hd : List (Int × Int)} {n : Int} (h : (!(lkS hd n).2) = false) : 0 ≤ n ∧ n < hd.length := by
 unfold lkS at h
 split at h
 ·assumption
 ·cases h
theorem zb9 {x : HS} {i : Nat} (h : zg8 x i = none) : zcS x (i + 1) = zcS x i := by
 simp [zcS, List.range_succ, List.filterMap_append, h]
theorem zaH {x : HS} {i : Nat} {n : Nt} (h : zg8 x i = some n) : zcS x (i + 1) = zcS x i ++ [n] := by
 simp [zcS, List.range_succ, List.filterMap_append, h]
theorem notesTo_len (x : HS) (i : Nat) : (zcS x i).length ≤ i := by
 have := List.length_filterMap_le (zg8 x) (List.range i)
 simpa [zcS] using this
theorem pubS_hd (x : HS) : (pubS x).hd = x.hd := by
 unfold pubS; split
 ·rfl
 ·split <;> rfl
theorem goS_hd (x : HS) : (goS x).hd = x.hd := by
 unfold goS; split
 ·exact pubS_hd x
 ·rfl
end Go.Rh

set_option maxHeartbeats 8000000
namespace Go.Rh
theorem zg6 (a p : Int) : (outS a 0 4294967295 || outS p 0 65535) = !(za1 a p) := by
 simp only [outS, za1]
 by_cases h1 : a < 0 <;> by_cases h2 : a > 4294967295 <;> by_cases h3 : p < 0 <;> by_cases h4 : p > 65535 <;> simp [h1, h2, h3, h4] <;> omega
end Go.Rh

set_option maxHeartbeats 8000000
namespace Go.Rh
theorem upd_ne (c : qO) {i k : Nat} (v : Int) (h : k ≠ i) : upd c i v k = c k := by simp [upd, h]
theorem ring_low (c : qO) (x0 x1 x2 x3 x4 x5 x6 : Int) {i : Nat} (h : i < 323) : upd (upd (upd (upd (upd (upd (upd c 323 x0) 324 x1) 325 x2) 326 x3) 327 x4) 328 x5) 329 x6 i = c i := by
 simp only [upd]; rw [if_neg (by omega), if_neg (by omega), if_neg (by omega), if_neg (by omega), if_neg (by omega), if_neg (by omega), if_neg (by omega)]
theorem refRingC {P : Program} (hc : zd4 P) (x a1 b1 a2 b2 a3 b3 : Int) :
  Env P "roundhouse/roundhouseref5.Ring" [iv x, sv 0 0 3 3] (roL [[uv a1, uv b1, uv a2, uv b2, uv a3, uv b3]]) (Ans (.agg #[iv x, uv a1, uv b1, uv a2, uv b2, uv a3, uv b3]) (roL [[uv a1, uv b1, uv a2, uv b2, uv a3, uv b3]])) := by
 refine Env.by hc ?_
 unfold zgd
 show GC _ 1 _ _ ⟨reg [(0, iv x), (1, sv 0 0 3 3)], [cr [uv a1, uv b1, uv a2, uv b2, uv a3, uv b3]]⟩
 refine zT (z0 (o_b 1 [(4, pv 1 0)] [cr [uv a1, uv b1, uv a2, uv b2, uv a3, uv b3], cw [iv 0, uv 0, uv 0, uv 0, uv 0, uv 0, uv 0]] (by kernel_rfl) (zF (zC (zT (z0 (o_b 1 [(5, pv 2 0)] [cr [uv a1, uv b1, uv a2, uv b2, uv a3, uv b3], cw [iv 0, uv 0, uv 0, uv 0, uv 0, uv 0, uv 0], cw [uv 0, uv 0, uv 0, uv 0, uv 0, uv 0]] (by kernel_rfl) (zF (zC (zT (zT (z0 ?_))))))))))))
 refine o_d 1 [(6, iv 0)] (by kernel_rfl) (zF (zC (zak (zdy (fun μ s => (μ = 3 ∧ s = ⟨reg [(6, iv 0), (5, pv 2 0), (4, pv 1 0), (0, iv x), (1, sv 0 0 3 3)], [cr [uv a1, uv b1, uv a2, uv b2, uv a3, uv b3], cw [iv 0, uv 0, uv 0, uv 0, uv 0, uv 0, uv 0], cw [uv 0, uv 0, uv 0, uv 0, uv 0, uv 0]]⟩) ∨ (μ = 2 ∧ s = ⟨reg [(6, iv 1), (5, pv 2 0), (4, pv 1 0), (0, iv x), (1, sv 0 0 3 3)], [cr [uv a1, uv b1, uv a2, uv b2, uv a3, uv b3], cw [iv 0, uv 0, uv 0, uv 0, uv 0, uv 0, uv 0], cw [uv a1, uv b1, uv 0, uv 0, uv 0, uv 0]]⟩) ∨ (μ = 1 ∧ s = ⟨reg [(6, iv 2), (5, pv 2 0), (4, pv 1 0), (0, iv x), (1, sv 0 0 3 3)], [cr [uv a1, uv b1, uv a2, uv b2, uv a3, uv b3], cw [iv 0, uv 0, uv 0, uv 0, uv 0, uv 0, uv 0], cw [uv a1, uv b1, uv a2, uv b2, uv 0, uv 0]]⟩) ∨ (μ = 0 ∧ s = ⟨reg [(6, iv 3), (5, pv 2 0), (4, pv 1 0), (0, iv x), (1, sv 0 0 3 3)], [cr [uv a1, uv b1, uv a2, uv b2, uv a3, uv b3], cw [iv 0, uv 0, uv 0, uv 0, uv 0, uv 0, uv 0], cw [uv a1, uv b1, uv a2, uv b2, uv a3, uv b3]]⟩)) ⟨3, ?_⟩ ?_))))
 ·skip
  refine ⟨⟨reg [(6, iv 0), (5, pv 2 0), (4, pv 1 0), (0, iv x), (1, sv 0 0 3 3)], [cr [uv a1, uv b1, uv a2, uv b2, uv a3, uv b3], cw [iv 0, uv 0, uv 0, uv 0, uv 0, uv 0, uv 0], cw [uv 0, uv 0, uv 0, uv 0, uv 0, uv 0]]⟩, ?_⟩
  refine ⟨?_, ?_⟩
  ·exact Wk.ren [0, 1, 2] rfl rfl (by decide) ⟨rfl, ⟨rfl, ⟨rfl, ⟨rfl, ⟨rfl, trivial⟩⟩⟩⟩⟩ ⟨.inl rfl, ⟨.inl rfl, ⟨.inl rfl, trivial⟩⟩⟩
  ·exact .inl ⟨rfl, rfl⟩
 ·rintro μ s (⟨rfl, rfl⟩ | ⟨rfl, rfl⟩ | ⟨rfl, rfl⟩ | ⟨rfl, rfl⟩)
  ·skip
   refine zT (zT (z0 (o_d 8 [(14, bv true), (13, bv true), (12, iv 0), (11, bv true), (10, bv true), (9, iv 3), (8, sv 0 0 3 3), (7, iv 0)] (by kernel_rfl) (zF (zC (zd5 rfl (zaC (zC (zT (zak (z0 (o_b 7 [(22, pv 2 0), (21, .agg #[uv a1, uv b1]), (20, pv 0 0), (19, iv 0), (18, sv 0 0 3 3), (17, iv 0)] [cr [uv a1, uv b1, uv a2, uv b2, uv a3, uv b3], cw [iv 0, uv 0, uv 0, uv 0, uv 0, uv 0, uv 0], cw [uv a1, uv b1, uv 0, uv 0, uv 0, uv 0]] (by kernel_rfl) ?_))))))))))))
   refine zF (zC (z0 (o_d 3 [(6, iv 1), (16, iv 1), (15, iv 0)] (by kernel_rfl) (zF (⟨2, ?_⟩)))))
   refine ⟨⟨reg [(6, iv 1), (5, pv 2 0), (4, pv 1 0), (0, iv x), (1, sv 0 0 3 3)], [cr [uv a1, uv b1, uv a2, uv b2, uv a3, uv b3], cw [iv 0, uv 0, uv 0, uv 0, uv 0, uv 0, uv 0], cw [uv a1, uv b1, uv 0, uv 0, uv 0, uv 0]]⟩, ?_⟩
   refine zgr (by decide) ⟨?_, ?_⟩
   ·exact Wk.ren [0, 1, 2] rfl rfl (by decide) ⟨rfl, ⟨rfl, ⟨rfl, ⟨rfl, ⟨rfl, trivial⟩⟩⟩⟩⟩ ⟨.inl rfl, ⟨.inl rfl, ⟨.inl rfl, trivial⟩⟩⟩
   ·exact .inr (.inl ⟨rfl, rfl⟩)
  ·skip
   refine zT (zT (z0 (o_d 8 [(14, bv true), (13, bv true), (12, iv 1), (11, bv true), (10, bv true), (9, iv 3), (8, sv 0 0 3 3), (7, iv 1)] (by kernel_rfl) (zF (zC (zd5 rfl (zaC (zC (zT (zak (z0 (o_b 7 [(22, pv 2 2), (21, .agg #[uv a2, uv b2]), (20, pv 0 2), (19, iv 1), (18, sv 0 0 3 3), (17, iv 1)] [cr [uv a1, uv b1, uv a2, uv b2, uv a3, uv b3], cw [iv 0, uv 0, uv 0, uv 0, uv 0, uv 0, uv 0], cw [uv a1, uv b1, uv a2, uv b2, uv 0, uv 0]] (by kernel_rfl) ?_))))))))))))
   refine zF (zC (z0 (o_d 3 [(6, iv 2), (16, iv 2), (15, iv 1)] (by kernel_rfl) (zF (⟨1, ?_⟩)))))
   refine ⟨⟨reg [(6, iv 2), (5, pv 2 0), (4, pv 1 0), (0, iv x), (1, sv 0 0 3 3)], [cr [uv a1, uv b1, uv a2, uv b2, uv a3, uv b3], cw [iv 0, uv 0, uv 0, uv 0, uv 0, uv 0, uv 0], cw [uv a1, uv b1, uv a2, uv b2, uv 0, uv 0]]⟩, ?_⟩
   refine zgr (by decide) ⟨?_, ?_⟩
   ·exact Wk.ren [0, 1, 2] rfl rfl (by decide) ⟨rfl, ⟨rfl, ⟨rfl, ⟨rfl, ⟨rfl, trivial⟩⟩⟩⟩⟩ ⟨.inl rfl, ⟨.inl rfl, ⟨.inl rfl, trivial⟩⟩⟩
   ·exact .inr (.inr (.inl ⟨rfl, rfl⟩))
  ·skip
   refine zT (zT (z0 (o_d 8 [(14, bv true), (13, bv true), (12, iv 2), (11, bv true), (10, bv true), (9, iv 3), (8, sv 0 0 3 3), (7, iv 2)] (by kernel_rfl) (zF (zC (zd5 rfl (zaC (zC (zT (zak (z0 (o_b 7 [(22, pv 2 4), (21, .agg #[uv a3, uv b3]), (20, pv 0 4), (19, iv 2), (18, sv 0 0 3 3), (17, iv 2)] [cr [uv a1, uv b1, uv a2, uv b2, uv a3, uv b3], cw [iv 0, uv 0, uv 0, uv 0, uv 0, uv 0, uv 0], cw [uv a1, uv b1, uv a2, uv b2, uv a3, uv b3]] (by kernel_rfl) ?_))))))))))))
   refine zF (zC (z0 (o_d 3 [(6, iv 3), (16, iv 3), (15, iv 2)] (by kernel_rfl) (zF (⟨0, ?_⟩)))))
   refine ⟨⟨reg [(6, iv 3), (5, pv 2 0), (4, pv 1 0), (0, iv x), (1, sv 0 0 3 3)], [cr [uv a1, uv b1, uv a2, uv b2, uv a3, uv b3], cw [iv 0, uv 0, uv 0, uv 0, uv 0, uv 0, uv 0], cw [uv a1, uv b1, uv a2, uv b2, uv a3, uv b3]]⟩, ?_⟩
   refine zgr (by decide) ⟨?_, ?_⟩
   ·exact Wk.ren [0, 1, 2] rfl rfl (by decide) ⟨rfl, ⟨rfl, ⟨rfl, ⟨rfl, ⟨rfl, trivial⟩⟩⟩⟩⟩ ⟨.inl rfl, ⟨.inl rfl, ⟨.inl rfl, trivial⟩⟩⟩
   ·exact .inr (.inr (.inr (⟨rfl, rfl⟩)))
  ·skip
   refine zT (zT (z0 (o_d 8 [(14, bv false), (13, undef), (12, undef), (11, bv false), (10, bv false), (9, iv 3), (8, sv 0 0 3 3), (7, iv 3)] (by kernel_rfl) (zF (zC (zbU rfl (zcU (zC (zT (z0 (o_b 9 [(30, .agg #[iv x, uv a1, uv b1, uv a2, uv b2, uv a3, uv b3]), (29, .agg #[uv a3, uv b3]), (28, pv 2 4), (27, .agg #[uv a2, uv b2]), (26, pv 2 2), (25, .agg #[uv a1, uv b1]), (24, pv 2 0), (23, iv x)] [cr [uv a1, uv b1, uv a2, uv b2, uv a3, uv b3], cw [iv x, uv a1, uv b1, uv a2, uv b2, uv a3, uv b3], cw [uv a1, uv b1, uv a2, uv b2, uv a3, uv b3]] (by kernel_rfl) (zF ?_))))))))))))
   exact zC (zbr (zar [.agg #[iv x, uv a1, uv b1, uv a2, uv b2, uv a3, uv b3]] (zcG rfl rfl rfl rfl) rfl (by rfl) rfl rfl))
end Go.Rh

set_option maxHeartbeats 8000000
namespace Go.Rh
theorem refNewC {P : Program} (hc : zfJ P) (h_ref6_out : zeD P) (h_ref5_Ring : zd4 P) (a p ka kb na nb : Int) :
  Env P "roundhouse/roundhouseref6.New" [iv a, iv p, .agg #[uv ka, uv kb], .agg #[uv na, uv nb]] ([]) (Ans (.tuple #[qG ((zag a p ka kb na nb).1), iv ((zag a p ka kb na nb).2)]) ([])) := by
 refine Env.by hc ?_
 unfold zhm
 show GC _ 0 _ _ ⟨reg [(0, iv a), (1, iv p), (2, .agg #[uv ka, uv kb]), (3, .agg #[uv na, uv nb])], []⟩
 refine zT (z0 (o_b 4 [(9, iv 0), (8, pv 2 0), (7, pv 1 0), (6, pv 0 0)] [cw [uv ka, uv kb], cw [uv na, uv nb], cw (pl zH)] (by kernel_rfl) (zF (zC (zT (zT (z0 (o_d 1 [(10, iv a)] (by kernel_rfl) (zbO (zeO (outC h_ref6_out a 0 4294967295) rfl rfl rfl (o_d 1 [(12, bv (outS a 0 4294967295))] (by kernel_rfl) (o_sp (b := outS a 0 4294967295) 12 rfl (fun h1 => ?_) (fun h1 => ?_)))))))))))))
 ·skip
  refine o_d 3 [(15, bv true), (14, undef), (13, undef)] (by kernel_rfl) (zF (zC (zd5 rfl (zT (z0 (o_s (by refine zck (c := pl zH) ?_; exact bld_zP) ?_))))))
  refine zeC (by refine qY (c' := pl zH) rfl rfl rfl ?_ ?_ ?_; exact zN _; exact zeW (by omega); exact zae zH zH) ?_
  refine o_d 1 [(9, iv 14)] (by kernel_rfl) (zF (zC (zbr ?_)))
  have e0 : zag a p ka kb na nb = (zH, 14) := by
   have hp := zg6 a p
   simp only [h1, Bool.true_or, Bool.false_or] at hp
   have hp2 : za1 a p = false := by revert hp; cases za1 a p <;> simp
   simp [zag, hp2]
  exact zar [qG zH, iv 14] (zcG rfl rfl (zaU zH) (qB rfl rfl)) (all_cons (zaL zH) (all_cons rfl rfl)) (by rw [e0]; rfl) rfl rfl
 ·skip
  refine o_d 1 [(13, iv p)] (by kernel_rfl) (zd2 rfl (zbO (zeO (outC h_ref6_out p 0 65535) rfl rfl rfl (o_d 1 [(15, bv (outS p 0 65535))] (by kernel_rfl) (zF (zC (zaJ (t := outS p 0 65535) rfl (fun h2 => ?_) (fun h2 => ?_))))))))
  ·skip
   refine zT (z0 (o_s (by refine zck (c := pl zH) ?_; exact bld_zP) ?_))
   refine zeC (by refine qY (c' := pl zH) rfl rfl rfl ?_ ?_ ?_; exact zN _; exact zeW (by omega); exact zae zH zH) ?_
   refine o_d 1 [(9, iv 14)] (by kernel_rfl) (zF (zC (zbr ?_)))
   have e0 : zag a p ka kb na nb = (zH, 14) := by
    have hp := zg6 a p
    simp only [h1, h2, Bool.true_or, Bool.false_or] at hp
    have hp2 : za1 a p = false := by revert hp; cases za1 a p <;> simp
    simp [zag, hp2]
   exact zar [qG zH, iv 14] (zcG rfl rfl (zaU zH) (qB rfl rfl)) (all_cons (zaL zH) (all_cons rfl rfl)) (by rw [e0]; rfl) rfl rfl
  ·skip
   refine zaC (zC (zT (z0 (o_b 6 [(22, sv 3 0 3 3), (21, .agg #[uv na, uv nb]), (20, .agg #[uv ka, uv kb]), (19, .agg #[uv 0, uv 0]), (18, iv p), (17, iv a)] [cw [uv ka, uv kb], cw [uv na, uv nb], cw (pl zH), cw [uv 0, uv 0, uv ka, uv kb, uv na, uv nb]] (by kernel_rfl) (zbO (callS (a1 := [.int .i64 1, .slice (some ⟨0, 0, none⟩) 3 3]) [3] [[uv 0, uv 0, uv ka, uv kb, uv na, uv nb]] (refRingC h_ref5_Ring 1 0 0 ka kb na nb) rfl (fun _ => rfl) ⟨⟨_, rfl⟩, rfl, trivial⟩ rfl ?_))))))
   refine o_s (by refine zck (c := pl (newS a p ka kb na nb)) ?_; exact (bld_newS a p ka kb na nb)) ?_
   refine zeC (by refine qY (c' := pl (newS a p ka kb na nb)) rfl rfl rfl ?_ ?_ ?_; exact zN _; exact zeW (by omega); exact zae zH (newS a p ka kb na nb)) ?_
   refine o_b 1 [(9, iv 0)] [cw [uv ka, uv kb], cw [uv na, uv nb], cw (pl (newS a p ka kb na nb)), cw [uv 0, uv 0, uv ka, uv kb, uv na, uv nb]] (by kernel_rfl) (zF (z9 [(9, iv 0), (8, pv 2 0)] (by kernel_rfl) (zbr ?_)))
   have e0 : zag a p ka kb na nb = (newS a p ka kb na nb, 0) := by
    have hp := zg6 a p
    simp only [h1, h2, Bool.true_or, Bool.false_or] at hp
    have hp2 : za1 a p = true := by revert hp; cases za1 a p <;> simp
    simp [zag, hp2]
   exact zar [qG (newS a p ka kb na nb), iv 0] (zcG rfl rfl (zaU (newS a p ka kb na nb)) (qB rfl rfl)) (all_cons (zaL (newS a p ka kb na nb)) (all_cons rfl rfl)) (by rw [e0]; rfl) rfl rfl
end Go.Rh

set_option maxHeartbeats 8000000
namespace Go.Rh
end Go.Rh

set_option maxHeartbeats 8000000
namespace Go.Rh
theorem zih (c : qO) (k n cap m : Nat) : [qG c, .slice (some ⟨0, 0, none⟩) n cap].map (zbw (rho [k] m)) = [qG c, .slice (some ⟨k, 0, none⟩) n cap] := by
 simp only [List.map_cons, List.map_nil]; rw [qE (zaA c)]; rfl
theorem All0 {P : Program} (hc : zcH P) (h_pool_Apply : zaI P) (h_pool_may : zaP P) (h_pool_held : zaG P) (h_pool_fits : zaM P) (h_pool_Check : zaB P) (h_pool_placed : zai P) (h_cookie_Next : zaq P) (c : qO) :
  Env P "roundhouse/pool.All" [qG c, .slice none 0 0] ([]) (Ans (.tuple #[qG c, iv 0, iv 0]) ([])) := by
 refine Env.by hc ?_
 unfold zfP
 show GC _ 0 _ _ ⟨reg [(0, qG c), (1, .slice none 0 0)], []⟩
 refine zT (z0 (o_b 4 [(6, iv 0), (5, iv 0), (4, pv 1 0), (2, pv 0 0)] [cw (pl c), cw (pl zH)] (by kernel_rfl) (zF (zC (zT (zT (z0 (o_d 3 [(13, iv 0), (12, iv 0), (11, .slice none 0 0)] (by kernel_rfl) (zF (zC (zak (zdy (fun μ s => (μ = 0 ∧ s = ⟨reg [(13, iv 0), (12, iv 0), (11, .slice none 0 0), (4, pv 1 0), (2, pv 0 0), (1, .slice none 0 0)], [cw (pl c), cw (pl zH)]⟩)) ⟨0, ?_⟩ ?_))))))))))))
 ·skip
  refine ⟨⟨reg [(13, iv 0), (12, iv 0), (11, .slice none 0 0), (4, pv 1 0), (2, pv 0 0), (1, .slice none 0 0)], [cw (pl c), cw (pl zH)]⟩, ?_⟩
  refine ⟨?_, ?_⟩
  ·exact Wk.ren [0, 1] rfl rfl (by decide) ⟨rfl, ⟨rfl, ⟨rfl, ⟨rfl, ⟨rfl, ⟨rfl, trivial⟩⟩⟩⟩⟩⟩ ⟨.inl (zO (za7 c)), ⟨.inl (zO (za7 zH)), trivial⟩⟩
  ·exact ⟨rfl, rfl⟩
 ·rintro μ s (⟨rfl, rfl⟩)
  ·skip
   refine zT (z0 (o_d 1 [(14, bv false)] (by kernel_rfl) (zF (zC (zT (zbU rfl (zcU (zC (zT (z0 (o_s (by refine z6 (v := qG c) rfl rfl ?_; exact zaU c) ?_)))))))))))
   refine o_d 2 [(33, iv 0), (32, .slice none 0 0)] (by kernel_rfl) (zeC (by refine qY (c' := pl c) rfl rfl rfl ?_ ?_ ?_; exact zN _; exact zeW (by omega); exact zae zH c) ?_)
   exact o_b 2 [(6, iv 0), (5, iv 0)] [cw (pl c), cw (pl c)] (by kernel_rfl) (zF (zC (zbr (zar [qG c, iv 0, iv 0] (zcG rfl rfl (zaU c) (qB rfl (qB rfl rfl))) (all_cons (zaL c) (all_cons rfl (all_cons rfl rfl))) (by rfl) rfl rfl))))
end Go.Rh

set_option maxHeartbeats 8000000
namespace Go.Rh
def zdg : IFunc := ⟨56, [], (.seq (.reg [kq 3 (.box (.t 1))]) (.seq (.dreg [km 8 0, kq 9 (.nilc (.t 8)), kq 10 (.fad 331 (.t 9)), kq 11 (.ld none (.t 10)), kq 12 (.fad 0 (.t 3)), kq 13 (.ld none (.t 12)), kq 14 (.lku .i [(2, (.int .i64 0))] true true (.t 11) (.t 13)), km 7 14, kq 15 (.ext 0 (.t 7)), kq 16 (.ext 1 (.t 7)), kq 4 (.new [(2, (.int .i64 0))]), ku (.st 2 (.t 4) (.t 15)), km 5 16] [[], [0], [1, 0], [2, 1, 0], [], [4], [3, 2, 1, 0, 5, 4], [6, 3, 2, 1, 0, 5, 4], [7, 6, 3, 2, 1, 0, 5, 4], [7, 6, 3, 2, 1, 0, 5, 4], [], [10, 8, 7, 6, 3, 2, 1, 0, 5, 4], [9, 7, 6, 3, 2, 1, 0, 5, 4, 11, 10, 8]]) (.seq (.seq (.reg [kq 17 (.fad 4 (.t 3)), kq 18 (.ld none (.t 17)), kq 19 (.un .not (.t 18)), km 20 19, kg 21 (.mv (.t 5)) 20 false, kg 22 (.un .not (.t 21)) 20 false, kq 23 (.pick (.t 20) kT (.t 22)), km 24 23, kg 25 (.fad 1 (.t 3)) 24 false, kg 26 (.ld none (.t 25)) 24 false, kg 27 (.fad 0 (.t 4)) 24 false, kg 28 (.ld none (.t 27)) 24 false, kg 29 (.bin .lss (.t 26) (.t 28)) 24 false, kq 30 (.pick (.t 24) kT (.t 29))]) (.cond (.t 30) .ret .skip)) (.seq (.seq (.reg [kq 31 (.fad 2 (.t 3)), kq 32 (.ld none (.t 31)), kq 33 (.mm true (.t 32) (ki (-1))), km 6 33]) (.seq (.reg [kq 34 (.fad 1 (.t 3)), kq 35 (.ld none (.t 34)), kq 36 (.fad 0 (.t 4)), kq 37 (.ld none (.t 36)), kq 38 (.bin .gtr (.t 35) (.t 37)), km 39 38, kg 40 (.mv (.t 6)) 39 false, kg 41 (.fad 1 (.t 4)) 39 false, kg 42 (.ld none (.t 41)) 39 false, kg 43 (.bin .gtr (.t 40) (.t 42)) 39 false, kq 44 (.pick (.t 39) kT (.t 43))]) (.cond (.t 44) (.reg [kq 45 (.fad 1 (.t 3)), kq 46 (.ld none (.t 45)), km 47 6, kq 48 (.bld [(2, (.int .i64 0))] [(0, 1, (.t 46)), (1, 1, (.t 47))]), ku (.st 2 (.t 4) (.t 48))]) .skip))) (.dreg [km 49 0, kq 50 (.nilc (.t 49)), kq 51 (.fad 331 (.t 50)), kq 52 (.ld none (.t 51)), kq 53 (.fad 0 (.t 3)), kq 54 (.ld none (.t 53)), kq 55 (.ld (some 2) (.t 4)), ku (.mup .i (.t 52) (.t 54) (.t 55))] [[], [0], [1, 0], [2, 1, 0], [], [4], [], [3, 2, 1, 0, 5, 4, 6]])))))⟩
abbrev zbm (P : Program) : Prop := zX P "(*roundhouse/head.Head).Heard" = some zdg
def zhp : IFunc := ⟨31, [.tmp 4, .tmp 5], (.seq (.reg [kq 2 (.box (.t 0)), kq 4 (.mv (.c (.pointer none))), kq 5 (.mv (ki 0))]) (.seq (.seq (.reg [km 8 1, kq 9 (.bin .lss (.t 8) (ki 1)), km 10 9, kg 11 (.mv (.t 1)) 10 false, kg 12 (.bin .gtr (.t 11) (ki 16)) 10 false, kq 13 (.pick (.t 10) kT (.t 12))]) (.cond (.t 13) (.seq (.reg [kq 4 (.mv (.c (.pointer none))), kq 5 (.mv (ki 14))]) .ret) .skip)) (.seq (.dreg [kq 14 (.ld (some 330) (.t 2)), kq 15 (.mkc 200), kq 16 (.mkm), kq 17 (.bld [(324, (.int .i64 0)), (6, (.int .u64 0)), (1, (.chan none)), (1, (.map none)), (5, (.int .i64 0)), (2, (.int .u64 0)), (1, (.bool false))] [(0, 330, (.t 14)), (330, 1, (.t 15)), (331, 1, (.t 16))]), kq 18 (.box (.t 17)), km 6 18] [[], [], [], [0, 1, 2], [3, 0, 1, 2], [4, 3, 0, 1, 2]]) (.seq (.seq (.reg [km 19 1, kq 20 (.mv (ki 0))]) (.block 0 (.loop (.seq (.reg [kq 21 (.bin .lss (.t 20) (.t 19))]) (.seq (.cond (.t 21) .skip (.exit 0)) (.seq (.block 1 (.seq (.reg [km 22 20, km 7 22]) (.reg [km 23 6, kq 24 (.nilc (.t 23)), kq 25 (.fad 331 (.t 24)), kq 26 (.ld none (.t 25)), km 27 7, kq 28 (.bld [(2, (.int .i64 0))] [(1, 1, (ki (-1)))]), ku (.mup .i (.t 26) (.t 27) (.t 28))]))) (.reg [kq 29 (.bin .add (.t 20) (ki 1)), km 20 29]))))))) (.seq (.reg [km 30 6, km 4 30, kq 5 (.mv (ki 0))]) .ret)))))⟩
abbrev zdT (P : Program) : Prop := zX P "roundhouse/head.New" = some zhp
def zcD : IFunc := ⟨35, [], (.seq (.reg [km 5 0, kq 6 (.nilc (.t 5)), kq 7 (.fad 330 (.t 6)), kq 8 (.ld none (.t 7))]) (.seq (.reg [kq 9 (.sel1 kC true (.t 8)), kq 10 (.ext 0 (.t 9)), kq 11 (.bin .eql (.t 10) (ki 0))]) (.block 0 (.cond (.t 11) (.seq (.reg [kq 12 (.ext 2 (.t 9)), kq 2 (.new kC), ku (.st 7 (.t 2) (.t 12))]) (.seq (.dreg [km 14 0, kq 15 (.nilc (.t 14)), kq 16 (.fad 0 (.t 15)), kq 17 (.ld (some 330) (.t 16)), kq 18 (.ld (some 7) (.t 2)), kq 19 (.call "roundhouse/pool.Apply" [(.t 17), (.t 18)]), km 13 19, kq 20 (.ext 0 (.t 13)), kq 21 (.ext 1 (.t 13)), kq 3 (.new kA), ku (.st 330 (.t 3) (.t 20)), km 4 21] [[], [0], [1, 0], [2, 1, 0], [], [3, 2, 1, 0, 4], [5, 3, 2, 1, 0, 4], [6, 5, 3, 2, 1, 0, 4], [6, 5, 3, 2, 1, 0, 4], [], [9, 7, 6, 5, 3, 2, 1, 0, 4], [8, 6, 5, 3, 2, 1, 0, 4, 10, 9, 7]]) (.seq (.reg [km 22 4, kq 23 (.bin .eql (.t 22) (ki 0))]) (.cond (.t 23) (.dreg [km 24 0, km 25 0, km 26 0, kq 27 (.ld (some 330) (.t 3)), kq 28 (.ld (some 7) (.t 2)), kq 29 (.nilc (.t 24)), kq 30 (.fad 0 (.t 29)), ku (.st 330 (.t 30) (.t 27)), kq 31 (.nilc (.t 25)), kq 32 (.fad 332 (.t 31)), ku (.st 7 (.t 32) (.t 28)), kq 33 (.nilc (.t 26)), kq 34 (.fad 339 (.t 33)), ku (.st 1 (.t 34) kT)] [[], [], [], [], [], [0, 3], [5, 0, 3], [6, 5, 0, 3], [1, 0, 3, 4, 5, 6, 7], [8, 1, 0, 3, 4, 5, 6, 7], [9, 8, 1, 0, 3, 4, 5, 6, 7], [2, 0, 1, 3, 4, 5, 6, 7, 8, 9, 10], [11, 2, 0, 1, 3, 4, 5, 6, 7, 8, 9, 10], [12, 11, 2, 0, 1, 3, 4, 5, 6, 7, 8, 9, 10]]) .skip)))) .skip))))⟩
abbrev za5 (P : Program) : Prop := zX P "(*roundhouse/head.Head).publish" = some zcD
def zcC : IFunc := ⟨28, [.tmp 2], (.seq (.reg [kq 2 (.mv (.c (.slice none 0 0)))]) (.seq (.reg [kq 3 (.mv (.c (.slice none 0 0)))]) (.seq (.seq (.reg [km 5 0, kq 6 (.nilc (.t 5)), kq 7 (.fad 330 (.t 6)), kq 8 (.ld none (.t 7)), kq 9 (.lenC (.t 8)), kq 10 (.mv (ki 0))]) (.block 0 (.loop (.seq (.reg [kq 11 (.bin .lss (.t 10) (.t 9))]) (.seq (.cond (.t 11) .skip (.exit 0)) (.seq (.block 1 (.seq (.reg [km 12 0, kq 13 (.nilc (.t 12)), kq 14 (.fad 330 (.t 13)), kq 15 (.ld none (.t 14)), kq 16 (.rcv (.t 15)), kq 4 (.new kC), ku (.st 7 (.t 4) (.t 16))]) (.seq (.dreg [km 17 0, kq 18 (.nilc (.t 17)), kq 19 (.fad 330 (.t 18)), kq 20 (.ld none (.t 19)), kq 21 (.ld (some 7) (.t 4)), ku (.snd (.t 20) (.t 21))] [[], [0], [1, 0], [2, 1, 0], [], [3, 2, 1, 0, 4]]) (.reg [km 22 3, kq 23 (.ld (some 7) (.t 4)), kq 24 (.bsl kC 7 1 [(0, 7, (.t 23))]), kq 25 (.app kC 7 56 (.t 22) (.t 24)), km 3 25])))) (.reg [kq 26 (.bin .add (.t 10) (ki 1)), km 10 26]))))))) (.seq (.reg [km 27 3, km 2 27]) .ret))))⟩
abbrev za4 (P : Program) : Prop := zX P "(*roundhouse/head.Head).waiting" = some zcC
def zd9 : IFunc := ⟨8, [.tmp 2], (.seq (.reg [kq 2 (.mv (ki 0))]) (.seq (.reg [km 3 0, kq 4 (.nilc (.t 3)), kq 5 (.fad 0 (.t 4)), kq 6 (.fad 0 (.t 5)), kq 7 (.ld none (.t 6)), km 2 7]) .ret))⟩
def zdJ : IFunc := ⟨7, [.cell 2 (some 330)], (.seq (.reg [kq 2 (.new kA)]) (.seq (.reg [km 3 0, kq 4 (.nilc (.t 3)), kq 5 (.fad 0 (.t 4)), kq 6 (.ld (some 330) (.t 5)), ku (.st 330 (.t 2) (.t 6))]) .ret))⟩
abbrev zbS (P : Program) : Prop := zX P "(*roundhouse/head.Head).Pool" = some zdJ
def zd8 : IFunc := ⟨22, [.tmp 2], (.seq (.reg [kq 2 (.mv kF)]) (.seq (.seq (.reg [km 5 0, kq 6 (.nilc (.t 5)), kq 7 (.fad 331 (.t 6)), kq 8 (.ld none (.t 7)), kq 9 (.rng (.t 8))]) (.block 0 (.loop (.seq (.reg [kq 10 (.nxt (.t 9)), kq 11 (.ext 0 (.t 10))]) (.seq (.cond (.t 11) .skip (.exit 0)) (.block 1 (.seq (.reg [kq 12 (.ent (.t 9)), kq 13 (.ext 1 (.t 12)), kq 4 (.new [(2, (.int .i64 0))]), ku (.st 2 (.t 4) (.t 13))]) (.seq (.dreg [kq 14 (.fad 1 (.t 4)), kq 15 (.ld none (.t 14)), km 16 0, kq 17 (.nilc (.t 16)), kq 18 (.fad 0 (.t 17)), kq 19 (.fad 0 (.t 18)), kq 20 (.ld none (.t 19)), kq 21 (.bin .neq (.t 15) (.t 20))] [[], [0], [], [2], [3, 2], [4, 3, 2], [5, 4, 3, 2], [1, 0, 6, 5, 4, 3, 2]]) (.cond (.t 21) (.seq (.reg [kq 2 (.mv kF)]) .ret) .skip))))))))) (.seq (.reg [kq 2 (.mv kT)]) .ret)))⟩
abbrev zbC (P : Program) : Prop := zX P "(*roundhouse/head.Head).all" = some zd8
theorem zfK (hd : List (Int × Int)) (n : Nt) : zbT hd n = (if (!n.a) = true then hd else if (!(lkS hd n.u).2) = true then hd else if decide (n.b < (lkS hd n.u).1.1) = true then hd else if decide (n.b > (lkS hd n.u).1.1) = true then hd.set n.u.toNat (n.b, mxS n.v) else if decide (mxS n.v > (lkS hd n.u).1.2) = true then hd.set n.u.toNat (n.b, mxS n.v) else hd.set n.u.toNat ((lkS hd n.u).1.1, (lkS hd n.u).1.2)) := by
 unfold zbT
 cases h1 : n.a <;> cases h2 : (lkS hd n.u).2 <;> simp
 by_cases h3 : n.b < (lkS hd n.u).1.1 <;> by_cases h4 : (lkS hd n.u).1.1 < n.b <;> by_cases h5 : (lkS hd n.u).1.2 < mxS n.v <;> simp [h3, h4, h5]
theorem allW_true {hd : List (Int × Int)} {v : Int} (h : ∀ k, k < (hdM hd).length → (hd.getD k (0, 0)).2 = v) : allW hd v = true := by
 refine List.all_eq_true.2 fun x hx => ?_
 obtain ⟨k, hk⟩ := List.mem_iff_getElem?.1 hx
 have := h k (by rw [zhd]; exact zJ hk)
 simp [List.getD_eq_getElem?_getD, hk] at this
 simp [this]
theorem allW_false {hd : List (Int × Int)} {v : Int} {j : Nat} {x : Int × Int} (hx : hd[j]? = some x) (h : ¬ x.2 = v) : allW hd v = false := by
 have hm := List.mem_of_getElem? hx
 cases hq : allW hd v with
 | false => rfl
 | true => exact absurd (by simpa using List.all_eq_true.1 hq x hm) h
theorem seen_more {α : Type} {es : List α} {seen : List Nat} {j : Nat} {e : α} (hn : seen.Nodup ∧ ∀ k ∈ seen, k < es.length) (hj : j ∉ seen) (he : es[j]? = some e) : (seen ++ [j]).Nodup ∧ ∀ k ∈ seen ++ [j], k < es.length := by
 refine ⟨List.nodup_append.2 ⟨hn.1, by simp, fun a ha b hb => ?_⟩, fun k hk => ?_⟩
 ·simp at hb; subst hb; rintro rfl; exact hj ha
 ·rcases List.mem_append.1 hk with h | h
  ·exact hn.2 k h
  ·simp at h; subst h; exact zJ he
theorem nodup_le : ∀ {n : Nat} {l : List Nat}, l.Nodup → (∀ k ∈ l, k < n) → l.length ≤ n
 | 0, l, _, hb => by
  cases l with
  | nil => simp
  | cons a t => exact absurd (hb a (by simp)) (by omega)
 | n + 1, l, h, hb => by
  have h1 := nodup_le (n := n) (l := l.erase n) (h.erase n) fun k hk => by
   have h2 := hb k (List.mem_of_mem_erase hk)
   have h3 : k ≠ n := by rintro rfl; exact List.Nodup.not_mem_erase h hk
   omega
  by_cases hm : n ∈ l
  ·rw [List.length_erase_of_mem hm] at h1; omega
  ·rw [List.erase_of_not_mem hm] at h1; omega
theorem seen_less {α : Type} {es : List α} {seen : List Nat} {j : Nat} {e : α} (hn : seen.Nodup ∧ ∀ k ∈ seen, k < es.length) (hj : j ∉ seen) (he : es[j]? = some e) : es.length - (seen ++ [j]).length < es.length - seen.length := by
 have h := seen_more hn hj he
 have := nodup_le h.1 h.2
 simp at this ⊢; omega
theorem seen_val {hd : List (Int × Int)} {v : Int} {seen : List Nat} {j : Nat} {x : Int × Int} (h : ∀ k, k ∈ seen → ∀ (hk : k < (hdM hd).length), (hd.getD k (0, 0)).2 = v) (hx : hd[j]? = some x) (hq : ¬ x.2 ≠ v) : ∀ k, k ∈ seen ++ [j] → ∀ (hk : k < (hdM hd).length), (hd.getD k (0, 0)).2 = v := by
 intro k hk hl
 rcases List.mem_append.1 hk with h1 | h1
 ·exact h k h1 hl
 ·simp at h1; subst h1
  simp [List.getD_eq_getElem?_getD, hx]; exact Decidable.of_not_not hq
theorem HVersionC {P : Program} (hc : zX P "(*roundhouse/head.Head).Version" = some zd9) (p : qO) (w : List Ent) (hd : List (Int × Int)) (e : Ent) (b : Bool) :
    Env P "(*roundhouse/head.Head).Version" [pv 0 0] ([cr (zR p 1 2 e b), .chan 200 (w.map qH), .map (hdM hd)]) (fun v h' => v = iv (p 0) ∧ h' = [cr (zR p 1 2 e b), .chan 200 (w.map qH), .map (hdM hd)]) := by
 refine Env.by2 hc ?_
 unfold zd9
 show GC _ 3 _ _ ⟨reg [(0, pv 0 0)], [cr (zR p 1 2 e b), .chan 200 (w.map qH), .map (hdM hd)]⟩
 refine zT (z0 (o_d 1 [(2, iv 0)] (by kernel_rfl) (zF (zC (zT (z0 (o_d 4 [(6, pv 0 0), (5, pv 0 0), (4, pv 0 0), (3, pv 0 0)] (by kernel_rfl) (o_s (by refine z6 (v := iv (p 0)) rfl rfl ?_; exact zep (pl_r p 0 rfl (by omega))) ?_))))))))
 exact o_d 1 [(2, iv (p 0))] (by kernel_rfl) (zF (zC (zbr (⟨trivial, ⟨reg [(2, iv (p 0))], [cr (zR p 1 2 e b), .chan 200 (w.map qH), .map (hdM hd)]⟩, Wk.ren [0, 1, 2] rfl rfl (by decide) ⟨rfl, trivial⟩ ⟨.inl (z3 rfl rfl), ⟨.inl (congrArg some (zU _).symm), ⟨.inl (congrArg some (qA _).symm), trivial⟩⟩⟩, [iv (p 0)], (qB rfl rfl), (zS rfl z1), rfl, rfl⟩))))
theorem HPoolC {P : Program} (hc : zbS P) (p : qO) (w : List Ent) (hd : List (Int × Int)) (e : Ent) (b : Bool) :
    Env P "(*roundhouse/head.Head).Pool" [pv 0 0] ([cr (zR p 1 2 e b), .chan 200 (w.map qH), .map (hdM hd)]) (fun v h' => v = qG p ∧ h' = [cr (zR p 1 2 e b), .chan 200 (w.map qH), .map (hdM hd), cw (pl p)]) := by
 refine Env.by2 hc ?_
 unfold zdJ
 show GC _ 3 _ _ ⟨reg [(0, pv 0 0)], [cr (zR p 1 2 e b), .chan 200 (w.map qH), .map (hdM hd)]⟩
 refine zT (z0 (o_b 1 [(2, pv 3 0)] [cr (zR p 1 2 e b), .chan 200 (w.map qH), .map (hdM hd), cw (pl zH)] (by kernel_rfl) (zF (zC (zT (z0 (o_d 3 [(5, pv 0 0), (4, pv 0 0), (3, pv 0 0)] (by kernel_rfl) (o_s (by refine z6 (v := qG p) rfl rfl ?_; exact zep (zaU p)) ?_))))))))
 refine zeC (by refine qY (c' := pl p) rfl rfl rfl ?_ ?_ ?_; exact zN _; exact zeW (by omega); exact zae zH p) ?_
 exact zF (zC (zbr (⟨trivial, ⟨reg [(2, pv 3 0)], [cr (zR p 1 2 e b), .chan 200 (w.map qH), .map (hdM hd), cw (pl p)]⟩, Wk.ren [0, 1, 2, 3] rfl rfl (by decide) ⟨rfl, trivial⟩ ⟨.inl (z3 rfl rfl), ⟨.inl (congrArg some (zU _).symm), ⟨.inl (congrArg some (qA _).symm), ⟨.inl (zO (za7 p)), trivial⟩⟩⟩⟩, [qG p], (zcG rfl rfl (zaU p) rfl), (zS rfl z1), rfl, rfl⟩)))
theorem HallC {P : Program} (hc : zbC P) (p : qO) (w : List Ent) (hd : List (Int × Int)) (e : Ent) (b : Bool) :
    Env P "(*roundhouse/head.Head).all" [pv 0 0] ([cr (zR p 1 2 e b), .chan 200 (w.map qH), .map (hdM hd)]) (fun v h' => v = bv (allW hd (p 0)) ∧ h' = [cr (zR p 1 2 e b), .chan 200 (w.map qH), .map (hdM hd)]) := by
 refine Env.by2 hc ?_
 unfold zd8
 show GC _ 3 _ _ ⟨reg [(0, pv 0 0)], [cr (zR p 1 2 e b), .chan 200 (w.map qH), .map (hdM hd)]⟩
 refine zT (z0 (o_d 1 [(2, bv false)] (by kernel_rfl) (zF (zC (zT (zT (z0 (o_d 3 [(7, pv 0 331), (6, pv 0 0), (5, pv 0 0)] (by kernel_rfl) (o_s (by refine z6 (v := .map (some 2)) rfl rfl ?_; exact (zcb 1).trans rfl) ?_)))))))))
 refine o_rng (k := 2) (es := hdM hd) rfl rfl (zF (zC (zak (zdy (fun μ s => ∃ (seen : List Nat), μ = (hdM hd).length - seen.length ∧ (seen.Nodup ∧ ∀ k ∈ seen, k < (hdM hd).length) ∧ (∀ k, k ∈ seen → ∀ (hk : k < (hdM hd).length), (hd.getD k (0, 0)).2 = p 0) ∧ s = ⟨reg [(9, pv 3 0), (0, pv 0 0)], [cr (zR p 1 2 e b), .chan 200 (w.map qH), .map (hdM hd), .iter 2 ((hdM hd).length) seen]⟩) ⟨((hdM hd).length - ([] : List Nat).length), ?_⟩ ?_))))
 ·skip
  refine ⟨⟨reg [(9, pv 3 0), (0, pv 0 0)], [cr (zR p 1 2 e b), .chan 200 (w.map qH), .map (hdM hd), .iter 2 ((hdM hd).length) ([] : List Nat)]⟩, ?_⟩
  refine ⟨?_, ?_⟩
  ·exact Wk.ren [0, 1, 2, 3] rfl rfl (by decide) ⟨rfl, ⟨rfl, trivial⟩⟩ ⟨.inl (z3 rfl rfl), ⟨.inl (congrArg some (zU _).symm), ⟨.inl (congrArg some (qA _).symm), ⟨.inl rfl, trivial⟩⟩⟩⟩
  ·exact ⟨([] : List Nat), rfl, ⟨List.nodup_nil, by simp⟩, (by simp), rfl⟩
 rintro μ s ⟨seen, rfl, hn, hv, rfl⟩
 refine zT (z0 (o_nxt (k := 3) (m := 2) (es := hdM hd) (seen := seen) rfl rfl rfl (fun hall => ?_) (fun j e hj he => ?_)))
 ·skip
  refine o_d 1 [(11, bv false)] (by kernel_rfl) (zF (zC (zT (zbU rfl (zcU (zC (zT (z0 (o_d 1 [(2, bv true)] (by kernel_rfl) (zF (zC (zbr ?_))))))))))))
  have e0 : true = allW hd (p 0) := by
   rw [eq_comm, allW_true]; intro k hk; exact hv k (hall k hk) hk
  exact ⟨trivial, ⟨reg [(2, bv true)], [cr (zR p 1 2 e b), .chan 200 (w.map qH), .map (hdM hd)]⟩, Wk.ren [0, 1, 2] rfl rfl (by decide) ⟨rfl, trivial⟩ ⟨.inl (z3 rfl rfl), ⟨.inl (congrArg some (zU _).symm), ⟨.inl (congrArg some (qA _).symm), trivial⟩⟩⟩, [bv true], (qB rfl rfl), (zS rfl z1), (congrArg Value.bool e0), rfl⟩
 obtain ⟨x, hx, rfl⟩ := hdM_inv he
 refine o_d 1 [(11, bv true)] (by kernel_rfl) (zF (zC (zT (zd5 rfl (zaC (zC (zak (zT (z0 (o_ent (k := 3) (m := 2) (es := hdM hd) (j := j) (e := (iv (j : Nat), .agg #[iv x.1, iv x.2])) rfl rfl rfl he (o_b 3 [(4, pv 4 0), (13, .agg #[iv x.1, iv x.2])] [cr (zR p 1 2 e b), .chan 200 (w.map qH), .map (hdM hd), .iter 2 ((hdM hd).length) (seen ++ [j]), cw [iv x.1, iv x.2]] (by kernel_rfl) (zF ?_))))))))))))
 refine zC (zT (zdz [] (by kernel_rfl) (r_d 6 [(19, pv 0 0), (18, pv 0 0), (17, pv 0 0), (16, pv 0 0), (15, iv x.2), (14, pv 4 1)] (by kernel_rfl) (r_s (by refine z6 (v := iv (p 0)) rfl rfl ?_; exact zep (pl_r p 0 rfl (by omega))) ?_))))
 refine r_d 1 [(21, bv (x.2 != (p 0)))] (by kernel_rfl) (zc7 (zC (zaJ (t := x.2 != (p 0)) rfl (fun h1 => ?_) (fun h1 => ?_))))
 ·skip
  have h1' : x.2 ≠ p 0 := neI_t h1
  refine zT (z0 (o_d 1 [(2, bv false)] (by kernel_rfl) (zF (zC (zbr ?_)))))
  have e0 : false = allW hd (p 0) := by
   rw [eq_comm]; exact allW_false hx (by assumption)
  exact ⟨trivial, ⟨reg [(2, bv false)], [cr (zR p 1 2 e b), .chan 200 (w.map qH), .map (hdM hd)]⟩, Wk.ren [0, 1, 2] rfl rfl (by decide) ⟨rfl, trivial⟩ ⟨.inl (z3 rfl rfl), ⟨.inl (congrArg some (zU _).symm), ⟨.inl (congrArg some (qA _).symm), trivial⟩⟩⟩, [bv false], (qB rfl rfl), (zS rfl z1), (congrArg Value.bool e0), rfl⟩
 have h1' : ¬ (x.2 ≠ p 0) := neI_f h1
 refine zaC (⟨(hdM hd).length - (seen ++ [j]).length, ?_⟩)
 refine ⟨⟨reg [(9, pv 3 0), (0, pv 0 0)], [cr (zR p 1 2 e b), .chan 200 (w.map qH), .map (hdM hd), .iter 2 ((hdM hd).length) (seen ++ [j])]⟩, ?_⟩
 refine zgr (by exact seen_less hn hj he) ⟨?_, ?_⟩
 ·exact Wk.ren [0, 1, 2, 3] rfl rfl (by decide) ⟨rfl, ⟨rfl, trivial⟩⟩ ⟨.inl (z3 rfl rfl), ⟨.inl (congrArg some (zU _).symm), ⟨.inl (congrArg some (qA _).symm), ⟨.inl rfl, trivial⟩⟩⟩⟩
 ·exact ⟨(seen ++ [j]), rfl, (seen_more hn hj he), (seen_val hv hx (by assumption)), rfl⟩
theorem HwaitingC {P : Program} (hc : za4 P) (p : qO) (w : List Ent) (hd : List (Int × Int)) (e : Ent) (b : Bool) (hw : w.length ≤ 200) :
    Env P "(*roundhouse/head.Head).waiting" [pv 0 0] ([cr (zR p 1 2 e b), .chan 200 (w.map qH), .map (hdM hd)]) (fun v h' => ∃ q : Option Nat, (q = none → w = []) ∧ v = slV 3 w.length q ∧ h' = [cr (zR p 1 2 e b), .chan 200 (w.map qH), .map (hdM hd), slB zE (qV w) q]) := by
 refine Env.by2 hc ?_
 unfold zcC
 show GC _ 3 _ _ ⟨reg [(0, pv 0 0)], [cr (zR p 1 2 e b), .chan 200 (w.map qH), .map (hdM hd)]⟩
 refine zT (z0 (o_d 1 [(2, .slice none 0 0)] (by kernel_rfl) (zF (zC (zT (z0 (o_d 1 [(3, .slice none 0 0)] (by kernel_rfl) (zF (zC (zT (zT (z0 ?_))))))))))))
 refine o_d 3 [(7, pv 0 330), (6, pv 0 0), (5, pv 0 0)] (by kernel_rfl) (o_s (by refine z6 (v := .chan (some 1)) rfl rfl ?_; exact (zcb 0).trans rfl) ?_)
 refine o_s (by exact run_lenW (w := w) rfl rfl) ?_
 refine o_d 1 [(10, iv 0)] (by kernel_rfl) (zF (zC (zak (zdy (fun μ s => ∃ (i : Nat), ∃ (wc : List Ent), ∃ (q : Option Nat), μ = w.length - i ∧ (i ≤ w.length) ∧ (wc = w.drop i ++ w.take i) ∧ (q = none → i = 0) ∧ s = ⟨reg [(10, iv (i : Int)), (9, iv (w.length : Nat)), (3, slV 3 i q), (0, pv 0 0)], [cr (zR p 1 2 e b), .chan 200 (wc.map qH), .map (hdM hd), slB zE (qV (w.take i)) q]⟩) ⟨(w.length - 0), ?_⟩ ?_))))
 ·skip
  refine ⟨⟨reg [(10, iv (0 : Int)), (9, iv (w.length : Nat)), (3, slV 3 0 none), (0, pv 0 0)], [cr (zR p 1 2 e b), .chan 200 (w.map qH), .map (hdM hd), slB zE (qV (w.take 0)) none]⟩, ?_⟩
  refine ⟨?_, ?_⟩
  ·exact Wk.ren [0, 1, 2, 6] rfl rfl (by decide) ⟨rfl, ⟨rfl, ⟨rfl, ⟨rfl, trivial⟩⟩⟩⟩ ⟨.inl (z3 rfl rfl), ⟨.inl (congrArg some (zU _).symm), ⟨.inl (congrArg some (qA _).symm), ⟨.inr ⟨rfl, rfl⟩, trivial⟩⟩⟩⟩
  ·exact ⟨0, w, none, rfl, (Nat.zero_le _), (by simp), (fun _ => rfl), rfl⟩
 rintro μ s ⟨i, wc, q, rfl, hi, hwc, hq, rfl⟩
 refine zT (z0 (o_d 1 [(11, bv (decide ((i : Int) < (w.length : Nat))))] (by kernel_rfl) (zF (zC (zT (zaJ (t := decide ((i : Int) < (w.length : Nat))) rfl (fun h1 => ?_) (fun h1 => ?_)))))))
 ·skip
  have h1' : (i : Int) < (w.length : Nat) := of_decide_eq_true h1
  refine zaC (zC (zT (zak (zT (z0 (o_d 3 [(14, pv 0 330), (13, pv 0 0), (12, pv 0 0)] (by kernel_rfl) (o_s (by refine z6 (v := .chan (some 1)) rfl rfl ?_; exact (zcb 0).trans rfl) ?_)))))))
  obtain ⟨x, hx, hdr, ht⟩ := zd6 (l := w) (i := i) (by omega)
  refine o_rcv (k := 1) (v := qH x) (b := (w.drop (i + 1) ++ w.take i).map qH) rfl (by show some (Blk.chan 200 (wc.map qH)) = some (Blk.chan 200 (qH x :: (w.drop (i + 1) ++ w.take i).map qH)); rw [(by rw [hwc, hdr]; rfl : wc = x :: (w.drop (i + 1) ++ w.take i))]; rfl) ?_
  refine o_b 2 [(4, pv 4 0)] [cr (zR p 1 2 e b), .chan 200 ((w.drop (i + 1) ++ w.take i).map qH), .map (hdM hd), slB zE (qV (w.take i)) q, cw [iv x.k, iv x.s, iv x.a, iv x.p, iv x.g, uv x.ka, uv x.kb]] (by kernel_rfl) (zF (zC (zT (zbq [cr (zR p 1 2 e b), .chan 200 ((w.drop (i + 1) ++ w.take i).map qH), .map (hdM hd), slB zE (qV (w.take i)) q, cw [iv x.k, iv x.s, iv x.a, iv x.p, iv x.g, uv x.ka, uv x.kb]] (by kernel_rfl) (d_n 3 3 5 [(19, pv 0 330), (18, pv 0 0), (17, pv 0 0)] [cr (zR p 1 2 e b), .chan 200 ((w.drop (i + 1) ++ w.take i).map qH), .map (hdM hd), slB zE (qV (w.take i)) q, cw [iv x.k, iv x.s, iv x.a, iv x.p, iv x.g, uv x.ka, uv x.kb]] [] (by kernel_rfl) rfl rfl (d_s rfl rfl rfl (by kernel_rfl) (by refine z6 (v := .chan (some 1)) rfl rfl ?_; exact (zcb 0).trans rfl) ?_))))))
  refine d_n 1 5 5 [(21, .agg #[iv x.k, iv x.s, iv x.a, iv x.p, iv x.g, uv x.ka, uv x.kb])] [cr (zR p 1 2 e b), .chan 200 ((w.drop (i + 1) ++ w.take i).map qH), .map (hdM hd), slB zE (qV (w.take i)) q, cw [iv x.k, iv x.s, iv x.a, iv x.p, iv x.g, uv x.ka, uv x.kb]] [⟨4, [4], [], none⟩, ⟨3, [0], [], none⟩] (by kernel_rfl) rfl rfl (d_snd (k := 1) (b := (w.drop (i + 1) ++ w.take i).map qH) (b2 := ((w.drop (i + 1) ++ w.take i) ++ [x]).map qH) rfl rfl rfl (by rw [List.length_map]; simp; omega) rfl (zhh (w.drop (i + 1) ++ w.take i) x) ?_)
  refine zbW (zC (z0 (o_b 3 [(24, sv 5 0 1 1), (23, .agg #[iv x.k, iv x.s, iv x.a, iv x.p, iv x.g, uv x.ka, uv x.kb]), (22, slV 3 i q)] [cr (zR p 1 2 e b), .chan 200 (((w.drop (i + 1) ++ w.take i) ++ [x]).map qH), .map (hdM hd), slB zE (qV (w.take i)) q, cw [iv x.k, iv x.s, iv x.a, iv x.p, iv x.g, uv x.ka, uv x.kb], cw [iv x.k, iv x.s, iv x.a, iv x.p, iv x.g, uv x.ka, uv x.kb]] (by kernel_rfl) (zhy (k := 3) (n := i) (o := q) (q := 1) (cs := qV (w.take i)) (xs := [iv x.k, iv x.s, iv x.a, iv x.p, iv x.g, uv x.ka, uv x.kb]) (cs2 := qV (w.take (i + 1))) (zl := zE) rfl rfl rfl (fun m q => by subst q; rfl) (fun z => by have h0 := hq z; subst h0; exact ⟨rfl, rfl⟩) (by rw [entsL_len]; first | omega | (simp; try omega)) rfl rfl (zbF rfl rfl (by simp)) (by rfl) (by omega) (by omega) (by rw [ht]; exact entsL_app1 _ x) (fun m2 e3 => ?_) (fun m2 => ?_)))))
  ·skip
   subst e3
   refine o_d 1 [(3, sv 3 0 (i + 1) (i + 1 + m2))] (by kernel_rfl) (zF (zC (z0 (o_s (by refine qL (v := .int .i64 (i64.wrap ((i : Int) + 1))) (congrArg (Value.int .i64) (w64 (by omega) (by omega))) ?_; kernel_rfl) ?_))))
   refine o_d 1 [(10, iv ((i : Int) + 1))] (by kernel_rfl) (zF (⟨w.length - (i + 1), ?_⟩))
   refine ⟨⟨reg [(10, iv ((i + 1) : Int)), (9, iv (w.length : Nat)), (3, slV 3 (i + 1) (some m2)), (0, pv 0 0)], [cr (zR p 1 2 e b), .chan 200 (((w.drop (i + 1) ++ w.take i) ++ [x]).map qH), .map (hdM hd), slB zE (qV (w.take (i + 1))) (some m2)]⟩, ?_⟩
   refine zgr (by omega) ⟨?_, ?_⟩
   ·exact Wk.ren [0, 1, 2, 3] rfl rfl (by decide) ⟨rfl, ⟨rfl, ⟨rfl, ⟨rfl, trivial⟩⟩⟩⟩ ⟨.inl (z3 rfl rfl), ⟨.inl (congrArg some (zU _).symm), ⟨.inl (congrArg some (qA _).symm), ⟨.inl (zO (zaD _ _)), trivial⟩⟩⟩⟩
   ·exact ⟨(i + 1), ((w.drop (i + 1) ++ w.take i) ++ [x]), (some m2), rfl, by omega, (by rw [ht, List.append_assoc]), (fun q => by cases q), rfl⟩
  refine o_d 1 [(3, sv 6 0 (i + 1) (i + 1 + m2))] (by kernel_rfl) (zF (zC (z0 (o_s (by refine qL (v := .int .i64 (i64.wrap ((i : Int) + 1))) (congrArg (Value.int .i64) (w64 (by omega) (by omega))) ?_; kernel_rfl) ?_))))
  refine o_d 1 [(10, iv ((i : Int) + 1))] (by kernel_rfl) (zF (⟨w.length - (i + 1), ?_⟩))
  refine ⟨⟨reg [(10, iv ((i + 1) : Int)), (9, iv (w.length : Nat)), (3, slV 3 (i + 1) (some m2)), (0, pv 0 0)], [cr (zR p 1 2 e b), .chan 200 (((w.drop (i + 1) ++ w.take i) ++ [x]).map qH), .map (hdM hd), slB zE (qV (w.take (i + 1))) (some m2)]⟩, ?_⟩
  refine zgr (by omega) ⟨?_, ?_⟩
  ·exact Wk.ren [0, 1, 2, 6] rfl rfl (by decide) ⟨rfl, ⟨rfl, ⟨rfl, ⟨rfl, trivial⟩⟩⟩⟩ ⟨.inl (z3 rfl rfl), ⟨.inl (congrArg some (zU _).symm), ⟨.inl (congrArg some (qA _).symm), ⟨.inl (zO (zaD _ _)), trivial⟩⟩⟩⟩
  ·exact ⟨(i + 1), ((w.drop (i + 1) ++ w.take i) ++ [x]), (some m2), rfl, by omega, (by rw [ht, List.append_assoc]), (fun q => by cases q), rfl⟩
 have h1' : ¬ ((i : Int) < (w.length : Nat)) := of_decide_eq_false h1
 refine zcU (zC (zT (z0 (o_d 2 [(2, slV 3 i q), (27, slV 3 i q)] (by kernel_rfl) (zF (zC (zbr ?_)))))))
 have hil : i = w.length := by omega
 have htk : w.take i = w := by rw [hil]; simp
 have hwc2 : wc = w := by rw [hwc, hil]; simp
 exact ⟨trivial, ⟨reg [(2, slV 3 i q)], [cr (zR p 1 2 e b), .chan 200 (wc.map qH), .map (hdM hd), slB zE (qV (w.take i)) q]⟩, Wk.ren [0, 1, 2, 3] rfl rfl (by decide) ⟨(za9 q rfl).trans rfl, trivial⟩ ⟨.inl (z3 rfl rfl), ⟨.inl (congrArg some (zU _).symm), ⟨.inl (congrArg some (qA _).symm), ⟨.inl (zaz q (fun _ => (zaD _ _))), trivial⟩⟩⟩⟩, [slV 3 i q], (qB rfl rfl), (zS (isTup_slV _ _ _) z1), q, (fun z => List.eq_nil_of_length_eq_zero (by have := hq z; omega)), (by rw [hil]; rfl), (by rw [hwc2, htk])⟩
theorem HpublishC {P : Program} (hc : za5 P) (h_pool_Apply : zaI P) (h_pool_may : zaP P) (h_pool_held : zaG P) (h_pool_fits : zaM P) (h_pool_Check : zaB P) (h_pool_placed : zai P) (h_cookie_Next : zaq P) (p : qO) (w : List Ent) (hd : List (Int × Int)) (e : Ent) (b : Bool) :
    Env P "(*roundhouse/head.Head).publish" [pv 0 0] ([cw (zR p 1 2 e b), .chan 200 (w.map qH), .map (hdM hd)]) (fun v h' => v = .tuple #[] ∧ h' = [cw (zR (pubS ⟨p, w, hd, e, b⟩).p 1 2 (pubS ⟨p, w, hd, e, b⟩).e (pubS ⟨p, w, hd, e, b⟩).s), .chan 200 ((pubS ⟨p, w, hd, e, b⟩).w.map qH), .map (hdM hd)]) := by
 refine Env.by2 hc ?_
 unfold zcD
 show GC _ 3 _ _ ⟨reg [(0, pv 0 0)], [cw (zR p 1 2 e b), .chan 200 (w.map qH), .map (hdM hd)]⟩
 refine zT (z0 (o_d 3 [(7, pv 0 330), (6, pv 0 0), (5, pv 0 0)] (by kernel_rfl) (o_s (by refine z6 (v := .chan (some 1)) rfl rfl ?_; exact (zcb 0).trans rfl) ?_)))
 refine zF (zC (zT (z0 ?_)))
 rcases w with _ | ⟨e1, r1⟩
 ·skip
  exact o_sel0 (k := 1) rfl rfl rfl (o_d 2 [(11, bv false), (10, iv (-1))] (by kernel_rfl) (zF (zC (zak (zbU rfl (zaC (⟨trivial, ⟨reg [], [cw (zR p 1 2 e b), .chan 200 (([] : List Ent).map qH), .map (hdM hd)]⟩, Wk.ren [0, 1, 2] rfl rfl (by decide) trivial ⟨.inl (z3 rfl rfl), ⟨.inl (congrArg some (zU _).symm), ⟨.inl (congrArg some (qA _).symm), trivial⟩⟩⟩, [], rfl, z1, rfl, rfl⟩)))))))
 ·skip
  refine o_sel1 (k := 1) (v := qH e1) (b := r1.map qH) rfl rfl (o_d 2 [(11, bv true), (10, iv 0)] (by kernel_rfl) (zF (zC (zak (zd5 rfl (zT (z0 (o_b 3 [(2, pv 3 0), (12, .agg #[iv e1.k, iv e1.s, iv e1.a, iv e1.p, iv e1.g, uv e1.ka, uv e1.kb])] [cw (zR p 1 2 e b), .chan 200 (r1.map qH), .map (hdM hd), cw [iv e1.k, iv e1.s, iv e1.a, iv e1.p, iv e1.g, uv e1.ka, uv e1.kb]] (by kernel_rfl) (zF (zC (zT (zdz ["roundhouse/pool.Apply"] (by kernel_rfl) ?_))))))))))))
  refine r_d 3 [(16, pv 0 0), (15, pv 0 0), (14, pv 0 0)] (by kernel_rfl) (r_s (by refine z6 (v := qG p) rfl rfl ?_; exact zep (zaU p)) ?_)
  refine r_d 1 [(18, .agg #[iv e1.k, iv e1.s, iv e1.a, iv e1.p, iv e1.g, uv e1.ka, uv e1.kb])] (by kernel_rfl) (r_cl (ziC (ApplyC h_pool_Apply h_pool_may h_pool_held h_pool_fits h_pool_Check h_pool_placed h_cookie_Next p e1) rfl (all_cons (zaA p) (all_cons rfl rfl)) (all_cons (zaL ((z2 p e1).1)) (all_cons rfl rfl)) (r_b 4 [(3, pv 4 0), (21, iv ((z2 p e1).2)), (20, qG ((z2 p e1).1)), (13, .tuple #[qG ((z2 p e1).1), iv ((z2 p e1).2)])] [cw (zR p 1 2 e b), .chan 200 (r1.map qH), .map (hdM hd), cw [iv e1.k, iv e1.s, iv e1.a, iv e1.p, iv e1.g, uv e1.ka, uv e1.kb], cw (pl zH)] (by kernel_rfl) (r_s0 (by refine qY (c' := pl ((z2 p e1).1)) rfl rfl rfl ?_ ?_ ?_; exact zN _; exact zeW (by omega); exact zae zH ((z2 p e1).1)) ?_))))
  refine r_b 1 [(4, iv ((z2 p e1).2))] [cw (zR p 1 2 e b), .chan 200 (r1.map qH), .map (hdM hd), cw [iv e1.k, iv e1.s, iv e1.a, iv e1.p, iv e1.g, uv e1.ka, uv e1.kb], cw (pl ((z2 p e1).1))] (by kernel_rfl) (zc7 (zC (zT (z0 (o_d 2 [(23, bv (((z2 p e1).2) == 0)), (22, iv ((z2 p e1).2))] (by kernel_rfl) (zF (zC (zaJ (t := ((z2 p e1).2) == 0) rfl (fun h1 => ?_) (fun h1 => ?_)))))))))
  ·skip
   have h1' : (z2 p e1).2 = 0 := zhf h1
   refine zbq [cw (zR p 1 2 e b), .chan 200 (r1.map qH), .map (hdM hd), cw [iv e1.k, iv e1.s, iv e1.a, iv e1.p, iv e1.g, uv e1.ka, uv e1.kb], cw (pl ((z2 p e1).1))] (by kernel_rfl) (d_n 3 3 5 [(26, pv 0 0), (25, pv 0 0), (24, pv 0 0)] [cw (zR p 1 2 e b), .chan 200 (r1.map qH), .map (hdM hd), cw [iv e1.k, iv e1.s, iv e1.a, iv e1.p, iv e1.g, uv e1.ka, uv e1.kb], cw (pl ((z2 p e1).1))] [] (by kernel_rfl) rfl rfl (d_s rfl rfl rfl (by kernel_rfl) (by refine z6 (v := qG ((z2 p e1).1)) rfl rfl ?_; exact zaU ((z2 p e1).1)) ?_))
   refine d_n 3 7 5 [(30, pv 0 0), (29, pv 0 0), (28, .agg #[iv e1.k, iv e1.s, iv e1.a, iv e1.p, iv e1.g, uv e1.ka, uv e1.kb])] [cw (zR p 1 2 e b), .chan 200 (r1.map qH), .map (hdM hd), cw [iv e1.k, iv e1.s, iv e1.a, iv e1.p, iv e1.g, uv e1.ka, uv e1.kb], cw (pl ((z2 p e1).1))] [⟨4, [3], [], none⟩, ⟨3, [4], [], none⟩] (by kernel_rfl) rfl rfl (d_s0 rfl rfl ⟨_, _, _, rfl⟩ (by kernel_rfl) (by refine qY (c' := zR ((z2 p e1).1) 1 2 e b) rfl rfl rfl ?_ ?_ ?_; exact zN _; exact head_le (by omega); exact head_wP) ?_)
   refine d_n 2 10 5 [(32, pv 0 332), (31, pv 0 0)] [cw (zR ((z2 p e1).1) 1 2 e b), .chan 200 (r1.map qH), .map (hdM hd), cw [iv e1.k, iv e1.s, iv e1.a, iv e1.p, iv e1.g, uv e1.ka, uv e1.kb], cw (pl ((z2 p e1).1))] [⟨7, [0], [0], none⟩, ⟨4, [3], [], none⟩, ⟨3, [4], [], none⟩] (by kernel_rfl) rfl rfl (d_s0 rfl rfl ⟨_, _, _, rfl⟩ (by kernel_rfl) (by refine qY (c' := zR ((z2 p e1).1) 1 2 e1 b) rfl rfl rfl ?_ ?_ ?_; exact rfl; exact head_le (by omega); exact head_wE (e' := e1)) ?_)
   refine d_n 2 13 5 [(34, pv 0 339), (33, pv 0 0)] [cw (zR ((z2 p e1).1) 1 2 e1 b), .chan 200 (r1.map qH), .map (hdM hd), cw [iv e1.k, iv e1.s, iv e1.a, iv e1.p, iv e1.g, uv e1.ka, uv e1.kb], cw (pl ((z2 p e1).1))] [⟨10, [0], [0], none⟩, ⟨7, [0], [0], none⟩, ⟨4, [3], [], none⟩, ⟨3, [4], [], none⟩] (by kernel_rfl) rfl rfl (d_s0 rfl rfl ⟨_, _, _, rfl⟩ (by kernel_rfl) (by refine qY (c' := zR ((z2 p e1).1) 1 2 e1 true) rfl rfl rfl ?_ ?_ ?_; exact rfl; exact head_le (by omega); exact head_wS) ?_)
   exact zbW (⟨trivial, ⟨reg [], [cw (zR ((z2 p e1).1) 1 2 e1 true), .chan 200 (r1.map qH), .map (hdM hd)]⟩, Wk.ren [0, 1, 2] rfl rfl (by decide) trivial ⟨.inl (z3 rfl rfl), ⟨.inl (congrArg some (zU _).symm), ⟨.inl (congrArg some (qA _).symm), trivial⟩⟩⟩, [], rfl, z1, rfl, (by simp only [pubS]; rw [if_pos h1'])⟩)
  have h1' : ¬ ((z2 p e1).2 = 0) := zhg h1
  exact zaC (⟨trivial, ⟨reg [], [cw (zR p 1 2 e b), .chan 200 (r1.map qH), .map (hdM hd)]⟩, Wk.ren [0, 1, 2] rfl rfl (by decide) trivial ⟨.inl (z3 rfl rfl), ⟨.inl (congrArg some (zU _).symm), ⟨.inl (congrArg some (qA _).symm), trivial⟩⟩⟩, [], rfl, z1, rfl, (by simp only [pubS]; rw [if_neg h1'])⟩)
theorem HNewC {P : Program} (hc : zdT P) (p : qO) (units : Int) :
    Env P "roundhouse/head.New" [qG p, iv units] ([]) (fun v h' => if units < 1 ∨ 16 < units then v = .tuple #[.pointer none, iv 14] ∧ h' = [] else v = .tuple #[pv 0 0, iv 0] ∧ h' = [cw (zR p 1 2 e0 false), .chan 200 (([] : List Ent).map qH), .map (hdM (List.replicate units.toNat (0, -1)))]) := by
 refine Env.by2 hc ?_
 unfold zhp
 show GC _ 0 _ _ ⟨reg [(0, qG p), (1, iv units)], []⟩
 refine zT (z0 (o_b 3 [(5, iv 0), (4, .pointer none), (2, pv 0 0)] [cw (pl p)] (by kernel_rfl) (zF (zC (zT (zT (z0 (o_d 3 [(10, bv (decide (units < 1))), (9, bv (decide (units < 1))), (8, iv units)] (by kernel_rfl) (o_sp (b := decide (units < 1)) 10 rfl (fun h1 => ?_) (fun h1 => ?_))))))))))
 ·skip
  have h1' : units < 1 := of_decide_eq_true h1
  exact o_d 3 [(13, bv true), (12, undef), (11, undef)] (by kernel_rfl) (zF (zC (zd5 rfl (zT (z0 (o_d 2 [(5, iv 14), (4, .pointer none)] (by kernel_rfl) (zF (zC (zbr (⟨trivial, ⟨reg [(4, .pointer none), (5, iv 14)], []⟩, Wk.ren [] rfl rfl (by decide) ⟨rfl, ⟨rfl, trivial⟩⟩ trivial, [.pointer none, iv 14], (qB rfl (qB rfl rfl)), (zS rfl (zS rfl z1)), (by show (if units < 1 ∨ 16 < units then _ else _); rw [if_pos (by omega)]; exact ⟨rfl, rfl⟩)⟩))))))))))
 have h1' : ¬ (units < 1) := of_decide_eq_false h1
 refine o_d 3 [(13, bv (decide (units > 16))), (12, bv (decide (units > 16))), (11, iv units)] (by kernel_rfl) (zF (zC (zaJ (t := decide (units > 16)) rfl (fun h2 => ?_) (fun h2 => ?_))))
 ·skip
  have h2' : units > 16 := of_decide_eq_true h2
  exact zT (z0 (o_d 2 [(5, iv 14), (4, .pointer none)] (by kernel_rfl) (zF (zC (zbr (⟨trivial, ⟨reg [(4, .pointer none), (5, iv 14)], []⟩, Wk.ren [] rfl rfl (by decide) ⟨rfl, ⟨rfl, trivial⟩⟩ trivial, [.pointer none, iv 14], (qB rfl (qB rfl rfl)), (zS rfl (zS rfl z1)), (by show (if units < 1 ∨ 16 < units then _ else _); rw [if_pos (by omega)]; exact ⟨rfl, rfl⟩)⟩))))))
 have h2' : ¬ (units > 16) := of_decide_eq_false h2
 refine zaC (zC (zT (zdz [] (by kernel_rfl) (r_s (by refine z6 (v := qG p) rfl rfl ?_; exact zaU p) ?_))))
 refine r_b 2 [(16, .map (some 2)), (15, .chan (some 1))] [cw (pl p), .chan 200 (([] : List Ent).map qH), .map (hdM ([]))] (by kernel_rfl) (r_s (by refine zck (c := zR p 1 2 e0 false) ?_; exact bld_head p 1 2) ?_)
 refine r_b 2 [(6, pv 3 0), (18, pv 3 0)] [cw (pl p), .chan 200 (([] : List Ent).map qH), .map (hdM ([])), cw (zR p 1 2 e0 false)] (by kernel_rfl) (zc7 (zC (zT (zT (z0 (o_d 2 [(20, iv 0), (19, iv units)] (by kernel_rfl) (zF (zC (zak (zdy (fun μ s => ∃ (i : Nat), ∃ (wv : List (Int × Int)), μ = units.toNat - i ∧ ((i : Int) ≤ units) ∧ (wv = List.replicate i (0, -1)) ∧ s = ⟨reg [(20, iv (i : Int)), (19, iv units), (6, pv 3 0)], [cw (pl p), .chan 200 (([] : List Ent).map qH), .map (hdM wv), cw (zR p 1 2 e0 false)]⟩) ⟨(units.toNat - 0), ?_⟩ ?_))))))))))
 ·skip
  refine ⟨⟨reg [(20, iv (0 : Int)), (19, iv units), (6, pv 3 0)], [cw (pl p), .chan 200 (([] : List Ent).map qH), .map (hdM ([])), cw (zR p 1 2 e0 false)]⟩, ?_⟩
  refine ⟨?_, ?_⟩
  ·exact Wk.ren [0, 1, 2, 3] rfl rfl (by decide) ⟨rfl, ⟨rfl, ⟨rfl, trivial⟩⟩⟩ ⟨.inl (zO (za7 p)), ⟨.inl (congrArg some (zU _).symm), ⟨.inl (congrArg some (qA _).symm), ⟨.inl (z3 rfl rfl), trivial⟩⟩⟩⟩
  ·exact ⟨0, ([]), rfl, (by omega), rfl, rfl⟩
 rintro μ s ⟨i, wv, rfl, hi, hwv, rfl⟩
 refine zT (z0 (o_d 1 [(21, bv (decide ((i : Int) < units)))] (by kernel_rfl) (zF (zC (zT (zaJ (t := decide ((i : Int) < units)) rfl (fun h3 => ?_) (fun h3 => ?_)))))))
 ·skip
  have h3' : (i : Int) < units := of_decide_eq_true h3
  refine zaC (zC (zT (zak (zT (z0 (o_d 2 [(7, iv (i : Int)), (22, iv (i : Int))] (by kernel_rfl) (zF (zC (z0 (o_d 3 [(25, pv 3 331), (24, pv 3 0), (23, pv 3 0)] (by kernel_rfl) (o_s (by refine z6 (v := .map (some 2)) rfl rfl ?_; exact (zcb 1).trans rfl) ?_)))))))))))
  refine o_d 2 [(28, .agg #[iv 0, iv (-1)]), (27, iv (i : Int))] (by kernel_rfl) (zeC (by exact run_mupA (hd := wv) (n := (i : Int)) (a := 0) (b := (-1)) rfl rfl rfl rfl (by rw [hwv]; simp)) ?_)
  refine zF (zC (z0 (o_s (by refine qL (v := .int .i64 (i64.wrap ((i : Int) + 1))) (congrArg (Value.int .i64) (w64 (by omega) (by omega))) ?_; kernel_rfl) ?_)))
  refine o_d 1 [(20, iv ((i : Int) + 1))] (by kernel_rfl) (zF (⟨units.toNat - (i + 1), ?_⟩))
  refine ⟨⟨reg [(20, iv ((i + 1) : Int)), (19, iv units), (6, pv 3 0)], [cw (pl p), .chan 200 (([] : List Ent).map qH), .map (hdM (wv ++ [(0, (-1))])), cw (zR p 1 2 e0 false)]⟩, ?_⟩
  refine zgr (by omega) ⟨?_, ?_⟩
  ·exact Wk.ren [0, 1, 2, 3] rfl rfl (by decide) ⟨rfl, ⟨rfl, ⟨rfl, trivial⟩⟩⟩ ⟨.inl (zO (za7 p)), ⟨.inl (congrArg some (zU _).symm), ⟨.inl (congrArg some (qA _).symm), ⟨.inl (z3 rfl rfl), trivial⟩⟩⟩⟩
  ·exact ⟨(i + 1), (wv ++ [(0, (-1))]), rfl, by omega, (by rw [hwv, List.replicate_succ']), rfl⟩
 have h3' : ¬ ((i : Int) < units) := of_decide_eq_false h3
 refine zcU (zC (zT (z0 (o_d 3 [(5, iv 0), (4, pv 3 0), (30, pv 3 0)] (by kernel_rfl) (zF (zC (zbr ?_)))))))
 have hwv2 : wv = List.replicate units.toNat (0, -1) := by rw [hwv, show i = units.toNat by omega]
 exact ⟨trivial, ⟨reg [(4, pv 0 0), (5, iv 0)], [cw (zR p 1 2 e0 false), .chan 200 (([] : List Ent).map qH), .map (hdM wv)]⟩, Wk.ren [3, 1, 2] rfl rfl (by decide) ⟨rfl, ⟨rfl, trivial⟩⟩ ⟨.inl (z3 rfl rfl), ⟨.inl (congrArg some (zU _).symm), ⟨.inl (congrArg some (qA _).symm), trivial⟩⟩⟩, [pv 0 0, iv 0], (qB rfl (qB rfl rfl)), (zS rfl (zS rfl z1)), (by show (if units < 1 ∨ 16 < units then _ else _); rw [if_neg (by omega)]; exact ⟨rfl, by rw [hwv2]⟩)⟩
theorem HheardC {P : Program} (hc : zbm P) (p : qO) (w : List Ent) (hd : List (Int × Int)) (e : Ent) (b : Bool) (u bt v : Int) (wh ak : Bool) (ne : Ent) (np : qO) :
    Env P "(*roundhouse/head.Head).Heard" [pv 0 0, ntV u bt v wh ak ne np] ([cw (zR p 1 2 e b), .chan 200 (w.map qH), .map (hdM hd)]) (fun v1 h' => v1 = .tuple #[] ∧ h' = [cw (zR p 1 2 e b), .chan 200 (w.map qH), .map (hdM (zbT hd ⟨u, bt, v, wh, ak, ne, np⟩))]) := by
 refine Env.by2 hc ?_
 unfold zdg
 show GC _ 3 _ _ ⟨reg [(0, pv 0 0), (1, ntV u bt v wh ak ne np)], [cw (zR p 1 2 e b), .chan 200 (w.map qH), .map (hdM hd)]⟩
 refine zT (z0 (o_b 1 [(3, pv 3 0)] [cw (zR p 1 2 e b), .chan 200 (w.map qH), .map (hdM hd), cw (ntF u bt v wh ak ne np)] (by kernel_rfl) (zF (zC (zT (zdz [] (by kernel_rfl) (r_d 3 [(10, pv 0 331), (9, pv 0 0), (8, pv 0 0)] (by kernel_rfl) (r_s (by refine z6 (v := .map (some 2)) rfl rfl ?_; exact (zcb 1).trans rfl) ?_))))))))
 refine r_d 1 [(12, pv 3 0)] (by kernel_rfl) (r_s (by refine z6 (v := iv u) rfl rfl ?_; exact zdx rfl) ?_)
 refine r_s (by exact run_lkuH2 (hd := hd) (n := u) rfl rfl rfl) ?_
 refine r_b 6 [(5, bv ((lkS hd u).2)), (4, pv 4 0), (16, bv ((lkS hd u).2)), (15, .agg #[iv ((lkS hd u).1.1), iv ((lkS hd u).1.2)]), (7, .tuple #[.agg #[iv ((lkS hd u).1.1), iv ((lkS hd u).1.2)], bv ((lkS hd u).2)])] [cw (zR p 1 2 e b), .chan 200 (w.map qH), .map (hdM hd), cw (ntF u bt v wh ak ne np), cw [iv ((lkS hd u).1.1), iv ((lkS hd u).1.2)]] (by kernel_rfl) (zc7 (zC (zT (zT (z0 (o_d 1 [(17, pv 3 4)] (by kernel_rfl) (o_s (by refine z6 (v := bv ak) rfl rfl ?_; exact zdx rfl) ?_)))))))
 refine o_d 2 [(20, bv (!ak)), (19, bv (!ak))] (by kernel_rfl) (o_sp (b := !ak) 20 rfl (fun h1 => ?_) (fun h1 => ?_))
 ·skip
  refine o_d 10 [(30, bv true), (29, undef), (28, undef), (27, undef), (26, undef), (25, undef), (24, bv true), (23, bv true), (22, undef), (21, undef)] (by kernel_rfl) (zF (z9 [(30, bv true), (4, pv 4 0), (3, pv 3 0), (0, pv 0 0)] (by kernel_rfl) (zd5 rfl (zbr ?_))))
  have hH : zbT hd ⟨u, bt, v, wh, ak, ne, np⟩ = hd := by
   refine (zfK hd ⟨u, bt, v, wh, ak, ne, np⟩).trans ?_
   show (if (!ak) = true then hd else if (!(lkS hd u).2) = true then hd else if decide (bt < (lkS hd u).1.1) = true then hd else if decide (bt > (lkS hd u).1.1) = true then hd.set u.toNat (bt, if (-1) > v then (-1) else v) else if decide ((if (-1) > v then (-1) else v) > (lkS hd u).1.2) = true then hd.set u.toNat (bt, if (-1) > v then (-1) else v) else hd.set u.toNat ((lkS hd u).1.1, (lkS hd u).1.2)) = _
   simp only [h1, if_true, if_false, Bool.false_eq_true]
  exact ⟨trivial, ⟨reg [], [cw (zR p 1 2 e b), .chan 200 (w.map qH), .map (hdM hd)]⟩, Wk.ren [0, 1, 2] rfl rfl (by decide) trivial ⟨.inl (z3 rfl rfl), ⟨.inl (congrArg some (zU _).symm), ⟨.inl (congrArg some (qA _).symm), trivial⟩⟩⟩, [], rfl, z1, rfl, (by rw [hH])⟩
 refine o_d 4 [(24, bv (!((lkS hd u).2))), (23, bv (!((lkS hd u).2))), (22, bv (!((lkS hd u).2))), (21, bv ((lkS hd u).2))] (by kernel_rfl) (o_sp (b := !((lkS hd u).2)) 24 rfl (fun h2 => ?_) (fun h2 => ?_))
 ·skip
  refine o_d 6 [(30, bv true), (29, undef), (28, undef), (27, undef), (26, undef), (25, undef)] (by kernel_rfl) (zF (z9 [(30, bv true), (4, pv 4 0), (3, pv 3 0), (0, pv 0 0)] (by kernel_rfl) (zd5 rfl (zbr ?_))))
  have hH : zbT hd ⟨u, bt, v, wh, ak, ne, np⟩ = hd := by
   refine (zfK hd ⟨u, bt, v, wh, ak, ne, np⟩).trans ?_
   show (if (!ak) = true then hd else if (!(lkS hd u).2) = true then hd else if decide (bt < (lkS hd u).1.1) = true then hd else if decide (bt > (lkS hd u).1.1) = true then hd.set u.toNat (bt, if (-1) > v then (-1) else v) else if decide ((if (-1) > v then (-1) else v) > (lkS hd u).1.2) = true then hd.set u.toNat (bt, if (-1) > v then (-1) else v) else hd.set u.toNat ((lkS hd u).1.1, (lkS hd u).1.2)) = _
   simp only [h1, h2, if_true, if_false, Bool.false_eq_true]
  exact ⟨trivial, ⟨reg [], [cw (zR p 1 2 e b), .chan 200 (w.map qH), .map (hdM hd)]⟩, Wk.ren [0, 1, 2] rfl rfl (by decide) trivial ⟨.inl (z3 rfl rfl), ⟨.inl (congrArg some (zU _).symm), ⟨.inl (congrArg some (qA _).symm), trivial⟩⟩⟩, [], rfl, z1, rfl, (by rw [hH])⟩
 refine o_d 1 [(25, pv 3 1)] (by kernel_rfl) (zd2 rfl (o_s (by refine z6 (v := iv bt) rfl rfl ?_; exact zdx rfl) ?_))
 refine o_d 4 [(30, bv (decide (bt < (lkS hd u).1.1))), (29, bv (decide (bt < (lkS hd u).1.1))), (28, iv ((lkS hd u).1.1)), (27, pv 4 0)] (by kernel_rfl) (zF (z9 [(30, bv (decide (bt < (lkS hd u).1.1))), (4, pv 4 0), (3, pv 3 0), (0, pv 0 0)] (by kernel_rfl) (zaJ (t := decide (bt < (lkS hd u).1.1)) rfl (fun h3 => ?_) (fun h3 => ?_))))
 ·skip
  have h3' : bt < (lkS hd u).1.1 := of_decide_eq_true h3
  refine zbr ?_
  have hH : zbT hd ⟨u, bt, v, wh, ak, ne, np⟩ = hd := by
   refine (zfK hd ⟨u, bt, v, wh, ak, ne, np⟩).trans ?_
   show (if (!ak) = true then hd else if (!(lkS hd u).2) = true then hd else if decide (bt < (lkS hd u).1.1) = true then hd else if decide (bt > (lkS hd u).1.1) = true then hd.set u.toNat (bt, if (-1) > v then (-1) else v) else if decide ((if (-1) > v then (-1) else v) > (lkS hd u).1.2) = true then hd.set u.toNat (bt, if (-1) > v then (-1) else v) else hd.set u.toNat ((lkS hd u).1.1, (lkS hd u).1.2)) = _
   simp only [h1, h2, h3, if_true, if_false, Bool.false_eq_true]
  exact ⟨trivial, ⟨reg [], [cw (zR p 1 2 e b), .chan 200 (w.map qH), .map (hdM hd)]⟩, Wk.ren [0, 1, 2] rfl rfl (by decide) trivial ⟨.inl (z3 rfl rfl), ⟨.inl (congrArg some (zU _).symm), ⟨.inl (congrArg some (qA _).symm), trivial⟩⟩⟩, [], rfl, z1, rfl, (by rw [hH])⟩
 have h3' : ¬ (bt < (lkS hd u).1.1) := of_decide_eq_false h3
 refine zaC (zC (zT (zT (z0 (o_d 1 [(31, pv 3 2)] (by kernel_rfl) (o_s (by refine z6 (v := iv v) rfl rfl ?_; exact zdx rfl) ?_))))))
 refine o_d 2 [(6, iv (if (-1) > v then (-1) else v)), (33, iv (if (-1) > v then (-1) else v))] (by kernel_rfl) (zF (zC (zT (z0 (o_d 1 [(34, pv 3 1)] (by kernel_rfl) (o_s (by refine z6 (v := iv bt) rfl rfl ?_; exact zdx rfl) ?_))))))
 refine o_d 4 [(39, bv (decide (bt > (lkS hd u).1.1))), (38, bv (decide (bt > (lkS hd u).1.1))), (37, iv ((lkS hd u).1.1)), (36, pv 4 0)] (by kernel_rfl) (o_sp (b := decide (bt > (lkS hd u).1.1)) 39 rfl (fun h4 => ?_) (fun h4 => ?_))
 ·skip
  have h4' : bt > (lkS hd u).1.1 := of_decide_eq_true h4
  refine o_d 5 [(44, bv true), (43, undef), (42, undef), (41, undef), (40, undef)] (by kernel_rfl) (zF (zC (zd5 rfl (z0 (o_d 1 [(45, pv 3 1)] (by kernel_rfl) (o_s (by refine z6 (v := iv bt) rfl rfl ?_; exact zdx rfl) ?_))))))
  refine o_b 3 [(48, .agg #[iv bt, iv (if (-1) > v then (-1) else v)]), (47, iv (if (-1) > v then (-1) else v))] [cw (zR p 1 2 e b), .chan 200 (w.map qH), .map (hdM hd), cw (ntF u bt v wh ak ne np), cw [iv bt, iv (if (-1) > v then (-1) else v)]] (by kernel_rfl) (zF (z9 [(4, pv 4 0), (3, pv 3 0), (0, pv 0 0)] (by kernel_rfl) (zdz [] (by kernel_rfl) (r_d 3 [(51, pv 0 331), (50, pv 0 0), (49, pv 0 0)] (by kernel_rfl) (r_s (by refine z6 (v := .map (some 2)) rfl rfl ?_; exact (zcb 1).trans rfl) ?_)))))
  refine r_d 1 [(53, pv 3 0)] (by kernel_rfl) (r_s (by refine z6 (v := iv u) rfl rfl ?_; exact zdx rfl) ?_)
  refine r_d 1 [(55, .agg #[iv bt, iv (if (-1) > v then (-1) else v)])] (by kernel_rfl) (r_s0 (by exact run_mupS (hd := hd) (n := u) (a := bt) (b := (if (-1) > v then (-1) else v)) rfl rfl rfl rfl (by exact lkS_in (by assumption))) ?_)
  refine zc7 ?_
  have hH : zbT hd ⟨u, bt, v, wh, ak, ne, np⟩ = hd.set u.toNat (bt, (if (-1) > v then (-1) else v)) := by
   refine (zfK hd ⟨u, bt, v, wh, ak, ne, np⟩).trans ?_
   show (if (!ak) = true then hd else if (!(lkS hd u).2) = true then hd else if decide (bt < (lkS hd u).1.1) = true then hd else if decide (bt > (lkS hd u).1.1) = true then hd.set u.toNat (bt, if (-1) > v then (-1) else v) else if decide ((if (-1) > v then (-1) else v) > (lkS hd u).1.2) = true then hd.set u.toNat (bt, if (-1) > v then (-1) else v) else hd.set u.toNat ((lkS hd u).1.1, (lkS hd u).1.2)) = _
   simp only [h1, h2, h3, h4, if_true, if_false, Bool.false_eq_true]
  exact ⟨trivial, ⟨reg [], [cw (zR p 1 2 e b), .chan 200 (w.map qH), .map (hdM (hd.set u.toNat (bt, (if (-1) > v then (-1) else v))))]⟩, Wk.ren [0, 1, 2] rfl rfl (by decide) trivial ⟨.inl (z3 rfl rfl), ⟨.inl (congrArg some (zU _).symm), ⟨.inl (congrArg some (qA _).symm), trivial⟩⟩⟩, [], rfl, z1, rfl, (by rw [hH])⟩
 have h4' : ¬ (bt > (lkS hd u).1.1) := of_decide_eq_false h4
 refine o_d 5 [(44, bv (decide ((if (-1) > v then (-1) else v) > (lkS hd u).1.2))), (43, bv (decide ((if (-1) > v then (-1) else v) > (lkS hd u).1.2))), (42, iv ((lkS hd u).1.2)), (41, pv 4 1), (40, iv (if (-1) > v then (-1) else v))] (by kernel_rfl) (zF (zC (zaJ (t := decide ((if (-1) > v then (-1) else v) > (lkS hd u).1.2)) rfl (fun h5 => ?_) (fun h5 => ?_))))
 ·skip
  have h5' : (if (-1) > v then (-1) else v) > (lkS hd u).1.2 := of_decide_eq_true h5
  refine z0 (o_d 1 [(45, pv 3 1)] (by kernel_rfl) (o_s (by refine z6 (v := iv bt) rfl rfl ?_; exact zdx rfl) ?_))
  refine o_b 3 [(48, .agg #[iv bt, iv (if (-1) > v then (-1) else v)]), (47, iv (if (-1) > v then (-1) else v))] [cw (zR p 1 2 e b), .chan 200 (w.map qH), .map (hdM hd), cw (ntF u bt v wh ak ne np), cw [iv bt, iv (if (-1) > v then (-1) else v)]] (by kernel_rfl) (zF (z9 [(4, pv 4 0), (3, pv 3 0), (0, pv 0 0)] (by kernel_rfl) (zdz [] (by kernel_rfl) (r_d 3 [(51, pv 0 331), (50, pv 0 0), (49, pv 0 0)] (by kernel_rfl) (r_s (by refine z6 (v := .map (some 2)) rfl rfl ?_; exact (zcb 1).trans rfl) ?_)))))
  refine r_d 1 [(53, pv 3 0)] (by kernel_rfl) (r_s (by refine z6 (v := iv u) rfl rfl ?_; exact zdx rfl) ?_)
  refine r_d 1 [(55, .agg #[iv bt, iv (if (-1) > v then (-1) else v)])] (by kernel_rfl) (r_s0 (by exact run_mupS (hd := hd) (n := u) (a := bt) (b := (if (-1) > v then (-1) else v)) rfl rfl rfl rfl (by exact lkS_in (by assumption))) ?_)
  refine zc7 ?_
  have hH : zbT hd ⟨u, bt, v, wh, ak, ne, np⟩ = hd.set u.toNat (bt, (if (-1) > v then (-1) else v)) := by
   refine (zfK hd ⟨u, bt, v, wh, ak, ne, np⟩).trans ?_
   show (if (!ak) = true then hd else if (!(lkS hd u).2) = true then hd else if decide (bt < (lkS hd u).1.1) = true then hd else if decide (bt > (lkS hd u).1.1) = true then hd.set u.toNat (bt, if (-1) > v then (-1) else v) else if decide ((if (-1) > v then (-1) else v) > (lkS hd u).1.2) = true then hd.set u.toNat (bt, if (-1) > v then (-1) else v) else hd.set u.toNat ((lkS hd u).1.1, (lkS hd u).1.2)) = _
   simp only [h1, h2, h3, h4, h5, if_true, if_false, Bool.false_eq_true]
  exact ⟨trivial, ⟨reg [], [cw (zR p 1 2 e b), .chan 200 (w.map qH), .map (hdM (hd.set u.toNat (bt, (if (-1) > v then (-1) else v))))]⟩, Wk.ren [0, 1, 2] rfl rfl (by decide) trivial ⟨.inl (z3 rfl rfl), ⟨.inl (congrArg some (zU _).symm), ⟨.inl (congrArg some (qA _).symm), trivial⟩⟩⟩, [], rfl, z1, rfl, (by rw [hH])⟩
 have h5' : ¬ ((if (-1) > v then (-1) else v) > (lkS hd u).1.2) := of_decide_eq_false h5
 refine zaC (zC (zdz [] (by kernel_rfl) (r_d 3 [(51, pv 0 331), (50, pv 0 0), (49, pv 0 0)] (by kernel_rfl) (r_s (by refine z6 (v := .map (some 2)) rfl rfl ?_; exact (zcb 1).trans rfl) ?_))))
 refine r_d 1 [(53, pv 3 0)] (by kernel_rfl) (r_s (by refine z6 (v := iv u) rfl rfl ?_; exact zdx rfl) ?_)
 refine r_d 1 [(55, .agg #[iv ((lkS hd u).1.1), iv ((lkS hd u).1.2)])] (by kernel_rfl) (r_s0 (by exact run_mupS (hd := hd) (n := u) (a := (lkS hd u).1.1) (b := (lkS hd u).1.2) rfl rfl rfl rfl (by exact lkS_in (by assumption))) ?_)
 refine zc7 ?_
 have hH : zbT hd ⟨u, bt, v, wh, ak, ne, np⟩ = hd.set u.toNat ((lkS hd u).1.1, (lkS hd u).1.2) := by
  refine (zfK hd ⟨u, bt, v, wh, ak, ne, np⟩).trans ?_
  show (if (!ak) = true then hd else if (!(lkS hd u).2) = true then hd else if decide (bt < (lkS hd u).1.1) = true then hd else if decide (bt > (lkS hd u).1.1) = true then hd.set u.toNat (bt, if (-1) > v then (-1) else v) else if decide ((if (-1) > v then (-1) else v) > (lkS hd u).1.2) = true then hd.set u.toNat (bt, if (-1) > v then (-1) else v) else hd.set u.toNat ((lkS hd u).1.1, (lkS hd u).1.2)) = _
  simp only [h1, h2, h3, h4, h5, if_true, if_false, Bool.false_eq_true]
 exact ⟨trivial, ⟨reg [], [cw (zR p 1 2 e b), .chan 200 (w.map qH), .map (hdM (hd.set u.toNat ((lkS hd u).1.1, (lkS hd u).1.2)))]⟩, Wk.ren [0, 1, 2] rfl rfl (by decide) trivial ⟨.inl (z3 rfl rfl), ⟨.inl (congrArg some (zU _).symm), ⟨.inl (congrArg some (qA _).symm), trivial⟩⟩⟩, [], rfl, z1, rfl, (by rw [hH])⟩
end Go.Rh

set_option maxHeartbeats 8000000
namespace Go.Rh
def zdI : IFunc := ⟨76, [.tmp 2], (.seq (.reg [kq 2 (.mv (.c (.slice none 0 0)))]) (.seq (.seq (.reg [km 7 0, kq 8 (.call "(*roundhouse/head.Head).all" [(.t 7)])]) (.cond (.t 8) (.reg [km 9 0, kq 10 (.call "(*roundhouse/head.Head).publish" [(.t 9)])]) .skip)) (.seq (.reg [kq 3 (.mv (.c (.slice none 0 0)))]) (.seq (.seq (.reg [km 11 0, kq 12 (.nilc (.t 11)), kq 13 (.fad 331 (.t 12)), kq 14 (.ld none (.t 13)), kq 15 (.lenM (.t 14)), kq 16 (.mv (ki 0))]) (.block 0 (.loop (.seq (.reg [kq 17 (.bin .lss (.t 16) (.t 15))]) (.seq (.cond (.t 17) .skip (.exit 0)) (.seq (.block 1 (.seq (.reg [km 18 16, km 4 18]) (.seq (.reg [km 19 0, kq 20 (.nilc (.t 19)), kq 21 (.fad 331 (.t 20)), kq 22 (.ld none (.t 21)), km 23 4, kq 24 (.lku .i [(2, (.int .i64 0))] true false (.t 22) (.t 23)), kq 5 (.new [(2, (.int .i64 0))]), ku (.st 2 (.t 5) (.t 24))]) (.seq (.dreg [km 25 4, kq 26 (.fad 0 (.t 5)), kq 27 (.ld none (.t 26)), km 28 0, kq 29 (.nilc (.t 28)), kq 30 (.fad 0 (.t 29)), kq 31 (.fad 0 (.t 30)), kq 32 (.ld none (.t 31)), kq 33 (.bld kB [(0, 1, (.t 25)), (1, 1, (.t 27)), (2, 1, (.t 32))]), kq 6 (.new kB), ku (.st 342 (.t 6) (.t 33))] [[], [], [1], [], [3], [4, 3], [5, 4, 3], [6, 5, 4, 3], [0, 2, 1, 7, 6, 5, 4, 3], [], [9, 8, 0, 2, 1, 7, 6, 5, 4, 3]]) (.seq (.block 2 (.seq (.dreg [kq 41 (.fad 1 (.t 5)), kq 42 (.ld none (.t 41)), km 43 0, kq 44 (.nilc (.t 43)), kq 45 (.fad 0 (.t 44)), kq 46 (.fad 0 (.t 45)), kq 47 (.ld none (.t 46)), kq 48 (.bin .geq (.t 42) (.t 47)), km 40 48] [[], [0], [], [2], [3, 2], [4, 3, 2], [5, 4, 3, 2], [1, 0, 6, 5, 4, 3, 2], [7, 1, 0, 6, 5, 4, 3, 2]]) (.cond (.t 40) (.exit 1) (.seq (.dreg [kq 50 (.fad 1 (.t 5)), kq 51 (.ld none (.t 50)), km 52 0, kq 53 (.nilc (.t 52)), kq 54 (.fad 0 (.t 53)), kq 55 (.fad 0 (.t 54)), kq 56 (.ld none (.t 55)), kq 57 (.bin .sub (.t 56) (ki 1)), kq 58 (.bin .eql (.t 51) (.t 57)), km 59 58, kg 60 (.mv (.t 0)) 59 true, kg 61 (.nilc (.t 60)) 59 true, kg 62 (.fad 339 (.t 61)) 59 true, kg 63 (.ld none (.t 62)) 59 true, kq 64 (.pick (.t 59) (.t 63) kF), km 49 64] [[], [0], [], [2], [3, 2], [4, 3, 2], [5, 4, 3, 2], [6, 5, 4, 3, 2], [1, 0, 7, 6, 5, 4, 3, 2], [8, 1, 0, 7, 6, 5, 4, 3, 2], [9, 8, 1, 0, 7, 6, 5, 4, 3, 2], [10, 9, 8, 1, 0, 7, 6, 5, 4, 3, 2], [11, 10, 9, 8, 1, 0, 7, 6, 5, 4, 3, 2], [12, 11, 10, 9, 8, 1, 0, 7, 6, 5, 4, 3, 2], [9, 8, 1, 0, 7, 6, 5, 4, 3, 2, 13, 12, 11, 10], [14, 9, 8, 1, 0, 7, 6, 5, 4, 3, 2, 13, 12, 11, 10]]) (.cond (.t 49) (.reg [km 65 0, kq 66 (.nilc (.t 65)), kq 67 (.fad 332 (.t 66)), kq 68 (.ld (some 7) (.t 67)), kq 69 (.fad 5 (.t 6)), ku (.st 7 (.t 69) (.t 68))]) (.dreg [km 34 0, kq 35 (.nilc (.t 34)), kq 36 (.fad 0 (.t 35)), kq 37 (.ld (some 330) (.t 36)), kq 38 (.fad 3 (.t 6)), ku (.st 1 (.t 38) kT), kq 39 (.fad 12 (.t 6)), ku (.st 330 (.t 39) (.t 37))] [[], [0], [1, 0], [2, 1, 0], [], [4], [0, 1, 2, 3, 4, 5], [6, 0, 1, 2, 3, 4, 5]])))))) (.reg [km 70 3, kq 71 (.ld (some 342) (.t 6)), kq 72 (.bsl kB 342 1 [(0, 342, (.t 71))]), kq 73 (.app kB 342 2728 (.t 70) (.t 72)), km 3 73])))))) (.reg [kq 74 (.bin .add (.t 16) (ki 1)), km 16 74]))))))) (.seq (.reg [km 75 3, km 2 75]) .ret)))))⟩
abbrev zbR (P : Program) : Prop := zX P "(*roundhouse/head.Head).Send" = some zdI
theorem zd3 {x : HS} {hd : List (Int × Int)} (hxh : x.hd = hd) {i : Nat} (h : (lkS hd (i : Int)).1.2 ≥ x.p 0) : zg8 x i = none := by
 subst hxh; simp only [zg8]; rw [if_pos h]
theorem zeM {x : HS} {hd : List (Int × Int)} (hxh : x.hd = hd) {i : Nat} (h : ¬ (lkS hd (i : Int)).1.2 ≥ x.p 0) (h2 : (lkS hd (i : Int)).1.2 = i64.wrap (x.p 0 - 1)) (h3 : x.s = true) : zg8 x i = some ⟨(i : Int), (lkS hd (i : Int)).1.1, x.p 0, false, false, x.e, zH⟩ := by
 subst hxh; simp only [zg8]; rw [if_neg h, if_pos ⟨h2, h3⟩]
theorem zc8 {x : HS} {hd : List (Int × Int)} (hxh : x.hd = hd) {i : Nat} (h : ¬ (lkS hd (i : Int)).1.2 ≥ x.p 0) (h2 : ¬ ((lkS hd (i : Int)).1.2 = i64.wrap (x.p 0 - 1) ∧ x.s = true)) : zg8 x i = some ⟨(i : Int), (lkS hd (i : Int)).1.1, x.p 0, true, false, e0, x.p⟩ := by
 subst hxh; simp only [zg8]; rw [if_neg h, if_neg h2]
theorem HsendC {P : Program} (hc : zbR P) (h_head_Head_all : zbC P) (h_head_Head_publish : za5 P) (h_pool_Apply : zaI P) (h_pool_may : zaP P) (h_pool_held : zaG P) (h_pool_fits : zaM P) (h_pool_Check : zaB P) (h_pool_placed : zai P) (h_cookie_Next : zaq P) (p : qO) (w : List Ent) (hd : List (Int × Int)) (e : Ent) (b : Bool) (hh : hd.length ≤ 1000) :
    Env P "(*roundhouse/head.Head).Send" [pv 0 0] ([cw (zR p 1 2 e b), .chan 200 (w.map qH), .map (hdM hd)]) (fun v1 h' => ∃ q : Option Nat, (q = none → (zal (HS.mk p w hd e b)).2 = []) ∧ v1 = slV 3 (zal (HS.mk p w hd e b)).2.length q ∧ h' = [cw (zR (zal (HS.mk p w hd e b)).1.p 1 2 (zal (HS.mk p w hd e b)).1.e (zal (HS.mk p w hd e b)).1.s), .chan 200 ((zal (HS.mk p w hd e b)).1.w.map qH), .map (hdM hd), slB zNt (zaX (zal (HS.mk p w hd e b)).2) q]) := by
 refine Env.by2 hc ?_
 unfold zdI
 show GC _ 3 _ _ ⟨reg [(0, pv 0 0)], [cw (zR p 1 2 e b), .chan 200 (w.map qH), .map (hdM hd)]⟩
 refine zT (z0 (o_d 1 [(2, .slice none 0 0)] (by kernel_rfl) (zF (zC (gcut (fun s => ∃ (x : HS), 0 = 0 ∧ (x = goS (HS.mk p w hd e b)) ∧ (x.hd = hd) ∧ s = ⟨reg [(0, pv 0 0)], [cw (zR x.p 1 2 x.e x.s), .chan 200 (x.w.map qH), .map (hdM hd)]⟩) ?_ ?_)))))
 ·skip
  refine zT (z0 (o_d 1 [(7, pv 0 0)] (by kernel_rfl) (zbO (callG [0, 1, 2] [cr (zR p 1 2 e b), .chan 200 (w.map qH), .map (hdM hd)] [pv 0 0] (HallC h_head_Head_all p w hd e b) rfl rfl ⟨⟨_, rfl, zb4 rfl rfl (fun _ => rfl)⟩, ⟨_, rfl, zb5 _⟩, ⟨_, rfl, zcP _⟩, trivial⟩ (by decide) ?_))))
  rintro v1 h1' ⟨rfl, rfl⟩
  refine ⟨bv (allW hd (p 0)), [cw (zR p 1 2 e b), .chan 200 (w.map qH), .map (hdM hd)], [], rfl, ⟨rfl, ⟨zU _, ⟨qA _, trivial⟩⟩⟩, trivial, ?_⟩
  refine zF (zC (zaJ (t := allW hd (p 0)) rfl (fun h1 => ?_) (fun h1 => ?_)))
  ·skip
   refine z0 (o_d 1 [(9, pv 0 0)] (by kernel_rfl) (zbO (callG [0, 1, 2] [cw (zR p 1 2 e b), .chan 200 (w.map qH), .map (hdM hd)] [pv 0 0] (HpublishC h_head_Head_publish h_pool_Apply h_pool_may h_pool_held h_pool_fits h_pool_Check h_pool_placed h_cookie_Next p w hd e b) rfl rfl ⟨⟨_, rfl, zb4 rfl rfl (fun _ => rfl)⟩, ⟨_, rfl, zb5 _⟩, ⟨_, rfl, zcP _⟩, trivial⟩ (by decide) ?_)))
   rintro v1 h1' ⟨rfl, rfl⟩
   refine ⟨.tuple #[], [cw (zR ((pubS ⟨p, w, hd, e, b⟩).p) 1 2 ((pubS ⟨p, w, hd, e, b⟩).e) ((pubS ⟨p, w, hd, e, b⟩).s)), .chan 200 (((pubS ⟨p, w, hd, e, b⟩).w).map qH), .map (hdM hd)], [], (by simp [zbw]), ⟨zb7 rfl rfl, ⟨zU _, ⟨qA _, trivial⟩⟩⟩, trivial, ?_⟩
   refine zF (⟨⟨reg [(0, pv 0 0)], [cw (zR (pubS (HS.mk p w hd e b)).p 1 2 (pubS (HS.mk p w hd e b)).e (pubS (HS.mk p w hd e b)).s), .chan 200 ((pubS (HS.mk p w hd e b)).w.map qH), .map (hdM hd)]⟩, ?_⟩)
   refine ⟨?_, ?_⟩
   ·exact Wk.ren [0, 1, 2] rfl rfl (by decide) ⟨rfl, trivial⟩ ⟨.inl (z3 rfl rfl), ⟨.inl (congrArg some (zU _).symm), ⟨.inl (congrArg some (qA _).symm), trivial⟩⟩⟩
   ·exact ⟨(pubS (HS.mk p w hd e b)), rfl, (by simp only [goS]; first | rw [if_pos (by assumption)] | rw [if_neg (by simp_all)]), (by first | rfl | exact pubS_hd _), rfl⟩
  refine zaC (⟨⟨reg [(0, pv 0 0)], [cw (zR (HS.mk p w hd e b).p 1 2 (HS.mk p w hd e b).e (HS.mk p w hd e b).s), .chan 200 ((HS.mk p w hd e b).w.map qH), .map (hdM hd)]⟩, ?_⟩)
  refine ⟨?_, ?_⟩
  ·exact Wk.ren [0, 1, 2] rfl rfl (by decide) ⟨rfl, trivial⟩ ⟨.inl (z3 rfl rfl), ⟨.inl (congrArg some (zU _).symm), ⟨.inl (congrArg some (qA _).symm), trivial⟩⟩⟩
  ·exact ⟨(HS.mk p w hd e b), rfl, (by simp only [goS]; first | rw [if_pos (by assumption)] | rw [if_neg (by simp_all)]), (by first | rfl | exact pubS_hd _), rfl⟩
 rintro s ⟨x, -, hx, hxh, rfl⟩
 refine zT (z0 (o_d 1 [(3, .slice none 0 0)] (by kernel_rfl) (zF (zC (zT (zT (z0 (o_d 3 [(13, pv 0 331), (12, pv 0 0), (11, pv 0 0)] (by kernel_rfl) (o_s (by refine z6 (v := .map (some 2)) rfl rfl ?_; exact (zcb 1).trans rfl) ?_)))))))))
 refine o_s (by exact run_lenH (hd := hd) rfl rfl) ?_
 refine o_d 1 [(16, iv 0)] (by kernel_rfl) (zF (zC (zak (zdy (fun μ s => ∃ (i : Nat), ∃ (l : List Nt), ∃ (n : Nat), ∃ (q : Option Nat), μ = hd.length - i ∧ (i ≤ hd.length) ∧ (l = zcS x i) ∧ (l.length = n ∧ n ≤ i) ∧ (q = none → n = 0) ∧ s = ⟨reg [(16, iv (i : Int)), (15, iv (hd.length : Nat)), (3, slV 3 n q), (0, pv 0 0)], [cw (zR x.p 1 2 x.e x.s), .chan 200 (x.w.map qH), .map (hdM hd), slB zNt (zaX l) q]⟩) ⟨(hd.length - 0), ?_⟩ ?_))))
 ·skip
  refine ⟨⟨reg [(16, iv (0 : Int)), (15, iv (hd.length : Nat)), (3, slV 3 0 none), (0, pv 0 0)], [cw (zR x.p 1 2 x.e x.s), .chan 200 (x.w.map qH), .map (hdM hd), slB zNt (zaX ([])) none]⟩, ?_⟩
  refine ⟨?_, ?_⟩
  ·exact Wk.ren [0, 1, 2, 6] rfl rfl (by decide) ⟨rfl, ⟨rfl, ⟨rfl, ⟨rfl, trivial⟩⟩⟩⟩ ⟨.inl (z3 rfl rfl), ⟨.inl (congrArg some (zU _).symm), ⟨.inl (congrArg some (qA _).symm), ⟨.inr ⟨rfl, rfl⟩, trivial⟩⟩⟩⟩
  ·exact ⟨0, ([]), 0, none, rfl, (Nat.zero_le _), rfl, ⟨rfl, Nat.le_refl _⟩, (fun _ => rfl), rfl⟩
 rintro μ s ⟨i, l, n, q, rfl, hi, hl, hn, hq, rfl⟩
 refine zT (z0 (o_d 1 [(17, bv (decide ((i : Int) < (hd.length : Nat))))] (by kernel_rfl) (zF (zC (zT (zaJ (t := decide ((i : Int) < (hd.length : Nat))) rfl (fun h2 => ?_) (fun h2 => ?_)))))))
 ·skip
  have h2' : (i : Int) < (hd.length : Nat) := of_decide_eq_true h2
  refine zaC (zC (zT (zak (zT (z0 (o_d 2 [(4, iv (i : Int)), (18, iv (i : Int))] (by kernel_rfl) (zF (zC (zT (z0 (o_d 3 [(21, pv 0 331), (20, pv 0 0), (19, pv 0 0)] (by kernel_rfl) (o_s (by refine z6 (v := .map (some 2)) rfl rfl ?_; exact (zcb 1).trans rfl) ?_))))))))))))
  refine o_d 1 [(23, iv (i : Int))] (by kernel_rfl) (o_s (by exact run_lkuH (hd := hd) (n := (i : Int)) rfl rfl rfl) ?_)
  refine o_b 2 [(5, pv 4 0)] [cw (zR x.p 1 2 x.e x.s), .chan 200 (x.w.map qH), .map (hdM hd), slB zNt (zaX l) q, cw [iv ((lkS hd (i : Int)).1.1), iv ((lkS hd (i : Int)).1.2)]] (by kernel_rfl) (zF (zC (zT (zdz [] (by kernel_rfl) (r_d 7 [(31, pv 0 0), (30, pv 0 0), (29, pv 0 0), (28, pv 0 0), (27, iv ((lkS hd (i : Int)).1.1)), (26, pv 4 0), (25, iv (i : Int))] (by kernel_rfl) (r_s (by refine z6 (v := iv (x.p 0)) rfl rfl ?_; exact zep (pl_r x.p 0 rfl (by omega))) ?_))))))
  refine r_s (by refine zck (c := ntF (i : Int) ((lkS hd (i : Int)).1.1) (x.p 0) false false e0 zH) ?_; exact zhF rfl) ?_
  refine r_b 1 [(6, pv 5 0)] [cw (zR x.p 1 2 x.e x.s), .chan 200 (x.w.map qH), .map (hdM hd), slB zNt (zaX l) q, cw [iv ((lkS hd (i : Int)).1.1), iv ((lkS hd (i : Int)).1.2)], cw (ntF 0 0 0 false false e0 zH)] (by kernel_rfl) (r_s0 (by refine qY (c' := ntF (i : Int) ((lkS hd (i : Int)).1.1) (x.p 0) false false e0 zH) rfl rfl rfl ?_ ?_ ?_; exact z8 _ _ _ _ _ _ _; exact zcR (by omega); exact zbh) ?_)
  refine zc7 (zC (zT (zak (zT (zdz [] (by kernel_rfl) (r_d 6 [(46, pv 0 0), (45, pv 0 0), (44, pv 0 0), (43, pv 0 0), (42, iv ((lkS hd (i : Int)).1.2)), (41, pv 4 1)] (by kernel_rfl) (r_s (by refine z6 (v := iv (x.p 0)) rfl rfl ?_; exact zep (pl_r x.p 0 rfl (by omega))) ?_)))))))
  refine r_d 2 [(40, bv (decide ((lkS hd (i : Int)).1.2 ≥ x.p 0))), (48, bv (decide ((lkS hd (i : Int)).1.2 ≥ x.p 0)))] (by kernel_rfl) (zc7 (z9 [(40, bv (decide ((lkS hd (i : Int)).1.2 ≥ x.p 0))), (6, pv 5 0), (5, pv 4 0), (16, iv (i : Int)), (15, iv (hd.length : Nat)), (3, slV 3 n q), (0, pv 0 0)] (by kernel_rfl) (zaJ (t := decide ((lkS hd (i : Int)).1.2 ≥ x.p 0)) rfl (fun h3 => ?_) (fun h3 => ?_))))
  ·skip
   have h3' : (lkS hd (i : Int)).1.2 ≥ x.p 0 := of_decide_eq_true h3
   refine zcU (zC (z0 (o_s (by refine qL (v := .int .i64 (i64.wrap ((i : Int) + 1))) (congrArg (Value.int .i64) (w64 (by omega) (by omega))) ?_; kernel_rfl) ?_)))
   refine o_d 1 [(16, iv ((i : Int) + 1))] (by kernel_rfl) (zF (⟨hd.length - (i + 1), ?_⟩))
   refine ⟨⟨reg [(16, iv ((i + 1) : Int)), (15, iv (hd.length : Nat)), (3, slV 3 n q), (0, pv 0 0)], [cw (zR x.p 1 2 x.e x.s), .chan 200 (x.w.map qH), .map (hdM hd), slB zNt (zaX l) q]⟩, ?_⟩
   refine zgr (by omega) ⟨?_, ?_⟩
   ·exact Wk.ren [0, 1, 2, 3] rfl rfl (by decide) ⟨rfl, ⟨rfl, ⟨((za9 q rfl)).trans rfl, ⟨rfl, trivial⟩⟩⟩⟩ ⟨.inl (z3 rfl rfl), ⟨.inl (congrArg some (zU _).symm), ⟨.inl (congrArg some (qA _).symm), ⟨.inl (zaz q (fun _ => (zcs _ _))), trivial⟩⟩⟩⟩
   ·exact ⟨(i + 1), l, n, q, rfl, by omega, (by first | (rw [zb9 (zd3 hxh (by assumption)), ← hl]) | (rw [zaH (zeM hxh (by assumption) (by assumption) (by assumption)), ← hl]) | (rw [zaH (zc8 hxh (by assumption) (by simp_all)), ← hl])), ⟨hn.1, by omega⟩, hq, rfl⟩
  have h3' : ¬ ((lkS hd (i : Int)).1.2 ≥ x.p 0) := of_decide_eq_false h3
  refine zT (zdz [] (by kernel_rfl) (r_d 6 [(55, pv 0 0), (54, pv 0 0), (53, pv 0 0), (52, pv 0 0), (51, iv ((lkS hd (i : Int)).1.2)), (50, pv 4 1)] (by kernel_rfl) (r_s (by refine z6 (v := iv (x.p 0)) rfl rfl ?_; exact zep (pl_r x.p 0 rfl (by omega))) ?_)))
  refine r_d 3 [(59, bv (((lkS hd (i : Int)).1.2) == (i64.wrap (x.p 0 - 1)))), (58, bv (((lkS hd (i : Int)).1.2) == (i64.wrap (x.p 0 - 1)))), (57, iv (i64.wrap (x.p 0 - 1)))] (by kernel_rfl) (r_sp (b := ((lkS hd (i : Int)).1.2) == (i64.wrap (x.p 0 - 1))) 59 rfl (fun h4 => ?_) (fun h4 => ?_))
  ·skip
   have h4' : (lkS hd (i : Int)).1.2 = i64.wrap (x.p 0 - 1) := zhf h4
   refine r_d 3 [(62, pv 0 339), (61, pv 0 0), (60, pv 0 0)] (by kernel_rfl) (r_unguard rfl (r_s (by refine z6 (v := bv x.s) rfl rfl ?_; exact (zcb 9).trans rfl) ?_))
   refine r_d 2 [(49, bv x.s), (64, bv x.s)] (by kernel_rfl) (zc7 (zC (zaJ (t := x.s) rfl (fun h5 => ?_) (fun h5 => ?_))))
   ·skip
    refine z0 (o_d 3 [(67, pv 0 332), (66, pv 0 0), (65, pv 0 0)] (by kernel_rfl) (o_s (by refine z6 (v := .agg #[iv x.e.k, iv x.e.s, iv x.e.a, iv x.e.p, iv x.e.g, uv x.e.ka, uv x.e.kb]) rfl rfl ?_; exact (zcb 2).trans rfl) ?_))
    refine o_d 1 [(69, pv 5 5)] (by kernel_rfl) (zeC (by refine qY (c' := ntF (i : Int) ((lkS hd (i : Int)).1.1) (x.p 0) false false x.e zH) rfl rfl rfl ?_ ?_ ?_; exact rfl; exact zcR (by omega); exact nt_wH (Nat.le_of_ble_eq_true rfl) rfl) ?_)
    refine zF (z9 [(6, pv 5 0), (16, iv (i : Int)), (15, iv (hd.length : Nat)), (3, slV 3 n q), (0, pv 0 0)] (by kernel_rfl) (z0 (o_d 1 [(70, slV 3 n q)] (by kernel_rfl) (o_s (by refine z6 (v := ntV (i : Int) ((lkS hd (i : Int)).1.1) (x.p 0) false false x.e zH) rfl rfl ?_; exact zbx (i : Int) ((lkS hd (i : Int)).1.1) (x.p 0) false false x.e zH) ?_))))
    refine o_s (by exact run_bsl1 rfl (z8 _ _ _ _ _ _ _)) ?_
    refine zhy (k := 3) (n := n) (o := q) (q := 1) (cs := zaX l) (xs := ntF (i : Int) ((lkS hd (i : Int)).1.1) (x.p 0) false false x.e zH) (cs2 := zaX (l ++ [(⟨(i : Int), (lkS hd (i : Int)).1.1, x.p 0, false, false, x.e, zH⟩ : Nt)])) (zl := zNt) rfl rfl rfl (fun m q => by subst q; rfl) (fun z => by have h0 := hq z; have h1 := List.eq_nil_of_length_eq_zero (hn.1.trans h0); exact ⟨h0, by rw [h1]; rfl⟩) (by rw [za2]; first | omega | (simp; try omega)) rfl rfl (zbF rfl (nt_first (i : Int) ((lkS hd (i : Int)).1.1) (x.p 0) false false x.e zH) (by simp [z8])) (by rw [z8]) (by omega) (by omega) (zin l (i : Int) ((lkS hd (i : Int)).1.1) (x.p 0) false false x.e zH) (fun m6 e7 => ?_) (fun m6 => ?_)
    ·skip
     subst e7
     refine o_d 1 [(3, sv 3 0 (n + 1) (n + 1 + m6))] (by kernel_rfl) (zF (zC (z0 (o_s (by refine qL (v := .int .i64 (i64.wrap ((i : Int) + 1))) (congrArg (Value.int .i64) (w64 (by omega) (by omega))) ?_; kernel_rfl) ?_))))
     refine o_d 1 [(16, iv ((i : Int) + 1))] (by kernel_rfl) (zF (⟨hd.length - (i + 1), ?_⟩))
     refine ⟨⟨reg [(16, iv ((i + 1) : Int)), (15, iv (hd.length : Nat)), (3, slV 3 (n + 1) (some m6)), (0, pv 0 0)], [cw (zR x.p 1 2 x.e x.s), .chan 200 (x.w.map qH), .map (hdM hd), slB zNt (zaX (l ++ [(⟨(i : Int), (lkS hd (i : Int)).1.1, x.p 0, false, false, x.e, zH⟩ : Nt)])) (some m6)]⟩, ?_⟩
     refine zgr (by omega) ⟨?_, ?_⟩
     ·exact Wk.ren [0, 1, 2, 3] rfl rfl (by decide) ⟨rfl, ⟨rfl, ⟨rfl, ⟨rfl, trivial⟩⟩⟩⟩ ⟨.inl (z3 rfl rfl), ⟨.inl (congrArg some (zU _).symm), ⟨.inl (congrArg some (qA _).symm), ⟨.inl (zO (zcs _ _)), trivial⟩⟩⟩⟩
     ·exact ⟨(i + 1), (l ++ [(⟨(i : Int), (lkS hd (i : Int)).1.1, x.p 0, false, false, x.e, zH⟩ : Nt)]), (n + 1), (some m6), rfl, by omega, (by first | (rw [zb9 (zd3 hxh (by assumption)), ← hl]) | (rw [zaH (zeM hxh (by assumption) (by assumption) (by assumption)), ← hl]) | (rw [zaH (zc8 hxh (by assumption) (by simp_all)), ← hl])), ⟨by simp [hn.1], by omega⟩, (fun q => by cases q), rfl⟩
    refine o_d 1 [(3, sv 7 0 (n + 1) (n + 1 + m6))] (by kernel_rfl) (zF (zC (z0 (o_s (by refine qL (v := .int .i64 (i64.wrap ((i : Int) + 1))) (congrArg (Value.int .i64) (w64 (by omega) (by omega))) ?_; kernel_rfl) ?_))))
    refine o_d 1 [(16, iv ((i : Int) + 1))] (by kernel_rfl) (zF (⟨hd.length - (i + 1), ?_⟩))
    refine ⟨⟨reg [(16, iv ((i + 1) : Int)), (15, iv (hd.length : Nat)), (3, slV 3 (n + 1) (some m6)), (0, pv 0 0)], [cw (zR x.p 1 2 x.e x.s), .chan 200 (x.w.map qH), .map (hdM hd), slB zNt (zaX (l ++ [(⟨(i : Int), (lkS hd (i : Int)).1.1, x.p 0, false, false, x.e, zH⟩ : Nt)])) (some m6)]⟩, ?_⟩
    refine zgr (by omega) ⟨?_, ?_⟩
    ·exact Wk.ren [0, 1, 2, 7] rfl rfl (by decide) ⟨rfl, ⟨rfl, ⟨rfl, ⟨rfl, trivial⟩⟩⟩⟩ ⟨.inl (z3 rfl rfl), ⟨.inl (congrArg some (zU _).symm), ⟨.inl (congrArg some (qA _).symm), ⟨.inl (zO (zcs _ _)), trivial⟩⟩⟩⟩
    ·exact ⟨(i + 1), (l ++ [(⟨(i : Int), (lkS hd (i : Int)).1.1, x.p 0, false, false, x.e, zH⟩ : Nt)]), (n + 1), (some m6), rfl, by omega, (by first | (rw [zb9 (zd3 hxh (by assumption)), ← hl]) | (rw [zaH (zeM hxh (by assumption) (by assumption) (by assumption)), ← hl]) | (rw [zaH (zc8 hxh (by assumption) (by simp_all)), ← hl])), ⟨by simp [hn.1], by omega⟩, (fun q => by cases q), rfl⟩
   refine zbq [cw (zR x.p 1 2 x.e x.s), .chan 200 (x.w.map qH), .map (hdM hd), slB zNt (zaX l) q, cw [iv ((lkS hd (i : Int)).1.1), iv ((lkS hd (i : Int)).1.2)], cw (ntF (i : Int) ((lkS hd (i : Int)).1.1) (x.p 0) false false e0 zH)] (by kernel_rfl) (d_n 3 3 6 [(36, pv 0 0), (35, pv 0 0), (34, pv 0 0)] [cw (zR x.p 1 2 x.e x.s), .chan 200 (x.w.map qH), .map (hdM hd), slB zNt (zaX l) q, cw [iv ((lkS hd (i : Int)).1.1), iv ((lkS hd (i : Int)).1.2)], cw (ntF (i : Int) ((lkS hd (i : Int)).1.1) (x.p 0) false false e0 zH)] [] (by kernel_rfl) rfl rfl (d_s rfl rfl rfl (by kernel_rfl) (by refine z6 (v := qG x.p) rfl rfl ?_; exact zep (zaU x.p)) ?_))
   refine d_n 1 5 6 [(38, pv 5 3)] [cw (zR x.p 1 2 x.e x.s), .chan 200 (x.w.map qH), .map (hdM hd), slB zNt (zaX l) q, cw [iv ((lkS hd (i : Int)).1.1), iv ((lkS hd (i : Int)).1.2)], cw (ntF (i : Int) ((lkS hd (i : Int)).1.1) (x.p 0) false false e0 zH)] [⟨3, [0], [], none⟩] (by kernel_rfl) rfl rfl (d_s0 rfl rfl ⟨_, _, _, rfl⟩ (by kernel_rfl) (by refine qY (c' := ntF (i : Int) ((lkS hd (i : Int)).1.1) (x.p 0) true false e0 zH) rfl rfl rfl ?_ ?_ ?_; exact rfl; exact zcR (by omega); exact nt_wH (Nat.le_of_ble_eq_true rfl) rfl) ?_)
   refine d_n 1 7 6 [(39, pv 5 12)] [cw (zR x.p 1 2 x.e x.s), .chan 200 (x.w.map qH), .map (hdM hd), slB zNt (zaX l) q, cw [iv ((lkS hd (i : Int)).1.1), iv ((lkS hd (i : Int)).1.2)], cw (ntF (i : Int) ((lkS hd (i : Int)).1.1) (x.p 0) true false e0 zH)] [⟨5, [5], [5], none⟩, ⟨3, [0], [], none⟩] (by kernel_rfl) rfl rfl (d_s0 rfl rfl ⟨_, _, _, rfl⟩ (by kernel_rfl) (by refine qY (c' := ntF (i : Int) ((lkS hd (i : Int)).1.1) (x.p 0) true false e0 x.p) rfl rfl rfl ?_ ?_ ?_; exact zN _; exact zcR (by omega); exact nt_wP) ?_)
   refine zbW (z9 [(6, pv 5 0), (16, iv (i : Int)), (15, iv (hd.length : Nat)), (3, slV 3 n q), (0, pv 0 0)] (by kernel_rfl) (z0 (o_d 1 [(70, slV 3 n q)] (by kernel_rfl) (o_s (by refine z6 (v := ntV (i : Int) ((lkS hd (i : Int)).1.1) (x.p 0) true false e0 x.p) rfl rfl ?_; exact zbx (i : Int) ((lkS hd (i : Int)).1.1) (x.p 0) true false e0 x.p) ?_))))
   refine o_s (by exact run_bsl1 rfl (z8 _ _ _ _ _ _ _)) ?_
   refine zhy (k := 3) (n := n) (o := q) (q := 1) (cs := zaX l) (xs := ntF (i : Int) ((lkS hd (i : Int)).1.1) (x.p 0) true false e0 x.p) (cs2 := zaX (l ++ [(⟨(i : Int), (lkS hd (i : Int)).1.1, x.p 0, true, false, e0, x.p⟩ : Nt)])) (zl := zNt) rfl rfl rfl (fun m q => by subst q; rfl) (fun z => by have h0 := hq z; have h1 := List.eq_nil_of_length_eq_zero (hn.1.trans h0); exact ⟨h0, by rw [h1]; rfl⟩) (by rw [za2]; first | omega | (simp; try omega)) rfl rfl (zbF rfl (nt_first (i : Int) ((lkS hd (i : Int)).1.1) (x.p 0) true false e0 x.p) (by simp [z8])) (by rw [z8]) (by omega) (by omega) (zin l (i : Int) ((lkS hd (i : Int)).1.1) (x.p 0) true false e0 x.p) (fun m8 e9 => ?_) (fun m8 => ?_)
   ·skip
    subst e9
    refine o_d 1 [(3, sv 3 0 (n + 1) (n + 1 + m8))] (by kernel_rfl) (zF (zC (z0 (o_s (by refine qL (v := .int .i64 (i64.wrap ((i : Int) + 1))) (congrArg (Value.int .i64) (w64 (by omega) (by omega))) ?_; kernel_rfl) ?_))))
    refine o_d 1 [(16, iv ((i : Int) + 1))] (by kernel_rfl) (zF (⟨hd.length - (i + 1), ?_⟩))
    refine ⟨⟨reg [(16, iv ((i + 1) : Int)), (15, iv (hd.length : Nat)), (3, slV 3 (n + 1) (some m8)), (0, pv 0 0)], [cw (zR x.p 1 2 x.e x.s), .chan 200 (x.w.map qH), .map (hdM hd), slB zNt (zaX (l ++ [(⟨(i : Int), (lkS hd (i : Int)).1.1, x.p 0, true, false, e0, x.p⟩ : Nt)])) (some m8)]⟩, ?_⟩
    refine zgr (by omega) ⟨?_, ?_⟩
    ·exact Wk.ren [0, 1, 2, 3] rfl rfl (by decide) ⟨rfl, ⟨rfl, ⟨rfl, ⟨rfl, trivial⟩⟩⟩⟩ ⟨.inl (z3 rfl rfl), ⟨.inl (congrArg some (zU _).symm), ⟨.inl (congrArg some (qA _).symm), ⟨.inl (zO (zcs _ _)), trivial⟩⟩⟩⟩
    ·exact ⟨(i + 1), (l ++ [(⟨(i : Int), (lkS hd (i : Int)).1.1, x.p 0, true, false, e0, x.p⟩ : Nt)]), (n + 1), (some m8), rfl, by omega, (by first | (rw [zb9 (zd3 hxh (by assumption)), ← hl]) | (rw [zaH (zeM hxh (by assumption) (by assumption) (by assumption)), ← hl]) | (rw [zaH (zc8 hxh (by assumption) (by simp_all)), ← hl])), ⟨by simp [hn.1], by omega⟩, (fun q => by cases q), rfl⟩
   refine o_d 1 [(3, sv 7 0 (n + 1) (n + 1 + m8))] (by kernel_rfl) (zF (zC (z0 (o_s (by refine qL (v := .int .i64 (i64.wrap ((i : Int) + 1))) (congrArg (Value.int .i64) (w64 (by omega) (by omega))) ?_; kernel_rfl) ?_))))
   refine o_d 1 [(16, iv ((i : Int) + 1))] (by kernel_rfl) (zF (⟨hd.length - (i + 1), ?_⟩))
   refine ⟨⟨reg [(16, iv ((i + 1) : Int)), (15, iv (hd.length : Nat)), (3, slV 3 (n + 1) (some m8)), (0, pv 0 0)], [cw (zR x.p 1 2 x.e x.s), .chan 200 (x.w.map qH), .map (hdM hd), slB zNt (zaX (l ++ [(⟨(i : Int), (lkS hd (i : Int)).1.1, x.p 0, true, false, e0, x.p⟩ : Nt)])) (some m8)]⟩, ?_⟩
   refine zgr (by omega) ⟨?_, ?_⟩
   ·exact Wk.ren [0, 1, 2, 7] rfl rfl (by decide) ⟨rfl, ⟨rfl, ⟨rfl, ⟨rfl, trivial⟩⟩⟩⟩ ⟨.inl (z3 rfl rfl), ⟨.inl (congrArg some (zU _).symm), ⟨.inl (congrArg some (qA _).symm), ⟨.inl (zO (zcs _ _)), trivial⟩⟩⟩⟩
   ·exact ⟨(i + 1), (l ++ [(⟨(i : Int), (lkS hd (i : Int)).1.1, x.p 0, true, false, e0, x.p⟩ : Nt)]), (n + 1), (some m8), rfl, by omega, (by first | (rw [zb9 (zd3 hxh (by assumption)), ← hl]) | (rw [zaH (zeM hxh (by assumption) (by assumption) (by assumption)), ← hl]) | (rw [zaH (zc8 hxh (by assumption) (by simp_all)), ← hl])), ⟨by simp [hn.1], by omega⟩, (fun q => by cases q), rfl⟩
  have h4' : ¬ ((lkS hd (i : Int)).1.2 = i64.wrap (x.p 0 - 1)) := zhg h4
  refine r_d 6 [(49, bv false), (64, bv false), (63, undef), (62, undef), (61, undef), (60, undef)] (by kernel_rfl) (zc7 (zC (zbU rfl (zbq [cw (zR x.p 1 2 x.e x.s), .chan 200 (x.w.map qH), .map (hdM hd), slB zNt (zaX l) q, cw [iv ((lkS hd (i : Int)).1.1), iv ((lkS hd (i : Int)).1.2)], cw (ntF (i : Int) ((lkS hd (i : Int)).1.1) (x.p 0) false false e0 zH)] (by kernel_rfl) (d_n 3 3 6 [(36, pv 0 0), (35, pv 0 0), (34, pv 0 0)] [cw (zR x.p 1 2 x.e x.s), .chan 200 (x.w.map qH), .map (hdM hd), slB zNt (zaX l) q, cw [iv ((lkS hd (i : Int)).1.1), iv ((lkS hd (i : Int)).1.2)], cw (ntF (i : Int) ((lkS hd (i : Int)).1.1) (x.p 0) false false e0 zH)] [] (by kernel_rfl) rfl rfl (d_s rfl rfl rfl (by kernel_rfl) (by refine z6 (v := qG x.p) rfl rfl ?_; exact zep (zaU x.p)) ?_))))))
  refine d_n 1 5 6 [(38, pv 5 3)] [cw (zR x.p 1 2 x.e x.s), .chan 200 (x.w.map qH), .map (hdM hd), slB zNt (zaX l) q, cw [iv ((lkS hd (i : Int)).1.1), iv ((lkS hd (i : Int)).1.2)], cw (ntF (i : Int) ((lkS hd (i : Int)).1.1) (x.p 0) false false e0 zH)] [⟨3, [0], [], none⟩] (by kernel_rfl) rfl rfl (d_s0 rfl rfl ⟨_, _, _, rfl⟩ (by kernel_rfl) (by refine qY (c' := ntF (i : Int) ((lkS hd (i : Int)).1.1) (x.p 0) true false e0 zH) rfl rfl rfl ?_ ?_ ?_; exact rfl; exact zcR (by omega); exact nt_wH (Nat.le_of_ble_eq_true rfl) rfl) ?_)
  refine d_n 1 7 6 [(39, pv 5 12)] [cw (zR x.p 1 2 x.e x.s), .chan 200 (x.w.map qH), .map (hdM hd), slB zNt (zaX l) q, cw [iv ((lkS hd (i : Int)).1.1), iv ((lkS hd (i : Int)).1.2)], cw (ntF (i : Int) ((lkS hd (i : Int)).1.1) (x.p 0) true false e0 zH)] [⟨5, [5], [5], none⟩, ⟨3, [0], [], none⟩] (by kernel_rfl) rfl rfl (d_s0 rfl rfl ⟨_, _, _, rfl⟩ (by kernel_rfl) (by refine qY (c' := ntF (i : Int) ((lkS hd (i : Int)).1.1) (x.p 0) true false e0 x.p) rfl rfl rfl ?_ ?_ ?_; exact zN _; exact zcR (by omega); exact nt_wP) ?_)
  refine zbW (z9 [(6, pv 5 0), (16, iv (i : Int)), (15, iv (hd.length : Nat)), (3, slV 3 n q), (0, pv 0 0)] (by kernel_rfl) (z0 (o_d 1 [(70, slV 3 n q)] (by kernel_rfl) (o_s (by refine z6 (v := ntV (i : Int) ((lkS hd (i : Int)).1.1) (x.p 0) true false e0 x.p) rfl rfl ?_; exact zbx (i : Int) ((lkS hd (i : Int)).1.1) (x.p 0) true false e0 x.p) ?_))))
  refine o_s (by exact run_bsl1 rfl (z8 _ _ _ _ _ _ _)) ?_
  refine zhy (k := 3) (n := n) (o := q) (q := 1) (cs := zaX l) (xs := ntF (i : Int) ((lkS hd (i : Int)).1.1) (x.p 0) true false e0 x.p) (cs2 := zaX (l ++ [(⟨(i : Int), (lkS hd (i : Int)).1.1, x.p 0, true, false, e0, x.p⟩ : Nt)])) (zl := zNt) rfl rfl rfl (fun m q => by subst q; rfl) (fun z => by have h0 := hq z; have h1 := List.eq_nil_of_length_eq_zero (hn.1.trans h0); exact ⟨h0, by rw [h1]; rfl⟩) (by rw [za2]; first | omega | (simp; try omega)) rfl rfl (zbF rfl (nt_first (i : Int) ((lkS hd (i : Int)).1.1) (x.p 0) true false e0 x.p) (by simp [z8])) (by rw [z8]) (by omega) (by omega) (zin l (i : Int) ((lkS hd (i : Int)).1.1) (x.p 0) true false e0 x.p) (fun m10 e11 => ?_) (fun m10 => ?_)
  ·skip
   subst e11
   refine o_d 1 [(3, sv 3 0 (n + 1) (n + 1 + m10))] (by kernel_rfl) (zF (zC (z0 (o_s (by refine qL (v := .int .i64 (i64.wrap ((i : Int) + 1))) (congrArg (Value.int .i64) (w64 (by omega) (by omega))) ?_; kernel_rfl) ?_))))
   refine o_d 1 [(16, iv ((i : Int) + 1))] (by kernel_rfl) (zF (⟨hd.length - (i + 1), ?_⟩))
   refine ⟨⟨reg [(16, iv ((i + 1) : Int)), (15, iv (hd.length : Nat)), (3, slV 3 (n + 1) (some m10)), (0, pv 0 0)], [cw (zR x.p 1 2 x.e x.s), .chan 200 (x.w.map qH), .map (hdM hd), slB zNt (zaX (l ++ [(⟨(i : Int), (lkS hd (i : Int)).1.1, x.p 0, true, false, e0, x.p⟩ : Nt)])) (some m10)]⟩, ?_⟩
   refine zgr (by omega) ⟨?_, ?_⟩
   ·exact Wk.ren [0, 1, 2, 3] rfl rfl (by decide) ⟨rfl, ⟨rfl, ⟨rfl, ⟨rfl, trivial⟩⟩⟩⟩ ⟨.inl (z3 rfl rfl), ⟨.inl (congrArg some (zU _).symm), ⟨.inl (congrArg some (qA _).symm), ⟨.inl (zO (zcs _ _)), trivial⟩⟩⟩⟩
   ·exact ⟨(i + 1), (l ++ [(⟨(i : Int), (lkS hd (i : Int)).1.1, x.p 0, true, false, e0, x.p⟩ : Nt)]), (n + 1), (some m10), rfl, by omega, (by first | (rw [zb9 (zd3 hxh (by assumption)), ← hl]) | (rw [zaH (zeM hxh (by assumption) (by assumption) (by assumption)), ← hl]) | (rw [zaH (zc8 hxh (by assumption) (by simp_all)), ← hl])), ⟨by simp [hn.1], by omega⟩, (fun q => by cases q), rfl⟩
  refine o_d 1 [(3, sv 7 0 (n + 1) (n + 1 + m10))] (by kernel_rfl) (zF (zC (z0 (o_s (by refine qL (v := .int .i64 (i64.wrap ((i : Int) + 1))) (congrArg (Value.int .i64) (w64 (by omega) (by omega))) ?_; kernel_rfl) ?_))))
  refine o_d 1 [(16, iv ((i : Int) + 1))] (by kernel_rfl) (zF (⟨hd.length - (i + 1), ?_⟩))
  refine ⟨⟨reg [(16, iv ((i + 1) : Int)), (15, iv (hd.length : Nat)), (3, slV 3 (n + 1) (some m10)), (0, pv 0 0)], [cw (zR x.p 1 2 x.e x.s), .chan 200 (x.w.map qH), .map (hdM hd), slB zNt (zaX (l ++ [(⟨(i : Int), (lkS hd (i : Int)).1.1, x.p 0, true, false, e0, x.p⟩ : Nt)])) (some m10)]⟩, ?_⟩
  refine zgr (by omega) ⟨?_, ?_⟩
  ·exact Wk.ren [0, 1, 2, 7] rfl rfl (by decide) ⟨rfl, ⟨rfl, ⟨rfl, ⟨rfl, trivial⟩⟩⟩⟩ ⟨.inl (z3 rfl rfl), ⟨.inl (congrArg some (zU _).symm), ⟨.inl (congrArg some (qA _).symm), ⟨.inl (zO (zcs _ _)), trivial⟩⟩⟩⟩
  ·exact ⟨(i + 1), (l ++ [(⟨(i : Int), (lkS hd (i : Int)).1.1, x.p 0, true, false, e0, x.p⟩ : Nt)]), (n + 1), (some m10), rfl, by omega, (by first | (rw [zb9 (zd3 hxh (by assumption)), ← hl]) | (rw [zaH (zeM hxh (by assumption) (by assumption) (by assumption)), ← hl]) | (rw [zaH (zc8 hxh (by assumption) (by simp_all)), ← hl])), ⟨by simp [hn.1], by omega⟩, (fun q => by cases q), rfl⟩
 have h2' : ¬ ((i : Int) < (hd.length : Nat)) := of_decide_eq_false h2
 refine zcU (zC (zT (z0 (o_d 2 [(2, slV 3 n q), (75, slV 3 n q)] (by kernel_rfl) (zF (zC (zbr ?_)))))))
 have hil : i = hd.length := by omega
 have hs2 : (zal (HS.mk p w hd e b)).2 = l := by rw [hl, hil]; simp only [zal]; rw [← hx, hxh]
 have hs1 : (zal (HS.mk p w hd e b)).1 = x := hx.symm
 exact ⟨trivial, ⟨reg [(2, slV 3 n q)], [cw (zR x.p 1 2 x.e x.s), .chan 200 (x.w.map qH), .map (hdM hd), slB zNt (zaX l) q]⟩, Wk.ren [0, 1, 2, 3] rfl rfl (by decide) ⟨(za9 q rfl).trans rfl, trivial⟩ ⟨.inl (z3 rfl rfl), ⟨.inl (congrArg some (zU _).symm), ⟨.inl (congrArg some (qA _).symm), ⟨.inl (zaz q (fun _ => (zcs _ _))), trivial⟩⟩⟩⟩, [slV 3 n q], (qB rfl rfl), (zS (isTup_slV _ _ _) z1), q, (fun z => by rw [hs2]; exact List.eq_nil_of_length_eq_zero (hn.1.trans (hq z))), (by rw [hs2, hn.1]; rfl), (by rw [hs1, hs2])⟩
end Go.Rh

namespace Go.Rh
end Go.Rh

set_option maxHeartbeats 8000000
namespace Go.Rh
def zdH : IFunc := ⟨55, [.tmp 4], (.seq (.reg [kq 4 (.mv (ki 0))]) (.seq (.seq (.reg [km 13 0, kq 14 (.nilc (.t 13)), kq 15 (.fad 330 (.t 14)), kq 16 (.ld none (.t 15)), kq 17 (.lenC (.t 16)), km 18 1, kq 19 (.lenS (.t 18)), kq 20 (.bin .add (.t 17) (.t 19)), kq 21 (.bin .gtr (.t 20) (ki 200))]) (.cond (.t 21) (.seq (.reg [kq 4 (.mv (ki 14))]) .ret) .skip)) (.seq (.dreg [km 23 0, kq 24 (.nilc (.t 23)), kq 25 (.fad 0 (.t 24)), kq 26 (.ld (some 330) (.t 25)), km 27 0, kq 28 (.call "(*roundhouse/head.Head).waiting" [(.t 27)]), kq 29 (.call "roundhouse/pool.All" [(.t 26), (.t 28)]), km 22 29, kq 30 (.ext 0 (.t 22)), kq 31 (.ext 1 (.t 22)), kq 32 (.ext 2 (.t 22)), kq 5 (.new kA), ku (.st 330 (.t 5) (.t 30)), km 6 31, km 7 32] [[], [0], [1, 0], [2, 1, 0], [], [4], [3, 2, 1, 0, 5, 4], [6, 3, 2, 1, 0, 5, 4], [7, 6, 3, 2, 1, 0, 5, 4], [7, 6, 3, 2, 1, 0, 5, 4], [7, 6, 3, 2, 1, 0, 5, 4], [], [11, 8, 7, 6, 3, 2, 1, 0, 5, 4], [9, 7, 6, 3, 2, 1, 0, 5, 4, 12, 11, 8], [10, 7, 6, 3, 2, 1, 0, 5, 4, 13, 9, 12, 11, 8]]) (.seq (.seq (.reg [kq 34 (.ld (some 330) (.t 5)), km 35 1, kq 36 (.call "roundhouse/pool.All" [(.t 34), (.t 35)]), km 33 36, kq 37 (.ext 0 (.t 33)), kq 38 (.ext 1 (.t 33)), kq 39 (.ext 2 (.t 33)), kq 8 (.new kA), ku (.st 330 (.t 8) (.t 37)), km 9 38, km 10 39]) (.seq (.reg [km 40 10, kq 41 (.bin .neq (.t 40) (ki 0))]) (.cond (.t 41) (.seq (.reg [km 42 10, km 4 42]) .ret) .skip))) (.seq (.seq (.reg [km 43 1, kq 44 (.lenS (.t 43)), kq 45 (.mv (ki 0))]) (.block 0 (.loop (.seq (.reg [kq 46 (.bin .lss (.t 45) (.t 44))]) (.seq (.cond (.t 46) .skip (.exit 0)) (.seq (.block 1 (.seq (.reg [kq 47 (.iadS 7 (.t 43) (.t 45)), kq 48 (.ld (some 7) (.t 47)), kq 12 (.new kC), ku (.st 7 (.t 12) (.t 48))]) (.dreg [km 49 0, kq 50 (.nilc (.t 49)), kq 51 (.fad 330 (.t 50)), kq 52 (.ld none (.t 51)), kq 53 (.ld (some 7) (.t 12)), ku (.snd (.t 52) (.t 53))] [[], [0], [1, 0], [2, 1, 0], [], [3, 2, 1, 0, 4]]))) (.reg [kq 54 (.bin .add (.t 45) (ki 1)), km 45 54]))))))) (.seq (.reg [kq 4 (.mv (ki 0))]) .ret))))))⟩
abbrev zbQ (P : Program) : Prop := zX P "(*roundhouse/head.Head).Wish" = some zdH
theorem wish_many {x : HS} {l : List Ent} (h : 200 < x.w.length + l.length) : zb2 x l = (14, x) := by simp only [zb2]; rw [if_pos h]
theorem wish_bad {x : HS} {l : List Ent} (h : ¬ 200 < x.w.length + l.length) (h2 : (zaF (zaF x.p x.w 0).1 l 0).2.2 ≠ 0) : zb2 x l = ((zaF (zaF x.p x.w 0).1 l 0).2.2, x) := by simp only [zb2]; rw [if_neg h, if_pos h2]
theorem wish_ok {x : HS} {l : List Ent} (h : ¬ 200 < x.w.length + l.length) (h2 : ¬ (zaF (zaF x.p x.w 0).1 l 0).2.2 ≠ 0) : zb2 x l = (0, { x with w := x.w ++ l }) := by simp only [zb2]; rw [if_neg h, if_neg h2]
theorem HWishC {P : Program} (hc : zbQ P) (h_head_Head_waiting : za4 P) (h_pool_All : zcH P) (h_pool_Apply : zaI P) (h_pool_may : zaP P) (h_pool_held : zaG P) (h_pool_fits : zaM P) (h_pool_Check : zaB P) (h_pool_placed : zai P) (h_cookie_Next : zaq P) (p : qO) (w : List Ent) (hd : List (Int × Int)) (e : Ent) (b : Bool) (l : List Ent) (q : Option Nat) (hw : w.length ≤ 200) (hq : q = none → l = []) (hl : l.length ≤ 1000000) :
    Env P "(*roundhouse/head.Head).Wish" [pv 0 0, slV 3 l.length q] ([cw (zR p 1 2 e b), .chan 200 (w.map qH), .map (hdM hd), slB zE (qV l) q]) (fun v1 h' => v1 = iv (zb2 (HS.mk p w hd e b) l).1 ∧ h' = [cw (zR p 1 2 e b), .chan 200 ((zb2 (HS.mk p w hd e b) l).2.w.map qH), .map (hdM hd), slB zE (qV l) q]) := by
 refine Env.by2 hc ?_
 unfold zdH
 show GC _ 4 _ _ ⟨reg [(0, pv 0 0), (1, slV 3 l.length q)], [cw (zR p 1 2 e b), .chan 200 (w.map qH), .map (hdM hd), slB zE (qV l) q]⟩
 refine zT (z0 (o_d 1 [(4, iv 0)] (by kernel_rfl) (zF (zC (zT (zT (z0 (o_d 3 [(15, pv 0 330), (14, pv 0 0), (13, pv 0 0)] (by kernel_rfl) (o_s (by refine z6 (v := .chan (some 1)) rfl rfl ?_; exact (zcb 0).trans rfl) ?_)))))))))
 refine o_s (by exact run_lenW (w := w) rfl rfl) ?_
 refine o_d 1 [(18, slV 3 l.length q)] (by kernel_rfl) (o_s (by exact zic rfl (fun z => by rw [hq z]; rfl)) ?_)
 refine o_s (by refine qL (v := .int .i64 (i64.wrap ((w.length : Nat) + (l.length : Nat)))) (congrArg (Value.int .i64) (w64 (by first | omega | (simp at *; omega)) (by first | omega | (simp at *; omega)))) ?_; kernel_rfl) ?_
 refine o_d 1 [(21, bv (decide (((w.length : Nat) + (l.length : Nat) : Int) > 200)))] (by kernel_rfl) (zF (zC (zaJ (t := decide (((w.length : Nat) + (l.length : Nat) : Int) > 200)) rfl (fun h1 => ?_) (fun h1 => ?_))))
 ·skip
  have h1' : ((w.length : Nat) + (l.length : Nat) : Int) > 200 := of_decide_eq_true h1
  refine zT (z0 (o_d 1 [(4, iv 14)] (by kernel_rfl) (zF (zC (zbr ?_)))))
  have hW : zb2 (HS.mk p w hd e b) l = (14, (HS.mk p w hd e b)) := wish_many (by show 200 < w.length + l.length; simp at *; omega)
  exact ⟨trivial, ⟨reg [(4, iv 14)], [cw (zR p 1 2 e b), .chan 200 (w.map qH), .map (hdM hd), slB zE (qV l) q]⟩, Wk.ren [0, 1, 2, 3] rfl rfl (by decide) ⟨rfl, trivial⟩ ⟨.inl (z3 rfl rfl), ⟨.inl (congrArg some (zU _).symm), ⟨.inl (congrArg some (qA _).symm), ⟨.inl (zaz q (fun _ => (zaD _ _))), trivial⟩⟩⟩⟩, [iv 14], (qB rfl rfl), (zS rfl z1), (by rw [hW]; rfl), (by first | (rw [hW]; done) | (rw [hW]; rfl) | (rw [hW, hil]; rfl) | (rw [hW, hil]; done) | (rw [hW, hl0, List.append_nil]; rfl) | (rw [hW, hl0, List.append_nil]; done))⟩
 have h1' : ¬ (((w.length : Nat) + (l.length : Nat) : Int) > 200) := of_decide_eq_false h1
 refine zaC (zC (zT (zbq [cw (zR p 1 2 e b), .chan 200 (w.map qH), .map (hdM hd), slB zE (qV l) q, .gone] (by kernel_rfl) (d_n 3 3 4 [(25, pv 0 0), (24, pv 0 0), (23, pv 0 0)] [cw (zR p 1 2 e b), .chan 200 (w.map qH), .map (hdM hd), slB zE (qV l) q, .gone] [] (by kernel_rfl) rfl rfl (d_s rfl rfl rfl (by kernel_rfl) (by refine z6 (v := qG p) rfl rfl ?_; exact zep (zaU p)) ?_)))))
 refine d_n 1 5 4 [(27, pv 0 0)] [cw (zR p 1 2 e b), .chan 200 (w.map qH), .map (hdM hd), slB zE (qV l) q, .gone] [⟨3, [0], [], none⟩] (by kernel_rfl) rfl rfl (d_clG [0, 1, 2] [cr (zR p 1 2 e b), .chan 200 (w.map qH), .map (hdM hd)] [pv 0 0] (HwaitingC h_head_Head_waiting p w hd e b hw) rfl rfl ⟨⟨_, rfl, zb4 rfl rfl (fun q => rfl)⟩, ⟨⟨_, rfl, zb5 _⟩, ⟨⟨_, rfl, zcP _⟩, trivial⟩⟩⟩ (by decide) ⟨_, _, ⟨some 0, (fun q => by cases q), rfl, rfl⟩, Nat.le_add_right 3 1, za0 [_, _, _] [_]⟩ ?_ (by kernel_rfl))
 rintro v1 h1' ⟨q2, hq3, rfl, rfl⟩
 refine ⟨slV 5 w.length q2, [cw (zR p 1 2 e b), .chan 200 (w.map qH), .map (hdM hd), slB zE (qV l) q, .gone], [slB zE (qV w) q2], (za9 q2 rfl), ⟨rfl, ⟨zU _, ⟨qA _, ⟨rfl, ⟨rfl, trivial⟩⟩⟩⟩⟩, ⟨(Option.some.inj (zaz q2 (fun _ => (zaD _ _)))).symm, trivial⟩, ?_⟩
 rcases q2 with _ | m4
 ·skip
  have h0q2 := hq3 rfl
  refine d_cl (ziC (All0 h_pool_All h_pool_Apply h_pool_may h_pool_held h_pool_fits h_pool_Check h_pool_placed h_cookie_Next p) rfl (all_cons (zaA p) (all_cons rfl rfl)) (all_cons (zaL p) (all_cons rfl (all_cons rfl rfl))) (d_n 5 12 5 [(5, pv 4 0), (32, iv 0), (31, iv 0), (30, qG p), (22, .tuple #[qG p, iv 0, iv 0])] [cw (zR p 1 2 e b), .chan 200 (w.map qH), .map (hdM hd), slB zE (qV l) q, cw (pl zH), .gone] [⟨11, [], [4], none⟩, ⟨6, [], [], some 6⟩, ⟨5, [0, 1, 2], [1, 2], some 5⟩, ⟨3, [0], [], none⟩] (by kernel_rfl) rfl rfl (d_s0 rfl rfl ⟨_, _, _, rfl⟩ (by kernel_rfl) (by refine qY (c' := pl p) rfl rfl rfl ?_ ?_ ?_; exact zN _; exact zeW (by omega); exact zae zH p) ?_)))
  refine d_n 2 15 5 [(7, iv 0), (6, iv 0)] [cw (zR p 1 2 e b), .chan 200 (w.map qH), .map (hdM hd), slB zE (qV l) q, cw (pl p), .gone] [⟨12, [4], [4], none⟩, ⟨11, [], [4], none⟩, ⟨6, [], [], some 6⟩, ⟨5, [0, 1, 2], [1, 2], some 5⟩, ⟨3, [0], [], none⟩] (by kernel_rfl) rfl rfl (zbW (z9 [(5, pv 4 0), (0, pv 0 0), (1, slV 3 l.length q)] (by kernel_rfl) (zT (zT (z0 (o_s (by refine z6 (v := qG p) rfl rfl ?_; exact zaU p) ?_))))))
  refine o_d 1 [(35, slV 3 l.length q)] (by kernel_rfl) ?_
  rcases q with _ | m5
  ·skip
   have hl0 : l = [] := hq rfl
   refine zbO (zeO (All0 h_pool_All h_pool_Apply h_pool_may h_pool_held h_pool_fits h_pool_Check h_pool_placed h_cookie_Next p) rfl (all_cons (zaA p) (all_cons rfl rfl)) (all_cons (zaL p) (all_cons rfl (all_cons rfl rfl))) (o_b 5 [(8, pv 6 0), (39, iv 0), (38, iv 0), (37, qG p), (33, .tuple #[qG p, iv 0, iv 0])] [cw (zR p 1 2 e b), .chan 200 (w.map qH), .map (hdM hd), .gone, cw (pl p), .gone, cw (pl zH)] (by kernel_rfl) (zeC (by refine qY (c' := pl p) rfl rfl rfl ?_ ?_ ?_; exact zN _; exact zeW (by omega); exact zae zH p) ?_)))
   refine o_b 2 [(10, iv 0), (9, iv 0)] [cw (zR p 1 2 e b), .chan 200 (w.map qH), .map (hdM hd), .gone, cw (pl p), .gone, cw (pl p)] (by kernel_rfl) (zF (zC (zT (z0 (o_d 2 [(41, bv false), (40, iv 0)] (by kernel_rfl) (zF (zC (zbU rfl (zaC (zC (zT (zT ?_))))))))))))
   refine z0 (o_d 3 [(45, iv 0), (44, iv 0), (43, .slice none 0 0)] (by kernel_rfl) (zF (zC (zak (zdy (fun μ s => (μ = 0 ∧ s = ⟨reg [(45, iv 0), (44, iv 0), (43, .slice none 0 0), (0, pv 0 0)], [cw (zR p 1 2 e b), .chan 200 (w.map qH), .map (hdM hd), .gone, cw (pl p), .gone, cw (pl p)]⟩)) ⟨0, ?_⟩ ?_)))))
   ·skip
    refine ⟨⟨reg [(45, iv 0), (44, iv 0), (43, .slice none 0 0), (0, pv 0 0)], [cw (zR p 1 2 e b), .chan 200 (w.map qH), .map (hdM hd), .gone, cw (pl p), .gone, cw (pl p)]⟩, ?_⟩
    refine ⟨?_, ?_⟩
    ·exact Wk.ren [0, 1, 2, 3, 4, 5, 6] rfl rfl (by decide) ⟨rfl, ⟨rfl, ⟨rfl, ⟨rfl, trivial⟩⟩⟩⟩ ⟨.inl (z3 rfl rfl), ⟨.inl (congrArg some (zU _).symm), ⟨.inl (congrArg some (qA _).symm), ⟨.inl rfl, ⟨.inl (zO (za7 p)), ⟨.inl rfl, ⟨.inl (zO (za7 p)), trivial⟩⟩⟩⟩⟩⟩⟩
    ·exact ⟨rfl, rfl⟩
   ·rintro μ s (⟨rfl, rfl⟩)
    ·skip
     refine zT (z0 (o_d 1 [(46, bv false)] (by kernel_rfl) (zF (zC (zT (zbU rfl (zcU (zC (zT (z0 (o_d 1 [(4, iv 0)] (by kernel_rfl) (zF ?_))))))))))))
     refine zC (zbr ?_)
     have hW : zb2 (HS.mk p w hd e b) l = (0, ⟨p, w ++ l, hd, e, b⟩) := wish_ok (by show ¬ 200 < w.length + l.length; simp at *; omega) (by first | assumption | (simp_all [zaF]; done))
     exact ⟨trivial, ⟨reg [(4, iv 0)], [cw (zR p 1 2 e b), .chan 200 (w.map qH), .map (hdM hd), .gone]⟩, Wk.ren [0, 1, 2, 3] rfl rfl (by decide) ⟨rfl, trivial⟩ ⟨.inl (z3 rfl rfl), ⟨.inl (congrArg some (zU _).symm), ⟨.inl (congrArg some (qA _).symm), ⟨.inl rfl, trivial⟩⟩⟩⟩, [iv 0], (qB rfl rfl), (zS rfl z1), (by rw [hW]; rfl), (by first | (rw [hW]; done) | (rw [hW]; rfl) | (rw [hW, hil]; rfl) | (rw [hW, hil]; done) | (rw [hW, hl0, List.append_nil]; rfl) | (rw [hW, hl0, List.append_nil]; done))⟩
  ·skip
   refine zbO (callS (a1 := [qG p, .slice (some ⟨0, 0, none⟩) l.length (l.length + m5)]) [3] [qV l ++ zbs zE m5] (AllE h_pool_All h_pool_Apply h_pool_may h_pool_held h_pool_fits h_pool_Check h_pool_placed h_cookie_Next p l m5 l.length (l.length + m5) (by simp) (by first | omega | (simp at *; omega))) rfl (fun n => zih _ _ _ _ _) ⟨⟨_, rfl⟩, zaD _ _, trivial⟩ (all_cons (zaL ((zaF p l 0).1)) (all_cons rfl (all_cons rfl rfl))) ?_)
   refine o_b 5 [(8, pv 6 0), (39, iv ((zaF p l 0).2.2)), (38, iv ((zaF p l 0).2.1 : Int)), (37, qG ((zaF p l 0).1)), (33, .tuple #[qG ((zaF p l 0).1), iv ((zaF p l 0).2.1 : Int), iv ((zaF p l 0).2.2)])] [cw (zR p 1 2 e b), .chan 200 (w.map qH), .map (hdM hd), cw (qV l ++ zbs zE m5), cw (pl p), .gone, cw (pl zH)] (by kernel_rfl) (zeC (by refine qY (c' := pl ((zaF p l 0).1)) rfl rfl rfl ?_ ?_ ?_; exact zN _; exact zeW (by omega); exact zae zH ((zaF p l 0).1)) ?_)
   refine o_b 2 [(10, iv ((zaF p l 0).2.2)), (9, iv ((zaF p l 0).2.1 : Int))] [cw (zR p 1 2 e b), .chan 200 (w.map qH), .map (hdM hd), cw (qV l ++ zbs zE m5), cw (pl p), .gone, cw (pl ((zaF p l 0).1))] (by kernel_rfl) (zF (zC (zT (z0 (o_d 2 [(41, bv (((zaF p l 0).2.2) != 0)), (40, iv ((zaF p l 0).2.2))] (by kernel_rfl) (zF (zC (zaJ (t := ((zaF p l 0).2.2) != 0) rfl (fun h6 => ?_) (fun h6 => ?_)))))))))
   ·skip
    have h6' : (zaF p l 0).2.2 ≠ 0 := neI_t h6
    refine zT (z0 (o_d 2 [(4, iv ((zaF p l 0).2.2)), (42, iv ((zaF p l 0).2.2))] (by kernel_rfl) (zF (zC (zbr ?_)))))
    have hW : zb2 (HS.mk p w hd e b) l = ((zaF p l 0).2.2, (HS.mk p w hd e b)) := by have z := @wish_bad (HS.mk p w hd e b) l (by show ¬ 200 < w.length + l.length; simp at *; omega) (by first | assumption | (simp_all [zaF]; done)); first | exact z | (subst_vars; exact z)
    exact ⟨trivial, ⟨reg [(4, iv ((zaF p l 0).2.2))], [cw (zR p 1 2 e b), .chan 200 (w.map qH), .map (hdM hd), cw (qV l ++ zbs zE m5)]⟩, Wk.ren [0, 1, 2, 3] rfl rfl (by decide) ⟨rfl, trivial⟩ ⟨.inl (z3 rfl rfl), ⟨.inl (congrArg some (zU _).symm), ⟨.inl (congrArg some (qA _).symm), ⟨.inl (zO (zaD l m5)), trivial⟩⟩⟩⟩, [iv ((zaF p l 0).2.2)], (qB rfl rfl), (zS rfl z1), (by rw [hW]; rfl), (by first | (rw [hW]; done) | (rw [hW]; rfl) | (rw [hW, hil]; rfl) | (rw [hW, hil]; done) | (rw [hW, hl0, List.append_nil]; rfl) | (rw [hW, hl0, List.append_nil]; done))⟩
   have h6' : ¬ ((zaF p l 0).2.2 ≠ 0) := neI_f h6
   refine zaC (zC (zT (zT (z0 (o_d 3 [(45, iv 0), (44, iv (l.length : Nat)), (43, sv 3 0 l.length (l.length + m5))] (by kernel_rfl) (zF (zC (zak (zdy (fun μ s => ∃ (i : Nat), ∃ (wc : List Ent), μ = l.length - i ∧ (i ≤ l.length) ∧ (wc = w ++ l.take i) ∧ s = ⟨reg [(45, iv (i : Int)), (44, iv (l.length : Nat)), (43, sv 3 0 l.length (l.length + m5)), (0, pv 0 0)], [cw (zR p 1 2 e b), .chan 200 (wc.map qH), .map (hdM hd), cw (qV l ++ zbs zE m5)]⟩) ⟨(l.length - 0), ?_⟩ ?_)))))))))
   ·skip
    refine ⟨⟨reg [(45, iv (0 : Int)), (44, iv (l.length : Nat)), (43, sv 3 0 l.length (l.length + m5)), (0, pv 0 0)], [cw (zR p 1 2 e b), .chan 200 (w.map qH), .map (hdM hd), cw (qV l ++ zbs zE m5)]⟩, ?_⟩
    refine ⟨?_, ?_⟩
    ·exact Wk.ren [0, 1, 2, 3] rfl rfl (by decide) ⟨rfl, ⟨rfl, ⟨rfl, ⟨rfl, trivial⟩⟩⟩⟩ ⟨.inl (z3 rfl rfl), ⟨.inl (congrArg some (zU _).symm), ⟨.inl (congrArg some (qA _).symm), ⟨.inl (zO (zaD l m5)), trivial⟩⟩⟩⟩
    ·exact ⟨0, w, rfl, (Nat.zero_le _), (by simp), rfl⟩
   rintro μ s ⟨i, wc, rfl, hi, hwc, rfl⟩
   refine zT (z0 (o_d 1 [(46, bv (decide ((i : Int) < (l.length : Nat))))] (by kernel_rfl) (zF (zC (zT (zaJ (t := decide ((i : Int) < (l.length : Nat))) rfl (fun h7 => ?_) (fun h7 => ?_)))))))
   ·skip
    have h7' : (i : Int) < (l.length : Nat) := of_decide_eq_true h7
    obtain ⟨x, hx, hdr, ht⟩ := zd6 (l := l) (i := i) (by omega)
    refine zaC (zC (zT (zak (zT (z0 (o_s (by exact zfB (o := 0) (o' := 7 * i) rfl rfl (by first | omega | (simp at *; omega)) (by first | omega | (simp at *; omega))) ?_))))))
    refine o_s (by refine z6 (v := .agg #[iv x.k, iv x.s, iv x.a, iv x.p, iv x.g, uv x.ka, uv x.kb]) rfl rfl ?_; exact ents_r (i := i) (by omega) hx) ?_
    refine o_b 2 [(12, pv 4 0)] [cw (zR p 1 2 e b), .chan 200 (wc.map qH), .map (hdM hd), cw (qV l ++ zbs zE m5), cw [iv x.k, iv x.s, iv x.a, iv x.p, iv x.g, uv x.ka, uv x.kb]] (by kernel_rfl) (zF (zC (zbq [cw (zR p 1 2 e b), .chan 200 (wc.map qH), .map (hdM hd), cw (qV l ++ zbs zE m5), cw [iv x.k, iv x.s, iv x.a, iv x.p, iv x.g, uv x.ka, uv x.kb]] (by kernel_rfl) (d_n 3 3 5 [(51, pv 0 330), (50, pv 0 0), (49, pv 0 0)] [cw (zR p 1 2 e b), .chan 200 (wc.map qH), .map (hdM hd), cw (qV l ++ zbs zE m5), cw [iv x.k, iv x.s, iv x.a, iv x.p, iv x.g, uv x.ka, uv x.kb]] [] (by kernel_rfl) rfl rfl (d_s rfl rfl rfl (by kernel_rfl) (by refine z6 (v := .chan (some 1)) rfl rfl ?_; exact (zcb 0).trans rfl) ?_)))))
    refine d_n 1 5 5 [(53, .agg #[iv x.k, iv x.s, iv x.a, iv x.p, iv x.g, uv x.ka, uv x.kb])] [cw (zR p 1 2 e b), .chan 200 (wc.map qH), .map (hdM hd), cw (qV l ++ zbs zE m5), cw [iv x.k, iv x.s, iv x.a, iv x.p, iv x.g, uv x.ka, uv x.kb]] [⟨4, [4], [], none⟩, ⟨3, [0], [], none⟩] (by kernel_rfl) rfl rfl (d_snd (k := 1) (b := wc.map qH) (b2 := (wc ++ [x]).map qH) rfl rfl rfl (by rw [List.length_map]; rw [hwc]; simp; omega) rfl (zhh wc x) ?_)
    refine zbW (zC (z0 (o_s (by refine qL (v := .int .i64 (i64.wrap ((i : Int) + 1))) (congrArg (Value.int .i64) (w64 (by first | omega | (simp at *; omega)) (by first | omega | (simp at *; omega)))) ?_; kernel_rfl) ?_)))
    refine o_d 1 [(45, iv ((i : Int) + 1))] (by kernel_rfl) (zF (⟨l.length - (i + 1), ?_⟩))
    refine ⟨⟨reg [(45, iv ((i + 1) : Int)), (44, iv (l.length : Nat)), (43, sv 3 0 l.length (l.length + m5)), (0, pv 0 0)], [cw (zR p 1 2 e b), .chan 200 ((wc ++ [x]).map qH), .map (hdM hd), cw (qV l ++ zbs zE m5)]⟩, ?_⟩
    refine zgr (by omega) ⟨?_, ?_⟩
    ·exact Wk.ren [0, 1, 2, 3] rfl rfl (by decide) ⟨rfl, ⟨rfl, ⟨rfl, ⟨rfl, trivial⟩⟩⟩⟩ ⟨.inl (z3 rfl rfl), ⟨.inl (congrArg some (zU _).symm), ⟨.inl (congrArg some (qA _).symm), ⟨.inl (zO (zaD l m5)), trivial⟩⟩⟩⟩
    ·exact ⟨(i + 1), (wc ++ [x]), rfl, by omega, (by rw [ht, hwc, List.append_assoc]), rfl⟩
   have h7' : ¬ ((i : Int) < (l.length : Nat)) := of_decide_eq_false h7
   refine zcU (zC (zT (z0 (o_d 1 [(4, iv 0)] (by kernel_rfl) (zF (zC (zbr ?_)))))))
   have hW : zb2 (HS.mk p w hd e b) l = (0, ⟨p, w ++ l, hd, e, b⟩) := wish_ok (by show ¬ 200 < w.length + l.length; simp at *; omega) (by first | assumption | (simp_all [zaF]; done))
   have hil : wc = w ++ l := by rw [hwc, show i = l.length by omega]; simp
   exact ⟨trivial, ⟨reg [(4, iv 0)], [cw (zR p 1 2 e b), .chan 200 (wc.map qH), .map (hdM hd), cw (qV l ++ zbs zE m5)]⟩, Wk.ren [0, 1, 2, 3] rfl rfl (by decide) ⟨rfl, trivial⟩ ⟨.inl (z3 rfl rfl), ⟨.inl (congrArg some (zU _).symm), ⟨.inl (congrArg some (qA _).symm), ⟨.inl (zO (zaD l m5)), trivial⟩⟩⟩⟩, [iv 0], (qB rfl rfl), (zS rfl z1), (by rw [hW]; rfl), (by first | (rw [hW]; done) | (rw [hW]; rfl) | (rw [hW, hil]; rfl) | (rw [hW, hil]; done) | (rw [hW, hl0, List.append_nil]; rfl) | (rw [hW, hl0, List.append_nil]; done))⟩
 ·skip
  refine d_clG [5] [cr (qV w ++ zbs zE m4)] [qG p, sv 0 0 w.length (w.length + m4)] (AllE h_pool_All h_pool_Apply h_pool_may h_pool_held h_pool_fits h_pool_Check h_pool_placed h_cookie_Next p w m4 w.length (w.length + m4) (by simp) (by first | omega | (simp at *; omega))) rfl (zan (qE (zaA p)) (zan rfl rfl)) ⟨⟨_, rfl, zch (zaD w m4) (fun q => rfl)⟩, trivial⟩ (by decide) ⟨_, _, ⟨rfl, rfl⟩, Nat.le_refl 1, za0 [_] []⟩ ?_ (by kernel_rfl)
  rintro v1 h1' ⟨rfl, rfl⟩
  refine ⟨.tuple #[qG ((zaF p w 0).1), iv ((zaF p w 0).2.1 : Int), iv ((zaF p w 0).2.2)], [cw (zR p 1 2 e b), .chan 200 (w.map qH), .map (hdM hd), slB zE (qV l) q, .gone, cw (qV w ++ zbs zE m4)], [], (qE (all_cons (zaL ((zaF p w 0).1)) (all_cons rfl (all_cons rfl rfl)))), ⟨rfl, ⟨rfl, ⟨rfl, ⟨rfl, ⟨rfl, ⟨rfl, trivial⟩⟩⟩⟩⟩⟩, trivial, ?_⟩
  refine d_n 5 12 5 [(5, pv 4 0), (32, iv ((zaF p w 0).2.2)), (31, iv ((zaF p w 0).2.1 : Int)), (30, qG ((zaF p w 0).1)), (22, .tuple #[qG ((zaF p w 0).1), iv ((zaF p w 0).2.1 : Int), iv ((zaF p w 0).2.2)])] [cw (zR p 1 2 e b), .chan 200 (w.map qH), .map (hdM hd), slB zE (qV l) q, cw (pl zH), cw (qV w ++ zbs zE m4)] [⟨11, [], [4], none⟩, ⟨6, [5], [], some 6⟩, ⟨5, [0, 1, 2], [1, 2], some 5⟩, ⟨3, [0], [], none⟩] (by kernel_rfl) rfl rfl (d_s0 rfl rfl ⟨_, _, _, rfl⟩ (by kernel_rfl) (by refine qY (c' := pl ((zaF p w 0).1)) rfl rfl rfl ?_ ?_ ?_; exact zN _; exact zeW (by omega); exact zae zH ((zaF p w 0).1)) ?_)
  refine d_n 2 15 5 [(7, iv ((zaF p w 0).2.2)), (6, iv ((zaF p w 0).2.1 : Int))] [cw (zR p 1 2 e b), .chan 200 (w.map qH), .map (hdM hd), slB zE (qV l) q, cw (pl ((zaF p w 0).1)), cw (qV w ++ zbs zE m4)] [⟨12, [4], [4], none⟩, ⟨11, [], [4], none⟩, ⟨6, [5], [], some 6⟩, ⟨5, [0, 1, 2], [1, 2], some 5⟩, ⟨3, [0], [], none⟩] (by kernel_rfl) rfl rfl (zbW (z9 [(5, pv 4 0), (0, pv 0 0), (1, slV 3 l.length q)] (by kernel_rfl) (zT (zT (z0 (o_s (by refine z6 (v := qG ((zaF p w 0).1)) rfl rfl ?_; exact zaU ((zaF p w 0).1)) ?_))))))
  refine o_d 1 [(35, slV 3 l.length q)] (by kernel_rfl) ?_
  rcases q with _ | m8
  ·skip
   have hl0 : l = [] := hq rfl
   refine zbO (zeO (All0 h_pool_All h_pool_Apply h_pool_may h_pool_held h_pool_fits h_pool_Check h_pool_placed h_cookie_Next ((zaF p w 0).1)) rfl (all_cons (zaA ((zaF p w 0).1)) (all_cons rfl rfl)) (all_cons (zaL ((zaF p w 0).1)) (all_cons rfl (all_cons rfl rfl))) (o_b 5 [(8, pv 6 0), (39, iv 0), (38, iv 0), (37, qG ((zaF p w 0).1)), (33, .tuple #[qG ((zaF p w 0).1), iv 0, iv 0])] [cw (zR p 1 2 e b), .chan 200 (w.map qH), .map (hdM hd), .gone, cw (pl ((zaF p w 0).1)), cw (qV w ++ zbs zE m4), cw (pl zH)] (by kernel_rfl) (zeC (by refine qY (c' := pl ((zaF p w 0).1)) rfl rfl rfl ?_ ?_ ?_; exact zN _; exact zeW (by omega); exact zae zH ((zaF p w 0).1)) ?_)))
   refine o_b 2 [(10, iv 0), (9, iv 0)] [cw (zR p 1 2 e b), .chan 200 (w.map qH), .map (hdM hd), .gone, cw (pl ((zaF p w 0).1)), cw (qV w ++ zbs zE m4), cw (pl ((zaF p w 0).1))] (by kernel_rfl) (zF (zC (zT (z0 (o_d 2 [(41, bv false), (40, iv 0)] (by kernel_rfl) (zF (zC (zbU rfl (zaC (zC (zT (zT ?_))))))))))))
   refine z0 (o_d 3 [(45, iv 0), (44, iv 0), (43, .slice none 0 0)] (by kernel_rfl) (zF (zC (zak (zdy (fun μ s => (μ = 0 ∧ s = ⟨reg [(45, iv 0), (44, iv 0), (43, .slice none 0 0), (0, pv 0 0)], [cw (zR p 1 2 e b), .chan 200 (w.map qH), .map (hdM hd), .gone, cw (pl ((zaF p w 0).1)), cw (qV w ++ zbs zE m4), cw (pl ((zaF p w 0).1))]⟩)) ⟨0, ?_⟩ ?_)))))
   ·skip
    refine ⟨⟨reg [(45, iv 0), (44, iv 0), (43, .slice none 0 0), (0, pv 0 0)], [cw (zR p 1 2 e b), .chan 200 (w.map qH), .map (hdM hd), .gone, cw (pl ((zaF p w 0).1)), cw (qV w ++ zbs zE m4), cw (pl ((zaF p w 0).1))]⟩, ?_⟩
    refine ⟨?_, ?_⟩
    ·exact Wk.ren [0, 1, 2, 3, 4, 5, 6] rfl rfl (by decide) ⟨rfl, ⟨rfl, ⟨rfl, ⟨rfl, trivial⟩⟩⟩⟩ ⟨.inl (z3 rfl rfl), ⟨.inl (congrArg some (zU _).symm), ⟨.inl (congrArg some (qA _).symm), ⟨.inl rfl, ⟨.inl (zO (za7 ((zaF p w 0).1))), ⟨.inl (zO (zaD w m4)), ⟨.inl (zO (za7 ((zaF p w 0).1))), trivial⟩⟩⟩⟩⟩⟩⟩
    ·exact ⟨rfl, rfl⟩
   ·rintro μ s (⟨rfl, rfl⟩)
    ·skip
     refine zT (z0 (o_d 1 [(46, bv false)] (by kernel_rfl) (zF (zC (zT (zbU rfl (zcU (zC (zT (z0 (o_d 1 [(4, iv 0)] (by kernel_rfl) (zF ?_))))))))))))
     refine zC (zbr ?_)
     have hW : zb2 (HS.mk p w hd e b) l = (0, ⟨p, w ++ l, hd, e, b⟩) := wish_ok (by show ¬ 200 < w.length + l.length; simp at *; omega) (by first | assumption | (simp_all [zaF]; done))
     exact ⟨trivial, ⟨reg [(4, iv 0)], [cw (zR p 1 2 e b), .chan 200 (w.map qH), .map (hdM hd), .gone]⟩, Wk.ren [0, 1, 2, 3] rfl rfl (by decide) ⟨rfl, trivial⟩ ⟨.inl (z3 rfl rfl), ⟨.inl (congrArg some (zU _).symm), ⟨.inl (congrArg some (qA _).symm), ⟨.inl rfl, trivial⟩⟩⟩⟩, [iv 0], (qB rfl rfl), (zS rfl z1), (by rw [hW]; rfl), (by first | (rw [hW]; done) | (rw [hW]; rfl) | (rw [hW, hil]; rfl) | (rw [hW, hil]; done) | (rw [hW, hl0, List.append_nil]; rfl) | (rw [hW, hl0, List.append_nil]; done))⟩
  ·skip
   refine zbO (callS (a1 := [qG ((zaF p w 0).1), .slice (some ⟨0, 0, none⟩) l.length (l.length + m8)]) [3] [qV l ++ zbs zE m8] (AllE h_pool_All h_pool_Apply h_pool_may h_pool_held h_pool_fits h_pool_Check h_pool_placed h_cookie_Next ((zaF p w 0).1) l m8 l.length (l.length + m8) (by simp) (by first | omega | (simp at *; omega))) rfl (fun n => zih _ _ _ _ _) ⟨⟨_, rfl⟩, zaD _ _, trivial⟩ (all_cons (zaL ((zaF ((zaF p w 0).1) l 0).1)) (all_cons rfl (all_cons rfl rfl))) ?_)
   refine o_b 5 [(8, pv 6 0), (39, iv ((zaF ((zaF p w 0).1) l 0).2.2)), (38, iv ((zaF ((zaF p w 0).1) l 0).2.1 : Int)), (37, qG ((zaF ((zaF p w 0).1) l 0).1)), (33, .tuple #[qG ((zaF ((zaF p w 0).1) l 0).1), iv ((zaF ((zaF p w 0).1) l 0).2.1 : Int), iv ((zaF ((zaF p w 0).1) l 0).2.2)])] [cw (zR p 1 2 e b), .chan 200 (w.map qH), .map (hdM hd), cw (qV l ++ zbs zE m8), cw (pl ((zaF p w 0).1)), cw (qV w ++ zbs zE m4), cw (pl zH)] (by kernel_rfl) (zeC (by refine qY (c' := pl ((zaF ((zaF p w 0).1) l 0).1)) rfl rfl rfl ?_ ?_ ?_; exact zN _; exact zeW (by omega); exact zae zH ((zaF ((zaF p w 0).1) l 0).1)) ?_)
   refine o_b 2 [(10, iv ((zaF ((zaF p w 0).1) l 0).2.2)), (9, iv ((zaF ((zaF p w 0).1) l 0).2.1 : Int))] [cw (zR p 1 2 e b), .chan 200 (w.map qH), .map (hdM hd), cw (qV l ++ zbs zE m8), cw (pl ((zaF p w 0).1)), cw (qV w ++ zbs zE m4), cw (pl ((zaF ((zaF p w 0).1) l 0).1))] (by kernel_rfl) (zF (zC (zT (z0 (o_d 2 [(41, bv (((zaF ((zaF p w 0).1) l 0).2.2) != 0)), (40, iv ((zaF ((zaF p w 0).1) l 0).2.2))] (by kernel_rfl) (zF (zC (zaJ (t := ((zaF ((zaF p w 0).1) l 0).2.2) != 0) rfl (fun h9 => ?_) (fun h9 => ?_)))))))))
   ·skip
    have h9' : (zaF ((zaF p w 0).1) l 0).2.2 ≠ 0 := neI_t h9
    refine zT (z0 (o_d 2 [(4, iv ((zaF ((zaF p w 0).1) l 0).2.2)), (42, iv ((zaF ((zaF p w 0).1) l 0).2.2))] (by kernel_rfl) (zF (zC (zbr ?_)))))
    have hW : zb2 (HS.mk p w hd e b) l = ((zaF ((zaF p w 0).1) l 0).2.2, (HS.mk p w hd e b)) := by have z := @wish_bad (HS.mk p w hd e b) l (by show ¬ 200 < w.length + l.length; simp at *; omega) (by first | assumption | (simp_all [zaF]; done)); first | exact z | (subst_vars; exact z)
    exact ⟨trivial, ⟨reg [(4, iv ((zaF ((zaF p w 0).1) l 0).2.2))], [cw (zR p 1 2 e b), .chan 200 (w.map qH), .map (hdM hd), cw (qV l ++ zbs zE m8)]⟩, Wk.ren [0, 1, 2, 3] rfl rfl (by decide) ⟨rfl, trivial⟩ ⟨.inl (z3 rfl rfl), ⟨.inl (congrArg some (zU _).symm), ⟨.inl (congrArg some (qA _).symm), ⟨.inl (zO (zaD l m8)), trivial⟩⟩⟩⟩, [iv ((zaF ((zaF p w 0).1) l 0).2.2)], (qB rfl rfl), (zS rfl z1), (by rw [hW]; rfl), (by first | (rw [hW]; done) | (rw [hW]; rfl) | (rw [hW, hil]; rfl) | (rw [hW, hil]; done) | (rw [hW, hl0, List.append_nil]; rfl) | (rw [hW, hl0, List.append_nil]; done))⟩
   have h9' : ¬ ((zaF ((zaF p w 0).1) l 0).2.2 ≠ 0) := neI_f h9
   refine zaC (zC (zT (zT (z0 (o_d 3 [(45, iv 0), (44, iv (l.length : Nat)), (43, sv 3 0 l.length (l.length + m8))] (by kernel_rfl) (zF (zC (zak (zdy (fun μ s => ∃ (i : Nat), ∃ (wc : List Ent), μ = l.length - i ∧ (i ≤ l.length) ∧ (wc = w ++ l.take i) ∧ s = ⟨reg [(45, iv (i : Int)), (44, iv (l.length : Nat)), (43, sv 3 0 l.length (l.length + m8)), (0, pv 0 0)], [cw (zR p 1 2 e b), .chan 200 (wc.map qH), .map (hdM hd), cw (qV l ++ zbs zE m8)]⟩) ⟨(l.length - 0), ?_⟩ ?_)))))))))
   ·skip
    refine ⟨⟨reg [(45, iv (0 : Int)), (44, iv (l.length : Nat)), (43, sv 3 0 l.length (l.length + m8)), (0, pv 0 0)], [cw (zR p 1 2 e b), .chan 200 (w.map qH), .map (hdM hd), cw (qV l ++ zbs zE m8)]⟩, ?_⟩
    refine ⟨?_, ?_⟩
    ·exact Wk.ren [0, 1, 2, 3] rfl rfl (by decide) ⟨rfl, ⟨rfl, ⟨rfl, ⟨rfl, trivial⟩⟩⟩⟩ ⟨.inl (z3 rfl rfl), ⟨.inl (congrArg some (zU _).symm), ⟨.inl (congrArg some (qA _).symm), ⟨.inl (zO (zaD l m8)), trivial⟩⟩⟩⟩
    ·exact ⟨0, w, rfl, (Nat.zero_le _), (by simp), rfl⟩
   rintro μ s ⟨i, wc, rfl, hi, hwc, rfl⟩
   refine zT (z0 (o_d 1 [(46, bv (decide ((i : Int) < (l.length : Nat))))] (by kernel_rfl) (zF (zC (zT (zaJ (t := decide ((i : Int) < (l.length : Nat))) rfl (fun h10 => ?_) (fun h10 => ?_)))))))
   ·skip
    have h10' : (i : Int) < (l.length : Nat) := of_decide_eq_true h10
    obtain ⟨x, hx, hdr, ht⟩ := zd6 (l := l) (i := i) (by omega)
    refine zaC (zC (zT (zak (zT (z0 (o_s (by exact zfB (o := 0) (o' := 7 * i) rfl rfl (by first | omega | (simp at *; omega)) (by first | omega | (simp at *; omega))) ?_))))))
    refine o_s (by refine z6 (v := .agg #[iv x.k, iv x.s, iv x.a, iv x.p, iv x.g, uv x.ka, uv x.kb]) rfl rfl ?_; exact ents_r (i := i) (by omega) hx) ?_
    refine o_b 2 [(12, pv 4 0)] [cw (zR p 1 2 e b), .chan 200 (wc.map qH), .map (hdM hd), cw (qV l ++ zbs zE m8), cw [iv x.k, iv x.s, iv x.a, iv x.p, iv x.g, uv x.ka, uv x.kb]] (by kernel_rfl) (zF (zC (zbq [cw (zR p 1 2 e b), .chan 200 (wc.map qH), .map (hdM hd), cw (qV l ++ zbs zE m8), cw [iv x.k, iv x.s, iv x.a, iv x.p, iv x.g, uv x.ka, uv x.kb]] (by kernel_rfl) (d_n 3 3 5 [(51, pv 0 330), (50, pv 0 0), (49, pv 0 0)] [cw (zR p 1 2 e b), .chan 200 (wc.map qH), .map (hdM hd), cw (qV l ++ zbs zE m8), cw [iv x.k, iv x.s, iv x.a, iv x.p, iv x.g, uv x.ka, uv x.kb]] [] (by kernel_rfl) rfl rfl (d_s rfl rfl rfl (by kernel_rfl) (by refine z6 (v := .chan (some 1)) rfl rfl ?_; exact (zcb 0).trans rfl) ?_)))))
    refine d_n 1 5 5 [(53, .agg #[iv x.k, iv x.s, iv x.a, iv x.p, iv x.g, uv x.ka, uv x.kb])] [cw (zR p 1 2 e b), .chan 200 (wc.map qH), .map (hdM hd), cw (qV l ++ zbs zE m8), cw [iv x.k, iv x.s, iv x.a, iv x.p, iv x.g, uv x.ka, uv x.kb]] [⟨4, [4], [], none⟩, ⟨3, [0], [], none⟩] (by kernel_rfl) rfl rfl (d_snd (k := 1) (b := wc.map qH) (b2 := (wc ++ [x]).map qH) rfl rfl rfl (by rw [List.length_map]; rw [hwc]; simp; omega) rfl (zhh wc x) ?_)
    refine zbW (zC (z0 (o_s (by refine qL (v := .int .i64 (i64.wrap ((i : Int) + 1))) (congrArg (Value.int .i64) (w64 (by first | omega | (simp at *; omega)) (by first | omega | (simp at *; omega)))) ?_; kernel_rfl) ?_)))
    refine o_d 1 [(45, iv ((i : Int) + 1))] (by kernel_rfl) (zF (⟨l.length - (i + 1), ?_⟩))
    refine ⟨⟨reg [(45, iv ((i + 1) : Int)), (44, iv (l.length : Nat)), (43, sv 3 0 l.length (l.length + m8)), (0, pv 0 0)], [cw (zR p 1 2 e b), .chan 200 ((wc ++ [x]).map qH), .map (hdM hd), cw (qV l ++ zbs zE m8)]⟩, ?_⟩
    refine zgr (by omega) ⟨?_, ?_⟩
    ·exact Wk.ren [0, 1, 2, 3] rfl rfl (by decide) ⟨rfl, ⟨rfl, ⟨rfl, ⟨rfl, trivial⟩⟩⟩⟩ ⟨.inl (z3 rfl rfl), ⟨.inl (congrArg some (zU _).symm), ⟨.inl (congrArg some (qA _).symm), ⟨.inl (zO (zaD l m8)), trivial⟩⟩⟩⟩
    ·exact ⟨(i + 1), (wc ++ [x]), rfl, by omega, (by rw [ht, hwc, List.append_assoc]), rfl⟩
   have h10' : ¬ ((i : Int) < (l.length : Nat)) := of_decide_eq_false h10
   refine zcU (zC (zT (z0 (o_d 1 [(4, iv 0)] (by kernel_rfl) (zF (zC (zbr ?_)))))))
   have hW : zb2 (HS.mk p w hd e b) l = (0, ⟨p, w ++ l, hd, e, b⟩) := wish_ok (by show ¬ 200 < w.length + l.length; simp at *; omega) (by first | assumption | (simp_all [zaF]; done))
   have hil : wc = w ++ l := by rw [hwc, show i = l.length by omega]; simp
   exact ⟨trivial, ⟨reg [(4, iv 0)], [cw (zR p 1 2 e b), .chan 200 (wc.map qH), .map (hdM hd), cw (qV l ++ zbs zE m8)]⟩, Wk.ren [0, 1, 2, 3] rfl rfl (by decide) ⟨rfl, trivial⟩ ⟨.inl (z3 rfl rfl), ⟨.inl (congrArg some (zU _).symm), ⟨.inl (congrArg some (qA _).symm), ⟨.inl (zO (zaD l m8)), trivial⟩⟩⟩⟩, [iv 0], (qB rfl rfl), (zS rfl z1), (by rw [hW]; rfl), (by first | (rw [hW]; done) | (rw [hW]; rfl) | (rw [hW, hil]; rfl) | (rw [hW, hil]; done) | (rw [hW, hl0, List.append_nil]; rfl) | (rw [hW, hl0, List.append_nil]; done))⟩
end Go.Rh

set_option maxHeartbeats 4000000
namespace Go.Rh
theorem ssN (d : qO) {s i : Nat} (x0 x1 x2 x3 x4 : Int) (hs : s < 64) (h : i < 3 ∨ 323 ≤ i) : zc6 d s x0 x1 x2 x3 x4 i = d i := by
 simp only [zc6, upd]; rw [if_neg (by omega), if_neg (by omega), if_neg (by omega), if_neg (by omega), if_neg (by omega)]
theorem done0 (c : qO) (e : Ent) (hs : 0 ≤ e.s ∧ e.s < 64) : zeX c e 0 = i64.wrap (c 0 + 1) := by
 simp only [zeX]
 repeat' split
 ·rw [ssN _ _ _ _ _ _ (by omega) (by omega)]; rfl
 ·rw [upd_ne _ _ (by omega)]; rfl
 ·rw [upd_ne _ _ (by omega)]; rfl
 ·rw [upd_ne _ _ (by omega), upd_ne _ _ (by omega)]; rfl
 ·rw [ssN _ _ _ _ _ _ (by omega) (by omega)]; rfl
 ·unfold nextS; rw [ring_low _ _ _ _ _ _ _ _ (by omega)]; rfl
theorem checkS_ok {e : Ent} (h : zcc e = 0) : (1 ≤ e.k ∧ e.k ≤ 6) ∧ (0 ≤ e.s ∧ e.s < 64) ∧ (e.k = 6 → e.s = 0) ∧ (e.k = 1 → za1 e.a e.p = true ∧ 1 ≤ e.g ∧ e.g ≤ 8) ∧ (e.k ≠ 1 → e.a = 0 ∧ e.p = 0 ∧ e.g = 0) ∧ (e.k ≠ 6 → e.ka = 0 ∧ e.kb = 0) := by
 unfold zcc at h
 split at h
 ·cases h
 rename_i h1
 split at h
 ·cases h
 rename_i h2
 split at h
 ·cases h
 rename_i h3
 split at h
 ·cases h
 rename_i h4
 refine ⟨by omega, by omega, fun q => by omega, fun q => ?_, fun q => by omega, fun q => by omega⟩
 have : ¬ (za1 e.a e.p = false ∨ e.g < 1 ∨ 8 < e.g) := fun x => h3 ⟨q, x⟩
 exact ⟨by cases hp : za1 e.a e.p <;> simp [hp] at this ⊢, by omega, by omega⟩
theorem apply_ok {c : qO} {e : Ent} (h : (z2 c e).2 = 0) : (z2 c e).1 = zeX c e ∧ zcc e = 0 ∧ badS c e = false ∧ (e.k = 5 → ¬ c 323 < i64.wrap (c (3 + 5 * e.s.toNat + 4) + 3)) := by
 unfold z2 at h ⊢
 split at h
 ·rename_i he
  rw [if_pos he]
  refine ⟨rfl, ?_⟩
  unfold errS at he
  split at he
  ·rename_i hc; exact absurd he hc
  ·rename_i hc
   have hc : zcc e = 0 := Decidable.of_not_not hc
   unfold zix at he
   split at he
   ·cases he
   ·rename_i hb
    split at he
    ·cases he
    ·rename_i hs
     exact ⟨hc, by simpa using hb, fun h5 hx => hs ⟨h5, hx⟩⟩
 ·rename_i he; exact absurd h he
structure PInv (c : qO) (b : Nat) : Prop where
  ver : 0 ≤ c 0 ∧ c 0 ≤ b
  ep : 1 ≤ c 323 ∧ c 323 ≤ b + 1
  st : ∀ k, k < 64 → 0 ≤ c (3 + 5 * k) ∧ c (3 + 5 * k) ≤ 4
  since : ∀ k, k < 64 → 0 ≤ c (3 + 5 * k + 4) ∧ c (3 + 5 * k + 4) ≤ c 323
  uniq : ∀ j k, j < 64 → k < 64 → j ≠ k → c (3 + 5 * j) ≠ 0 → c (3 + 5 * k) ≠ 0 → ¬ (c (3 + 5 * j + 1) = c (3 + 5 * k + 1) ∧ c (3 + 5 * j + 2) = c (3 + 5 * k + 2))
  own : ∀ k, k < 64 → c (3 + 5 * k) ≠ 0 → ¬ (c (3 + 5 * k + 1) = c 1 ∧ c (3 + 5 * k + 2) = c 2)
  place : za1 (c 1) (c 2) = true
  slot : ∀ k, k < 64 → c (3 + 5 * k) ≠ 0 → za1 (c (3 + 5 * k + 1)) (c (3 + 5 * k + 2)) = true ∧ 1 ≤ c (3 + 5 * k + 3) ∧ c (3 + 5 * k + 3) ≤ 8
theorem w1 {x : Int} (h : 0 ≤ x ∧ x ≤ 4611686018427387904) : i64.wrap (x + 1) = x + 1 := w64 (by omega) (by omega)
theorem zip (a p ka kb na nb : Int) {i : Nat} (h : 3 ≤ i ∧ i < 323) : newS a p ka kb na nb i = 0 := by
 simp only [newS]
 rw [if_neg (by omega), if_neg (by omega), if_neg (by omega), if_neg (by omega), if_neg (by omega), if_neg (by omega), if_neg (by omega)]
theorem PInv.new {a p ka kb na nb : Int} (h : za1 a p = true) : PInv (newS a p ka kb na nb) 0 := by
 refine ⟨(by decide : (0 : Int) ≤ 0 ∧ (0 : Int) ≤ 0), (by decide : (1 : Int) ≤ 1 ∧ (1 : Int) ≤ 0 + 1), fun k hk => ?_, fun k hk => ?_, fun j k hj hk hjk h1 => ?_, fun k hk h1 => ?_, h, fun k hk h1 => ?_⟩
 ·rw [zip _ _ _ _ _ _ (by omega)]; decide
 ·rw [zip _ _ _ _ _ _ (by omega)]; exact ⟨by decide, (by decide : (0 : Int) ≤ 1)⟩
 ·rw [zip _ _ _ _ _ _ (by omega)] at h1; exact absurd rfl h1
 ·rw [zip _ _ _ _ _ _ (by omega)] at h1; exact absurd rfl h1
 ·rw [zip _ _ _ _ _ _ (by omega)] at h1; exact absurd rfl h1
theorem PInv.mono {c : qO} {b b' : Nat} (I : PInv c b) (h : b ≤ b') : PInv c b' :=
 ⟨by have := I.ver; omega, by have := I.ep; omega, I.st, I.since, I.uniq, I.own, I.place, I.slot⟩
end Go.Rh

namespace Go.Rh
theorem within_lt (x : Int) {n : Int} (hn : 0 < n ∧ n ≤ 4611686018427387904) : 0 ≤ zM x n ∧ zM x n < n := by
 have h2 : x.tmod n < n := Int.tmod_lt_of_pos x hn.1
 have h3 : -n < x.tmod n := by
  have := Int.lt_tmod_of_pos x hn.1
  exact this
 unfold zM
 split
 ·rename_i h; rw [w64 (by omega) (by omega)]; omega
 ·omega
end Go.Rh
namespace Go.Rh
end Go.Rh

namespace Go.Rh
def newHS (p : qO) (u : Int) : HS := ⟨p, [], List.replicate u.toNat (0, -1), e0, false⟩
def zhH (x : HS) (n : Nt) : HS := ⟨x.p, x.w, zbT x.hd n, x.e, x.s⟩
def n0 : Nt := ⟨0, 0, 0, false, false, e0, zH⟩
theorem heardS_len (hd : List (Int × Int)) (n : Nt) : (zbT hd n).length = hd.length := by
 unfold zbT; split
 ·rfl
 ·split <;> simp
theorem sendS_hd (x : HS) : (zal x).1.hd = x.hd := goS_hd x
theorem nts_get {l : List Nt} {k : Nat} (h : k < l.length) : l[k]? = some (l.getD k n0) := by
 simp [List.getD_eq_getElem?_getD, h]
theorem nt_rL {m : Option Nat} {n : Nt} {o : Nat} {v : Value} (h : zam m (ntF n.u n.b n.v n.w n.a n.e n.p) o = some v) : zam m (ntL n) o = some v := h
theorem nts_r2 {m : Option Nat} {l : List Nt} {t : List Value} {o i j : Nat} {n : Nt} {v : Value} (ho : o = 342 * i + j) (h : l[i]? = some n) (hv : zam m (ntL n) j = some v) : zam m (zaX l ++ t) o = some v := by
 subst ho; exact nts_r h hv
end Go.Rh

namespace Go.Rh
def zhj : IFunc := ⟨35, [.tmp 4, .tmp 5], (.seq (.reg [kq 2 (.box (.t 0)), kq 4 (.mv (.c (.pointer none))), kq 5 (.mv (ki 0))]) (.seq (.reg [kq 10 (.ld (some 330) (.t 2)), km 11 1, kq 12 (.call "roundhouse/head.New" [(.t 10), (.t 11)]), km 9 12, kq 13 (.ext 0 (.t 9)), kq 14 (.ext 1 (.t 9)), km 6 13, km 7 14]) (.seq (.seq (.reg [km 15 7, kq 16 (.bin .neq (.t 15) (ki 0))]) (.cond (.t 16) (.seq (.reg [km 17 7, kq 4 (.mv (.c (.pointer none))), km 5 17]) .ret) .skip)) (.seq (.reg [km 18 6, kq 19 (.bld [(1, .pointer none), (2, (.slice none 0 0))] [(0, 1, (.t 18))]), kq 20 (.box (.t 19)), km 8 20]) (.seq (.seq (.reg [km 21 1, kq 22 (.mv (ki 0))]) (.block 0 (.loop (.seq (.reg [kq 23 (.bin .lss (.t 22) (.t 21))]) (.seq (.cond (.t 23) .skip (.exit 0)) (.seq (.block 1 (.dreg [km 24 8, kq 25 (.nilc (.t 24)), kq 26 (.fad 1 (.t 25)), kq 27 (.call "roundhouse/plane.New" []), kq 28 (.mkc 1), kq 29 (.bld [(1, .pointer none), (324, (.int .i64 0)), (6, (.int .u64 0)), (1, (.int .i64 0)), (1, (.chan none))] [(0, 1, (.t 27)), (332, 1, (.t 28))]), kq 30 (.box (.t 29)), kq 31 (.bsl [(1, .pointer none)] 1 1 [(0, 1, (.t 30))]), kq 32 (.call "(*roundhouse/yard.row[*roundhouse/yard.unit]).put" [(.t 26), (.t 31)])] [[], [0], [1, 0], [], [], [3, 4], [5, 3, 4], [6, 5, 3, 4], [2, 1, 0, 7, 6, 5, 3, 4]])) (.reg [kq 33 (.bin .add (.t 22) (ki 1)), km 22 33]))))))) (.seq (.reg [km 34 8, km 4 34, kq 5 (.mv (ki 0))]) .ret))))))⟩
abbrev zg9 (P : Program) : Prop := zX P "roundhouse/yard.New" = some zhj
def zdD : IFunc := ⟨14, [.tmp 2], (.seq (.reg [kq 2 (.mv (ki 0))]) (.seq (.dreg [km 3 0, kq 4 (.nilc (.t 3)), kq 5 (.fad 2 (.t 4)), km 6 0, kq 7 (.nilc (.t 6)), kq 8 (.fad 0 (.t 7)), kq 9 (.ld none (.t 8)), kq 10 (.call "(*roundhouse/head.Head).Send" [(.t 9)]), kq 11 (.call "(*roundhouse/yard.row[roundhouse/head.Note]).put" [(.t 5), (.t 10)])] [[], [0], [1, 0], [], [3], [4, 3], [5, 4, 3], [6, 5, 4, 3], [2, 1, 0, 7, 6, 5, 4, 3]]) (.seq (.reg [km 12 0, kq 13 (.call "(*roundhouse/yard.Yard).Notes" [(.t 12)]), km 2 13]) .ret)))⟩
abbrev zcu (P : Program) : Prop := zX P "(*roundhouse/yard.Yard).Tick" = some zdD
def zbM : IFunc := ⟨67, [.tmp 6], (.seq (.reg [kq 6 (.mv kF)]) (.seq (.reg [km 14 0, kq 15 (.nilc (.t 14)), kq 16 (.fad 2 (.t 15)), km 17 1, kq 18 (.call "(*roundhouse/yard.row[roundhouse/head.Note]).at" [(.t 16), (.t 17)]), km 13 18, kq 19 (.ext 0 (.t 13)), kq 20 (.ext 1 (.t 13)), kq 7 (.new kB), ku (.st 342 (.t 7) (.t 19)), km 8 20]) (.seq (.seq (.reg [km 21 8, kq 22 (.un .not (.t 21))]) (.cond (.t 22) (.seq (.reg [kq 6 (.mv kF)]) .ret) .skip)) (.seq (.seq (.reg [km 23 2, kq 24 (.un .not (.t 23))]) (.cond (.t 24) (.reg [km 25 0, kq 26 (.nilc (.t 25)), kq 27 (.fad 2 (.t 26)), km 28 1, kq 29 (.call "(*roundhouse/yard.row[roundhouse/head.Note]).drop" [(.t 27), (.t 28)])]) .skip)) (.seq (.seq (.reg [kq 30 (.fad 4 (.t 7)), kq 31 (.ld none (.t 30))]) (.cond (.t 31) (.seq (.dreg [km 32 0, kq 33 (.nilc (.t 32)), kq 34 (.fad 0 (.t 33)), kq 35 (.ld none (.t 34)), kq 36 (.ld (some 342) (.t 7)), kq 37 (.call "(*roundhouse/head.Head).Heard" [(.t 35), (.t 36)])] [[], [0], [1, 0], [2, 1, 0], [], [3, 2, 1, 0, 4]]) (.seq (.reg [kq 6 (.mv kT)]) .ret)) .skip)) (.seq (.seq (.dreg [km 39 0, kq 40 (.nilc (.t 39)), kq 41 (.fad 1 (.t 40)), kq 42 (.fad 0 (.t 7)), kq 43 (.ld none (.t 42)), kq 44 (.call "(*roundhouse/yard.row[*roundhouse/yard.unit]).at" [(.t 41), (.t 43)]), km 38 44, kq 45 (.ext 0 (.t 38)), kq 46 (.ext 1 (.t 38)), km 9 45, km 10 46] [[], [0], [1, 0], [], [3], [2, 1, 0, 4, 3], [5, 2, 1, 0, 4, 3], [6, 5, 2, 1, 0, 4, 3], [6, 5, 2, 1, 0, 4, 3], [7, 6, 5, 2, 1, 0, 4, 3], [8, 6, 5, 2, 1, 0, 4, 3, 9, 7]]) (.seq (.reg [km 47 10]) (.cond (.t 47) (.seq (.dreg [km 48 9, kq 49 (.nilc (.t 48)), kq 50 (.fad 332 (.t 49)), kq 51 (.ld none (.t 50)), kq 52 (.ld (some 342) (.t 7)), ku (.snd (.t 51) (.t 52))] [[], [0], [1, 0], [2, 1, 0], [], [3, 2, 1, 0, 4]]) (.seq (.reg [km 54 9, kq 55 (.fad 0 (.t 7)), kq 56 (.ld none (.t 55)), kq 57 (.call "(*roundhouse/yard.unit).hear" [(.t 54), (.t 56)]), km 53 57, kq 58 (.ext 0 (.t 53)), kq 59 (.ext 1 (.t 53)), kq 11 (.new kB), ku (.st 342 (.t 11) (.t 58)), km 12 59]) (.seq (.reg [km 60 12]) (.cond (.t 60) (.dreg [km 61 0, kq 62 (.nilc (.t 61)), kq 63 (.fad 2 (.t 62)), kq 64 (.ld (some 342) (.t 11)), kq 65 (.bsl kB 342 1 [(0, 342, (.t 64))]), kq 66 (.call "(*roundhouse/yard.row[roundhouse/head.Note]).put" [(.t 63), (.t 65)])] [[], [0], [1, 0], [], [3], [2, 1, 0, 4, 3]]) .skip)))) .skip))) (.seq (.reg [kq 6 (.mv kT)]) .ret)))))))⟩
abbrev zbn (P : Program) : Prop := zX P "(*roundhouse/yard.Yard).Deliver" = some zbM
def zcA : IFunc := ⟨25, [.tmp 4, .tmp 5], (.seq (.reg [kq 4 (.mv (ki 0)), kq 5 (.mv kF)]) (.seq (.reg [km 9 0, kq 10 (.nilc (.t 9)), kq 11 (.fad 1 (.t 10)), km 12 1, kq 13 (.call "(*roundhouse/yard.row[*roundhouse/yard.unit]).at" [(.t 11), (.t 12)]), km 8 13, kq 14 (.ext 0 (.t 8)), kq 15 (.ext 1 (.t 8)), km 6 14, km 7 15]) (.seq (.seq (.reg [km 16 7, kq 17 (.un .not (.t 16))]) (.cond (.t 17) (.seq (.reg [kq 4 (.mv (ki 0)), kq 5 (.mv kF)]) .ret) .skip)) (.seq (.reg [km 18 6, kq 19 (.nilc (.t 18)), kq 20 (.fad 0 (.t 19)), kq 21 (.ld none (.t 20)), kq 22 (.call "(*roundhouse/plane.Plane).Version" [(.t 21)]), kq 23 (.ext 0 (.t 22)), kq 24 (.ext 1 (.t 22)), km 4 23, km 5 24]) .ret))))⟩
abbrev zbK (P : Program) : Prop := zX P "(*roundhouse/yard.Yard).Version" = some zcA
def zcj : IFunc := ⟨9, [.tmp 2], (.seq (.reg [kq 2 (.mv (ki 0))]) (.seq (.reg [km 3 0, kq 4 (.nilc (.t 3)), kq 5 (.fad 2 (.t 4)), kq 6 (.fad 0 (.t 5)), kq 7 (.ld none (.t 6)), kq 8 (.lenS (.t 7)), km 2 8]) .ret))⟩
abbrev zbl (P : Program) : Prop := zX P "(*roundhouse/yard.Yard).Notes" = some zcj
def zdF : IFunc := ⟨22, [.tmp 4], (.seq (.reg [kq 4 (.mv kF)]) (.seq (.reg [km 8 0, kq 9 (.nilc (.t 8)), kq 10 (.fad 2 (.t 9)), km 11 1, kq 12 (.call "(*roundhouse/yard.row[roundhouse/head.Note]).at" [(.t 10), (.t 11)]), km 7 12, kq 13 (.ext 0 (.t 7)), kq 14 (.ext 1 (.t 7)), kq 5 (.new kB), ku (.st 342 (.t 5) (.t 13)), km 6 14]) (.seq (.seq (.reg [km 15 6]) (.cond (.t 15) (.reg [km 16 0, kq 17 (.nilc (.t 16)), kq 18 (.fad 2 (.t 17)), km 19 1, kq 20 (.call "(*roundhouse/yard.row[roundhouse/head.Note]).drop" [(.t 18), (.t 19)])]) .skip)) (.seq (.reg [km 21 6, km 4 21]) .ret))))⟩
abbrev zcw (P : Program) : Prop := zX P "(*roundhouse/yard.Yard).Lose" = some zdF
def zdc : IFunc := ⟨33, [.tmp 4], (.seq (.reg [kq 4 (.mv kF)]) (.seq (.reg [km 8 0, kq 9 (.nilc (.t 8)), kq 10 (.fad 1 (.t 9)), km 11 1, kq 12 (.call "(*roundhouse/yard.row[*roundhouse/yard.unit]).at" [(.t 10), (.t 11)]), km 7 12, kq 13 (.ext 0 (.t 7)), kq 14 (.ext 1 (.t 7)), km 5 13, km 6 14]) (.seq (.seq (.reg [km 15 6]) (.cond (.t 15) (.seq (.reg [km 16 5, kq 17 (.nilc (.t 16)), kq 18 (.fad 0 (.t 17)), kq 19 (.ld none (.t 18)), kq 20 (.call "(*roundhouse/plane.Plane).Crash" [(.t 19)])]) (.seq (.reg [km 21 5, kq 22 (.bld kA []), kq 23 (.nilc (.t 21)), kq 24 (.fad 1 (.t 23)), ku (.st 330 (.t 24) (.t 22))]) (.reg [km 25 5, kq 26 (.nilc (.t 25)), kq 27 (.fad 331 (.t 26)), kq 28 (.ld none (.t 27)), kq 29 (.bin .add (.t 28) (ki 1)), kq 30 (.nilc (.t 25)), kq 31 (.fad 331 (.t 30)), ku (.st 1 (.t 31) (.t 29))]))) .skip)) (.seq (.reg [km 32 6, km 4 32]) .ret))))⟩
abbrev zci (P : Program) : Prop := zX P "(*roundhouse/yard.Yard).Crash" = some zdc
def zdC : IFunc := ⟨11, [.tmp 4], (.seq (.reg [kq 4 (.mv (ki 0))]) (.seq (.reg [km 5 0, kq 6 (.nilc (.t 5)), kq 7 (.fad 0 (.t 6)), kq 8 (.ld none (.t 7)), km 9 1, kq 10 (.call "(*roundhouse/head.Head).Wish" [(.t 8), (.t 9)]), km 4 10]) .ret))⟩
abbrev zct (P : Program) : Prop := zX P "(*roundhouse/yard.Yard).Wish" = some zdC
def zdE : IFunc := ⟨8, [.cell 2 (some 330)], (.seq (.reg [kq 2 (.new kA)]) (.seq (.reg [km 3 0, kq 4 (.nilc (.t 3)), kq 5 (.fad 0 (.t 4)), kq 6 (.ld none (.t 5)), kq 7 (.call "(*roundhouse/head.Head).Pool" [(.t 6)]), ku (.st 330 (.t 2) (.t 7))]) .ret))⟩
abbrev zcv (P : Program) : Prop := zX P "(*roundhouse/yard.Yard).Pool" = some zdE
def zbD : IFunc := ⟨13, [], (.reg [km 4 0, km 5 0, kq 6 (.nilc (.t 5)), kq 7 (.fad 0 (.t 6)), kq 8 (.ld none (.t 7)), km 9 1, kq 10 (.app [(1, .pointer none)] 1 8 (.t 8) (.t 9)), kq 11 (.nilc (.t 4)), kq 12 (.fad 0 (.t 11)), ku (.st 1 (.t 12) (.t 10))])⟩
abbrev zbc (P : Program) : Prop := zX P "(*roundhouse/yard.row[*roundhouse/yard.unit]).put" = some zbD
def zgh : IFunc := ⟨3, [.tmp 0], (.seq (.reg [kq 0 (.mv (.c (.pointer none)))]) (.seq (.reg [kq 1 (.bld [(324, (.int .i64 0)), (6, (.int .u64 0)), (1, (.bool false)), (1, (.int .u32 0)), (1, (.bool false)), (1, (.int .u32 0)), (1, (.bool false)), (1, (.int .u32 0)), (1, (.bool false)), (1, (.int .u32 0)), (1, (.bool false)), (1, (.int .u32 0)), (1, (.bool false)), (1, (.int .u32 0)), (1, (.bool false)), (1, (.int .u32 0)), (1, (.bool false)), (1, (.int .u32 0)), (1, (.bool false)), (1, (.int .u32 0)), (1, (.bool false)), (1, (.int .u32 0)), (1, (.bool false)), (1, (.int .u32 0)), (1, (.bool false)), (1, (.int .u32 0)), (1, (.bool false)), (1, (.int .u32 0)), (1, (.bool false)), (1, (.int .u32 0)), (1, (.bool false)), (1, (.int .u32 0)), (1, (.bool false)), (1, (.int .u32 0)), (1, (.bool false)), (1, (.int .u32 0)), (1, (.bool false)), (1, (.int .u32 0)), (1, (.bool false)), (1, (.int .u32 0)), (1, (.bool false)), (1, (.int .u32 0)), (1, (.bool false)), (1, (.int .u32 0)), (1, (.bool false)), (1, (.int .u32 0)), (1, (.bool false)), (1, (.int .u32 0)), (1, (.bool false)), (1, (.int .u32 0)), (1, (.bool false)), (1, (.int .u32 0)), (1, (.bool false)), (1, (.int .u32 0)), (1, (.bool false)), (1, (.int .u32 0)), (1, (.bool false)), (1, (.int .u32 0)), (1, (.bool false)), (1, (.int .u32 0)), (1, (.bool false)), (1, (.int .u32 0)), (1, (.bool false)), (1, (.int .u32 0)), (1, (.bool false)), (1, (.int .u32 0)), (1, (.bool false)), (1, (.int .u32 0)), (1, (.bool false)), (1, (.int .u32 0)), (1, (.bool false)), (1, (.int .u32 0)), (1, (.bool false)), (1, (.int .u32 0)), (1, (.bool false)), (1, (.int .u32 0)), (1, (.bool false)), (1, (.int .u32 0)), (1, (.bool false)), (1, (.int .u32 0)), (1, (.bool false)), (1, (.int .u32 0)), (1, (.bool false)), (1, (.int .u32 0)), (1, (.bool false)), (1, (.int .u32 0)), (1, (.bool false)), (1, (.int .u32 0)), (1, (.bool false)), (1, (.int .u32 0)), (1, (.bool false)), (1, (.int .u32 0)), (1, (.bool false)), (1, (.int .u32 0)), (1, (.bool false)), (1, (.int .u32 0)), (1, (.bool false)), (1, (.int .u32 0)), (1, (.bool false)), (1, (.int .u32 0)), (1, (.bool false)), (1, (.int .u32 0)), (1, (.bool false)), (1, (.int .u32 0)), (1, (.bool false)), (1, (.int .u32 0)), (1, (.bool false)), (1, (.int .u32 0)), (1, (.bool false)), (1, (.int .u32 0)), (1, (.bool false)), (1, (.int .u32 0)), (1, (.bool false)), (1, (.int .u32 0)), (1, (.bool false)), (1, (.int .u32 0)), (1, (.bool false)), (1, (.int .u32 0)), (1, (.bool false)), (1, (.int .u32 0)), (1, (.bool false)), (1, (.int .u32 0)), (1, (.bool false)), (1, (.int .u32 0)), (1, (.bool false)), (1, (.int .u32 0)), (1, (.bool false)), (1, (.int .u32 0)), (1, (.bool false)), (1, (.int .u32 0)), (1, (.bool false)), (1, (.slice none 0 0))] []), kq 2 (.box (.t 1)), km 0 2]) .ret))⟩
abbrev zeN (P : Program) : Prop := zX P "roundhouse/plane.New" = some zgh
def zbE : IFunc := ⟨13, [], (.reg [km 4 0, km 5 0, kq 6 (.nilc (.t 5)), kq 7 (.fad 0 (.t 6)), kq 8 (.ld none (.t 7)), km 9 1, kq 10 (.app kB 342 2728 (.t 8) (.t 9)), kq 11 (.nilc (.t 4)), kq 12 (.fad 0 (.t 11)), ku (.st 1 (.t 12) (.t 10))])⟩
abbrev zay (P : Program) : Prop := zX P "(*roundhouse/yard.row[roundhouse/head.Note]).put" = some zbE
def zbi : IFunc := ⟨26, [.cell 4 (some 342), .tmp 5], (.seq (.reg [kq 4 (.new kB), kq 5 (.mv kF)]) (.seq (.seq (.reg [km 7 1, kq 8 (.bin .lss (.t 7) (ki 0)), km 9 8, kg 10 (.mv (.t 1)) 9 false, kg 11 (.mv (.t 0)) 9 false, kg 12 (.nilc (.t 11)) 9 false, kg 13 (.fad 0 (.t 12)) 9 false, kg 14 (.ld none (.t 13)) 9 false, kg 15 (.lenS (.t 14)) 9 false, kg 16 (.bin .geq (.t 10) (.t 15)) 9 false, kq 17 (.pick (.t 9) kT (.t 16))]) (.cond (.t 17) (.seq (.reg [kq 6 (.new kB)]) (.seq (.reg [kq 18 (.ld (some 342) (.t 6)), ku (.st 342 (.t 4) (.t 18)), kq 5 (.mv kF)]) .ret)) .skip)) (.seq (.reg [km 19 0, kq 20 (.nilc (.t 19)), kq 21 (.fad 0 (.t 20)), kq 22 (.ld none (.t 21)), km 23 1, kq 24 (.iadS 342 (.t 22) (.t 23)), kq 25 (.ld (some 342) (.t 24)), ku (.st 342 (.t 4) (.t 25)), kq 5 (.mv kT)]) .ret)))⟩
abbrev zab (P : Program) : Prop := zX P "(*roundhouse/yard.row[roundhouse/head.Note]).at" = some zbi
def zby : IFunc := ⟨22, [], (.dreg [km 4 0, km 5 0, kq 6 (.nilc (.t 5)), kq 7 (.fad 0 (.t 6)), kq 8 (.ld none (.t 7)), km 9 1, km 10 1, kq 11 (.slcS 342 (.t 8) none (some (.t 9)) (some (.t 10))), km 12 0, kq 13 (.nilc (.t 12)), kq 14 (.fad 0 (.t 13)), kq 15 (.ld none (.t 14)), km 16 1, kq 17 (.bin .add (.t 16) (ki 1)), kq 18 (.slcS 342 (.t 15) (some (.t 17)) none none), kq 19 (.app kB 342 2728 (.t 11) (.t 18)), kq 20 (.nilc (.t 4)), kq 21 (.fad 0 (.t 20)), ku (.st 1 (.t 21) (.t 19))] [[], [], [1], [2, 1], [3, 2, 1], [], [], [4, 3, 2, 1, 5, 6], [], [8], [9, 8], [10, 9, 8], [], [12], [11, 10, 9, 8, 13, 12], [7, 4, 3, 2, 1, 5, 6, 14, 11, 10, 9, 8, 13, 12], [0, 1, 2, 3, 4, 5, 6, 7, 8, 9, 10, 11, 12, 13, 14, 15], [16, 0, 1, 2, 3, 4, 5, 6, 7, 8, 9, 10, 11, 12, 13, 14, 15], [17, 16, 0, 1, 2, 3, 4, 5, 6, 7, 8, 9, 10, 11, 12, 13, 14, 15]])⟩
abbrev zad (P : Program) : Prop := zX P "(*roundhouse/yard.row[roundhouse/head.Note]).drop" = some zby
def zbL : IFunc := ⟨26, [.tmp 4, .tmp 5], (.seq (.reg [kq 4 (.mv (.c (.pointer none))), kq 5 (.mv kF)]) (.seq (.seq (.reg [km 7 1, kq 8 (.bin .lss (.t 7) (ki 0)), km 9 8, kg 10 (.mv (.t 1)) 9 false, kg 11 (.mv (.t 0)) 9 false, kg 12 (.nilc (.t 11)) 9 false, kg 13 (.fad 0 (.t 12)) 9 false, kg 14 (.ld none (.t 13)) 9 false, kg 15 (.lenS (.t 14)) 9 false, kg 16 (.bin .geq (.t 10) (.t 15)) 9 false, kq 17 (.pick (.t 9) kT (.t 16))]) (.cond (.t 17) (.seq (.reg [kq 6 (.mv (.c (.pointer none)))]) (.seq (.reg [km 18 6, km 4 18, kq 5 (.mv kF)]) .ret)) .skip)) (.seq (.reg [km 19 0, kq 20 (.nilc (.t 19)), kq 21 (.fad 0 (.t 20)), kq 22 (.ld none (.t 21)), km 23 1, kq 24 (.iadS 1 (.t 22) (.t 23)), kq 25 (.ld none (.t 24)), km 4 25, kq 5 (.mv kT)]) .ret)))⟩
abbrev qT (P : Program) : Prop := zX P "(*roundhouse/yard.row[*roundhouse/yard.unit]).at" = some zbL
def zdB : IFunc := ⟨81, [.cell 4 (some 342), .tmp 5], (.seq (.reg [kq 4 (.new kB), kq 5 (.mv kF)]) (.seq (.reg [km 10 0, kq 11 (.nilc (.t 10)), kq 12 (.fad 332 (.t 11)), kq 13 (.ld none (.t 12))]) (.seq (.reg [kq 14 (.sel1 kB true (.t 13)), kq 15 (.ext 0 (.t 14)), kq 16 (.bin .eql (.t 15) (ki 0))]) (.block 0 (.cond (.t 16) (.seq (.reg [kq 18 (.ext 2 (.t 14)), kq 6 (.new kB), ku (.st 342 (.t 6) (.t 18))]) (.seq (.reg [km 19 0, kq 20 (.call "(*roundhouse/yard.unit).version" [(.t 19)]), km 7 20]) (.seq (.block 1 (.seq (.dreg [kq 22 (.fad 1 (.t 6)), kq 23 (.ld none (.t 22)), km 24 0, kq 25 (.nilc (.t 24)), kq 26 (.fad 331 (.t 25)), kq 27 (.ld none (.t 26)), kq 28 (.bin .neq (.t 23) (.t 27)), km 21 28] [[], [0], [], [2], [3, 2], [4, 3, 2], [1, 0, 5, 4, 3, 2], [6, 1, 0, 5, 4, 3, 2]]) (.cond (.t 21) .skip (.seq (.reg [kq 30 (.fad 3 (.t 6)), kq 31 (.ld none (.t 30)), km 32 31, kg 33 (.mv (.t 7)) 32 true, kg 34 (.fad 12 (.t 6)) 32 true, kg 35 (.fad 0 (.t 34)) 32 true, kg 36 (.ld none (.t 35)) 32 true, kg 37 (.bin .lss (.t 33) (.t 36)) 32 true, kq 38 (.pick (.t 32) (.t 37) kF), km 29 38]) (.cond (.t 29) (.reg [km 39 0, kq 40 (.fad 12 (.t 6)), kq 41 (.ld (some 330) (.t 40)), kq 42 (.call "(*roundhouse/yard.unit).load" [(.t 39), (.t 41)])]) (.seq (.reg [kq 44 (.fad 3 (.t 6)), kq 45 (.ld none (.t 44)), kq 46 (.un .not (.t 45)), km 47 46, kg 48 (.mv (.t 7)) 47 true, kg 49 (.bin .geq (.t 48) (ki 0)) 47 true, kq 50 (.pick (.t 47) (.t 49) kF), km 51 50, kg 52 (.fad 2 (.t 6)) 51 true, kg 53 (.ld none (.t 52)) 51 true, kg 54 (.mv (.t 7)) 51 true, kg 55 (.bin .add (.t 54) (ki 1)) 51 true, kg 56 (.bin .eql (.t 53) (.t 55)) 51 true, kq 57 (.pick (.t 51) (.t 56) kF), km 43 57]) (.cond (.t 43) (.seq (.dreg [km 59 0, kq 60 (.nilc (.t 59)), kq 61 (.fad 1 (.t 60)), kq 62 (.ld (some 330) (.t 61)), kq 63 (.fad 5 (.t 6)), kq 64 (.ld (some 7) (.t 63)), kq 65 (.call "roundhouse/pool.Apply" [(.t 62), (.t 64)]), km 58 65, kq 66 (.ext 0 (.t 58)), kq 67 (.ext 1 (.t 58)), kq 8 (.new kA), ku (.st 330 (.t 8) (.t 66)), km 9 67] [[], [0], [1, 0], [2, 1, 0], [], [4], [3, 2, 1, 0, 5, 4], [6, 3, 2, 1, 0, 5, 4], [7, 6, 3, 2, 1, 0, 5, 4], [7, 6, 3, 2, 1, 0, 5, 4], [], [10, 8, 7, 6, 3, 2, 1, 0, 5, 4], [9, 7, 6, 3, 2, 1, 0, 5, 4, 11, 10, 8]]) (.seq (.reg [km 68 9, kq 69 (.bin .eql (.t 68) (ki 0))]) (.cond (.t 69) (.reg [km 70 0, kq 71 (.ld (some 330) (.t 8)), kq 72 (.call "(*roundhouse/yard.unit).load" [(.t 70), (.t 71)])]) .skip))) .skip))))))) (.seq (.dreg [km 73 1, km 74 0, kq 75 (.nilc (.t 74)), kq 76 (.fad 331 (.t 75)), kq 77 (.ld none (.t 76)), km 78 0, kq 79 (.call "(*roundhouse/yard.unit).version" [(.t 78)]), kq 80 (.bld kB [(0, 1, (.t 73)), (1, 1, (.t 77)), (2, 1, (.t 79)), (4, 1, kT)]), ku (.st 342 (.t 4) (.t 80)), kq 5 (.mv kT)] [[], [], [1], [2, 1], [3, 2, 1], [], [5], [0, 4, 3, 2, 1, 6, 5], [7, 0, 4, 3, 2, 1, 6, 5], [8, 7, 0, 4, 3, 2, 1, 6, 5]]) .ret)))) (.seq (.reg [kq 17 (.bld kB []), ku (.st 342 (.t 4) (.t 17)), kq 5 (.mv kF)]) .ret))))))⟩
abbrev zbP (P : Program) : Prop := zX P "(*roundhouse/yard.unit).hear" = some zdB
def zcd : IFunc := ⟨15, [.tmp 2, .tmp 3], (.seq (.reg [kq 2 (.mv (ki 0)), kq 3 (.mv kF)]) (.seq (.dreg [km 4 0, kq 5 (.nilc (.t 4)), kq 6 (.fad 0 (.t 5)), kq 7 (.fad 0 (.t 6)), kq 8 (.fad 0 (.t 7)), kq 9 (.ld none (.t 8)), km 10 0, kq 11 (.nilc (.t 10)), kq 12 (.fad 0 (.t 11)), kq 13 (.fad 330 (.t 12)), kq 14 (.ld none (.t 13)), km 2 9, km 3 14] [[], [0], [1, 0], [2, 1, 0], [3, 2, 1, 0], [4, 3, 2, 1, 0], [], [6], [7, 6], [8, 7, 6], [9, 8, 7, 6], [5, 4, 3, 2, 1, 0], [10, 9, 8, 7, 6, 11, 5, 4, 3, 2, 1, 0]]) .ret))⟩
abbrev zap (P : Program) : Prop := zX P "(*roundhouse/plane.Plane).Version" = some zcd
def zcB : IFunc := ⟨5, [], (.reg [km 2 0, kq 3 (.bld [(324, (.int .i64 0)), (6, (.int .u64 0)), (1, (.bool false)), (1, (.int .u32 0)), (1, (.bool false)), (1, (.int .u32 0)), (1, (.bool false)), (1, (.int .u32 0)), (1, (.bool false)), (1, (.int .u32 0)), (1, (.bool false)), (1, (.int .u32 0)), (1, (.bool false)), (1, (.int .u32 0)), (1, (.bool false)), (1, (.int .u32 0)), (1, (.bool false)), (1, (.int .u32 0)), (1, (.bool false)), (1, (.int .u32 0)), (1, (.bool false)), (1, (.int .u32 0)), (1, (.bool false)), (1, (.int .u32 0)), (1, (.bool false)), (1, (.int .u32 0)), (1, (.bool false)), (1, (.int .u32 0)), (1, (.bool false)), (1, (.int .u32 0)), (1, (.bool false)), (1, (.int .u32 0)), (1, (.bool false)), (1, (.int .u32 0)), (1, (.bool false)), (1, (.int .u32 0)), (1, (.bool false)), (1, (.int .u32 0)), (1, (.bool false)), (1, (.int .u32 0)), (1, (.bool false)), (1, (.int .u32 0)), (1, (.bool false)), (1, (.int .u32 0)), (1, (.bool false)), (1, (.int .u32 0)), (1, (.bool false)), (1, (.int .u32 0)), (1, (.bool false)), (1, (.int .u32 0)), (1, (.bool false)), (1, (.int .u32 0)), (1, (.bool false)), (1, (.int .u32 0)), (1, (.bool false)), (1, (.int .u32 0)), (1, (.bool false)), (1, (.int .u32 0)), (1, (.bool false)), (1, (.int .u32 0)), (1, (.bool false)), (1, (.int .u32 0)), (1, (.bool false)), (1, (.int .u32 0)), (1, (.bool false)), (1, (.int .u32 0)), (1, (.bool false)), (1, (.int .u32 0)), (1, (.bool false)), (1, (.int .u32 0)), (1, (.bool false)), (1, (.int .u32 0)), (1, (.bool false)), (1, (.int .u32 0)), (1, (.bool false)), (1, (.int .u32 0)), (1, (.bool false)), (1, (.int .u32 0)), (1, (.bool false)), (1, (.int .u32 0)), (1, (.bool false)), (1, (.int .u32 0)), (1, (.bool false)), (1, (.int .u32 0)), (1, (.bool false)), (1, (.int .u32 0)), (1, (.bool false)), (1, (.int .u32 0)), (1, (.bool false)), (1, (.int .u32 0)), (1, (.bool false)), (1, (.int .u32 0)), (1, (.bool false)), (1, (.int .u32 0)), (1, (.bool false)), (1, (.int .u32 0)), (1, (.bool false)), (1, (.int .u32 0)), (1, (.bool false)), (1, (.int .u32 0)), (1, (.bool false)), (1, (.int .u32 0)), (1, (.bool false)), (1, (.int .u32 0)), (1, (.bool false)), (1, (.int .u32 0)), (1, (.bool false)), (1, (.int .u32 0)), (1, (.bool false)), (1, (.int .u32 0)), (1, (.bool false)), (1, (.int .u32 0)), (1, (.bool false)), (1, (.int .u32 0)), (1, (.bool false)), (1, (.int .u32 0)), (1, (.bool false)), (1, (.int .u32 0)), (1, (.bool false)), (1, (.int .u32 0)), (1, (.bool false)), (1, (.int .u32 0)), (1, (.bool false)), (1, (.int .u32 0)), (1, (.bool false)), (1, (.int .u32 0)), (1, (.bool false)), (1, (.int .u32 0)), (1, (.bool false)), (1, (.int .u32 0)), (1, (.bool false)), (1, (.slice none 0 0))] []), kq 4 (.nilc (.t 2)), ku (.st 460 (.t 4) (.t 3))])⟩
abbrev zbp (P : Program) : Prop := zX P "(*roundhouse/plane.Plane).Crash" = some zcB
def zcz : IFunc := ⟨15, [.tmp 2], (.seq (.reg [kq 2 (.mv (ki 0))]) (.seq (.seq (.reg [km 6 0, kq 7 (.nilc (.t 6)), kq 8 (.fad 0 (.t 7)), kq 9 (.ld none (.t 8)), kq 10 (.call "(*roundhouse/plane.Plane).Version" [(.t 9)]), km 5 10, kq 11 (.ext 0 (.t 5)), kq 12 (.ext 1 (.t 5)), km 3 11, km 4 12]) (.seq (.reg [km 13 4]) (.cond (.t 13) (.seq (.reg [km 14 3, km 2 14]) .ret) .skip))) (.seq (.reg [kq 2 (.mv (ki (-1)))]) .ret)))⟩
abbrev za3 (P : Program) : Prop := zX P "(*roundhouse/yard.unit).version" = some zcz
def zdA : IFunc := ⟨14, [], (.seq (.reg [kq 3 (.box (.t 1))]) (.seq (.reg [km 4 0, kq 5 (.ld (some 330) (.t 3)), kq 6 (.nilc (.t 4)), kq 7 (.fad 1 (.t 6)), ku (.st 330 (.t 7) (.t 5))]) (.dreg [km 8 0, kq 9 (.nilc (.t 8)), kq 10 (.fad 0 (.t 9)), kq 11 (.ld none (.t 10)), kq 12 (.ld (some 330) (.t 3)), kq 13 (.call "(*roundhouse/plane.Plane).Load" [(.t 11), (.t 12)])] [[], [0], [1, 0], [2, 1, 0], [], [3, 2, 1, 0, 4]])))⟩
abbrev zbu (P : Program) : Prop := zX P "(*roundhouse/yard.unit).load" = some zdA
def zcX : IFunc := ⟨14, [], (.seq (.reg [kq 3 (.box (.t 1))]) (.seq (.dreg [km 4 0, kq 5 (.nilc (.t 4)), kq 6 (.fad 0 (.t 5)), kq 7 (.ld (some 330) (.t 3)), kq 8 (.call "(*roundhouse/plane.maybe[roundhouse/api.Pool]).lay" [(.t 6), (.t 7)])] [[], [0], [1, 0], [], [2, 1, 0, 3]]) (.reg [km 9 0, kq 10 (.ld (some 330) (.t 3)), kq 11 (.call "roundhouse/wheel.Make" [(.t 10)]), kq 12 (.nilc (.t 9)), kq 13 (.fad 459 (.t 12)), ku (.st 1 (.t 13) (.t 11))])))⟩
abbrev zaW (P : Program) : Prop := zX P "(*roundhouse/plane.Plane).Load" = some zcX
def zbt : IFunc := ⟨11, [], (.seq (.reg [kq 3 (.box (.t 1))]) (.reg [km 4 0, km 5 0, kq 6 (.ld (some 330) (.t 3)), kq 7 (.nilc (.t 4)), kq 8 (.fad 0 (.t 7)), ku (.st 330 (.t 8) (.t 6)), kq 9 (.nilc (.t 5)), kq 10 (.fad 330 (.t 9)), ku (.st 1 (.t 10) kT)]))⟩
abbrev qR (P : Program) : Prop := zX P "(*roundhouse/plane.maybe[roundhouse/api.Pool]).lay" = some zbt
end Go.Rh

namespace Go.Rh
section
variable {P : Program} {C : qW}
def wpF3 (C : qW) (c : IFunc) (args : List Value) (h : List Blk) (R : zdX) : Prop :=
 wpC C h.length c.body (fun ex s => (match ex with | .exit _ => False | .goto _ => False | _ => True) ∧ ∃ l, zfD s c.res = some l ∧ (∀ v ∈ l, zbG v = false) ∧ vpf (one l) = true ∧ ∃ s0, Wk h.length s s0 ∧ R (one l) s0.h) ⟨reg (argL 0 args), h⟩
theorem wpF3_sound (hC : ziM P C) {f : FuncId} {fn : Func} {c : IFunc} {args : List Value} {h : List Blk} {R : zdX} (hf' : P.funcs[f]? = some fn) (hc : cFunc P fn = some c) (hwp : wpF3 C c args h R) : ACalls P f args h R := by
 unfold cFunc at hc
 split at hc <;> try cases hc
 rename_i body res hb hres
 split at hc <;> cases hc
 rename_i hwf
 intro w φ args' H hl hargs
 refine calls_of_wp hf' hb (wp_mono (zbN (n := fn.ntmps) (h0 := h) (w0 := w) (φ0 := φ) hC H body _ _ w hwf ⟨φ, _, hwp, ?_⟩) ?_)
 ·refine ⟨by simp; omega, fun t => ?_, rfl, H, FrC.refl _ _ _⟩
  simp only [Array.getD_eq_getD_getElem?]
  rcases zhV args 0 t with h1 | ⟨v, h0, h1, h2⟩
  ·rw [h1]; exact VR.junk
  ·have ht := zJ h1
   have h3 : args'[t]? = some (args'[t]'(by omega)) := by simp [show t < args'.size by omega]
   rw [Array.getElem?_append_left (by omega), h2, h3]
   exact hargs t _ _ (by simpa using h1) h3
 ·intro e a' w' he
  have fin : Sim fn.ntmps φ h w (fun s => ∃ l, zfD s res = some l ∧ (∀ v ∈ l, zbG v = false) ∧ vpf (one l) = true ∧ ∃ s0, Wk h.length s s0 ∧ R (one l) s0.h) a' w' →
    a'.defers = [] ∧ ∃ v, (results fn a'.tmps).run P w' = .ok v w' ∧ ∃ v0 v' h' φ', (Ending.returned v : Ending) = .returned v' ∧ R v0 h' ∧ VR φ' v0 v' ∧ HR φ' (hf h') w' ∧ FrC φ h w φ' h' w' := by
   intro hS
   obtain ⟨φ1, s, ⟨l, hl1, hl2, hvp, s0, hwk, hR⟩, I⟩ := hS
   obtain ⟨φ2, I2⟩ := I.weak H hwk
   obtain ⟨l', hr, hE⟩ := zd1 I hres hl1
   refine ⟨I.defers, if h : l'.toArray.size = 1 then l'.toArray[0] else .tuple l'.toArray, ?_, ?_⟩
   ·rw [zg4]
    simp [Array.mapM_eq_mapM_toList, hr]
   ·have hV : VR φ1 (one l) (if h : l'.toArray.size = 1 then l'.toArray[0] else .tuple l'.toArray) := by
     have hlen := hE.1
     unfold one
     split
     ·rename_i v
      match l', hE with
      | [v'], hE => simpa using hE.2 0 v v' rfl rfl
      | [], hE => simp at hlen
      | _ :: _ :: _, hE => simp at hlen
     ·rename_i hne
      have : ¬ l'.toArray.size = 1 := by
       intro h1
       have h2 : l.length = 1 := by rw [hlen]; simpa using h1
       match l, h2 with
       | [v], _ => exact hne v rfl
      rw [dif_neg this]
      exact ⟨l'.toArray, rfl, by simpa using hE.mono2 fun v v' hv hr => GR.of_VR (hl2 v hv) hr⟩
    exact ⟨_, _, _, φ2, rfl, hR, VR.plain' hvp hV, I2.heap, I2.fr⟩
  cases e with
  | normal => exact fin (he.mono fun s h => h.2)
  | ret => exact fin (he.mono fun s h => h.2)
  | exit id => obtain ⟨_, _, ⟨h, _⟩, _⟩ := he; exact h.elim
  | goto l => obtain ⟨_, _, ⟨h, _⟩, _⟩ := he; exact h.elim
  | _ => exact he.elim
theorem Env.of3 {P : Program} {g : String} {c : IFunc} {args : List Value} {h : List Blk} {R : zdX} (hc : zX P g = some c) (hwp : wpF3 (Env P) c args h R) : Env P g args h R := by
 intro f fn hf hn
 unfold zX at hc
 split at hc <;> try cases hc
 rename_i fn' hfl
 have hm : fn ∈ P.funcs.toList.filter (·.name == g) := List.mem_filter.2 ⟨by
  have := Array.mem_of_getElem? hf
  simpa using this, by simpa using hn⟩
 rw [hfl] at hm
 have : fn = fn' := by simpa using hm
 subst this
 exact wpF3_sound (Env.sound P) hf hc hwp
end
theorem Env.by3 {P : Program} {g : String} {c : IFunc} {args : List Value} {h : List Blk} {R : zdX} (hc : zX P g = some c)
  (hg : GC (Env P) h.length c.body (fun ex s => (match ex with | .exit _ => False | .goto _ => False | _ => True) ∧ ∃ l, zfD s c.res = some l ∧ (∀ v ∈ l, zbG v = false) ∧ vpf (one l) = true ∧ ∃ s0, Wk h.length s s0 ∧ R (one l) s0.h) ⟨reg (argL 0 args), h⟩) : Env P g args h R := Env.of3 hc hg.out
end Go.Rh

namespace Go.Rh
def viewL (ρ : Nat → Nat) (h : List Blk) : List Nat → List Blk → Prop
 | k :: ks, b :: bs => (∃ b', h[k]? = some b' ∧ Blk.view (zaR ρ b) b') ∧ viewL ρ h ks bs
 | _, _ => True
theorem zeu {ρ : Nat → Nat} {h : List Blk} : ∀ {sel : List Nat} {bs : List Blk}, viewL ρ h sel bs → ∀ (i k : Nat) b1, sel[i]? = some k → bs[i]? = some b1 → ∃ b, h[k]? = some b ∧ Blk.view (zaR ρ b1) b
 | [], _, _, i, _, _, h1, _ => by simp at h1
 | _ :: _, [], _, i, _, _, _, h2 => by simp at h2
 | _ :: _, _ :: _, hb, 0, _, _, h1, h2 => by simp at h1 h2; subst h1; subst h2; exact hb.1
 | _ :: _, _ :: _, hb, i + 1, k, b, h1, h2 => zeu hb.2 i k b (by simpa using h1) (by simpa using h2)
theorem zcZ {C : qW} {g : String} {vals : List Value} {K : zdX} {h : List Blk} {R : zdX} (sel : List Nat) (h1 : List Blk) (a1 : List Value) (hC : C g a1 h1 R) (hl : h1.length = sel.length) (ha : a1.map (zbw (rho sel h.length)) = vals)
  (hs : viewL (rho sel h.length) h sel h1) (hd : sel.Nodup) (hK : ∀ v h1', R v h1' → zee h1 h1' ∧ ∃ v' xs ys, zbw (rho sel h.length) v = v' ∧ zhJ sel h1' (rho sel h.length) 0 h xs ∧ renL (rho sel h.length) (h1'.drop sel.length) ys ∧ K v' (xs ++ ys)) : zcl C g vals K h := by
 refine ⟨sel, h1, a1, R, hC, hl, ha, zeu hs, fun i j k b1 hij e1 e2 _ => ?_, fun v h1' hR _ _ => ?_⟩
 ·exact (zgF hd hij e1 e2).elim
 ·obtain ⟨hg, v', xs, ys, e1, e2, e3, e4⟩ := hK v h1' hR
  rw [e1, ziF e2 e3]; exact ⟨hg, e4⟩
section
variable {C : qW} {un : Nat → Nat → Bool} {K : St → Prop} {L : List (Nat × Value)} {h : List Blk} {i nid : Nat} {log : List Foot}
theorem zga {d : Nat} {g : String} {args : List Opd} {r : List ICell} {R : zdX} (sel : List Nat) (h1 : List Blk) (a1 : List Value) (hC : C g a1 h1 R) (hl : h1.length = sel.length) (ha : a1.map (zbw (rho sel h.length)) = args.map (evf (reg L)))
  (hs : viewL (rho sel h.length) h sel h1) (hd : sel.Nodup) (hx : ∃ v h1', R v h1' ∧ sel.length ≤ h1'.length ∧ zcI h1 h1')
  (hK : ∀ v h1', R v h1' → zee h1 h1' ∧ ∃ v' xs ys, zbw (rho sel h.length) v = v' ∧ zhJ sel h1' (rho sel h.length) 0 h xs ∧ renL (rho sel h.length) (h1'.drop sel.length) ys ∧ GD C un (i + 1) nid r (⟨i, sel, zcL sel h1, some h.length⟩ :: log) K ⟨reg ((d, v') :: L), xs ++ ys⟩)
  (hfit : zhI un ⟨i, sel, zcL sel h1, some h.length⟩ log = true := by kernel_rfl) : GD C un i nid (⟨some d, .call g args, none⟩ :: r) log K ⟨reg L, h⟩ := by
 refine ⟨⟨sel, h1, a1, R, hC, hl, ha, zeu hs, fun i j k b1 hij e1 e2 _ => ?_, zcJ hfit, fun _ => hx, fun v h1' hR _ _ => ?_⟩⟩
 ·exact (zgF hd hij e1 e2).elim
 ·obtain ⟨hg, v', xs, ys, e1, e2, e3, e4⟩ := hK v h1' hR
  rw [e1, ziF e2 e3]; exact ⟨hg, e4.out⟩
theorem d_clHW {d : Nat} {g : String} {args : List Opd} {r : List ICell} {R : zdX} (w : List Nat) (sel : List Nat) (h1 : List Blk) (a1 : List Value) (hC : C g a1 h1 R) (hw : zcL sel h1 = w) (hl : h1.length = sel.length) (ha : a1.map (zbw (rho sel h.length)) = args.map (evf (reg L)))
  (hs : viewL (rho sel h.length) h sel h1) (hd : sel.Nodup) (hx : ∃ v h1', R v h1' ∧ sel.length ≤ h1'.length ∧ zcI h1 h1')
  (hK : ∀ v h1', R v h1' → zee h1 h1' ∧ ∃ v' xs ys, zbw (rho sel h.length) v = v' ∧ zhJ sel h1' (rho sel h.length) 0 h xs ∧ renL (rho sel h.length) (h1'.drop sel.length) ys ∧ GD C un (i + 1) nid r (⟨i, sel, w, some h.length⟩ :: log) K ⟨reg ((d, v') :: L), xs ++ ys⟩)
  (hfit : zhI un ⟨i, sel, w, some h.length⟩ log = true := by kernel_rfl) : GD C un i nid (⟨some d, .call g args, none⟩ :: r) log K ⟨reg L, h⟩ := by
 subst hw
 refine ⟨⟨sel, h1, a1, R, hC, hl, ha, zeu hs, fun i j k b1 hij e1 e2 _ => ?_, zcJ hfit, fun _ => hx, fun v h1' hR _ _ => ?_⟩⟩
 ·exact (zgF hd hij e1 e2).elim
 ·obtain ⟨hg, v', xs, ys, e1, e2, e3, e4⟩ := hK v h1' hR
  rw [e1, ziF e2 e3]; exact ⟨hg, e4.out⟩
theorem d_mk {d : Nat} {op : IOp} {r : List ICell} {v : Value} {B : Blk} (hm : op.makes = true) (hs : zQ op (evf (reg L)) (hf h) nid = some (v, .push B)) (hg : h[nid]? = some .gone) (hfit : zhI un ⟨i, [], [nid], none⟩ log = true)
  (hk : GD C un (i + 1) (nid + 1) r (⟨i, [], [nid], none⟩ :: log) K ⟨reg ((d, v) :: L), h.set nid B⟩) : GD C un i nid (⟨some d, op, none⟩ :: r) log K ⟨reg L, h⟩ := by
 refine ⟨?_⟩
 show za8 C un ⟨i, nid, ⟨some d, op, none⟩⟩ log (fun log' s' => wpD C un (zbA (i + 1) (if op.makes then nid + 1 else nid) r) log' K s') ⟨reg L, h⟩
 have hsp : qC op = 0 := by cases op <;> first | rfl | cases hm
 have hrd : rdE op (evf (reg L)) = [] := by unfold rdE; rw [ziq hm]; rfl
 refine (zaZ (fun _ => hsp)).2 ⟨⟨i, [], [nid], none⟩, ⟨zas (reg L) (some d) v, h.set nid B⟩, ?_, zcJ hfit, ?_⟩
 ·simp [ziB, gJ, zb0, hs, hrd, hg]
 ·have hk := hk.out
  simp only [hm, if_true]
  exact hk
theorem zgu {x : Opd} {e : Opd → Value} {h : Nat → Option Blk} {n : Nat} {c : List Value} (hx : e x = .agg ⟨c⟩) (hc : c.length = 342) : zQ (.bsl zNt' 342 1 [(0, 342, x)]) e h n = some (sv n 0 1 1, .push (cw c)) := by
 have h1 : (List.replicate 1 (qI zNt')).flatten = ntF 0 0 0 false false e0 zH := by rw [zNt_eq]; simp
 have h2 : zcN (.agg ⟨c⟩) = c := rfl
 have h3 : splice (ntF 0 0 0 false false e0 zH) 0 c = c := zc5 (by rw [hc, z8])
 simp only [zQ, List.map_cons, List.map_nil, hx, h1, zdO, h2]
 rw [if_pos ⟨rfl, hc, by rw [z8]; omega⟩, h3]
end
theorem zG {ρ : Nat → Nat} {c : List Value} {rw : Bool} : Blk.view (zaR ρ (cr [])) (.cells c rw) := .inr ⟨rfl, _, _, rfl⟩
theorem zZ {a b : Blk} (h : Blk.sees a b) : Blk.view a b := .inl h
theorem z4 {l : List Blk} : zee [] l := fun i h => by simp at h
theorem zA {b b' : Blk} {h h' : List Blk} (h1 : b = .gone → b' = .gone) (h2 : zee h h') : zee (b :: h) (b' :: h') := by
 intro i hi
 cases i with
 | zero => simp only [List.getElem?_cons_zero, Option.some.injEq] at hi ⊢; exact h1 hi
 | succ i => simp only [List.getElem?_cons_succ] at hi ⊢; exact h2 i hi
theorem zD {b : Blk} : b = .gone → b = .gone := fun h => h
theorem qD {c : List Value} {rw : Bool} {b : Blk} : Blk.cells c rw = .gone → b = .gone := fun h => by cases h
def ntE (n : Nt) : Value := ntV n.u n.b n.v n.w n.a n.e n.p
theorem qX {ρ : Nat → Nat} {n : Nat} (w : List Nt) : zaR ρ (.chan n (w.map ntE)) = .chan n (w.map ntE) := by
 have hr : ∀ e : Nt, zfX ρ (ntE e) = ntE e := fun e => zgC (zaV _ _ _ _ _ _ _)
 simp only [zaR, List.map_map]
 congr 1
 exact List.map_congr_left fun e _ => hr e
theorem zcg {ρ : Nat → Nat} {n : Nat} (w : List Nt) : Blk.seen (zaR ρ (.chan n (w.map ntE))) (.chan n (w.map ntE)) := by rw [qX]; rfl
def z5 (k : Nat) (p : qO) (b : Int) (kc : Nat) : List Value := [pv k 0] ++ (pl p ++ [iv b, .chan (some kc)])
theorem unitL_length (k : Nat) (p : qO) (b : Int) (kc : Nat) : (z5 k p b kc).length = 333 := by simp [z5, zN]
theorem unit_rP {m : Option Nat} {k : Nat} {p : qO} {b : Int} {kc o : Nat} {v : Value} (h : zam m (pl p) o = some v) : zam m (z5 k p b kc) (1 + o) = some v := (zfa (a := [pv k 0]) rfl).trans (zdw h)
theorem zdu {m : Option Nat} {k : Nat} {p : qO} {b : Int} {kc : Nat} (o : Nat) : zam m (z5 k p b kc) (331 + o) = zam m [iv b, .chan (some kc)] o := by
 rw [show 331 + o = 1 + (330 + o) by omega]
 exact (zfa (a := [pv k 0]) rfl).trans (zfa (zN p))
theorem unit_wP {k : Nat} {p q : qO} {b : Int} {kc : Nat} : splice (z5 k p b kc) 1 (pl q) = z5 k q b kc := by
 have : splice (z5 k p b kc) (1 + 0) (pl q) = [pv k 0] ++ splice (pl p ++ [iv b, .chan (some kc)]) 0 (pl q) := zcf rfl
 rw [zej (by rw [zN, zN]; omega), zae] at this; exact this
theorem unit_wB {k : Nat} {p : qO} {b b' : Int} {kc : Nat} : splice (z5 k p b kc) 331 [iv b'] = z5 k p b' kc := by
 have h1 : splice (z5 k p b kc) (1 + 330) [iv b'] = [pv k 0] ++ splice (pl p ++ [iv b, .chan (some kc)]) 330 [iv b'] := zcf rfl
 have h2 : splice (pl p ++ [iv b, .chan (some kc)]) (330 + 0) [iv b'] = pl p ++ splice [iv b, .chan (some kc)] 0 [iv b'] := zcf (zN p)
 rw [h2] at h1; exact h1
theorem unit_le {k : Nat} {p : qO} {b : Int} {kc m : Nat} (h : m ≤ 333) : m ≤ (z5 k p b kc).length := by rw [unitL_length]; exact h
theorem zcn {ρ : Nat → Nat} {k k' : Nat} {p : qO} {b : Int} {kc kc' : Nat} {rw : Bool} (h1 : ρ k = k') (h2 : ρ kc = kc') : zaR ρ (.cells (z5 k p b kc) rw) = .cells (z5 k' p b kc') rw := by
 subst h1; subst h2
 simp only [zaR, z5, List.map_append, ren_pl]; rfl
theorem zaO {ρ : Nat → Nat} {k k' : Nat} {p : qO} {b : Int} {kc kc' : Nat} {rw : Bool} (h1 : ρ k = k') (h2 : ρ kc = kc') : some (Blk.cells (z5 k' p b kc') rw) = some (zaR ρ (.cells (z5 k p b kc) rw)) := by rw [zcn h1 h2]
theorem zbB {ρ : Nat → Nat} {k k' : Nat} {p : qO} {b : Int} {kc kc' : Nat} {rw rw' : Bool} (h1 : ρ k = k') (h2 : ρ kc = kc') (hr : rw = true → rw' = true) : Blk.seen (zaR ρ (.cells (z5 k p b kc) rw)) (.cells (z5 k' p b kc') rw') := by
 rw [zcn h1 h2]; exact ⟨rfl, hr⟩
def zUn : RL := [(1, .pointer none), (324, .int .i64 0), (6, .int .u64 0), (1, .int .i64 0), (1, .chan none)]
theorem bld_unit (k kc : Nat) : zdO (qI zUn) [(0, 1, pv k 0), (332, 1, .chan (some kc))] = some (z5 k zH 0 kc) := by kernel_rfl
def nearL (nr : Nat → Int × Bool) : List Value := ((List.range 64).map fun i => [.int .u32 (nr i).1, bv (nr i).2]).flatten
def nr0 : Nat → Int × Bool := fun _ => (0, false)
def zjf (is : Bool) (nr : Nat → Int × Bool) (w : Value) : List Value := [bv is] ++ (nearL nr ++ [w])
def zK (p : qO) (is : Bool) (nr : Nat → Int × Bool) (w : Value) : List Value := pl p ++ zjf is nr w
theorem planeT_length (is : Bool) (nr : Nat → Int × Bool) (w : Value) : (zjf is nr w).length = 130 := rfl
theorem zdN (p : qO) (is : Bool) (nr : Nat → Int × Bool) (w : Value) : (zK p is nr w).length = 460 := by simp only [zK, List.length_append, zN, planeT_length]
theorem plane_rP {m : Option Nat} {p : qO} {is : Bool} {nr : Nat → Int × Bool} {w v : Value} {o : Nat} (h : zam m (pl p) o = some v) : zam m (zK p is nr w) o = some v := zdw h
theorem plane_rT {m : Option Nat} {p : qO} {is : Bool} {nr : Nat → Int × Bool} {w : Value} (o : Nat) : zam m (zK p is nr w) (330 + o) = zam m (zjf is nr w) o := zfa (zN p)
theorem plane_wP {p q : qO} {is : Bool} {nr : Nat → Int × Bool} {w : Value} : splice (zK p is nr w) 0 (pl q) = zK q is nr w := by
 unfold zK; rw [zej (by rw [zN, zN]; omega), zae]
theorem plane_wI {p : qO} {is is' : Bool} {nr : Nat → Int × Bool} {w : Value} : splice (zK p is nr w) 330 [bv is'] = zK p is' nr w := zcf (o := 0) (zN p)
theorem plane_wW {p : qO} {is : Bool} {nr : Nat → Int × Bool} {w w' : Value} : splice (zK p is nr w) 459 [w'] = zK p is nr w' := by
 have h1 : splice (zK p is nr w) (330 + 129) [w'] = pl p ++ splice (zjf is nr w) 129 [w'] := zcf (zN p)
 have h2 : splice (zjf is nr w) (1 + 128) [w'] = [bv is] ++ splice (nearL nr ++ [w]) 128 [w'] := zcf rfl
 have h3 : splice (nearL nr ++ [w]) (128 + 0) [w'] = nearL nr ++ splice [w] 0 [w'] := zcf rfl
 rw [h3] at h2; rw [h2] at h1; exact h1
theorem plane_wAll {p q : qO} {is is' : Bool} {nr nr' : Nat → Int × Bool} {w w' : Value} : splice (zK p is nr w) 0 (zK q is' nr' w') = zK q is' nr' w' := zc5 (by rw [zdN, zdN])
theorem zhQ {p : qO} {is : Bool} {nr : Nat → Int × Bool} {w : Value} {m : Nat} (h : m ≤ 460) : m ≤ (zK p is nr w).length := by rw [zdN]; exact h
theorem nearL_scl (nr : Nat → Int × Bool) : (nearL nr).all zbz = true := by
 simp only [nearL, List.all_flatten, List.all_map]
 exact List.all_eq_true.2 fun i _ => rfl
theorem ren_nearL {ρ : Nat → Nat} (nr : Nat → Int × Bool) : (nearL nr).map (zet ρ) = nearL nr := zbf fun v hv => zeA (List.all_eq_true.1 (nearL_scl nr) v hv)
theorem zbb {ρ : Nat → Nat} {p : qO} {is : Bool} {nr : Nat → Int × Bool} {w w' : Value} {rw : Bool} (h : zet ρ w = w') : zaR ρ (.cells (zK p is nr w) rw) = .cells (zK p is nr w') rw := by
 subst h
 simp only [zaR, zK, zjf, List.map_append, ren_pl, ren_nearL]; rfl
theorem qZ {ρ : Nat → Nat} {p : qO} {is : Bool} {nr : Nat → Int × Bool} {w w' : Value} {rw : Bool} (h : zet ρ w = w') : some (Blk.cells (zK p is nr w') rw) = some (zaR ρ (.cells (zK p is nr w) rw)) := by rw [zbb h]
theorem zaK {ρ : Nat → Nat} {p : qO} {is : Bool} {nr : Nat → Int × Bool} {w w' : Value} {rw rw' : Bool} (h : zet ρ w = w') (hr : rw = true → rw' = true) : Blk.seen (zaR ρ (.cells (zK p is nr w) rw)) (.cells (zK p is nr w') rw') := by
 rw [zbb h]; exact ⟨rfl, hr⟩
theorem bld_plane : zdO (qI [(324, Value.int .i64 0), (6, .int .u64 0), (1, .bool false), (1, .int .u32 0), (1, .bool false), (1, .int .u32 0), (1, .bool false), (1, .int .u32 0), (1, .bool false), (1, .int .u32 0), (1, .bool false), (1, .int .u32 0), (1, .bool false), (1, .int .u32 0), (1, .bool false), (1, .int .u32 0), (1, .bool false), (1, .int .u32 0), (1, .bool false), (1, .int .u32 0), (1, .bool false), (1, .int .u32 0), (1, .bool false), (1, .int .u32 0), (1, .bool false), (1, .int .u32 0), (1, .bool false), (1, .int .u32 0), (1, .bool false), (1, .int .u32 0), (1, .bool false), (1, .int .u32 0), (1, .bool false), (1, .int .u32 0), (1, .bool false), (1, .int .u32 0), (1, .bool false), (1, .int .u32 0), (1, .bool false), (1, .int .u32 0), (1, .bool false), (1, .int .u32 0), (1, .bool false), (1, .int .u32 0), (1, .bool false), (1, .int .u32 0), (1, .bool false), (1, .int .u32 0), (1, .bool false), (1, .int .u32 0), (1, .bool false), (1, .int .u32 0), (1, .bool false), (1, .int .u32 0), (1, .bool false), (1, .int .u32 0), (1, .bool false), (1, .int .u32 0), (1, .bool false), (1, .int .u32 0), (1, .bool false), (1, .int .u32 0), (1, .bool false), (1, .int .u32 0), (1, .bool false), (1, .int .u32 0), (1, .bool false), (1, .int .u32 0), (1, .bool false), (1, .int .u32 0), (1, .bool false), (1, .int .u32 0), (1, .bool false), (1, .int .u32 0), (1, .bool false), (1, .int .u32 0), (1, .bool false), (1, .int .u32 0), (1, .bool false), (1, .int .u32 0), (1, .bool false), (1, .int .u32 0), (1, .bool false), (1, .int .u32 0), (1, .bool false), (1, .int .u32 0), (1, .bool false), (1, .int .u32 0), (1, .bool false), (1, .int .u32 0), (1, .bool false), (1, .int .u32 0), (1, .bool false), (1, .int .u32 0), (1, .bool false), (1, .int .u32 0), (1, .bool false), (1, .int .u32 0), (1, .bool false), (1, .int .u32 0), (1, .bool false), (1, .int .u32 0), (1, .bool false), (1, .int .u32 0), (1, .bool false), (1, .int .u32 0), (1, .bool false), (1, .int .u32 0), (1, .bool false), (1, .int .u32 0), (1, .bool false), (1, .int .u32 0), (1, .bool false), (1, .int .u32 0), (1, .bool false), (1, .int .u32 0), (1, .bool false), (1, .int .u32 0), (1, .bool false), (1, .int .u32 0), (1, .bool false), (1, .int .u32 0), (1, .bool false), (1, .int .u32 0), (1, .bool false), (1, .int .u32 0), (1, .bool false), (1, .int .u32 0), (1, .bool false), (1, .int .u32 0), (1, .bool false), (1, .slice none 0 0)]) [] = some (zK zH false nr0 (.slice none 0 0)) := by kernel_rfl
def uf (i a b : Nat) : Nat → Nat := fun j => if j = i then a else b + j
def zaY (n : Nat) (f : Nat → Nat) : List Value := (List.range n).map fun j => pv (f j) 0
def zbe (m : Nat) : List Value := zbs [.pointer none] m
theorem ptrs_length (n : Nat) (f : Nat → Nat) : (zaY n f).length = n := by simp [zaY]
theorem ptrs_r {n m j : Nat} {f : Nat → Nat} (h : j < n) : zam none (zaY n f ++ zbe m) j = some (pv (f j) 0) := by
 show (zaY n f ++ zbe m)[j]? = _
 rw [List.getElem?_append_left (by rw [ptrs_length]; exact h)]
 simp [zaY, h]
theorem zfF {ρ : Nat → Nat} {n m : Nat} {f f' : Nat → Nat} {rw : Bool} (h : ∀ j, j < n → ρ (f j) = f' j) : zaR ρ (.cells (zaY n f ++ zbe m) rw) = .cells (zaY n f' ++ zbe m) rw := by
 simp only [zaR, List.map_append]
 congr 2
 ·simp only [zaY, List.map_map]
  refine List.map_congr_left fun j hj => ?_
  show zet ρ (pv (f j) 0) = pv (f' j) 0
  rw [← h j (List.mem_range.1 hj)]; rfl
 ·exact zbf fun v hv => zeA (List.all_eq_true.1 (zgA (z := [.pointer none]) rfl m) v hv)
theorem uf_ren {ρ : Nat → Nat} {i a b a' b' : Nat} (h1 : ρ a = a') (h2 : ∀ j, j < 16 → ρ (b + j) = b' + j) : ∀ j, j < 16 → ρ (uf i a b j) = uf i a' b' j := by
 intro j hj
 unfold uf
 split
 ·exact h1
 ·exact h2 j hj
theorem h16 {sel : List Nat} {N b b' : Nat} (h : (List.range 16).all (fun j => sel[b + j]? == some (b' + j)) = true) : ∀ j, j < 16 → rho sel N (b + j) = b' + j := by
 intro j hj
 have := List.all_eq_true.1 h j (List.mem_range.2 hj)
 exact zc1 (by simpa using this)
theorem zey {ρ : Nat → Nat} {n m i a b a' b' : Nat} {rw rw' : Bool} (h1 : ρ a = a') (h2 : ∀ j, j < 16 → ρ (b + j) = b' + j) (hn : n ≤ 16) (hr : rw = true → rw' = true) : Blk.seen (zaR ρ (.cells (zaY n (uf i a b) ++ zbe m) rw)) (.cells (zaY n (uf i a' b') ++ zbe m) rw') := by
 rw [zfF fun j hj => uf_ren h1 h2 j (by omega)]; exact ⟨rfl, hr⟩
theorem zco {ρ : Nat → Nat} {n m i a b : Nat} {rw : Bool} (h1 : ρ a = a) (h2 : ∀ j, j < 16 → ρ (b + j) = b + j) (hn : n ≤ 16) : some (Blk.cells (zaY n (uf i a b) ++ zbe m) rw) = some (zaR ρ (.cells (zaY n (uf i a b) ++ zbe m) rw)) := by
 rw [zfF fun j hj => uf_ren h1 h2 j (by omega)]
theorem uf_at (i a b : Nat) : uf i a b i = a := if_pos rfl
abbrev Gr := Option (Nat × List Value)
def gV (k n : Nat) : Gr → Value
 | none => .slice none 0 0
 | some (c, _) => sv k 0 n c
def gB (l : List Nt) : Gr → Blk
 | none => .gone
 | some (_, t) => cw (zaX l ++ t)
def hidB : Bool → Blk
 | false => .gone
 | true => cr []
theorem view_hidS {ρ : Nat → Nat} {z c : List Value} (q : Option Nat) : Blk.view (zaR ρ (hidB q.isSome)) (slB z c q) := by
 cases q with
 | none => exact .inl (.inr ⟨rfl, rfl⟩)
 | some x => exact .inr ⟨rfl, _, _, rfl⟩
def gOk (l : List Nt) : Gr → Prop
 | none => l = []
 | some (c, t) => l.length ≤ c ∧ (c - l.length) * 342 ≤ t.length ∧ t.all zbz = true
theorem zdm {ρ : Nat → Nat} {l : List Nt} (o : Gr) : Blk.view (zaR ρ (hidB o.isSome)) (gB l o) := by
 cases o with
 | none => exact .inl (.inr ⟨rfl, rfl⟩)
 | some x => exact zG
theorem gB_scl {l : List Nt} {c : Nat} {t : List Value} (h : gOk l (some (c, t))) : (zaX l ++ t).all zbz = true := zeU (zfH l) h.2.2
theorem qQ {ρ : Nat → Nat} {l : List Nt} {o : Gr} (h : gOk l o) : zaR ρ (gB l o) = gB l o := by
 cases o with
 | none => rfl
 | some x => exact zbk (gB_scl h)
theorem zb3 {ρ : Nat → Nat} {l : List Nt} {o : Gr} (h : gOk l o) : Blk.view (zaR ρ (gB l o)) (gB l o) := by
 rw [qQ h]
 cases o with
 | none => exact .inl (.inr ⟨rfl, rfl⟩)
 | some x => exact .inl (.inl ⟨rfl, fun q => q⟩)
theorem qP {sel : List Nat} {N k k' n : Nat} (o : Gr) (h : rho sel N k = k') : zet (rho sel N) (gV k n o) = gV k' n o := by
 cases o with
 | none => rfl
 | some x => subst h; rfl
theorem zfL {l l' : List Nt} {o o' : Gr} (h : o'.isSome = o.isSome) : gB l o = .gone → gB l' o' = .gone := by
 cases o with
 | none => cases o' with
  | none => exact fun _ => rfl
  | some x => cases h
 | some x => exact fun h => by cases h
theorem zhS (a b : List Nt) : zaX (a ++ b) = zaX a ++ zaX b := by simp [zaX]
theorem nts_take (l : List Nt) (t : List Value) : ((zaX l ++ t).drop 0).take (l.length * 342) = zaX l := by
 rw [List.drop_zero, ← za2, List.take_append_of_le_length (Nat.le_refl _), List.take_length]
theorem app_g {C : qW} {K : Value → List Blk → Prop} {s x : Opd} {L : List (Nat × Value)} {h : List Blk} {k : Nat} {l xs : List Nt} {o : Gr} {xv : Value}
  (hs : evf (reg L) s = gV k l.length o) (hk : h[k]? = some (gB l o)) (ho : gOk l o) (hx : evf (reg L) x = xv) (hq : lenV xv = some xs.length) (hf1 : first (hf h) 342 xs.length xv = some (zaX xs)) (hb : l.length + xs.length ≤ 1000000)
  (h0 : xs = [] → K (gV k l.length o) h)
  (h1 : xs ≠ [] → ∀ c t, o = some (c, t) → gOk (l ++ xs) (some (c, t.drop (xs.length * 342))) → K (gV k (l ++ xs).length (some (c, t.drop (xs.length * 342)))) (h.set k (gB (l ++ xs) (some (c, t.drop (xs.length * 342))))))
  (h2 : xs ≠ [] → ∀ o', o'.isSome = true → gOk (l ++ xs) o' → K (gV h.length (l ++ xs).length o') (h ++ [gB (l ++ xs) o'])) : zfQ C (.app zNt' 342 2728 s x) (reg L) h K := by
 show appK zNt' 342 2728 (evf (reg L) s) (evf (reg L) x) (fun v e => K v (e.on h)) (hf h) h.length
 rw [hs, hx]
 have e1 : first (hf h) 342 l.length (gV k l.length o) = some (zaX l) := by
  cases o with
  | none => have : l = [] := ho; subst this; rfl
  | some ct =>
   obtain ⟨c, t⟩ := ct
   refine zbF (zav.2 ⟨hk, by simp [gB]⟩) (nts_take l t) ?_
   rw [List.length_append, za2]; omega
 have e2 : ∃ b c, gV k l.length o = .slice b l.length c ∧ (c = match o with | none => 0 | some (c, _) => c) ∧ (b = match o with | none => none | some _ => some ⟨k, 0, none⟩) := by
  cases o with
  | none => have : l = [] := ho; subst this; exact ⟨_, _, rfl, rfl, rfl⟩
  | some ct => exact ⟨_, _, rfl, rfl, rfl⟩
 obtain ⟨b, c, e3, e4, e5⟩ := e2
 have new : ∀ c, l.length + xs.length ≤ c → xs ≠ [] → K (.slice (some ⟨h.length, 0, none⟩) (l.length + xs.length) c) (h ++ [.cells (zaX l ++ zaX xs ++ (List.replicate (c - (l.length + xs.length)) (qI zNt')).flatten) true]) := by
  intro c hc hne
  have := h2 hne (some (c, (List.replicate (c - (l.length + xs.length)) (qI zNt')).flatten)) rfl ?_
  ·simp only [gV, gB, zhS, List.length_append] at this
   exact this
  ·refine ⟨by simp; omega, ?_, ?_⟩
   ·rw [show ((List.replicate (c - (l.length + xs.length)) (qI zNt')).flatten).length = (c - (l.length + xs.length)) * 342 by rw [zNt_eq]; simp [z8]]
    simp
   ·rw [zNt_eq]; exact zgA (zg7 0 0 0 false false e0 zH) _
 rw [e3] at e1 ⊢
 simp only [appK, hq]
 rw [e1, hf1]
 simp only
 by_cases hfit : l.length + xs.length ≤ c
 ·rw [if_pos hfit]
  by_cases hz : xs.length = 0
  ·have hxn : xs = [] := List.eq_nil_of_length_eq_zero hz
   cases o with
   | none =>
    simp only at e5; subst e5
    simp only [hz, if_true, Eff.on]
    have := h0 hxn
    rw [e3] at this; simpa [hxn] using this
   | some ct =>
    simp only at e5; subst e5
    simp only [hz, if_true, Eff.on]
    have := h0 hxn
    rw [e3] at this; simpa [hxn] using this
  ·have hxn : xs ≠ [] := fun e => hz (by rw [e]; rfl)
   cases o with
   | none =>
    simp only at e4; subst e4; omega
   | some ct =>
    obtain ⟨c1, t⟩ := ct
    simp only at e4 e5; subst e4; subst e5
    simp only [hz, if_false]
    have e6 : hf h k = some (.cells (zaX l ++ t) true) := zav.2 ⟨hk, by simp⟩
    rw [e6]
    simp only
    obtain ⟨o1, o2, o3⟩ := ho
    have hle : 0 + l.length * 342 + (zaX xs).length ≤ (zaX l ++ t).length := by
     rw [List.length_append, za2, za2]
     have : xs.length * 342 ≤ (c - l.length) * 342 := Nat.mul_le_mul_right _ (by omega)
     omega
    rw [if_pos hle]
    have hsp : splice (zaX l ++ t) (0 + l.length * 342) (zaX xs) = zaX (l ++ xs) ++ t.drop (xs.length * 342) := by
     rw [Nat.zero_add, ← za2 l]
     unfold splice
     rw [List.take_append_of_le_length (Nat.le_refl _), List.take_length, zhS, List.drop_append, List.drop_eq_nil_of_le (by omega), List.nil_append, za2 xs]
     rw [Nat.add_sub_cancel_left, List.append_assoc]
    have := h1 hxn c t rfl ⟨by simp; omega, ?_, ?_⟩
    ·simp only [gV, gB, List.length_append] at this
     rw [hsp]
     exact this
    ·rw [List.length_drop, List.length_append]
     have : (c - (l.length + xs.length)) * 342 = (c - l.length) * 342 - xs.length * 342 := by rw [← Nat.sub_mul]; congr 1; omega
     omega
    ·exact List.all_eq_true.2 fun v hv => List.all_eq_true.1 o3 v (List.mem_of_mem_drop hv)
 ·rw [if_neg hfit]
  have hxn : xs ≠ [] := fun e => by
   subst e
   cases o with
   | none => have : l = [] := ho; subst this; simp at hfit
   | some ct => obtain ⟨c1, t⟩ := ct; simp only at e4; have := ho.1; simp at hfit; omega
  refine ⟨by omega, fun c hc => ?_⟩
  have := new c (by omega) hxn
  simpa [Eff.on] using this
theorem o_app {C : qW} {K : St → Prop} {L : List (Nat × Value)} {h : List Blk} {d : Nat} {op : IOp} {r : List ICell} (hw : zfQ C op (reg L) h (fun v h' => GO C r K ⟨reg ((d, v) :: L), h'⟩)) : GO C (⟨some d, op, none⟩ :: r) K ⟨reg L, h⟩ := ⟨zcm (fun v h' q => q.out) hw⟩
def zY (kh : Nat) (u w : Value) : List Value := [pv kh 0, u, w]
theorem zat {ρ : Nat → Nat} {kh kh' : Nat} {u u' w w' : Value} {rw : Bool} (h0 : ρ kh = kh') (h1 : zet ρ u = u') (h2 : zet ρ w = w') : zaR ρ (.cells (zY kh u w) rw) = .cells (zY kh' u' w') rw := by
 subst h0; subst h1; subst h2; rfl
theorem zaf {ρ : Nat → Nat} {kh kh' : Nat} {u u' w w' : Value} {rw : Bool} (h0 : ρ kh = kh') (h1 : zet ρ u = u') (h2 : zet ρ w = w') : some (Blk.cells (zY kh' u' w') rw) = some (zaR ρ (.cells (zY kh u w) rw)) := by rw [zat h0 h1 h2]
theorem zao {ρ : Nat → Nat} {kh kh' : Nat} {u u' w w' : Value} {rw rw' : Bool} (h0 : ρ kh = kh') (h1 : zet ρ u = u') (h2 : zet ρ w = w') (hr : rw = true → rw' = true) : Blk.seen (zaR ρ (.cells (zY kh u w) rw)) (.cells (zY kh' u' w') rw') := by
 rw [zat h0 h1 h2]; exact ⟨rfl, hr⟩
theorem putNC {P : Program} (hc : zay P) (l x : List Nt) (o : Gr) (q : Option Nat) (n m : Nat) (ho : gOk l o) (hq : q = none → x = []) (hl : l.length + x.length ≤ 1000000) :
  Env P "(*roundhouse/yard.row[roundhouse/head.Note]).put" [pv 0 2, slV 2 x.length q] [cw [pv 3 0, sv 4 0 n (n + m), gV 1 l.length o], gB l o, slB zNt (zaX x) q, cr [], cr []]
   (fun v h' => v = .tuple #[] ∧ ∃ o', gOk (l ++ x) o' ∧ ((o'.isSome = o.isSome ∧ h' = [cw [pv 3 0, sv 4 0 n (n + m), gV 1 (l ++ x).length o'], gB (l ++ x) o', slB zNt (zaX x) q, cr [], cr []]) ∨ (o'.isSome = true ∧ h' = [cw [pv 3 0, sv 4 0 n (n + m), gV 5 (l ++ x).length o'], gB l o, slB zNt (zaX x) q, cr [], cr [], gB (l ++ x) o']))) := by
 refine Env.by2 hc ?_
 unfold zbE
 show GC _ 5 _ _ ⟨reg [(0, pv 0 2), (1, slV 2 x.length q)], [cw [pv 3 0, sv 4 0 n (n + m), gV 1 l.length o], gB l o, slB zNt (zaX x) q, cr [], cr []]⟩
 refine z0 (o_d 6 [(9, slV 2 x.length q), (8, gV 1 l.length o), (7, pv 0 2), (6, pv 0 2), (5, pv 0 2), (4, pv 0 2)] (by kernel_rfl) (o_app (app_g (l := l) (xs := x) (o := o) (k := 1) rfl rfl ho rfl ?_ ?_ hl (fun hx => ?_) (fun hx c t ht hg => ?_) (fun hx o' hs hg => ?_))))
 ·cases q with
  | none => rw [hq rfl]; rfl
  | some c => rfl
 ·cases q with
  | none => rw [hq rfl]; rfl
  | some c => exact zbF rfl (nts_take x _) (by rw [List.length_append, za2]; omega)
 ·subst hx
  refine o_b 3 [(12, pv 0 2), (11, pv 0 2)] [cw [pv 3 0, sv 4 0 n (n + m), gV 1 l.length o], gB l o, slB zNt (zaX []) q, cr [], cr []] (by cases o <;> kernel_rfl) ?_
  refine zF ⟨trivial, _, .inl rfl, [], rfl, z1, rfl, o, by simpa using ho, .inl ⟨rfl, ?_⟩⟩
  simp only [List.append_nil]
 ·subst ht
  exact o_b 3 [(12, pv 0 2), (11, pv 0 2)] [cw [pv 3 0, sv 4 0 n (n + m), gV 1 (l ++ x).length (some (c, t.drop (x.length * 342)))], gB (l ++ x) (some (c, t.drop (x.length * 342))), slB zNt (zaX x) q, cr [], cr []] (by kernel_rfl) (zF ⟨trivial, _, .inl rfl, [], rfl, z1, rfl, _, hg, .inl ⟨rfl, rfl⟩⟩)
 ·cases o' with
  | none => cases hs
  | some ct =>
   exact o_b 3 [(12, pv 0 2), (11, pv 0 2)] [cw [pv 3 0, sv 4 0 n (n + m), gV 5 (l ++ x).length (some ct)], gB l o, slB zNt (zaX x) q, cr [], cr [], gB (l ++ x) (some ct)] (by kernel_rfl) (zF ⟨trivial, _, .inl rfl, [], rfl, z1, rfl, _, hg, .inr ⟨rfl, rfl⟩⟩)
theorem nt1_eq {u b v : Int} {w a : Bool} {e : Ent} {p : qO} : slB zNt (zaX [⟨u, b, v, w, a, e, p⟩]) (some 0) = cw (ntF u b v w a e p) := by
 show cw (zaX [_] ++ zbs zNt 0) = _
 simp [zaX, zbs, ntL]
theorem zhL {ρ : Nat → Nat} {u b v : Int} {w a : Bool} {e : Ent} {p : qO} : Blk.view (zaR ρ (slB zNt (zaX [⟨u, b, v, w, a, e, p⟩]) (some 0))) (cw (ntF u b v w a e p)) := by
 rw [nt1_eq, zbk ntF_scl']; exact .inl (.inl ⟨rfl, fun q => q⟩)
theorem ze7 {ρ : Nat → Nat} {u b v : Int} {w a : Bool} {e : Ent} {p : qO} : zaR ρ (slB zNt (zaX [⟨u, b, v, w, a, e, p⟩]) (some 0)) = cw (ntF u b v w a e p) := by
 rw [nt1_eq, zbk ntF_scl']
theorem zik (l x : List Nt) (o : Gr) (q : Option Nat) (n m : Nat) : ∃ (v : Value) (h1' : List Blk), (v = .tuple #[] ∧ ∃ o', gOk (l ++ x) o' ∧ ((o'.isSome = o.isSome ∧ h1' = [cw [pv 3 0, sv 4 0 n (n + m), gV 1 (l ++ x).length o'], gB (l ++ x) o', slB zNt (zaX x) q, cr [], cr []]) ∨ (o'.isSome = true ∧ h1' = [cw [pv 3 0, sv 4 0 n (n + m), gV 5 (l ++ x).length o'], gB l o, slB zNt (zaX x) q, cr [], cr [], gB (l ++ x) o']))) ∧ 5 ≤ h1'.length ∧ zcI [cw [pv 3 0, sv 4 0 n (n + m), gV 1 l.length o], gB l o, slB zNt (zaX x) q, cr [], cr []] h1' :=
 ⟨_, _, ⟨rfl, some ((l ++ x).length, []), ⟨Nat.le_refl _, by simp, rfl⟩, .inr ⟨rfl, rfl⟩⟩, Nat.le_add_right 5 1, zfM rfl (za0 [_, _, _, _] [_])⟩
theorem wr_put (k k2 k3 k4 k5 : Nat) (l x : List Nt) (o : Gr) (q : Option Nat) {c : List Value} : zcL [k, k2, k3, k4, k5] [cw c, gB l o, slB zNt (zaX x) q, cr [], cr []] = [k, k2, k3] := by cases o <;> cases q <;> rfl
theorem run_lenG {d : Option Nat} {x : Opd} {L : List (Nat × Value)} {hp : List Blk} {k : Nat} {l : List Nt} {o : Gr} (hx : evf (reg L) x = gV k l.length o) (ho : gOk l o) : zdi [⟨d, .lenS x, none⟩] ⟨reg L, hp⟩ = some ⟨zas (reg L) d (iv (l.length : Nat)), hp⟩ := by
 refine zaE (e := .no) rfl rfl ?_
 cases o with
 | none => have : l = [] := ho; subst this; simp [zQ, hx, gV]
 | some ct => simp [zQ, hx, gV]
def laA (n m : Nat) (x : HS) (k : Nat) (l : List Nt) (o : Gr) : List Blk := [cw (zY 1 (sv 4 0 n (n + m)) (gV k l.length o)), cw (zR x.p 2 3 x.e x.s), .chan 200 (x.w.map qH), .map (hdM x.hd), cr []]
def PA (n m : Nat) (o0 : Gr) (x : HS) (l : List Nt) (h' : List Blk) : Prop := ∃ o X k T, gOk l o ∧ (o0 = none → X = Blk.gone) ∧ ((k = 5 ∧ X = gB l o ∧ T = []) ∨ (k = 6 ∧ T = [gB l o])) ∧ h' = laA n m x k l o ++ [X] ++ T
theorem sendS_len {x : HS} : (zal x).2.length ≤ x.hd.length := by
 have := notesTo_len (goS x) (goS x).hd.length
 rw [goS_hd] at this
 simpa [zal, goS_hd] using this
def laB (n m i kl kw : Nat) (l : List Nt) (o : Gr) (p : qO) (is : Bool) (nr : Nat → Int × Bool) (b : Int) (q : Option Nat) (X : Blk) : List Blk :=
 [cw (zY 1 (sv 2 0 n (n + m)) (gV kl l.length o)), cr [], cr (zaY n (uf i 3 8) ++ zbe m), cw (z5 4 p b 5), cw (zK p is nr (slV kw 127 q)), .chan 1 (([] : List Nt).map ntE), cr [], X] ++ List.replicate 16 (cr [])
structure PBok (n m i : Nat) (o0 : Gr) (l : List Nt) (p : qO) (is : Bool) (nr : Nat → Int × Bool) (b : Int) (ld : Bool) (q0 : Option Nat) (W : Blk → Nat → Prop) (h' : List Blk) (o : Gr) (X : Blk) (kl kw : Nat) (qw : Option Nat) (T : List Blk) : Prop where
  ok : gOk l o
  gone : o0 = none → X = .gone
  eq : h' = laB n m i kl kw l o p is nr b qw X ++ T
  way : (kl = 7 ∧ X = gB l o) ∨ ∃ j, kl = 24 + j ∧ T[j]? = some (gB l o)
  ne : kl ≠ kw
  whl : (ld = false ∧ kw = 6 ∧ qw = q0) ∨ ∃ j c B, ld = true ∧ kw = 24 + j ∧ qw = some c ∧ T[j]? = some B ∧ W B c
def PB (n m i : Nat) (o0 : Gr) (l : List Nt) (p : qO) (is : Bool) (nr : Nat → Int × Bool) (b : Int) (ld : Bool) (q0 : Option Nat) (W : Blk → Nat → Prop) (h' : List Blk) : Prop := ∃ o X kl kw qw T, PBok n m i o0 l p is nr b ld q0 W h' o X kl kw qw T
end Go.Rh

set_option maxHeartbeats 4000000
namespace Go.Rh
theorem apply_ver {c : qO} {e : Ent} (h : (z2 c e).2 = 0) : (z2 c e).1 0 = i64.wrap (c 0 + 1) := by
 obtain ⟨h1, hc, _, _⟩ := apply_ok h
 rw [h1]; exact done0 c e (checkS_ok hc).2.1
end Go.Rh

namespace Go.Rh
theorem bnds_hi {n c : Nat} {ik : IntKind} {v : Int} (h : 0 ≤ v ∧ v ≤ c) : bnds n c none (some (.int ik v)) none = some (0, v.toNat, c) := by
 have hb : bnd c (.int ik v) = some v.toNat := by simp [bnd, h]
 show (match bnd c (.int ik v) with | none => none | some h => some (0, h, c)) = _
 rw [hb]
theorem bnds_lo {n c : Nat} {ik : IntKind} {v : Int} (h : 0 ≤ v ∧ v ≤ n) : bnds n c (some (.int ik v)) none none = some (v.toNat, n, c) := by
 have hb : bnd n (.int ik v) = some v.toNat := by simp [bnd, h]
 show (match bnd n (.int ik v) with | none => none | some l => some (l, n, c)) = _
 rw [hb]
theorem run_slcHi {d : Option Nat} {size : Nat} {x lo : Opd} {L : List (Nat × Value)} {hp : List Blk} {b n c : Nat} {ik : IntKind} {v : Int} (hx : evf (reg L) x = .slice (some ⟨b, 0, none⟩) n c) (hh : evf (reg L) lo = .int ik v) (hv : 0 ≤ v ∧ v ≤ n) :
  zdi [⟨d, .slcS size x (some lo) none none, none⟩] ⟨reg L, hp⟩ = some ⟨zas (reg L) d (.slice (some ⟨b, if c = v.toNat then 0 else v.toNat * size, none⟩) (n - v.toNat) (c - v.toNat)), hp⟩ := by
 refine zaE (e := .no) rfl rfl ?_
 simp only [zQ, slcV, hx, Option.map_none, Option.map_some, hh, bnds_lo hv]
 by_cases hc : c = v.toNat <;> simp [hc, addA]
end Go.Rh

namespace Go.Rh
theorem r_app {C : qW} {pu : List String} {K : St → Prop} {L : List (Nat × Value)} {h : List Blk} {d : Nat} {z : RL} {n b : Nat} {x y : Opd} {r : List ICell} (hw : zfQ C (.app z n b x y) (reg L) h (fun v h' => GE C pu r K ⟨reg ((d, v) :: L), h'⟩)) : GE C pu (⟨some d, .app z n b x y, none⟩ :: r) K ⟨reg L, h⟩ :=
 ⟨zcm (K' := fun v h' => wpR C pu r K ⟨zas (reg L) (some d) v, h'⟩) (fun v h' q => q.out) hw⟩
theorem run_slc3 {d : Option Nat} {size : Nat} {x hi mx : Opd} {L : List (Nat × Value)} {hp : List Blk} {b n c : Nat} {v : Int} (hx : evf (reg L) x = .slice (some ⟨b, 0, none⟩) n c) (hh : evf (reg L) hi = iv v) (hm : evf (reg L) mx = iv v) (hv : 0 ≤ v ∧ v ≤ c) :
  zdi [⟨d, .slcS size x none (some hi) (some mx), none⟩] ⟨reg L, hp⟩ = some ⟨zas (reg L) d (.slice (some ⟨b, 0, none⟩) v.toNat v.toNat), hp⟩ := by
 refine zaE (e := .no) rfl rfl ?_
 have h1 : bnd c (.int .i64 v) = some v.toNat := by simp [bnd, hv]
 have h2 : bnd v.toNat (.int .i64 v) = some v.toNat := by simp [bnd, hv]; omega
 have hb : bnds n c none (some (.int .i64 v)) (some (.int .i64 v)) = some (0, v.toNat, v.toNat) := by
  show (match bnd c (.int .i64 v) with | none => none | some m => match bnd m (.int .i64 v) with | none => none | some h => some (0, h, m)) = _
  rw [h1]
  simp only [h2]
 simp only [zQ, slcV, hx, Option.map_none, Option.map_some, hh, hm, hb]
 by_cases hc : v.toNat = 0 <;> simp [hc, addA]
theorem gB_cut {l : List Nt} {c i : Nat} {t : List Value} : gB l (some (c, t)) = gB (l.take i) (some (i, zaX (l.drop i) ++ t)) := by
 show cw (zaX l ++ t) = cw (zaX (l.take i) ++ (zaX (l.drop i) ++ t))
 rw [← List.append_assoc, ← zhS, List.take_append_drop]
theorem gOk_cut {l : List Nt} {c i : Nat} {t : List Value} (h : gOk l (some (c, t))) (hi : i < l.length) : gOk (l.take i) (some (i, zaX (l.drop i) ++ t)) := by
 refine ⟨by simp; omega, ?_, zeU (zfH _) h.2.2⟩
 have : (l.take i).length = i := by simp; omega
 rw [this]; simp
theorem nts_dropS {l : List Nt} {t : List Value} {j : Nat} (h : j ≤ l.length) : ((zaX l ++ t).drop (j * 342)).take ((l.drop j).length * 342) = zaX (l.drop j) := by
 have e : zaX l ++ t = zaX (l.take j) ++ (zaX (l.drop j) ++ t) := by rw [← List.append_assoc, ← zhS, List.take_append_drop]
 have e1 : (zaX (l.take j)).length = j * 342 := by rw [za2]; simp [Nat.min_eq_left h]
 rw [e, ← e1, List.drop_append_of_le_length (Nat.le_refl _), List.drop_length, List.nil_append]
 have := nts_take (l.drop j) t
 rwa [List.drop_zero] at this
theorem zfO {l : List Nt} {i : Nat} : l.take i ++ l.drop (i + 1) = l.eraseIdx i := (List.eraseIdx_eq_take_drop_succ l i).symm
theorem dropNC {P : Program} (hc : zad P) (l : List Nt) (o : Gr) (k : Int) (n m : Nat) (ho : gOk l o) (hk : 0 ≤ k ∧ k < l.length) (hl : l.length ≤ 1000000) :
  Env P "(*roundhouse/yard.row[roundhouse/head.Note]).drop" [pv 0 2, iv k] [cw [pv 2 0, sv 3 0 n (n + m), gV 1 l.length o], gB l o, cr [], cr []]
   (fun v h' => v = .tuple #[] ∧ ∃ o', o'.isSome = true ∧ gOk (l.eraseIdx k.toNat) o' ∧ (h' = [cw [pv 2 0, sv 3 0 n (n + m), gV 1 (l.eraseIdx k.toNat).length o'], gB (l.eraseIdx k.toNat) o', cr [], cr []] ∨ h' = [cw [pv 2 0, sv 3 0 n (n + m), gV 4 (l.eraseIdx k.toNat).length o'], gB l o, cr [], cr [], gB (l.eraseIdx k.toNat) o'])) := by
 obtain ⟨i, rfl⟩ : ∃ i : Nat, k = (i : Nat) := ⟨k.toNat, by omega⟩
 have hi : i < l.length := by omega
 rw [show ((i : Nat) : Int).toNat = i from rfl]
 cases o with
 | none => have : l = [] := ho; subst this; simp at hi
 | some ct =>
 obtain ⟨c, t⟩ := ct
 have hlc := ho.1
 refine Env.by2 hc ?_
 unfold zby
 show GC _ 4 _ _ ⟨reg [(0, pv 0 2), (1, iv (i : Nat))], [cw [pv 2 0, sv 3 0 n (n + m), sv 1 0 l.length c], cw (zaX l ++ t), cr [], cr []]⟩
 refine zdz [] (by kernel_rfl) (r_d 7 [(10, iv (i : Nat)), (9, iv (i : Nat)), (8, sv 1 0 l.length c), (7, pv 0 2), (6, pv 0 2), (5, pv 0 2), (4, pv 0 2)] (by kernel_rfl) (r_s (run_slc3 (v := (i : Nat)) (b := 1) (n := l.length) (c := c) rfl rfl rfl (by omega)) ?_))
 refine r_d 5 [(16, iv (i : Nat)), (15, sv 1 0 l.length c), (14, pv 0 2), (13, pv 0 2), (12, pv 0 2)] (by kernel_rfl) (r_s (by refine qL (v := .int .i64 (i64.wrap ((i : Nat) + 1))) (congrArg (Value.int .i64) (w64 (by omega) (by omega))) ?_; kernel_rfl) ?_)
 refine r_s (run_slcHi (v := ((i : Nat) : Int) + 1) (b := 1) (n := l.length) (c := c) rfl rfl (by omega)) ?_
 have hlt : (l.take i).length = i := by simp; omega
 have hld : (l.drop (i + 1)).length = l.length - (i + 1) := by simp
 have hsum : (l.take i ++ l.drop (i + 1)).length = (l.eraseIdx i).length := by rw [zfO]
 refine r_app (app_g (l := l.take i) (xs := l.drop (i + 1)) (o := some (i, zaX (l.drop i) ++ t)) (k := 1) ?_ ?_ (gOk_cut ho hi) rfl ?_ ?_ (by rw [hlt, hld]; omega) (fun hx => ?_) (fun hx c' t' ht hg => ?_) (fun hx o' hs hg => ?_))
 ·rw [hlt]; rfl
 ·rw [← gB_cut (c := c)]; rfl
 ·rw [hld]; exact congrArg some (by omega)
 ·rw [hld]
  refine zbF (rw := true) (t := zaX l ++ t) rfl ?_ ?_
  ·by_cases hcc : c = (((i : Nat) : Int) + 1).toNat
   ·have h0 : l.length - (i + 1) = 0 := by omega
    have h1 : l.drop (i + 1) = [] := List.eq_nil_of_length_eq_zero (by rw [hld]; exact h0)
    rw [h0, h1]; simp [zaX]
   ·rw [if_neg hcc, ← hld]
    have : (((i : Nat) : Int) + 1).toNat = i + 1 := by omega
    rw [this]; exact nts_dropS (by omega)
  ·by_cases hcc : c = (((i : Nat) : Int) + 1).toNat
   ·rw [if_pos hcc, List.length_append, za2]; omega
   ·rw [if_neg hcc, List.length_append, za2]; omega
 ·refine r_b 3 [(21, pv 0 2), (20, pv 0 2)] [cw [pv 2 0, sv 3 0 n (n + m), gV 1 (l.take i).length (some (i, zaX (l.drop i) ++ t))], cw (zaX l ++ t), cr [], cr []] (by kernel_rfl) ?_
  refine zc7 ⟨trivial, _, .inl rfl, [], rfl, z1, rfl, some (i, zaX (l.drop i) ++ t), rfl, ?_, .inl ?_⟩
  ·rw [← zfO, hx, List.append_nil]; exact gOk_cut ho hi
  ·rw [← zfO, hx, List.append_nil, ← gB_cut (c := c)]; rfl
 ·exfalso
  have h2 := hg.1
  simp only [Option.some.injEq, Prod.mk.injEq] at ht
  rw [hsum, ← ht.1, ← zfO, List.length_append, hlt] at h2
  exact hx (List.eq_nil_of_length_eq_zero (by omega))
 ·cases o' with
  | none => cases hs
  | some ct =>
   refine r_b 3 [(21, pv 0 2), (20, pv 0 2)] [cw [pv 2 0, sv 3 0 n (n + m), gV 4 (l.take i ++ l.drop (i + 1)).length (some ct)], cw (zaX l ++ t), cr [], cr [], gB (l.take i ++ l.drop (i + 1)) (some ct)] (by kernel_rfl) (zc7 ⟨trivial, _, .inl rfl, [], rfl, z1, rfl, some ct, rfl, ?_, .inr ?_⟩)
   ·rw [← zfO]; exact hg
   ·rw [← zfO]; rfl
end Go.Rh
