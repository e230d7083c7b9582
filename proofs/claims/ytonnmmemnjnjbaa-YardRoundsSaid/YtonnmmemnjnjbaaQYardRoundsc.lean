/- The proofs zeX the intermediate form, part QYardRoundsc. -/
import Derived.Test.YtonnmmemnjnjbaaQYardRoundsb
open Go.IntKind (i64)
set_option linter.unusedVariables false
set_option linter.unusedSimpArgs false
set_option maxRecDepth 100000
set_option maxHeartbeats 8000000
namespace Go.Rh
theorem resV_pool {s : St} {t u k : Nat} {d : qL} {v : Value} {rw : Bool} (h4 : s.f t = .pointer (some ⟨k, 0, none⟩)) (hh : hf s.h k = some (.cells (pl d) rw)) (h5 : s.f u = v) : zfr s [.cell t (some 330), .tmp u] = some [qG d, v] := by
 simp only [zfr, ldV, h4, hh, zal, h5, Option.map_some]
theorem zeR (d : qL) : splice (qT zP) 0 (pl d) = pl d := zdr (by rw [zjo, zN, zN])
theorem qO (c d : qL) : splice (pl c) 0 (pl d) = pl d := zdr (by rw [zN, zN])
theorem zlen : (qT zP).length = 330 := by rw [zjo, zN]
theorem ApplyC {P : Program} (hc : zaU P) (hmay : za3 P) (hheld : zaT P) (hfits : za1 P)
    (hcheck : zaO P) (hpl : zau P) (hnext : zaC P) (c : qL) (e : Ent) :
    Env P "roundhouse/pool.Apply" [qG c, qR e] [] (Ans (.tuple #[qG (zO c e).1, .int .i64 (zO c e).2]) []) := by
  refine Env.of hc ?_
  unfold wpF zfS
  have fin : ∀ (d : qL) (x : Int) (rw : Bool) (s : St), zO c e = (d, x) → s.f 4 = .pointer (some ⟨2, 0, none⟩) → hf s.h 2 = some (.cells (pl d) rw) → s.f 5 = .int .i64 x →
      True ∧ ∃ l', zfr s [.cell 4 (some 330), .tmp 5] = some l' ∧ (∀ v ∈ l', zbQ v = false) ∧ (Ans (.tuple #[qG (zO c e).1, .int .i64 (zO c e).2]) [] (one l') s.h ∨ (vpf (one l') = true ∧ (∀ b ∈ s.h.take 0, zjn b = true) ∧ Ans (.tuple #[qG (zO c e).1, .int .i64 (zO c e).2]) [] (one l') (s.h.take 0))) := by
    intro d x rw s hd h4 hh h5
    refine qH [qG d, .int .i64 x] (resV_pool h4 hh h5) ?_ ?_ rfl rfl
    · rw [List.all_cons, qZ]; rfl
    · rw [hd]; rfl
  have hb3 : ∀ d : qL, ([.cells (pl d) true, .cells (eL e) true, .cells (qT zP) true] : List Blk).all (zjx 3) = true := by
    intro d; simp [zjx, zhe, eL, zig, zjo]
  refine zK (s' := _) rfl (zg8 [(2, .pointer (some ⟨0, 0, none⟩)), (3, .pointer (some ⟨1, 0, none⟩)), (4, .pointer (some ⟨2, 0, none⟩))] [.cells (pl c) true, .cells (eL e) true, .cells (qT zP) true] (Nat.zero_le _) rfl ⟨⟨rfl, rfl⟩, ⟨rfl, rfl⟩, ⟨rfl, rfl⟩, trivial⟩ (hb3 c) ?_)
  -- what is refused
  have hbld : ∀ (e' : Opd → Value) (h : Nat → Option Blk) (n : Nat), zS (.bld [(324, .int .i64 0), (6, .int .u64 0)] []) e' h n = some (qG zH, .no) := by
    intro e' h n
    show some (Value.agg (qT zP).toArray, Eff.no) = _
    rw [zjo]; rfl
  refine qJ (qJ (qS (s' := _) 1 rfl (zbg (zc7 (CheckC hcheck hpl e) rfl rfl rfl (zK (s' := _) rfl (zC (qJ (zK (s' := _) rfl (zC (qU (t := zaK e != 0) rfl (fun h1 => ?_) (fun h1 => ?_)))))))))))
  · have h1 : zaK e ≠ 0 := by simpa using h1
    refine qJ (zcX (v := qG zH) (e := .no) rfl (hbld _ _ _) (qS (s' := _) 1 rfl (zbY (c := qT zP) (c' := pl zH) rfl rfl rfl (zN _) (by rw [zlen]; omega) (zeR _) ?_)))
    exact zK (s' := _) rfl (zC (fin zH (zaK e) true _ (by simp [zO, ze3, h1]) rfl rfl rfl))
  have h1 : zaK e = 0 := by simpa using h1
  have hs : 0 ≤ e.s ∧ e.s < 64 := by
    unfold zaK at h1
    split at h1
    · cases h1
    · split at h1
      · cases h1
      · omega
  have hk6 : 1 ≤ e.k ∧ e.k ≤ 6 := by
    unfold zaK at h1
    split at h1
    · cases h1
    · omega
  refine zg8 [(2, .pointer (some ⟨0, 0, none⟩)), (3, .pointer (some ⟨1, 0, none⟩)), (4, .pointer (some ⟨2, 0, none⟩))] [.cells (pl c) true, .cells (eL e) true, .cells (qT zP) true] (Nat.zero_le _) rfl ⟨⟨rfl, rfl⟩, ⟨rfl, rfl⟩, ⟨rfl, rfl⟩, trivial⟩ (hb3 c) (qJ (qJ (zcI (v := qG c) rfl rfl (zal c) (qS (s' := _) 1 rfl (zbg (zc7 (fitsC hfits hmay hheld c e hs) rfl ?_ rfl ?_))))))
  · rw [List.all_cons, zaG]; rfl
  refine zK (s' := _) rfl (zC (qJ (zK (s' := _) rfl (zC (qU (t := zbE c e != 0) rfl (fun h2 => ?_) (fun h2 => ?_))))))
  · have h2 : zbE c e ≠ 0 := by simpa using h2
    refine qJ (zcX (v := qG zH) (e := .no) rfl (hbld _ _ _) (qS (s' := _) 1 rfl (zbY (c := qT zP) (c' := pl zH) rfl rfl rfl (zN _) (by rw [zlen]; omega) (zeR _) ?_)))
    exact zK (s' := _) rfl (zC (fin zH (zbE c e) true _ (by simp [zO, ze3, h1, h2]) rfl rfl rfl))
  have h2 : zbE c e = 0 := by simpa using h2
  refine zg8 [(2, .pointer (some ⟨0, 0, none⟩)), (3, .pointer (some ⟨1, 0, none⟩)), (4, .pointer (some ⟨2, 0, none⟩))] [.cells (pl c) true, .cells (eL e) true, .cells (qT zP) true] (Nat.zero_le _) rfl ⟨⟨rfl, rfl⟩, ⟨rfl, rfl⟩, ⟨rfl, rfl⟩, trivial⟩ (hb3 c) ?_
  obtain ⟨k, hk⟩ : ∃ k, k = e.s.toNat := ⟨_, rfl⟩
  have hk64 : k < 64 := by omega
  generalize hd : upd c 0 (i64.wrap (c 0 + 1)) = d
  refine qJ (qS (s' := _) 4 rfl (zbY (c := pl c) (c' := pl d) rfl rfl rfl rfl (by rw [zN]; omega) (by rw [← hd]; exact zcY c (by omega) _) ?_))
  refine zg8 [(2, .pointer (some ⟨0, 0, none⟩)), (3, .pointer (some ⟨1, 0, none⟩)), (4, .pointer (some ⟨2, 0, none⟩))] [.cells (pl d) true, .cells (eL e) true, .cells (qT zP) true] (Nat.zero_le _) rfl ⟨⟨rfl, rfl⟩, ⟨rfl, rfl⟩, ⟨rfl, rfl⟩, trivial⟩ (hb3 d) (qJ (qS (s' := _) 3 rfl (zjK (n := e.s) rfl rfl (by omega) (zK (s' := _) rfl ?_))))
  rw [← hk]
  refine zg8 [(2, .pointer (some ⟨0, 0, none⟩)), (3, .pointer (some ⟨1, 0, none⟩)), (4, .pointer (some ⟨2, 0, none⟩)), (8, .pointer (some ⟨0, 0 + 3 + k * 5, none⟩))] [.cells (pl d) true, .cells (eL e) true, .cells (qT zP) true] (Nat.zero_le _) rfl ⟨⟨rfl, rfl⟩, ⟨rfl, rfl⟩, ⟨rfl, rfl⟩, ⟨rfl, rfl⟩, trivial⟩ (hb3 d) (ze5 (fun s => s = ⟨reg [(2, .pointer (some ⟨0, 0, none⟩)), (4, .pointer (some ⟨2, 0, none⟩))], [.cells (pl (zaX c e)) true, .cells (eL e) true, .cells (qT zP) true]⟩) ?_ ?_)
  · have ok : ∀ (d' : qL) (s : St), zaX c e = d' → s.f 2 = .pointer (some ⟨0, 0, none⟩) → s.f 4 = .pointer (some ⟨2, 0, none⟩) → s.h.take 3 = [.cells (pl d') true, .cells (eL e) true, .cells (qT zP) true] →
        ∃ s0, Wk 0 s s0 ∧ s0 = ⟨reg [(2, .pointer (some ⟨0, 0, none⟩)), (4, .pointer (some ⟨2, 0, none⟩))], [.cells (pl (zaX c e)) true, .cells (eL e) true, .cells (qT zP) true]⟩ := by
      intro d' s hd' h2 h4 hh
      refine ⟨_, Wk.to (l := [(2, .pointer (some ⟨0, 0, none⟩)), (4, .pointer (some ⟨2, 0, none⟩))]) (hs := [.cells (pl (zaX c e)) true, .cells (eL e) true, .cells (qT zP) true]) (Nat.zero_le _) (by rw [hd']; exact hh) ⟨⟨h2, rfl⟩, ⟨h4, rfl⟩, trivial⟩ ?_, rfl⟩
      simp [zjx, zhe, eL, zig, zjo]
    refine qJ (zK (s' := _) rfl (zC (zda (qJ (zK (s' := _) rfl (zC (qU (t := e.k == 1) rfl (fun h3 => ?_) (fun h3 => ?_))))))))
    · have h3 := eq_of_beq h3
      refine qS (s' := _) 9 rfl (zbY (c := pl d) (c' := pl (zZ d k 1 e.a e.p e.g 0)) rfl rfl rfl rfl (by rw [zN]; omega) ?_ ?_)
      · rw [show 0 + 3 + k * 5 = 3 + 5 * k by omega]; exact zgG d hk64 1 e.a e.p e.g 0
      exact ok _ _ (by simp [zaX, h3, hd, ← hk]) rfl rfl rfl
    have h3 : e.k ≠ 1 := by simpa using h3
    refine qJ (zK (s' := _) rfl (zC (qU (t := e.k == 2) rfl (fun h4 => ?_) (fun h4 => ?_))))
    · have h4 := eq_of_beq h4
      refine qS (s' := _) 3 rfl (zbY (c := pl d) (c' := pl (upd d (3 + 5 * k) 2)) rfl rfl rfl rfl (by rw [zN]; omega) ?_ ?_)
      · rw [show 0 + 3 + k * 5 + 0 = 3 + 5 * k by omega]; exact zcY d (by omega) 2
      exact ok _ _ (by simp [zaX, h4, hd, ← hk]) rfl rfl rfl
    have h4 : e.k ≠ 2 := by simpa using h4
    refine qJ (zK (s' := _) rfl (zC (qU (t := e.k == 3) rfl (fun h5 => ?_) (fun h5 => ?_))))
    · have h5 := eq_of_beq h5
      refine qS (s' := _) 3 rfl (zbY (c := pl d) (c' := pl (upd d (3 + 5 * k) 3)) rfl rfl rfl rfl (by rw [zN]; omega) ?_ ?_)
      · rw [show 0 + 3 + k * 5 + 0 = 3 + 5 * k by omega]; exact zcY d (by omega) 3
      exact ok _ _ (by simp [zaX, h5, hd, ← hk]) rfl rfl rfl
    have h5 : e.k ≠ 3 := by simpa using h5
    refine qJ (zK (s' := _) rfl (zC (qU (t := e.k == 4) rfl (fun h6 => ?_) (fun h6 => ?_))))
    · have h6 := eq_of_beq h6
      refine qS (s' := _) 4 rfl (zcI (v := .int .i64 (d 323)) rfl rfl ?_ ?_)
      · simp only [zaw]; exact ziq d (by omega)
      refine qS (s' := _) 2 rfl (zbY (c := pl d) (c' := pl (upd d (3 + 5 * k) 4)) rfl rfl rfl rfl (by rw [zN]; omega) ?_ ?_)
      · exact (congrArg (fun o => splice (pl d) o [.int .i64 4]) (show 0 + 3 + k * 5 + 0 = 3 + 5 * k by omega)).trans (zcY d (by omega) 4)
      refine qS (s' := _) 2 rfl (zbY (c := pl (upd d (3 + 5 * k) 4)) (c' := pl (upd (upd d (3 + 5 * k) 4) (3 + 5 * k + 4) (d 323))) rfl rfl rfl rfl (by rw [zN]; omega) ?_ ?_)
      · exact (congrArg (fun o => splice (pl (upd d (3 + 5 * k) 4)) o [.int .i64 (d 323)]) (show 0 + 3 + k * 5 + 4 = 3 + 5 * k + 4 by omega)).trans (zcY _ (by omega) _)
      have hdone : zaX c e = upd (upd d (3 + 5 * k) 4) (3 + 5 * k + 4) (d 323) := by
        have : d 323 = c 323 := by rw [← hd]; simp [upd]
        rw [this, ← hd, hk]; simp [zaX, h6]
      exact ok _ _ hdone rfl rfl rfl
    have h6 : e.k ≠ 4 := by simpa using h6
    refine qJ (zK (s' := _) rfl (zC (qU (t := e.k == 5) rfl (fun h7 => ?_) (fun h7 => ?_))))
    · have h7 := eq_of_beq h7
      refine qS (s' := _) 3 rfl (zbY (c := pl d) (c' := pl (zZ d k 0 0 0 0 0)) rfl rfl rfl rfl (by rw [zN]; omega) ?_ ?_)
      · rw [show 0 + 3 + k * 5 = 3 + 5 * k by omega]; exact zgG d hk64 0 0 0 0 0
      exact ok _ _ (by simp [zaX, h7, hd, ← hk]) rfl rfl rfl
    have h7 : e.k ≠ 5 := by simpa using h7
    refine qJ (zK (s' := _) rfl (zC (qU (t := e.k == 6) rfl (fun h8 => ?_) (fun h8 => ?_))))
    · have h8 := eq_of_beq h8
      refine qS (s' := _) 1 rfl (zcI (v := ringV d) rfl rfl (pl_ring d) (qS (s' := _) 2 rfl (zbg (zc7 (nextC hnext) rfl rfl rfl (qS (s' := _) 1 rfl (zbY (c := pl d) (c' := pl (nextS d e.ka e.kb)) rfl rfl rfl rfl (by rw [zN]; omega) (zgH d _ _ _ _ _ _ _) ?_))))))
      exact ok _ _ (by simp [zaX, h8, hd]) rfl rfl rfl
    · have h8 : e.k ≠ 6 := by simpa using h8
      omega
  · rintro s rfl
    refine qJ (zcI (v := qG (zaX c e)) rfl rfl (zal _) (zbY (c := qT zP) (c' := pl (zaX c e)) rfl rfl rfl (zN _) (by rw [zlen]; omega) (zeR _) ?_))
    exact zK (s' := _) rfl (zC (fin (zaX c e) 0 true _ (by simp [zO, ze3, h1, h2]) rfl rfl rfl))
end Go.Rh

set_option maxHeartbeats 8000000
namespace Go.Rh
end Go.Rh

namespace Go.Rh
theorem pl_r (c : qL) {o : Nat} (i : Nat) (ho : o = i) (h : i < 324) : zaw none (pl c) o = some (.int .i64 (c i)) := by subst ho; exact ziq c h
theorem pl_rS (c : qL) {o : Nat} (k : Nat) (ho : o = 3 + 5 * k) (h : k < 64) : zaw (some 5) (pl c) o = some (slotV c k) := by subst ho; exact pl_slot c h
def zgx (c : qL) : Value := .agg ⟨zfu c⟩
theorem slotsV_scl (c : qL) : (zfu c).all zbL = true := take_scl (drop_scl (zaH c) 3) 320
theorem zf7 (c : qL) : vpf (zgx c) = true := slotsV_scl c
theorem pl_rA (c : qL) : zaw (some 320) (pl c) 3 = some (zgx c) := by
 unfold zaw
 simp only []
 rw [if_pos (by rw [zN]; omega)]
 rfl
theorem slots_r (c : qL) {o : Nat} (k : Nat) (ho : o = 5 * k) (h : k < 64) : zaw (some 5) (zfu c) o = some (slotV c k) := by
 subst ho; rw [Nat.mul_comm]; exact ziI c h
theorem zbU {c : qL} {m : Nat} (h : m ≤ 330) : m ≤ (pl c).length := by rw [zN]; exact h
theorem pl_w (c : qL) {o : Nat} (i : Nat) (v : Int) (ho : o = i) (h : i < 324) : splice (pl c) o [.int .i64 v] = pl (upd c i v) := by subst ho; exact zcY c h v
theorem pl_wS (c : qL) {o : Nat} (k : Nat) (x0 x1 x2 x3 x4 : Int) (ho : o = 3 + 5 * k) (h : k < 64) : splice (pl c) o [.int .i64 x0, .int .i64 x1, .int .i64 x2, .int .i64 x3, .int .i64 x4] = pl (zZ c k x0 x1 x2 x3 x4) := by subst ho; exact zgG c h x0 x1 x2 x3 x4
def eqN (n : Nat) (a b : qL) : Bool := decide (∀ k, k < n → a k = b k)
def eqP (a b : qL) : Bool := eqN 330 a b
theorem eqP_plF (a b : qL) : ∀ n i, eqK (List.replicate n .i) (plF a i n) (plF b i n) = some (decide (∀ k, k < n → a (i + k) = b (i + k)))
 | 0, i => by simp [eqK, plF]
 | n + 1, i => by
  simp only [List.replicate_succ, plF, eqK, eq1K, if_true, eqP_plF a b n (i + 1)]
  congr 1
  rw [Bool.eq_iff_iff]
  simp only [Bool.and_eq_true, beq_iff_eq, decide_eq_true_eq]
  constructor
  ·rintro ⟨h1, h2⟩ k hk
   cases k with
   | zero => exact h1
   | succ k => have := h2 k (by omega); rwa [show i + 1 + k = i + (k + 1) by omega] at this
  ·intro h
   refine ⟨h 0 (by omega), fun k hk => ?_⟩
   have := h (k + 1) (by omega)
   rwa [show i + (k + 1) = i + 1 + k by omega] at this
theorem eqP_eqK (a b : qL) : eqK (zdc [(330, .i)]) (pl a) (pl b) = some (eqP a b) := by
 have h := eqP_plF a b 330 0
 have h : eqK (List.replicate 330 LK.i) (plF a 0 330) (plF b 0 330) = some (eqP a b) := by rw [h]; simp only [Nat.zero_add]; rfl
 have e : zdc [(330, .i)] = List.replicate 330 LK.i := by simp [zdc]
 rw [e]; exact h
theorem eqP_run {x y : Value} (a b : qL) (hx : x = qG a) (hy : y = qG b) : x = .agg ⟨pl a⟩ ∧ y = .agg ⟨pl b⟩ ∧ eqK (zdc [(330, .i)]) (pl a) (pl b) = some (eqP a b) := ⟨hx, hy, eqP_eqK a b⟩
theorem zke : zd7 (qT zP) [] = some (pl zH) := congrArg some zjo
end Go.Rh

set_option maxHeartbeats 8000000
namespace Go.Rh
end Go.Rh

set_option maxHeartbeats 8000000
namespace Go.Rh
def zaR : qL → List Ent → Nat → qL × Nat × Int
 | c, [], i => (c, i, 0)
 | c, e :: r, i => if (zO c e).2 = 0 then zaR (zO c e).1 r (i + 1) else (c, i, (zO c e).2)
structure Codes (P : Program) : Prop where
  apply : zaU P
  may : za3 P
  held : zaT P
  fits : za1 P
  check : zaO P
  placed : zau P
  next : zaC P
theorem Codes.applyC {P : Program} (H : Codes P) (c : qL) (e : Ent) : Env P "roundhouse/pool.Apply" [qG c, qR e] [] (Ans (.tuple #[qG (zO c e).1, .int .i64 (zO c e).2]) []) :=
 ApplyC H.apply H.may H.held H.fits H.check H.placed H.next c e
theorem AllC {P : Program} (hc : zc2 P) (H : Codes P) (c : qL) (es : List Ent) (cs : List Value) (o cap : Nat) (hcs : cs.all zbL = true) (hes : ∀ (i : Nat) e, es[i]? = some e → zaw (some 7) cs (o + i * 7) = some (qR e)) (hn : es.length ≤ 1000000) :
  Env P "roundhouse/pool.All" [qG c, .slice (some ⟨0, o, none⟩) es.length cap] [.cells cs false] (Ans (.tuple #[qG (zaR c es 0).1, .int .i64 (zaR c es 0).2.1, .int .i64 (zaR c es 0).2.2]) [.cells cs false]) := by
 refine Env.of hc ?_
 unfold wpF zgo
 have hblk : ([.cells cs false] : List Blk).all zjn = true := by simpa [zjn] using hcs
 have fin : ∀ (d : qL) (n : Nat) (x : Int) (s : St), zaR c es 0 = (d, n, x) → s.f 4 = .pointer (some ⟨2, 0, none⟩) → hf s.h 2 = some (.cells (pl d) true) → s.f 5 = .int .i64 n → s.f 6 = .int .i64 x → s.h.take 1 = [.cells cs false] →
   True ∧ ∃ l', zfr s [.cell 4 (some 330), .tmp 5, .tmp 6] = some l' ∧ (∀ v ∈ l', zbQ v = false) ∧ (Ans (.tuple #[qG (zaR c es 0).1, .int .i64 (zaR c es 0).2.1, .int .i64 (zaR c es 0).2.2]) [.cells cs false] (one l') s.h ∨ (vpf (one l') = true ∧ (∀ b ∈ s.h.take 1, zjn b = true) ∧ Ans (.tuple #[qG (zaR c es 0).1, .int .i64 (zaR c es 0).2.1, .int .i64 (zaR c es 0).2.2]) [.cells cs false] (one l') (s.h.take 1))) := by
  intro d n x s hd h4 hh h5 h6 ht
  refine qH [qG d, .int .i64 n, .int .i64 x] ?_ ?_ (by rw [hd]; rfl) ht hblk
  ·simp only [zfr, ldV, h4, hh, zal, h5, h6, Option.map_some]
  ·rw [List.all_cons, qZ]; rfl
 have hb3 : ∀ d : qL, ([.cells cs false, .cells (pl d) true, .cells (qT zP) true] : List Blk).all (zjx 3) = true := by
  intro d; simp [zjx, zhe, zjo, zeg hcs]
 refine zK (s' := _) rfl (zC (qJ (qJ (zK (s' := _) rfl (zC ?_)))))
 refine ⟨fun m s => ∃ (i : Nat) (d : qL), i ≤ es.length ∧ m = es.length - i ∧ zaR d (es.drop i) i = zaR c es 0 ∧ s = ⟨reg [(1, .slice (some ⟨0, o, none⟩) es.length cap), (2, .pointer (some ⟨1, 0, none⟩)), (4, .pointer (some ⟨2, 0, none⟩)), (11, .slice (some ⟨0, o, none⟩) es.length cap), (12, .int .i64 es.length), (13, .int .i64 i)], [.cells cs false, .cells (pl d) true, .cells (qT zP) true]⟩,
  ⟨es.length, _, Wk.to (l := [(1, .slice (some ⟨0, o, none⟩) es.length cap), (2, .pointer (some ⟨1, 0, none⟩)), (4, .pointer (some ⟨2, 0, none⟩)), (11, .slice (some ⟨0, o, none⟩) es.length cap), (12, .int .i64 es.length), (13, .int .i64 (0 : Nat))]) (hs := [.cells cs false, .cells (pl c) true, .cells (qT zP) true]) (by simp) rfl ⟨⟨rfl, rfl⟩, ⟨rfl, rfl⟩, ⟨rfl, rfl⟩, ⟨rfl, rfl⟩, ⟨rfl, rfl⟩, ⟨rfl, rfl⟩, trivial⟩ (hb3 c), 0, c, Nat.zero_le _, rfl, rfl, rfl⟩, ?_⟩
 rintro m s ⟨i, d, hi, rfl, hf, rfl⟩
 refine zK (s' := _) rfl (zC (qJ (qU (t := decide ((i : Int) < (es.length : Int))) rfl (fun ht => ?_) (fun ht => ?_))))
 ·have ht : i < es.length := by have := of_decide_eq_true ht; omega
  refine zC ?_
  obtain ⟨e, he⟩ : ∃ e, es[i]? = some e := ⟨es[i], by simp [ht]⟩
  have hdrop : es.drop i = e :: es.drop (i + 1) := by
   rw [List.drop_eq_getElem_cons ht]
   have : es[i]? = some es[i] := by simp [ht]
   rw [he] at this; rw [Option.some.inj this]
  refine qJ (zda (qJ (qS (s' := _) 1 rfl (zjJ (n := i) rfl rfl (by omega) (zcI (v := qR e) rfl rfl (hes i e he) ?_)))))
  refine zK (s' := _) rfl (zg8 [(1, .slice (some ⟨0, o, none⟩) es.length cap), (2, .pointer (some ⟨1, 0, none⟩)), (4, .pointer (some ⟨2, 0, none⟩)), (7, .int .i64 i), (8, .pointer (some ⟨3, 0, none⟩)), (11, .slice (some ⟨0, o, none⟩) es.length cap), (12, .int .i64 es.length), (13, .int .i64 i)] [.cells cs false, .cells (pl d) true, .cells (qT zP) true, .cells (eL e) true] (by simp) rfl ⟨⟨rfl, rfl⟩, ⟨rfl, rfl⟩, ⟨rfl, rfl⟩, ⟨rfl, rfl⟩, ⟨rfl, rfl⟩, ⟨rfl, rfl⟩, ⟨rfl, rfl⟩, ⟨rfl, rfl⟩, trivial⟩ (by simp [zjx, zhe, zjo, zeg hcs, eL, zig]) ?_)
  generalize hq : zO d e = q
  have hC := H.applyC d e
  rw [hq] at hC
  refine qJ (zcI (v := qG d) rfl rfl (zal d) (qS (s' := _) 1 rfl (zbg (zc7 hC rfl ?_ ?_ ?_))))
  ·rw [List.all_cons, zaG]; rfl
  ·show (([qG q.1, .int .i64 q.2] : List Value).all zjF) = true
   rw [List.all_cons, qZ]; rfl
  refine qS (s' := _) 4 rfl (zbY (c := qT zP) (c' := pl q.1) rfl rfl rfl (zN _) (by rw [zlen]; omega) (zeR _) ?_)
  refine zK (s' := _) rfl (zg8 [(1, .slice (some ⟨0, o, none⟩) es.length cap), (2, .pointer (some ⟨1, 0, none⟩)), (4, .pointer (some ⟨2, 0, none⟩)), (7, .int .i64 i), (9, .pointer (some ⟨4, 0, none⟩)), (10, .int .i64 q.2), (11, .slice (some ⟨0, o, none⟩) es.length cap), (12, .int .i64 es.length), (13, .int .i64 i)] [.cells cs false, .cells (pl d) true, .cells (qT zP) true, .cells (eL e) true, .cells (pl q.1) true] (by simp) rfl ⟨⟨rfl, rfl⟩, ⟨rfl, rfl⟩, ⟨rfl, rfl⟩, ⟨rfl, rfl⟩, ⟨rfl, rfl⟩, ⟨rfl, rfl⟩, ⟨rfl, rfl⟩, ⟨rfl, rfl⟩, ⟨rfl, rfl⟩, trivial⟩ (by simp [zjx, zhe, zjo, zeg hcs, eL, zig]) ?_)
  refine qJ (qJ (zK (s' := _) rfl (zC (qU (t := q.2 != 0) rfl (fun h1 => ?_) (fun h1 => ?_)))))
  ·have h1 : q.2 ≠ 0 := by simpa using h1
   refine qJ (zcI (v := qG d) rfl rfl (zal d) (qS (s' := _) 2 rfl (zbY (c := qT zP) (c' := pl d) rfl rfl rfl (zN _) (by rw [zlen]; omega) (zeR _) ?_)))
   refine zK (s' := _) rfl (zC (fin d i q.2 _ ?_ rfl rfl rfl rfl rfl))
   rw [← hf, hdrop]; simp [zaR, hq, h1]
  ·have h1 : q.2 = 0 := by simpa using h1
   refine zC (zcI (v := qG q.1) rfl rfl (zal q.1) (zbY (c := pl d) (c' := pl q.1) rfl rfl rfl (zN _) (by rw [zN]; omega) (qO _ _) (zC ?_)))
   refine zK (s' := _) rfl (⟨es.length - (i + 1), _, by omega, Wk.to (l := [(1, .slice (some ⟨0, o, none⟩) es.length cap), (2, .pointer (some ⟨1, 0, none⟩)), (4, .pointer (some ⟨2, 0, none⟩)), (11, .slice (some ⟨0, o, none⟩) es.length cap), (12, .int .i64 es.length), (13, .int .i64 (i + 1 : Nat))]) (hs := [.cells cs false, .cells (pl q.1) true, .cells (qT zP) true]) (by simp) rfl ⟨⟨rfl, rfl⟩, ⟨rfl, rfl⟩, ⟨rfl, rfl⟩, ⟨rfl, rfl⟩, ⟨rfl, rfl⟩, ⟨?_, rfl⟩, trivial⟩ (hb3 q.1), i + 1, q.1, by omega, rfl, ?_, rfl⟩)
   ·exact congrArg (Value.int .i64) (w64 (by omega) (by omega))
   ·rw [← hf, hdrop]; simp [zaR, hq, h1]
 ·have ht : ¬ i < es.length := by have := of_decide_eq_false ht; omega
  have : i = es.length := by omega
  subst this
  refine zC (qJ (zcI (v := qG d) rfl rfl (zal d) (qS (s' := _) 2 rfl (zbY (c := qT zP) (c' := pl d) rfl rfl rfl (zN _) (by rw [zlen]; omega) (zeR _) ?_))))
  refine zK (s' := _) rfl (zC (fin d es.length 0 _ ?_ rfl rfl rfl rfl rfl))
  rw [← hf, List.drop_length]; rfl
end Go.Rh

namespace Go.Rh
def zhV : IFunc := ⟨25, [.cell 8 (some 330), .tmp 9], (.seq (.reg [kq 6 (.box (.t 2)), kq 7 (.box (.t 3)), kq 8 (.new kA), kq 9 (.mv (ki 0))]) (.seq (.seq (.reg [km 10 0, kq 11 (.call "roundhouse/roundhouseref6.out" [(.t 10), (ki 0), (ki 4294967295)]), km 12 11, kg 13 (.mv (.t 1)) 12 false, kg 14 (.call "roundhouse/roundhouseref6.out" [(.t 13), (ki 0), (ki 65535)]) 12 false, kq 15 (.pick (.t 12) kT (.t 14))]) (.cond (.t 15) (.seq (.reg [kq 16 (.bld kA []), ku (.st 330 (.t 8) (.t 16)), kq 9 (.mv (ki 14))]) .ret) .skip)) (.seq (.reg [km 17 0, km 18 1, kq 19 (.bld [(2, (.int .u64 0))] []), kq 20 (.ld (some 2) (.t 6)), kq 21 (.ld (some 2) (.t 7)), kq 22 (.bsl [(2, (.int .u64 0))] 2 3 [(0, 2, (.t 19)), (2, 2, (.t 20)), (4, 2, (.t 21))]), kq 23 (.call "roundhouse/roundhouseref5.Ring" [(ki 1), (.t 22)]), kq 24 (.bld kA [(1, 1, (.t 17)), (2, 1, (.t 18)), (323, 7, (.t 23))]), ku (.st 330 (.t 8) (.t 24)), kq 9 (.mv (ki 0))]) .ret)))⟩
abbrev zgg (P : Program) : Prop := z6 P "roundhouse/roundhouseref6.New" = some zhV
def zfQ : IFunc := ⟨85, [.cell 4 (some 330), .tmp 5], (.seq (.reg [kq 2 (.box (.t 0)), kq 3 (.box (.t 1)), kq 4 (.new kA), kq 5 (.mv (ki 0))]) (.seq (.seq (.reg [kq 8 (.ld (some 7) (.t 3)), kq 9 (.call "roundhouse/roundhouseref6.Check" [(.t 8)]), km 6 9]) (.seq (.reg [km 10 6, kq 11 (.bin .neq (.t 10) (ki 0))]) (.cond (.t 11) (.seq (.reg [kq 12 (.bld kA []), km 13 6, ku (.st 330 (.t 4) (.t 12)), km 5 13]) .ret) .skip))) (.seq (.seq (.reg [kq 14 (.ld (some 330) (.t 2)), kq 15 (.ld (some 7) (.t 3)), kq 16 (.call "roundhouse/roundhouseref6.bad" [(.t 14), (.t 15)])]) (.cond (.t 16) (.seq (.reg [kq 17 (.bld kA []), ku (.st 330 (.t 4) (.t 17)), kq 5 (.mv (ki 12))]) .ret) .skip)) (.seq (.seq (.dreg [kq 18 (.fad 0 (.t 3)), kq 19 (.ld none (.t 18)), kq 20 (.bin .eql (.t 19) (ki 5)), km 21 20, kg 22 (.fad 323 (.t 2)) 21 true, kg 23 (.fad 0 (.t 22)) 21 true, kg 24 (.ld none (.t 23)) 21 true, kg 25 (.fad 1 (.t 3)) 21 true, kg 26 (.ld none (.t 25)) 21 true, kg 27 (.fad 3 (.t 2)) 21 true, kg 28 (.iadA 64 5 (.t 27) (.t 26)) 21 true, kg 29 (.fad 4 (.t 28)) 21 true, kg 30 (.ld none (.t 29)) 21 true, kg 31 (.bin .add (.t 30) (ki 3)) 21 true, kg 32 (.bin .lss (.t 24) (.t 31)) 21 true, kq 33 (.pick (.t 21) (.t 32) kF)] [[], [0], [1, 0], [2, 1, 0], [3, 2, 1, 0], [4, 3, 2, 1, 0], [5, 4, 3, 2, 1, 0], [3, 2, 1, 0], [7, 3, 2, 1, 0], [3, 2, 1, 0], [9, 3, 2, 1, 0, 8, 7], [10, 9, 3, 2, 1, 0, 8, 7], [11, 10, 9, 3, 2, 1, 0, 8, 7], [12, 11, 10, 9, 3, 2, 1, 0, 8, 7], [6, 5, 4, 3, 2, 1, 0, 13, 12, 11, 10, 9, 8, 7], [3, 2, 1, 0, 14, 6, 5, 4, 13, 12, 11, 10, 9, 8, 7]]) (.cond (.t 33) (.seq (.reg [kq 34 (.bld kA []), ku (.st 330 (.t 4) (.t 34)), kq 5 (.mv (ki 13))]) .ret) .skip)) (.seq (.reg [kq 35 (.fad 0 (.t 2)), kq 36 (.ld none (.t 35)), kq 37 (.bin .add (.t 36) (ki 1)), kq 38 (.fad 0 (.t 2)), ku (.st 1 (.t 38) (.t 37))]) (.seq (.reg [kq 39 (.fad 1 (.t 3)), kq 40 (.ld none (.t 39)), kq 41 (.fad 3 (.t 2)), kq 42 (.iadA 64 5 (.t 41) (.t 40)), kq 43 (.ld (some 5) (.t 42)), kq 7 (.new [(5, (.int .i64 0))]), ku (.st 5 (.t 7) (.t 43))]) (.seq (.seq (.reg [kq 44 (.fad 0 (.t 3)), kq 45 (.ld none (.t 44))]) (.block 0 (.seq (.reg [kq 47 (.bin .eql (.t 45) (ki 1)), km 46 47]) (.cond (.t 46) (.reg [kq 48 (.fad 2 (.t 3)), kq 49 (.ld none (.t 48)), kq 50 (.fad 3 (.t 3)), kq 51 (.ld none (.t 50)), kq 52 (.fad 4 (.t 3)), kq 53 (.ld none (.t 52)), kq 54 (.bld [(5, (.int .i64 0))] [(0, 1, (ki 1)), (1, 1, (.t 49)), (2, 1, (.t 51)), (3, 1, (.t 53))]), ku (.st 5 (.t 7) (.t 54))]) (.seq (.reg [kq 56 (.bin .eql (.t 45) (ki 2)), km 55 56]) (.cond (.t 55) (.reg [kq 57 (.fad 0 (.t 7)), ku (.st 1 (.t 57) (ki 2))]) (.seq (.reg [kq 59 (.bin .eql (.t 45) (ki 3)), km 58 59]) (.cond (.t 58) (.reg [kq 60 (.fad 0 (.t 7)), ku (.st 1 (.t 60) (ki 3))]) (.seq (.reg [kq 62 (.bin .eql (.t 45) (ki 4)), km 61 62]) (.cond (.t 61) (.dreg [kq 63 (.fad 323 (.t 2)), kq 64 (.fad 0 (.t 63)), kq 65 (.ld none (.t 64)), kq 66 (.fad 0 (.t 7)), ku (.st 1 (.t 66) (ki 4)), kq 67 (.fad 4 (.t 7)), ku (.st 1 (.t 67) (.t 65))] [[], [0], [1, 0], [], [3], [0, 1, 2, 3, 4], [5, 0, 1, 2, 3, 4]]) (.seq (.reg [kq 69 (.bin .eql (.t 45) (ki 5)), km 68 69]) (.cond (.t 68) (.reg [kq 70 (.bld [(5, (.int .i64 0))] []), ku (.st 5 (.t 7) (.t 70))]) (.seq (.reg [kq 72 (.bin .eql (.t 45) (ki 6)), km 71 72]) (.cond (.t 71) (.reg [kq 73 (.fad 323 (.t 2)), kq 74 (.ld (some 7) (.t 73)), kq 75 (.fad 5 (.t 3)), kq 76 (.ld (some 2) (.t 75)), kq 77 (.call "roundhouse/roundhouseref5.Next" [(.t 74), (.t 76)]), kq 78 (.fad 323 (.t 2)), ku (.st 7 (.t 78) (.t 77))]) .skip)))))))))))))) (.seq (.reg [kq 79 (.fad 1 (.t 3)), kq 80 (.ld none (.t 79)), kq 81 (.ld (some 5) (.t 7)), kq 82 (.fad 3 (.t 2)), kq 83 (.iadA 64 5 (.t 82) (.t 80)), ku (.st 5 (.t 83) (.t 81))]) (.seq (.reg [kq 84 (.ld (some 330) (.t 2)), ku (.st 330 (.t 4) (.t 84)), kq 5 (.mv (ki 0))]) .ret)))))))))⟩
abbrev zfI (P : Program) : Prop := z6 P "roundhouse/roundhouseref6.Apply" = some zfQ
def zfP : IFunc := ⟨72, [.tmp 2], (.seq (.reg [kq 1 (.box (.t 0)), kq 2 (.mv (ki 0))]) (.seq (.dreg [kq 5 (.fad 0 (.t 1)), kq 6 (.ld none (.t 5)), kq 7 (.bin .eql (.t 6) (ki 1)), kq 8 (.fad 0 (.t 1)), kq 9 (.ld none (.t 8)), kq 10 (.bin .eql (.t 9) (ki 6)), km 3 7, km 4 10] [[], [0], [1, 0], [], [3], [4, 3], [2, 1, 0], [5, 4, 3, 6, 2, 1, 0]]) (.seq (.block 0 (.seq (.reg [kq 12 (.fad 0 (.t 1)), kq 13 (.ld none (.t 12)), kq 14 (.call "roundhouse/roundhouseref6.out" [(.t 13), (ki 1), (ki 6)]), km 11 14]) (.cond (.t 11) (.seq (.reg [kq 2 (.mv (ki 2))]) .ret) (.seq (.reg [kq 16 (.fad 1 (.t 1)), kq 17 (.ld none (.t 16)), kq 18 (.call "roundhouse/roundhouseref6.out" [(.t 17), (ki 0), (ki 63)]), km 19 18, kg 20 (.mv (.t 4)) 19 false, kg 21 (.mv (.t 20)) 19 false, kg 22 (.fad 1 (.t 1)) 21 true, kg 23 (.ld none (.t 22)) 21 true, kg 24 (.bin .neq (.t 23) (ki 0)) 21 true, kg 25 (.pick (.t 21) (.t 24) kF) 19 false, kq 26 (.pick (.t 19) kT (.t 25)), km 15 26]) (.cond (.t 15) (.seq (.reg [kq 2 (.mv (ki 11))]) .ret) (.seq (.reg [km 28 3, km 29 28, kg 30 (.fad 2 (.t 1)) 29 true, kg 31 (.ld none (.t 30)) 29 true, kg 32 (.call "roundhouse/roundhouseref6.out" [(.t 31), (ki 0), (ki 4294967295)]) 29 true, kg 33 (.mv (.t 32)) 29 true, kg 34 (.fad 3 (.t 1)) 33 false, kg 35 (.ld none (.t 34)) 33 false, kg 36 (.call "roundhouse/roundhouseref6.out" [(.t 35), (ki 0), (ki 65535)]) 33 false, kg 37 (.pick (.t 33) kT (.t 36)) 29 true, kg 38 (.mv (.t 37)) 29 true, kg 39 (.fad 4 (.t 1)) 38 false, kg 40 (.ld none (.t 39)) 38 false, kg 41 (.call "roundhouse/roundhouseref6.out" [(.t 40), (ki 1), (ki 8)]) 38 false, kg 42 (.pick (.t 38) kT (.t 41)) 29 true, kq 43 (.pick (.t 29) (.t 42) kF), km 27 43]) (.cond (.t 27) (.seq (.reg [kq 2 (.mv (ki 14))]) .ret) (.seq (.reg [km 45 3, kq 46 (.un .not (.t 45)), km 47 46, kg 48 (.fad 2 (.t 1)) 47 true, kg 49 (.ld none (.t 48)) 47 true, kg 50 (.bin .neq (.t 49) (ki 0)) 47 true, kg 51 (.mv (.t 50)) 47 true, kg 52 (.fad 3 (.t 1)) 51 false, kg 53 (.ld none (.t 52)) 51 false, kg 54 (.bin .neq (.t 53) (ki 0)) 51 false, kg 55 (.pick (.t 51) kT (.t 54)) 47 true, kg 56 (.mv (.t 55)) 47 true, kg 57 (.fad 4 (.t 1)) 56 false, kg 58 (.ld none (.t 57)) 56 false, kg 59 (.bin .neq (.t 58) (ki 0)) 56 false, kg 60 (.pick (.t 56) kT (.t 59)) 47 true, kq 61 (.pick (.t 47) (.t 60) kF), km 62 61, kg 63 (.mv (.t 4)) 62 false, kg 64 (.un .not (.t 63)) 62 false, kg 65 (.mv (.t 64)) 62 false, kg 66 (.fad 5 (.t 1)) 65 true, kg 67 (.ld (some 2) (.t 66)) 65 true, kg 68 (.bld [(2, (.int .u64 0))] []) 65 true, kg 69 (.eqa true [(2, .i)] (.t 67) (.t 68)) 65 true, kg 70 (.pick (.t 65) (.t 69) kF) 62 false, kq 71 (.pick (.t 62) kT (.t 70)), km 44 71]) (.cond (.t 44) (.seq (.reg [kq 2 (.mv (ki 14))]) .ret) .skip))))))))) (.seq (.reg [kq 2 (.mv (ki 0))]) .ret))))⟩
abbrev zeF (P : Program) : Prop := z6 P "roundhouse/roundhouseref6.Check" = some zfP
def zhT : IFunc := ⟨15, [.tmp 6], (.seq (.reg [kq 6 (.mv kF)]) (.seq (.reg [km 7 0, km 8 1, kq 9 (.bin .lss (.t 7) (.t 8)), km 10 9, kg 11 (.mv (.t 0)) 10 false, kg 12 (.mv (.t 2)) 10 false, kg 13 (.bin .gtr (.t 11) (.t 12)) 10 false, kq 14 (.pick (.t 10) kT (.t 13)), km 6 14]) .ret))⟩
abbrev zdw (P : Program) : Prop := z6 P "roundhouse/roundhouseref6.out" = some zhT
def zhU : IFunc := ⟨43, [.tmp 4], (.seq (.reg [kq 2 (.box (.t 0)), kq 3 (.box (.t 1)), kq 4 (.mv kF)]) (.seq (.reg [kq 6 (.fad 1 (.t 3)), kq 7 (.ld none (.t 6)), kq 8 (.fad 3 (.t 2)), kq 9 (.iadA 64 5 (.t 8) (.t 7)), kq 10 (.fad 0 (.t 9)), kq 11 (.ld none (.t 10)), km 5 11]) (.seq (.seq (.reg [kq 12 (.fad 0 (.t 3)), kq 13 (.ld none (.t 12))]) (.block 0 (.seq (.reg [kq 15 (.bin .eql (.t 13) (ki 1)), km 14 15]) (.cond (.t 14) (.seq (.reg [km 16 5, kq 17 (.bin .neq (.t 16) (ki 0)), km 18 17, kg 19 (.ld (some 330) (.t 2)) 18 false, kg 20 (.fad 2 (.t 3)) 18 false, kg 21 (.ld none (.t 20)) 18 false, kg 22 (.fad 3 (.t 3)) 18 false, kg 23 (.ld none (.t 22)) 18 false, kg 24 (.call "roundhouse/roundhouseref6.Held" [(.t 19), (.t 21), (.t 23)]) 18 false, kq 25 (.pick (.t 18) kT (.t 24)), km 4 25]) .ret) (.seq (.seq (.reg [kq 27 (.bin .eql (.t 13) (ki 2)), km 26 27]) (.cond (.t 26) .skip (.reg [kq 28 (.bin .eql (.t 13) (ki 4)), km 26 28]))) (.cond (.t 26) (.seq (.reg [km 29 5, kq 30 (.bin .neq (.t 29) (ki 1)), km 31 30, kg 32 (.mv (.t 5)) 31 true, kg 33 (.bin .neq (.t 32) (ki 3)) 31 true, kq 34 (.pick (.t 31) (.t 33) kF), km 4 34]) .ret) (.seq (.reg [kq 36 (.bin .eql (.t 13) (ki 3)), km 35 36]) (.cond (.t 35) (.seq (.reg [km 37 5, kq 38 (.bin .neq (.t 37) (ki 2)), km 4 38]) .ret) (.seq (.reg [kq 40 (.bin .eql (.t 13) (ki 5)), km 39 40]) (.cond (.t 39) (.seq (.reg [km 41 5, kq 42 (.bin .neq (.t 41) (ki 4)), km 4 42]) .ret) .skip)))))))))) (.seq (.reg [kq 4 (.mv kF)]) .ret))))⟩
abbrev zgf (P : Program) : Prop := z6 P "roundhouse/roundhouseref6.bad" = some zhU
def zgO : IFunc := ⟨42, [.tmp 6], (.seq (.reg [kq 3 (.box (.t 0)), kq 6 (.mv kF)]) (.seq (.seq (.reg [kq 7 (.mv (ki 0))]) (.block 0 (.loop (.seq (.seq (.reg [km 9 7, kq 10 (.bin .lss (.t 9) (ki 64))]) (.cond (.t 10) .skip (.exit 0))) (.seq (.block 1 (.seq (.reg [km 13 7, kq 14 (.fad 3 (.t 3)), kq 15 (.iadA 64 5 (.t 14) (.t 13)), kq 16 (.ld (some 5) (.t 15)), kq 8 (.new [(5, (.int .i64 0))]), ku (.st 5 (.t 8) (.t 16))]) (.seq (.reg [kq 17 (.fad 0 (.t 8)), kq 18 (.ld none (.t 17)), kq 19 (.bin .neq (.t 18) (ki 0)), km 20 19, kg 21 (.fad 1 (.t 8)) 20 true, kg 22 (.ld none (.t 21)) 20 true, kg 23 (.mv (.t 1)) 20 true, kg 24 (.bin .eql (.t 22) (.t 23)) 20 true, kq 25 (.pick (.t 20) (.t 24) kF), km 26 25, kg 27 (.fad 2 (.t 8)) 26 true, kg 28 (.ld none (.t 27)) 26 true, kg 29 (.mv (.t 2)) 26 true, kg 30 (.bin .eql (.t 28) (.t 29)) 26 true, kq 31 (.pick (.t 26) (.t 30) kF)]) (.cond (.t 31) (.seq (.reg [kq 6 (.mv kT)]) .ret) .skip)))) (.reg [km 11 7, kq 12 (.bin .add (.t 11) (ki 1)), km 7 12])))))) (.seq (.reg [kq 32 (.fad 1 (.t 3)), kq 33 (.ld none (.t 32)), km 34 1, kq 35 (.bin .eql (.t 33) (.t 34)), km 36 35, kg 37 (.fad 2 (.t 3)) 36 true, kg 38 (.ld none (.t 37)) 36 true, kg 39 (.mv (.t 2)) 36 true, kg 40 (.bin .eql (.t 38) (.t 39)) 36 true, kq 41 (.pick (.t 36) (.t 40) kF), km 6 41]) .ret)))⟩
abbrev zeo (P : Program) : Prop := z6 P "roundhouse/roundhouseref6.Held" = some zgO
def zgP : IFunc := ⟨31, [.cell 4 (some 7)], (.seq (.reg [kq 4 (.new [(1, (.int .i64 0)), (6, (.int .u64 0))])]) (.seq (.reg [kq 5 (.new [(6, (.int .u64 0))])]) (.seq (.seq (.reg [kq 6 (.mv (ki 0))]) (.block 0 (.loop (.seq (.seq (.reg [km 7 6, km 8 1, kq 9 (.lenS (.t 8)), kq 10 (.bin .lss (.t 7) (.t 9)), km 11 10, kg 12 (.mv (.t 6)) 11 true, kg 13 (.bin .lss (.t 12) (ki 3)) 11 true, kq 14 (.pick (.t 11) (.t 13) kF)]) (.cond (.t 14) .skip (.exit 0))) (.seq (.block 1 (.reg [km 17 6, km 18 1, km 19 6, kq 20 (.iadS 2 (.t 18) (.t 19)), kq 21 (.ld (some 2) (.t 20)), kq 22 (.iadA 3 2 (.t 5) (.t 17)), ku (.st 2 (.t 22) (.t 21))])) (.reg [km 15 6, kq 16 (.bin .add (.t 15) (ki 1)), km 6 16])))))) (.seq (.reg [km 23 0, kq 24 (.iadA 3 2 (.t 5) (ki 0)), kq 25 (.ld (some 2) (.t 24)), kq 26 (.iadA 3 2 (.t 5) (ki 1)), kq 27 (.ld (some 2) (.t 26)), kq 28 (.iadA 3 2 (.t 5) (ki 2)), kq 29 (.ld (some 2) (.t 28)), kq 30 (.bld [(1, (.int .i64 0)), (6, (.int .u64 0))] [(0, 1, (.t 23)), (1, 2, (.t 25)), (3, 2, (.t 27)), (5, 2, (.t 29))]), ku (.st 7 (.t 4) (.t 30))]) .ret))))⟩
abbrev zep (P : Program) : Prop := z6 P "roundhouse/roundhouseref5.Ring" = some zgP
def zgQ : IFunc := ⟨14, [.cell 4 (some 7)], (.seq (.reg [kq 2 (.box (.t 0)), kq 3 (.box (.t 1)), kq 4 (.new [(1, (.int .i64 0)), (6, (.int .u64 0))])]) (.seq (.reg [kq 5 (.fad 0 (.t 2)), kq 6 (.ld none (.t 5)), kq 7 (.bin .add (.t 6) (ki 1)), kq 8 (.fad 3 (.t 2)), kq 9 (.ld (some 2) (.t 8)), kq 10 (.fad 5 (.t 2)), kq 11 (.ld (some 2) (.t 10)), kq 12 (.ld (some 2) (.t 3)), kq 13 (.bld [(1, (.int .i64 0)), (6, (.int .u64 0))] [(0, 1, (.t 7)), (1, 2, (.t 9)), (3, 2, (.t 11)), (5, 2, (.t 12))]), ku (.st 7 (.t 4) (.t 13))]) .ret))⟩
abbrev zfe (P : Program) : Prop := z6 P "roundhouse/roundhouseref5.Next" = some zgQ
def zhX : IFunc := ⟨10, [.cell 2 (some 2)], (.seq (.reg [kq 2 (.new [(2, (.int .u64 0))])]) (.seq (.reg [km 3 0, kq 4 (.cvi .u64 (.t 3)), kq 5 (.bin .mul (.t 4) (.c (.int .u64 11400714819323198485))), km 6 0, kq 7 (.cvi .u64 (.t 6)), kq 8 (.bin .xor (.t 7) (.c (.int .u64 19088743))), kq 9 (.bld [(2, (.int .u64 0))] [(0, 1, (.t 5)), (1, 1, (.t 8))]), ku (.st 2 (.t 2) (.t 9))]) .ret))⟩
abbrev zgh (P : Program) : Prop := z6 P "roundhouse/roundhouselaw5.Key" = some zhX
def zfT : IFunc := ⟨53, [.cell 2 (some 7)], (.seq (.reg [kq 2 (.new kC)]) (.seq (.reg [km 5 0, kq 6 (.call "roundhouse/roundhouselaw6.within" [(.t 5), (ki 1125899906842624)]), km 3 6]) (.seq (.reg [km 7 3, kq 8 (.bin .quo (.t 7) (ki 8)), kq 9 (.bin .rem (.t 8) (ki 6)), km 4 9]) (.seq (.seq (.reg [km 10 3, kq 11 (.bin .quo (.t 10) (ki 48)), kq 12 (.bin .rem (.t 11) (ki 29)), kq 13 (.bin .eql (.t 12) (ki 0))]) (.cond (.t 13) (.reg [km 14 3, kq 15 (.bin .quo (.t 14) (ki 48)), kq 16 (.bin .rem (.t 15) (ki 66)), km 4 16]) .skip)) (.seq (.seq (.reg [km 17 3, kq 18 (.bin .rem (.t 17) (ki 8))]) (.block 0 (.seq (.seq (.reg [kq 20 (.bin .eql (.t 18) (ki 0)), km 19 20]) (.cond (.t 19) .skip (.reg [kq 21 (.bin .eql (.t 18) (ki 1)), km 19 21]))) (.cond (.t 19) (.seq (.reg [km 22 4, km 23 3, kq 24 (.bin .quo (.t 23) (ki 400)), kq 25 (.bin .rem (.t 24) (ki 5)), km 26 3, kq 27 (.bin .quo (.t 26) (ki 2000)), kq 28 (.bin .rem (.t 27) (ki 3)), km 29 3, kq 30 (.bin .quo (.t 29) (ki 6000)), kq 31 (.bin .rem (.t 30) (ki 8)), kq 32 (.bin .add (ki 1) (.t 31)), kq 33 (.bld kC [(0, 1, (ki 1)), (1, 1, (.t 22)), (2, 1, (.t 25)), (3, 1, (.t 28)), (4, 1, (.t 32))]), ku (.st 7 (.t 2) (.t 33))]) .ret) (.seq (.reg [kq 35 (.bin .eql (.t 18) (ki 2)), km 34 35]) (.cond (.t 34) (.seq (.reg [km 36 4, kq 37 (.bld kC [(0, 1, (ki 2)), (1, 1, (.t 36))]), ku (.st 7 (.t 2) (.t 37))]) .ret) (.seq (.reg [kq 39 (.bin .eql (.t 18) (ki 3)), km 38 39]) (.cond (.t 38) (.seq (.reg [km 40 4, kq 41 (.bld kC [(0, 1, (ki 3)), (1, 1, (.t 40))]), ku (.st 7 (.t 2) (.t 41))]) .ret) (.seq (.reg [kq 43 (.bin .eql (.t 18) (ki 4)), km 42 43]) (.cond (.t 42) (.seq (.reg [km 44 4, kq 45 (.bld kC [(0, 1, (ki 4)), (1, 1, (.t 44))]), ku (.st 7 (.t 2) (.t 45))]) .ret) (.seq (.reg [kq 47 (.bin .eql (.t 18) (ki 5)), km 46 47]) (.cond (.t 46) (.seq (.reg [km 48 4, kq 49 (.bld kC [(0, 1, (ki 5)), (1, 1, (.t 48))]), ku (.st 7 (.t 2) (.t 49))]) .ret) .skip)))))))))))) (.seq (.reg [km 50 3, kq 51 (.call "roundhouse/roundhouselaw5.Key" [(.t 50)]), kq 52 (.bld kC [(0, 1, (ki 6)), (5, 2, (.t 51))]), ku (.st 7 (.t 2) (.t 52))]) .ret))))))⟩
abbrev zfJ (P : Program) : Prop := z6 P "roundhouse/roundhouselaw6.Entry" = some zfT
def zfi : IFunc := ⟨15, [.tmp 4], (.seq (.reg [kq 4 (.mv (ki 0))]) (.seq (.reg [km 6 0, km 7 1, kq 8 (.bin .rem (.t 6) (.t 7)), km 5 8]) (.seq (.seq (.reg [km 9 5, kq 10 (.bin .lss (.t 9) (ki 0))]) (.cond (.t 10) (.reg [km 11 5, km 12 1, kq 13 (.bin .add (.t 11) (.t 12)), km 5 13]) .skip)) (.seq (.reg [km 14 5, km 4 14]) .ret))))⟩
abbrev zd6 (P : Program) : Prop := z6 P "roundhouse/roundhouselaw6.within" = some zfi
def zfj : IFunc := ⟨41, [.cell 4 (some 330)], (.seq (.reg [kq 4 (.new kA)]) (.seq (.reg [kq 11 (.call "roundhouse/roundhouselaw5.Key" [(ki 1)]), kq 12 (.call "roundhouse/roundhouselaw5.Key" [(ki 2)]), kq 13 (.call "roundhouse/roundhouseref6.New" [(ki 10), (ki 80), (.t 11), (.t 12)]), km 10 13, kq 14 (.ext 0 (.t 10)), kq 15 (.ext 1 (.t 10)), kq 5 (.new kA), ku (.st 330 (.t 5) (.t 14)), km 6 15]) (.seq (.seq (.reg [kq 7 (.mv (ki 0))]) (.block 0 (.loop (.seq (.seq (.reg [km 16 7, km 17 0, kq 18 (.lenS (.t 17)), kq 19 (.bin .lss (.t 16) (.t 18)), km 20 19, kg 21 (.mv (.t 7)) 20 true, kg 22 (.mv (.t 1)) 20 true, kg 23 (.bin .lss (.t 21) (.t 22)) 20 true, kq 24 (.pick (.t 20) (.t 23) kF)]) (.cond (.t 24) .skip (.exit 0))) (.seq (.block 1 (.seq (.dreg [kq 28 (.ld (some 330) (.t 5)), km 29 0, km 30 7, kq 31 (.iadS 1 (.t 29) (.t 30)), kq 32 (.ld none (.t 31)), kq 33 (.call "roundhouse/roundhouselaw6.Entry" [(.t 32)]), kq 34 (.call "roundhouse/roundhouseref6.Apply" [(.t 28), (.t 33)]), km 27 34, kq 35 (.ext 0 (.t 27)), kq 36 (.ext 1 (.t 27)), kq 8 (.new kA), ku (.st 330 (.t 8) (.t 35)), km 9 36] [[], [], [], [1, 2], [3, 1, 2], [4, 3, 1, 2], [0, 5, 4, 3, 1, 2], [6, 0, 5, 4, 3, 1, 2], [7, 6, 0, 5, 4, 3, 1, 2], [7, 6, 0, 5, 4, 3, 1, 2], [], [10, 8, 7, 6, 0, 5, 4, 3, 1, 2], [9, 7, 6, 0, 5, 4, 3, 1, 2, 11, 10, 8]]) (.seq (.reg [km 37 9, kq 38 (.bin .eql (.t 37) (ki 0))]) (.cond (.t 38) (.reg [kq 39 (.ld (some 330) (.t 8)), ku (.st 330 (.t 5) (.t 39))]) .skip)))) (.reg [km 25 7, kq 26 (.bin .add (.t 25) (ki 1)), km 7 26])))))) (.seq (.reg [kq 40 (.ld (some 330) (.t 5)), ku (.st 330 (.t 4) (.t 40))]) .ret))))⟩
end Go.Rh

set_option maxHeartbeats 8000000
namespace Go.Rh
def zfo (n lo hi : Int) : Bool := decide (n < lo) || decide (n > hi)
theorem outC {P : Program} (hc : zdw P) (n lo hi : Int) :
  Env P "roundhouse/roundhouseref6.out" [.int .i64 n, .int .i64 lo, .int .i64 hi] [] (Ans (.bool (zfo n lo hi)) []) := by
 refine Env.of hc ?_
 unfold wpF zhT
 refine zK (s' := _) rfl (zC (qJ (qS (s' := _) 4 rfl (zac (b := decide (n < lo)) 10 rfl (fun h => ?_) (fun h => ?_)))))
 ·refine zK (s' := _) rfl (zC ?_)
  exact qH [.bool true] rfl rfl (by simp only [one, zfo, h, Bool.true_or]) rfl rfl
 ·refine zK (s' := _) rfl (zC ?_)
  exact qH [.bool (decide (n > hi))] rfl rfl (by simp only [one, zfo, h, Bool.false_or]) rfl rfl
theorem refNextC {P : Program} (hc : zfe P) {x0 y1 y2 y3 y4 y5 y6 k1 k2 : Int} :
  Env P "roundhouse/roundhouseref5.Next" [.agg #[.int .i64 x0, .int .u64 y1, .int .u64 y2, .int .u64 y3, .int .u64 y4, .int .u64 y5, .int .u64 y6], .agg #[.int .u64 k1, .int .u64 k2]] []
   (Ans (.agg #[.int .i64 (i64.wrap (x0 + 1)), .int .u64 y3, .int .u64 y4, .int .u64 y5, .int .u64 y6, .int .u64 k1, .int .u64 k2]) []) := by
 refine Env.of hc ?_
 unfold wpF zgQ
 exact zK (s' := _) rfl (zC (zK (s' := _) rfl (zC (qH [.agg #[.int .i64 (i64.wrap (x0 + 1)), .int .u64 y3, .int .u64 y4, .int .u64 y5, .int .u64 y6, .int .u64 k1, .int .u64 k2]] rfl rfl rfl rfl rfl))))
def ze0 (n : Int) : Int := IntKind.u64.wrap (IntKind.u64.wrap n * 11400714819323198485)
def zeZ (n : Int) : Int := IntKind.u64.wrap (BitVec.ofInt IntKind.u64.bits (IntKind.u64.wrap n) ^^^ BitVec.ofInt IntKind.u64.bits 19088743).toNat
def keyV (n : Int) : Value := .agg #[.int .u64 (ze0 n), .int .u64 (zeZ n)]
theorem KeyC {P : Program} (hc : zgh P) (n : Int) :
  Env P "roundhouse/roundhouselaw5.Key" [.int .i64 n] [] (Ans (keyV n) []) := by
 refine Env.of hc ?_
 unfold wpF zhX
 exact zK (s' := _) rfl (zC (zK (s' := _) rfl (zC (qH [keyV n] rfl rfl rfl rfl rfl))))
def zF (at_ n : Int) : Int := if at_.tmod n < 0 then i64.wrap (at_.tmod n + n) else at_.tmod n
theorem withinC {P : Program} (hc : zd6 P) (x n : Int) (hn : n ≠ 0) :
  Env P "roundhouse/roundhouselaw6.within" [.int .i64 x, .int .i64 n] [] (Ans (.int .i64 (zF x n)) []) := by
 refine Env.of hc ?_
 unfold wpF zfi
 refine zK (s' := _) rfl (zC (qJ (qS (s' := _) 2 rfl (zcX (v := .int .i64 (x.tmod n)) (e := .no) rfl ?_ ?_))))
 ·show (match (if n = 0 then (none : Option Value) else some (.int .i64 (x.tmod n))) with | some v => some (v, Eff.no) | none => none) = _
  rw [if_neg hn]
 refine zK (s' := _) rfl (zC (ze5 (fun s => s = ⟨reg [(5, .int .i64 (zF x n))], []⟩) ?_ ?_))
 ·refine qJ (zK (s' := _) rfl (zC (qU (t := decide (x.tmod n < 0)) rfl (fun h => ?_) (fun h => ?_))))
  ·have h := of_decide_eq_true h
   exact zK (s' := _) rfl (⟨_, Wk.to (l := [(5, .int .i64 (zF x n))]) (hs := []) (Nat.zero_le _) rfl ⟨⟨by simp only [zF, if_pos h]; rfl, rfl⟩, trivial⟩ rfl, rfl⟩)
  ·have h := of_decide_eq_false h
   exact ⟨_, Wk.to (l := [(5, .int .i64 (zF x n))]) (hs := []) (Nat.zero_le _) rfl ⟨⟨by simp only [zF, if_neg h]; rfl, rfl⟩, trivial⟩ rfl, rfl⟩
 ·rintro s rfl
  exact zK (s' := _) rfl (zC (qH [.int .i64 (zF x n)] rfl rfl rfl rfl rfl))
end Go.Rh

namespace Go.Rh
def qP (es : List Ent) : List Value := (es.map eL).flatten
def zE : List Value := [iv 0, iv 0, iv 0, iv 0, iv 0, uv 0, uv 0]
theorem eL_scl (e : Ent) : (eL e).all zbL = true := rfl
theorem entsL_scl (es : List Ent) : (qP es).all zbL = true := by
 simp only [qP, List.all_flatten, List.all_map]
 exact List.all_eq_true.2 fun e _ => eL_scl e
theorem zi9 (es : List Ent) : (qP es).length = es.length * 7 := by
 induction es with
 | nil => rfl
 | cons e r ih => simp only [qP, List.map_cons, List.flatten_cons, List.length_append, List.length_cons] at ih ⊢; rw [ih]; simp [eL]; omega
theorem zaP (es : List Ent) (m : Nat) : (qP es ++ zbt zE m).all zbL = true := zfm (entsL_scl es) (zha rfl m)
theorem zja : ∀ (es : List Ent) (t : List Value) (i : Nat) (e : Ent), es[i]? = some e → zaw (some 7) (qP es ++ t) (i * 7) = some (qR e)
 | [], _, _, _, h => by simp at h
 | e :: es, t, 0, e', h => by
  simp at h; subst h
  have : qP (e :: es) ++ t = eL e ++ (qP es ++ t) := by simp [qP]
  rw [this]; simp [zaw, eL, qR]
 | e :: es, t, i + 1, e', h => by
  have h1 := zja es t i e' (by simpa using h)
  have : qP (e :: es) ++ t = eL e ++ (qP es ++ t) := by simp [qP]
  rw [this]
  unfold zaw at h1 ⊢
  simp only at h1 ⊢
  split at h1
  ·rename_i hl
   rw [if_pos (by simp [eL] at hl ⊢; omega)]
   rw [show (i + 1) * 7 = (eL e).length + i * 7 by simp [eL]; omega, List.drop_append]
   rw [List.drop_eq_nil_of_le (by simp [eL])]
   simpa using h1
  ·cases h1
theorem ents_r {es : List Ent} {t : List Value} {o i : Nat} {e : Ent} (ho : o = 7 * i) (h : es[i]? = some e) : zaw (some 7) (qP es ++ t) o = some (qR e) := by
 subst ho; rw [Nat.mul_comm]; exact zja es t i e h
theorem bld_newS (a p ka kb na nb : Int) : zd7 (qT zP) [(1, 1, .int .i64 a), (2, 1, .int .i64 p), (323, 7, .agg #[.int .i64 1, .int .u64 0, .int .u64 0, .int .u64 ka, .int .u64 kb, .int .u64 na, .int .u64 nb])] = some (pl (newS a p ka kb na nb)) := by
 rw [zjo]
 have e1 : splice (pl zH) 1 [.int .i64 a] = pl (upd zH 1 a) := zcY _ (by omega) _
 have e2 : splice (pl (upd zH 1 a)) 2 [.int .i64 p] = pl (upd (upd zH 1 a) 2 p) := zcY _ (by omega) _
 have e3 := zgH (upd (upd zH 1 a) 2 p) 1 0 0 ka kb na nb
 simp only [zd7, zbQ, zdb, List.length_cons, List.length_nil, zN]
 simp only [e1, e2, zN]
 simp only [e3]
 simp
 refine pl_ext fun k hk => ?_
 simp only [upd, newS, zH]
 by_cases h1 : k = 1
 ·subst h1; simp
 by_cases h2 : k = 2
 ·subst h2; simp
 by_cases h3 : k = 323
 ·subst h3; simp
 by_cases h4 : k = 326
 ·subst h4; simp
 by_cases h5 : k = 327
 ·subst h5; simp
 by_cases h6 : k = 328
 ·subst h6; simp
 by_cases h7 : k = 329
 ·subst h7; simp
 simp [h1, h2, h3, h4, h5, h6, h7]
def zax (a p ka kb na nb : Int) : qL × Int := if za0 a p = true then (newS a p ka kb na nb, 0) else (zH, 14)
theorem AllE {P : Program} (hc : zc2 P) (h1 : zaU P) (h2 : za3 P) (h3 : zaT P) (h4 : za1 P) (h5 : zaO P) (h6 : zau P) (h7 : zaC P)
  (c : qL) (es : List Ent) (m n cap : Nat) (hne : n = es.length) (hn : n ≤ 1000000) :
  Env P "roundhouse/pool.All" [qG c, .slice (some ⟨0, 0, none⟩) n cap] (roL [qP es ++ zbt zE m]) (Ans (.tuple #[qG (zaR c es 0).1, .int .i64 (zaR c es 0).2.1, .int .i64 (zaR c es 0).2.2]) (roL [qP es ++ zbt zE m])) :=
 by subst hne; exact AllC hc ⟨h1, h2, h3, h4, h5, h6, h7⟩ c es _ 0 cap (zaP es m) (fun i e he => by rw [Nat.zero_add]; exact zja es _ i e he) hn
end Go.Rh

namespace Go.Rh
def hT (kc km : Nat) (e : Ent) (s : Bool) : List Value := [.chan (some kc), .map (some km), iv e.k, iv e.s, iv e.a, iv e.p, iv e.g, uv e.ka, uv e.kb, bv s]
def zT (c : qL) (kc km : Nat) (e : Ent) (s : Bool) : List Value := pl c ++ hT kc km e s
theorem headL_length (c : qL) (kc km : Nat) (e : Ent) (s : Bool) : (zT c kc km e s).length = 340 := by simp [zT, zN, hT]
theorem zcu {m : Option Nat} {c : qL} {kc km : Nat} {e : Ent} {s : Bool} (o : Nat) : zaw m (zT c kc km e s) (330 + o) = zaw m (hT kc km e s) o := zfF (zN c)
theorem zeL {m : Option Nat} {c : qL} {kc km : Nat} {e : Ent} {s : Bool} {o : Nat} {v : Value} (h : zaw m (pl c) o = some v) : zaw m (zT c kc km e s) o = some v := zdS h
theorem head_wP {c d : qL} {kc km : Nat} {e : Ent} {s : Bool} : splice (zT c kc km e s) 0 (pl d) = zT d kc km e s := by
 unfold zT; rw [zeC (by rw [zN, zN]; omega), qO]
theorem head_wE {c : qL} {kc km : Nat} {e e' : Ent} {s : Bool} : splice (zT c kc km e s) 332 [iv e'.k, iv e'.s, iv e'.a, iv e'.p, iv e'.g, uv e'.ka, uv e'.kb] = zT c kc km e' s :=
 zcy (o := 2) (zN c)
theorem head_wS {c : qL} {kc km : Nat} {e : Ent} {s s' : Bool} : splice (zT c kc km e s) 339 [bv s'] = zT c kc km e s' := zcy (o := 9) (zN c)
theorem head_le {c : qL} {kc km : Nat} {e : Ent} {s : Bool} {m : Nat} (h : m ≤ 340) : m ≤ (zT c kc km e s).length := by rw [headL_length]; exact h
theorem ren_pl {ρ : Nat → Nat} (c : qL) : (pl c).map (zeJ ρ) = pl c := zbe fun v hv => zeW (List.all_eq_true.1 (zaH c) v hv)
theorem zcq {ρ : Nat → Nat} {c : qL} {kc km kc' km' : Nat} {e : Ent} {s rw : Bool} (h1 : ρ kc = kc') (h2 : ρ km = km') : za5 ρ (.cells (zT c kc km e s) rw) = .cells (zT c kc' km' e s) rw := by
 subst h1; subst h2
 simp only [za5, zT, List.map_append, ren_pl]; rfl
structure Nt where
  u : Int
  b : Int
  v : Int
  w : Bool
  a : Bool
  e : Ent
  p : qL
def ntH (u b v : Int) (w a : Bool) (e : Ent) : List Value := [iv u, iv b, iv v, bv w, bv a, iv e.k, iv e.s, iv e.a, iv e.p, iv e.g, uv e.ka, uv e.kb]
def ntF (u b v : Int) (w a : Bool) (e : Ent) (p : qL) : List Value := ntH u b v w a e ++ pl p
def ntL (n : Nt) : List Value := ntF n.u n.b n.v n.w n.a n.e n.p
def ntV (u b v : Int) (w a : Bool) (e : Ent) (p : qL) : Value := .agg ⟨ntF u b v w a e p⟩
theorem qF (u b v : Int) (w a : Bool) (e : Ent) (p : qL) : (ntF u b v w a e p).length = 342 := by simp [ntF, ntH, zN]
theorem zj3 (n : Nt) : (ntL n).length = 342 := qF _ _ _ _ _ _ _
theorem zhI (u b v : Int) (w a : Bool) (e : Ent) (p : qL) : (ntF u b v w a e p).all zbL = true := zfm (a := ntH u b v w a e) rfl (zaH p)
theorem ntF_scl' {u b v : Int} {w a : Bool} {e : Ent} {p : qL} : (ntF u b v w a e p).all zbL = true := zhI u b v w a e p
theorem ntL_scl (n : Nt) : (ntL n).all zbL = true := zhI n.u n.b n.v n.w n.a n.e n.p
theorem ntV_vpf (u b v : Int) (w a : Bool) (e : Ent) (p : qL) : vpf (ntV u b v w a e p) = true := zhI u b v w a e p
theorem za8 (u b v : Int) (w a : Bool) (e : Ent) (p : qL) : zjF (ntV u b v w a e p) = true := zhI u b v w a e p
theorem zdT {m : Option Nat} {u b v : Int} {w a : Bool} {e : Ent} {p : qL} {o : Nat} {x : Value} (h : zaw m (ntH u b v w a e) o = some x) : zaw m (ntF u b v w a e p) o = some x := zdS h
theorem nt_rP {m : Option Nat} {u b v : Int} {w a : Bool} {e : Ent} {p : qL} (o : Nat) : zaw m (ntF u b v w a e p) (12 + o) = zaw m (pl p) o := zfF rfl
theorem zbJ (u b v : Int) (w a : Bool) (e : Ent) (p : qL) : zaw (some 342) (ntF u b v w a e p) 0 = some (ntV u b v w a e p) := by
 unfold zaw
 simp only []
 rw [if_pos (by rw [qF]; omega), List.drop_zero, List.take_of_length_le (by rw [qF]; omega)]
 rfl
theorem nt_wP {u b v : Int} {w a : Bool} {e : Ent} {p q : qL} : splice (ntF u b v w a e p) 12 (pl q) = ntF u b v w a e q := by
 have : splice (ntF u b v w a e p) (12 + 0) (pl q) = ntH u b v w a e ++ splice (pl p) 0 (pl q) := zcy rfl
 rw [qO] at this; exact this
theorem nt_wH {u b v u' b' v' : Int} {w a w' a' : Bool} {e e' : Ent} {p : qL} {o : Nat} {vs : List Value} (h : o + vs.length ≤ 12) (hs : splice (ntH u b v w a e) o vs = ntH u' b' v' w' a' e') : splice (ntF u b v w a e p) o vs = ntF u' b' v' w' a' e' p := by
 unfold ntF; rw [zeC (by exact h), hs]
theorem zbu {u b v u' b' v' : Int} {w a w' a' : Bool} {e e' : Ent} {p q : qL} : splice (ntF u b v w a e p) 0 (ntF u' b' v' w' a' e' q) = ntF u' b' v' w' a' e' q := zdr (by rw [qF, qF])
theorem zdf {u b v : Int} {w a : Bool} {e : Ent} {p : qL} {m : Nat} (h : m ≤ 342) : m ≤ (ntF u b v w a e p).length := by rw [qF]; exact h
def zbb (l : List Nt) : List Value := (l.map ntL).flatten
theorem zbh (l : List Nt) : (zbb l).length = l.length * 342 := by
 induction l with
 | nil => rfl
 | cons n l ih => simp only [zbb, List.map_cons, List.flatten_cons, List.length_append, zj3, List.length_cons] at ih ⊢; rw [ih]; omega
theorem zgd (l : List Nt) : (zbb l).all zbL = true := by
 simp only [zbb, List.all_flatten, List.all_map]
 exact List.all_eq_true.2 fun n _ => ntL_scl n
theorem ntsL_snoc (l : List Nt) (n : Nt) : zbb l ++ ntL n = zbb (l ++ [n]) := by simp [zbb]
def zNt : List Value := ntF 0 0 0 false false ⟨0, 0, 0, 0, 0, 0, 0⟩ zH
theorem zcK (l : List Nt) (m : Nat) : (zbb l ++ zbt zNt m).all zbL = true := zfm (zgd l) (zha (zhI 0 0 0 false false ⟨0, 0, 0, 0, 0, 0, 0⟩ zH) m)
theorem nts_r {m : Option Nat} : ∀ {l : List Nt} {t : List Value} {i j : Nat} {n : Nt} {v : Value}, l[i]? = some n → zaw m (ntL n) j = some v → zaw m (zbb l ++ t) (342 * i + j) = some v
 | [], _, _, _, _, _, h, _ => by simp at h
 | x :: l, t, 0, j, n, v, h, hv => by
  simp at h; subst h
  have e : zbb (x :: l) ++ t = ntL x ++ (zbb l ++ t) := by simp [zbb]
  rw [e, show 342 * 0 + j = j by omega]
  exact zdS hv
 | x :: l, t, i + 1, j, n, v, h, hv => by
  have e : zbb (x :: l) ++ t = ntL x ++ (zbb l ++ t) := by simp [zbb]
  rw [e, show 342 * (i + 1) + j = 342 + (342 * i + j) by omega, zfF (zj3 x)]
  exact nts_r (by simpa using h) hv
def wV (x : Int × Int) : Value := .agg #[iv x.1, iv x.2]
def hdM (l : List (Int × Int)) : List (Value × Value) := l.mapIdx fun i x => (iv (i : Nat), wV x)
theorem zhN (l : List (Int × Int)) : (hdM l).length = l.length := by simp [hdM]
theorem zhO {l : List (Int × Int)} {i : Nat} : (hdM l)[i]? = (l[i]?).map fun x => (iv (i : Nat), wV x) := by simp [hdM]
theorem hdM_set {l : List (Int × Int)} {i : Nat} {x : Int × Int} : (hdM l).set i (iv (i : Nat), wV x) = hdM (l.set i x) := by
 refine List.ext_getElem? fun k => ?_
 rw [List.getElem?_set, zhO, zhO, List.getElem?_set, zhN]
 by_cases h : i = k
 ·subst h
  by_cases h2 : i < l.length <;> simp [h2]
 ·simp [h]
theorem hdM_snoc {l : List (Int × Int)} {x : Int × Int} : hdM l ++ [(iv (l.length : Nat), wV x)] = hdM (l ++ [x]) := by
 simp [hdM, List.mapIdx_append]
theorem find_hd : ∀ (l : List (Int × Int)) (n : Int), zjv .i (iv n) (hdM l) = some (if 0 ≤ n ∧ n < l.length then some n.toNat else none) := by
 have gen : ∀ (l : List (Int × Int)) (n : Int) (b : Nat), zjv .i (iv n) (l.mapIdx fun i x => (iv ((i + b : Nat) : Int), wV x)) = some (if (b : Int) ≤ n ∧ n < b + l.length then some (n.toNat - b) else none) := by
  intro l
  induction l with
  | nil => intro n b; simp [zjv]
  | cons x l ih =>
   intro n b
   have h2 := ih n (b + 1)
   rw [List.mapIdx_cons]
   simp only [zjv]
   have hs : zdR .i (iv n) (iv ((0 + b : Nat) : Int)) = some (decide (n = (b : Int))) := by
    simp only [zdR, Nat.zero_add]
    first | rfl | (congr 1; exact Bool.eq_iff_iff.2 (by simp))
   rw [hs]
   have he : (fun (i : Nat) (x : Int × Int) => (iv ((i + 1 + b : Nat) : Int), wV x)) = fun (i : Nat) (x : Int × Int) => (iv ((i + (b + 1) : Nat) : Int), wV x) := by
    funext i x; rw [show i + 1 + b = i + (b + 1) by omega]
   rw [he, h2]
   by_cases h : n = (b : Int)
   ·simp [h]; omega
   ·simp only [h, decide_false]
    by_cases h3 : ((b + 1 : Nat) : Int) ≤ n ∧ n < ((b + 1 : Nat) : Int) + l.length
    ·rw [if_pos h3, if_pos (by simp; omega)]; simp; omega
    ·rw [if_neg h3, if_neg (by simp; omega)]
 intro l n
 have := gen l n 0
 simpa [hdM] using this
end Go.Rh

namespace Go.Rh
def lkS (hd : List (Int × Int)) (n : Int) : (Int × Int) × Bool := if 0 ≤ n ∧ n < hd.length then (hd.getD n.toNat (0, 0), true) else ((0, 0), false)
theorem run_lkuH {d : Option Nat} {x y : Opd} {L : List (Nat × Value)} {hp : List Blk} {r : Nat} {hd : List (Int × Int)} {n : Int} (hx : evf (reg L) x = .map (some r)) (hh : hf hp r = some (.map (hdM hd))) (hy : evf (reg L) y = iv n) :
  zdE [⟨d, .lku .i [(2, .int .i64 0)] true false x y, none⟩] ⟨reg L, hp⟩ = some ⟨zaD (reg L) d (.agg #[iv (lkS hd n).1.1, iv (lkS hd n).1.2]), hp⟩ := by
 refine zaQ (e := .no) rfl rfl ?_
 simp only [zS, zeroV, if_true, hx, hh, hy, find_hd]
 by_cases h : 0 ≤ n ∧ n < hd.length
 ·have hl : n.toNat < hd.length := by omega
  simp only [if_pos h, zhO, lkS, List.getElem?_eq_getElem hl, Option.map_some, List.getD_eq_getElem?_getD, Option.getD_some]
  rfl
 ·simp only [if_neg h, lkS]; rfl
theorem run_lkuH2 {d : Option Nat} {x y : Opd} {L : List (Nat × Value)} {hp : List Blk} {r : Nat} {hd : List (Int × Int)} {n : Int} (hx : evf (reg L) x = .map (some r)) (hh : hf hp r = some (.map (hdM hd))) (hy : evf (reg L) y = iv n) :
  zdE [⟨d, .lku .i [(2, .int .i64 0)] true true x y, none⟩] ⟨reg L, hp⟩ = some ⟨zaD (reg L) d (.tuple #[.agg #[iv (lkS hd n).1.1, iv (lkS hd n).1.2], bv (lkS hd n).2]), hp⟩ := by
 refine zaQ (e := .no) rfl rfl ?_
 simp only [zS, zeroV, if_true, hx, hh, hy, find_hd]
 by_cases h : 0 ≤ n ∧ n < hd.length
 ·have hl : n.toNat < hd.length := by omega
  simp only [if_pos h, zhO, lkS, List.getElem?_eq_getElem hl, Option.map_some, List.getD_eq_getElem?_getD, Option.getD_some]
  rfl
 ·simp only [if_neg h, lkS]; rfl
theorem run_mupS {x y z : Opd} {L : List (Nat × Value)} {hp : List Blk} {r : Nat} {hd : List (Int × Int)} {n a b : Int} (hx : evf (reg L) x = .map (some r)) (hh : hf hp r = some (.map (hdM hd))) (hy : evf (reg L) y = iv n) (hz : evf (reg L) z = .agg #[iv a, iv b]) (hn : 0 ≤ n ∧ n < hd.length) :
  zdE [⟨none, .mup .i x y z, none⟩] ⟨reg L, hp⟩ = some ⟨zaD (reg L) none undef, hp.set r (.map (hdM (hd.set n.toNat (a, b))))⟩ := by
 refine zaQ (e := .set r (.map (hdM (hd.set n.toNat (a, b))))) rfl rfl ?_
 simp only [zS, hx, hh, hy, hz, find_hd, if_pos hn]
 have e : iv n = iv (n.toNat : Nat) := by rw [Int.toNat_of_nonneg hn.1]
 have := hdM_set (l := hd) (i := n.toNat) (x := (a, b))
 rw [← this, ← e]; rfl
theorem run_mupA {x y z : Opd} {L : List (Nat × Value)} {hp : List Blk} {r : Nat} {hd : List (Int × Int)} {n a b : Int} (hx : evf (reg L) x = .map (some r)) (hh : hf hp r = some (.map (hdM hd))) (hy : evf (reg L) y = iv n) (hz : evf (reg L) z = .agg #[iv a, iv b]) (hn : n = hd.length) :
  zdE [⟨none, .mup .i x y z, none⟩] ⟨reg L, hp⟩ = some ⟨zaD (reg L) none undef, hp.set r (.map (hdM (hd ++ [(a, b)])))⟩ := by
 refine zaQ (e := .set r (.map (hdM (hd ++ [(a, b)])))) rfl rfl ?_
 have hq := find_hd hd n
 rw [if_neg (by omega)] at hq
 simp only [zS, hx, hh, hy, hz, hq]
 rw [← hdM_snoc, hn]; rfl
theorem run_lenH {d : Option Nat} {x : Opd} {L : List (Nat × Value)} {hp : List Blk} {r : Nat} {hd : List (Int × Int)} (hx : evf (reg L) x = .map (some r)) (hh : hf hp r = some (.map (hdM hd))) : zdE [⟨d, .lenM x, none⟩] ⟨reg L, hp⟩ = some ⟨zaD (reg L) d (iv (hd.length : Nat)), hp⟩ := by
 refine zaQ (e := .no) rfl rfl ?_
 simp only [zS, hx, hh, zhN]
theorem run_lenW {d : Option Nat} {x : Opd} {L : List (Nat × Value)} {hp : List Blk} {r n : Nat} {w : List Ent} (hx : evf (reg L) x = .chan (some r)) (hh : hf hp r = some (.chan n (w.map qR))) : zdE [⟨d, .lenC x, none⟩] ⟨reg L, hp⟩ = some ⟨zaD (reg L) d (iv (w.length : Nat)), hp⟩ := by
 refine zaQ (e := .no) rfl rfl ?_
 simp only [zS, hx, hh, List.length_map]
theorem zhP (w : List Ent) (e : Ent) : w.map qR ++ [qR e] = (w ++ [e]).map qR := by simp
theorem zX {ρ : Nat → Nat} {n : Nat} (w : List Ent) : za5 ρ (.chan n (w.map qR)) = .chan n (w.map qR) := by
 simp only [za5]
 rw [zbe fun v hv => ?_]
 obtain ⟨e, _, rfl⟩ := List.mem_map.1 hv
 exact zhc rfl
theorem qI {ρ : Nat → Nat} (l : List (Int × Int)) : za5 ρ (.map (hdM l)) = .map (hdM l) := by
 simp only [za5]
 congr 1
 refine (List.map_congr_left (g := id) fun e he => ?_).trans (by simp)
 obtain ⟨i, hi⟩ := List.mem_iff_getElem?.1 he
 rw [zhO] at hi
 simp only [Option.map_eq_some_iff] at hi
 obtain ⟨x, _, rfl⟩ := hi
 simp [zgq, zeJ, wV]
theorem zcn {ρ : Nat → Nat} {c : qL} {kc km kc' km' : Nat} {e : Ent} {s rw rw' : Bool} (h1 : ρ kc = kc') (h2 : ρ km = km') (hr : rw = true → rw' = true) : Blk.seen (za5 ρ (.cells (zT c kc km e s) rw)) (.cells (zT c kc' km' e s) rw') := by
 rw [zcq h1 h2]; exact ⟨rfl, hr⟩
theorem qB {ρ : Nat → Nat} {c : qL} {kc km kc' km' : Nat} {e : Ent} {s rw : Bool} (h1 : ρ kc = kc') (h2 : ρ km = km') : some (Blk.cells (zT c kc' km' e s) rw) = some (za5 ρ (.cells (zT c kc km e s) rw)) := by rw [zcq h1 h2]
theorem zco {ρ : Nat → Nat} {n : Nat} (w : List Ent) : Blk.seen (za5 ρ (.chan n (w.map qR))) (.chan n (w.map qR)) := by rw [zX]; rfl
theorem zdd {ρ : Nat → Nat} (l : List (Int × Int)) : Blk.seen (za5 ρ (.map (hdM l))) (.map (hdM l)) := by rw [qI]; rfl
theorem hdM_inv {l : List (Int × Int)} {j : Nat} {e : Value × Value} (h : (hdM l)[j]? = some e) : ∃ x, l[j]? = some x ∧ e = (iv (j : Nat), .agg #[iv x.1, iv x.2]) := by
 rw [zhO] at h
 simp only [Option.map_eq_some_iff] at h
 obtain ⟨x, h1, rfl⟩ := h
 exact ⟨x, h1, rfl⟩
end Go.Rh

namespace Go.Rh
theorem fillL_l : ∀ {parts : List (Nat × Nat × Value)} {a a' b : List Value}, zd7 a parts = some a' → zd7 (a ++ b) parts = some (a' ++ b)
 | [], a, a', b, h => by simp only [zd7, Option.some.injEq] at h ⊢; rw [h]
 | (o, s, v) :: r, a, a', b, h => by
  simp only [zd7] at h ⊢
  split at h
  ·rename_i q
   obtain ⟨q1, q2, q3⟩ := q
   rw [if_pos ⟨q1, q2, by simp; omega⟩, zeC (by omega)]
   exact fillL_l h
  ·cases h
def zHd : RL := [(324, .int .i64 0), (6, .int .u64 0), (1, .chan none), (1, .map none), (5, .int .i64 0), (2, .int .u64 0), (1, .bool false)]
def zNt' : RL := [(3, .int .i64 0), (2, .bool false), (5, .int .i64 0), (2, .int .u64 0), (324, .int .i64 0), (6, .int .u64 0)]
def e0 : Ent := ⟨0, 0, 0, 0, 0, 0, 0⟩
theorem zHd_eq : qT zHd = pl zH ++ [.chan none, .map none, iv 0, iv 0, iv 0, iv 0, iv 0, uv 0, uv 0, bv false] := by kernel_rfl
theorem zNt_eq : qT zNt' = ntF 0 0 0 false false e0 zH := by kernel_rfl
theorem bld_head (c : qL) (kc km : Nat) : zd7 (qT zHd) [(0, 330, qG c), (330, 1, .chan (some kc)), (331, 1, .map (some km))] = some (zT c kc km e0 false) := by
 rw [zHd_eq]
 have h1 : zdb (qG c) = pl c := rfl
 simp only [zd7, h1]
 rw [if_pos ⟨rfl, zN c, by simp [zN]⟩, zeC (by rw [zN, zN]; omega), qO]
 have h2 : splice (pl c ++ [.chan none, .map none, iv 0, iv 0, iv 0, iv 0, iv 0, uv 0, uv 0, bv false]) 330 (zdb (.chan (some kc))) = pl c ++ [.chan (some kc), .map none, iv 0, iv 0, iv 0, iv 0, iv 0, uv 0, uv 0, bv false] := zcy (o := 0) (zN c)
 rw [if_pos ⟨rfl, rfl, by simp [zN]⟩, h2]
 have h3 : splice (pl c ++ [.chan (some kc), .map none, iv 0, iv 0, iv 0, iv 0, iv 0, uv 0, uv 0, bv false]) 331 (zdb (.map (some km))) = pl c ++ [.chan (some kc), .map (some km), iv 0, iv 0, iv 0, iv 0, iv 0, uv 0, uv 0, bv false] := zcy (o := 1) (zN c)
 rw [if_pos ⟨rfl, rfl, by simp [zN]⟩, h3]
 rfl
theorem zie {parts : List (Nat × Nat × Value)} {u b v : Int} {w a : Bool} {e : Ent} (h : zd7 (ntH 0 0 0 false false e0) parts = some (ntH u b v w a e)) : zd7 (qT zNt') parts = some (ntF u b v w a e zH) := by
 rw [zNt_eq]; exact fillL_l h
theorem entsL_app1 (es : List Ent) (x : Ent) : qP es ++ [iv x.k, iv x.s, iv x.a, iv x.p, iv x.g, uv x.ka, uv x.kb] = qP (es ++ [x]) := by simp [qP]; rfl
theorem run_bsl1 {d : Option Nat} {x : Opd} {L : List (Nat × Value)} {hp : List Blk} {c : List Value} (hx : evf (reg L) x = .agg ⟨c⟩) (hc : c.length = 342) : zdE [⟨d, .bsl zNt' 342 1 [(0, 342, x)], none⟩] ⟨reg L, hp⟩ = some ⟨zaD (reg L) d (sv hp.length 0 1 1), hp ++ [cw c]⟩ := by
 refine zaQ (e := .push (cw c)) rfl rfl ?_
 have h1 : (List.replicate 1 (qT zNt')).flatten = ntF 0 0 0 false false e0 zH := by rw [zNt_eq]; simp
 have h2 : zdb (.agg ⟨c⟩) = c := rfl
 have h3 : splice (ntF 0 0 0 false false e0 zH) 0 c = c := zdr (by rw [hc, qF])
 simp only [zS, List.map_cons, List.map_nil, hx, h1, zd7, h2]
 rw [if_pos ⟨rfl, hc, by rw [qF]; omega⟩, h3]
theorem nt_first (u b v : Int) (w a : Bool) (e : Ent) (p : qL) : ((ntF u b v w a e p).drop 0).take (1 * 342) = ntF u b v w a e p := by rw [List.drop_zero, List.take_of_length_le (by rw [qF]; omega)]
theorem ziW (l : List Nt) (u b v : Int) (w a : Bool) (e : Ent) (p : qL) : zbb l ++ ntF u b v w a e p = zbb (l ++ [⟨u, b, v, w, a, e, p⟩]) := ntsL_snoc l ⟨u, b, v, w, a, e, p⟩
structure HS where
  p : qL
  w : List Ent
  hd : List (Int × Int)
  e : Ent
  s : Bool
def allW (hd : List (Int × Int)) (v : Int) : Bool := hd.all fun x => x.2 == v
def zjY (x : HS) : HS := match x.w with
 | [] => x
 | e :: r => if (zO x.p e).2 = 0 then ⟨(zO x.p e).1, r, x.hd, e, true⟩ else ⟨x.p, r, x.hd, x.e, x.s⟩
def goS (x : HS) : HS := if allW x.hd (x.p 0) = true then zjY x else x
def zfG (x : HS) (u : Nat) : Option Nt :=
 let w := (lkS x.hd (u : Nat)).1
 if x.p 0 ≤ w.2 then none
 else if w.2 = i64.wrap (x.p 0 - 1) ∧ x.s = true then some ⟨(u : Nat), w.1, x.p 0, false, false, x.e, zH⟩
 else some ⟨(u : Nat), w.1, x.p 0, true, false, e0, x.p⟩
def zb0 (x : HS) (n : Nat) : List Nt := (List.range n).filterMap (zfG x)
def zam (x : HS) : HS × List Nt := (goS x, zb0 (goS x) (goS x).hd.length)
def zcj (x : HS) (l : List Ent) : Int × HS :=
 if 200 < x.w.length + l.length then (14, x)
 else if (zaR (zaR x.p x.w 0).1 l 0).2.2 ≠ 0 then ((zaR (zaR x.p x.w 0).1 l 0).2.2, x)
 else (0, { x with w := x.w ++ l })
def mxS (v : Int) : Int := if (-1) > v then (-1) else v
def zbR (hd : List (Int × Int)) (n : Nt) : List (Int × Int) :=
 if n.a = false ∨ (lkS hd n.u).2 = false ∨ n.b < (lkS hd n.u).1.1 then hd
 else if n.b > (lkS hd n.u).1.1 ∨ mxS n.v > (lkS hd n.u).1.2 then hd.set n.u.toNat (n.b, mxS n.v)
 else hd.set n.u.toNat ((lkS hd n.u).1.1, (lkS hd n.u).1.2)
theorem lkS_in {hd : List (Int × Int)} {n : Int} (h : (!(lkS hd n).2) = false) : 0 ≤ n ∧ n < hd.length := by
 unfold lkS at h
 split at h
 ·assumption
 ·cases h
theorem zcs {x : HS} {i : Nat} (h : zfG x i = none) : zb0 x (i + 1) = zb0 x i := by
 simp [zb0, List.range_succ, List.filterMap_append, h]
theorem zaN {x : HS} {i : Nat} {n : Nt} (h : zfG x i = some n) : zb0 x (i + 1) = zb0 x i ++ [n] := by
 simp [zb0, List.range_succ, List.filterMap_append, h]
theorem notesTo_len (x : HS) (i : Nat) : (zb0 x i).length ≤ i := by
 have := List.length_filterMap_le (zfG x) (List.range i)
 simpa [zb0] using this
theorem pubS_hd (x : HS) : (zjY x).hd = x.hd := by
 unfold zjY; split
 ·rfl
 ·split <;> rfl
theorem goS_hd (x : HS) : (goS x).hd = x.hd := by
 unfold goS; split
 ·exact pubS_hd x
 ·rfl
end Go.Rh

set_option maxHeartbeats 8000000
namespace Go.Rh
theorem zeY (a p : Int) : (zfo a 0 4294967295 || zfo p 0 65535) = !(za0 a p) := by
 simp only [zfo, za0]
 by_cases h1 : a < 0 <;> by_cases h2 : a > 4294967295 <;> by_cases h3 : p < 0 <;> by_cases h4 : p > 65535 <;> simp [h1, h2, h3, h4] <;> omega
theorem refCheckC {P : Program} (hc : zeF P) (hout : zdw P) (e : Ent) :
  Env P "roundhouse/roundhouseref6.Check" [qR e] [] (Ans (.int .i64 (zaK e)) []) := by
 refine Env.of hc ?_
 unfold wpF zfP
 have hb : ([.cells (eL e) true] : List Blk).all (zjx 1) = true := by simp [zjx, eL, zig]
 have fin : ∀ (x : Int) (s : St), zaK e = x → s.f 2 = .int .i64 x → True ∧ ∃ l', zfr s [.tmp 2] = some l' ∧ (∀ v ∈ l', zbQ v = false) ∧ (Ans (.int .i64 (zaK e)) [] (one l') s.h ∨ (vpf (one l') = true ∧ (∀ b ∈ s.h.take 0, zjn b = true) ∧ Ans (.int .i64 (zaK e)) [] (one l') (s.h.take 0))) := by
  intro x s hx h2
  exact qH [.int .i64 x] (by simp [zfr, h2]) rfl (by rw [hx]; rfl) rfl rfl
 refine zK (s' := _) rfl (zg8 [(1, .pointer (some ⟨0, 0, none⟩))] [.cells (eL e) true] (Nat.zero_le _) rfl ⟨⟨rfl, rfl⟩, trivial⟩ hb (qJ (wpD_all (log' := _) (s' := _) rfl (zg8 [(1, .pointer (some ⟨0, 0, none⟩)), (3, .bool (e.k == 1)), (4, .bool (e.k == 6))] [.cells (eL e) true] (Nat.zero_le _) rfl ⟨⟨rfl, rfl⟩, ⟨rfl, rfl⟩, ⟨rfl, rfl⟩, trivial⟩ hb ?_))))
 have tob : ∀ (t : Nat) (b : Bool) (s : St), s.f 1 = .pointer (some ⟨0, 0, none⟩) → s.f 3 = .bool (e.k == 1) → s.f 4 = .bool (e.k == 6) → s.f t = .bool b → s.h.take 1 = [.cells (eL e) true] →
   ∃ s0, Wk 0 s s0 ∧ s0 = ⟨reg [(1, .pointer (some ⟨0, 0, none⟩)), (3, .bool (e.k == 1)), (4, .bool (e.k == 6)), (t, .bool b)], [.cells (eL e) true]⟩ := by
  intro t b s h1 h3 h4 ht hh
  exact ⟨_, Wk.to (l := [(1, .pointer (some ⟨0, 0, none⟩)), (3, .bool (e.k == 1)), (4, .bool (e.k == 6)), (t, .bool b)]) (hs := [.cells (eL e) true]) (Nat.zero_le _) hh ⟨⟨h1, rfl⟩, ⟨h3, rfl⟩, ⟨h4, rfl⟩, ⟨ht, rfl⟩, trivial⟩ hb, rfl⟩
 refine qJ (zda (qJ (qS (s' := _) 2 rfl (zbg (zc7 (outC hout e.k 1 6) rfl rfl rfl (zK (s' := _) rfl (zC (qU (t := zfo e.k 1 6) rfl (fun h1 => ?_) (fun h1 => ?_)))))))))
 ·refine qJ (zK (s' := _) rfl (zC (fin 2 _ ?_ rfl)))
  have : e.k < 1 ∨ 6 < e.k := by simpa [zfo] using h1
  simp [zaK, this]
 have h1 : ¬ (e.k < 1 ∨ 6 < e.k) := by
  intro h; have : zfo e.k 1 6 = true := by simpa [zfo] using h
  rw [this] at h1; cases h1
 refine ze5 (fun s => s = ⟨reg [(1, .pointer (some ⟨0, 0, none⟩)), (3, .bool (e.k == 1)), (4, .bool (e.k == 6)), (15, .bool (zfo e.s 0 63 || (e.k == 6 && e.s != 0)))], [.cells (eL e) true]⟩) ?_ ?_
 ·refine qS (s' := _) 2 rfl (zbg (zc7 (outC hout e.s 0 63) rfl rfl rfl ?_))
  refine qS (s' := _) 1 rfl (zac (b := zfo e.s 0 63) 19 rfl (fun h => ?_) (fun h => ?_))
  ·have hB : (zfo e.s 0 63 || (e.k == 6 && e.s != 0)) = true := by rw [h]; rfl
   rw [hB]
   exact zK (s' := _) rfl (tob 15 true _ rfl rfl rfl rfl rfl)
  ·refine qS (s' := _) 2 rfl (zac (b := e.k == 6) 21 rfl (fun h2 => ?_) (fun h2 => ?_))
   ·have hB : (zfo e.s 0 63 || (e.k == 6 && e.s != 0)) = (e.s != 0) := by rw [h, h2]; rfl
    rw [hB]
    exact zK (s' := _) rfl (tob 15 (e.s != 0) _ rfl rfl rfl rfl rfl)
   ·have hB : (zfo e.s 0 63 || (e.k == 6 && e.s != 0)) = false := by rw [h, h2]; rfl
    rw [hB]
    exact zK (s' := _) rfl (tob 15 false _ rfl rfl rfl rfl rfl)
 rintro s rfl
 refine qU (t := (zfo e.s 0 63 || (e.k == 6 && e.s != 0))) rfl (fun h2 => ?_) (fun h2 => ?_)
 ·refine qJ (zK (s' := _) rfl (zC (fin 11 _ ?_ rfl)))
  have : e.s < 0 ∨ 64 ≤ e.s ∨ (e.k = 6 ∧ e.s ≠ 0) := by
   simp [zfo] at h2; omega
  simp only [zaK, h1, this, if_true, if_false]
 have hs1 : ¬ (e.s < 0 ∨ 64 ≤ e.s ∨ (e.k = 6 ∧ e.s ≠ 0)) := by
  simp [zfo] at h2; omega
 refine ze5 (fun s => s = ⟨reg [(1, .pointer (some ⟨0, 0, none⟩)), (3, .bool (e.k == 1)), (4, .bool (e.k == 6)), (27, .bool (e.k == 1 && ((zfo e.a 0 4294967295 || zfo e.p 0 65535) || zfo e.g 1 8)))], [.cells (eL e) true]⟩) ?_ ?_
 ·generalize hB : (e.k == 1 && ((zfo e.a 0 4294967295 || zfo e.p 0 65535) || zfo e.g 1 8)) = B
  refine qS (s' := _) 2 rfl (zac (b := e.k == 1) 29 rfl (fun g1 => ?_) (fun g1 => ?_))
  ·refine qS (s' := _) 2 rfl (zcx rfl (zbg (zc7 (outC hout e.a 0 4294967295) rfl rfl rfl ?_)))
   refine qS (s' := _) 1 rfl (zac (b := zfo e.a 0 4294967295) 33 rfl (fun g2 => ?_) (fun g2 => ?_))
   ·have : B = true := by rw [← hB, g1, g2]; rfl
    subst this
    exact zK (s' := _) rfl (tob 27 true _ rfl rfl rfl rfl rfl)
   ·refine qS (s' := _) 2 rfl (zcx rfl (zbg (zc7 (outC hout e.p 0 65535) rfl rfl rfl ?_)))
    refine qS (s' := _) 2 rfl (zac (b := zfo e.p 0 65535) 38 rfl (fun g3 => ?_) (fun g3 => ?_))
    ·have : B = true := by rw [← hB, g1, g2, g3]; rfl
     subst this
     exact zK (s' := _) rfl (tob 27 true _ rfl rfl rfl rfl rfl)
    ·have : B = zfo e.g 1 8 := by rw [← hB, g1, g2, g3]; rfl
     subst this
     exact qS (s' := _) 2 rfl (zcx rfl (zbg (zc7 (outC hout e.g 1 8) rfl rfl rfl (zK (s' := _) rfl (tob 27 (zfo e.g 1 8) _ rfl rfl rfl rfl rfl)))))
  ·have : B = false := by rw [← hB, g1]; rfl
   subst this
   exact zK (s' := _) rfl (tob 27 false _ rfl rfl rfl rfl rfl)
 rintro s rfl
 refine qU (t := (e.k == 1 && ((zfo e.a 0 4294967295 || zfo e.p 0 65535) || zfo e.g 1 8))) rfl (fun h3 => ?_) (fun h3 => ?_)
 ·refine qJ (zK (s' := _) rfl (zC (fin 14 _ ?_ rfl)))
  rw [zeY] at h3
  have : e.k = 1 ∧ (za0 e.a e.p = false ∨ e.g < 1 ∨ 8 < e.g) := by simpa [zfo] using h3
  unfold zaK; rw [if_neg h1, if_neg hs1, if_pos this]
 have hp1 : ¬ (e.k = 1 ∧ (za0 e.a e.p = false ∨ e.g < 1 ∨ 8 < e.g)) := by
  intro h
  rw [zeY] at h3
  have : (e.k == 1 && (!za0 e.a e.p || zfo e.g 1 8)) = true := by simpa [zfo] using h
  rw [this] at h3; cases h3
 refine ze5 (fun s => s = ⟨reg [(1, .pointer (some ⟨0, 0, none⟩)), (3, .bool (e.k == 1)), (4, .bool (e.k == 6)), (44, .bool ((!(e.k == 1) && ((e.a != 0 || e.p != 0) || e.g != 0)) || (!(e.k == 6) && !(e.ka == 0 && (e.kb == 0 && true)))))], [.cells (eL e) true]⟩) ?_ ?_
 ·generalize hB : ((!(e.k == 1) && ((e.a != 0 || e.p != 0) || e.g != 0)) || (!(e.k == 6) && !(e.ka == 0 && (e.kb == 0 && true)))) = B
  have tail : ∀ (s : St), (!(e.k == 1) && ((e.a != 0 || e.p != 0) || e.g != 0)) = false → s = s → True := fun _ _ _ => trivial
  refine qS (s' := _) 3 rfl (zac (b := !(e.k == 1)) 47 rfl (fun g1 => ?_) (fun g1 => ?_))
  ·refine qS (s' := _) 4 rfl (zac (b := e.a != 0) 51 rfl (fun g2 => ?_) (fun g2 => ?_))
   ·have : B = true := by rw [← hB, g1, g2]; rfl
    subst this
    exact zK (s' := _) rfl (tob 44 true _ rfl rfl rfl rfl rfl)
   ·refine qS (s' := _) 5 rfl (zac (b := e.p != 0) 56 rfl (fun g3 => ?_) (fun g3 => ?_))
    ·have : B = true := by rw [← hB, g1, g2, g3]; rfl
     subst this
     exact zK (s' := _) rfl (tob 44 true _ rfl rfl rfl rfl rfl)
    ·refine qS (s' := _) 6 rfl (zac (b := e.g != 0) 62 rfl (fun g4 => ?_) (fun g4 => ?_))
     ·have : B = true := by rw [← hB, g1, g2, g3, g4]; rfl
      subst this
      exact zK (s' := _) rfl (tob 44 true _ rfl rfl rfl rfl rfl)
     ·refine qS (s' := _) 3 rfl (zac (b := !(e.k == 6)) 65 rfl (fun g5 => ?_) (fun g5 => ?_))
      ·have : B = !(e.ka == 0 && (e.kb == 0 && true)) := by rw [← hB, g1, g2, g3, g4, g5]; rfl
       subst this
       exact zK (s' := _) rfl (tob 44 (!(e.ka == 0 && (e.kb == 0 && true))) _ rfl rfl rfl rfl rfl)
      ·have : B = false := by rw [← hB, g1, g2, g3, g4, g5]; rfl
       subst this
       exact zK (s' := _) rfl (tob 44 false _ rfl rfl rfl rfl rfl)
  ·refine qS (s' := _) 18 rfl (zac (b := !(e.k == 6)) 65 rfl (fun g5 => ?_) (fun g5 => ?_))
   ·have : B = !(e.ka == 0 && (e.kb == 0 && true)) := by rw [← hB, g1, g5]; rfl
    subst this
    exact zK (s' := _) rfl (tob 44 (!(e.ka == 0 && (e.kb == 0 && true))) _ rfl rfl rfl rfl rfl)
   ·have : B = false := by rw [← hB, g1, g5]; rfl
    subst this
    exact zK (s' := _) rfl (tob 44 false _ rfl rfl rfl rfl rfl)
 have h5 : ((!(e.k == 1) && ((e.a != 0 || e.p != 0) || e.g != 0)) || (!(e.k == 6) && !(e.ka == 0 && (e.kb == 0 && true)))) = decide ((e.k ≠ 1 ∧ (e.a ≠ 0 ∨ e.p ≠ 0 ∨ e.g ≠ 0)) ∨ (e.k ≠ 6 ∧ (e.ka ≠ 0 ∨ e.kb ≠ 0))) := by
  by_cases q1 : e.k = 1 <;> by_cases q2 : e.a = 0 <;> by_cases q3 : e.p = 0 <;> by_cases q4 : e.g = 0 <;> by_cases q5 : e.k = 6 <;> by_cases q6 : e.ka = 0 <;> by_cases q7 : e.kb = 0 <;> simp [q1, q2, q3, q4, q5, q6, q7]
 rintro s rfl
 refine qU (t := ((!(e.k == 1) && ((e.a != 0 || e.p != 0) || e.g != 0)) || (!(e.k == 6) && !(e.ka == 0 && (e.kb == 0 && true))))) rfl (fun h4 => ?_) (fun h4 => ?_)
 ·refine qJ (zK (s' := _) rfl (zC (fin 14 _ ?_ rfl)))
  rw [h5] at h4
  unfold zaK; rw [if_neg h1, if_neg hs1, if_neg hp1, if_pos (of_decide_eq_true h4)]
 ·refine zC (zK (s' := _) rfl (zC (fin 0 _ ?_ rfl)))
  rw [h5] at h4
  unfold zaK; rw [if_neg h1, if_neg hs1, if_neg hp1, if_neg (of_decide_eq_false h4)]
end Go.Rh

set_option maxHeartbeats 8000000
namespace Go.Rh
theorem upd_eq (c : qL) (i : Nat) (v : Int) : upd c i v i = v := by simp [upd]
theorem zg2 (c : qL) {i k : Nat} (v : Int) (h : k ≠ i) : upd c i v k = c k := by simp [upd, h]
theorem zg7 (d : qL) (k : Nat) (x : Int) : zZ d k x (d (3 + 5 * k + 1)) (d (3 + 5 * k + 2)) (d (3 + 5 * k + 3)) (d (3 + 5 * k + 4)) = upd d (3 + 5 * k) x := by
 funext i; simp only [zZ, upd]; repeat' split
 all_goals first | rfl | (subst_vars; first | rfl | omega)
theorem zjR (d : qL) (k : Nat) (x y : Int) : zZ d k x (d (3 + 5 * k + 1)) (d (3 + 5 * k + 2)) (d (3 + 5 * k + 3)) y = upd (upd d (3 + 5 * k) x) (3 + 5 * k + 4) y := by
 funext i; simp only [zZ, upd]; repeat' split
 all_goals first | rfl | (subst_vars; first | rfl | omega)
theorem setSlot_5 (d : qL) (k : Nat) : zZ d k (d (3 + 5 * k)) (d (3 + 5 * k + 1)) (d (3 + 5 * k + 2)) (d (3 + 5 * k + 3)) (d (3 + 5 * k + 4)) = d := by
 funext i; simp only [zZ, upd]; repeat' split
 all_goals first | rfl | (subst_vars; first | rfl | omega)
theorem setSlot_id {d : qL} {k : Nat} {x0 x1 x2 x3 x4 : Int} (h0 : x0 = d (3 + 5 * k)) (h1 : x1 = d (3 + 5 * k + 1)) (h2 : x2 = d (3 + 5 * k + 2)) (h3 : x3 = d (3 + 5 * k + 3)) (h4 : x4 = d (3 + 5 * k + 4)) : zZ d k x0 x1 x2 x3 x4 = d := by
 subst h0 h1 h2 h3 h4; exact setSlot_5 d k
theorem zfb (c : qL) (x0 x1 x2 x3 x4 x5 x6 : Int) {i : Nat} (h : i < 323) : upd (upd (upd (upd (upd (upd (upd c 323 x0) 324 x1) 325 x2) 326 x3) 327 x4) 328 x5) 329 x6 i = c i := by
 simp only [upd]; rw [if_neg (by omega), if_neg (by omega), if_neg (by omega), if_neg (by omega), if_neg (by omega), if_neg (by omega), if_neg (by omega)]
theorem check_s {e : Ent} (h : ¬ (zaK e ≠ 0)) : 0 ≤ e.s ∧ e.s < 64 := by
 have h1 : zaK e = 0 := Decidable.of_not_not h
 unfold zaK at h1
 split at h1
 ·cases h1
 ·split at h1
  ·cases h1
  ·omega
theorem check_k {e : Ent} (h : ¬ (zaK e ≠ 0)) : 1 ≤ e.k ∧ e.k ≤ 6 := by
 have h1 : zaK e = 0 := Decidable.of_not_not h
 unfold zaK at h1
 split at h1
 ·cases h1
 ·omega
theorem refRingC {P : Program} (hc : zep P) (x a1 b1 a2 b2 a3 b3 : Int) :
  Env P "roundhouse/roundhouseref5.Ring" [iv x, sv 0 0 3 3] (roL [[uv a1, uv b1, uv a2, uv b2, uv a3, uv b3]]) (Ans (.agg #[iv x, uv a1, uv b1, uv a2, uv b2, uv a3, uv b3]) (roL [[uv a1, uv b1, uv a2, uv b2, uv a3, uv b3]])) := by
 refine Env.by hc ?_
 unfold zgP
 show GC _ 1 _ _ ⟨reg [(0, iv x), (1, sv 0 0 3 3)], [cr [uv a1, uv b1, uv a2, uv b2, uv a3, uv b3]]⟩
 refine zR (zV (o_b 1 [(4, pv 1 0)] [cr [uv a1, uv b1, uv a2, uv b2, uv a3, uv b3], cw [iv 0, uv 0, uv 0, uv 0, uv 0, uv 0, uv 0]] (by kernel_rfl) (zG (zC (zR (zV (o_b 1 [(5, pv 2 0)] [cr [uv a1, uv b1, uv a2, uv b2, uv a3, uv b3], cw [iv 0, uv 0, uv 0, uv 0, uv 0, uv 0, uv 0], cw [uv 0, uv 0, uv 0, uv 0, uv 0, uv 0]] (by kernel_rfl) (zG (zC (zR (zR (zV ?_))))))))))))
 refine o_d 1 [(6, iv 0)] (by kernel_rfl) (zG (zC (zai (zdm (fun μ s => (μ = 3 ∧ s = ⟨reg [(6, iv 0), (5, pv 2 0), (4, pv 1 0), (0, iv x), (1, sv 0 0 3 3)], [cr [uv a1, uv b1, uv a2, uv b2, uv a3, uv b3], cw [iv 0, uv 0, uv 0, uv 0, uv 0, uv 0, uv 0], cw [uv 0, uv 0, uv 0, uv 0, uv 0, uv 0]]⟩) ∨ (μ = 2 ∧ s = ⟨reg [(6, iv 1), (5, pv 2 0), (4, pv 1 0), (0, iv x), (1, sv 0 0 3 3)], [cr [uv a1, uv b1, uv a2, uv b2, uv a3, uv b3], cw [iv 0, uv 0, uv 0, uv 0, uv 0, uv 0, uv 0], cw [uv a1, uv b1, uv 0, uv 0, uv 0, uv 0]]⟩) ∨ (μ = 1 ∧ s = ⟨reg [(6, iv 2), (5, pv 2 0), (4, pv 1 0), (0, iv x), (1, sv 0 0 3 3)], [cr [uv a1, uv b1, uv a2, uv b2, uv a3, uv b3], cw [iv 0, uv 0, uv 0, uv 0, uv 0, uv 0, uv 0], cw [uv a1, uv b1, uv a2, uv b2, uv 0, uv 0]]⟩) ∨ (μ = 0 ∧ s = ⟨reg [(6, iv 3), (5, pv 2 0), (4, pv 1 0), (0, iv x), (1, sv 0 0 3 3)], [cr [uv a1, uv b1, uv a2, uv b2, uv a3, uv b3], cw [iv 0, uv 0, uv 0, uv 0, uv 0, uv 0, uv 0], cw [uv a1, uv b1, uv a2, uv b2, uv a3, uv b3]]⟩)) ⟨3, ?_⟩ ?_))))
 ·skip
  refine ⟨⟨reg [(6, iv 0), (5, pv 2 0), (4, pv 1 0), (0, iv x), (1, sv 0 0 3 3)], [cr [uv a1, uv b1, uv a2, uv b2, uv a3, uv b3], cw [iv 0, uv 0, uv 0, uv 0, uv 0, uv 0, uv 0], cw [uv 0, uv 0, uv 0, uv 0, uv 0, uv 0]]⟩, ?_⟩
  refine ⟨?_, ?_⟩
  ·exact Wk.ren [0, 1, 2] rfl rfl (by decide) ⟨rfl, ⟨rfl, ⟨rfl, ⟨rfl, ⟨rfl, trivial⟩⟩⟩⟩⟩ ⟨.inl rfl, ⟨.inl rfl, ⟨.inl rfl, trivial⟩⟩⟩
  ·exact .inl ⟨rfl, rfl⟩
 ·rintro μ s (⟨rfl, rfl⟩ | ⟨rfl, rfl⟩ | ⟨rfl, rfl⟩ | ⟨rfl, rfl⟩)
  ·skip
   refine zR (zR (zV (o_d 8 [(14, bv true), (13, bv true), (12, iv 0), (11, bv true), (10, bv true), (9, iv 3), (8, sv 0 0 3 3), (7, iv 0)] (by kernel_rfl) (zG (zC (zer rfl (zaq (zC (zR (zai (zV (o_b 7 [(22, pv 2 0), (21, .agg #[uv a1, uv b1]), (20, pv 0 0), (19, iv 0), (18, sv 0 0 3 3), (17, iv 0)] [cr [uv a1, uv b1, uv a2, uv b2, uv a3, uv b3], cw [iv 0, uv 0, uv 0, uv 0, uv 0, uv 0, uv 0], cw [uv a1, uv b1, uv 0, uv 0, uv 0, uv 0]] (by kernel_rfl) ?_))))))))))))
   refine zG (zC (zV (o_d 3 [(6, iv 1), (16, iv 1), (15, iv 0)] (by kernel_rfl) (zG (⟨2, ?_⟩)))))
   refine ⟨⟨reg [(6, iv 1), (5, pv 2 0), (4, pv 1 0), (0, iv x), (1, sv 0 0 3 3)], [cr [uv a1, uv b1, uv a2, uv b2, uv a3, uv b3], cw [iv 0, uv 0, uv 0, uv 0, uv 0, uv 0, uv 0], cw [uv a1, uv b1, uv 0, uv 0, uv 0, uv 0]]⟩, ?_⟩
   refine zf2 (by decide) ⟨?_, ?_⟩
   ·exact Wk.ren [0, 1, 2] rfl rfl (by decide) ⟨rfl, ⟨rfl, ⟨rfl, ⟨rfl, ⟨rfl, trivial⟩⟩⟩⟩⟩ ⟨.inl rfl, ⟨.inl rfl, ⟨.inl rfl, trivial⟩⟩⟩
   ·exact .inr (.inl ⟨rfl, rfl⟩)
  ·skip
   refine zR (zR (zV (o_d 8 [(14, bv true), (13, bv true), (12, iv 1), (11, bv true), (10, bv true), (9, iv 3), (8, sv 0 0 3 3), (7, iv 1)] (by kernel_rfl) (zG (zC (zer rfl (zaq (zC (zR (zai (zV (o_b 7 [(22, pv 2 2), (21, .agg #[uv a2, uv b2]), (20, pv 0 2), (19, iv 1), (18, sv 0 0 3 3), (17, iv 1)] [cr [uv a1, uv b1, uv a2, uv b2, uv a3, uv b3], cw [iv 0, uv 0, uv 0, uv 0, uv 0, uv 0, uv 0], cw [uv a1, uv b1, uv a2, uv b2, uv 0, uv 0]] (by kernel_rfl) ?_))))))))))))
   refine zG (zC (zV (o_d 3 [(6, iv 2), (16, iv 2), (15, iv 1)] (by kernel_rfl) (zG (⟨1, ?_⟩)))))
   refine ⟨⟨reg [(6, iv 2), (5, pv 2 0), (4, pv 1 0), (0, iv x), (1, sv 0 0 3 3)], [cr [uv a1, uv b1, uv a2, uv b2, uv a3, uv b3], cw [iv 0, uv 0, uv 0, uv 0, uv 0, uv 0, uv 0], cw [uv a1, uv b1, uv a2, uv b2, uv 0, uv 0]]⟩, ?_⟩
   refine zf2 (by decide) ⟨?_, ?_⟩
   ·exact Wk.ren [0, 1, 2] rfl rfl (by decide) ⟨rfl, ⟨rfl, ⟨rfl, ⟨rfl, ⟨rfl, trivial⟩⟩⟩⟩⟩ ⟨.inl rfl, ⟨.inl rfl, ⟨.inl rfl, trivial⟩⟩⟩
   ·exact .inr (.inr (.inl ⟨rfl, rfl⟩))
  ·skip
   refine zR (zR (zV (o_d 8 [(14, bv true), (13, bv true), (12, iv 2), (11, bv true), (10, bv true), (9, iv 3), (8, sv 0 0 3 3), (7, iv 2)] (by kernel_rfl) (zG (zC (zer rfl (zaq (zC (zR (zai (zV (o_b 7 [(22, pv 2 4), (21, .agg #[uv a3, uv b3]), (20, pv 0 4), (19, iv 2), (18, sv 0 0 3 3), (17, iv 2)] [cr [uv a1, uv b1, uv a2, uv b2, uv a3, uv b3], cw [iv 0, uv 0, uv 0, uv 0, uv 0, uv 0, uv 0], cw [uv a1, uv b1, uv a2, uv b2, uv a3, uv b3]] (by kernel_rfl) ?_))))))))))))
   refine zG (zC (zV (o_d 3 [(6, iv 3), (16, iv 3), (15, iv 2)] (by kernel_rfl) (zG (⟨0, ?_⟩)))))
   refine ⟨⟨reg [(6, iv 3), (5, pv 2 0), (4, pv 1 0), (0, iv x), (1, sv 0 0 3 3)], [cr [uv a1, uv b1, uv a2, uv b2, uv a3, uv b3], cw [iv 0, uv 0, uv 0, uv 0, uv 0, uv 0, uv 0], cw [uv a1, uv b1, uv a2, uv b2, uv a3, uv b3]]⟩, ?_⟩
   refine zf2 (by decide) ⟨?_, ?_⟩
   ·exact Wk.ren [0, 1, 2] rfl rfl (by decide) ⟨rfl, ⟨rfl, ⟨rfl, ⟨rfl, ⟨rfl, trivial⟩⟩⟩⟩⟩ ⟨.inl rfl, ⟨.inl rfl, ⟨.inl rfl, trivial⟩⟩⟩
   ·exact .inr (.inr (.inr (⟨rfl, rfl⟩)))
  ·skip
   refine zR (zR (zV (o_d 8 [(14, bv false), (13, undef), (12, undef), (11, bv false), (10, bv false), (9, iv 3), (8, sv 0 0 3 3), (7, iv 3)] (by kernel_rfl) (zG (zC (zbW rfl (zcD (zC (zR (zV (o_b 9 [(30, .agg #[iv x, uv a1, uv b1, uv a2, uv b2, uv a3, uv b3]), (29, .agg #[uv a3, uv b3]), (28, pv 2 4), (27, .agg #[uv a2, uv b2]), (26, pv 2 2), (25, .agg #[uv a1, uv b1]), (24, pv 2 0), (23, iv x)] [cr [uv a1, uv b1, uv a2, uv b2, uv a3, uv b3], cw [iv x, uv a1, uv b1, uv a2, uv b2, uv a3, uv b3], cw [uv a1, uv b1, uv a2, uv b2, uv a3, uv b3]] (by kernel_rfl) (zG ?_))))))))))))
   exact zC (zaZ (qH [.agg #[iv x, uv a1, uv b1, uv a2, uv b2, uv a3, uv b3]] (zaS rfl rfl rfl rfl) rfl (by rfl) rfl rfl))
theorem refHeldC {P : Program} (hc : zeo P) (c : qL) (a p : Int) :
  Env P "roundhouse/roundhouseref6.Held" [qG c, iv a, iv p] ([]) (Ans (.bool (zeK c a p)) ([])) := by
 refine Env.by hc ?_
 unfold zgO
 show GC _ 0 _ _ ⟨reg [(0, qG c), (1, iv a), (2, iv p)], []⟩
 refine zR (zV (o_b 2 [(6, bv false), (3, pv 0 0)] [cw (pl c)] (by kernel_rfl) (zG (zC (zR (zR (zV (o_d 1 [(7, iv 0)] (by kernel_rfl) (zG (zC (zai (zdm (fun μ s => ∃ (i : Nat), μ = 64 - i ∧ (i ≤ 64) ∧ (zeq c a p i = false) ∧ s = ⟨reg [(7, iv (i : Int)), (3, pv 0 0), (1, iv a), (2, iv p)], [cw (pl c)]⟩) ⟨(64 - 0), ?_⟩ ?_))))))))))))
 ·skip
  refine ⟨⟨reg [(7, iv (0 : Int)), (3, pv 0 0), (1, iv a), (2, iv p)], [cw (pl c)]⟩, ?_⟩
  refine ⟨?_, ?_⟩
  ·exact Wk.ren [0] rfl rfl (by decide) ⟨rfl, ⟨rfl, ⟨rfl, ⟨rfl, trivial⟩⟩⟩⟩ ⟨.inl (zQ (zaH c)), trivial⟩
  ·exact ⟨0, rfl, by omega, rfl, rfl⟩
 rintro μ s ⟨i, rfl, hi, hto, rfl⟩
 refine zR (zR (zV (o_d 2 [(10, bv (decide ((i : Int) < 64))), (9, iv (i : Int))] (by kernel_rfl) (zG (zC (zaj (t := decide ((i : Int) < 64)) rfl (fun h1 => ?_) (fun h1 => ?_)))))))
 ·skip
  have h1' : (i : Int) < 64 := of_decide_eq_true h1
  refine zaq (zC (zR (zai (zR (zV (o_d 2 [(14, pv 0 3), (13, iv (i : Int))] (by kernel_rfl) (o_s (by exact zch (o := 3) (o' := 3 + 5 * i) rfl rfl (by omega) (by omega)) ?_)))))))
  refine o_s (by refine z4 (v := .agg #[iv (c (3 + 5 * i)), iv (c (3 + 5 * i + 1)), iv (c (3 + 5 * i + 2)), iv (c (3 + 5 * i + 3)), iv (c (3 + 5 * i + 4))]) rfl rfl ?_; exact pl_rS c i (by omega) (by omega)) ?_
  refine o_b 2 [(8, pv 1 0)] [cw (pl c), cw [iv (c (3 + 5 * i)), iv (c (3 + 5 * i + 1)), iv (c (3 + 5 * i + 2)), iv (c (3 + 5 * i + 3)), iv (c (3 + 5 * i + 4))]] (by kernel_rfl) (zG (zC (zR (zV (o_d 4 [(20, bv ((c (3 + 5 * i)) != 0)), (19, bv ((c (3 + 5 * i)) != 0)), (18, iv (c (3 + 5 * i))), (17, pv 1 0)] (by kernel_rfl) (zir (b := (c (3 + 5 * i)) != 0) 20 rfl (fun h2 => ?_) (fun h2 => ?_)))))))
  ·skip
   have h2' : c (3 + 5 * i) ≠ 0 := zjt h2
   refine o_d 6 [(26, bv ((c (3 + 5 * i + 1)) == a)), (25, bv ((c (3 + 5 * i + 1)) == a)), (24, bv ((c (3 + 5 * i + 1)) == a)), (23, iv a), (22, iv (c (3 + 5 * i + 1))), (21, pv 1 1)] (by kernel_rfl) (zir (b := (c (3 + 5 * i + 1)) == a) 26 rfl (fun h3 => ?_) (fun h3 => ?_))
   ·skip
    have h3' : c (3 + 5 * i + 1) = a := zcf h3
    refine o_d 5 [(31, bv ((c (3 + 5 * i + 2)) == p)), (30, bv ((c (3 + 5 * i + 2)) == p)), (29, iv p), (28, iv (c (3 + 5 * i + 2))), (27, pv 1 2)] (by kernel_rfl) (zG (z5 [(31, bv ((c (3 + 5 * i + 2)) == p)), (7, iv (i : Int)), (3, pv 0 0), (1, iv a), (2, iv p)] (by kernel_rfl) (zaj (t := (c (3 + 5 * i + 2)) == p) rfl (fun h4 => ?_) (fun h4 => ?_))))
    ·skip
     have h4' : c (3 + 5 * i + 2) = p := zcf h4
     refine zR (zV (o_d 1 [(6, bv true)] (by kernel_rfl) (zG (zC (zaZ ?_)))))
     have E0_ : zeK c a p = true := by
      simp [zeK, zi3 c a p (i := i) (n := 64) (by omega) (by simp [zds, h1, h1', h2, h2', h3, h3', h4, h4'])]
     exact qH [bv true] (qE rfl rfl) rfl (by rw [E0_]; rfl) rfl rfl
    have h4' : ¬ (c (3 + 5 * i + 2) = p) := zcg h4
    refine zaq (zC (zV (o_d 1 [(11, iv (i : Int))] (by kernel_rfl) (o_s (by refine zaf (v := .int .i64 (i64.wrap ((i : Int) + 1))) (congrArg (Value.int .i64) (w64 (by omega) (by omega))) ?_; kernel_rfl) ?_))))
    refine o_d 1 [(7, iv ((i : Int) + 1))] (by kernel_rfl) (zG (⟨64 - (i + 1), ?_⟩))
    refine ⟨⟨reg [(7, iv ((i + 1) : Int)), (3, pv 0 0), (1, iv a), (2, iv p)], [cw (pl c)]⟩, ?_⟩
    refine zf2 (by omega) ⟨?_, ?_⟩
    ·exact Wk.ren [0] rfl rfl (by decide) ⟨rfl, ⟨rfl, ⟨rfl, ⟨rfl, trivial⟩⟩⟩⟩ ⟨.inl (zQ (zaH c)), trivial⟩
    ·exact ⟨(i + 1), rfl, by omega, (by simp [zeq, hto, zds, h1, h1', h2, h2', h3, h3', h4, h4']), rfl⟩
   have h3' : ¬ (c (3 + 5 * i + 1) = a) := zcg h3
   refine o_d 5 [(31, bv false), (30, undef), (29, undef), (28, undef), (27, undef)] (by kernel_rfl) (zG (z5 [(31, bv false), (7, iv (i : Int)), (3, pv 0 0), (1, iv a), (2, iv p)] (by kernel_rfl) (zbW rfl (zaq (zC (zV (o_d 1 [(11, iv (i : Int))] (by kernel_rfl) (o_s (by refine zaf (v := .int .i64 (i64.wrap ((i : Int) + 1))) (congrArg (Value.int .i64) (w64 (by omega) (by omega))) ?_; kernel_rfl) ?_))))))))
   refine o_d 1 [(7, iv ((i : Int) + 1))] (by kernel_rfl) (zG (⟨64 - (i + 1), ?_⟩))
   refine ⟨⟨reg [(7, iv ((i + 1) : Int)), (3, pv 0 0), (1, iv a), (2, iv p)], [cw (pl c)]⟩, ?_⟩
   refine zf2 (by omega) ⟨?_, ?_⟩
   ·exact Wk.ren [0] rfl rfl (by decide) ⟨rfl, ⟨rfl, ⟨rfl, ⟨rfl, trivial⟩⟩⟩⟩ ⟨.inl (zQ (zaH c)), trivial⟩
   ·exact ⟨(i + 1), rfl, by omega, (by simp [zeq, hto, zds, h1, h1', h2, h2', h3, h3']), rfl⟩
  have h2' : ¬ (c (3 + 5 * i) ≠ 0) := zju h2
  refine o_d 11 [(31, bv false), (30, undef), (29, undef), (28, undef), (27, undef), (26, bv false), (25, bv false), (24, undef), (23, undef), (22, undef), (21, undef)] (by kernel_rfl) (zG (z5 [(31, bv false), (7, iv (i : Int)), (3, pv 0 0), (1, iv a), (2, iv p)] (by kernel_rfl) (zbW rfl (zaq (zC (zV (o_d 1 [(11, iv (i : Int))] (by kernel_rfl) (o_s (by refine zaf (v := .int .i64 (i64.wrap ((i : Int) + 1))) (congrArg (Value.int .i64) (w64 (by omega) (by omega))) ?_; kernel_rfl) ?_))))))))
  refine o_d 1 [(7, iv ((i : Int) + 1))] (by kernel_rfl) (zG (⟨64 - (i + 1), ?_⟩))
  refine ⟨⟨reg [(7, iv ((i + 1) : Int)), (3, pv 0 0), (1, iv a), (2, iv p)], [cw (pl c)]⟩, ?_⟩
  refine zf2 (by omega) ⟨?_, ?_⟩
  ·exact Wk.ren [0] rfl rfl (by decide) ⟨rfl, ⟨rfl, ⟨rfl, ⟨rfl, trivial⟩⟩⟩⟩ ⟨.inl (zQ (zaH c)), trivial⟩
  ·exact ⟨(i + 1), rfl, by omega, (by simp [zeq, hto, zds, h1, h1', h2, h2']), rfl⟩
 have h1' : ¬ ((i : Int) < 64) := of_decide_eq_false h1
 refine zcD (zC (zR (zV (o_d 1 [(32, pv 0 1)] (by kernel_rfl) (o_s (by refine z4 (v := iv (c 1)) rfl rfl ?_; exact pl_r c 1 rfl (by omega)) ?_)))))
 refine o_d 3 [(36, bv ((c 1) == a)), (35, bv ((c 1) == a)), (34, iv a)] (by kernel_rfl) (zir (b := (c 1) == a) 36 rfl (fun h5 => ?_) (fun h5 => ?_))
 ·skip
  have h5' : c 1 = a := zcf h5
  refine o_d 1 [(37, pv 0 2)] (by kernel_rfl) (zb6 rfl (o_s (by refine z4 (v := iv (c 2)) rfl rfl ?_; exact pl_r c 2 rfl (by omega)) ?_))
  refine o_d 4 [(6, bv ((c 2) == p)), (41, bv ((c 2) == p)), (40, bv ((c 2) == p)), (39, iv p)] (by kernel_rfl) (zG (zC (zaZ ?_)))
  have E0_ : zeK c a p = ((c 2) == p) := by
   have hi' : i = 64 := by omega
   subst hi'
   simp [zeK, hto, h1, h1', h5, h5'] <;> rfl
  exact qH [bv ((c 2) == p)] (qE rfl rfl) rfl (by rw [E0_]; rfl) rfl rfl
 have h5' : ¬ (c 1 = a) := zcg h5
 refine o_d 6 [(6, bv false), (41, bv false), (40, undef), (39, undef), (38, undef), (37, undef)] (by kernel_rfl) (zG (zC (zaZ ?_)))
 have E0_ : zeK c a p = false := by
  have hi' : i = 64 := by omega
  subst hi'
  simp [zeK, hto, h1, h1', h5, h5'] <;> rfl
 exact qH [bv false] (qE rfl rfl) rfl (by rw [E0_]; rfl) rfl rfl
theorem refBadC {P : Program} (hc : zgf P) (h_ref6_Held : zeo P) (c : qL) (e : Ent) (hs : 0 ≤ e.s ∧ e.s < 64) :
  Env P "roundhouse/roundhouseref6.bad" [qG c, .agg #[iv e.k, iv e.s, iv e.a, iv e.p, iv e.g, uv e.ka, uv e.kb]] ([]) (Ans (.bool (zci c e)) ([])) := by
 refine Env.by hc ?_
 unfold zhU
 show GC _ 0 _ _ ⟨reg [(0, qG c), (1, .agg #[iv e.k, iv e.s, iv e.a, iv e.p, iv e.g, uv e.ka, uv e.kb])], []⟩
 refine zR (zV (o_b 3 [(4, bv false), (3, pv 1 0), (2, pv 0 0)] [cw (pl c), cw [iv e.k, iv e.s, iv e.a, iv e.p, iv e.g, uv e.ka, uv e.kb]] (by kernel_rfl) (zG (zC (zR (zV (o_d 3 [(8, pv 0 3), (7, iv e.s), (6, pv 1 1)] (by kernel_rfl) (o_s (by exact zch (o := 3) (o' := 3 + 5 * e.s.toNat) rfl rfl (by omega) (by omega)) ?_))))))))
 refine o_s (by refine ze8 (o' := 3 + 5 * e.s.toNat) rfl (by omega)) ?_
 refine o_s (by refine z4 (v := iv (c (3 + 5 * e.s.toNat))) rfl rfl ?_; exact pl_r c (3 + 5 * e.s.toNat) (by omega) (by omega)) ?_
 refine o_d 1 [(5, iv (c (3 + 5 * e.s.toNat)))] (by kernel_rfl) (zG (zC (zR (zR (zV (o_d 2 [(13, iv e.k), (12, pv 1 0)] (by kernel_rfl) (zG (zC (zai (zR (zV (o_d 2 [(14, bv (e.k == 1)), (15, bv (e.k == 1))] (by kernel_rfl) ?_))))))))))))
 refine zG (zC (zaj (t := e.k == 1) rfl (fun h1 => ?_) (fun h1 => ?_)))
 ·skip
  have h1' : e.k = 1 := zcf h1
  refine zR (zV (o_d 3 [(18, bv ((c (3 + 5 * e.s.toNat)) != 0)), (17, bv ((c (3 + 5 * e.s.toNat)) != 0)), (16, iv (c (3 + 5 * e.s.toNat)))] (by kernel_rfl) (zir (b := (c (3 + 5 * e.s.toNat)) != 0) 18 rfl (fun h2 => ?_) (fun h2 => ?_))))
  ·skip
   have h2' : c (3 + 5 * e.s.toNat) ≠ 0 := zjt h2
   refine o_d 8 [(4, bv true), (25, bv true), (24, undef), (23, undef), (22, undef), (21, undef), (20, undef), (19, undef)] (by kernel_rfl) (zG (z5 [(4, bv true)] (by kernel_rfl) (zaZ ?_)))
   have E0_ : zci c e = true := by
    first | (simp [zci, h1, h1', h2, h2']; done) | (simp [zci, h1, h1', h2, h2'] <;> rfl) | (rw [Bool.eq_iff_iff]; simp [zci, h1, h1', h2, h2']; done) | (rw [Bool.eq_iff_iff]; simp [zci, h1, h1', h2, h2']; omega) | (simp [zci, h1, h1', h2, h2']; omega)
   exact qH [bv true] (qE rfl rfl) rfl (by rw [E0_]; rfl) rfl rfl
  have h2' : ¬ (c (3 + 5 * e.s.toNat) ≠ 0) := zju h2
  refine zb6 rfl (o_s (by refine z4 (v := qG c) rfl rfl ?_; exact zal c) ?_)
  refine o_d 4 [(23, iv e.p), (22, pv 1 3), (21, iv e.a), (20, pv 1 2)] (by kernel_rfl) (zb6 rfl (zcc (zc7 (refHeldC h_ref6_Held c e.a e.p) rfl (all_cons (zaG c) (all_cons rfl (all_cons rfl rfl))) rfl (o_d 2 [(4, bv (zeK c e.a e.p)), (25, bv (zeK c e.a e.p))] (by kernel_rfl) (zG (z5 [(4, bv (zeK c e.a e.p))] (by kernel_rfl) (zaZ ?_)))))))
  have E0_ : zci c e = (zeK c e.a e.p) := by
   first | (simp [zci, h1, h1', h2, h2']; done) | (simp [zci, h1, h1', h2, h2'] <;> rfl) | (rw [Bool.eq_iff_iff]; simp [zci, h1, h1', h2, h2']; done) | (rw [Bool.eq_iff_iff]; simp [zci, h1, h1', h2, h2']; omega) | (simp [zci, h1, h1', h2, h2']; omega)
  exact qH [bv (zeK c e.a e.p)] (qE rfl rfl) rfl (by rw [E0_]; rfl) rfl rfl
 have h1' : ¬ (e.k = 1) := zcg h1
 refine zR (zR (zV (o_d 2 [(26, bv (e.k == 2)), (27, bv (e.k == 2))] (by kernel_rfl) (zG (zC (zaj (t := e.k == 2) rfl (fun h3 => ?_) (fun h3 => ?_)))))))
 ·skip
  have h3' : e.k = 2 := zcf h3
  refine zaq (zC (zaj (t := e.k == 2) rfl (fun _ => ?_) (fun q => by rw [h3] at q; cases q)))
  refine zR (zV (o_d 3 [(31, bv ((c (3 + 5 * e.s.toNat)) != 1)), (30, bv ((c (3 + 5 * e.s.toNat)) != 1)), (29, iv (c (3 + 5 * e.s.toNat)))] (by kernel_rfl) (zir (b := (c (3 + 5 * e.s.toNat)) != 1) 31 rfl (fun h4 => ?_) (fun h4 => ?_))))
  ·skip
   have h4' : c (3 + 5 * e.s.toNat) ≠ 1 := zjt h4
   refine o_d 4 [(4, bv ((c (3 + 5 * e.s.toNat)) != 3)), (34, bv ((c (3 + 5 * e.s.toNat)) != 3)), (33, bv ((c (3 + 5 * e.s.toNat)) != 3)), (32, iv (c (3 + 5 * e.s.toNat)))] (by kernel_rfl) (zG (z5 [(4, bv ((c (3 + 5 * e.s.toNat)) != 3))] (by kernel_rfl) (zaZ ?_)))
   have E0_ : zci c e = ((c (3 + 5 * e.s.toNat)) != 3) := by
    first | (simp [zci, h1, h1', h3, h3', h4, h4']; done) | (simp [zci, h1, h1', h3, h3', h4, h4'] <;> rfl) | (rw [Bool.eq_iff_iff]; simp [zci, h1, h1', h3, h3', h4, h4']; done) | (rw [Bool.eq_iff_iff]; simp [zci, h1, h1', h3, h3', h4, h4']; omega) | (simp [zci, h1, h1', h3, h3', h4, h4']; omega)
   exact qH [bv ((c (3 + 5 * e.s.toNat)) != 3)] (qE rfl rfl) rfl (by rw [E0_]; rfl) rfl rfl
  have h4' : ¬ (c (3 + 5 * e.s.toNat) ≠ 1) := zju h4
  refine o_d 4 [(4, bv false), (34, bv false), (33, undef), (32, undef)] (by kernel_rfl) (zG (z5 [(4, bv false)] (by kernel_rfl) (zaZ ?_)))
  have E0_ : zci c e = false := by
   first | (simp [zci, h1, h1', h3, h3', h4, h4']; done) | (simp [zci, h1, h1', h3, h3', h4, h4'] <;> rfl) | (rw [Bool.eq_iff_iff]; simp [zci, h1, h1', h3, h3', h4, h4']; done) | (rw [Bool.eq_iff_iff]; simp [zci, h1, h1', h3, h3', h4, h4']; omega) | (simp [zci, h1, h1', h3, h3', h4, h4']; omega)
  exact qH [bv false] (qE rfl rfl) rfl (by rw [E0_]; rfl) rfl rfl
 have h3' : ¬ (e.k = 2) := zcg h3
 refine zV (o_d 2 [(26, bv (e.k == 4)), (28, bv (e.k == 4))] (by kernel_rfl) (zG (zC (zaj (t := e.k == 4) rfl (fun h5 => ?_) (fun h5 => ?_)))))
 ·skip
  have h5' : e.k = 4 := zcf h5
  refine zR (zV (o_d 3 [(31, bv ((c (3 + 5 * e.s.toNat)) != 1)), (30, bv ((c (3 + 5 * e.s.toNat)) != 1)), (29, iv (c (3 + 5 * e.s.toNat)))] (by kernel_rfl) (zir (b := (c (3 + 5 * e.s.toNat)) != 1) 31 rfl (fun h6 => ?_) (fun h6 => ?_))))
  ·skip
   have h6' : c (3 + 5 * e.s.toNat) ≠ 1 := zjt h6
   refine o_d 4 [(4, bv ((c (3 + 5 * e.s.toNat)) != 3)), (34, bv ((c (3 + 5 * e.s.toNat)) != 3)), (33, bv ((c (3 + 5 * e.s.toNat)) != 3)), (32, iv (c (3 + 5 * e.s.toNat)))] (by kernel_rfl) (zG (z5 [(4, bv ((c (3 + 5 * e.s.toNat)) != 3))] (by kernel_rfl) (zaZ ?_)))
   have E0_ : zci c e = ((c (3 + 5 * e.s.toNat)) != 3) := by
    first | (simp [zci, h1, h1', h3, h3', h5, h5', h6, h6']; done) | (simp [zci, h1, h1', h3, h3', h5, h5', h6, h6'] <;> rfl) | (rw [Bool.eq_iff_iff]; simp [zci, h1, h1', h3, h3', h5, h5', h6, h6']; done) | (rw [Bool.eq_iff_iff]; simp [zci, h1, h1', h3, h3', h5, h5', h6, h6']; omega) | (simp [zci, h1, h1', h3, h3', h5, h5', h6, h6']; omega)
   exact qH [bv ((c (3 + 5 * e.s.toNat)) != 3)] (qE rfl rfl) rfl (by rw [E0_]; rfl) rfl rfl
  have h6' : ¬ (c (3 + 5 * e.s.toNat) ≠ 1) := zju h6
  refine o_d 4 [(4, bv false), (34, bv false), (33, undef), (32, undef)] (by kernel_rfl) (zG (z5 [(4, bv false)] (by kernel_rfl) (zaZ ?_)))
  have E0_ : zci c e = false := by
   first | (simp [zci, h1, h1', h3, h3', h5, h5', h6, h6']; done) | (simp [zci, h1, h1', h3, h3', h5, h5', h6, h6'] <;> rfl) | (rw [Bool.eq_iff_iff]; simp [zci, h1, h1', h3, h3', h5, h5', h6, h6']; done) | (rw [Bool.eq_iff_iff]; simp [zci, h1, h1', h3, h3', h5, h5', h6, h6']; omega) | (simp [zci, h1, h1', h3, h3', h5, h5', h6, h6']; omega)
  exact qH [bv false] (qE rfl rfl) rfl (by rw [E0_]; rfl) rfl rfl
 have h5' : ¬ (e.k = 4) := zcg h5
 refine zR (zV (o_d 2 [(35, bv (e.k == 3)), (36, bv (e.k == 3))] (by kernel_rfl) (zG (zC (zaj (t := e.k == 3) rfl (fun h7 => ?_) (fun h7 => ?_))))))
 ·skip
  have h7' : e.k = 3 := zcf h7
  refine zR (zV (o_d 3 [(4, bv ((c (3 + 5 * e.s.toNat)) != 2)), (38, bv ((c (3 + 5 * e.s.toNat)) != 2)), (37, iv (c (3 + 5 * e.s.toNat)))] (by kernel_rfl) (zG (z5 [(4, bv ((c (3 + 5 * e.s.toNat)) != 2))] (by kernel_rfl) (zaZ ?_)))))
  have E0_ : zci c e = ((c (3 + 5 * e.s.toNat)) != 2) := by
   first | (simp [zci, h1, h1', h3, h3', h5, h5', h7, h7']; done) | (simp [zci, h1, h1', h3, h3', h5, h5', h7, h7'] <;> rfl) | (rw [Bool.eq_iff_iff]; simp [zci, h1, h1', h3, h3', h5, h5', h7, h7']; done) | (rw [Bool.eq_iff_iff]; simp [zci, h1, h1', h3, h3', h5, h5', h7, h7']; omega) | (simp [zci, h1, h1', h3, h3', h5, h5', h7, h7']; omega)
  exact qH [bv ((c (3 + 5 * e.s.toNat)) != 2)] (qE rfl rfl) rfl (by rw [E0_]; rfl) rfl rfl
 have h7' : ¬ (e.k = 3) := zcg h7
 refine zR (zV (o_d 2 [(39, bv (e.k == 5)), (40, bv (e.k == 5))] (by kernel_rfl) (zG (z5 [(39, bv (e.k == 5)), (5, iv (c (3 + 5 * e.s.toNat)))] (by kernel_rfl) (zaj (t := e.k == 5) rfl (fun h8 => ?_) (fun h8 => ?_))))))
 ·skip
  have h8' : e.k = 5 := zcf h8
  refine zR (zV (o_d 3 [(4, bv ((c (3 + 5 * e.s.toNat)) != 4)), (42, bv ((c (3 + 5 * e.s.toNat)) != 4)), (41, iv (c (3 + 5 * e.s.toNat)))] (by kernel_rfl) (zG (zC (zaZ ?_)))))
  have E0_ : zci c e = ((c (3 + 5 * e.s.toNat)) != 4) := by
   first | (simp [zci, h1, h1', h3, h3', h5, h5', h7, h7', h8, h8']; done) | (simp [zci, h1, h1', h3, h3', h5, h5', h7, h7', h8, h8'] <;> rfl) | (rw [Bool.eq_iff_iff]; simp [zci, h1, h1', h3, h3', h5, h5', h7, h7', h8, h8']; done) | (rw [Bool.eq_iff_iff]; simp [zci, h1, h1', h3, h3', h5, h5', h7, h7', h8, h8']; omega) | (simp [zci, h1, h1', h3, h3', h5, h5', h7, h7', h8, h8']; omega)
  exact qH [bv ((c (3 + 5 * e.s.toNat)) != 4)] (qE rfl rfl) rfl (by rw [E0_]; rfl) rfl rfl
 have h8' : ¬ (e.k = 5) := zcg h8
 refine zaq (zC (zR (zV (o_d 1 [(4, bv false)] (by kernel_rfl) (zG (zC (zaZ ?_)))))))
 have E0_ : zci c e = false := by
  first | (simp [zci, h1, h1', h3, h3', h5, h5', h7, h7', h8, h8']; done) | (simp [zci, h1, h1', h3, h3', h5, h5', h7, h7', h8, h8'] <;> rfl) | (rw [Bool.eq_iff_iff]; simp [zci, h1, h1', h3, h3', h5, h5', h7, h7', h8, h8']; done) | (rw [Bool.eq_iff_iff]; simp [zci, h1, h1', h3, h3', h5, h5', h7, h7', h8, h8']; omega) | (simp [zci, h1, h1', h3, h3', h5, h5', h7, h7', h8, h8']; omega)
 exact qH [bv false] (qE rfl rfl) rfl (by rw [E0_]; rfl) rfl rfl
theorem refApplyC {P : Program} (hc : zfI P) (h_ref6_Check : zeF P) (h_ref6_out : zdw P) (h_ref6_bad : zgf P) (h_ref6_Held : zeo P) (h_ref5_Next : zfe P) (c : qL) (e : Ent) :
  Env P "roundhouse/roundhouseref6.Apply" [qG c, .agg #[iv e.k, iv e.s, iv e.a, iv e.p, iv e.g, uv e.ka, uv e.kb]] ([]) (Ans (.tuple #[qG (zO c e).1, .int .i64 (zO c e).2]) ([])) := by
 refine Env.by hc ?_
 unfold zfQ
 show GC _ 0 _ _ ⟨reg [(0, qG c), (1, .agg #[iv e.k, iv e.s, iv e.a, iv e.p, iv e.g, uv e.ka, uv e.kb])], []⟩
 refine zR (zV (o_b 4 [(5, iv 0), (4, pv 2 0), (3, pv 1 0), (2, pv 0 0)] [cw (pl c), cw [iv e.k, iv e.s, iv e.a, iv e.p, iv e.g, uv e.ka, uv e.kb], cw (pl zH)] (by kernel_rfl) (zG (zC (zR (zR (zV (o_d 1 [(8, .agg #[iv e.k, iv e.s, iv e.a, iv e.p, iv e.g, uv e.ka, uv e.kb])] (by kernel_rfl) (zcc (zc7 (refCheckC h_ref6_Check h_ref6_out e) rfl rfl rfl (o_d 1 [(6, iv (zaK e))] (by kernel_rfl) (zG ?_))))))))))))
 refine zC (zR (zV (o_d 2 [(11, bv ((zaK e) != 0)), (10, iv (zaK e))] (by kernel_rfl) (zG (zC (zaj (t := (zaK e) != 0) rfl (fun h1 => ?_) (fun h1 => ?_)))))))
 ·skip
  have h1' : zaK e ≠ 0 := zjt h1
  refine zR (zV (o_s (by refine zbZ (c := pl zH) ?_; exact zke) ?_))
  refine o_d 1 [(13, iv (zaK e))] (by kernel_rfl) (zc1 (by refine qQ (c' := pl zH) rfl rfl rfl ?_ ?_ ?_; exact zN _; exact zbU (by omega); exact qO zH zH) ?_)
  refine o_d 1 [(5, iv (zaK e))] (by kernel_rfl) (zG (zC (zaZ ?_)))
  have E0_ : zO c e = (zH, zaK e) := by
   first | (simp [zO, ze3, zbE, zaX, h1, h1']; done) | (simp [zO, ze3, zbE, zaX, h1, h1'] <;> rfl) | (rw [Bool.eq_iff_iff]; simp [zO, ze3, zbE, zaX, h1, h1']; done) | (rw [Bool.eq_iff_iff]; simp [zO, ze3, zbE, zaX, h1, h1']; omega) | (simp [zO, ze3, zbE, zaX, h1, h1']; omega)
  exact qH [qG zH, iv (zaK e)] (zaS rfl rfl (zal zH) (qE rfl rfl)) (all_cons (qZ zH) (all_cons rfl rfl)) (by rw [E0_]; rfl) rfl rfl
 have h1' : ¬ (zaK e ≠ 0) := zju h1
 have hs : 0 ≤ e.s ∧ e.s < 64 := check_s h1'
 have hk6 : 1 ≤ e.k ∧ e.k ≤ 6 := check_k h1'
 refine zaq (zC (zR (zR (zV (o_s (by refine z4 (v := qG c) rfl rfl ?_; exact zal c) ?_)))))
 refine o_d 1 [(15, .agg #[iv e.k, iv e.s, iv e.a, iv e.p, iv e.g, uv e.ka, uv e.kb])] (by kernel_rfl) (zcc (zc7 (refBadC h_ref6_bad h_ref6_Held c e hs) rfl (all_cons (zaG c) (all_cons rfl rfl)) rfl (zG (zC (zaj (t := zci c e) rfl (fun h2 => ?_) (fun h2 => ?_))))))
 ·skip
  refine zR (zV (o_s (by refine zbZ (c := pl zH) ?_; exact zke) ?_))
  refine zc1 (by refine qQ (c' := pl zH) rfl rfl rfl ?_ ?_ ?_; exact zN _; exact zbU (by omega); exact qO zH zH) ?_
  refine o_d 1 [(5, iv 12)] (by kernel_rfl) (zG (zC (zaZ ?_)))
  have E0_ : zO c e = (zH, 12) := by
   first | (simp [zO, ze3, zbE, zaX, h1, h1', h2]; done) | (simp [zO, ze3, zbE, zaX, h1, h1', h2] <;> rfl) | (rw [Bool.eq_iff_iff]; simp [zO, ze3, zbE, zaX, h1, h1', h2]; done) | (rw [Bool.eq_iff_iff]; simp [zO, ze3, zbE, zaX, h1, h1', h2]; omega) | (simp [zO, ze3, zbE, zaX, h1, h1', h2]; omega)
  exact qH [qG zH, iv 12] (zaS rfl rfl (zal zH) (qE rfl rfl)) (all_cons (qZ zH) (all_cons rfl rfl)) (by rw [E0_]; rfl) rfl rfl
 refine zaq (zC (gcut (fun s => 0 = 0 ∧ (e.k = 5 → ¬ (c 323 < i64.wrap (c (3 + 5 * e.s.toNat + 4) + 3))) ∧ s = ⟨reg [(4, pv 2 0), (3, pv 1 0), (2, pv 0 0)], [cw (pl c), cw [iv e.k, iv e.s, iv e.a, iv e.p, iv e.g, uv e.ka, uv e.kb], cw (pl zH)]⟩) ?_ ?_))
 ·skip
  refine zR (zdz [] (by kernel_rfl) (r_d 4 [(21, bv (e.k == 5)), (20, bv (e.k == 5)), (19, iv e.k), (18, pv 1 0)] (by kernel_rfl) (r_sp (b := e.k == 5) 21 rfl (fun h3 => ?_) (fun h3 => ?_))))
  ·skip
   have h3' : e.k = 5 := zcf h3
   refine r_d 2 [(23, pv 0 323), (22, pv 0 323)] (by kernel_rfl) (zfD rfl (r_s (by refine z4 (v := iv (c 323)) rfl rfl ?_; exact pl_r c 323 rfl (by omega)) ?_))
   refine r_d 3 [(27, pv 0 3), (26, iv e.s), (25, pv 1 1)] (by kernel_rfl) (zfD rfl (r_s (by exact zch (o := 3) (o' := 3 + 5 * e.s.toNat) rfl rfl (by omega) (by omega)) ?_))
   refine zfD rfl (r_s (by refine ze8 (o' := 7 + 5 * e.s.toNat) rfl (by omega)) ?_)
   refine zfD rfl (r_s (by refine z4 (v := iv (c (3 + 5 * e.s.toNat + 4))) rfl rfl ?_; exact pl_r c (3 + 5 * e.s.toNat + 4) (by omega) (by omega)) ?_)
   refine r_d 3 [(33, bv (decide (c 323 < i64.wrap (c (3 + 5 * e.s.toNat + 4) + 3)))), (32, bv (decide (c 323 < i64.wrap (c (3 + 5 * e.s.toNat + 4) + 3)))), (31, iv (i64.wrap (c (3 + 5 * e.s.toNat + 4) + 3)))] (by kernel_rfl) (zc6 (z5 [(33, bv (decide (c 323 < i64.wrap (c (3 + 5 * e.s.toNat + 4) + 3)))), (4, pv 2 0), (3, pv 1 0), (2, pv 0 0)] (by kernel_rfl) (zaj (t := decide (c 323 < i64.wrap (c (3 + 5 * e.s.toNat + 4) + 3))) rfl (fun h4 => ?_) (fun h4 => ?_))))
   ·skip
    have h4' : c 323 < i64.wrap (c (3 + 5 * e.s.toNat + 4) + 3) := of_decide_eq_true h4
    refine zR (zV (o_s (by refine zbZ (c := pl zH) ?_; exact zke) ?_))
    refine zc1 (by refine qQ (c' := pl zH) rfl rfl rfl ?_ ?_ ?_; exact zN _; exact zbU (by omega); exact qO zH zH) ?_
    refine o_d 1 [(5, iv 13)] (by kernel_rfl) (zG (zC (zaZ ?_)))
    have E0_ : zO c e = (zH, 13) := by
     first | (simp [zO, ze3, zbE, zaX, h1, h1', h2, h3, h3', h4, h4']; done) | (simp [zO, ze3, zbE, zaX, h1, h1', h2, h3, h3', h4, h4'] <;> rfl) | (rw [Bool.eq_iff_iff]; simp [zO, ze3, zbE, zaX, h1, h1', h2, h3, h3', h4, h4']; done) | (rw [Bool.eq_iff_iff]; simp [zO, ze3, zbE, zaX, h1, h1', h2, h3, h3', h4, h4']; omega) | (simp [zO, ze3, zbE, zaX, h1, h1', h2, h3, h3', h4, h4']; omega)
    exact qH [qG zH, iv 13] (zaS rfl rfl (zal zH) (qE rfl rfl)) (all_cons (qZ zH) (all_cons rfl rfl)) (by rw [E0_]; rfl) rfl rfl
   have h4' : ¬ (c 323 < i64.wrap (c (3 + 5 * e.s.toNat + 4) + 3)) := of_decide_eq_false h4
   refine zaq (⟨⟨reg [(4, pv 2 0), (3, pv 1 0), (2, pv 0 0)], [cw (pl c), cw [iv e.k, iv e.s, iv e.a, iv e.p, iv e.g, uv e.ka, uv e.kb], cw (pl zH)]⟩, ?_⟩)
   refine ⟨?_, ?_⟩
   ·exact Wk.ren [0, 1, 2] rfl rfl (by decide) ⟨rfl, ⟨rfl, ⟨rfl, trivial⟩⟩⟩ ⟨.inl (zQ (zaH c)), ⟨.inl rfl, ⟨.inl (zQ (zaH zH)), trivial⟩⟩⟩
   ·exact ⟨rfl, (fun q => by first | exact absurd q h3' | assumption), rfl⟩
  have h3' : ¬ (e.k = 5) := zcg h3
  refine r_d 12 [(33, bv false), (32, undef), (31, undef), (30, undef), (29, undef), (28, undef), (27, undef), (26, undef), (25, undef), (24, undef), (23, undef), (22, undef)] (by kernel_rfl) (zc6 (z5 [(33, bv false), (4, pv 2 0), (3, pv 1 0), (2, pv 0 0)] (by kernel_rfl) (zbW rfl (zaq (⟨⟨reg [(4, pv 2 0), (3, pv 1 0), (2, pv 0 0)], [cw (pl c), cw [iv e.k, iv e.s, iv e.a, iv e.p, iv e.g, uv e.ka, uv e.kb], cw (pl zH)]⟩, ?_⟩)))))
  refine ⟨?_, ?_⟩
  ·exact Wk.ren [0, 1, 2] rfl rfl (by decide) ⟨rfl, ⟨rfl, ⟨rfl, trivial⟩⟩⟩ ⟨.inl (zQ (zaH c)), ⟨.inl rfl, ⟨.inl (zQ (zaH zH)), trivial⟩⟩⟩
  ·exact ⟨rfl, (fun q => by first | exact absurd q h3' | assumption), rfl⟩
 rintro s ⟨-, hfit, rfl⟩
 refine gcut (fun s => ∃ (d : qL), 0 = 0 ∧ (d = upd c 0 (i64.wrap (c 0 + 1))) ∧ s = ⟨reg [(4, pv 2 0), (3, pv 1 0), (2, pv 0 0)], [cw (pl d), cw [iv e.k, iv e.s, iv e.a, iv e.p, iv e.g, uv e.ka, uv e.kb], cw (pl zH)]⟩) ?_ ?_
 ·skip
  refine zV (o_d 1 [(35, pv 0 0)] (by kernel_rfl) (o_s (by refine z4 (v := iv (c 0)) rfl rfl ?_; exact pl_r c 0 rfl (by omega)) ?_))
  refine o_d 2 [(38, pv 0 0), (37, iv (i64.wrap (c 0 + 1)))] (by kernel_rfl) (zc1 (by refine qQ (c' := pl (upd c 0 (i64.wrap (c 0 + 1)))) rfl rfl rfl ?_ ?_ ?_; exact rfl; exact zbU (by omega); exact pl_w c 0 (i64.wrap (c 0 + 1)) (by omega) (by omega)) ?_)
  refine zG (⟨⟨reg [(4, pv 2 0), (3, pv 1 0), (2, pv 0 0)], [cw (pl (upd c 0 (i64.wrap (c 0 + 1)))), cw [iv e.k, iv e.s, iv e.a, iv e.p, iv e.g, uv e.ka, uv e.kb], cw (pl zH)]⟩, ?_⟩)
  refine ⟨?_, ?_⟩
  ·exact Wk.ren [0, 1, 2] rfl rfl (by decide) ⟨rfl, ⟨rfl, ⟨rfl, trivial⟩⟩⟩ ⟨.inl (zQ (zaH (upd c 0 (i64.wrap (c 0 + 1))))), ⟨.inl rfl, ⟨.inl (zQ (zaH zH)), trivial⟩⟩⟩
  ·exact ⟨(upd c 0 (i64.wrap (c 0 + 1))), rfl, rfl, rfl⟩
 rintro s ⟨d, -, hd, rfl⟩
 refine zR (zV (o_d 3 [(41, pv 0 3), (40, iv e.s), (39, pv 1 1)] (by kernel_rfl) (o_s (by exact zch (o := 3) (o' := 3 + 5 * e.s.toNat) rfl rfl (by omega) (by omega)) ?_)))
 refine o_s (by refine z4 (v := .agg #[iv (d (3 + 5 * e.s.toNat)), iv (d (3 + 5 * e.s.toNat + 1)), iv (d (3 + 5 * e.s.toNat + 2)), iv (d (3 + 5 * e.s.toNat + 3)), iv (d (3 + 5 * e.s.toNat + 4))]) rfl rfl ?_; exact pl_rS d e.s.toNat (by omega) (by omega)) ?_
 refine o_b 2 [(7, pv 3 0)] [cw (pl d), cw [iv e.k, iv e.s, iv e.a, iv e.p, iv e.g, uv e.ka, uv e.kb], cw (pl zH), cw [iv (d (3 + 5 * e.s.toNat)), iv (d (3 + 5 * e.s.toNat + 1)), iv (d (3 + 5 * e.s.toNat + 2)), iv (d (3 + 5 * e.s.toNat + 3)), iv (d (3 + 5 * e.s.toNat + 4))]] (by kernel_rfl) (zG (zC (zR (zR (zV (o_d 2 [(45, iv e.k), (44, pv 1 0)] (by kernel_rfl) (zG (zC (zai (zR (zV (o_d 2 [(46, bv (e.k == 1)), (47, bv (e.k == 1))] (by kernel_rfl) ?_))))))))))))
 refine zG (zC (zaj (t := e.k == 1) rfl (fun h5 => ?_) (fun h5 => ?_)))
 ·skip
  have h5' : e.k = 1 := zcf h5
  refine zV (o_b 8 [(54, .agg #[iv 1, iv e.a, iv e.p, iv e.g, iv 0]), (53, iv e.g), (52, pv 1 4), (51, iv e.p), (50, pv 1 3), (49, iv e.a), (48, pv 1 2)] [cw (pl d), cw [iv e.k, iv e.s, iv e.a, iv e.p, iv e.g, uv e.ka, uv e.kb], cw (pl zH), cw [iv 1, iv e.a, iv e.p, iv e.g, iv 0]] (by kernel_rfl) (zG (zC (zR (zV (o_d 4 [(82, pv 0 3), (81, .agg #[iv 1, iv e.a, iv e.p, iv e.g, iv 0]), (80, iv e.s), (79, pv 1 1)] (by kernel_rfl) (o_s (by exact zch (o := 3) (o' := 3 + 5 * e.s.toNat) rfl rfl (by omega) (by omega)) ?_)))))))
  refine zc1 (by refine qQ (c' := pl (zZ d e.s.toNat 1 e.a e.p e.g 0)) rfl rfl rfl ?_ ?_ ?_; exact rfl; exact zbU (by omega); exact pl_wS d e.s.toNat 1 e.a e.p e.g 0 (by omega) (by omega)) ?_
  refine zG (z5 [(4, pv 2 0), (2, pv 0 0)] (by kernel_rfl) (zR (zV (o_s (by refine z4 (v := qG (zZ d e.s.toNat 1 e.a e.p e.g 0)) rfl rfl ?_; exact zal (zZ d e.s.toNat 1 e.a e.p e.g 0)) ?_))))
  refine zc1 (by refine qQ (c' := pl (zZ d e.s.toNat 1 e.a e.p e.g 0)) rfl rfl rfl ?_ ?_ ?_; exact zN _; exact zbU (by omega); exact qO zH (zZ d e.s.toNat 1 e.a e.p e.g 0)) ?_
  refine o_b 1 [(5, iv 0)] [cw (pl (zZ d e.s.toNat 1 e.a e.p e.g 0)), cw [iv e.k, iv e.s, iv e.a, iv e.p, iv e.g, uv e.ka, uv e.kb], cw (pl (zZ d e.s.toNat 1 e.a e.p e.g 0)), cw [iv 1, iv e.a, iv e.p, iv e.g, iv 0]] (by kernel_rfl) (zG (zC (zaZ ?_)))
  have E0_ : zO c e = (zZ d e.s.toNat 1 e.a e.p e.g 0, 0) := by
   subst hd
   first | (simp [zO, ze3, zbE, zaX, hfit, h1, h1', h2, h5, h5']; done) | (simp [zO, ze3, zbE, zaX, hfit, h1, h1', h2, h5, h5'] <;> rfl) | (rw [Bool.eq_iff_iff]; simp [zO, ze3, zbE, zaX, hfit, h1, h1', h2, h5, h5']; done) | (rw [Bool.eq_iff_iff]; simp [zO, ze3, zbE, zaX, hfit, h1, h1', h2, h5, h5']; omega) | (simp [zO, ze3, zbE, zaX, hfit, h1, h1', h2, h5, h5']; omega)
  exact qH [qG (zZ d e.s.toNat 1 e.a e.p e.g 0), iv 0] (zaS rfl rfl (zal (zZ d e.s.toNat 1 e.a e.p e.g 0)) (qE rfl rfl)) (all_cons (qZ (zZ d e.s.toNat 1 e.a e.p e.g 0)) (all_cons rfl rfl)) (by rw [E0_]; rfl) rfl rfl
 have h5' : ¬ (e.k = 1) := zcg h5
 refine zR (zV (o_d 2 [(55, bv (e.k == 2)), (56, bv (e.k == 2))] (by kernel_rfl) (zG (zC (zaj (t := e.k == 2) rfl (fun h6 => ?_) (fun h6 => ?_))))))
 ·skip
  have h6' : e.k = 2 := zcf h6
  refine zV (o_b 2 [(57, pv 3 0)] [cw (pl d), cw [iv e.k, iv e.s, iv e.a, iv e.p, iv e.g, uv e.ka, uv e.kb], cw (pl zH), cw [iv 2, iv (d (3 + 5 * e.s.toNat + 1)), iv (d (3 + 5 * e.s.toNat + 2)), iv (d (3 + 5 * e.s.toNat + 3)), iv (d (3 + 5 * e.s.toNat + 4))]] (by kernel_rfl) (zG (zC (zR (zV (o_d 4 [(82, pv 0 3), (81, .agg #[iv 2, iv (d (3 + 5 * e.s.toNat + 1)), iv (d (3 + 5 * e.s.toNat + 2)), iv (d (3 + 5 * e.s.toNat + 3)), iv (d (3 + 5 * e.s.toNat + 4))]), (80, iv e.s), (79, pv 1 1)] (by kernel_rfl) (o_s (by exact zch (o := 3) (o' := 3 + 5 * e.s.toNat) rfl rfl (by omega) (by omega)) ?_)))))))
  refine zc1 (by refine qQ (c' := pl (zZ d e.s.toNat 2 (d (3 + 5 * e.s.toNat + 1)) (d (3 + 5 * e.s.toNat + 2)) (d (3 + 5 * e.s.toNat + 3)) (d (3 + 5 * e.s.toNat + 4)))) rfl rfl rfl ?_ ?_ ?_; exact rfl; exact zbU (by omega); exact pl_wS d e.s.toNat 2 (d (3 + 5 * e.s.toNat + 1)) (d (3 + 5 * e.s.toNat + 2)) (d (3 + 5 * e.s.toNat + 3)) (d (3 + 5 * e.s.toNat + 4)) (by omega) (by omega)) ?_
  refine zG (zC (zR (zV (o_s (by refine z4 (v := qG (zZ d e.s.toNat 2 (d (3 + 5 * e.s.toNat + 1)) (d (3 + 5 * e.s.toNat + 2)) (d (3 + 5 * e.s.toNat + 3)) (d (3 + 5 * e.s.toNat + 4)))) rfl rfl ?_; exact zal (zZ d e.s.toNat 2 (d (3 + 5 * e.s.toNat + 1)) (d (3 + 5 * e.s.toNat + 2)) (d (3 + 5 * e.s.toNat + 3)) (d (3 + 5 * e.s.toNat + 4)))) ?_))))
  refine zc1 (by refine qQ (c' := pl (zZ d e.s.toNat 2 (d (3 + 5 * e.s.toNat + 1)) (d (3 + 5 * e.s.toNat + 2)) (d (3 + 5 * e.s.toNat + 3)) (d (3 + 5 * e.s.toNat + 4)))) rfl rfl rfl ?_ ?_ ?_; exact zN _; exact zbU (by omega); exact qO zH (zZ d e.s.toNat 2 (d (3 + 5 * e.s.toNat + 1)) (d (3 + 5 * e.s.toNat + 2)) (d (3 + 5 * e.s.toNat + 3)) (d (3 + 5 * e.s.toNat + 4)))) ?_
  refine o_b 1 [(5, iv 0)] [cw (pl (zZ d e.s.toNat 2 (d (3 + 5 * e.s.toNat + 1)) (d (3 + 5 * e.s.toNat + 2)) (d (3 + 5 * e.s.toNat + 3)) (d (3 + 5 * e.s.toNat + 4)))), cw [iv e.k, iv e.s, iv e.a, iv e.p, iv e.g, uv e.ka, uv e.kb], cw (pl (zZ d e.s.toNat 2 (d (3 + 5 * e.s.toNat + 1)) (d (3 + 5 * e.s.toNat + 2)) (d (3 + 5 * e.s.toNat + 3)) (d (3 + 5 * e.s.toNat + 4)))), cw [iv 2, iv (d (3 + 5 * e.s.toNat + 1)), iv (d (3 + 5 * e.s.toNat + 2)), iv (d (3 + 5 * e.s.toNat + 3)), iv (d (3 + 5 * e.s.toNat + 4))]] (by kernel_rfl) (zG (z5 [(5, iv 0), (4, pv 2 0)] (by kernel_rfl) (zaZ ?_)))
  have E0_ : zO c e = (zZ d e.s.toNat 2 (d (3 + 5 * e.s.toNat + 1)) (d (3 + 5 * e.s.toNat + 2)) (d (3 + 5 * e.s.toNat + 3)) (d (3 + 5 * e.s.toNat + 4)), 0) := by
   subst hd
   have hd := zg7 (upd c 0 (i64.wrap (c 0 + 1))) e.s.toNat
   simp only [hd]
   simp [zO, ze3, zbE, zaX, h1, h1', h2, h5, h5', h6, h6', hfit]
  exact qH [qG (zZ d e.s.toNat 2 (d (3 + 5 * e.s.toNat + 1)) (d (3 + 5 * e.s.toNat + 2)) (d (3 + 5 * e.s.toNat + 3)) (d (3 + 5 * e.s.toNat + 4))), iv 0] (zaS rfl rfl (zal (zZ d e.s.toNat 2 (d (3 + 5 * e.s.toNat + 1)) (d (3 + 5 * e.s.toNat + 2)) (d (3 + 5 * e.s.toNat + 3)) (d (3 + 5 * e.s.toNat + 4)))) (qE rfl rfl)) (all_cons (qZ (zZ d e.s.toNat 2 (d (3 + 5 * e.s.toNat + 1)) (d (3 + 5 * e.s.toNat + 2)) (d (3 + 5 * e.s.toNat + 3)) (d (3 + 5 * e.s.toNat + 4)))) (all_cons rfl rfl)) (by rw [E0_]; rfl) rfl rfl
 have h6' : ¬ (e.k = 2) := zcg h6
 refine zR (zV (o_d 2 [(58, bv (e.k == 3)), (59, bv (e.k == 3))] (by kernel_rfl) (zG (zC (zaj (t := e.k == 3) rfl (fun h7 => ?_) (fun h7 => ?_))))))
 ·skip
  have h7' : e.k = 3 := zcf h7
  refine zV (o_b 2 [(60, pv 3 0)] [cw (pl d), cw [iv e.k, iv e.s, iv e.a, iv e.p, iv e.g, uv e.ka, uv e.kb], cw (pl zH), cw [iv 3, iv (d (3 + 5 * e.s.toNat + 1)), iv (d (3 + 5 * e.s.toNat + 2)), iv (d (3 + 5 * e.s.toNat + 3)), iv (d (3 + 5 * e.s.toNat + 4))]] (by kernel_rfl) (zG (zC (zR (zV (o_d 4 [(82, pv 0 3), (81, .agg #[iv 3, iv (d (3 + 5 * e.s.toNat + 1)), iv (d (3 + 5 * e.s.toNat + 2)), iv (d (3 + 5 * e.s.toNat + 3)), iv (d (3 + 5 * e.s.toNat + 4))]), (80, iv e.s), (79, pv 1 1)] (by kernel_rfl) (o_s (by exact zch (o := 3) (o' := 3 + 5 * e.s.toNat) rfl rfl (by omega) (by omega)) ?_)))))))
  refine zc1 (by refine qQ (c' := pl (zZ d e.s.toNat 3 (d (3 + 5 * e.s.toNat + 1)) (d (3 + 5 * e.s.toNat + 2)) (d (3 + 5 * e.s.toNat + 3)) (d (3 + 5 * e.s.toNat + 4)))) rfl rfl rfl ?_ ?_ ?_; exact rfl; exact zbU (by omega); exact pl_wS d e.s.toNat 3 (d (3 + 5 * e.s.toNat + 1)) (d (3 + 5 * e.s.toNat + 2)) (d (3 + 5 * e.s.toNat + 3)) (d (3 + 5 * e.s.toNat + 4)) (by omega) (by omega)) ?_
  refine zG (z5 [(4, pv 2 0), (2, pv 0 0)] (by kernel_rfl) (zR (zV (o_s (by refine z4 (v := qG (zZ d e.s.toNat 3 (d (3 + 5 * e.s.toNat + 1)) (d (3 + 5 * e.s.toNat + 2)) (d (3 + 5 * e.s.toNat + 3)) (d (3 + 5 * e.s.toNat + 4)))) rfl rfl ?_; exact zal (zZ d e.s.toNat 3 (d (3 + 5 * e.s.toNat + 1)) (d (3 + 5 * e.s.toNat + 2)) (d (3 + 5 * e.s.toNat + 3)) (d (3 + 5 * e.s.toNat + 4)))) ?_))))
  refine zc1 (by refine qQ (c' := pl (zZ d e.s.toNat 3 (d (3 + 5 * e.s.toNat + 1)) (d (3 + 5 * e.s.toNat + 2)) (d (3 + 5 * e.s.toNat + 3)) (d (3 + 5 * e.s.toNat + 4)))) rfl rfl rfl ?_ ?_ ?_; exact zN _; exact zbU (by omega); exact qO zH (zZ d e.s.toNat 3 (d (3 + 5 * e.s.toNat + 1)) (d (3 + 5 * e.s.toNat + 2)) (d (3 + 5 * e.s.toNat + 3)) (d (3 + 5 * e.s.toNat + 4)))) ?_
  refine o_b 1 [(5, iv 0)] [cw (pl (zZ d e.s.toNat 3 (d (3 + 5 * e.s.toNat + 1)) (d (3 + 5 * e.s.toNat + 2)) (d (3 + 5 * e.s.toNat + 3)) (d (3 + 5 * e.s.toNat + 4)))), cw [iv e.k, iv e.s, iv e.a, iv e.p, iv e.g, uv e.ka, uv e.kb], cw (pl (zZ d e.s.toNat 3 (d (3 + 5 * e.s.toNat + 1)) (d (3 + 5 * e.s.toNat + 2)) (d (3 + 5 * e.s.toNat + 3)) (d (3 + 5 * e.s.toNat + 4)))), cw [iv 3, iv (d (3 + 5 * e.s.toNat + 1)), iv (d (3 + 5 * e.s.toNat + 2)), iv (d (3 + 5 * e.s.toNat + 3)), iv (d (3 + 5 * e.s.toNat + 4))]] (by kernel_rfl) (zG (zC (zaZ ?_)))
  have E0_ : zO c e = (zZ d e.s.toNat 3 (d (3 + 5 * e.s.toNat + 1)) (d (3 + 5 * e.s.toNat + 2)) (d (3 + 5 * e.s.toNat + 3)) (d (3 + 5 * e.s.toNat + 4)), 0) := by
   subst hd
   have hd := zg7 (upd c 0 (i64.wrap (c 0 + 1))) e.s.toNat
   simp only [hd]
   simp [zO, ze3, zbE, zaX, h1, h1', h2, h5, h5', h6, h6', h7, h7', hfit]
  exact qH [qG (zZ d e.s.toNat 3 (d (3 + 5 * e.s.toNat + 1)) (d (3 + 5 * e.s.toNat + 2)) (d (3 + 5 * e.s.toNat + 3)) (d (3 + 5 * e.s.toNat + 4))), iv 0] (zaS rfl rfl (zal (zZ d e.s.toNat 3 (d (3 + 5 * e.s.toNat + 1)) (d (3 + 5 * e.s.toNat + 2)) (d (3 + 5 * e.s.toNat + 3)) (d (3 + 5 * e.s.toNat + 4)))) (qE rfl rfl)) (all_cons (qZ (zZ d e.s.toNat 3 (d (3 + 5 * e.s.toNat + 1)) (d (3 + 5 * e.s.toNat + 2)) (d (3 + 5 * e.s.toNat + 3)) (d (3 + 5 * e.s.toNat + 4)))) (all_cons rfl rfl)) (by rw [E0_]; rfl) rfl rfl
 have h7' : ¬ (e.k = 3) := zcg h7
 refine zR (zV (o_d 2 [(61, bv (e.k == 4)), (62, bv (e.k == 4))] (by kernel_rfl) (zG (zC (zaj (t := e.k == 4) rfl (fun h8 => ?_) (fun h8 => ?_))))))
 ·skip
  have h8' : e.k = 4 := zcf h8
  refine gdregK [(67, pv 3 4), (66, pv 3 0), (65, iv (d 323)), (64, pv 0 323), (63, pv 0 323)] [cw (pl d), cw [iv e.k, iv e.s, iv e.a, iv e.p, iv e.g, uv e.ka, uv e.kb], cw (pl zH), cw [iv 4, iv (d (3 + 5 * e.s.toNat + 1)), iv (d (3 + 5 * e.s.toNat + 2)), iv (d (3 + 5 * e.s.toNat + 3)), iv (d 323)]] (by kernel_rfl) (zC (zR (zV (o_d 4 [(82, pv 0 3), (81, .agg #[iv 4, iv (d (3 + 5 * e.s.toNat + 1)), iv (d (3 + 5 * e.s.toNat + 2)), iv (d (3 + 5 * e.s.toNat + 3)), iv (d 323)]), (80, iv e.s), (79, pv 1 1)] (by kernel_rfl) (o_s (by exact zch (o := 3) (o' := 3 + 5 * e.s.toNat) rfl rfl (by omega) (by omega)) ?_)))))
  refine zc1 (by refine qQ (c' := pl (zZ d e.s.toNat 4 (d (3 + 5 * e.s.toNat + 1)) (d (3 + 5 * e.s.toNat + 2)) (d (3 + 5 * e.s.toNat + 3)) (d 323))) rfl rfl rfl ?_ ?_ ?_; exact rfl; exact zbU (by omega); exact pl_wS d e.s.toNat 4 (d (3 + 5 * e.s.toNat + 1)) (d (3 + 5 * e.s.toNat + 2)) (d (3 + 5 * e.s.toNat + 3)) (d 323) (by omega) (by omega)) ?_
  refine zG (z5 [(4, pv 2 0), (2, pv 0 0)] (by kernel_rfl) (zR (zV (o_s (by refine z4 (v := qG (zZ d e.s.toNat 4 (d (3 + 5 * e.s.toNat + 1)) (d (3 + 5 * e.s.toNat + 2)) (d (3 + 5 * e.s.toNat + 3)) (d 323))) rfl rfl ?_; exact zal (zZ d e.s.toNat 4 (d (3 + 5 * e.s.toNat + 1)) (d (3 + 5 * e.s.toNat + 2)) (d (3 + 5 * e.s.toNat + 3)) (d 323))) ?_))))
  refine zc1 (by refine qQ (c' := pl (zZ d e.s.toNat 4 (d (3 + 5 * e.s.toNat + 1)) (d (3 + 5 * e.s.toNat + 2)) (d (3 + 5 * e.s.toNat + 3)) (d 323))) rfl rfl rfl ?_ ?_ ?_; exact zN _; exact zbU (by omega); exact qO zH (zZ d e.s.toNat 4 (d (3 + 5 * e.s.toNat + 1)) (d (3 + 5 * e.s.toNat + 2)) (d (3 + 5 * e.s.toNat + 3)) (d 323))) ?_
  refine o_b 1 [(5, iv 0)] [cw (pl (zZ d e.s.toNat 4 (d (3 + 5 * e.s.toNat + 1)) (d (3 + 5 * e.s.toNat + 2)) (d (3 + 5 * e.s.toNat + 3)) (d 323))), cw [iv e.k, iv e.s, iv e.a, iv e.p, iv e.g, uv e.ka, uv e.kb], cw (pl (zZ d e.s.toNat 4 (d (3 + 5 * e.s.toNat + 1)) (d (3 + 5 * e.s.toNat + 2)) (d (3 + 5 * e.s.toNat + 3)) (d 323))), cw [iv 4, iv (d (3 + 5 * e.s.toNat + 1)), iv (d (3 + 5 * e.s.toNat + 2)), iv (d (3 + 5 * e.s.toNat + 3)), iv (d 323)]] (by kernel_rfl) (zG (zC (zaZ ?_)))
  have E0_ : zO c e = (zZ d e.s.toNat 4 (d (3 + 5 * e.s.toNat + 1)) (d (3 + 5 * e.s.toNat + 2)) (d (3 + 5 * e.s.toNat + 3)) (d 323), 0) := by
   subst hd
   have hd := zjR (upd c 0 (i64.wrap (c 0 + 1))) e.s.toNat
   simp only [hd]
   simp [zO, ze3, zbE, zaX, zg2, h1, h1', h2, h5, h5', h6, h6', h7, h7', h8, h8', hfit]
  exact qH [qG (zZ d e.s.toNat 4 (d (3 + 5 * e.s.toNat + 1)) (d (3 + 5 * e.s.toNat + 2)) (d (3 + 5 * e.s.toNat + 3)) (d 323)), iv 0] (zaS rfl rfl (zal (zZ d e.s.toNat 4 (d (3 + 5 * e.s.toNat + 1)) (d (3 + 5 * e.s.toNat + 2)) (d (3 + 5 * e.s.toNat + 3)) (d 323))) (qE rfl rfl)) (all_cons (qZ (zZ d e.s.toNat 4 (d (3 + 5 * e.s.toNat + 1)) (d (3 + 5 * e.s.toNat + 2)) (d (3 + 5 * e.s.toNat + 3)) (d 323))) (all_cons rfl rfl)) (by rw [E0_]; rfl) rfl rfl
 have h8' : ¬ (e.k = 4) := zcg h8
 refine zR (zV (o_d 2 [(68, bv (e.k == 5)), (69, bv (e.k == 5))] (by kernel_rfl) (zG (zC (zaj (t := e.k == 5) rfl (fun h9 => ?_) (fun h9 => ?_))))))
 ·skip
  have h9' : e.k = 5 := zcf h9
  refine zV (o_b 2 [(70, .agg #[iv 0, iv 0, iv 0, iv 0, iv 0])] [cw (pl d), cw [iv e.k, iv e.s, iv e.a, iv e.p, iv e.g, uv e.ka, uv e.kb], cw (pl zH), cw [iv 0, iv 0, iv 0, iv 0, iv 0]] (by kernel_rfl) (zG (zC (zR (zV (o_d 4 [(82, pv 0 3), (81, .agg #[iv 0, iv 0, iv 0, iv 0, iv 0]), (80, iv e.s), (79, pv 1 1)] (by kernel_rfl) (o_s (by exact zch (o := 3) (o' := 3 + 5 * e.s.toNat) rfl rfl (by omega) (by omega)) ?_)))))))
  refine zc1 (by refine qQ (c' := pl (zZ d e.s.toNat 0 0 0 0 0)) rfl rfl rfl ?_ ?_ ?_; exact rfl; exact zbU (by omega); exact pl_wS d e.s.toNat 0 0 0 0 0 (by omega) (by omega)) ?_
  refine zG (z5 [(4, pv 2 0), (2, pv 0 0)] (by kernel_rfl) (zR (zV (o_s (by refine z4 (v := qG (zZ d e.s.toNat 0 0 0 0 0)) rfl rfl ?_; exact zal (zZ d e.s.toNat 0 0 0 0 0)) ?_))))
  refine zc1 (by refine qQ (c' := pl (zZ d e.s.toNat 0 0 0 0 0)) rfl rfl rfl ?_ ?_ ?_; exact zN _; exact zbU (by omega); exact qO zH (zZ d e.s.toNat 0 0 0 0 0)) ?_
  refine o_b 1 [(5, iv 0)] [cw (pl (zZ d e.s.toNat 0 0 0 0 0)), cw [iv e.k, iv e.s, iv e.a, iv e.p, iv e.g, uv e.ka, uv e.kb], cw (pl (zZ d e.s.toNat 0 0 0 0 0)), cw [iv 0, iv 0, iv 0, iv 0, iv 0]] (by kernel_rfl) (zG (zC (zaZ ?_)))
  have E0_ : zO c e = (zZ d e.s.toNat 0 0 0 0 0, 0) := by
   subst hd
   first | (simp [zO, ze3, zbE, zaX, hfit, h1, h1', h2, h5, h5', h6, h6', h7, h7', h8, h8', h9, h9']; done) | (simp [zO, ze3, zbE, zaX, hfit, h1, h1', h2, h5, h5', h6, h6', h7, h7', h8, h8', h9, h9'] <;> rfl) | (rw [Bool.eq_iff_iff]; simp [zO, ze3, zbE, zaX, hfit, h1, h1', h2, h5, h5', h6, h6', h7, h7', h8, h8', h9, h9']; done) | (rw [Bool.eq_iff_iff]; simp [zO, ze3, zbE, zaX, hfit, h1, h1', h2, h5, h5', h6, h6', h7, h7', h8, h8', h9, h9']; omega) | (simp [zO, ze3, zbE, zaX, hfit, h1, h1', h2, h5, h5', h6, h6', h7, h7', h8, h8', h9, h9']; omega)
  exact qH [qG (zZ d e.s.toNat 0 0 0 0 0), iv 0] (zaS rfl rfl (zal (zZ d e.s.toNat 0 0 0 0 0)) (qE rfl rfl)) (all_cons (qZ (zZ d e.s.toNat 0 0 0 0 0)) (all_cons rfl rfl)) (by rw [E0_]; rfl) rfl rfl
 have h9' : ¬ (e.k = 5) := zcg h9
 refine zR (zV (o_d 2 [(71, bv (e.k == 6)), (72, bv (e.k == 6))] (by kernel_rfl) (zG (zC (zaj (t := e.k == 6) rfl (fun h10 => ?_) (fun h10 => ?_))))))
 ·skip
  have h10' : e.k = 6 := zcf h10
  refine zV (o_d 1 [(73, pv 0 323)] (by kernel_rfl) (o_s (by refine z4 (v := .agg #[iv (d 323), uv (d 324), uv (d 325), uv (d 326), uv (d 327), uv (d 328), uv (d 329)]) rfl rfl ?_; exact pl_ring d) ?_))
  refine o_d 2 [(76, .agg #[uv e.ka, uv e.kb]), (75, pv 1 5)] (by kernel_rfl) (zcc (zc7 (refNextC h_ref5_Next) rfl rfl rfl (o_d 1 [(78, pv 0 323)] (by kernel_rfl) (zc1 (by refine qQ (c' := pl (upd (upd (upd (upd (upd (upd (upd d 323 (i64.wrap ((d 323) + 1))) 324 (d 326)) 325 (d 327)) 326 (d 328)) 327 (d 329)) 328 e.ka) 329 e.kb)) rfl rfl rfl ?_ ?_ ?_; exact rfl; exact zbU (by omega); exact zgH d (i64.wrap ((d 323) + 1)) (d 326) (d 327) (d 328) (d 329) e.ka e.kb) ?_))))
  refine zG (z5 [(7, pv 3 0), (4, pv 2 0), (3, pv 1 0), (2, pv 0 0)] (by kernel_rfl) (zR (zV (o_d 4 [(82, pv 0 3), (81, .agg #[iv (d (3 + 5 * e.s.toNat)), iv (d (3 + 5 * e.s.toNat + 1)), iv (d (3 + 5 * e.s.toNat + 2)), iv (d (3 + 5 * e.s.toNat + 3)), iv (d (3 + 5 * e.s.toNat + 4))]), (80, iv e.s), (79, pv 1 1)] (by kernel_rfl) (o_s (by exact zch (o := 3) (o' := 3 + 5 * e.s.toNat) rfl rfl (by omega) (by omega)) ?_)))))
  refine zc1 (by refine qQ (c' := pl (zZ (upd (upd (upd (upd (upd (upd (upd d 323 (i64.wrap ((d 323) + 1))) 324 (d 326)) 325 (d 327)) 326 (d 328)) 327 (d 329)) 328 e.ka) 329 e.kb) e.s.toNat (d (3 + 5 * e.s.toNat)) (d (3 + 5 * e.s.toNat + 1)) (d (3 + 5 * e.s.toNat + 2)) (d (3 + 5 * e.s.toNat + 3)) (d (3 + 5 * e.s.toNat + 4)))) rfl rfl rfl ?_ ?_ ?_; exact rfl; exact zbU (by omega); exact pl_wS (upd (upd (upd (upd (upd (upd (upd d 323 (i64.wrap ((d 323) + 1))) 324 (d 326)) 325 (d 327)) 326 (d 328)) 327 (d 329)) 328 e.ka) 329 e.kb) e.s.toNat (d (3 + 5 * e.s.toNat)) (d (3 + 5 * e.s.toNat + 1)) (d (3 + 5 * e.s.toNat + 2)) (d (3 + 5 * e.s.toNat + 3)) (d (3 + 5 * e.s.toNat + 4)) (by omega) (by omega)) ?_
  refine zG (zC (zR (zV (o_s (by refine z4 (v := qG (zZ (upd (upd (upd (upd (upd (upd (upd d 323 (i64.wrap ((d 323) + 1))) 324 (d 326)) 325 (d 327)) 326 (d 328)) 327 (d 329)) 328 e.ka) 329 e.kb) e.s.toNat (d (3 + 5 * e.s.toNat)) (d (3 + 5 * e.s.toNat + 1)) (d (3 + 5 * e.s.toNat + 2)) (d (3 + 5 * e.s.toNat + 3)) (d (3 + 5 * e.s.toNat + 4)))) rfl rfl ?_; exact zal (zZ (upd (upd (upd (upd (upd (upd (upd d 323 (i64.wrap ((d 323) + 1))) 324 (d 326)) 325 (d 327)) 326 (d 328)) 327 (d 329)) 328 e.ka) 329 e.kb) e.s.toNat (d (3 + 5 * e.s.toNat)) (d (3 + 5 * e.s.toNat + 1)) (d (3 + 5 * e.s.toNat + 2)) (d (3 + 5 * e.s.toNat + 3)) (d (3 + 5 * e.s.toNat + 4)))) ?_))))
  refine zc1 (by refine qQ (c' := pl (zZ (upd (upd (upd (upd (upd (upd (upd d 323 (i64.wrap ((d 323) + 1))) 324 (d 326)) 325 (d 327)) 326 (d 328)) 327 (d 329)) 328 e.ka) 329 e.kb) e.s.toNat (d (3 + 5 * e.s.toNat)) (d (3 + 5 * e.s.toNat + 1)) (d (3 + 5 * e.s.toNat + 2)) (d (3 + 5 * e.s.toNat + 3)) (d (3 + 5 * e.s.toNat + 4)))) rfl rfl rfl ?_ ?_ ?_; exact zN _; exact zbU (by omega); exact qO zH (zZ (upd (upd (upd (upd (upd (upd (upd d 323 (i64.wrap ((d 323) + 1))) 324 (d 326)) 325 (d 327)) 326 (d 328)) 327 (d 329)) 328 e.ka) 329 e.kb) e.s.toNat (d (3 + 5 * e.s.toNat)) (d (3 + 5 * e.s.toNat + 1)) (d (3 + 5 * e.s.toNat + 2)) (d (3 + 5 * e.s.toNat + 3)) (d (3 + 5 * e.s.toNat + 4)))) ?_
  refine o_b 1 [(5, iv 0)] [cw (pl (zZ (upd (upd (upd (upd (upd (upd (upd d 323 (i64.wrap ((d 323) + 1))) 324 (d 326)) 325 (d 327)) 326 (d 328)) 327 (d 329)) 328 e.ka) 329 e.kb) e.s.toNat (d (3 + 5 * e.s.toNat)) (d (3 + 5 * e.s.toNat + 1)) (d (3 + 5 * e.s.toNat + 2)) (d (3 + 5 * e.s.toNat + 3)) (d (3 + 5 * e.s.toNat + 4)))), cw [iv e.k, iv e.s, iv e.a, iv e.p, iv e.g, uv e.ka, uv e.kb], cw (pl (zZ (upd (upd (upd (upd (upd (upd (upd d 323 (i64.wrap ((d 323) + 1))) 324 (d 326)) 325 (d 327)) 326 (d 328)) 327 (d 329)) 328 e.ka) 329 e.kb) e.s.toNat (d (3 + 5 * e.s.toNat)) (d (3 + 5 * e.s.toNat + 1)) (d (3 + 5 * e.s.toNat + 2)) (d (3 + 5 * e.s.toNat + 3)) (d (3 + 5 * e.s.toNat + 4)))), cw [iv (d (3 + 5 * e.s.toNat)), iv (d (3 + 5 * e.s.toNat + 1)), iv (d (3 + 5 * e.s.toNat + 2)), iv (d (3 + 5 * e.s.toNat + 3)), iv (d (3 + 5 * e.s.toNat + 4))]] (by kernel_rfl) (zG (zC (zaZ ?_)))
  have E0_ : zO c e = (zZ (upd (upd (upd (upd (upd (upd (upd d 323 (i64.wrap ((d 323) + 1))) 324 (d 326)) 325 (d 327)) 326 (d 328)) 327 (d 329)) 328 e.ka) 329 e.kb) e.s.toNat (d (3 + 5 * e.s.toNat)) (d (3 + 5 * e.s.toNat + 1)) (d (3 + 5 * e.s.toNat + 2)) (d (3 + 5 * e.s.toNat + 3)) (d (3 + 5 * e.s.toNat + 4)), 0) := by
   subst hd
   rw [setSlot_id (zfb _ _ _ _ _ _ _ _ (by omega)).symm (zfb _ _ _ _ _ _ _ _ (by omega)).symm (zfb _ _ _ _ _ _ _ _ (by omega)).symm (zfb _ _ _ _ _ _ _ _ (by omega)).symm (zfb _ _ _ _ _ _ _ _ (by omega)).symm]
   simp [zO, ze3, zbE, zaX, nextS, zg2, h1, h1', h2, h5, h5', h6, h6', h7, h7', h8, h8', h9, h9', h10, h10', hfit]
  exact qH [qG (zZ (upd (upd (upd (upd (upd (upd (upd d 323 (i64.wrap ((d 323) + 1))) 324 (d 326)) 325 (d 327)) 326 (d 328)) 327 (d 329)) 328 e.ka) 329 e.kb) e.s.toNat (d (3 + 5 * e.s.toNat)) (d (3 + 5 * e.s.toNat + 1)) (d (3 + 5 * e.s.toNat + 2)) (d (3 + 5 * e.s.toNat + 3)) (d (3 + 5 * e.s.toNat + 4))), iv 0] (zaS rfl rfl (zal (zZ (upd (upd (upd (upd (upd (upd (upd d 323 (i64.wrap ((d 323) + 1))) 324 (d 326)) 325 (d 327)) 326 (d 328)) 327 (d 329)) 328 e.ka) 329 e.kb) e.s.toNat (d (3 + 5 * e.s.toNat)) (d (3 + 5 * e.s.toNat + 1)) (d (3 + 5 * e.s.toNat + 2)) (d (3 + 5 * e.s.toNat + 3)) (d (3 + 5 * e.s.toNat + 4)))) (qE rfl rfl)) (all_cons (qZ (zZ (upd (upd (upd (upd (upd (upd (upd d 323 (i64.wrap ((d 323) + 1))) 324 (d 326)) 325 (d 327)) 326 (d 328)) 327 (d 329)) 328 e.ka) 329 e.kb) e.s.toNat (d (3 + 5 * e.s.toNat)) (d (3 + 5 * e.s.toNat + 1)) (d (3 + 5 * e.s.toNat + 2)) (d (3 + 5 * e.s.toNat + 3)) (d (3 + 5 * e.s.toNat + 4)))) (all_cons rfl rfl)) (by rw [E0_]; rfl) rfl rfl
 have h10' : ¬ (e.k = 6) := zcg h10
 refine zaq (zC (zR (zV (o_d 4 [(82, pv 0 3), (81, .agg #[iv (d (3 + 5 * e.s.toNat)), iv (d (3 + 5 * e.s.toNat + 1)), iv (d (3 + 5 * e.s.toNat + 2)), iv (d (3 + 5 * e.s.toNat + 3)), iv (d (3 + 5 * e.s.toNat + 4))]), (80, iv e.s), (79, pv 1 1)] (by kernel_rfl) (o_s (by exact zch (o := 3) (o' := 3 + 5 * e.s.toNat) rfl rfl (by omega) (by omega)) ?_)))))
 refine zc1 (by refine qQ (c' := pl (zZ d e.s.toNat (d (3 + 5 * e.s.toNat)) (d (3 + 5 * e.s.toNat + 1)) (d (3 + 5 * e.s.toNat + 2)) (d (3 + 5 * e.s.toNat + 3)) (d (3 + 5 * e.s.toNat + 4)))) rfl rfl rfl ?_ ?_ ?_; exact rfl; exact zbU (by omega); exact pl_wS d e.s.toNat (d (3 + 5 * e.s.toNat)) (d (3 + 5 * e.s.toNat + 1)) (d (3 + 5 * e.s.toNat + 2)) (d (3 + 5 * e.s.toNat + 3)) (d (3 + 5 * e.s.toNat + 4)) (by omega) (by omega)) ?_
 refine zG (z5 [(4, pv 2 0), (2, pv 0 0)] (by kernel_rfl) (zR (zV (o_s (by refine z4 (v := qG (zZ d e.s.toNat (d (3 + 5 * e.s.toNat)) (d (3 + 5 * e.s.toNat + 1)) (d (3 + 5 * e.s.toNat + 2)) (d (3 + 5 * e.s.toNat + 3)) (d (3 + 5 * e.s.toNat + 4)))) rfl rfl ?_; exact zal (zZ d e.s.toNat (d (3 + 5 * e.s.toNat)) (d (3 + 5 * e.s.toNat + 1)) (d (3 + 5 * e.s.toNat + 2)) (d (3 + 5 * e.s.toNat + 3)) (d (3 + 5 * e.s.toNat + 4)))) ?_))))
 refine zc1 (by refine qQ (c' := pl (zZ d e.s.toNat (d (3 + 5 * e.s.toNat)) (d (3 + 5 * e.s.toNat + 1)) (d (3 + 5 * e.s.toNat + 2)) (d (3 + 5 * e.s.toNat + 3)) (d (3 + 5 * e.s.toNat + 4)))) rfl rfl rfl ?_ ?_ ?_; exact zN _; exact zbU (by omega); exact qO zH (zZ d e.s.toNat (d (3 + 5 * e.s.toNat)) (d (3 + 5 * e.s.toNat + 1)) (d (3 + 5 * e.s.toNat + 2)) (d (3 + 5 * e.s.toNat + 3)) (d (3 + 5 * e.s.toNat + 4)))) ?_
 refine o_b 1 [(5, iv 0)] [cw (pl (zZ d e.s.toNat (d (3 + 5 * e.s.toNat)) (d (3 + 5 * e.s.toNat + 1)) (d (3 + 5 * e.s.toNat + 2)) (d (3 + 5 * e.s.toNat + 3)) (d (3 + 5 * e.s.toNat + 4)))), cw [iv e.k, iv e.s, iv e.a, iv e.p, iv e.g, uv e.ka, uv e.kb], cw (pl (zZ d e.s.toNat (d (3 + 5 * e.s.toNat)) (d (3 + 5 * e.s.toNat + 1)) (d (3 + 5 * e.s.toNat + 2)) (d (3 + 5 * e.s.toNat + 3)) (d (3 + 5 * e.s.toNat + 4)))), cw [iv (d (3 + 5 * e.s.toNat)), iv (d (3 + 5 * e.s.toNat + 1)), iv (d (3 + 5 * e.s.toNat + 2)), iv (d (3 + 5 * e.s.toNat + 3)), iv (d (3 + 5 * e.s.toNat + 4))]] (by kernel_rfl) (zG (zC (zaZ ?_)))
 have E0_ : zO c e = (zZ d e.s.toNat (d (3 + 5 * e.s.toNat)) (d (3 + 5 * e.s.toNat + 1)) (d (3 + 5 * e.s.toNat + 2)) (d (3 + 5 * e.s.toNat + 3)) (d (3 + 5 * e.s.toNat + 4)), 0) := by
  subst hd
  first | (simp [zO, ze3, zbE, zaX, hfit, h1, h1', h2, h5, h5', h6, h6', h7, h7', h8, h8', h9, h9', h10, h10']; done) | (simp [zO, ze3, zbE, zaX, hfit, h1, h1', h2, h5, h5', h6, h6', h7, h7', h8, h8', h9, h9', h10, h10'] <;> rfl) | (rw [Bool.eq_iff_iff]; simp [zO, ze3, zbE, zaX, hfit, h1, h1', h2, h5, h5', h6, h6', h7, h7', h8, h8', h9, h9', h10, h10']; done) | (rw [Bool.eq_iff_iff]; simp [zO, ze3, zbE, zaX, hfit, h1, h1', h2, h5, h5', h6, h6', h7, h7', h8, h8', h9, h9', h10, h10']; omega) | (simp [zO, ze3, zbE, zaX, hfit, h1, h1', h2, h5, h5', h6, h6', h7, h7', h8, h8', h9, h9', h10, h10']; omega)
 exact qH [qG (zZ d e.s.toNat (d (3 + 5 * e.s.toNat)) (d (3 + 5 * e.s.toNat + 1)) (d (3 + 5 * e.s.toNat + 2)) (d (3 + 5 * e.s.toNat + 3)) (d (3 + 5 * e.s.toNat + 4))), iv 0] (zaS rfl rfl (zal (zZ d e.s.toNat (d (3 + 5 * e.s.toNat)) (d (3 + 5 * e.s.toNat + 1)) (d (3 + 5 * e.s.toNat + 2)) (d (3 + 5 * e.s.toNat + 3)) (d (3 + 5 * e.s.toNat + 4)))) (qE rfl rfl)) (all_cons (qZ (zZ d e.s.toNat (d (3 + 5 * e.s.toNat)) (d (3 + 5 * e.s.toNat + 1)) (d (3 + 5 * e.s.toNat + 2)) (d (3 + 5 * e.s.toNat + 3)) (d (3 + 5 * e.s.toNat + 4)))) (all_cons rfl rfl)) (by rw [E0_]; rfl) rfl rfl
end Go.Rh

set_option maxHeartbeats 8000000
namespace Go.Rh
theorem refNewC {P : Program} (hc : zgg P) (h_ref6_out : zdw P) (h_ref5_Ring : zep P) (a p ka kb na nb : Int) :
  Env P "roundhouse/roundhouseref6.New" [iv a, iv p, .agg #[uv ka, uv kb], .agg #[uv na, uv nb]] ([]) (Ans (.tuple #[qG ((zax a p ka kb na nb).1), iv ((zax a p ka kb na nb).2)]) ([])) := by
 refine Env.by hc ?_
 unfold zhV
 show GC _ 0 _ _ ⟨reg [(0, iv a), (1, iv p), (2, .agg #[uv ka, uv kb]), (3, .agg #[uv na, uv nb])], []⟩
 refine zR (zV (o_b 4 [(9, iv 0), (8, pv 2 0), (7, pv 1 0), (6, pv 0 0)] [cw [uv ka, uv kb], cw [uv na, uv nb], cw (pl zH)] (by kernel_rfl) (zG (zC (zR (zR (zV (o_d 1 [(10, iv a)] (by kernel_rfl) (zcc (zc7 (outC h_ref6_out a 0 4294967295) rfl rfl rfl (o_d 1 [(12, bv (zfo a 0 4294967295))] (by kernel_rfl) (zir (b := zfo a 0 4294967295) 12 rfl (fun h1 => ?_) (fun h1 => ?_)))))))))))))
 ·skip
  refine o_d 3 [(15, bv true), (14, undef), (13, undef)] (by kernel_rfl) (zG (zC (zer rfl (zR (zV (o_s (by refine zbZ (c := pl zH) ?_; exact zke) ?_))))))
  refine zc1 (by refine qQ (c' := pl zH) rfl rfl rfl ?_ ?_ ?_; exact zN _; exact zbU (by omega); exact qO zH zH) ?_
  refine o_d 1 [(9, iv 14)] (by kernel_rfl) (zG (zC (zaZ ?_)))
  have e0 : zax a p ka kb na nb = (zH, 14) := by
   have hp := zeY a p
   simp only [h1, Bool.true_or, Bool.false_or] at hp
   have hp2 : za0 a p = false := by revert hp; cases za0 a p <;> simp
   simp [zax, hp2]
  exact qH [qG zH, iv 14] (zaS rfl rfl (zal zH) (qE rfl rfl)) (all_cons (qZ zH) (all_cons rfl rfl)) (by rw [e0]; rfl) rfl rfl
 ·skip
  refine o_d 1 [(13, iv p)] (by kernel_rfl) (zb6 rfl (zcc (zc7 (outC h_ref6_out p 0 65535) rfl rfl rfl (o_d 1 [(15, bv (zfo p 0 65535))] (by kernel_rfl) (zG (zC (zaj (t := zfo p 0 65535) rfl (fun h2 => ?_) (fun h2 => ?_))))))))
  ·skip
   refine zR (zV (o_s (by refine zbZ (c := pl zH) ?_; exact zke) ?_))
   refine zc1 (by refine qQ (c' := pl zH) rfl rfl rfl ?_ ?_ ?_; exact zN _; exact zbU (by omega); exact qO zH zH) ?_
   refine o_d 1 [(9, iv 14)] (by kernel_rfl) (zG (zC (zaZ ?_)))
   have e0 : zax a p ka kb na nb = (zH, 14) := by
    have hp := zeY a p
    simp only [h1, h2, Bool.true_or, Bool.false_or] at hp
    have hp2 : za0 a p = false := by revert hp; cases za0 a p <;> simp
    simp [zax, hp2]
   exact qH [qG zH, iv 14] (zaS rfl rfl (zal zH) (qE rfl rfl)) (all_cons (qZ zH) (all_cons rfl rfl)) (by rw [e0]; rfl) rfl rfl
  ·skip
   refine zaq (zC (zR (zV (o_b 6 [(22, sv 3 0 3 3), (21, .agg #[uv na, uv nb]), (20, .agg #[uv ka, uv kb]), (19, .agg #[uv 0, uv 0]), (18, iv p), (17, iv a)] [cw [uv ka, uv kb], cw [uv na, uv nb], cw (pl zH), cw [uv 0, uv 0, uv ka, uv kb, uv na, uv nb]] (by kernel_rfl) (zcc (callS (a1 := [.int .i64 1, .slice (some ⟨0, 0, none⟩) 3 3]) [3] [[uv 0, uv 0, uv ka, uv kb, uv na, uv nb]] (refRingC h_ref5_Ring 1 0 0 ka kb na nb) rfl (fun _ => rfl) ⟨⟨_, rfl⟩, rfl, trivial⟩ rfl ?_))))))
   refine o_s (by refine zbZ (c := pl (newS a p ka kb na nb)) ?_; exact (bld_newS a p ka kb na nb)) ?_
   refine zc1 (by refine qQ (c' := pl (newS a p ka kb na nb)) rfl rfl rfl ?_ ?_ ?_; exact zN _; exact zbU (by omega); exact qO zH (newS a p ka kb na nb)) ?_
   refine o_b 1 [(9, iv 0)] [cw [uv ka, uv kb], cw [uv na, uv nb], cw (pl (newS a p ka kb na nb)), cw [uv 0, uv 0, uv ka, uv kb, uv na, uv nb]] (by kernel_rfl) (zG (z5 [(9, iv 0), (8, pv 2 0)] (by kernel_rfl) (zaZ ?_)))
   have e0 : zax a p ka kb na nb = (newS a p ka kb na nb, 0) := by
    have hp := zeY a p
    simp only [h1, h2, Bool.true_or, Bool.false_or] at hp
    have hp2 : za0 a p = true := by revert hp; cases za0 a p <;> simp
    simp [zax, hp2]
   exact qH [qG (newS a p ka kb na nb), iv 0] (zaS rfl rfl (zal (newS a p ka kb na nb)) (qE rfl rfl)) (all_cons (qZ (newS a p ka kb na nb)) (all_cons rfl rfl)) (by rw [e0]; rfl) rfl rfl
def zc8 (n : Int) : Ent := (bif ((i64.wrap ((zF n 1125899906842624).tdiv 48)).tmod 29) == 0 then (bif ((zF n 1125899906842624).tmod 8) == 0 then ⟨1, (i64.wrap ((zF n 1125899906842624).tdiv 48)).tmod 66, (i64.wrap ((zF n 1125899906842624).tdiv 400)).tmod 5, (i64.wrap ((zF n 1125899906842624).tdiv 2000)).tmod 3, i64.wrap (1 + (i64.wrap ((zF n 1125899906842624).tdiv 6000)).tmod 8), 0, 0⟩ else (bif ((zF n 1125899906842624).tmod 8) == 1 then ⟨1, (i64.wrap ((zF n 1125899906842624).tdiv 48)).tmod 66, (i64.wrap ((zF n 1125899906842624).tdiv 400)).tmod 5, (i64.wrap ((zF n 1125899906842624).tdiv 2000)).tmod 3, i64.wrap (1 + (i64.wrap ((zF n 1125899906842624).tdiv 6000)).tmod 8), 0, 0⟩ else (bif ((zF n 1125899906842624).tmod 8) == 2 then ⟨2, (i64.wrap ((zF n 1125899906842624).tdiv 48)).tmod 66, 0, 0, 0, 0, 0⟩ else (bif ((zF n 1125899906842624).tmod 8) == 3 then ⟨3, (i64.wrap ((zF n 1125899906842624).tdiv 48)).tmod 66, 0, 0, 0, 0, 0⟩ else (bif ((zF n 1125899906842624).tmod 8) == 4 then ⟨4, (i64.wrap ((zF n 1125899906842624).tdiv 48)).tmod 66, 0, 0, 0, 0, 0⟩ else (bif ((zF n 1125899906842624).tmod 8) == 5 then ⟨5, (i64.wrap ((zF n 1125899906842624).tdiv 48)).tmod 66, 0, 0, 0, 0, 0⟩ else ⟨6, 0, 0, 0, 0, ze0 (zF n 1125899906842624), zeZ (zF n 1125899906842624)⟩)))))) else (bif ((zF n 1125899906842624).tmod 8) == 0 then ⟨1, (i64.wrap ((zF n 1125899906842624).tdiv 8)).tmod 6, (i64.wrap ((zF n 1125899906842624).tdiv 400)).tmod 5, (i64.wrap ((zF n 1125899906842624).tdiv 2000)).tmod 3, i64.wrap (1 + (i64.wrap ((zF n 1125899906842624).tdiv 6000)).tmod 8), 0, 0⟩ else (bif ((zF n 1125899906842624).tmod 8) == 1 then ⟨1, (i64.wrap ((zF n 1125899906842624).tdiv 8)).tmod 6, (i64.wrap ((zF n 1125899906842624).tdiv 400)).tmod 5, (i64.wrap ((zF n 1125899906842624).tdiv 2000)).tmod 3, i64.wrap (1 + (i64.wrap ((zF n 1125899906842624).tdiv 6000)).tmod 8), 0, 0⟩ else (bif ((zF n 1125899906842624).tmod 8) == 2 then ⟨2, (i64.wrap ((zF n 1125899906842624).tdiv 8)).tmod 6, 0, 0, 0, 0, 0⟩ else (bif ((zF n 1125899906842624).tmod 8) == 3 then ⟨3, (i64.wrap ((zF n 1125899906842624).tdiv 8)).tmod 6, 0, 0, 0, 0, 0⟩ else (bif ((zF n 1125899906842624).tmod 8) == 4 then ⟨4, (i64.wrap ((zF n 1125899906842624).tdiv 8)).tmod 6, 0, 0, 0, 0, 0⟩ else (bif ((zF n 1125899906842624).tmod 8) == 5 then ⟨5, (i64.wrap ((zF n 1125899906842624).tdiv 8)).tmod 6, 0, 0, 0, 0, 0⟩ else ⟨6, 0, 0, 0, 0, ze0 (zF n 1125899906842624), zeZ (zF n 1125899906842624)⟩)))))))
theorem EntryC {P : Program} (hc : zfJ P) (h_law6_within : zd6 P) (h_law5_Key : zgh P) (n : Int) :
  Env P "roundhouse/roundhouselaw6.Entry" [iv n] ([]) (Ans (.agg #[iv ((zc8 n).k), iv ((zc8 n).s), iv ((zc8 n).a), iv ((zc8 n).p), iv ((zc8 n).g), uv ((zc8 n).ka), uv ((zc8 n).kb)]) ([])) := by
 refine Env.by hc ?_
 unfold zfT
 show GC _ 0 _ _ ⟨reg [(0, iv n)], []⟩
 refine zR (zV (o_b 1 [(2, pv 0 0)] [cw [iv 0, iv 0, iv 0, iv 0, iv 0, uv 0, uv 0]] (by kernel_rfl) (zG (zC (zR (zV (o_d 1 [(5, iv n)] (by kernel_rfl) (zcc (zc7 (withinC h_law6_within n 1125899906842624 (by decide)) rfl rfl rfl ?_)))))))))
 refine o_d 1 [(3, iv (zF n 1125899906842624))] (by kernel_rfl) (zG (zC (zR (zV (o_d 4 [(4, iv ((i64.wrap ((zF n 1125899906842624).tdiv 8)).tmod 6)), (9, iv ((i64.wrap ((zF n 1125899906842624).tdiv 8)).tmod 6)), (8, iv (i64.wrap ((zF n 1125899906842624).tdiv 8))), (7, iv (zF n 1125899906842624))] (by kernel_rfl) (zG (zC (zR (zR (zV (o_d 4 [(13, bv (((i64.wrap ((zF n 1125899906842624).tdiv 48)).tmod 29) == 0)), (12, iv ((i64.wrap ((zF n 1125899906842624).tdiv 48)).tmod 29)), (11, iv (i64.wrap ((zF n 1125899906842624).tdiv 48))), (10, iv (zF n 1125899906842624))] (by kernel_rfl) (zG ?_))))))))))))
 refine zC (zaj (t := ((i64.wrap ((zF n 1125899906842624).tdiv 48)).tmod 29) == 0) rfl (fun h1 => ?_) (fun h1 => ?_))
 ·skip
  have h1' : (i64.wrap ((zF n 1125899906842624).tdiv 48)).tmod 29 = 0 := zcf h1
  refine zV (o_d 4 [(4, iv ((i64.wrap ((zF n 1125899906842624).tdiv 48)).tmod 66)), (16, iv ((i64.wrap ((zF n 1125899906842624).tdiv 48)).tmod 66)), (15, iv (i64.wrap ((zF n 1125899906842624).tdiv 48))), (14, iv (zF n 1125899906842624))] (by kernel_rfl) (zG (zC (zR (zR (zV (o_d 2 [(18, iv ((zF n 1125899906842624).tmod 8)), (17, iv (zF n 1125899906842624))] (by kernel_rfl) (zG (zC (zai (zR (zR ?_))))))))))))
  refine zV (o_d 2 [(19, bv (((zF n 1125899906842624).tmod 8) == 0)), (20, bv (((zF n 1125899906842624).tmod 8) == 0))] (by kernel_rfl) (zG (zC (zaj (t := ((zF n 1125899906842624).tmod 8) == 0) rfl (fun h2 => ?_) (fun h2 => ?_)))))
  ·skip
   have h2' : (zF n 1125899906842624).tmod 8 = 0 := zcf h2
   refine zaq (zC (zaj (t := ((zF n 1125899906842624).tmod 8) == 0) rfl (fun _ => ?_) (fun q => by rw [h2] at q; cases q)))
   refine zR (zV (o_b 13 [(33, .agg #[iv 1, iv ((i64.wrap ((zF n 1125899906842624).tdiv 48)).tmod 66), iv ((i64.wrap ((zF n 1125899906842624).tdiv 400)).tmod 5), iv ((i64.wrap ((zF n 1125899906842624).tdiv 2000)).tmod 3), iv (i64.wrap (1 + (i64.wrap ((zF n 1125899906842624).tdiv 6000)).tmod 8)), uv 0, uv 0]), (32, iv (i64.wrap (1 + (i64.wrap ((zF n 1125899906842624).tdiv 6000)).tmod 8))), (31, iv ((i64.wrap ((zF n 1125899906842624).tdiv 6000)).tmod 8)), (30, iv (i64.wrap ((zF n 1125899906842624).tdiv 6000))), (29, iv (zF n 1125899906842624)), (28, iv ((i64.wrap ((zF n 1125899906842624).tdiv 2000)).tmod 3)), (27, iv (i64.wrap ((zF n 1125899906842624).tdiv 2000))), (26, iv (zF n 1125899906842624)), (25, iv ((i64.wrap ((zF n 1125899906842624).tdiv 400)).tmod 5)), (24, iv (i64.wrap ((zF n 1125899906842624).tdiv 400))), (23, iv (zF n 1125899906842624)), (22, iv ((i64.wrap ((zF n 1125899906842624).tdiv 48)).tmod 66))] [cw [iv 1, iv ((i64.wrap ((zF n 1125899906842624).tdiv 48)).tmod 66), iv ((i64.wrap ((zF n 1125899906842624).tdiv 400)).tmod 5), iv ((i64.wrap ((zF n 1125899906842624).tdiv 2000)).tmod 3), iv (i64.wrap (1 + (i64.wrap ((zF n 1125899906842624).tdiv 6000)).tmod 8)), uv 0, uv 0]] (by kernel_rfl) (zG (z5 [(2, pv 0 0)] (by kernel_rfl) (zaZ ?_)))))
   have e0 : zc8 n = ⟨1, (i64.wrap ((zF n 1125899906842624).tdiv 48)).tmod 66, (i64.wrap ((zF n 1125899906842624).tdiv 400)).tmod 5, (i64.wrap ((zF n 1125899906842624).tdiv 2000)).tmod 3, i64.wrap (1 + (i64.wrap ((zF n 1125899906842624).tdiv 6000)).tmod 8), 0, 0⟩ := by
    simp only [zc8, h1, h2, cond_true, cond_false]
   exact qH [.agg #[iv 1, iv ((i64.wrap ((zF n 1125899906842624).tdiv 48)).tmod 66), iv ((i64.wrap ((zF n 1125899906842624).tdiv 400)).tmod 5), iv ((i64.wrap ((zF n 1125899906842624).tdiv 2000)).tmod 3), iv (i64.wrap (1 + (i64.wrap ((zF n 1125899906842624).tdiv 6000)).tmod 8)), uv 0, uv 0]] (zaS rfl rfl rfl rfl) rfl (by rw [e0]; rfl) rfl rfl
  ·skip
   have h2' : ¬ ((zF n 1125899906842624).tmod 8 = 0) := zcg h2
   refine zV (o_d 2 [(19, bv (((zF n 1125899906842624).tmod 8) == 1)), (21, bv (((zF n 1125899906842624).tmod 8) == 1))] (by kernel_rfl) (zG (zC (zaj (t := ((zF n 1125899906842624).tmod 8) == 1) rfl (fun h3 => ?_) (fun h3 => ?_)))))
   ·skip
    have h3' : (zF n 1125899906842624).tmod 8 = 1 := zcf h3
    refine zR (zV (o_b 13 [(33, .agg #[iv 1, iv ((i64.wrap ((zF n 1125899906842624).tdiv 48)).tmod 66), iv ((i64.wrap ((zF n 1125899906842624).tdiv 400)).tmod 5), iv ((i64.wrap ((zF n 1125899906842624).tdiv 2000)).tmod 3), iv (i64.wrap (1 + (i64.wrap ((zF n 1125899906842624).tdiv 6000)).tmod 8)), uv 0, uv 0]), (32, iv (i64.wrap (1 + (i64.wrap ((zF n 1125899906842624).tdiv 6000)).tmod 8))), (31, iv ((i64.wrap ((zF n 1125899906842624).tdiv 6000)).tmod 8)), (30, iv (i64.wrap ((zF n 1125899906842624).tdiv 6000))), (29, iv (zF n 1125899906842624)), (28, iv ((i64.wrap ((zF n 1125899906842624).tdiv 2000)).tmod 3)), (27, iv (i64.wrap ((zF n 1125899906842624).tdiv 2000))), (26, iv (zF n 1125899906842624)), (25, iv ((i64.wrap ((zF n 1125899906842624).tdiv 400)).tmod 5)), (24, iv (i64.wrap ((zF n 1125899906842624).tdiv 400))), (23, iv (zF n 1125899906842624)), (22, iv ((i64.wrap ((zF n 1125899906842624).tdiv 48)).tmod 66))] [cw [iv 1, iv ((i64.wrap ((zF n 1125899906842624).tdiv 48)).tmod 66), iv ((i64.wrap ((zF n 1125899906842624).tdiv 400)).tmod 5), iv ((i64.wrap ((zF n 1125899906842624).tdiv 2000)).tmod 3), iv (i64.wrap (1 + (i64.wrap ((zF n 1125899906842624).tdiv 6000)).tmod 8)), uv 0, uv 0]] (by kernel_rfl) (zG (z5 [(2, pv 0 0)] (by kernel_rfl) (zaZ ?_)))))
    have e0 : zc8 n = ⟨1, (i64.wrap ((zF n 1125899906842624).tdiv 48)).tmod 66, (i64.wrap ((zF n 1125899906842624).tdiv 400)).tmod 5, (i64.wrap ((zF n 1125899906842624).tdiv 2000)).tmod 3, i64.wrap (1 + (i64.wrap ((zF n 1125899906842624).tdiv 6000)).tmod 8), 0, 0⟩ := by
     simp only [zc8, h1, h2, h3, cond_true, cond_false]
    exact qH [.agg #[iv 1, iv ((i64.wrap ((zF n 1125899906842624).tdiv 48)).tmod 66), iv ((i64.wrap ((zF n 1125899906842624).tdiv 400)).tmod 5), iv ((i64.wrap ((zF n 1125899906842624).tdiv 2000)).tmod 3), iv (i64.wrap (1 + (i64.wrap ((zF n 1125899906842624).tdiv 6000)).tmod 8)), uv 0, uv 0]] (zaS rfl rfl rfl rfl) rfl (by rw [e0]; rfl) rfl rfl
   ·skip
    have h3' : ¬ ((zF n 1125899906842624).tmod 8 = 1) := zcg h3
    refine zR (zV (o_d 2 [(34, bv (((zF n 1125899906842624).tmod 8) == 2)), (35, bv (((zF n 1125899906842624).tmod 8) == 2))] (by kernel_rfl) (zG (zC (zaj (t := ((zF n 1125899906842624).tmod 8) == 2) rfl (fun h4 => ?_) (fun h4 => ?_))))))
    ·skip
     have h4' : (zF n 1125899906842624).tmod 8 = 2 := zcf h4
     refine zR (zV (o_b 3 [(37, .agg #[iv 2, iv ((i64.wrap ((zF n 1125899906842624).tdiv 48)).tmod 66), iv 0, iv 0, iv 0, uv 0, uv 0]), (36, iv ((i64.wrap ((zF n 1125899906842624).tdiv 48)).tmod 66))] [cw [iv 2, iv ((i64.wrap ((zF n 1125899906842624).tdiv 48)).tmod 66), iv 0, iv 0, iv 0, uv 0, uv 0]] (by kernel_rfl) (zG (z5 [(2, pv 0 0)] (by kernel_rfl) (zaZ ?_)))))
     have e0 : zc8 n = ⟨2, (i64.wrap ((zF n 1125899906842624).tdiv 48)).tmod 66, 0, 0, 0, 0, 0⟩ := by
      simp only [zc8, h1, h2, h3, h4, cond_true, cond_false]
     exact qH [.agg #[iv 2, iv ((i64.wrap ((zF n 1125899906842624).tdiv 48)).tmod 66), iv 0, iv 0, iv 0, uv 0, uv 0]] (zaS rfl rfl rfl rfl) rfl (by rw [e0]; rfl) rfl rfl
    ·skip
     have h4' : ¬ ((zF n 1125899906842624).tmod 8 = 2) := zcg h4
     refine zR (zV (o_d 2 [(38, bv (((zF n 1125899906842624).tmod 8) == 3)), (39, bv (((zF n 1125899906842624).tmod 8) == 3))] (by kernel_rfl) (zG (z5 [(38, bv (((zF n 1125899906842624).tmod 8) == 3)), (18, iv ((zF n 1125899906842624).tmod 8)), (4, iv ((i64.wrap ((zF n 1125899906842624).tdiv 48)).tmod 66)), (3, iv (zF n 1125899906842624)), (2, pv 0 0)] (by kernel_rfl) (zaj (t := ((zF n 1125899906842624).tmod 8) == 3) rfl (fun h5 => ?_) (fun h5 => ?_))))))
     ·skip
      have h5' : (zF n 1125899906842624).tmod 8 = 3 := zcf h5
      refine zR (zV (o_b 3 [(41, .agg #[iv 3, iv ((i64.wrap ((zF n 1125899906842624).tdiv 48)).tmod 66), iv 0, iv 0, iv 0, uv 0, uv 0]), (40, iv ((i64.wrap ((zF n 1125899906842624).tdiv 48)).tmod 66))] [cw [iv 3, iv ((i64.wrap ((zF n 1125899906842624).tdiv 48)).tmod 66), iv 0, iv 0, iv 0, uv 0, uv 0]] (by kernel_rfl) (zG (zC (zaZ ?_)))))
      have e0 : zc8 n = ⟨3, (i64.wrap ((zF n 1125899906842624).tdiv 48)).tmod 66, 0, 0, 0, 0, 0⟩ := by
       simp only [zc8, h1, h2, h3, h4, h5, cond_true, cond_false]
      exact qH [.agg #[iv 3, iv ((i64.wrap ((zF n 1125899906842624).tdiv 48)).tmod 66), iv 0, iv 0, iv 0, uv 0, uv 0]] (zaS rfl rfl rfl rfl) rfl (by rw [e0]; rfl) rfl rfl
     ·skip
      have h5' : ¬ ((zF n 1125899906842624).tmod 8 = 3) := zcg h5
      refine zR (zV (o_d 2 [(42, bv (((zF n 1125899906842624).tmod 8) == 4)), (43, bv (((zF n 1125899906842624).tmod 8) == 4))] (by kernel_rfl) (zG (zC (zaj (t := ((zF n 1125899906842624).tmod 8) == 4) rfl (fun h6 => ?_) (fun h6 => ?_))))))
      ·skip
       have h6' : (zF n 1125899906842624).tmod 8 = 4 := zcf h6
       refine zR (zV (o_b 3 [(45, .agg #[iv 4, iv ((i64.wrap ((zF n 1125899906842624).tdiv 48)).tmod 66), iv 0, iv 0, iv 0, uv 0, uv 0]), (44, iv ((i64.wrap ((zF n 1125899906842624).tdiv 48)).tmod 66))] [cw [iv 4, iv ((i64.wrap ((zF n 1125899906842624).tdiv 48)).tmod 66), iv 0, iv 0, iv 0, uv 0, uv 0]] (by kernel_rfl) (zG (zC (zaZ ?_)))))
       have e0 : zc8 n = ⟨4, (i64.wrap ((zF n 1125899906842624).tdiv 48)).tmod 66, 0, 0, 0, 0, 0⟩ := by
        simp only [zc8, h1, h2, h3, h4, h5, h6, cond_true, cond_false]
       exact qH [.agg #[iv 4, iv ((i64.wrap ((zF n 1125899906842624).tdiv 48)).tmod 66), iv 0, iv 0, iv 0, uv 0, uv 0]] (zaS rfl rfl rfl rfl) rfl (by rw [e0]; rfl) rfl rfl
      ·skip
       have h6' : ¬ ((zF n 1125899906842624).tmod 8 = 4) := zcg h6
       refine zR (zV (o_d 2 [(46, bv (((zF n 1125899906842624).tmod 8) == 5)), (47, bv (((zF n 1125899906842624).tmod 8) == 5))] (by kernel_rfl) (zG (zC (zaj (t := ((zF n 1125899906842624).tmod 8) == 5) rfl (fun h7 => ?_) (fun h7 => ?_))))))
       ·skip
        have h7' : (zF n 1125899906842624).tmod 8 = 5 := zcf h7
        refine zR (zV (o_b 3 [(49, .agg #[iv 5, iv ((i64.wrap ((zF n 1125899906842624).tdiv 48)).tmod 66), iv 0, iv 0, iv 0, uv 0, uv 0]), (48, iv ((i64.wrap ((zF n 1125899906842624).tdiv 48)).tmod 66))] [cw [iv 5, iv ((i64.wrap ((zF n 1125899906842624).tdiv 48)).tmod 66), iv 0, iv 0, iv 0, uv 0, uv 0]] (by kernel_rfl) (zG (zC (zaZ ?_)))))
        have e0 : zc8 n = ⟨5, (i64.wrap ((zF n 1125899906842624).tdiv 48)).tmod 66, 0, 0, 0, 0, 0⟩ := by
         simp only [zc8, h1, h2, h3, h4, h5, h6, h7, cond_true, cond_false]
        exact qH [.agg #[iv 5, iv ((i64.wrap ((zF n 1125899906842624).tdiv 48)).tmod 66), iv 0, iv 0, iv 0, uv 0, uv 0]] (zaS rfl rfl rfl rfl) rfl (by rw [e0]; rfl) rfl rfl
       ·skip
        have h7' : ¬ ((zF n 1125899906842624).tmod 8 = 5) := zcg h7
        refine zaq (zC (zR (zV (o_d 1 [(50, iv (zF n 1125899906842624))] (by kernel_rfl) (zcc (zc7 (KeyC h_law5_Key (zF n 1125899906842624)) rfl rfl rfl (o_b 2 [(52, .agg #[iv 6, iv 0, iv 0, iv 0, iv 0, uv (ze0 (zF n 1125899906842624)), uv (zeZ (zF n 1125899906842624))])] [cw [iv 6, iv 0, iv 0, iv 0, iv 0, uv (ze0 (zF n 1125899906842624)), uv (zeZ (zF n 1125899906842624))]] (by kernel_rfl) (zG (zC (zaZ ?_))))))))))
        have e0 : zc8 n = ⟨6, 0, 0, 0, 0, ze0 (zF n 1125899906842624), zeZ (zF n 1125899906842624)⟩ := by
         simp only [zc8, h1, h2, h3, h4, h5, h6, h7, cond_true, cond_false]
        exact qH [.agg #[iv 6, iv 0, iv 0, iv 0, iv 0, uv (ze0 (zF n 1125899906842624)), uv (zeZ (zF n 1125899906842624))]] (zaS rfl rfl rfl rfl) rfl (by rw [e0]; rfl) rfl rfl
 ·skip
  have h1' : ¬ ((i64.wrap ((zF n 1125899906842624).tdiv 48)).tmod 29 = 0) := zcg h1
  refine zaq (zC (zR (zR (zV (o_d 2 [(18, iv ((zF n 1125899906842624).tmod 8)), (17, iv (zF n 1125899906842624))] (by kernel_rfl) (zG (zC (zai (zR (zR (zV (o_d 2 [(19, bv (((zF n 1125899906842624).tmod 8) == 0)), (20, bv (((zF n 1125899906842624).tmod 8) == 0))] (by kernel_rfl) ?_))))))))))))
  refine zG (zC (zaj (t := ((zF n 1125899906842624).tmod 8) == 0) rfl (fun h8 => ?_) (fun h8 => ?_)))
  ·skip
   have h8' : (zF n 1125899906842624).tmod 8 = 0 := zcf h8
   refine zaq (zC (zaj (t := ((zF n 1125899906842624).tmod 8) == 0) rfl (fun _ => ?_) (fun q => by rw [h8] at q; cases q)))
   refine zR (zV (o_b 13 [(33, .agg #[iv 1, iv ((i64.wrap ((zF n 1125899906842624).tdiv 8)).tmod 6), iv ((i64.wrap ((zF n 1125899906842624).tdiv 400)).tmod 5), iv ((i64.wrap ((zF n 1125899906842624).tdiv 2000)).tmod 3), iv (i64.wrap (1 + (i64.wrap ((zF n 1125899906842624).tdiv 6000)).tmod 8)), uv 0, uv 0]), (32, iv (i64.wrap (1 + (i64.wrap ((zF n 1125899906842624).tdiv 6000)).tmod 8))), (31, iv ((i64.wrap ((zF n 1125899906842624).tdiv 6000)).tmod 8)), (30, iv (i64.wrap ((zF n 1125899906842624).tdiv 6000))), (29, iv (zF n 1125899906842624)), (28, iv ((i64.wrap ((zF n 1125899906842624).tdiv 2000)).tmod 3)), (27, iv (i64.wrap ((zF n 1125899906842624).tdiv 2000))), (26, iv (zF n 1125899906842624)), (25, iv ((i64.wrap ((zF n 1125899906842624).tdiv 400)).tmod 5)), (24, iv (i64.wrap ((zF n 1125899906842624).tdiv 400))), (23, iv (zF n 1125899906842624)), (22, iv ((i64.wrap ((zF n 1125899906842624).tdiv 8)).tmod 6))] [cw [iv 1, iv ((i64.wrap ((zF n 1125899906842624).tdiv 8)).tmod 6), iv ((i64.wrap ((zF n 1125899906842624).tdiv 400)).tmod 5), iv ((i64.wrap ((zF n 1125899906842624).tdiv 2000)).tmod 3), iv (i64.wrap (1 + (i64.wrap ((zF n 1125899906842624).tdiv 6000)).tmod 8)), uv 0, uv 0]] (by kernel_rfl) (zG (z5 [(2, pv 0 0)] (by kernel_rfl) (zaZ ?_)))))
   have e0 : zc8 n = ⟨1, (i64.wrap ((zF n 1125899906842624).tdiv 8)).tmod 6, (i64.wrap ((zF n 1125899906842624).tdiv 400)).tmod 5, (i64.wrap ((zF n 1125899906842624).tdiv 2000)).tmod 3, i64.wrap (1 + (i64.wrap ((zF n 1125899906842624).tdiv 6000)).tmod 8), 0, 0⟩ := by
    simp only [zc8, h1, h8, cond_true, cond_false]
   exact qH [.agg #[iv 1, iv ((i64.wrap ((zF n 1125899906842624).tdiv 8)).tmod 6), iv ((i64.wrap ((zF n 1125899906842624).tdiv 400)).tmod 5), iv ((i64.wrap ((zF n 1125899906842624).tdiv 2000)).tmod 3), iv (i64.wrap (1 + (i64.wrap ((zF n 1125899906842624).tdiv 6000)).tmod 8)), uv 0, uv 0]] (zaS rfl rfl rfl rfl) rfl (by rw [e0]; rfl) rfl rfl
  ·skip
   have h8' : ¬ ((zF n 1125899906842624).tmod 8 = 0) := zcg h8
   refine zV (o_d 2 [(19, bv (((zF n 1125899906842624).tmod 8) == 1)), (21, bv (((zF n 1125899906842624).tmod 8) == 1))] (by kernel_rfl) (zG (zC (zaj (t := ((zF n 1125899906842624).tmod 8) == 1) rfl (fun h9 => ?_) (fun h9 => ?_)))))
   ·skip
    have h9' : (zF n 1125899906842624).tmod 8 = 1 := zcf h9
    refine zR (zV (o_b 13 [(33, .agg #[iv 1, iv ((i64.wrap ((zF n 1125899906842624).tdiv 8)).tmod 6), iv ((i64.wrap ((zF n 1125899906842624).tdiv 400)).tmod 5), iv ((i64.wrap ((zF n 1125899906842624).tdiv 2000)).tmod 3), iv (i64.wrap (1 + (i64.wrap ((zF n 1125899906842624).tdiv 6000)).tmod 8)), uv 0, uv 0]), (32, iv (i64.wrap (1 + (i64.wrap ((zF n 1125899906842624).tdiv 6000)).tmod 8))), (31, iv ((i64.wrap ((zF n 1125899906842624).tdiv 6000)).tmod 8)), (30, iv (i64.wrap ((zF n 1125899906842624).tdiv 6000))), (29, iv (zF n 1125899906842624)), (28, iv ((i64.wrap ((zF n 1125899906842624).tdiv 2000)).tmod 3)), (27, iv (i64.wrap ((zF n 1125899906842624).tdiv 2000))), (26, iv (zF n 1125899906842624)), (25, iv ((i64.wrap ((zF n 1125899906842624).tdiv 400)).tmod 5)), (24, iv (i64.wrap ((zF n 1125899906842624).tdiv 400))), (23, iv (zF n 1125899906842624)), (22, iv ((i64.wrap ((zF n 1125899906842624).tdiv 8)).tmod 6))] [cw [iv 1, iv ((i64.wrap ((zF n 1125899906842624).tdiv 8)).tmod 6), iv ((i64.wrap ((zF n 1125899906842624).tdiv 400)).tmod 5), iv ((i64.wrap ((zF n 1125899906842624).tdiv 2000)).tmod 3), iv (i64.wrap (1 + (i64.wrap ((zF n 1125899906842624).tdiv 6000)).tmod 8)), uv 0, uv 0]] (by kernel_rfl) (zG (z5 [(2, pv 0 0)] (by kernel_rfl) (zaZ ?_)))))
    have e0 : zc8 n = ⟨1, (i64.wrap ((zF n 1125899906842624).tdiv 8)).tmod 6, (i64.wrap ((zF n 1125899906842624).tdiv 400)).tmod 5, (i64.wrap ((zF n 1125899906842624).tdiv 2000)).tmod 3, i64.wrap (1 + (i64.wrap ((zF n 1125899906842624).tdiv 6000)).tmod 8), 0, 0⟩ := by
     simp only [zc8, h1, h8, h9, cond_true, cond_false]
    exact qH [.agg #[iv 1, iv ((i64.wrap ((zF n 1125899906842624).tdiv 8)).tmod 6), iv ((i64.wrap ((zF n 1125899906842624).tdiv 400)).tmod 5), iv ((i64.wrap ((zF n 1125899906842624).tdiv 2000)).tmod 3), iv (i64.wrap (1 + (i64.wrap ((zF n 1125899906842624).tdiv 6000)).tmod 8)), uv 0, uv 0]] (zaS rfl rfl rfl rfl) rfl (by rw [e0]; rfl) rfl rfl
   ·skip
    have h9' : ¬ ((zF n 1125899906842624).tmod 8 = 1) := zcg h9
    refine zR (zV (o_d 2 [(34, bv (((zF n 1125899906842624).tmod 8) == 2)), (35, bv (((zF n 1125899906842624).tmod 8) == 2))] (by kernel_rfl) (zG (zC (zaj (t := ((zF n 1125899906842624).tmod 8) == 2) rfl (fun h10 => ?_) (fun h10 => ?_))))))
    ·skip
     have h10' : (zF n 1125899906842624).tmod 8 = 2 := zcf h10
     refine zR (zV (o_b 3 [(37, .agg #[iv 2, iv ((i64.wrap ((zF n 1125899906842624).tdiv 8)).tmod 6), iv 0, iv 0, iv 0, uv 0, uv 0]), (36, iv ((i64.wrap ((zF n 1125899906842624).tdiv 8)).tmod 6))] [cw [iv 2, iv ((i64.wrap ((zF n 1125899906842624).tdiv 8)).tmod 6), iv 0, iv 0, iv 0, uv 0, uv 0]] (by kernel_rfl) (zG (z5 [(2, pv 0 0)] (by kernel_rfl) (zaZ ?_)))))
     have e0 : zc8 n = ⟨2, (i64.wrap ((zF n 1125899906842624).tdiv 8)).tmod 6, 0, 0, 0, 0, 0⟩ := by
      simp only [zc8, h1, h8, h9, h10, cond_true, cond_false]
     exact qH [.agg #[iv 2, iv ((i64.wrap ((zF n 1125899906842624).tdiv 8)).tmod 6), iv 0, iv 0, iv 0, uv 0, uv 0]] (zaS rfl rfl rfl rfl) rfl (by rw [e0]; rfl) rfl rfl
    ·skip
     have h10' : ¬ ((zF n 1125899906842624).tmod 8 = 2) := zcg h10
     refine zR (zV (o_d 2 [(38, bv (((zF n 1125899906842624).tmod 8) == 3)), (39, bv (((zF n 1125899906842624).tmod 8) == 3))] (by kernel_rfl) (zG (zC (zaj (t := ((zF n 1125899906842624).tmod 8) == 3) rfl (fun h11 => ?_) (fun h11 => ?_))))))
     ·skip
      have h11' : (zF n 1125899906842624).tmod 8 = 3 := zcf h11
      refine zR (zV (o_b 3 [(41, .agg #[iv 3, iv ((i64.wrap ((zF n 1125899906842624).tdiv 8)).tmod 6), iv 0, iv 0, iv 0, uv 0, uv 0]), (40, iv ((i64.wrap ((zF n 1125899906842624).tdiv 8)).tmod 6))] [cw [iv 3, iv ((i64.wrap ((zF n 1125899906842624).tdiv 8)).tmod 6), iv 0, iv 0, iv 0, uv 0, uv 0]] (by kernel_rfl) (zG (z5 [(2, pv 0 0)] (by kernel_rfl) (zaZ ?_)))))
      have e0 : zc8 n = ⟨3, (i64.wrap ((zF n 1125899906842624).tdiv 8)).tmod 6, 0, 0, 0, 0, 0⟩ := by
       simp only [zc8, h1, h8, h9, h10, h11, cond_true, cond_false]
      exact qH [.agg #[iv 3, iv ((i64.wrap ((zF n 1125899906842624).tdiv 8)).tmod 6), iv 0, iv 0, iv 0, uv 0, uv 0]] (zaS rfl rfl rfl rfl) rfl (by rw [e0]; rfl) rfl rfl
     ·skip
      have h11' : ¬ ((zF n 1125899906842624).tmod 8 = 3) := zcg h11
      refine zR (zV (o_d 2 [(42, bv (((zF n 1125899906842624).tmod 8) == 4)), (43, bv (((zF n 1125899906842624).tmod 8) == 4))] (by kernel_rfl) (zG (zC (zaj (t := ((zF n 1125899906842624).tmod 8) == 4) rfl (fun h12 => ?_) (fun h12 => ?_))))))
      ·skip
       have h12' : (zF n 1125899906842624).tmod 8 = 4 := zcf h12
       refine zR (zV (o_b 3 [(45, .agg #[iv 4, iv ((i64.wrap ((zF n 1125899906842624).tdiv 8)).tmod 6), iv 0, iv 0, iv 0, uv 0, uv 0]), (44, iv ((i64.wrap ((zF n 1125899906842624).tdiv 8)).tmod 6))] [cw [iv 4, iv ((i64.wrap ((zF n 1125899906842624).tdiv 8)).tmod 6), iv 0, iv 0, iv 0, uv 0, uv 0]] (by kernel_rfl) (zG (z5 [(2, pv 0 0)] (by kernel_rfl) (zaZ ?_)))))
       have e0 : zc8 n = ⟨4, (i64.wrap ((zF n 1125899906842624).tdiv 8)).tmod 6, 0, 0, 0, 0, 0⟩ := by
        simp only [zc8, h1, h8, h9, h10, h11, h12, cond_true, cond_false]
       exact qH [.agg #[iv 4, iv ((i64.wrap ((zF n 1125899906842624).tdiv 8)).tmod 6), iv 0, iv 0, iv 0, uv 0, uv 0]] (zaS rfl rfl rfl rfl) rfl (by rw [e0]; rfl) rfl rfl
      ·skip
       have h12' : ¬ ((zF n 1125899906842624).tmod 8 = 4) := zcg h12
       refine zR (zV (o_d 2 [(46, bv (((zF n 1125899906842624).tmod 8) == 5)), (47, bv (((zF n 1125899906842624).tmod 8) == 5))] (by kernel_rfl) (zG (z5 [(46, bv (((zF n 1125899906842624).tmod 8) == 5)), (4, iv ((i64.wrap ((zF n 1125899906842624).tdiv 8)).tmod 6)), (3, iv (zF n 1125899906842624)), (2, pv 0 0)] (by kernel_rfl) (zaj (t := ((zF n 1125899906842624).tmod 8) == 5) rfl (fun h13 => ?_) (fun h13 => ?_))))))
       ·skip
        have h13' : (zF n 1125899906842624).tmod 8 = 5 := zcf h13
        refine zR (zV (o_b 3 [(49, .agg #[iv 5, iv ((i64.wrap ((zF n 1125899906842624).tdiv 8)).tmod 6), iv 0, iv 0, iv 0, uv 0, uv 0]), (48, iv ((i64.wrap ((zF n 1125899906842624).tdiv 8)).tmod 6))] [cw [iv 5, iv ((i64.wrap ((zF n 1125899906842624).tdiv 8)).tmod 6), iv 0, iv 0, iv 0, uv 0, uv 0]] (by kernel_rfl) (zG (zC (zaZ ?_)))))
        have e0 : zc8 n = ⟨5, (i64.wrap ((zF n 1125899906842624).tdiv 8)).tmod 6, 0, 0, 0, 0, 0⟩ := by
         simp only [zc8, h1, h8, h9, h10, h11, h12, h13, cond_true, cond_false]
        exact qH [.agg #[iv 5, iv ((i64.wrap ((zF n 1125899906842624).tdiv 8)).tmod 6), iv 0, iv 0, iv 0, uv 0, uv 0]] (zaS rfl rfl rfl rfl) rfl (by rw [e0]; rfl) rfl rfl
       ·skip
        have h13' : ¬ ((zF n 1125899906842624).tmod 8 = 5) := zcg h13
        refine zaq (zC (zR (zV (o_d 1 [(50, iv (zF n 1125899906842624))] (by kernel_rfl) (zcc (zc7 (KeyC h_law5_Key (zF n 1125899906842624)) rfl rfl rfl (o_b 2 [(52, .agg #[iv 6, iv 0, iv 0, iv 0, iv 0, uv (ze0 (zF n 1125899906842624)), uv (zeZ (zF n 1125899906842624))])] [cw [iv 6, iv 0, iv 0, iv 0, iv 0, uv (ze0 (zF n 1125899906842624)), uv (zeZ (zF n 1125899906842624))]] (by kernel_rfl) (zG (zC (zaZ ?_))))))))))
        have e0 : zc8 n = ⟨6, 0, 0, 0, 0, ze0 (zF n 1125899906842624), zeZ (zF n 1125899906842624)⟩ := by
         simp only [zc8, h1, h8, h9, h10, h11, h12, h13, cond_true, cond_false]
        exact qH [.agg #[iv 6, iv 0, iv 0, iv 0, iv 0, uv (ze0 (zF n 1125899906842624)), uv (zeZ (zF n 1125899906842624))]] (zaS rfl rfl rfl rfl) rfl (by rw [e0]; rfl) rfl rfl
end Go.Rh

set_option maxHeartbeats 8000000
namespace Go.Rh
def stepM (p : qL) (n : Int) : qL := if (zO p (zc8 n)).2 = 0 then (zO p (zc8 n)).1 else p
def makeS (ns : List Int) (k : Nat) : qL := (ns.take k).foldl stepM (zax 10 80 (ze0 1) (zeZ 1) (ze0 2) (zeZ 2)).1
theorem MakeC {P : Program} (hc : z6 P "roundhouse/roundhouselaw6.Make" = some zfj) (h_law5_Key : zgh P) (h_ref6_New : zgg P) (h_ref6_out : zdw P) (h_ref5_Ring : zep P) (h_law6_Entry : zfJ P) (h_law6_within : zd6 P) (h_ref6_Apply : zfI P) (h_ref6_Check : zeF P) (h_ref6_bad : zgf P) (h_ref6_Held : zeo P) (h_ref5_Next : zfe P) (o : Option Nat) (ns : List Int) (hnns : o = none → ns = []) (hl : (ns.length : Int) ≤ 9223372036854775807) (k : Nat) (hk : (k : Int) ≤ 1000) :
  Env P "roundhouse/roundhouselaw6.Make" [inV o 0 ns.length, iv (k : Int)] ([inB o (ii ns)]) (Ans (qG (makeS ns k)) ([inB o (ii ns)])) := by
 refine Env.by hc ?_
 unfold zfj
 show GC _ 1 _ _ ⟨reg [(0, inV o 0 ns.length), (1, iv (k : Int))], [inB o (ii ns)]⟩
 refine zR (zV (o_b 1 [(4, pv 1 0)] [inB o (ii ns), cw (pl zH)] (by kernel_rfl) (zG (zC (zR (zV (zcc (zc7 (KeyC h_law5_Key 1) rfl rfl rfl (zcc (zc7 (KeyC h_law5_Key 2) rfl rfl rfl (zcc (zc7 (refNewC h_ref6_New h_ref6_out h_ref5_Ring 10 80 (ze0 1) (zeZ 1) (ze0 2) (zeZ 2)) rfl rfl (all_cons (qZ ((zax 10 80 (ze0 1) (zeZ 1) (ze0 2) (zeZ 2)).1)) (all_cons rfl rfl)) ?_))))))))))))
 refine o_b 4 [(5, pv 2 0), (15, iv ((zax 10 80 (ze0 1) (zeZ 1) (ze0 2) (zeZ 2)).2)), (14, qG ((zax 10 80 (ze0 1) (zeZ 1) (ze0 2) (zeZ 2)).1)), (10, .tuple #[qG ((zax 10 80 (ze0 1) (zeZ 1) (ze0 2) (zeZ 2)).1), iv ((zax 10 80 (ze0 1) (zeZ 1) (ze0 2) (zeZ 2)).2)])] [inB o (ii ns), cw (pl zH), cw (pl zH)] (by kernel_rfl) (zc1 (by refine qQ (c' := pl ((zax 10 80 (ze0 1) (zeZ 1) (ze0 2) (zeZ 2)).1)) rfl rfl rfl ?_ ?_ ?_; exact zN _; exact zbU (by omega); exact qO zH ((zax 10 80 (ze0 1) (zeZ 1) (ze0 2) (zeZ 2)).1)) ?_)
 refine o_b 1 [(6, iv ((zax 10 80 (ze0 1) (zeZ 1) (ze0 2) (zeZ 2)).2))] [inB o (ii ns), cw (pl zH), cw (pl ((zax 10 80 (ze0 1) (zeZ 1) (ze0 2) (zeZ 2)).1))] (by kernel_rfl) (zG (zC (zR (zR (zV (o_d 1 [(7, iv 0)] (by kernel_rfl) (zG (zC (zai (zdm (fun μ s => ∃ (i : Nat), ∃ (d : qL), μ = ns.length - i ∧ (i ≤ ns.length ∧ i ≤ k) ∧ (((ns.drop i).take (k - i)).foldl stepM d = makeS ns k) ∧ s = ⟨reg [(7, iv (i : Int)), (5, pv 2 0), (4, pv 1 0), (0, inV o 0 ns.length), (1, iv (k : Int))], [inB o (ii ns), cw (pl zH), cw (pl d)]⟩) ⟨(ns.length - 0), ?_⟩ ?_))))))))))
 ·skip
  refine ⟨⟨reg [(7, iv (0 : Int)), (5, pv 2 0), (4, pv 1 0), (0, inV o 0 ns.length), (1, iv (k : Int))], [inB o (ii ns), cw (pl zH), cw (pl ((zax 10 80 (ze0 1) (zeZ 1) (ze0 2) (zeZ 2)).1))]⟩, ?_⟩
  refine ⟨?_, ?_⟩
  ·exact Wk.ren [0, 1, 2] rfl rfl (by decide) ⟨rfl, ⟨rfl, ⟨rfl, ⟨((zio o rfl)).trans rfl, ⟨rfl, trivial⟩⟩⟩⟩⟩ ⟨.inl (ziS o (zaY ns)), ⟨.inl (zQ (zaH zH)), ⟨.inl (zQ (zaH ((zax 10 80 (ze0 1) (zeZ 1) (ze0 2) (zeZ 2)).1))), trivial⟩⟩⟩
  ·exact ⟨0, ((zax 10 80 (ze0 1) (zeZ 1) (ze0 2) (zeZ 2)).1), rfl, ⟨Nat.zero_le _, Nat.zero_le _⟩, rfl, rfl⟩
 ·rintro μ s ⟨i, d, rfl, hi, hf, rfl⟩
  refine zR (zR (zV (o_d 2 [(17, inV o 0 ns.length), (16, iv (i : Int))] (by kernel_rfl) (o_s (by exact run_lenIn rfl (fun q => by rw [hnns q]; rfl)) ?_))))
  refine o_d 2 [(20, bv (decide ((i : Int) < (ns.length : Nat)))), (19, bv (decide ((i : Int) < (ns.length : Nat))))] (by kernel_rfl) (zir (b := decide ((i : Int) < (ns.length : Nat))) 20 rfl (fun h1 => ?_) (fun h1 => ?_))
  ·skip
   have h1' : (i : Int) < (ns.length : Nat) := of_decide_eq_true h1
   refine o_d 4 [(24, bv (decide ((i : Int) < (k : Int)))), (23, bv (decide ((i : Int) < (k : Int)))), (22, iv (k : Int)), (21, iv (i : Int))] (by kernel_rfl) (zG (zC (zaj (t := decide ((i : Int) < (k : Int))) rfl (fun h2 => ?_) (fun h2 => ?_))))
   ·skip
    have h2' : (i : Int) < (k : Int) := of_decide_eq_true h2
    obtain ⟨x, hx, hd, ht⟩ := zdK (l := ns) (i := i) (by omega)
    have hstep : (ns.drop i).take (k - i) = x :: (ns.drop (i + 1)).take (k - (i + 1)) := by rw [hd, show k - i = (k - (i + 1)) + 1 by omega]; rfl
    refine zaq (zC (zR (zai (zR (zdz ["roundhouse/roundhouselaw6.Entry", "roundhouse/roundhouseref6.Apply"] (by kernel_rfl) (r_s (by refine z4 (v := qG d) rfl rfl ?_; exact zal d) ?_))))))
    refine r_d 2 [(30, iv (i : Int)), (29, inV o 0 ns.length)] (by kernel_rfl) (r_s (by exact run_iadIn (o' := i) rfl (fun q => by rw [hnns q]; rfl) rfl (by omega) (by omega)) ?_)
    refine r_s (by refine z4 (v := iv x) rfl (hf_in (n := ns.length) rfl (fun q => by rw [hnns q]; rfl) (by omega)) ?_; exact ii_r (i := i) (by omega) hx) ?_
    refine r_cl (zhl (EntryC h_law6_Entry h_law6_within h_law5_Key x) rfl rfl rfl (r_cl (zhl (refApplyC h_ref6_Apply h_ref6_Check h_ref6_out h_ref6_bad h_ref6_Held h_ref5_Next d (zc8 x)) rfl (all_cons (zaG d) (all_cons rfl rfl)) (all_cons (qZ ((zO d (zc8 x)).1)) (all_cons rfl rfl)) (r_b 4 [(8, pv 3 0), (36, iv ((zO d (zc8 x)).2)), (35, qG ((zO d (zc8 x)).1)), (27, .tuple #[qG ((zO d (zc8 x)).1), iv ((zO d (zc8 x)).2)])] [inB o (ii ns), cw (pl zH), cw (pl d), cw (pl zH)] (by kernel_rfl) (r_s0 (by refine qQ (c' := pl ((zO d (zc8 x)).1)) rfl rfl rfl ?_ ?_ ?_; exact zN _; exact zbU (by omega); exact qO zH ((zO d (zc8 x)).1)) ?_)))))
    refine r_b 1 [(9, iv ((zO d (zc8 x)).2))] [inB o (ii ns), cw (pl zH), cw (pl d), cw (pl ((zO d (zc8 x)).1))] (by kernel_rfl) (zc6 (zC (zR (zV (o_d 2 [(38, bv (((zO d (zc8 x)).2) == 0)), (37, iv ((zO d (zc8 x)).2))] (by kernel_rfl) (zG (z5 [(38, bv (((zO d (zc8 x)).2) == 0)), (8, pv 3 0), (7, iv (i : Int)), (5, pv 2 0), (4, pv 1 0), (0, inV o 0 ns.length), (1, iv (k : Int))] (by kernel_rfl) (zaj (t := ((zO d (zc8 x)).2) == 0) rfl (fun h3 => ?_) (fun h3 => ?_)))))))))
    ·skip
     have h3' : (zO d (zc8 x)).2 = 0 := zcf h3
     refine zV (o_s (by refine z4 (v := qG ((zO d (zc8 x)).1)) rfl rfl ?_; exact zal ((zO d (zc8 x)).1)) ?_)
     refine zc1 (by refine qQ (c' := pl ((zO d (zc8 x)).1)) rfl rfl rfl ?_ ?_ ?_; exact zN _; exact zbU (by omega); exact qO d ((zO d (zc8 x)).1)) ?_
     refine zG (zC (zV (o_d 1 [(25, iv (i : Int))] (by kernel_rfl) (o_s (by refine zaf (v := .int .i64 (i64.wrap ((i : Int) + 1))) (congrArg (Value.int .i64) (w64 (by omega) (by omega))) ?_; kernel_rfl) ?_))))
     refine o_d 1 [(7, iv ((i : Int) + 1))] (by kernel_rfl) (zG (⟨ns.length - (i + 1), ?_⟩))
     refine ⟨⟨reg [(7, iv ((i + 1) : Int)), (5, pv 2 0), (4, pv 1 0), (0, inV o 0 ns.length), (1, iv (k : Int))], [inB o (ii ns), cw (pl zH), cw (pl ((zO d (zc8 x)).1))]⟩, ?_⟩
     refine zf2 (by omega) ⟨?_, ?_⟩
     ·exact Wk.ren [0, 1, 2] rfl rfl (by decide) ⟨rfl, ⟨rfl, ⟨rfl, ⟨((zio o rfl)).trans rfl, ⟨rfl, trivial⟩⟩⟩⟩⟩ ⟨.inl (ziS o (zaY ns)), ⟨.inl (zQ (zaH zH)), ⟨.inl (zQ (zaH ((zO d (zc8 x)).1))), trivial⟩⟩⟩
     ·exact ⟨(i + 1), ((zO d (zc8 x)).1), rfl, by omega, (by rw [← hf, hstep]; simp [stepM, h1, h1', h2, h2', h3, h3']), rfl⟩
    ·skip
     have h3' : ¬ ((zO d (zc8 x)).2 = 0) := zcg h3
     refine zaq (zC (zV (o_d 1 [(25, iv (i : Int))] (by kernel_rfl) (o_s (by refine zaf (v := .int .i64 (i64.wrap ((i : Int) + 1))) (congrArg (Value.int .i64) (w64 (by omega) (by omega))) ?_; kernel_rfl) ?_))))
     refine o_d 1 [(7, iv ((i : Int) + 1))] (by kernel_rfl) (zG (⟨ns.length - (i + 1), ?_⟩))
     refine ⟨⟨reg [(7, iv ((i + 1) : Int)), (5, pv 2 0), (4, pv 1 0), (0, inV o 0 ns.length), (1, iv (k : Int))], [inB o (ii ns), cw (pl zH), cw (pl d)]⟩, ?_⟩
     refine zf2 (by omega) ⟨?_, ?_⟩
     ·exact Wk.ren [0, 1, 2] rfl rfl (by decide) ⟨rfl, ⟨rfl, ⟨rfl, ⟨((zio o rfl)).trans rfl, ⟨rfl, trivial⟩⟩⟩⟩⟩ ⟨.inl (ziS o (zaY ns)), ⟨.inl (zQ (zaH zH)), ⟨.inl (zQ (zaH d)), trivial⟩⟩⟩
     ·exact ⟨(i + 1), d, rfl, by omega, (by rw [← hf, hstep]; simp [stepM, h1, h1', h2, h2', h3, h3']), rfl⟩
   ·skip
    have h2' : ¬ ((i : Int) < (k : Int)) := of_decide_eq_false h2
    refine zcD (zC (zR (zV (o_s (by refine z4 (v := qG d) rfl rfl ?_; exact zal d) ?_))))
    refine zc1 (by refine qQ (c' := pl d) rfl rfl rfl ?_ ?_ ?_; exact zN _; exact zbU (by omega); exact qO zH d) ?_
    refine zG (zC (zaZ ?_))
    have e0 : makeS ns k = d := by
     rw [← hf]; have : (ns.drop i).take (k - i) = [] := by simp; omega
     rw [this]; rfl
    exact qH [qG d] (zaS rfl rfl (zal d) rfl) (all_cons (qZ d) rfl) (by rw [e0]; rfl) rfl (show List.all [inB o (ii ns)] zjn = true from (all_cons (ziu _ (zaY ns)) rfl))
  ·skip
   have h1' : ¬ ((i : Int) < (ns.length : Nat)) := of_decide_eq_false h1
   refine o_d 4 [(24, bv false), (23, undef), (22, undef), (21, undef)] (by kernel_rfl) (zG (zC (zbW rfl (zcD (zC (zR (zV (o_s (by refine z4 (v := qG d) rfl rfl ?_; exact zal d) ?_))))))))
   refine zc1 (by refine qQ (c' := pl d) rfl rfl rfl ?_ ?_ ?_; exact zN _; exact zbU (by omega); exact qO zH d) ?_
   refine zG (zC (zaZ ?_))
   have e0 : makeS ns k = d := by
    rw [← hf]; have : (ns.drop i).take (k - i) = [] := by simp; omega
    rw [this]; rfl
   exact qH [qG d] (zaS rfl rfl (zal d) rfl) (all_cons (qZ d) rfl) (by rw [e0]; rfl) rfl (show List.all [inB o (ii ns)] zjn = true from (all_cons (ziu _ (zaY ns)) rfl))
end Go.Rh

set_option maxHeartbeats 8000000
namespace Go.Rh
theorem ziR (c : qL) (k n cap m : Nat) : [qG c, .slice (some ⟨0, 0, none⟩) n cap].map (zbF (rho [k] m)) = [qG c, .slice (some ⟨k, 0, none⟩) n cap] := by
 simp only [List.map_cons, List.map_nil]; rw [qN (zaG c)]; rfl
theorem All0 {P : Program} (hc : zc2 P) (h_pool_Apply : zaU P) (h_pool_may : za3 P) (h_pool_held : zaT P) (h_pool_fits : za1 P) (h_pool_Check : zaO P) (h_pool_placed : zau P) (h_cookie_Next : zaC P) (c : qL) :
  Env P "roundhouse/pool.All" [qG c, .slice none 0 0] ([]) (Ans (.tuple #[qG c, iv 0, iv 0]) ([])) := by
 refine Env.by hc ?_
 unfold zgo
 show GC _ 0 _ _ ⟨reg [(0, qG c), (1, .slice none 0 0)], []⟩
 refine zR (zV (o_b 4 [(6, iv 0), (5, iv 0), (4, pv 1 0), (2, pv 0 0)] [cw (pl c), cw (pl zH)] (by kernel_rfl) (zG (zC (zR (zR (zV (o_d 3 [(13, iv 0), (12, iv 0), (11, .slice none 0 0)] (by kernel_rfl) (zG (zC (zai (zdm (fun μ s => (μ = 0 ∧ s = ⟨reg [(13, iv 0), (12, iv 0), (11, .slice none 0 0), (4, pv 1 0), (2, pv 0 0), (1, .slice none 0 0)], [cw (pl c), cw (pl zH)]⟩)) ⟨0, ?_⟩ ?_))))))))))))
 ·skip
  refine ⟨⟨reg [(13, iv 0), (12, iv 0), (11, .slice none 0 0), (4, pv 1 0), (2, pv 0 0), (1, .slice none 0 0)], [cw (pl c), cw (pl zH)]⟩, ?_⟩
  refine ⟨?_, ?_⟩
  ·exact Wk.ren [0, 1] rfl rfl (by decide) ⟨rfl, ⟨rfl, ⟨rfl, ⟨rfl, ⟨rfl, ⟨rfl, trivial⟩⟩⟩⟩⟩⟩ ⟨.inl (zQ (zaH c)), ⟨.inl (zQ (zaH zH)), trivial⟩⟩
  ·exact ⟨rfl, rfl⟩
 ·rintro μ s (⟨rfl, rfl⟩)
  ·skip
   refine zR (zV (o_d 1 [(14, bv false)] (by kernel_rfl) (zG (zC (zR (zbW rfl (zcD (zC (zR (zV (o_s (by refine z4 (v := qG c) rfl rfl ?_; exact zal c) ?_)))))))))))
   refine o_d 2 [(33, iv 0), (32, .slice none 0 0)] (by kernel_rfl) (zc1 (by refine qQ (c' := pl c) rfl rfl rfl ?_ ?_ ?_; exact zN _; exact zbU (by omega); exact qO zH c) ?_)
   exact o_b 2 [(6, iv 0), (5, iv 0)] [cw (pl c), cw (pl c)] (by kernel_rfl) (zG (zC (zaZ (qH [qG c, iv 0, iv 0] (zaS rfl rfl (zal c) (qE rfl (qE rfl rfl))) (all_cons (qZ c) (all_cons rfl (all_cons rfl rfl))) (by rfl) rfl rfl))))
end Go.Rh

set_option maxHeartbeats 8000000
namespace Go.Rh
def zdD : IFunc := ⟨56, [], (.seq (.reg [kq 3 (.box (.t 1))]) (.seq (.dreg [km 8 0, kq 9 (.nilc (.t 8)), kq 10 (.fad 331 (.t 9)), kq 11 (.ld none (.t 10)), kq 12 (.fad 0 (.t 3)), kq 13 (.ld none (.t 12)), kq 14 (.lku .i [(2, (.int .i64 0))] true true (.t 11) (.t 13)), km 7 14, kq 15 (.ext 0 (.t 7)), kq 16 (.ext 1 (.t 7)), kq 4 (.new [(2, (.int .i64 0))]), ku (.st 2 (.t 4) (.t 15)), km 5 16] [[], [0], [1, 0], [2, 1, 0], [], [4], [3, 2, 1, 0, 5, 4], [6, 3, 2, 1, 0, 5, 4], [7, 6, 3, 2, 1, 0, 5, 4], [7, 6, 3, 2, 1, 0, 5, 4], [], [10, 8, 7, 6, 3, 2, 1, 0, 5, 4], [9, 7, 6, 3, 2, 1, 0, 5, 4, 11, 10, 8]]) (.seq (.seq (.reg [kq 17 (.fad 4 (.t 3)), kq 18 (.ld none (.t 17)), kq 19 (.un .not (.t 18)), km 20 19, kg 21 (.mv (.t 5)) 20 false, kg 22 (.un .not (.t 21)) 20 false, kq 23 (.pick (.t 20) kT (.t 22)), km 24 23, kg 25 (.fad 1 (.t 3)) 24 false, kg 26 (.ld none (.t 25)) 24 false, kg 27 (.fad 0 (.t 4)) 24 false, kg 28 (.ld none (.t 27)) 24 false, kg 29 (.bin .lss (.t 26) (.t 28)) 24 false, kq 30 (.pick (.t 24) kT (.t 29))]) (.cond (.t 30) .ret .skip)) (.seq (.seq (.reg [kq 31 (.fad 2 (.t 3)), kq 32 (.ld none (.t 31)), kq 33 (.mm true (.t 32) (ki (-1))), km 6 33]) (.seq (.reg [kq 34 (.fad 1 (.t 3)), kq 35 (.ld none (.t 34)), kq 36 (.fad 0 (.t 4)), kq 37 (.ld none (.t 36)), kq 38 (.bin .gtr (.t 35) (.t 37)), km 39 38, kg 40 (.mv (.t 6)) 39 false, kg 41 (.fad 1 (.t 4)) 39 false, kg 42 (.ld none (.t 41)) 39 false, kg 43 (.bin .gtr (.t 40) (.t 42)) 39 false, kq 44 (.pick (.t 39) kT (.t 43))]) (.cond (.t 44) (.reg [kq 45 (.fad 1 (.t 3)), kq 46 (.ld none (.t 45)), km 47 6, kq 48 (.bld [(2, (.int .i64 0))] [(0, 1, (.t 46)), (1, 1, (.t 47))]), ku (.st 2 (.t 4) (.t 48))]) .skip))) (.dreg [km 49 0, kq 50 (.nilc (.t 49)), kq 51 (.fad 331 (.t 50)), kq 52 (.ld none (.t 51)), kq 53 (.fad 0 (.t 3)), kq 54 (.ld none (.t 53)), kq 55 (.ld (some 2) (.t 4)), ku (.mup .i (.t 52) (.t 54) (.t 55))] [[], [0], [1, 0], [2, 1, 0], [], [4], [], [3, 2, 1, 0, 5, 4, 6]])))))⟩
abbrev zbA (P : Program) : Prop := z6 P "(*roundhouse/head.Head).Heard" = some zdD
def zhY : IFunc := ⟨31, [.tmp 4, .tmp 5], (.seq (.reg [kq 2 (.box (.t 0)), kq 4 (.mv (.c (.pointer none))), kq 5 (.mv (ki 0))]) (.seq (.seq (.reg [km 8 1, kq 9 (.bin .lss (.t 8) (ki 1)), km 10 9, kg 11 (.mv (.t 1)) 10 false, kg 12 (.bin .gtr (.t 11) (ki 16)) 10 false, kq 13 (.pick (.t 10) kT (.t 12))]) (.cond (.t 13) (.seq (.reg [kq 4 (.mv (.c (.pointer none))), kq 5 (.mv (ki 14))]) .ret) .skip)) (.seq (.dreg [kq 14 (.ld (some 330) (.t 2)), kq 15 (.mkc 200), kq 16 (.mkm), kq 17 (.bld [(324, (.int .i64 0)), (6, (.int .u64 0)), (1, (.chan none)), (1, (.map none)), (5, (.int .i64 0)), (2, (.int .u64 0)), (1, (.bool false))] [(0, 330, (.t 14)), (330, 1, (.t 15)), (331, 1, (.t 16))]), kq 18 (.box (.t 17)), km 6 18] [[], [], [], [0, 1, 2], [3, 0, 1, 2], [4, 3, 0, 1, 2]]) (.seq (.seq (.reg [km 19 1, kq 20 (.mv (ki 0))]) (.block 0 (.loop (.seq (.reg [kq 21 (.bin .lss (.t 20) (.t 19))]) (.seq (.cond (.t 21) .skip (.exit 0)) (.seq (.block 1 (.seq (.reg [km 22 20, km 7 22]) (.reg [km 23 6, kq 24 (.nilc (.t 23)), kq 25 (.fad 331 (.t 24)), kq 26 (.ld none (.t 25)), km 27 7, kq 28 (.bld [(2, (.int .i64 0))] [(1, 1, (ki (-1)))]), ku (.mup .i (.t 26) (.t 27) (.t 28))]))) (.reg [kq 29 (.bin .add (.t 20) (ki 1)), km 20 29]))))))) (.seq (.reg [km 30 6, km 4 30, kq 5 (.mv (ki 0))]) .ret)))))⟩
abbrev zed (P : Program) : Prop := z6 P "roundhouse/head.New" = some zhY
def zcU : IFunc := ⟨35, [], (.seq (.reg [km 5 0, kq 6 (.nilc (.t 5)), kq 7 (.fad 330 (.t 6)), kq 8 (.ld none (.t 7))]) (.seq (.reg [kq 9 (.sel1 kC true (.t 8)), kq 10 (.ext 0 (.t 9)), kq 11 (.bin .eql (.t 10) (ki 0))]) (.block 0 (.cond (.t 11) (.seq (.reg [kq 12 (.ext 2 (.t 9)), kq 2 (.new kC), ku (.st 7 (.t 2) (.t 12))]) (.seq (.dreg [km 14 0, kq 15 (.nilc (.t 14)), kq 16 (.fad 0 (.t 15)), kq 17 (.ld (some 330) (.t 16)), kq 18 (.ld (some 7) (.t 2)), kq 19 (.call "roundhouse/pool.Apply" [(.t 17), (.t 18)]), km 13 19, kq 20 (.ext 0 (.t 13)), kq 21 (.ext 1 (.t 13)), kq 3 (.new kA), ku (.st 330 (.t 3) (.t 20)), km 4 21] [[], [0], [1, 0], [2, 1, 0], [], [3, 2, 1, 0, 4], [5, 3, 2, 1, 0, 4], [6, 5, 3, 2, 1, 0, 4], [6, 5, 3, 2, 1, 0, 4], [], [9, 7, 6, 5, 3, 2, 1, 0, 4], [8, 6, 5, 3, 2, 1, 0, 4, 10, 9, 7]]) (.seq (.reg [km 22 4, kq 23 (.bin .eql (.t 22) (ki 0))]) (.cond (.t 23) (.dreg [km 24 0, km 25 0, km 26 0, kq 27 (.ld (some 330) (.t 3)), kq 28 (.ld (some 7) (.t 2)), kq 29 (.nilc (.t 24)), kq 30 (.fad 0 (.t 29)), ku (.st 330 (.t 30) (.t 27)), kq 31 (.nilc (.t 25)), kq 32 (.fad 332 (.t 31)), ku (.st 7 (.t 32) (.t 28)), kq 33 (.nilc (.t 26)), kq 34 (.fad 339 (.t 33)), ku (.st 1 (.t 34) kT)] [[], [], [], [], [], [0, 3], [5, 0, 3], [6, 5, 0, 3], [1, 0, 3, 4, 5, 6, 7], [8, 1, 0, 3, 4, 5, 6, 7], [9, 8, 1, 0, 3, 4, 5, 6, 7], [2, 0, 1, 3, 4, 5, 6, 7, 8, 9, 10], [11, 2, 0, 1, 3, 4, 5, 6, 7, 8, 9, 10], [12, 11, 2, 0, 1, 3, 4, 5, 6, 7, 8, 9, 10]]) .skip)))) .skip))))⟩
abbrev zbk (P : Program) : Prop := z6 P "(*roundhouse/head.Head).publish" = some zcU
def zcT : IFunc := ⟨28, [.tmp 2], (.seq (.reg [kq 2 (.mv (.c (.slice none 0 0)))]) (.seq (.reg [kq 3 (.mv (.c (.slice none 0 0)))]) (.seq (.seq (.reg [km 5 0, kq 6 (.nilc (.t 5)), kq 7 (.fad 330 (.t 6)), kq 8 (.ld none (.t 7)), kq 9 (.lenC (.t 8)), kq 10 (.mv (ki 0))]) (.block 0 (.loop (.seq (.reg [kq 11 (.bin .lss (.t 10) (.t 9))]) (.seq (.cond (.t 11) .skip (.exit 0)) (.seq (.block 1 (.seq (.reg [km 12 0, kq 13 (.nilc (.t 12)), kq 14 (.fad 330 (.t 13)), kq 15 (.ld none (.t 14)), kq 16 (.rcv (.t 15)), kq 4 (.new kC), ku (.st 7 (.t 4) (.t 16))]) (.seq (.dreg [km 17 0, kq 18 (.nilc (.t 17)), kq 19 (.fad 330 (.t 18)), kq 20 (.ld none (.t 19)), kq 21 (.ld (some 7) (.t 4)), ku (.snd (.t 20) (.t 21))] [[], [0], [1, 0], [2, 1, 0], [], [3, 2, 1, 0, 4]]) (.reg [km 22 3, kq 23 (.ld (some 7) (.t 4)), kq 24 (.bsl kC 7 1 [(0, 7, (.t 23))]), kq 25 (.app kC 7 56 (.t 22) (.t 24)), km 3 25])))) (.reg [kq 26 (.bin .add (.t 10) (ki 1)), km 10 26]))))))) (.seq (.reg [km 27 3, km 2 27]) .ret))))⟩
abbrev zbj (P : Program) : Prop := z6 P "(*roundhouse/head.Head).waiting" = some zcT
def zev : IFunc := ⟨8, [.tmp 2], (.seq (.reg [kq 2 (.mv (ki 0))]) (.seq (.reg [km 3 0, kq 4 (.nilc (.t 3)), kq 5 (.fad 0 (.t 4)), kq 6 (.fad 0 (.t 5)), kq 7 (.ld none (.t 6)), km 2 7]) .ret))⟩
def zd3 : IFunc := ⟨7, [.cell 2 (some 330)], (.seq (.reg [kq 2 (.new kA)]) (.seq (.reg [km 3 0, kq 4 (.nilc (.t 3)), kq 5 (.fad 0 (.t 4)), kq 6 (.ld (some 330) (.t 5)), ku (.st 330 (.t 2) (.t 6))]) .ret))⟩
abbrev zca (P : Program) : Prop := z6 P "(*roundhouse/head.Head).Pool" = some zd3
def zeu : IFunc := ⟨22, [.tmp 2], (.seq (.reg [kq 2 (.mv kF)]) (.seq (.seq (.reg [km 5 0, kq 6 (.nilc (.t 5)), kq 7 (.fad 331 (.t 6)), kq 8 (.ld none (.t 7)), kq 9 (.rng (.t 8))]) (.block 0 (.loop (.seq (.reg [kq 10 (.nxt (.t 9)), kq 11 (.ext 0 (.t 10))]) (.seq (.cond (.t 11) .skip (.exit 0)) (.block 1 (.seq (.reg [kq 12 (.ent (.t 9)), kq 13 (.ext 1 (.t 12)), kq 4 (.new [(2, (.int .i64 0))]), ku (.st 2 (.t 4) (.t 13))]) (.seq (.dreg [kq 14 (.fad 1 (.t 4)), kq 15 (.ld none (.t 14)), km 16 0, kq 17 (.nilc (.t 16)), kq 18 (.fad 0 (.t 17)), kq 19 (.fad 0 (.t 18)), kq 20 (.ld none (.t 19)), kq 21 (.bin .neq (.t 15) (.t 20))] [[], [0], [], [2], [3, 2], [4, 3, 2], [5, 4, 3, 2], [1, 0, 6, 5, 4, 3, 2]]) (.cond (.t 21) (.seq (.reg [kq 2 (.mv kF)]) .ret) .skip))))))))) (.seq (.reg [kq 2 (.mv kT)]) .ret)))⟩
abbrev zbP (P : Program) : Prop := z6 P "(*roundhouse/head.Head).all" = some zeu
theorem zgi (hd : List (Int × Int)) (n : Nt) : zbR hd n = (if (!n.a) = true then hd else if (!(lkS hd n.u).2) = true then hd else if decide (n.b < (lkS hd n.u).1.1) = true then hd else if decide (n.b > (lkS hd n.u).1.1) = true then hd.set n.u.toNat (n.b, mxS n.v) else if decide (mxS n.v > (lkS hd n.u).1.2) = true then hd.set n.u.toNat (n.b, mxS n.v) else hd.set n.u.toNat ((lkS hd n.u).1.1, (lkS hd n.u).1.2)) := by
 unfold zbR
 cases h1 : n.a <;> cases h2 : (lkS hd n.u).2 <;> simp
 by_cases h3 : n.b < (lkS hd n.u).1.1 <;> by_cases h4 : (lkS hd n.u).1.1 < n.b <;> by_cases h5 : (lkS hd n.u).1.2 < mxS n.v <;> simp [h3, h4, h5]
theorem allW_true {hd : List (Int × Int)} {v : Int} (h : ∀ k, k < (hdM hd).length → (hd.getD k (0, 0)).2 = v) : allW hd v = true := by
 refine List.all_eq_true.2 fun x hx => ?_
 obtain ⟨k, hk⟩ := List.mem_iff_getElem?.1 hx
 have := h k (by rw [zhN]; exact zL hk)
 simp [List.getD_eq_getElem?_getD, hk] at this
 simp [this]
theorem allW_false {hd : List (Int × Int)} {v : Int} {j : Nat} {x : Int × Int} (hx : hd[j]? = some x) (h : ¬ x.2 = v) : allW hd v = false := by
 have hm := List.mem_of_getElem? hx
 cases hq : allW hd v with
 | false => rfl
 | true => exact absurd (by simpa using List.all_eq_true.1 hq x hm) h
theorem seen_more {α : Type} {es : List α} {seen : List Nat} {j : Nat} {e : α} (hn : seen.Nodup ∧ ∀ k ∈ seen, k < es.length) (hj : j ∉ seen) (he : es[j]? = some e) : (seen ++ [j]).Nodup ∧ ∀ k ∈ seen ++ [j], k < es.length := by
 refine ⟨List.nodup_append.2 ⟨hn.1, by simp, fun a ha b hb => ?_⟩, fun k hk => ?_⟩
 ·simp at hb; subst hb; rintro rfl; exact hj ha
 ·rcases List.mem_append.1 hk with h | h
  ·exact hn.2 k h
  ·simp at h; subst h; exact zL he
theorem nodup_le : ∀ {n : Nat} {l : List Nat}, l.Nodup → (∀ k ∈ l, k < n) → l.length ≤ n
 | 0, l, _, hb => by
  cases l with
  | nil => simp
  | cons a t => exact absurd (hb a (by simp)) (by omega)
 | n + 1, l, h, hb => by
  have h1 := nodup_le (n := n) (l := l.erase n) (h.erase n) fun k hk => by
   have h2 := hb k (List.mem_of_mem_erase hk)
   have h3 : k ≠ n := by rintro rfl; exact List.Nodup.not_mem_erase h hk
   omega
  by_cases hm : n ∈ l
  ·rw [List.length_erase_of_mem hm] at h1; omega
  ·rw [List.erase_of_not_mem hm] at h1; omega
theorem seen_less {α : Type} {es : List α} {seen : List Nat} {j : Nat} {e : α} (hn : seen.Nodup ∧ ∀ k ∈ seen, k < es.length) (hj : j ∉ seen) (he : es[j]? = some e) : es.length - (seen ++ [j]).length < es.length - seen.length := by
 have h := seen_more hn hj he
 have := nodup_le h.1 h.2
 simp at this ⊢; omega
theorem seen_val {hd : List (Int × Int)} {v : Int} {seen : List Nat} {j : Nat} {x : Int × Int} (h : ∀ k, k ∈ seen → ∀ (hk : k < (hdM hd).length), (hd.getD k (0, 0)).2 = v) (hx : hd[j]? = some x) (hq : ¬ x.2 ≠ v) : ∀ k, k ∈ seen ++ [j] → ∀ (hk : k < (hdM hd).length), (hd.getD k (0, 0)).2 = v := by
 intro k hk hl
 rcases List.mem_append.1 hk with h1 | h1
 ·exact h k h1 hl
 ·simp at h1; subst h1
  simp [List.getD_eq_getElem?_getD, hx]; exact Decidable.of_not_not hq
theorem HVersionC {P : Program} (hc : z6 P "(*roundhouse/head.Head).Version" = some zev) (p : qL) (w : List Ent) (hd : List (Int × Int)) (e : Ent) (b : Bool) :
    Env P "(*roundhouse/head.Head).Version" [pv 0 0] ([cr (zT p 1 2 e b), .chan 200 (w.map qR), .map (hdM hd)]) (fun v h' => v = iv (p 0) ∧ h' = [cr (zT p 1 2 e b), .chan 200 (w.map qR), .map (hdM hd)]) := by
 refine Env.by2 hc ?_
 unfold zev
 show GC _ 3 _ _ ⟨reg [(0, pv 0 0)], [cr (zT p 1 2 e b), .chan 200 (w.map qR), .map (hdM hd)]⟩
 refine zR (zV (o_d 1 [(2, iv 0)] (by kernel_rfl) (zG (zC (zR (zV (o_d 4 [(6, pv 0 0), (5, pv 0 0), (4, pv 0 0), (3, pv 0 0)] (by kernel_rfl) (o_s (by refine z4 (v := iv (p 0)) rfl rfl ?_; exact zeL (pl_r p 0 rfl (by omega))) ?_))))))))
 exact o_d 1 [(2, iv (p 0))] (by kernel_rfl) (zG (zC (zaZ (⟨trivial, ⟨reg [(2, iv (p 0))], [cr (zT p 1 2 e b), .chan 200 (w.map qR), .map (hdM hd)]⟩, Wk.ren [0, 1, 2] rfl rfl (by decide) ⟨rfl, trivial⟩ ⟨.inl (qB rfl rfl), ⟨.inl (congrArg some (zX _).symm), ⟨.inl (congrArg some (qI _).symm), trivial⟩⟩⟩, [iv (p 0)], (qE rfl rfl), (zU rfl qA), rfl, rfl⟩))))
theorem HPoolC {P : Program} (hc : zca P) (p : qL) (w : List Ent) (hd : List (Int × Int)) (e : Ent) (b : Bool) :
    Env P "(*roundhouse/head.Head).Pool" [pv 0 0] ([cr (zT p 1 2 e b), .chan 200 (w.map qR), .map (hdM hd)]) (fun v h' => v = qG p ∧ h' = [cr (zT p 1 2 e b), .chan 200 (w.map qR), .map (hdM hd), cw (pl p)]) := by
 refine Env.by2 hc ?_
 unfold zd3
 show GC _ 3 _ _ ⟨reg [(0, pv 0 0)], [cr (zT p 1 2 e b), .chan 200 (w.map qR), .map (hdM hd)]⟩
 refine zR (zV (o_b 1 [(2, pv 3 0)] [cr (zT p 1 2 e b), .chan 200 (w.map qR), .map (hdM hd), cw (pl zH)] (by kernel_rfl) (zG (zC (zR (zV (o_d 3 [(5, pv 0 0), (4, pv 0 0), (3, pv 0 0)] (by kernel_rfl) (o_s (by refine z4 (v := qG p) rfl rfl ?_; exact zeL (zal p)) ?_))))))))
 refine zc1 (by refine qQ (c' := pl p) rfl rfl rfl ?_ ?_ ?_; exact zN _; exact zbU (by omega); exact qO zH p) ?_
 exact zG (zC (zaZ (⟨trivial, ⟨reg [(2, pv 3 0)], [cr (zT p 1 2 e b), .chan 200 (w.map qR), .map (hdM hd), cw (pl p)]⟩, Wk.ren [0, 1, 2, 3] rfl rfl (by decide) ⟨rfl, trivial⟩ ⟨.inl (qB rfl rfl), ⟨.inl (congrArg some (zX _).symm), ⟨.inl (congrArg some (qI _).symm), ⟨.inl (zQ (zaH p)), trivial⟩⟩⟩⟩, [qG p], (zaS rfl rfl (zal p) rfl), (zU rfl qA), rfl, rfl⟩)))
theorem HallC {P : Program} (hc : zbP P) (p : qL) (w : List Ent) (hd : List (Int × Int)) (e : Ent) (b : Bool) :
    Env P "(*roundhouse/head.Head).all" [pv 0 0] ([cr (zT p 1 2 e b), .chan 200 (w.map qR), .map (hdM hd)]) (fun v h' => v = bv (allW hd (p 0)) ∧ h' = [cr (zT p 1 2 e b), .chan 200 (w.map qR), .map (hdM hd)]) := by
 refine Env.by2 hc ?_
 unfold zeu
 show GC _ 3 _ _ ⟨reg [(0, pv 0 0)], [cr (zT p 1 2 e b), .chan 200 (w.map qR), .map (hdM hd)]⟩
 refine zR (zV (o_d 1 [(2, bv false)] (by kernel_rfl) (zG (zC (zR (zR (zV (o_d 3 [(7, pv 0 331), (6, pv 0 0), (5, pv 0 0)] (by kernel_rfl) (o_s (by refine z4 (v := .map (some 2)) rfl rfl ?_; exact (zcu 1).trans rfl) ?_)))))))))
 refine o_rng (k := 2) (es := hdM hd) rfl rfl (zG (zC (zai (zdm (fun μ s => ∃ (seen : List Nat), μ = (hdM hd).length - seen.length ∧ (seen.Nodup ∧ ∀ k ∈ seen, k < (hdM hd).length) ∧ (∀ k, k ∈ seen → ∀ (hk : k < (hdM hd).length), (hd.getD k (0, 0)).2 = p 0) ∧ s = ⟨reg [(9, pv 3 0), (0, pv 0 0)], [cr (zT p 1 2 e b), .chan 200 (w.map qR), .map (hdM hd), .iter 2 ((hdM hd).length) seen]⟩) ⟨((hdM hd).length - ([] : List Nat).length), ?_⟩ ?_))))
 ·skip
  refine ⟨⟨reg [(9, pv 3 0), (0, pv 0 0)], [cr (zT p 1 2 e b), .chan 200 (w.map qR), .map (hdM hd), .iter 2 ((hdM hd).length) ([] : List Nat)]⟩, ?_⟩
  refine ⟨?_, ?_⟩
  ·exact Wk.ren [0, 1, 2, 3] rfl rfl (by decide) ⟨rfl, ⟨rfl, trivial⟩⟩ ⟨.inl (qB rfl rfl), ⟨.inl (congrArg some (zX _).symm), ⟨.inl (congrArg some (qI _).symm), ⟨.inl rfl, trivial⟩⟩⟩⟩
  ·exact ⟨([] : List Nat), rfl, ⟨List.nodup_nil, by simp⟩, (by simp), rfl⟩
 rintro μ s ⟨seen, rfl, hn, hv, rfl⟩
 refine zR (zV (o_nxt (k := 3) (m := 2) (es := hdM hd) (seen := seen) rfl rfl rfl (fun hall => ?_) (fun j e hj he => ?_)))
 ·skip
  refine o_d 1 [(11, bv false)] (by kernel_rfl) (zG (zC (zR (zbW rfl (zcD (zC (zR (zV (o_d 1 [(2, bv true)] (by kernel_rfl) (zG (zC (zaZ ?_))))))))))))
  have e0 : true = allW hd (p 0) := by
   rw [eq_comm, allW_true]; intro k hk; exact hv k (hall k hk) hk
  exact ⟨trivial, ⟨reg [(2, bv true)], [cr (zT p 1 2 e b), .chan 200 (w.map qR), .map (hdM hd)]⟩, Wk.ren [0, 1, 2] rfl rfl (by decide) ⟨rfl, trivial⟩ ⟨.inl (qB rfl rfl), ⟨.inl (congrArg some (zX _).symm), ⟨.inl (congrArg some (qI _).symm), trivial⟩⟩⟩, [bv true], (qE rfl rfl), (zU rfl qA), (congrArg Value.bool e0), rfl⟩
 obtain ⟨x, hx, rfl⟩ := hdM_inv he
 refine o_d 1 [(11, bv true)] (by kernel_rfl) (zG (zC (zR (zer rfl (zaq (zC (zai (zR (zV (o_ent (k := 3) (m := 2) (es := hdM hd) (j := j) (e := (iv (j : Nat), .agg #[iv x.1, iv x.2])) rfl rfl rfl he (o_b 3 [(4, pv 4 0), (13, .agg #[iv x.1, iv x.2])] [cr (zT p 1 2 e b), .chan 200 (w.map qR), .map (hdM hd), .iter 2 ((hdM hd).length) (seen ++ [j]), cw [iv x.1, iv x.2]] (by kernel_rfl) (zG ?_))))))))))))
 refine zC (zR (zdz [] (by kernel_rfl) (r_d 6 [(19, pv 0 0), (18, pv 0 0), (17, pv 0 0), (16, pv 0 0), (15, iv x.2), (14, pv 4 1)] (by kernel_rfl) (r_s (by refine z4 (v := iv (p 0)) rfl rfl ?_; exact zeL (pl_r p 0 rfl (by omega))) ?_))))
 refine r_d 1 [(21, bv (x.2 != (p 0)))] (by kernel_rfl) (zc6 (zC (zaj (t := x.2 != (p 0)) rfl (fun h1 => ?_) (fun h1 => ?_))))
 ·skip
  have h1' : x.2 ≠ p 0 := zjt h1
  refine zR (zV (o_d 1 [(2, bv false)] (by kernel_rfl) (zG (zC (zaZ ?_)))))
  have e0 : false = allW hd (p 0) := by
   rw [eq_comm]; exact allW_false hx (by assumption)
  exact ⟨trivial, ⟨reg [(2, bv false)], [cr (zT p 1 2 e b), .chan 200 (w.map qR), .map (hdM hd)]⟩, Wk.ren [0, 1, 2] rfl rfl (by decide) ⟨rfl, trivial⟩ ⟨.inl (qB rfl rfl), ⟨.inl (congrArg some (zX _).symm), ⟨.inl (congrArg some (qI _).symm), trivial⟩⟩⟩, [bv false], (qE rfl rfl), (zU rfl qA), (congrArg Value.bool e0), rfl⟩
 have h1' : ¬ (x.2 ≠ p 0) := zju h1
 refine zaq (⟨(hdM hd).length - (seen ++ [j]).length, ?_⟩)
 refine ⟨⟨reg [(9, pv 3 0), (0, pv 0 0)], [cr (zT p 1 2 e b), .chan 200 (w.map qR), .map (hdM hd), .iter 2 ((hdM hd).length) (seen ++ [j])]⟩, ?_⟩
 refine zf2 (by exact seen_less hn hj he) ⟨?_, ?_⟩
 ·exact Wk.ren [0, 1, 2, 3] rfl rfl (by decide) ⟨rfl, ⟨rfl, trivial⟩⟩ ⟨.inl (qB rfl rfl), ⟨.inl (congrArg some (zX _).symm), ⟨.inl (congrArg some (qI _).symm), ⟨.inl rfl, trivial⟩⟩⟩⟩
 ·exact ⟨(seen ++ [j]), rfl, (seen_more hn hj he), (seen_val hv hx (by assumption)), rfl⟩
theorem HwaitingC {P : Program} (hc : zbj P) (p : qL) (w : List Ent) (hd : List (Int × Int)) (e : Ent) (b : Bool) (hw : w.length ≤ 200) :
    Env P "(*roundhouse/head.Head).waiting" [pv 0 0] ([cr (zT p 1 2 e b), .chan 200 (w.map qR), .map (hdM hd)]) (fun v h' => ∃ q : Option Nat, (q = none → w = []) ∧ v = slV 3 w.length q ∧ h' = [cr (zT p 1 2 e b), .chan 200 (w.map qR), .map (hdM hd), slB zE (qP w) q]) := by
 refine Env.by2 hc ?_
 unfold zcT
 show GC _ 3 _ _ ⟨reg [(0, pv 0 0)], [cr (zT p 1 2 e b), .chan 200 (w.map qR), .map (hdM hd)]⟩
 refine zR (zV (o_d 1 [(2, .slice none 0 0)] (by kernel_rfl) (zG (zC (zR (zV (o_d 1 [(3, .slice none 0 0)] (by kernel_rfl) (zG (zC (zR (zR (zV ?_))))))))))))
 refine o_d 3 [(7, pv 0 330), (6, pv 0 0), (5, pv 0 0)] (by kernel_rfl) (o_s (by refine z4 (v := .chan (some 1)) rfl rfl ?_; exact (zcu 0).trans rfl) ?_)
 refine o_s (by exact run_lenW (w := w) rfl rfl) ?_
 refine o_d 1 [(10, iv 0)] (by kernel_rfl) (zG (zC (zai (zdm (fun μ s => ∃ (i : Nat), ∃ (wc : List Ent), ∃ (q : Option Nat), μ = w.length - i ∧ (i ≤ w.length) ∧ (wc = w.drop i ++ w.take i) ∧ (q = none → i = 0) ∧ s = ⟨reg [(10, iv (i : Int)), (9, iv (w.length : Nat)), (3, slV 3 i q), (0, pv 0 0)], [cr (zT p 1 2 e b), .chan 200 (wc.map qR), .map (hdM hd), slB zE (qP (w.take i)) q]⟩) ⟨(w.length - 0), ?_⟩ ?_))))
 ·skip
  refine ⟨⟨reg [(10, iv (0 : Int)), (9, iv (w.length : Nat)), (3, slV 3 0 none), (0, pv 0 0)], [cr (zT p 1 2 e b), .chan 200 (w.map qR), .map (hdM hd), slB zE (qP (w.take 0)) none]⟩, ?_⟩
  refine ⟨?_, ?_⟩
  ·exact Wk.ren [0, 1, 2, 6] rfl rfl (by decide) ⟨rfl, ⟨rfl, ⟨rfl, ⟨rfl, trivial⟩⟩⟩⟩ ⟨.inl (qB rfl rfl), ⟨.inl (congrArg some (zX _).symm), ⟨.inl (congrArg some (qI _).symm), ⟨.inr ⟨rfl, rfl⟩, trivial⟩⟩⟩⟩
  ·exact ⟨0, w, none, rfl, (Nat.zero_le _), (by simp), (fun _ => rfl), rfl⟩
 rintro μ s ⟨i, wc, q, rfl, hi, hwc, hq, rfl⟩
 refine zR (zV (o_d 1 [(11, bv (decide ((i : Int) < (w.length : Nat))))] (by kernel_rfl) (zG (zC (zR (zaj (t := decide ((i : Int) < (w.length : Nat))) rfl (fun h1 => ?_) (fun h1 => ?_)))))))
 ·skip
  have h1' : (i : Int) < (w.length : Nat) := of_decide_eq_true h1
  refine zaq (zC (zR (zai (zR (zV (o_d 3 [(14, pv 0 330), (13, pv 0 0), (12, pv 0 0)] (by kernel_rfl) (o_s (by refine z4 (v := .chan (some 1)) rfl rfl ?_; exact (zcu 0).trans rfl) ?_)))))))
  obtain ⟨x, hx, hdr, ht⟩ := zdK (l := w) (i := i) (by omega)
  refine o_rcv (k := 1) (v := qR x) (b := (w.drop (i + 1) ++ w.take i).map qR) rfl (by show some (Blk.chan 200 (wc.map qR)) = some (Blk.chan 200 (qR x :: (w.drop (i + 1) ++ w.take i).map qR)); rw [(by rw [hwc, hdr]; rfl : wc = x :: (w.drop (i + 1) ++ w.take i))]; rfl) ?_
  refine o_b 2 [(4, pv 4 0)] [cr (zT p 1 2 e b), .chan 200 ((w.drop (i + 1) ++ w.take i).map qR), .map (hdM hd), slB zE (qP (w.take i)) q, cw [iv x.k, iv x.s, iv x.a, iv x.p, iv x.g, uv x.ka, uv x.kb]] (by kernel_rfl) (zG (zC (zR (zbx [cr (zT p 1 2 e b), .chan 200 ((w.drop (i + 1) ++ w.take i).map qR), .map (hdM hd), slB zE (qP (w.take i)) q, cw [iv x.k, iv x.s, iv x.a, iv x.p, iv x.g, uv x.ka, uv x.kb]] (by kernel_rfl) (d_n 3 3 5 [(19, pv 0 330), (18, pv 0 0), (17, pv 0 0)] [cr (zT p 1 2 e b), .chan 200 ((w.drop (i + 1) ++ w.take i).map qR), .map (hdM hd), slB zE (qP (w.take i)) q, cw [iv x.k, iv x.s, iv x.a, iv x.p, iv x.g, uv x.ka, uv x.kb]] [] (by kernel_rfl) rfl rfl (d_s rfl rfl rfl (by kernel_rfl) (by refine z4 (v := .chan (some 1)) rfl rfl ?_; exact (zcu 0).trans rfl) ?_))))))
  refine d_n 1 5 5 [(21, .agg #[iv x.k, iv x.s, iv x.a, iv x.p, iv x.g, uv x.ka, uv x.kb])] [cr (zT p 1 2 e b), .chan 200 ((w.drop (i + 1) ++ w.take i).map qR), .map (hdM hd), slB zE (qP (w.take i)) q, cw [iv x.k, iv x.s, iv x.a, iv x.p, iv x.g, uv x.ka, uv x.kb]] [⟨4, [4], [], none⟩, ⟨3, [0], [], none⟩] (by kernel_rfl) rfl rfl (d_snd (k := 1) (b := (w.drop (i + 1) ++ w.take i).map qR) (b2 := ((w.drop (i + 1) ++ w.take i) ++ [x]).map qR) rfl rfl rfl (by rw [List.length_map]; simp; omega) rfl (zhP (w.drop (i + 1) ++ w.take i) x) ?_)
  refine zb2 (zC (zV (o_b 3 [(24, sv 5 0 1 1), (23, .agg #[iv x.k, iv x.s, iv x.a, iv x.p, iv x.g, uv x.ka, uv x.kb]), (22, slV 3 i q)] [cr (zT p 1 2 e b), .chan 200 (((w.drop (i + 1) ++ w.take i) ++ [x]).map qR), .map (hdM hd), slB zE (qP (w.take i)) q, cw [iv x.k, iv x.s, iv x.a, iv x.p, iv x.g, uv x.ka, uv x.kb], cw [iv x.k, iv x.s, iv x.a, iv x.p, iv x.g, uv x.ka, uv x.kb]] (by kernel_rfl) (zhg (k := 3) (n := i) (o := q) (q := 1) (cs := qP (w.take i)) (xs := [iv x.k, iv x.s, iv x.a, iv x.p, iv x.g, uv x.ka, uv x.kb]) (cs2 := qP (w.take (i + 1))) (zl := zE) rfl rfl rfl (fun m q => by subst q; rfl) (fun z => by have h0 := hq z; subst h0; exact ⟨rfl, rfl⟩) (by rw [zi9]; first | omega | (simp; try omega)) rfl rfl (zbK rfl rfl (by simp)) (by rfl) (by omega) (by omega) (by rw [ht]; exact entsL_app1 _ x) (fun m2 e3 => ?_) (fun m2 => ?_)))))
  ·skip
   subst e3
   refine o_d 1 [(3, sv 3 0 (i + 1) (i + 1 + m2))] (by kernel_rfl) (zG (zC (zV (o_s (by refine zaf (v := .int .i64 (i64.wrap ((i : Int) + 1))) (congrArg (Value.int .i64) (w64 (by omega) (by omega))) ?_; kernel_rfl) ?_))))
   refine o_d 1 [(10, iv ((i : Int) + 1))] (by kernel_rfl) (zG (⟨w.length - (i + 1), ?_⟩))
   refine ⟨⟨reg [(10, iv ((i + 1) : Int)), (9, iv (w.length : Nat)), (3, slV 3 (i + 1) (some m2)), (0, pv 0 0)], [cr (zT p 1 2 e b), .chan 200 (((w.drop (i + 1) ++ w.take i) ++ [x]).map qR), .map (hdM hd), slB zE (qP (w.take (i + 1))) (some m2)]⟩, ?_⟩
   refine zf2 (by omega) ⟨?_, ?_⟩
   ·exact Wk.ren [0, 1, 2, 3] rfl rfl (by decide) ⟨rfl, ⟨rfl, ⟨rfl, ⟨rfl, trivial⟩⟩⟩⟩ ⟨.inl (qB rfl rfl), ⟨.inl (congrArg some (zX _).symm), ⟨.inl (congrArg some (qI _).symm), ⟨.inl (zQ (zaP _ _)), trivial⟩⟩⟩⟩
   ·exact ⟨(i + 1), ((w.drop (i + 1) ++ w.take i) ++ [x]), (some m2), rfl, by omega, (by rw [ht, List.append_assoc]), (fun q => by cases q), rfl⟩
  refine o_d 1 [(3, sv 6 0 (i + 1) (i + 1 + m2))] (by kernel_rfl) (zG (zC (zV (o_s (by refine zaf (v := .int .i64 (i64.wrap ((i : Int) + 1))) (congrArg (Value.int .i64) (w64 (by omega) (by omega))) ?_; kernel_rfl) ?_))))
  refine o_d 1 [(10, iv ((i : Int) + 1))] (by kernel_rfl) (zG (⟨w.length - (i + 1), ?_⟩))
  refine ⟨⟨reg [(10, iv ((i + 1) : Int)), (9, iv (w.length : Nat)), (3, slV 3 (i + 1) (some m2)), (0, pv 0 0)], [cr (zT p 1 2 e b), .chan 200 (((w.drop (i + 1) ++ w.take i) ++ [x]).map qR), .map (hdM hd), slB zE (qP (w.take (i + 1))) (some m2)]⟩, ?_⟩
  refine zf2 (by omega) ⟨?_, ?_⟩
  ·exact Wk.ren [0, 1, 2, 6] rfl rfl (by decide) ⟨rfl, ⟨rfl, ⟨rfl, ⟨rfl, trivial⟩⟩⟩⟩ ⟨.inl (qB rfl rfl), ⟨.inl (congrArg some (zX _).symm), ⟨.inl (congrArg some (qI _).symm), ⟨.inl (zQ (zaP _ _)), trivial⟩⟩⟩⟩
  ·exact ⟨(i + 1), ((w.drop (i + 1) ++ w.take i) ++ [x]), (some m2), rfl, by omega, (by rw [ht, List.append_assoc]), (fun q => by cases q), rfl⟩
 have h1' : ¬ ((i : Int) < (w.length : Nat)) := of_decide_eq_false h1
 refine zcD (zC (zR (zV (o_d 2 [(2, slV 3 i q), (27, slV 3 i q)] (by kernel_rfl) (zG (zC (zaZ ?_)))))))
 have hil : i = w.length := by omega
 have htk : w.take i = w := by rw [hil]; simp
 have hwc2 : wc = w := by rw [hwc, hil]; simp
 exact ⟨trivial, ⟨reg [(2, slV 3 i q)], [cr (zT p 1 2 e b), .chan 200 (wc.map qR), .map (hdM hd), slB zE (qP (w.take i)) q]⟩, Wk.ren [0, 1, 2, 3] rfl rfl (by decide) ⟨(zbn q rfl).trans rfl, trivial⟩ ⟨.inl (qB rfl rfl), ⟨.inl (congrArg some (zX _).symm), ⟨.inl (congrArg some (qI _).symm), ⟨.inl (zaM q (fun _ => (zaP _ _))), trivial⟩⟩⟩⟩, [slV 3 i q], (qE rfl rfl), (zU (isTup_slV _ _ _) qA), q, (fun z => List.eq_nil_of_length_eq_zero (by have := hq z; omega)), (by rw [hil]; rfl), (by rw [hwc2, htk])⟩
theorem HpublishC {P : Program} (hc : zbk P) (h_pool_Apply : zaU P) (h_pool_may : za3 P) (h_pool_held : zaT P) (h_pool_fits : za1 P) (h_pool_Check : zaO P) (h_pool_placed : zau P) (h_cookie_Next : zaC P) (p : qL) (w : List Ent) (hd : List (Int × Int)) (e : Ent) (b : Bool) :
    Env P "(*roundhouse/head.Head).publish" [pv 0 0] ([cw (zT p 1 2 e b), .chan 200 (w.map qR), .map (hdM hd)]) (fun v h' => v = .tuple #[] ∧ h' = [cw (zT (zjY ⟨p, w, hd, e, b⟩).p 1 2 (zjY ⟨p, w, hd, e, b⟩).e (zjY ⟨p, w, hd, e, b⟩).s), .chan 200 ((zjY ⟨p, w, hd, e, b⟩).w.map qR), .map (hdM hd)]) := by
 refine Env.by2 hc ?_
 unfold zcU
 show GC _ 3 _ _ ⟨reg [(0, pv 0 0)], [cw (zT p 1 2 e b), .chan 200 (w.map qR), .map (hdM hd)]⟩
 refine zR (zV (o_d 3 [(7, pv 0 330), (6, pv 0 0), (5, pv 0 0)] (by kernel_rfl) (o_s (by refine z4 (v := .chan (some 1)) rfl rfl ?_; exact (zcu 0).trans rfl) ?_)))
 refine zG (zC (zR (zV ?_)))
 rcases w with _ | ⟨e1, r1⟩
 ·skip
  exact o_sel0 (k := 1) rfl rfl rfl (o_d 2 [(11, bv false), (10, iv (-1))] (by kernel_rfl) (zG (zC (zai (zbW rfl (zaq (⟨trivial, ⟨reg [], [cw (zT p 1 2 e b), .chan 200 (([] : List Ent).map qR), .map (hdM hd)]⟩, Wk.ren [0, 1, 2] rfl rfl (by decide) trivial ⟨.inl (qB rfl rfl), ⟨.inl (congrArg some (zX _).symm), ⟨.inl (congrArg some (qI _).symm), trivial⟩⟩⟩, [], rfl, qA, rfl, rfl⟩)))))))
 ·skip
  refine o_sel1 (k := 1) (v := qR e1) (b := r1.map qR) rfl rfl (o_d 2 [(11, bv true), (10, iv 0)] (by kernel_rfl) (zG (zC (zai (zer rfl (zR (zV (o_b 3 [(2, pv 3 0), (12, .agg #[iv e1.k, iv e1.s, iv e1.a, iv e1.p, iv e1.g, uv e1.ka, uv e1.kb])] [cw (zT p 1 2 e b), .chan 200 (r1.map qR), .map (hdM hd), cw [iv e1.k, iv e1.s, iv e1.a, iv e1.p, iv e1.g, uv e1.ka, uv e1.kb]] (by kernel_rfl) (zG (zC (zR (zdz ["roundhouse/pool.Apply"] (by kernel_rfl) ?_))))))))))))
  refine r_d 3 [(16, pv 0 0), (15, pv 0 0), (14, pv 0 0)] (by kernel_rfl) (r_s (by refine z4 (v := qG p) rfl rfl ?_; exact zeL (zal p)) ?_)
  refine r_d 1 [(18, .agg #[iv e1.k, iv e1.s, iv e1.a, iv e1.p, iv e1.g, uv e1.ka, uv e1.kb])] (by kernel_rfl) (r_cl (zhl (ApplyC h_pool_Apply h_pool_may h_pool_held h_pool_fits h_pool_Check h_pool_placed h_cookie_Next p e1) rfl (all_cons (zaG p) (all_cons rfl rfl)) (all_cons (qZ ((zO p e1).1)) (all_cons rfl rfl)) (r_b 4 [(3, pv 4 0), (21, iv ((zO p e1).2)), (20, qG ((zO p e1).1)), (13, .tuple #[qG ((zO p e1).1), iv ((zO p e1).2)])] [cw (zT p 1 2 e b), .chan 200 (r1.map qR), .map (hdM hd), cw [iv e1.k, iv e1.s, iv e1.a, iv e1.p, iv e1.g, uv e1.ka, uv e1.kb], cw (pl zH)] (by kernel_rfl) (r_s0 (by refine qQ (c' := pl ((zO p e1).1)) rfl rfl rfl ?_ ?_ ?_; exact zN _; exact zbU (by omega); exact qO zH ((zO p e1).1)) ?_))))
  refine r_b 1 [(4, iv ((zO p e1).2))] [cw (zT p 1 2 e b), .chan 200 (r1.map qR), .map (hdM hd), cw [iv e1.k, iv e1.s, iv e1.a, iv e1.p, iv e1.g, uv e1.ka, uv e1.kb], cw (pl ((zO p e1).1))] (by kernel_rfl) (zc6 (zC (zR (zV (o_d 2 [(23, bv (((zO p e1).2) == 0)), (22, iv ((zO p e1).2))] (by kernel_rfl) (zG (zC (zaj (t := ((zO p e1).2) == 0) rfl (fun h1 => ?_) (fun h1 => ?_)))))))))
  ·skip
   have h1' : (zO p e1).2 = 0 := zcf h1
   refine zbx [cw (zT p 1 2 e b), .chan 200 (r1.map qR), .map (hdM hd), cw [iv e1.k, iv e1.s, iv e1.a, iv e1.p, iv e1.g, uv e1.ka, uv e1.kb], cw (pl ((zO p e1).1))] (by kernel_rfl) (d_n 3 3 5 [(26, pv 0 0), (25, pv 0 0), (24, pv 0 0)] [cw (zT p 1 2 e b), .chan 200 (r1.map qR), .map (hdM hd), cw [iv e1.k, iv e1.s, iv e1.a, iv e1.p, iv e1.g, uv e1.ka, uv e1.kb], cw (pl ((zO p e1).1))] [] (by kernel_rfl) rfl rfl (d_s rfl rfl rfl (by kernel_rfl) (by refine z4 (v := qG ((zO p e1).1)) rfl rfl ?_; exact zal ((zO p e1).1)) ?_))
   refine d_n 3 7 5 [(30, pv 0 0), (29, pv 0 0), (28, .agg #[iv e1.k, iv e1.s, iv e1.a, iv e1.p, iv e1.g, uv e1.ka, uv e1.kb])] [cw (zT p 1 2 e b), .chan 200 (r1.map qR), .map (hdM hd), cw [iv e1.k, iv e1.s, iv e1.a, iv e1.p, iv e1.g, uv e1.ka, uv e1.kb], cw (pl ((zO p e1).1))] [⟨4, [3], [], none⟩, ⟨3, [4], [], none⟩] (by kernel_rfl) rfl rfl (d_s0 rfl rfl ⟨_, _, _, rfl⟩ (by kernel_rfl) (by refine qQ (c' := zT ((zO p e1).1) 1 2 e b) rfl rfl rfl ?_ ?_ ?_; exact zN _; exact head_le (by omega); exact head_wP) ?_)
   refine d_n 2 10 5 [(32, pv 0 332), (31, pv 0 0)] [cw (zT ((zO p e1).1) 1 2 e b), .chan 200 (r1.map qR), .map (hdM hd), cw [iv e1.k, iv e1.s, iv e1.a, iv e1.p, iv e1.g, uv e1.ka, uv e1.kb], cw (pl ((zO p e1).1))] [⟨7, [0], [0], none⟩, ⟨4, [3], [], none⟩, ⟨3, [4], [], none⟩] (by kernel_rfl) rfl rfl (d_s0 rfl rfl ⟨_, _, _, rfl⟩ (by kernel_rfl) (by refine qQ (c' := zT ((zO p e1).1) 1 2 e1 b) rfl rfl rfl ?_ ?_ ?_; exact rfl; exact head_le (by omega); exact head_wE (e' := e1)) ?_)
   refine d_n 2 13 5 [(34, pv 0 339), (33, pv 0 0)] [cw (zT ((zO p e1).1) 1 2 e1 b), .chan 200 (r1.map qR), .map (hdM hd), cw [iv e1.k, iv e1.s, iv e1.a, iv e1.p, iv e1.g, uv e1.ka, uv e1.kb], cw (pl ((zO p e1).1))] [⟨10, [0], [0], none⟩, ⟨7, [0], [0], none⟩, ⟨4, [3], [], none⟩, ⟨3, [4], [], none⟩] (by kernel_rfl) rfl rfl (d_s0 rfl rfl ⟨_, _, _, rfl⟩ (by kernel_rfl) (by refine qQ (c' := zT ((zO p e1).1) 1 2 e1 true) rfl rfl rfl ?_ ?_ ?_; exact rfl; exact head_le (by omega); exact head_wS) ?_)
   exact zb2 (⟨trivial, ⟨reg [], [cw (zT ((zO p e1).1) 1 2 e1 true), .chan 200 (r1.map qR), .map (hdM hd)]⟩, Wk.ren [0, 1, 2] rfl rfl (by decide) trivial ⟨.inl (qB rfl rfl), ⟨.inl (congrArg some (zX _).symm), ⟨.inl (congrArg some (qI _).symm), trivial⟩⟩⟩, [], rfl, qA, rfl, (by simp only [zjY]; rw [if_pos h1'])⟩)
  have h1' : ¬ ((zO p e1).2 = 0) := zcg h1
  exact zaq (⟨trivial, ⟨reg [], [cw (zT p 1 2 e b), .chan 200 (r1.map qR), .map (hdM hd)]⟩, Wk.ren [0, 1, 2] rfl rfl (by decide) trivial ⟨.inl (qB rfl rfl), ⟨.inl (congrArg some (zX _).symm), ⟨.inl (congrArg some (qI _).symm), trivial⟩⟩⟩, [], rfl, qA, rfl, (by simp only [zjY]; rw [if_neg h1'])⟩)
theorem HNewC {P : Program} (hc : zed P) (p : qL) (units : Int) :
    Env P "roundhouse/head.New" [qG p, iv units] ([]) (fun v h' => if units < 1 ∨ 16 < units then v = .tuple #[.pointer none, iv 14] ∧ h' = [] else v = .tuple #[pv 0 0, iv 0] ∧ h' = [cw (zT p 1 2 e0 false), .chan 200 (([] : List Ent).map qR), .map (hdM (List.replicate units.toNat (0, -1)))]) := by
 refine Env.by2 hc ?_
 unfold zhY
 show GC _ 0 _ _ ⟨reg [(0, qG p), (1, iv units)], []⟩
 refine zR (zV (o_b 3 [(5, iv 0), (4, .pointer none), (2, pv 0 0)] [cw (pl p)] (by kernel_rfl) (zG (zC (zR (zR (zV (o_d 3 [(10, bv (decide (units < 1))), (9, bv (decide (units < 1))), (8, iv units)] (by kernel_rfl) (zir (b := decide (units < 1)) 10 rfl (fun h1 => ?_) (fun h1 => ?_))))))))))
 ·skip
  have h1' : units < 1 := of_decide_eq_true h1
  exact o_d 3 [(13, bv true), (12, undef), (11, undef)] (by kernel_rfl) (zG (zC (zer rfl (zR (zV (o_d 2 [(5, iv 14), (4, .pointer none)] (by kernel_rfl) (zG (zC (zaZ (⟨trivial, ⟨reg [(4, .pointer none), (5, iv 14)], []⟩, Wk.ren [] rfl rfl (by decide) ⟨rfl, ⟨rfl, trivial⟩⟩ trivial, [.pointer none, iv 14], (qE rfl (qE rfl rfl)), (zU rfl (zU rfl qA)), (by show (if units < 1 ∨ 16 < units then _ else _); rw [if_pos (by omega)]; exact ⟨rfl, rfl⟩)⟩))))))))))
 have h1' : ¬ (units < 1) := of_decide_eq_false h1
 refine o_d 3 [(13, bv (decide (units > 16))), (12, bv (decide (units > 16))), (11, iv units)] (by kernel_rfl) (zG (zC (zaj (t := decide (units > 16)) rfl (fun h2 => ?_) (fun h2 => ?_))))
 ·skip
  have h2' : units > 16 := of_decide_eq_true h2
  exact zR (zV (o_d 2 [(5, iv 14), (4, .pointer none)] (by kernel_rfl) (zG (zC (zaZ (⟨trivial, ⟨reg [(4, .pointer none), (5, iv 14)], []⟩, Wk.ren [] rfl rfl (by decide) ⟨rfl, ⟨rfl, trivial⟩⟩ trivial, [.pointer none, iv 14], (qE rfl (qE rfl rfl)), (zU rfl (zU rfl qA)), (by show (if units < 1 ∨ 16 < units then _ else _); rw [if_pos (by omega)]; exact ⟨rfl, rfl⟩)⟩))))))
 have h2' : ¬ (units > 16) := of_decide_eq_false h2
 refine zaq (zC (zR (zdz [] (by kernel_rfl) (r_s (by refine z4 (v := qG p) rfl rfl ?_; exact zal p) ?_))))
 refine r_b 2 [(16, .map (some 2)), (15, .chan (some 1))] [cw (pl p), .chan 200 (([] : List Ent).map qR), .map (hdM ([]))] (by kernel_rfl) (r_s (by refine zbZ (c := zT p 1 2 e0 false) ?_; exact bld_head p 1 2) ?_)
 refine r_b 2 [(6, pv 3 0), (18, pv 3 0)] [cw (pl p), .chan 200 (([] : List Ent).map qR), .map (hdM ([])), cw (zT p 1 2 e0 false)] (by kernel_rfl) (zc6 (zC (zR (zR (zV (o_d 2 [(20, iv 0), (19, iv units)] (by kernel_rfl) (zG (zC (zai (zdm (fun μ s => ∃ (i : Nat), ∃ (wv : List (Int × Int)), μ = units.toNat - i ∧ ((i : Int) ≤ units) ∧ (wv = List.replicate i (0, -1)) ∧ s = ⟨reg [(20, iv (i : Int)), (19, iv units), (6, pv 3 0)], [cw (pl p), .chan 200 (([] : List Ent).map qR), .map (hdM wv), cw (zT p 1 2 e0 false)]⟩) ⟨(units.toNat - 0), ?_⟩ ?_))))))))))
 ·skip
  refine ⟨⟨reg [(20, iv (0 : Int)), (19, iv units), (6, pv 3 0)], [cw (pl p), .chan 200 (([] : List Ent).map qR), .map (hdM ([])), cw (zT p 1 2 e0 false)]⟩, ?_⟩
  refine ⟨?_, ?_⟩
  ·exact Wk.ren [0, 1, 2, 3] rfl rfl (by decide) ⟨rfl, ⟨rfl, ⟨rfl, trivial⟩⟩⟩ ⟨.inl (zQ (zaH p)), ⟨.inl (congrArg some (zX _).symm), ⟨.inl (congrArg some (qI _).symm), ⟨.inl (qB rfl rfl), trivial⟩⟩⟩⟩
  ·exact ⟨0, ([]), rfl, (by omega), rfl, rfl⟩
 rintro μ s ⟨i, wv, rfl, hi, hwv, rfl⟩
 refine zR (zV (o_d 1 [(21, bv (decide ((i : Int) < units)))] (by kernel_rfl) (zG (zC (zR (zaj (t := decide ((i : Int) < units)) rfl (fun h3 => ?_) (fun h3 => ?_)))))))
 ·skip
  have h3' : (i : Int) < units := of_decide_eq_true h3
  refine zaq (zC (zR (zai (zR (zV (o_d 2 [(7, iv (i : Int)), (22, iv (i : Int))] (by kernel_rfl) (zG (zC (zV (o_d 3 [(25, pv 3 331), (24, pv 3 0), (23, pv 3 0)] (by kernel_rfl) (o_s (by refine z4 (v := .map (some 2)) rfl rfl ?_; exact (zcu 1).trans rfl) ?_)))))))))))
  refine o_d 2 [(28, .agg #[iv 0, iv (-1)]), (27, iv (i : Int))] (by kernel_rfl) (zc1 (by exact run_mupA (hd := wv) (n := (i : Int)) (a := 0) (b := (-1)) rfl rfl rfl rfl (by rw [hwv]; simp)) ?_)
  refine zG (zC (zV (o_s (by refine zaf (v := .int .i64 (i64.wrap ((i : Int) + 1))) (congrArg (Value.int .i64) (w64 (by omega) (by omega))) ?_; kernel_rfl) ?_)))
  refine o_d 1 [(20, iv ((i : Int) + 1))] (by kernel_rfl) (zG (⟨units.toNat - (i + 1), ?_⟩))
  refine ⟨⟨reg [(20, iv ((i + 1) : Int)), (19, iv units), (6, pv 3 0)], [cw (pl p), .chan 200 (([] : List Ent).map qR), .map (hdM (wv ++ [(0, (-1))])), cw (zT p 1 2 e0 false)]⟩, ?_⟩
  refine zf2 (by omega) ⟨?_, ?_⟩
  ·exact Wk.ren [0, 1, 2, 3] rfl rfl (by decide) ⟨rfl, ⟨rfl, ⟨rfl, trivial⟩⟩⟩ ⟨.inl (zQ (zaH p)), ⟨.inl (congrArg some (zX _).symm), ⟨.inl (congrArg some (qI _).symm), ⟨.inl (qB rfl rfl), trivial⟩⟩⟩⟩
  ·exact ⟨(i + 1), (wv ++ [(0, (-1))]), rfl, by omega, (by rw [hwv, List.replicate_succ']), rfl⟩
 have h3' : ¬ ((i : Int) < units) := of_decide_eq_false h3
 refine zcD (zC (zR (zV (o_d 3 [(5, iv 0), (4, pv 3 0), (30, pv 3 0)] (by kernel_rfl) (zG (zC (zaZ ?_)))))))
 have hwv2 : wv = List.replicate units.toNat (0, -1) := by rw [hwv, show i = units.toNat by omega]
 exact ⟨trivial, ⟨reg [(4, pv 0 0), (5, iv 0)], [cw (zT p 1 2 e0 false), .chan 200 (([] : List Ent).map qR), .map (hdM wv)]⟩, Wk.ren [3, 1, 2] rfl rfl (by decide) ⟨rfl, ⟨rfl, trivial⟩⟩ ⟨.inl (qB rfl rfl), ⟨.inl (congrArg some (zX _).symm), ⟨.inl (congrArg some (qI _).symm), trivial⟩⟩⟩, [pv 0 0, iv 0], (qE rfl (qE rfl rfl)), (zU rfl (zU rfl qA)), (by show (if units < 1 ∨ 16 < units then _ else _); rw [if_neg (by omega)]; exact ⟨rfl, by rw [hwv2]⟩)⟩
theorem HheardC {P : Program} (hc : zbA P) (p : qL) (w : List Ent) (hd : List (Int × Int)) (e : Ent) (b : Bool) (u bt v : Int) (wh ak : Bool) (ne : Ent) (np : qL) :
    Env P "(*roundhouse/head.Head).Heard" [pv 0 0, ntV u bt v wh ak ne np] ([cw (zT p 1 2 e b), .chan 200 (w.map qR), .map (hdM hd)]) (fun v1 h' => v1 = .tuple #[] ∧ h' = [cw (zT p 1 2 e b), .chan 200 (w.map qR), .map (hdM (zbR hd ⟨u, bt, v, wh, ak, ne, np⟩))]) := by
 refine Env.by2 hc ?_
 unfold zdD
 show GC _ 3 _ _ ⟨reg [(0, pv 0 0), (1, ntV u bt v wh ak ne np)], [cw (zT p 1 2 e b), .chan 200 (w.map qR), .map (hdM hd)]⟩
 refine zR (zV (o_b 1 [(3, pv 3 0)] [cw (zT p 1 2 e b), .chan 200 (w.map qR), .map (hdM hd), cw (ntF u bt v wh ak ne np)] (by kernel_rfl) (zG (zC (zR (zdz [] (by kernel_rfl) (r_d 3 [(10, pv 0 331), (9, pv 0 0), (8, pv 0 0)] (by kernel_rfl) (r_s (by refine z4 (v := .map (some 2)) rfl rfl ?_; exact (zcu 1).trans rfl) ?_))))))))
 refine r_d 1 [(12, pv 3 0)] (by kernel_rfl) (r_s (by refine z4 (v := iv u) rfl rfl ?_; exact zdT rfl) ?_)
 refine r_s (by exact run_lkuH2 (hd := hd) (n := u) rfl rfl rfl) ?_
 refine r_b 6 [(5, bv ((lkS hd u).2)), (4, pv 4 0), (16, bv ((lkS hd u).2)), (15, .agg #[iv ((lkS hd u).1.1), iv ((lkS hd u).1.2)]), (7, .tuple #[.agg #[iv ((lkS hd u).1.1), iv ((lkS hd u).1.2)], bv ((lkS hd u).2)])] [cw (zT p 1 2 e b), .chan 200 (w.map qR), .map (hdM hd), cw (ntF u bt v wh ak ne np), cw [iv ((lkS hd u).1.1), iv ((lkS hd u).1.2)]] (by kernel_rfl) (zc6 (zC (zR (zR (zV (o_d 1 [(17, pv 3 4)] (by kernel_rfl) (o_s (by refine z4 (v := bv ak) rfl rfl ?_; exact zdT rfl) ?_)))))))
 refine o_d 2 [(20, bv (!ak)), (19, bv (!ak))] (by kernel_rfl) (zir (b := !ak) 20 rfl (fun h1 => ?_) (fun h1 => ?_))
 ·skip
  refine o_d 10 [(30, bv true), (29, undef), (28, undef), (27, undef), (26, undef), (25, undef), (24, bv true), (23, bv true), (22, undef), (21, undef)] (by kernel_rfl) (zG (z5 [(30, bv true), (4, pv 4 0), (3, pv 3 0), (0, pv 0 0)] (by kernel_rfl) (zer rfl (zaZ ?_))))
  have hH : zbR hd ⟨u, bt, v, wh, ak, ne, np⟩ = hd := by
   refine (zgi hd ⟨u, bt, v, wh, ak, ne, np⟩).trans ?_
   show (if (!ak) = true then hd else if (!(lkS hd u).2) = true then hd else if decide (bt < (lkS hd u).1.1) = true then hd else if decide (bt > (lkS hd u).1.1) = true then hd.set u.toNat (bt, if (-1) > v then (-1) else v) else if decide ((if (-1) > v then (-1) else v) > (lkS hd u).1.2) = true then hd.set u.toNat (bt, if (-1) > v then (-1) else v) else hd.set u.toNat ((lkS hd u).1.1, (lkS hd u).1.2)) = _
   simp only [h1, if_true, if_false, Bool.false_eq_true]
  exact ⟨trivial, ⟨reg [], [cw (zT p 1 2 e b), .chan 200 (w.map qR), .map (hdM hd)]⟩, Wk.ren [0, 1, 2] rfl rfl (by decide) trivial ⟨.inl (qB rfl rfl), ⟨.inl (congrArg some (zX _).symm), ⟨.inl (congrArg some (qI _).symm), trivial⟩⟩⟩, [], rfl, qA, rfl, (by rw [hH])⟩
 refine o_d 4 [(24, bv (!((lkS hd u).2))), (23, bv (!((lkS hd u).2))), (22, bv (!((lkS hd u).2))), (21, bv ((lkS hd u).2))] (by kernel_rfl) (zir (b := !((lkS hd u).2)) 24 rfl (fun h2 => ?_) (fun h2 => ?_))
 ·skip
  refine o_d 6 [(30, bv true), (29, undef), (28, undef), (27, undef), (26, undef), (25, undef)] (by kernel_rfl) (zG (z5 [(30, bv true), (4, pv 4 0), (3, pv 3 0), (0, pv 0 0)] (by kernel_rfl) (zer rfl (zaZ ?_))))
  have hH : zbR hd ⟨u, bt, v, wh, ak, ne, np⟩ = hd := by
   refine (zgi hd ⟨u, bt, v, wh, ak, ne, np⟩).trans ?_
   show (if (!ak) = true then hd else if (!(lkS hd u).2) = true then hd else if decide (bt < (lkS hd u).1.1) = true then hd else if decide (bt > (lkS hd u).1.1) = true then hd.set u.toNat (bt, if (-1) > v then (-1) else v) else if decide ((if (-1) > v then (-1) else v) > (lkS hd u).1.2) = true then hd.set u.toNat (bt, if (-1) > v then (-1) else v) else hd.set u.toNat ((lkS hd u).1.1, (lkS hd u).1.2)) = _
   simp only [h1, h2, if_true, if_false, Bool.false_eq_true]
  exact ⟨trivial, ⟨reg [], [cw (zT p 1 2 e b), .chan 200 (w.map qR), .map (hdM hd)]⟩, Wk.ren [0, 1, 2] rfl rfl (by decide) trivial ⟨.inl (qB rfl rfl), ⟨.inl (congrArg some (zX _).symm), ⟨.inl (congrArg some (qI _).symm), trivial⟩⟩⟩, [], rfl, qA, rfl, (by rw [hH])⟩
 refine o_d 1 [(25, pv 3 1)] (by kernel_rfl) (zb6 rfl (o_s (by refine z4 (v := iv bt) rfl rfl ?_; exact zdT rfl) ?_))
 refine o_d 4 [(30, bv (decide (bt < (lkS hd u).1.1))), (29, bv (decide (bt < (lkS hd u).1.1))), (28, iv ((lkS hd u).1.1)), (27, pv 4 0)] (by kernel_rfl) (zG (z5 [(30, bv (decide (bt < (lkS hd u).1.1))), (4, pv 4 0), (3, pv 3 0), (0, pv 0 0)] (by kernel_rfl) (zaj (t := decide (bt < (lkS hd u).1.1)) rfl (fun h3 => ?_) (fun h3 => ?_))))
 ·skip
  have h3' : bt < (lkS hd u).1.1 := of_decide_eq_true h3
  refine zaZ ?_
  have hH : zbR hd ⟨u, bt, v, wh, ak, ne, np⟩ = hd := by
   refine (zgi hd ⟨u, bt, v, wh, ak, ne, np⟩).trans ?_
   show (if (!ak) = true then hd else if (!(lkS hd u).2) = true then hd else if decide (bt < (lkS hd u).1.1) = true then hd else if decide (bt > (lkS hd u).1.1) = true then hd.set u.toNat (bt, if (-1) > v then (-1) else v) else if decide ((if (-1) > v then (-1) else v) > (lkS hd u).1.2) = true then hd.set u.toNat (bt, if (-1) > v then (-1) else v) else hd.set u.toNat ((lkS hd u).1.1, (lkS hd u).1.2)) = _
   simp only [h1, h2, h3, if_true, if_false, Bool.false_eq_true]
  exact ⟨trivial, ⟨reg [], [cw (zT p 1 2 e b), .chan 200 (w.map qR), .map (hdM hd)]⟩, Wk.ren [0, 1, 2] rfl rfl (by decide) trivial ⟨.inl (qB rfl rfl), ⟨.inl (congrArg some (zX _).symm), ⟨.inl (congrArg some (qI _).symm), trivial⟩⟩⟩, [], rfl, qA, rfl, (by rw [hH])⟩
 have h3' : ¬ (bt < (lkS hd u).1.1) := of_decide_eq_false h3
 refine zaq (zC (zR (zR (zV (o_d 1 [(31, pv 3 2)] (by kernel_rfl) (o_s (by refine z4 (v := iv v) rfl rfl ?_; exact zdT rfl) ?_))))))
 refine o_d 2 [(6, iv (if (-1) > v then (-1) else v)), (33, iv (if (-1) > v then (-1) else v))] (by kernel_rfl) (zG (zC (zR (zV (o_d 1 [(34, pv 3 1)] (by kernel_rfl) (o_s (by refine z4 (v := iv bt) rfl rfl ?_; exact zdT rfl) ?_))))))
 refine o_d 4 [(39, bv (decide (bt > (lkS hd u).1.1))), (38, bv (decide (bt > (lkS hd u).1.1))), (37, iv ((lkS hd u).1.1)), (36, pv 4 0)] (by kernel_rfl) (zir (b := decide (bt > (lkS hd u).1.1)) 39 rfl (fun h4 => ?_) (fun h4 => ?_))
 ·skip
  have h4' : bt > (lkS hd u).1.1 := of_decide_eq_true h4
  refine o_d 5 [(44, bv true), (43, undef), (42, undef), (41, undef), (40, undef)] (by kernel_rfl) (zG (zC (zer rfl (zV (o_d 1 [(45, pv 3 1)] (by kernel_rfl) (o_s (by refine z4 (v := iv bt) rfl rfl ?_; exact zdT rfl) ?_))))))
  refine o_b 3 [(48, .agg #[iv bt, iv (if (-1) > v then (-1) else v)]), (47, iv (if (-1) > v then (-1) else v))] [cw (zT p 1 2 e b), .chan 200 (w.map qR), .map (hdM hd), cw (ntF u bt v wh ak ne np), cw [iv bt, iv (if (-1) > v then (-1) else v)]] (by kernel_rfl) (zG (z5 [(4, pv 4 0), (3, pv 3 0), (0, pv 0 0)] (by kernel_rfl) (zdz [] (by kernel_rfl) (r_d 3 [(51, pv 0 331), (50, pv 0 0), (49, pv 0 0)] (by kernel_rfl) (r_s (by refine z4 (v := .map (some 2)) rfl rfl ?_; exact (zcu 1).trans rfl) ?_)))))
  refine r_d 1 [(53, pv 3 0)] (by kernel_rfl) (r_s (by refine z4 (v := iv u) rfl rfl ?_; exact zdT rfl) ?_)
  refine r_d 1 [(55, .agg #[iv bt, iv (if (-1) > v then (-1) else v)])] (by kernel_rfl) (r_s0 (by exact run_mupS (hd := hd) (n := u) (a := bt) (b := (if (-1) > v then (-1) else v)) rfl rfl rfl rfl (by exact lkS_in (by assumption))) ?_)
  refine zc6 ?_
  have hH : zbR hd ⟨u, bt, v, wh, ak, ne, np⟩ = hd.set u.toNat (bt, (if (-1) > v then (-1) else v)) := by
   refine (zgi hd ⟨u, bt, v, wh, ak, ne, np⟩).trans ?_
   show (if (!ak) = true then hd else if (!(lkS hd u).2) = true then hd else if decide (bt < (lkS hd u).1.1) = true then hd else if decide (bt > (lkS hd u).1.1) = true then hd.set u.toNat (bt, if (-1) > v then (-1) else v) else if decide ((if (-1) > v then (-1) else v) > (lkS hd u).1.2) = true then hd.set u.toNat (bt, if (-1) > v then (-1) else v) else hd.set u.toNat ((lkS hd u).1.1, (lkS hd u).1.2)) = _
   simp only [h1, h2, h3, h4, if_true, if_false, Bool.false_eq_true]
  exact ⟨trivial, ⟨reg [], [cw (zT p 1 2 e b), .chan 200 (w.map qR), .map (hdM (hd.set u.toNat (bt, (if (-1) > v then (-1) else v))))]⟩, Wk.ren [0, 1, 2] rfl rfl (by decide) trivial ⟨.inl (qB rfl rfl), ⟨.inl (congrArg some (zX _).symm), ⟨.inl (congrArg some (qI _).symm), trivial⟩⟩⟩, [], rfl, qA, rfl, (by rw [hH])⟩
 have h4' : ¬ (bt > (lkS hd u).1.1) := of_decide_eq_false h4
 refine o_d 5 [(44, bv (decide ((if (-1) > v then (-1) else v) > (lkS hd u).1.2))), (43, bv (decide ((if (-1) > v then (-1) else v) > (lkS hd u).1.2))), (42, iv ((lkS hd u).1.2)), (41, pv 4 1), (40, iv (if (-1) > v then (-1) else v))] (by kernel_rfl) (zG (zC (zaj (t := decide ((if (-1) > v then (-1) else v) > (lkS hd u).1.2)) rfl (fun h5 => ?_) (fun h5 => ?_))))
 ·skip
  have h5' : (if (-1) > v then (-1) else v) > (lkS hd u).1.2 := of_decide_eq_true h5
  refine zV (o_d 1 [(45, pv 3 1)] (by kernel_rfl) (o_s (by refine z4 (v := iv bt) rfl rfl ?_; exact zdT rfl) ?_))
  refine o_b 3 [(48, .agg #[iv bt, iv (if (-1) > v then (-1) else v)]), (47, iv (if (-1) > v then (-1) else v))] [cw (zT p 1 2 e b), .chan 200 (w.map qR), .map (hdM hd), cw (ntF u bt v wh ak ne np), cw [iv bt, iv (if (-1) > v then (-1) else v)]] (by kernel_rfl) (zG (z5 [(4, pv 4 0), (3, pv 3 0), (0, pv 0 0)] (by kernel_rfl) (zdz [] (by kernel_rfl) (r_d 3 [(51, pv 0 331), (50, pv 0 0), (49, pv 0 0)] (by kernel_rfl) (r_s (by refine z4 (v := .map (some 2)) rfl rfl ?_; exact (zcu 1).trans rfl) ?_)))))
  refine r_d 1 [(53, pv 3 0)] (by kernel_rfl) (r_s (by refine z4 (v := iv u) rfl rfl ?_; exact zdT rfl) ?_)
  refine r_d 1 [(55, .agg #[iv bt, iv (if (-1) > v then (-1) else v)])] (by kernel_rfl) (r_s0 (by exact run_mupS (hd := hd) (n := u) (a := bt) (b := (if (-1) > v then (-1) else v)) rfl rfl rfl rfl (by exact lkS_in (by assumption))) ?_)
  refine zc6 ?_
  have hH : zbR hd ⟨u, bt, v, wh, ak, ne, np⟩ = hd.set u.toNat (bt, (if (-1) > v then (-1) else v)) := by
   refine (zgi hd ⟨u, bt, v, wh, ak, ne, np⟩).trans ?_
   show (if (!ak) = true then hd else if (!(lkS hd u).2) = true then hd else if decide (bt < (lkS hd u).1.1) = true then hd else if decide (bt > (lkS hd u).1.1) = true then hd.set u.toNat (bt, if (-1) > v then (-1) else v) else if decide ((if (-1) > v then (-1) else v) > (lkS hd u).1.2) = true then hd.set u.toNat (bt, if (-1) > v then (-1) else v) else hd.set u.toNat ((lkS hd u).1.1, (lkS hd u).1.2)) = _
   simp only [h1, h2, h3, h4, h5, if_true, if_false, Bool.false_eq_true]
  exact ⟨trivial, ⟨reg [], [cw (zT p 1 2 e b), .chan 200 (w.map qR), .map (hdM (hd.set u.toNat (bt, (if (-1) > v then (-1) else v))))]⟩, Wk.ren [0, 1, 2] rfl rfl (by decide) trivial ⟨.inl (qB rfl rfl), ⟨.inl (congrArg some (zX _).symm), ⟨.inl (congrArg some (qI _).symm), trivial⟩⟩⟩, [], rfl, qA, rfl, (by rw [hH])⟩
 have h5' : ¬ ((if (-1) > v then (-1) else v) > (lkS hd u).1.2) := of_decide_eq_false h5
 refine zaq (zC (zdz [] (by kernel_rfl) (r_d 3 [(51, pv 0 331), (50, pv 0 0), (49, pv 0 0)] (by kernel_rfl) (r_s (by refine z4 (v := .map (some 2)) rfl rfl ?_; exact (zcu 1).trans rfl) ?_))))
 refine r_d 1 [(53, pv 3 0)] (by kernel_rfl) (r_s (by refine z4 (v := iv u) rfl rfl ?_; exact zdT rfl) ?_)
 refine r_d 1 [(55, .agg #[iv ((lkS hd u).1.1), iv ((lkS hd u).1.2)])] (by kernel_rfl) (r_s0 (by exact run_mupS (hd := hd) (n := u) (a := (lkS hd u).1.1) (b := (lkS hd u).1.2) rfl rfl rfl rfl (by exact lkS_in (by assumption))) ?_)
 refine zc6 ?_
 have hH : zbR hd ⟨u, bt, v, wh, ak, ne, np⟩ = hd.set u.toNat ((lkS hd u).1.1, (lkS hd u).1.2) := by
  refine (zgi hd ⟨u, bt, v, wh, ak, ne, np⟩).trans ?_
  show (if (!ak) = true then hd else if (!(lkS hd u).2) = true then hd else if decide (bt < (lkS hd u).1.1) = true then hd else if decide (bt > (lkS hd u).1.1) = true then hd.set u.toNat (bt, if (-1) > v then (-1) else v) else if decide ((if (-1) > v then (-1) else v) > (lkS hd u).1.2) = true then hd.set u.toNat (bt, if (-1) > v then (-1) else v) else hd.set u.toNat ((lkS hd u).1.1, (lkS hd u).1.2)) = _
  simp only [h1, h2, h3, h4, h5, if_true, if_false, Bool.false_eq_true]
 exact ⟨trivial, ⟨reg [], [cw (zT p 1 2 e b), .chan 200 (w.map qR), .map (hdM (hd.set u.toNat ((lkS hd u).1.1, (lkS hd u).1.2)))]⟩, Wk.ren [0, 1, 2] rfl rfl (by decide) trivial ⟨.inl (qB rfl rfl), ⟨.inl (congrArg some (zX _).symm), ⟨.inl (congrArg some (qI _).symm), trivial⟩⟩⟩, [], rfl, qA, rfl, (by rw [hH])⟩
end Go.Rh

set_option maxHeartbeats 8000000
namespace Go.Rh
def zd2 : IFunc := ⟨76, [.tmp 2], (.seq (.reg [kq 2 (.mv (.c (.slice none 0 0)))]) (.seq (.seq (.reg [km 7 0, kq 8 (.call "(*roundhouse/head.Head).all" [(.t 7)])]) (.cond (.t 8) (.reg [km 9 0, kq 10 (.call "(*roundhouse/head.Head).publish" [(.t 9)])]) .skip)) (.seq (.reg [kq 3 (.mv (.c (.slice none 0 0)))]) (.seq (.seq (.reg [km 11 0, kq 12 (.nilc (.t 11)), kq 13 (.fad 331 (.t 12)), kq 14 (.ld none (.t 13)), kq 15 (.lenM (.t 14)), kq 16 (.mv (ki 0))]) (.block 0 (.loop (.seq (.reg [kq 17 (.bin .lss (.t 16) (.t 15))]) (.seq (.cond (.t 17) .skip (.exit 0)) (.seq (.block 1 (.seq (.reg [km 18 16, km 4 18]) (.seq (.reg [km 19 0, kq 20 (.nilc (.t 19)), kq 21 (.fad 331 (.t 20)), kq 22 (.ld none (.t 21)), km 23 4, kq 24 (.lku .i [(2, (.int .i64 0))] true false (.t 22) (.t 23)), kq 5 (.new [(2, (.int .i64 0))]), ku (.st 2 (.t 5) (.t 24))]) (.seq (.dreg [km 25 4, kq 26 (.fad 0 (.t 5)), kq 27 (.ld none (.t 26)), km 28 0, kq 29 (.nilc (.t 28)), kq 30 (.fad 0 (.t 29)), kq 31 (.fad 0 (.t 30)), kq 32 (.ld none (.t 31)), kq 33 (.bld kB [(0, 1, (.t 25)), (1, 1, (.t 27)), (2, 1, (.t 32))]), kq 6 (.new kB), ku (.st 342 (.t 6) (.t 33))] [[], [], [1], [], [3], [4, 3], [5, 4, 3], [6, 5, 4, 3], [0, 2, 1, 7, 6, 5, 4, 3], [], [9, 8, 0, 2, 1, 7, 6, 5, 4, 3]]) (.seq (.block 2 (.seq (.dreg [kq 41 (.fad 1 (.t 5)), kq 42 (.ld none (.t 41)), km 43 0, kq 44 (.nilc (.t 43)), kq 45 (.fad 0 (.t 44)), kq 46 (.fad 0 (.t 45)), kq 47 (.ld none (.t 46)), kq 48 (.bin .geq (.t 42) (.t 47)), km 40 48] [[], [0], [], [2], [3, 2], [4, 3, 2], [5, 4, 3, 2], [1, 0, 6, 5, 4, 3, 2], [7, 1, 0, 6, 5, 4, 3, 2]]) (.cond (.t 40) (.exit 1) (.seq (.dreg [kq 50 (.fad 1 (.t 5)), kq 51 (.ld none (.t 50)), km 52 0, kq 53 (.nilc (.t 52)), kq 54 (.fad 0 (.t 53)), kq 55 (.fad 0 (.t 54)), kq 56 (.ld none (.t 55)), kq 57 (.bin .sub (.t 56) (ki 1)), kq 58 (.bin .eql (.t 51) (.t 57)), km 59 58, kg 60 (.mv (.t 0)) 59 true, kg 61 (.nilc (.t 60)) 59 true, kg 62 (.fad 339 (.t 61)) 59 true, kg 63 (.ld none (.t 62)) 59 true, kq 64 (.pick (.t 59) (.t 63) kF), km 49 64] [[], [0], [], [2], [3, 2], [4, 3, 2], [5, 4, 3, 2], [6, 5, 4, 3, 2], [1, 0, 7, 6, 5, 4, 3, 2], [8, 1, 0, 7, 6, 5, 4, 3, 2], [9, 8, 1, 0, 7, 6, 5, 4, 3, 2], [10, 9, 8, 1, 0, 7, 6, 5, 4, 3, 2], [11, 10, 9, 8, 1, 0, 7, 6, 5, 4, 3, 2], [12, 11, 10, 9, 8, 1, 0, 7, 6, 5, 4, 3, 2], [9, 8, 1, 0, 7, 6, 5, 4, 3, 2, 13, 12, 11, 10], [14, 9, 8, 1, 0, 7, 6, 5, 4, 3, 2, 13, 12, 11, 10]]) (.cond (.t 49) (.reg [km 65 0, kq 66 (.nilc (.t 65)), kq 67 (.fad 332 (.t 66)), kq 68 (.ld (some 7) (.t 67)), kq 69 (.fad 5 (.t 6)), ku (.st 7 (.t 69) (.t 68))]) (.dreg [km 34 0, kq 35 (.nilc (.t 34)), kq 36 (.fad 0 (.t 35)), kq 37 (.ld (some 330) (.t 36)), kq 38 (.fad 3 (.t 6)), ku (.st 1 (.t 38) kT), kq 39 (.fad 12 (.t 6)), ku (.st 330 (.t 39) (.t 37))] [[], [0], [1, 0], [2, 1, 0], [], [4], [0, 1, 2, 3, 4, 5], [6, 0, 1, 2, 3, 4, 5]])))))) (.reg [km 70 3, kq 71 (.ld (some 342) (.t 6)), kq 72 (.bsl kB 342 1 [(0, 342, (.t 71))]), kq 73 (.app kB 342 2728 (.t 70) (.t 72)), km 3 73])))))) (.reg [kq 74 (.bin .add (.t 16) (ki 1)), km 16 74]))))))) (.seq (.reg [km 75 3, km 2 75]) .ret)))))⟩
abbrev zb9 (P : Program) : Prop := z6 P "(*roundhouse/head.Head).Send" = some zd2
theorem zen {x : HS} {hd : List (Int × Int)} (hxh : x.hd = hd) {i : Nat} (h : (lkS hd (i : Int)).1.2 ≥ x.p 0) : zfG x i = none := by
 subst hxh; simp only [zfG]; rw [if_pos h]
theorem zfd {x : HS} {hd : List (Int × Int)} (hxh : x.hd = hd) {i : Nat} (h : ¬ (lkS hd (i : Int)).1.2 ≥ x.p 0) (h2 : (lkS hd (i : Int)).1.2 = i64.wrap (x.p 0 - 1)) (h3 : x.s = true) : zfG x i = some ⟨(i : Int), (lkS hd (i : Int)).1.1, x.p 0, false, false, x.e, zH⟩ := by
 subst hxh; simp only [zfG]; rw [if_neg h, if_pos ⟨h2, h3⟩]
theorem zdt {x : HS} {hd : List (Int × Int)} (hxh : x.hd = hd) {i : Nat} (h : ¬ (lkS hd (i : Int)).1.2 ≥ x.p 0) (h2 : ¬ ((lkS hd (i : Int)).1.2 = i64.wrap (x.p 0 - 1) ∧ x.s = true)) : zfG x i = some ⟨(i : Int), (lkS hd (i : Int)).1.1, x.p 0, true, false, e0, x.p⟩ := by
 subst hxh; simp only [zfG]; rw [if_neg h, if_neg h2]
theorem HsendC {P : Program} (hc : zb9 P) (h_head_Head_all : zbP P) (h_head_Head_publish : zbk P) (h_pool_Apply : zaU P) (h_pool_may : za3 P) (h_pool_held : zaT P) (h_pool_fits : za1 P) (h_pool_Check : zaO P) (h_pool_placed : zau P) (h_cookie_Next : zaC P) (p : qL) (w : List Ent) (hd : List (Int × Int)) (e : Ent) (b : Bool) (hh : hd.length ≤ 1000) :
    Env P "(*roundhouse/head.Head).Send" [pv 0 0] ([cw (zT p 1 2 e b), .chan 200 (w.map qR), .map (hdM hd)]) (fun v1 h' => ∃ q : Option Nat, (q = none → (zam (HS.mk p w hd e b)).2 = []) ∧ v1 = slV 3 (zam (HS.mk p w hd e b)).2.length q ∧ h' = [cw (zT (zam (HS.mk p w hd e b)).1.p 1 2 (zam (HS.mk p w hd e b)).1.e (zam (HS.mk p w hd e b)).1.s), .chan 200 ((zam (HS.mk p w hd e b)).1.w.map qR), .map (hdM hd), slB zNt (zbb (zam (HS.mk p w hd e b)).2) q]) := by
 refine Env.by2 hc ?_
 unfold zd2
 show GC _ 3 _ _ ⟨reg [(0, pv 0 0)], [cw (zT p 1 2 e b), .chan 200 (w.map qR), .map (hdM hd)]⟩
 refine zR (zV (o_d 1 [(2, .slice none 0 0)] (by kernel_rfl) (zG (zC (gcut (fun s => ∃ (x : HS), 0 = 0 ∧ (x = goS (HS.mk p w hd e b)) ∧ (x.hd = hd) ∧ s = ⟨reg [(0, pv 0 0)], [cw (zT x.p 1 2 x.e x.s), .chan 200 (x.w.map qR), .map (hdM hd)]⟩) ?_ ?_)))))
 ·skip
  refine zR (zV (o_d 1 [(7, pv 0 0)] (by kernel_rfl) (zcc (callG [0, 1, 2] [cr (zT p 1 2 e b), .chan 200 (w.map qR), .map (hdM hd)] [pv 0 0] (HallC h_head_Head_all p w hd e b) rfl rfl ⟨⟨_, rfl, zcn rfl rfl (fun _ => rfl)⟩, ⟨_, rfl, zco _⟩, ⟨_, rfl, zdd _⟩, trivial⟩ (by decide) ?_))))
  rintro v1 h1' ⟨rfl, rfl⟩
  refine ⟨bv (allW hd (p 0)), [cw (zT p 1 2 e b), .chan 200 (w.map qR), .map (hdM hd)], [], rfl, ⟨rfl, ⟨zX _, ⟨qI _, trivial⟩⟩⟩, trivial, ?_⟩
  refine zG (zC (zaj (t := allW hd (p 0)) rfl (fun h1 => ?_) (fun h1 => ?_)))
  ·skip
   refine zV (o_d 1 [(9, pv 0 0)] (by kernel_rfl) (zcc (callG [0, 1, 2] [cw (zT p 1 2 e b), .chan 200 (w.map qR), .map (hdM hd)] [pv 0 0] (HpublishC h_head_Head_publish h_pool_Apply h_pool_may h_pool_held h_pool_fits h_pool_Check h_pool_placed h_cookie_Next p w hd e b) rfl rfl ⟨⟨_, rfl, zcn rfl rfl (fun _ => rfl)⟩, ⟨_, rfl, zco _⟩, ⟨_, rfl, zdd _⟩, trivial⟩ (by decide) ?_)))
   rintro v1 h1' ⟨rfl, rfl⟩
   refine ⟨.tuple #[], [cw (zT ((zjY ⟨p, w, hd, e, b⟩).p) 1 2 ((zjY ⟨p, w, hd, e, b⟩).e) ((zjY ⟨p, w, hd, e, b⟩).s)), .chan 200 (((zjY ⟨p, w, hd, e, b⟩).w).map qR), .map (hdM hd)], [], (by simp [zbF]), ⟨zcq rfl rfl, ⟨zX _, ⟨qI _, trivial⟩⟩⟩, trivial, ?_⟩
   refine zG (⟨⟨reg [(0, pv 0 0)], [cw (zT (zjY (HS.mk p w hd e b)).p 1 2 (zjY (HS.mk p w hd e b)).e (zjY (HS.mk p w hd e b)).s), .chan 200 ((zjY (HS.mk p w hd e b)).w.map qR), .map (hdM hd)]⟩, ?_⟩)
   refine ⟨?_, ?_⟩
   ·exact Wk.ren [0, 1, 2] rfl rfl (by decide) ⟨rfl, trivial⟩ ⟨.inl (qB rfl rfl), ⟨.inl (congrArg some (zX _).symm), ⟨.inl (congrArg some (qI _).symm), trivial⟩⟩⟩
   ·exact ⟨(zjY (HS.mk p w hd e b)), rfl, (by simp only [goS]; first | rw [if_pos (by assumption)] | rw [if_neg (by simp_all)]), (by first | rfl | exact pubS_hd _), rfl⟩
  refine zaq (⟨⟨reg [(0, pv 0 0)], [cw (zT (HS.mk p w hd e b).p 1 2 (HS.mk p w hd e b).e (HS.mk p w hd e b).s), .chan 200 ((HS.mk p w hd e b).w.map qR), .map (hdM hd)]⟩, ?_⟩)
  refine ⟨?_, ?_⟩
  ·exact Wk.ren [0, 1, 2] rfl rfl (by decide) ⟨rfl, trivial⟩ ⟨.inl (qB rfl rfl), ⟨.inl (congrArg some (zX _).symm), ⟨.inl (congrArg some (qI _).symm), trivial⟩⟩⟩
  ·exact ⟨(HS.mk p w hd e b), rfl, (by simp only [goS]; first | rw [if_pos (by assumption)] | rw [if_neg (by simp_all)]), (by first | rfl | exact pubS_hd _), rfl⟩
 rintro s ⟨x, -, hx, hxh, rfl⟩
 refine zR (zV (o_d 1 [(3, .slice none 0 0)] (by kernel_rfl) (zG (zC (zR (zR (zV (o_d 3 [(13, pv 0 331), (12, pv 0 0), (11, pv 0 0)] (by kernel_rfl) (o_s (by refine z4 (v := .map (some 2)) rfl rfl ?_; exact (zcu 1).trans rfl) ?_)))))))))
 refine o_s (by exact run_lenH (hd := hd) rfl rfl) ?_
 refine o_d 1 [(16, iv 0)] (by kernel_rfl) (zG (zC (zai (zdm (fun μ s => ∃ (i : Nat), ∃ (l : List Nt), ∃ (n : Nat), ∃ (q : Option Nat), μ = hd.length - i ∧ (i ≤ hd.length) ∧ (l = zb0 x i) ∧ (l.length = n ∧ n ≤ i) ∧ (q = none → n = 0) ∧ s = ⟨reg [(16, iv (i : Int)), (15, iv (hd.length : Nat)), (3, slV 3 n q), (0, pv 0 0)], [cw (zT x.p 1 2 x.e x.s), .chan 200 (x.w.map qR), .map (hdM hd), slB zNt (zbb l) q]⟩) ⟨(hd.length - 0), ?_⟩ ?_))))
 ·skip
  refine ⟨⟨reg [(16, iv (0 : Int)), (15, iv (hd.length : Nat)), (3, slV 3 0 none), (0, pv 0 0)], [cw (zT x.p 1 2 x.e x.s), .chan 200 (x.w.map qR), .map (hdM hd), slB zNt (zbb ([])) none]⟩, ?_⟩
  refine ⟨?_, ?_⟩
  ·exact Wk.ren [0, 1, 2, 6] rfl rfl (by decide) ⟨rfl, ⟨rfl, ⟨rfl, ⟨rfl, trivial⟩⟩⟩⟩ ⟨.inl (qB rfl rfl), ⟨.inl (congrArg some (zX _).symm), ⟨.inl (congrArg some (qI _).symm), ⟨.inr ⟨rfl, rfl⟩, trivial⟩⟩⟩⟩
  ·exact ⟨0, ([]), 0, none, rfl, (Nat.zero_le _), rfl, ⟨rfl, Nat.le_refl _⟩, (fun _ => rfl), rfl⟩
 rintro μ s ⟨i, l, n, q, rfl, hi, hl, hn, hq, rfl⟩
 refine zR (zV (o_d 1 [(17, bv (decide ((i : Int) < (hd.length : Nat))))] (by kernel_rfl) (zG (zC (zR (zaj (t := decide ((i : Int) < (hd.length : Nat))) rfl (fun h2 => ?_) (fun h2 => ?_)))))))
 ·skip
  have h2' : (i : Int) < (hd.length : Nat) := of_decide_eq_true h2
  refine zaq (zC (zR (zai (zR (zV (o_d 2 [(4, iv (i : Int)), (18, iv (i : Int))] (by kernel_rfl) (zG (zC (zR (zV (o_d 3 [(21, pv 0 331), (20, pv 0 0), (19, pv 0 0)] (by kernel_rfl) (o_s (by refine z4 (v := .map (some 2)) rfl rfl ?_; exact (zcu 1).trans rfl) ?_))))))))))))
  refine o_d 1 [(23, iv (i : Int))] (by kernel_rfl) (o_s (by exact run_lkuH (hd := hd) (n := (i : Int)) rfl rfl rfl) ?_)
  refine o_b 2 [(5, pv 4 0)] [cw (zT x.p 1 2 x.e x.s), .chan 200 (x.w.map qR), .map (hdM hd), slB zNt (zbb l) q, cw [iv ((lkS hd (i : Int)).1.1), iv ((lkS hd (i : Int)).1.2)]] (by kernel_rfl) (zG (zC (zR (zdz [] (by kernel_rfl) (r_d 7 [(31, pv 0 0), (30, pv 0 0), (29, pv 0 0), (28, pv 0 0), (27, iv ((lkS hd (i : Int)).1.1)), (26, pv 4 0), (25, iv (i : Int))] (by kernel_rfl) (r_s (by refine z4 (v := iv (x.p 0)) rfl rfl ?_; exact zeL (pl_r x.p 0 rfl (by omega))) ?_))))))
  refine r_s (by refine zbZ (c := ntF (i : Int) ((lkS hd (i : Int)).1.1) (x.p 0) false false e0 zH) ?_; exact zie rfl) ?_
  refine r_b 1 [(6, pv 5 0)] [cw (zT x.p 1 2 x.e x.s), .chan 200 (x.w.map qR), .map (hdM hd), slB zNt (zbb l) q, cw [iv ((lkS hd (i : Int)).1.1), iv ((lkS hd (i : Int)).1.2)], cw (ntF 0 0 0 false false e0 zH)] (by kernel_rfl) (r_s0 (by refine qQ (c' := ntF (i : Int) ((lkS hd (i : Int)).1.1) (x.p 0) false false e0 zH) rfl rfl rfl ?_ ?_ ?_; exact qF _ _ _ _ _ _ _; exact zdf (by omega); exact zbu) ?_)
  refine zc6 (zC (zR (zai (zR (zdz [] (by kernel_rfl) (r_d 6 [(46, pv 0 0), (45, pv 0 0), (44, pv 0 0), (43, pv 0 0), (42, iv ((lkS hd (i : Int)).1.2)), (41, pv 4 1)] (by kernel_rfl) (r_s (by refine z4 (v := iv (x.p 0)) rfl rfl ?_; exact zeL (pl_r x.p 0 rfl (by omega))) ?_)))))))
  refine r_d 2 [(40, bv (decide ((lkS hd (i : Int)).1.2 ≥ x.p 0))), (48, bv (decide ((lkS hd (i : Int)).1.2 ≥ x.p 0)))] (by kernel_rfl) (zc6 (z5 [(40, bv (decide ((lkS hd (i : Int)).1.2 ≥ x.p 0))), (6, pv 5 0), (5, pv 4 0), (16, iv (i : Int)), (15, iv (hd.length : Nat)), (3, slV 3 n q), (0, pv 0 0)] (by kernel_rfl) (zaj (t := decide ((lkS hd (i : Int)).1.2 ≥ x.p 0)) rfl (fun h3 => ?_) (fun h3 => ?_))))
  ·skip
   have h3' : (lkS hd (i : Int)).1.2 ≥ x.p 0 := of_decide_eq_true h3
   refine zcD (zC (zV (o_s (by refine zaf (v := .int .i64 (i64.wrap ((i : Int) + 1))) (congrArg (Value.int .i64) (w64 (by omega) (by omega))) ?_; kernel_rfl) ?_)))
   refine o_d 1 [(16, iv ((i : Int) + 1))] (by kernel_rfl) (zG (⟨hd.length - (i + 1), ?_⟩))
   refine ⟨⟨reg [(16, iv ((i + 1) : Int)), (15, iv (hd.length : Nat)), (3, slV 3 n q), (0, pv 0 0)], [cw (zT x.p 1 2 x.e x.s), .chan 200 (x.w.map qR), .map (hdM hd), slB zNt (zbb l) q]⟩, ?_⟩
   refine zf2 (by omega) ⟨?_, ?_⟩
   ·exact Wk.ren [0, 1, 2, 3] rfl rfl (by decide) ⟨rfl, ⟨rfl, ⟨((zbn q rfl)).trans rfl, ⟨rfl, trivial⟩⟩⟩⟩ ⟨.inl (qB rfl rfl), ⟨.inl (congrArg some (zX _).symm), ⟨.inl (congrArg some (qI _).symm), ⟨.inl (zaM q (fun _ => (zcK _ _))), trivial⟩⟩⟩⟩
   ·exact ⟨(i + 1), l, n, q, rfl, by omega, (by first | (rw [zcs (zen hxh (by assumption)), ← hl]) | (rw [zaN (zfd hxh (by assumption) (by assumption) (by assumption)), ← hl]) | (rw [zaN (zdt hxh (by assumption) (by simp_all)), ← hl])), ⟨hn.1, by omega⟩, hq, rfl⟩
  have h3' : ¬ ((lkS hd (i : Int)).1.2 ≥ x.p 0) := of_decide_eq_false h3
  refine zR (zdz [] (by kernel_rfl) (r_d 6 [(55, pv 0 0), (54, pv 0 0), (53, pv 0 0), (52, pv 0 0), (51, iv ((lkS hd (i : Int)).1.2)), (50, pv 4 1)] (by kernel_rfl) (r_s (by refine z4 (v := iv (x.p 0)) rfl rfl ?_; exact zeL (pl_r x.p 0 rfl (by omega))) ?_)))
  refine r_d 3 [(59, bv (((lkS hd (i : Int)).1.2) == (i64.wrap (x.p 0 - 1)))), (58, bv (((lkS hd (i : Int)).1.2) == (i64.wrap (x.p 0 - 1)))), (57, iv (i64.wrap (x.p 0 - 1)))] (by kernel_rfl) (r_sp (b := ((lkS hd (i : Int)).1.2) == (i64.wrap (x.p 0 - 1))) 59 rfl (fun h4 => ?_) (fun h4 => ?_))
  ·skip
   have h4' : (lkS hd (i : Int)).1.2 = i64.wrap (x.p 0 - 1) := zcf h4
   refine r_d 3 [(62, pv 0 339), (61, pv 0 0), (60, pv 0 0)] (by kernel_rfl) (zfD rfl (r_s (by refine z4 (v := bv x.s) rfl rfl ?_; exact (zcu 9).trans rfl) ?_))
   refine r_d 2 [(49, bv x.s), (64, bv x.s)] (by kernel_rfl) (zc6 (zC (zaj (t := x.s) rfl (fun h5 => ?_) (fun h5 => ?_))))
   ·skip
    refine zV (o_d 3 [(67, pv 0 332), (66, pv 0 0), (65, pv 0 0)] (by kernel_rfl) (o_s (by refine z4 (v := .agg #[iv x.e.k, iv x.e.s, iv x.e.a, iv x.e.p, iv x.e.g, uv x.e.ka, uv x.e.kb]) rfl rfl ?_; exact (zcu 2).trans rfl) ?_))
    refine o_d 1 [(69, pv 5 5)] (by kernel_rfl) (zc1 (by refine qQ (c' := ntF (i : Int) ((lkS hd (i : Int)).1.1) (x.p 0) false false x.e zH) rfl rfl rfl ?_ ?_ ?_; exact rfl; exact zdf (by omega); exact nt_wH (Nat.le_of_ble_eq_true rfl) rfl) ?_)
    refine zG (z5 [(6, pv 5 0), (16, iv (i : Int)), (15, iv (hd.length : Nat)), (3, slV 3 n q), (0, pv 0 0)] (by kernel_rfl) (zV (o_d 1 [(70, slV 3 n q)] (by kernel_rfl) (o_s (by refine z4 (v := ntV (i : Int) ((lkS hd (i : Int)).1.1) (x.p 0) false false x.e zH) rfl rfl ?_; exact zbJ (i : Int) ((lkS hd (i : Int)).1.1) (x.p 0) false false x.e zH) ?_))))
    refine o_s (by exact run_bsl1 rfl (qF _ _ _ _ _ _ _)) ?_
    refine zhg (k := 3) (n := n) (o := q) (q := 1) (cs := zbb l) (xs := ntF (i : Int) ((lkS hd (i : Int)).1.1) (x.p 0) false false x.e zH) (cs2 := zbb (l ++ [(⟨(i : Int), (lkS hd (i : Int)).1.1, x.p 0, false, false, x.e, zH⟩ : Nt)])) (zl := zNt) rfl rfl rfl (fun m q => by subst q; rfl) (fun z => by have h0 := hq z; have h1 := List.eq_nil_of_length_eq_zero (hn.1.trans h0); exact ⟨h0, by rw [h1]; rfl⟩) (by rw [zbh]; first | omega | (simp; try omega)) rfl rfl (zbK rfl (nt_first (i : Int) ((lkS hd (i : Int)).1.1) (x.p 0) false false x.e zH) (by simp [qF])) (by rw [qF]) (by omega) (by omega) (ziW l (i : Int) ((lkS hd (i : Int)).1.1) (x.p 0) false false x.e zH) (fun m6 e7 => ?_) (fun m6 => ?_)
    ·skip
     subst e7
     refine o_d 1 [(3, sv 3 0 (n + 1) (n + 1 + m6))] (by kernel_rfl) (zG (zC (zV (o_s (by refine zaf (v := .int .i64 (i64.wrap ((i : Int) + 1))) (congrArg (Value.int .i64) (w64 (by omega) (by omega))) ?_; kernel_rfl) ?_))))
     refine o_d 1 [(16, iv ((i : Int) + 1))] (by kernel_rfl) (zG (⟨hd.length - (i + 1), ?_⟩))
     refine ⟨⟨reg [(16, iv ((i + 1) : Int)), (15, iv (hd.length : Nat)), (3, slV 3 (n + 1) (some m6)), (0, pv 0 0)], [cw (zT x.p 1 2 x.e x.s), .chan 200 (x.w.map qR), .map (hdM hd), slB zNt (zbb (l ++ [(⟨(i : Int), (lkS hd (i : Int)).1.1, x.p 0, false, false, x.e, zH⟩ : Nt)])) (some m6)]⟩, ?_⟩
     refine zf2 (by omega) ⟨?_, ?_⟩
     ·exact Wk.ren [0, 1, 2, 3] rfl rfl (by decide) ⟨rfl, ⟨rfl, ⟨rfl, ⟨rfl, trivial⟩⟩⟩⟩ ⟨.inl (qB rfl rfl), ⟨.inl (congrArg some (zX _).symm), ⟨.inl (congrArg some (qI _).symm), ⟨.inl (zQ (zcK _ _)), trivial⟩⟩⟩⟩
     ·exact ⟨(i + 1), (l ++ [(⟨(i : Int), (lkS hd (i : Int)).1.1, x.p 0, false, false, x.e, zH⟩ : Nt)]), (n + 1), (some m6), rfl, by omega, (by first | (rw [zcs (zen hxh (by assumption)), ← hl]) | (rw [zaN (zfd hxh (by assumption) (by assumption) (by assumption)), ← hl]) | (rw [zaN (zdt hxh (by assumption) (by simp_all)), ← hl])), ⟨by simp [hn.1], by omega⟩, (fun q => by cases q), rfl⟩
    refine o_d 1 [(3, sv 7 0 (n + 1) (n + 1 + m6))] (by kernel_rfl) (zG (zC (zV (o_s (by refine zaf (v := .int .i64 (i64.wrap ((i : Int) + 1))) (congrArg (Value.int .i64) (w64 (by omega) (by omega))) ?_; kernel_rfl) ?_))))
    refine o_d 1 [(16, iv ((i : Int) + 1))] (by kernel_rfl) (zG (⟨hd.length - (i + 1), ?_⟩))
    refine ⟨⟨reg [(16, iv ((i + 1) : Int)), (15, iv (hd.length : Nat)), (3, slV 3 (n + 1) (some m6)), (0, pv 0 0)], [cw (zT x.p 1 2 x.e x.s), .chan 200 (x.w.map qR), .map (hdM hd), slB zNt (zbb (l ++ [(⟨(i : Int), (lkS hd (i : Int)).1.1, x.p 0, false, false, x.e, zH⟩ : Nt)])) (some m6)]⟩, ?_⟩
    refine zf2 (by omega) ⟨?_, ?_⟩
    ·exact Wk.ren [0, 1, 2, 7] rfl rfl (by decide) ⟨rfl, ⟨rfl, ⟨rfl, ⟨rfl, trivial⟩⟩⟩⟩ ⟨.inl (qB rfl rfl), ⟨.inl (congrArg some (zX _).symm), ⟨.inl (congrArg some (qI _).symm), ⟨.inl (zQ (zcK _ _)), trivial⟩⟩⟩⟩
    ·exact ⟨(i + 1), (l ++ [(⟨(i : Int), (lkS hd (i : Int)).1.1, x.p 0, false, false, x.e, zH⟩ : Nt)]), (n + 1), (some m6), rfl, by omega, (by first | (rw [zcs (zen hxh (by assumption)), ← hl]) | (rw [zaN (zfd hxh (by assumption) (by assumption) (by assumption)), ← hl]) | (rw [zaN (zdt hxh (by assumption) (by simp_all)), ← hl])), ⟨by simp [hn.1], by omega⟩, (fun q => by cases q), rfl⟩
   refine zbx [cw (zT x.p 1 2 x.e x.s), .chan 200 (x.w.map qR), .map (hdM hd), slB zNt (zbb l) q, cw [iv ((lkS hd (i : Int)).1.1), iv ((lkS hd (i : Int)).1.2)], cw (ntF (i : Int) ((lkS hd (i : Int)).1.1) (x.p 0) false false e0 zH)] (by kernel_rfl) (d_n 3 3 6 [(36, pv 0 0), (35, pv 0 0), (34, pv 0 0)] [cw (zT x.p 1 2 x.e x.s), .chan 200 (x.w.map qR), .map (hdM hd), slB zNt (zbb l) q, cw [iv ((lkS hd (i : Int)).1.1), iv ((lkS hd (i : Int)).1.2)], cw (ntF (i : Int) ((lkS hd (i : Int)).1.1) (x.p 0) false false e0 zH)] [] (by kernel_rfl) rfl rfl (d_s rfl rfl rfl (by kernel_rfl) (by refine z4 (v := qG x.p) rfl rfl ?_; exact zeL (zal x.p)) ?_))
   refine d_n 1 5 6 [(38, pv 5 3)] [cw (zT x.p 1 2 x.e x.s), .chan 200 (x.w.map qR), .map (hdM hd), slB zNt (zbb l) q, cw [iv ((lkS hd (i : Int)).1.1), iv ((lkS hd (i : Int)).1.2)], cw (ntF (i : Int) ((lkS hd (i : Int)).1.1) (x.p 0) false false e0 zH)] [⟨3, [0], [], none⟩] (by kernel_rfl) rfl rfl (d_s0 rfl rfl ⟨_, _, _, rfl⟩ (by kernel_rfl) (by refine qQ (c' := ntF (i : Int) ((lkS hd (i : Int)).1.1) (x.p 0) true false e0 zH) rfl rfl rfl ?_ ?_ ?_; exact rfl; exact zdf (by omega); exact nt_wH (Nat.le_of_ble_eq_true rfl) rfl) ?_)
   refine d_n 1 7 6 [(39, pv 5 12)] [cw (zT x.p 1 2 x.e x.s), .chan 200 (x.w.map qR), .map (hdM hd), slB zNt (zbb l) q, cw [iv ((lkS hd (i : Int)).1.1), iv ((lkS hd (i : Int)).1.2)], cw (ntF (i : Int) ((lkS hd (i : Int)).1.1) (x.p 0) true false e0 zH)] [⟨5, [5], [5], none⟩, ⟨3, [0], [], none⟩] (by kernel_rfl) rfl rfl (d_s0 rfl rfl ⟨_, _, _, rfl⟩ (by kernel_rfl) (by refine qQ (c' := ntF (i : Int) ((lkS hd (i : Int)).1.1) (x.p 0) true false e0 x.p) rfl rfl rfl ?_ ?_ ?_; exact zN _; exact zdf (by omega); exact nt_wP) ?_)
   refine zb2 (z5 [(6, pv 5 0), (16, iv (i : Int)), (15, iv (hd.length : Nat)), (3, slV 3 n q), (0, pv 0 0)] (by kernel_rfl) (zV (o_d 1 [(70, slV 3 n q)] (by kernel_rfl) (o_s (by refine z4 (v := ntV (i : Int) ((lkS hd (i : Int)).1.1) (x.p 0) true false e0 x.p) rfl rfl ?_; exact zbJ (i : Int) ((lkS hd (i : Int)).1.1) (x.p 0) true false e0 x.p) ?_))))
   refine o_s (by exact run_bsl1 rfl (qF _ _ _ _ _ _ _)) ?_
   refine zhg (k := 3) (n := n) (o := q) (q := 1) (cs := zbb l) (xs := ntF (i : Int) ((lkS hd (i : Int)).1.1) (x.p 0) true false e0 x.p) (cs2 := zbb (l ++ [(⟨(i : Int), (lkS hd (i : Int)).1.1, x.p 0, true, false, e0, x.p⟩ : Nt)])) (zl := zNt) rfl rfl rfl (fun m q => by subst q; rfl) (fun z => by have h0 := hq z; have h1 := List.eq_nil_of_length_eq_zero (hn.1.trans h0); exact ⟨h0, by rw [h1]; rfl⟩) (by rw [zbh]; first | omega | (simp; try omega)) rfl rfl (zbK rfl (nt_first (i : Int) ((lkS hd (i : Int)).1.1) (x.p 0) true false e0 x.p) (by simp [qF])) (by rw [qF]) (by omega) (by omega) (ziW l (i : Int) ((lkS hd (i : Int)).1.1) (x.p 0) true false e0 x.p) (fun m8 e9 => ?_) (fun m8 => ?_)
   ·skip
    subst e9
    refine o_d 1 [(3, sv 3 0 (n + 1) (n + 1 + m8))] (by kernel_rfl) (zG (zC (zV (o_s (by refine zaf (v := .int .i64 (i64.wrap ((i : Int) + 1))) (congrArg (Value.int .i64) (w64 (by omega) (by omega))) ?_; kernel_rfl) ?_))))
    refine o_d 1 [(16, iv ((i : Int) + 1))] (by kernel_rfl) (zG (⟨hd.length - (i + 1), ?_⟩))
    refine ⟨⟨reg [(16, iv ((i + 1) : Int)), (15, iv (hd.length : Nat)), (3, slV 3 (n + 1) (some m8)), (0, pv 0 0)], [cw (zT x.p 1 2 x.e x.s), .chan 200 (x.w.map qR), .map (hdM hd), slB zNt (zbb (l ++ [(⟨(i : Int), (lkS hd (i : Int)).1.1, x.p 0, true, false, e0, x.p⟩ : Nt)])) (some m8)]⟩, ?_⟩
    refine zf2 (by omega) ⟨?_, ?_⟩
    ·exact Wk.ren [0, 1, 2, 3] rfl rfl (by decide) ⟨rfl, ⟨rfl, ⟨rfl, ⟨rfl, trivial⟩⟩⟩⟩ ⟨.inl (qB rfl rfl), ⟨.inl (congrArg some (zX _).symm), ⟨.inl (congrArg some (qI _).symm), ⟨.inl (zQ (zcK _ _)), trivial⟩⟩⟩⟩
    ·exact ⟨(i + 1), (l ++ [(⟨(i : Int), (lkS hd (i : Int)).1.1, x.p 0, true, false, e0, x.p⟩ : Nt)]), (n + 1), (some m8), rfl, by omega, (by first | (rw [zcs (zen hxh (by assumption)), ← hl]) | (rw [zaN (zfd hxh (by assumption) (by assumption) (by assumption)), ← hl]) | (rw [zaN (zdt hxh (by assumption) (by simp_all)), ← hl])), ⟨by simp [hn.1], by omega⟩, (fun q => by cases q), rfl⟩
   refine o_d 1 [(3, sv 7 0 (n + 1) (n + 1 + m8))] (by kernel_rfl) (zG (zC (zV (o_s (by refine zaf (v := .int .i64 (i64.wrap ((i : Int) + 1))) (congrArg (Value.int .i64) (w64 (by omega) (by omega))) ?_; kernel_rfl) ?_))))
   refine o_d 1 [(16, iv ((i : Int) + 1))] (by kernel_rfl) (zG (⟨hd.length - (i + 1), ?_⟩))
   refine ⟨⟨reg [(16, iv ((i + 1) : Int)), (15, iv (hd.length : Nat)), (3, slV 3 (n + 1) (some m8)), (0, pv 0 0)], [cw (zT x.p 1 2 x.e x.s), .chan 200 (x.w.map qR), .map (hdM hd), slB zNt (zbb (l ++ [(⟨(i : Int), (lkS hd (i : Int)).1.1, x.p 0, true, false, e0, x.p⟩ : Nt)])) (some m8)]⟩, ?_⟩
   refine zf2 (by omega) ⟨?_, ?_⟩
   ·exact Wk.ren [0, 1, 2, 7] rfl rfl (by decide) ⟨rfl, ⟨rfl, ⟨rfl, ⟨rfl, trivial⟩⟩⟩⟩ ⟨.inl (qB rfl rfl), ⟨.inl (congrArg some (zX _).symm), ⟨.inl (congrArg some (qI _).symm), ⟨.inl (zQ (zcK _ _)), trivial⟩⟩⟩⟩
   ·exact ⟨(i + 1), (l ++ [(⟨(i : Int), (lkS hd (i : Int)).1.1, x.p 0, true, false, e0, x.p⟩ : Nt)]), (n + 1), (some m8), rfl, by omega, (by first | (rw [zcs (zen hxh (by assumption)), ← hl]) | (rw [zaN (zfd hxh (by assumption) (by assumption) (by assumption)), ← hl]) | (rw [zaN (zdt hxh (by assumption) (by simp_all)), ← hl])), ⟨by simp [hn.1], by omega⟩, (fun q => by cases q), rfl⟩
  have h4' : ¬ ((lkS hd (i : Int)).1.2 = i64.wrap (x.p 0 - 1)) := zcg h4
  refine r_d 6 [(49, bv false), (64, bv false), (63, undef), (62, undef), (61, undef), (60, undef)] (by kernel_rfl) (zc6 (zC (zbW rfl (zbx [cw (zT x.p 1 2 x.e x.s), .chan 200 (x.w.map qR), .map (hdM hd), slB zNt (zbb l) q, cw [iv ((lkS hd (i : Int)).1.1), iv ((lkS hd (i : Int)).1.2)], cw (ntF (i : Int) ((lkS hd (i : Int)).1.1) (x.p 0) false false e0 zH)] (by kernel_rfl) (d_n 3 3 6 [(36, pv 0 0), (35, pv 0 0), (34, pv 0 0)] [cw (zT x.p 1 2 x.e x.s), .chan 200 (x.w.map qR), .map (hdM hd), slB zNt (zbb l) q, cw [iv ((lkS hd (i : Int)).1.1), iv ((lkS hd (i : Int)).1.2)], cw (ntF (i : Int) ((lkS hd (i : Int)).1.1) (x.p 0) false false e0 zH)] [] (by kernel_rfl) rfl rfl (d_s rfl rfl rfl (by kernel_rfl) (by refine z4 (v := qG x.p) rfl rfl ?_; exact zeL (zal x.p)) ?_))))))
  refine d_n 1 5 6 [(38, pv 5 3)] [cw (zT x.p 1 2 x.e x.s), .chan 200 (x.w.map qR), .map (hdM hd), slB zNt (zbb l) q, cw [iv ((lkS hd (i : Int)).1.1), iv ((lkS hd (i : Int)).1.2)], cw (ntF (i : Int) ((lkS hd (i : Int)).1.1) (x.p 0) false false e0 zH)] [⟨3, [0], [], none⟩] (by kernel_rfl) rfl rfl (d_s0 rfl rfl ⟨_, _, _, rfl⟩ (by kernel_rfl) (by refine qQ (c' := ntF (i : Int) ((lkS hd (i : Int)).1.1) (x.p 0) true false e0 zH) rfl rfl rfl ?_ ?_ ?_; exact rfl; exact zdf (by omega); exact nt_wH (Nat.le_of_ble_eq_true rfl) rfl) ?_)
  refine d_n 1 7 6 [(39, pv 5 12)] [cw (zT x.p 1 2 x.e x.s), .chan 200 (x.w.map qR), .map (hdM hd), slB zNt (zbb l) q, cw [iv ((lkS hd (i : Int)).1.1), iv ((lkS hd (i : Int)).1.2)], cw (ntF (i : Int) ((lkS hd (i : Int)).1.1) (x.p 0) true false e0 zH)] [⟨5, [5], [5], none⟩, ⟨3, [0], [], none⟩] (by kernel_rfl) rfl rfl (d_s0 rfl rfl ⟨_, _, _, rfl⟩ (by kernel_rfl) (by refine qQ (c' := ntF (i : Int) ((lkS hd (i : Int)).1.1) (x.p 0) true false e0 x.p) rfl rfl rfl ?_ ?_ ?_; exact zN _; exact zdf (by omega); exact nt_wP) ?_)
  refine zb2 (z5 [(6, pv 5 0), (16, iv (i : Int)), (15, iv (hd.length : Nat)), (3, slV 3 n q), (0, pv 0 0)] (by kernel_rfl) (zV (o_d 1 [(70, slV 3 n q)] (by kernel_rfl) (o_s (by refine z4 (v := ntV (i : Int) ((lkS hd (i : Int)).1.1) (x.p 0) true false e0 x.p) rfl rfl ?_; exact zbJ (i : Int) ((lkS hd (i : Int)).1.1) (x.p 0) true false e0 x.p) ?_))))
  refine o_s (by exact run_bsl1 rfl (qF _ _ _ _ _ _ _)) ?_
  refine zhg (k := 3) (n := n) (o := q) (q := 1) (cs := zbb l) (xs := ntF (i : Int) ((lkS hd (i : Int)).1.1) (x.p 0) true false e0 x.p) (cs2 := zbb (l ++ [(⟨(i : Int), (lkS hd (i : Int)).1.1, x.p 0, true, false, e0, x.p⟩ : Nt)])) (zl := zNt) rfl rfl rfl (fun m q => by subst q; rfl) (fun z => by have h0 := hq z; have h1 := List.eq_nil_of_length_eq_zero (hn.1.trans h0); exact ⟨h0, by rw [h1]; rfl⟩) (by rw [zbh]; first | omega | (simp; try omega)) rfl rfl (zbK rfl (nt_first (i : Int) ((lkS hd (i : Int)).1.1) (x.p 0) true false e0 x.p) (by simp [qF])) (by rw [qF]) (by omega) (by omega) (ziW l (i : Int) ((lkS hd (i : Int)).1.1) (x.p 0) true false e0 x.p) (fun m10 e11 => ?_) (fun m10 => ?_)
  ·skip
   subst e11
   refine o_d 1 [(3, sv 3 0 (n + 1) (n + 1 + m10))] (by kernel_rfl) (zG (zC (zV (o_s (by refine zaf (v := .int .i64 (i64.wrap ((i : Int) + 1))) (congrArg (Value.int .i64) (w64 (by omega) (by omega))) ?_; kernel_rfl) ?_))))
   refine o_d 1 [(16, iv ((i : Int) + 1))] (by kernel_rfl) (zG (⟨hd.length - (i + 1), ?_⟩))
   refine ⟨⟨reg [(16, iv ((i + 1) : Int)), (15, iv (hd.length : Nat)), (3, slV 3 (n + 1) (some m10)), (0, pv 0 0)], [cw (zT x.p 1 2 x.e x.s), .chan 200 (x.w.map qR), .map (hdM hd), slB zNt (zbb (l ++ [(⟨(i : Int), (lkS hd (i : Int)).1.1, x.p 0, true, false, e0, x.p⟩ : Nt)])) (some m10)]⟩, ?_⟩
   refine zf2 (by omega) ⟨?_, ?_⟩
   ·exact Wk.ren [0, 1, 2, 3] rfl rfl (by decide) ⟨rfl, ⟨rfl, ⟨rfl, ⟨rfl, trivial⟩⟩⟩⟩ ⟨.inl (qB rfl rfl), ⟨.inl (congrArg some (zX _).symm), ⟨.inl (congrArg some (qI _).symm), ⟨.inl (zQ (zcK _ _)), trivial⟩⟩⟩⟩
   ·exact ⟨(i + 1), (l ++ [(⟨(i : Int), (lkS hd (i : Int)).1.1, x.p 0, true, false, e0, x.p⟩ : Nt)]), (n + 1), (some m10), rfl, by omega, (by first | (rw [zcs (zen hxh (by assumption)), ← hl]) | (rw [zaN (zfd hxh (by assumption) (by assumption) (by assumption)), ← hl]) | (rw [zaN (zdt hxh (by assumption) (by simp_all)), ← hl])), ⟨by simp [hn.1], by omega⟩, (fun q => by cases q), rfl⟩
  refine o_d 1 [(3, sv 7 0 (n + 1) (n + 1 + m10))] (by kernel_rfl) (zG (zC (zV (o_s (by refine zaf (v := .int .i64 (i64.wrap ((i : Int) + 1))) (congrArg (Value.int .i64) (w64 (by omega) (by omega))) ?_; kernel_rfl) ?_))))
  refine o_d 1 [(16, iv ((i : Int) + 1))] (by kernel_rfl) (zG (⟨hd.length - (i + 1), ?_⟩))
  refine ⟨⟨reg [(16, iv ((i + 1) : Int)), (15, iv (hd.length : Nat)), (3, slV 3 (n + 1) (some m10)), (0, pv 0 0)], [cw (zT x.p 1 2 x.e x.s), .chan 200 (x.w.map qR), .map (hdM hd), slB zNt (zbb (l ++ [(⟨(i : Int), (lkS hd (i : Int)).1.1, x.p 0, true, false, e0, x.p⟩ : Nt)])) (some m10)]⟩, ?_⟩
  refine zf2 (by omega) ⟨?_, ?_⟩
  ·exact Wk.ren [0, 1, 2, 7] rfl rfl (by decide) ⟨rfl, ⟨rfl, ⟨rfl, ⟨rfl, trivial⟩⟩⟩⟩ ⟨.inl (qB rfl rfl), ⟨.inl (congrArg some (zX _).symm), ⟨.inl (congrArg some (qI _).symm), ⟨.inl (zQ (zcK _ _)), trivial⟩⟩⟩⟩
  ·exact ⟨(i + 1), (l ++ [(⟨(i : Int), (lkS hd (i : Int)).1.1, x.p 0, true, false, e0, x.p⟩ : Nt)]), (n + 1), (some m10), rfl, by omega, (by first | (rw [zcs (zen hxh (by assumption)), ← hl]) | (rw [zaN (zfd hxh (by assumption) (by assumption) (by assumption)), ← hl]) | (rw [zaN (zdt hxh (by assumption) (by simp_all)), ← hl])), ⟨by simp [hn.1], by omega⟩, (fun q => by cases q), rfl⟩
 have h2' : ¬ ((i : Int) < (hd.length : Nat)) := of_decide_eq_false h2
 refine zcD (zC (zR (zV (o_d 2 [(2, slV 3 n q), (75, slV 3 n q)] (by kernel_rfl) (zG (zC (zaZ ?_)))))))
 have hil : i = hd.length := by omega
 have hs2 : (zam (HS.mk p w hd e b)).2 = l := by rw [hl, hil]; simp only [zam]; rw [← hx, hxh]
 have hs1 : (zam (HS.mk p w hd e b)).1 = x := hx.symm
 exact ⟨trivial, ⟨reg [(2, slV 3 n q)], [cw (zT x.p 1 2 x.e x.s), .chan 200 (x.w.map qR), .map (hdM hd), slB zNt (zbb l) q]⟩, Wk.ren [0, 1, 2, 3] rfl rfl (by decide) ⟨(zbn q rfl).trans rfl, trivial⟩ ⟨.inl (qB rfl rfl), ⟨.inl (congrArg some (zX _).symm), ⟨.inl (congrArg some (qI _).symm), ⟨.inl (zaM q (fun _ => (zcK _ _))), trivial⟩⟩⟩⟩, [slV 3 n q], (qE rfl rfl), (zU (isTup_slV _ _ _) qA), q, (fun z => by rw [hs2]; exact List.eq_nil_of_length_eq_zero (hn.1.trans (hq z))), (by rw [hs2, hn.1]; rfl), (by rw [hs1, hs2])⟩
end Go.Rh

namespace Go.Rh
end Go.Rh
