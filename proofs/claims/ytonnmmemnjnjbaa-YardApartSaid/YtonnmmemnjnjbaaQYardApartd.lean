/- The proofs zeB the intermediate form, part QYardApartd. -/
import Derived.Test.YtonnmmemnjnjbaaQYardApartb
import Derived.Test.YtonnmmemnjnjbaaQYardApartc
open Go.IntKind (i64)
set_option linter.unusedVariables false
set_option linter.unusedSimpArgs false
set_option maxRecDepth 100000
namespace Go.Rh
def u8 (l : List Int) : List Value := l.map fun x => .int .u8 (x % 256)
theorem u8_length (l : List Int) : (u8 l).length = l.length := by simp [u8]
theorem zfU (l : List Int) : (u8 l).all zbz = true := by
 refine List.all_eq_true.2 fun v hv => ?_
 obtain ⟨b, _, rfl⟩ := List.mem_map.1 hv; rfl
theorem u8_get {l : List Int} {i : Nat} (h : i < l.length) : zam none (u8 l) i = some (.int .u8 (l.getD i 0 % 256)) := by
 simp [zam, u8, List.getD_eq_getElem?_getD, h]
theorem u8_app (a b : List Int) : u8 a ++ u8 b = u8 (a ++ b) := by simp [u8]
theorem u8_rep (n : Nat) : (List.replicate n [(.int .u8 0 : Value)]).flatten = u8 (List.replicate n 0) := by
 induction n with
 | zero => rfl
 | succ n ih => simp only [List.replicate_succ, List.flatten_cons, ih]; rfl
def zeK (q : Option (Nat × Nat)) (k n : Nat) : Value := match q with
 | none => .slice none 0 0
 | some (o, c) => .slice (some ⟨k, o, none⟩) n c
def zeo (q : Option (Nat × Nat)) (c : List Value) (rw : Bool) : Blk := match q with
 | none => .gone
 | some _ => .cells c rw
def qo (q : Option (Nat × Nat)) : Nat := match q with
 | none => 0
 | some (o, _) => o
structure RowOf (q : Option (Nat × Nat)) (L l : List Int) : Prop where
  nil : q = none → l.length = 0
  off : q ≠ none → qo q + l.length ≤ L.length
  at_ : q ≠ none → (L.drop (qo q)).take l.length = l
  cap : ∀ o c, q = some (o, c) → l.length ≤ c
theorem zg1 {d : Option Nat} {x : Opd} {L : List (Nat × Value)} {hp : List Blk} {k n : Nat} {q : Option (Nat × Nat)} (hx : evf (reg L) x = zeK q k n) (ho : q = none → n = 0) : zdi [⟨d, .lenS x, none⟩] ⟨reg L, hp⟩ = some ⟨zas (reg L) d (.int .i64 (n : Nat)), hp⟩ := by
 refine zaE (e := .no) rfl rfl ?_
 cases q with
 | none => simp [zQ, hx, zeK, ho rfl]
 | some p => simp [zQ, hx, zeK]
theorem run_iadRow {d : Option Nat} {x i : Opd} {L : List (Nat × Value)} {hp : List Blk} {k o' m : Nat} {q : Option (Nat × Nat)} {ik : IntKind} {n : Int} (hx : evf (reg L) x = zeK q k m) (ho : q = none → m = 0) (hi : evf (reg L) i = .int ik n) (hn : 0 ≤ n ∧ n < m) (he : qo q + n.toNat = o') : zdi [⟨d, .iadS 1 x i, none⟩] ⟨reg L, hp⟩ = some ⟨zas (reg L) d (.pointer (some ⟨k, o', none⟩)), hp⟩ := by
 cases q with
 | none => have := ho rfl; omega
 | some p => exact zfB (o := p.1) hx hi hn (by simpa [qo] using he)
theorem hf_row {h : List Blk} {k n : Nat} {q : Option (Nat × Nat)} {c : List Value} {rw : Bool} (hk : h[k]? = some (zeo q c rw)) (ho : q = none → n = 0) (hn : 0 < n) : hf h k = some (.cells c rw) := by
 cases q with
 | none => have := ho rfl; omega
 | some p => exact zav.2 ⟨hk, by simp [zeo]⟩
theorem row_r {q : Option (Nat × Nat)} {L l : List Int} (hr : RowOf q L l) {i o : Nat} (hi : i < l.length) (ho : o = qo q + i) : zam none (u8 L) o = some (.int .u8 (l.getD i 0 % 256)) := by
 have hq : q ≠ none := fun e => by have := hr.nil e; omega
 have h1 := hr.off hq
 subst ho
 rw [u8_get (by omega)]
 have : (L.drop (qo q)).getD i 0 = l.getD i 0 := by
  have h3 := congrArg (fun z : List Int => z[i]?) (hr.at_ hq)
  simp only [List.getElem?_take, if_pos hi] at h3
  rw [List.getD_eq_getElem?_getD, List.getD_eq_getElem?_getD, h3]
 rw [← this, List.getD_eq_getElem?_getD, List.getD_eq_getElem?_getD, List.getElem?_drop]
theorem row_slc {q : Option (Nat × Nat)} {L l : List Int} {k : Nat} (hr : RowOf q L l) {lo hi mx : Option Value} (a b : Nat) (hab : a ≤ b ∧ b ≤ l.length) (hlo : (lo = none ∧ a = 0) ∨ lo = some (iv (a : Nat))) (hhi : (hi = none ∧ b = l.length ∧ mx = none) ∨ hi = some (iv (b : Nat))) (hmx : mx = none ∨ mx = some (iv (b : Nat))) :
  ∃ (q' : Option (Nat × Nat)) (l' : List Int), l' = (l.drop a).take (b - a) ∧ l'.length = b - a ∧ slcV 1 (zeK q k l.length) lo hi mx = some (zeK q' k l'.length) ∧ RowOf q' L l' ∧ q'.isSome = q.isSome := by
 have hln : ((l.drop a).take (b - a)).length = b - a := by simp; omega
 have bn : ∀ (y i : Nat), i ≤ y → bnd y (iv (i : Nat)) = some i := fun y i h => by simp [bnd]; omega
 cases q with
 | none =>
  have h0 := hr.nil rfl
  have ha : a = 0 := by omega
  have hb : b = 0 := by omega
  subst ha; subst hb
  refine ⟨none, _, rfl, hln, ?_, ⟨fun _ => hln, fun e => absurd rfl e, fun e => absurd rfl e, (fun o c e => by cases e)⟩, rfl⟩
  show slcV 1 (.slice none 0 0) lo hi mx = some (.slice none 0 0)
  rcases hmx with rfl | rfl <;> rcases hlo with ⟨rfl, _⟩ | rfl <;> rcases hhi with ⟨rfl, _, hz⟩ | rfl <;> first | rfl | (cases hz)
 | some p =>
  obtain ⟨o, c⟩ := p
  have hc := hr.cap o c rfl
  have h1 := hr.off (by simp)
  have h2 := hr.at_ (by simp)
  simp only [qo] at h1 h2
  have key : ∀ m, b ≤ m → m ≤ c → bnds l.length c lo hi mx = some (a, b, m) → ∃ (q' : Option (Nat × Nat)) (l' : List Int), l' = (l.drop a).take (b - a) ∧ l'.length = b - a ∧ slcV 1 (zeK (some (o, c)) k l.length) lo hi mx = some (zeK q' k l'.length) ∧ RowOf q' L l' ∧ q'.isSome = (some (o, c)).isSome := by
   intro m hm1 hm2 hb
   refine ⟨some (if m = a then o else o + a * 1, m - a), _, rfl, hln, ?_, ⟨(fun e => by cases e), fun _ => ?_, fun _ => ?_, fun o' c' e => ?_⟩, rfl⟩
   ·simp only [zeK, slcV, hb, hln]
    split <;> rfl
   ·rw [hln]; simp only [qo]; split <;> omega
   ·rw [hln]
    simp only [qo]
    split
    ·rename_i hma
     have : b - a = 0 := by omega
     rw [this]; simp
    ·have h4 : l.drop a = (L.drop (o + a)).take (l.length - a) := by
      conv => lhs; rw [← h2]
      rw [List.drop_take, List.drop_drop]
     rw [Nat.mul_one, h4, List.take_take, show min (b - a) (l.length - a) = b - a by omega]
   ·cases e; rw [hln]; omega
  have e3 : (match (generalizing := false) lo with | some v => bnd b v | none => some 0) = some a := by
   rcases hlo with ⟨rfl, rfl⟩ | rfl
   ·rfl
   ·exact bn b a hab.1
  rcases hmx with rfl | rfl
  ·refine key c (by omega) (Nat.le_refl _) ?_
   rcases hhi with ⟨rfl, rfl, _⟩ | rfl
   ·show (match (generalizing := false) (match (generalizing := false) lo with | some v => bnd l.length v | none => some 0) with | none => none | some l' => some (l', l.length, c)) = _
    rw [e3]
   ·show (match (generalizing := false) bnd c (iv (b : Nat)) with | none => none | some h => match (generalizing := false) (match (generalizing := false) lo with | some v => bnd h v | none => some 0) with | none => none | some l' => some (l', h, c)) = _
    rw [bn c b (by omega)]
    show (match (generalizing := false) (match (generalizing := false) lo with | some v => bnd b v | none => some 0) with | none => none | some l' => some (l', b, c)) = _
    rw [e3]
  ·refine key b (Nat.le_refl _) (by omega) ?_
   rcases hhi with ⟨_, _, hz⟩ | rfl
   ·cases hz
   ·show (match (generalizing := false) bnd c (iv (b : Nat)) with | none => none | some m => match (generalizing := false) bnd m (iv (b : Nat)) with | none => none | some h => match (generalizing := false) (match (generalizing := false) lo with | some v => bnd h v | none => some 0) with | none => none | some l' => some (l', h, m)) = _
    rw [bn c b (by omega)]
    show (match (generalizing := false) bnd b (iv (b : Nat)) with | none => none | some h => match (generalizing := false) (match (generalizing := false) lo with | some v => bnd h v | none => some 0) with | none => none | some l' => some (l', h, b)) = _
    rw [bn b b (Nat.le_refl _)]
    show (match (generalizing := false) (match (generalizing := false) lo with | some v => bnd b v | none => some 0) with | none => none | some l' => some (l', b, b)) = _
    rw [e3]
theorem zjb {d : Option Nat} {x : Opd} {lo hi mx : Option Opd} {L : List (Nat × Value)} {hp : List Blk} {v w : Value} (hx : evf (reg L) x = v) (h : slcV 1 v (lo.map (evf (reg L))) (hi.map (evf (reg L))) (mx.map (evf (reg L))) = some w) : zdi [⟨d, .slcS 1 x lo hi mx, none⟩] ⟨reg L, hp⟩ = some ⟨zas (reg L) d w, hp⟩ := by
 refine zaE (e := .no) rfl rfl ?_
 simp only [zQ, hx, h]
theorem ren_rowB {ρ : Nat → Nat} {q : Option (Nat × Nat)} {c : List Value} {rw : Bool} (h : c.all zbz = true) : zaR ρ (zeo q c rw) = zeo q c rw := by
 cases q with
 | none => rfl
 | some p => exact zbk h
theorem zfE {ρ : Nat → Nat} {q : Option (Nat × Nat)} {c : List Value} {rw : Bool} (h : c.all zbz = true) : some (zeo q c rw) = some (zaR ρ (zeo q c rw)) := by rw [ren_rowB h]
theorem zh9 {ρ : Nat → Nat} {q q' : Option (Nat × Nat)} {c : List Value} {rw rw' : Bool} (h : c.all zbz = true) (hs : q'.isSome = q.isSome) (hr : rw = true → rw' = true) : Blk.sees (zaR ρ (zeo q' c rw)) (zeo q c rw') := by
 rw [ren_rowB h]
 cases q <;> cases q' <;> first | exact .inr ⟨rfl, rfl⟩ | exact .inl ⟨rfl, hr⟩ | (cases hs)
theorem zcQ {ρ : Nat → Nat} {q : Option (Nat × Nat)} {k k' n : Nat} (h : ρ k = k') : zbw ρ (zeK q k n) = zeK q k' n := by
 subst h; cases q <;> rfl
end Go.Rh

namespace Go.Rh
theorem wrap_u64 {x : Int} (h : 0 ≤ x ∧ x < 18446744073709551616) : IntKind.u64.wrap x = x := by show x % 18446744073709551616 = x; omega
theorem hf_row2 {h : List Blk} {k n : Nat} {q q' : Option (Nat × Nat)} {c : List Value} {rw : Bool} (hk : h[k]? = some (zeo q c rw)) (hs : q'.isSome = q.isSome) (ho : q' = none → n = 0) (hn : 0 < n) : hf h k = some (.cells c rw) :=
 hf_row (n := n) hk (fun e => by subst e; cases q' with | none => exact ho rfl | some p => cases hs) hn
end Go.Rh

namespace Go.Rh
def zB : List Value := [.int .u8 0]
theorem room_zB (m : Nat) : zbs zB m = u8 (List.replicate m 0) := u8_rep m
theorem zh1 (l : List Int) (m : Nat) : (u8 l ++ zbs zB m).all zbz = true := by rw [room_zB, u8_app]; exact zfU _
theorem u8_len (l : List Int) : (u8 l).length = l.length * 1 := by rw [u8_length, Nat.mul_one]
theorem run_mks0 {d : Option Nat} {z : RL} {size bytes n : Nat} {ik : IntKind} {v : Int} {l c : Opd} {L : List (Nat × Value)} {hp : List Blk} {zl : List Value} (hz : qI z = zl) (hl : evf (reg L) l = iv 0) (hc : evf (reg L) c = .int ik v) (hv : 0 ≤ v ∧ v ≤ 1000000) (hn : v.toNat = n) (hb : bytes ≤ 1000) :
  zdi [⟨d, .mks z size bytes l c, none⟩] ⟨reg L, hp⟩ = some ⟨zas (reg L) d (sv hp.length 0 0 (0 + n)), hp ++ [cw ([] ++ zbs zl n)]⟩ := by
 have h1 : (bytes : Int) * v ≤ 1000 * 1000000 := Int.mul_le_mul (by omega) hv.2 hv.1 (by omega)
 refine zaE (e := .push (cw ([] ++ zbs zl n))) (v := sv hp.length 0 0 (0 + n)) rfl rfl ?_
 subst hn
 simp only [zQ, hl, hc, iv]
 rw [if_pos ⟨by omega, hv.1, by omega, by omega⟩, hz]
 simp [sv, zbs]
def qsl (n : Nat) (o : Option Nat) : Option (Nat × Nat) := match o with
 | none => none
 | some m => some (0, n + m)
theorem rowV_qsl (k n : Nat) (o : Option Nat) : zeK (qsl n o) k n = slV k n o := by cases o <;> rfl
theorem rowB_qsl {n : Nat} {l : List Int} (o : Option Nat) : zeo (qsl n o) (u8 (l ++ List.replicate (o.getD 0) 0)) true = slB zB (u8 l) o := by
 cases o with
 | none => rfl
 | some m => simp [zeo, qsl, slB, room_zB, u8_app]
theorem row_qsl {l : List Int} {n : Nat} {o : Option Nat} (ho : o = none → l.length = 0) (hn : n = l.length) : RowOf (qsl n o) (l ++ List.replicate (o.getD 0) 0) l := by
 subst hn
 cases o with
 | none => exact ⟨fun _ => ho rfl, fun q => absurd rfl q, fun q => absurd rfl q, (fun o c q => by cases q)⟩
 | some m => exact ⟨(fun q => by cases q), (fun _ => by simp [qsl, qo]), (fun _ => by simp [qsl, qo]), (fun o c q => by cases q; omega)⟩
theorem sees_qsl {ρ : Nat → Nat} {n : Nat} {l : List Int} {rw : Bool} (o : Option Nat) : Blk.sees (zaR ρ (zeo (qsl n o) (u8 (l ++ List.replicate (o.getD 0) 0)) rw)) (slB zB (u8 l) o) := by
 rw [← rowB_qsl (n := n) o]; exact zh9 (zfU _) rfl (fun _ => rfl)
theorem renV_qsl {ρ : Nat → Nat} {k k' n m : Nat} (o : Option Nat) (h : ρ k = k') (hn : n = m) : zbw ρ (zeK (qsl n o) k m) = slV k' n o := by
 subst hn; rw [zcQ h, rowV_qsl]
theorem u8_app1 {l : List Int} {v w : Int} (h : v % 256 = w) : u8 l ++ [.int .u8 w] = u8 (l ++ [v]) := by subst h; simp [u8]
theorem over_row {ρ : Nat → Nat} {k : Nat} {ss : List Nat} {bs : List Blk} {q q' : Option (Nat × Nat)} {c c2 : List Value} {rw : Bool} (hs : q'.isSome = q.isSome) (hn : zeB k ss bs = none) : (match zeB k (k :: ss) (zeo q' c false :: bs) with
  | some b' => zaR ρ b'
  | none => zeo q c2 rw) = zeo q c2 rw := by
 cases q' <;> cases q <;> first | (cases hs; done) | (simp [zeB, zeo, Blk.rw, hn, zaR])
theorem over_qsl {ρ : Nat → Nat} {k n : Nat} {ss : List Nat} {bs : List Blk} {c z cs : List Value} {o : Option Nat} (hn : zeB k ss bs = none) : (match zeB k (k :: ss) (zeo (qsl n o) c false :: bs) with
  | some b' => zaR ρ b'
  | none => slB z cs o) = slB z cs o := by
 cases o <;> simp [zeB, zeo, qsl, slB, Blk.rw, hn, zaR]
end Go.Rh

set_option maxHeartbeats 8000000
namespace Go.Rh
def zaj : IFunc := ⟨17, [.tmp 4], (.seq (.reg [kq 4 (.mv (.c (.int .u64 0)))]) (.seq (.reg [km 6 1, kq 7 (.cvi .u64 (.t 6)), kq 8 (.bin .and (.t 7) (.c (.int .u64 63))), km 5 8]) (.seq (.reg [km 9 0, km 10 5, kq 11 (.bin .shl (.t 9) (.t 10)), km 12 0, km 13 5, kq 14 (.bin .sub (.c (.int .u64 64)) (.t 13)), kq 15 (.bin .shr (.t 12) (.t 14)), kq 16 (.bin .or (.t 11) (.t 15)), km 4 16]) .ret)))⟩
abbrev zV (P : Program) : Prop := zX P "math/bits.RotateLeft64" = some zaj
def zdd : IFunc := ⟨114, [], (.seq (.dreg [km 2 0, kq 3 (.nilc (.t 2)), kq 4 (.fad 0 (.t 3)), kq 5 (.ld none (.t 4)), km 6 0, kq 7 (.nilc (.t 6)), kq 8 (.fad 1 (.t 7)), kq 9 (.ld none (.t 8)), kq 10 (.bin .add (.t 5) (.t 9)), kq 11 (.nilc (.t 2)), kq 12 (.fad 0 (.t 11)), ku (.st 1 (.t 12) (.t 10))] [[], [0], [1, 0], [2, 1, 0], [], [4], [5, 4], [6, 5, 4], [3, 2, 1, 0, 7, 6, 5, 4], [0, 1, 2, 3, 4, 5, 6, 7, 8], [9, 0, 1, 2, 3, 4, 5, 6, 7, 8], [10, 9, 0, 1, 2, 3, 4, 5, 6, 7, 8]]) (.seq (.dreg [km 13 0, km 14 0, kq 15 (.nilc (.t 14)), kq 16 (.fad 1 (.t 15)), kq 17 (.ld none (.t 16)), kq 18 (.call "math/bits.RotateLeft64" [(.t 17), (ki 13)]), km 19 0, kq 20 (.nilc (.t 19)), kq 21 (.fad 0 (.t 20)), kq 22 (.ld none (.t 21)), kq 23 (.bin .xor (.t 18) (.t 22)), kq 24 (.nilc (.t 13)), kq 25 (.fad 1 (.t 24)), ku (.st 1 (.t 25) (.t 23))] [[], [], [1], [2, 1], [3, 2, 1], [4, 3, 2, 1], [], [6], [7, 6], [8, 7, 6], [5, 4, 3, 2, 1, 9, 8, 7, 6], [0, 1, 2, 3, 4, 5, 6, 7, 8, 9, 10], [11, 0, 1, 2, 3, 4, 5, 6, 7, 8, 9, 10], [12, 11, 0, 1, 2, 3, 4, 5, 6, 7, 8, 9, 10]]) (.seq (.reg [km 26 0, km 27 0, kq 28 (.nilc (.t 27)), kq 29 (.fad 0 (.t 28)), kq 30 (.ld none (.t 29)), kq 31 (.call "math/bits.RotateLeft64" [(.t 30), (ki 32)]), kq 32 (.nilc (.t 26)), kq 33 (.fad 0 (.t 32)), ku (.st 1 (.t 33) (.t 31))]) (.seq (.dreg [km 34 0, kq 35 (.nilc (.t 34)), kq 36 (.fad 2 (.t 35)), kq 37 (.ld none (.t 36)), km 38 0, kq 39 (.nilc (.t 38)), kq 40 (.fad 3 (.t 39)), kq 41 (.ld none (.t 40)), kq 42 (.bin .add (.t 37) (.t 41)), kq 43 (.nilc (.t 34)), kq 44 (.fad 2 (.t 43)), ku (.st 1 (.t 44) (.t 42))] [[], [0], [1, 0], [2, 1, 0], [], [4], [5, 4], [6, 5, 4], [3, 2, 1, 0, 7, 6, 5, 4], [0, 1, 2, 3, 4, 5, 6, 7, 8], [9, 0, 1, 2, 3, 4, 5, 6, 7, 8], [10, 9, 0, 1, 2, 3, 4, 5, 6, 7, 8]]) (.seq (.dreg [km 45 0, km 46 0, kq 47 (.nilc (.t 46)), kq 48 (.fad 3 (.t 47)), kq 49 (.ld none (.t 48)), kq 50 (.call "math/bits.RotateLeft64" [(.t 49), (ki 16)]), km 51 0, kq 52 (.nilc (.t 51)), kq 53 (.fad 2 (.t 52)), kq 54 (.ld none (.t 53)), kq 55 (.bin .xor (.t 50) (.t 54)), kq 56 (.nilc (.t 45)), kq 57 (.fad 3 (.t 56)), ku (.st 1 (.t 57) (.t 55))] [[], [], [1], [2, 1], [3, 2, 1], [4, 3, 2, 1], [], [6], [7, 6], [8, 7, 6], [5, 4, 3, 2, 1, 9, 8, 7, 6], [0, 1, 2, 3, 4, 5, 6, 7, 8, 9, 10], [11, 0, 1, 2, 3, 4, 5, 6, 7, 8, 9, 10], [12, 11, 0, 1, 2, 3, 4, 5, 6, 7, 8, 9, 10]]) (.seq (.dreg [km 58 0, kq 59 (.nilc (.t 58)), kq 60 (.fad 0 (.t 59)), kq 61 (.ld none (.t 60)), km 62 0, kq 63 (.nilc (.t 62)), kq 64 (.fad 3 (.t 63)), kq 65 (.ld none (.t 64)), kq 66 (.bin .add (.t 61) (.t 65)), kq 67 (.nilc (.t 58)), kq 68 (.fad 0 (.t 67)), ku (.st 1 (.t 68) (.t 66))] [[], [0], [1, 0], [2, 1, 0], [], [4], [5, 4], [6, 5, 4], [3, 2, 1, 0, 7, 6, 5, 4], [0, 1, 2, 3, 4, 5, 6, 7, 8], [9, 0, 1, 2, 3, 4, 5, 6, 7, 8], [10, 9, 0, 1, 2, 3, 4, 5, 6, 7, 8]]) (.seq (.dreg [km 69 0, km 70 0, kq 71 (.nilc (.t 70)), kq 72 (.fad 3 (.t 71)), kq 73 (.ld none (.t 72)), kq 74 (.call "math/bits.RotateLeft64" [(.t 73), (ki 21)]), km 75 0, kq 76 (.nilc (.t 75)), kq 77 (.fad 0 (.t 76)), kq 78 (.ld none (.t 77)), kq 79 (.bin .xor (.t 74) (.t 78)), kq 80 (.nilc (.t 69)), kq 81 (.fad 3 (.t 80)), ku (.st 1 (.t 81) (.t 79))] [[], [], [1], [2, 1], [3, 2, 1], [4, 3, 2, 1], [], [6], [7, 6], [8, 7, 6], [5, 4, 3, 2, 1, 9, 8, 7, 6], [0, 1, 2, 3, 4, 5, 6, 7, 8, 9, 10], [11, 0, 1, 2, 3, 4, 5, 6, 7, 8, 9, 10], [12, 11, 0, 1, 2, 3, 4, 5, 6, 7, 8, 9, 10]]) (.seq (.dreg [km 82 0, kq 83 (.nilc (.t 82)), kq 84 (.fad 2 (.t 83)), kq 85 (.ld none (.t 84)), km 86 0, kq 87 (.nilc (.t 86)), kq 88 (.fad 1 (.t 87)), kq 89 (.ld none (.t 88)), kq 90 (.bin .add (.t 85) (.t 89)), kq 91 (.nilc (.t 82)), kq 92 (.fad 2 (.t 91)), ku (.st 1 (.t 92) (.t 90))] [[], [0], [1, 0], [2, 1, 0], [], [4], [5, 4], [6, 5, 4], [3, 2, 1, 0, 7, 6, 5, 4], [0, 1, 2, 3, 4, 5, 6, 7, 8], [9, 0, 1, 2, 3, 4, 5, 6, 7, 8], [10, 9, 0, 1, 2, 3, 4, 5, 6, 7, 8]]) (.seq (.dreg [km 93 0, km 94 0, kq 95 (.nilc (.t 94)), kq 96 (.fad 1 (.t 95)), kq 97 (.ld none (.t 96)), kq 98 (.call "math/bits.RotateLeft64" [(.t 97), (ki 17)]), km 99 0, kq 100 (.nilc (.t 99)), kq 101 (.fad 2 (.t 100)), kq 102 (.ld none (.t 101)), kq 103 (.bin .xor (.t 98) (.t 102)), kq 104 (.nilc (.t 93)), kq 105 (.fad 1 (.t 104)), ku (.st 1 (.t 105) (.t 103))] [[], [], [1], [2, 1], [3, 2, 1], [4, 3, 2, 1], [], [6], [7, 6], [8, 7, 6], [5, 4, 3, 2, 1, 9, 8, 7, 6], [0, 1, 2, 3, 4, 5, 6, 7, 8, 9, 10], [11, 0, 1, 2, 3, 4, 5, 6, 7, 8, 9, 10], [12, 11, 0, 1, 2, 3, 4, 5, 6, 7, 8, 9, 10]]) (.reg [km 106 0, km 107 0, kq 108 (.nilc (.t 107)), kq 109 (.fad 2 (.t 108)), kq 110 (.ld none (.t 109)), kq 111 (.call "math/bits.RotateLeft64" [(.t 110), (ki 32)]), kq 112 (.nilc (.t 106)), kq 113 (.fad 2 (.t 112)), ku (.st 1 (.t 113) (.t 111))]))))))))))⟩
abbrev qM (P : Program) : Prop := zX P "(*roundhouse/sip.state).round" = some zdd
def xo (a b : Int) : Int := IntKind.u64.wrap ((BitVec.ofInt 64 a ^^^ BitVec.ofInt 64 b).toNat)
def ad (a b : Int) : Int := IntKind.u64.wrap (a + b)
def oo (a b : Int) : Int := IntKind.u64.wrap ((BitVec.ofInt 64 a ||| BitVec.ofInt 64 b).toNat)
def sl (a b : Int) : Int := IntKind.u64.wrap (a * 2 ^ (min b.toNat 64))
def zds (R Q x : Int) : Int := IntKind.u64.wrap ((BitVec.ofInt 64 (IntKind.u64.wrap (x * R)) ||| BitVec.ofInt 64 (x.fdiv Q)).toNat)
structure Q4 where
  (a b c d : Int)
def q4L (q : Q4) : List Value := [uv q.a, uv q.b, uv q.c, uv q.d]
def rs1 (q : Q4) : Q4 := ⟨ad q.a q.b, q.b, q.c, q.d⟩
def rs2 (q : Q4) : Q4 := let x := rs1 q; ⟨x.a, xo (zds 8192 2251799813685248 x.b) x.a, x.c, x.d⟩
def rs3 (q : Q4) : Q4 := let x := rs2 q; ⟨zds 4294967296 4294967296 x.a, x.b, x.c, x.d⟩
def rs4 (q : Q4) : Q4 := let x := rs3 q; ⟨x.a, x.b, ad x.c x.d, x.d⟩
def rs5 (q : Q4) : Q4 := let x := rs4 q; ⟨x.a, x.b, x.c, xo (zds 65536 281474976710656 x.d) x.c⟩
def rs6 (q : Q4) : Q4 := let x := rs5 q; ⟨ad x.a x.d, x.b, x.c, x.d⟩
def rs7 (q : Q4) : Q4 := let x := rs6 q; ⟨x.a, x.b, x.c, xo (zds 2097152 8796093022208 x.d) x.a⟩
def rs8 (q : Q4) : Q4 := let x := rs7 q; ⟨x.a, x.b, ad x.c x.b, x.d⟩
def rs9 (q : Q4) : Q4 := let x := rs8 q; ⟨x.a, xo (zds 131072 140737488355328 x.b) x.c, x.c, x.d⟩
def rs10 (q : Q4) : Q4 := let x := rs9 q; ⟨x.a, x.b, zds 4294967296 4294967296 x.c, x.d⟩
theorem rot13C {P : Program} (hc : zV P) (x : Int) :
    Env P "math/bits.RotateLeft64" [uv x, iv 13] ([]) (Ans (uv (zds 8192 2251799813685248 x)) ([])) := by
 refine Env.by hc ?_
 unfold zaj
 show GC _ 0 _ _ ⟨reg [(0, uv x), (1, iv 13)], []⟩
 refine zT (z0 (o_d 1 [(4, uv 0)] (by kernel_rfl) (zF (zC (zT (z0 (o_d 4 [(5, uv 13), (8, uv 13), (7, uv 13), (6, iv 13)] (by kernel_rfl) (zF (zC (zT (z0 (o_d 9 [(4, uv (IntKind.u64.wrap ((BitVec.ofInt 64 (IntKind.u64.wrap (x * 8192)) ||| BitVec.ofInt 64 (x.fdiv 2251799813685248)).toNat))), (16, uv (IntKind.u64.wrap ((BitVec.ofInt 64 (IntKind.u64.wrap (x * 8192)) ||| BitVec.ofInt 64 (x.fdiv 2251799813685248)).toNat))), (15, uv (x.fdiv 2251799813685248)), (14, uv 51), (13, uv 13), (12, uv x), (11, uv (IntKind.u64.wrap (x * 8192))), (10, uv 13), (9, uv x)] (by kernel_rfl) ?_))))))))))))
 refine zF (zC (zbr ?_))
 have E0_ : zds 8192 2251799813685248 x = IntKind.u64.wrap ((BitVec.ofInt 64 (IntKind.u64.wrap (x * 8192)) ||| BitVec.ofInt 64 (x.fdiv 2251799813685248)).toNat) := by
  rfl
 exact zar [uv (IntKind.u64.wrap ((BitVec.ofInt 64 (IntKind.u64.wrap (x * 8192)) ||| BitVec.ofInt 64 (x.fdiv 2251799813685248)).toNat))] (qB rfl rfl) rfl (by rw [E0_]; rfl) rfl rfl
theorem rot32C {P : Program} (hc : zV P) (x : Int) :
    Env P "math/bits.RotateLeft64" [uv x, iv 32] ([]) (Ans (uv (zds 4294967296 4294967296 x)) ([])) := by
 refine Env.by hc ?_
 unfold zaj
 show GC _ 0 _ _ ⟨reg [(0, uv x), (1, iv 32)], []⟩
 refine zT (z0 (o_d 1 [(4, uv 0)] (by kernel_rfl) (zF (zC (zT (z0 (o_d 4 [(5, uv 32), (8, uv 32), (7, uv 32), (6, iv 32)] (by kernel_rfl) (zF (zC (zT (z0 (o_d 9 [(4, uv (IntKind.u64.wrap ((BitVec.ofInt 64 (IntKind.u64.wrap (x * 4294967296)) ||| BitVec.ofInt 64 (x.fdiv 4294967296)).toNat))), (16, uv (IntKind.u64.wrap ((BitVec.ofInt 64 (IntKind.u64.wrap (x * 4294967296)) ||| BitVec.ofInt 64 (x.fdiv 4294967296)).toNat))), (15, uv (x.fdiv 4294967296)), (14, uv 32), (13, uv 32), (12, uv x), (11, uv (IntKind.u64.wrap (x * 4294967296))), (10, uv 32), (9, uv x)] (by kernel_rfl) ?_))))))))))))
 refine zF (zC (zbr ?_))
 have E0_ : zds 4294967296 4294967296 x = IntKind.u64.wrap ((BitVec.ofInt 64 (IntKind.u64.wrap (x * 4294967296)) ||| BitVec.ofInt 64 (x.fdiv 4294967296)).toNat) := by
  rfl
 exact zar [uv (IntKind.u64.wrap ((BitVec.ofInt 64 (IntKind.u64.wrap (x * 4294967296)) ||| BitVec.ofInt 64 (x.fdiv 4294967296)).toNat))] (qB rfl rfl) rfl (by rw [E0_]; rfl) rfl rfl
theorem rot16C {P : Program} (hc : zV P) (x : Int) :
    Env P "math/bits.RotateLeft64" [uv x, iv 16] ([]) (Ans (uv (zds 65536 281474976710656 x)) ([])) := by
 refine Env.by hc ?_
 unfold zaj
 show GC _ 0 _ _ ⟨reg [(0, uv x), (1, iv 16)], []⟩
 refine zT (z0 (o_d 1 [(4, uv 0)] (by kernel_rfl) (zF (zC (zT (z0 (o_d 4 [(5, uv 16), (8, uv 16), (7, uv 16), (6, iv 16)] (by kernel_rfl) (zF (zC (zT (z0 (o_d 9 [(4, uv (IntKind.u64.wrap ((BitVec.ofInt 64 (IntKind.u64.wrap (x * 65536)) ||| BitVec.ofInt 64 (x.fdiv 281474976710656)).toNat))), (16, uv (IntKind.u64.wrap ((BitVec.ofInt 64 (IntKind.u64.wrap (x * 65536)) ||| BitVec.ofInt 64 (x.fdiv 281474976710656)).toNat))), (15, uv (x.fdiv 281474976710656)), (14, uv 48), (13, uv 16), (12, uv x), (11, uv (IntKind.u64.wrap (x * 65536))), (10, uv 16), (9, uv x)] (by kernel_rfl) ?_))))))))))))
 refine zF (zC (zbr ?_))
 have E0_ : zds 65536 281474976710656 x = IntKind.u64.wrap ((BitVec.ofInt 64 (IntKind.u64.wrap (x * 65536)) ||| BitVec.ofInt 64 (x.fdiv 281474976710656)).toNat) := by
  rfl
 exact zar [uv (IntKind.u64.wrap ((BitVec.ofInt 64 (IntKind.u64.wrap (x * 65536)) ||| BitVec.ofInt 64 (x.fdiv 281474976710656)).toNat))] (qB rfl rfl) rfl (by rw [E0_]; rfl) rfl rfl
theorem rot21C {P : Program} (hc : zV P) (x : Int) :
    Env P "math/bits.RotateLeft64" [uv x, iv 21] ([]) (Ans (uv (zds 2097152 8796093022208 x)) ([])) := by
 refine Env.by hc ?_
 unfold zaj
 show GC _ 0 _ _ ⟨reg [(0, uv x), (1, iv 21)], []⟩
 refine zT (z0 (o_d 1 [(4, uv 0)] (by kernel_rfl) (zF (zC (zT (z0 (o_d 4 [(5, uv 21), (8, uv 21), (7, uv 21), (6, iv 21)] (by kernel_rfl) (zF (zC (zT (z0 (o_d 9 [(4, uv (IntKind.u64.wrap ((BitVec.ofInt 64 (IntKind.u64.wrap (x * 2097152)) ||| BitVec.ofInt 64 (x.fdiv 8796093022208)).toNat))), (16, uv (IntKind.u64.wrap ((BitVec.ofInt 64 (IntKind.u64.wrap (x * 2097152)) ||| BitVec.ofInt 64 (x.fdiv 8796093022208)).toNat))), (15, uv (x.fdiv 8796093022208)), (14, uv 43), (13, uv 21), (12, uv x), (11, uv (IntKind.u64.wrap (x * 2097152))), (10, uv 21), (9, uv x)] (by kernel_rfl) ?_))))))))))))
 refine zF (zC (zbr ?_))
 have E0_ : zds 2097152 8796093022208 x = IntKind.u64.wrap ((BitVec.ofInt 64 (IntKind.u64.wrap (x * 2097152)) ||| BitVec.ofInt 64 (x.fdiv 8796093022208)).toNat) := by
  rfl
 exact zar [uv (IntKind.u64.wrap ((BitVec.ofInt 64 (IntKind.u64.wrap (x * 2097152)) ||| BitVec.ofInt 64 (x.fdiv 8796093022208)).toNat))] (qB rfl rfl) rfl (by rw [E0_]; rfl) rfl rfl
theorem rot17C {P : Program} (hc : zV P) (x : Int) :
    Env P "math/bits.RotateLeft64" [uv x, iv 17] ([]) (Ans (uv (zds 131072 140737488355328 x)) ([])) := by
 refine Env.by hc ?_
 unfold zaj
 show GC _ 0 _ _ ⟨reg [(0, uv x), (1, iv 17)], []⟩
 refine zT (z0 (o_d 1 [(4, uv 0)] (by kernel_rfl) (zF (zC (zT (z0 (o_d 4 [(5, uv 17), (8, uv 17), (7, uv 17), (6, iv 17)] (by kernel_rfl) (zF (zC (zT (z0 (o_d 9 [(4, uv (IntKind.u64.wrap ((BitVec.ofInt 64 (IntKind.u64.wrap (x * 131072)) ||| BitVec.ofInt 64 (x.fdiv 140737488355328)).toNat))), (16, uv (IntKind.u64.wrap ((BitVec.ofInt 64 (IntKind.u64.wrap (x * 131072)) ||| BitVec.ofInt 64 (x.fdiv 140737488355328)).toNat))), (15, uv (x.fdiv 140737488355328)), (14, uv 47), (13, uv 17), (12, uv x), (11, uv (IntKind.u64.wrap (x * 131072))), (10, uv 17), (9, uv x)] (by kernel_rfl) ?_))))))))))))
 refine zF (zC (zbr ?_))
 have E0_ : zds 131072 140737488355328 x = IntKind.u64.wrap ((BitVec.ofInt 64 (IntKind.u64.wrap (x * 131072)) ||| BitVec.ofInt 64 (x.fdiv 140737488355328)).toNat) := by
  rfl
 exact zar [uv (IntKind.u64.wrap ((BitVec.ofInt 64 (IntKind.u64.wrap (x * 131072)) ||| BitVec.ofInt 64 (x.fdiv 140737488355328)).toNat))] (qB rfl rfl) rfl (by rw [E0_]; rfl) rfl rfl
theorem roundC {P : Program} (hc : qM P) (h_math_bits_RotateLeft64 : zV P) (q : Q4) :
    Env P "(*roundhouse/sip.state).round" [pv 0 0] ([cw [uv q.a, uv q.b, uv q.c, uv q.d]]) (fun v h' => v = .tuple #[] ∧ h' = [cw (q4L (rs10 q))]) := by
 refine Env.by2 hc ?_
 unfold zdd
 show GC _ 1 _ _ ⟨reg [(0, pv 0 0)], [cw [uv q.a, uv q.b, uv q.c, uv q.d]]⟩
 refine gcut (fun s => ∃ (x : Q4), 0 = 0 ∧ (x = rs1 q) ∧ s = ⟨reg [(0, pv 0 0)], [cw [uv x.a, uv x.b, uv x.c, uv x.d]]⟩) ?_ ?_
 ·skip
  refine zdz ["math/bits.RotateLeft64"] (by kernel_rfl) (r_b 12 [(12, pv 0 0), (11, pv 0 0), (10, uv (ad q.a q.b)), (9, uv q.b), (8, pv 0 1), (7, pv 0 0), (6, pv 0 0), (5, uv q.a), (4, pv 0 0), (3, pv 0 0), (2, pv 0 0)] [cw [uv (ad q.a q.b), uv q.b, uv q.c, uv q.d]] (by kernel_rfl) (zc7 (⟨⟨reg [(0, pv 0 0)], [cw [uv (Q4.mk (ad q.a q.b) q.b q.c q.d).a, uv (Q4.mk (ad q.a q.b) q.b q.c q.d).b, uv (Q4.mk (ad q.a q.b) q.b q.c q.d).c, uv (Q4.mk (ad q.a q.b) q.b q.c q.d).d]]⟩, ?_⟩)))
  refine ⟨?_, ?_⟩
  ·exact Wk.ren [0] rfl rfl (by decide) ⟨rfl, trivial⟩ ⟨.inl rfl, trivial⟩
  ·exact ⟨(Q4.mk (ad q.a q.b) q.b q.c q.d), rfl, rfl, rfl⟩
 rintro s ⟨x, -, hx, rfl⟩
 refine gcut (fun s => ∃ (x : Q4), 0 = 0 ∧ (x = rs2 q) ∧ s = ⟨reg [(0, pv 0 0)], [cw [uv x.a, uv x.b, uv x.c, uv x.d]]⟩) ?_ ?_
 ·skip
  refine zdz ["math/bits.RotateLeft64"] (by kernel_rfl) (r_d 5 [(17, uv x.b), (16, pv 0 1), (15, pv 0 0), (14, pv 0 0), (13, pv 0 0)] (by kernel_rfl) (r_cl (ziC (rot13C h_math_bits_RotateLeft64 x.b) rfl rfl rfl (r_b 8 [(25, pv 0 1), (24, pv 0 0), (23, uv (xo (zds 8192 2251799813685248 x.b) x.a)), (22, uv x.a), (21, pv 0 0), (20, pv 0 0), (19, pv 0 0)] [cw [uv x.a, uv (xo (zds 8192 2251799813685248 x.b) x.a), uv x.c, uv x.d]] (by kernel_rfl) (zc7 (⟨⟨reg [(0, pv 0 0)], [cw [uv (Q4.mk x.a (xo (zds 8192 2251799813685248 x.b) x.a) x.c x.d).a, uv (Q4.mk x.a (xo (zds 8192 2251799813685248 x.b) x.a) x.c x.d).b, uv (Q4.mk x.a (xo (zds 8192 2251799813685248 x.b) x.a) x.c x.d).c, uv (Q4.mk x.a (xo (zds 8192 2251799813685248 x.b) x.a) x.c x.d).d]]⟩, ?_⟩))))))
  refine ⟨?_, ?_⟩
  ·exact Wk.ren [0] rfl rfl (by decide) ⟨rfl, trivial⟩ ⟨.inl rfl, trivial⟩
  ·exact ⟨(Q4.mk x.a (xo (zds 8192 2251799813685248 x.b) x.a) x.c x.d), rfl, (by rw [hx]; rfl), rfl⟩
 rintro s ⟨x, -, hx, rfl⟩
 refine gcut (fun s => ∃ (x : Q4), 0 = 0 ∧ (x = rs3 q) ∧ s = ⟨reg [(0, pv 0 0)], [cw [uv x.a, uv x.b, uv x.c, uv x.d]]⟩) ?_ ?_
 ·skip
  refine z0 (o_d 5 [(30, uv x.a), (29, pv 0 0), (28, pv 0 0), (27, pv 0 0), (26, pv 0 0)] (by kernel_rfl) (zbO (zeO (rot32C h_math_bits_RotateLeft64 x.a) rfl rfl rfl (o_b 3 [(33, pv 0 0), (32, pv 0 0)] [cw [uv (zds 4294967296 4294967296 x.a), uv x.b, uv x.c, uv x.d]] (by kernel_rfl) (zF (⟨⟨reg [(0, pv 0 0)], [cw [uv (Q4.mk (zds 4294967296 4294967296 x.a) x.b x.c x.d).a, uv (Q4.mk (zds 4294967296 4294967296 x.a) x.b x.c x.d).b, uv (Q4.mk (zds 4294967296 4294967296 x.a) x.b x.c x.d).c, uv (Q4.mk (zds 4294967296 4294967296 x.a) x.b x.c x.d).d]]⟩, ?_⟩))))))
  refine ⟨?_, ?_⟩
  ·exact Wk.ren [0] rfl rfl (by decide) ⟨rfl, trivial⟩ ⟨.inl rfl, trivial⟩
  ·exact ⟨(Q4.mk (zds 4294967296 4294967296 x.a) x.b x.c x.d), rfl, (by rw [hx]; rfl), rfl⟩
 rintro s ⟨x, -, hx, rfl⟩
 refine gcut (fun s => ∃ (x : Q4), 0 = 0 ∧ (x = rs4 q) ∧ s = ⟨reg [(0, pv 0 0)], [cw [uv x.a, uv x.b, uv x.c, uv x.d]]⟩) ?_ ?_
 ·skip
  refine zdz ["math/bits.RotateLeft64"] (by kernel_rfl) (r_b 12 [(44, pv 0 2), (43, pv 0 0), (42, uv (ad x.c x.d)), (41, uv x.d), (40, pv 0 3), (39, pv 0 0), (38, pv 0 0), (37, uv x.c), (36, pv 0 2), (35, pv 0 0), (34, pv 0 0)] [cw [uv x.a, uv x.b, uv (ad x.c x.d), uv x.d]] (by kernel_rfl) (zc7 (⟨⟨reg [(0, pv 0 0)], [cw [uv (Q4.mk x.a x.b (ad x.c x.d) x.d).a, uv (Q4.mk x.a x.b (ad x.c x.d) x.d).b, uv (Q4.mk x.a x.b (ad x.c x.d) x.d).c, uv (Q4.mk x.a x.b (ad x.c x.d) x.d).d]]⟩, ?_⟩)))
  refine ⟨?_, ?_⟩
  ·exact Wk.ren [0] rfl rfl (by decide) ⟨rfl, trivial⟩ ⟨.inl rfl, trivial⟩
  ·exact ⟨(Q4.mk x.a x.b (ad x.c x.d) x.d), rfl, (by rw [hx]; rfl), rfl⟩
 rintro s ⟨x, -, hx, rfl⟩
 refine gcut (fun s => ∃ (x : Q4), 0 = 0 ∧ (x = rs5 q) ∧ s = ⟨reg [(0, pv 0 0)], [cw [uv x.a, uv x.b, uv x.c, uv x.d]]⟩) ?_ ?_
 ·skip
  refine zdz ["math/bits.RotateLeft64"] (by kernel_rfl) (r_d 5 [(49, uv x.d), (48, pv 0 3), (47, pv 0 0), (46, pv 0 0), (45, pv 0 0)] (by kernel_rfl) (r_cl (ziC (rot16C h_math_bits_RotateLeft64 x.d) rfl rfl rfl (r_b 8 [(57, pv 0 3), (56, pv 0 0), (55, uv (xo (zds 65536 281474976710656 x.d) x.c)), (54, uv x.c), (53, pv 0 2), (52, pv 0 0), (51, pv 0 0)] [cw [uv x.a, uv x.b, uv x.c, uv (xo (zds 65536 281474976710656 x.d) x.c)]] (by kernel_rfl) (zc7 (⟨⟨reg [(0, pv 0 0)], [cw [uv (Q4.mk x.a x.b x.c (xo (zds 65536 281474976710656 x.d) x.c)).a, uv (Q4.mk x.a x.b x.c (xo (zds 65536 281474976710656 x.d) x.c)).b, uv (Q4.mk x.a x.b x.c (xo (zds 65536 281474976710656 x.d) x.c)).c, uv (Q4.mk x.a x.b x.c (xo (zds 65536 281474976710656 x.d) x.c)).d]]⟩, ?_⟩))))))
  refine ⟨?_, ?_⟩
  ·exact Wk.ren [0] rfl rfl (by decide) ⟨rfl, trivial⟩ ⟨.inl rfl, trivial⟩
  ·exact ⟨(Q4.mk x.a x.b x.c (xo (zds 65536 281474976710656 x.d) x.c)), rfl, (by rw [hx]; rfl), rfl⟩
 rintro s ⟨x, -, hx, rfl⟩
 refine gcut (fun s => ∃ (x : Q4), 0 = 0 ∧ (x = rs6 q) ∧ s = ⟨reg [(0, pv 0 0)], [cw [uv x.a, uv x.b, uv x.c, uv x.d]]⟩) ?_ ?_
 ·skip
  refine zdz ["math/bits.RotateLeft64"] (by kernel_rfl) (r_b 12 [(68, pv 0 0), (67, pv 0 0), (66, uv (ad x.a x.d)), (65, uv x.d), (64, pv 0 3), (63, pv 0 0), (62, pv 0 0), (61, uv x.a), (60, pv 0 0), (59, pv 0 0), (58, pv 0 0)] [cw [uv (ad x.a x.d), uv x.b, uv x.c, uv x.d]] (by kernel_rfl) (zc7 (⟨⟨reg [(0, pv 0 0)], [cw [uv (Q4.mk (ad x.a x.d) x.b x.c x.d).a, uv (Q4.mk (ad x.a x.d) x.b x.c x.d).b, uv (Q4.mk (ad x.a x.d) x.b x.c x.d).c, uv (Q4.mk (ad x.a x.d) x.b x.c x.d).d]]⟩, ?_⟩)))
  refine ⟨?_, ?_⟩
  ·exact Wk.ren [0] rfl rfl (by decide) ⟨rfl, trivial⟩ ⟨.inl rfl, trivial⟩
  ·exact ⟨(Q4.mk (ad x.a x.d) x.b x.c x.d), rfl, (by rw [hx]; rfl), rfl⟩
 rintro s ⟨x, -, hx, rfl⟩
 refine gcut (fun s => ∃ (x : Q4), 0 = 0 ∧ (x = rs7 q) ∧ s = ⟨reg [(0, pv 0 0)], [cw [uv x.a, uv x.b, uv x.c, uv x.d]]⟩) ?_ ?_
 ·skip
  refine zdz ["math/bits.RotateLeft64"] (by kernel_rfl) (r_d 5 [(73, uv x.d), (72, pv 0 3), (71, pv 0 0), (70, pv 0 0), (69, pv 0 0)] (by kernel_rfl) (r_cl (ziC (rot21C h_math_bits_RotateLeft64 x.d) rfl rfl rfl (r_b 8 [(81, pv 0 3), (80, pv 0 0), (79, uv (xo (zds 2097152 8796093022208 x.d) x.a)), (78, uv x.a), (77, pv 0 0), (76, pv 0 0), (75, pv 0 0)] [cw [uv x.a, uv x.b, uv x.c, uv (xo (zds 2097152 8796093022208 x.d) x.a)]] (by kernel_rfl) (zc7 (⟨⟨reg [(0, pv 0 0)], [cw [uv (Q4.mk x.a x.b x.c (xo (zds 2097152 8796093022208 x.d) x.a)).a, uv (Q4.mk x.a x.b x.c (xo (zds 2097152 8796093022208 x.d) x.a)).b, uv (Q4.mk x.a x.b x.c (xo (zds 2097152 8796093022208 x.d) x.a)).c, uv (Q4.mk x.a x.b x.c (xo (zds 2097152 8796093022208 x.d) x.a)).d]]⟩, ?_⟩))))))
  refine ⟨?_, ?_⟩
  ·exact Wk.ren [0] rfl rfl (by decide) ⟨rfl, trivial⟩ ⟨.inl rfl, trivial⟩
  ·exact ⟨(Q4.mk x.a x.b x.c (xo (zds 2097152 8796093022208 x.d) x.a)), rfl, (by rw [hx]; rfl), rfl⟩
 rintro s ⟨x, -, hx, rfl⟩
 refine gcut (fun s => ∃ (x : Q4), 0 = 0 ∧ (x = rs8 q) ∧ s = ⟨reg [(0, pv 0 0)], [cw [uv x.a, uv x.b, uv x.c, uv x.d]]⟩) ?_ ?_
 ·skip
  refine zdz ["math/bits.RotateLeft64"] (by kernel_rfl) (r_b 12 [(92, pv 0 2), (91, pv 0 0), (90, uv (ad x.c x.b)), (89, uv x.b), (88, pv 0 1), (87, pv 0 0), (86, pv 0 0), (85, uv x.c), (84, pv 0 2), (83, pv 0 0), (82, pv 0 0)] [cw [uv x.a, uv x.b, uv (ad x.c x.b), uv x.d]] (by kernel_rfl) (zc7 (⟨⟨reg [(0, pv 0 0)], [cw [uv (Q4.mk x.a x.b (ad x.c x.b) x.d).a, uv (Q4.mk x.a x.b (ad x.c x.b) x.d).b, uv (Q4.mk x.a x.b (ad x.c x.b) x.d).c, uv (Q4.mk x.a x.b (ad x.c x.b) x.d).d]]⟩, ?_⟩)))
  refine ⟨?_, ?_⟩
  ·exact Wk.ren [0] rfl rfl (by decide) ⟨rfl, trivial⟩ ⟨.inl rfl, trivial⟩
  ·exact ⟨(Q4.mk x.a x.b (ad x.c x.b) x.d), rfl, (by rw [hx]; rfl), rfl⟩
 rintro s ⟨x, -, hx, rfl⟩
 refine gcut (fun s => ∃ (x : Q4), 0 = 0 ∧ (x = rs9 q) ∧ s = ⟨reg [(0, pv 0 0)], [cw [uv x.a, uv x.b, uv x.c, uv x.d]]⟩) ?_ ?_
 ·skip
  refine zdz ["math/bits.RotateLeft64"] (by kernel_rfl) (r_d 5 [(97, uv x.b), (96, pv 0 1), (95, pv 0 0), (94, pv 0 0), (93, pv 0 0)] (by kernel_rfl) (r_cl (ziC (rot17C h_math_bits_RotateLeft64 x.b) rfl rfl rfl (r_b 8 [(105, pv 0 1), (104, pv 0 0), (103, uv (xo (zds 131072 140737488355328 x.b) x.c)), (102, uv x.c), (101, pv 0 2), (100, pv 0 0), (99, pv 0 0)] [cw [uv x.a, uv (xo (zds 131072 140737488355328 x.b) x.c), uv x.c, uv x.d]] (by kernel_rfl) (zc7 (⟨⟨reg [(0, pv 0 0)], [cw [uv (Q4.mk x.a (xo (zds 131072 140737488355328 x.b) x.c) x.c x.d).a, uv (Q4.mk x.a (xo (zds 131072 140737488355328 x.b) x.c) x.c x.d).b, uv (Q4.mk x.a (xo (zds 131072 140737488355328 x.b) x.c) x.c x.d).c, uv (Q4.mk x.a (xo (zds 131072 140737488355328 x.b) x.c) x.c x.d).d]]⟩, ?_⟩))))))
  refine ⟨?_, ?_⟩
  ·exact Wk.ren [0] rfl rfl (by decide) ⟨rfl, trivial⟩ ⟨.inl rfl, trivial⟩
  ·exact ⟨(Q4.mk x.a (xo (zds 131072 140737488355328 x.b) x.c) x.c x.d), rfl, (by rw [hx]; rfl), rfl⟩
 rintro s ⟨x, -, hx, rfl⟩
 exact z0 (o_d 5 [(110, uv x.c), (109, pv 0 2), (108, pv 0 0), (107, pv 0 0), (106, pv 0 0)] (by kernel_rfl) (zbO (zeO (rot32C h_math_bits_RotateLeft64 x.c) rfl rfl rfl (o_b 3 [(113, pv 0 2), (112, pv 0 0)] [cw [uv x.a, uv x.b, uv (zds 4294967296 4294967296 x.c), uv x.d]] (by kernel_rfl) (zF (⟨trivial, ⟨reg [], [cw [uv x.a, uv x.b, uv (zds 4294967296 4294967296 x.c), uv x.d]]⟩, Wk.ren [0] rfl rfl (by decide) trivial ⟨.inl rfl, trivial⟩, [], rfl, z1, (by rfl), (by rw [hx]; rfl)⟩))))))
end Go.Rh

set_option maxHeartbeats 8000000
namespace Go.Rh
def zcW : IFunc := ⟨10, [], (.seq (.reg [km 4 1, kq 5 (.mv (ki 0))]) (.block 0 (.loop (.seq (.reg [kq 6 (.bin .lss (.t 5) (.t 4))]) (.seq (.cond (.t 6) .skip (.exit 0)) (.seq (.block 1 (.reg [km 7 0, kq 8 (.call "(*roundhouse/sip.state).round" [(.t 7)])])) (.reg [kq 9 (.bin .add (.t 5) (ki 1)), km 5 9])))))))⟩
abbrev qK (P : Program) : Prop := zX P "(*roundhouse/sip.state).rounds" = some zcW
def zdG : IFunc := ⟨22, [], (.seq (.reg [km 4 0, kq 5 (.nilc (.t 4)), kq 6 (.fad 3 (.t 5)), kq 7 (.ld none (.t 6)), km 8 1, kq 9 (.bin .xor (.t 7) (.t 8)), kq 10 (.nilc (.t 4)), kq 11 (.fad 3 (.t 10)), ku (.st 1 (.t 11) (.t 9))]) (.seq (.reg [km 12 0, kq 13 (.call "(*roundhouse/sip.state).rounds" [(.t 12), (ki 2)])]) (.reg [km 14 0, kq 15 (.nilc (.t 14)), kq 16 (.fad 0 (.t 15)), kq 17 (.ld none (.t 16)), km 18 1, kq 19 (.bin .xor (.t 17) (.t 18)), kq 20 (.nilc (.t 14)), kq 21 (.fad 0 (.t 20)), ku (.st 1 (.t 21) (.t 19))])))⟩
abbrev zaa (P : Program) : Prop := zX P "(*roundhouse/sip.state).take" = some zdG
def zde : IFunc := ⟨23, [.tmp 2], (.seq (.reg [kq 2 (.mv (.c (.int .u64 0)))]) (.seq (.reg [kq 3 (.mv (.c (.int .u64 0)))]) (.seq (.seq (.reg [km 5 0, kq 6 (.lenS (.t 5)), kq 7 (.mm false (.t 6) (ki 8)), kq 8 (.mv (ki 0))]) (.block 0 (.loop (.seq (.reg [kq 9 (.bin .lss (.t 8) (.t 7))]) (.seq (.cond (.t 9) .skip (.exit 0)) (.seq (.block 1 (.seq (.reg [km 10 8, km 4 10]) (.reg [km 11 3, km 12 0, km 13 4, kq 14 (.iadS 1 (.t 12) (.t 13)), kq 15 (.ld none (.t 14)), kq 16 (.cvi .u64 (.t 15)), km 17 4, kq 18 (.bin .mul (ki 8) (.t 17)), kq 19 (.bin .shl (.t 16) (.t 18)), kq 20 (.bin .or (.t 11) (.t 19)), km 3 20]))) (.reg [kq 21 (.bin .add (.t 8) (ki 1)), km 8 21]))))))) (.seq (.reg [km 22 3, km 2 22]) .ret))))⟩
abbrev qU (P : Program) : Prop := zX P "roundhouse/sip.number[[]byte]" = some zde
def rnds : Nat → Q4 → Q4
 | 0, q => q
 | n + 1, q => rs10 (rnds n q)
def zf4 (m : Int) (q : Q4) : Q4 := let x := rnds 2 ⟨q.a, q.b, q.c, xo q.d m⟩; ⟨xo x.a m, x.b, x.c, x.d⟩
theorem takeS_eq {m : Int} {q y : Q4} (h : rnds 2 (Q4.mk q.a q.b q.c (xo q.d m)) = y) : zf4 m q = ⟨xo y.a m, y.b, y.c, y.d⟩ := by subst h; rfl
def numT (l : List Int) : Nat → Int
 | 0 => 0
 | i + 1 => oo (numT l i) (sl (l.getD i 0 % 256) (8 * (i : Int)))
def ziR (l : List Int) : Int := numT l (min l.length 8)
theorem roundsC {P : Program} (hc : qK P) (h_sip_state_round : qM P) (h_math_bits_RotateLeft64 : zV P) (q : Q4) (n : Nat) (hn : n ≤ 1000) :
    Env P "(*roundhouse/sip.state).rounds" [pv 0 0, iv (n : Nat)] ([cw [uv q.a, uv q.b, uv q.c, uv q.d]]) (fun v h' => v = .tuple #[] ∧ h' = [cw (q4L (rnds n q))]) := by
 refine Env.by2 hc ?_
 unfold zcW
 show GC _ 1 _ _ ⟨reg [(0, pv 0 0), (1, iv (n : Nat))], [cw [uv q.a, uv q.b, uv q.c, uv q.d]]⟩
 refine zT (z0 (o_d 2 [(5, iv 0), (4, iv (n : Nat))] (by kernel_rfl) (zF (zC (zak (zdy (fun μ s => ∃ (i : Nat), ∃ (x : Q4), μ = n - i ∧ (i ≤ n) ∧ (x = rnds i q) ∧ s = ⟨reg [(5, iv (i : Int)), (4, iv (n : Nat)), (0, pv 0 0)], [cw [uv x.a, uv x.b, uv x.c, uv x.d]]⟩) ⟨(n - 0), ?_⟩ ?_))))))
 ·skip
  refine ⟨⟨reg [(5, iv (0 : Int)), (4, iv (n : Nat)), (0, pv 0 0)], [cw [uv q.a, uv q.b, uv q.c, uv q.d]]⟩, ?_⟩
  refine ⟨?_, ?_⟩
  ·exact Wk.ren [0] rfl rfl (by decide) ⟨rfl, ⟨rfl, ⟨rfl, trivial⟩⟩⟩ ⟨.inl rfl, trivial⟩
  ·exact ⟨0, q, rfl, (Nat.zero_le _), rfl, rfl⟩
 rintro μ s ⟨i, x, rfl, hi, hx, rfl⟩
 refine zT (z0 (o_d 1 [(6, bv (decide ((i : Int) < (n : Nat))))] (by kernel_rfl) (zF (zC (zT (zaJ (t := decide ((i : Int) < (n : Nat))) rfl (fun h1 => ?_) (fun h1 => ?_)))))))
 ·skip
  have h1' : (i : Int) < (n : Nat) := of_decide_eq_true h1
  refine zaC (zC (zT (zak (z0 (o_d 1 [(7, pv 0 0)] (by kernel_rfl) (zbO (callG [0] [cw [uv x.a, uv x.b, uv x.c, uv x.d]] [pv 0 0] (roundC h_sip_state_round h_math_bits_RotateLeft64 x) rfl rfl ⟨⟨_, rfl, zch rfl (fun q => rfl)⟩, trivial⟩ (by decide) ?_)))))))
  rintro v1 h1' ⟨rfl, rfl⟩
  refine ⟨.tuple #[], [cw [uv ((rs10 x).a), uv ((rs10 x).b), uv ((rs10 x).c), uv ((rs10 x).d)]], [], (by simp [zbw]), ⟨rfl, trivial⟩, trivial, ?_⟩
  generalize hy2 : rs10 x = y2
  refine zF (zC (z0 (o_s (by refine qL (v := .int .i64 (i64.wrap ((i : Int) + 1))) (congrArg (Value.int .i64) (w64 (by omega) (by omega))) ?_; kernel_rfl) ?_)))
  refine o_d 1 [(5, iv ((i : Int) + 1))] (by kernel_rfl) (zF (⟨n - (i + 1), ?_⟩))
  refine ⟨⟨reg [(5, iv ((i + 1) : Int)), (4, iv (n : Nat)), (0, pv 0 0)], [cw [uv y2.a, uv y2.b, uv y2.c, uv y2.d]]⟩, ?_⟩
  refine zgr (by omega) ⟨?_, ?_⟩
  ·exact Wk.ren [0] rfl rfl (by decide) ⟨rfl, ⟨rfl, ⟨rfl, trivial⟩⟩⟩ ⟨.inl rfl, trivial⟩
  ·exact ⟨(i + 1), y2, rfl, by omega, (by rw [← hy2, hx]; rfl), rfl⟩
 have h1' : ¬ ((i : Int) < (n : Nat)) := of_decide_eq_false h1
 exact zcU (⟨trivial, ⟨reg [], [cw [uv x.a, uv x.b, uv x.c, uv x.d]]⟩, Wk.ren [0] rfl rfl (by decide) trivial ⟨.inl rfl, trivial⟩, [], rfl, z1, rfl, (by rw [hx, show i = n by omega]; rfl)⟩)
theorem takeC {P : Program} (hc : zaa P) (h_sip_state_rounds : qK P) (h_sip_state_round : qM P) (h_math_bits_RotateLeft64 : zV P) (q : Q4) (m : Int) :
    Env P "(*roundhouse/sip.state).take" [pv 0 0, uv m] ([cw [uv q.a, uv q.b, uv q.c, uv q.d]]) (fun v h' => v = .tuple #[] ∧ h' = [cw (q4L (zf4 m q))]) := by
 refine Env.by2 hc ?_
 unfold zdG
 show GC _ 1 _ _ ⟨reg [(0, pv 0 0), (1, uv m)], [cw [uv q.a, uv q.b, uv q.c, uv q.d]]⟩
 refine zT (z0 (o_b 9 [(11, pv 0 3), (10, pv 0 0), (9, uv (xo q.d m)), (8, uv m), (7, uv q.d), (6, pv 0 3), (5, pv 0 0), (4, pv 0 0)] [cw [uv q.a, uv q.b, uv q.c, uv (xo q.d m)]] (by kernel_rfl) (zF (zC (zT (z0 (o_d 1 [(12, pv 0 0)] (by kernel_rfl) (zbO (callG [0] [cw [uv q.a, uv q.b, uv q.c, uv (xo q.d m)]] [pv 0 0, iv 2] (roundsC h_sip_state_rounds h_sip_state_round h_math_bits_RotateLeft64 (Q4.mk q.a q.b q.c (xo q.d m)) 2 (by decide)) rfl rfl ⟨⟨_, rfl, zch rfl (fun q => rfl)⟩, trivial⟩ (by decide) ?_)))))))))
 rintro v1 h1' ⟨rfl, rfl⟩
 refine ⟨.tuple #[], [cw [uv ((rnds 2 (Q4.mk q.a q.b q.c (xo q.d m))).a), uv ((rnds 2 (Q4.mk q.a q.b q.c (xo q.d m))).b), uv ((rnds 2 (Q4.mk q.a q.b q.c (xo q.d m))).c), uv ((rnds 2 (Q4.mk q.a q.b q.c (xo q.d m))).d)]], [], (by simp [zbw]), ⟨rfl, trivial⟩, trivial, ?_⟩
 generalize hy1 : rnds 2 (Q4.mk q.a q.b q.c (xo q.d m)) = y1
 exact zF (zC (z0 (o_b 9 [(21, pv 0 0), (20, pv 0 0), (19, uv (xo y1.a m)), (18, uv m), (17, uv y1.a), (16, pv 0 0), (15, pv 0 0), (14, pv 0 0)] [cw [uv (xo y1.a m), uv y1.b, uv y1.c, uv y1.d]] (by kernel_rfl) (zF (⟨trivial, ⟨reg [], [cw [uv (xo y1.a m), uv y1.b, uv y1.c, uv y1.d]]⟩, Wk.ren [0] rfl rfl (by decide) trivial ⟨.inl rfl, trivial⟩, [], rfl, z1, rfl, (by rw [takeS_eq hy1]; rfl)⟩)))))
theorem numberC {P : Program} (hc : qU P) (q : Option (Nat × Nat)) (L l : List Int) (hr : RowOf q L l) (hl : l.length ≤ 100000) :
    Env P "roundhouse/sip.number[[]byte]" [zeK q 0 l.length] ([zeo q (u8 L) false]) (fun v h' => v = uv (ziR l) ∧ h' = [zeo q (u8 L) false]) := by
 refine Env.by2 hc ?_
 unfold zde
 show GC _ 1 _ _ ⟨reg [(0, zeK q 0 l.length)], [zeo q (u8 L) false]⟩
 refine zT (z0 (o_d 1 [(2, uv 0)] (by kernel_rfl) (zF (zC (zT (z0 (o_d 1 [(3, uv 0)] (by kernel_rfl) (zF (zC (zT (zT (z0 ?_))))))))))))
 refine o_d 1 [(5, zeK q 0 l.length)] (by kernel_rfl) (o_s (by exact zg1 rfl hr.nil) ?_)
 refine o_d 2 [(8, iv 0), (7, iv (if (8 : Int) < ((l.length : Nat) : Int) then (8 : Int) else ((l.length : Nat) : Int)))] (by kernel_rfl) (zF (zC (zak (zdy (fun μ s => ∃ (i : Nat), ∃ (x : Int), μ = 8 - i ∧ (i ≤ l.length ∧ i ≤ 8) ∧ (x = numT l i) ∧ s = ⟨reg [(8, iv (i : Int)), (7, iv (if (8 : Int) < ((l.length : Nat) : Int) then (8 : Int) else ((l.length : Nat) : Int))), (3, uv x), (0, zeK q 0 l.length)], [zeo q (u8 L) false]⟩) ⟨(8 - 0), ?_⟩ ?_))))
 ·skip
  refine ⟨⟨reg [(8, iv (0 : Int)), (7, iv (if (8 : Int) < ((l.length : Nat) : Int) then (8 : Int) else ((l.length : Nat) : Int))), (3, uv 0), (0, zeK q 0 l.length)], [zeo q (u8 L) false]⟩, ?_⟩
  refine ⟨?_, ?_⟩
  ·exact Wk.ren [0] rfl rfl (by decide) ⟨rfl, ⟨rfl, ⟨rfl, ⟨((zcQ rfl)).trans rfl, trivial⟩⟩⟩⟩ ⟨.inl (zfE (zfU _)), trivial⟩
  ·exact ⟨0, 0, rfl, ⟨Nat.zero_le _, Nat.zero_le _⟩, rfl, rfl⟩
 rintro μ s ⟨i, x, rfl, hi, hx, rfl⟩
 refine zT (z0 (o_d 1 [(9, bv (decide ((i : Int) < (if (8 : Int) < ((l.length : Nat) : Int) then (8 : Int) else ((l.length : Nat) : Int)))))] (by kernel_rfl) (zF (zC (zT (zaJ (t := decide ((i : Int) < (if (8 : Int) < ((l.length : Nat) : Int) then (8 : Int) else ((l.length : Nat) : Int)))) rfl (fun h1 => ?_) (fun h1 => ?_)))))))
 ·skip
  have h1' : (i : Int) < (if (8 : Int) < ((l.length : Nat) : Int) then (8 : Int) else ((l.length : Nat) : Int)) := of_decide_eq_true h1
  have h9 : i < l.length ∧ i < 8 := by split at h1' <;> omega
  refine zaC (zC (zT (zak (zT (z0 (o_d 2 [(4, iv (i : Int)), (10, iv (i : Int))] (by kernel_rfl) (zF (zC (z0 (o_d 3 [(13, iv (i : Int)), (12, zeK q 0 l.length), (11, uv x)] (by kernel_rfl) (o_s (by exact run_iadRow (o' := qo q + i) rfl hr.nil rfl (by omega) (by omega)) ?_)))))))))))
  refine o_s (by refine z6 (v := .int .u8 (l.getD i 0 % 256)) rfl (hf_row2 (n := l.length) rfl rfl hr.nil (by omega)) ?_; exact row_r hr (by omega) rfl) ?_
  refine o_s (by refine qL (v := .int .u64 (IntKind.u64.wrap (l.getD i 0 % 256))) (congrArg (Value.int .u64) (wrap_u64 (by omega))) ?_; kernel_rfl) ?_
  refine o_d 1 [(17, iv (i : Int))] (by kernel_rfl) (o_s (by refine qL (v := .int .i64 (i64.wrap (8 * (i : Int)))) (congrArg (Value.int .i64) (w64 (by omega) (by omega))) ?_; kernel_rfl) ?_)
  refine o_d 3 [(3, uv (oo x (sl (l.getD i 0 % 256) (8 * (i : Int))))), (20, uv (oo x (sl (l.getD i 0 % 256) (8 * (i : Int))))), (19, uv (sl (l.getD i 0 % 256) (8 * (i : Int))))] (by kernel_rfl) (zF (zC (z0 (o_s (by refine qL (v := .int .i64 (i64.wrap ((i : Int) + 1))) (congrArg (Value.int .i64) (w64 (by omega) (by omega))) ?_; kernel_rfl) ?_))))
  refine o_d 1 [(8, iv ((i : Int) + 1))] (by kernel_rfl) (zF (⟨8 - (i + 1), ?_⟩))
  refine ⟨⟨reg [(8, iv ((i + 1) : Int)), (7, iv (if (8 : Int) < ((l.length : Nat) : Int) then (8 : Int) else ((l.length : Nat) : Int))), (3, uv (oo x (sl (l.getD i 0 % 256) (8 * (i : Int))))), (0, zeK q 0 l.length)], [zeo q (u8 L) false]⟩, ?_⟩
  refine zgr (by omega) ⟨?_, ?_⟩
  ·exact Wk.ren [0] rfl rfl (by decide) ⟨rfl, ⟨rfl, ⟨rfl, ⟨((zcQ rfl)).trans rfl, trivial⟩⟩⟩⟩ ⟨.inl (zfE (zfU _)), trivial⟩
  ·exact ⟨(i + 1), (oo x (sl (l.getD i 0 % 256) (8 * (i : Int)))), rfl, by omega, (by rw [hx]; rfl), rfl⟩
 have h1' : ¬ ((i : Int) < (if (8 : Int) < ((l.length : Nat) : Int) then (8 : Int) else ((l.length : Nat) : Int))) := of_decide_eq_false h1
 have h9 : ¬ (i < l.length ∧ i < 8) := by split at h1' <;> omega
 refine zcU (zC (zT (z0 (o_d 2 [(2, uv x), (22, uv x)] (by kernel_rfl) (zF (zC (zbr ?_)))))))
 have hi9 : True := trivial
 exact ⟨trivial, ⟨reg [(2, uv x)], [zeo q (u8 L) false]⟩, Wk.ren [0] rfl rfl (by decide) ⟨rfl, trivial⟩ ⟨.inl (zfE (zfU _)), trivial⟩, [uv x], (qB rfl rfl), (zS rfl z1), (congrArg (Value.int .u64) (hx.trans (congrArg (numT l) (by omega : i = min l.length 8)))), rfl⟩
end Go.Rh

set_option maxHeartbeats 1000000
namespace Go.Rh
def c_sip_Of : IFunc := ⟨69, [.tmp 4], (.seq (.reg [kq 2 (.box (.t 0)), kq 4 (.mv (.c (.int .u64 0)))]) (.seq (.reg [kq 7 (.fad 0 (.t 2)), kq 8 (.ld none (.t 7)), kq 9 (.bin .xor (.t 8) (.c (.int .u64 8317987319222330741))), kq 10 (.fad 1 (.t 2)), kq 11 (.ld none (.t 10)), kq 12 (.bin .xor (.t 11) (.c (.int .u64 7237128888997146477))), kq 13 (.fad 0 (.t 2)), kq 14 (.ld none (.t 13)), kq 15 (.bin .xor (.t 14) (.c (.int .u64 7816392313619706465))), kq 16 (.fad 1 (.t 2)), kq 17 (.ld none (.t 16)), kq 18 (.bin .xor (.t 17) (.c (.int .u64 8387220255154660723))), kq 19 (.bld [(4, (.int .u64 0))] [(0, 1, (.t 9)), (1, 1, (.t 12)), (2, 1, (.t 15)), (3, 1, (.t 18))]), kq 20 (.box (.t 19)), km 5 20]) (.seq (.reg [km 21 1, km 6 21]) (.seq (.block 0 (.loop (.seq (.seq (.reg [km 22 6, kq 23 (.lenS (.t 22)), kq 24 (.bin .geq (.t 23) (ki 8))]) (.cond (.t 24) .skip (.exit 0))) (.block 1 (.seq (.reg [km 25 5, km 26 6, kq 27 (.slcS 1 (.t 26) none (some (ki 8)) none), kq 28 (.call "roundhouse/sip.number[[]byte]" [(.t 27)]), kq 29 (.call "(*roundhouse/sip.state).take" [(.t 25), (.t 28)])]) (.reg [km 30 6, kq 31 (.slcS 1 (.t 30) (some (ki 8)) none none), km 6 31])))))) (.seq (.reg [km 32 5, km 33 6, kq 34 (.call "roundhouse/sip.number[[]byte]" [(.t 33)]), km 35 1, kq 36 (.lenS (.t 35)), kq 37 (.cvi .u64 (.t 36)), kq 38 (.bin .shl (.t 37) (.c (.int .u64 56))), kq 39 (.bin .or (.t 34) (.t 38)), kq 40 (.call "(*roundhouse/sip.state).take" [(.t 32), (.t 39)])]) (.seq (.reg [km 41 5, kq 42 (.nilc (.t 41)), kq 43 (.fad 2 (.t 42)), kq 44 (.ld none (.t 43)), kq 45 (.bin .xor (.t 44) (.c (.int .u64 255))), kq 46 (.nilc (.t 41)), kq 47 (.fad 2 (.t 46)), ku (.st 1 (.t 47) (.t 45))]) (.seq (.reg [km 48 5, kq 49 (.call "(*roundhouse/sip.state).rounds" [(.t 48), (ki 4)])]) (.seq (.dreg [km 50 5, kq 51 (.nilc (.t 50)), kq 52 (.fad 0 (.t 51)), kq 53 (.ld none (.t 52)), km 54 5, kq 55 (.nilc (.t 54)), kq 56 (.fad 1 (.t 55)), kq 57 (.ld none (.t 56)), kq 58 (.bin .xor (.t 53) (.t 57)), km 59 5, kq 60 (.nilc (.t 59)), kq 61 (.fad 2 (.t 60)), kq 62 (.ld none (.t 61)), kq 63 (.bin .xor (.t 58) (.t 62)), km 64 5, kq 65 (.nilc (.t 64)), kq 66 (.fad 3 (.t 65)), kq 67 (.ld none (.t 66)), kq 68 (.bin .xor (.t 63) (.t 67)), km 4 68] [[], [0], [1, 0], [2, 1, 0], [], [4], [5, 4], [6, 5, 4], [3, 2, 1, 0, 7, 6, 5, 4], [], [9], [10, 9], [11, 10, 9], [8, 3, 2, 1, 0, 7, 6, 5, 4, 12, 11, 10, 9], [], [14], [15, 14], [16, 15, 14], [13, 8, 3, 2, 1, 0, 7, 6, 5, 4, 12, 11, 10, 9, 17, 16, 15, 14], [18, 13, 8, 3, 2, 1, 0, 7, 6, 5, 4, 12, 11, 10, 9, 17, 16, 15, 14]]) .ret))))))))⟩
abbrev zcx (P : Program) : Prop := zX P "roundhouse/sip.Of" = some c_sip_Of
def sipT (l : List Int) : Nat → Q4 → Q4
 | 0, q => q
 | i + 1, q => zf4 (ziR ((l.drop (8 * i)).take 8)) (sipT l i q)
def c255 (y : Q4) : Q4 := ⟨y.a, y.b, xo y.c 255, y.d⟩
def fin4 (z : Q4) : Int := xo (xo (xo z.a z.b) z.c) z.d
def sip0 (ka kb : Int) : Q4 := (Q4.mk (xo ka 8317987319222330741) (xo kb 7237128888997146477) (xo ka 7816392313619706465) (xo kb 8387220255154660723))
def ofS (ka kb : Int) (l : List Int) : Int := fin4 (rnds 4 (c255 (zf4 (oo (ziR (l.drop (8 * (l.length / 8)))) (sl ((l.length : Int) % 18446744073709551616) 56)) (sipT l (l.length / 8) (sip0 ka kb)))))
theorem drop8 {l l2 l3 : List Int} {i : Nat} (h : l2 = l.drop (8 * i)) (h3 : l3 = (l2.drop 8).take (l2.length - 8)) : l3 = l.drop (8 * (i + 1)) := by
 rw [h3, List.take_of_length_le (by simp), h, List.drop_drop]; congr 1
theorem ofS_eq {ka kb s : Int} {l l2 : List Int} {i : Nat} {x y z : Q4} (hi : i = l.length / 8) (hx : x = sipT l i (Q4.mk (xo ka 8317987319222330741) (xo kb 7237128888997146477) (xo ka 7816392313619706465) (xo kb 8387220255154660723))) (hl : l2 = l.drop (8 * i)) (hs : s = sl ((l.length : Int) % 18446744073709551616) 56) (hy : zf4 (oo (ziR l2) s) x = y) (hz : rnds 4 (Q4.mk y.a y.b (xo y.c 255) y.d) = z) : xo (xo (xo z.a z.b) z.c) z.d = ofS ka kb l := by
 subst hi; subst hx; subst hl; subst hs; subst hy; subst hz; rfl
theorem ofC {P : Program} (hc : zcx P) (h_sip_number_byte : qU P) (h_sip_state_take : zaa P) (h_sip_state_rounds : qK P) (h_sip_state_round : qM P) (h_math_bits_RotateLeft64 : zV P) (ka kb : Int) (q : Option (Nat × Nat)) (L l : List Int) (hr : RowOf q L l) (hl : l.length ≤ 100000) :
    Env P "roundhouse/sip.Of" [.agg #[uv ka, uv kb], zeK q 0 l.length] ([zeo q (u8 L) false]) (fun v h' => v = uv (ofS ka kb l) ∧ h' = [zeo q (u8 L) false]) := by
 refine Env.by2 hc ?_
 unfold c_sip_Of
 show GC _ 1 _ _ ⟨reg [(0, .agg #[uv ka, uv kb]), (1, zeK q 0 l.length)], [zeo q (u8 L) false]⟩
 refine zT (z0 (o_b 2 [(4, uv 0), (2, pv 1 0)] [zeo q (u8 L) false, cw [uv ka, uv kb]] (by kernel_rfl) (zF (zC (zT (z0 (o_b 15 [(5, pv 2 0), (20, pv 2 0), (19, .agg #[uv (xo ka 8317987319222330741), uv (xo kb 7237128888997146477), uv (xo ka 7816392313619706465), uv (xo kb 8387220255154660723)]), (18, uv (xo kb 8387220255154660723)), (17, uv kb), (16, pv 1 1), (15, uv (xo ka 7816392313619706465)), (14, uv ka), (13, pv 1 0), (12, uv (xo kb 7237128888997146477)), (11, uv kb), (10, pv 1 1), (9, uv (xo ka 8317987319222330741)), (8, uv ka), (7, pv 1 0)] [zeo q (u8 L) false, cw [uv ka, uv kb], cw [uv (xo ka 8317987319222330741), uv (xo kb 7237128888997146477), uv (xo ka 7816392313619706465), uv (xo kb 8387220255154660723)]] (by kernel_rfl) (zF (zC (zT (z0 (o_d 2 [(6, zeK q 0 l.length), (21, zeK q 0 l.length)] (by kernel_rfl) ?_))))))))))))
 refine zF (zC (zT (zak (zdy (fun μ s => ∃ (i : Nat), ∃ (q2 : Option (Nat × Nat)), ∃ (l2 : List Int), ∃ (x : Q4), μ = l.length - i ∧ (8 * i ≤ l.length) ∧ (l2 = l.drop (8 * i)) ∧ (x = sipT l i (Q4.mk (xo ka 8317987319222330741) (xo kb 7237128888997146477) (xo ka 7816392313619706465) (xo kb 8387220255154660723))) ∧ (RowOf q2 L l2) ∧ (q2.isSome = q.isSome) ∧ s = ⟨reg [(6, zeK q2 0 l2.length), (5, pv 2 0), (1, zeK q 0 l.length)], [zeo q (u8 L) false, cw [uv ka, uv kb], cw [uv x.a, uv x.b, uv x.c, uv x.d]]⟩) ⟨(l.length - 0), ?_⟩ ?_))))
 ·skip
  refine ⟨⟨reg [(6, zeK q 0 l.length), (5, pv 2 0), (1, zeK q 0 l.length)], [zeo q (u8 L) false, cw [uv ka, uv kb], cw [uv (Q4.mk (xo ka 8317987319222330741) (xo kb 7237128888997146477) (xo ka 7816392313619706465) (xo kb 8387220255154660723)).a, uv (Q4.mk (xo ka 8317987319222330741) (xo kb 7237128888997146477) (xo ka 7816392313619706465) (xo kb 8387220255154660723)).b, uv (Q4.mk (xo ka 8317987319222330741) (xo kb 7237128888997146477) (xo ka 7816392313619706465) (xo kb 8387220255154660723)).c, uv (Q4.mk (xo ka 8317987319222330741) (xo kb 7237128888997146477) (xo ka 7816392313619706465) (xo kb 8387220255154660723)).d]]⟩, ?_⟩
  refine ⟨?_, ?_⟩
  ·exact Wk.ren [0, 1, 2] rfl rfl (by decide) ⟨((zcQ rfl)).trans rfl, ⟨rfl, ⟨((zcQ rfl)).trans rfl, trivial⟩⟩⟩ ⟨.inl (zfE (zfU _)), ⟨.inl rfl, ⟨.inl rfl, trivial⟩⟩⟩
  ·exact ⟨0, q, l, (Q4.mk (xo ka 8317987319222330741) (xo kb 7237128888997146477) (xo ka 7816392313619706465) (xo kb 8387220255154660723)), rfl, (by omega), rfl, rfl, hr, rfl, rfl⟩
 rintro μ s ⟨i, q2, l2, x, rfl, hi, hl2, hx, hr2, hs2, rfl⟩
 have hn2 : l2.length = l.length - 8 * i := by rw [hl2]; simp
 refine zT (zT (z0 (o_d 1 [(22, zeK q2 0 l2.length)] (by kernel_rfl) (o_s (by exact zg1 rfl hr2.nil) ?_))))
 refine o_d 1 [(24, bv (decide (((l2.length : Nat) : Int) ≥ 8)))] (by kernel_rfl) (zF (zC (zaJ (t := decide (((l2.length : Nat) : Int) ≥ 8)) rfl (fun h1 => ?_) (fun h1 => ?_))))
 ·skip
  have h1' : ((l2.length : Nat) : Int) ≥ 8 := of_decide_eq_true h1
  refine zaC (zC (zak (zT (z0 (o_d 2 [(26, zeK q2 0 l2.length), (25, pv 2 0)] (by kernel_rfl) ?_)))))
  obtain ⟨qz2, lz2, hlz2, hn2z, hq2z, hr2z, hs2z⟩ := row_slc (k := 0) hr2 (lo := none) (hi := (some (iv 8))) (mx := none) 0 8 (by omega) (.inl ⟨rfl, rfl⟩) (.inr rfl) (.inl rfl)
  have hs2y := hs2z.trans hs2
  refine o_s (by exact zjb rfl hq2z) ?_
  refine zbO (callN [0] [zeo qz2 (u8 L) false] [zeK qz2 0 lz2.length] (numberC h_sip_number_byte qz2 L lz2 hr2z (by omega)) rfl (zan (zcQ rfl) rfl) ⟨⟨_, rfl, zh9 (zfU _) hs2y (fun q => q)⟩, trivial⟩ (by decide) ?_)
  rintro v1 h1' ⟨rfl, rfl⟩
  refine ⟨ziu [_] [], uv (ziR lz2), [zeo q (u8 L) false, cw [uv ka, uv kb], cw [uv x.a, uv x.b, uv x.c, uv x.d]], [], rfl, ⟨(over_row hs2y rfl), ⟨rfl, ⟨rfl, trivial⟩⟩⟩, trivial, ?_⟩
  refine zbO (callG [2] [cw [uv x.a, uv x.b, uv x.c, uv x.d]] [pv 0 0, uv (ziR lz2)] (takeC h_sip_state_take h_sip_state_rounds h_sip_state_round h_math_bits_RotateLeft64 x (ziR lz2)) rfl rfl ⟨⟨_, rfl, zch rfl (fun q => rfl)⟩, trivial⟩ (by decide) ?_)
  rintro v1 h1' ⟨rfl, rfl⟩
  refine ⟨.tuple #[], [zeo q (u8 L) false, cw [uv ka, uv kb], cw [uv ((zf4 (ziR lz2) x).a), uv ((zf4 (ziR lz2) x).b), uv ((zf4 (ziR lz2) x).c), uv ((zf4 (ziR lz2) x).d)]], [], (by simp [zbw]), ⟨rfl, ⟨rfl, ⟨rfl, trivial⟩⟩⟩, trivial, ?_⟩
  generalize hy3 : zf4 (ziR lz2) x = y3
  refine zF (zC (z0 (o_d 1 [(30, zeK q2 0 l2.length)] (by kernel_rfl) ?_)))
  obtain ⟨qz4, lz4, hlz4, hn4z, hq4z, hr4z, hs4z⟩ := row_slc (k := 0) hr2 (lo := (some (iv 8))) (hi := none) (mx := none) 8 l2.length (by omega) (.inr rfl) (.inl ⟨rfl, rfl, rfl⟩) (.inl rfl)
  have hs4y := hs4z.trans hs2
  refine o_s (by exact zjb rfl hq4z) ?_
  refine o_d 1 [(6, zeK qz4 0 lz4.length)] (by kernel_rfl) (zF (⟨l.length - (i + 1), ?_⟩))
  refine ⟨⟨reg [(6, zeK qz4 0 lz4.length), (5, pv 2 0), (1, zeK q 0 l.length)], [zeo q (u8 L) false, cw [uv ka, uv kb], cw [uv y3.a, uv y3.b, uv y3.c, uv y3.d]]⟩, ?_⟩
  refine zgr (by omega) ⟨?_, ?_⟩
  ·exact Wk.ren [0, 1, 2] rfl rfl (by decide) ⟨((zcQ rfl)).trans rfl, ⟨rfl, ⟨((zcQ rfl)).trans rfl, trivial⟩⟩⟩ ⟨.inl (zfE (zfU _)), ⟨.inl rfl, ⟨.inl rfl, trivial⟩⟩⟩
  ·exact ⟨(i + 1), qz4, lz4, y3, rfl, (by omega), (drop8 hl2 hlz4), (by rw [← hy3, hlz2, hx, hl2]; rfl), hr4z, hs4y, rfl⟩
 have h1' : ¬ (((l2.length : Nat) : Int) ≥ 8) := of_decide_eq_false h1
 refine zcU (zC (zT (z0 (o_d 2 [(33, zeK q2 0 l2.length), (32, pv 2 0)] (by kernel_rfl) (zbO (callN [0] [zeo q2 (u8 L) false] [zeK q2 0 l2.length] (numberC h_sip_number_byte q2 L l2 hr2 (by omega)) rfl (zan (zcQ rfl) rfl) ⟨⟨_, rfl, zh9 (zfU _) hs2 (fun q => q)⟩, trivial⟩ (by decide) ?_))))))
 rintro v1 h1' ⟨rfl, rfl⟩
 refine ⟨ziu [_] [], uv (ziR l2), [zeo q (u8 L) false, cw [uv ka, uv kb], cw [uv x.a, uv x.b, uv x.c, uv x.d]], [], rfl, ⟨(over_row hs2 rfl), ⟨rfl, ⟨rfl, trivial⟩⟩⟩, trivial, ?_⟩
 refine o_d 1 [(35, zeK q 0 l.length)] (by kernel_rfl) (o_s (by exact zg1 rfl hr.nil) ?_)
 refine o_d 3 [(39, uv (oo (ziR l2) (sl (((l.length : Nat) : Int) % 18446744073709551616) 56))), (38, uv (sl (((l.length : Nat) : Int) % 18446744073709551616) 56)), (37, uv (((l.length : Nat) : Int) % 18446744073709551616))] (by kernel_rfl) (zbO (callG [2] [cw [uv x.a, uv x.b, uv x.c, uv x.d]] [pv 0 0, uv (oo (ziR l2) (sl (((l.length : Nat) : Int) % 18446744073709551616) 56))] (takeC h_sip_state_take h_sip_state_rounds h_sip_state_round h_math_bits_RotateLeft64 x (oo (ziR l2) (sl (((l.length : Nat) : Int) % 18446744073709551616) 56))) rfl rfl ⟨⟨_, rfl, zch rfl (fun q => rfl)⟩, trivial⟩ (by decide) ?_))
 rintro v1 h1' ⟨rfl, rfl⟩
 refine ⟨.tuple #[], [zeo q (u8 L) false, cw [uv ka, uv kb], cw [uv ((zf4 (oo (ziR l2) (sl (((l.length : Nat) : Int) % 18446744073709551616) 56)) x).a), uv ((zf4 (oo (ziR l2) (sl (((l.length : Nat) : Int) % 18446744073709551616) 56)) x).b), uv ((zf4 (oo (ziR l2) (sl (((l.length : Nat) : Int) % 18446744073709551616) 56)) x).c), uv ((zf4 (oo (ziR l2) (sl (((l.length : Nat) : Int) % 18446744073709551616) 56)) x).d)]], [], (by simp [zbw]), ⟨rfl, ⟨rfl, ⟨rfl, trivial⟩⟩⟩, trivial, ?_⟩
 generalize hy5 : zf4 (oo (ziR l2) (sl (((l.length : Nat) : Int) % 18446744073709551616) 56)) x = y5
 refine zF (zC (zT (z0 (o_b 8 [(47, pv 2 2), (46, pv 2 0), (45, uv (xo y5.c 255)), (44, uv y5.c), (43, pv 2 2), (42, pv 2 0), (41, pv 2 0)] [zeo q (u8 L) false, cw [uv ka, uv kb], cw [uv y5.a, uv y5.b, uv (xo y5.c 255), uv y5.d]] (by kernel_rfl) (zF (z9 [(5, pv 2 0)] (by kernel_rfl) (zT (z0 (o_d 1 [(48, pv 2 0)] (by kernel_rfl) (zbO (callG [2] [cw [uv y5.a, uv y5.b, uv (xo y5.c 255), uv y5.d]] [pv 0 0, iv 4] (roundsC h_sip_state_rounds h_sip_state_round h_math_bits_RotateLeft64 (Q4.mk y5.a y5.b (xo y5.c 255) y5.d) 4 (by decide)) rfl rfl ⟨⟨_, rfl, zch rfl (fun q => rfl)⟩, trivial⟩ (by decide) ?_)))))))))))
 rintro v1 h1' ⟨rfl, rfl⟩
 refine ⟨.tuple #[], [zeo q (u8 L) false, cw [uv ka, uv kb], cw [uv ((rnds 4 (Q4.mk y5.a y5.b (xo y5.c 255) y5.d)).a), uv ((rnds 4 (Q4.mk y5.a y5.b (xo y5.c 255) y5.d)).b), uv ((rnds 4 (Q4.mk y5.a y5.b (xo y5.c 255) y5.d)).c), uv ((rnds 4 (Q4.mk y5.a y5.b (xo y5.c 255) y5.d)).d)]], [], (by simp [zbw]), ⟨rfl, ⟨rfl, ⟨rfl, trivial⟩⟩⟩, trivial, ?_⟩
 generalize hy6 : rnds 4 (Q4.mk y5.a y5.b (xo y5.c 255) y5.d) = y6
 exact zF (zC (zT (zdz [] (by kernel_rfl) (r_d 20 [(4, uv (xo (xo (xo y6.a y6.b) y6.c) y6.d)), (68, uv (xo (xo (xo y6.a y6.b) y6.c) y6.d)), (67, uv y6.d), (66, pv 2 3), (65, pv 2 0), (64, pv 2 0), (63, uv (xo (xo y6.a y6.b) y6.c)), (62, uv y6.c), (61, pv 2 2), (60, pv 2 0), (59, pv 2 0), (58, uv (xo y6.a y6.b)), (57, uv y6.b), (56, pv 2 1), (55, pv 2 0), (54, pv 2 0), (53, uv y6.a), (52, pv 2 0), (51, pv 2 0), (50, pv 2 0)] (by kernel_rfl) (zc7 (z9 [(4, uv (xo (xo (xo y6.a y6.b) y6.c) y6.d))] (by kernel_rfl) (zbr (⟨trivial, ⟨reg [(4, uv (xo (xo (xo y6.a y6.b) y6.c) y6.d))], [zeo q (u8 L) false]⟩, Wk.ren [0] rfl rfl (by decide) ⟨rfl, trivial⟩ ⟨.inl (zfE (zfU _)), trivial⟩, [uv (xo (xo (xo y6.a y6.b) y6.c) y6.d)], (qB rfl rfl), (zS rfl z1), (congrArg (Value.int .u64) (ofS_eq (i := i) (by omega) hx hl2 rfl hy5 hy6)), rfl⟩))))))))
end Go.Rh

set_option maxHeartbeats 1000000
namespace Go.Rh
def zgb : IFunc := ⟨36, [.tmp 4], (.seq (.reg [kq 2 (.box (.t 0)), kq 4 (.mv (.c (.int .u64 0)))]) (.seq (.reg [km 9 1, kq 10 (.lenS (.t 9)), kq 11 (.bin .mul (ki 8) (.t 10)), kq 12 (.mks [(1, (.int .u8 0))] 1 1 (ki 0) (.t 11)), km 5 12]) (.seq (.seq (.reg [km 13 1, kq 14 (.lenS (.t 13)), kq 15 (.mv (ki 0))]) (.block 0 (.loop (.seq (.reg [kq 16 (.bin .lss (.t 15) (.t 14))]) (.seq (.cond (.t 16) .skip (.exit 0)) (.seq (.block 1 (.seq (.reg [kq 17 (.iadS 1 (.t 13) (.t 15)), kq 18 (.ld none (.t 17)), km 7 18]) (.seq (.reg [kq 19 (.mv (ki 0))]) (.block 2 (.loop (.seq (.reg [kq 20 (.bin .lss (.t 19) (ki 8))]) (.seq (.cond (.t 20) .skip (.exit 2)) (.seq (.block 3 (.seq (.reg [km 21 19, km 8 21]) (.reg [km 22 5, km 23 7, kq 24 (.cvi .u64 (.t 23)), km 25 8, kq 26 (.bin .mul (ki 8) (.t 25)), kq 27 (.bin .shr (.t 24) (.t 26)), kq 28 (.cvi .u8 (.t 27)), kq 29 (.bsl [(1, (.int .u8 0))] 1 1 [(0, 1, (.t 28))]), kq 30 (.app [(1, (.int .u8 0))] 1 1 (.t 22) (.t 29)), km 5 30]))) (.reg [kq 31 (.bin .add (.t 19) (ki 1)), km 19 31]))))))))) (.reg [kq 32 (.bin .add (.t 15) (ki 1)), km 15 32]))))))) (.seq (.reg [kq 33 (.ld (some 2) (.t 2)), km 34 5, kq 35 (.call "roundhouse/sip.Of" [(.t 33), (.t 34)]), km 4 35]) .ret))))⟩
abbrev zbo (P : Program) : Prop := zX P "roundhouse/sip.Words" = some zgb
def wB (n : Int) : Nat → List Int
 | 0 => []
 | j + 1 => wB n j ++ [(n % 18446744073709551616).fdiv (2 ^ (min (8 * (j : Int)).toNat 64))]
def wsT (ns : List Int) : Nat → List Int
 | 0 => []
 | i + 1 => wsT ns i ++ wB (ns.getD i 0) 8
def zdl (ka kb : Int) (ns : List Int) : Int := ofS ka kb (wsT ns ns.length)
theorem wordsC {P : Program} (hc : zbo P) (h_sip_Of : zcx P) (h_sip_number_byte : qU P) (h_sip_state_take : zaa P) (h_sip_state_rounds : qK P) (h_sip_state_round : qM P) (h_math_bits_RotateLeft64 : zV P) (ka kb : Int) (ns : List Int) (hl : ns.length ≤ 1000) :
    Env P "roundhouse/sip.Words" [.agg #[uv ka, uv kb], sv 0 0 ns.length ns.length] ([cr (ii ns)]) (fun v h' => v = uv (zdl ka kb ns) ∧ h' = [cr (ii ns)]) := by
 refine Env.by2 hc ?_
 unfold zgb
 show GC _ 1 _ _ ⟨reg [(0, .agg #[uv ka, uv kb]), (1, sv 0 0 ns.length ns.length)], [cr (ii ns)]⟩
 refine zT (z0 (o_b 2 [(4, uv 0), (2, pv 1 0)] [cr (ii ns), cw [uv ka, uv kb]] (by kernel_rfl) (zF (zC (zT (z0 (o_d 2 [(10, iv (ns.length : Nat)), (9, sv 0 0 ns.length ns.length)] (by kernel_rfl) (o_s (by refine qL (v := .int .i64 (i64.wrap (8 * (ns.length : Nat)))) (congrArg (Value.int .i64) (w64 (by omega) (by omega))) ?_; kernel_rfl) ?_))))))))
 refine o_s (by exact run_mks0 rfl rfl rfl (by omega) (by first | rfl | omega) (by decide)) ?_
 refine o_b 1 [(5, sv 2 0 0 (0 + (8 * ns.length)))] [cr (ii ns), cw [uv ka, uv kb], cw (u8 ([] : List Int) ++ zbs zB (8 * ns.length))] (by kernel_rfl) (zF (zC (zT (zT (z0 (o_d 3 [(15, iv 0), (14, iv (ns.length : Nat)), (13, sv 0 0 ns.length ns.length)] (by kernel_rfl) (zF (zC (zak (zdy (fun μ s => ∃ (i : Nat), ∃ (bs : List Int), ∃ (n : Nat), ∃ (o : Option Nat), μ = ns.length - i ∧ (i ≤ ns.length) ∧ (bs = wsT ns i) ∧ (bs.length = n ∧ n = 8 * i) ∧ (o = none → bs.length = 0) ∧ s = ⟨reg [(15, iv (i : Int)), (14, iv (ns.length : Nat)), (13, sv 0 0 ns.length ns.length), (5, slV 2 n o), (2, pv 1 0)], [cr (ii ns), cw [uv ka, uv kb], slB zB (u8 bs) o]⟩) ⟨(ns.length - 0), ?_⟩ ?_))))))))))
 ·skip
  refine ⟨⟨reg [(15, iv (0 : Int)), (14, iv (ns.length : Nat)), (13, sv 0 0 ns.length ns.length), (5, slV 2 0 (some (8 * ns.length))), (2, pv 1 0)], [cr (ii ns), cw [uv ka, uv kb], slB zB (u8 ([] : List Int)) (some (8 * ns.length))]⟩, ?_⟩
  refine ⟨?_, ?_⟩
  ·exact Wk.ren [0, 1, 2] rfl rfl (by decide) ⟨rfl, ⟨rfl, ⟨rfl, ⟨rfl, ⟨rfl, trivial⟩⟩⟩⟩⟩ ⟨.inl (zO (zbd ns)), ⟨.inl rfl, ⟨.inl (zO (zh1 _ _)), trivial⟩⟩⟩
  ·exact ⟨0, ([] : List Int), 0, (some (8 * ns.length)), rfl, (Nat.zero_le _), rfl, ⟨rfl, rfl⟩, (fun _ => rfl), rfl⟩
 rintro μ s ⟨i, bs, n, o, rfl, hi, hbs, hn, ho, rfl⟩
 refine zT (z0 (o_d 1 [(16, bv (decide ((i : Int) < (ns.length : Nat))))] (by kernel_rfl) (zF (zC (zT (zaJ (t := decide ((i : Int) < (ns.length : Nat))) rfl (fun h1 => ?_) (fun h1 => ?_)))))))
 ·skip
  have h1' : (i : Int) < (ns.length : Nat) := of_decide_eq_true h1
  obtain ⟨x, hx, hdr, ht⟩ := zd6 (l := ns) (i := i) (by omega)
  have hgx : ns.getD i 0 = x := by simp [List.getD_eq_getElem?_getD, hx]
  refine zaC (zC (zT (zak (zT (z0 (o_s (by exact zfB (o := 0) (o' := i) rfl rfl (by omega) (by omega)) ?_))))))
  refine o_s (by refine z6 (v := iv x) rfl rfl ?_; exact ii_r (i := i) (by omega) hx) ?_
  refine o_d 1 [(7, iv x)] (by kernel_rfl) (zF (zC (zT (z0 (o_d 1 [(19, iv 0)] (by kernel_rfl) (zF (zC (zak (zdy (fun μ s => ∃ (j : Nat), ∃ (bs2 : List Int), ∃ (n2 : Nat), ∃ (o2 : Option Nat), μ = 8 - j ∧ (j ≤ 8) ∧ (bs2 = bs ++ wB x j) ∧ (bs2.length = n2 ∧ n2 = n + j) ∧ (o2 = none → bs2.length = 0) ∧ s = ⟨reg [(19, iv (j : Int)), (7, iv x), (15, iv (i : Int)), (14, iv (ns.length : Nat)), (13, sv 0 0 ns.length ns.length), (5, slV 2 n2 o2), (2, pv 1 0)], [cr (ii ns), cw [uv ka, uv kb], slB zB (u8 bs2) o2]⟩) ⟨(8 - 0), ?_⟩ ?_)))))))))
  ·skip
   refine ⟨⟨reg [(19, iv (0 : Int)), (7, iv x), (15, iv (i : Int)), (14, iv (ns.length : Nat)), (13, sv 0 0 ns.length ns.length), (5, slV 2 n o), (2, pv 1 0)], [cr (ii ns), cw [uv ka, uv kb], slB zB (u8 bs) o]⟩, ?_⟩
   refine ⟨?_, ?_⟩
   ·exact Wk.ren [0, 1, 2] rfl rfl (by decide) ⟨rfl, ⟨rfl, ⟨rfl, ⟨rfl, ⟨rfl, ⟨((za9 o rfl)).trans rfl, ⟨rfl, trivial⟩⟩⟩⟩⟩⟩⟩ ⟨.inl (zO (zbd ns)), ⟨.inl rfl, ⟨.inl (zaz o (fun _ => (zh1 _ _))), trivial⟩⟩⟩
   ·exact ⟨0, bs, n, o, rfl, (by omega), (List.append_nil _).symm, ⟨hn.1, rfl⟩, ho, rfl⟩
  rintro μ s ⟨j, bs2, n2, o2, rfl, hj, hb2, hn2, ho2, rfl⟩
  refine zT (z0 (o_d 1 [(20, bv (decide ((j : Int) < 8)))] (by kernel_rfl) (zF (zC (zT (zaJ (t := decide ((j : Int) < 8)) rfl (fun h2 => ?_) (fun h2 => ?_)))))))
  ·skip
   have h2' : (j : Int) < 8 := of_decide_eq_true h2
   refine zaC (zC (zT (zak (zT (z0 (o_d 2 [(8, iv (j : Int)), (21, iv (j : Int))] (by kernel_rfl) (zF (zC (z0 (o_d 4 [(25, iv (j : Int)), (24, uv (x % 18446744073709551616)), (23, iv x), (22, slV 2 n2 o2)] (by kernel_rfl) (o_s (by refine qL (v := .int .i64 (i64.wrap (8 * (j : Int)))) (congrArg (Value.int .i64) (w64 (by omega) (by omega))) ?_; kernel_rfl) ?_)))))))))))
   refine o_b 3 [(29, sv 3 0 1 1), (28, .int .u8 (((x % 18446744073709551616).fdiv (2 ^ (min (8 * (j : Int)).toNat 64))) % 256)), (27, uv ((x % 18446744073709551616).fdiv (2 ^ (min (8 * (j : Int)).toNat 64))))] [cr (ii ns), cw [uv ka, uv kb], slB zB (u8 bs2) o2, cw [.int .u8 (((x % 18446744073709551616).fdiv (2 ^ (min (8 * (j : Int)).toNat 64))) % 256)]] (by kernel_rfl) (zhy (k := 2) (n := n2) (o := o2) (q := 1) (cs := u8 bs2) (xs := [.int .u8 (((x % 18446744073709551616).fdiv (2 ^ (min (8 * (j : Int)).toNat 64))) % 256)]) (cs2 := u8 (bs2 ++ [(x % 18446744073709551616).fdiv (2 ^ (min (8 * (j : Int)).toNat 64))])) (zl := zB) rfl rfl rfl (fun m q => by subst q; rfl) (fun z => by have h0 := ho2 z; have h1 := List.eq_nil_of_length_eq_zero h0; subst h1; exact ⟨by omega, rfl⟩) (by first | exact u8_len _ | (rw [u8_length]; omega) | simp [u8]) rfl rfl (zbF rfl rfl (by simp)) (by rfl) (by omega) (by omega) (u8_app1 rfl) (fun m3 e4 => ?_) (fun m3 => ?_))
   ·skip
    subst e4
    refine o_d 1 [(5, sv 2 0 (n2 + 1) (n2 + 1 + m3))] (by kernel_rfl) (zF (zC (z0 (o_s (by refine qL (v := .int .i64 (i64.wrap ((j : Int) + 1))) (congrArg (Value.int .i64) (w64 (by omega) (by omega))) ?_; kernel_rfl) ?_))))
    refine o_d 1 [(19, iv ((j : Int) + 1))] (by kernel_rfl) (zF (⟨8 - (j + 1), ?_⟩))
    refine ⟨⟨reg [(19, iv ((j + 1) : Int)), (7, iv x), (15, iv (i : Int)), (14, iv (ns.length : Nat)), (13, sv 0 0 ns.length ns.length), (5, slV 2 (n2 + 1) (some m3)), (2, pv 1 0)], [cr (ii ns), cw [uv ka, uv kb], slB zB (u8 (bs2 ++ [(x % 18446744073709551616).fdiv (2 ^ (min (8 * (j : Int)).toNat 64))])) (some m3)]⟩, ?_⟩
    refine zgr (by omega) ⟨?_, ?_⟩
    ·exact Wk.ren [0, 1, 2] rfl rfl (by decide) ⟨rfl, ⟨rfl, ⟨rfl, ⟨rfl, ⟨rfl, ⟨rfl, ⟨rfl, trivial⟩⟩⟩⟩⟩⟩⟩ ⟨.inl (zO (zbd ns)), ⟨.inl rfl, ⟨.inl (zO (zh1 _ _)), trivial⟩⟩⟩
    ·exact ⟨(j + 1), (bs2 ++ [(x % 18446744073709551616).fdiv (2 ^ (min (8 * (j : Int)).toNat 64))]), (n2 + 1), (some m3), rfl, by omega, (by rw [hb2, List.append_assoc]; rfl), (by simp only [List.length_append, List.length_singleton]; omega), (fun z => by cases z), rfl⟩
   refine o_d 1 [(5, sv 4 0 (n2 + 1) (n2 + 1 + m3))] (by kernel_rfl) (zF (zC (z0 (o_s (by refine qL (v := .int .i64 (i64.wrap ((j : Int) + 1))) (congrArg (Value.int .i64) (w64 (by omega) (by omega))) ?_; kernel_rfl) ?_))))
   refine o_d 1 [(19, iv ((j : Int) + 1))] (by kernel_rfl) (zF (⟨8 - (j + 1), ?_⟩))
   refine ⟨⟨reg [(19, iv ((j + 1) : Int)), (7, iv x), (15, iv (i : Int)), (14, iv (ns.length : Nat)), (13, sv 0 0 ns.length ns.length), (5, slV 2 (n2 + 1) (some m3)), (2, pv 1 0)], [cr (ii ns), cw [uv ka, uv kb], slB zB (u8 (bs2 ++ [(x % 18446744073709551616).fdiv (2 ^ (min (8 * (j : Int)).toNat 64))])) (some m3)]⟩, ?_⟩
   refine zgr (by omega) ⟨?_, ?_⟩
   ·exact Wk.ren [0, 1, 4] rfl rfl (by decide) ⟨rfl, ⟨rfl, ⟨rfl, ⟨rfl, ⟨rfl, ⟨rfl, ⟨rfl, trivial⟩⟩⟩⟩⟩⟩⟩ ⟨.inl (zO (zbd ns)), ⟨.inl rfl, ⟨.inl (zO (zh1 _ _)), trivial⟩⟩⟩
   ·exact ⟨(j + 1), (bs2 ++ [(x % 18446744073709551616).fdiv (2 ^ (min (8 * (j : Int)).toNat 64))]), (n2 + 1), (some m3), rfl, by omega, (by rw [hb2, List.append_assoc]; rfl), (by simp only [List.length_append, List.length_singleton]; omega), (fun z => by cases z), rfl⟩
  have h2' : ¬ ((j : Int) < 8) := of_decide_eq_false h2
  refine zcU (zC (z0 (o_s (by refine qL (v := .int .i64 (i64.wrap ((i : Int) + 1))) (congrArg (Value.int .i64) (w64 (by omega) (by omega))) ?_; kernel_rfl) ?_)))
  refine o_d 1 [(15, iv ((i : Int) + 1))] (by kernel_rfl) (zF (⟨ns.length - (i + 1), ?_⟩))
  refine ⟨⟨reg [(15, iv ((i + 1) : Int)), (14, iv (ns.length : Nat)), (13, sv 0 0 ns.length ns.length), (5, slV 2 n2 o2), (2, pv 1 0)], [cr (ii ns), cw [uv ka, uv kb], slB zB (u8 bs2) o2]⟩, ?_⟩
  refine zgr (by omega) ⟨?_, ?_⟩
  ·exact Wk.ren [0, 1, 2] rfl rfl (by decide) ⟨rfl, ⟨rfl, ⟨rfl, ⟨((za9 o2 rfl)).trans rfl, ⟨rfl, trivial⟩⟩⟩⟩⟩ ⟨.inl (zO (zbd ns)), ⟨.inl rfl, ⟨.inl (zaz o2 (fun _ => (zh1 _ _))), trivial⟩⟩⟩
  ·exact ⟨(i + 1), bs2, n2, o2, rfl, by omega, (by rw [hb2, show j = 8 by omega, hbs, ← hgx]; rfl), (by omega), ho2, rfl⟩
 have h1' : ¬ ((i : Int) < (ns.length : Nat)) := of_decide_eq_false h1
 refine zcU (zC (zT (z0 (o_d 2 [(34, slV 2 n o), (33, .agg #[uv ka, uv kb])] (by kernel_rfl) (zbO (callN [2] [zeo (qsl n o) (u8 (bs ++ List.replicate (o.getD 0) 0)) false] [.agg #[uv ka, uv kb], zeK (qsl n o) 0 bs.length] (ofC h_sip_Of h_sip_number_byte h_sip_state_take h_sip_state_rounds h_sip_state_round h_math_bits_RotateLeft64 ka kb (qsl n o) (bs ++ List.replicate (o.getD 0) 0) bs (row_qsl ho (by omega)) (by omega)) rfl (zan (qE rfl) (zan (renV_qsl o rfl (by omega)) rfl)) ⟨⟨_, rfl, sees_qsl o⟩, trivial⟩ (by decide) ?_))))))
 rintro v1 h1' ⟨rfl, rfl⟩
 refine ⟨ziu [_] [], uv (ofS ka kb bs), [cr (ii ns), cw [uv ka, uv kb], slB zB (u8 bs) o], [], rfl, ⟨rfl, ⟨rfl, ⟨(over_qsl rfl), trivial⟩⟩⟩, trivial, ?_⟩
 exact o_d 1 [(4, uv (ofS ka kb bs))] (by kernel_rfl) (zF (zC (zbr (⟨trivial, ⟨reg [(4, uv (ofS ka kb bs))], [cr (ii ns)]⟩, Wk.ren [0] rfl rfl (by decide) ⟨rfl, trivial⟩ ⟨.inl (zO (zbd ns)), trivial⟩, [uv (ofS ka kb bs)], (qB rfl rfl), (zS rfl z1), (congrArg (Value.int .u64) (congrArg (ofS ka kb) (by rw [hbs, show i = ns.length by omega]))), rfl⟩))))
end Go.Rh

namespace Go.Rh
def zI : List Value := [iv 0]
theorem zaQ (l : List Int) : (ii l).length = l.length := by simp [ii]
theorem ii_len1 (l : List Int) : (ii l).length = l.length * 1 := by simp [ii]
theorem room_zI (m : Nat) : zbs zI m = ii (List.replicate m 0) := by
 induction m with
 | zero => rfl
 | succ n ih => simp only [zbs, List.replicate_succ, List.flatten_cons] at ih ⊢; rw [ih]; rfl
theorem ii_app (a b : List Int) : ii a ++ ii b = ii (a ++ b) := by simp [ii]
theorem zca (l : List Int) (m : Nat) : (ii l ++ zbs zI m).all zbz = true := by rw [room_zI, ii_app]; exact zbd _
theorem ii_g {l : List Int} {i o : Nat} (ho : o = i) (h : i < l.length) : zam none (ii l) o = some (iv (l.getD i 0)) :=
 ii_r ho (by simp [List.getD_eq_getElem?_getD, h])
theorem ii_w {l : List Int} {i o : Nat} {v : Int} (ho : o = i) (h : i < l.length) : splice (ii l) o [iv v] = ii (l.set i v) := by
 subst ho
 refine zc9 (by rw [zgY (by rw [zaQ]; exact h), zaQ, zaQ, List.length_set]) fun k hk => ?_
 rw [zi8 (by rw [zaQ]; exact h)]
 simp only [ii, List.getElem?_map, List.length_singleton]
 rw [List.getElem?_set]
 by_cases hki : o = k
 ·subst hki; rw [if_pos ⟨Nat.le_refl _, by omega⟩, if_pos rfl, if_pos h]; simp
 ·rw [if_neg (by omega), if_neg hki]
theorem ii_all {l : List Int} {n : Nat} (h : l.length = n) : zam (some n) (ii l) 0 = some (.agg ⟨ii l⟩) := by
 subst h; simp [zam, zaQ, ← zaQ]
def eqI (a b : List Int) : Bool := decide (a = b)
theorem eqI_K : ∀ {n : Nat} {a b : List Int}, a.length = n → b.length = n → eqK (List.replicate n LK.i) (ii a) (ii b) = some (eqI a b)
 | 0, [], [], _, _ => rfl
 | n + 1, x :: a, y :: b, h1, h2 => by
  have ih := eqI_K (n := n) (a := a) (b := b) (by simpa using h1) (by simpa using h2)
  simp only [ii, List.replicate_succ, List.map_cons, eqK] at ih ⊢
  rw [ih]
  simp only [eq1K, eqI]
  by_cases hx : x = y <;> by_cases ha : a = b <;> simp [hx, ha]
 | 0, _ :: _, _, h, _ => by simp at h
 | 0, [], _ :: _, _, h => by simp at h
 | _ + 1, [], _, h, _ => by simp at h
 | _ + 1, _ :: _, [], _, h => by simp at h
theorem eqI_run {x y : Value} (a b : List Int) (ha : a.length = 127) (hb : b.length = 127) (hx : x = .agg ⟨ii a⟩) (hy : y = .agg ⟨ii b⟩) : x = .agg ⟨ii a⟩ ∧ y = .agg ⟨ii b⟩ ∧ eqK (zcO [(127, .i)]) (ii a) (ii b) = some (eqI a b) :=
 ⟨hx, hy, by rw [show zcO [(127, .i)] = List.replicate 127 LK.i by simp [zcO]]; exact eqI_K ha hb⟩
def zdt {α : Type} (f : α → List Value) (l : List α) : List Value := l.flatMap f
theorem zeL {α : Type} {f : α → List Value} {n : Nat} (hf : ∀ x, (f x).length = n) (l : List α) : (zdt f l).length = l.length * n := by
 induction l with
 | nil => simp [zdt]
 | cons x l ih => simp only [zdt, List.flatMap_cons, List.length_append, List.length_cons] at ih ⊢; rw [ih, hf, Nat.add_mul]; omega
theorem recL_app {α : Type} (f : α → List Value) (a b : List α) : zdt f a ++ zdt f b = zdt f (a ++ b) := by simp [zdt]
theorem recL_scl {α : Type} {f : α → List Value} (hf : ∀ x, (f x).all zbz = true) (l : List α) : (zdt f l).all zbz = true := by
 induction l with
 | nil => rfl
 | cons x l ih => simp only [zdt, List.flatMap_cons, List.all_append] at ih ⊢; rw [hf, ih]; rfl
theorem zii {α : Type} {f : α → List Value} {l : List α} {i : Nat} {x : α} (hx : l[i]? = some x) : zdt f l = zdt f (l.take i) ++ (f x ++ zdt f (l.drop (i + 1))) := by
 have h := zJ hx
 have : l = l.take i ++ x :: l.drop (i + 1) := by
  rw [List.getElem?_eq_getElem h] at hx; cases hx
  simp
 conv => lhs; rw [this]
 simp [zdt]
theorem rec_r {α : Type} {f : α → List Value} {n i j o : Nat} {m : Option Nat} {l : List α} {x : α} {v : Value} (hf : ∀ x, (f x).length = n) (ho : o = n * i + j) (hx : l[i]? = some x) (h : zam m (f x) j = some v) : zam m (zdt f l) o = some v := by
 have hl := zJ hx
 rw [zii hx, ho, zfa (by rw [zeL hf, List.length_take, Nat.min_eq_left (by omega), Nat.mul_comm])]
 exact zdw h
theorem rec_w {α : Type} {f : α → List Value} {n i j o : Nat} {l : List α} {x y : α} {vs : List Value} (hf : ∀ x, (f x).length = n) (ho : o = n * i + j) (hx : l[i]? = some x) (hj : j + vs.length ≤ n) (h : splice (f x) j vs = f y) : splice (zdt f l) o vs = zdt f (l.set i y) := by
 have hl := zJ hx
 have hy : (l.set i y)[i]? = some y := by simp [hl]
 rw [zii hx, zii hy, ho, zcf (by rw [zeL hf, List.length_take, Nat.min_eq_left (by omega), Nat.mul_comm]), zej (by rw [hf]; exact hj), h]
 rw [List.take_set_of_le (Nat.le_refl _), List.drop_set_of_lt (by omega)]
structure Wl where
  (s a b w : Int)
def wlF (x : Wl) : List Value := [iv x.s, iv x.a, iv x.b, iv x.w]
def zW : List Value := [iv 0, iv 0, iv 0, iv 0]
theorem zeI (x : Wl) : (wlF x).length = 4 := rfl
theorem zc3 (l : List Wl) (m : Nat) : (zdt wlF l ++ zbs zW m).all zbz = true := zeU (recL_scl (fun _ => rfl) l) (zgA rfl m)
theorem wl_app1 (l : List Wl) (s a b w : Int) : zdt wlF l ++ [iv s, iv a, iv b, iv w] = zdt wlF (l ++ [⟨s, a, b, w⟩]) := by rw [← recL_app]; rfl
def zb1 (m : Int) (ns : List Int) : Int := zdl 0 0 ns % m
theorem xo_rng (a b : Int) : 0 ≤ xo a b ∧ xo a b < 18446744073709551616 := by
 show 0 ≤ (_ : Int) % 18446744073709551616 ∧ (_ : Int) % 18446744073709551616 < 18446744073709551616
 omega
theorem words_rng (ka kb : Int) (ns : List Int) : 0 ≤ zdl ka kb ns ∧ zdl ka kb ns < 18446744073709551616 := xo_rng _ _
theorem spun_eq {m : Int} {ns : List Int} (h : 0 < m ∧ m ≤ 1000) : i64.wrap ((zdl 0 0 ns).tmod m) = zb1 m ns := by
 have h1 := words_rng 0 0 ns
 rw [zfY (by omega)]
 have h2 := Int.emod_nonneg (zdl 0 0 ns) (by omega : m ≠ 0)
 have h3 := Int.emod_lt_of_pos (zdl 0 0 ns) h.1
 exact w64 (by omega) (by omega)
theorem zhM {m : Int} {ns : List Int} (h : 0 < m) : 0 ≤ zb1 m ns ∧ zb1 m ns < m := ⟨Int.emod_nonneg _ (by omega), Int.emod_lt_of_pos _ h⟩
def wlOf (p : qO) (i : Nat) : Wl := ⟨i, zb1 127 [1, p (3 + 5 * i + 1), p (3 + 5 * i + 2)], 1 + zb1 126 [2, p (3 + 5 * i + 1), p (3 + 5 * i + 2)], (if (8 : Int) < (if (1 : Int) > p (3 + 5 * i + 3) then (1 : Int) else p (3 + 5 * i + 3)) then (8 : Int) else (if (1 : Int) > p (3 + 5 * i + 3) then (1 : Int) else p (3 + 5 * i + 3)))⟩
def wlks (p : qO) : Nat → List Wl
 | 0 => []
 | i + 1 => if p (3 + 5 * i) = 2 then wlks p i ++ [wlOf p i] else wlks p i
structure WlOk (x : Wl) : Prop where
  s : 0 ≤ x.s ∧ x.s < 64
  a : 0 ≤ x.a ∧ x.a < 127
  b : 1 ≤ x.b ∧ x.b ≤ 126
  w : 1 ≤ x.w ∧ x.w ≤ 8
theorem wlOf_ok (p : qO) {i : Nat} (h : i < 64) : WlOk (wlOf p i) := by
 have h1 := zhM (m := 127) (ns := [1, p (3 + 5 * i + 1), p (3 + 5 * i + 2)]) (by omega)
 have h2 := zhM (m := 126) (ns := [2, p (3 + 5 * i + 1), p (3 + 5 * i + 2)]) (by omega)
 refine ⟨by simp only [wlOf]; omega, h1, by simp only [wlOf]; omega, ?_⟩
 simp only [wlOf]
 (repeat' split) <;> omega
theorem wlks_ok (p : qO) : ∀ {n : Nat}, n ≤ 64 → ∀ x ∈ wlks p n, WlOk x
 | 0, _, _, hx => by simp [wlks] at hx
 | n + 1, h, x, hx => by
  simp only [wlks] at hx
  split at hx
  ·rcases List.mem_append.1 hx with q | q
   ·exact wlks_ok p (by omega) x q
   ·simp at q; subst q; exact wlOf_ok p (by omega)
  ·exact wlks_ok p (by omega) x hx
theorem wlks_len (p : qO) : ∀ n, (wlks p n).length ≤ n
 | 0 => by simp [wlks]
 | n + 1 => by
  have := wlks_len p n
  simp only [wlks]; split <;> simp <;> omega
def nobodyL : List Int := List.replicate 127 (-1)
def zeF (W : List Int) : Nat := W.count (-1)
def prb (W : List Int) (b : Int) : Nat → Int → Int
 | 0, a => a
 | n + 1, a => if W.getD a.toNat 0 = -1 then a else prb W b n ((a + b) % 127)
abbrev WS := List Int × List Wl
def ziQ (k : Nat) (S : WS) : WS := if zeF S.1 = 0 then S else match S.2[k]? with
 | none => S
 | some x => (S.1.set (prb S.1 x.b 127 x.a).toNat x.s, S.2.set k ⟨x.s, prb S.1 x.b 127 x.a, x.b, x.w⟩)
def itr {α : Type} (f : α → α) : Nat → α → α
 | 0, x => x
 | n + 1, x => f (itr f n x)
def wtOf (l0 : List Wl) (k : Nat) : Nat := match l0[k]? with
 | none => 0
 | some x => x.w.toNat
def ze6 (l0 : List Wl) (S : WS) : Nat → WS
 | 0 => S
 | k + 1 => itr (ziQ k) (wtOf l0 k) (ze6 l0 S k)
def zbY (l0 : List Wl) (r : Nat) : WS := itr (fun S => ze6 l0 S l0.length) r (nobodyL, l0)
def zaw (p : qO) : List Int := (zbY (wlks p 64) 127).1
theorem turn_full {k : Nat} {S : WS} (h : zeF S.1 = 0) : ziQ k S = S := by simp [ziQ, h]
theorem zgH {α : Type} {f : α → α} {x : α} (h : f x = x) : ∀ n, itr f n x = x
 | 0 => rfl
 | n + 1 => by simp only [itr]; rw [zgH h n, h]
theorem itr_add {α : Type} (f : α → α) (x : α) (m : Nat) : ∀ n, itr f (n + m) x = itr f n (itr f m x)
 | 0 => by simp [itr]
 | n + 1 => by rw [show n + 1 + m = n + m + 1 by omega]; simp only [itr]; rw [itr_add f x m n]
theorem zg3 {l0 : List Wl} {S0 S : WS} {k : Nat} (h : zeF S.1 = 0) (hk : ze6 l0 S0 k = S) : ∀ n, ze6 l0 S0 (k + n) = S
 | 0 => hk
 | n + 1 => by rw [show k + (n + 1) = (k + n) + 1 by omega]; simp only [ze6]; rw [zg3 h hk n]; exact zgH (turn_full h) _
theorem zif {l0 : List Wl} {r : Nat} {S : WS} (h : zeF S.1 = 0) (hr : zbY l0 r = S) {n : Nat} (hn : r ≤ n) : zbY l0 n = S := by
 obtain ⟨m, rfl⟩ : ∃ m, n = m + r := ⟨n - r, by omega⟩
 unfold zbY at hr ⊢
 rw [itr_add, hr]
 refine zgH ?_ m
 have := zg3 (l0 := l0) (S0 := S) (k := 0) h rfl l0.length
 simpa using this
theorem point_full {l0 : List Wl} {r k t : Nat} {S : WS} (hS : S = itr (ziQ k) t (ze6 l0 (zbY l0 r) k)) (hk : k < l0.length) (ht : t ≤ wtOf l0 k) (h : zeF S.1 = 0) : zbY l0 (r + 1) = S := by
 have h1 : ze6 l0 (zbY l0 r) (k + 1) = S := by
  show itr (ziQ k) (wtOf l0 k) (ze6 l0 (zbY l0 r) k) = S
  obtain ⟨m, hm⟩ : ∃ m, wtOf l0 k = m + t := ⟨wtOf l0 k - t, by omega⟩
  rw [hm, itr_add, ← hS]; exact zgH (turn_full h) m
 have h2 := zg3 h h1 (l0.length - (k + 1))
 rw [show k + 1 + (l0.length - (k + 1)) = l0.length by omega] at h2
 exact h2
theorem inv127 : ∀ b : Fin 127, b.val ≠ 0 → ∃ c : Fin 127, (b.val * c.val) % 127 = 1 := by decide
theorem free_at {W : List Int} (h : zeF W ≠ 0) : ∃ i, i < W.length ∧ W.getD i 0 = -1 := by
 have h1 : 0 < W.count (-1) := Nat.pos_of_ne_zero h
 have h2 : (-1 : Int) ∈ W := List.count_pos_iff.1 h1
 obtain ⟨i, hi, e⟩ := List.getElem_of_mem h2
 exact ⟨i, hi, by simp [List.getD_eq_getElem?_getD, hi, e]⟩
theorem reach {a b : Int} (ha : 0 ≤ a ∧ a < 127) (hb : 1 ≤ b ∧ b ≤ 126) (t : Nat) (ht : t < 127) : ∃ n : Nat, n < 127 ∧ (a + n * b) % 127 = t := by
 obtain ⟨c, hc⟩ := inv127 ⟨b.toNat, by omega⟩ (by simp; omega)
 simp only at hc
 refine ⟨((((t : Int) - a) * c.val) % 127).toNat, by omega, ?_⟩
 have hb' : ((b.toNat : Nat) : Int) = b := by omega
 have hc' : (b * (c.val : Int)) % 127 = 1 := by rw [← hb']; exact_mod_cast hc
 rw [Int.toNat_of_nonneg (by omega)]
 have e1 : (((t : Int) - a) * c.val % 127 * b) % 127 = ((t : Int) - a) % 127 := by
  rw [Int.mul_emod, Int.emod_emod, ← Int.mul_emod, Int.mul_assoc, Int.mul_comm (c.val : Int) b, Int.mul_emod, hc', Int.mul_one, Int.emod_emod]
 omega
theorem least {P : Nat → Prop} [DecidablePred P] {n : Nat} (h : P n) : ∃ m, m ≤ n ∧ P m ∧ ∀ k, k < m → ¬ P k := by
 induction n using Nat.strongRecOn with
 | _ n ih =>
  by_cases hq : ∃ k, k < n ∧ P k
  ·obtain ⟨k, hk, hp⟩ := hq
   obtain ⟨m, h1, h2, h3⟩ := ih k hk hp
   exact ⟨m, by omega, h2, h3⟩
  ·exact ⟨n, Nat.le_refl _, h, fun k hk hp => hq ⟨k, hk, hp⟩⟩
def zc0 (a b : Int) (m : Nat) : Int := (a + m * b) % 127
theorem walk_0 {a b : Int} (ha : 0 ≤ a ∧ a < 127) : zc0 a b 0 = a := by unfold zc0; omega
theorem walk_1 (a b : Int) (m : Nat) : (zc0 a b m + b) % 127 = zc0 a b (m + 1) := by
 unfold zc0; rw [show ((m + 1 : Nat) : Int) * b = m * b + b by push_cast; rw [Int.add_mul, Int.one_mul]]; omega
theorem walk_rng (a b : Int) (m : Nat) : 0 ≤ zc0 a b m ∧ zc0 a b m < 127 := by unfold zc0; omega
theorem prb_walk {W : List Int} {a b : Int} {n : Nat} (hW : W.getD (zc0 a b n).toNat 0 = -1) : ∀ (d m f : Nat), m + d = n → d < f → (∀ k, m ≤ k → k < n → W.getD (zc0 a b k).toNat 0 ≠ -1) → prb W b f (zc0 a b m) = zc0 a b n
 | 0, m, f + 1, e, _, _ => by
  have : m = n := by omega
  subst this; simp only [prb]; rw [if_pos hW]
 | d + 1, m, f + 1, e, hf, hk => by
  simp only [prb]
  rw [if_neg (hk m (Nat.le_refl _) (by omega)), walk_1]
  exact prb_walk hW d (m + 1) f (by omega) (by omega) fun k h1 h2 => hk k (by omega) h2
 | _, _, 0, _, h, _ => by omega
theorem found {W : List Int} {a b : Int} (hW : W.length = 127) (hf : zeF W ≠ 0) (ha : 0 ≤ a ∧ a < 127) (hb : 1 ≤ b ∧ b ≤ 126) : ∃ n, n < 127 ∧ W.getD (zc0 a b n).toNat 0 = -1 ∧ (∀ k, k < n → W.getD (zc0 a b k).toNat 0 ≠ -1) ∧ prb W b 127 a = zc0 a b n := by
 obtain ⟨i, hi, hg⟩ := free_at hf
 obtain ⟨n, hn, he⟩ := reach ha hb i (by omega)
 have h0 : W.getD (zc0 a b n).toNat 0 = -1 := by unfold zc0; rw [he]; simpa using hg
 obtain ⟨m, h1, h2, h3⟩ := least (P := fun n => W.getD (zc0 a b n).toNat 0 = -1) h0
 refine ⟨m, by omega, h2, h3, ?_⟩
 have := prb_walk h2 m 0 127 (by omega) (by omega) fun k _ hk => h3 k hk
 rwa [walk_0 ha] at this
theorem free_set {W : List Int} {i : Nat} {s : Int} (hi : i < W.length) (h : W.getD i 0 = -1) (hs : s ≠ -1) : zeF (W.set i s) + 1 = zeF W := by
 have e : W[i] = -1 := by simpa [List.getD_eq_getElem?_getD, hi] using h
 unfold zeF
 rw [List.count_set hi]
 have : 0 < W.count (-1) := List.count_pos_iff.2 (e ▸ List.getElem_mem hi)
 simp [e, hs]; omega
theorem set_neq {W : List Int} {i : Nat} {s : Int} (hi : i < W.length) (h : W.getD i 0 = -1) (hs : s ≠ -1) : eqI (W.set i s) W = false := by
 refine decide_eq_false fun q => ?_
 have := congrArg (fun l => List.getD l i 0) q
 simp only [h] at this
 simp [List.getD_eq_getElem?_getD, hi] at this
 exact hs this
structure WOk (l0 : List Wl) (W : List Int) (l : List Wl) : Prop where
  len : l.length = l0.length
  wl : W.length = 127
  same : ∀ (k : Nat) (x : Wl), l[k]? = some x → ∃ y, l0[k]? = some y ∧ x.s = y.s ∧ x.b = y.b ∧ x.w = y.w ∧ 0 ≤ x.a ∧ x.a < 127
  good : ∀ y ∈ l0, WlOk y
theorem WOk.init {l0 : List Wl} (h : ∀ y ∈ l0, WlOk y) : WOk l0 nobodyL l0 :=
 ⟨rfl, rfl, fun k x hx => ⟨x, hx, rfl, rfl, rfl, (h x (List.mem_of_getElem? hx)).a⟩, h⟩
theorem WOk.at_ {l0 l : List Wl} {W : List Int} (h : WOk l0 W l) {k : Nat} {x : Wl} (hx : l[k]? = some x) : WlOk x ∧ wtOf l0 k = x.w.toNat := by
 obtain ⟨y, h1, h2, h3, h4, h5⟩ := h.same k x hx
 have hy := h.good y (List.mem_of_getElem? h1)
 refine ⟨⟨h2 ▸ hy.s, h5, h3 ▸ hy.b, h4 ▸ hy.w⟩, ?_⟩
 simp [wtOf, h1, h4]
theorem WOk.set {l0 l : List Wl} {W : List Int} (h : WOk l0 W l) {k : Nat} {x : Wl} (hx : l[k]? = some x) {a : Int} (ha : 0 ≤ a ∧ a < 127) : WOk l0 W (l.set k ⟨x.s, a, x.b, x.w⟩) := by
 refine ⟨by rw [List.length_set]; exact h.len, h.wl, fun j z hz => ?_, h.good⟩
 have hl := zJ hx
 rw [List.getElem?_set] at hz
 by_cases hj : k = j
 ·subst hj
  rw [if_pos rfl, if_pos hl] at hz; cases hz
  obtain ⟨y, h1, h2, h3, h4, _⟩ := h.same k x hx
  exact ⟨y, h1, h2, h3, h4, ha⟩
 ·rw [if_neg hj] at hz; exact h.same j z hz
theorem WOk.put {l0 l : List Wl} {W : List Int} (h : WOk l0 W l) (i : Nat) (s : Int) : WOk l0 (W.set i s) l :=
 ⟨h.len, by rw [List.length_set]; exact h.wl, h.same, h.good⟩
theorem turn_eq {W : List Int} {l : List Wl} {k n : Nat} {x : Wl} (hf : zeF W ≠ 0) (hx : l[k]? = some x) (hp : prb W x.b 127 x.a = zc0 x.a x.b n) : ziQ k (W, l) = (W.set (zc0 x.a x.b n).toNat x.s, l.set k ⟨x.s, zc0 x.a x.b n, x.b, x.w⟩) := by
 simp [ziQ, hf, hx, hp]
theorem run_stSl {d : Option Nat} {n n2 : Nat} {x y : Opd} {L : List (Nat × Value)} {hp : List Blk} {k o : Nat} {c c' z : List Value} {q : Option Nat} (hx : evf (reg L) x = .pointer (some ⟨k, o, none⟩)) (hk : hp[k]? = some (slB z c q)) (hq : q = none → n2 = 0) (hn2 : 0 < n2) (ht : zbG (evf (reg L) y) = false) (hl : (zcN (evf (reg L) y)).length = n) (ho : o + n ≤ c.length) (hc : splice c o (zcN (evf (reg L) y)) = c') : zdi [⟨d, .st n x y, none⟩] ⟨reg L, hp⟩ = some ⟨zas (reg L) d undef, hp.set k (slB z c' q)⟩ := by
 cases q with
 | none => have := hq rfl; omega
 | some m =>
  refine qY (c := c ++ zbs z m) (c' := c' ++ zbs z m) hx (zav.2 ⟨hk, by simp [slB]⟩) ht hl (by simp; omega) ?_
  rw [zej (by omega), hc]
theorem rounds_nil (n : Nat) : zbY [] n = (nobodyL, []) := by
 unfold zbY; exact zgH rfl n
theorem fin_a {l0 l : List Wl} {W : List Int} {r : Nat} {f : Int} (hS : (W, l) = zbY l0 r) (hf : f = if l0.length = 0 then 0 else ((zeF W : Nat) : Int)) (hr : f + r ≤ 127) (h0 : ¬ f > 0) : W = (zbY l0 127).1 := by
 by_cases h : l0.length = 0
 ·have : l0 = [] := List.eq_nil_of_length_eq_zero h
  subst this
  rw [rounds_nil] at hS ⊢; exact congrArg Prod.fst hS
 ·rw [if_neg h] at hf
  rw [zif (S := (W, l)) (by show zeF W = 0; omega) hS.symm (by omega)]
theorem fin_b {l0 l : List Wl} {W : List Int} {r k t : Nat} {f : Int} (hS : (W, l) = itr (ziQ k) t (ze6 l0 (zbY l0 r) k)) (hk : k < l0.length) (ht : t ≤ wtOf l0 k) (hf : f = ((zeF W : Nat) : Int)) (h0 : f = 0) (hr : r + 1 ≤ 127) : W = (zbY l0 127).1 := by
 rw [zif (S := (W, l)) (by show zeF W = 0; omega) (point_full hS hk ht (by show zeF W = 0; omega)) hr]
theorem set_id {l : List Wl} {k : Nat} {x : Wl} (hx : l[k]? = some x) (ha : 0 ≤ x.a ∧ x.a < 127) : l = l.set k ⟨x.s, zc0 x.a x.b 0, x.b, x.w⟩ := by
 rw [walk_0 ha]
 have h := zJ hx
 rw [List.getElem?_eq_getElem h] at hx; cases hx
 exact (List.set_getElem_self h).symm
theorem nob_next {i : Nat} {W : List Int} (h : W = List.replicate i (-1) ++ List.replicate (127 - i) 0) (hi : i < 127) : W.set i (-1) = List.replicate (i + 1) (-1) ++ List.replicate (127 - (i + 1)) 0 := by
 subst h
 rw [List.set_append_right _ _ (by simp)]
 simp only [List.length_replicate, Nat.sub_self]
 rw [show 127 - i = (127 - (i + 1)) + 1 by omega, List.replicate_succ, List.set_cons_zero, List.replicate_succ', List.append_assoc]; rfl
end Go.Rh

set_option maxHeartbeats 8000000
namespace Go.Rh
def zem : IFunc := ⟨11, [.tmp 4], (.seq (.reg [kq 4 (.mv (ki 0))]) (.seq (.reg [kq 5 (.bld [(2, (.int .u64 0))] []), km 6 1, kq 7 (.call "roundhouse/sip.Words" [(.t 5), (.t 6)]), km 8 0, kq 9 (.bin .rem (.t 7) (.t 8)), kq 10 (.cvi .i64 (.t 9)), km 4 10]) .ret))⟩
abbrev zbj (P : Program) : Prop := zX P "roundhouse/wheel.spun" = some zem
def zfh : IFunc := ⟨113, [.tmp 2], (.seq (.reg [kq 1 (.box (.t 0)), kq 2 (.mv (.c (.slice none 0 0)))]) (.scp 0 (.seq .skip (.seq (.block 4 (.loop (.seq (.seq (.reg [km 52 8, kq 53 (.bin .gtr (.t 52) (ki 0))]) (.cond (.t 53) .skip (.exit 4))) (.block 5 (.seq (.reg [km 54 5, kq 55 (.lenS (.t 54)), kq 56 (.mv (ki 0))]) (.block 6 (.loop (.seq (.reg [kq 57 (.bin .lss (.t 56) (.t 55))]) (.seq (.cond (.t 57) .skip (.exit 6)) (.seq (.block 7 (.seq (.reg [km 58 56, km 9 58]) (.seq (.reg [km 59 5, km 60 9, kq 61 (.iadS 4 (.t 59) (.t 60)), kq 62 (.fad 3 (.t 61)), kq 63 (.ld none (.t 62)), kq 64 (.mv (ki 0))]) (.block 8 (.loop (.seq (.reg [kq 65 (.bin .lss (.t 64) (.t 63))]) (.seq (.cond (.t 65) .skip (.exit 8)) (.seq (.block 9 (.seq (.seq (.reg [km 66 8, kq 67 (.bin .eql (.t 66) (ki 0))]) (.cond (.t 67) (.exit 4) .skip)) (.seq (.reg [kq 68 (.ld (some 127) (.t 3)), kq 10 (.new [(127, (.int .i64 0))]), ku (.st 127 (.t 10) (.t 68))]) (.seq (.block 10 (.loop (.seq (.seq (.reg [km 69 5, km 70 9, kq 71 (.iadS 4 (.t 69) (.t 70)), kq 72 (.fad 1 (.t 71)), kq 73 (.ld none (.t 72)), kq 74 (.iadA 127 1 (.t 3) (.t 73)), kq 75 (.ld none (.t 74)), kq 76 (.bin .neq (.t 75) (ki (-1)))]) (.cond (.t 76) .skip (.exit 10))) (.block 11 (.dreg [km 77 5, km 78 9, km 79 5, km 80 9, kq 81 (.iadS 4 (.t 79) (.t 80)), kq 82 (.fad 1 (.t 81)), kq 83 (.ld none (.t 82)), km 84 5, km 85 9, kq 86 (.iadS 4 (.t 84) (.t 85)), kq 87 (.fad 2 (.t 86)), kq 88 (.ld none (.t 87)), kq 89 (.bin .add (.t 83) (.t 88)), kq 90 (.bin .rem (.t 89) (ki 127)), kq 91 (.iadS 4 (.t 77) (.t 78)), kq 92 (.fad 1 (.t 91)), ku (.st 1 (.t 92) (.t 90))] [[], [], [], [], [2, 3], [4, 2, 3], [5, 4, 2, 3], [], [], [7, 8], [9, 7, 8], [10, 9, 7, 8], [6, 5, 4, 2, 3, 11, 10, 9, 7, 8], [12, 6, 5, 4, 2, 3, 11, 10, 9, 7, 8], [0, 1, 2, 3, 4, 5, 6, 7, 8, 9, 10, 11, 12, 13], [14, 0, 1, 2, 3, 4, 5, 6, 7, 8, 9, 10, 11, 12, 13], [15, 14, 0, 1, 2, 3, 4, 5, 6, 7, 8, 9, 10, 11, 12, 13]]))))) (.seq (.dreg [km 93 5, km 94 9, kq 95 (.iadS 4 (.t 93) (.t 94)), kq 96 (.fad 1 (.t 95)), kq 97 (.ld none (.t 96)), km 98 5, km 99 9, kq 100 (.iadS 4 (.t 98) (.t 99)), kq 101 (.fad 0 (.t 100)), kq 102 (.ld none (.t 101)), kq 103 (.iadA 127 1 (.t 3) (.t 97)), ku (.st 1 (.t 103) (.t 102))] [[], [], [0, 1], [2, 0, 1], [3, 2, 0, 1], [], [], [5, 6], [7, 5, 6], [8, 7, 5, 6], [4, 3, 2, 0, 1, 5, 6, 7, 8, 9], [10, 4, 3, 2, 0, 1, 5, 6, 7, 8, 9]]) (.seq (.reg [kq 104 (.ld (some 127) (.t 3)), kq 105 (.ld (some 127) (.t 10)), kq 106 (.eqa true [(127, .i)] (.t 104) (.t 105))]) (.cond (.t 106) (.reg [km 107 8, kq 108 (.bin .sub (.t 107) (ki 1)), km 8 108]) .skip))))))) (.reg [kq 109 (.bin .add (.t 64) (ki 1)), km 64 109]))))))))) (.reg [kq 110 (.bin .add (.t 56) (ki 1)), km 56 110]))))))))))) (.seq (.reg [kq 111 (.slcA 127 1 (.t 3) none none none), kq 112 (.app [(1, (.int .i64 0))] 1 8 (.c (.slice none 0 0)) (.t 111)), km 2 112]) .ret))) (.seq (.reg [kq 3 (.new [(127, (.int .i64 0))])]) (.seq (.seq (.reg [kq 11 (.mv (ki 0))]) (.block 0 (.loop (.seq (.reg [kq 12 (.bin .lss (.t 11) (ki 127))]) (.seq (.cond (.t 12) .skip (.exit 0)) (.seq (.block 1 (.seq (.reg [km 13 11, km 4 13]) (.reg [km 14 4, kq 15 (.iadA 127 1 (.t 3) (.t 14)), ku (.st 1 (.t 15) (ki (-1)))]))) (.reg [kq 16 (.bin .add (.t 11) (ki 1)), km 11 16]))))))) (.seq (.reg [kq 5 (.mv (.c (.slice none 0 0)))]) (.seq (.seq (.reg [kq 17 (.fad 3 (.t 1)), kq 18 (.ld (some 320) (.t 17)), kq 19 (.mv (ki 0))]) (.block 2 (.loop (.seq (.reg [kq 20 (.bin .lss (.t 19) (ki 64))]) (.seq (.cond (.t 20) .skip (.exit 2)) (.seq (.block 3 (.seq (.reg [km 21 19, kq 22 (.ixA 64 5 (some 5) (.t 18) (.t 19)), kq 7 (.new [(5, (.int .i64 0))]), km 6 21, ku (.st 5 (.t 7) (.t 22))]) (.seq (.reg [kq 23 (.fad 0 (.t 7)), kq 24 (.ld none (.t 23)), kq 25 (.bin .eql (.t 24) (ki 2))]) (.cond (.t 25) (.dreg [km 26 5, km 27 6, kq 28 (.fad 1 (.t 7)), kq 29 (.ld none (.t 28)), kq 30 (.fad 2 (.t 7)), kq 31 (.ld none (.t 30)), kq 32 (.bsl [(1, (.int .i64 0))] 1 3 [(0, 1, (ki 1)), (1, 1, (.t 29)), (2, 1, (.t 31))]), kq 33 (.call "roundhouse/wheel.spun" [(.c (.int .u64 127)), (.t 32)]), kq 34 (.fad 1 (.t 7)), kq 35 (.ld none (.t 34)), kq 36 (.fad 2 (.t 7)), kq 37 (.ld none (.t 36)), kq 38 (.bsl [(1, (.int .i64 0))] 1 3 [(0, 1, (ki 2)), (1, 1, (.t 35)), (2, 1, (.t 37))]), kq 39 (.call "roundhouse/wheel.spun" [(.c (.int .u64 126)), (.t 38)]), kq 40 (.bin .add (ki 1) (.t 39)), kq 41 (.fad 3 (.t 7)), kq 42 (.ld none (.t 41)), kq 43 (.mm true (.t 42) (ki 1)), kq 44 (.mm false (.t 43) (ki 8)), kq 45 (.bld [(4, (.int .i64 0))] [(0, 1, (.t 27)), (1, 1, (.t 33)), (2, 1, (.t 40)), (3, 1, (.t 44))]), kq 46 (.bsl [(4, (.int .i64 0))] 4 1 [(0, 4, (.t 45))]), kq 47 (.app [(4, (.int .i64 0))] 4 32 (.t 26) (.t 46)), km 5 47] [[], [], [], [2], [], [4], [3, 2, 5, 4], [6, 3, 2, 5, 4], [], [8], [], [10], [9, 8, 11, 10], [12, 9, 8, 11, 10, 7, 6, 3, 2, 5, 4], [13, 12, 9, 8, 11, 10, 7, 6, 3, 2, 5, 4], [], [15], [16, 15], [17, 16, 15], [1, 7, 6, 3, 2, 5, 4, 14, 13, 12, 9, 8, 11, 10, 18, 17, 16, 15], [19, 1, 7, 6, 3, 2, 5, 4, 14, 13, 12, 9, 8, 11, 10, 18, 17, 16, 15], [0, 20, 19, 1, 7, 6, 3, 2, 5, 4, 14, 13, 12, 9, 8, 11, 10, 18, 17, 16, 15], [21, 0, 20, 19, 1, 7, 6, 3, 2, 5, 4, 14, 13, 12, 9, 8, 11, 10, 18, 17, 16, 15]]) .skip)))) (.reg [kq 48 (.bin .add (.t 19) (ki 1)), km 19 48]))))))) (.seq (.reg [kq 8 (.mv (ki 127))]) (.seq (.seq (.reg [km 49 5, kq 50 (.lenS (.t 49)), kq 51 (.bin .eql (.t 50) (ki 0))]) (.cond (.t 51) (.reg [kq 8 (.mv (ki 0))]) .skip)) (.seq (.label 0) (.seq (.block 4 (.loop (.seq (.seq (.reg [km 52 8, kq 53 (.bin .gtr (.t 52) (ki 0))]) (.cond (.t 53) .skip (.exit 4))) (.block 5 (.seq (.reg [km 54 5, kq 55 (.lenS (.t 54)), kq 56 (.mv (ki 0))]) (.block 6 (.loop (.seq (.reg [kq 57 (.bin .lss (.t 56) (.t 55))]) (.seq (.cond (.t 57) .skip (.exit 6)) (.seq (.block 7 (.seq (.reg [km 58 56, km 9 58]) (.seq (.reg [km 59 5, km 60 9, kq 61 (.iadS 4 (.t 59) (.t 60)), kq 62 (.fad 3 (.t 61)), kq 63 (.ld none (.t 62)), kq 64 (.mv (ki 0))]) (.block 8 (.loop (.seq (.reg [kq 65 (.bin .lss (.t 64) (.t 63))]) (.seq (.cond (.t 65) .skip (.exit 8)) (.seq (.block 9 (.seq (.seq (.reg [km 66 8, kq 67 (.bin .eql (.t 66) (ki 0))]) (.cond (.t 67) (.exit 4) .skip)) (.seq (.reg [kq 68 (.ld (some 127) (.t 3)), kq 10 (.new [(127, (.int .i64 0))]), ku (.st 127 (.t 10) (.t 68))]) (.seq (.block 10 (.loop (.seq (.seq (.reg [km 69 5, km 70 9, kq 71 (.iadS 4 (.t 69) (.t 70)), kq 72 (.fad 1 (.t 71)), kq 73 (.ld none (.t 72)), kq 74 (.iadA 127 1 (.t 3) (.t 73)), kq 75 (.ld none (.t 74)), kq 76 (.bin .neq (.t 75) (ki (-1)))]) (.cond (.t 76) .skip (.exit 10))) (.block 11 (.dreg [km 77 5, km 78 9, km 79 5, km 80 9, kq 81 (.iadS 4 (.t 79) (.t 80)), kq 82 (.fad 1 (.t 81)), kq 83 (.ld none (.t 82)), km 84 5, km 85 9, kq 86 (.iadS 4 (.t 84) (.t 85)), kq 87 (.fad 2 (.t 86)), kq 88 (.ld none (.t 87)), kq 89 (.bin .add (.t 83) (.t 88)), kq 90 (.bin .rem (.t 89) (ki 127)), kq 91 (.iadS 4 (.t 77) (.t 78)), kq 92 (.fad 1 (.t 91)), ku (.st 1 (.t 92) (.t 90))] [[], [], [], [], [2, 3], [4, 2, 3], [5, 4, 2, 3], [], [], [7, 8], [9, 7, 8], [10, 9, 7, 8], [6, 5, 4, 2, 3, 11, 10, 9, 7, 8], [12, 6, 5, 4, 2, 3, 11, 10, 9, 7, 8], [0, 1, 2, 3, 4, 5, 6, 7, 8, 9, 10, 11, 12, 13], [14, 0, 1, 2, 3, 4, 5, 6, 7, 8, 9, 10, 11, 12, 13], [15, 14, 0, 1, 2, 3, 4, 5, 6, 7, 8, 9, 10, 11, 12, 13]]))))) (.seq (.dreg [km 93 5, km 94 9, kq 95 (.iadS 4 (.t 93) (.t 94)), kq 96 (.fad 1 (.t 95)), kq 97 (.ld none (.t 96)), km 98 5, km 99 9, kq 100 (.iadS 4 (.t 98) (.t 99)), kq 101 (.fad 0 (.t 100)), kq 102 (.ld none (.t 101)), kq 103 (.iadA 127 1 (.t 3) (.t 97)), ku (.st 1 (.t 103) (.t 102))] [[], [], [0, 1], [2, 0, 1], [3, 2, 0, 1], [], [], [5, 6], [7, 5, 6], [8, 7, 5, 6], [4, 3, 2, 0, 1, 5, 6, 7, 8, 9], [10, 4, 3, 2, 0, 1, 5, 6, 7, 8, 9]]) (.seq (.reg [kq 104 (.ld (some 127) (.t 3)), kq 105 (.ld (some 127) (.t 10)), kq 106 (.eqa true [(127, .i)] (.t 104) (.t 105))]) (.cond (.t 106) (.reg [km 107 8, kq 108 (.bin .sub (.t 107) (ki 1)), km 8 108]) .skip))))))) (.reg [kq 109 (.bin .add (.t 64) (ki 1)), km 64 109]))))))))) (.reg [kq 110 (.bin .add (.t 56) (ki 1)), km 56 110]))))))))))) (.seq (.reg [kq 111 (.slcA 127 1 (.t 3) none none none), kq 112 (.app [(1, (.int .i64 0))] 1 8 (.c (.slice none 0 0)) (.t 111)), km 2 112]) .ret)))))))))))⟩
abbrev zbH (P : Program) : Prop := zX P "roundhouse/wheel.Make" = some zfh
theorem spun127C {P : Program} (hc : zbj P) (h_sip_Words : zbo P) (h_sip_Of : zcx P) (h_sip_number_byte : qU P) (h_sip_state_take : zaa P) (h_sip_state_rounds : qK P) (h_sip_state_round : qM P) (h_math_bits_RotateLeft64 : zV P) (ns : List Int) (hl : ns.length ≤ 1000) :
    Env P "roundhouse/wheel.spun" [uv 127, sv 0 0 ns.length ns.length] ([cr (ii ns)]) (Ans (iv (zb1 127 ns)) [cr (ii ns)]) := by
 refine Env.by2 hc ?_
 unfold zem
 show GC _ 1 _ _ ⟨reg [(0, uv 127), (1, sv 0 0 ns.length ns.length)], [cr (ii ns)]⟩
 refine zT (z0 (o_d 1 [(4, iv 0)] (by kernel_rfl) (zF (zC (zT (z0 (o_d 2 [(6, sv 0 0 ns.length ns.length), (5, .agg #[uv 0, uv 0])] (by kernel_rfl) (zbO (callS (a1 := [.agg #[uv 0, uv 0], sv 0 0 ns.length ns.length]) [0] [ii ns] (wordsC h_sip_Words h_sip_Of h_sip_number_byte h_sip_state_take h_sip_state_rounds h_sip_state_round h_math_bits_RotateLeft64 0 0 ns (by first | omega | decide | (simp; done))) rfl (fun _ => zan (qE rfl) (zan rfl rfl)) ⟨⟨_, rfl⟩, zbd _, trivial⟩ rfl ?_)))))))))
 exact o_d 4 [(4, iv (i64.wrap ((zdl 0 0 ns).tmod 127))), (10, iv (i64.wrap ((zdl 0 0 ns).tmod 127))), (9, uv ((zdl 0 0 ns).tmod 127)), (8, uv 127)] (by kernel_rfl) (zF (zC (zbr (⟨trivial, ⟨reg [(4, iv (i64.wrap ((zdl 0 0 ns).tmod 127)))], [cr (ii ns)]⟩, Wk.ren [0] rfl rfl (by decide) ⟨rfl, trivial⟩ ⟨.inl (zO (zbd ns)), trivial⟩, [iv (i64.wrap ((zdl 0 0 ns).tmod 127))], (qB rfl rfl), (zS rfl z1), (congrArg (Value.int .i64) (spun_eq (by omega))), rfl⟩))))
theorem spun126C {P : Program} (hc : zbj P) (h_sip_Words : zbo P) (h_sip_Of : zcx P) (h_sip_number_byte : qU P) (h_sip_state_take : zaa P) (h_sip_state_rounds : qK P) (h_sip_state_round : qM P) (h_math_bits_RotateLeft64 : zV P) (ns : List Int) (hl : ns.length ≤ 1000) :
    Env P "roundhouse/wheel.spun" [uv 126, sv 0 0 ns.length ns.length] ([cr (ii ns)]) (Ans (iv (zb1 126 ns)) [cr (ii ns)]) := by
 refine Env.by2 hc ?_
 unfold zem
 show GC _ 1 _ _ ⟨reg [(0, uv 126), (1, sv 0 0 ns.length ns.length)], [cr (ii ns)]⟩
 refine zT (z0 (o_d 1 [(4, iv 0)] (by kernel_rfl) (zF (zC (zT (z0 (o_d 2 [(6, sv 0 0 ns.length ns.length), (5, .agg #[uv 0, uv 0])] (by kernel_rfl) (zbO (callS (a1 := [.agg #[uv 0, uv 0], sv 0 0 ns.length ns.length]) [0] [ii ns] (wordsC h_sip_Words h_sip_Of h_sip_number_byte h_sip_state_take h_sip_state_rounds h_sip_state_round h_math_bits_RotateLeft64 0 0 ns (by first | omega | decide | (simp; done))) rfl (fun _ => zan (qE rfl) (zan rfl rfl)) ⟨⟨_, rfl⟩, zbd _, trivial⟩ rfl ?_)))))))))
 exact o_d 4 [(4, iv (i64.wrap ((zdl 0 0 ns).tmod 126))), (10, iv (i64.wrap ((zdl 0 0 ns).tmod 126))), (9, uv ((zdl 0 0 ns).tmod 126)), (8, uv 126)] (by kernel_rfl) (zF (zC (zbr (⟨trivial, ⟨reg [(4, iv (i64.wrap ((zdl 0 0 ns).tmod 126)))], [cr (ii ns)]⟩, Wk.ren [0] rfl rfl (by decide) ⟨rfl, trivial⟩ ⟨.inl (zO (zbd ns)), trivial⟩, [iv (i64.wrap ((zdl 0 0 ns).tmod 126))], (qB rfl rfl), (zS rfl z1), (congrArg (Value.int .i64) (spun_eq (by omega))), rfl⟩))))
theorem makeWC {P : Program} (hc : zbH P) (h_wheel_spun : zbj P) (h_sip_Words : zbo P) (h_sip_Of : zcx P) (h_sip_number_byte : qU P) (h_sip_state_take : zaa P) (h_sip_state_rounds : qK P) (h_sip_state_round : qM P) (h_math_bits_RotateLeft64 : zV P) (p : qO) :
    Env P "roundhouse/wheel.Make" [qG p] ([]) (fun v h' => ∃ m, v = slV 0 127 (some m) ∧ h' = [slB zI (ii (zaw p)) (some m)]) := by
 refine Env.by2 hc ?_
 unfold zfh
 show GC _ 0 _ _ ⟨reg [(0, qG p)], []⟩
 refine zT (z0 (o_b 2 [(2, .slice none 0 0), (1, pv 0 0)] [cw (pl p)] (by kernel_rfl) (zF (zC (gscp (fun _ _ => False) ?_ (fun _ _ q => q.elim))))))
 refine zT (z0 (o_b 1 [(3, pv 1 0)] [cw (pl p), cw (ii (List.replicate 127 0))] (by kernel_rfl) (zF (zC (zT (zT (z0 (o_d 1 [(11, iv 0)] (by kernel_rfl) (zF (zC (zak (zdy (fun μ s => ∃ (i0 : Nat), ∃ (W0 : List Int), μ = 127 - i0 ∧ (i0 ≤ 127) ∧ (W0 = List.replicate i0 (-1) ++ List.replicate (127 - i0) 0) ∧ (W0.length = 127) ∧ s = ⟨reg [(11, iv (i0 : Int)), (3, pv 1 0), (1, pv 0 0)], [cw (pl p), cw (ii W0)]⟩) ⟨(127 - 0), ?_⟩ ?_))))))))))))
 ·skip
  refine ⟨⟨reg [(11, iv (0 : Int)), (3, pv 1 0), (1, pv 0 0)], [cw (pl p), cw (ii (List.replicate 127 0))]⟩, ?_⟩
  refine ⟨?_, ?_⟩
  ·exact Wk.ren [0, 1] rfl rfl (by decide) ⟨rfl, ⟨rfl, ⟨rfl, trivial⟩⟩⟩ ⟨.inl (zO (za7 p)), ⟨.inl (zO (zbd (List.replicate 127 0))), trivial⟩⟩
  ·exact ⟨0, (List.replicate 127 0), rfl, (by omega), rfl, (List.length_replicate ..), rfl⟩
 rintro μ s ⟨i0, W0, rfl, hi0, hW0, hwl, rfl⟩
 refine zT (z0 (o_d 1 [(12, bv (decide ((i0 : Int) < 127)))] (by kernel_rfl) (zF (zC (zT (zaJ (t := decide ((i0 : Int) < 127)) rfl (fun h1 => ?_) (fun h1 => ?_)))))))
 ·skip
  have h1' : (i0 : Int) < 127 := of_decide_eq_true h1
  refine zaC (zC (zT (zak (zT (z0 (o_d 2 [(4, iv (i0 : Int)), (13, iv (i0 : Int))] (by kernel_rfl) (zF (zC (z0 (o_d 1 [(14, iv (i0 : Int))] (by kernel_rfl) (o_s (by exact run_iadA (o := 0) (o' := i0) rfl rfl (by omega) (by omega)) ?_)))))))))))
  refine zeC (by refine qY (c' := ii (W0.set i0 (-1))) rfl rfl rfl ?_ ?_ ?_; exact rfl; exact (by rw [zaQ, hwl]; omega); exact ii_w (i := i0) rfl (by rw [hwl]; omega)) ?_
  refine zF (zC (z0 (o_s (by refine qL (v := .int .i64 (i64.wrap ((i0 : Int) + 1))) (congrArg (Value.int .i64) (w64 (by omega) (by omega))) ?_; kernel_rfl) ?_)))
  refine o_d 1 [(11, iv ((i0 : Int) + 1))] (by kernel_rfl) (zF (⟨127 - (i0 + 1), ?_⟩))
  refine ⟨⟨reg [(11, iv ((i0 + 1) : Int)), (3, pv 1 0), (1, pv 0 0)], [cw (pl p), cw (ii (W0.set i0 (-1)))]⟩, ?_⟩
  refine zgr (by omega) ⟨?_, ?_⟩
  ·exact Wk.ren [0, 1] rfl rfl (by decide) ⟨rfl, ⟨rfl, ⟨rfl, trivial⟩⟩⟩ ⟨.inl (zO (za7 p)), ⟨.inl (zO (zbd (W0.set i0 (-1)))), trivial⟩⟩
  ·exact ⟨(i0 + 1), (W0.set i0 (-1)), rfl, by omega, (nob_next hW0 (by omega)), ((List.length_set ..).trans hwl), rfl⟩
 have h1' : ¬ ((i0 : Int) < 127) := of_decide_eq_false h1
 refine zcU (zC (zT (z0 (o_d 1 [(5, .slice none 0 0)] (by kernel_rfl) (zF (zC (zT (zT (z0 (o_d 1 [(17, pv 0 3)] (by kernel_rfl) (o_s (by refine z6 (v := zfV p) rfl rfl ?_; exact pl_rA p) ?_)))))))))))
 refine o_d 1 [(19, iv 0)] (by kernel_rfl) (zF (zC (zak (zdy (fun μ s => ∃ (i : Nat), ∃ (l1 : List Wl), ∃ (n1 : Nat), ∃ (o1 : Option Nat), μ = 64 - i ∧ (i ≤ 64) ∧ (l1 = wlks p i) ∧ (n1 = l1.length ∧ n1 ≤ i) ∧ (o1 = none → n1 = 0) ∧ s = ⟨reg [(19, iv (i : Int)), (18, zfV p), (5, slV 2 n1 o1), (3, pv 1 0)], [cw (pl p), cw (ii W0), slB zW (zdt wlF l1) o1]⟩) ⟨(64 - 0), ?_⟩ ?_))))
 ·skip
  refine ⟨⟨reg [(19, iv (0 : Int)), (18, zfV p), (5, slV 2 0 none), (3, pv 1 0)], [cw (pl p), cw (ii W0), slB zW (zdt wlF ([] : List Wl)) none]⟩, ?_⟩
  refine ⟨?_, ?_⟩
  ·exact Wk.ren [0, 1, 4] rfl rfl (by decide) ⟨rfl, ⟨((qE (zfA p))).trans rfl, ⟨rfl, ⟨rfl, trivial⟩⟩⟩⟩ ⟨.inl (zO (za7 p)), ⟨.inl (zO (zbd W0)), ⟨.inr ⟨rfl, rfl⟩, trivial⟩⟩⟩
  ·exact ⟨0, ([] : List Wl), 0, none, rfl, (by omega), rfl, ⟨rfl, by omega⟩, (fun _ => rfl), rfl⟩
 rintro μ s ⟨i, l1, n1, o1, rfl, hi, hl1, hn1, ho1, rfl⟩
 refine zT (z0 (o_d 1 [(20, bv (decide ((i : Int) < 64)))] (by kernel_rfl) (zF (zC (zT (zaJ (t := decide ((i : Int) < 64)) rfl (fun h2 => ?_) (fun h2 => ?_)))))))
 ·skip
  have h2' : (i : Int) < 64 := of_decide_eq_true h2
  refine zaC (zC (zT (zak (zT (z0 (o_d 1 [(21, iv (i : Int))] (by kernel_rfl) (o_s (by refine run_ixA (v := .agg #[iv (p (3 + 5 * i)), iv (p (3 + 5 * i + 1)), iv (p (3 + 5 * i + 2)), iv (p (3 + 5 * i + 3)), iv (p (3 + 5 * i + 4))]) (o := 5 * i) rfl rfl (by omega) (by omega) ?_; exact slots_r p i (by omega) (by omega)) ?_)))))))
  refine o_b 3 [(6, iv (i : Int)), (7, pv 3 0)] [cw (pl p), cw (ii W0), slB zW (zdt wlF l1) o1, cw [iv (p (3 + 5 * i)), iv (p (3 + 5 * i + 1)), iv (p (3 + 5 * i + 2)), iv (p (3 + 5 * i + 3)), iv (p (3 + 5 * i + 4))]] (by kernel_rfl) (zF (zC (zT (z0 (o_d 3 [(25, bv ((p (3 + 5 * i)) == 2)), (24, iv (p (3 + 5 * i))), (23, pv 3 0)] (by kernel_rfl) (zF (zC (zaJ (t := (p (3 + 5 * i)) == 2) rfl (fun h3 => ?_) (fun h3 => ?_)))))))))
  ·skip
   have h3' : p (3 + 5 * i) = 2 := zhf h3
   refine zbq [cw (pl p), cw (ii W0), slB zW (zdt wlF l1) o1, cw [iv (p (3 + 5 * i)), iv (p (3 + 5 * i + 1)), iv (p (3 + 5 * i + 2)), iv (p (3 + 5 * i + 3)), iv (p (3 + 5 * i + 4))], .gone, .gone, .gone] (by kernel_rfl) (d_n 7 7 5 [(32, sv 4 0 3 3), (31, iv (p (3 + 5 * i + 2))), (30, pv 3 2), (29, iv (p (3 + 5 * i + 1))), (28, pv 3 1), (27, iv (i : Int)), (26, slV 2 n1 o1)] [cw (pl p), cw (ii W0), slB zW (zdt wlF l1) o1, cw [iv (p (3 + 5 * i)), iv (p (3 + 5 * i + 1)), iv (p (3 + 5 * i + 2)), iv (p (3 + 5 * i + 3)), iv (p (3 + 5 * i + 4))], cw [iv 1, iv (p (3 + 5 * i + 1)), iv (p (3 + 5 * i + 2))], .gone, .gone] [⟨6, [], [4], none⟩, ⟨5, [3], [], none⟩, ⟨3, [3], [], none⟩] (by kernel_rfl) rfl rfl ?_)
   have hsp127 := zhM (m := 127) (ns := [1, p (3 + 5 * i + 1), p (3 + 5 * i + 2)]) (by decide)
   refine d_clG [4] [cr [iv 1, iv (p (3 + 5 * i + 1)), iv (p (3 + 5 * i + 2))]] [uv 127, sv 0 0 3 3] (spun127C h_wheel_spun h_sip_Words h_sip_Of h_sip_number_byte h_sip_state_take h_sip_state_rounds h_sip_state_round h_math_bits_RotateLeft64 [1, p (3 + 5 * i + 1), p (3 + 5 * i + 2)] (by simp)) rfl rfl ⟨⟨_, rfl, zch rfl (fun q => rfl)⟩, trivial⟩ (by decide) ⟨_, _, ⟨rfl, rfl⟩, Nat.le_refl _, za0 [_] []⟩ ?_ (by kernel_rfl)
   rintro v1 h1' ⟨rfl, rfl⟩
   refine ⟨iv (zb1 127 [1, p (3 + 5 * i + 1), p (3 + 5 * i + 2)]), [cw (pl p), cw (ii W0), slB zW (zdt wlF l1) o1, cw [iv (p (3 + 5 * i)), iv (p (3 + 5 * i + 1)), iv (p (3 + 5 * i + 2)), iv (p (3 + 5 * i + 3)), iv (p (3 + 5 * i + 4))], cw [iv 1, iv (p (3 + 5 * i + 1)), iv (p (3 + 5 * i + 2))], .gone, .gone], [], rfl, ⟨rfl, ⟨rfl, ⟨rfl, ⟨rfl, ⟨rfl, ⟨rfl, ⟨rfl, trivial⟩⟩⟩⟩⟩⟩⟩, trivial, ?_⟩
   refine d_n 5 13 6 [(38, sv 5 0 3 3), (37, iv (p (3 + 5 * i + 2))), (36, pv 3 2), (35, iv (p (3 + 5 * i + 1))), (34, pv 3 1)] [cw (pl p), cw (ii W0), slB zW (zdt wlF l1) o1, cw [iv (p (3 + 5 * i)), iv (p (3 + 5 * i + 1)), iv (p (3 + 5 * i + 2)), iv (p (3 + 5 * i + 3)), iv (p (3 + 5 * i + 4))], cw [iv 1, iv (p (3 + 5 * i + 1)), iv (p (3 + 5 * i + 2))], cw [iv 2, iv (p (3 + 5 * i + 1)), iv (p (3 + 5 * i + 2))], .gone] [⟨12, [], [5], none⟩, ⟨11, [3], [], none⟩, ⟨9, [3], [], none⟩, ⟨7, [4], [], some 7⟩, ⟨6, [], [4], none⟩, ⟨5, [3], [], none⟩, ⟨3, [3], [], none⟩] (by kernel_rfl) rfl rfl ?_
   have hsp126 := zhM (m := 126) (ns := [2, p (3 + 5 * i + 1), p (3 + 5 * i + 2)]) (by decide)
   refine d_clG [5] [cr [iv 2, iv (p (3 + 5 * i + 1)), iv (p (3 + 5 * i + 2))]] [uv 126, sv 0 0 3 3] (spun126C h_wheel_spun h_sip_Words h_sip_Of h_sip_number_byte h_sip_state_take h_sip_state_rounds h_sip_state_round h_math_bits_RotateLeft64 [2, p (3 + 5 * i + 1), p (3 + 5 * i + 2)] (by simp)) rfl rfl ⟨⟨_, rfl, zch rfl (fun q => rfl)⟩, trivial⟩ (by decide) ⟨_, _, ⟨rfl, rfl⟩, Nat.le_refl _, za0 [_] []⟩ ?_ (by kernel_rfl)
   rintro v1 h1' ⟨rfl, rfl⟩
   refine ⟨iv (zb1 126 [2, p (3 + 5 * i + 1), p (3 + 5 * i + 2)]), [cw (pl p), cw (ii W0), slB zW (zdt wlF l1) o1, cw [iv (p (3 + 5 * i)), iv (p (3 + 5 * i + 1)), iv (p (3 + 5 * i + 2)), iv (p (3 + 5 * i + 3)), iv (p (3 + 5 * i + 4))], cw [iv 1, iv (p (3 + 5 * i + 1)), iv (p (3 + 5 * i + 2))], cw [iv 2, iv (p (3 + 5 * i + 1)), iv (p (3 + 5 * i + 2))], .gone], [], rfl, ⟨rfl, ⟨rfl, ⟨rfl, ⟨rfl, ⟨rfl, ⟨rfl, ⟨rfl, trivial⟩⟩⟩⟩⟩⟩⟩, trivial, ?_⟩
   refine d_s rfl rfl rfl (by kernel_rfl) (by refine qL (v := .int .i64 (i64.wrap (1 + zb1 126 [2, p (3 + 5 * i + 1), p (3 + 5 * i + 2)]))) (congrArg (Value.int .i64) (w64 (by omega) (by omega))) ?_; kernel_rfl) ?_
   refine d_n 6 21 7 [(46, sv 6 0 1 1), (45, .agg #[iv (i : Int), iv (zb1 127 [1, p (3 + 5 * i + 1), p (3 + 5 * i + 2)]), iv (1 + zb1 126 [2, p (3 + 5 * i + 1), p (3 + 5 * i + 2)]), iv (if (8 : Int) < (if (1 : Int) > p (3 + 5 * i + 3) then (1 : Int) else p (3 + 5 * i + 3)) then (8 : Int) else (if (1 : Int) > p (3 + 5 * i + 3) then (1 : Int) else p (3 + 5 * i + 3)))]), (44, iv (if (8 : Int) < (if (1 : Int) > p (3 + 5 * i + 3) then (1 : Int) else p (3 + 5 * i + 3)) then (8 : Int) else (if (1 : Int) > p (3 + 5 * i + 3) then (1 : Int) else p (3 + 5 * i + 3)))), (43, iv (if (1 : Int) > p (3 + 5 * i + 3) then (1 : Int) else p (3 + 5 * i + 3))), (42, iv (p (3 + 5 * i + 3))), (41, pv 3 3)] [cw (pl p), cw (ii W0), slB zW (zdt wlF l1) o1, cw [iv (p (3 + 5 * i)), iv (p (3 + 5 * i + 1)), iv (p (3 + 5 * i + 2)), iv (p (3 + 5 * i + 3)), iv (p (3 + 5 * i + 4))], cw [iv 1, iv (p (3 + 5 * i + 1)), iv (p (3 + 5 * i + 2))], cw [iv 2, iv (p (3 + 5 * i + 1)), iv (p (3 + 5 * i + 2))], cw [iv (i : Int), iv (zb1 127 [1, p (3 + 5 * i + 1), p (3 + 5 * i + 2)]), iv (1 + zb1 126 [2, p (3 + 5 * i + 1), p (3 + 5 * i + 2)]), iv (if (8 : Int) < (if (1 : Int) > p (3 + 5 * i + 3) then (1 : Int) else p (3 + 5 * i + 3)) then (8 : Int) else (if (1 : Int) > p (3 + 5 * i + 3) then (1 : Int) else p (3 + 5 * i + 3)))]] [⟨20, [], [6], none⟩, ⟨16, [3], [], none⟩, ⟨13, [5], [], some 7⟩, ⟨12, [], [5], none⟩, ⟨11, [3], [], none⟩, ⟨9, [3], [], none⟩, ⟨7, [4], [], some 7⟩, ⟨6, [], [4], none⟩, ⟨5, [3], [], none⟩, ⟨3, [3], [], none⟩] (by kernel_rfl) rfl rfl (d_appC (k := 2) (n := n1) (o := o1) (q := 1) (cs := zdt wlF l1) (xs := [iv (i : Int), iv (zb1 127 [1, p (3 + 5 * i + 1), p (3 + 5 * i + 2)]), iv (1 + zb1 126 [2, p (3 + 5 * i + 1), p (3 + 5 * i + 2)]), iv (if (8 : Int) < (if (1 : Int) > p (3 + 5 * i + 3) then (1 : Int) else p (3 + 5 * i + 3)) then (8 : Int) else (if (1 : Int) > p (3 + 5 * i + 3) then (1 : Int) else p (3 + 5 * i + 3)))]) (cs2 := zdt wlF (l1 ++ [(Wl.mk (i : Int) (zb1 127 [1, p (3 + 5 * i + 1), p (3 + 5 * i + 2)]) (1 + zb1 126 [2, p (3 + 5 * i + 1), p (3 + 5 * i + 2)]) (if (8 : Int) < (if (1 : Int) > p (3 + 5 * i + 3) then (1 : Int) else p (3 + 5 * i + 3)) then (8 : Int) else (if (1 : Int) > p (3 + 5 * i + 3) then (1 : Int) else p (3 + 5 * i + 3))))])) (zl := zW) rfl rfl rfl (fun m q => by subst q; rfl) (fun z => by have h0 := ho1 z; have h1 : l1 = [] := List.eq_nil_of_length_eq_zero (by omega); subst h1; exact ⟨h0, rfl⟩) (by rw [zeL zeI]; first | omega | (simp; try omega)) rfl rfl (zbF rfl rfl (by simp)) (by rfl) (by omega) (by omega) (wl_app1 l1 (i : Int) (zb1 127 [1, p (3 + 5 * i + 1), p (3 + 5 * i + 2)]) (1 + zb1 126 [2, p (3 + 5 * i + 1), p (3 + 5 * i + 2)]) (if (8 : Int) < (if (1 : Int) > p (3 + 5 * i + 3) then (1 : Int) else p (3 + 5 * i + 3)) then (8 : Int) else (if (1 : Int) > p (3 + 5 * i + 3) then (1 : Int) else p (3 + 5 * i + 3)))) (fun m4 e5 => ?_) (fun m4 => ?_))
   ·skip
    subst e5
    refine d_n 1 23 7 [(5, sv 2 0 (n1 + 1) (n1 + 1 + m4))] [cw (pl p), cw (ii W0), cw (zdt wlF (l1 ++ [(Wl.mk (i : Int) (zb1 127 [1, p (3 + 5 * i + 1), p (3 + 5 * i + 2)]) (1 + zb1 126 [2, p (3 + 5 * i + 1), p (3 + 5 * i + 2)]) (if (8 : Int) < (if (1 : Int) > p (3 + 5 * i + 3) then (1 : Int) else p (3 + 5 * i + 3)) then (8 : Int) else (if (1 : Int) > p (3 + 5 * i + 3) then (1 : Int) else p (3 + 5 * i + 3))))]) ++ zbs zW m4), cw [iv (p (3 + 5 * i)), iv (p (3 + 5 * i + 1)), iv (p (3 + 5 * i + 2)), iv (p (3 + 5 * i + 3)), iv (p (3 + 5 * i + 4))], cw [iv 1, iv (p (3 + 5 * i + 1)), iv (p (3 + 5 * i + 2))], cw [iv 2, iv (p (3 + 5 * i + 1)), iv (p (3 + 5 * i + 2))], cw [iv (i : Int), iv (zb1 127 [1, p (3 + 5 * i + 1), p (3 + 5 * i + 2)]), iv (1 + zb1 126 [2, p (3 + 5 * i + 1), p (3 + 5 * i + 2)]), iv (if (8 : Int) < (if (1 : Int) > p (3 + 5 * i + 3) then (1 : Int) else p (3 + 5 * i + 3)) then (8 : Int) else (if (1 : Int) > p (3 + 5 * i + 3) then (1 : Int) else p (3 + 5 * i + 3)))]] [⟨20, [], [6], none⟩, ⟨16, [3], [], none⟩, ⟨13, [5], [], some 7⟩, ⟨12, [], [5], none⟩, ⟨11, [3], [], none⟩, ⟨9, [3], [], none⟩, ⟨7, [4], [], some 7⟩, ⟨6, [], [4], none⟩, ⟨5, [3], [], none⟩, ⟨3, [3], [], none⟩] (by kernel_rfl) rfl rfl (zbW (z9 [(5, sv 2 0 (n1 + 1) (n1 + 1 + m4)), (19, iv (i : Int)), (18, zfV p), (3, pv 1 0)] (by kernel_rfl) (z0 (o_s (by refine qL (v := .int .i64 (i64.wrap ((i : Int) + 1))) (congrArg (Value.int .i64) (w64 (by omega) (by omega))) ?_; kernel_rfl) ?_))))
    refine o_d 1 [(19, iv ((i : Int) + 1))] (by kernel_rfl) (zF (⟨64 - (i + 1), ?_⟩))
    refine ⟨⟨reg [(19, iv ((i + 1) : Int)), (18, zfV p), (5, slV 2 (n1 + 1) (some m4)), (3, pv 1 0)], [cw (pl p), cw (ii W0), slB zW (zdt wlF (l1 ++ [(Wl.mk (i : Int) (zb1 127 [1, p (3 + 5 * i + 1), p (3 + 5 * i + 2)]) (1 + zb1 126 [2, p (3 + 5 * i + 1), p (3 + 5 * i + 2)]) (if (8 : Int) < (if (1 : Int) > p (3 + 5 * i + 3) then (1 : Int) else p (3 + 5 * i + 3)) then (8 : Int) else (if (1 : Int) > p (3 + 5 * i + 3) then (1 : Int) else p (3 + 5 * i + 3))))])) (some m4)]⟩, ?_⟩
    refine zgr (by omega) ⟨?_, ?_⟩
    ·exact Wk.ren [0, 1, 2] rfl rfl (by decide) ⟨rfl, ⟨((qE (zfA p))).trans rfl, ⟨rfl, ⟨rfl, trivial⟩⟩⟩⟩ ⟨.inl (zO (za7 p)), ⟨.inl (zO (zbd W0)), ⟨.inl (zO (zc3 _ _)), trivial⟩⟩⟩
    ·exact ⟨(i + 1), (l1 ++ [(Wl.mk (i : Int) (zb1 127 [1, p (3 + 5 * i + 1), p (3 + 5 * i + 2)]) (1 + zb1 126 [2, p (3 + 5 * i + 1), p (3 + 5 * i + 2)]) (if (8 : Int) < (if (1 : Int) > p (3 + 5 * i + 3) then (1 : Int) else p (3 + 5 * i + 3)) then (8 : Int) else (if (1 : Int) > p (3 + 5 * i + 3) then (1 : Int) else p (3 + 5 * i + 3))))]), (n1 + 1), (some m4), rfl, by omega, (by rw [hl1]; simp only [wlks]; rw [if_pos (show p (3 + 5 * i) = 2 by assumption)]; rfl), (by simp only [List.length_append, List.length_singleton]; omega), (fun z => by cases z), rfl⟩
   refine d_n 1 23 7 [(5, sv 7 0 (n1 + 1) (n1 + 1 + m4))] [cw (pl p), cw (ii W0), slB zW (zdt wlF l1) o1, cw [iv (p (3 + 5 * i)), iv (p (3 + 5 * i + 1)), iv (p (3 + 5 * i + 2)), iv (p (3 + 5 * i + 3)), iv (p (3 + 5 * i + 4))], cw [iv 1, iv (p (3 + 5 * i + 1)), iv (p (3 + 5 * i + 2))], cw [iv 2, iv (p (3 + 5 * i + 1)), iv (p (3 + 5 * i + 2))], cw [iv (i : Int), iv (zb1 127 [1, p (3 + 5 * i + 1), p (3 + 5 * i + 2)]), iv (1 + zb1 126 [2, p (3 + 5 * i + 1), p (3 + 5 * i + 2)]), iv (if (8 : Int) < (if (1 : Int) > p (3 + 5 * i + 3) then (1 : Int) else p (3 + 5 * i + 3)) then (8 : Int) else (if (1 : Int) > p (3 + 5 * i + 3) then (1 : Int) else p (3 + 5 * i + 3)))], cw (zdt wlF (l1 ++ [(Wl.mk (i : Int) (zb1 127 [1, p (3 + 5 * i + 1), p (3 + 5 * i + 2)]) (1 + zb1 126 [2, p (3 + 5 * i + 1), p (3 + 5 * i + 2)]) (if (8 : Int) < (if (1 : Int) > p (3 + 5 * i + 3) then (1 : Int) else p (3 + 5 * i + 3)) then (8 : Int) else (if (1 : Int) > p (3 + 5 * i + 3) then (1 : Int) else p (3 + 5 * i + 3))))]) ++ zbs zW m4)] [⟨20, [], [6], none⟩, ⟨16, [3], [], none⟩, ⟨13, [5], [], some 7⟩, ⟨12, [], [5], none⟩, ⟨11, [3], [], none⟩, ⟨9, [3], [], none⟩, ⟨7, [4], [], some 7⟩, ⟨6, [], [4], none⟩, ⟨5, [3], [], none⟩, ⟨3, [3], [], none⟩] (by kernel_rfl) rfl rfl (zbW (z9 [(5, sv 7 0 (n1 + 1) (n1 + 1 + m4)), (19, iv (i : Int)), (18, zfV p), (3, pv 1 0)] (by kernel_rfl) (z0 (o_s (by refine qL (v := .int .i64 (i64.wrap ((i : Int) + 1))) (congrArg (Value.int .i64) (w64 (by omega) (by omega))) ?_; kernel_rfl) ?_))))
   refine o_d 1 [(19, iv ((i : Int) + 1))] (by kernel_rfl) (zF (⟨64 - (i + 1), ?_⟩))
   refine ⟨⟨reg [(19, iv ((i + 1) : Int)), (18, zfV p), (5, slV 2 (n1 + 1) (some m4)), (3, pv 1 0)], [cw (pl p), cw (ii W0), slB zW (zdt wlF (l1 ++ [(Wl.mk (i : Int) (zb1 127 [1, p (3 + 5 * i + 1), p (3 + 5 * i + 2)]) (1 + zb1 126 [2, p (3 + 5 * i + 1), p (3 + 5 * i + 2)]) (if (8 : Int) < (if (1 : Int) > p (3 + 5 * i + 3) then (1 : Int) else p (3 + 5 * i + 3)) then (8 : Int) else (if (1 : Int) > p (3 + 5 * i + 3) then (1 : Int) else p (3 + 5 * i + 3))))])) (some m4)]⟩, ?_⟩
   refine zgr (by omega) ⟨?_, ?_⟩
   ·exact Wk.ren [0, 1, 7] rfl rfl (by decide) ⟨rfl, ⟨((qE (zfA p))).trans rfl, ⟨rfl, ⟨rfl, trivial⟩⟩⟩⟩ ⟨.inl (zO (za7 p)), ⟨.inl (zO (zbd W0)), ⟨.inl (zO (zc3 _ _)), trivial⟩⟩⟩
   ·exact ⟨(i + 1), (l1 ++ [(Wl.mk (i : Int) (zb1 127 [1, p (3 + 5 * i + 1), p (3 + 5 * i + 2)]) (1 + zb1 126 [2, p (3 + 5 * i + 1), p (3 + 5 * i + 2)]) (if (8 : Int) < (if (1 : Int) > p (3 + 5 * i + 3) then (1 : Int) else p (3 + 5 * i + 3)) then (8 : Int) else (if (1 : Int) > p (3 + 5 * i + 3) then (1 : Int) else p (3 + 5 * i + 3))))]), (n1 + 1), (some m4), rfl, by omega, (by rw [hl1]; simp only [wlks]; rw [if_pos (show p (3 + 5 * i) = 2 by assumption)]; rfl), (by simp only [List.length_append, List.length_singleton]; omega), (fun z => by cases z), rfl⟩
  have h3' : ¬ (p (3 + 5 * i) = 2) := zhg h3
  refine zaC (zC (z0 (o_s (by refine qL (v := .int .i64 (i64.wrap ((i : Int) + 1))) (congrArg (Value.int .i64) (w64 (by omega) (by omega))) ?_; kernel_rfl) ?_)))
  refine o_d 1 [(19, iv ((i : Int) + 1))] (by kernel_rfl) (zF (⟨64 - (i + 1), ?_⟩))
  refine ⟨⟨reg [(19, iv ((i + 1) : Int)), (18, zfV p), (5, slV 2 n1 o1), (3, pv 1 0)], [cw (pl p), cw (ii W0), slB zW (zdt wlF l1) o1]⟩, ?_⟩
  refine zgr (by omega) ⟨?_, ?_⟩
  ·exact Wk.ren [0, 1, 2] rfl rfl (by decide) ⟨rfl, ⟨((qE (zfA p))).trans rfl, ⟨((za9 o1 rfl)).trans rfl, ⟨rfl, trivial⟩⟩⟩⟩ ⟨.inl (zO (za7 p)), ⟨.inl (zO (zbd W0)), ⟨.inl (zaz o1 (fun _ => (zc3 _ _))), trivial⟩⟩⟩
  ·exact ⟨(i + 1), l1, n1, o1, rfl, by omega, (by rw [hl1]; simp only [wlks]; rw [if_neg (show ¬ p (3 + 5 * i) = 2 by assumption)]), (by omega), ho1, rfl⟩
 have h2' : ¬ ((i : Int) < 64) := of_decide_eq_false h2
 refine zcU (zC (zT (z0 (o_d 1 [(8, iv 127)] (by kernel_rfl) (zF (zC (gcut (fun s => ∃ (f0 : Int), 0 = 0 ∧ (f0 = if n1 = 0 then 0 else 127) ∧ s = ⟨reg [(8, iv f0), (5, slV 2 n1 o1), (3, pv 1 0)], [cw (pl p), cw (ii W0), slB zW (zdt wlF l1) o1]⟩) ?_ ?_)))))))
 ·skip
  refine zT (z0 (o_d 1 [(49, slV 2 n1 o1)] (by kernel_rfl) (o_s (by exact zic rfl ho1) ?_)))
  refine o_d 1 [(51, bv (((n1 : Nat) : Int) == 0))] (by kernel_rfl) (zF (zC (zaJ (t := ((n1 : Nat) : Int) == 0) rfl (fun h6 => ?_) (fun h6 => ?_))))
  ·skip
   have h6' : ((n1 : Nat) : Int) = 0 := zhf h6
   refine z0 (o_d 1 [(8, iv 0)] (by kernel_rfl) (zF (⟨⟨reg [(8, iv 0), (5, slV 2 n1 o1), (3, pv 1 0)], [cw (pl p), cw (ii W0), slB zW (zdt wlF l1) o1]⟩, ?_⟩)))
   refine ⟨?_, ?_⟩
   ·exact Wk.ren [0, 1, 2] rfl rfl (by decide) ⟨rfl, ⟨((za9 o1 rfl)).trans rfl, ⟨rfl, trivial⟩⟩⟩ ⟨.inl (zO (za7 p)), ⟨.inl (zO (zbd W0)), ⟨.inl (zaz o1 (fun _ => (zc3 _ _))), trivial⟩⟩⟩
   ·exact ⟨0, rfl, (by first | (rw [if_pos (by omega)]; done) | (rw [if_neg (by omega)]; done)), rfl⟩
  have h6' : ¬ (((n1 : Nat) : Int) = 0) := zhg h6
  refine zaC (⟨⟨reg [(8, iv 127), (5, slV 2 n1 o1), (3, pv 1 0)], [cw (pl p), cw (ii W0), slB zW (zdt wlF l1) o1]⟩, ?_⟩)
  refine ⟨?_, ?_⟩
  ·exact Wk.ren [0, 1, 2] rfl rfl (by decide) ⟨rfl, ⟨((za9 o1 rfl)).trans rfl, ⟨rfl, trivial⟩⟩⟩ ⟨.inl (zO (za7 p)), ⟨.inl (zO (zbd W0)), ⟨.inl (zaz o1 (fun _ => (zc3 _ _))), trivial⟩⟩⟩
  ·exact ⟨127, rfl, (by first | (rw [if_pos (by omega)]; done) | (rw [if_neg (by omega)]; done)), rfl⟩
 rintro s ⟨f0, -, hf0, rfl⟩
 have hi64 : i = 64 := by omega
 have hW9 : W0 = nobodyL := by rw [hW0, show i0 = 127 by omega]; rfl
 obtain ⟨L0, hL0⟩ : ∃ z, z = wlks p 64 := ⟨_, rfl⟩
 have hok0 : WOk L0 W0 l1 := by rw [hl1, hW9, hi64, hL0]; exact WOk.init (wlks_ok p (Nat.le_refl _))
 have hS0 : (W0, l1) = zbY L0 0 := by rw [hl1, hW9, hi64, hL0]; rfl
 have hlen : L0.length = n1 := by rw [hn1.1, hl1, hi64, hL0]
 refine zT (glabel (zC (zT (zak (zdy (fun μ s => ∃ (r : Nat), ∃ (W : List Int), ∃ (l : List Wl), ∃ (f : Int), μ = f.toNat ∧ (WOk L0 W l) ∧ ((W, l) = zbY L0 r) ∧ (f = if L0.length = 0 then 0 else ((zeF W : Nat) : Int)) ∧ (f + r ≤ 127) ∧ s = ⟨reg [(8, iv f), (5, slV 2 n1 o1), (3, pv 1 0)], [cw (pl p), cw (ii W), slB zW (zdt wlF l) o1]⟩) ⟨f0.toNat, ?_⟩ ?_)))))
 ·skip
  refine ⟨⟨reg [(8, iv f0), (5, slV 2 n1 o1), (3, pv 1 0)], [cw (pl p), cw (ii W0), slB zW (zdt wlF l1) o1]⟩, ?_⟩
  refine ⟨?_, ?_⟩
  ·exact Wk.ren [0, 1, 2] rfl rfl (by decide) ⟨rfl, ⟨((za9 o1 rfl)).trans rfl, ⟨rfl, trivial⟩⟩⟩ ⟨.inl (zO (za7 p)), ⟨.inl (zO (zbd W0)), ⟨.inl (zaz o1 (fun _ => (zc3 _ _))), trivial⟩⟩⟩
  ·exact ⟨0, W0, l1, f0, rfl, hok0, hS0, (by rw [hf0, hlen, hW9]; rfl), (by rw [hf0]; split <;> omega), rfl⟩
 rintro μ s ⟨r, W, l, f, rfl, hok, hS, hf, hr, rfl⟩
 refine zT (zT (z0 (o_d 2 [(53, bv (decide (f > 0))), (52, iv f)] (by kernel_rfl) (zF (zC (zaJ (t := decide (f > 0)) rfl (fun h7 => ?_) (fun h7 => ?_)))))))
 ·skip
  have h7' : f > 0 := of_decide_eq_true h7
  refine zaC (zC (zak (zT (z0 (o_d 1 [(54, slV 2 n1 o1)] (by kernel_rfl) (o_s (by exact zic rfl ho1) ?_))))))
  refine o_d 1 [(56, iv 0)] (by kernel_rfl) (zF (zC (zak (zdy (fun μ s => ∃ (k : Nat), ∃ (Wq : List Int), ∃ (lk : List Wl), ∃ (fk : Int), μ = n1 - k ∧ (k ≤ n1) ∧ (WOk L0 Wq lk) ∧ ((Wq, lk) = ze6 L0 (zbY L0 r) k) ∧ (fk = ((zeF Wq : Nat) : Int) ∧ fk ≤ f ∧ (1 ≤ k → fk < f)) ∧ s = ⟨reg [(56, iv (k : Int)), (55, iv (n1 : Nat)), (8, iv fk), (5, slV 2 n1 o1), (3, pv 1 0)], [cw (pl p), cw (ii Wq), slB zW (zdt wlF lk) o1]⟩) ⟨(n1 - 0), ?_⟩ ?_))))
  ·skip
   refine ⟨⟨reg [(56, iv (0 : Int)), (55, iv (n1 : Nat)), (8, iv f), (5, slV 2 n1 o1), (3, pv 1 0)], [cw (pl p), cw (ii W), slB zW (zdt wlF l) o1]⟩, ?_⟩
   refine ⟨?_, ?_⟩
   ·exact Wk.ren [0, 1, 2] rfl rfl (by decide) ⟨rfl, ⟨rfl, ⟨rfl, ⟨((za9 o1 rfl)).trans rfl, ⟨rfl, trivial⟩⟩⟩⟩⟩ ⟨.inl (zO (za7 p)), ⟨.inl (zO (zbd W)), ⟨.inl (zaz o1 (fun _ => (zc3 _ _))), trivial⟩⟩⟩
   ·exact ⟨0, W, l, f, rfl, (by omega), hok, hS, (by rw [if_neg (by omega)] at hf; omega), rfl⟩
  rintro μ s ⟨k, Wq, lk, fk, rfl, hk, hokk, hSk, hfk, rfl⟩
  refine zT (z0 (o_d 1 [(57, bv (decide ((k : Int) < (n1 : Nat))))] (by kernel_rfl) (zF (zC (zT (zaJ (t := decide ((k : Int) < (n1 : Nat))) rfl (fun h8 => ?_) (fun h8 => ?_)))))))
  ·skip
   have h8' : (k : Int) < (n1 : Nat) := of_decide_eq_true h8
   have hl0 := hokk.len
   have hb1 : k < lk.length := by omega
   refine (zd6 hb1).elim fun x0 hx0q => ?_
   have hx0 := hx0q.1
   have hq1 := hokk.at_ hx0
   have hx0ok := hq1.1
   have hx0w := hq1.2
   have hx0b := hx0ok.w
   refine zaC (zC (zT (zak (zT (z0 (o_d 2 [(9, iv (k : Int)), (58, iv (k : Int))] (by kernel_rfl) (zF (zC (zT (z0 (o_d 2 [(60, iv (k : Int)), (59, slV 2 n1 o1)] (by kernel_rfl) (o_s (by exact zd0 (o' := 4 * k) rfl ho1 rfl (by omega) (by omega)) ?_))))))))))))
   refine o_s (by refine zf7 (o' := 3 + 4 * k) rfl (by omega)) ?_
   refine o_s (by refine z6 (v := iv x0.w) rfl (hf_sl (n := n1) rfl ho1 (by omega)) ?_; exact zdw (rec_r (m := none) zeI (i := k) (j := 3) (by omega) hx0 rfl)) ?_
   refine o_d 1 [(64, iv 0)] (by kernel_rfl) (zF (zC (zak (zdy (fun μ s => ∃ (t : Nat), ∃ (Wt : List Int), ∃ (lt : List Wl), ∃ (ft : Int), μ = x0.w.toNat - t ∧ ((t : Int) ≤ x0.w) ∧ (WOk L0 Wt lt) ∧ ((Wt, lt) = itr (ziQ k) t (ze6 L0 (zbY L0 r) k)) ∧ (ft = ((zeF Wt : Nat) : Int) ∧ ft ≤ fk ∧ (1 ≤ t → ft < fk)) ∧ s = ⟨reg [(64, iv (t : Int)), (63, iv x0.w), (9, iv (k : Int)), (56, iv (k : Int)), (55, iv (n1 : Nat)), (8, iv ft), (5, slV 2 n1 o1), (3, pv 1 0)], [cw (pl p), cw (ii Wt), slB zW (zdt wlF lt) o1]⟩) ⟨(x0.w.toNat - 0), ?_⟩ ?_))))
   ·skip
    refine ⟨⟨reg [(64, iv (0 : Int)), (63, iv x0.w), (9, iv (k : Int)), (56, iv (k : Int)), (55, iv (n1 : Nat)), (8, iv fk), (5, slV 2 n1 o1), (3, pv 1 0)], [cw (pl p), cw (ii Wq), slB zW (zdt wlF lk) o1]⟩, ?_⟩
    refine ⟨?_, ?_⟩
    ·exact Wk.ren [0, 1, 2] rfl rfl (by decide) ⟨rfl, ⟨rfl, ⟨rfl, ⟨rfl, ⟨rfl, ⟨rfl, ⟨((za9 o1 rfl)).trans rfl, ⟨rfl, trivial⟩⟩⟩⟩⟩⟩⟩⟩ ⟨.inl (zO (za7 p)), ⟨.inl (zO (zbd Wq)), ⟨.inl (zaz o1 (fun _ => (zc3 _ _))), trivial⟩⟩⟩
    ·exact ⟨0, Wq, lk, fk, rfl, (by omega), hokk, hSk, (by omega), rfl⟩
   rintro μ s ⟨t, Wt, lt, ft, rfl, ht, hokt, hSt, hft, rfl⟩
   refine zT (z0 (o_d 1 [(65, bv (decide ((t : Int) < x0.w)))] (by kernel_rfl) (zF (zC (zT (zaJ (t := decide ((t : Int) < x0.w)) rfl (fun h9 => ?_) (fun h9 => ?_)))))))
   ·skip
    have h9' : (t : Int) < x0.w := of_decide_eq_true h9
    refine zaC (zC (zT (zak (zT (zT (z0 (o_d 2 [(67, bv (ft == 0)), (66, iv ft)] (by kernel_rfl) (zF (zC (zaJ (t := ft == 0) rfl (fun h10 => ?_) (fun h10 => ?_)))))))))))
    ·skip
     have h10' : ft = 0 := zhf h10
     refine zcU (zC (zT (z0 (o_d 1 [(111, sv 1 0 127 127)] (by kernel_rfl) (zhy (k := 0) (n := 0) (o := none) (q := 127) (cs := ii ([] : List Int)) (xs := ii Wt) (cs2 := ii Wt) (zl := zI) rfl rfl rfl (fun m q => by cases q) (fun _ => ⟨rfl, rfl⟩) (by first | exact ii_len1 _ | (rw [zaQ]; omega) | simp [ii]) rfl rfl (zbF rfl (by rw [List.drop_zero]; exact List.take_of_length_le (by rw [zaQ, hokt.wl]; omega)) (by rw [zaQ, hokt.wl]; omega)) (by rw [zaQ, hokt.wl]) (by omega) (by omega) rfl (fun m11 e12 => ?_) (fun m11 => ?_))))))
     ·cases e12
     refine o_d 1 [(2, sv 3 0 127 (127 + m11))] (by kernel_rfl) (zF (zC (zbr ?_)))
     have hW9 : Wt = zaw p := by rw [zaw, ← hL0]; exact (fin_b hSt (by omega) (by omega) hft.1 (by omega) (by omega))
     exact ⟨trivial, ⟨reg [(2, sv 0 0 127 (127 + m11))], [cw (ii Wt ++ zbs zI m11)]⟩, Wk.ren [3] rfl rfl (by decide) ⟨rfl, trivial⟩ ⟨.inl (zO (zca Wt m11)), trivial⟩, [sv 0 0 127 (127 + m11)], (qB rfl rfl), (zS rfl z1), m11, rfl, (by rw [← hW9]; rfl)⟩
    have h10' : ¬ (ft = 0) := zhg h10
    have hlt0 := hokt.len
    have hb2 : k < lt.length := by omega
    refine (zd6 hb2).elim fun x hxq => ?_
    have hx := hxq.1
    have hq2 := hokt.at_ hx
    have hxok := hq2.1
    have hxw := hq2.2
    have hxs := hxok.s
    have hxb := hxok.b
    have hb3 : zeF Wt ≠ 0 := by omega
    refine (found hokt.wl hb3 hxok.a hxok.b).elim fun n hnq => ?_
    have hn := hnq.1
    have hn2 := hnq.2.1
    have hn3 := hnq.2.2.1
    have hp := hnq.2.2.2
    refine zaC (zC (zT (z0 (o_s (by refine z6 (v := .agg ⟨ii Wt⟩) rfl rfl ?_; exact ii_all hokt.wl) ?_))))
    refine o_b 1 [(10, pv 3 0)] [cw (pl p), cw (ii Wt), slB zW (zdt wlF lt) o1, cw (ii (List.replicate 127 0))] (by kernel_rfl) (zeC (by refine qY (c' := ii Wt) rfl rfl rfl ?_ ?_ ?_; exact (by show (ii Wt).length = 127; rw [zaQ, hokt.wl]); exact (by rw [zaQ, (List.length_replicate ..)]; omega); exact zc5 (vs := ii Wt) (c := ii (List.replicate 127 0)) (by rw [zaQ, zaQ, hokt.wl, (List.length_replicate ..)])) ?_)
    refine zF (zC (zT (zak (zdy (fun μ s => ∃ (m : Nat), ∃ (lm : List Wl), μ = n - m ∧ (m ≤ n) ∧ (lm = lt.set k ⟨x.s, zc0 x.a x.b m, x.b, x.w⟩) ∧ (WOk L0 Wt lm) ∧ s = ⟨reg [(10, pv 3 0), (64, iv (t : Int)), (63, iv x0.w), (9, iv (k : Int)), (56, iv (k : Int)), (55, iv (n1 : Nat)), (8, iv ft), (5, slV 2 n1 o1), (3, pv 1 0)], [cw (pl p), cw (ii Wt), slB zW (zdt wlF lm) o1, cw (ii Wt)]⟩) ⟨(n - 0), ?_⟩ ?_))))
    ·skip
     refine ⟨⟨reg [(10, pv 3 0), (64, iv (t : Int)), (63, iv x0.w), (9, iv (k : Int)), (56, iv (k : Int)), (55, iv (n1 : Nat)), (8, iv ft), (5, slV 2 n1 o1), (3, pv 1 0)], [cw (pl p), cw (ii Wt), slB zW (zdt wlF lt) o1, cw (ii Wt)]⟩, ?_⟩
     refine ⟨?_, ?_⟩
     ·exact Wk.ren [0, 1, 2, 3] rfl rfl (by decide) ⟨rfl, ⟨rfl, ⟨rfl, ⟨rfl, ⟨rfl, ⟨rfl, ⟨rfl, ⟨((za9 o1 rfl)).trans rfl, ⟨rfl, trivial⟩⟩⟩⟩⟩⟩⟩⟩⟩ ⟨.inl (zO (za7 p)), ⟨.inl (zO (zbd Wt)), ⟨.inl (zaz o1 (fun _ => (zc3 _ _))), ⟨.inl (zO (zbd Wt)), trivial⟩⟩⟩⟩
     ·exact ⟨0, lt, rfl, (Nat.zero_le _), (set_id hx hxok.a), hokt, rfl⟩
    rintro μ s ⟨m, lm, rfl, hm, hlm, hokm, rfl⟩
    have hwr := walk_rng x.a x.b m
    have hlt := hokm.len
    have hx2 : lm[k]? = some ⟨x.s, zc0 x.a x.b m, x.b, x.w⟩ := by rw [hlm, List.getElem?_set_self (by omega)]
    refine zT (zT (z0 (o_d 2 [(70, iv (k : Int)), (69, slV 2 n1 o1)] (by kernel_rfl) (o_s (by exact zd0 (o' := 4 * k) rfl ho1 rfl (by omega) (by omega)) ?_))))
    refine o_s (by refine zf7 (o' := 1 + 4 * k) rfl (by omega)) ?_
    refine o_s (by refine z6 (v := iv (zc0 x.a x.b m)) rfl (hf_sl (n := n1) rfl ho1 (by omega)) ?_; exact zdw (rec_r (m := none) zeI (i := k) (j := 1) (by omega) hx2 rfl)) ?_
    refine o_s (by exact run_iadA (o := 0) (o' := ((zc0 x.a x.b m).toNat)) rfl rfl (by omega) (by omega)) ?_
    refine o_s (by refine z6 (v := iv (Wt.getD ((zc0 x.a x.b m).toNat) 0)) rfl rfl ?_; exact ii_g (i := ((zc0 x.a x.b m).toNat)) rfl (by rw [hokt.wl]; omega)) ?_
    refine o_d 1 [(76, bv ((Wt.getD ((zc0 x.a x.b m).toNat) 0) != (-1)))] (by kernel_rfl) (zF (zC (zaJ (t := (Wt.getD ((zc0 x.a x.b m).toNat) 0) != (-1)) rfl (fun h13 => ?_) (fun h13 => ?_))))
    ·skip
     have h13' : Wt.getD ((zc0 x.a x.b m).toNat) 0 ≠ (-1) := neI_t h13
     have hmlt : m < n := Nat.lt_of_le_of_ne hm (by rintro rfl; exact absurd hn2 (by assumption))
     refine zaC (zC (zak (zdz ["roundhouse/wheel.spun"] (by kernel_rfl) (r_d 4 [(80, iv (k : Int)), (79, slV 2 n1 o1), (78, iv (k : Int)), (77, slV 2 n1 o1)] (by kernel_rfl) (r_s (by exact zd0 (o' := 4 * k) rfl ho1 rfl (by omega) (by omega)) ?_)))))
     refine r_s (by refine zf7 (o' := 1 + 4 * k) rfl (by omega)) ?_
     refine r_s (by refine z6 (v := iv (zc0 x.a x.b m)) rfl (hf_sl (n := n1) rfl ho1 (by omega)) ?_; exact zdw (rec_r (m := none) zeI (i := k) (j := 1) (by omega) hx2 rfl)) ?_
     refine r_d 2 [(85, iv (k : Int)), (84, slV 2 n1 o1)] (by kernel_rfl) (r_s (by exact zd0 (o' := 4 * k) rfl ho1 rfl (by omega) (by omega)) ?_)
     refine r_s (by refine zf7 (o' := 2 + 4 * k) rfl (by omega)) ?_
     refine r_s (by refine z6 (v := iv x.b) rfl (hf_sl (n := n1) rfl ho1 (by omega)) ?_; exact zdw (rec_r (m := none) zeI (i := k) (j := 2) (by omega) hx2 rfl)) ?_
     refine r_s (by refine qL (v := .int .i64 (i64.wrap (zc0 x.a x.b m + x.b))) (congrArg (Value.int .i64) (w64 (by omega) (by omega))) ?_; kernel_rfl) ?_
     refine r_s (by refine qL (v := .int .i64 ((zc0 x.a x.b m + x.b).tmod 127)) (congrArg (Value.int .i64) (zfY (by omega))) ?_; kernel_rfl) ?_
     refine r_s (by exact zd0 (o' := 4 * k) rfl ho1 rfl (by omega) (by omega)) ?_
     refine r_s (by refine zf7 (o' := 1 + 4 * k) rfl (by omega)) ?_
     refine r_s0 (by exact run_stSl (n2 := n1) rfl rfl ho1 (by omega) rfl rfl (by rw [zeL zeI]; omega) (rec_w (y := (Wl.mk x.s ((zc0 x.a x.b m + x.b) % 127) x.b x.w)) zeI (i := k) (j := 1) (by omega) hx2 (Nat.le_of_ble_eq_true rfl) rfl)) ?_
     refine zc7 (⟨n - (m + 1), ?_⟩)
     refine ⟨⟨reg [(10, pv 3 0), (64, iv (t : Int)), (63, iv x0.w), (9, iv (k : Int)), (56, iv (k : Int)), (55, iv (n1 : Nat)), (8, iv ft), (5, slV 2 n1 o1), (3, pv 1 0)], [cw (pl p), cw (ii Wt), slB zW (zdt wlF (lm.set k (Wl.mk x.s ((zc0 x.a x.b m + x.b) % 127) x.b x.w))) o1, cw (ii Wt)]⟩, ?_⟩
     refine zgr (by omega) ⟨?_, ?_⟩
     ·exact Wk.ren [0, 1, 2, 3] rfl rfl (by decide) ⟨rfl, ⟨rfl, ⟨rfl, ⟨rfl, ⟨rfl, ⟨rfl, ⟨rfl, ⟨((za9 o1 rfl)).trans rfl, ⟨rfl, trivial⟩⟩⟩⟩⟩⟩⟩⟩⟩ ⟨.inl (zO (za7 p)), ⟨.inl (zO (zbd Wt)), ⟨.inl (zaz o1 (fun _ => (zc3 _ _))), ⟨.inl (zO (zbd Wt)), trivial⟩⟩⟩⟩
     ·exact ⟨(m + 1), (lm.set k (Wl.mk x.s ((zc0 x.a x.b m + x.b) % 127) x.b x.w)), rfl, (by omega), (by rw [hlm, List.set_set, walk_1]), (WOk.set (x := ⟨x.s, zc0 x.a x.b m, x.b, x.w⟩) hokm hx2 (by omega)), rfl⟩
    have h13' : ¬ (Wt.getD ((zc0 x.a x.b m).toNat) 0 ≠ (-1)) := neI_f h13
    have hmn : m = n := Nat.le_antisymm hm (Nat.le_of_not_lt fun q => hn3 m q (Decidable.of_not_not (by assumption)))
    have hfree : Wt.getD (zc0 x.a x.b m).toNat 0 = -1 := by rw [hmn]; exact hn2
    refine zcU (zC (zT (zdz ["roundhouse/wheel.spun"] (by kernel_rfl) (r_d 2 [(94, iv (k : Int)), (93, slV 2 n1 o1)] (by kernel_rfl) (r_s (by exact zd0 (o' := 4 * k) rfl ho1 rfl (by omega) (by omega)) ?_)))))
    refine r_s (by refine zf7 (o' := 1 + 4 * k) rfl (by omega)) ?_
    refine r_s (by refine z6 (v := iv (zc0 x.a x.b m)) rfl (hf_sl (n := n1) rfl ho1 (by omega)) ?_; exact zdw (rec_r (m := none) zeI (i := k) (j := 1) (by omega) hx2 rfl)) ?_
    refine r_d 2 [(99, iv (k : Int)), (98, slV 2 n1 o1)] (by kernel_rfl) (r_s (by exact zd0 (o' := 4 * k) rfl ho1 rfl (by omega) (by omega)) ?_)
    refine r_s (by refine zf7 (o' := 4 * k) rfl (by omega)) ?_
    refine r_s (by refine z6 (v := iv x.s) rfl (hf_sl (n := n1) rfl ho1 (by omega)) ?_; exact zdw (rec_r (m := none) zeI (i := k) (j := 0) (by omega) hx2 rfl)) ?_
    refine r_s (by exact run_iadA (o := 0) (o' := ((zc0 x.a x.b m).toNat)) rfl rfl (by omega) (by omega)) ?_
    refine r_s0 (by refine qY (c' := ii (Wt.set ((zc0 x.a x.b m).toNat) x.s)) rfl rfl rfl ?_ ?_ ?_; exact rfl; exact (by rw [zaQ, hokt.wl]; omega); exact ii_w (i := ((zc0 x.a x.b m).toNat)) rfl (by rw [hokt.wl]; omega)) ?_
    refine zc7 (zC (zT (z0 (o_s (by refine z6 (v := .agg ⟨ii (Wt.set ((zc0 x.a x.b m).toNat) x.s)⟩) rfl rfl ?_; exact ii_all ((List.length_set ..).trans hokt.wl)) ?_))))
    refine o_s (by refine z6 (v := .agg ⟨ii Wt⟩) rfl rfl ?_; exact ii_all hokt.wl) ?_
    refine o_s (by refine run_eqa (a := ⟨ii (Wt.set ((zc0 x.a x.b m).toNat) x.s)⟩) (b := ⟨ii Wt⟩) (r := eqI (Wt.set ((zc0 x.a x.b m).toNat) x.s) Wt) (R := !(eqI (Wt.set ((zc0 x.a x.b m).toNat) x.s) Wt)) ?_ rfl; exact eqI_run (Wt.set ((zc0 x.a x.b m).toNat) x.s) Wt ((List.length_set ..).trans hokt.wl) hokt.wl rfl rfl) ?_
    refine zF (z9 [(106, bv (!(eqI (Wt.set ((zc0 x.a x.b m).toNat) x.s) Wt))), (64, iv (t : Int)), (63, iv x0.w), (9, iv (k : Int)), (56, iv (k : Int)), (55, iv (n1 : Nat)), (8, iv ft), (5, slV 2 n1 o1), (3, pv 1 0)] (by kernel_rfl) (zaJ (t := !(eqI (Wt.set ((zc0 x.a x.b m).toNat) x.s) Wt)) rfl (fun _ => ?_) (fun q => by rw [(by rw [set_neq (by rw [hokt.wl]; omega) hfree (by omega)]; rfl : (!(eqI (Wt.set ((zc0 x.a x.b m).toNat) x.s) Wt)) = true)] at q; cases q)))
    refine z0 (o_d 1 [(107, iv ft)] (by kernel_rfl) (o_s (by refine qL (v := .int .i64 (i64.wrap (ft - 1))) (congrArg (Value.int .i64) (w64 (by omega) (by omega))) ?_; kernel_rfl) ?_))
    refine o_d 1 [(8, iv (ft - 1))] (by kernel_rfl) (zF (zC (z0 (o_s (by refine qL (v := .int .i64 (i64.wrap ((t : Int) + 1))) (congrArg (Value.int .i64) (w64 (by omega) (by omega))) ?_; kernel_rfl) ?_))))
    refine o_d 1 [(64, iv ((t : Int) + 1))] (by kernel_rfl) (zF (⟨x0.w.toNat - (t + 1), ?_⟩))
    refine ⟨⟨reg [(64, iv ((t + 1) : Int)), (63, iv x0.w), (9, iv (k : Int)), (56, iv (k : Int)), (55, iv (n1 : Nat)), (8, iv (ft - 1)), (5, slV 2 n1 o1), (3, pv 1 0)], [cw (pl p), cw (ii (Wt.set ((zc0 x.a x.b m).toNat) x.s)), slB zW (zdt wlF lm) o1]⟩, ?_⟩
    refine zgr (by omega) ⟨?_, ?_⟩
    ·exact Wk.ren [0, 1, 2] rfl rfl (by decide) ⟨rfl, ⟨rfl, ⟨rfl, ⟨rfl, ⟨rfl, ⟨rfl, ⟨((za9 o1 rfl)).trans rfl, ⟨rfl, trivial⟩⟩⟩⟩⟩⟩⟩⟩ ⟨.inl (zO (za7 p)), ⟨.inl (zO (zbd (Wt.set ((zc0 x.a x.b m).toNat) x.s))), ⟨.inl (zaz o1 (fun _ => (zc3 _ _))), trivial⟩⟩⟩
    ·exact ⟨(t + 1), (Wt.set ((zc0 x.a x.b m).toNat) x.s), lm, (ft - 1), rfl, (by omega), (WOk.put hokm _ _), (by rw [hlm, hmn]; exact (turn_eq (by omega) hx hp).symm.trans (congrArg (ziQ k) hSt)), (by have h9 := free_set (i := (zc0 x.a x.b m).toNat) (s := x.s) (by rw [hokt.wl]; omega) hfree (by omega); omega), rfl⟩
   have h9' : ¬ ((t : Int) < x0.w) := of_decide_eq_false h9
   refine zcU (zC (z0 (o_s (by refine qL (v := .int .i64 (i64.wrap ((k : Int) + 1))) (congrArg (Value.int .i64) (w64 (by omega) (by omega))) ?_; kernel_rfl) ?_)))
   refine o_d 1 [(56, iv ((k : Int) + 1))] (by kernel_rfl) (zF (⟨n1 - (k + 1), ?_⟩))
   refine ⟨⟨reg [(56, iv ((k + 1) : Int)), (55, iv (n1 : Nat)), (8, iv ft), (5, slV 2 n1 o1), (3, pv 1 0)], [cw (pl p), cw (ii Wt), slB zW (zdt wlF lt) o1]⟩, ?_⟩
   refine zgr (by omega) ⟨?_, ?_⟩
   ·exact Wk.ren [0, 1, 2] rfl rfl (by decide) ⟨rfl, ⟨rfl, ⟨rfl, ⟨((za9 o1 rfl)).trans rfl, ⟨rfl, trivial⟩⟩⟩⟩⟩ ⟨.inl (zO (za7 p)), ⟨.inl (zO (zbd Wt)), ⟨.inl (zaz o1 (fun _ => (zc3 _ _))), trivial⟩⟩⟩
   ·exact ⟨(k + 1), Wt, lt, ft, rfl, (by omega), hokt, (by rw [hSt, show t = wtOf L0 k by omega]; rfl), (by omega), rfl⟩
  have h8' : ¬ ((k : Int) < (n1 : Nat)) := of_decide_eq_false h8
  refine zcU (⟨fk.toNat, ?_⟩)
  refine ⟨⟨reg [(8, iv fk), (5, slV 2 n1 o1), (3, pv 1 0)], [cw (pl p), cw (ii Wq), slB zW (zdt wlF lk) o1]⟩, ?_⟩
  refine zgr (by omega) ⟨?_, ?_⟩
  ·exact Wk.ren [0, 1, 2] rfl rfl (by decide) ⟨rfl, ⟨((za9 o1 rfl)).trans rfl, ⟨rfl, trivial⟩⟩⟩ ⟨.inl (zO (za7 p)), ⟨.inl (zO (zbd Wq)), ⟨.inl (zaz o1 (fun _ => (zc3 _ _))), trivial⟩⟩⟩
  ·exact ⟨(r + 1), Wq, lk, fk, rfl, hokk, (by rw [hSk, show k = L0.length by omega]; rfl), (by rw [if_neg (by omega)]; exact hfk.1), (by omega), rfl⟩
 have h7' : ¬ (f > 0) := of_decide_eq_false h7
 refine zcU (zC (zT (z0 (o_d 1 [(111, sv 1 0 127 127)] (by kernel_rfl) (zhy (k := 0) (n := 0) (o := none) (q := 127) (cs := ii ([] : List Int)) (xs := ii W) (cs2 := ii W) (zl := zI) rfl rfl rfl (fun m q => by cases q) (fun _ => ⟨rfl, rfl⟩) (by first | exact ii_len1 _ | (rw [zaQ]; omega) | simp [ii]) rfl rfl (zbF rfl (by rw [List.drop_zero]; exact List.take_of_length_le (by rw [zaQ, hok.wl]; omega)) (by rw [zaQ, hok.wl]; omega)) (by rw [zaQ, hok.wl]) (by omega) (by omega) rfl (fun m14 e15 => ?_) (fun m14 => ?_))))))
 ·cases e15
 refine o_d 1 [(2, sv 3 0 127 (127 + m14))] (by kernel_rfl) (zF (zC (zbr ?_)))
 have hW9 : W = zaw p := by rw [zaw, ← hL0]; exact (fin_a hS hf hr (by omega))
 exact ⟨trivial, ⟨reg [(2, sv 0 0 127 (127 + m14))], [cw (ii W ++ zbs zI m14)]⟩, Wk.ren [3] rfl rfl (by decide) ⟨rfl, trivial⟩ ⟨.inl (zO (zca W m14)), trivial⟩, [sv 0 0 127 (127 + m14)], (qB rfl rfl), (zS rfl z1), m14, rfl, (by rw [← hW9]; rfl)⟩
end Go.Rh

set_option maxHeartbeats 8000000
namespace Go.Rh
def qJ (p : qO) (is : Bool) : Int := if is = true then p 0 else -1
theorem PVersionC {P : Program} (hc : zap P) (p : qO) (is : Bool) (nr : Nat → Int × Bool) (q : Option Nat) :
    Env P "(*roundhouse/plane.Plane).Version" [pv 0 0] ([cr (zK p is nr (slV 1 127 q)), cr []]) (fun v h' => v = .tuple #[iv (p 0), bv is] ∧ h' = [cr (zK p is nr (slV 1 127 q)), cr []]) := by
 refine Env.by2 hc ?_
 unfold zcd
 show GC _ 2 _ _ ⟨reg [(0, pv 0 0)], [cr (zK p is nr (slV 1 127 q)), cr []]⟩
 refine zT (z0 (o_d 2 [(3, bv false), (2, iv 0)] (by kernel_rfl) (zF (zC (zT (zdz [] (by kernel_rfl) (r_d 5 [(8, pv 0 0), (7, pv 0 0), (6, pv 0 0), (5, pv 0 0), (4, pv 0 0)] (by kernel_rfl) (r_s (by refine z6 (v := iv (p 0)) rfl rfl ?_; exact plane_rP (pl_r p 0 rfl (by omega))) ?_))))))))
 refine r_d 4 [(13, pv 0 330), (12, pv 0 0), (11, pv 0 0), (10, pv 0 0)] (by kernel_rfl) (r_s (by refine z6 (v := bv is) rfl rfl ?_; exact (plane_rT 0).trans rfl) ?_)
 exact r_d 2 [(3, bv is), (2, iv (p 0))] (by kernel_rfl) (zc7 (zC (zbr (⟨trivial, ⟨reg [(2, iv (p 0)), (3, bv is)], [cr (zK p is nr (slV 1 127 q)), cr []]⟩, Wk.ren [0, 1] rfl rfl (by decide) ⟨rfl, ⟨rfl, trivial⟩⟩ ⟨.inl (qZ (qN q rfl)), ⟨.inl rfl, trivial⟩⟩, [iv (p 0), bv is], (qB rfl (qB rfl rfl)), (zS rfl (zS rfl z1)), rfl, rfl⟩))))
theorem PCrashC {P : Program} (hc : zbp P) (p : qO) (is : Bool) (nr : Nat → Int × Bool) (q : Option Nat) :
    Env P "(*roundhouse/plane.Plane).Crash" [pv 0 0] ([cw (zK p is nr (slV 1 127 q)), cr []]) (fun v h' => v = .tuple #[] ∧ h' = [cw (zK zH false nr0 (slV 1 127 none)), cr []]) := by
 refine Env.by2 hc ?_
 unfold zcB
 show GC _ 2 _ _ ⟨reg [(0, pv 0 0)], [cw (zK p is nr (slV 1 127 q)), cr []]⟩
 refine z0 (o_d 1 [(2, pv 0 0)] (by kernel_rfl) (o_s (by refine zck (c := zK zH false nr0 (.slice none 0 0)) ?_; exact bld_plane) ?_))
 refine o_d 1 [(4, pv 0 0)] (by kernel_rfl) (zeC (by refine qY (c' := zK zH false nr0 (.slice none 0 0)) rfl rfl rfl ?_ ?_ ?_; exact zdN _ _ _ _; exact zhQ (by omega); exact plane_wAll) ?_)
 exact zF (⟨trivial, ⟨reg [], [cw (zK zH false nr0 (.slice none 0 0)), cr []]⟩, Wk.ren [0, 1] rfl rfl (by decide) trivial ⟨.inl (qZ rfl), ⟨.inl rfl, trivial⟩⟩, [], rfl, z1, rfl, rfl⟩)
theorem PLayC {P : Program} (hc : qR P) (p : qO) (is : Bool) (nr : Nat → Int × Bool) (q : Option Nat) (x : qO) :
    Env P "(*roundhouse/plane.maybe[roundhouse/api.Pool]).lay" [pv 0 0, qG x] ([cw (zK p is nr (slV 1 127 q)), cr []]) (fun v h' => v = .tuple #[] ∧ h' = [cw (zK x true nr (slV 1 127 q)), cr []]) := by
 refine Env.by2 hc ?_
 unfold zbt
 show GC _ 2 _ _ ⟨reg [(0, pv 0 0), (1, qG x)], [cw (zK p is nr (slV 1 127 q)), cr []]⟩
 refine zT (z0 (o_b 1 [(3, pv 2 0)] [cw (zK p is nr (slV 1 127 q)), cr [], cw (pl x)] (by kernel_rfl) (zF (zC (z0 (o_d 2 [(5, pv 0 0), (4, pv 0 0)] (by kernel_rfl) (o_s (by refine z6 (v := qG x) rfl rfl ?_; exact zaU x) ?_)))))))
 refine o_d 2 [(8, pv 0 0), (7, pv 0 0)] (by kernel_rfl) (zeC (by refine qY (c' := zK x is nr (slV 1 127 q)) rfl rfl rfl ?_ ?_ ?_; exact zN _; exact zhQ (by omega); exact plane_wP) ?_)
 refine o_b 2 [(10, pv 0 330), (9, pv 0 0)] [cw (zK x is nr (slV 1 127 q)), cr [], cw (pl x)] (by kernel_rfl) (zeC (by refine qY (c' := zK x true nr (slV 1 127 q)) rfl rfl rfl ?_ ?_ ?_; exact rfl; exact zhQ (by omega); exact plane_wI) ?_)
 exact zF (⟨trivial, ⟨reg [], [cw (zK x true nr (slV 1 127 q)), cr []]⟩, Wk.ren [0, 1] rfl rfl (by decide) trivial ⟨.inl (qZ (qN q rfl)), ⟨.inl rfl, trivial⟩⟩, [], rfl, z1, rfl, rfl⟩)
theorem PLoadC {P : Program} (hc : zaW P) (h_plane_maybe_api_Pool_lay : qR P) (h_wheel_Make : zbH P) (h_wheel_spun : zbj P) (h_sip_Words : zbo P) (h_sip_Of : zcx P) (h_sip_number_byte : qU P) (h_sip_state_take : zaa P) (h_sip_state_rounds : qK P) (h_sip_state_round : qM P) (h_math_bits_RotateLeft64 : zV P) (p : qO) (is : Bool) (nr : Nat → Int × Bool) (q : Option Nat) (x : qO) :
    Env P "(*roundhouse/plane.Plane).Load" [pv 0 0, qG x] ([cw (zK p is nr (slV 1 127 q)), cr []]) (fun v h' => v = .tuple #[] ∧ ∃ m, h' = [cw (zK x true nr (slV 2 127 (some m))), cr [], slB zI (ii (zaw x)) (some m)]) := by
 refine Env.by2 hc ?_
 unfold zcX
 show GC _ 2 _ _ ⟨reg [(0, pv 0 0), (1, qG x)], [cw (zK p is nr (slV 1 127 q)), cr []]⟩
 refine zT (z0 (o_b 1 [(3, pv 2 0)] [cw (zK p is nr (slV 1 127 q)), cr [], cw (pl x)] (by kernel_rfl) (zF (zC (zT (zbq [cw (zK p is nr (slV 1 127 q)), cr [], cw (pl x)] (by kernel_rfl) (d_n 3 3 3 [(6, pv 0 0), (5, pv 0 0), (4, pv 0 0)] [cw (zK p is nr (slV 1 127 q)), cr [], cw (pl x)] [] (by kernel_rfl) rfl rfl (d_s rfl rfl rfl (by kernel_rfl) (by refine z6 (v := qG x) rfl rfl ?_; exact zaU x) ?_))))))))
 refine zga [0, 1] [cw (zK p is nr (slV 1 127 q)), cr []] [pv 0 0, qG x] (PLayC h_plane_maybe_api_Pool_lay p is nr q x) rfl (zan rfl (zan (qE (zaA x)) rfl)) ⟨⟨_, rfl, zZ (.inl (zaK (qN q rfl) (fun q => rfl)))⟩, ⟨⟨_, rfl, zG⟩, trivial⟩⟩ (by decide) ⟨_, _, ⟨rfl, rfl⟩, Nat.le_refl _, zfM rfl (za0 [_] [])⟩ ?_ (by kernel_rfl)
 rintro v1 h1' ⟨rfl, rfl⟩
 refine ⟨(zA qD (zA zD z4)), .tuple #[], [cw (zK x true nr (slV 1 127 q)), cr [], cw (pl x)], [], (by simp [zbw]), ⟨zbb (qN q rfl), ⟨(by cases true <;> rfl), ⟨rfl, trivial⟩⟩⟩, trivial, ?_⟩
 refine zbW (zC (z0 (o_d 1 [(9, pv 0 0)] (by kernel_rfl) (o_s (by refine z6 (v := qG x) rfl rfl ?_; exact zaU x) ?_))))
 refine zbO (zcZ [] [] [qG x] (makeWC h_wheel_Make h_wheel_spun h_sip_Words h_sip_Of h_sip_number_byte h_sip_state_take h_sip_state_rounds h_sip_state_round h_math_bits_RotateLeft64 x) rfl (zan (qE (zaA x)) rfl) trivial (by decide) ?_)
 rintro v1 h1' ⟨m1, rfl, rfl⟩
 refine ⟨z4, slV 3 127 (some m1), [cw (zK x true nr (slV 1 127 q)), cr [], cw (pl x)], [slB zI (ii (zaw x)) (some m1)], rfl, ⟨rfl, ⟨rfl, ⟨rfl, trivial⟩⟩⟩, ⟨(Option.some.inj (zaz (some m1) (fun _ => (zca _ _)))).symm, trivial⟩, ?_⟩
 refine o_d 2 [(13, pv 0 459), (12, pv 0 0)] (by kernel_rfl) (zeC (by refine qY (c' := zK x true nr (slV 3 127 (some m1))) rfl rfl rfl ?_ ?_ ?_; exact rfl; exact zhQ (by omega); exact plane_wW) ?_)
 exact zF (⟨trivial, ⟨reg [], [cw (zK x true nr (slV 2 127 (some m1))), cr [], slB zI (ii (zaw x)) (some m1)]⟩, Wk.ren [0, 1, 3] rfl rfl (by decide) trivial ⟨.inl (qZ rfl), ⟨.inl rfl, ⟨.inl (zaz (some m1) (fun _ => (zca _ _))), trivial⟩⟩⟩, [], rfl, z1, rfl, m1, rfl⟩)
theorem PNewC {P : Program} (hc : zeN P)  :
    Env P "roundhouse/plane.New" [] ([]) (fun v h' => v = pv 0 0 ∧ h' = [cw (zK zH false nr0 (.slice none 0 0))]) := by
 refine Env.by2 hc ?_
 unfold zgh
 show GC _ 0 _ _ ⟨reg [], []⟩
 refine zT (z0 (o_d 1 [(0, .pointer none)] (by kernel_rfl) (zF (zC (zT (z0 (o_s (by refine zck (c := zK zH false nr0 (.slice none 0 0)) ?_; exact bld_plane) ?_)))))))
 exact o_b 2 [(0, pv 0 0), (2, pv 0 0)] [cw (zK zH false nr0 (.slice none 0 0))] (by kernel_rfl) (zF (zC (zbr (⟨trivial, ⟨reg [(0, pv 0 0)], [cw (zK zH false nr0 (.slice none 0 0))]⟩, Wk.ren [0] rfl rfl (by decide) ⟨rfl, trivial⟩ ⟨.inl (qZ rfl), trivial⟩, [pv 0 0], (qB rfl rfl), (zS rfl z1), rfl, rfl⟩))))
theorem zdr {P : Program} (hc : za3 P) (h_plane_Plane_Version : zap P) (p : qO) (is : Bool) (nr : Nat → Int × Bool) (q : Option Nat) (b : Int) (w : List Nt) :
    Env P "(*roundhouse/yard.unit).version" [pv 0 0] ([cr (z5 1 p b 2), cr (zK p is nr (slV 3 127 q)), .chan 1 (w.map ntE), cr []]) (fun v h' => v = iv (qJ p is) ∧ h' = [cr (z5 1 p b 2), cr (zK p is nr (slV 3 127 q)), .chan 1 (w.map ntE), cr []]) := by
 refine Env.by2 hc ?_
 unfold zcz
 show GC _ 4 _ _ ⟨reg [(0, pv 0 0)], [cr (z5 1 p b 2), cr (zK p is nr (slV 3 127 q)), .chan 1 (w.map ntE), cr []]⟩
 refine zT (z0 (o_d 1 [(2, iv 0)] (by kernel_rfl) (zF (zC (zT (zT (z0 (o_d 3 [(8, pv 0 0), (7, pv 0 0), (6, pv 0 0)] (by kernel_rfl) (o_s (by refine z6 (v := pv 1 0) rfl rfl ?_; exact rfl) ?_)))))))))
 refine zbO (zcZ [1, 3] [cr (zK p is nr (slV 1 127 q)), cr []] [pv 0 0] (PVersionC h_plane_Plane_Version p is nr q) rfl rfl ⟨⟨_, rfl, zZ (.inl (zaK (qN q rfl) (fun q => q)))⟩, ⟨⟨_, rfl, zG⟩, trivial⟩⟩ (by decide) ?_)
 rintro v1 h1' ⟨rfl, rfl⟩
 refine ⟨(zA zD (zA zD z4)), .tuple #[iv (p 0), bv is], [cr (z5 1 p b 2), cr (zK p is nr (slV 3 127 q)), .chan 1 (w.map ntE), cr []], [], (qE rfl), ⟨rfl, ⟨rfl, ⟨rfl, ⟨(by cases true <;> rfl), trivial⟩⟩⟩⟩, trivial, ?_⟩
 refine o_d 5 [(4, bv is), (3, iv (p 0)), (12, bv is), (11, iv (p 0)), (5, .tuple #[iv (p 0), bv is])] (by kernel_rfl) (zF (zC (zT (z0 (o_d 1 [(13, bv is)] (by kernel_rfl) (zF (zC (zaJ (t := is) rfl (fun h1 => ?_) (fun h1 => ?_)))))))))
 ·skip
  exact zT (z0 (o_d 2 [(2, iv (p 0)), (14, iv (p 0))] (by kernel_rfl) (zF (zC (zbr (⟨trivial, ⟨reg [(2, iv (p 0))], [cr (z5 1 p b 2), cr (zK p is nr (slV 3 127 q)), .chan 1 (w.map ntE), cr []]⟩, Wk.ren [0, 1, 2, 3] rfl rfl (by decide) ⟨rfl, trivial⟩ ⟨.inl (zaO rfl rfl), ⟨.inl (qZ (qN q rfl)), ⟨.inl (congrArg some (qX _).symm), ⟨.inl rfl, trivial⟩⟩⟩⟩, [iv (p 0)], (qB rfl rfl), (zS rfl z1), (by simp [qJ, one, *]), rfl⟩))))))
 exact zaC (zC (zT (z0 (o_d 1 [(2, iv (-1))] (by kernel_rfl) (zF (zC (zbr (⟨trivial, ⟨reg [(2, iv (-1))], [cr (z5 1 p b 2), cr (zK p is nr (slV 3 127 q)), .chan 1 (w.map ntE), cr []]⟩, Wk.ren [0, 1, 2, 3] rfl rfl (by decide) ⟨rfl, trivial⟩ ⟨.inl (zaO rfl rfl), ⟨.inl (qZ (qN q rfl)), ⟨.inl (congrArg some (qX _).symm), ⟨.inl rfl, trivial⟩⟩⟩⟩, [iv (-1)], (qB rfl rfl), (zS rfl z1), (by simp [qJ, one, *]), rfl⟩))))))))
theorem ULoadC {P : Program} (hc : zbu P) (h_plane_Plane_Load : zaW P) (h_plane_maybe_api_Pool_lay : qR P) (h_wheel_Make : zbH P) (h_wheel_spun : zbj P) (h_sip_Words : zbo P) (h_sip_Of : zcx P) (h_sip_number_byte : qU P) (h_sip_state_take : zaa P) (h_sip_state_rounds : qK P) (h_sip_state_round : qM P) (h_math_bits_RotateLeft64 : zV P) (p : qO) (is : Bool) (nr : Nat → Int × Bool) (q : Option Nat) (b : Int) (w : List Nt) (x : qO) :
    Env P "(*roundhouse/yard.unit).load" [pv 0 0, qG x] ([cw (z5 1 p b 2), cw (zK p is nr (slV 3 127 q)), .chan 1 (w.map ntE), cr []]) (fun v h' => v = .tuple #[] ∧ ∃ m, h' = [cw (z5 1 x b 2), cw (zK x true nr (slV 4 127 (some m))), .chan 1 (w.map ntE), cr [], slB zI (ii (zaw x)) (some m)]) := by
 refine Env.by2 hc ?_
 unfold zdA
 show GC _ 4 _ _ ⟨reg [(0, pv 0 0), (1, qG x)], [cw (z5 1 p b 2), cw (zK p is nr (slV 3 127 q)), .chan 1 (w.map ntE), cr []]⟩
 refine zT (z0 (o_b 1 [(3, pv 4 0)] [cw (z5 1 p b 2), cw (zK p is nr (slV 3 127 q)), .chan 1 (w.map ntE), cr [], cw (pl x)] (by kernel_rfl) (zF (zC (zT (z0 (o_d 1 [(4, pv 0 0)] (by kernel_rfl) (o_s (by refine z6 (v := qG x) rfl rfl ?_; exact zaU x) ?_))))))))
 refine o_d 2 [(7, pv 0 1), (6, pv 0 0)] (by kernel_rfl) (zeC (by refine qY (c' := z5 1 x b 2) rfl rfl rfl ?_ ?_ ?_; exact zN _; exact unit_le (by omega); exact unit_wP) ?_)
 refine zF (zC (zbq [cw (z5 1 x b 2), cw (zK p is nr (slV 3 127 q)), .chan 1 (w.map ntE), cr [], cw (pl x)] (by kernel_rfl) (d_n 3 3 5 [(10, pv 0 0), (9, pv 0 0), (8, pv 0 0)] [cw (z5 1 x b 2), cw (zK p is nr (slV 3 127 q)), .chan 1 (w.map ntE), cr [], cw (pl x)] [] (by kernel_rfl) rfl rfl (d_s rfl rfl rfl (by kernel_rfl) (by refine z6 (v := pv 1 0) rfl rfl ?_; exact rfl) ?_))))
 refine d_s rfl rfl rfl (by kernel_rfl) (by refine z6 (v := qG x) rfl rfl ?_; exact zaU x) ?_
 refine zga [1, 3] [cw (zK p is nr (slV 1 127 q)), cr []] [pv 0 0, qG x] (PLoadC h_plane_Plane_Load h_plane_maybe_api_Pool_lay h_wheel_Make h_wheel_spun h_sip_Words h_sip_Of h_sip_number_byte h_sip_state_take h_sip_state_rounds h_sip_state_round h_math_bits_RotateLeft64 p is nr q x) rfl (zan rfl (zan (qE (zaA x)) rfl)) ⟨⟨_, rfl, zZ (.inl (zaK (qN q rfl) (fun q => rfl)))⟩, ⟨⟨_, rfl, zG⟩, trivial⟩⟩ (by decide) ⟨_, _, ⟨rfl, 0, rfl⟩, Nat.le_add_right 2 1, zfM rfl (za0 [_] [_])⟩ ?_ (by kernel_rfl)
 rintro v1 h1' ⟨rfl, m1, rfl⟩
 refine ⟨(zA qD (zA zD z4)), .tuple #[], [cw (z5 1 x b 2), cw (zK x true nr (slV 5 127 (some m1))), .chan 1 (w.map ntE), cr [], cw (pl x)], [slB zI (ii (zaw x)) (some m1)], (by simp [zbw]), ⟨rfl, ⟨zbb rfl, ⟨rfl, ⟨(by cases true <;> rfl), ⟨rfl, trivial⟩⟩⟩⟩⟩, ⟨(Option.some.inj (zaz (some m1) (fun _ => (zca _ _)))).symm, trivial⟩, ?_⟩
 exact zbW (⟨trivial, ⟨reg [], [cw (z5 1 x b 2), cw (zK x true nr (slV 4 127 (some m1))), .chan 1 (w.map ntE), cr [], slB zI (ii (zaw x)) (some m1)]⟩, Wk.ren [0, 1, 2, 3, 5] rfl rfl (by decide) trivial ⟨.inl (zaO rfl rfl), ⟨.inl (qZ rfl), ⟨.inl (congrArg some (qX _).symm), ⟨.inl rfl, ⟨.inl (zaz (some m1) (fun _ => (zca _ _))), trivial⟩⟩⟩⟩⟩, [], rfl, z1, rfl, m1, rfl⟩)
end Go.Rh

set_option maxHeartbeats 8000000
namespace Go.Rh
def atS (l : List Nt) (k : Int) : Nt × Bool := if 0 ≤ k ∧ k < l.length then (l.getD k.toNat n0, true) else (n0, false)
def uhS (p : qO) (is : Bool) (b : Int) (n : Nt) : qO × Bool :=
 if n.b ≠ b then (p, is)
 else if n.w = true ∧ qJ p is < n.p 0 then (n.p, true)
 else if n.w = false ∧ 0 ≤ qJ p is ∧ n.v = i64.wrap (qJ p is + 1) ∧ (z2 p n.e).2 = 0 then ((z2 p n.e).1, true)
 else (p, is)
theorem UHearC {P : Program} (hc : zbP P) (h_yard_unit_version : za3 P) (h_plane_Plane_Version : zap P) (h_yard_unit_load : zbu P) (h_plane_Plane_Load : zaW P) (h_plane_maybe_api_Pool_lay : qR P) (h_wheel_Make : zbH P) (h_wheel_spun : zbj P) (h_sip_Words : zbo P) (h_sip_Of : zcx P) (h_sip_number_byte : qU P) (h_sip_state_take : zaa P) (h_sip_state_rounds : qK P) (h_sip_state_round : qM P) (h_math_bits_RotateLeft64 : zV P) (h_pool_Apply : zaI P) (h_pool_may : zaP P) (h_pool_held : zaG P) (h_pool_fits : zaM P) (h_pool_Check : zaB P) (h_pool_placed : zai P) (h_cookie_Next : zaq P) (p : qO) (is : Bool) (nr : Nat → Int × Bool) (q : Option Nat) (b : Int) (nt : Nt) (i : Int) :
    Env P "(*roundhouse/yard.unit).hear" [pv 0 0, iv i] ([cw (z5 1 p b 2), cw (zK p is nr (slV 3 127 q)), .chan 1 (([nt]).map ntE), cr []]) (fun v h' => v = .tuple #[ntV i b (qJ (uhS p is b nt).1 (uhS p is b nt).2) false true e0 zH, bv true] ∧ (((uhS p is b nt) = (p, is) ∧ h' = [cw (z5 1 p b 2), cw (zK p is nr (slV 3 127 q)), .chan 1 (([] : List Nt).map ntE), cr []]) ∨ ((uhS p is b nt).2 = true ∧ ∃ m, h' = [cw (z5 1 ((uhS p is b nt).1) b 2), cw (zK ((uhS p is b nt).1) true nr (slV 4 127 (some m))), .chan 1 (([] : List Nt).map ntE), cr [], slB zI (ii (zaw ((uhS p is b nt).1))) (some m)]))) := by
 refine Env.by3 hc ?_
 unfold zdB
 show GC _ 4 _ _ ⟨reg [(0, pv 0 0), (1, iv i)], [cw (z5 1 p b 2), cw (zK p is nr (slV 3 127 q)), .chan 1 (([nt]).map ntE), cr []]⟩
 refine zT (z0 (o_b 2 [(5, bv false), (4, pv 4 0)] [cw (z5 1 p b 2), cw (zK p is nr (slV 3 127 q)), .chan 1 (([nt]).map ntE), cr [], cw (ntF 0 0 0 false false e0 zH)] (by kernel_rfl) (zF (zC (zT (z0 (o_d 3 [(12, pv 0 332), (11, pv 0 0), (10, pv 0 0)] (by kernel_rfl) (o_s (by refine z6 (v := .chan (some 2)) rfl rfl ?_; exact (zdu 1).trans rfl) ?_))))))))
 refine zF (zC (zT (z0 (o_sel1 (k := 2) (v := ntE nt) (b := ([] : List Nt).map ntE) rfl rfl (o_d 2 [(16, bv true), (15, iv 0)] (by kernel_rfl) (zF (zC (zak (zd5 rfl (zT (z0 (o_b 2 [(6, pv 5 0), (18, ntE nt)] [cw (z5 1 p b 2), cw (zK p is nr (slV 3 127 q)), .chan 1 (([] : List Nt).map ntE), cr [], cw (ntF 0 0 0 false false e0 zH), cw (ntF 0 0 0 false false e0 zH)] (by kernel_rfl) ?_))))))))))))
 refine zeC (by refine qY (c' := ntL nt) rfl rfl rfl ?_ ?_ ?_; exact z8 _ _ _ _ _ _ _; exact zcR (by omega); exact zbh) ?_
 refine zF (zC (zT (z0 (o_d 1 [(19, pv 0 0)] (by kernel_rfl) (zbO (zcZ [0, 1, 2, 3] [cr (z5 1 p b 2), cr (zK p is nr (slV 3 127 q)), .chan 1 (([] : List Nt).map ntE), cr []] [pv 0 0] (zdr h_yard_unit_version h_plane_Plane_Version p is nr q b ([])) rfl rfl ⟨⟨_, rfl, zZ (.inl (zbB rfl rfl (fun q => rfl)))⟩, ⟨⟨_, rfl, zZ (.inl (zaK (qN q rfl) (fun q => rfl)))⟩, ⟨⟨_, rfl, zZ (.inl (zcg _))⟩, ⟨⟨_, rfl, zG⟩, trivial⟩⟩⟩⟩ (by decide) ?_))))))
 rintro v1 h1' ⟨rfl, rfl⟩
 refine ⟨(zA zD (zA zD (zA zD (zA zD z4)))), iv (qJ p is), [cw (z5 1 p b 2), cw (zK p is nr (slV 3 127 q)), .chan 1 (([] : List Nt).map ntE), cr [], cw (ntF 0 0 0 false false e0 zH), cw (ntL nt)], [], rfl, ⟨rfl, ⟨rfl, ⟨qX _, ⟨(by cases true <;> rfl), ⟨rfl, ⟨rfl, trivial⟩⟩⟩⟩⟩⟩, trivial, ?_⟩
 refine o_d 1 [(7, iv (qJ p is))] (by kernel_rfl) (zF (zC (zT (zak (zT (zdz ["roundhouse/pool.Apply"] (by kernel_rfl) (r_d 1 [(22, pv 5 1)] (by kernel_rfl) (r_s (by refine z6 (v := iv nt.b) rfl rfl ?_; exact zdx rfl) ?_))))))))
 refine r_d 3 [(26, pv 0 331), (25, pv 0 0), (24, pv 0 0)] (by kernel_rfl) (r_s (by refine z6 (v := iv b) rfl rfl ?_; exact (zdu 0).trans rfl) ?_)
 refine r_d 2 [(21, bv (nt.b != b)), (28, bv (nt.b != b))] (by kernel_rfl) (zc7 (zC (zaJ (t := nt.b != b) rfl (fun h1 => ?_) (fun h1 => ?_))))
 ·skip
  have h1' : nt.b ≠ b := neI_t h1
  refine zaC (z9 [(4, pv 4 0), (0, pv 0 0), (1, iv i)] (by kernel_rfl) (zT (zbq [cw (z5 1 p b 2), cw (zK p is nr (slV 3 127 q)), .chan 1 (([] : List Nt).map ntE), cr [], cw (ntF 0 0 0 false false e0 zH), cw (ntL nt)] (by kernel_rfl) (d_n 4 4 6 [(76, pv 0 331), (75, pv 0 0), (74, pv 0 0), (73, iv i)] [cw (z5 1 p b 2), cw (zK p is nr (slV 3 127 q)), .chan 1 (([] : List Nt).map ntE), cr [], cw (ntF 0 0 0 false false e0 zH), cw (ntL nt)] [] (by kernel_rfl) rfl rfl (d_s rfl rfl rfl (by kernel_rfl) (by refine z6 (v := iv b) rfl rfl ?_; exact (zdu 0).trans rfl) ?_)))))
  refine d_n 1 6 6 [(78, pv 0 0)] [cw (z5 1 p b 2), cw (zK p is nr (slV 3 127 q)), .chan 1 (([] : List Nt).map ntE), cr [], cw (ntF 0 0 0 false false e0 zH), cw (ntL nt)] [⟨4, [0], [], none⟩] (by kernel_rfl) rfl rfl (zga [0, 1, 2, 3] [cr (z5 1 p b 2), cr (zK p is nr (slV 3 127 q)), .chan 1 (([] : List Nt).map ntE), cr []] [pv 0 0] (zdr h_yard_unit_version h_plane_Plane_Version p is nr q b ([])) rfl rfl ⟨⟨_, rfl, zZ (.inl (zbB rfl rfl (fun q => rfl)))⟩, ⟨⟨_, rfl, zZ (.inl (zaK (qN q rfl) (fun q => rfl)))⟩, ⟨⟨_, rfl, zZ (.inl (zcg _))⟩, ⟨⟨_, rfl, zG⟩, trivial⟩⟩⟩⟩ (by decide) ⟨_, _, ⟨rfl, rfl⟩, Nat.le_refl _, za0 [_, _, _, _] []⟩ ?_ (by kernel_rfl))
  rintro v1 h1' ⟨rfl, rfl⟩
  refine ⟨(zA zD (zA zD (zA zD (zA zD z4)))), iv (qJ p is), [cw (z5 1 p b 2), cw (zK p is nr (slV 3 127 q)), .chan 1 (([] : List Nt).map ntE), cr [], cw (ntF 0 0 0 false false e0 zH), cw (ntL nt)], [], rfl, ⟨rfl, ⟨rfl, ⟨qX _, ⟨(by cases true <;> rfl), ⟨rfl, ⟨rfl, trivial⟩⟩⟩⟩⟩⟩, trivial, ?_⟩
  refine d_s rfl rfl rfl (by kernel_rfl) (by refine zck (c := ntF i b (qJ p is) false true e0 zH) ?_; exact zhF rfl) ?_
  refine d_s0 rfl rfl ⟨_, _, _, rfl⟩ (by kernel_rfl) (by refine qY (c' := ntF i b (qJ p is) false true e0 zH) rfl rfl rfl ?_ ?_ ?_; exact z8 _ _ _ _ _ _ _; exact zcR (by omega); exact zbh) ?_
  refine d_n 1 10 6 [(5, bv true)] [cw (z5 1 p b 2), cw (zK p is nr (slV 3 127 q)), .chan 1 (([] : List Nt).map ntE), cr [], cw (ntF i b (qJ p is) false true e0 zH), cw (ntL nt)] [⟨8, [4], [4], none⟩, ⟨6, [0, 1, 2, 3], [2], some 6⟩, ⟨4, [0], [], none⟩] (by kernel_rfl) rfl rfl (zbW (zC (zbr ?_)))
  have hH : (uhS p is b nt) = (p, is) := by simp [uhS, h1, h1']
  exact ⟨trivial, [ntV i b (qJ p is) false true e0 zH, bv true], (zcG rfl rfl (zbx i b (qJ p is) false true e0 zH) (qB rfl rfl)), (zS rfl (zS rfl z1)), (all_cons (zaV i b (qJ p is) false true e0 zH) (all_cons rfl rfl)), ⟨reg [], [cw (z5 1 p b 2), cw (zK p is nr (slV 3 127 q)), .chan 1 (([] : List Nt).map ntE), cr []]⟩, Wk.ren [0, 1, 2, 3] rfl rfl (by decide) trivial ⟨.inl (zaO rfl rfl), ⟨.inl (qZ (qN q rfl)), ⟨.inl (congrArg some (qX _).symm), ⟨.inl rfl, trivial⟩⟩⟩⟩, (by rw [hH]; rfl), .inl ⟨hH, rfl⟩⟩
 have h1' : ¬ (nt.b ≠ b) := neI_f h1
 refine zT (z0 (o_d 1 [(30, pv 5 3)] (by kernel_rfl) (o_s (by refine z6 (v := bv nt.w) rfl rfl ?_; exact zdx rfl) ?_)))
 refine o_d 1 [(32, bv nt.w)] (by kernel_rfl) (o_sp (b := nt.w) 32 rfl (fun h2 => ?_) (fun h2 => ?_))
 ·skip
  refine o_d 3 [(35, pv 5 12), (34, pv 5 12), (33, iv (qJ p is))] (by kernel_rfl) (zd2 rfl (o_s (by refine z6 (v := iv (nt.p 0)) rfl rfl ?_; exact (nt_rP 0).trans (pl_r nt.p 0 rfl (by omega))) ?_))
  refine o_d 3 [(29, bv (decide (qJ p is < nt.p 0))), (38, bv (decide (qJ p is < nt.p 0))), (37, bv (decide (qJ p is < nt.p 0)))] (by kernel_rfl) (zF (z9 [(29, bv (decide (qJ p is < nt.p 0))), (7, iv (qJ p is)), (6, pv 5 0), (4, pv 4 0), (0, pv 0 0), (1, iv i)] (by kernel_rfl) (zaJ (t := decide (qJ p is < nt.p 0)) rfl (fun h3 => ?_) (fun h3 => ?_))))
  ·skip
   have h3' : qJ p is < nt.p 0 := of_decide_eq_true h3
   refine z0 (o_d 2 [(40, pv 5 12), (39, pv 0 0)] (by kernel_rfl) (o_s (by refine z6 (v := qG nt.p) rfl rfl ?_; exact (nt_rP 0).trans (zaU nt.p)) ?_))
   refine zbO (zcZ [0, 1, 2, 3] [cw (z5 1 p b 2), cw (zK p is nr (slV 3 127 q)), .chan 1 (([] : List Nt).map ntE), cr []] [pv 0 0, qG nt.p] (ULoadC h_yard_unit_load h_plane_Plane_Load h_plane_maybe_api_Pool_lay h_wheel_Make h_wheel_spun h_sip_Words h_sip_Of h_sip_number_byte h_sip_state_take h_sip_state_rounds h_sip_state_round h_math_bits_RotateLeft64 p is nr q b ([]) nt.p) rfl (zan rfl (zan (qE (zaA nt.p)) rfl)) ⟨⟨_, rfl, zZ (.inl (zbB rfl rfl (fun q => rfl)))⟩, ⟨⟨_, rfl, zZ (.inl (zaK (qN q rfl) (fun q => rfl)))⟩, ⟨⟨_, rfl, zZ (.inl (zcg _))⟩, ⟨⟨_, rfl, zG⟩, trivial⟩⟩⟩⟩ (by decide) ?_)
   rintro v1 h1' ⟨rfl, m4, rfl⟩
   refine ⟨(zA qD (zA qD (zA zD (zA zD z4)))), .tuple #[], [cw (z5 1 nt.p b 2), cw (zK nt.p true nr (slV 6 127 (some m4))), .chan 1 (([] : List Nt).map ntE), cr [], cw (ntF 0 0 0 false false e0 zH), cw (ntL nt)], [slB zI (ii (zaw nt.p)) (some m4)], (by simp [zbw]), ⟨zcn rfl rfl, ⟨zbb rfl, ⟨qX _, ⟨(by cases true <;> rfl), ⟨rfl, ⟨rfl, trivial⟩⟩⟩⟩⟩⟩, ⟨(Option.some.inj (zaz (some m4) (fun _ => (zca _ _)))).symm, trivial⟩, ?_⟩
   refine zF (zC (zT (zbq [cw (z5 1 nt.p b 2), cw (zK nt.p true nr (slV 6 127 (some m4))), .chan 1 (([] : List Nt).map ntE), cr [], cw (ntF 0 0 0 false false e0 zH), cw (ntL nt), slB zI (ii (zaw nt.p)) (some m4)] (by kernel_rfl) (d_n 4 4 7 [(76, pv 0 331), (75, pv 0 0), (74, pv 0 0), (73, iv i)] [cw (z5 1 nt.p b 2), cw (zK nt.p true nr (slV 6 127 (some m4))), .chan 1 (([] : List Nt).map ntE), cr [], cw (ntF 0 0 0 false false e0 zH), cw (ntL nt), slB zI (ii (zaw nt.p)) (some m4)] [] (by kernel_rfl) rfl rfl (d_s rfl rfl rfl (by kernel_rfl) (by refine z6 (v := iv b) rfl rfl ?_; exact (zdu 0).trans rfl) ?_)))))
   refine d_n 1 6 7 [(78, pv 0 0)] [cw (z5 1 nt.p b 2), cw (zK nt.p true nr (slV 6 127 (some m4))), .chan 1 (([] : List Nt).map ntE), cr [], cw (ntF 0 0 0 false false e0 zH), cw (ntL nt), slB zI (ii (zaw nt.p)) (some m4)] [⟨4, [0], [], none⟩] (by kernel_rfl) rfl rfl (zga [0, 1, 2, 6] [cr (z5 1 nt.p b 2), cr (zK nt.p true nr (slV 3 127 (some m4))), .chan 1 (([] : List Nt).map ntE), cr []] [pv 0 0] (zdr h_yard_unit_version h_plane_Plane_Version nt.p true nr (some m4) b ([])) rfl rfl ⟨⟨_, rfl, zZ (.inl (zbB rfl rfl (fun q => rfl)))⟩, ⟨⟨_, rfl, zZ (.inl (zaK rfl (fun q => rfl)))⟩, ⟨⟨_, rfl, zZ (.inl (zcg _))⟩, ⟨⟨_, rfl, view_hidS (some m4)⟩, trivial⟩⟩⟩⟩ (by decide) ⟨_, _, ⟨rfl, rfl⟩, Nat.le_refl _, za0 [_, _, _, _] []⟩ ?_ (by kernel_rfl))
   rintro v1 h1' ⟨rfl, rfl⟩
   refine ⟨(zA zD (zA zD (zA zD (zA zD z4)))), iv (qJ nt.p true), [cw (z5 1 nt.p b 2), cw (zK nt.p true nr (slV 6 127 (some m4))), .chan 1 (([] : List Nt).map ntE), cr [], cw (ntF 0 0 0 false false e0 zH), cw (ntL nt), slB zI (ii (zaw nt.p)) (some m4)], [], rfl, ⟨rfl, ⟨rfl, ⟨qX _, ⟨rfl, ⟨rfl, ⟨rfl, ⟨rfl, trivial⟩⟩⟩⟩⟩⟩⟩, trivial, ?_⟩
   refine d_s rfl rfl rfl (by kernel_rfl) (by refine zck (c := ntF i b (qJ nt.p true) false true e0 zH) ?_; exact zhF rfl) ?_
   refine d_s0 rfl rfl ⟨_, _, _, rfl⟩ (by kernel_rfl) (by refine qY (c' := ntF i b (qJ nt.p true) false true e0 zH) rfl rfl rfl ?_ ?_ ?_; exact z8 _ _ _ _ _ _ _; exact zcR (by omega); exact zbh) ?_
   refine d_n 1 10 7 [(5, bv true)] [cw (z5 1 nt.p b 2), cw (zK nt.p true nr (slV 6 127 (some m4))), .chan 1 (([] : List Nt).map ntE), cr [], cw (ntF i b (qJ nt.p true) false true e0 zH), cw (ntL nt), slB zI (ii (zaw nt.p)) (some m4)] [⟨8, [4], [4], none⟩, ⟨6, [0, 1, 2, 6], [2], some 7⟩, ⟨4, [0], [], none⟩] (by kernel_rfl) rfl rfl (zbW (zC (zbr ?_)))
   have hH : (uhS p is b nt) = (nt.p, true) := by simp [uhS, h1, h1', h2, h3, h3']
   exact ⟨trivial, [ntV i b (qJ nt.p true) false true e0 zH, bv true], (zcG rfl rfl (zbx i b (qJ nt.p true) false true e0 zH) (qB rfl rfl)), (zS rfl (zS rfl z1)), (all_cons (zaV i b (qJ nt.p true) false true e0 zH) (all_cons rfl rfl)), ⟨reg [], [cw (z5 1 nt.p b 2), cw (zK nt.p true nr (slV 4 127 (some m4))), .chan 1 (([] : List Nt).map ntE), cr [], slB zI (ii (zaw nt.p)) (some m4)]⟩, Wk.ren [0, 1, 2, 3, 6] rfl rfl (by decide) trivial ⟨.inl (zaO rfl rfl), ⟨.inl (qZ rfl), ⟨.inl (congrArg some (qX _).symm), ⟨.inl rfl, ⟨.inl (zaz (some m4) (fun _ => (zca _ _))), trivial⟩⟩⟩⟩⟩, (by rw [hH]; rfl), .inr ⟨by rw [hH], m4, (by rw [hH])⟩⟩
  have h3' : ¬ (qJ p is < nt.p 0) := of_decide_eq_false h3
  refine zT (z0 (o_d 1 [(44, pv 5 3)] (by kernel_rfl) (o_s (by refine z6 (v := bv nt.w) rfl rfl ?_; exact zdx rfl) ?_)))
  refine o_d 2 [(47, bv (!nt.w)), (46, bv (!nt.w))] (by kernel_rfl) (o_sp (b := !nt.w) 47 rfl (fun q => by rw [(by rw [h2]; rfl : (!nt.w) = false)] at q; cases q) (fun k5 => ?_))
  refine o_d 11 [(43, bv false), (57, bv false), (56, undef), (55, undef), (54, undef), (53, undef), (52, undef), (51, bv false), (50, bv false), (49, undef), (48, undef)] (by kernel_rfl) (zF (zC (zbU rfl (zaC (zC (zT (zbq [cw (z5 1 p b 2), cw (zK p is nr (slV 3 127 q)), .chan 1 (([] : List Nt).map ntE), cr [], cw (ntF 0 0 0 false false e0 zH), cw (ntL nt)] (by kernel_rfl) (d_n 4 4 6 [(76, pv 0 331), (75, pv 0 0), (74, pv 0 0), (73, iv i)] [cw (z5 1 p b 2), cw (zK p is nr (slV 3 127 q)), .chan 1 (([] : List Nt).map ntE), cr [], cw (ntF 0 0 0 false false e0 zH), cw (ntL nt)] [] (by kernel_rfl) rfl rfl (d_s rfl rfl rfl (by kernel_rfl) (by refine z6 (v := iv b) rfl rfl ?_; exact (zdu 0).trans rfl) ?_)))))))))
  refine d_n 1 6 6 [(78, pv 0 0)] [cw (z5 1 p b 2), cw (zK p is nr (slV 3 127 q)), .chan 1 (([] : List Nt).map ntE), cr [], cw (ntF 0 0 0 false false e0 zH), cw (ntL nt)] [⟨4, [0], [], none⟩] (by kernel_rfl) rfl rfl (zga [0, 1, 2, 3] [cr (z5 1 p b 2), cr (zK p is nr (slV 3 127 q)), .chan 1 (([] : List Nt).map ntE), cr []] [pv 0 0] (zdr h_yard_unit_version h_plane_Plane_Version p is nr q b ([])) rfl rfl ⟨⟨_, rfl, zZ (.inl (zbB rfl rfl (fun q => rfl)))⟩, ⟨⟨_, rfl, zZ (.inl (zaK (qN q rfl) (fun q => rfl)))⟩, ⟨⟨_, rfl, zZ (.inl (zcg _))⟩, ⟨⟨_, rfl, zG⟩, trivial⟩⟩⟩⟩ (by decide) ⟨_, _, ⟨rfl, rfl⟩, Nat.le_refl _, za0 [_, _, _, _] []⟩ ?_ (by kernel_rfl))
  rintro v1 h1' ⟨rfl, rfl⟩
  refine ⟨(zA zD (zA zD (zA zD (zA zD z4)))), iv (qJ p is), [cw (z5 1 p b 2), cw (zK p is nr (slV 3 127 q)), .chan 1 (([] : List Nt).map ntE), cr [], cw (ntF 0 0 0 false false e0 zH), cw (ntL nt)], [], rfl, ⟨rfl, ⟨rfl, ⟨qX _, ⟨(by cases true <;> rfl), ⟨rfl, ⟨rfl, trivial⟩⟩⟩⟩⟩⟩, trivial, ?_⟩
  refine d_s rfl rfl rfl (by kernel_rfl) (by refine zck (c := ntF i b (qJ p is) false true e0 zH) ?_; exact zhF rfl) ?_
  refine d_s0 rfl rfl ⟨_, _, _, rfl⟩ (by kernel_rfl) (by refine qY (c' := ntF i b (qJ p is) false true e0 zH) rfl rfl rfl ?_ ?_ ?_; exact z8 _ _ _ _ _ _ _; exact zcR (by omega); exact zbh) ?_
  refine d_n 1 10 6 [(5, bv true)] [cw (z5 1 p b 2), cw (zK p is nr (slV 3 127 q)), .chan 1 (([] : List Nt).map ntE), cr [], cw (ntF i b (qJ p is) false true e0 zH), cw (ntL nt)] [⟨8, [4], [4], none⟩, ⟨6, [0, 1, 2, 3], [2], some 6⟩, ⟨4, [0], [], none⟩] (by kernel_rfl) rfl rfl (zbW (z9 [(5, bv true), (4, pv 4 0)] (by kernel_rfl) (zbr ?_)))
  have hH : (uhS p is b nt) = (p, is) := by simp [uhS, h1, h1', h2, h3, h3']
  exact ⟨trivial, [ntV i b (qJ p is) false true e0 zH, bv true], (zcG rfl rfl (zbx i b (qJ p is) false true e0 zH) (qB rfl rfl)), (zS rfl (zS rfl z1)), (all_cons (zaV i b (qJ p is) false true e0 zH) (all_cons rfl rfl)), ⟨reg [], [cw (z5 1 p b 2), cw (zK p is nr (slV 3 127 q)), .chan 1 (([] : List Nt).map ntE), cr []]⟩, Wk.ren [0, 1, 2, 3] rfl rfl (by decide) trivial ⟨.inl (zaO rfl rfl), ⟨.inl (qZ (qN q rfl)), ⟨.inl (congrArg some (qX _).symm), ⟨.inl rfl, trivial⟩⟩⟩⟩, (by rw [hH]; rfl), .inl ⟨hH, rfl⟩⟩
 refine o_d 7 [(29, bv false), (38, bv false), (37, undef), (36, undef), (35, undef), (34, undef), (33, undef)] (by kernel_rfl) (zF (z9 [(29, bv false), (7, iv (qJ p is)), (6, pv 5 0), (4, pv 4 0), (0, pv 0 0), (1, iv i)] (by kernel_rfl) (zbU rfl (zT (z0 (o_d 1 [(44, pv 5 3)] (by kernel_rfl) (o_s (by refine z6 (v := bv nt.w) rfl rfl ?_; exact zdx rfl) ?_)))))))
 refine o_d 2 [(47, bv (!nt.w)), (46, bv (!nt.w))] (by kernel_rfl) (o_sp (b := !nt.w) 47 rfl (fun k6 => ?_) (fun q => by rw [(by rw [h2]; rfl : (!nt.w) = true)] at q; cases q))
 refine o_d 4 [(51, bv (decide (qJ p is ≥ 0))), (50, bv (decide (qJ p is ≥ 0))), (49, bv (decide (qJ p is ≥ 0))), (48, iv (qJ p is))] (by kernel_rfl) (o_sp (b := decide (qJ p is ≥ 0)) 51 rfl (fun h7 => ?_) (fun h7 => ?_))
 ·skip
  have h7' : qJ p is ≥ 0 := of_decide_eq_true h7
  refine o_d 1 [(52, pv 5 2)] (by kernel_rfl) (zd2 rfl (o_s (by refine z6 (v := iv nt.v) rfl rfl ?_; exact zdx rfl) ?_))
  refine o_d 5 [(43, bv (nt.v == (i64.wrap (qJ p is + 1)))), (57, bv (nt.v == (i64.wrap (qJ p is + 1)))), (56, bv (nt.v == (i64.wrap (qJ p is + 1)))), (55, iv (i64.wrap (qJ p is + 1))), (54, iv (qJ p is))] (by kernel_rfl) (zF (zC (zaJ (t := nt.v == (i64.wrap (qJ p is + 1))) rfl (fun h8 => ?_) (fun h8 => ?_))))
  ·skip
   have h8' : nt.v = i64.wrap (qJ p is + 1) := zhf h8
   refine zT (zdz ["roundhouse/pool.Apply"] (by kernel_rfl) (r_d 3 [(61, pv 0 1), (60, pv 0 0), (59, pv 0 0)] (by kernel_rfl) (r_s (by refine z6 (v := qG p) rfl rfl ?_; exact unit_rP (zaU p)) ?_)))
   refine r_d 1 [(63, pv 5 5)] (by kernel_rfl) (r_s (by refine z6 (v := .agg #[iv nt.e.k, iv nt.e.s, iv nt.e.a, iv nt.e.p, iv nt.e.g, uv nt.e.ka, uv nt.e.kb]) rfl rfl ?_; exact zdx rfl) ?_)
   refine r_cl (ziC (ApplyC h_pool_Apply h_pool_may h_pool_held h_pool_fits h_pool_Check h_pool_placed h_cookie_Next p nt.e) rfl (all_cons (zaA p) (all_cons rfl rfl)) (all_cons (zaL ((z2 p nt.e).1)) (all_cons rfl rfl)) (r_b 4 [(8, pv 6 0), (67, iv ((z2 p nt.e).2)), (66, qG ((z2 p nt.e).1)), (58, .tuple #[qG ((z2 p nt.e).1), iv ((z2 p nt.e).2)])] [cw (z5 1 p b 2), cw (zK p is nr (slV 3 127 q)), .chan 1 (([] : List Nt).map ntE), cr [], cw (ntF 0 0 0 false false e0 zH), cw (ntL nt), cw (pl zH)] (by kernel_rfl) (r_s0 (by refine qY (c' := pl ((z2 p nt.e).1)) rfl rfl rfl ?_ ?_ ?_; exact zN _; exact zeW (by omega); exact zae zH ((z2 p nt.e).1)) ?_)))
   refine r_b 1 [(9, iv ((z2 p nt.e).2))] [cw (z5 1 p b 2), cw (zK p is nr (slV 3 127 q)), .chan 1 (([] : List Nt).map ntE), cr [], cw (ntF 0 0 0 false false e0 zH), cw (ntL nt), cw (pl ((z2 p nt.e).1))] (by kernel_rfl) (zc7 (z9 [(9, iv ((z2 p nt.e).2)), (8, pv 6 0), (4, pv 4 0), (0, pv 0 0), (1, iv i)] (by kernel_rfl) (zT (z0 (o_d 2 [(69, bv (((z2 p nt.e).2) == 0)), (68, iv ((z2 p nt.e).2))] (by kernel_rfl) (zF (zC (zaJ (t := ((z2 p nt.e).2) == 0) rfl (fun h9 => ?_) (fun h9 => ?_)))))))))
   ·skip
    have h9' : (z2 p nt.e).2 = 0 := zhf h9
    refine z0 (o_d 1 [(70, pv 0 0)] (by kernel_rfl) (o_s (by refine z6 (v := qG ((z2 p nt.e).1)) rfl rfl ?_; exact zaU ((z2 p nt.e).1)) ?_))
    refine zbO (zcZ [0, 1, 2, 3] [cw (z5 1 p b 2), cw (zK p is nr (slV 3 127 q)), .chan 1 (([] : List Nt).map ntE), cr []] [pv 0 0, qG ((z2 p nt.e).1)] (ULoadC h_yard_unit_load h_plane_Plane_Load h_plane_maybe_api_Pool_lay h_wheel_Make h_wheel_spun h_sip_Words h_sip_Of h_sip_number_byte h_sip_state_take h_sip_state_rounds h_sip_state_round h_math_bits_RotateLeft64 p is nr q b ([]) ((z2 p nt.e).1)) rfl (zan rfl (zan (qE (zaA ((z2 p nt.e).1))) rfl)) ⟨⟨_, rfl, zZ (.inl (zbB rfl rfl (fun q => rfl)))⟩, ⟨⟨_, rfl, zZ (.inl (zaK (qN q rfl) (fun q => rfl)))⟩, ⟨⟨_, rfl, zZ (.inl (zcg _))⟩, ⟨⟨_, rfl, zG⟩, trivial⟩⟩⟩⟩ (by decide) ?_)
    rintro v1 h1' ⟨rfl, m10, rfl⟩
    refine ⟨(zA qD (zA qD (zA zD (zA zD z4)))), .tuple #[], [cw (z5 1 ((z2 p nt.e).1) b 2), cw (zK ((z2 p nt.e).1) true nr (slV 7 127 (some m10))), .chan 1 (([] : List Nt).map ntE), cr [], cw (ntF 0 0 0 false false e0 zH), cw (ntL nt), cw (pl ((z2 p nt.e).1))], [slB zI (ii (zaw ((z2 p nt.e).1))) (some m10)], (by simp [zbw]), ⟨zcn rfl rfl, ⟨zbb rfl, ⟨qX _, ⟨(by cases true <;> rfl), ⟨rfl, ⟨rfl, ⟨rfl, trivial⟩⟩⟩⟩⟩⟩⟩, ⟨(Option.some.inj (zaz (some m10) (fun _ => (zca _ _)))).symm, trivial⟩, ?_⟩
    refine zF (zC (zT (zbq [cw (z5 1 ((z2 p nt.e).1) b 2), cw (zK ((z2 p nt.e).1) true nr (slV 7 127 (some m10))), .chan 1 (([] : List Nt).map ntE), cr [], cw (ntF 0 0 0 false false e0 zH), cw (ntL nt), cw (pl ((z2 p nt.e).1)), slB zI (ii (zaw ((z2 p nt.e).1))) (some m10)] (by kernel_rfl) (d_n 4 4 8 [(76, pv 0 331), (75, pv 0 0), (74, pv 0 0), (73, iv i)] [cw (z5 1 ((z2 p nt.e).1) b 2), cw (zK ((z2 p nt.e).1) true nr (slV 7 127 (some m10))), .chan 1 (([] : List Nt).map ntE), cr [], cw (ntF 0 0 0 false false e0 zH), cw (ntL nt), cw (pl ((z2 p nt.e).1)), slB zI (ii (zaw ((z2 p nt.e).1))) (some m10)] [] (by kernel_rfl) rfl rfl (d_s rfl rfl rfl (by kernel_rfl) (by refine z6 (v := iv b) rfl rfl ?_; exact (zdu 0).trans rfl) ?_)))))
    refine d_n 1 6 8 [(78, pv 0 0)] [cw (z5 1 ((z2 p nt.e).1) b 2), cw (zK ((z2 p nt.e).1) true nr (slV 7 127 (some m10))), .chan 1 (([] : List Nt).map ntE), cr [], cw (ntF 0 0 0 false false e0 zH), cw (ntL nt), cw (pl ((z2 p nt.e).1)), slB zI (ii (zaw ((z2 p nt.e).1))) (some m10)] [⟨4, [0], [], none⟩] (by kernel_rfl) rfl rfl (zga [0, 1, 2, 7] [cr (z5 1 ((z2 p nt.e).1) b 2), cr (zK ((z2 p nt.e).1) true nr (slV 3 127 (some m10))), .chan 1 (([] : List Nt).map ntE), cr []] [pv 0 0] (zdr h_yard_unit_version h_plane_Plane_Version ((z2 p nt.e).1) true nr (some m10) b ([])) rfl rfl ⟨⟨_, rfl, zZ (.inl (zbB rfl rfl (fun q => rfl)))⟩, ⟨⟨_, rfl, zZ (.inl (zaK rfl (fun q => rfl)))⟩, ⟨⟨_, rfl, zZ (.inl (zcg _))⟩, ⟨⟨_, rfl, view_hidS (some m10)⟩, trivial⟩⟩⟩⟩ (by decide) ⟨_, _, ⟨rfl, rfl⟩, Nat.le_refl _, za0 [_, _, _, _] []⟩ ?_ (by kernel_rfl))
    rintro v1 h1' ⟨rfl, rfl⟩
    refine ⟨(zA zD (zA zD (zA zD (zA zD z4)))), iv (qJ ((z2 p nt.e).1) true), [cw (z5 1 ((z2 p nt.e).1) b 2), cw (zK ((z2 p nt.e).1) true nr (slV 7 127 (some m10))), .chan 1 (([] : List Nt).map ntE), cr [], cw (ntF 0 0 0 false false e0 zH), cw (ntL nt), cw (pl ((z2 p nt.e).1)), slB zI (ii (zaw ((z2 p nt.e).1))) (some m10)], [], rfl, ⟨rfl, ⟨rfl, ⟨qX _, ⟨rfl, ⟨rfl, ⟨rfl, ⟨rfl, ⟨rfl, trivial⟩⟩⟩⟩⟩⟩⟩⟩, trivial, ?_⟩
    refine d_s rfl rfl rfl (by kernel_rfl) (by refine zck (c := ntF i b (qJ ((z2 p nt.e).1) true) false true e0 zH) ?_; exact zhF rfl) ?_
    refine d_s0 rfl rfl ⟨_, _, _, rfl⟩ (by kernel_rfl) (by refine qY (c' := ntF i b (qJ ((z2 p nt.e).1) true) false true e0 zH) rfl rfl rfl ?_ ?_ ?_; exact z8 _ _ _ _ _ _ _; exact zcR (by omega); exact zbh) ?_
    refine d_n 1 10 8 [(5, bv true)] [cw (z5 1 ((z2 p nt.e).1) b 2), cw (zK ((z2 p nt.e).1) true nr (slV 7 127 (some m10))), .chan 1 (([] : List Nt).map ntE), cr [], cw (ntF i b (qJ ((z2 p nt.e).1) true) false true e0 zH), cw (ntL nt), cw (pl ((z2 p nt.e).1)), slB zI (ii (zaw ((z2 p nt.e).1))) (some m10)] [⟨8, [4], [4], none⟩, ⟨6, [0, 1, 2, 7], [2], some 8⟩, ⟨4, [0], [], none⟩] (by kernel_rfl) rfl rfl (zbW (zC (zbr ?_)))
    have hH : (uhS p is b nt) = ((z2 p nt.e).1, true) := by simp [uhS, h1, h1', h2, h7, h7', h8, h8', h9, h9']
    exact ⟨trivial, [ntV i b (qJ ((z2 p nt.e).1) true) false true e0 zH, bv true], (zcG rfl rfl (zbx i b (qJ ((z2 p nt.e).1) true) false true e0 zH) (qB rfl rfl)), (zS rfl (zS rfl z1)), (all_cons (zaV i b (qJ ((z2 p nt.e).1) true) false true e0 zH) (all_cons rfl rfl)), ⟨reg [], [cw (z5 1 ((z2 p nt.e).1) b 2), cw (zK ((z2 p nt.e).1) true nr (slV 4 127 (some m10))), .chan 1 (([] : List Nt).map ntE), cr [], slB zI (ii (zaw ((z2 p nt.e).1))) (some m10)]⟩, Wk.ren [0, 1, 2, 3, 7] rfl rfl (by decide) trivial ⟨.inl (zaO rfl rfl), ⟨.inl (qZ rfl), ⟨.inl (congrArg some (qX _).symm), ⟨.inl rfl, ⟨.inl (zaz (some m10) (fun _ => (zca _ _))), trivial⟩⟩⟩⟩⟩, (by rw [hH]; rfl), .inr ⟨by rw [hH], m10, (by rw [hH])⟩⟩
   have h9' : ¬ ((z2 p nt.e).2 = 0) := zhg h9
   refine zaC (zC (zT (zbq [cw (z5 1 p b 2), cw (zK p is nr (slV 3 127 q)), .chan 1 (([] : List Nt).map ntE), cr [], cw (ntF 0 0 0 false false e0 zH), cw (ntL nt), cw (pl ((z2 p nt.e).1))] (by kernel_rfl) (d_n 4 4 7 [(76, pv 0 331), (75, pv 0 0), (74, pv 0 0), (73, iv i)] [cw (z5 1 p b 2), cw (zK p is nr (slV 3 127 q)), .chan 1 (([] : List Nt).map ntE), cr [], cw (ntF 0 0 0 false false e0 zH), cw (ntL nt), cw (pl ((z2 p nt.e).1))] [] (by kernel_rfl) rfl rfl (d_s rfl rfl rfl (by kernel_rfl) (by refine z6 (v := iv b) rfl rfl ?_; exact (zdu 0).trans rfl) ?_)))))
   refine d_n 1 6 7 [(78, pv 0 0)] [cw (z5 1 p b 2), cw (zK p is nr (slV 3 127 q)), .chan 1 (([] : List Nt).map ntE), cr [], cw (ntF 0 0 0 false false e0 zH), cw (ntL nt), cw (pl ((z2 p nt.e).1))] [⟨4, [0], [], none⟩] (by kernel_rfl) rfl rfl (zga [0, 1, 2, 3] [cr (z5 1 p b 2), cr (zK p is nr (slV 3 127 q)), .chan 1 (([] : List Nt).map ntE), cr []] [pv 0 0] (zdr h_yard_unit_version h_plane_Plane_Version p is nr q b ([])) rfl rfl ⟨⟨_, rfl, zZ (.inl (zbB rfl rfl (fun q => rfl)))⟩, ⟨⟨_, rfl, zZ (.inl (zaK (qN q rfl) (fun q => rfl)))⟩, ⟨⟨_, rfl, zZ (.inl (zcg _))⟩, ⟨⟨_, rfl, zG⟩, trivial⟩⟩⟩⟩ (by decide) ⟨_, _, ⟨rfl, rfl⟩, Nat.le_refl _, za0 [_, _, _, _] []⟩ ?_ (by kernel_rfl))
   rintro v1 h1' ⟨rfl, rfl⟩
   refine ⟨(zA zD (zA zD (zA zD (zA zD z4)))), iv (qJ p is), [cw (z5 1 p b 2), cw (zK p is nr (slV 3 127 q)), .chan 1 (([] : List Nt).map ntE), cr [], cw (ntF 0 0 0 false false e0 zH), cw (ntL nt), cw (pl ((z2 p nt.e).1))], [], rfl, ⟨rfl, ⟨rfl, ⟨qX _, ⟨(by cases true <;> rfl), ⟨rfl, ⟨rfl, ⟨rfl, trivial⟩⟩⟩⟩⟩⟩⟩, trivial, ?_⟩
   refine d_s rfl rfl rfl (by kernel_rfl) (by refine zck (c := ntF i b (qJ p is) false true e0 zH) ?_; exact zhF rfl) ?_
   refine d_s0 rfl rfl ⟨_, _, _, rfl⟩ (by kernel_rfl) (by refine qY (c' := ntF i b (qJ p is) false true e0 zH) rfl rfl rfl ?_ ?_ ?_; exact z8 _ _ _ _ _ _ _; exact zcR (by omega); exact zbh) ?_
   refine d_n 1 10 7 [(5, bv true)] [cw (z5 1 p b 2), cw (zK p is nr (slV 3 127 q)), .chan 1 (([] : List Nt).map ntE), cr [], cw (ntF i b (qJ p is) false true e0 zH), cw (ntL nt), cw (pl ((z2 p nt.e).1))] [⟨8, [4], [4], none⟩, ⟨6, [0, 1, 2, 3], [2], some 7⟩, ⟨4, [0], [], none⟩] (by kernel_rfl) rfl rfl (zbW (zC (zbr ?_)))
   have hH : (uhS p is b nt) = (p, is) := by simp [uhS, h1, h1', h2, h7, h7', h8, h8', h9, h9']
   exact ⟨trivial, [ntV i b (qJ p is) false true e0 zH, bv true], (zcG rfl rfl (zbx i b (qJ p is) false true e0 zH) (qB rfl rfl)), (zS rfl (zS rfl z1)), (all_cons (zaV i b (qJ p is) false true e0 zH) (all_cons rfl rfl)), ⟨reg [], [cw (z5 1 p b 2), cw (zK p is nr (slV 3 127 q)), .chan 1 (([] : List Nt).map ntE), cr []]⟩, Wk.ren [0, 1, 2, 3] rfl rfl (by decide) trivial ⟨.inl (zaO rfl rfl), ⟨.inl (qZ (qN q rfl)), ⟨.inl (congrArg some (qX _).symm), ⟨.inl rfl, trivial⟩⟩⟩⟩, (by rw [hH]; rfl), .inl ⟨hH, rfl⟩⟩
  have h8' : ¬ (nt.v = i64.wrap (qJ p is + 1)) := zhg h8
  refine zaC (zC (zT (zbq [cw (z5 1 p b 2), cw (zK p is nr (slV 3 127 q)), .chan 1 (([] : List Nt).map ntE), cr [], cw (ntF 0 0 0 false false e0 zH), cw (ntL nt)] (by kernel_rfl) (d_n 4 4 6 [(76, pv 0 331), (75, pv 0 0), (74, pv 0 0), (73, iv i)] [cw (z5 1 p b 2), cw (zK p is nr (slV 3 127 q)), .chan 1 (([] : List Nt).map ntE), cr [], cw (ntF 0 0 0 false false e0 zH), cw (ntL nt)] [] (by kernel_rfl) rfl rfl (d_s rfl rfl rfl (by kernel_rfl) (by refine z6 (v := iv b) rfl rfl ?_; exact (zdu 0).trans rfl) ?_)))))
  refine d_n 1 6 6 [(78, pv 0 0)] [cw (z5 1 p b 2), cw (zK p is nr (slV 3 127 q)), .chan 1 (([] : List Nt).map ntE), cr [], cw (ntF 0 0 0 false false e0 zH), cw (ntL nt)] [⟨4, [0], [], none⟩] (by kernel_rfl) rfl rfl (zga [0, 1, 2, 3] [cr (z5 1 p b 2), cr (zK p is nr (slV 3 127 q)), .chan 1 (([] : List Nt).map ntE), cr []] [pv 0 0] (zdr h_yard_unit_version h_plane_Plane_Version p is nr q b ([])) rfl rfl ⟨⟨_, rfl, zZ (.inl (zbB rfl rfl (fun q => rfl)))⟩, ⟨⟨_, rfl, zZ (.inl (zaK (qN q rfl) (fun q => rfl)))⟩, ⟨⟨_, rfl, zZ (.inl (zcg _))⟩, ⟨⟨_, rfl, zG⟩, trivial⟩⟩⟩⟩ (by decide) ⟨_, _, ⟨rfl, rfl⟩, Nat.le_refl _, za0 [_, _, _, _] []⟩ ?_ (by kernel_rfl))
  rintro v1 h1' ⟨rfl, rfl⟩
  refine ⟨(zA zD (zA zD (zA zD (zA zD z4)))), iv (qJ p is), [cw (z5 1 p b 2), cw (zK p is nr (slV 3 127 q)), .chan 1 (([] : List Nt).map ntE), cr [], cw (ntF 0 0 0 false false e0 zH), cw (ntL nt)], [], rfl, ⟨rfl, ⟨rfl, ⟨qX _, ⟨(by cases true <;> rfl), ⟨rfl, ⟨rfl, trivial⟩⟩⟩⟩⟩⟩, trivial, ?_⟩
  refine d_s rfl rfl rfl (by kernel_rfl) (by refine zck (c := ntF i b (qJ p is) false true e0 zH) ?_; exact zhF rfl) ?_
  refine d_s0 rfl rfl ⟨_, _, _, rfl⟩ (by kernel_rfl) (by refine qY (c' := ntF i b (qJ p is) false true e0 zH) rfl rfl rfl ?_ ?_ ?_; exact z8 _ _ _ _ _ _ _; exact zcR (by omega); exact zbh) ?_
  refine d_n 1 10 6 [(5, bv true)] [cw (z5 1 p b 2), cw (zK p is nr (slV 3 127 q)), .chan 1 (([] : List Nt).map ntE), cr [], cw (ntF i b (qJ p is) false true e0 zH), cw (ntL nt)] [⟨8, [4], [4], none⟩, ⟨6, [0, 1, 2, 3], [2], some 6⟩, ⟨4, [0], [], none⟩] (by kernel_rfl) rfl rfl (zbW (z9 [(5, bv true), (4, pv 4 0)] (by kernel_rfl) (zbr ?_)))
  have hH : (uhS p is b nt) = (p, is) := by simp [uhS, h1, h1', h2, h7, h7', h8, h8']
  exact ⟨trivial, [ntV i b (qJ p is) false true e0 zH, bv true], (zcG rfl rfl (zbx i b (qJ p is) false true e0 zH) (qB rfl rfl)), (zS rfl (zS rfl z1)), (all_cons (zaV i b (qJ p is) false true e0 zH) (all_cons rfl rfl)), ⟨reg [], [cw (z5 1 p b 2), cw (zK p is nr (slV 3 127 q)), .chan 1 (([] : List Nt).map ntE), cr []]⟩, Wk.ren [0, 1, 2, 3] rfl rfl (by decide) trivial ⟨.inl (zaO rfl rfl), ⟨.inl (qZ (qN q rfl)), ⟨.inl (congrArg some (qX _).symm), ⟨.inl rfl, trivial⟩⟩⟩⟩, (by rw [hH]; rfl), .inl ⟨hH, rfl⟩⟩
 have h7' : ¬ (qJ p is ≥ 0) := of_decide_eq_false h7
 refine o_d 7 [(43, bv false), (57, bv false), (56, undef), (55, undef), (54, undef), (53, undef), (52, undef)] (by kernel_rfl) (zF (zC (zbU rfl (zaC (zC (zT (zbq [cw (z5 1 p b 2), cw (zK p is nr (slV 3 127 q)), .chan 1 (([] : List Nt).map ntE), cr [], cw (ntF 0 0 0 false false e0 zH), cw (ntL nt)] (by kernel_rfl) (d_n 4 4 6 [(76, pv 0 331), (75, pv 0 0), (74, pv 0 0), (73, iv i)] [cw (z5 1 p b 2), cw (zK p is nr (slV 3 127 q)), .chan 1 (([] : List Nt).map ntE), cr [], cw (ntF 0 0 0 false false e0 zH), cw (ntL nt)] [] (by kernel_rfl) rfl rfl (d_s rfl rfl rfl (by kernel_rfl) (by refine z6 (v := iv b) rfl rfl ?_; exact (zdu 0).trans rfl) ?_)))))))))
 refine d_n 1 6 6 [(78, pv 0 0)] [cw (z5 1 p b 2), cw (zK p is nr (slV 3 127 q)), .chan 1 (([] : List Nt).map ntE), cr [], cw (ntF 0 0 0 false false e0 zH), cw (ntL nt)] [⟨4, [0], [], none⟩] (by kernel_rfl) rfl rfl (zga [0, 1, 2, 3] [cr (z5 1 p b 2), cr (zK p is nr (slV 3 127 q)), .chan 1 (([] : List Nt).map ntE), cr []] [pv 0 0] (zdr h_yard_unit_version h_plane_Plane_Version p is nr q b ([])) rfl rfl ⟨⟨_, rfl, zZ (.inl (zbB rfl rfl (fun q => rfl)))⟩, ⟨⟨_, rfl, zZ (.inl (zaK (qN q rfl) (fun q => rfl)))⟩, ⟨⟨_, rfl, zZ (.inl (zcg _))⟩, ⟨⟨_, rfl, zG⟩, trivial⟩⟩⟩⟩ (by decide) ⟨_, _, ⟨rfl, rfl⟩, Nat.le_refl _, za0 [_, _, _, _] []⟩ ?_ (by kernel_rfl))
 rintro v1 h1' ⟨rfl, rfl⟩
 refine ⟨(zA zD (zA zD (zA zD (zA zD z4)))), iv (qJ p is), [cw (z5 1 p b 2), cw (zK p is nr (slV 3 127 q)), .chan 1 (([] : List Nt).map ntE), cr [], cw (ntF 0 0 0 false false e0 zH), cw (ntL nt)], [], rfl, ⟨rfl, ⟨rfl, ⟨qX _, ⟨(by cases true <;> rfl), ⟨rfl, ⟨rfl, trivial⟩⟩⟩⟩⟩⟩, trivial, ?_⟩
 refine d_s rfl rfl rfl (by kernel_rfl) (by refine zck (c := ntF i b (qJ p is) false true e0 zH) ?_; exact zhF rfl) ?_
 refine d_s0 rfl rfl ⟨_, _, _, rfl⟩ (by kernel_rfl) (by refine qY (c' := ntF i b (qJ p is) false true e0 zH) rfl rfl rfl ?_ ?_ ?_; exact z8 _ _ _ _ _ _ _; exact zcR (by omega); exact zbh) ?_
 refine d_n 1 10 6 [(5, bv true)] [cw (z5 1 p b 2), cw (zK p is nr (slV 3 127 q)), .chan 1 (([] : List Nt).map ntE), cr [], cw (ntF i b (qJ p is) false true e0 zH), cw (ntL nt)] [⟨8, [4], [4], none⟩, ⟨6, [0, 1, 2, 3], [2], some 6⟩, ⟨4, [0], [], none⟩] (by kernel_rfl) rfl rfl (zbW (z9 [(5, bv true), (4, pv 4 0)] (by kernel_rfl) (zbr ?_)))
 have hH : (uhS p is b nt) = (p, is) := by simp [uhS, h1, h1', h2, h7, h7']
 exact ⟨trivial, [ntV i b (qJ p is) false true e0 zH, bv true], (zcG rfl rfl (zbx i b (qJ p is) false true e0 zH) (qB rfl rfl)), (zS rfl (zS rfl z1)), (all_cons (zaV i b (qJ p is) false true e0 zH) (all_cons rfl rfl)), ⟨reg [], [cw (z5 1 p b 2), cw (zK p is nr (slV 3 127 q)), .chan 1 (([] : List Nt).map ntE), cr []]⟩, Wk.ren [0, 1, 2, 3] rfl rfl (by decide) trivial ⟨.inl (zaO rfl rfl), ⟨.inl (qZ (qN q rfl)), ⟨.inl (congrArg some (qX _).symm), ⟨.inl rfl, trivial⟩⟩⟩⟩, (by rw [hH]; rfl), .inl ⟨hH, rfl⟩⟩
theorem atN0C {P : Program} (hc : zab P) (n m : Nat) (k : Int) (l : List Nt) (hl : l = []) :
    Env P "(*roundhouse/yard.row[roundhouse/head.Note]).at" [pv 0 2, iv k] ([cr (zY 2 (sv 3 0 n (n + m)) (.slice none 0 0)), .gone, cr [], cr []]) (fun v h' => v = .tuple #[ntE (atS l k).1, bv (atS l k).2] ∧ h' = [cr (zY 2 (sv 3 0 n (n + m)) (.slice none 0 0)), .gone, cr [], cr []]) := by
 refine Env.by3 hc ?_
 unfold zbi
 show GC _ 4 _ _ ⟨reg [(0, pv 0 2), (1, iv k)], [cr (zY 2 (sv 3 0 n (n + m)) (.slice none 0 0)), .gone, cr [], cr []]⟩
 have hl0 : l.length = 0 := by rw [hl]; rfl
 refine zT (z0 (o_b 2 [(5, bv false), (4, pv 4 0)] [cr (zY 2 (sv 3 0 n (n + m)) (.slice none 0 0)), .gone, cr [], cr [], cw (ntF 0 0 0 false false e0 zH)] (by kernel_rfl) (zF (zC (zT (zT (z0 (o_d 3 [(9, bv (decide (k < 0))), (8, bv (decide (k < 0))), (7, iv k)] (by kernel_rfl) (o_sp (b := decide (k < 0)) 9 rfl (fun h1 => ?_) (fun h1 => ?_))))))))))
 ·skip
  have h1' : k < 0 := of_decide_eq_true h1
  refine o_d 8 [(17, bv true), (16, undef), (15, undef), (14, undef), (13, undef), (12, undef), (11, undef), (10, undef)] (by kernel_rfl) (zF (zC (zd5 rfl (zT (z0 (o_b 1 [(6, pv 5 0)] [cr (zY 2 (sv 3 0 n (n + m)) (.slice none 0 0)), .gone, cr [], cr [], cw (ntF 0 0 0 false false e0 zH), cw (ntF 0 0 0 false false e0 zH)] (by kernel_rfl) (zF (zC (zT (z0 (o_s (by refine z6 (v := ntV 0 0 0 false false e0 zH) rfl rfl ?_; exact zbx 0 0 0 false false e0 zH) ?_)))))))))))
  refine zeC (by refine qY (c' := ntF 0 0 0 false false e0 zH) rfl rfl rfl ?_ ?_ ?_; exact z8 _ _ _ _ _ _ _; exact zcR (by omega); exact zbh) ?_
  refine o_d 1 [(5, bv false)] (by kernel_rfl) (zF (zC (zbr ?_)))
  have hA : atS l k = (n0, false) := by unfold atS; rw [if_neg (by omega)]
  exact ⟨trivial, [ntV 0 0 0 false false e0 zH, bv false], (zcG rfl rfl (zbx 0 0 0 false false e0 zH) (qB rfl rfl)), (zS rfl (zS rfl z1)), (all_cons (zaV 0 0 0 false false e0 zH) (all_cons rfl rfl)), ⟨reg [], [cr (zY 2 (sv 3 0 n (n + m)) (.slice none 0 0)), .gone, cr [], cr []]⟩, Wk.ren [0, 1, 2, 3] rfl rfl (by decide) trivial ⟨.inl (zaf rfl rfl rfl), ⟨.inl rfl, ⟨.inl rfl, ⟨.inl rfl, trivial⟩⟩⟩⟩, (by rw [hA]; rfl), rfl⟩
 have h1' : ¬ (k < 0) := of_decide_eq_false h1
 refine o_d 8 [(17, bv (decide (k ≥ 0))), (16, bv (decide (k ≥ 0))), (15, iv 0), (14, .slice none 0 0), (13, pv 0 2), (12, pv 0 2), (11, pv 0 2), (10, iv k)] (by kernel_rfl) (zF (zC (zaJ (t := decide (k ≥ 0)) rfl (fun _ => ?_) (fun q => by rw [(decide_eq_true (by omega) : (decide (k ≥ 0)) = true)] at q; cases q))))
 refine zT (z0 (o_b 1 [(6, pv 5 0)] [cr (zY 2 (sv 3 0 n (n + m)) (.slice none 0 0)), .gone, cr [], cr [], cw (ntF 0 0 0 false false e0 zH), cw (ntF 0 0 0 false false e0 zH)] (by kernel_rfl) (zF (zC (zT (z0 (o_s (by refine z6 (v := ntV 0 0 0 false false e0 zH) rfl rfl ?_; exact zbx 0 0 0 false false e0 zH) ?_)))))))
 refine zeC (by refine qY (c' := ntF 0 0 0 false false e0 zH) rfl rfl rfl ?_ ?_ ?_; exact z8 _ _ _ _ _ _ _; exact zcR (by omega); exact zbh) ?_
 refine o_d 1 [(5, bv false)] (by kernel_rfl) (zF (zC (zbr ?_)))
 have hA : atS l k = (n0, false) := by unfold atS; rw [if_neg (by omega)]
 exact ⟨trivial, [ntV 0 0 0 false false e0 zH, bv false], (zcG rfl rfl (zbx 0 0 0 false false e0 zH) (qB rfl rfl)), (zS rfl (zS rfl z1)), (all_cons (zaV 0 0 0 false false e0 zH) (all_cons rfl rfl)), ⟨reg [], [cr (zY 2 (sv 3 0 n (n + m)) (.slice none 0 0)), .gone, cr [], cr []]⟩, Wk.ren [0, 1, 2, 3] rfl rfl (by decide) trivial ⟨.inl (zaf rfl rfl rfl), ⟨.inl rfl, ⟨.inl rfl, ⟨.inl rfl, trivial⟩⟩⟩⟩, (by rw [hA]; rfl), rfl⟩
theorem atN1C {P : Program} (hc : zab P) (n m : Nat) (k : Int) (l : List Nt) (c : Nat) (t : List Value) (hc2 : l.length ≤ c) (ht : t.all zbz = true) :
    Env P "(*roundhouse/yard.row[roundhouse/head.Note]).at" [pv 0 2, iv k] ([cr (zY 2 (sv 3 0 n (n + m)) (sv 1 0 l.length c)), cw (zaX l ++ t), cr [], cr []]) (fun v h' => v = .tuple #[ntE (atS l k).1, bv (atS l k).2] ∧ h' = [cr (zY 2 (sv 3 0 n (n + m)) (sv 1 0 l.length c)), cw (zaX l ++ t), cr [], cr []]) := by
 refine Env.by3 hc ?_
 unfold zbi
 show GC _ 4 _ _ ⟨reg [(0, pv 0 2), (1, iv k)], [cr (zY 2 (sv 3 0 n (n + m)) (sv 1 0 l.length c)), cw (zaX l ++ t), cr [], cr []]⟩
 refine zT (z0 (o_b 2 [(5, bv false), (4, pv 4 0)] [cr (zY 2 (sv 3 0 n (n + m)) (sv 1 0 l.length c)), cw (zaX l ++ t), cr [], cr [], cw (ntF 0 0 0 false false e0 zH)] (by kernel_rfl) (zF (zC (zT (zT (z0 (o_d 3 [(9, bv (decide (k < 0))), (8, bv (decide (k < 0))), (7, iv k)] (by kernel_rfl) (o_sp (b := decide (k < 0)) 9 rfl (fun h1 => ?_) (fun h1 => ?_))))))))))
 ·skip
  have h1' : k < 0 := of_decide_eq_true h1
  refine o_d 8 [(17, bv true), (16, undef), (15, undef), (14, undef), (13, undef), (12, undef), (11, undef), (10, undef)] (by kernel_rfl) (zF (zC (zd5 rfl (zT (z0 (o_b 1 [(6, pv 5 0)] [cr (zY 2 (sv 3 0 n (n + m)) (sv 1 0 l.length c)), cw (zaX l ++ t), cr [], cr [], cw (ntF 0 0 0 false false e0 zH), cw (ntF 0 0 0 false false e0 zH)] (by kernel_rfl) (zF (zC (zT (z0 (o_s (by refine z6 (v := ntV 0 0 0 false false e0 zH) rfl rfl ?_; exact zbx 0 0 0 false false e0 zH) ?_)))))))))))
  refine zeC (by refine qY (c' := ntF 0 0 0 false false e0 zH) rfl rfl rfl ?_ ?_ ?_; exact z8 _ _ _ _ _ _ _; exact zcR (by omega); exact zbh) ?_
  refine o_d 1 [(5, bv false)] (by kernel_rfl) (zF (zC (zbr ?_)))
  have hA : atS l k = (n0, false) := by unfold atS; rw [if_neg (by omega)]
  exact ⟨trivial, [ntV 0 0 0 false false e0 zH, bv false], (zcG rfl rfl (zbx 0 0 0 false false e0 zH) (qB rfl rfl)), (zS rfl (zS rfl z1)), (all_cons (zaV 0 0 0 false false e0 zH) (all_cons rfl rfl)), ⟨reg [], [cr (zY 2 (sv 3 0 n (n + m)) (sv 1 0 l.length c)), cw (zaX l ++ t), cr [], cr []]⟩, Wk.ren [0, 1, 2, 3] rfl rfl (by decide) trivial ⟨.inl (zaf rfl rfl rfl), ⟨.inl (zO (zeU (zfH _) ht)), ⟨.inl rfl, ⟨.inl rfl, trivial⟩⟩⟩⟩, (by rw [hA]; rfl), rfl⟩
 have h1' : ¬ (k < 0) := of_decide_eq_false h1
 refine o_d 8 [(17, bv (decide (k ≥ (l.length : Nat)))), (16, bv (decide (k ≥ (l.length : Nat)))), (15, iv (l.length : Nat)), (14, sv 1 0 l.length c), (13, pv 0 2), (12, pv 0 2), (11, pv 0 2), (10, iv k)] (by kernel_rfl) (zF (zC (zaJ (t := decide (k ≥ (l.length : Nat))) rfl (fun h2 => ?_) (fun h2 => ?_))))
 ·skip
  have h2' : k ≥ (l.length : Nat) := of_decide_eq_true h2
  refine zT (z0 (o_b 1 [(6, pv 5 0)] [cr (zY 2 (sv 3 0 n (n + m)) (sv 1 0 l.length c)), cw (zaX l ++ t), cr [], cr [], cw (ntF 0 0 0 false false e0 zH), cw (ntF 0 0 0 false false e0 zH)] (by kernel_rfl) (zF (zC (zT (z0 (o_s (by refine z6 (v := ntV 0 0 0 false false e0 zH) rfl rfl ?_; exact zbx 0 0 0 false false e0 zH) ?_)))))))
  refine zeC (by refine qY (c' := ntF 0 0 0 false false e0 zH) rfl rfl rfl ?_ ?_ ?_; exact z8 _ _ _ _ _ _ _; exact zcR (by omega); exact zbh) ?_
  refine o_d 1 [(5, bv false)] (by kernel_rfl) (zF (zC (zbr ?_)))
  have hA : atS l k = (n0, false) := by unfold atS; rw [if_neg (by omega)]
  exact ⟨trivial, [ntV 0 0 0 false false e0 zH, bv false], (zcG rfl rfl (zbx 0 0 0 false false e0 zH) (qB rfl rfl)), (zS rfl (zS rfl z1)), (all_cons (zaV 0 0 0 false false e0 zH) (all_cons rfl rfl)), ⟨reg [], [cr (zY 2 (sv 3 0 n (n + m)) (sv 1 0 l.length c)), cw (zaX l ++ t), cr [], cr []]⟩, Wk.ren [0, 1, 2, 3] rfl rfl (by decide) trivial ⟨.inl (zaf rfl rfl rfl), ⟨.inl (zO (zeU (zfH _) ht)), ⟨.inl rfl, ⟨.inl rfl, trivial⟩⟩⟩⟩, (by rw [hA]; rfl), rfl⟩
 have h2' : ¬ (k ≥ (l.length : Nat)) := of_decide_eq_false h2
 refine zaC (zC (zT (z0 (o_d 5 [(23, iv k), (22, sv 1 0 l.length c), (21, pv 0 2), (20, pv 0 2), (19, pv 0 2)] (by kernel_rfl) (o_s (by exact zfB (o := 0) (o' := 342 * k.toNat) rfl rfl (by omega) (by omega)) ?_)))))
 refine o_s (by refine z6 (v := ntE (l.getD k.toNat n0)) rfl rfl ?_; exact nts_r2 (i := k.toNat) (j := 0) (by omega) (nts_get (by omega)) (nt_rL (zbx ((l.getD k.toNat n0).u) ((l.getD k.toNat n0).b) ((l.getD k.toNat n0).v) ((l.getD k.toNat n0).w) ((l.getD k.toNat n0).a) ((l.getD k.toNat n0).e) ((l.getD k.toNat n0).p)))) ?_
 refine zeC (by refine qY (c' := ntL (l.getD k.toNat n0)) rfl rfl rfl ?_ ?_ ?_; exact z8 _ _ _ _ _ _ _; exact zcR (by omega); exact zbh) ?_
 refine o_b 1 [(5, bv true)] [cr (zY 2 (sv 3 0 n (n + m)) (sv 1 0 l.length c)), cw (zaX l ++ t), cr [], cr [], cw (ntL (l.getD k.toNat n0))] (by kernel_rfl) (zF (z9 [(5, bv true), (4, pv 4 0)] (by kernel_rfl) (zbr ?_)))
 have hA : atS l k = (l.getD k.toNat n0, true) := by unfold atS; rw [if_pos (by omega)]
 exact ⟨trivial, [ntE (l.getD k.toNat n0), bv true], (zcG rfl rfl (zbx ((l.getD k.toNat n0).u) ((l.getD k.toNat n0).b) ((l.getD k.toNat n0).v) ((l.getD k.toNat n0).w) ((l.getD k.toNat n0).a) ((l.getD k.toNat n0).e) ((l.getD k.toNat n0).p)) (qB rfl rfl)), (zS rfl (zS rfl z1)), (all_cons (zaV ((l.getD k.toNat n0).u) ((l.getD k.toNat n0).b) ((l.getD k.toNat n0).v) ((l.getD k.toNat n0).w) ((l.getD k.toNat n0).a) ((l.getD k.toNat n0).e) ((l.getD k.toNat n0).p)) (all_cons rfl rfl)), ⟨reg [], [cr (zY 2 (sv 3 0 n (n + m)) (sv 1 0 l.length c)), cw (zaX l ++ t), cr [], cr []]⟩, Wk.ren [0, 1, 2, 3] rfl rfl (by decide) trivial ⟨.inl (zaf rfl rfl rfl), ⟨.inl (zO (zeU (zfH _) ht)), ⟨.inl rfl, ⟨.inl rfl, trivial⟩⟩⟩⟩, (by rw [hA]; rfl), rfl⟩
theorem atUC {P : Program} (hc : qT P) (n m i lw : Nat) (o : Gr) (u : Int) :
    Env P "(*roundhouse/yard.row[*roundhouse/yard.unit]).at" [pv 0 1, iv u] ([cr (zY 2 (sv 1 0 n (n + m)) (gV 3 lw o)), cr (zaY n (uf i 4 5) ++ zbe m), cr [], hidB o.isSome, cr [], cr [], cr [], cr [], cr [], cr [], cr [], cr [], cr [], cr [], cr [], cr [], cr [], cr [], cr [], cr [], cr []]) (fun v h' => v = (if 0 ≤ u ∧ u < n then .tuple #[pv (uf i 4 5 u.toNat) 0, bv true] else .tuple #[.pointer none, bv false]) ∧ h' = [cr (zY 2 (sv 1 0 n (n + m)) (gV 3 lw o)), cr (zaY n (uf i 4 5) ++ zbe m), cr [], hidB o.isSome, cr [], cr [], cr [], cr [], cr [], cr [], cr [], cr [], cr [], cr [], cr [], cr [], cr [], cr [], cr [], cr [], cr []]) := by
 refine Env.by2 hc ?_
 unfold zbL
 show GC _ 21 _ _ ⟨reg [(0, pv 0 1), (1, iv u)], [cr (zY 2 (sv 1 0 n (n + m)) (gV 3 lw o)), cr (zaY n (uf i 4 5) ++ zbe m), cr [], hidB o.isSome, cr [], cr [], cr [], cr [], cr [], cr [], cr [], cr [], cr [], cr [], cr [], cr [], cr [], cr [], cr [], cr [], cr []]⟩
 refine zT (z0 (o_d 2 [(5, bv false), (4, .pointer none)] (by kernel_rfl) (zF (zC (zT (zT (z0 (o_d 3 [(9, bv (decide (u < 0))), (8, bv (decide (u < 0))), (7, iv u)] (by kernel_rfl) (o_sp (b := decide (u < 0)) 9 rfl (fun h1 => ?_) (fun h1 => ?_))))))))))
 ·skip
  have h1' : u < 0 := of_decide_eq_true h1
  refine o_d 8 [(17, bv true), (16, undef), (15, undef), (14, undef), (13, undef), (12, undef), (11, undef), (10, undef)] (by kernel_rfl) (zF (zC (zd5 rfl (zT (z0 (o_d 1 [(6, .pointer none)] (by kernel_rfl) (zF (zC (zT (z0 (o_d 3 [(5, bv false), (4, .pointer none), (18, .pointer none)] (by kernel_rfl) (zF ?_))))))))))))
  exact zC (zbr (⟨trivial, _, .inl rfl, [.pointer none, bv false], (qB rfl (qB rfl rfl)), (zS rfl (zS rfl z1)), (by rw [if_neg (by omega)]; rfl), rfl⟩))
 have h1' : ¬ (u < 0) := of_decide_eq_false h1
 refine o_d 8 [(17, bv (decide (u ≥ (n : Nat)))), (16, bv (decide (u ≥ (n : Nat)))), (15, iv (n : Nat)), (14, sv 1 0 n (n + m)), (13, pv 0 1), (12, pv 0 1), (11, pv 0 1), (10, iv u)] (by kernel_rfl) (zF (zC (zaJ (t := decide (u ≥ (n : Nat))) rfl (fun h2 => ?_) (fun h2 => ?_))))
 ·skip
  have h2' : u ≥ (n : Nat) := of_decide_eq_true h2
  exact zT (z0 (o_d 1 [(6, .pointer none)] (by kernel_rfl) (zF (zC (zT (z0 (o_d 3 [(5, bv false), (4, .pointer none), (18, .pointer none)] (by kernel_rfl) (zF (zC (zbr (⟨trivial, _, .inl rfl, [.pointer none, bv false], (qB rfl (qB rfl rfl)), (zS rfl (zS rfl z1)), (by rw [if_neg (by omega)]; rfl), rfl⟩)))))))))))
 have h2' : ¬ (u ≥ (n : Nat)) := of_decide_eq_false h2
 refine zaC (zC (zT (z0 (o_d 5 [(23, iv u), (22, sv 1 0 n (n + m)), (21, pv 0 1), (20, pv 0 1), (19, pv 0 1)] (by kernel_rfl) (o_s (by exact zfB (o := 0) (o' := u.toNat) rfl rfl (by omega) (by omega)) ?_)))))
 refine o_s (by refine z6 (v := pv (uf i 4 5 u.toNat) 0) rfl rfl ?_; exact ptrs_r (by omega)) ?_
 exact o_d 2 [(5, bv true), (4, pv (uf i 4 5 u.toNat) 0)] (by kernel_rfl) (zF (z9 [(5, bv true), (4, pv (uf i 4 5 u.toNat) 0)] (by kernel_rfl) (zbr (⟨trivial, _, .inl rfl, [pv (uf i 4 5 u.toNat) 0, bv true], (qB rfl (qB rfl rfl)), (zS rfl (zS rfl z1)), (by rw [if_pos (by omega)]; rfl), rfl⟩))))
end Go.Rh

set_option maxHeartbeats 8000000
namespace Go.Rh
theorem zft {l : List Nt} {k : Int} (h : gOk l none) : (atS l k).2 = false := by
 have : l = [] := h
 subst this
 unfold atS; rw [if_neg (by simp)]
theorem atS_in {l : List Nt} {k : Int} (h : (atS l k).2 = true) : 0 ≤ k ∧ k < l.length := by
 unfold atS at h; split at h
 ·assumption
 ·cases h
def zeb (l : List Nt) (k : Int) : List Nt := if (atS l k).2 = true then l.eraseIdx k.toNat else l
def ackS (x : HS) (l : List Nt) (k : Int) (keep : Bool) : HS × List Nt := if (atS l k).2 = true then (zhH x (atS l k).1, if keep = true then l else l.eraseIdx k.toNat) else (x, l)
theorem YNotesC {P : Program} (hc : zbl P) (n m : Nat) (l : List Nt) (o : Gr) (ho : gOk l o) :
    Env P "(*roundhouse/yard.Yard).Notes" [pv 0 0] ([cr (zY 1 (sv 2 0 n (n + m)) (gV 3 l.length o)), cr [], cr [], hidB o.isSome]) (fun v h' => v = iv (l.length : Nat) ∧ h' = [cr (zY 1 (sv 2 0 n (n + m)) (gV 3 l.length o)), cr [], cr [], hidB o.isSome]) := by
 refine Env.by2 hc ?_
 unfold zcj
 show GC _ 4 _ _ ⟨reg [(0, pv 0 0)], [cr (zY 1 (sv 2 0 n (n + m)) (gV 3 l.length o)), cr [], cr [], hidB o.isSome]⟩
 refine zT (z0 (o_d 1 [(2, iv 0)] (by kernel_rfl) (zF (zC (zT (z0 (o_d 5 [(7, gV 3 l.length o), (6, pv 0 2), (5, pv 0 2), (4, pv 0 0), (3, pv 0 0)] (by kernel_rfl) (o_s (by exact run_lenG (l := l) rfl ho) ?_))))))))
 exact o_d 1 [(2, iv (l.length : Nat))] (by kernel_rfl) (zF (zC (zbr (⟨trivial, _, .inl rfl, [iv (l.length : Nat)], (qB rfl rfl), (zS rfl z1), rfl, rfl⟩))))
theorem YPoolC {P : Program} (hc : zcv P) (h_head_Head_Pool : zbS P) (p : qO) (w : List Ent) (hd : List (Int × Int)) (e : Ent) (b : Bool) (n m : Nat) (l : List Nt) (o : Gr) (ho : gOk l o) :
    Env P "(*roundhouse/yard.Yard).Pool" [pv 0 0] ([cw (zY 1 (sv 4 0 n (n + m)) (gV 5 l.length o)), cw (zR p 2 3 e b), .chan 200 (w.map qH), .map (hdM hd), cr [], gB l o]) (fun v h' => v = qG p ∧ h' = [cw (zY 1 (sv 4 0 n (n + m)) (gV 5 l.length o)), cw (zR p 2 3 e b), .chan 200 (w.map qH), .map (hdM hd), cr [], gB l o]) := by
 refine Env.by3 hc ?_
 unfold zdE
 show GC _ 6 _ _ ⟨reg [(0, pv 0 0)], [cw (zY 1 (sv 4 0 n (n + m)) (gV 5 l.length o)), cw (zR p 2 3 e b), .chan 200 (w.map qH), .map (hdM hd), cr [], gB l o]⟩
 refine zT (z0 (o_b 1 [(2, pv 6 0)] [cw (zY 1 (sv 4 0 n (n + m)) (gV 5 l.length o)), cw (zR p 2 3 e b), .chan 200 (w.map qH), .map (hdM hd), cr [], gB l o, cw (pl zH)] (by kernel_rfl) (zF (zC (zT (z0 (o_d 4 [(6, pv 1 0), (5, pv 0 0), (4, pv 0 0), (3, pv 0 0)] (by kernel_rfl) (zbO (zcZ [1, 2, 3] [cr (zR p 1 2 e b), .chan 200 (w.map qH), .map (hdM hd)] [pv 0 0] (HPoolC h_head_Head_Pool p w hd e b) rfl rfl ⟨⟨_, rfl, zZ (.inl (zb4 rfl rfl (fun q => rfl)))⟩, ⟨⟨_, rfl, zZ (.inl (zb5 _))⟩, ⟨⟨_, rfl, zZ (.inl (zcP _))⟩, trivial⟩⟩⟩ (by decide) ?_)))))))))
 rintro v1 h1' ⟨rfl, rfl⟩
 refine ⟨(zA zD (zA zD (zA zD z4))), qG p, [cw (zY 1 (sv 4 0 n (n + m)) (gV 5 l.length o)), cw (zR p 2 3 e b), .chan 200 (w.map qH), .map (hdM hd), cr [], gB l o, cw (pl zH)], [cw (pl p)], (qE (zaA p)), ⟨rfl, ⟨rfl, ⟨zU _, ⟨qA _, ⟨rfl, ⟨rfl, ⟨rfl, trivial⟩⟩⟩⟩⟩⟩⟩, ⟨(Option.some.inj (zO (za7 p))).symm, trivial⟩, ?_⟩
 refine zeC (by refine qY (c' := pl p) rfl rfl rfl ?_ ?_ ?_; exact zN _; exact zeW (by omega); exact zae zH p) ?_
 exact zF (zC (zbr (⟨trivial, [qG p], (zcG rfl rfl (zaU p) rfl), (zS rfl z1), zaA p, ⟨reg [], [cw (zY 1 (sv 4 0 n (n + m)) (gV 5 l.length o)), cw (zR p 2 3 e b), .chan 200 (w.map qH), .map (hdM hd), cr [], gB l o]⟩, Wk.ren [0, 1, 2, 3, 4, 5] rfl rfl (by decide) trivial ⟨.inl (zaf rfl rfl (qP o rfl)), ⟨.inl (z3 rfl rfl), ⟨.inl (congrArg some (zU _).symm), ⟨.inl (congrArg some (qA _).symm), ⟨.inl rfl, ⟨.inl (congrArg some (qQ ho).symm), trivial⟩⟩⟩⟩⟩⟩, rfl, rfl⟩)))
theorem YNotesAC {P : Program} (hc : zbl P) (p : qO) (w : List Ent) (hd : List (Int × Int)) (e : Ent) (b : Bool) (n m : Nat) (l : List Nt) (o : Gr) (ho : gOk l o) :
    Env P "(*roundhouse/yard.Yard).Notes" [pv 0 0] ([cw (zY 1 (sv 4 0 n (n + m)) (gV 5 l.length o)), cw (zR p 2 3 e b), .chan 200 (w.map qH), .map (hdM hd), cr [], gB l o]) (fun v h' => v = iv (l.length : Nat) ∧ h' = [cw (zY 1 (sv 4 0 n (n + m)) (gV 5 l.length o)), cw (zR p 2 3 e b), .chan 200 (w.map qH), .map (hdM hd), cr [], gB l o]) := by
 refine Env.by2 hc ?_
 unfold zcj
 show GC _ 6 _ _ ⟨reg [(0, pv 0 0)], [cw (zY 1 (sv 4 0 n (n + m)) (gV 5 l.length o)), cw (zR p 2 3 e b), .chan 200 (w.map qH), .map (hdM hd), cr [], gB l o]⟩
 refine zT (z0 (o_d 1 [(2, iv 0)] (by kernel_rfl) (zF (zC (zT (z0 (o_d 5 [(7, gV 5 l.length o), (6, pv 0 2), (5, pv 0 2), (4, pv 0 0), (3, pv 0 0)] (by kernel_rfl) (o_s (by exact run_lenG (l := l) rfl ho) ?_))))))))
 exact o_d 1 [(2, iv (l.length : Nat))] (by kernel_rfl) (zF (zC (zbr (⟨trivial, _, .inl rfl, [iv (l.length : Nat)], (qB rfl rfl), (zS rfl z1), rfl, rfl⟩))))
theorem YWishC {P : Program} (hc : zct P) (h_head_Head_Wish : zbQ P) (h_head_Head_waiting : za4 P) (h_pool_All : zcH P) (h_pool_Apply : zaI P) (h_pool_may : zaP P) (h_pool_held : zaG P) (h_pool_fits : zaM P) (h_pool_Check : zaB P) (h_pool_placed : zai P) (h_cookie_Next : zaq P) (p : qO) (w : List Ent) (hd : List (Int × Int)) (e : Ent) (b : Bool) (n m : Nat) (l : List Nt) (o : Gr) (ho : gOk l o) (x : List Ent) (q : Option Nat) (hw : w.length ≤ 200) (hq : q = none → x = []) (hx : x.length ≤ 1000000) :
    Env P "(*roundhouse/yard.Yard).Wish" [pv 0 0, slV 6 x.length q] ([cw (zY 1 (sv 4 0 n (n + m)) (gV 5 l.length o)), cw (zR p 2 3 e b), .chan 200 (w.map qH), .map (hdM hd), cr [], gB l o, slB zE (qV x) q]) (fun v h' => v = iv (zb2 (HS.mk p w hd e b) x).1 ∧ h' = [cw (zY 1 (sv 4 0 n (n + m)) (gV 5 l.length o)), cw (zR p 2 3 e b), .chan 200 (((zb2 (HS.mk p w hd e b) x).2.w).map qH), .map (hdM hd), cr [], gB l o, slB zE (qV x) q]) := by
 refine Env.by3 hc ?_
 unfold zdC
 show GC _ 7 _ _ ⟨reg [(0, pv 0 0), (1, slV 6 x.length q)], [cw (zY 1 (sv 4 0 n (n + m)) (gV 5 l.length o)), cw (zR p 2 3 e b), .chan 200 (w.map qH), .map (hdM hd), cr [], gB l o, slB zE (qV x) q]⟩
 refine zT (z0 (o_d 1 [(4, iv 0)] (by kernel_rfl) (zF (zC (zT (z0 (o_d 5 [(9, slV 6 x.length q), (8, pv 1 0), (7, pv 0 0), (6, pv 0 0), (5, pv 0 0)] (by kernel_rfl) (zbO (zcZ [1, 2, 3, 6] [cw (zR p 1 2 e b), .chan 200 (w.map qH), .map (hdM hd), slB zE (qV x) q] [pv 0 0, slV 3 x.length q] (HWishC h_head_Head_Wish h_head_Head_waiting h_pool_All h_pool_Apply h_pool_may h_pool_held h_pool_fits h_pool_Check h_pool_placed h_cookie_Next p w hd e b x q hw hq hx) rfl (zan rfl (zan (za9 q rfl) rfl)) ⟨⟨_, rfl, zZ (.inl (zb4 rfl rfl (fun q => rfl)))⟩, ⟨⟨_, rfl, zZ (.inl (zb5 _))⟩, ⟨⟨_, rfl, zZ (.inl (zcP _))⟩, ⟨⟨_, rfl, zZ (sees_slB q (fun _ => (zaD _ _)))⟩, trivial⟩⟩⟩⟩ (by decide) ?_)))))))))
 rintro v1 h1' ⟨rfl, rfl⟩
 refine ⟨(zA zD (zA (fun h => by cases h) (zA zD (zA zD z4)))), iv ((zb2 (HS.mk p w hd e b) x).1), [cw (zY 1 (sv 4 0 n (n + m)) (gV 5 l.length o)), cw (zR p 2 3 e b), .chan 200 (((zb2 (HS.mk p w hd e b) x).2.w).map qH), .map (hdM hd), cr [], gB l o, slB zE (qV x) q], [], rfl, ⟨rfl, ⟨zb7 rfl rfl, ⟨zU _, ⟨qA _, ⟨rfl, ⟨rfl, ⟨(by rcases q with _ | m9 <;> first | rfl | exact zbk (zaD _ _)), trivial⟩⟩⟩⟩⟩⟩⟩, trivial, ?_⟩
 exact o_d 1 [(4, iv ((zb2 (HS.mk p w hd e b) x).1))] (by kernel_rfl) (zF (zC (zbr (⟨trivial, [iv ((zb2 (HS.mk p w hd e b) x).1)], (qB rfl rfl), (zS rfl z1), rfl, ⟨reg [], [cw (zY 1 (sv 4 0 n (n + m)) (gV 5 l.length o)), cw (zR p 2 3 e b), .chan 200 (((zb2 (HS.mk p w hd e b) x).2.w).map qH), .map (hdM hd), cr [], gB l o, slB zE (qV x) q]⟩, Wk.ren [0, 1, 2, 3, 4, 5, 6] rfl rfl (by decide) trivial ⟨.inl (zaf rfl rfl (qP o rfl)), ⟨.inl (z3 rfl rfl), ⟨.inl (congrArg some (zU _).symm), ⟨.inl (congrArg some (qA _).symm), ⟨.inl rfl, ⟨.inl (congrArg some (qQ ho).symm), ⟨.inl (zaz q (fun _ => (zaD _ _))), trivial⟩⟩⟩⟩⟩⟩⟩, rfl, rfl⟩))))
theorem YTickC {P : Program} (hc : zcu P) (h_head_Head_Send : zbR P) (h_head_Head_all : zbC P) (h_head_Head_publish : za5 P) (h_pool_Apply : zaI P) (h_pool_may : zaP P) (h_pool_held : zaG P) (h_pool_fits : zaM P) (h_pool_Check : zaB P) (h_pool_placed : zai P) (h_cookie_Next : zaq P) (h_yard_row_head_Note_put : zay P) (h_yard_Yard_Notes : zbl P) (p : qO) (w : List Ent) (hd : List (Int × Int)) (e : Ent) (b : Bool) (n m : Nat) (l : List Nt) (o : Gr) (ho : gOk l o) (hl : l.length ≤ 900000) (hh : hd.length ≤ 1000) :
    Env P "(*roundhouse/yard.Yard).Tick" [pv 0 0] ([cw (zY 1 (sv 4 0 n (n + m)) (gV 5 l.length o)), cw (zR p 2 3 e b), .chan 200 (w.map qH), .map (hdM hd), cr [], gB l o]) (fun v h' => v = iv ((l ++ (zal (HS.mk p w hd e b)).2).length : Nat) ∧ PA n m o (zal (HS.mk p w hd e b)).1 (l ++ (zal (HS.mk p w hd e b)).2) h') := by
 refine Env.by3 hc ?_
 unfold zdD
 show GC _ 6 _ _ ⟨reg [(0, pv 0 0)], [cw (zY 1 (sv 4 0 n (n + m)) (gV 5 l.length o)), cw (zR p 2 3 e b), .chan 200 (w.map qH), .map (hdM hd), cr [], gB l o]⟩
 refine zT (z0 (o_d 1 [(2, iv 0)] (by kernel_rfl) (zF (zC (zT (zbq [cw (zY 1 (sv 4 0 n (n + m)) (gV 5 l.length o)), cw (zR p 2 3 e b), .chan 200 (w.map qH), .map (hdM hd), cr [], gB l o] (by kernel_rfl) (d_n 7 7 6 [(9, pv 1 0), (8, pv 0 0), (7, pv 0 0), (6, pv 0 0), (5, pv 0 2), (4, pv 0 0), (3, pv 0 0)] [cw (zY 1 (sv 4 0 n (n + m)) (gV 5 l.length o)), cw (zR p 2 3 e b), .chan 200 (w.map qH), .map (hdM hd), cr [], gB l o] [⟨6, [0], [], none⟩] (by kernel_rfl) rfl rfl (zga [1, 2, 3] [cw (zR p 1 2 e b), .chan 200 (w.map qH), .map (hdM hd)] [pv 0 0] (HsendC h_head_Head_Send h_head_Head_all h_head_Head_publish h_pool_Apply h_pool_may h_pool_held h_pool_fits h_pool_Check h_pool_placed h_cookie_Next p w hd e b (by omega)) rfl rfl ⟨⟨_, rfl, zZ (.inl (zb4 rfl rfl (fun q => rfl)))⟩, ⟨⟨_, rfl, zZ (.inl (zb5 _))⟩, ⟨⟨_, rfl, zZ (.inl (zcP _))⟩, trivial⟩⟩⟩ (by decide) (by exact ⟨_, _, ⟨some 0, (fun z => by cases z), rfl, rfl⟩, Nat.le_add_right 3 1, flags_of31⟩) ?_ (by kernel_rfl)))))))))
 rintro v1 h1' ⟨q1, hq2, rfl, rfl⟩
 refine ⟨(zA qD (zA (fun h => by cases h) (zA zD z4))), slV 6 ((zal (HS.mk p w hd e b)).2.length) q1, [cw (zY 1 (sv 4 0 n (n + m)) (gV 5 l.length o)), cw (zR ((zal (HS.mk p w hd e b)).1.p) 2 3 ((zal (HS.mk p w hd e b)).1.e) ((zal (HS.mk p w hd e b)).1.s)), .chan 200 (((zal (HS.mk p w hd e b)).1.w).map qH), .map (hdM hd), cr [], gB l o], [slB zNt (zaX ((zal (HS.mk p w hd e b)).2)) q1], (za9 q1 rfl), ⟨rfl, ⟨zb7 rfl rfl, ⟨zU _, ⟨qA _, ⟨rfl, ⟨rfl, trivial⟩⟩⟩⟩⟩⟩, ⟨(Option.some.inj (zaz q1 (fun _ => (zcs _ _)))).symm, trivial⟩, ?_⟩
 refine d_clHW [0, 5, 6] [0, 5, 6, 1, 4] [cw (zY 3 (sv 4 0 n (n + m)) (gV 1 l.length o)), gB l o, slB zNt (zaX ((zal (HS.mk p w hd e b)).2)) q1, cr [], cr []] [pv 0 2, slV 2 ((zal (HS.mk p w hd e b)).2.length) q1] (putNC h_yard_row_head_Note_put l ((zal (HS.mk p w hd e b)).2) o q1 n m ho hq2 (by have := sendS_len (x := HS.mk p w hd e b); simp only [] at this; omega)) (wr_put ..) rfl (zan rfl (zan (za9 q1 rfl) rfl)) ⟨⟨_, rfl, zZ (.inl (zao rfl rfl (qP o rfl) (fun q => rfl)))⟩, ⟨⟨_, rfl, zb3 ho⟩, ⟨⟨_, rfl, zZ (sees_slB q1 (fun _ => (zcs _ _)))⟩, ⟨⟨_, rfl, zG⟩, ⟨⟨_, rfl, zG⟩, trivial⟩⟩⟩⟩⟩ (by decide) (zik l ((zal (HS.mk p w hd e b)).2) o q1 n m) ?_ (by kernel_rfl)
 rintro v1 h1' ⟨rfl, o3, g5, ⟨s4, rfl⟩ | ⟨s4, rfl⟩⟩
 ·skip
  refine ⟨(zA qD (zA (zfL s4) (zA zD (zA zD (zA zD z4))))), .tuple #[], [cw (zY 1 (sv 4 0 n (n + m)) (gV 5 ((l ++ ((zal (HS.mk p w hd e b)).2)).length) o3)), cw (zR ((zal (HS.mk p w hd e b)).1.p) 2 3 ((zal (HS.mk p w hd e b)).1.e) ((zal (HS.mk p w hd e b)).1.s)), .chan 200 (((zal (HS.mk p w hd e b)).1.w).map qH), .map (hdM hd), cr [], gB (l ++ ((zal (HS.mk p w hd e b)).2)) o3, slB zNt (zaX ((zal (HS.mk p w hd e b)).2)) q1], [], (by simp [zbw]), ⟨zat rfl rfl (qP o3 rfl), ⟨rfl, ⟨rfl, ⟨rfl, ⟨(by cases true <;> rfl), ⟨(by cases o3 with | none => rfl | some y9 => exact qQ g5), ⟨(by rcases q1 with _ | m9 <;> first | rfl | exact zbk (zcs _ _)), trivial⟩⟩⟩⟩⟩⟩⟩, trivial, ?_⟩
  refine zbW (zC (zT (z0 (o_d 1 [(12, pv 0 0)] (by kernel_rfl) (zbO (zcZ [0, 1, 4, 5] [cr (zY 1 (sv 2 0 n (n + m)) (gV 3 ((l ++ ((zal (HS.mk p w hd e b)).2)).length) o3)), cr [], cr [], hidB o3.isSome] [pv 0 0] (YNotesC h_yard_Yard_Notes n m (l ++ ((zal (HS.mk p w hd e b)).2)) o3 g5) rfl rfl ⟨⟨_, rfl, zZ (.inl (zao rfl rfl (qP o3 rfl) (fun q => rfl)))⟩, ⟨⟨_, rfl, zG⟩, ⟨⟨_, rfl, zG⟩, ⟨⟨_, rfl, zdm o3⟩, trivial⟩⟩⟩⟩ (by decide) ?_))))))
  rintro v1 h1' ⟨rfl, rfl⟩
  refine ⟨(zA zD (zA zD (zA zD (zA zD z4)))), iv ((l ++ ((zal (HS.mk p w hd e b)).2)).length : Nat), [cw (zY 1 (sv 4 0 n (n + m)) (gV 5 ((l ++ ((zal (HS.mk p w hd e b)).2)).length) o3)), cw (zR ((zal (HS.mk p w hd e b)).1.p) 2 3 ((zal (HS.mk p w hd e b)).1.e) ((zal (HS.mk p w hd e b)).1.s)), .chan 200 (((zal (HS.mk p w hd e b)).1.w).map qH), .map (hdM hd), cr [], gB (l ++ ((zal (HS.mk p w hd e b)).2)) o3, slB zNt (zaX ((zal (HS.mk p w hd e b)).2)) q1], [], rfl, ⟨rfl, ⟨rfl, ⟨rfl, ⟨rfl, ⟨(by cases true <;> rfl), ⟨(by cases o3 <;> rfl), ⟨rfl, trivial⟩⟩⟩⟩⟩⟩⟩, trivial, ?_⟩
  exact o_d 1 [(2, iv ((l ++ ((zal (HS.mk p w hd e b)).2)).length : Nat))] (by kernel_rfl) (zF (zC (zbr (⟨trivial, [iv ((l ++ ((zal (HS.mk p w hd e b)).2)).length : Nat)], (qB rfl rfl), (zS rfl z1), rfl, ⟨reg [], [cw (zY 1 (sv 4 0 n (n + m)) (gV 5 ((l ++ ((zal (HS.mk p w hd e b)).2)).length) o3)), cw (zR ((zal (HS.mk p w hd e b)).1.p) 2 3 ((zal (HS.mk p w hd e b)).1.e) ((zal (HS.mk p w hd e b)).1.s)), .chan 200 (((zal (HS.mk p w hd e b)).1.w).map qH), .map (hdM hd), cr [], gB (l ++ ((zal (HS.mk p w hd e b)).2)) o3]⟩, Wk.ren [0, 1, 2, 3, 4, 5] rfl rfl (by decide) trivial ⟨.inl (zaf rfl rfl (qP o3 rfl)), ⟨.inl (z3 rfl rfl), ⟨.inl (congrArg some (zU _).symm), ⟨.inl (congrArg some (qA _).symm), ⟨.inl rfl, ⟨.inl (congrArg some (qQ g5).symm), trivial⟩⟩⟩⟩⟩⟩, rfl, ⟨o3, _, 5, [], g5, (fun z => zfL (l := l) s4 (by subst z; rfl)), .inl ⟨rfl, rfl, rfl⟩, (by have h9 := sendS_hd (HS.mk p w hd e b); unfold laA; rw [h9]; first | done | rfl)⟩⟩))))
 refine ⟨(zA qD (zA zD (zA zD (zA zD (zA zD z4))))), .tuple #[], [cw (zY 1 (sv 4 0 n (n + m)) (gV 7 ((l ++ ((zal (HS.mk p w hd e b)).2)).length) o3)), cw (zR ((zal (HS.mk p w hd e b)).1.p) 2 3 ((zal (HS.mk p w hd e b)).1.e) ((zal (HS.mk p w hd e b)).1.s)), .chan 200 (((zal (HS.mk p w hd e b)).1.w).map qH), .map (hdM hd), cr [], gB l o, slB zNt (zaX ((zal (HS.mk p w hd e b)).2)) q1], [gB (l ++ ((zal (HS.mk p w hd e b)).2)) o3], (by simp [zbw]), ⟨zat rfl rfl (qP o3 rfl), ⟨rfl, ⟨rfl, ⟨rfl, ⟨(by cases true <;> rfl), ⟨(by cases o with | none => rfl | some y9 => exact qQ ho), ⟨(by rcases q1 with _ | m9 <;> first | rfl | exact zbk (zcs _ _)), trivial⟩⟩⟩⟩⟩⟩⟩, ⟨(qQ g5), trivial⟩, ?_⟩
 refine zbW (zC (zT (z0 (o_d 1 [(12, pv 0 0)] (by kernel_rfl) (zbO (zcZ [0, 1, 4, 7] [cr (zY 1 (sv 2 0 n (n + m)) (gV 3 ((l ++ ((zal (HS.mk p w hd e b)).2)).length) o3)), cr [], cr [], hidB o3.isSome] [pv 0 0] (YNotesC h_yard_Yard_Notes n m (l ++ ((zal (HS.mk p w hd e b)).2)) o3 g5) rfl rfl ⟨⟨_, rfl, zZ (.inl (zao rfl rfl (qP o3 rfl) (fun q => rfl)))⟩, ⟨⟨_, rfl, zG⟩, ⟨⟨_, rfl, zG⟩, ⟨⟨_, rfl, zdm o3⟩, trivial⟩⟩⟩⟩ (by decide) ?_))))))
 rintro v1 h1' ⟨rfl, rfl⟩
 refine ⟨(zA zD (zA zD (zA zD (zA zD z4)))), iv ((l ++ ((zal (HS.mk p w hd e b)).2)).length : Nat), [cw (zY 1 (sv 4 0 n (n + m)) (gV 7 ((l ++ ((zal (HS.mk p w hd e b)).2)).length) o3)), cw (zR ((zal (HS.mk p w hd e b)).1.p) 2 3 ((zal (HS.mk p w hd e b)).1.e) ((zal (HS.mk p w hd e b)).1.s)), .chan 200 (((zal (HS.mk p w hd e b)).1.w).map qH), .map (hdM hd), cr [], gB l o, slB zNt (zaX ((zal (HS.mk p w hd e b)).2)) q1, gB (l ++ ((zal (HS.mk p w hd e b)).2)) o3], [], rfl, ⟨rfl, ⟨rfl, ⟨rfl, ⟨rfl, ⟨(by cases true <;> rfl), ⟨rfl, ⟨rfl, ⟨(by cases o3 <;> rfl), trivial⟩⟩⟩⟩⟩⟩⟩⟩, trivial, ?_⟩
 exact o_d 1 [(2, iv ((l ++ ((zal (HS.mk p w hd e b)).2)).length : Nat))] (by kernel_rfl) (zF (zC (zbr (⟨trivial, [iv ((l ++ ((zal (HS.mk p w hd e b)).2)).length : Nat)], (qB rfl rfl), (zS rfl z1), rfl, ⟨reg [], [cw (zY 1 (sv 4 0 n (n + m)) (gV 6 ((l ++ ((zal (HS.mk p w hd e b)).2)).length) o3)), cw (zR ((zal (HS.mk p w hd e b)).1.p) 2 3 ((zal (HS.mk p w hd e b)).1.e) ((zal (HS.mk p w hd e b)).1.s)), .chan 200 (((zal (HS.mk p w hd e b)).1.w).map qH), .map (hdM hd), cr [], gB l o, gB (l ++ ((zal (HS.mk p w hd e b)).2)) o3]⟩, Wk.ren [0, 1, 2, 3, 4, 5, 7] rfl rfl (by decide) trivial ⟨.inl (zaf rfl rfl (qP o3 rfl)), ⟨.inl (z3 rfl rfl), ⟨.inl (congrArg some (zU _).symm), ⟨.inl (congrArg some (qA _).symm), ⟨.inl rfl, ⟨.inl (congrArg some (qQ ho).symm), ⟨.inl (congrArg some (qQ g5).symm), trivial⟩⟩⟩⟩⟩⟩⟩, rfl, ⟨o3, gB l o, 6, _, g5, (fun z => by subst z; rfl), .inr ⟨rfl, rfl⟩, (by have h9 := sendS_hd (HS.mk p w hd e b); unfold laA; rw [h9]; first | done | rfl)⟩⟩))))
theorem YLoseC {P : Program} (hc : zcw P) (h_yard_row_head_Note_at : zab P) (h_yard_row_head_Note_drop : zad P) (p : qO) (w : List Ent) (hd : List (Int × Int)) (e : Ent) (b : Bool) (n m : Nat) (l : List Nt) (o : Gr) (ho : gOk l o) (hl : l.length ≤ 900000) (k : Int) :
    Env P "(*roundhouse/yard.Yard).Lose" [pv 0 0, iv k] ([cw (zY 1 (sv 4 0 n (n + m)) (gV 5 l.length o)), cw (zR p 2 3 e b), .chan 200 (w.map qH), .map (hdM hd), cr [], gB l o]) (fun v h' => v = bv (atS l k).2 ∧ PA n m o (HS.mk p w hd e b) (zeb l k) h') := by
 refine Env.by3 hc ?_
 unfold zdF
 show GC _ 6 _ _ ⟨reg [(0, pv 0 0), (1, iv k)], [cw (zY 1 (sv 4 0 n (n + m)) (gV 5 l.length o)), cw (zR p 2 3 e b), .chan 200 (w.map qH), .map (hdM hd), cr [], gB l o]⟩
 refine zT (z0 (o_d 1 [(4, bv false)] (by kernel_rfl) (zF (zC (zT (z0 (o_d 4 [(11, iv k), (10, pv 0 2), (9, pv 0 0), (8, pv 0 0)] (by kernel_rfl) ?_)))))))
 rcases o with _ | ⟨c, t⟩
 ·skip
  refine zbO (zcZ [0, 5, 1, 4] [cr (zY 2 (sv 3 0 n (n + m)) (gV 1 l.length none)), gB l none, cr [], cr []] [pv 0 2, iv k] (atN0C h_yard_row_head_Note_at n m k l ho) rfl rfl ⟨⟨_, rfl, zZ (.inl (zao rfl rfl (qP none rfl) (fun q => rfl)))⟩, ⟨⟨_, rfl, zb3 ho⟩, ⟨⟨_, rfl, zG⟩, ⟨⟨_, rfl, zG⟩, trivial⟩⟩⟩⟩ (by decide) ?_)
  rintro v1 h1' ⟨rfl, rfl⟩
  refine ⟨(zA zD (zA zD (zA zD (zA zD z4)))), .tuple #[ntE ((atS l k).1), bv ((atS l k).2)], [cw (zY 1 (sv 4 0 n (n + m)) (gV 5 l.length none)), cw (zR p 2 3 e b), .chan 200 (w.map qH), .map (hdM hd), cr [], gB l none], [], (qE (all_cons (zaV ((atS l k).1.u) ((atS l k).1.b) ((atS l k).1.v) ((atS l k).1.w) ((atS l k).1.a) ((atS l k).1.e) ((atS l k).1.p)) (all_cons rfl rfl))), ⟨rfl, ⟨rfl, ⟨rfl, ⟨rfl, ⟨(by cases true <;> rfl), ⟨(by cases none with | none => rfl | some y9 => exact qQ ho), trivial⟩⟩⟩⟩⟩⟩, trivial, ?_⟩
  refine o_b 4 [(5, pv 6 0), (14, bv ((atS l k).2)), (13, ntE ((atS l k).1)), (7, .tuple #[ntE ((atS l k).1), bv ((atS l k).2)])] [cw (zY 1 (sv 4 0 n (n + m)) (gV 5 l.length none)), cw (zR p 2 3 e b), .chan 200 (w.map qH), .map (hdM hd), cr [], gB l none, cw (ntF 0 0 0 false false e0 zH)] (by kernel_rfl) (zeC (by refine qY (c' := ntL ((atS l k).1)) rfl rfl rfl ?_ ?_ ?_; exact z8 _ _ _ _ _ _ _; exact zcR (by omega); exact zbh) ?_)
  refine o_b 1 [(6, bv ((atS l k).2))] [cw (zY 1 (sv 4 0 n (n + m)) (gV 5 l.length none)), cw (zR p 2 3 e b), .chan 200 (w.map qH), .map (hdM hd), cr [], gB l none, cw (ntL ((atS l k).1))] (by kernel_rfl) (zF (zC (zT (zT (z0 (o_d 1 [(15, bv ((atS l k).2))] (by kernel_rfl) (zF (zC (zaJ (t := (atS l k).2) rfl (fun q => by rw [(zft ho : ((atS l k).2) = false)] at q; cases q) (fun _ => ?_))))))))))
  exact zaC (zC (zT (z0 (o_d 2 [(4, bv ((atS l k).2)), (21, bv ((atS l k).2))] (by kernel_rfl) (zF (zC (zbr (⟨trivial, [bv ((atS l k).2)], (qB rfl rfl), (zS rfl z1), rfl, ⟨reg [], [cw (zY 1 (sv 4 0 n (n + m)) (gV 5 l.length none)), cw (zR p 2 3 e b), .chan 200 (w.map qH), .map (hdM hd), cr [], gB l none]⟩, Wk.ren [0, 1, 2, 3, 4, 5] rfl rfl (by decide) trivial ⟨.inl (zaf rfl rfl (qP none rfl)), ⟨.inl (z3 rfl rfl), ⟨.inl (congrArg some (zU _).symm), ⟨.inl (congrArg some (qA _).symm), ⟨.inl rfl, ⟨.inl (congrArg some (qQ ho).symm), trivial⟩⟩⟩⟩⟩⟩, rfl, (by rw [show zeb l k = l from by simp [zeb, zft ho]]; exact ⟨none, _, 5, [], ho, (fun z => rfl), .inl ⟨rfl, rfl, rfl⟩, rfl⟩)⟩))))))))
 refine zbO (zcZ [0, 5, 1, 4] [cr (zY 2 (sv 3 0 n (n + m)) (gV 1 l.length (some (c, t)))), gB l (some (c, t)), cr [], cr []] [pv 0 2, iv k] (atN1C h_yard_row_head_Note_at n m k l c t ho.1 ho.2.2) rfl rfl ⟨⟨_, rfl, zZ (.inl (zao rfl rfl (qP (some (c, t)) rfl) (fun q => rfl)))⟩, ⟨⟨_, rfl, zb3 ho⟩, ⟨⟨_, rfl, zG⟩, ⟨⟨_, rfl, zG⟩, trivial⟩⟩⟩⟩ (by decide) ?_)
 rintro v1 h1' ⟨rfl, rfl⟩
 refine ⟨(zA zD (zA zD (zA zD (zA zD z4)))), .tuple #[ntE ((atS l k).1), bv ((atS l k).2)], [cw (zY 1 (sv 4 0 n (n + m)) (gV 5 l.length (some (c, t)))), cw (zR p 2 3 e b), .chan 200 (w.map qH), .map (hdM hd), cr [], gB l (some (c, t))], [], (qE (all_cons (zaV ((atS l k).1.u) ((atS l k).1.b) ((atS l k).1.v) ((atS l k).1.w) ((atS l k).1.a) ((atS l k).1.e) ((atS l k).1.p)) (all_cons rfl rfl))), ⟨rfl, ⟨rfl, ⟨rfl, ⟨rfl, ⟨(by cases true <;> rfl), ⟨qQ ho, trivial⟩⟩⟩⟩⟩⟩, trivial, ?_⟩
 refine o_b 4 [(5, pv 6 0), (14, bv ((atS l k).2)), (13, ntE ((atS l k).1)), (7, .tuple #[ntE ((atS l k).1), bv ((atS l k).2)])] [cw (zY 1 (sv 4 0 n (n + m)) (gV 5 l.length (some (c, t)))), cw (zR p 2 3 e b), .chan 200 (w.map qH), .map (hdM hd), cr [], gB l (some (c, t)), cw (ntF 0 0 0 false false e0 zH)] (by kernel_rfl) (zeC (by refine qY (c' := ntL ((atS l k).1)) rfl rfl rfl ?_ ?_ ?_; exact z8 _ _ _ _ _ _ _; exact zcR (by omega); exact zbh) ?_)
 refine o_b 1 [(6, bv ((atS l k).2))] [cw (zY 1 (sv 4 0 n (n + m)) (gV 5 l.length (some (c, t)))), cw (zR p 2 3 e b), .chan 200 (w.map qH), .map (hdM hd), cr [], gB l (some (c, t)), cw (ntL ((atS l k).1))] (by kernel_rfl) (zF (zC (zT (zT (z0 (o_d 1 [(15, bv ((atS l k).2))] (by kernel_rfl) (zF (zC (zaJ (t := (atS l k).2) rfl (fun h1 => ?_) (fun h1 => ?_))))))))))
 ·skip
  have hin : 0 ≤ k ∧ k < l.length := atS_in (by assumption)
  refine z0 (o_d 4 [(19, iv k), (18, pv 0 2), (17, pv 0 0), (16, pv 0 0)] (by kernel_rfl) (zbO (zcZ [0, 5, 1, 4] [cw (zY 2 (sv 3 0 n (n + m)) (gV 1 l.length (some (c, t)))), gB l (some (c, t)), cr [], cr []] [pv 0 2, iv k] (dropNC h_yard_row_head_Note_drop l (some (c, t)) k n m ho (hin) (by omega)) rfl rfl ⟨⟨_, rfl, zZ (.inl (zao rfl rfl (qP (some (c, t)) rfl) (fun q => rfl)))⟩, ⟨⟨_, rfl, zb3 ho⟩, ⟨⟨_, rfl, zG⟩, ⟨⟨_, rfl, zG⟩, trivial⟩⟩⟩⟩ (by decide) ?_)))
  rintro v1 h1' ⟨rfl, o2, s3, g4, z7⟩
  rcases o2 with _ | ⟨c5, t6⟩
  ·cases s3
  rcases z7 with rfl | rfl
  ·skip
   refine ⟨(zA qD (zA (fun h => by cases h) (zA zD (zA zD z4)))), .tuple #[], [cw (zY 1 (sv 4 0 n (n + m)) (gV 5 ((l.eraseIdx k.toNat).length) (some (c5, t6)))), cw (zR p 2 3 e b), .chan 200 (w.map qH), .map (hdM hd), cr [], gB (l.eraseIdx k.toNat) (some (c5, t6)), cw (ntL ((atS l k).1))], [], (by simp [zbw]), ⟨zat rfl rfl (qP (some (c5, t6)) rfl), ⟨rfl, ⟨rfl, ⟨rfl, ⟨(by cases true <;> rfl), ⟨qQ g4, ⟨rfl, trivial⟩⟩⟩⟩⟩⟩⟩, trivial, ?_⟩
   exact zF (zC (zT (z0 (o_d 2 [(4, bv ((atS l k).2)), (21, bv ((atS l k).2))] (by kernel_rfl) (zF (zC (zbr (⟨trivial, [bv ((atS l k).2)], (qB rfl rfl), (zS rfl z1), rfl, ⟨reg [], [cw (zY 1 (sv 4 0 n (n + m)) (gV 5 ((l.eraseIdx k.toNat).length) (some (c5, t6)))), cw (zR p 2 3 e b), .chan 200 (w.map qH), .map (hdM hd), cr [], gB (l.eraseIdx k.toNat) (some (c5, t6))]⟩, Wk.ren [0, 1, 2, 3, 4, 5] rfl rfl (by decide) trivial ⟨.inl (zaf rfl rfl (qP (some (c5, t6)) rfl)), ⟨.inl (z3 rfl rfl), ⟨.inl (congrArg some (zU _).symm), ⟨.inl (congrArg some (qA _).symm), ⟨.inl rfl, ⟨.inl (congrArg some (qQ g4).symm), trivial⟩⟩⟩⟩⟩⟩, rfl, (by rw [show zeb l k = (l.eraseIdx k.toNat) from by simp [zeb, h1, if_true]]; exact ⟨some (c5, t6), _, 5, [], g4, (fun z => by cases z), .inl ⟨rfl, rfl, rfl⟩, rfl⟩)⟩))))))))
  refine ⟨(zA qD (zA zD (zA zD (zA zD z4)))), .tuple #[], [cw (zY 1 (sv 4 0 n (n + m)) (gV 7 ((l.eraseIdx k.toNat).length) (some (c5, t6)))), cw (zR p 2 3 e b), .chan 200 (w.map qH), .map (hdM hd), cr [], gB l (some (c, t)), cw (ntL ((atS l k).1))], [gB (l.eraseIdx k.toNat) (some (c5, t6))], (by simp [zbw]), ⟨zat rfl rfl (qP (some (c5, t6)) rfl), ⟨rfl, ⟨rfl, ⟨rfl, ⟨(by cases true <;> rfl), ⟨qQ ho, ⟨rfl, trivial⟩⟩⟩⟩⟩⟩⟩, ⟨(qQ g4), trivial⟩, ?_⟩
  exact zF (zC (zT (z0 (o_d 2 [(4, bv ((atS l k).2)), (21, bv ((atS l k).2))] (by kernel_rfl) (zF (zC (zbr (⟨trivial, [bv ((atS l k).2)], (qB rfl rfl), (zS rfl z1), rfl, ⟨reg [], [cw (zY 1 (sv 4 0 n (n + m)) (gV 6 ((l.eraseIdx k.toNat).length) (some (c5, t6)))), cw (zR p 2 3 e b), .chan 200 (w.map qH), .map (hdM hd), cr [], gB l (some (c, t)), gB (l.eraseIdx k.toNat) (some (c5, t6))]⟩, Wk.ren [0, 1, 2, 3, 4, 5, 7] rfl rfl (by decide) trivial ⟨.inl (zaf rfl rfl (qP (some (c5, t6)) rfl)), ⟨.inl (z3 rfl rfl), ⟨.inl (congrArg some (zU _).symm), ⟨.inl (congrArg some (qA _).symm), ⟨.inl rfl, ⟨.inl (congrArg some (qQ ho).symm), ⟨.inl (congrArg some (qQ g4).symm), trivial⟩⟩⟩⟩⟩⟩⟩, rfl, (by rw [show zeb l k = (l.eraseIdx k.toNat) from by simp [zeb, h1, if_true]]; exact ⟨some (c5, t6), gB l (some (c, t)), 6, _, g4, (fun z => by cases z), .inr ⟨rfl, rfl⟩, rfl⟩)⟩))))))))
 exact zaC (zC (zT (z0 (o_d 2 [(4, bv ((atS l k).2)), (21, bv ((atS l k).2))] (by kernel_rfl) (zF (zC (zbr (⟨trivial, [bv ((atS l k).2)], (qB rfl rfl), (zS rfl z1), rfl, ⟨reg [], [cw (zY 1 (sv 4 0 n (n + m)) (gV 5 l.length (some (c, t)))), cw (zR p 2 3 e b), .chan 200 (w.map qH), .map (hdM hd), cr [], gB l (some (c, t))]⟩, Wk.ren [0, 1, 2, 3, 4, 5] rfl rfl (by decide) trivial ⟨.inl (zaf rfl rfl (qP (some (c, t)) rfl)), ⟨.inl (z3 rfl rfl), ⟨.inl (congrArg some (zU _).symm), ⟨.inl (congrArg some (qA _).symm), ⟨.inl rfl, ⟨.inl (congrArg some (qQ ho).symm), trivial⟩⟩⟩⟩⟩⟩, rfl, (by rw [show zeb l k = l from by simp [zeb, h1, if_true]]; exact ⟨some (c, t), _, 5, [], ho, (fun z => by cases z), .inl ⟨rfl, rfl, rfl⟩, rfl⟩)⟩))))))))
theorem YDeliverAC {P : Program} (hc : zbn P) (h_yard_row_head_Note_at : zab P) (h_yard_row_head_Note_drop : zad P) (h_head_Head_Heard : zbm P) (p : qO) (w : List Ent) (hd : List (Int × Int)) (e : Ent) (b : Bool) (n m : Nat) (l : List Nt) (o : Gr) (ho : gOk l o) (hl : l.length ≤ 900000) (k : Int) (keep : Bool) (hack : (atS l k).2 = true → (atS l k).1.a = true) :
    Env P "(*roundhouse/yard.Yard).Deliver" [pv 0 0, iv k, bv keep] ([cw (zY 1 (sv 4 0 n (n + m)) (gV 5 l.length o)), cw (zR p 2 3 e b), .chan 200 (w.map qH), .map (hdM hd), cr [], gB l o]) (fun v h' => v = bv (atS l k).2 ∧ PA n m o (ackS (HS.mk p w hd e b) l k keep).1 (ackS (HS.mk p w hd e b) l k keep).2 h') := by
 refine Env.by3 hc ?_
 unfold zbM
 show GC _ 6 _ _ ⟨reg [(0, pv 0 0), (1, iv k), (2, bv keep)], [cw (zY 1 (sv 4 0 n (n + m)) (gV 5 l.length o)), cw (zR p 2 3 e b), .chan 200 (w.map qH), .map (hdM hd), cr [], gB l o]⟩
 refine zT (z0 (o_d 1 [(6, bv false)] (by kernel_rfl) (zF (zC (zT (z0 (o_d 4 [(17, iv k), (16, pv 0 2), (15, pv 0 0), (14, pv 0 0)] (by kernel_rfl) ?_)))))))
 rcases o with _ | ⟨c, t⟩
 ·skip
  refine zbO (zcZ [0, 5, 1, 4] [cr (zY 2 (sv 3 0 n (n + m)) (gV 1 l.length none)), gB l none, cr [], cr []] [pv 0 2, iv k] (atN0C h_yard_row_head_Note_at n m k l ho) rfl rfl ⟨⟨_, rfl, zZ (.inl (zao rfl rfl (qP none rfl) (fun q => rfl)))⟩, ⟨⟨_, rfl, zb3 ho⟩, ⟨⟨_, rfl, zG⟩, ⟨⟨_, rfl, zG⟩, trivial⟩⟩⟩⟩ (by decide) ?_)
  rintro v1 h1' ⟨rfl, rfl⟩
  refine ⟨(zA zD (zA zD (zA zD (zA zD z4)))), .tuple #[ntE ((atS l k).1), bv ((atS l k).2)], [cw (zY 1 (sv 4 0 n (n + m)) (gV 5 l.length none)), cw (zR p 2 3 e b), .chan 200 (w.map qH), .map (hdM hd), cr [], gB l none], [], (qE (all_cons (zaV ((atS l k).1.u) ((atS l k).1.b) ((atS l k).1.v) ((atS l k).1.w) ((atS l k).1.a) ((atS l k).1.e) ((atS l k).1.p)) (all_cons rfl rfl))), ⟨rfl, ⟨rfl, ⟨rfl, ⟨rfl, ⟨(by cases true <;> rfl), ⟨(by cases none with | none => rfl | some y9 => exact qQ ho), trivial⟩⟩⟩⟩⟩⟩, trivial, ?_⟩
  refine o_b 4 [(7, pv 6 0), (20, bv ((atS l k).2)), (19, ntE ((atS l k).1)), (13, .tuple #[ntE ((atS l k).1), bv ((atS l k).2)])] [cw (zY 1 (sv 4 0 n (n + m)) (gV 5 l.length none)), cw (zR p 2 3 e b), .chan 200 (w.map qH), .map (hdM hd), cr [], gB l none, cw (ntF 0 0 0 false false e0 zH)] (by kernel_rfl) (zeC (by refine qY (c' := ntL ((atS l k).1)) rfl rfl rfl ?_ ?_ ?_; exact z8 _ _ _ _ _ _ _; exact zcR (by omega); exact zbh) ?_)
  refine o_b 1 [(8, bv ((atS l k).2))] [cw (zY 1 (sv 4 0 n (n + m)) (gV 5 l.length none)), cw (zR p 2 3 e b), .chan 200 (w.map qH), .map (hdM hd), cr [], gB l none, cw (ntL ((atS l k).1))] (by kernel_rfl) (zF (zC (zT (zT (z0 (o_d 2 [(22, bv (!((atS l k).2))), (21, bv ((atS l k).2))] (by kernel_rfl) (zF (zC (zaJ (t := !((atS l k).2)) rfl (fun _ => ?_) (fun q => by rw [(by rw [zft ho]; rfl : (!((atS l k).2)) = true)] at q; cases q))))))))))
  exact zT (z0 (o_d 1 [(6, bv false)] (by kernel_rfl) (zF (zC (zbr (⟨trivial, [bv false], (qB rfl rfl), (zS rfl z1), rfl, ⟨reg [], [cw (zY 1 (sv 4 0 n (n + m)) (gV 5 l.length none)), cw (zR p 2 3 e b), .chan 200 (w.map qH), .map (hdM hd), cr [], gB l none]⟩, Wk.ren [0, 1, 2, 3, 4, 5] rfl rfl (by decide) trivial ⟨.inl (zaf rfl rfl (qP none rfl)), ⟨.inl (z3 rfl rfl), ⟨.inl (congrArg some (zU _).symm), ⟨.inl (congrArg some (qA _).symm), ⟨.inl rfl, ⟨.inl (congrArg some (qQ ho).symm), trivial⟩⟩⟩⟩⟩⟩, (by simp [one, zft ho]), (by rw [show ackS (HS.mk p w hd e b) l k keep = (HS.mk p w hd e b, l) from by simp [ackS, zhH, zft ho]]; exact ⟨none, _, 5, [], ho, (fun z => rfl), .inl ⟨rfl, rfl, rfl⟩, rfl⟩)⟩))))))
 refine zbO (zcZ [0, 5, 1, 4] [cr (zY 2 (sv 3 0 n (n + m)) (gV 1 l.length (some (c, t)))), gB l (some (c, t)), cr [], cr []] [pv 0 2, iv k] (atN1C h_yard_row_head_Note_at n m k l c t ho.1 ho.2.2) rfl rfl ⟨⟨_, rfl, zZ (.inl (zao rfl rfl (qP (some (c, t)) rfl) (fun q => rfl)))⟩, ⟨⟨_, rfl, zb3 ho⟩, ⟨⟨_, rfl, zG⟩, ⟨⟨_, rfl, zG⟩, trivial⟩⟩⟩⟩ (by decide) ?_)
 rintro v1 h1' ⟨rfl, rfl⟩
 refine ⟨(zA zD (zA zD (zA zD (zA zD z4)))), .tuple #[ntE ((atS l k).1), bv ((atS l k).2)], [cw (zY 1 (sv 4 0 n (n + m)) (gV 5 l.length (some (c, t)))), cw (zR p 2 3 e b), .chan 200 (w.map qH), .map (hdM hd), cr [], gB l (some (c, t))], [], (qE (all_cons (zaV ((atS l k).1.u) ((atS l k).1.b) ((atS l k).1.v) ((atS l k).1.w) ((atS l k).1.a) ((atS l k).1.e) ((atS l k).1.p)) (all_cons rfl rfl))), ⟨rfl, ⟨rfl, ⟨rfl, ⟨rfl, ⟨(by cases true <;> rfl), ⟨qQ ho, trivial⟩⟩⟩⟩⟩⟩, trivial, ?_⟩
 refine o_b 4 [(7, pv 6 0), (20, bv ((atS l k).2)), (19, ntE ((atS l k).1)), (13, .tuple #[ntE ((atS l k).1), bv ((atS l k).2)])] [cw (zY 1 (sv 4 0 n (n + m)) (gV 5 l.length (some (c, t)))), cw (zR p 2 3 e b), .chan 200 (w.map qH), .map (hdM hd), cr [], gB l (some (c, t)), cw (ntF 0 0 0 false false e0 zH)] (by kernel_rfl) (zeC (by refine qY (c' := ntL ((atS l k).1)) rfl rfl rfl ?_ ?_ ?_; exact z8 _ _ _ _ _ _ _; exact zcR (by omega); exact zbh) ?_)
 refine o_b 1 [(8, bv ((atS l k).2))] [cw (zY 1 (sv 4 0 n (n + m)) (gV 5 l.length (some (c, t)))), cw (zR p 2 3 e b), .chan 200 (w.map qH), .map (hdM hd), cr [], gB l (some (c, t)), cw (ntL ((atS l k).1))] (by kernel_rfl) (zF (zC (zT (zT (z0 (o_d 2 [(22, bv (!((atS l k).2))), (21, bv ((atS l k).2))] (by kernel_rfl) (zF (zC (zaJ (t := !((atS l k).2)) rfl (fun h1 => ?_) (fun h1 => ?_))))))))))
 ·skip
  have h2 : ((atS l k).2) = false := not_t h1
  exact zT (z0 (o_d 1 [(6, bv false)] (by kernel_rfl) (zF (zC (zbr (⟨trivial, [bv false], (qB rfl rfl), (zS rfl z1), rfl, ⟨reg [], [cw (zY 1 (sv 4 0 n (n + m)) (gV 5 l.length (some (c, t)))), cw (zR p 2 3 e b), .chan 200 (w.map qH), .map (hdM hd), cr [], gB l (some (c, t))]⟩, Wk.ren [0, 1, 2, 3, 4, 5] rfl rfl (by decide) trivial ⟨.inl (zaf rfl rfl (qP (some (c, t)) rfl)), ⟨.inl (z3 rfl rfl), ⟨.inl (congrArg some (zU _).symm), ⟨.inl (congrArg some (qA _).symm), ⟨.inl rfl, ⟨.inl (congrArg some (qQ ho).symm), trivial⟩⟩⟩⟩⟩⟩, (by simp [one, h1, h2, if_true]), (by rw [show ackS (HS.mk p w hd e b) l k keep = (HS.mk p w hd e b, l) from by simp [ackS, zhH, h1, h2, if_true]]; exact ⟨some (c, t), _, 5, [], ho, (fun z => by cases z), .inl ⟨rfl, rfl, rfl⟩, rfl⟩)⟩))))))
 have h3 : ((atS l k).2) = true := not_f h1
 have hin : 0 ≤ k ∧ k < l.length := atS_in (by simp_all)
 refine zaC (zC (zT (zT (z0 (o_d 2 [(24, bv (!keep)), (23, bv keep)] (by kernel_rfl) (zF (zC (zaJ (t := !keep) rfl (fun h4 => ?_) (fun h4 => ?_)))))))))
 ·skip
  have h5 : keep = false := not_t h4
  refine z0 (o_d 4 [(28, iv k), (27, pv 0 2), (26, pv 0 0), (25, pv 0 0)] (by kernel_rfl) (zbO (zcZ [0, 5, 1, 4] [cw (zY 2 (sv 3 0 n (n + m)) (gV 1 l.length (some (c, t)))), gB l (some (c, t)), cr [], cr []] [pv 0 2, iv k] (dropNC h_yard_row_head_Note_drop l (some (c, t)) k n m ho (hin) (by omega)) rfl rfl ⟨⟨_, rfl, zZ (.inl (zao rfl rfl (qP (some (c, t)) rfl) (fun q => rfl)))⟩, ⟨⟨_, rfl, zb3 ho⟩, ⟨⟨_, rfl, zG⟩, ⟨⟨_, rfl, zG⟩, trivial⟩⟩⟩⟩ (by decide) ?_)))
  rintro v1 h1' ⟨rfl, o6, s7, g8, z11⟩
  rcases o6 with _ | ⟨c9, t10⟩
  ·cases s7
  rcases z11 with rfl | rfl
  ·skip
   refine ⟨(zA qD (zA (fun h => by cases h) (zA zD (zA zD z4)))), .tuple #[], [cw (zY 1 (sv 4 0 n (n + m)) (gV 5 ((l.eraseIdx k.toNat).length) (some (c9, t10)))), cw (zR p 2 3 e b), .chan 200 (w.map qH), .map (hdM hd), cr [], gB (l.eraseIdx k.toNat) (some (c9, t10)), cw (ntL ((atS l k).1))], [], (by simp [zbw]), ⟨zat rfl rfl (qP (some (c9, t10)) rfl), ⟨rfl, ⟨rfl, ⟨rfl, ⟨(by cases true <;> rfl), ⟨qQ g8, ⟨rfl, trivial⟩⟩⟩⟩⟩⟩⟩, trivial, ?_⟩
   refine zF (z9 [(7, pv 6 0), (0, pv 0 0)] (by kernel_rfl) (zT (zT (z0 (o_d 1 [(30, pv 6 4)] (by kernel_rfl) (o_s (by refine z6 (v := bv ((atS l k).1.a)) rfl rfl ?_; exact zdx rfl) ?_))))))
   refine zF (zC (zaJ (t := (atS l k).1.a) rfl (fun _ => ?_) (fun q => by rw [(hack (by simp_all) : ((atS l k).1.a) = true)] at q; cases q)))
   refine zT (zbq [cw (zY 1 (sv 4 0 n (n + m)) (gV 5 ((l.eraseIdx k.toNat).length) (some (c9, t10)))), cw (zR p 2 3 e b), .chan 200 (w.map qH), .map (hdM hd), cr [], gB (l.eraseIdx k.toNat) (some (c9, t10)), cw (ntL ((atS l k).1))] (by kernel_rfl) (d_n 4 4 7 [(35, pv 1 0), (34, pv 0 0), (33, pv 0 0), (32, pv 0 0)] [cw (zY 1 (sv 4 0 n (n + m)) (gV 5 ((l.eraseIdx k.toNat).length) (some (c9, t10)))), cw (zR p 2 3 e b), .chan 200 (w.map qH), .map (hdM hd), cr [], gB (l.eraseIdx k.toNat) (some (c9, t10)), cw (ntL ((atS l k).1))] [⟨3, [0], [], none⟩] (by kernel_rfl) rfl rfl (d_s rfl rfl rfl (by kernel_rfl) (by refine z6 (v := ntE ((atS l k).1)) rfl rfl ?_; exact zbx ((atS l k).1.u) ((atS l k).1.b) ((atS l k).1.v) ((atS l k).1.w) ((atS l k).1.a) ((atS l k).1.e) ((atS l k).1.p)) ?_)))
   refine zga [1, 2, 3] [cw (zR p 1 2 e b), .chan 200 (w.map qH), .map (hdM hd)] [pv 0 0, ntE ((atS l k).1)] (HheardC h_head_Head_Heard p w hd e b ((atS l k).1.u) ((atS l k).1.b) ((atS l k).1.v) ((atS l k).1.w) ((atS l k).1.a) ((atS l k).1.e) ((atS l k).1.p)) rfl (zan rfl (zan (qE (ntV_vpf ((atS l k).1.u) ((atS l k).1.b) ((atS l k).1.v) ((atS l k).1.w) ((atS l k).1.a) ((atS l k).1.e) ((atS l k).1.p))) rfl)) ⟨⟨_, rfl, zZ (.inl (zb4 rfl rfl (fun q => rfl)))⟩, ⟨⟨_, rfl, zZ (.inl (zb5 _))⟩, ⟨⟨_, rfl, zZ (.inl (zcP _))⟩, trivial⟩⟩⟩ (by decide) ⟨_, _, ⟨rfl, rfl⟩, Nat.le_refl _, ziw⟩ ?_ (by kernel_rfl)
   rintro v1 h1' ⟨rfl, rfl⟩
   refine ⟨(zA zD (zA zD (zA (fun h => by cases h) z4))), .tuple #[], [cw (zY 1 (sv 4 0 n (n + m)) (gV 5 ((l.eraseIdx k.toNat).length) (some (c9, t10)))), cw (zR p 2 3 e b), .chan 200 (w.map qH), .map (hdM (zbT hd (atS l k).1)), cr [], gB (l.eraseIdx k.toNat) (some (c9, t10)), cw (ntL ((atS l k).1))], [], (by simp [zbw]), ⟨rfl, ⟨zb7 rfl rfl, ⟨zU _, ⟨qA _, ⟨rfl, ⟨rfl, ⟨rfl, trivial⟩⟩⟩⟩⟩⟩⟩, trivial, ?_⟩
   exact zbW (zC (zT (z0 (o_d 1 [(6, bv true)] (by kernel_rfl) (zF (zC (zbr (⟨trivial, [bv true], (qB rfl rfl), (zS rfl z1), rfl, ⟨reg [], [cw (zY 1 (sv 4 0 n (n + m)) (gV 5 ((l.eraseIdx k.toNat).length) (some (c9, t10)))), cw (zR p 2 3 e b), .chan 200 (w.map qH), .map (hdM (zbT hd (atS l k).1)), cr [], gB (l.eraseIdx k.toNat) (some (c9, t10))]⟩, Wk.ren [0, 1, 2, 3, 4, 5] rfl rfl (by decide) trivial ⟨.inl (zaf rfl rfl (qP (some (c9, t10)) rfl)), ⟨.inl (z3 rfl rfl), ⟨.inl (congrArg some (zU _).symm), ⟨.inl (congrArg some (qA _).symm), ⟨.inl rfl, ⟨.inl (congrArg some (qQ g8).symm), trivial⟩⟩⟩⟩⟩⟩, (by simp [one, h1, h3, h4, h5, if_true]), (by rw [show ackS (HS.mk p w hd e b) l k keep = (HS.mk p w (zbT hd (atS l k).1) e b, (l.eraseIdx k.toNat)) from by simp [ackS, zhH, h1, h3, h4, h5, if_true]]; exact ⟨some (c9, t10), _, 5, [], g8, (fun z => by cases z), .inl ⟨rfl, rfl, rfl⟩, rfl⟩)⟩))))))))
  refine ⟨(zA qD (zA zD (zA zD (zA zD z4)))), .tuple #[], [cw (zY 1 (sv 4 0 n (n + m)) (gV 7 ((l.eraseIdx k.toNat).length) (some (c9, t10)))), cw (zR p 2 3 e b), .chan 200 (w.map qH), .map (hdM hd), cr [], gB l (some (c, t)), cw (ntL ((atS l k).1))], [gB (l.eraseIdx k.toNat) (some (c9, t10))], (by simp [zbw]), ⟨zat rfl rfl (qP (some (c9, t10)) rfl), ⟨rfl, ⟨rfl, ⟨rfl, ⟨(by cases true <;> rfl), ⟨qQ ho, ⟨rfl, trivial⟩⟩⟩⟩⟩⟩⟩, ⟨(qQ g8), trivial⟩, ?_⟩
  refine zF (z9 [(7, pv 6 0), (0, pv 0 0)] (by kernel_rfl) (zT (zT (z0 (o_d 1 [(30, pv 6 4)] (by kernel_rfl) (o_s (by refine z6 (v := bv ((atS l k).1.a)) rfl rfl ?_; exact zdx rfl) ?_))))))
  refine zF (zC (zaJ (t := (atS l k).1.a) rfl (fun _ => ?_) (fun q => by rw [(hack (by simp_all) : ((atS l k).1.a) = true)] at q; cases q)))
  refine zT (zbq [cw (zY 1 (sv 4 0 n (n + m)) (gV 7 ((l.eraseIdx k.toNat).length) (some (c9, t10)))), cw (zR p 2 3 e b), .chan 200 (w.map qH), .map (hdM hd), cr [], gB l (some (c, t)), cw (ntL ((atS l k).1)), gB (l.eraseIdx k.toNat) (some (c9, t10))] (by kernel_rfl) (d_n 4 4 8 [(35, pv 1 0), (34, pv 0 0), (33, pv 0 0), (32, pv 0 0)] [cw (zY 1 (sv 4 0 n (n + m)) (gV 7 ((l.eraseIdx k.toNat).length) (some (c9, t10)))), cw (zR p 2 3 e b), .chan 200 (w.map qH), .map (hdM hd), cr [], gB l (some (c, t)), cw (ntL ((atS l k).1)), gB (l.eraseIdx k.toNat) (some (c9, t10))] [⟨3, [0], [], none⟩] (by kernel_rfl) rfl rfl (d_s rfl rfl rfl (by kernel_rfl) (by refine z6 (v := ntE ((atS l k).1)) rfl rfl ?_; exact zbx ((atS l k).1.u) ((atS l k).1.b) ((atS l k).1.v) ((atS l k).1.w) ((atS l k).1.a) ((atS l k).1.e) ((atS l k).1.p)) ?_)))
  refine zga [1, 2, 3] [cw (zR p 1 2 e b), .chan 200 (w.map qH), .map (hdM hd)] [pv 0 0, ntE ((atS l k).1)] (HheardC h_head_Head_Heard p w hd e b ((atS l k).1.u) ((atS l k).1.b) ((atS l k).1.v) ((atS l k).1.w) ((atS l k).1.a) ((atS l k).1.e) ((atS l k).1.p)) rfl (zan rfl (zan (qE (ntV_vpf ((atS l k).1.u) ((atS l k).1.b) ((atS l k).1.v) ((atS l k).1.w) ((atS l k).1.a) ((atS l k).1.e) ((atS l k).1.p))) rfl)) ⟨⟨_, rfl, zZ (.inl (zb4 rfl rfl (fun q => rfl)))⟩, ⟨⟨_, rfl, zZ (.inl (zb5 _))⟩, ⟨⟨_, rfl, zZ (.inl (zcP _))⟩, trivial⟩⟩⟩ (by decide) ⟨_, _, ⟨rfl, rfl⟩, Nat.le_refl _, ziw⟩ ?_ (by kernel_rfl)
  rintro v1 h1' ⟨rfl, rfl⟩
  refine ⟨(zA zD (zA zD (zA (fun h => by cases h) z4))), .tuple #[], [cw (zY 1 (sv 4 0 n (n + m)) (gV 7 ((l.eraseIdx k.toNat).length) (some (c9, t10)))), cw (zR p 2 3 e b), .chan 200 (w.map qH), .map (hdM (zbT hd (atS l k).1)), cr [], gB l (some (c, t)), cw (ntL ((atS l k).1)), gB (l.eraseIdx k.toNat) (some (c9, t10))], [], (by simp [zbw]), ⟨rfl, ⟨zb7 rfl rfl, ⟨zU _, ⟨qA _, ⟨rfl, ⟨rfl, ⟨rfl, ⟨rfl, trivial⟩⟩⟩⟩⟩⟩⟩⟩, trivial, ?_⟩
  exact zbW (zC (zT (z0 (o_d 1 [(6, bv true)] (by kernel_rfl) (zF (zC (zbr (⟨trivial, [bv true], (qB rfl rfl), (zS rfl z1), rfl, ⟨reg [], [cw (zY 1 (sv 4 0 n (n + m)) (gV 6 ((l.eraseIdx k.toNat).length) (some (c9, t10)))), cw (zR p 2 3 e b), .chan 200 (w.map qH), .map (hdM (zbT hd (atS l k).1)), cr [], gB l (some (c, t)), gB (l.eraseIdx k.toNat) (some (c9, t10))]⟩, Wk.ren [0, 1, 2, 3, 4, 5, 7] rfl rfl (by decide) trivial ⟨.inl (zaf rfl rfl (qP (some (c9, t10)) rfl)), ⟨.inl (z3 rfl rfl), ⟨.inl (congrArg some (zU _).symm), ⟨.inl (congrArg some (qA _).symm), ⟨.inl rfl, ⟨.inl (congrArg some (qQ ho).symm), ⟨.inl (congrArg some (qQ g8).symm), trivial⟩⟩⟩⟩⟩⟩⟩, (by simp [one, h1, h3, h4, h5, if_true]), (by rw [show ackS (HS.mk p w hd e b) l k keep = (HS.mk p w (zbT hd (atS l k).1) e b, (l.eraseIdx k.toNat)) from by simp [ackS, zhH, h1, h3, h4, h5, if_true]]; exact ⟨some (c9, t10), gB l (some (c, t)), 6, _, g8, (fun z => by cases z), .inr ⟨rfl, rfl⟩, rfl⟩)⟩))))))))
 have h12 : keep = true := not_f h4
 refine zaC (zC (zT (zT (z0 (o_d 1 [(30, pv 6 4)] (by kernel_rfl) (o_s (by refine z6 (v := bv ((atS l k).1.a)) rfl rfl ?_; exact zdx rfl) ?_))))))
 refine zF (zC (zaJ (t := (atS l k).1.a) rfl (fun _ => ?_) (fun q => by rw [(hack (by simp_all) : ((atS l k).1.a) = true)] at q; cases q)))
 refine zT (zbq [cw (zY 1 (sv 4 0 n (n + m)) (gV 5 l.length (some (c, t)))), cw (zR p 2 3 e b), .chan 200 (w.map qH), .map (hdM hd), cr [], gB l (some (c, t)), cw (ntL ((atS l k).1))] (by kernel_rfl) (d_n 4 4 7 [(35, pv 1 0), (34, pv 0 0), (33, pv 0 0), (32, pv 0 0)] [cw (zY 1 (sv 4 0 n (n + m)) (gV 5 l.length (some (c, t)))), cw (zR p 2 3 e b), .chan 200 (w.map qH), .map (hdM hd), cr [], gB l (some (c, t)), cw (ntL ((atS l k).1))] [⟨3, [0], [], none⟩] (by kernel_rfl) rfl rfl (d_s rfl rfl rfl (by kernel_rfl) (by refine z6 (v := ntE ((atS l k).1)) rfl rfl ?_; exact zbx ((atS l k).1.u) ((atS l k).1.b) ((atS l k).1.v) ((atS l k).1.w) ((atS l k).1.a) ((atS l k).1.e) ((atS l k).1.p)) ?_)))
 refine zga [1, 2, 3] [cw (zR p 1 2 e b), .chan 200 (w.map qH), .map (hdM hd)] [pv 0 0, ntE ((atS l k).1)] (HheardC h_head_Head_Heard p w hd e b ((atS l k).1.u) ((atS l k).1.b) ((atS l k).1.v) ((atS l k).1.w) ((atS l k).1.a) ((atS l k).1.e) ((atS l k).1.p)) rfl (zan rfl (zan (qE (ntV_vpf ((atS l k).1.u) ((atS l k).1.b) ((atS l k).1.v) ((atS l k).1.w) ((atS l k).1.a) ((atS l k).1.e) ((atS l k).1.p))) rfl)) ⟨⟨_, rfl, zZ (.inl (zb4 rfl rfl (fun q => rfl)))⟩, ⟨⟨_, rfl, zZ (.inl (zb5 _))⟩, ⟨⟨_, rfl, zZ (.inl (zcP _))⟩, trivial⟩⟩⟩ (by decide) ⟨_, _, ⟨rfl, rfl⟩, Nat.le_refl _, ziw⟩ ?_ (by kernel_rfl)
 rintro v1 h1' ⟨rfl, rfl⟩
 refine ⟨(zA zD (zA zD (zA (fun h => by cases h) z4))), .tuple #[], [cw (zY 1 (sv 4 0 n (n + m)) (gV 5 l.length (some (c, t)))), cw (zR p 2 3 e b), .chan 200 (w.map qH), .map (hdM (zbT hd (atS l k).1)), cr [], gB l (some (c, t)), cw (ntL ((atS l k).1))], [], (by simp [zbw]), ⟨rfl, ⟨zb7 rfl rfl, ⟨zU _, ⟨qA _, ⟨rfl, ⟨rfl, ⟨rfl, trivial⟩⟩⟩⟩⟩⟩⟩, trivial, ?_⟩
 exact zbW (z9 [] (by kernel_rfl) (zT (z0 (o_d 1 [(6, bv true)] (by kernel_rfl) (zF (zC (zbr (⟨trivial, [bv true], (qB rfl rfl), (zS rfl z1), rfl, ⟨reg [], [cw (zY 1 (sv 4 0 n (n + m)) (gV 5 l.length (some (c, t)))), cw (zR p 2 3 e b), .chan 200 (w.map qH), .map (hdM (zbT hd (atS l k).1)), cr [], gB l (some (c, t))]⟩, Wk.ren [0, 1, 2, 3, 4, 5] rfl rfl (by decide) trivial ⟨.inl (zaf rfl rfl (qP (some (c, t)) rfl)), ⟨.inl (z3 rfl rfl), ⟨.inl (congrArg some (zU _).symm), ⟨.inl (congrArg some (qA _).symm), ⟨.inl rfl, ⟨.inl (congrArg some (qQ ho).symm), trivial⟩⟩⟩⟩⟩⟩, (by simp [one, h1, h3, h4, h12, if_true]), (by rw [show ackS (HS.mk p w hd e b) l k keep = (HS.mk p w (zbT hd (atS l k).1) e b, l) from by simp [ackS, zhH, h1, h3, h4, h12, if_true]]; exact ⟨some (c, t), _, 5, [], ho, (fun z => by cases z), .inl ⟨rfl, rfl, rfl⟩, rfl⟩)⟩))))))))
end Go.Rh
