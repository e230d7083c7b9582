/- The proofs zex the intermediate form, part QYardLossesf. -/
import Derived.Test.YtonnmmemnjnjbaaQYardLossese
import Derived.Test.YtonnmmemnjnjbaaQYardLossesc
import Derived.Test.YtonnmmemnjnjbaaQYardLossesd
open Go.IntKind (i64)
set_option linter.unusedVariables false
set_option linter.unusedSimpArgs false
set_option maxRecDepth 100000
namespace Go.Rh
theorem HNew0C {P : Program} (hc : zdP P) (p : qJ) (units : Int) (hu : units < 1 ∨ 16 < units) :
  Env P "roundhouse/head.New" [qL p, iv units] ([]) (fun v h' => v = .tuple #[.pointer none, iv 14] ∧ h' = []) := by
 have h := HNewC hc p units
 have e : (fun (v : Value) (h' : List Blk) => if units < 1 ∨ 16 < units then v = .tuple #[.pointer none, iv 14] ∧ h' = [] else v = .tuple #[pv 0 0, iv 0] ∧ h' = [cw (z5 p 1 2 e0 false), .chan 200 (([] : List Ent).map zap), .map (hdM (List.replicate units.toNat (0, -1)))]) = fun v h' => v = .tuple #[.pointer none, iv 14] ∧ h' = [] := by
  funext v h'; rw [if_pos hu]
 rw [e] at h; exact h
theorem HNew1C {P : Program} (hc : zdP P) (p : qJ) (units : Int) (hu : ¬ (units < 1 ∨ 16 < units)) :
  Env P "roundhouse/head.New" [qL p, iv units] ([]) (fun v h' => v = .tuple #[pv 0 0, iv 0] ∧ h' = [cw (z5 p 1 2 e0 false), .chan 200 (([] : List Ent).map zap), .map (hdM (List.replicate units.toNat (0, -1)))]) := by
 have h := HNewC hc p units
 have e : (fun (v : Value) (h' : List Blk) => if units < 1 ∨ 16 < units then v = .tuple #[.pointer none, iv 14] ∧ h' = [] else v = .tuple #[pv 0 0, iv 0] ∧ h' = [cw (z5 p 1 2 e0 false), .chan 200 (([] : List Ent).map zap), .map (hdM (List.replicate units.toNat (0, -1)))]) = fun v h' => v = .tuple #[pv 0 0, iv 0] ∧ h' = [cw (z5 p 1 2 e0 false), .chan 200 (([] : List Ent).map zap), .map (hdM (List.replicate units.toNat (0, -1)))] := by
  funext v h'; rw [if_neg hu]
 rw [e] at h; exact h
theorem YHn.to {n : Nat} {p : qJ} {h : List Blk} (h1 : 1 ≤ n) (h16 : n ≤ 16) (hY : YHn n (newHS p (n : Nat)) h) : YP (fun _ => True) 0 (nyS p n) h := by
 obtain ⟨ro, pl, Y, hp⟩ := hY
 cases ro with
 | none => have := Y.ro0 rfl; omega
 | some m => exact ⟨fun _ => none, ⟨fun j _ his => by simp [nyS] at his, ⟨m, none, pl, Y, hp, fun _ _ => trivial, h1, h16, fun _ _ => trivial⟩⟩⟩
theorem YNewC {P : Program} (H : YCode P) (p : qJ) (units : Int) :
    Env P "roundhouse/yard.New" [qL p, iv units] ([]) (fun v h' => if units < 1 ∨ 16 < units then v = .tuple #[.pointer none, iv 14] ∧ h' = [] else v = .tuple #[pv 0 0, iv 0] ∧ YP (fun _ => True) 0 (nyS p units.toNat) h') := by
 refine Env.by2 H.h_yard_New ?_
 unfold zhn
 show GC _ 0 _ _ ⟨reg [(0, qL p), (1, iv units)], []⟩
 refine zQ (zU (o_b 3 [(5, iv 0), (4, .pointer none), (2, pv 0 0)] [cw (pl p)] (by kernel_rfl) (zF (zC (zQ (zU (o_s (by refine zZ (v := qL p) rfl rfl ?_; exact zau p) ?_)))))))
 refine o_d 1 [(11, iv units)] (by kernel_rfl) ?_
 by_cases hu : units < 1 ∨ 16 < units
 · refine zb8 (zdI [] [] [qL p, iv units] (HNew0C H.h_head_New p units hu) rfl (zaG (qK (zaT p)) (zaG rfl rfl)) trivial (by decide) ?_)
   rintro v1 h1' ⟨rfl, rfl⟩
   refine ⟨z9, .tuple #[.pointer none, iv 14], [cw (pl p)], [], (qK rfl), ⟨rfl, trivial⟩, trivial, ?_⟩
   refine o_d 5 [(7, iv 14), (6, .pointer none), (14, iv 14), (13, .pointer none), (9, .tuple #[.pointer none, iv 14])] (by kernel_rfl) (zF (zC (zQ (zQ (zU (o_d 2 [(16, bv true), (15, iv 14)] (by kernel_rfl) (zF (zC (zd9 rfl (zQ (zU (o_d 3 [(5, iv 14), (4, .pointer none), (17, iv 14)] (by kernel_rfl) ?_))))))))))))
   exact zF (zC (zaZ (⟨trivial, ⟨reg [(4, .pointer none), (5, iv 14)], []⟩, Wk.ren [] rfl rfl (by decide) ⟨rfl, ⟨rfl, trivial⟩⟩ trivial, [.pointer none, iv 14], (qD rfl (qD rfl rfl)), (zV rfl (zV rfl qB)), by rw [if_pos hu]; exact ⟨rfl, rfl⟩⟩)))
 refine zb8 (zdI [] [] [qL p, iv units] (HNew1C H.h_head_New p units hu) rfl (zaG (qK (zaT p)) (zaG rfl rfl)) trivial (by decide) ?_)
 rintro v1 h1' ⟨rfl, rfl⟩
 refine ⟨z9, .tuple #[pv 1 0, iv 0], [cw (pl p)], [cw (z5 p 2 3 e0 false), .chan 200 (([] : List Ent).map zap), .map (hdM (List.replicate units.toNat (0, -1)))], ((zgL _).trans rfl), ⟨rfl, trivial⟩, ⟨(Option.some.inj (qG rfl rfl)).symm, ⟨(Option.some.inj (congrArg some (qC _).symm)).symm, ⟨(Option.some.inj (congrArg some (qR _).symm)).symm, trivial⟩⟩⟩, ?_⟩
 refine o_d 5 [(7, iv 0), (6, pv 1 0), (14, iv 0), (13, pv 1 0), (9, .tuple #[pv 1 0, iv 0])] (by kernel_rfl) (zF (zC (zQ (zQ (zU (o_d 2 [(16, bv false), (15, iv 0)] (by kernel_rfl) (zF (zC (zcO rfl (zar (zC (zQ ?_))))))))))))
 refine zU (o_b 4 [(8, pv 4 0), (20, pv 4 0), (19, .agg #[pv 1 0, .slice none 0 0, .slice none 0 0]), (18, pv 1 0)] [cw (pl p), cw (z5 p 2 3 e0 false), .chan 200 (([] : List Ent).map zap), .map (hdM (List.replicate units.toNat (0, -1))), cw [pv 1 0, .slice none 0 0, .slice none 0 0]] (by kernel_rfl) (zF (zC (zQ (zQ (zU (o_d 2 [(22, iv 0), (21, iv units)] (by kernel_rfl) (zF ?_))))))))
 -- the yard first; a place for the row of units, one for the row of notes
 refine ⟨⟨reg [(22, iv 0), (21, iv units), (8, pv 0 0)], [cw (z4 1 (.slice none 0 0) (.slice none 0 0)), cw (z5 p 2 3 e0 false), .chan 200 (([] : List Ent).map zap), .map (hdM (List.replicate units.toNat (0, -1))), .gone, .gone]⟩,
   Wk.ren [4, 1, 2, 3, 5, 6] rfl rfl (by decide) ⟨rfl, ⟨rfl, ⟨rfl, trivial⟩⟩⟩ ⟨.inl rfl, ⟨.inl (qG rfl rfl), ⟨.inl (congrArg some (qC _).symm), ⟨.inl (congrArg some (qR _).symm), ⟨.inr ⟨rfl, rfl⟩, ⟨.inr ⟨rfl, rfl⟩, trivial⟩⟩⟩⟩⟩⟩, ?_⟩
 refine zat (zen (fun μ s => ∃ (k : Nat) (h : List Blk), μ = units.toNat - k ∧ (k : Int) ≤ units ∧ YHn k (newHS p units) h ∧ s = ⟨reg [(22, iv (k : Nat)), (21, iv units), (8, pv 0 0)], h⟩) ⟨units.toNat - 0, _, .inl rfl, 0, _, rfl, by omega, ⟨none, fun a => a, ⟨fun a b _ _ e => e, fun _ => rfl, rfl, rfl, rfl, rfl, rfl, rfl, rfl, fun j hj => by omega, fun j hj => by omega, fun j hj => by omega, fun j hj => by omega⟩, rfl⟩, rfl⟩ ?_)
 rintro μ s ⟨k, h, rfl, hk, hY, rfl⟩
 refine zQ (zU (o_d 1 [(23, bv (decide ((k : Int) < units)))] (by kernel_rfl) (zF (zC (zQ (zad (t := decide ((k : Int) < units)) rfl (fun h1 => ?_) (fun h1 => ?_)))))))
 · have h1 := of_decide_eq_true h1
   refine zar (zC (zQ (zat (new_body H (by omega) hY (fun h' v27 v28 v29 v30 v31 v32 hY' hle => ?_)))))
   refine zC (zU (o_s (by refine zae (v := .int .i64 (i64.wrap ((k : Nat) + 1))) (congrArg (Value.int .i64) (w64 (by omega) (by omega))) ?_; kernel_rfl) ?_))
   refine o_d 1 [(22, iv ((k : Int) + 1))] (by kernel_rfl) (zF ?_)
   obtain ⟨s0, hw, hs⟩ := zY (B := 0) (K := fun s => s = ⟨reg [(22, iv ((k + 1 : Nat) : Int)), (21, iv units), (8, pv 0 0)], h'⟩) [(22, iv ((k + 1 : Nat) : Int)), (21, iv units), (8, pv 0 0)] (L := [(22, iv ((k : Int) + 1)), (33, iv ((k : Int) + 1)), (32, v32), (31, v31), (30, v30), (29, v29), (28, v28), (27, v27), (26, pv 0 1), (25, pv 0 0), (24, pv 0 0), (23, bv (decide ((k : Int) < units))), (22, iv (k : Nat)), (21, iv units), (8, pv 0 0)]) (h := h') rfl rfl (Nat.zero_le _)
   exact ⟨units.toNat - (k + 1), s0, by omega, hw, k + 1, h', rfl, by omega, hY', hs⟩
 · have h1 := of_decide_eq_false h1
   refine zdx ?_
   have hkn : k = units.toNat := by omega
   refine zC (zQ (zU (o_d 3 [(5, iv 0), (4, pv 0 0), (34, pv 0 0)] (by kernel_rfl) (zF (zC (zaZ (⟨trivial, _, .inl rfl, [pv 0 0, iv 0], (qD rfl (qD rfl rfl)), (zV rfl (zV rfl qB)), ?_⟩)))))))
   rw [if_neg hu]
   refine ⟨rfl, ?_⟩
   subst hkn
   refine YHn.to (by omega) (by omega) ?_
   rw [show ((units.toNat : Nat) : Int) = units by omega]; exact hY
theorem YP.shift {F : Nat → Prop} {y : Nat} {s : YS} {T : List Blk} (hY : YP F y s T) (h : List Blk) : YP (fun k => h.length ≤ k) (h.length + y) s (h ++ T.map (zaY (rho [] h.length))) := by
 obtain ⟨q, hq, m, o, pl, Y, rfl, _, h1, h16, _⟩ := hY
 have hρ : ∀ i, rho [] h.length i = h.length + i := fun i => by rw [zgK (by simp)]; simp
 have at_ : ∀ (k : Nat) b, T[k]? = some b → (h ++ T.map (zaY (rho [] h.length)))[h.length + k]? = some (zaY (rho [] h.length) b) := fun k b e => by
  rw [zhD, List.getElem?_map, e]; rfl
 refine ⟨q, hq, m, o, fun a => h.length + pl a, ⟨fun a b ha hb e => Y.inj a b ha hb (by omega), (fun e => by cases e), ?_, ?_, ?_, ?_, ?_, ?_, Y.ok, fun j hj => ?_, fun j hj => ?_, fun j hj => ?_, fun j hj => ?_⟩, rfl, fun a _ => Nat.le_add_right _ _, h1, h16, fun k hk => by simp at hk; omega⟩
 ·rw [at_ _ _ Y.y]; exact congrArg some (zaB (hρ _) (qU _ (hρ _)) (zaa _ (hρ _)))
 ·rw [at_ _ _ Y.hd]; exact congrArg some (zcK (hρ _) (hρ _))
 ·rw [at_ _ _ Y.hc]; exact congrArg some (qC _)
 ·rw [at_ _ _ Y.hm]; exact congrArg some (qR _)
 ·rw [at_ _ _ Y.ur]; exact congrArg some (zfO fun j _ => hρ _)
 ·rw [at_ _ _ Y.way]; exact congrArg some (qX Y.ok)
 ·rw [at_ _ _ (Y.un j hj)]; exact congrArg some (zch (hρ _) (hρ _))
 ·rw [at_ _ _ (Y.pn j hj)]; exact congrArg some (zbh (qU _ (hρ _)))
 ·rw [at_ _ _ (Y.ch j hj)]; exact congrArg some (zac _)
 ·obtain ⟨B, hB, hw⟩ := Y.wh j hj
  exact ⟨_, at_ _ _ hB, whB_ren hw⟩
theorem YNewK {P : Program} (H : YCode P) (p : qJ) (units : Int) {K : zd8} {h : List Blk}
  (h0 : units < 1 ∨ 16 < units → K (.tuple #[.pointer none, iv 14]) h)
  (h1 : ∀ T, ¬ (units < 1 ∨ 16 < units) → YP (fun k => h.length ≤ k) h.length (nyS p units.toNat) (h ++ T) → K (.tuple #[pv h.length 0, iv 0]) (h ++ T)) : zcV (Env P) "roundhouse/yard.New" [qL p, iv units] K h := by
 refine ⟨[], [], [qL p, iv units], _, YNewC H p units, rfl, zaG (qK (zaT p)) rfl, fun i k b1 e => by simp at e, fun i j k b1 _ e => by simp at e, fun v h1' hR _ _ => ⟨fun i hi => by simp at hi, ?_⟩⟩
 rw [back_nil]
 by_cases hu : units < 1 ∨ 16 < units
 ·rw [if_pos hu] at hR
  obtain ⟨rfl, rfl⟩ := hR
  rw [qK rfl]
  simpa using h0 hu
 ·rw [if_neg hu] at hR
  obtain ⟨rfl, hY⟩ := hR
  have := h1 _ hu (by have := hY.shift h; rwa [Nat.add_zero] at this)
  rwa [show zbw (rho [] h.length) (.tuple #[pv 0 0, iv 0]) = .tuple #[pv h.length 0, iv 0] from (zgL _).trans rfl]
end Go.Rh

namespace Go.Rh
theorem ex_eq {α : Type} (x : α) : ∃ y, y = x := ⟨x, rfl⟩
theorem FrY.split {L T h' : List Blk} {F : Nat → Prop} (hF : FrY F (L ++ T) h') (hl : ∀ k, k < L.length → ¬ F k) : ∃ T', h' = L ++ T' := by
 refine ⟨h'.drop L.length, List.ext_getElem? fun k => ?_⟩
 rcases Nat.lt_or_ge k L.length with h | h
 ·rw [hF.fr k (hl k h), List.getElem?_append_left h, List.getElem?_append_left h]
 ·rw [List.getElem?_append_right h, List.getElem?_drop]; congr 1; omega
theorem spl {L T : List Blk} {y : Nat} {S : YS} {K' : List Blk → Prop} {lo : Nat} (hlo : L.length = lo) (hk : ∀ T', YP (fun k => lo ≤ k) y S (L ++ T') → K' (L ++ T')) : ∀ h', YP (fun k => lo ≤ k) y S h' → FrY (fun k => lo ≤ k) (L ++ T) h' → K' h' := fun h' hY hF => by
 obtain ⟨T', rfl⟩ := hF.split (fun k hk => by omega)
 exact hk T' hY
def aloneB (anc : List (List Nat)) (i : Nat) : Bool := (List.range anc.length).all fun k => Nat.beq k i || !(unA anc i k)
theorem alone_of {anc : List (List Nat)} {i : Nat} (h : aloneB anc i = true) : ∀ k, k ≠ i → unA anc i k = false := by
  intro k hk
  rcases Nat.lt_or_ge k anc.length with hl | hl
  · have := List.all_eq_true.1 h k (List.mem_range.2 hl)
    simp only [Bool.or_eq_true, Nat.beq_eq, Bool.not_eq_true'] at this
    exact this.resolve_left hk
  · unfold unA
    have : Nat.blt k anc.length = false := by
      cases e : Nat.blt k anc.length with
      | false => rfl
      | true => have : k < anc.length := Nat.blt_eq ▸ e
                omega
    rw [this]; simp
theorem unA_symm (anc : List (List Nat)) (i j : Nat) : unA anc i j = unA anc j i := by
 unfold unA
 cases Nat.blt i anc.length <;> cases Nat.blt j anc.length <;> cases ((anc.getD i []).any (Nat.beq j)) <;> cases ((anc.getD j []).any (Nat.beq i)) <;> rfl
section
variable {C : zab} {anc : List (List Nat)} {K : St → Prop} {L : List (Nat × Value)} {h : List Blk} {i nid : Nat} {log : List Foot}
theorem d_clK {d : Nat} {g : String} {args : List Opd} {r : List ICell} (ha : aloneB anc i = true) (hlog : log.all (fun y => !(Nat.beq y.i i)) = true)
  (hc : zcV C g (args.map (evf (reg L))) (fun v h' => ∀ rd wr, GD C (unA anc) (i + 1) nid r (⟨i, rd, wr, some h.length⟩ :: log) K ⟨reg ((d, v) :: L), h'⟩) h) : GD C (unA anc) i nid (⟨some d, .call g args, none⟩ :: r) log K ⟨reg L, h⟩ := by
 obtain ⟨sel, h1, a1, R, e1, e2, e3, e4, e5, e6⟩ := hc
 refine ⟨⟨sel, h1, a1, R, e1, e2, e3, e4, e5, fun y hy => .inr ?_, fun ⟨k, hk, hu⟩ => ?_, fun v h1' a b c => ⟨(e6 v h1' a b c).1, ((e6 v h1' a b c).2 _ _).out⟩⟩⟩
 ·have := List.all_eq_true.1 hlog y hy
  rw [unA_symm]
  refine alone_of ha y.i ?_
  have h9 : Nat.beq y.i i = false := by simpa using this
  intro e; rw [e] at h9; simp at h9
 ·rw [alone_of ha k hk] at hu; cases hu
theorem d_clS {d : Nat} {g : String} {args : List Opd} {r : List ICell} {G : Nat → Prop} (hlog : ∀ y ∈ log, unA anc y.i i = false)
  (hc : CallF C g (args.map (evf (reg L))) h G True (fun v h' => ∀ rd wr, (∀ k ∈ wr, G k) → GD C (unA anc) (i + 1) nid r (⟨i, rd, wr, some h.length⟩ :: log) K ⟨reg ((d, v) :: L), h'⟩)) : GD C (unA anc) i nid (⟨some d, .call g args, none⟩ :: r) log K ⟨reg L, h⟩ := by
 obtain ⟨sel, h1, a1, R, e1, e2, e3, e4, e5, eG, eX, e6⟩ := hc
 refine ⟨⟨sel, h1, a1, R, e1, e2, e3, e4, e5, fun y hy => .inr (hlog y hy), fun _ => eX trivial, fun v h1' a b c => ⟨(e6 v h1' a b c).1, ((e6 v h1' a b c).2 _ _ ?_).out⟩⟩⟩
 have : ∀ (sel : List Nat) (h1 : List Blk), ∀ k ∈ zcA sel h1, k ∈ sel := by
  intro sel
  induction sel with
  | nil => intro h1 k hk; cases h1 <;> simp [zcA] at hk
  | cons a l ih =>
   intro h1 k hk
   cases h1 with
   | nil => simp [zcA] at hk
   | cons b t =>
    simp only [zcA] at hk
    split at hk
    ·rcases List.mem_cons.1 hk with rfl | hk
     ·simp
     ·exact List.mem_cons_of_mem _ (ih t k hk)
    ·exact List.mem_cons_of_mem _ (ih t k hk)
 intro k hk
 obtain ⟨j, hj⟩ := List.mem_iff_getElem?.1 (this sel h1 k hk)
 exact eG j k hj
theorem zjl {x : Foot} (h : log.all (fun y => !(unA anc y.i x.i)) = true) : ∀ y ∈ log, unA anc y.i x.i = false := fun y hy => by
 have := List.all_eq_true.1 h y hy
 simpa using this
theorem d_ldF {d : Nat} {m : Option Nat} {x : Opd} {r : List ICell} {k o : Nat} {c : List Value} {rw : Bool} {v : Value} (hx : evf (reg L) x = .pointer (some ⟨k, o, none⟩)) (hh : hf h k = some (.cells c rw)) (hv : zaz m c o = some v)
  (hfit : fits (unA anc) ⟨i, [k], [], none⟩ log) (hk : GD C (unA anc) (i + 1) nid r (⟨i, [k], [], none⟩ :: log) K ⟨reg ((d, v) :: L), h⟩) : GD C (unA anc) i nid (⟨some d, .ld m x, none⟩ :: r) log K ⟨reg L, h⟩ := by
 refine ⟨?_⟩
 show za6 C (unA anc) ⟨i, nid, ⟨some d, .ld m x, none⟩⟩ log (fun log' s' => wpD C (unA anc) (zbz (i + 1) nid r) log' K s') ⟨reg L, h⟩
 refine (za0 (fun _ => rfl)).2 ⟨⟨i, [k], [], none⟩, ⟨zaw (reg L) (some d) v, h⟩, ?_, hfit, hk.out⟩
 have h1 : rdE (.ld m x) (evf (reg L)) = [k] := by simp [rdE, IOp.rdl, hx, zbU]
 have h2 : zO (.ld m x) (evf (reg L)) (hf h) nid = some (v, .no) := by simp [zO, ldV, hx, hh, hv]
 simp [ziC, gJ, zbW, h1, h2]
theorem fits_ld {k j n lo : Nat} {rd wr : List Nat} {log : List Foot} (hk : k < lo) (hw : ∀ k ∈ wr, lo ≤ k) (hn : k < n) (hr : fits (unA anc) ⟨i, [k], [], none⟩ log) : fits (unA anc) ⟨i, [k], [], none⟩ (⟨j, rd, wr, some n⟩ :: log) := by
 intro y hy
 rcases List.mem_cons.1 hy with rfl | hy
 ·refine .inl ⟨fun q hq => ⟨?_, by simp⟩, fun q hq => by simp at hq, fun q hq => ?_, trivial⟩
  ·simp only [List.mem_singleton]; have := hw q hq; omega
  ·simp at hq; omega
 ·exact hr y hy
end
section
variable {P : Program} {F : Nat → Prop} {y : Nat} {s : YS} {h : List Blk} {K : zd8}
theorem YPoolF (H : YCode P) (hY : YP F y s h) (hK : ∀ h', YP F y s h' → FrY F h h' → K (qL s.x.p) h') : CallF (Env P) "(*roundhouse/yard.Yard).Pool" [pv y 0] h F True K := by
 obtain ⟨q, hq, hY⟩ := hY
 refine glueA0 (hX := True) (ex := []) (V := qL s.x.p) (x' := s.x) (l' := s.l) hY rfl (zaT _) (fun m o ho => ⟨_, YPoolC H.h_yard_Yard_Pool H.h_head_Head_Pool s.x.p s.x.w s.x.hd s.x.e s.x.s s.n m s.l o ho, ?_, fun _ => ⟨_, _, ⟨rfl, rfl⟩, Nat.le_refl 6, fun i b b' e1 e2 => ?_⟩⟩) (fun h' hT => hK h' (YP.of hq hT))
 ·rintro v h' ⟨rfl, rfl⟩
  exact ⟨rfl, o, gB s.l o, 5, [], ho, (fun z => by subst z; rfl), .inl ⟨rfl, rfl, rfl⟩, rfl⟩
 ·have e1' : (laA s.n m s.x 5 s.l o ++ [gB s.l o])[i]? = some b' := e2
  rw [e1'] at e1; cases e1; rfl
end
structure YOK (S : YS) : Prop where
  hd : S.x.hd.length = S.n
  n : 1 ≤ S.n ∧ S.n ≤ 16
  nok : NOK S
theorem notesTo_mem {x : HS} {n : Nat} {nt : Nt} (h : nt ∈ zcq x n) : 0 ≤ nt.u ∧ nt.u < n ∧ nt.a = false := by
 unfold zcq at h
 obtain ⟨i, hi, he⟩ := List.mem_filterMap.1 h
 have hi := List.mem_range.1 hi
 unfold zhf at he
 simp only at he
 split at he
 ·cases he
 ·split at he
  ·cases he; exact ⟨by simp only; omega, by simp only; omega, rfl⟩
  ·cases he; exact ⟨by simp only; omega, by simp only; omega, rfl⟩
theorem ok_tick {S : YS} (h : YOK S) : YOK (zaq S) := by
 refine ⟨?_, h.n, fun nt hm ha => ?_⟩
 ·show (zak S.x).1.hd.length = _; rw [sendS_hd]; exact h.hd
 ·have hm : nt ∈ S.l ++ (zak S.x).2 := hm
  rcases List.mem_append.1 hm with hm | hm
  ·exact h.nok nt hm ha
  ·have := notesTo_mem (x := goS S.x) (n := (goS S.x).hd.length) hm
   rw [goS_hd, h.hd] at this
   exact ⟨this.1, this.2.1⟩
theorem tick_len {S : YS} (h : YOK S) : (zaq S).l.length ≤ S.l.length + 16 := by
 show (S.l ++ (zak S.x).2).length ≤ _
 have := sendS_len (x := S.x)
 rw [h.hd] at this
 have := h.n
 simp; omega
theorem rest_mem {l : List Nt} {k : Int} {keep : Bool} {nt : Nt} (h : nt ∈ zcJ l k keep) : nt ∈ l := by
 unfold zcJ at h
 split at h
 ·exact h
 ·exact List.mem_of_mem_eraseIdx h
theorem rest_len {l : List Nt} {k : Int} {keep : Bool} : (zcJ l k keep).length ≤ l.length := by
 unfold zcJ; split
 ·exact Nat.le_refl _
 ·exact List.length_eraseIdx_le ..
theorem ok_dlv {S : YS} (h : YOK S) (k : Int) (keep : Bool) : YOK (zaJ S k keep) := by
 unfold zaJ
 split
 ·split
  ·refine ⟨?_, h.n, fun nt hm ha => h.nok nt (rest_mem hm) ha⟩
   show (zcc S.x.hd _).length = _; rw [heardS_len]; exact h.hd
  ·refine ⟨h.hd, h.n, fun nt hm ha => ?_⟩
   have hm : nt ∈ zcJ S.l k keep ++ [_] := hm
   rcases List.mem_append.1 hm with hm | hm
   ·exact h.nok nt (rest_mem hm) ha
   ·simp at hm; subst hm; cases ha
 ·exact h
theorem dlv_len (S : YS) (k : Int) (keep : Bool) : (zaJ S k keep).l.length ≤ S.l.length + 1 := by
 have := rest_len (l := S.l) (k := k) (keep := keep)
 unfold zaJ
 split
 ·split
  ·simp only; omega
  ·simp only [List.length_append, List.length_singleton]; omega
 ·omega
theorem ok_lose {S : YS} (h : YOK S) (k : Int) : YOK (zcC S k) := by
 refine ⟨h.hd, h.n, fun nt hm ha => h.nok nt ?_ ha⟩
 have hm : nt ∈ zez S.l k := hm
 unfold zez at hm
 split at hm
 ·exact List.mem_of_mem_eraseIdx hm
 ·exact hm
theorem lose_len (S : YS) (k : Int) : (zcC S k).l.length ≤ S.l.length := by
 show (zez S.l k).length ≤ _
 unfold zez; split
 ·exact List.length_eraseIdx_le ..
 ·exact Nat.le_refl _
theorem dlv_n (S : YS) (k : Int) (keep : Bool) : (zaJ S k keep).n = S.n := by
 unfold zaJ; split
 ·split <;> rfl
 ·rfl
theorem ok_nyS (p : qJ) {n : Nat} (h1 : 1 ≤ n) (h2 : n ≤ 16) : YOK (nyS p n) := by
 refine ⟨?_, ⟨h1, h2⟩, fun nt hm => by cases hm⟩
 show (List.replicate ((n : Nat) : Int).toNat ((0 : Int), (-1 : Int))).length = n
 simp
theorem dlv_none {S : YS} {k : Int} {keep : Bool} (h : (atS S.l k).2 = false) : zaJ S k keep = S := by
 unfold zaJ; rw [if_neg (by rw [h]; simp)]
theorem zeu {B m μ : Nat} {L : List (Nat × Value)} {h : List Blk} {K : St → Prop} (l : List (Nat × Value)) (hl : l.map (fun p => reg L p.1) = l.map (·.2)) (hm : m < μ) (hk : K ⟨reg l, h⟩) (hB : B ≤ h.length := by simp) : ∃ s0, m < μ ∧ Wk B ⟨reg L, h⟩ s0 ∧ K s0 := let ⟨s0, h1, h2⟩ := zY l hl hk hB; ⟨s0, hm, h1, h2⟩
end Go.Rh

set_option maxHeartbeats 8000000
namespace Go.Rh
def zdf : IFunc := ⟨15, [.tmp 4], (.seq (.reg [kq 4 (.mv (ki 0))]) (.seq (.reg [km 6 0, km 7 1, kq 8 (.bin .rem (.t 6) (.t 7)), km 5 8]) (.seq (.seq (.reg [km 9 5, kq 10 (.bin .lss (.t 9) (ki 0))]) (.cond (.t 10) (.reg [km 11 5, km 12 1, kq 13 (.bin .add (.t 11) (.t 12)), km 5 13]) .skip)) (.seq (.reg [km 14 5, km 4 14]) .ret))))⟩
theorem within12C {P : Program} (hc : zX P "roundhouse/roundhouselaw12.within" = some zdf) (x n : Int) (hn : n ≠ 0) :
    Env P "roundhouse/roundhouselaw12.within" [iv x, iv n] ([]) (Ans (.int .i64 (zD x n)) ([])) := by
 refine Env.by hc ?_
 unfold zdf
 show GC _ 0 _ _ ⟨reg [(0, iv x), (1, iv n)], []⟩
 refine zQ (zU (o_d 1 [(4, iv 0)] (by kernel_rfl) (zF (zC (zQ (zU (o_d 2 [(7, iv n), (6, iv x)] (by kernel_rfl) (o_s (by exact run_rem rfl rfl (by omega)) ?_))))))))
 refine o_d 1 [(5, iv (x.tmod n))] (by kernel_rfl) (zF (zC (zQ (zQ (zU (o_d 2 [(10, bv (decide (x.tmod n < 0))), (9, iv (x.tmod n))] (by kernel_rfl) (zF (zC (zad (t := decide (x.tmod n < 0)) rfl (fun h1 => ?_) (fun h1 => ?_))))))))))
 ·skip
  have h1' : x.tmod n < 0 := of_decide_eq_true h1
  refine zU (o_d 4 [(5, iv (i64.wrap (x.tmod n + n))), (13, iv (i64.wrap (x.tmod n + n))), (12, iv n), (11, iv (x.tmod n))] (by kernel_rfl) (zF (zC (zQ (zU (o_d 2 [(4, iv (i64.wrap (x.tmod n + n))), (14, iv (i64.wrap (x.tmod n + n)))] (by kernel_rfl) (zF (zC (zaZ ?_)))))))))
  have E0_ : zD x n = (i64.wrap (x.tmod n + n)) := by
   unfold zD; simp only [h1', if_true, if_false]
  exact qE [iv (i64.wrap (x.tmod n + n))] (qD rfl rfl) rfl (by rw [E0_]; rfl) rfl rfl
 have h1' : ¬ (x.tmod n < 0) := of_decide_eq_false h1
 refine zar (zC (zQ (zU (o_d 2 [(4, iv (x.tmod n)), (14, iv (x.tmod n))] (by kernel_rfl) (zF (zC (zaZ ?_)))))))
 have E0_ : zD x n = (x.tmod n) := by
  unfold zD; simp only [h1', if_true, if_false]
 exact qE [iv (x.tmod n)] (qD rfl rfl) rfl (by rw [E0_]; rfl) rfl rfl
end Go.Rh

set_option maxHeartbeats 8000000
namespace Go.Rh
def zdJ : IFunc := ⟨84, [.tmp 0], (.seq (.reg [kq 0 (.mv kF)]) (.seq (.reg [kq 12 (.bld [(2, (.int .u64 0))] []), kq 13 (.bld [(2, (.int .u64 0))] []), kq 14 (.call "roundhouse/roundhouseref6.New" [(ki 10), (ki 80), (.t 12), (.t 13)]), km 11 14, kq 15 (.ext 0 (.t 11)), kq 16 (.ext 1 (.t 11)), kq 1 (.new kA), ku (.st 330 (.t 1) (.t 15)), km 2 16]) (.seq (.reg [kq 18 (.ld (some 330) (.t 1)), kq 19 (.call "roundhouse/yard.New" [(.t 18), (ki 2)]), km 17 19, kq 20 (.ext 0 (.t 17)), kq 21 (.ext 1 (.t 17)), km 3 20, km 4 21]) (.seq (.seq (.reg [km 22 4, kq 23 (.bin .neq (.t 22) (ki 0)), km 24 23, kg 25 (.mv (.t 3)) 24 false, kg 26 (.eqn false .ptr (.t 25) (.c (.pointer none))) 24 false, kq 27 (.pick (.t 24) kT (.t 26))]) (.cond (.t 27) (.seq (.reg [kq 0 (.mv kF)]) .ret) .skip)) (.seq (.reg [km 28 3, kq 29 (.call "(*roundhouse/yard.Yard).Notes" [(.t 28)]), km 5 29]) (.seq (.reg [km 30 3, kq 31 (.call "(*roundhouse/yard.Yard).Tick" [(.t 30)]), km 6 31]) (.seq (.reg [km 32 3, kq 33 (.call "(*roundhouse/yard.Yard).Deliver" [(.t 32), (ki 0), kF]), km 34 3, kq 35 (.call "(*roundhouse/yard.Yard).Deliver" [(.t 34), (ki 0), kF]), km 7 33, km 8 35]) (.seq (.reg [km 37 3, kq 38 (.call "(*roundhouse/yard.Yard).Version" [(.t 37), (ki 1)]), km 36 38, kq 39 (.ext 0 (.t 36)), kq 40 (.ext 1 (.t 36)), km 9 39, km 10 40]) (.seq (.dreg [km 41 5, kq 42 (.bin .eql (.t 41) (ki 0)), km 43 42, kg 44 (.mv (.t 6)) 43 true, kg 45 (.bin .eql (.t 44) (ki 2)) 43 true, kq 46 (.pick (.t 43) (.t 45) kF), km 47 46, kg 48 (.mv (.t 7)) 47 true, kq 49 (.pick (.t 47) (.t 48) kF), km 50 49, kg 51 (.mv (.t 8)) 50 true, kq 52 (.pick (.t 50) (.t 51) kF), km 53 52, kg 54 (.mv (.t 3)) 53 true, kg 55 (.call "(*roundhouse/yard.Yard).Notes" [(.t 54)]) 53 true, kg 56 (.bin .eql (.t 55) (ki 2)) 53 true, kq 57 (.pick (.t 53) (.t 56) kF), km 58 57, kg 59 (.mv (.t 10)) 58 true, kq 60 (.pick (.t 58) (.t 59) kF), km 61 60, kg 62 (.mv (.t 9)) 61 true, kg 63 (.bin .eql (.t 62) (ki 0)) 61 true, kq 64 (.pick (.t 61) (.t 63) kF), km 65 64, kg 66 (.mv (.t 3)) 65 true, kg 67 (.call "(*roundhouse/yard.Yard).Deliver" [(.t 66), (ki 0), kF]) 65 true, kq 68 (.pick (.t 65) (.t 67) kF), km 69 68, kg 70 (.mv (.t 3)) 69 true, kg 71 (.call "(*roundhouse/yard.Yard).Lose" [(.t 70), (ki 0)]) 69 true, kq 72 (.pick (.t 69) (.t 71) kF), km 73 72, kg 74 (.mv (.t 3)) 73 true, kg 75 (.call "(*roundhouse/yard.Yard).Lose" [(.t 74), (ki 0)]) 73 true, kg 76 (.un .not (.t 75)) 73 true, kq 77 (.pick (.t 73) (.t 76) kF), km 78 77, kg 79 (.mv (.t 3)) 78 true, kg 80 (.call "(*roundhouse/yard.Yard).Pool" [(.t 79)]) 78 true, kg 81 (.ld (some 330) (.t 1)) 78 true, kg 82 (.eqa false [(330, .i)] (.t 80) (.t 81)) 78 true, kq 83 (.pick (.t 78) (.t 82) kF), km 0 83] [[], [0], [1, 0], [2, 1, 0], [3, 2, 1, 0], [2, 1, 0, 4, 3], [5, 2, 1, 0, 4, 3], [6, 5, 2, 1, 0, 4, 3], [6, 5, 2, 1, 0, 4, 3, 7], [8, 6, 5, 2, 1, 0, 4, 3, 7], [9, 8, 6, 5, 2, 1, 0, 4, 3, 7], [9, 8, 6, 5, 2, 1, 0, 4, 3, 7, 10], [11, 9, 8, 6, 5, 2, 1, 0, 4, 3, 7, 10], [12, 11, 9, 8, 6, 5, 2, 1, 0, 4, 3, 7, 10], [13, 12, 11, 9, 8, 6, 5, 2, 1, 0, 4, 3, 7, 10], [14, 13, 12, 11, 9, 8, 6, 5, 2, 1, 0, 4, 3, 7, 10], [12, 11, 9, 8, 6, 5, 2, 1, 0, 4, 3, 7, 10, 15, 14, 13], [16, 12, 11, 9, 8, 6, 5, 2, 1, 0, 4, 3, 7, 10, 15, 14, 13], [17, 16, 12, 11, 9, 8, 6, 5, 2, 1, 0, 4, 3, 7, 10, 15, 14, 13], [17, 16, 12, 11, 9, 8, 6, 5, 2, 1, 0, 4, 3, 7, 10, 15, 14, 13, 18], [19, 17, 16, 12, 11, 9, 8, 6, 5, 2, 1, 0, 4, 3, 7, 10, 15, 14, 13, 18], [20, 19, 17, 16, 12, 11, 9, 8, 6, 5, 2, 1, 0, 4, 3, 7, 10, 15, 14, 13, 18], [21, 20, 19, 17, 16, 12, 11, 9, 8, 6, 5, 2, 1, 0, 4, 3, 7, 10, 15, 14, 13, 18], [20, 19, 17, 16, 12, 11, 9, 8, 6, 5, 2, 1, 0, 4, 3, 7, 10, 15, 14, 13, 18, 22, 21], [23, 20, 19, 17, 16, 12, 11, 9, 8, 6, 5, 2, 1, 0, 4, 3, 7, 10, 15, 14, 13, 18, 22, 21], [24, 23, 20, 19, 17, 16, 12, 11, 9, 8, 6, 5, 2, 1, 0, 4, 3, 7, 10, 15, 14, 13, 18, 22, 21], [25, 24, 23, 20, 19, 17, 16, 12, 11, 9, 8, 6, 5, 2, 1, 0, 4, 3, 7, 10, 15, 14, 13, 18, 22, 21], [24, 23, 20, 19, 17, 16, 12, 11, 9, 8, 6, 5, 2, 1, 0, 4, 3, 7, 10, 15, 14, 13, 18, 22, 21, 26, 25], [27, 24, 23, 20, 19, 17, 16, 12, 11, 9, 8, 6, 5, 2, 1, 0, 4, 3, 7, 10, 15, 14, 13, 18, 22, 21, 26, 25], [28, 27, 24, 23, 20, 19, 17, 16, 12, 11, 9, 8, 6, 5, 2, 1, 0, 4, 3, 7, 10, 15, 14, 13, 18, 22, 21, 26, 25], [29, 28, 27, 24, 23, 20, 19, 17, 16, 12, 11, 9, 8, 6, 5, 2, 1, 0, 4, 3, 7, 10, 15, 14, 13, 18, 22, 21, 26, 25], [28, 27, 24, 23, 20, 19, 17, 16, 12, 11, 9, 8, 6, 5, 2, 1, 0, 4, 3, 7, 10, 15, 14, 13, 18, 22, 21, 26, 25, 30, 29], [31, 28, 27, 24, 23, 20, 19, 17, 16, 12, 11, 9, 8, 6, 5, 2, 1, 0, 4, 3, 7, 10, 15, 14, 13, 18, 22, 21, 26, 25, 30, 29], [32, 31, 28, 27, 24, 23, 20, 19, 17, 16, 12, 11, 9, 8, 6, 5, 2, 1, 0, 4, 3, 7, 10, 15, 14, 13, 18, 22, 21, 26, 25, 30, 29], [33, 32, 31, 28, 27, 24, 23, 20, 19, 17, 16, 12, 11, 9, 8, 6, 5, 2, 1, 0, 4, 3, 7, 10, 15, 14, 13, 18, 22, 21, 26, 25, 30, 29], [34, 33, 32, 31, 28, 27, 24, 23, 20, 19, 17, 16, 12, 11, 9, 8, 6, 5, 2, 1, 0, 4, 3, 7, 10, 15, 14, 13, 18, 22, 21, 26, 25, 30, 29], [32, 31, 28, 27, 24, 23, 20, 19, 17, 16, 12, 11, 9, 8, 6, 5, 2, 1, 0, 4, 3, 7, 10, 15, 14, 13, 18, 22, 21, 26, 25, 30, 29, 35, 34, 33], [36, 32, 31, 28, 27, 24, 23, 20, 19, 17, 16, 12, 11, 9, 8, 6, 5, 2, 1, 0, 4, 3, 7, 10, 15, 14, 13, 18, 22, 21, 26, 25, 30, 29, 35, 34, 33], [37, 36, 32, 31, 28, 27, 24, 23, 20, 19, 17, 16, 12, 11, 9, 8, 6, 5, 2, 1, 0, 4, 3, 7, 10, 15, 14, 13, 18, 22, 21, 26, 25, 30, 29, 35, 34, 33], [38, 37, 36, 32, 31, 28, 27, 24, 23, 20, 19, 17, 16, 12, 11, 9, 8, 6, 5, 2, 1, 0, 4, 3, 7, 10, 15, 14, 13, 18, 22, 21, 26, 25, 30, 29, 35, 34, 33], [37, 36, 32, 31, 28, 27, 24, 23, 20, 19, 17, 16, 12, 11, 9, 8, 6, 5, 2, 1, 0, 4, 3, 7, 10, 15, 14, 13, 18, 22, 21, 26, 25, 30, 29, 35, 34, 33], [39, 38, 37, 36, 32, 31, 28, 27, 24, 23, 20, 19, 17, 16, 12, 11, 9, 8, 6, 5, 2, 1, 0, 4, 3, 7, 10, 15, 14, 13, 18, 22, 21, 26, 25, 30, 29, 35, 34, 33, 40], [37, 36, 32, 31, 28, 27, 24, 23, 20, 19, 17, 16, 12, 11, 9, 8, 6, 5, 2, 1, 0, 4, 3, 7, 10, 15, 14, 13, 18, 22, 21, 26, 25, 30, 29, 35, 34, 33, 41, 39, 38, 40], [42, 37, 36, 32, 31, 28, 27, 24, 23, 20, 19, 17, 16, 12, 11, 9, 8, 6, 5, 2, 1, 0, 4, 3, 7, 10, 15, 14, 13, 18, 22, 21, 26, 25, 30, 29, 35, 34, 33, 41, 39, 38, 40]]) .ret)))))))))⟩
theorem known12C {P : Program} (hc : zX P "roundhouse/roundhouselaw12.known" = some zdJ) (h_ref6_New : zfS P) (h_ref6_out : zc5 P) (h_ref5_Ring : zdZ P) (h_yard_Yard_Notes : zbi P) (h_yard_Yard_Pool : zcn P) (h_head_Head_Pool : zbQ P) (h_yard_Yard_Wish : zdv P) (h_head_Head_Wish : zdw P) (h_head_Head_waiting : zcs P) (h_pool_All : zhh P) (h_pool_Apply : zbv P) (h_pool_may : zbr P) (h_pool_held : zbm P) (h_pool_fits : zbx P) (h_pool_Check : zbf P) (h_pool_placed : zaV P) (h_cookie_Next : za7 P) (h_yard_Yard_Tick : zcm P) (h_head_Head_Send : zbP P) (h_head_Head_all : zbD P) (h_head_Head_publish : za4 P) (h_yard_row_head_Note_put : zaC P) (h_yard_Yard_Lose : zco P) (h_yard_row_head_Note_at : zah P) (h_yard_row_head_Note_drop : zai P) (h_yard_Yard_Version : zbK P) (h_yard_row_yard_unit_at : zag P) (h_plane_Plane_Version : zas P) (h_yard_Yard_Crash : zc4 P) (h_plane_Plane_Crash : zcr P) (h_yard_Yard_Deliver : zbk P) (h_head_Head_Heard : zbj P) (h_yard_unit_hear : zbO P) (h_yard_unit_version : za3 P) (h_yard_unit_load : zbq P) (h_plane_Plane_Load : zaW P) (h_plane_maybe_api_Pool_lay : qW P) (h_wheel_Make : zbI P) (h_wheel_spun : zbe P) (h_sip_Words : zbl P) (h_sip_Of : zcp P) (h_sip_number_byte : qZ P) (h_sip_state_take : zaf P) (h_sip_state_rounds : qM P) (h_sip_state_round : qO P) (h_math_bits_RotateLeft64 : zS P) (h_head_New : zdP P) (h_plane_New : zeR P) (h_yard_New : zhg P) (h_yard_row_yard_unit_put : zba P)  :
    Env P "roundhouse/roundhouselaw12.known" [] ([]) (Ans (.bool true) ([])) := by
 refine Env.by hc ?_
 unfold zdJ
 show GC _ 0 _ _ ⟨reg [], []⟩
 have H : YCode P := ⟨h_yard_Yard_Notes, h_yard_Yard_Pool, h_head_Head_Pool, h_yard_Yard_Wish, h_head_Head_Wish, h_head_Head_waiting, h_pool_All, h_pool_Apply, h_pool_may, h_pool_held, h_pool_fits, h_pool_Check, h_pool_placed, h_cookie_Next, h_yard_Yard_Tick, h_head_Head_Send, h_head_Head_all, h_head_Head_publish, h_yard_row_head_Note_put, h_yard_Yard_Lose, h_yard_row_head_Note_at, h_yard_row_head_Note_drop, h_yard_Yard_Version, h_yard_row_yard_unit_at, h_plane_Plane_Version, h_yard_Yard_Crash, h_plane_Plane_Crash, h_yard_Yard_Deliver, h_head_Head_Heard, h_yard_unit_hear, h_yard_unit_version, h_yard_unit_load, h_plane_Plane_Load, h_plane_maybe_api_Pool_lay, h_wheel_Make, h_wheel_spun, h_sip_Words, h_sip_Of, h_sip_number_byte, h_sip_state_take, h_sip_state_rounds, h_sip_state_round, h_math_bits_RotateLeft64, h_head_New, h_plane_New, h_yard_New, h_yard_row_yard_unit_put⟩
 refine zQ (zU (o_d 1 [(0, bv false)] (by kernel_rfl) (zF (zC (zQ (zU (o_d 2 [(13, .agg #[uv 0, uv 0]), (12, .agg #[uv 0, uv 0])] (by kernel_rfl) (zb8 (zda (refNewC h_ref6_New h_ref6_out h_ref5_Ring 10 80 0 0 0 0) rfl rfl (all_cons (zay ((zao 10 80 0 0 0 0).1)) (all_cons rfl rfl)) (o_b 4 [(1, pv 0 0), (16, iv ((zao 10 80 0 0 0 0).2)), (15, qL ((zao 10 80 0 0 0 0).1)), (11, .tuple #[qL ((zao 10 80 0 0 0 0).1), iv ((zao 10 80 0 0 0 0).2)])] [cw (pl zG)] (by kernel_rfl) (zde (by refine qP (c' := pl ((zao 10 80 0 0 0 0).1)) rfl rfl rfl ?_ ?_ ?_; exact zM _; exact zce (by omega); exact qT zG ((zao 10 80 0 0 0 0).1)) ?_)))))))))))
 refine o_b 1 [(2, iv ((zao 10 80 0 0 0 0).2))] [cw (pl ((zao 10 80 0 0 0 0).1))] (by kernel_rfl) (zF (zC (zQ (zU (o_s (by refine zZ (v := qL ((zao 10 80 0 0 0 0).1)) rfl rfl ?_; exact zau ((zao 10 80 0 0 0 0).1)) ?_)))))
 refine zb8 (YNewK H ((zao 10 80 0 0 0 0).1) 2 (fun q => absurd q (by omega)) (fun T0 hu0 hY0q => ?_))
 have hY0 : YP (fun k => 1 ≤ k) 1 (nyS ((zao 10 80 0 0 0 0).1) 2) ([cw (pl ((zao 10 80 0 0 0 0).1))] ++ T0) := hY0q
 refine o_d 5 [(4, iv 0), (3, pv 1 0), (21, iv 0), (20, pv 1 0), (17, .tuple #[pv 1 0, iv 0])] (by kernel_rfl) (zF (zC (zQ (zQ (zU (o_d 6 [(27, bv false), (26, bv false), (25, pv 1 0), (24, bv false), (23, bv false), (22, iv 0)] (by kernel_rfl) (zF (zC (zcO rfl (zar (zC (zQ ?_))))))))))))
 refine zU (o_d 1 [(28, pv 1 0)] (by kernel_rfl) (zb8 (ziK H hY0   (spl rfl fun T1 hY1q => ?_))))
 refine o_d 1 [(5, iv ((nyS ((zao 10 80 0 0 0 0).1) 2).l.length : Nat))] (by kernel_rfl) (zF (zY [(5, iv ((nyS ((zao 10 80 0 0 0 0).1) 2).l.length : Nat)), (3, pv 1 0), (1, pv 0 0)] (by kernel_rfl) (zQ (zU (o_d 1 [(30, pv 1 0)] (by kernel_rfl) (zb8 (YTickK H hY1q (Nat.le_of_ble_eq_true (by kernel_rfl)) (Nat.le_of_ble_eq_true (by kernel_rfl))  (spl rfl fun T2 hY2q => ?_))))))))
 refine o_d 1 [(6, iv ((zaq (nyS ((zao 10 80 0 0 0 0).1) 2)).l.length : Nat))] (by kernel_rfl) (zF (zC (zQ (zU (o_d 1 [(32, pv 1 0)] (by kernel_rfl) (zb8 (zg4 H hY2q (Nat.le_of_ble_eq_true (by kernel_rfl)) (ok_tick (ok_nyS ((zao 10 80 0 0 0 0).1) (by decide) (by decide))).nok 0 false (spl rfl fun T3 hY3q => ?_))))))))
 refine o_d 1 [(34, pv 1 0)] (by kernel_rfl) (zb8 (zg4 H hY3q (Nat.le_of_ble_eq_true (by kernel_rfl)) (ok_dlv (ok_tick (ok_nyS ((zao 10 80 0 0 0 0).1) (by decide) (by decide))) _ _).nok 0 false (spl rfl fun T4 hY4q => ?_)))
 refine o_d 2 [(8, bv ((atS (zaJ (zaq (nyS ((zao 10 80 0 0 0 0).1) 2)) 0 false).l 0).2)), (7, bv ((atS (zaq (nyS ((zao 10 80 0 0 0 0).1) 2)).l 0).2))] (by kernel_rfl) (zF (zC (zQ (zU (o_d 1 [(37, pv 1 0)] (by kernel_rfl) (zb8 (YVersionK H hY4q  1 (spl rfl fun T5 hY5q => ?_))))))))
 refine o_d 5 [(10, bv ((zfG (zaJ (zaJ (zaq (nyS ((zao 10 80 0 0 0 0).1) 2)) 0 false) 0 false) 1).2)), (9, iv ((zfG (zaJ (zaJ (zaq (nyS ((zao 10 80 0 0 0 0).1) 2)) 0 false) 0 false) 1).1)), (40, bv ((zfG (zaJ (zaJ (zaq (nyS ((zao 10 80 0 0 0 0).1) 2)) 0 false) 0 false) 1).2)), (39, iv ((zfG (zaJ (zaJ (zaq (nyS ((zao 10 80 0 0 0 0).1) 2)) 0 false) 0 false) 1).1)), (36, .tuple #[iv ((zfG (zaJ (zaJ (zaq (nyS ((zao 10 80 0 0 0 0).1) 2)) 0 false) 0 false) 1).1), bv ((zfG (zaJ (zaJ (zaq (nyS ((zao 10 80 0 0 0 0).1) 2)) 0 false) 0 false) 1).2)])] (by kernel_rfl) (zF (zC (zQ (zbE ([cw (pl ((zao 10 80 0 0 0 0).1))] ++ T5) (List.append_nil _) (d_n 3 3 _ [(43, bv ((((nyS ((zao 10 80 0 0 0 0).1) 2).l.length : Nat) : Int) == 0)), (42, bv ((((nyS ((zao 10 80 0 0 0 0).1) 2).l.length : Nat) : Int) == 0)), (41, iv ((nyS ((zao 10 80 0 0 0 0).1) 2).l.length : Nat))] ([cw (pl ((zao 10 80 0 0 0 0).1))] ++ T5) [] (by kernel_rfl) rfl rfl (d_sp (b := (((nyS ((zao 10 80 0 0 0 0).1) 2).l.length : Nat) : Int) == 0) 43 rfl (fun k7 => ?_) (fun q => by rw [(by kernel_rfl : ((((nyS ((zao 10 80 0 0 0 0).1) 2).l.length : Nat) : Int) == 0) = true)] at q; cases q)))))))
 refine d_n 4 7 _ [(47, bv ((((zaq (nyS ((zao 10 80 0 0 0 0).1) 2)).l.length : Nat) : Int) == 2)), (46, bv ((((zaq (nyS ((zao 10 80 0 0 0 0).1) 2)).l.length : Nat) : Int) == 2)), (45, bv ((((zaq (nyS ((zao 10 80 0 0 0 0).1) 2)).l.length : Nat) : Int) == 2)), (44, iv ((zaq (nyS ((zao 10 80 0 0 0 0).1) 2)).l.length : Nat))] ([cw (pl ((zao 10 80 0 0 0 0).1))] ++ T5) [] (by kernel_rfl) rfl rfl (d_sp (b := (((zaq (nyS ((zao 10 80 0 0 0 0).1) 2)).l.length : Nat) : Int) == 2) 47 rfl (fun k8 => ?_) (fun q => by rw [(by kernel_rfl : ((((zaq (nyS ((zao 10 80 0 0 0 0).1) 2)).l.length : Nat) : Int) == 2) = true)] at q; cases q))
 refine d_n 3 10 _ [(50, bv ((atS (zaq (nyS ((zao 10 80 0 0 0 0).1) 2)).l 0).2)), (49, bv ((atS (zaq (nyS ((zao 10 80 0 0 0 0).1) 2)).l 0).2)), (48, bv ((atS (zaq (nyS ((zao 10 80 0 0 0 0).1) 2)).l 0).2))] ([cw (pl ((zao 10 80 0 0 0 0).1))] ++ T5) [] (by kernel_rfl) rfl rfl (d_sp (b := (atS (zaq (nyS ((zao 10 80 0 0 0 0).1) 2)).l 0).2) 50 rfl (fun k9 => ?_) (fun q => by rw [(by kernel_rfl : ((atS (zaq (nyS ((zao 10 80 0 0 0 0).1) 2)).l 0).2) = true)] at q; cases q))
 refine d_n 3 13 _ [(53, bv ((atS (zaJ (zaq (nyS ((zao 10 80 0 0 0 0).1) 2)) 0 false).l 0).2)), (52, bv ((atS (zaJ (zaq (nyS ((zao 10 80 0 0 0 0).1) 2)) 0 false).l 0).2)), (51, bv ((atS (zaJ (zaq (nyS ((zao 10 80 0 0 0 0).1) 2)) 0 false).l 0).2))] ([cw (pl ((zao 10 80 0 0 0 0).1))] ++ T5) [] (by kernel_rfl) rfl rfl (d_sp (b := (atS (zaJ (zaq (nyS ((zao 10 80 0 0 0 0).1) 2)) 0 false).l 0).2) 53 rfl (fun k10 => ?_) (fun q => by rw [(by kernel_rfl : ((atS (zaJ (zaq (nyS ((zao 10 80 0 0 0 0).1) 2)) 0 false).l 0).2) = true)] at q; cases q))
 refine d_n 1 14 _ [(54, pv 1 0)] ([cw (pl ((zao 10 80 0 0 0 0).1))] ++ T5) [] (by kernel_rfl) rfl rfl (zd2 rfl (d_clK (by kernel_rfl) (by kernel_rfl) (ziK H hY5q   (spl rfl fun T10 hY10q => fun rd10 wr10 => ?_))))
 refine d_n 3 18 _ [(58, bv ((((zaJ (zaJ (zaq (nyS ((zao 10 80 0 0 0 0).1) 2)) 0 false) 0 false).l.length : Nat) : Int) == 2)), (57, bv ((((zaJ (zaJ (zaq (nyS ((zao 10 80 0 0 0 0).1) 2)) 0 false) 0 false).l.length : Nat) : Int) == 2)), (56, bv ((((zaJ (zaJ (zaq (nyS ((zao 10 80 0 0 0 0).1) 2)) 0 false) 0 false).l.length : Nat) : Int) == 2))] ([cw (pl ((zao 10 80 0 0 0 0).1))] ++ T10) [⟨14, rd10, wr10, some ([cw (pl ((zao 10 80 0 0 0 0).1))] ++ T5).length⟩] (by kernel_rfl) rfl rfl (d_sp (b := (((zaJ (zaJ (zaq (nyS ((zao 10 80 0 0 0 0).1) 2)) 0 false) 0 false).l.length : Nat) : Int) == 2) 58 rfl (fun k12 => ?_) (fun q => by rw [(by kernel_rfl : ((((zaJ (zaJ (zaq (nyS ((zao 10 80 0 0 0 0).1) 2)) 0 false) 0 false).l.length : Nat) : Int) == 2) = true)] at q; cases q))
 refine d_n 3 21 _ [(61, bv ((zfG (zaJ (zaJ (zaq (nyS ((zao 10 80 0 0 0 0).1) 2)) 0 false) 0 false) 1).2)), (60, bv ((zfG (zaJ (zaJ (zaq (nyS ((zao 10 80 0 0 0 0).1) 2)) 0 false) 0 false) 1).2)), (59, bv ((zfG (zaJ (zaJ (zaq (nyS ((zao 10 80 0 0 0 0).1) 2)) 0 false) 0 false) 1).2))] ([cw (pl ((zao 10 80 0 0 0 0).1))] ++ T10) [⟨14, rd10, wr10, some ([cw (pl ((zao 10 80 0 0 0 0).1))] ++ T5).length⟩] (by kernel_rfl) rfl rfl (d_sp (b := (zfG (zaJ (zaJ (zaq (nyS ((zao 10 80 0 0 0 0).1) 2)) 0 false) 0 false) 1).2) 61 rfl (fun k13 => ?_) (fun q => by rw [(by kernel_rfl : ((zfG (zaJ (zaJ (zaq (nyS ((zao 10 80 0 0 0 0).1) 2)) 0 false) 0 false) 1).2) = true)] at q; cases q))
 refine d_n 4 25 _ [(65, bv (((zfG (zaJ (zaJ (zaq (nyS ((zao 10 80 0 0 0 0).1) 2)) 0 false) 0 false) 1).1) == 0)), (64, bv (((zfG (zaJ (zaJ (zaq (nyS ((zao 10 80 0 0 0 0).1) 2)) 0 false) 0 false) 1).1) == 0)), (63, bv (((zfG (zaJ (zaJ (zaq (nyS ((zao 10 80 0 0 0 0).1) 2)) 0 false) 0 false) 1).1) == 0)), (62, iv ((zfG (zaJ (zaJ (zaq (nyS ((zao 10 80 0 0 0 0).1) 2)) 0 false) 0 false) 1).1))] ([cw (pl ((zao 10 80 0 0 0 0).1))] ++ T10) [⟨14, rd10, wr10, some ([cw (pl ((zao 10 80 0 0 0 0).1))] ++ T5).length⟩] (by kernel_rfl) rfl rfl (d_sp (b := ((zfG (zaJ (zaJ (zaq (nyS ((zao 10 80 0 0 0 0).1) 2)) 0 false) 0 false) 1).1) == 0) 65 rfl (fun k14 => ?_) (fun q => by rw [(by kernel_rfl : (((zfG (zaJ (zaJ (zaq (nyS ((zao 10 80 0 0 0 0).1) 2)) 0 false) 0 false) 1).1) == 0) = true)] at q; cases q))
 refine d_n 1 26 _ [(66, pv 1 0)] ([cw (pl ((zao 10 80 0 0 0 0).1))] ++ T10) [⟨14, rd10, wr10, some ([cw (pl ((zao 10 80 0 0 0 0).1))] ++ T5).length⟩] (by kernel_rfl) rfl rfl (zd2 rfl (d_clK (by kernel_rfl) (by kernel_rfl) (zg4 H hY10q (Nat.le_of_ble_eq_true (by kernel_rfl)) (ok_dlv (ok_dlv (ok_tick (ok_nyS ((zao 10 80 0 0 0 0).1) (by decide) (by decide))) _ _) _ _).nok 0 false (spl rfl fun T14 hY14q => fun rd14 wr14 => ?_))))
 refine d_n 2 29 _ [(69, bv ((atS (zaJ (zaJ (zaq (nyS ((zao 10 80 0 0 0 0).1) 2)) 0 false) 0 false).l 0).2)), (68, bv ((atS (zaJ (zaJ (zaq (nyS ((zao 10 80 0 0 0 0).1) 2)) 0 false) 0 false).l 0).2))] ([cw (pl ((zao 10 80 0 0 0 0).1))] ++ T14) [⟨26, rd14, wr14, some ([cw (pl ((zao 10 80 0 0 0 0).1))] ++ T10).length⟩, ⟨14, rd10, wr10, some ([cw (pl ((zao 10 80 0 0 0 0).1))] ++ T5).length⟩] (by kernel_rfl) rfl rfl (d_sp (b := (atS (zaJ (zaJ (zaq (nyS ((zao 10 80 0 0 0 0).1) 2)) 0 false) 0 false).l 0).2) 69 rfl (fun k16 => ?_) (fun q => by rw [(by kernel_rfl : ((atS (zaJ (zaJ (zaq (nyS ((zao 10 80 0 0 0 0).1) 2)) 0 false) 0 false).l 0).2) = true)] at q; cases q))
 refine d_n 1 30 _ [(70, pv 1 0)] ([cw (pl ((zao 10 80 0 0 0 0).1))] ++ T14) [⟨26, rd14, wr14, some ([cw (pl ((zao 10 80 0 0 0 0).1))] ++ T10).length⟩, ⟨14, rd10, wr10, some ([cw (pl ((zao 10 80 0 0 0 0).1))] ++ T5).length⟩] (by kernel_rfl) rfl rfl (zd2 rfl (d_clK (by kernel_rfl) (by kernel_rfl) (YLoseK H hY14q (Nat.le_of_ble_eq_true (by kernel_rfl)) 0 (spl rfl fun T16 hY16q => fun rd16 wr16 => ?_))))
 refine d_n 2 33 _ [(73, bv ((atS (zaJ (zaJ (zaJ (zaq (nyS ((zao 10 80 0 0 0 0).1) 2)) 0 false) 0 false) 0 false).l 0).2)), (72, bv ((atS (zaJ (zaJ (zaJ (zaq (nyS ((zao 10 80 0 0 0 0).1) 2)) 0 false) 0 false) 0 false).l 0).2))] ([cw (pl ((zao 10 80 0 0 0 0).1))] ++ T16) [⟨30, rd16, wr16, some ([cw (pl ((zao 10 80 0 0 0 0).1))] ++ T14).length⟩, ⟨26, rd14, wr14, some ([cw (pl ((zao 10 80 0 0 0 0).1))] ++ T10).length⟩, ⟨14, rd10, wr10, some ([cw (pl ((zao 10 80 0 0 0 0).1))] ++ T5).length⟩] (by kernel_rfl) rfl rfl (d_sp (b := (atS (zaJ (zaJ (zaJ (zaq (nyS ((zao 10 80 0 0 0 0).1) 2)) 0 false) 0 false) 0 false).l 0).2) 73 rfl (fun k18 => ?_) (fun q => by rw [(by kernel_rfl : ((atS (zaJ (zaJ (zaJ (zaq (nyS ((zao 10 80 0 0 0 0).1) 2)) 0 false) 0 false) 0 false).l 0).2) = true)] at q; cases q))
 refine d_n 1 34 _ [(74, pv 1 0)] ([cw (pl ((zao 10 80 0 0 0 0).1))] ++ T16) [⟨30, rd16, wr16, some ([cw (pl ((zao 10 80 0 0 0 0).1))] ++ T14).length⟩, ⟨26, rd14, wr14, some ([cw (pl ((zao 10 80 0 0 0 0).1))] ++ T10).length⟩, ⟨14, rd10, wr10, some ([cw (pl ((zao 10 80 0 0 0 0).1))] ++ T5).length⟩] (by kernel_rfl) rfl rfl (zd2 rfl (d_clK (by kernel_rfl) (by kernel_rfl) (YLoseK H hY16q (Nat.le_of_ble_eq_true (by kernel_rfl)) 0 (spl rfl fun T18 hY18q => fun rd18 wr18 => ?_))))
 refine d_n 3 38 _ [(78, bv (!((atS (zcC (zaJ (zaJ (zaJ (zaq (nyS ((zao 10 80 0 0 0 0).1) 2)) 0 false) 0 false) 0 false) 0).l 0).2))), (77, bv (!((atS (zcC (zaJ (zaJ (zaJ (zaq (nyS ((zao 10 80 0 0 0 0).1) 2)) 0 false) 0 false) 0 false) 0).l 0).2))), (76, bv (!((atS (zcC (zaJ (zaJ (zaJ (zaq (nyS ((zao 10 80 0 0 0 0).1) 2)) 0 false) 0 false) 0 false) 0).l 0).2)))] ([cw (pl ((zao 10 80 0 0 0 0).1))] ++ T18) [⟨34, rd18, wr18, some ([cw (pl ((zao 10 80 0 0 0 0).1))] ++ T16).length⟩, ⟨30, rd16, wr16, some ([cw (pl ((zao 10 80 0 0 0 0).1))] ++ T14).length⟩, ⟨26, rd14, wr14, some ([cw (pl ((zao 10 80 0 0 0 0).1))] ++ T10).length⟩, ⟨14, rd10, wr10, some ([cw (pl ((zao 10 80 0 0 0 0).1))] ++ T5).length⟩] (by kernel_rfl) rfl rfl (d_sp (b := !((atS (zcC (zaJ (zaJ (zaJ (zaq (nyS ((zao 10 80 0 0 0 0).1) 2)) 0 false) 0 false) 0 false) 0).l 0).2)) 78 rfl (fun k20 => ?_) (fun q => by rw [(by kernel_rfl : (!((atS (zcC (zaJ (zaJ (zaJ (zaq (nyS ((zao 10 80 0 0 0 0).1) 2)) 0 false) 0 false) 0 false) 0).l 0).2)) = true)] at q; cases q))
 refine d_n 1 39 _ [(79, pv 1 0)] ([cw (pl ((zao 10 80 0 0 0 0).1))] ++ T18) [⟨34, rd18, wr18, some ([cw (pl ((zao 10 80 0 0 0 0).1))] ++ T16).length⟩, ⟨30, rd16, wr16, some ([cw (pl ((zao 10 80 0 0 0 0).1))] ++ T14).length⟩, ⟨26, rd14, wr14, some ([cw (pl ((zao 10 80 0 0 0 0).1))] ++ T10).length⟩, ⟨14, rd10, wr10, some ([cw (pl ((zao 10 80 0 0 0 0).1))] ++ T5).length⟩] (by kernel_rfl) rfl rfl (zd2 rfl (d_clS (zjl (x := ⟨39, [], [], none⟩) (by kernel_rfl)) (YPoolF H hY18q (spl rfl fun T20 hY20q => fun rd20 wr20 hw20 => ?_))))
 refine zd2 rfl (d_ldF (v := qL ((zao 10 80 0 0 0 0).1)) rfl rfl (zau ((zao 10 80 0 0 0 0).1)) (fits_ld (by decide) hw20 (by simp) (fun y hy => .inr (zjl (x := ⟨40, [], [], none⟩) (by kernel_rfl) y hy))) ?_)
 refine zd2 rfl (d_s rfl rfl rfl (by kernel_rfl) (by refine run_eqa (a := ⟨pl ((zcC (zcC (zaJ (zaJ (zaJ (zaq (nyS ((zao 10 80 0 0 0 0).1) 2)) 0 false) 0 false) 0 false) 0) 0).x.p)⟩) (b := ⟨pl ((zao 10 80 0 0 0 0).1)⟩) (r := eqP ((zcC (zcC (zaJ (zaJ (zaJ (zaq (nyS ((zao 10 80 0 0 0 0).1) 2)) 0 false) 0 false) 0 false) 0) 0).x.p) ((zao 10 80 0 0 0 0).1)) (R := eqP ((zcC (zcC (zaJ (zaJ (zaJ (zaq (nyS ((zao 10 80 0 0 0 0).1) 2)) 0 false) 0 false) 0 false) 0) 0).x.p) ((zao 10 80 0 0 0 0).1)) ?_ rfl; exact eqP_run ((zcC (zcC (zaJ (zaJ (zaJ (zaq (nyS ((zao 10 80 0 0 0 0).1) 2)) 0 false) 0 false) 0 false) 0) 0).x.p) ((zao 10 80 0 0 0 0).1) rfl rfl) ?_)
 refine d_n 2 44 _ [(0, bv (eqP ((zcC (zcC (zaJ (zaJ (zaJ (zaq (nyS ((zao 10 80 0 0 0 0).1) 2)) 0 false) 0 false) 0 false) 0) 0).x.p) ((zao 10 80 0 0 0 0).1))), (83, bv (eqP ((zcC (zcC (zaJ (zaJ (zaJ (zaq (nyS ((zao 10 80 0 0 0 0).1) 2)) 0 false) 0 false) 0 false) 0) 0).x.p) ((zao 10 80 0 0 0 0).1)))] ([cw (pl ((zao 10 80 0 0 0 0).1))] ++ T20) [⟨40, [0], [], none⟩, ⟨39, rd20, wr20, some ([cw (pl ((zao 10 80 0 0 0 0).1))] ++ T18).length⟩, ⟨34, rd18, wr18, some ([cw (pl ((zao 10 80 0 0 0 0).1))] ++ T16).length⟩, ⟨30, rd16, wr16, some ([cw (pl ((zao 10 80 0 0 0 0).1))] ++ T14).length⟩, ⟨26, rd14, wr14, some ([cw (pl ((zao 10 80 0 0 0 0).1))] ++ T10).length⟩, ⟨14, rd10, wr10, some ([cw (pl ((zao 10 80 0 0 0 0).1))] ++ T5).length⟩] (by kernel_rfl) rfl rfl (zcf (zY [(0, bv (eqP ((zcC (zcC (zaJ (zaJ (zaJ (zaq (nyS ((zao 10 80 0 0 0 0).1) 2)) 0 false) 0 false) 0 false) 0) 0).x.p) ((zao 10 80 0 0 0 0).1)))] (by kernel_rfl) (zaZ ?_)))
 have E0_ : (eqP ((zcC (zcC (zaJ (zaJ (zaJ (zaq (nyS ((zao 10 80 0 0 0 0).1) 2)) 0 false) 0 false) 0 false) 0) 0).x.p) ((zao 10 80 0 0 0 0).1)) = true := by
  kernel_rfl
 exact qE [bv (eqP ((zcC (zcC (zaJ (zaJ (zaJ (zaq (nyS ((zao 10 80 0 0 0 0).1) 2)) 0 false) 0 false) 0 false) 0) 0).x.p) ((zao 10 80 0 0 0 0).1))] (qD rfl rfl) rfl (by rw [E0_]; rfl) rfl rfl
end Go.Rh

set_option maxHeartbeats 8000000
namespace Go.Rh
end Go.Rh

namespace Go.Rh
theorem go_quiet {x : HS} (h : x.w = [] ∨ allW x.hd (x.p 0) = false) : goS x = x := by
 unfold goS
 rcases h with h | h
 ·split
  ·unfold pubS; rw [h]
  ·rfl
 ·rw [h]; rfl
theorem send_quiet {x : HS} (h : x.w = [] ∨ allW x.hd (x.p 0) = false) : zak x = (x, zcq x x.hd.length) := by
 unfold zak; rw [go_quiet h]
theorem lk_at {hd : List (Int × Int)} {u : Nat} (h : u < hd.length) : lkS hd (u : Nat) = (hd.getD u (0, 0), true) := by
 unfold lkS; rw [if_pos ⟨by omega, by omega⟩]; rfl
theorem note_down {x : HS} {u : Nat} (hs : x.s = false) (h : (lkS x.hd (u : Nat)).1.2 < x.p 0) : zhf x u = some ⟨(u : Nat), (lkS x.hd (u : Nat)).1.1, x.p 0, true, false, e0, x.p⟩ := by
 unfold zhf
 simp only
 rw [if_neg (by omega), if_neg (by simp [hs])]
def rotE (a b : Int) : Ent := ⟨6, 0, 0, 0, 0, a, b⟩
def Rots (l : List Ent) : Prop := ∀ e ∈ l, ∃ a b, e = rotE a b
theorem Rots.nil : Rots [] := by intro e h; simp at h
def coldS (p : qJ) (u : Nat) (w : List Ent) : HS := ⟨p, w, List.replicate u (0, -1), e0, false⟩
theorem cold_new (p : qJ) {u : Int} : newHS p u = coldS p u.toNat [] := rfl
theorem cold_lk {u k : Nat} (h : k < u) : lkS (List.replicate u ((0 : Int), (-1 : Int))) (k : Nat) = ((0, -1), true) := by
 rw [lk_at (by simpa using h), List.getD_eq_getElem?_getD, List.getElem?_replicate, if_pos h]; rfl
theorem cold_all {p : qJ} (hp : 0 ≤ p 0) {u : Nat} (hu : 0 < u) : allW (List.replicate u (0, -1)) (p 0) = false := by
 obtain ⟨n, rfl⟩ : ∃ n, u = n + 1 := ⟨u - 1, by omega⟩
 simp [allW, List.replicate_succ]; omega
theorem zjo {p : qJ} (hp : 0 ≤ p 0) {u : Nat} {w : List Ent} : ∀ {n : Nat}, n ≤ u → zcq (coldS p u w) n = (List.range n).map fun i => ⟨(i : Nat), 0, p 0, true, false, e0, p⟩
 | 0, _ => rfl
 | n + 1, h => by
  have hk : lkS (coldS p u w).hd (n : Nat) = ((0, -1), true) := cold_lk (by omega)
  rw [zaF (note_down rfl (by rw [hk]; show (-1 : Int) < p 0; omega)), zjo hp (by omega), hk, List.range_succ, List.map_append]; rfl
theorem cold_send {p : qJ} (hp : 0 ≤ p 0) {u : Nat} (hu : 0 < u) {w : List Ent} : zak (coldS p u w) = (coldS p u w, (List.range u).map fun i => ⟨(i : Nat), 0, p 0, true, false, e0, p⟩) := by
 rw [send_quiet (.inr (cold_all hp hu))]
 congr 1
 show zcq (coldS p u w) (List.replicate u ((0 : Int), (-1 : Int))).length = _
 rw [List.length_replicate, zjo hp (Nat.le_refl u)]
def hdk (v : Int) (u k : Nat) : List (Int × Int) := List.replicate k (0, v) ++ List.replicate (u - k) (0, -1)
end Go.Rh

namespace Go.Rh
def wn (p : qJ) (u : Nat) : Nt := ⟨(u : Nat), 0, p 0, true, false, e0, p⟩
def an (p : qJ) (u : Int) : Nt := ⟨u, 0, p 0, false, true, e0, zG⟩
def dn : UP := ⟨zG, false, 0, nr0⟩
def up1 (p : qJ) : UP := ⟨p, true, 0, nr0⟩
theorem tick_new {p : qJ} (hp : 0 ≤ p 0) {n : Nat} (hn : 1 ≤ n) : zaq (nyS p n) = ⟨n, newHS p (n : Nat), fun _ => dn, (List.range n).map (wn p)⟩ := by
 have h := cold_send (p := p) hp (u := n) (by omega) (w := [])
 have e : newHS p (n : Nat) = coldS p n [] := by rw [cold_new]; simp
 show (⟨n, (zak (newHS p (n : Nat))).1, fun _ => dn, [] ++ (zak (newHS p (n : Nat))).2⟩ : YS) = _
 rw [e, h]; rfl
theorem hear_w {p : qJ} {u : Nat} (hp : 0 ≤ p 0) : hearU dn (wn p u) = up1 p := by
 have h : uhS zG false 0 (wn p u) = (p, true) := by
  unfold uhS
  rw [if_neg (by simp [wn]), if_pos ⟨rfl, by show qQ zG false < p 0; simp [qQ]; omega⟩]; rfl
 show (⟨(uhS zG false 0 (wn p u)).1, (uhS zG false 0 (wn p u)).2, 0, nr0⟩ : UP) = _
 rw [h]; rfl
theorem ack_w {p : qJ} {u : Nat} {v : UP} (h : hearU v (wn p u) = up1 p) : ackN (wn p u).u v.b (uhS v.p v.is v.b (wn p u)) = ackN (u : Nat) v.b (p, true) := by
 have h1 : (uhS v.p v.is v.b (wn p u)) = (p, true) := by
  have e1 := congrArg UP.p h
  have e2 := congrArg UP.is h
  exact Prod.ext e1 e2
 rw [h1]; rfl
theorem atS_some {l : List Nt} {k : Nat} {x : Nt} (h : l[k]? = some x) : atS l (k : Nat) = (x, true) := by
 have hl := zJ h
 unfold atS
 rw [if_pos ⟨by omega, by omega⟩]
 simp [List.getD_eq_getElem?_getD, h]
theorem dlv_w {S : YS} {k : Nat} {p : qJ} {u : Nat} {keep : Bool} (h : S.l[k]? = some (wn p u)) (hh : hearU (S.us u) (wn p u) = up1 p) (hb : (S.us u).b = 0) :
  zaJ S (k : Nat) keep = { S with us := updU S.us u (up1 p), l := zcJ S.l (k : Nat) keep ++ [an p (u : Nat)] } := by
 unfold zaJ
 rw [atS_some h, if_pos rfl, if_neg (by simp [wn])]
 have e : (wn p u).u.toNat = u := by simp [wn]
 simp only [e]
 rw [hh, ack_w hh, hb]; rfl
theorem dlv_a {S : YS} {k : Nat} {p : qJ} {u : Int} {keep : Bool} (h : S.l[k]? = some (an p u)) : zaJ S (k : Nat) keep = { S with x := hearS S.x (an p u), l := zcJ S.l (k : Nat) keep } := by
 unfold zaJ
 rw [atS_some h, if_pos rfl, if_pos (by simp [an])]
theorem ver_at {S : YS} {u : Nat} (h : u < S.n) : zfG S (u : Nat) = ((S.us u).p 0, (S.us u).is) := by
 unfold zfG inU
 rw [if_pos (decide_eq_true ⟨by omega, by omega⟩)]
 simp
theorem tick_lenN {p : qJ} (hp : 0 ≤ p 0) {n : Nat} (hn : 1 ≤ n) : (zaq (nyS p n)).l.length = n := by rw [tick_new hp hn]; simp
end Go.Rh

namespace Go.Rh
theorem atS_snd (l : List Nt) (k : Int) : (atS l k).2 = decide (0 ≤ k ∧ k < l.length) := by
 unfold atS; by_cases h : 0 ≤ k ∧ k < (l.length : Int)
 ·rw [if_pos h, decide_eq_true h]
 ·rw [if_neg h, decide_eq_false h]
theorem zhF {α β : Type} (f : α → β) : ∀ (l : List α) (k : Nat), (l.map f).eraseIdx k = (l.eraseIdx k).map f
 | [], _ => rfl
 | _ :: _, 0 => rfl
 | a :: l, k + 1 => by simp [zhF f l k]
def upL (p : qJ) (js : List Nat) : Nat → UP := fun j => if j ∈ js then up1 p else dn
structure LossI (p : qJ) (U : Nat) (S : YS) (n : Int) (js : List Nat) : Prop where
  nd : js.Nodup
  lt : ∀ j ∈ js, j < U
  l : S.l = js.map (wn p)
  us : S.us = fun _ => dn
  sn : S.n = U
  n : n = js.length
theorem LossI.init {p : qJ} (hp : 0 ≤ p 0) {U : Nat} (hU : 1 ≤ U) : LossI p U (zaq (nyS p U)) U (List.range U) := by
 rw [tick_new hp hU]
 exact ⟨List.nodup_range, fun j h => List.mem_range.1 h, rfl, rfl, rfl, by simp⟩
theorem LossI.lose {p : qJ} {U : Nat} {S : YS} {n k : Int} {js : List Nat} (h : LossI p U S n js) (hk : 0 ≤ k ∧ k < n) : LossI p U (zcC S k) (n - 1) (js.eraseIdx k.toNat) := by
 have hn := h.n
 have hlen : S.l.length = js.length := by rw [h.l]; simp
 refine ⟨h.nd.sublist (List.eraseIdx_sublist js _), fun j hj => h.lt j (List.mem_of_mem_eraseIdx hj), ?_, h.us, h.sn, ?_⟩
 ·show zez S.l k = _
  unfold zez
  rw [if_pos (by rw [atS_snd]; exact decide_eq_true (by omega)), h.l, zhF]
 ·rw [List.length_eraseIdx_of_lt (by omega)]; omega
theorem LossI.out {p : qJ} {U : Nat} {S : YS} {n k : Int} {js : List Nat} (h : LossI p U S n js) (hk : ¬ (0 ≤ k ∧ k < n)) : LossI p U (zcC S k) n js := by
 have hn := h.n
 have hlen : S.l.length = js.length := by rw [h.l]; simp
 have e : zez S.l k = S.l := by unfold zez; rw [if_neg (by rw [atS_snd]; simp; omega)]
 refine ⟨h.nd, h.lt, ?_, h.us, h.sn, hn⟩
 show zez S.l k = _
 rw [e, h.l]
theorem LossI.len {p : qJ} {U : Nat} {S : YS} {n : Int} {js : List Nat} (h : LossI p U S n js) : (S.l.length : Int) = n := by rw [h.l, h.n]; simp
theorem LossI.at_ {p : qJ} {U : Nat} {S : YS} {n : Int} {js : List Nat} (h : LossI p U S n js) (k : Int) : (atS S.l k).2 = decide (0 ≤ k ∧ k < n) := by rw [atS_snd, h.len]
theorem LossI.any {p : qJ} {U : Nat} {S : YS} {n : Int} {js : List Nat} (h : LossI p U S n js) (k : Int) : ((zcC S k).l.length : Int) = if 0 ≤ k ∧ k < n then n - 1 else n := by
 by_cases hk : 0 ≤ k ∧ k < n
 ·rw [if_pos hk]; exact (h.lose hk).len
 ·rw [if_neg hk]; exact (h.out hk).len
theorem LossI.le {p : qJ} {U : Nat} {S : YS} {n : Int} {js : List Nat} (h : LossI p U S n js) : n ≤ U ∧ 0 ≤ n := by
 have e : js.length ≤ U := by
  have hp : ((List.range U).filter (fun j => decide (j ∈ js))).Perm js := (List.perm_ext_iff_of_nodup (List.nodup_range.sublist (List.filter_sublist (p := fun j => decide (j ∈ js)))) h.nd).2 fun a => by
   simp only [List.mem_filter, List.mem_range, decide_eq_true_eq]
   exact ⟨fun h => h.2, fun q => ⟨h.lt a q, q⟩⟩
  have h1 := hp.length_eq
  have h2 := List.length_filter_le (fun j => decide (j ∈ js)) (List.range U)
  simp at h2; omega
 have := h.n; omega
structure DlvI (p : qJ) (U : Nat) (js : List Nat) (m : Nat) (S : YS) : Prop where
  sn : S.n = U
  way : (m ≤ js.length ∧ S.l = (js.drop m).map (wn p) ++ (js.take m).map (fun (j : Nat) => an p (j : Int)) ∧ S.us = upL p (js.take m)) ∨ (js.length ≤ m ∧ m ≤ 2 * js.length ∧ S.l = (js.drop (m - js.length)).map (fun (j : Nat) => an p (j : Int)) ∧ S.us = upL p js)
theorem DlvI.init {p : qJ} {U : Nat} {S : YS} {n : Int} {js : List Nat} (h : LossI p U S n js) : DlvI p U js 0 S := by
 refine ⟨h.sn, .inl ⟨Nat.zero_le _, ?_, ?_⟩⟩
 ·rw [h.l]; simp
 ·rw [h.us]; funext j; simp [upL]
theorem DlvI.more {p : qJ} {U : Nat} {S : YS} {js : List Nat} {m : Nat} (h : DlvI p U js m S) : (atS S.l 0).2 = decide (m < 2 * js.length) := by
 have e : ((0 : Int) ≤ 0 ∧ (0 : Int) < S.l.length) ↔ m < 2 * js.length := by
  rcases h.way with ⟨h1, h2, _⟩ | ⟨h1, h3, h2, _⟩
  ·rw [h2]; simp; omega
  ·rw [h2]; simp; omega
 rw [atS_snd]; exact decide_eq_decide.2 e
theorem DlvI.lt {p : qJ} {U : Nat} {S : YS} {js : List Nat} {m : Nat} (h : DlvI p U js m S) (hm : (atS S.l 0).2 = true) : m < 2 * js.length := by rw [h.more] at hm; exact of_decide_eq_true hm
theorem DlvI.next {p : qJ} (hp : 0 ≤ p 0) {U : Nat} {S : YS} {js : List Nat} {m : Nat} (h : DlvI p U js m S) (nd : js.Nodup) (hm : (atS S.l 0).2 = true) : DlvI p U js (m + 1) (zaJ S 0 false) := by
 rw [h.more] at hm
 have hm := of_decide_eq_true hm
 refine ⟨by rw [dlv_n]; exact h.sn, ?_⟩
 by_cases hlt : m < js.length
 ·rcases h.way with ⟨h1, h2, h3⟩ | ⟨h1, _⟩
  ·have hd := List.drop_eq_getElem_cons hlt
   have hl0 : S.l = wn p js[m] :: ((js.drop (m + 1)).map (wn p) ++ (js.take m).map (fun (j : Nat) => an p (j : Int))) := by rw [h2, hd]; rfl
   have hni : js[m] ∉ js.take m := by
    intro hin
    have e : js = js.take m ++ js.drop m := (List.take_append_drop m js).symm
    have nd2 : (js.take m ++ js.drop m).Nodup := e ▸ nd
    exact (List.nodup_append.1 nd2).2.2 _ hin _ (by rw [hd]; exact List.mem_cons_self) rfl
   have hu : S.us js[m] = dn := by rw [h3]; unfold upL; rw [if_neg hni]
   have e := dlv_w (S := S) (k := 0) (p := p) (u := js[m]) (keep := false) (by rw [hl0]; rfl) (by rw [hu]; exact hear_w hp) (by rw [hu]; rfl)
   have e : zaJ S 0 false = _ := e
   have ht : js.take (m + 1) = js.take m ++ [js[m]] := by rw [List.take_add_one]; simp [hlt]
   rw [e]
   refine .inl ⟨hlt, ?_, ?_⟩
   ·show zcJ S.l 0 false ++ [an p _] = _
    rw [hl0, ht, List.map_append]; unfold zcJ; rw [if_neg (by simp)]
    show List.map _ _ ++ List.map _ _ ++ [_] = _
    rw [List.append_assoc]; rfl
   ·show updU S.us _ _ = _
    rw [h3, ht]; funext j
    unfold updU upL
    by_cases ej : j = js[m]
    ·rw [if_pos ej, if_pos (by rw [ej]; exact List.mem_append_right _ (List.mem_singleton_self _))]
    ·rw [if_neg ej]
     by_cases e2 : j ∈ js.take m
     ·rw [if_pos e2, if_pos (List.mem_append_left _ e2)]
     ·rw [if_neg e2, if_neg (fun q => (List.mem_append.1 q).elim e2 fun q => ej (List.mem_singleton.1 q))]
  ·omega
 ·have h' : S.l = (js.drop (m - js.length)).map (fun (j : Nat) => an p (j : Int)) ∧ S.us = upL p js := by
   rcases h.way with ⟨h1, h2, h3⟩ | ⟨_, _, h2, h3⟩
   ·have e : m = js.length := by omega
    subst e
    refine ⟨?_, ?_⟩
    ·rw [h2]; simp
    ·rw [h3]; simp
   ·exact ⟨h2, h3⟩
  obtain ⟨h2, h3⟩ := h'
  have hi : m - js.length < js.length := by omega
  have hd := List.drop_eq_getElem_cons hi
  have hl0 : S.l = an p ((js[m - js.length] : Nat) : Int) :: (js.drop (m - js.length + 1)).map (fun (j : Nat) => an p (j : Int)) := by rw [h2, hd]; rfl
  have e := dlv_a (S := S) (k := 0) (p := p) (u := ((js[m - js.length] : Nat) : Int)) (keep := false) (by rw [hl0]; rfl)
  have e : zaJ S 0 false = _ := e
  rw [e]
  refine .inr ⟨by omega, by omega, ?_, h3⟩
  show zcJ S.l 0 false = _
  rw [hl0, show m + 1 - js.length = m - js.length + 1 by omega]
  simp [zcJ]
theorem DlvI.done {p : qJ} {U : Nat} {S : YS} {js : List Nat} {m : Nat} (h : DlvI p U js m S) (hm : (atS S.l 0).2 = false) : m = 2 * js.length ∧ S.us = upL p js ∧ S.n = U := by
 rw [h.more] at hm
 have hm := of_decide_eq_false hm
 rcases h.way with ⟨h1, h2, h3⟩ | ⟨h1, h4, h2, h3⟩
 ·have e : js = [] := List.eq_nil_of_length_eq_zero (by omega)
  subst e
  exact ⟨by simp at h1 ⊢; omega, by rw [h3]; simp, h.sn⟩
 ·exact ⟨by omega, h3, h.sn⟩
def cntU (js : List Nat) (i : Nat) : Nat := ((List.range i).filter (fun j => decide (j ∈ js))).length
theorem cntU_le (js : List Nat) (i : Nat) : cntU js i ≤ i := by
 have := List.length_filter_le (fun j => decide (j ∈ js)) (List.range i)
 simpa [cntU] using this
theorem cntU_next (js : List Nat) (i : Nat) : cntU js (i + 1) = cntU js i + if i ∈ js then 1 else 0 := by
 unfold cntU
 rw [List.range_succ, List.filter_append, List.length_append]
 by_cases h : i ∈ js <;> simp [h]
theorem cntU_all {js : List Nat} {U : Nat} (nd : js.Nodup) (lt : ∀ j ∈ js, j < U) : cntU js U = js.length := by
 unfold cntU
 refine ((List.perm_ext_iff_of_nodup (List.nodup_range.sublist (List.filter_sublist (p := fun j => decide (j ∈ js)))) nd).2 fun a => ?_).length_eq
 simp only [List.mem_filter, List.mem_range, decide_eq_true_eq]
 exact ⟨fun h => h.2, fun h => ⟨lt a h, h⟩⟩
theorem ver_up {p : qJ} {js : List Nat} {S : YS} {i : Nat} (hu : S.us = upL p js) (h : i < S.n) : (zfG S (i : Nat)).2 = decide (i ∈ js) := by
 rw [ver_at h, hu]; unfold upL
 by_cases e : i ∈ js
 ·simp only [if_pos e, decide_eq_true e]; rfl
 ·simp only [if_neg e, decide_eq_false e]; rfl
theorem ver_next {js : List Nat} {S : YS} {i : Nat} {p : qJ} {b : Bool} (hu : S.us = upL p js) (h : i < S.n) (hb : (zfG S (i : Nat)).2 = b) : ((cntU js (i + 1) : Nat) : Int) = (cntU js i : Nat) + if b = true then 1 else 0 := by
 rw [cntU_next, ← hb, ver_up hu h]
 by_cases e : i ∈ js <;> simp [e]
end Go.Rh

set_option maxHeartbeats 8000000
namespace Go.Rh
def zcT : IFunc := ⟨114, [.tmp 6], (.seq (.reg [kq 6 (.mv kF)]) (.seq (.seq (.reg [kq 19 (.call "roundhouse/roundhouselaw12.known" []), kq 20 (.un .not (.t 19))]) (.cond (.t 20) (.seq (.reg [kq 6 (.mv kF)]) .ret) .skip)) (.seq (.reg [km 21 0, kq 22 (.call "roundhouse/roundhouselaw6.Make" [(.t 21), (ki 30)]), kq 7 (.new kA), ku (.st 330 (.t 7) (.t 22))]) (.seq (.reg [km 23 1, kq 24 (.call "roundhouse/roundhouselaw12.within" [(.t 23), (ki 6)]), kq 25 (.bin .add (ki 1) (.t 24)), km 8 25]) (.seq (.reg [kq 27 (.ld (some 330) (.t 7)), km 28 8, kq 29 (.call "roundhouse/yard.New" [(.t 27), (.t 28)]), km 26 29, kq 30 (.ext 0 (.t 26)), kq 31 (.ext 1 (.t 26)), km 9 30, km 10 31]) (.seq (.seq (.reg [km 32 10, kq 33 (.bin .neq (.t 32) (ki 0)), km 34 33, kg 35 (.mv (.t 9)) 34 false, kg 36 (.eqn false .ptr (.t 35) (.c (.pointer none))) 34 false, kq 37 (.pick (.t 34) kT (.t 36))]) (.cond (.t 37) (.seq (.reg [kq 6 (.mv kF)]) .ret) .skip)) (.seq (.reg [km 38 9, kq 39 (.call "(*roundhouse/yard.Yard).Tick" [(.t 38)]), km 11 39]) (.seq (.seq (.reg [km 40 11, km 41 8, kq 42 (.bin .neq (.t 40) (.t 41))]) (.cond (.t 42) (.seq (.reg [kq 6 (.mv kF)]) .ret) .skip)) (.seq (.seq (.reg [kq 12 (.mv (ki 0))]) (.block 0 (.loop (.seq (.seq (.reg [km 43 12, km 44 2, kq 45 (.lenS (.t 44)), kq 46 (.bin .lss (.t 43) (.t 45)), km 47 46, kg 48 (.mv (.t 12)) 47 true, kg 49 (.bin .lss (.t 48) (ki 10)) 47 true, kq 50 (.pick (.t 47) (.t 49) kF)]) (.cond (.t 50) .skip (.exit 0))) (.seq (.block 1 (.seq (.reg [km 53 2, km 54 12, kq 55 (.iadS 1 (.t 53) (.t 54)), kq 56 (.ld none (.t 55)), kq 57 (.call "roundhouse/roundhouselaw12.within" [(.t 56), (ki 12)]), kq 58 (.bin .sub (.t 57) (ki 2)), km 13 58]) (.seq (.seq (.reg [km 59 9, km 60 13, kq 61 (.call "(*roundhouse/yard.Yard).Lose" [(.t 59), (.t 60)]), km 62 13, kq 63 (.bin .geq (.t 62) (ki 0)), km 64 63, kg 65 (.mv (.t 13)) 64 true, kg 66 (.mv (.t 11)) 64 true, kg 67 (.bin .lss (.t 65) (.t 66)) 64 true, kq 68 (.pick (.t 64) (.t 67) kF), kq 69 (.eqb true (.t 61) (.t 68))]) (.cond (.t 69) (.seq (.reg [kq 6 (.mv kF)]) .ret) .skip)) (.seq (.seq (.reg [km 70 13, kq 71 (.bin .geq (.t 70) (ki 0)), km 72 71, kg 73 (.mv (.t 13)) 72 true, kg 74 (.mv (.t 11)) 72 true, kg 75 (.bin .lss (.t 73) (.t 74)) 72 true, kq 76 (.pick (.t 72) (.t 75) kF)]) (.cond (.t 76) (.reg [km 77 11, kq 78 (.bin .sub (.t 77) (ki 1)), km 11 78]) .skip)) (.seq (.reg [km 79 9, kq 80 (.call "(*roundhouse/yard.Yard).Notes" [(.t 79)]), km 81 11, kq 82 (.bin .neq (.t 80) (.t 81))]) (.cond (.t 82) (.seq (.reg [kq 6 (.mv kF)]) .ret) .skip)))))) (.reg [km 51 12, kq 52 (.bin .add (.t 51) (ki 1)), km 12 52])))))) (.seq (.reg [kq 14 (.mv (ki 0))]) (.seq (.block 2 (.loop (.seq (.seq (.reg [km 83 9, kq 84 (.call "(*roundhouse/yard.Yard).Deliver" [(.t 83), (ki 0), kF]), km 85 84, kg 86 (.mv (.t 14)) 85 true, kg 87 (.bin .lss (.t 86) (ki 100)) 85 true, kq 88 (.pick (.t 85) (.t 87) kF)]) (.cond (.t 88) .skip (.exit 2))) (.block 3 (.reg [km 89 14, kq 90 (.bin .add (.t 89) (ki 1)), km 14 90]))))) (.seq (.reg [kq 15 (.mv (ki 0))]) (.seq (.seq (.reg [kq 16 (.mv (ki 0))]) (.block 4 (.loop (.seq (.seq (.reg [km 91 16, km 92 8, kq 93 (.bin .lss (.t 91) (.t 92))]) (.cond (.t 93) .skip (.exit 4))) (.seq (.block 5 (.seq (.reg [km 97 9, km 98 16, kq 99 (.call "(*roundhouse/yard.Yard).Version" [(.t 97), (.t 98)]), km 96 99, kq 100 (.ext 0 (.t 96)), kq 101 (.ext 1 (.t 96)), km 17 100, km 18 101]) (.seq (.reg [km 102 18]) (.cond (.t 102) (.reg [km 103 15, kq 104 (.bin .add (.t 103) (ki 1)), km 15 104]) .skip)))) (.reg [km 94 16, kq 95 (.bin .add (.t 94) (ki 1)), km 16 95])))))) (.seq (.reg [km 105 15, km 106 11, kq 107 (.bin .eql (.t 105) (.t 106)), km 108 107, kg 109 (.mv (.t 14)) 108 true, kg 110 (.mv (.t 11)) 108 true, kg 111 (.bin .mul (ki 2) (.t 110)) 108 true, kg 112 (.bin .eql (.t 109) (.t 111)) 108 true, kq 113 (.pick (.t 108) (.t 112) kF), km 6 113]) .ret))))))))))))))⟩
theorem YardLossesC {P : Program} (hc : zX P "roundhouse/roundhouselaw12.YardLosses" = some zcT) (h_law12_known : zX P "roundhouse/roundhouselaw12.known" = some zdJ) (h_ref6_New : zfS P) (h_ref6_out : zc5 P) (h_ref5_Ring : zdZ P) (h_yard_Yard_Notes : zbi P) (h_yard_Yard_Pool : zcn P) (h_head_Head_Pool : zbQ P) (h_yard_Yard_Wish : zdv P) (h_head_Head_Wish : zdw P) (h_head_Head_waiting : zcs P) (h_pool_All : zhh P) (h_pool_Apply : zbv P) (h_pool_may : zbr P) (h_pool_held : zbm P) (h_pool_fits : zbx P) (h_pool_Check : zbf P) (h_pool_placed : zaV P) (h_cookie_Next : za7 P) (h_yard_Yard_Tick : zcm P) (h_head_Head_Send : zbP P) (h_head_Head_all : zbD P) (h_head_Head_publish : za4 P) (h_yard_row_head_Note_put : zaC P) (h_yard_Yard_Lose : zco P) (h_yard_row_head_Note_at : zah P) (h_yard_row_head_Note_drop : zai P) (h_yard_Yard_Version : zbK P) (h_yard_row_yard_unit_at : zag P) (h_plane_Plane_Version : zas P) (h_yard_Yard_Crash : zc4 P) (h_plane_Plane_Crash : zcr P) (h_yard_Yard_Deliver : zbk P) (h_head_Head_Heard : zbj P) (h_yard_unit_hear : zbO P) (h_yard_unit_version : za3 P) (h_yard_unit_load : zbq P) (h_plane_Plane_Load : zaW P) (h_plane_maybe_api_Pool_lay : qW P) (h_wheel_Make : zbI P) (h_wheel_spun : zbe P) (h_sip_Words : zbl P) (h_sip_Of : zcp P) (h_sip_number_byte : qZ P) (h_sip_state_take : zaf P) (h_sip_state_rounds : qM P) (h_sip_state_round : qO P) (h_math_bits_RotateLeft64 : zS P) (h_head_New : zdP P) (h_plane_New : zeR P) (h_yard_New : zhg P) (h_yard_row_yard_unit_put : zba P) (h_law6_Make : zX P "roundhouse/roundhouselaw6.Make" = some zeV) (h_law5_Key : zfT P) (h_law6_Entry : zfi P) (h_law6_within : zdG P) (h_ref6_Apply : zfh P) (h_ref6_Check : zeh P) (h_ref6_bad : zfR P) (h_ref6_Held : zdY P) (h_ref5_Next : zeQ P) (h_law12_within : zX P "roundhouse/roundhouselaw12.within" = some zdf) (o : Option Nat) (ns : List Int) (hnns : o = none → ns = []) (hl : (ns.length : Int) ≤ 9223372036854775807) (units : Int) (o2 : Option Nat) (ks : List Int) (hnks : o2 = none → ks = []) (hl2 : (ks.length : Int) ≤ 9223372036854775807) :
    Env P "roundhouse/roundhouselaw12.YardLosses" [inV o 0 ns.length, iv units, inV o2 1 ks.length] ([inB o (ii ns), inB o2 (ii ks)]) (Ans (.bool true) ([inB o (ii ns), inB o2 (ii ks)])) := by
 refine Env.by hc ?_
 unfold zcT
 show GC _ 2 _ _ ⟨reg [(0, inV o 0 ns.length), (1, iv units), (2, inV o2 1 ks.length)], [inB o (ii ns), inB o2 (ii ks)]⟩
 have H : YCode P := ⟨h_yard_Yard_Notes, h_yard_Yard_Pool, h_head_Head_Pool, h_yard_Yard_Wish, h_head_Head_Wish, h_head_Head_waiting, h_pool_All, h_pool_Apply, h_pool_may, h_pool_held, h_pool_fits, h_pool_Check, h_pool_placed, h_cookie_Next, h_yard_Yard_Tick, h_head_Head_Send, h_head_Head_all, h_head_Head_publish, h_yard_row_head_Note_put, h_yard_Yard_Lose, h_yard_row_head_Note_at, h_yard_row_head_Note_drop, h_yard_Yard_Version, h_yard_row_yard_unit_at, h_plane_Plane_Version, h_yard_Yard_Crash, h_plane_Plane_Crash, h_yard_Yard_Deliver, h_head_Head_Heard, h_yard_unit_hear, h_yard_unit_version, h_yard_unit_load, h_plane_Plane_Load, h_plane_maybe_api_Pool_lay, h_wheel_Make, h_wheel_spun, h_sip_Words, h_sip_Of, h_sip_number_byte, h_sip_state_take, h_sip_state_rounds, h_sip_state_round, h_math_bits_RotateLeft64, h_head_New, h_plane_New, h_yard_New, h_yard_row_yard_unit_put⟩
 refine zQ (zU (o_d 1 [(6, bv false)] (by kernel_rfl) (zF (zC (zQ (zQ (zU (zb8 (zda (known12C h_law12_known h_ref6_New h_ref6_out h_ref5_Ring h_yard_Yard_Notes h_yard_Yard_Pool h_head_Head_Pool h_yard_Yard_Wish h_head_Head_Wish h_head_Head_waiting h_pool_All h_pool_Apply h_pool_may h_pool_held h_pool_fits h_pool_Check h_pool_placed h_cookie_Next h_yard_Yard_Tick h_head_Head_Send h_head_Head_all h_head_Head_publish h_yard_row_head_Note_put h_yard_Yard_Lose h_yard_row_head_Note_at h_yard_row_head_Note_drop h_yard_Yard_Version h_yard_row_yard_unit_at h_plane_Plane_Version h_yard_Yard_Crash h_plane_Plane_Crash h_yard_Yard_Deliver h_head_Head_Heard h_yard_unit_hear h_yard_unit_version h_yard_unit_load h_plane_Plane_Load h_plane_maybe_api_Pool_lay h_wheel_Make h_wheel_spun h_sip_Words h_sip_Of h_sip_number_byte h_sip_state_take h_sip_state_rounds h_sip_state_round h_math_bits_RotateLeft64 h_head_New h_plane_New h_yard_New h_yard_row_yard_unit_put) rfl rfl rfl (o_d 1 [(20, bv false)] (by kernel_rfl) (zF (zC ?_))))))))))))
 refine zcO rfl (zar (zC (zQ (zU (o_d 1 [(21, inV o 0 ns.length)] (by kernel_rfl) (zb8 (callRO_K (callIn 0 (MakeC h_law6_Make h_law5_Key h_ref6_New h_ref6_out h_ref5_Ring h_law6_Entry h_law6_within h_ref6_Apply h_ref6_Check h_ref6_bad h_ref6_Held h_ref5_Next o ns hnns hl 30 (by omega)) rfl (zaR _) rfl rfl (zaT _) ?_))))))))
 have I0 := makeS_inv ns (k := 30) (by omega)
 have hpv := I0.ver
 generalize makeS ns 30 = p at I0 hpv ⊢
 refine o_b 1 [(7, pv 2 0)] [inB o (ii ns), inB o2 (ii ks), cw (pl zG)] (by kernel_rfl) (zde (by refine qP (c' := pl p) rfl rfl rfl ?_ ?_ ?_; exact zM _; exact zce (by omega); exact qT zG p) ?_)
 refine zF (zC (zQ (zU (o_d 1 [(23, iv units)] (by kernel_rfl) (zb8 (zda (within12C h_law12_within units 6 (by decide)) rfl rfl rfl ?_))))))
 have w1 := within_lt units (n := 6) (by decide)
 refine o_s (by refine zae (v := .int .i64 (i64.wrap (1 + (zD units 6)))) (congrArg (Value.int .i64) (w64 (by omega) (by omega))) ?_; kernel_rfl) ?_
 refine o_d 1 [(8, iv (1 + (zD units 6)))] (by kernel_rfl) (zF (zC (zQ (zU (o_s (by refine zZ (v := qL p) rfl rfl ?_; exact zau p) ?_)))))
 refine o_d 1 [(28, iv (1 + (zD units 6)))] (by kernel_rfl) (zb8 (YNewK H p (1 + (zD units 6)) (fun q => absurd q (by omega)) (fun T1 hu1 hY1q => ?_)))
 have hY1 : YP (fun k => 3 ≤ k) 3 (nyS p (1 + (zD units 6)).toNat) ([inB o (ii ns), inB o2 (ii ks), cw (pl p)] ++ T1) := hY1q
 refine (ex_eq (nyS p (1 + (zD units 6)).toNat)).elim fun S3 hS4 => ?_
 have hY5 := hS4.symm ▸ hY1
 have ok6 : YOK S3 := hS4 ▸ (ok_nyS p (by omega) (by omega))
 have ln7 : S3.l.length ≤ 0 := hS4 ▸ Nat.zero_le _
 refine o_d 5 [(10, iv 0), (9, pv 3 0), (31, iv 0), (30, pv 3 0), (26, .tuple #[pv 3 0, iv 0])] (by kernel_rfl) (zF (zC (zQ (zQ (zU (o_d 6 [(37, bv false), (36, bv false), (35, pv 3 0), (34, bv false), (33, bv false), (32, iv 0)] (by kernel_rfl) (zF (zY [(37, bv false), (9, pv 3 0), (8, iv (1 + (zD units 6))), (2, inV o2 1 ks.length)] (by kernel_rfl) (zcO rfl (zar (zC (zQ ?_))))))))))))
 refine zU (o_d 1 [(38, pv 3 0)] (by kernel_rfl) (zb8 (YTickK H hY5 (by omega) (by rw [ok6.hd]; have := ok6.n; omega)  (spl rfl fun T7 hY7q => ?_))))
 refine (ex_eq (zaq S3)).elim fun S9 hS10 => ?_
 have hY11 := hS10.symm ▸ hY7q
 have ok12 : YOK S9 := hS10 ▸ (ok_tick ok6)
 have ln13 : S9.l.length ≤ S3.l.length + 16 := hS10 ▸ tick_len ok6
 refine o_d 1 [(11, iv ((zaq S3).l.length : Nat))] (by kernel_rfl) (zF (zC (zQ (zQ (zU (o_d 3 [(42, bv ((((zaq S3).l.length : Nat) : Int) != (1 + (zD units 6)))), (41, iv (1 + (zD units 6))), (40, iv ((zaq S3).l.length : Nat))] (by kernel_rfl) (zF (zC (zad (t := (((zaq S3).l.length : Nat) : Int) != (1 + (zD units 6))) rfl (fun q => by rw [(by subst hS4 hS10; rw [tick_lenN hpv.1 (by omega)]; exact bne_eq_false_iff_eq.2 (by omega) : ((((zaq S3).l.length : Nat) : Int) != (1 + (zD units 6))) = false)] at q; cases q) (fun _ => ?_))))))))))
 refine zar (zC (gcut (fun s => ∃ (T13z : List Blk), ∃ (n : Int), ∃ (js : List Nat), ∃ (S1 : YS), YP (fun k => 3 ≤ k) 3 S1 ([inB o (ii ns), inB o2 (ii ks), cw (pl p)] ++ T13z) ∧ YOK S1 ∧ (LossI p (1 + (zD units 6)).toNat S1 n js) ∧ s = ⟨reg [(11, iv n), (9, pv 3 0), (8, iv (1 + (zD units 6)))], ([inB o (ii ns), inB o2 (ii ks), cw (pl p)] ++ T13z)⟩) ?_ ?_))
 ·skip
  refine zQ (zU (o_d 1 [(12, iv 0)] (by kernel_rfl) (zF (zC (zat (zen (fun μ s => ∃ (T14z : List Blk), ∃ (i : Nat), ∃ (n : Int), ∃ (js : List Nat), ∃ (S1 : YS), μ = 10 - i ∧ YP (fun k => 3 ≤ k) 3 S1 ([inB o (ii ns), inB o2 (ii ks), cw (pl p)] ++ T14z) ∧ YOK S1 ∧ (i ≤ 10) ∧ (LossI p (1 + (zD units 6)).toNat S1 n js) ∧ s = ⟨reg [(12, iv (i : Int)), (11, iv n), (9, pv 3 0), (8, iv (1 + (zD units 6))), (2, inV o2 1 ks.length)], ([inB o (ii ns), inB o2 (ii ks), cw (pl p)] ++ T14z)⟩) ⟨(10 - 0), ?_⟩ ?_))))))
  ·skip
   exact zY [(12, iv (0 : Int)), (11, iv ((zaq S3).l.length : Nat)), (9, pv 3 0), (8, iv (1 + (zD units 6))), (2, inV o2 1 ks.length)] (by kernel_rfl) (⟨T7, 0, ((zaq S3).l.length : Nat), (List.range (1 + (zD units 6)).toNat), S9, rfl, hY11, ok12, (by omega), (by subst hS4 hS10; exact Eq.mp (by rw [tick_lenN hpv.1 (by omega)]) (LossI.init (p := p) hpv.1 (U := (1 + (zD units 6)).toNat) (by omega))), rfl⟩)
  rintro μ s ⟨T14z, i, n, js, S1, rfl, hY14z, ok14z, hi, hI, rfl⟩
  have hlen1 := hI.len
  have hle1 := hI.le
  refine zQ (zQ (zU (o_d 2 [(44, inV o2 1 ks.length), (43, iv (i : Int))] (by kernel_rfl) (o_s (by exact run_lenIn rfl (fun q => by rw [hnks q]; rfl)) ?_))))
  refine o_d 2 [(47, bv (decide ((i : Int) < (ks.length : Nat)))), (46, bv (decide ((i : Int) < (ks.length : Nat))))] (by kernel_rfl) (zhN (b := decide ((i : Int) < (ks.length : Nat))) 47 rfl (fun h16 => ?_) (fun h16 => ?_))
  ·skip
   have h16' : (i : Int) < (ks.length : Nat) := of_decide_eq_true h16
   refine o_d 3 [(50, bv (decide ((i : Int) < 10))), (49, bv (decide ((i : Int) < 10))), (48, iv (i : Int))] (by kernel_rfl) (zF (zC (zad (t := decide ((i : Int) < 10)) rfl (fun h17 => ?_) (fun h17 => ?_))))
   ·skip
    have h17' : (i : Int) < 10 := of_decide_eq_true h17
    refine (zfk (l := ks) (i := i) (by omega)).elim fun x hxq => ?_
    have hx := hxq.1
    refine zar (zC (zQ (zat (zQ (zU (o_d 2 [(54, iv (i : Int)), (53, inV o2 1 ks.length)] (by kernel_rfl) (o_s (by exact run_iadIn (o' := i) rfl (fun q => by rw [hnks q]; rfl) rfl (by omega) (by omega)) ?_)))))))
    refine o_s (by refine zZ (v := iv x) rfl (hf_in (n := ks.length) rfl (fun q => by rw [hnks q]; rfl) (by omega)) ?_; exact ii_r (i := i) (by omega) hx) ?_
    refine zb8 (zda (within12C h_law12_within x 12 (by decide)) rfl rfl rfl ?_)
    have w18 := within_lt x (n := 12) (by decide)
    refine o_s (by refine zae (v := .int .i64 (i64.wrap ((zD x 12) - 2))) (congrArg (Value.int .i64) (w64 (by omega) (by omega))) ?_; kernel_rfl) ?_
    refine o_d 1 [(13, iv ((zD x 12) - 2))] (by kernel_rfl) (zF (zC (zQ (zQ (zU (o_d 2 [(60, iv ((zD x 12) - 2)), (59, pv 3 0)] (by kernel_rfl) (zb8 (YLoseK H hY14z (by omega) ((zD x 12) - 2) (spl rfl fun T18 hY18q => ?_)))))))))
    refine (ex_eq (zcC S1 ((zD x 12) - 2))).elim fun S20 hS21 => ?_
    have hY22 := hS21.symm ▸ hY18q
    have ok23 : YOK S20 := hS21 ▸ (ok_lose ok14z _)
    have ln24 : S20.l.length ≤ S1.l.length := hS21 ▸ lose_len _ _
    refine o_d 3 [(64, bv (decide ((zD x 12) - 2 ≥ 0))), (63, bv (decide ((zD x 12) - 2 ≥ 0))), (62, iv ((zD x 12) - 2))] (by kernel_rfl) (zhN (b := decide ((zD x 12) - 2 ≥ 0)) 64 rfl (fun h25 => ?_) (fun h25 => ?_))
    ·skip
     have h25' : (zD x 12) - 2 ≥ 0 := of_decide_eq_true h25
     refine o_d 5 [(69, bv (((atS S1.l ((zD x 12) - 2)).2) != (decide ((zD x 12) - 2 < n)))), (68, bv (decide ((zD x 12) - 2 < n))), (67, bv (decide ((zD x 12) - 2 < n))), (66, iv n), (65, iv ((zD x 12) - 2))] (by kernel_rfl) (zF (zY [(69, bv (((atS S1.l ((zD x 12) - 2)).2) != (decide ((zD x 12) - 2 < n)))), (13, iv ((zD x 12) - 2)), (12, iv (i : Int)), (11, iv n), (9, pv 3 0), (8, iv (1 + (zD units 6))), (2, inV o2 1 ks.length)] (by kernel_rfl) (zad (t := ((atS S1.l ((zD x 12) - 2)).2) != (decide ((zD x 12) - 2 < n))) rfl (fun q => by rw [(by rw [hI.at_]; simp; omega : (((atS S1.l ((zD x 12) - 2)).2) != (decide ((zD x 12) - 2 < n))) = false)] at q; cases q) (fun _ => ?_))))
     refine zar (zC (zQ (zQ (zU (o_d 3 [(72, bv (decide ((zD x 12) - 2 ≥ 0))), (71, bv (decide ((zD x 12) - 2 ≥ 0))), (70, iv ((zD x 12) - 2))] (by kernel_rfl) (zhN (b := decide ((zD x 12) - 2 ≥ 0)) 72 rfl (fun k26 => ?_) (fun q => by rw [h25] at q; cases q)))))))
     refine o_d 4 [(76, bv (decide ((zD x 12) - 2 < n))), (75, bv (decide ((zD x 12) - 2 < n))), (74, iv n), (73, iv ((zD x 12) - 2))] (by kernel_rfl) (zF (zC (zad (t := decide ((zD x 12) - 2 < n)) rfl (fun h27 => ?_) (fun h27 => ?_))))
     ·skip
      have h27' : (zD x 12) - 2 < n := of_decide_eq_true h27
      refine zU (o_d 1 [(77, iv n)] (by kernel_rfl) (o_s (by refine zae (v := .int .i64 (i64.wrap (n - 1))) (congrArg (Value.int .i64) (w64 (by omega) (by omega))) ?_; kernel_rfl) ?_))
      refine o_d 1 [(11, iv (n - 1))] (by kernel_rfl) (zF (zC (zQ (zU (o_d 1 [(79, pv 3 0)] (by kernel_rfl) (zb8 (ziK H hY22   (spl rfl fun T27 hY27q => ?_))))))))
      refine o_d 2 [(82, bv (((S20.l.length : Nat) : Int) != (n - 1))), (81, iv (n - 1))] (by kernel_rfl) (zF (zC (zad (t := ((S20.l.length : Nat) : Int) != (n - 1)) rfl (fun q => by rw [(bne_eq_false_iff_eq.2 (by have h9 := hI.any (zD x 12 - 2); rw [← hS21] at h9; split at h9 <;> omega) : (((S20.l.length : Nat) : Int) != (n - 1)) = false)] at q; cases q) (fun _ => ?_))))
      refine zar (zC (zU (o_d 1 [(51, iv (i : Int))] (by kernel_rfl) (o_s (by refine zae (v := .int .i64 (i64.wrap ((i : Int) + 1))) (congrArg (Value.int .i64) (w64 (by omega) (by omega))) ?_; kernel_rfl) ?_))))
      refine o_d 1 [(12, iv ((i : Int) + 1))] (by kernel_rfl) (zF (⟨10 - (i + 1), ?_⟩))
      refine zeu [(12, iv ((i + 1) : Int)), (11, iv (n - 1)), (9, pv 3 0), (8, iv (1 + (zD units 6))), (2, inV o2 1 ks.length)] (by kernel_rfl) (by omega) ?_
      exact ⟨T27, (i + 1), (n - 1), (js.eraseIdx (zD x 12 - 2).toNat), S20, rfl, hY27q, ok23, (by omega), (by subst hS21; exact hI.lose (by omega)), rfl⟩
     have h27' : ¬ ((zD x 12) - 2 < n) := of_decide_eq_false h27
     refine zar (zC (zQ (zU (o_d 1 [(79, pv 3 0)] (by kernel_rfl) (zb8 (ziK H hY22   (spl rfl fun T28 hY28q => ?_)))))))
     refine o_d 2 [(82, bv (((S20.l.length : Nat) : Int) != n)), (81, iv n)] (by kernel_rfl) (zF (zC (zad (t := ((S20.l.length : Nat) : Int) != n) rfl (fun q => by rw [(bne_eq_false_iff_eq.2 (by have h9 := hI.any (zD x 12 - 2); rw [← hS21] at h9; split at h9 <;> omega) : (((S20.l.length : Nat) : Int) != n) = false)] at q; cases q) (fun _ => ?_))))
     refine zar (zC (zU (o_d 1 [(51, iv (i : Int))] (by kernel_rfl) (o_s (by refine zae (v := .int .i64 (i64.wrap ((i : Int) + 1))) (congrArg (Value.int .i64) (w64 (by omega) (by omega))) ?_; kernel_rfl) ?_))))
     refine o_d 1 [(12, iv ((i : Int) + 1))] (by kernel_rfl) (zF (⟨10 - (i + 1), ?_⟩))
     refine zeu [(12, iv ((i + 1) : Int)), (11, iv n), (9, pv 3 0), (8, iv (1 + (zD units 6))), (2, inV o2 1 ks.length)] (by kernel_rfl) (by omega) ?_
     exact ⟨T28, (i + 1), n, js, S20, rfl, hY28q, ok23, (by omega), (by subst hS21; exact hI.out (by omega)), rfl⟩
    have h25' : ¬ ((zD x 12) - 2 ≥ 0) := of_decide_eq_false h25
    refine o_d 5 [(69, bv (((atS S1.l ((zD x 12) - 2)).2) != false)), (68, bv false), (67, undef), (66, undef), (65, undef)] (by kernel_rfl) (zF (zY [(69, bv (((atS S1.l ((zD x 12) - 2)).2) != false)), (13, iv ((zD x 12) - 2)), (12, iv (i : Int)), (11, iv n), (9, pv 3 0), (8, iv (1 + (zD units 6))), (2, inV o2 1 ks.length)] (by kernel_rfl) (zad (t := ((atS S1.l ((zD x 12) - 2)).2) != false) rfl (fun q => by rw [(by rw [hI.at_]; simp; omega : (((atS S1.l ((zD x 12) - 2)).2) != false) = false)] at q; cases q) (fun _ => ?_))))
    refine zar (zC (zQ (zQ (zU (o_d 3 [(72, bv (decide ((zD x 12) - 2 ≥ 0))), (71, bv (decide ((zD x 12) - 2 ≥ 0))), (70, iv ((zD x 12) - 2))] (by kernel_rfl) (zhN (b := decide ((zD x 12) - 2 ≥ 0)) 72 rfl (fun q => by rw [h25] at q; cases q) (fun k30 => ?_)))))))
    refine o_d 4 [(76, bv false), (75, undef), (74, undef), (73, undef)] (by kernel_rfl) (zF (zC (zcO rfl (zar (zC (zQ (zU (o_d 1 [(79, pv 3 0)] (by kernel_rfl) (zb8 (ziK H hY22   (spl rfl fun T30 hY30q => ?_)))))))))))
    refine o_d 2 [(82, bv (((S20.l.length : Nat) : Int) != n)), (81, iv n)] (by kernel_rfl) (zF (zC (zad (t := ((S20.l.length : Nat) : Int) != n) rfl (fun q => by rw [(bne_eq_false_iff_eq.2 (by have h9 := hI.any (zD x 12 - 2); rw [← hS21] at h9; split at h9 <;> omega) : (((S20.l.length : Nat) : Int) != n) = false)] at q; cases q) (fun _ => ?_))))
    refine zar (zC (zU (o_d 1 [(51, iv (i : Int))] (by kernel_rfl) (o_s (by refine zae (v := .int .i64 (i64.wrap ((i : Int) + 1))) (congrArg (Value.int .i64) (w64 (by omega) (by omega))) ?_; kernel_rfl) ?_))))
    refine o_d 1 [(12, iv ((i : Int) + 1))] (by kernel_rfl) (zF (⟨10 - (i + 1), ?_⟩))
    refine zeu [(12, iv ((i + 1) : Int)), (11, iv n), (9, pv 3 0), (8, iv (1 + (zD units 6))), (2, inV o2 1 ks.length)] (by kernel_rfl) (by omega) ?_
    exact ⟨T30, (i + 1), n, js, S20, rfl, hY30q, ok23, (by omega), (by subst hS21; exact hI.out (by omega)), rfl⟩
   have h17' : ¬ ((i : Int) < 10) := of_decide_eq_false h17
   exact zdx (zY [(11, iv n), (9, pv 3 0), (8, iv (1 + (zD units 6)))] (by kernel_rfl) (⟨T14z, n, js, S1, hY14z, ok14z, hI, rfl⟩))
  have h16' : ¬ ((i : Int) < (ks.length : Nat)) := of_decide_eq_false h16
  exact o_d 3 [(50, bv false), (49, undef), (48, undef)] (by kernel_rfl) (zF (zC (zcO rfl (zdx (zY [(11, iv n), (9, pv 3 0), (8, iv (1 + (zD units 6)))] (by kernel_rfl) (⟨T14z, n, js, S1, hY14z, ok14z, hI, rfl⟩))))))
 rintro s ⟨T13z, n, js, S1, hY13z, ok13z, hI, rfl⟩
 have hlen1 := hI.len
 have hle1 := hI.le
 refine zQ (zU (o_d 1 [(14, iv 0)] (by kernel_rfl) (zF (zC (zQ (zat (zen (fun μ s => ∃ (T31z : List Blk), ∃ (m : Nat), ∃ (S2 : YS), μ = 100 - m ∧ YP (fun k => 3 ≤ k) 3 S2 ([inB o (ii ns), inB o2 (ii ks), cw (pl p)] ++ T31z) ∧ YOK S2 ∧ (m ≤ 100) ∧ (S2.l.length ≤ 100 + m) ∧ (DlvI p (1 + (zD units 6)).toNat js m S2) ∧ s = ⟨reg [(14, iv (m : Int)), (11, iv n), (9, pv 3 0), (8, iv (1 + (zD units 6)))], ([inB o (ii ns), inB o2 (ii ks), cw (pl p)] ++ T31z)⟩) ⟨(100 - 0), ?_⟩ ?_)))))))
 ·skip
  exact zY [(14, iv (0 : Int)), (11, iv n), (9, pv 3 0), (8, iv (1 + (zD units 6)))] (by kernel_rfl) (⟨T13z, 0, S1, rfl, hY13z, ok13z, (by omega), (by omega), (DlvI.init hI), rfl⟩)
 rintro μ s ⟨T31z, m, S2, rfl, hY31z, ok31z, hm, hln2, hD, rfl⟩
 refine zQ (zQ (zU (o_d 1 [(83, pv 3 0)] (by kernel_rfl) (zb8 (zg4 H hY31z (by omega) ok31z.nok 0 false (spl rfl fun T32 hY32q => ?_))))))
 refine (ex_eq (zaJ S2 0 false)).elim fun S34 hS35 => ?_
 have hY36 := hS35.symm ▸ hY32q
 have ok37 : YOK S34 := hS35 ▸ (ok_dlv ok31z _ _)
 have ln38 : S34.l.length ≤ S2.l.length + 1 := hS35 ▸ dlv_len _ _ _
 refine o_d 1 [(85, bv ((atS S2.l 0).2))] (by kernel_rfl) (zhN (b := (atS S2.l 0).2) 85 rfl (fun h39 => ?_) (fun h39 => ?_))
 ·skip
  refine o_d 3 [(88, bv (decide ((m : Int) < 100))), (87, bv (decide ((m : Int) < 100))), (86, iv (m : Int))] (by kernel_rfl) (zF (zC (zad (t := decide ((m : Int) < 100)) rfl (fun _ => ?_) (fun q => by rw [(decide_eq_true (by have h8 := hD.lt (by assumption); have h9 := hI.le; have h7 := hI.n; omega) : (decide ((m : Int) < 100)) = true)] at q; cases q))))
  refine zar (zC (zat (zU (o_d 1 [(89, iv (m : Int))] (by kernel_rfl) (o_s (by refine zae (v := .int .i64 (i64.wrap ((m : Int) + 1))) (congrArg (Value.int .i64) (w64 (by omega) (by omega))) ?_; kernel_rfl) ?_)))))
  refine o_d 1 [(14, iv ((m : Int) + 1))] (by kernel_rfl) (zF (⟨100 - (m + 1), ?_⟩))
  refine zeu [(14, iv ((m + 1) : Int)), (11, iv n), (9, pv 3 0), (8, iv (1 + (zD units 6)))] (by kernel_rfl) (by have h8 := hD.lt (by assumption); have h9 := hI.le; have h7 := hI.n; omega) ?_
  exact ⟨T32, (m + 1), S34, rfl, hY36, ok37, (by have h8 := hD.lt (by assumption); have h9 := hI.le; have h7 := hI.n; omega), (by omega), (by subst hS35; exact hD.next hpv.1 hI.nd (by assumption)), rfl⟩
 refine o_d 3 [(88, bv false), (87, undef), (86, undef)] (by kernel_rfl) (zF (zC (zcO rfl (zdx (zC (zQ (zU (o_d 1 [(15, iv 0)] (by kernel_rfl) (zF (zC (zQ (zQ ?_))))))))))))
 refine zU (o_d 1 [(16, iv 0)] (by kernel_rfl) (zF (zC (zat (zen (fun μ s => ∃ (T39z : List Blk), ∃ (j : Nat), ∃ (up : Int), ∃ (S3 : YS), μ = (1 + (zD units 6)).toNat - j ∧ YP (fun k => 3 ≤ k) 3 S3 ([inB o (ii ns), inB o2 (ii ks), cw (pl p)] ++ T39z) ∧ YOK S3 ∧ (j ≤ (1 + (zD units 6)).toNat) ∧ (up = (cntU js j : Nat)) ∧ (S3.us = upL p js ∧ S3.n = (1 + (zD units 6)).toNat) ∧ s = ⟨reg [(16, iv (j : Int)), (15, iv up), (14, iv (m : Int)), (11, iv n), (9, pv 3 0), (8, iv (1 + (zD units 6)))], ([inB o (ii ns), inB o2 (ii ks), cw (pl p)] ++ T39z)⟩) ⟨((1 + (zD units 6)).toNat - 0), ?_⟩ ?_)))))
 ·skip
  exact zY [(16, iv (0 : Int)), (15, iv 0), (14, iv (m : Int)), (11, iv n), (9, pv 3 0), (8, iv (1 + (zD units 6)))] (by kernel_rfl) (⟨T32, 0, 0, S34, rfl, hY36, ok37, (by omega), rfl, (by subst hS35; rw [dlv_none (by assumption)]; exact (hD.done (by assumption)).2), rfl⟩)
 rintro μ s ⟨T39z, j, up, S3, rfl, hY39z, ok39z, hj, hup, hus, rfl⟩
 have hcj := cntU_le js j
 refine zQ (zQ (zU (o_d 3 [(93, bv (decide ((j : Int) < 1 + (zD units 6)))), (92, iv (1 + (zD units 6))), (91, iv (j : Int))] (by kernel_rfl) (zF (zC (zad (t := decide ((j : Int) < 1 + (zD units 6))) rfl (fun h41 => ?_) (fun h41 => ?_)))))))
 ·skip
  have h41' : (j : Int) < 1 + (zD units 6) := of_decide_eq_true h41
  refine zar (zC (zQ (zat (zQ (zU (o_d 2 [(98, iv (j : Int)), (97, pv 3 0)] (by kernel_rfl) (zb8 (YVersionK H hY39z  (j : Int) (spl rfl fun T41 hY41q => ?_)))))))))
  refine o_d 5 [(18, bv ((zfG S3 (j : Int)).2)), (17, iv ((zfG S3 (j : Int)).1)), (101, bv ((zfG S3 (j : Int)).2)), (100, iv ((zfG S3 (j : Int)).1)), (96, .tuple #[iv ((zfG S3 (j : Int)).1), bv ((zfG S3 (j : Int)).2)])] (by kernel_rfl) (zF (zC (zQ (zU (o_d 1 [(102, bv ((zfG S3 (j : Int)).2))] (by kernel_rfl) (zF (zC (zad (t := (zfG S3 (j : Int)).2) rfl (fun h43 => ?_) (fun h43 => ?_)))))))))
  ·skip
   refine zU (o_d 1 [(103, iv up)] (by kernel_rfl) (o_s (by refine zae (v := .int .i64 (i64.wrap (up + 1))) (congrArg (Value.int .i64) (w64 (by omega) (by omega))) ?_; kernel_rfl) ?_))
   refine o_d 1 [(15, iv (up + 1))] (by kernel_rfl) (zF (zC (zU (o_d 1 [(94, iv (j : Int))] (by kernel_rfl) (o_s (by refine zae (v := .int .i64 (i64.wrap ((j : Int) + 1))) (congrArg (Value.int .i64) (w64 (by omega) (by omega))) ?_; kernel_rfl) ?_)))))
   refine o_d 1 [(16, iv ((j : Int) + 1))] (by kernel_rfl) (zF (⟨(1 + (zD units 6)).toNat - (j + 1), ?_⟩))
   refine zeu [(16, iv ((j + 1) : Int)), (15, iv (up + 1)), (14, iv (m : Int)), (11, iv n), (9, pv 3 0), (8, iv (1 + (zD units 6)))] (by kernel_rfl) (by omega) ?_
   exact ⟨T41, (j + 1), (up + 1), S3, rfl, hY41q, ok39z, (by omega), (by have h9 := ver_next (i := j) hus.1 (by rw [hus.2]; omega) (by assumption); simp at h9; omega), hus, rfl⟩
  refine zar (zC (zU (o_d 1 [(94, iv (j : Int))] (by kernel_rfl) (o_s (by refine zae (v := .int .i64 (i64.wrap ((j : Int) + 1))) (congrArg (Value.int .i64) (w64 (by omega) (by omega))) ?_; kernel_rfl) ?_))))
  refine o_d 1 [(16, iv ((j : Int) + 1))] (by kernel_rfl) (zF (⟨(1 + (zD units 6)).toNat - (j + 1), ?_⟩))
  refine zeu [(16, iv ((j + 1) : Int)), (15, iv up), (14, iv (m : Int)), (11, iv n), (9, pv 3 0), (8, iv (1 + (zD units 6)))] (by kernel_rfl) (by omega) ?_
  exact ⟨T41, (j + 1), up, S3, rfl, hY41q, ok39z, (by omega), (by have h9 := ver_next (i := j) hus.1 (by rw [hus.2]; omega) (by assumption); simp at h9; omega), hus, rfl⟩
 have h41' : ¬ ((j : Int) < 1 + (zD units 6)) := of_decide_eq_false h41
 refine zdx (zC (zQ (zU (o_d 4 [(108, bv (up == n)), (107, bv (up == n)), (106, iv n), (105, iv up)] (by kernel_rfl) (zhN (b := up == n) 108 rfl (fun k44 => ?_) (fun q => by rw [(beq_iff_eq.2 (by have h7 := hI.n; have h6 : cntU js j = js.length := (congrArg (cntU js) (show j = (1 + (zD units 6)).toNat from (by omega))).trans (cntU_all hI.nd hI.lt); omega) : (up == n) = true)] at q; cases q))))))
 refine o_d 2 [(110, iv n), (109, iv (m : Int))] (by kernel_rfl) (zdm rfl (o_s (by refine zae (v := .int .i64 (i64.wrap (2 * n))) (congrArg (Value.int .i64) (w64 (by omega) (by omega))) ?_; kernel_rfl) ?_))
 refine o_d 3 [(6, bv ((m : Int) == (2 * n))), (113, bv ((m : Int) == (2 * n))), (112, bv ((m : Int) == (2 * n)))] (by kernel_rfl) (zF (zC (zaZ ?_)))
 have E0_ : ((m : Int) == (2 * n)) = true := by
  exact beq_iff_eq.2 (by have h8 := (hD.done (by assumption)).1; have h7 := hI.n; omega)
 exact qE [bv ((m : Int) == (2 * n))] (qD rfl rfl) rfl (by rw [E0_]; rfl) rfl (show List.all [inB o (ii ns), inB o2 (ii ks)] blkf = true from (all_cons (zhZ _ (zaR ns)) (all_cons (zhZ _ (zaR ks)) rfl)))
end Go.Rh
