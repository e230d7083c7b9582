/- The proofs zeX the intermediate form, part QYardRoundsf. -/
import Derived.Test.YtonnmmemnjnjbaaQYardRoundse
import Derived.Test.YtonnmmemnjnjbaaQYardRoundsd
open Go.IntKind (i64)
set_option linter.unusedVariables false
set_option linter.unusedSimpArgs false
set_option maxRecDepth 100000
namespace Go.Rh
section
variable {C : zah} {un : Nat → Nat → Bool} {K : St → Prop} {L : List (Nat × Value)} {h : List Blk} {i nid : Nat} {log : List Foot}
theorem d_mkF {d : Nat} {op : IOp} {r : List ICell} {v : Value} {B : Blk} (hm : op.makes = true) (hs : zS op (evf (reg L)) (hf h) nid = some (v, .push B)) (hg : h[nid]? = some .gone) (hfit : fits un ⟨i, [], [nid], none⟩ log)
  (hk : GD C un (i + 1) (nid + 1) r (⟨i, [], [nid], none⟩ :: log) K ⟨reg ((d, v) :: L), h.set nid B⟩) : GD C un i nid (⟨some d, op, none⟩ :: r) log K ⟨reg L, h⟩ := by
 refine ⟨?_⟩
 show zbm C un ⟨i, nid, ⟨some d, op, none⟩⟩ log (fun log' s' => wpD C un (zbN (i + 1) (if op.makes then nid + 1 else nid) r) log' K s') ⟨reg L, h⟩
 have hsp : qK op = 0 := by cases op <;> first | rfl | cases hm
 have hrd : rdE op (evf (reg L)) = [] := by unfold rdE; rw [ziZ hm]; rfl
 refine (zbd (fun _ => hsp)).2 ⟨⟨i, [], [nid], none⟩, ⟨zaD (reg L) (some d) v, h.set nid B⟩, ?_, hfit, ?_⟩
 ·simp [zjc, gJ, zck, hs, hrd, hg]
 ·have hk := hk.out
  simp only [hm, if_true]
  exact hk
theorem d_callF {d : Nat} {g : String} {args : List Opd} {r : List ICell} {R : zea} (sel : List Nat) (h1 : List Blk) (a1 : List Value) (hC : C g a1 h1 R) (hl : h1.length = sel.length) (ha : a1.map (zbF (rho sel h.length)) = args.map (evf (reg L)))
  (hs : ∀ (i k : Nat) b1, sel[i]? = some k → h1[i]? = some b1 → ∃ b, h[k]? = some b ∧ Blk.view (za5 (rho sel h.length) b1) b)
  (hd : ∀ (i j k : Nat) b1, i ≠ j → sel[i]? = some k → sel[j]? = some k → h1[i]? = some b1 → b1.rw = false)
  (hfit : fits un ⟨i, sel, zc5 sel h1, some h.length⟩ log) (hx : ∃ v h1', R v h1' ∧ sel.length ≤ h1'.length ∧ zc3 h1 h1')
  (hK : ∀ v h1', R v h1' → zex h1 h1' ∧ GD C un (i + 1) nid r (⟨i, sel, zc5 sel h1, some h.length⟩ :: log) K ⟨reg ((d, zbF (rho sel h.length) v) :: L), zd4 h sel h1' (rho sel h.length)⟩) : GD C un i nid (⟨some d, .call g args, none⟩ :: r) log K ⟨reg L, h⟩ :=
 ⟨⟨sel, h1, a1, R, hC, hl, ha, hs, hd, hfit, fun _ => hx, fun v h1' hR _ _ => ⟨(hK v h1' hR).1, (hK v h1' hR).2.out⟩⟩⟩
end
theorem ptrs_succ (k : Nat) (f : Nat → Nat) : zbc k f ++ [pv (f k) 0] = zbc (k + 1) f := by
 simp [zbc, List.range_succ]
theorem putUC {P : Program} (hc : zbp P) (k : Nat) (hk : k ≤ 1000) (f : Nat → Nat) (ro : Option Nat) (ho : ro = none → k = 0) (w : Value) (T : List Blk) :
  Env P "(*roundhouse/yard.row[*roundhouse/yard.unit]).put" [pv 0 1, sv 2 0 1 1] ([cw [pv 3 0, slV 1 k ro, w], pB k f ro, cw [pv (f k) 0], cr []] ++ T)
   (fun v h' => v = .tuple #[] ∧ ∃ m, (ro.isSome = true ∧ h' = [cw [pv 3 0, slV 1 (k + 1) (some m), w], pB (k + 1) f (some m), cw [pv (f k) 0], cr []] ++ T) ∨ h' = [cw [pv 3 0, slV (4 + T.length) (k + 1) (some m), w], pB k f ro, cw [pv (f k) 0], cr []] ++ T ++ [pB (k + 1) f (some m)]) := by
 refine Env.by2 hc ?_
 unfold zbS
 show GC _ _ _ _ ⟨reg [(0, pv 0 1), (1, sv 2 0 1 1)], [cw [pv 3 0, slV 1 k ro, w], pB k f ro, cw [pv (f k) 0], cr []] ++ T⟩
 refine zV (o_d 6 [(9, sv 2 0 1 1), (8, slV 1 k ro), (7, pv 0 1), (6, pv 0 1), (5, pv 0 1), (4, pv 0 1)] (by kernel_rfl) (zhg (k := 1) (n := k) (o := ro) (q := 1) (cs := zbc k f) (xs := [pv (f k) 0]) (cs2 := zbc (k + 1) f) (zl := [.pointer none]) rfl rfl rfl (fun m q => by subst q; rfl) (fun q => by have := ho q; subst this; exact ⟨rfl, rfl⟩) (by simp [zbc]) rfl rfl (zbK rfl rfl (by simp)) rfl (by omega) (by omega) (ptrs_succ k f) (fun m q => ?_) (fun m => ?_)))
 ·subst q
  exact o_b 3 [(12, pv 0 1), (11, pv 0 1)] ([cw [pv 3 0, slV 1 (k + 1) (some m), w], pB (k + 1) f (some m), cw [pv (f k) 0], cr []] ++ T) (by kernel_rfl) (zG ⟨trivial, _, .inl rfl, [], rfl, qA, rfl, m, .inl ⟨rfl, rfl⟩⟩)
 ·have hl : ([cw [pv 3 0, slV 1 k ro, w], pB k f ro, cw [pv (f k) 0], cr []] ++ T).length = 4 + T.length := by simp; omega
  rw [hl]
  exact o_b 3 [(12, pv 0 1), (11, pv 0 1)] ([cw [pv 3 0, slV (4 + T.length) (k + 1) (some m), w], pB k f ro, cw [pv (f k) 0], cr []] ++ T ++ [pB (k + 1) f (some m)]) (by kernel_rfl) (zG ⟨trivial, _, .inl rfl, [], rfl, qA, rfl, m, .inr rfl⟩)
def u00 : US := ⟨zH, false, 0, nr0, none⟩
def nyS (p : qL) (n : Nat) : YS := ⟨n, newHS p (n : Nat), fun _ => ⟨zH, false, 0, nr0⟩, []⟩
def YHn (k : Nat) (x : HS) (h : List Blk) : Prop := ∃ ro pl, YH k ro x (fun _ => u00) [] none pl h ∧ pl 0 = 0
theorem zgz {h T : List Blk} {k : Nat} {b : Blk} (hb : h[k]? = some b) : (h ++ T)[k]? = some b := by
 rw [List.getElem?_append_left (zL hb)]; exact hb
theorem zh7 {h T : List Blk} (j : Nat) : (h ++ T)[h.length + j]? = T[j]? := by
 rw [List.getElem?_append_right (Nat.le_add_right _ _), Nat.add_sub_cancel_left]
theorem YH.more {k : Nat} {ro : Option Nat} {x : HS} {us : Nat → US} {l : List Nt} {o : Gr} {pl : Nat → Nat} {h : List Blk} (Y : YH k ro x us l o pl h) (T : List Blk) : YH k ro x us l o pl (h ++ T) :=
 ⟨Y.inj, Y.ro0, zgz Y.y, zgz Y.hd, zgz Y.hc, zgz Y.hm, zgz Y.ur, zgz Y.way, Y.ok, fun j hj => zgz (Y.un j hj), fun j hj => zgz (Y.pn j hj), fun j hj => zgz (Y.ch j hj), fun j hj => let ⟨B, h1, h2⟩ := Y.wh j hj; ⟨B, zgz h1, h2⟩⟩
theorem YH.grow {k : Nat} {ro : Option Nat} {x : HS} {pl : Nat → Nat} {h h' : List Blk} (Y : YH k ro x (fun _ => u00) [] none pl h) (hp : pl 0 = 0) (ku m : Nat) (f : Nat → Nat) (N : Nat) (hN : N = h.length)
  (hf : ∀ j, j < k → f j = pl (6 + 4 * j)) (hfk : f k = N + 1) (hku : ku = pl 4 ∨ N + 4 ≤ ku)
  (e0 : h'[pl 0]? = some (cw (z8 (pl 1) (slV ku (k + 1) (some m)) (gV (pl 5) 0 none))))
  (e4 : h'[ku]? = some (pB (k + 1) f (some m)))
  (ek : ∀ a, a < 6 + 4 * k → a ≠ 0 → a ≠ 4 → h'[pl a]? = h[pl a]?)
  (e1 : h'[N]? = some (.chan 1 (([] : List Nt).map ntE))) (e2 : h'[N + 1]? = some (cw (qD (N + 3) zH 0 N))) (e3 : ∃ c rw, h'[N + 2]? = some (.cells c rw)) (e5 : h'[N + 3]? = some (cw (zM zH false nr0 (.slice none 0 0)))) : YHn (k + 1) x h' := by
 subst hN
 have hlt : ∀ a, a < 6 + 4 * k → pl a < h.length := fun a ha => Y.lt ha
 let P2 : Nat → Nat := fun a => if a = 4 then ku else if a < 6 + 4 * k then pl a else if a = 6 + 4 * k then h.length + 1 else if a = 7 + 4 * k then h.length + 3 else if a = 8 + 4 * k then h.length else h.length + 2
 have q4 : P2 4 = ku := if_pos rfl
 have q1 : ∀ a, a ≠ 4 → a < 6 + 4 * k → P2 a = pl a := fun a h4 ha => by
  show (if a = 4 then _ else _) = _
  rw [if_neg h4, if_pos ha]
 have q6 : P2 (6 + 4 * k) = h.length + 1 := by
  show (if 6 + 4 * k = 4 then _ else _) = _
  rw [if_neg (by omega), if_neg (by omega), if_pos rfl]
 have q7 : P2 (7 + 4 * k) = h.length + 3 := by
  show (if 7 + 4 * k = 4 then _ else _) = _
  rw [if_neg (by omega), if_neg (by omega), if_neg (by omega), if_pos rfl]
 have q8 : P2 (8 + 4 * k) = h.length := by
  show (if 8 + 4 * k = 4 then _ else _) = _
  rw [if_neg (by omega), if_neg (by omega), if_neg (by omega), if_neg (by omega), if_pos rfl]
 have q9 : P2 (9 + 4 * k) = h.length + 2 := by
  show (if 9 + 4 * k = 4 then _ else _) = _
  rw [if_neg (by omega), if_neg (by omega), if_neg (by omega), if_neg (by omega), if_neg (by omega)]
 refine ⟨some m, P2, ⟨?_, (fun e => by cases e), ?_, ?_, ?_, ?_, ?_, ?_, rfl, ?_, ?_, ?_, ?_⟩, by rw [q1 0 (by omega) (by omega)]; exact hp⟩
 ·intro a b ha hb e
  have key : ∀ a, a < 6 + 4 * (k + 1) → (a ≠ 4 ∧ a < 6 + 4 * k ∧ P2 a = pl a ∧ P2 a < h.length ∧ (a ≠ 4 → pl a ≠ pl 4)) ∨ (a = 4 ∧ P2 a = ku) ∨ (a = 6 + 4 * k ∧ P2 a = h.length + 1) ∨ (a = 7 + 4 * k ∧ P2 a = h.length + 3) ∨ (a = 8 + 4 * k ∧ P2 a = h.length) ∨ (a = 9 + 4 * k ∧ P2 a = h.length + 2) := fun a ha => by
   by_cases h4 : a = 4
   ·subst h4; exact .inr (.inl ⟨rfl, q4⟩)
   by_cases h6 : a < 6 + 4 * k
   ·exact .inl ⟨h4, h6, q1 a h4 h6, by rw [q1 a h4 h6]; exact hlt a h6, fun h4 e => h4 (Y.inj a 4 h6 (by omega) e)⟩
   have : a = 6 + 4 * k ∨ a = 7 + 4 * k ∨ a = 8 + 4 * k ∨ a = 9 + 4 * k := by omega
   rcases this with rfl | rfl | rfl | rfl
   ·exact .inr (.inr (.inl ⟨rfl, q6⟩))
   ·exact .inr (.inr (.inr (.inl ⟨rfl, q7⟩)))
   ·exact .inr (.inr (.inr (.inr (.inl ⟨rfl, q8⟩))))
   ·exact .inr (.inr (.inr (.inr (.inr ⟨rfl, q9⟩))))
  have ka := key a ha
  have kb := key b hb
  have l4 := hlt 4 (by omega)
  rcases ka with ⟨a1, a2, a3, a4, a5⟩ | ⟨a1, a2⟩ | ⟨a1, a2⟩ | ⟨a1, a2⟩ | ⟨a1, a2⟩ | ⟨a1, a2⟩ <;> rcases kb with ⟨b1, b2, b3, b4, b5⟩ | ⟨b1, b2⟩ | ⟨b1, b2⟩ | ⟨b1, b2⟩ | ⟨b1, b2⟩ | ⟨b1, b2⟩ <;> first | omega | exact Y.inj a b a2 b2 (a3.symm.trans (e.trans b3)) | skip
  all_goals
   rcases hku with hku | hku
   ·first
     | exact absurd (a3.symm.trans (e.trans (b2.trans hku))) (a5 a1)
     | exact absurd (b3.symm.trans (e.symm.trans (a2.trans hku))) (b5 b1)
   ·omega
 ·rw [q1 0 (by omega) (by omega), q1 1 (by omega) (by omega), q4, q1 5 (by omega) (by omega)]; exact e0
 ·rw [q1 1 (by omega) (by omega), q1 2 (by omega) (by omega), q1 3 (by omega) (by omega), ek 1 (by omega) (by omega) (by omega)]; exact Y.hd
 ·rw [q1 2 (by omega) (by omega), ek 2 (by omega) (by omega) (by omega)]; exact Y.hc
 ·rw [q1 3 (by omega) (by omega), ek 3 (by omega) (by omega) (by omega)]; exact Y.hm
 ·rw [q4, e4]
  unfold pB
  have : zbc (k + 1) f = zbc (k + 1) (fun j => P2 (6 + 4 * j)) := by
   unfold zbc
   refine List.map_congr_left fun j hj => ?_
   have hj := List.mem_range.1 hj
   show pv (f j) 0 = pv (P2 (6 + 4 * j)) 0
   by_cases hjk : j = k
   ·subst hjk; rw [hfk, q6]
   ·rw [hf j (by omega), q1 _ (by omega) (by omega)]
  rw [this]
 ·rw [q1 5 (by omega) (by omega), ek 5 (by omega) (by omega) (by omega)]; exact Y.way
 ·intro j hj
  by_cases hjk : j = k
  ·subst hjk; rw [q6, q7, q8]; exact e2
  ·rw [q1 _ (by omega) (by omega), q1 _ (by omega) (by omega), q1 _ (by omega) (by omega), ek _ (by omega) (by omega) (by omega)]; exact Y.un j (by omega)
 ·intro j hj
  by_cases hjk : j = k
  ·subst hjk; rw [q7, q9]; exact e5
  ·rw [q1 _ (by omega) (by omega), q1 _ (by omega) (by omega), ek _ (by omega) (by omega) (by omega)]; exact Y.pn j (by omega)
 ·intro j hj
  by_cases hjk : j = k
  ·subst hjk; rw [q8]; exact e1
  ·rw [q1 _ (by omega) (by omega), ek _ (by omega) (by omega) (by omega)]; exact Y.ch j (by omega)
 ·intro j hj
  by_cases hjk : j = k
  ·subst hjk; rw [q9]
   obtain ⟨c, rw, e3⟩ := e3
   exact ⟨_, e3, ⟨c, rw, rfl⟩⟩
  ·rw [q1 _ (by omega) (by omega), ek _ (by omega) (by omega) (by omega)]; exact Y.wh j (by omega)
theorem back_nil {h h1 : List Blk} {ρ : Nat → Nat} : zd4 h [] h1 ρ = h ++ h1.map (za5 ρ) := by
 unfold zd4
 have : (h.mapIdx fun k b => match zeX k [] h1 with | some b' => za5 ρ b' | none => b) = h := by
  refine List.ext_getElem? fun k => ?_
  simp [List.getElem?_mapIdx, zeX]
 exact congrArg (· ++ h1.map (za5 ρ)) this
theorem set_new {h T : List Blk} {j : Nat} {b : Blk} : (h ++ T).set (h.length + j) b = h ++ T.set j b := by
 rw [List.set_append_right _ _ (Nat.le_add_right _ _), Nat.add_sub_cancel_left]
theorem pl_nodup {k : Nat} {ro : Option Nat} {x : HS} {us : Nat → US} {l : List Nt} {o : Gr} {pl : Nat → Nat} {h : List Blk} (Y : YH k ro x us l o pl h) {a b : Nat} (ha : a < 6 + 4 * k) (hb : b < 6 + 4 * k) (hab : a ≠ b) : pl a ≠ pl b := fun e => hab (Y.inj a b ha hb e)
theorem new_body {P : Program} (H : YCode P) {B : Nat} {Q : IExit → St → Prop} {k : Nat} {x : HS} {h : List Blk} {v a c : Value} (hk : k < 16) (hY : YHn k x h)
    (hQ : ∀ h' v27 v28 v29 v30 v31 v32, YHn (k + 1) x h' → h.length ≤ h'.length → Q .normal ⟨reg [(32, v32), (31, v31), (30, v30), (29, v29), (28, v28), (27, v27), (26, pv 0 1), (25, pv 0 0), (24, pv 0 0), (23, v), (22, a), (21, c), (8, pv 0 0)], h'⟩) :
    GC (Env P) B (.dreg [⟨(some 24), .mv (.t 8), none⟩, ⟨(some 25), .nilc (.t 24), none⟩, ⟨(some 26), .fad 1 (.t 25), none⟩, ⟨(some 27), .call "roundhouse/plane.New" [], none⟩, ⟨(some 28), .mkc 1, none⟩, ⟨(some 29), .bld [(1, .pointer none), (324, (.int .i64 0)), (6, (.int .u64 0)), (1, (.int .i64 0)), (1, (.chan none))] [(0, 1, (.t 27)), (332, 1, (.t 28))], none⟩, ⟨(some 30), .box (.t 29), none⟩, ⟨(some 31), .bsl [(1, .pointer none)] 1 1 [(0, 1, (.t 30))], none⟩, ⟨(some 32), .call "(*roundhouse/yard.row[*roundhouse/yard.unit]).put" [(.t 26), (.t 31)], none⟩] [[], [0], [1, 0], [], [], [3, 4], [5, 3, 4], [6, 5, 3, 4], [2, 1, 0, 7, 6, 5, 3, 4]]) Q ⟨reg [(23, v), (22, a), (21, c), (8, pv 0 0)], h⟩ := by
  obtain ⟨ro, pl, Y, hp⟩ := hY
  refine zbx (h ++ [.gone, .gone, .gone]) rfl (d_n 3 3 h.length [(26, pv 0 1), (25, pv 0 0), (24, pv 0 0)] (h ++ [.gone, .gone, .gone]) [] (by kernel_rfl) rfl rfl (d_callF [] [] [] (PNewC H.h_plane_New) rfl rfl (fun i k b1 e => by simp at e) (fun i j k b1 _ e => by simp at e) (fun y hy => by cases hy) ⟨_, _, ⟨rfl, rfl⟩, Nat.zero_le _, zbf [] [_]⟩ ?_))
  rintro v1 h1' ⟨rfl, rfl⟩
  refine ⟨qC, ?_⟩
  have hlen : (h ++ [Blk.gone, .gone, .gone]).length = h.length + 3 := by simp
  rw [back_nil, hlen, List.append_assoc]
  have e1 : zbF (rho [] (h.length + 3)) (pv 0 0) = pv (h.length + 3) 0 := rfl
  have e2 : [cw (zM zH false nr0 (.slice none 0 0))].map (za5 (rho [] (h.length + 3))) = [cw (zM zH false nr0 (.slice none 0 0))] := by
    simp only [List.map_cons, List.map_nil]; rw [zbo (w' := .slice none 0 0) rfl]
  rw [e1, e2]
  refine d_mkF (B := .chan 1 (([] : List Nt).map ntE)) (v := .chan (some h.length)) rfl rfl (zh7 0) ?_ ?_
  · intro y hy
    rcases List.mem_cons.1 hy with rfl | hy
    · refine .inl ⟨fun k hk => ?_, fun k _ => by simp, ?_, trivial⟩
      · simp [zc5] at hk
      · intro k hk; simp at hk; omega
    · cases hy
  rw [show (h ++ ([Blk.gone, .gone, .gone] ++ [cw (zM zH false nr0 (.slice none 0 0))])).set h.length (.chan 1 (([] : List Nt).map ntE)) = h ++ [.chan 1 (([] : List Nt).map ntE), .gone, .gone, cw (zM zH false nr0 (.slice none 0 0))] from set_new (j := 0)]
  refine d_s rfl rfl rfl (by kernel_rfl) (by refine zbZ (c := qD (h.length + 3) zH 0 h.length) ?_; exact bld_unit _ _) ?_
  refine d_mkF (B := cw (qD (h.length + 3) zH 0 h.length)) (v := pv (h.length + 1) 0) rfl rfl (zh7 1) (fun y hy => .inr ?_) ?_
  · rcases List.mem_cons.1 hy with rfl | hy
    · rfl
    · rcases List.mem_cons.1 hy with rfl | hy
      · rfl
      · cases hy
  rw [set_new (j := 1)]
  refine d_mkF (B := cw [pv (h.length + 1) 0]) (v := sv (h.length + 2) 0 1 1) rfl rfl (zh7 2) (fun y hy => .inr ?_) ?_
  · rcases List.mem_cons.1 hy with rfl | hy
    · rfl
    · rcases List.mem_cons.1 hy with rfl | hy
      · rfl
      · rcases List.mem_cons.1 hy with rfl | hy
        · rfl
        · cases hy
  rw [set_new (j := 2)]
  show GD _ _ _ _ _ _ _ ⟨_, h ++ [.chan 1 (([] : List Nt).map ntE), cw (qD (h.length + 3) zH 0 h.length), cw [pv (h.length + 1) 0], cw (zM zH false nr0 (.slice none 0 0))]⟩
  generalize hh5 : h ++ [.chan 1 (([] : List Nt).map ntE), cw (qD (h.length + 3) zH 0 h.length), cw [pv (h.length + 1) 0], cw (zM zH false nr0 (.slice none 0 0))] = h5
  have n0_ : h5[h.length]? = some (.chan 1 (([] : List Nt).map ntE)) := by rw [← hh5]; exact zh7 0
  have n1_ : h5[h.length + 1]? = some (cw (qD (h.length + 3) zH 0 h.length)) := by rw [← hh5]; exact zh7 1
  have n2_ : h5[h.length + 2]? = some (cw [pv (h.length + 1) 0]) := by rw [← hh5]; exact zh7 2
  have n3_ : h5[h.length + 3]? = some (cw (zM zH false nr0 (.slice none 0 0))) := by rw [← hh5]; exact zh7 3
  have Y5 : YH k ro x (fun _ => u00) [] none pl h5 := hh5 ▸ Y.more _
  have hl5 : h5.length = h.length + 4 := by rw [← hh5]; simp
  have hlt : ∀ a, a < 6 + 4 * k → pl a < h.length := fun a ha => Y.lt ha
  -- the callee's zh6: 0 the yard, 1 the row, 2 the new pointer, 3 the head, 4 + j the units
  let sel : List Nat := [pl 0, pl 4, h.length + 2, pl 1] ++ (List.range (k + 1)).map fun j => if j < k then pl (6 + 4 * j) else h.length + 1
  have hsl : sel.length = 4 + (k + 1) := by simp [sel]; omega
  have hs4 : ∀ j, j < k + 1 → sel[4 + j]? = some (if j < k then pl (6 + 4 * j) else h.length + 1) := fun j hj => by
    show ([pl 0, pl 4, h.length + 2, pl 1] ++ (List.range (k + 1)).map fun j => if j < k then pl (6 + 4 * j) else h.length + 1)[4 + j]? = _
    rw [List.getElem?_append_right (by simp)]
    simp [hj]
  have hsi : ∀ (t q : Nat), sel[t]? = some q → (t = 0 ∧ q = pl 0) ∨ (t = 1 ∧ q = pl 4) ∨ (t = 2 ∧ q = h.length + 2) ∨ (t = 3 ∧ q = pl 1) ∨ ∃ j, j < k + 1 ∧ t = 4 + j ∧ q = if j < k then pl (6 + 4 * j) else h.length + 1 := fun t q e => by
    rcases Nat.lt_or_ge t 4 with h4 | h4
    · match t, h4 with
      | 0, _ => exact .inl ⟨rfl, (Option.some.inj e).symm⟩
      | 1, _ => exact .inr (.inl ⟨rfl, (Option.some.inj e).symm⟩)
      | 2, _ => exact .inr (.inr (.inl ⟨rfl, (Option.some.inj e).symm⟩))
      | 3, _ => exact .inr (.inr (.inr (.inl ⟨rfl, (Option.some.inj e).symm⟩)))
    · obtain ⟨j, rfl⟩ : ∃ j, t = 4 + j := ⟨t - 4, by omega⟩
      have hj : j < k + 1 := by have := zL e; omega
      rw [hs4 j hj] at e
      exact .inr (.inr (.inr (.inr ⟨j, hj, rfl, (Option.some.inj e).symm⟩)))
  have hinj : ∀ (t t' q : Nat), sel[t]? = some q → sel[t']? = some q → t = t' := fun t t' q e1 e2 => by
    have nd := fun a b ha hb hab => pl_nodup Y (a := a) (b := b) ha hb hab
    have l0 := hlt 0 (by omega)
    have l1 := hlt 1 (by omega)
    have l4 := hlt 4 (by omega)
    rcases hsi t q e1 with ⟨a1, a2⟩ | ⟨a1, a2⟩ | ⟨a1, a2⟩ | ⟨a1, a2⟩ | ⟨j, hj, a1, a2⟩ <;> rcases hsi t' q e2 with ⟨b1, b2⟩ | ⟨b1, b2⟩ | ⟨b1, b2⟩ | ⟨b1, b2⟩ | ⟨j', hj', b1, b2⟩
    all_goals first
      | omega
      | exact absurd (a2.symm.trans b2) (nd _ _ (by omega) (by omega) (by omega))
      | skip
    all_goals first
      | (split at a2
         · have := hlt (6 + 4 * j) (by omega)
           first | omega | exact absurd (a2.symm.trans b2) (nd _ _ (by omega) (by omega) (by omega))
         · omega)
      | (split at b2
         · have := hlt (6 + 4 * j') (by omega)
           first | omega | exact absurd (a2.symm.trans b2) (nd _ _ (by omega) (by omega) (by omega))
         · omega)
      | skip
    split at a2 <;> split at b2
    · by_cases hjj : j = j'
      · omega
      · exact absurd (a2.symm.trans b2) (nd _ _ (by omega) (by omega) (by omega))
    · have := hlt (6 + 4 * j) (by omega); omega
    · have := hlt (6 + 4 * j') (by omega); omega
    · omega
  have hρ : ∀ (t q : Nat), sel[t]? = some q → rho sel h5.length t = q := fun t q e => zdp e
  have hptr : ∀ j, j < k + 1 → rho sel h5.length (4 + j) = if j < k then pl (6 + 4 * j) else h.length + 1 := fun j hj => hρ _ _ (hs4 j hj)
  have hpk : rho sel h5.length (4 + k) = h.length + 1 := by rw [hptr k (by omega), if_neg (by omega)]
  refine d_callF sel ([cw [pv 3 0, slV 1 k ro, .slice none 0 0], pB k (fun j => 4 + j) ro, cw [pv (4 + k) 0], cr []] ++ List.replicate (k + 1) (cr [])) [pv 0 1, sv 2 0 1 1] (putUC H.h_yard_row_yard_unit_put k (by omega) (fun j => 4 + j) ro Y.ro0 (.slice none 0 0) _) ?_ ?_ ?_ (fun t t' q b1 htt e1 e2 _ => absurd (hinj t t' q e1 e2) htt) (fun y hy => .inr ?_) ?_ ?_
  · rw [hsl]; simp; omega
  · refine zaz ?_ (zaz ?_ rfl)
    · show pv (rho sel h5.length 0) 1 = pv 0 1
      rw [hρ 0 (pl 0) rfl, hp]
    · show sv (rho sel h5.length 2) 0 1 1 = sv (h.length + 2) 0 1 1
      rw [hρ 2 (h.length + 2) rfl]
  · intro t q b1 e1 e2
    rcases hsi t q e1 with ⟨rfl, rfl⟩ | ⟨rfl, rfl⟩ | ⟨rfl, rfl⟩ | ⟨rfl, rfl⟩ | ⟨j, hj, rfl, rfl⟩
    · cases e2
      refine ⟨_, Y5.y, .inl (.inl ?_)⟩
      show Blk.seen (za5 _ (.cells (z8 3 (slV 1 k ro) (.slice none 0 0)) true)) _
      exact zaA (hρ 3 (pl 1) rfl) (qY ro (hρ 1 (pl 4) rfl)) rfl (fun q => q)
    · cases e2
      refine ⟨_, Y5.ur, .inl ?_⟩
      unfold pB
      cases ro with
      | none => exact .inr ⟨rfl, rfl⟩
      | some m =>
        refine .inl ?_
        show Blk.seen (za5 _ (.cells (zbc k (fun j => 4 + j) ++ zbq m) true)) (.cells (zbc k (fun j => pl (6 + 4 * j)) ++ zbq m) true)
        rw [zgb fun j hj => (hptr j (by omega)).trans (if_pos hj)]; exact ⟨rfl, fun q => q⟩
    · cases e2
      refine ⟨_, n2_, .inl (.inl ⟨?_, fun q => q⟩)⟩
      show [pv (rho sel h5.length (4 + k)) 0] = _
      rw [hpk]
    · cases e2; exact ⟨_, Y5.hd, zJ⟩
    · have : ([cw [pv 3 0, slV 1 k ro, .slice none 0 0], pB k (fun j => 4 + j) ro, cw [pv (4 + k) 0], cr []] ++ List.replicate (k + 1) (cr []))[4 + j]? = some (cr []) := by
        rw [List.getElem?_append_right (by simp)]
        exact List.getElem?_replicate_of_lt (by simp; omega)
      rw [this] at e2; cases e2
      split
      · rename_i hjk; exact ⟨_, Y5.un j hjk, zJ⟩
      · exact ⟨_, n1_, zJ⟩
  · rcases List.mem_cons.1 hy with rfl | hy
    · rfl
    · rcases List.mem_cons.1 hy with rfl | hy
      · rfl
      · rcases List.mem_cons.1 hy with rfl | hy
        · rfl
        · rcases List.mem_cons.1 hy with rfl | hy
          · rfl
          · cases hy
  · refine ⟨_, _, ⟨rfl, 0, .inr rfl⟩, by rw [hsl]; simp; omega, ?_⟩
    rw [List.append_assoc]
    exact zgk rfl (zbf ([_, _, _] ++ List.replicate (k + 1) (cr [])) [_])
  · rintro v1 h1' ⟨rfl, m, hw⟩
    have hat : ∀ (j : Nat) {A : List Blk}, A.length = 4 → (A ++ List.replicate (k + 1) (cr []))[4 + j]? = (List.replicate (k + 1) (cr []))[j]? := fun j A hA => by
      rw [List.getElem?_append_right (by omega), hA, Nat.add_sub_cancel_left]
    refine ⟨?_, ?_⟩
    · rcases hw with ⟨hs, rfl⟩ | rfl
      · refine zA qM (zA (fun hg => ?_) (zA qM (zA qM (fun i hi => hi))))
        cases ro with
        | none => cases hs
        | some z => cases hg
      · rw [List.append_assoc]
        refine zA qM (zA (fun hg => hg) (zA qM (zA qM (fun i hi => ?_))))
        have := zL hi
        simp at this
        show (List.replicate (k + 1) (cr []) ++ [pB (k + 1) (fun j => 4 + j) (some m)])[i]? = _
        rw [List.getElem?_append_left (by simp; omega)]; exact hi
    · refine zb2 ?_
      have hkeep : ∀ {h1' : List Blk}, (∀ (t : Nat) b, t ≠ 0 → t ≠ 1 → t ≠ 2 → t < 4 + (k + 1) → h1'[t]? = some b → b.rw = false) → ∀ a, a < 6 + 4 * k → a ≠ 0 → a ≠ 4 → (zd4 h5 sel h1' (rho sel h5.length))[pl a]? = h[pl a]? := fun {h1'} hro a ha h0 h4 => by
        rw [zdM (by have := hlt a ha; omega) fun t b e1 e2 => ?_]
        · rw [← hh5]; exact List.getElem?_append_left (hlt a ha)
        · have hlq := hlt a ha
          have htl : t < 4 + (k + 1) := by have := zL e1; omega
          refine hro t b ?_ ?_ ?_ htl e2
          · rintro rfl; exact pl_nodup Y ha (by omega) h0 (Option.some.inj e1).symm
          · rintro rfl; exact pl_nodup Y ha (by omega) h4 (Option.some.inj e1).symm
          · rintro rfl; have := Option.some.inj e1; omega
      have hkN : ∀ {h1' : List Blk} (q : Nat), (q = h.length ∨ q = h.length + 1 ∨ q = h.length + 3) → (∀ (t : Nat) b, t ≠ 0 → t ≠ 1 → t ≠ 2 → t < 4 + (k + 1) → h1'[t]? = some b → b.rw = false) → (zd4 h5 sel h1' (rho sel h5.length))[q]? = h5[q]? := fun {h1'} q hq hro => by
        refine zdM (by omega) fun t b e1 e2 => ?_
        have htl : t < 4 + (k + 1) := by have := zL e1; omega
        refine hro t b ?_ ?_ ?_ htl e2
        · rintro rfl; have := Option.some.inj e1; have := hlt 0 (by omega); omega
        · rintro rfl; have := Option.some.inj e1; have := hlt 4 (by omega); omega
        · rintro rfl; have := Option.some.inj e1; omega
      have hat2 : ∀ {h1' : List Blk} (t q : Nat) (b : Blk), sel[t]? = some q → h1'[t]? = some b → b.rw = true → (zd4 h5 sel h1' (rho sel h5.length))[q]? = some (za5 (rho sel h5.length) b) := fun {h1'} t q b e1 e2 hr => by
        refine zjg ?_ (fun j hj => hinj j t q hj e1) e1 e2 hr
        rcases hsi t q e1 with ⟨_, rfl⟩ | ⟨_, rfl⟩ | ⟨_, rfl⟩ | ⟨_, rfl⟩ | ⟨j, hj, _, rfl⟩
        · have := hlt 0 (by omega); omega
        · have := hlt 4 (by omega); omega
        · omega
        · have := hlt 1 (by omega); omega
        · split
          · have := hlt (6 + 4 * j) (by omega); omega
          · omega
      have hren : za5 (rho sel h5.length) (pB (k + 1) (fun j => 4 + j) (some m)) = pB (k + 1) (fun j => if j < k then pl (6 + 4 * j) else h.length + 1) (some m) := zgb fun j hj => hptr j hj
      have hrow : ∀ {h1' : List Blk}, h1'[2]? = some (cw [pv (4 + k) 0]) → ∃ c rw, (zd4 h5 sel h1' (rho sel h5.length))[h.length + 2]? = some (.cells c rw) := fun {h1'} e2 => ⟨_, _, hat2 2 _ _ rfl e2 rfl⟩
      rcases hw with ⟨hs, rfl⟩ | rfl
      · have hro : ∀ (t : Nat) b, t ≠ 0 → t ≠ 1 → t ≠ 2 → t < 4 + (k + 1) → ([cw [pv 3 0, slV 1 (k + 1) (some m), .slice none 0 0], pB (k + 1) (fun j => 4 + j) (some m), cw [pv (4 + k) 0], cr []] ++ List.replicate (k + 1) (cr []))[t]? = some b → b.rw = false := fun t b h0 h1 h2 ht e => by
          by_cases h3 : t = 3
          · subst h3; cases e; rfl
          · obtain ⟨j, rfl⟩ : ∃ j, t = 4 + j := ⟨t - 4, by omega⟩
            rw [hat j rfl, List.getElem?_replicate_of_lt (by omega)] at e
            cases e; rfl
        refine hQ _ _ _ _ _ _ _ (Y.grow hp (pl 4) m (fun j => if j < k then pl (6 + 4 * j) else h.length + 1) h.length rfl (fun j hj => if_pos hj) (if_neg (by omega)) (.inl rfl) ?_ ?_ (hkeep hro) ?_ ?_ (hrow rfl) ?_) (by have := zeH (h := h5) (sel := sel) (h1 := [cw [pv 3 0, slV 1 (k + 1) (some m), .slice none 0 0], pB (k + 1) (fun j => 4 + j) (some m), cw [pv (4 + k) 0], cr []] ++ List.replicate (k + 1) (cr [])) (ρ := rho sel h5.length); omega)
        · rw [hat2 0 (pl 0) _ rfl rfl rfl]
          exact congrArg some (zaF (kh := 3) (u := slV 1 (k + 1) (some m)) (w := .slice none 0 0) (hρ 3 (pl 1) rfl) (qY _ (hρ 1 (pl 4) rfl)) rfl)
        · rw [hat2 1 (pl 4) _ rfl rfl rfl, hren]
        · rw [hkN _ (.inl rfl) hro]; exact n0_
        · rw [hkN _ (.inr (.inl rfl)) hro]; exact n1_
        · rw [hkN _ (.inr (.inr rfl)) hro]; exact n3_
      · have hTl : (List.replicate (k + 1) (cr [])).length = k + 1 := by simp
        rw [hTl]
        have hro : ∀ (t : Nat) b, t ≠ 0 → t ≠ 1 → t ≠ 2 → t < 4 + (k + 1) → ([cw [pv 3 0, slV (4 + (k + 1)) (k + 1) (some m), .slice none 0 0], pB k (fun j => 4 + j) ro, cw [pv (4 + k) 0], cr []] ++ List.replicate (k + 1) (cr []) ++ [pB (k + 1) (fun j => 4 + j) (some m)])[t]? = some b → b.rw = false := fun t b h0 h1 h2 ht e => by
          rw [List.getElem?_append_left (by simp; omega)] at e
          by_cases h3 : t = 3
          · subst h3; cases e; rfl
          · obtain ⟨j, rfl⟩ : ∃ j, t = 4 + j := ⟨t - 4, by omega⟩
            rw [hat j rfl, List.getElem?_replicate_of_lt (by omega)] at e
            cases e; rfl
        have hρn : rho sel h5.length (4 + (k + 1)) = h.length + 4 := by rw [zhb (by omega), hsl, hl5]; omega
        refine hQ _ _ _ _ _ _ _ (Y.grow hp (h.length + 4) m (fun j => if j < k then pl (6 + 4 * j) else h.length + 1) h.length rfl (fun j hj => if_pos hj) (if_neg (by omega)) (.inr (Nat.le_refl _)) ?_ ?_ (hkeep hro) ?_ ?_ (hrow rfl) ?_) (by have := zeH (h := h5) (sel := sel) (h1 := [cw [pv 3 0, slV (4 + (k + 1)) (k + 1) (some m), .slice none 0 0], pB k (fun j => 4 + j) ro, cw [pv (4 + k) 0], cr []] ++ List.replicate (k + 1) (cr []) ++ [pB (k + 1) (fun j => 4 + j) (some m)]) (ρ := rho sel h5.length); omega)
        · rw [hat2 0 (pl 0) _ rfl rfl rfl]
          exact congrArg some (zaF (kh := 3) (u := slV (4 + (k + 1)) (k + 1) (some m)) (w := .slice none 0 0) (hρ 3 (pl 1) rfl) (qY _ hρn) rfl)
        · have := back_new (h := h5) (sel := sel) (h1 := [cw [pv 3 0, slV (4 + (k + 1)) (k + 1) (some m), .slice none 0 0], pB k (fun j => 4 + j) ro, cw [pv (4 + k) 0], cr []] ++ List.replicate (k + 1) (cr []) ++ [pB (k + 1) (fun j => 4 + j) (some m)]) (ρ := rho sel h5.length) 0
          rw [hsl, List.getElem?_append_right (by simp; omega)] at this
          rw [show h.length + 4 = h5.length + 0 by omega, this]
          have h0 : 4 + (k + 1) + 0 - ([cw [pv 3 0, slV (4 + (k + 1)) (k + 1) (some m), .slice none 0 0], pB k (fun j => 4 + j) ro, cw [pv (4 + k) 0], cr []] ++ List.replicate (k + 1) (cr [])).length = 0 := by simp; omega
          rw [h0]
          exact congrArg some hren
        · rw [hkN _ (.inl rfl) hro]; exact n0_
        · rw [hkN _ (.inr (.inl rfl)) hro]; exact n1_
        · rw [hkN _ (.inr (.inr rfl)) hro]; exact n3_
end Go.Rh

namespace Go.Rh
theorem HNew0C {P : Program} (hc : zed P) (p : qL) (units : Int) (hu : units < 1 ∨ 16 < units) :
  Env P "roundhouse/head.New" [qG p, iv units] ([]) (fun v h' => v = .tuple #[.pointer none, iv 14] ∧ h' = []) := by
 have h := HNewC hc p units
 have e : (fun (v : Value) (h' : List Blk) => if units < 1 ∨ 16 < units then v = .tuple #[.pointer none, iv 14] ∧ h' = [] else v = .tuple #[pv 0 0, iv 0] ∧ h' = [cw (zT p 1 2 e0 false), .chan 200 (([] : List Ent).map qR), .map (hdM (List.replicate units.toNat (0, -1)))]) = fun v h' => v = .tuple #[.pointer none, iv 14] ∧ h' = [] := by
  funext v h'; rw [if_pos hu]
 rw [e] at h; exact h
theorem HNew1C {P : Program} (hc : zed P) (p : qL) (units : Int) (hu : ¬ (units < 1 ∨ 16 < units)) :
  Env P "roundhouse/head.New" [qG p, iv units] ([]) (fun v h' => v = .tuple #[pv 0 0, iv 0] ∧ h' = [cw (zT p 1 2 e0 false), .chan 200 (([] : List Ent).map qR), .map (hdM (List.replicate units.toNat (0, -1)))]) := by
 have h := HNewC hc p units
 have e : (fun (v : Value) (h' : List Blk) => if units < 1 ∨ 16 < units then v = .tuple #[.pointer none, iv 14] ∧ h' = [] else v = .tuple #[pv 0 0, iv 0] ∧ h' = [cw (zT p 1 2 e0 false), .chan 200 (([] : List Ent).map qR), .map (hdM (List.replicate units.toNat (0, -1)))]) = fun v h' => v = .tuple #[pv 0 0, iv 0] ∧ h' = [cw (zT p 1 2 e0 false), .chan 200 (([] : List Ent).map qR), .map (hdM (List.replicate units.toNat (0, -1)))] := by
  funext v h'; rw [if_neg hu]
 rw [e] at h; exact h
theorem YHn.to {n : Nat} {p : qL} {h : List Blk} (h1 : 1 ≤ n) (h16 : n ≤ 16) (hY : YHn n (newHS p (n : Nat)) h) : YP (fun _ => True) 0 (nyS p n) h := by
 obtain ⟨ro, pl, Y, hp⟩ := hY
 cases ro with
 | none => have := Y.ro0 rfl; omega
 | some m => exact ⟨fun _ => none, ⟨fun j _ his => by simp [nyS] at his, ⟨m, none, pl, Y, hp, fun _ _ => trivial, h1, h16, fun _ _ => trivial⟩⟩⟩
theorem YNewC {P : Program} (H : YCode P) (p : qL) (units : Int) :
    Env P "roundhouse/yard.New" [qG p, iv units] ([]) (fun v h' => if units < 1 ∨ 16 < units then v = .tuple #[.pointer none, iv 14] ∧ h' = [] else v = .tuple #[pv 0 0, iv 0] ∧ YP (fun _ => True) 0 (nyS p units.toNat) h') := by
 refine Env.by2 H.h_yard_New ?_
 unfold zhS
 show GC _ 0 _ _ ⟨reg [(0, qG p), (1, iv units)], []⟩
 refine zR (zV (o_b 3 [(5, iv 0), (4, .pointer none), (2, pv 0 0)] [cw (pl p)] (by kernel_rfl) (zG (zC (zR (zV (o_s (by refine z4 (v := qG p) rfl rfl ?_; exact zal p) ?_)))))))
 refine o_d 1 [(11, iv units)] (by kernel_rfl) ?_
 by_cases hu : units < 1 ∨ 16 < units
 · refine zcc (zdn [] [] [qG p, iv units] (HNew0C H.h_head_New p units hu) rfl (zaz (qN (zaG p)) (zaz rfl rfl)) trivial (by decide) ?_)
   rintro v1 h1' ⟨rfl, rfl⟩
   refine ⟨qC, .tuple #[.pointer none, iv 14], [cw (pl p)], [], (qN rfl), ⟨rfl, trivial⟩, trivial, ?_⟩
   refine o_d 5 [(7, iv 14), (6, .pointer none), (14, iv 14), (13, .pointer none), (9, .tuple #[.pointer none, iv 14])] (by kernel_rfl) (zG (zC (zR (zR (zV (o_d 2 [(16, bv true), (15, iv 14)] (by kernel_rfl) (zG (zC (zer rfl (zR (zV (o_d 3 [(5, iv 14), (4, .pointer none), (17, iv 14)] (by kernel_rfl) ?_))))))))))))
   exact zG (zC (zaZ (⟨trivial, ⟨reg [(4, .pointer none), (5, iv 14)], []⟩, Wk.ren [] rfl rfl (by decide) ⟨rfl, ⟨rfl, trivial⟩⟩ trivial, [.pointer none, iv 14], (qE rfl (qE rfl rfl)), (zU rfl (zU rfl qA)), by rw [if_pos hu]; exact ⟨rfl, rfl⟩⟩)))
 refine zcc (zdn [] [] [qG p, iv units] (HNew1C H.h_head_New p units hu) rfl (zaz (qN (zaG p)) (zaz rfl rfl)) trivial (by decide) ?_)
 rintro v1 h1' ⟨rfl, rfl⟩
 refine ⟨qC, .tuple #[pv 1 0, iv 0], [cw (pl p)], [cw (zT p 2 3 e0 false), .chan 200 (([] : List Ent).map qR), .map (hdM (List.replicate units.toNat (0, -1)))], ((zgc _).trans rfl), ⟨rfl, trivial⟩, ⟨(Option.some.inj (qB rfl rfl)).symm, ⟨(Option.some.inj (congrArg some (zX _).symm)).symm, ⟨(Option.some.inj (congrArg some (qI _).symm)).symm, trivial⟩⟩⟩, ?_⟩
 refine o_d 5 [(7, iv 0), (6, pv 1 0), (14, iv 0), (13, pv 1 0), (9, .tuple #[pv 1 0, iv 0])] (by kernel_rfl) (zG (zC (zR (zR (zV (o_d 2 [(16, bv false), (15, iv 0)] (by kernel_rfl) (zG (zC (zbW rfl (zaq (zC (zR ?_))))))))))))
 refine zV (o_b 4 [(8, pv 4 0), (20, pv 4 0), (19, .agg #[pv 1 0, .slice none 0 0, .slice none 0 0]), (18, pv 1 0)] [cw (pl p), cw (zT p 2 3 e0 false), .chan 200 (([] : List Ent).map qR), .map (hdM (List.replicate units.toNat (0, -1))), cw [pv 1 0, .slice none 0 0, .slice none 0 0]] (by kernel_rfl) (zG (zC (zR (zR (zV (o_d 2 [(22, iv 0), (21, iv units)] (by kernel_rfl) (zG ?_))))))))
 -- the yard first; a place for the row of units, one for the row of notes
 refine ⟨⟨reg [(22, iv 0), (21, iv units), (8, pv 0 0)], [cw (z8 1 (.slice none 0 0) (.slice none 0 0)), cw (zT p 2 3 e0 false), .chan 200 (([] : List Ent).map qR), .map (hdM (List.replicate units.toNat (0, -1))), .gone, .gone]⟩,
   Wk.ren [4, 1, 2, 3, 5, 6] rfl rfl (by decide) ⟨rfl, ⟨rfl, ⟨rfl, trivial⟩⟩⟩ ⟨.inl rfl, ⟨.inl (qB rfl rfl), ⟨.inl (congrArg some (zX _).symm), ⟨.inl (congrArg some (qI _).symm), ⟨.inr ⟨rfl, rfl⟩, ⟨.inr ⟨rfl, rfl⟩, trivial⟩⟩⟩⟩⟩⟩, ?_⟩
 refine zai (zdm (fun μ s => ∃ (k : Nat) (h : List Blk), μ = units.toNat - k ∧ (k : Int) ≤ units ∧ YHn k (newHS p units) h ∧ s = ⟨reg [(22, iv (k : Nat)), (21, iv units), (8, pv 0 0)], h⟩) ⟨units.toNat - 0, _, .inl rfl, 0, _, rfl, by omega, ⟨none, fun a => a, ⟨fun a b _ _ e => e, fun _ => rfl, rfl, rfl, rfl, rfl, rfl, rfl, rfl, fun j hj => by omega, fun j hj => by omega, fun j hj => by omega, fun j hj => by omega⟩, rfl⟩, rfl⟩ ?_)
 rintro μ s ⟨k, h, rfl, hk, hY, rfl⟩
 refine zR (zV (o_d 1 [(23, bv (decide ((k : Int) < units)))] (by kernel_rfl) (zG (zC (zR (zaj (t := decide ((k : Int) < units)) rfl (fun h1 => ?_) (fun h1 => ?_)))))))
 · have h1 := of_decide_eq_true h1
   refine zaq (zC (zR (zai (new_body H (by omega) hY (fun h' v27 v28 v29 v30 v31 v32 hY' hle => ?_)))))
   refine zC (zV (o_s (by refine zaf (v := .int .i64 (i64.wrap ((k : Nat) + 1))) (congrArg (Value.int .i64) (w64 (by omega) (by omega))) ?_; kernel_rfl) ?_))
   refine o_d 1 [(22, iv ((k : Int) + 1))] (by kernel_rfl) (zG ?_)
   obtain ⟨s0, hw, hs⟩ := z5 (B := 0) (K := fun s => s = ⟨reg [(22, iv ((k + 1 : Nat) : Int)), (21, iv units), (8, pv 0 0)], h'⟩) [(22, iv ((k + 1 : Nat) : Int)), (21, iv units), (8, pv 0 0)] (L := [(22, iv ((k : Int) + 1)), (33, iv ((k : Int) + 1)), (32, v32), (31, v31), (30, v30), (29, v29), (28, v28), (27, v27), (26, pv 0 1), (25, pv 0 0), (24, pv 0 0), (23, bv (decide ((k : Int) < units))), (22, iv (k : Nat)), (21, iv units), (8, pv 0 0)]) (h := h') rfl rfl (Nat.zero_le _)
   exact ⟨units.toNat - (k + 1), s0, by omega, hw, k + 1, h', rfl, by omega, hY', hs⟩
 · have h1 := of_decide_eq_false h1
   refine zcD ?_
   have hkn : k = units.toNat := by omega
   refine zC (zR (zV (o_d 3 [(5, iv 0), (4, pv 0 0), (34, pv 0 0)] (by kernel_rfl) (zG (zC (zaZ (⟨trivial, _, .inl rfl, [pv 0 0, iv 0], (qE rfl (qE rfl rfl)), (zU rfl (zU rfl qA)), ?_⟩)))))))
   rw [if_neg hu]
   refine ⟨rfl, ?_⟩
   subst hkn
   refine YHn.to (by omega) (by omega) ?_
   rw [show ((units.toNat : Nat) : Int) = units by omega]; exact hY
theorem YP.shift {F : Nat → Prop} {y : Nat} {s : YS} {T : List Blk} (hY : YP F y s T) (h : List Blk) : YP (fun k => h.length ≤ k) (h.length + y) s (h ++ T.map (za5 (rho [] h.length))) := by
 obtain ⟨q, hq, m, o, pl, Y, rfl, _, h1, h16, _⟩ := hY
 have hρ : ∀ i, rho [] h.length i = h.length + i := fun i => by rw [zhb (by simp)]; simp
 have at_ : ∀ (k : Nat) b, T[k]? = some b → (h ++ T.map (za5 (rho [] h.length)))[h.length + k]? = some (za5 (rho [] h.length) b) := fun k b e => by
  rw [zh7, List.getElem?_map, e]; rfl
 refine ⟨q, hq, m, o, fun a => h.length + pl a, ⟨fun a b ha hb e => Y.inj a b ha hb (by omega), (fun e => by cases e), ?_, ?_, ?_, ?_, ?_, ?_, Y.ok, fun j hj => ?_, fun j hj => ?_, fun j hj => ?_, fun j hj => ?_⟩, rfl, fun a _ => Nat.le_add_right _ _, h1, h16, fun k hk => by simp at hk; omega⟩
 ·rw [at_ _ _ Y.y]; exact congrArg some (zaF (hρ _) (qY _ (hρ _)) (zaa _ (hρ _)))
 ·rw [at_ _ _ Y.hd]; exact congrArg some (zcq (hρ _) (hρ _))
 ·rw [at_ _ _ Y.hc]; exact congrArg some (zX _)
 ·rw [at_ _ _ Y.hm]; exact congrArg some (qI _)
 ·rw [at_ _ _ Y.ur]; exact congrArg some (zgb fun j _ => hρ _)
 ·rw [at_ _ _ Y.way]; exact congrArg some (zab Y.ok)
 ·rw [at_ _ _ (Y.un j hj)]; exact congrArg some (zcF (hρ _) (hρ _))
 ·rw [at_ _ _ (Y.pn j hj)]; exact congrArg some (zbo (qY _ (hρ _)))
 ·rw [at_ _ _ (Y.ch j hj)]; exact congrArg some (zak _)
 ·obtain ⟨B, hB, hw⟩ := Y.wh j hj
  exact ⟨_, at_ _ _ hB, whB_ren hw⟩
theorem YNewK {P : Program} (H : YCode P) (p : qL) (units : Int) {K : zea} {h : List Blk}
  (h0 : units < 1 ∨ 16 < units → K (.tuple #[.pointer none, iv 14]) h)
  (h1 : ∀ T, ¬ (units < 1 ∨ 16 < units) → YP (fun k => h.length ≤ k) h.length (nyS p units.toNat) (h ++ T) → K (.tuple #[pv h.length 0, iv 0]) (h ++ T)) : zcV (Env P) "roundhouse/yard.New" [qG p, iv units] K h := by
 refine ⟨[], [], [qG p, iv units], _, YNewC H p units, rfl, zaz (qN (zaG p)) rfl, fun i k b1 e => by simp at e, fun i j k b1 _ e => by simp at e, fun v h1' hR _ _ => ⟨fun i hi => by simp at hi, ?_⟩⟩
 rw [back_nil]
 by_cases hu : units < 1 ∨ 16 < units
 ·rw [if_pos hu] at hR
  obtain ⟨rfl, rfl⟩ := hR
  rw [qN rfl]
  simpa using h0 hu
 ·rw [if_neg hu] at hR
  obtain ⟨rfl, hY⟩ := hR
  have := h1 _ hu (by have := hY.shift h; rwa [Nat.add_zero] at this)
  rwa [show zbF (rho [] h.length) (.tuple #[pv 0 0, iv 0]) = .tuple #[pv h.length 0, iv 0] from (zgc _).trans rfl]
end Go.Rh

namespace Go.Rh
theorem ex_eq {α : Type} (x : α) : ∃ y, y = x := ⟨x, rfl⟩
theorem FrY.split {L T h' : List Blk} {F : Nat → Prop} (hF : FrY F (L ++ T) h') (hl : ∀ k, k < L.length → ¬ F k) : ∃ T', h' = L ++ T' := by
 refine ⟨h'.drop L.length, List.ext_getElem? fun k => ?_⟩
 rcases Nat.lt_or_ge k L.length with h | h
 ·rw [hF.fr k (hl k h), List.getElem?_append_left h, List.getElem?_append_left h]
 ·rw [List.getElem?_append_right h, List.getElem?_drop]; congr 1; omega
theorem spl {L T : List Blk} {y : Nat} {S : YS} {K' : List Blk → Prop} {lo : Nat} (hlo : L.length = lo) (hk : ∀ T', YP (fun k => lo ≤ k) y S (L ++ T') → K' (L ++ T')) : ∀ h', YP (fun k => lo ≤ k) y S h' → FrY (fun k => lo ≤ k) (L ++ T) h' → K' h' := fun h' hY hF => by
 obtain ⟨T', rfl⟩ := hF.split (fun k hk => by omega)
 exact hk T' hY
def aloneB (anc : List (List Nat)) (i : Nat) : Bool := (List.range anc.length).all fun k => Nat.beq k i || !(unA anc i k)
theorem alone_of {anc : List (List Nat)} {i : Nat} (h : aloneB anc i = true) : ∀ k, k ≠ i → unA anc i k = false := by
  intro k hk
  rcases Nat.lt_or_ge k anc.length with hl | hl
  · have := List.all_eq_true.1 h k (List.mem_range.2 hl)
    simp only [Bool.or_eq_true, Nat.beq_eq, Bool.not_eq_true'] at this
    exact this.resolve_left hk
  · unfold unA
    have : Nat.blt k anc.length = false := by
      cases e : Nat.blt k anc.length with
      | false => rfl
      | true => have : k < anc.length := Nat.blt_eq ▸ e
                omega
    rw [this]; simp
theorem unA_symm (anc : List (List Nat)) (i j : Nat) : unA anc i j = unA anc j i := by
 unfold unA
 cases Nat.blt i anc.length <;> cases Nat.blt j anc.length <;> cases ((anc.getD i []).any (Nat.beq j)) <;> cases ((anc.getD j []).any (Nat.beq i)) <;> rfl
section
variable {C : zah} {anc : List (List Nat)} {K : St → Prop} {L : List (Nat × Value)} {h : List Blk} {i nid : Nat} {log : List Foot}
theorem d_clK {d : Nat} {g : String} {args : List Opd} {r : List ICell} (ha : aloneB anc i = true) (hlog : log.all (fun y => !(Nat.beq y.i i)) = true)
  (hc : zcV C g (args.map (evf (reg L))) (fun v h' => ∀ rd wr, GD C (unA anc) (i + 1) nid r (⟨i, rd, wr, some h.length⟩ :: log) K ⟨reg ((d, v) :: L), h'⟩) h) : GD C (unA anc) i nid (⟨some d, .call g args, none⟩ :: r) log K ⟨reg L, h⟩ := by
 obtain ⟨sel, h1, a1, R, e1, e2, e3, e4, e5, e6⟩ := hc
 refine ⟨⟨sel, h1, a1, R, e1, e2, e3, e4, e5, fun y hy => .inr ?_, fun ⟨k, hk, hu⟩ => ?_, fun v h1' a b c => ⟨(e6 v h1' a b c).1, ((e6 v h1' a b c).2 _ _).out⟩⟩⟩
 ·have := List.all_eq_true.1 hlog y hy
  rw [unA_symm]
  refine alone_of ha y.i ?_
  have h9 : Nat.beq y.i i = false := by simpa using this
  intro e; rw [e] at h9; simp at h9
 ·rw [alone_of ha k hk] at hu; cases hu
theorem d_clS {d : Nat} {g : String} {args : List Opd} {r : List ICell} {G : Nat → Prop} (hlog : ∀ y ∈ log, unA anc y.i i = false)
  (hc : CallF C g (args.map (evf (reg L))) h G True (fun v h' => ∀ rd wr, (∀ k ∈ wr, G k) → GD C (unA anc) (i + 1) nid r (⟨i, rd, wr, some h.length⟩ :: log) K ⟨reg ((d, v) :: L), h'⟩)) : GD C (unA anc) i nid (⟨some d, .call g args, none⟩ :: r) log K ⟨reg L, h⟩ := by
 obtain ⟨sel, h1, a1, R, e1, e2, e3, e4, e5, eG, eX, e6⟩ := hc
 refine ⟨⟨sel, h1, a1, R, e1, e2, e3, e4, e5, fun y hy => .inr (hlog y hy), fun _ => eX trivial, fun v h1' a b c => ⟨(e6 v h1' a b c).1, ((e6 v h1' a b c).2 _ _ ?_).out⟩⟩⟩
 have : ∀ (sel : List Nat) (h1 : List Blk), ∀ k ∈ zc5 sel h1, k ∈ sel := by
  intro sel
  induction sel with
  | nil => intro h1 k hk; cases h1 <;> simp [zc5] at hk
  | cons a l ih =>
   intro h1 k hk
   cases h1 with
   | nil => simp [zc5] at hk
   | cons b t =>
    simp only [zc5] at hk
    split at hk
    ·rcases List.mem_cons.1 hk with rfl | hk
     ·simp
     ·exact List.mem_cons_of_mem _ (ih t k hk)
    ·exact List.mem_cons_of_mem _ (ih t k hk)
 intro k hk
 obtain ⟨j, hj⟩ := List.mem_iff_getElem?.1 (this sel h1 k hk)
 exact eG j k hj
theorem zgl {x : Foot} (h : log.all (fun y => !(unA anc y.i x.i)) = true) : ∀ y ∈ log, unA anc y.i x.i = false := fun y hy => by
 have := List.all_eq_true.1 h y hy
 simpa using this
theorem d_ldF {d : Nat} {m : Option Nat} {x : Opd} {r : List ICell} {k o : Nat} {c : List Value} {rw : Bool} {v : Value} (hx : evf (reg L) x = .pointer (some ⟨k, o, none⟩)) (hh : hf h k = some (.cells c rw)) (hv : zaw m c o = some v)
  (hfit : fits (unA anc) ⟨i, [k], [], none⟩ log) (hk : GD C (unA anc) (i + 1) nid r (⟨i, [k], [], none⟩ :: log) K ⟨reg ((d, v) :: L), h⟩) : GD C (unA anc) i nid (⟨some d, .ld m x, none⟩ :: r) log K ⟨reg L, h⟩ := by
 refine ⟨?_⟩
 show zbm C (unA anc) ⟨i, nid, ⟨some d, .ld m x, none⟩⟩ log (fun log' s' => wpD C (unA anc) (zbN (i + 1) nid r) log' K s') ⟨reg L, h⟩
 refine (zbd (fun _ => rfl)).2 ⟨⟨i, [k], [], none⟩, ⟨zaD (reg L) (some d) v, h⟩, ?_, hfit, hk.out⟩
 have h1 : rdE (.ld m x) (evf (reg L)) = [k] := by simp [rdE, IOp.rdl, hx, zce]
 have h2 : zS (.ld m x) (evf (reg L)) (hf h) nid = some (v, .no) := by simp [zS, ldV, hx, hh, hv]
 simp [zjc, gJ, zck, h1, h2]
theorem fits_ld {k j n lo : Nat} {rd wr : List Nat} {log : List Foot} (hk : k < lo) (hw : ∀ k ∈ wr, lo ≤ k) (hn : k < n) (hr : fits (unA anc) ⟨i, [k], [], none⟩ log) : fits (unA anc) ⟨i, [k], [], none⟩ (⟨j, rd, wr, some n⟩ :: log) := by
 intro y hy
 rcases List.mem_cons.1 hy with rfl | hy
 ·refine .inl ⟨fun q hq => ⟨?_, by simp⟩, fun q hq => by simp at hq, fun q hq => ?_, trivial⟩
  ·simp only [List.mem_singleton]; have := hw q hq; omega
  ·simp at hq; omega
 ·exact hr y hy
end
section
variable {P : Program} {F : Nat → Prop} {y : Nat} {s : YS} {h : List Blk} {K : zea}
theorem YPoolF (H : YCode P) (hY : YP F y s h) (hK : ∀ h', YP F y s h' → FrY F h h' → K (qG s.x.p) h') : CallF (Env P) "(*roundhouse/yard.Yard).Pool" [pv y 0] h F True K := by
 obtain ⟨q, hq, hY⟩ := hY
 refine glueA0 (hX := True) (ex := []) (V := qG s.x.p) (x' := s.x) (l' := s.l) hY rfl (zaG _) (fun m o ho => ⟨_, YPoolC H.h_yard_Yard_Pool H.h_head_Head_Pool s.x.p s.x.w s.x.hd s.x.e s.x.s s.n m s.l o ho, ?_, fun _ => ⟨_, _, ⟨rfl, rfl⟩, Nat.le_refl 6, fun i b b' e1 e2 => ?_⟩⟩) (fun h' hT => hK h' (YP.of hq hT))
 ·rintro v h' ⟨rfl, rfl⟩
  exact ⟨rfl, o, gB s.l o, 5, [], ho, (fun z => by subst z; rfl), .inl ⟨rfl, rfl, rfl⟩, rfl⟩
 ·have e1' : (laA s.n m s.x 5 s.l o ++ [gB s.l o])[i]? = some b' := e2
  rw [e1'] at e1; cases e1; rfl
end
structure YOK (S : YS) : Prop where
  hd : S.x.hd.length = S.n
  n : 1 ≤ S.n ∧ S.n ≤ 16
  nok : NOK S
theorem notesTo_mem {x : HS} {n : Nat} {nt : Nt} (h : nt ∈ zb0 x n) : 0 ≤ nt.u ∧ nt.u < n ∧ nt.a = false := by
 unfold zb0 at h
 obtain ⟨i, hi, he⟩ := List.mem_filterMap.1 h
 have hi := List.mem_range.1 hi
 unfold zfG at he
 simp only at he
 split at he
 ·cases he
 ·split at he
  ·cases he; exact ⟨by simp only; omega, by simp only; omega, rfl⟩
  ·cases he; exact ⟨by simp only; omega, by simp only; omega, rfl⟩
theorem ok_tick {S : YS} (h : YOK S) : YOK (zaJ S) := by
 refine ⟨?_, h.n, fun nt hm ha => ?_⟩
 ·show (zam S.x).1.hd.length = _; rw [sendS_hd]; exact h.hd
 ·have hm : nt ∈ S.l ++ (zam S.x).2 := hm
  rcases List.mem_append.1 hm with hm | hm
  ·exact h.nok nt hm ha
  ·have := notesTo_mem (x := goS S.x) (n := (goS S.x).hd.length) hm
   rw [goS_hd, h.hd] at this
   exact ⟨this.1, this.2.1⟩
theorem tick_len {S : YS} (h : YOK S) : (zaJ S).l.length ≤ S.l.length + 16 := by
 show (S.l ++ (zam S.x).2).length ≤ _
 have := sendS_len (x := S.x)
 rw [h.hd] at this
 have := h.n
 simp; omega
theorem rest_mem {l : List Nt} {k : Int} {keep : Bool} {nt : Nt} (h : nt ∈ zem l k keep) : nt ∈ l := by
 unfold zem at h
 split at h
 ·exact h
 ·exact List.mem_of_mem_eraseIdx h
theorem rest_len {l : List Nt} {k : Int} {keep : Bool} : (zem l k keep).length ≤ l.length := by
 unfold zem; split
 ·exact Nat.le_refl _
 ·exact List.length_eraseIdx_le ..
theorem ok_dlv {S : YS} (h : YOK S) (k : Int) (keep : Bool) : YOK (zaV S k keep) := by
 unfold zaV
 split
 ·split
  ·refine ⟨?_, h.n, fun nt hm ha => h.nok nt (rest_mem hm) ha⟩
   show (zbR S.x.hd _).length = _; rw [heardS_len]; exact h.hd
  ·refine ⟨h.hd, h.n, fun nt hm ha => ?_⟩
   have hm : nt ∈ zem S.l k keep ++ [_] := hm
   rcases List.mem_append.1 hm with hm | hm
   ·exact h.nok nt (rest_mem hm) ha
   ·simp at hm; subst hm; cases ha
 ·exact h
theorem dlv_len (S : YS) (k : Int) (keep : Bool) : (zaV S k keep).l.length ≤ S.l.length + 1 := by
 have := rest_len (l := S.l) (k := k) (keep := keep)
 unfold zaV
 split
 ·split
  ·simp only; omega
  ·simp only [List.length_append, List.length_singleton]; omega
 ·omega
theorem ok_crash {S : YS} (h : YOK S) (u : Int) : YOK (zbr S u) := by
 unfold zbr
 split
 ·exact ⟨h.hd, h.n, fun nt hm ha => h.nok nt hm ha⟩
 ·exact h
theorem crash_l (S : YS) (u : Int) : (zbr S u).l = S.l := by unfold zbr; split <;> rfl
theorem crash_n (S : YS) (u : Int) : (zbr S u).n = S.n := by unfold zbr; split <;> rfl
theorem ok_nyS (p : qL) {n : Nat} (h1 : 1 ≤ n) (h2 : n ≤ 16) : YOK (nyS p n) := by
 refine ⟨?_, ⟨h1, h2⟩, fun nt hm => by cases hm⟩
 show (List.replicate ((n : Nat) : Int).toNat ((0 : Int), (-1 : Int))).length = n
 simp
def zes : Nat → YS → YS
 | 0, S => S
 | f + 1, S => if (atS S.l 0).2 = true then zes f (zaV S 0 false) else S
theorem dlv_none {S : YS} {k : Int} {keep : Bool} (h : (atS S.l k).2 = false) : zaV S k keep = S := by
 unfold zaV; rw [if_neg (by rw [h]; simp)]
theorem drain_stop {k : Nat} {S : YS} (h : (atS S.l 0).2 = false) : zes k S = zaV S 0 false := by
 rw [dlv_none h]
 cases k with
 | zero => rfl
 | succ k => simp only [zes]; rw [if_neg (by rw [h]; simp)]
theorem zfw {B m μ : Nat} {L : List (Nat × Value)} {h : List Blk} {K : St → Prop} (l : List (Nat × Value)) (hl : l.map (fun p => reg L p.1) = l.map (·.2)) (hm : m < μ) (hk : K ⟨reg l, h⟩) (hB : B ≤ h.length := by simp) : ∃ s0, m < μ ∧ Wk B ⟨reg L, h⟩ s0 ∧ K s0 := let ⟨s0, h1, h2⟩ := z5 l hl hk hB; ⟨s0, hm, h1, h2⟩
end Go.Rh

set_option maxHeartbeats 8000000
namespace Go.Rh
def zdF : IFunc := ⟨15, [.tmp 4], (.seq (.reg [kq 4 (.mv (ki 0))]) (.seq (.reg [km 6 0, km 7 1, kq 8 (.bin .rem (.t 6) (.t 7)), km 5 8]) (.seq (.seq (.reg [km 9 5, kq 10 (.bin .lss (.t 9) (ki 0))]) (.cond (.t 10) (.reg [km 11 5, km 12 1, kq 13 (.bin .add (.t 11) (.t 12)), km 5 13]) .skip)) (.seq (.reg [km 14 5, km 4 14]) .ret))))⟩
theorem within12C {P : Program} (hc : z6 P "roundhouse/roundhouselaw12.within" = some zdF) (x n : Int) (hn : n ≠ 0) :
    Env P "roundhouse/roundhouselaw12.within" [iv x, iv n] ([]) (Ans (.int .i64 (zF x n)) ([])) := by
 refine Env.by hc ?_
 unfold zdF
 show GC _ 0 _ _ ⟨reg [(0, iv x), (1, iv n)], []⟩
 refine zR (zV (o_d 1 [(4, iv 0)] (by kernel_rfl) (zG (zC (zR (zV (o_d 2 [(7, iv n), (6, iv x)] (by kernel_rfl) (o_s (by exact run_rem rfl rfl (by omega)) ?_))))))))
 refine o_d 1 [(5, iv (x.tmod n))] (by kernel_rfl) (zG (zC (zR (zR (zV (o_d 2 [(10, bv (decide (x.tmod n < 0))), (9, iv (x.tmod n))] (by kernel_rfl) (zG (zC (zaj (t := decide (x.tmod n < 0)) rfl (fun h1 => ?_) (fun h1 => ?_))))))))))
 ·skip
  have h1' : x.tmod n < 0 := of_decide_eq_true h1
  refine zV (o_d 4 [(5, iv (i64.wrap (x.tmod n + n))), (13, iv (i64.wrap (x.tmod n + n))), (12, iv n), (11, iv (x.tmod n))] (by kernel_rfl) (zG (zC (zR (zV (o_d 2 [(4, iv (i64.wrap (x.tmod n + n))), (14, iv (i64.wrap (x.tmod n + n)))] (by kernel_rfl) (zG (zC (zaZ ?_)))))))))
  have E0_ : zF x n = (i64.wrap (x.tmod n + n)) := by
   unfold zF; simp only [h1', if_true, if_false]
  exact qH [iv (i64.wrap (x.tmod n + n))] (qE rfl rfl) rfl (by rw [E0_]; rfl) rfl rfl
 have h1' : ¬ (x.tmod n < 0) := of_decide_eq_false h1
 refine zaq (zC (zR (zV (o_d 2 [(4, iv (x.tmod n)), (14, iv (x.tmod n))] (by kernel_rfl) (zG (zC (zaZ ?_)))))))
 have E0_ : zF x n = (x.tmod n) := by
  unfold zF; simp only [h1', if_true, if_false]
 exact qH [iv (x.tmod n)] (qE rfl rfl) rfl (by rw [E0_]; rfl) rfl rfl
end Go.Rh

set_option maxHeartbeats 8000000
namespace Go.Rh
def zd8 : IFunc := ⟨84, [.tmp 0], (.seq (.reg [kq 0 (.mv kF)]) (.seq (.reg [kq 12 (.bld [(2, (.int .u64 0))] []), kq 13 (.bld [(2, (.int .u64 0))] []), kq 14 (.call "roundhouse/roundhouseref6.New" [(ki 10), (ki 80), (.t 12), (.t 13)]), km 11 14, kq 15 (.ext 0 (.t 11)), kq 16 (.ext 1 (.t 11)), kq 1 (.new kA), ku (.st 330 (.t 1) (.t 15)), km 2 16]) (.seq (.reg [kq 18 (.ld (some 330) (.t 1)), kq 19 (.call "roundhouse/yard.New" [(.t 18), (ki 2)]), km 17 19, kq 20 (.ext 0 (.t 17)), kq 21 (.ext 1 (.t 17)), km 3 20, km 4 21]) (.seq (.seq (.reg [km 22 4, kq 23 (.bin .neq (.t 22) (ki 0)), km 24 23, kg 25 (.mv (.t 3)) 24 false, kg 26 (.eqn false .ptr (.t 25) (.c (.pointer none))) 24 false, kq 27 (.pick (.t 24) kT (.t 26))]) (.cond (.t 27) (.seq (.reg [kq 0 (.mv kF)]) .ret) .skip)) (.seq (.reg [km 28 3, kq 29 (.call "(*roundhouse/yard.Yard).Notes" [(.t 28)]), km 5 29]) (.seq (.reg [km 30 3, kq 31 (.call "(*roundhouse/yard.Yard).Tick" [(.t 30)]), km 6 31]) (.seq (.reg [km 32 3, kq 33 (.call "(*roundhouse/yard.Yard).Deliver" [(.t 32), (ki 0), kF]), km 34 3, kq 35 (.call "(*roundhouse/yard.Yard).Deliver" [(.t 34), (ki 0), kF]), km 7 33, km 8 35]) (.seq (.reg [km 37 3, kq 38 (.call "(*roundhouse/yard.Yard).Version" [(.t 37), (ki 1)]), km 36 38, kq 39 (.ext 0 (.t 36)), kq 40 (.ext 1 (.t 36)), km 9 39, km 10 40]) (.seq (.dreg [km 41 5, kq 42 (.bin .eql (.t 41) (ki 0)), km 43 42, kg 44 (.mv (.t 6)) 43 true, kg 45 (.bin .eql (.t 44) (ki 2)) 43 true, kq 46 (.pick (.t 43) (.t 45) kF), km 47 46, kg 48 (.mv (.t 7)) 47 true, kq 49 (.pick (.t 47) (.t 48) kF), km 50 49, kg 51 (.mv (.t 8)) 50 true, kq 52 (.pick (.t 50) (.t 51) kF), km 53 52, kg 54 (.mv (.t 3)) 53 true, kg 55 (.call "(*roundhouse/yard.Yard).Notes" [(.t 54)]) 53 true, kg 56 (.bin .eql (.t 55) (ki 2)) 53 true, kq 57 (.pick (.t 53) (.t 56) kF), km 58 57, kg 59 (.mv (.t 10)) 58 true, kq 60 (.pick (.t 58) (.t 59) kF), km 61 60, kg 62 (.mv (.t 9)) 61 true, kg 63 (.bin .eql (.t 62) (ki 0)) 61 true, kq 64 (.pick (.t 61) (.t 63) kF), km 65 64, kg 66 (.mv (.t 3)) 65 true, kg 67 (.call "(*roundhouse/yard.Yard).Deliver" [(.t 66), (ki 0), kF]) 65 true, kq 68 (.pick (.t 65) (.t 67) kF), km 69 68, kg 70 (.mv (.t 3)) 69 true, kg 71 (.call "(*roundhouse/yard.Yard).Lose" [(.t 70), (ki 0)]) 69 true, kq 72 (.pick (.t 69) (.t 71) kF), km 73 72, kg 74 (.mv (.t 3)) 73 true, kg 75 (.call "(*roundhouse/yard.Yard).Lose" [(.t 74), (ki 0)]) 73 true, kg 76 (.un .not (.t 75)) 73 true, kq 77 (.pick (.t 73) (.t 76) kF), km 78 77, kg 79 (.mv (.t 3)) 78 true, kg 80 (.call "(*roundhouse/yard.Yard).Pool" [(.t 79)]) 78 true, kg 81 (.ld (some 330) (.t 1)) 78 true, kg 82 (.eqa false [(330, .i)] (.t 80) (.t 81)) 78 true, kq 83 (.pick (.t 78) (.t 82) kF), km 0 83] [[], [0], [1, 0], [2, 1, 0], [3, 2, 1, 0], [2, 1, 0, 4, 3], [5, 2, 1, 0, 4, 3], [6, 5, 2, 1, 0, 4, 3], [6, 5, 2, 1, 0, 4, 3, 7], [8, 6, 5, 2, 1, 0, 4, 3, 7], [9, 8, 6, 5, 2, 1, 0, 4, 3, 7], [9, 8, 6, 5, 2, 1, 0, 4, 3, 7, 10], [11, 9, 8, 6, 5, 2, 1, 0, 4, 3, 7, 10], [12, 11, 9, 8, 6, 5, 2, 1, 0, 4, 3, 7, 10], [13, 12, 11, 9, 8, 6, 5, 2, 1, 0, 4, 3, 7, 10], [14, 13, 12, 11, 9, 8, 6, 5, 2, 1, 0, 4, 3, 7, 10], [12, 11, 9, 8, 6, 5, 2, 1, 0, 4, 3, 7, 10, 15, 14, 13], [16, 12, 11, 9, 8, 6, 5, 2, 1, 0, 4, 3, 7, 10, 15, 14, 13], [17, 16, 12, 11, 9, 8, 6, 5, 2, 1, 0, 4, 3, 7, 10, 15, 14, 13], [17, 16, 12, 11, 9, 8, 6, 5, 2, 1, 0, 4, 3, 7, 10, 15, 14, 13, 18], [19, 17, 16, 12, 11, 9, 8, 6, 5, 2, 1, 0, 4, 3, 7, 10, 15, 14, 13, 18], [20, 19, 17, 16, 12, 11, 9, 8, 6, 5, 2, 1, 0, 4, 3, 7, 10, 15, 14, 13, 18], [21, 20, 19, 17, 16, 12, 11, 9, 8, 6, 5, 2, 1, 0, 4, 3, 7, 10, 15, 14, 13, 18], [20, 19, 17, 16, 12, 11, 9, 8, 6, 5, 2, 1, 0, 4, 3, 7, 10, 15, 14, 13, 18, 22, 21], [23, 20, 19, 17, 16, 12, 11, 9, 8, 6, 5, 2, 1, 0, 4, 3, 7, 10, 15, 14, 13, 18, 22, 21], [24, 23, 20, 19, 17, 16, 12, 11, 9, 8, 6, 5, 2, 1, 0, 4, 3, 7, 10, 15, 14, 13, 18, 22, 21], [25, 24, 23, 20, 19, 17, 16, 12, 11, 9, 8, 6, 5, 2, 1, 0, 4, 3, 7, 10, 15, 14, 13, 18, 22, 21], [24, 23, 20, 19, 17, 16, 12, 11, 9, 8, 6, 5, 2, 1, 0, 4, 3, 7, 10, 15, 14, 13, 18, 22, 21, 26, 25], [27, 24, 23, 20, 19, 17, 16, 12, 11, 9, 8, 6, 5, 2, 1, 0, 4, 3, 7, 10, 15, 14, 13, 18, 22, 21, 26, 25], [28, 27, 24, 23, 20, 19, 17, 16, 12, 11, 9, 8, 6, 5, 2, 1, 0, 4, 3, 7, 10, 15, 14, 13, 18, 22, 21, 26, 25], [29, 28, 27, 24, 23, 20, 19, 17, 16, 12, 11, 9, 8, 6, 5, 2, 1, 0, 4, 3, 7, 10, 15, 14, 13, 18, 22, 21, 26, 25], [28, 27, 24, 23, 20, 19, 17, 16, 12, 11, 9, 8, 6, 5, 2, 1, 0, 4, 3, 7, 10, 15, 14, 13, 18, 22, 21, 26, 25, 30, 29], [31, 28, 27, 24, 23, 20, 19, 17, 16, 12, 11, 9, 8, 6, 5, 2, 1, 0, 4, 3, 7, 10, 15, 14, 13, 18, 22, 21, 26, 25, 30, 29], [32, 31, 28, 27, 24, 23, 20, 19, 17, 16, 12, 11, 9, 8, 6, 5, 2, 1, 0, 4, 3, 7, 10, 15, 14, 13, 18, 22, 21, 26, 25, 30, 29], [33, 32, 31, 28, 27, 24, 23, 20, 19, 17, 16, 12, 11, 9, 8, 6, 5, 2, 1, 0, 4, 3, 7, 10, 15, 14, 13, 18, 22, 21, 26, 25, 30, 29], [34, 33, 32, 31, 28, 27, 24, 23, 20, 19, 17, 16, 12, 11, 9, 8, 6, 5, 2, 1, 0, 4, 3, 7, 10, 15, 14, 13, 18, 22, 21, 26, 25, 30, 29], [32, 31, 28, 27, 24, 23, 20, 19, 17, 16, 12, 11, 9, 8, 6, 5, 2, 1, 0, 4, 3, 7, 10, 15, 14, 13, 18, 22, 21, 26, 25, 30, 29, 35, 34, 33], [36, 32, 31, 28, 27, 24, 23, 20, 19, 17, 16, 12, 11, 9, 8, 6, 5, 2, 1, 0, 4, 3, 7, 10, 15, 14, 13, 18, 22, 21, 26, 25, 30, 29, 35, 34, 33], [37, 36, 32, 31, 28, 27, 24, 23, 20, 19, 17, 16, 12, 11, 9, 8, 6, 5, 2, 1, 0, 4, 3, 7, 10, 15, 14, 13, 18, 22, 21, 26, 25, 30, 29, 35, 34, 33], [38, 37, 36, 32, 31, 28, 27, 24, 23, 20, 19, 17, 16, 12, 11, 9, 8, 6, 5, 2, 1, 0, 4, 3, 7, 10, 15, 14, 13, 18, 22, 21, 26, 25, 30, 29, 35, 34, 33], [37, 36, 32, 31, 28, 27, 24, 23, 20, 19, 17, 16, 12, 11, 9, 8, 6, 5, 2, 1, 0, 4, 3, 7, 10, 15, 14, 13, 18, 22, 21, 26, 25, 30, 29, 35, 34, 33], [39, 38, 37, 36, 32, 31, 28, 27, 24, 23, 20, 19, 17, 16, 12, 11, 9, 8, 6, 5, 2, 1, 0, 4, 3, 7, 10, 15, 14, 13, 18, 22, 21, 26, 25, 30, 29, 35, 34, 33, 40], [37, 36, 32, 31, 28, 27, 24, 23, 20, 19, 17, 16, 12, 11, 9, 8, 6, 5, 2, 1, 0, 4, 3, 7, 10, 15, 14, 13, 18, 22, 21, 26, 25, 30, 29, 35, 34, 33, 41, 39, 38, 40], [42, 37, 36, 32, 31, 28, 27, 24, 23, 20, 19, 17, 16, 12, 11, 9, 8, 6, 5, 2, 1, 0, 4, 3, 7, 10, 15, 14, 13, 18, 22, 21, 26, 25, 30, 29, 35, 34, 33, 41, 39, 38, 40]]) .ret)))))))))⟩
theorem known12C {P : Program} (hc : z6 P "roundhouse/roundhouselaw12.known" = some zd8) (h_ref6_New : zgg P) (h_ref6_out : zdw P) (h_ref5_Ring : zep P) (h_yard_Yard_Notes : zbz P) (h_yard_Yard_Pool : zcN P) (h_head_Head_Pool : zca P) (h_yard_Yard_Wish : zcL P) (h_head_Head_Wish : zb8 P) (h_head_Head_waiting : zbj P) (h_pool_All : zc2 P) (h_pool_Apply : zaU P) (h_pool_may : za3 P) (h_pool_held : zaT P) (h_pool_fits : za1 P) (h_pool_Check : zaO P) (h_pool_placed : zau P) (h_cookie_Next : zaC P) (h_yard_Yard_Tick : zcM P) (h_head_Head_Send : zb9 P) (h_head_Head_all : zbP P) (h_head_Head_publish : zbk P) (h_yard_row_head_Note_put : zaL P) (h_yard_Yard_Lose : zcO P) (h_yard_row_head_Note_at : zap P) (h_yard_row_head_Note_drop : zar P) (h_yard_Yard_Version : zb1 P) (h_yard_row_yard_unit_at : zae P) (h_plane_Plane_Version : zaB P) (h_yard_Yard_Crash : zcB P) (h_plane_Plane_Crash : zbD P) (h_yard_Yard_Deliver : zbB P) (h_head_Head_Heard : zbA P) (h_yard_unit_hear : zb7 P) (h_yard_unit_version : zbi P) (h_yard_unit_load : zbH P) (h_plane_Plane_Load : za9 P) (h_plane_maybe_api_Pool_lay : zad P) (h_wheel_Make : zbV P) (h_wheel_spun : zbw P) (h_sip_Words : zbC P) (h_sip_Of : zcP P) (h_sip_number_byte : zag P) (h_sip_state_take : zao P) (h_sip_state_rounds : qV P) (h_sip_state_round : qW P) (h_math_bits_RotateLeft64 : zY P) (h_head_New : zed P) (h_plane_New : zff P) (h_yard_New : zhK P) (h_yard_row_yard_unit_put : zbp P)  :
    Env P "roundhouse/roundhouselaw12.known" [] ([]) (Ans (.bool true) ([])) := by
 refine Env.by hc ?_
 unfold zd8
 show GC _ 0 _ _ ⟨reg [], []⟩
 have H : YCode P := ⟨h_yard_Yard_Notes, h_yard_Yard_Pool, h_head_Head_Pool, h_yard_Yard_Wish, h_head_Head_Wish, h_head_Head_waiting, h_pool_All, h_pool_Apply, h_pool_may, h_pool_held, h_pool_fits, h_pool_Check, h_pool_placed, h_cookie_Next, h_yard_Yard_Tick, h_head_Head_Send, h_head_Head_all, h_head_Head_publish, h_yard_row_head_Note_put, h_yard_Yard_Lose, h_yard_row_head_Note_at, h_yard_row_head_Note_drop, h_yard_Yard_Version, h_yard_row_yard_unit_at, h_plane_Plane_Version, h_yard_Yard_Crash, h_plane_Plane_Crash, h_yard_Yard_Deliver, h_head_Head_Heard, h_yard_unit_hear, h_yard_unit_version, h_yard_unit_load, h_plane_Plane_Load, h_plane_maybe_api_Pool_lay, h_wheel_Make, h_wheel_spun, h_sip_Words, h_sip_Of, h_sip_number_byte, h_sip_state_take, h_sip_state_rounds, h_sip_state_round, h_math_bits_RotateLeft64, h_head_New, h_plane_New, h_yard_New, h_yard_row_yard_unit_put⟩
 refine zR (zV (o_d 1 [(0, bv false)] (by kernel_rfl) (zG (zC (zR (zV (o_d 2 [(13, .agg #[uv 0, uv 0]), (12, .agg #[uv 0, uv 0])] (by kernel_rfl) (zcc (zc7 (refNewC h_ref6_New h_ref6_out h_ref5_Ring 10 80 0 0 0 0) rfl rfl (all_cons (qZ ((zax 10 80 0 0 0 0).1)) (all_cons rfl rfl)) (o_b 4 [(1, pv 0 0), (16, iv ((zax 10 80 0 0 0 0).2)), (15, qG ((zax 10 80 0 0 0 0).1)), (11, .tuple #[qG ((zax 10 80 0 0 0 0).1), iv ((zax 10 80 0 0 0 0).2)])] [cw (pl zH)] (by kernel_rfl) (zc1 (by refine qQ (c' := pl ((zax 10 80 0 0 0 0).1)) rfl rfl rfl ?_ ?_ ?_; exact zN _; exact zbU (by omega); exact qO zH ((zax 10 80 0 0 0 0).1)) ?_)))))))))))
 refine o_b 1 [(2, iv ((zax 10 80 0 0 0 0).2))] [cw (pl ((zax 10 80 0 0 0 0).1))] (by kernel_rfl) (zG (zC (zR (zV (o_s (by refine z4 (v := qG ((zax 10 80 0 0 0 0).1)) rfl rfl ?_; exact zal ((zax 10 80 0 0 0 0).1)) ?_)))))
 refine zcc (YNewK H ((zax 10 80 0 0 0 0).1) 2 (fun q => absurd q (by omega)) (fun T0 hu0 hY0q => ?_))
 have hY0 : YP (fun k => 1 ≤ k) 1 (nyS ((zax 10 80 0 0 0 0).1) 2) ([cw (pl ((zax 10 80 0 0 0 0).1))] ++ T0) := hY0q
 refine o_d 5 [(4, iv 0), (3, pv 1 0), (21, iv 0), (20, pv 1 0), (17, .tuple #[pv 1 0, iv 0])] (by kernel_rfl) (zG (zC (zR (zR (zV (o_d 6 [(27, bv false), (26, bv false), (25, pv 1 0), (24, bv false), (23, bv false), (22, iv 0)] (by kernel_rfl) (zG (zC (zbW rfl (zaq (zC (zR ?_))))))))))))
 refine zV (o_d 1 [(28, pv 1 0)] (by kernel_rfl) (zcc (YNotesK H hY0   (spl rfl fun T1 hY1q => ?_))))
 refine o_d 1 [(5, iv ((nyS ((zax 10 80 0 0 0 0).1) 2).l.length : Nat))] (by kernel_rfl) (zG (z5 [(5, iv ((nyS ((zax 10 80 0 0 0 0).1) 2).l.length : Nat)), (3, pv 1 0), (1, pv 0 0)] (by kernel_rfl) (zR (zV (o_d 1 [(30, pv 1 0)] (by kernel_rfl) (zcc (YTickK H hY1q (Nat.le_of_ble_eq_true (by kernel_rfl)) (Nat.le_of_ble_eq_true (by kernel_rfl))  (spl rfl fun T2 hY2q => ?_))))))))
 refine o_d 1 [(6, iv ((zaJ (nyS ((zax 10 80 0 0 0 0).1) 2)).l.length : Nat))] (by kernel_rfl) (zG (zC (zR (zV (o_d 1 [(32, pv 1 0)] (by kernel_rfl) (zcc (zhx H hY2q (Nat.le_of_ble_eq_true (by kernel_rfl)) (ok_tick (ok_nyS ((zax 10 80 0 0 0 0).1) (by decide) (by decide))).nok 0 false (spl rfl fun T3 hY3q => ?_))))))))
 refine o_d 1 [(34, pv 1 0)] (by kernel_rfl) (zcc (zhx H hY3q (Nat.le_of_ble_eq_true (by kernel_rfl)) (ok_dlv (ok_tick (ok_nyS ((zax 10 80 0 0 0 0).1) (by decide) (by decide))) _ _).nok 0 false (spl rfl fun T4 hY4q => ?_)))
 refine o_d 2 [(8, bv ((atS (zaV (zaJ (nyS ((zax 10 80 0 0 0 0).1) 2)) 0 false).l 0).2)), (7, bv ((atS (zaJ (nyS ((zax 10 80 0 0 0 0).1) 2)).l 0).2))] (by kernel_rfl) (zG (zC (zR (zV (o_d 1 [(37, pv 1 0)] (by kernel_rfl) (zcc (YVersionK H hY4q  1 (spl rfl fun T5 hY5q => ?_))))))))
 refine o_d 5 [(10, bv ((zeP (zaV (zaV (zaJ (nyS ((zax 10 80 0 0 0 0).1) 2)) 0 false) 0 false) 1).2)), (9, iv ((zeP (zaV (zaV (zaJ (nyS ((zax 10 80 0 0 0 0).1) 2)) 0 false) 0 false) 1).1)), (40, bv ((zeP (zaV (zaV (zaJ (nyS ((zax 10 80 0 0 0 0).1) 2)) 0 false) 0 false) 1).2)), (39, iv ((zeP (zaV (zaV (zaJ (nyS ((zax 10 80 0 0 0 0).1) 2)) 0 false) 0 false) 1).1)), (36, .tuple #[iv ((zeP (zaV (zaV (zaJ (nyS ((zax 10 80 0 0 0 0).1) 2)) 0 false) 0 false) 1).1), bv ((zeP (zaV (zaV (zaJ (nyS ((zax 10 80 0 0 0 0).1) 2)) 0 false) 0 false) 1).2)])] (by kernel_rfl) (zG (zC (zR (zbx ([cw (pl ((zax 10 80 0 0 0 0).1))] ++ T5) (List.append_nil _) (d_n 3 3 _ [(43, bv ((((nyS ((zax 10 80 0 0 0 0).1) 2).l.length : Nat) : Int) == 0)), (42, bv ((((nyS ((zax 10 80 0 0 0 0).1) 2).l.length : Nat) : Int) == 0)), (41, iv ((nyS ((zax 10 80 0 0 0 0).1) 2).l.length : Nat))] ([cw (pl ((zax 10 80 0 0 0 0).1))] ++ T5) [] (by kernel_rfl) rfl rfl (d_sp (b := (((nyS ((zax 10 80 0 0 0 0).1) 2).l.length : Nat) : Int) == 0) 43 rfl (fun k7 => ?_) (fun q => by rw [(by kernel_rfl : ((((nyS ((zax 10 80 0 0 0 0).1) 2).l.length : Nat) : Int) == 0) = true)] at q; cases q)))))))
 refine d_n 4 7 _ [(47, bv ((((zaJ (nyS ((zax 10 80 0 0 0 0).1) 2)).l.length : Nat) : Int) == 2)), (46, bv ((((zaJ (nyS ((zax 10 80 0 0 0 0).1) 2)).l.length : Nat) : Int) == 2)), (45, bv ((((zaJ (nyS ((zax 10 80 0 0 0 0).1) 2)).l.length : Nat) : Int) == 2)), (44, iv ((zaJ (nyS ((zax 10 80 0 0 0 0).1) 2)).l.length : Nat))] ([cw (pl ((zax 10 80 0 0 0 0).1))] ++ T5) [] (by kernel_rfl) rfl rfl (d_sp (b := (((zaJ (nyS ((zax 10 80 0 0 0 0).1) 2)).l.length : Nat) : Int) == 2) 47 rfl (fun k8 => ?_) (fun q => by rw [(by kernel_rfl : ((((zaJ (nyS ((zax 10 80 0 0 0 0).1) 2)).l.length : Nat) : Int) == 2) = true)] at q; cases q))
 refine d_n 3 10 _ [(50, bv ((atS (zaJ (nyS ((zax 10 80 0 0 0 0).1) 2)).l 0).2)), (49, bv ((atS (zaJ (nyS ((zax 10 80 0 0 0 0).1) 2)).l 0).2)), (48, bv ((atS (zaJ (nyS ((zax 10 80 0 0 0 0).1) 2)).l 0).2))] ([cw (pl ((zax 10 80 0 0 0 0).1))] ++ T5) [] (by kernel_rfl) rfl rfl (d_sp (b := (atS (zaJ (nyS ((zax 10 80 0 0 0 0).1) 2)).l 0).2) 50 rfl (fun k9 => ?_) (fun q => by rw [(by kernel_rfl : ((atS (zaJ (nyS ((zax 10 80 0 0 0 0).1) 2)).l 0).2) = true)] at q; cases q))
 refine d_n 3 13 _ [(53, bv ((atS (zaV (zaJ (nyS ((zax 10 80 0 0 0 0).1) 2)) 0 false).l 0).2)), (52, bv ((atS (zaV (zaJ (nyS ((zax 10 80 0 0 0 0).1) 2)) 0 false).l 0).2)), (51, bv ((atS (zaV (zaJ (nyS ((zax 10 80 0 0 0 0).1) 2)) 0 false).l 0).2))] ([cw (pl ((zax 10 80 0 0 0 0).1))] ++ T5) [] (by kernel_rfl) rfl rfl (d_sp (b := (atS (zaV (zaJ (nyS ((zax 10 80 0 0 0 0).1) 2)) 0 false).l 0).2) 53 rfl (fun k10 => ?_) (fun q => by rw [(by kernel_rfl : ((atS (zaV (zaJ (nyS ((zax 10 80 0 0 0 0).1) 2)) 0 false).l 0).2) = true)] at q; cases q))
 refine d_n 1 14 _ [(54, pv 1 0)] ([cw (pl ((zax 10 80 0 0 0 0).1))] ++ T5) [] (by kernel_rfl) rfl rfl (zet rfl (d_clK (by kernel_rfl) (by kernel_rfl) (YNotesK H hY5q   (spl rfl fun T10 hY10q => fun rd10 wr10 => ?_))))
 refine d_n 3 18 _ [(58, bv ((((zaV (zaV (zaJ (nyS ((zax 10 80 0 0 0 0).1) 2)) 0 false) 0 false).l.length : Nat) : Int) == 2)), (57, bv ((((zaV (zaV (zaJ (nyS ((zax 10 80 0 0 0 0).1) 2)) 0 false) 0 false).l.length : Nat) : Int) == 2)), (56, bv ((((zaV (zaV (zaJ (nyS ((zax 10 80 0 0 0 0).1) 2)) 0 false) 0 false).l.length : Nat) : Int) == 2))] ([cw (pl ((zax 10 80 0 0 0 0).1))] ++ T10) [⟨14, rd10, wr10, some ([cw (pl ((zax 10 80 0 0 0 0).1))] ++ T5).length⟩] (by kernel_rfl) rfl rfl (d_sp (b := (((zaV (zaV (zaJ (nyS ((zax 10 80 0 0 0 0).1) 2)) 0 false) 0 false).l.length : Nat) : Int) == 2) 58 rfl (fun k12 => ?_) (fun q => by rw [(by kernel_rfl : ((((zaV (zaV (zaJ (nyS ((zax 10 80 0 0 0 0).1) 2)) 0 false) 0 false).l.length : Nat) : Int) == 2) = true)] at q; cases q))
 refine d_n 3 21 _ [(61, bv ((zeP (zaV (zaV (zaJ (nyS ((zax 10 80 0 0 0 0).1) 2)) 0 false) 0 false) 1).2)), (60, bv ((zeP (zaV (zaV (zaJ (nyS ((zax 10 80 0 0 0 0).1) 2)) 0 false) 0 false) 1).2)), (59, bv ((zeP (zaV (zaV (zaJ (nyS ((zax 10 80 0 0 0 0).1) 2)) 0 false) 0 false) 1).2))] ([cw (pl ((zax 10 80 0 0 0 0).1))] ++ T10) [⟨14, rd10, wr10, some ([cw (pl ((zax 10 80 0 0 0 0).1))] ++ T5).length⟩] (by kernel_rfl) rfl rfl (d_sp (b := (zeP (zaV (zaV (zaJ (nyS ((zax 10 80 0 0 0 0).1) 2)) 0 false) 0 false) 1).2) 61 rfl (fun k13 => ?_) (fun q => by rw [(by kernel_rfl : ((zeP (zaV (zaV (zaJ (nyS ((zax 10 80 0 0 0 0).1) 2)) 0 false) 0 false) 1).2) = true)] at q; cases q))
 refine d_n 4 25 _ [(65, bv (((zeP (zaV (zaV (zaJ (nyS ((zax 10 80 0 0 0 0).1) 2)) 0 false) 0 false) 1).1) == 0)), (64, bv (((zeP (zaV (zaV (zaJ (nyS ((zax 10 80 0 0 0 0).1) 2)) 0 false) 0 false) 1).1) == 0)), (63, bv (((zeP (zaV (zaV (zaJ (nyS ((zax 10 80 0 0 0 0).1) 2)) 0 false) 0 false) 1).1) == 0)), (62, iv ((zeP (zaV (zaV (zaJ (nyS ((zax 10 80 0 0 0 0).1) 2)) 0 false) 0 false) 1).1))] ([cw (pl ((zax 10 80 0 0 0 0).1))] ++ T10) [⟨14, rd10, wr10, some ([cw (pl ((zax 10 80 0 0 0 0).1))] ++ T5).length⟩] (by kernel_rfl) rfl rfl (d_sp (b := ((zeP (zaV (zaV (zaJ (nyS ((zax 10 80 0 0 0 0).1) 2)) 0 false) 0 false) 1).1) == 0) 65 rfl (fun k14 => ?_) (fun q => by rw [(by kernel_rfl : (((zeP (zaV (zaV (zaJ (nyS ((zax 10 80 0 0 0 0).1) 2)) 0 false) 0 false) 1).1) == 0) = true)] at q; cases q))
 refine d_n 1 26 _ [(66, pv 1 0)] ([cw (pl ((zax 10 80 0 0 0 0).1))] ++ T10) [⟨14, rd10, wr10, some ([cw (pl ((zax 10 80 0 0 0 0).1))] ++ T5).length⟩] (by kernel_rfl) rfl rfl (zet rfl (d_clK (by kernel_rfl) (by kernel_rfl) (zhx H hY10q (Nat.le_of_ble_eq_true (by kernel_rfl)) (ok_dlv (ok_dlv (ok_tick (ok_nyS ((zax 10 80 0 0 0 0).1) (by decide) (by decide))) _ _) _ _).nok 0 false (spl rfl fun T14 hY14q => fun rd14 wr14 => ?_))))
 refine d_n 2 29 _ [(69, bv ((atS (zaV (zaV (zaJ (nyS ((zax 10 80 0 0 0 0).1) 2)) 0 false) 0 false).l 0).2)), (68, bv ((atS (zaV (zaV (zaJ (nyS ((zax 10 80 0 0 0 0).1) 2)) 0 false) 0 false).l 0).2))] ([cw (pl ((zax 10 80 0 0 0 0).1))] ++ T14) [⟨26, rd14, wr14, some ([cw (pl ((zax 10 80 0 0 0 0).1))] ++ T10).length⟩, ⟨14, rd10, wr10, some ([cw (pl ((zax 10 80 0 0 0 0).1))] ++ T5).length⟩] (by kernel_rfl) rfl rfl (d_sp (b := (atS (zaV (zaV (zaJ (nyS ((zax 10 80 0 0 0 0).1) 2)) 0 false) 0 false).l 0).2) 69 rfl (fun k16 => ?_) (fun q => by rw [(by kernel_rfl : ((atS (zaV (zaV (zaJ (nyS ((zax 10 80 0 0 0 0).1) 2)) 0 false) 0 false).l 0).2) = true)] at q; cases q))
 refine d_n 1 30 _ [(70, pv 1 0)] ([cw (pl ((zax 10 80 0 0 0 0).1))] ++ T14) [⟨26, rd14, wr14, some ([cw (pl ((zax 10 80 0 0 0 0).1))] ++ T10).length⟩, ⟨14, rd10, wr10, some ([cw (pl ((zax 10 80 0 0 0 0).1))] ++ T5).length⟩] (by kernel_rfl) rfl rfl (zet rfl (d_clK (by kernel_rfl) (by kernel_rfl) (YLoseK H hY14q (Nat.le_of_ble_eq_true (by kernel_rfl)) 0 (spl rfl fun T16 hY16q => fun rd16 wr16 => ?_))))
 refine d_n 2 33 _ [(73, bv ((atS (zaV (zaV (zaV (zaJ (nyS ((zax 10 80 0 0 0 0).1) 2)) 0 false) 0 false) 0 false).l 0).2)), (72, bv ((atS (zaV (zaV (zaV (zaJ (nyS ((zax 10 80 0 0 0 0).1) 2)) 0 false) 0 false) 0 false).l 0).2))] ([cw (pl ((zax 10 80 0 0 0 0).1))] ++ T16) [⟨30, rd16, wr16, some ([cw (pl ((zax 10 80 0 0 0 0).1))] ++ T14).length⟩, ⟨26, rd14, wr14, some ([cw (pl ((zax 10 80 0 0 0 0).1))] ++ T10).length⟩, ⟨14, rd10, wr10, some ([cw (pl ((zax 10 80 0 0 0 0).1))] ++ T5).length⟩] (by kernel_rfl) rfl rfl (d_sp (b := (atS (zaV (zaV (zaV (zaJ (nyS ((zax 10 80 0 0 0 0).1) 2)) 0 false) 0 false) 0 false).l 0).2) 73 rfl (fun k18 => ?_) (fun q => by rw [(by kernel_rfl : ((atS (zaV (zaV (zaV (zaJ (nyS ((zax 10 80 0 0 0 0).1) 2)) 0 false) 0 false) 0 false).l 0).2) = true)] at q; cases q))
 refine d_n 1 34 _ [(74, pv 1 0)] ([cw (pl ((zax 10 80 0 0 0 0).1))] ++ T16) [⟨30, rd16, wr16, some ([cw (pl ((zax 10 80 0 0 0 0).1))] ++ T14).length⟩, ⟨26, rd14, wr14, some ([cw (pl ((zax 10 80 0 0 0 0).1))] ++ T10).length⟩, ⟨14, rd10, wr10, some ([cw (pl ((zax 10 80 0 0 0 0).1))] ++ T5).length⟩] (by kernel_rfl) rfl rfl (zet rfl (d_clK (by kernel_rfl) (by kernel_rfl) (YLoseK H hY16q (Nat.le_of_ble_eq_true (by kernel_rfl)) 0 (spl rfl fun T18 hY18q => fun rd18 wr18 => ?_))))
 refine d_n 3 38 _ [(78, bv (!((atS (zdu (zaV (zaV (zaV (zaJ (nyS ((zax 10 80 0 0 0 0).1) 2)) 0 false) 0 false) 0 false) 0).l 0).2))), (77, bv (!((atS (zdu (zaV (zaV (zaV (zaJ (nyS ((zax 10 80 0 0 0 0).1) 2)) 0 false) 0 false) 0 false) 0).l 0).2))), (76, bv (!((atS (zdu (zaV (zaV (zaV (zaJ (nyS ((zax 10 80 0 0 0 0).1) 2)) 0 false) 0 false) 0 false) 0).l 0).2)))] ([cw (pl ((zax 10 80 0 0 0 0).1))] ++ T18) [⟨34, rd18, wr18, some ([cw (pl ((zax 10 80 0 0 0 0).1))] ++ T16).length⟩, ⟨30, rd16, wr16, some ([cw (pl ((zax 10 80 0 0 0 0).1))] ++ T14).length⟩, ⟨26, rd14, wr14, some ([cw (pl ((zax 10 80 0 0 0 0).1))] ++ T10).length⟩, ⟨14, rd10, wr10, some ([cw (pl ((zax 10 80 0 0 0 0).1))] ++ T5).length⟩] (by kernel_rfl) rfl rfl (d_sp (b := !((atS (zdu (zaV (zaV (zaV (zaJ (nyS ((zax 10 80 0 0 0 0).1) 2)) 0 false) 0 false) 0 false) 0).l 0).2)) 78 rfl (fun k20 => ?_) (fun q => by rw [(by kernel_rfl : (!((atS (zdu (zaV (zaV (zaV (zaJ (nyS ((zax 10 80 0 0 0 0).1) 2)) 0 false) 0 false) 0 false) 0).l 0).2)) = true)] at q; cases q))
 refine d_n 1 39 _ [(79, pv 1 0)] ([cw (pl ((zax 10 80 0 0 0 0).1))] ++ T18) [⟨34, rd18, wr18, some ([cw (pl ((zax 10 80 0 0 0 0).1))] ++ T16).length⟩, ⟨30, rd16, wr16, some ([cw (pl ((zax 10 80 0 0 0 0).1))] ++ T14).length⟩, ⟨26, rd14, wr14, some ([cw (pl ((zax 10 80 0 0 0 0).1))] ++ T10).length⟩, ⟨14, rd10, wr10, some ([cw (pl ((zax 10 80 0 0 0 0).1))] ++ T5).length⟩] (by kernel_rfl) rfl rfl (zet rfl (d_clS (zgl (x := ⟨39, [], [], none⟩) (by kernel_rfl)) (YPoolF H hY18q (spl rfl fun T20 hY20q => fun rd20 wr20 hw20 => ?_))))
 refine zet rfl (d_ldF (v := qG ((zax 10 80 0 0 0 0).1)) rfl rfl (zal ((zax 10 80 0 0 0 0).1)) (fits_ld (by decide) hw20 (by simp) (fun y hy => .inr (zgl (x := ⟨40, [], [], none⟩) (by kernel_rfl) y hy))) ?_)
 refine zet rfl (d_s rfl rfl rfl (by kernel_rfl) (by refine run_eqa (a := ⟨pl ((zdu (zdu (zaV (zaV (zaV (zaJ (nyS ((zax 10 80 0 0 0 0).1) 2)) 0 false) 0 false) 0 false) 0) 0).x.p)⟩) (b := ⟨pl ((zax 10 80 0 0 0 0).1)⟩) (r := eqP ((zdu (zdu (zaV (zaV (zaV (zaJ (nyS ((zax 10 80 0 0 0 0).1) 2)) 0 false) 0 false) 0 false) 0) 0).x.p) ((zax 10 80 0 0 0 0).1)) (R := eqP ((zdu (zdu (zaV (zaV (zaV (zaJ (nyS ((zax 10 80 0 0 0 0).1) 2)) 0 false) 0 false) 0 false) 0) 0).x.p) ((zax 10 80 0 0 0 0).1)) ?_ rfl; exact eqP_run ((zdu (zdu (zaV (zaV (zaV (zaJ (nyS ((zax 10 80 0 0 0 0).1) 2)) 0 false) 0 false) 0 false) 0) 0).x.p) ((zax 10 80 0 0 0 0).1) rfl rfl) ?_)
 refine d_n 2 44 _ [(0, bv (eqP ((zdu (zdu (zaV (zaV (zaV (zaJ (nyS ((zax 10 80 0 0 0 0).1) 2)) 0 false) 0 false) 0 false) 0) 0).x.p) ((zax 10 80 0 0 0 0).1))), (83, bv (eqP ((zdu (zdu (zaV (zaV (zaV (zaJ (nyS ((zax 10 80 0 0 0 0).1) 2)) 0 false) 0 false) 0 false) 0) 0).x.p) ((zax 10 80 0 0 0 0).1)))] ([cw (pl ((zax 10 80 0 0 0 0).1))] ++ T20) [⟨40, [0], [], none⟩, ⟨39, rd20, wr20, some ([cw (pl ((zax 10 80 0 0 0 0).1))] ++ T18).length⟩, ⟨34, rd18, wr18, some ([cw (pl ((zax 10 80 0 0 0 0).1))] ++ T16).length⟩, ⟨30, rd16, wr16, some ([cw (pl ((zax 10 80 0 0 0 0).1))] ++ T14).length⟩, ⟨26, rd14, wr14, some ([cw (pl ((zax 10 80 0 0 0 0).1))] ++ T10).length⟩, ⟨14, rd10, wr10, some ([cw (pl ((zax 10 80 0 0 0 0).1))] ++ T5).length⟩] (by kernel_rfl) rfl rfl (zb2 (z5 [(0, bv (eqP ((zdu (zdu (zaV (zaV (zaV (zaJ (nyS ((zax 10 80 0 0 0 0).1) 2)) 0 false) 0 false) 0 false) 0) 0).x.p) ((zax 10 80 0 0 0 0).1)))] (by kernel_rfl) (zaZ ?_)))
 have E0_ : (eqP ((zdu (zdu (zaV (zaV (zaV (zaJ (nyS ((zax 10 80 0 0 0 0).1) 2)) 0 false) 0 false) 0 false) 0) 0).x.p) ((zax 10 80 0 0 0 0).1)) = true := by
  kernel_rfl
 exact qH [bv (eqP ((zdu (zdu (zaV (zaV (zaV (zaJ (nyS ((zax 10 80 0 0 0 0).1) 2)) 0 false) 0 false) 0 false) 0) 0).x.p) ((zax 10 80 0 0 0 0).1))] (qE rfl rfl) rfl (by rw [E0_]; rfl) rfl rfl
end Go.Rh

set_option maxHeartbeats 8000000
namespace Go.Rh
end Go.Rh

namespace Go.Rh
theorem go_quiet {x : HS} (h : x.w = [] ∨ allW x.hd (x.p 0) = false) : goS x = x := by
 unfold goS
 rcases h with h | h
 ·split
  ·unfold zjY; rw [h]
  ·rfl
 ·rw [h]; rfl
theorem zhA {x : HS} (h : x.w = [] ∨ allW x.hd (x.p 0) = false) : zam x = (x, zb0 x x.hd.length) := by
 unfold zam; rw [go_quiet h]
theorem lk_at {hd : List (Int × Int)} {u : Nat} (h : u < hd.length) : lkS hd (u : Nat) = (hd.getD u (0, 0), true) := by
 unfold lkS; rw [if_pos ⟨by omega, by omega⟩]; rfl
theorem note_down {x : HS} {u : Nat} (hs : x.s = false) (h : (lkS x.hd (u : Nat)).1.2 < x.p 0) : zfG x u = some ⟨(u : Nat), (lkS x.hd (u : Nat)).1.1, x.p 0, true, false, e0, x.p⟩ := by
 unfold zfG
 simp only
 rw [if_neg (by omega), if_neg (by simp [hs])]
theorem note_has {x : HS} {u : Nat} (h : x.p 0 ≤ (lkS x.hd (u : Nat)).1.2) : zfG x u = none := by
 unfold zfG; simp only; rw [if_pos h]
theorem heard_in {hd : List (Int × Int)} {n : Nt} (h1 : n.a = true) (h2 : (lkS hd n.u).2 = true) (h3 : (lkS hd n.u).1.1 ≤ n.b) :
  zbR hd n = hd.set n.u.toNat (if n.b > (lkS hd n.u).1.1 ∨ mxS n.v > (lkS hd n.u).1.2 then (n.b, mxS n.v) else ((lkS hd n.u).1.1, (lkS hd n.u).1.2)) := by
 unfold zbR
 rw [if_neg (by simp [h1, h2]; omega)]
 split <;> rfl
theorem mx_pos {v : Int} (h : -1 ≤ v) : mxS v = v := by unfold mxS; split <;> omega
def rotE (a b : Int) : Ent := ⟨6, 0, 0, 0, 0, a, b⟩
def Rots (l : List Ent) : Prop := ∀ e ∈ l, ∃ a b, e = rotE a b
theorem Rots.nil : Rots [] := by intro e h; simp at h
theorem Rots.cons {a b : Int} {l : List Ent} (h : Rots l) : Rots (rotE a b :: l) := by
 intro e he
 rcases List.mem_cons.1 he with rfl | he
 ·exact ⟨_, _, rfl⟩
 ·exact h e he
theorem Rots.app {l m : List Ent} (h : Rots l) (h2 : Rots m) : Rots (l ++ m) := by
 intro e he
 rcases List.mem_append.1 he with he | he
 ·exact h e he
 ·exact h2 e he
theorem Rots.one (a b : Int) : Rots [rotE a b] := Rots.nil.cons
theorem allS_rot : ∀ {l : List Ent} (c : qL) (i : Nat), Rots l → (zaR c l i).2.2 = 0
 | [], _, _, _ => rfl
 | e :: l, c, i, h => by
  obtain ⟨a, b, rfl⟩ := h e (by simp)
  have := apply_rot c a b
  simp only [zaR, rotE, this]
  exact allS_rot _ _ fun e he => h e (by simp [he])
theorem wish_rot {x : HS} {l : List Ent} (h : Rots l) (hl : x.w.length + l.length ≤ 200) : zcj x l = (0, { x with w := x.w ++ l }) := ziC (by omega) (fun q => q (allS_rot _ _ h))
def zjw (p : qL) (u : Nat) (w : List Ent) : HS := ⟨p, w, List.replicate u (0, -1), e0, false⟩
theorem cold_new (p : qL) {u : Int} : newHS p u = zjw p u.toNat [] := rfl
theorem cold_lk {u k : Nat} (h : k < u) : lkS (List.replicate u ((0 : Int), (-1 : Int))) (k : Nat) = ((0, -1), true) := by
 rw [lk_at (by simpa using h), List.getD_eq_getElem?_getD, List.getElem?_replicate, if_pos h]; rfl
theorem cold_all {p : qL} (hp : 0 ≤ p 0) {u : Nat} (hu : 0 < u) : allW (List.replicate u (0, -1)) (p 0) = false := by
 obtain ⟨n, rfl⟩ : ∃ n, u = n + 1 := ⟨u - 1, by omega⟩
 simp [allW, List.replicate_succ]; omega
theorem zkd {p : qL} (hp : 0 ≤ p 0) {u : Nat} {w : List Ent} : ∀ {n : Nat}, n ≤ u → zb0 (zjw p u w) n = (List.range n).map fun i => ⟨(i : Nat), 0, p 0, true, false, e0, p⟩
 | 0, _ => rfl
 | n + 1, h => by
  have hk : lkS (zjw p u w).hd (n : Nat) = ((0, -1), true) := cold_lk (by omega)
  rw [zaN (note_down rfl (by rw [hk]; show (-1 : Int) < p 0; omega)), zkd hp (by omega), hk, List.range_succ, List.map_append]; rfl
theorem cold_send {p : qL} (hp : 0 ≤ p 0) {u : Nat} (hu : 0 < u) {w : List Ent} : zam (zjw p u w) = (zjw p u w, (List.range u).map fun i => ⟨(i : Nat), 0, p 0, true, false, e0, p⟩) := by
 rw [zhA (.inr (cold_all hp hu))]
 congr 1
 show zb0 (zjw p u w) (List.replicate u ((0 : Int), (-1 : Int))).length = _
 rw [List.length_replicate, zkd hp (Nat.le_refl u)]
theorem lk_of {hd : List (Int × Int)} {k : Nat} {x : Int × Int} (h : hd[k]? = some x) : lkS hd (k : Nat) = (x, true) := by
 rw [lk_at (zL h), List.getD_eq_getElem?_getD, h]; rfl
def hdk (v : Int) (u k : Nat) : List (Int × Int) := List.replicate k (0, v) ++ List.replicate (u - k) (0, -1)
end Go.Rh

namespace Go.Rh
def wn (p : qL) (u : Nat) : Nt := ⟨(u : Nat), 0, p 0, true, false, e0, p⟩
def an (p : qL) (u : Int) : Nt := ⟨u, 0, p 0, false, true, e0, zH⟩
def dn : UP := ⟨zH, false, 0, nr0⟩
def up1 (p : qL) : UP := ⟨p, true, 0, nr0⟩
theorem hear_w {p : qL} {u : Nat} (hp : 0 ≤ p 0) : zfq dn (wn p u) = up1 p := by
 have h : uhS zH false 0 (wn p u) = (p, true) := by
  unfold uhS
  rw [if_neg (by simp [wn]), if_pos ⟨rfl, by show qX zH false < p 0; simp [qX]; omega⟩]; rfl
 show (⟨(uhS zH false 0 (wn p u)).1, (uhS zH false 0 (wn p u)).2, 0, nr0⟩ : UP) = _
 rw [h]; rfl
theorem ack_w {p : qL} {u : Nat} {v : UP} (h : zfq v (wn p u) = up1 p) : zjG (wn p u).u v.b (uhS v.p v.is v.b (wn p u)) = zjG (u : Nat) v.b (p, true) := by
 have h1 : (uhS v.p v.is v.b (wn p u)) = (p, true) := by
  have e1 := congrArg UP.p h
  have e2 := congrArg UP.is h
  exact Prod.ext e1 e2
 rw [h1]; rfl
theorem atS_some {l : List Nt} {k : Nat} {x : Nt} (h : l[k]? = some x) : atS l (k : Nat) = (x, true) := by
 have hl := zL h
 unfold atS
 rw [if_pos ⟨by omega, by omega⟩]
 simp [List.getD_eq_getElem?_getD, h]
theorem ver_at {S : YS} {u : Nat} (h : u < S.n) : zeP S (u : Nat) = ((S.us u).p 0, (S.us u).is) := by
 unfold zeP inU
 rw [if_pos (decide_eq_true ⟨by omega, by omega⟩)]
 simp
end Go.Rh

namespace Go.Rh
theorem atS_snd (l : List Nt) (k : Int) : (atS l k).2 = decide (0 ≤ k ∧ k < l.length) := by
 unfold atS; by_cases h : 0 ≤ k ∧ k < (l.length : Int)
 ·rw [if_pos h, decide_eq_true h]
 ·rw [if_neg h, decide_eq_false h]
theorem zh9 {α β : Type} (f : α → β) : ∀ (l : List α) (k : Nat), (l.map f).eraseIdx k = (l.eraseIdx k).map f
 | [], _ => rfl
 | _ :: _, 0 => rfl
 | a :: l, k + 1 => by simp [zh9 f l k]
def upL (p : qL) (js : List Nat) : Nat → UP := fun j => if j ∈ js then up1 p else dn
structure LossI (p : qL) (U : Nat) (S : YS) (n : Int) (js : List Nat) : Prop where
  nd : js.Nodup
  lt : ∀ j ∈ js, j < U
  l : S.l = js.map (wn p)
  us : S.us = fun _ => dn
  sn : S.n = U
  n : n = js.length
theorem LossI.lose {p : qL} {U : Nat} {S : YS} {n k : Int} {js : List Nat} (h : LossI p U S n js) (hk : 0 ≤ k ∧ k < n) : LossI p U (zdu S k) (n - 1) (js.eraseIdx k.toNat) := by
 have hn := h.n
 have hlen : S.l.length = js.length := by rw [h.l]; simp
 refine ⟨h.nd.sublist (List.eraseIdx_sublist js _), fun j hj => h.lt j (List.mem_of_mem_eraseIdx hj), ?_, h.us, h.sn, ?_⟩
 ·show zgr S.l k = _
  unfold zgr
  rw [if_pos (by rw [atS_snd]; exact decide_eq_true (by omega)), h.l, zh9]
 ·rw [List.length_eraseIdx_of_lt (by omega)]; omega
theorem LossI.out {p : qL} {U : Nat} {S : YS} {n k : Int} {js : List Nat} (h : LossI p U S n js) (hk : ¬ (0 ≤ k ∧ k < n)) : LossI p U (zdu S k) n js := by
 have hn := h.n
 have hlen : S.l.length = js.length := by rw [h.l]; simp
 have e : zgr S.l k = S.l := by unfold zgr; rw [if_neg (by rw [atS_snd]; simp; omega)]
 refine ⟨h.nd, h.lt, ?_, h.us, h.sn, hn⟩
 show zgr S.l k = _
 rw [e, h.l]
theorem LossI.len {p : qL} {U : Nat} {S : YS} {n : Int} {js : List Nat} (h : LossI p U S n js) : (S.l.length : Int) = n := by rw [h.l, h.n]; simp
theorem LossI.at_ {p : qL} {U : Nat} {S : YS} {n : Int} {js : List Nat} (h : LossI p U S n js) (k : Int) : (atS S.l k).2 = decide (0 ≤ k ∧ k < n) := by rw [atS_snd, h.len]
theorem LossI.any {p : qL} {U : Nat} {S : YS} {n : Int} {js : List Nat} (h : LossI p U S n js) (k : Int) : ((zdu S k).l.length : Int) = if 0 ≤ k ∧ k < n then n - 1 else n := by
 by_cases hk : 0 ≤ k ∧ k < n
 ·rw [if_pos hk]; exact (h.lose hk).len
 ·rw [if_neg hk]; exact (h.out hk).len
structure DlvI (p : qL) (U : Nat) (js : List Nat) (m : Nat) (S : YS) : Prop where
  sn : S.n = U
  way : (m ≤ js.length ∧ S.l = (js.drop m).map (wn p) ++ (js.take m).map (fun (j : Nat) => an p (j : Int)) ∧ S.us = upL p (js.take m)) ∨ (js.length ≤ m ∧ m ≤ 2 * js.length ∧ S.l = (js.drop (m - js.length)).map (fun (j : Nat) => an p (j : Int)) ∧ S.us = upL p js)
theorem DlvI.more {p : qL} {U : Nat} {S : YS} {js : List Nat} {m : Nat} (h : DlvI p U js m S) : (atS S.l 0).2 = decide (m < 2 * js.length) := by
 have e : ((0 : Int) ≤ 0 ∧ (0 : Int) < S.l.length) ↔ m < 2 * js.length := by
  rcases h.way with ⟨h1, h2, _⟩ | ⟨h1, h3, h2, _⟩
  ·rw [h2]; simp; omega
  ·rw [h2]; simp; omega
 rw [atS_snd]; exact decide_eq_decide.2 e
theorem DlvI.lt {p : qL} {U : Nat} {S : YS} {js : List Nat} {m : Nat} (h : DlvI p U js m S) (hm : (atS S.l 0).2 = true) : m < 2 * js.length := by rw [h.more] at hm; exact of_decide_eq_true hm
end Go.Rh

namespace Go.Rh
def stepU (us : Nat → UP) (n : Nt) : Nat → UP := updU us n.u.toNat (zfq (us n.u.toNat) n)
def ackOf (v : UP) (n : Nt) : Nt := zjG n.u v.b (uhS v.p v.is v.b n)
theorem at0 {l : List Nt} {a : Nt} {r : List Nt} (h : l = a :: r) : atS l 0 = (a, true) := by subst h; exact atS_some (k := 0) rfl
theorem dlv_ack {S : YS} {a : Nt} {r : List Nt} (h : S.l = a :: r) (ha : a.a = true) : zaV S 0 false = { S with x := zfg S.x a, l := r } := by
 unfold zaV
 rw [at0 h, if_pos rfl, if_pos ha, h]; rfl
theorem dlv_note {S : YS} {a : Nt} {r : List Nt} (h : S.l = a :: r) (ha : a.a = false) : zaV S 0 false = { S with us := stepU S.us a, l := r ++ [ackOf (S.us a.u.toNat) a] } := by
 unfold zaV
 rw [at0 h, if_pos rfl, if_neg (by rw [ha]; simp), h]; rfl
theorem zkc {f : Nat} {S : YS} {a : Nt} {r : List Nt} (h : S.l = a :: r) : zes (f + 1) S = zes f (zaV S 0 false) := by
 simp only [zes]; rw [at0 h, if_pos rfl]
theorem zjb {S : YS} (h : S.l = []) : ∀ f, zes f S = S
 | 0 => rfl
 | f + 1 => by simp only [zes]; rw [h, if_neg (by simp [atS])]
theorem zhQ : ∀ (as rest : List Nt) (f : Nat) (S : YS), (∀ a ∈ as, a.a = true) → S.l = as ++ rest → zes (as.length + f) S = zes f { S with x := as.foldl zfg S.x, l := rest }
 | [], rest, f, S, _, h => by
  have e : S = { S with x := S.x, l := rest } := by cases S; simp only at h; rw [h]; rfl
  rw [List.length_nil, Nat.zero_add]; exact congrArg (zes f) e
 | a :: as, rest, f, S, ha, h => by
  rw [List.length_cons, show as.length + 1 + f = (as.length + f) + 1 by omega, zkc (a := a) (r := as ++ rest) h, dlv_ack (r := as ++ rest) h (ha a (by simp))]
  exact zhQ as rest f _ (fun b hb => ha b (by simp [hb])) rfl
theorem drain_ws (W : Nat → Nt) : ∀ (js : List Nat) (rest : List Nt) (f : Nat) (S : YS), (∀ j ∈ js, (W j).u = (j : Nat) ∧ (W j).a = false) → js.Nodup → S.l = js.map W ++ rest →
  zes (js.length + f) S = zes f { S with us := fun j => if j ∈ js then zfq (S.us j) (W j) else S.us j, l := rest ++ js.map (fun j => ackOf (S.us j) (W j)) }
 | [], rest, f, S, _, _, h => by
  have e : S = { S with us := fun j => if j ∈ ([] : List Nat) then zfq (S.us j) (W j) else S.us j, l := rest ++ ([] : List Nat).map (fun j => ackOf (S.us j) (W j)) } := by
   cases S; simp only at h; rw [h]; simp
  rw [List.length_nil, Nat.zero_add]; exact congrArg (zes f) e
 | k :: js, rest, f, S, hw, nd, h => by
  obtain ⟨hu, ha⟩ := hw k (by simp)
  have hkn : k ∉ js := (List.nodup_cons.1 nd).1
  have e0 : (W k).u.toNat = k := by rw [hu]; simp
  have hl : S.l = W k :: (js.map W ++ rest) := h
  rw [List.length_cons, show js.length + 1 + f = (js.length + f) + 1 by omega, zkc hl, dlv_note hl ha, drain_ws W js (rest ++ [ackOf (S.us (W k).u.toNat) (W k)]) f _ (fun j hj => hw j (by simp [hj])) (List.nodup_cons.1 nd).2 (by simp)]
  congr 1
  have hs : ∀ j, j ≠ k → stepU S.us (W k) j = S.us j := fun j hj => by unfold stepU updU; rw [e0, if_neg hj]
  refine congr (congrArg (YS.mk S.n S.x) ?_) ?_
  ·funext j
   by_cases hj : j ∈ js
   ·have hjk : j ≠ k := fun e => hkn (e ▸ hj)
    rw [if_pos hj, if_pos (by simp [hj])]
    show zfq (stepU S.us (W k) j) (W j) = _
    rw [hs j hjk]
   ·rw [if_neg hj]
    by_cases e : j = k
    ·subst e; rw [if_pos (by simp)]
     show stepU S.us (W j) j = _
     unfold stepU updU; rw [e0, if_pos rfl]
    ·rw [if_neg (by simp [e, hj])]; exact hs j e
  ·show rest ++ [_] ++ js.map _ = rest ++ (k :: js).map _
   rw [e0, List.append_assoc]
   congr 1
   show _ :: js.map _ = _ :: js.map _
   congr 1
   refine List.map_congr_left fun j hj => ?_
   show ackOf (stepU S.us (W k) j) (W j) = _
   rw [hs j (fun e => hkn (e ▸ hj))]
def ackT (T : Nat → Int × Int) (j : Nat) : Nt := ⟨(j : Nat), (T j).1, (T j).2, false, true, e0, zH⟩
def hdT (T : Nat → Int × Int) (n : Nat) : List (Int × Int) := (List.range n).map T
theorem zgL {T : Nat → Int × Int} {n j : Nat} (h : j < n) : (hdT T n)[j]? = some (T j) := by simp [hdT, h]
theorem hdT_set {T : Nat → Int × Int} {n m : Nat} {z : Int × Int} (h : m < n) : (hdT T n).set m z = hdT (fun j => if j = m then z else T j) n := by
 refine List.ext_getElem? fun k => ?_
 rw [List.getElem?_set]
 rcases Nat.lt_or_ge k n with hk | hk
 ·rw [zgL hk, zgL hk]
  by_cases e : m = k
  ·subst e; rw [if_pos rfl, if_pos (by simpa [hdT] using h), if_pos rfl]
  ·rw [if_neg e, if_neg (fun q => e q.symm)]
 ·have h1 : ∀ Y : Nat → Int × Int, (hdT Y n)[k]? = none := fun Y => List.getElem?_eq_none (by simpa [hdT] using hk)
  rw [h1, h1, if_neg (by omega)]
theorem heard_set {hd : List (Int × Int)} {j : Nat} {x : Int × Int} {b v : Int} {e : Ent} {p : qL} (h : hd[j]? = some x) (hv : -1 ≤ v) (hx : x.1 < b ∨ (x.1 = b ∧ x.2 ≤ v)) : zbR hd ⟨(j : Nat), b, v, false, true, e, p⟩ = hd.set j (b, v) := by
 have hl := lk_of h
 rw [heard_in rfl (congrArg Prod.snd hl) (by show (lkS hd (j : Nat)).1.1 ≤ b; rw [hl]; show x.1 ≤ b; rcases hx with h | h <;> omega)]
 show hd.set j (if b > (lkS hd (j : Nat)).1.1 ∨ mxS v > (lkS hd (j : Nat)).1.2 then (b, mxS v) else ((lkS hd (j : Nat)).1.1, (lkS hd (j : Nat)).1.2)) = _
 rw [hl, mx_pos hv]
 congr 1
 split
 ·rfl
 ·rename_i hn
  simp only at hn ⊢
  exact Prod.ext (by show x.1 = b; rcases hx with h | h <;> omega) (by show x.2 = v; rcases hx with h | h <;> omega)
theorem hear_all {T X : Nat → Int × Int} {n : Nat} (hT : ∀ j, j < n → -1 ≤ (T j).2) (hX : ∀ j, j < n → (X j).1 < (T j).1 ∨ ((X j).1 = (T j).1 ∧ (X j).2 ≤ (T j).2)) {x : HS} (hx : x.hd = hdT X n) :
  ((List.range n).map (ackT T)).foldl zfg x = { x with hd := hdT T n } := by
 have key : ∀ m, m ≤ n → ((List.range m).map (ackT T)).foldl zfg x = { x with hd := hdT (fun j => if j < m then T j else X j) n } := by
  intro m
  induction m with
  | zero => intro _; simp only [List.range_zero, List.map_nil, List.foldl_nil, Nat.not_lt_zero, if_false]; rw [← hx]
  | succ m ih =>
   intro hm
   rw [List.range_succ, List.map_append, List.foldl_append, ih (by omega)]
   show zfg { x with hd := hdT (fun j => if j < m then T j else X j) n } (ackT T m) = _
   have h1 : (hdT (fun j => if j < m then T j else X j) n)[m]? = some (X m) := by rw [zgL (by omega)]; simp
   have h2 := heard_set (e := e0) (p := zH) h1 (hT m (by omega)) (hX m (by omega))
   show ({ x with hd := zbR (hdT (fun j => if j < m then T j else X j) n) (ackT T m) } : HS) = _
   rw [show zbR (hdT (fun j => if j < m then T j else X j) n) (ackT T m) = _ from h2, hdT_set (by omega)]
   congr 2
   funext j
   by_cases e : j = m
   ·subst e; simp
   ·rw [if_neg e]
    by_cases e2 : j < m
    ·rw [if_pos e2, if_pos (by omega)]
    ·rw [if_neg e2, if_neg (by omega)]
 rw [key n (Nat.le_refl n)]
 congr 1
 refine List.map_congr_left fun j hj => ?_
 rw [if_pos (List.mem_range.1 hj)]
theorem zj8 {α : Type} {z : α} {w : Nat} {f : Nat → Option α} : ∀ {n : Nat}, (∀ j, j < n → f j = if j = w then some z else none) → (List.range n).filterMap f = if w < n then [z] else []
 | 0, _ => by simp
 | n + 1, h => by
  rw [List.range_succ, List.filterMap_append, zj8 (n := n) (fun j hj => h j (by omega))]
  have := h n (by omega)
  by_cases e : n = w
  ·subst e; rw [if_pos rfl] at this
   simp [this]
  ·rw [if_neg e] at this
   by_cases e2 : w < n
   ·simp [this, e2]; omega
   ·simp [this, e2]; omega
def zhJ (p : qL) (w c : Nat) (j : Nat) : Int × Int := if j = w then ((c : Nat), -1) else (0, p 0)
def downU (c : Nat) : UP := ⟨zH, false, (c : Nat), nr0⟩
def wnc (p : qL) (u c : Nat) : Nt := ⟨(u : Nat), (c : Nat), p 0, true, false, e0, p⟩
theorem drain_step {U m : Nat} {S : YS} (hm : m < U) (h : (atS S.l 0).2 = true) : zes (U - m) S = zes (U - (m + 1)) (zaV S 0 false) := by
 rw [show U - m = (U - (m + 1)) + 1 by omega]
 simp only [zes]; rw [if_pos h]
end Go.Rh

namespace Go.Rh
def zeD (S : YS) : YS := zes 200 (zaJ S)
def zc0 (p : qL) (es : List Ent) (k : Nat) : qL := (es.take k).foldl (fun c e => (zO c e).1) p
theorem rot_next {p : qL} {es : List Ent} {k : Nat} {e : Ent} (h : es[k]? = some e) : zc0 p es (k + 1) = (zO (zc0 p es k) e).1 := by
 unfold zc0; rw [List.take_add_one, h]; simp [List.foldl_append]
theorem rot_ok {es : List Ent} (hr : Rots es) {k : Nat} {e : Ent} (he : es[k]? = some e) (c : qL) : (zO c e).2 = 0 := by
 obtain ⟨a, b, rfl⟩ := hr e (List.mem_of_getElem? he)
 show (zO c ⟨6, 0, 0, 0, 0, a, b⟩).2 = 0
 rw [apply_rot]
theorem zfa {p : qL} {es : List Ent} (hr : Rots es) (hp : 0 ≤ p 0 ∧ p 0 ≤ 1000) : ∀ {k : Nat}, k ≤ es.length → k ≤ 1000 → zc0 p es k 0 = p 0 + k
 | 0, _, _ => by show p 0 = _; omega
 | k + 1, h, h2 => by
  have hk : k < es.length := by omega
  have he := List.getElem?_eq_getElem hk
  have ih := zfa hr hp (k := k) (by omega) (by omega)
  rw [rot_next he, apply_ver (rot_ok hr he _), ih, w64 (by omega) (by omega)]; omega
theorem zj9 {α : Type} {f : Nat → Option α} {g : Nat → α} : ∀ {n : Nat}, (∀ j, j < n → f j = some (g j)) → (List.range n).filterMap f = (List.range n).map g
 | 0, _ => by simp
 | n + 1, h => by rw [List.range_succ, List.filterMap_append, List.map_append, zj9 (n := n) (fun j hj => h j (by omega))]; simp [h n (by omega)]
theorem filter_no {α : Type} {f : Nat → Option α} : ∀ {n : Nat}, (∀ j, j < n → f j = none) → (List.range n).filterMap f = []
 | 0, _ => by simp
 | n + 1, h => by rw [List.range_succ, List.filterMap_append, filter_no (n := n) (fun j hj => h j (by omega))]; simp [h n (by omega)]
theorem ziP {S : YS} {x : HS} {U : Nat} {W : Nat → Nt} {T X : Nat → Int × Int} (hS : zaJ S = ⟨S.n, x, S.us, (List.range U).map W⟩) (hW : ∀ j, (W j).u = (j : Nat) ∧ (W j).a = false) (hU : U ≤ 16) (hx : x.hd = hdT X U)
  (hT : ∀ j, j < U → -1 ≤ (T j).2) (hX : ∀ j, j < U → (X j).1 < (T j).1 ∨ ((X j).1 = (T j).1 ∧ (X j).2 ≤ (T j).2)) (hack : ∀ j, j < U → ackOf (S.us j) (W j) = ackT T j) :
  zeD S = ⟨S.n, { x with hd := hdT T U }, fun j => if j ∈ List.range U then zfq (S.us j) (W j) else S.us j, []⟩ := by
 unfold zeD
 rw [hS]
 have h2 := drain_ws W (List.range U) [] (U + (200 - U - U)) ⟨S.n, x, S.us, (List.range U).map W⟩ (fun j _ => hW j) List.nodup_range (by simp)
 rw [List.length_range] at h2
 rw [show (200 : Nat) = U + (U + (200 - U - U)) by omega, h2]
 have hm : (List.range U).map (fun j => ackOf (S.us j) (W j)) = (List.range U).map (ackT T) := List.map_congr_left fun j hj => hack j (List.mem_range.1 hj)
 simp only [List.nil_append, hm]
 have l1 : ((List.range U).map (ackT T)).length = U := by simp
 have h3 := zhQ ((List.range U).map (ackT T)) [] (200 - U - U) ⟨S.n, x, fun j => if j ∈ List.range U then zfq (S.us j) (W j) else S.us j, (List.range U).map (ackT T)⟩ (fun a ha => by obtain ⟨j, _, rfl⟩ := List.mem_map.1 ha; rfl) (by simp)
 rw [l1] at h3
 rw [h3, zjb rfl]
 simp only [hear_all hT hX hx]
structure GY (p : qL) (es : List Ent) (U : Nat) (B : Nat → Int) (k : Nat) (S : YS) : Prop where
  n : S.n = U
  pp : S.x.p = zc0 p es k
  ww : S.x.w = es.drop k
  hd : S.x.hd = hdT (fun j => (B j, zc0 p es k 0)) U
  us : ∀ j, j < U → S.us j = ⟨zc0 p es k, true, B j, nr0⟩
  l : S.l = []
theorem ziE {S : YS} {x : HS} {l : List Nt} (h : zam S.x = (x, l)) (hl : S.l = []) : zaJ S = ⟨S.n, x, S.us, l⟩ := by
 show (⟨S.n, (zam S.x).1, S.us, S.l ++ (zam S.x).2⟩ : YS) = _
 rw [h, hl]; rfl
def entN (B : Nat → Int) (v : Int) (e : Ent) (j : Nat) : Nt := ⟨(j : Nat), B j, v, false, false, e, zH⟩
theorem send_pub {x : HS} {P : qL} {e : Ent} {r : List Ent} {U : Nat} {B : Nat → Int} (hp : x.p = P) (hw : x.w = e :: r) (hd : x.hd = hdT (fun j => (B j, P 0)) U) (hs : (zO P e).2 = 0) (hv : (zO P e).1 0 = P 0 + 1) (h0 : 0 ≤ P 0 ∧ P 0 ≤ 100000) :
  zam x = (⟨(zO P e).1, r, x.hd, e, true⟩, (List.range U).map (entN B (P 0 + 1) e)) := by
 have ha : allW x.hd (x.p 0) = true := by
  rw [hd, hp]
  refine List.all_eq_true.2 fun y hy => ?_
  obtain ⟨j, _, rfl⟩ := List.mem_map.1 hy
  exact beq_iff_eq.2 rfl
 have hg : goS x = ⟨(zO P e).1, r, x.hd, e, true⟩ := by
  unfold goS; rw [if_pos ha]
  unfold zjY; rw [hw]; simp only; rw [hp, if_pos hs]
 unfold zam
 rw [hg]
 refine Prod.ext rfl ?_
 show zb0 ⟨(zO P e).1, r, x.hd, e, true⟩ x.hd.length = _
 have hl : x.hd.length = U := by rw [hd]; simp [hdT]
 rw [hl]
 refine zj9 fun j hj => ?_
 have hlk : lkS x.hd (j : Nat) = ((B j, P 0), true) := by rw [hd]; exact lk_of (zgL hj)
 unfold zfG
 simp only [hlk]
 rw [if_neg (by rw [hv]; omega), if_pos ⟨by rw [hv, w64 (by omega) (by omega)]; omega, trivial⟩, hv]; rfl
theorem hear_ent {P : qL} {b v : Int} {j : Nat} {e : Ent} (hs : (zO P e).2 = 0) (hv : v = P 0 + 1) (h0 : 0 ≤ P 0 ∧ P 0 ≤ 100000) : uhS P true b ⟨(j : Nat), b, v, false, false, e, zH⟩ = ((zO P e).1, true) := by
 unfold uhS
 rw [if_neg (by simp), if_neg (by simp)]
 have h1 : qX P true = P 0 := rfl
 rw [if_pos ⟨rfl, by rw [h1]; exact h0.1, by rw [h1, w64 (by omega) (by omega)]; exact hv, hs⟩]
theorem round_pub {p : qL} {es : List Ent} {U : Nat} {B : Nat → Int} {k : Nat} {S : YS} (h : GY p es U B k S) (hr : Rots es) (hp : 0 ≤ p 0 ∧ p 0 ≤ 1000) (hU : U ≤ 16) (hk : k < es.length) (hk2 : k ≤ 100) : GY p es U B (k + 1) (zeD S) := by
 have he := List.getElem?_eq_getElem hk
 have hs := rot_ok hr he (zc0 p es k)
 have hn := rot_next (p := p) he
 have hv := zfa (p := p) hr hp (k := k) (by omega) (by omega)
 have hv1 := zfa (p := p) hr hp (k := k + 1) (by omega) (by omega)
 have hw : S.x.w = es[k] :: es.drop (k + 1) := by rw [h.ww, List.drop_eq_getElem_cons hk]
 have ht := ziE (send_pub (B := B) (U := U) h.pp hw h.hd hs (by rw [← hn, hv1, hv]; omega) (by omega)) h.l
 have hr2 := ziP (T := fun j => (B j, zc0 p es (k + 1) 0)) (X := fun j => (B j, zc0 p es k 0)) ht (fun j => ⟨rfl, rfl⟩) hU h.hd (fun j _ => by show -1 ≤ zc0 p es (k + 1) 0; omega) (fun j _ => .inr ⟨rfl, by show zc0 p es k 0 ≤ zc0 p es (k + 1) 0; omega⟩) (fun j hj => by
  rw [h.us j hj]
  show zjG (j : Nat) (B j) (uhS (zc0 p es k) true (B j) (entN B (zc0 p es k 0 + 1) es[k] j)) = _
  rw [show uhS (zc0 p es k) true (B j) (entN B (zc0 p es k 0 + 1) es[k] j) = _ from hear_ent hs rfl (by omega), ← hn]; rfl)
 rw [hr2]
 refine ⟨h.n, hn.symm, rfl, rfl, fun j hj => ?_, rfl⟩
 show (if j ∈ List.range U then zfq (S.us j) (entN B (zc0 p es k 0 + 1) es[k] j) else S.us j) = _
 rw [if_pos (List.mem_range.2 hj), h.us j hj]
 show (⟨(uhS (zc0 p es k) true (B j) (entN B (zc0 p es k 0 + 1) es[k] j)).1, (uhS (zc0 p es k) true (B j) (entN B (zc0 p es k 0 + 1) es[k] j)).2, B j, nr0⟩ : UP) = _
 rw [show uhS (zc0 p es k) true (B j) (entN B (zc0 p es k 0 + 1) es[k] j) = _ from hear_ent hs rfl (by omega), ← hn]
theorem round_quiet {p : qL} {es : List Ent} {U : Nat} {B : Nat → Int} {k : Nat} {S : YS} (h : GY p es U B k S) (hk : k = es.length) : GY p es U B k (zeD S) := by
 have hw : S.x.w = [] := by rw [h.ww, hk]; simp
 have hs : zam S.x = (S.x, []) := by
  rw [zhA (.inl hw)]
  refine Prod.ext rfl ?_
  show zb0 S.x S.x.hd.length = []
  have hl : S.x.hd.length = U := by rw [h.hd]; simp [hdT]
  rw [hl]
  refine filter_no fun j hj => ?_
  have hlk : lkS S.x.hd (j : Nat) = ((B j, zc0 p es k 0), true) := by rw [h.hd]; exact lk_of (zgL hj)
  exact note_has (by rw [hlk, h.pp]; exact Int.le_refl _)
 have ht := ziE hs h.l
 unfold zeD
 rw [ht, zjb rfl]
 exact ⟨h.n, h.pp, h.ww, h.hd, h.us, rfl⟩
theorem zjU {p : qL} {es : List Ent} {U : Nat} {B : Nat → Int} {k : Nat} {S : YS} (h : GY p es U B (min k es.length) S) (hr : Rots es) (hp : 0 ≤ p 0 ∧ p 0 ≤ 1000) (hU : U ≤ 16) (hk : k ≤ 100) : GY p es U B (min (k + 1) es.length) (zeD S) := by
 by_cases hk2 : k < es.length
 ·rw [show min k es.length = k by omega] at h
  rw [show min (k + 1) es.length = k + 1 by omega]
  exact round_pub h hr hp hU hk2 hk
 ·rw [show min k es.length = es.length by omega] at h
  rw [show min (k + 1) es.length = es.length by omega]
  exact round_quiet h rfl
def coldY (p : qL) (U : Nat) (es : List Ent) : YS := ⟨U, zjw p U es, fun _ => dn, []⟩
theorem zjV {p : qL} {es : List Ent} {U : Nat} (hp : 0 ≤ p 0) (hU : 1 ≤ U ∧ U ≤ 16) : GY p es U (fun _ => 0) 0 (zeD (coldY p U es)) := by
 have ht : zaJ (coldY p U es) = ⟨(coldY p U es).n, zjw p U es, (coldY p U es).us, (List.range U).map (wn p)⟩ := ziE (S := coldY p U es) (cold_send (p := p) hp (u := U) (by omega) (w := es)) rfl
 have hr2 := ziP (T := fun _ => (0, p 0)) (X := fun _ => (0, -1)) ht (fun j => ⟨rfl, rfl⟩) hU.2 (by show List.replicate U _ = _; unfold hdT; rw [List.map_const']; simp) (fun j _ => by show -1 ≤ p 0; omega) (fun j _ => .inr ⟨rfl, by show -1 ≤ p 0; omega⟩) (fun j hj => ack_w (v := dn) (hear_w hp))
 rw [hr2]
 refine ⟨rfl, rfl, by show es = _; simp, rfl, fun j hj => ?_, rfl⟩
 show (if j ∈ List.range U then zfq dn (wn p j) else dn) = _
 rw [if_pos (List.mem_range.2 hj), hear_w hp]; rfl
structure MY (p : qL) (es : List Ent) (U w : Nat) (S : YS) : Prop where
  n : S.n = U
  pp : S.x.p = zc0 p es 1
  ww : S.x.w = es.drop 1
  hd : S.x.hd = hdT (zhJ (zc0 p es 1) w 1) U
  us : ∀ j, j < U → S.us j = if j = w then downU 1 else ⟨zc0 p es 1, true, 0, nr0⟩
  l : S.l = []
theorem round_crash {p : qL} {es : List Ent} {U : Nat} {W : Int} {S : YS} (h : GY p es U (fun _ => 0) 0 S) (hr : Rots es) (hp : 0 ≤ p 0 ∧ p 0 ≤ 1000) (hU : U ≤ 16) (hk : 0 < es.length) (hW : 0 ≤ W ∧ W < U) : MY p es U W.toNat (zeD (zbr S W)) := by
 have he := List.getElem?_eq_getElem hk
 have hs := rot_ok hr he (zc0 p es 0)
 have hn := rot_next (p := p) he
 have hv := zfa (p := p) hr hp (k := 0) (by omega) (by omega)
 have hv1 := zfa (p := p) hr hp (k := 1) (by omega) (by omega)
 have hw : S.x.w = es[0] :: es.drop 1 := by rw [h.ww, List.drop_eq_getElem_cons hk]
 have hwU : W.toNat < U := by omega
 have hin : inU S.n W = true := decide_eq_true (by rw [h.n]; exact hW)
 have hc : zbr S W = { S with us := updU S.us W.toNat (downU 1) } := by
  unfold zbr; rw [if_pos hin, h.us _ hwU]; rfl
 have hus : ∀ j, j < U → (zbr S W).us j = if j = W.toNat then downU 1 else ⟨zc0 p es 0, true, 0, nr0⟩ := fun j hj => by
  rw [hc]; show updU S.us W.toNat (downU 1) j = _
  unfold updU; rw [h.us j hj]
 have hx : (zbr S W).x = S.x := by rw [hc]
 have hl : (zbr S W).l = [] := by rw [hc]; exact h.l
 have hsd := send_pub (B := fun _ => 0) (U := U) h.pp hw h.hd hs (by rw [← hn, hv1, hv]; omega) (by omega)
 have ht := ziE (S := zbr S W) ((congrArg zam hx).trans hsd) hl
 have hh : ∀ j, j < U → uhS ((zbr S W).us j).p ((zbr S W).us j).is ((zbr S W).us j).b (entN (fun _ => 0) (zc0 p es 0 0 + 1) es[0] j) = if j = W.toNat then (zH, false) else (zc0 p es 1, true) := fun j hj => by
  rw [hus j hj]
  by_cases e : j = W.toNat
  ·rw [if_pos e, if_pos e]
   show uhS zH false 1 _ = _
   unfold uhS; rw [if_pos (by show (0 : Int) ≠ 1; omega)]
  ·rw [if_neg e, if_neg e]
   show uhS (zc0 p es 0) true 0 _ = _
   rw [show uhS (zc0 p es 0) true 0 (entN (fun _ => 0) (zc0 p es 0 0 + 1) es[0] j) = _ from hear_ent hs rfl (by omega), ← hn]
 have hr2 := ziP (T := zhJ (zc0 p es 1) W.toNat 1) (X := fun _ => (0, zc0 p es 0 0)) ht (W := entN (fun _ => 0) (zc0 p es 0 0 + 1) es[0]) (S := zbr S W) (fun j => ⟨rfl, rfl⟩) hU h.hd (fun j _ => by unfold zhJ; split <;> simp <;> omega) (fun j _ => by unfold zhJ; split <;> simp <;> omega) (fun j hj => by
  show zjG (j : Nat) ((zbr S W).us j).b (uhS ((zbr S W).us j).p ((zbr S W).us j).is ((zbr S W).us j).b (entN (fun _ => 0) (zc0 p es 0 0 + 1) es[0] j)) = _
  rw [hh j hj, hus j hj]
  unfold ackT zhJ
  by_cases e : j = W.toNat
  ·rw [if_pos e, if_pos e, if_pos e]; rfl
  ·rw [if_neg e, if_neg e, if_neg e]; rfl)
 rw [hr2]
 refine ⟨?_, hn.symm, rfl, rfl, fun j hj => ?_, rfl⟩
 ·show (zbr S W).n = U; rw [crash_n]; exact h.n
 ·show (if j ∈ List.range U then zfq ((zbr S W).us j) (entN (fun _ => 0) (zc0 p es 0 0 + 1) es[0] j) else _) = _
  rw [if_pos (List.mem_range.2 hj)]
  show (⟨(uhS _ _ _ _).1, (uhS _ _ _ _).2, ((zbr S W).us j).b, ((zbr S W).us j).nr⟩ : UP) = _
  rw [hh j hj, hus j hj]
  by_cases e : j = W.toNat
  ·rw [if_pos e, if_pos e, if_pos e]; rfl
  ·rw [if_neg e, if_neg e, if_neg e]
def bumpB (w : Nat) : Nat → Int := fun j => if j = w then 1 else 0
theorem round_back {p : qL} {es : List Ent} {U w : Nat} {S : YS} (h : MY p es U w S) (hr : Rots es) (hp : 0 ≤ p 0 ∧ p 0 ≤ 1000) (hk : 0 < es.length) (hw : w < U) : GY p es U (bumpB w) 1 (zeD S) := by
 have hv1 := zfa (p := p) hr hp (k := 1) (by omega) (by omega)
 have hlk : ∀ j, j < U → lkS S.x.hd (j : Nat) = (zhJ (zc0 p es 1) w 1 j, true) := fun j hj => by rw [h.hd]; exact lk_of (zgL hj)
 have hall : allW S.x.hd (S.x.p 0) = false := by
  cases q : allW S.x.hd (S.x.p 0) with
  | false => rfl
  | true =>
   have h1 := List.all_eq_true.1 q (zhJ (zc0 p es 1) w 1 w) (by rw [h.hd]; exact List.mem_map.2 ⟨w, List.mem_range.2 hw, rfl⟩)
   have h2 : (zhJ (zc0 p es 1) w 1 w).2 = S.x.p 0 := beq_iff_eq.1 h1
   rw [h.pp, hv1] at h2
   simp [zhJ] at h2; omega
 have hs : zam S.x = (S.x, [wnc (zc0 p es 1) w 1]) := by
  rw [zhA (.inr hall)]
  refine Prod.ext rfl ?_
  show zb0 S.x S.x.hd.length = _
  have hl : S.x.hd.length = U := by rw [h.hd]; simp [hdT]
  rw [hl]
  unfold zb0
  rw [zj8 (z := wnc (zc0 p es 1) w 1) (w := w) (fun j hj => ?_), if_pos hw]
  by_cases e : j = w
  ·subst e
   rw [if_pos rfl]
   unfold zfG
   simp only [hlk j hj, h.pp]
   simp only [zhJ, if_true]
   rw [if_neg (by omega), if_neg (by rw [hv1, w64 (by omega) (by omega)]; intro q; have := q.1; omega)]; rfl
  ·rw [if_neg e, note_has (by rw [hlk j hj, h.pp]; simp [zhJ, e])]
 have ht := ziE hs h.l
 unfold zeD
 rw [ht]
 have h2 := drain_ws (fun _ => wnc (zc0 p es 1) w 1) [w] [] 199 ⟨S.n, S.x, S.us, [wnc (zc0 p es 1) w 1]⟩ (fun j hj => by rw [List.mem_singleton.1 hj]; exact ⟨rfl, rfl⟩) (by simp) rfl
 have hu : uhS zH false 1 (wnc (zc0 p es 1) w 1) = (zc0 p es 1, true) := by
  unfold uhS
  rw [if_neg (by simp [wnc]), if_pos ⟨rfl, by show qX zH false < zc0 p es 1 0; simp [qX]; omega⟩]; rfl
 have huw : S.us w = downU 1 := by rw [h.us w hw, if_pos rfl]
 have hak : ackOf (S.us w) (wnc (zc0 p es 1) w 1) = ⟨(w : Nat), 1, zc0 p es 1 0, false, true, e0, zH⟩ := by
  rw [huw]; show zjG (w : Nat) 1 (uhS zH false 1 (wnc (zc0 p es 1) w 1)) = _
  rw [hu]; rfl
 have h3 : ∀ (us : Nat → UP) (z : Nt), z.a = true → zes 199 ⟨S.n, S.x, us, [z]⟩ = ⟨S.n, [z].foldl zfg S.x, us, []⟩ := fun us z hz =>
  (zhQ [z] [] 198 ⟨S.n, S.x, us, [z]⟩ (fun a ha => by rw [List.mem_singleton.1 ha]; exact hz) rfl).trans (zjb rfl _)
 have h4 : zes 200 ⟨S.n, S.x, S.us, [wnc (zc0 p es 1) w 1]⟩ = ⟨S.n, [ackOf (S.us w) (wnc (zc0 p es 1) w 1)].foldl zfg S.x, fun j => if j ∈ [w] then zfq (S.us j) (wnc (zc0 p es 1) w 1) else S.us j, []⟩ := h2.trans (h3 _ _ rfl)
 rw [h4, hak]
 have hg : S.x.hd[w]? = some ((1 : Int), (-1 : Int)) := by rw [h.hd, zgL hw]; simp [zhJ]
 have hh : zfg S.x ⟨(w : Nat), 1, zc0 p es 1 0, false, true, e0, zH⟩ = { S.x with hd := S.x.hd.set w (1, zc0 p es 1 0) } := by
  unfold zfg; rw [heard_set hg (by omega) (.inr ⟨rfl, by show -1 ≤ _; omega⟩)]
 refine ⟨h.n, ?_, ?_, ?_, fun j hj => ?_, rfl⟩
 ·show (zfg S.x _).p = _; rw [hh]; exact h.pp
 ·show (zfg S.x _).w = _; rw [hh]; exact h.ww
 ·show (zfg S.x _).hd = _; rw [hh, h.hd]
  show (hdT _ U).set w _ = _
  rw [hdT_set hw]
  congr 1; funext j
  unfold zhJ bumpB
  by_cases e : j = w <;> simp [e]
 ·show (if j ∈ [w] then zfq (S.us j) (wnc (zc0 p es 1) w 1) else S.us j) = _
  unfold bumpB
  by_cases e : j = w
  ·subst e
   rw [if_pos (by simp), huw, if_pos rfl]
   show (⟨(uhS zH false 1 (wnc (zc0 p es 1) j 1)).1, (uhS zH false 1 (wnc (zc0 p es 1) j 1)).2, 1, nr0⟩ : UP) = _
   rw [hu]
  ·rw [if_neg (by simpa using e), h.us j hj, if_neg e, if_neg e]
structure RI (p : qL) (es : List Ent) (U w : Nat) (cr : Bool) (i : Nat) (S : YS) : Prop where
  r0 : i = 0 → S = coldY p U es
  r1 : 1 ≤ i → cr = false → GY p es U (fun _ => 0) (min (i - 1) es.length) S
  c1 : cr = true → i = 1 → GY p es U (fun _ => 0) 0 S
  c2 : cr = true → i = 2 → MY p es U w S
  c3 : cr = true → 3 ≤ i → GY p es U (bumpB w) (min (i - 2) es.length) S
theorem RI.init {p : qL} {es : List Ent} {U w : Nat} {cr : Bool} : RI p es U w cr 0 (coldY p U es) := ⟨fun _ => rfl, fun q => by omega, fun _ q => by omega, fun _ q => by omega, fun _ q => by omega⟩
theorem RI.next {p : qL} {es : List Ent} {U i : Nat} {W : Int} {cr : Bool} {S S2 : YS} (h : RI p es U W.toNat cr i S) (hr : Rots es) (hp : 0 ≤ p 0 ∧ p 0 ≤ 1000) (hU : 1 ≤ U ∧ U ≤ 16) (hi : i ≤ 100) (hc : cr = true → 0 < es.length) (hW : 0 ≤ W ∧ W < U)
  (h2 : S2 = if i = 1 ∧ cr = true then zbr S W else S) : RI p es U W.toNat cr (i + 1) (zeD S2) := by
 have hwU : W.toNat < U := by omega
 by_cases h1 : i = 1 ∧ cr = true
 ·obtain ⟨rfl, hcr⟩ := h1
  rw [if_pos ⟨rfl, hcr⟩] at h2
  subst h2
  exact ⟨(fun q => by omega), (fun _ q => by rw [hcr] at q; cases q), (fun _ q => by omega), fun _ _ => round_crash (h.c1 hcr rfl) hr hp hU.2 (hc hcr) hW, (fun _ q => by omega)⟩
 ·rw [if_neg h1] at h2
  subst h2
  refine ⟨fun q => by omega, fun _ q => ?_, fun q e => ?_, fun q e => ?_, fun q e => ?_⟩
  ·by_cases e : i = 0
   ·subst e
    rw [h.r0 rfl]
    have := zjV (es := es) hp.1 hU
    rw [show min (0 + 1 - 1) es.length = 0 by omega]; exact this
   ·have := zjU (h.r1 (by omega) q) hr hp hU.2 (by omega)
    rw [show i + 1 - 1 = i - 1 + 1 by omega]; exact this
  ·have e0 : i = 0 := by omega
   subst e0
   rw [h.r0 rfl]; exact zjV hp.1 hU
  ·exact absurd ⟨by omega, q⟩ h1
  ·by_cases e2 : i = 2
   ·subst e2
    have := round_back (h.c2 q rfl) hr hp (hc q) hwU
    have h9 := hc q
    rw [show min (2 + 1 - 2) es.length = 1 by omega]; exact this
   ·have := zjU (h.c3 q (by omega)) hr hp hU.2 (by omega)
    rw [show i + 1 - 2 = i - 2 + 1 by omega]; exact this
theorem RI.l0 {p : qL} {es : List Ent} {U w i : Nat} {cr : Bool} {S : YS} (h : RI p es U w cr i S) : S.l.length = 0 := by
 by_cases e : i = 0
 ·rw [h.r0 e]; rfl
 ·cases q : cr with
  | false => rw [(h.r1 (by omega) q).l]; rfl
  | true =>
   by_cases e1 : i = 1
   ·rw [(h.c1 q e1).l]; rfl
   ·by_cases e2 : i = 2
    ·rw [(h.c2 q e2).l]; rfl
    ·rw [(h.c3 q (by omega)).l]; rfl
theorem RI.end_ {p : qL} {es : List Ent} {U w i : Nat} {cr : Bool} {S : YS} (h : RI p es U w cr i S) (hi : i = es.length + 4) : ∃ B, GY p es U B es.length S := by
 cases q : cr with
 | false => exact ⟨_, by have := h.r1 (by omega) q; rw [show min (i - 1) es.length = es.length by omega] at this; exact this⟩
 | true => exact ⟨_, by have := h.c3 q (by omega); rw [show min (i - 2) es.length = es.length by omega] at this; exact this⟩
theorem end_ver {p : qL} {es : List Ent} {U : Nat} {S : YS} (h : ∃ B, GY p es U B es.length S) (hr : Rots es) (hp : 0 ≤ p 0 ∧ p 0 ≤ 1000) (he : es.length ≤ 100) : S.x.p 0 = p 0 + es.length ∧ S.n = U ∧ ∀ j, j < U → zeP S (j : Nat) = (p 0 + es.length, true) := by
 obtain ⟨B, h⟩ := h
 have hv := zfa (p := p) hr hp (k := es.length) (Nat.le_refl _) (by omega)
 refine ⟨by rw [h.pp, hv], h.n, fun j hj => ?_⟩
 rw [ver_at (by rw [h.n]; exact hj), h.us j hj]
 show (zc0 p es es.length 0, true) = _
 rw [hv]
theorem wish_ny {p : qL} {U : Nat} {es : List Ent} (hr : Rots es) (hl : es.length ≤ 200) : zcj (nyS p U).x es = (0, zjw p U es) := by
 show zcj (newHS p (U : Nat)) es = _
 rw [cold_new, wish_rot hr (by show [].length + es.length ≤ 200; simpa using hl)]
 simp [zjw]
theorem drain_go2 {k : Nat} {S : YS} (hk : k < 200) (h : (atS S.l 0).2 = true) : zes (200 - k) S = zes (200 - (k + 1)) (zaV S 0 false) := drain_step hk h
end Go.Rh

namespace Go.Rh
section
variable {C : zah} {g : String} {G : Nat → Prop} {y n : Nat} {x x' : HS} {us us' : Nat → US} {l l' : List Nt} {h : List Blk} {V A A' : Value} {K : zea} {kx : Nat} {eb : Blk}
theorem glueW (hY : YT G y n x us l h) (hkx : h[kx]? = some eb) (hnk : ¬ G kx) (heb : ∀ ρ, za5 ρ eb = eb) (hvi : ∀ ρ, Blk.view (za5 ρ eb) eb) (hA : ∀ (sel : List Nat) (n : Nat), rho sel n 6 = kx → zbF (rho sel n) A = A') (hV : vpf V = true)
  (hC : ∀ m o, gOk l o → ∃ R, C g [pv 0 0, A] (laA n m x 5 l o ++ [gB l o, eb]) R ∧ ∀ v h', R v h' → v = V ∧ h' = laA n m x' 5 l o ++ [gB l o, eb])
  (hK : ∀ h', YT G y n x' us l h' → FrY G h h' → K V h') : zcV C g [pv y 0, A'] K h := by
 obtain ⟨m, o, pl, Y, rfl, hlo, h1, h16, hll⟩ := hY
 obtain ⟨R, hC, hR⟩ := hC m o Y.ok
 have hsel : ∀ (i k : Nat), ([pl 0, pl 1, pl 2, pl 3, pl 4, pl 5, kx])[i]? = some k → (i < 6 ∧ pl i = k) ∨ (i = 6 ∧ k = kx) := fun i k e => by
  match i, e with
  | 0, e | 1, e | 2, e | 3, e | 4, e | 5, e => exact .inl ⟨by omega, by simpa using e⟩
  | 6, e => exact .inr ⟨rfl, by simpa using e.symm⟩
  | i + 7, e => simp at e
 have hne : ∀ a, a < 6 + 4 * n → pl a ≠ kx := fun a ha e => hnk (e ▸ hlo a ha)
 have hinj : ∀ (i j k : Nat), ([pl 0, pl 1, pl 2, pl 3, pl 4, pl 5, kx])[i]? = some k → ([pl 0, pl 1, pl 2, pl 3, pl 4, pl 5, kx])[j]? = some k → i = j := fun i j k e1 e2 => by
  rcases hsel i k e1 with ⟨a1, a2⟩ | ⟨a1, a2⟩ <;> rcases hsel j k e2 with ⟨b1, b2⟩ | ⟨b1, b2⟩
  ·exact Y.inj i j (by omega) (by omega) (a2.trans b2.symm)
  ·exact absurd (a2.trans b2) (hne i (by omega))
  ·exact absurd (b2.trans a2) (hne j (by omega))
  ·omega
 have hview := zeQ (ρ := rho [pl 0, pl 1, pl 2, pl 3, pl 4, pl 5, kx] h.length) (h := h) (sel := [pl 0, pl 1, pl 2, pl 3, pl 4, pl 5, kx]) (bs := laA n m x 5 l o ++ [gB l o, eb]) ⟨⟨_, Y.y, z9 (.inl (zaA rfl rfl (zaa o rfl) (fun q => q)))⟩, ⟨_, Y.hd, z9 (.inl (zcn rfl rfl (fun q => q)))⟩, ⟨_, Y.hc, z9 (.inl (zco _))⟩, ⟨_, Y.hm, z9 (.inl (zdd _))⟩, ⟨_, Y.ur, .inr ⟨rfl, _, _, rfl⟩⟩, ⟨_, Y.way, zcm Y.ok⟩, ⟨_, hkx, hvi _⟩, trivial⟩
 refine ⟨[pl 0, pl 1, pl 2, pl 3, pl 4, pl 5, kx], laA n m x 5 l o ++ [gB l o, eb], [pv 0 0, A], R, hC, rfl, ?_, hview, fun i j k b1 hij e1 e2 _ => absurd (hinj i j k e1 e2) hij, fun v h1' hRv hlen hfl => ?_⟩
 ·exact zaz rfl (zaz (hA _ _ rfl) rfl)
 ·obtain ⟨rfl, rfl⟩ := hR v h1' hRv
  have hgo : zex (laA n m x 5 l o ++ [gB l o, eb]) (laA n m x' 5 l o ++ [gB l o, eb]) := zA qM (zA qM (zA (fun h => by cases h) (zA (fun h => by cases h) (zA zD (zA zD (zA zD qC))))))
  refine ⟨hgo, ?_⟩
  rw [qN hV]
  have at_ : ∀ (i : Nat) b, i < 6 → (laA n m x' 5 l o ++ [gB l o, eb])[i]? = some b → b.rw = true → (zd4 h [pl 0, pl 1, pl 2, pl 3, pl 4, pl 5, kx] (laA n m x' 5 l o ++ [gB l o, eb]) (rho [pl 0, pl 1, pl 2, pl 3, pl 4, pl 5, kx] h.length))[pl i]? = some (za5 (rho [pl 0, pl 1, pl 2, pl 3, pl 4, pl 5, kx] h.length) b) := fun i b hi hb hr => by
   have hs' : ([pl 0, pl 1, pl 2, pl 3, pl 4, pl 5, kx])[i]? = some (pl i) := by
    match i, hi with
    | 0, _ | 1, _ | 2, _ | 3, _ | 4, _ | 5, _ => rfl
   exact zjg (Y.lt (by omega)) (fun j hj => hinj j i _ hj hs') hs' hb hr
  have keep_ : ∀ a, a < 6 + 4 * n → 6 ≤ a ∨ a = 4 → (zd4 h [pl 0, pl 1, pl 2, pl 3, pl 4, pl 5, kx] (laA n m x' 5 l o ++ [gB l o, eb]) (rho [pl 0, pl 1, pl 2, pl 3, pl 4, pl 5, kx] h.length))[pl a]? = h[pl a]? := fun a ha h6 => zdM (Y.lt ha) fun j b e1 e2 => by
   rcases hsel j _ e1 with ⟨a1, a2⟩ | ⟨a1, a2⟩
   ·have := Y.inj j a (by omega) ha a2
    have : j = 4 := by omega
    subst this
    have : b = cr [] := by simpa [laA] using e2.symm
    rw [this]; rfl
   ·exact absurd a2 (hne a ha)
  refine hK _ ⟨m, o, pl, ⟨Y.inj, Y.ro0, ?_, ?_, ?_, ?_, ?_, ?_, Y.ok, ?_, ?_, ?_, ?_⟩, rfl, hlo, h1, h16, fun k hk => hll k (Nat.le_trans zeH hk)⟩ ⟨fun k hk => ?_, zeH, zi5 hgo rfl hview⟩
  ·rw [at_ 0 _ (by omega) rfl rfl]; exact congrArg some (zaF rfl rfl (zaa o rfl))
  ·rw [at_ 1 _ (by omega) rfl rfl]; exact congrArg some (zcq rfl rfl)
  ·rw [at_ 2 _ (by omega) rfl rfl]; exact congrArg some (zX _)
  ·rw [at_ 3 _ (by omega) rfl rfl]; exact congrArg some (qI _)
  ·rw [keep_ 4 (by omega) (.inr rfl)]; exact Y.ur
  ·rw [at_ 5 (gB l o) (by omega) rfl (by cases o <;> rfl), zab Y.ok]
  ·intro j hj; rw [keep_ _ (by omega) (.inl (by omega))]; exact Y.un j hj
  ·intro j hj; rw [keep_ _ (by omega) (.inl (by omega))]; exact Y.pn j hj
  ·intro j hj; rw [keep_ _ (by omega) (.inl (by omega))]; exact Y.ch j hj
  ·intro j hj; rw [keep_ _ (by omega) (.inl (by omega))]; exact Y.wh j hj
  ·by_cases e : k = kx
   ·subst e
    have hkl := zL hkx
    cases hr : eb.rw with
    | true =>
     have := zjg (ρ := rho [pl 0, pl 1, pl 2, pl 3, pl 4, pl 5, k] h.length) (h1 := laA n m x' 5 l o ++ [gB l o, eb]) (i := 6) hkl (fun j hj => hinj j 6 _ hj rfl) rfl rfl hr
     rw [this, heb, hkx]
    | false =>
     refine zdM hkl fun j b e1 e2 => ?_
     have hj : j = 6 := hinj j 6 _ e1 rfl
     subst hj
     have : b = eb := by simpa [laA] using e2.symm
     rw [this]; exact hr
   ·exact zdM (Nat.lt_of_not_le fun q => hk (hll k q)) fun j b e1 _ => by
     rcases hsel j _ e1 with ⟨a1, a2⟩ | ⟨a1, a2⟩
     ·exact absurd (a2 ▸ hlo j (by omega)) hk
     ·exact absurd a2 e
theorem YT.mono {G' : Nat → Prop} (h1 : ∀ k, G k → G' k) (hY : YT G y n x us l h) : YT G' y n x us l h := by
 obtain ⟨m, o, pl, Y, e, hlo, h1', h16, hll⟩ := hY
 exact ⟨m, o, pl, Y, e, fun a ha => h1 _ (hlo a ha), h1', h16, fun k hk => h1 _ (hll k hk)⟩
theorem zba {b : Blk} {k : Nat} {z : Blk} (e : h[k]? = some z) : (h ++ [b])[k]? = some z := by rw [List.getElem?_append_left (zL e)]; exact e
theorem YT.push {b : Blk} (hY : YT G y n x us l h) : YT (fun k => G k ∧ k ≠ h.length) y n x us l (h ++ [b]) := by
 obtain ⟨m, o, pl, Y, e, hlo, h1', h16, hll⟩ := hY
 refine ⟨m, o, pl, ⟨Y.inj, Y.ro0, zba Y.y, zba Y.hd, zba Y.hc, zba Y.hm, zba Y.ur, zba Y.way, Y.ok, fun j hj => zba (Y.un j hj), fun j hj => zba (Y.pn j hj), fun j hj => zba (Y.ch j hj), fun j hj => ?_⟩, e, fun a ha => ⟨hlo a ha, fun q => ?_⟩, h1', h16, fun k hk => ?_⟩
 ·obtain ⟨B, hB, hw⟩ := Y.wh j hj; exact ⟨B, zba hB, hw⟩
 ·have := Y.lt ha; omega
 ·simp only [List.length_append, List.length_singleton] at hk
  exact ⟨hll k (by omega), by omega⟩
theorem FrY.mono {F F' : Nat → Prop} {a b : List Blk} (h1 : ∀ k, F k → F' k) (hF : FrY F a b) : FrY F' a b := ⟨fun k hk => hF.fr k fun q => hk (h1 k q), hF.len, hF.gone⟩
end
section
variable {P : Program} {F : Nat → Prop} {y : Nat} {s : YS} {h : List Blk} {K : zea}
theorem YP.push {b : Blk} (hY : YP F y s h) : YP (fun k => F k ∧ k ≠ h.length) y s (h ++ [b]) := by
 obtain ⟨q, hq, hY⟩ := hY; exact ⟨q, hq, hY.push⟩
theorem YP.mono {F' : Nat → Prop} (h1 : ∀ k, F k → F' k) (hY : YP F y s h) : YP F' y s h := by
 obtain ⟨q, hq, hY⟩ := hY; exact ⟨q, hq, hY.mono h1⟩
def wishY (s : YS) (x : List Ent) : YS := { s with x := (zcj s.x x).2 }
theorem zjL (z : HS) (x : List Ent) : (zcj z x).2 = ⟨z.p, (zcj z x).2.w, z.hd, z.e, z.s⟩ := by
 unfold zcj; split
 ·rfl
 ·split <;> rfl
theorem view_sl {ρ : Nat → Nat} {x : List Ent} {q : Option Nat} : Blk.view (za5 ρ (slB zE (qP x) q)) (slB zE (qP x) q) := by
 cases q with
 | none => exact .inl (.inr ⟨rfl, rfl⟩)
 | some m => exact z9 (.inl (zcA (zaP _ _) (fun q => q)))
theorem ren_sl {ρ : Nat → Nat} {x : List Ent} {q : Option Nat} : za5 ρ (slB zE (qP x) q) = slB zE (qP x) q := by
 cases q with
 | none => rfl
 | some m => exact zby (zaP _ _)
theorem YWishK (H : YCode P) (hY : YP F y s h) (hw : s.x.w.length ≤ 200) {kx : Nat} {x : List Ent} {q : Option Nat} (hq : q = none → x = []) (hx : x.length ≤ 1000000) (hkx : h[kx]? = some (slB zE (qP x) q)) (hnk : ¬ F kx)
  (hK : ∀ h', YP F y (wishY s x) h' → FrY F h h' → K (iv (zcj s.x x).1) h') : zcV (Env P) "(*roundhouse/yard.Yard).Wish" [pv y 0, slV kx x.length q] K h := by
 obtain ⟨q0, hq0, hY⟩ := hY
 refine glueW (kx := kx) (eb := slB zE (qP x) q) (A := slV 6 x.length q) (V := iv (zcj s.x x).1) (x' := (zcj s.x x).2) hY hkx hnk (fun ρ => ren_sl) (fun ρ => view_sl) (fun sel n h6 => zbn q h6) rfl (fun m o ho => ⟨_, YWishC H.h_yard_Yard_Wish H.h_head_Head_Wish H.h_head_Head_waiting H.h_pool_All H.h_pool_Apply H.h_pool_may H.h_pool_held H.h_pool_fits H.h_pool_Check H.h_pool_placed H.h_cookie_Next s.x.p s.x.w s.x.hd s.x.e s.x.s s.n m s.l o ho x q hw hq hx, ?_⟩) (fun h' hT => hK h' ⟨q0, hq0, hT⟩)
 rintro v h' ⟨rfl, rfl⟩
 refine ⟨rfl, ?_⟩
 have e := zjL s.x x
 rw [e]; rfl
theorem okW {S : YS} (h : YOK S) (x : List Ent) : YOK (wishY S x) := by
 refine ⟨?_, h.n, fun nt hm ha => h.nok nt hm ha⟩
 show (zcj S.x x).2.hd.length = _
 rw [zjL]; exact h.hd
end
end Go.Rh

namespace Go.Rh
theorem za7 {h : List Blk} {kx k : Nat} {b z : Blk} (hk : k ≠ kx) (e : h[k]? = some z) : (h.set kx b)[k]? = some z := by rw [List.getElem?_set_ne (fun q => hk q.symm)]; exact e
theorem YP.setx {F : Nat → Prop} {y : Nat} {S : YS} {h : List Blk} {kx : Nat} {b : Blk} (hY : YP F y S h) (hn : ¬ F kx) : YP F y S (h.set kx b) := by
 obtain ⟨q, hq, m, o, pl, Y, e, hlo, h1', h16, hll⟩ := hY
 have hne : ∀ a, a < 6 + 4 * S.n → pl a ≠ kx := fun a ha q => hn (q ▸ hlo a ha)
 exact ⟨q, hq, m, o, pl, ⟨Y.inj, Y.ro0, za7 (hne 0 (by omega)) Y.y, za7 (hne 1 (by omega)) Y.hd, za7 (hne 2 (by omega)) Y.hc, za7 (hne 3 (by omega)) Y.hm, za7 (hne 4 (by omega)) Y.ur, za7 (hne 5 (by omega)) Y.way, Y.ok, fun j hj => za7 (hne _ (by omega)) (Y.un j hj), fun j hj => za7 (hne _ (by omega)) (Y.pn j hj), fun j hj => za7 (hne _ (by omega)) (Y.ch j hj), fun j hj => (Y.wh j hj).elim fun B hB => ⟨B, za7 (hne _ (by omega)) hB.1, hB.2⟩⟩, e, hlo, h1', h16, fun k hk => hll k (by rw [List.length_set] at hk; exact hk)⟩
theorem splM {L T : List Blk} {y : Nat} {S : YS} {K' : List Blk → Prop} {lo : Nat} {F : Nat → Prop} (hlo : L.length = lo) (hF : ∀ k, F k → lo ≤ k) (hk : ∀ T', YP (fun k => lo ≤ k) y S (L ++ T') → K' (L ++ T')) : ∀ h', YP F y S h' → FrY F (L ++ T) h' → K' h' := fun h' h1 h2 =>
 spl hlo hk h' (h1.mono hF) (h2.mono hF)
theorem wishY_ny {p : qL} {U : Nat} {es : List Ent} (hr : Rots es) (hl : es.length ≤ 200) : wishY (nyS p U) es = coldY p U es := by
 unfold wishY; rw [wish_ny hr hl]; rfl
def zEx : RL := [(5, .int .i64 0), (2, .int .u64 0)]
theorem o_appY {C : zah} {K : St → Prop} {d : Nat} {r : List ICell} {R : List (Nat × Value)} {L T : List Blk} {y lo kx : Nat} {S : YS} {es : List Ent} {e : Ent} {q : Option Nat} {s x : Opd} (hY : YP (fun i => lo ≤ i ∧ i ≠ kx) y S (L ++ T)) (hL : L.length = lo)
  (hrow : (L ++ T)[kx]? = some (slB zE (qP es) q)) (hq : q = none → es = []) (hkx : q.isSome = true → lo ≤ kx) (hlen : es.length ≤ 1000)
  (hs : evf (reg R) s = slV kx es.length q) (hx : evf (reg R) x = slV (L ++ T).length ([e] : List Ent).length (some 0))
  (hk : ∀ T' kx' q', q'.isSome = true → lo ≤ kx' → YP (fun i => lo ≤ i ∧ i ≠ kx') y S (L ++ T') → (L ++ T')[kx']? = some (slB zE (qP (es ++ [e])) q') → GO C r K ⟨reg ((d, slV kx' (es ++ [e]).length q') :: R), L ++ T'⟩) :
  GO C (⟨some d, .app zEx 7 56 s x, none⟩ :: r) K ⟨reg R, L ++ (T ++ [slB zE (qP [e]) (some 0)])⟩ := by
 have hlx := zL hrow
 have hap : L ++ (T ++ [slB zE (qP [e]) (some 0)]) = (L ++ T) ++ [slB zE (qP [e]) (some 0)] := (List.append_assoc ..).symm
 have hx1 : (L ++ (T ++ [slB zE (qP [e]) (some 0)]))[(L ++ T).length]? = some (slB zE (qP [e]) (some 0)) := by rw [hap, List.getElem?_append_right (Nat.le_refl _)]; simp
 have hrow1 : (L ++ (T ++ [slB zE (qP [e]) (some 0)]))[kx]? = some (slB zE (qP es) q) := by rw [hap]; exact zba hrow
 have hcs : (qP es).length = es.length * 7 := zi9 es
 have hxs : (qP [e]).length = 1 * 7 := zi9 [e]
 have hcat : qP es ++ qP [e] = qP (es ++ [e]) := by simp [qP]
 have hle : (es ++ [e]).length = es.length + 1 := by simp
 refine zhg (zl := zE) (q := 1) (o := q) (k := kx) (n := es.length) (cs := qP es) (xs := qP [e]) (vx := slV (L ++ T).length ([e] : List Ent).length (some 0)) rfl rfl hs (fun m hm => zay.2 ⟨by rw [hrow1, hm]; rfl, by simp⟩) (fun z => by rw [hq z]; exact ⟨rfl, rfl⟩) hcs hx rfl (zbK (zay.2 ⟨hx1, by simp [slB]⟩) ?_ ?_) hxs (by omega) ?_ hcat (fun m hm => ?_) (fun m => ?_)
 ·rw [List.drop_zero, ← hxs, List.take_left]
 ·rw [List.length_append, hxs]; omega
 ·have : (2 : Nat) ^ 48 = 281474976710656 := rfl
  omega
 ·have hset : (L ++ (T ++ [slB zE (qP [e]) (some 0)])).set kx (cw (qP (es ++ [e]) ++ zbt zE m)) = L ++ ((T ++ [slB zE (qP [e]) (some 0)]).set (kx - lo) (cw (qP (es ++ [e]) ++ zbt zE m))) := by
   have hlo := hkx (by rw [hm]; rfl)
   rw [List.set_append, if_neg (by omega), hL]
  rw [hset]
  have h9 := hk ((T ++ [slB zE (qP [e]) (some 0)]).set (kx - lo) (cw (qP (es ++ [e]) ++ zbt zE m))) kx (some m) rfl (hkx (by rw [hm]; rfl)) (by
   rw [← hset, hap]
   exact ((hY.push (b := slB zE (qP [e]) (some 0))).mono (fun k q => q.1)).setx (fun q => q.2 rfl)) (by
   rw [← hset, List.getElem?_set_self (by rw [hap, List.length_append]; omega)]; rfl)
  rw [hle] at h9
  exact h9
 ·have hpu : L ++ (T ++ [slB zE (qP [e]) (some 0)]) ++ [cw (qP (es ++ [e]) ++ zbt zE m)] = L ++ (T ++ [slB zE (qP [e]) (some 0)] ++ [cw (qP (es ++ [e]) ++ zbt zE m)]) := List.append_assoc ..
  rw [hpu]
  have h9 := hk (T ++ [slB zE (qP [e]) (some 0)] ++ [cw (qP (es ++ [e]) ++ zbt zE m)]) (L ++ (T ++ [slB zE (qP [e]) (some 0)])).length (some m) rfl (by rw [List.length_append]; omega) (by
   rw [← hpu, hap]
   refine ((hY.push (b := slB zE (qP [e]) (some 0))).push (b := cw (qP (es ++ [e]) ++ zbt zE m))).mono (fun k q => ⟨q.1.1.1, ?_⟩)
   exact q.2) (by
   rw [← hpu, List.getElem?_append_right (Nat.le_refl _)]; simp [slB])
  rw [hle] at h9
  exact h9
end Go.Rh

set_option maxHeartbeats 8000000
namespace Go.Rh
def zdk : IFunc := ⟨128, [.tmp 10], (.seq (.reg [kq 10 (.mv kF)]) (.seq (.seq (.reg [kq 22 (.call "roundhouse/roundhouselaw12.known" []), kq 23 (.un .not (.t 22))]) (.cond (.t 23) (.seq (.reg [kq 10 (.mv kF)]) .ret) .skip)) (.seq (.reg [km 24 0, kq 25 (.call "roundhouse/roundhouselaw6.Make" [(.t 24), (ki 30)]), kq 11 (.new kA), ku (.st 330 (.t 11) (.t 25))]) (.seq (.reg [km 26 1, kq 27 (.call "roundhouse/roundhouselaw12.within" [(.t 26), (ki 6)]), kq 28 (.bin .add (ki 1) (.t 27)), km 12 28]) (.seq (.reg [kq 30 (.ld (some 330) (.t 11)), km 31 12, kq 32 (.call "roundhouse/yard.New" [(.t 30), (.t 31)]), km 29 32, kq 33 (.ext 0 (.t 29)), kq 34 (.ext 1 (.t 29)), km 13 33, km 14 34]) (.seq (.seq (.reg [km 35 14, kq 36 (.bin .neq (.t 35) (ki 0)), km 37 36, kg 38 (.mv (.t 13)) 37 false, kg 39 (.eqn false .ptr (.t 38) (.c (.pointer none))) 37 false, kq 40 (.pick (.t 37) kT (.t 39))]) (.cond (.t 40) (.seq (.reg [kq 10 (.mv kF)]) .ret) .skip)) (.seq (.reg [kq 15 (.mv (.c (.slice none 0 0)))]) (.seq (.seq (.reg [kq 16 (.mv (ki 0))]) (.block 0 (.loop (.seq (.seq (.reg [km 41 16, km 42 2, kq 43 (.lenS (.t 42)), kq 44 (.bin .lss (.t 41) (.t 43)), km 45 44, kg 46 (.mv (.t 16)) 45 true, kg 47 (.bin .lss (.t 46) (ki 6)) 45 true, kq 48 (.pick (.t 45) (.t 47) kF)]) (.cond (.t 48) .skip (.exit 0))) (.seq (.block 1 (.reg [km 51 15, km 52 2, km 53 16, kq 54 (.iadS 1 (.t 52) (.t 53)), kq 55 (.ld none (.t 54)), kq 56 (.cvi .u64 (.t 55)), kq 57 (.bld [(2, (.int .u64 0))] [(1, 1, (.t 56))]), kq 58 (.bld kC [(0, 1, (ki 6)), (5, 2, (.t 57))]), kq 59 (.bsl kC 7 1 [(0, 7, (.t 58))]), kq 60 (.app kC 7 56 (.t 51) (.t 59)), km 15 60])) (.reg [km 49 16, kq 50 (.bin .add (.t 49) (ki 1)), km 16 50])))))) (.seq (.seq (.reg [km 61 13, km 62 15, kq 63 (.call "(*roundhouse/yard.Yard).Wish" [(.t 61), (.t 62)]), kq 64 (.bin .neq (.t 63) (ki 0))]) (.cond (.t 64) (.seq (.reg [kq 10 (.mv kF)]) .ret) .skip)) (.seq (.seq (.reg [kq 17 (.mv (ki 0))]) (.block 2 (.loop (.seq (.seq (.reg [km 65 17, km 66 15, kq 67 (.lenS (.t 66)), kq 68 (.bin .add (.t 67) (ki 4)), kq 69 (.bin .lss (.t 65) (.t 68))]) (.cond (.t 69) .skip (.exit 2))) (.seq (.block 3 (.seq (.seq (.reg [km 72 17, kq 73 (.bin .eql (.t 72) (ki 1)), km 74 73, kg 75 (.mv (.t 3)) 74 true, kq 76 (.pick (.t 74) (.t 75) kF), km 77 76, kg 78 (.mv (.t 15)) 77 true, kg 79 (.lenS (.t 78)) 77 true, kg 80 (.bin .gtr (.t 79) (ki 0)) 77 true, kq 81 (.pick (.t 77) (.t 80) kF)]) (.cond (.t 81) (.reg [km 82 13, km 83 4, km 84 12, kq 85 (.call "roundhouse/roundhouselaw12.within" [(.t 83), (.t 84)]), kq 86 (.call "(*roundhouse/yard.Yard).Crash" [(.t 82), (.t 85)])]) .skip)) (.seq (.reg [km 87 13, kq 88 (.call "(*roundhouse/yard.Yard).Tick" [(.t 87)])]) (.seq (.reg [kq 18 (.mv (ki 0))]) (.block 4 (.loop (.seq (.seq (.reg [km 89 18, kq 90 (.bin .lss (.t 89) (ki 200)), km 91 90, kg 92 (.mv (.t 13)) 91 true, kg 93 (.call "(*roundhouse/yard.Yard).Deliver" [(.t 92), (ki 0), kF]) 91 true, kq 94 (.pick (.t 91) (.t 93) kF)]) (.cond (.t 94) .skip (.exit 4))) (.seq (.block 5 .skip) (.reg [km 95 18, kq 96 (.bin .add (.t 95) (ki 1)), km 18 96]))))))))) (.reg [km 70 17, kq 71 (.bin .add (.t 70) (ki 1)), km 17 71])))))) (.seq (.seq (.reg [kq 19 (.mv (ki 0))]) (.block 6 (.loop (.seq (.seq (.reg [km 97 19, km 98 12, kq 99 (.bin .lss (.t 97) (.t 98))]) (.cond (.t 99) .skip (.exit 6))) (.seq (.block 7 (.seq (.reg [km 103 13, km 104 19, kq 105 (.call "(*roundhouse/yard.Yard).Version" [(.t 103), (.t 104)]), km 102 105, kq 106 (.ext 0 (.t 102)), kq 107 (.ext 1 (.t 102)), km 20 106, km 21 107]) (.seq (.reg [km 108 21, kq 109 (.un .not (.t 108)), km 110 109, kg 111 (.mv (.t 20)) 110 false, kg 112 (.fad 0 (.t 11)) 110 false, kg 113 (.ld none (.t 112)) 110 false, kg 114 (.mv (.t 15)) 110 false, kg 115 (.lenS (.t 114)) 110 false, kg 116 (.bin .add (.t 113) (.t 115)) 110 false, kg 117 (.bin .neq (.t 111) (.t 116)) 110 false, kq 118 (.pick (.t 110) kT (.t 117))]) (.cond (.t 118) (.seq (.reg [kq 10 (.mv kF)]) .ret) .skip)))) (.reg [km 100 19, kq 101 (.bin .add (.t 100) (ki 1)), km 19 101])))))) (.seq (.dreg [km 119 13, kq 120 (.call "(*roundhouse/yard.Yard).Pool" [(.t 119)]), kq 121 (.fld none 0 (.t 120)), kq 122 (.fad 0 (.t 11)), kq 123 (.ld none (.t 122)), km 124 15, kq 125 (.lenS (.t 124)), kq 126 (.bin .add (.t 123) (.t 125)), kq 127 (.bin .eql (.t 121) (.t 126)), km 10 127] [[], [0], [1, 0], [], [3], [], [5], [4, 3, 6, 5], [2, 1, 0, 7, 4, 3, 6, 5], [8, 2, 1, 0, 7, 4, 3, 6, 5]]) .ret))))))))))))⟩
theorem YardRoundsC {P : Program} (hc : z6 P "roundhouse/roundhouselaw12.YardRounds" = some zdk) (h_law12_known : z6 P "roundhouse/roundhouselaw12.known" = some zd8) (h_ref6_New : zgg P) (h_ref6_out : zdw P) (h_ref5_Ring : zep P) (h_yard_Yard_Notes : zbz P) (h_yard_Yard_Pool : zcN P) (h_head_Head_Pool : zca P) (h_yard_Yard_Wish : zcL P) (h_head_Head_Wish : zb8 P) (h_head_Head_waiting : zbj P) (h_pool_All : zc2 P) (h_pool_Apply : zaU P) (h_pool_may : za3 P) (h_pool_held : zaT P) (h_pool_fits : za1 P) (h_pool_Check : zaO P) (h_pool_placed : zau P) (h_cookie_Next : zaC P) (h_yard_Yard_Tick : zcM P) (h_head_Head_Send : zb9 P) (h_head_Head_all : zbP P) (h_head_Head_publish : zbk P) (h_yard_row_head_Note_put : zaL P) (h_yard_Yard_Lose : zcO P) (h_yard_row_head_Note_at : zap P) (h_yard_row_head_Note_drop : zar P) (h_yard_Yard_Version : zb1 P) (h_yard_row_yard_unit_at : zae P) (h_plane_Plane_Version : zaB P) (h_yard_Yard_Crash : zcB P) (h_plane_Plane_Crash : zbD P) (h_yard_Yard_Deliver : zbB P) (h_head_Head_Heard : zbA P) (h_yard_unit_hear : zb7 P) (h_yard_unit_version : zbi P) (h_yard_unit_load : zbH P) (h_plane_Plane_Load : za9 P) (h_plane_maybe_api_Pool_lay : zad P) (h_wheel_Make : zbV P) (h_wheel_spun : zbw P) (h_sip_Words : zbC P) (h_sip_Of : zcP P) (h_sip_number_byte : zag P) (h_sip_state_take : zao P) (h_sip_state_rounds : qV P) (h_sip_state_round : qW P) (h_math_bits_RotateLeft64 : zY P) (h_head_New : zed P) (h_plane_New : zff P) (h_yard_New : zhK P) (h_yard_row_yard_unit_put : zbp P) (h_law6_Make : z6 P "roundhouse/roundhouselaw6.Make" = some zfj) (h_law5_Key : zgh P) (h_law6_Entry : zfJ P) (h_law6_within : zd6 P) (h_ref6_Apply : zfI P) (h_ref6_Check : zeF P) (h_ref6_bad : zgf P) (h_ref6_Held : zeo P) (h_ref5_Next : zfe P) (h_law12_within : z6 P "roundhouse/roundhouselaw12.within" = some zdF) (o : Option Nat) (ns : List Int) (hnns : o = none → ns = []) (hl : (ns.length : Int) ≤ 9223372036854775807) (units : Int) (o2 : Option Nat) (ks : List Int) (hnks : o2 = none → ks = []) (hl2 : (ks.length : Int) ≤ 9223372036854775807) (crash : Bool) (who : Int) :
    Env P "roundhouse/roundhouselaw12.YardRounds" [inV o 0 ns.length, iv units, inV o2 1 ks.length, bv crash, iv who] ([inB o (ii ns), inB o2 (ii ks)]) (Ans (.bool true) ([inB o (ii ns), inB o2 (ii ks)])) := by
 refine Env.by hc ?_
 unfold zdk
 show GC _ 2 _ _ ⟨reg [(0, inV o 0 ns.length), (1, iv units), (2, inV o2 1 ks.length), (3, bv crash), (4, iv who)], [inB o (ii ns), inB o2 (ii ks)]⟩
 have H : YCode P := ⟨h_yard_Yard_Notes, h_yard_Yard_Pool, h_head_Head_Pool, h_yard_Yard_Wish, h_head_Head_Wish, h_head_Head_waiting, h_pool_All, h_pool_Apply, h_pool_may, h_pool_held, h_pool_fits, h_pool_Check, h_pool_placed, h_cookie_Next, h_yard_Yard_Tick, h_head_Head_Send, h_head_Head_all, h_head_Head_publish, h_yard_row_head_Note_put, h_yard_Yard_Lose, h_yard_row_head_Note_at, h_yard_row_head_Note_drop, h_yard_Yard_Version, h_yard_row_yard_unit_at, h_plane_Plane_Version, h_yard_Yard_Crash, h_plane_Plane_Crash, h_yard_Yard_Deliver, h_head_Head_Heard, h_yard_unit_hear, h_yard_unit_version, h_yard_unit_load, h_plane_Plane_Load, h_plane_maybe_api_Pool_lay, h_wheel_Make, h_wheel_spun, h_sip_Words, h_sip_Of, h_sip_number_byte, h_sip_state_take, h_sip_state_rounds, h_sip_state_round, h_math_bits_RotateLeft64, h_head_New, h_plane_New, h_yard_New, h_yard_row_yard_unit_put⟩
 refine zR (zV (o_d 1 [(10, bv false)] (by kernel_rfl) (zG (zC (zR (zR (zV (zcc (zc7 (known12C h_law12_known h_ref6_New h_ref6_out h_ref5_Ring h_yard_Yard_Notes h_yard_Yard_Pool h_head_Head_Pool h_yard_Yard_Wish h_head_Head_Wish h_head_Head_waiting h_pool_All h_pool_Apply h_pool_may h_pool_held h_pool_fits h_pool_Check h_pool_placed h_cookie_Next h_yard_Yard_Tick h_head_Head_Send h_head_Head_all h_head_Head_publish h_yard_row_head_Note_put h_yard_Yard_Lose h_yard_row_head_Note_at h_yard_row_head_Note_drop h_yard_Yard_Version h_yard_row_yard_unit_at h_plane_Plane_Version h_yard_Yard_Crash h_plane_Plane_Crash h_yard_Yard_Deliver h_head_Head_Heard h_yard_unit_hear h_yard_unit_version h_yard_unit_load h_plane_Plane_Load h_plane_maybe_api_Pool_lay h_wheel_Make h_wheel_spun h_sip_Words h_sip_Of h_sip_number_byte h_sip_state_take h_sip_state_rounds h_sip_state_round h_math_bits_RotateLeft64 h_head_New h_plane_New h_yard_New h_yard_row_yard_unit_put) rfl rfl rfl (o_d 1 [(23, bv false)] (by kernel_rfl) (zG (zC ?_))))))))))))
 refine zbW rfl (zaq (zC (zR (zV (o_d 1 [(24, inV o 0 ns.length)] (by kernel_rfl) (zcc (callRO_K (callIn 0 (MakeC h_law6_Make h_law5_Key h_ref6_New h_ref6_out h_ref5_Ring h_law6_Entry h_law6_within h_ref6_Apply h_ref6_Check h_ref6_bad h_ref6_Held h_ref5_Next o ns hnns hl 30 (by omega)) rfl (zaY _) rfl rfl (zaG _) ?_))))))))
 have I0 := makeS_inv ns (k := 30) (by omega)
 have hpv := I0.ver
 generalize makeS ns 30 = p at I0 hpv ⊢
 refine o_b 1 [(11, pv 2 0)] [inB o (ii ns), inB o2 (ii ks), cw (pl zH)] (by kernel_rfl) (zc1 (by refine qQ (c' := pl p) rfl rfl rfl ?_ ?_ ?_; exact zN _; exact zbU (by omega); exact qO zH p) ?_)
 refine zG (zC (zR (zV (o_d 1 [(26, iv units)] (by kernel_rfl) (zcc (zc7 (within12C h_law12_within units 6 (by decide)) rfl rfl rfl ?_))))))
 have w1 := ziB units (n := 6) (by decide)
 refine o_s (by refine zaf (v := .int .i64 (i64.wrap (1 + (zF units 6)))) (congrArg (Value.int .i64) (w64 (by omega) (by omega))) ?_; kernel_rfl) ?_
 refine o_d 1 [(12, iv (1 + (zF units 6)))] (by kernel_rfl) (zG (⟨⟨reg [(12, iv (1 + (zF units 6))), (11, pv 2 0), (2, inV o2 1 ks.length), (3, bv crash), (4, iv who)], [inB o (ii ns), inB o2 (ii ks), cw (pl p), .gone]⟩, Wk.ren [0, 1, 2, 3] rfl rfl (by decide) ⟨rfl, ⟨rfl, ⟨(zio o2 rfl).trans rfl, ⟨rfl, ⟨rfl, trivial⟩⟩⟩⟩⟩ ⟨.inl (ziS o (zaY ns)), ⟨.inl (ziS o2 (zaY ks)), ⟨.inl (zQ (zaH p)), ⟨.inr ⟨rfl, rfl⟩, trivial⟩⟩⟩⟩, ?_⟩))
 refine zR (zV (o_s (by refine z4 (v := qG p) rfl rfl ?_; exact zal p) ?_))
 refine o_d 1 [(31, iv (1 + (zF units 6)))] (by kernel_rfl) (zcc (YNewK H p (1 + (zF units 6)) (fun q => absurd q (by omega)) (fun T1 hu1 hY1q => ?_)))
 have hY1 : YP (fun k => 4 ≤ k) 4 (nyS p (1 + (zF units 6)).toNat) ([inB o (ii ns), inB o2 (ii ks), cw (pl p), .gone] ++ T1) := hY1q
 refine (ex_eq (nyS p (1 + (zF units 6)).toNat)).elim fun S3 hS4 => ?_
 have hY5 := hS4.symm ▸ hY1
 have ok6 : YOK S3 := hS4 ▸ (ok_nyS p (by omega) (by omega))
 have ln7 : S3.l.length ≤ 0 := hS4 ▸ Nat.zero_le _
 have hS0z := hS4
 refine o_d 5 [(14, iv 0), (13, pv 4 0), (34, iv 0), (33, pv 4 0), (29, .tuple #[pv 4 0, iv 0])] (by kernel_rfl) (zG (zC (zR (zR (zV (o_d 6 [(40, bv false), (39, bv false), (38, pv 4 0), (37, bv false), (36, bv false), (35, iv 0)] (by kernel_rfl) (zG (zC (zbW rfl (zaq (zC (zR ?_))))))))))))
 refine zV (o_d 1 [(15, .slice none 0 0)] (by kernel_rfl) (zG (zC (gcut (fun s => ∃ (T7z : List Blk), ∃ (es : List Ent), ∃ (kx : Nat), ∃ (q : Option Nat), YP (fun k => 4 ≤ k ∧ k ≠ kx) 4 S3 ([inB o (ii ns), inB o2 (ii ks), cw (pl p), .gone] ++ T7z) ∧ YOK S3 ∧ ([inB o (ii ns), inB o2 (ii ks), cw (pl p), .gone] ++ T7z)[kx]? = some (slB zE (qP es) q) ∧ (es.length ≤ 6) ∧ (Rots es) ∧ (q = none → es = []) ∧ (q.isSome = true → 4 ≤ kx) ∧ s = ⟨reg [(15, slV kx es.length q), (13, pv 4 0), (12, iv (1 + (zF units 6))), (11, pv 2 0), (3, bv crash), (4, iv who)], ([inB o (ii ns), inB o2 (ii ks), cw (pl p), .gone] ++ T7z)⟩) ?_ ?_))))
 ·skip
  refine zR (zV (o_d 1 [(16, iv 0)] (by kernel_rfl) (zG (zC (zai (zdm (fun μ s => ∃ (T8z : List Blk), ∃ (i : Nat), ∃ (es : List Ent), ∃ (kx : Nat), ∃ (q : Option Nat), μ = 6 - i ∧ YP (fun k => 4 ≤ k ∧ k ≠ kx) 4 S3 ([inB o (ii ns), inB o2 (ii ks), cw (pl p), .gone] ++ T8z) ∧ YOK S3 ∧ ([inB o (ii ns), inB o2 (ii ks), cw (pl p), .gone] ++ T8z)[kx]? = some (slB zE (qP es) q) ∧ (i ≤ 6) ∧ (es.length = i) ∧ (Rots es) ∧ (q = none → es = []) ∧ (q.isSome = true → 4 ≤ kx) ∧ s = ⟨reg [(16, iv (i : Int)), (15, slV kx es.length q), (13, pv 4 0), (12, iv (1 + (zF units 6))), (11, pv 2 0), (2, inV o2 1 ks.length), (3, bv crash), (4, iv who)], ([inB o (ii ns), inB o2 (ii ks), cw (pl p), .gone] ++ T8z)⟩) ⟨(6 - 0), ?_⟩ ?_))))))
  ·skip
   exact z5 [(16, iv (0 : Int)), (15, slV 3 ([] : List Ent).length none), (13, pv 4 0), (12, iv (1 + (zF units 6))), (11, pv 2 0), (2, inV o2 1 ks.length), (3, bv crash), (4, iv who)] (by kernel_rfl) (⟨T1, 0, ([] : List Ent), 3, none, rfl, (hY5.mono (fun k q => ⟨q, by omega⟩)), ok6, rfl, (by omega), rfl, Rots.nil, (fun _ => rfl), (fun z => by cases z), rfl⟩)
  rintro μ s ⟨T8z, i, es, kx, q, rfl, hY8z, ok8z, hrow8z, hi, hes, hR, hq, hkx, rfl⟩
  refine zR (zR (zV (o_d 2 [(42, inV o2 1 ks.length), (41, iv (i : Int))] (by kernel_rfl) (o_s (by exact run_lenIn rfl (fun q => by rw [hnks q]; rfl)) ?_))))
  refine o_d 2 [(45, bv (decide ((i : Int) < (ks.length : Nat)))), (44, bv (decide ((i : Int) < (ks.length : Nat))))] (by kernel_rfl) (zir (b := decide ((i : Int) < (ks.length : Nat))) 45 rfl (fun h10 => ?_) (fun h10 => ?_))
  ·skip
   have h10' : (i : Int) < (ks.length : Nat) := of_decide_eq_true h10
   refine o_d 3 [(48, bv (decide ((i : Int) < 6))), (47, bv (decide ((i : Int) < 6))), (46, iv (i : Int))] (by kernel_rfl) (zG (zC (zaj (t := decide ((i : Int) < 6)) rfl (fun h11 => ?_) (fun h11 => ?_))))
   ·skip
    have h11' : (i : Int) < 6 := of_decide_eq_true h11
    refine (zdK (l := ks) (i := i) (by omega)).elim fun x hxq => ?_
    have hx := hxq.1
    refine zaq (zC (zR (zai (zV (o_d 3 [(53, iv (i : Int)), (52, inV o2 1 ks.length), (51, slV kx es.length q)] (by kernel_rfl) (o_s (by exact run_iadIn (o' := i) rfl (fun q => by rw [hnks q]; rfl) rfl (by omega) (by omega)) ?_))))))
    refine o_s (by refine z4 (v := iv x) rfl (hf_in (n := ks.length) rfl (fun q => by rw [hnks q]; rfl) (by omega)) ?_; exact ii_r (i := i) (by omega) hx) ?_
    refine o_b 4 [(59, slV ([inB o (ii ns), inB o2 (ii ks), cw (pl p), .gone] ++ T8z).length ([⟨6, 0, 0, 0, 0, 0, IntKind.u64.wrap x⟩] : List Ent).length (some 0)), (58, .agg #[iv 6, iv 0, iv 0, iv 0, iv 0, uv 0, uv (IntKind.u64.wrap x)]), (57, .agg #[uv 0, uv (IntKind.u64.wrap x)]), (56, uv (IntKind.u64.wrap x))] ([inB o (ii ns), inB o2 (ii ks), cw (pl p), .gone] ++ (T8z ++ [slB zE (qP ([⟨6, 0, 0, 0, 0, 0, IntKind.u64.wrap x⟩] : List Ent)) (some 0)])) (by kernel_rfl) (o_appY hY8z rfl hrow8z hq hkx (by omega) rfl rfl (fun T11 kx11 q11 hqs11 hkx11 hY11q hrow11 => ?_))
    refine o_d 1 [(15, slV kx11 ((es ++ [(⟨6, 0, 0, 0, 0, 0, IntKind.u64.wrap x⟩ : Ent)]).length) q11)] (by kernel_rfl) (zG (zC (zV (o_d 1 [(49, iv (i : Int))] (by kernel_rfl) (o_s (by refine zaf (v := .int .i64 (i64.wrap ((i : Int) + 1))) (congrArg (Value.int .i64) (w64 (by omega) (by omega))) ?_; kernel_rfl) ?_)))))
    refine o_d 1 [(16, iv ((i : Int) + 1))] (by kernel_rfl) (zG (⟨6 - (i + 1), ?_⟩))
    refine zfw [(16, iv ((i + 1) : Int)), (15, slV kx11 (es ++ [(⟨6, 0, 0, 0, 0, 0, IntKind.u64.wrap x⟩ : Ent)]).length q11), (13, pv 4 0), (12, iv (1 + (zF units 6))), (11, pv 2 0), (2, inV o2 1 ks.length), (3, bv crash), (4, iv who)] (by kernel_rfl) (by omega) ?_
    exact ⟨T11, (i + 1), (es ++ [(⟨6, 0, 0, 0, 0, 0, IntKind.u64.wrap x⟩ : Ent)]), kx11, q11, rfl, hY11q, ok8z, hrow11, (by omega), (by simp; omega), (hR.app (Rots.one _ _)), (fun z => by rw [z] at hqs11; cases hqs11), (fun _ => hkx11), rfl⟩
   have h11' : ¬ ((i : Int) < 6) := of_decide_eq_false h11
   exact zcD (z5 [(15, slV kx es.length q), (13, pv 4 0), (12, iv (1 + (zF units 6))), (11, pv 2 0), (3, bv crash), (4, iv who)] (by kernel_rfl) (⟨T8z, es, kx, q, hY8z, ok8z, hrow8z, (by omega), hR, hq, hkx, rfl⟩))
  have h10' : ¬ ((i : Int) < (ks.length : Nat)) := of_decide_eq_false h10
  exact o_d 3 [(48, bv false), (47, undef), (46, undef)] (by kernel_rfl) (zG (zC (zbW rfl (zcD (z5 [(15, slV kx es.length q), (13, pv 4 0), (12, iv (1 + (zF units 6))), (11, pv 2 0), (3, bv crash), (4, iv who)] (by kernel_rfl) (⟨T8z, es, kx, q, hY8z, ok8z, hrow8z, (by omega), hR, hq, hkx, rfl⟩))))))
 rintro s ⟨T7z, es, kx, q, hY7z, ok7z, hrow7z, hes, hR, hq, hkx, rfl⟩
 refine zR (zR (zV (o_d 2 [(62, slV kx es.length q), (61, pv 4 0)] (by kernel_rfl) (zcc (YWishK H hY7z (by rw [hS0z]; exact Nat.zero_le _) (kx := kx) (x := es) (q := q) hq (by omega) hrow7z (fun q => q.2 rfl) (splM rfl (fun k q => q.1) fun T12 hY12q => ?_))))))
 refine (ex_eq (wishY S3 es)).elim fun S14 hS15 => ?_
 have hY16 := hS15.symm ▸ hY12q
 have ok17 : YOK S14 := hS15 ▸ (okW ok7z _)
 have ln18 : S14.l.length ≤ S3.l.length := hS15 ▸ Nat.le_refl _
 refine o_d 1 [(64, bv (((zcj S3.x es).1) != 0))] (by kernel_rfl) (zG (zC (zaj (t := ((zcj S3.x es).1) != 0) rfl (fun q => by rw [(by rw [hS0z, wish_ny hR (by omega)]; rfl : (((zcj S3.x es).1) != 0) = false)] at q; cases q) (fun _ => ?_))))
 refine zaq (zC (zR (zR (zV (o_d 1 [(17, iv 0)] (by kernel_rfl) (zG (zC (zai (zdm (fun μ s => ∃ (T18z : List Blk), ∃ (r : Nat), ∃ (Sr : YS), μ = es.length + 4 - r ∧ YP (fun k => 4 ≤ k) 4 Sr ([inB o (ii ns), inB o2 (ii ks), cw (pl p), .gone] ++ T18z) ∧ YOK Sr ∧ (r ≤ es.length + 4) ∧ (RI p es (1 + (zF units 6)).toNat (zF who (1 + (zF units 6))).toNat (crash && decide (0 < es.length)) r Sr) ∧ s = ⟨reg [(17, iv (r : Int)), (15, slV kx es.length q), (13, pv 4 0), (12, iv (1 + (zF units 6))), (11, pv 2 0), (3, bv crash), (4, iv who)], ([inB o (ii ns), inB o2 (ii ks), cw (pl p), .gone] ++ T18z)⟩) ⟨(es.length + 4 - 0), ?_⟩ ?_)))))))))
 ·skip
  exact z5 [(17, iv (0 : Int)), (15, slV kx es.length q), (13, pv 4 0), (12, iv (1 + (zF units 6))), (11, pv 2 0), (3, bv crash), (4, iv who)] (by kernel_rfl) (⟨T12, 0, S14, rfl, hY16, ok17, (by omega), (by rw [hS15, hS0z]; rw [wishY_ny hR (by omega)]; exact RI.init), rfl⟩)
 rintro μ s ⟨T18z, r, Sr, rfl, hY18z, ok18z, hr, hRI, rfl⟩
 have hl0 := hRI.l0
 have hwW := ziB who (n := (1 + (zF units 6))) (by omega)
 refine zR (zR (zV (o_d 2 [(66, slV kx es.length q), (65, iv (r : Int))] (by kernel_rfl) (o_s (by exact zej rfl (fun z => by rw [hq z]; rfl)) ?_))))
 refine o_s (by refine zaf (v := .int .i64 (i64.wrap ((es.length : Nat) + 4))) (congrArg (Value.int .i64) (w64 (by omega) (by omega))) ?_; kernel_rfl) ?_
 refine o_d 1 [(69, bv (decide ((r : Int) < (es.length : Nat) + 4)))] (by kernel_rfl) (zG (zC (zaj (t := decide ((r : Int) < (es.length : Nat) + 4)) rfl (fun h20 => ?_) (fun h20 => ?_))))
 ·skip
  have h20' : (r : Int) < (es.length : Nat) + 4 := of_decide_eq_true h20
  refine zaq (zC (zR (zai (gcut (fun s => ∃ (T20z : List Blk), ∃ (Sc : YS), YP (fun k => 4 ≤ k) 4 Sc ([inB o (ii ns), inB o2 (ii ks), cw (pl p), .gone] ++ T20z) ∧ YOK Sc ∧ (Sc = if r = 1 ∧ (crash && decide (0 < es.length)) = true then zbr Sr (zF who (1 + (zF units 6))) else Sr) ∧ (Sc.l.length = 0) ∧ s = ⟨reg [(17, iv (r : Int)), (15, slV kx es.length q), (13, pv 4 0), (12, iv (1 + (zF units 6))), (11, pv 2 0), (3, bv crash), (4, iv who)], ([inB o (ii ns), inB o2 (ii ks), cw (pl p), .gone] ++ T20z)⟩) ?_ ?_))))
  ·skip
   refine zR (zV (o_d 3 [(74, bv ((r : Int) == 1)), (73, bv ((r : Int) == 1)), (72, iv (r : Int))] (by kernel_rfl) (zir (b := (r : Int) == 1) 74 rfl (fun h22 => ?_) (fun h22 => ?_))))
   ·skip
    have h22' : (r : Int) = 1 := zcf h22
    refine o_d 3 [(77, bv crash), (76, bv crash), (75, bv crash)] (by kernel_rfl) (zir (b := crash) 77 rfl (fun h23 => ?_) (fun h23 => ?_))
    ·skip
     refine o_d 1 [(78, slV kx es.length q)] (by kernel_rfl) (zb6 rfl (o_s (by exact zej rfl (fun z => by rw [hq z]; rfl)) ?_))
     refine o_d 2 [(81, bv (decide (((es.length : Nat) : Int) > 0))), (80, bv (decide (((es.length : Nat) : Int) > 0)))] (by kernel_rfl) (zG (zC (zaj (t := decide (((es.length : Nat) : Int) > 0)) rfl (fun h24 => ?_) (fun h24 => ?_))))
     ·skip
      have h24' : ((es.length : Nat) : Int) > 0 := of_decide_eq_true h24
      refine zV (o_d 3 [(84, iv (1 + (zF units 6))), (83, iv who), (82, pv 4 0)] (by kernel_rfl) (zcc (zc7 (within12C h_law12_within who (1 + (zF units 6)) (by omega)) rfl rfl rfl ?_)))
      have w25 := ziB who (n := 1 + (zF units 6)) (by omega)
      refine zcc (YCrashK H hY18z  (zF who (1 + (zF units 6))) (spl rfl fun T25 hY25q => ?_))
      refine (ex_eq (zbr Sr (zF who (1 + (zF units 6))))).elim fun S27 hS28 => ?_
      have hY29 := hS28.symm ▸ hY25q
      have ok30 : YOK S27 := hS28 ▸ (ok_crash ok18z _)
      have ln31 : S27.l.length ≤ Sr.l.length := hS28 ▸ (Nat.le_of_eq (congrArg List.length (crash_l _ _)))
      exact zG (z5 [(17, iv (r : Int)), (15, slV kx es.length q), (13, pv 4 0), (12, iv (1 + (zF units 6))), (11, pv 2 0), (3, bv crash), (4, iv who)] (by kernel_rfl) (⟨T25, S27, hY29, ok30, (by rw [if_pos ⟨by omega, by simp_all⟩]; exact hS28), (by omega), rfl⟩))
     have h24' : ¬ (((es.length : Nat) : Int) > 0) := of_decide_eq_false h24
     exact zaq (z5 [(17, iv (r : Int)), (15, slV kx es.length q), (13, pv 4 0), (12, iv (1 + (zF units 6))), (11, pv 2 0), (3, bv crash), (4, iv who)] (by kernel_rfl) (⟨T18z, Sr, hY18z, ok18z, (by rw [if_neg (fun q => by first | omega | (have := q.2; simp_all))]), (by omega), rfl⟩))
    exact o_d 4 [(81, bv false), (80, undef), (79, undef), (78, undef)] (by kernel_rfl) (zG (zC (zbW rfl (zaq (z5 [(17, iv (r : Int)), (15, slV kx es.length q), (13, pv 4 0), (12, iv (1 + (zF units 6))), (11, pv 2 0), (3, bv crash), (4, iv who)] (by kernel_rfl) (⟨T18z, Sr, hY18z, ok18z, (by rw [if_neg (fun q => by first | omega | (have := q.2; simp_all))]), (by omega), rfl⟩))))))
   have h22' : ¬ ((r : Int) = 1) := zcg h22
   exact o_d 7 [(81, bv false), (80, undef), (79, undef), (78, undef), (77, bv false), (76, bv false), (75, undef)] (by kernel_rfl) (zG (zC (zbW rfl (zaq (z5 [(17, iv (r : Int)), (15, slV kx es.length q), (13, pv 4 0), (12, iv (1 + (zF units 6))), (11, pv 2 0), (3, bv crash), (4, iv who)] (by kernel_rfl) (⟨T18z, Sr, hY18z, ok18z, (by rw [if_neg (fun q => by first | omega | (have := q.2; simp_all))]), (by omega), rfl⟩))))))
  rintro s ⟨T20z, Sc, hY20z, ok20z, hC, hl2z, rfl⟩
  refine zR (zV (o_d 1 [(87, pv 4 0)] (by kernel_rfl) (zcc (YTickK H hY20z (by omega) (by rw [ok20z.hd]; have := ok20z.n; omega)  (spl rfl fun T31 hY31q => ?_)))))
  refine (ex_eq (zaJ Sc)).elim fun S33 hS34 => ?_
  have hY35 := hS34.symm ▸ hY31q
  have ok36 : YOK S33 := hS34 ▸ (ok_tick ok20z)
  have ln37 : S33.l.length ≤ Sc.l.length + 16 := hS34 ▸ tick_len ok20z
  refine zG (zC (zR (zV (o_d 1 [(18, iv 0)] (by kernel_rfl) (zG (zC (zai (zdm (fun μ s => ∃ (T37z : List Blk), ∃ (k : Nat), ∃ (Sk : YS), μ = 200 - k ∧ YP (fun k => 4 ≤ k) 4 Sk ([inB o (ii ns), inB o2 (ii ks), cw (pl p), .gone] ++ T37z) ∧ YOK Sk ∧ (k ≤ 200) ∧ (Sk.l.length ≤ 16 + k) ∧ (zes (200 - k) Sk = zeD Sc) ∧ s = ⟨reg [(18, iv (k : Int)), (17, iv (r : Int)), (15, slV kx es.length q), (13, pv 4 0), (12, iv (1 + (zF units 6))), (11, pv 2 0), (3, bv crash), (4, iv who)], ([inB o (ii ns), inB o2 (ii ks), cw (pl p), .gone] ++ T37z)⟩) ⟨(200 - 0), ?_⟩ ?_))))))))
  ·skip
   exact z5 [(18, iv (0 : Int)), (17, iv (r : Int)), (15, slV kx es.length q), (13, pv 4 0), (12, iv (1 + (zF units 6))), (11, pv 2 0), (3, bv crash), (4, iv who)] (by kernel_rfl) (⟨T31, 0, S33, rfl, hY35, ok36, (by omega), (by omega), (by rw [hS34]; rfl), rfl⟩)
  rintro μ s ⟨T37z, k, Sk, rfl, hY37z, ok37z, hk, hln3, hdr, rfl⟩
  refine zR (zR (zV (o_d 3 [(91, bv (decide ((k : Int) < 200))), (90, bv (decide ((k : Int) < 200))), (89, iv (k : Int))] (by kernel_rfl) (zir (b := decide ((k : Int) < 200)) 91 rfl (fun h39 => ?_) (fun h39 => ?_)))))
  ·skip
   have h39' : (k : Int) < 200 := of_decide_eq_true h39
   refine o_d 1 [(92, pv 4 0)] (by kernel_rfl) (zb6 rfl (zcc (zhx H hY37z (by omega) ok37z.nok 0 false (spl rfl fun T39 hY39q => ?_))))
   refine (ex_eq (zaV Sk 0 false)).elim fun S41 hS42 => ?_
   have hY43 := hS42.symm ▸ hY39q
   have ok44 : YOK S41 := hS42 ▸ (ok_dlv ok37z _ _)
   have ln45 : S41.l.length ≤ Sk.l.length + 1 := hS42 ▸ dlv_len _ _ _
   refine o_d 1 [(94, bv ((atS Sk.l 0).2))] (by kernel_rfl) (zG (zC (zaj (t := (atS Sk.l 0).2) rfl (fun h46 => ?_) (fun h46 => ?_))))
   ·skip
    refine zaq (zC (zR (zai (zaq (zC (zV (o_d 1 [(95, iv (k : Int))] (by kernel_rfl) (o_s (by refine zaf (v := .int .i64 (i64.wrap ((k : Int) + 1))) (congrArg (Value.int .i64) (w64 (by omega) (by omega))) ?_; kernel_rfl) ?_))))))))
    refine o_d 1 [(18, iv ((k : Int) + 1))] (by kernel_rfl) (zG (⟨200 - (k + 1), ?_⟩))
    refine zfw [(18, iv ((k + 1) : Int)), (17, iv (r : Int)), (15, slV kx es.length q), (13, pv 4 0), (12, iv (1 + (zF units 6))), (11, pv 2 0), (3, bv crash), (4, iv who)] (by kernel_rfl) (by omega) ?_
    exact ⟨T39, (k + 1), S41, rfl, hY43, ok44, (by omega), (by omega), (by rw [hS42, ← drain_go2 (k := k) (by omega) (by assumption)]; exact hdr), rfl⟩
   refine zcD (zC (zV (o_d 1 [(70, iv (r : Int))] (by kernel_rfl) (o_s (by refine zaf (v := .int .i64 (i64.wrap ((r : Int) + 1))) (congrArg (Value.int .i64) (w64 (by omega) (by omega))) ?_; kernel_rfl) ?_))))
   refine o_d 1 [(17, iv ((r : Int) + 1))] (by kernel_rfl) (zG (⟨es.length + 4 - (r + 1), ?_⟩))
   refine zfw [(17, iv ((r + 1) : Int)), (15, slV kx es.length q), (13, pv 4 0), (12, iv (1 + (zF units 6))), (11, pv 2 0), (3, bv crash), (4, iv who)] (by kernel_rfl) (by omega) ?_
   exact ⟨T39, (r + 1), S41, rfl, hY43, ok44, (by omega), ((hdr.symm.trans ((drain_stop (by assumption)).trans hS42.symm) : zeD Sc = S41) ▸ RI.next hRI hR ⟨hpv.1, by omega⟩ (by omega) (by omega) (fun q => by simp at q; omega) (by omega) hC), rfl⟩
  have h39' : ¬ ((k : Int) < 200) := of_decide_eq_false h39
  refine o_d 3 [(94, bv false), (93, undef), (92, undef)] (by kernel_rfl) (zG (zC (zbW rfl (zcD (zC (zV (o_d 1 [(70, iv (r : Int))] (by kernel_rfl) (o_s (by refine zaf (v := .int .i64 (i64.wrap ((r : Int) + 1))) (congrArg (Value.int .i64) (w64 (by omega) (by omega))) ?_; kernel_rfl) ?_))))))))
  refine o_d 1 [(17, iv ((r : Int) + 1))] (by kernel_rfl) (zG (⟨es.length + 4 - (r + 1), ?_⟩))
  refine zfw [(17, iv ((r + 1) : Int)), (15, slV kx es.length q), (13, pv 4 0), (12, iv (1 + (zF units 6))), (11, pv 2 0), (3, bv crash), (4, iv who)] (by kernel_rfl) (by omega) ?_
  exact ⟨T37z, (r + 1), Sk, rfl, hY37z, ok37z, (by omega), ((hdr.symm.trans (by rw [show 200 - k = 0 by omega]; rfl) : zeD Sc = Sk) ▸ RI.next hRI hR ⟨hpv.1, by omega⟩ (by omega) (by omega) (fun q => by simp at q; omega) (by omega) hC), rfl⟩
 have h20' : ¬ ((r : Int) < (es.length : Nat) + 4) := of_decide_eq_false h20
 refine zcD (zC (zR (zR (zV (o_d 1 [(19, iv 0)] (by kernel_rfl) (zG (zC (zai (zdm (fun μ s => ∃ (T46z : List Blk), ∃ (j : Nat), ∃ (Sj : YS), μ = (1 + (zF units 6)).toNat - j ∧ YP (fun k => 4 ≤ k) 4 Sj ([inB o (ii ns), inB o2 (ii ks), cw (pl p), .gone] ++ T46z) ∧ YOK Sj ∧ (j ≤ (1 + (zF units 6)).toNat) ∧ (∃ B, GY p es (1 + (zF units 6)).toNat B es.length Sj) ∧ s = ⟨reg [(19, iv (j : Int)), (15, slV kx es.length q), (13, pv 4 0), (12, iv (1 + (zF units 6))), (11, pv 2 0)], ([inB o (ii ns), inB o2 (ii ks), cw (pl p), .gone] ++ T46z)⟩) ⟨((1 + (zF units 6)).toNat - 0), ?_⟩ ?_)))))))))
 ·skip
  exact z5 [(19, iv (0 : Int)), (15, slV kx es.length q), (13, pv 4 0), (12, iv (1 + (zF units 6))), (11, pv 2 0)] (by kernel_rfl) (⟨T18z, 0, Sr, rfl, hY18z, ok18z, (by omega), (hRI.end_ (by omega)), rfl⟩)
 rintro μ s ⟨T46z, j, Sj, rfl, hY46z, ok46z, hj, hE, rfl⟩
 refine zR (zR (zV (o_d 3 [(99, bv (decide ((j : Int) < 1 + (zF units 6)))), (98, iv (1 + (zF units 6))), (97, iv (j : Int))] (by kernel_rfl) (zG (zC (zaj (t := decide ((j : Int) < 1 + (zF units 6))) rfl (fun h48 => ?_) (fun h48 => ?_)))))))
 ·skip
  have h48' : (j : Int) < 1 + (zF units 6) := of_decide_eq_true h48
  refine zaq (zC (zR (zai (zR (zV (o_d 2 [(104, iv (j : Int)), (103, pv 4 0)] (by kernel_rfl) (zcc (YVersionK H hY46z  (j : Int) (spl rfl fun T48 hY48q => ?_)))))))))
  refine o_d 5 [(21, bv ((zeP Sj (j : Int)).2)), (20, iv ((zeP Sj (j : Int)).1)), (107, bv ((zeP Sj (j : Int)).2)), (106, iv ((zeP Sj (j : Int)).1)), (102, .tuple #[iv ((zeP Sj (j : Int)).1), bv ((zeP Sj (j : Int)).2)])] (by kernel_rfl) (zG (zC (zR (zV (o_d 3 [(110, bv (!((zeP Sj (j : Int)).2))), (109, bv (!((zeP Sj (j : Int)).2))), (108, bv ((zeP Sj (j : Int)).2))] (by kernel_rfl) (zir (b := !((zeP Sj (j : Int)).2)) 110 rfl (fun q => by rw [(by rw [(end_ver hE hR ⟨hpv.1, by omega⟩ (by omega)).2.2 j (by omega)]; rfl : (!((zeP Sj (j : Int)).2)) = false)] at q; cases q) (fun k50 => ?_)))))))
  refine o_d 2 [(112, pv 2 0), (111, iv ((zeP Sj (j : Int)).1))] (by kernel_rfl) (zb6 rfl (o_s (by refine z4 (v := iv (p 0)) rfl rfl ?_; exact pl_r p 0 rfl (by omega)) ?_))
  refine o_d 1 [(114, slV kx es.length q)] (by kernel_rfl) (zb6 rfl (o_s (by exact zej rfl (fun z => by rw [hq z]; rfl)) ?_))
  refine zb6 rfl (o_s (by refine zaf (v := .int .i64 (i64.wrap (p 0 + (es.length : Nat)))) (congrArg (Value.int .i64) (w64 (by omega) (by omega))) ?_; kernel_rfl) ?_)
  refine o_d 2 [(118, bv (((zeP Sj (j : Int)).1) != (p 0 + (es.length : Nat)))), (117, bv (((zeP Sj (j : Int)).1) != (p 0 + (es.length : Nat))))] (by kernel_rfl) (zG (z5 [(118, bv (((zeP Sj (j : Int)).1) != (p 0 + (es.length : Nat)))), (19, iv (j : Int)), (15, slV kx es.length q), (13, pv 4 0), (12, iv (1 + (zF units 6))), (11, pv 2 0)] (by kernel_rfl) (zaj (t := ((zeP Sj (j : Int)).1) != (p 0 + (es.length : Nat))) rfl (fun q => by rw [(bne_eq_false_iff_eq.2 (by rw [(end_ver hE hR ⟨hpv.1, by omega⟩ (by omega)).2.2 j (by omega)]) : (((zeP Sj (j : Int)).1) != (p 0 + (es.length : Nat))) = false)] at q; cases q) (fun _ => ?_))))
  refine zaq (zC (zV (o_d 1 [(100, iv (j : Int))] (by kernel_rfl) (o_s (by refine zaf (v := .int .i64 (i64.wrap ((j : Int) + 1))) (congrArg (Value.int .i64) (w64 (by omega) (by omega))) ?_; kernel_rfl) ?_))))
  refine o_d 1 [(19, iv ((j : Int) + 1))] (by kernel_rfl) (zG (⟨(1 + (zF units 6)).toNat - (j + 1), ?_⟩))
  refine zfw [(19, iv ((j + 1) : Int)), (15, slV kx es.length q), (13, pv 4 0), (12, iv (1 + (zF units 6))), (11, pv 2 0)] (by kernel_rfl) (by omega) ?_
  exact ⟨T48, (j + 1), Sj, rfl, hY48q, ok46z, (by omega), hE, rfl⟩
 have h48' : ¬ ((j : Int) < 1 + (zF units 6)) := of_decide_eq_false h48
 refine zcD (zC (zR (zbx ([inB o (ii ns), inB o2 (ii ks), cw (pl p), .gone] ++ T46z) (List.append_nil _) (d_n 1 1 _ [(119, pv 4 0)] ([inB o (ii ns), inB o2 (ii ks), cw (pl p), .gone] ++ T46z) [] (by kernel_rfl) rfl rfl (d_clS (zgl (x := ⟨1, [], [], none⟩) (by kernel_rfl)) (YPoolF H hY46z (spl rfl fun T50 hY50q => fun rd50 wr50 hw50 => ?_)))))))
 refine d_s rfl rfl rfl (by kernel_rfl) (by refine run_fld (v := iv (Sj.x.p 0)) rfl ?_; exact pl_r Sj.x.p 0 rfl (by omega)) ?_
 refine d_n 1 4 _ [(122, pv 2 0)] ([inB o (ii ns), inB o2 (ii ks), cw (pl p), .gone] ++ T50) [⟨1, rd50, wr50, some ([inB o (ii ns), inB o2 (ii ks), cw (pl p), .gone] ++ T46z).length⟩] (by kernel_rfl) rfl rfl (d_ldF (v := iv (p 0)) rfl rfl (pl_r p 0 rfl (by omega)) (fits_ld (by decide) hw50 (by simp) (fun y hy => .inr (zgl (x := ⟨4, [], [], none⟩) (by kernel_rfl) y hy))) ?_)
 refine d_n 1 6 _ [(124, slV kx es.length q)] ([inB o (ii ns), inB o2 (ii ks), cw (pl p), .gone] ++ T50) [⟨4, [2], [], none⟩, ⟨1, rd50, wr50, some ([inB o (ii ns), inB o2 (ii ks), cw (pl p), .gone] ++ T46z).length⟩] (by kernel_rfl) rfl rfl (d_s rfl rfl rfl (by kernel_rfl) (by exact zej rfl (fun z => by rw [hq z]; rfl)) ?_)
 refine d_s rfl rfl rfl (by kernel_rfl) (by refine zaf (v := .int .i64 (i64.wrap (p 0 + (es.length : Nat)))) (congrArg (Value.int .i64) (w64 (by omega) (by omega))) ?_; kernel_rfl) ?_
 refine d_n 2 10 _ [(10, bv ((Sj.x.p 0) == (p 0 + (es.length : Nat)))), (127, bv ((Sj.x.p 0) == (p 0 + (es.length : Nat))))] ([inB o (ii ns), inB o2 (ii ks), cw (pl p), .gone] ++ T50) [⟨4, [2], [], none⟩, ⟨1, rd50, wr50, some ([inB o (ii ns), inB o2 (ii ks), cw (pl p), .gone] ++ T46z).length⟩] (by kernel_rfl) rfl rfl (zb2 (zC (zaZ ?_)))
 have E0_ : ((Sj.x.p 0) == (p 0 + (es.length : Nat))) = true := by
  exact beq_iff_eq.2 (end_ver hE hR ⟨hpv.1, by omega⟩ (by omega)).1
 exact qH [bv ((Sj.x.p 0) == (p 0 + (es.length : Nat)))] (qE rfl rfl) rfl (by rw [E0_]; rfl) rfl (show List.all [inB o (ii ns), inB o2 (ii ks)] zjn = true from (all_cons (ziu _ (zaY ns)) (all_cons (ziu _ (zaY ks)) rfl)))
end Go.Rh
