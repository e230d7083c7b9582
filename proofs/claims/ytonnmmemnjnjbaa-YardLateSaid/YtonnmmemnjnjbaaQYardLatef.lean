/- The proofs over the intermediate form, part QYardLatef. -/
import Derived.Test.YtonnmmemnjnjbaaQYardLatee
import Derived.Test.YtonnmmemnjnjbaaQYardLated
open Go.IntKind (i64)
set_option linter.unusedVariables false
set_option linter.unusedSimpArgs false
set_option maxRecDepth 100000
namespace Go.Rh
section
variable {C : CallT} {un : Nat → Nat → Bool} {K : St → Prop} {L : List (Nat × Value)} {h : List Blk} {i nid : Nat} {log : List Foot}
theorem d_mkF {d : Nat} {op : IOp} {r : List ICell} {v : Value} {B : Blk} (hm : op.makes = true) (hs : stepE op (evf (reg L)) (hf h) nid = some (v, .push B)) (hg : h[nid]? = some .gone) (hfit : fits un ⟨i, [], [nid], none⟩ log)
    (hk : GD C un (i + 1) (nid + 1) r (⟨i, [], [nid], none⟩ :: log) K ⟨reg ((d, v) :: L), h.set nid B⟩) : GD C un i nid (⟨some d, op, none⟩ :: r) log K ⟨reg L, h⟩ := by
  refine ⟨?_⟩
  show stepD C un ⟨i, nid, ⟨some d, op, none⟩⟩ log (fun log' s' => wpD C un (annot (i + 1) (if op.makes then nid + 1 else nid) r) log' K s') ⟨reg L, h⟩
  have hsp : special op = 0 := by cases op <;> first | rfl | cases hm
  have hrd : rdE op (evf (reg L)) = [] := by unfold rdE; rw [makes_rdl hm]; rfl
  refine (stepD_det (fun _ => hsp)).2 ⟨⟨i, [], [nid], none⟩, ⟨putf (reg L) (some d) v, h.set nid B⟩, ?_, hfit, ?_⟩
  · simp [detD, gJ, want, hs, hrd, hg]
  · have hk := hk.out
    simp only [hm, if_true]
    exact hk
theorem d_callF {d : Nat} {g : String} {args : List Opd} {r : List ICell} {R : Post} (sel : List Nat) (h1 : List Blk) (a1 : List Value) (hC : C g a1 h1 R) (hl : h1.length = sel.length) (ha : a1.map (renV (rho sel h.length)) = args.map (evf (reg L)))
    (hs : ∀ (i k : Nat) b1, sel[i]? = some k → h1[i]? = some b1 → ∃ b, h[k]? = some b ∧ Blk.view (renB (rho sel h.length) b1) b)
    (hd : ∀ (i j k : Nat) b1, i ≠ j → sel[i]? = some k → sel[j]? = some k → h1[i]? = some b1 → b1.rw = false)
    (hfit : fits un ⟨i, sel, wrsel sel h1, some h.length⟩ log) (hx : ∃ v h1', R v h1' ∧ sel.length ≤ h1'.length ∧ flagsL h1 h1')
    (hK : ∀ v h1', R v h1' → goneL h1 h1' ∧ GD C un (i + 1) nid r (⟨i, sel, wrsel sel h1, some h.length⟩ :: log) K ⟨reg ((d, renV (rho sel h.length) v) :: L), back h sel h1' (rho sel h.length)⟩) : GD C un i nid (⟨some d, .call g args, none⟩ :: r) log K ⟨reg L, h⟩ :=
  ⟨⟨sel, h1, a1, R, hC, hl, ha, hs, hd, hfit, fun _ => hx, fun v h1' hR _ _ => ⟨(hK v h1' hR).1, (hK v h1' hR).2.out⟩⟩⟩
end
theorem ptrs_succ (k : Nat) (f : Nat → Nat) : ptrs k f ++ [pv (f k) 0] = ptrs (k + 1) f := by
  simp [ptrs, List.range_succ]
theorem putUC {P : Program} (hc : k_yard_row_yard_unit_put P) (k : Nat) (hk : k ≤ 1000) (f : Nat → Nat) (ro : Option Nat) (ho : ro = none → k = 0) (w : Value) (T : List Blk) :
    Env P "(*roundhouse/yard.row[*roundhouse/yard.unit]).put" [pv 0 1, sv 2 0 1 1] ([cw [pv 3 0, slV 1 k ro, w], pB k f ro, cw [pv (f k) 0], cr []] ++ T)
      (fun v h' => v = .tuple #[] ∧ ∃ m, (ro.isSome = true ∧ h' = [cw [pv 3 0, slV 1 (k + 1) (some m), w], pB (k + 1) f (some m), cw [pv (f k) 0], cr []] ++ T) ∨ h' = [cw [pv 3 0, slV (4 + T.length) (k + 1) (some m), w], pB k f ro, cw [pv (f k) 0], cr []] ++ T ++ [pB (k + 1) f (some m)]) := by
  refine Env.by2 hc ?_
  unfold c_yard_row_yard_unit_put
  show GC _ _ _ _ ⟨reg [(0, pv 0 1), (1, sv 2 0 1 1)], [cw [pv 3 0, slV 1 k ro, w], pB k f ro, cw [pv (f k) 0], cr []] ++ T⟩
  refine greg (o_d 6 [(9, sv 2 0 1 1), (8, slV 1 k ro), (7, pv 0 1), (6, pv 0 1), (5, pv 0 1), (4, pv 0 1)] (by kernel_rfl) (o_appC (k := 1) (n := k) (o := ro) (q := 1) (cs := ptrs k f) (xs := [pv (f k) 0]) (cs2 := ptrs (k + 1) f) (zl := [.pointer none]) rfl rfl rfl (fun m q => by subst q; rfl) (fun q => by have := ho q; subst this; exact ⟨rfl, rfl⟩) (by simp [ptrs]) rfl rfl (app_first rfl rfl (by simp)) rfl (by omega) (by omega) (ptrs_succ k f) (fun m q => ?_) (fun m => ?_)))
  · subst q
    exact o_b 3 [(12, pv 0 1), (11, pv 0 1)] ([cw [pv 3 0, slV 1 (k + 1) (some m), w], pB (k + 1) f (some m), cw [pv (f k) 0], cr []] ++ T) (by kernel_rfl) (o_nil ⟨trivial, _, .inl rfl, [], rfl, tup_nil, rfl, m, .inl ⟨rfl, rfl⟩⟩)
  · have hl : ([cw [pv 3 0, slV 1 k ro, w], pB k f ro, cw [pv (f k) 0], cr []] ++ T).length = 4 + T.length := by simp; omega
    rw [hl]
    exact o_b 3 [(12, pv 0 1), (11, pv 0 1)] ([cw [pv 3 0, slV (4 + T.length) (k + 1) (some m), w], pB k f ro, cw [pv (f k) 0], cr []] ++ T ++ [pB (k + 1) f (some m)]) (by kernel_rfl) (o_nil ⟨trivial, _, .inl rfl, [], rfl, tup_nil, rfl, m, .inr rfl⟩)
def u00 : US := ⟨zeroP, false, 0, nr0, none⟩
def nyS (p : Flat) (n : Nat) : YS := ⟨n, newHS p (n : Nat), fun _ => ⟨zeroP, false, 0, nr0⟩, []⟩
def YHn (k : Nat) (x : HS) (h : List Blk) : Prop := ∃ ro pl, YH k ro x (fun _ => u00) [] none pl h ∧ pl 0 = 0
theorem app_at {h T : List Blk} {k : Nat} {b : Blk} (hb : h[k]? = some b) : (h ++ T)[k]? = some b := by
  rw [List.getElem?_append_left (lt_of_getElem? hb)]; exact hb
theorem new_at {h T : List Blk} (j : Nat) : (h ++ T)[h.length + j]? = T[j]? := by
  rw [List.getElem?_append_right (Nat.le_add_right _ _), Nat.add_sub_cancel_left]
theorem YH.more {k : Nat} {ro : Option Nat} {x : HS} {us : Nat → US} {l : List Nt} {o : Gr} {pl : Nat → Nat} {h : List Blk} (Y : YH k ro x us l o pl h) (T : List Blk) : YH k ro x us l o pl (h ++ T) :=
  ⟨Y.inj, Y.ro0, app_at Y.y, app_at Y.hd, app_at Y.hc, app_at Y.hm, app_at Y.ur, app_at Y.way, Y.ok, fun j hj => app_at (Y.un j hj), fun j hj => app_at (Y.pn j hj), fun j hj => app_at (Y.ch j hj), fun j hj => let ⟨B, h1, h2⟩ := Y.wh j hj; ⟨B, app_at h1, h2⟩⟩
theorem YH.grow {k : Nat} {ro : Option Nat} {x : HS} {pl : Nat → Nat} {h h' : List Blk} (Y : YH k ro x (fun _ => u00) [] none pl h) (hp : pl 0 = 0) (ku m : Nat) (f : Nat → Nat) (N : Nat) (hN : N = h.length)
    (hf : ∀ j, j < k → f j = pl (6 + 4 * j)) (hfk : f k = N + 1) (hku : ku = pl 4 ∨ N + 4 ≤ ku)
    (e0 : h'[pl 0]? = some (cw (yardL (pl 1) (slV ku (k + 1) (some m)) (gV (pl 5) 0 none))))
    (e4 : h'[ku]? = some (pB (k + 1) f (some m)))
    (ek : ∀ a, a < 6 + 4 * k → a ≠ 0 → a ≠ 4 → h'[pl a]? = h[pl a]?)
    (e1 : h'[N]? = some (.chan 1 (([] : List Nt).map ntE))) (e2 : h'[N + 1]? = some (cw (unitL (N + 3) zeroP 0 N))) (e3 : ∃ c rw, h'[N + 2]? = some (.cells c rw)) (e5 : h'[N + 3]? = some (cw (planeL zeroP false nr0 (.slice none 0 0)))) : YHn (k + 1) x h' := by
  subst hN
  have hlt : ∀ a, a < 6 + 4 * k → pl a < h.length := fun a ha => Y.lt ha
  let P2 : Nat → Nat := fun a => if a = 4 then ku else if a < 6 + 4 * k then pl a else if a = 6 + 4 * k then h.length + 1 else if a = 7 + 4 * k then h.length + 3 else if a = 8 + 4 * k then h.length else h.length + 2
  have q4 : P2 4 = ku := if_pos rfl
  have q1 : ∀ a, a ≠ 4 → a < 6 + 4 * k → P2 a = pl a := fun a h4 ha => by
    show (if a = 4 then _ else _) = _
    rw [if_neg h4, if_pos ha]
  have q6 : P2 (6 + 4 * k) = h.length + 1 := by
    show (if 6 + 4 * k = 4 then _ else _) = _
    rw [if_neg (by omega), if_neg (by omega), if_pos rfl]
  have q7 : P2 (7 + 4 * k) = h.length + 3 := by
    show (if 7 + 4 * k = 4 then _ else _) = _
    rw [if_neg (by omega), if_neg (by omega), if_neg (by omega), if_pos rfl]
  have q8 : P2 (8 + 4 * k) = h.length := by
    show (if 8 + 4 * k = 4 then _ else _) = _
    rw [if_neg (by omega), if_neg (by omega), if_neg (by omega), if_neg (by omega), if_pos rfl]
  have q9 : P2 (9 + 4 * k) = h.length + 2 := by
    show (if 9 + 4 * k = 4 then _ else _) = _
    rw [if_neg (by omega), if_neg (by omega), if_neg (by omega), if_neg (by omega), if_neg (by omega)]
  refine ⟨some m, P2, ⟨?_, (fun e => by cases e), ?_, ?_, ?_, ?_, ?_, ?_, rfl, ?_, ?_, ?_, ?_⟩, by rw [q1 0 (by omega) (by omega)]; exact hp⟩
  · intro a b ha hb e
    have key : ∀ a, a < 6 + 4 * (k + 1) → (a ≠ 4 ∧ a < 6 + 4 * k ∧ P2 a = pl a ∧ P2 a < h.length ∧ (a ≠ 4 → pl a ≠ pl 4)) ∨ (a = 4 ∧ P2 a = ku) ∨ (a = 6 + 4 * k ∧ P2 a = h.length + 1) ∨ (a = 7 + 4 * k ∧ P2 a = h.length + 3) ∨ (a = 8 + 4 * k ∧ P2 a = h.length) ∨ (a = 9 + 4 * k ∧ P2 a = h.length + 2) := fun a ha => by
      by_cases h4 : a = 4
      · subst h4; exact .inr (.inl ⟨rfl, q4⟩)
      by_cases h6 : a < 6 + 4 * k
      · exact .inl ⟨h4, h6, q1 a h4 h6, by rw [q1 a h4 h6]; exact hlt a h6, fun h4 e => h4 (Y.inj a 4 h6 (by omega) e)⟩
      have : a = 6 + 4 * k ∨ a = 7 + 4 * k ∨ a = 8 + 4 * k ∨ a = 9 + 4 * k := by omega
      rcases this with rfl | rfl | rfl | rfl
      · exact .inr (.inr (.inl ⟨rfl, q6⟩))
      · exact .inr (.inr (.inr (.inl ⟨rfl, q7⟩)))
      · exact .inr (.inr (.inr (.inr (.inl ⟨rfl, q8⟩))))
      · exact .inr (.inr (.inr (.inr (.inr ⟨rfl, q9⟩))))
    have ka := key a ha
    have kb := key b hb
    have l4 := hlt 4 (by omega)
    rcases ka with ⟨a1, a2, a3, a4, a5⟩ | ⟨a1, a2⟩ | ⟨a1, a2⟩ | ⟨a1, a2⟩ | ⟨a1, a2⟩ | ⟨a1, a2⟩ <;> rcases kb with ⟨b1, b2, b3, b4, b5⟩ | ⟨b1, b2⟩ | ⟨b1, b2⟩ | ⟨b1, b2⟩ | ⟨b1, b2⟩ | ⟨b1, b2⟩ <;> first | omega | exact Y.inj a b a2 b2 (a3.symm.trans (e.trans b3)) | skip
    all_goals
      rcases hku with hku | hku
      · first
          | exact absurd (a3.symm.trans (e.trans (b2.trans hku))) (a5 a1)
          | exact absurd (b3.symm.trans (e.symm.trans (a2.trans hku))) (b5 b1)
      · omega
  · rw [q1 0 (by omega) (by omega), q1 1 (by omega) (by omega), q4, q1 5 (by omega) (by omega)]; exact e0
  · rw [q1 1 (by omega) (by omega), q1 2 (by omega) (by omega), q1 3 (by omega) (by omega), ek 1 (by omega) (by omega) (by omega)]; exact Y.hd
  · rw [q1 2 (by omega) (by omega), ek 2 (by omega) (by omega) (by omega)]; exact Y.hc
  · rw [q1 3 (by omega) (by omega), ek 3 (by omega) (by omega) (by omega)]; exact Y.hm
  · rw [q4, e4]
    unfold pB
    have : ptrs (k + 1) f = ptrs (k + 1) (fun j => P2 (6 + 4 * j)) := by
      unfold ptrs
      refine List.map_congr_left fun j hj => ?_
      have hj := List.mem_range.1 hj
      show pv (f j) 0 = pv (P2 (6 + 4 * j)) 0
      by_cases hjk : j = k
      · subst hjk; rw [hfk, q6]
      · rw [hf j (by omega), q1 _ (by omega) (by omega)]
    rw [this]
  · rw [q1 5 (by omega) (by omega), ek 5 (by omega) (by omega) (by omega)]; exact Y.way
  · intro j hj
    by_cases hjk : j = k
    · subst hjk; rw [q6, q7, q8]; exact e2
    · rw [q1 _ (by omega) (by omega), q1 _ (by omega) (by omega), q1 _ (by omega) (by omega), ek _ (by omega) (by omega) (by omega)]; exact Y.un j (by omega)
  · intro j hj
    by_cases hjk : j = k
    · subst hjk; rw [q7, q9]; exact e5
    · rw [q1 _ (by omega) (by omega), q1 _ (by omega) (by omega), ek _ (by omega) (by omega) (by omega)]; exact Y.pn j (by omega)
  · intro j hj
    by_cases hjk : j = k
    · subst hjk; rw [q8]; exact e1
    · rw [q1 _ (by omega) (by omega), ek _ (by omega) (by omega) (by omega)]; exact Y.ch j (by omega)
  · intro j hj
    by_cases hjk : j = k
    · subst hjk; rw [q9]
      obtain ⟨c, rw, e3⟩ := e3
      exact ⟨_, e3, ⟨c, rw, rfl⟩⟩
    · rw [q1 _ (by omega) (by omega), ek _ (by omega) (by omega) (by omega)]; exact Y.wh j (by omega)
theorem back_nil {h h1 : List Blk} {ρ : Nat → Nat} : back h [] h1 ρ = h ++ h1.map (renB ρ) := by
  unfold back
  have : (h.mapIdx fun k b => match over k [] h1 with | some b' => renB ρ b' | none => b) = h := by
    refine List.ext_getElem? fun k => ?_
    simp [List.getElem?_mapIdx, over]
  exact congrArg (· ++ h1.map (renB ρ)) this
theorem set_new {h T : List Blk} {j : Nat} {b : Blk} : (h ++ T).set (h.length + j) b = h ++ T.set j b := by
  rw [List.set_append_right _ _ (Nat.le_add_right _ _), Nat.add_sub_cancel_left]
theorem pl_nodup {k : Nat} {ro : Option Nat} {x : HS} {us : Nat → US} {l : List Nt} {o : Gr} {pl : Nat → Nat} {h : List Blk} (Y : YH k ro x us l o pl h) {a b : Nat} (ha : a < 6 + 4 * k) (hb : b < 6 + 4 * k) (hab : a ≠ b) : pl a ≠ pl b := fun e => hab (Y.inj a b ha hb e)
theorem new_body {P : Program} (H : YCode P) {B : Nat} {Q : IExit → St → Prop} {k : Nat} {x : HS} {h : List Blk} {v a c : Value} (hk : k < 16) (hY : YHn k x h)
    (hQ : ∀ h' v27 v28 v29 v30 v31 v32, YHn (k + 1) x h' → h.length ≤ h'.length → Q .normal ⟨reg [(32, v32), (31, v31), (30, v30), (29, v29), (28, v28), (27, v27), (26, pv 0 1), (25, pv 0 0), (24, pv 0 0), (23, v), (22, a), (21, c), (8, pv 0 0)], h'⟩) :
    GC (Env P) B (.dreg [⟨(some 24), .mv (.t 8), none⟩, ⟨(some 25), .nilc (.t 24), none⟩, ⟨(some 26), .fad 1 (.t 25), none⟩, ⟨(some 27), .call "roundhouse/plane.New" [], none⟩, ⟨(some 28), .mkc 1, none⟩, ⟨(some 29), .bld [(1, .pointer none), (324, (.int .i64 0)), (6, (.int .u64 0)), (1, (.int .i64 0)), (1, (.chan none))] [(0, 1, (.t 27)), (332, 1, (.t 28))], none⟩, ⟨(some 30), .box (.t 29), none⟩, ⟨(some 31), .bsl [(1, .pointer none)] 1 1 [(0, 1, (.t 30))], none⟩, ⟨(some 32), .call "(*roundhouse/yard.row[*roundhouse/yard.unit]).put" [(.t 26), (.t 31)], none⟩] [[], [0], [1, 0], [], [], [3, 4], [5, 3, 4], [6, 5, 3, 4], [2, 1, 0, 7, 6, 5, 3, 4]]) Q ⟨reg [(23, v), (22, a), (21, c), (8, pv 0 0)], h⟩ := by
  obtain ⟨ro, pl, Y, hp⟩ := hY
  refine gdregD (h ++ [.gone, .gone, .gone]) rfl (d_n 3 3 h.length [(26, pv 0 1), (25, pv 0 0), (24, pv 0 0)] (h ++ [.gone, .gone, .gone]) [] (by kernel_rfl) rfl rfl (d_callF [] [] [] (PNewC H.h_plane_New) rfl rfl (fun i k b1 e => by simp at e) (fun i j k b1 _ e => by simp at e) (fun y hy => by cases hy) ⟨_, _, ⟨rfl, rfl⟩, Nat.zero_le _, flags_app [] [_]⟩ ?_))
  rintro v1 h1' ⟨rfl, rfl⟩
  refine ⟨goneL_nil, ?_⟩
  have hlen : (h ++ [Blk.gone, .gone, .gone]).length = h.length + 3 := by simp
  rw [back_nil, hlen, List.append_assoc]
  have e1 : renV (rho [] (h.length + 3)) (pv 0 0) = pv (h.length + 3) 0 := rfl
  have e2 : [cw (planeL zeroP false nr0 (.slice none 0 0))].map (renB (rho [] (h.length + 3))) = [cw (planeL zeroP false nr0 (.slice none 0 0))] := by
    simp only [List.map_cons, List.map_nil]; rw [ren_planeL (w' := .slice none 0 0) rfl]
  rw [e1, e2]
  refine d_mkF (B := .chan 1 (([] : List Nt).map ntE)) (v := .chan (some h.length)) rfl rfl (new_at 0) ?_ ?_
  · intro y hy
    rcases List.mem_cons.1 hy with rfl | hy
    · refine .inl ⟨fun k hk => ?_, fun k _ => by simp, ?_, trivial⟩
      · simp [wrsel] at hk
      · intro k hk; simp at hk; omega
    · cases hy
  rw [show (h ++ ([Blk.gone, .gone, .gone] ++ [cw (planeL zeroP false nr0 (.slice none 0 0))])).set h.length (.chan 1 (([] : List Nt).map ntE)) = h ++ [.chan 1 (([] : List Nt).map ntE), .gone, .gone, cw (planeL zeroP false nr0 (.slice none 0 0))] from set_new (j := 0)]
  refine d_s rfl rfl rfl (by kernel_rfl) (by refine run_bld (c := unitL (h.length + 3) zeroP 0 h.length) ?_; exact bld_unit _ _) ?_
  refine d_mkF (B := cw (unitL (h.length + 3) zeroP 0 h.length)) (v := pv (h.length + 1) 0) rfl rfl (new_at 1) (fun y hy => .inr ?_) ?_
  · rcases List.mem_cons.1 hy with rfl | hy
    · rfl
    · rcases List.mem_cons.1 hy with rfl | hy
      · rfl
      · cases hy
  rw [set_new (j := 1)]
  refine d_mkF (B := cw [pv (h.length + 1) 0]) (v := sv (h.length + 2) 0 1 1) rfl rfl (new_at 2) (fun y hy => .inr ?_) ?_
  · rcases List.mem_cons.1 hy with rfl | hy
    · rfl
    · rcases List.mem_cons.1 hy with rfl | hy
      · rfl
      · rcases List.mem_cons.1 hy with rfl | hy
        · rfl
        · cases hy
  rw [set_new (j := 2)]
  show GD _ _ _ _ _ _ _ ⟨_, h ++ [.chan 1 (([] : List Nt).map ntE), cw (unitL (h.length + 3) zeroP 0 h.length), cw [pv (h.length + 1) 0], cw (planeL zeroP false nr0 (.slice none 0 0))]⟩
  generalize hh5 : h ++ [.chan 1 (([] : List Nt).map ntE), cw (unitL (h.length + 3) zeroP 0 h.length), cw [pv (h.length + 1) 0], cw (planeL zeroP false nr0 (.slice none 0 0))] = h5
  have n0_ : h5[h.length]? = some (.chan 1 (([] : List Nt).map ntE)) := by rw [← hh5]; exact new_at 0
  have n1_ : h5[h.length + 1]? = some (cw (unitL (h.length + 3) zeroP 0 h.length)) := by rw [← hh5]; exact new_at 1
  have n2_ : h5[h.length + 2]? = some (cw [pv (h.length + 1) 0]) := by rw [← hh5]; exact new_at 2
  have n3_ : h5[h.length + 3]? = some (cw (planeL zeroP false nr0 (.slice none 0 0))) := by rw [← hh5]; exact new_at 3
  have Y5 : YH k ro x (fun _ => u00) [] none pl h5 := hh5 ▸ Y.more _
  have hl5 : h5.length = h.length + 4 := by rw [← hh5]; simp
  have hlt : ∀ a, a < 6 + 4 * k → pl a < h.length := fun a ha => Y.lt ha
  -- the callee's places: 0 the yard, 1 the row, 2 the new pointer, 3 the head, 4 + j the units
  let sel : List Nat := [pl 0, pl 4, h.length + 2, pl 1] ++ (List.range (k + 1)).map fun j => if j < k then pl (6 + 4 * j) else h.length + 1
  have hsl : sel.length = 4 + (k + 1) := by simp [sel]; omega
  have hs4 : ∀ j, j < k + 1 → sel[4 + j]? = some (if j < k then pl (6 + 4 * j) else h.length + 1) := fun j hj => by
    show ([pl 0, pl 4, h.length + 2, pl 1] ++ (List.range (k + 1)).map fun j => if j < k then pl (6 + 4 * j) else h.length + 1)[4 + j]? = _
    rw [List.getElem?_append_right (by simp)]
    simp [hj]
  have hsi : ∀ (t q : Nat), sel[t]? = some q → (t = 0 ∧ q = pl 0) ∨ (t = 1 ∧ q = pl 4) ∨ (t = 2 ∧ q = h.length + 2) ∨ (t = 3 ∧ q = pl 1) ∨ ∃ j, j < k + 1 ∧ t = 4 + j ∧ q = if j < k then pl (6 + 4 * j) else h.length + 1 := fun t q e => by
    rcases Nat.lt_or_ge t 4 with h4 | h4
    · match t, h4 with
      | 0, _ => exact .inl ⟨rfl, (Option.some.inj e).symm⟩
      | 1, _ => exact .inr (.inl ⟨rfl, (Option.some.inj e).symm⟩)
      | 2, _ => exact .inr (.inr (.inl ⟨rfl, (Option.some.inj e).symm⟩))
      | 3, _ => exact .inr (.inr (.inr (.inl ⟨rfl, (Option.some.inj e).symm⟩)))
    · obtain ⟨j, rfl⟩ : ∃ j, t = 4 + j := ⟨t - 4, by omega⟩
      have hj : j < k + 1 := by have := lt_of_getElem? e; omega
      rw [hs4 j hj] at e
      exact .inr (.inr (.inr (.inr ⟨j, hj, rfl, (Option.some.inj e).symm⟩)))
  have hinj : ∀ (t t' q : Nat), sel[t]? = some q → sel[t']? = some q → t = t' := fun t t' q e1 e2 => by
    have nd := fun a b ha hb hab => pl_nodup Y (a := a) (b := b) ha hb hab
    have l0 := hlt 0 (by omega)
    have l1 := hlt 1 (by omega)
    have l4 := hlt 4 (by omega)
    rcases hsi t q e1 with ⟨a1, a2⟩ | ⟨a1, a2⟩ | ⟨a1, a2⟩ | ⟨a1, a2⟩ | ⟨j, hj, a1, a2⟩ <;> rcases hsi t' q e2 with ⟨b1, b2⟩ | ⟨b1, b2⟩ | ⟨b1, b2⟩ | ⟨b1, b2⟩ | ⟨j', hj', b1, b2⟩
    all_goals first
      | omega
      | exact absurd (a2.symm.trans b2) (nd _ _ (by omega) (by omega) (by omega))
      | skip
    all_goals first
      | (split at a2
         · have := hlt (6 + 4 * j) (by omega)
           first | omega | exact absurd (a2.symm.trans b2) (nd _ _ (by omega) (by omega) (by omega))
         · omega)
      | (split at b2
         · have := hlt (6 + 4 * j') (by omega)
           first | omega | exact absurd (a2.symm.trans b2) (nd _ _ (by omega) (by omega) (by omega))
         · omega)
      | skip
    split at a2 <;> split at b2
    · by_cases hjj : j = j'
      · omega
      · exact absurd (a2.symm.trans b2) (nd _ _ (by omega) (by omega) (by omega))
    · have := hlt (6 + 4 * j) (by omega); omega
    · have := hlt (6 + 4 * j') (by omega); omega
    · omega
  have hρ : ∀ (t q : Nat), sel[t]? = some q → rho sel h5.length t = q := fun t q e => rho_lt e
  have hptr : ∀ j, j < k + 1 → rho sel h5.length (4 + j) = if j < k then pl (6 + 4 * j) else h.length + 1 := fun j hj => hρ _ _ (hs4 j hj)
  have hpk : rho sel h5.length (4 + k) = h.length + 1 := by rw [hptr k (by omega), if_neg (by omega)]
  refine d_callF sel ([cw [pv 3 0, slV 1 k ro, .slice none 0 0], pB k (fun j => 4 + j) ro, cw [pv (4 + k) 0], cr []] ++ List.replicate (k + 1) (cr [])) [pv 0 1, sv 2 0 1 1] (putUC H.h_yard_row_yard_unit_put k (by omega) (fun j => 4 + j) ro Y.ro0 (.slice none 0 0) _) ?_ ?_ ?_ (fun t t' q b1 htt e1 e2 _ => absurd (hinj t t' q e1 e2) htt) (fun y hy => .inr ?_) ?_ ?_
  · rw [hsl]; simp; omega
  · refine cons_eq ?_ (cons_eq ?_ rfl)
    · show pv (rho sel h5.length 0) 1 = pv 0 1
      rw [hρ 0 (pl 0) rfl, hp]
    · show sv (rho sel h5.length 2) 0 1 1 = sv (h.length + 2) 0 1 1
      rw [hρ 2 (h.length + 2) rfl]
  · intro t q b1 e1 e2
    rcases hsi t q e1 with ⟨rfl, rfl⟩ | ⟨rfl, rfl⟩ | ⟨rfl, rfl⟩ | ⟨rfl, rfl⟩ | ⟨j, hj, rfl, rfl⟩
    · cases e2
      refine ⟨_, Y5.y, .inl (.inl ?_)⟩
      show Blk.seen (renB _ (.cells (yardL 3 (slV 1 k ro) (.slice none 0 0)) true)) _
      exact seen_yard (hρ 3 (pl 1) rfl) (ren1_slV ro (hρ 1 (pl 4) rfl)) rfl (fun q => q)
    · cases e2
      refine ⟨_, Y5.ur, .inl ?_⟩
      unfold pB
      cases ro with
      | none => exact .inr ⟨rfl, rfl⟩
      | some m =>
        refine .inl ?_
        show Blk.seen (renB _ (.cells (ptrs k (fun j => 4 + j) ++ nils m) true)) (.cells (ptrs k (fun j => pl (6 + 4 * j)) ++ nils m) true)
        rw [ren_ptrs fun j hj => (hptr j (by omega)).trans (if_pos hj)]; exact ⟨rfl, fun q => q⟩
    · cases e2
      refine ⟨_, n2_, .inl (.inl ⟨?_, fun q => q⟩)⟩
      show [pv (rho sel h5.length (4 + k)) 0] = _
      rw [hpk]
    · cases e2; exact ⟨_, Y5.hd, view_hid⟩
    · have : ([cw [pv 3 0, slV 1 k ro, .slice none 0 0], pB k (fun j => 4 + j) ro, cw [pv (4 + k) 0], cr []] ++ List.replicate (k + 1) (cr []))[4 + j]? = some (cr []) := by
        rw [List.getElem?_append_right (by simp)]
        exact List.getElem?_replicate_of_lt (by simp; omega)
      rw [this] at e2; cases e2
      split
      · rename_i hjk; exact ⟨_, Y5.un j hjk, view_hid⟩
      · exact ⟨_, n1_, view_hid⟩
  · rcases List.mem_cons.1 hy with rfl | hy
    · rfl
    · rcases List.mem_cons.1 hy with rfl | hy
      · rfl
      · rcases List.mem_cons.1 hy with rfl | hy
        · rfl
        · rcases List.mem_cons.1 hy with rfl | hy
          · rfl
          · cases hy
  · refine ⟨_, _, ⟨rfl, 0, .inr rfl⟩, by rw [hsl]; simp; omega, ?_⟩
    rw [List.append_assoc]
    exact flags_cons rfl (flags_app ([_, _, _] ++ List.replicate (k + 1) (cr [])) [_])
  · rintro v1 h1' ⟨rfl, m, hw⟩
    have hat : ∀ (j : Nat) {A : List Blk}, A.length = 4 → (A ++ List.replicate (k + 1) (cr []))[4 + j]? = (List.replicate (k + 1) (cr []))[j]? := fun j A hA => by
      rw [List.getElem?_append_right (by omega), hA, Nat.add_sub_cancel_left]
    refine ⟨?_, ?_⟩
    · rcases hw with ⟨hs, rfl⟩ | rfl
      · refine goneL_cons gone_cells (goneL_cons (fun hg => ?_) (goneL_cons gone_cells (goneL_cons gone_cells (fun i hi => hi))))
        cases ro with
        | none => cases hs
        | some z => cases hg
      · rw [List.append_assoc]
        refine goneL_cons gone_cells (goneL_cons (fun hg => hg) (goneL_cons gone_cells (goneL_cons gone_cells (fun i hi => ?_))))
        have := lt_of_getElem? hi
        simp at this
        show (List.replicate (k + 1) (cr []) ++ [pB (k + 1) (fun j => 4 + j) (some m)])[i]? = _
        rw [List.getElem?_append_left (by simp; omega)]; exact hi
    · refine d_nil ?_
      have hkeep : ∀ {h1' : List Blk}, (∀ (t : Nat) b, t ≠ 0 → t ≠ 1 → t ≠ 2 → t < 4 + (k + 1) → h1'[t]? = some b → b.rw = false) → ∀ a, a < 6 + 4 * k → a ≠ 0 → a ≠ 4 → (back h5 sel h1' (rho sel h5.length))[pl a]? = h[pl a]? := fun {h1'} hro a ha h0 h4 => by
        rw [back_keep (by have := hlt a ha; omega) fun t b e1 e2 => ?_]
        · rw [← hh5]; exact List.getElem?_append_left (hlt a ha)
        · have hlq := hlt a ha
          have htl : t < 4 + (k + 1) := by have := lt_of_getElem? e1; omega
          refine hro t b ?_ ?_ ?_ htl e2
          · rintro rfl; exact pl_nodup Y ha (by omega) h0 (Option.some.inj e1).symm
          · rintro rfl; exact pl_nodup Y ha (by omega) h4 (Option.some.inj e1).symm
          · rintro rfl; have := Option.some.inj e1; omega
      have hkN : ∀ {h1' : List Blk} (q : Nat), (q = h.length ∨ q = h.length + 1 ∨ q = h.length + 3) → (∀ (t : Nat) b, t ≠ 0 → t ≠ 1 → t ≠ 2 → t < 4 + (k + 1) → h1'[t]? = some b → b.rw = false) → (back h5 sel h1' (rho sel h5.length))[q]? = h5[q]? := fun {h1'} q hq hro => by
        refine back_keep (by omega) fun t b e1 e2 => ?_
        have htl : t < 4 + (k + 1) := by have := lt_of_getElem? e1; omega
        refine hro t b ?_ ?_ ?_ htl e2
        · rintro rfl; have := Option.some.inj e1; have := hlt 0 (by omega); omega
        · rintro rfl; have := Option.some.inj e1; have := hlt 4 (by omega); omega
        · rintro rfl; have := Option.some.inj e1; omega
      have hat2 : ∀ {h1' : List Blk} (t q : Nat) (b : Blk), sel[t]? = some q → h1'[t]? = some b → b.rw = true → (back h5 sel h1' (rho sel h5.length))[q]? = some (renB (rho sel h5.length) b) := fun {h1'} t q b e1 e2 hr => by
        refine back_at ?_ (fun j hj => hinj j t q hj e1) e1 e2 hr
        rcases hsi t q e1 with ⟨_, rfl⟩ | ⟨_, rfl⟩ | ⟨_, rfl⟩ | ⟨_, rfl⟩ | ⟨j, hj, _, rfl⟩
        · have := hlt 0 (by omega); omega
        · have := hlt 4 (by omega); omega
        · omega
        · have := hlt 1 (by omega); omega
        · split
          · have := hlt (6 + 4 * j) (by omega); omega
          · omega
      have hren : renB (rho sel h5.length) (pB (k + 1) (fun j => 4 + j) (some m)) = pB (k + 1) (fun j => if j < k then pl (6 + 4 * j) else h.length + 1) (some m) := ren_ptrs fun j hj => hptr j hj
      have hrow : ∀ {h1' : List Blk}, h1'[2]? = some (cw [pv (4 + k) 0]) → ∃ c rw, (back h5 sel h1' (rho sel h5.length))[h.length + 2]? = some (.cells c rw) := fun {h1'} e2 => ⟨_, _, hat2 2 _ _ rfl e2 rfl⟩
      rcases hw with ⟨hs, rfl⟩ | rfl
      · have hro : ∀ (t : Nat) b, t ≠ 0 → t ≠ 1 → t ≠ 2 → t < 4 + (k + 1) → ([cw [pv 3 0, slV 1 (k + 1) (some m), .slice none 0 0], pB (k + 1) (fun j => 4 + j) (some m), cw [pv (4 + k) 0], cr []] ++ List.replicate (k + 1) (cr []))[t]? = some b → b.rw = false := fun t b h0 h1 h2 ht e => by
          by_cases h3 : t = 3
          · subst h3; cases e; rfl
          · obtain ⟨j, rfl⟩ : ∃ j, t = 4 + j := ⟨t - 4, by omega⟩
            rw [hat j rfl, List.getElem?_replicate_of_lt (by omega)] at e
            cases e; rfl
        refine hQ _ _ _ _ _ _ _ (Y.grow hp (pl 4) m (fun j => if j < k then pl (6 + 4 * j) else h.length + 1) h.length rfl (fun j hj => if_pos hj) (if_neg (by omega)) (.inl rfl) ?_ ?_ (hkeep hro) ?_ ?_ (hrow rfl) ?_) (by have := back_len (h := h5) (sel := sel) (h1 := [cw [pv 3 0, slV 1 (k + 1) (some m), .slice none 0 0], pB (k + 1) (fun j => 4 + j) (some m), cw [pv (4 + k) 0], cr []] ++ List.replicate (k + 1) (cr [])) (ρ := rho sel h5.length); omega)
        · rw [hat2 0 (pl 0) _ rfl rfl rfl]
          exact congrArg some (ren_yardL (kh := 3) (u := slV 1 (k + 1) (some m)) (w := .slice none 0 0) (hρ 3 (pl 1) rfl) (ren1_slV _ (hρ 1 (pl 4) rfl)) rfl)
        · rw [hat2 1 (pl 4) _ rfl rfl rfl, hren]
        · rw [hkN _ (.inl rfl) hro]; exact n0_
        · rw [hkN _ (.inr (.inl rfl)) hro]; exact n1_
        · rw [hkN _ (.inr (.inr rfl)) hro]; exact n3_
      · have hTl : (List.replicate (k + 1) (cr [])).length = k + 1 := by simp
        rw [hTl]
        have hro : ∀ (t : Nat) b, t ≠ 0 → t ≠ 1 → t ≠ 2 → t < 4 + (k + 1) → ([cw [pv 3 0, slV (4 + (k + 1)) (k + 1) (some m), .slice none 0 0], pB k (fun j => 4 + j) ro, cw [pv (4 + k) 0], cr []] ++ List.replicate (k + 1) (cr []) ++ [pB (k + 1) (fun j => 4 + j) (some m)])[t]? = some b → b.rw = false := fun t b h0 h1 h2 ht e => by
          rw [List.getElem?_append_left (by simp; omega)] at e
          by_cases h3 : t = 3
          · subst h3; cases e; rfl
          · obtain ⟨j, rfl⟩ : ∃ j, t = 4 + j := ⟨t - 4, by omega⟩
            rw [hat j rfl, List.getElem?_replicate_of_lt (by omega)] at e
            cases e; rfl
        have hρn : rho sel h5.length (4 + (k + 1)) = h.length + 4 := by rw [rho_ge (by omega), hsl, hl5]; omega
        refine hQ _ _ _ _ _ _ _ (Y.grow hp (h.length + 4) m (fun j => if j < k then pl (6 + 4 * j) else h.length + 1) h.length rfl (fun j hj => if_pos hj) (if_neg (by omega)) (.inr (Nat.le_refl _)) ?_ ?_ (hkeep hro) ?_ ?_ (hrow rfl) ?_) (by have := back_len (h := h5) (sel := sel) (h1 := [cw [pv 3 0, slV (4 + (k + 1)) (k + 1) (some m), .slice none 0 0], pB k (fun j => 4 + j) ro, cw [pv (4 + k) 0], cr []] ++ List.replicate (k + 1) (cr []) ++ [pB (k + 1) (fun j => 4 + j) (some m)]) (ρ := rho sel h5.length); omega)
        · rw [hat2 0 (pl 0) _ rfl rfl rfl]
          exact congrArg some (ren_yardL (kh := 3) (u := slV (4 + (k + 1)) (k + 1) (some m)) (w := .slice none 0 0) (hρ 3 (pl 1) rfl) (ren1_slV _ hρn) rfl)
        · have := back_new (h := h5) (sel := sel) (h1 := [cw [pv 3 0, slV (4 + (k + 1)) (k + 1) (some m), .slice none 0 0], pB k (fun j => 4 + j) ro, cw [pv (4 + k) 0], cr []] ++ List.replicate (k + 1) (cr []) ++ [pB (k + 1) (fun j => 4 + j) (some m)]) (ρ := rho sel h5.length) 0
          rw [hsl, List.getElem?_append_right (by simp; omega)] at this
          rw [show h.length + 4 = h5.length + 0 by omega, this]
          have h0 : 4 + (k + 1) + 0 - ([cw [pv 3 0, slV (4 + (k + 1)) (k + 1) (some m), .slice none 0 0], pB k (fun j => 4 + j) ro, cw [pv (4 + k) 0], cr []] ++ List.replicate (k + 1) (cr [])).length = 0 := by simp; omega
          rw [h0]
          exact congrArg some hren
        · rw [hkN _ (.inl rfl) hro]; exact n0_
        · rw [hkN _ (.inr (.inl rfl)) hro]; exact n1_
        · rw [hkN _ (.inr (.inr rfl)) hro]; exact n3_
end Go.Rh

namespace Go.Rh
theorem HNew0C {P : Program} (hc : k_head_New P) (p : Flat) (units : Int) (hu : units < 1 ∨ 16 < units) :
    Env P "roundhouse/head.New" [poolV p, iv units] ([]) (fun v h' => v = .tuple #[.pointer none, iv 14] ∧ h' = []) := by
  have h := HNewC hc p units
  have e : (fun (v : Value) (h' : List Blk) => if units < 1 ∨ 16 < units then v = .tuple #[.pointer none, iv 14] ∧ h' = [] else v = .tuple #[pv 0 0, iv 0] ∧ h' = [cw (headL p 1 2 e0 false), .chan 200 (([] : List Ent).map entV), .map (hdM (List.replicate units.toNat (0, -1)))]) = fun v h' => v = .tuple #[.pointer none, iv 14] ∧ h' = [] := by
    funext v h'; rw [if_pos hu]
  rw [e] at h; exact h
theorem HNew1C {P : Program} (hc : k_head_New P) (p : Flat) (units : Int) (hu : ¬ (units < 1 ∨ 16 < units)) :
    Env P "roundhouse/head.New" [poolV p, iv units] ([]) (fun v h' => v = .tuple #[pv 0 0, iv 0] ∧ h' = [cw (headL p 1 2 e0 false), .chan 200 (([] : List Ent).map entV), .map (hdM (List.replicate units.toNat (0, -1)))]) := by
  have h := HNewC hc p units
  have e : (fun (v : Value) (h' : List Blk) => if units < 1 ∨ 16 < units then v = .tuple #[.pointer none, iv 14] ∧ h' = [] else v = .tuple #[pv 0 0, iv 0] ∧ h' = [cw (headL p 1 2 e0 false), .chan 200 (([] : List Ent).map entV), .map (hdM (List.replicate units.toNat (0, -1)))]) = fun v h' => v = .tuple #[pv 0 0, iv 0] ∧ h' = [cw (headL p 1 2 e0 false), .chan 200 (([] : List Ent).map entV), .map (hdM (List.replicate units.toNat (0, -1)))] := by
    funext v h'; rw [if_neg hu]
  rw [e] at h; exact h
theorem YHn.to {n : Nat} {p : Flat} {h : List Blk} (h1 : 1 ≤ n) (h16 : n ≤ 16) (hY : YHn n (newHS p (n : Nat)) h) : YP (fun _ => True) 0 (nyS p n) h := by
  obtain ⟨ro, pl, Y, hp⟩ := hY
  cases ro with
  | none => have := Y.ro0 rfl; omega
  | some m => exact ⟨fun _ => none, ⟨fun j _ his => by simp [nyS] at his, ⟨m, none, pl, Y, hp, fun _ _ => trivial, h1, h16, fun _ _ => trivial⟩⟩⟩
theorem YNewC {P : Program} (H : YCode P) (p : Flat) (units : Int) :
    Env P "roundhouse/yard.New" [poolV p, iv units] ([]) (fun v h' => if units < 1 ∨ 16 < units then v = .tuple #[.pointer none, iv 14] ∧ h' = [] else v = .tuple #[pv 0 0, iv 0] ∧ YP (fun _ => True) 0 (nyS p units.toNat) h') := by
 refine Env.by2 H.h_yard_New ?_
 unfold c_yard_New
 show GC _ 0 _ _ ⟨reg [(0, poolV p), (1, iv units)], []⟩
 refine gseq (greg (o_b 3 [(5, iv 0), (4, .pointer none), (2, pv 0 0)] [cw (pl p)] (by kernel_rfl) (o_nil (seq_go (gseq (greg ?_))))))
 refine o_s (by refine run_ld (v := poolV p) rfl rfl ?_; exact pl_all p) ?_
 refine o_d 1 [(11, iv units)] (by kernel_rfl) ?_
 by_cases hu : units < 1 ∨ 16 < units
 · refine o_cl (callH [] [] [poolV p, iv units] (HNew0C H.h_head_New p units hu) rfl (cons_eq (renV_vpf (poolV_vpf p)) (cons_eq rfl rfl)) trivial (by decide) ?_)
   rintro v1 h1' ⟨rfl, rfl⟩
   refine ⟨goneL_nil, .tuple #[.pointer none, iv 14], [cw (pl p)], [], (renV_vpf rfl), ⟨rfl, trivial⟩, trivial, ?_⟩
   refine o_d 5 [(7, iv 14), (6, .pointer none), (14, iv 14), (13, .pointer none), (9, .tuple #[.pointer none, iv 14])] (by kernel_rfl) (o_nil (seq_go (gseq (gseq (greg (o_d 2 [(16, bv true), (15, iv 14)] (by kernel_rfl) ?_))))))
   refine o_nil (seq_go (gtrue rfl (gseq (greg (o_d 3 [(5, iv 14), (4, .pointer none), (17, iv 14)] (by kernel_rfl) (o_nil ?_))))))
   exact seq_go (gret (⟨trivial, ⟨reg [(4, .pointer none), (5, iv 14)], []⟩, Wk.ren [] rfl rfl (by decide) ⟨rfl, ⟨rfl, trivial⟩⟩ trivial, [.pointer none, iv 14], (resV_t rfl (resV_t rfl rfl)), (tup_cons rfl (tup_cons rfl tup_nil)), by rw [if_pos hu]; exact ⟨rfl, rfl⟩⟩))
 refine o_cl (callH [] [] [poolV p, iv units] (HNew1C H.h_head_New p units hu) rfl (cons_eq (renV_vpf (poolV_vpf p)) (cons_eq rfl rfl)) trivial (by decide) ?_)
 rintro v1 h1' ⟨rfl, rfl⟩
 refine ⟨goneL_nil, .tuple #[pv 1 0, iv 0], [cw (pl p)], [cw (headL p 2 3 e0 false), .chan 200 (([] : List Ent).map entV), .map (hdM (List.replicate units.toNat (0, -1)))], ((renV_tup _).trans rfl), ⟨rfl, trivial⟩, ⟨(Option.some.inj (ren_headS rfl rfl)).symm, ⟨(Option.some.inj (congrArg some (ren_entsV _).symm)).symm, ⟨(Option.some.inj (congrArg some (ren_hdM _).symm)).symm, trivial⟩⟩⟩, ?_⟩
 refine o_d 5 [(7, iv 0), (6, pv 1 0), (14, iv 0), (13, pv 1 0), (9, .tuple #[pv 1 0, iv 0])] (by kernel_rfl) (o_nil (seq_go (gseq (gseq (greg (o_d 2 [(16, bv false), (15, iv 0)] (by kernel_rfl) ?_))))))
 refine o_nil (seq_go (gfalse rfl (gskip (seq_go (gseq (greg ?_))))))
 refine o_b 4 [(8, pv 4 0), (20, pv 4 0), (19, .agg #[pv 1 0, .slice none 0 0, .slice none 0 0]), (18, pv 1 0)] [cw (pl p), cw (headL p 2 3 e0 false), .chan 200 (([] : List Ent).map entV), .map (hdM (List.replicate units.toNat (0, -1))), cw [pv 1 0, .slice none 0 0, .slice none 0 0]] (by kernel_rfl) (o_nil (seq_go (gseq (gseq (greg (o_d 2 [(22, iv 0), (21, iv units)] (by kernel_rfl) ?_))))))
 refine o_nil ?_
 -- the yard first; a place for the row of units, one for the row of notes
 refine ⟨⟨reg [(22, iv 0), (21, iv units), (8, pv 0 0)], [cw (yardL 1 (.slice none 0 0) (.slice none 0 0)), cw (headL p 2 3 e0 false), .chan 200 (([] : List Ent).map entV), .map (hdM (List.replicate units.toNat (0, -1))), .gone, .gone]⟩,
   Wk.ren [4, 1, 2, 3, 5, 6] rfl rfl (by decide) ⟨rfl, ⟨rfl, ⟨rfl, trivial⟩⟩⟩ ⟨.inl rfl, ⟨.inl (ren_headS rfl rfl), ⟨.inl (congrArg some (ren_entsV _).symm), ⟨.inl (congrArg some (ren_hdM _).symm), ⟨.inr ⟨rfl, rfl⟩, ⟨.inr ⟨rfl, rfl⟩, trivial⟩⟩⟩⟩⟩⟩, ?_⟩
 refine gblock (gloop (fun μ s => ∃ (k : Nat) (h : List Blk), μ = units.toNat - k ∧ (k : Int) ≤ units ∧ YHn k (newHS p units) h ∧ s = ⟨reg [(22, iv (k : Nat)), (21, iv units), (8, pv 0 0)], h⟩) ⟨units.toNat - 0, _, .inl rfl, 0, _, rfl, by omega, ⟨none, fun a => a, ⟨fun a b _ _ e => e, fun _ => rfl, rfl, rfl, rfl, rfl, rfl, rfl, rfl, fun j hj => by omega, fun j hj => by omega, fun j hj => by omega, fun j hj => by omega⟩, rfl⟩, rfl⟩ ?_)
 rintro μ s ⟨k, h, rfl, hk, hY, rfl⟩
 refine gseq (greg (o_d 1 [(23, bv (decide ((k : Int) < units)))] (by kernel_rfl) (o_nil (seq_go (gseq (gcond (t := decide ((k : Int) < units)) rfl (fun h1 => ?_) (fun h1 => ?_)))))))
 · have h1 := of_decide_eq_true h1
   refine gskip (seq_go (gseq (gblock (new_body H (by omega) hY (fun h' v27 v28 v29 v30 v31 v32 hY' hle => ?_)))))
   refine seq_go (greg (o_s (by refine run_val (v := .int .i64 (i64.wrap ((k : Nat) + 1))) (congrArg (Value.int .i64) (w64 (by omega) (by omega))) ?_; kernel_rfl) ?_))
   refine o_d 1 [(22, iv ((k : Int) + 1))] (by kernel_rfl) (o_nil ?_)
   obtain ⟨s0, hw, hs⟩ := seq_regs (B := 0) (K := fun s => s = ⟨reg [(22, iv ((k + 1 : Nat) : Int)), (21, iv units), (8, pv 0 0)], h'⟩) [(22, iv ((k + 1 : Nat) : Int)), (21, iv units), (8, pv 0 0)] (L := [(22, iv ((k : Int) + 1)), (33, iv ((k : Int) + 1)), (32, v32), (31, v31), (30, v30), (29, v29), (28, v28), (27, v27), (26, pv 0 1), (25, pv 0 0), (24, pv 0 0), (23, bv (decide ((k : Int) < units))), (22, iv (k : Nat)), (21, iv units), (8, pv 0 0)]) (h := h') rfl rfl (Nat.zero_le _)
   exact ⟨units.toNat - (k + 1), s0, by omega, hw, k + 1, h', rfl, by omega, hY', hs⟩
 · have h1 := of_decide_eq_false h1
   refine gexit ?_
   have hkn : k = units.toNat := by omega
   refine seq_go (gseq (greg (o_d 3 [(5, iv 0), (4, pv 0 0), (34, pv 0 0)] (by kernel_rfl) (o_nil (seq_go (gret ?_))))))
   refine ⟨trivial, _, .inl rfl, [pv 0 0, iv 0], (resV_t rfl (resV_t rfl rfl)), (tup_cons rfl (tup_cons rfl tup_nil)), ?_⟩
   rw [if_neg hu]
   refine ⟨rfl, ?_⟩
   subst hkn
   refine YHn.to (by omega) (by omega) ?_
   rw [show ((units.toNat : Nat) : Int) = units by omega]; exact hY
theorem YP.shift {F : Nat → Prop} {y : Nat} {s : YS} {T : List Blk} (hY : YP F y s T) (h : List Blk) : YP (fun k => h.length ≤ k) (h.length + y) s (h ++ T.map (renB (rho [] h.length))) := by
  obtain ⟨q, hq, m, o, pl, Y, rfl, _, h1, h16, _⟩ := hY
  have hρ : ∀ i, rho [] h.length i = h.length + i := fun i => by rw [rho_ge (by simp)]; simp
  have at_ : ∀ (k : Nat) b, T[k]? = some b → (h ++ T.map (renB (rho [] h.length)))[h.length + k]? = some (renB (rho [] h.length) b) := fun k b e => by
    rw [new_at, List.getElem?_map, e]; rfl
  refine ⟨q, hq, m, o, fun a => h.length + pl a, ⟨fun a b ha hb e => Y.inj a b ha hb (by omega), (fun e => by cases e), ?_, ?_, ?_, ?_, ?_, ?_, Y.ok, fun j hj => ?_, fun j hj => ?_, fun j hj => ?_, fun j hj => ?_⟩, rfl, fun a _ => Nat.le_add_right _ _, h1, h16, fun k hk => by simp at hk; omega⟩
  · rw [at_ _ _ Y.y]; exact congrArg some (ren_yardL (hρ _) (ren1_slV _ (hρ _)) (ren_gV _ (hρ _)))
  · rw [at_ _ _ Y.hd]; exact congrArg some (ren_headL (hρ _) (hρ _))
  · rw [at_ _ _ Y.hc]; exact congrArg some (ren_entsV _)
  · rw [at_ _ _ Y.hm]; exact congrArg some (ren_hdM _)
  · rw [at_ _ _ Y.ur]; exact congrArg some (ren_ptrs fun j _ => hρ _)
  · rw [at_ _ _ Y.way]; exact congrArg some (ren_gB Y.ok)
  · rw [at_ _ _ (Y.un j hj)]; exact congrArg some (ren_unitL (hρ _) (hρ _))
  · rw [at_ _ _ (Y.pn j hj)]; exact congrArg some (ren_planeL (ren1_slV _ (hρ _)))
  · rw [at_ _ _ (Y.ch j hj)]; exact congrArg some (ren_ntsV _)
  · obtain ⟨B, hB, hw⟩ := Y.wh j hj
    exact ⟨_, at_ _ _ hB, whB_ren hw⟩
theorem YNewK {P : Program} (H : YCode P) (p : Flat) (units : Int) {K : Post} {h : List Blk}
    (h0 : units < 1 ∨ 16 < units → K (.tuple #[.pointer none, iv 14]) h)
    (h1 : ∀ T, ¬ (units < 1 ∨ 16 < units) → YP (fun k => h.length ≤ k) h.length (nyS p units.toNat) (h ++ T) → K (.tuple #[pv h.length 0, iv 0]) (h ++ T)) : CallK (Env P) "roundhouse/yard.New" [poolV p, iv units] K h := by
  refine ⟨[], [], [poolV p, iv units], _, YNewC H p units, rfl, cons_eq (renV_vpf (poolV_vpf p)) rfl, fun i k b1 e => by simp at e, fun i j k b1 _ e => by simp at e, fun v h1' hR _ _ => ⟨fun i hi => by simp at hi, ?_⟩⟩
  rw [back_nil]
  by_cases hu : units < 1 ∨ 16 < units
  · rw [if_pos hu] at hR
    obtain ⟨rfl, rfl⟩ := hR
    rw [renV_vpf rfl]
    simpa using h0 hu
  · rw [if_neg hu] at hR
    obtain ⟨rfl, hY⟩ := hR
    have := h1 _ hu (by have := hY.shift h; rwa [Nat.add_zero] at this)
    rwa [show renV (rho [] h.length) (.tuple #[pv 0 0, iv 0]) = .tuple #[pv h.length 0, iv 0] from (renV_tup _).trans rfl]
end Go.Rh

namespace Go.Rh
theorem ex_eq {α : Type} (x : α) : ∃ y, y = x := ⟨x, rfl⟩
theorem FrY.split {L T h' : List Blk} {F : Nat → Prop} (hF : FrY F (L ++ T) h') (hl : ∀ k, k < L.length → ¬ F k) : ∃ T', h' = L ++ T' := by
  refine ⟨h'.drop L.length, List.ext_getElem? fun k => ?_⟩
  rcases Nat.lt_or_ge k L.length with h | h
  · rw [hF.fr k (hl k h), List.getElem?_append_left h, List.getElem?_append_left h]
  · rw [List.getElem?_append_right h, List.getElem?_drop]; congr 1; omega
theorem spl {L T : List Blk} {y : Nat} {S : YS} {K' : List Blk → Prop} {lo : Nat} (hlo : L.length = lo) (hk : ∀ T', YP (fun k => lo ≤ k) y S (L ++ T') → K' (L ++ T')) : ∀ h', YP (fun k => lo ≤ k) y S h' → FrY (fun k => lo ≤ k) (L ++ T) h' → K' h' := fun h' hY hF => by
  obtain ⟨T', rfl⟩ := hF.split (fun k hk => by omega)
  exact hk T' hY
def aloneB (anc : List (List Nat)) (i : Nat) : Bool := (List.range anc.length).all fun k => Nat.beq k i || !(unA anc i k)
theorem alone_of {anc : List (List Nat)} {i : Nat} (h : aloneB anc i = true) : ∀ k, k ≠ i → unA anc i k = false := by
  intro k hk
  rcases Nat.lt_or_ge k anc.length with hl | hl
  · have := List.all_eq_true.1 h k (List.mem_range.2 hl)
    simp only [Bool.or_eq_true, Nat.beq_eq, Bool.not_eq_true'] at this
    exact this.resolve_left hk
  · unfold unA
    have : Nat.blt k anc.length = false := by
      cases e : Nat.blt k anc.length with
      | false => rfl
      | true => have : k < anc.length := Nat.blt_eq ▸ e
                omega
    rw [this]; simp
theorem unA_symm (anc : List (List Nat)) (i j : Nat) : unA anc i j = unA anc j i := by
  unfold unA
  cases Nat.blt i anc.length <;> cases Nat.blt j anc.length <;> cases ((anc.getD i []).any (Nat.beq j)) <;> cases ((anc.getD j []).any (Nat.beq i)) <;> rfl
section
variable {C : CallT} {anc : List (List Nat)} {K : St → Prop} {L : List (Nat × Value)} {h : List Blk} {i nid : Nat} {log : List Foot}
theorem d_clK {d : Nat} {g : String} {args : List Opd} {r : List ICell} (ha : aloneB anc i = true) (hlog : log.all (fun y => !(Nat.beq y.i i)) = true)
    (hc : CallK C g (args.map (evf (reg L))) (fun v h' => ∀ rd wr, GD C (unA anc) (i + 1) nid r (⟨i, rd, wr, some h.length⟩ :: log) K ⟨reg ((d, v) :: L), h'⟩) h) : GD C (unA anc) i nid (⟨some d, .call g args, none⟩ :: r) log K ⟨reg L, h⟩ := by
  obtain ⟨sel, h1, a1, R, e1, e2, e3, e4, e5, e6⟩ := hc
  refine ⟨⟨sel, h1, a1, R, e1, e2, e3, e4, e5, fun y hy => .inr ?_, fun ⟨k, hk, hu⟩ => ?_, fun v h1' a b c => ⟨(e6 v h1' a b c).1, ((e6 v h1' a b c).2 _ _).out⟩⟩⟩
  · have := List.all_eq_true.1 hlog y hy
    rw [unA_symm]
    refine alone_of ha y.i ?_
    have h9 : Nat.beq y.i i = false := by simpa using this
    intro e; rw [e] at h9; simp at h9
  · rw [alone_of ha k hk] at hu; cases hu
theorem d_clS {d : Nat} {g : String} {args : List Opd} {r : List ICell} {G : Nat → Prop} (hlog : ∀ y ∈ log, unA anc y.i i = false)
    (hc : CallF C g (args.map (evf (reg L))) h G True (fun v h' => ∀ rd wr, (∀ k ∈ wr, G k) → GD C (unA anc) (i + 1) nid r (⟨i, rd, wr, some h.length⟩ :: log) K ⟨reg ((d, v) :: L), h'⟩)) : GD C (unA anc) i nid (⟨some d, .call g args, none⟩ :: r) log K ⟨reg L, h⟩ := by
  obtain ⟨sel, h1, a1, R, e1, e2, e3, e4, e5, eG, eX, e6⟩ := hc
  refine ⟨⟨sel, h1, a1, R, e1, e2, e3, e4, e5, fun y hy => .inr (hlog y hy), fun _ => eX trivial, fun v h1' a b c => ⟨(e6 v h1' a b c).1, ((e6 v h1' a b c).2 _ _ ?_).out⟩⟩⟩
  have : ∀ (sel : List Nat) (h1 : List Blk), ∀ k ∈ wrsel sel h1, k ∈ sel := by
    intro sel
    induction sel with
    | nil => intro h1 k hk; cases h1 <;> simp [wrsel] at hk
    | cons a l ih =>
      intro h1 k hk
      cases h1 with
      | nil => simp [wrsel] at hk
      | cons b t =>
        simp only [wrsel] at hk
        split at hk
        · rcases List.mem_cons.1 hk with rfl | hk
          · simp
          · exact List.mem_cons_of_mem _ (ih t k hk)
        · exact List.mem_cons_of_mem _ (ih t k hk)
  intro k hk
  obtain ⟨j, hj⟩ := List.mem_iff_getElem?.1 (this sel h1 k hk)
  exact eG j k hj
theorem fits_alone {x : Foot} (h : log.all (fun y => !(unA anc y.i x.i)) = true) : ∀ y ∈ log, unA anc y.i x.i = false := fun y hy => by
  have := List.all_eq_true.1 h y hy
  simpa using this
theorem d_ldF {d : Nat} {m : Option Nat} {x : Opd} {r : List ICell} {k o : Nat} {c : List Value} {rw : Bool} {v : Value} (hx : evf (reg L) x = .pointer (some ⟨k, o, none⟩)) (hh : hf h k = some (.cells c rw)) (hv : partL m c o = some v)
    (hfit : fits (unA anc) ⟨i, [k], [], none⟩ log) (hk : GD C (unA anc) (i + 1) nid r (⟨i, [k], [], none⟩ :: log) K ⟨reg ((d, v) :: L), h⟩) : GD C (unA anc) i nid (⟨some d, .ld m x, none⟩ :: r) log K ⟨reg L, h⟩ := by
  refine ⟨?_⟩
  show stepD C (unA anc) ⟨i, nid, ⟨some d, .ld m x, none⟩⟩ log (fun log' s' => wpD C (unA anc) (annot (i + 1) nid r) log' K s') ⟨reg L, h⟩
  refine (stepD_det (fun _ => rfl)).2 ⟨⟨i, [k], [], none⟩, ⟨putf (reg L) (some d) v, h⟩, ?_, hfit, hk.out⟩
  have h1 : rdE (.ld m x) (evf (reg L)) = [k] := by simp [rdE, IOp.rdl, hx, idsOf]
  have h2 : stepE (.ld m x) (evf (reg L)) (hf h) nid = some (v, .no) := by simp [stepE, ldV, hx, hh, hv]
  simp [detD, gJ, want, h1, h2]
theorem fits_ld {k j n lo : Nat} {rd wr : List Nat} {log : List Foot} (hk : k < lo) (hw : ∀ k ∈ wr, lo ≤ k) (hn : k < n) (hr : fits (unA anc) ⟨i, [k], [], none⟩ log) : fits (unA anc) ⟨i, [k], [], none⟩ (⟨j, rd, wr, some n⟩ :: log) := by
  intro y hy
  rcases List.mem_cons.1 hy with rfl | hy
  · refine .inl ⟨fun q hq => ⟨?_, by simp⟩, fun q hq => by simp at hq, fun q hq => ?_, trivial⟩
    · simp only [List.mem_singleton]; have := hw q hq; omega
    · simp at hq; omega
  · exact hr y hy
end
section
variable {P : Program} {F : Nat → Prop} {y : Nat} {s : YS} {h : List Blk} {K : Post}
theorem YPoolF (H : YCode P) (hY : YP F y s h) (hK : ∀ h', YP F y s h' → FrY F h h' → K (poolV s.x.p) h') : CallF (Env P) "(*roundhouse/yard.Yard).Pool" [pv y 0] h F True K := by
  obtain ⟨q, hq, hY⟩ := hY
  refine glueA0 (hX := True) (ex := []) (V := poolV s.x.p) (x' := s.x) (l' := s.l) hY rfl (poolV_vpf _) (fun m o ho => ⟨_, YPoolC H.h_yard_Yard_Pool H.h_head_Head_Pool s.x.p s.x.w s.x.hd s.x.e s.x.s s.n m s.l o ho, ?_, fun _ => ⟨_, _, ⟨rfl, rfl⟩, Nat.le_refl 6, fun i b b' e1 e2 => ?_⟩⟩) (fun h' hT => hK h' (YP.of hq hT))
  · rintro v h' ⟨rfl, rfl⟩
    exact ⟨rfl, o, gB s.l o, 5, [], ho, (fun z => by subst z; rfl), .inl ⟨rfl, rfl, rfl⟩, rfl⟩
  · have e1' : (laA s.n m s.x 5 s.l o ++ [gB s.l o])[i]? = some b' := e2
    rw [e1'] at e1; cases e1; rfl
end
structure YOK (S : YS) : Prop where
  hd : S.x.hd.length = S.n
  n : 1 ≤ S.n ∧ S.n ≤ 16
  nok : NOK S
theorem notesTo_mem {x : HS} {n : Nat} {nt : Nt} (h : nt ∈ notesTo x n) : 0 ≤ nt.u ∧ nt.u < n ∧ nt.a = false := by
  unfold notesTo at h
  obtain ⟨i, hi, he⟩ := List.mem_filterMap.1 h
  have hi := List.mem_range.1 hi
  unfold noteS at he
  simp only at he
  split at he
  · cases he
  · split at he
    · cases he; exact ⟨by simp only; omega, by simp only; omega, rfl⟩
    · cases he; exact ⟨by simp only; omega, by simp only; omega, rfl⟩
theorem ok_tick {S : YS} (h : YOK S) : YOK (tickS S) := by
  refine ⟨?_, h.n, fun nt hm ha => ?_⟩
  · show (sendS S.x).1.hd.length = _; rw [sendS_hd]; exact h.hd
  · have hm : nt ∈ S.l ++ (sendS S.x).2 := hm
    rcases List.mem_append.1 hm with hm | hm
    · exact h.nok nt hm ha
    · have := notesTo_mem (x := goS S.x) (n := (goS S.x).hd.length) hm
      rw [goS_hd, h.hd] at this
      exact ⟨this.1, this.2.1⟩
theorem tick_len {S : YS} (h : YOK S) : (tickS S).l.length ≤ S.l.length + 16 := by
  show (S.l ++ (sendS S.x).2).length ≤ _
  have := sendS_len (x := S.x)
  rw [h.hd] at this
  have := h.n
  simp; omega
theorem rest_mem {l : List Nt} {k : Int} {keep : Bool} {nt : Nt} (h : nt ∈ restS l k keep) : nt ∈ l := by
  unfold restS at h
  split at h
  · exact h
  · exact List.mem_of_mem_eraseIdx h
theorem rest_len {l : List Nt} {k : Int} {keep : Bool} : (restS l k keep).length ≤ l.length := by
  unfold restS; split
  · exact Nat.le_refl _
  · exact List.length_eraseIdx_le ..
theorem ok_dlv {S : YS} (h : YOK S) (k : Int) (keep : Bool) : YOK (dlvS S k keep) := by
  unfold dlvS
  split
  · split
    · refine ⟨?_, h.n, fun nt hm ha => h.nok nt (rest_mem hm) ha⟩
      show (heardS S.x.hd _).length = _; rw [heardS_len]; exact h.hd
    · refine ⟨h.hd, h.n, fun nt hm ha => ?_⟩
      have hm : nt ∈ restS S.l k keep ++ [_] := hm
      rcases List.mem_append.1 hm with hm | hm
      · exact h.nok nt (rest_mem hm) ha
      · simp at hm; subst hm; cases ha
  · exact h
theorem dlv_len (S : YS) (k : Int) (keep : Bool) : (dlvS S k keep).l.length ≤ S.l.length + 1 := by
  have := rest_len (l := S.l) (k := k) (keep := keep)
  unfold dlvS
  split
  · split
    · simp only; omega
    · simp only [List.length_append, List.length_singleton]; omega
  · omega
theorem ok_crash {S : YS} (h : YOK S) (u : Int) : YOK (crashS S u) := by
  unfold crashS
  split
  · exact ⟨h.hd, h.n, fun nt hm ha => h.nok nt hm ha⟩
  · exact h
theorem crash_l (S : YS) (u : Int) : (crashS S u).l = S.l := by unfold crashS; split <;> rfl
theorem ok_nyS (p : Flat) {n : Nat} (h1 : 1 ≤ n) (h2 : n ≤ 16) : YOK (nyS p n) := by
  refine ⟨?_, ⟨h1, h2⟩, fun nt hm => by cases hm⟩
  show (List.replicate ((n : Nat) : Int).toNat ((0 : Int), (-1 : Int))).length = n
  simp
def drain : Nat → YS → YS
  | 0, S => S
  | f + 1, S => if (atS S.l 0).2 = true then drain f (dlvS S 0 false) else S
def settleS : Nat → YS → YS
  | 0, S => S
  | t + 1, S => settleS t (drain 100 (tickS S))
theorem drain_go {k : Nat} {S : YS} (hk : k < 100) (h : (atS S.l 0).2 = true) : drain (100 - k) S = drain (100 - (k + 1)) (dlvS S 0 false) := by
  rw [show 100 - k = (100 - (k + 1)) + 1 by omega]
  simp only [drain]; rw [if_pos h]
theorem dlv_none {S : YS} {k : Int} {keep : Bool} (h : (atS S.l k).2 = false) : dlvS S k keep = S := by
  unfold dlvS; rw [if_neg (by rw [h]; simp)]
theorem drain_stop {k : Nat} {S : YS} (h : (atS S.l 0).2 = false) : drain k S = dlvS S 0 false := by
  rw [dlv_none h]
  cases k with
  | zero => rfl
  | succ k => simp only [drain]; rw [if_neg (by rw [h]; simp)]
theorem settle_next {i t : Nat} {S1 S0 Z : YS} (h : settleS (t - i) S1 = S0) (hi : i < t) (hz : drain 100 (tickS S1) = Z) : settleS (t - (i + 1)) Z = S0 := by
  rw [← hz, ← h, show t - i = (t - (i + 1)) + 1 by omega]; rfl
theorem seq_regsL {B m μ : Nat} {L : List (Nat × Value)} {h : List Blk} {K : St → Prop} (l : List (Nat × Value)) (hl : l.map (fun p => reg L p.1) = l.map (·.2)) (hm : m < μ) (hk : K ⟨reg l, h⟩) (hB : B ≤ h.length := by simp) : ∃ s0, m < μ ∧ Wk B ⟨reg L, h⟩ s0 ∧ K s0 := let ⟨s0, h1, h2⟩ := seq_regs l hl hk hB; ⟨s0, hm, h1, h2⟩
theorem wholeK {P : Program} {g : String} {vals : List Value} {F : Nat → Prop} {y : Nat} {s s' : YS} {h : List Blk} {V : Value} {K : Post} (hY : YP F y s h) (hC : Env P g vals h (fun v h' => v = V ∧ YP F y s' h' ∧ FrY F h h')) (hV : vpf V = true)
    (hK : ∀ h', YP F y s' h' → FrY F h h' → K V h') : CallK (Env P) g vals K h := by
  have hid : ∀ i, rho (List.range h.length) h.length i = i := fun i => rho_id
  refine ⟨List.range h.length, h, vals, _, hC, by simp, ?_, fun i k b1 e1 e2 => ?_, fun i j k b1 hij e1 e2 _ => ?_, fun v h1' hR hlen hfl => ?_⟩
  · exact map_id_of fun v _ => renV_id hid v
  · have hl := lt_of_getElem? e2
    have : k = i := by simp [hl] at e1; exact e1.symm
    subst this
    refine ⟨b1, e2, ?_⟩
    rw [renB_id hid]
    cases b1 with
    | gone => exact .inl (.inr ⟨rfl, rfl⟩)
    | cells c rw => exact .inl (.inl ⟨rfl, fun q => q⟩)
    | map es => exact .inl (.inl rfl)
    | chan n b => exact .inl (.inl rfl)
    | iter m n sn => exact .inl (.inl rfl)
  · have h1 := lt_of_getElem? e1
    have h2 := lt_of_getElem? e2
    simp at h1 h2
    simp [h1] at e1; simp [h2] at e2
    omega
  · obtain ⟨rfl, hY', hF⟩ := hR
    refine ⟨hF.gone, ?_⟩
    rw [renV_vpf hV]
    have hlen' : h.length ≤ h1'.length := by simpa using hlen
    -- the blocks that may be written are the callee's; others are as they were
    have hbk : ∀ (k : Nat) b, h1'[k]? = some b → b.rw = true ∨ h.length ≤ k → (back h (List.range h.length) h1' (rho (List.range h.length) h.length))[k]? = some b := fun k b e hr => by
      rcases Nat.lt_or_ge k h.length with hk | hk
      · rw [back_at hk (i := k) (fun j hj => ?_) (by simp [hk]) e (hr.resolve_right (by omega)), renB_id hid]
        have := lt_of_getElem? hj
        simp at this
        simp [this] at hj; exact hj
      · rw [getElem?_back_ge hk]
        simp only [List.length_range]
        rw [show h.length + (k - h.length) = k by omega, e]
        simp [renB_id hid]
    obtain ⟨q, hq, m, o, pl, Y, rfl, hlo, h1, h16, hll⟩ := hY'
    have hF0 : ∀ k, h.length ≤ k → F k := by obtain ⟨_, _, _, _, _, _, _, _, _, _, h0⟩ := hY; exact h0
    have hlenb : (back h (List.range h.length) h1' (rho (List.range h.length) h.length)).length = h1'.length := by
      unfold back; simp; simp at hlen; omega
    refine hK _ ⟨q, hq, m, o, pl, ⟨Y.inj, Y.ro0, hbk _ _ Y.y (.inl rfl), hbk _ _ Y.hd (.inl rfl), hbk _ _ Y.hc (.inl rfl), hbk _ _ Y.hm (.inl rfl), hbk _ _ Y.ur (.inl rfl), hbk _ _ Y.way (.inl (by cases o <;> rfl)), Y.ok, fun j hj => hbk _ _ (Y.un j hj) (.inl rfl), fun j hj => hbk _ _ (Y.pn j hj) (.inl rfl), fun j hj => hbk _ _ (Y.ch j hj) (.inl rfl), fun j hj => ?_⟩, rfl, hlo, h1, h16, fun k hk => hll k (by omega)⟩ ⟨fun k hk => ?_, by omega, ?_⟩
    · obtain ⟨B, hB, hw⟩ := Y.wh j hj
      rcases Nat.lt_or_ge (pl (9 + 4 * j)) h.length with hk | hk
      · cases hr : B.rw with
        | true => exact ⟨B, hbk _ _ hB (.inl hr), hw⟩
        | false =>
          -- read alone: what was there
          obtain ⟨c, rw, rfl⟩ := whB_cells hw
          simp only [Blk.rw] at hr; subst hr
          rw [back_keep hk fun i b e1 e2 => ?_]
          · have hb := List.getElem?_eq_getElem hk
            obtain ⟨c', hc'⟩ : ∃ c', h[pl (9 + 4 * j)]'hk = .cells c' false := by
              have := hfl (pl (9 + 4 * j)) _ _ hb hB
              cases hx : h[pl (9 + 4 * j)]'hk with
              | cells c' r => rw [hx] at this; simp only [Blk.rw] at this; exact ⟨c', by rw [this]⟩
              | map es => rw [hx] at this; cases this
              | chan n b => rw [hx] at this; cases this
              | iter m n sn => rw [hx] at this; cases this
              | gone => rw [hx] at this; cases this
            rw [hb, hc']
            refine ⟨_, rfl, ?_⟩
            unfold whB at hw ⊢
            split at hw
            · exact ⟨_, _, rfl⟩
            · cases hw
          · have := lt_of_getElem? e1
            simp at this
            simp [this] at e1; subst e1
            rw [hB] at e2; cases e2; rfl
      · exact ⟨B, hbk _ _ hB (.inr hk), hw⟩
    · rcases Nat.lt_or_ge k h.length with hkl | hkl
      · cases ho : (back h (List.range h.length) h1' (rho (List.range h.length) h.length))[k]? with
        | none => rw [back_lt hkl] at ho; split at ho <;> first | cases ho | exact ho.symm
        | some b =>
          rw [back_lt hkl] at ho
          split at ho
          · rename_i b' hov
            obtain ⟨i, e1, e2, e3⟩ := over_some hov
            have := lt_of_getElem? e1
            simp at this
            simp [this] at e1; subst e1
            rw [renB_id hid] at ho
            rw [← hF.fr i hk, e2]; exact ho.symm
          · exact ho.symm
      · exact absurd (hF0 k hkl) hk
    · exact gone_back hF.gone (by simp) (fun i k b1 e1 e2 => by
        have hl := lt_of_getElem? e2
        have : k = i := by simp [hl] at e1; exact e1.symm
        subst this
        refine ⟨b1, e2, ?_⟩
        rw [renB_id hid]
        cases b1 with
        | gone => exact .inl (.inr ⟨rfl, rfl⟩)
        | cells c rw => exact .inl (.inl ⟨rfl, fun q => q⟩)
        | map es => exact .inl (.inl rfl)
        | chan n b => exact .inl (.inl rfl)
        | iter m n sn => exact .inl (.inl rfl))
end Go.Rh

set_option maxHeartbeats 8000000
namespace Go.Rh
def c_law12_within : IFunc := ⟨15, [.tmp 4], (.seq (.reg [kq 4 (.mv (ki 0))]) (.seq (.reg [km 6 0, km 7 1, kq 8 (.bin .rem (.t 6) (.t 7)), km 5 8]) (.seq (.seq (.reg [km 9 5, kq 10 (.bin .lss (.t 9) (ki 0))]) (.cond (.t 10) (.reg [km 11 5, km 12 1, kq 13 (.bin .add (.t 11) (.t 12)), km 5 13]) .skip)) (.seq (.reg [km 14 5, km 4 14]) .ret))))⟩
def c_law12_settle : IFunc := ⟨21, [], (.seq (.reg [kq 4 (.mv (ki 0))]) (.block 0 (.loop (.seq (.seq (.reg [km 6 4, km 7 1, kq 8 (.bin .lss (.t 6) (.t 7))]) (.cond (.t 8) .skip (.exit 0))) (.seq (.block 1 (.seq (.reg [km 11 0, kq 12 (.call "(*roundhouse/yard.Yard).Tick" [(.t 11)])]) (.seq (.reg [kq 5 (.mv (ki 0))]) (.block 2 (.loop (.seq (.seq (.reg [km 13 5, kq 14 (.bin .lss (.t 13) (ki 100)), km 15 14, kg 16 (.mv (.t 0)) 15 true, kg 17 (.call "(*roundhouse/yard.Yard).Deliver" [(.t 16), (ki 0), kF]) 15 true, kq 18 (.pick (.t 15) (.t 17) kF)]) (.cond (.t 18) .skip (.exit 2))) (.seq (.block 3 .skip) (.reg [km 19 5, kq 20 (.bin .add (.t 19) (ki 1)), km 5 20])))))))) (.reg [km 9 4, kq 10 (.bin .add (.t 9) (ki 1)), km 4 10]))))))⟩
theorem within12C {P : Program} (hc : codeOf P "roundhouse/roundhouselaw12.within" = some c_law12_within) (x n : Int) (hn : n ≠ 0) :
    Env P "roundhouse/roundhouselaw12.within" [iv x, iv n] ([]) (Ans (.int .i64 (withinS x n)) ([])) := by
 refine Env.by hc ?_
 unfold c_law12_within
 show GC _ 0 _ _ ⟨reg [(0, iv x), (1, iv n)], []⟩
 refine gseq (greg (o_d 1 [(4, iv 0)] (by kernel_rfl) (o_nil (seq_go (gseq (greg ?_))))))
 refine o_d 2 [(7, iv n), (6, iv x)] (by kernel_rfl) (o_s (by exact run_rem rfl rfl (by omega)) ?_)
 refine o_d 1 [(5, iv (x.tmod n))] (by kernel_rfl) (o_nil (seq_go (gseq (gseq (greg (o_d 2 [(10, bv (decide (x.tmod n < 0))), (9, iv (x.tmod n))] (by kernel_rfl) ?_))))))
 refine o_nil (seq_go (gcond (t := decide (x.tmod n < 0)) rfl (fun h1 => ?_) (fun h1 => ?_)))
 ·skip
  have h1' : x.tmod n < 0 := of_decide_eq_true h1
  refine greg (o_d 4 [(5, iv (i64.wrap (x.tmod n + n))), (13, iv (i64.wrap (x.tmod n + n))), (12, iv n), (11, iv (x.tmod n))] (by kernel_rfl) (o_nil (seq_go (gseq (greg (o_d 2 [(4, iv (i64.wrap (x.tmod n + n))), (14, iv (i64.wrap (x.tmod n + n)))] (by kernel_rfl) ?_))))))
  refine o_nil (seq_go (gret ?_))
  have E0_ : withinS x n = (i64.wrap (x.tmod n + n)) := by
   unfold withinS; simp only [h1', if_true, if_false]
  exact fin_ans [iv (i64.wrap (x.tmod n + n))] (resV_t rfl rfl) rfl (by rw [E0_]; rfl) rfl rfl
 have h1' : ¬ (x.tmod n < 0) := of_decide_eq_false h1
 refine gskip (seq_go (gseq (greg (o_d 2 [(4, iv (x.tmod n)), (14, iv (x.tmod n))] (by kernel_rfl) (o_nil (seq_go ?_))))))
 refine gret ?_
 have E0_ : withinS x n = (x.tmod n) := by
  unfold withinS; simp only [h1', if_true, if_false]
 exact fin_ans [iv (x.tmod n)] (resV_t rfl rfl) rfl (by rw [E0_]; rfl) rfl rfl
theorem settleC {P : Program} (hc : codeOf P "roundhouse/roundhouselaw12.settle" = some c_law12_settle) (h_yard_Yard_Notes : k_yard_Yard_Notes P) (h_yard_Yard_Pool : k_yard_Yard_Pool P) (h_head_Head_Pool : k_head_Head_Pool P) (h_yard_Yard_Wish : k_yard_Yard_Wish P) (h_head_Head_Wish : k_head_Head_Wish P) (h_head_Head_waiting : k_head_Head_waiting P) (h_pool_All : k_pool_All P) (h_pool_Apply : k_pool_Apply P) (h_pool_may : k_pool_may P) (h_pool_held : k_pool_held P) (h_pool_fits : k_pool_fits P) (h_pool_Check : k_pool_Check P) (h_pool_placed : k_pool_placed P) (h_cookie_Next : k_cookie_Next P) (h_yard_Yard_Tick : k_yard_Yard_Tick P) (h_head_Head_Send : k_head_Head_Send P) (h_head_Head_all : k_head_Head_all P) (h_head_Head_publish : k_head_Head_publish P) (h_yard_row_head_Note_put : k_yard_row_head_Note_put P) (h_yard_Yard_Lose : k_yard_Yard_Lose P) (h_yard_row_head_Note_at : k_yard_row_head_Note_at P) (h_yard_row_head_Note_drop : k_yard_row_head_Note_drop P) (h_yard_Yard_Version : k_yard_Yard_Version P) (h_yard_row_yard_unit_at : k_yard_row_yard_unit_at P) (h_plane_Plane_Version : k_plane_Plane_Version P) (h_yard_Yard_Crash : k_yard_Yard_Crash P) (h_plane_Plane_Crash : k_plane_Plane_Crash P) (h_yard_Yard_Deliver : k_yard_Yard_Deliver P) (h_head_Head_Heard : k_head_Head_Heard P) (h_yard_unit_hear : k_yard_unit_hear P) (h_yard_unit_version : k_yard_unit_version P) (h_yard_unit_load : k_yard_unit_load P) (h_plane_Plane_Load : k_plane_Plane_Load P) (h_plane_maybe_api_Pool_lay : k_plane_maybe_api_Pool_lay P) (h_wheel_Make : k_wheel_Make P) (h_wheel_spun : k_wheel_spun P) (h_sip_Words : k_sip_Words P) (h_sip_Of : k_sip_Of P) (h_sip_number_byte : k_sip_number_byte P) (h_sip_state_take : k_sip_state_take P) (h_sip_state_rounds : k_sip_state_rounds P) (h_sip_state_round : k_sip_state_round P) (h_math_bits_RotateLeft64 : k_math_bits_RotateLeft64 P) (h_head_New : k_head_New P) (h_plane_New : k_plane_New P) (h_yard_New : k_yard_New P) (h_yard_row_yard_unit_put : k_yard_row_yard_unit_put P) {F : Nat → Prop} {y : Nat} {S : YS} {h : List Blk} (hY0 : YP F y S h) (hok : YOK S) (turns : Int) (ht0 : 0 ≤ turns) (hl : S.l.length + (turns.toNat - 0) * 1000 ≤ 900000) :
    Env P "roundhouse/roundhouselaw12.settle" [pv y 0, iv turns] h (fun v h' => v = .tuple #[] ∧ YP F y (settleS turns.toNat S) h' ∧ FrY F h h') := by
 refine Env.by2 hc ?_
 unfold c_law12_settle
 have H : YCode P := ⟨h_yard_Yard_Notes, h_yard_Yard_Pool, h_head_Head_Pool, h_yard_Yard_Wish, h_head_Head_Wish, h_head_Head_waiting, h_pool_All, h_pool_Apply, h_pool_may, h_pool_held, h_pool_fits, h_pool_Check, h_pool_placed, h_cookie_Next, h_yard_Yard_Tick, h_head_Head_Send, h_head_Head_all, h_head_Head_publish, h_yard_row_head_Note_put, h_yard_Yard_Lose, h_yard_row_head_Note_at, h_yard_row_head_Note_drop, h_yard_Yard_Version, h_yard_row_yard_unit_at, h_plane_Plane_Version, h_yard_Yard_Crash, h_plane_Plane_Crash, h_yard_Yard_Deliver, h_head_Head_Heard, h_yard_unit_hear, h_yard_unit_version, h_yard_unit_load, h_plane_Plane_Load, h_plane_maybe_api_Pool_lay, h_wheel_Make, h_wheel_spun, h_sip_Words, h_sip_Of, h_sip_number_byte, h_sip_state_take, h_sip_state_rounds, h_sip_state_round, h_math_bits_RotateLeft64, h_head_New, h_plane_New, h_yard_New, h_yard_row_yard_unit_put⟩
 show GC _ h.length _ _ ⟨reg [(0, pv y 0), (1, iv turns)], h⟩
 refine gseq (greg (o_d 1 [(4, iv 0)] (by kernel_rfl) (o_nil (seq_go (gblock (gloop (fun μ s => ∃ (T0z : List Blk), ∃ (i : Nat), ∃ (S1 : YS), μ = turns.toNat - i ∧ YP F y S1 T0z ∧ YOK S1 ∧ FrY F h T0z ∧ ((i : Int) ≤ turns) ∧ (settleS (turns.toNat - i) S1 = settleS turns.toNat S) ∧ (S1.l.length + (turns.toNat - i) * 1000 ≤ 900000) ∧ s = ⟨reg [(4, iv (i : Int)), (0, pv y 0), (1, iv turns)], T0z⟩) ⟨(turns.toNat - 0), ?_⟩ ?_))))))
 ·skip
  exact seq_regs (hB := Nat.le_refl _) [(4, iv (0 : Int)), (0, pv y 0), (1, iv turns)] (by kernel_rfl) (⟨h, 0, S, rfl, hY0, hok, (FrY.refl _ _), (by omega), rfl, hl, rfl⟩)
 rintro μ s ⟨T0z, i, S1, rfl, hY0z, ok0z, hF0z, hi, hset, hln, rfl⟩
 refine gseq (gseq (greg (o_d 3 [(8, bv (decide ((i : Int) < turns))), (7, iv turns), (6, iv (i : Int))] (by kernel_rfl) (o_nil (seq_go (gcond (t := decide ((i : Int) < turns)) rfl (fun h2 => ?_) (fun h2 => ?_)))))))
 ·skip
  have h2' : (i : Int) < turns := of_decide_eq_true h2
  refine gskip (seq_go (gseq (gblock (gseq (greg (o_d 1 [(11, pv y 0)] (by kernel_rfl) ?_))))))
  refine o_cl (YTickK H hY0z (by omega) (by rw [ok0z.hd]; have := ok0z.n; omega)  (fun T2 hY2q hF2 => ?_))
  have hF2 := hF0z.trans hF2
  refine (ex_eq (tickS S1)).elim fun S4 hS5 => ?_
  have hY6 := hS5.symm ▸ hY2q
  have ok7 : YOK S4 := hS5 ▸ (ok_tick ok0z)
  have ln8 : S4.l.length ≤ S1.l.length + 16 := hS5 ▸ tick_len ok0z
  refine o_nil (seq_go (gseq (greg (o_d 1 [(5, iv 0)] (by kernel_rfl) (o_nil (seq_go ?_))))))
  refine gblock (gloop (fun μ s => ∃ (T8z : List Blk), ∃ (k : Nat), ∃ (S2 : YS), μ = 100 - k ∧ YP F y S2 T8z ∧ YOK S2 ∧ FrY F h T8z ∧ (k ≤ 100) ∧ (drain (100 - k) S2 = drain 100 (tickS S1)) ∧ (S2.l.length ≤ S1.l.length + 16 + k) ∧ s = ⟨reg [(5, iv (k : Int)), (4, iv (i : Int)), (0, pv y 0), (1, iv turns)], T8z⟩) ⟨(100 - 0), ?_⟩ ?_)
  ·skip
   refine seq_regs (hB := (by have := hF2.len; omega)) [(5, iv (0 : Int)), (4, iv (i : Int)), (0, pv y 0), (1, iv turns)] (by kernel_rfl) ?_
   exact ⟨T2, 0, S4, rfl, hY6, ok7, hF2, (by omega), (by rw [hS5]), (by omega), rfl⟩
  rintro μ s ⟨T8z, k, S2, rfl, hY8z, ok8z, hF8z, hk, hdr, hln2, rfl⟩
  refine gseq (gseq (greg (o_d 3 [(15, bv (decide ((k : Int) < 100))), (14, bv (decide ((k : Int) < 100))), (13, iv (k : Int))] (by kernel_rfl) (o_sp (b := decide ((k : Int) < 100)) 15 rfl (fun h10 => ?_) (fun h10 => ?_)))))
  ·skip
   have h10' : (k : Int) < 100 := of_decide_eq_true h10
   refine o_d 1 [(16, pv y 0)] (by kernel_rfl) (o_unguard rfl (o_cl (YDeliverK H hY8z (by omega) ok8z.nok 0 false (fun T10 hY10q hF10 => ?_))))
   have hF10 := hF8z.trans hF10
   refine (ex_eq (dlvS S2 0 false)).elim fun S12 hS13 => ?_
   have hY14 := hS13.symm ▸ hY10q
   have ok15 : YOK S12 := hS13 ▸ (ok_dlv ok8z _ _)
   have ln16 : S12.l.length ≤ S2.l.length + 1 := hS13 ▸ dlv_len _ _ _
   refine o_d 1 [(18, bv ((atS S2.l 0).2))] (by kernel_rfl) (o_nil (seq_go (gcond (t := (atS S2.l 0).2) rfl (fun h17 => ?_) (fun h17 => ?_))))
   ·skip
    refine gskip (seq_go (gseq (gblock (gskip (seq_go (greg ?_))))))
    refine o_d 1 [(19, iv (k : Int))] (by kernel_rfl) (o_s (by refine run_val (v := .int .i64 (i64.wrap ((k : Int) + 1))) (congrArg (Value.int .i64) (w64 (by omega) (by omega))) ?_; kernel_rfl) ?_)
    refine o_d 1 [(5, iv ((k : Int) + 1))] (by kernel_rfl) (o_nil (⟨100 - (k + 1), ?_⟩))
    refine seq_regsL (hB := (by have := hF10.len; omega)) [(5, iv ((k + 1) : Int)), (4, iv (i : Int)), (0, pv y 0), (1, iv turns)] (by kernel_rfl) (by omega) ?_
    exact ⟨T10, (k + 1), S12, rfl, hY14, ok15, hF10, (by omega), (by rw [hS13, ← drain_go (k := k) (by omega) (by assumption)]; exact hdr), (by omega), rfl⟩
   refine gexit (seq_go (greg (o_d 1 [(9, iv (i : Int))] (by kernel_rfl) (o_s (by refine run_val (v := .int .i64 (i64.wrap ((i : Int) + 1))) (congrArg (Value.int .i64) (w64 (by omega) (by omega))) ?_; kernel_rfl) ?_))))
   refine o_d 1 [(4, iv ((i : Int) + 1))] (by kernel_rfl) (o_nil (⟨turns.toNat - (i + 1), ?_⟩))
   refine seq_regsL (hB := (by have := hF10.len; omega)) [(4, iv ((i + 1) : Int)), (0, pv y 0), (1, iv turns)] (by kernel_rfl) (by omega) ?_
   exact ⟨T10, (i + 1), S12, rfl, hY14, ok15, hF10, (by omega), (settle_next (i := i) (t := turns.toNat) hset (by omega) (hdr.symm.trans ((drain_stop (by assumption)).trans hS13.symm))), (by omega), rfl⟩
  have h10' : ¬ ((k : Int) < 100) := of_decide_eq_false h10
  refine o_d 3 [(18, bv false), (17, undef), (16, undef)] (by kernel_rfl) (o_nil (seq_go (gfalse rfl (gexit (seq_go (greg ?_))))))
  refine o_d 1 [(9, iv (i : Int))] (by kernel_rfl) (o_s (by refine run_val (v := .int .i64 (i64.wrap ((i : Int) + 1))) (congrArg (Value.int .i64) (w64 (by omega) (by omega))) ?_; kernel_rfl) ?_)
  refine o_d 1 [(4, iv ((i : Int) + 1))] (by kernel_rfl) (o_nil (⟨turns.toNat - (i + 1), ?_⟩))
  refine seq_regsL (hB := (by have := hF8z.len; omega)) [(4, iv ((i + 1) : Int)), (0, pv y 0), (1, iv turns)] (by kernel_rfl) (by omega) ?_
  exact ⟨T8z, (i + 1), S2, rfl, hY8z, ok8z, hF8z, (by omega), (settle_next (i := i) (t := turns.toNat) hset (by omega) (hdr.symm.trans (by rw [show 100 - k = 0 by omega]; rfl))), (by omega), rfl⟩
 have h2' : ¬ ((i : Int) < turns) := of_decide_eq_false h2
 refine gexit ?_
 have hfin : S1 = settleS turns.toNat S := by rw [← hset, show turns.toNat - i = 0 by omega]; rfl
 exact ⟨trivial, _, .inl rfl, [], rfl, tup_nil, rfl, hfin ▸ hY0z, hF0z⟩
end Go.Rh

set_option maxHeartbeats 8000000
namespace Go.Rh
def c_law12_known : IFunc := ⟨84, [.tmp 0], (.seq (.reg [kq 0 (.mv kF)]) (.seq (.reg [kq 12 (.bld [(2, (.int .u64 0))] []), kq 13 (.bld [(2, (.int .u64 0))] []), kq 14 (.call "roundhouse/roundhouseref6.New" [(ki 10), (ki 80), (.t 12), (.t 13)]), km 11 14, kq 15 (.ext 0 (.t 11)), kq 16 (.ext 1 (.t 11)), kq 1 (.new kA), ku (.st 330 (.t 1) (.t 15)), km 2 16]) (.seq (.reg [kq 18 (.ld (some 330) (.t 1)), kq 19 (.call "roundhouse/yard.New" [(.t 18), (ki 2)]), km 17 19, kq 20 (.ext 0 (.t 17)), kq 21 (.ext 1 (.t 17)), km 3 20, km 4 21]) (.seq (.seq (.reg [km 22 4, kq 23 (.bin .neq (.t 22) (ki 0)), km 24 23, kg 25 (.mv (.t 3)) 24 false, kg 26 (.eqn false .ptr (.t 25) (.c (.pointer none))) 24 false, kq 27 (.pick (.t 24) kT (.t 26))]) (.cond (.t 27) (.seq (.reg [kq 0 (.mv kF)]) .ret) .skip)) (.seq (.reg [km 28 3, kq 29 (.call "(*roundhouse/yard.Yard).Notes" [(.t 28)]), km 5 29]) (.seq (.reg [km 30 3, kq 31 (.call "(*roundhouse/yard.Yard).Tick" [(.t 30)]), km 6 31]) (.seq (.reg [km 32 3, kq 33 (.call "(*roundhouse/yard.Yard).Deliver" [(.t 32), (ki 0), kF]), km 34 3, kq 35 (.call "(*roundhouse/yard.Yard).Deliver" [(.t 34), (ki 0), kF]), km 7 33, km 8 35]) (.seq (.reg [km 37 3, kq 38 (.call "(*roundhouse/yard.Yard).Version" [(.t 37), (ki 1)]), km 36 38, kq 39 (.ext 0 (.t 36)), kq 40 (.ext 1 (.t 36)), km 9 39, km 10 40]) (.seq (.dreg [km 41 5, kq 42 (.bin .eql (.t 41) (ki 0)), km 43 42, kg 44 (.mv (.t 6)) 43 true, kg 45 (.bin .eql (.t 44) (ki 2)) 43 true, kq 46 (.pick (.t 43) (.t 45) kF), km 47 46, kg 48 (.mv (.t 7)) 47 true, kq 49 (.pick (.t 47) (.t 48) kF), km 50 49, kg 51 (.mv (.t 8)) 50 true, kq 52 (.pick (.t 50) (.t 51) kF), km 53 52, kg 54 (.mv (.t 3)) 53 true, kg 55 (.call "(*roundhouse/yard.Yard).Notes" [(.t 54)]) 53 true, kg 56 (.bin .eql (.t 55) (ki 2)) 53 true, kq 57 (.pick (.t 53) (.t 56) kF), km 58 57, kg 59 (.mv (.t 10)) 58 true, kq 60 (.pick (.t 58) (.t 59) kF), km 61 60, kg 62 (.mv (.t 9)) 61 true, kg 63 (.bin .eql (.t 62) (ki 0)) 61 true, kq 64 (.pick (.t 61) (.t 63) kF), km 65 64, kg 66 (.mv (.t 3)) 65 true, kg 67 (.call "(*roundhouse/yard.Yard).Deliver" [(.t 66), (ki 0), kF]) 65 true, kq 68 (.pick (.t 65) (.t 67) kF), km 69 68, kg 70 (.mv (.t 3)) 69 true, kg 71 (.call "(*roundhouse/yard.Yard).Lose" [(.t 70), (ki 0)]) 69 true, kq 72 (.pick (.t 69) (.t 71) kF), km 73 72, kg 74 (.mv (.t 3)) 73 true, kg 75 (.call "(*roundhouse/yard.Yard).Lose" [(.t 74), (ki 0)]) 73 true, kg 76 (.un .not (.t 75)) 73 true, kq 77 (.pick (.t 73) (.t 76) kF), km 78 77, kg 79 (.mv (.t 3)) 78 true, kg 80 (.call "(*roundhouse/yard.Yard).Pool" [(.t 79)]) 78 true, kg 81 (.ld (some 330) (.t 1)) 78 true, kg 82 (.eqa false [(330, .i)] (.t 80) (.t 81)) 78 true, kq 83 (.pick (.t 78) (.t 82) kF), km 0 83] [[], [0], [1, 0], [2, 1, 0], [3, 2, 1, 0], [2, 1, 0, 4, 3], [5, 2, 1, 0, 4, 3], [6, 5, 2, 1, 0, 4, 3], [6, 5, 2, 1, 0, 4, 3, 7], [8, 6, 5, 2, 1, 0, 4, 3, 7], [9, 8, 6, 5, 2, 1, 0, 4, 3, 7], [9, 8, 6, 5, 2, 1, 0, 4, 3, 7, 10], [11, 9, 8, 6, 5, 2, 1, 0, 4, 3, 7, 10], [12, 11, 9, 8, 6, 5, 2, 1, 0, 4, 3, 7, 10], [13, 12, 11, 9, 8, 6, 5, 2, 1, 0, 4, 3, 7, 10], [14, 13, 12, 11, 9, 8, 6, 5, 2, 1, 0, 4, 3, 7, 10], [12, 11, 9, 8, 6, 5, 2, 1, 0, 4, 3, 7, 10, 15, 14, 13], [16, 12, 11, 9, 8, 6, 5, 2, 1, 0, 4, 3, 7, 10, 15, 14, 13], [17, 16, 12, 11, 9, 8, 6, 5, 2, 1, 0, 4, 3, 7, 10, 15, 14, 13], [17, 16, 12, 11, 9, 8, 6, 5, 2, 1, 0, 4, 3, 7, 10, 15, 14, 13, 18], [19, 17, 16, 12, 11, 9, 8, 6, 5, 2, 1, 0, 4, 3, 7, 10, 15, 14, 13, 18], [20, 19, 17, 16, 12, 11, 9, 8, 6, 5, 2, 1, 0, 4, 3, 7, 10, 15, 14, 13, 18], [21, 20, 19, 17, 16, 12, 11, 9, 8, 6, 5, 2, 1, 0, 4, 3, 7, 10, 15, 14, 13, 18], [20, 19, 17, 16, 12, 11, 9, 8, 6, 5, 2, 1, 0, 4, 3, 7, 10, 15, 14, 13, 18, 22, 21], [23, 20, 19, 17, 16, 12, 11, 9, 8, 6, 5, 2, 1, 0, 4, 3, 7, 10, 15, 14, 13, 18, 22, 21], [24, 23, 20, 19, 17, 16, 12, 11, 9, 8, 6, 5, 2, 1, 0, 4, 3, 7, 10, 15, 14, 13, 18, 22, 21], [25, 24, 23, 20, 19, 17, 16, 12, 11, 9, 8, 6, 5, 2, 1, 0, 4, 3, 7, 10, 15, 14, 13, 18, 22, 21], [24, 23, 20, 19, 17, 16, 12, 11, 9, 8, 6, 5, 2, 1, 0, 4, 3, 7, 10, 15, 14, 13, 18, 22, 21, 26, 25], [27, 24, 23, 20, 19, 17, 16, 12, 11, 9, 8, 6, 5, 2, 1, 0, 4, 3, 7, 10, 15, 14, 13, 18, 22, 21, 26, 25], [28, 27, 24, 23, 20, 19, 17, 16, 12, 11, 9, 8, 6, 5, 2, 1, 0, 4, 3, 7, 10, 15, 14, 13, 18, 22, 21, 26, 25], [29, 28, 27, 24, 23, 20, 19, 17, 16, 12, 11, 9, 8, 6, 5, 2, 1, 0, 4, 3, 7, 10, 15, 14, 13, 18, 22, 21, 26, 25], [28, 27, 24, 23, 20, 19, 17, 16, 12, 11, 9, 8, 6, 5, 2, 1, 0, 4, 3, 7, 10, 15, 14, 13, 18, 22, 21, 26, 25, 30, 29], [31, 28, 27, 24, 23, 20, 19, 17, 16, 12, 11, 9, 8, 6, 5, 2, 1, 0, 4, 3, 7, 10, 15, 14, 13, 18, 22, 21, 26, 25, 30, 29], [32, 31, 28, 27, 24, 23, 20, 19, 17, 16, 12, 11, 9, 8, 6, 5, 2, 1, 0, 4, 3, 7, 10, 15, 14, 13, 18, 22, 21, 26, 25, 30, 29], [33, 32, 31, 28, 27, 24, 23, 20, 19, 17, 16, 12, 11, 9, 8, 6, 5, 2, 1, 0, 4, 3, 7, 10, 15, 14, 13, 18, 22, 21, 26, 25, 30, 29], [34, 33, 32, 31, 28, 27, 24, 23, 20, 19, 17, 16, 12, 11, 9, 8, 6, 5, 2, 1, 0, 4, 3, 7, 10, 15, 14, 13, 18, 22, 21, 26, 25, 30, 29], [32, 31, 28, 27, 24, 23, 20, 19, 17, 16, 12, 11, 9, 8, 6, 5, 2, 1, 0, 4, 3, 7, 10, 15, 14, 13, 18, 22, 21, 26, 25, 30, 29, 35, 34, 33], [36, 32, 31, 28, 27, 24, 23, 20, 19, 17, 16, 12, 11, 9, 8, 6, 5, 2, 1, 0, 4, 3, 7, 10, 15, 14, 13, 18, 22, 21, 26, 25, 30, 29, 35, 34, 33], [37, 36, 32, 31, 28, 27, 24, 23, 20, 19, 17, 16, 12, 11, 9, 8, 6, 5, 2, 1, 0, 4, 3, 7, 10, 15, 14, 13, 18, 22, 21, 26, 25, 30, 29, 35, 34, 33], [38, 37, 36, 32, 31, 28, 27, 24, 23, 20, 19, 17, 16, 12, 11, 9, 8, 6, 5, 2, 1, 0, 4, 3, 7, 10, 15, 14, 13, 18, 22, 21, 26, 25, 30, 29, 35, 34, 33], [37, 36, 32, 31, 28, 27, 24, 23, 20, 19, 17, 16, 12, 11, 9, 8, 6, 5, 2, 1, 0, 4, 3, 7, 10, 15, 14, 13, 18, 22, 21, 26, 25, 30, 29, 35, 34, 33], [39, 38, 37, 36, 32, 31, 28, 27, 24, 23, 20, 19, 17, 16, 12, 11, 9, 8, 6, 5, 2, 1, 0, 4, 3, 7, 10, 15, 14, 13, 18, 22, 21, 26, 25, 30, 29, 35, 34, 33, 40], [37, 36, 32, 31, 28, 27, 24, 23, 20, 19, 17, 16, 12, 11, 9, 8, 6, 5, 2, 1, 0, 4, 3, 7, 10, 15, 14, 13, 18, 22, 21, 26, 25, 30, 29, 35, 34, 33, 41, 39, 38, 40], [42, 37, 36, 32, 31, 28, 27, 24, 23, 20, 19, 17, 16, 12, 11, 9, 8, 6, 5, 2, 1, 0, 4, 3, 7, 10, 15, 14, 13, 18, 22, 21, 26, 25, 30, 29, 35, 34, 33, 41, 39, 38, 40]]) .ret)))))))))⟩
theorem known12C {P : Program} (hc : codeOf P "roundhouse/roundhouselaw12.known" = some c_law12_known) (h_ref6_New : k_ref6_New P) (h_ref6_out : k_ref6_out P) (h_ref5_Ring : k_ref5_Ring P) (h_yard_Yard_Notes : k_yard_Yard_Notes P) (h_yard_Yard_Pool : k_yard_Yard_Pool P) (h_head_Head_Pool : k_head_Head_Pool P) (h_yard_Yard_Wish : k_yard_Yard_Wish P) (h_head_Head_Wish : k_head_Head_Wish P) (h_head_Head_waiting : k_head_Head_waiting P) (h_pool_All : k_pool_All P) (h_pool_Apply : k_pool_Apply P) (h_pool_may : k_pool_may P) (h_pool_held : k_pool_held P) (h_pool_fits : k_pool_fits P) (h_pool_Check : k_pool_Check P) (h_pool_placed : k_pool_placed P) (h_cookie_Next : k_cookie_Next P) (h_yard_Yard_Tick : k_yard_Yard_Tick P) (h_head_Head_Send : k_head_Head_Send P) (h_head_Head_all : k_head_Head_all P) (h_head_Head_publish : k_head_Head_publish P) (h_yard_row_head_Note_put : k_yard_row_head_Note_put P) (h_yard_Yard_Lose : k_yard_Yard_Lose P) (h_yard_row_head_Note_at : k_yard_row_head_Note_at P) (h_yard_row_head_Note_drop : k_yard_row_head_Note_drop P) (h_yard_Yard_Version : k_yard_Yard_Version P) (h_yard_row_yard_unit_at : k_yard_row_yard_unit_at P) (h_plane_Plane_Version : k_plane_Plane_Version P) (h_yard_Yard_Crash : k_yard_Yard_Crash P) (h_plane_Plane_Crash : k_plane_Plane_Crash P) (h_yard_Yard_Deliver : k_yard_Yard_Deliver P) (h_head_Head_Heard : k_head_Head_Heard P) (h_yard_unit_hear : k_yard_unit_hear P) (h_yard_unit_version : k_yard_unit_version P) (h_yard_unit_load : k_yard_unit_load P) (h_plane_Plane_Load : k_plane_Plane_Load P) (h_plane_maybe_api_Pool_lay : k_plane_maybe_api_Pool_lay P) (h_wheel_Make : k_wheel_Make P) (h_wheel_spun : k_wheel_spun P) (h_sip_Words : k_sip_Words P) (h_sip_Of : k_sip_Of P) (h_sip_number_byte : k_sip_number_byte P) (h_sip_state_take : k_sip_state_take P) (h_sip_state_rounds : k_sip_state_rounds P) (h_sip_state_round : k_sip_state_round P) (h_math_bits_RotateLeft64 : k_math_bits_RotateLeft64 P) (h_head_New : k_head_New P) (h_plane_New : k_plane_New P) (h_yard_New : k_yard_New P) (h_yard_row_yard_unit_put : k_yard_row_yard_unit_put P)  :
    Env P "roundhouse/roundhouselaw12.known" [] ([]) (Ans (.bool true) ([])) := by
 refine Env.by hc ?_
 unfold c_law12_known
 show GC _ 0 _ _ ⟨reg [], []⟩
 have H : YCode P := ⟨h_yard_Yard_Notes, h_yard_Yard_Pool, h_head_Head_Pool, h_yard_Yard_Wish, h_head_Head_Wish, h_head_Head_waiting, h_pool_All, h_pool_Apply, h_pool_may, h_pool_held, h_pool_fits, h_pool_Check, h_pool_placed, h_cookie_Next, h_yard_Yard_Tick, h_head_Head_Send, h_head_Head_all, h_head_Head_publish, h_yard_row_head_Note_put, h_yard_Yard_Lose, h_yard_row_head_Note_at, h_yard_row_head_Note_drop, h_yard_Yard_Version, h_yard_row_yard_unit_at, h_plane_Plane_Version, h_yard_Yard_Crash, h_plane_Plane_Crash, h_yard_Yard_Deliver, h_head_Head_Heard, h_yard_unit_hear, h_yard_unit_version, h_yard_unit_load, h_plane_Plane_Load, h_plane_maybe_api_Pool_lay, h_wheel_Make, h_wheel_spun, h_sip_Words, h_sip_Of, h_sip_number_byte, h_sip_state_take, h_sip_state_rounds, h_sip_state_round, h_math_bits_RotateLeft64, h_head_New, h_plane_New, h_yard_New, h_yard_row_yard_unit_put⟩
 refine gseq (greg (o_d 1 [(0, bv false)] (by kernel_rfl) (o_nil (seq_go (gseq (greg ?_))))))
 refine o_d 2 [(13, .agg #[uv 0, uv 0]), (12, .agg #[uv 0, uv 0])] (by kernel_rfl) (o_cl (callV (refNewC h_ref6_New h_ref6_out h_ref5_Ring 10 80 0 0 0 0) rfl rfl (all_cons (poolV_aggf ((newP 10 80 0 0 0 0).1)) (all_cons rfl rfl)) (o_b 4 [(1, pv 0 0), (16, iv ((newP 10 80 0 0 0 0).2)), (15, poolV ((newP 10 80 0 0 0 0).1)), (11, .tuple #[poolV ((newP 10 80 0 0 0 0).1), iv ((newP 10 80 0 0 0 0).2)])] [cw (pl zeroP)] (by kernel_rfl) (o_s0 (by refine run_st (c' := pl ((newP 10 80 0 0 0 0).1)) rfl rfl rfl ?_ ?_ ?_; exact pl_length _; exact pl_le (by omega); exact splice_pl0 zeroP ((newP 10 80 0 0 0 0).1)) ?_))))
 refine o_b 1 [(2, iv ((newP 10 80 0 0 0 0).2))] [cw (pl ((newP 10 80 0 0 0 0).1))] (by kernel_rfl) (o_nil (seq_go (gseq (greg (o_s (by refine run_ld (v := poolV ((newP 10 80 0 0 0 0).1)) rfl rfl ?_; exact pl_all ((newP 10 80 0 0 0 0).1)) ?_)))))
 refine o_cl (YNewK H ((newP 10 80 0 0 0 0).1) 2 (fun q => absurd q (by omega)) (fun T0 hu0 hY0q => ?_))
 have hY0 : YP (fun k => 1 ≤ k) 1 (nyS ((newP 10 80 0 0 0 0).1) 2) ([cw (pl ((newP 10 80 0 0 0 0).1))] ++ T0) := hY0q
 refine o_d 5 [(4, iv 0), (3, pv 1 0), (21, iv 0), (20, pv 1 0), (17, .tuple #[pv 1 0, iv 0])] (by kernel_rfl) (o_nil (seq_go (gseq (gseq (greg (o_d 6 [(27, bv false), (26, bv false), (25, pv 1 0), (24, bv false), (23, bv false), (22, iv 0)] (by kernel_rfl) ?_))))))
 refine o_nil (seq_go (gfalse rfl (gskip (seq_go (gseq (greg ?_))))))
 refine o_d 1 [(28, pv 1 0)] (by kernel_rfl) (o_cl (YNotesK H hY0   (spl rfl fun T1 hY1q => ?_)))
 refine o_d 1 [(5, iv ((nyS ((newP 10 80 0 0 0 0).1) 2).l.length : Nat))] (by kernel_rfl) (o_nil (seq_regs [(5, iv ((nyS ((newP 10 80 0 0 0 0).1) 2).l.length : Nat)), (3, pv 1 0), (1, pv 0 0)] (by kernel_rfl) (gseq (greg (o_d 1 [(30, pv 1 0)] (by kernel_rfl) (o_cl (YTickK H hY1q (Nat.le_of_ble_eq_true (by kernel_rfl)) (Nat.le_of_ble_eq_true (by kernel_rfl))  (spl rfl fun T2 hY2q => ?_))))))))
 refine o_d 1 [(6, iv ((tickS (nyS ((newP 10 80 0 0 0 0).1) 2)).l.length : Nat))] (by kernel_rfl) (o_nil (seq_go (gseq (greg (o_d 1 [(32, pv 1 0)] (by kernel_rfl) (o_cl (YDeliverK H hY2q (Nat.le_of_ble_eq_true (by kernel_rfl)) (ok_tick (ok_nyS ((newP 10 80 0 0 0 0).1) (by decide) (by decide))).nok 0 false (spl rfl fun T3 hY3q => ?_))))))))
 refine o_d 1 [(34, pv 1 0)] (by kernel_rfl) (o_cl (YDeliverK H hY3q (Nat.le_of_ble_eq_true (by kernel_rfl)) (ok_dlv (ok_tick (ok_nyS ((newP 10 80 0 0 0 0).1) (by decide) (by decide))) _ _).nok 0 false (spl rfl fun T4 hY4q => ?_)))
 refine o_d 2 [(8, bv ((atS (dlvS (tickS (nyS ((newP 10 80 0 0 0 0).1) 2)) 0 false).l 0).2)), (7, bv ((atS (tickS (nyS ((newP 10 80 0 0 0 0).1) 2)).l 0).2))] (by kernel_rfl) (o_nil (seq_go (gseq (greg (o_d 1 [(37, pv 1 0)] (by kernel_rfl) (o_cl (YVersionK H hY4q  1 (spl rfl fun T5 hY5q => ?_))))))))
 refine o_d 5 [(10, bv ((verY (dlvS (dlvS (tickS (nyS ((newP 10 80 0 0 0 0).1) 2)) 0 false) 0 false) 1).2)), (9, iv ((verY (dlvS (dlvS (tickS (nyS ((newP 10 80 0 0 0 0).1) 2)) 0 false) 0 false) 1).1)), (40, bv ((verY (dlvS (dlvS (tickS (nyS ((newP 10 80 0 0 0 0).1) 2)) 0 false) 0 false) 1).2)), (39, iv ((verY (dlvS (dlvS (tickS (nyS ((newP 10 80 0 0 0 0).1) 2)) 0 false) 0 false) 1).1)), (36, .tuple #[iv ((verY (dlvS (dlvS (tickS (nyS ((newP 10 80 0 0 0 0).1) 2)) 0 false) 0 false) 1).1), bv ((verY (dlvS (dlvS (tickS (nyS ((newP 10 80 0 0 0 0).1) 2)) 0 false) 0 false) 1).2)])] (by kernel_rfl) (o_nil (seq_go (gseq (gdregD ([cw (pl ((newP 10 80 0 0 0 0).1))] ++ T5) (List.append_nil _) (d_n 3 3 _ [(43, bv ((((nyS ((newP 10 80 0 0 0 0).1) 2).l.length : Nat) : Int) == 0)), (42, bv ((((nyS ((newP 10 80 0 0 0 0).1) 2).l.length : Nat) : Int) == 0)), (41, iv ((nyS ((newP 10 80 0 0 0 0).1) 2).l.length : Nat))] ([cw (pl ((newP 10 80 0 0 0 0).1))] ++ T5) [] (by kernel_rfl) rfl rfl (d_sp (b := (((nyS ((newP 10 80 0 0 0 0).1) 2).l.length : Nat) : Int) == 0) 43 rfl (fun k7 => ?_) (fun q => by rw [(by kernel_rfl : ((((nyS ((newP 10 80 0 0 0 0).1) 2).l.length : Nat) : Int) == 0) = true)] at q; cases q)))))))
 refine d_n 4 7 _ [(47, bv ((((tickS (nyS ((newP 10 80 0 0 0 0).1) 2)).l.length : Nat) : Int) == 2)), (46, bv ((((tickS (nyS ((newP 10 80 0 0 0 0).1) 2)).l.length : Nat) : Int) == 2)), (45, bv ((((tickS (nyS ((newP 10 80 0 0 0 0).1) 2)).l.length : Nat) : Int) == 2)), (44, iv ((tickS (nyS ((newP 10 80 0 0 0 0).1) 2)).l.length : Nat))] ([cw (pl ((newP 10 80 0 0 0 0).1))] ++ T5) [] (by kernel_rfl) rfl rfl (d_sp (b := (((tickS (nyS ((newP 10 80 0 0 0 0).1) 2)).l.length : Nat) : Int) == 2) 47 rfl (fun k8 => ?_) (fun q => by rw [(by kernel_rfl : ((((tickS (nyS ((newP 10 80 0 0 0 0).1) 2)).l.length : Nat) : Int) == 2) = true)] at q; cases q))
 refine d_n 3 10 _ [(50, bv ((atS (tickS (nyS ((newP 10 80 0 0 0 0).1) 2)).l 0).2)), (49, bv ((atS (tickS (nyS ((newP 10 80 0 0 0 0).1) 2)).l 0).2)), (48, bv ((atS (tickS (nyS ((newP 10 80 0 0 0 0).1) 2)).l 0).2))] ([cw (pl ((newP 10 80 0 0 0 0).1))] ++ T5) [] (by kernel_rfl) rfl rfl (d_sp (b := (atS (tickS (nyS ((newP 10 80 0 0 0 0).1) 2)).l 0).2) 50 rfl (fun k9 => ?_) (fun q => by rw [(by kernel_rfl : ((atS (tickS (nyS ((newP 10 80 0 0 0 0).1) 2)).l 0).2) = true)] at q; cases q))
 refine d_n 3 13 _ [(53, bv ((atS (dlvS (tickS (nyS ((newP 10 80 0 0 0 0).1) 2)) 0 false).l 0).2)), (52, bv ((atS (dlvS (tickS (nyS ((newP 10 80 0 0 0 0).1) 2)) 0 false).l 0).2)), (51, bv ((atS (dlvS (tickS (nyS ((newP 10 80 0 0 0 0).1) 2)) 0 false).l 0).2))] ([cw (pl ((newP 10 80 0 0 0 0).1))] ++ T5) [] (by kernel_rfl) rfl rfl (d_sp (b := (atS (dlvS (tickS (nyS ((newP 10 80 0 0 0 0).1) 2)) 0 false).l 0).2) 53 rfl (fun k10 => ?_) (fun q => by rw [(by kernel_rfl : ((atS (dlvS (tickS (nyS ((newP 10 80 0 0 0 0).1) 2)) 0 false).l 0).2) = true)] at q; cases q))
 refine d_n 1 14 _ [(54, pv 1 0)] ([cw (pl ((newP 10 80 0 0 0 0).1))] ++ T5) [] (by kernel_rfl) rfl rfl (d_unguard rfl (d_clK (by kernel_rfl) (by kernel_rfl) (YNotesK H hY5q   (spl rfl fun T10 hY10q => fun rd10 wr10 => ?_))))
 refine d_n 3 18 _ [(58, bv ((((dlvS (dlvS (tickS (nyS ((newP 10 80 0 0 0 0).1) 2)) 0 false) 0 false).l.length : Nat) : Int) == 2)), (57, bv ((((dlvS (dlvS (tickS (nyS ((newP 10 80 0 0 0 0).1) 2)) 0 false) 0 false).l.length : Nat) : Int) == 2)), (56, bv ((((dlvS (dlvS (tickS (nyS ((newP 10 80 0 0 0 0).1) 2)) 0 false) 0 false).l.length : Nat) : Int) == 2))] ([cw (pl ((newP 10 80 0 0 0 0).1))] ++ T10) [⟨14, rd10, wr10, some ([cw (pl ((newP 10 80 0 0 0 0).1))] ++ T5).length⟩] (by kernel_rfl) rfl rfl (d_sp (b := (((dlvS (dlvS (tickS (nyS ((newP 10 80 0 0 0 0).1) 2)) 0 false) 0 false).l.length : Nat) : Int) == 2) 58 rfl (fun k12 => ?_) (fun q => by rw [(by kernel_rfl : ((((dlvS (dlvS (tickS (nyS ((newP 10 80 0 0 0 0).1) 2)) 0 false) 0 false).l.length : Nat) : Int) == 2) = true)] at q; cases q))
 refine d_n 3 21 _ [(61, bv ((verY (dlvS (dlvS (tickS (nyS ((newP 10 80 0 0 0 0).1) 2)) 0 false) 0 false) 1).2)), (60, bv ((verY (dlvS (dlvS (tickS (nyS ((newP 10 80 0 0 0 0).1) 2)) 0 false) 0 false) 1).2)), (59, bv ((verY (dlvS (dlvS (tickS (nyS ((newP 10 80 0 0 0 0).1) 2)) 0 false) 0 false) 1).2))] ([cw (pl ((newP 10 80 0 0 0 0).1))] ++ T10) [⟨14, rd10, wr10, some ([cw (pl ((newP 10 80 0 0 0 0).1))] ++ T5).length⟩] (by kernel_rfl) rfl rfl (d_sp (b := (verY (dlvS (dlvS (tickS (nyS ((newP 10 80 0 0 0 0).1) 2)) 0 false) 0 false) 1).2) 61 rfl (fun k13 => ?_) (fun q => by rw [(by kernel_rfl : ((verY (dlvS (dlvS (tickS (nyS ((newP 10 80 0 0 0 0).1) 2)) 0 false) 0 false) 1).2) = true)] at q; cases q))
 refine d_n 4 25 _ [(65, bv (((verY (dlvS (dlvS (tickS (nyS ((newP 10 80 0 0 0 0).1) 2)) 0 false) 0 false) 1).1) == 0)), (64, bv (((verY (dlvS (dlvS (tickS (nyS ((newP 10 80 0 0 0 0).1) 2)) 0 false) 0 false) 1).1) == 0)), (63, bv (((verY (dlvS (dlvS (tickS (nyS ((newP 10 80 0 0 0 0).1) 2)) 0 false) 0 false) 1).1) == 0)), (62, iv ((verY (dlvS (dlvS (tickS (nyS ((newP 10 80 0 0 0 0).1) 2)) 0 false) 0 false) 1).1))] ([cw (pl ((newP 10 80 0 0 0 0).1))] ++ T10) [⟨14, rd10, wr10, some ([cw (pl ((newP 10 80 0 0 0 0).1))] ++ T5).length⟩] (by kernel_rfl) rfl rfl (d_sp (b := ((verY (dlvS (dlvS (tickS (nyS ((newP 10 80 0 0 0 0).1) 2)) 0 false) 0 false) 1).1) == 0) 65 rfl (fun k14 => ?_) (fun q => by rw [(by kernel_rfl : (((verY (dlvS (dlvS (tickS (nyS ((newP 10 80 0 0 0 0).1) 2)) 0 false) 0 false) 1).1) == 0) = true)] at q; cases q))
 refine d_n 1 26 _ [(66, pv 1 0)] ([cw (pl ((newP 10 80 0 0 0 0).1))] ++ T10) [⟨14, rd10, wr10, some ([cw (pl ((newP 10 80 0 0 0 0).1))] ++ T5).length⟩] (by kernel_rfl) rfl rfl (d_unguard rfl (d_clK (by kernel_rfl) (by kernel_rfl) (YDeliverK H hY10q (Nat.le_of_ble_eq_true (by kernel_rfl)) (ok_dlv (ok_dlv (ok_tick (ok_nyS ((newP 10 80 0 0 0 0).1) (by decide) (by decide))) _ _) _ _).nok 0 false (spl rfl fun T14 hY14q => fun rd14 wr14 => ?_))))
 refine d_n 2 29 _ [(69, bv ((atS (dlvS (dlvS (tickS (nyS ((newP 10 80 0 0 0 0).1) 2)) 0 false) 0 false).l 0).2)), (68, bv ((atS (dlvS (dlvS (tickS (nyS ((newP 10 80 0 0 0 0).1) 2)) 0 false) 0 false).l 0).2))] ([cw (pl ((newP 10 80 0 0 0 0).1))] ++ T14) [⟨26, rd14, wr14, some ([cw (pl ((newP 10 80 0 0 0 0).1))] ++ T10).length⟩, ⟨14, rd10, wr10, some ([cw (pl ((newP 10 80 0 0 0 0).1))] ++ T5).length⟩] (by kernel_rfl) rfl rfl (d_sp (b := (atS (dlvS (dlvS (tickS (nyS ((newP 10 80 0 0 0 0).1) 2)) 0 false) 0 false).l 0).2) 69 rfl (fun k16 => ?_) (fun q => by rw [(by kernel_rfl : ((atS (dlvS (dlvS (tickS (nyS ((newP 10 80 0 0 0 0).1) 2)) 0 false) 0 false).l 0).2) = true)] at q; cases q))
 refine d_n 1 30 _ [(70, pv 1 0)] ([cw (pl ((newP 10 80 0 0 0 0).1))] ++ T14) [⟨26, rd14, wr14, some ([cw (pl ((newP 10 80 0 0 0 0).1))] ++ T10).length⟩, ⟨14, rd10, wr10, some ([cw (pl ((newP 10 80 0 0 0 0).1))] ++ T5).length⟩] (by kernel_rfl) rfl rfl (d_unguard rfl (d_clK (by kernel_rfl) (by kernel_rfl) (YLoseK H hY14q (Nat.le_of_ble_eq_true (by kernel_rfl)) 0 (spl rfl fun T16 hY16q => fun rd16 wr16 => ?_))))
 refine d_n 2 33 _ [(73, bv ((atS (dlvS (dlvS (dlvS (tickS (nyS ((newP 10 80 0 0 0 0).1) 2)) 0 false) 0 false) 0 false).l 0).2)), (72, bv ((atS (dlvS (dlvS (dlvS (tickS (nyS ((newP 10 80 0 0 0 0).1) 2)) 0 false) 0 false) 0 false).l 0).2))] ([cw (pl ((newP 10 80 0 0 0 0).1))] ++ T16) [⟨30, rd16, wr16, some ([cw (pl ((newP 10 80 0 0 0 0).1))] ++ T14).length⟩, ⟨26, rd14, wr14, some ([cw (pl ((newP 10 80 0 0 0 0).1))] ++ T10).length⟩, ⟨14, rd10, wr10, some ([cw (pl ((newP 10 80 0 0 0 0).1))] ++ T5).length⟩] (by kernel_rfl) rfl rfl (d_sp (b := (atS (dlvS (dlvS (dlvS (tickS (nyS ((newP 10 80 0 0 0 0).1) 2)) 0 false) 0 false) 0 false).l 0).2) 73 rfl (fun k18 => ?_) (fun q => by rw [(by kernel_rfl : ((atS (dlvS (dlvS (dlvS (tickS (nyS ((newP 10 80 0 0 0 0).1) 2)) 0 false) 0 false) 0 false).l 0).2) = true)] at q; cases q))
 refine d_n 1 34 _ [(74, pv 1 0)] ([cw (pl ((newP 10 80 0 0 0 0).1))] ++ T16) [⟨30, rd16, wr16, some ([cw (pl ((newP 10 80 0 0 0 0).1))] ++ T14).length⟩, ⟨26, rd14, wr14, some ([cw (pl ((newP 10 80 0 0 0 0).1))] ++ T10).length⟩, ⟨14, rd10, wr10, some ([cw (pl ((newP 10 80 0 0 0 0).1))] ++ T5).length⟩] (by kernel_rfl) rfl rfl (d_unguard rfl (d_clK (by kernel_rfl) (by kernel_rfl) (YLoseK H hY16q (Nat.le_of_ble_eq_true (by kernel_rfl)) 0 (spl rfl fun T18 hY18q => fun rd18 wr18 => ?_))))
 refine d_n 3 38 _ [(78, bv (!((atS (loseY (dlvS (dlvS (dlvS (tickS (nyS ((newP 10 80 0 0 0 0).1) 2)) 0 false) 0 false) 0 false) 0).l 0).2))), (77, bv (!((atS (loseY (dlvS (dlvS (dlvS (tickS (nyS ((newP 10 80 0 0 0 0).1) 2)) 0 false) 0 false) 0 false) 0).l 0).2))), (76, bv (!((atS (loseY (dlvS (dlvS (dlvS (tickS (nyS ((newP 10 80 0 0 0 0).1) 2)) 0 false) 0 false) 0 false) 0).l 0).2)))] ([cw (pl ((newP 10 80 0 0 0 0).1))] ++ T18) [⟨34, rd18, wr18, some ([cw (pl ((newP 10 80 0 0 0 0).1))] ++ T16).length⟩, ⟨30, rd16, wr16, some ([cw (pl ((newP 10 80 0 0 0 0).1))] ++ T14).length⟩, ⟨26, rd14, wr14, some ([cw (pl ((newP 10 80 0 0 0 0).1))] ++ T10).length⟩, ⟨14, rd10, wr10, some ([cw (pl ((newP 10 80 0 0 0 0).1))] ++ T5).length⟩] (by kernel_rfl) rfl rfl (d_sp (b := !((atS (loseY (dlvS (dlvS (dlvS (tickS (nyS ((newP 10 80 0 0 0 0).1) 2)) 0 false) 0 false) 0 false) 0).l 0).2)) 78 rfl (fun k20 => ?_) (fun q => by rw [(by kernel_rfl : (!((atS (loseY (dlvS (dlvS (dlvS (tickS (nyS ((newP 10 80 0 0 0 0).1) 2)) 0 false) 0 false) 0 false) 0).l 0).2)) = true)] at q; cases q))
 refine d_n 1 39 _ [(79, pv 1 0)] ([cw (pl ((newP 10 80 0 0 0 0).1))] ++ T18) [⟨34, rd18, wr18, some ([cw (pl ((newP 10 80 0 0 0 0).1))] ++ T16).length⟩, ⟨30, rd16, wr16, some ([cw (pl ((newP 10 80 0 0 0 0).1))] ++ T14).length⟩, ⟨26, rd14, wr14, some ([cw (pl ((newP 10 80 0 0 0 0).1))] ++ T10).length⟩, ⟨14, rd10, wr10, some ([cw (pl ((newP 10 80 0 0 0 0).1))] ++ T5).length⟩] (by kernel_rfl) rfl rfl (d_unguard rfl (d_clS (fits_alone (x := ⟨39, [], [], none⟩) (by kernel_rfl)) (YPoolF H hY18q (spl rfl fun T20 hY20q => fun rd20 wr20 hw20 => ?_))))
 refine d_unguard rfl (d_ldF (v := poolV ((newP 10 80 0 0 0 0).1)) rfl rfl (pl_all ((newP 10 80 0 0 0 0).1)) (fits_ld (by decide) hw20 (by simp) (fun y hy => .inr (fits_alone (x := ⟨40, [], [], none⟩) (by kernel_rfl) y hy))) ?_)
 refine d_unguard rfl (d_s rfl rfl rfl (by kernel_rfl) (by refine run_eqa (a := ⟨pl ((loseY (loseY (dlvS (dlvS (dlvS (tickS (nyS ((newP 10 80 0 0 0 0).1) 2)) 0 false) 0 false) 0 false) 0) 0).x.p)⟩) (b := ⟨pl ((newP 10 80 0 0 0 0).1)⟩) (r := eqP ((loseY (loseY (dlvS (dlvS (dlvS (tickS (nyS ((newP 10 80 0 0 0 0).1) 2)) 0 false) 0 false) 0 false) 0) 0).x.p) ((newP 10 80 0 0 0 0).1)) (R := eqP ((loseY (loseY (dlvS (dlvS (dlvS (tickS (nyS ((newP 10 80 0 0 0 0).1) 2)) 0 false) 0 false) 0 false) 0) 0).x.p) ((newP 10 80 0 0 0 0).1)) ?_ rfl; exact eqP_run ((loseY (loseY (dlvS (dlvS (dlvS (tickS (nyS ((newP 10 80 0 0 0 0).1) 2)) 0 false) 0 false) 0 false) 0) 0).x.p) ((newP 10 80 0 0 0 0).1) rfl rfl) ?_)
 refine d_n 2 44 _ [(0, bv (eqP ((loseY (loseY (dlvS (dlvS (dlvS (tickS (nyS ((newP 10 80 0 0 0 0).1) 2)) 0 false) 0 false) 0 false) 0) 0).x.p) ((newP 10 80 0 0 0 0).1))), (83, bv (eqP ((loseY (loseY (dlvS (dlvS (dlvS (tickS (nyS ((newP 10 80 0 0 0 0).1) 2)) 0 false) 0 false) 0 false) 0) 0).x.p) ((newP 10 80 0 0 0 0).1)))] ([cw (pl ((newP 10 80 0 0 0 0).1))] ++ T20) [⟨40, [0], [], none⟩, ⟨39, rd20, wr20, some ([cw (pl ((newP 10 80 0 0 0 0).1))] ++ T18).length⟩, ⟨34, rd18, wr18, some ([cw (pl ((newP 10 80 0 0 0 0).1))] ++ T16).length⟩, ⟨30, rd16, wr16, some ([cw (pl ((newP 10 80 0 0 0 0).1))] ++ T14).length⟩, ⟨26, rd14, wr14, some ([cw (pl ((newP 10 80 0 0 0 0).1))] ++ T10).length⟩, ⟨14, rd10, wr10, some ([cw (pl ((newP 10 80 0 0 0 0).1))] ++ T5).length⟩] (by kernel_rfl) rfl rfl (d_nil (seq_regs [(0, bv (eqP ((loseY (loseY (dlvS (dlvS (dlvS (tickS (nyS ((newP 10 80 0 0 0 0).1) 2)) 0 false) 0 false) 0 false) 0) 0).x.p) ((newP 10 80 0 0 0 0).1)))] (by kernel_rfl) (gret ?_)))
 have E0_ : (eqP ((loseY (loseY (dlvS (dlvS (dlvS (tickS (nyS ((newP 10 80 0 0 0 0).1) 2)) 0 false) 0 false) 0 false) 0) 0).x.p) ((newP 10 80 0 0 0 0).1)) = true := by
  kernel_rfl
 exact fin_ans [bv (eqP ((loseY (loseY (dlvS (dlvS (dlvS (tickS (nyS ((newP 10 80 0 0 0 0).1) 2)) 0 false) 0 false) 0 false) 0) 0).x.p) ((newP 10 80 0 0 0 0).1))] (resV_t rfl rfl) rfl (by rw [E0_]; rfl) rfl rfl
end Go.Rh

set_option maxHeartbeats 8000000
namespace Go.Rh
end Go.Rh

namespace Go.Rh
theorem go_quiet {x : HS} (h : x.w = [] ∨ allW x.hd (x.p 0) = false) : goS x = x := by
  unfold goS
  rcases h with h | h
  · split
    · unfold pubS; rw [h]
    · rfl
  · rw [h]; rfl
theorem send_quiet {x : HS} (h : x.w = [] ∨ allW x.hd (x.p 0) = false) : sendS x = (x, notesTo x x.hd.length) := by
  unfold sendS; rw [go_quiet h]
theorem lk_at {hd : List (Int × Int)} {u : Nat} (h : u < hd.length) : lkS hd (u : Nat) = (hd.getD u (0, 0), true) := by
  unfold lkS; rw [if_pos ⟨by omega, by omega⟩]; rfl
theorem note_down {x : HS} {u : Nat} (hs : x.s = false) (h : (lkS x.hd (u : Nat)).1.2 < x.p 0) : noteS x u = some ⟨(u : Nat), (lkS x.hd (u : Nat)).1.1, x.p 0, true, false, e0, x.p⟩ := by
  unfold noteS
  simp only
  rw [if_neg (by omega), if_neg (by simp [hs])]
theorem note_has {x : HS} {u : Nat} (h : x.p 0 ≤ (lkS x.hd (u : Nat)).1.2) : noteS x u = none := by
  unfold noteS; simp only; rw [if_pos h]
theorem heard_in {hd : List (Int × Int)} {n : Nt} (h1 : n.a = true) (h2 : (lkS hd n.u).2 = true) (h3 : (lkS hd n.u).1.1 ≤ n.b) :
    heardS hd n = hd.set n.u.toNat (if n.b > (lkS hd n.u).1.1 ∨ mxS n.v > (lkS hd n.u).1.2 then (n.b, mxS n.v) else ((lkS hd n.u).1.1, (lkS hd n.u).1.2)) := by
  unfold heardS
  rw [if_neg (by simp [h1, h2]; omega)]
  split <;> rfl
theorem mx_pos {v : Int} (h : -1 ≤ v) : mxS v = v := by unfold mxS; split <;> omega
def rotE (a b : Int) : Ent := ⟨6, 0, 0, 0, 0, a, b⟩
def Rots (l : List Ent) : Prop := ∀ e ∈ l, ∃ a b, e = rotE a b
theorem Rots.nil : Rots [] := by intro e h; simp at h
def coldS (p : Flat) (u : Nat) (w : List Ent) : HS := ⟨p, w, List.replicate u (0, -1), e0, false⟩
theorem cold_new (p : Flat) {u : Int} : newHS p u = coldS p u.toNat [] := rfl
theorem cold_lk {u k : Nat} (h : k < u) : lkS (List.replicate u ((0 : Int), (-1 : Int))) (k : Nat) = ((0, -1), true) := by
  rw [lk_at (by simpa using h), List.getD_eq_getElem?_getD, List.getElem?_replicate, if_pos h]; rfl
theorem cold_all {p : Flat} (hp : 0 ≤ p 0) {u : Nat} (hu : 0 < u) : allW (List.replicate u (0, -1)) (p 0) = false := by
  obtain ⟨n, rfl⟩ : ∃ n, u = n + 1 := ⟨u - 1, by omega⟩
  simp [allW, List.replicate_succ]; omega
theorem cold_notes {p : Flat} (hp : 0 ≤ p 0) {u : Nat} {w : List Ent} : ∀ {n : Nat}, n ≤ u → notesTo (coldS p u w) n = (List.range n).map fun i => ⟨(i : Nat), 0, p 0, true, false, e0, p⟩
  | 0, _ => rfl
  | n + 1, h => by
    have hk : lkS (coldS p u w).hd (n : Nat) = ((0, -1), true) := cold_lk (by omega)
    rw [notesTo_some (note_down rfl (by rw [hk]; show (-1 : Int) < p 0; omega)), cold_notes hp (by omega), hk, List.range_succ, List.map_append]; rfl
theorem cold_send {p : Flat} (hp : 0 ≤ p 0) {u : Nat} (hu : 0 < u) {w : List Ent} : sendS (coldS p u w) = (coldS p u w, (List.range u).map fun i => ⟨(i : Nat), 0, p 0, true, false, e0, p⟩) := by
  rw [send_quiet (.inr (cold_all hp hu))]
  congr 1
  show notesTo (coldS p u w) (List.replicate u ((0 : Int), (-1 : Int))).length = _
  rw [List.length_replicate, cold_notes hp (Nat.le_refl u)]
theorem lk_of {hd : List (Int × Int)} {k : Nat} {x : Int × Int} (h : hd[k]? = some x) : lkS hd (k : Nat) = (x, true) := by
  rw [lk_at (lt_of_getElem? h), List.getD_eq_getElem?_getD, h]; rfl
def hdk (v : Int) (u k : Nat) : List (Int × Int) := List.replicate k (0, v) ++ List.replicate (u - k) (0, -1)
end Go.Rh

namespace Go.Rh
def wn (p : Flat) (u : Nat) : Nt := ⟨(u : Nat), 0, p 0, true, false, e0, p⟩
def an (p : Flat) (u : Int) : Nt := ⟨u, 0, p 0, false, true, e0, zeroP⟩
def dn : UP := ⟨zeroP, false, 0, nr0⟩
def up1 (p : Flat) : UP := ⟨p, true, 0, nr0⟩
theorem tick_new {p : Flat} (hp : 0 ≤ p 0) {n : Nat} (hn : 1 ≤ n) : tickS (nyS p n) = ⟨n, newHS p (n : Nat), fun _ => dn, (List.range n).map (wn p)⟩ := by
  have h := cold_send (p := p) hp (u := n) (by omega) (w := [])
  have e : newHS p (n : Nat) = coldS p n [] := by rw [cold_new]; simp
  show (⟨n, (sendS (newHS p (n : Nat))).1, fun _ => dn, [] ++ (sendS (newHS p (n : Nat))).2⟩ : YS) = _
  rw [e, h]; rfl
theorem hear_w {p : Flat} {u : Nat} (hp : 0 ≤ p 0) : hearU dn (wn p u) = up1 p := by
  have h : uhS zeroP false 0 (wn p u) = (p, true) := by
    unfold uhS
    rw [if_neg (by simp [wn]), if_pos ⟨rfl, by show verS zeroP false < p 0; simp [verS]; omega⟩]; rfl
  show (⟨(uhS zeroP false 0 (wn p u)).1, (uhS zeroP false 0 (wn p u)).2, 0, nr0⟩ : UP) = _
  rw [h]; rfl
theorem hear_w2 {p : Flat} {u : Nat} : hearU (up1 p) (wn p u) = up1 p := by
  have h : uhS p true 0 (wn p u) = (p, true) := by
    unfold uhS
    rw [if_neg (by simp [wn]), if_neg (by simp [wn, verS]), if_neg (by simp [wn])]
  show (⟨(uhS p true 0 (wn p u)).1, (uhS p true 0 (wn p u)).2, 0, nr0⟩ : UP) = _
  rw [h]; rfl
theorem ack_w {p : Flat} {u : Nat} {v : UP} (h : hearU v (wn p u) = up1 p) : ackN (wn p u).u v.b (uhS v.p v.is v.b (wn p u)) = ackN (u : Nat) v.b (p, true) := by
  have h1 : (uhS v.p v.is v.b (wn p u)) = (p, true) := by
    have e1 := congrArg UP.p h
    have e2 := congrArg UP.is h
    exact Prod.ext e1 e2
  rw [h1]; rfl
theorem atS_some {l : List Nt} {k : Nat} {x : Nt} (h : l[k]? = some x) : atS l (k : Nat) = (x, true) := by
  have hl := lt_of_getElem? h
  unfold atS
  rw [if_pos ⟨by omega, by omega⟩]
  simp [List.getD_eq_getElem?_getD, h]
theorem updU_at (us : Nat → UP) (u : Nat) (v : UP) : updU us u v u = v := if_pos rfl
theorem updU_upd (us : Nat → UP) (u : Nat) (v w : UP) : updU (updU us u v) u w = updU us u w := by
  funext j; unfold updU; split <;> rfl
theorem ver_at {S : YS} {u : Nat} (h : u < S.n) : verY S (u : Nat) = ((S.us u).p 0, (S.us u).is) := by
  unfold verY inU
  rw [if_pos (decide_eq_true ⟨by omega, by omega⟩)]
  simp
end Go.Rh

namespace Go.Rh
theorem atS_snd (l : List Nt) (k : Int) : (atS l k).2 = decide (0 ≤ k ∧ k < l.length) := by
  unfold atS; by_cases h : 0 ≤ k ∧ k < (l.length : Int)
  · rw [if_pos h, decide_eq_true h]
  · rw [if_neg h, decide_eq_false h]
theorem map_eraseIdx {α β : Type} (f : α → β) : ∀ (l : List α) (k : Nat), (l.map f).eraseIdx k = (l.eraseIdx k).map f
  | [], _ => rfl
  | _ :: _, 0 => rfl
  | a :: l, k + 1 => by simp [map_eraseIdx f l k]
def upL (p : Flat) (js : List Nat) : Nat → UP := fun j => if j ∈ js then up1 p else dn
structure LossI (p : Flat) (U : Nat) (S : YS) (n : Int) (js : List Nat) : Prop where
  nd : js.Nodup
  lt : ∀ j ∈ js, j < U
  l : S.l = js.map (wn p)
  us : S.us = fun _ => dn
  sn : S.n = U
  n : n = js.length
theorem LossI.lose {p : Flat} {U : Nat} {S : YS} {n k : Int} {js : List Nat} (h : LossI p U S n js) (hk : 0 ≤ k ∧ k < n) : LossI p U (loseY S k) (n - 1) (js.eraseIdx k.toNat) := by
  have hn := h.n
  have hlen : S.l.length = js.length := by rw [h.l]; simp
  refine ⟨h.nd.sublist (List.eraseIdx_sublist js _), fun j hj => h.lt j (List.mem_of_mem_eraseIdx hj), ?_, h.us, h.sn, ?_⟩
  · show loseS S.l k = _
    unfold loseS
    rw [if_pos (by rw [atS_snd]; exact decide_eq_true (by omega)), h.l, map_eraseIdx]
  · rw [List.length_eraseIdx_of_lt (by omega)]; omega
theorem LossI.out {p : Flat} {U : Nat} {S : YS} {n k : Int} {js : List Nat} (h : LossI p U S n js) (hk : ¬ (0 ≤ k ∧ k < n)) : LossI p U (loseY S k) n js := by
  have hn := h.n
  have hlen : S.l.length = js.length := by rw [h.l]; simp
  have e : loseS S.l k = S.l := by unfold loseS; rw [if_neg (by rw [atS_snd]; simp; omega)]
  refine ⟨h.nd, h.lt, ?_, h.us, h.sn, hn⟩
  show loseS S.l k = _
  rw [e, h.l]
theorem LossI.len {p : Flat} {U : Nat} {S : YS} {n : Int} {js : List Nat} (h : LossI p U S n js) : (S.l.length : Int) = n := by rw [h.l, h.n]; simp
theorem LossI.at_ {p : Flat} {U : Nat} {S : YS} {n : Int} {js : List Nat} (h : LossI p U S n js) (k : Int) : (atS S.l k).2 = decide (0 ≤ k ∧ k < n) := by rw [atS_snd, h.len]
theorem LossI.any {p : Flat} {U : Nat} {S : YS} {n : Int} {js : List Nat} (h : LossI p U S n js) (k : Int) : ((loseY S k).l.length : Int) = if 0 ≤ k ∧ k < n then n - 1 else n := by
  by_cases hk : 0 ≤ k ∧ k < n
  · rw [if_pos hk]; exact (h.lose hk).len
  · rw [if_neg hk]; exact (h.out hk).len
structure DlvI (p : Flat) (U : Nat) (js : List Nat) (m : Nat) (S : YS) : Prop where
  sn : S.n = U
  way : (m ≤ js.length ∧ S.l = (js.drop m).map (wn p) ++ (js.take m).map (fun (j : Nat) => an p (j : Int)) ∧ S.us = upL p (js.take m)) ∨ (js.length ≤ m ∧ m ≤ 2 * js.length ∧ S.l = (js.drop (m - js.length)).map (fun (j : Nat) => an p (j : Int)) ∧ S.us = upL p js)
theorem DlvI.more {p : Flat} {U : Nat} {S : YS} {js : List Nat} {m : Nat} (h : DlvI p U js m S) : (atS S.l 0).2 = decide (m < 2 * js.length) := by
  have e : ((0 : Int) ≤ 0 ∧ (0 : Int) < S.l.length) ↔ m < 2 * js.length := by
    rcases h.way with ⟨h1, h2, _⟩ | ⟨h1, h3, h2, _⟩
    · rw [h2]; simp; omega
    · rw [h2]; simp; omega
  rw [atS_snd]; exact decide_eq_decide.2 e
theorem DlvI.lt {p : Flat} {U : Nat} {S : YS} {js : List Nat} {m : Nat} (h : DlvI p U js m S) (hm : (atS S.l 0).2 = true) : m < 2 * js.length := by rw [h.more] at hm; exact of_decide_eq_true hm
end Go.Rh

namespace Go.Rh
theorem ok_drain : ∀ (f : Nat) {S : YS}, YOK S → YOK (drain f S)
  | 0, _, h => h
  | f + 1, S, h => by
    simp only [drain]; split
    · exact ok_drain f (ok_dlv h _ _)
    · exact h
theorem ok_settle : ∀ {S : YS}, YOK S → ∀ t, YOK (settleS t S)
  | _, h, 0 => h
  | _, h, t + 1 => ok_settle (ok_drain 100 (ok_tick h)) t
def stepU (us : Nat → UP) (n : Nt) : Nat → UP := updU us n.u.toNat (hearU (us n.u.toNat) n)
def ackOf (v : UP) (n : Nt) : Nt := ackN n.u v.b (uhS v.p v.is v.b n)
theorem at0 {l : List Nt} {a : Nt} {r : List Nt} (h : l = a :: r) : atS l 0 = (a, true) := by subst h; exact atS_some (k := 0) rfl
theorem dlv_ack {S : YS} {a : Nt} {r : List Nt} (h : S.l = a :: r) (ha : a.a = true) : dlvS S 0 false = { S with x := hearS S.x a, l := r } := by
  unfold dlvS
  rw [at0 h, if_pos rfl, if_pos ha, h]; rfl
theorem dlv_note {S : YS} {a : Nt} {r : List Nt} (h : S.l = a :: r) (ha : a.a = false) : dlvS S 0 false = { S with us := stepU S.us a, l := r ++ [ackOf (S.us a.u.toNat) a] } := by
  unfold dlvS
  rw [at0 h, if_pos rfl, if_neg (by rw [ha]; simp), h]; rfl
theorem drain_cons {f : Nat} {S : YS} {a : Nt} {r : List Nt} (h : S.l = a :: r) : drain (f + 1) S = drain f (dlvS S 0 false) := by
  simp only [drain]; rw [at0 h, if_pos rfl]
theorem drain_nil {S : YS} (h : S.l = []) : ∀ f, drain f S = S
  | 0 => rfl
  | f + 1 => by simp only [drain]; rw [h, if_neg (by simp [atS])]
theorem drain_acks : ∀ (as rest : List Nt) (f : Nat) (S : YS), (∀ a ∈ as, a.a = true) → S.l = as ++ rest → drain (as.length + f) S = drain f { S with x := as.foldl hearS S.x, l := rest }
  | [], rest, f, S, _, h => by
    have e : S = { S with x := S.x, l := rest } := by cases S; simp only at h; rw [h]; rfl
    rw [List.length_nil, Nat.zero_add]; exact congrArg (drain f) e
  | a :: as, rest, f, S, ha, h => by
    rw [List.length_cons, show as.length + 1 + f = (as.length + f) + 1 by omega, drain_cons (a := a) (r := as ++ rest) h, dlv_ack (r := as ++ rest) h (ha a (by simp))]
    exact drain_acks as rest f _ (fun b hb => ha b (by simp [hb])) rfl
theorem drain_ws (W : Nat → Nt) : ∀ (js : List Nat) (rest : List Nt) (f : Nat) (S : YS), (∀ j ∈ js, (W j).u = (j : Nat) ∧ (W j).a = false) → js.Nodup → S.l = js.map W ++ rest →
    drain (js.length + f) S = drain f { S with us := fun j => if j ∈ js then hearU (S.us j) (W j) else S.us j, l := rest ++ js.map (fun j => ackOf (S.us j) (W j)) }
  | [], rest, f, S, _, _, h => by
    have e : S = { S with us := fun j => if j ∈ ([] : List Nat) then hearU (S.us j) (W j) else S.us j, l := rest ++ ([] : List Nat).map (fun j => ackOf (S.us j) (W j)) } := by
      cases S; simp only at h; rw [h]; simp
    rw [List.length_nil, Nat.zero_add]; exact congrArg (drain f) e
  | k :: js, rest, f, S, hw, nd, h => by
    obtain ⟨hu, ha⟩ := hw k (by simp)
    have hkn : k ∉ js := (List.nodup_cons.1 nd).1
    have e0 : (W k).u.toNat = k := by rw [hu]; simp
    have hl : S.l = W k :: (js.map W ++ rest) := h
    rw [List.length_cons, show js.length + 1 + f = (js.length + f) + 1 by omega, drain_cons hl, dlv_note hl ha, drain_ws W js (rest ++ [ackOf (S.us (W k).u.toNat) (W k)]) f _ (fun j hj => hw j (by simp [hj])) (List.nodup_cons.1 nd).2 (by simp)]
    congr 1
    have hs : ∀ j, j ≠ k → stepU S.us (W k) j = S.us j := fun j hj => by unfold stepU updU; rw [e0, if_neg hj]
    refine congr (congrArg (YS.mk S.n S.x) ?_) ?_
    · funext j
      by_cases hj : j ∈ js
      · have hjk : j ≠ k := fun e => hkn (e ▸ hj)
        rw [if_pos hj, if_pos (by simp [hj])]
        show hearU (stepU S.us (W k) j) (W j) = _
        rw [hs j hjk]
      · rw [if_neg hj]
        by_cases e : j = k
        · subst e; rw [if_pos (by simp)]
          show stepU S.us (W j) j = _
          unfold stepU updU; rw [e0, if_pos rfl]
        · rw [if_neg (by simp [e, hj])]; exact hs j e
    · show rest ++ [_] ++ js.map _ = rest ++ (k :: js).map _
      rw [e0, List.append_assoc]
      congr 1
      show _ :: js.map _ = _ :: js.map _
      congr 1
      refine List.map_congr_left fun j hj => ?_
      show ackOf (stepU S.us (W k) j) (W j) = _
      rw [hs j (fun e => hkn (e ▸ hj))]
def ackT (T : Nat → Int × Int) (j : Nat) : Nt := ⟨(j : Nat), (T j).1, (T j).2, false, true, e0, zeroP⟩
def hdT (T : Nat → Int × Int) (n : Nat) : List (Int × Int) := (List.range n).map T
theorem hdT_get {T : Nat → Int × Int} {n j : Nat} (h : j < n) : (hdT T n)[j]? = some (T j) := by simp [hdT, h]
theorem hdT_set {T : Nat → Int × Int} {n m : Nat} {z : Int × Int} (h : m < n) : (hdT T n).set m z = hdT (fun j => if j = m then z else T j) n := by
  refine List.ext_getElem? fun k => ?_
  rw [List.getElem?_set]
  rcases Nat.lt_or_ge k n with hk | hk
  · rw [hdT_get hk, hdT_get hk]
    by_cases e : m = k
    · subst e; rw [if_pos rfl, if_pos (by simpa [hdT] using h), if_pos rfl]
    · rw [if_neg e, if_neg (fun q => e q.symm)]
  · have h1 : ∀ Y : Nat → Int × Int, (hdT Y n)[k]? = none := fun Y => List.getElem?_eq_none (by simpa [hdT] using hk)
    rw [h1, h1, if_neg (by omega)]
theorem heard_set {hd : List (Int × Int)} {j : Nat} {x : Int × Int} {b v : Int} {e : Ent} {p : Flat} (h : hd[j]? = some x) (hv : -1 ≤ v) (hx : x.1 < b ∨ (x.1 = b ∧ x.2 ≤ v)) : heardS hd ⟨(j : Nat), b, v, false, true, e, p⟩ = hd.set j (b, v) := by
  have hl := lk_of h
  rw [heard_in rfl (congrArg Prod.snd hl) (by show (lkS hd (j : Nat)).1.1 ≤ b; rw [hl]; show x.1 ≤ b; rcases hx with h | h <;> omega)]
  show hd.set j (if b > (lkS hd (j : Nat)).1.1 ∨ mxS v > (lkS hd (j : Nat)).1.2 then (b, mxS v) else ((lkS hd (j : Nat)).1.1, (lkS hd (j : Nat)).1.2)) = _
  rw [hl, mx_pos hv]
  congr 1
  split
  · rfl
  · rename_i hn
    simp only at hn ⊢
    exact Prod.ext (by show x.1 = b; rcases hx with h | h <;> omega) (by show x.2 = v; rcases hx with h | h <;> omega)
theorem hear_all {T X : Nat → Int × Int} {n : Nat} (hT : ∀ j, j < n → -1 ≤ (T j).2) (hX : ∀ j, j < n → (X j).1 < (T j).1 ∨ ((X j).1 = (T j).1 ∧ (X j).2 ≤ (T j).2)) {x : HS} (hx : x.hd = hdT X n) :
    ((List.range n).map (ackT T)).foldl hearS x = { x with hd := hdT T n } := by
  have key : ∀ m, m ≤ n → ((List.range m).map (ackT T)).foldl hearS x = { x with hd := hdT (fun j => if j < m then T j else X j) n } := by
    intro m
    induction m with
    | zero => intro _; simp only [List.range_zero, List.map_nil, List.foldl_nil, Nat.not_lt_zero, if_false]; rw [← hx]
    | succ m ih =>
      intro hm
      rw [List.range_succ, List.map_append, List.foldl_append, ih (by omega)]
      show hearS { x with hd := hdT (fun j => if j < m then T j else X j) n } (ackT T m) = _
      have h1 : (hdT (fun j => if j < m then T j else X j) n)[m]? = some (X m) := by rw [hdT_get (by omega)]; simp
      have h2 := heard_set (e := e0) (p := zeroP) h1 (hT m (by omega)) (hX m (by omega))
      show ({ x with hd := heardS (hdT (fun j => if j < m then T j else X j) n) (ackT T m) } : HS) = _
      rw [show heardS (hdT (fun j => if j < m then T j else X j) n) (ackT T m) = _ from h2, hdT_set (by omega)]
      congr 2
      funext j
      by_cases e : j = m
      · subst e; simp
      · rw [if_neg e]
        by_cases e2 : j < m
        · rw [if_pos e2, if_pos (by omega)]
        · rw [if_neg e2, if_neg (by omega)]
  rw [key n (Nat.le_refl n)]
  congr 1
  refine List.map_congr_left fun j hj => ?_
  rw [if_pos (List.mem_range.1 hj)]
theorem filter_one {α : Type} {z : α} {w : Nat} {f : Nat → Option α} : ∀ {n : Nat}, (∀ j, j < n → f j = if j = w then some z else none) → (List.range n).filterMap f = if w < n then [z] else []
  | 0, _ => by simp
  | n + 1, h => by
    rw [List.range_succ, List.filterMap_append, filter_one (n := n) (fun j hj => h j (by omega))]
    have := h n (by omega)
    by_cases e : n = w
    · subst e; rw [if_pos rfl] at this
      simp [this]
    · rw [if_neg e] at this
      by_cases e2 : w < n
      · simp [this, e2]; omega
      · simp [this, e2]; omega
def lateT (p : Flat) (w c : Nat) (j : Nat) : Int × Int := if j = w then ((c : Nat), -1) else (0, p 0)
def downU (c : Nat) : UP := ⟨zeroP, false, (c : Nat), nr0⟩
def lateU (p : Flat) (U w c : Nat) : Nat → UP := fun j => if j = w then downU c else if j < U then up1 p else dn
theorem hear_late {p : Flat} {c u : Nat} (hc : 1 ≤ c) : hearU (downU c) (wn p u) = downU c := by
  have h : uhS zeroP false (c : Nat) (wn p u) = (zeroP, false) := by
    unfold uhS; rw [if_pos (by show (0 : Int) ≠ (c : Nat); omega)]
  show (⟨(uhS zeroP false (c : Nat) (wn p u)).1, (uhS zeroP false (c : Nat) (wn p u)).2, (c : Nat), nr0⟩ : UP) = _
  rw [h]; rfl
theorem ack_late {p : Flat} {c u : Nat} (hc : 1 ≤ c) : ackOf (downU c) (wn p u) = ⟨(u : Nat), (c : Nat), -1, false, true, e0, zeroP⟩ := by
  have h : uhS zeroP false (c : Nat) (wn p u) = (zeroP, false) := by
    unfold uhS; rw [if_pos (by show (0 : Int) ≠ (c : Nat); omega)]
  show ackN (u : Nat) (c : Nat) (uhS zeroP false (c : Nat) (wn p u)) = _
  rw [h]; rfl
theorem late_hears {p : Flat} {U w c : Nat} (hc : 1 ≤ c) : (fun j => if j ∈ List.range U then hearU (lateU p U w c j) (wn p j) else lateU p U w c j) = lateU p U w c := by
  funext j
  split
  · rename_i hj
    have hj := List.mem_range.1 hj
    unfold lateU
    by_cases e : j = w
    · rw [if_pos e]; exact hear_late hc
    · rw [if_neg e, if_pos hj]; exact hear_w2
  · rfl
theorem late_acks {p : Flat} {U w c : Nat} (hc : 1 ≤ c) : (List.range U).map (fun j => ackOf (lateU p U w c j) (wn p j)) = (List.range U).map (ackT (lateT p w c)) := by
  refine List.map_congr_left fun j hj => ?_
  have hj := List.mem_range.1 hj
  unfold lateU ackT lateT
  by_cases e : j = w
  · rw [if_pos e, if_pos e, ack_late hc]
  · rw [if_neg e, if_neg e, if_pos hj]
    show ackN (j : Nat) (up1 p).b (uhS (up1 p).p (up1 p).is (up1 p).b (wn p j)) = _
    exact ack_w hear_w2
theorem wn_ok {p : Flat} {U : Nat} : ∀ j ∈ List.range U, (wn p j).u = (j : Nat) ∧ (wn p j).a = false := fun j _ => ⟨rfl, rfl⟩
theorem late1 {p : Flat} (hp : 0 ≤ p 0) {U w c : Nat} (hw : w < U) (hc : 1 ≤ c) (x : HS) :
    drain U ⟨U, x, updU (fun _ => dn) w (downU c), (List.range U).map (wn p)⟩ = ⟨U, x, lateU p U w c, (List.range U).map (ackT (lateT p w c))⟩ := by
  have h := drain_ws (wn p) (List.range U) [] 0 ⟨U, x, updU (fun _ => dn) w (downU c), (List.range U).map (wn p)⟩ wn_ok List.nodup_range (by simp)
  rw [List.length_range, Nat.add_zero] at h
  rw [h]
  show YS.mk _ _ _ _ = _
  refine congr (congrArg (YS.mk U x) ?_) ?_
  · funext j
    show (if j ∈ List.range U then hearU (updU (fun _ => dn) w (downU c) j) (wn p j) else updU (fun _ => dn) w (downU c) j) = _
    unfold updU lateU
    by_cases e : j = w
    · subst e
      simp only [if_pos, List.mem_range, hw]; exact hear_late hc
    · simp only [if_neg e, List.mem_range]
      by_cases e2 : j < U
      · rw [if_pos e2, if_pos e2]; exact hear_w hp
      · rw [if_neg e2, if_neg e2]
  · show [] ++ _ = _
    rw [List.nil_append]
    refine List.map_congr_left fun j hj => ?_
    have hj := List.mem_range.1 hj
    show ackOf (updU (fun _ => dn) w (downU c) j) (wn p j) = _
    unfold updU ackT lateT
    by_cases e : j = w
    · rw [if_pos e, if_pos e, ack_late hc]
    · rw [if_neg e, if_neg e]
      exact ack_w (v := dn) (hear_w hp)
theorem late2 {p : Flat} (hp : 0 ≤ p 0) {U w c : Nat} (hw : w < U) (hU : U ≤ 16) (hc : 1 ≤ c) :
    drain 100 (tickS ⟨U, coldS p U [], lateU p U w c, (List.range U).map (ackT (lateT p w c))⟩) = ⟨U, ⟨p, [], hdT (lateT p w c) U, e0, false⟩, lateU p U w c, []⟩ := by
  have hs := cold_send (p := p) hp (u := U) (by omega) (w := [])
  have ht : tickS ⟨U, coldS p U [], lateU p U w c, (List.range U).map (ackT (lateT p w c))⟩ = ⟨U, coldS p U [], lateU p U w c, (List.range U).map (ackT (lateT p w c)) ++ (List.range U).map (wn p)⟩ := by
    show (⟨U, (sendS (coldS p U [])).1, _, _ ++ (sendS (coldS p U [])).2⟩ : YS) = _
    rw [hs]; rfl
  have hT : ∀ j, j < U → -1 ≤ (lateT p w c j).2 := fun j _ => by unfold lateT; split <;> simp <;> omega
  have hak : ∀ a ∈ (List.range U).map (ackT (lateT p w c)), a.a = true := fun a ha => by obtain ⟨j, _, rfl⟩ := List.mem_map.1 ha; rfl
  have l1 : ((List.range U).map (ackT (lateT p w c))).length = U := by simp
  have h1 := drain_acks ((List.range U).map (ackT (lateT p w c))) ((List.range U).map (wn p)) (U + (U + (100 - U - U - U))) (tickS ⟨U, coldS p U [], lateU p U w c, (List.range U).map (ackT (lateT p w c))⟩) hak (by rw [ht])
  rw [l1] at h1
  rw [show (100 : Nat) = U + (U + (U + (100 - U - U - U))) by omega, h1, ht]
  have hx := hear_all (T := lateT p w c) (X := fun _ => (0, -1)) (n := U) hT (fun j _ => by unfold lateT; split <;> simp <;> omega) (x := coldS p U []) (by show List.replicate U _ = _; unfold hdT; rw [List.map_const']; simp)
  simp only [hx]
  have h2 := drain_ws (wn p) (List.range U) [] (U + (100 - U - U - U)) ⟨U, { coldS p U [] with hd := hdT (lateT p w c) U }, lateU p U w c, (List.range U).map (wn p)⟩ wn_ok List.nodup_range (by simp)
  rw [List.length_range] at h2
  rw [h2]
  simp only [List.nil_append, late_hears hc, late_acks hc]
  have h3 := drain_acks ((List.range U).map (ackT (lateT p w c))) [] (100 - U - U - U) ⟨U, { coldS p U [] with hd := hdT (lateT p w c) U }, lateU p U w c, (List.range U).map (ackT (lateT p w c))⟩ hak (by simp)
  rw [l1] at h3
  rw [h3]
  have hy := hear_all (T := lateT p w c) (X := lateT p w c) (n := U) hT (fun j _ => .inr ⟨rfl, Int.le_refl _⟩) (x := { coldS p U [] with hd := hdT (lateT p w c) U }) rfl
  simp only [hy]
  exact drain_nil rfl _
def wnc (p : Flat) (u c : Nat) : Nt := ⟨(u : Nat), (c : Nat), p 0, true, false, e0, p⟩
theorem late3 {p : Flat} (hp : 0 ≤ p 0) {U w c : Nat} (hw : w < U) :
    (drain 100 (tickS ⟨U, ⟨p, [], hdT (lateT p w c) U, e0, false⟩, lateU p U w c, []⟩)).us w = ⟨p, true, (c : Nat), nr0⟩ ∧ (drain 100 (tickS ⟨U, ⟨p, [], hdT (lateT p w c) U, e0, false⟩, lateU p U w c, []⟩)).n = U := by
  have hn : notesTo ⟨p, [], hdT (lateT p w c) U, e0, false⟩ U = [wnc p w c] := by
    unfold notesTo
    rw [filter_one (z := wnc p w c) (w := w) (fun j hj => ?_), if_pos hw]
    have hl : (lkS (hdT (lateT p w c) U) (j : Nat)) = (lateT p w c j, true) := lk_of (hdT_get hj)
    by_cases e : j = w
    · subst e; rw [if_pos rfl, note_down rfl (by show (lkS (hdT (lateT p j c) U) (j : Nat)).1.2 < p 0; rw [hl]; simp [lateT]; omega)]
      show some (⟨(j : Nat), (lkS (hdT (lateT p j c) U) (j : Nat)).1.1, p 0, true, false, e0, p⟩ : Nt) = _
      rw [hl]; simp [lateT, wnc]
    · rw [if_neg e, note_has (by show p 0 ≤ (lkS (hdT (lateT p w c) U) (j : Nat)).1.2; rw [hl]; simp [lateT, e])]
  have hs : sendS ⟨p, [], hdT (lateT p w c) U, e0, false⟩ = (⟨p, [], hdT (lateT p w c) U, e0, false⟩, [wnc p w c]) := by
    rw [send_quiet (.inl rfl)]
    congr 1
    rw [← hn]
    show notesTo _ (hdT (lateT p w c) U).length = _
    rw [show (hdT (lateT p w c) U).length = U by simp [hdT]]
  have ht : tickS ⟨U, ⟨p, [], hdT (lateT p w c) U, e0, false⟩, lateU p U w c, []⟩ = ⟨U, ⟨p, [], hdT (lateT p w c) U, e0, false⟩, lateU p U w c, [wnc p w c]⟩ := by
    show (⟨U, (sendS _).1, _, [] ++ (sendS _).2⟩ : YS) = _
    rw [hs]; rfl
  rw [ht]
  have h2 := drain_ws (fun _ => wnc p w c) [w] [] 99 ⟨U, ⟨p, [], hdT (lateT p w c) U, e0, false⟩, lateU p U w c, [wnc p w c]⟩ (fun j hj => by rw [List.mem_singleton.1 hj]; exact ⟨rfl, rfl⟩) (by simp) rfl
  rw [show drain 100 ⟨U, ⟨p, [], hdT (lateT p w c) U, e0, false⟩, lateU p U w c, [wnc p w c]⟩ = _ from h2]
  have h3 : ∀ (x : HS) (us : Nat → UP) (z : Nt), z.a = true → drain 99 ⟨U, x, us, [z]⟩ = ⟨U, [z].foldl hearS x, us, []⟩ := fun x us z hz =>
    (drain_acks [z] [] 98 ⟨U, x, us, [z]⟩ (fun a ha => by rw [List.mem_singleton.1 ha]; exact hz) rfl).trans (drain_nil rfl _)
  refine (congrArg (fun (z : YS) => z.us w = ⟨p, true, (c : Nat), nr0⟩ ∧ z.n = U) (h3 _ _ _ rfl)).mpr ?_
  refine ⟨?_, rfl⟩
  show (if w ∈ [w] then hearU (lateU p U w c w) (wnc p w c) else _) = _
  rw [if_pos (by simp)]
  have hl : lateU p U w c w = downU c := by unfold lateU; rw [if_pos rfl]
  rw [hl]
  have h : uhS zeroP false (c : Nat) (wnc p w c) = (p, true) := by
    unfold uhS
    rw [if_neg (by simp [wnc]), if_pos ⟨rfl, by show verS zeroP false < p 0; simp [verS]; omega⟩]; rfl
  show (⟨(uhS zeroP false (c : Nat) (wnc p w c)).1, (uhS zeroP false (c : Nat) (wnc p w c)).2, (c : Nat), nr0⟩ : UP) = _
  rw [h]
def crashedS (p : Flat) (U w i : Nat) : YS := ⟨U, coldS p U [], updU (fun _ => dn) w (downU i), (List.range U).map (wn p)⟩
def lateS (p : Flat) (U w c : Nat) : YS := ⟨U, coldS p U [], lateU p U w c, (List.range U).map (ackT (lateT p w c))⟩
theorem crash0 {p : Flat} (hp : 0 ≤ p 0) {U w : Nat} (hU : 1 ≤ U) : tickS (nyS p U) = crashedS p U w 0 := by
  rw [tick_new hp hU]
  show YS.mk _ _ _ _ = YS.mk _ _ _ _
  have h : (fun _ : Nat => dn) = updU (fun _ => dn) w (downU 0) := by funext j; unfold updU; split <;> rfl
  rw [← h, cold_new]; simp
theorem crash_next {p : Flat} {U i : Nat} {W : Int} (h : 0 ≤ W ∧ W < U) (hi : i ≤ 10) : crashS (crashedS p U W.toNat i) W = crashedS p U W.toNat (i + 1) := by
  unfold crashS
  have hin : inU (crashedS p U W.toNat i).n W = true := decide_eq_true (show 0 ≤ W ∧ W < ((crashedS p U W.toNat i).n : Nat) from h)
  rw [if_pos hin]
  show YS.mk _ _ _ _ = YS.mk _ _ _ _
  congr 1
  show updU (updU _ _ _) _ (crashU (updU (fun _ => dn) W.toNat (downU i) W.toNat)) = _
  rw [updU_upd, updU_at]
  congr 1
  show UP.mk _ _ (i64.wrap (((i : Nat) : Int) + 1)) _ = UP.mk _ _ _ _
  rw [w64 (by omega) (by omega)]; rfl
theorem at0_len {l : List Nt} (h : 0 < l.length) : (atS l 0).2 = true := by rw [atS_snd]; exact decide_eq_true (by omega)
theorem dlv_ge (S : YS) (h : (atS S.l 0).2 = true) : S.l.length ≤ (dlvS S 0 false).l.length + 1 := by
  rw [atS_snd] at h
  have h := of_decide_eq_true h
  match e : S.l with
  | [] => simp
  | a :: r =>
    cases ha : a.a with
    | true => rw [dlv_ack e ha]; simp
    | false => rw [dlv_note e ha]; simp
theorem drain_step {U m : Nat} {S : YS} (hm : m < U) (h : (atS S.l 0).2 = true) : drain (U - m) S = drain (U - (m + 1)) (dlvS S 0 false) := by
  rw [show U - m = (U - (m + 1)) + 1 by omega]
  simp only [drain]; rw [if_pos h]
theorem late1S {p : Flat} (hp : 0 ≤ p 0) {U w c : Nat} (hw : w < U) (hc : 1 ≤ c) : drain U (crashedS p U w c) = lateS p U w c := late1 hp hw hc _
theorem late_ver {p : Flat} {U w c j : Nat} (hj : j < U) : (verY (lateS p U w c) (j : Nat)).2 = decide (j ≠ w) := by
  rw [ver_at (S := lateS p U w c) hj]
  show (lateU p U w c j).is = _
  unfold lateU
  by_cases e : j = w
  · rw [if_pos e]; simp [downU, e]
  · rw [if_neg e, if_pos hj]; simp [up1, e]
theorem late_is {p : Flat} {U c j : Nat} {W : Int} (hj : j < U) (hW : 0 ≤ W) : ((verY (lateS p U W.toNat c) (j : Nat)).2 != (((j : Nat) : Int) != W)) = false := by
  rw [late_ver hj]
  by_cases e : j = W.toNat
  · have e2 : ((j : Nat) : Int) = W := by omega
    rw [decide_eq_false (fun q => q e), e2]; simp
  · have e2 : ((j : Nat) : Int) ≠ W := by omega
    rw [decide_eq_true e, bne_iff_ne.2 e2]; rfl
theorem late_verW {p : Flat} {U c : Nat} {W : Int} (h : 0 ≤ W ∧ W < U) : (verY (lateS p U W.toNat c) W).2 = false := by
  have := late_ver (p := p) (U := U) (w := W.toNat) (c := c) (j := W.toNat) (by omega)
  rw [show ((W.toNat : Nat) : Int) = W by omega] at this
  rw [this]; simp
theorem late_end {p : Flat} (hp : 0 ≤ p 0) {U c : Nat} {W : Int} (h : 0 ≤ W ∧ W < U) (hU : U ≤ 16) (hc : 1 ≤ c) : verY (settleS 2 (lateS p U W.toNat c)) W = (p 0, true) := by
  have hw : W.toNat < U := by omega
  have e : settleS 2 (lateS p U W.toNat c) = drain 100 (tickS (drain 100 (tickS (lateS p U W.toNat c)))) := rfl
  have h2 : drain 100 (tickS (lateS p U W.toNat c)) = _ := late2 hp hw hU hc
  rw [e, h2]
  have h3 := late3 (c := c) hp hw
  have h4 := ver_at (S := drain 100 (tickS ⟨U, ⟨p, [], hdT (lateT p W.toNat c) U, e0, false⟩, lateU p U W.toNat c, []⟩)) (u := W.toNat) (by rw [h3.2]; exact hw)
  rw [show ((W.toNat : Nat) : Int) = W by omega] at h4
  rw [h4, h3.1]
end Go.Rh

set_option maxHeartbeats 8000000
namespace Go.Rh
def c_law12_YardLate : IFunc := ⟨106, [.tmp 8], (.seq (.reg [kq 8 (.mv kF)]) (.seq (.seq (.reg [kq 23 (.call "roundhouse/roundhouselaw12.known" []), kq 24 (.un .not (.t 23))]) (.cond (.t 24) (.seq (.reg [kq 8 (.mv kF)]) .ret) .skip)) (.seq (.reg [km 25 0, kq 26 (.call "roundhouse/roundhouselaw6.Make" [(.t 25), (ki 30)]), kq 9 (.new kA), ku (.st 330 (.t 9) (.t 26))]) (.seq (.reg [km 27 1, kq 28 (.call "roundhouse/roundhouselaw12.within" [(.t 27), (ki 4)]), kq 29 (.bin .add (ki 1) (.t 28)), km 10 29]) (.seq (.reg [kq 31 (.ld (some 330) (.t 9)), km 32 10, kq 33 (.call "roundhouse/yard.New" [(.t 31), (.t 32)]), km 30 33, kq 34 (.ext 0 (.t 30)), kq 35 (.ext 1 (.t 30)), km 11 34, km 12 35]) (.seq (.seq (.reg [km 36 12, kq 37 (.bin .neq (.t 36) (ki 0)), km 38 37, kg 39 (.mv (.t 11)) 38 false, kg 40 (.eqn false .ptr (.t 39) (.c (.pointer none))) 38 false, kq 41 (.pick (.t 38) kT (.t 40))]) (.cond (.t 41) (.seq (.reg [kq 8 (.mv kF)]) .ret) .skip)) (.seq (.reg [km 42 11, kq 43 (.call "(*roundhouse/yard.Yard).Tick" [(.t 42)])]) (.seq (.reg [km 44 2, km 45 10, kq 46 (.call "roundhouse/roundhouselaw12.within" [(.t 44), (.t 45)]), km 13 46]) (.seq (.seq (.reg [kq 14 (.mv (ki 0))]) (.block 0 (.loop (.seq (.seq (.reg [km 47 14, km 48 3, kq 49 (.call "roundhouse/roundhouselaw12.within" [(.t 48), (ki 4)]), kq 50 (.bin .add (ki 1) (.t 49)), kq 51 (.bin .lss (.t 47) (.t 50))]) (.cond (.t 51) .skip (.exit 0))) (.seq (.block 1 (.reg [km 54 11, km 55 13, kq 56 (.call "(*roundhouse/yard.Yard).Crash" [(.t 54), (.t 55)])])) (.reg [km 52 14, kq 53 (.bin .add (.t 52) (ki 1)), km 14 53])))))) (.seq (.seq (.reg [kq 15 (.mv (ki 0))]) (.block 2 (.loop (.seq (.seq (.reg [km 57 15, km 58 10, kq 59 (.bin .lss (.t 57) (.t 58))]) (.cond (.t 59) .skip (.exit 2))) (.seq (.block 3 (.seq (.reg [km 62 11, kq 63 (.call "(*roundhouse/yard.Yard).Deliver" [(.t 62), (ki 0), kF]), kq 64 (.un .not (.t 63))]) (.cond (.t 64) (.seq (.reg [kq 8 (.mv kF)]) .ret) .skip))) (.reg [km 60 15, kq 61 (.bin .add (.t 60) (ki 1)), km 15 61])))))) (.seq (.reg [km 66 11, km 67 13, kq 68 (.call "(*roundhouse/yard.Yard).Version" [(.t 66), (.t 67)]), km 65 68, kq 69 (.ext 0 (.t 65)), kq 70 (.ext 1 (.t 65)), km 16 69, km 17 70]) (.seq (.seq (.reg [kq 18 (.mv (ki 0))]) (.block 4 (.loop (.seq (.seq (.reg [km 71 18, km 72 10, kq 73 (.bin .lss (.t 71) (.t 72))]) (.cond (.t 73) .skip (.exit 4))) (.seq (.block 5 (.seq (.reg [km 77 11, km 78 18, kq 79 (.call "(*roundhouse/yard.Yard).Version" [(.t 77), (.t 78)]), km 76 79, kq 80 (.ext 0 (.t 76)), kq 81 (.ext 1 (.t 76)), km 19 80, km 20 81]) (.seq (.reg [km 82 20, km 83 18, km 84 13, kq 85 (.bin .neq (.t 83) (.t 84)), kq 86 (.eqb true (.t 82) (.t 85))]) (.cond (.t 86) (.seq (.reg [kq 8 (.mv kF)]) .ret) .skip)))) (.reg [km 74 18, kq 75 (.bin .add (.t 74) (ki 1)), km 18 75])))))) (.seq (.reg [km 87 11, kq 88 (.call "roundhouse/roundhouselaw12.settle" [(.t 87), (ki 2)])]) (.seq (.reg [km 90 11, km 91 13, kq 92 (.call "(*roundhouse/yard.Yard).Version" [(.t 90), (.t 91)]), km 89 92, kq 93 (.ext 0 (.t 89)), kq 94 (.ext 1 (.t 89)), km 21 93, km 22 94]) (.seq (.reg [km 95 17, kq 96 (.un .not (.t 95)), km 97 96, kg 98 (.mv (.t 22)) 97 true, kq 99 (.pick (.t 97) (.t 98) kF), km 100 99, kg 101 (.mv (.t 21)) 100 true, kg 102 (.fad 0 (.t 9)) 100 true, kg 103 (.ld none (.t 102)) 100 true, kg 104 (.bin .eql (.t 101) (.t 103)) 100 true, kq 105 (.pick (.t 100) (.t 104) kF), km 8 105]) .ret)))))))))))))))⟩
theorem YardLateC {P : Program} (hc : codeOf P "roundhouse/roundhouselaw12.YardLate" = some c_law12_YardLate) (h_law12_known : codeOf P "roundhouse/roundhouselaw12.known" = some c_law12_known) (h_ref6_New : k_ref6_New P) (h_ref6_out : k_ref6_out P) (h_ref5_Ring : k_ref5_Ring P) (h_yard_Yard_Notes : k_yard_Yard_Notes P) (h_yard_Yard_Pool : k_yard_Yard_Pool P) (h_head_Head_Pool : k_head_Head_Pool P) (h_yard_Yard_Wish : k_yard_Yard_Wish P) (h_head_Head_Wish : k_head_Head_Wish P) (h_head_Head_waiting : k_head_Head_waiting P) (h_pool_All : k_pool_All P) (h_pool_Apply : k_pool_Apply P) (h_pool_may : k_pool_may P) (h_pool_held : k_pool_held P) (h_pool_fits : k_pool_fits P) (h_pool_Check : k_pool_Check P) (h_pool_placed : k_pool_placed P) (h_cookie_Next : k_cookie_Next P) (h_yard_Yard_Tick : k_yard_Yard_Tick P) (h_head_Head_Send : k_head_Head_Send P) (h_head_Head_all : k_head_Head_all P) (h_head_Head_publish : k_head_Head_publish P) (h_yard_row_head_Note_put : k_yard_row_head_Note_put P) (h_yard_Yard_Lose : k_yard_Yard_Lose P) (h_yard_row_head_Note_at : k_yard_row_head_Note_at P) (h_yard_row_head_Note_drop : k_yard_row_head_Note_drop P) (h_yard_Yard_Version : k_yard_Yard_Version P) (h_yard_row_yard_unit_at : k_yard_row_yard_unit_at P) (h_plane_Plane_Version : k_plane_Plane_Version P) (h_yard_Yard_Crash : k_yard_Yard_Crash P) (h_plane_Plane_Crash : k_plane_Plane_Crash P) (h_yard_Yard_Deliver : k_yard_Yard_Deliver P) (h_head_Head_Heard : k_head_Head_Heard P) (h_yard_unit_hear : k_yard_unit_hear P) (h_yard_unit_version : k_yard_unit_version P) (h_yard_unit_load : k_yard_unit_load P) (h_plane_Plane_Load : k_plane_Plane_Load P) (h_plane_maybe_api_Pool_lay : k_plane_maybe_api_Pool_lay P) (h_wheel_Make : k_wheel_Make P) (h_wheel_spun : k_wheel_spun P) (h_sip_Words : k_sip_Words P) (h_sip_Of : k_sip_Of P) (h_sip_number_byte : k_sip_number_byte P) (h_sip_state_take : k_sip_state_take P) (h_sip_state_rounds : k_sip_state_rounds P) (h_sip_state_round : k_sip_state_round P) (h_math_bits_RotateLeft64 : k_math_bits_RotateLeft64 P) (h_head_New : k_head_New P) (h_plane_New : k_plane_New P) (h_yard_New : k_yard_New P) (h_yard_row_yard_unit_put : k_yard_row_yard_unit_put P) (h_law6_Make : codeOf P "roundhouse/roundhouselaw6.Make" = some c_law6_Make) (h_law5_Key : k_law5_Key P) (h_law6_Entry : k_law6_Entry P) (h_law6_within : k_law6_within P) (h_ref6_Apply : k_ref6_Apply P) (h_ref6_Check : k_ref6_Check P) (h_ref6_bad : k_ref6_bad P) (h_ref6_Held : k_ref6_Held P) (h_ref5_Next : k_ref5_Next P) (h_law12_within : codeOf P "roundhouse/roundhouselaw12.within" = some c_law12_within) (h_law12_settle : codeOf P "roundhouse/roundhouselaw12.settle" = some c_law12_settle) (o : Option Nat) (ns : List Int) (hnns : o = none → ns = []) (hl : (ns.length : Int) ≤ 9223372036854775807) (units who turns : Int) :
    Env P "roundhouse/roundhouselaw12.YardLate" [inV o 0 ns.length, iv units, iv who, iv turns] ([inB o (ii ns)]) (Ans (.bool true) ([inB o (ii ns)])) := by
 refine Env.by hc ?_
 unfold c_law12_YardLate
 show GC _ 1 _ _ ⟨reg [(0, inV o 0 ns.length), (1, iv units), (2, iv who), (3, iv turns)], [inB o (ii ns)]⟩
 have H : YCode P := ⟨h_yard_Yard_Notes, h_yard_Yard_Pool, h_head_Head_Pool, h_yard_Yard_Wish, h_head_Head_Wish, h_head_Head_waiting, h_pool_All, h_pool_Apply, h_pool_may, h_pool_held, h_pool_fits, h_pool_Check, h_pool_placed, h_cookie_Next, h_yard_Yard_Tick, h_head_Head_Send, h_head_Head_all, h_head_Head_publish, h_yard_row_head_Note_put, h_yard_Yard_Lose, h_yard_row_head_Note_at, h_yard_row_head_Note_drop, h_yard_Yard_Version, h_yard_row_yard_unit_at, h_plane_Plane_Version, h_yard_Yard_Crash, h_plane_Plane_Crash, h_yard_Yard_Deliver, h_head_Head_Heard, h_yard_unit_hear, h_yard_unit_version, h_yard_unit_load, h_plane_Plane_Load, h_plane_maybe_api_Pool_lay, h_wheel_Make, h_wheel_spun, h_sip_Words, h_sip_Of, h_sip_number_byte, h_sip_state_take, h_sip_state_rounds, h_sip_state_round, h_math_bits_RotateLeft64, h_head_New, h_plane_New, h_yard_New, h_yard_row_yard_unit_put⟩
 have wt := within_lt turns (n := 4) (by decide)
 refine gseq (greg (o_d 1 [(8, bv false)] (by kernel_rfl) (o_nil (seq_go (gseq (gseq ?_))))))
 refine greg (o_cl (callV (known12C h_law12_known h_ref6_New h_ref6_out h_ref5_Ring h_yard_Yard_Notes h_yard_Yard_Pool h_head_Head_Pool h_yard_Yard_Wish h_head_Head_Wish h_head_Head_waiting h_pool_All h_pool_Apply h_pool_may h_pool_held h_pool_fits h_pool_Check h_pool_placed h_cookie_Next h_yard_Yard_Tick h_head_Head_Send h_head_Head_all h_head_Head_publish h_yard_row_head_Note_put h_yard_Yard_Lose h_yard_row_head_Note_at h_yard_row_head_Note_drop h_yard_Yard_Version h_yard_row_yard_unit_at h_plane_Plane_Version h_yard_Yard_Crash h_plane_Plane_Crash h_yard_Yard_Deliver h_head_Head_Heard h_yard_unit_hear h_yard_unit_version h_yard_unit_load h_plane_Plane_Load h_plane_maybe_api_Pool_lay h_wheel_Make h_wheel_spun h_sip_Words h_sip_Of h_sip_number_byte h_sip_state_take h_sip_state_rounds h_sip_state_round h_math_bits_RotateLeft64 h_head_New h_plane_New h_yard_New h_yard_row_yard_unit_put) rfl rfl rfl (o_d 1 [(24, bv false)] (by kernel_rfl) (o_nil (seq_go (gfalse rfl ?_))))))
 refine gskip (seq_go (gseq (greg (o_d 1 [(25, inV o 0 ns.length)] (by kernel_rfl) (o_cl (callRO_K (callIn 0 (MakeC h_law6_Make h_law5_Key h_ref6_New h_ref6_out h_ref5_Ring h_law6_Entry h_law6_within h_ref6_Apply h_ref6_Check h_ref6_bad h_ref6_Held h_ref5_Next o ns hnns hl 30 (by omega)) rfl (ii_scl _) rfl rfl (poolV_vpf _) ?_)))))))
 have I0 := makeS_inv ns (k := 30) (by omega)
 have hpv := I0.ver
 generalize makeS ns 30 = p at I0 hpv ⊢
 refine o_b 1 [(9, pv 1 0)] [inB o (ii ns), cw (pl zeroP)] (by kernel_rfl) (o_s0 (by refine run_st (c' := pl p) rfl rfl rfl ?_ ?_ ?_; exact pl_length _; exact pl_le (by omega); exact splice_pl0 zeroP p) ?_)
 refine o_nil (seq_go (gseq (greg (o_d 1 [(27, iv units)] (by kernel_rfl) (o_cl (callV (within12C h_law12_within units 4 (by decide)) rfl rfl rfl ?_))))))
 have w1 := within_lt units (n := 4) (by decide)
 refine o_s (by refine run_val (v := .int .i64 (i64.wrap (1 + (withinS units 4)))) (congrArg (Value.int .i64) (w64 (by omega) (by omega))) ?_; kernel_rfl) ?_
 refine o_d 1 [(10, iv (1 + (withinS units 4)))] (by kernel_rfl) (o_nil (seq_go (gseq (greg (o_s (by refine run_ld (v := poolV p) rfl rfl ?_; exact pl_all p) ?_)))))
 refine o_d 1 [(32, iv (1 + (withinS units 4)))] (by kernel_rfl) (o_cl (YNewK H p (1 + (withinS units 4)) (fun q => absurd q (by omega)) (fun T1 hu1 hY1q => ?_)))
 have hY1 : YP (fun k => 2 ≤ k) 2 (nyS p (1 + (withinS units 4)).toNat) ([inB o (ii ns), cw (pl p)] ++ T1) := hY1q
 refine (ex_eq (nyS p (1 + (withinS units 4)).toNat)).elim fun S3 hS4 => ?_
 have hY5 := hS4.symm ▸ hY1
 have ok6 : YOK S3 := hS4 ▸ (ok_nyS p (by omega) (by omega))
 have ln7 : S3.l.length ≤ 0 := hS4 ▸ Nat.zero_le _
 refine o_d 5 [(12, iv 0), (11, pv 2 0), (35, iv 0), (34, pv 2 0), (30, .tuple #[pv 2 0, iv 0])] (by kernel_rfl) (o_nil (seq_go (gseq (gseq (greg (o_d 6 [(41, bv false), (40, bv false), (39, pv 2 0), (38, bv false), (37, bv false), (36, iv 0)] (by kernel_rfl) ?_))))))
 refine o_nil (seq_regs [(41, bv false), (11, pv 2 0), (10, iv (1 + (withinS units 4))), (9, pv 1 0), (2, iv who), (3, iv turns)] (by kernel_rfl) (gfalse rfl (gskip (seq_go (gseq (greg ?_))))))
 refine o_d 1 [(42, pv 2 0)] (by kernel_rfl) (o_cl (YTickK H hY5 (by omega) (by rw [ok6.hd]; have := ok6.n; omega)  (spl rfl fun T7 hY7q => ?_)))
 refine (ex_eq (tickS S3)).elim fun S9 hS10 => ?_
 have hY11 := hS10.symm ▸ hY7q
 have ok12 : YOK S9 := hS10 ▸ (ok_tick ok6)
 have ln13 : S9.l.length ≤ S3.l.length + 16 := hS10 ▸ tick_len ok6
 refine o_nil (seq_go (gseq (greg (o_d 2 [(45, iv (1 + (withinS units 4))), (44, iv who)] (by kernel_rfl) (o_cl (callV (within12C h_law12_within who (1 + (withinS units 4)) (by omega)) rfl rfl rfl ?_))))))
 have w14 := within_lt who (n := 1 + (withinS units 4)) (by omega)
 refine o_d 1 [(13, iv (withinS who (1 + (withinS units 4))))] (by kernel_rfl) (o_nil (seq_go (gseq (gseq (greg (o_d 1 [(14, iv 0)] (by kernel_rfl) ?_))))))
 refine o_nil (seq_go (gblock (gloop (fun μ s => ∃ (T14z : List Blk), ∃ (i : Nat), ∃ (S1 : YS), μ = (1 + (withinS turns 4)).toNat - i ∧ YP (fun k => 2 ≤ k) 2 S1 ([inB o (ii ns), cw (pl p)] ++ T14z) ∧ YOK S1 ∧ ((i : Int) ≤ (1 + (withinS turns 4))) ∧ (S1 = crashedS p (1 + (withinS units 4)).toNat (withinS who (1 + (withinS units 4))).toNat i) ∧ (S1.l.length ≤ 16) ∧ s = ⟨reg [(14, iv (i : Int)), (13, iv (withinS who (1 + (withinS units 4)))), (11, pv 2 0), (10, iv (1 + (withinS units 4))), (9, pv 1 0), (3, iv turns)], ([inB o (ii ns), cw (pl p)] ++ T14z)⟩) ⟨((1 + (withinS turns 4)).toNat - 0), ?_⟩ ?_)))
 ·skip
  exact seq_regs [(14, iv (0 : Int)), (13, iv (withinS who (1 + (withinS units 4)))), (11, pv 2 0), (10, iv (1 + (withinS units 4))), (9, pv 1 0), (3, iv turns)] (by kernel_rfl) (⟨T7, 0, S9, rfl, hY11, ok12, (by omega), (by subst hS4 hS10; exact crash0 hpv.1 (by omega)), (by omega), rfl⟩)
 rintro μ s ⟨T14z, i, S1, rfl, hY14z, ok14z, hi, hS1, hb1, rfl⟩
 refine gseq (gseq (greg (o_d 2 [(48, iv turns), (47, iv (i : Int))] (by kernel_rfl) (o_cl (callV (within12C h_law12_within turns 4 (by decide)) rfl rfl rfl ?_)))))
 have w16 := within_lt turns (n := 4) (by decide)
 refine o_s (by refine run_val (v := .int .i64 (i64.wrap (1 + (withinS turns 4)))) (congrArg (Value.int .i64) (w64 (by omega) (by omega))) ?_; kernel_rfl) ?_
 refine o_d 1 [(51, bv (decide ((i : Int) < 1 + (withinS turns 4))))] (by kernel_rfl) (o_nil (seq_go (gcond (t := decide ((i : Int) < 1 + (withinS turns 4))) rfl (fun h17 => ?_) (fun h17 => ?_))))
 ·skip
  have h17' : (i : Int) < 1 + (withinS turns 4) := of_decide_eq_true h17
  refine gskip (seq_go (gseq (gblock (greg (o_d 2 [(55, iv (withinS who (1 + (withinS units 4)))), (54, pv 2 0)] (by kernel_rfl) (o_cl (YCrashK H hY14z  (withinS who (1 + (withinS units 4))) (spl rfl fun T17 hY17q => ?_))))))))
  refine (ex_eq (crashS S1 (withinS who (1 + (withinS units 4))))).elim fun S19 hS20 => ?_
  have hY21 := hS20.symm ▸ hY17q
  have ok22 : YOK S19 := hS20 ▸ (ok_crash ok14z _)
  have ln23 : S19.l.length ≤ S1.l.length := hS20 ▸ (Nat.le_of_eq (congrArg List.length (crash_l _ _)))
  refine o_nil (seq_go (greg (o_d 1 [(52, iv (i : Int))] (by kernel_rfl) (o_s (by refine run_val (v := .int .i64 (i64.wrap ((i : Int) + 1))) (congrArg (Value.int .i64) (w64 (by omega) (by omega))) ?_; kernel_rfl) ?_))))
  refine o_d 1 [(14, iv ((i : Int) + 1))] (by kernel_rfl) (o_nil (⟨(1 + (withinS turns 4)).toNat - (i + 1), ?_⟩))
  refine seq_regsL [(14, iv ((i + 1) : Int)), (13, iv (withinS who (1 + (withinS units 4)))), (11, pv 2 0), (10, iv (1 + (withinS units 4))), (9, pv 1 0), (3, iv turns)] (by kernel_rfl) (by omega) ?_
  exact ⟨T17, (i + 1), S19, rfl, hY21, ok22, (by omega), (by rw [hS20, hS1]; exact crash_next (by omega) (by omega)), (by omega), rfl⟩
 have h17' : ¬ ((i : Int) < 1 + (withinS turns 4)) := of_decide_eq_false h17
 refine gexit (seq_go (gseq (gseq (greg (o_d 1 [(15, iv 0)] (by kernel_rfl) (o_nil ?_))))))
 refine seq_go (gblock (gloop (fun μ s => ∃ (T23z : List Blk), ∃ (m : Nat), ∃ (S2 : YS), μ = (1 + (withinS units 4)).toNat - m ∧ YP (fun k => 2 ≤ k) 2 S2 ([inB o (ii ns), cw (pl p)] ++ T23z) ∧ YOK S2 ∧ (m ≤ (1 + (withinS units 4)).toNat) ∧ (S2.l.length ≤ 100 + m) ∧ ((1 + (withinS units 4)).toNat ≤ S2.l.length + m) ∧ (drain ((1 + (withinS units 4)).toNat - m) S2 = (lateS p (1 + (withinS units 4)).toNat (withinS who (1 + (withinS units 4))).toNat (1 + (withinS turns 4)).toNat)) ∧ s = ⟨reg [(15, iv (m : Int)), (13, iv (withinS who (1 + (withinS units 4)))), (11, pv 2 0), (10, iv (1 + (withinS units 4))), (9, pv 1 0)], ([inB o (ii ns), cw (pl p)] ++ T23z)⟩) ⟨((1 + (withinS units 4)).toNat - 0), ?_⟩ ?_))
 ·skip
  exact seq_regs [(15, iv (0 : Int)), (13, iv (withinS who (1 + (withinS units 4)))), (11, pv 2 0), (10, iv (1 + (withinS units 4))), (9, pv 1 0)] (by kernel_rfl) (⟨T14z, 0, S1, rfl, hY14z, ok14z, (by omega), (by omega), (by rw [hS1]; simp [crashedS]), (by rw [hS1, show i = (1 + (withinS turns 4)).toNat by omega]; exact late1S hpv.1 (by omega) (by omega)), rfl⟩)
 rintro μ s ⟨T23z, m, S2, rfl, hY23z, ok23z, hm, hln2, hge, hdr, rfl⟩
 refine gseq (gseq (greg (o_d 3 [(59, bv (decide ((m : Int) < 1 + (withinS units 4)))), (58, iv (1 + (withinS units 4))), (57, iv (m : Int))] (by kernel_rfl) (o_nil (seq_go (gcond (t := decide ((m : Int) < 1 + (withinS units 4))) rfl (fun h25 => ?_) (fun h25 => ?_)))))))
 ·skip
  have h25' : (m : Int) < 1 + (withinS units 4) := of_decide_eq_true h25
  refine gskip (seq_go (gseq (gblock (gseq (greg (o_d 1 [(62, pv 2 0)] (by kernel_rfl) ?_))))))
  refine o_cl (YDeliverK H hY23z (by omega) ok23z.nok 0 false (spl rfl fun T25 hY25q => ?_))
  refine (ex_eq (dlvS S2 0 false)).elim fun S27 hS28 => ?_
  have hY29 := hS28.symm ▸ hY25q
  have ok30 : YOK S27 := hS28 ▸ (ok_dlv ok23z _ _)
  have ln31 : S27.l.length ≤ S2.l.length + 1 := hS28 ▸ dlv_len _ _ _
  refine o_d 1 [(64, bv (!((atS S2.l 0).2)))] (by kernel_rfl) (o_nil (seq_go (gcond (t := !((atS S2.l 0).2)) rfl (fun q => by rw [(by rw [at0_len (by omega)]; rfl : (!((atS S2.l 0).2)) = false)] at q; cases q) (fun _ => ?_))))
  refine gskip (seq_go (greg (o_d 1 [(60, iv (m : Int))] (by kernel_rfl) (o_s (by refine run_val (v := .int .i64 (i64.wrap ((m : Int) + 1))) (congrArg (Value.int .i64) (w64 (by omega) (by omega))) ?_; kernel_rfl) ?_))))
  refine o_d 1 [(15, iv ((m : Int) + 1))] (by kernel_rfl) (o_nil (⟨(1 + (withinS units 4)).toNat - (m + 1), ?_⟩))
  refine seq_regsL [(15, iv ((m + 1) : Int)), (13, iv (withinS who (1 + (withinS units 4)))), (11, pv 2 0), (10, iv (1 + (withinS units 4))), (9, pv 1 0)] (by kernel_rfl) (by omega) ?_
  exact ⟨T25, (m + 1), S27, rfl, hY29, ok30, (by omega), (by omega), (by have h9 := dlv_ge S2 (at0_len (by omega)); rw [← hS28] at h9; omega), (by rw [hS28, ← drain_step (by omega) (at0_len (by omega))]; exact hdr), rfl⟩
 have h25' : ¬ ((m : Int) < 1 + (withinS units 4)) := of_decide_eq_false h25
 refine gexit (seq_go (gseq (greg (o_d 2 [(67, iv (withinS who (1 + (withinS units 4)))), (66, pv 2 0)] (by kernel_rfl) (o_cl (YVersionK H hY23z  (withinS who (1 + (withinS units 4))) (spl rfl fun T31 hY31q => ?_)))))))
 refine o_d 5 [(17, bv ((verY S2 (withinS who (1 + (withinS units 4)))).2)), (16, iv ((verY S2 (withinS who (1 + (withinS units 4)))).1)), (70, bv ((verY S2 (withinS who (1 + (withinS units 4)))).2)), (69, iv ((verY S2 (withinS who (1 + (withinS units 4)))).1)), (65, .tuple #[iv ((verY S2 (withinS who (1 + (withinS units 4)))).1), bv ((verY S2 (withinS who (1 + (withinS units 4)))).2)])] (by kernel_rfl) (o_nil (seq_go (gseq (gseq (greg (o_d 1 [(18, iv 0)] (by kernel_rfl) ?_))))))
 refine o_nil (seq_go (gblock (gloop (fun μ s => ∃ (T32z : List Blk), ∃ (j : Nat), ∃ (S3 : YS), μ = (1 + (withinS units 4)).toNat - j ∧ YP (fun k => 2 ≤ k) 2 S3 ([inB o (ii ns), cw (pl p)] ++ T32z) ∧ YOK S3 ∧ (j ≤ (1 + (withinS units 4)).toNat) ∧ (S3 = (lateS p (1 + (withinS units 4)).toNat (withinS who (1 + (withinS units 4))).toNat (1 + (withinS turns 4)).toNat)) ∧ (S3.l.length ≤ 200) ∧ s = ⟨reg [(18, iv (j : Int)), (17, bv ((verY S2 (withinS who (1 + (withinS units 4)))).2)), (13, iv (withinS who (1 + (withinS units 4)))), (11, pv 2 0), (10, iv (1 + (withinS units 4))), (9, pv 1 0)], ([inB o (ii ns), cw (pl p)] ++ T32z)⟩) ⟨((1 + (withinS units 4)).toNat - 0), ?_⟩ ?_)))
 ·skip
  exact seq_regs [(18, iv (0 : Int)), (17, bv ((verY S2 (withinS who (1 + (withinS units 4)))).2)), (13, iv (withinS who (1 + (withinS units 4)))), (11, pv 2 0), (10, iv (1 + (withinS units 4))), (9, pv 1 0)] (by kernel_rfl) (⟨T31, 0, S2, rfl, hY31q, ok23z, (by omega), (by rw [← hdr, show (1 + (withinS units 4)).toNat - m = 0 by omega]; rfl), (by omega), rfl⟩)
 rintro μ s ⟨T32z, j, S3, rfl, hY32z, ok32z, hj, hS3, hb3, rfl⟩
 refine gseq (gseq (greg (o_d 3 [(73, bv (decide ((j : Int) < 1 + (withinS units 4)))), (72, iv (1 + (withinS units 4))), (71, iv (j : Int))] (by kernel_rfl) (o_nil (seq_go (gcond (t := decide ((j : Int) < 1 + (withinS units 4))) rfl (fun h34 => ?_) (fun h34 => ?_)))))))
 ·skip
  have h34' : (j : Int) < 1 + (withinS units 4) := of_decide_eq_true h34
  refine gskip (seq_go (gseq (gblock (gseq (greg (o_d 2 [(78, iv (j : Int)), (77, pv 2 0)] (by kernel_rfl) ?_))))))
  refine o_cl (YVersionK H hY32z  (j : Int) (spl rfl fun T34 hY34q => ?_))
  refine o_d 5 [(20, bv ((verY S3 (j : Int)).2)), (19, iv ((verY S3 (j : Int)).1)), (81, bv ((verY S3 (j : Int)).2)), (80, iv ((verY S3 (j : Int)).1)), (76, .tuple #[iv ((verY S3 (j : Int)).1), bv ((verY S3 (j : Int)).2)])] (by kernel_rfl) (o_nil (seq_go (gseq (greg (o_d 5 [(86, bv (((verY S3 (j : Int)).2) != ((j : Int) != (withinS who (1 + (withinS units 4)))))), (85, bv ((j : Int) != (withinS who (1 + (withinS units 4))))), (84, iv (withinS who (1 + (withinS units 4)))), (83, iv (j : Int)), (82, bv ((verY S3 (j : Int)).2))] (by kernel_rfl) (o_nil ?_))))))
  refine seq_go (gcond (t := ((verY S3 (j : Int)).2) != ((j : Int) != (withinS who (1 + (withinS units 4))))) rfl (fun q => by rw [(by rw [hS3]; exact late_is (by omega) (by omega) : (((verY S3 (j : Int)).2) != ((j : Int) != (withinS who (1 + (withinS units 4))))) = false)] at q; cases q) (fun _ => ?_))
  refine gskip (seq_go (greg (o_d 1 [(74, iv (j : Int))] (by kernel_rfl) (o_s (by refine run_val (v := .int .i64 (i64.wrap ((j : Int) + 1))) (congrArg (Value.int .i64) (w64 (by omega) (by omega))) ?_; kernel_rfl) ?_))))
  refine o_d 1 [(18, iv ((j : Int) + 1))] (by kernel_rfl) (o_nil (⟨(1 + (withinS units 4)).toNat - (j + 1), ?_⟩))
  refine seq_regsL [(18, iv ((j + 1) : Int)), (17, bv ((verY S2 (withinS who (1 + (withinS units 4)))).2)), (13, iv (withinS who (1 + (withinS units 4)))), (11, pv 2 0), (10, iv (1 + (withinS units 4))), (9, pv 1 0)] (by kernel_rfl) (by omega) ?_
  exact ⟨T34, (j + 1), S3, rfl, hY34q, ok32z, (by omega), hS3, hb3, rfl⟩
 have h34' : ¬ ((j : Int) < 1 + (withinS units 4)) := of_decide_eq_false h34
 refine gexit (seq_go (gseq (greg (o_d 1 [(87, pv 2 0)] (by kernel_rfl) (o_cl (wholeK hY32z (settleC h_law12_settle h_yard_Yard_Notes h_yard_Yard_Pool h_head_Head_Pool h_yard_Yard_Wish h_head_Head_Wish h_head_Head_waiting h_pool_All h_pool_Apply h_pool_may h_pool_held h_pool_fits h_pool_Check h_pool_placed h_cookie_Next h_yard_Yard_Tick h_head_Head_Send h_head_Head_all h_head_Head_publish h_yard_row_head_Note_put h_yard_Yard_Lose h_yard_row_head_Note_at h_yard_row_head_Note_drop h_yard_Yard_Version h_yard_row_yard_unit_at h_plane_Plane_Version h_yard_Yard_Crash h_plane_Plane_Crash h_yard_Yard_Deliver h_head_Head_Heard h_yard_unit_hear h_yard_unit_version h_yard_unit_load h_plane_Plane_Load h_plane_maybe_api_Pool_lay h_wheel_Make h_wheel_spun h_sip_Words h_sip_Of h_sip_number_byte h_sip_state_take h_sip_state_rounds h_sip_state_round h_math_bits_RotateLeft64 h_head_New h_plane_New h_yard_New h_yard_row_yard_unit_put hY32z ok32z 2 (by omega) (by show _ + (2 - 0) * 1000 ≤ _; omega)) rfl (spl rfl fun T35 hY35q => ?_)))))))
 refine (ex_eq (settleS 2 S3)).elim fun S37 hS38 => ?_
 have hY39 := hS38.symm ▸ hY35q
 have ok40 : YOK S37 := hS38 ▸ (ok_settle ok32z _)
 refine o_nil (seq_go (gseq (greg (o_d 2 [(91, iv (withinS who (1 + (withinS units 4)))), (90, pv 2 0)] (by kernel_rfl) (o_cl (YVersionK H hY39  (withinS who (1 + (withinS units 4))) (spl rfl fun T41 hY41q => ?_)))))))
 refine o_d 5 [(22, bv ((verY S37 (withinS who (1 + (withinS units 4)))).2)), (21, iv ((verY S37 (withinS who (1 + (withinS units 4)))).1)), (94, bv ((verY S37 (withinS who (1 + (withinS units 4)))).2)), (93, iv ((verY S37 (withinS who (1 + (withinS units 4)))).1)), (89, .tuple #[iv ((verY S37 (withinS who (1 + (withinS units 4)))).1), bv ((verY S37 (withinS who (1 + (withinS units 4)))).2)])] (by kernel_rfl) (o_nil (seq_go (gseq (greg (o_d 3 [(97, bv (!((verY S2 (withinS who (1 + (withinS units 4)))).2))), (96, bv (!((verY S2 (withinS who (1 + (withinS units 4)))).2))), (95, bv ((verY S2 (withinS who (1 + (withinS units 4)))).2))] (by kernel_rfl) (o_sp (b := !((verY S2 (withinS who (1 + (withinS units 4)))).2)) 97 rfl (fun k43 => ?_) (fun q => by rw [(by rw [(show S2 = (lateS p (1 + (withinS units 4)).toNat (withinS who (1 + (withinS units 4))).toNat (1 + (withinS turns 4)).toNat) from (by rw [← hdr, show (1 + (withinS units 4)).toNat - m = 0 by omega]; rfl)), late_verW (by omega)]; rfl : (!((verY S2 (withinS who (1 + (withinS units 4)))).2)) = true)] at q; cases q)))))))
 refine o_d 3 [(100, bv ((verY S37 (withinS who (1 + (withinS units 4)))).2)), (99, bv ((verY S37 (withinS who (1 + (withinS units 4)))).2)), (98, bv ((verY S37 (withinS who (1 + (withinS units 4)))).2))] (by kernel_rfl) (o_sp (b := (verY S37 (withinS who (1 + (withinS units 4)))).2) 100 rfl (fun k44 => ?_) (fun q => by rw [(by rw [hS38, hS3, late_end hpv.1 (by omega) (by omega) (by omega)] : ((verY S37 (withinS who (1 + (withinS units 4)))).2) = true)] at q; cases q))
 refine o_d 2 [(102, pv 1 0), (101, iv ((verY S37 (withinS who (1 + (withinS units 4)))).1))] (by kernel_rfl) (o_unguard rfl (o_s (by refine run_ld (v := iv (p 0)) rfl rfl ?_; exact pl_r p 0 rfl (by omega)) ?_))
 refine o_d 3 [(8, bv (((verY S37 (withinS who (1 + (withinS units 4)))).1) == (p 0))), (105, bv (((verY S37 (withinS who (1 + (withinS units 4)))).1) == (p 0))), (104, bv (((verY S37 (withinS who (1 + (withinS units 4)))).1) == (p 0)))] (by kernel_rfl) (o_nil (seq_regs [(8, bv (((verY S37 (withinS who (1 + (withinS units 4)))).1) == (p 0)))] (by kernel_rfl) (gret ?_)))
 have E0_ : (((verY S37 (withinS who (1 + (withinS units 4)))).1) == (p 0)) = true := by
  rw [hS38, hS3, late_end hpv.1 (by omega) (by omega) (by omega)]; exact beq_self_eq_true _
 exact fin_ans [bv (((verY S37 (withinS who (1 + (withinS units 4)))).1) == (p 0))] (resV_t rfl rfl) rfl (by rw [E0_]; rfl) rfl (show List.all [inB o (ii ns)] blkf = true from (all_cons (inB_gone _ (ii_scl ns)) rfl))
end Go.Rh
