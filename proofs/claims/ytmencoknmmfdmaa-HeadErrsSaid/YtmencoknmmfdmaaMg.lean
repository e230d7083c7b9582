/- The proofs over the intermediate form, part Mg. -/
import Derived.Test.YtmencoknmmfdmaaMf
set_option linter.unusedSimpArgs false
set_option linter.unusedVariables false
set_option maxRecDepth 100000
namespace Go.Rh
def rT (sl : Value) (e : Ent) (s : Bool) (su : Value) : List Value := [sl, iv e.k, iv e.s, iv e.a, iv e.p, iv e.g, uv e.ka, uv e.kb, bv s, su]
def rheadL (c : Flat) (sl : Value) (e : Ent) (s : Bool) (su : Value) : List Value := pl c ++ rT sl e s su
theorem rh_length (c : Flat) (sl : Value) (e : Ent) (s : Bool) (su : Value) : (rheadL c sl e s su).length = 340 := by simp [rheadL, pl_length, rT]
theorem rh_rT {m : Option Nat} {c : Flat} {sl su : Value} {e : Ent} {s : Bool} (o : Nat) : partL m (rheadL c sl e s su) (330 + o) = partL m (rT sl e s su) o := partL_r (pl_length c)
theorem rh_rP {m : Option Nat} {c : Flat} {sl su : Value} {e : Ent} {s : Bool} {o : Nat} {v : Value} (h : partL m (pl c) o = some v) : partL m (rheadL c sl e s su) o = some v := partL_l h
theorem rh_wP {c d : Flat} {sl su : Value} {e : Ent} {s : Bool} : splice (rheadL c sl e s su) 0 (pl d) = rheadL d sl e s su := by
  unfold rheadL; rw [splice_l (by rw [pl_length, pl_length]; omega), splice_pl0]
theorem rh_wT {c : Flat} {sl su sl' su' : Value} {e e' : Ent} {s s' : Bool} {vs : List Value} (o : Nat) (h : splice (rT sl e s su) o vs = rT sl' e' s' su') : splice (rheadL c sl e s su) (330 + o) vs = rheadL c sl' e' s' su' := by
  unfold rheadL; rw [splice_r (pl_length c), h]
theorem rh_le {c : Flat} {sl su : Value} {e : Ent} {s : Bool} {m : Nat} (h : m ≤ 340) : m ≤ (rheadL c sl e s su).length := by rw [rh_length]; exact h
theorem ren_rheadL {ρ : Nat → Nat} {c : Flat} {sl su sl' su' : Value} {e : Ent} {s rw : Bool} (h1 : ren1 ρ sl = sl') (h2 : ren1 ρ su = su') : renB ρ (.cells (rheadL c sl e s su) rw) = .cells (rheadL c sl' e s su') rw := by
  subst h1; subst h2
  simp only [renB, rheadL, List.map_append, ren_pl]; rfl
theorem ren_rheadS {ρ : Nat → Nat} {c : Flat} {sl su sl' su' : Value} {e : Ent} {s rw : Bool} (h1 : ren1 ρ sl = sl') (h2 : ren1 ρ su = su') : some (Blk.cells (rheadL c sl' e s su') rw) = some (renB ρ (.cells (rheadL c sl e s su) rw)) := by rw [ren_rheadL h1 h2]
theorem seen_rhead {ρ : Nat → Nat} {c : Flat} {sl su sl' su' : Value} {e : Ent} {s rw rw' : Bool} (h1 : ren1 ρ sl = sl') (h2 : ren1 ρ su = su') (hr : rw = true → rw' = true) : Blk.seen (renB ρ (.cells (rheadL c sl e s su) rw)) (.cells (rheadL c sl' e s su') rw') := by
  rw [ren_rheadL h1 h2]; exact ⟨rfl, hr⟩
def zRHd : RL := [(324, .int .i64 0), (6, .int .u64 0), (1, .slice none 0 0), (5, .int .i64 0), (2, .int .u64 0), (1, .bool false), (1, .slice none 0 0)]
theorem bld_rhead (c : Flat) : fillL (expand zRHd) [(0, 330, poolV c)] = some (rheadL c (.slice none 0 0) e0 false (.slice none 0 0)) := by
  have e : expand zRHd = pl zeroP ++ rT (.slice none 0 0) e0 false (.slice none 0 0) := by kernel_rfl
  have h1 : vcells (poolV c) = pl c := rfl
  rw [e]
  simp only [fillL, h1]
  rw [if_pos ⟨rfl, pl_length c, by simp [pl_length]⟩, splice_l (by rw [pl_length, pl_length]; omega), splice_pl0]; rfl
/-! ### rows of words -/
def wdL (l : List (Int × Int)) : List Value := (l.map fun x => [iv x.1, iv x.2]).flatten
def zW : List Value := [iv 0, iv 0]
theorem wdL_length (l : List (Int × Int)) : (wdL l).length = l.length * 2 := by
  induction l with
  | nil => rfl
  | cons n l ih => simp only [wdL, List.map_cons, List.flatten_cons, List.length_append, List.length_cons] at ih ⊢; rw [ih]; simp; omega
theorem wdL_scl (l : List (Int × Int)) : (wdL l).all sclf = true := by
  simp only [wdL, List.all_flatten, List.all_map]
  exact List.all_eq_true.2 fun n _ => rfl
theorem wdR_scl (l : List (Int × Int)) (m : Nat) : (wdL l ++ room zW m).all sclf = true := app_scl (wdL_scl l) (room_scl rfl m)
theorem wdL_snoc (l : List (Int × Int)) (a b : Int) : wdL l ++ [iv a, iv b] = wdL (l ++ [(a, b)]) := by simp [wdL]
theorem wd_r {m : Option Nat} : ∀ {l : List (Int × Int)} {t : List Value} {o i j : Nat} {x : Int × Int} {v : Value}, o = 2 * i + j → l[i]? = some x → partL m [iv x.1, iv x.2] j = some v → partL m (wdL l ++ t) o = some v
  | [], _, _, _, _, _, _, _, h, _ => by simp at h
  | x :: l, t, o, 0, j, y, v, ho, h, hv => by
    simp at h; subst h
    have e : wdL (x :: l) ++ t = [iv x.1, iv x.2] ++ (wdL l ++ t) := by simp [wdL]
    rw [e, ho, show 2 * 0 + j = j by omega]
    exact partL_l hv
  | x :: l, t, o, i + 1, j, y, v, ho, h, hv => by
    have e : wdL (x :: l) ++ t = [iv x.1, iv x.2] ++ (wdL l ++ t) := by simp [wdL]
    rw [e, ho, show 2 * (i + 1) + j = 2 + (2 * i + j) by omega, partL_r (n := 2) rfl]
    exact wd_r rfl (by simpa using h) hv
theorem wd_w {t : List Value} {a b : Int} : ∀ {l : List (Int × Int)} {o i : Nat}, o = 2 * i → i < l.length → splice (wdL l ++ t) o [iv a, iv b] = wdL (l.set i (a, b)) ++ t
  | [], _, _, _, h => by simp at h
  | x :: l, o, 0, ho, h => by
    have e : wdL (x :: l) ++ t = [iv x.1, iv x.2] ++ (wdL l ++ t) := by simp [wdL]
    have e2 : wdL ((x :: l).set 0 (a, b)) ++ t = [iv a, iv b] ++ (wdL l ++ t) := by simp [wdL]
    rw [e, e2, ho, splice_l (by simp)]; rfl
  | x :: l, o, i + 1, ho, h => by
    have e : wdL (x :: l) ++ t = [iv x.1, iv x.2] ++ (wdL l ++ t) := by simp [wdL]
    have e2 : wdL ((x :: l).set (i + 1) (a, b)) ++ t = [iv x.1, iv x.2] ++ (wdL (l.set i (a, b)) ++ t) := by simp [wdL]
    rw [e, e2, ho, show 2 * (i + 1) = 2 + 2 * i by omega, splice_r (n := 2) rfl, wd_w rfl (by simpa using h)]
theorem entsL_app (a b : List Ent) : entsL a ++ entsL b = entsL (a ++ b) := by simp [entsL]
theorem ents_first (es : List Ent) (m : Nat) : ((entsL es ++ room zE m).drop 0).take (es.length * 7) = entsL es := by
  rw [List.drop_zero, ← entsL_len, List.take_left]
end Go.Rh

set_option linter.unusedSimpArgs false
set_option linter.unusedVariables false
set_option maxRecDepth 100000
set_option maxHeartbeats 8000000
namespace Go.Rh
def c_ref11_New : IFunc :=
  ⟨33, [.tmp 4, .tmp 5], (.seq (.reg [⟨(some 2), .box (.t 0), none⟩, ⟨(some 4), .mv (.c (.pointer none)), none⟩, ⟨(some 5), .mv (.c (.int .i64 0)), none⟩]) (.seq (.seq (.reg [⟨(some 8), .mv (.t 1), none⟩, ⟨(some 9), .bin .lss (.t 8) (.c (.int .i64 1)), none⟩, ⟨(some 10), .mv (.t 9), none⟩, ⟨(some 11), .mv (.t 1), some (10, false)⟩, ⟨(some 12), .bin .gtr (.t 11) (.c (.int .i64 16)), some (10, false)⟩, ⟨(some 13), .pick (.t 10) (.c (.bool true)) (.t 12), none⟩]) (.cond (.t 13) (.seq (.reg [⟨(some 4), .mv (.c (.pointer none)), none⟩, ⟨(some 5), .mv (.c (.int .i64 14)), none⟩]) .ret) .skip)) (.seq (.reg [⟨(some 14), .ld (some 330) (.t 2), none⟩, ⟨(some 15), .bld [(324, (.int .i64 0)), (6, (.int .u64 0)), (1, (.slice none 0 0)), (5, (.int .i64 0)), (2, (.int .u64 0)), (1, (.bool false)), (1, (.slice none 0 0))] [(0, 330, (.t 14))], none⟩, ⟨(some 16), .box (.t 15), none⟩, ⟨(some 6), .mv (.t 16), none⟩]) (.seq (.seq (.reg [⟨(some 7), .mv (.c (.int .i64 0)), none⟩]) (.block 0 (.loop (.seq (.seq (.reg [⟨(some 17), .mv (.t 7), none⟩, ⟨(some 18), .mv (.t 1), none⟩, ⟨(some 19), .bin .lss (.t 17) (.t 18), none⟩]) (.cond (.t 19) .skip (.exit 0))) (.seq (.block 1 (.reg [⟨(some 22), .mv (.t 6), none⟩, ⟨(some 23), .mv (.t 6), none⟩, ⟨(some 24), .nilc (.t 23), none⟩, ⟨(some 25), .fad 339 (.t 24), none⟩, ⟨(some 26), .ld none (.t 25), none⟩, ⟨(some 27), .bld [(2, (.int .i64 0))] [(1, 1, (.c (.int .i64 (-1))))], none⟩, ⟨(some 28), .bsl [(2, (.int .i64 0))] 2 1 [(0, 2, (.t 27))], none⟩, ⟨(some 29), .app [(2, (.int .i64 0))] 2 16 (.t 26) (.t 28), none⟩, ⟨(some 30), .nilc (.t 22), none⟩, ⟨(some 31), .fad 339 (.t 30), none⟩, ⟨none, .st 1 (.t 31) (.t 29), none⟩])) (.reg [⟨(some 20), .mv (.t 7), none⟩, ⟨(some 21), .bin .add (.t 20) (.c (.int .i64 1)), none⟩, ⟨(some 7), .mv (.t 21), none⟩])))))) (.seq (.reg [⟨(some 32), .mv (.t 6), none⟩, ⟨(some 4), .mv (.t 32), none⟩, ⟨(some 5), .mv (.c (.int .i64 0)), none⟩]) .ret)))))⟩
def c_ref11_Head_Wish : IFunc :=
  ⟨43, [.tmp 4], (.seq (.reg [⟨(some 4), .mv (.c (.int .i64 0)), none⟩]) (.seq (.seq (.reg [⟨(some 9), .mv (.t 0), none⟩, ⟨(some 10), .nilc (.t 9), none⟩, ⟨(some 11), .fad 330 (.t 10), none⟩, ⟨(some 12), .ld none (.t 11), none⟩, ⟨(some 13), .lenS (.t 12), none⟩, ⟨(some 14), .mv (.t 1), none⟩, ⟨(some 15), .lenS (.t 14), none⟩, ⟨(some 16), .bin .add (.t 13) (.t 15), none⟩, ⟨(some 17), .bin .gtr (.t 16) (.c (.int .i64 200)), none⟩]) (.cond (.t 17) (.seq (.reg [⟨(some 4), .mv (.c (.int .i64 14)), none⟩]) .ret) .skip)) (.seq (.reg [⟨(some 18), .bsl [(5, (.int .i64 0)), (2, (.int .u64 0))] 7 0 [], none⟩, ⟨(some 19), .mv (.t 0), none⟩, ⟨(some 20), .nilc (.t 19), none⟩, ⟨(some 21), .fad 330 (.t 20), none⟩, ⟨(some 22), .ld none (.t 21), none⟩, ⟨(some 23), .app [(5, (.int .i64 0)), (2, (.int .u64 0))] 7 56 (.t 18) (.t 22), none⟩, ⟨(some 24), .mv (.t 1), none⟩, ⟨(some 25), .app [(5, (.int .i64 0)), (2, (.int .u64 0))] 7 56 (.t 23) (.t 24), none⟩, ⟨(some 5), .mv (.t 25), none⟩]) (.seq (.seq (.reg [⟨(some 27), .mv (.t 0), none⟩, ⟨(some 28), .nilc (.t 27), none⟩, ⟨(some 29), .fad 0 (.t 28), none⟩, ⟨(some 30), .ld (some 330) (.t 29), none⟩, ⟨(some 31), .mv (.t 5), none⟩, ⟨(some 32), .call "roundhouse/roundhouseref6.All" [(.t 30), (.t 31)], none⟩, ⟨(some 26), .mv (.t 32), none⟩, ⟨(some 33), .ext 0 (.t 26), none⟩, ⟨(some 34), .ext 1 (.t 26), none⟩, ⟨(some 35), .ext 2 (.t 26), none⟩, ⟨(some 6), .new [(324, (.int .i64 0)), (6, (.int .u64 0))], none⟩, ⟨none, .st 330 (.t 6) (.t 33), none⟩, ⟨(some 7), .mv (.t 34), none⟩, ⟨(some 8), .mv (.t 35), none⟩]) (.seq (.reg [⟨(some 36), .mv (.t 8), none⟩, ⟨(some 37), .bin .neq (.t 36) (.c (.int .i64 0)), none⟩]) (.cond (.t 37) (.seq (.reg [⟨(some 38), .mv (.t 8), none⟩, ⟨(some 4), .mv (.t 38), none⟩]) .ret) .skip))) (.seq (.reg [⟨(some 39), .mv (.t 0), none⟩, ⟨(some 40), .mv (.t 5), none⟩, ⟨(some 41), .nilc (.t 39), none⟩, ⟨(some 42), .fad 330 (.t 41), none⟩, ⟨none, .st 1 (.t 42) (.t 40), none⟩]) (.seq (.reg [⟨(some 4), .mv (.c (.int .i64 0)), none⟩]) .ret))))))⟩
theorem rwish_err {p : Flat} {w l : List Ent} (h : (allS p w 0).2.2 = 0) : (allS p (w ++ l) 0).2.2 = (allS (allS p w 0).1 l 0).2.2 := by
  rw [allS_app _ _ _ _ h]
  have := (allS_at l (allS p w 0).1 0 (allS p w 0).2.1).2.2
  rw [Nat.zero_add] at this; exact this
theorem rwish_ok {p : Flat} {w l : List Ent} {us : List (Int × Int)} {e : Ent} {b : Bool} (h : (allS p w 0).2.2 = 0) (hm : ¬ 200 < w.length + l.length) (hz : ¬ (allS p (w ++ l) 0).2.2 ≠ 0) : wishS (HS.mk p w us e b) l = (0, HS.mk p (w ++ l) us e b) :=
  wish_ok hm (by rw [rwish_err h] at hz; exact hz)
theorem rwish_bad {p : Flat} {w l : List Ent} {us : List (Int × Int)} {e : Ent} {b : Bool} (h : (allS p w 0).2.2 = 0) (hm : ¬ 200 < w.length + l.length) (hz : (allS p (w ++ l) 0).2.2 ≠ 0) : wishS (HS.mk p w us e b) l = ((allS p (w ++ l) 0).2.2, HS.mk p w us e b) := by
  rw [wish_bad hm (by rw [rwish_err h] at hz; exact hz)]
  show ((allS (allS p w 0).1 l 0).2.2, _) = _
  rw [rwish_err h]
theorem RNewC {P : Program} (hc : codeOf P "roundhouse/roundhouseref11.New" = some c_ref11_New) (p : Flat) (units : Int) :
    Env P "roundhouse/roundhouseref11.New" [poolV p, iv units] ([]) (fun v h' => if units < 1 ∨ 16 < units then v = .tuple #[.pointer none, iv 14] ∧ h' = [] else ∃ q : Option Nat, (q = none → False) ∧ v = .tuple #[pv 0 0, iv 0] ∧ h' = [cw (rheadL p (.slice none 0 0) e0 false (slV 1 units.toNat q)), slB zW (wdL (List.replicate units.toNat (0, -1))) q]) := by
 refine Env.by2 hc ?_
 unfold c_ref11_New
 show GC _ 0 _ _ ⟨reg [(0, poolV p), (1, iv units)], []⟩
 refine gseq ?_
 refine greg ?_
 refine o_b 3 [(5, iv 0), (4, .pointer none), (2, pv 0 0)] [cw (pl p)] (by kernel_rfl) ?_
 refine o_nil ?_
 refine seq_go ?_
 refine gseq ?_
 refine gseq ?_
 refine greg ?_
 refine o_d 3 [(10, bv (decide (units < 1))), (9, bv (decide (units < 1))), (8, iv units)] (by kernel_rfl) ?_
 refine o_sp (b := decide (units < 1)) 10 rfl (fun h1 => ?_) (fun h1 => ?_)
 ·skip
  have h1' : units < 1 := of_decide_eq_true h1
  refine o_d 3 [(13, bv true), (12, undef), (11, undef)] (by kernel_rfl) ?_
  refine o_nil ?_
  refine seq_go ?_
  refine gtrue rfl ?_
  refine gseq ?_
  refine greg ?_
  refine o_d 2 [(5, iv 14), (4, .pointer none)] (by kernel_rfl) ?_
  refine o_nil ?_
  refine seq_go ?_
  refine gret ?_
  exact ⟨trivial, ⟨reg [(4, .pointer none), (5, iv 14)], []⟩, Wk.ren [] rfl rfl (by decide) ⟨rfl, ⟨rfl, trivial⟩⟩ trivial, [.pointer none, iv 14], (resV_t rfl (resV_t rfl rfl)), (tup_cons rfl (tup_cons rfl tup_nil)), (by show (if units < 1 ∨ 16 < units then _ else _); rw [if_pos (by omega)]; exact ⟨rfl, rfl⟩)⟩
 have h1' : ¬ (units < 1) := of_decide_eq_false h1
 refine o_d 3 [(13, bv (decide (units > 16))), (12, bv (decide (units > 16))), (11, iv units)] (by kernel_rfl) ?_
 refine o_nil ?_
 refine seq_go ?_
 refine gcond (t := decide (units > 16)) rfl (fun h2 => ?_) (fun h2 => ?_)
 ·skip
  have h2' : units > 16 := of_decide_eq_true h2
  refine gseq ?_
  refine greg ?_
  refine o_d 2 [(5, iv 14), (4, .pointer none)] (by kernel_rfl) ?_
  refine o_nil ?_
  refine seq_go ?_
  refine gret ?_
  exact ⟨trivial, ⟨reg [(4, .pointer none), (5, iv 14)], []⟩, Wk.ren [] rfl rfl (by decide) ⟨rfl, ⟨rfl, trivial⟩⟩ trivial, [.pointer none, iv 14], (resV_t rfl (resV_t rfl rfl)), (tup_cons rfl (tup_cons rfl tup_nil)), (by show (if units < 1 ∨ 16 < units then _ else _); rw [if_pos (by omega)]; exact ⟨rfl, rfl⟩)⟩
 have h2' : ¬ (units > 16) := of_decide_eq_false h2
 refine gskip ?_
 refine seq_go ?_
 refine gseq ?_
 refine greg ?_
 refine o_s (by refine run_ld (v := poolV p) rfl rfl ?_; exact pl_all p) ?_
 refine o_s (by refine run_bld (c := rheadL p (.slice none 0 0) e0 false (.slice none 0 0)) ?_; exact bld_rhead p) ?_
 refine o_b 2 [(6, pv 1 0), (16, pv 1 0)] [cw (pl p), cw (rheadL p (.slice none 0 0) e0 false (.slice none 0 0))] (by kernel_rfl) ?_
 refine o_nil ?_
 refine seq_go ?_
 refine gseq ?_
 refine gseq ?_
 refine greg ?_
 refine o_d 1 [(7, iv 0)] (by kernel_rfl) ?_
 refine o_nil ?_
 refine seq_go ?_
 refine gblock ?_
 refine gloop (fun μ s => ∃ (i : Nat), ∃ (wv : List (Int × Int)), ∃ (q : Option Nat), μ = units.toNat - i ∧ ((i : Int) ≤ units) ∧ (wv = List.replicate i (0, -1)) ∧ (q = none → i = 0) ∧ s = ⟨reg [(7, iv (i : Int)), (6, pv 1 0), (1, iv units)], [cw (pl p), cw (rheadL p (.slice none 0 0) e0 false (slV 2 i q)), slB zW (wdL wv) q]⟩) ⟨(units.toNat - 0), ?_⟩ ?_
 ·skip
  refine ⟨⟨reg [(7, iv (0 : Int)), (6, pv 1 0), (1, iv units)], [cw (pl p), cw (rheadL p (.slice none 0 0) e0 false (slV 2 0 none)), slB zW (wdL ([])) none]⟩, ?_⟩
  refine ⟨?_, ?_⟩
  ·exact Wk.ren [0, 1, 4] rfl rfl (by decide) ⟨rfl, ⟨rfl, ⟨rfl, trivial⟩⟩⟩ ⟨.inl (ren_cells (pl_scl p)), ⟨.inl (ren_rheadS rfl (ren1_slV none rfl)), ⟨.inr ⟨rfl, rfl⟩, trivial⟩⟩⟩
  ·exact ⟨0, ([]), none, rfl, (by omega), rfl, (fun _ => rfl), rfl⟩
 rintro μ s ⟨i, wv, q, rfl, hi, hwv, hq, rfl⟩
 have hwl : wv.length = i := by rw [hwv]; simp
 refine gseq ?_
 refine gseq ?_
 refine greg ?_
 refine o_d 3 [(19, bv (decide ((i : Int) < units))), (18, iv units), (17, iv (i : Int))] (by kernel_rfl) ?_
 refine o_nil ?_
 refine seq_go ?_
 refine gcond (t := decide ((i : Int) < units)) rfl (fun h3 => ?_) (fun h3 => ?_)
 ·skip
  have h3' : (i : Int) < units := of_decide_eq_true h3
  refine gskip ?_
  refine seq_go ?_
  refine gseq ?_
  refine gblock ?_
  refine greg ?_
  refine o_d 4 [(25, pv 1 339), (24, pv 1 0), (23, pv 1 0), (22, pv 1 0)] (by kernel_rfl) ?_
  refine o_s (by refine run_ld (v := slV 2 i q) rfl rfl ?_; exact (rh_rT 9).trans rfl) ?_
  refine o_b 2 [(28, sv 3 0 1 1), (27, .agg #[iv 0, iv (-1)])] [cw (pl p), cw (rheadL p (.slice none 0 0) e0 false (slV 2 i q)), slB zW (wdL wv) q, cw [iv 0, iv (-1)]] (by kernel_rfl) ?_
  refine o_appC (k := 2) (n := i) (o := q) (q := 1) (cs := wdL wv) (xs := [iv 0, iv (-1)]) (cs2 := wdL (wv ++ [(0, (-1))])) (zl := zW) rfl rfl rfl (fun m q => by subst q; rfl) (fun z => by have h0 := hq z; subst h0; rw [hwv]; exact ⟨rfl, rfl⟩) (by rw [wdL_length]; first | omega | (simp; try omega)) rfl rfl (app_first rfl rfl (by exact Nat.le_of_ble_eq_true rfl)) (by rfl) (by omega) (by omega) (wdL_snoc wv 0 (-1)) (fun m4 e5 => ?_) (fun m4 => ?_)
  ·skip
   subst e5
   refine o_d 2 [(31, pv 1 339), (30, pv 1 0)] (by kernel_rfl) ?_
   refine o_s0 (by refine run_st (c' := rheadL p (.slice none 0 0) e0 false (sv 2 0 (i + 1) (i + 1 + m4))) rfl rfl rfl ?_ ?_ ?_; exact rfl; exact rh_le (by omega); exact rh_wT 9 rfl) ?_
   refine o_nil ?_
   refine seq_go ?_
   refine greg ?_
   refine o_d 1 [(20, iv (i : Int))] (by kernel_rfl) ?_
   refine o_s (by refine run_val (v := .int .i64 (IntKind.i64.wrap ((i : Int) + 1))) (congrArg (Value.int .i64) (w64 (by omega) (by omega))) ?_; kernel_rfl) ?_
   refine o_d 1 [(7, iv ((i : Int) + 1))] (by kernel_rfl) ?_
   refine o_nil ?_
   refine ⟨units.toNat - (i + 1), ?_⟩
   refine ⟨⟨reg [(7, iv ((i + 1) : Int)), (6, pv 1 0), (1, iv units)], [cw (pl p), cw (rheadL p (.slice none 0 0) e0 false (slV 2 (i + 1) (some m4))), slB zW (wdL (wv ++ [(0, (-1))])) (some m4)]⟩, ?_⟩
   refine and3 (by omega) ⟨?_, ?_⟩
   ·exact Wk.ren [0, 1, 2] rfl rfl (by decide) ⟨rfl, ⟨rfl, ⟨rfl, trivial⟩⟩⟩ ⟨.inl (ren_cells (pl_scl p)), ⟨.inl (ren_rheadS rfl (ren1_slV (some m4) rfl)), ⟨.inl (ren_cells (wdR_scl _ _)), trivial⟩⟩⟩
   ·exact ⟨(i + 1), (wv ++ [(0, (-1))]), (some m4), rfl, by omega, (by rw [hwv, List.replicate_succ']), (fun z => by cases z), rfl⟩
  refine o_d 2 [(31, pv 1 339), (30, pv 1 0)] (by kernel_rfl) ?_
  refine o_s0 (by refine run_st (c' := rheadL p (.slice none 0 0) e0 false (sv 4 0 (i + 1) (i + 1 + m4))) rfl rfl rfl ?_ ?_ ?_; exact rfl; exact rh_le (by omega); exact rh_wT 9 rfl) ?_
  refine o_nil ?_
  refine seq_go ?_
  refine greg ?_
  refine o_d 1 [(20, iv (i : Int))] (by kernel_rfl) ?_
  refine o_s (by refine run_val (v := .int .i64 (IntKind.i64.wrap ((i : Int) + 1))) (congrArg (Value.int .i64) (w64 (by omega) (by omega))) ?_; kernel_rfl) ?_
  refine o_d 1 [(7, iv ((i : Int) + 1))] (by kernel_rfl) ?_
  refine o_nil ?_
  refine ⟨units.toNat - (i + 1), ?_⟩
  refine ⟨⟨reg [(7, iv ((i + 1) : Int)), (6, pv 1 0), (1, iv units)], [cw (pl p), cw (rheadL p (.slice none 0 0) e0 false (slV 2 (i + 1) (some m4))), slB zW (wdL (wv ++ [(0, (-1))])) (some m4)]⟩, ?_⟩
  refine and3 (by omega) ⟨?_, ?_⟩
  ·exact Wk.ren [0, 1, 4] rfl rfl (by decide) ⟨rfl, ⟨rfl, ⟨rfl, trivial⟩⟩⟩ ⟨.inl (ren_cells (pl_scl p)), ⟨.inl (ren_rheadS rfl (ren1_slV (some m4) rfl)), ⟨.inl (ren_cells (wdR_scl _ _)), trivial⟩⟩⟩
  ·exact ⟨(i + 1), (wv ++ [(0, (-1))]), (some m4), rfl, by omega, (by rw [hwv, List.replicate_succ']), (fun z => by cases z), rfl⟩
 have h3' : ¬ ((i : Int) < units) := of_decide_eq_false h3
 refine gexit ?_
 refine seq_go ?_
 refine gseq ?_
 refine greg ?_
 refine o_d 3 [(5, iv 0), (4, pv 1 0), (32, pv 1 0)] (by kernel_rfl) ?_
 refine o_nil ?_
 refine seq_go ?_
 refine gret ?_
 exact ⟨trivial, ⟨reg [(4, pv 0 0), (5, iv 0)], [cw (rheadL p (.slice none 0 0) e0 false (slV 1 i q)), slB zW (wdL wv) q]⟩, Wk.ren [1, 2] rfl rfl (by decide) ⟨rfl, ⟨rfl, trivial⟩⟩ ⟨.inl (ren_rheadS rfl (ren1_slV q rfl)), ⟨.inl (ren_slB q (fun _ => (wdR_scl _ _))), trivial⟩⟩, [pv 0 0, iv 0], (resV_t rfl (resV_t rfl rfl)), (tup_cons rfl (tup_cons rfl tup_nil)), (by show (if units < 1 ∨ 16 < units then _ else _); rw [if_neg (by omega)]; exact ⟨q, (fun z => by have := hq z; omega), rfl, by rw [hwv, show i = units.toNat by omega]⟩)⟩
theorem RWishC {P : Program} (hc : codeOf P "(*roundhouse/roundhouseref11.Head).Wish" = some c_ref11_Head_Wish) (h_ref6_All : codeOf P "roundhouse/roundhouseref6.All" = some c_ref6_All) (h_ref6_Apply : codeOf P "roundhouse/roundhouseref6.Apply" = some c_ref6_Apply) (h_ref6_Check : codeOf P "roundhouse/roundhouseref6.Check" = some c_ref6_Check) (h_ref6_out : codeOf P "roundhouse/roundhouseref6.out" = some c_ref6_out) (h_ref6_bad : codeOf P "roundhouse/roundhouseref6.bad" = some c_ref6_bad) (h_ref6_Held : codeOf P "roundhouse/roundhouseref6.Held" = some c_ref6_Held) (h_ref5_Next : codeOf P "roundhouse/roundhouseref5.Next" = some c_ref5_Next) (p : Flat) (w : List Ent) (us : List (Int × Int)) (e : Ent) (b : Bool) (qw qu : Option Nat) (l : List Ent) (q : Option Nat) (hqw : qw = none → w = []) (hq : q = none → l = []) (hw : w.length ≤ 200) (hl : l.length ≤ 1000000) (hA : (allS p w 0).2.2 = 0) :
    Env P "(*roundhouse/roundhouseref11.Head).Wish" [pv 0 0, slV 3 l.length q] ([cw (rheadL p (slV 1 w.length qw) e b (slV 2 us.length qu)), slB zE (entsL w) qw, slB zW (wdL us) qu, slB zE (entsL l) q]) (fun v h' => v = iv (wishS (HS.mk p w us e b) l).1 ∧ (((wishS (HS.mk p w us e b) l).1 ≠ 0 ∧ h' = [cw (rheadL p (slV 1 w.length qw) e b (slV 2 us.length qu)), slB zE (entsL w) qw, slB zW (wdL us) qu, slB zE (entsL l) q]) ∨ ((wishS (HS.mk p w us e b) l).1 = 0 ∧ ∃ m : Nat, h' = [cw (rheadL p (slV 4 (w ++ l).length (some m)) e b (slV 2 us.length qu)), slB zE (entsL w) qw, slB zW (wdL us) qu, slB zE (entsL l) q, cw (entsL (w ++ l) ++ room zE m)]))) := by
 refine Env.by2 hc ?_
 unfold c_ref11_Head_Wish
 show GC _ 4 _ _ ⟨reg [(0, pv 0 0), (1, slV 3 l.length q)], [cw (rheadL p (slV 1 w.length qw) e b (slV 2 us.length qu)), slB zE (entsL w) qw, slB zW (wdL us) qu, slB zE (entsL l) q]⟩
 refine gseq ?_
 refine greg ?_
 refine o_d 1 [(4, iv 0)] (by kernel_rfl) ?_
 refine o_nil ?_
 refine seq_go ?_
 refine gseq ?_
 refine gseq ?_
 refine greg ?_
 refine o_d 3 [(11, pv 0 330), (10, pv 0 0), (9, pv 0 0)] (by kernel_rfl) ?_
 refine o_s (by refine run_ld (v := slV 1 w.length qw) rfl rfl ?_; exact (rh_rT 0).trans rfl) ?_
 refine o_s (by exact run_lenSl rfl (fun z => by rw [hqw z]; rfl)) ?_
 refine o_d 1 [(14, slV 3 l.length q)] (by kernel_rfl) ?_
 refine o_s (by exact run_lenSl rfl (fun z => by rw [hq z]; rfl)) ?_
 refine o_s (by refine run_val (v := .int .i64 (IntKind.i64.wrap ((w.length : Nat) + (l.length : Nat)))) (congrArg (Value.int .i64) (w64 (by first | omega | (simp; omega)) (by first | omega | (simp; omega)))) ?_; kernel_rfl) ?_
 refine o_d 1 [(17, bv (decide (((w.length : Nat) + (l.length : Nat) : Int) > 200)))] (by kernel_rfl) ?_
 refine o_nil ?_
 refine seq_go ?_
 refine gcond (t := decide (((w.length : Nat) + (l.length : Nat) : Int) > 200)) rfl (fun h1 => ?_) (fun h1 => ?_)
 ·skip
  have h1' : ((w.length : Nat) + (l.length : Nat) : Int) > 200 := of_decide_eq_true h1
  refine gseq ?_
  refine greg ?_
  refine o_d 1 [(4, iv 14)] (by kernel_rfl) ?_
  refine o_nil ?_
  refine seq_go ?_
  refine gret ?_
  have hW : wishS (HS.mk p w us e b) l = (14, (HS.mk p w us e b)) := wish_many (by show 200 < w.length + l.length; omega)
  exact ⟨trivial, ⟨reg [(4, iv 14)], [cw (rheadL p (slV 1 w.length qw) e b (slV 2 us.length qu)), slB zE (entsL w) qw, slB zW (wdL us) qu, slB zE (entsL l) q]⟩, Wk.ren [0, 1, 2, 3] rfl rfl (by decide) ⟨rfl, trivial⟩ ⟨.inl (ren_rheadS (ren1_slV qw rfl) (ren1_slV qu rfl)), ⟨.inl (ren_slB qw (fun _ => (entsR_scl _ _))), ⟨.inl (ren_slB qu (fun _ => (wdR_scl _ _))), ⟨.inl (ren_slB q (fun _ => (entsR_scl _ _))), trivial⟩⟩⟩⟩, [iv 14], (resV_t rfl rfl), (tup_cons rfl tup_nil), (by rw [hW]; rfl), .inl ⟨(by rw [hW]; show (14 : Int) ≠ 0; omega), rfl⟩⟩
 have h1' : ¬ (((w.length : Nat) + (l.length : Nat) : Int) > 200) := of_decide_eq_false h1
 have hmany : ¬ 200 < w.length + l.length := by omega
 refine gskip ?_
 refine seq_go ?_
 refine gcut (fun s => ∃ (m : Nat), ∃ (n : Nat), ∃ (es : List Ent), 0 = 0 ∧ (n = es.length) ∧ (es = w ++ l) ∧ (n ≤ 200) ∧ s = ⟨reg [(0, pv 0 0), (5, sv 4 0 n (n + m))], [cw (rheadL p (slV 1 w.length qw) e b (slV 2 us.length qu)), slB zE (entsL w) qw, slB zW (wdL us) qu, slB zE (entsL l) q, cw (entsL es ++ room zE m)]⟩) ?_ ?_
 ·skip
  refine greg ?_
  refine o_b 4 [(21, pv 0 330), (20, pv 0 0), (19, pv 0 0), (18, sv 4 0 0 (0 + 0))] [cw (rheadL p (slV 1 w.length qw) e b (slV 2 us.length qu)), slB zE (entsL w) qw, slB zW (wdL us) qu, slB zE (entsL l) q, cw (entsL ([]) ++ room zE 0)] (by kernel_rfl) ?_
  refine o_s (by refine run_ld (v := slV 1 w.length qw) rfl rfl ?_; exact (rh_rT 0).trans rfl) ?_
  rcases qw with _ | m2
  ·skip
   have h0w := hqw rfl
   refine o_app0' (n := 0) (m := 0) (cs := entsL ([])) rfl rfl rfl rfl rfl (by rw [entsL_len]; first | omega | (simp; try omega)) ?_
   refine o_d 1 [(24, slV 3 l.length q)] (by kernel_rfl) ?_
   rcases q with _ | m3
   ·skip
    have h0l := hq rfl
    refine o_app0' (n := 0) (m := 0) (cs := entsL ([])) rfl rfl rfl rfl rfl (by rw [entsL_len]; first | omega | (simp; try omega)) ?_
    refine o_d 1 [(5, sv 4 0 0 (0 + 0))] (by kernel_rfl) ?_
    refine o_nil ?_
    refine ⟨⟨reg [(0, pv 0 0), (5, sv 4 0 0 (0 + 0))], [cw (rheadL p (slV 1 w.length none) e b (slV 2 us.length qu)), slB zE (entsL w) none, slB zW (wdL us) qu, slB zE (entsL l) none, cw (entsL ([]) ++ room zE 0)]⟩, ?_⟩
    refine ⟨?_, ?_⟩
    ·exact Wk.ren [0, 1, 2, 3, 4] rfl rfl (by decide) ⟨rfl, ⟨rfl, trivial⟩⟩ ⟨.inl (ren_rheadS (ren1_slV none rfl) (ren1_slV qu rfl)), ⟨.inl rfl, ⟨.inl (ren_slB qu (fun _ => (wdR_scl _ _))), ⟨.inl rfl, ⟨.inl (ren_cells (entsR_scl ([]) 0)), trivial⟩⟩⟩⟩⟩
    ·exact ⟨0, 0, ([]), rfl, (by first | rfl | (simp; done) | (simp; omega)), (by first | rfl | (simp_all; done)), by omega, rfl⟩
   ·skip
    refine o_appR (k := 4) (n := 0) (o := some 0) (q := l.length) (cs := entsL ([])) (xs := entsL l) (cs2 := entsL l) (zl := zE) rfl rfl rfl (fun m q => by cases q; rfl) (fun q => by cases q) (by rw [entsL_len]; first | omega | (simp; try omega)) rfl rfl (app_first rfl (ents_first l m3) (by rw [List.length_append, entsL_len]; omega)) (by exact entsL_len _) (by first | omega | (simp; omega)) rfl (fun h3 h4 => ?_) (fun m4 e5 => ?_) (fun m4 => ?_)
    ·cases h3
    ·skip
     refine o_d 1 [(5, sv 4 0 (0 + l.length) (0 + l.length + m4))] (by kernel_rfl) ?_
     refine o_nil ?_
     refine ⟨⟨reg [(0, pv 0 0), (5, sv 4 0 (0 + l.length) ((0 + l.length) + m4))], [cw (rheadL p (slV 1 w.length none) e b (slV 2 us.length qu)), slB zE (entsL w) none, slB zW (wdL us) qu, slB zE (entsL l) (some m3), cw (entsL l ++ room zE m4)]⟩, ?_⟩
     refine ⟨?_, ?_⟩
     ·exact Wk.ren [0, 1, 2, 3, 4] rfl rfl (by decide) ⟨rfl, ⟨rfl, trivial⟩⟩ ⟨.inl (ren_rheadS (ren1_slV none rfl) (ren1_slV qu rfl)), ⟨.inl rfl, ⟨.inl (ren_slB qu (fun _ => (wdR_scl _ _))), ⟨.inl (ren_cells (entsR_scl _ _)), ⟨.inl (ren_cells (entsR_scl l m4)), trivial⟩⟩⟩⟩⟩
     ·exact ⟨m4, (0 + l.length), l, rfl, (by first | rfl | (simp; done) | (simp; omega)), (by first | rfl | (simp_all; done)), by omega, rfl⟩
    refine o_d 1 [(5, sv 5 0 (0 + l.length) (0 + l.length + m4))] (by kernel_rfl) ?_
    refine o_nil ?_
    refine ⟨⟨reg [(0, pv 0 0), (5, sv 4 0 (0 + l.length) ((0 + l.length) + m4))], [cw (rheadL p (slV 1 w.length none) e b (slV 2 us.length qu)), slB zE (entsL w) none, slB zW (wdL us) qu, slB zE (entsL l) (some m3), cw (entsL l ++ room zE m4)]⟩, ?_⟩
    refine ⟨?_, ?_⟩
    ·exact Wk.ren [0, 1, 2, 3, 5] rfl rfl (by decide) ⟨rfl, ⟨rfl, trivial⟩⟩ ⟨.inl (ren_rheadS (ren1_slV none rfl) (ren1_slV qu rfl)), ⟨.inl rfl, ⟨.inl (ren_slB qu (fun _ => (wdR_scl _ _))), ⟨.inl (ren_cells (entsR_scl _ _)), ⟨.inl (ren_cells (entsR_scl l m4)), trivial⟩⟩⟩⟩⟩
    ·exact ⟨m4, (0 + l.length), l, rfl, (by first | rfl | (simp; done) | (simp; omega)), (by first | rfl | (simp_all; done)), by omega, rfl⟩
  ·skip
   refine o_appR (k := 4) (n := 0) (o := some 0) (q := w.length) (cs := entsL ([])) (xs := entsL w) (cs2 := entsL w) (zl := zE) rfl rfl rfl (fun m q => by cases q; rfl) (fun q => by cases q) (by rw [entsL_len]; first | omega | (simp; try omega)) rfl rfl (app_first rfl (ents_first w m2) (by rw [List.length_append, entsL_len]; omega)) (by exact entsL_len _) (by first | omega | (simp; omega)) rfl (fun h3 h4 => ?_) (fun m6 e7 => ?_) (fun m6 => ?_)
   ·cases h3
   ·skip
    refine o_d 1 [(24, slV 3 l.length q)] (by kernel_rfl) ?_
    rcases q with _ | m8
    ·skip
     have h0l := hq rfl
     refine o_app0' (n := 0 + w.length) (m := m6) (cs := entsL w) rfl rfl rfl rfl rfl (by rw [entsL_len]; first | omega | (simp; try omega)) ?_
     refine o_d 1 [(5, sv 4 0 (0 + w.length) (0 + w.length + m6))] (by kernel_rfl) ?_
     refine o_nil ?_
     refine ⟨⟨reg [(0, pv 0 0), (5, sv 4 0 (0 + w.length) ((0 + w.length) + m6))], [cw (rheadL p (slV 1 w.length (some m2)) e b (slV 2 us.length qu)), slB zE (entsL w) (some m2), slB zW (wdL us) qu, slB zE (entsL l) none, cw (entsL w ++ room zE m6)]⟩, ?_⟩
     refine ⟨?_, ?_⟩
     ·exact Wk.ren [0, 1, 2, 3, 4] rfl rfl (by decide) ⟨rfl, ⟨rfl, trivial⟩⟩ ⟨.inl (ren_rheadS (ren1_slV (some m2) rfl) (ren1_slV qu rfl)), ⟨.inl (ren_cells (entsR_scl _ _)), ⟨.inl (ren_slB qu (fun _ => (wdR_scl _ _))), ⟨.inl rfl, ⟨.inl (ren_cells (entsR_scl w m6)), trivial⟩⟩⟩⟩⟩
     ·exact ⟨m6, (0 + w.length), w, rfl, (by first | rfl | (simp; done) | (simp; omega)), (by first | rfl | (simp_all; done)), by omega, rfl⟩
    ·skip
     refine o_appR (k := 4) (n := 0 + w.length) (o := some m6) (q := l.length) (cs := entsL w) (xs := entsL l) (cs2 := entsL (w ++ l)) (zl := zE) rfl rfl rfl (fun m q => by cases q; rfl) (fun q => by cases q) (by rw [entsL_len]; first | omega | (simp; try omega)) rfl rfl (app_first rfl (ents_first l m8) (by rw [List.length_append, entsL_len]; omega)) (by exact entsL_len _) (by first | omega | (simp; omega)) (entsL_app w l) (fun h3 h4 => ?_) (fun m9 e10 => ?_) (fun m9 => ?_)
     ·cases h3
     ·skip
      refine o_d 1 [(5, sv 4 0 (0 + w.length + l.length) (0 + w.length + l.length + m9))] (by kernel_rfl) ?_
      refine o_nil ?_
      refine ⟨⟨reg [(0, pv 0 0), (5, sv 4 0 (0 + w.length + l.length) ((0 + w.length + l.length) + m9))], [cw (rheadL p (slV 1 w.length (some m2)) e b (slV 2 us.length qu)), slB zE (entsL w) (some m2), slB zW (wdL us) qu, slB zE (entsL l) (some m8), cw (entsL (w ++ l) ++ room zE m9)]⟩, ?_⟩
      refine ⟨?_, ?_⟩
      ·exact Wk.ren [0, 1, 2, 3, 4] rfl rfl (by decide) ⟨rfl, ⟨rfl, trivial⟩⟩ ⟨.inl (ren_rheadS (ren1_slV (some m2) rfl) (ren1_slV qu rfl)), ⟨.inl (ren_cells (entsR_scl _ _)), ⟨.inl (ren_slB qu (fun _ => (wdR_scl _ _))), ⟨.inl (ren_cells (entsR_scl _ _)), ⟨.inl (ren_cells (entsR_scl (w ++ l) m9)), trivial⟩⟩⟩⟩⟩
      ·exact ⟨m9, (0 + w.length + l.length), (w ++ l), rfl, (by first | rfl | (simp; done) | (simp; omega)), (by first | rfl | (simp_all; done)), by omega, rfl⟩
     refine o_d 1 [(5, sv 5 0 (0 + w.length + l.length) (0 + w.length + l.length + m9))] (by kernel_rfl) ?_
     refine o_nil ?_
     refine ⟨⟨reg [(0, pv 0 0), (5, sv 4 0 (0 + w.length + l.length) ((0 + w.length + l.length) + m9))], [cw (rheadL p (slV 1 w.length (some m2)) e b (slV 2 us.length qu)), slB zE (entsL w) (some m2), slB zW (wdL us) qu, slB zE (entsL l) (some m8), cw (entsL (w ++ l) ++ room zE m9)]⟩, ?_⟩
     refine ⟨?_, ?_⟩
     ·exact Wk.ren [0, 1, 2, 3, 5] rfl rfl (by decide) ⟨rfl, ⟨rfl, trivial⟩⟩ ⟨.inl (ren_rheadS (ren1_slV (some m2) rfl) (ren1_slV qu rfl)), ⟨.inl (ren_cells (entsR_scl _ _)), ⟨.inl (ren_slB qu (fun _ => (wdR_scl _ _))), ⟨.inl (ren_cells (entsR_scl _ _)), ⟨.inl (ren_cells (entsR_scl (w ++ l) m9)), trivial⟩⟩⟩⟩⟩
     ·exact ⟨m9, (0 + w.length + l.length), (w ++ l), rfl, (by first | rfl | (simp; done) | (simp; omega)), (by first | rfl | (simp_all; done)), by omega, rfl⟩
   refine o_d 1 [(24, slV 3 l.length q)] (by kernel_rfl) ?_
   rcases q with _ | m11
   ·skip
    have h0l := hq rfl
    refine o_app0' (n := 0 + w.length) (m := m6) (cs := entsL w) rfl rfl rfl rfl rfl (by rw [entsL_len]; first | omega | (simp; try omega)) ?_
    refine o_d 1 [(5, sv 5 0 (0 + w.length) (0 + w.length + m6))] (by kernel_rfl) ?_
    refine o_nil ?_
    refine ⟨⟨reg [(0, pv 0 0), (5, sv 4 0 (0 + w.length) ((0 + w.length) + m6))], [cw (rheadL p (slV 1 w.length (some m2)) e b (slV 2 us.length qu)), slB zE (entsL w) (some m2), slB zW (wdL us) qu, slB zE (entsL l) none, cw (entsL w ++ room zE m6)]⟩, ?_⟩
    refine ⟨?_, ?_⟩
    ·exact Wk.ren [0, 1, 2, 3, 5] rfl rfl (by decide) ⟨rfl, ⟨rfl, trivial⟩⟩ ⟨.inl (ren_rheadS (ren1_slV (some m2) rfl) (ren1_slV qu rfl)), ⟨.inl (ren_cells (entsR_scl _ _)), ⟨.inl (ren_slB qu (fun _ => (wdR_scl _ _))), ⟨.inl rfl, ⟨.inl (ren_cells (entsR_scl w m6)), trivial⟩⟩⟩⟩⟩
    ·exact ⟨m6, (0 + w.length), w, rfl, (by first | rfl | (simp; done) | (simp; omega)), (by first | rfl | (simp_all; done)), by omega, rfl⟩
   ·skip
    refine o_appR (k := 5) (n := 0 + w.length) (o := some m6) (q := l.length) (cs := entsL w) (xs := entsL l) (cs2 := entsL (w ++ l)) (zl := zE) rfl rfl rfl (fun m q => by cases q; rfl) (fun q => by cases q) (by rw [entsL_len]; first | omega | (simp; try omega)) rfl rfl (app_first rfl (ents_first l m11) (by rw [List.length_append, entsL_len]; omega)) (by exact entsL_len _) (by first | omega | (simp; omega)) (entsL_app w l) (fun h3 h4 => ?_) (fun m12 e13 => ?_) (fun m12 => ?_)
    ·cases h3
    ·skip
     refine o_d 1 [(5, sv 5 0 (0 + w.length + l.length) (0 + w.length + l.length + m12))] (by kernel_rfl) ?_
     refine o_nil ?_
     refine ⟨⟨reg [(0, pv 0 0), (5, sv 4 0 (0 + w.length + l.length) ((0 + w.length + l.length) + m12))], [cw (rheadL p (slV 1 w.length (some m2)) e b (slV 2 us.length qu)), slB zE (entsL w) (some m2), slB zW (wdL us) qu, slB zE (entsL l) (some m11), cw (entsL (w ++ l) ++ room zE m12)]⟩, ?_⟩
     refine ⟨?_, ?_⟩
     ·exact Wk.ren [0, 1, 2, 3, 5] rfl rfl (by decide) ⟨rfl, ⟨rfl, trivial⟩⟩ ⟨.inl (ren_rheadS (ren1_slV (some m2) rfl) (ren1_slV qu rfl)), ⟨.inl (ren_cells (entsR_scl _ _)), ⟨.inl (ren_slB qu (fun _ => (wdR_scl _ _))), ⟨.inl (ren_cells (entsR_scl _ _)), ⟨.inl (ren_cells (entsR_scl (w ++ l) m12)), trivial⟩⟩⟩⟩⟩
     ·exact ⟨m12, (0 + w.length + l.length), (w ++ l), rfl, (by first | rfl | (simp; done) | (simp; omega)), (by first | rfl | (simp_all; done)), by omega, rfl⟩
    refine o_d 1 [(5, sv 6 0 (0 + w.length + l.length) (0 + w.length + l.length + m12))] (by kernel_rfl) ?_
    refine o_nil ?_
    refine ⟨⟨reg [(0, pv 0 0), (5, sv 4 0 (0 + w.length + l.length) ((0 + w.length + l.length) + m12))], [cw (rheadL p (slV 1 w.length (some m2)) e b (slV 2 us.length qu)), slB zE (entsL w) (some m2), slB zW (wdL us) qu, slB zE (entsL l) (some m11), cw (entsL (w ++ l) ++ room zE m12)]⟩, ?_⟩
    refine ⟨?_, ?_⟩
    ·exact Wk.ren [0, 1, 2, 3, 6] rfl rfl (by decide) ⟨rfl, ⟨rfl, trivial⟩⟩ ⟨.inl (ren_rheadS (ren1_slV (some m2) rfl) (ren1_slV qu rfl)), ⟨.inl (ren_cells (entsR_scl _ _)), ⟨.inl (ren_slB qu (fun _ => (wdR_scl _ _))), ⟨.inl (ren_cells (entsR_scl _ _)), ⟨.inl (ren_cells (entsR_scl (w ++ l) m12)), trivial⟩⟩⟩⟩⟩
    ·exact ⟨m12, (0 + w.length + l.length), (w ++ l), rfl, (by first | rfl | (simp; done) | (simp; omega)), (by first | rfl | (simp_all; done)), by omega, rfl⟩
 rintro s ⟨m, n, es, -, hn, hes, hnb, rfl⟩
 refine gseq ?_
 refine gseq ?_
 refine greg ?_
 refine o_d 3 [(29, pv 0 0), (28, pv 0 0), (27, pv 0 0)] (by kernel_rfl) ?_
 refine o_s (by refine run_ld (v := poolV p) rfl rfl ?_; exact rh_rP (pl_all p)) ?_
 refine o_d 1 [(31, sv 4 0 n (n + m))] (by kernel_rfl) ?_
 refine o_cl (callS (a1 := [poolV p, .slice (some ⟨0, 0, none⟩) n (n + m)]) [4] [entsL es ++ room zE m] (refAllE h_ref6_All h_ref6_Apply h_ref6_Check h_ref6_out h_ref6_bad h_ref6_Held h_ref5_Next p es m n (n + m) (by exact hn) (by first | omega | (simp; omega))) rfl (fun n => ren_pool_sl _ _ _ _ _) ⟨⟨_, rfl⟩, entsR_scl _ _, trivial⟩ (all_cons (poolV_aggf ((allS p es 0).1)) (all_cons rfl (all_cons rfl rfl))) ?_)
 refine o_b 5 [(6, pv 5 0), (35, iv ((allS p es 0).2.2)), (34, iv ((allS p es 0).2.1 : Int)), (33, poolV ((allS p es 0).1)), (26, .tuple #[poolV ((allS p es 0).1), iv ((allS p es 0).2.1 : Int), iv ((allS p es 0).2.2)])] [cw (rheadL p (slV 1 w.length qw) e b (slV 2 us.length qu)), slB zE (entsL w) qw, slB zW (wdL us) qu, slB zE (entsL l) q, cw (entsL es ++ room zE m), cw (pl zeroP)] (by kernel_rfl) ?_
 refine o_s0 (by refine run_st (c' := pl ((allS p es 0).1)) rfl rfl rfl ?_ ?_ ?_; exact pl_length _; exact pl_le (by omega); exact splice_pl0 zeroP ((allS p es 0).1)) ?_
 refine o_b 2 [(8, iv ((allS p es 0).2.2)), (7, iv ((allS p es 0).2.1 : Int))] [cw (rheadL p (slV 1 w.length qw) e b (slV 2 us.length qu)), slB zE (entsL w) qw, slB zW (wdL us) qu, slB zE (entsL l) q, cw (entsL es ++ room zE m), cw (pl ((allS p es 0).1))] (by kernel_rfl) ?_
 refine o_nil ?_
 refine seq_go ?_
 refine gseq ?_
 refine greg ?_
 refine o_d 2 [(37, bv (((allS p es 0).2.2) != 0)), (36, iv ((allS p es 0).2.2))] (by kernel_rfl) ?_
 refine o_nil ?_
 refine seq_go ?_
 refine gcond (t := ((allS p es 0).2.2) != 0) rfl (fun h14 => ?_) (fun h14 => ?_)
 ·skip
  have h14' : (allS p es 0).2.2 ≠ 0 := neI_t h14
  refine gseq ?_
  refine greg ?_
  refine o_d 2 [(4, iv ((allS p es 0).2.2)), (38, iv ((allS p es 0).2.2))] (by kernel_rfl) ?_
  refine o_nil ?_
  refine seq_go ?_
  refine gret ?_
  have hW : wishS (HS.mk p w us e b) l = ((allS p es 0).2.2, (HS.mk p w us e b)) := by subst hes; exact rwish_bad hA hmany (by assumption)
  exact ⟨trivial, ⟨reg [(4, iv ((allS p es 0).2.2))], [cw (rheadL p (slV 1 w.length qw) e b (slV 2 us.length qu)), slB zE (entsL w) qw, slB zW (wdL us) qu, slB zE (entsL l) q]⟩, Wk.ren [0, 1, 2, 3] rfl rfl (by decide) ⟨rfl, trivial⟩ ⟨.inl (ren_rheadS (ren1_slV qw rfl) (ren1_slV qu rfl)), ⟨.inl (ren_slB qw (fun _ => (entsR_scl _ _))), ⟨.inl (ren_slB qu (fun _ => (wdR_scl _ _))), ⟨.inl (ren_slB q (fun _ => (entsR_scl _ _))), trivial⟩⟩⟩⟩, [iv ((allS p es 0).2.2)], (resV_t rfl rfl), (tup_cons rfl tup_nil), (by rw [hW]; rfl), .inl ⟨(by rw [hW]; assumption), rfl⟩⟩
 have h14' : ¬ ((allS p es 0).2.2 ≠ 0) := neI_f h14
 refine gskip ?_
 refine seq_go ?_
 refine gseq ?_
 refine greg ?_
 refine o_d 4 [(42, pv 0 330), (41, pv 0 0), (40, sv 4 0 n (n + m)), (39, pv 0 0)] (by kernel_rfl) ?_
 refine o_s0 (by refine run_st (c' := rheadL p (sv 4 0 n (n + m)) e b (slV 2 us.length qu)) rfl rfl rfl ?_ ?_ ?_; exact rfl; exact rh_le (by omega); exact rh_wT 0 rfl) ?_
 refine o_nil ?_
 refine seq_regs [] (by kernel_rfl) ?_
 refine gseq ?_
 refine greg ?_
 refine o_d 1 [(4, iv 0)] (by kernel_rfl) ?_
 refine o_nil ?_
 refine seq_go ?_
 refine gret ?_
 have hW : wishS (HS.mk p w us e b) l = (0, HS.mk p (w ++ l) us e b) := by subst hes; exact rwish_ok hA hmany (by assumption)
 exact ⟨trivial, ⟨reg [(4, iv 0)], [cw (rheadL p (sv 4 0 n (n + m)) e b (slV 2 us.length qu)), slB zE (entsL w) qw, slB zW (wdL us) qu, slB zE (entsL l) q, cw (entsL es ++ room zE m)]⟩, Wk.ren [0, 1, 2, 3, 4] rfl rfl (by decide) ⟨rfl, trivial⟩ ⟨.inl (ren_rheadS rfl (ren1_slV qu rfl)), ⟨.inl (ren_slB qw (fun _ => (entsR_scl _ _))), ⟨.inl (ren_slB qu (fun _ => (wdR_scl _ _))), ⟨.inl (ren_slB q (fun _ => (entsR_scl _ _))), ⟨.inl (ren_cells (entsR_scl es m)), trivial⟩⟩⟩⟩⟩, [iv 0], (resV_t rfl rfl), (tup_cons rfl tup_nil), (by rw [hW]; rfl), .inr ⟨(by rw [hW]), m, (by subst hes; subst hn; rfl)⟩⟩
theorem RWish_wit (p : Flat) (w : List Ent) (us : List (Int × Int)) (e : Ent) (b : Bool) (qw qu : Option Nat) (l : List Ent) (q : Option Nat) : ∃ (v : Value) (h1' : List Blk), (fun v h' => v = iv (wishS (HS.mk p w us e b) l).1 ∧ (((wishS (HS.mk p w us e b) l).1 ≠ 0 ∧ h' = [cw (rheadL p (slV 1 w.length qw) e b (slV 2 us.length qu)), slB zE (entsL w) qw, slB zW (wdL us) qu, slB zE (entsL l) q]) ∨ ((wishS (HS.mk p w us e b) l).1 = 0 ∧ ∃ m : Nat, h' = [cw (rheadL p (slV 4 (w ++ l).length (some m)) e b (slV 2 us.length qu)), slB zE (entsL w) qw, slB zW (wdL us) qu, slB zE (entsL l) q, cw (entsL (w ++ l) ++ room zE m)]))) v h1' ∧ 4 ≤ h1'.length ∧ flagsL [cw (rheadL p (slV 1 w.length qw) e b (slV 2 us.length qu)), slB zE (entsL w) qw, slB zW (wdL us) qu, slB zE (entsL l) q] h1' := by
  by_cases hz : (wishS (HS.mk p w us e b) l).1 = 0
  · exact ⟨_, _, ⟨rfl, .inr ⟨hz, 0, rfl⟩⟩, Nat.le_add_right 4 1, flags_cons rfl (flags_app [_, _, _] [_])⟩
  · exact ⟨_, _, ⟨rfl, .inl ⟨hz, rfl⟩⟩, Nat.le_refl 4, flags_cons rfl (flags_app [_, _, _] [])⟩

end Go.Rh
