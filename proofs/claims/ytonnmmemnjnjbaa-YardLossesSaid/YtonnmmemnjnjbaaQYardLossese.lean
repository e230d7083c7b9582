/- The proofs zex the intermediate form, part QYardLossese. -/
import Derived.Test.YtonnmmemnjnjbaaQYardLossesd
open Go.IntKind (i64)
set_option linter.unusedVariables false
set_option linter.unusedSimpArgs false
set_option maxRecDepth 100000
set_option maxHeartbeats 8000000
namespace Go.Rh
def atS (l : List Nt) (k : Int) : Nt × Bool := if 0 ≤ k ∧ k < l.length then (l.getD k.toNat n0, true) else (n0, false)
def uhS (p : qJ) (is : Bool) (b : Int) (n : Nt) : qJ × Bool :=
 if n.b ≠ b then (p, is)
 else if n.w = true ∧ qQ p is < n.p 0 then (n.p, true)
 else if n.w = false ∧ 0 ≤ qQ p is ∧ n.v = i64.wrap (qQ p is + 1) ∧ (zN p n.e).2 = 0 then ((zN p n.e).1, true)
 else (p, is)
theorem UHearC {P : Program} (hc : zbO P) (h_yard_unit_version : za3 P) (h_plane_Plane_Version : zas P) (h_yard_unit_load : zbq P) (h_plane_Plane_Load : zaW P) (h_plane_maybe_api_Pool_lay : qW P) (h_wheel_Make : zbI P) (h_wheel_spun : zbe P) (h_sip_Words : zbl P) (h_sip_Of : zcp P) (h_sip_number_byte : qZ P) (h_sip_state_take : zaf P) (h_sip_state_rounds : qM P) (h_sip_state_round : qO P) (h_math_bits_RotateLeft64 : zS P) (h_pool_Apply : zbv P) (h_pool_may : zbr P) (h_pool_held : zbm P) (h_pool_fits : zbx P) (h_pool_Check : zbf P) (h_pool_placed : zaV P) (h_cookie_Next : za7 P) (p : qJ) (is : Bool) (nr : Nat → Int × Bool) (q : Option Nat) (b : Int) (nt : Nt) (i : Int) :
    Env P "(*roundhouse/yard.unit).hear" [pv 0 0, iv i] ([cw (z8 1 p b 2), cw (zL p is nr (slV 3 127 q)), .chan 1 (([nt]).map ntE), cr []]) (fun v h' => v = .tuple #[ntV i b (qQ (uhS p is b nt).1 (uhS p is b nt).2) false true e0 zG, bv true] ∧ (((uhS p is b nt) = (p, is) ∧ h' = [cw (z8 1 p b 2), cw (zL p is nr (slV 3 127 q)), .chan 1 (([] : List Nt).map ntE), cr []]) ∨ ((uhS p is b nt).2 = true ∧ ∃ m, h' = [cw (z8 1 ((uhS p is b nt).1) b 2), cw (zL ((uhS p is b nt).1) true nr (slV 4 127 (some m))), .chan 1 (([] : List Nt).map ntE), cr [], slB zI (ii (zaA ((uhS p is b nt).1))) (some m)]))) := by
 refine Env.by3 hc ?_
 unfold zdz
 show GC _ 4 _ _ ⟨reg [(0, pv 0 0), (1, iv i)], [cw (z8 1 p b 2), cw (zL p is nr (slV 3 127 q)), .chan 1 (([nt]).map ntE), cr []]⟩
 refine zQ (zU (o_b 2 [(5, bv false), (4, pv 4 0)] [cw (z8 1 p b 2), cw (zL p is nr (slV 3 127 q)), .chan 1 (([nt]).map ntE), cr [], cw (ntF 0 0 0 false false e0 zG)] (by kernel_rfl) (zF (zC (zQ (zU (o_d 3 [(12, pv 0 332), (11, pv 0 0), (10, pv 0 0)] (by kernel_rfl) (o_s (by refine zZ (v := .chan (some 2)) rfl rfl ?_; exact (zdU 1).trans rfl) ?_))))))))
 refine zF (zC (zQ (zU (o_sel1 (k := 2) (v := ntE nt) (b := ([] : List Nt).map ntE) rfl rfl (o_d 2 [(16, bv true), (15, iv 0)] (by kernel_rfl) (zF (zC (zat (zd9 rfl (zQ (zU (o_b 2 [(6, pv 5 0), (18, ntE nt)] [cw (z8 1 p b 2), cw (zL p is nr (slV 3 127 q)), .chan 1 (([] : List Nt).map ntE), cr [], cw (ntF 0 0 0 false false e0 zG), cw (ntF 0 0 0 false false e0 zG)] (by kernel_rfl) ?_))))))))))))
 refine zde (by refine qP (c' := ntL nt) rfl rfl rfl ?_ ?_ ?_; exact z6 _ _ _ _ _ _ _; exact zcM (by omega); exact zbc) ?_
 refine zF (zC (zQ (zU (o_d 1 [(19, pv 0 0)] (by kernel_rfl) (zb8 (zdI [0, 1, 2, 3] [cr (z8 1 p b 2), cr (zL p is nr (slV 3 127 q)), .chan 1 (([] : List Nt).map ntE), cr []] [pv 0 0] (zdo h_yard_unit_version h_plane_Plane_Version p is nr q b ([])) rfl rfl ⟨⟨_, rfl, qA (.inl (zbB rfl rfl (fun q => rfl)))⟩, ⟨⟨_, rfl, qA (.inl (zaO (qU q rfl) (fun q => rfl)))⟩, ⟨⟨_, rfl, qA (.inl (zca _))⟩, ⟨⟨_, rfl, zK⟩, trivial⟩⟩⟩⟩ (by decide) ?_))))))
 rintro v1 h1' ⟨rfl, rfl⟩
 refine ⟨(zA zE (zA zE (zA zE (zA zE z9)))), iv (qQ p is), [cw (z8 1 p b 2), cw (zL p is nr (slV 3 127 q)), .chan 1 (([] : List Nt).map ntE), cr [], cw (ntF 0 0 0 false false e0 zG), cw (ntL nt)], [], rfl, ⟨rfl, ⟨rfl, ⟨zac _, ⟨(by cases true <;> rfl), ⟨rfl, ⟨rfl, trivial⟩⟩⟩⟩⟩⟩, trivial, ?_⟩
 refine o_d 1 [(7, iv (qQ p is))] (by kernel_rfl) (zF (zC (zQ (zat (zQ (zc8 ["roundhouse/pool.Apply"] (by kernel_rfl) (r_d 1 [(22, pv 5 1)] (by kernel_rfl) (r_s (by refine zZ (v := iv nt.b) rfl rfl ?_; exact zdu rfl) ?_))))))))
 refine r_d 3 [(26, pv 0 331), (25, pv 0 0), (24, pv 0 0)] (by kernel_rfl) (r_s (by refine zZ (v := iv b) rfl rfl ?_; exact (zdU 0).trans rfl) ?_)
 refine r_d 2 [(21, bv (nt.b != b)), (28, bv (nt.b != b))] (by kernel_rfl) (zcB (zC (zad (t := nt.b != b) rfl (fun h1 => ?_) (fun h1 => ?_))))
 ·skip
  have h1' : nt.b ≠ b := neI_t h1
  refine zar (zY [(4, pv 4 0), (0, pv 0 0), (1, iv i)] (by kernel_rfl) (zQ (zbE [cw (z8 1 p b 2), cw (zL p is nr (slV 3 127 q)), .chan 1 (([] : List Nt).map ntE), cr [], cw (ntF 0 0 0 false false e0 zG), cw (ntL nt)] (by kernel_rfl) (d_n 4 4 6 [(76, pv 0 331), (75, pv 0 0), (74, pv 0 0), (73, iv i)] [cw (z8 1 p b 2), cw (zL p is nr (slV 3 127 q)), .chan 1 (([] : List Nt).map ntE), cr [], cw (ntF 0 0 0 false false e0 zG), cw (ntL nt)] [] (by kernel_rfl) rfl rfl (d_s rfl rfl rfl (by kernel_rfl) (by refine zZ (v := iv b) rfl rfl ?_; exact (zdU 0).trans rfl) ?_)))))
  refine d_n 1 6 6 [(78, pv 0 0)] [cw (z8 1 p b 2), cw (zL p is nr (slV 3 127 q)), .chan 1 (([] : List Nt).map ntE), cr [], cw (ntF 0 0 0 false false e0 zG), cw (ntL nt)] [⟨4, [0], [], none⟩] (by kernel_rfl) rfl rfl (zgl [0, 1, 2, 3] [cr (z8 1 p b 2), cr (zL p is nr (slV 3 127 q)), .chan 1 (([] : List Nt).map ntE), cr []] [pv 0 0] (zdo h_yard_unit_version h_plane_Plane_Version p is nr q b ([])) rfl rfl ⟨⟨_, rfl, qA (.inl (zbB rfl rfl (fun q => rfl)))⟩, ⟨⟨_, rfl, qA (.inl (zaO (qU q rfl) (fun q => rfl)))⟩, ⟨⟨_, rfl, qA (.inl (zca _))⟩, ⟨⟨_, rfl, zK⟩, trivial⟩⟩⟩⟩ (by decide) ⟨_, _, ⟨rfl, rfl⟩, Nat.le_refl _, zbb [_, _, _, _] []⟩ ?_ (by kernel_rfl))
  rintro v1 h1' ⟨rfl, rfl⟩
  refine ⟨(zA zE (zA zE (zA zE (zA zE z9)))), iv (qQ p is), [cw (z8 1 p b 2), cw (zL p is nr (slV 3 127 q)), .chan 1 (([] : List Nt).map ntE), cr [], cw (ntF 0 0 0 false false e0 zG), cw (ntL nt)], [], rfl, ⟨rfl, ⟨rfl, ⟨zac _, ⟨(by cases true <;> rfl), ⟨rfl, ⟨rfl, trivial⟩⟩⟩⟩⟩⟩, trivial, ?_⟩
  refine d_s rfl rfl rfl (by kernel_rfl) (by refine zb2 (c := ntF i b (qQ p is) false true e0 zG) ?_; exact zhL rfl) ?_
  refine d_s0 rfl rfl ⟨_, _, _, rfl⟩ (by kernel_rfl) (by refine qP (c' := ntF i b (qQ p is) false true e0 zG) rfl rfl rfl ?_ ?_ ?_; exact z6 _ _ _ _ _ _ _; exact zcM (by omega); exact zbc) ?_
  refine d_n 1 10 6 [(5, bv true)] [cw (z8 1 p b 2), cw (zL p is nr (slV 3 127 q)), .chan 1 (([] : List Nt).map ntE), cr [], cw (ntF i b (qQ p is) false true e0 zG), cw (ntL nt)] [⟨8, [4], [4], none⟩, ⟨6, [0, 1, 2, 3], [2], some 6⟩, ⟨4, [0], [], none⟩] (by kernel_rfl) rfl rfl (zcf (zC (zaZ ?_)))
  have hH : (uhS p is b nt) = (p, is) := by simp [uhS, h1, h1']
  exact ⟨trivial, [ntV i b (qQ p is) false true e0 zG, bv true], (zaH rfl rfl (zbu i b (qQ p is) false true e0 zG) (qD rfl rfl)), (zV rfl (zV rfl qB)), (all_cons (zaU i b (qQ p is) false true e0 zG) (all_cons rfl rfl)), ⟨reg [], [cw (z8 1 p b 2), cw (zL p is nr (slV 3 127 q)), .chan 1 (([] : List Nt).map ntE), cr []]⟩, Wk.ren [0, 1, 2, 3] rfl rfl (by decide) trivial ⟨.inl (zaP rfl rfl), ⟨.inl (zaj (qU q rfl)), ⟨.inl (congrArg some (zac _).symm), ⟨.inl rfl, trivial⟩⟩⟩⟩, (by rw [hH]; rfl), .inl ⟨hH, rfl⟩⟩
 have h1' : ¬ (nt.b ≠ b) := neI_f h1
 refine zQ (zU (o_d 1 [(30, pv 5 3)] (by kernel_rfl) (o_s (by refine zZ (v := bv nt.w) rfl rfl ?_; exact zdu rfl) ?_)))
 refine o_d 1 [(32, bv nt.w)] (by kernel_rfl) (zhN (b := nt.w) 32 rfl (fun h2 => ?_) (fun h2 => ?_))
 ·skip
  refine o_d 3 [(35, pv 5 12), (34, pv 5 12), (33, iv (qQ p is))] (by kernel_rfl) (zdm rfl (o_s (by refine zZ (v := iv (nt.p 0)) rfl rfl ?_; exact (nt_rP 0).trans (pl_r nt.p 0 rfl (by omega))) ?_))
  refine o_d 3 [(29, bv (decide (qQ p is < nt.p 0))), (38, bv (decide (qQ p is < nt.p 0))), (37, bv (decide (qQ p is < nt.p 0)))] (by kernel_rfl) (zF (zY [(29, bv (decide (qQ p is < nt.p 0))), (7, iv (qQ p is)), (6, pv 5 0), (4, pv 4 0), (0, pv 0 0), (1, iv i)] (by kernel_rfl) (zad (t := decide (qQ p is < nt.p 0)) rfl (fun h3 => ?_) (fun h3 => ?_))))
  ·skip
   have h3' : qQ p is < nt.p 0 := of_decide_eq_true h3
   refine zU (o_d 2 [(40, pv 5 12), (39, pv 0 0)] (by kernel_rfl) (o_s (by refine zZ (v := qL nt.p) rfl rfl ?_; exact (nt_rP 0).trans (zau nt.p)) ?_))
   refine zb8 (zdI [0, 1, 2, 3] [cw (z8 1 p b 2), cw (zL p is nr (slV 3 127 q)), .chan 1 (([] : List Nt).map ntE), cr []] [pv 0 0, qL nt.p] (ULoadC h_yard_unit_load h_plane_Plane_Load h_plane_maybe_api_Pool_lay h_wheel_Make h_wheel_spun h_sip_Words h_sip_Of h_sip_number_byte h_sip_state_take h_sip_state_rounds h_sip_state_round h_math_bits_RotateLeft64 p is nr q b ([]) nt.p) rfl (zaG rfl (zaG (qK (zaT nt.p)) rfl)) ⟨⟨_, rfl, qA (.inl (zbB rfl rfl (fun q => rfl)))⟩, ⟨⟨_, rfl, qA (.inl (zaO (qU q rfl) (fun q => rfl)))⟩, ⟨⟨_, rfl, qA (.inl (zca _))⟩, ⟨⟨_, rfl, zK⟩, trivial⟩⟩⟩⟩ (by decide) ?_)
   rintro v1 h1' ⟨rfl, m4, rfl⟩
   refine ⟨(zA qI (zA qI (zA zE (zA zE z9)))), .tuple #[], [cw (z8 1 nt.p b 2), cw (zL nt.p true nr (slV 6 127 (some m4))), .chan 1 (([] : List Nt).map ntE), cr [], cw (ntF 0 0 0 false false e0 zG), cw (ntL nt)], [slB zI (ii (zaA nt.p)) (some m4)], (by simp [zbw]), ⟨zch rfl rfl, ⟨zbh rfl, ⟨zac _, ⟨(by cases true <;> rfl), ⟨rfl, ⟨rfl, trivial⟩⟩⟩⟩⟩⟩, ⟨(Option.some.inj (zaM (some m4) (fun _ => (zb5 _ _)))).symm, trivial⟩, ?_⟩
   refine zF (zC (zQ (zbE [cw (z8 1 nt.p b 2), cw (zL nt.p true nr (slV 6 127 (some m4))), .chan 1 (([] : List Nt).map ntE), cr [], cw (ntF 0 0 0 false false e0 zG), cw (ntL nt), slB zI (ii (zaA nt.p)) (some m4)] (by kernel_rfl) (d_n 4 4 7 [(76, pv 0 331), (75, pv 0 0), (74, pv 0 0), (73, iv i)] [cw (z8 1 nt.p b 2), cw (zL nt.p true nr (slV 6 127 (some m4))), .chan 1 (([] : List Nt).map ntE), cr [], cw (ntF 0 0 0 false false e0 zG), cw (ntL nt), slB zI (ii (zaA nt.p)) (some m4)] [] (by kernel_rfl) rfl rfl (d_s rfl rfl rfl (by kernel_rfl) (by refine zZ (v := iv b) rfl rfl ?_; exact (zdU 0).trans rfl) ?_)))))
   refine d_n 1 6 7 [(78, pv 0 0)] [cw (z8 1 nt.p b 2), cw (zL nt.p true nr (slV 6 127 (some m4))), .chan 1 (([] : List Nt).map ntE), cr [], cw (ntF 0 0 0 false false e0 zG), cw (ntL nt), slB zI (ii (zaA nt.p)) (some m4)] [⟨4, [0], [], none⟩] (by kernel_rfl) rfl rfl (zgl [0, 1, 2, 6] [cr (z8 1 nt.p b 2), cr (zL nt.p true nr (slV 3 127 (some m4))), .chan 1 (([] : List Nt).map ntE), cr []] [pv 0 0] (zdo h_yard_unit_version h_plane_Plane_Version nt.p true nr (some m4) b ([])) rfl rfl ⟨⟨_, rfl, qA (.inl (zbB rfl rfl (fun q => rfl)))⟩, ⟨⟨_, rfl, qA (.inl (zaO rfl (fun q => rfl)))⟩, ⟨⟨_, rfl, qA (.inl (zca _))⟩, ⟨⟨_, rfl, view_hidS (some m4)⟩, trivial⟩⟩⟩⟩ (by decide) ⟨_, _, ⟨rfl, rfl⟩, Nat.le_refl _, zbb [_, _, _, _] []⟩ ?_ (by kernel_rfl))
   rintro v1 h1' ⟨rfl, rfl⟩
   refine ⟨(zA zE (zA zE (zA zE (zA zE z9)))), iv (qQ nt.p true), [cw (z8 1 nt.p b 2), cw (zL nt.p true nr (slV 6 127 (some m4))), .chan 1 (([] : List Nt).map ntE), cr [], cw (ntF 0 0 0 false false e0 zG), cw (ntL nt), slB zI (ii (zaA nt.p)) (some m4)], [], rfl, ⟨rfl, ⟨rfl, ⟨zac _, ⟨rfl, ⟨rfl, ⟨rfl, ⟨rfl, trivial⟩⟩⟩⟩⟩⟩⟩, trivial, ?_⟩
   refine d_s rfl rfl rfl (by kernel_rfl) (by refine zb2 (c := ntF i b (qQ nt.p true) false true e0 zG) ?_; exact zhL rfl) ?_
   refine d_s0 rfl rfl ⟨_, _, _, rfl⟩ (by kernel_rfl) (by refine qP (c' := ntF i b (qQ nt.p true) false true e0 zG) rfl rfl rfl ?_ ?_ ?_; exact z6 _ _ _ _ _ _ _; exact zcM (by omega); exact zbc) ?_
   refine d_n 1 10 7 [(5, bv true)] [cw (z8 1 nt.p b 2), cw (zL nt.p true nr (slV 6 127 (some m4))), .chan 1 (([] : List Nt).map ntE), cr [], cw (ntF i b (qQ nt.p true) false true e0 zG), cw (ntL nt), slB zI (ii (zaA nt.p)) (some m4)] [⟨8, [4], [4], none⟩, ⟨6, [0, 1, 2, 6], [2], some 7⟩, ⟨4, [0], [], none⟩] (by kernel_rfl) rfl rfl (zcf (zC (zaZ ?_)))
   have hH : (uhS p is b nt) = (nt.p, true) := by simp [uhS, h1, h1', h2, h3, h3']
   exact ⟨trivial, [ntV i b (qQ nt.p true) false true e0 zG, bv true], (zaH rfl rfl (zbu i b (qQ nt.p true) false true e0 zG) (qD rfl rfl)), (zV rfl (zV rfl qB)), (all_cons (zaU i b (qQ nt.p true) false true e0 zG) (all_cons rfl rfl)), ⟨reg [], [cw (z8 1 nt.p b 2), cw (zL nt.p true nr (slV 4 127 (some m4))), .chan 1 (([] : List Nt).map ntE), cr [], slB zI (ii (zaA nt.p)) (some m4)]⟩, Wk.ren [0, 1, 2, 3, 6] rfl rfl (by decide) trivial ⟨.inl (zaP rfl rfl), ⟨.inl (zaj rfl), ⟨.inl (congrArg some (zac _).symm), ⟨.inl rfl, ⟨.inl (zaM (some m4) (fun _ => (zb5 _ _))), trivial⟩⟩⟩⟩⟩, (by rw [hH]; rfl), .inr ⟨by rw [hH], m4, (by rw [hH])⟩⟩
  have h3' : ¬ (qQ p is < nt.p 0) := of_decide_eq_false h3
  refine zQ (zU (o_d 1 [(44, pv 5 3)] (by kernel_rfl) (o_s (by refine zZ (v := bv nt.w) rfl rfl ?_; exact zdu rfl) ?_)))
  refine o_d 2 [(47, bv (!nt.w)), (46, bv (!nt.w))] (by kernel_rfl) (zhN (b := !nt.w) 47 rfl (fun q => by rw [(by rw [h2]; rfl : (!nt.w) = false)] at q; cases q) (fun k5 => ?_))
  refine o_d 11 [(43, bv false), (57, bv false), (56, undef), (55, undef), (54, undef), (53, undef), (52, undef), (51, bv false), (50, bv false), (49, undef), (48, undef)] (by kernel_rfl) (zF (zC (zcO rfl (zar (zC (zQ (zbE [cw (z8 1 p b 2), cw (zL p is nr (slV 3 127 q)), .chan 1 (([] : List Nt).map ntE), cr [], cw (ntF 0 0 0 false false e0 zG), cw (ntL nt)] (by kernel_rfl) (d_n 4 4 6 [(76, pv 0 331), (75, pv 0 0), (74, pv 0 0), (73, iv i)] [cw (z8 1 p b 2), cw (zL p is nr (slV 3 127 q)), .chan 1 (([] : List Nt).map ntE), cr [], cw (ntF 0 0 0 false false e0 zG), cw (ntL nt)] [] (by kernel_rfl) rfl rfl (d_s rfl rfl rfl (by kernel_rfl) (by refine zZ (v := iv b) rfl rfl ?_; exact (zdU 0).trans rfl) ?_)))))))))
  refine d_n 1 6 6 [(78, pv 0 0)] [cw (z8 1 p b 2), cw (zL p is nr (slV 3 127 q)), .chan 1 (([] : List Nt).map ntE), cr [], cw (ntF 0 0 0 false false e0 zG), cw (ntL nt)] [⟨4, [0], [], none⟩] (by kernel_rfl) rfl rfl (zgl [0, 1, 2, 3] [cr (z8 1 p b 2), cr (zL p is nr (slV 3 127 q)), .chan 1 (([] : List Nt).map ntE), cr []] [pv 0 0] (zdo h_yard_unit_version h_plane_Plane_Version p is nr q b ([])) rfl rfl ⟨⟨_, rfl, qA (.inl (zbB rfl rfl (fun q => rfl)))⟩, ⟨⟨_, rfl, qA (.inl (zaO (qU q rfl) (fun q => rfl)))⟩, ⟨⟨_, rfl, qA (.inl (zca _))⟩, ⟨⟨_, rfl, zK⟩, trivial⟩⟩⟩⟩ (by decide) ⟨_, _, ⟨rfl, rfl⟩, Nat.le_refl _, zbb [_, _, _, _] []⟩ ?_ (by kernel_rfl))
  rintro v1 h1' ⟨rfl, rfl⟩
  refine ⟨(zA zE (zA zE (zA zE (zA zE z9)))), iv (qQ p is), [cw (z8 1 p b 2), cw (zL p is nr (slV 3 127 q)), .chan 1 (([] : List Nt).map ntE), cr [], cw (ntF 0 0 0 false false e0 zG), cw (ntL nt)], [], rfl, ⟨rfl, ⟨rfl, ⟨zac _, ⟨(by cases true <;> rfl), ⟨rfl, ⟨rfl, trivial⟩⟩⟩⟩⟩⟩, trivial, ?_⟩
  refine d_s rfl rfl rfl (by kernel_rfl) (by refine zb2 (c := ntF i b (qQ p is) false true e0 zG) ?_; exact zhL rfl) ?_
  refine d_s0 rfl rfl ⟨_, _, _, rfl⟩ (by kernel_rfl) (by refine qP (c' := ntF i b (qQ p is) false true e0 zG) rfl rfl rfl ?_ ?_ ?_; exact z6 _ _ _ _ _ _ _; exact zcM (by omega); exact zbc) ?_
  refine d_n 1 10 6 [(5, bv true)] [cw (z8 1 p b 2), cw (zL p is nr (slV 3 127 q)), .chan 1 (([] : List Nt).map ntE), cr [], cw (ntF i b (qQ p is) false true e0 zG), cw (ntL nt)] [⟨8, [4], [4], none⟩, ⟨6, [0, 1, 2, 3], [2], some 6⟩, ⟨4, [0], [], none⟩] (by kernel_rfl) rfl rfl (zcf (zY [(5, bv true), (4, pv 4 0)] (by kernel_rfl) (zaZ ?_)))
  have hH : (uhS p is b nt) = (p, is) := by simp [uhS, h1, h1', h2, h3, h3']
  exact ⟨trivial, [ntV i b (qQ p is) false true e0 zG, bv true], (zaH rfl rfl (zbu i b (qQ p is) false true e0 zG) (qD rfl rfl)), (zV rfl (zV rfl qB)), (all_cons (zaU i b (qQ p is) false true e0 zG) (all_cons rfl rfl)), ⟨reg [], [cw (z8 1 p b 2), cw (zL p is nr (slV 3 127 q)), .chan 1 (([] : List Nt).map ntE), cr []]⟩, Wk.ren [0, 1, 2, 3] rfl rfl (by decide) trivial ⟨.inl (zaP rfl rfl), ⟨.inl (zaj (qU q rfl)), ⟨.inl (congrArg some (zac _).symm), ⟨.inl rfl, trivial⟩⟩⟩⟩, (by rw [hH]; rfl), .inl ⟨hH, rfl⟩⟩
 refine o_d 7 [(29, bv false), (38, bv false), (37, undef), (36, undef), (35, undef), (34, undef), (33, undef)] (by kernel_rfl) (zF (zY [(29, bv false), (7, iv (qQ p is)), (6, pv 5 0), (4, pv 4 0), (0, pv 0 0), (1, iv i)] (by kernel_rfl) (zcO rfl (zQ (zU (o_d 1 [(44, pv 5 3)] (by kernel_rfl) (o_s (by refine zZ (v := bv nt.w) rfl rfl ?_; exact zdu rfl) ?_)))))))
 refine o_d 2 [(47, bv (!nt.w)), (46, bv (!nt.w))] (by kernel_rfl) (zhN (b := !nt.w) 47 rfl (fun k6 => ?_) (fun q => by rw [(by rw [h2]; rfl : (!nt.w) = true)] at q; cases q))
 refine o_d 4 [(51, bv (decide (qQ p is ≥ 0))), (50, bv (decide (qQ p is ≥ 0))), (49, bv (decide (qQ p is ≥ 0))), (48, iv (qQ p is))] (by kernel_rfl) (zhN (b := decide (qQ p is ≥ 0)) 51 rfl (fun h7 => ?_) (fun h7 => ?_))
 ·skip
  have h7' : qQ p is ≥ 0 := of_decide_eq_true h7
  refine o_d 1 [(52, pv 5 2)] (by kernel_rfl) (zdm rfl (o_s (by refine zZ (v := iv nt.v) rfl rfl ?_; exact zdu rfl) ?_))
  refine o_d 5 [(43, bv (nt.v == (i64.wrap (qQ p is + 1)))), (57, bv (nt.v == (i64.wrap (qQ p is + 1)))), (56, bv (nt.v == (i64.wrap (qQ p is + 1)))), (55, iv (i64.wrap (qQ p is + 1))), (54, iv (qQ p is))] (by kernel_rfl) (zF (zC (zad (t := nt.v == (i64.wrap (qQ p is + 1))) rfl (fun h8 => ?_) (fun h8 => ?_))))
  ·skip
   have h8' : nt.v = i64.wrap (qQ p is + 1) := zbY h8
   refine zQ (zc8 ["roundhouse/pool.Apply"] (by kernel_rfl) (r_d 3 [(61, pv 0 1), (60, pv 0 0), (59, pv 0 0)] (by kernel_rfl) (r_s (by refine zZ (v := qL p) rfl rfl ?_; exact unit_rP (zau p)) ?_)))
   refine r_d 1 [(63, pv 5 5)] (by kernel_rfl) (r_s (by refine zZ (v := .agg #[iv nt.e.k, iv nt.e.s, iv nt.e.a, iv nt.e.p, iv nt.e.g, uv nt.e.ka, uv nt.e.kb]) rfl rfl ?_; exact zdu rfl) ?_)
   refine r_cl (zhK (ApplyC h_pool_Apply h_pool_may h_pool_held h_pool_fits h_pool_Check h_pool_placed h_cookie_Next p nt.e) rfl (all_cons (zaT p) (all_cons rfl rfl)) (all_cons (zay ((zN p nt.e).1)) (all_cons rfl rfl)) (r_b 4 [(8, pv 6 0), (67, iv ((zN p nt.e).2)), (66, qL ((zN p nt.e).1)), (58, .tuple #[qL ((zN p nt.e).1), iv ((zN p nt.e).2)])] [cw (z8 1 p b 2), cw (zL p is nr (slV 3 127 q)), .chan 1 (([] : List Nt).map ntE), cr [], cw (ntF 0 0 0 false false e0 zG), cw (ntL nt), cw (pl zG)] (by kernel_rfl) (r_s0 (by refine qP (c' := pl ((zN p nt.e).1)) rfl rfl rfl ?_ ?_ ?_; exact zM _; exact zce (by omega); exact qT zG ((zN p nt.e).1)) ?_)))
   refine r_b 1 [(9, iv ((zN p nt.e).2))] [cw (z8 1 p b 2), cw (zL p is nr (slV 3 127 q)), .chan 1 (([] : List Nt).map ntE), cr [], cw (ntF 0 0 0 false false e0 zG), cw (ntL nt), cw (pl ((zN p nt.e).1))] (by kernel_rfl) (zcB (zY [(9, iv ((zN p nt.e).2)), (8, pv 6 0), (4, pv 4 0), (0, pv 0 0), (1, iv i)] (by kernel_rfl) (zQ (zU (o_d 2 [(69, bv (((zN p nt.e).2) == 0)), (68, iv ((zN p nt.e).2))] (by kernel_rfl) (zF (zC (zad (t := ((zN p nt.e).2) == 0) rfl (fun h9 => ?_) (fun h9 => ?_)))))))))
   ·skip
    have h9' : (zN p nt.e).2 = 0 := zbY h9
    refine zU (o_d 1 [(70, pv 0 0)] (by kernel_rfl) (o_s (by refine zZ (v := qL ((zN p nt.e).1)) rfl rfl ?_; exact zau ((zN p nt.e).1)) ?_))
    refine zb8 (zdI [0, 1, 2, 3] [cw (z8 1 p b 2), cw (zL p is nr (slV 3 127 q)), .chan 1 (([] : List Nt).map ntE), cr []] [pv 0 0, qL ((zN p nt.e).1)] (ULoadC h_yard_unit_load h_plane_Plane_Load h_plane_maybe_api_Pool_lay h_wheel_Make h_wheel_spun h_sip_Words h_sip_Of h_sip_number_byte h_sip_state_take h_sip_state_rounds h_sip_state_round h_math_bits_RotateLeft64 p is nr q b ([]) ((zN p nt.e).1)) rfl (zaG rfl (zaG (qK (zaT ((zN p nt.e).1))) rfl)) ⟨⟨_, rfl, qA (.inl (zbB rfl rfl (fun q => rfl)))⟩, ⟨⟨_, rfl, qA (.inl (zaO (qU q rfl) (fun q => rfl)))⟩, ⟨⟨_, rfl, qA (.inl (zca _))⟩, ⟨⟨_, rfl, zK⟩, trivial⟩⟩⟩⟩ (by decide) ?_)
    rintro v1 h1' ⟨rfl, m10, rfl⟩
    refine ⟨(zA qI (zA qI (zA zE (zA zE z9)))), .tuple #[], [cw (z8 1 ((zN p nt.e).1) b 2), cw (zL ((zN p nt.e).1) true nr (slV 7 127 (some m10))), .chan 1 (([] : List Nt).map ntE), cr [], cw (ntF 0 0 0 false false e0 zG), cw (ntL nt), cw (pl ((zN p nt.e).1))], [slB zI (ii (zaA ((zN p nt.e).1))) (some m10)], (by simp [zbw]), ⟨zch rfl rfl, ⟨zbh rfl, ⟨zac _, ⟨(by cases true <;> rfl), ⟨rfl, ⟨rfl, ⟨rfl, trivial⟩⟩⟩⟩⟩⟩⟩, ⟨(Option.some.inj (zaM (some m10) (fun _ => (zb5 _ _)))).symm, trivial⟩, ?_⟩
    refine zF (zC (zQ (zbE [cw (z8 1 ((zN p nt.e).1) b 2), cw (zL ((zN p nt.e).1) true nr (slV 7 127 (some m10))), .chan 1 (([] : List Nt).map ntE), cr [], cw (ntF 0 0 0 false false e0 zG), cw (ntL nt), cw (pl ((zN p nt.e).1)), slB zI (ii (zaA ((zN p nt.e).1))) (some m10)] (by kernel_rfl) (d_n 4 4 8 [(76, pv 0 331), (75, pv 0 0), (74, pv 0 0), (73, iv i)] [cw (z8 1 ((zN p nt.e).1) b 2), cw (zL ((zN p nt.e).1) true nr (slV 7 127 (some m10))), .chan 1 (([] : List Nt).map ntE), cr [], cw (ntF 0 0 0 false false e0 zG), cw (ntL nt), cw (pl ((zN p nt.e).1)), slB zI (ii (zaA ((zN p nt.e).1))) (some m10)] [] (by kernel_rfl) rfl rfl (d_s rfl rfl rfl (by kernel_rfl) (by refine zZ (v := iv b) rfl rfl ?_; exact (zdU 0).trans rfl) ?_)))))
    refine d_n 1 6 8 [(78, pv 0 0)] [cw (z8 1 ((zN p nt.e).1) b 2), cw (zL ((zN p nt.e).1) true nr (slV 7 127 (some m10))), .chan 1 (([] : List Nt).map ntE), cr [], cw (ntF 0 0 0 false false e0 zG), cw (ntL nt), cw (pl ((zN p nt.e).1)), slB zI (ii (zaA ((zN p nt.e).1))) (some m10)] [⟨4, [0], [], none⟩] (by kernel_rfl) rfl rfl (zgl [0, 1, 2, 7] [cr (z8 1 ((zN p nt.e).1) b 2), cr (zL ((zN p nt.e).1) true nr (slV 3 127 (some m10))), .chan 1 (([] : List Nt).map ntE), cr []] [pv 0 0] (zdo h_yard_unit_version h_plane_Plane_Version ((zN p nt.e).1) true nr (some m10) b ([])) rfl rfl ⟨⟨_, rfl, qA (.inl (zbB rfl rfl (fun q => rfl)))⟩, ⟨⟨_, rfl, qA (.inl (zaO rfl (fun q => rfl)))⟩, ⟨⟨_, rfl, qA (.inl (zca _))⟩, ⟨⟨_, rfl, view_hidS (some m10)⟩, trivial⟩⟩⟩⟩ (by decide) ⟨_, _, ⟨rfl, rfl⟩, Nat.le_refl _, zbb [_, _, _, _] []⟩ ?_ (by kernel_rfl))
    rintro v1 h1' ⟨rfl, rfl⟩
    refine ⟨(zA zE (zA zE (zA zE (zA zE z9)))), iv (qQ ((zN p nt.e).1) true), [cw (z8 1 ((zN p nt.e).1) b 2), cw (zL ((zN p nt.e).1) true nr (slV 7 127 (some m10))), .chan 1 (([] : List Nt).map ntE), cr [], cw (ntF 0 0 0 false false e0 zG), cw (ntL nt), cw (pl ((zN p nt.e).1)), slB zI (ii (zaA ((zN p nt.e).1))) (some m10)], [], rfl, ⟨rfl, ⟨rfl, ⟨zac _, ⟨rfl, ⟨rfl, ⟨rfl, ⟨rfl, ⟨rfl, trivial⟩⟩⟩⟩⟩⟩⟩⟩, trivial, ?_⟩
    refine d_s rfl rfl rfl (by kernel_rfl) (by refine zb2 (c := ntF i b (qQ ((zN p nt.e).1) true) false true e0 zG) ?_; exact zhL rfl) ?_
    refine d_s0 rfl rfl ⟨_, _, _, rfl⟩ (by kernel_rfl) (by refine qP (c' := ntF i b (qQ ((zN p nt.e).1) true) false true e0 zG) rfl rfl rfl ?_ ?_ ?_; exact z6 _ _ _ _ _ _ _; exact zcM (by omega); exact zbc) ?_
    refine d_n 1 10 8 [(5, bv true)] [cw (z8 1 ((zN p nt.e).1) b 2), cw (zL ((zN p nt.e).1) true nr (slV 7 127 (some m10))), .chan 1 (([] : List Nt).map ntE), cr [], cw (ntF i b (qQ ((zN p nt.e).1) true) false true e0 zG), cw (ntL nt), cw (pl ((zN p nt.e).1)), slB zI (ii (zaA ((zN p nt.e).1))) (some m10)] [⟨8, [4], [4], none⟩, ⟨6, [0, 1, 2, 7], [2], some 8⟩, ⟨4, [0], [], none⟩] (by kernel_rfl) rfl rfl (zcf (zC (zaZ ?_)))
    have hH : (uhS p is b nt) = ((zN p nt.e).1, true) := by simp [uhS, h1, h1', h2, h7, h7', h8, h8', h9, h9']
    exact ⟨trivial, [ntV i b (qQ ((zN p nt.e).1) true) false true e0 zG, bv true], (zaH rfl rfl (zbu i b (qQ ((zN p nt.e).1) true) false true e0 zG) (qD rfl rfl)), (zV rfl (zV rfl qB)), (all_cons (zaU i b (qQ ((zN p nt.e).1) true) false true e0 zG) (all_cons rfl rfl)), ⟨reg [], [cw (z8 1 ((zN p nt.e).1) b 2), cw (zL ((zN p nt.e).1) true nr (slV 4 127 (some m10))), .chan 1 (([] : List Nt).map ntE), cr [], slB zI (ii (zaA ((zN p nt.e).1))) (some m10)]⟩, Wk.ren [0, 1, 2, 3, 7] rfl rfl (by decide) trivial ⟨.inl (zaP rfl rfl), ⟨.inl (zaj rfl), ⟨.inl (congrArg some (zac _).symm), ⟨.inl rfl, ⟨.inl (zaM (some m10) (fun _ => (zb5 _ _))), trivial⟩⟩⟩⟩⟩, (by rw [hH]; rfl), .inr ⟨by rw [hH], m10, (by rw [hH])⟩⟩
   have h9' : ¬ ((zN p nt.e).2 = 0) := zbZ h9
   refine zar (zC (zQ (zbE [cw (z8 1 p b 2), cw (zL p is nr (slV 3 127 q)), .chan 1 (([] : List Nt).map ntE), cr [], cw (ntF 0 0 0 false false e0 zG), cw (ntL nt), cw (pl ((zN p nt.e).1))] (by kernel_rfl) (d_n 4 4 7 [(76, pv 0 331), (75, pv 0 0), (74, pv 0 0), (73, iv i)] [cw (z8 1 p b 2), cw (zL p is nr (slV 3 127 q)), .chan 1 (([] : List Nt).map ntE), cr [], cw (ntF 0 0 0 false false e0 zG), cw (ntL nt), cw (pl ((zN p nt.e).1))] [] (by kernel_rfl) rfl rfl (d_s rfl rfl rfl (by kernel_rfl) (by refine zZ (v := iv b) rfl rfl ?_; exact (zdU 0).trans rfl) ?_)))))
   refine d_n 1 6 7 [(78, pv 0 0)] [cw (z8 1 p b 2), cw (zL p is nr (slV 3 127 q)), .chan 1 (([] : List Nt).map ntE), cr [], cw (ntF 0 0 0 false false e0 zG), cw (ntL nt), cw (pl ((zN p nt.e).1))] [⟨4, [0], [], none⟩] (by kernel_rfl) rfl rfl (zgl [0, 1, 2, 3] [cr (z8 1 p b 2), cr (zL p is nr (slV 3 127 q)), .chan 1 (([] : List Nt).map ntE), cr []] [pv 0 0] (zdo h_yard_unit_version h_plane_Plane_Version p is nr q b ([])) rfl rfl ⟨⟨_, rfl, qA (.inl (zbB rfl rfl (fun q => rfl)))⟩, ⟨⟨_, rfl, qA (.inl (zaO (qU q rfl) (fun q => rfl)))⟩, ⟨⟨_, rfl, qA (.inl (zca _))⟩, ⟨⟨_, rfl, zK⟩, trivial⟩⟩⟩⟩ (by decide) ⟨_, _, ⟨rfl, rfl⟩, Nat.le_refl _, zbb [_, _, _, _] []⟩ ?_ (by kernel_rfl))
   rintro v1 h1' ⟨rfl, rfl⟩
   refine ⟨(zA zE (zA zE (zA zE (zA zE z9)))), iv (qQ p is), [cw (z8 1 p b 2), cw (zL p is nr (slV 3 127 q)), .chan 1 (([] : List Nt).map ntE), cr [], cw (ntF 0 0 0 false false e0 zG), cw (ntL nt), cw (pl ((zN p nt.e).1))], [], rfl, ⟨rfl, ⟨rfl, ⟨zac _, ⟨(by cases true <;> rfl), ⟨rfl, ⟨rfl, ⟨rfl, trivial⟩⟩⟩⟩⟩⟩⟩, trivial, ?_⟩
   refine d_s rfl rfl rfl (by kernel_rfl) (by refine zb2 (c := ntF i b (qQ p is) false true e0 zG) ?_; exact zhL rfl) ?_
   refine d_s0 rfl rfl ⟨_, _, _, rfl⟩ (by kernel_rfl) (by refine qP (c' := ntF i b (qQ p is) false true e0 zG) rfl rfl rfl ?_ ?_ ?_; exact z6 _ _ _ _ _ _ _; exact zcM (by omega); exact zbc) ?_
   refine d_n 1 10 7 [(5, bv true)] [cw (z8 1 p b 2), cw (zL p is nr (slV 3 127 q)), .chan 1 (([] : List Nt).map ntE), cr [], cw (ntF i b (qQ p is) false true e0 zG), cw (ntL nt), cw (pl ((zN p nt.e).1))] [⟨8, [4], [4], none⟩, ⟨6, [0, 1, 2, 3], [2], some 7⟩, ⟨4, [0], [], none⟩] (by kernel_rfl) rfl rfl (zcf (zC (zaZ ?_)))
   have hH : (uhS p is b nt) = (p, is) := by simp [uhS, h1, h1', h2, h7, h7', h8, h8', h9, h9']
   exact ⟨trivial, [ntV i b (qQ p is) false true e0 zG, bv true], (zaH rfl rfl (zbu i b (qQ p is) false true e0 zG) (qD rfl rfl)), (zV rfl (zV rfl qB)), (all_cons (zaU i b (qQ p is) false true e0 zG) (all_cons rfl rfl)), ⟨reg [], [cw (z8 1 p b 2), cw (zL p is nr (slV 3 127 q)), .chan 1 (([] : List Nt).map ntE), cr []]⟩, Wk.ren [0, 1, 2, 3] rfl rfl (by decide) trivial ⟨.inl (zaP rfl rfl), ⟨.inl (zaj (qU q rfl)), ⟨.inl (congrArg some (zac _).symm), ⟨.inl rfl, trivial⟩⟩⟩⟩, (by rw [hH]; rfl), .inl ⟨hH, rfl⟩⟩
  have h8' : ¬ (nt.v = i64.wrap (qQ p is + 1)) := zbZ h8
  refine zar (zC (zQ (zbE [cw (z8 1 p b 2), cw (zL p is nr (slV 3 127 q)), .chan 1 (([] : List Nt).map ntE), cr [], cw (ntF 0 0 0 false false e0 zG), cw (ntL nt)] (by kernel_rfl) (d_n 4 4 6 [(76, pv 0 331), (75, pv 0 0), (74, pv 0 0), (73, iv i)] [cw (z8 1 p b 2), cw (zL p is nr (slV 3 127 q)), .chan 1 (([] : List Nt).map ntE), cr [], cw (ntF 0 0 0 false false e0 zG), cw (ntL nt)] [] (by kernel_rfl) rfl rfl (d_s rfl rfl rfl (by kernel_rfl) (by refine zZ (v := iv b) rfl rfl ?_; exact (zdU 0).trans rfl) ?_)))))
  refine d_n 1 6 6 [(78, pv 0 0)] [cw (z8 1 p b 2), cw (zL p is nr (slV 3 127 q)), .chan 1 (([] : List Nt).map ntE), cr [], cw (ntF 0 0 0 false false e0 zG), cw (ntL nt)] [⟨4, [0], [], none⟩] (by kernel_rfl) rfl rfl (zgl [0, 1, 2, 3] [cr (z8 1 p b 2), cr (zL p is nr (slV 3 127 q)), .chan 1 (([] : List Nt).map ntE), cr []] [pv 0 0] (zdo h_yard_unit_version h_plane_Plane_Version p is nr q b ([])) rfl rfl ⟨⟨_, rfl, qA (.inl (zbB rfl rfl (fun q => rfl)))⟩, ⟨⟨_, rfl, qA (.inl (zaO (qU q rfl) (fun q => rfl)))⟩, ⟨⟨_, rfl, qA (.inl (zca _))⟩, ⟨⟨_, rfl, zK⟩, trivial⟩⟩⟩⟩ (by decide) ⟨_, _, ⟨rfl, rfl⟩, Nat.le_refl _, zbb [_, _, _, _] []⟩ ?_ (by kernel_rfl))
  rintro v1 h1' ⟨rfl, rfl⟩
  refine ⟨(zA zE (zA zE (zA zE (zA zE z9)))), iv (qQ p is), [cw (z8 1 p b 2), cw (zL p is nr (slV 3 127 q)), .chan 1 (([] : List Nt).map ntE), cr [], cw (ntF 0 0 0 false false e0 zG), cw (ntL nt)], [], rfl, ⟨rfl, ⟨rfl, ⟨zac _, ⟨(by cases true <;> rfl), ⟨rfl, ⟨rfl, trivial⟩⟩⟩⟩⟩⟩, trivial, ?_⟩
  refine d_s rfl rfl rfl (by kernel_rfl) (by refine zb2 (c := ntF i b (qQ p is) false true e0 zG) ?_; exact zhL rfl) ?_
  refine d_s0 rfl rfl ⟨_, _, _, rfl⟩ (by kernel_rfl) (by refine qP (c' := ntF i b (qQ p is) false true e0 zG) rfl rfl rfl ?_ ?_ ?_; exact z6 _ _ _ _ _ _ _; exact zcM (by omega); exact zbc) ?_
  refine d_n 1 10 6 [(5, bv true)] [cw (z8 1 p b 2), cw (zL p is nr (slV 3 127 q)), .chan 1 (([] : List Nt).map ntE), cr [], cw (ntF i b (qQ p is) false true e0 zG), cw (ntL nt)] [⟨8, [4], [4], none⟩, ⟨6, [0, 1, 2, 3], [2], some 6⟩, ⟨4, [0], [], none⟩] (by kernel_rfl) rfl rfl (zcf (zY [(5, bv true), (4, pv 4 0)] (by kernel_rfl) (zaZ ?_)))
  have hH : (uhS p is b nt) = (p, is) := by simp [uhS, h1, h1', h2, h7, h7', h8, h8']
  exact ⟨trivial, [ntV i b (qQ p is) false true e0 zG, bv true], (zaH rfl rfl (zbu i b (qQ p is) false true e0 zG) (qD rfl rfl)), (zV rfl (zV rfl qB)), (all_cons (zaU i b (qQ p is) false true e0 zG) (all_cons rfl rfl)), ⟨reg [], [cw (z8 1 p b 2), cw (zL p is nr (slV 3 127 q)), .chan 1 (([] : List Nt).map ntE), cr []]⟩, Wk.ren [0, 1, 2, 3] rfl rfl (by decide) trivial ⟨.inl (zaP rfl rfl), ⟨.inl (zaj (qU q rfl)), ⟨.inl (congrArg some (zac _).symm), ⟨.inl rfl, trivial⟩⟩⟩⟩, (by rw [hH]; rfl), .inl ⟨hH, rfl⟩⟩
 have h7' : ¬ (qQ p is ≥ 0) := of_decide_eq_false h7
 refine o_d 7 [(43, bv false), (57, bv false), (56, undef), (55, undef), (54, undef), (53, undef), (52, undef)] (by kernel_rfl) (zF (zC (zcO rfl (zar (zC (zQ (zbE [cw (z8 1 p b 2), cw (zL p is nr (slV 3 127 q)), .chan 1 (([] : List Nt).map ntE), cr [], cw (ntF 0 0 0 false false e0 zG), cw (ntL nt)] (by kernel_rfl) (d_n 4 4 6 [(76, pv 0 331), (75, pv 0 0), (74, pv 0 0), (73, iv i)] [cw (z8 1 p b 2), cw (zL p is nr (slV 3 127 q)), .chan 1 (([] : List Nt).map ntE), cr [], cw (ntF 0 0 0 false false e0 zG), cw (ntL nt)] [] (by kernel_rfl) rfl rfl (d_s rfl rfl rfl (by kernel_rfl) (by refine zZ (v := iv b) rfl rfl ?_; exact (zdU 0).trans rfl) ?_)))))))))
 refine d_n 1 6 6 [(78, pv 0 0)] [cw (z8 1 p b 2), cw (zL p is nr (slV 3 127 q)), .chan 1 (([] : List Nt).map ntE), cr [], cw (ntF 0 0 0 false false e0 zG), cw (ntL nt)] [⟨4, [0], [], none⟩] (by kernel_rfl) rfl rfl (zgl [0, 1, 2, 3] [cr (z8 1 p b 2), cr (zL p is nr (slV 3 127 q)), .chan 1 (([] : List Nt).map ntE), cr []] [pv 0 0] (zdo h_yard_unit_version h_plane_Plane_Version p is nr q b ([])) rfl rfl ⟨⟨_, rfl, qA (.inl (zbB rfl rfl (fun q => rfl)))⟩, ⟨⟨_, rfl, qA (.inl (zaO (qU q rfl) (fun q => rfl)))⟩, ⟨⟨_, rfl, qA (.inl (zca _))⟩, ⟨⟨_, rfl, zK⟩, trivial⟩⟩⟩⟩ (by decide) ⟨_, _, ⟨rfl, rfl⟩, Nat.le_refl _, zbb [_, _, _, _] []⟩ ?_ (by kernel_rfl))
 rintro v1 h1' ⟨rfl, rfl⟩
 refine ⟨(zA zE (zA zE (zA zE (zA zE z9)))), iv (qQ p is), [cw (z8 1 p b 2), cw (zL p is nr (slV 3 127 q)), .chan 1 (([] : List Nt).map ntE), cr [], cw (ntF 0 0 0 false false e0 zG), cw (ntL nt)], [], rfl, ⟨rfl, ⟨rfl, ⟨zac _, ⟨(by cases true <;> rfl), ⟨rfl, ⟨rfl, trivial⟩⟩⟩⟩⟩⟩, trivial, ?_⟩
 refine d_s rfl rfl rfl (by kernel_rfl) (by refine zb2 (c := ntF i b (qQ p is) false true e0 zG) ?_; exact zhL rfl) ?_
 refine d_s0 rfl rfl ⟨_, _, _, rfl⟩ (by kernel_rfl) (by refine qP (c' := ntF i b (qQ p is) false true e0 zG) rfl rfl rfl ?_ ?_ ?_; exact z6 _ _ _ _ _ _ _; exact zcM (by omega); exact zbc) ?_
 refine d_n 1 10 6 [(5, bv true)] [cw (z8 1 p b 2), cw (zL p is nr (slV 3 127 q)), .chan 1 (([] : List Nt).map ntE), cr [], cw (ntF i b (qQ p is) false true e0 zG), cw (ntL nt)] [⟨8, [4], [4], none⟩, ⟨6, [0, 1, 2, 3], [2], some 6⟩, ⟨4, [0], [], none⟩] (by kernel_rfl) rfl rfl (zcf (zY [(5, bv true), (4, pv 4 0)] (by kernel_rfl) (zaZ ?_)))
 have hH : (uhS p is b nt) = (p, is) := by simp [uhS, h1, h1', h2, h7, h7']
 exact ⟨trivial, [ntV i b (qQ p is) false true e0 zG, bv true], (zaH rfl rfl (zbu i b (qQ p is) false true e0 zG) (qD rfl rfl)), (zV rfl (zV rfl qB)), (all_cons (zaU i b (qQ p is) false true e0 zG) (all_cons rfl rfl)), ⟨reg [], [cw (z8 1 p b 2), cw (zL p is nr (slV 3 127 q)), .chan 1 (([] : List Nt).map ntE), cr []]⟩, Wk.ren [0, 1, 2, 3] rfl rfl (by decide) trivial ⟨.inl (zaP rfl rfl), ⟨.inl (zaj (qU q rfl)), ⟨.inl (congrArg some (zac _).symm), ⟨.inl rfl, trivial⟩⟩⟩⟩, (by rw [hH]; rfl), .inl ⟨hH, rfl⟩⟩
theorem atN0C {P : Program} (hc : zah P) (n m : Nat) (k : Int) (l : List Nt) (hl : l = []) :
    Env P "(*roundhouse/yard.row[roundhouse/head.Note]).at" [pv 0 2, iv k] ([cr (z4 2 (sv 3 0 n (n + m)) (.slice none 0 0)), .gone, cr [], cr []]) (fun v h' => v = .tuple #[ntE (atS l k).1, bv (atS l k).2] ∧ h' = [cr (z4 2 (sv 3 0 n (n + m)) (.slice none 0 0)), .gone, cr [], cr []]) := by
 refine Env.by3 hc ?_
 unfold zbd
 show GC _ 4 _ _ ⟨reg [(0, pv 0 2), (1, iv k)], [cr (z4 2 (sv 3 0 n (n + m)) (.slice none 0 0)), .gone, cr [], cr []]⟩
 have hl0 : l.length = 0 := by rw [hl]; rfl
 refine zQ (zU (o_b 2 [(5, bv false), (4, pv 4 0)] [cr (z4 2 (sv 3 0 n (n + m)) (.slice none 0 0)), .gone, cr [], cr [], cw (ntF 0 0 0 false false e0 zG)] (by kernel_rfl) (zF (zC (zQ (zQ (zU (o_d 3 [(9, bv (decide (k < 0))), (8, bv (decide (k < 0))), (7, iv k)] (by kernel_rfl) (zhN (b := decide (k < 0)) 9 rfl (fun h1 => ?_) (fun h1 => ?_))))))))))
 ·skip
  have h1' : k < 0 := of_decide_eq_true h1
  refine o_d 8 [(17, bv true), (16, undef), (15, undef), (14, undef), (13, undef), (12, undef), (11, undef), (10, undef)] (by kernel_rfl) (zF (zC (zd9 rfl (zQ (zU (o_b 1 [(6, pv 5 0)] [cr (z4 2 (sv 3 0 n (n + m)) (.slice none 0 0)), .gone, cr [], cr [], cw (ntF 0 0 0 false false e0 zG), cw (ntF 0 0 0 false false e0 zG)] (by kernel_rfl) (zF (zC (zQ (zU (o_s (by refine zZ (v := ntV 0 0 0 false false e0 zG) rfl rfl ?_; exact zbu 0 0 0 false false e0 zG) ?_)))))))))))
  refine zde (by refine qP (c' := ntF 0 0 0 false false e0 zG) rfl rfl rfl ?_ ?_ ?_; exact z6 _ _ _ _ _ _ _; exact zcM (by omega); exact zbc) ?_
  refine o_d 1 [(5, bv false)] (by kernel_rfl) (zF (zC (zaZ ?_)))
  have hA : atS l k = (n0, false) := by unfold atS; rw [if_neg (by omega)]
  exact ⟨trivial, [ntV 0 0 0 false false e0 zG, bv false], (zaH rfl rfl (zbu 0 0 0 false false e0 zG) (qD rfl rfl)), (zV rfl (zV rfl qB)), (all_cons (zaU 0 0 0 false false e0 zG) (all_cons rfl rfl)), ⟨reg [], [cr (z4 2 (sv 3 0 n (n + m)) (.slice none 0 0)), .gone, cr [], cr []]⟩, Wk.ren [0, 1, 2, 3] rfl rfl (by decide) trivial ⟨.inl (zam rfl rfl rfl), ⟨.inl rfl, ⟨.inl rfl, ⟨.inl rfl, trivial⟩⟩⟩⟩, (by rw [hA]; rfl), rfl⟩
 have h1' : ¬ (k < 0) := of_decide_eq_false h1
 refine o_d 8 [(17, bv (decide (k ≥ 0))), (16, bv (decide (k ≥ 0))), (15, iv 0), (14, .slice none 0 0), (13, pv 0 2), (12, pv 0 2), (11, pv 0 2), (10, iv k)] (by kernel_rfl) (zF (zC (zad (t := decide (k ≥ 0)) rfl (fun _ => ?_) (fun q => by rw [(decide_eq_true (by omega) : (decide (k ≥ 0)) = true)] at q; cases q))))
 refine zQ (zU (o_b 1 [(6, pv 5 0)] [cr (z4 2 (sv 3 0 n (n + m)) (.slice none 0 0)), .gone, cr [], cr [], cw (ntF 0 0 0 false false e0 zG), cw (ntF 0 0 0 false false e0 zG)] (by kernel_rfl) (zF (zC (zQ (zU (o_s (by refine zZ (v := ntV 0 0 0 false false e0 zG) rfl rfl ?_; exact zbu 0 0 0 false false e0 zG) ?_)))))))
 refine zde (by refine qP (c' := ntF 0 0 0 false false e0 zG) rfl rfl rfl ?_ ?_ ?_; exact z6 _ _ _ _ _ _ _; exact zcM (by omega); exact zbc) ?_
 refine o_d 1 [(5, bv false)] (by kernel_rfl) (zF (zC (zaZ ?_)))
 have hA : atS l k = (n0, false) := by unfold atS; rw [if_neg (by omega)]
 exact ⟨trivial, [ntV 0 0 0 false false e0 zG, bv false], (zaH rfl rfl (zbu 0 0 0 false false e0 zG) (qD rfl rfl)), (zV rfl (zV rfl qB)), (all_cons (zaU 0 0 0 false false e0 zG) (all_cons rfl rfl)), ⟨reg [], [cr (z4 2 (sv 3 0 n (n + m)) (.slice none 0 0)), .gone, cr [], cr []]⟩, Wk.ren [0, 1, 2, 3] rfl rfl (by decide) trivial ⟨.inl (zam rfl rfl rfl), ⟨.inl rfl, ⟨.inl rfl, ⟨.inl rfl, trivial⟩⟩⟩⟩, (by rw [hA]; rfl), rfl⟩
theorem atN1C {P : Program} (hc : zah P) (n m : Nat) (k : Int) (l : List Nt) (c : Nat) (t : List Value) (hc2 : l.length ≤ c) (ht : t.all zbA = true) :
    Env P "(*roundhouse/yard.row[roundhouse/head.Note]).at" [pv 0 2, iv k] ([cr (z4 2 (sv 3 0 n (n + m)) (sv 1 0 l.length c)), cw (zaX l ++ t), cr [], cr []]) (fun v h' => v = .tuple #[ntE (atS l k).1, bv (atS l k).2] ∧ h' = [cr (z4 2 (sv 3 0 n (n + m)) (sv 1 0 l.length c)), cw (zaX l ++ t), cr [], cr []]) := by
 refine Env.by3 hc ?_
 unfold zbd
 show GC _ 4 _ _ ⟨reg [(0, pv 0 2), (1, iv k)], [cr (z4 2 (sv 3 0 n (n + m)) (sv 1 0 l.length c)), cw (zaX l ++ t), cr [], cr []]⟩
 refine zQ (zU (o_b 2 [(5, bv false), (4, pv 4 0)] [cr (z4 2 (sv 3 0 n (n + m)) (sv 1 0 l.length c)), cw (zaX l ++ t), cr [], cr [], cw (ntF 0 0 0 false false e0 zG)] (by kernel_rfl) (zF (zC (zQ (zQ (zU (o_d 3 [(9, bv (decide (k < 0))), (8, bv (decide (k < 0))), (7, iv k)] (by kernel_rfl) (zhN (b := decide (k < 0)) 9 rfl (fun h1 => ?_) (fun h1 => ?_))))))))))
 ·skip
  have h1' : k < 0 := of_decide_eq_true h1
  refine o_d 8 [(17, bv true), (16, undef), (15, undef), (14, undef), (13, undef), (12, undef), (11, undef), (10, undef)] (by kernel_rfl) (zF (zC (zd9 rfl (zQ (zU (o_b 1 [(6, pv 5 0)] [cr (z4 2 (sv 3 0 n (n + m)) (sv 1 0 l.length c)), cw (zaX l ++ t), cr [], cr [], cw (ntF 0 0 0 false false e0 zG), cw (ntF 0 0 0 false false e0 zG)] (by kernel_rfl) (zF (zC (zQ (zU (o_s (by refine zZ (v := ntV 0 0 0 false false e0 zG) rfl rfl ?_; exact zbu 0 0 0 false false e0 zG) ?_)))))))))))
  refine zde (by refine qP (c' := ntF 0 0 0 false false e0 zG) rfl rfl rfl ?_ ?_ ?_; exact z6 _ _ _ _ _ _ _; exact zcM (by omega); exact zbc) ?_
  refine o_d 1 [(5, bv false)] (by kernel_rfl) (zF (zC (zaZ ?_)))
  have hA : atS l k = (n0, false) := by unfold atS; rw [if_neg (by omega)]
  exact ⟨trivial, [ntV 0 0 0 false false e0 zG, bv false], (zaH rfl rfl (zbu 0 0 0 false false e0 zG) (qD rfl rfl)), (zV rfl (zV rfl qB)), (all_cons (zaU 0 0 0 false false e0 zG) (all_cons rfl rfl)), ⟨reg [], [cr (z4 2 (sv 3 0 n (n + m)) (sv 1 0 l.length c)), cw (zaX l ++ t), cr [], cr []]⟩, Wk.ren [0, 1, 2, 3] rfl rfl (by decide) trivial ⟨.inl (zam rfl rfl rfl), ⟨.inl (zR (zfC (zfP _) ht)), ⟨.inl rfl, ⟨.inl rfl, trivial⟩⟩⟩⟩, (by rw [hA]; rfl), rfl⟩
 have h1' : ¬ (k < 0) := of_decide_eq_false h1
 refine o_d 8 [(17, bv (decide (k ≥ (l.length : Nat)))), (16, bv (decide (k ≥ (l.length : Nat)))), (15, iv (l.length : Nat)), (14, sv 1 0 l.length c), (13, pv 0 2), (12, pv 0 2), (11, pv 0 2), (10, iv k)] (by kernel_rfl) (zF (zC (zad (t := decide (k ≥ (l.length : Nat))) rfl (fun h2 => ?_) (fun h2 => ?_))))
 ·skip
  have h2' : k ≥ (l.length : Nat) := of_decide_eq_true h2
  refine zQ (zU (o_b 1 [(6, pv 5 0)] [cr (z4 2 (sv 3 0 n (n + m)) (sv 1 0 l.length c)), cw (zaX l ++ t), cr [], cr [], cw (ntF 0 0 0 false false e0 zG), cw (ntF 0 0 0 false false e0 zG)] (by kernel_rfl) (zF (zC (zQ (zU (o_s (by refine zZ (v := ntV 0 0 0 false false e0 zG) rfl rfl ?_; exact zbu 0 0 0 false false e0 zG) ?_)))))))
  refine zde (by refine qP (c' := ntF 0 0 0 false false e0 zG) rfl rfl rfl ?_ ?_ ?_; exact z6 _ _ _ _ _ _ _; exact zcM (by omega); exact zbc) ?_
  refine o_d 1 [(5, bv false)] (by kernel_rfl) (zF (zC (zaZ ?_)))
  have hA : atS l k = (n0, false) := by unfold atS; rw [if_neg (by omega)]
  exact ⟨trivial, [ntV 0 0 0 false false e0 zG, bv false], (zaH rfl rfl (zbu 0 0 0 false false e0 zG) (qD rfl rfl)), (zV rfl (zV rfl qB)), (all_cons (zaU 0 0 0 false false e0 zG) (all_cons rfl rfl)), ⟨reg [], [cr (z4 2 (sv 3 0 n (n + m)) (sv 1 0 l.length c)), cw (zaX l ++ t), cr [], cr []]⟩, Wk.ren [0, 1, 2, 3] rfl rfl (by decide) trivial ⟨.inl (zam rfl rfl rfl), ⟨.inl (zR (zfC (zfP _) ht)), ⟨.inl rfl, ⟨.inl rfl, trivial⟩⟩⟩⟩, (by rw [hA]; rfl), rfl⟩
 have h2' : ¬ (k ≥ (l.length : Nat)) := of_decide_eq_false h2
 refine zar (zC (zQ (zU (o_d 5 [(23, iv k), (22, sv 1 0 l.length c), (21, pv 0 2), (20, pv 0 2), (19, pv 0 2)] (by kernel_rfl) (o_s (by exact zhT (o := 0) (o' := 342 * k.toNat) rfl rfl (by omega) (by omega)) ?_)))))
 refine o_s (by refine zZ (v := ntE (l.getD k.toNat n0)) rfl rfl ?_; exact nts_r2 (i := k.toNat) (j := 0) (by omega) (nts_get (by omega)) (nt_rL (zbu ((l.getD k.toNat n0).u) ((l.getD k.toNat n0).b) ((l.getD k.toNat n0).v) ((l.getD k.toNat n0).w) ((l.getD k.toNat n0).a) ((l.getD k.toNat n0).e) ((l.getD k.toNat n0).p)))) ?_
 refine zde (by refine qP (c' := ntL (l.getD k.toNat n0)) rfl rfl rfl ?_ ?_ ?_; exact z6 _ _ _ _ _ _ _; exact zcM (by omega); exact zbc) ?_
 refine o_b 1 [(5, bv true)] [cr (z4 2 (sv 3 0 n (n + m)) (sv 1 0 l.length c)), cw (zaX l ++ t), cr [], cr [], cw (ntL (l.getD k.toNat n0))] (by kernel_rfl) (zF (zY [(5, bv true), (4, pv 4 0)] (by kernel_rfl) (zaZ ?_)))
 have hA : atS l k = (l.getD k.toNat n0, true) := by unfold atS; rw [if_pos (by omega)]
 exact ⟨trivial, [ntE (l.getD k.toNat n0), bv true], (zaH rfl rfl (zbu ((l.getD k.toNat n0).u) ((l.getD k.toNat n0).b) ((l.getD k.toNat n0).v) ((l.getD k.toNat n0).w) ((l.getD k.toNat n0).a) ((l.getD k.toNat n0).e) ((l.getD k.toNat n0).p)) (qD rfl rfl)), (zV rfl (zV rfl qB)), (all_cons (zaU ((l.getD k.toNat n0).u) ((l.getD k.toNat n0).b) ((l.getD k.toNat n0).v) ((l.getD k.toNat n0).w) ((l.getD k.toNat n0).a) ((l.getD k.toNat n0).e) ((l.getD k.toNat n0).p)) (all_cons rfl rfl)), ⟨reg [], [cr (z4 2 (sv 3 0 n (n + m)) (sv 1 0 l.length c)), cw (zaX l ++ t), cr [], cr []]⟩, Wk.ren [0, 1, 2, 3] rfl rfl (by decide) trivial ⟨.inl (zam rfl rfl rfl), ⟨.inl (zR (zfC (zfP _) ht)), ⟨.inl rfl, ⟨.inl rfl, trivial⟩⟩⟩⟩, (by rw [hA]; rfl), rfl⟩
theorem atUC {P : Program} (hc : zag P) (n m i lw : Nat) (o : Gr) (u : Int) :
    Env P "(*roundhouse/yard.row[*roundhouse/yard.unit]).at" [pv 0 1, iv u] ([cr (z4 2 (sv 1 0 n (n + m)) (gV 3 lw o)), cr (za8 n (uf i 4 5) ++ zbn m), cr [], hidB o.isSome, cr [], cr [], cr [], cr [], cr [], cr [], cr [], cr [], cr [], cr [], cr [], cr [], cr [], cr [], cr [], cr [], cr []]) (fun v h' => v = (if 0 ≤ u ∧ u < n then .tuple #[pv (uf i 4 5 u.toNat) 0, bv true] else .tuple #[.pointer none, bv false]) ∧ h' = [cr (z4 2 (sv 1 0 n (n + m)) (gV 3 lw o)), cr (za8 n (uf i 4 5) ++ zbn m), cr [], hidB o.isSome, cr [], cr [], cr [], cr [], cr [], cr [], cr [], cr [], cr [], cr [], cr [], cr [], cr [], cr [], cr [], cr [], cr []]) := by
 refine Env.by2 hc ?_
 unfold zbL
 show GC _ 21 _ _ ⟨reg [(0, pv 0 1), (1, iv u)], [cr (z4 2 (sv 1 0 n (n + m)) (gV 3 lw o)), cr (za8 n (uf i 4 5) ++ zbn m), cr [], hidB o.isSome, cr [], cr [], cr [], cr [], cr [], cr [], cr [], cr [], cr [], cr [], cr [], cr [], cr [], cr [], cr [], cr [], cr []]⟩
 refine zQ (zU (o_d 2 [(5, bv false), (4, .pointer none)] (by kernel_rfl) (zF (zC (zQ (zQ (zU (o_d 3 [(9, bv (decide (u < 0))), (8, bv (decide (u < 0))), (7, iv u)] (by kernel_rfl) (zhN (b := decide (u < 0)) 9 rfl (fun h1 => ?_) (fun h1 => ?_))))))))))
 ·skip
  have h1' : u < 0 := of_decide_eq_true h1
  refine o_d 8 [(17, bv true), (16, undef), (15, undef), (14, undef), (13, undef), (12, undef), (11, undef), (10, undef)] (by kernel_rfl) (zF (zC (zd9 rfl (zQ (zU (o_d 1 [(6, .pointer none)] (by kernel_rfl) (zF (zC (zQ (zU (o_d 3 [(5, bv false), (4, .pointer none), (18, .pointer none)] (by kernel_rfl) (zF ?_))))))))))))
  exact zC (zaZ (⟨trivial, _, .inl rfl, [.pointer none, bv false], (qD rfl (qD rfl rfl)), (zV rfl (zV rfl qB)), (by rw [if_neg (by omega)]; rfl), rfl⟩))
 have h1' : ¬ (u < 0) := of_decide_eq_false h1
 refine o_d 8 [(17, bv (decide (u ≥ (n : Nat)))), (16, bv (decide (u ≥ (n : Nat)))), (15, iv (n : Nat)), (14, sv 1 0 n (n + m)), (13, pv 0 1), (12, pv 0 1), (11, pv 0 1), (10, iv u)] (by kernel_rfl) (zF (zC (zad (t := decide (u ≥ (n : Nat))) rfl (fun h2 => ?_) (fun h2 => ?_))))
 ·skip
  have h2' : u ≥ (n : Nat) := of_decide_eq_true h2
  exact zQ (zU (o_d 1 [(6, .pointer none)] (by kernel_rfl) (zF (zC (zQ (zU (o_d 3 [(5, bv false), (4, .pointer none), (18, .pointer none)] (by kernel_rfl) (zF (zC (zaZ (⟨trivial, _, .inl rfl, [.pointer none, bv false], (qD rfl (qD rfl rfl)), (zV rfl (zV rfl qB)), (by rw [if_neg (by omega)]; rfl), rfl⟩)))))))))))
 have h2' : ¬ (u ≥ (n : Nat)) := of_decide_eq_false h2
 refine zar (zC (zQ (zU (o_d 5 [(23, iv u), (22, sv 1 0 n (n + m)), (21, pv 0 1), (20, pv 0 1), (19, pv 0 1)] (by kernel_rfl) (o_s (by exact zhT (o := 0) (o' := u.toNat) rfl rfl (by omega) (by omega)) ?_)))))
 refine o_s (by refine zZ (v := pv (uf i 4 5 u.toNat) 0) rfl rfl ?_; exact ptrs_r (by omega)) ?_
 exact o_d 2 [(5, bv true), (4, pv (uf i 4 5 u.toNat) 0)] (by kernel_rfl) (zF (zY [(5, bv true), (4, pv (uf i 4 5 u.toNat) 0)] (by kernel_rfl) (zaZ (⟨trivial, _, .inl rfl, [pv (uf i 4 5 u.toNat) 0, bv true], (qD rfl (qD rfl rfl)), (zV rfl (zV rfl qB)), (by rw [if_pos (by omega)]; rfl), rfl⟩))))
end Go.Rh

set_option maxHeartbeats 8000000
namespace Go.Rh
theorem zfB {l : List Nt} {k : Int} (h : gOk l none) : (atS l k).2 = false := by
 have : l = [] := h
 subst this
 unfold atS; rw [if_neg (by simp)]
theorem atS_in {l : List Nt} {k : Int} (h : (atS l k).2 = true) : 0 ≤ k ∧ k < l.length := by
 unfold atS at h; split at h
 ·assumption
 ·cases h
def zez (l : List Nt) (k : Int) : List Nt := if (atS l k).2 = true then l.eraseIdx k.toNat else l
def ackS (x : HS) (l : List Nt) (k : Int) (keep : Bool) : HS × List Nt := if (atS l k).2 = true then (hearS x (atS l k).1, if keep = true then l else l.eraseIdx k.toNat) else (x, l)
theorem YNotesC {P : Program} (hc : zbi P) (n m : Nat) (l : List Nt) (o : Gr) (ho : gOk l o) :
    Env P "(*roundhouse/yard.Yard).Notes" [pv 0 0] ([cr (z4 1 (sv 2 0 n (n + m)) (gV 3 l.length o)), cr [], cr [], hidB o.isSome]) (fun v h' => v = iv (l.length : Nat) ∧ h' = [cr (z4 1 (sv 2 0 n (n + m)) (gV 3 l.length o)), cr [], cr [], hidB o.isSome]) := by
 refine Env.by2 hc ?_
 unfold zcb
 show GC _ 4 _ _ ⟨reg [(0, pv 0 0)], [cr (z4 1 (sv 2 0 n (n + m)) (gV 3 l.length o)), cr [], cr [], hidB o.isSome]⟩
 refine zQ (zU (o_d 1 [(2, iv 0)] (by kernel_rfl) (zF (zC (zQ (zU (o_d 5 [(7, gV 3 l.length o), (6, pv 0 2), (5, pv 0 2), (4, pv 0 0), (3, pv 0 0)] (by kernel_rfl) (o_s (by exact run_lenG (l := l) rfl ho) ?_))))))))
 exact o_d 1 [(2, iv (l.length : Nat))] (by kernel_rfl) (zF (zC (zaZ (⟨trivial, _, .inl rfl, [iv (l.length : Nat)], (qD rfl rfl), (zV rfl qB), rfl, rfl⟩))))
theorem YPoolC {P : Program} (hc : zcn P) (h_head_Head_Pool : zbQ P) (p : qJ) (w : List Ent) (hd : List (Int × Int)) (e : Ent) (b : Bool) (n m : Nat) (l : List Nt) (o : Gr) (ho : gOk l o) :
    Env P "(*roundhouse/yard.Yard).Pool" [pv 0 0] ([cw (z4 1 (sv 4 0 n (n + m)) (gV 5 l.length o)), cw (z5 p 2 3 e b), .chan 200 (w.map zap), .map (hdM hd), cr [], gB l o]) (fun v h' => v = qL p ∧ h' = [cw (z4 1 (sv 4 0 n (n + m)) (gV 5 l.length o)), cw (z5 p 2 3 e b), .chan 200 (w.map zap), .map (hdM hd), cr [], gB l o]) := by
 refine Env.by3 hc ?_
 unfold zdB
 show GC _ 6 _ _ ⟨reg [(0, pv 0 0)], [cw (z4 1 (sv 4 0 n (n + m)) (gV 5 l.length o)), cw (z5 p 2 3 e b), .chan 200 (w.map zap), .map (hdM hd), cr [], gB l o]⟩
 refine zQ (zU (o_b 1 [(2, pv 6 0)] [cw (z4 1 (sv 4 0 n (n + m)) (gV 5 l.length o)), cw (z5 p 2 3 e b), .chan 200 (w.map zap), .map (hdM hd), cr [], gB l o, cw (pl zG)] (by kernel_rfl) (zF (zC (zQ (zU (o_d 4 [(6, pv 1 0), (5, pv 0 0), (4, pv 0 0), (3, pv 0 0)] (by kernel_rfl) (zb8 (zdI [1, 2, 3] [cr (z5 p 1 2 e b), .chan 200 (w.map zap), .map (hdM hd)] [pv 0 0] (HPoolC h_head_Head_Pool p w hd e b) rfl rfl ⟨⟨_, rfl, qA (.inl (zdi rfl rfl (fun q => rfl)))⟩, ⟨⟨_, rfl, qA (.inl (zdj _))⟩, ⟨⟨_, rfl, qA (.inl (zef _))⟩, trivial⟩⟩⟩ (by decide) ?_)))))))))
 rintro v1 h1' ⟨rfl, rfl⟩
 refine ⟨(zA zE (zA zE (zA zE z9))), qL p, [cw (z4 1 (sv 4 0 n (n + m)) (gV 5 l.length o)), cw (z5 p 2 3 e b), .chan 200 (w.map zap), .map (hdM hd), cr [], gB l o, cw (pl zG)], [cw (pl p)], (qK (zaT p)), ⟨rfl, ⟨rfl, ⟨qC _, ⟨qR _, ⟨rfl, ⟨rfl, ⟨rfl, trivial⟩⟩⟩⟩⟩⟩⟩, ⟨(Option.some.inj (zR (zaI p))).symm, trivial⟩, ?_⟩
 refine zde (by refine qP (c' := pl p) rfl rfl rfl ?_ ?_ ?_; exact zM _; exact zce (by omega); exact qT zG p) ?_
 exact zF (zC (zaZ (⟨trivial, [qL p], (zaH rfl rfl (zau p) rfl), (zV rfl qB), zaT p, ⟨reg [], [cw (z4 1 (sv 4 0 n (n + m)) (gV 5 l.length o)), cw (z5 p 2 3 e b), .chan 200 (w.map zap), .map (hdM hd), cr [], gB l o]⟩, Wk.ren [0, 1, 2, 3, 4, 5] rfl rfl (by decide) trivial ⟨.inl (zam rfl rfl (zaa o rfl)), ⟨.inl (qG rfl rfl), ⟨.inl (congrArg some (qC _).symm), ⟨.inl (congrArg some (qR _).symm), ⟨.inl rfl, ⟨.inl (congrArg some (qX ho).symm), trivial⟩⟩⟩⟩⟩⟩, rfl, rfl⟩)))
theorem YNotesAC {P : Program} (hc : zbi P) (p : qJ) (w : List Ent) (hd : List (Int × Int)) (e : Ent) (b : Bool) (n m : Nat) (l : List Nt) (o : Gr) (ho : gOk l o) :
    Env P "(*roundhouse/yard.Yard).Notes" [pv 0 0] ([cw (z4 1 (sv 4 0 n (n + m)) (gV 5 l.length o)), cw (z5 p 2 3 e b), .chan 200 (w.map zap), .map (hdM hd), cr [], gB l o]) (fun v h' => v = iv (l.length : Nat) ∧ h' = [cw (z4 1 (sv 4 0 n (n + m)) (gV 5 l.length o)), cw (z5 p 2 3 e b), .chan 200 (w.map zap), .map (hdM hd), cr [], gB l o]) := by
 refine Env.by2 hc ?_
 unfold zcb
 show GC _ 6 _ _ ⟨reg [(0, pv 0 0)], [cw (z4 1 (sv 4 0 n (n + m)) (gV 5 l.length o)), cw (z5 p 2 3 e b), .chan 200 (w.map zap), .map (hdM hd), cr [], gB l o]⟩
 refine zQ (zU (o_d 1 [(2, iv 0)] (by kernel_rfl) (zF (zC (zQ (zU (o_d 5 [(7, gV 5 l.length o), (6, pv 0 2), (5, pv 0 2), (4, pv 0 0), (3, pv 0 0)] (by kernel_rfl) (o_s (by exact run_lenG (l := l) rfl ho) ?_))))))))
 exact o_d 1 [(2, iv (l.length : Nat))] (by kernel_rfl) (zF (zC (zaZ (⟨trivial, _, .inl rfl, [iv (l.length : Nat)], (qD rfl rfl), (zV rfl qB), rfl, rfl⟩))))
theorem YTickC {P : Program} (hc : zcm P) (h_head_Head_Send : zbP P) (h_head_Head_all : zbD P) (h_head_Head_publish : za4 P) (h_pool_Apply : zbv P) (h_pool_may : zbr P) (h_pool_held : zbm P) (h_pool_fits : zbx P) (h_pool_Check : zbf P) (h_pool_placed : zaV P) (h_cookie_Next : za7 P) (h_yard_row_head_Note_put : zaC P) (h_yard_Yard_Notes : zbi P) (p : qJ) (w : List Ent) (hd : List (Int × Int)) (e : Ent) (b : Bool) (n m : Nat) (l : List Nt) (o : Gr) (ho : gOk l o) (hl : l.length ≤ 900000) (hh : hd.length ≤ 1000) :
    Env P "(*roundhouse/yard.Yard).Tick" [pv 0 0] ([cw (z4 1 (sv 4 0 n (n + m)) (gV 5 l.length o)), cw (z5 p 2 3 e b), .chan 200 (w.map zap), .map (hdM hd), cr [], gB l o]) (fun v h' => v = iv ((l ++ (zak (HS.mk p w hd e b)).2).length : Nat) ∧ PA n m o (zak (HS.mk p w hd e b)).1 (l ++ (zak (HS.mk p w hd e b)).2) h') := by
 refine Env.by3 hc ?_
 unfold zdA
 show GC _ 6 _ _ ⟨reg [(0, pv 0 0)], [cw (z4 1 (sv 4 0 n (n + m)) (gV 5 l.length o)), cw (z5 p 2 3 e b), .chan 200 (w.map zap), .map (hdM hd), cr [], gB l o]⟩
 refine zQ (zU (o_d 1 [(2, iv 0)] (by kernel_rfl) (zF (zC (zQ (zbE [cw (z4 1 (sv 4 0 n (n + m)) (gV 5 l.length o)), cw (z5 p 2 3 e b), .chan 200 (w.map zap), .map (hdM hd), cr [], gB l o] (by kernel_rfl) (d_n 7 7 6 [(9, pv 1 0), (8, pv 0 0), (7, pv 0 0), (6, pv 0 0), (5, pv 0 2), (4, pv 0 0), (3, pv 0 0)] [cw (z4 1 (sv 4 0 n (n + m)) (gV 5 l.length o)), cw (z5 p 2 3 e b), .chan 200 (w.map zap), .map (hdM hd), cr [], gB l o] [⟨6, [0], [], none⟩] (by kernel_rfl) rfl rfl (zgl [1, 2, 3] [cw (z5 p 1 2 e b), .chan 200 (w.map zap), .map (hdM hd)] [pv 0 0] (HsendC h_head_Head_Send h_head_Head_all h_head_Head_publish h_pool_Apply h_pool_may h_pool_held h_pool_fits h_pool_Check h_pool_placed h_cookie_Next p w hd e b (by omega)) rfl rfl ⟨⟨_, rfl, qA (.inl (zdi rfl rfl (fun q => rfl)))⟩, ⟨⟨_, rfl, qA (.inl (zdj _))⟩, ⟨⟨_, rfl, qA (.inl (zef _))⟩, trivial⟩⟩⟩ (by decide) (by exact ⟨_, _, ⟨some 0, (fun z => by cases z), rfl, rfl⟩, Nat.le_add_right 3 1, flags_of31⟩) ?_ (by kernel_rfl)))))))))
 rintro v1 h1' ⟨q1, hq2, rfl, rfl⟩
 refine ⟨(zA qI (zA (fun h => by cases h) (zA zE z9))), slV 6 ((zak (HS.mk p w hd e b)).2.length) q1, [cw (z4 1 (sv 4 0 n (n + m)) (gV 5 l.length o)), cw (z5 ((zak (HS.mk p w hd e b)).1.p) 2 3 ((zak (HS.mk p w hd e b)).1.e) ((zak (HS.mk p w hd e b)).1.s)), .chan 200 (((zak (HS.mk p w hd e b)).1.w).map zap), .map (hdM hd), cr [], gB l o], [slB zNt (zaX ((zak (HS.mk p w hd e b)).2)) q1], (zbt q1 rfl), ⟨rfl, ⟨zcK rfl rfl, ⟨qC _, ⟨qR _, ⟨rfl, ⟨rfl, trivial⟩⟩⟩⟩⟩⟩, ⟨(Option.some.inj (zaM q1 (fun _ => (zcl _ _)))).symm, trivial⟩, ?_⟩
 refine d_clHW [0, 5, 6] [0, 5, 6, 1, 4] [cw (z4 3 (sv 4 0 n (n + m)) (gV 1 l.length o)), gB l o, slB zNt (zaX ((zak (HS.mk p w hd e b)).2)) q1, cr [], cr []] [pv 0 2, slV 2 ((zak (HS.mk p w hd e b)).2.length) q1] (putNC h_yard_row_head_Note_put l ((zak (HS.mk p w hd e b)).2) o q1 n m ho hq2 (by have := sendS_len (x := HS.mk p w hd e b); simp only [] at this; omega)) (wr_put ..) rfl (zaG rfl (zaG (zbt q1 rfl) rfl)) ⟨⟨_, rfl, qA (.inl (zaE rfl rfl (zaa o rfl) (fun q => rfl)))⟩, ⟨⟨_, rfl, zcd ho⟩, ⟨⟨_, rfl, qA (sees_slB q1 (fun _ => (zcl _ _)))⟩, ⟨⟨_, rfl, zK⟩, ⟨⟨_, rfl, zK⟩, trivial⟩⟩⟩⟩⟩ (by decide) (zim l ((zak (HS.mk p w hd e b)).2) o q1 n m) ?_ (by kernel_rfl)
 rintro v1 h1' ⟨rfl, o3, g5, ⟨s4, rfl⟩ | ⟨s4, rfl⟩⟩
 ·skip
  refine ⟨(zA qI (zA (zfV s4) (zA zE (zA zE (zA zE z9))))), .tuple #[], [cw (z4 1 (sv 4 0 n (n + m)) (gV 5 ((l ++ ((zak (HS.mk p w hd e b)).2)).length) o3)), cw (z5 ((zak (HS.mk p w hd e b)).1.p) 2 3 ((zak (HS.mk p w hd e b)).1.e) ((zak (HS.mk p w hd e b)).1.s)), .chan 200 (((zak (HS.mk p w hd e b)).1.w).map zap), .map (hdM hd), cr [], gB (l ++ ((zak (HS.mk p w hd e b)).2)) o3, slB zNt (zaX ((zak (HS.mk p w hd e b)).2)) q1], [], (by simp [zbw]), ⟨zaB rfl rfl (zaa o3 rfl), ⟨rfl, ⟨rfl, ⟨rfl, ⟨(by cases true <;> rfl), ⟨(by cases o3 with | none => rfl | some y9 => exact qX g5), ⟨(by rcases q1 with _ | m9 <;> first | rfl | exact zbC (zcl _ _)), trivial⟩⟩⟩⟩⟩⟩⟩, trivial, ?_⟩
  refine zcf (zC (zQ (zU (o_d 1 [(12, pv 0 0)] (by kernel_rfl) (zb8 (zdI [0, 1, 4, 5] [cr (z4 1 (sv 2 0 n (n + m)) (gV 3 ((l ++ ((zak (HS.mk p w hd e b)).2)).length) o3)), cr [], cr [], hidB o3.isSome] [pv 0 0] (YNotesC h_yard_Yard_Notes n m (l ++ ((zak (HS.mk p w hd e b)).2)) o3 g5) rfl rfl ⟨⟨_, rfl, qA (.inl (zaE rfl rfl (zaa o3 rfl) (fun q => rfl)))⟩, ⟨⟨_, rfl, zK⟩, ⟨⟨_, rfl, zK⟩, ⟨⟨_, rfl, zer o3⟩, trivial⟩⟩⟩⟩ (by decide) ?_))))))
  rintro v1 h1' ⟨rfl, rfl⟩
  refine ⟨(zA zE (zA zE (zA zE (zA zE z9)))), iv ((l ++ ((zak (HS.mk p w hd e b)).2)).length : Nat), [cw (z4 1 (sv 4 0 n (n + m)) (gV 5 ((l ++ ((zak (HS.mk p w hd e b)).2)).length) o3)), cw (z5 ((zak (HS.mk p w hd e b)).1.p) 2 3 ((zak (HS.mk p w hd e b)).1.e) ((zak (HS.mk p w hd e b)).1.s)), .chan 200 (((zak (HS.mk p w hd e b)).1.w).map zap), .map (hdM hd), cr [], gB (l ++ ((zak (HS.mk p w hd e b)).2)) o3, slB zNt (zaX ((zak (HS.mk p w hd e b)).2)) q1], [], rfl, ⟨rfl, ⟨rfl, ⟨rfl, ⟨rfl, ⟨(by cases true <;> rfl), ⟨(by cases o3 <;> rfl), ⟨rfl, trivial⟩⟩⟩⟩⟩⟩⟩, trivial, ?_⟩
  exact o_d 1 [(2, iv ((l ++ ((zak (HS.mk p w hd e b)).2)).length : Nat))] (by kernel_rfl) (zF (zC (zaZ (⟨trivial, [iv ((l ++ ((zak (HS.mk p w hd e b)).2)).length : Nat)], (qD rfl rfl), (zV rfl qB), rfl, ⟨reg [], [cw (z4 1 (sv 4 0 n (n + m)) (gV 5 ((l ++ ((zak (HS.mk p w hd e b)).2)).length) o3)), cw (z5 ((zak (HS.mk p w hd e b)).1.p) 2 3 ((zak (HS.mk p w hd e b)).1.e) ((zak (HS.mk p w hd e b)).1.s)), .chan 200 (((zak (HS.mk p w hd e b)).1.w).map zap), .map (hdM hd), cr [], gB (l ++ ((zak (HS.mk p w hd e b)).2)) o3]⟩, Wk.ren [0, 1, 2, 3, 4, 5] rfl rfl (by decide) trivial ⟨.inl (zam rfl rfl (zaa o3 rfl)), ⟨.inl (qG rfl rfl), ⟨.inl (congrArg some (qC _).symm), ⟨.inl (congrArg some (qR _).symm), ⟨.inl rfl, ⟨.inl (congrArg some (qX g5).symm), trivial⟩⟩⟩⟩⟩⟩, rfl, ⟨o3, _, 5, [], g5, (fun z => zfV (l := l) s4 (by subst z; rfl)), .inl ⟨rfl, rfl, rfl⟩, (by have h9 := sendS_hd (HS.mk p w hd e b); unfold laA; rw [h9]; first | done | rfl)⟩⟩))))
 refine ⟨(zA qI (zA zE (zA zE (zA zE (zA zE z9))))), .tuple #[], [cw (z4 1 (sv 4 0 n (n + m)) (gV 7 ((l ++ ((zak (HS.mk p w hd e b)).2)).length) o3)), cw (z5 ((zak (HS.mk p w hd e b)).1.p) 2 3 ((zak (HS.mk p w hd e b)).1.e) ((zak (HS.mk p w hd e b)).1.s)), .chan 200 (((zak (HS.mk p w hd e b)).1.w).map zap), .map (hdM hd), cr [], gB l o, slB zNt (zaX ((zak (HS.mk p w hd e b)).2)) q1], [gB (l ++ ((zak (HS.mk p w hd e b)).2)) o3], (by simp [zbw]), ⟨zaB rfl rfl (zaa o3 rfl), ⟨rfl, ⟨rfl, ⟨rfl, ⟨(by cases true <;> rfl), ⟨(by cases o with | none => rfl | some y9 => exact qX ho), ⟨(by rcases q1 with _ | m9 <;> first | rfl | exact zbC (zcl _ _)), trivial⟩⟩⟩⟩⟩⟩⟩, ⟨(qX g5), trivial⟩, ?_⟩
 refine zcf (zC (zQ (zU (o_d 1 [(12, pv 0 0)] (by kernel_rfl) (zb8 (zdI [0, 1, 4, 7] [cr (z4 1 (sv 2 0 n (n + m)) (gV 3 ((l ++ ((zak (HS.mk p w hd e b)).2)).length) o3)), cr [], cr [], hidB o3.isSome] [pv 0 0] (YNotesC h_yard_Yard_Notes n m (l ++ ((zak (HS.mk p w hd e b)).2)) o3 g5) rfl rfl ⟨⟨_, rfl, qA (.inl (zaE rfl rfl (zaa o3 rfl) (fun q => rfl)))⟩, ⟨⟨_, rfl, zK⟩, ⟨⟨_, rfl, zK⟩, ⟨⟨_, rfl, zer o3⟩, trivial⟩⟩⟩⟩ (by decide) ?_))))))
 rintro v1 h1' ⟨rfl, rfl⟩
 refine ⟨(zA zE (zA zE (zA zE (zA zE z9)))), iv ((l ++ ((zak (HS.mk p w hd e b)).2)).length : Nat), [cw (z4 1 (sv 4 0 n (n + m)) (gV 7 ((l ++ ((zak (HS.mk p w hd e b)).2)).length) o3)), cw (z5 ((zak (HS.mk p w hd e b)).1.p) 2 3 ((zak (HS.mk p w hd e b)).1.e) ((zak (HS.mk p w hd e b)).1.s)), .chan 200 (((zak (HS.mk p w hd e b)).1.w).map zap), .map (hdM hd), cr [], gB l o, slB zNt (zaX ((zak (HS.mk p w hd e b)).2)) q1, gB (l ++ ((zak (HS.mk p w hd e b)).2)) o3], [], rfl, ⟨rfl, ⟨rfl, ⟨rfl, ⟨rfl, ⟨(by cases true <;> rfl), ⟨rfl, ⟨rfl, ⟨(by cases o3 <;> rfl), trivial⟩⟩⟩⟩⟩⟩⟩⟩, trivial, ?_⟩
 exact o_d 1 [(2, iv ((l ++ ((zak (HS.mk p w hd e b)).2)).length : Nat))] (by kernel_rfl) (zF (zC (zaZ (⟨trivial, [iv ((l ++ ((zak (HS.mk p w hd e b)).2)).length : Nat)], (qD rfl rfl), (zV rfl qB), rfl, ⟨reg [], [cw (z4 1 (sv 4 0 n (n + m)) (gV 6 ((l ++ ((zak (HS.mk p w hd e b)).2)).length) o3)), cw (z5 ((zak (HS.mk p w hd e b)).1.p) 2 3 ((zak (HS.mk p w hd e b)).1.e) ((zak (HS.mk p w hd e b)).1.s)), .chan 200 (((zak (HS.mk p w hd e b)).1.w).map zap), .map (hdM hd), cr [], gB l o, gB (l ++ ((zak (HS.mk p w hd e b)).2)) o3]⟩, Wk.ren [0, 1, 2, 3, 4, 5, 7] rfl rfl (by decide) trivial ⟨.inl (zam rfl rfl (zaa o3 rfl)), ⟨.inl (qG rfl rfl), ⟨.inl (congrArg some (qC _).symm), ⟨.inl (congrArg some (qR _).symm), ⟨.inl rfl, ⟨.inl (congrArg some (qX ho).symm), ⟨.inl (congrArg some (qX g5).symm), trivial⟩⟩⟩⟩⟩⟩⟩, rfl, ⟨o3, gB l o, 6, _, g5, (fun z => by subst z; rfl), .inr ⟨rfl, rfl⟩, (by have h9 := sendS_hd (HS.mk p w hd e b); unfold laA; rw [h9]; first | done | rfl)⟩⟩))))
theorem YLoseC {P : Program} (hc : zco P) (h_yard_row_head_Note_at : zah P) (h_yard_row_head_Note_drop : zai P) (p : qJ) (w : List Ent) (hd : List (Int × Int)) (e : Ent) (b : Bool) (n m : Nat) (l : List Nt) (o : Gr) (ho : gOk l o) (hl : l.length ≤ 900000) (k : Int) :
    Env P "(*roundhouse/yard.Yard).Lose" [pv 0 0, iv k] ([cw (z4 1 (sv 4 0 n (n + m)) (gV 5 l.length o)), cw (z5 p 2 3 e b), .chan 200 (w.map zap), .map (hdM hd), cr [], gB l o]) (fun v h' => v = bv (atS l k).2 ∧ PA n m o (HS.mk p w hd e b) (zez l k) h') := by
 refine Env.by3 hc ?_
 unfold zdC
 show GC _ 6 _ _ ⟨reg [(0, pv 0 0), (1, iv k)], [cw (z4 1 (sv 4 0 n (n + m)) (gV 5 l.length o)), cw (z5 p 2 3 e b), .chan 200 (w.map zap), .map (hdM hd), cr [], gB l o]⟩
 refine zQ (zU (o_d 1 [(4, bv false)] (by kernel_rfl) (zF (zC (zQ (zU (o_d 4 [(11, iv k), (10, pv 0 2), (9, pv 0 0), (8, pv 0 0)] (by kernel_rfl) ?_)))))))
 rcases o with _ | ⟨c, t⟩
 ·skip
  refine zb8 (zdI [0, 5, 1, 4] [cr (z4 2 (sv 3 0 n (n + m)) (gV 1 l.length none)), gB l none, cr [], cr []] [pv 0 2, iv k] (atN0C h_yard_row_head_Note_at n m k l ho) rfl rfl ⟨⟨_, rfl, qA (.inl (zaE rfl rfl (zaa none rfl) (fun q => rfl)))⟩, ⟨⟨_, rfl, zcd ho⟩, ⟨⟨_, rfl, zK⟩, ⟨⟨_, rfl, zK⟩, trivial⟩⟩⟩⟩ (by decide) ?_)
  rintro v1 h1' ⟨rfl, rfl⟩
  refine ⟨(zA zE (zA zE (zA zE (zA zE z9)))), .tuple #[ntE ((atS l k).1), bv ((atS l k).2)], [cw (z4 1 (sv 4 0 n (n + m)) (gV 5 l.length none)), cw (z5 p 2 3 e b), .chan 200 (w.map zap), .map (hdM hd), cr [], gB l none], [], (qK (all_cons (zaU ((atS l k).1.u) ((atS l k).1.b) ((atS l k).1.v) ((atS l k).1.w) ((atS l k).1.a) ((atS l k).1.e) ((atS l k).1.p)) (all_cons rfl rfl))), ⟨rfl, ⟨rfl, ⟨rfl, ⟨rfl, ⟨(by cases true <;> rfl), ⟨(by cases none with | none => rfl | some y9 => exact qX ho), trivial⟩⟩⟩⟩⟩⟩, trivial, ?_⟩
  refine o_b 4 [(5, pv 6 0), (14, bv ((atS l k).2)), (13, ntE ((atS l k).1)), (7, .tuple #[ntE ((atS l k).1), bv ((atS l k).2)])] [cw (z4 1 (sv 4 0 n (n + m)) (gV 5 l.length none)), cw (z5 p 2 3 e b), .chan 200 (w.map zap), .map (hdM hd), cr [], gB l none, cw (ntF 0 0 0 false false e0 zG)] (by kernel_rfl) (zde (by refine qP (c' := ntL ((atS l k).1)) rfl rfl rfl ?_ ?_ ?_; exact z6 _ _ _ _ _ _ _; exact zcM (by omega); exact zbc) ?_)
  refine o_b 1 [(6, bv ((atS l k).2))] [cw (z4 1 (sv 4 0 n (n + m)) (gV 5 l.length none)), cw (z5 p 2 3 e b), .chan 200 (w.map zap), .map (hdM hd), cr [], gB l none, cw (ntL ((atS l k).1))] (by kernel_rfl) (zF (zC (zQ (zQ (zU (o_d 1 [(15, bv ((atS l k).2))] (by kernel_rfl) (zF (zC (zad (t := (atS l k).2) rfl (fun q => by rw [(zfB ho : ((atS l k).2) = false)] at q; cases q) (fun _ => ?_))))))))))
  exact zar (zC (zQ (zU (o_d 2 [(4, bv ((atS l k).2)), (21, bv ((atS l k).2))] (by kernel_rfl) (zF (zC (zaZ (⟨trivial, [bv ((atS l k).2)], (qD rfl rfl), (zV rfl qB), rfl, ⟨reg [], [cw (z4 1 (sv 4 0 n (n + m)) (gV 5 l.length none)), cw (z5 p 2 3 e b), .chan 200 (w.map zap), .map (hdM hd), cr [], gB l none]⟩, Wk.ren [0, 1, 2, 3, 4, 5] rfl rfl (by decide) trivial ⟨.inl (zam rfl rfl (zaa none rfl)), ⟨.inl (qG rfl rfl), ⟨.inl (congrArg some (qC _).symm), ⟨.inl (congrArg some (qR _).symm), ⟨.inl rfl, ⟨.inl (congrArg some (qX ho).symm), trivial⟩⟩⟩⟩⟩⟩, rfl, (by rw [show zez l k = l from by simp [zez, zfB ho]]; exact ⟨none, _, 5, [], ho, (fun z => rfl), .inl ⟨rfl, rfl, rfl⟩, rfl⟩)⟩))))))))
 refine zb8 (zdI [0, 5, 1, 4] [cr (z4 2 (sv 3 0 n (n + m)) (gV 1 l.length (some (c, t)))), gB l (some (c, t)), cr [], cr []] [pv 0 2, iv k] (atN1C h_yard_row_head_Note_at n m k l c t ho.1 ho.2.2) rfl rfl ⟨⟨_, rfl, qA (.inl (zaE rfl rfl (zaa (some (c, t)) rfl) (fun q => rfl)))⟩, ⟨⟨_, rfl, zcd ho⟩, ⟨⟨_, rfl, zK⟩, ⟨⟨_, rfl, zK⟩, trivial⟩⟩⟩⟩ (by decide) ?_)
 rintro v1 h1' ⟨rfl, rfl⟩
 refine ⟨(zA zE (zA zE (zA zE (zA zE z9)))), .tuple #[ntE ((atS l k).1), bv ((atS l k).2)], [cw (z4 1 (sv 4 0 n (n + m)) (gV 5 l.length (some (c, t)))), cw (z5 p 2 3 e b), .chan 200 (w.map zap), .map (hdM hd), cr [], gB l (some (c, t))], [], (qK (all_cons (zaU ((atS l k).1.u) ((atS l k).1.b) ((atS l k).1.v) ((atS l k).1.w) ((atS l k).1.a) ((atS l k).1.e) ((atS l k).1.p)) (all_cons rfl rfl))), ⟨rfl, ⟨rfl, ⟨rfl, ⟨rfl, ⟨(by cases true <;> rfl), ⟨qX ho, trivial⟩⟩⟩⟩⟩⟩, trivial, ?_⟩
 refine o_b 4 [(5, pv 6 0), (14, bv ((atS l k).2)), (13, ntE ((atS l k).1)), (7, .tuple #[ntE ((atS l k).1), bv ((atS l k).2)])] [cw (z4 1 (sv 4 0 n (n + m)) (gV 5 l.length (some (c, t)))), cw (z5 p 2 3 e b), .chan 200 (w.map zap), .map (hdM hd), cr [], gB l (some (c, t)), cw (ntF 0 0 0 false false e0 zG)] (by kernel_rfl) (zde (by refine qP (c' := ntL ((atS l k).1)) rfl rfl rfl ?_ ?_ ?_; exact z6 _ _ _ _ _ _ _; exact zcM (by omega); exact zbc) ?_)
 refine o_b 1 [(6, bv ((atS l k).2))] [cw (z4 1 (sv 4 0 n (n + m)) (gV 5 l.length (some (c, t)))), cw (z5 p 2 3 e b), .chan 200 (w.map zap), .map (hdM hd), cr [], gB l (some (c, t)), cw (ntL ((atS l k).1))] (by kernel_rfl) (zF (zC (zQ (zQ (zU (o_d 1 [(15, bv ((atS l k).2))] (by kernel_rfl) (zF (zC (zad (t := (atS l k).2) rfl (fun h1 => ?_) (fun h1 => ?_))))))))))
 ·skip
  have hin : 0 ≤ k ∧ k < l.length := atS_in (by assumption)
  refine zU (o_d 4 [(19, iv k), (18, pv 0 2), (17, pv 0 0), (16, pv 0 0)] (by kernel_rfl) (zb8 (zdI [0, 5, 1, 4] [cw (z4 2 (sv 3 0 n (n + m)) (gV 1 l.length (some (c, t)))), gB l (some (c, t)), cr [], cr []] [pv 0 2, iv k] (dropNC h_yard_row_head_Note_drop l (some (c, t)) k n m ho (hin) (by omega)) rfl rfl ⟨⟨_, rfl, qA (.inl (zaE rfl rfl (zaa (some (c, t)) rfl) (fun q => rfl)))⟩, ⟨⟨_, rfl, zcd ho⟩, ⟨⟨_, rfl, zK⟩, ⟨⟨_, rfl, zK⟩, trivial⟩⟩⟩⟩ (by decide) ?_)))
  rintro v1 h1' ⟨rfl, o2, s3, g4, z7⟩
  rcases o2 with _ | ⟨c5, t6⟩
  ·cases s3
  rcases z7 with rfl | rfl
  ·skip
   refine ⟨(zA qI (zA (fun h => by cases h) (zA zE (zA zE z9)))), .tuple #[], [cw (z4 1 (sv 4 0 n (n + m)) (gV 5 ((l.eraseIdx k.toNat).length) (some (c5, t6)))), cw (z5 p 2 3 e b), .chan 200 (w.map zap), .map (hdM hd), cr [], gB (l.eraseIdx k.toNat) (some (c5, t6)), cw (ntL ((atS l k).1))], [], (by simp [zbw]), ⟨zaB rfl rfl (zaa (some (c5, t6)) rfl), ⟨rfl, ⟨rfl, ⟨rfl, ⟨(by cases true <;> rfl), ⟨qX g4, ⟨rfl, trivial⟩⟩⟩⟩⟩⟩⟩, trivial, ?_⟩
   exact zF (zC (zQ (zU (o_d 2 [(4, bv ((atS l k).2)), (21, bv ((atS l k).2))] (by kernel_rfl) (zF (zC (zaZ (⟨trivial, [bv ((atS l k).2)], (qD rfl rfl), (zV rfl qB), rfl, ⟨reg [], [cw (z4 1 (sv 4 0 n (n + m)) (gV 5 ((l.eraseIdx k.toNat).length) (some (c5, t6)))), cw (z5 p 2 3 e b), .chan 200 (w.map zap), .map (hdM hd), cr [], gB (l.eraseIdx k.toNat) (some (c5, t6))]⟩, Wk.ren [0, 1, 2, 3, 4, 5] rfl rfl (by decide) trivial ⟨.inl (zam rfl rfl (zaa (some (c5, t6)) rfl)), ⟨.inl (qG rfl rfl), ⟨.inl (congrArg some (qC _).symm), ⟨.inl (congrArg some (qR _).symm), ⟨.inl rfl, ⟨.inl (congrArg some (qX g4).symm), trivial⟩⟩⟩⟩⟩⟩, rfl, (by rw [show zez l k = (l.eraseIdx k.toNat) from by simp [zez, h1, if_true]]; exact ⟨some (c5, t6), _, 5, [], g4, (fun z => by cases z), .inl ⟨rfl, rfl, rfl⟩, rfl⟩)⟩))))))))
  refine ⟨(zA qI (zA zE (zA zE (zA zE z9)))), .tuple #[], [cw (z4 1 (sv 4 0 n (n + m)) (gV 7 ((l.eraseIdx k.toNat).length) (some (c5, t6)))), cw (z5 p 2 3 e b), .chan 200 (w.map zap), .map (hdM hd), cr [], gB l (some (c, t)), cw (ntL ((atS l k).1))], [gB (l.eraseIdx k.toNat) (some (c5, t6))], (by simp [zbw]), ⟨zaB rfl rfl (zaa (some (c5, t6)) rfl), ⟨rfl, ⟨rfl, ⟨rfl, ⟨(by cases true <;> rfl), ⟨qX ho, ⟨rfl, trivial⟩⟩⟩⟩⟩⟩⟩, ⟨(qX g4), trivial⟩, ?_⟩
  exact zF (zC (zQ (zU (o_d 2 [(4, bv ((atS l k).2)), (21, bv ((atS l k).2))] (by kernel_rfl) (zF (zC (zaZ (⟨trivial, [bv ((atS l k).2)], (qD rfl rfl), (zV rfl qB), rfl, ⟨reg [], [cw (z4 1 (sv 4 0 n (n + m)) (gV 6 ((l.eraseIdx k.toNat).length) (some (c5, t6)))), cw (z5 p 2 3 e b), .chan 200 (w.map zap), .map (hdM hd), cr [], gB l (some (c, t)), gB (l.eraseIdx k.toNat) (some (c5, t6))]⟩, Wk.ren [0, 1, 2, 3, 4, 5, 7] rfl rfl (by decide) trivial ⟨.inl (zam rfl rfl (zaa (some (c5, t6)) rfl)), ⟨.inl (qG rfl rfl), ⟨.inl (congrArg some (qC _).symm), ⟨.inl (congrArg some (qR _).symm), ⟨.inl rfl, ⟨.inl (congrArg some (qX ho).symm), ⟨.inl (congrArg some (qX g4).symm), trivial⟩⟩⟩⟩⟩⟩⟩, rfl, (by rw [show zez l k = (l.eraseIdx k.toNat) from by simp [zez, h1, if_true]]; exact ⟨some (c5, t6), gB l (some (c, t)), 6, _, g4, (fun z => by cases z), .inr ⟨rfl, rfl⟩, rfl⟩)⟩))))))))
 exact zar (zC (zQ (zU (o_d 2 [(4, bv ((atS l k).2)), (21, bv ((atS l k).2))] (by kernel_rfl) (zF (zC (zaZ (⟨trivial, [bv ((atS l k).2)], (qD rfl rfl), (zV rfl qB), rfl, ⟨reg [], [cw (z4 1 (sv 4 0 n (n + m)) (gV 5 l.length (some (c, t)))), cw (z5 p 2 3 e b), .chan 200 (w.map zap), .map (hdM hd), cr [], gB l (some (c, t))]⟩, Wk.ren [0, 1, 2, 3, 4, 5] rfl rfl (by decide) trivial ⟨.inl (zam rfl rfl (zaa (some (c, t)) rfl)), ⟨.inl (qG rfl rfl), ⟨.inl (congrArg some (qC _).symm), ⟨.inl (congrArg some (qR _).symm), ⟨.inl rfl, ⟨.inl (congrArg some (qX ho).symm), trivial⟩⟩⟩⟩⟩⟩, rfl, (by rw [show zez l k = l from by simp [zez, h1, if_true]]; exact ⟨some (c, t), _, 5, [], ho, (fun z => by cases z), .inl ⟨rfl, rfl, rfl⟩, rfl⟩)⟩))))))))
theorem YDeliverAC {P : Program} (hc : zbk P) (h_yard_row_head_Note_at : zah P) (h_yard_row_head_Note_drop : zai P) (h_head_Head_Heard : zbj P) (p : qJ) (w : List Ent) (hd : List (Int × Int)) (e : Ent) (b : Bool) (n m : Nat) (l : List Nt) (o : Gr) (ho : gOk l o) (hl : l.length ≤ 900000) (k : Int) (keep : Bool) (hack : (atS l k).2 = true → (atS l k).1.a = true) :
    Env P "(*roundhouse/yard.Yard).Deliver" [pv 0 0, iv k, bv keep] ([cw (z4 1 (sv 4 0 n (n + m)) (gV 5 l.length o)), cw (z5 p 2 3 e b), .chan 200 (w.map zap), .map (hdM hd), cr [], gB l o]) (fun v h' => v = bv (atS l k).2 ∧ PA n m o (ackS (HS.mk p w hd e b) l k keep).1 (ackS (HS.mk p w hd e b) l k keep).2 h') := by
 refine Env.by3 hc ?_
 unfold zbM
 show GC _ 6 _ _ ⟨reg [(0, pv 0 0), (1, iv k), (2, bv keep)], [cw (z4 1 (sv 4 0 n (n + m)) (gV 5 l.length o)), cw (z5 p 2 3 e b), .chan 200 (w.map zap), .map (hdM hd), cr [], gB l o]⟩
 refine zQ (zU (o_d 1 [(6, bv false)] (by kernel_rfl) (zF (zC (zQ (zU (o_d 4 [(17, iv k), (16, pv 0 2), (15, pv 0 0), (14, pv 0 0)] (by kernel_rfl) ?_)))))))
 rcases o with _ | ⟨c, t⟩
 ·skip
  refine zb8 (zdI [0, 5, 1, 4] [cr (z4 2 (sv 3 0 n (n + m)) (gV 1 l.length none)), gB l none, cr [], cr []] [pv 0 2, iv k] (atN0C h_yard_row_head_Note_at n m k l ho) rfl rfl ⟨⟨_, rfl, qA (.inl (zaE rfl rfl (zaa none rfl) (fun q => rfl)))⟩, ⟨⟨_, rfl, zcd ho⟩, ⟨⟨_, rfl, zK⟩, ⟨⟨_, rfl, zK⟩, trivial⟩⟩⟩⟩ (by decide) ?_)
  rintro v1 h1' ⟨rfl, rfl⟩
  refine ⟨(zA zE (zA zE (zA zE (zA zE z9)))), .tuple #[ntE ((atS l k).1), bv ((atS l k).2)], [cw (z4 1 (sv 4 0 n (n + m)) (gV 5 l.length none)), cw (z5 p 2 3 e b), .chan 200 (w.map zap), .map (hdM hd), cr [], gB l none], [], (qK (all_cons (zaU ((atS l k).1.u) ((atS l k).1.b) ((atS l k).1.v) ((atS l k).1.w) ((atS l k).1.a) ((atS l k).1.e) ((atS l k).1.p)) (all_cons rfl rfl))), ⟨rfl, ⟨rfl, ⟨rfl, ⟨rfl, ⟨(by cases true <;> rfl), ⟨(by cases none with | none => rfl | some y9 => exact qX ho), trivial⟩⟩⟩⟩⟩⟩, trivial, ?_⟩
  refine o_b 4 [(7, pv 6 0), (20, bv ((atS l k).2)), (19, ntE ((atS l k).1)), (13, .tuple #[ntE ((atS l k).1), bv ((atS l k).2)])] [cw (z4 1 (sv 4 0 n (n + m)) (gV 5 l.length none)), cw (z5 p 2 3 e b), .chan 200 (w.map zap), .map (hdM hd), cr [], gB l none, cw (ntF 0 0 0 false false e0 zG)] (by kernel_rfl) (zde (by refine qP (c' := ntL ((atS l k).1)) rfl rfl rfl ?_ ?_ ?_; exact z6 _ _ _ _ _ _ _; exact zcM (by omega); exact zbc) ?_)
  refine o_b 1 [(8, bv ((atS l k).2))] [cw (z4 1 (sv 4 0 n (n + m)) (gV 5 l.length none)), cw (z5 p 2 3 e b), .chan 200 (w.map zap), .map (hdM hd), cr [], gB l none, cw (ntL ((atS l k).1))] (by kernel_rfl) (zF (zC (zQ (zQ (zU (o_d 2 [(22, bv (!((atS l k).2))), (21, bv ((atS l k).2))] (by kernel_rfl) (zF (zC (zad (t := !((atS l k).2)) rfl (fun _ => ?_) (fun q => by rw [(by rw [zfB ho]; rfl : (!((atS l k).2)) = true)] at q; cases q))))))))))
  exact zQ (zU (o_d 1 [(6, bv false)] (by kernel_rfl) (zF (zC (zaZ (⟨trivial, [bv false], (qD rfl rfl), (zV rfl qB), rfl, ⟨reg [], [cw (z4 1 (sv 4 0 n (n + m)) (gV 5 l.length none)), cw (z5 p 2 3 e b), .chan 200 (w.map zap), .map (hdM hd), cr [], gB l none]⟩, Wk.ren [0, 1, 2, 3, 4, 5] rfl rfl (by decide) trivial ⟨.inl (zam rfl rfl (zaa none rfl)), ⟨.inl (qG rfl rfl), ⟨.inl (congrArg some (qC _).symm), ⟨.inl (congrArg some (qR _).symm), ⟨.inl rfl, ⟨.inl (congrArg some (qX ho).symm), trivial⟩⟩⟩⟩⟩⟩, (by simp [one, zfB ho]), (by rw [show ackS (HS.mk p w hd e b) l k keep = (HS.mk p w hd e b, l) from by simp [ackS, hearS, zfB ho]]; exact ⟨none, _, 5, [], ho, (fun z => rfl), .inl ⟨rfl, rfl, rfl⟩, rfl⟩)⟩))))))
 refine zb8 (zdI [0, 5, 1, 4] [cr (z4 2 (sv 3 0 n (n + m)) (gV 1 l.length (some (c, t)))), gB l (some (c, t)), cr [], cr []] [pv 0 2, iv k] (atN1C h_yard_row_head_Note_at n m k l c t ho.1 ho.2.2) rfl rfl ⟨⟨_, rfl, qA (.inl (zaE rfl rfl (zaa (some (c, t)) rfl) (fun q => rfl)))⟩, ⟨⟨_, rfl, zcd ho⟩, ⟨⟨_, rfl, zK⟩, ⟨⟨_, rfl, zK⟩, trivial⟩⟩⟩⟩ (by decide) ?_)
 rintro v1 h1' ⟨rfl, rfl⟩
 refine ⟨(zA zE (zA zE (zA zE (zA zE z9)))), .tuple #[ntE ((atS l k).1), bv ((atS l k).2)], [cw (z4 1 (sv 4 0 n (n + m)) (gV 5 l.length (some (c, t)))), cw (z5 p 2 3 e b), .chan 200 (w.map zap), .map (hdM hd), cr [], gB l (some (c, t))], [], (qK (all_cons (zaU ((atS l k).1.u) ((atS l k).1.b) ((atS l k).1.v) ((atS l k).1.w) ((atS l k).1.a) ((atS l k).1.e) ((atS l k).1.p)) (all_cons rfl rfl))), ⟨rfl, ⟨rfl, ⟨rfl, ⟨rfl, ⟨(by cases true <;> rfl), ⟨qX ho, trivial⟩⟩⟩⟩⟩⟩, trivial, ?_⟩
 refine o_b 4 [(7, pv 6 0), (20, bv ((atS l k).2)), (19, ntE ((atS l k).1)), (13, .tuple #[ntE ((atS l k).1), bv ((atS l k).2)])] [cw (z4 1 (sv 4 0 n (n + m)) (gV 5 l.length (some (c, t)))), cw (z5 p 2 3 e b), .chan 200 (w.map zap), .map (hdM hd), cr [], gB l (some (c, t)), cw (ntF 0 0 0 false false e0 zG)] (by kernel_rfl) (zde (by refine qP (c' := ntL ((atS l k).1)) rfl rfl rfl ?_ ?_ ?_; exact z6 _ _ _ _ _ _ _; exact zcM (by omega); exact zbc) ?_)
 refine o_b 1 [(8, bv ((atS l k).2))] [cw (z4 1 (sv 4 0 n (n + m)) (gV 5 l.length (some (c, t)))), cw (z5 p 2 3 e b), .chan 200 (w.map zap), .map (hdM hd), cr [], gB l (some (c, t)), cw (ntL ((atS l k).1))] (by kernel_rfl) (zF (zC (zQ (zQ (zU (o_d 2 [(22, bv (!((atS l k).2))), (21, bv ((atS l k).2))] (by kernel_rfl) (zF (zC (zad (t := !((atS l k).2)) rfl (fun h1 => ?_) (fun h1 => ?_))))))))))
 ·skip
  have h2 : ((atS l k).2) = false := not_t h1
  exact zQ (zU (o_d 1 [(6, bv false)] (by kernel_rfl) (zF (zC (zaZ (⟨trivial, [bv false], (qD rfl rfl), (zV rfl qB), rfl, ⟨reg [], [cw (z4 1 (sv 4 0 n (n + m)) (gV 5 l.length (some (c, t)))), cw (z5 p 2 3 e b), .chan 200 (w.map zap), .map (hdM hd), cr [], gB l (some (c, t))]⟩, Wk.ren [0, 1, 2, 3, 4, 5] rfl rfl (by decide) trivial ⟨.inl (zam rfl rfl (zaa (some (c, t)) rfl)), ⟨.inl (qG rfl rfl), ⟨.inl (congrArg some (qC _).symm), ⟨.inl (congrArg some (qR _).symm), ⟨.inl rfl, ⟨.inl (congrArg some (qX ho).symm), trivial⟩⟩⟩⟩⟩⟩, (by simp [one, h1, h2, if_true]), (by rw [show ackS (HS.mk p w hd e b) l k keep = (HS.mk p w hd e b, l) from by simp [ackS, hearS, h1, h2, if_true]]; exact ⟨some (c, t), _, 5, [], ho, (fun z => by cases z), .inl ⟨rfl, rfl, rfl⟩, rfl⟩)⟩))))))
 have h3 : ((atS l k).2) = true := not_f h1
 have hin : 0 ≤ k ∧ k < l.length := atS_in (by simp_all)
 refine zar (zC (zQ (zQ (zU (o_d 2 [(24, bv (!keep)), (23, bv keep)] (by kernel_rfl) (zF (zC (zad (t := !keep) rfl (fun h4 => ?_) (fun h4 => ?_)))))))))
 ·skip
  have h5 : keep = false := not_t h4
  refine zU (o_d 4 [(28, iv k), (27, pv 0 2), (26, pv 0 0), (25, pv 0 0)] (by kernel_rfl) (zb8 (zdI [0, 5, 1, 4] [cw (z4 2 (sv 3 0 n (n + m)) (gV 1 l.length (some (c, t)))), gB l (some (c, t)), cr [], cr []] [pv 0 2, iv k] (dropNC h_yard_row_head_Note_drop l (some (c, t)) k n m ho (hin) (by omega)) rfl rfl ⟨⟨_, rfl, qA (.inl (zaE rfl rfl (zaa (some (c, t)) rfl) (fun q => rfl)))⟩, ⟨⟨_, rfl, zcd ho⟩, ⟨⟨_, rfl, zK⟩, ⟨⟨_, rfl, zK⟩, trivial⟩⟩⟩⟩ (by decide) ?_)))
  rintro v1 h1' ⟨rfl, o6, s7, g8, z11⟩
  rcases o6 with _ | ⟨c9, t10⟩
  ·cases s7
  rcases z11 with rfl | rfl
  ·skip
   refine ⟨(zA qI (zA (fun h => by cases h) (zA zE (zA zE z9)))), .tuple #[], [cw (z4 1 (sv 4 0 n (n + m)) (gV 5 ((l.eraseIdx k.toNat).length) (some (c9, t10)))), cw (z5 p 2 3 e b), .chan 200 (w.map zap), .map (hdM hd), cr [], gB (l.eraseIdx k.toNat) (some (c9, t10)), cw (ntL ((atS l k).1))], [], (by simp [zbw]), ⟨zaB rfl rfl (zaa (some (c9, t10)) rfl), ⟨rfl, ⟨rfl, ⟨rfl, ⟨(by cases true <;> rfl), ⟨qX g8, ⟨rfl, trivial⟩⟩⟩⟩⟩⟩⟩, trivial, ?_⟩
   refine zF (zY [(7, pv 6 0), (0, pv 0 0)] (by kernel_rfl) (zQ (zQ (zU (o_d 1 [(30, pv 6 4)] (by kernel_rfl) (o_s (by refine zZ (v := bv ((atS l k).1.a)) rfl rfl ?_; exact zdu rfl) ?_))))))
   refine zF (zC (zad (t := (atS l k).1.a) rfl (fun _ => ?_) (fun q => by rw [(hack (by simp_all) : ((atS l k).1.a) = true)] at q; cases q)))
   refine zQ (zbE [cw (z4 1 (sv 4 0 n (n + m)) (gV 5 ((l.eraseIdx k.toNat).length) (some (c9, t10)))), cw (z5 p 2 3 e b), .chan 200 (w.map zap), .map (hdM hd), cr [], gB (l.eraseIdx k.toNat) (some (c9, t10)), cw (ntL ((atS l k).1))] (by kernel_rfl) (d_n 4 4 7 [(35, pv 1 0), (34, pv 0 0), (33, pv 0 0), (32, pv 0 0)] [cw (z4 1 (sv 4 0 n (n + m)) (gV 5 ((l.eraseIdx k.toNat).length) (some (c9, t10)))), cw (z5 p 2 3 e b), .chan 200 (w.map zap), .map (hdM hd), cr [], gB (l.eraseIdx k.toNat) (some (c9, t10)), cw (ntL ((atS l k).1))] [⟨3, [0], [], none⟩] (by kernel_rfl) rfl rfl (d_s rfl rfl rfl (by kernel_rfl) (by refine zZ (v := ntE ((atS l k).1)) rfl rfl ?_; exact zbu ((atS l k).1.u) ((atS l k).1.b) ((atS l k).1.v) ((atS l k).1.w) ((atS l k).1.a) ((atS l k).1.e) ((atS l k).1.p)) ?_)))
   refine zgl [1, 2, 3] [cw (z5 p 1 2 e b), .chan 200 (w.map zap), .map (hdM hd)] [pv 0 0, ntE ((atS l k).1)] (HheardC h_head_Head_Heard p w hd e b ((atS l k).1.u) ((atS l k).1.b) ((atS l k).1.v) ((atS l k).1.w) ((atS l k).1.a) ((atS l k).1.e) ((atS l k).1.p)) rfl (zaG rfl (zaG (qK (ntV_vpf ((atS l k).1.u) ((atS l k).1.b) ((atS l k).1.v) ((atS l k).1.w) ((atS l k).1.a) ((atS l k).1.e) ((atS l k).1.p))) rfl)) ⟨⟨_, rfl, qA (.inl (zdi rfl rfl (fun q => rfl)))⟩, ⟨⟨_, rfl, qA (.inl (zdj _))⟩, ⟨⟨_, rfl, qA (.inl (zef _))⟩, trivial⟩⟩⟩ (by decide) ⟨_, _, ⟨rfl, rfl⟩, Nat.le_refl _, ziy⟩ ?_ (by kernel_rfl)
   rintro v1 h1' ⟨rfl, rfl⟩
   refine ⟨(zA zE (zA zE (zA (fun h => by cases h) z9))), .tuple #[], [cw (z4 1 (sv 4 0 n (n + m)) (gV 5 ((l.eraseIdx k.toNat).length) (some (c9, t10)))), cw (z5 p 2 3 e b), .chan 200 (w.map zap), .map (hdM (zcc hd (atS l k).1)), cr [], gB (l.eraseIdx k.toNat) (some (c9, t10)), cw (ntL ((atS l k).1))], [], (by simp [zbw]), ⟨rfl, ⟨zcK rfl rfl, ⟨qC _, ⟨qR _, ⟨rfl, ⟨rfl, ⟨rfl, trivial⟩⟩⟩⟩⟩⟩⟩, trivial, ?_⟩
   exact zcf (zC (zQ (zU (o_d 1 [(6, bv true)] (by kernel_rfl) (zF (zC (zaZ (⟨trivial, [bv true], (qD rfl rfl), (zV rfl qB), rfl, ⟨reg [], [cw (z4 1 (sv 4 0 n (n + m)) (gV 5 ((l.eraseIdx k.toNat).length) (some (c9, t10)))), cw (z5 p 2 3 e b), .chan 200 (w.map zap), .map (hdM (zcc hd (atS l k).1)), cr [], gB (l.eraseIdx k.toNat) (some (c9, t10))]⟩, Wk.ren [0, 1, 2, 3, 4, 5] rfl rfl (by decide) trivial ⟨.inl (zam rfl rfl (zaa (some (c9, t10)) rfl)), ⟨.inl (qG rfl rfl), ⟨.inl (congrArg some (qC _).symm), ⟨.inl (congrArg some (qR _).symm), ⟨.inl rfl, ⟨.inl (congrArg some (qX g8).symm), trivial⟩⟩⟩⟩⟩⟩, (by simp [one, h1, h3, h4, h5, if_true]), (by rw [show ackS (HS.mk p w hd e b) l k keep = (HS.mk p w (zcc hd (atS l k).1) e b, (l.eraseIdx k.toNat)) from by simp [ackS, hearS, h1, h3, h4, h5, if_true]]; exact ⟨some (c9, t10), _, 5, [], g8, (fun z => by cases z), .inl ⟨rfl, rfl, rfl⟩, rfl⟩)⟩))))))))
  refine ⟨(zA qI (zA zE (zA zE (zA zE z9)))), .tuple #[], [cw (z4 1 (sv 4 0 n (n + m)) (gV 7 ((l.eraseIdx k.toNat).length) (some (c9, t10)))), cw (z5 p 2 3 e b), .chan 200 (w.map zap), .map (hdM hd), cr [], gB l (some (c, t)), cw (ntL ((atS l k).1))], [gB (l.eraseIdx k.toNat) (some (c9, t10))], (by simp [zbw]), ⟨zaB rfl rfl (zaa (some (c9, t10)) rfl), ⟨rfl, ⟨rfl, ⟨rfl, ⟨(by cases true <;> rfl), ⟨qX ho, ⟨rfl, trivial⟩⟩⟩⟩⟩⟩⟩, ⟨(qX g8), trivial⟩, ?_⟩
  refine zF (zY [(7, pv 6 0), (0, pv 0 0)] (by kernel_rfl) (zQ (zQ (zU (o_d 1 [(30, pv 6 4)] (by kernel_rfl) (o_s (by refine zZ (v := bv ((atS l k).1.a)) rfl rfl ?_; exact zdu rfl) ?_))))))
  refine zF (zC (zad (t := (atS l k).1.a) rfl (fun _ => ?_) (fun q => by rw [(hack (by simp_all) : ((atS l k).1.a) = true)] at q; cases q)))
  refine zQ (zbE [cw (z4 1 (sv 4 0 n (n + m)) (gV 7 ((l.eraseIdx k.toNat).length) (some (c9, t10)))), cw (z5 p 2 3 e b), .chan 200 (w.map zap), .map (hdM hd), cr [], gB l (some (c, t)), cw (ntL ((atS l k).1)), gB (l.eraseIdx k.toNat) (some (c9, t10))] (by kernel_rfl) (d_n 4 4 8 [(35, pv 1 0), (34, pv 0 0), (33, pv 0 0), (32, pv 0 0)] [cw (z4 1 (sv 4 0 n (n + m)) (gV 7 ((l.eraseIdx k.toNat).length) (some (c9, t10)))), cw (z5 p 2 3 e b), .chan 200 (w.map zap), .map (hdM hd), cr [], gB l (some (c, t)), cw (ntL ((atS l k).1)), gB (l.eraseIdx k.toNat) (some (c9, t10))] [⟨3, [0], [], none⟩] (by kernel_rfl) rfl rfl (d_s rfl rfl rfl (by kernel_rfl) (by refine zZ (v := ntE ((atS l k).1)) rfl rfl ?_; exact zbu ((atS l k).1.u) ((atS l k).1.b) ((atS l k).1.v) ((atS l k).1.w) ((atS l k).1.a) ((atS l k).1.e) ((atS l k).1.p)) ?_)))
  refine zgl [1, 2, 3] [cw (z5 p 1 2 e b), .chan 200 (w.map zap), .map (hdM hd)] [pv 0 0, ntE ((atS l k).1)] (HheardC h_head_Head_Heard p w hd e b ((atS l k).1.u) ((atS l k).1.b) ((atS l k).1.v) ((atS l k).1.w) ((atS l k).1.a) ((atS l k).1.e) ((atS l k).1.p)) rfl (zaG rfl (zaG (qK (ntV_vpf ((atS l k).1.u) ((atS l k).1.b) ((atS l k).1.v) ((atS l k).1.w) ((atS l k).1.a) ((atS l k).1.e) ((atS l k).1.p))) rfl)) ⟨⟨_, rfl, qA (.inl (zdi rfl rfl (fun q => rfl)))⟩, ⟨⟨_, rfl, qA (.inl (zdj _))⟩, ⟨⟨_, rfl, qA (.inl (zef _))⟩, trivial⟩⟩⟩ (by decide) ⟨_, _, ⟨rfl, rfl⟩, Nat.le_refl _, ziy⟩ ?_ (by kernel_rfl)
  rintro v1 h1' ⟨rfl, rfl⟩
  refine ⟨(zA zE (zA zE (zA (fun h => by cases h) z9))), .tuple #[], [cw (z4 1 (sv 4 0 n (n + m)) (gV 7 ((l.eraseIdx k.toNat).length) (some (c9, t10)))), cw (z5 p 2 3 e b), .chan 200 (w.map zap), .map (hdM (zcc hd (atS l k).1)), cr [], gB l (some (c, t)), cw (ntL ((atS l k).1)), gB (l.eraseIdx k.toNat) (some (c9, t10))], [], (by simp [zbw]), ⟨rfl, ⟨zcK rfl rfl, ⟨qC _, ⟨qR _, ⟨rfl, ⟨rfl, ⟨rfl, ⟨rfl, trivial⟩⟩⟩⟩⟩⟩⟩⟩, trivial, ?_⟩
  exact zcf (zC (zQ (zU (o_d 1 [(6, bv true)] (by kernel_rfl) (zF (zC (zaZ (⟨trivial, [bv true], (qD rfl rfl), (zV rfl qB), rfl, ⟨reg [], [cw (z4 1 (sv 4 0 n (n + m)) (gV 6 ((l.eraseIdx k.toNat).length) (some (c9, t10)))), cw (z5 p 2 3 e b), .chan 200 (w.map zap), .map (hdM (zcc hd (atS l k).1)), cr [], gB l (some (c, t)), gB (l.eraseIdx k.toNat) (some (c9, t10))]⟩, Wk.ren [0, 1, 2, 3, 4, 5, 7] rfl rfl (by decide) trivial ⟨.inl (zam rfl rfl (zaa (some (c9, t10)) rfl)), ⟨.inl (qG rfl rfl), ⟨.inl (congrArg some (qC _).symm), ⟨.inl (congrArg some (qR _).symm), ⟨.inl rfl, ⟨.inl (congrArg some (qX ho).symm), ⟨.inl (congrArg some (qX g8).symm), trivial⟩⟩⟩⟩⟩⟩⟩, (by simp [one, h1, h3, h4, h5, if_true]), (by rw [show ackS (HS.mk p w hd e b) l k keep = (HS.mk p w (zcc hd (atS l k).1) e b, (l.eraseIdx k.toNat)) from by simp [ackS, hearS, h1, h3, h4, h5, if_true]]; exact ⟨some (c9, t10), gB l (some (c, t)), 6, _, g8, (fun z => by cases z), .inr ⟨rfl, rfl⟩, rfl⟩)⟩))))))))
 have h12 : keep = true := not_f h4
 refine zar (zC (zQ (zQ (zU (o_d 1 [(30, pv 6 4)] (by kernel_rfl) (o_s (by refine zZ (v := bv ((atS l k).1.a)) rfl rfl ?_; exact zdu rfl) ?_))))))
 refine zF (zC (zad (t := (atS l k).1.a) rfl (fun _ => ?_) (fun q => by rw [(hack (by simp_all) : ((atS l k).1.a) = true)] at q; cases q)))
 refine zQ (zbE [cw (z4 1 (sv 4 0 n (n + m)) (gV 5 l.length (some (c, t)))), cw (z5 p 2 3 e b), .chan 200 (w.map zap), .map (hdM hd), cr [], gB l (some (c, t)), cw (ntL ((atS l k).1))] (by kernel_rfl) (d_n 4 4 7 [(35, pv 1 0), (34, pv 0 0), (33, pv 0 0), (32, pv 0 0)] [cw (z4 1 (sv 4 0 n (n + m)) (gV 5 l.length (some (c, t)))), cw (z5 p 2 3 e b), .chan 200 (w.map zap), .map (hdM hd), cr [], gB l (some (c, t)), cw (ntL ((atS l k).1))] [⟨3, [0], [], none⟩] (by kernel_rfl) rfl rfl (d_s rfl rfl rfl (by kernel_rfl) (by refine zZ (v := ntE ((atS l k).1)) rfl rfl ?_; exact zbu ((atS l k).1.u) ((atS l k).1.b) ((atS l k).1.v) ((atS l k).1.w) ((atS l k).1.a) ((atS l k).1.e) ((atS l k).1.p)) ?_)))
 refine zgl [1, 2, 3] [cw (z5 p 1 2 e b), .chan 200 (w.map zap), .map (hdM hd)] [pv 0 0, ntE ((atS l k).1)] (HheardC h_head_Head_Heard p w hd e b ((atS l k).1.u) ((atS l k).1.b) ((atS l k).1.v) ((atS l k).1.w) ((atS l k).1.a) ((atS l k).1.e) ((atS l k).1.p)) rfl (zaG rfl (zaG (qK (ntV_vpf ((atS l k).1.u) ((atS l k).1.b) ((atS l k).1.v) ((atS l k).1.w) ((atS l k).1.a) ((atS l k).1.e) ((atS l k).1.p))) rfl)) ⟨⟨_, rfl, qA (.inl (zdi rfl rfl (fun q => rfl)))⟩, ⟨⟨_, rfl, qA (.inl (zdj _))⟩, ⟨⟨_, rfl, qA (.inl (zef _))⟩, trivial⟩⟩⟩ (by decide) ⟨_, _, ⟨rfl, rfl⟩, Nat.le_refl _, ziy⟩ ?_ (by kernel_rfl)
 rintro v1 h1' ⟨rfl, rfl⟩
 refine ⟨(zA zE (zA zE (zA (fun h => by cases h) z9))), .tuple #[], [cw (z4 1 (sv 4 0 n (n + m)) (gV 5 l.length (some (c, t)))), cw (z5 p 2 3 e b), .chan 200 (w.map zap), .map (hdM (zcc hd (atS l k).1)), cr [], gB l (some (c, t)), cw (ntL ((atS l k).1))], [], (by simp [zbw]), ⟨rfl, ⟨zcK rfl rfl, ⟨qC _, ⟨qR _, ⟨rfl, ⟨rfl, ⟨rfl, trivial⟩⟩⟩⟩⟩⟩⟩, trivial, ?_⟩
 exact zcf (zY [] (by kernel_rfl) (zQ (zU (o_d 1 [(6, bv true)] (by kernel_rfl) (zF (zC (zaZ (⟨trivial, [bv true], (qD rfl rfl), (zV rfl qB), rfl, ⟨reg [], [cw (z4 1 (sv 4 0 n (n + m)) (gV 5 l.length (some (c, t)))), cw (z5 p 2 3 e b), .chan 200 (w.map zap), .map (hdM (zcc hd (atS l k).1)), cr [], gB l (some (c, t))]⟩, Wk.ren [0, 1, 2, 3, 4, 5] rfl rfl (by decide) trivial ⟨.inl (zam rfl rfl (zaa (some (c, t)) rfl)), ⟨.inl (qG rfl rfl), ⟨.inl (congrArg some (qC _).symm), ⟨.inl (congrArg some (qR _).symm), ⟨.inl rfl, ⟨.inl (congrArg some (qX ho).symm), trivial⟩⟩⟩⟩⟩⟩, (by simp [one, h1, h3, h4, h12, if_true]), (by rw [show ackS (HS.mk p w hd e b) l k keep = (HS.mk p w (zcc hd (atS l k).1) e b, l) from by simp [ackS, hearS, h1, h3, h4, h12, if_true]]; exact ⟨some (c, t), _, 5, [], ho, (fun z => by cases z), .inl ⟨rfl, rfl, rfl⟩, rfl⟩)⟩))))))))
end Go.Rh

set_option maxHeartbeats 8000000
namespace Go.Rh
theorem atU1C {P : Program} (hc : zag P) (n m i lw : Nat) (o : Gr) (u : Int) (hu : u = (i : Nat)) (hi : i < n) :
  Env P "(*roundhouse/yard.row[*roundhouse/yard.unit]).at" [pv 0 1, iv u] ([cr (z4 2 (sv 1 0 n (n + m)) (gV 3 lw o)), cr (za8 n (uf i 4 5) ++ zbn m), cr [], hidB o.isSome, cr [], cr [], cr [], cr [], cr [], cr [], cr [], cr [], cr [], cr [], cr [], cr [], cr [], cr [], cr [], cr [], cr []]) (fun v h' => v = .tuple #[pv 4 0, bv true] ∧ h' = [cr (z4 2 (sv 1 0 n (n + m)) (gV 3 lw o)), cr (za8 n (uf i 4 5) ++ zbn m), cr [], hidB o.isSome, cr [], cr [], cr [], cr [], cr [], cr [], cr [], cr [], cr [], cr [], cr [], cr [], cr [], cr [], cr [], cr [], cr []]) := by
 have h := atUC hc n m i lw o u
 have e : (if 0 ≤ u ∧ u < (n : Nat) then Value.tuple #[pv (uf i 4 5 u.toNat) 0, bv true] else .tuple #[.pointer none, bv false]) = .tuple #[pv 4 0, bv true] := by
  rw [if_pos ⟨by omega, by omega⟩, show u.toNat = i by omega, uf_at]
 rw [e] at h; exact h
theorem atU0C {P : Program} (hc : zag P) (n m i lw : Nat) (o : Gr) (u : Int) (hu : ¬ (0 ≤ u ∧ u < (n : Nat))) :
  Env P "(*roundhouse/yard.row[*roundhouse/yard.unit]).at" [pv 0 1, iv u] ([cr (z4 2 (sv 1 0 n (n + m)) (gV 3 lw o)), cr (za8 n (uf i 4 5) ++ zbn m), cr [], hidB o.isSome, cr [], cr [], cr [], cr [], cr [], cr [], cr [], cr [], cr [], cr [], cr [], cr [], cr [], cr [], cr [], cr [], cr []]) (fun v h' => v = .tuple #[.pointer none, bv false] ∧ h' = [cr (z4 2 (sv 1 0 n (n + m)) (gV 3 lw o)), cr (za8 n (uf i 4 5) ++ zbn m), cr [], hidB o.isSome, cr [], cr [], cr [], cr [], cr [], cr [], cr [], cr [], cr [], cr [], cr [], cr [], cr [], cr [], cr [], cr [], cr []]) := by
 have h := atUC hc n m i lw o u
 have e : (if 0 ≤ u ∧ u < (n : Nat) then Value.tuple #[pv (uf i 4 5 u.toNat) 0, bv true] else .tuple #[.pointer none, bv false]) = .tuple #[.pointer none, bv false] := if_neg hu
 rw [e] at h; exact h
theorem YVersionC {P : Program} (hc : zbK P) (h_yard_row_yard_unit_at : zag P) (h_plane_Plane_Version : zas P) (n m i : Nat) (hn16 : n ≤ 16) (hi : i < n) (l : List Nt) (o : Gr) (ho : gOk l o) (p : qJ) (is : Bool) (nr : Nat → Int × Bool) (b : Int) (q : Option Nat) (u : Int) (hui : 0 ≤ u ∧ u < (n : Nat) → u = (i : Nat)) :
    Env P "(*roundhouse/yard.Yard).Version" [pv 0 0, iv u] ([cw (z4 1 (sv 2 0 n (n + m)) (gV 7 l.length o)), cr [], cr (za8 n (uf i 3 8) ++ zbn m), cw (z8 4 p b 5), cw (zL p is nr (slV 6 127 q)), .chan 1 (([] : List Nt).map ntE), cr [], gB l o, cr [], cr [], cr [], cr [], cr [], cr [], cr [], cr [], cr [], cr [], cr [], cr [], cr [], cr [], cr [], cr []]) (fun v h' => v = (if 0 ≤ u ∧ u < (n : Nat) then .tuple #[iv (p 0), bv is] else .tuple #[iv 0, bv false]) ∧ h' = [cw (z4 1 (sv 2 0 n (n + m)) (gV 7 l.length o)), cr [], cr (za8 n (uf i 3 8) ++ zbn m), cw (z8 4 p b 5), cw (zL p is nr (slV 6 127 q)), .chan 1 (([] : List Nt).map ntE), cr [], gB l o, cr [], cr [], cr [], cr [], cr [], cr [], cr [], cr [], cr [], cr [], cr [], cr [], cr [], cr [], cr [], cr []]) := by
 refine Env.by2 hc ?_
 unfold zcu
 show GC _ 24 _ _ ⟨reg [(0, pv 0 0), (1, iv u)], [cw (z4 1 (sv 2 0 n (n + m)) (gV 7 l.length o)), cr [], cr (za8 n (uf i 3 8) ++ zbn m), cw (z8 4 p b 5), cw (zL p is nr (slV 6 127 q)), .chan 1 (([] : List Nt).map ntE), cr [], gB l o, cr [], cr [], cr [], cr [], cr [], cr [], cr [], cr [], cr [], cr [], cr [], cr [], cr [], cr [], cr [], cr []]⟩
 refine zQ (zU (o_d 2 [(5, bv false), (4, iv 0)] (by kernel_rfl) (zF (zC (zQ (zU (o_d 4 [(12, iv u), (11, pv 0 1), (10, pv 0 0), (9, pv 0 0)] (by kernel_rfl) ?_)))))))
 by_cases hu : 0 ≤ u ∧ u < (n : Nat)
 ·skip
  have hui := hui hu
  refine zb8 (zdI [0, 2, 1, 7, 3, 8, 9, 10, 11, 12, 13, 14, 15, 16, 17, 18, 19, 20, 21, 22, 23] [cr (z4 2 (sv 1 0 n (n + m)) (gV 3 l.length o)), cr (za8 n (uf i 4 5) ++ zbn m), cr [], hidB o.isSome, cr [], cr [], cr [], cr [], cr [], cr [], cr [], cr [], cr [], cr [], cr [], cr [], cr [], cr [], cr [], cr [], cr []] [pv 0 1, iv u] (atU1C h_yard_row_yard_unit_at n m i l.length o u hui hi) rfl rfl ⟨⟨_, rfl, qA (.inl (zaE rfl rfl (zaa o rfl) (fun q => rfl)))⟩, ⟨⟨_, rfl, qA (.inl (zgI rfl (h16 rfl) hn16 (fun q => q)))⟩, ⟨⟨_, rfl, zK⟩, ⟨⟨_, rfl, zer o⟩, ⟨⟨_, rfl, zK⟩, ⟨⟨_, rfl, zK⟩, ⟨⟨_, rfl, zK⟩, ⟨⟨_, rfl, zK⟩, ⟨⟨_, rfl, zK⟩, ⟨⟨_, rfl, zK⟩, ⟨⟨_, rfl, zK⟩, ⟨⟨_, rfl, zK⟩, ⟨⟨_, rfl, zK⟩, ⟨⟨_, rfl, zK⟩, ⟨⟨_, rfl, zK⟩, ⟨⟨_, rfl, zK⟩, ⟨⟨_, rfl, zK⟩, ⟨⟨_, rfl, zK⟩, ⟨⟨_, rfl, zK⟩, ⟨⟨_, rfl, zK⟩, ⟨⟨_, rfl, zK⟩, trivial⟩⟩⟩⟩⟩⟩⟩⟩⟩⟩⟩⟩⟩⟩⟩⟩⟩⟩⟩⟩⟩ (by decide) ?_)
  rintro v1 h1' ⟨rfl, rfl⟩
  refine ⟨(zA zE (zA zE (zA zE (zA zE (zA zE (zA zE (zA zE (zA zE (zA zE (zA zE (zA zE (zA zE (zA zE (zA zE (zA zE (zA zE (zA zE (zA zE (zA zE (zA zE (zA zE z9))))))))))))))))))))), .tuple #[pv 3 0, bv true], [cw (z4 1 (sv 2 0 n (n + m)) (gV 7 l.length o)), cr [], cr (za8 n (uf i 3 8) ++ zbn m), cw (z8 4 p b 5), cw (zL p is nr (slV 6 127 q)), .chan 1 (([] : List Nt).map ntE), cr [], gB l o, cr [], cr [], cr [], cr [], cr [], cr [], cr [], cr [], cr [], cr [], cr [], cr [], cr [], cr [], cr [], cr []], [], ((zgL _).trans rfl), ⟨rfl, ⟨(by cases true <;> rfl), ⟨rfl, ⟨rfl, ⟨rfl, ⟨rfl, ⟨rfl, ⟨(by cases o <;> rfl), ⟨(by cases true <;> rfl), ⟨(by cases true <;> rfl), ⟨(by cases true <;> rfl), ⟨(by cases true <;> rfl), ⟨(by cases true <;> rfl), ⟨(by cases true <;> rfl), ⟨(by cases true <;> rfl), ⟨(by cases true <;> rfl), ⟨(by cases true <;> rfl), ⟨(by cases true <;> rfl), ⟨(by cases true <;> rfl), ⟨(by cases true <;> rfl), ⟨(by cases true <;> rfl), ⟨(by cases true <;> rfl), ⟨(by cases true <;> rfl), ⟨(by cases true <;> rfl), trivial⟩⟩⟩⟩⟩⟩⟩⟩⟩⟩⟩⟩⟩⟩⟩⟩⟩⟩⟩⟩⟩⟩⟩⟩, trivial, ?_⟩
  refine o_d 5 [(7, bv true), (6, pv 3 0), (15, bv true), (14, pv 3 0), (8, .tuple #[pv 3 0, bv true])] (by kernel_rfl) (zF (zC (zQ (zQ (zU (o_d 2 [(17, bv false), (16, bv true)] (by kernel_rfl) (zF (zC (zcO rfl (zar (zC (zQ ?_))))))))))))
  refine zU (o_d 3 [(20, pv 3 0), (19, pv 3 0), (18, pv 3 0)] (by kernel_rfl) (o_s (by refine zZ (v := pv 4 0) rfl rfl ?_; exact rfl) ?_))
  refine zb8 (zdI [4, 6] [cr (zL p is nr (slV 1 127 q)), cr []] [pv 0 0] (PVersionC h_plane_Plane_Version p is nr q) rfl rfl ⟨⟨_, rfl, qA (.inl (zaO (qU q rfl) (fun q => rfl)))⟩, ⟨⟨_, rfl, zK⟩, trivial⟩⟩ (by decide) ?_)
  rintro v1 h1' ⟨rfl, rfl⟩
  refine ⟨(zA zE (zA zE z9)), .tuple #[iv (p 0), bv is], [cw (z4 1 (sv 2 0 n (n + m)) (gV 7 l.length o)), cr [], cr (za8 n (uf i 3 8) ++ zbn m), cw (z8 4 p b 5), cw (zL p is nr (slV 6 127 q)), .chan 1 (([] : List Nt).map ntE), cr [], gB l o, cr [], cr [], cr [], cr [], cr [], cr [], cr [], cr [], cr [], cr [], cr [], cr [], cr [], cr [], cr [], cr []], [], (qK rfl), ⟨rfl, ⟨rfl, ⟨rfl, ⟨rfl, ⟨rfl, ⟨rfl, ⟨(by cases true <;> rfl), ⟨rfl, ⟨rfl, ⟨rfl, ⟨rfl, ⟨rfl, ⟨rfl, ⟨rfl, ⟨rfl, ⟨rfl, ⟨rfl, ⟨rfl, ⟨rfl, ⟨rfl, ⟨rfl, ⟨rfl, ⟨rfl, ⟨rfl, trivial⟩⟩⟩⟩⟩⟩⟩⟩⟩⟩⟩⟩⟩⟩⟩⟩⟩⟩⟩⟩⟩⟩⟩⟩, trivial, ?_⟩
  exact o_d 4 [(5, bv is), (4, iv (p 0)), (24, bv is), (23, iv (p 0))] (by kernel_rfl) (zF (zY [(5, bv is), (4, iv (p 0))] (by kernel_rfl) (zaZ (⟨trivial, _, .inl rfl, [iv (p 0), bv is], (qD rfl (qD rfl rfl)), (zV rfl (zV rfl qB)), (by rw [if_pos hu]; rfl), rfl⟩))))
 refine zb8 (zdI [0, 2, 1, 7, 3, 8, 9, 10, 11, 12, 13, 14, 15, 16, 17, 18, 19, 20, 21, 22, 23] [cr (z4 2 (sv 1 0 n (n + m)) (gV 3 l.length o)), cr (za8 n (uf i 4 5) ++ zbn m), cr [], hidB o.isSome, cr [], cr [], cr [], cr [], cr [], cr [], cr [], cr [], cr [], cr [], cr [], cr [], cr [], cr [], cr [], cr [], cr []] [pv 0 1, iv u] (atU0C h_yard_row_yard_unit_at n m i l.length o u hu) rfl rfl ⟨⟨_, rfl, qA (.inl (zaE rfl rfl (zaa o rfl) (fun q => rfl)))⟩, ⟨⟨_, rfl, qA (.inl (zgI rfl (h16 rfl) hn16 (fun q => q)))⟩, ⟨⟨_, rfl, zK⟩, ⟨⟨_, rfl, zer o⟩, ⟨⟨_, rfl, zK⟩, ⟨⟨_, rfl, zK⟩, ⟨⟨_, rfl, zK⟩, ⟨⟨_, rfl, zK⟩, ⟨⟨_, rfl, zK⟩, ⟨⟨_, rfl, zK⟩, ⟨⟨_, rfl, zK⟩, ⟨⟨_, rfl, zK⟩, ⟨⟨_, rfl, zK⟩, ⟨⟨_, rfl, zK⟩, ⟨⟨_, rfl, zK⟩, ⟨⟨_, rfl, zK⟩, ⟨⟨_, rfl, zK⟩, ⟨⟨_, rfl, zK⟩, ⟨⟨_, rfl, zK⟩, ⟨⟨_, rfl, zK⟩, ⟨⟨_, rfl, zK⟩, trivial⟩⟩⟩⟩⟩⟩⟩⟩⟩⟩⟩⟩⟩⟩⟩⟩⟩⟩⟩⟩⟩ (by decide) ?_)
 rintro v1 h1' ⟨rfl, rfl⟩
 refine ⟨(zA zE (zA zE (zA zE (zA zE (zA zE (zA zE (zA zE (zA zE (zA zE (zA zE (zA zE (zA zE (zA zE (zA zE (zA zE (zA zE (zA zE (zA zE (zA zE (zA zE (zA zE z9))))))))))))))))))))), .tuple #[.pointer none, bv false], [cw (z4 1 (sv 2 0 n (n + m)) (gV 7 l.length o)), cr [], cr (za8 n (uf i 3 8) ++ zbn m), cw (z8 4 p b 5), cw (zL p is nr (slV 6 127 q)), .chan 1 (([] : List Nt).map ntE), cr [], gB l o, cr [], cr [], cr [], cr [], cr [], cr [], cr [], cr [], cr [], cr [], cr [], cr [], cr [], cr [], cr [], cr []], [], (qK rfl), ⟨rfl, ⟨(by cases true <;> rfl), ⟨rfl, ⟨rfl, ⟨rfl, ⟨rfl, ⟨rfl, ⟨(by cases o <;> rfl), ⟨(by cases true <;> rfl), ⟨(by cases true <;> rfl), ⟨(by cases true <;> rfl), ⟨(by cases true <;> rfl), ⟨(by cases true <;> rfl), ⟨(by cases true <;> rfl), ⟨(by cases true <;> rfl), ⟨(by cases true <;> rfl), ⟨(by cases true <;> rfl), ⟨(by cases true <;> rfl), ⟨(by cases true <;> rfl), ⟨(by cases true <;> rfl), ⟨(by cases true <;> rfl), ⟨(by cases true <;> rfl), ⟨(by cases true <;> rfl), ⟨(by cases true <;> rfl), trivial⟩⟩⟩⟩⟩⟩⟩⟩⟩⟩⟩⟩⟩⟩⟩⟩⟩⟩⟩⟩⟩⟩⟩⟩, trivial, ?_⟩
 refine o_d 5 [(7, bv false), (6, .pointer none), (15, bv false), (14, .pointer none), (8, .tuple #[.pointer none, bv false])] (by kernel_rfl) (zF (zC (zQ (zQ (zU (o_d 2 [(17, bv true), (16, bv false)] (by kernel_rfl) (zF (zC (zd9 rfl (zQ (zU (o_d 2 [(5, bv false), (4, iv 0)] (by kernel_rfl) ?_))))))))))))
 exact zF (zC (zaZ (⟨trivial, _, .inl rfl, [iv 0, bv false], (qD rfl (qD rfl rfl)), (zV rfl (zV rfl qB)), (by rw [if_neg hu]; rfl), rfl⟩)))
end Go.Rh

set_option maxHeartbeats 8000000
namespace Go.Rh
def zcJ (l : List Nt) (k : Int) (keep : Bool) : List Nt := if keep = true then l else l.eraseIdx k.toNat
def ackN (u b : Int) (x : qJ × Bool) : Nt := ⟨u, b, qQ x.1 x.2, false, true, e0, zG⟩
def zcU (p : qJ) (is : Bool) (b : Int) (l : List Nt) (k : Int) (keep : Bool) : (qJ × Bool) × List Nt :=
 if (atS l k).2 = true then (uhS p is b (atS l k).1, (if keep = true then l else l.eraseIdx k.toNat) ++ [ackN (atS l k).1.u b (uhS p is b (atS l k).1)]) else ((p, is), l)
theorem YDeliverBC {P : Program} (hc : zbk P) (h_yard_row_head_Note_at : zah P) (h_yard_row_head_Note_drop : zai P) (h_yard_row_yard_unit_at : zag P) (h_yard_unit_hear : zbO P) (h_yard_unit_version : za3 P) (h_plane_Plane_Version : zas P) (h_yard_unit_load : zbq P) (h_plane_Plane_Load : zaW P) (h_plane_maybe_api_Pool_lay : qW P) (h_wheel_Make : zbI P) (h_wheel_spun : zbe P) (h_sip_Words : zbl P) (h_sip_Of : zcp P) (h_sip_number_byte : qZ P) (h_sip_state_take : zaf P) (h_sip_state_rounds : qM P) (h_sip_state_round : qO P) (h_math_bits_RotateLeft64 : zS P) (h_pool_Apply : zbv P) (h_pool_may : zbr P) (h_pool_held : zbm P) (h_pool_fits : zbx P) (h_pool_Check : zbf P) (h_pool_placed : zaV P) (h_cookie_Next : za7 P) (h_yard_row_head_Note_put : zaC P) (h_head_Head_Heard : zbj P) (n m i : Nat) (hn16 : n ≤ 16) (hi : i < n) (l : List Nt) (o : Gr) (ho : gOk l o) (hl : l.length ≤ 900000) (p : qJ) (is : Bool) (nr : Nat → Int × Bool) (b : Int) (q : Option Nat) (k : Int) (keep : Bool) (hnt : (atS l k).2 = true → (atS l k).1.a = false ∧ (atS l k).1.u = (i : Nat)) (nt : Nt) (hn9 : (atS l k).1 = nt) :
    Env P "(*roundhouse/yard.Yard).Deliver" [pv 0 0, iv k, bv keep] ([cw (z4 1 (sv 2 0 n (n + m)) (gV 7 l.length o)), cr [], cr (za8 n (uf i 3 8) ++ zbn m), cw (z8 4 p b 5), cw (zL p is nr (slV 6 127 q)), .chan 1 (([] : List Nt).map ntE), cr [], gB l o, cr [], cr [], cr [], cr [], cr [], cr [], cr [], cr [], cr [], cr [], cr [], cr [], cr [], cr [], cr [], cr []]) (fun v h' => v = bv (atS l k).2 ∧ ∃ ld : Bool, (ld = false → (zcU p is b l k keep).1 = (p, is)) ∧ (ld = true → (zcU p is b l k keep).1.2 = true) ∧ PB n m i o (zcU p is b l k keep).2 (zcU p is b l k keep).1.1 (zcU p is b l k keep).1.2 nr b ld q (fun B c => B = slB zI (ii (zaA (zcU p is b l k keep).1.1)) (some c)) h') := by
 refine Env.by3 hc ?_
 unfold zbM
 show GC _ 24 _ _ ⟨reg [(0, pv 0 0), (1, iv k), (2, bv keep)], [cw (z4 1 (sv 2 0 n (n + m)) (gV 7 l.length o)), cr [], cr (za8 n (uf i 3 8) ++ zbn m), cw (z8 4 p b 5), cw (zL p is nr (slV 6 127 q)), .chan 1 (([] : List Nt).map ntE), cr [], gB l o, cr [], cr [], cr [], cr [], cr [], cr [], cr [], cr [], cr [], cr [], cr [], cr [], cr [], cr [], cr [], cr []]⟩
 refine zQ (zU (o_d 1 [(6, bv false)] (by kernel_rfl) (zF (zC (zQ (zU (o_d 4 [(17, iv k), (16, pv 0 2), (15, pv 0 0), (14, pv 0 0)] (by kernel_rfl) ?_)))))))
 rcases o with _ | ⟨c, t⟩
 ·skip
  refine zb8 (zdI [0, 7, 1, 2] [cr (z4 2 (sv 3 0 n (n + m)) (gV 1 l.length none)), gB l none, cr [], cr []] [pv 0 2, iv k] (atN0C h_yard_row_head_Note_at n m k l ho) rfl rfl ⟨⟨_, rfl, qA (.inl (zaE rfl rfl (zaa none rfl) (fun q => rfl)))⟩, ⟨⟨_, rfl, zcd ho⟩, ⟨⟨_, rfl, zK⟩, ⟨⟨_, rfl, zK⟩, trivial⟩⟩⟩⟩ (by decide) ?_)
  rintro v1 h1' ⟨rfl, rfl⟩
  rw [hn9]
  refine ⟨(zA zE (zA zE (zA zE (zA zE z9)))), .tuple #[ntE nt, bv ((atS l k).2)], [cw (z4 1 (sv 2 0 n (n + m)) (gV 7 l.length none)), cr [], cr (za8 n (uf i 3 8) ++ zbn m), cw (z8 4 p b 5), cw (zL p is nr (slV 6 127 q)), .chan 1 (([] : List Nt).map ntE), cr [], gB l none, cr [], cr [], cr [], cr [], cr [], cr [], cr [], cr [], cr [], cr [], cr [], cr [], cr [], cr [], cr [], cr []], [], (qK (all_cons (zaU nt.u nt.b nt.v nt.w nt.a nt.e nt.p) (all_cons rfl rfl))), ⟨rfl, ⟨(by cases true <;> rfl), ⟨rfl, ⟨rfl, ⟨rfl, ⟨rfl, ⟨rfl, ⟨(by cases none with | none => rfl | some y9 => exact qX ho), ⟨rfl, ⟨rfl, ⟨rfl, ⟨rfl, ⟨rfl, ⟨rfl, ⟨rfl, ⟨rfl, ⟨rfl, ⟨rfl, ⟨rfl, ⟨rfl, ⟨rfl, ⟨rfl, ⟨rfl, ⟨rfl, trivial⟩⟩⟩⟩⟩⟩⟩⟩⟩⟩⟩⟩⟩⟩⟩⟩⟩⟩⟩⟩⟩⟩⟩⟩, trivial, ?_⟩
  refine o_b 4 [(7, pv 24 0), (20, bv ((atS l k).2)), (19, ntE nt), (13, .tuple #[ntE nt, bv ((atS l k).2)])] [cw (z4 1 (sv 2 0 n (n + m)) (gV 7 l.length none)), cr [], cr (za8 n (uf i 3 8) ++ zbn m), cw (z8 4 p b 5), cw (zL p is nr (slV 6 127 q)), .chan 1 (([] : List Nt).map ntE), cr [], gB l none, cr [], cr [], cr [], cr [], cr [], cr [], cr [], cr [], cr [], cr [], cr [], cr [], cr [], cr [], cr [], cr [], cw (ntF 0 0 0 false false e0 zG)] (by kernel_rfl) (zde (by refine qP (c' := ntL nt) rfl rfl rfl ?_ ?_ ?_; exact z6 _ _ _ _ _ _ _; exact zcM (by omega); exact zbc) ?_)
  refine o_b 1 [(8, bv ((atS l k).2))] [cw (z4 1 (sv 2 0 n (n + m)) (gV 7 l.length none)), cr [], cr (za8 n (uf i 3 8) ++ zbn m), cw (z8 4 p b 5), cw (zL p is nr (slV 6 127 q)), .chan 1 (([] : List Nt).map ntE), cr [], gB l none, cr [], cr [], cr [], cr [], cr [], cr [], cr [], cr [], cr [], cr [], cr [], cr [], cr [], cr [], cr [], cr [], cw (ntL nt)] (by kernel_rfl) (zF (zC (zQ (zQ (zU (o_d 2 [(22, bv (!((atS l k).2))), (21, bv ((atS l k).2))] (by kernel_rfl) (zF (zC (zad (t := !((atS l k).2)) rfl (fun _ => ?_) (fun q => by rw [(by rw [zfB ho]; rfl : (!((atS l k).2)) = true)] at q; cases q))))))))))
  refine zQ (zU (o_d 1 [(6, bv false)] (by kernel_rfl) (zF (zC (zaZ ?_)))))
  have hD : (zcU p is b l k keep) = ((p, is), l) := by simp [zcU, ackN, hn9, zfB ho]
  have hT : (zcU p is b l k keep).1.1 = p ∧ (zcU p is b l k keep).1.2 = is ∧ (zcU p is b l k keep).2 = l := by rw [hD]; exact ⟨rfl, rfl, rfl⟩
  exact ⟨trivial, [bv false], (qD rfl rfl), (zV rfl qB), rfl, ⟨reg [], [cw (z4 1 (sv 2 0 n (n + m)) (gV 7 l.length none)), cr [], cr (za8 n (uf i 3 8) ++ zbn m), cw (z8 4 p b 5), cw (zL p is nr (slV 6 127 q)), .chan 1 (([] : List Nt).map ntE), cr [], gB l none, cr [], cr [], cr [], cr [], cr [], cr [], cr [], cr [], cr [], cr [], cr [], cr [], cr [], cr [], cr [], cr []]⟩, Wk.ren [0, 1, 2, 3, 4, 5, 6, 7, 8, 9, 10, 11, 12, 13, 14, 15, 16, 17, 18, 19, 20, 21, 22, 23] rfl rfl (by decide) trivial ⟨.inl (zam rfl rfl (zaa none rfl)), ⟨.inl rfl, ⟨.inl (zci rfl (h16 rfl) hn16), ⟨.inl (zaP rfl rfl), ⟨.inl (zaj (qU q rfl)), ⟨.inl (congrArg some (zac _).symm), ⟨.inl rfl, ⟨.inl (congrArg some (qX ho).symm), ⟨.inl rfl, ⟨.inl rfl, ⟨.inl rfl, ⟨.inl rfl, ⟨.inl rfl, ⟨.inl rfl, ⟨.inl rfl, ⟨.inl rfl, ⟨.inl rfl, ⟨.inl rfl, ⟨.inl rfl, ⟨.inl rfl, ⟨.inl rfl, ⟨.inl rfl, ⟨.inl rfl, ⟨.inl rfl, trivial⟩⟩⟩⟩⟩⟩⟩⟩⟩⟩⟩⟩⟩⟩⟩⟩⟩⟩⟩⟩⟩⟩⟩⟩, (by simp [one, zfB ho]), false, (fun _ => by rw [hD]), (fun q => by cases q), (by rw [hT.1, hT.2.1, hT.2.2]; exact ⟨none, gB l none, 7, 6, q, [], ⟨ho, (fun _ => rfl), rfl, .inl ⟨rfl, rfl⟩, (by decide), .inl ⟨rfl, rfl, rfl⟩⟩⟩)⟩
 refine zb8 (zdI [0, 7, 1, 2] [cr (z4 2 (sv 3 0 n (n + m)) (gV 1 l.length (some (c, t)))), gB l (some (c, t)), cr [], cr []] [pv 0 2, iv k] (atN1C h_yard_row_head_Note_at n m k l c t ho.1 ho.2.2) rfl rfl ⟨⟨_, rfl, qA (.inl (zaE rfl rfl (zaa (some (c, t)) rfl) (fun q => rfl)))⟩, ⟨⟨_, rfl, zcd ho⟩, ⟨⟨_, rfl, zK⟩, ⟨⟨_, rfl, zK⟩, trivial⟩⟩⟩⟩ (by decide) ?_)
 rintro v1 h1' ⟨rfl, rfl⟩
 rw [hn9]
 refine ⟨(zA zE (zA zE (zA zE (zA zE z9)))), .tuple #[ntE nt, bv ((atS l k).2)], [cw (z4 1 (sv 2 0 n (n + m)) (gV 7 l.length (some (c, t)))), cr [], cr (za8 n (uf i 3 8) ++ zbn m), cw (z8 4 p b 5), cw (zL p is nr (slV 6 127 q)), .chan 1 (([] : List Nt).map ntE), cr [], gB l (some (c, t)), cr [], cr [], cr [], cr [], cr [], cr [], cr [], cr [], cr [], cr [], cr [], cr [], cr [], cr [], cr [], cr []], [], (qK (all_cons (zaU nt.u nt.b nt.v nt.w nt.a nt.e nt.p) (all_cons rfl rfl))), ⟨rfl, ⟨(by cases true <;> rfl), ⟨rfl, ⟨rfl, ⟨rfl, ⟨rfl, ⟨rfl, ⟨qX ho, ⟨rfl, ⟨rfl, ⟨rfl, ⟨rfl, ⟨rfl, ⟨rfl, ⟨rfl, ⟨rfl, ⟨rfl, ⟨rfl, ⟨rfl, ⟨rfl, ⟨rfl, ⟨rfl, ⟨rfl, ⟨rfl, trivial⟩⟩⟩⟩⟩⟩⟩⟩⟩⟩⟩⟩⟩⟩⟩⟩⟩⟩⟩⟩⟩⟩⟩⟩, trivial, ?_⟩
 refine o_b 4 [(7, pv 24 0), (20, bv ((atS l k).2)), (19, ntE nt), (13, .tuple #[ntE nt, bv ((atS l k).2)])] [cw (z4 1 (sv 2 0 n (n + m)) (gV 7 l.length (some (c, t)))), cr [], cr (za8 n (uf i 3 8) ++ zbn m), cw (z8 4 p b 5), cw (zL p is nr (slV 6 127 q)), .chan 1 (([] : List Nt).map ntE), cr [], gB l (some (c, t)), cr [], cr [], cr [], cr [], cr [], cr [], cr [], cr [], cr [], cr [], cr [], cr [], cr [], cr [], cr [], cr [], cw (ntF 0 0 0 false false e0 zG)] (by kernel_rfl) (zde (by refine qP (c' := ntL nt) rfl rfl rfl ?_ ?_ ?_; exact z6 _ _ _ _ _ _ _; exact zcM (by omega); exact zbc) ?_)
 refine o_b 1 [(8, bv ((atS l k).2))] [cw (z4 1 (sv 2 0 n (n + m)) (gV 7 l.length (some (c, t)))), cr [], cr (za8 n (uf i 3 8) ++ zbn m), cw (z8 4 p b 5), cw (zL p is nr (slV 6 127 q)), .chan 1 (([] : List Nt).map ntE), cr [], gB l (some (c, t)), cr [], cr [], cr [], cr [], cr [], cr [], cr [], cr [], cr [], cr [], cr [], cr [], cr [], cr [], cr [], cr [], cw (ntL nt)] (by kernel_rfl) (zF (zC (zQ (zQ (zU (o_d 2 [(22, bv (!((atS l k).2))), (21, bv ((atS l k).2))] (by kernel_rfl) (zF (zC (zad (t := !((atS l k).2)) rfl (fun h1 => ?_) (fun h1 => ?_))))))))))
 ·skip
  have h2 : ((atS l k).2) = false := not_t h1
  refine zQ (zU (o_d 1 [(6, bv false)] (by kernel_rfl) (zF (zC (zaZ ?_)))))
  have hD : (zcU p is b l k keep) = ((p, is), l) := by simp [zcU, ackN, hn9, h1, h2]
  have hT : (zcU p is b l k keep).1.1 = p ∧ (zcU p is b l k keep).1.2 = is ∧ (zcU p is b l k keep).2 = l := by rw [hD]; exact ⟨rfl, rfl, rfl⟩
  exact ⟨trivial, [bv false], (qD rfl rfl), (zV rfl qB), rfl, ⟨reg [], [cw (z4 1 (sv 2 0 n (n + m)) (gV 7 l.length (some (c, t)))), cr [], cr (za8 n (uf i 3 8) ++ zbn m), cw (z8 4 p b 5), cw (zL p is nr (slV 6 127 q)), .chan 1 (([] : List Nt).map ntE), cr [], gB l (some (c, t)), cr [], cr [], cr [], cr [], cr [], cr [], cr [], cr [], cr [], cr [], cr [], cr [], cr [], cr [], cr [], cr []]⟩, Wk.ren [0, 1, 2, 3, 4, 5, 6, 7, 8, 9, 10, 11, 12, 13, 14, 15, 16, 17, 18, 19, 20, 21, 22, 23] rfl rfl (by decide) trivial ⟨.inl (zam rfl rfl (zaa (some (c, t)) rfl)), ⟨.inl rfl, ⟨.inl (zci rfl (h16 rfl) hn16), ⟨.inl (zaP rfl rfl), ⟨.inl (zaj (qU q rfl)), ⟨.inl (congrArg some (zac _).symm), ⟨.inl rfl, ⟨.inl (congrArg some (qX ho).symm), ⟨.inl rfl, ⟨.inl rfl, ⟨.inl rfl, ⟨.inl rfl, ⟨.inl rfl, ⟨.inl rfl, ⟨.inl rfl, ⟨.inl rfl, ⟨.inl rfl, ⟨.inl rfl, ⟨.inl rfl, ⟨.inl rfl, ⟨.inl rfl, ⟨.inl rfl, ⟨.inl rfl, ⟨.inl rfl, trivial⟩⟩⟩⟩⟩⟩⟩⟩⟩⟩⟩⟩⟩⟩⟩⟩⟩⟩⟩⟩⟩⟩⟩⟩, (by simp [one, h1, h2]), false, (fun _ => by rw [hD]), (fun q => by cases q), (by rw [hT.1, hT.2.1, hT.2.2]; exact ⟨some (c, t), gB l (some (c, t)), 7, 6, q, [], ⟨ho, (fun z => by cases z), rfl, .inl ⟨rfl, rfl⟩, (by decide), .inl ⟨rfl, rfl, rfl⟩⟩⟩)⟩
 have h3 : ((atS l k).2) = true := not_f h1
 have hin : 0 ≤ k ∧ k < l.length := atS_in (by assumption)
 refine zar (zC (gcut (fun s => (∃ (lz : List Nt), ∃ (cz : Nat), ∃ (tz : List Value), (gOk lz (some (cz, tz))) ∧ (lz = zcJ l k keep) ∧ (lz.length ≤ 900000) ∧ s = ⟨reg [(0, pv 0 0), (7, pv 24 0)], [cw (z4 1 (sv 2 0 n (n + m)) (gV 7 lz.length (some (cz, tz)))), cr [], cr (za8 n (uf i 3 8) ++ zbn m), cw (z8 4 p b 5), cw (zL p is nr (slV 6 127 q)), .chan 1 (([] : List Nt).map ntE), cr [], gB lz (some (cz, tz)), cr [], cr [], cr [], cr [], cr [], cr [], cr [], cr [], cr [], cr [], cr [], cr [], cr [], cr [], cr [], cr [], cw (ntL nt)]⟩) ∨ (∃ (lz : List Nt), ∃ (cz : Nat), ∃ (tz : List Value), (gOk lz (some (cz, tz))) ∧ (lz = zcJ l k keep) ∧ (lz.length ≤ 900000) ∧ s = ⟨reg [(0, pv 0 0), (7, pv 24 0)], [cw (z4 1 (sv 2 0 n (n + m)) (gV 25 lz.length (some (cz, tz)))), cr [], cr (za8 n (uf i 3 8) ++ zbn m), cw (z8 4 p b 5), cw (zL p is nr (slV 6 127 q)), .chan 1 (([] : List Nt).map ntE), cr [], gB l (some (c, t)), cr [], cr [], cr [], cr [], cr [], cr [], cr [], cr [], cr [], cr [], cr [], cr [], cr [], cr [], cr [], cr [], cw (ntL nt), gB lz (some (cz, tz))]⟩)) ?_ ?_))
 ·skip
  refine zQ (zU (o_d 2 [(24, bv (!keep)), (23, bv keep)] (by kernel_rfl) (zF (zC (zad (t := !keep) rfl (fun h4 => ?_) (fun h4 => ?_))))))
  ·skip
   have h5 : keep = false := not_t h4
   refine zU (o_d 4 [(28, iv k), (27, pv 0 2), (26, pv 0 0), (25, pv 0 0)] (by kernel_rfl) (zb8 (zdI [0, 7, 1, 2] [cw (z4 2 (sv 3 0 n (n + m)) (gV 1 l.length (some (c, t)))), gB l (some (c, t)), cr [], cr []] [pv 0 2, iv k] (dropNC h_yard_row_head_Note_drop l (some (c, t)) k n m ho (hin) (by omega)) rfl rfl ⟨⟨_, rfl, qA (.inl (zaE rfl rfl (zaa (some (c, t)) rfl) (fun q => rfl)))⟩, ⟨⟨_, rfl, zcd ho⟩, ⟨⟨_, rfl, zK⟩, ⟨⟨_, rfl, zK⟩, trivial⟩⟩⟩⟩ (by decide) ?_)))
   rintro v1 h1' ⟨rfl, o6, s7, g8, z11⟩
   rcases o6 with _ | ⟨c9, t10⟩
   ·cases s7
   rcases z11 with rfl | rfl
   ·skip
    refine ⟨(zA qI (zA (fun h => by cases h) (zA zE (zA zE z9)))), .tuple #[], [cw (z4 1 (sv 2 0 n (n + m)) (gV 7 ((l.eraseIdx k.toNat).length) (some (c9, t10)))), cr [], cr (za8 n (uf i 3 8) ++ zbn m), cw (z8 4 p b 5), cw (zL p is nr (slV 6 127 q)), .chan 1 (([] : List Nt).map ntE), cr [], gB (l.eraseIdx k.toNat) (some (c9, t10)), cr [], cr [], cr [], cr [], cr [], cr [], cr [], cr [], cr [], cr [], cr [], cr [], cr [], cr [], cr [], cr [], cw (ntL nt)], [], (by simp [zbw]), ⟨zaB rfl rfl (zaa (some (c9, t10)) rfl), ⟨(by cases true <;> rfl), ⟨rfl, ⟨rfl, ⟨rfl, ⟨rfl, ⟨rfl, ⟨qX g8, ⟨rfl, ⟨rfl, ⟨rfl, ⟨rfl, ⟨rfl, ⟨rfl, ⟨rfl, ⟨rfl, ⟨rfl, ⟨rfl, ⟨rfl, ⟨rfl, ⟨rfl, ⟨rfl, ⟨rfl, ⟨rfl, ⟨rfl, trivial⟩⟩⟩⟩⟩⟩⟩⟩⟩⟩⟩⟩⟩⟩⟩⟩⟩⟩⟩⟩⟩⟩⟩⟩⟩, trivial, ?_⟩
    exact zF (zY [(0, pv 0 0), (7, pv 24 0)] (by kernel_rfl) (.inl ⟨(l.eraseIdx k.toNat), c9, t10, g8, (by simp [zcJ, h1, h3, h4, h5]), (by first | omega | (simp [List.length_eraseIdx]; split <;> omega)), rfl⟩))
   refine ⟨(zA qI (zA zE (zA zE (zA zE z9)))), .tuple #[], [cw (z4 1 (sv 2 0 n (n + m)) (gV 25 ((l.eraseIdx k.toNat).length) (some (c9, t10)))), cr [], cr (za8 n (uf i 3 8) ++ zbn m), cw (z8 4 p b 5), cw (zL p is nr (slV 6 127 q)), .chan 1 (([] : List Nt).map ntE), cr [], gB l (some (c, t)), cr [], cr [], cr [], cr [], cr [], cr [], cr [], cr [], cr [], cr [], cr [], cr [], cr [], cr [], cr [], cr [], cw (ntL nt)], [gB (l.eraseIdx k.toNat) (some (c9, t10))], (by simp [zbw]), ⟨zaB rfl rfl (zaa (some (c9, t10)) rfl), ⟨(by cases true <;> rfl), ⟨rfl, ⟨rfl, ⟨rfl, ⟨rfl, ⟨rfl, ⟨qX ho, ⟨rfl, ⟨rfl, ⟨rfl, ⟨rfl, ⟨rfl, ⟨rfl, ⟨rfl, ⟨rfl, ⟨rfl, ⟨rfl, ⟨rfl, ⟨rfl, ⟨rfl, ⟨rfl, ⟨rfl, ⟨rfl, ⟨rfl, trivial⟩⟩⟩⟩⟩⟩⟩⟩⟩⟩⟩⟩⟩⟩⟩⟩⟩⟩⟩⟩⟩⟩⟩⟩⟩, ⟨(qX g8), trivial⟩, ?_⟩
   exact zF (zY [(0, pv 0 0), (7, pv 24 0)] (by kernel_rfl) (.inr ⟨(l.eraseIdx k.toNat), c9, t10, g8, (by simp [zcJ, h1, h3, h4, h5]), (by first | omega | (simp [List.length_eraseIdx]; split <;> omega)), rfl⟩))
  have h12 : keep = true := not_f h4
  exact zar (zY [(0, pv 0 0), (7, pv 24 0)] (by kernel_rfl) (.inl ⟨l, c, t, ho, (by simp [zcJ, h1, h3, h4, h12]), (by first | omega | (simp [List.length_eraseIdx]; split <;> omega)), rfl⟩))
 rintro s (⟨lz, cz, tz, hz, hlz, hzn, rfl⟩ | ⟨lz, cz, tz, hz, hlz, hzn, rfl⟩)
 ·skip
  refine zQ (zQ (zU (o_d 1 [(30, pv 24 4)] (by kernel_rfl) (o_s (by refine zZ (v := bv nt.a) rfl rfl ?_; exact zdu rfl) ?_))))
  refine zF (zC (zad (t := nt.a) rfl (fun q => by rw [(hn9 ▸ (hnt (by assumption)).1 : (nt.a) = false)] at q; cases q) (fun _ => ?_)))
  refine zar (zC (zQ (zQ (zbE [cw (z4 1 (sv 2 0 n (n + m)) (gV 7 lz.length (some (cz, tz)))), cr [], cr (za8 n (uf i 3 8) ++ zbn m), cw (z8 4 p b 5), cw (zL p is nr (slV 6 127 q)), .chan 1 (([] : List Nt).map ntE), cr [], gB lz (some (cz, tz)), cr [], cr [], cr [], cr [], cr [], cr [], cr [], cr [], cr [], cr [], cr [], cr [], cr [], cr [], cr [], cr [], cw (ntL nt)] (by kernel_rfl) (d_n 4 4 25 [(42, pv 24 0), (41, pv 0 1), (40, pv 0 0), (39, pv 0 0)] [cw (z4 1 (sv 2 0 n (n + m)) (gV 7 lz.length (some (cz, tz)))), cr [], cr (za8 n (uf i 3 8) ++ zbn m), cw (z8 4 p b 5), cw (zL p is nr (slV 6 127 q)), .chan 1 (([] : List Nt).map ntE), cr [], gB lz (some (cz, tz)), cr [], cr [], cr [], cr [], cr [], cr [], cr [], cr [], cr [], cr [], cr [], cr [], cr [], cr [], cr [], cr [], cw (ntL nt)] [] (by kernel_rfl) rfl rfl (d_s rfl rfl rfl (by kernel_rfl) (by refine zZ (v := iv nt.u) rfl rfl ?_; exact zdu rfl) ?_))))))
  have hui : nt.u = (i : Nat) := hn9 ▸ (hnt (by assumption)).2
  refine zgl [0, 2, 1, 7, 3, 8, 9, 10, 11, 12, 13, 14, 15, 16, 17, 18, 19, 20, 21, 22, 23] [cr (z4 2 (sv 1 0 n (n + m)) (gV 3 lz.length (some (cz, tz)))), cr (za8 n (uf i 4 5) ++ zbn m), cr [], cr [], cr [], cr [], cr [], cr [], cr [], cr [], cr [], cr [], cr [], cr [], cr [], cr [], cr [], cr [], cr [], cr [], cr []] [pv 0 1, iv nt.u] (atU1C h_yard_row_yard_unit_at n m i lz.length (some (cz, tz)) nt.u hui hi) rfl rfl ⟨⟨_, rfl, qA (.inl (zaE rfl rfl (zaa (some (cz, tz)) rfl) (fun q => rfl)))⟩, ⟨⟨_, rfl, qA (.inl (zgI rfl (h16 rfl) hn16 (fun q => q)))⟩, ⟨⟨_, rfl, zK⟩, ⟨⟨_, rfl, zer (some (cz, tz))⟩, ⟨⟨_, rfl, zK⟩, ⟨⟨_, rfl, zK⟩, ⟨⟨_, rfl, zK⟩, ⟨⟨_, rfl, zK⟩, ⟨⟨_, rfl, zK⟩, ⟨⟨_, rfl, zK⟩, ⟨⟨_, rfl, zK⟩, ⟨⟨_, rfl, zK⟩, ⟨⟨_, rfl, zK⟩, ⟨⟨_, rfl, zK⟩, ⟨⟨_, rfl, zK⟩, ⟨⟨_, rfl, zK⟩, ⟨⟨_, rfl, zK⟩, ⟨⟨_, rfl, zK⟩, ⟨⟨_, rfl, zK⟩, ⟨⟨_, rfl, zK⟩, ⟨⟨_, rfl, zK⟩, trivial⟩⟩⟩⟩⟩⟩⟩⟩⟩⟩⟩⟩⟩⟩⟩⟩⟩⟩⟩⟩⟩ (by decide) ⟨_, _, ⟨rfl, rfl⟩, Nat.le_refl _, zbb [_, _, _, _, _, _, _, _, _, _, _, _, _, _, _, _, _, _, _, _, _] []⟩ ?_ (by kernel_rfl)
  rintro v1 h1' ⟨rfl, rfl⟩
  refine ⟨(zA zE (zA zE (zA zE (zA zE (zA zE (zA zE (zA zE (zA zE (zA zE (zA zE (zA zE (zA zE (zA zE (zA zE (zA zE (zA zE (zA zE (zA zE (zA zE (zA zE (zA zE z9))))))))))))))))))))), .tuple #[pv 3 0, bv true], [cw (z4 1 (sv 2 0 n (n + m)) (gV 7 lz.length (some (cz, tz)))), cr [], cr (za8 n (uf i 3 8) ++ zbn m), cw (z8 4 p b 5), cw (zL p is nr (slV 6 127 q)), .chan 1 (([] : List Nt).map ntE), cr [], gB lz (some (cz, tz)), cr [], cr [], cr [], cr [], cr [], cr [], cr [], cr [], cr [], cr [], cr [], cr [], cr [], cr [], cr [], cr [], cw (ntL nt)], [], ((zgL _).trans rfl), ⟨rfl, ⟨(by cases true <;> rfl), ⟨rfl, ⟨rfl, ⟨rfl, ⟨rfl, ⟨rfl, ⟨rfl, ⟨(by cases true <;> rfl), ⟨(by cases true <;> rfl), ⟨(by cases true <;> rfl), ⟨(by cases true <;> rfl), ⟨(by cases true <;> rfl), ⟨(by cases true <;> rfl), ⟨(by cases true <;> rfl), ⟨(by cases true <;> rfl), ⟨(by cases true <;> rfl), ⟨(by cases true <;> rfl), ⟨(by cases true <;> rfl), ⟨(by cases true <;> rfl), ⟨(by cases true <;> rfl), ⟨(by cases true <;> rfl), ⟨(by cases true <;> rfl), ⟨(by cases true <;> rfl), ⟨rfl, trivial⟩⟩⟩⟩⟩⟩⟩⟩⟩⟩⟩⟩⟩⟩⟩⟩⟩⟩⟩⟩⟩⟩⟩⟩⟩, trivial, ?_⟩
  refine d_n 5 11 25 [(10, bv true), (9, pv 3 0), (46, bv true), (45, pv 3 0), (38, .tuple #[pv 3 0, bv true])] [cw (z4 1 (sv 2 0 n (n + m)) (gV 7 lz.length (some (cz, tz)))), cr [], cr (za8 n (uf i 3 8) ++ zbn m), cw (z8 4 p b 5), cw (zL p is nr (slV 6 127 q)), .chan 1 (([] : List Nt).map ntE), cr [], gB lz (some (cz, tz)), cr [], cr [], cr [], cr [], cr [], cr [], cr [], cr [], cr [], cr [], cr [], cr [], cr [], cr [], cr [], cr [], cw (ntL nt)] [⟨5, [0, 2, 1, 7, 3, 8, 9, 10, 11, 12, 13, 14, 15, 16, 17, 18, 19, 20, 21, 22, 23], [], some 25⟩, ⟨4, [24], [], none⟩] (by kernel_rfl) rfl rfl (zcf (zC (zQ (zU (o_d 1 [(47, bv true)] (by kernel_rfl) (zF (zC (zd9 rfl (zQ (zbE [cw (z4 1 (sv 2 0 n (n + m)) (gV 7 lz.length (some (cz, tz)))), cr [], cr (za8 n (uf i 3 8) ++ zbn m), cw (z8 4 p b 5), cw (zL p is nr (slV 6 127 q)), .chan 1 (([] : List Nt).map ntE), cr [], gB lz (some (cz, tz)), cr [], cr [], cr [], cr [], cr [], cr [], cr [], cr [], cr [], cr [], cr [], cr [], cr [], cr [], cr [], cr [], cw (ntL nt)] (by kernel_rfl) (d_n 3 3 25 [(50, pv 3 332), (49, pv 3 0), (48, pv 3 0)] [cw (z4 1 (sv 2 0 n (n + m)) (gV 7 lz.length (some (cz, tz)))), cr [], cr (za8 n (uf i 3 8) ++ zbn m), cw (z8 4 p b 5), cw (zL p is nr (slV 6 127 q)), .chan 1 (([] : List Nt).map ntE), cr [], gB lz (some (cz, tz)), cr [], cr [], cr [], cr [], cr [], cr [], cr [], cr [], cr [], cr [], cr [], cr [], cr [], cr [], cr [], cr [], cw (ntL nt)] [] (by kernel_rfl) rfl rfl (d_s rfl rfl rfl (by kernel_rfl) (by refine zZ (v := .chan (some 5)) rfl rfl ?_; exact (zdU 1).trans rfl) ?_))))))))))))
  refine d_s rfl rfl rfl (by kernel_rfl) (by refine zZ (v := ntE nt) rfl rfl ?_; exact zbu nt.u nt.b nt.v nt.w nt.a nt.e nt.p) ?_
  refine d_snd (k := 5) (b := ([] : List Nt).map ntE) (b2 := ([nt]).map ntE) rfl rfl rfl (by rw [List.length_map]; simp) rfl rfl ?_
  refine zcf (zC (zQ (zU (o_d 2 [(55, pv 24 0), (54, pv 3 0)] (by kernel_rfl) (o_s (by refine zZ (v := iv nt.u) rfl rfl ?_; exact zdu rfl) ?_)))))
  refine zb8 (zdI [3, 4, 5, 6] [cw (z8 1 p b 2), cw (zL p is nr (slV 3 127 q)), .chan 1 (([nt]).map ntE), cr []] [pv 0 0, iv nt.u] (UHearC h_yard_unit_hear h_yard_unit_version h_plane_Plane_Version h_yard_unit_load h_plane_Plane_Load h_plane_maybe_api_Pool_lay h_wheel_Make h_wheel_spun h_sip_Words h_sip_Of h_sip_number_byte h_sip_state_take h_sip_state_rounds h_sip_state_round h_math_bits_RotateLeft64 h_pool_Apply h_pool_may h_pool_held h_pool_fits h_pool_Check h_pool_placed h_cookie_Next p is nr q b nt nt.u) rfl rfl ⟨⟨_, rfl, qA (.inl (zbB rfl rfl (fun q => rfl)))⟩, ⟨⟨_, rfl, qA (.inl (zaO (qU q rfl) (fun q => rfl)))⟩, ⟨⟨_, rfl, qA (.inl (zca _))⟩, ⟨⟨_, rfl, zK⟩, trivial⟩⟩⟩⟩ (by decide) ?_)
  rintro v1 h1' ⟨rfl, ⟨hE13, rfl⟩ | ⟨hE13, m14, rfl⟩⟩
  ·skip
   refine ⟨(zA zE (zA zE (zA (fun h => by cases h) (zA zE z9)))), .tuple #[ntV nt.u b (qQ (uhS p is b nt).1 (uhS p is b nt).2) false true e0 zG, bv true], [cw (z4 1 (sv 2 0 n (n + m)) (gV 7 lz.length (some (cz, tz)))), cr [], cr (za8 n (uf i 3 8) ++ zbn m), cw (z8 4 p b 5), cw (zL p is nr (slV 6 127 q)), .chan 1 (([] : List Nt).map ntE), cr [], gB lz (some (cz, tz)), cr [], cr [], cr [], cr [], cr [], cr [], cr [], cr [], cr [], cr [], cr [], cr [], cr [], cr [], cr [], cr [], cw (ntL nt)], [], (qK (all_cons (zaU nt.u b (qQ (uhS p is b nt).1 (uhS p is b nt).2) false true e0 zG) (all_cons rfl rfl))), ⟨rfl, ⟨rfl, ⟨rfl, ⟨zch rfl rfl, ⟨zbh (qU q rfl), ⟨zac _, ⟨(by cases true <;> rfl), ⟨rfl, ⟨rfl, ⟨rfl, ⟨rfl, ⟨rfl, ⟨rfl, ⟨rfl, ⟨rfl, ⟨rfl, ⟨rfl, ⟨rfl, ⟨rfl, ⟨rfl, ⟨rfl, ⟨rfl, ⟨rfl, ⟨rfl, ⟨rfl, trivial⟩⟩⟩⟩⟩⟩⟩⟩⟩⟩⟩⟩⟩⟩⟩⟩⟩⟩⟩⟩⟩⟩⟩⟩⟩, trivial, ?_⟩
   refine o_b 4 [(11, pv 25 0), (59, bv true), (58, ntV nt.u b (qQ (uhS p is b nt).1 (uhS p is b nt).2) false true e0 zG), (53, .tuple #[ntV nt.u b (qQ (uhS p is b nt).1 (uhS p is b nt).2) false true e0 zG, bv true])] [cw (z4 1 (sv 2 0 n (n + m)) (gV 7 lz.length (some (cz, tz)))), cr [], cr (za8 n (uf i 3 8) ++ zbn m), cw (z8 4 p b 5), cw (zL p is nr (slV 6 127 q)), .chan 1 (([] : List Nt).map ntE), cr [], gB lz (some (cz, tz)), cr [], cr [], cr [], cr [], cr [], cr [], cr [], cr [], cr [], cr [], cr [], cr [], cr [], cr [], cr [], cr [], cw (ntL nt), cw (ntF 0 0 0 false false e0 zG)] (by kernel_rfl) (zde (by refine qP (c' := ntF nt.u b (qQ (uhS p is b nt).1 (uhS p is b nt).2) false true e0 zG) rfl rfl rfl ?_ ?_ ?_; exact z6 _ _ _ _ _ _ _; exact zcM (by omega); exact zbc) ?_)
   refine o_b 1 [(12, bv true)] [cw (z4 1 (sv 2 0 n (n + m)) (gV 7 lz.length (some (cz, tz)))), cr [], cr (za8 n (uf i 3 8) ++ zbn m), cw (z8 4 p b 5), cw (zL p is nr (slV 6 127 q)), .chan 1 (([] : List Nt).map ntE), cr [], gB lz (some (cz, tz)), cr [], cr [], cr [], cr [], cr [], cr [], cr [], cr [], cr [], cr [], cr [], cr [], cr [], cr [], cr [], cr [], cw (ntL nt), cw (ntF nt.u b (qQ (uhS p is b nt).1 (uhS p is b nt).2) false true e0 zG)] (by kernel_rfl) (zF (zY [(12, bv true), (11, pv 25 0), (0, pv 0 0)] (by kernel_rfl) (zQ (zU (o_d 1 [(60, bv true)] (by kernel_rfl) (zF (zC (zd9 rfl (zbE [cw (z4 1 (sv 2 0 n (n + m)) (gV 7 lz.length (some (cz, tz)))), cr [], cr (za8 n (uf i 3 8) ++ zbn m), cw (z8 4 p b 5), cw (zL p is nr (slV 6 127 q)), .chan 1 (([] : List Nt).map ntE), cr [], gB lz (some (cz, tz)), cr [], cr [], cr [], cr [], cr [], cr [], cr [], cr [], cr [], cr [], cr [], cr [], cr [], cr [], cr [], cr [], cw (ntL nt), cw (ntF nt.u b (qQ (uhS p is b nt).1 (uhS p is b nt).2) false true e0 zG), .gone] (by kernel_rfl) (d_n 3 3 26 [(63, pv 0 2), (62, pv 0 0), (61, pv 0 0)] [cw (z4 1 (sv 2 0 n (n + m)) (gV 7 lz.length (some (cz, tz)))), cr [], cr (za8 n (uf i 3 8) ++ zbn m), cw (z8 4 p b 5), cw (zL p is nr (slV 6 127 q)), .chan 1 (([] : List Nt).map ntE), cr [], gB lz (some (cz, tz)), cr [], cr [], cr [], cr [], cr [], cr [], cr [], cr [], cr [], cr [], cr [], cr [], cr [], cr [], cr [], cr [], cw (ntL nt), cw (ntF nt.u b (qQ (uhS p is b nt).1 (uhS p is b nt).2) false true e0 zG), .gone] [] (by kernel_rfl) rfl rfl (d_s rfl rfl rfl (by kernel_rfl) (by refine zZ (v := ntV nt.u b (qQ (uhS p is b nt).1 (uhS p is b nt).2) false true e0 zG) rfl rfl ?_; exact zbu nt.u b (qQ (uhS p is b nt).1 (uhS p is b nt).2) false true e0 zG) ?_)))))))))))
   refine d_mk (B := cw (ntF nt.u b (qQ (uhS p is b nt).1 (uhS p is b nt).2) false true e0 zG)) rfl (zgE rfl (z6 _ _ _ _ _ _ _)) rfl (by kernel_rfl) (d_clHW [0, 7, 26] [0, 7, 26, 1, 2] [cw (z4 3 (sv 4 0 n (n + m)) (gV 1 lz.length (some (cz, tz)))), gB lz (some (cz, tz)), slB zNt (zaX ([(⟨nt.u, b, qQ (uhS p is b nt).1 (uhS p is b nt).2, false, true, e0, zG⟩ : Nt)])) (some 0), cr [], cr []] [pv 0 2, slV 2 (([(⟨nt.u, b, qQ (uhS p is b nt).1 (uhS p is b nt).2, false, true, e0, zG⟩ : Nt)]).length) (some 0)] (putNC h_yard_row_head_Note_put lz ([(⟨nt.u, b, qQ (uhS p is b nt).1 (uhS p is b nt).2, false, true, e0, zG⟩ : Nt)]) (some (cz, tz)) (some 0) n m hz (fun z => by cases z) (by first | (simp; omega) | (simp [List.length_eraseIdx]; split <;> omega))) (wr_put ..) rfl rfl ⟨⟨_, rfl, qA (.inl (zaE rfl rfl (zaa (some (cz, tz)) rfl) (fun q => rfl)))⟩, ⟨⟨_, rfl, zcd hz⟩, ⟨⟨_, rfl, zhQ⟩, ⟨⟨_, rfl, zK⟩, ⟨⟨_, rfl, zK⟩, trivial⟩⟩⟩⟩⟩ (by decide) (zim lz ([(⟨nt.u, b, qQ (uhS p is b nt).1 (uhS p is b nt).2, false, true, e0, zG⟩ : Nt)]) (some (cz, tz)) (some 0) n m) ?_ (by kernel_rfl))
   rintro v1 h1' ⟨rfl, o15, g17, ⟨s16, rfl⟩ | ⟨s16, rfl⟩⟩
   ·skip
    refine ⟨(zA qI (zA (zfV s16) (zA zE (zA zE (zA zE z9))))), .tuple #[], [cw (z4 1 (sv 2 0 n (n + m)) (gV 7 ((lz ++ ([(⟨nt.u, b, qQ (uhS p is b nt).1 (uhS p is b nt).2, false, true, e0, zG⟩ : Nt)])).length) o15)), cr [], cr (za8 n (uf i 3 8) ++ zbn m), cw (z8 4 p b 5), cw (zL p is nr (slV 6 127 q)), .chan 1 (([] : List Nt).map ntE), cr [], gB (lz ++ ([(⟨nt.u, b, qQ (uhS p is b nt).1 (uhS p is b nt).2, false, true, e0, zG⟩ : Nt)])) o15, cr [], cr [], cr [], cr [], cr [], cr [], cr [], cr [], cr [], cr [], cr [], cr [], cr [], cr [], cr [], cr [], cw (ntL nt), cw (ntF nt.u b (qQ (uhS p is b nt).1 (uhS p is b nt).2) false true e0 zG), cw (ntF nt.u b (qQ (uhS p is b nt).1 (uhS p is b nt).2) false true e0 zG)], [], (by simp [zbw]), ⟨zaB rfl rfl (zaa o15 rfl), ⟨(by cases true <;> rfl), ⟨rfl, ⟨rfl, ⟨rfl, ⟨rfl, ⟨rfl, ⟨(by cases o15 with | none => rfl | some y9 => exact qX g17), ⟨rfl, ⟨rfl, ⟨rfl, ⟨rfl, ⟨rfl, ⟨rfl, ⟨rfl, ⟨rfl, ⟨rfl, ⟨rfl, ⟨rfl, ⟨rfl, ⟨rfl, ⟨rfl, ⟨rfl, ⟨rfl, ⟨rfl, ⟨rfl, ⟨zfb, trivial⟩⟩⟩⟩⟩⟩⟩⟩⟩⟩⟩⟩⟩⟩⟩⟩⟩⟩⟩⟩⟩⟩⟩⟩⟩⟩⟩, trivial, ?_⟩
    refine zcf (zC (zQ (zU (o_d 1 [(6, bv true)] (by kernel_rfl) (zF (zC (zaZ ?_)))))))
    have hD : (zcU p is b l k keep) = ((uhS p is b nt), (lz ++ ([(⟨nt.u, b, qQ (uhS p is b nt).1 (uhS p is b nt).2, false, true, e0, zG⟩ : Nt)]))) := by simp [zcU, ackN, hn9, h1, h3, hlz, zcJ]
    have hT : (zcU p is b l k keep).1.1 = p ∧ (zcU p is b l k keep).1.2 = is ∧ (zcU p is b l k keep).2 = (lz ++ ([(⟨nt.u, b, qQ (uhS p is b nt).1 (uhS p is b nt).2, false, true, e0, zG⟩ : Nt)])) := by rw [hD]; exact ⟨congrArg Prod.fst hE13, congrArg Prod.snd hE13, rfl⟩
    exact ⟨trivial, [bv true], (qD rfl rfl), (zV rfl qB), rfl, ⟨reg [], [cw (z4 1 (sv 2 0 n (n + m)) (gV 7 ((lz ++ ([(⟨nt.u, b, qQ (uhS p is b nt).1 (uhS p is b nt).2, false, true, e0, zG⟩ : Nt)])).length) o15)), cr [], cr (za8 n (uf i 3 8) ++ zbn m), cw (z8 4 p b 5), cw (zL p is nr (slV 6 127 q)), .chan 1 (([] : List Nt).map ntE), cr [], gB (lz ++ ([(⟨nt.u, b, qQ (uhS p is b nt).1 (uhS p is b nt).2, false, true, e0, zG⟩ : Nt)])) o15, cr [], cr [], cr [], cr [], cr [], cr [], cr [], cr [], cr [], cr [], cr [], cr [], cr [], cr [], cr [], cr []]⟩, Wk.ren [0, 1, 2, 3, 4, 5, 6, 7, 8, 9, 10, 11, 12, 13, 14, 15, 16, 17, 18, 19, 20, 21, 22, 23] rfl rfl (by decide) trivial ⟨.inl (zam rfl rfl (zaa o15 rfl)), ⟨.inl rfl, ⟨.inl (zci rfl (h16 rfl) hn16), ⟨.inl (zaP rfl rfl), ⟨.inl (zaj (qU q rfl)), ⟨.inl (congrArg some (zac _).symm), ⟨.inl rfl, ⟨.inl (congrArg some (qX g17).symm), ⟨.inl rfl, ⟨.inl rfl, ⟨.inl rfl, ⟨.inl rfl, ⟨.inl rfl, ⟨.inl rfl, ⟨.inl rfl, ⟨.inl rfl, ⟨.inl rfl, ⟨.inl rfl, ⟨.inl rfl, ⟨.inl rfl, ⟨.inl rfl, ⟨.inl rfl, ⟨.inl rfl, ⟨.inl rfl, trivial⟩⟩⟩⟩⟩⟩⟩⟩⟩⟩⟩⟩⟩⟩⟩⟩⟩⟩⟩⟩⟩⟩⟩⟩, (by simp [one, h1, h3]), false, (fun _ => by rw [hD]; exact hE13), (fun q => by cases q), (by rw [hT.1, hT.2.1, hT.2.2]; exact ⟨o15, gB (lz ++ ([(⟨nt.u, b, qQ (uhS p is b nt).1 (uhS p is b nt).2, false, true, e0, zG⟩ : Nt)])) o15, 7, 6, q, [], ⟨g17, (fun z => by cases z), rfl, .inl ⟨rfl, rfl⟩, (by decide), .inl ⟨rfl, rfl, rfl⟩⟩⟩)⟩
   refine ⟨(zA qI (zA zE (zA zE (zA zE (zA zE z9))))), .tuple #[], [cw (z4 1 (sv 2 0 n (n + m)) (gV 27 ((lz ++ ([(⟨nt.u, b, qQ (uhS p is b nt).1 (uhS p is b nt).2, false, true, e0, zG⟩ : Nt)])).length) o15)), cr [], cr (za8 n (uf i 3 8) ++ zbn m), cw (z8 4 p b 5), cw (zL p is nr (slV 6 127 q)), .chan 1 (([] : List Nt).map ntE), cr [], gB lz (some (cz, tz)), cr [], cr [], cr [], cr [], cr [], cr [], cr [], cr [], cr [], cr [], cr [], cr [], cr [], cr [], cr [], cr [], cw (ntL nt), cw (ntF nt.u b (qQ (uhS p is b nt).1 (uhS p is b nt).2) false true e0 zG), cw (ntF nt.u b (qQ (uhS p is b nt).1 (uhS p is b nt).2) false true e0 zG)], [gB (lz ++ ([(⟨nt.u, b, qQ (uhS p is b nt).1 (uhS p is b nt).2, false, true, e0, zG⟩ : Nt)])) o15], (by simp [zbw]), ⟨zaB rfl rfl (zaa o15 rfl), ⟨(by cases true <;> rfl), ⟨rfl, ⟨rfl, ⟨rfl, ⟨rfl, ⟨rfl, ⟨qX hz, ⟨rfl, ⟨rfl, ⟨rfl, ⟨rfl, ⟨rfl, ⟨rfl, ⟨rfl, ⟨rfl, ⟨rfl, ⟨rfl, ⟨rfl, ⟨rfl, ⟨rfl, ⟨rfl, ⟨rfl, ⟨rfl, ⟨rfl, ⟨rfl, ⟨zfb, trivial⟩⟩⟩⟩⟩⟩⟩⟩⟩⟩⟩⟩⟩⟩⟩⟩⟩⟩⟩⟩⟩⟩⟩⟩⟩⟩⟩, ⟨(qX g17), trivial⟩, ?_⟩
   refine zcf (zC (zQ (zU (o_d 1 [(6, bv true)] (by kernel_rfl) (zF (zC (zaZ ?_)))))))
   have hD : (zcU p is b l k keep) = ((uhS p is b nt), (lz ++ ([(⟨nt.u, b, qQ (uhS p is b nt).1 (uhS p is b nt).2, false, true, e0, zG⟩ : Nt)]))) := by simp [zcU, ackN, hn9, h1, h3, hlz, zcJ]
   have hT : (zcU p is b l k keep).1.1 = p ∧ (zcU p is b l k keep).1.2 = is ∧ (zcU p is b l k keep).2 = (lz ++ ([(⟨nt.u, b, qQ (uhS p is b nt).1 (uhS p is b nt).2, false, true, e0, zG⟩ : Nt)])) := by rw [hD]; exact ⟨congrArg Prod.fst hE13, congrArg Prod.snd hE13, rfl⟩
   exact ⟨trivial, [bv true], (qD rfl rfl), (zV rfl qB), rfl, ⟨reg [], [cw (z4 1 (sv 2 0 n (n + m)) (gV 24 ((lz ++ ([(⟨nt.u, b, qQ (uhS p is b nt).1 (uhS p is b nt).2, false, true, e0, zG⟩ : Nt)])).length) o15)), cr [], cr (za8 n (uf i 3 8) ++ zbn m), cw (z8 4 p b 5), cw (zL p is nr (slV 6 127 q)), .chan 1 (([] : List Nt).map ntE), cr [], gB lz (some (cz, tz)), cr [], cr [], cr [], cr [], cr [], cr [], cr [], cr [], cr [], cr [], cr [], cr [], cr [], cr [], cr [], cr [], gB (lz ++ ([(⟨nt.u, b, qQ (uhS p is b nt).1 (uhS p is b nt).2, false, true, e0, zG⟩ : Nt)])) o15]⟩, Wk.ren [0, 1, 2, 3, 4, 5, 6, 7, 8, 9, 10, 11, 12, 13, 14, 15, 16, 17, 18, 19, 20, 21, 22, 23, 27] rfl rfl (by decide) trivial ⟨.inl (zam rfl rfl (zaa o15 rfl)), ⟨.inl rfl, ⟨.inl (zci rfl (h16 rfl) hn16), ⟨.inl (zaP rfl rfl), ⟨.inl (zaj (qU q rfl)), ⟨.inl (congrArg some (zac _).symm), ⟨.inl rfl, ⟨.inl (congrArg some (qX hz).symm), ⟨.inl rfl, ⟨.inl rfl, ⟨.inl rfl, ⟨.inl rfl, ⟨.inl rfl, ⟨.inl rfl, ⟨.inl rfl, ⟨.inl rfl, ⟨.inl rfl, ⟨.inl rfl, ⟨.inl rfl, ⟨.inl rfl, ⟨.inl rfl, ⟨.inl rfl, ⟨.inl rfl, ⟨.inl rfl, ⟨.inl (congrArg some (qX g17).symm), trivial⟩⟩⟩⟩⟩⟩⟩⟩⟩⟩⟩⟩⟩⟩⟩⟩⟩⟩⟩⟩⟩⟩⟩⟩⟩, (by simp [one, h1, h3]), false, (fun _ => by rw [hD]; exact hE13), (fun q => by cases q), (by rw [hT.1, hT.2.1, hT.2.2]; exact ⟨o15, gB lz (some (cz, tz)), 24, 6, q, [gB (lz ++ ([(⟨nt.u, b, qQ (uhS p is b nt).1 (uhS p is b nt).2, false, true, e0, zG⟩ : Nt)])) o15], ⟨g17, (fun z => by cases z), rfl, .inr ⟨0, rfl, rfl⟩, (by decide), .inl ⟨rfl, rfl, rfl⟩⟩⟩)⟩
  refine ⟨(zA qI (zA qI (zA (fun h => by cases h) (zA zE z9)))), .tuple #[ntV nt.u b (qQ (uhS p is b nt).1 (uhS p is b nt).2) false true e0 zG, bv true], [cw (z4 1 (sv 2 0 n (n + m)) (gV 7 lz.length (some (cz, tz)))), cr [], cr (za8 n (uf i 3 8) ++ zbn m), cw (z8 4 ((uhS p is b nt).1) b 5), cw (zL ((uhS p is b nt).1) true nr (slV 25 127 (some m14))), .chan 1 (([] : List Nt).map ntE), cr [], gB lz (some (cz, tz)), cr [], cr [], cr [], cr [], cr [], cr [], cr [], cr [], cr [], cr [], cr [], cr [], cr [], cr [], cr [], cr [], cw (ntL nt)], [slB zI (ii (zaA ((uhS p is b nt).1))) (some m14)], (qK (all_cons (zaU nt.u b (qQ (uhS p is b nt).1 (uhS p is b nt).2) false true e0 zG) (all_cons rfl rfl))), ⟨rfl, ⟨rfl, ⟨rfl, ⟨zch rfl rfl, ⟨zbh rfl, ⟨zac _, ⟨(by cases true <;> rfl), ⟨rfl, ⟨rfl, ⟨rfl, ⟨rfl, ⟨rfl, ⟨rfl, ⟨rfl, ⟨rfl, ⟨rfl, ⟨rfl, ⟨rfl, ⟨rfl, ⟨rfl, ⟨rfl, ⟨rfl, ⟨rfl, ⟨rfl, ⟨rfl, trivial⟩⟩⟩⟩⟩⟩⟩⟩⟩⟩⟩⟩⟩⟩⟩⟩⟩⟩⟩⟩⟩⟩⟩⟩⟩, ⟨(Option.some.inj (zaM (some m14) (fun _ => (zb5 _ _)))).symm, trivial⟩, ?_⟩
  refine o_b 4 [(11, pv 26 0), (59, bv true), (58, ntV nt.u b (qQ (uhS p is b nt).1 (uhS p is b nt).2) false true e0 zG), (53, .tuple #[ntV nt.u b (qQ (uhS p is b nt).1 (uhS p is b nt).2) false true e0 zG, bv true])] [cw (z4 1 (sv 2 0 n (n + m)) (gV 7 lz.length (some (cz, tz)))), cr [], cr (za8 n (uf i 3 8) ++ zbn m), cw (z8 4 ((uhS p is b nt).1) b 5), cw (zL ((uhS p is b nt).1) true nr (slV 25 127 (some m14))), .chan 1 (([] : List Nt).map ntE), cr [], gB lz (some (cz, tz)), cr [], cr [], cr [], cr [], cr [], cr [], cr [], cr [], cr [], cr [], cr [], cr [], cr [], cr [], cr [], cr [], cw (ntL nt), slB zI (ii (zaA ((uhS p is b nt).1))) (some m14), cw (ntF 0 0 0 false false e0 zG)] (by kernel_rfl) (zde (by refine qP (c' := ntF nt.u b (qQ (uhS p is b nt).1 (uhS p is b nt).2) false true e0 zG) rfl rfl rfl ?_ ?_ ?_; exact z6 _ _ _ _ _ _ _; exact zcM (by omega); exact zbc) ?_)
  refine o_b 1 [(12, bv true)] [cw (z4 1 (sv 2 0 n (n + m)) (gV 7 lz.length (some (cz, tz)))), cr [], cr (za8 n (uf i 3 8) ++ zbn m), cw (z8 4 ((uhS p is b nt).1) b 5), cw (zL ((uhS p is b nt).1) true nr (slV 25 127 (some m14))), .chan 1 (([] : List Nt).map ntE), cr [], gB lz (some (cz, tz)), cr [], cr [], cr [], cr [], cr [], cr [], cr [], cr [], cr [], cr [], cr [], cr [], cr [], cr [], cr [], cr [], cw (ntL nt), slB zI (ii (zaA ((uhS p is b nt).1))) (some m14), cw (ntF nt.u b (qQ (uhS p is b nt).1 (uhS p is b nt).2) false true e0 zG)] (by kernel_rfl) (zF (zY [(12, bv true), (11, pv 26 0), (0, pv 0 0)] (by kernel_rfl) (zQ (zU (o_d 1 [(60, bv true)] (by kernel_rfl) (zF (zC (zd9 rfl (zbE [cw (z4 1 (sv 2 0 n (n + m)) (gV 7 lz.length (some (cz, tz)))), cr [], cr (za8 n (uf i 3 8) ++ zbn m), cw (z8 4 ((uhS p is b nt).1) b 5), cw (zL ((uhS p is b nt).1) true nr (slV 25 127 (some m14))), .chan 1 (([] : List Nt).map ntE), cr [], gB lz (some (cz, tz)), cr [], cr [], cr [], cr [], cr [], cr [], cr [], cr [], cr [], cr [], cr [], cr [], cr [], cr [], cr [], cr [], cw (ntL nt), slB zI (ii (zaA ((uhS p is b nt).1))) (some m14), cw (ntF nt.u b (qQ (uhS p is b nt).1 (uhS p is b nt).2) false true e0 zG), .gone] (by kernel_rfl) (d_n 3 3 27 [(63, pv 0 2), (62, pv 0 0), (61, pv 0 0)] [cw (z4 1 (sv 2 0 n (n + m)) (gV 7 lz.length (some (cz, tz)))), cr [], cr (za8 n (uf i 3 8) ++ zbn m), cw (z8 4 ((uhS p is b nt).1) b 5), cw (zL ((uhS p is b nt).1) true nr (slV 25 127 (some m14))), .chan 1 (([] : List Nt).map ntE), cr [], gB lz (some (cz, tz)), cr [], cr [], cr [], cr [], cr [], cr [], cr [], cr [], cr [], cr [], cr [], cr [], cr [], cr [], cr [], cr [], cw (ntL nt), slB zI (ii (zaA ((uhS p is b nt).1))) (some m14), cw (ntF nt.u b (qQ (uhS p is b nt).1 (uhS p is b nt).2) false true e0 zG), .gone] [] (by kernel_rfl) rfl rfl (d_s rfl rfl rfl (by kernel_rfl) (by refine zZ (v := ntV nt.u b (qQ (uhS p is b nt).1 (uhS p is b nt).2) false true e0 zG) rfl rfl ?_; exact zbu nt.u b (qQ (uhS p is b nt).1 (uhS p is b nt).2) false true e0 zG) ?_)))))))))))
  refine d_mk (B := cw (ntF nt.u b (qQ (uhS p is b nt).1 (uhS p is b nt).2) false true e0 zG)) rfl (zgE rfl (z6 _ _ _ _ _ _ _)) rfl (by kernel_rfl) (d_clHW [0, 7, 27] [0, 7, 27, 1, 2] [cw (z4 3 (sv 4 0 n (n + m)) (gV 1 lz.length (some (cz, tz)))), gB lz (some (cz, tz)), slB zNt (zaX ([(⟨nt.u, b, qQ (uhS p is b nt).1 (uhS p is b nt).2, false, true, e0, zG⟩ : Nt)])) (some 0), cr [], cr []] [pv 0 2, slV 2 (([(⟨nt.u, b, qQ (uhS p is b nt).1 (uhS p is b nt).2, false, true, e0, zG⟩ : Nt)]).length) (some 0)] (putNC h_yard_row_head_Note_put lz ([(⟨nt.u, b, qQ (uhS p is b nt).1 (uhS p is b nt).2, false, true, e0, zG⟩ : Nt)]) (some (cz, tz)) (some 0) n m hz (fun z => by cases z) (by first | (simp; omega) | (simp [List.length_eraseIdx]; split <;> omega))) (wr_put ..) rfl rfl ⟨⟨_, rfl, qA (.inl (zaE rfl rfl (zaa (some (cz, tz)) rfl) (fun q => rfl)))⟩, ⟨⟨_, rfl, zcd hz⟩, ⟨⟨_, rfl, zhQ⟩, ⟨⟨_, rfl, zK⟩, ⟨⟨_, rfl, zK⟩, trivial⟩⟩⟩⟩⟩ (by decide) (zim lz ([(⟨nt.u, b, qQ (uhS p is b nt).1 (uhS p is b nt).2, false, true, e0, zG⟩ : Nt)]) (some (cz, tz)) (some 0) n m) ?_ (by kernel_rfl))
  rintro v1 h1' ⟨rfl, o18, g20, ⟨s19, rfl⟩ | ⟨s19, rfl⟩⟩
  ·skip
   refine ⟨(zA qI (zA (zfV s19) (zA zE (zA zE (zA zE z9))))), .tuple #[], [cw (z4 1 (sv 2 0 n (n + m)) (gV 7 ((lz ++ ([(⟨nt.u, b, qQ (uhS p is b nt).1 (uhS p is b nt).2, false, true, e0, zG⟩ : Nt)])).length) o18)), cr [], cr (za8 n (uf i 3 8) ++ zbn m), cw (z8 4 ((uhS p is b nt).1) b 5), cw (zL ((uhS p is b nt).1) true nr (slV 25 127 (some m14))), .chan 1 (([] : List Nt).map ntE), cr [], gB (lz ++ ([(⟨nt.u, b, qQ (uhS p is b nt).1 (uhS p is b nt).2, false, true, e0, zG⟩ : Nt)])) o18, cr [], cr [], cr [], cr [], cr [], cr [], cr [], cr [], cr [], cr [], cr [], cr [], cr [], cr [], cr [], cr [], cw (ntL nt), slB zI (ii (zaA ((uhS p is b nt).1))) (some m14), cw (ntF nt.u b (qQ (uhS p is b nt).1 (uhS p is b nt).2) false true e0 zG), cw (ntF nt.u b (qQ (uhS p is b nt).1 (uhS p is b nt).2) false true e0 zG)], [], (by simp [zbw]), ⟨zaB rfl rfl (zaa o18 rfl), ⟨(by cases true <;> rfl), ⟨rfl, ⟨rfl, ⟨rfl, ⟨rfl, ⟨rfl, ⟨(by cases o18 with | none => rfl | some y9 => exact qX g20), ⟨rfl, ⟨rfl, ⟨rfl, ⟨rfl, ⟨rfl, ⟨rfl, ⟨rfl, ⟨rfl, ⟨rfl, ⟨rfl, ⟨rfl, ⟨rfl, ⟨rfl, ⟨rfl, ⟨rfl, ⟨rfl, ⟨rfl, ⟨rfl, ⟨rfl, ⟨zfb, trivial⟩⟩⟩⟩⟩⟩⟩⟩⟩⟩⟩⟩⟩⟩⟩⟩⟩⟩⟩⟩⟩⟩⟩⟩⟩⟩⟩⟩, trivial, ?_⟩
   refine zcf (zC (zQ (zU (o_d 1 [(6, bv true)] (by kernel_rfl) (zF (zC (zaZ ?_)))))))
   have hD : (zcU p is b l k keep) = ((uhS p is b nt), (lz ++ ([(⟨nt.u, b, qQ (uhS p is b nt).1 (uhS p is b nt).2, false, true, e0, zG⟩ : Nt)]))) := by simp [zcU, ackN, hn9, h1, h3, hlz, zcJ]
   have hI : (uhS p is b nt).2 = true := hE13
   have hT : (zcU p is b l k keep).1.1 = ((uhS p is b nt).1) ∧ (zcU p is b l k keep).1.2 = true ∧ (zcU p is b l k keep).2 = (lz ++ ([(⟨nt.u, b, qQ (uhS p is b nt).1 (uhS p is b nt).2, false, true, e0, zG⟩ : Nt)])) := by rw [hD]; exact ⟨rfl, hI, rfl⟩
   exact ⟨trivial, [bv true], (qD rfl rfl), (zV rfl qB), rfl, ⟨reg [], [cw (z4 1 (sv 2 0 n (n + m)) (gV 7 ((lz ++ ([(⟨nt.u, b, qQ (uhS p is b nt).1 (uhS p is b nt).2, false, true, e0, zG⟩ : Nt)])).length) o18)), cr [], cr (za8 n (uf i 3 8) ++ zbn m), cw (z8 4 ((uhS p is b nt).1) b 5), cw (zL ((uhS p is b nt).1) true nr (slV 24 127 (some m14))), .chan 1 (([] : List Nt).map ntE), cr [], gB (lz ++ ([(⟨nt.u, b, qQ (uhS p is b nt).1 (uhS p is b nt).2, false, true, e0, zG⟩ : Nt)])) o18, cr [], cr [], cr [], cr [], cr [], cr [], cr [], cr [], cr [], cr [], cr [], cr [], cr [], cr [], cr [], cr [], slB zI (ii (zaA ((uhS p is b nt).1))) (some m14)]⟩, Wk.ren [0, 1, 2, 3, 4, 5, 6, 7, 8, 9, 10, 11, 12, 13, 14, 15, 16, 17, 18, 19, 20, 21, 22, 23, 25] rfl rfl (by decide) trivial ⟨.inl (zam rfl rfl (zaa o18 rfl)), ⟨.inl rfl, ⟨.inl (zci rfl (h16 rfl) hn16), ⟨.inl (zaP rfl rfl), ⟨.inl (zaj rfl), ⟨.inl (congrArg some (zac _).symm), ⟨.inl rfl, ⟨.inl (congrArg some (qX g20).symm), ⟨.inl rfl, ⟨.inl rfl, ⟨.inl rfl, ⟨.inl rfl, ⟨.inl rfl, ⟨.inl rfl, ⟨.inl rfl, ⟨.inl rfl, ⟨.inl rfl, ⟨.inl rfl, ⟨.inl rfl, ⟨.inl rfl, ⟨.inl rfl, ⟨.inl rfl, ⟨.inl rfl, ⟨.inl rfl, ⟨.inl (zaM (some m14) (fun _ => (zb5 _ _))), trivial⟩⟩⟩⟩⟩⟩⟩⟩⟩⟩⟩⟩⟩⟩⟩⟩⟩⟩⟩⟩⟩⟩⟩⟩⟩, (by simp [one, h1, h3]), true, (fun q => by cases q), (fun _ => by rw [hD]; exact hE13), (by rw [hT.1, hT.2.1, hT.2.2]; exact ⟨o18, gB (lz ++ ([(⟨nt.u, b, qQ (uhS p is b nt).1 (uhS p is b nt).2, false, true, e0, zG⟩ : Nt)])) o18, 7, 24, some m14, [slB zI (ii (zaA ((uhS p is b nt).1))) (some m14)], ⟨g20, (fun z => by cases z), rfl, .inl ⟨rfl, rfl⟩, (by decide), .inr ⟨0, m14, _, rfl, rfl, rfl, rfl, rfl⟩⟩⟩)⟩
  refine ⟨(zA qI (zA zE (zA zE (zA zE (zA zE z9))))), .tuple #[], [cw (z4 1 (sv 2 0 n (n + m)) (gV 28 ((lz ++ ([(⟨nt.u, b, qQ (uhS p is b nt).1 (uhS p is b nt).2, false, true, e0, zG⟩ : Nt)])).length) o18)), cr [], cr (za8 n (uf i 3 8) ++ zbn m), cw (z8 4 ((uhS p is b nt).1) b 5), cw (zL ((uhS p is b nt).1) true nr (slV 25 127 (some m14))), .chan 1 (([] : List Nt).map ntE), cr [], gB lz (some (cz, tz)), cr [], cr [], cr [], cr [], cr [], cr [], cr [], cr [], cr [], cr [], cr [], cr [], cr [], cr [], cr [], cr [], cw (ntL nt), slB zI (ii (zaA ((uhS p is b nt).1))) (some m14), cw (ntF nt.u b (qQ (uhS p is b nt).1 (uhS p is b nt).2) false true e0 zG), cw (ntF nt.u b (qQ (uhS p is b nt).1 (uhS p is b nt).2) false true e0 zG)], [gB (lz ++ ([(⟨nt.u, b, qQ (uhS p is b nt).1 (uhS p is b nt).2, false, true, e0, zG⟩ : Nt)])) o18], (by simp [zbw]), ⟨zaB rfl rfl (zaa o18 rfl), ⟨(by cases true <;> rfl), ⟨rfl, ⟨rfl, ⟨rfl, ⟨rfl, ⟨rfl, ⟨qX hz, ⟨rfl, ⟨rfl, ⟨rfl, ⟨rfl, ⟨rfl, ⟨rfl, ⟨rfl, ⟨rfl, ⟨rfl, ⟨rfl, ⟨rfl, ⟨rfl, ⟨rfl, ⟨rfl, ⟨rfl, ⟨rfl, ⟨rfl, ⟨rfl, ⟨rfl, ⟨zfb, trivial⟩⟩⟩⟩⟩⟩⟩⟩⟩⟩⟩⟩⟩⟩⟩⟩⟩⟩⟩⟩⟩⟩⟩⟩⟩⟩⟩⟩, ⟨(qX g20), trivial⟩, ?_⟩
  refine zcf (zC (zQ (zU (o_d 1 [(6, bv true)] (by kernel_rfl) (zF (zC (zaZ ?_)))))))
  have hD : (zcU p is b l k keep) = ((uhS p is b nt), (lz ++ ([(⟨nt.u, b, qQ (uhS p is b nt).1 (uhS p is b nt).2, false, true, e0, zG⟩ : Nt)]))) := by simp [zcU, ackN, hn9, h1, h3, hlz, zcJ]
  have hI : (uhS p is b nt).2 = true := hE13
  have hT : (zcU p is b l k keep).1.1 = ((uhS p is b nt).1) ∧ (zcU p is b l k keep).1.2 = true ∧ (zcU p is b l k keep).2 = (lz ++ ([(⟨nt.u, b, qQ (uhS p is b nt).1 (uhS p is b nt).2, false, true, e0, zG⟩ : Nt)])) := by rw [hD]; exact ⟨rfl, hI, rfl⟩
  exact ⟨trivial, [bv true], (qD rfl rfl), (zV rfl qB), rfl, ⟨reg [], [cw (z4 1 (sv 2 0 n (n + m)) (gV 25 ((lz ++ ([(⟨nt.u, b, qQ (uhS p is b nt).1 (uhS p is b nt).2, false, true, e0, zG⟩ : Nt)])).length) o18)), cr [], cr (za8 n (uf i 3 8) ++ zbn m), cw (z8 4 ((uhS p is b nt).1) b 5), cw (zL ((uhS p is b nt).1) true nr (slV 24 127 (some m14))), .chan 1 (([] : List Nt).map ntE), cr [], gB lz (some (cz, tz)), cr [], cr [], cr [], cr [], cr [], cr [], cr [], cr [], cr [], cr [], cr [], cr [], cr [], cr [], cr [], cr [], slB zI (ii (zaA ((uhS p is b nt).1))) (some m14), gB (lz ++ ([(⟨nt.u, b, qQ (uhS p is b nt).1 (uhS p is b nt).2, false, true, e0, zG⟩ : Nt)])) o18]⟩, Wk.ren [0, 1, 2, 3, 4, 5, 6, 7, 8, 9, 10, 11, 12, 13, 14, 15, 16, 17, 18, 19, 20, 21, 22, 23, 25, 28] rfl rfl (by decide) trivial ⟨.inl (zam rfl rfl (zaa o18 rfl)), ⟨.inl rfl, ⟨.inl (zci rfl (h16 rfl) hn16), ⟨.inl (zaP rfl rfl), ⟨.inl (zaj rfl), ⟨.inl (congrArg some (zac _).symm), ⟨.inl rfl, ⟨.inl (congrArg some (qX hz).symm), ⟨.inl rfl, ⟨.inl rfl, ⟨.inl rfl, ⟨.inl rfl, ⟨.inl rfl, ⟨.inl rfl, ⟨.inl rfl, ⟨.inl rfl, ⟨.inl rfl, ⟨.inl rfl, ⟨.inl rfl, ⟨.inl rfl, ⟨.inl rfl, ⟨.inl rfl, ⟨.inl rfl, ⟨.inl rfl, ⟨.inl (zaM (some m14) (fun _ => (zb5 _ _))), ⟨.inl (congrArg some (qX g20).symm), trivial⟩⟩⟩⟩⟩⟩⟩⟩⟩⟩⟩⟩⟩⟩⟩⟩⟩⟩⟩⟩⟩⟩⟩⟩⟩⟩, (by simp [one, h1, h3]), true, (fun q => by cases q), (fun _ => by rw [hD]; exact hE13), (by rw [hT.1, hT.2.1, hT.2.2]; exact ⟨o18, gB lz (some (cz, tz)), 25, 24, some m14, [slB zI (ii (zaA ((uhS p is b nt).1))) (some m14), gB (lz ++ ([(⟨nt.u, b, qQ (uhS p is b nt).1 (uhS p is b nt).2, false, true, e0, zG⟩ : Nt)])) o18], ⟨g20, (fun z => by cases z), rfl, .inr ⟨1, rfl, rfl⟩, (by decide), .inr ⟨0, m14, _, rfl, rfl, rfl, rfl, rfl⟩⟩⟩)⟩
 refine zQ (zQ (zU (o_d 1 [(30, pv 24 4)] (by kernel_rfl) (o_s (by refine zZ (v := bv nt.a) rfl rfl ?_; exact zdu rfl) ?_))))
 refine zF (zC (zad (t := nt.a) rfl (fun q => by rw [(hn9 ▸ (hnt (by assumption)).1 : (nt.a) = false)] at q; cases q) (fun _ => ?_)))
 refine zar (zC (zQ (zQ (zbE [cw (z4 1 (sv 2 0 n (n + m)) (gV 25 lz.length (some (cz, tz)))), cr [], cr (za8 n (uf i 3 8) ++ zbn m), cw (z8 4 p b 5), cw (zL p is nr (slV 6 127 q)), .chan 1 (([] : List Nt).map ntE), cr [], gB l (some (c, t)), cr [], cr [], cr [], cr [], cr [], cr [], cr [], cr [], cr [], cr [], cr [], cr [], cr [], cr [], cr [], cr [], cw (ntL nt), gB lz (some (cz, tz))] (by kernel_rfl) (d_n 4 4 26 [(42, pv 24 0), (41, pv 0 1), (40, pv 0 0), (39, pv 0 0)] [cw (z4 1 (sv 2 0 n (n + m)) (gV 25 lz.length (some (cz, tz)))), cr [], cr (za8 n (uf i 3 8) ++ zbn m), cw (z8 4 p b 5), cw (zL p is nr (slV 6 127 q)), .chan 1 (([] : List Nt).map ntE), cr [], gB l (some (c, t)), cr [], cr [], cr [], cr [], cr [], cr [], cr [], cr [], cr [], cr [], cr [], cr [], cr [], cr [], cr [], cr [], cw (ntL nt), gB lz (some (cz, tz))] [] (by kernel_rfl) rfl rfl (d_s rfl rfl rfl (by kernel_rfl) (by refine zZ (v := iv nt.u) rfl rfl ?_; exact zdu rfl) ?_))))))
 have hui : nt.u = (i : Nat) := hn9 ▸ (hnt (by assumption)).2
 refine zgl [0, 2, 1, 25, 3, 8, 9, 10, 11, 12, 13, 14, 15, 16, 17, 18, 19, 20, 21, 22, 23] [cr (z4 2 (sv 1 0 n (n + m)) (gV 3 lz.length (some (cz, tz)))), cr (za8 n (uf i 4 5) ++ zbn m), cr [], cr [], cr [], cr [], cr [], cr [], cr [], cr [], cr [], cr [], cr [], cr [], cr [], cr [], cr [], cr [], cr [], cr [], cr []] [pv 0 1, iv nt.u] (atU1C h_yard_row_yard_unit_at n m i lz.length (some (cz, tz)) nt.u hui hi) rfl rfl ⟨⟨_, rfl, qA (.inl (zaE rfl rfl (zaa (some (cz, tz)) rfl) (fun q => rfl)))⟩, ⟨⟨_, rfl, qA (.inl (zgI rfl (h16 rfl) hn16 (fun q => q)))⟩, ⟨⟨_, rfl, zK⟩, ⟨⟨_, rfl, zer (some (cz, tz))⟩, ⟨⟨_, rfl, zK⟩, ⟨⟨_, rfl, zK⟩, ⟨⟨_, rfl, zK⟩, ⟨⟨_, rfl, zK⟩, ⟨⟨_, rfl, zK⟩, ⟨⟨_, rfl, zK⟩, ⟨⟨_, rfl, zK⟩, ⟨⟨_, rfl, zK⟩, ⟨⟨_, rfl, zK⟩, ⟨⟨_, rfl, zK⟩, ⟨⟨_, rfl, zK⟩, ⟨⟨_, rfl, zK⟩, ⟨⟨_, rfl, zK⟩, ⟨⟨_, rfl, zK⟩, ⟨⟨_, rfl, zK⟩, ⟨⟨_, rfl, zK⟩, ⟨⟨_, rfl, zK⟩, trivial⟩⟩⟩⟩⟩⟩⟩⟩⟩⟩⟩⟩⟩⟩⟩⟩⟩⟩⟩⟩⟩ (by decide) ⟨_, _, ⟨rfl, rfl⟩, Nat.le_refl _, zbb [_, _, _, _, _, _, _, _, _, _, _, _, _, _, _, _, _, _, _, _, _] []⟩ ?_ (by kernel_rfl)
 rintro v1 h1' ⟨rfl, rfl⟩
 refine ⟨(zA zE (zA zE (zA zE (zA zE (zA zE (zA zE (zA zE (zA zE (zA zE (zA zE (zA zE (zA zE (zA zE (zA zE (zA zE (zA zE (zA zE (zA zE (zA zE (zA zE (zA zE z9))))))))))))))))))))), .tuple #[pv 3 0, bv true], [cw (z4 1 (sv 2 0 n (n + m)) (gV 25 lz.length (some (cz, tz)))), cr [], cr (za8 n (uf i 3 8) ++ zbn m), cw (z8 4 p b 5), cw (zL p is nr (slV 6 127 q)), .chan 1 (([] : List Nt).map ntE), cr [], gB l (some (c, t)), cr [], cr [], cr [], cr [], cr [], cr [], cr [], cr [], cr [], cr [], cr [], cr [], cr [], cr [], cr [], cr [], cw (ntL nt), gB lz (some (cz, tz))], [], ((zgL _).trans rfl), ⟨rfl, ⟨(by cases true <;> rfl), ⟨rfl, ⟨rfl, ⟨rfl, ⟨rfl, ⟨rfl, ⟨rfl, ⟨(by cases true <;> rfl), ⟨(by cases true <;> rfl), ⟨(by cases true <;> rfl), ⟨(by cases true <;> rfl), ⟨(by cases true <;> rfl), ⟨(by cases true <;> rfl), ⟨(by cases true <;> rfl), ⟨(by cases true <;> rfl), ⟨(by cases true <;> rfl), ⟨(by cases true <;> rfl), ⟨(by cases true <;> rfl), ⟨(by cases true <;> rfl), ⟨(by cases true <;> rfl), ⟨(by cases true <;> rfl), ⟨(by cases true <;> rfl), ⟨(by cases true <;> rfl), ⟨rfl, ⟨rfl, trivial⟩⟩⟩⟩⟩⟩⟩⟩⟩⟩⟩⟩⟩⟩⟩⟩⟩⟩⟩⟩⟩⟩⟩⟩⟩⟩, trivial, ?_⟩
 refine d_n 5 11 26 [(10, bv true), (9, pv 3 0), (46, bv true), (45, pv 3 0), (38, .tuple #[pv 3 0, bv true])] [cw (z4 1 (sv 2 0 n (n + m)) (gV 25 lz.length (some (cz, tz)))), cr [], cr (za8 n (uf i 3 8) ++ zbn m), cw (z8 4 p b 5), cw (zL p is nr (slV 6 127 q)), .chan 1 (([] : List Nt).map ntE), cr [], gB l (some (c, t)), cr [], cr [], cr [], cr [], cr [], cr [], cr [], cr [], cr [], cr [], cr [], cr [], cr [], cr [], cr [], cr [], cw (ntL nt), gB lz (some (cz, tz))] [⟨5, [0, 2, 1, 25, 3, 8, 9, 10, 11, 12, 13, 14, 15, 16, 17, 18, 19, 20, 21, 22, 23], [], some 26⟩, ⟨4, [24], [], none⟩] (by kernel_rfl) rfl rfl (zcf (zC (zQ (zU (o_d 1 [(47, bv true)] (by kernel_rfl) (zF (zC (zd9 rfl (zQ (zbE [cw (z4 1 (sv 2 0 n (n + m)) (gV 25 lz.length (some (cz, tz)))), cr [], cr (za8 n (uf i 3 8) ++ zbn m), cw (z8 4 p b 5), cw (zL p is nr (slV 6 127 q)), .chan 1 (([] : List Nt).map ntE), cr [], gB l (some (c, t)), cr [], cr [], cr [], cr [], cr [], cr [], cr [], cr [], cr [], cr [], cr [], cr [], cr [], cr [], cr [], cr [], cw (ntL nt), gB lz (some (cz, tz))] (by kernel_rfl) (d_n 3 3 26 [(50, pv 3 332), (49, pv 3 0), (48, pv 3 0)] [cw (z4 1 (sv 2 0 n (n + m)) (gV 25 lz.length (some (cz, tz)))), cr [], cr (za8 n (uf i 3 8) ++ zbn m), cw (z8 4 p b 5), cw (zL p is nr (slV 6 127 q)), .chan 1 (([] : List Nt).map ntE), cr [], gB l (some (c, t)), cr [], cr [], cr [], cr [], cr [], cr [], cr [], cr [], cr [], cr [], cr [], cr [], cr [], cr [], cr [], cr [], cw (ntL nt), gB lz (some (cz, tz))] [] (by kernel_rfl) rfl rfl (d_s rfl rfl rfl (by kernel_rfl) (by refine zZ (v := .chan (some 5)) rfl rfl ?_; exact (zdU 1).trans rfl) ?_))))))))))))
 refine d_s rfl rfl rfl (by kernel_rfl) (by refine zZ (v := ntE nt) rfl rfl ?_; exact zbu nt.u nt.b nt.v nt.w nt.a nt.e nt.p) ?_
 refine d_snd (k := 5) (b := ([] : List Nt).map ntE) (b2 := ([nt]).map ntE) rfl rfl rfl (by rw [List.length_map]; simp) rfl rfl ?_
 refine zcf (zC (zQ (zU (o_d 2 [(55, pv 24 0), (54, pv 3 0)] (by kernel_rfl) (o_s (by refine zZ (v := iv nt.u) rfl rfl ?_; exact zdu rfl) ?_)))))
 refine zb8 (zdI [3, 4, 5, 6] [cw (z8 1 p b 2), cw (zL p is nr (slV 3 127 q)), .chan 1 (([nt]).map ntE), cr []] [pv 0 0, iv nt.u] (UHearC h_yard_unit_hear h_yard_unit_version h_plane_Plane_Version h_yard_unit_load h_plane_Plane_Load h_plane_maybe_api_Pool_lay h_wheel_Make h_wheel_spun h_sip_Words h_sip_Of h_sip_number_byte h_sip_state_take h_sip_state_rounds h_sip_state_round h_math_bits_RotateLeft64 h_pool_Apply h_pool_may h_pool_held h_pool_fits h_pool_Check h_pool_placed h_cookie_Next p is nr q b nt nt.u) rfl rfl ⟨⟨_, rfl, qA (.inl (zbB rfl rfl (fun q => rfl)))⟩, ⟨⟨_, rfl, qA (.inl (zaO (qU q rfl) (fun q => rfl)))⟩, ⟨⟨_, rfl, qA (.inl (zca _))⟩, ⟨⟨_, rfl, zK⟩, trivial⟩⟩⟩⟩ (by decide) ?_)
 rintro v1 h1' ⟨rfl, ⟨hE21, rfl⟩ | ⟨hE21, m22, rfl⟩⟩
 ·skip
  refine ⟨(zA zE (zA zE (zA (fun h => by cases h) (zA zE z9)))), .tuple #[ntV nt.u b (qQ (uhS p is b nt).1 (uhS p is b nt).2) false true e0 zG, bv true], [cw (z4 1 (sv 2 0 n (n + m)) (gV 25 lz.length (some (cz, tz)))), cr [], cr (za8 n (uf i 3 8) ++ zbn m), cw (z8 4 p b 5), cw (zL p is nr (slV 6 127 q)), .chan 1 (([] : List Nt).map ntE), cr [], gB l (some (c, t)), cr [], cr [], cr [], cr [], cr [], cr [], cr [], cr [], cr [], cr [], cr [], cr [], cr [], cr [], cr [], cr [], cw (ntL nt), gB lz (some (cz, tz))], [], (qK (all_cons (zaU nt.u b (qQ (uhS p is b nt).1 (uhS p is b nt).2) false true e0 zG) (all_cons rfl rfl))), ⟨rfl, ⟨rfl, ⟨rfl, ⟨zch rfl rfl, ⟨zbh (qU q rfl), ⟨zac _, ⟨(by cases true <;> rfl), ⟨rfl, ⟨rfl, ⟨rfl, ⟨rfl, ⟨rfl, ⟨rfl, ⟨rfl, ⟨rfl, ⟨rfl, ⟨rfl, ⟨rfl, ⟨rfl, ⟨rfl, ⟨rfl, ⟨rfl, ⟨rfl, ⟨rfl, ⟨rfl, ⟨rfl, trivial⟩⟩⟩⟩⟩⟩⟩⟩⟩⟩⟩⟩⟩⟩⟩⟩⟩⟩⟩⟩⟩⟩⟩⟩⟩⟩, trivial, ?_⟩
  refine o_b 4 [(11, pv 26 0), (59, bv true), (58, ntV nt.u b (qQ (uhS p is b nt).1 (uhS p is b nt).2) false true e0 zG), (53, .tuple #[ntV nt.u b (qQ (uhS p is b nt).1 (uhS p is b nt).2) false true e0 zG, bv true])] [cw (z4 1 (sv 2 0 n (n + m)) (gV 25 lz.length (some (cz, tz)))), cr [], cr (za8 n (uf i 3 8) ++ zbn m), cw (z8 4 p b 5), cw (zL p is nr (slV 6 127 q)), .chan 1 (([] : List Nt).map ntE), cr [], gB l (some (c, t)), cr [], cr [], cr [], cr [], cr [], cr [], cr [], cr [], cr [], cr [], cr [], cr [], cr [], cr [], cr [], cr [], cw (ntL nt), gB lz (some (cz, tz)), cw (ntF 0 0 0 false false e0 zG)] (by kernel_rfl) (zde (by refine qP (c' := ntF nt.u b (qQ (uhS p is b nt).1 (uhS p is b nt).2) false true e0 zG) rfl rfl rfl ?_ ?_ ?_; exact z6 _ _ _ _ _ _ _; exact zcM (by omega); exact zbc) ?_)
  refine o_b 1 [(12, bv true)] [cw (z4 1 (sv 2 0 n (n + m)) (gV 25 lz.length (some (cz, tz)))), cr [], cr (za8 n (uf i 3 8) ++ zbn m), cw (z8 4 p b 5), cw (zL p is nr (slV 6 127 q)), .chan 1 (([] : List Nt).map ntE), cr [], gB l (some (c, t)), cr [], cr [], cr [], cr [], cr [], cr [], cr [], cr [], cr [], cr [], cr [], cr [], cr [], cr [], cr [], cr [], cw (ntL nt), gB lz (some (cz, tz)), cw (ntF nt.u b (qQ (uhS p is b nt).1 (uhS p is b nt).2) false true e0 zG)] (by kernel_rfl) (zF (zY [(12, bv true), (11, pv 26 0), (0, pv 0 0)] (by kernel_rfl) (zQ (zU (o_d 1 [(60, bv true)] (by kernel_rfl) (zF (zC (zd9 rfl (zbE [cw (z4 1 (sv 2 0 n (n + m)) (gV 25 lz.length (some (cz, tz)))), cr [], cr (za8 n (uf i 3 8) ++ zbn m), cw (z8 4 p b 5), cw (zL p is nr (slV 6 127 q)), .chan 1 (([] : List Nt).map ntE), cr [], gB l (some (c, t)), cr [], cr [], cr [], cr [], cr [], cr [], cr [], cr [], cr [], cr [], cr [], cr [], cr [], cr [], cr [], cr [], cw (ntL nt), gB lz (some (cz, tz)), cw (ntF nt.u b (qQ (uhS p is b nt).1 (uhS p is b nt).2) false true e0 zG), .gone] (by kernel_rfl) (d_n 3 3 27 [(63, pv 0 2), (62, pv 0 0), (61, pv 0 0)] [cw (z4 1 (sv 2 0 n (n + m)) (gV 25 lz.length (some (cz, tz)))), cr [], cr (za8 n (uf i 3 8) ++ zbn m), cw (z8 4 p b 5), cw (zL p is nr (slV 6 127 q)), .chan 1 (([] : List Nt).map ntE), cr [], gB l (some (c, t)), cr [], cr [], cr [], cr [], cr [], cr [], cr [], cr [], cr [], cr [], cr [], cr [], cr [], cr [], cr [], cr [], cw (ntL nt), gB lz (some (cz, tz)), cw (ntF nt.u b (qQ (uhS p is b nt).1 (uhS p is b nt).2) false true e0 zG), .gone] [] (by kernel_rfl) rfl rfl (d_s rfl rfl rfl (by kernel_rfl) (by refine zZ (v := ntV nt.u b (qQ (uhS p is b nt).1 (uhS p is b nt).2) false true e0 zG) rfl rfl ?_; exact zbu nt.u b (qQ (uhS p is b nt).1 (uhS p is b nt).2) false true e0 zG) ?_)))))))))))
  refine d_mk (B := cw (ntF nt.u b (qQ (uhS p is b nt).1 (uhS p is b nt).2) false true e0 zG)) rfl (zgE rfl (z6 _ _ _ _ _ _ _)) rfl (by kernel_rfl) (d_clHW [0, 25, 27] [0, 25, 27, 1, 2] [cw (z4 3 (sv 4 0 n (n + m)) (gV 1 lz.length (some (cz, tz)))), gB lz (some (cz, tz)), slB zNt (zaX ([(⟨nt.u, b, qQ (uhS p is b nt).1 (uhS p is b nt).2, false, true, e0, zG⟩ : Nt)])) (some 0), cr [], cr []] [pv 0 2, slV 2 (([(⟨nt.u, b, qQ (uhS p is b nt).1 (uhS p is b nt).2, false, true, e0, zG⟩ : Nt)]).length) (some 0)] (putNC h_yard_row_head_Note_put lz ([(⟨nt.u, b, qQ (uhS p is b nt).1 (uhS p is b nt).2, false, true, e0, zG⟩ : Nt)]) (some (cz, tz)) (some 0) n m hz (fun z => by cases z) (by first | (simp; omega) | (simp [List.length_eraseIdx]; split <;> omega))) (wr_put ..) rfl rfl ⟨⟨_, rfl, qA (.inl (zaE rfl rfl (zaa (some (cz, tz)) rfl) (fun q => rfl)))⟩, ⟨⟨_, rfl, zcd hz⟩, ⟨⟨_, rfl, zhQ⟩, ⟨⟨_, rfl, zK⟩, ⟨⟨_, rfl, zK⟩, trivial⟩⟩⟩⟩⟩ (by decide) (zim lz ([(⟨nt.u, b, qQ (uhS p is b nt).1 (uhS p is b nt).2, false, true, e0, zG⟩ : Nt)]) (some (cz, tz)) (some 0) n m) ?_ (by kernel_rfl))
  rintro v1 h1' ⟨rfl, o23, g25, ⟨s24, rfl⟩ | ⟨s24, rfl⟩⟩
  ·skip
   refine ⟨(zA qI (zA (zfV s24) (zA zE (zA zE (zA zE z9))))), .tuple #[], [cw (z4 1 (sv 2 0 n (n + m)) (gV 25 ((lz ++ ([(⟨nt.u, b, qQ (uhS p is b nt).1 (uhS p is b nt).2, false, true, e0, zG⟩ : Nt)])).length) o23)), cr [], cr (za8 n (uf i 3 8) ++ zbn m), cw (z8 4 p b 5), cw (zL p is nr (slV 6 127 q)), .chan 1 (([] : List Nt).map ntE), cr [], gB l (some (c, t)), cr [], cr [], cr [], cr [], cr [], cr [], cr [], cr [], cr [], cr [], cr [], cr [], cr [], cr [], cr [], cr [], cw (ntL nt), gB (lz ++ ([(⟨nt.u, b, qQ (uhS p is b nt).1 (uhS p is b nt).2, false, true, e0, zG⟩ : Nt)])) o23, cw (ntF nt.u b (qQ (uhS p is b nt).1 (uhS p is b nt).2) false true e0 zG), cw (ntF nt.u b (qQ (uhS p is b nt).1 (uhS p is b nt).2) false true e0 zG)], [], (by simp [zbw]), ⟨zaB rfl rfl (zaa o23 rfl), ⟨(by cases true <;> rfl), ⟨rfl, ⟨rfl, ⟨rfl, ⟨rfl, ⟨rfl, ⟨rfl, ⟨rfl, ⟨rfl, ⟨rfl, ⟨rfl, ⟨rfl, ⟨rfl, ⟨rfl, ⟨rfl, ⟨rfl, ⟨rfl, ⟨rfl, ⟨rfl, ⟨rfl, ⟨rfl, ⟨rfl, ⟨rfl, ⟨rfl, ⟨(by cases o23 with | none => rfl | some y9 => exact qX g25), ⟨rfl, ⟨zfb, trivial⟩⟩⟩⟩⟩⟩⟩⟩⟩⟩⟩⟩⟩⟩⟩⟩⟩⟩⟩⟩⟩⟩⟩⟩⟩⟩⟩⟩, trivial, ?_⟩
   refine zcf (zC (zQ (zU (o_d 1 [(6, bv true)] (by kernel_rfl) (zF (zC (zaZ ?_)))))))
   have hD : (zcU p is b l k keep) = ((uhS p is b nt), (lz ++ ([(⟨nt.u, b, qQ (uhS p is b nt).1 (uhS p is b nt).2, false, true, e0, zG⟩ : Nt)]))) := by simp [zcU, ackN, hn9, h1, h3, hlz, zcJ]
   have hT : (zcU p is b l k keep).1.1 = p ∧ (zcU p is b l k keep).1.2 = is ∧ (zcU p is b l k keep).2 = (lz ++ ([(⟨nt.u, b, qQ (uhS p is b nt).1 (uhS p is b nt).2, false, true, e0, zG⟩ : Nt)])) := by rw [hD]; exact ⟨congrArg Prod.fst hE21, congrArg Prod.snd hE21, rfl⟩
   exact ⟨trivial, [bv true], (qD rfl rfl), (zV rfl qB), rfl, ⟨reg [], [cw (z4 1 (sv 2 0 n (n + m)) (gV 24 ((lz ++ ([(⟨nt.u, b, qQ (uhS p is b nt).1 (uhS p is b nt).2, false, true, e0, zG⟩ : Nt)])).length) o23)), cr [], cr (za8 n (uf i 3 8) ++ zbn m), cw (z8 4 p b 5), cw (zL p is nr (slV 6 127 q)), .chan 1 (([] : List Nt).map ntE), cr [], gB l (some (c, t)), cr [], cr [], cr [], cr [], cr [], cr [], cr [], cr [], cr [], cr [], cr [], cr [], cr [], cr [], cr [], cr [], gB (lz ++ ([(⟨nt.u, b, qQ (uhS p is b nt).1 (uhS p is b nt).2, false, true, e0, zG⟩ : Nt)])) o23]⟩, Wk.ren [0, 1, 2, 3, 4, 5, 6, 7, 8, 9, 10, 11, 12, 13, 14, 15, 16, 17, 18, 19, 20, 21, 22, 23, 25] rfl rfl (by decide) trivial ⟨.inl (zam rfl rfl (zaa o23 rfl)), ⟨.inl rfl, ⟨.inl (zci rfl (h16 rfl) hn16), ⟨.inl (zaP rfl rfl), ⟨.inl (zaj (qU q rfl)), ⟨.inl (congrArg some (zac _).symm), ⟨.inl rfl, ⟨.inl (congrArg some (qX ho).symm), ⟨.inl rfl, ⟨.inl rfl, ⟨.inl rfl, ⟨.inl rfl, ⟨.inl rfl, ⟨.inl rfl, ⟨.inl rfl, ⟨.inl rfl, ⟨.inl rfl, ⟨.inl rfl, ⟨.inl rfl, ⟨.inl rfl, ⟨.inl rfl, ⟨.inl rfl, ⟨.inl rfl, ⟨.inl rfl, ⟨.inl (congrArg some (qX g25).symm), trivial⟩⟩⟩⟩⟩⟩⟩⟩⟩⟩⟩⟩⟩⟩⟩⟩⟩⟩⟩⟩⟩⟩⟩⟩⟩, (by simp [one, h1, h3]), false, (fun _ => by rw [hD]; exact hE21), (fun q => by cases q), (by rw [hT.1, hT.2.1, hT.2.2]; exact ⟨o23, gB l (some (c, t)), 24, 6, q, [gB (lz ++ ([(⟨nt.u, b, qQ (uhS p is b nt).1 (uhS p is b nt).2, false, true, e0, zG⟩ : Nt)])) o23], ⟨g25, (fun z => by cases z), rfl, .inr ⟨0, rfl, rfl⟩, (by decide), .inl ⟨rfl, rfl, rfl⟩⟩⟩)⟩
  refine ⟨(zA qI (zA zE (zA zE (zA zE (zA zE z9))))), .tuple #[], [cw (z4 1 (sv 2 0 n (n + m)) (gV 28 ((lz ++ ([(⟨nt.u, b, qQ (uhS p is b nt).1 (uhS p is b nt).2, false, true, e0, zG⟩ : Nt)])).length) o23)), cr [], cr (za8 n (uf i 3 8) ++ zbn m), cw (z8 4 p b 5), cw (zL p is nr (slV 6 127 q)), .chan 1 (([] : List Nt).map ntE), cr [], gB l (some (c, t)), cr [], cr [], cr [], cr [], cr [], cr [], cr [], cr [], cr [], cr [], cr [], cr [], cr [], cr [], cr [], cr [], cw (ntL nt), gB lz (some (cz, tz)), cw (ntF nt.u b (qQ (uhS p is b nt).1 (uhS p is b nt).2) false true e0 zG), cw (ntF nt.u b (qQ (uhS p is b nt).1 (uhS p is b nt).2) false true e0 zG)], [gB (lz ++ ([(⟨nt.u, b, qQ (uhS p is b nt).1 (uhS p is b nt).2, false, true, e0, zG⟩ : Nt)])) o23], (by simp [zbw]), ⟨zaB rfl rfl (zaa o23 rfl), ⟨(by cases true <;> rfl), ⟨rfl, ⟨rfl, ⟨rfl, ⟨rfl, ⟨rfl, ⟨rfl, ⟨rfl, ⟨rfl, ⟨rfl, ⟨rfl, ⟨rfl, ⟨rfl, ⟨rfl, ⟨rfl, ⟨rfl, ⟨rfl, ⟨rfl, ⟨rfl, ⟨rfl, ⟨rfl, ⟨rfl, ⟨rfl, ⟨rfl, ⟨qX hz, ⟨rfl, ⟨zfb, trivial⟩⟩⟩⟩⟩⟩⟩⟩⟩⟩⟩⟩⟩⟩⟩⟩⟩⟩⟩⟩⟩⟩⟩⟩⟩⟩⟩⟩, ⟨(qX g25), trivial⟩, ?_⟩
  refine zcf (zC (zQ (zU (o_d 1 [(6, bv true)] (by kernel_rfl) (zF (zC (zaZ ?_)))))))
  have hD : (zcU p is b l k keep) = ((uhS p is b nt), (lz ++ ([(⟨nt.u, b, qQ (uhS p is b nt).1 (uhS p is b nt).2, false, true, e0, zG⟩ : Nt)]))) := by simp [zcU, ackN, hn9, h1, h3, hlz, zcJ]
  have hT : (zcU p is b l k keep).1.1 = p ∧ (zcU p is b l k keep).1.2 = is ∧ (zcU p is b l k keep).2 = (lz ++ ([(⟨nt.u, b, qQ (uhS p is b nt).1 (uhS p is b nt).2, false, true, e0, zG⟩ : Nt)])) := by rw [hD]; exact ⟨congrArg Prod.fst hE21, congrArg Prod.snd hE21, rfl⟩
  exact ⟨trivial, [bv true], (qD rfl rfl), (zV rfl qB), rfl, ⟨reg [], [cw (z4 1 (sv 2 0 n (n + m)) (gV 24 ((lz ++ ([(⟨nt.u, b, qQ (uhS p is b nt).1 (uhS p is b nt).2, false, true, e0, zG⟩ : Nt)])).length) o23)), cr [], cr (za8 n (uf i 3 8) ++ zbn m), cw (z8 4 p b 5), cw (zL p is nr (slV 6 127 q)), .chan 1 (([] : List Nt).map ntE), cr [], gB l (some (c, t)), cr [], cr [], cr [], cr [], cr [], cr [], cr [], cr [], cr [], cr [], cr [], cr [], cr [], cr [], cr [], cr [], gB (lz ++ ([(⟨nt.u, b, qQ (uhS p is b nt).1 (uhS p is b nt).2, false, true, e0, zG⟩ : Nt)])) o23]⟩, Wk.ren [0, 1, 2, 3, 4, 5, 6, 7, 8, 9, 10, 11, 12, 13, 14, 15, 16, 17, 18, 19, 20, 21, 22, 23, 28] rfl rfl (by decide) trivial ⟨.inl (zam rfl rfl (zaa o23 rfl)), ⟨.inl rfl, ⟨.inl (zci rfl (h16 rfl) hn16), ⟨.inl (zaP rfl rfl), ⟨.inl (zaj (qU q rfl)), ⟨.inl (congrArg some (zac _).symm), ⟨.inl rfl, ⟨.inl (congrArg some (qX ho).symm), ⟨.inl rfl, ⟨.inl rfl, ⟨.inl rfl, ⟨.inl rfl, ⟨.inl rfl, ⟨.inl rfl, ⟨.inl rfl, ⟨.inl rfl, ⟨.inl rfl, ⟨.inl rfl, ⟨.inl rfl, ⟨.inl rfl, ⟨.inl rfl, ⟨.inl rfl, ⟨.inl rfl, ⟨.inl rfl, ⟨.inl (congrArg some (qX g25).symm), trivial⟩⟩⟩⟩⟩⟩⟩⟩⟩⟩⟩⟩⟩⟩⟩⟩⟩⟩⟩⟩⟩⟩⟩⟩⟩, (by simp [one, h1, h3]), false, (fun _ => by rw [hD]; exact hE21), (fun q => by cases q), (by rw [hT.1, hT.2.1, hT.2.2]; exact ⟨o23, gB l (some (c, t)), 24, 6, q, [gB (lz ++ ([(⟨nt.u, b, qQ (uhS p is b nt).1 (uhS p is b nt).2, false, true, e0, zG⟩ : Nt)])) o23], ⟨g25, (fun z => by cases z), rfl, .inr ⟨0, rfl, rfl⟩, (by decide), .inl ⟨rfl, rfl, rfl⟩⟩⟩)⟩
 refine ⟨(zA qI (zA qI (zA (fun h => by cases h) (zA zE z9)))), .tuple #[ntV nt.u b (qQ (uhS p is b nt).1 (uhS p is b nt).2) false true e0 zG, bv true], [cw (z4 1 (sv 2 0 n (n + m)) (gV 25 lz.length (some (cz, tz)))), cr [], cr (za8 n (uf i 3 8) ++ zbn m), cw (z8 4 ((uhS p is b nt).1) b 5), cw (zL ((uhS p is b nt).1) true nr (slV 26 127 (some m22))), .chan 1 (([] : List Nt).map ntE), cr [], gB l (some (c, t)), cr [], cr [], cr [], cr [], cr [], cr [], cr [], cr [], cr [], cr [], cr [], cr [], cr [], cr [], cr [], cr [], cw (ntL nt), gB lz (some (cz, tz))], [slB zI (ii (zaA ((uhS p is b nt).1))) (some m22)], (qK (all_cons (zaU nt.u b (qQ (uhS p is b nt).1 (uhS p is b nt).2) false true e0 zG) (all_cons rfl rfl))), ⟨rfl, ⟨rfl, ⟨rfl, ⟨zch rfl rfl, ⟨zbh rfl, ⟨zac _, ⟨(by cases true <;> rfl), ⟨rfl, ⟨rfl, ⟨rfl, ⟨rfl, ⟨rfl, ⟨rfl, ⟨rfl, ⟨rfl, ⟨rfl, ⟨rfl, ⟨rfl, ⟨rfl, ⟨rfl, ⟨rfl, ⟨rfl, ⟨rfl, ⟨rfl, ⟨rfl, ⟨rfl, trivial⟩⟩⟩⟩⟩⟩⟩⟩⟩⟩⟩⟩⟩⟩⟩⟩⟩⟩⟩⟩⟩⟩⟩⟩⟩⟩, ⟨(Option.some.inj (zaM (some m22) (fun _ => (zb5 _ _)))).symm, trivial⟩, ?_⟩
 refine o_b 4 [(11, pv 27 0), (59, bv true), (58, ntV nt.u b (qQ (uhS p is b nt).1 (uhS p is b nt).2) false true e0 zG), (53, .tuple #[ntV nt.u b (qQ (uhS p is b nt).1 (uhS p is b nt).2) false true e0 zG, bv true])] [cw (z4 1 (sv 2 0 n (n + m)) (gV 25 lz.length (some (cz, tz)))), cr [], cr (za8 n (uf i 3 8) ++ zbn m), cw (z8 4 ((uhS p is b nt).1) b 5), cw (zL ((uhS p is b nt).1) true nr (slV 26 127 (some m22))), .chan 1 (([] : List Nt).map ntE), cr [], gB l (some (c, t)), cr [], cr [], cr [], cr [], cr [], cr [], cr [], cr [], cr [], cr [], cr [], cr [], cr [], cr [], cr [], cr [], cw (ntL nt), gB lz (some (cz, tz)), slB zI (ii (zaA ((uhS p is b nt).1))) (some m22), cw (ntF 0 0 0 false false e0 zG)] (by kernel_rfl) (zde (by refine qP (c' := ntF nt.u b (qQ (uhS p is b nt).1 (uhS p is b nt).2) false true e0 zG) rfl rfl rfl ?_ ?_ ?_; exact z6 _ _ _ _ _ _ _; exact zcM (by omega); exact zbc) ?_)
 refine o_b 1 [(12, bv true)] [cw (z4 1 (sv 2 0 n (n + m)) (gV 25 lz.length (some (cz, tz)))), cr [], cr (za8 n (uf i 3 8) ++ zbn m), cw (z8 4 ((uhS p is b nt).1) b 5), cw (zL ((uhS p is b nt).1) true nr (slV 26 127 (some m22))), .chan 1 (([] : List Nt).map ntE), cr [], gB l (some (c, t)), cr [], cr [], cr [], cr [], cr [], cr [], cr [], cr [], cr [], cr [], cr [], cr [], cr [], cr [], cr [], cr [], cw (ntL nt), gB lz (some (cz, tz)), slB zI (ii (zaA ((uhS p is b nt).1))) (some m22), cw (ntF nt.u b (qQ (uhS p is b nt).1 (uhS p is b nt).2) false true e0 zG)] (by kernel_rfl) (zF (zY [(12, bv true), (11, pv 27 0), (0, pv 0 0)] (by kernel_rfl) (zQ (zU (o_d 1 [(60, bv true)] (by kernel_rfl) (zF (zC (zd9 rfl (zbE [cw (z4 1 (sv 2 0 n (n + m)) (gV 25 lz.length (some (cz, tz)))), cr [], cr (za8 n (uf i 3 8) ++ zbn m), cw (z8 4 ((uhS p is b nt).1) b 5), cw (zL ((uhS p is b nt).1) true nr (slV 26 127 (some m22))), .chan 1 (([] : List Nt).map ntE), cr [], gB l (some (c, t)), cr [], cr [], cr [], cr [], cr [], cr [], cr [], cr [], cr [], cr [], cr [], cr [], cr [], cr [], cr [], cr [], cw (ntL nt), gB lz (some (cz, tz)), slB zI (ii (zaA ((uhS p is b nt).1))) (some m22), cw (ntF nt.u b (qQ (uhS p is b nt).1 (uhS p is b nt).2) false true e0 zG), .gone] (by kernel_rfl) (d_n 3 3 28 [(63, pv 0 2), (62, pv 0 0), (61, pv 0 0)] [cw (z4 1 (sv 2 0 n (n + m)) (gV 25 lz.length (some (cz, tz)))), cr [], cr (za8 n (uf i 3 8) ++ zbn m), cw (z8 4 ((uhS p is b nt).1) b 5), cw (zL ((uhS p is b nt).1) true nr (slV 26 127 (some m22))), .chan 1 (([] : List Nt).map ntE), cr [], gB l (some (c, t)), cr [], cr [], cr [], cr [], cr [], cr [], cr [], cr [], cr [], cr [], cr [], cr [], cr [], cr [], cr [], cr [], cw (ntL nt), gB lz (some (cz, tz)), slB zI (ii (zaA ((uhS p is b nt).1))) (some m22), cw (ntF nt.u b (qQ (uhS p is b nt).1 (uhS p is b nt).2) false true e0 zG), .gone] [] (by kernel_rfl) rfl rfl (d_s rfl rfl rfl (by kernel_rfl) (by refine zZ (v := ntV nt.u b (qQ (uhS p is b nt).1 (uhS p is b nt).2) false true e0 zG) rfl rfl ?_; exact zbu nt.u b (qQ (uhS p is b nt).1 (uhS p is b nt).2) false true e0 zG) ?_)))))))))))
 refine d_mk (B := cw (ntF nt.u b (qQ (uhS p is b nt).1 (uhS p is b nt).2) false true e0 zG)) rfl (zgE rfl (z6 _ _ _ _ _ _ _)) rfl (by kernel_rfl) (d_clHW [0, 25, 28] [0, 25, 28, 1, 2] [cw (z4 3 (sv 4 0 n (n + m)) (gV 1 lz.length (some (cz, tz)))), gB lz (some (cz, tz)), slB zNt (zaX ([(⟨nt.u, b, qQ (uhS p is b nt).1 (uhS p is b nt).2, false, true, e0, zG⟩ : Nt)])) (some 0), cr [], cr []] [pv 0 2, slV 2 (([(⟨nt.u, b, qQ (uhS p is b nt).1 (uhS p is b nt).2, false, true, e0, zG⟩ : Nt)]).length) (some 0)] (putNC h_yard_row_head_Note_put lz ([(⟨nt.u, b, qQ (uhS p is b nt).1 (uhS p is b nt).2, false, true, e0, zG⟩ : Nt)]) (some (cz, tz)) (some 0) n m hz (fun z => by cases z) (by first | (simp; omega) | (simp [List.length_eraseIdx]; split <;> omega))) (wr_put ..) rfl rfl ⟨⟨_, rfl, qA (.inl (zaE rfl rfl (zaa (some (cz, tz)) rfl) (fun q => rfl)))⟩, ⟨⟨_, rfl, zcd hz⟩, ⟨⟨_, rfl, zhQ⟩, ⟨⟨_, rfl, zK⟩, ⟨⟨_, rfl, zK⟩, trivial⟩⟩⟩⟩⟩ (by decide) (zim lz ([(⟨nt.u, b, qQ (uhS p is b nt).1 (uhS p is b nt).2, false, true, e0, zG⟩ : Nt)]) (some (cz, tz)) (some 0) n m) ?_ (by kernel_rfl))
 rintro v1 h1' ⟨rfl, o26, g28, ⟨s27, rfl⟩ | ⟨s27, rfl⟩⟩
 ·skip
  refine ⟨(zA qI (zA (zfV s27) (zA zE (zA zE (zA zE z9))))), .tuple #[], [cw (z4 1 (sv 2 0 n (n + m)) (gV 25 ((lz ++ ([(⟨nt.u, b, qQ (uhS p is b nt).1 (uhS p is b nt).2, false, true, e0, zG⟩ : Nt)])).length) o26)), cr [], cr (za8 n (uf i 3 8) ++ zbn m), cw (z8 4 ((uhS p is b nt).1) b 5), cw (zL ((uhS p is b nt).1) true nr (slV 26 127 (some m22))), .chan 1 (([] : List Nt).map ntE), cr [], gB l (some (c, t)), cr [], cr [], cr [], cr [], cr [], cr [], cr [], cr [], cr [], cr [], cr [], cr [], cr [], cr [], cr [], cr [], cw (ntL nt), gB (lz ++ ([(⟨nt.u, b, qQ (uhS p is b nt).1 (uhS p is b nt).2, false, true, e0, zG⟩ : Nt)])) o26, slB zI (ii (zaA ((uhS p is b nt).1))) (some m22), cw (ntF nt.u b (qQ (uhS p is b nt).1 (uhS p is b nt).2) false true e0 zG), cw (ntF nt.u b (qQ (uhS p is b nt).1 (uhS p is b nt).2) false true e0 zG)], [], (by simp [zbw]), ⟨zaB rfl rfl (zaa o26 rfl), ⟨(by cases true <;> rfl), ⟨rfl, ⟨rfl, ⟨rfl, ⟨rfl, ⟨rfl, ⟨rfl, ⟨rfl, ⟨rfl, ⟨rfl, ⟨rfl, ⟨rfl, ⟨rfl, ⟨rfl, ⟨rfl, ⟨rfl, ⟨rfl, ⟨rfl, ⟨rfl, ⟨rfl, ⟨rfl, ⟨rfl, ⟨rfl, ⟨rfl, ⟨(by cases o26 with | none => rfl | some y9 => exact qX g28), ⟨rfl, ⟨rfl, ⟨zfb, trivial⟩⟩⟩⟩⟩⟩⟩⟩⟩⟩⟩⟩⟩⟩⟩⟩⟩⟩⟩⟩⟩⟩⟩⟩⟩⟩⟩⟩⟩, trivial, ?_⟩
  refine zcf (zC (zQ (zU (o_d 1 [(6, bv true)] (by kernel_rfl) (zF (zC (zaZ ?_)))))))
  have hD : (zcU p is b l k keep) = ((uhS p is b nt), (lz ++ ([(⟨nt.u, b, qQ (uhS p is b nt).1 (uhS p is b nt).2, false, true, e0, zG⟩ : Nt)]))) := by simp [zcU, ackN, hn9, h1, h3, hlz, zcJ]
  have hI : (uhS p is b nt).2 = true := hE21
  have hT : (zcU p is b l k keep).1.1 = ((uhS p is b nt).1) ∧ (zcU p is b l k keep).1.2 = true ∧ (zcU p is b l k keep).2 = (lz ++ ([(⟨nt.u, b, qQ (uhS p is b nt).1 (uhS p is b nt).2, false, true, e0, zG⟩ : Nt)])) := by rw [hD]; exact ⟨rfl, hI, rfl⟩
  exact ⟨trivial, [bv true], (qD rfl rfl), (zV rfl qB), rfl, ⟨reg [], [cw (z4 1 (sv 2 0 n (n + m)) (gV 25 ((lz ++ ([(⟨nt.u, b, qQ (uhS p is b nt).1 (uhS p is b nt).2, false, true, e0, zG⟩ : Nt)])).length) o26)), cr [], cr (za8 n (uf i 3 8) ++ zbn m), cw (z8 4 ((uhS p is b nt).1) b 5), cw (zL ((uhS p is b nt).1) true nr (slV 24 127 (some m22))), .chan 1 (([] : List Nt).map ntE), cr [], gB l (some (c, t)), cr [], cr [], cr [], cr [], cr [], cr [], cr [], cr [], cr [], cr [], cr [], cr [], cr [], cr [], cr [], cr [], slB zI (ii (zaA ((uhS p is b nt).1))) (some m22), gB (lz ++ ([(⟨nt.u, b, qQ (uhS p is b nt).1 (uhS p is b nt).2, false, true, e0, zG⟩ : Nt)])) o26]⟩, Wk.ren [0, 1, 2, 3, 4, 5, 6, 7, 8, 9, 10, 11, 12, 13, 14, 15, 16, 17, 18, 19, 20, 21, 22, 23, 26, 25] rfl rfl (by decide) trivial ⟨.inl (zam rfl rfl (zaa o26 rfl)), ⟨.inl rfl, ⟨.inl (zci rfl (h16 rfl) hn16), ⟨.inl (zaP rfl rfl), ⟨.inl (zaj rfl), ⟨.inl (congrArg some (zac _).symm), ⟨.inl rfl, ⟨.inl (congrArg some (qX ho).symm), ⟨.inl rfl, ⟨.inl rfl, ⟨.inl rfl, ⟨.inl rfl, ⟨.inl rfl, ⟨.inl rfl, ⟨.inl rfl, ⟨.inl rfl, ⟨.inl rfl, ⟨.inl rfl, ⟨.inl rfl, ⟨.inl rfl, ⟨.inl rfl, ⟨.inl rfl, ⟨.inl rfl, ⟨.inl rfl, ⟨.inl (zaM (some m22) (fun _ => (zb5 _ _))), ⟨.inl (congrArg some (qX g28).symm), trivial⟩⟩⟩⟩⟩⟩⟩⟩⟩⟩⟩⟩⟩⟩⟩⟩⟩⟩⟩⟩⟩⟩⟩⟩⟩⟩, (by simp [one, h1, h3]), true, (fun q => by cases q), (fun _ => by rw [hD]; exact hE21), (by rw [hT.1, hT.2.1, hT.2.2]; exact ⟨o26, gB l (some (c, t)), 25, 24, some m22, [slB zI (ii (zaA ((uhS p is b nt).1))) (some m22), gB (lz ++ ([(⟨nt.u, b, qQ (uhS p is b nt).1 (uhS p is b nt).2, false, true, e0, zG⟩ : Nt)])) o26], ⟨g28, (fun z => by cases z), rfl, .inr ⟨1, rfl, rfl⟩, (by decide), .inr ⟨0, m22, _, rfl, rfl, rfl, rfl, rfl⟩⟩⟩)⟩
 refine ⟨(zA qI (zA zE (zA zE (zA zE (zA zE z9))))), .tuple #[], [cw (z4 1 (sv 2 0 n (n + m)) (gV 29 ((lz ++ ([(⟨nt.u, b, qQ (uhS p is b nt).1 (uhS p is b nt).2, false, true, e0, zG⟩ : Nt)])).length) o26)), cr [], cr (za8 n (uf i 3 8) ++ zbn m), cw (z8 4 ((uhS p is b nt).1) b 5), cw (zL ((uhS p is b nt).1) true nr (slV 26 127 (some m22))), .chan 1 (([] : List Nt).map ntE), cr [], gB l (some (c, t)), cr [], cr [], cr [], cr [], cr [], cr [], cr [], cr [], cr [], cr [], cr [], cr [], cr [], cr [], cr [], cr [], cw (ntL nt), gB lz (some (cz, tz)), slB zI (ii (zaA ((uhS p is b nt).1))) (some m22), cw (ntF nt.u b (qQ (uhS p is b nt).1 (uhS p is b nt).2) false true e0 zG), cw (ntF nt.u b (qQ (uhS p is b nt).1 (uhS p is b nt).2) false true e0 zG)], [gB (lz ++ ([(⟨nt.u, b, qQ (uhS p is b nt).1 (uhS p is b nt).2, false, true, e0, zG⟩ : Nt)])) o26], (by simp [zbw]), ⟨zaB rfl rfl (zaa o26 rfl), ⟨(by cases true <;> rfl), ⟨rfl, ⟨rfl, ⟨rfl, ⟨rfl, ⟨rfl, ⟨rfl, ⟨rfl, ⟨rfl, ⟨rfl, ⟨rfl, ⟨rfl, ⟨rfl, ⟨rfl, ⟨rfl, ⟨rfl, ⟨rfl, ⟨rfl, ⟨rfl, ⟨rfl, ⟨rfl, ⟨rfl, ⟨rfl, ⟨rfl, ⟨qX hz, ⟨rfl, ⟨rfl, ⟨zfb, trivial⟩⟩⟩⟩⟩⟩⟩⟩⟩⟩⟩⟩⟩⟩⟩⟩⟩⟩⟩⟩⟩⟩⟩⟩⟩⟩⟩⟩⟩, ⟨(qX g28), trivial⟩, ?_⟩
 refine zcf (zC (zQ (zU (o_d 1 [(6, bv true)] (by kernel_rfl) (zF (zC (zaZ ?_)))))))
 have hD : (zcU p is b l k keep) = ((uhS p is b nt), (lz ++ ([(⟨nt.u, b, qQ (uhS p is b nt).1 (uhS p is b nt).2, false, true, e0, zG⟩ : Nt)]))) := by simp [zcU, ackN, hn9, h1, h3, hlz, zcJ]
 have hI : (uhS p is b nt).2 = true := hE21
 have hT : (zcU p is b l k keep).1.1 = ((uhS p is b nt).1) ∧ (zcU p is b l k keep).1.2 = true ∧ (zcU p is b l k keep).2 = (lz ++ ([(⟨nt.u, b, qQ (uhS p is b nt).1 (uhS p is b nt).2, false, true, e0, zG⟩ : Nt)])) := by rw [hD]; exact ⟨rfl, hI, rfl⟩
 exact ⟨trivial, [bv true], (qD rfl rfl), (zV rfl qB), rfl, ⟨reg [], [cw (z4 1 (sv 2 0 n (n + m)) (gV 25 ((lz ++ ([(⟨nt.u, b, qQ (uhS p is b nt).1 (uhS p is b nt).2, false, true, e0, zG⟩ : Nt)])).length) o26)), cr [], cr (za8 n (uf i 3 8) ++ zbn m), cw (z8 4 ((uhS p is b nt).1) b 5), cw (zL ((uhS p is b nt).1) true nr (slV 24 127 (some m22))), .chan 1 (([] : List Nt).map ntE), cr [], gB l (some (c, t)), cr [], cr [], cr [], cr [], cr [], cr [], cr [], cr [], cr [], cr [], cr [], cr [], cr [], cr [], cr [], cr [], slB zI (ii (zaA ((uhS p is b nt).1))) (some m22), gB (lz ++ ([(⟨nt.u, b, qQ (uhS p is b nt).1 (uhS p is b nt).2, false, true, e0, zG⟩ : Nt)])) o26]⟩, Wk.ren [0, 1, 2, 3, 4, 5, 6, 7, 8, 9, 10, 11, 12, 13, 14, 15, 16, 17, 18, 19, 20, 21, 22, 23, 26, 29] rfl rfl (by decide) trivial ⟨.inl (zam rfl rfl (zaa o26 rfl)), ⟨.inl rfl, ⟨.inl (zci rfl (h16 rfl) hn16), ⟨.inl (zaP rfl rfl), ⟨.inl (zaj rfl), ⟨.inl (congrArg some (zac _).symm), ⟨.inl rfl, ⟨.inl (congrArg some (qX ho).symm), ⟨.inl rfl, ⟨.inl rfl, ⟨.inl rfl, ⟨.inl rfl, ⟨.inl rfl, ⟨.inl rfl, ⟨.inl rfl, ⟨.inl rfl, ⟨.inl rfl, ⟨.inl rfl, ⟨.inl rfl, ⟨.inl rfl, ⟨.inl rfl, ⟨.inl rfl, ⟨.inl rfl, ⟨.inl rfl, ⟨.inl (zaM (some m22) (fun _ => (zb5 _ _))), ⟨.inl (congrArg some (qX g28).symm), trivial⟩⟩⟩⟩⟩⟩⟩⟩⟩⟩⟩⟩⟩⟩⟩⟩⟩⟩⟩⟩⟩⟩⟩⟩⟩⟩, (by simp [one, h1, h3]), true, (fun q => by cases q), (fun _ => by rw [hD]; exact hE21), (by rw [hT.1, hT.2.1, hT.2.2]; exact ⟨o26, gB l (some (c, t)), 25, 24, some m22, [slB zI (ii (zaA ((uhS p is b nt).1))) (some m22), gB (lz ++ ([(⟨nt.u, b, qQ (uhS p is b nt).1 (uhS p is b nt).2, false, true, e0, zG⟩ : Nt)])) o26], ⟨g28, (fun z => by cases z), rfl, .inr ⟨1, rfl, rfl⟩, (by decide), .inr ⟨0, m22, _, rfl, rfl, rfl, rfl, rfl⟩⟩⟩)⟩
end Go.Rh

namespace Go.Rh
section
variable {sel : List Nat} {h h1 h1' : List Blk} {ρ : Nat → Nat} {k i : Nat} {b : Blk}
theorem over_at : ∀ {sel : List Nat} {h1 : List Blk} {k i : Nat} {b : Blk}, (∀ j, sel[j]? = some k → j = i) → sel[i]? = some k → h1[i]? = some b → b.rw = true → zex k sel h1 = some b
 | [], _, _, _, _, _, h, _, _ => by simp at h
 | _ :: _, [], _, _, _, _, _, h, _ => by simp at h
 | s :: ss, c :: cs, k, 0, b, hu, h1, h2, hr => by
  simp at h1 h2; subst h1; subst h2
  simp [zex, hr]
 | s :: ss, c :: cs, k, i + 1, b, hu, h1, h2, hr => by
  have hs : s ≠ k := fun e => by have := hu 0 (by simp [e]); omega
  simp only [zex, hs, false_and, if_false]
  exact over_at (i := i) (fun j hj => by have := hu (j + 1) (by simpa using hj); omega) (by simpa using h1) (by simpa using h2) hr
theorem back_at (hk : k < h.length) (hu : ∀ j, sel[j]? = some k → j = i) (h1s : sel[i]? = some k) (h2 : h1[i]? = some b) (hr : b.rw = true) : (zdK h sel h1 ρ)[k]? = some (zaY ρ b) := by
 rw [zgt hk, over_at hu h1s h2 hr]
theorem zfu (hk : k < h.length) (hro : ∀ (j : Nat) (b : Blk), sel[j]? = some k → h1[j]? = some b → b.rw = false) : (zdK h sel h1 ρ)[k]? = h[k]? := by
 rw [zgt hk]
 cases ho : zex k sel h1 with
 | none => rfl
 | some b =>
  obtain ⟨j, e1, e2, e3⟩ := zdk ho
  rw [hro j b e1 e2] at e3; cases e3
theorem back_new (j : Nat) : (zdK h sel h1 ρ)[h.length + j]? = (h1[sel.length + j]?).map (zaY ρ) := by
 rw [zbs (Nat.le_add_right _ _), Nat.add_sub_cancel_left]
theorem zfZ : h.length ≤ (zdK h sel h1 ρ).length := by unfold zdK; simp
theorem zjq {G : Nat → Prop} (hlo : ∀ (j : Nat) k, sel[j]? = some k → G k) (hl : ∀ k, h.length ≤ k → G k) : ∀ k, ¬ G k → (zdK h sel h1 ρ)[k]? = h[k]? := fun k hk =>
 zfu (Nat.lt_of_not_le fun q => hk (hl k q)) fun i b e1 _ => absurd (hlo i k e1) hk
end
theorem gone_back {h h1 h1' : List Blk} {sel : List Nat} {n : Nat} {ρ : Nat → Nat} (hg : zem h1 h1') (hl : h1.length = sel.length) (hs : ∀ (i k : Nat) b1, sel[i]? = some k → h1[i]? = some b1 → ∃ b, h[k]? = some b ∧ Blk.view (zaY (rho sel n) b1) b) : zem h (zdK h sel h1' ρ) := by
 intro k hk
 have hkl := zJ hk
 rw [zgt hkl]
 cases ho : zex k sel h1' with
 | none => exact hk
 | some b' =>
  obtain ⟨i, e1, e2, e3⟩ := zdk ho
  have hi := zJ e1
  have e4 : h1[i]? = some (h1[i]'(by omega)) := by simp [show i < h1.length by omega]
  obtain ⟨b, hb, hv⟩ := hs i k _ e1 e4
  rw [hk] at hb; cases hb
  have hgo : h1[i]'(by omega) = .gone := by
   rcases zhy hv with hv | ⟨hv, _⟩
   ·exact absurd rfl (zdN hv).2
   ·exact zb3.1 hv
  rw [hgo] at e4
  have := hg i e4
  rw [e2] at this
  cases this
  rfl
structure FrY (F : Nat → Prop) (h h' : List Blk) : Prop where
  fr : ∀ k, ¬ F k → h'[k]? = h[k]?
  len : h.length ≤ h'.length
  gone : zem h h'
structure US where
  p : qJ
  is : Bool
  b : Int
  nr : Nat → Int × Bool
  q : Option Nat
def whB (u : US) (B : Blk) : Prop := match u.q with
 | none => ∃ c rw, B = .cells c rw
 | some c => B = slB zI (ii (zaA u.p)) (some c)
theorem whB_cells {u : US} {B : Blk} (h : whB u B) : ∃ c rw, B = .cells c rw := by
 unfold whB at h
 split at h
 ·exact h
 ·exact ⟨_, _, h⟩
theorem whB_ren {u : US} {B : Blk} {ρ : Nat → Nat} (h : whB u B) : whB u (zaY ρ B) := by
 unfold whB at h ⊢
 split at h
 ·obtain ⟨c, rw, rfl⟩ := h; exact ⟨_, _, rfl⟩
 ·subst h; exact zbC (zb5 _ _)
def pB (n : Nat) (f : Nat → Nat) (ro : Option Nat) : Blk := slB [.pointer none] (za8 n f) ro
structure YH (n : Nat) (ro : Option Nat) (x : HS) (us : Nat → US) (l : List Nt) (o : Gr) (pl : Nat → Nat) (h : List Blk) : Prop where
  inj : ∀ a b, a < 6 + 4 * n → b < 6 + 4 * n → pl a = pl b → a = b
  ro0 : ro = none → n = 0
  y : h[pl 0]? = some (cw (z4 (pl 1) (slV (pl 4) n ro) (gV (pl 5) l.length o)))
  hd : h[pl 1]? = some (cw (z5 x.p (pl 2) (pl 3) x.e x.s))
  hc : h[pl 2]? = some (.chan 200 (x.w.map zap))
  hm : h[pl 3]? = some (.map (hdM x.hd))
  ur : h[pl 4]? = some (pB n (fun j => pl (6 + 4 * j)) ro)
  way : h[pl 5]? = some (gB l o)
  ok : gOk l o
  un : ∀ j, j < n → h[pl (6 + 4 * j)]? = some (cw (z8 (pl (7 + 4 * j)) (us j).p (us j).b (pl (8 + 4 * j))))
  pn : ∀ j, j < n → h[pl (7 + 4 * j)]? = some (cw (zL (us j).p (us j).is (us j).nr (slV (pl (9 + 4 * j)) 127 (us j).q)))
  ch : ∀ j, j < n → h[pl (8 + 4 * j)]? = some (.chan 1 (([] : List Nt).map ntE))
  wh : ∀ j, j < n → ∃ B, h[pl (9 + 4 * j)]? = some B ∧ whB (us j) B
theorem YH.lt {n : Nat} {ro : Option Nat} {x : HS} {us : Nat → US} {l : List Nt} {o : Gr} {pl : Nat → Nat} {h : List Blk} (Y : YH n ro x us l o pl h) {a : Nat} (ha : a < 6 + 4 * n) : pl a < h.length := by
 rcases Nat.lt_or_ge a 6 with h1 | h1
 ·match a, h1 with
  | 0, _ => exact zJ Y.y
  | 1, _ => exact zJ Y.hd
  | 2, _ => exact zJ Y.hc
  | 3, _ => exact zJ Y.hm
  | 4, _ => exact zJ Y.ur
  | 5, _ => exact zJ Y.way
 ·obtain ⟨j, c, rfl, hc⟩ : ∃ j c, a = 6 + c + 4 * j ∧ c < 4 := ⟨(a - 6) / 4, (a - 6) % 4, by omega, by omega⟩
  have hj : j < n := by omega
  match c, hc with
  | 0, _ => exact zJ (Y.un j hj)
  | 1, _ => exact zJ (Y.pn j hj)
  | 2, _ => exact zJ (Y.ch j hj)
  | 3, _ => obtain ⟨B, hB, _⟩ := Y.wh j hj; exact zJ hB
def YT (G : Nat → Prop) (y n : Nat) (x : HS) (us : Nat → US) (l : List Nt) (h : List Blk) : Prop :=
 ∃ m o pl, YH n (some m) x us l o pl h ∧ pl 0 = y ∧ (∀ a, a < 6 + 4 * n → G (pl a)) ∧ 1 ≤ n ∧ n ≤ 16 ∧ ∀ k, h.length ≤ k → G k
theorem getElem?_map {l : List Nat} {pl : Nat → Nat} {i k : Nat} (h : (l.map pl)[i]? = some k) : ∃ a, l[i]? = some a ∧ pl a = k := by
 rw [List.getElem?_map] at h
 cases hq : l[i]? with
 | none => rw [hq] at h; cases h
 | some a => rw [hq] at h; exact ⟨a, rfl, by simpa using h⟩
section
variable {C : zab} {g : String} {G : Nat → Prop} {y n : Nat} {x x' : HS} {us us' : Nat → US} {l l' : List Nt} {h : List Blk} {ex : List Value} {V : Value} {K : zd8}
def CallF (C : zab) (g : String) (vals : List Value) (h : List Blk) (G : Nat → Prop) (hX : Prop) (S : zd8) : Prop :=
 ∃ (sel : List Nat) (h1 : List Blk) (a1 : List Value) (R : zd8), C g a1 h1 R ∧ h1.length = sel.length ∧ a1.map (zbw (rho sel h.length)) = vals ∧
  (∀ (i k : Nat) b1, sel[i]? = some k → h1[i]? = some b1 → ∃ b, h[k]? = some b ∧ Blk.view (zaY (rho sel h.length) b1) b) ∧
  (∀ (i j k : Nat) b1, i ≠ j → sel[i]? = some k → sel[j]? = some k → h1[i]? = some b1 → b1.rw = false) ∧
  (∀ (i k : Nat), sel[i]? = some k → G k) ∧ (hX → ∃ v h1', R v h1' ∧ sel.length ≤ h1'.length ∧ zcP h1 h1') ∧
  ∀ v h1', R v h1' → sel.length ≤ h1'.length → zcP h1 h1' → zem h1 h1' ∧ S (zbw (rho sel h.length) v) (zdK h sel h1' (rho sel h.length))
theorem CallF.toK {vals : List Value} {hX : Prop} (hc : CallF C g vals h G hX K) : zcV C g vals K h := by
 obtain ⟨sel, h1, a1, R, e1, e2, e3, e4, e5, _, _, e8⟩ := hc
 exact ⟨sel, h1, a1, R, e1, e2, e3, e4, e5, e8⟩
theorem glueA0 {hX : Prop} (hY : YT G y n x us l h) (hex : ex.all vpf = true) (hV : vpf V = true)
  (hC : ∀ m o, gOk l o → ∃ R, C g (pv 0 0 :: ex) (laA n m x 5 l o ++ [gB l o]) R ∧ (∀ v h', R v h' → v = V ∧ PA n m o x' l' h') ∧ (hX → ∃ v h', R v h' ∧ 6 ≤ h'.length ∧ zcP (laA n m x 5 l o ++ [gB l o]) h'))
  (hK : ∀ h', YT G y n x' us l' h' → FrY G h h' → K V h') : CallF C g (pv y 0 :: ex) h G hX K := by
 obtain ⟨m, o, pl, Y, rfl, hlo, h1, h16, hll⟩ := hY
 obtain ⟨R, hC, hR, hXX⟩ := hC m o Y.ok
 have hsel : ∀ (i k : Nat), ([0, 1, 2, 3, 4, 5].map pl)[i]? = some k → i < 6 ∧ pl i = k := fun i k e => by
  obtain ⟨a, e1, e2⟩ := getElem?_map e
  match i, e1 with
  | 0, e1 => simp at e1; subst e1; exact ⟨by omega, e2⟩
  | 1, e1 => simp at e1; subst e1; exact ⟨by omega, e2⟩
  | 2, e1 => simp at e1; subst e1; exact ⟨by omega, e2⟩
  | 3, e1 => simp at e1; subst e1; exact ⟨by omega, e2⟩
  | 4, e1 => simp at e1; subst e1; exact ⟨by omega, e2⟩
  | 5, e1 => simp at e1; subst e1; exact ⟨by omega, e2⟩
  | i + 6, e1 => simp at e1
 have hinj : ∀ (i j k : Nat), ([0, 1, 2, 3, 4, 5].map pl)[i]? = some k → ([0, 1, 2, 3, 4, 5].map pl)[j]? = some k → i = j := fun i j k e1 e2 => by
  obtain ⟨a1, a2⟩ := hsel i k e1
  obtain ⟨b1, b2⟩ := hsel j k e2
  exact Y.inj i j (by omega) (by omega) (a2.trans b2.symm)
 have hview := ze3 (ρ := rho ([0, 1, 2, 3, 4, 5].map pl) h.length) (h := h) (sel := [0, 1, 2, 3, 4, 5].map pl) (bs := laA n m x 5 l o ++ [gB l o]) ⟨⟨_, Y.y, qA (.inl (zaE rfl rfl (zaa o rfl) (fun q => q)))⟩, ⟨_, Y.hd, qA (.inl (zdi rfl rfl (fun q => q)))⟩, ⟨_, Y.hc, qA (.inl (zdj _))⟩, ⟨_, Y.hm, qA (.inl (zef _))⟩, ⟨_, Y.ur, .inr ⟨rfl, _, _, rfl⟩⟩, ⟨_, Y.way, zcd Y.ok⟩, trivial⟩
 refine ⟨[0, 1, 2, 3, 4, 5].map pl, laA n m x 5 l o ++ [gB l o], pv 0 0 :: ex, R, hC, rfl, ?_, hview, fun i j k b1 hij e1 e2 _ => absurd (hinj i j k e1 e2) hij, fun i k e => (let ⟨a1, a2⟩ := hsel i k e; a2 ▸ hlo i (by omega)), hXX, fun v h1' hRv hlen hfl => ?_⟩
 ·exact zaG rfl (za1 fun v hv => qK (List.all_eq_true.1 hex v hv))
 ·obtain ⟨rfl, o', X, k, T, hg', hX, hs, rfl⟩ := hR v h1' hRv
  have hgo : zem (laA n m x 5 l o ++ [gB l o]) (laA n m x' k l' o' ++ [X] ++ T) := by
   refine zA qI (zA qI (zA (fun h => by cases h) (zA (fun h => by cases h) (zA zE (zA (fun hg => ?_) z9)))))
   refine hX ?_
   cases o with
   | none => rfl
   | some z => cases hg
  refine ⟨hgo, ?_⟩
  ·rw [qK hV]
   have at_ : ∀ (i : Nat) b, i < 6 → (laA n m x' k l' o' ++ [X] ++ T)[i]? = some b → b.rw = true → (zdK h ([0, 1, 2, 3, 4, 5].map pl) (laA n m x' k l' o' ++ [X] ++ T) (rho ([0, 1, 2, 3, 4, 5].map pl) h.length))[pl i]? = some (zaY (rho ([0, 1, 2, 3, 4, 5].map pl) h.length) b) := fun i b hi hb hr => by
    have hs' : ([0, 1, 2, 3, 4, 5].map pl)[i]? = some (pl i) := by
     match i, hi with
     | 0, _ | 1, _ | 2, _ | 3, _ | 4, _ | 5, _ => rfl
    exact back_at (Y.lt (by omega)) (fun j hj => hinj j i _ hj hs') hs' hb hr
   have keep_ : ∀ a, a < 6 + 4 * n → 6 ≤ a ∨ a = 4 → (zdK h ([0, 1, 2, 3, 4, 5].map pl) (laA n m x' k l' o' ++ [X] ++ T) (rho ([0, 1, 2, 3, 4, 5].map pl) h.length))[pl a]? = h[pl a]? := fun a ha h6 => zfu (Y.lt ha) fun j b e1 e2 => by
    obtain ⟨a1, a2⟩ := hsel j _ e1
    have := Y.inj j a (by omega) ha a2
    have : j = 4 := by omega
    subst this
    have : b = cr [] := by simpa [laA] using e2.symm
    rw [this]; rfl
   have hpl5 : ∀ a, a < 6 + 4 * n → pl a ≠ h.length := fun a ha e => by have := Y.lt ha; omega
   refine hK _ ⟨m, o', fun a => if k = 6 ∧ a = 5 then h.length else pl a, ⟨?_, ?_, ?_, ?_, ?_, ?_, ?_, ?_, hg', ?_, ?_, ?_, ?_⟩, ?_, ?_, h1, h16, fun k hk => hll k (Nat.le_trans zfZ hk)⟩ ⟨zjq (fun j k e => by obtain ⟨a1, a2⟩ := hsel j k e; rw [← a2]; exact hlo j (by omega)) hll, zfZ, gone_back hgo rfl hview⟩
   ·intro a b ha hb e
    split at e <;> split at e
    ·omega
    ·exact absurd e.symm (hpl5 b hb)
    ·exact absurd e (hpl5 a ha)
    ·exact Y.inj a b ha hb e
   ·intro e; cases e
   ·have := at_ 0 _ (by omega) rfl rfl
    simp only [show ¬ (k = 6 ∧ 0 = 5) by omega, show ¬ (k = 6 ∧ 1 = 5) by omega, show ¬ (k = 6 ∧ 4 = 5) by omega, if_false]
    rw [this]
    rcases hs with ⟨rfl, rfl, rfl⟩ | ⟨rfl, rfl⟩
    ·exact congrArg some (zaB rfl rfl (zaa o' rfl))
    ·exact congrArg some (zaB rfl rfl (zaa o' (zgK (by simp))))
   ·have := at_ 1 _ (by omega) rfl rfl
    simp only [show ¬ (k = 6 ∧ 1 = 5) by omega, show ¬ (k = 6 ∧ 2 = 5) by omega, show ¬ (k = 6 ∧ 3 = 5) by omega, if_false]
    rw [this]; exact congrArg some (zcK rfl rfl)
   ·have := at_ 2 _ (by omega) rfl rfl
    simp only [show ¬ (k = 6 ∧ 2 = 5) by omega, if_false]
    rw [this]; exact congrArg some (qC _)
   ·have := at_ 3 _ (by omega) rfl rfl
    simp only [show ¬ (k = 6 ∧ 3 = 5) by omega, if_false]
    rw [this]; exact congrArg some (qR _)
   ·simp only [show ¬ (k = 6 ∧ 4 = 5) by omega, if_false]
    rw [keep_ 4 (by omega) (.inr rfl), Y.ur]
    have : (fun j => pl (6 + 4 * j)) = fun j => if k = 6 ∧ 6 + 4 * j = 5 then h.length else pl (6 + 4 * j) := by
     funext j; rw [if_neg (by omega)]
    rw [this]
   ·rcases hs with ⟨rfl, rfl, rfl⟩ | ⟨rfl, rfl⟩
    ·simp only [show ¬ (5 = 6 ∧ True) by omega, show ¬ ((5 : Nat) = 6 ∧ (5 : Nat) = 5) by omega, if_false]
     have := at_ 5 (gB l' o') (by omega) rfl (by cases o' <;> rfl)
     rw [this, qX hg']
    ·simp only [and_self, if_true]
     have := back_new (h := h) (sel := [0, 1, 2, 3, 4, 5].map pl) (h1 := laA n m x' 6 l' o' ++ [X] ++ [gB l' o']) (ρ := rho ([0, 1, 2, 3, 4, 5].map pl) h.length) 0
     rw [Nat.add_zero] at this
     rw [this]
     exact congrArg some (qX hg')
   ·intro j hj
    simp only [show ¬ (k = 6 ∧ 6 + 4 * j = 5) by omega, show ¬ (k = 6 ∧ 7 + 4 * j = 5) by omega, show ¬ (k = 6 ∧ 8 + 4 * j = 5) by omega, if_false]
    rw [keep_ _ (by omega) (.inl (by omega))]; exact Y.un j hj
   ·intro j hj
    simp only [show ¬ (k = 6 ∧ 7 + 4 * j = 5) by omega, show ¬ (k = 6 ∧ 9 + 4 * j = 5) by omega, if_false]
    rw [keep_ _ (by omega) (.inl (by omega))]; exact Y.pn j hj
   ·intro j hj
    simp only [show ¬ (k = 6 ∧ 8 + 4 * j = 5) by omega, if_false]
    rw [keep_ _ (by omega) (.inl (by omega))]; exact Y.ch j hj
   ·intro j hj
    simp only [show ¬ (k = 6 ∧ 9 + 4 * j = 5) by omega, if_false]
    rw [keep_ _ (by omega) (.inl (by omega))]; exact Y.wh j hj
   ·simp only [show ¬ (k = 6 ∧ 0 = 5) by omega, if_false]
   ·intro a ha
    show G (if k = 6 ∧ a = 5 then h.length else pl a)
    split
    ·exact hll _ (Nat.le_refl _)
    ·exact hlo a ha
theorem glueA (hY : YT G y n x us l h) (hex : ex.all vpf = true) (hV : vpf V = true)
  (hC : ∀ m o, gOk l o → ∃ R, C g (pv 0 0 :: ex) (laA n m x 5 l o ++ [gB l o]) R ∧ ∀ v h', R v h' → v = V ∧ PA n m o x' l' h')
  (hK : ∀ h', YT G y n x' us l' h' → FrY G h h' → K V h') : zcV C g (pv y 0 :: ex) K h :=
 (glueA0 (hX := False) hY hex hV (fun m o ho => let ⟨R, h1, h2⟩ := hC m o ho; ⟨R, h1, h2, fun q => q.elim⟩) hK).toK
end
end Go.Rh

namespace Go.Rh
def ixH (n i : Nat) : List Nat := (List.range 16).map fun j => if j < n ∧ j ≠ i then 6 + 4 * j else 1
def ixB (n i : Nat) : List Nat := [0, 1, 4, 6 + 4 * i, 7 + 4 * i, 8 + 4 * i, 9 + 4 * i, 5] ++ ixH n i
theorem ixH_at {n i j : Nat} (hj : j < 16) : (ixB n i)[8 + j]? = some (if j < n ∧ j ≠ i then 6 + 4 * j else 1) := by
 unfold ixB
 rw [List.getElem?_append_right (by simp)]
 simp [ixH, hj]
theorem ziv (n i : Nat) : (ixB n i).length = 24 := by simp [ixB, ixH]
theorem zhi {n i t a : Nat} (h : (ixB n i)[t]? = some a) : (t = 0 ∧ a = 0) ∨ (t = 1 ∧ a = 1) ∨ (t = 2 ∧ a = 4) ∨ (t = 3 ∧ a = 6 + 4 * i) ∨ (t = 4 ∧ a = 7 + 4 * i) ∨ (t = 5 ∧ a = 8 + 4 * i) ∨ (t = 6 ∧ a = 9 + 4 * i) ∨ (t = 7 ∧ a = 5) ∨ (8 ≤ t ∧ t < 24 ∧ (a = 1 ∨ ∃ j, j < n ∧ j ≠ i ∧ a = 6 + 4 * j)) := by
 have hl := zJ h
 rw [ziv] at hl
 rcases Nat.lt_or_ge t 8 with h8 | h8
 ·match t, h8 with
  | 0, _ => simp [ixB] at h; simp [h]
  | 1, _ => simp [ixB] at h; simp [h]
  | 2, _ => simp [ixB] at h; simp [h]
  | 3, _ => simp [ixB] at h; simp [h]
  | 4, _ => simp [ixB] at h; simp [h]
  | 5, _ => simp [ixB] at h; simp [h]
  | 6, _ => simp [ixB] at h; simp [h]
  | 7, _ => simp [ixB] at h; simp [h]
 ·obtain ⟨j, rfl⟩ : ∃ j, t = 8 + j := ⟨t - 8, by omega⟩
  rw [ixH_at (by omega)] at h
  refine .inr (.inr (.inr (.inr (.inr (.inr (.inr (.inr ⟨h8, hl, ?_⟩)))))))
  have h := Option.some.inj h
  split at h
  ·rename_i hc; exact .inr ⟨j, hc.1, hc.2, h.symm⟩
  ·exact .inl h.symm
structure PGok (n m i : Nat) (o0 : Gr) (l' : List Nt) (u0 u' : US) (h' : List Blk) (o : Gr) (X : Blk) (kl kw : Nat) (T : List Blk) : Prop where
  ok : gOk l' o
  gone : o0 = none → X = .gone
  eq : h' = laB n m i kl kw l' o u'.p u'.is u'.nr u'.b u'.q X ++ T
  way : (kl = 7 ∧ X = gB l' o) ∨ ∃ j, kl = 24 + j ∧ T[j]? = some (gB l' o)
  ne : kl ≠ kw
  whl : (kw = 6 ∧ ∀ B, whB u0 B → whB u' B) ∨ ∃ j B, kw = 24 + j ∧ T[j]? = some B ∧ whB u' B
def PG (n m i : Nat) (o0 : Gr) (l' : List Nt) (u0 u' : US) (h' : List Blk) : Prop := ∃ o X kl kw T, PGok n m i o0 l' u0 u' h' o X kl kw T
def upd1 (us : Nat → US) (i : Nat) (u : US) : Nat → US := fun j => if j = i then u else us j
theorem ziu (n m i kl kw : Nat) (l : List Nt) (o : Gr) (p : qJ) (is : Bool) (nr : Nat → Int × Bool) (b : Int) (q : Option Nat) (X : Blk) : (laB n m i kl kw l o p is nr b q X).length = 24 := by simp [laB]
theorem laB_hid {n m i kl kw : Nat} {l : List Nt} {o : Gr} {p : qJ} {is : Bool} {nr : Nat → Int × Bool} {b : Int} {q : Option Nat} {X : Blk} {T : List Blk} {t : Nat} (h8 : 8 ≤ t) (ht : t < 24) : (laB n m i kl kw l o p is nr b q X ++ T)[t]? = some (cr []) := by
 rw [List.getElem?_append_left (by rw [ziu]; exact ht)]
 unfold laB
 rw [List.getElem?_append_right (by simpa using h8)]
 exact List.getElem?_replicate_of_lt (by simp; omega)
section
variable {C : zab} {g : String} {F : Nat → Prop} {y n i : Nat} {x : HS} {us : Nat → US} {l l' : List Nt} {h : List Blk} {ex : List Value} {V : Value} {K : zd8}
theorem glueB2 {u' : Option Nat → US} {ok : Option Nat → Prop} (hi : i < n) (hY : YT F y n x us l h) (hex : ex.all vpf = true) (hV : vpf V = true)
  (hC : ∀ m o, gOk l o → n ≤ 16 → ∃ R, C g (pv 0 0 :: ex) (laB n m i 7 6 l o (us i).p (us i).is (us i).nr (us i).b (us i).q (gB l o)) R ∧ ∀ v h', R v h' → v = V ∧ ∃ c, ok c ∧ PG n m i o l' (us i) (u' c) h')
  (hK : ∀ c, ok c → ∀ h', YT F y n x (upd1 us i (u' c)) l' h' → FrY F h h' → K V h') : zcV C g (pv y 0 :: ex) K h := by
 obtain ⟨m, o, pl, Y, rfl, hlo, h1, h16, hll⟩ := hY
 obtain ⟨R, hC, hR⟩ := hC m o Y.ok h16
 have hix : ∀ {t a : Nat}, (ixB n i)[t]? = some a → a < 6 + 4 * n := fun {t a} e => by
  rcases zhi e with h | h | h | h | h | h | h | h | ⟨_, _, h | ⟨j, hj, _, h⟩⟩ <;> omega
 have hsel : ∀ (t a : Nat), a < 6 + 4 * n → ((ixB n i).map pl)[t]? = some (pl a) → (ixB n i)[t]? = some a := fun t a ha e => by
  obtain ⟨a', e1, e2⟩ := getElem?_map e
  have := Y.inj a' a (hix e1) ha e2
  rw [← this]; exact e1
 have huq : ∀ (t t' a : Nat), a ≠ 1 → (∀ j, a = 6 + 4 * j → j = i) → a < 6 + 4 * n → ((ixB n i).map pl)[t]? = some (pl a) → ((ixB n i).map pl)[t']? = some (pl a) → t = t' := fun t t' a h1 h2 ha e1 e2 => by
  have e1 := zhi (hsel t a ha e1)
  have e2 := zhi (hsel t' a ha e2)
  have hno : ∀ t : Nat, (8 ≤ t ∧ t < 24 ∧ (a = 1 ∨ ∃ j, j < n ∧ j ≠ i ∧ a = 6 + 4 * j)) → False := fun t q => by
   rcases q.2.2 with q | ⟨j, _, q1, q2⟩
   ·exact h1 q
   ·exact q1 (h2 j q2)
  rcases e1 with h | h | h | h | h | h | h | h | h <;> first | exact (hno _ h).elim | skip
  all_goals rcases e2 with h' | h' | h' | h' | h' | h' | h' | h' | h' <;> first | exact (hno _ h').elim | omega
 have hss : ∀ (t a : Nat), (ixB n i)[t]? = some a → ((ixB n i).map pl)[t]? = some (pl a) := fun t a e => by rw [List.getElem?_map, e]; rfl
 have hρ : ∀ (t a : Nat), (ixB n i)[t]? = some a → rho ((ixB n i).map pl) h.length t = pl a := fun t a e => zcX (hss t a e)
 have hρn : ∀ j : Nat, rho ((ixB n i).map pl) h.length (24 + j) = h.length + j := fun j => by
  rw [zgK (by rw [List.length_map, ziv]; omega), List.length_map, ziv, Nat.add_sub_cancel_left]
 have hptr : ∀ j, j < n → rho ((ixB n i).map pl) h.length (uf i 3 8 j) = pl (6 + 4 * j) := fun j hj => by
  unfold uf
  split
  ·rename_i e; subst e; exact hρ 3 _ rfl
  ·rename_i e
   refine hρ (8 + j) _ ?_
   rw [ixH_at (by omega), if_pos ⟨hj, e⟩]
 have hl24 : (laB n m i 7 6 l o (us i).p (us i).is (us i).nr (us i).b (us i).q (gB l o)).length = ((ixB n i).map pl).length := by rw [ziu, List.length_map, ziv]
 have hview : ∀ (t k : Nat) b1, ((ixB n i).map pl)[t]? = some k → (laB n m i 7 6 l o (us i).p (us i).is (us i).nr (us i).b (us i).q (gB l o))[t]? = some b1 → ∃ b, h[k]? = some b ∧ Blk.view (zaY (rho ((ixB n i).map pl) h.length) b1) b := by
  intro t k b1 e1 e2
  obtain ⟨a, e3, rfl⟩ := getElem?_map e1
  rcases zhi e3 with ⟨rfl, rfl⟩ | ⟨rfl, rfl⟩ | ⟨rfl, rfl⟩ | ⟨rfl, rfl⟩ | ⟨rfl, rfl⟩ | ⟨rfl, rfl⟩ | ⟨rfl, rfl⟩ | ⟨rfl, rfl⟩ | ⟨h8, h24, q⟩
  ·cases e2; exact ⟨_, Y.y, .inl (.inl (zaE (hρ 1 1 rfl) (by show zek _ (slV 2 n (some m)) = _; exact qU (some m) (hρ 2 4 rfl)) (zaa o (hρ 7 5 rfl)) (fun q => q)))⟩
  ·cases e2; exact ⟨_, Y.hd, zK⟩
  ·cases e2
   refine ⟨_, Y.ur, .inl (.inl ?_)⟩
   show Blk.seen (zaY _ (.cells (za8 n (uf i 3 8) ++ zbn m) false)) (.cells (za8 n (fun j => pl (6 + 4 * j)) ++ zbn m) true)
   rw [zfO hptr]; exact ⟨rfl, fun q => by cases q⟩
  ·cases e2; exact ⟨_, Y.un i hi, .inl (.inl (zbB (hρ 4 _ rfl) (hρ 5 _ rfl) (fun q => q)))⟩
  ·cases e2; exact ⟨_, Y.pn i hi, .inl (.inl (zaO (qU _ (hρ 6 _ rfl)) (fun q => q)))⟩
  ·cases e2; exact ⟨_, Y.ch i hi, .inl (.inl (zca _))⟩
  ·cases e2
   obtain ⟨B, hB, hw⟩ := Y.wh i hi
   obtain ⟨c, rw, rfl⟩ := whB_cells hw
   exact ⟨_, hB, zK⟩
  ·cases e2; exact ⟨_, Y.way, zcd Y.ok⟩
  ·have := laB_hid (n := n) (m := m) (i := i) (kl := 7) (kw := 6) (l := l) (o := o) (p := (us i).p) (is := (us i).is) (nr := (us i).nr) (b := (us i).b) (q := (us i).q) (X := gB l o) (T := []) h8 h24
   rw [List.append_nil] at this
   rw [this] at e2; cases e2
   rcases q with rfl | ⟨j, hj, _, rfl⟩
   ·exact ⟨_, Y.hd, zK⟩
   ·exact ⟨_, Y.un j hj, zK⟩
 refine ⟨(ixB n i).map pl, laB n m i 7 6 l o (us i).p (us i).is (us i).nr (us i).b (us i).q (gB l o), pv 0 0 :: ex, R, hC, hl24, ?_, hview, ?_, fun v h1' hRv hlen hfl => ?_⟩
 ·exact zaG (by show pv (rho _ _ 0) 0 = _; rw [hρ 0 0 rfl]) (za1 fun v hv => qK (List.all_eq_true.1 hex v hv))
 ·intro t t' k b1 htt e1 e2 e3
  obtain ⟨a, e4, rfl⟩ := getElem?_map e1
  have ha := hix e4
  rcases zhi e4 with ⟨rfl, rfl⟩ | ⟨rfl, rfl⟩ | ⟨rfl, rfl⟩ | ⟨rfl, rfl⟩ | ⟨rfl, rfl⟩ | ⟨rfl, rfl⟩ | ⟨rfl, rfl⟩ | ⟨rfl, rfl⟩ | ⟨h8, h24, q⟩
  ·exact absurd (huq _ _ 0 (by omega) (fun j e => by omega) ha e1 e2) htt
  ·cases e3; rfl
  ·cases e3; rfl
  ·exact absurd (huq _ _ (6 + 4 * i) (by omega) (fun j e => by omega) ha e1 e2) htt
  ·exact absurd (huq _ _ (7 + 4 * i) (by omega) (fun j e => by omega) ha e1 e2) htt
  ·exact absurd (huq _ _ (8 + 4 * i) (by omega) (fun j e => by omega) ha e1 e2) htt
  ·cases e3; rfl
  ·exact absurd (huq _ _ 5 (by omega) (fun j e => by omega) ha e1 e2) htt
  ·have := laB_hid (n := n) (m := m) (i := i) (kl := 7) (kw := 6) (l := l) (o := o) (p := (us i).p) (is := (us i).is) (nr := (us i).nr) (b := (us i).b) (q := (us i).q) (X := gB l o) (T := []) h8 h24
   rw [List.append_nil] at this
   rw [this] at e3; cases e3; rfl
 ·obtain ⟨rfl, c0, hc0, o', X, kl, kw, T, G⟩ := hR v h1' hRv
  have hK := hK c0 hc0
  generalize u' c0 = u' at G hK
  have hh := G.eq
  subst hh
  have hgt : ∀ {t : Nat}, 24 ≤ t → (laB n m i kl kw l' o' u'.p u'.is u'.nr u'.b u'.q X ++ T)[t]? = T[t - 24]? := fun {t} ht => by
   rw [List.getElem?_append_right (by rw [ziu]; exact ht), ziu]
  have hgo : zem (laB n m i 7 6 l o (us i).p (us i).is (us i).nr (us i).b (us i).q (gB l o)) (laB n m i kl kw l' o' u'.p u'.is u'.nr u'.b u'.q X ++ T) := by
   intro t ht
   have htl := zJ ht
   rw [ziu] at htl
   rcases Nat.lt_or_ge t 8 with h8 | h8
   ·match t, h8 with
    | 0, _ => cases ht
    | 1, _ => cases ht
    | 2, _ => cases ht
    | 3, _ => cases ht
    | 4, _ => cases ht
    | 5, _ => cases ht
    | 6, _ => cases ht
    | 7, _ =>
     have hg : gB l o = .gone := Option.some.inj ht
     have : X = .gone := G.gone (by
      cases o with
      | none => rfl
      | some z => cases hg)
     show some X = _
     rw [this]
   ·have := laB_hid (n := n) (m := m) (i := i) (kl := 7) (kw := 6) (l := l) (o := o) (p := (us i).p) (is := (us i).is) (nr := (us i).nr) (b := (us i).b) (q := (us i).q) (X := gB l o) (T := []) h8 htl
    rw [List.append_nil] at this
    rw [this] at ht; cases ht
  refine ⟨hgo, ?_⟩
  ·rw [qK hV]
   let H2 := zdK h ((ixB n i).map pl) (laB n m i kl kw l' o' u'.p u'.is u'.nr u'.b u'.q X ++ T) (rho ((ixB n i).map pl) h.length)
   have at_ : ∀ (t a : Nat) b, (ixB n i)[t]? = some a → a ≠ 1 → (∀ j, a = 6 + 4 * j → j = i) → (laB n m i kl kw l' o' u'.p u'.is u'.nr u'.b u'.q X ++ T)[t]? = some b → b.rw = true → H2[pl a]? = some (zaY (rho ((ixB n i).map pl) h.length) b) := fun t a b e h1 h2 hb hr =>
    back_at (Y.lt (hix e)) (fun j hj => huq j t a h1 h2 (hix e) hj (hss t a e)) (hss t a e) hb hr
   have keep_ : ∀ a, a < 6 + 4 * n → a ≠ 0 → a ≠ 5 → a ≠ 6 + 4 * i → a ≠ 7 + 4 * i → a ≠ 8 + 4 * i → H2[pl a]? = h[pl a]? := fun a ha h0 h5 h6 h7 h8 => zfu (Y.lt ha) fun t b e1 e2 => by
    rcases zhi (hsel t a ha e1) with q | ⟨rfl, q⟩ | ⟨rfl, q⟩ | q | q | q | ⟨rfl, q⟩ | q | ⟨q8, q24, q⟩ <;> first | omega | skip
    ·have : b = cr [] := by simpa [laB] using e2.symm
     rw [this]; rfl
    ·have : b = cr (za8 n (uf i 3 8) ++ zbn m) := by simpa [laB] using e2.symm
     rw [this]; rfl
    ·have : b = cr [] := by simpa [laB] using e2.symm
     rw [this]; rfl
    ·rw [laB_hid q8 q24] at e2; cases e2; rfl
   have new_ : ∀ (j : Nat), H2[h.length + j]? = (T[j]?).map (zaY (rho ((ixB n i).map pl) h.length)) := fun j => by
    have := back_new (h := h) (sel := (ixB n i).map pl) (h1 := laB n m i kl kw l' o' u'.p u'.is u'.nr u'.b u'.q X ++ T) (ρ := rho ((ixB n i).map pl) h.length) j
    rw [List.length_map, ziv, hgt (by omega), Nat.add_sub_cancel_left] at this
    exact this
   have hkl : rho ((ixB n i).map pl) h.length kl = if kl = 7 then pl 5 else h.length + (kl - 24) := by
    rcases G.way with ⟨rfl, _⟩ | ⟨j, rfl, _⟩
    ·rw [if_pos rfl]; exact hρ 7 5 rfl
    ·rw [if_neg (by omega), hρn, Nat.add_sub_cancel_left]
   have hkw : rho ((ixB n i).map pl) h.length kw = if kw = 6 then pl (9 + 4 * i) else h.length + (kw - 24) := by
    rcases G.whl with ⟨rfl, _⟩ | ⟨j, B, rfl, _, _⟩
    ·rw [if_pos rfl]; exact hρ 6 _ rfl
    ·rw [if_neg (by omega), hρn, Nat.add_sub_cancel_left]
   have hlt : ∀ a, a < 6 + 4 * n → pl a < h.length := fun a ha => Y.lt ha
   have hne := G.ne
   have h24l : kl = 7 ∨ 24 ≤ kl := by rcases G.way with ⟨rfl, _⟩ | ⟨j, rfl, _⟩ <;> omega
   have h24w : kw = 6 ∨ 24 ≤ kw := by rcases G.whl with ⟨rfl, _⟩ | ⟨j, B, rfl, _, _⟩ <;> omega
   let P2 : Nat → Nat := fun a => if a = 5 then (if kl = 7 then pl 5 else h.length + (kl - 24)) else if a = 9 + 4 * i then (if kw = 6 then pl (9 + 4 * i) else h.length + (kw - 24)) else pl a
   have p5 : P2 5 = if kl = 7 then pl 5 else h.length + (kl - 24) := if_pos rfl
   have p9 : P2 (9 + 4 * i) = if kw = 6 then pl (9 + 4 * i) else h.length + (kw - 24) := by
    show (if 9 + 4 * i = 5 then _ else _) = _
    rw [if_neg (by omega), if_pos rfl]
   have pn_ : ∀ a, a ≠ 5 → a ≠ 9 + 4 * i → P2 a = pl a := fun a h5 h9 => by
    show (if a = 5 then _ else _) = _
    rw [if_neg h5, if_neg h9]
   have plo : ∀ a, a < 6 + 4 * n → F (P2 a) := fun a ha => by
    by_cases h5 : a = 5
    ·subst h5; rw [p5]; split
     ·exact hlo 5 (by omega)
     ·exact hll _ (Nat.le_add_right _ _)
    by_cases h9 : a = 9 + 4 * i
    ·subst h9; rw [p9]; split
     ·exact hlo _ (by omega)
     ·exact hll _ (Nat.le_add_right _ _)
    rw [pn_ a h5 h9]; exact hlo a ha
   refine hK H2 ⟨m, o', P2, ⟨?_, (fun e => by cases e), ?_, ?_, ?_, ?_, ?_, ?_, G.ok, ?_, ?_, ?_, ?_⟩, pn_ 0 (by omega) (by omega), plo, h1, h16, fun k hk => hll k (Nat.le_trans zfZ hk)⟩ ⟨zjq (fun j k e => by
    obtain ⟨a, e1, rfl⟩ := getElem?_map e; exact hlo a (hix e1)) hll, zfZ, gone_back hgo hl24 hview⟩
   ·intro a b ha hb e
    have key : ∀ a, a < 6 + 4 * n → (a ≠ 5 ∧ a ≠ 9 + 4 * i ∧ P2 a = pl a ∧ P2 a < h.length) ∨ (a = 5 ∧ ((kl = 7 ∧ P2 a = pl a) ∨ (24 ≤ kl ∧ P2 a = h.length + (kl - 24)))) ∨ (a = 9 + 4 * i ∧ ((kw = 6 ∧ P2 a = pl a) ∨ (24 ≤ kw ∧ P2 a = h.length + (kw - 24)))) := fun a ha => by
     by_cases h5 : a = 5
     ·subst h5
      refine .inr (.inl ⟨rfl, ?_⟩)
      rw [p5]
      rcases h24l with q | q
      ·exact .inl ⟨q, if_pos q⟩
      ·exact .inr ⟨q, if_neg (by omega)⟩
     by_cases h9 : a = 9 + 4 * i
     ·subst h9
      refine .inr (.inr ⟨rfl, ?_⟩)
      rw [p9]
      rcases h24w with q | q
      ·exact .inl ⟨q, if_pos q⟩
      ·exact .inr ⟨q, if_neg (by omega)⟩
     exact .inl ⟨h5, h9, pn_ a h5 h9, by rw [pn_ a h5 h9]; exact hlt a ha⟩
    have ka := key a ha
    have kb := key b hb
    have la := hlt a ha
    have lb := hlt b hb
    rcases ka with ⟨a1, a2, a3, a4⟩ | ⟨a1, ⟨a2, a3⟩ | ⟨a2, a3⟩⟩ | ⟨a1, ⟨a2, a3⟩ | ⟨a2, a3⟩⟩ <;> rcases kb with ⟨b1, b2, b3, b4⟩ | ⟨b1, ⟨b2, b3⟩ | ⟨b2, b3⟩⟩ | ⟨b1, ⟨b2, b3⟩ | ⟨b2, b3⟩⟩ <;> first | omega | exact Y.inj a b ha hb (a3.symm.trans (e.trans b3))
   ·have := at_ 0 0 _ rfl (by omega) (fun j e => by omega) rfl rfl
    rw [pn_ 0 (by omega) (by omega), pn_ 1 (by omega) (by omega), pn_ 4 (by omega) (by omega), p5, this]
    exact congrArg some (zaB (hρ 1 1 rfl) (by show zek _ (slV 2 n (some m)) = _; exact qU (some m) (hρ 2 4 rfl)) (zaa o' hkl))
   ·rw [pn_ 1 (by omega) (by omega), pn_ 2 (by omega) (by omega), pn_ 3 (by omega) (by omega), keep_ 1 (by omega) (by omega) (by omega) (by omega) (by omega) (by omega)]
    exact Y.hd
   ·rw [pn_ 2 (by omega) (by omega), keep_ 2 (by omega) (by omega) (by omega) (by omega) (by omega) (by omega)]
    exact Y.hc
   ·rw [pn_ 3 (by omega) (by omega), keep_ 3 (by omega) (by omega) (by omega) (by omega) (by omega) (by omega)]
    exact Y.hm
   ·rw [pn_ 4 (by omega) (by omega), keep_ 4 (by omega) (by omega) (by omega) (by omega) (by omega) (by omega), Y.ur]
    have : (fun j => pl (6 + 4 * j)) = fun j => P2 (6 + 4 * j) := by
     funext j; rw [pn_ _ (by omega) (by omega)]
    rw [this]
   ·rw [p5]
    rcases G.way with ⟨hk7, rfl⟩ | ⟨j, hk, hT⟩
    ·rw [if_pos hk7, at_ 7 5 _ rfl (by omega) (fun j e => by omega) rfl (by cases o' <;> rfl), qX G.ok]
    ·rw [if_neg (by omega), show kl - 24 = j by omega, new_ j, hT]
     exact congrArg some (qX G.ok)
   ·intro j hj
    by_cases hji : j = i
    ·subst hji
     rw [pn_ _ (by omega) (by omega), pn_ _ (by omega) (by omega), pn_ _ (by omega) (by omega), at_ 3 _ _ rfl (by omega) (fun j' e => by omega) rfl rfl]
     simp only [upd1, if_true]
     exact congrArg some (zch (hρ 4 _ rfl) (hρ 5 _ rfl))
    ·rw [pn_ _ (by omega) (by omega), pn_ _ (by omega) (by omega), pn_ _ (by omega) (by omega), keep_ _ (by omega) (by omega) (by omega) (by omega) (by omega) (by omega)]
     simp only [upd1, hji, if_false]; exact Y.un j hj
   ·intro j hj
    by_cases hji : j = i
    ·subst hji
     rw [pn_ _ (by omega) (by omega), p9, at_ 4 _ _ rfl (by omega) (fun j' e => by omega) rfl rfl]
     simp only [upd1, if_true]
     exact congrArg some (zbh (qU _ hkw))
    ·rw [pn_ _ (by omega) (by omega), pn_ _ (by omega) (by omega), keep_ _ (by omega) (by omega) (by omega) (by omega) (by omega) (by omega)]
     simp only [upd1, hji, if_false]; exact Y.pn j hj
   ·intro j hj
    by_cases hji : j = i
    ·subst hji
     rw [pn_ _ (by omega) (by omega), at_ 5 _ _ rfl (by omega) (fun j' e => by omega) rfl rfl]
     exact congrArg some (zac _)
    ·rw [pn_ _ (by omega) (by omega), keep_ _ (by omega) (by omega) (by omega) (by omega) (by omega) (by omega)]
     exact Y.ch j hj
   ·intro j hj
    by_cases hji : j = i
    ·subst hji
     simp only [upd1, if_true]
     rw [p9]
     rcases G.whl with ⟨hk6, hw⟩ | ⟨j', B, hk, hT, hw⟩
     ·obtain ⟨B, hB, hwB⟩ := Y.wh j hj
      rw [if_pos hk6, keep_ _ (by omega) (by omega) (by omega) (by omega) (by omega) (by omega)]
      exact ⟨B, hB, hw B hwB⟩
     ·rw [if_neg (by omega), show kw - 24 = j' by omega, new_ j', hT]
      exact ⟨_, rfl, whB_ren hw⟩
    ·rw [pn_ _ (by omega) (by omega), keep_ _ (by omega) (by omega) (by omega) (by omega) (by omega) (by omega)]
     simp only [upd1, hji, if_false]; exact Y.wh j hj
theorem glueB {u' : US} (hi : i < n) (hY : YT F y n x us l h) (hex : ex.all vpf = true) (hV : vpf V = true)
  (hC : ∀ m o, gOk l o → n ≤ 16 → ∃ R, C g (pv 0 0 :: ex) (laB n m i 7 6 l o (us i).p (us i).is (us i).nr (us i).b (us i).q (gB l o)) R ∧ ∀ v h', R v h' → v = V ∧ PG n m i o l' (us i) u' h')
  (hK : ∀ h', YT F y n x (upd1 us i u') l' h' → FrY F h h' → K V h') : zcV C g (pv y 0 :: ex) K h :=
 glueB2 (u' := fun _ => u') (ok := fun _ => True) hi hY hex hV (fun m o ho h16 => let ⟨R, h1, h2⟩ := hC m o ho h16; ⟨R, h1, fun v h' hr => ⟨(h2 v h' hr).1, none, trivial, (h2 v h' hr).2⟩⟩) (fun _ _ => hK)
end
end Go.Rh

namespace Go.Rh
structure YCode (P : Program) : Prop where
  h_yard_Yard_Notes : zbi P
  h_yard_Yard_Pool : zcn P
  h_head_Head_Pool : zbQ P
  h_yard_Yard_Wish : zdv P
  h_head_Head_Wish : zdw P
  h_head_Head_waiting : zcs P
  h_pool_All : zhh P
  h_pool_Apply : zbv P
  h_pool_may : zbr P
  h_pool_held : zbm P
  h_pool_fits : zbx P
  h_pool_Check : zbf P
  h_pool_placed : zaV P
  h_cookie_Next : za7 P
  h_yard_Yard_Tick : zcm P
  h_head_Head_Send : zbP P
  h_head_Head_all : zbD P
  h_head_Head_publish : za4 P
  h_yard_row_head_Note_put : zaC P
  h_yard_Yard_Lose : zco P
  h_yard_row_head_Note_at : zah P
  h_yard_row_head_Note_drop : zai P
  h_yard_Yard_Version : zbK P
  h_yard_row_yard_unit_at : zag P
  h_plane_Plane_Version : zas P
  h_yard_Yard_Crash : zc4 P
  h_plane_Plane_Crash : zcr P
  h_yard_Yard_Deliver : zbk P
  h_head_Head_Heard : zbj P
  h_yard_unit_hear : zbO P
  h_yard_unit_version : za3 P
  h_yard_unit_load : zbq P
  h_plane_Plane_Load : zaW P
  h_plane_maybe_api_Pool_lay : qW P
  h_wheel_Make : zbI P
  h_wheel_spun : zbe P
  h_sip_Words : zbl P
  h_sip_Of : zcp P
  h_sip_number_byte : qZ P
  h_sip_state_take : zaf P
  h_sip_state_rounds : qM P
  h_sip_state_round : qO P
  h_math_bits_RotateLeft64 : zS P
  h_head_New : zdP P
  h_plane_New : zeR P
  h_yard_New : zhg P
  h_yard_row_yard_unit_put : zba P
structure UP where
  p : qJ
  is : Bool
  b : Int
  nr : Nat → Int × Bool
structure YS where
  n : Nat
  x : HS
  us : Nat → UP
  l : List Nt
def UP.u (v : UP) (q : Option Nat) : US := ⟨v.p, v.is, v.b, v.nr, q⟩
def YP (F : Nat → Prop) (y : Nat) (s : YS) (h : List Blk) : Prop := ∃ q : Nat → Option Nat, (∀ j, j < s.n → (s.us j).is = true → (q j).isSome = true) ∧ YT F y s.n s.x (fun j => (s.us j).u (q j)) s.l h
def updU (us : Nat → UP) (i : Nat) (u : UP) : Nat → UP := fun j => if j = i then u else us j
def zaq (s : YS) : YS := { s with x := (zak s.x).1, l := s.l ++ (zak s.x).2 }
def zcC (s : YS) (k : Int) : YS := { s with l := zez s.l k }
def inU (n : Nat) (u : Int) : Bool := decide (0 ≤ u ∧ u < n)
def hearU (u : UP) (n : Nt) : UP := ⟨(uhS u.p u.is u.b n).1, (uhS u.p u.is u.b n).2, u.b, u.nr⟩
def zaJ (s : YS) (k : Int) (keep : Bool) : YS :=
 if (atS s.l k).2 = true then
  (if (atS s.l k).1.a = true then { s with x := hearS s.x (atS s.l k).1, l := zcJ s.l k keep }
  else { s with us := updU s.us (atS s.l k).1.u.toNat (hearU (s.us (atS s.l k).1.u.toNat) (atS s.l k).1), l := zcJ s.l k keep ++ [ackN (atS s.l k).1.u (s.us (atS s.l k).1.u.toNat).b (uhS (s.us (atS s.l k).1.u.toNat).p (s.us (atS s.l k).1.u.toNat).is (s.us (atS s.l k).1.u.toNat).b (atS s.l k).1)] })
 else s
def zfG (s : YS) (u : Int) : Int × Bool := if inU s.n u = true then ((s.us u.toNat).p 0, (s.us u.toNat).is) else (0, false)
def NOK (s : YS) : Prop := ∀ nt ∈ s.l, nt.a = false → 0 ≤ nt.u ∧ nt.u < s.n
section
variable {P : Program} {F : Nat → Prop} {y : Nat} {s : YS} {h : List Blk} {K : zd8}
theorem YP.fun_eq {n : Nat} {x : HS} {us us' : Nat → US} {l : List Nt} (h1 : YT F y n x us l h) (he : us = us') : YT F y n x us' l h := he ▸ h1
theorem YP.of {q : Nat → Option Nat} {x' : HS} {l' : List Nt} {h' : List Blk} (hq : ∀ j, j < s.n → (s.us j).is = true → (q j).isSome = true) (hY : YT F y s.n x' (fun j => (s.us j).u (q j)) l' h') : YP F y { s with x := x', l := l' } h' := ⟨q, hq, hY⟩
theorem ziK (H : YCode P) (hY : YP F y s h) (hK : ∀ h', YP F y s h' → FrY F h h' → K (iv (s.l.length : Nat)) h') : zcV (Env P) "(*roundhouse/yard.Yard).Notes" [pv y 0] K h := by
 obtain ⟨q, hq, hY⟩ := hY
 refine glueA (ex := []) (V := iv (s.l.length : Nat)) (x' := s.x) (l' := s.l) hY rfl rfl (fun m o ho => ⟨_, YNotesAC H.h_yard_Yard_Notes s.x.p s.x.w s.x.hd s.x.e s.x.s s.n m s.l o ho, ?_⟩) (fun h' hT => hK h' (YP.of hq hT))
 rintro v h' ⟨rfl, rfl⟩
 exact ⟨rfl, o, gB s.l o, 5, [], ho, (fun z => by subst z; rfl), .inl ⟨rfl, rfl, rfl⟩, rfl⟩
theorem YTickK (H : YCode P) (hY : YP F y s h) (hl : s.l.length ≤ 900000) (hh : s.x.hd.length ≤ 1000) (hK : ∀ h', YP F y (zaq s) h' → FrY F h h' → K (iv ((zaq s).l.length : Nat)) h') : zcV (Env P) "(*roundhouse/yard.Yard).Tick" [pv y 0] K h := by
 obtain ⟨q, hq, hY⟩ := hY
 refine glueA (ex := []) (V := iv ((zaq s).l.length : Nat)) (x' := (zaq s).x) (l' := (zaq s).l) hY rfl rfl (fun m o ho => ⟨_, YTickC H.h_yard_Yard_Tick H.h_head_Head_Send H.h_head_Head_all H.h_head_Head_publish H.h_pool_Apply H.h_pool_may H.h_pool_held H.h_pool_fits H.h_pool_Check H.h_pool_placed H.h_cookie_Next H.h_yard_row_head_Note_put H.h_yard_Yard_Notes s.x.p s.x.w s.x.hd s.x.e s.x.s s.n m s.l o ho hl hh, ?_⟩) (fun h' hT => hK h' (YP.of hq hT))
 rintro v h' ⟨rfl, hp⟩
 exact ⟨rfl, hp⟩
theorem YLoseK (H : YCode P) (hY : YP F y s h) (hl : s.l.length ≤ 900000) (k : Int) (hK : ∀ h', YP F y (zcC s k) h' → FrY F h h' → K (bv (atS s.l k).2) h') : zcV (Env P) "(*roundhouse/yard.Yard).Lose" [pv y 0, iv k] K h := by
 obtain ⟨q, hq, hY⟩ := hY
 refine glueA (ex := [iv k]) (V := bv (atS s.l k).2) (x' := s.x) (l' := zez s.l k) hY rfl rfl (fun m o ho => ⟨_, YLoseC H.h_yard_Yard_Lose H.h_yard_row_head_Note_at H.h_yard_row_head_Note_drop s.x.p s.x.w s.x.hd s.x.e s.x.s s.n m s.l o ho hl k, ?_⟩) (fun h' hT => hK h' (YP.of hq hT))
 rintro v h' ⟨rfl, hp⟩
 exact ⟨rfl, hp⟩
theorem YVersionK (H : YCode P) (hY : YP F y s h) (u : Int) (hK : ∀ h', YP F y s h' → FrY F h h' → K (.tuple #[iv (zfG s u).1, bv (zfG s u).2]) h') : zcV (Env P) "(*roundhouse/yard.Yard).Version" [pv y 0, iv u] K h := by
 obtain ⟨q, hq, hY⟩ := hY
 have h1n : 1 ≤ s.n := by obtain ⟨_, _, _, _, _, _, h1, _⟩ := hY; exact h1
 obtain ⟨i, hi, hui⟩ : ∃ i : Nat, i < s.n ∧ (0 ≤ u ∧ u < (s.n : Nat) → u = (i : Nat)) := by
  by_cases hu : 0 ≤ u ∧ u < (s.n : Nat)
  ·exact ⟨u.toNat, by omega, fun _ => by omega⟩
  ·exact ⟨0, h1n, fun q => absurd q hu⟩
 refine glueB (i := i) (u' := (s.us i).u (q i)) (l' := s.l) (ex := [iv u]) (V := .tuple #[iv (zfG s u).1, bv (zfG s u).2]) hi hY rfl rfl (fun m o ho h16 => ⟨_, YVersionC H.h_yard_Yard_Version H.h_yard_row_yard_unit_at H.h_plane_Plane_Version s.n m i h16 hi s.l o ho (s.us i).p (s.us i).is (s.us i).nr (s.us i).b (q i) u hui, ?_⟩) (fun h' hT => hK h' ⟨q, hq, ?_⟩)
 ·rintro v h' ⟨rfl, rfl⟩
  refine ⟨?_, o, gB s.l o, 7, 6, [], ⟨ho, (fun z => by subst z; rfl), rfl, .inl ⟨rfl, rfl⟩, by decide, .inl ⟨rfl, fun B hB => hB⟩⟩⟩
  unfold zfG inU
  by_cases hu : 0 ≤ u ∧ u < (s.n : Nat)
  ·rw [if_pos hu, if_pos (decide_eq_true hu), show u.toNat = i by have := hui hu; omega]
  ·rw [if_neg hu, if_neg (by simpa using hu)]
 ·refine YP.fun_eq hT ?_
  funext j
  unfold upd1; split
  ·rename_i e; rw [e]
  ·rfl
theorem atS_mem {l : List Nt} {k : Int} (h : (atS l k).2 = true) : (atS l k).1 ∈ l := by
 have hin := atS_in h
 unfold atS
 rw [if_pos hin]
 exact List.mem_of_getElem? (nts_get (l := l) (k := k.toNat) (by omega))
theorem zg4 (H : YCode P) (hY : YP F y s h) (hl : s.l.length ≤ 900000) (hN : NOK s) (k : Int) (keep : Bool) (hK : ∀ h', YP F y (zaJ s k keep) h' → FrY F h h' → K (bv (atS s.l k).2) h') : zcV (Env P) "(*roundhouse/yard.Yard).Deliver" [pv y 0, iv k, bv keep] K h := by
 obtain ⟨q, hq, hY⟩ := hY
 by_cases hack : (atS s.l k).2 = true → (atS s.l k).1.a = true
 ·refine glueA (ex := [iv k, bv keep]) (V := bv (atS s.l k).2) (x' := (ackS s.x s.l k keep).1) (l' := (ackS s.x s.l k keep).2) hY rfl rfl (fun m o ho => ⟨_, YDeliverAC H.h_yard_Yard_Deliver H.h_yard_row_head_Note_at H.h_yard_row_head_Note_drop H.h_head_Head_Heard s.x.p s.x.w s.x.hd s.x.e s.x.s s.n m s.l o ho hl k keep hack, ?_⟩) (fun h' hT => hK h' ?_)
  ·rintro v h' ⟨rfl, hp⟩
   exact ⟨rfl, hp⟩
  ·have : zaJ s k keep = { s with x := (ackS s.x s.l k keep).1, l := (ackS s.x s.l k keep).2 } := by
    unfold zaJ ackS
    by_cases hf : (atS s.l k).2 = true
    ·rw [if_pos hf, if_pos hf, if_pos (hack hf)]; rfl
    ·rw [if_neg hf, if_neg hf]
   rw [this]
   exact YP.of hq hT
 ·have hf : (atS s.l k).2 = true := Decidable.byContradiction fun e => hack fun q => absurd q e
  have ha : (atS s.l k).1.a = false := by
   cases e : (atS s.l k).1.a with
   | true => exact absurd (fun _ => e) hack
   | false => rfl
  obtain ⟨hu0, hun⟩ := hN _ (atS_mem hf) ha
  obtain ⟨i, hi⟩ : ∃ i : Nat, (atS s.l k).1.u = (i : Nat) := ⟨(atS s.l k).1.u.toNat, by omega⟩
  have hin : i < s.n := by omega
  have hd : ∀ ld, zcU (s.us i).p (s.us i).is (s.us i).b s.l k keep = ld → ld = (uhS (s.us i).p (s.us i).is (s.us i).b (atS s.l k).1, zcJ s.l k keep ++ [ackN (atS s.l k).1.u (s.us i).b (uhS (s.us i).p (s.us i).is (s.us i).b (atS s.l k).1)]) := by
   rintro ld rfl
   unfold zcU; rw [if_pos hf]; rfl
  have hds : zaJ s k keep = { s with us := updU s.us i (hearU (s.us i) (atS s.l k).1), l := zcJ s.l k keep ++ [ackN (atS s.l k).1.u (s.us i).b (uhS (s.us i).p (s.us i).is (s.us i).b (atS s.l k).1)] } := by
   unfold zaJ
   rw [if_pos hf, if_neg (by rw [ha]; simp), show (atS s.l k).1.u.toNat = i by omega]
  -- the capacity of the new wheel is not known ahead: one contract, its answers by cases
  have key := fun m o ho h16 => YDeliverBC H.h_yard_Yard_Deliver H.h_yard_row_head_Note_at H.h_yard_row_head_Note_drop H.h_yard_row_yard_unit_at H.h_yard_unit_hear H.h_yard_unit_version H.h_plane_Plane_Version H.h_yard_unit_load H.h_plane_Plane_Load H.h_plane_maybe_api_Pool_lay H.h_wheel_Make H.h_wheel_spun H.h_sip_Words H.h_sip_Of H.h_sip_number_byte H.h_sip_state_take H.h_sip_state_rounds H.h_sip_state_round H.h_math_bits_RotateLeft64 H.h_pool_Apply H.h_pool_may H.h_pool_held H.h_pool_fits H.h_pool_Check H.h_pool_placed H.h_cookie_Next H.h_yard_row_head_Note_put H.h_head_Head_Heard s.n m i h16 hin s.l o ho hl (s.us i).p (s.us i).is (s.us i).nr (s.us i).b (q i) k keep (fun _ => ⟨ha, hi⟩) (atS s.l k).1 rfl
  refine glueB2 (i := i) (u' := fun c => (hearU (s.us i) (atS s.l k).1).u c) (ok := fun c => (uhS (s.us i).p (s.us i).is (s.us i).b (atS s.l k).1).2 = true → c.isSome = true) (l' := zcJ s.l k keep ++ [ackN (atS s.l k).1.u (s.us i).b (uhS (s.us i).p (s.us i).is (s.us i).b (atS s.l k).1)]) (ex := [iv k, bv keep]) (V := bv (atS s.l k).2) hin hY rfl rfl (fun m o ho h16 => ⟨_, key m o ho h16, ?_⟩) (fun c hc h' hT => hK h' ?_)
  ·rintro v h' ⟨rfl, ld, e1, e2, o', X, kl, kw, qw, T, G⟩
   have hdd := hd _ rfl
   rw [hdd] at G e1 e2
   refine ⟨rfl, qw, ?_, o', X, kl, kw, T, ⟨G.ok, G.gone, G.eq, G.way, G.ne, ?_⟩⟩
   ·intro his
    rcases G.whl with ⟨hld, _, hqw⟩ | ⟨j, c, B, _, _, hqw, _, _⟩
    ·have := e1 hld
     simp only at this
     rw [this] at his
     rw [hqw]; exact hq i hin his
    ·rw [hqw]; rfl
   ·rcases G.whl with ⟨hld, hkw, hqw⟩ | ⟨j, c, B, hld, hkw, hqw, hT, hB⟩
    ·refine .inl ⟨hkw, fun B hB => ?_⟩
     have e1 := e1 hld
     simp only at e1
     subst hqw
     unfold whB at hB ⊢
     simp only [UP.u, hearU, e1] at hB ⊢
     exact hB
    ·refine .inr ⟨j, B, hkw, hT, ?_⟩
     subst hqw
     unfold whB
     simp only [UP.u, hearU]
     exact hB
  ·rw [hds]
   refine ⟨fun j => if j = i then c else q j, ?_, ?_⟩
   ·intro j hj his
    simp only [updU] at his
    by_cases e : j = i
    ·rw [if_pos e] at his; simp only [e, if_true]; exact hc his
    ·rw [if_neg e] at his; simp only [e, if_false]; exact hq j hj his
   ·refine YP.fun_eq hT ?_
    funext j
    unfold upd1 updU
    by_cases e : j = i <;> simp [e]
end
end Go.Rh

namespace Go.Rh
section
variable {C : zab} {un : Nat → Nat → Bool} {K : St → Prop} {L : List (Nat × Value)} {h : List Blk} {i nid : Nat} {log : List Foot}
theorem d_mkF {d : Nat} {op : IOp} {r : List ICell} {v : Value} {B : Blk} (hm : op.makes = true) (hs : zO op (evf (reg L)) (hf h) nid = some (v, .push B)) (hg : h[nid]? = some .gone) (hfit : fits un ⟨i, [], [nid], none⟩ log)
  (hk : GD C un (i + 1) (nid + 1) r (⟨i, [], [nid], none⟩ :: log) K ⟨reg ((d, v) :: L), h.set nid B⟩) : GD C un i nid (⟨some d, op, none⟩ :: r) log K ⟨reg L, h⟩ := by
 refine ⟨?_⟩
 show za6 C un ⟨i, nid, ⟨some d, op, none⟩⟩ log (fun log' s' => wpD C un (zbz (i + 1) (if op.makes then nid + 1 else nid) r) log' K s') ⟨reg L, h⟩
 have hsp : qF op = 0 := by cases op <;> first | rfl | cases hm
 have hrd : rdE op (evf (reg L)) = [] := by unfold rdE; rw [zis hm]; rfl
 refine (za0 (fun _ => hsp)).2 ⟨⟨i, [], [nid], none⟩, ⟨zaw (reg L) (some d) v, h.set nid B⟩, ?_, hfit, ?_⟩
 ·simp [ziC, gJ, zbW, hs, hrd, hg]
 ·have hk := hk.out
  simp only [hm, if_true]
  exact hk
theorem d_callF {d : Nat} {g : String} {args : List Opd} {r : List ICell} {R : zd8} (sel : List Nat) (h1 : List Blk) (a1 : List Value) (hC : C g a1 h1 R) (hl : h1.length = sel.length) (ha : a1.map (zbw (rho sel h.length)) = args.map (evf (reg L)))
  (hs : ∀ (i k : Nat) b1, sel[i]? = some k → h1[i]? = some b1 → ∃ b, h[k]? = some b ∧ Blk.view (zaY (rho sel h.length) b1) b)
  (hd : ∀ (i j k : Nat) b1, i ≠ j → sel[i]? = some k → sel[j]? = some k → h1[i]? = some b1 → b1.rw = false)
  (hfit : fits un ⟨i, sel, zcA sel h1, some h.length⟩ log) (hx : ∃ v h1', R v h1' ∧ sel.length ≤ h1'.length ∧ zcP h1 h1')
  (hK : ∀ v h1', R v h1' → zem h1 h1' ∧ GD C un (i + 1) nid r (⟨i, sel, zcA sel h1, some h.length⟩ :: log) K ⟨reg ((d, zbw (rho sel h.length) v) :: L), zdK h sel h1' (rho sel h.length)⟩) : GD C un i nid (⟨some d, .call g args, none⟩ :: r) log K ⟨reg L, h⟩ :=
 ⟨⟨sel, h1, a1, R, hC, hl, ha, hs, hd, hfit, fun _ => hx, fun v h1' hR _ _ => ⟨(hK v h1' hR).1, (hK v h1' hR).2.out⟩⟩⟩
end
theorem ptrs_succ (k : Nat) (f : Nat → Nat) : za8 k f ++ [pv (f k) 0] = za8 (k + 1) f := by
 simp [za8, List.range_succ]
theorem putUC {P : Program} (hc : zba P) (k : Nat) (hk : k ≤ 1000) (f : Nat → Nat) (ro : Option Nat) (ho : ro = none → k = 0) (w : Value) (T : List Blk) :
  Env P "(*roundhouse/yard.row[*roundhouse/yard.unit]).put" [pv 0 1, sv 2 0 1 1] ([cw [pv 3 0, slV 1 k ro, w], pB k f ro, cw [pv (f k) 0], cr []] ++ T)
   (fun v h' => v = .tuple #[] ∧ ∃ m, (ro.isSome = true ∧ h' = [cw [pv 3 0, slV 1 (k + 1) (some m), w], pB (k + 1) f (some m), cw [pv (f k) 0], cr []] ++ T) ∨ h' = [cw [pv 3 0, slV (4 + T.length) (k + 1) (some m), w], pB k f ro, cw [pv (f k) 0], cr []] ++ T ++ [pB (k + 1) f (some m)]) := by
 refine Env.by2 hc ?_
 unfold zbF
 show GC _ _ _ _ ⟨reg [(0, pv 0 1), (1, sv 2 0 1 1)], [cw [pv 3 0, slV 1 k ro, w], pB k f ro, cw [pv (f k) 0], cr []] ++ T⟩
 refine zU (o_d 6 [(9, sv 2 0 1 1), (8, slV 1 k ro), (7, pv 0 1), (6, pv 0 1), (5, pv 0 1), (4, pv 0 1)] (by kernel_rfl) (zio (k := 1) (n := k) (o := ro) (q := 1) (cs := za8 k f) (xs := [pv (f k) 0]) (cs2 := za8 (k + 1) f) (zl := [.pointer none]) rfl rfl rfl (fun m q => by subst q; rfl) (fun q => by have := ho q; subst this; exact ⟨rfl, rfl⟩) (by simp [za8]) rfl rfl (zbS rfl rfl (by simp)) rfl (by omega) (by omega) (ptrs_succ k f) (fun m q => ?_) (fun m => ?_)))
 ·subst q
  exact o_b 3 [(12, pv 0 1), (11, pv 0 1)] ([cw [pv 3 0, slV 1 (k + 1) (some m), w], pB (k + 1) f (some m), cw [pv (f k) 0], cr []] ++ T) (by kernel_rfl) (zF ⟨trivial, _, .inl rfl, [], rfl, qB, rfl, m, .inl ⟨rfl, rfl⟩⟩)
 ·have hl : ([cw [pv 3 0, slV 1 k ro, w], pB k f ro, cw [pv (f k) 0], cr []] ++ T).length = 4 + T.length := by simp; omega
  rw [hl]
  exact o_b 3 [(12, pv 0 1), (11, pv 0 1)] ([cw [pv 3 0, slV (4 + T.length) (k + 1) (some m), w], pB k f ro, cw [pv (f k) 0], cr []] ++ T ++ [pB (k + 1) f (some m)]) (by kernel_rfl) (zF ⟨trivial, _, .inl rfl, [], rfl, qB, rfl, m, .inr rfl⟩)
def u00 : US := ⟨zG, false, 0, nr0, none⟩
def nyS (p : qJ) (n : Nat) : YS := ⟨n, newHS p (n : Nat), fun _ => ⟨zG, false, 0, nr0⟩, []⟩
def YHn (k : Nat) (x : HS) (h : List Blk) : Prop := ∃ ro pl, YH k ro x (fun _ => u00) [] none pl h ∧ pl 0 = 0
theorem zf9 {h T : List Blk} {k : Nat} {b : Blk} (hb : h[k]? = some b) : (h ++ T)[k]? = some b := by
 rw [List.getElem?_append_left (zJ hb)]; exact hb
theorem zhD {h T : List Blk} (j : Nat) : (h ++ T)[h.length + j]? = T[j]? := by
 rw [List.getElem?_append_right (Nat.le_add_right _ _), Nat.add_sub_cancel_left]
theorem YH.more {k : Nat} {ro : Option Nat} {x : HS} {us : Nat → US} {l : List Nt} {o : Gr} {pl : Nat → Nat} {h : List Blk} (Y : YH k ro x us l o pl h) (T : List Blk) : YH k ro x us l o pl (h ++ T) :=
 ⟨Y.inj, Y.ro0, zf9 Y.y, zf9 Y.hd, zf9 Y.hc, zf9 Y.hm, zf9 Y.ur, zf9 Y.way, Y.ok, fun j hj => zf9 (Y.un j hj), fun j hj => zf9 (Y.pn j hj), fun j hj => zf9 (Y.ch j hj), fun j hj => let ⟨B, h1, h2⟩ := Y.wh j hj; ⟨B, zf9 h1, h2⟩⟩
theorem YH.grow {k : Nat} {ro : Option Nat} {x : HS} {pl : Nat → Nat} {h h' : List Blk} (Y : YH k ro x (fun _ => u00) [] none pl h) (hp : pl 0 = 0) (ku m : Nat) (f : Nat → Nat) (N : Nat) (hN : N = h.length)
  (hf : ∀ j, j < k → f j = pl (6 + 4 * j)) (hfk : f k = N + 1) (hku : ku = pl 4 ∨ N + 4 ≤ ku)
  (e0 : h'[pl 0]? = some (cw (z4 (pl 1) (slV ku (k + 1) (some m)) (gV (pl 5) 0 none))))
  (e4 : h'[ku]? = some (pB (k + 1) f (some m)))
  (ek : ∀ a, a < 6 + 4 * k → a ≠ 0 → a ≠ 4 → h'[pl a]? = h[pl a]?)
  (e1 : h'[N]? = some (.chan 1 (([] : List Nt).map ntE))) (e2 : h'[N + 1]? = some (cw (z8 (N + 3) zG 0 N))) (e3 : ∃ c rw, h'[N + 2]? = some (.cells c rw)) (e5 : h'[N + 3]? = some (cw (zL zG false nr0 (.slice none 0 0)))) : YHn (k + 1) x h' := by
 subst hN
 have hlt : ∀ a, a < 6 + 4 * k → pl a < h.length := fun a ha => Y.lt ha
 let P2 : Nat → Nat := fun a => if a = 4 then ku else if a < 6 + 4 * k then pl a else if a = 6 + 4 * k then h.length + 1 else if a = 7 + 4 * k then h.length + 3 else if a = 8 + 4 * k then h.length else h.length + 2
 have q4 : P2 4 = ku := if_pos rfl
 have q1 : ∀ a, a ≠ 4 → a < 6 + 4 * k → P2 a = pl a := fun a h4 ha => by
  show (if a = 4 then _ else _) = _
  rw [if_neg h4, if_pos ha]
 have q6 : P2 (6 + 4 * k) = h.length + 1 := by
  show (if 6 + 4 * k = 4 then _ else _) = _
  rw [if_neg (by omega), if_neg (by omega), if_pos rfl]
 have q7 : P2 (7 + 4 * k) = h.length + 3 := by
  show (if 7 + 4 * k = 4 then _ else _) = _
  rw [if_neg (by omega), if_neg (by omega), if_neg (by omega), if_pos rfl]
 have q8 : P2 (8 + 4 * k) = h.length := by
  show (if 8 + 4 * k = 4 then _ else _) = _
  rw [if_neg (by omega), if_neg (by omega), if_neg (by omega), if_neg (by omega), if_pos rfl]
 have q9 : P2 (9 + 4 * k) = h.length + 2 := by
  show (if 9 + 4 * k = 4 then _ else _) = _
  rw [if_neg (by omega), if_neg (by omega), if_neg (by omega), if_neg (by omega), if_neg (by omega)]
 refine ⟨some m, P2, ⟨?_, (fun e => by cases e), ?_, ?_, ?_, ?_, ?_, ?_, rfl, ?_, ?_, ?_, ?_⟩, by rw [q1 0 (by omega) (by omega)]; exact hp⟩
 ·intro a b ha hb e
  have key : ∀ a, a < 6 + 4 * (k + 1) → (a ≠ 4 ∧ a < 6 + 4 * k ∧ P2 a = pl a ∧ P2 a < h.length ∧ (a ≠ 4 → pl a ≠ pl 4)) ∨ (a = 4 ∧ P2 a = ku) ∨ (a = 6 + 4 * k ∧ P2 a = h.length + 1) ∨ (a = 7 + 4 * k ∧ P2 a = h.length + 3) ∨ (a = 8 + 4 * k ∧ P2 a = h.length) ∨ (a = 9 + 4 * k ∧ P2 a = h.length + 2) := fun a ha => by
   by_cases h4 : a = 4
   ·subst h4; exact .inr (.inl ⟨rfl, q4⟩)
   by_cases h6 : a < 6 + 4 * k
   ·exact .inl ⟨h4, h6, q1 a h4 h6, by rw [q1 a h4 h6]; exact hlt a h6, fun h4 e => h4 (Y.inj a 4 h6 (by omega) e)⟩
   have : a = 6 + 4 * k ∨ a = 7 + 4 * k ∨ a = 8 + 4 * k ∨ a = 9 + 4 * k := by omega
   rcases this with rfl | rfl | rfl | rfl
   ·exact .inr (.inr (.inl ⟨rfl, q6⟩))
   ·exact .inr (.inr (.inr (.inl ⟨rfl, q7⟩)))
   ·exact .inr (.inr (.inr (.inr (.inl ⟨rfl, q8⟩))))
   ·exact .inr (.inr (.inr (.inr (.inr ⟨rfl, q9⟩))))
  have ka := key a ha
  have kb := key b hb
  have l4 := hlt 4 (by omega)
  rcases ka with ⟨a1, a2, a3, a4, a5⟩ | ⟨a1, a2⟩ | ⟨a1, a2⟩ | ⟨a1, a2⟩ | ⟨a1, a2⟩ | ⟨a1, a2⟩ <;> rcases kb with ⟨b1, b2, b3, b4, b5⟩ | ⟨b1, b2⟩ | ⟨b1, b2⟩ | ⟨b1, b2⟩ | ⟨b1, b2⟩ | ⟨b1, b2⟩ <;> first | omega | exact Y.inj a b a2 b2 (a3.symm.trans (e.trans b3)) | skip
  all_goals
   rcases hku with hku | hku
   ·first
     | exact absurd (a3.symm.trans (e.trans (b2.trans hku))) (a5 a1)
     | exact absurd (b3.symm.trans (e.symm.trans (a2.trans hku))) (b5 b1)
   ·omega
 ·rw [q1 0 (by omega) (by omega), q1 1 (by omega) (by omega), q4, q1 5 (by omega) (by omega)]; exact e0
 ·rw [q1 1 (by omega) (by omega), q1 2 (by omega) (by omega), q1 3 (by omega) (by omega), ek 1 (by omega) (by omega) (by omega)]; exact Y.hd
 ·rw [q1 2 (by omega) (by omega), ek 2 (by omega) (by omega) (by omega)]; exact Y.hc
 ·rw [q1 3 (by omega) (by omega), ek 3 (by omega) (by omega) (by omega)]; exact Y.hm
 ·rw [q4, e4]
  unfold pB
  have : za8 (k + 1) f = za8 (k + 1) (fun j => P2 (6 + 4 * j)) := by
   unfold za8
   refine List.map_congr_left fun j hj => ?_
   have hj := List.mem_range.1 hj
   show pv (f j) 0 = pv (P2 (6 + 4 * j)) 0
   by_cases hjk : j = k
   ·subst hjk; rw [hfk, q6]
   ·rw [hf j (by omega), q1 _ (by omega) (by omega)]
  rw [this]
 ·rw [q1 5 (by omega) (by omega), ek 5 (by omega) (by omega) (by omega)]; exact Y.way
 ·intro j hj
  by_cases hjk : j = k
  ·subst hjk; rw [q6, q7, q8]; exact e2
  ·rw [q1 _ (by omega) (by omega), q1 _ (by omega) (by omega), q1 _ (by omega) (by omega), ek _ (by omega) (by omega) (by omega)]; exact Y.un j (by omega)
 ·intro j hj
  by_cases hjk : j = k
  ·subst hjk; rw [q7, q9]; exact e5
  ·rw [q1 _ (by omega) (by omega), q1 _ (by omega) (by omega), ek _ (by omega) (by omega) (by omega)]; exact Y.pn j (by omega)
 ·intro j hj
  by_cases hjk : j = k
  ·subst hjk; rw [q8]; exact e1
  ·rw [q1 _ (by omega) (by omega), ek _ (by omega) (by omega) (by omega)]; exact Y.ch j (by omega)
 ·intro j hj
  by_cases hjk : j = k
  ·subst hjk; rw [q9]
   obtain ⟨c, rw, e3⟩ := e3
   exact ⟨_, e3, ⟨c, rw, rfl⟩⟩
  ·rw [q1 _ (by omega) (by omega), ek _ (by omega) (by omega) (by omega)]; exact Y.wh j (by omega)
theorem back_nil {h h1 : List Blk} {ρ : Nat → Nat} : zdK h [] h1 ρ = h ++ h1.map (zaY ρ) := by
 unfold zdK
 have : (h.mapIdx fun k b => match zex k [] h1 with | some b' => zaY ρ b' | none => b) = h := by
  refine List.ext_getElem? fun k => ?_
  simp [List.getElem?_mapIdx, zex]
 exact congrArg (· ++ h1.map (zaY ρ)) this
theorem set_new {h T : List Blk} {j : Nat} {b : Blk} : (h ++ T).set (h.length + j) b = h ++ T.set j b := by
 rw [List.set_append_right _ _ (Nat.le_add_right _ _), Nat.add_sub_cancel_left]
theorem pl_nodup {k : Nat} {ro : Option Nat} {x : HS} {us : Nat → US} {l : List Nt} {o : Gr} {pl : Nat → Nat} {h : List Blk} (Y : YH k ro x us l o pl h) {a b : Nat} (ha : a < 6 + 4 * k) (hb : b < 6 + 4 * k) (hab : a ≠ b) : pl a ≠ pl b := fun e => hab (Y.inj a b ha hb e)
theorem new_body {P : Program} (H : YCode P) {B : Nat} {Q : IExit → St → Prop} {k : Nat} {x : HS} {h : List Blk} {v a c : Value} (hk : k < 16) (hY : YHn k x h)
    (hQ : ∀ h' v27 v28 v29 v30 v31 v32, YHn (k + 1) x h' → h.length ≤ h'.length → Q .normal ⟨reg [(32, v32), (31, v31), (30, v30), (29, v29), (28, v28), (27, v27), (26, pv 0 1), (25, pv 0 0), (24, pv 0 0), (23, v), (22, a), (21, c), (8, pv 0 0)], h'⟩) :
    GC (Env P) B (.dreg [⟨(some 24), .mv (.t 8), none⟩, ⟨(some 25), .nilc (.t 24), none⟩, ⟨(some 26), .fad 1 (.t 25), none⟩, ⟨(some 27), .call "roundhouse/plane.New" [], none⟩, ⟨(some 28), .mkc 1, none⟩, ⟨(some 29), .bld [(1, .pointer none), (324, (.int .i64 0)), (6, (.int .u64 0)), (1, (.int .i64 0)), (1, (.chan none))] [(0, 1, (.t 27)), (332, 1, (.t 28))], none⟩, ⟨(some 30), .box (.t 29), none⟩, ⟨(some 31), .bsl [(1, .pointer none)] 1 1 [(0, 1, (.t 30))], none⟩, ⟨(some 32), .call "(*roundhouse/yard.row[*roundhouse/yard.unit]).put" [(.t 26), (.t 31)], none⟩] [[], [0], [1, 0], [], [], [3, 4], [5, 3, 4], [6, 5, 3, 4], [2, 1, 0, 7, 6, 5, 3, 4]]) Q ⟨reg [(23, v), (22, a), (21, c), (8, pv 0 0)], h⟩ := by
  obtain ⟨ro, pl, Y, hp⟩ := hY
  refine zbE (h ++ [.gone, .gone, .gone]) rfl (d_n 3 3 h.length [(26, pv 0 1), (25, pv 0 0), (24, pv 0 0)] (h ++ [.gone, .gone, .gone]) [] (by kernel_rfl) rfl rfl (d_callF [] [] [] (PNewC H.h_plane_New) rfl rfl (fun i k b1 e => by simp at e) (fun i j k b1 _ e => by simp at e) (fun y hy => by cases hy) ⟨_, _, ⟨rfl, rfl⟩, Nat.zero_le _, zbb [] [_]⟩ ?_))
  rintro v1 h1' ⟨rfl, rfl⟩
  refine ⟨z9, ?_⟩
  have hlen : (h ++ [Blk.gone, .gone, .gone]).length = h.length + 3 := by simp
  rw [back_nil, hlen, List.append_assoc]
  have e1 : zbw (rho [] (h.length + 3)) (pv 0 0) = pv (h.length + 3) 0 := rfl
  have e2 : [cw (zL zG false nr0 (.slice none 0 0))].map (zaY (rho [] (h.length + 3))) = [cw (zL zG false nr0 (.slice none 0 0))] := by
    simp only [List.map_cons, List.map_nil]; rw [zbh (w' := .slice none 0 0) rfl]
  rw [e1, e2]
  refine d_mkF (B := .chan 1 (([] : List Nt).map ntE)) (v := .chan (some h.length)) rfl rfl (zhD 0) ?_ ?_
  · intro y hy
    rcases List.mem_cons.1 hy with rfl | hy
    · refine .inl ⟨fun k hk => ?_, fun k _ => by simp, ?_, trivial⟩
      · simp [zcA] at hk
      · intro k hk; simp at hk; omega
    · cases hy
  rw [show (h ++ ([Blk.gone, .gone, .gone] ++ [cw (zL zG false nr0 (.slice none 0 0))])).set h.length (.chan 1 (([] : List Nt).map ntE)) = h ++ [.chan 1 (([] : List Nt).map ntE), .gone, .gone, cw (zL zG false nr0 (.slice none 0 0))] from set_new (j := 0)]
  refine d_s rfl rfl rfl (by kernel_rfl) (by refine zb2 (c := z8 (h.length + 3) zG 0 h.length) ?_; exact bld_unit _ _) ?_
  refine d_mkF (B := cw (z8 (h.length + 3) zG 0 h.length)) (v := pv (h.length + 1) 0) rfl rfl (zhD 1) (fun y hy => .inr ?_) ?_
  · rcases List.mem_cons.1 hy with rfl | hy
    · rfl
    · rcases List.mem_cons.1 hy with rfl | hy
      · rfl
      · cases hy
  rw [set_new (j := 1)]
  refine d_mkF (B := cw [pv (h.length + 1) 0]) (v := sv (h.length + 2) 0 1 1) rfl rfl (zhD 2) (fun y hy => .inr ?_) ?_
  · rcases List.mem_cons.1 hy with rfl | hy
    · rfl
    · rcases List.mem_cons.1 hy with rfl | hy
      · rfl
      · rcases List.mem_cons.1 hy with rfl | hy
        · rfl
        · cases hy
  rw [set_new (j := 2)]
  show GD _ _ _ _ _ _ _ ⟨_, h ++ [.chan 1 (([] : List Nt).map ntE), cw (z8 (h.length + 3) zG 0 h.length), cw [pv (h.length + 1) 0], cw (zL zG false nr0 (.slice none 0 0))]⟩
  generalize hh5 : h ++ [.chan 1 (([] : List Nt).map ntE), cw (z8 (h.length + 3) zG 0 h.length), cw [pv (h.length + 1) 0], cw (zL zG false nr0 (.slice none 0 0))] = h5
  have n0_ : h5[h.length]? = some (.chan 1 (([] : List Nt).map ntE)) := by rw [← hh5]; exact zhD 0
  have n1_ : h5[h.length + 1]? = some (cw (z8 (h.length + 3) zG 0 h.length)) := by rw [← hh5]; exact zhD 1
  have n2_ : h5[h.length + 2]? = some (cw [pv (h.length + 1) 0]) := by rw [← hh5]; exact zhD 2
  have n3_ : h5[h.length + 3]? = some (cw (zL zG false nr0 (.slice none 0 0))) := by rw [← hh5]; exact zhD 3
  have Y5 : YH k ro x (fun _ => u00) [] none pl h5 := hh5 ▸ Y.more _
  have hl5 : h5.length = h.length + 4 := by rw [← hh5]; simp
  have hlt : ∀ a, a < 6 + 4 * k → pl a < h.length := fun a ha => Y.lt ha
  -- the callee's zhC: 0 the yard, 1 the row, 2 the new pointer, 3 the head, 4 + j the units
  let sel : List Nat := [pl 0, pl 4, h.length + 2, pl 1] ++ (List.range (k + 1)).map fun j => if j < k then pl (6 + 4 * j) else h.length + 1
  have hsl : sel.length = 4 + (k + 1) := by simp [sel]; omega
  have hs4 : ∀ j, j < k + 1 → sel[4 + j]? = some (if j < k then pl (6 + 4 * j) else h.length + 1) := fun j hj => by
    show ([pl 0, pl 4, h.length + 2, pl 1] ++ (List.range (k + 1)).map fun j => if j < k then pl (6 + 4 * j) else h.length + 1)[4 + j]? = _
    rw [List.getElem?_append_right (by simp)]
    simp [hj]
  have hsi : ∀ (t q : Nat), sel[t]? = some q → (t = 0 ∧ q = pl 0) ∨ (t = 1 ∧ q = pl 4) ∨ (t = 2 ∧ q = h.length + 2) ∨ (t = 3 ∧ q = pl 1) ∨ ∃ j, j < k + 1 ∧ t = 4 + j ∧ q = if j < k then pl (6 + 4 * j) else h.length + 1 := fun t q e => by
    rcases Nat.lt_or_ge t 4 with h4 | h4
    · match t, h4 with
      | 0, _ => exact .inl ⟨rfl, (Option.some.inj e).symm⟩
      | 1, _ => exact .inr (.inl ⟨rfl, (Option.some.inj e).symm⟩)
      | 2, _ => exact .inr (.inr (.inl ⟨rfl, (Option.some.inj e).symm⟩))
      | 3, _ => exact .inr (.inr (.inr (.inl ⟨rfl, (Option.some.inj e).symm⟩)))
    · obtain ⟨j, rfl⟩ : ∃ j, t = 4 + j := ⟨t - 4, by omega⟩
      have hj : j < k + 1 := by have := zJ e; omega
      rw [hs4 j hj] at e
      exact .inr (.inr (.inr (.inr ⟨j, hj, rfl, (Option.some.inj e).symm⟩)))
  have hinj : ∀ (t t' q : Nat), sel[t]? = some q → sel[t']? = some q → t = t' := fun t t' q e1 e2 => by
    have nd := fun a b ha hb hab => pl_nodup Y (a := a) (b := b) ha hb hab
    have l0 := hlt 0 (by omega)
    have l1 := hlt 1 (by omega)
    have l4 := hlt 4 (by omega)
    rcases hsi t q e1 with ⟨a1, a2⟩ | ⟨a1, a2⟩ | ⟨a1, a2⟩ | ⟨a1, a2⟩ | ⟨j, hj, a1, a2⟩ <;> rcases hsi t' q e2 with ⟨b1, b2⟩ | ⟨b1, b2⟩ | ⟨b1, b2⟩ | ⟨b1, b2⟩ | ⟨j', hj', b1, b2⟩
    all_goals first
      | omega
      | exact absurd (a2.symm.trans b2) (nd _ _ (by omega) (by omega) (by omega))
      | skip
    all_goals first
      | (split at a2
         · have := hlt (6 + 4 * j) (by omega)
           first | omega | exact absurd (a2.symm.trans b2) (nd _ _ (by omega) (by omega) (by omega))
         · omega)
      | (split at b2
         · have := hlt (6 + 4 * j') (by omega)
           first | omega | exact absurd (a2.symm.trans b2) (nd _ _ (by omega) (by omega) (by omega))
         · omega)
      | skip
    split at a2 <;> split at b2
    · by_cases hjj : j = j'
      · omega
      · exact absurd (a2.symm.trans b2) (nd _ _ (by omega) (by omega) (by omega))
    · have := hlt (6 + 4 * j) (by omega); omega
    · have := hlt (6 + 4 * j') (by omega); omega
    · omega
  have hρ : ∀ (t q : Nat), sel[t]? = some q → rho sel h5.length t = q := fun t q e => zcX e
  have hptr : ∀ j, j < k + 1 → rho sel h5.length (4 + j) = if j < k then pl (6 + 4 * j) else h.length + 1 := fun j hj => hρ _ _ (hs4 j hj)
  have hpk : rho sel h5.length (4 + k) = h.length + 1 := by rw [hptr k (by omega), if_neg (by omega)]
  refine d_callF sel ([cw [pv 3 0, slV 1 k ro, .slice none 0 0], pB k (fun j => 4 + j) ro, cw [pv (4 + k) 0], cr []] ++ List.replicate (k + 1) (cr [])) [pv 0 1, sv 2 0 1 1] (putUC H.h_yard_row_yard_unit_put k (by omega) (fun j => 4 + j) ro Y.ro0 (.slice none 0 0) _) ?_ ?_ ?_ (fun t t' q b1 htt e1 e2 _ => absurd (hinj t t' q e1 e2) htt) (fun y hy => .inr ?_) ?_ ?_
  · rw [hsl]; simp; omega
  · refine zaG ?_ (zaG ?_ rfl)
    · show pv (rho sel h5.length 0) 1 = pv 0 1
      rw [hρ 0 (pl 0) rfl, hp]
    · show sv (rho sel h5.length 2) 0 1 1 = sv (h.length + 2) 0 1 1
      rw [hρ 2 (h.length + 2) rfl]
  · intro t q b1 e1 e2
    rcases hsi t q e1 with ⟨rfl, rfl⟩ | ⟨rfl, rfl⟩ | ⟨rfl, rfl⟩ | ⟨rfl, rfl⟩ | ⟨j, hj, rfl, rfl⟩
    · cases e2
      refine ⟨_, Y5.y, .inl (.inl ?_)⟩
      show Blk.seen (zaY _ (.cells (z4 3 (slV 1 k ro) (.slice none 0 0)) true)) _
      exact zaE (hρ 3 (pl 1) rfl) (qU ro (hρ 1 (pl 4) rfl)) rfl (fun q => q)
    · cases e2
      refine ⟨_, Y5.ur, .inl ?_⟩
      unfold pB
      cases ro with
      | none => exact .inr ⟨rfl, rfl⟩
      | some m =>
        refine .inl ?_
        show Blk.seen (zaY _ (.cells (za8 k (fun j => 4 + j) ++ zbn m) true)) (.cells (za8 k (fun j => pl (6 + 4 * j)) ++ zbn m) true)
        rw [zfO fun j hj => (hptr j (by omega)).trans (if_pos hj)]; exact ⟨rfl, fun q => q⟩
    · cases e2
      refine ⟨_, n2_, .inl (.inl ⟨?_, fun q => q⟩)⟩
      show [pv (rho sel h5.length (4 + k)) 0] = _
      rw [hpk]
    · cases e2; exact ⟨_, Y5.hd, zK⟩
    · have : ([cw [pv 3 0, slV 1 k ro, .slice none 0 0], pB k (fun j => 4 + j) ro, cw [pv (4 + k) 0], cr []] ++ List.replicate (k + 1) (cr []))[4 + j]? = some (cr []) := by
        rw [List.getElem?_append_right (by simp)]
        exact List.getElem?_replicate_of_lt (by simp; omega)
      rw [this] at e2; cases e2
      split
      · rename_i hjk; exact ⟨_, Y5.un j hjk, zK⟩
      · exact ⟨_, n1_, zK⟩
  · rcases List.mem_cons.1 hy with rfl | hy
    · rfl
    · rcases List.mem_cons.1 hy with rfl | hy
      · rfl
      · rcases List.mem_cons.1 hy with rfl | hy
        · rfl
        · rcases List.mem_cons.1 hy with rfl | hy
          · rfl
          · cases hy
  · refine ⟨_, _, ⟨rfl, 0, .inr rfl⟩, by rw [hsl]; simp; omega, ?_⟩
    rw [List.append_assoc]
    exact zfW rfl (zbb ([_, _, _] ++ List.replicate (k + 1) (cr [])) [_])
  · rintro v1 h1' ⟨rfl, m, hw⟩
    have hat : ∀ (j : Nat) {A : List Blk}, A.length = 4 → (A ++ List.replicate (k + 1) (cr []))[4 + j]? = (List.replicate (k + 1) (cr []))[j]? := fun j A hA => by
      rw [List.getElem?_append_right (by omega), hA, Nat.add_sub_cancel_left]
    refine ⟨?_, ?_⟩
    · rcases hw with ⟨hs, rfl⟩ | rfl
      · refine zA qI (zA (fun hg => ?_) (zA qI (zA qI (fun i hi => hi))))
        cases ro with
        | none => cases hs
        | some z => cases hg
      · rw [List.append_assoc]
        refine zA qI (zA (fun hg => hg) (zA qI (zA qI (fun i hi => ?_))))
        have := zJ hi
        simp at this
        show (List.replicate (k + 1) (cr []) ++ [pB (k + 1) (fun j => 4 + j) (some m)])[i]? = _
        rw [List.getElem?_append_left (by simp; omega)]; exact hi
    · refine zcf ?_
      have hkeep : ∀ {h1' : List Blk}, (∀ (t : Nat) b, t ≠ 0 → t ≠ 1 → t ≠ 2 → t < 4 + (k + 1) → h1'[t]? = some b → b.rw = false) → ∀ a, a < 6 + 4 * k → a ≠ 0 → a ≠ 4 → (zdK h5 sel h1' (rho sel h5.length))[pl a]? = h[pl a]? := fun {h1'} hro a ha h0 h4 => by
        rw [zfu (by have := hlt a ha; omega) fun t b e1 e2 => ?_]
        · rw [← hh5]; exact List.getElem?_append_left (hlt a ha)
        · have hlq := hlt a ha
          have htl : t < 4 + (k + 1) := by have := zJ e1; omega
          refine hro t b ?_ ?_ ?_ htl e2
          · rintro rfl; exact pl_nodup Y ha (by omega) h0 (Option.some.inj e1).symm
          · rintro rfl; exact pl_nodup Y ha (by omega) h4 (Option.some.inj e1).symm
          · rintro rfl; have := Option.some.inj e1; omega
      have hkN : ∀ {h1' : List Blk} (q : Nat), (q = h.length ∨ q = h.length + 1 ∨ q = h.length + 3) → (∀ (t : Nat) b, t ≠ 0 → t ≠ 1 → t ≠ 2 → t < 4 + (k + 1) → h1'[t]? = some b → b.rw = false) → (zdK h5 sel h1' (rho sel h5.length))[q]? = h5[q]? := fun {h1'} q hq hro => by
        refine zfu (by omega) fun t b e1 e2 => ?_
        have htl : t < 4 + (k + 1) := by have := zJ e1; omega
        refine hro t b ?_ ?_ ?_ htl e2
        · rintro rfl; have := Option.some.inj e1; have := hlt 0 (by omega); omega
        · rintro rfl; have := Option.some.inj e1; have := hlt 4 (by omega); omega
        · rintro rfl; have := Option.some.inj e1; omega
      have hat2 : ∀ {h1' : List Blk} (t q : Nat) (b : Blk), sel[t]? = some q → h1'[t]? = some b → b.rw = true → (zdK h5 sel h1' (rho sel h5.length))[q]? = some (zaY (rho sel h5.length) b) := fun {h1'} t q b e1 e2 hr => by
        refine back_at ?_ (fun j hj => hinj j t q hj e1) e1 e2 hr
        rcases hsi t q e1 with ⟨_, rfl⟩ | ⟨_, rfl⟩ | ⟨_, rfl⟩ | ⟨_, rfl⟩ | ⟨j, hj, _, rfl⟩
        · have := hlt 0 (by omega); omega
        · have := hlt 4 (by omega); omega
        · omega
        · have := hlt 1 (by omega); omega
        · split
          · have := hlt (6 + 4 * j) (by omega); omega
          · omega
      have hren : zaY (rho sel h5.length) (pB (k + 1) (fun j => 4 + j) (some m)) = pB (k + 1) (fun j => if j < k then pl (6 + 4 * j) else h.length + 1) (some m) := zfO fun j hj => hptr j hj
      have hrow : ∀ {h1' : List Blk}, h1'[2]? = some (cw [pv (4 + k) 0]) → ∃ c rw, (zdK h5 sel h1' (rho sel h5.length))[h.length + 2]? = some (.cells c rw) := fun {h1'} e2 => ⟨_, _, hat2 2 _ _ rfl e2 rfl⟩
      rcases hw with ⟨hs, rfl⟩ | rfl
      · have hro : ∀ (t : Nat) b, t ≠ 0 → t ≠ 1 → t ≠ 2 → t < 4 + (k + 1) → ([cw [pv 3 0, slV 1 (k + 1) (some m), .slice none 0 0], pB (k + 1) (fun j => 4 + j) (some m), cw [pv (4 + k) 0], cr []] ++ List.replicate (k + 1) (cr []))[t]? = some b → b.rw = false := fun t b h0 h1 h2 ht e => by
          by_cases h3 : t = 3
          · subst h3; cases e; rfl
          · obtain ⟨j, rfl⟩ : ∃ j, t = 4 + j := ⟨t - 4, by omega⟩
            rw [hat j rfl, List.getElem?_replicate_of_lt (by omega)] at e
            cases e; rfl
        refine hQ _ _ _ _ _ _ _ (Y.grow hp (pl 4) m (fun j => if j < k then pl (6 + 4 * j) else h.length + 1) h.length rfl (fun j hj => if_pos hj) (if_neg (by omega)) (.inl rfl) ?_ ?_ (hkeep hro) ?_ ?_ (hrow rfl) ?_) (by have := zfZ (h := h5) (sel := sel) (h1 := [cw [pv 3 0, slV 1 (k + 1) (some m), .slice none 0 0], pB (k + 1) (fun j => 4 + j) (some m), cw [pv (4 + k) 0], cr []] ++ List.replicate (k + 1) (cr [])) (ρ := rho sel h5.length); omega)
        · rw [hat2 0 (pl 0) _ rfl rfl rfl]
          exact congrArg some (zaB (kh := 3) (u := slV 1 (k + 1) (some m)) (w := .slice none 0 0) (hρ 3 (pl 1) rfl) (qU _ (hρ 1 (pl 4) rfl)) rfl)
        · rw [hat2 1 (pl 4) _ rfl rfl rfl, hren]
        · rw [hkN _ (.inl rfl) hro]; exact n0_
        · rw [hkN _ (.inr (.inl rfl)) hro]; exact n1_
        · rw [hkN _ (.inr (.inr rfl)) hro]; exact n3_
      · have hTl : (List.replicate (k + 1) (cr [])).length = k + 1 := by simp
        rw [hTl]
        have hro : ∀ (t : Nat) b, t ≠ 0 → t ≠ 1 → t ≠ 2 → t < 4 + (k + 1) → ([cw [pv 3 0, slV (4 + (k + 1)) (k + 1) (some m), .slice none 0 0], pB k (fun j => 4 + j) ro, cw [pv (4 + k) 0], cr []] ++ List.replicate (k + 1) (cr []) ++ [pB (k + 1) (fun j => 4 + j) (some m)])[t]? = some b → b.rw = false := fun t b h0 h1 h2 ht e => by
          rw [List.getElem?_append_left (by simp; omega)] at e
          by_cases h3 : t = 3
          · subst h3; cases e; rfl
          · obtain ⟨j, rfl⟩ : ∃ j, t = 4 + j := ⟨t - 4, by omega⟩
            rw [hat j rfl, List.getElem?_replicate_of_lt (by omega)] at e
            cases e; rfl
        have hρn : rho sel h5.length (4 + (k + 1)) = h.length + 4 := by rw [zgK (by omega), hsl, hl5]; omega
        refine hQ _ _ _ _ _ _ _ (Y.grow hp (h.length + 4) m (fun j => if j < k then pl (6 + 4 * j) else h.length + 1) h.length rfl (fun j hj => if_pos hj) (if_neg (by omega)) (.inr (Nat.le_refl _)) ?_ ?_ (hkeep hro) ?_ ?_ (hrow rfl) ?_) (by have := zfZ (h := h5) (sel := sel) (h1 := [cw [pv 3 0, slV (4 + (k + 1)) (k + 1) (some m), .slice none 0 0], pB k (fun j => 4 + j) ro, cw [pv (4 + k) 0], cr []] ++ List.replicate (k + 1) (cr []) ++ [pB (k + 1) (fun j => 4 + j) (some m)]) (ρ := rho sel h5.length); omega)
        · rw [hat2 0 (pl 0) _ rfl rfl rfl]
          exact congrArg some (zaB (kh := 3) (u := slV (4 + (k + 1)) (k + 1) (some m)) (w := .slice none 0 0) (hρ 3 (pl 1) rfl) (qU _ hρn) rfl)
        · have := back_new (h := h5) (sel := sel) (h1 := [cw [pv 3 0, slV (4 + (k + 1)) (k + 1) (some m), .slice none 0 0], pB k (fun j => 4 + j) ro, cw [pv (4 + k) 0], cr []] ++ List.replicate (k + 1) (cr []) ++ [pB (k + 1) (fun j => 4 + j) (some m)]) (ρ := rho sel h5.length) 0
          rw [hsl, List.getElem?_append_right (by simp; omega)] at this
          rw [show h.length + 4 = h5.length + 0 by omega, this]
          have h0 : 4 + (k + 1) + 0 - ([cw [pv 3 0, slV (4 + (k + 1)) (k + 1) (some m), .slice none 0 0], pB k (fun j => 4 + j) ro, cw [pv (4 + k) 0], cr []] ++ List.replicate (k + 1) (cr [])).length = 0 := by simp; omega
          rw [h0]
          exact congrArg some hren
        · rw [hkN _ (.inl rfl) hro]; exact n0_
        · rw [hkN _ (.inr (.inl rfl)) hro]; exact n1_
        · rw [hkN _ (.inr (.inr rfl)) hro]; exact n3_
end Go.Rh
