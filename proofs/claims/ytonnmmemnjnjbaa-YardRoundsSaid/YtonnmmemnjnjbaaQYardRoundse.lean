/- The proofs zeX the intermediate form, part QYardRoundse. -/
import Derived.Test.YtonnmmemnjnjbaaQYardRoundsd
open Go.IntKind (i64)
set_option linter.unusedVariables false
set_option linter.unusedSimpArgs false
set_option maxRecDepth 100000
set_option maxHeartbeats 8000000
namespace Go.Rh
def qX (p : qL) (is : Bool) : Int := if is = true then p 0 else -1
theorem PVersionC {P : Program} (hc : zaB P) (p : qL) (is : Bool) (nr : Nat → Int × Bool) (q : Option Nat) :
    Env P "(*roundhouse/plane.Plane).Version" [pv 0 0] ([cr (zM p is nr (slV 1 127 q)), cr []]) (fun v h' => v = .tuple #[iv (p 0), bv is] ∧ h' = [cr (zM p is nr (slV 1 127 q)), cr []]) := by
 refine Env.by2 hc ?_
 unfold zcv
 show GC _ 2 _ _ ⟨reg [(0, pv 0 0)], [cr (zM p is nr (slV 1 127 q)), cr []]⟩
 refine zR (zV (o_d 2 [(3, bv false), (2, iv 0)] (by kernel_rfl) (zG (zC (zR (zdz [] (by kernel_rfl) (r_d 5 [(8, pv 0 0), (7, pv 0 0), (6, pv 0 0), (5, pv 0 0), (4, pv 0 0)] (by kernel_rfl) (r_s (by refine z4 (v := iv (p 0)) rfl rfl ?_; exact plane_rP (pl_r p 0 rfl (by omega))) ?_))))))))
 refine r_d 4 [(13, pv 0 330), (12, pv 0 0), (11, pv 0 0), (10, pv 0 0)] (by kernel_rfl) (r_s (by refine z4 (v := bv is) rfl rfl ?_; exact (plane_rT 0).trans rfl) ?_)
 exact r_d 2 [(3, bv is), (2, iv (p 0))] (by kernel_rfl) (zc6 (zC (zaZ (⟨trivial, ⟨reg [(2, iv (p 0)), (3, bv is)], [cr (zM p is nr (slV 1 127 q)), cr []]⟩, Wk.ren [0, 1] rfl rfl (by decide) ⟨rfl, ⟨rfl, trivial⟩⟩ ⟨.inl (zan (qY q rfl)), ⟨.inl rfl, trivial⟩⟩, [iv (p 0), bv is], (qE rfl (qE rfl rfl)), (zU rfl (zU rfl qA)), rfl, rfl⟩))))
theorem PCrashC {P : Program} (hc : zbD P) (p : qL) (is : Bool) (nr : Nat → Int × Bool) (q : Option Nat) :
    Env P "(*roundhouse/plane.Plane).Crash" [pv 0 0] ([cw (zM p is nr (slV 1 127 q)), cr []]) (fun v h' => v = .tuple #[] ∧ h' = [cw (zM zH false nr0 (slV 1 127 none)), cr []]) := by
 refine Env.by2 hc ?_
 unfold zcS
 show GC _ 2 _ _ ⟨reg [(0, pv 0 0)], [cw (zM p is nr (slV 1 127 q)), cr []]⟩
 refine zV (o_d 1 [(2, pv 0 0)] (by kernel_rfl) (o_s (by refine zbZ (c := zM zH false nr0 (.slice none 0 0)) ?_; exact bld_plane) ?_))
 refine o_d 1 [(4, pv 0 0)] (by kernel_rfl) (zc1 (by refine qQ (c' := zM zH false nr0 (.slice none 0 0)) rfl rfl rfl ?_ ?_ ?_; exact zd5 _ _ _ _; exact zip (by omega); exact plane_wAll) ?_)
 exact zG (⟨trivial, ⟨reg [], [cw (zM zH false nr0 (.slice none 0 0)), cr []]⟩, Wk.ren [0, 1] rfl rfl (by decide) trivial ⟨.inl (zan rfl), ⟨.inl rfl, trivial⟩⟩, [], rfl, qA, rfl, rfl⟩)
theorem PLayC {P : Program} (hc : zad P) (p : qL) (is : Bool) (nr : Nat → Int × Bool) (q : Option Nat) (x : qL) :
    Env P "(*roundhouse/plane.maybe[roundhouse/api.Pool]).lay" [pv 0 0, qG x] ([cw (zM p is nr (slV 1 127 q)), cr []]) (fun v h' => v = .tuple #[] ∧ h' = [cw (zM x true nr (slV 1 127 q)), cr []]) := by
 refine Env.by2 hc ?_
 unfold zbG
 show GC _ 2 _ _ ⟨reg [(0, pv 0 0), (1, qG x)], [cw (zM p is nr (slV 1 127 q)), cr []]⟩
 refine zR (zV (o_b 1 [(3, pv 2 0)] [cw (zM p is nr (slV 1 127 q)), cr [], cw (pl x)] (by kernel_rfl) (zG (zC (zV (o_d 2 [(5, pv 0 0), (4, pv 0 0)] (by kernel_rfl) (o_s (by refine z4 (v := qG x) rfl rfl ?_; exact zal x) ?_)))))))
 refine o_d 2 [(8, pv 0 0), (7, pv 0 0)] (by kernel_rfl) (zc1 (by refine qQ (c' := zM x is nr (slV 1 127 q)) rfl rfl rfl ?_ ?_ ?_; exact zN _; exact zip (by omega); exact plane_wP) ?_)
 refine o_b 2 [(10, pv 0 330), (9, pv 0 0)] [cw (zM x is nr (slV 1 127 q)), cr [], cw (pl x)] (by kernel_rfl) (zc1 (by refine qQ (c' := zM x true nr (slV 1 127 q)) rfl rfl rfl ?_ ?_ ?_; exact rfl; exact zip (by omega); exact plane_wI) ?_)
 exact zG (⟨trivial, ⟨reg [], [cw (zM x true nr (slV 1 127 q)), cr []]⟩, Wk.ren [0, 1] rfl rfl (by decide) trivial ⟨.inl (zan (qY q rfl)), ⟨.inl rfl, trivial⟩⟩, [], rfl, qA, rfl, rfl⟩)
theorem PLoadC {P : Program} (hc : za9 P) (h_plane_maybe_api_Pool_lay : zad P) (h_wheel_Make : zbV P) (h_wheel_spun : zbw P) (h_sip_Words : zbC P) (h_sip_Of : zcP P) (h_sip_number_byte : zag P) (h_sip_state_take : zao P) (h_sip_state_rounds : qV P) (h_sip_state_round : qW P) (h_math_bits_RotateLeft64 : zY P) (p : qL) (is : Bool) (nr : Nat → Int × Bool) (q : Option Nat) (x : qL) :
    Env P "(*roundhouse/plane.Plane).Load" [pv 0 0, qG x] ([cw (zM p is nr (slV 1 127 q)), cr []]) (fun v h' => v = .tuple #[] ∧ ∃ m, h' = [cw (zM x true nr (slV 2 127 (some m))), cr [], slB zI (ii (zaI x)) (some m)]) := by
 refine Env.by2 hc ?_
 unfold zdj
 show GC _ 2 _ _ ⟨reg [(0, pv 0 0), (1, qG x)], [cw (zM p is nr (slV 1 127 q)), cr []]⟩
 refine zR (zV (o_b 1 [(3, pv 2 0)] [cw (zM p is nr (slV 1 127 q)), cr [], cw (pl x)] (by kernel_rfl) (zG (zC (zR (zbx [cw (zM p is nr (slV 1 127 q)), cr [], cw (pl x)] (by kernel_rfl) (d_n 3 3 3 [(6, pv 0 0), (5, pv 0 0), (4, pv 0 0)] [cw (zM p is nr (slV 1 127 q)), cr [], cw (pl x)] [] (by kernel_rfl) rfl rfl (d_s rfl rfl rfl (by kernel_rfl) (by refine z4 (v := qG x) rfl rfl ?_; exact zal x) ?_))))))))
 refine zgM [0, 1] [cw (zM p is nr (slV 1 127 q)), cr []] [pv 0 0, qG x] (PLayC h_plane_maybe_api_Pool_lay p is nr q x) rfl (zaz rfl (zaz (qN (zaG x)) rfl)) ⟨⟨_, rfl, z9 (.inl (zaW (qY q rfl) (fun q => rfl)))⟩, ⟨⟨_, rfl, zJ⟩, trivial⟩⟩ (by decide) ⟨_, _, ⟨rfl, rfl⟩, Nat.le_refl _, zgk rfl (zbf [_] [])⟩ ?_ (by kernel_rfl)
 rintro v1 h1' ⟨rfl, rfl⟩
 refine ⟨(zA qM (zA zD qC)), .tuple #[], [cw (zM x true nr (slV 1 127 q)), cr [], cw (pl x)], [], (by simp [zbF]), ⟨zbo (qY q rfl), ⟨(by cases true <;> rfl), ⟨rfl, trivial⟩⟩⟩, trivial, ?_⟩
 refine zb2 (zC (zV (o_d 1 [(9, pv 0 0)] (by kernel_rfl) (o_s (by refine z4 (v := qG x) rfl rfl ?_; exact zal x) ?_))))
 refine zcc (zdn [] [] [qG x] (makeWC h_wheel_Make h_wheel_spun h_sip_Words h_sip_Of h_sip_number_byte h_sip_state_take h_sip_state_rounds h_sip_state_round h_math_bits_RotateLeft64 x) rfl (zaz (qN (zaG x)) rfl) trivial (by decide) ?_)
 rintro v1 h1' ⟨m1, rfl, rfl⟩
 refine ⟨qC, slV 3 127 (some m1), [cw (zM x true nr (slV 1 127 q)), cr [], cw (pl x)], [slB zI (ii (zaI x)) (some m1)], rfl, ⟨rfl, ⟨rfl, ⟨rfl, trivial⟩⟩⟩, ⟨(Option.some.inj (zaM (some m1) (fun _ => (zct _ _)))).symm, trivial⟩, ?_⟩
 refine o_d 2 [(13, pv 0 459), (12, pv 0 0)] (by kernel_rfl) (zc1 (by refine qQ (c' := zM x true nr (slV 3 127 (some m1))) rfl rfl rfl ?_ ?_ ?_; exact rfl; exact zip (by omega); exact plane_wW) ?_)
 exact zG (⟨trivial, ⟨reg [], [cw (zM x true nr (slV 2 127 (some m1))), cr [], slB zI (ii (zaI x)) (some m1)]⟩, Wk.ren [0, 1, 3] rfl rfl (by decide) trivial ⟨.inl (zan rfl), ⟨.inl rfl, ⟨.inl (zaM (some m1) (fun _ => (zct _ _))), trivial⟩⟩⟩, [], rfl, qA, rfl, m1, rfl⟩)
theorem PNewC {P : Program} (hc : zff P)  :
    Env P "roundhouse/plane.New" [] ([]) (fun v h' => v = pv 0 0 ∧ h' = [cw (zM zH false nr0 (.slice none 0 0))]) := by
 refine Env.by2 hc ?_
 unfold zgT
 show GC _ 0 _ _ ⟨reg [], []⟩
 refine zR (zV (o_d 1 [(0, .pointer none)] (by kernel_rfl) (zG (zC (zR (zV (o_s (by refine zbZ (c := zM zH false nr0 (.slice none 0 0)) ?_; exact bld_plane) ?_)))))))
 exact o_b 2 [(0, pv 0 0), (2, pv 0 0)] [cw (zM zH false nr0 (.slice none 0 0))] (by kernel_rfl) (zG (zC (zaZ (⟨trivial, ⟨reg [(0, pv 0 0)], [cw (zM zH false nr0 (.slice none 0 0))]⟩, Wk.ren [0] rfl rfl (by decide) ⟨rfl, trivial⟩ ⟨.inl (zan rfl), trivial⟩, [pv 0 0], (qE rfl rfl), (zU rfl qA), rfl, rfl⟩))))
theorem zdN {P : Program} (hc : zbi P) (h_plane_Plane_Version : zaB P) (p : qL) (is : Bool) (nr : Nat → Int × Bool) (q : Option Nat) (b : Int) (w : List Nt) :
    Env P "(*roundhouse/yard.unit).version" [pv 0 0] ([cr (qD 1 p b 2), cr (zM p is nr (slV 3 127 q)), .chan 1 (w.map ntE), cr []]) (fun v h' => v = iv (qX p is) ∧ h' = [cr (qD 1 p b 2), cr (zM p is nr (slV 3 127 q)), .chan 1 (w.map ntE), cr []]) := by
 refine Env.by2 hc ?_
 unfold zcQ
 show GC _ 4 _ _ ⟨reg [(0, pv 0 0)], [cr (qD 1 p b 2), cr (zM p is nr (slV 3 127 q)), .chan 1 (w.map ntE), cr []]⟩
 refine zR (zV (o_d 1 [(2, iv 0)] (by kernel_rfl) (zG (zC (zR (zR (zV (o_d 3 [(8, pv 0 0), (7, pv 0 0), (6, pv 0 0)] (by kernel_rfl) (o_s (by refine z4 (v := pv 1 0) rfl rfl ?_; exact rfl) ?_)))))))))
 refine zcc (zdn [1, 3] [cr (zM p is nr (slV 1 127 q)), cr []] [pv 0 0] (PVersionC h_plane_Plane_Version p is nr q) rfl rfl ⟨⟨_, rfl, z9 (.inl (zaW (qY q rfl) (fun q => q)))⟩, ⟨⟨_, rfl, zJ⟩, trivial⟩⟩ (by decide) ?_)
 rintro v1 h1' ⟨rfl, rfl⟩
 refine ⟨(zA zD (zA zD qC)), .tuple #[iv (p 0), bv is], [cr (qD 1 p b 2), cr (zM p is nr (slV 3 127 q)), .chan 1 (w.map ntE), cr []], [], (qN rfl), ⟨rfl, ⟨rfl, ⟨rfl, ⟨(by cases true <;> rfl), trivial⟩⟩⟩⟩, trivial, ?_⟩
 refine o_d 5 [(4, bv is), (3, iv (p 0)), (12, bv is), (11, iv (p 0)), (5, .tuple #[iv (p 0), bv is])] (by kernel_rfl) (zG (zC (zR (zV (o_d 1 [(13, bv is)] (by kernel_rfl) (zG (zC (zaj (t := is) rfl (fun h1 => ?_) (fun h1 => ?_)))))))))
 ·skip
  exact zR (zV (o_d 2 [(2, iv (p 0)), (14, iv (p 0))] (by kernel_rfl) (zG (zC (zaZ (⟨trivial, ⟨reg [(2, iv (p 0))], [cr (qD 1 p b 2), cr (zM p is nr (slV 3 127 q)), .chan 1 (w.map ntE), cr []]⟩, Wk.ren [0, 1, 2, 3] rfl rfl (by decide) ⟨rfl, trivial⟩ ⟨.inl (za2 rfl rfl), ⟨.inl (zan (qY q rfl)), ⟨.inl (congrArg some (zak _).symm), ⟨.inl rfl, trivial⟩⟩⟩⟩, [iv (p 0)], (qE rfl rfl), (zU rfl qA), (by simp [qX, one, *]), rfl⟩))))))
 exact zaq (zC (zR (zV (o_d 1 [(2, iv (-1))] (by kernel_rfl) (zG (zC (zaZ (⟨trivial, ⟨reg [(2, iv (-1))], [cr (qD 1 p b 2), cr (zM p is nr (slV 3 127 q)), .chan 1 (w.map ntE), cr []]⟩, Wk.ren [0, 1, 2, 3] rfl rfl (by decide) ⟨rfl, trivial⟩ ⟨.inl (za2 rfl rfl), ⟨.inl (zan (qY q rfl)), ⟨.inl (congrArg some (zak _).symm), ⟨.inl rfl, trivial⟩⟩⟩⟩, [iv (-1)], (qE rfl rfl), (zU rfl qA), (by simp [qX, one, *]), rfl⟩))))))))
theorem ULoadC {P : Program} (hc : zbH P) (h_plane_Plane_Load : za9 P) (h_plane_maybe_api_Pool_lay : zad P) (h_wheel_Make : zbV P) (h_wheel_spun : zbw P) (h_sip_Words : zbC P) (h_sip_Of : zcP P) (h_sip_number_byte : zag P) (h_sip_state_take : zao P) (h_sip_state_rounds : qV P) (h_sip_state_round : qW P) (h_math_bits_RotateLeft64 : zY P) (p : qL) (is : Bool) (nr : Nat → Int × Bool) (q : Option Nat) (b : Int) (w : List Nt) (x : qL) :
    Env P "(*roundhouse/yard.unit).load" [pv 0 0, qG x] ([cw (qD 1 p b 2), cw (zM p is nr (slV 3 127 q)), .chan 1 (w.map ntE), cr []]) (fun v h' => v = .tuple #[] ∧ ∃ m, h' = [cw (qD 1 x b 2), cw (zM x true nr (slV 4 127 (some m))), .chan 1 (w.map ntE), cr [], slB zI (ii (zaI x)) (some m)]) := by
 refine Env.by2 hc ?_
 unfold zdU
 show GC _ 4 _ _ ⟨reg [(0, pv 0 0), (1, qG x)], [cw (qD 1 p b 2), cw (zM p is nr (slV 3 127 q)), .chan 1 (w.map ntE), cr []]⟩
 refine zR (zV (o_b 1 [(3, pv 4 0)] [cw (qD 1 p b 2), cw (zM p is nr (slV 3 127 q)), .chan 1 (w.map ntE), cr [], cw (pl x)] (by kernel_rfl) (zG (zC (zR (zV (o_d 1 [(4, pv 0 0)] (by kernel_rfl) (o_s (by refine z4 (v := qG x) rfl rfl ?_; exact zal x) ?_))))))))
 refine o_d 2 [(7, pv 0 1), (6, pv 0 0)] (by kernel_rfl) (zc1 (by refine qQ (c' := qD 1 x b 2) rfl rfl rfl ?_ ?_ ?_; exact zN _; exact unit_le (by omega); exact unit_wP) ?_)
 refine zG (zC (zbx [cw (qD 1 x b 2), cw (zM p is nr (slV 3 127 q)), .chan 1 (w.map ntE), cr [], cw (pl x)] (by kernel_rfl) (d_n 3 3 5 [(10, pv 0 0), (9, pv 0 0), (8, pv 0 0)] [cw (qD 1 x b 2), cw (zM p is nr (slV 3 127 q)), .chan 1 (w.map ntE), cr [], cw (pl x)] [] (by kernel_rfl) rfl rfl (d_s rfl rfl rfl (by kernel_rfl) (by refine z4 (v := pv 1 0) rfl rfl ?_; exact rfl) ?_))))
 refine d_s rfl rfl rfl (by kernel_rfl) (by refine z4 (v := qG x) rfl rfl ?_; exact zal x) ?_
 refine zgM [1, 3] [cw (zM p is nr (slV 1 127 q)), cr []] [pv 0 0, qG x] (PLoadC h_plane_Plane_Load h_plane_maybe_api_Pool_lay h_wheel_Make h_wheel_spun h_sip_Words h_sip_Of h_sip_number_byte h_sip_state_take h_sip_state_rounds h_sip_state_round h_math_bits_RotateLeft64 p is nr q x) rfl (zaz rfl (zaz (qN (zaG x)) rfl)) ⟨⟨_, rfl, z9 (.inl (zaW (qY q rfl) (fun q => rfl)))⟩, ⟨⟨_, rfl, zJ⟩, trivial⟩⟩ (by decide) ⟨_, _, ⟨rfl, 0, rfl⟩, Nat.le_add_right 2 1, zgk rfl (zbf [_] [_])⟩ ?_ (by kernel_rfl)
 rintro v1 h1' ⟨rfl, m1, rfl⟩
 refine ⟨(zA qM (zA zD qC)), .tuple #[], [cw (qD 1 x b 2), cw (zM x true nr (slV 5 127 (some m1))), .chan 1 (w.map ntE), cr [], cw (pl x)], [slB zI (ii (zaI x)) (some m1)], (by simp [zbF]), ⟨rfl, ⟨zbo rfl, ⟨rfl, ⟨(by cases true <;> rfl), ⟨rfl, trivial⟩⟩⟩⟩⟩, ⟨(Option.some.inj (zaM (some m1) (fun _ => (zct _ _)))).symm, trivial⟩, ?_⟩
 exact zb2 (⟨trivial, ⟨reg [], [cw (qD 1 x b 2), cw (zM x true nr (slV 4 127 (some m1))), .chan 1 (w.map ntE), cr [], slB zI (ii (zaI x)) (some m1)]⟩, Wk.ren [0, 1, 2, 3, 5] rfl rfl (by decide) trivial ⟨.inl (za2 rfl rfl), ⟨.inl (zan rfl), ⟨.inl (congrArg some (zak _).symm), ⟨.inl rfl, ⟨.inl (zaM (some m1) (fun _ => (zct _ _))), trivial⟩⟩⟩⟩⟩, [], rfl, qA, rfl, m1, rfl⟩)
end Go.Rh

set_option maxHeartbeats 8000000
namespace Go.Rh
def atS (l : List Nt) (k : Int) : Nt × Bool := if 0 ≤ k ∧ k < l.length then (l.getD k.toNat n0, true) else (n0, false)
def uhS (p : qL) (is : Bool) (b : Int) (n : Nt) : qL × Bool :=
 if n.b ≠ b then (p, is)
 else if n.w = true ∧ qX p is < n.p 0 then (n.p, true)
 else if n.w = false ∧ 0 ≤ qX p is ∧ n.v = i64.wrap (qX p is + 1) ∧ (zO p n.e).2 = 0 then ((zO p n.e).1, true)
 else (p, is)
theorem UHearC {P : Program} (hc : zb7 P) (h_yard_unit_version : zbi P) (h_plane_Plane_Version : zaB P) (h_yard_unit_load : zbH P) (h_plane_Plane_Load : za9 P) (h_plane_maybe_api_Pool_lay : zad P) (h_wheel_Make : zbV P) (h_wheel_spun : zbw P) (h_sip_Words : zbC P) (h_sip_Of : zcP P) (h_sip_number_byte : zag P) (h_sip_state_take : zao P) (h_sip_state_rounds : qV P) (h_sip_state_round : qW P) (h_math_bits_RotateLeft64 : zY P) (h_pool_Apply : zaU P) (h_pool_may : za3 P) (h_pool_held : zaT P) (h_pool_fits : za1 P) (h_pool_Check : zaO P) (h_pool_placed : zau P) (h_cookie_Next : zaC P) (p : qL) (is : Bool) (nr : Nat → Int × Bool) (q : Option Nat) (b : Int) (nt : Nt) (i : Int) :
    Env P "(*roundhouse/yard.unit).hear" [pv 0 0, iv i] ([cw (qD 1 p b 2), cw (zM p is nr (slV 3 127 q)), .chan 1 (([nt]).map ntE), cr []]) (fun v h' => v = .tuple #[ntV i b (qX (uhS p is b nt).1 (uhS p is b nt).2) false true e0 zH, bv true] ∧ (((uhS p is b nt) = (p, is) ∧ h' = [cw (qD 1 p b 2), cw (zM p is nr (slV 3 127 q)), .chan 1 (([] : List Nt).map ntE), cr []]) ∨ ((uhS p is b nt).2 = true ∧ ∃ m, h' = [cw (qD 1 ((uhS p is b nt).1) b 2), cw (zM ((uhS p is b nt).1) true nr (slV 4 127 (some m))), .chan 1 (([] : List Nt).map ntE), cr [], slB zI (ii (zaI ((uhS p is b nt).1))) (some m)]))) := by
 refine Env.by3 hc ?_
 unfold zdV
 show GC _ 4 _ _ ⟨reg [(0, pv 0 0), (1, iv i)], [cw (qD 1 p b 2), cw (zM p is nr (slV 3 127 q)), .chan 1 (([nt]).map ntE), cr []]⟩
 refine zR (zV (o_b 2 [(5, bv false), (4, pv 4 0)] [cw (qD 1 p b 2), cw (zM p is nr (slV 3 127 q)), .chan 1 (([nt]).map ntE), cr [], cw (ntF 0 0 0 false false e0 zH)] (by kernel_rfl) (zG (zC (zR (zV (o_d 3 [(12, pv 0 332), (11, pv 0 0), (10, pv 0 0)] (by kernel_rfl) (o_s (by refine z4 (v := .chan (some 2)) rfl rfl ?_; exact (zdQ 1).trans rfl) ?_))))))))
 refine zG (zC (zR (zV (o_sel1 (k := 2) (v := ntE nt) (b := ([] : List Nt).map ntE) rfl rfl (o_d 2 [(16, bv true), (15, iv 0)] (by kernel_rfl) (zG (zC (zai (zer rfl (zR (zV (o_b 2 [(6, pv 5 0), (18, ntE nt)] [cw (qD 1 p b 2), cw (zM p is nr (slV 3 127 q)), .chan 1 (([] : List Nt).map ntE), cr [], cw (ntF 0 0 0 false false e0 zH), cw (ntF 0 0 0 false false e0 zH)] (by kernel_rfl) ?_))))))))))))
 refine zc1 (by refine qQ (c' := ntL nt) rfl rfl rfl ?_ ?_ ?_; exact qF _ _ _ _ _ _ _; exact zdf (by omega); exact zbu) ?_
 refine zG (zC (zR (zV (o_d 1 [(19, pv 0 0)] (by kernel_rfl) (zcc (zdn [0, 1, 2, 3] [cr (qD 1 p b 2), cr (zM p is nr (slV 3 127 q)), .chan 1 (([] : List Nt).map ntE), cr []] [pv 0 0] (zdN h_yard_unit_version h_plane_Plane_Version p is nr q b ([])) rfl rfl ⟨⟨_, rfl, z9 (.inl (zbO rfl rfl (fun q => rfl)))⟩, ⟨⟨_, rfl, z9 (.inl (zaW (qY q rfl) (fun q => rfl)))⟩, ⟨⟨_, rfl, z9 (.inl (zcz _))⟩, ⟨⟨_, rfl, zJ⟩, trivial⟩⟩⟩⟩ (by decide) ?_))))))
 rintro v1 h1' ⟨rfl, rfl⟩
 refine ⟨(zA zD (zA zD (zA zD (zA zD qC)))), iv (qX p is), [cw (qD 1 p b 2), cw (zM p is nr (slV 3 127 q)), .chan 1 (([] : List Nt).map ntE), cr [], cw (ntF 0 0 0 false false e0 zH), cw (ntL nt)], [], rfl, ⟨rfl, ⟨rfl, ⟨zak _, ⟨(by cases true <;> rfl), ⟨rfl, ⟨rfl, trivial⟩⟩⟩⟩⟩⟩, trivial, ?_⟩
 refine o_d 1 [(7, iv (qX p is))] (by kernel_rfl) (zG (zC (zR (zai (zR (zdz ["roundhouse/pool.Apply"] (by kernel_rfl) (r_d 1 [(22, pv 5 1)] (by kernel_rfl) (r_s (by refine z4 (v := iv nt.b) rfl rfl ?_; exact zdT rfl) ?_))))))))
 refine r_d 3 [(26, pv 0 331), (25, pv 0 0), (24, pv 0 0)] (by kernel_rfl) (r_s (by refine z4 (v := iv b) rfl rfl ?_; exact (zdQ 0).trans rfl) ?_)
 refine r_d 2 [(21, bv (nt.b != b)), (28, bv (nt.b != b))] (by kernel_rfl) (zc6 (zC (zaj (t := nt.b != b) rfl (fun h1 => ?_) (fun h1 => ?_))))
 ·skip
  have h1' : nt.b ≠ b := zjt h1
  refine zaq (z5 [(4, pv 4 0), (0, pv 0 0), (1, iv i)] (by kernel_rfl) (zR (zbx [cw (qD 1 p b 2), cw (zM p is nr (slV 3 127 q)), .chan 1 (([] : List Nt).map ntE), cr [], cw (ntF 0 0 0 false false e0 zH), cw (ntL nt)] (by kernel_rfl) (d_n 4 4 6 [(76, pv 0 331), (75, pv 0 0), (74, pv 0 0), (73, iv i)] [cw (qD 1 p b 2), cw (zM p is nr (slV 3 127 q)), .chan 1 (([] : List Nt).map ntE), cr [], cw (ntF 0 0 0 false false e0 zH), cw (ntL nt)] [] (by kernel_rfl) rfl rfl (d_s rfl rfl rfl (by kernel_rfl) (by refine z4 (v := iv b) rfl rfl ?_; exact (zdQ 0).trans rfl) ?_)))))
  refine d_n 1 6 6 [(78, pv 0 0)] [cw (qD 1 p b 2), cw (zM p is nr (slV 3 127 q)), .chan 1 (([] : List Nt).map ntE), cr [], cw (ntF 0 0 0 false false e0 zH), cw (ntL nt)] [⟨4, [0], [], none⟩] (by kernel_rfl) rfl rfl (zgM [0, 1, 2, 3] [cr (qD 1 p b 2), cr (zM p is nr (slV 3 127 q)), .chan 1 (([] : List Nt).map ntE), cr []] [pv 0 0] (zdN h_yard_unit_version h_plane_Plane_Version p is nr q b ([])) rfl rfl ⟨⟨_, rfl, z9 (.inl (zbO rfl rfl (fun q => rfl)))⟩, ⟨⟨_, rfl, z9 (.inl (zaW (qY q rfl) (fun q => rfl)))⟩, ⟨⟨_, rfl, z9 (.inl (zcz _))⟩, ⟨⟨_, rfl, zJ⟩, trivial⟩⟩⟩⟩ (by decide) ⟨_, _, ⟨rfl, rfl⟩, Nat.le_refl _, zbf [_, _, _, _] []⟩ ?_ (by kernel_rfl))
  rintro v1 h1' ⟨rfl, rfl⟩
  refine ⟨(zA zD (zA zD (zA zD (zA zD qC)))), iv (qX p is), [cw (qD 1 p b 2), cw (zM p is nr (slV 3 127 q)), .chan 1 (([] : List Nt).map ntE), cr [], cw (ntF 0 0 0 false false e0 zH), cw (ntL nt)], [], rfl, ⟨rfl, ⟨rfl, ⟨zak _, ⟨(by cases true <;> rfl), ⟨rfl, ⟨rfl, trivial⟩⟩⟩⟩⟩⟩, trivial, ?_⟩
  refine d_s rfl rfl rfl (by kernel_rfl) (by refine zbZ (c := ntF i b (qX p is) false true e0 zH) ?_; exact zie rfl) ?_
  refine d_s0 rfl rfl ⟨_, _, _, rfl⟩ (by kernel_rfl) (by refine qQ (c' := ntF i b (qX p is) false true e0 zH) rfl rfl rfl ?_ ?_ ?_; exact qF _ _ _ _ _ _ _; exact zdf (by omega); exact zbu) ?_
  refine d_n 1 10 6 [(5, bv true)] [cw (qD 1 p b 2), cw (zM p is nr (slV 3 127 q)), .chan 1 (([] : List Nt).map ntE), cr [], cw (ntF i b (qX p is) false true e0 zH), cw (ntL nt)] [⟨8, [4], [4], none⟩, ⟨6, [0, 1, 2, 3], [2], some 6⟩, ⟨4, [0], [], none⟩] (by kernel_rfl) rfl rfl (zb2 (zC (zaZ ?_)))
  have hH : (uhS p is b nt) = (p, is) := by simp [uhS, h1, h1']
  exact ⟨trivial, [ntV i b (qX p is) false true e0 zH, bv true], (zaS rfl rfl (zbJ i b (qX p is) false true e0 zH) (qE rfl rfl)), (zU rfl (zU rfl qA)), (all_cons (za8 i b (qX p is) false true e0 zH) (all_cons rfl rfl)), ⟨reg [], [cw (qD 1 p b 2), cw (zM p is nr (slV 3 127 q)), .chan 1 (([] : List Nt).map ntE), cr []]⟩, Wk.ren [0, 1, 2, 3] rfl rfl (by decide) trivial ⟨.inl (za2 rfl rfl), ⟨.inl (zan (qY q rfl)), ⟨.inl (congrArg some (zak _).symm), ⟨.inl rfl, trivial⟩⟩⟩⟩, (by rw [hH]; rfl), .inl ⟨hH, rfl⟩⟩
 have h1' : ¬ (nt.b ≠ b) := zju h1
 refine zR (zV (o_d 1 [(30, pv 5 3)] (by kernel_rfl) (o_s (by refine z4 (v := bv nt.w) rfl rfl ?_; exact zdT rfl) ?_)))
 refine o_d 1 [(32, bv nt.w)] (by kernel_rfl) (zir (b := nt.w) 32 rfl (fun h2 => ?_) (fun h2 => ?_))
 ·skip
  refine o_d 3 [(35, pv 5 12), (34, pv 5 12), (33, iv (qX p is))] (by kernel_rfl) (zb6 rfl (o_s (by refine z4 (v := iv (nt.p 0)) rfl rfl ?_; exact (nt_rP 0).trans (pl_r nt.p 0 rfl (by omega))) ?_))
  refine o_d 3 [(29, bv (decide (qX p is < nt.p 0))), (38, bv (decide (qX p is < nt.p 0))), (37, bv (decide (qX p is < nt.p 0)))] (by kernel_rfl) (zG (z5 [(29, bv (decide (qX p is < nt.p 0))), (7, iv (qX p is)), (6, pv 5 0), (4, pv 4 0), (0, pv 0 0), (1, iv i)] (by kernel_rfl) (zaj (t := decide (qX p is < nt.p 0)) rfl (fun h3 => ?_) (fun h3 => ?_))))
  ·skip
   have h3' : qX p is < nt.p 0 := of_decide_eq_true h3
   refine zV (o_d 2 [(40, pv 5 12), (39, pv 0 0)] (by kernel_rfl) (o_s (by refine z4 (v := qG nt.p) rfl rfl ?_; exact (nt_rP 0).trans (zal nt.p)) ?_))
   refine zcc (zdn [0, 1, 2, 3] [cw (qD 1 p b 2), cw (zM p is nr (slV 3 127 q)), .chan 1 (([] : List Nt).map ntE), cr []] [pv 0 0, qG nt.p] (ULoadC h_yard_unit_load h_plane_Plane_Load h_plane_maybe_api_Pool_lay h_wheel_Make h_wheel_spun h_sip_Words h_sip_Of h_sip_number_byte h_sip_state_take h_sip_state_rounds h_sip_state_round h_math_bits_RotateLeft64 p is nr q b ([]) nt.p) rfl (zaz rfl (zaz (qN (zaG nt.p)) rfl)) ⟨⟨_, rfl, z9 (.inl (zbO rfl rfl (fun q => rfl)))⟩, ⟨⟨_, rfl, z9 (.inl (zaW (qY q rfl) (fun q => rfl)))⟩, ⟨⟨_, rfl, z9 (.inl (zcz _))⟩, ⟨⟨_, rfl, zJ⟩, trivial⟩⟩⟩⟩ (by decide) ?_)
   rintro v1 h1' ⟨rfl, m4, rfl⟩
   refine ⟨(zA qM (zA qM (zA zD (zA zD qC)))), .tuple #[], [cw (qD 1 nt.p b 2), cw (zM nt.p true nr (slV 6 127 (some m4))), .chan 1 (([] : List Nt).map ntE), cr [], cw (ntF 0 0 0 false false e0 zH), cw (ntL nt)], [slB zI (ii (zaI nt.p)) (some m4)], (by simp [zbF]), ⟨zcF rfl rfl, ⟨zbo rfl, ⟨zak _, ⟨(by cases true <;> rfl), ⟨rfl, ⟨rfl, trivial⟩⟩⟩⟩⟩⟩, ⟨(Option.some.inj (zaM (some m4) (fun _ => (zct _ _)))).symm, trivial⟩, ?_⟩
   refine zG (zC (zR (zbx [cw (qD 1 nt.p b 2), cw (zM nt.p true nr (slV 6 127 (some m4))), .chan 1 (([] : List Nt).map ntE), cr [], cw (ntF 0 0 0 false false e0 zH), cw (ntL nt), slB zI (ii (zaI nt.p)) (some m4)] (by kernel_rfl) (d_n 4 4 7 [(76, pv 0 331), (75, pv 0 0), (74, pv 0 0), (73, iv i)] [cw (qD 1 nt.p b 2), cw (zM nt.p true nr (slV 6 127 (some m4))), .chan 1 (([] : List Nt).map ntE), cr [], cw (ntF 0 0 0 false false e0 zH), cw (ntL nt), slB zI (ii (zaI nt.p)) (some m4)] [] (by kernel_rfl) rfl rfl (d_s rfl rfl rfl (by kernel_rfl) (by refine z4 (v := iv b) rfl rfl ?_; exact (zdQ 0).trans rfl) ?_)))))
   refine d_n 1 6 7 [(78, pv 0 0)] [cw (qD 1 nt.p b 2), cw (zM nt.p true nr (slV 6 127 (some m4))), .chan 1 (([] : List Nt).map ntE), cr [], cw (ntF 0 0 0 false false e0 zH), cw (ntL nt), slB zI (ii (zaI nt.p)) (some m4)] [⟨4, [0], [], none⟩] (by kernel_rfl) rfl rfl (zgM [0, 1, 2, 6] [cr (qD 1 nt.p b 2), cr (zM nt.p true nr (slV 3 127 (some m4))), .chan 1 (([] : List Nt).map ntE), cr []] [pv 0 0] (zdN h_yard_unit_version h_plane_Plane_Version nt.p true nr (some m4) b ([])) rfl rfl ⟨⟨_, rfl, z9 (.inl (zbO rfl rfl (fun q => rfl)))⟩, ⟨⟨_, rfl, z9 (.inl (zaW rfl (fun q => rfl)))⟩, ⟨⟨_, rfl, z9 (.inl (zcz _))⟩, ⟨⟨_, rfl, view_hidS (some m4)⟩, trivial⟩⟩⟩⟩ (by decide) ⟨_, _, ⟨rfl, rfl⟩, Nat.le_refl _, zbf [_, _, _, _] []⟩ ?_ (by kernel_rfl))
   rintro v1 h1' ⟨rfl, rfl⟩
   refine ⟨(zA zD (zA zD (zA zD (zA zD qC)))), iv (qX nt.p true), [cw (qD 1 nt.p b 2), cw (zM nt.p true nr (slV 6 127 (some m4))), .chan 1 (([] : List Nt).map ntE), cr [], cw (ntF 0 0 0 false false e0 zH), cw (ntL nt), slB zI (ii (zaI nt.p)) (some m4)], [], rfl, ⟨rfl, ⟨rfl, ⟨zak _, ⟨rfl, ⟨rfl, ⟨rfl, ⟨rfl, trivial⟩⟩⟩⟩⟩⟩⟩, trivial, ?_⟩
   refine d_s rfl rfl rfl (by kernel_rfl) (by refine zbZ (c := ntF i b (qX nt.p true) false true e0 zH) ?_; exact zie rfl) ?_
   refine d_s0 rfl rfl ⟨_, _, _, rfl⟩ (by kernel_rfl) (by refine qQ (c' := ntF i b (qX nt.p true) false true e0 zH) rfl rfl rfl ?_ ?_ ?_; exact qF _ _ _ _ _ _ _; exact zdf (by omega); exact zbu) ?_
   refine d_n 1 10 7 [(5, bv true)] [cw (qD 1 nt.p b 2), cw (zM nt.p true nr (slV 6 127 (some m4))), .chan 1 (([] : List Nt).map ntE), cr [], cw (ntF i b (qX nt.p true) false true e0 zH), cw (ntL nt), slB zI (ii (zaI nt.p)) (some m4)] [⟨8, [4], [4], none⟩, ⟨6, [0, 1, 2, 6], [2], some 7⟩, ⟨4, [0], [], none⟩] (by kernel_rfl) rfl rfl (zb2 (zC (zaZ ?_)))
   have hH : (uhS p is b nt) = (nt.p, true) := by simp [uhS, h1, h1', h2, h3, h3']
   exact ⟨trivial, [ntV i b (qX nt.p true) false true e0 zH, bv true], (zaS rfl rfl (zbJ i b (qX nt.p true) false true e0 zH) (qE rfl rfl)), (zU rfl (zU rfl qA)), (all_cons (za8 i b (qX nt.p true) false true e0 zH) (all_cons rfl rfl)), ⟨reg [], [cw (qD 1 nt.p b 2), cw (zM nt.p true nr (slV 4 127 (some m4))), .chan 1 (([] : List Nt).map ntE), cr [], slB zI (ii (zaI nt.p)) (some m4)]⟩, Wk.ren [0, 1, 2, 3, 6] rfl rfl (by decide) trivial ⟨.inl (za2 rfl rfl), ⟨.inl (zan rfl), ⟨.inl (congrArg some (zak _).symm), ⟨.inl rfl, ⟨.inl (zaM (some m4) (fun _ => (zct _ _))), trivial⟩⟩⟩⟩⟩, (by rw [hH]; rfl), .inr ⟨by rw [hH], m4, (by rw [hH])⟩⟩
  have h3' : ¬ (qX p is < nt.p 0) := of_decide_eq_false h3
  refine zR (zV (o_d 1 [(44, pv 5 3)] (by kernel_rfl) (o_s (by refine z4 (v := bv nt.w) rfl rfl ?_; exact zdT rfl) ?_)))
  refine o_d 2 [(47, bv (!nt.w)), (46, bv (!nt.w))] (by kernel_rfl) (zir (b := !nt.w) 47 rfl (fun q => by rw [(by rw [h2]; rfl : (!nt.w) = false)] at q; cases q) (fun k5 => ?_))
  refine o_d 11 [(43, bv false), (57, bv false), (56, undef), (55, undef), (54, undef), (53, undef), (52, undef), (51, bv false), (50, bv false), (49, undef), (48, undef)] (by kernel_rfl) (zG (zC (zbW rfl (zaq (zC (zR (zbx [cw (qD 1 p b 2), cw (zM p is nr (slV 3 127 q)), .chan 1 (([] : List Nt).map ntE), cr [], cw (ntF 0 0 0 false false e0 zH), cw (ntL nt)] (by kernel_rfl) (d_n 4 4 6 [(76, pv 0 331), (75, pv 0 0), (74, pv 0 0), (73, iv i)] [cw (qD 1 p b 2), cw (zM p is nr (slV 3 127 q)), .chan 1 (([] : List Nt).map ntE), cr [], cw (ntF 0 0 0 false false e0 zH), cw (ntL nt)] [] (by kernel_rfl) rfl rfl (d_s rfl rfl rfl (by kernel_rfl) (by refine z4 (v := iv b) rfl rfl ?_; exact (zdQ 0).trans rfl) ?_)))))))))
  refine d_n 1 6 6 [(78, pv 0 0)] [cw (qD 1 p b 2), cw (zM p is nr (slV 3 127 q)), .chan 1 (([] : List Nt).map ntE), cr [], cw (ntF 0 0 0 false false e0 zH), cw (ntL nt)] [⟨4, [0], [], none⟩] (by kernel_rfl) rfl rfl (zgM [0, 1, 2, 3] [cr (qD 1 p b 2), cr (zM p is nr (slV 3 127 q)), .chan 1 (([] : List Nt).map ntE), cr []] [pv 0 0] (zdN h_yard_unit_version h_plane_Plane_Version p is nr q b ([])) rfl rfl ⟨⟨_, rfl, z9 (.inl (zbO rfl rfl (fun q => rfl)))⟩, ⟨⟨_, rfl, z9 (.inl (zaW (qY q rfl) (fun q => rfl)))⟩, ⟨⟨_, rfl, z9 (.inl (zcz _))⟩, ⟨⟨_, rfl, zJ⟩, trivial⟩⟩⟩⟩ (by decide) ⟨_, _, ⟨rfl, rfl⟩, Nat.le_refl _, zbf [_, _, _, _] []⟩ ?_ (by kernel_rfl))
  rintro v1 h1' ⟨rfl, rfl⟩
  refine ⟨(zA zD (zA zD (zA zD (zA zD qC)))), iv (qX p is), [cw (qD 1 p b 2), cw (zM p is nr (slV 3 127 q)), .chan 1 (([] : List Nt).map ntE), cr [], cw (ntF 0 0 0 false false e0 zH), cw (ntL nt)], [], rfl, ⟨rfl, ⟨rfl, ⟨zak _, ⟨(by cases true <;> rfl), ⟨rfl, ⟨rfl, trivial⟩⟩⟩⟩⟩⟩, trivial, ?_⟩
  refine d_s rfl rfl rfl (by kernel_rfl) (by refine zbZ (c := ntF i b (qX p is) false true e0 zH) ?_; exact zie rfl) ?_
  refine d_s0 rfl rfl ⟨_, _, _, rfl⟩ (by kernel_rfl) (by refine qQ (c' := ntF i b (qX p is) false true e0 zH) rfl rfl rfl ?_ ?_ ?_; exact qF _ _ _ _ _ _ _; exact zdf (by omega); exact zbu) ?_
  refine d_n 1 10 6 [(5, bv true)] [cw (qD 1 p b 2), cw (zM p is nr (slV 3 127 q)), .chan 1 (([] : List Nt).map ntE), cr [], cw (ntF i b (qX p is) false true e0 zH), cw (ntL nt)] [⟨8, [4], [4], none⟩, ⟨6, [0, 1, 2, 3], [2], some 6⟩, ⟨4, [0], [], none⟩] (by kernel_rfl) rfl rfl (zb2 (z5 [(5, bv true), (4, pv 4 0)] (by kernel_rfl) (zaZ ?_)))
  have hH : (uhS p is b nt) = (p, is) := by simp [uhS, h1, h1', h2, h3, h3']
  exact ⟨trivial, [ntV i b (qX p is) false true e0 zH, bv true], (zaS rfl rfl (zbJ i b (qX p is) false true e0 zH) (qE rfl rfl)), (zU rfl (zU rfl qA)), (all_cons (za8 i b (qX p is) false true e0 zH) (all_cons rfl rfl)), ⟨reg [], [cw (qD 1 p b 2), cw (zM p is nr (slV 3 127 q)), .chan 1 (([] : List Nt).map ntE), cr []]⟩, Wk.ren [0, 1, 2, 3] rfl rfl (by decide) trivial ⟨.inl (za2 rfl rfl), ⟨.inl (zan (qY q rfl)), ⟨.inl (congrArg some (zak _).symm), ⟨.inl rfl, trivial⟩⟩⟩⟩, (by rw [hH]; rfl), .inl ⟨hH, rfl⟩⟩
 refine o_d 7 [(29, bv false), (38, bv false), (37, undef), (36, undef), (35, undef), (34, undef), (33, undef)] (by kernel_rfl) (zG (z5 [(29, bv false), (7, iv (qX p is)), (6, pv 5 0), (4, pv 4 0), (0, pv 0 0), (1, iv i)] (by kernel_rfl) (zbW rfl (zR (zV (o_d 1 [(44, pv 5 3)] (by kernel_rfl) (o_s (by refine z4 (v := bv nt.w) rfl rfl ?_; exact zdT rfl) ?_)))))))
 refine o_d 2 [(47, bv (!nt.w)), (46, bv (!nt.w))] (by kernel_rfl) (zir (b := !nt.w) 47 rfl (fun k6 => ?_) (fun q => by rw [(by rw [h2]; rfl : (!nt.w) = true)] at q; cases q))
 refine o_d 4 [(51, bv (decide (qX p is ≥ 0))), (50, bv (decide (qX p is ≥ 0))), (49, bv (decide (qX p is ≥ 0))), (48, iv (qX p is))] (by kernel_rfl) (zir (b := decide (qX p is ≥ 0)) 51 rfl (fun h7 => ?_) (fun h7 => ?_))
 ·skip
  have h7' : qX p is ≥ 0 := of_decide_eq_true h7
  refine o_d 1 [(52, pv 5 2)] (by kernel_rfl) (zb6 rfl (o_s (by refine z4 (v := iv nt.v) rfl rfl ?_; exact zdT rfl) ?_))
  refine o_d 5 [(43, bv (nt.v == (i64.wrap (qX p is + 1)))), (57, bv (nt.v == (i64.wrap (qX p is + 1)))), (56, bv (nt.v == (i64.wrap (qX p is + 1)))), (55, iv (i64.wrap (qX p is + 1))), (54, iv (qX p is))] (by kernel_rfl) (zG (zC (zaj (t := nt.v == (i64.wrap (qX p is + 1))) rfl (fun h8 => ?_) (fun h8 => ?_))))
  ·skip
   have h8' : nt.v = i64.wrap (qX p is + 1) := zcf h8
   refine zR (zdz ["roundhouse/pool.Apply"] (by kernel_rfl) (r_d 3 [(61, pv 0 1), (60, pv 0 0), (59, pv 0 0)] (by kernel_rfl) (r_s (by refine z4 (v := qG p) rfl rfl ?_; exact unit_rP (zal p)) ?_)))
   refine r_d 1 [(63, pv 5 5)] (by kernel_rfl) (r_s (by refine z4 (v := .agg #[iv nt.e.k, iv nt.e.s, iv nt.e.a, iv nt.e.p, iv nt.e.g, uv nt.e.ka, uv nt.e.kb]) rfl rfl ?_; exact zdT rfl) ?_)
   refine r_cl (zhl (ApplyC h_pool_Apply h_pool_may h_pool_held h_pool_fits h_pool_Check h_pool_placed h_cookie_Next p nt.e) rfl (all_cons (zaG p) (all_cons rfl rfl)) (all_cons (qZ ((zO p nt.e).1)) (all_cons rfl rfl)) (r_b 4 [(8, pv 6 0), (67, iv ((zO p nt.e).2)), (66, qG ((zO p nt.e).1)), (58, .tuple #[qG ((zO p nt.e).1), iv ((zO p nt.e).2)])] [cw (qD 1 p b 2), cw (zM p is nr (slV 3 127 q)), .chan 1 (([] : List Nt).map ntE), cr [], cw (ntF 0 0 0 false false e0 zH), cw (ntL nt), cw (pl zH)] (by kernel_rfl) (r_s0 (by refine qQ (c' := pl ((zO p nt.e).1)) rfl rfl rfl ?_ ?_ ?_; exact zN _; exact zbU (by omega); exact qO zH ((zO p nt.e).1)) ?_)))
   refine r_b 1 [(9, iv ((zO p nt.e).2))] [cw (qD 1 p b 2), cw (zM p is nr (slV 3 127 q)), .chan 1 (([] : List Nt).map ntE), cr [], cw (ntF 0 0 0 false false e0 zH), cw (ntL nt), cw (pl ((zO p nt.e).1))] (by kernel_rfl) (zc6 (z5 [(9, iv ((zO p nt.e).2)), (8, pv 6 0), (4, pv 4 0), (0, pv 0 0), (1, iv i)] (by kernel_rfl) (zR (zV (o_d 2 [(69, bv (((zO p nt.e).2) == 0)), (68, iv ((zO p nt.e).2))] (by kernel_rfl) (zG (zC (zaj (t := ((zO p nt.e).2) == 0) rfl (fun h9 => ?_) (fun h9 => ?_)))))))))
   ·skip
    have h9' : (zO p nt.e).2 = 0 := zcf h9
    refine zV (o_d 1 [(70, pv 0 0)] (by kernel_rfl) (o_s (by refine z4 (v := qG ((zO p nt.e).1)) rfl rfl ?_; exact zal ((zO p nt.e).1)) ?_))
    refine zcc (zdn [0, 1, 2, 3] [cw (qD 1 p b 2), cw (zM p is nr (slV 3 127 q)), .chan 1 (([] : List Nt).map ntE), cr []] [pv 0 0, qG ((zO p nt.e).1)] (ULoadC h_yard_unit_load h_plane_Plane_Load h_plane_maybe_api_Pool_lay h_wheel_Make h_wheel_spun h_sip_Words h_sip_Of h_sip_number_byte h_sip_state_take h_sip_state_rounds h_sip_state_round h_math_bits_RotateLeft64 p is nr q b ([]) ((zO p nt.e).1)) rfl (zaz rfl (zaz (qN (zaG ((zO p nt.e).1))) rfl)) ⟨⟨_, rfl, z9 (.inl (zbO rfl rfl (fun q => rfl)))⟩, ⟨⟨_, rfl, z9 (.inl (zaW (qY q rfl) (fun q => rfl)))⟩, ⟨⟨_, rfl, z9 (.inl (zcz _))⟩, ⟨⟨_, rfl, zJ⟩, trivial⟩⟩⟩⟩ (by decide) ?_)
    rintro v1 h1' ⟨rfl, m10, rfl⟩
    refine ⟨(zA qM (zA qM (zA zD (zA zD qC)))), .tuple #[], [cw (qD 1 ((zO p nt.e).1) b 2), cw (zM ((zO p nt.e).1) true nr (slV 7 127 (some m10))), .chan 1 (([] : List Nt).map ntE), cr [], cw (ntF 0 0 0 false false e0 zH), cw (ntL nt), cw (pl ((zO p nt.e).1))], [slB zI (ii (zaI ((zO p nt.e).1))) (some m10)], (by simp [zbF]), ⟨zcF rfl rfl, ⟨zbo rfl, ⟨zak _, ⟨(by cases true <;> rfl), ⟨rfl, ⟨rfl, ⟨rfl, trivial⟩⟩⟩⟩⟩⟩⟩, ⟨(Option.some.inj (zaM (some m10) (fun _ => (zct _ _)))).symm, trivial⟩, ?_⟩
    refine zG (zC (zR (zbx [cw (qD 1 ((zO p nt.e).1) b 2), cw (zM ((zO p nt.e).1) true nr (slV 7 127 (some m10))), .chan 1 (([] : List Nt).map ntE), cr [], cw (ntF 0 0 0 false false e0 zH), cw (ntL nt), cw (pl ((zO p nt.e).1)), slB zI (ii (zaI ((zO p nt.e).1))) (some m10)] (by kernel_rfl) (d_n 4 4 8 [(76, pv 0 331), (75, pv 0 0), (74, pv 0 0), (73, iv i)] [cw (qD 1 ((zO p nt.e).1) b 2), cw (zM ((zO p nt.e).1) true nr (slV 7 127 (some m10))), .chan 1 (([] : List Nt).map ntE), cr [], cw (ntF 0 0 0 false false e0 zH), cw (ntL nt), cw (pl ((zO p nt.e).1)), slB zI (ii (zaI ((zO p nt.e).1))) (some m10)] [] (by kernel_rfl) rfl rfl (d_s rfl rfl rfl (by kernel_rfl) (by refine z4 (v := iv b) rfl rfl ?_; exact (zdQ 0).trans rfl) ?_)))))
    refine d_n 1 6 8 [(78, pv 0 0)] [cw (qD 1 ((zO p nt.e).1) b 2), cw (zM ((zO p nt.e).1) true nr (slV 7 127 (some m10))), .chan 1 (([] : List Nt).map ntE), cr [], cw (ntF 0 0 0 false false e0 zH), cw (ntL nt), cw (pl ((zO p nt.e).1)), slB zI (ii (zaI ((zO p nt.e).1))) (some m10)] [⟨4, [0], [], none⟩] (by kernel_rfl) rfl rfl (zgM [0, 1, 2, 7] [cr (qD 1 ((zO p nt.e).1) b 2), cr (zM ((zO p nt.e).1) true nr (slV 3 127 (some m10))), .chan 1 (([] : List Nt).map ntE), cr []] [pv 0 0] (zdN h_yard_unit_version h_plane_Plane_Version ((zO p nt.e).1) true nr (some m10) b ([])) rfl rfl ⟨⟨_, rfl, z9 (.inl (zbO rfl rfl (fun q => rfl)))⟩, ⟨⟨_, rfl, z9 (.inl (zaW rfl (fun q => rfl)))⟩, ⟨⟨_, rfl, z9 (.inl (zcz _))⟩, ⟨⟨_, rfl, view_hidS (some m10)⟩, trivial⟩⟩⟩⟩ (by decide) ⟨_, _, ⟨rfl, rfl⟩, Nat.le_refl _, zbf [_, _, _, _] []⟩ ?_ (by kernel_rfl))
    rintro v1 h1' ⟨rfl, rfl⟩
    refine ⟨(zA zD (zA zD (zA zD (zA zD qC)))), iv (qX ((zO p nt.e).1) true), [cw (qD 1 ((zO p nt.e).1) b 2), cw (zM ((zO p nt.e).1) true nr (slV 7 127 (some m10))), .chan 1 (([] : List Nt).map ntE), cr [], cw (ntF 0 0 0 false false e0 zH), cw (ntL nt), cw (pl ((zO p nt.e).1)), slB zI (ii (zaI ((zO p nt.e).1))) (some m10)], [], rfl, ⟨rfl, ⟨rfl, ⟨zak _, ⟨rfl, ⟨rfl, ⟨rfl, ⟨rfl, ⟨rfl, trivial⟩⟩⟩⟩⟩⟩⟩⟩, trivial, ?_⟩
    refine d_s rfl rfl rfl (by kernel_rfl) (by refine zbZ (c := ntF i b (qX ((zO p nt.e).1) true) false true e0 zH) ?_; exact zie rfl) ?_
    refine d_s0 rfl rfl ⟨_, _, _, rfl⟩ (by kernel_rfl) (by refine qQ (c' := ntF i b (qX ((zO p nt.e).1) true) false true e0 zH) rfl rfl rfl ?_ ?_ ?_; exact qF _ _ _ _ _ _ _; exact zdf (by omega); exact zbu) ?_
    refine d_n 1 10 8 [(5, bv true)] [cw (qD 1 ((zO p nt.e).1) b 2), cw (zM ((zO p nt.e).1) true nr (slV 7 127 (some m10))), .chan 1 (([] : List Nt).map ntE), cr [], cw (ntF i b (qX ((zO p nt.e).1) true) false true e0 zH), cw (ntL nt), cw (pl ((zO p nt.e).1)), slB zI (ii (zaI ((zO p nt.e).1))) (some m10)] [⟨8, [4], [4], none⟩, ⟨6, [0, 1, 2, 7], [2], some 8⟩, ⟨4, [0], [], none⟩] (by kernel_rfl) rfl rfl (zb2 (zC (zaZ ?_)))
    have hH : (uhS p is b nt) = ((zO p nt.e).1, true) := by simp [uhS, h1, h1', h2, h7, h7', h8, h8', h9, h9']
    exact ⟨trivial, [ntV i b (qX ((zO p nt.e).1) true) false true e0 zH, bv true], (zaS rfl rfl (zbJ i b (qX ((zO p nt.e).1) true) false true e0 zH) (qE rfl rfl)), (zU rfl (zU rfl qA)), (all_cons (za8 i b (qX ((zO p nt.e).1) true) false true e0 zH) (all_cons rfl rfl)), ⟨reg [], [cw (qD 1 ((zO p nt.e).1) b 2), cw (zM ((zO p nt.e).1) true nr (slV 4 127 (some m10))), .chan 1 (([] : List Nt).map ntE), cr [], slB zI (ii (zaI ((zO p nt.e).1))) (some m10)]⟩, Wk.ren [0, 1, 2, 3, 7] rfl rfl (by decide) trivial ⟨.inl (za2 rfl rfl), ⟨.inl (zan rfl), ⟨.inl (congrArg some (zak _).symm), ⟨.inl rfl, ⟨.inl (zaM (some m10) (fun _ => (zct _ _))), trivial⟩⟩⟩⟩⟩, (by rw [hH]; rfl), .inr ⟨by rw [hH], m10, (by rw [hH])⟩⟩
   have h9' : ¬ ((zO p nt.e).2 = 0) := zcg h9
   refine zaq (zC (zR (zbx [cw (qD 1 p b 2), cw (zM p is nr (slV 3 127 q)), .chan 1 (([] : List Nt).map ntE), cr [], cw (ntF 0 0 0 false false e0 zH), cw (ntL nt), cw (pl ((zO p nt.e).1))] (by kernel_rfl) (d_n 4 4 7 [(76, pv 0 331), (75, pv 0 0), (74, pv 0 0), (73, iv i)] [cw (qD 1 p b 2), cw (zM p is nr (slV 3 127 q)), .chan 1 (([] : List Nt).map ntE), cr [], cw (ntF 0 0 0 false false e0 zH), cw (ntL nt), cw (pl ((zO p nt.e).1))] [] (by kernel_rfl) rfl rfl (d_s rfl rfl rfl (by kernel_rfl) (by refine z4 (v := iv b) rfl rfl ?_; exact (zdQ 0).trans rfl) ?_)))))
   refine d_n 1 6 7 [(78, pv 0 0)] [cw (qD 1 p b 2), cw (zM p is nr (slV 3 127 q)), .chan 1 (([] : List Nt).map ntE), cr [], cw (ntF 0 0 0 false false e0 zH), cw (ntL nt), cw (pl ((zO p nt.e).1))] [⟨4, [0], [], none⟩] (by kernel_rfl) rfl rfl (zgM [0, 1, 2, 3] [cr (qD 1 p b 2), cr (zM p is nr (slV 3 127 q)), .chan 1 (([] : List Nt).map ntE), cr []] [pv 0 0] (zdN h_yard_unit_version h_plane_Plane_Version p is nr q b ([])) rfl rfl ⟨⟨_, rfl, z9 (.inl (zbO rfl rfl (fun q => rfl)))⟩, ⟨⟨_, rfl, z9 (.inl (zaW (qY q rfl) (fun q => rfl)))⟩, ⟨⟨_, rfl, z9 (.inl (zcz _))⟩, ⟨⟨_, rfl, zJ⟩, trivial⟩⟩⟩⟩ (by decide) ⟨_, _, ⟨rfl, rfl⟩, Nat.le_refl _, zbf [_, _, _, _] []⟩ ?_ (by kernel_rfl))
   rintro v1 h1' ⟨rfl, rfl⟩
   refine ⟨(zA zD (zA zD (zA zD (zA zD qC)))), iv (qX p is), [cw (qD 1 p b 2), cw (zM p is nr (slV 3 127 q)), .chan 1 (([] : List Nt).map ntE), cr [], cw (ntF 0 0 0 false false e0 zH), cw (ntL nt), cw (pl ((zO p nt.e).1))], [], rfl, ⟨rfl, ⟨rfl, ⟨zak _, ⟨(by cases true <;> rfl), ⟨rfl, ⟨rfl, ⟨rfl, trivial⟩⟩⟩⟩⟩⟩⟩, trivial, ?_⟩
   refine d_s rfl rfl rfl (by kernel_rfl) (by refine zbZ (c := ntF i b (qX p is) false true e0 zH) ?_; exact zie rfl) ?_
   refine d_s0 rfl rfl ⟨_, _, _, rfl⟩ (by kernel_rfl) (by refine qQ (c' := ntF i b (qX p is) false true e0 zH) rfl rfl rfl ?_ ?_ ?_; exact qF _ _ _ _ _ _ _; exact zdf (by omega); exact zbu) ?_
   refine d_n 1 10 7 [(5, bv true)] [cw (qD 1 p b 2), cw (zM p is nr (slV 3 127 q)), .chan 1 (([] : List Nt).map ntE), cr [], cw (ntF i b (qX p is) false true e0 zH), cw (ntL nt), cw (pl ((zO p nt.e).1))] [⟨8, [4], [4], none⟩, ⟨6, [0, 1, 2, 3], [2], some 7⟩, ⟨4, [0], [], none⟩] (by kernel_rfl) rfl rfl (zb2 (zC (zaZ ?_)))
   have hH : (uhS p is b nt) = (p, is) := by simp [uhS, h1, h1', h2, h7, h7', h8, h8', h9, h9']
   exact ⟨trivial, [ntV i b (qX p is) false true e0 zH, bv true], (zaS rfl rfl (zbJ i b (qX p is) false true e0 zH) (qE rfl rfl)), (zU rfl (zU rfl qA)), (all_cons (za8 i b (qX p is) false true e0 zH) (all_cons rfl rfl)), ⟨reg [], [cw (qD 1 p b 2), cw (zM p is nr (slV 3 127 q)), .chan 1 (([] : List Nt).map ntE), cr []]⟩, Wk.ren [0, 1, 2, 3] rfl rfl (by decide) trivial ⟨.inl (za2 rfl rfl), ⟨.inl (zan (qY q rfl)), ⟨.inl (congrArg some (zak _).symm), ⟨.inl rfl, trivial⟩⟩⟩⟩, (by rw [hH]; rfl), .inl ⟨hH, rfl⟩⟩
  have h8' : ¬ (nt.v = i64.wrap (qX p is + 1)) := zcg h8
  refine zaq (zC (zR (zbx [cw (qD 1 p b 2), cw (zM p is nr (slV 3 127 q)), .chan 1 (([] : List Nt).map ntE), cr [], cw (ntF 0 0 0 false false e0 zH), cw (ntL nt)] (by kernel_rfl) (d_n 4 4 6 [(76, pv 0 331), (75, pv 0 0), (74, pv 0 0), (73, iv i)] [cw (qD 1 p b 2), cw (zM p is nr (slV 3 127 q)), .chan 1 (([] : List Nt).map ntE), cr [], cw (ntF 0 0 0 false false e0 zH), cw (ntL nt)] [] (by kernel_rfl) rfl rfl (d_s rfl rfl rfl (by kernel_rfl) (by refine z4 (v := iv b) rfl rfl ?_; exact (zdQ 0).trans rfl) ?_)))))
  refine d_n 1 6 6 [(78, pv 0 0)] [cw (qD 1 p b 2), cw (zM p is nr (slV 3 127 q)), .chan 1 (([] : List Nt).map ntE), cr [], cw (ntF 0 0 0 false false e0 zH), cw (ntL nt)] [⟨4, [0], [], none⟩] (by kernel_rfl) rfl rfl (zgM [0, 1, 2, 3] [cr (qD 1 p b 2), cr (zM p is nr (slV 3 127 q)), .chan 1 (([] : List Nt).map ntE), cr []] [pv 0 0] (zdN h_yard_unit_version h_plane_Plane_Version p is nr q b ([])) rfl rfl ⟨⟨_, rfl, z9 (.inl (zbO rfl rfl (fun q => rfl)))⟩, ⟨⟨_, rfl, z9 (.inl (zaW (qY q rfl) (fun q => rfl)))⟩, ⟨⟨_, rfl, z9 (.inl (zcz _))⟩, ⟨⟨_, rfl, zJ⟩, trivial⟩⟩⟩⟩ (by decide) ⟨_, _, ⟨rfl, rfl⟩, Nat.le_refl _, zbf [_, _, _, _] []⟩ ?_ (by kernel_rfl))
  rintro v1 h1' ⟨rfl, rfl⟩
  refine ⟨(zA zD (zA zD (zA zD (zA zD qC)))), iv (qX p is), [cw (qD 1 p b 2), cw (zM p is nr (slV 3 127 q)), .chan 1 (([] : List Nt).map ntE), cr [], cw (ntF 0 0 0 false false e0 zH), cw (ntL nt)], [], rfl, ⟨rfl, ⟨rfl, ⟨zak _, ⟨(by cases true <;> rfl), ⟨rfl, ⟨rfl, trivial⟩⟩⟩⟩⟩⟩, trivial, ?_⟩
  refine d_s rfl rfl rfl (by kernel_rfl) (by refine zbZ (c := ntF i b (qX p is) false true e0 zH) ?_; exact zie rfl) ?_
  refine d_s0 rfl rfl ⟨_, _, _, rfl⟩ (by kernel_rfl) (by refine qQ (c' := ntF i b (qX p is) false true e0 zH) rfl rfl rfl ?_ ?_ ?_; exact qF _ _ _ _ _ _ _; exact zdf (by omega); exact zbu) ?_
  refine d_n 1 10 6 [(5, bv true)] [cw (qD 1 p b 2), cw (zM p is nr (slV 3 127 q)), .chan 1 (([] : List Nt).map ntE), cr [], cw (ntF i b (qX p is) false true e0 zH), cw (ntL nt)] [⟨8, [4], [4], none⟩, ⟨6, [0, 1, 2, 3], [2], some 6⟩, ⟨4, [0], [], none⟩] (by kernel_rfl) rfl rfl (zb2 (z5 [(5, bv true), (4, pv 4 0)] (by kernel_rfl) (zaZ ?_)))
  have hH : (uhS p is b nt) = (p, is) := by simp [uhS, h1, h1', h2, h7, h7', h8, h8']
  exact ⟨trivial, [ntV i b (qX p is) false true e0 zH, bv true], (zaS rfl rfl (zbJ i b (qX p is) false true e0 zH) (qE rfl rfl)), (zU rfl (zU rfl qA)), (all_cons (za8 i b (qX p is) false true e0 zH) (all_cons rfl rfl)), ⟨reg [], [cw (qD 1 p b 2), cw (zM p is nr (slV 3 127 q)), .chan 1 (([] : List Nt).map ntE), cr []]⟩, Wk.ren [0, 1, 2, 3] rfl rfl (by decide) trivial ⟨.inl (za2 rfl rfl), ⟨.inl (zan (qY q rfl)), ⟨.inl (congrArg some (zak _).symm), ⟨.inl rfl, trivial⟩⟩⟩⟩, (by rw [hH]; rfl), .inl ⟨hH, rfl⟩⟩
 have h7' : ¬ (qX p is ≥ 0) := of_decide_eq_false h7
 refine o_d 7 [(43, bv false), (57, bv false), (56, undef), (55, undef), (54, undef), (53, undef), (52, undef)] (by kernel_rfl) (zG (zC (zbW rfl (zaq (zC (zR (zbx [cw (qD 1 p b 2), cw (zM p is nr (slV 3 127 q)), .chan 1 (([] : List Nt).map ntE), cr [], cw (ntF 0 0 0 false false e0 zH), cw (ntL nt)] (by kernel_rfl) (d_n 4 4 6 [(76, pv 0 331), (75, pv 0 0), (74, pv 0 0), (73, iv i)] [cw (qD 1 p b 2), cw (zM p is nr (slV 3 127 q)), .chan 1 (([] : List Nt).map ntE), cr [], cw (ntF 0 0 0 false false e0 zH), cw (ntL nt)] [] (by kernel_rfl) rfl rfl (d_s rfl rfl rfl (by kernel_rfl) (by refine z4 (v := iv b) rfl rfl ?_; exact (zdQ 0).trans rfl) ?_)))))))))
 refine d_n 1 6 6 [(78, pv 0 0)] [cw (qD 1 p b 2), cw (zM p is nr (slV 3 127 q)), .chan 1 (([] : List Nt).map ntE), cr [], cw (ntF 0 0 0 false false e0 zH), cw (ntL nt)] [⟨4, [0], [], none⟩] (by kernel_rfl) rfl rfl (zgM [0, 1, 2, 3] [cr (qD 1 p b 2), cr (zM p is nr (slV 3 127 q)), .chan 1 (([] : List Nt).map ntE), cr []] [pv 0 0] (zdN h_yard_unit_version h_plane_Plane_Version p is nr q b ([])) rfl rfl ⟨⟨_, rfl, z9 (.inl (zbO rfl rfl (fun q => rfl)))⟩, ⟨⟨_, rfl, z9 (.inl (zaW (qY q rfl) (fun q => rfl)))⟩, ⟨⟨_, rfl, z9 (.inl (zcz _))⟩, ⟨⟨_, rfl, zJ⟩, trivial⟩⟩⟩⟩ (by decide) ⟨_, _, ⟨rfl, rfl⟩, Nat.le_refl _, zbf [_, _, _, _] []⟩ ?_ (by kernel_rfl))
 rintro v1 h1' ⟨rfl, rfl⟩
 refine ⟨(zA zD (zA zD (zA zD (zA zD qC)))), iv (qX p is), [cw (qD 1 p b 2), cw (zM p is nr (slV 3 127 q)), .chan 1 (([] : List Nt).map ntE), cr [], cw (ntF 0 0 0 false false e0 zH), cw (ntL nt)], [], rfl, ⟨rfl, ⟨rfl, ⟨zak _, ⟨(by cases true <;> rfl), ⟨rfl, ⟨rfl, trivial⟩⟩⟩⟩⟩⟩, trivial, ?_⟩
 refine d_s rfl rfl rfl (by kernel_rfl) (by refine zbZ (c := ntF i b (qX p is) false true e0 zH) ?_; exact zie rfl) ?_
 refine d_s0 rfl rfl ⟨_, _, _, rfl⟩ (by kernel_rfl) (by refine qQ (c' := ntF i b (qX p is) false true e0 zH) rfl rfl rfl ?_ ?_ ?_; exact qF _ _ _ _ _ _ _; exact zdf (by omega); exact zbu) ?_
 refine d_n 1 10 6 [(5, bv true)] [cw (qD 1 p b 2), cw (zM p is nr (slV 3 127 q)), .chan 1 (([] : List Nt).map ntE), cr [], cw (ntF i b (qX p is) false true e0 zH), cw (ntL nt)] [⟨8, [4], [4], none⟩, ⟨6, [0, 1, 2, 3], [2], some 6⟩, ⟨4, [0], [], none⟩] (by kernel_rfl) rfl rfl (zb2 (z5 [(5, bv true), (4, pv 4 0)] (by kernel_rfl) (zaZ ?_)))
 have hH : (uhS p is b nt) = (p, is) := by simp [uhS, h1, h1', h2, h7, h7']
 exact ⟨trivial, [ntV i b (qX p is) false true e0 zH, bv true], (zaS rfl rfl (zbJ i b (qX p is) false true e0 zH) (qE rfl rfl)), (zU rfl (zU rfl qA)), (all_cons (za8 i b (qX p is) false true e0 zH) (all_cons rfl rfl)), ⟨reg [], [cw (qD 1 p b 2), cw (zM p is nr (slV 3 127 q)), .chan 1 (([] : List Nt).map ntE), cr []]⟩, Wk.ren [0, 1, 2, 3] rfl rfl (by decide) trivial ⟨.inl (za2 rfl rfl), ⟨.inl (zan (qY q rfl)), ⟨.inl (congrArg some (zak _).symm), ⟨.inl rfl, trivial⟩⟩⟩⟩, (by rw [hH]; rfl), .inl ⟨hH, rfl⟩⟩
theorem atN0C {P : Program} (hc : zap P) (n m : Nat) (k : Int) (l : List Nt) (hl : l = []) :
    Env P "(*roundhouse/yard.row[roundhouse/head.Note]).at" [pv 0 2, iv k] ([cr (z8 2 (sv 3 0 n (n + m)) (.slice none 0 0)), .gone, cr [], cr []]) (fun v h' => v = .tuple #[ntE (atS l k).1, bv (atS l k).2] ∧ h' = [cr (z8 2 (sv 3 0 n (n + m)) (.slice none 0 0)), .gone, cr [], cr []]) := by
 refine Env.by3 hc ?_
 unfold zbv
 show GC _ 4 _ _ ⟨reg [(0, pv 0 2), (1, iv k)], [cr (z8 2 (sv 3 0 n (n + m)) (.slice none 0 0)), .gone, cr [], cr []]⟩
 have hl0 : l.length = 0 := by rw [hl]; rfl
 refine zR (zV (o_b 2 [(5, bv false), (4, pv 4 0)] [cr (z8 2 (sv 3 0 n (n + m)) (.slice none 0 0)), .gone, cr [], cr [], cw (ntF 0 0 0 false false e0 zH)] (by kernel_rfl) (zG (zC (zR (zR (zV (o_d 3 [(9, bv (decide (k < 0))), (8, bv (decide (k < 0))), (7, iv k)] (by kernel_rfl) (zir (b := decide (k < 0)) 9 rfl (fun h1 => ?_) (fun h1 => ?_))))))))))
 ·skip
  have h1' : k < 0 := of_decide_eq_true h1
  refine o_d 8 [(17, bv true), (16, undef), (15, undef), (14, undef), (13, undef), (12, undef), (11, undef), (10, undef)] (by kernel_rfl) (zG (zC (zer rfl (zR (zV (o_b 1 [(6, pv 5 0)] [cr (z8 2 (sv 3 0 n (n + m)) (.slice none 0 0)), .gone, cr [], cr [], cw (ntF 0 0 0 false false e0 zH), cw (ntF 0 0 0 false false e0 zH)] (by kernel_rfl) (zG (zC (zR (zV (o_s (by refine z4 (v := ntV 0 0 0 false false e0 zH) rfl rfl ?_; exact zbJ 0 0 0 false false e0 zH) ?_)))))))))))
  refine zc1 (by refine qQ (c' := ntF 0 0 0 false false e0 zH) rfl rfl rfl ?_ ?_ ?_; exact qF _ _ _ _ _ _ _; exact zdf (by omega); exact zbu) ?_
  refine o_d 1 [(5, bv false)] (by kernel_rfl) (zG (zC (zaZ ?_)))
  have hA : atS l k = (n0, false) := by unfold atS; rw [if_neg (by omega)]
  exact ⟨trivial, [ntV 0 0 0 false false e0 zH, bv false], (zaS rfl rfl (zbJ 0 0 0 false false e0 zH) (qE rfl rfl)), (zU rfl (zU rfl qA)), (all_cons (za8 0 0 0 false false e0 zH) (all_cons rfl rfl)), ⟨reg [], [cr (z8 2 (sv 3 0 n (n + m)) (.slice none 0 0)), .gone, cr [], cr []]⟩, Wk.ren [0, 1, 2, 3] rfl rfl (by decide) trivial ⟨.inl (zas rfl rfl rfl), ⟨.inl rfl, ⟨.inl rfl, ⟨.inl rfl, trivial⟩⟩⟩⟩, (by rw [hA]; rfl), rfl⟩
 have h1' : ¬ (k < 0) := of_decide_eq_false h1
 refine o_d 8 [(17, bv (decide (k ≥ 0))), (16, bv (decide (k ≥ 0))), (15, iv 0), (14, .slice none 0 0), (13, pv 0 2), (12, pv 0 2), (11, pv 0 2), (10, iv k)] (by kernel_rfl) (zG (zC (zaj (t := decide (k ≥ 0)) rfl (fun _ => ?_) (fun q => by rw [(decide_eq_true (by omega) : (decide (k ≥ 0)) = true)] at q; cases q))))
 refine zR (zV (o_b 1 [(6, pv 5 0)] [cr (z8 2 (sv 3 0 n (n + m)) (.slice none 0 0)), .gone, cr [], cr [], cw (ntF 0 0 0 false false e0 zH), cw (ntF 0 0 0 false false e0 zH)] (by kernel_rfl) (zG (zC (zR (zV (o_s (by refine z4 (v := ntV 0 0 0 false false e0 zH) rfl rfl ?_; exact zbJ 0 0 0 false false e0 zH) ?_)))))))
 refine zc1 (by refine qQ (c' := ntF 0 0 0 false false e0 zH) rfl rfl rfl ?_ ?_ ?_; exact qF _ _ _ _ _ _ _; exact zdf (by omega); exact zbu) ?_
 refine o_d 1 [(5, bv false)] (by kernel_rfl) (zG (zC (zaZ ?_)))
 have hA : atS l k = (n0, false) := by unfold atS; rw [if_neg (by omega)]
 exact ⟨trivial, [ntV 0 0 0 false false e0 zH, bv false], (zaS rfl rfl (zbJ 0 0 0 false false e0 zH) (qE rfl rfl)), (zU rfl (zU rfl qA)), (all_cons (za8 0 0 0 false false e0 zH) (all_cons rfl rfl)), ⟨reg [], [cr (z8 2 (sv 3 0 n (n + m)) (.slice none 0 0)), .gone, cr [], cr []]⟩, Wk.ren [0, 1, 2, 3] rfl rfl (by decide) trivial ⟨.inl (zas rfl rfl rfl), ⟨.inl rfl, ⟨.inl rfl, ⟨.inl rfl, trivial⟩⟩⟩⟩, (by rw [hA]; rfl), rfl⟩
theorem atN1C {P : Program} (hc : zap P) (n m : Nat) (k : Int) (l : List Nt) (c : Nat) (t : List Value) (hc2 : l.length ≤ c) (ht : t.all zbL = true) :
    Env P "(*roundhouse/yard.row[roundhouse/head.Note]).at" [pv 0 2, iv k] ([cr (z8 2 (sv 3 0 n (n + m)) (sv 1 0 l.length c)), cw (zbb l ++ t), cr [], cr []]) (fun v h' => v = .tuple #[ntE (atS l k).1, bv (atS l k).2] ∧ h' = [cr (z8 2 (sv 3 0 n (n + m)) (sv 1 0 l.length c)), cw (zbb l ++ t), cr [], cr []]) := by
 refine Env.by3 hc ?_
 unfold zbv
 show GC _ 4 _ _ ⟨reg [(0, pv 0 2), (1, iv k)], [cr (z8 2 (sv 3 0 n (n + m)) (sv 1 0 l.length c)), cw (zbb l ++ t), cr [], cr []]⟩
 refine zR (zV (o_b 2 [(5, bv false), (4, pv 4 0)] [cr (z8 2 (sv 3 0 n (n + m)) (sv 1 0 l.length c)), cw (zbb l ++ t), cr [], cr [], cw (ntF 0 0 0 false false e0 zH)] (by kernel_rfl) (zG (zC (zR (zR (zV (o_d 3 [(9, bv (decide (k < 0))), (8, bv (decide (k < 0))), (7, iv k)] (by kernel_rfl) (zir (b := decide (k < 0)) 9 rfl (fun h1 => ?_) (fun h1 => ?_))))))))))
 ·skip
  have h1' : k < 0 := of_decide_eq_true h1
  refine o_d 8 [(17, bv true), (16, undef), (15, undef), (14, undef), (13, undef), (12, undef), (11, undef), (10, undef)] (by kernel_rfl) (zG (zC (zer rfl (zR (zV (o_b 1 [(6, pv 5 0)] [cr (z8 2 (sv 3 0 n (n + m)) (sv 1 0 l.length c)), cw (zbb l ++ t), cr [], cr [], cw (ntF 0 0 0 false false e0 zH), cw (ntF 0 0 0 false false e0 zH)] (by kernel_rfl) (zG (zC (zR (zV (o_s (by refine z4 (v := ntV 0 0 0 false false e0 zH) rfl rfl ?_; exact zbJ 0 0 0 false false e0 zH) ?_)))))))))))
  refine zc1 (by refine qQ (c' := ntF 0 0 0 false false e0 zH) rfl rfl rfl ?_ ?_ ?_; exact qF _ _ _ _ _ _ _; exact zdf (by omega); exact zbu) ?_
  refine o_d 1 [(5, bv false)] (by kernel_rfl) (zG (zC (zaZ ?_)))
  have hA : atS l k = (n0, false) := by unfold atS; rw [if_neg (by omega)]
  exact ⟨trivial, [ntV 0 0 0 false false e0 zH, bv false], (zaS rfl rfl (zbJ 0 0 0 false false e0 zH) (qE rfl rfl)), (zU rfl (zU rfl qA)), (all_cons (za8 0 0 0 false false e0 zH) (all_cons rfl rfl)), ⟨reg [], [cr (z8 2 (sv 3 0 n (n + m)) (sv 1 0 l.length c)), cw (zbb l ++ t), cr [], cr []]⟩, Wk.ren [0, 1, 2, 3] rfl rfl (by decide) trivial ⟨.inl (zas rfl rfl rfl), ⟨.inl (zQ (zfm (zgd _) ht)), ⟨.inl rfl, ⟨.inl rfl, trivial⟩⟩⟩⟩, (by rw [hA]; rfl), rfl⟩
 have h1' : ¬ (k < 0) := of_decide_eq_false h1
 refine o_d 8 [(17, bv (decide (k ≥ (l.length : Nat)))), (16, bv (decide (k ≥ (l.length : Nat)))), (15, iv (l.length : Nat)), (14, sv 1 0 l.length c), (13, pv 0 2), (12, pv 0 2), (11, pv 0 2), (10, iv k)] (by kernel_rfl) (zG (zC (zaj (t := decide (k ≥ (l.length : Nat))) rfl (fun h2 => ?_) (fun h2 => ?_))))
 ·skip
  have h2' : k ≥ (l.length : Nat) := of_decide_eq_true h2
  refine zR (zV (o_b 1 [(6, pv 5 0)] [cr (z8 2 (sv 3 0 n (n + m)) (sv 1 0 l.length c)), cw (zbb l ++ t), cr [], cr [], cw (ntF 0 0 0 false false e0 zH), cw (ntF 0 0 0 false false e0 zH)] (by kernel_rfl) (zG (zC (zR (zV (o_s (by refine z4 (v := ntV 0 0 0 false false e0 zH) rfl rfl ?_; exact zbJ 0 0 0 false false e0 zH) ?_)))))))
  refine zc1 (by refine qQ (c' := ntF 0 0 0 false false e0 zH) rfl rfl rfl ?_ ?_ ?_; exact qF _ _ _ _ _ _ _; exact zdf (by omega); exact zbu) ?_
  refine o_d 1 [(5, bv false)] (by kernel_rfl) (zG (zC (zaZ ?_)))
  have hA : atS l k = (n0, false) := by unfold atS; rw [if_neg (by omega)]
  exact ⟨trivial, [ntV 0 0 0 false false e0 zH, bv false], (zaS rfl rfl (zbJ 0 0 0 false false e0 zH) (qE rfl rfl)), (zU rfl (zU rfl qA)), (all_cons (za8 0 0 0 false false e0 zH) (all_cons rfl rfl)), ⟨reg [], [cr (z8 2 (sv 3 0 n (n + m)) (sv 1 0 l.length c)), cw (zbb l ++ t), cr [], cr []]⟩, Wk.ren [0, 1, 2, 3] rfl rfl (by decide) trivial ⟨.inl (zas rfl rfl rfl), ⟨.inl (zQ (zfm (zgd _) ht)), ⟨.inl rfl, ⟨.inl rfl, trivial⟩⟩⟩⟩, (by rw [hA]; rfl), rfl⟩
 have h2' : ¬ (k ≥ (l.length : Nat)) := of_decide_eq_false h2
 refine zaq (zC (zR (zV (o_d 5 [(23, iv k), (22, sv 1 0 l.length c), (21, pv 0 2), (20, pv 0 2), (19, pv 0 2)] (by kernel_rfl) (o_s (by exact zf8 (o := 0) (o' := 342 * k.toNat) rfl rfl (by omega) (by omega)) ?_)))))
 refine o_s (by refine z4 (v := ntE (l.getD k.toNat n0)) rfl rfl ?_; exact nts_r2 (i := k.toNat) (j := 0) (by omega) (nts_get (by omega)) (nt_rL (zbJ ((l.getD k.toNat n0).u) ((l.getD k.toNat n0).b) ((l.getD k.toNat n0).v) ((l.getD k.toNat n0).w) ((l.getD k.toNat n0).a) ((l.getD k.toNat n0).e) ((l.getD k.toNat n0).p)))) ?_
 refine zc1 (by refine qQ (c' := ntL (l.getD k.toNat n0)) rfl rfl rfl ?_ ?_ ?_; exact qF _ _ _ _ _ _ _; exact zdf (by omega); exact zbu) ?_
 refine o_b 1 [(5, bv true)] [cr (z8 2 (sv 3 0 n (n + m)) (sv 1 0 l.length c)), cw (zbb l ++ t), cr [], cr [], cw (ntL (l.getD k.toNat n0))] (by kernel_rfl) (zG (z5 [(5, bv true), (4, pv 4 0)] (by kernel_rfl) (zaZ ?_)))
 have hA : atS l k = (l.getD k.toNat n0, true) := by unfold atS; rw [if_pos (by omega)]
 exact ⟨trivial, [ntE (l.getD k.toNat n0), bv true], (zaS rfl rfl (zbJ ((l.getD k.toNat n0).u) ((l.getD k.toNat n0).b) ((l.getD k.toNat n0).v) ((l.getD k.toNat n0).w) ((l.getD k.toNat n0).a) ((l.getD k.toNat n0).e) ((l.getD k.toNat n0).p)) (qE rfl rfl)), (zU rfl (zU rfl qA)), (all_cons (za8 ((l.getD k.toNat n0).u) ((l.getD k.toNat n0).b) ((l.getD k.toNat n0).v) ((l.getD k.toNat n0).w) ((l.getD k.toNat n0).a) ((l.getD k.toNat n0).e) ((l.getD k.toNat n0).p)) (all_cons rfl rfl)), ⟨reg [], [cr (z8 2 (sv 3 0 n (n + m)) (sv 1 0 l.length c)), cw (zbb l ++ t), cr [], cr []]⟩, Wk.ren [0, 1, 2, 3] rfl rfl (by decide) trivial ⟨.inl (zas rfl rfl rfl), ⟨.inl (zQ (zfm (zgd _) ht)), ⟨.inl rfl, ⟨.inl rfl, trivial⟩⟩⟩⟩, (by rw [hA]; rfl), rfl⟩
theorem atUC {P : Program} (hc : zae P) (n m i lw : Nat) (o : Gr) (u : Int) :
    Env P "(*roundhouse/yard.row[*roundhouse/yard.unit]).at" [pv 0 1, iv u] ([cr (z8 2 (sv 1 0 n (n + m)) (gV 3 lw o)), cr (zbc n (uf i 4 5) ++ zbq m), cr [], hidB o.isSome, cr [], cr [], cr [], cr [], cr [], cr [], cr [], cr [], cr [], cr [], cr [], cr [], cr [], cr [], cr [], cr [], cr []]) (fun v h' => v = (if 0 ≤ u ∧ u < n then .tuple #[pv (uf i 4 5 u.toNat) 0, bv true] else .tuple #[.pointer none, bv false]) ∧ h' = [cr (z8 2 (sv 1 0 n (n + m)) (gV 3 lw o)), cr (zbc n (uf i 4 5) ++ zbq m), cr [], hidB o.isSome, cr [], cr [], cr [], cr [], cr [], cr [], cr [], cr [], cr [], cr [], cr [], cr [], cr [], cr [], cr [], cr [], cr []]) := by
 refine Env.by2 hc ?_
 unfold zb3
 show GC _ 21 _ _ ⟨reg [(0, pv 0 1), (1, iv u)], [cr (z8 2 (sv 1 0 n (n + m)) (gV 3 lw o)), cr (zbc n (uf i 4 5) ++ zbq m), cr [], hidB o.isSome, cr [], cr [], cr [], cr [], cr [], cr [], cr [], cr [], cr [], cr [], cr [], cr [], cr [], cr [], cr [], cr [], cr []]⟩
 refine zR (zV (o_d 2 [(5, bv false), (4, .pointer none)] (by kernel_rfl) (zG (zC (zR (zR (zV (o_d 3 [(9, bv (decide (u < 0))), (8, bv (decide (u < 0))), (7, iv u)] (by kernel_rfl) (zir (b := decide (u < 0)) 9 rfl (fun h1 => ?_) (fun h1 => ?_))))))))))
 ·skip
  have h1' : u < 0 := of_decide_eq_true h1
  refine o_d 8 [(17, bv true), (16, undef), (15, undef), (14, undef), (13, undef), (12, undef), (11, undef), (10, undef)] (by kernel_rfl) (zG (zC (zer rfl (zR (zV (o_d 1 [(6, .pointer none)] (by kernel_rfl) (zG (zC (zR (zV (o_d 3 [(5, bv false), (4, .pointer none), (18, .pointer none)] (by kernel_rfl) (zG ?_))))))))))))
  exact zC (zaZ (⟨trivial, _, .inl rfl, [.pointer none, bv false], (qE rfl (qE rfl rfl)), (zU rfl (zU rfl qA)), (by rw [if_neg (by omega)]; rfl), rfl⟩))
 have h1' : ¬ (u < 0) := of_decide_eq_false h1
 refine o_d 8 [(17, bv (decide (u ≥ (n : Nat)))), (16, bv (decide (u ≥ (n : Nat)))), (15, iv (n : Nat)), (14, sv 1 0 n (n + m)), (13, pv 0 1), (12, pv 0 1), (11, pv 0 1), (10, iv u)] (by kernel_rfl) (zG (zC (zaj (t := decide (u ≥ (n : Nat))) rfl (fun h2 => ?_) (fun h2 => ?_))))
 ·skip
  have h2' : u ≥ (n : Nat) := of_decide_eq_true h2
  exact zR (zV (o_d 1 [(6, .pointer none)] (by kernel_rfl) (zG (zC (zR (zV (o_d 3 [(5, bv false), (4, .pointer none), (18, .pointer none)] (by kernel_rfl) (zG (zC (zaZ (⟨trivial, _, .inl rfl, [.pointer none, bv false], (qE rfl (qE rfl rfl)), (zU rfl (zU rfl qA)), (by rw [if_neg (by omega)]; rfl), rfl⟩)))))))))))
 have h2' : ¬ (u ≥ (n : Nat)) := of_decide_eq_false h2
 refine zaq (zC (zR (zV (o_d 5 [(23, iv u), (22, sv 1 0 n (n + m)), (21, pv 0 1), (20, pv 0 1), (19, pv 0 1)] (by kernel_rfl) (o_s (by exact zf8 (o := 0) (o' := u.toNat) rfl rfl (by omega) (by omega)) ?_)))))
 refine o_s (by refine z4 (v := pv (uf i 4 5 u.toNat) 0) rfl rfl ?_; exact ptrs_r (by omega)) ?_
 exact o_d 2 [(5, bv true), (4, pv (uf i 4 5 u.toNat) 0)] (by kernel_rfl) (zG (z5 [(5, bv true), (4, pv (uf i 4 5 u.toNat) 0)] (by kernel_rfl) (zaZ (⟨trivial, _, .inl rfl, [pv (uf i 4 5 u.toNat) 0, bv true], (qE rfl (qE rfl rfl)), (zU rfl (zU rfl qA)), (by rw [if_pos (by omega)]; rfl), rfl⟩))))
end Go.Rh

set_option maxHeartbeats 8000000
namespace Go.Rh
theorem zf0 {l : List Nt} {k : Int} (h : gOk l none) : (atS l k).2 = false := by
 have : l = [] := h
 subst this
 unfold atS; rw [if_neg (by simp)]
theorem atS_in {l : List Nt} {k : Int} (h : (atS l k).2 = true) : 0 ≤ k ∧ k < l.length := by
 unfold atS at h; split at h
 ·assumption
 ·cases h
def zgr (l : List Nt) (k : Int) : List Nt := if (atS l k).2 = true then l.eraseIdx k.toNat else l
def ackS (x : HS) (l : List Nt) (k : Int) (keep : Bool) : HS × List Nt := if (atS l k).2 = true then (zfg x (atS l k).1, if keep = true then l else l.eraseIdx k.toNat) else (x, l)
theorem YNotesC {P : Program} (hc : zbz P) (n m : Nat) (l : List Nt) (o : Gr) (ho : gOk l o) :
    Env P "(*roundhouse/yard.Yard).Notes" [pv 0 0] ([cr (z8 1 (sv 2 0 n (n + m)) (gV 3 l.length o)), cr [], cr [], hidB o.isSome]) (fun v h' => v = iv (l.length : Nat) ∧ h' = [cr (z8 1 (sv 2 0 n (n + m)) (gV 3 l.length o)), cr [], cr [], hidB o.isSome]) := by
 refine Env.by2 hc ?_
 unfold zcC
 show GC _ 4 _ _ ⟨reg [(0, pv 0 0)], [cr (z8 1 (sv 2 0 n (n + m)) (gV 3 l.length o)), cr [], cr [], hidB o.isSome]⟩
 refine zR (zV (o_d 1 [(2, iv 0)] (by kernel_rfl) (zG (zC (zR (zV (o_d 5 [(7, gV 3 l.length o), (6, pv 0 2), (5, pv 0 2), (4, pv 0 0), (3, pv 0 0)] (by kernel_rfl) (o_s (by exact run_lenG (l := l) rfl ho) ?_))))))))
 exact o_d 1 [(2, iv (l.length : Nat))] (by kernel_rfl) (zG (zC (zaZ (⟨trivial, _, .inl rfl, [iv (l.length : Nat)], (qE rfl rfl), (zU rfl qA), rfl, rfl⟩))))
theorem YPoolC {P : Program} (hc : zcN P) (h_head_Head_Pool : zca P) (p : qL) (w : List Ent) (hd : List (Int × Int)) (e : Ent) (b : Bool) (n m : Nat) (l : List Nt) (o : Gr) (ho : gOk l o) :
    Env P "(*roundhouse/yard.Yard).Pool" [pv 0 0] ([cw (z8 1 (sv 4 0 n (n + m)) (gV 5 l.length o)), cw (zT p 2 3 e b), .chan 200 (w.map qR), .map (hdM hd), cr [], gB l o]) (fun v h' => v = qG p ∧ h' = [cw (z8 1 (sv 4 0 n (n + m)) (gV 5 l.length o)), cw (zT p 2 3 e b), .chan 200 (w.map qR), .map (hdM hd), cr [], gB l o]) := by
 refine Env.by3 hc ?_
 unfold zdY
 show GC _ 6 _ _ ⟨reg [(0, pv 0 0)], [cw (z8 1 (sv 4 0 n (n + m)) (gV 5 l.length o)), cw (zT p 2 3 e b), .chan 200 (w.map qR), .map (hdM hd), cr [], gB l o]⟩
 refine zR (zV (o_b 1 [(2, pv 6 0)] [cw (z8 1 (sv 4 0 n (n + m)) (gV 5 l.length o)), cw (zT p 2 3 e b), .chan 200 (w.map qR), .map (hdM hd), cr [], gB l o, cw (pl zH)] (by kernel_rfl) (zG (zC (zR (zV (o_d 4 [(6, pv 1 0), (5, pv 0 0), (4, pv 0 0), (3, pv 0 0)] (by kernel_rfl) (zcc (zdn [1, 2, 3] [cr (zT p 1 2 e b), .chan 200 (w.map qR), .map (hdM hd)] [pv 0 0] (HPoolC h_head_Head_Pool p w hd e b) rfl rfl ⟨⟨_, rfl, z9 (.inl (zcn rfl rfl (fun q => rfl)))⟩, ⟨⟨_, rfl, z9 (.inl (zco _))⟩, ⟨⟨_, rfl, z9 (.inl (zdd _))⟩, trivial⟩⟩⟩ (by decide) ?_)))))))))
 rintro v1 h1' ⟨rfl, rfl⟩
 refine ⟨(zA zD (zA zD (zA zD qC))), qG p, [cw (z8 1 (sv 4 0 n (n + m)) (gV 5 l.length o)), cw (zT p 2 3 e b), .chan 200 (w.map qR), .map (hdM hd), cr [], gB l o, cw (pl zH)], [cw (pl p)], (qN (zaG p)), ⟨rfl, ⟨rfl, ⟨zX _, ⟨qI _, ⟨rfl, ⟨rfl, ⟨rfl, trivial⟩⟩⟩⟩⟩⟩⟩, ⟨(Option.some.inj (zQ (zaH p))).symm, trivial⟩, ?_⟩
 refine zc1 (by refine qQ (c' := pl p) rfl rfl rfl ?_ ?_ ?_; exact zN _; exact zbU (by omega); exact qO zH p) ?_
 exact zG (zC (zaZ (⟨trivial, [qG p], (zaS rfl rfl (zal p) rfl), (zU rfl qA), zaG p, ⟨reg [], [cw (z8 1 (sv 4 0 n (n + m)) (gV 5 l.length o)), cw (zT p 2 3 e b), .chan 200 (w.map qR), .map (hdM hd), cr [], gB l o]⟩, Wk.ren [0, 1, 2, 3, 4, 5] rfl rfl (by decide) trivial ⟨.inl (zas rfl rfl (zaa o rfl)), ⟨.inl (qB rfl rfl), ⟨.inl (congrArg some (zX _).symm), ⟨.inl (congrArg some (qI _).symm), ⟨.inl rfl, ⟨.inl (congrArg some (zab ho).symm), trivial⟩⟩⟩⟩⟩⟩, rfl, rfl⟩)))
theorem YNotesAC {P : Program} (hc : zbz P) (p : qL) (w : List Ent) (hd : List (Int × Int)) (e : Ent) (b : Bool) (n m : Nat) (l : List Nt) (o : Gr) (ho : gOk l o) :
    Env P "(*roundhouse/yard.Yard).Notes" [pv 0 0] ([cw (z8 1 (sv 4 0 n (n + m)) (gV 5 l.length o)), cw (zT p 2 3 e b), .chan 200 (w.map qR), .map (hdM hd), cr [], gB l o]) (fun v h' => v = iv (l.length : Nat) ∧ h' = [cw (z8 1 (sv 4 0 n (n + m)) (gV 5 l.length o)), cw (zT p 2 3 e b), .chan 200 (w.map qR), .map (hdM hd), cr [], gB l o]) := by
 refine Env.by2 hc ?_
 unfold zcC
 show GC _ 6 _ _ ⟨reg [(0, pv 0 0)], [cw (z8 1 (sv 4 0 n (n + m)) (gV 5 l.length o)), cw (zT p 2 3 e b), .chan 200 (w.map qR), .map (hdM hd), cr [], gB l o]⟩
 refine zR (zV (o_d 1 [(2, iv 0)] (by kernel_rfl) (zG (zC (zR (zV (o_d 5 [(7, gV 5 l.length o), (6, pv 0 2), (5, pv 0 2), (4, pv 0 0), (3, pv 0 0)] (by kernel_rfl) (o_s (by exact run_lenG (l := l) rfl ho) ?_))))))))
 exact o_d 1 [(2, iv (l.length : Nat))] (by kernel_rfl) (zG (zC (zaZ (⟨trivial, _, .inl rfl, [iv (l.length : Nat)], (qE rfl rfl), (zU rfl qA), rfl, rfl⟩))))
theorem YWishC {P : Program} (hc : zcL P) (h_head_Head_Wish : zb8 P) (h_head_Head_waiting : zbj P) (h_pool_All : zc2 P) (h_pool_Apply : zaU P) (h_pool_may : za3 P) (h_pool_held : zaT P) (h_pool_fits : za1 P) (h_pool_Check : zaO P) (h_pool_placed : zau P) (h_cookie_Next : zaC P) (p : qL) (w : List Ent) (hd : List (Int × Int)) (e : Ent) (b : Bool) (n m : Nat) (l : List Nt) (o : Gr) (ho : gOk l o) (x : List Ent) (q : Option Nat) (hw : w.length ≤ 200) (hq : q = none → x = []) (hx : x.length ≤ 1000000) :
    Env P "(*roundhouse/yard.Yard).Wish" [pv 0 0, slV 6 x.length q] ([cw (z8 1 (sv 4 0 n (n + m)) (gV 5 l.length o)), cw (zT p 2 3 e b), .chan 200 (w.map qR), .map (hdM hd), cr [], gB l o, slB zE (qP x) q]) (fun v h' => v = iv (zcj (HS.mk p w hd e b) x).1 ∧ h' = [cw (z8 1 (sv 4 0 n (n + m)) (gV 5 l.length o)), cw (zT p 2 3 e b), .chan 200 (((zcj (HS.mk p w hd e b) x).2.w).map qR), .map (hdM hd), cr [], gB l o, slB zE (qP x) q]) := by
 refine Env.by3 hc ?_
 unfold zdW
 show GC _ 7 _ _ ⟨reg [(0, pv 0 0), (1, slV 6 x.length q)], [cw (z8 1 (sv 4 0 n (n + m)) (gV 5 l.length o)), cw (zT p 2 3 e b), .chan 200 (w.map qR), .map (hdM hd), cr [], gB l o, slB zE (qP x) q]⟩
 refine zR (zV (o_d 1 [(4, iv 0)] (by kernel_rfl) (zG (zC (zR (zV (o_d 5 [(9, slV 6 x.length q), (8, pv 1 0), (7, pv 0 0), (6, pv 0 0), (5, pv 0 0)] (by kernel_rfl) (zcc (zdn [1, 2, 3, 6] [cw (zT p 1 2 e b), .chan 200 (w.map qR), .map (hdM hd), slB zE (qP x) q] [pv 0 0, slV 3 x.length q] (HWishC h_head_Head_Wish h_head_Head_waiting h_pool_All h_pool_Apply h_pool_may h_pool_held h_pool_fits h_pool_Check h_pool_placed h_cookie_Next p w hd e b x q hw hq hx) rfl (zaz rfl (zaz (zbn q rfl) rfl)) ⟨⟨_, rfl, z9 (.inl (zcn rfl rfl (fun q => rfl)))⟩, ⟨⟨_, rfl, z9 (.inl (zco _))⟩, ⟨⟨_, rfl, z9 (.inl (zdd _))⟩, ⟨⟨_, rfl, z9 (sees_slB q (fun _ => (zaP _ _)))⟩, trivial⟩⟩⟩⟩ (by decide) ?_)))))))))
 rintro v1 h1' ⟨rfl, rfl⟩
 refine ⟨(zA zD (zA (fun h => by cases h) (zA zD (zA zD qC)))), iv ((zcj (HS.mk p w hd e b) x).1), [cw (z8 1 (sv 4 0 n (n + m)) (gV 5 l.length o)), cw (zT p 2 3 e b), .chan 200 (((zcj (HS.mk p w hd e b) x).2.w).map qR), .map (hdM hd), cr [], gB l o, slB zE (qP x) q], [], rfl, ⟨rfl, ⟨zcq rfl rfl, ⟨zX _, ⟨qI _, ⟨rfl, ⟨rfl, ⟨(by rcases q with _ | m9 <;> first | rfl | exact zby (zaP _ _)), trivial⟩⟩⟩⟩⟩⟩⟩, trivial, ?_⟩
 exact o_d 1 [(4, iv ((zcj (HS.mk p w hd e b) x).1))] (by kernel_rfl) (zG (zC (zaZ (⟨trivial, [iv ((zcj (HS.mk p w hd e b) x).1)], (qE rfl rfl), (zU rfl qA), rfl, ⟨reg [], [cw (z8 1 (sv 4 0 n (n + m)) (gV 5 l.length o)), cw (zT p 2 3 e b), .chan 200 (((zcj (HS.mk p w hd e b) x).2.w).map qR), .map (hdM hd), cr [], gB l o, slB zE (qP x) q]⟩, Wk.ren [0, 1, 2, 3, 4, 5, 6] rfl rfl (by decide) trivial ⟨.inl (zas rfl rfl (zaa o rfl)), ⟨.inl (qB rfl rfl), ⟨.inl (congrArg some (zX _).symm), ⟨.inl (congrArg some (qI _).symm), ⟨.inl rfl, ⟨.inl (congrArg some (zab ho).symm), ⟨.inl (zaM q (fun _ => (zaP _ _))), trivial⟩⟩⟩⟩⟩⟩⟩, rfl, rfl⟩))))
theorem YTickC {P : Program} (hc : zcM P) (h_head_Head_Send : zb9 P) (h_head_Head_all : zbP P) (h_head_Head_publish : zbk P) (h_pool_Apply : zaU P) (h_pool_may : za3 P) (h_pool_held : zaT P) (h_pool_fits : za1 P) (h_pool_Check : zaO P) (h_pool_placed : zau P) (h_cookie_Next : zaC P) (h_yard_row_head_Note_put : zaL P) (h_yard_Yard_Notes : zbz P) (p : qL) (w : List Ent) (hd : List (Int × Int)) (e : Ent) (b : Bool) (n m : Nat) (l : List Nt) (o : Gr) (ho : gOk l o) (hl : l.length ≤ 900000) (hh : hd.length ≤ 1000) :
    Env P "(*roundhouse/yard.Yard).Tick" [pv 0 0] ([cw (z8 1 (sv 4 0 n (n + m)) (gV 5 l.length o)), cw (zT p 2 3 e b), .chan 200 (w.map qR), .map (hdM hd), cr [], gB l o]) (fun v h' => v = iv ((l ++ (zam (HS.mk p w hd e b)).2).length : Nat) ∧ PA n m o (zam (HS.mk p w hd e b)).1 (l ++ (zam (HS.mk p w hd e b)).2) h') := by
 refine Env.by3 hc ?_
 unfold zdX
 show GC _ 6 _ _ ⟨reg [(0, pv 0 0)], [cw (z8 1 (sv 4 0 n (n + m)) (gV 5 l.length o)), cw (zT p 2 3 e b), .chan 200 (w.map qR), .map (hdM hd), cr [], gB l o]⟩
 refine zR (zV (o_d 1 [(2, iv 0)] (by kernel_rfl) (zG (zC (zR (zbx [cw (z8 1 (sv 4 0 n (n + m)) (gV 5 l.length o)), cw (zT p 2 3 e b), .chan 200 (w.map qR), .map (hdM hd), cr [], gB l o] (by kernel_rfl) (d_n 7 7 6 [(9, pv 1 0), (8, pv 0 0), (7, pv 0 0), (6, pv 0 0), (5, pv 0 2), (4, pv 0 0), (3, pv 0 0)] [cw (z8 1 (sv 4 0 n (n + m)) (gV 5 l.length o)), cw (zT p 2 3 e b), .chan 200 (w.map qR), .map (hdM hd), cr [], gB l o] [⟨6, [0], [], none⟩] (by kernel_rfl) rfl rfl (zgM [1, 2, 3] [cw (zT p 1 2 e b), .chan 200 (w.map qR), .map (hdM hd)] [pv 0 0] (HsendC h_head_Head_Send h_head_Head_all h_head_Head_publish h_pool_Apply h_pool_may h_pool_held h_pool_fits h_pool_Check h_pool_placed h_cookie_Next p w hd e b (by omega)) rfl rfl ⟨⟨_, rfl, z9 (.inl (zcn rfl rfl (fun q => rfl)))⟩, ⟨⟨_, rfl, z9 (.inl (zco _))⟩, ⟨⟨_, rfl, z9 (.inl (zdd _))⟩, trivial⟩⟩⟩ (by decide) (by exact ⟨_, _, ⟨some 0, (fun z => by cases z), rfl, rfl⟩, Nat.le_add_right 3 1, flags_of31⟩) ?_ (by kernel_rfl)))))))))
 rintro v1 h1' ⟨q1, hq2, rfl, rfl⟩
 refine ⟨(zA qM (zA (fun h => by cases h) (zA zD qC))), slV 6 ((zam (HS.mk p w hd e b)).2.length) q1, [cw (z8 1 (sv 4 0 n (n + m)) (gV 5 l.length o)), cw (zT ((zam (HS.mk p w hd e b)).1.p) 2 3 ((zam (HS.mk p w hd e b)).1.e) ((zam (HS.mk p w hd e b)).1.s)), .chan 200 (((zam (HS.mk p w hd e b)).1.w).map qR), .map (hdM hd), cr [], gB l o], [slB zNt (zbb ((zam (HS.mk p w hd e b)).2)) q1], (zbn q1 rfl), ⟨rfl, ⟨zcq rfl rfl, ⟨zX _, ⟨qI _, ⟨rfl, ⟨rfl, trivial⟩⟩⟩⟩⟩⟩, ⟨(Option.some.inj (zaM q1 (fun _ => (zcK _ _)))).symm, trivial⟩, ?_⟩
 refine d_clHW [0, 5, 6] [0, 5, 6, 1, 4] [cw (z8 3 (sv 4 0 n (n + m)) (gV 1 l.length o)), gB l o, slB zNt (zbb ((zam (HS.mk p w hd e b)).2)) q1, cr [], cr []] [pv 0 2, slV 2 ((zam (HS.mk p w hd e b)).2.length) q1] (putNC h_yard_row_head_Note_put l ((zam (HS.mk p w hd e b)).2) o q1 n m ho hq2 (by have := sendS_len (x := HS.mk p w hd e b); simp only [] at this; omega)) (wr_put ..) rfl (zaz rfl (zaz (zbn q1 rfl) rfl)) ⟨⟨_, rfl, z9 (.inl (zaA rfl rfl (zaa o rfl) (fun q => rfl)))⟩, ⟨⟨_, rfl, zcm ho⟩, ⟨⟨_, rfl, z9 (sees_slB q1 (fun _ => (zcK _ _)))⟩, ⟨⟨_, rfl, zJ⟩, ⟨⟨_, rfl, zJ⟩, trivial⟩⟩⟩⟩⟩ (by decide) (ziU l ((zam (HS.mk p w hd e b)).2) o q1 n m) ?_ (by kernel_rfl)
 rintro v1 h1' ⟨rfl, o3, g5, ⟨s4, rfl⟩ | ⟨s4, rfl⟩⟩
 ·skip
  refine ⟨(zA qM (zA (zgj s4) (zA zD (zA zD (zA zD qC))))), .tuple #[], [cw (z8 1 (sv 4 0 n (n + m)) (gV 5 ((l ++ ((zam (HS.mk p w hd e b)).2)).length) o3)), cw (zT ((zam (HS.mk p w hd e b)).1.p) 2 3 ((zam (HS.mk p w hd e b)).1.e) ((zam (HS.mk p w hd e b)).1.s)), .chan 200 (((zam (HS.mk p w hd e b)).1.w).map qR), .map (hdM hd), cr [], gB (l ++ ((zam (HS.mk p w hd e b)).2)) o3, slB zNt (zbb ((zam (HS.mk p w hd e b)).2)) q1], [], (by simp [zbF]), ⟨zaF rfl rfl (zaa o3 rfl), ⟨rfl, ⟨rfl, ⟨rfl, ⟨(by cases true <;> rfl), ⟨(by cases o3 with | none => rfl | some y9 => exact zab g5), ⟨(by rcases q1 with _ | m9 <;> first | rfl | exact zby (zcK _ _)), trivial⟩⟩⟩⟩⟩⟩⟩, trivial, ?_⟩
  refine zb2 (zC (zR (zV (o_d 1 [(12, pv 0 0)] (by kernel_rfl) (zcc (zdn [0, 1, 4, 5] [cr (z8 1 (sv 2 0 n (n + m)) (gV 3 ((l ++ ((zam (HS.mk p w hd e b)).2)).length) o3)), cr [], cr [], hidB o3.isSome] [pv 0 0] (YNotesC h_yard_Yard_Notes n m (l ++ ((zam (HS.mk p w hd e b)).2)) o3 g5) rfl rfl ⟨⟨_, rfl, z9 (.inl (zaA rfl rfl (zaa o3 rfl) (fun q => rfl)))⟩, ⟨⟨_, rfl, zJ⟩, ⟨⟨_, rfl, zJ⟩, ⟨⟨_, rfl, zdH o3⟩, trivial⟩⟩⟩⟩ (by decide) ?_))))))
  rintro v1 h1' ⟨rfl, rfl⟩
  refine ⟨(zA zD (zA zD (zA zD (zA zD qC)))), iv ((l ++ ((zam (HS.mk p w hd e b)).2)).length : Nat), [cw (z8 1 (sv 4 0 n (n + m)) (gV 5 ((l ++ ((zam (HS.mk p w hd e b)).2)).length) o3)), cw (zT ((zam (HS.mk p w hd e b)).1.p) 2 3 ((zam (HS.mk p w hd e b)).1.e) ((zam (HS.mk p w hd e b)).1.s)), .chan 200 (((zam (HS.mk p w hd e b)).1.w).map qR), .map (hdM hd), cr [], gB (l ++ ((zam (HS.mk p w hd e b)).2)) o3, slB zNt (zbb ((zam (HS.mk p w hd e b)).2)) q1], [], rfl, ⟨rfl, ⟨rfl, ⟨rfl, ⟨rfl, ⟨(by cases true <;> rfl), ⟨(by cases o3 <;> rfl), ⟨rfl, trivial⟩⟩⟩⟩⟩⟩⟩, trivial, ?_⟩
  exact o_d 1 [(2, iv ((l ++ ((zam (HS.mk p w hd e b)).2)).length : Nat))] (by kernel_rfl) (zG (zC (zaZ (⟨trivial, [iv ((l ++ ((zam (HS.mk p w hd e b)).2)).length : Nat)], (qE rfl rfl), (zU rfl qA), rfl, ⟨reg [], [cw (z8 1 (sv 4 0 n (n + m)) (gV 5 ((l ++ ((zam (HS.mk p w hd e b)).2)).length) o3)), cw (zT ((zam (HS.mk p w hd e b)).1.p) 2 3 ((zam (HS.mk p w hd e b)).1.e) ((zam (HS.mk p w hd e b)).1.s)), .chan 200 (((zam (HS.mk p w hd e b)).1.w).map qR), .map (hdM hd), cr [], gB (l ++ ((zam (HS.mk p w hd e b)).2)) o3]⟩, Wk.ren [0, 1, 2, 3, 4, 5] rfl rfl (by decide) trivial ⟨.inl (zas rfl rfl (zaa o3 rfl)), ⟨.inl (qB rfl rfl), ⟨.inl (congrArg some (zX _).symm), ⟨.inl (congrArg some (qI _).symm), ⟨.inl rfl, ⟨.inl (congrArg some (zab g5).symm), trivial⟩⟩⟩⟩⟩⟩, rfl, ⟨o3, _, 5, [], g5, (fun z => zgj (l := l) s4 (by subst z; rfl)), .inl ⟨rfl, rfl, rfl⟩, (by have h9 := sendS_hd (HS.mk p w hd e b); unfold laA; rw [h9]; first | done | rfl)⟩⟩))))
 refine ⟨(zA qM (zA zD (zA zD (zA zD (zA zD qC))))), .tuple #[], [cw (z8 1 (sv 4 0 n (n + m)) (gV 7 ((l ++ ((zam (HS.mk p w hd e b)).2)).length) o3)), cw (zT ((zam (HS.mk p w hd e b)).1.p) 2 3 ((zam (HS.mk p w hd e b)).1.e) ((zam (HS.mk p w hd e b)).1.s)), .chan 200 (((zam (HS.mk p w hd e b)).1.w).map qR), .map (hdM hd), cr [], gB l o, slB zNt (zbb ((zam (HS.mk p w hd e b)).2)) q1], [gB (l ++ ((zam (HS.mk p w hd e b)).2)) o3], (by simp [zbF]), ⟨zaF rfl rfl (zaa o3 rfl), ⟨rfl, ⟨rfl, ⟨rfl, ⟨(by cases true <;> rfl), ⟨(by cases o with | none => rfl | some y9 => exact zab ho), ⟨(by rcases q1 with _ | m9 <;> first | rfl | exact zby (zcK _ _)), trivial⟩⟩⟩⟩⟩⟩⟩, ⟨(zab g5), trivial⟩, ?_⟩
 refine zb2 (zC (zR (zV (o_d 1 [(12, pv 0 0)] (by kernel_rfl) (zcc (zdn [0, 1, 4, 7] [cr (z8 1 (sv 2 0 n (n + m)) (gV 3 ((l ++ ((zam (HS.mk p w hd e b)).2)).length) o3)), cr [], cr [], hidB o3.isSome] [pv 0 0] (YNotesC h_yard_Yard_Notes n m (l ++ ((zam (HS.mk p w hd e b)).2)) o3 g5) rfl rfl ⟨⟨_, rfl, z9 (.inl (zaA rfl rfl (zaa o3 rfl) (fun q => rfl)))⟩, ⟨⟨_, rfl, zJ⟩, ⟨⟨_, rfl, zJ⟩, ⟨⟨_, rfl, zdH o3⟩, trivial⟩⟩⟩⟩ (by decide) ?_))))))
 rintro v1 h1' ⟨rfl, rfl⟩
 refine ⟨(zA zD (zA zD (zA zD (zA zD qC)))), iv ((l ++ ((zam (HS.mk p w hd e b)).2)).length : Nat), [cw (z8 1 (sv 4 0 n (n + m)) (gV 7 ((l ++ ((zam (HS.mk p w hd e b)).2)).length) o3)), cw (zT ((zam (HS.mk p w hd e b)).1.p) 2 3 ((zam (HS.mk p w hd e b)).1.e) ((zam (HS.mk p w hd e b)).1.s)), .chan 200 (((zam (HS.mk p w hd e b)).1.w).map qR), .map (hdM hd), cr [], gB l o, slB zNt (zbb ((zam (HS.mk p w hd e b)).2)) q1, gB (l ++ ((zam (HS.mk p w hd e b)).2)) o3], [], rfl, ⟨rfl, ⟨rfl, ⟨rfl, ⟨rfl, ⟨(by cases true <;> rfl), ⟨rfl, ⟨rfl, ⟨(by cases o3 <;> rfl), trivial⟩⟩⟩⟩⟩⟩⟩⟩, trivial, ?_⟩
 exact o_d 1 [(2, iv ((l ++ ((zam (HS.mk p w hd e b)).2)).length : Nat))] (by kernel_rfl) (zG (zC (zaZ (⟨trivial, [iv ((l ++ ((zam (HS.mk p w hd e b)).2)).length : Nat)], (qE rfl rfl), (zU rfl qA), rfl, ⟨reg [], [cw (z8 1 (sv 4 0 n (n + m)) (gV 6 ((l ++ ((zam (HS.mk p w hd e b)).2)).length) o3)), cw (zT ((zam (HS.mk p w hd e b)).1.p) 2 3 ((zam (HS.mk p w hd e b)).1.e) ((zam (HS.mk p w hd e b)).1.s)), .chan 200 (((zam (HS.mk p w hd e b)).1.w).map qR), .map (hdM hd), cr [], gB l o, gB (l ++ ((zam (HS.mk p w hd e b)).2)) o3]⟩, Wk.ren [0, 1, 2, 3, 4, 5, 7] rfl rfl (by decide) trivial ⟨.inl (zas rfl rfl (zaa o3 rfl)), ⟨.inl (qB rfl rfl), ⟨.inl (congrArg some (zX _).symm), ⟨.inl (congrArg some (qI _).symm), ⟨.inl rfl, ⟨.inl (congrArg some (zab ho).symm), ⟨.inl (congrArg some (zab g5).symm), trivial⟩⟩⟩⟩⟩⟩⟩, rfl, ⟨o3, gB l o, 6, _, g5, (fun z => by subst z; rfl), .inr ⟨rfl, rfl⟩, (by have h9 := sendS_hd (HS.mk p w hd e b); unfold laA; rw [h9]; first | done | rfl)⟩⟩))))
theorem YLoseC {P : Program} (hc : zcO P) (h_yard_row_head_Note_at : zap P) (h_yard_row_head_Note_drop : zar P) (p : qL) (w : List Ent) (hd : List (Int × Int)) (e : Ent) (b : Bool) (n m : Nat) (l : List Nt) (o : Gr) (ho : gOk l o) (hl : l.length ≤ 900000) (k : Int) :
    Env P "(*roundhouse/yard.Yard).Lose" [pv 0 0, iv k] ([cw (z8 1 (sv 4 0 n (n + m)) (gV 5 l.length o)), cw (zT p 2 3 e b), .chan 200 (w.map qR), .map (hdM hd), cr [], gB l o]) (fun v h' => v = bv (atS l k).2 ∧ PA n m o (HS.mk p w hd e b) (zgr l k) h') := by
 refine Env.by3 hc ?_
 unfold zdZ
 show GC _ 6 _ _ ⟨reg [(0, pv 0 0), (1, iv k)], [cw (z8 1 (sv 4 0 n (n + m)) (gV 5 l.length o)), cw (zT p 2 3 e b), .chan 200 (w.map qR), .map (hdM hd), cr [], gB l o]⟩
 refine zR (zV (o_d 1 [(4, bv false)] (by kernel_rfl) (zG (zC (zR (zV (o_d 4 [(11, iv k), (10, pv 0 2), (9, pv 0 0), (8, pv 0 0)] (by kernel_rfl) ?_)))))))
 rcases o with _ | ⟨c, t⟩
 ·skip
  refine zcc (zdn [0, 5, 1, 4] [cr (z8 2 (sv 3 0 n (n + m)) (gV 1 l.length none)), gB l none, cr [], cr []] [pv 0 2, iv k] (atN0C h_yard_row_head_Note_at n m k l ho) rfl rfl ⟨⟨_, rfl, z9 (.inl (zaA rfl rfl (zaa none rfl) (fun q => rfl)))⟩, ⟨⟨_, rfl, zcm ho⟩, ⟨⟨_, rfl, zJ⟩, ⟨⟨_, rfl, zJ⟩, trivial⟩⟩⟩⟩ (by decide) ?_)
  rintro v1 h1' ⟨rfl, rfl⟩
  refine ⟨(zA zD (zA zD (zA zD (zA zD qC)))), .tuple #[ntE ((atS l k).1), bv ((atS l k).2)], [cw (z8 1 (sv 4 0 n (n + m)) (gV 5 l.length none)), cw (zT p 2 3 e b), .chan 200 (w.map qR), .map (hdM hd), cr [], gB l none], [], (qN (all_cons (za8 ((atS l k).1.u) ((atS l k).1.b) ((atS l k).1.v) ((atS l k).1.w) ((atS l k).1.a) ((atS l k).1.e) ((atS l k).1.p)) (all_cons rfl rfl))), ⟨rfl, ⟨rfl, ⟨rfl, ⟨rfl, ⟨(by cases true <;> rfl), ⟨(by cases none with | none => rfl | some y9 => exact zab ho), trivial⟩⟩⟩⟩⟩⟩, trivial, ?_⟩
  refine o_b 4 [(5, pv 6 0), (14, bv ((atS l k).2)), (13, ntE ((atS l k).1)), (7, .tuple #[ntE ((atS l k).1), bv ((atS l k).2)])] [cw (z8 1 (sv 4 0 n (n + m)) (gV 5 l.length none)), cw (zT p 2 3 e b), .chan 200 (w.map qR), .map (hdM hd), cr [], gB l none, cw (ntF 0 0 0 false false e0 zH)] (by kernel_rfl) (zc1 (by refine qQ (c' := ntL ((atS l k).1)) rfl rfl rfl ?_ ?_ ?_; exact qF _ _ _ _ _ _ _; exact zdf (by omega); exact zbu) ?_)
  refine o_b 1 [(6, bv ((atS l k).2))] [cw (z8 1 (sv 4 0 n (n + m)) (gV 5 l.length none)), cw (zT p 2 3 e b), .chan 200 (w.map qR), .map (hdM hd), cr [], gB l none, cw (ntL ((atS l k).1))] (by kernel_rfl) (zG (zC (zR (zR (zV (o_d 1 [(15, bv ((atS l k).2))] (by kernel_rfl) (zG (zC (zaj (t := (atS l k).2) rfl (fun q => by rw [(zf0 ho : ((atS l k).2) = false)] at q; cases q) (fun _ => ?_))))))))))
  exact zaq (zC (zR (zV (o_d 2 [(4, bv ((atS l k).2)), (21, bv ((atS l k).2))] (by kernel_rfl) (zG (zC (zaZ (⟨trivial, [bv ((atS l k).2)], (qE rfl rfl), (zU rfl qA), rfl, ⟨reg [], [cw (z8 1 (sv 4 0 n (n + m)) (gV 5 l.length none)), cw (zT p 2 3 e b), .chan 200 (w.map qR), .map (hdM hd), cr [], gB l none]⟩, Wk.ren [0, 1, 2, 3, 4, 5] rfl rfl (by decide) trivial ⟨.inl (zas rfl rfl (zaa none rfl)), ⟨.inl (qB rfl rfl), ⟨.inl (congrArg some (zX _).symm), ⟨.inl (congrArg some (qI _).symm), ⟨.inl rfl, ⟨.inl (congrArg some (zab ho).symm), trivial⟩⟩⟩⟩⟩⟩, rfl, (by rw [show zgr l k = l from by simp [zgr, zf0 ho]]; exact ⟨none, _, 5, [], ho, (fun z => rfl), .inl ⟨rfl, rfl, rfl⟩, rfl⟩)⟩))))))))
 refine zcc (zdn [0, 5, 1, 4] [cr (z8 2 (sv 3 0 n (n + m)) (gV 1 l.length (some (c, t)))), gB l (some (c, t)), cr [], cr []] [pv 0 2, iv k] (atN1C h_yard_row_head_Note_at n m k l c t ho.1 ho.2.2) rfl rfl ⟨⟨_, rfl, z9 (.inl (zaA rfl rfl (zaa (some (c, t)) rfl) (fun q => rfl)))⟩, ⟨⟨_, rfl, zcm ho⟩, ⟨⟨_, rfl, zJ⟩, ⟨⟨_, rfl, zJ⟩, trivial⟩⟩⟩⟩ (by decide) ?_)
 rintro v1 h1' ⟨rfl, rfl⟩
 refine ⟨(zA zD (zA zD (zA zD (zA zD qC)))), .tuple #[ntE ((atS l k).1), bv ((atS l k).2)], [cw (z8 1 (sv 4 0 n (n + m)) (gV 5 l.length (some (c, t)))), cw (zT p 2 3 e b), .chan 200 (w.map qR), .map (hdM hd), cr [], gB l (some (c, t))], [], (qN (all_cons (za8 ((atS l k).1.u) ((atS l k).1.b) ((atS l k).1.v) ((atS l k).1.w) ((atS l k).1.a) ((atS l k).1.e) ((atS l k).1.p)) (all_cons rfl rfl))), ⟨rfl, ⟨rfl, ⟨rfl, ⟨rfl, ⟨(by cases true <;> rfl), ⟨zab ho, trivial⟩⟩⟩⟩⟩⟩, trivial, ?_⟩
 refine o_b 4 [(5, pv 6 0), (14, bv ((atS l k).2)), (13, ntE ((atS l k).1)), (7, .tuple #[ntE ((atS l k).1), bv ((atS l k).2)])] [cw (z8 1 (sv 4 0 n (n + m)) (gV 5 l.length (some (c, t)))), cw (zT p 2 3 e b), .chan 200 (w.map qR), .map (hdM hd), cr [], gB l (some (c, t)), cw (ntF 0 0 0 false false e0 zH)] (by kernel_rfl) (zc1 (by refine qQ (c' := ntL ((atS l k).1)) rfl rfl rfl ?_ ?_ ?_; exact qF _ _ _ _ _ _ _; exact zdf (by omega); exact zbu) ?_)
 refine o_b 1 [(6, bv ((atS l k).2))] [cw (z8 1 (sv 4 0 n (n + m)) (gV 5 l.length (some (c, t)))), cw (zT p 2 3 e b), .chan 200 (w.map qR), .map (hdM hd), cr [], gB l (some (c, t)), cw (ntL ((atS l k).1))] (by kernel_rfl) (zG (zC (zR (zR (zV (o_d 1 [(15, bv ((atS l k).2))] (by kernel_rfl) (zG (zC (zaj (t := (atS l k).2) rfl (fun h1 => ?_) (fun h1 => ?_))))))))))
 ·skip
  have hin : 0 ≤ k ∧ k < l.length := atS_in (by assumption)
  refine zV (o_d 4 [(19, iv k), (18, pv 0 2), (17, pv 0 0), (16, pv 0 0)] (by kernel_rfl) (zcc (zdn [0, 5, 1, 4] [cw (z8 2 (sv 3 0 n (n + m)) (gV 1 l.length (some (c, t)))), gB l (some (c, t)), cr [], cr []] [pv 0 2, iv k] (dropNC h_yard_row_head_Note_drop l (some (c, t)) k n m ho (hin) (by omega)) rfl rfl ⟨⟨_, rfl, z9 (.inl (zaA rfl rfl (zaa (some (c, t)) rfl) (fun q => rfl)))⟩, ⟨⟨_, rfl, zcm ho⟩, ⟨⟨_, rfl, zJ⟩, ⟨⟨_, rfl, zJ⟩, trivial⟩⟩⟩⟩ (by decide) ?_)))
  rintro v1 h1' ⟨rfl, o2, s3, g4, z7⟩
  rcases o2 with _ | ⟨c5, t6⟩
  ·cases s3
  rcases z7 with rfl | rfl
  ·skip
   refine ⟨(zA qM (zA (fun h => by cases h) (zA zD (zA zD qC)))), .tuple #[], [cw (z8 1 (sv 4 0 n (n + m)) (gV 5 ((l.eraseIdx k.toNat).length) (some (c5, t6)))), cw (zT p 2 3 e b), .chan 200 (w.map qR), .map (hdM hd), cr [], gB (l.eraseIdx k.toNat) (some (c5, t6)), cw (ntL ((atS l k).1))], [], (by simp [zbF]), ⟨zaF rfl rfl (zaa (some (c5, t6)) rfl), ⟨rfl, ⟨rfl, ⟨rfl, ⟨(by cases true <;> rfl), ⟨zab g4, ⟨rfl, trivial⟩⟩⟩⟩⟩⟩⟩, trivial, ?_⟩
   exact zG (zC (zR (zV (o_d 2 [(4, bv ((atS l k).2)), (21, bv ((atS l k).2))] (by kernel_rfl) (zG (zC (zaZ (⟨trivial, [bv ((atS l k).2)], (qE rfl rfl), (zU rfl qA), rfl, ⟨reg [], [cw (z8 1 (sv 4 0 n (n + m)) (gV 5 ((l.eraseIdx k.toNat).length) (some (c5, t6)))), cw (zT p 2 3 e b), .chan 200 (w.map qR), .map (hdM hd), cr [], gB (l.eraseIdx k.toNat) (some (c5, t6))]⟩, Wk.ren [0, 1, 2, 3, 4, 5] rfl rfl (by decide) trivial ⟨.inl (zas rfl rfl (zaa (some (c5, t6)) rfl)), ⟨.inl (qB rfl rfl), ⟨.inl (congrArg some (zX _).symm), ⟨.inl (congrArg some (qI _).symm), ⟨.inl rfl, ⟨.inl (congrArg some (zab g4).symm), trivial⟩⟩⟩⟩⟩⟩, rfl, (by rw [show zgr l k = (l.eraseIdx k.toNat) from by simp [zgr, h1, if_true]]; exact ⟨some (c5, t6), _, 5, [], g4, (fun z => by cases z), .inl ⟨rfl, rfl, rfl⟩, rfl⟩)⟩))))))))
  refine ⟨(zA qM (zA zD (zA zD (zA zD qC)))), .tuple #[], [cw (z8 1 (sv 4 0 n (n + m)) (gV 7 ((l.eraseIdx k.toNat).length) (some (c5, t6)))), cw (zT p 2 3 e b), .chan 200 (w.map qR), .map (hdM hd), cr [], gB l (some (c, t)), cw (ntL ((atS l k).1))], [gB (l.eraseIdx k.toNat) (some (c5, t6))], (by simp [zbF]), ⟨zaF rfl rfl (zaa (some (c5, t6)) rfl), ⟨rfl, ⟨rfl, ⟨rfl, ⟨(by cases true <;> rfl), ⟨zab ho, ⟨rfl, trivial⟩⟩⟩⟩⟩⟩⟩, ⟨(zab g4), trivial⟩, ?_⟩
  exact zG (zC (zR (zV (o_d 2 [(4, bv ((atS l k).2)), (21, bv ((atS l k).2))] (by kernel_rfl) (zG (zC (zaZ (⟨trivial, [bv ((atS l k).2)], (qE rfl rfl), (zU rfl qA), rfl, ⟨reg [], [cw (z8 1 (sv 4 0 n (n + m)) (gV 6 ((l.eraseIdx k.toNat).length) (some (c5, t6)))), cw (zT p 2 3 e b), .chan 200 (w.map qR), .map (hdM hd), cr [], gB l (some (c, t)), gB (l.eraseIdx k.toNat) (some (c5, t6))]⟩, Wk.ren [0, 1, 2, 3, 4, 5, 7] rfl rfl (by decide) trivial ⟨.inl (zas rfl rfl (zaa (some (c5, t6)) rfl)), ⟨.inl (qB rfl rfl), ⟨.inl (congrArg some (zX _).symm), ⟨.inl (congrArg some (qI _).symm), ⟨.inl rfl, ⟨.inl (congrArg some (zab ho).symm), ⟨.inl (congrArg some (zab g4).symm), trivial⟩⟩⟩⟩⟩⟩⟩, rfl, (by rw [show zgr l k = (l.eraseIdx k.toNat) from by simp [zgr, h1, if_true]]; exact ⟨some (c5, t6), gB l (some (c, t)), 6, _, g4, (fun z => by cases z), .inr ⟨rfl, rfl⟩, rfl⟩)⟩))))))))
 exact zaq (zC (zR (zV (o_d 2 [(4, bv ((atS l k).2)), (21, bv ((atS l k).2))] (by kernel_rfl) (zG (zC (zaZ (⟨trivial, [bv ((atS l k).2)], (qE rfl rfl), (zU rfl qA), rfl, ⟨reg [], [cw (z8 1 (sv 4 0 n (n + m)) (gV 5 l.length (some (c, t)))), cw (zT p 2 3 e b), .chan 200 (w.map qR), .map (hdM hd), cr [], gB l (some (c, t))]⟩, Wk.ren [0, 1, 2, 3, 4, 5] rfl rfl (by decide) trivial ⟨.inl (zas rfl rfl (zaa (some (c, t)) rfl)), ⟨.inl (qB rfl rfl), ⟨.inl (congrArg some (zX _).symm), ⟨.inl (congrArg some (qI _).symm), ⟨.inl rfl, ⟨.inl (congrArg some (zab ho).symm), trivial⟩⟩⟩⟩⟩⟩, rfl, (by rw [show zgr l k = l from by simp [zgr, h1, if_true]]; exact ⟨some (c, t), _, 5, [], ho, (fun z => by cases z), .inl ⟨rfl, rfl, rfl⟩, rfl⟩)⟩))))))))
theorem YDeliverAC {P : Program} (hc : zbB P) (h_yard_row_head_Note_at : zap P) (h_yard_row_head_Note_drop : zar P) (h_head_Head_Heard : zbA P) (p : qL) (w : List Ent) (hd : List (Int × Int)) (e : Ent) (b : Bool) (n m : Nat) (l : List Nt) (o : Gr) (ho : gOk l o) (hl : l.length ≤ 900000) (k : Int) (keep : Bool) (hack : (atS l k).2 = true → (atS l k).1.a = true) :
    Env P "(*roundhouse/yard.Yard).Deliver" [pv 0 0, iv k, bv keep] ([cw (z8 1 (sv 4 0 n (n + m)) (gV 5 l.length o)), cw (zT p 2 3 e b), .chan 200 (w.map qR), .map (hdM hd), cr [], gB l o]) (fun v h' => v = bv (atS l k).2 ∧ PA n m o (ackS (HS.mk p w hd e b) l k keep).1 (ackS (HS.mk p w hd e b) l k keep).2 h') := by
 refine Env.by3 hc ?_
 unfold zb4
 show GC _ 6 _ _ ⟨reg [(0, pv 0 0), (1, iv k), (2, bv keep)], [cw (z8 1 (sv 4 0 n (n + m)) (gV 5 l.length o)), cw (zT p 2 3 e b), .chan 200 (w.map qR), .map (hdM hd), cr [], gB l o]⟩
 refine zR (zV (o_d 1 [(6, bv false)] (by kernel_rfl) (zG (zC (zR (zV (o_d 4 [(17, iv k), (16, pv 0 2), (15, pv 0 0), (14, pv 0 0)] (by kernel_rfl) ?_)))))))
 rcases o with _ | ⟨c, t⟩
 ·skip
  refine zcc (zdn [0, 5, 1, 4] [cr (z8 2 (sv 3 0 n (n + m)) (gV 1 l.length none)), gB l none, cr [], cr []] [pv 0 2, iv k] (atN0C h_yard_row_head_Note_at n m k l ho) rfl rfl ⟨⟨_, rfl, z9 (.inl (zaA rfl rfl (zaa none rfl) (fun q => rfl)))⟩, ⟨⟨_, rfl, zcm ho⟩, ⟨⟨_, rfl, zJ⟩, ⟨⟨_, rfl, zJ⟩, trivial⟩⟩⟩⟩ (by decide) ?_)
  rintro v1 h1' ⟨rfl, rfl⟩
  refine ⟨(zA zD (zA zD (zA zD (zA zD qC)))), .tuple #[ntE ((atS l k).1), bv ((atS l k).2)], [cw (z8 1 (sv 4 0 n (n + m)) (gV 5 l.length none)), cw (zT p 2 3 e b), .chan 200 (w.map qR), .map (hdM hd), cr [], gB l none], [], (qN (all_cons (za8 ((atS l k).1.u) ((atS l k).1.b) ((atS l k).1.v) ((atS l k).1.w) ((atS l k).1.a) ((atS l k).1.e) ((atS l k).1.p)) (all_cons rfl rfl))), ⟨rfl, ⟨rfl, ⟨rfl, ⟨rfl, ⟨(by cases true <;> rfl), ⟨(by cases none with | none => rfl | some y9 => exact zab ho), trivial⟩⟩⟩⟩⟩⟩, trivial, ?_⟩
  refine o_b 4 [(7, pv 6 0), (20, bv ((atS l k).2)), (19, ntE ((atS l k).1)), (13, .tuple #[ntE ((atS l k).1), bv ((atS l k).2)])] [cw (z8 1 (sv 4 0 n (n + m)) (gV 5 l.length none)), cw (zT p 2 3 e b), .chan 200 (w.map qR), .map (hdM hd), cr [], gB l none, cw (ntF 0 0 0 false false e0 zH)] (by kernel_rfl) (zc1 (by refine qQ (c' := ntL ((atS l k).1)) rfl rfl rfl ?_ ?_ ?_; exact qF _ _ _ _ _ _ _; exact zdf (by omega); exact zbu) ?_)
  refine o_b 1 [(8, bv ((atS l k).2))] [cw (z8 1 (sv 4 0 n (n + m)) (gV 5 l.length none)), cw (zT p 2 3 e b), .chan 200 (w.map qR), .map (hdM hd), cr [], gB l none, cw (ntL ((atS l k).1))] (by kernel_rfl) (zG (zC (zR (zR (zV (o_d 2 [(22, bv (!((atS l k).2))), (21, bv ((atS l k).2))] (by kernel_rfl) (zG (zC (zaj (t := !((atS l k).2)) rfl (fun _ => ?_) (fun q => by rw [(by rw [zf0 ho]; rfl : (!((atS l k).2)) = true)] at q; cases q))))))))))
  exact zR (zV (o_d 1 [(6, bv false)] (by kernel_rfl) (zG (zC (zaZ (⟨trivial, [bv false], (qE rfl rfl), (zU rfl qA), rfl, ⟨reg [], [cw (z8 1 (sv 4 0 n (n + m)) (gV 5 l.length none)), cw (zT p 2 3 e b), .chan 200 (w.map qR), .map (hdM hd), cr [], gB l none]⟩, Wk.ren [0, 1, 2, 3, 4, 5] rfl rfl (by decide) trivial ⟨.inl (zas rfl rfl (zaa none rfl)), ⟨.inl (qB rfl rfl), ⟨.inl (congrArg some (zX _).symm), ⟨.inl (congrArg some (qI _).symm), ⟨.inl rfl, ⟨.inl (congrArg some (zab ho).symm), trivial⟩⟩⟩⟩⟩⟩, (by simp [one, zf0 ho]), (by rw [show ackS (HS.mk p w hd e b) l k keep = (HS.mk p w hd e b, l) from by simp [ackS, zfg, zf0 ho]]; exact ⟨none, _, 5, [], ho, (fun z => rfl), .inl ⟨rfl, rfl, rfl⟩, rfl⟩)⟩))))))
 refine zcc (zdn [0, 5, 1, 4] [cr (z8 2 (sv 3 0 n (n + m)) (gV 1 l.length (some (c, t)))), gB l (some (c, t)), cr [], cr []] [pv 0 2, iv k] (atN1C h_yard_row_head_Note_at n m k l c t ho.1 ho.2.2) rfl rfl ⟨⟨_, rfl, z9 (.inl (zaA rfl rfl (zaa (some (c, t)) rfl) (fun q => rfl)))⟩, ⟨⟨_, rfl, zcm ho⟩, ⟨⟨_, rfl, zJ⟩, ⟨⟨_, rfl, zJ⟩, trivial⟩⟩⟩⟩ (by decide) ?_)
 rintro v1 h1' ⟨rfl, rfl⟩
 refine ⟨(zA zD (zA zD (zA zD (zA zD qC)))), .tuple #[ntE ((atS l k).1), bv ((atS l k).2)], [cw (z8 1 (sv 4 0 n (n + m)) (gV 5 l.length (some (c, t)))), cw (zT p 2 3 e b), .chan 200 (w.map qR), .map (hdM hd), cr [], gB l (some (c, t))], [], (qN (all_cons (za8 ((atS l k).1.u) ((atS l k).1.b) ((atS l k).1.v) ((atS l k).1.w) ((atS l k).1.a) ((atS l k).1.e) ((atS l k).1.p)) (all_cons rfl rfl))), ⟨rfl, ⟨rfl, ⟨rfl, ⟨rfl, ⟨(by cases true <;> rfl), ⟨zab ho, trivial⟩⟩⟩⟩⟩⟩, trivial, ?_⟩
 refine o_b 4 [(7, pv 6 0), (20, bv ((atS l k).2)), (19, ntE ((atS l k).1)), (13, .tuple #[ntE ((atS l k).1), bv ((atS l k).2)])] [cw (z8 1 (sv 4 0 n (n + m)) (gV 5 l.length (some (c, t)))), cw (zT p 2 3 e b), .chan 200 (w.map qR), .map (hdM hd), cr [], gB l (some (c, t)), cw (ntF 0 0 0 false false e0 zH)] (by kernel_rfl) (zc1 (by refine qQ (c' := ntL ((atS l k).1)) rfl rfl rfl ?_ ?_ ?_; exact qF _ _ _ _ _ _ _; exact zdf (by omega); exact zbu) ?_)
 refine o_b 1 [(8, bv ((atS l k).2))] [cw (z8 1 (sv 4 0 n (n + m)) (gV 5 l.length (some (c, t)))), cw (zT p 2 3 e b), .chan 200 (w.map qR), .map (hdM hd), cr [], gB l (some (c, t)), cw (ntL ((atS l k).1))] (by kernel_rfl) (zG (zC (zR (zR (zV (o_d 2 [(22, bv (!((atS l k).2))), (21, bv ((atS l k).2))] (by kernel_rfl) (zG (zC (zaj (t := !((atS l k).2)) rfl (fun h1 => ?_) (fun h1 => ?_))))))))))
 ·skip
  have h2 : ((atS l k).2) = false := not_t h1
  exact zR (zV (o_d 1 [(6, bv false)] (by kernel_rfl) (zG (zC (zaZ (⟨trivial, [bv false], (qE rfl rfl), (zU rfl qA), rfl, ⟨reg [], [cw (z8 1 (sv 4 0 n (n + m)) (gV 5 l.length (some (c, t)))), cw (zT p 2 3 e b), .chan 200 (w.map qR), .map (hdM hd), cr [], gB l (some (c, t))]⟩, Wk.ren [0, 1, 2, 3, 4, 5] rfl rfl (by decide) trivial ⟨.inl (zas rfl rfl (zaa (some (c, t)) rfl)), ⟨.inl (qB rfl rfl), ⟨.inl (congrArg some (zX _).symm), ⟨.inl (congrArg some (qI _).symm), ⟨.inl rfl, ⟨.inl (congrArg some (zab ho).symm), trivial⟩⟩⟩⟩⟩⟩, (by simp [one, h1, h2, if_true]), (by rw [show ackS (HS.mk p w hd e b) l k keep = (HS.mk p w hd e b, l) from by simp [ackS, zfg, h1, h2, if_true]]; exact ⟨some (c, t), _, 5, [], ho, (fun z => by cases z), .inl ⟨rfl, rfl, rfl⟩, rfl⟩)⟩))))))
 have h3 : ((atS l k).2) = true := not_f h1
 have hin : 0 ≤ k ∧ k < l.length := atS_in (by simp_all)
 refine zaq (zC (zR (zR (zV (o_d 2 [(24, bv (!keep)), (23, bv keep)] (by kernel_rfl) (zG (zC (zaj (t := !keep) rfl (fun h4 => ?_) (fun h4 => ?_)))))))))
 ·skip
  have h5 : keep = false := not_t h4
  refine zV (o_d 4 [(28, iv k), (27, pv 0 2), (26, pv 0 0), (25, pv 0 0)] (by kernel_rfl) (zcc (zdn [0, 5, 1, 4] [cw (z8 2 (sv 3 0 n (n + m)) (gV 1 l.length (some (c, t)))), gB l (some (c, t)), cr [], cr []] [pv 0 2, iv k] (dropNC h_yard_row_head_Note_drop l (some (c, t)) k n m ho (hin) (by omega)) rfl rfl ⟨⟨_, rfl, z9 (.inl (zaA rfl rfl (zaa (some (c, t)) rfl) (fun q => rfl)))⟩, ⟨⟨_, rfl, zcm ho⟩, ⟨⟨_, rfl, zJ⟩, ⟨⟨_, rfl, zJ⟩, trivial⟩⟩⟩⟩ (by decide) ?_)))
  rintro v1 h1' ⟨rfl, o6, s7, g8, z11⟩
  rcases o6 with _ | ⟨c9, t10⟩
  ·cases s7
  rcases z11 with rfl | rfl
  ·skip
   refine ⟨(zA qM (zA (fun h => by cases h) (zA zD (zA zD qC)))), .tuple #[], [cw (z8 1 (sv 4 0 n (n + m)) (gV 5 ((l.eraseIdx k.toNat).length) (some (c9, t10)))), cw (zT p 2 3 e b), .chan 200 (w.map qR), .map (hdM hd), cr [], gB (l.eraseIdx k.toNat) (some (c9, t10)), cw (ntL ((atS l k).1))], [], (by simp [zbF]), ⟨zaF rfl rfl (zaa (some (c9, t10)) rfl), ⟨rfl, ⟨rfl, ⟨rfl, ⟨(by cases true <;> rfl), ⟨zab g8, ⟨rfl, trivial⟩⟩⟩⟩⟩⟩⟩, trivial, ?_⟩
   refine zG (z5 [(7, pv 6 0), (0, pv 0 0)] (by kernel_rfl) (zR (zR (zV (o_d 1 [(30, pv 6 4)] (by kernel_rfl) (o_s (by refine z4 (v := bv ((atS l k).1.a)) rfl rfl ?_; exact zdT rfl) ?_))))))
   refine zG (zC (zaj (t := (atS l k).1.a) rfl (fun _ => ?_) (fun q => by rw [(hack (by simp_all) : ((atS l k).1.a) = true)] at q; cases q)))
   refine zR (zbx [cw (z8 1 (sv 4 0 n (n + m)) (gV 5 ((l.eraseIdx k.toNat).length) (some (c9, t10)))), cw (zT p 2 3 e b), .chan 200 (w.map qR), .map (hdM hd), cr [], gB (l.eraseIdx k.toNat) (some (c9, t10)), cw (ntL ((atS l k).1))] (by kernel_rfl) (d_n 4 4 7 [(35, pv 1 0), (34, pv 0 0), (33, pv 0 0), (32, pv 0 0)] [cw (z8 1 (sv 4 0 n (n + m)) (gV 5 ((l.eraseIdx k.toNat).length) (some (c9, t10)))), cw (zT p 2 3 e b), .chan 200 (w.map qR), .map (hdM hd), cr [], gB (l.eraseIdx k.toNat) (some (c9, t10)), cw (ntL ((atS l k).1))] [⟨3, [0], [], none⟩] (by kernel_rfl) rfl rfl (d_s rfl rfl rfl (by kernel_rfl) (by refine z4 (v := ntE ((atS l k).1)) rfl rfl ?_; exact zbJ ((atS l k).1.u) ((atS l k).1.b) ((atS l k).1.v) ((atS l k).1.w) ((atS l k).1.a) ((atS l k).1.e) ((atS l k).1.p)) ?_)))
   refine zgM [1, 2, 3] [cw (zT p 1 2 e b), .chan 200 (w.map qR), .map (hdM hd)] [pv 0 0, ntE ((atS l k).1)] (HheardC h_head_Head_Heard p w hd e b ((atS l k).1.u) ((atS l k).1.b) ((atS l k).1.v) ((atS l k).1.w) ((atS l k).1.a) ((atS l k).1.e) ((atS l k).1.p)) rfl (zaz rfl (zaz (qN (ntV_vpf ((atS l k).1.u) ((atS l k).1.b) ((atS l k).1.v) ((atS l k).1.w) ((atS l k).1.a) ((atS l k).1.e) ((atS l k).1.p))) rfl)) ⟨⟨_, rfl, z9 (.inl (zcn rfl rfl (fun q => rfl)))⟩, ⟨⟨_, rfl, z9 (.inl (zco _))⟩, ⟨⟨_, rfl, z9 (.inl (zdd _))⟩, trivial⟩⟩⟩ (by decide) ⟨_, _, ⟨rfl, rfl⟩, Nat.le_refl _, zi6⟩ ?_ (by kernel_rfl)
   rintro v1 h1' ⟨rfl, rfl⟩
   refine ⟨(zA zD (zA zD (zA (fun h => by cases h) qC))), .tuple #[], [cw (z8 1 (sv 4 0 n (n + m)) (gV 5 ((l.eraseIdx k.toNat).length) (some (c9, t10)))), cw (zT p 2 3 e b), .chan 200 (w.map qR), .map (hdM (zbR hd (atS l k).1)), cr [], gB (l.eraseIdx k.toNat) (some (c9, t10)), cw (ntL ((atS l k).1))], [], (by simp [zbF]), ⟨rfl, ⟨zcq rfl rfl, ⟨zX _, ⟨qI _, ⟨rfl, ⟨rfl, ⟨rfl, trivial⟩⟩⟩⟩⟩⟩⟩, trivial, ?_⟩
   exact zb2 (zC (zR (zV (o_d 1 [(6, bv true)] (by kernel_rfl) (zG (zC (zaZ (⟨trivial, [bv true], (qE rfl rfl), (zU rfl qA), rfl, ⟨reg [], [cw (z8 1 (sv 4 0 n (n + m)) (gV 5 ((l.eraseIdx k.toNat).length) (some (c9, t10)))), cw (zT p 2 3 e b), .chan 200 (w.map qR), .map (hdM (zbR hd (atS l k).1)), cr [], gB (l.eraseIdx k.toNat) (some (c9, t10))]⟩, Wk.ren [0, 1, 2, 3, 4, 5] rfl rfl (by decide) trivial ⟨.inl (zas rfl rfl (zaa (some (c9, t10)) rfl)), ⟨.inl (qB rfl rfl), ⟨.inl (congrArg some (zX _).symm), ⟨.inl (congrArg some (qI _).symm), ⟨.inl rfl, ⟨.inl (congrArg some (zab g8).symm), trivial⟩⟩⟩⟩⟩⟩, (by simp [one, h1, h3, h4, h5, if_true]), (by rw [show ackS (HS.mk p w hd e b) l k keep = (HS.mk p w (zbR hd (atS l k).1) e b, (l.eraseIdx k.toNat)) from by simp [ackS, zfg, h1, h3, h4, h5, if_true]]; exact ⟨some (c9, t10), _, 5, [], g8, (fun z => by cases z), .inl ⟨rfl, rfl, rfl⟩, rfl⟩)⟩))))))))
  refine ⟨(zA qM (zA zD (zA zD (zA zD qC)))), .tuple #[], [cw (z8 1 (sv 4 0 n (n + m)) (gV 7 ((l.eraseIdx k.toNat).length) (some (c9, t10)))), cw (zT p 2 3 e b), .chan 200 (w.map qR), .map (hdM hd), cr [], gB l (some (c, t)), cw (ntL ((atS l k).1))], [gB (l.eraseIdx k.toNat) (some (c9, t10))], (by simp [zbF]), ⟨zaF rfl rfl (zaa (some (c9, t10)) rfl), ⟨rfl, ⟨rfl, ⟨rfl, ⟨(by cases true <;> rfl), ⟨zab ho, ⟨rfl, trivial⟩⟩⟩⟩⟩⟩⟩, ⟨(zab g8), trivial⟩, ?_⟩
  refine zG (z5 [(7, pv 6 0), (0, pv 0 0)] (by kernel_rfl) (zR (zR (zV (o_d 1 [(30, pv 6 4)] (by kernel_rfl) (o_s (by refine z4 (v := bv ((atS l k).1.a)) rfl rfl ?_; exact zdT rfl) ?_))))))
  refine zG (zC (zaj (t := (atS l k).1.a) rfl (fun _ => ?_) (fun q => by rw [(hack (by simp_all) : ((atS l k).1.a) = true)] at q; cases q)))
  refine zR (zbx [cw (z8 1 (sv 4 0 n (n + m)) (gV 7 ((l.eraseIdx k.toNat).length) (some (c9, t10)))), cw (zT p 2 3 e b), .chan 200 (w.map qR), .map (hdM hd), cr [], gB l (some (c, t)), cw (ntL ((atS l k).1)), gB (l.eraseIdx k.toNat) (some (c9, t10))] (by kernel_rfl) (d_n 4 4 8 [(35, pv 1 0), (34, pv 0 0), (33, pv 0 0), (32, pv 0 0)] [cw (z8 1 (sv 4 0 n (n + m)) (gV 7 ((l.eraseIdx k.toNat).length) (some (c9, t10)))), cw (zT p 2 3 e b), .chan 200 (w.map qR), .map (hdM hd), cr [], gB l (some (c, t)), cw (ntL ((atS l k).1)), gB (l.eraseIdx k.toNat) (some (c9, t10))] [⟨3, [0], [], none⟩] (by kernel_rfl) rfl rfl (d_s rfl rfl rfl (by kernel_rfl) (by refine z4 (v := ntE ((atS l k).1)) rfl rfl ?_; exact zbJ ((atS l k).1.u) ((atS l k).1.b) ((atS l k).1.v) ((atS l k).1.w) ((atS l k).1.a) ((atS l k).1.e) ((atS l k).1.p)) ?_)))
  refine zgM [1, 2, 3] [cw (zT p 1 2 e b), .chan 200 (w.map qR), .map (hdM hd)] [pv 0 0, ntE ((atS l k).1)] (HheardC h_head_Head_Heard p w hd e b ((atS l k).1.u) ((atS l k).1.b) ((atS l k).1.v) ((atS l k).1.w) ((atS l k).1.a) ((atS l k).1.e) ((atS l k).1.p)) rfl (zaz rfl (zaz (qN (ntV_vpf ((atS l k).1.u) ((atS l k).1.b) ((atS l k).1.v) ((atS l k).1.w) ((atS l k).1.a) ((atS l k).1.e) ((atS l k).1.p))) rfl)) ⟨⟨_, rfl, z9 (.inl (zcn rfl rfl (fun q => rfl)))⟩, ⟨⟨_, rfl, z9 (.inl (zco _))⟩, ⟨⟨_, rfl, z9 (.inl (zdd _))⟩, trivial⟩⟩⟩ (by decide) ⟨_, _, ⟨rfl, rfl⟩, Nat.le_refl _, zi6⟩ ?_ (by kernel_rfl)
  rintro v1 h1' ⟨rfl, rfl⟩
  refine ⟨(zA zD (zA zD (zA (fun h => by cases h) qC))), .tuple #[], [cw (z8 1 (sv 4 0 n (n + m)) (gV 7 ((l.eraseIdx k.toNat).length) (some (c9, t10)))), cw (zT p 2 3 e b), .chan 200 (w.map qR), .map (hdM (zbR hd (atS l k).1)), cr [], gB l (some (c, t)), cw (ntL ((atS l k).1)), gB (l.eraseIdx k.toNat) (some (c9, t10))], [], (by simp [zbF]), ⟨rfl, ⟨zcq rfl rfl, ⟨zX _, ⟨qI _, ⟨rfl, ⟨rfl, ⟨rfl, ⟨rfl, trivial⟩⟩⟩⟩⟩⟩⟩⟩, trivial, ?_⟩
  exact zb2 (zC (zR (zV (o_d 1 [(6, bv true)] (by kernel_rfl) (zG (zC (zaZ (⟨trivial, [bv true], (qE rfl rfl), (zU rfl qA), rfl, ⟨reg [], [cw (z8 1 (sv 4 0 n (n + m)) (gV 6 ((l.eraseIdx k.toNat).length) (some (c9, t10)))), cw (zT p 2 3 e b), .chan 200 (w.map qR), .map (hdM (zbR hd (atS l k).1)), cr [], gB l (some (c, t)), gB (l.eraseIdx k.toNat) (some (c9, t10))]⟩, Wk.ren [0, 1, 2, 3, 4, 5, 7] rfl rfl (by decide) trivial ⟨.inl (zas rfl rfl (zaa (some (c9, t10)) rfl)), ⟨.inl (qB rfl rfl), ⟨.inl (congrArg some (zX _).symm), ⟨.inl (congrArg some (qI _).symm), ⟨.inl rfl, ⟨.inl (congrArg some (zab ho).symm), ⟨.inl (congrArg some (zab g8).symm), trivial⟩⟩⟩⟩⟩⟩⟩, (by simp [one, h1, h3, h4, h5, if_true]), (by rw [show ackS (HS.mk p w hd e b) l k keep = (HS.mk p w (zbR hd (atS l k).1) e b, (l.eraseIdx k.toNat)) from by simp [ackS, zfg, h1, h3, h4, h5, if_true]]; exact ⟨some (c9, t10), gB l (some (c, t)), 6, _, g8, (fun z => by cases z), .inr ⟨rfl, rfl⟩, rfl⟩)⟩))))))))
 have h12 : keep = true := not_f h4
 refine zaq (zC (zR (zR (zV (o_d 1 [(30, pv 6 4)] (by kernel_rfl) (o_s (by refine z4 (v := bv ((atS l k).1.a)) rfl rfl ?_; exact zdT rfl) ?_))))))
 refine zG (zC (zaj (t := (atS l k).1.a) rfl (fun _ => ?_) (fun q => by rw [(hack (by simp_all) : ((atS l k).1.a) = true)] at q; cases q)))
 refine zR (zbx [cw (z8 1 (sv 4 0 n (n + m)) (gV 5 l.length (some (c, t)))), cw (zT p 2 3 e b), .chan 200 (w.map qR), .map (hdM hd), cr [], gB l (some (c, t)), cw (ntL ((atS l k).1))] (by kernel_rfl) (d_n 4 4 7 [(35, pv 1 0), (34, pv 0 0), (33, pv 0 0), (32, pv 0 0)] [cw (z8 1 (sv 4 0 n (n + m)) (gV 5 l.length (some (c, t)))), cw (zT p 2 3 e b), .chan 200 (w.map qR), .map (hdM hd), cr [], gB l (some (c, t)), cw (ntL ((atS l k).1))] [⟨3, [0], [], none⟩] (by kernel_rfl) rfl rfl (d_s rfl rfl rfl (by kernel_rfl) (by refine z4 (v := ntE ((atS l k).1)) rfl rfl ?_; exact zbJ ((atS l k).1.u) ((atS l k).1.b) ((atS l k).1.v) ((atS l k).1.w) ((atS l k).1.a) ((atS l k).1.e) ((atS l k).1.p)) ?_)))
 refine zgM [1, 2, 3] [cw (zT p 1 2 e b), .chan 200 (w.map qR), .map (hdM hd)] [pv 0 0, ntE ((atS l k).1)] (HheardC h_head_Head_Heard p w hd e b ((atS l k).1.u) ((atS l k).1.b) ((atS l k).1.v) ((atS l k).1.w) ((atS l k).1.a) ((atS l k).1.e) ((atS l k).1.p)) rfl (zaz rfl (zaz (qN (ntV_vpf ((atS l k).1.u) ((atS l k).1.b) ((atS l k).1.v) ((atS l k).1.w) ((atS l k).1.a) ((atS l k).1.e) ((atS l k).1.p))) rfl)) ⟨⟨_, rfl, z9 (.inl (zcn rfl rfl (fun q => rfl)))⟩, ⟨⟨_, rfl, z9 (.inl (zco _))⟩, ⟨⟨_, rfl, z9 (.inl (zdd _))⟩, trivial⟩⟩⟩ (by decide) ⟨_, _, ⟨rfl, rfl⟩, Nat.le_refl _, zi6⟩ ?_ (by kernel_rfl)
 rintro v1 h1' ⟨rfl, rfl⟩
 refine ⟨(zA zD (zA zD (zA (fun h => by cases h) qC))), .tuple #[], [cw (z8 1 (sv 4 0 n (n + m)) (gV 5 l.length (some (c, t)))), cw (zT p 2 3 e b), .chan 200 (w.map qR), .map (hdM (zbR hd (atS l k).1)), cr [], gB l (some (c, t)), cw (ntL ((atS l k).1))], [], (by simp [zbF]), ⟨rfl, ⟨zcq rfl rfl, ⟨zX _, ⟨qI _, ⟨rfl, ⟨rfl, ⟨rfl, trivial⟩⟩⟩⟩⟩⟩⟩, trivial, ?_⟩
 exact zb2 (z5 [] (by kernel_rfl) (zR (zV (o_d 1 [(6, bv true)] (by kernel_rfl) (zG (zC (zaZ (⟨trivial, [bv true], (qE rfl rfl), (zU rfl qA), rfl, ⟨reg [], [cw (z8 1 (sv 4 0 n (n + m)) (gV 5 l.length (some (c, t)))), cw (zT p 2 3 e b), .chan 200 (w.map qR), .map (hdM (zbR hd (atS l k).1)), cr [], gB l (some (c, t))]⟩, Wk.ren [0, 1, 2, 3, 4, 5] rfl rfl (by decide) trivial ⟨.inl (zas rfl rfl (zaa (some (c, t)) rfl)), ⟨.inl (qB rfl rfl), ⟨.inl (congrArg some (zX _).symm), ⟨.inl (congrArg some (qI _).symm), ⟨.inl rfl, ⟨.inl (congrArg some (zab ho).symm), trivial⟩⟩⟩⟩⟩⟩, (by simp [one, h1, h3, h4, h12, if_true]), (by rw [show ackS (HS.mk p w hd e b) l k keep = (HS.mk p w (zbR hd (atS l k).1) e b, l) from by simp [ackS, zfg, h1, h3, h4, h12, if_true]]; exact ⟨some (c, t), _, 5, [], ho, (fun z => by cases z), .inl ⟨rfl, rfl, rfl⟩, rfl⟩)⟩))))))))
end Go.Rh

set_option maxHeartbeats 8000000
namespace Go.Rh
theorem atU1C {P : Program} (hc : zae P) (n m i lw : Nat) (o : Gr) (u : Int) (hu : u = (i : Nat)) (hi : i < n) :
  Env P "(*roundhouse/yard.row[*roundhouse/yard.unit]).at" [pv 0 1, iv u] ([cr (z8 2 (sv 1 0 n (n + m)) (gV 3 lw o)), cr (zbc n (uf i 4 5) ++ zbq m), cr [], hidB o.isSome, cr [], cr [], cr [], cr [], cr [], cr [], cr [], cr [], cr [], cr [], cr [], cr [], cr [], cr [], cr [], cr [], cr []]) (fun v h' => v = .tuple #[pv 4 0, bv true] ∧ h' = [cr (z8 2 (sv 1 0 n (n + m)) (gV 3 lw o)), cr (zbc n (uf i 4 5) ++ zbq m), cr [], hidB o.isSome, cr [], cr [], cr [], cr [], cr [], cr [], cr [], cr [], cr [], cr [], cr [], cr [], cr [], cr [], cr [], cr [], cr []]) := by
 have h := atUC hc n m i lw o u
 have e : (if 0 ≤ u ∧ u < (n : Nat) then Value.tuple #[pv (uf i 4 5 u.toNat) 0, bv true] else .tuple #[.pointer none, bv false]) = .tuple #[pv 4 0, bv true] := by
  rw [if_pos ⟨by omega, by omega⟩, show u.toNat = i by omega, uf_at]
 rw [e] at h; exact h
theorem atU0C {P : Program} (hc : zae P) (n m i lw : Nat) (o : Gr) (u : Int) (hu : ¬ (0 ≤ u ∧ u < (n : Nat))) :
  Env P "(*roundhouse/yard.row[*roundhouse/yard.unit]).at" [pv 0 1, iv u] ([cr (z8 2 (sv 1 0 n (n + m)) (gV 3 lw o)), cr (zbc n (uf i 4 5) ++ zbq m), cr [], hidB o.isSome, cr [], cr [], cr [], cr [], cr [], cr [], cr [], cr [], cr [], cr [], cr [], cr [], cr [], cr [], cr [], cr [], cr []]) (fun v h' => v = .tuple #[.pointer none, bv false] ∧ h' = [cr (z8 2 (sv 1 0 n (n + m)) (gV 3 lw o)), cr (zbc n (uf i 4 5) ++ zbq m), cr [], hidB o.isSome, cr [], cr [], cr [], cr [], cr [], cr [], cr [], cr [], cr [], cr [], cr [], cr [], cr [], cr [], cr [], cr [], cr []]) := by
 have h := atUC hc n m i lw o u
 have e : (if 0 ≤ u ∧ u < (n : Nat) then Value.tuple #[pv (uf i 4 5 u.toNat) 0, bv true] else .tuple #[.pointer none, bv false]) = .tuple #[.pointer none, bv false] := if_neg hu
 rw [e] at h; exact h
theorem YVersionC {P : Program} (hc : zb1 P) (h_yard_row_yard_unit_at : zae P) (h_plane_Plane_Version : zaB P) (n m i : Nat) (hn16 : n ≤ 16) (hi : i < n) (l : List Nt) (o : Gr) (ho : gOk l o) (p : qL) (is : Bool) (nr : Nat → Int × Bool) (b : Int) (q : Option Nat) (u : Int) (hui : 0 ≤ u ∧ u < (n : Nat) → u = (i : Nat)) :
    Env P "(*roundhouse/yard.Yard).Version" [pv 0 0, iv u] ([cw (z8 1 (sv 2 0 n (n + m)) (gV 7 l.length o)), cr [], cr (zbc n (uf i 3 8) ++ zbq m), cw (qD 4 p b 5), cw (zM p is nr (slV 6 127 q)), .chan 1 (([] : List Nt).map ntE), cr [], gB l o, cr [], cr [], cr [], cr [], cr [], cr [], cr [], cr [], cr [], cr [], cr [], cr [], cr [], cr [], cr [], cr []]) (fun v h' => v = (if 0 ≤ u ∧ u < (n : Nat) then .tuple #[iv (p 0), bv is] else .tuple #[iv 0, bv false]) ∧ h' = [cw (z8 1 (sv 2 0 n (n + m)) (gV 7 l.length o)), cr [], cr (zbc n (uf i 3 8) ++ zbq m), cw (qD 4 p b 5), cw (zM p is nr (slV 6 127 q)), .chan 1 (([] : List Nt).map ntE), cr [], gB l o, cr [], cr [], cr [], cr [], cr [], cr [], cr [], cr [], cr [], cr [], cr [], cr [], cr [], cr [], cr [], cr []]) := by
 refine Env.by2 hc ?_
 unfold zcR
 show GC _ 24 _ _ ⟨reg [(0, pv 0 0), (1, iv u)], [cw (z8 1 (sv 2 0 n (n + m)) (gV 7 l.length o)), cr [], cr (zbc n (uf i 3 8) ++ zbq m), cw (qD 4 p b 5), cw (zM p is nr (slV 6 127 q)), .chan 1 (([] : List Nt).map ntE), cr [], gB l o, cr [], cr [], cr [], cr [], cr [], cr [], cr [], cr [], cr [], cr [], cr [], cr [], cr [], cr [], cr [], cr []]⟩
 refine zR (zV (o_d 2 [(5, bv false), (4, iv 0)] (by kernel_rfl) (zG (zC (zR (zV (o_d 4 [(12, iv u), (11, pv 0 1), (10, pv 0 0), (9, pv 0 0)] (by kernel_rfl) ?_)))))))
 by_cases hu : 0 ≤ u ∧ u < (n : Nat)
 ·skip
  have hui := hui hu
  refine zcc (zdn [0, 2, 1, 7, 3, 8, 9, 10, 11, 12, 13, 14, 15, 16, 17, 18, 19, 20, 21, 22, 23] [cr (z8 2 (sv 1 0 n (n + m)) (gV 3 l.length o)), cr (zbc n (uf i 4 5) ++ zbq m), cr [], hidB o.isSome, cr [], cr [], cr [], cr [], cr [], cr [], cr [], cr [], cr [], cr [], cr [], cr [], cr [], cr [], cr [], cr [], cr []] [pv 0 1, iv u] (atU1C h_yard_row_yard_unit_at n m i l.length o u hui hi) rfl rfl ⟨⟨_, rfl, z9 (.inl (zaA rfl rfl (zaa o rfl) (fun q => rfl)))⟩, ⟨⟨_, rfl, z9 (.inl (zeU rfl (h16 rfl) hn16 (fun q => q)))⟩, ⟨⟨_, rfl, zJ⟩, ⟨⟨_, rfl, zdH o⟩, ⟨⟨_, rfl, zJ⟩, ⟨⟨_, rfl, zJ⟩, ⟨⟨_, rfl, zJ⟩, ⟨⟨_, rfl, zJ⟩, ⟨⟨_, rfl, zJ⟩, ⟨⟨_, rfl, zJ⟩, ⟨⟨_, rfl, zJ⟩, ⟨⟨_, rfl, zJ⟩, ⟨⟨_, rfl, zJ⟩, ⟨⟨_, rfl, zJ⟩, ⟨⟨_, rfl, zJ⟩, ⟨⟨_, rfl, zJ⟩, ⟨⟨_, rfl, zJ⟩, ⟨⟨_, rfl, zJ⟩, ⟨⟨_, rfl, zJ⟩, ⟨⟨_, rfl, zJ⟩, ⟨⟨_, rfl, zJ⟩, trivial⟩⟩⟩⟩⟩⟩⟩⟩⟩⟩⟩⟩⟩⟩⟩⟩⟩⟩⟩⟩⟩ (by decide) ?_)
  rintro v1 h1' ⟨rfl, rfl⟩
  refine ⟨(zA zD (zA zD (zA zD (zA zD (zA zD (zA zD (zA zD (zA zD (zA zD (zA zD (zA zD (zA zD (zA zD (zA zD (zA zD (zA zD (zA zD (zA zD (zA zD (zA zD (zA zD qC))))))))))))))))))))), .tuple #[pv 3 0, bv true], [cw (z8 1 (sv 2 0 n (n + m)) (gV 7 l.length o)), cr [], cr (zbc n (uf i 3 8) ++ zbq m), cw (qD 4 p b 5), cw (zM p is nr (slV 6 127 q)), .chan 1 (([] : List Nt).map ntE), cr [], gB l o, cr [], cr [], cr [], cr [], cr [], cr [], cr [], cr [], cr [], cr [], cr [], cr [], cr [], cr [], cr [], cr []], [], ((zgc _).trans rfl), ⟨rfl, ⟨(by cases true <;> rfl), ⟨rfl, ⟨rfl, ⟨rfl, ⟨rfl, ⟨rfl, ⟨(by cases o <;> rfl), ⟨(by cases true <;> rfl), ⟨(by cases true <;> rfl), ⟨(by cases true <;> rfl), ⟨(by cases true <;> rfl), ⟨(by cases true <;> rfl), ⟨(by cases true <;> rfl), ⟨(by cases true <;> rfl), ⟨(by cases true <;> rfl), ⟨(by cases true <;> rfl), ⟨(by cases true <;> rfl), ⟨(by cases true <;> rfl), ⟨(by cases true <;> rfl), ⟨(by cases true <;> rfl), ⟨(by cases true <;> rfl), ⟨(by cases true <;> rfl), ⟨(by cases true <;> rfl), trivial⟩⟩⟩⟩⟩⟩⟩⟩⟩⟩⟩⟩⟩⟩⟩⟩⟩⟩⟩⟩⟩⟩⟩⟩, trivial, ?_⟩
  refine o_d 5 [(7, bv true), (6, pv 3 0), (15, bv true), (14, pv 3 0), (8, .tuple #[pv 3 0, bv true])] (by kernel_rfl) (zG (zC (zR (zR (zV (o_d 2 [(17, bv false), (16, bv true)] (by kernel_rfl) (zG (zC (zbW rfl (zaq (zC (zR ?_))))))))))))
  refine zV (o_d 3 [(20, pv 3 0), (19, pv 3 0), (18, pv 3 0)] (by kernel_rfl) (o_s (by refine z4 (v := pv 4 0) rfl rfl ?_; exact rfl) ?_))
  refine zcc (zdn [4, 6] [cr (zM p is nr (slV 1 127 q)), cr []] [pv 0 0] (PVersionC h_plane_Plane_Version p is nr q) rfl rfl ⟨⟨_, rfl, z9 (.inl (zaW (qY q rfl) (fun q => rfl)))⟩, ⟨⟨_, rfl, zJ⟩, trivial⟩⟩ (by decide) ?_)
  rintro v1 h1' ⟨rfl, rfl⟩
  refine ⟨(zA zD (zA zD qC)), .tuple #[iv (p 0), bv is], [cw (z8 1 (sv 2 0 n (n + m)) (gV 7 l.length o)), cr [], cr (zbc n (uf i 3 8) ++ zbq m), cw (qD 4 p b 5), cw (zM p is nr (slV 6 127 q)), .chan 1 (([] : List Nt).map ntE), cr [], gB l o, cr [], cr [], cr [], cr [], cr [], cr [], cr [], cr [], cr [], cr [], cr [], cr [], cr [], cr [], cr [], cr []], [], (qN rfl), ⟨rfl, ⟨rfl, ⟨rfl, ⟨rfl, ⟨rfl, ⟨rfl, ⟨(by cases true <;> rfl), ⟨rfl, ⟨rfl, ⟨rfl, ⟨rfl, ⟨rfl, ⟨rfl, ⟨rfl, ⟨rfl, ⟨rfl, ⟨rfl, ⟨rfl, ⟨rfl, ⟨rfl, ⟨rfl, ⟨rfl, ⟨rfl, ⟨rfl, trivial⟩⟩⟩⟩⟩⟩⟩⟩⟩⟩⟩⟩⟩⟩⟩⟩⟩⟩⟩⟩⟩⟩⟩⟩, trivial, ?_⟩
  exact o_d 4 [(5, bv is), (4, iv (p 0)), (24, bv is), (23, iv (p 0))] (by kernel_rfl) (zG (z5 [(5, bv is), (4, iv (p 0))] (by kernel_rfl) (zaZ (⟨trivial, _, .inl rfl, [iv (p 0), bv is], (qE rfl (qE rfl rfl)), (zU rfl (zU rfl qA)), (by rw [if_pos hu]; rfl), rfl⟩))))
 refine zcc (zdn [0, 2, 1, 7, 3, 8, 9, 10, 11, 12, 13, 14, 15, 16, 17, 18, 19, 20, 21, 22, 23] [cr (z8 2 (sv 1 0 n (n + m)) (gV 3 l.length o)), cr (zbc n (uf i 4 5) ++ zbq m), cr [], hidB o.isSome, cr [], cr [], cr [], cr [], cr [], cr [], cr [], cr [], cr [], cr [], cr [], cr [], cr [], cr [], cr [], cr [], cr []] [pv 0 1, iv u] (atU0C h_yard_row_yard_unit_at n m i l.length o u hu) rfl rfl ⟨⟨_, rfl, z9 (.inl (zaA rfl rfl (zaa o rfl) (fun q => rfl)))⟩, ⟨⟨_, rfl, z9 (.inl (zeU rfl (h16 rfl) hn16 (fun q => q)))⟩, ⟨⟨_, rfl, zJ⟩, ⟨⟨_, rfl, zdH o⟩, ⟨⟨_, rfl, zJ⟩, ⟨⟨_, rfl, zJ⟩, ⟨⟨_, rfl, zJ⟩, ⟨⟨_, rfl, zJ⟩, ⟨⟨_, rfl, zJ⟩, ⟨⟨_, rfl, zJ⟩, ⟨⟨_, rfl, zJ⟩, ⟨⟨_, rfl, zJ⟩, ⟨⟨_, rfl, zJ⟩, ⟨⟨_, rfl, zJ⟩, ⟨⟨_, rfl, zJ⟩, ⟨⟨_, rfl, zJ⟩, ⟨⟨_, rfl, zJ⟩, ⟨⟨_, rfl, zJ⟩, ⟨⟨_, rfl, zJ⟩, ⟨⟨_, rfl, zJ⟩, ⟨⟨_, rfl, zJ⟩, trivial⟩⟩⟩⟩⟩⟩⟩⟩⟩⟩⟩⟩⟩⟩⟩⟩⟩⟩⟩⟩⟩ (by decide) ?_)
 rintro v1 h1' ⟨rfl, rfl⟩
 refine ⟨(zA zD (zA zD (zA zD (zA zD (zA zD (zA zD (zA zD (zA zD (zA zD (zA zD (zA zD (zA zD (zA zD (zA zD (zA zD (zA zD (zA zD (zA zD (zA zD (zA zD (zA zD qC))))))))))))))))))))), .tuple #[.pointer none, bv false], [cw (z8 1 (sv 2 0 n (n + m)) (gV 7 l.length o)), cr [], cr (zbc n (uf i 3 8) ++ zbq m), cw (qD 4 p b 5), cw (zM p is nr (slV 6 127 q)), .chan 1 (([] : List Nt).map ntE), cr [], gB l o, cr [], cr [], cr [], cr [], cr [], cr [], cr [], cr [], cr [], cr [], cr [], cr [], cr [], cr [], cr [], cr []], [], (qN rfl), ⟨rfl, ⟨(by cases true <;> rfl), ⟨rfl, ⟨rfl, ⟨rfl, ⟨rfl, ⟨rfl, ⟨(by cases o <;> rfl), ⟨(by cases true <;> rfl), ⟨(by cases true <;> rfl), ⟨(by cases true <;> rfl), ⟨(by cases true <;> rfl), ⟨(by cases true <;> rfl), ⟨(by cases true <;> rfl), ⟨(by cases true <;> rfl), ⟨(by cases true <;> rfl), ⟨(by cases true <;> rfl), ⟨(by cases true <;> rfl), ⟨(by cases true <;> rfl), ⟨(by cases true <;> rfl), ⟨(by cases true <;> rfl), ⟨(by cases true <;> rfl), ⟨(by cases true <;> rfl), ⟨(by cases true <;> rfl), trivial⟩⟩⟩⟩⟩⟩⟩⟩⟩⟩⟩⟩⟩⟩⟩⟩⟩⟩⟩⟩⟩⟩⟩⟩, trivial, ?_⟩
 refine o_d 5 [(7, bv false), (6, .pointer none), (15, bv false), (14, .pointer none), (8, .tuple #[.pointer none, bv false])] (by kernel_rfl) (zG (zC (zR (zR (zV (o_d 2 [(17, bv true), (16, bv false)] (by kernel_rfl) (zG (zC (zer rfl (zR (zV (o_d 2 [(5, bv false), (4, iv 0)] (by kernel_rfl) ?_))))))))))))
 exact zG (zC (zaZ (⟨trivial, _, .inl rfl, [iv 0, bv false], (qE rfl (qE rfl rfl)), (zU rfl (zU rfl qA)), (by rw [if_neg hu]; rfl), rfl⟩)))
theorem YCrashC {P : Program} (hc : zcB P) (h_yard_row_yard_unit_at : zae P) (h_plane_Plane_Crash : zbD P) (n m i : Nat) (hn16 : n ≤ 16) (hi : i < n) (l : List Nt) (o : Gr) (ho : gOk l o) (p : qL) (is : Bool) (nr : Nat → Int × Bool) (b : Int) (q : Option Nat) (u : Int) (hui : 0 ≤ u ∧ u < (n : Nat) → u = (i : Nat)) :
    Env P "(*roundhouse/yard.Yard).Crash" [pv 0 0, iv u] ([cw (z8 1 (sv 2 0 n (n + m)) (gV 7 l.length o)), cr [], cr (zbc n (uf i 3 8) ++ zbq m), cw (qD 4 p b 5), cw (zM p is nr (slV 6 127 q)), .chan 1 (([] : List Nt).map ntE), cr [], gB l o, cr [], cr [], cr [], cr [], cr [], cr [], cr [], cr [], cr [], cr [], cr [], cr [], cr [], cr [], cr [], cr []]) (fun v h' => (v = bv true ∧ (0 ≤ u ∧ u < (n : Nat)) ∧ h' = [cw (z8 1 (sv 2 0 n (n + m)) (gV 7 l.length o)), cr [], cr (zbc n (uf i 3 8) ++ zbq m), cw (qD 4 zH (i64.wrap (b + 1)) 5), cw (zM zH false nr0 (slV 6 127 none)), .chan 1 (([] : List Nt).map ntE), cr [], gB l o, cr [], cr [], cr [], cr [], cr [], cr [], cr [], cr [], cr [], cr [], cr [], cr [], cr [], cr [], cr [], cr []]) ∨ (v = bv false ∧ ¬ (0 ≤ u ∧ u < (n : Nat)) ∧ h' = [cw (z8 1 (sv 2 0 n (n + m)) (gV 7 l.length o)), cr [], cr (zbc n (uf i 3 8) ++ zbq m), cw (qD 4 p b 5), cw (zM p is nr (slV 6 127 q)), .chan 1 (([] : List Nt).map ntE), cr [], gB l o, cr [], cr [], cr [], cr [], cr [], cr [], cr [], cr [], cr [], cr [], cr [], cr [], cr [], cr [], cr [], cr []])) := by
 refine Env.by2 hc ?_
 unfold zdA
 show GC _ 24 _ _ ⟨reg [(0, pv 0 0), (1, iv u)], [cw (z8 1 (sv 2 0 n (n + m)) (gV 7 l.length o)), cr [], cr (zbc n (uf i 3 8) ++ zbq m), cw (qD 4 p b 5), cw (zM p is nr (slV 6 127 q)), .chan 1 (([] : List Nt).map ntE), cr [], gB l o, cr [], cr [], cr [], cr [], cr [], cr [], cr [], cr [], cr [], cr [], cr [], cr [], cr [], cr [], cr [], cr []]⟩
 refine zR (zV (o_d 1 [(4, bv false)] (by kernel_rfl) (zG (zC (zR (zV (o_d 4 [(11, iv u), (10, pv 0 1), (9, pv 0 0), (8, pv 0 0)] (by kernel_rfl) ?_)))))))
 by_cases hu : 0 ≤ u ∧ u < (n : Nat)
 ·skip
  have hui := hui hu
  refine zcc (zdn [0, 2, 1, 7, 3, 8, 9, 10, 11, 12, 13, 14, 15, 16, 17, 18, 19, 20, 21, 22, 23] [cr (z8 2 (sv 1 0 n (n + m)) (gV 3 l.length o)), cr (zbc n (uf i 4 5) ++ zbq m), cr [], hidB o.isSome, cr [], cr [], cr [], cr [], cr [], cr [], cr [], cr [], cr [], cr [], cr [], cr [], cr [], cr [], cr [], cr [], cr []] [pv 0 1, iv u] (atU1C h_yard_row_yard_unit_at n m i l.length o u hui hi) rfl rfl ⟨⟨_, rfl, z9 (.inl (zaA rfl rfl (zaa o rfl) (fun q => rfl)))⟩, ⟨⟨_, rfl, z9 (.inl (zeU rfl (h16 rfl) hn16 (fun q => q)))⟩, ⟨⟨_, rfl, zJ⟩, ⟨⟨_, rfl, zdH o⟩, ⟨⟨_, rfl, zJ⟩, ⟨⟨_, rfl, zJ⟩, ⟨⟨_, rfl, zJ⟩, ⟨⟨_, rfl, zJ⟩, ⟨⟨_, rfl, zJ⟩, ⟨⟨_, rfl, zJ⟩, ⟨⟨_, rfl, zJ⟩, ⟨⟨_, rfl, zJ⟩, ⟨⟨_, rfl, zJ⟩, ⟨⟨_, rfl, zJ⟩, ⟨⟨_, rfl, zJ⟩, ⟨⟨_, rfl, zJ⟩, ⟨⟨_, rfl, zJ⟩, ⟨⟨_, rfl, zJ⟩, ⟨⟨_, rfl, zJ⟩, ⟨⟨_, rfl, zJ⟩, ⟨⟨_, rfl, zJ⟩, trivial⟩⟩⟩⟩⟩⟩⟩⟩⟩⟩⟩⟩⟩⟩⟩⟩⟩⟩⟩⟩⟩ (by decide) ?_)
  rintro v1 h1' ⟨rfl, rfl⟩
  refine ⟨(zA zD (zA zD (zA zD (zA zD (zA zD (zA zD (zA zD (zA zD (zA zD (zA zD (zA zD (zA zD (zA zD (zA zD (zA zD (zA zD (zA zD (zA zD (zA zD (zA zD (zA zD qC))))))))))))))))))))), .tuple #[pv 3 0, bv true], [cw (z8 1 (sv 2 0 n (n + m)) (gV 7 l.length o)), cr [], cr (zbc n (uf i 3 8) ++ zbq m), cw (qD 4 p b 5), cw (zM p is nr (slV 6 127 q)), .chan 1 (([] : List Nt).map ntE), cr [], gB l o, cr [], cr [], cr [], cr [], cr [], cr [], cr [], cr [], cr [], cr [], cr [], cr [], cr [], cr [], cr [], cr []], [], ((zgc _).trans rfl), ⟨rfl, ⟨(by cases true <;> rfl), ⟨rfl, ⟨rfl, ⟨rfl, ⟨rfl, ⟨rfl, ⟨(by cases o <;> rfl), ⟨(by cases true <;> rfl), ⟨(by cases true <;> rfl), ⟨(by cases true <;> rfl), ⟨(by cases true <;> rfl), ⟨(by cases true <;> rfl), ⟨(by cases true <;> rfl), ⟨(by cases true <;> rfl), ⟨(by cases true <;> rfl), ⟨(by cases true <;> rfl), ⟨(by cases true <;> rfl), ⟨(by cases true <;> rfl), ⟨(by cases true <;> rfl), ⟨(by cases true <;> rfl), ⟨(by cases true <;> rfl), ⟨(by cases true <;> rfl), ⟨(by cases true <;> rfl), trivial⟩⟩⟩⟩⟩⟩⟩⟩⟩⟩⟩⟩⟩⟩⟩⟩⟩⟩⟩⟩⟩⟩⟩⟩, trivial, ?_⟩
  refine o_d 5 [(6, bv true), (5, pv 3 0), (14, bv true), (13, pv 3 0), (7, .tuple #[pv 3 0, bv true])] (by kernel_rfl) (zG (zC (zR (zR (zV (o_d 1 [(15, bv true)] (by kernel_rfl) (zG (zC (zer rfl (zR (zV (o_d 3 [(18, pv 3 0), (17, pv 3 0), (16, pv 3 0)] (by kernel_rfl) ?_))))))))))))
  refine o_s (by refine z4 (v := pv 4 0) rfl rfl ?_; exact rfl) ?_
  refine zcc (zdn [4, 6] [cw (zM p is nr (slV 1 127 q)), cr []] [pv 0 0] (PCrashC h_plane_Plane_Crash p is nr q) rfl rfl ⟨⟨_, rfl, z9 (.inl (zaW (qY q rfl) (fun q => rfl)))⟩, ⟨⟨_, rfl, zJ⟩, trivial⟩⟩ (by decide) ?_)
  rintro v1 h1' ⟨rfl, rfl⟩
  refine ⟨(zA qM (zA zD qC)), .tuple #[], [cw (z8 1 (sv 2 0 n (n + m)) (gV 7 l.length o)), cr [], cr (zbc n (uf i 3 8) ++ zbq m), cw (qD 4 p b 5), cw (zM zH false nr0 (slV 6 127 none)), .chan 1 (([] : List Nt).map ntE), cr [], gB l o, cr [], cr [], cr [], cr [], cr [], cr [], cr [], cr [], cr [], cr [], cr [], cr [], cr [], cr [], cr [], cr []], [], (by simp [zbF]), ⟨rfl, ⟨rfl, ⟨rfl, ⟨rfl, ⟨zbo (qY none rfl), ⟨rfl, ⟨(by cases true <;> rfl), ⟨rfl, ⟨rfl, ⟨rfl, ⟨rfl, ⟨rfl, ⟨rfl, ⟨rfl, ⟨rfl, ⟨rfl, ⟨rfl, ⟨rfl, ⟨rfl, ⟨rfl, ⟨rfl, ⟨rfl, ⟨rfl, ⟨rfl, trivial⟩⟩⟩⟩⟩⟩⟩⟩⟩⟩⟩⟩⟩⟩⟩⟩⟩⟩⟩⟩⟩⟩⟩⟩, trivial, ?_⟩
  refine zG (zC (zR (zV (o_d 1 [(21, pv 3 0)] (by kernel_rfl) (o_s (by refine zbZ (c := pl zH) ?_; exact zke) ?_)))))
  refine o_d 2 [(24, pv 3 1), (23, pv 3 0)] (by kernel_rfl) (zc1 (by refine qQ (c' := qD 4 zH b 5) rfl rfl rfl ?_ ?_ ?_; exact zN _; exact unit_le (by omega); exact unit_wP) ?_)
  refine zG (z5 [(6, bv true), (5, pv 3 0)] (by kernel_rfl) (zV (o_d 3 [(27, pv 3 331), (26, pv 3 0), (25, pv 3 0)] (by kernel_rfl) (o_s (by refine z4 (v := iv b) rfl rfl ?_; exact (zdQ 0).trans rfl) ?_))))
  refine o_d 3 [(31, pv 3 331), (30, pv 3 0), (29, iv (i64.wrap (b + 1)))] (by kernel_rfl) (zc1 (by refine qQ (c' := qD 4 zH (i64.wrap (b + 1)) 5) rfl rfl rfl ?_ ?_ ?_; exact rfl; exact unit_le (by omega); exact unit_wB) ?_)
  exact zG (zC (zR (zV (o_d 2 [(4, bv true), (32, bv true)] (by kernel_rfl) (zG (zC (zaZ (⟨trivial, _, .inl rfl, [bv true], (qE rfl rfl), (zU rfl qA), .inl ⟨rfl, hu, rfl⟩⟩))))))))
 refine zcc (zdn [0, 2, 1, 7, 3, 8, 9, 10, 11, 12, 13, 14, 15, 16, 17, 18, 19, 20, 21, 22, 23] [cr (z8 2 (sv 1 0 n (n + m)) (gV 3 l.length o)), cr (zbc n (uf i 4 5) ++ zbq m), cr [], hidB o.isSome, cr [], cr [], cr [], cr [], cr [], cr [], cr [], cr [], cr [], cr [], cr [], cr [], cr [], cr [], cr [], cr [], cr []] [pv 0 1, iv u] (atU0C h_yard_row_yard_unit_at n m i l.length o u hu) rfl rfl ⟨⟨_, rfl, z9 (.inl (zaA rfl rfl (zaa o rfl) (fun q => rfl)))⟩, ⟨⟨_, rfl, z9 (.inl (zeU rfl (h16 rfl) hn16 (fun q => q)))⟩, ⟨⟨_, rfl, zJ⟩, ⟨⟨_, rfl, zdH o⟩, ⟨⟨_, rfl, zJ⟩, ⟨⟨_, rfl, zJ⟩, ⟨⟨_, rfl, zJ⟩, ⟨⟨_, rfl, zJ⟩, ⟨⟨_, rfl, zJ⟩, ⟨⟨_, rfl, zJ⟩, ⟨⟨_, rfl, zJ⟩, ⟨⟨_, rfl, zJ⟩, ⟨⟨_, rfl, zJ⟩, ⟨⟨_, rfl, zJ⟩, ⟨⟨_, rfl, zJ⟩, ⟨⟨_, rfl, zJ⟩, ⟨⟨_, rfl, zJ⟩, ⟨⟨_, rfl, zJ⟩, ⟨⟨_, rfl, zJ⟩, ⟨⟨_, rfl, zJ⟩, ⟨⟨_, rfl, zJ⟩, trivial⟩⟩⟩⟩⟩⟩⟩⟩⟩⟩⟩⟩⟩⟩⟩⟩⟩⟩⟩⟩⟩ (by decide) ?_)
 rintro v1 h1' ⟨rfl, rfl⟩
 refine ⟨(zA zD (zA zD (zA zD (zA zD (zA zD (zA zD (zA zD (zA zD (zA zD (zA zD (zA zD (zA zD (zA zD (zA zD (zA zD (zA zD (zA zD (zA zD (zA zD (zA zD (zA zD qC))))))))))))))))))))), .tuple #[.pointer none, bv false], [cw (z8 1 (sv 2 0 n (n + m)) (gV 7 l.length o)), cr [], cr (zbc n (uf i 3 8) ++ zbq m), cw (qD 4 p b 5), cw (zM p is nr (slV 6 127 q)), .chan 1 (([] : List Nt).map ntE), cr [], gB l o, cr [], cr [], cr [], cr [], cr [], cr [], cr [], cr [], cr [], cr [], cr [], cr [], cr [], cr [], cr [], cr []], [], (qN rfl), ⟨rfl, ⟨(by cases true <;> rfl), ⟨rfl, ⟨rfl, ⟨rfl, ⟨rfl, ⟨rfl, ⟨(by cases o <;> rfl), ⟨(by cases true <;> rfl), ⟨(by cases true <;> rfl), ⟨(by cases true <;> rfl), ⟨(by cases true <;> rfl), ⟨(by cases true <;> rfl), ⟨(by cases true <;> rfl), ⟨(by cases true <;> rfl), ⟨(by cases true <;> rfl), ⟨(by cases true <;> rfl), ⟨(by cases true <;> rfl), ⟨(by cases true <;> rfl), ⟨(by cases true <;> rfl), ⟨(by cases true <;> rfl), ⟨(by cases true <;> rfl), ⟨(by cases true <;> rfl), ⟨(by cases true <;> rfl), trivial⟩⟩⟩⟩⟩⟩⟩⟩⟩⟩⟩⟩⟩⟩⟩⟩⟩⟩⟩⟩⟩⟩⟩⟩, trivial, ?_⟩
 refine o_d 5 [(6, bv false), (5, .pointer none), (14, bv false), (13, .pointer none), (7, .tuple #[.pointer none, bv false])] (by kernel_rfl) (zG (zC (zR (zR (zV (o_d 1 [(15, bv false)] (by kernel_rfl) (zG (zC (zbW rfl (zaq (zC (zR ?_))))))))))))
 exact zV (o_d 2 [(4, bv false), (32, bv false)] (by kernel_rfl) (zG (zC (zaZ (⟨trivial, _, .inl rfl, [bv false], (qE rfl rfl), (zU rfl qA), .inr ⟨rfl, hu, rfl⟩⟩)))))
end Go.Rh

set_option maxHeartbeats 8000000
namespace Go.Rh
def zem (l : List Nt) (k : Int) (keep : Bool) : List Nt := if keep = true then l else l.eraseIdx k.toNat
def zjG (u b : Int) (x : qL × Bool) : Nt := ⟨u, b, qX x.1 x.2, false, true, e0, zH⟩
def zdl (p : qL) (is : Bool) (b : Int) (l : List Nt) (k : Int) (keep : Bool) : (qL × Bool) × List Nt :=
 if (atS l k).2 = true then (uhS p is b (atS l k).1, (if keep = true then l else l.eraseIdx k.toNat) ++ [zjG (atS l k).1.u b (uhS p is b (atS l k).1)]) else ((p, is), l)
theorem YDeliverBC {P : Program} (hc : zbB P) (h_yard_row_head_Note_at : zap P) (h_yard_row_head_Note_drop : zar P) (h_yard_row_yard_unit_at : zae P) (h_yard_unit_hear : zb7 P) (h_yard_unit_version : zbi P) (h_plane_Plane_Version : zaB P) (h_yard_unit_load : zbH P) (h_plane_Plane_Load : za9 P) (h_plane_maybe_api_Pool_lay : zad P) (h_wheel_Make : zbV P) (h_wheel_spun : zbw P) (h_sip_Words : zbC P) (h_sip_Of : zcP P) (h_sip_number_byte : zag P) (h_sip_state_take : zao P) (h_sip_state_rounds : qV P) (h_sip_state_round : qW P) (h_math_bits_RotateLeft64 : zY P) (h_pool_Apply : zaU P) (h_pool_may : za3 P) (h_pool_held : zaT P) (h_pool_fits : za1 P) (h_pool_Check : zaO P) (h_pool_placed : zau P) (h_cookie_Next : zaC P) (h_yard_row_head_Note_put : zaL P) (h_head_Head_Heard : zbA P) (n m i : Nat) (hn16 : n ≤ 16) (hi : i < n) (l : List Nt) (o : Gr) (ho : gOk l o) (hl : l.length ≤ 900000) (p : qL) (is : Bool) (nr : Nat → Int × Bool) (b : Int) (q : Option Nat) (k : Int) (keep : Bool) (hnt : (atS l k).2 = true → (atS l k).1.a = false ∧ (atS l k).1.u = (i : Nat)) (nt : Nt) (hn9 : (atS l k).1 = nt) :
    Env P "(*roundhouse/yard.Yard).Deliver" [pv 0 0, iv k, bv keep] ([cw (z8 1 (sv 2 0 n (n + m)) (gV 7 l.length o)), cr [], cr (zbc n (uf i 3 8) ++ zbq m), cw (qD 4 p b 5), cw (zM p is nr (slV 6 127 q)), .chan 1 (([] : List Nt).map ntE), cr [], gB l o, cr [], cr [], cr [], cr [], cr [], cr [], cr [], cr [], cr [], cr [], cr [], cr [], cr [], cr [], cr [], cr []]) (fun v h' => v = bv (atS l k).2 ∧ ∃ ld : Bool, (ld = false → (zdl p is b l k keep).1 = (p, is)) ∧ (ld = true → (zdl p is b l k keep).1.2 = true) ∧ PB n m i o (zdl p is b l k keep).2 (zdl p is b l k keep).1.1 (zdl p is b l k keep).1.2 nr b ld q (fun B c => B = slB zI (ii (zaI (zdl p is b l k keep).1.1)) (some c)) h') := by
 refine Env.by3 hc ?_
 unfold zb4
 show GC _ 24 _ _ ⟨reg [(0, pv 0 0), (1, iv k), (2, bv keep)], [cw (z8 1 (sv 2 0 n (n + m)) (gV 7 l.length o)), cr [], cr (zbc n (uf i 3 8) ++ zbq m), cw (qD 4 p b 5), cw (zM p is nr (slV 6 127 q)), .chan 1 (([] : List Nt).map ntE), cr [], gB l o, cr [], cr [], cr [], cr [], cr [], cr [], cr [], cr [], cr [], cr [], cr [], cr [], cr [], cr [], cr [], cr []]⟩
 refine zR (zV (o_d 1 [(6, bv false)] (by kernel_rfl) (zG (zC (zR (zV (o_d 4 [(17, iv k), (16, pv 0 2), (15, pv 0 0), (14, pv 0 0)] (by kernel_rfl) ?_)))))))
 rcases o with _ | ⟨c, t⟩
 ·skip
  refine zcc (zdn [0, 7, 1, 2] [cr (z8 2 (sv 3 0 n (n + m)) (gV 1 l.length none)), gB l none, cr [], cr []] [pv 0 2, iv k] (atN0C h_yard_row_head_Note_at n m k l ho) rfl rfl ⟨⟨_, rfl, z9 (.inl (zaA rfl rfl (zaa none rfl) (fun q => rfl)))⟩, ⟨⟨_, rfl, zcm ho⟩, ⟨⟨_, rfl, zJ⟩, ⟨⟨_, rfl, zJ⟩, trivial⟩⟩⟩⟩ (by decide) ?_)
  rintro v1 h1' ⟨rfl, rfl⟩
  rw [hn9]
  refine ⟨(zA zD (zA zD (zA zD (zA zD qC)))), .tuple #[ntE nt, bv ((atS l k).2)], [cw (z8 1 (sv 2 0 n (n + m)) (gV 7 l.length none)), cr [], cr (zbc n (uf i 3 8) ++ zbq m), cw (qD 4 p b 5), cw (zM p is nr (slV 6 127 q)), .chan 1 (([] : List Nt).map ntE), cr [], gB l none, cr [], cr [], cr [], cr [], cr [], cr [], cr [], cr [], cr [], cr [], cr [], cr [], cr [], cr [], cr [], cr []], [], (qN (all_cons (za8 nt.u nt.b nt.v nt.w nt.a nt.e nt.p) (all_cons rfl rfl))), ⟨rfl, ⟨(by cases true <;> rfl), ⟨rfl, ⟨rfl, ⟨rfl, ⟨rfl, ⟨rfl, ⟨(by cases none with | none => rfl | some y9 => exact zab ho), ⟨rfl, ⟨rfl, ⟨rfl, ⟨rfl, ⟨rfl, ⟨rfl, ⟨rfl, ⟨rfl, ⟨rfl, ⟨rfl, ⟨rfl, ⟨rfl, ⟨rfl, ⟨rfl, ⟨rfl, ⟨rfl, trivial⟩⟩⟩⟩⟩⟩⟩⟩⟩⟩⟩⟩⟩⟩⟩⟩⟩⟩⟩⟩⟩⟩⟩⟩, trivial, ?_⟩
  refine o_b 4 [(7, pv 24 0), (20, bv ((atS l k).2)), (19, ntE nt), (13, .tuple #[ntE nt, bv ((atS l k).2)])] [cw (z8 1 (sv 2 0 n (n + m)) (gV 7 l.length none)), cr [], cr (zbc n (uf i 3 8) ++ zbq m), cw (qD 4 p b 5), cw (zM p is nr (slV 6 127 q)), .chan 1 (([] : List Nt).map ntE), cr [], gB l none, cr [], cr [], cr [], cr [], cr [], cr [], cr [], cr [], cr [], cr [], cr [], cr [], cr [], cr [], cr [], cr [], cw (ntF 0 0 0 false false e0 zH)] (by kernel_rfl) (zc1 (by refine qQ (c' := ntL nt) rfl rfl rfl ?_ ?_ ?_; exact qF _ _ _ _ _ _ _; exact zdf (by omega); exact zbu) ?_)
  refine o_b 1 [(8, bv ((atS l k).2))] [cw (z8 1 (sv 2 0 n (n + m)) (gV 7 l.length none)), cr [], cr (zbc n (uf i 3 8) ++ zbq m), cw (qD 4 p b 5), cw (zM p is nr (slV 6 127 q)), .chan 1 (([] : List Nt).map ntE), cr [], gB l none, cr [], cr [], cr [], cr [], cr [], cr [], cr [], cr [], cr [], cr [], cr [], cr [], cr [], cr [], cr [], cr [], cw (ntL nt)] (by kernel_rfl) (zG (zC (zR (zR (zV (o_d 2 [(22, bv (!((atS l k).2))), (21, bv ((atS l k).2))] (by kernel_rfl) (zG (zC (zaj (t := !((atS l k).2)) rfl (fun _ => ?_) (fun q => by rw [(by rw [zf0 ho]; rfl : (!((atS l k).2)) = true)] at q; cases q))))))))))
  refine zR (zV (o_d 1 [(6, bv false)] (by kernel_rfl) (zG (zC (zaZ ?_)))))
  have hD : (zdl p is b l k keep) = ((p, is), l) := by simp [zdl, zjG, hn9, zf0 ho]
  have hT : (zdl p is b l k keep).1.1 = p ∧ (zdl p is b l k keep).1.2 = is ∧ (zdl p is b l k keep).2 = l := by rw [hD]; exact ⟨rfl, rfl, rfl⟩
  exact ⟨trivial, [bv false], (qE rfl rfl), (zU rfl qA), rfl, ⟨reg [], [cw (z8 1 (sv 2 0 n (n + m)) (gV 7 l.length none)), cr [], cr (zbc n (uf i 3 8) ++ zbq m), cw (qD 4 p b 5), cw (zM p is nr (slV 6 127 q)), .chan 1 (([] : List Nt).map ntE), cr [], gB l none, cr [], cr [], cr [], cr [], cr [], cr [], cr [], cr [], cr [], cr [], cr [], cr [], cr [], cr [], cr [], cr []]⟩, Wk.ren [0, 1, 2, 3, 4, 5, 6, 7, 8, 9, 10, 11, 12, 13, 14, 15, 16, 17, 18, 19, 20, 21, 22, 23] rfl rfl (by decide) trivial ⟨.inl (zas rfl rfl (zaa none rfl)), ⟨.inl rfl, ⟨.inl (zcG rfl (h16 rfl) hn16), ⟨.inl (za2 rfl rfl), ⟨.inl (zan (qY q rfl)), ⟨.inl (congrArg some (zak _).symm), ⟨.inl rfl, ⟨.inl (congrArg some (zab ho).symm), ⟨.inl rfl, ⟨.inl rfl, ⟨.inl rfl, ⟨.inl rfl, ⟨.inl rfl, ⟨.inl rfl, ⟨.inl rfl, ⟨.inl rfl, ⟨.inl rfl, ⟨.inl rfl, ⟨.inl rfl, ⟨.inl rfl, ⟨.inl rfl, ⟨.inl rfl, ⟨.inl rfl, ⟨.inl rfl, trivial⟩⟩⟩⟩⟩⟩⟩⟩⟩⟩⟩⟩⟩⟩⟩⟩⟩⟩⟩⟩⟩⟩⟩⟩, (by simp [one, zf0 ho]), false, (fun _ => by rw [hD]), (fun q => by cases q), (by rw [hT.1, hT.2.1, hT.2.2]; exact ⟨none, gB l none, 7, 6, q, [], ⟨ho, (fun _ => rfl), rfl, .inl ⟨rfl, rfl⟩, (by decide), .inl ⟨rfl, rfl, rfl⟩⟩⟩)⟩
 refine zcc (zdn [0, 7, 1, 2] [cr (z8 2 (sv 3 0 n (n + m)) (gV 1 l.length (some (c, t)))), gB l (some (c, t)), cr [], cr []] [pv 0 2, iv k] (atN1C h_yard_row_head_Note_at n m k l c t ho.1 ho.2.2) rfl rfl ⟨⟨_, rfl, z9 (.inl (zaA rfl rfl (zaa (some (c, t)) rfl) (fun q => rfl)))⟩, ⟨⟨_, rfl, zcm ho⟩, ⟨⟨_, rfl, zJ⟩, ⟨⟨_, rfl, zJ⟩, trivial⟩⟩⟩⟩ (by decide) ?_)
 rintro v1 h1' ⟨rfl, rfl⟩
 rw [hn9]
 refine ⟨(zA zD (zA zD (zA zD (zA zD qC)))), .tuple #[ntE nt, bv ((atS l k).2)], [cw (z8 1 (sv 2 0 n (n + m)) (gV 7 l.length (some (c, t)))), cr [], cr (zbc n (uf i 3 8) ++ zbq m), cw (qD 4 p b 5), cw (zM p is nr (slV 6 127 q)), .chan 1 (([] : List Nt).map ntE), cr [], gB l (some (c, t)), cr [], cr [], cr [], cr [], cr [], cr [], cr [], cr [], cr [], cr [], cr [], cr [], cr [], cr [], cr [], cr []], [], (qN (all_cons (za8 nt.u nt.b nt.v nt.w nt.a nt.e nt.p) (all_cons rfl rfl))), ⟨rfl, ⟨(by cases true <;> rfl), ⟨rfl, ⟨rfl, ⟨rfl, ⟨rfl, ⟨rfl, ⟨zab ho, ⟨rfl, ⟨rfl, ⟨rfl, ⟨rfl, ⟨rfl, ⟨rfl, ⟨rfl, ⟨rfl, ⟨rfl, ⟨rfl, ⟨rfl, ⟨rfl, ⟨rfl, ⟨rfl, ⟨rfl, ⟨rfl, trivial⟩⟩⟩⟩⟩⟩⟩⟩⟩⟩⟩⟩⟩⟩⟩⟩⟩⟩⟩⟩⟩⟩⟩⟩, trivial, ?_⟩
 refine o_b 4 [(7, pv 24 0), (20, bv ((atS l k).2)), (19, ntE nt), (13, .tuple #[ntE nt, bv ((atS l k).2)])] [cw (z8 1 (sv 2 0 n (n + m)) (gV 7 l.length (some (c, t)))), cr [], cr (zbc n (uf i 3 8) ++ zbq m), cw (qD 4 p b 5), cw (zM p is nr (slV 6 127 q)), .chan 1 (([] : List Nt).map ntE), cr [], gB l (some (c, t)), cr [], cr [], cr [], cr [], cr [], cr [], cr [], cr [], cr [], cr [], cr [], cr [], cr [], cr [], cr [], cr [], cw (ntF 0 0 0 false false e0 zH)] (by kernel_rfl) (zc1 (by refine qQ (c' := ntL nt) rfl rfl rfl ?_ ?_ ?_; exact qF _ _ _ _ _ _ _; exact zdf (by omega); exact zbu) ?_)
 refine o_b 1 [(8, bv ((atS l k).2))] [cw (z8 1 (sv 2 0 n (n + m)) (gV 7 l.length (some (c, t)))), cr [], cr (zbc n (uf i 3 8) ++ zbq m), cw (qD 4 p b 5), cw (zM p is nr (slV 6 127 q)), .chan 1 (([] : List Nt).map ntE), cr [], gB l (some (c, t)), cr [], cr [], cr [], cr [], cr [], cr [], cr [], cr [], cr [], cr [], cr [], cr [], cr [], cr [], cr [], cr [], cw (ntL nt)] (by kernel_rfl) (zG (zC (zR (zR (zV (o_d 2 [(22, bv (!((atS l k).2))), (21, bv ((atS l k).2))] (by kernel_rfl) (zG (zC (zaj (t := !((atS l k).2)) rfl (fun h1 => ?_) (fun h1 => ?_))))))))))
 ·skip
  have h2 : ((atS l k).2) = false := not_t h1
  refine zR (zV (o_d 1 [(6, bv false)] (by kernel_rfl) (zG (zC (zaZ ?_)))))
  have hD : (zdl p is b l k keep) = ((p, is), l) := by simp [zdl, zjG, hn9, h1, h2]
  have hT : (zdl p is b l k keep).1.1 = p ∧ (zdl p is b l k keep).1.2 = is ∧ (zdl p is b l k keep).2 = l := by rw [hD]; exact ⟨rfl, rfl, rfl⟩
  exact ⟨trivial, [bv false], (qE rfl rfl), (zU rfl qA), rfl, ⟨reg [], [cw (z8 1 (sv 2 0 n (n + m)) (gV 7 l.length (some (c, t)))), cr [], cr (zbc n (uf i 3 8) ++ zbq m), cw (qD 4 p b 5), cw (zM p is nr (slV 6 127 q)), .chan 1 (([] : List Nt).map ntE), cr [], gB l (some (c, t)), cr [], cr [], cr [], cr [], cr [], cr [], cr [], cr [], cr [], cr [], cr [], cr [], cr [], cr [], cr [], cr []]⟩, Wk.ren [0, 1, 2, 3, 4, 5, 6, 7, 8, 9, 10, 11, 12, 13, 14, 15, 16, 17, 18, 19, 20, 21, 22, 23] rfl rfl (by decide) trivial ⟨.inl (zas rfl rfl (zaa (some (c, t)) rfl)), ⟨.inl rfl, ⟨.inl (zcG rfl (h16 rfl) hn16), ⟨.inl (za2 rfl rfl), ⟨.inl (zan (qY q rfl)), ⟨.inl (congrArg some (zak _).symm), ⟨.inl rfl, ⟨.inl (congrArg some (zab ho).symm), ⟨.inl rfl, ⟨.inl rfl, ⟨.inl rfl, ⟨.inl rfl, ⟨.inl rfl, ⟨.inl rfl, ⟨.inl rfl, ⟨.inl rfl, ⟨.inl rfl, ⟨.inl rfl, ⟨.inl rfl, ⟨.inl rfl, ⟨.inl rfl, ⟨.inl rfl, ⟨.inl rfl, ⟨.inl rfl, trivial⟩⟩⟩⟩⟩⟩⟩⟩⟩⟩⟩⟩⟩⟩⟩⟩⟩⟩⟩⟩⟩⟩⟩⟩, (by simp [one, h1, h2]), false, (fun _ => by rw [hD]), (fun q => by cases q), (by rw [hT.1, hT.2.1, hT.2.2]; exact ⟨some (c, t), gB l (some (c, t)), 7, 6, q, [], ⟨ho, (fun z => by cases z), rfl, .inl ⟨rfl, rfl⟩, (by decide), .inl ⟨rfl, rfl, rfl⟩⟩⟩)⟩
 have h3 : ((atS l k).2) = true := not_f h1
 have hin : 0 ≤ k ∧ k < l.length := atS_in (by assumption)
 refine zaq (zC (gcut (fun s => (∃ (lz : List Nt), ∃ (cz : Nat), ∃ (tz : List Value), (gOk lz (some (cz, tz))) ∧ (lz = zem l k keep) ∧ (lz.length ≤ 900000) ∧ s = ⟨reg [(0, pv 0 0), (7, pv 24 0)], [cw (z8 1 (sv 2 0 n (n + m)) (gV 7 lz.length (some (cz, tz)))), cr [], cr (zbc n (uf i 3 8) ++ zbq m), cw (qD 4 p b 5), cw (zM p is nr (slV 6 127 q)), .chan 1 (([] : List Nt).map ntE), cr [], gB lz (some (cz, tz)), cr [], cr [], cr [], cr [], cr [], cr [], cr [], cr [], cr [], cr [], cr [], cr [], cr [], cr [], cr [], cr [], cw (ntL nt)]⟩) ∨ (∃ (lz : List Nt), ∃ (cz : Nat), ∃ (tz : List Value), (gOk lz (some (cz, tz))) ∧ (lz = zem l k keep) ∧ (lz.length ≤ 900000) ∧ s = ⟨reg [(0, pv 0 0), (7, pv 24 0)], [cw (z8 1 (sv 2 0 n (n + m)) (gV 25 lz.length (some (cz, tz)))), cr [], cr (zbc n (uf i 3 8) ++ zbq m), cw (qD 4 p b 5), cw (zM p is nr (slV 6 127 q)), .chan 1 (([] : List Nt).map ntE), cr [], gB l (some (c, t)), cr [], cr [], cr [], cr [], cr [], cr [], cr [], cr [], cr [], cr [], cr [], cr [], cr [], cr [], cr [], cr [], cw (ntL nt), gB lz (some (cz, tz))]⟩)) ?_ ?_))
 ·skip
  refine zR (zV (o_d 2 [(24, bv (!keep)), (23, bv keep)] (by kernel_rfl) (zG (zC (zaj (t := !keep) rfl (fun h4 => ?_) (fun h4 => ?_))))))
  ·skip
   have h5 : keep = false := not_t h4
   refine zV (o_d 4 [(28, iv k), (27, pv 0 2), (26, pv 0 0), (25, pv 0 0)] (by kernel_rfl) (zcc (zdn [0, 7, 1, 2] [cw (z8 2 (sv 3 0 n (n + m)) (gV 1 l.length (some (c, t)))), gB l (some (c, t)), cr [], cr []] [pv 0 2, iv k] (dropNC h_yard_row_head_Note_drop l (some (c, t)) k n m ho (hin) (by omega)) rfl rfl ⟨⟨_, rfl, z9 (.inl (zaA rfl rfl (zaa (some (c, t)) rfl) (fun q => rfl)))⟩, ⟨⟨_, rfl, zcm ho⟩, ⟨⟨_, rfl, zJ⟩, ⟨⟨_, rfl, zJ⟩, trivial⟩⟩⟩⟩ (by decide) ?_)))
   rintro v1 h1' ⟨rfl, o6, s7, g8, z11⟩
   rcases o6 with _ | ⟨c9, t10⟩
   ·cases s7
   rcases z11 with rfl | rfl
   ·skip
    refine ⟨(zA qM (zA (fun h => by cases h) (zA zD (zA zD qC)))), .tuple #[], [cw (z8 1 (sv 2 0 n (n + m)) (gV 7 ((l.eraseIdx k.toNat).length) (some (c9, t10)))), cr [], cr (zbc n (uf i 3 8) ++ zbq m), cw (qD 4 p b 5), cw (zM p is nr (slV 6 127 q)), .chan 1 (([] : List Nt).map ntE), cr [], gB (l.eraseIdx k.toNat) (some (c9, t10)), cr [], cr [], cr [], cr [], cr [], cr [], cr [], cr [], cr [], cr [], cr [], cr [], cr [], cr [], cr [], cr [], cw (ntL nt)], [], (by simp [zbF]), ⟨zaF rfl rfl (zaa (some (c9, t10)) rfl), ⟨(by cases true <;> rfl), ⟨rfl, ⟨rfl, ⟨rfl, ⟨rfl, ⟨rfl, ⟨zab g8, ⟨rfl, ⟨rfl, ⟨rfl, ⟨rfl, ⟨rfl, ⟨rfl, ⟨rfl, ⟨rfl, ⟨rfl, ⟨rfl, ⟨rfl, ⟨rfl, ⟨rfl, ⟨rfl, ⟨rfl, ⟨rfl, ⟨rfl, trivial⟩⟩⟩⟩⟩⟩⟩⟩⟩⟩⟩⟩⟩⟩⟩⟩⟩⟩⟩⟩⟩⟩⟩⟩⟩, trivial, ?_⟩
    exact zG (z5 [(0, pv 0 0), (7, pv 24 0)] (by kernel_rfl) (.inl ⟨(l.eraseIdx k.toNat), c9, t10, g8, (by simp [zem, h1, h3, h4, h5]), (by first | omega | (simp [List.length_eraseIdx]; split <;> omega)), rfl⟩))
   refine ⟨(zA qM (zA zD (zA zD (zA zD qC)))), .tuple #[], [cw (z8 1 (sv 2 0 n (n + m)) (gV 25 ((l.eraseIdx k.toNat).length) (some (c9, t10)))), cr [], cr (zbc n (uf i 3 8) ++ zbq m), cw (qD 4 p b 5), cw (zM p is nr (slV 6 127 q)), .chan 1 (([] : List Nt).map ntE), cr [], gB l (some (c, t)), cr [], cr [], cr [], cr [], cr [], cr [], cr [], cr [], cr [], cr [], cr [], cr [], cr [], cr [], cr [], cr [], cw (ntL nt)], [gB (l.eraseIdx k.toNat) (some (c9, t10))], (by simp [zbF]), ⟨zaF rfl rfl (zaa (some (c9, t10)) rfl), ⟨(by cases true <;> rfl), ⟨rfl, ⟨rfl, ⟨rfl, ⟨rfl, ⟨rfl, ⟨zab ho, ⟨rfl, ⟨rfl, ⟨rfl, ⟨rfl, ⟨rfl, ⟨rfl, ⟨rfl, ⟨rfl, ⟨rfl, ⟨rfl, ⟨rfl, ⟨rfl, ⟨rfl, ⟨rfl, ⟨rfl, ⟨rfl, ⟨rfl, trivial⟩⟩⟩⟩⟩⟩⟩⟩⟩⟩⟩⟩⟩⟩⟩⟩⟩⟩⟩⟩⟩⟩⟩⟩⟩, ⟨(zab g8), trivial⟩, ?_⟩
   exact zG (z5 [(0, pv 0 0), (7, pv 24 0)] (by kernel_rfl) (.inr ⟨(l.eraseIdx k.toNat), c9, t10, g8, (by simp [zem, h1, h3, h4, h5]), (by first | omega | (simp [List.length_eraseIdx]; split <;> omega)), rfl⟩))
  have h12 : keep = true := not_f h4
  exact zaq (z5 [(0, pv 0 0), (7, pv 24 0)] (by kernel_rfl) (.inl ⟨l, c, t, ho, (by simp [zem, h1, h3, h4, h12]), (by first | omega | (simp [List.length_eraseIdx]; split <;> omega)), rfl⟩))
 rintro s (⟨lz, cz, tz, hz, hlz, hzn, rfl⟩ | ⟨lz, cz, tz, hz, hlz, hzn, rfl⟩)
 ·skip
  refine zR (zR (zV (o_d 1 [(30, pv 24 4)] (by kernel_rfl) (o_s (by refine z4 (v := bv nt.a) rfl rfl ?_; exact zdT rfl) ?_))))
  refine zG (zC (zaj (t := nt.a) rfl (fun q => by rw [(hn9 ▸ (hnt (by assumption)).1 : (nt.a) = false)] at q; cases q) (fun _ => ?_)))
  refine zaq (zC (zR (zR (zbx [cw (z8 1 (sv 2 0 n (n + m)) (gV 7 lz.length (some (cz, tz)))), cr [], cr (zbc n (uf i 3 8) ++ zbq m), cw (qD 4 p b 5), cw (zM p is nr (slV 6 127 q)), .chan 1 (([] : List Nt).map ntE), cr [], gB lz (some (cz, tz)), cr [], cr [], cr [], cr [], cr [], cr [], cr [], cr [], cr [], cr [], cr [], cr [], cr [], cr [], cr [], cr [], cw (ntL nt)] (by kernel_rfl) (d_n 4 4 25 [(42, pv 24 0), (41, pv 0 1), (40, pv 0 0), (39, pv 0 0)] [cw (z8 1 (sv 2 0 n (n + m)) (gV 7 lz.length (some (cz, tz)))), cr [], cr (zbc n (uf i 3 8) ++ zbq m), cw (qD 4 p b 5), cw (zM p is nr (slV 6 127 q)), .chan 1 (([] : List Nt).map ntE), cr [], gB lz (some (cz, tz)), cr [], cr [], cr [], cr [], cr [], cr [], cr [], cr [], cr [], cr [], cr [], cr [], cr [], cr [], cr [], cr [], cw (ntL nt)] [] (by kernel_rfl) rfl rfl (d_s rfl rfl rfl (by kernel_rfl) (by refine z4 (v := iv nt.u) rfl rfl ?_; exact zdT rfl) ?_))))))
  have hui : nt.u = (i : Nat) := hn9 ▸ (hnt (by assumption)).2
  refine zgM [0, 2, 1, 7, 3, 8, 9, 10, 11, 12, 13, 14, 15, 16, 17, 18, 19, 20, 21, 22, 23] [cr (z8 2 (sv 1 0 n (n + m)) (gV 3 lz.length (some (cz, tz)))), cr (zbc n (uf i 4 5) ++ zbq m), cr [], cr [], cr [], cr [], cr [], cr [], cr [], cr [], cr [], cr [], cr [], cr [], cr [], cr [], cr [], cr [], cr [], cr [], cr []] [pv 0 1, iv nt.u] (atU1C h_yard_row_yard_unit_at n m i lz.length (some (cz, tz)) nt.u hui hi) rfl rfl ⟨⟨_, rfl, z9 (.inl (zaA rfl rfl (zaa (some (cz, tz)) rfl) (fun q => rfl)))⟩, ⟨⟨_, rfl, z9 (.inl (zeU rfl (h16 rfl) hn16 (fun q => q)))⟩, ⟨⟨_, rfl, zJ⟩, ⟨⟨_, rfl, zdH (some (cz, tz))⟩, ⟨⟨_, rfl, zJ⟩, ⟨⟨_, rfl, zJ⟩, ⟨⟨_, rfl, zJ⟩, ⟨⟨_, rfl, zJ⟩, ⟨⟨_, rfl, zJ⟩, ⟨⟨_, rfl, zJ⟩, ⟨⟨_, rfl, zJ⟩, ⟨⟨_, rfl, zJ⟩, ⟨⟨_, rfl, zJ⟩, ⟨⟨_, rfl, zJ⟩, ⟨⟨_, rfl, zJ⟩, ⟨⟨_, rfl, zJ⟩, ⟨⟨_, rfl, zJ⟩, ⟨⟨_, rfl, zJ⟩, ⟨⟨_, rfl, zJ⟩, ⟨⟨_, rfl, zJ⟩, ⟨⟨_, rfl, zJ⟩, trivial⟩⟩⟩⟩⟩⟩⟩⟩⟩⟩⟩⟩⟩⟩⟩⟩⟩⟩⟩⟩⟩ (by decide) ⟨_, _, ⟨rfl, rfl⟩, Nat.le_refl _, zbf [_, _, _, _, _, _, _, _, _, _, _, _, _, _, _, _, _, _, _, _, _] []⟩ ?_ (by kernel_rfl)
  rintro v1 h1' ⟨rfl, rfl⟩
  refine ⟨(zA zD (zA zD (zA zD (zA zD (zA zD (zA zD (zA zD (zA zD (zA zD (zA zD (zA zD (zA zD (zA zD (zA zD (zA zD (zA zD (zA zD (zA zD (zA zD (zA zD (zA zD qC))))))))))))))))))))), .tuple #[pv 3 0, bv true], [cw (z8 1 (sv 2 0 n (n + m)) (gV 7 lz.length (some (cz, tz)))), cr [], cr (zbc n (uf i 3 8) ++ zbq m), cw (qD 4 p b 5), cw (zM p is nr (slV 6 127 q)), .chan 1 (([] : List Nt).map ntE), cr [], gB lz (some (cz, tz)), cr [], cr [], cr [], cr [], cr [], cr [], cr [], cr [], cr [], cr [], cr [], cr [], cr [], cr [], cr [], cr [], cw (ntL nt)], [], ((zgc _).trans rfl), ⟨rfl, ⟨(by cases true <;> rfl), ⟨rfl, ⟨rfl, ⟨rfl, ⟨rfl, ⟨rfl, ⟨rfl, ⟨(by cases true <;> rfl), ⟨(by cases true <;> rfl), ⟨(by cases true <;> rfl), ⟨(by cases true <;> rfl), ⟨(by cases true <;> rfl), ⟨(by cases true <;> rfl), ⟨(by cases true <;> rfl), ⟨(by cases true <;> rfl), ⟨(by cases true <;> rfl), ⟨(by cases true <;> rfl), ⟨(by cases true <;> rfl), ⟨(by cases true <;> rfl), ⟨(by cases true <;> rfl), ⟨(by cases true <;> rfl), ⟨(by cases true <;> rfl), ⟨(by cases true <;> rfl), ⟨rfl, trivial⟩⟩⟩⟩⟩⟩⟩⟩⟩⟩⟩⟩⟩⟩⟩⟩⟩⟩⟩⟩⟩⟩⟩⟩⟩, trivial, ?_⟩
  refine d_n 5 11 25 [(10, bv true), (9, pv 3 0), (46, bv true), (45, pv 3 0), (38, .tuple #[pv 3 0, bv true])] [cw (z8 1 (sv 2 0 n (n + m)) (gV 7 lz.length (some (cz, tz)))), cr [], cr (zbc n (uf i 3 8) ++ zbq m), cw (qD 4 p b 5), cw (zM p is nr (slV 6 127 q)), .chan 1 (([] : List Nt).map ntE), cr [], gB lz (some (cz, tz)), cr [], cr [], cr [], cr [], cr [], cr [], cr [], cr [], cr [], cr [], cr [], cr [], cr [], cr [], cr [], cr [], cw (ntL nt)] [⟨5, [0, 2, 1, 7, 3, 8, 9, 10, 11, 12, 13, 14, 15, 16, 17, 18, 19, 20, 21, 22, 23], [], some 25⟩, ⟨4, [24], [], none⟩] (by kernel_rfl) rfl rfl (zb2 (zC (zR (zV (o_d 1 [(47, bv true)] (by kernel_rfl) (zG (zC (zer rfl (zR (zbx [cw (z8 1 (sv 2 0 n (n + m)) (gV 7 lz.length (some (cz, tz)))), cr [], cr (zbc n (uf i 3 8) ++ zbq m), cw (qD 4 p b 5), cw (zM p is nr (slV 6 127 q)), .chan 1 (([] : List Nt).map ntE), cr [], gB lz (some (cz, tz)), cr [], cr [], cr [], cr [], cr [], cr [], cr [], cr [], cr [], cr [], cr [], cr [], cr [], cr [], cr [], cr [], cw (ntL nt)] (by kernel_rfl) (d_n 3 3 25 [(50, pv 3 332), (49, pv 3 0), (48, pv 3 0)] [cw (z8 1 (sv 2 0 n (n + m)) (gV 7 lz.length (some (cz, tz)))), cr [], cr (zbc n (uf i 3 8) ++ zbq m), cw (qD 4 p b 5), cw (zM p is nr (slV 6 127 q)), .chan 1 (([] : List Nt).map ntE), cr [], gB lz (some (cz, tz)), cr [], cr [], cr [], cr [], cr [], cr [], cr [], cr [], cr [], cr [], cr [], cr [], cr [], cr [], cr [], cr [], cw (ntL nt)] [] (by kernel_rfl) rfl rfl (d_s rfl rfl rfl (by kernel_rfl) (by refine z4 (v := .chan (some 5)) rfl rfl ?_; exact (zdQ 1).trans rfl) ?_))))))))))))
  refine d_s rfl rfl rfl (by kernel_rfl) (by refine z4 (v := ntE nt) rfl rfl ?_; exact zbJ nt.u nt.b nt.v nt.w nt.a nt.e nt.p) ?_
  refine d_snd (k := 5) (b := ([] : List Nt).map ntE) (b2 := ([nt]).map ntE) rfl rfl rfl (by rw [List.length_map]; simp) rfl rfl ?_
  refine zb2 (zC (zR (zV (o_d 2 [(55, pv 24 0), (54, pv 3 0)] (by kernel_rfl) (o_s (by refine z4 (v := iv nt.u) rfl rfl ?_; exact zdT rfl) ?_)))))
  refine zcc (zdn [3, 4, 5, 6] [cw (qD 1 p b 2), cw (zM p is nr (slV 3 127 q)), .chan 1 (([nt]).map ntE), cr []] [pv 0 0, iv nt.u] (UHearC h_yard_unit_hear h_yard_unit_version h_plane_Plane_Version h_yard_unit_load h_plane_Plane_Load h_plane_maybe_api_Pool_lay h_wheel_Make h_wheel_spun h_sip_Words h_sip_Of h_sip_number_byte h_sip_state_take h_sip_state_rounds h_sip_state_round h_math_bits_RotateLeft64 h_pool_Apply h_pool_may h_pool_held h_pool_fits h_pool_Check h_pool_placed h_cookie_Next p is nr q b nt nt.u) rfl rfl ⟨⟨_, rfl, z9 (.inl (zbO rfl rfl (fun q => rfl)))⟩, ⟨⟨_, rfl, z9 (.inl (zaW (qY q rfl) (fun q => rfl)))⟩, ⟨⟨_, rfl, z9 (.inl (zcz _))⟩, ⟨⟨_, rfl, zJ⟩, trivial⟩⟩⟩⟩ (by decide) ?_)
  rintro v1 h1' ⟨rfl, ⟨hE13, rfl⟩ | ⟨hE13, m14, rfl⟩⟩
  ·skip
   refine ⟨(zA zD (zA zD (zA (fun h => by cases h) (zA zD qC)))), .tuple #[ntV nt.u b (qX (uhS p is b nt).1 (uhS p is b nt).2) false true e0 zH, bv true], [cw (z8 1 (sv 2 0 n (n + m)) (gV 7 lz.length (some (cz, tz)))), cr [], cr (zbc n (uf i 3 8) ++ zbq m), cw (qD 4 p b 5), cw (zM p is nr (slV 6 127 q)), .chan 1 (([] : List Nt).map ntE), cr [], gB lz (some (cz, tz)), cr [], cr [], cr [], cr [], cr [], cr [], cr [], cr [], cr [], cr [], cr [], cr [], cr [], cr [], cr [], cr [], cw (ntL nt)], [], (qN (all_cons (za8 nt.u b (qX (uhS p is b nt).1 (uhS p is b nt).2) false true e0 zH) (all_cons rfl rfl))), ⟨rfl, ⟨rfl, ⟨rfl, ⟨zcF rfl rfl, ⟨zbo (qY q rfl), ⟨zak _, ⟨(by cases true <;> rfl), ⟨rfl, ⟨rfl, ⟨rfl, ⟨rfl, ⟨rfl, ⟨rfl, ⟨rfl, ⟨rfl, ⟨rfl, ⟨rfl, ⟨rfl, ⟨rfl, ⟨rfl, ⟨rfl, ⟨rfl, ⟨rfl, ⟨rfl, ⟨rfl, trivial⟩⟩⟩⟩⟩⟩⟩⟩⟩⟩⟩⟩⟩⟩⟩⟩⟩⟩⟩⟩⟩⟩⟩⟩⟩, trivial, ?_⟩
   refine o_b 4 [(11, pv 25 0), (59, bv true), (58, ntV nt.u b (qX (uhS p is b nt).1 (uhS p is b nt).2) false true e0 zH), (53, .tuple #[ntV nt.u b (qX (uhS p is b nt).1 (uhS p is b nt).2) false true e0 zH, bv true])] [cw (z8 1 (sv 2 0 n (n + m)) (gV 7 lz.length (some (cz, tz)))), cr [], cr (zbc n (uf i 3 8) ++ zbq m), cw (qD 4 p b 5), cw (zM p is nr (slV 6 127 q)), .chan 1 (([] : List Nt).map ntE), cr [], gB lz (some (cz, tz)), cr [], cr [], cr [], cr [], cr [], cr [], cr [], cr [], cr [], cr [], cr [], cr [], cr [], cr [], cr [], cr [], cw (ntL nt), cw (ntF 0 0 0 false false e0 zH)] (by kernel_rfl) (zc1 (by refine qQ (c' := ntF nt.u b (qX (uhS p is b nt).1 (uhS p is b nt).2) false true e0 zH) rfl rfl rfl ?_ ?_ ?_; exact qF _ _ _ _ _ _ _; exact zdf (by omega); exact zbu) ?_)
   refine o_b 1 [(12, bv true)] [cw (z8 1 (sv 2 0 n (n + m)) (gV 7 lz.length (some (cz, tz)))), cr [], cr (zbc n (uf i 3 8) ++ zbq m), cw (qD 4 p b 5), cw (zM p is nr (slV 6 127 q)), .chan 1 (([] : List Nt).map ntE), cr [], gB lz (some (cz, tz)), cr [], cr [], cr [], cr [], cr [], cr [], cr [], cr [], cr [], cr [], cr [], cr [], cr [], cr [], cr [], cr [], cw (ntL nt), cw (ntF nt.u b (qX (uhS p is b nt).1 (uhS p is b nt).2) false true e0 zH)] (by kernel_rfl) (zG (z5 [(12, bv true), (11, pv 25 0), (0, pv 0 0)] (by kernel_rfl) (zR (zV (o_d 1 [(60, bv true)] (by kernel_rfl) (zG (zC (zer rfl (zbx [cw (z8 1 (sv 2 0 n (n + m)) (gV 7 lz.length (some (cz, tz)))), cr [], cr (zbc n (uf i 3 8) ++ zbq m), cw (qD 4 p b 5), cw (zM p is nr (slV 6 127 q)), .chan 1 (([] : List Nt).map ntE), cr [], gB lz (some (cz, tz)), cr [], cr [], cr [], cr [], cr [], cr [], cr [], cr [], cr [], cr [], cr [], cr [], cr [], cr [], cr [], cr [], cw (ntL nt), cw (ntF nt.u b (qX (uhS p is b nt).1 (uhS p is b nt).2) false true e0 zH), .gone] (by kernel_rfl) (d_n 3 3 26 [(63, pv 0 2), (62, pv 0 0), (61, pv 0 0)] [cw (z8 1 (sv 2 0 n (n + m)) (gV 7 lz.length (some (cz, tz)))), cr [], cr (zbc n (uf i 3 8) ++ zbq m), cw (qD 4 p b 5), cw (zM p is nr (slV 6 127 q)), .chan 1 (([] : List Nt).map ntE), cr [], gB lz (some (cz, tz)), cr [], cr [], cr [], cr [], cr [], cr [], cr [], cr [], cr [], cr [], cr [], cr [], cr [], cr [], cr [], cr [], cw (ntL nt), cw (ntF nt.u b (qX (uhS p is b nt).1 (uhS p is b nt).2) false true e0 zH), .gone] [] (by kernel_rfl) rfl rfl (d_s rfl rfl rfl (by kernel_rfl) (by refine z4 (v := ntV nt.u b (qX (uhS p is b nt).1 (uhS p is b nt).2) false true e0 zH) rfl rfl ?_; exact zbJ nt.u b (qX (uhS p is b nt).1 (uhS p is b nt).2) false true e0 zH) ?_)))))))))))
   refine d_mk (B := cw (ntF nt.u b (qX (uhS p is b nt).1 (uhS p is b nt).2) false true e0 zH)) rfl (zg4 rfl (qF _ _ _ _ _ _ _)) rfl (by kernel_rfl) (d_clHW [0, 7, 26] [0, 7, 26, 1, 2] [cw (z8 3 (sv 4 0 n (n + m)) (gV 1 lz.length (some (cz, tz)))), gB lz (some (cz, tz)), slB zNt (zbb ([(⟨nt.u, b, qX (uhS p is b nt).1 (uhS p is b nt).2, false, true, e0, zH⟩ : Nt)])) (some 0), cr [], cr []] [pv 0 2, slV 2 (([(⟨nt.u, b, qX (uhS p is b nt).1 (uhS p is b nt).2, false, true, e0, zH⟩ : Nt)]).length) (some 0)] (putNC h_yard_row_head_Note_put lz ([(⟨nt.u, b, qX (uhS p is b nt).1 (uhS p is b nt).2, false, true, e0, zH⟩ : Nt)]) (some (cz, tz)) (some 0) n m hz (fun z => by cases z) (by first | (simp; omega) | (simp [List.length_eraseIdx]; split <;> omega))) (wr_put ..) rfl rfl ⟨⟨_, rfl, z9 (.inl (zaA rfl rfl (zaa (some (cz, tz)) rfl) (fun q => rfl)))⟩, ⟨⟨_, rfl, zcm hz⟩, ⟨⟨_, rfl, zik⟩, ⟨⟨_, rfl, zJ⟩, ⟨⟨_, rfl, zJ⟩, trivial⟩⟩⟩⟩⟩ (by decide) (ziU lz ([(⟨nt.u, b, qX (uhS p is b nt).1 (uhS p is b nt).2, false, true, e0, zH⟩ : Nt)]) (some (cz, tz)) (some 0) n m) ?_ (by kernel_rfl))
   rintro v1 h1' ⟨rfl, o15, g17, ⟨s16, rfl⟩ | ⟨s16, rfl⟩⟩
   ·skip
    refine ⟨(zA qM (zA (zgj s16) (zA zD (zA zD (zA zD qC))))), .tuple #[], [cw (z8 1 (sv 2 0 n (n + m)) (gV 7 ((lz ++ ([(⟨nt.u, b, qX (uhS p is b nt).1 (uhS p is b nt).2, false, true, e0, zH⟩ : Nt)])).length) o15)), cr [], cr (zbc n (uf i 3 8) ++ zbq m), cw (qD 4 p b 5), cw (zM p is nr (slV 6 127 q)), .chan 1 (([] : List Nt).map ntE), cr [], gB (lz ++ ([(⟨nt.u, b, qX (uhS p is b nt).1 (uhS p is b nt).2, false, true, e0, zH⟩ : Nt)])) o15, cr [], cr [], cr [], cr [], cr [], cr [], cr [], cr [], cr [], cr [], cr [], cr [], cr [], cr [], cr [], cr [], cw (ntL nt), cw (ntF nt.u b (qX (uhS p is b nt).1 (uhS p is b nt).2) false true e0 zH), cw (ntF nt.u b (qX (uhS p is b nt).1 (uhS p is b nt).2) false true e0 zH)], [], (by simp [zbF]), ⟨zaF rfl rfl (zaa o15 rfl), ⟨(by cases true <;> rfl), ⟨rfl, ⟨rfl, ⟨rfl, ⟨rfl, ⟨rfl, ⟨(by cases o15 with | none => rfl | some y9 => exact zab g17), ⟨rfl, ⟨rfl, ⟨rfl, ⟨rfl, ⟨rfl, ⟨rfl, ⟨rfl, ⟨rfl, ⟨rfl, ⟨rfl, ⟨rfl, ⟨rfl, ⟨rfl, ⟨rfl, ⟨rfl, ⟨rfl, ⟨rfl, ⟨rfl, ⟨zfB, trivial⟩⟩⟩⟩⟩⟩⟩⟩⟩⟩⟩⟩⟩⟩⟩⟩⟩⟩⟩⟩⟩⟩⟩⟩⟩⟩⟩, trivial, ?_⟩
    refine zb2 (zC (zR (zV (o_d 1 [(6, bv true)] (by kernel_rfl) (zG (zC (zaZ ?_)))))))
    have hD : (zdl p is b l k keep) = ((uhS p is b nt), (lz ++ ([(⟨nt.u, b, qX (uhS p is b nt).1 (uhS p is b nt).2, false, true, e0, zH⟩ : Nt)]))) := by simp [zdl, zjG, hn9, h1, h3, hlz, zem]
    have hT : (zdl p is b l k keep).1.1 = p ∧ (zdl p is b l k keep).1.2 = is ∧ (zdl p is b l k keep).2 = (lz ++ ([(⟨nt.u, b, qX (uhS p is b nt).1 (uhS p is b nt).2, false, true, e0, zH⟩ : Nt)])) := by rw [hD]; exact ⟨congrArg Prod.fst hE13, congrArg Prod.snd hE13, rfl⟩
    exact ⟨trivial, [bv true], (qE rfl rfl), (zU rfl qA), rfl, ⟨reg [], [cw (z8 1 (sv 2 0 n (n + m)) (gV 7 ((lz ++ ([(⟨nt.u, b, qX (uhS p is b nt).1 (uhS p is b nt).2, false, true, e0, zH⟩ : Nt)])).length) o15)), cr [], cr (zbc n (uf i 3 8) ++ zbq m), cw (qD 4 p b 5), cw (zM p is nr (slV 6 127 q)), .chan 1 (([] : List Nt).map ntE), cr [], gB (lz ++ ([(⟨nt.u, b, qX (uhS p is b nt).1 (uhS p is b nt).2, false, true, e0, zH⟩ : Nt)])) o15, cr [], cr [], cr [], cr [], cr [], cr [], cr [], cr [], cr [], cr [], cr [], cr [], cr [], cr [], cr [], cr []]⟩, Wk.ren [0, 1, 2, 3, 4, 5, 6, 7, 8, 9, 10, 11, 12, 13, 14, 15, 16, 17, 18, 19, 20, 21, 22, 23] rfl rfl (by decide) trivial ⟨.inl (zas rfl rfl (zaa o15 rfl)), ⟨.inl rfl, ⟨.inl (zcG rfl (h16 rfl) hn16), ⟨.inl (za2 rfl rfl), ⟨.inl (zan (qY q rfl)), ⟨.inl (congrArg some (zak _).symm), ⟨.inl rfl, ⟨.inl (congrArg some (zab g17).symm), ⟨.inl rfl, ⟨.inl rfl, ⟨.inl rfl, ⟨.inl rfl, ⟨.inl rfl, ⟨.inl rfl, ⟨.inl rfl, ⟨.inl rfl, ⟨.inl rfl, ⟨.inl rfl, ⟨.inl rfl, ⟨.inl rfl, ⟨.inl rfl, ⟨.inl rfl, ⟨.inl rfl, ⟨.inl rfl, trivial⟩⟩⟩⟩⟩⟩⟩⟩⟩⟩⟩⟩⟩⟩⟩⟩⟩⟩⟩⟩⟩⟩⟩⟩, (by simp [one, h1, h3]), false, (fun _ => by rw [hD]; exact hE13), (fun q => by cases q), (by rw [hT.1, hT.2.1, hT.2.2]; exact ⟨o15, gB (lz ++ ([(⟨nt.u, b, qX (uhS p is b nt).1 (uhS p is b nt).2, false, true, e0, zH⟩ : Nt)])) o15, 7, 6, q, [], ⟨g17, (fun z => by cases z), rfl, .inl ⟨rfl, rfl⟩, (by decide), .inl ⟨rfl, rfl, rfl⟩⟩⟩)⟩
   refine ⟨(zA qM (zA zD (zA zD (zA zD (zA zD qC))))), .tuple #[], [cw (z8 1 (sv 2 0 n (n + m)) (gV 27 ((lz ++ ([(⟨nt.u, b, qX (uhS p is b nt).1 (uhS p is b nt).2, false, true, e0, zH⟩ : Nt)])).length) o15)), cr [], cr (zbc n (uf i 3 8) ++ zbq m), cw (qD 4 p b 5), cw (zM p is nr (slV 6 127 q)), .chan 1 (([] : List Nt).map ntE), cr [], gB lz (some (cz, tz)), cr [], cr [], cr [], cr [], cr [], cr [], cr [], cr [], cr [], cr [], cr [], cr [], cr [], cr [], cr [], cr [], cw (ntL nt), cw (ntF nt.u b (qX (uhS p is b nt).1 (uhS p is b nt).2) false true e0 zH), cw (ntF nt.u b (qX (uhS p is b nt).1 (uhS p is b nt).2) false true e0 zH)], [gB (lz ++ ([(⟨nt.u, b, qX (uhS p is b nt).1 (uhS p is b nt).2, false, true, e0, zH⟩ : Nt)])) o15], (by simp [zbF]), ⟨zaF rfl rfl (zaa o15 rfl), ⟨(by cases true <;> rfl), ⟨rfl, ⟨rfl, ⟨rfl, ⟨rfl, ⟨rfl, ⟨zab hz, ⟨rfl, ⟨rfl, ⟨rfl, ⟨rfl, ⟨rfl, ⟨rfl, ⟨rfl, ⟨rfl, ⟨rfl, ⟨rfl, ⟨rfl, ⟨rfl, ⟨rfl, ⟨rfl, ⟨rfl, ⟨rfl, ⟨rfl, ⟨rfl, ⟨zfB, trivial⟩⟩⟩⟩⟩⟩⟩⟩⟩⟩⟩⟩⟩⟩⟩⟩⟩⟩⟩⟩⟩⟩⟩⟩⟩⟩⟩, ⟨(zab g17), trivial⟩, ?_⟩
   refine zb2 (zC (zR (zV (o_d 1 [(6, bv true)] (by kernel_rfl) (zG (zC (zaZ ?_)))))))
   have hD : (zdl p is b l k keep) = ((uhS p is b nt), (lz ++ ([(⟨nt.u, b, qX (uhS p is b nt).1 (uhS p is b nt).2, false, true, e0, zH⟩ : Nt)]))) := by simp [zdl, zjG, hn9, h1, h3, hlz, zem]
   have hT : (zdl p is b l k keep).1.1 = p ∧ (zdl p is b l k keep).1.2 = is ∧ (zdl p is b l k keep).2 = (lz ++ ([(⟨nt.u, b, qX (uhS p is b nt).1 (uhS p is b nt).2, false, true, e0, zH⟩ : Nt)])) := by rw [hD]; exact ⟨congrArg Prod.fst hE13, congrArg Prod.snd hE13, rfl⟩
   exact ⟨trivial, [bv true], (qE rfl rfl), (zU rfl qA), rfl, ⟨reg [], [cw (z8 1 (sv 2 0 n (n + m)) (gV 24 ((lz ++ ([(⟨nt.u, b, qX (uhS p is b nt).1 (uhS p is b nt).2, false, true, e0, zH⟩ : Nt)])).length) o15)), cr [], cr (zbc n (uf i 3 8) ++ zbq m), cw (qD 4 p b 5), cw (zM p is nr (slV 6 127 q)), .chan 1 (([] : List Nt).map ntE), cr [], gB lz (some (cz, tz)), cr [], cr [], cr [], cr [], cr [], cr [], cr [], cr [], cr [], cr [], cr [], cr [], cr [], cr [], cr [], cr [], gB (lz ++ ([(⟨nt.u, b, qX (uhS p is b nt).1 (uhS p is b nt).2, false, true, e0, zH⟩ : Nt)])) o15]⟩, Wk.ren [0, 1, 2, 3, 4, 5, 6, 7, 8, 9, 10, 11, 12, 13, 14, 15, 16, 17, 18, 19, 20, 21, 22, 23, 27] rfl rfl (by decide) trivial ⟨.inl (zas rfl rfl (zaa o15 rfl)), ⟨.inl rfl, ⟨.inl (zcG rfl (h16 rfl) hn16), ⟨.inl (za2 rfl rfl), ⟨.inl (zan (qY q rfl)), ⟨.inl (congrArg some (zak _).symm), ⟨.inl rfl, ⟨.inl (congrArg some (zab hz).symm), ⟨.inl rfl, ⟨.inl rfl, ⟨.inl rfl, ⟨.inl rfl, ⟨.inl rfl, ⟨.inl rfl, ⟨.inl rfl, ⟨.inl rfl, ⟨.inl rfl, ⟨.inl rfl, ⟨.inl rfl, ⟨.inl rfl, ⟨.inl rfl, ⟨.inl rfl, ⟨.inl rfl, ⟨.inl rfl, ⟨.inl (congrArg some (zab g17).symm), trivial⟩⟩⟩⟩⟩⟩⟩⟩⟩⟩⟩⟩⟩⟩⟩⟩⟩⟩⟩⟩⟩⟩⟩⟩⟩, (by simp [one, h1, h3]), false, (fun _ => by rw [hD]; exact hE13), (fun q => by cases q), (by rw [hT.1, hT.2.1, hT.2.2]; exact ⟨o15, gB lz (some (cz, tz)), 24, 6, q, [gB (lz ++ ([(⟨nt.u, b, qX (uhS p is b nt).1 (uhS p is b nt).2, false, true, e0, zH⟩ : Nt)])) o15], ⟨g17, (fun z => by cases z), rfl, .inr ⟨0, rfl, rfl⟩, (by decide), .inl ⟨rfl, rfl, rfl⟩⟩⟩)⟩
  refine ⟨(zA qM (zA qM (zA (fun h => by cases h) (zA zD qC)))), .tuple #[ntV nt.u b (qX (uhS p is b nt).1 (uhS p is b nt).2) false true e0 zH, bv true], [cw (z8 1 (sv 2 0 n (n + m)) (gV 7 lz.length (some (cz, tz)))), cr [], cr (zbc n (uf i 3 8) ++ zbq m), cw (qD 4 ((uhS p is b nt).1) b 5), cw (zM ((uhS p is b nt).1) true nr (slV 25 127 (some m14))), .chan 1 (([] : List Nt).map ntE), cr [], gB lz (some (cz, tz)), cr [], cr [], cr [], cr [], cr [], cr [], cr [], cr [], cr [], cr [], cr [], cr [], cr [], cr [], cr [], cr [], cw (ntL nt)], [slB zI (ii (zaI ((uhS p is b nt).1))) (some m14)], (qN (all_cons (za8 nt.u b (qX (uhS p is b nt).1 (uhS p is b nt).2) false true e0 zH) (all_cons rfl rfl))), ⟨rfl, ⟨rfl, ⟨rfl, ⟨zcF rfl rfl, ⟨zbo rfl, ⟨zak _, ⟨(by cases true <;> rfl), ⟨rfl, ⟨rfl, ⟨rfl, ⟨rfl, ⟨rfl, ⟨rfl, ⟨rfl, ⟨rfl, ⟨rfl, ⟨rfl, ⟨rfl, ⟨rfl, ⟨rfl, ⟨rfl, ⟨rfl, ⟨rfl, ⟨rfl, ⟨rfl, trivial⟩⟩⟩⟩⟩⟩⟩⟩⟩⟩⟩⟩⟩⟩⟩⟩⟩⟩⟩⟩⟩⟩⟩⟩⟩, ⟨(Option.some.inj (zaM (some m14) (fun _ => (zct _ _)))).symm, trivial⟩, ?_⟩
  refine o_b 4 [(11, pv 26 0), (59, bv true), (58, ntV nt.u b (qX (uhS p is b nt).1 (uhS p is b nt).2) false true e0 zH), (53, .tuple #[ntV nt.u b (qX (uhS p is b nt).1 (uhS p is b nt).2) false true e0 zH, bv true])] [cw (z8 1 (sv 2 0 n (n + m)) (gV 7 lz.length (some (cz, tz)))), cr [], cr (zbc n (uf i 3 8) ++ zbq m), cw (qD 4 ((uhS p is b nt).1) b 5), cw (zM ((uhS p is b nt).1) true nr (slV 25 127 (some m14))), .chan 1 (([] : List Nt).map ntE), cr [], gB lz (some (cz, tz)), cr [], cr [], cr [], cr [], cr [], cr [], cr [], cr [], cr [], cr [], cr [], cr [], cr [], cr [], cr [], cr [], cw (ntL nt), slB zI (ii (zaI ((uhS p is b nt).1))) (some m14), cw (ntF 0 0 0 false false e0 zH)] (by kernel_rfl) (zc1 (by refine qQ (c' := ntF nt.u b (qX (uhS p is b nt).1 (uhS p is b nt).2) false true e0 zH) rfl rfl rfl ?_ ?_ ?_; exact qF _ _ _ _ _ _ _; exact zdf (by omega); exact zbu) ?_)
  refine o_b 1 [(12, bv true)] [cw (z8 1 (sv 2 0 n (n + m)) (gV 7 lz.length (some (cz, tz)))), cr [], cr (zbc n (uf i 3 8) ++ zbq m), cw (qD 4 ((uhS p is b nt).1) b 5), cw (zM ((uhS p is b nt).1) true nr (slV 25 127 (some m14))), .chan 1 (([] : List Nt).map ntE), cr [], gB lz (some (cz, tz)), cr [], cr [], cr [], cr [], cr [], cr [], cr [], cr [], cr [], cr [], cr [], cr [], cr [], cr [], cr [], cr [], cw (ntL nt), slB zI (ii (zaI ((uhS p is b nt).1))) (some m14), cw (ntF nt.u b (qX (uhS p is b nt).1 (uhS p is b nt).2) false true e0 zH)] (by kernel_rfl) (zG (z5 [(12, bv true), (11, pv 26 0), (0, pv 0 0)] (by kernel_rfl) (zR (zV (o_d 1 [(60, bv true)] (by kernel_rfl) (zG (zC (zer rfl (zbx [cw (z8 1 (sv 2 0 n (n + m)) (gV 7 lz.length (some (cz, tz)))), cr [], cr (zbc n (uf i 3 8) ++ zbq m), cw (qD 4 ((uhS p is b nt).1) b 5), cw (zM ((uhS p is b nt).1) true nr (slV 25 127 (some m14))), .chan 1 (([] : List Nt).map ntE), cr [], gB lz (some (cz, tz)), cr [], cr [], cr [], cr [], cr [], cr [], cr [], cr [], cr [], cr [], cr [], cr [], cr [], cr [], cr [], cr [], cw (ntL nt), slB zI (ii (zaI ((uhS p is b nt).1))) (some m14), cw (ntF nt.u b (qX (uhS p is b nt).1 (uhS p is b nt).2) false true e0 zH), .gone] (by kernel_rfl) (d_n 3 3 27 [(63, pv 0 2), (62, pv 0 0), (61, pv 0 0)] [cw (z8 1 (sv 2 0 n (n + m)) (gV 7 lz.length (some (cz, tz)))), cr [], cr (zbc n (uf i 3 8) ++ zbq m), cw (qD 4 ((uhS p is b nt).1) b 5), cw (zM ((uhS p is b nt).1) true nr (slV 25 127 (some m14))), .chan 1 (([] : List Nt).map ntE), cr [], gB lz (some (cz, tz)), cr [], cr [], cr [], cr [], cr [], cr [], cr [], cr [], cr [], cr [], cr [], cr [], cr [], cr [], cr [], cr [], cw (ntL nt), slB zI (ii (zaI ((uhS p is b nt).1))) (some m14), cw (ntF nt.u b (qX (uhS p is b nt).1 (uhS p is b nt).2) false true e0 zH), .gone] [] (by kernel_rfl) rfl rfl (d_s rfl rfl rfl (by kernel_rfl) (by refine z4 (v := ntV nt.u b (qX (uhS p is b nt).1 (uhS p is b nt).2) false true e0 zH) rfl rfl ?_; exact zbJ nt.u b (qX (uhS p is b nt).1 (uhS p is b nt).2) false true e0 zH) ?_)))))))))))
  refine d_mk (B := cw (ntF nt.u b (qX (uhS p is b nt).1 (uhS p is b nt).2) false true e0 zH)) rfl (zg4 rfl (qF _ _ _ _ _ _ _)) rfl (by kernel_rfl) (d_clHW [0, 7, 27] [0, 7, 27, 1, 2] [cw (z8 3 (sv 4 0 n (n + m)) (gV 1 lz.length (some (cz, tz)))), gB lz (some (cz, tz)), slB zNt (zbb ([(⟨nt.u, b, qX (uhS p is b nt).1 (uhS p is b nt).2, false, true, e0, zH⟩ : Nt)])) (some 0), cr [], cr []] [pv 0 2, slV 2 (([(⟨nt.u, b, qX (uhS p is b nt).1 (uhS p is b nt).2, false, true, e0, zH⟩ : Nt)]).length) (some 0)] (putNC h_yard_row_head_Note_put lz ([(⟨nt.u, b, qX (uhS p is b nt).1 (uhS p is b nt).2, false, true, e0, zH⟩ : Nt)]) (some (cz, tz)) (some 0) n m hz (fun z => by cases z) (by first | (simp; omega) | (simp [List.length_eraseIdx]; split <;> omega))) (wr_put ..) rfl rfl ⟨⟨_, rfl, z9 (.inl (zaA rfl rfl (zaa (some (cz, tz)) rfl) (fun q => rfl)))⟩, ⟨⟨_, rfl, zcm hz⟩, ⟨⟨_, rfl, zik⟩, ⟨⟨_, rfl, zJ⟩, ⟨⟨_, rfl, zJ⟩, trivial⟩⟩⟩⟩⟩ (by decide) (ziU lz ([(⟨nt.u, b, qX (uhS p is b nt).1 (uhS p is b nt).2, false, true, e0, zH⟩ : Nt)]) (some (cz, tz)) (some 0) n m) ?_ (by kernel_rfl))
  rintro v1 h1' ⟨rfl, o18, g20, ⟨s19, rfl⟩ | ⟨s19, rfl⟩⟩
  ·skip
   refine ⟨(zA qM (zA (zgj s19) (zA zD (zA zD (zA zD qC))))), .tuple #[], [cw (z8 1 (sv 2 0 n (n + m)) (gV 7 ((lz ++ ([(⟨nt.u, b, qX (uhS p is b nt).1 (uhS p is b nt).2, false, true, e0, zH⟩ : Nt)])).length) o18)), cr [], cr (zbc n (uf i 3 8) ++ zbq m), cw (qD 4 ((uhS p is b nt).1) b 5), cw (zM ((uhS p is b nt).1) true nr (slV 25 127 (some m14))), .chan 1 (([] : List Nt).map ntE), cr [], gB (lz ++ ([(⟨nt.u, b, qX (uhS p is b nt).1 (uhS p is b nt).2, false, true, e0, zH⟩ : Nt)])) o18, cr [], cr [], cr [], cr [], cr [], cr [], cr [], cr [], cr [], cr [], cr [], cr [], cr [], cr [], cr [], cr [], cw (ntL nt), slB zI (ii (zaI ((uhS p is b nt).1))) (some m14), cw (ntF nt.u b (qX (uhS p is b nt).1 (uhS p is b nt).2) false true e0 zH), cw (ntF nt.u b (qX (uhS p is b nt).1 (uhS p is b nt).2) false true e0 zH)], [], (by simp [zbF]), ⟨zaF rfl rfl (zaa o18 rfl), ⟨(by cases true <;> rfl), ⟨rfl, ⟨rfl, ⟨rfl, ⟨rfl, ⟨rfl, ⟨(by cases o18 with | none => rfl | some y9 => exact zab g20), ⟨rfl, ⟨rfl, ⟨rfl, ⟨rfl, ⟨rfl, ⟨rfl, ⟨rfl, ⟨rfl, ⟨rfl, ⟨rfl, ⟨rfl, ⟨rfl, ⟨rfl, ⟨rfl, ⟨rfl, ⟨rfl, ⟨rfl, ⟨rfl, ⟨rfl, ⟨zfB, trivial⟩⟩⟩⟩⟩⟩⟩⟩⟩⟩⟩⟩⟩⟩⟩⟩⟩⟩⟩⟩⟩⟩⟩⟩⟩⟩⟩⟩, trivial, ?_⟩
   refine zb2 (zC (zR (zV (o_d 1 [(6, bv true)] (by kernel_rfl) (zG (zC (zaZ ?_)))))))
   have hD : (zdl p is b l k keep) = ((uhS p is b nt), (lz ++ ([(⟨nt.u, b, qX (uhS p is b nt).1 (uhS p is b nt).2, false, true, e0, zH⟩ : Nt)]))) := by simp [zdl, zjG, hn9, h1, h3, hlz, zem]
   have hI : (uhS p is b nt).2 = true := hE13
   have hT : (zdl p is b l k keep).1.1 = ((uhS p is b nt).1) ∧ (zdl p is b l k keep).1.2 = true ∧ (zdl p is b l k keep).2 = (lz ++ ([(⟨nt.u, b, qX (uhS p is b nt).1 (uhS p is b nt).2, false, true, e0, zH⟩ : Nt)])) := by rw [hD]; exact ⟨rfl, hI, rfl⟩
   exact ⟨trivial, [bv true], (qE rfl rfl), (zU rfl qA), rfl, ⟨reg [], [cw (z8 1 (sv 2 0 n (n + m)) (gV 7 ((lz ++ ([(⟨nt.u, b, qX (uhS p is b nt).1 (uhS p is b nt).2, false, true, e0, zH⟩ : Nt)])).length) o18)), cr [], cr (zbc n (uf i 3 8) ++ zbq m), cw (qD 4 ((uhS p is b nt).1) b 5), cw (zM ((uhS p is b nt).1) true nr (slV 24 127 (some m14))), .chan 1 (([] : List Nt).map ntE), cr [], gB (lz ++ ([(⟨nt.u, b, qX (uhS p is b nt).1 (uhS p is b nt).2, false, true, e0, zH⟩ : Nt)])) o18, cr [], cr [], cr [], cr [], cr [], cr [], cr [], cr [], cr [], cr [], cr [], cr [], cr [], cr [], cr [], cr [], slB zI (ii (zaI ((uhS p is b nt).1))) (some m14)]⟩, Wk.ren [0, 1, 2, 3, 4, 5, 6, 7, 8, 9, 10, 11, 12, 13, 14, 15, 16, 17, 18, 19, 20, 21, 22, 23, 25] rfl rfl (by decide) trivial ⟨.inl (zas rfl rfl (zaa o18 rfl)), ⟨.inl rfl, ⟨.inl (zcG rfl (h16 rfl) hn16), ⟨.inl (za2 rfl rfl), ⟨.inl (zan rfl), ⟨.inl (congrArg some (zak _).symm), ⟨.inl rfl, ⟨.inl (congrArg some (zab g20).symm), ⟨.inl rfl, ⟨.inl rfl, ⟨.inl rfl, ⟨.inl rfl, ⟨.inl rfl, ⟨.inl rfl, ⟨.inl rfl, ⟨.inl rfl, ⟨.inl rfl, ⟨.inl rfl, ⟨.inl rfl, ⟨.inl rfl, ⟨.inl rfl, ⟨.inl rfl, ⟨.inl rfl, ⟨.inl rfl, ⟨.inl (zaM (some m14) (fun _ => (zct _ _))), trivial⟩⟩⟩⟩⟩⟩⟩⟩⟩⟩⟩⟩⟩⟩⟩⟩⟩⟩⟩⟩⟩⟩⟩⟩⟩, (by simp [one, h1, h3]), true, (fun q => by cases q), (fun _ => by rw [hD]; exact hE13), (by rw [hT.1, hT.2.1, hT.2.2]; exact ⟨o18, gB (lz ++ ([(⟨nt.u, b, qX (uhS p is b nt).1 (uhS p is b nt).2, false, true, e0, zH⟩ : Nt)])) o18, 7, 24, some m14, [slB zI (ii (zaI ((uhS p is b nt).1))) (some m14)], ⟨g20, (fun z => by cases z), rfl, .inl ⟨rfl, rfl⟩, (by decide), .inr ⟨0, m14, _, rfl, rfl, rfl, rfl, rfl⟩⟩⟩)⟩
  refine ⟨(zA qM (zA zD (zA zD (zA zD (zA zD qC))))), .tuple #[], [cw (z8 1 (sv 2 0 n (n + m)) (gV 28 ((lz ++ ([(⟨nt.u, b, qX (uhS p is b nt).1 (uhS p is b nt).2, false, true, e0, zH⟩ : Nt)])).length) o18)), cr [], cr (zbc n (uf i 3 8) ++ zbq m), cw (qD 4 ((uhS p is b nt).1) b 5), cw (zM ((uhS p is b nt).1) true nr (slV 25 127 (some m14))), .chan 1 (([] : List Nt).map ntE), cr [], gB lz (some (cz, tz)), cr [], cr [], cr [], cr [], cr [], cr [], cr [], cr [], cr [], cr [], cr [], cr [], cr [], cr [], cr [], cr [], cw (ntL nt), slB zI (ii (zaI ((uhS p is b nt).1))) (some m14), cw (ntF nt.u b (qX (uhS p is b nt).1 (uhS p is b nt).2) false true e0 zH), cw (ntF nt.u b (qX (uhS p is b nt).1 (uhS p is b nt).2) false true e0 zH)], [gB (lz ++ ([(⟨nt.u, b, qX (uhS p is b nt).1 (uhS p is b nt).2, false, true, e0, zH⟩ : Nt)])) o18], (by simp [zbF]), ⟨zaF rfl rfl (zaa o18 rfl), ⟨(by cases true <;> rfl), ⟨rfl, ⟨rfl, ⟨rfl, ⟨rfl, ⟨rfl, ⟨zab hz, ⟨rfl, ⟨rfl, ⟨rfl, ⟨rfl, ⟨rfl, ⟨rfl, ⟨rfl, ⟨rfl, ⟨rfl, ⟨rfl, ⟨rfl, ⟨rfl, ⟨rfl, ⟨rfl, ⟨rfl, ⟨rfl, ⟨rfl, ⟨rfl, ⟨rfl, ⟨zfB, trivial⟩⟩⟩⟩⟩⟩⟩⟩⟩⟩⟩⟩⟩⟩⟩⟩⟩⟩⟩⟩⟩⟩⟩⟩⟩⟩⟩⟩, ⟨(zab g20), trivial⟩, ?_⟩
  refine zb2 (zC (zR (zV (o_d 1 [(6, bv true)] (by kernel_rfl) (zG (zC (zaZ ?_)))))))
  have hD : (zdl p is b l k keep) = ((uhS p is b nt), (lz ++ ([(⟨nt.u, b, qX (uhS p is b nt).1 (uhS p is b nt).2, false, true, e0, zH⟩ : Nt)]))) := by simp [zdl, zjG, hn9, h1, h3, hlz, zem]
  have hI : (uhS p is b nt).2 = true := hE13
  have hT : (zdl p is b l k keep).1.1 = ((uhS p is b nt).1) ∧ (zdl p is b l k keep).1.2 = true ∧ (zdl p is b l k keep).2 = (lz ++ ([(⟨nt.u, b, qX (uhS p is b nt).1 (uhS p is b nt).2, false, true, e0, zH⟩ : Nt)])) := by rw [hD]; exact ⟨rfl, hI, rfl⟩
  exact ⟨trivial, [bv true], (qE rfl rfl), (zU rfl qA), rfl, ⟨reg [], [cw (z8 1 (sv 2 0 n (n + m)) (gV 25 ((lz ++ ([(⟨nt.u, b, qX (uhS p is b nt).1 (uhS p is b nt).2, false, true, e0, zH⟩ : Nt)])).length) o18)), cr [], cr (zbc n (uf i 3 8) ++ zbq m), cw (qD 4 ((uhS p is b nt).1) b 5), cw (zM ((uhS p is b nt).1) true nr (slV 24 127 (some m14))), .chan 1 (([] : List Nt).map ntE), cr [], gB lz (some (cz, tz)), cr [], cr [], cr [], cr [], cr [], cr [], cr [], cr [], cr [], cr [], cr [], cr [], cr [], cr [], cr [], cr [], slB zI (ii (zaI ((uhS p is b nt).1))) (some m14), gB (lz ++ ([(⟨nt.u, b, qX (uhS p is b nt).1 (uhS p is b nt).2, false, true, e0, zH⟩ : Nt)])) o18]⟩, Wk.ren [0, 1, 2, 3, 4, 5, 6, 7, 8, 9, 10, 11, 12, 13, 14, 15, 16, 17, 18, 19, 20, 21, 22, 23, 25, 28] rfl rfl (by decide) trivial ⟨.inl (zas rfl rfl (zaa o18 rfl)), ⟨.inl rfl, ⟨.inl (zcG rfl (h16 rfl) hn16), ⟨.inl (za2 rfl rfl), ⟨.inl (zan rfl), ⟨.inl (congrArg some (zak _).symm), ⟨.inl rfl, ⟨.inl (congrArg some (zab hz).symm), ⟨.inl rfl, ⟨.inl rfl, ⟨.inl rfl, ⟨.inl rfl, ⟨.inl rfl, ⟨.inl rfl, ⟨.inl rfl, ⟨.inl rfl, ⟨.inl rfl, ⟨.inl rfl, ⟨.inl rfl, ⟨.inl rfl, ⟨.inl rfl, ⟨.inl rfl, ⟨.inl rfl, ⟨.inl rfl, ⟨.inl (zaM (some m14) (fun _ => (zct _ _))), ⟨.inl (congrArg some (zab g20).symm), trivial⟩⟩⟩⟩⟩⟩⟩⟩⟩⟩⟩⟩⟩⟩⟩⟩⟩⟩⟩⟩⟩⟩⟩⟩⟩⟩, (by simp [one, h1, h3]), true, (fun q => by cases q), (fun _ => by rw [hD]; exact hE13), (by rw [hT.1, hT.2.1, hT.2.2]; exact ⟨o18, gB lz (some (cz, tz)), 25, 24, some m14, [slB zI (ii (zaI ((uhS p is b nt).1))) (some m14), gB (lz ++ ([(⟨nt.u, b, qX (uhS p is b nt).1 (uhS p is b nt).2, false, true, e0, zH⟩ : Nt)])) o18], ⟨g20, (fun z => by cases z), rfl, .inr ⟨1, rfl, rfl⟩, (by decide), .inr ⟨0, m14, _, rfl, rfl, rfl, rfl, rfl⟩⟩⟩)⟩
 refine zR (zR (zV (o_d 1 [(30, pv 24 4)] (by kernel_rfl) (o_s (by refine z4 (v := bv nt.a) rfl rfl ?_; exact zdT rfl) ?_))))
 refine zG (zC (zaj (t := nt.a) rfl (fun q => by rw [(hn9 ▸ (hnt (by assumption)).1 : (nt.a) = false)] at q; cases q) (fun _ => ?_)))
 refine zaq (zC (zR (zR (zbx [cw (z8 1 (sv 2 0 n (n + m)) (gV 25 lz.length (some (cz, tz)))), cr [], cr (zbc n (uf i 3 8) ++ zbq m), cw (qD 4 p b 5), cw (zM p is nr (slV 6 127 q)), .chan 1 (([] : List Nt).map ntE), cr [], gB l (some (c, t)), cr [], cr [], cr [], cr [], cr [], cr [], cr [], cr [], cr [], cr [], cr [], cr [], cr [], cr [], cr [], cr [], cw (ntL nt), gB lz (some (cz, tz))] (by kernel_rfl) (d_n 4 4 26 [(42, pv 24 0), (41, pv 0 1), (40, pv 0 0), (39, pv 0 0)] [cw (z8 1 (sv 2 0 n (n + m)) (gV 25 lz.length (some (cz, tz)))), cr [], cr (zbc n (uf i 3 8) ++ zbq m), cw (qD 4 p b 5), cw (zM p is nr (slV 6 127 q)), .chan 1 (([] : List Nt).map ntE), cr [], gB l (some (c, t)), cr [], cr [], cr [], cr [], cr [], cr [], cr [], cr [], cr [], cr [], cr [], cr [], cr [], cr [], cr [], cr [], cw (ntL nt), gB lz (some (cz, tz))] [] (by kernel_rfl) rfl rfl (d_s rfl rfl rfl (by kernel_rfl) (by refine z4 (v := iv nt.u) rfl rfl ?_; exact zdT rfl) ?_))))))
 have hui : nt.u = (i : Nat) := hn9 ▸ (hnt (by assumption)).2
 refine zgM [0, 2, 1, 25, 3, 8, 9, 10, 11, 12, 13, 14, 15, 16, 17, 18, 19, 20, 21, 22, 23] [cr (z8 2 (sv 1 0 n (n + m)) (gV 3 lz.length (some (cz, tz)))), cr (zbc n (uf i 4 5) ++ zbq m), cr [], cr [], cr [], cr [], cr [], cr [], cr [], cr [], cr [], cr [], cr [], cr [], cr [], cr [], cr [], cr [], cr [], cr [], cr []] [pv 0 1, iv nt.u] (atU1C h_yard_row_yard_unit_at n m i lz.length (some (cz, tz)) nt.u hui hi) rfl rfl ⟨⟨_, rfl, z9 (.inl (zaA rfl rfl (zaa (some (cz, tz)) rfl) (fun q => rfl)))⟩, ⟨⟨_, rfl, z9 (.inl (zeU rfl (h16 rfl) hn16 (fun q => q)))⟩, ⟨⟨_, rfl, zJ⟩, ⟨⟨_, rfl, zdH (some (cz, tz))⟩, ⟨⟨_, rfl, zJ⟩, ⟨⟨_, rfl, zJ⟩, ⟨⟨_, rfl, zJ⟩, ⟨⟨_, rfl, zJ⟩, ⟨⟨_, rfl, zJ⟩, ⟨⟨_, rfl, zJ⟩, ⟨⟨_, rfl, zJ⟩, ⟨⟨_, rfl, zJ⟩, ⟨⟨_, rfl, zJ⟩, ⟨⟨_, rfl, zJ⟩, ⟨⟨_, rfl, zJ⟩, ⟨⟨_, rfl, zJ⟩, ⟨⟨_, rfl, zJ⟩, ⟨⟨_, rfl, zJ⟩, ⟨⟨_, rfl, zJ⟩, ⟨⟨_, rfl, zJ⟩, ⟨⟨_, rfl, zJ⟩, trivial⟩⟩⟩⟩⟩⟩⟩⟩⟩⟩⟩⟩⟩⟩⟩⟩⟩⟩⟩⟩⟩ (by decide) ⟨_, _, ⟨rfl, rfl⟩, Nat.le_refl _, zbf [_, _, _, _, _, _, _, _, _, _, _, _, _, _, _, _, _, _, _, _, _] []⟩ ?_ (by kernel_rfl)
 rintro v1 h1' ⟨rfl, rfl⟩
 refine ⟨(zA zD (zA zD (zA zD (zA zD (zA zD (zA zD (zA zD (zA zD (zA zD (zA zD (zA zD (zA zD (zA zD (zA zD (zA zD (zA zD (zA zD (zA zD (zA zD (zA zD (zA zD qC))))))))))))))))))))), .tuple #[pv 3 0, bv true], [cw (z8 1 (sv 2 0 n (n + m)) (gV 25 lz.length (some (cz, tz)))), cr [], cr (zbc n (uf i 3 8) ++ zbq m), cw (qD 4 p b 5), cw (zM p is nr (slV 6 127 q)), .chan 1 (([] : List Nt).map ntE), cr [], gB l (some (c, t)), cr [], cr [], cr [], cr [], cr [], cr [], cr [], cr [], cr [], cr [], cr [], cr [], cr [], cr [], cr [], cr [], cw (ntL nt), gB lz (some (cz, tz))], [], ((zgc _).trans rfl), ⟨rfl, ⟨(by cases true <;> rfl), ⟨rfl, ⟨rfl, ⟨rfl, ⟨rfl, ⟨rfl, ⟨rfl, ⟨(by cases true <;> rfl), ⟨(by cases true <;> rfl), ⟨(by cases true <;> rfl), ⟨(by cases true <;> rfl), ⟨(by cases true <;> rfl), ⟨(by cases true <;> rfl), ⟨(by cases true <;> rfl), ⟨(by cases true <;> rfl), ⟨(by cases true <;> rfl), ⟨(by cases true <;> rfl), ⟨(by cases true <;> rfl), ⟨(by cases true <;> rfl), ⟨(by cases true <;> rfl), ⟨(by cases true <;> rfl), ⟨(by cases true <;> rfl), ⟨(by cases true <;> rfl), ⟨rfl, ⟨rfl, trivial⟩⟩⟩⟩⟩⟩⟩⟩⟩⟩⟩⟩⟩⟩⟩⟩⟩⟩⟩⟩⟩⟩⟩⟩⟩⟩, trivial, ?_⟩
 refine d_n 5 11 26 [(10, bv true), (9, pv 3 0), (46, bv true), (45, pv 3 0), (38, .tuple #[pv 3 0, bv true])] [cw (z8 1 (sv 2 0 n (n + m)) (gV 25 lz.length (some (cz, tz)))), cr [], cr (zbc n (uf i 3 8) ++ zbq m), cw (qD 4 p b 5), cw (zM p is nr (slV 6 127 q)), .chan 1 (([] : List Nt).map ntE), cr [], gB l (some (c, t)), cr [], cr [], cr [], cr [], cr [], cr [], cr [], cr [], cr [], cr [], cr [], cr [], cr [], cr [], cr [], cr [], cw (ntL nt), gB lz (some (cz, tz))] [⟨5, [0, 2, 1, 25, 3, 8, 9, 10, 11, 12, 13, 14, 15, 16, 17, 18, 19, 20, 21, 22, 23], [], some 26⟩, ⟨4, [24], [], none⟩] (by kernel_rfl) rfl rfl (zb2 (zC (zR (zV (o_d 1 [(47, bv true)] (by kernel_rfl) (zG (zC (zer rfl (zR (zbx [cw (z8 1 (sv 2 0 n (n + m)) (gV 25 lz.length (some (cz, tz)))), cr [], cr (zbc n (uf i 3 8) ++ zbq m), cw (qD 4 p b 5), cw (zM p is nr (slV 6 127 q)), .chan 1 (([] : List Nt).map ntE), cr [], gB l (some (c, t)), cr [], cr [], cr [], cr [], cr [], cr [], cr [], cr [], cr [], cr [], cr [], cr [], cr [], cr [], cr [], cr [], cw (ntL nt), gB lz (some (cz, tz))] (by kernel_rfl) (d_n 3 3 26 [(50, pv 3 332), (49, pv 3 0), (48, pv 3 0)] [cw (z8 1 (sv 2 0 n (n + m)) (gV 25 lz.length (some (cz, tz)))), cr [], cr (zbc n (uf i 3 8) ++ zbq m), cw (qD 4 p b 5), cw (zM p is nr (slV 6 127 q)), .chan 1 (([] : List Nt).map ntE), cr [], gB l (some (c, t)), cr [], cr [], cr [], cr [], cr [], cr [], cr [], cr [], cr [], cr [], cr [], cr [], cr [], cr [], cr [], cr [], cw (ntL nt), gB lz (some (cz, tz))] [] (by kernel_rfl) rfl rfl (d_s rfl rfl rfl (by kernel_rfl) (by refine z4 (v := .chan (some 5)) rfl rfl ?_; exact (zdQ 1).trans rfl) ?_))))))))))))
 refine d_s rfl rfl rfl (by kernel_rfl) (by refine z4 (v := ntE nt) rfl rfl ?_; exact zbJ nt.u nt.b nt.v nt.w nt.a nt.e nt.p) ?_
 refine d_snd (k := 5) (b := ([] : List Nt).map ntE) (b2 := ([nt]).map ntE) rfl rfl rfl (by rw [List.length_map]; simp) rfl rfl ?_
 refine zb2 (zC (zR (zV (o_d 2 [(55, pv 24 0), (54, pv 3 0)] (by kernel_rfl) (o_s (by refine z4 (v := iv nt.u) rfl rfl ?_; exact zdT rfl) ?_)))))
 refine zcc (zdn [3, 4, 5, 6] [cw (qD 1 p b 2), cw (zM p is nr (slV 3 127 q)), .chan 1 (([nt]).map ntE), cr []] [pv 0 0, iv nt.u] (UHearC h_yard_unit_hear h_yard_unit_version h_plane_Plane_Version h_yard_unit_load h_plane_Plane_Load h_plane_maybe_api_Pool_lay h_wheel_Make h_wheel_spun h_sip_Words h_sip_Of h_sip_number_byte h_sip_state_take h_sip_state_rounds h_sip_state_round h_math_bits_RotateLeft64 h_pool_Apply h_pool_may h_pool_held h_pool_fits h_pool_Check h_pool_placed h_cookie_Next p is nr q b nt nt.u) rfl rfl ⟨⟨_, rfl, z9 (.inl (zbO rfl rfl (fun q => rfl)))⟩, ⟨⟨_, rfl, z9 (.inl (zaW (qY q rfl) (fun q => rfl)))⟩, ⟨⟨_, rfl, z9 (.inl (zcz _))⟩, ⟨⟨_, rfl, zJ⟩, trivial⟩⟩⟩⟩ (by decide) ?_)
 rintro v1 h1' ⟨rfl, ⟨hE21, rfl⟩ | ⟨hE21, m22, rfl⟩⟩
 ·skip
  refine ⟨(zA zD (zA zD (zA (fun h => by cases h) (zA zD qC)))), .tuple #[ntV nt.u b (qX (uhS p is b nt).1 (uhS p is b nt).2) false true e0 zH, bv true], [cw (z8 1 (sv 2 0 n (n + m)) (gV 25 lz.length (some (cz, tz)))), cr [], cr (zbc n (uf i 3 8) ++ zbq m), cw (qD 4 p b 5), cw (zM p is nr (slV 6 127 q)), .chan 1 (([] : List Nt).map ntE), cr [], gB l (some (c, t)), cr [], cr [], cr [], cr [], cr [], cr [], cr [], cr [], cr [], cr [], cr [], cr [], cr [], cr [], cr [], cr [], cw (ntL nt), gB lz (some (cz, tz))], [], (qN (all_cons (za8 nt.u b (qX (uhS p is b nt).1 (uhS p is b nt).2) false true e0 zH) (all_cons rfl rfl))), ⟨rfl, ⟨rfl, ⟨rfl, ⟨zcF rfl rfl, ⟨zbo (qY q rfl), ⟨zak _, ⟨(by cases true <;> rfl), ⟨rfl, ⟨rfl, ⟨rfl, ⟨rfl, ⟨rfl, ⟨rfl, ⟨rfl, ⟨rfl, ⟨rfl, ⟨rfl, ⟨rfl, ⟨rfl, ⟨rfl, ⟨rfl, ⟨rfl, ⟨rfl, ⟨rfl, ⟨rfl, ⟨rfl, trivial⟩⟩⟩⟩⟩⟩⟩⟩⟩⟩⟩⟩⟩⟩⟩⟩⟩⟩⟩⟩⟩⟩⟩⟩⟩⟩, trivial, ?_⟩
  refine o_b 4 [(11, pv 26 0), (59, bv true), (58, ntV nt.u b (qX (uhS p is b nt).1 (uhS p is b nt).2) false true e0 zH), (53, .tuple #[ntV nt.u b (qX (uhS p is b nt).1 (uhS p is b nt).2) false true e0 zH, bv true])] [cw (z8 1 (sv 2 0 n (n + m)) (gV 25 lz.length (some (cz, tz)))), cr [], cr (zbc n (uf i 3 8) ++ zbq m), cw (qD 4 p b 5), cw (zM p is nr (slV 6 127 q)), .chan 1 (([] : List Nt).map ntE), cr [], gB l (some (c, t)), cr [], cr [], cr [], cr [], cr [], cr [], cr [], cr [], cr [], cr [], cr [], cr [], cr [], cr [], cr [], cr [], cw (ntL nt), gB lz (some (cz, tz)), cw (ntF 0 0 0 false false e0 zH)] (by kernel_rfl) (zc1 (by refine qQ (c' := ntF nt.u b (qX (uhS p is b nt).1 (uhS p is b nt).2) false true e0 zH) rfl rfl rfl ?_ ?_ ?_; exact qF _ _ _ _ _ _ _; exact zdf (by omega); exact zbu) ?_)
  refine o_b 1 [(12, bv true)] [cw (z8 1 (sv 2 0 n (n + m)) (gV 25 lz.length (some (cz, tz)))), cr [], cr (zbc n (uf i 3 8) ++ zbq m), cw (qD 4 p b 5), cw (zM p is nr (slV 6 127 q)), .chan 1 (([] : List Nt).map ntE), cr [], gB l (some (c, t)), cr [], cr [], cr [], cr [], cr [], cr [], cr [], cr [], cr [], cr [], cr [], cr [], cr [], cr [], cr [], cr [], cw (ntL nt), gB lz (some (cz, tz)), cw (ntF nt.u b (qX (uhS p is b nt).1 (uhS p is b nt).2) false true e0 zH)] (by kernel_rfl) (zG (z5 [(12, bv true), (11, pv 26 0), (0, pv 0 0)] (by kernel_rfl) (zR (zV (o_d 1 [(60, bv true)] (by kernel_rfl) (zG (zC (zer rfl (zbx [cw (z8 1 (sv 2 0 n (n + m)) (gV 25 lz.length (some (cz, tz)))), cr [], cr (zbc n (uf i 3 8) ++ zbq m), cw (qD 4 p b 5), cw (zM p is nr (slV 6 127 q)), .chan 1 (([] : List Nt).map ntE), cr [], gB l (some (c, t)), cr [], cr [], cr [], cr [], cr [], cr [], cr [], cr [], cr [], cr [], cr [], cr [], cr [], cr [], cr [], cr [], cw (ntL nt), gB lz (some (cz, tz)), cw (ntF nt.u b (qX (uhS p is b nt).1 (uhS p is b nt).2) false true e0 zH), .gone] (by kernel_rfl) (d_n 3 3 27 [(63, pv 0 2), (62, pv 0 0), (61, pv 0 0)] [cw (z8 1 (sv 2 0 n (n + m)) (gV 25 lz.length (some (cz, tz)))), cr [], cr (zbc n (uf i 3 8) ++ zbq m), cw (qD 4 p b 5), cw (zM p is nr (slV 6 127 q)), .chan 1 (([] : List Nt).map ntE), cr [], gB l (some (c, t)), cr [], cr [], cr [], cr [], cr [], cr [], cr [], cr [], cr [], cr [], cr [], cr [], cr [], cr [], cr [], cr [], cw (ntL nt), gB lz (some (cz, tz)), cw (ntF nt.u b (qX (uhS p is b nt).1 (uhS p is b nt).2) false true e0 zH), .gone] [] (by kernel_rfl) rfl rfl (d_s rfl rfl rfl (by kernel_rfl) (by refine z4 (v := ntV nt.u b (qX (uhS p is b nt).1 (uhS p is b nt).2) false true e0 zH) rfl rfl ?_; exact zbJ nt.u b (qX (uhS p is b nt).1 (uhS p is b nt).2) false true e0 zH) ?_)))))))))))
  refine d_mk (B := cw (ntF nt.u b (qX (uhS p is b nt).1 (uhS p is b nt).2) false true e0 zH)) rfl (zg4 rfl (qF _ _ _ _ _ _ _)) rfl (by kernel_rfl) (d_clHW [0, 25, 27] [0, 25, 27, 1, 2] [cw (z8 3 (sv 4 0 n (n + m)) (gV 1 lz.length (some (cz, tz)))), gB lz (some (cz, tz)), slB zNt (zbb ([(⟨nt.u, b, qX (uhS p is b nt).1 (uhS p is b nt).2, false, true, e0, zH⟩ : Nt)])) (some 0), cr [], cr []] [pv 0 2, slV 2 (([(⟨nt.u, b, qX (uhS p is b nt).1 (uhS p is b nt).2, false, true, e0, zH⟩ : Nt)]).length) (some 0)] (putNC h_yard_row_head_Note_put lz ([(⟨nt.u, b, qX (uhS p is b nt).1 (uhS p is b nt).2, false, true, e0, zH⟩ : Nt)]) (some (cz, tz)) (some 0) n m hz (fun z => by cases z) (by first | (simp; omega) | (simp [List.length_eraseIdx]; split <;> omega))) (wr_put ..) rfl rfl ⟨⟨_, rfl, z9 (.inl (zaA rfl rfl (zaa (some (cz, tz)) rfl) (fun q => rfl)))⟩, ⟨⟨_, rfl, zcm hz⟩, ⟨⟨_, rfl, zik⟩, ⟨⟨_, rfl, zJ⟩, ⟨⟨_, rfl, zJ⟩, trivial⟩⟩⟩⟩⟩ (by decide) (ziU lz ([(⟨nt.u, b, qX (uhS p is b nt).1 (uhS p is b nt).2, false, true, e0, zH⟩ : Nt)]) (some (cz, tz)) (some 0) n m) ?_ (by kernel_rfl))
  rintro v1 h1' ⟨rfl, o23, g25, ⟨s24, rfl⟩ | ⟨s24, rfl⟩⟩
  ·skip
   refine ⟨(zA qM (zA (zgj s24) (zA zD (zA zD (zA zD qC))))), .tuple #[], [cw (z8 1 (sv 2 0 n (n + m)) (gV 25 ((lz ++ ([(⟨nt.u, b, qX (uhS p is b nt).1 (uhS p is b nt).2, false, true, e0, zH⟩ : Nt)])).length) o23)), cr [], cr (zbc n (uf i 3 8) ++ zbq m), cw (qD 4 p b 5), cw (zM p is nr (slV 6 127 q)), .chan 1 (([] : List Nt).map ntE), cr [], gB l (some (c, t)), cr [], cr [], cr [], cr [], cr [], cr [], cr [], cr [], cr [], cr [], cr [], cr [], cr [], cr [], cr [], cr [], cw (ntL nt), gB (lz ++ ([(⟨nt.u, b, qX (uhS p is b nt).1 (uhS p is b nt).2, false, true, e0, zH⟩ : Nt)])) o23, cw (ntF nt.u b (qX (uhS p is b nt).1 (uhS p is b nt).2) false true e0 zH), cw (ntF nt.u b (qX (uhS p is b nt).1 (uhS p is b nt).2) false true e0 zH)], [], (by simp [zbF]), ⟨zaF rfl rfl (zaa o23 rfl), ⟨(by cases true <;> rfl), ⟨rfl, ⟨rfl, ⟨rfl, ⟨rfl, ⟨rfl, ⟨rfl, ⟨rfl, ⟨rfl, ⟨rfl, ⟨rfl, ⟨rfl, ⟨rfl, ⟨rfl, ⟨rfl, ⟨rfl, ⟨rfl, ⟨rfl, ⟨rfl, ⟨rfl, ⟨rfl, ⟨rfl, ⟨rfl, ⟨rfl, ⟨(by cases o23 with | none => rfl | some y9 => exact zab g25), ⟨rfl, ⟨zfB, trivial⟩⟩⟩⟩⟩⟩⟩⟩⟩⟩⟩⟩⟩⟩⟩⟩⟩⟩⟩⟩⟩⟩⟩⟩⟩⟩⟩⟩, trivial, ?_⟩
   refine zb2 (zC (zR (zV (o_d 1 [(6, bv true)] (by kernel_rfl) (zG (zC (zaZ ?_)))))))
   have hD : (zdl p is b l k keep) = ((uhS p is b nt), (lz ++ ([(⟨nt.u, b, qX (uhS p is b nt).1 (uhS p is b nt).2, false, true, e0, zH⟩ : Nt)]))) := by simp [zdl, zjG, hn9, h1, h3, hlz, zem]
   have hT : (zdl p is b l k keep).1.1 = p ∧ (zdl p is b l k keep).1.2 = is ∧ (zdl p is b l k keep).2 = (lz ++ ([(⟨nt.u, b, qX (uhS p is b nt).1 (uhS p is b nt).2, false, true, e0, zH⟩ : Nt)])) := by rw [hD]; exact ⟨congrArg Prod.fst hE21, congrArg Prod.snd hE21, rfl⟩
   exact ⟨trivial, [bv true], (qE rfl rfl), (zU rfl qA), rfl, ⟨reg [], [cw (z8 1 (sv 2 0 n (n + m)) (gV 24 ((lz ++ ([(⟨nt.u, b, qX (uhS p is b nt).1 (uhS p is b nt).2, false, true, e0, zH⟩ : Nt)])).length) o23)), cr [], cr (zbc n (uf i 3 8) ++ zbq m), cw (qD 4 p b 5), cw (zM p is nr (slV 6 127 q)), .chan 1 (([] : List Nt).map ntE), cr [], gB l (some (c, t)), cr [], cr [], cr [], cr [], cr [], cr [], cr [], cr [], cr [], cr [], cr [], cr [], cr [], cr [], cr [], cr [], gB (lz ++ ([(⟨nt.u, b, qX (uhS p is b nt).1 (uhS p is b nt).2, false, true, e0, zH⟩ : Nt)])) o23]⟩, Wk.ren [0, 1, 2, 3, 4, 5, 6, 7, 8, 9, 10, 11, 12, 13, 14, 15, 16, 17, 18, 19, 20, 21, 22, 23, 25] rfl rfl (by decide) trivial ⟨.inl (zas rfl rfl (zaa o23 rfl)), ⟨.inl rfl, ⟨.inl (zcG rfl (h16 rfl) hn16), ⟨.inl (za2 rfl rfl), ⟨.inl (zan (qY q rfl)), ⟨.inl (congrArg some (zak _).symm), ⟨.inl rfl, ⟨.inl (congrArg some (zab ho).symm), ⟨.inl rfl, ⟨.inl rfl, ⟨.inl rfl, ⟨.inl rfl, ⟨.inl rfl, ⟨.inl rfl, ⟨.inl rfl, ⟨.inl rfl, ⟨.inl rfl, ⟨.inl rfl, ⟨.inl rfl, ⟨.inl rfl, ⟨.inl rfl, ⟨.inl rfl, ⟨.inl rfl, ⟨.inl rfl, ⟨.inl (congrArg some (zab g25).symm), trivial⟩⟩⟩⟩⟩⟩⟩⟩⟩⟩⟩⟩⟩⟩⟩⟩⟩⟩⟩⟩⟩⟩⟩⟩⟩, (by simp [one, h1, h3]), false, (fun _ => by rw [hD]; exact hE21), (fun q => by cases q), (by rw [hT.1, hT.2.1, hT.2.2]; exact ⟨o23, gB l (some (c, t)), 24, 6, q, [gB (lz ++ ([(⟨nt.u, b, qX (uhS p is b nt).1 (uhS p is b nt).2, false, true, e0, zH⟩ : Nt)])) o23], ⟨g25, (fun z => by cases z), rfl, .inr ⟨0, rfl, rfl⟩, (by decide), .inl ⟨rfl, rfl, rfl⟩⟩⟩)⟩
  refine ⟨(zA qM (zA zD (zA zD (zA zD (zA zD qC))))), .tuple #[], [cw (z8 1 (sv 2 0 n (n + m)) (gV 28 ((lz ++ ([(⟨nt.u, b, qX (uhS p is b nt).1 (uhS p is b nt).2, false, true, e0, zH⟩ : Nt)])).length) o23)), cr [], cr (zbc n (uf i 3 8) ++ zbq m), cw (qD 4 p b 5), cw (zM p is nr (slV 6 127 q)), .chan 1 (([] : List Nt).map ntE), cr [], gB l (some (c, t)), cr [], cr [], cr [], cr [], cr [], cr [], cr [], cr [], cr [], cr [], cr [], cr [], cr [], cr [], cr [], cr [], cw (ntL nt), gB lz (some (cz, tz)), cw (ntF nt.u b (qX (uhS p is b nt).1 (uhS p is b nt).2) false true e0 zH), cw (ntF nt.u b (qX (uhS p is b nt).1 (uhS p is b nt).2) false true e0 zH)], [gB (lz ++ ([(⟨nt.u, b, qX (uhS p is b nt).1 (uhS p is b nt).2, false, true, e0, zH⟩ : Nt)])) o23], (by simp [zbF]), ⟨zaF rfl rfl (zaa o23 rfl), ⟨(by cases true <;> rfl), ⟨rfl, ⟨rfl, ⟨rfl, ⟨rfl, ⟨rfl, ⟨rfl, ⟨rfl, ⟨rfl, ⟨rfl, ⟨rfl, ⟨rfl, ⟨rfl, ⟨rfl, ⟨rfl, ⟨rfl, ⟨rfl, ⟨rfl, ⟨rfl, ⟨rfl, ⟨rfl, ⟨rfl, ⟨rfl, ⟨rfl, ⟨zab hz, ⟨rfl, ⟨zfB, trivial⟩⟩⟩⟩⟩⟩⟩⟩⟩⟩⟩⟩⟩⟩⟩⟩⟩⟩⟩⟩⟩⟩⟩⟩⟩⟩⟩⟩, ⟨(zab g25), trivial⟩, ?_⟩
  refine zb2 (zC (zR (zV (o_d 1 [(6, bv true)] (by kernel_rfl) (zG (zC (zaZ ?_)))))))
  have hD : (zdl p is b l k keep) = ((uhS p is b nt), (lz ++ ([(⟨nt.u, b, qX (uhS p is b nt).1 (uhS p is b nt).2, false, true, e0, zH⟩ : Nt)]))) := by simp [zdl, zjG, hn9, h1, h3, hlz, zem]
  have hT : (zdl p is b l k keep).1.1 = p ∧ (zdl p is b l k keep).1.2 = is ∧ (zdl p is b l k keep).2 = (lz ++ ([(⟨nt.u, b, qX (uhS p is b nt).1 (uhS p is b nt).2, false, true, e0, zH⟩ : Nt)])) := by rw [hD]; exact ⟨congrArg Prod.fst hE21, congrArg Prod.snd hE21, rfl⟩
  exact ⟨trivial, [bv true], (qE rfl rfl), (zU rfl qA), rfl, ⟨reg [], [cw (z8 1 (sv 2 0 n (n + m)) (gV 24 ((lz ++ ([(⟨nt.u, b, qX (uhS p is b nt).1 (uhS p is b nt).2, false, true, e0, zH⟩ : Nt)])).length) o23)), cr [], cr (zbc n (uf i 3 8) ++ zbq m), cw (qD 4 p b 5), cw (zM p is nr (slV 6 127 q)), .chan 1 (([] : List Nt).map ntE), cr [], gB l (some (c, t)), cr [], cr [], cr [], cr [], cr [], cr [], cr [], cr [], cr [], cr [], cr [], cr [], cr [], cr [], cr [], cr [], gB (lz ++ ([(⟨nt.u, b, qX (uhS p is b nt).1 (uhS p is b nt).2, false, true, e0, zH⟩ : Nt)])) o23]⟩, Wk.ren [0, 1, 2, 3, 4, 5, 6, 7, 8, 9, 10, 11, 12, 13, 14, 15, 16, 17, 18, 19, 20, 21, 22, 23, 28] rfl rfl (by decide) trivial ⟨.inl (zas rfl rfl (zaa o23 rfl)), ⟨.inl rfl, ⟨.inl (zcG rfl (h16 rfl) hn16), ⟨.inl (za2 rfl rfl), ⟨.inl (zan (qY q rfl)), ⟨.inl (congrArg some (zak _).symm), ⟨.inl rfl, ⟨.inl (congrArg some (zab ho).symm), ⟨.inl rfl, ⟨.inl rfl, ⟨.inl rfl, ⟨.inl rfl, ⟨.inl rfl, ⟨.inl rfl, ⟨.inl rfl, ⟨.inl rfl, ⟨.inl rfl, ⟨.inl rfl, ⟨.inl rfl, ⟨.inl rfl, ⟨.inl rfl, ⟨.inl rfl, ⟨.inl rfl, ⟨.inl rfl, ⟨.inl (congrArg some (zab g25).symm), trivial⟩⟩⟩⟩⟩⟩⟩⟩⟩⟩⟩⟩⟩⟩⟩⟩⟩⟩⟩⟩⟩⟩⟩⟩⟩, (by simp [one, h1, h3]), false, (fun _ => by rw [hD]; exact hE21), (fun q => by cases q), (by rw [hT.1, hT.2.1, hT.2.2]; exact ⟨o23, gB l (some (c, t)), 24, 6, q, [gB (lz ++ ([(⟨nt.u, b, qX (uhS p is b nt).1 (uhS p is b nt).2, false, true, e0, zH⟩ : Nt)])) o23], ⟨g25, (fun z => by cases z), rfl, .inr ⟨0, rfl, rfl⟩, (by decide), .inl ⟨rfl, rfl, rfl⟩⟩⟩)⟩
 refine ⟨(zA qM (zA qM (zA (fun h => by cases h) (zA zD qC)))), .tuple #[ntV nt.u b (qX (uhS p is b nt).1 (uhS p is b nt).2) false true e0 zH, bv true], [cw (z8 1 (sv 2 0 n (n + m)) (gV 25 lz.length (some (cz, tz)))), cr [], cr (zbc n (uf i 3 8) ++ zbq m), cw (qD 4 ((uhS p is b nt).1) b 5), cw (zM ((uhS p is b nt).1) true nr (slV 26 127 (some m22))), .chan 1 (([] : List Nt).map ntE), cr [], gB l (some (c, t)), cr [], cr [], cr [], cr [], cr [], cr [], cr [], cr [], cr [], cr [], cr [], cr [], cr [], cr [], cr [], cr [], cw (ntL nt), gB lz (some (cz, tz))], [slB zI (ii (zaI ((uhS p is b nt).1))) (some m22)], (qN (all_cons (za8 nt.u b (qX (uhS p is b nt).1 (uhS p is b nt).2) false true e0 zH) (all_cons rfl rfl))), ⟨rfl, ⟨rfl, ⟨rfl, ⟨zcF rfl rfl, ⟨zbo rfl, ⟨zak _, ⟨(by cases true <;> rfl), ⟨rfl, ⟨rfl, ⟨rfl, ⟨rfl, ⟨rfl, ⟨rfl, ⟨rfl, ⟨rfl, ⟨rfl, ⟨rfl, ⟨rfl, ⟨rfl, ⟨rfl, ⟨rfl, ⟨rfl, ⟨rfl, ⟨rfl, ⟨rfl, ⟨rfl, trivial⟩⟩⟩⟩⟩⟩⟩⟩⟩⟩⟩⟩⟩⟩⟩⟩⟩⟩⟩⟩⟩⟩⟩⟩⟩⟩, ⟨(Option.some.inj (zaM (some m22) (fun _ => (zct _ _)))).symm, trivial⟩, ?_⟩
 refine o_b 4 [(11, pv 27 0), (59, bv true), (58, ntV nt.u b (qX (uhS p is b nt).1 (uhS p is b nt).2) false true e0 zH), (53, .tuple #[ntV nt.u b (qX (uhS p is b nt).1 (uhS p is b nt).2) false true e0 zH, bv true])] [cw (z8 1 (sv 2 0 n (n + m)) (gV 25 lz.length (some (cz, tz)))), cr [], cr (zbc n (uf i 3 8) ++ zbq m), cw (qD 4 ((uhS p is b nt).1) b 5), cw (zM ((uhS p is b nt).1) true nr (slV 26 127 (some m22))), .chan 1 (([] : List Nt).map ntE), cr [], gB l (some (c, t)), cr [], cr [], cr [], cr [], cr [], cr [], cr [], cr [], cr [], cr [], cr [], cr [], cr [], cr [], cr [], cr [], cw (ntL nt), gB lz (some (cz, tz)), slB zI (ii (zaI ((uhS p is b nt).1))) (some m22), cw (ntF 0 0 0 false false e0 zH)] (by kernel_rfl) (zc1 (by refine qQ (c' := ntF nt.u b (qX (uhS p is b nt).1 (uhS p is b nt).2) false true e0 zH) rfl rfl rfl ?_ ?_ ?_; exact qF _ _ _ _ _ _ _; exact zdf (by omega); exact zbu) ?_)
 refine o_b 1 [(12, bv true)] [cw (z8 1 (sv 2 0 n (n + m)) (gV 25 lz.length (some (cz, tz)))), cr [], cr (zbc n (uf i 3 8) ++ zbq m), cw (qD 4 ((uhS p is b nt).1) b 5), cw (zM ((uhS p is b nt).1) true nr (slV 26 127 (some m22))), .chan 1 (([] : List Nt).map ntE), cr [], gB l (some (c, t)), cr [], cr [], cr [], cr [], cr [], cr [], cr [], cr [], cr [], cr [], cr [], cr [], cr [], cr [], cr [], cr [], cw (ntL nt), gB lz (some (cz, tz)), slB zI (ii (zaI ((uhS p is b nt).1))) (some m22), cw (ntF nt.u b (qX (uhS p is b nt).1 (uhS p is b nt).2) false true e0 zH)] (by kernel_rfl) (zG (z5 [(12, bv true), (11, pv 27 0), (0, pv 0 0)] (by kernel_rfl) (zR (zV (o_d 1 [(60, bv true)] (by kernel_rfl) (zG (zC (zer rfl (zbx [cw (z8 1 (sv 2 0 n (n + m)) (gV 25 lz.length (some (cz, tz)))), cr [], cr (zbc n (uf i 3 8) ++ zbq m), cw (qD 4 ((uhS p is b nt).1) b 5), cw (zM ((uhS p is b nt).1) true nr (slV 26 127 (some m22))), .chan 1 (([] : List Nt).map ntE), cr [], gB l (some (c, t)), cr [], cr [], cr [], cr [], cr [], cr [], cr [], cr [], cr [], cr [], cr [], cr [], cr [], cr [], cr [], cr [], cw (ntL nt), gB lz (some (cz, tz)), slB zI (ii (zaI ((uhS p is b nt).1))) (some m22), cw (ntF nt.u b (qX (uhS p is b nt).1 (uhS p is b nt).2) false true e0 zH), .gone] (by kernel_rfl) (d_n 3 3 28 [(63, pv 0 2), (62, pv 0 0), (61, pv 0 0)] [cw (z8 1 (sv 2 0 n (n + m)) (gV 25 lz.length (some (cz, tz)))), cr [], cr (zbc n (uf i 3 8) ++ zbq m), cw (qD 4 ((uhS p is b nt).1) b 5), cw (zM ((uhS p is b nt).1) true nr (slV 26 127 (some m22))), .chan 1 (([] : List Nt).map ntE), cr [], gB l (some (c, t)), cr [], cr [], cr [], cr [], cr [], cr [], cr [], cr [], cr [], cr [], cr [], cr [], cr [], cr [], cr [], cr [], cw (ntL nt), gB lz (some (cz, tz)), slB zI (ii (zaI ((uhS p is b nt).1))) (some m22), cw (ntF nt.u b (qX (uhS p is b nt).1 (uhS p is b nt).2) false true e0 zH), .gone] [] (by kernel_rfl) rfl rfl (d_s rfl rfl rfl (by kernel_rfl) (by refine z4 (v := ntV nt.u b (qX (uhS p is b nt).1 (uhS p is b nt).2) false true e0 zH) rfl rfl ?_; exact zbJ nt.u b (qX (uhS p is b nt).1 (uhS p is b nt).2) false true e0 zH) ?_)))))))))))
 refine d_mk (B := cw (ntF nt.u b (qX (uhS p is b nt).1 (uhS p is b nt).2) false true e0 zH)) rfl (zg4 rfl (qF _ _ _ _ _ _ _)) rfl (by kernel_rfl) (d_clHW [0, 25, 28] [0, 25, 28, 1, 2] [cw (z8 3 (sv 4 0 n (n + m)) (gV 1 lz.length (some (cz, tz)))), gB lz (some (cz, tz)), slB zNt (zbb ([(⟨nt.u, b, qX (uhS p is b nt).1 (uhS p is b nt).2, false, true, e0, zH⟩ : Nt)])) (some 0), cr [], cr []] [pv 0 2, slV 2 (([(⟨nt.u, b, qX (uhS p is b nt).1 (uhS p is b nt).2, false, true, e0, zH⟩ : Nt)]).length) (some 0)] (putNC h_yard_row_head_Note_put lz ([(⟨nt.u, b, qX (uhS p is b nt).1 (uhS p is b nt).2, false, true, e0, zH⟩ : Nt)]) (some (cz, tz)) (some 0) n m hz (fun z => by cases z) (by first | (simp; omega) | (simp [List.length_eraseIdx]; split <;> omega))) (wr_put ..) rfl rfl ⟨⟨_, rfl, z9 (.inl (zaA rfl rfl (zaa (some (cz, tz)) rfl) (fun q => rfl)))⟩, ⟨⟨_, rfl, zcm hz⟩, ⟨⟨_, rfl, zik⟩, ⟨⟨_, rfl, zJ⟩, ⟨⟨_, rfl, zJ⟩, trivial⟩⟩⟩⟩⟩ (by decide) (ziU lz ([(⟨nt.u, b, qX (uhS p is b nt).1 (uhS p is b nt).2, false, true, e0, zH⟩ : Nt)]) (some (cz, tz)) (some 0) n m) ?_ (by kernel_rfl))
 rintro v1 h1' ⟨rfl, o26, g28, ⟨s27, rfl⟩ | ⟨s27, rfl⟩⟩
 ·skip
  refine ⟨(zA qM (zA (zgj s27) (zA zD (zA zD (zA zD qC))))), .tuple #[], [cw (z8 1 (sv 2 0 n (n + m)) (gV 25 ((lz ++ ([(⟨nt.u, b, qX (uhS p is b nt).1 (uhS p is b nt).2, false, true, e0, zH⟩ : Nt)])).length) o26)), cr [], cr (zbc n (uf i 3 8) ++ zbq m), cw (qD 4 ((uhS p is b nt).1) b 5), cw (zM ((uhS p is b nt).1) true nr (slV 26 127 (some m22))), .chan 1 (([] : List Nt).map ntE), cr [], gB l (some (c, t)), cr [], cr [], cr [], cr [], cr [], cr [], cr [], cr [], cr [], cr [], cr [], cr [], cr [], cr [], cr [], cr [], cw (ntL nt), gB (lz ++ ([(⟨nt.u, b, qX (uhS p is b nt).1 (uhS p is b nt).2, false, true, e0, zH⟩ : Nt)])) o26, slB zI (ii (zaI ((uhS p is b nt).1))) (some m22), cw (ntF nt.u b (qX (uhS p is b nt).1 (uhS p is b nt).2) false true e0 zH), cw (ntF nt.u b (qX (uhS p is b nt).1 (uhS p is b nt).2) false true e0 zH)], [], (by simp [zbF]), ⟨zaF rfl rfl (zaa o26 rfl), ⟨(by cases true <;> rfl), ⟨rfl, ⟨rfl, ⟨rfl, ⟨rfl, ⟨rfl, ⟨rfl, ⟨rfl, ⟨rfl, ⟨rfl, ⟨rfl, ⟨rfl, ⟨rfl, ⟨rfl, ⟨rfl, ⟨rfl, ⟨rfl, ⟨rfl, ⟨rfl, ⟨rfl, ⟨rfl, ⟨rfl, ⟨rfl, ⟨rfl, ⟨(by cases o26 with | none => rfl | some y9 => exact zab g28), ⟨rfl, ⟨rfl, ⟨zfB, trivial⟩⟩⟩⟩⟩⟩⟩⟩⟩⟩⟩⟩⟩⟩⟩⟩⟩⟩⟩⟩⟩⟩⟩⟩⟩⟩⟩⟩⟩, trivial, ?_⟩
  refine zb2 (zC (zR (zV (o_d 1 [(6, bv true)] (by kernel_rfl) (zG (zC (zaZ ?_)))))))
  have hD : (zdl p is b l k keep) = ((uhS p is b nt), (lz ++ ([(⟨nt.u, b, qX (uhS p is b nt).1 (uhS p is b nt).2, false, true, e0, zH⟩ : Nt)]))) := by simp [zdl, zjG, hn9, h1, h3, hlz, zem]
  have hI : (uhS p is b nt).2 = true := hE21
  have hT : (zdl p is b l k keep).1.1 = ((uhS p is b nt).1) ∧ (zdl p is b l k keep).1.2 = true ∧ (zdl p is b l k keep).2 = (lz ++ ([(⟨nt.u, b, qX (uhS p is b nt).1 (uhS p is b nt).2, false, true, e0, zH⟩ : Nt)])) := by rw [hD]; exact ⟨rfl, hI, rfl⟩
  exact ⟨trivial, [bv true], (qE rfl rfl), (zU rfl qA), rfl, ⟨reg [], [cw (z8 1 (sv 2 0 n (n + m)) (gV 25 ((lz ++ ([(⟨nt.u, b, qX (uhS p is b nt).1 (uhS p is b nt).2, false, true, e0, zH⟩ : Nt)])).length) o26)), cr [], cr (zbc n (uf i 3 8) ++ zbq m), cw (qD 4 ((uhS p is b nt).1) b 5), cw (zM ((uhS p is b nt).1) true nr (slV 24 127 (some m22))), .chan 1 (([] : List Nt).map ntE), cr [], gB l (some (c, t)), cr [], cr [], cr [], cr [], cr [], cr [], cr [], cr [], cr [], cr [], cr [], cr [], cr [], cr [], cr [], cr [], slB zI (ii (zaI ((uhS p is b nt).1))) (some m22), gB (lz ++ ([(⟨nt.u, b, qX (uhS p is b nt).1 (uhS p is b nt).2, false, true, e0, zH⟩ : Nt)])) o26]⟩, Wk.ren [0, 1, 2, 3, 4, 5, 6, 7, 8, 9, 10, 11, 12, 13, 14, 15, 16, 17, 18, 19, 20, 21, 22, 23, 26, 25] rfl rfl (by decide) trivial ⟨.inl (zas rfl rfl (zaa o26 rfl)), ⟨.inl rfl, ⟨.inl (zcG rfl (h16 rfl) hn16), ⟨.inl (za2 rfl rfl), ⟨.inl (zan rfl), ⟨.inl (congrArg some (zak _).symm), ⟨.inl rfl, ⟨.inl (congrArg some (zab ho).symm), ⟨.inl rfl, ⟨.inl rfl, ⟨.inl rfl, ⟨.inl rfl, ⟨.inl rfl, ⟨.inl rfl, ⟨.inl rfl, ⟨.inl rfl, ⟨.inl rfl, ⟨.inl rfl, ⟨.inl rfl, ⟨.inl rfl, ⟨.inl rfl, ⟨.inl rfl, ⟨.inl rfl, ⟨.inl rfl, ⟨.inl (zaM (some m22) (fun _ => (zct _ _))), ⟨.inl (congrArg some (zab g28).symm), trivial⟩⟩⟩⟩⟩⟩⟩⟩⟩⟩⟩⟩⟩⟩⟩⟩⟩⟩⟩⟩⟩⟩⟩⟩⟩⟩, (by simp [one, h1, h3]), true, (fun q => by cases q), (fun _ => by rw [hD]; exact hE21), (by rw [hT.1, hT.2.1, hT.2.2]; exact ⟨o26, gB l (some (c, t)), 25, 24, some m22, [slB zI (ii (zaI ((uhS p is b nt).1))) (some m22), gB (lz ++ ([(⟨nt.u, b, qX (uhS p is b nt).1 (uhS p is b nt).2, false, true, e0, zH⟩ : Nt)])) o26], ⟨g28, (fun z => by cases z), rfl, .inr ⟨1, rfl, rfl⟩, (by decide), .inr ⟨0, m22, _, rfl, rfl, rfl, rfl, rfl⟩⟩⟩)⟩
 refine ⟨(zA qM (zA zD (zA zD (zA zD (zA zD qC))))), .tuple #[], [cw (z8 1 (sv 2 0 n (n + m)) (gV 29 ((lz ++ ([(⟨nt.u, b, qX (uhS p is b nt).1 (uhS p is b nt).2, false, true, e0, zH⟩ : Nt)])).length) o26)), cr [], cr (zbc n (uf i 3 8) ++ zbq m), cw (qD 4 ((uhS p is b nt).1) b 5), cw (zM ((uhS p is b nt).1) true nr (slV 26 127 (some m22))), .chan 1 (([] : List Nt).map ntE), cr [], gB l (some (c, t)), cr [], cr [], cr [], cr [], cr [], cr [], cr [], cr [], cr [], cr [], cr [], cr [], cr [], cr [], cr [], cr [], cw (ntL nt), gB lz (some (cz, tz)), slB zI (ii (zaI ((uhS p is b nt).1))) (some m22), cw (ntF nt.u b (qX (uhS p is b nt).1 (uhS p is b nt).2) false true e0 zH), cw (ntF nt.u b (qX (uhS p is b nt).1 (uhS p is b nt).2) false true e0 zH)], [gB (lz ++ ([(⟨nt.u, b, qX (uhS p is b nt).1 (uhS p is b nt).2, false, true, e0, zH⟩ : Nt)])) o26], (by simp [zbF]), ⟨zaF rfl rfl (zaa o26 rfl), ⟨(by cases true <;> rfl), ⟨rfl, ⟨rfl, ⟨rfl, ⟨rfl, ⟨rfl, ⟨rfl, ⟨rfl, ⟨rfl, ⟨rfl, ⟨rfl, ⟨rfl, ⟨rfl, ⟨rfl, ⟨rfl, ⟨rfl, ⟨rfl, ⟨rfl, ⟨rfl, ⟨rfl, ⟨rfl, ⟨rfl, ⟨rfl, ⟨rfl, ⟨zab hz, ⟨rfl, ⟨rfl, ⟨zfB, trivial⟩⟩⟩⟩⟩⟩⟩⟩⟩⟩⟩⟩⟩⟩⟩⟩⟩⟩⟩⟩⟩⟩⟩⟩⟩⟩⟩⟩⟩, ⟨(zab g28), trivial⟩, ?_⟩
 refine zb2 (zC (zR (zV (o_d 1 [(6, bv true)] (by kernel_rfl) (zG (zC (zaZ ?_)))))))
 have hD : (zdl p is b l k keep) = ((uhS p is b nt), (lz ++ ([(⟨nt.u, b, qX (uhS p is b nt).1 (uhS p is b nt).2, false, true, e0, zH⟩ : Nt)]))) := by simp [zdl, zjG, hn9, h1, h3, hlz, zem]
 have hI : (uhS p is b nt).2 = true := hE21
 have hT : (zdl p is b l k keep).1.1 = ((uhS p is b nt).1) ∧ (zdl p is b l k keep).1.2 = true ∧ (zdl p is b l k keep).2 = (lz ++ ([(⟨nt.u, b, qX (uhS p is b nt).1 (uhS p is b nt).2, false, true, e0, zH⟩ : Nt)])) := by rw [hD]; exact ⟨rfl, hI, rfl⟩
 exact ⟨trivial, [bv true], (qE rfl rfl), (zU rfl qA), rfl, ⟨reg [], [cw (z8 1 (sv 2 0 n (n + m)) (gV 25 ((lz ++ ([(⟨nt.u, b, qX (uhS p is b nt).1 (uhS p is b nt).2, false, true, e0, zH⟩ : Nt)])).length) o26)), cr [], cr (zbc n (uf i 3 8) ++ zbq m), cw (qD 4 ((uhS p is b nt).1) b 5), cw (zM ((uhS p is b nt).1) true nr (slV 24 127 (some m22))), .chan 1 (([] : List Nt).map ntE), cr [], gB l (some (c, t)), cr [], cr [], cr [], cr [], cr [], cr [], cr [], cr [], cr [], cr [], cr [], cr [], cr [], cr [], cr [], cr [], slB zI (ii (zaI ((uhS p is b nt).1))) (some m22), gB (lz ++ ([(⟨nt.u, b, qX (uhS p is b nt).1 (uhS p is b nt).2, false, true, e0, zH⟩ : Nt)])) o26]⟩, Wk.ren [0, 1, 2, 3, 4, 5, 6, 7, 8, 9, 10, 11, 12, 13, 14, 15, 16, 17, 18, 19, 20, 21, 22, 23, 26, 29] rfl rfl (by decide) trivial ⟨.inl (zas rfl rfl (zaa o26 rfl)), ⟨.inl rfl, ⟨.inl (zcG rfl (h16 rfl) hn16), ⟨.inl (za2 rfl rfl), ⟨.inl (zan rfl), ⟨.inl (congrArg some (zak _).symm), ⟨.inl rfl, ⟨.inl (congrArg some (zab ho).symm), ⟨.inl rfl, ⟨.inl rfl, ⟨.inl rfl, ⟨.inl rfl, ⟨.inl rfl, ⟨.inl rfl, ⟨.inl rfl, ⟨.inl rfl, ⟨.inl rfl, ⟨.inl rfl, ⟨.inl rfl, ⟨.inl rfl, ⟨.inl rfl, ⟨.inl rfl, ⟨.inl rfl, ⟨.inl rfl, ⟨.inl (zaM (some m22) (fun _ => (zct _ _))), ⟨.inl (congrArg some (zab g28).symm), trivial⟩⟩⟩⟩⟩⟩⟩⟩⟩⟩⟩⟩⟩⟩⟩⟩⟩⟩⟩⟩⟩⟩⟩⟩⟩⟩, (by simp [one, h1, h3]), true, (fun q => by cases q), (fun _ => by rw [hD]; exact hE21), (by rw [hT.1, hT.2.1, hT.2.2]; exact ⟨o26, gB l (some (c, t)), 25, 24, some m22, [slB zI (ii (zaI ((uhS p is b nt).1))) (some m22), gB (lz ++ ([(⟨nt.u, b, qX (uhS p is b nt).1 (uhS p is b nt).2, false, true, e0, zH⟩ : Nt)])) o26], ⟨g28, (fun z => by cases z), rfl, .inr ⟨1, rfl, rfl⟩, (by decide), .inr ⟨0, m22, _, rfl, rfl, rfl, rfl, rfl⟩⟩⟩)⟩
end Go.Rh

namespace Go.Rh
section
variable {sel : List Nat} {h h1 h1' : List Blk} {ρ : Nat → Nat} {k i : Nat} {b : Blk}
theorem over_at : ∀ {sel : List Nat} {h1 : List Blk} {k i : Nat} {b : Blk}, (∀ j, sel[j]? = some k → j = i) → sel[i]? = some k → h1[i]? = some b → b.rw = true → zeX k sel h1 = some b
 | [], _, _, _, _, _, h, _, _ => by simp at h
 | _ :: _, [], _, _, _, _, _, h, _ => by simp at h
 | s :: ss, c :: cs, k, 0, b, hu, h1, h2, hr => by
  simp at h1 h2; subst h1; subst h2
  simp [zeX, hr]
 | s :: ss, c :: cs, k, i + 1, b, hu, h1, h2, hr => by
  have hs : s ≠ k := fun e => by have := hu 0 (by simp [e]); omega
  simp only [zeX, hs, false_and, if_false]
  exact over_at (i := i) (fun j hj => by have := hu (j + 1) (by simpa using hj); omega) (by simpa using h1) (by simpa using h2) hr
theorem zjg (hk : k < h.length) (hu : ∀ j, sel[j]? = some k → j = i) (h1s : sel[i]? = some k) (h2 : h1[i]? = some b) (hr : b.rw = true) : (zd4 h sel h1 ρ)[k]? = some (za5 ρ b) := by
 rw [zgU hk, over_at hu h1s h2 hr]
theorem zdM (hk : k < h.length) (hro : ∀ (j : Nat) (b : Blk), sel[j]? = some k → h1[j]? = some b → b.rw = false) : (zd4 h sel h1 ρ)[k]? = h[k]? := by
 rw [zgU hk]
 cases ho : zeX k sel h1 with
 | none => rfl
 | some b =>
  obtain ⟨j, e1, e2, e3⟩ := zdI ho
  rw [hro j b e1 e2] at e3; cases e3
theorem back_new (j : Nat) : (zd4 h sel h1 ρ)[h.length + j]? = (h1[sel.length + j]?).map (za5 ρ) := by
 rw [zbI (Nat.le_add_right _ _), Nat.add_sub_cancel_left]
theorem zeH : h.length ≤ (zd4 h sel h1 ρ).length := by unfold zd4; simp
theorem zkf {G : Nat → Prop} (hlo : ∀ (j : Nat) k, sel[j]? = some k → G k) (hl : ∀ k, h.length ≤ k → G k) : ∀ k, ¬ G k → (zd4 h sel h1 ρ)[k]? = h[k]? := fun k hk =>
 zdM (Nat.lt_of_not_le fun q => hk (hl k q)) fun i b e1 _ => absurd (hlo i k e1) hk
end
theorem zi5 {h h1 h1' : List Blk} {sel : List Nat} {n : Nat} {ρ : Nat → Nat} (hg : zex h1 h1') (hl : h1.length = sel.length) (hs : ∀ (i k : Nat) b1, sel[i]? = some k → h1[i]? = some b1 → ∃ b, h[k]? = some b ∧ Blk.view (za5 (rho sel n) b1) b) : zex h (zd4 h sel h1' ρ) := by
 intro k hk
 have hkl := zL hk
 rw [zgU hkl]
 cases ho : zeX k sel h1' with
 | none => exact hk
 | some b' =>
  obtain ⟨i, e1, e2, e3⟩ := zdI ho
  have hi := zL e1
  have e4 : h1[i]? = some (h1[i]'(by omega)) := by simp [show i < h1.length by omega]
  obtain ⟨b, hb, hv⟩ := hs i k _ e1 e4
  rw [hk] at hb; cases hb
  have hgo : h1[i]'(by omega) = .gone := by
   rcases zh2 hv with hv | ⟨hv, _⟩
   ·exact absurd rfl (zeb hv).2
   ·exact zcr.1 hv
  rw [hgo] at e4
  have := hg i e4
  rw [e2] at this
  cases this
  rfl
structure FrY (F : Nat → Prop) (h h' : List Blk) : Prop where
  fr : ∀ k, ¬ F k → h'[k]? = h[k]?
  len : h.length ≤ h'.length
  gone : zex h h'
structure US where
  p : qL
  is : Bool
  b : Int
  nr : Nat → Int × Bool
  q : Option Nat
def whB (u : US) (B : Blk) : Prop := match u.q with
 | none => ∃ c rw, B = .cells c rw
 | some c => B = slB zI (ii (zaI u.p)) (some c)
theorem whB_cells {u : US} {B : Blk} (h : whB u B) : ∃ c rw, B = .cells c rw := by
 unfold whB at h
 split at h
 ·exact h
 ·exact ⟨_, _, h⟩
theorem whB_ren {u : US} {B : Blk} {ρ : Nat → Nat} (h : whB u B) : whB u (za5 ρ B) := by
 unfold whB at h ⊢
 split at h
 ·obtain ⟨c, rw, rfl⟩ := h; exact ⟨_, _, rfl⟩
 ·subst h; exact zby (zct _ _)
def pB (n : Nat) (f : Nat → Nat) (ro : Option Nat) : Blk := slB [.pointer none] (zbc n f) ro
structure YH (n : Nat) (ro : Option Nat) (x : HS) (us : Nat → US) (l : List Nt) (o : Gr) (pl : Nat → Nat) (h : List Blk) : Prop where
  inj : ∀ a b, a < 6 + 4 * n → b < 6 + 4 * n → pl a = pl b → a = b
  ro0 : ro = none → n = 0
  y : h[pl 0]? = some (cw (z8 (pl 1) (slV (pl 4) n ro) (gV (pl 5) l.length o)))
  hd : h[pl 1]? = some (cw (zT x.p (pl 2) (pl 3) x.e x.s))
  hc : h[pl 2]? = some (.chan 200 (x.w.map qR))
  hm : h[pl 3]? = some (.map (hdM x.hd))
  ur : h[pl 4]? = some (pB n (fun j => pl (6 + 4 * j)) ro)
  way : h[pl 5]? = some (gB l o)
  ok : gOk l o
  un : ∀ j, j < n → h[pl (6 + 4 * j)]? = some (cw (qD (pl (7 + 4 * j)) (us j).p (us j).b (pl (8 + 4 * j))))
  pn : ∀ j, j < n → h[pl (7 + 4 * j)]? = some (cw (zM (us j).p (us j).is (us j).nr (slV (pl (9 + 4 * j)) 127 (us j).q)))
  ch : ∀ j, j < n → h[pl (8 + 4 * j)]? = some (.chan 1 (([] : List Nt).map ntE))
  wh : ∀ j, j < n → ∃ B, h[pl (9 + 4 * j)]? = some B ∧ whB (us j) B
theorem YH.lt {n : Nat} {ro : Option Nat} {x : HS} {us : Nat → US} {l : List Nt} {o : Gr} {pl : Nat → Nat} {h : List Blk} (Y : YH n ro x us l o pl h) {a : Nat} (ha : a < 6 + 4 * n) : pl a < h.length := by
 rcases Nat.lt_or_ge a 6 with h1 | h1
 ·match a, h1 with
  | 0, _ => exact zL Y.y
  | 1, _ => exact zL Y.hd
  | 2, _ => exact zL Y.hc
  | 3, _ => exact zL Y.hm
  | 4, _ => exact zL Y.ur
  | 5, _ => exact zL Y.way
 ·obtain ⟨j, c, rfl, hc⟩ : ∃ j c, a = 6 + c + 4 * j ∧ c < 4 := ⟨(a - 6) / 4, (a - 6) % 4, by omega, by omega⟩
  have hj : j < n := by omega
  match c, hc with
  | 0, _ => exact zL (Y.un j hj)
  | 1, _ => exact zL (Y.pn j hj)
  | 2, _ => exact zL (Y.ch j hj)
  | 3, _ => obtain ⟨B, hB, _⟩ := Y.wh j hj; exact zL hB
def YT (G : Nat → Prop) (y n : Nat) (x : HS) (us : Nat → US) (l : List Nt) (h : List Blk) : Prop :=
 ∃ m o pl, YH n (some m) x us l o pl h ∧ pl 0 = y ∧ (∀ a, a < 6 + 4 * n → G (pl a)) ∧ 1 ≤ n ∧ n ≤ 16 ∧ ∀ k, h.length ≤ k → G k
theorem getElem?_map {l : List Nat} {pl : Nat → Nat} {i k : Nat} (h : (l.map pl)[i]? = some k) : ∃ a, l[i]? = some a ∧ pl a = k := by
 rw [List.getElem?_map] at h
 cases hq : l[i]? with
 | none => rw [hq] at h; cases h
 | some a => rw [hq] at h; exact ⟨a, rfl, by simpa using h⟩
section
variable {C : zah} {g : String} {G : Nat → Prop} {y n : Nat} {x x' : HS} {us us' : Nat → US} {l l' : List Nt} {h : List Blk} {ex : List Value} {V : Value} {K : zea}
def CallF (C : zah) (g : String) (vals : List Value) (h : List Blk) (G : Nat → Prop) (hX : Prop) (S : zea) : Prop :=
 ∃ (sel : List Nat) (h1 : List Blk) (a1 : List Value) (R : zea), C g a1 h1 R ∧ h1.length = sel.length ∧ a1.map (zbF (rho sel h.length)) = vals ∧
  (∀ (i k : Nat) b1, sel[i]? = some k → h1[i]? = some b1 → ∃ b, h[k]? = some b ∧ Blk.view (za5 (rho sel h.length) b1) b) ∧
  (∀ (i j k : Nat) b1, i ≠ j → sel[i]? = some k → sel[j]? = some k → h1[i]? = some b1 → b1.rw = false) ∧
  (∀ (i k : Nat), sel[i]? = some k → G k) ∧ (hX → ∃ v h1', R v h1' ∧ sel.length ≤ h1'.length ∧ zc3 h1 h1') ∧
  ∀ v h1', R v h1' → sel.length ≤ h1'.length → zc3 h1 h1' → zex h1 h1' ∧ S (zbF (rho sel h.length) v) (zd4 h sel h1' (rho sel h.length))
theorem CallF.toK {vals : List Value} {hX : Prop} (hc : CallF C g vals h G hX K) : zcV C g vals K h := by
 obtain ⟨sel, h1, a1, R, e1, e2, e3, e4, e5, _, _, e8⟩ := hc
 exact ⟨sel, h1, a1, R, e1, e2, e3, e4, e5, e8⟩
theorem glueA0 {hX : Prop} (hY : YT G y n x us l h) (hex : ex.all vpf = true) (hV : vpf V = true)
  (hC : ∀ m o, gOk l o → ∃ R, C g (pv 0 0 :: ex) (laA n m x 5 l o ++ [gB l o]) R ∧ (∀ v h', R v h' → v = V ∧ PA n m o x' l' h') ∧ (hX → ∃ v h', R v h' ∧ 6 ≤ h'.length ∧ zc3 (laA n m x 5 l o ++ [gB l o]) h'))
  (hK : ∀ h', YT G y n x' us l' h' → FrY G h h' → K V h') : CallF C g (pv y 0 :: ex) h G hX K := by
 obtain ⟨m, o, pl, Y, rfl, hlo, h1, h16, hll⟩ := hY
 obtain ⟨R, hC, hR, hXX⟩ := hC m o Y.ok
 have hsel : ∀ (i k : Nat), ([0, 1, 2, 3, 4, 5].map pl)[i]? = some k → i < 6 ∧ pl i = k := fun i k e => by
  obtain ⟨a, e1, e2⟩ := getElem?_map e
  match i, e1 with
  | 0, e1 => simp at e1; subst e1; exact ⟨by omega, e2⟩
  | 1, e1 => simp at e1; subst e1; exact ⟨by omega, e2⟩
  | 2, e1 => simp at e1; subst e1; exact ⟨by omega, e2⟩
  | 3, e1 => simp at e1; subst e1; exact ⟨by omega, e2⟩
  | 4, e1 => simp at e1; subst e1; exact ⟨by omega, e2⟩
  | 5, e1 => simp at e1; subst e1; exact ⟨by omega, e2⟩
  | i + 6, e1 => simp at e1
 have hinj : ∀ (i j k : Nat), ([0, 1, 2, 3, 4, 5].map pl)[i]? = some k → ([0, 1, 2, 3, 4, 5].map pl)[j]? = some k → i = j := fun i j k e1 e2 => by
  obtain ⟨a1, a2⟩ := hsel i k e1
  obtain ⟨b1, b2⟩ := hsel j k e2
  exact Y.inj i j (by omega) (by omega) (a2.trans b2.symm)
 have hview := zeQ (ρ := rho ([0, 1, 2, 3, 4, 5].map pl) h.length) (h := h) (sel := [0, 1, 2, 3, 4, 5].map pl) (bs := laA n m x 5 l o ++ [gB l o]) ⟨⟨_, Y.y, z9 (.inl (zaA rfl rfl (zaa o rfl) (fun q => q)))⟩, ⟨_, Y.hd, z9 (.inl (zcn rfl rfl (fun q => q)))⟩, ⟨_, Y.hc, z9 (.inl (zco _))⟩, ⟨_, Y.hm, z9 (.inl (zdd _))⟩, ⟨_, Y.ur, .inr ⟨rfl, _, _, rfl⟩⟩, ⟨_, Y.way, zcm Y.ok⟩, trivial⟩
 refine ⟨[0, 1, 2, 3, 4, 5].map pl, laA n m x 5 l o ++ [gB l o], pv 0 0 :: ex, R, hC, rfl, ?_, hview, fun i j k b1 hij e1 e2 _ => absurd (hinj i j k e1 e2) hij, fun i k e => (let ⟨a1, a2⟩ := hsel i k e; a2 ▸ hlo i (by omega)), hXX, fun v h1' hRv hlen hfl => ?_⟩
 ·exact zaz rfl (zbe fun v hv => qN (List.all_eq_true.1 hex v hv))
 ·obtain ⟨rfl, o', X, k, T, hg', hX, hs, rfl⟩ := hR v h1' hRv
  have hgo : zex (laA n m x 5 l o ++ [gB l o]) (laA n m x' k l' o' ++ [X] ++ T) := by
   refine zA qM (zA qM (zA (fun h => by cases h) (zA (fun h => by cases h) (zA zD (zA (fun hg => ?_) qC)))))
   refine hX ?_
   cases o with
   | none => rfl
   | some z => cases hg
  refine ⟨hgo, ?_⟩
  ·rw [qN hV]
   have at_ : ∀ (i : Nat) b, i < 6 → (laA n m x' k l' o' ++ [X] ++ T)[i]? = some b → b.rw = true → (zd4 h ([0, 1, 2, 3, 4, 5].map pl) (laA n m x' k l' o' ++ [X] ++ T) (rho ([0, 1, 2, 3, 4, 5].map pl) h.length))[pl i]? = some (za5 (rho ([0, 1, 2, 3, 4, 5].map pl) h.length) b) := fun i b hi hb hr => by
    have hs' : ([0, 1, 2, 3, 4, 5].map pl)[i]? = some (pl i) := by
     match i, hi with
     | 0, _ | 1, _ | 2, _ | 3, _ | 4, _ | 5, _ => rfl
    exact zjg (Y.lt (by omega)) (fun j hj => hinj j i _ hj hs') hs' hb hr
   have keep_ : ∀ a, a < 6 + 4 * n → 6 ≤ a ∨ a = 4 → (zd4 h ([0, 1, 2, 3, 4, 5].map pl) (laA n m x' k l' o' ++ [X] ++ T) (rho ([0, 1, 2, 3, 4, 5].map pl) h.length))[pl a]? = h[pl a]? := fun a ha h6 => zdM (Y.lt ha) fun j b e1 e2 => by
    obtain ⟨a1, a2⟩ := hsel j _ e1
    have := Y.inj j a (by omega) ha a2
    have : j = 4 := by omega
    subst this
    have : b = cr [] := by simpa [laA] using e2.symm
    rw [this]; rfl
   have hpl5 : ∀ a, a < 6 + 4 * n → pl a ≠ h.length := fun a ha e => by have := Y.lt ha; omega
   refine hK _ ⟨m, o', fun a => if k = 6 ∧ a = 5 then h.length else pl a, ⟨?_, ?_, ?_, ?_, ?_, ?_, ?_, ?_, hg', ?_, ?_, ?_, ?_⟩, ?_, ?_, h1, h16, fun k hk => hll k (Nat.le_trans zeH hk)⟩ ⟨zkf (fun j k e => by obtain ⟨a1, a2⟩ := hsel j k e; rw [← a2]; exact hlo j (by omega)) hll, zeH, zi5 hgo rfl hview⟩
   ·intro a b ha hb e
    split at e <;> split at e
    ·omega
    ·exact absurd e.symm (hpl5 b hb)
    ·exact absurd e (hpl5 a ha)
    ·exact Y.inj a b ha hb e
   ·intro e; cases e
   ·have := at_ 0 _ (by omega) rfl rfl
    simp only [show ¬ (k = 6 ∧ 0 = 5) by omega, show ¬ (k = 6 ∧ 1 = 5) by omega, show ¬ (k = 6 ∧ 4 = 5) by omega, if_false]
    rw [this]
    rcases hs with ⟨rfl, rfl, rfl⟩ | ⟨rfl, rfl⟩
    ·exact congrArg some (zaF rfl rfl (zaa o' rfl))
    ·exact congrArg some (zaF rfl rfl (zaa o' (zhb (by simp))))
   ·have := at_ 1 _ (by omega) rfl rfl
    simp only [show ¬ (k = 6 ∧ 1 = 5) by omega, show ¬ (k = 6 ∧ 2 = 5) by omega, show ¬ (k = 6 ∧ 3 = 5) by omega, if_false]
    rw [this]; exact congrArg some (zcq rfl rfl)
   ·have := at_ 2 _ (by omega) rfl rfl
    simp only [show ¬ (k = 6 ∧ 2 = 5) by omega, if_false]
    rw [this]; exact congrArg some (zX _)
   ·have := at_ 3 _ (by omega) rfl rfl
    simp only [show ¬ (k = 6 ∧ 3 = 5) by omega, if_false]
    rw [this]; exact congrArg some (qI _)
   ·simp only [show ¬ (k = 6 ∧ 4 = 5) by omega, if_false]
    rw [keep_ 4 (by omega) (.inr rfl), Y.ur]
    have : (fun j => pl (6 + 4 * j)) = fun j => if k = 6 ∧ 6 + 4 * j = 5 then h.length else pl (6 + 4 * j) := by
     funext j; rw [if_neg (by omega)]
    rw [this]
   ·rcases hs with ⟨rfl, rfl, rfl⟩ | ⟨rfl, rfl⟩
    ·simp only [show ¬ (5 = 6 ∧ True) by omega, show ¬ ((5 : Nat) = 6 ∧ (5 : Nat) = 5) by omega, if_false]
     have := at_ 5 (gB l' o') (by omega) rfl (by cases o' <;> rfl)
     rw [this, zab hg']
    ·simp only [and_self, if_true]
     have := back_new (h := h) (sel := [0, 1, 2, 3, 4, 5].map pl) (h1 := laA n m x' 6 l' o' ++ [X] ++ [gB l' o']) (ρ := rho ([0, 1, 2, 3, 4, 5].map pl) h.length) 0
     rw [Nat.add_zero] at this
     rw [this]
     exact congrArg some (zab hg')
   ·intro j hj
    simp only [show ¬ (k = 6 ∧ 6 + 4 * j = 5) by omega, show ¬ (k = 6 ∧ 7 + 4 * j = 5) by omega, show ¬ (k = 6 ∧ 8 + 4 * j = 5) by omega, if_false]
    rw [keep_ _ (by omega) (.inl (by omega))]; exact Y.un j hj
   ·intro j hj
    simp only [show ¬ (k = 6 ∧ 7 + 4 * j = 5) by omega, show ¬ (k = 6 ∧ 9 + 4 * j = 5) by omega, if_false]
    rw [keep_ _ (by omega) (.inl (by omega))]; exact Y.pn j hj
   ·intro j hj
    simp only [show ¬ (k = 6 ∧ 8 + 4 * j = 5) by omega, if_false]
    rw [keep_ _ (by omega) (.inl (by omega))]; exact Y.ch j hj
   ·intro j hj
    simp only [show ¬ (k = 6 ∧ 9 + 4 * j = 5) by omega, if_false]
    rw [keep_ _ (by omega) (.inl (by omega))]; exact Y.wh j hj
   ·simp only [show ¬ (k = 6 ∧ 0 = 5) by omega, if_false]
   ·intro a ha
    show G (if k = 6 ∧ a = 5 then h.length else pl a)
    split
    ·exact hll _ (Nat.le_refl _)
    ·exact hlo a ha
theorem glueA (hY : YT G y n x us l h) (hex : ex.all vpf = true) (hV : vpf V = true)
  (hC : ∀ m o, gOk l o → ∃ R, C g (pv 0 0 :: ex) (laA n m x 5 l o ++ [gB l o]) R ∧ ∀ v h', R v h' → v = V ∧ PA n m o x' l' h')
  (hK : ∀ h', YT G y n x' us l' h' → FrY G h h' → K V h') : zcV C g (pv y 0 :: ex) K h :=
 (glueA0 (hX := False) hY hex hV (fun m o ho => let ⟨R, h1, h2⟩ := hC m o ho; ⟨R, h1, h2, fun q => q.elim⟩) hK).toK
end
end Go.Rh

namespace Go.Rh
def ixH (n i : Nat) : List Nat := (List.range 16).map fun j => if j < n ∧ j ≠ i then 6 + 4 * j else 1
def ixB (n i : Nat) : List Nat := [0, 1, 4, 6 + 4 * i, 7 + 4 * i, 8 + 4 * i, 9 + 4 * i, 5] ++ ixH n i
theorem ixH_at {n i j : Nat} (hj : j < 16) : (ixB n i)[8 + j]? = some (if j < n ∧ j ≠ i then 6 + 4 * j else 1) := by
 unfold ixB
 rw [List.getElem?_append_right (by simp)]
 simp [ixH, hj]
theorem zi2 (n i : Nat) : (ixB n i).length = 24 := by simp [ixB, ixH]
theorem zhL {n i t a : Nat} (h : (ixB n i)[t]? = some a) : (t = 0 ∧ a = 0) ∨ (t = 1 ∧ a = 1) ∨ (t = 2 ∧ a = 4) ∨ (t = 3 ∧ a = 6 + 4 * i) ∨ (t = 4 ∧ a = 7 + 4 * i) ∨ (t = 5 ∧ a = 8 + 4 * i) ∨ (t = 6 ∧ a = 9 + 4 * i) ∨ (t = 7 ∧ a = 5) ∨ (8 ≤ t ∧ t < 24 ∧ (a = 1 ∨ ∃ j, j < n ∧ j ≠ i ∧ a = 6 + 4 * j)) := by
 have hl := zL h
 rw [zi2] at hl
 rcases Nat.lt_or_ge t 8 with h8 | h8
 ·match t, h8 with
  | 0, _ => simp [ixB] at h; simp [h]
  | 1, _ => simp [ixB] at h; simp [h]
  | 2, _ => simp [ixB] at h; simp [h]
  | 3, _ => simp [ixB] at h; simp [h]
  | 4, _ => simp [ixB] at h; simp [h]
  | 5, _ => simp [ixB] at h; simp [h]
  | 6, _ => simp [ixB] at h; simp [h]
  | 7, _ => simp [ixB] at h; simp [h]
 ·obtain ⟨j, rfl⟩ : ∃ j, t = 8 + j := ⟨t - 8, by omega⟩
  rw [ixH_at (by omega)] at h
  refine .inr (.inr (.inr (.inr (.inr (.inr (.inr (.inr ⟨h8, hl, ?_⟩)))))))
  have h := Option.some.inj h
  split at h
  ·rename_i hc; exact .inr ⟨j, hc.1, hc.2, h.symm⟩
  ·exact .inl h.symm
structure PGok (n m i : Nat) (o0 : Gr) (l' : List Nt) (u0 u' : US) (h' : List Blk) (o : Gr) (X : Blk) (kl kw : Nat) (T : List Blk) : Prop where
  ok : gOk l' o
  gone : o0 = none → X = .gone
  eq : h' = laB n m i kl kw l' o u'.p u'.is u'.nr u'.b u'.q X ++ T
  way : (kl = 7 ∧ X = gB l' o) ∨ ∃ j, kl = 24 + j ∧ T[j]? = some (gB l' o)
  ne : kl ≠ kw
  whl : (kw = 6 ∧ ∀ B, whB u0 B → whB u' B) ∨ ∃ j B, kw = 24 + j ∧ T[j]? = some B ∧ whB u' B
def PG (n m i : Nat) (o0 : Gr) (l' : List Nt) (u0 u' : US) (h' : List Blk) : Prop := ∃ o X kl kw T, PGok n m i o0 l' u0 u' h' o X kl kw T
def upd1 (us : Nat → US) (i : Nat) (u : US) : Nat → US := fun j => if j = i then u else us j
theorem zi1 (n m i kl kw : Nat) (l : List Nt) (o : Gr) (p : qL) (is : Bool) (nr : Nat → Int × Bool) (b : Int) (q : Option Nat) (X : Blk) : (laB n m i kl kw l o p is nr b q X).length = 24 := by simp [laB]
theorem laB_hid {n m i kl kw : Nat} {l : List Nt} {o : Gr} {p : qL} {is : Bool} {nr : Nat → Int × Bool} {b : Int} {q : Option Nat} {X : Blk} {T : List Blk} {t : Nat} (h8 : 8 ≤ t) (ht : t < 24) : (laB n m i kl kw l o p is nr b q X ++ T)[t]? = some (cr []) := by
 rw [List.getElem?_append_left (by rw [zi1]; exact ht)]
 unfold laB
 rw [List.getElem?_append_right (by simpa using h8)]
 exact List.getElem?_replicate_of_lt (by simp; omega)
section
variable {C : zah} {g : String} {F : Nat → Prop} {y n i : Nat} {x : HS} {us : Nat → US} {l l' : List Nt} {h : List Blk} {ex : List Value} {V : Value} {K : zea}
theorem glueB2 {u' : Option Nat → US} {ok : Option Nat → Prop} (hi : i < n) (hY : YT F y n x us l h) (hex : ex.all vpf = true) (hV : vpf V = true)
  (hC : ∀ m o, gOk l o → n ≤ 16 → ∃ R, C g (pv 0 0 :: ex) (laB n m i 7 6 l o (us i).p (us i).is (us i).nr (us i).b (us i).q (gB l o)) R ∧ ∀ v h', R v h' → v = V ∧ ∃ c, ok c ∧ PG n m i o l' (us i) (u' c) h')
  (hK : ∀ c, ok c → ∀ h', YT F y n x (upd1 us i (u' c)) l' h' → FrY F h h' → K V h') : zcV C g (pv y 0 :: ex) K h := by
 obtain ⟨m, o, pl, Y, rfl, hlo, h1, h16, hll⟩ := hY
 obtain ⟨R, hC, hR⟩ := hC m o Y.ok h16
 have hix : ∀ {t a : Nat}, (ixB n i)[t]? = some a → a < 6 + 4 * n := fun {t a} e => by
  rcases zhL e with h | h | h | h | h | h | h | h | ⟨_, _, h | ⟨j, hj, _, h⟩⟩ <;> omega
 have hsel : ∀ (t a : Nat), a < 6 + 4 * n → ((ixB n i).map pl)[t]? = some (pl a) → (ixB n i)[t]? = some a := fun t a ha e => by
  obtain ⟨a', e1, e2⟩ := getElem?_map e
  have := Y.inj a' a (hix e1) ha e2
  rw [← this]; exact e1
 have huq : ∀ (t t' a : Nat), a ≠ 1 → (∀ j, a = 6 + 4 * j → j = i) → a < 6 + 4 * n → ((ixB n i).map pl)[t]? = some (pl a) → ((ixB n i).map pl)[t']? = some (pl a) → t = t' := fun t t' a h1 h2 ha e1 e2 => by
  have e1 := zhL (hsel t a ha e1)
  have e2 := zhL (hsel t' a ha e2)
  have hno : ∀ t : Nat, (8 ≤ t ∧ t < 24 ∧ (a = 1 ∨ ∃ j, j < n ∧ j ≠ i ∧ a = 6 + 4 * j)) → False := fun t q => by
   rcases q.2.2 with q | ⟨j, _, q1, q2⟩
   ·exact h1 q
   ·exact q1 (h2 j q2)
  rcases e1 with h | h | h | h | h | h | h | h | h <;> first | exact (hno _ h).elim | skip
  all_goals rcases e2 with h' | h' | h' | h' | h' | h' | h' | h' | h' <;> first | exact (hno _ h').elim | omega
 have hss : ∀ (t a : Nat), (ixB n i)[t]? = some a → ((ixB n i).map pl)[t]? = some (pl a) := fun t a e => by rw [List.getElem?_map, e]; rfl
 have hρ : ∀ (t a : Nat), (ixB n i)[t]? = some a → rho ((ixB n i).map pl) h.length t = pl a := fun t a e => zdp (hss t a e)
 have hρn : ∀ j : Nat, rho ((ixB n i).map pl) h.length (24 + j) = h.length + j := fun j => by
  rw [zhb (by rw [List.length_map, zi2]; omega), List.length_map, zi2, Nat.add_sub_cancel_left]
 have hptr : ∀ j, j < n → rho ((ixB n i).map pl) h.length (uf i 3 8 j) = pl (6 + 4 * j) := fun j hj => by
  unfold uf
  split
  ·rename_i e; subst e; exact hρ 3 _ rfl
  ·rename_i e
   refine hρ (8 + j) _ ?_
   rw [ixH_at (by omega), if_pos ⟨hj, e⟩]
 have hl24 : (laB n m i 7 6 l o (us i).p (us i).is (us i).nr (us i).b (us i).q (gB l o)).length = ((ixB n i).map pl).length := by rw [zi1, List.length_map, zi2]
 have hview : ∀ (t k : Nat) b1, ((ixB n i).map pl)[t]? = some k → (laB n m i 7 6 l o (us i).p (us i).is (us i).nr (us i).b (us i).q (gB l o))[t]? = some b1 → ∃ b, h[k]? = some b ∧ Blk.view (za5 (rho ((ixB n i).map pl) h.length) b1) b := by
  intro t k b1 e1 e2
  obtain ⟨a, e3, rfl⟩ := getElem?_map e1
  rcases zhL e3 with ⟨rfl, rfl⟩ | ⟨rfl, rfl⟩ | ⟨rfl, rfl⟩ | ⟨rfl, rfl⟩ | ⟨rfl, rfl⟩ | ⟨rfl, rfl⟩ | ⟨rfl, rfl⟩ | ⟨rfl, rfl⟩ | ⟨h8, h24, q⟩
  ·cases e2; exact ⟨_, Y.y, .inl (.inl (zaA (hρ 1 1 rfl) (by show zeJ _ (slV 2 n (some m)) = _; exact qY (some m) (hρ 2 4 rfl)) (zaa o (hρ 7 5 rfl)) (fun q => q)))⟩
  ·cases e2; exact ⟨_, Y.hd, zJ⟩
  ·cases e2
   refine ⟨_, Y.ur, .inl (.inl ?_)⟩
   show Blk.seen (za5 _ (.cells (zbc n (uf i 3 8) ++ zbq m) false)) (.cells (zbc n (fun j => pl (6 + 4 * j)) ++ zbq m) true)
   rw [zgb hptr]; exact ⟨rfl, fun q => by cases q⟩
  ·cases e2; exact ⟨_, Y.un i hi, .inl (.inl (zbO (hρ 4 _ rfl) (hρ 5 _ rfl) (fun q => q)))⟩
  ·cases e2; exact ⟨_, Y.pn i hi, .inl (.inl (zaW (qY _ (hρ 6 _ rfl)) (fun q => q)))⟩
  ·cases e2; exact ⟨_, Y.ch i hi, .inl (.inl (zcz _))⟩
  ·cases e2
   obtain ⟨B, hB, hw⟩ := Y.wh i hi
   obtain ⟨c, rw, rfl⟩ := whB_cells hw
   exact ⟨_, hB, zJ⟩
  ·cases e2; exact ⟨_, Y.way, zcm Y.ok⟩
  ·have := laB_hid (n := n) (m := m) (i := i) (kl := 7) (kw := 6) (l := l) (o := o) (p := (us i).p) (is := (us i).is) (nr := (us i).nr) (b := (us i).b) (q := (us i).q) (X := gB l o) (T := []) h8 h24
   rw [List.append_nil] at this
   rw [this] at e2; cases e2
   rcases q with rfl | ⟨j, hj, _, rfl⟩
   ·exact ⟨_, Y.hd, zJ⟩
   ·exact ⟨_, Y.un j hj, zJ⟩
 refine ⟨(ixB n i).map pl, laB n m i 7 6 l o (us i).p (us i).is (us i).nr (us i).b (us i).q (gB l o), pv 0 0 :: ex, R, hC, hl24, ?_, hview, ?_, fun v h1' hRv hlen hfl => ?_⟩
 ·exact zaz (by show pv (rho _ _ 0) 0 = _; rw [hρ 0 0 rfl]) (zbe fun v hv => qN (List.all_eq_true.1 hex v hv))
 ·intro t t' k b1 htt e1 e2 e3
  obtain ⟨a, e4, rfl⟩ := getElem?_map e1
  have ha := hix e4
  rcases zhL e4 with ⟨rfl, rfl⟩ | ⟨rfl, rfl⟩ | ⟨rfl, rfl⟩ | ⟨rfl, rfl⟩ | ⟨rfl, rfl⟩ | ⟨rfl, rfl⟩ | ⟨rfl, rfl⟩ | ⟨rfl, rfl⟩ | ⟨h8, h24, q⟩
  ·exact absurd (huq _ _ 0 (by omega) (fun j e => by omega) ha e1 e2) htt
  ·cases e3; rfl
  ·cases e3; rfl
  ·exact absurd (huq _ _ (6 + 4 * i) (by omega) (fun j e => by omega) ha e1 e2) htt
  ·exact absurd (huq _ _ (7 + 4 * i) (by omega) (fun j e => by omega) ha e1 e2) htt
  ·exact absurd (huq _ _ (8 + 4 * i) (by omega) (fun j e => by omega) ha e1 e2) htt
  ·cases e3; rfl
  ·exact absurd (huq _ _ 5 (by omega) (fun j e => by omega) ha e1 e2) htt
  ·have := laB_hid (n := n) (m := m) (i := i) (kl := 7) (kw := 6) (l := l) (o := o) (p := (us i).p) (is := (us i).is) (nr := (us i).nr) (b := (us i).b) (q := (us i).q) (X := gB l o) (T := []) h8 h24
   rw [List.append_nil] at this
   rw [this] at e3; cases e3; rfl
 ·obtain ⟨rfl, c0, hc0, o', X, kl, kw, T, G⟩ := hR v h1' hRv
  have hK := hK c0 hc0
  generalize u' c0 = u' at G hK
  have hh := G.eq
  subst hh
  have hgt : ∀ {t : Nat}, 24 ≤ t → (laB n m i kl kw l' o' u'.p u'.is u'.nr u'.b u'.q X ++ T)[t]? = T[t - 24]? := fun {t} ht => by
   rw [List.getElem?_append_right (by rw [zi1]; exact ht), zi1]
  have hgo : zex (laB n m i 7 6 l o (us i).p (us i).is (us i).nr (us i).b (us i).q (gB l o)) (laB n m i kl kw l' o' u'.p u'.is u'.nr u'.b u'.q X ++ T) := by
   intro t ht
   have htl := zL ht
   rw [zi1] at htl
   rcases Nat.lt_or_ge t 8 with h8 | h8
   ·match t, h8 with
    | 0, _ => cases ht
    | 1, _ => cases ht
    | 2, _ => cases ht
    | 3, _ => cases ht
    | 4, _ => cases ht
    | 5, _ => cases ht
    | 6, _ => cases ht
    | 7, _ =>
     have hg : gB l o = .gone := Option.some.inj ht
     have : X = .gone := G.gone (by
      cases o with
      | none => rfl
      | some z => cases hg)
     show some X = _
     rw [this]
   ·have := laB_hid (n := n) (m := m) (i := i) (kl := 7) (kw := 6) (l := l) (o := o) (p := (us i).p) (is := (us i).is) (nr := (us i).nr) (b := (us i).b) (q := (us i).q) (X := gB l o) (T := []) h8 htl
    rw [List.append_nil] at this
    rw [this] at ht; cases ht
  refine ⟨hgo, ?_⟩
  ·rw [qN hV]
   let H2 := zd4 h ((ixB n i).map pl) (laB n m i kl kw l' o' u'.p u'.is u'.nr u'.b u'.q X ++ T) (rho ((ixB n i).map pl) h.length)
   have at_ : ∀ (t a : Nat) b, (ixB n i)[t]? = some a → a ≠ 1 → (∀ j, a = 6 + 4 * j → j = i) → (laB n m i kl kw l' o' u'.p u'.is u'.nr u'.b u'.q X ++ T)[t]? = some b → b.rw = true → H2[pl a]? = some (za5 (rho ((ixB n i).map pl) h.length) b) := fun t a b e h1 h2 hb hr =>
    zjg (Y.lt (hix e)) (fun j hj => huq j t a h1 h2 (hix e) hj (hss t a e)) (hss t a e) hb hr
   have keep_ : ∀ a, a < 6 + 4 * n → a ≠ 0 → a ≠ 5 → a ≠ 6 + 4 * i → a ≠ 7 + 4 * i → a ≠ 8 + 4 * i → H2[pl a]? = h[pl a]? := fun a ha h0 h5 h6 h7 h8 => zdM (Y.lt ha) fun t b e1 e2 => by
    rcases zhL (hsel t a ha e1) with q | ⟨rfl, q⟩ | ⟨rfl, q⟩ | q | q | q | ⟨rfl, q⟩ | q | ⟨q8, q24, q⟩ <;> first | omega | skip
    ·have : b = cr [] := by simpa [laB] using e2.symm
     rw [this]; rfl
    ·have : b = cr (zbc n (uf i 3 8) ++ zbq m) := by simpa [laB] using e2.symm
     rw [this]; rfl
    ·have : b = cr [] := by simpa [laB] using e2.symm
     rw [this]; rfl
    ·rw [laB_hid q8 q24] at e2; cases e2; rfl
   have new_ : ∀ (j : Nat), H2[h.length + j]? = (T[j]?).map (za5 (rho ((ixB n i).map pl) h.length)) := fun j => by
    have := back_new (h := h) (sel := (ixB n i).map pl) (h1 := laB n m i kl kw l' o' u'.p u'.is u'.nr u'.b u'.q X ++ T) (ρ := rho ((ixB n i).map pl) h.length) j
    rw [List.length_map, zi2, hgt (by omega), Nat.add_sub_cancel_left] at this
    exact this
   have hkl : rho ((ixB n i).map pl) h.length kl = if kl = 7 then pl 5 else h.length + (kl - 24) := by
    rcases G.way with ⟨rfl, _⟩ | ⟨j, rfl, _⟩
    ·rw [if_pos rfl]; exact hρ 7 5 rfl
    ·rw [if_neg (by omega), hρn, Nat.add_sub_cancel_left]
   have hkw : rho ((ixB n i).map pl) h.length kw = if kw = 6 then pl (9 + 4 * i) else h.length + (kw - 24) := by
    rcases G.whl with ⟨rfl, _⟩ | ⟨j, B, rfl, _, _⟩
    ·rw [if_pos rfl]; exact hρ 6 _ rfl
    ·rw [if_neg (by omega), hρn, Nat.add_sub_cancel_left]
   have hlt : ∀ a, a < 6 + 4 * n → pl a < h.length := fun a ha => Y.lt ha
   have hne := G.ne
   have h24l : kl = 7 ∨ 24 ≤ kl := by rcases G.way with ⟨rfl, _⟩ | ⟨j, rfl, _⟩ <;> omega
   have h24w : kw = 6 ∨ 24 ≤ kw := by rcases G.whl with ⟨rfl, _⟩ | ⟨j, B, rfl, _, _⟩ <;> omega
   let P2 : Nat → Nat := fun a => if a = 5 then (if kl = 7 then pl 5 else h.length + (kl - 24)) else if a = 9 + 4 * i then (if kw = 6 then pl (9 + 4 * i) else h.length + (kw - 24)) else pl a
   have p5 : P2 5 = if kl = 7 then pl 5 else h.length + (kl - 24) := if_pos rfl
   have p9 : P2 (9 + 4 * i) = if kw = 6 then pl (9 + 4 * i) else h.length + (kw - 24) := by
    show (if 9 + 4 * i = 5 then _ else _) = _
    rw [if_neg (by omega), if_pos rfl]
   have pn_ : ∀ a, a ≠ 5 → a ≠ 9 + 4 * i → P2 a = pl a := fun a h5 h9 => by
    show (if a = 5 then _ else _) = _
    rw [if_neg h5, if_neg h9]
   have plo : ∀ a, a < 6 + 4 * n → F (P2 a) := fun a ha => by
    by_cases h5 : a = 5
    ·subst h5; rw [p5]; split
     ·exact hlo 5 (by omega)
     ·exact hll _ (Nat.le_add_right _ _)
    by_cases h9 : a = 9 + 4 * i
    ·subst h9; rw [p9]; split
     ·exact hlo _ (by omega)
     ·exact hll _ (Nat.le_add_right _ _)
    rw [pn_ a h5 h9]; exact hlo a ha
   refine hK H2 ⟨m, o', P2, ⟨?_, (fun e => by cases e), ?_, ?_, ?_, ?_, ?_, ?_, G.ok, ?_, ?_, ?_, ?_⟩, pn_ 0 (by omega) (by omega), plo, h1, h16, fun k hk => hll k (Nat.le_trans zeH hk)⟩ ⟨zkf (fun j k e => by
    obtain ⟨a, e1, rfl⟩ := getElem?_map e; exact hlo a (hix e1)) hll, zeH, zi5 hgo hl24 hview⟩
   ·intro a b ha hb e
    have key : ∀ a, a < 6 + 4 * n → (a ≠ 5 ∧ a ≠ 9 + 4 * i ∧ P2 a = pl a ∧ P2 a < h.length) ∨ (a = 5 ∧ ((kl = 7 ∧ P2 a = pl a) ∨ (24 ≤ kl ∧ P2 a = h.length + (kl - 24)))) ∨ (a = 9 + 4 * i ∧ ((kw = 6 ∧ P2 a = pl a) ∨ (24 ≤ kw ∧ P2 a = h.length + (kw - 24)))) := fun a ha => by
     by_cases h5 : a = 5
     ·subst h5
      refine .inr (.inl ⟨rfl, ?_⟩)
      rw [p5]
      rcases h24l with q | q
      ·exact .inl ⟨q, if_pos q⟩
      ·exact .inr ⟨q, if_neg (by omega)⟩
     by_cases h9 : a = 9 + 4 * i
     ·subst h9
      refine .inr (.inr ⟨rfl, ?_⟩)
      rw [p9]
      rcases h24w with q | q
      ·exact .inl ⟨q, if_pos q⟩
      ·exact .inr ⟨q, if_neg (by omega)⟩
     exact .inl ⟨h5, h9, pn_ a h5 h9, by rw [pn_ a h5 h9]; exact hlt a ha⟩
    have ka := key a ha
    have kb := key b hb
    have la := hlt a ha
    have lb := hlt b hb
    rcases ka with ⟨a1, a2, a3, a4⟩ | ⟨a1, ⟨a2, a3⟩ | ⟨a2, a3⟩⟩ | ⟨a1, ⟨a2, a3⟩ | ⟨a2, a3⟩⟩ <;> rcases kb with ⟨b1, b2, b3, b4⟩ | ⟨b1, ⟨b2, b3⟩ | ⟨b2, b3⟩⟩ | ⟨b1, ⟨b2, b3⟩ | ⟨b2, b3⟩⟩ <;> first | omega | exact Y.inj a b ha hb (a3.symm.trans (e.trans b3))
   ·have := at_ 0 0 _ rfl (by omega) (fun j e => by omega) rfl rfl
    rw [pn_ 0 (by omega) (by omega), pn_ 1 (by omega) (by omega), pn_ 4 (by omega) (by omega), p5, this]
    exact congrArg some (zaF (hρ 1 1 rfl) (by show zeJ _ (slV 2 n (some m)) = _; exact qY (some m) (hρ 2 4 rfl)) (zaa o' hkl))
   ·rw [pn_ 1 (by omega) (by omega), pn_ 2 (by omega) (by omega), pn_ 3 (by omega) (by omega), keep_ 1 (by omega) (by omega) (by omega) (by omega) (by omega) (by omega)]
    exact Y.hd
   ·rw [pn_ 2 (by omega) (by omega), keep_ 2 (by omega) (by omega) (by omega) (by omega) (by omega) (by omega)]
    exact Y.hc
   ·rw [pn_ 3 (by omega) (by omega), keep_ 3 (by omega) (by omega) (by omega) (by omega) (by omega) (by omega)]
    exact Y.hm
   ·rw [pn_ 4 (by omega) (by omega), keep_ 4 (by omega) (by omega) (by omega) (by omega) (by omega) (by omega), Y.ur]
    have : (fun j => pl (6 + 4 * j)) = fun j => P2 (6 + 4 * j) := by
     funext j; rw [pn_ _ (by omega) (by omega)]
    rw [this]
   ·rw [p5]
    rcases G.way with ⟨hk7, rfl⟩ | ⟨j, hk, hT⟩
    ·rw [if_pos hk7, at_ 7 5 _ rfl (by omega) (fun j e => by omega) rfl (by cases o' <;> rfl), zab G.ok]
    ·rw [if_neg (by omega), show kl - 24 = j by omega, new_ j, hT]
     exact congrArg some (zab G.ok)
   ·intro j hj
    by_cases hji : j = i
    ·subst hji
     rw [pn_ _ (by omega) (by omega), pn_ _ (by omega) (by omega), pn_ _ (by omega) (by omega), at_ 3 _ _ rfl (by omega) (fun j' e => by omega) rfl rfl]
     simp only [upd1, if_true]
     exact congrArg some (zcF (hρ 4 _ rfl) (hρ 5 _ rfl))
    ·rw [pn_ _ (by omega) (by omega), pn_ _ (by omega) (by omega), pn_ _ (by omega) (by omega), keep_ _ (by omega) (by omega) (by omega) (by omega) (by omega) (by omega)]
     simp only [upd1, hji, if_false]; exact Y.un j hj
   ·intro j hj
    by_cases hji : j = i
    ·subst hji
     rw [pn_ _ (by omega) (by omega), p9, at_ 4 _ _ rfl (by omega) (fun j' e => by omega) rfl rfl]
     simp only [upd1, if_true]
     exact congrArg some (zbo (qY _ hkw))
    ·rw [pn_ _ (by omega) (by omega), pn_ _ (by omega) (by omega), keep_ _ (by omega) (by omega) (by omega) (by omega) (by omega) (by omega)]
     simp only [upd1, hji, if_false]; exact Y.pn j hj
   ·intro j hj
    by_cases hji : j = i
    ·subst hji
     rw [pn_ _ (by omega) (by omega), at_ 5 _ _ rfl (by omega) (fun j' e => by omega) rfl rfl]
     exact congrArg some (zak _)
    ·rw [pn_ _ (by omega) (by omega), keep_ _ (by omega) (by omega) (by omega) (by omega) (by omega) (by omega)]
     exact Y.ch j hj
   ·intro j hj
    by_cases hji : j = i
    ·subst hji
     simp only [upd1, if_true]
     rw [p9]
     rcases G.whl with ⟨hk6, hw⟩ | ⟨j', B, hk, hT, hw⟩
     ·obtain ⟨B, hB, hwB⟩ := Y.wh j hj
      rw [if_pos hk6, keep_ _ (by omega) (by omega) (by omega) (by omega) (by omega) (by omega)]
      exact ⟨B, hB, hw B hwB⟩
     ·rw [if_neg (by omega), show kw - 24 = j' by omega, new_ j', hT]
      exact ⟨_, rfl, whB_ren hw⟩
    ·rw [pn_ _ (by omega) (by omega), keep_ _ (by omega) (by omega) (by omega) (by omega) (by omega) (by omega)]
     simp only [upd1, hji, if_false]; exact Y.wh j hj
theorem glueB {u' : US} (hi : i < n) (hY : YT F y n x us l h) (hex : ex.all vpf = true) (hV : vpf V = true)
  (hC : ∀ m o, gOk l o → n ≤ 16 → ∃ R, C g (pv 0 0 :: ex) (laB n m i 7 6 l o (us i).p (us i).is (us i).nr (us i).b (us i).q (gB l o)) R ∧ ∀ v h', R v h' → v = V ∧ PG n m i o l' (us i) u' h')
  (hK : ∀ h', YT F y n x (upd1 us i u') l' h' → FrY F h h' → K V h') : zcV C g (pv y 0 :: ex) K h :=
 glueB2 (u' := fun _ => u') (ok := fun _ => True) hi hY hex hV (fun m o ho h16 => let ⟨R, h1, h2⟩ := hC m o ho h16; ⟨R, h1, fun v h' hr => ⟨(h2 v h' hr).1, none, trivial, (h2 v h' hr).2⟩⟩) (fun _ _ => hK)
end
end Go.Rh

namespace Go.Rh
structure YCode (P : Program) : Prop where
  h_yard_Yard_Notes : zbz P
  h_yard_Yard_Pool : zcN P
  h_head_Head_Pool : zca P
  h_yard_Yard_Wish : zcL P
  h_head_Head_Wish : zb8 P
  h_head_Head_waiting : zbj P
  h_pool_All : zc2 P
  h_pool_Apply : zaU P
  h_pool_may : za3 P
  h_pool_held : zaT P
  h_pool_fits : za1 P
  h_pool_Check : zaO P
  h_pool_placed : zau P
  h_cookie_Next : zaC P
  h_yard_Yard_Tick : zcM P
  h_head_Head_Send : zb9 P
  h_head_Head_all : zbP P
  h_head_Head_publish : zbk P
  h_yard_row_head_Note_put : zaL P
  h_yard_Yard_Lose : zcO P
  h_yard_row_head_Note_at : zap P
  h_yard_row_head_Note_drop : zar P
  h_yard_Yard_Version : zb1 P
  h_yard_row_yard_unit_at : zae P
  h_plane_Plane_Version : zaB P
  h_yard_Yard_Crash : zcB P
  h_plane_Plane_Crash : zbD P
  h_yard_Yard_Deliver : zbB P
  h_head_Head_Heard : zbA P
  h_yard_unit_hear : zb7 P
  h_yard_unit_version : zbi P
  h_yard_unit_load : zbH P
  h_plane_Plane_Load : za9 P
  h_plane_maybe_api_Pool_lay : zad P
  h_wheel_Make : zbV P
  h_wheel_spun : zbw P
  h_sip_Words : zbC P
  h_sip_Of : zcP P
  h_sip_number_byte : zag P
  h_sip_state_take : zao P
  h_sip_state_rounds : qV P
  h_sip_state_round : qW P
  h_math_bits_RotateLeft64 : zY P
  h_head_New : zed P
  h_plane_New : zff P
  h_yard_New : zhK P
  h_yard_row_yard_unit_put : zbp P
structure UP where
  p : qL
  is : Bool
  b : Int
  nr : Nat → Int × Bool
structure YS where
  n : Nat
  x : HS
  us : Nat → UP
  l : List Nt
def UP.u (v : UP) (q : Option Nat) : US := ⟨v.p, v.is, v.b, v.nr, q⟩
def YP (F : Nat → Prop) (y : Nat) (s : YS) (h : List Blk) : Prop := ∃ q : Nat → Option Nat, (∀ j, j < s.n → (s.us j).is = true → (q j).isSome = true) ∧ YT F y s.n s.x (fun j => (s.us j).u (q j)) s.l h
def updU (us : Nat → UP) (i : Nat) (u : UP) : Nat → UP := fun j => if j = i then u else us j
def zaJ (s : YS) : YS := { s with x := (zam s.x).1, l := s.l ++ (zam s.x).2 }
def zdu (s : YS) (k : Int) : YS := { s with l := zgr s.l k }
def crashU (u : UP) : UP := ⟨zH, false, i64.wrap (u.b + 1), nr0⟩
def inU (n : Nat) (u : Int) : Bool := decide (0 ≤ u ∧ u < n)
def zbr (s : YS) (u : Int) : YS := if inU s.n u = true then { s with us := updU s.us u.toNat (crashU (s.us u.toNat)) } else s
def zfq (u : UP) (n : Nt) : UP := ⟨(uhS u.p u.is u.b n).1, (uhS u.p u.is u.b n).2, u.b, u.nr⟩
def zaV (s : YS) (k : Int) (keep : Bool) : YS :=
 if (atS s.l k).2 = true then
  (if (atS s.l k).1.a = true then { s with x := zfg s.x (atS s.l k).1, l := zem s.l k keep }
  else { s with us := updU s.us (atS s.l k).1.u.toNat (zfq (s.us (atS s.l k).1.u.toNat) (atS s.l k).1), l := zem s.l k keep ++ [zjG (atS s.l k).1.u (s.us (atS s.l k).1.u.toNat).b (uhS (s.us (atS s.l k).1.u.toNat).p (s.us (atS s.l k).1.u.toNat).is (s.us (atS s.l k).1.u.toNat).b (atS s.l k).1)] })
 else s
def zeP (s : YS) (u : Int) : Int × Bool := if inU s.n u = true then ((s.us u.toNat).p 0, (s.us u.toNat).is) else (0, false)
def NOK (s : YS) : Prop := ∀ nt ∈ s.l, nt.a = false → 0 ≤ nt.u ∧ nt.u < s.n
section
variable {P : Program} {F : Nat → Prop} {y : Nat} {s : YS} {h : List Blk} {K : zea}
theorem YP.fun_eq {n : Nat} {x : HS} {us us' : Nat → US} {l : List Nt} (h1 : YT F y n x us l h) (he : us = us') : YT F y n x us' l h := he ▸ h1
theorem YP.of {q : Nat → Option Nat} {x' : HS} {l' : List Nt} {h' : List Blk} (hq : ∀ j, j < s.n → (s.us j).is = true → (q j).isSome = true) (hY : YT F y s.n x' (fun j => (s.us j).u (q j)) l' h') : YP F y { s with x := x', l := l' } h' := ⟨q, hq, hY⟩
theorem YNotesK (H : YCode P) (hY : YP F y s h) (hK : ∀ h', YP F y s h' → FrY F h h' → K (iv (s.l.length : Nat)) h') : zcV (Env P) "(*roundhouse/yard.Yard).Notes" [pv y 0] K h := by
 obtain ⟨q, hq, hY⟩ := hY
 refine glueA (ex := []) (V := iv (s.l.length : Nat)) (x' := s.x) (l' := s.l) hY rfl rfl (fun m o ho => ⟨_, YNotesAC H.h_yard_Yard_Notes s.x.p s.x.w s.x.hd s.x.e s.x.s s.n m s.l o ho, ?_⟩) (fun h' hT => hK h' (YP.of hq hT))
 rintro v h' ⟨rfl, rfl⟩
 exact ⟨rfl, o, gB s.l o, 5, [], ho, (fun z => by subst z; rfl), .inl ⟨rfl, rfl, rfl⟩, rfl⟩
theorem YTickK (H : YCode P) (hY : YP F y s h) (hl : s.l.length ≤ 900000) (hh : s.x.hd.length ≤ 1000) (hK : ∀ h', YP F y (zaJ s) h' → FrY F h h' → K (iv ((zaJ s).l.length : Nat)) h') : zcV (Env P) "(*roundhouse/yard.Yard).Tick" [pv y 0] K h := by
 obtain ⟨q, hq, hY⟩ := hY
 refine glueA (ex := []) (V := iv ((zaJ s).l.length : Nat)) (x' := (zaJ s).x) (l' := (zaJ s).l) hY rfl rfl (fun m o ho => ⟨_, YTickC H.h_yard_Yard_Tick H.h_head_Head_Send H.h_head_Head_all H.h_head_Head_publish H.h_pool_Apply H.h_pool_may H.h_pool_held H.h_pool_fits H.h_pool_Check H.h_pool_placed H.h_cookie_Next H.h_yard_row_head_Note_put H.h_yard_Yard_Notes s.x.p s.x.w s.x.hd s.x.e s.x.s s.n m s.l o ho hl hh, ?_⟩) (fun h' hT => hK h' (YP.of hq hT))
 rintro v h' ⟨rfl, hp⟩
 exact ⟨rfl, hp⟩
theorem YLoseK (H : YCode P) (hY : YP F y s h) (hl : s.l.length ≤ 900000) (k : Int) (hK : ∀ h', YP F y (zdu s k) h' → FrY F h h' → K (bv (atS s.l k).2) h') : zcV (Env P) "(*roundhouse/yard.Yard).Lose" [pv y 0, iv k] K h := by
 obtain ⟨q, hq, hY⟩ := hY
 refine glueA (ex := [iv k]) (V := bv (atS s.l k).2) (x' := s.x) (l' := zgr s.l k) hY rfl rfl (fun m o ho => ⟨_, YLoseC H.h_yard_Yard_Lose H.h_yard_row_head_Note_at H.h_yard_row_head_Note_drop s.x.p s.x.w s.x.hd s.x.e s.x.s s.n m s.l o ho hl k, ?_⟩) (fun h' hT => hK h' (YP.of hq hT))
 rintro v h' ⟨rfl, hp⟩
 exact ⟨rfl, hp⟩
theorem YVersionK (H : YCode P) (hY : YP F y s h) (u : Int) (hK : ∀ h', YP F y s h' → FrY F h h' → K (.tuple #[iv (zeP s u).1, bv (zeP s u).2]) h') : zcV (Env P) "(*roundhouse/yard.Yard).Version" [pv y 0, iv u] K h := by
 obtain ⟨q, hq, hY⟩ := hY
 have h1n : 1 ≤ s.n := by obtain ⟨_, _, _, _, _, _, h1, _⟩ := hY; exact h1
 obtain ⟨i, hi, hui⟩ : ∃ i : Nat, i < s.n ∧ (0 ≤ u ∧ u < (s.n : Nat) → u = (i : Nat)) := by
  by_cases hu : 0 ≤ u ∧ u < (s.n : Nat)
  ·exact ⟨u.toNat, by omega, fun _ => by omega⟩
  ·exact ⟨0, h1n, fun q => absurd q hu⟩
 refine glueB (i := i) (u' := (s.us i).u (q i)) (l' := s.l) (ex := [iv u]) (V := .tuple #[iv (zeP s u).1, bv (zeP s u).2]) hi hY rfl rfl (fun m o ho h16 => ⟨_, YVersionC H.h_yard_Yard_Version H.h_yard_row_yard_unit_at H.h_plane_Plane_Version s.n m i h16 hi s.l o ho (s.us i).p (s.us i).is (s.us i).nr (s.us i).b (q i) u hui, ?_⟩) (fun h' hT => hK h' ⟨q, hq, ?_⟩)
 ·rintro v h' ⟨rfl, rfl⟩
  refine ⟨?_, o, gB s.l o, 7, 6, [], ⟨ho, (fun z => by subst z; rfl), rfl, .inl ⟨rfl, rfl⟩, by decide, .inl ⟨rfl, fun B hB => hB⟩⟩⟩
  unfold zeP inU
  by_cases hu : 0 ≤ u ∧ u < (s.n : Nat)
  ·rw [if_pos hu, if_pos (decide_eq_true hu), show u.toNat = i by have := hui hu; omega]
  ·rw [if_neg hu, if_neg (by simpa using hu)]
 ·refine YP.fun_eq hT ?_
  funext j
  unfold upd1; split
  ·rename_i e; rw [e]
  ·rfl
theorem YCrashK (H : YCode P) (hY : YP F y s h) (u : Int) (hK : ∀ h', YP F y (zbr s u) h' → FrY F h h' → K (bv (inU s.n u)) h') : zcV (Env P) "(*roundhouse/yard.Yard).Crash" [pv y 0, iv u] K h := by
 obtain ⟨q, hq, hY⟩ := hY
 have h1n : 1 ≤ s.n := by obtain ⟨_, _, _, _, _, _, h1, _⟩ := hY; exact h1
 by_cases hu : 0 ≤ u ∧ u < (s.n : Nat)
 ·have hin : inU s.n u = true := decide_eq_true hu
  refine glueB (i := u.toNat) (u' := (crashU (s.us u.toNat)).u none) (l' := s.l) (ex := [iv u]) (V := bv (inU s.n u)) (by omega) hY rfl rfl (fun m o ho h16 => ⟨_, YCrashC H.h_yard_Yard_Crash H.h_yard_row_yard_unit_at H.h_plane_Plane_Crash s.n m u.toNat h16 (by omega) s.l o ho (s.us u.toNat).p (s.us u.toNat).is (s.us u.toNat).nr (s.us u.toNat).b (q u.toNat) u (fun _ => by omega), ?_⟩) (fun h' hT => hK h' ⟨fun j => if j = u.toNat then none else q j, ?_, ?_⟩)
  ·rintro v h' (⟨rfl, _, rfl⟩ | ⟨_, hn, _⟩)
   ·exact ⟨by rw [hin], o, gB s.l o, 7, 6, [], ⟨ho, (fun z => by subst z; rfl), rfl, .inl ⟨rfl, rfl⟩, by decide, .inl ⟨rfl, fun B hB => whB_cells hB⟩⟩⟩
   ·exact absurd hu hn
  ·intro j hj his
   unfold zbr at hj his
   rw [if_pos hin] at hj his
   simp only [updU] at his
   by_cases e : j = u.toNat
   ·rw [if_pos e] at his; cases his
   ·rw [if_neg e] at his; simp only [e, if_false]; exact hq j hj his
  ·unfold zbr; rw [if_pos hin]
   refine YP.fun_eq hT ?_
   funext j
   unfold upd1 updU
   by_cases e : j = u.toNat <;> simp [e]
 ·have hin : inU s.n u = false := decide_eq_false hu
  refine glueB (i := 0) (u' := (s.us 0).u (q 0)) (l' := s.l) (ex := [iv u]) (V := bv (inU s.n u)) h1n hY rfl rfl (fun m o ho h16 => ⟨_, YCrashC H.h_yard_Yard_Crash H.h_yard_row_yard_unit_at H.h_plane_Plane_Crash s.n m 0 h16 h1n s.l o ho (s.us 0).p (s.us 0).is (s.us 0).nr (s.us 0).b (q 0) u (fun q => absurd q hu), ?_⟩) (fun h' hT => hK h' ⟨q, ?_, ?_⟩)
  ·rintro v h' (⟨_, hn, _⟩ | ⟨rfl, _, rfl⟩)
   ·exact absurd hn hu
   ·exact ⟨by rw [hin], o, gB s.l o, 7, 6, [], ⟨ho, (fun z => by subst z; rfl), rfl, .inl ⟨rfl, rfl⟩, by decide, .inl ⟨rfl, fun B hB => hB⟩⟩⟩
  ·unfold zbr; rw [if_neg (by rw [hin]; simp)]; exact hq
  ·unfold zbr; rw [if_neg (by rw [hin]; simp)]
   refine YP.fun_eq hT ?_
   funext j
   unfold upd1; split
   ·rename_i e; rw [e]
   ·rfl
theorem atS_mem {l : List Nt} {k : Int} (h : (atS l k).2 = true) : (atS l k).1 ∈ l := by
 have hin := atS_in h
 unfold atS
 rw [if_pos hin]
 exact List.mem_of_getElem? (nts_get (l := l) (k := k.toNat) (by omega))
theorem zhx (H : YCode P) (hY : YP F y s h) (hl : s.l.length ≤ 900000) (hN : NOK s) (k : Int) (keep : Bool) (hK : ∀ h', YP F y (zaV s k keep) h' → FrY F h h' → K (bv (atS s.l k).2) h') : zcV (Env P) "(*roundhouse/yard.Yard).Deliver" [pv y 0, iv k, bv keep] K h := by
 obtain ⟨q, hq, hY⟩ := hY
 by_cases hack : (atS s.l k).2 = true → (atS s.l k).1.a = true
 ·refine glueA (ex := [iv k, bv keep]) (V := bv (atS s.l k).2) (x' := (ackS s.x s.l k keep).1) (l' := (ackS s.x s.l k keep).2) hY rfl rfl (fun m o ho => ⟨_, YDeliverAC H.h_yard_Yard_Deliver H.h_yard_row_head_Note_at H.h_yard_row_head_Note_drop H.h_head_Head_Heard s.x.p s.x.w s.x.hd s.x.e s.x.s s.n m s.l o ho hl k keep hack, ?_⟩) (fun h' hT => hK h' ?_)
  ·rintro v h' ⟨rfl, hp⟩
   exact ⟨rfl, hp⟩
  ·have : zaV s k keep = { s with x := (ackS s.x s.l k keep).1, l := (ackS s.x s.l k keep).2 } := by
    unfold zaV ackS
    by_cases hf : (atS s.l k).2 = true
    ·rw [if_pos hf, if_pos hf, if_pos (hack hf)]; rfl
    ·rw [if_neg hf, if_neg hf]
   rw [this]
   exact YP.of hq hT
 ·have hf : (atS s.l k).2 = true := Decidable.byContradiction fun e => hack fun q => absurd q e
  have ha : (atS s.l k).1.a = false := by
   cases e : (atS s.l k).1.a with
   | true => exact absurd (fun _ => e) hack
   | false => rfl
  obtain ⟨hu0, hun⟩ := hN _ (atS_mem hf) ha
  obtain ⟨i, hi⟩ : ∃ i : Nat, (atS s.l k).1.u = (i : Nat) := ⟨(atS s.l k).1.u.toNat, by omega⟩
  have hin : i < s.n := by omega
  have hd : ∀ ld, zdl (s.us i).p (s.us i).is (s.us i).b s.l k keep = ld → ld = (uhS (s.us i).p (s.us i).is (s.us i).b (atS s.l k).1, zem s.l k keep ++ [zjG (atS s.l k).1.u (s.us i).b (uhS (s.us i).p (s.us i).is (s.us i).b (atS s.l k).1)]) := by
   rintro ld rfl
   unfold zdl; rw [if_pos hf]; rfl
  have hds : zaV s k keep = { s with us := updU s.us i (zfq (s.us i) (atS s.l k).1), l := zem s.l k keep ++ [zjG (atS s.l k).1.u (s.us i).b (uhS (s.us i).p (s.us i).is (s.us i).b (atS s.l k).1)] } := by
   unfold zaV
   rw [if_pos hf, if_neg (by rw [ha]; simp), show (atS s.l k).1.u.toNat = i by omega]
  -- the capacity of the new wheel is not known ahead: one contract, its answers by cases
  have key := fun m o ho h16 => YDeliverBC H.h_yard_Yard_Deliver H.h_yard_row_head_Note_at H.h_yard_row_head_Note_drop H.h_yard_row_yard_unit_at H.h_yard_unit_hear H.h_yard_unit_version H.h_plane_Plane_Version H.h_yard_unit_load H.h_plane_Plane_Load H.h_plane_maybe_api_Pool_lay H.h_wheel_Make H.h_wheel_spun H.h_sip_Words H.h_sip_Of H.h_sip_number_byte H.h_sip_state_take H.h_sip_state_rounds H.h_sip_state_round H.h_math_bits_RotateLeft64 H.h_pool_Apply H.h_pool_may H.h_pool_held H.h_pool_fits H.h_pool_Check H.h_pool_placed H.h_cookie_Next H.h_yard_row_head_Note_put H.h_head_Head_Heard s.n m i h16 hin s.l o ho hl (s.us i).p (s.us i).is (s.us i).nr (s.us i).b (q i) k keep (fun _ => ⟨ha, hi⟩) (atS s.l k).1 rfl
  refine glueB2 (i := i) (u' := fun c => (zfq (s.us i) (atS s.l k).1).u c) (ok := fun c => (uhS (s.us i).p (s.us i).is (s.us i).b (atS s.l k).1).2 = true → c.isSome = true) (l' := zem s.l k keep ++ [zjG (atS s.l k).1.u (s.us i).b (uhS (s.us i).p (s.us i).is (s.us i).b (atS s.l k).1)]) (ex := [iv k, bv keep]) (V := bv (atS s.l k).2) hin hY rfl rfl (fun m o ho h16 => ⟨_, key m o ho h16, ?_⟩) (fun c hc h' hT => hK h' ?_)
  ·rintro v h' ⟨rfl, ld, e1, e2, o', X, kl, kw, qw, T, G⟩
   have hdd := hd _ rfl
   rw [hdd] at G e1 e2
   refine ⟨rfl, qw, ?_, o', X, kl, kw, T, ⟨G.ok, G.gone, G.eq, G.way, G.ne, ?_⟩⟩
   ·intro his
    rcases G.whl with ⟨hld, _, hqw⟩ | ⟨j, c, B, _, _, hqw, _, _⟩
    ·have := e1 hld
     simp only at this
     rw [this] at his
     rw [hqw]; exact hq i hin his
    ·rw [hqw]; rfl
   ·rcases G.whl with ⟨hld, hkw, hqw⟩ | ⟨j, c, B, hld, hkw, hqw, hT, hB⟩
    ·refine .inl ⟨hkw, fun B hB => ?_⟩
     have e1 := e1 hld
     simp only at e1
     subst hqw
     unfold whB at hB ⊢
     simp only [UP.u, zfq, e1] at hB ⊢
     exact hB
    ·refine .inr ⟨j, B, hkw, hT, ?_⟩
     subst hqw
     unfold whB
     simp only [UP.u, zfq]
     exact hB
  ·rw [hds]
   refine ⟨fun j => if j = i then c else q j, ?_, ?_⟩
   ·intro j hj his
    simp only [updU] at his
    by_cases e : j = i
    ·rw [if_pos e] at his; simp only [e, if_true]; exact hc his
    ·rw [if_neg e] at his; simp only [e, if_false]; exact hq j hj his
   ·refine YP.fun_eq hT ?_
    funext j
    unfold upd1 updU
    by_cases e : j = i <;> simp [e]
end
end Go.Rh
