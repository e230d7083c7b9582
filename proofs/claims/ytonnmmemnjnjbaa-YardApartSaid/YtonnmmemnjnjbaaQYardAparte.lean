/- The proofs zeB the intermediate form, part QYardAparte. -/
import Derived.Test.YtonnmmemnjnjbaaQYardApartd
import Derived.Test.YtonnmmemnjnjbaaQYardApartc
open Go.IntKind (i64)
set_option linter.unusedVariables false
set_option linter.unusedSimpArgs false
set_option maxRecDepth 100000
set_option maxHeartbeats 8000000
namespace Go.Rh
theorem atU1C {P : Program} (hc : qT P) (n m i lw : Nat) (o : Gr) (u : Int) (hu : u = (i : Nat)) (hi : i < n) :
  Env P "(*roundhouse/yard.row[*roundhouse/yard.unit]).at" [pv 0 1, iv u] ([cr (zY 2 (sv 1 0 n (n + m)) (gV 3 lw o)), cr (zaY n (uf i 4 5) ++ zbe m), cr [], hidB o.isSome, cr [], cr [], cr [], cr [], cr [], cr [], cr [], cr [], cr [], cr [], cr [], cr [], cr [], cr [], cr [], cr [], cr []]) (fun v h' => v = .tuple #[pv 4 0, bv true] ∧ h' = [cr (zY 2 (sv 1 0 n (n + m)) (gV 3 lw o)), cr (zaY n (uf i 4 5) ++ zbe m), cr [], hidB o.isSome, cr [], cr [], cr [], cr [], cr [], cr [], cr [], cr [], cr [], cr [], cr [], cr [], cr [], cr [], cr [], cr [], cr []]) := by
 have h := atUC hc n m i lw o u
 have e : (if 0 ≤ u ∧ u < (n : Nat) then Value.tuple #[pv (uf i 4 5 u.toNat) 0, bv true] else .tuple #[.pointer none, bv false]) = .tuple #[pv 4 0, bv true] := by
  rw [if_pos ⟨by omega, by omega⟩, show u.toNat = i by omega, uf_at]
 rw [e] at h; exact h
theorem atU0C {P : Program} (hc : qT P) (n m i lw : Nat) (o : Gr) (u : Int) (hu : ¬ (0 ≤ u ∧ u < (n : Nat))) :
  Env P "(*roundhouse/yard.row[*roundhouse/yard.unit]).at" [pv 0 1, iv u] ([cr (zY 2 (sv 1 0 n (n + m)) (gV 3 lw o)), cr (zaY n (uf i 4 5) ++ zbe m), cr [], hidB o.isSome, cr [], cr [], cr [], cr [], cr [], cr [], cr [], cr [], cr [], cr [], cr [], cr [], cr [], cr [], cr [], cr [], cr []]) (fun v h' => v = .tuple #[.pointer none, bv false] ∧ h' = [cr (zY 2 (sv 1 0 n (n + m)) (gV 3 lw o)), cr (zaY n (uf i 4 5) ++ zbe m), cr [], hidB o.isSome, cr [], cr [], cr [], cr [], cr [], cr [], cr [], cr [], cr [], cr [], cr [], cr [], cr [], cr [], cr [], cr [], cr []]) := by
 have h := atUC hc n m i lw o u
 have e : (if 0 ≤ u ∧ u < (n : Nat) then Value.tuple #[pv (uf i 4 5 u.toNat) 0, bv true] else .tuple #[.pointer none, bv false]) = .tuple #[.pointer none, bv false] := if_neg hu
 rw [e] at h; exact h
theorem YVersionC {P : Program} (hc : zbK P) (h_yard_row_yard_unit_at : qT P) (h_plane_Plane_Version : zap P) (n m i : Nat) (hn16 : n ≤ 16) (hi : i < n) (l : List Nt) (o : Gr) (ho : gOk l o) (p : qO) (is : Bool) (nr : Nat → Int × Bool) (b : Int) (q : Option Nat) (u : Int) (hui : 0 ≤ u ∧ u < (n : Nat) → u = (i : Nat)) :
    Env P "(*roundhouse/yard.Yard).Version" [pv 0 0, iv u] ([cw (zY 1 (sv 2 0 n (n + m)) (gV 7 l.length o)), cr [], cr (zaY n (uf i 3 8) ++ zbe m), cw (z5 4 p b 5), cw (zK p is nr (slV 6 127 q)), .chan 1 (([] : List Nt).map ntE), cr [], gB l o, cr [], cr [], cr [], cr [], cr [], cr [], cr [], cr [], cr [], cr [], cr [], cr [], cr [], cr [], cr [], cr []]) (fun v h' => v = (if 0 ≤ u ∧ u < (n : Nat) then .tuple #[iv (p 0), bv is] else .tuple #[iv 0, bv false]) ∧ h' = [cw (zY 1 (sv 2 0 n (n + m)) (gV 7 l.length o)), cr [], cr (zaY n (uf i 3 8) ++ zbe m), cw (z5 4 p b 5), cw (zK p is nr (slV 6 127 q)), .chan 1 (([] : List Nt).map ntE), cr [], gB l o, cr [], cr [], cr [], cr [], cr [], cr [], cr [], cr [], cr [], cr [], cr [], cr [], cr [], cr [], cr [], cr []]) := by
 refine Env.by2 hc ?_
 unfold zcA
 show GC _ 24 _ _ ⟨reg [(0, pv 0 0), (1, iv u)], [cw (zY 1 (sv 2 0 n (n + m)) (gV 7 l.length o)), cr [], cr (zaY n (uf i 3 8) ++ zbe m), cw (z5 4 p b 5), cw (zK p is nr (slV 6 127 q)), .chan 1 (([] : List Nt).map ntE), cr [], gB l o, cr [], cr [], cr [], cr [], cr [], cr [], cr [], cr [], cr [], cr [], cr [], cr [], cr [], cr [], cr [], cr []]⟩
 refine zT (z0 (o_d 2 [(5, bv false), (4, iv 0)] (by kernel_rfl) (zF (zC (zT (z0 (o_d 4 [(12, iv u), (11, pv 0 1), (10, pv 0 0), (9, pv 0 0)] (by kernel_rfl) ?_)))))))
 by_cases hu : 0 ≤ u ∧ u < (n : Nat)
 ·skip
  have hui := hui hu
  refine zbO (zcZ [0, 2, 1, 7, 3, 8, 9, 10, 11, 12, 13, 14, 15, 16, 17, 18, 19, 20, 21, 22, 23] [cr (zY 2 (sv 1 0 n (n + m)) (gV 3 l.length o)), cr (zaY n (uf i 4 5) ++ zbe m), cr [], hidB o.isSome, cr [], cr [], cr [], cr [], cr [], cr [], cr [], cr [], cr [], cr [], cr [], cr [], cr [], cr [], cr [], cr [], cr []] [pv 0 1, iv u] (atU1C h_yard_row_yard_unit_at n m i l.length o u hui hi) rfl rfl ⟨⟨_, rfl, zZ (.inl (zao rfl rfl (qP o rfl) (fun q => rfl)))⟩, ⟨⟨_, rfl, zZ (.inl (zey rfl (h16 rfl) hn16 (fun q => q)))⟩, ⟨⟨_, rfl, zG⟩, ⟨⟨_, rfl, zdm o⟩, ⟨⟨_, rfl, zG⟩, ⟨⟨_, rfl, zG⟩, ⟨⟨_, rfl, zG⟩, ⟨⟨_, rfl, zG⟩, ⟨⟨_, rfl, zG⟩, ⟨⟨_, rfl, zG⟩, ⟨⟨_, rfl, zG⟩, ⟨⟨_, rfl, zG⟩, ⟨⟨_, rfl, zG⟩, ⟨⟨_, rfl, zG⟩, ⟨⟨_, rfl, zG⟩, ⟨⟨_, rfl, zG⟩, ⟨⟨_, rfl, zG⟩, ⟨⟨_, rfl, zG⟩, ⟨⟨_, rfl, zG⟩, ⟨⟨_, rfl, zG⟩, ⟨⟨_, rfl, zG⟩, trivial⟩⟩⟩⟩⟩⟩⟩⟩⟩⟩⟩⟩⟩⟩⟩⟩⟩⟩⟩⟩⟩ (by decide) ?_)
  rintro v1 h1' ⟨rfl, rfl⟩
  refine ⟨(zA zD (zA zD (zA zD (zA zD (zA zD (zA zD (zA zD (zA zD (zA zD (zA zD (zA zD (zA zD (zA zD (zA zD (zA zD (zA zD (zA zD (zA zD (zA zD (zA zD (zA zD z4))))))))))))))))))))), .tuple #[pv 3 0, bv true], [cw (zY 1 (sv 2 0 n (n + m)) (gV 7 l.length o)), cr [], cr (zaY n (uf i 3 8) ++ zbe m), cw (z5 4 p b 5), cw (zK p is nr (slV 6 127 q)), .chan 1 (([] : List Nt).map ntE), cr [], gB l o, cr [], cr [], cr [], cr [], cr [], cr [], cr [], cr [], cr [], cr [], cr [], cr [], cr [], cr [], cr [], cr []], [], ((zfG _).trans rfl), ⟨rfl, ⟨(by cases true <;> rfl), ⟨rfl, ⟨rfl, ⟨rfl, ⟨rfl, ⟨rfl, ⟨(by cases o <;> rfl), ⟨(by cases true <;> rfl), ⟨(by cases true <;> rfl), ⟨(by cases true <;> rfl), ⟨(by cases true <;> rfl), ⟨(by cases true <;> rfl), ⟨(by cases true <;> rfl), ⟨(by cases true <;> rfl), ⟨(by cases true <;> rfl), ⟨(by cases true <;> rfl), ⟨(by cases true <;> rfl), ⟨(by cases true <;> rfl), ⟨(by cases true <;> rfl), ⟨(by cases true <;> rfl), ⟨(by cases true <;> rfl), ⟨(by cases true <;> rfl), ⟨(by cases true <;> rfl), trivial⟩⟩⟩⟩⟩⟩⟩⟩⟩⟩⟩⟩⟩⟩⟩⟩⟩⟩⟩⟩⟩⟩⟩⟩, trivial, ?_⟩
  refine o_d 5 [(7, bv true), (6, pv 3 0), (15, bv true), (14, pv 3 0), (8, .tuple #[pv 3 0, bv true])] (by kernel_rfl) (zF (zC (zT (zT (z0 (o_d 2 [(17, bv false), (16, bv true)] (by kernel_rfl) (zF (zC (zbU rfl (zaC (zC (zT ?_))))))))))))
  refine z0 (o_d 3 [(20, pv 3 0), (19, pv 3 0), (18, pv 3 0)] (by kernel_rfl) (o_s (by refine z6 (v := pv 4 0) rfl rfl ?_; exact rfl) ?_))
  refine zbO (zcZ [4, 6] [cr (zK p is nr (slV 1 127 q)), cr []] [pv 0 0] (PVersionC h_plane_Plane_Version p is nr q) rfl rfl ⟨⟨_, rfl, zZ (.inl (zaK (qN q rfl) (fun q => rfl)))⟩, ⟨⟨_, rfl, zG⟩, trivial⟩⟩ (by decide) ?_)
  rintro v1 h1' ⟨rfl, rfl⟩
  refine ⟨(zA zD (zA zD z4)), .tuple #[iv (p 0), bv is], [cw (zY 1 (sv 2 0 n (n + m)) (gV 7 l.length o)), cr [], cr (zaY n (uf i 3 8) ++ zbe m), cw (z5 4 p b 5), cw (zK p is nr (slV 6 127 q)), .chan 1 (([] : List Nt).map ntE), cr [], gB l o, cr [], cr [], cr [], cr [], cr [], cr [], cr [], cr [], cr [], cr [], cr [], cr [], cr [], cr [], cr [], cr []], [], (qE rfl), ⟨rfl, ⟨rfl, ⟨rfl, ⟨rfl, ⟨rfl, ⟨rfl, ⟨(by cases true <;> rfl), ⟨rfl, ⟨rfl, ⟨rfl, ⟨rfl, ⟨rfl, ⟨rfl, ⟨rfl, ⟨rfl, ⟨rfl, ⟨rfl, ⟨rfl, ⟨rfl, ⟨rfl, ⟨rfl, ⟨rfl, ⟨rfl, ⟨rfl, trivial⟩⟩⟩⟩⟩⟩⟩⟩⟩⟩⟩⟩⟩⟩⟩⟩⟩⟩⟩⟩⟩⟩⟩⟩, trivial, ?_⟩
  exact o_d 4 [(5, bv is), (4, iv (p 0)), (24, bv is), (23, iv (p 0))] (by kernel_rfl) (zF (z9 [(5, bv is), (4, iv (p 0))] (by kernel_rfl) (zbr (⟨trivial, _, .inl rfl, [iv (p 0), bv is], (qB rfl (qB rfl rfl)), (zS rfl (zS rfl z1)), (by rw [if_pos hu]; rfl), rfl⟩))))
 refine zbO (zcZ [0, 2, 1, 7, 3, 8, 9, 10, 11, 12, 13, 14, 15, 16, 17, 18, 19, 20, 21, 22, 23] [cr (zY 2 (sv 1 0 n (n + m)) (gV 3 l.length o)), cr (zaY n (uf i 4 5) ++ zbe m), cr [], hidB o.isSome, cr [], cr [], cr [], cr [], cr [], cr [], cr [], cr [], cr [], cr [], cr [], cr [], cr [], cr [], cr [], cr [], cr []] [pv 0 1, iv u] (atU0C h_yard_row_yard_unit_at n m i l.length o u hu) rfl rfl ⟨⟨_, rfl, zZ (.inl (zao rfl rfl (qP o rfl) (fun q => rfl)))⟩, ⟨⟨_, rfl, zZ (.inl (zey rfl (h16 rfl) hn16 (fun q => q)))⟩, ⟨⟨_, rfl, zG⟩, ⟨⟨_, rfl, zdm o⟩, ⟨⟨_, rfl, zG⟩, ⟨⟨_, rfl, zG⟩, ⟨⟨_, rfl, zG⟩, ⟨⟨_, rfl, zG⟩, ⟨⟨_, rfl, zG⟩, ⟨⟨_, rfl, zG⟩, ⟨⟨_, rfl, zG⟩, ⟨⟨_, rfl, zG⟩, ⟨⟨_, rfl, zG⟩, ⟨⟨_, rfl, zG⟩, ⟨⟨_, rfl, zG⟩, ⟨⟨_, rfl, zG⟩, ⟨⟨_, rfl, zG⟩, ⟨⟨_, rfl, zG⟩, ⟨⟨_, rfl, zG⟩, ⟨⟨_, rfl, zG⟩, ⟨⟨_, rfl, zG⟩, trivial⟩⟩⟩⟩⟩⟩⟩⟩⟩⟩⟩⟩⟩⟩⟩⟩⟩⟩⟩⟩⟩ (by decide) ?_)
 rintro v1 h1' ⟨rfl, rfl⟩
 refine ⟨(zA zD (zA zD (zA zD (zA zD (zA zD (zA zD (zA zD (zA zD (zA zD (zA zD (zA zD (zA zD (zA zD (zA zD (zA zD (zA zD (zA zD (zA zD (zA zD (zA zD (zA zD z4))))))))))))))))))))), .tuple #[.pointer none, bv false], [cw (zY 1 (sv 2 0 n (n + m)) (gV 7 l.length o)), cr [], cr (zaY n (uf i 3 8) ++ zbe m), cw (z5 4 p b 5), cw (zK p is nr (slV 6 127 q)), .chan 1 (([] : List Nt).map ntE), cr [], gB l o, cr [], cr [], cr [], cr [], cr [], cr [], cr [], cr [], cr [], cr [], cr [], cr [], cr [], cr [], cr [], cr []], [], (qE rfl), ⟨rfl, ⟨(by cases true <;> rfl), ⟨rfl, ⟨rfl, ⟨rfl, ⟨rfl, ⟨rfl, ⟨(by cases o <;> rfl), ⟨(by cases true <;> rfl), ⟨(by cases true <;> rfl), ⟨(by cases true <;> rfl), ⟨(by cases true <;> rfl), ⟨(by cases true <;> rfl), ⟨(by cases true <;> rfl), ⟨(by cases true <;> rfl), ⟨(by cases true <;> rfl), ⟨(by cases true <;> rfl), ⟨(by cases true <;> rfl), ⟨(by cases true <;> rfl), ⟨(by cases true <;> rfl), ⟨(by cases true <;> rfl), ⟨(by cases true <;> rfl), ⟨(by cases true <;> rfl), ⟨(by cases true <;> rfl), trivial⟩⟩⟩⟩⟩⟩⟩⟩⟩⟩⟩⟩⟩⟩⟩⟩⟩⟩⟩⟩⟩⟩⟩⟩, trivial, ?_⟩
 refine o_d 5 [(7, bv false), (6, .pointer none), (15, bv false), (14, .pointer none), (8, .tuple #[.pointer none, bv false])] (by kernel_rfl) (zF (zC (zT (zT (z0 (o_d 2 [(17, bv true), (16, bv false)] (by kernel_rfl) (zF (zC (zd5 rfl (zT (z0 (o_d 2 [(5, bv false), (4, iv 0)] (by kernel_rfl) ?_))))))))))))
 exact zF (zC (zbr (⟨trivial, _, .inl rfl, [iv 0, bv false], (qB rfl (qB rfl rfl)), (zS rfl (zS rfl z1)), (by rw [if_neg hu]; rfl), rfl⟩)))
theorem YCrashC {P : Program} (hc : zci P) (h_yard_row_yard_unit_at : qT P) (h_plane_Plane_Crash : zbp P) (n m i : Nat) (hn16 : n ≤ 16) (hi : i < n) (l : List Nt) (o : Gr) (ho : gOk l o) (p : qO) (is : Bool) (nr : Nat → Int × Bool) (b : Int) (q : Option Nat) (u : Int) (hui : 0 ≤ u ∧ u < (n : Nat) → u = (i : Nat)) :
    Env P "(*roundhouse/yard.Yard).Crash" [pv 0 0, iv u] ([cw (zY 1 (sv 2 0 n (n + m)) (gV 7 l.length o)), cr [], cr (zaY n (uf i 3 8) ++ zbe m), cw (z5 4 p b 5), cw (zK p is nr (slV 6 127 q)), .chan 1 (([] : List Nt).map ntE), cr [], gB l o, cr [], cr [], cr [], cr [], cr [], cr [], cr [], cr [], cr [], cr [], cr [], cr [], cr [], cr [], cr [], cr []]) (fun v h' => (v = bv true ∧ (0 ≤ u ∧ u < (n : Nat)) ∧ h' = [cw (zY 1 (sv 2 0 n (n + m)) (gV 7 l.length o)), cr [], cr (zaY n (uf i 3 8) ++ zbe m), cw (z5 4 zH (i64.wrap (b + 1)) 5), cw (zK zH false nr0 (slV 6 127 none)), .chan 1 (([] : List Nt).map ntE), cr [], gB l o, cr [], cr [], cr [], cr [], cr [], cr [], cr [], cr [], cr [], cr [], cr [], cr [], cr [], cr [], cr [], cr []]) ∨ (v = bv false ∧ ¬ (0 ≤ u ∧ u < (n : Nat)) ∧ h' = [cw (zY 1 (sv 2 0 n (n + m)) (gV 7 l.length o)), cr [], cr (zaY n (uf i 3 8) ++ zbe m), cw (z5 4 p b 5), cw (zK p is nr (slV 6 127 q)), .chan 1 (([] : List Nt).map ntE), cr [], gB l o, cr [], cr [], cr [], cr [], cr [], cr [], cr [], cr [], cr [], cr [], cr [], cr [], cr [], cr [], cr [], cr []])) := by
 refine Env.by2 hc ?_
 unfold zdc
 show GC _ 24 _ _ ⟨reg [(0, pv 0 0), (1, iv u)], [cw (zY 1 (sv 2 0 n (n + m)) (gV 7 l.length o)), cr [], cr (zaY n (uf i 3 8) ++ zbe m), cw (z5 4 p b 5), cw (zK p is nr (slV 6 127 q)), .chan 1 (([] : List Nt).map ntE), cr [], gB l o, cr [], cr [], cr [], cr [], cr [], cr [], cr [], cr [], cr [], cr [], cr [], cr [], cr [], cr [], cr [], cr []]⟩
 refine zT (z0 (o_d 1 [(4, bv false)] (by kernel_rfl) (zF (zC (zT (z0 (o_d 4 [(11, iv u), (10, pv 0 1), (9, pv 0 0), (8, pv 0 0)] (by kernel_rfl) ?_)))))))
 by_cases hu : 0 ≤ u ∧ u < (n : Nat)
 ·skip
  have hui := hui hu
  refine zbO (zcZ [0, 2, 1, 7, 3, 8, 9, 10, 11, 12, 13, 14, 15, 16, 17, 18, 19, 20, 21, 22, 23] [cr (zY 2 (sv 1 0 n (n + m)) (gV 3 l.length o)), cr (zaY n (uf i 4 5) ++ zbe m), cr [], hidB o.isSome, cr [], cr [], cr [], cr [], cr [], cr [], cr [], cr [], cr [], cr [], cr [], cr [], cr [], cr [], cr [], cr [], cr []] [pv 0 1, iv u] (atU1C h_yard_row_yard_unit_at n m i l.length o u hui hi) rfl rfl ⟨⟨_, rfl, zZ (.inl (zao rfl rfl (qP o rfl) (fun q => rfl)))⟩, ⟨⟨_, rfl, zZ (.inl (zey rfl (h16 rfl) hn16 (fun q => q)))⟩, ⟨⟨_, rfl, zG⟩, ⟨⟨_, rfl, zdm o⟩, ⟨⟨_, rfl, zG⟩, ⟨⟨_, rfl, zG⟩, ⟨⟨_, rfl, zG⟩, ⟨⟨_, rfl, zG⟩, ⟨⟨_, rfl, zG⟩, ⟨⟨_, rfl, zG⟩, ⟨⟨_, rfl, zG⟩, ⟨⟨_, rfl, zG⟩, ⟨⟨_, rfl, zG⟩, ⟨⟨_, rfl, zG⟩, ⟨⟨_, rfl, zG⟩, ⟨⟨_, rfl, zG⟩, ⟨⟨_, rfl, zG⟩, ⟨⟨_, rfl, zG⟩, ⟨⟨_, rfl, zG⟩, ⟨⟨_, rfl, zG⟩, ⟨⟨_, rfl, zG⟩, trivial⟩⟩⟩⟩⟩⟩⟩⟩⟩⟩⟩⟩⟩⟩⟩⟩⟩⟩⟩⟩⟩ (by decide) ?_)
  rintro v1 h1' ⟨rfl, rfl⟩
  refine ⟨(zA zD (zA zD (zA zD (zA zD (zA zD (zA zD (zA zD (zA zD (zA zD (zA zD (zA zD (zA zD (zA zD (zA zD (zA zD (zA zD (zA zD (zA zD (zA zD (zA zD (zA zD z4))))))))))))))))))))), .tuple #[pv 3 0, bv true], [cw (zY 1 (sv 2 0 n (n + m)) (gV 7 l.length o)), cr [], cr (zaY n (uf i 3 8) ++ zbe m), cw (z5 4 p b 5), cw (zK p is nr (slV 6 127 q)), .chan 1 (([] : List Nt).map ntE), cr [], gB l o, cr [], cr [], cr [], cr [], cr [], cr [], cr [], cr [], cr [], cr [], cr [], cr [], cr [], cr [], cr [], cr []], [], ((zfG _).trans rfl), ⟨rfl, ⟨(by cases true <;> rfl), ⟨rfl, ⟨rfl, ⟨rfl, ⟨rfl, ⟨rfl, ⟨(by cases o <;> rfl), ⟨(by cases true <;> rfl), ⟨(by cases true <;> rfl), ⟨(by cases true <;> rfl), ⟨(by cases true <;> rfl), ⟨(by cases true <;> rfl), ⟨(by cases true <;> rfl), ⟨(by cases true <;> rfl), ⟨(by cases true <;> rfl), ⟨(by cases true <;> rfl), ⟨(by cases true <;> rfl), ⟨(by cases true <;> rfl), ⟨(by cases true <;> rfl), ⟨(by cases true <;> rfl), ⟨(by cases true <;> rfl), ⟨(by cases true <;> rfl), ⟨(by cases true <;> rfl), trivial⟩⟩⟩⟩⟩⟩⟩⟩⟩⟩⟩⟩⟩⟩⟩⟩⟩⟩⟩⟩⟩⟩⟩⟩, trivial, ?_⟩
  refine o_d 5 [(6, bv true), (5, pv 3 0), (14, bv true), (13, pv 3 0), (7, .tuple #[pv 3 0, bv true])] (by kernel_rfl) (zF (zC (zT (zT (z0 (o_d 1 [(15, bv true)] (by kernel_rfl) (zF (zC (zd5 rfl (zT (z0 (o_d 3 [(18, pv 3 0), (17, pv 3 0), (16, pv 3 0)] (by kernel_rfl) ?_))))))))))))
  refine o_s (by refine z6 (v := pv 4 0) rfl rfl ?_; exact rfl) ?_
  refine zbO (zcZ [4, 6] [cw (zK p is nr (slV 1 127 q)), cr []] [pv 0 0] (PCrashC h_plane_Plane_Crash p is nr q) rfl rfl ⟨⟨_, rfl, zZ (.inl (zaK (qN q rfl) (fun q => rfl)))⟩, ⟨⟨_, rfl, zG⟩, trivial⟩⟩ (by decide) ?_)
  rintro v1 h1' ⟨rfl, rfl⟩
  refine ⟨(zA qD (zA zD z4)), .tuple #[], [cw (zY 1 (sv 2 0 n (n + m)) (gV 7 l.length o)), cr [], cr (zaY n (uf i 3 8) ++ zbe m), cw (z5 4 p b 5), cw (zK zH false nr0 (slV 6 127 none)), .chan 1 (([] : List Nt).map ntE), cr [], gB l o, cr [], cr [], cr [], cr [], cr [], cr [], cr [], cr [], cr [], cr [], cr [], cr [], cr [], cr [], cr [], cr []], [], (by simp [zbw]), ⟨rfl, ⟨rfl, ⟨rfl, ⟨rfl, ⟨zbb (qN none rfl), ⟨rfl, ⟨(by cases true <;> rfl), ⟨rfl, ⟨rfl, ⟨rfl, ⟨rfl, ⟨rfl, ⟨rfl, ⟨rfl, ⟨rfl, ⟨rfl, ⟨rfl, ⟨rfl, ⟨rfl, ⟨rfl, ⟨rfl, ⟨rfl, ⟨rfl, ⟨rfl, trivial⟩⟩⟩⟩⟩⟩⟩⟩⟩⟩⟩⟩⟩⟩⟩⟩⟩⟩⟩⟩⟩⟩⟩⟩, trivial, ?_⟩
  refine zF (zC (zT (z0 (o_d 1 [(21, pv 3 0)] (by kernel_rfl) (o_s (by refine zck (c := pl zH) ?_; exact bld_zP) ?_)))))
  refine o_d 2 [(24, pv 3 1), (23, pv 3 0)] (by kernel_rfl) (zeC (by refine qY (c' := z5 4 zH b 5) rfl rfl rfl ?_ ?_ ?_; exact zN _; exact unit_le (by omega); exact unit_wP) ?_)
  refine zF (z9 [(6, bv true), (5, pv 3 0)] (by kernel_rfl) (z0 (o_d 3 [(27, pv 3 331), (26, pv 3 0), (25, pv 3 0)] (by kernel_rfl) (o_s (by refine z6 (v := iv b) rfl rfl ?_; exact (zdu 0).trans rfl) ?_))))
  refine o_d 3 [(31, pv 3 331), (30, pv 3 0), (29, iv (i64.wrap (b + 1)))] (by kernel_rfl) (zeC (by refine qY (c' := z5 4 zH (i64.wrap (b + 1)) 5) rfl rfl rfl ?_ ?_ ?_; exact rfl; exact unit_le (by omega); exact unit_wB) ?_)
  exact zF (zC (zT (z0 (o_d 2 [(4, bv true), (32, bv true)] (by kernel_rfl) (zF (zC (zbr (⟨trivial, _, .inl rfl, [bv true], (qB rfl rfl), (zS rfl z1), .inl ⟨rfl, hu, rfl⟩⟩))))))))
 refine zbO (zcZ [0, 2, 1, 7, 3, 8, 9, 10, 11, 12, 13, 14, 15, 16, 17, 18, 19, 20, 21, 22, 23] [cr (zY 2 (sv 1 0 n (n + m)) (gV 3 l.length o)), cr (zaY n (uf i 4 5) ++ zbe m), cr [], hidB o.isSome, cr [], cr [], cr [], cr [], cr [], cr [], cr [], cr [], cr [], cr [], cr [], cr [], cr [], cr [], cr [], cr [], cr []] [pv 0 1, iv u] (atU0C h_yard_row_yard_unit_at n m i l.length o u hu) rfl rfl ⟨⟨_, rfl, zZ (.inl (zao rfl rfl (qP o rfl) (fun q => rfl)))⟩, ⟨⟨_, rfl, zZ (.inl (zey rfl (h16 rfl) hn16 (fun q => q)))⟩, ⟨⟨_, rfl, zG⟩, ⟨⟨_, rfl, zdm o⟩, ⟨⟨_, rfl, zG⟩, ⟨⟨_, rfl, zG⟩, ⟨⟨_, rfl, zG⟩, ⟨⟨_, rfl, zG⟩, ⟨⟨_, rfl, zG⟩, ⟨⟨_, rfl, zG⟩, ⟨⟨_, rfl, zG⟩, ⟨⟨_, rfl, zG⟩, ⟨⟨_, rfl, zG⟩, ⟨⟨_, rfl, zG⟩, ⟨⟨_, rfl, zG⟩, ⟨⟨_, rfl, zG⟩, ⟨⟨_, rfl, zG⟩, ⟨⟨_, rfl, zG⟩, ⟨⟨_, rfl, zG⟩, ⟨⟨_, rfl, zG⟩, ⟨⟨_, rfl, zG⟩, trivial⟩⟩⟩⟩⟩⟩⟩⟩⟩⟩⟩⟩⟩⟩⟩⟩⟩⟩⟩⟩⟩ (by decide) ?_)
 rintro v1 h1' ⟨rfl, rfl⟩
 refine ⟨(zA zD (zA zD (zA zD (zA zD (zA zD (zA zD (zA zD (zA zD (zA zD (zA zD (zA zD (zA zD (zA zD (zA zD (zA zD (zA zD (zA zD (zA zD (zA zD (zA zD (zA zD z4))))))))))))))))))))), .tuple #[.pointer none, bv false], [cw (zY 1 (sv 2 0 n (n + m)) (gV 7 l.length o)), cr [], cr (zaY n (uf i 3 8) ++ zbe m), cw (z5 4 p b 5), cw (zK p is nr (slV 6 127 q)), .chan 1 (([] : List Nt).map ntE), cr [], gB l o, cr [], cr [], cr [], cr [], cr [], cr [], cr [], cr [], cr [], cr [], cr [], cr [], cr [], cr [], cr [], cr []], [], (qE rfl), ⟨rfl, ⟨(by cases true <;> rfl), ⟨rfl, ⟨rfl, ⟨rfl, ⟨rfl, ⟨rfl, ⟨(by cases o <;> rfl), ⟨(by cases true <;> rfl), ⟨(by cases true <;> rfl), ⟨(by cases true <;> rfl), ⟨(by cases true <;> rfl), ⟨(by cases true <;> rfl), ⟨(by cases true <;> rfl), ⟨(by cases true <;> rfl), ⟨(by cases true <;> rfl), ⟨(by cases true <;> rfl), ⟨(by cases true <;> rfl), ⟨(by cases true <;> rfl), ⟨(by cases true <;> rfl), ⟨(by cases true <;> rfl), ⟨(by cases true <;> rfl), ⟨(by cases true <;> rfl), ⟨(by cases true <;> rfl), trivial⟩⟩⟩⟩⟩⟩⟩⟩⟩⟩⟩⟩⟩⟩⟩⟩⟩⟩⟩⟩⟩⟩⟩⟩, trivial, ?_⟩
 refine o_d 5 [(6, bv false), (5, .pointer none), (14, bv false), (13, .pointer none), (7, .tuple #[.pointer none, bv false])] (by kernel_rfl) (zF (zC (zT (zT (z0 (o_d 1 [(15, bv false)] (by kernel_rfl) (zF (zC (zbU rfl (zaC (zC (zT ?_))))))))))))
 exact z0 (o_d 2 [(4, bv false), (32, bv false)] (by kernel_rfl) (zF (zC (zbr (⟨trivial, _, .inl rfl, [bv false], (qB rfl rfl), (zS rfl z1), .inr ⟨rfl, hu, rfl⟩⟩)))))
end Go.Rh

set_option maxHeartbeats 8000000
namespace Go.Rh
def zdM (l : List Nt) (k : Int) (keep : Bool) : List Nt := if keep = true then l else l.eraseIdx k.toNat
def ackN (u b : Int) (x : qO × Bool) : Nt := ⟨u, b, qJ x.1 x.2, false, true, e0, zH⟩
def zcY (p : qO) (is : Bool) (b : Int) (l : List Nt) (k : Int) (keep : Bool) : (qO × Bool) × List Nt :=
 if (atS l k).2 = true then (uhS p is b (atS l k).1, (if keep = true then l else l.eraseIdx k.toNat) ++ [ackN (atS l k).1.u b (uhS p is b (atS l k).1)]) else ((p, is), l)
theorem YDeliverBC {P : Program} (hc : zbn P) (h_yard_row_head_Note_at : zab P) (h_yard_row_head_Note_drop : zad P) (h_yard_row_yard_unit_at : qT P) (h_yard_unit_hear : zbP P) (h_yard_unit_version : za3 P) (h_plane_Plane_Version : zap P) (h_yard_unit_load : zbu P) (h_plane_Plane_Load : zaW P) (h_plane_maybe_api_Pool_lay : qR P) (h_wheel_Make : zbH P) (h_wheel_spun : zbj P) (h_sip_Words : zbo P) (h_sip_Of : zcx P) (h_sip_number_byte : qU P) (h_sip_state_take : zaa P) (h_sip_state_rounds : qK P) (h_sip_state_round : qM P) (h_math_bits_RotateLeft64 : zV P) (h_pool_Apply : zaI P) (h_pool_may : zaP P) (h_pool_held : zaG P) (h_pool_fits : zaM P) (h_pool_Check : zaB P) (h_pool_placed : zai P) (h_cookie_Next : zaq P) (h_yard_row_head_Note_put : zay P) (h_head_Head_Heard : zbm P) (n m i : Nat) (hn16 : n ≤ 16) (hi : i < n) (l : List Nt) (o : Gr) (ho : gOk l o) (hl : l.length ≤ 900000) (p : qO) (is : Bool) (nr : Nat → Int × Bool) (b : Int) (q : Option Nat) (k : Int) (keep : Bool) (hnt : (atS l k).2 = true → (atS l k).1.a = false ∧ (atS l k).1.u = (i : Nat)) (nt : Nt) (hn9 : (atS l k).1 = nt) :
    Env P "(*roundhouse/yard.Yard).Deliver" [pv 0 0, iv k, bv keep] ([cw (zY 1 (sv 2 0 n (n + m)) (gV 7 l.length o)), cr [], cr (zaY n (uf i 3 8) ++ zbe m), cw (z5 4 p b 5), cw (zK p is nr (slV 6 127 q)), .chan 1 (([] : List Nt).map ntE), cr [], gB l o, cr [], cr [], cr [], cr [], cr [], cr [], cr [], cr [], cr [], cr [], cr [], cr [], cr [], cr [], cr [], cr []]) (fun v h' => v = bv (atS l k).2 ∧ ∃ ld : Bool, (ld = false → (zcY p is b l k keep).1 = (p, is)) ∧ (ld = true → (zcY p is b l k keep).1.2 = true) ∧ PB n m i o (zcY p is b l k keep).2 (zcY p is b l k keep).1.1 (zcY p is b l k keep).1.2 nr b ld q (fun B c => B = slB zI (ii (zaw (zcY p is b l k keep).1.1)) (some c)) h') := by
 refine Env.by3 hc ?_
 unfold zbM
 show GC _ 24 _ _ ⟨reg [(0, pv 0 0), (1, iv k), (2, bv keep)], [cw (zY 1 (sv 2 0 n (n + m)) (gV 7 l.length o)), cr [], cr (zaY n (uf i 3 8) ++ zbe m), cw (z5 4 p b 5), cw (zK p is nr (slV 6 127 q)), .chan 1 (([] : List Nt).map ntE), cr [], gB l o, cr [], cr [], cr [], cr [], cr [], cr [], cr [], cr [], cr [], cr [], cr [], cr [], cr [], cr [], cr [], cr []]⟩
 refine zT (z0 (o_d 1 [(6, bv false)] (by kernel_rfl) (zF (zC (zT (z0 (o_d 4 [(17, iv k), (16, pv 0 2), (15, pv 0 0), (14, pv 0 0)] (by kernel_rfl) ?_)))))))
 rcases o with _ | ⟨c, t⟩
 ·skip
  refine zbO (zcZ [0, 7, 1, 2] [cr (zY 2 (sv 3 0 n (n + m)) (gV 1 l.length none)), gB l none, cr [], cr []] [pv 0 2, iv k] (atN0C h_yard_row_head_Note_at n m k l ho) rfl rfl ⟨⟨_, rfl, zZ (.inl (zao rfl rfl (qP none rfl) (fun q => rfl)))⟩, ⟨⟨_, rfl, zb3 ho⟩, ⟨⟨_, rfl, zG⟩, ⟨⟨_, rfl, zG⟩, trivial⟩⟩⟩⟩ (by decide) ?_)
  rintro v1 h1' ⟨rfl, rfl⟩
  rw [hn9]
  refine ⟨(zA zD (zA zD (zA zD (zA zD z4)))), .tuple #[ntE nt, bv ((atS l k).2)], [cw (zY 1 (sv 2 0 n (n + m)) (gV 7 l.length none)), cr [], cr (zaY n (uf i 3 8) ++ zbe m), cw (z5 4 p b 5), cw (zK p is nr (slV 6 127 q)), .chan 1 (([] : List Nt).map ntE), cr [], gB l none, cr [], cr [], cr [], cr [], cr [], cr [], cr [], cr [], cr [], cr [], cr [], cr [], cr [], cr [], cr [], cr []], [], (qE (all_cons (zaV nt.u nt.b nt.v nt.w nt.a nt.e nt.p) (all_cons rfl rfl))), ⟨rfl, ⟨(by cases true <;> rfl), ⟨rfl, ⟨rfl, ⟨rfl, ⟨rfl, ⟨rfl, ⟨(by cases none with | none => rfl | some y9 => exact qQ ho), ⟨rfl, ⟨rfl, ⟨rfl, ⟨rfl, ⟨rfl, ⟨rfl, ⟨rfl, ⟨rfl, ⟨rfl, ⟨rfl, ⟨rfl, ⟨rfl, ⟨rfl, ⟨rfl, ⟨rfl, ⟨rfl, trivial⟩⟩⟩⟩⟩⟩⟩⟩⟩⟩⟩⟩⟩⟩⟩⟩⟩⟩⟩⟩⟩⟩⟩⟩, trivial, ?_⟩
  refine o_b 4 [(7, pv 24 0), (20, bv ((atS l k).2)), (19, ntE nt), (13, .tuple #[ntE nt, bv ((atS l k).2)])] [cw (zY 1 (sv 2 0 n (n + m)) (gV 7 l.length none)), cr [], cr (zaY n (uf i 3 8) ++ zbe m), cw (z5 4 p b 5), cw (zK p is nr (slV 6 127 q)), .chan 1 (([] : List Nt).map ntE), cr [], gB l none, cr [], cr [], cr [], cr [], cr [], cr [], cr [], cr [], cr [], cr [], cr [], cr [], cr [], cr [], cr [], cr [], cw (ntF 0 0 0 false false e0 zH)] (by kernel_rfl) (zeC (by refine qY (c' := ntL nt) rfl rfl rfl ?_ ?_ ?_; exact z8 _ _ _ _ _ _ _; exact zcR (by omega); exact zbh) ?_)
  refine o_b 1 [(8, bv ((atS l k).2))] [cw (zY 1 (sv 2 0 n (n + m)) (gV 7 l.length none)), cr [], cr (zaY n (uf i 3 8) ++ zbe m), cw (z5 4 p b 5), cw (zK p is nr (slV 6 127 q)), .chan 1 (([] : List Nt).map ntE), cr [], gB l none, cr [], cr [], cr [], cr [], cr [], cr [], cr [], cr [], cr [], cr [], cr [], cr [], cr [], cr [], cr [], cr [], cw (ntL nt)] (by kernel_rfl) (zF (zC (zT (zT (z0 (o_d 2 [(22, bv (!((atS l k).2))), (21, bv ((atS l k).2))] (by kernel_rfl) (zF (zC (zaJ (t := !((atS l k).2)) rfl (fun _ => ?_) (fun q => by rw [(by rw [zft ho]; rfl : (!((atS l k).2)) = true)] at q; cases q))))))))))
  refine zT (z0 (o_d 1 [(6, bv false)] (by kernel_rfl) (zF (zC (zbr ?_)))))
  have hD : (zcY p is b l k keep) = ((p, is), l) := by simp [zcY, ackN, hn9, zft ho]
  have hT : (zcY p is b l k keep).1.1 = p ∧ (zcY p is b l k keep).1.2 = is ∧ (zcY p is b l k keep).2 = l := by rw [hD]; exact ⟨rfl, rfl, rfl⟩
  exact ⟨trivial, [bv false], (qB rfl rfl), (zS rfl z1), rfl, ⟨reg [], [cw (zY 1 (sv 2 0 n (n + m)) (gV 7 l.length none)), cr [], cr (zaY n (uf i 3 8) ++ zbe m), cw (z5 4 p b 5), cw (zK p is nr (slV 6 127 q)), .chan 1 (([] : List Nt).map ntE), cr [], gB l none, cr [], cr [], cr [], cr [], cr [], cr [], cr [], cr [], cr [], cr [], cr [], cr [], cr [], cr [], cr [], cr []]⟩, Wk.ren [0, 1, 2, 3, 4, 5, 6, 7, 8, 9, 10, 11, 12, 13, 14, 15, 16, 17, 18, 19, 20, 21, 22, 23] rfl rfl (by decide) trivial ⟨.inl (zaf rfl rfl (qP none rfl)), ⟨.inl rfl, ⟨.inl (zco rfl (h16 rfl) hn16), ⟨.inl (zaO rfl rfl), ⟨.inl (qZ (qN q rfl)), ⟨.inl (congrArg some (qX _).symm), ⟨.inl rfl, ⟨.inl (congrArg some (qQ ho).symm), ⟨.inl rfl, ⟨.inl rfl, ⟨.inl rfl, ⟨.inl rfl, ⟨.inl rfl, ⟨.inl rfl, ⟨.inl rfl, ⟨.inl rfl, ⟨.inl rfl, ⟨.inl rfl, ⟨.inl rfl, ⟨.inl rfl, ⟨.inl rfl, ⟨.inl rfl, ⟨.inl rfl, ⟨.inl rfl, trivial⟩⟩⟩⟩⟩⟩⟩⟩⟩⟩⟩⟩⟩⟩⟩⟩⟩⟩⟩⟩⟩⟩⟩⟩, (by simp [one, zft ho]), false, (fun _ => by rw [hD]), (fun q => by cases q), (by rw [hT.1, hT.2.1, hT.2.2]; exact ⟨none, gB l none, 7, 6, q, [], ⟨ho, (fun _ => rfl), rfl, .inl ⟨rfl, rfl⟩, (by decide), .inl ⟨rfl, rfl, rfl⟩⟩⟩)⟩
 refine zbO (zcZ [0, 7, 1, 2] [cr (zY 2 (sv 3 0 n (n + m)) (gV 1 l.length (some (c, t)))), gB l (some (c, t)), cr [], cr []] [pv 0 2, iv k] (atN1C h_yard_row_head_Note_at n m k l c t ho.1 ho.2.2) rfl rfl ⟨⟨_, rfl, zZ (.inl (zao rfl rfl (qP (some (c, t)) rfl) (fun q => rfl)))⟩, ⟨⟨_, rfl, zb3 ho⟩, ⟨⟨_, rfl, zG⟩, ⟨⟨_, rfl, zG⟩, trivial⟩⟩⟩⟩ (by decide) ?_)
 rintro v1 h1' ⟨rfl, rfl⟩
 rw [hn9]
 refine ⟨(zA zD (zA zD (zA zD (zA zD z4)))), .tuple #[ntE nt, bv ((atS l k).2)], [cw (zY 1 (sv 2 0 n (n + m)) (gV 7 l.length (some (c, t)))), cr [], cr (zaY n (uf i 3 8) ++ zbe m), cw (z5 4 p b 5), cw (zK p is nr (slV 6 127 q)), .chan 1 (([] : List Nt).map ntE), cr [], gB l (some (c, t)), cr [], cr [], cr [], cr [], cr [], cr [], cr [], cr [], cr [], cr [], cr [], cr [], cr [], cr [], cr [], cr []], [], (qE (all_cons (zaV nt.u nt.b nt.v nt.w nt.a nt.e nt.p) (all_cons rfl rfl))), ⟨rfl, ⟨(by cases true <;> rfl), ⟨rfl, ⟨rfl, ⟨rfl, ⟨rfl, ⟨rfl, ⟨qQ ho, ⟨rfl, ⟨rfl, ⟨rfl, ⟨rfl, ⟨rfl, ⟨rfl, ⟨rfl, ⟨rfl, ⟨rfl, ⟨rfl, ⟨rfl, ⟨rfl, ⟨rfl, ⟨rfl, ⟨rfl, ⟨rfl, trivial⟩⟩⟩⟩⟩⟩⟩⟩⟩⟩⟩⟩⟩⟩⟩⟩⟩⟩⟩⟩⟩⟩⟩⟩, trivial, ?_⟩
 refine o_b 4 [(7, pv 24 0), (20, bv ((atS l k).2)), (19, ntE nt), (13, .tuple #[ntE nt, bv ((atS l k).2)])] [cw (zY 1 (sv 2 0 n (n + m)) (gV 7 l.length (some (c, t)))), cr [], cr (zaY n (uf i 3 8) ++ zbe m), cw (z5 4 p b 5), cw (zK p is nr (slV 6 127 q)), .chan 1 (([] : List Nt).map ntE), cr [], gB l (some (c, t)), cr [], cr [], cr [], cr [], cr [], cr [], cr [], cr [], cr [], cr [], cr [], cr [], cr [], cr [], cr [], cr [], cw (ntF 0 0 0 false false e0 zH)] (by kernel_rfl) (zeC (by refine qY (c' := ntL nt) rfl rfl rfl ?_ ?_ ?_; exact z8 _ _ _ _ _ _ _; exact zcR (by omega); exact zbh) ?_)
 refine o_b 1 [(8, bv ((atS l k).2))] [cw (zY 1 (sv 2 0 n (n + m)) (gV 7 l.length (some (c, t)))), cr [], cr (zaY n (uf i 3 8) ++ zbe m), cw (z5 4 p b 5), cw (zK p is nr (slV 6 127 q)), .chan 1 (([] : List Nt).map ntE), cr [], gB l (some (c, t)), cr [], cr [], cr [], cr [], cr [], cr [], cr [], cr [], cr [], cr [], cr [], cr [], cr [], cr [], cr [], cr [], cw (ntL nt)] (by kernel_rfl) (zF (zC (zT (zT (z0 (o_d 2 [(22, bv (!((atS l k).2))), (21, bv ((atS l k).2))] (by kernel_rfl) (zF (zC (zaJ (t := !((atS l k).2)) rfl (fun h1 => ?_) (fun h1 => ?_))))))))))
 ·skip
  have h2 : ((atS l k).2) = false := not_t h1
  refine zT (z0 (o_d 1 [(6, bv false)] (by kernel_rfl) (zF (zC (zbr ?_)))))
  have hD : (zcY p is b l k keep) = ((p, is), l) := by simp [zcY, ackN, hn9, h1, h2]
  have hT : (zcY p is b l k keep).1.1 = p ∧ (zcY p is b l k keep).1.2 = is ∧ (zcY p is b l k keep).2 = l := by rw [hD]; exact ⟨rfl, rfl, rfl⟩
  exact ⟨trivial, [bv false], (qB rfl rfl), (zS rfl z1), rfl, ⟨reg [], [cw (zY 1 (sv 2 0 n (n + m)) (gV 7 l.length (some (c, t)))), cr [], cr (zaY n (uf i 3 8) ++ zbe m), cw (z5 4 p b 5), cw (zK p is nr (slV 6 127 q)), .chan 1 (([] : List Nt).map ntE), cr [], gB l (some (c, t)), cr [], cr [], cr [], cr [], cr [], cr [], cr [], cr [], cr [], cr [], cr [], cr [], cr [], cr [], cr [], cr []]⟩, Wk.ren [0, 1, 2, 3, 4, 5, 6, 7, 8, 9, 10, 11, 12, 13, 14, 15, 16, 17, 18, 19, 20, 21, 22, 23] rfl rfl (by decide) trivial ⟨.inl (zaf rfl rfl (qP (some (c, t)) rfl)), ⟨.inl rfl, ⟨.inl (zco rfl (h16 rfl) hn16), ⟨.inl (zaO rfl rfl), ⟨.inl (qZ (qN q rfl)), ⟨.inl (congrArg some (qX _).symm), ⟨.inl rfl, ⟨.inl (congrArg some (qQ ho).symm), ⟨.inl rfl, ⟨.inl rfl, ⟨.inl rfl, ⟨.inl rfl, ⟨.inl rfl, ⟨.inl rfl, ⟨.inl rfl, ⟨.inl rfl, ⟨.inl rfl, ⟨.inl rfl, ⟨.inl rfl, ⟨.inl rfl, ⟨.inl rfl, ⟨.inl rfl, ⟨.inl rfl, ⟨.inl rfl, trivial⟩⟩⟩⟩⟩⟩⟩⟩⟩⟩⟩⟩⟩⟩⟩⟩⟩⟩⟩⟩⟩⟩⟩⟩, (by simp [one, h1, h2]), false, (fun _ => by rw [hD]), (fun q => by cases q), (by rw [hT.1, hT.2.1, hT.2.2]; exact ⟨some (c, t), gB l (some (c, t)), 7, 6, q, [], ⟨ho, (fun z => by cases z), rfl, .inl ⟨rfl, rfl⟩, (by decide), .inl ⟨rfl, rfl, rfl⟩⟩⟩)⟩
 have h3 : ((atS l k).2) = true := not_f h1
 have hin : 0 ≤ k ∧ k < l.length := atS_in (by assumption)
 refine zaC (zC (gcut (fun s => (∃ (lz : List Nt), ∃ (cz : Nat), ∃ (tz : List Value), (gOk lz (some (cz, tz))) ∧ (lz = zdM l k keep) ∧ (lz.length ≤ 900000) ∧ s = ⟨reg [(0, pv 0 0), (7, pv 24 0)], [cw (zY 1 (sv 2 0 n (n + m)) (gV 7 lz.length (some (cz, tz)))), cr [], cr (zaY n (uf i 3 8) ++ zbe m), cw (z5 4 p b 5), cw (zK p is nr (slV 6 127 q)), .chan 1 (([] : List Nt).map ntE), cr [], gB lz (some (cz, tz)), cr [], cr [], cr [], cr [], cr [], cr [], cr [], cr [], cr [], cr [], cr [], cr [], cr [], cr [], cr [], cr [], cw (ntL nt)]⟩) ∨ (∃ (lz : List Nt), ∃ (cz : Nat), ∃ (tz : List Value), (gOk lz (some (cz, tz))) ∧ (lz = zdM l k keep) ∧ (lz.length ≤ 900000) ∧ s = ⟨reg [(0, pv 0 0), (7, pv 24 0)], [cw (zY 1 (sv 2 0 n (n + m)) (gV 25 lz.length (some (cz, tz)))), cr [], cr (zaY n (uf i 3 8) ++ zbe m), cw (z5 4 p b 5), cw (zK p is nr (slV 6 127 q)), .chan 1 (([] : List Nt).map ntE), cr [], gB l (some (c, t)), cr [], cr [], cr [], cr [], cr [], cr [], cr [], cr [], cr [], cr [], cr [], cr [], cr [], cr [], cr [], cr [], cw (ntL nt), gB lz (some (cz, tz))]⟩)) ?_ ?_))
 ·skip
  refine zT (z0 (o_d 2 [(24, bv (!keep)), (23, bv keep)] (by kernel_rfl) (zF (zC (zaJ (t := !keep) rfl (fun h4 => ?_) (fun h4 => ?_))))))
  ·skip
   have h5 : keep = false := not_t h4
   refine z0 (o_d 4 [(28, iv k), (27, pv 0 2), (26, pv 0 0), (25, pv 0 0)] (by kernel_rfl) (zbO (zcZ [0, 7, 1, 2] [cw (zY 2 (sv 3 0 n (n + m)) (gV 1 l.length (some (c, t)))), gB l (some (c, t)), cr [], cr []] [pv 0 2, iv k] (dropNC h_yard_row_head_Note_drop l (some (c, t)) k n m ho (hin) (by omega)) rfl rfl ⟨⟨_, rfl, zZ (.inl (zao rfl rfl (qP (some (c, t)) rfl) (fun q => rfl)))⟩, ⟨⟨_, rfl, zb3 ho⟩, ⟨⟨_, rfl, zG⟩, ⟨⟨_, rfl, zG⟩, trivial⟩⟩⟩⟩ (by decide) ?_)))
   rintro v1 h1' ⟨rfl, o6, s7, g8, z11⟩
   rcases o6 with _ | ⟨c9, t10⟩
   ·cases s7
   rcases z11 with rfl | rfl
   ·skip
    refine ⟨(zA qD (zA (fun h => by cases h) (zA zD (zA zD z4)))), .tuple #[], [cw (zY 1 (sv 2 0 n (n + m)) (gV 7 ((l.eraseIdx k.toNat).length) (some (c9, t10)))), cr [], cr (zaY n (uf i 3 8) ++ zbe m), cw (z5 4 p b 5), cw (zK p is nr (slV 6 127 q)), .chan 1 (([] : List Nt).map ntE), cr [], gB (l.eraseIdx k.toNat) (some (c9, t10)), cr [], cr [], cr [], cr [], cr [], cr [], cr [], cr [], cr [], cr [], cr [], cr [], cr [], cr [], cr [], cr [], cw (ntL nt)], [], (by simp [zbw]), ⟨zat rfl rfl (qP (some (c9, t10)) rfl), ⟨(by cases true <;> rfl), ⟨rfl, ⟨rfl, ⟨rfl, ⟨rfl, ⟨rfl, ⟨qQ g8, ⟨rfl, ⟨rfl, ⟨rfl, ⟨rfl, ⟨rfl, ⟨rfl, ⟨rfl, ⟨rfl, ⟨rfl, ⟨rfl, ⟨rfl, ⟨rfl, ⟨rfl, ⟨rfl, ⟨rfl, ⟨rfl, ⟨rfl, trivial⟩⟩⟩⟩⟩⟩⟩⟩⟩⟩⟩⟩⟩⟩⟩⟩⟩⟩⟩⟩⟩⟩⟩⟩⟩, trivial, ?_⟩
    exact zF (z9 [(0, pv 0 0), (7, pv 24 0)] (by kernel_rfl) (.inl ⟨(l.eraseIdx k.toNat), c9, t10, g8, (by simp [zdM, h1, h3, h4, h5]), (by first | omega | (simp [List.length_eraseIdx]; split <;> omega)), rfl⟩))
   refine ⟨(zA qD (zA zD (zA zD (zA zD z4)))), .tuple #[], [cw (zY 1 (sv 2 0 n (n + m)) (gV 25 ((l.eraseIdx k.toNat).length) (some (c9, t10)))), cr [], cr (zaY n (uf i 3 8) ++ zbe m), cw (z5 4 p b 5), cw (zK p is nr (slV 6 127 q)), .chan 1 (([] : List Nt).map ntE), cr [], gB l (some (c, t)), cr [], cr [], cr [], cr [], cr [], cr [], cr [], cr [], cr [], cr [], cr [], cr [], cr [], cr [], cr [], cr [], cw (ntL nt)], [gB (l.eraseIdx k.toNat) (some (c9, t10))], (by simp [zbw]), ⟨zat rfl rfl (qP (some (c9, t10)) rfl), ⟨(by cases true <;> rfl), ⟨rfl, ⟨rfl, ⟨rfl, ⟨rfl, ⟨rfl, ⟨qQ ho, ⟨rfl, ⟨rfl, ⟨rfl, ⟨rfl, ⟨rfl, ⟨rfl, ⟨rfl, ⟨rfl, ⟨rfl, ⟨rfl, ⟨rfl, ⟨rfl, ⟨rfl, ⟨rfl, ⟨rfl, ⟨rfl, ⟨rfl, trivial⟩⟩⟩⟩⟩⟩⟩⟩⟩⟩⟩⟩⟩⟩⟩⟩⟩⟩⟩⟩⟩⟩⟩⟩⟩, ⟨(qQ g8), trivial⟩, ?_⟩
   exact zF (z9 [(0, pv 0 0), (7, pv 24 0)] (by kernel_rfl) (.inr ⟨(l.eraseIdx k.toNat), c9, t10, g8, (by simp [zdM, h1, h3, h4, h5]), (by first | omega | (simp [List.length_eraseIdx]; split <;> omega)), rfl⟩))
  have h12 : keep = true := not_f h4
  exact zaC (z9 [(0, pv 0 0), (7, pv 24 0)] (by kernel_rfl) (.inl ⟨l, c, t, ho, (by simp [zdM, h1, h3, h4, h12]), (by first | omega | (simp [List.length_eraseIdx]; split <;> omega)), rfl⟩))
 rintro s (⟨lz, cz, tz, hz, hlz, hzn, rfl⟩ | ⟨lz, cz, tz, hz, hlz, hzn, rfl⟩)
 ·skip
  refine zT (zT (z0 (o_d 1 [(30, pv 24 4)] (by kernel_rfl) (o_s (by refine z6 (v := bv nt.a) rfl rfl ?_; exact zdx rfl) ?_))))
  refine zF (zC (zaJ (t := nt.a) rfl (fun q => by rw [(hn9 ▸ (hnt (by assumption)).1 : (nt.a) = false)] at q; cases q) (fun _ => ?_)))
  refine zaC (zC (zT (zT (zbq [cw (zY 1 (sv 2 0 n (n + m)) (gV 7 lz.length (some (cz, tz)))), cr [], cr (zaY n (uf i 3 8) ++ zbe m), cw (z5 4 p b 5), cw (zK p is nr (slV 6 127 q)), .chan 1 (([] : List Nt).map ntE), cr [], gB lz (some (cz, tz)), cr [], cr [], cr [], cr [], cr [], cr [], cr [], cr [], cr [], cr [], cr [], cr [], cr [], cr [], cr [], cr [], cw (ntL nt)] (by kernel_rfl) (d_n 4 4 25 [(42, pv 24 0), (41, pv 0 1), (40, pv 0 0), (39, pv 0 0)] [cw (zY 1 (sv 2 0 n (n + m)) (gV 7 lz.length (some (cz, tz)))), cr [], cr (zaY n (uf i 3 8) ++ zbe m), cw (z5 4 p b 5), cw (zK p is nr (slV 6 127 q)), .chan 1 (([] : List Nt).map ntE), cr [], gB lz (some (cz, tz)), cr [], cr [], cr [], cr [], cr [], cr [], cr [], cr [], cr [], cr [], cr [], cr [], cr [], cr [], cr [], cr [], cw (ntL nt)] [] (by kernel_rfl) rfl rfl (d_s rfl rfl rfl (by kernel_rfl) (by refine z6 (v := iv nt.u) rfl rfl ?_; exact zdx rfl) ?_))))))
  have hui : nt.u = (i : Nat) := hn9 ▸ (hnt (by assumption)).2
  refine zga [0, 2, 1, 7, 3, 8, 9, 10, 11, 12, 13, 14, 15, 16, 17, 18, 19, 20, 21, 22, 23] [cr (zY 2 (sv 1 0 n (n + m)) (gV 3 lz.length (some (cz, tz)))), cr (zaY n (uf i 4 5) ++ zbe m), cr [], cr [], cr [], cr [], cr [], cr [], cr [], cr [], cr [], cr [], cr [], cr [], cr [], cr [], cr [], cr [], cr [], cr [], cr []] [pv 0 1, iv nt.u] (atU1C h_yard_row_yard_unit_at n m i lz.length (some (cz, tz)) nt.u hui hi) rfl rfl ⟨⟨_, rfl, zZ (.inl (zao rfl rfl (qP (some (cz, tz)) rfl) (fun q => rfl)))⟩, ⟨⟨_, rfl, zZ (.inl (zey rfl (h16 rfl) hn16 (fun q => q)))⟩, ⟨⟨_, rfl, zG⟩, ⟨⟨_, rfl, zdm (some (cz, tz))⟩, ⟨⟨_, rfl, zG⟩, ⟨⟨_, rfl, zG⟩, ⟨⟨_, rfl, zG⟩, ⟨⟨_, rfl, zG⟩, ⟨⟨_, rfl, zG⟩, ⟨⟨_, rfl, zG⟩, ⟨⟨_, rfl, zG⟩, ⟨⟨_, rfl, zG⟩, ⟨⟨_, rfl, zG⟩, ⟨⟨_, rfl, zG⟩, ⟨⟨_, rfl, zG⟩, ⟨⟨_, rfl, zG⟩, ⟨⟨_, rfl, zG⟩, ⟨⟨_, rfl, zG⟩, ⟨⟨_, rfl, zG⟩, ⟨⟨_, rfl, zG⟩, ⟨⟨_, rfl, zG⟩, trivial⟩⟩⟩⟩⟩⟩⟩⟩⟩⟩⟩⟩⟩⟩⟩⟩⟩⟩⟩⟩⟩ (by decide) ⟨_, _, ⟨rfl, rfl⟩, Nat.le_refl _, za0 [_, _, _, _, _, _, _, _, _, _, _, _, _, _, _, _, _, _, _, _, _] []⟩ ?_ (by kernel_rfl)
  rintro v1 h1' ⟨rfl, rfl⟩
  refine ⟨(zA zD (zA zD (zA zD (zA zD (zA zD (zA zD (zA zD (zA zD (zA zD (zA zD (zA zD (zA zD (zA zD (zA zD (zA zD (zA zD (zA zD (zA zD (zA zD (zA zD (zA zD z4))))))))))))))))))))), .tuple #[pv 3 0, bv true], [cw (zY 1 (sv 2 0 n (n + m)) (gV 7 lz.length (some (cz, tz)))), cr [], cr (zaY n (uf i 3 8) ++ zbe m), cw (z5 4 p b 5), cw (zK p is nr (slV 6 127 q)), .chan 1 (([] : List Nt).map ntE), cr [], gB lz (some (cz, tz)), cr [], cr [], cr [], cr [], cr [], cr [], cr [], cr [], cr [], cr [], cr [], cr [], cr [], cr [], cr [], cr [], cw (ntL nt)], [], ((zfG _).trans rfl), ⟨rfl, ⟨(by cases true <;> rfl), ⟨rfl, ⟨rfl, ⟨rfl, ⟨rfl, ⟨rfl, ⟨rfl, ⟨(by cases true <;> rfl), ⟨(by cases true <;> rfl), ⟨(by cases true <;> rfl), ⟨(by cases true <;> rfl), ⟨(by cases true <;> rfl), ⟨(by cases true <;> rfl), ⟨(by cases true <;> rfl), ⟨(by cases true <;> rfl), ⟨(by cases true <;> rfl), ⟨(by cases true <;> rfl), ⟨(by cases true <;> rfl), ⟨(by cases true <;> rfl), ⟨(by cases true <;> rfl), ⟨(by cases true <;> rfl), ⟨(by cases true <;> rfl), ⟨(by cases true <;> rfl), ⟨rfl, trivial⟩⟩⟩⟩⟩⟩⟩⟩⟩⟩⟩⟩⟩⟩⟩⟩⟩⟩⟩⟩⟩⟩⟩⟩⟩, trivial, ?_⟩
  refine d_n 5 11 25 [(10, bv true), (9, pv 3 0), (46, bv true), (45, pv 3 0), (38, .tuple #[pv 3 0, bv true])] [cw (zY 1 (sv 2 0 n (n + m)) (gV 7 lz.length (some (cz, tz)))), cr [], cr (zaY n (uf i 3 8) ++ zbe m), cw (z5 4 p b 5), cw (zK p is nr (slV 6 127 q)), .chan 1 (([] : List Nt).map ntE), cr [], gB lz (some (cz, tz)), cr [], cr [], cr [], cr [], cr [], cr [], cr [], cr [], cr [], cr [], cr [], cr [], cr [], cr [], cr [], cr [], cw (ntL nt)] [⟨5, [0, 2, 1, 7, 3, 8, 9, 10, 11, 12, 13, 14, 15, 16, 17, 18, 19, 20, 21, 22, 23], [], some 25⟩, ⟨4, [24], [], none⟩] (by kernel_rfl) rfl rfl (zbW (zC (zT (z0 (o_d 1 [(47, bv true)] (by kernel_rfl) (zF (zC (zd5 rfl (zT (zbq [cw (zY 1 (sv 2 0 n (n + m)) (gV 7 lz.length (some (cz, tz)))), cr [], cr (zaY n (uf i 3 8) ++ zbe m), cw (z5 4 p b 5), cw (zK p is nr (slV 6 127 q)), .chan 1 (([] : List Nt).map ntE), cr [], gB lz (some (cz, tz)), cr [], cr [], cr [], cr [], cr [], cr [], cr [], cr [], cr [], cr [], cr [], cr [], cr [], cr [], cr [], cr [], cw (ntL nt)] (by kernel_rfl) (d_n 3 3 25 [(50, pv 3 332), (49, pv 3 0), (48, pv 3 0)] [cw (zY 1 (sv 2 0 n (n + m)) (gV 7 lz.length (some (cz, tz)))), cr [], cr (zaY n (uf i 3 8) ++ zbe m), cw (z5 4 p b 5), cw (zK p is nr (slV 6 127 q)), .chan 1 (([] : List Nt).map ntE), cr [], gB lz (some (cz, tz)), cr [], cr [], cr [], cr [], cr [], cr [], cr [], cr [], cr [], cr [], cr [], cr [], cr [], cr [], cr [], cr [], cw (ntL nt)] [] (by kernel_rfl) rfl rfl (d_s rfl rfl rfl (by kernel_rfl) (by refine z6 (v := .chan (some 5)) rfl rfl ?_; exact (zdu 1).trans rfl) ?_))))))))))))
  refine d_s rfl rfl rfl (by kernel_rfl) (by refine z6 (v := ntE nt) rfl rfl ?_; exact zbx nt.u nt.b nt.v nt.w nt.a nt.e nt.p) ?_
  refine d_snd (k := 5) (b := ([] : List Nt).map ntE) (b2 := ([nt]).map ntE) rfl rfl rfl (by rw [List.length_map]; simp) rfl rfl ?_
  refine zbW (zC (zT (z0 (o_d 2 [(55, pv 24 0), (54, pv 3 0)] (by kernel_rfl) (o_s (by refine z6 (v := iv nt.u) rfl rfl ?_; exact zdx rfl) ?_)))))
  refine zbO (zcZ [3, 4, 5, 6] [cw (z5 1 p b 2), cw (zK p is nr (slV 3 127 q)), .chan 1 (([nt]).map ntE), cr []] [pv 0 0, iv nt.u] (UHearC h_yard_unit_hear h_yard_unit_version h_plane_Plane_Version h_yard_unit_load h_plane_Plane_Load h_plane_maybe_api_Pool_lay h_wheel_Make h_wheel_spun h_sip_Words h_sip_Of h_sip_number_byte h_sip_state_take h_sip_state_rounds h_sip_state_round h_math_bits_RotateLeft64 h_pool_Apply h_pool_may h_pool_held h_pool_fits h_pool_Check h_pool_placed h_cookie_Next p is nr q b nt nt.u) rfl rfl ⟨⟨_, rfl, zZ (.inl (zbB rfl rfl (fun q => rfl)))⟩, ⟨⟨_, rfl, zZ (.inl (zaK (qN q rfl) (fun q => rfl)))⟩, ⟨⟨_, rfl, zZ (.inl (zcg _))⟩, ⟨⟨_, rfl, zG⟩, trivial⟩⟩⟩⟩ (by decide) ?_)
  rintro v1 h1' ⟨rfl, ⟨hE13, rfl⟩ | ⟨hE13, m14, rfl⟩⟩
  ·skip
   refine ⟨(zA zD (zA zD (zA (fun h => by cases h) (zA zD z4)))), .tuple #[ntV nt.u b (qJ (uhS p is b nt).1 (uhS p is b nt).2) false true e0 zH, bv true], [cw (zY 1 (sv 2 0 n (n + m)) (gV 7 lz.length (some (cz, tz)))), cr [], cr (zaY n (uf i 3 8) ++ zbe m), cw (z5 4 p b 5), cw (zK p is nr (slV 6 127 q)), .chan 1 (([] : List Nt).map ntE), cr [], gB lz (some (cz, tz)), cr [], cr [], cr [], cr [], cr [], cr [], cr [], cr [], cr [], cr [], cr [], cr [], cr [], cr [], cr [], cr [], cw (ntL nt)], [], (qE (all_cons (zaV nt.u b (qJ (uhS p is b nt).1 (uhS p is b nt).2) false true e0 zH) (all_cons rfl rfl))), ⟨rfl, ⟨rfl, ⟨rfl, ⟨zcn rfl rfl, ⟨zbb (qN q rfl), ⟨qX _, ⟨(by cases true <;> rfl), ⟨rfl, ⟨rfl, ⟨rfl, ⟨rfl, ⟨rfl, ⟨rfl, ⟨rfl, ⟨rfl, ⟨rfl, ⟨rfl, ⟨rfl, ⟨rfl, ⟨rfl, ⟨rfl, ⟨rfl, ⟨rfl, ⟨rfl, ⟨rfl, trivial⟩⟩⟩⟩⟩⟩⟩⟩⟩⟩⟩⟩⟩⟩⟩⟩⟩⟩⟩⟩⟩⟩⟩⟩⟩, trivial, ?_⟩
   refine o_b 4 [(11, pv 25 0), (59, bv true), (58, ntV nt.u b (qJ (uhS p is b nt).1 (uhS p is b nt).2) false true e0 zH), (53, .tuple #[ntV nt.u b (qJ (uhS p is b nt).1 (uhS p is b nt).2) false true e0 zH, bv true])] [cw (zY 1 (sv 2 0 n (n + m)) (gV 7 lz.length (some (cz, tz)))), cr [], cr (zaY n (uf i 3 8) ++ zbe m), cw (z5 4 p b 5), cw (zK p is nr (slV 6 127 q)), .chan 1 (([] : List Nt).map ntE), cr [], gB lz (some (cz, tz)), cr [], cr [], cr [], cr [], cr [], cr [], cr [], cr [], cr [], cr [], cr [], cr [], cr [], cr [], cr [], cr [], cw (ntL nt), cw (ntF 0 0 0 false false e0 zH)] (by kernel_rfl) (zeC (by refine qY (c' := ntF nt.u b (qJ (uhS p is b nt).1 (uhS p is b nt).2) false true e0 zH) rfl rfl rfl ?_ ?_ ?_; exact z8 _ _ _ _ _ _ _; exact zcR (by omega); exact zbh) ?_)
   refine o_b 1 [(12, bv true)] [cw (zY 1 (sv 2 0 n (n + m)) (gV 7 lz.length (some (cz, tz)))), cr [], cr (zaY n (uf i 3 8) ++ zbe m), cw (z5 4 p b 5), cw (zK p is nr (slV 6 127 q)), .chan 1 (([] : List Nt).map ntE), cr [], gB lz (some (cz, tz)), cr [], cr [], cr [], cr [], cr [], cr [], cr [], cr [], cr [], cr [], cr [], cr [], cr [], cr [], cr [], cr [], cw (ntL nt), cw (ntF nt.u b (qJ (uhS p is b nt).1 (uhS p is b nt).2) false true e0 zH)] (by kernel_rfl) (zF (z9 [(12, bv true), (11, pv 25 0), (0, pv 0 0)] (by kernel_rfl) (zT (z0 (o_d 1 [(60, bv true)] (by kernel_rfl) (zF (zC (zd5 rfl (zbq [cw (zY 1 (sv 2 0 n (n + m)) (gV 7 lz.length (some (cz, tz)))), cr [], cr (zaY n (uf i 3 8) ++ zbe m), cw (z5 4 p b 5), cw (zK p is nr (slV 6 127 q)), .chan 1 (([] : List Nt).map ntE), cr [], gB lz (some (cz, tz)), cr [], cr [], cr [], cr [], cr [], cr [], cr [], cr [], cr [], cr [], cr [], cr [], cr [], cr [], cr [], cr [], cw (ntL nt), cw (ntF nt.u b (qJ (uhS p is b nt).1 (uhS p is b nt).2) false true e0 zH), .gone] (by kernel_rfl) (d_n 3 3 26 [(63, pv 0 2), (62, pv 0 0), (61, pv 0 0)] [cw (zY 1 (sv 2 0 n (n + m)) (gV 7 lz.length (some (cz, tz)))), cr [], cr (zaY n (uf i 3 8) ++ zbe m), cw (z5 4 p b 5), cw (zK p is nr (slV 6 127 q)), .chan 1 (([] : List Nt).map ntE), cr [], gB lz (some (cz, tz)), cr [], cr [], cr [], cr [], cr [], cr [], cr [], cr [], cr [], cr [], cr [], cr [], cr [], cr [], cr [], cr [], cw (ntL nt), cw (ntF nt.u b (qJ (uhS p is b nt).1 (uhS p is b nt).2) false true e0 zH), .gone] [] (by kernel_rfl) rfl rfl (d_s rfl rfl rfl (by kernel_rfl) (by refine z6 (v := ntV nt.u b (qJ (uhS p is b nt).1 (uhS p is b nt).2) false true e0 zH) rfl rfl ?_; exact zbx nt.u b (qJ (uhS p is b nt).1 (uhS p is b nt).2) false true e0 zH) ?_)))))))))))
   refine d_mk (B := cw (ntF nt.u b (qJ (uhS p is b nt).1 (uhS p is b nt).2) false true e0 zH)) rfl (zgu rfl (z8 _ _ _ _ _ _ _)) rfl (by kernel_rfl) (d_clHW [0, 7, 26] [0, 7, 26, 1, 2] [cw (zY 3 (sv 4 0 n (n + m)) (gV 1 lz.length (some (cz, tz)))), gB lz (some (cz, tz)), slB zNt (zaX ([(⟨nt.u, b, qJ (uhS p is b nt).1 (uhS p is b nt).2, false, true, e0, zH⟩ : Nt)])) (some 0), cr [], cr []] [pv 0 2, slV 2 (([(⟨nt.u, b, qJ (uhS p is b nt).1 (uhS p is b nt).2, false, true, e0, zH⟩ : Nt)]).length) (some 0)] (putNC h_yard_row_head_Note_put lz ([(⟨nt.u, b, qJ (uhS p is b nt).1 (uhS p is b nt).2, false, true, e0, zH⟩ : Nt)]) (some (cz, tz)) (some 0) n m hz (fun z => by cases z) (by first | (simp; omega) | (simp [List.length_eraseIdx]; split <;> omega))) (wr_put ..) rfl rfl ⟨⟨_, rfl, zZ (.inl (zao rfl rfl (qP (some (cz, tz)) rfl) (fun q => rfl)))⟩, ⟨⟨_, rfl, zb3 hz⟩, ⟨⟨_, rfl, zhL⟩, ⟨⟨_, rfl, zG⟩, ⟨⟨_, rfl, zG⟩, trivial⟩⟩⟩⟩⟩ (by decide) (zik lz ([(⟨nt.u, b, qJ (uhS p is b nt).1 (uhS p is b nt).2, false, true, e0, zH⟩ : Nt)]) (some (cz, tz)) (some 0) n m) ?_ (by kernel_rfl))
   rintro v1 h1' ⟨rfl, o15, g17, ⟨s16, rfl⟩ | ⟨s16, rfl⟩⟩
   ·skip
    refine ⟨(zA qD (zA (zfL s16) (zA zD (zA zD (zA zD z4))))), .tuple #[], [cw (zY 1 (sv 2 0 n (n + m)) (gV 7 ((lz ++ ([(⟨nt.u, b, qJ (uhS p is b nt).1 (uhS p is b nt).2, false, true, e0, zH⟩ : Nt)])).length) o15)), cr [], cr (zaY n (uf i 3 8) ++ zbe m), cw (z5 4 p b 5), cw (zK p is nr (slV 6 127 q)), .chan 1 (([] : List Nt).map ntE), cr [], gB (lz ++ ([(⟨nt.u, b, qJ (uhS p is b nt).1 (uhS p is b nt).2, false, true, e0, zH⟩ : Nt)])) o15, cr [], cr [], cr [], cr [], cr [], cr [], cr [], cr [], cr [], cr [], cr [], cr [], cr [], cr [], cr [], cr [], cw (ntL nt), cw (ntF nt.u b (qJ (uhS p is b nt).1 (uhS p is b nt).2) false true e0 zH), cw (ntF nt.u b (qJ (uhS p is b nt).1 (uhS p is b nt).2) false true e0 zH)], [], (by simp [zbw]), ⟨zat rfl rfl (qP o15 rfl), ⟨(by cases true <;> rfl), ⟨rfl, ⟨rfl, ⟨rfl, ⟨rfl, ⟨rfl, ⟨(by cases o15 with | none => rfl | some y9 => exact qQ g17), ⟨rfl, ⟨rfl, ⟨rfl, ⟨rfl, ⟨rfl, ⟨rfl, ⟨rfl, ⟨rfl, ⟨rfl, ⟨rfl, ⟨rfl, ⟨rfl, ⟨rfl, ⟨rfl, ⟨rfl, ⟨rfl, ⟨rfl, ⟨rfl, ⟨ze7, trivial⟩⟩⟩⟩⟩⟩⟩⟩⟩⟩⟩⟩⟩⟩⟩⟩⟩⟩⟩⟩⟩⟩⟩⟩⟩⟩⟩, trivial, ?_⟩
    refine zbW (zC (zT (z0 (o_d 1 [(6, bv true)] (by kernel_rfl) (zF (zC (zbr ?_)))))))
    have hD : (zcY p is b l k keep) = ((uhS p is b nt), (lz ++ ([(⟨nt.u, b, qJ (uhS p is b nt).1 (uhS p is b nt).2, false, true, e0, zH⟩ : Nt)]))) := by simp [zcY, ackN, hn9, h1, h3, hlz, zdM]
    have hT : (zcY p is b l k keep).1.1 = p ∧ (zcY p is b l k keep).1.2 = is ∧ (zcY p is b l k keep).2 = (lz ++ ([(⟨nt.u, b, qJ (uhS p is b nt).1 (uhS p is b nt).2, false, true, e0, zH⟩ : Nt)])) := by rw [hD]; exact ⟨congrArg Prod.fst hE13, congrArg Prod.snd hE13, rfl⟩
    exact ⟨trivial, [bv true], (qB rfl rfl), (zS rfl z1), rfl, ⟨reg [], [cw (zY 1 (sv 2 0 n (n + m)) (gV 7 ((lz ++ ([(⟨nt.u, b, qJ (uhS p is b nt).1 (uhS p is b nt).2, false, true, e0, zH⟩ : Nt)])).length) o15)), cr [], cr (zaY n (uf i 3 8) ++ zbe m), cw (z5 4 p b 5), cw (zK p is nr (slV 6 127 q)), .chan 1 (([] : List Nt).map ntE), cr [], gB (lz ++ ([(⟨nt.u, b, qJ (uhS p is b nt).1 (uhS p is b nt).2, false, true, e0, zH⟩ : Nt)])) o15, cr [], cr [], cr [], cr [], cr [], cr [], cr [], cr [], cr [], cr [], cr [], cr [], cr [], cr [], cr [], cr []]⟩, Wk.ren [0, 1, 2, 3, 4, 5, 6, 7, 8, 9, 10, 11, 12, 13, 14, 15, 16, 17, 18, 19, 20, 21, 22, 23] rfl rfl (by decide) trivial ⟨.inl (zaf rfl rfl (qP o15 rfl)), ⟨.inl rfl, ⟨.inl (zco rfl (h16 rfl) hn16), ⟨.inl (zaO rfl rfl), ⟨.inl (qZ (qN q rfl)), ⟨.inl (congrArg some (qX _).symm), ⟨.inl rfl, ⟨.inl (congrArg some (qQ g17).symm), ⟨.inl rfl, ⟨.inl rfl, ⟨.inl rfl, ⟨.inl rfl, ⟨.inl rfl, ⟨.inl rfl, ⟨.inl rfl, ⟨.inl rfl, ⟨.inl rfl, ⟨.inl rfl, ⟨.inl rfl, ⟨.inl rfl, ⟨.inl rfl, ⟨.inl rfl, ⟨.inl rfl, ⟨.inl rfl, trivial⟩⟩⟩⟩⟩⟩⟩⟩⟩⟩⟩⟩⟩⟩⟩⟩⟩⟩⟩⟩⟩⟩⟩⟩, (by simp [one, h1, h3]), false, (fun _ => by rw [hD]; exact hE13), (fun q => by cases q), (by rw [hT.1, hT.2.1, hT.2.2]; exact ⟨o15, gB (lz ++ ([(⟨nt.u, b, qJ (uhS p is b nt).1 (uhS p is b nt).2, false, true, e0, zH⟩ : Nt)])) o15, 7, 6, q, [], ⟨g17, (fun z => by cases z), rfl, .inl ⟨rfl, rfl⟩, (by decide), .inl ⟨rfl, rfl, rfl⟩⟩⟩)⟩
   refine ⟨(zA qD (zA zD (zA zD (zA zD (zA zD z4))))), .tuple #[], [cw (zY 1 (sv 2 0 n (n + m)) (gV 27 ((lz ++ ([(⟨nt.u, b, qJ (uhS p is b nt).1 (uhS p is b nt).2, false, true, e0, zH⟩ : Nt)])).length) o15)), cr [], cr (zaY n (uf i 3 8) ++ zbe m), cw (z5 4 p b 5), cw (zK p is nr (slV 6 127 q)), .chan 1 (([] : List Nt).map ntE), cr [], gB lz (some (cz, tz)), cr [], cr [], cr [], cr [], cr [], cr [], cr [], cr [], cr [], cr [], cr [], cr [], cr [], cr [], cr [], cr [], cw (ntL nt), cw (ntF nt.u b (qJ (uhS p is b nt).1 (uhS p is b nt).2) false true e0 zH), cw (ntF nt.u b (qJ (uhS p is b nt).1 (uhS p is b nt).2) false true e0 zH)], [gB (lz ++ ([(⟨nt.u, b, qJ (uhS p is b nt).1 (uhS p is b nt).2, false, true, e0, zH⟩ : Nt)])) o15], (by simp [zbw]), ⟨zat rfl rfl (qP o15 rfl), ⟨(by cases true <;> rfl), ⟨rfl, ⟨rfl, ⟨rfl, ⟨rfl, ⟨rfl, ⟨qQ hz, ⟨rfl, ⟨rfl, ⟨rfl, ⟨rfl, ⟨rfl, ⟨rfl, ⟨rfl, ⟨rfl, ⟨rfl, ⟨rfl, ⟨rfl, ⟨rfl, ⟨rfl, ⟨rfl, ⟨rfl, ⟨rfl, ⟨rfl, ⟨rfl, ⟨ze7, trivial⟩⟩⟩⟩⟩⟩⟩⟩⟩⟩⟩⟩⟩⟩⟩⟩⟩⟩⟩⟩⟩⟩⟩⟩⟩⟩⟩, ⟨(qQ g17), trivial⟩, ?_⟩
   refine zbW (zC (zT (z0 (o_d 1 [(6, bv true)] (by kernel_rfl) (zF (zC (zbr ?_)))))))
   have hD : (zcY p is b l k keep) = ((uhS p is b nt), (lz ++ ([(⟨nt.u, b, qJ (uhS p is b nt).1 (uhS p is b nt).2, false, true, e0, zH⟩ : Nt)]))) := by simp [zcY, ackN, hn9, h1, h3, hlz, zdM]
   have hT : (zcY p is b l k keep).1.1 = p ∧ (zcY p is b l k keep).1.2 = is ∧ (zcY p is b l k keep).2 = (lz ++ ([(⟨nt.u, b, qJ (uhS p is b nt).1 (uhS p is b nt).2, false, true, e0, zH⟩ : Nt)])) := by rw [hD]; exact ⟨congrArg Prod.fst hE13, congrArg Prod.snd hE13, rfl⟩
   exact ⟨trivial, [bv true], (qB rfl rfl), (zS rfl z1), rfl, ⟨reg [], [cw (zY 1 (sv 2 0 n (n + m)) (gV 24 ((lz ++ ([(⟨nt.u, b, qJ (uhS p is b nt).1 (uhS p is b nt).2, false, true, e0, zH⟩ : Nt)])).length) o15)), cr [], cr (zaY n (uf i 3 8) ++ zbe m), cw (z5 4 p b 5), cw (zK p is nr (slV 6 127 q)), .chan 1 (([] : List Nt).map ntE), cr [], gB lz (some (cz, tz)), cr [], cr [], cr [], cr [], cr [], cr [], cr [], cr [], cr [], cr [], cr [], cr [], cr [], cr [], cr [], cr [], gB (lz ++ ([(⟨nt.u, b, qJ (uhS p is b nt).1 (uhS p is b nt).2, false, true, e0, zH⟩ : Nt)])) o15]⟩, Wk.ren [0, 1, 2, 3, 4, 5, 6, 7, 8, 9, 10, 11, 12, 13, 14, 15, 16, 17, 18, 19, 20, 21, 22, 23, 27] rfl rfl (by decide) trivial ⟨.inl (zaf rfl rfl (qP o15 rfl)), ⟨.inl rfl, ⟨.inl (zco rfl (h16 rfl) hn16), ⟨.inl (zaO rfl rfl), ⟨.inl (qZ (qN q rfl)), ⟨.inl (congrArg some (qX _).symm), ⟨.inl rfl, ⟨.inl (congrArg some (qQ hz).symm), ⟨.inl rfl, ⟨.inl rfl, ⟨.inl rfl, ⟨.inl rfl, ⟨.inl rfl, ⟨.inl rfl, ⟨.inl rfl, ⟨.inl rfl, ⟨.inl rfl, ⟨.inl rfl, ⟨.inl rfl, ⟨.inl rfl, ⟨.inl rfl, ⟨.inl rfl, ⟨.inl rfl, ⟨.inl rfl, ⟨.inl (congrArg some (qQ g17).symm), trivial⟩⟩⟩⟩⟩⟩⟩⟩⟩⟩⟩⟩⟩⟩⟩⟩⟩⟩⟩⟩⟩⟩⟩⟩⟩, (by simp [one, h1, h3]), false, (fun _ => by rw [hD]; exact hE13), (fun q => by cases q), (by rw [hT.1, hT.2.1, hT.2.2]; exact ⟨o15, gB lz (some (cz, tz)), 24, 6, q, [gB (lz ++ ([(⟨nt.u, b, qJ (uhS p is b nt).1 (uhS p is b nt).2, false, true, e0, zH⟩ : Nt)])) o15], ⟨g17, (fun z => by cases z), rfl, .inr ⟨0, rfl, rfl⟩, (by decide), .inl ⟨rfl, rfl, rfl⟩⟩⟩)⟩
  refine ⟨(zA qD (zA qD (zA (fun h => by cases h) (zA zD z4)))), .tuple #[ntV nt.u b (qJ (uhS p is b nt).1 (uhS p is b nt).2) false true e0 zH, bv true], [cw (zY 1 (sv 2 0 n (n + m)) (gV 7 lz.length (some (cz, tz)))), cr [], cr (zaY n (uf i 3 8) ++ zbe m), cw (z5 4 ((uhS p is b nt).1) b 5), cw (zK ((uhS p is b nt).1) true nr (slV 25 127 (some m14))), .chan 1 (([] : List Nt).map ntE), cr [], gB lz (some (cz, tz)), cr [], cr [], cr [], cr [], cr [], cr [], cr [], cr [], cr [], cr [], cr [], cr [], cr [], cr [], cr [], cr [], cw (ntL nt)], [slB zI (ii (zaw ((uhS p is b nt).1))) (some m14)], (qE (all_cons (zaV nt.u b (qJ (uhS p is b nt).1 (uhS p is b nt).2) false true e0 zH) (all_cons rfl rfl))), ⟨rfl, ⟨rfl, ⟨rfl, ⟨zcn rfl rfl, ⟨zbb rfl, ⟨qX _, ⟨(by cases true <;> rfl), ⟨rfl, ⟨rfl, ⟨rfl, ⟨rfl, ⟨rfl, ⟨rfl, ⟨rfl, ⟨rfl, ⟨rfl, ⟨rfl, ⟨rfl, ⟨rfl, ⟨rfl, ⟨rfl, ⟨rfl, ⟨rfl, ⟨rfl, ⟨rfl, trivial⟩⟩⟩⟩⟩⟩⟩⟩⟩⟩⟩⟩⟩⟩⟩⟩⟩⟩⟩⟩⟩⟩⟩⟩⟩, ⟨(Option.some.inj (zaz (some m14) (fun _ => (zca _ _)))).symm, trivial⟩, ?_⟩
  refine o_b 4 [(11, pv 26 0), (59, bv true), (58, ntV nt.u b (qJ (uhS p is b nt).1 (uhS p is b nt).2) false true e0 zH), (53, .tuple #[ntV nt.u b (qJ (uhS p is b nt).1 (uhS p is b nt).2) false true e0 zH, bv true])] [cw (zY 1 (sv 2 0 n (n + m)) (gV 7 lz.length (some (cz, tz)))), cr [], cr (zaY n (uf i 3 8) ++ zbe m), cw (z5 4 ((uhS p is b nt).1) b 5), cw (zK ((uhS p is b nt).1) true nr (slV 25 127 (some m14))), .chan 1 (([] : List Nt).map ntE), cr [], gB lz (some (cz, tz)), cr [], cr [], cr [], cr [], cr [], cr [], cr [], cr [], cr [], cr [], cr [], cr [], cr [], cr [], cr [], cr [], cw (ntL nt), slB zI (ii (zaw ((uhS p is b nt).1))) (some m14), cw (ntF 0 0 0 false false e0 zH)] (by kernel_rfl) (zeC (by refine qY (c' := ntF nt.u b (qJ (uhS p is b nt).1 (uhS p is b nt).2) false true e0 zH) rfl rfl rfl ?_ ?_ ?_; exact z8 _ _ _ _ _ _ _; exact zcR (by omega); exact zbh) ?_)
  refine o_b 1 [(12, bv true)] [cw (zY 1 (sv 2 0 n (n + m)) (gV 7 lz.length (some (cz, tz)))), cr [], cr (zaY n (uf i 3 8) ++ zbe m), cw (z5 4 ((uhS p is b nt).1) b 5), cw (zK ((uhS p is b nt).1) true nr (slV 25 127 (some m14))), .chan 1 (([] : List Nt).map ntE), cr [], gB lz (some (cz, tz)), cr [], cr [], cr [], cr [], cr [], cr [], cr [], cr [], cr [], cr [], cr [], cr [], cr [], cr [], cr [], cr [], cw (ntL nt), slB zI (ii (zaw ((uhS p is b nt).1))) (some m14), cw (ntF nt.u b (qJ (uhS p is b nt).1 (uhS p is b nt).2) false true e0 zH)] (by kernel_rfl) (zF (z9 [(12, bv true), (11, pv 26 0), (0, pv 0 0)] (by kernel_rfl) (zT (z0 (o_d 1 [(60, bv true)] (by kernel_rfl) (zF (zC (zd5 rfl (zbq [cw (zY 1 (sv 2 0 n (n + m)) (gV 7 lz.length (some (cz, tz)))), cr [], cr (zaY n (uf i 3 8) ++ zbe m), cw (z5 4 ((uhS p is b nt).1) b 5), cw (zK ((uhS p is b nt).1) true nr (slV 25 127 (some m14))), .chan 1 (([] : List Nt).map ntE), cr [], gB lz (some (cz, tz)), cr [], cr [], cr [], cr [], cr [], cr [], cr [], cr [], cr [], cr [], cr [], cr [], cr [], cr [], cr [], cr [], cw (ntL nt), slB zI (ii (zaw ((uhS p is b nt).1))) (some m14), cw (ntF nt.u b (qJ (uhS p is b nt).1 (uhS p is b nt).2) false true e0 zH), .gone] (by kernel_rfl) (d_n 3 3 27 [(63, pv 0 2), (62, pv 0 0), (61, pv 0 0)] [cw (zY 1 (sv 2 0 n (n + m)) (gV 7 lz.length (some (cz, tz)))), cr [], cr (zaY n (uf i 3 8) ++ zbe m), cw (z5 4 ((uhS p is b nt).1) b 5), cw (zK ((uhS p is b nt).1) true nr (slV 25 127 (some m14))), .chan 1 (([] : List Nt).map ntE), cr [], gB lz (some (cz, tz)), cr [], cr [], cr [], cr [], cr [], cr [], cr [], cr [], cr [], cr [], cr [], cr [], cr [], cr [], cr [], cr [], cw (ntL nt), slB zI (ii (zaw ((uhS p is b nt).1))) (some m14), cw (ntF nt.u b (qJ (uhS p is b nt).1 (uhS p is b nt).2) false true e0 zH), .gone] [] (by kernel_rfl) rfl rfl (d_s rfl rfl rfl (by kernel_rfl) (by refine z6 (v := ntV nt.u b (qJ (uhS p is b nt).1 (uhS p is b nt).2) false true e0 zH) rfl rfl ?_; exact zbx nt.u b (qJ (uhS p is b nt).1 (uhS p is b nt).2) false true e0 zH) ?_)))))))))))
  refine d_mk (B := cw (ntF nt.u b (qJ (uhS p is b nt).1 (uhS p is b nt).2) false true e0 zH)) rfl (zgu rfl (z8 _ _ _ _ _ _ _)) rfl (by kernel_rfl) (d_clHW [0, 7, 27] [0, 7, 27, 1, 2] [cw (zY 3 (sv 4 0 n (n + m)) (gV 1 lz.length (some (cz, tz)))), gB lz (some (cz, tz)), slB zNt (zaX ([(⟨nt.u, b, qJ (uhS p is b nt).1 (uhS p is b nt).2, false, true, e0, zH⟩ : Nt)])) (some 0), cr [], cr []] [pv 0 2, slV 2 (([(⟨nt.u, b, qJ (uhS p is b nt).1 (uhS p is b nt).2, false, true, e0, zH⟩ : Nt)]).length) (some 0)] (putNC h_yard_row_head_Note_put lz ([(⟨nt.u, b, qJ (uhS p is b nt).1 (uhS p is b nt).2, false, true, e0, zH⟩ : Nt)]) (some (cz, tz)) (some 0) n m hz (fun z => by cases z) (by first | (simp; omega) | (simp [List.length_eraseIdx]; split <;> omega))) (wr_put ..) rfl rfl ⟨⟨_, rfl, zZ (.inl (zao rfl rfl (qP (some (cz, tz)) rfl) (fun q => rfl)))⟩, ⟨⟨_, rfl, zb3 hz⟩, ⟨⟨_, rfl, zhL⟩, ⟨⟨_, rfl, zG⟩, ⟨⟨_, rfl, zG⟩, trivial⟩⟩⟩⟩⟩ (by decide) (zik lz ([(⟨nt.u, b, qJ (uhS p is b nt).1 (uhS p is b nt).2, false, true, e0, zH⟩ : Nt)]) (some (cz, tz)) (some 0) n m) ?_ (by kernel_rfl))
  rintro v1 h1' ⟨rfl, o18, g20, ⟨s19, rfl⟩ | ⟨s19, rfl⟩⟩
  ·skip
   refine ⟨(zA qD (zA (zfL s19) (zA zD (zA zD (zA zD z4))))), .tuple #[], [cw (zY 1 (sv 2 0 n (n + m)) (gV 7 ((lz ++ ([(⟨nt.u, b, qJ (uhS p is b nt).1 (uhS p is b nt).2, false, true, e0, zH⟩ : Nt)])).length) o18)), cr [], cr (zaY n (uf i 3 8) ++ zbe m), cw (z5 4 ((uhS p is b nt).1) b 5), cw (zK ((uhS p is b nt).1) true nr (slV 25 127 (some m14))), .chan 1 (([] : List Nt).map ntE), cr [], gB (lz ++ ([(⟨nt.u, b, qJ (uhS p is b nt).1 (uhS p is b nt).2, false, true, e0, zH⟩ : Nt)])) o18, cr [], cr [], cr [], cr [], cr [], cr [], cr [], cr [], cr [], cr [], cr [], cr [], cr [], cr [], cr [], cr [], cw (ntL nt), slB zI (ii (zaw ((uhS p is b nt).1))) (some m14), cw (ntF nt.u b (qJ (uhS p is b nt).1 (uhS p is b nt).2) false true e0 zH), cw (ntF nt.u b (qJ (uhS p is b nt).1 (uhS p is b nt).2) false true e0 zH)], [], (by simp [zbw]), ⟨zat rfl rfl (qP o18 rfl), ⟨(by cases true <;> rfl), ⟨rfl, ⟨rfl, ⟨rfl, ⟨rfl, ⟨rfl, ⟨(by cases o18 with | none => rfl | some y9 => exact qQ g20), ⟨rfl, ⟨rfl, ⟨rfl, ⟨rfl, ⟨rfl, ⟨rfl, ⟨rfl, ⟨rfl, ⟨rfl, ⟨rfl, ⟨rfl, ⟨rfl, ⟨rfl, ⟨rfl, ⟨rfl, ⟨rfl, ⟨rfl, ⟨rfl, ⟨rfl, ⟨ze7, trivial⟩⟩⟩⟩⟩⟩⟩⟩⟩⟩⟩⟩⟩⟩⟩⟩⟩⟩⟩⟩⟩⟩⟩⟩⟩⟩⟩⟩, trivial, ?_⟩
   refine zbW (zC (zT (z0 (o_d 1 [(6, bv true)] (by kernel_rfl) (zF (zC (zbr ?_)))))))
   have hD : (zcY p is b l k keep) = ((uhS p is b nt), (lz ++ ([(⟨nt.u, b, qJ (uhS p is b nt).1 (uhS p is b nt).2, false, true, e0, zH⟩ : Nt)]))) := by simp [zcY, ackN, hn9, h1, h3, hlz, zdM]
   have hI : (uhS p is b nt).2 = true := hE13
   have hT : (zcY p is b l k keep).1.1 = ((uhS p is b nt).1) ∧ (zcY p is b l k keep).1.2 = true ∧ (zcY p is b l k keep).2 = (lz ++ ([(⟨nt.u, b, qJ (uhS p is b nt).1 (uhS p is b nt).2, false, true, e0, zH⟩ : Nt)])) := by rw [hD]; exact ⟨rfl, hI, rfl⟩
   exact ⟨trivial, [bv true], (qB rfl rfl), (zS rfl z1), rfl, ⟨reg [], [cw (zY 1 (sv 2 0 n (n + m)) (gV 7 ((lz ++ ([(⟨nt.u, b, qJ (uhS p is b nt).1 (uhS p is b nt).2, false, true, e0, zH⟩ : Nt)])).length) o18)), cr [], cr (zaY n (uf i 3 8) ++ zbe m), cw (z5 4 ((uhS p is b nt).1) b 5), cw (zK ((uhS p is b nt).1) true nr (slV 24 127 (some m14))), .chan 1 (([] : List Nt).map ntE), cr [], gB (lz ++ ([(⟨nt.u, b, qJ (uhS p is b nt).1 (uhS p is b nt).2, false, true, e0, zH⟩ : Nt)])) o18, cr [], cr [], cr [], cr [], cr [], cr [], cr [], cr [], cr [], cr [], cr [], cr [], cr [], cr [], cr [], cr [], slB zI (ii (zaw ((uhS p is b nt).1))) (some m14)]⟩, Wk.ren [0, 1, 2, 3, 4, 5, 6, 7, 8, 9, 10, 11, 12, 13, 14, 15, 16, 17, 18, 19, 20, 21, 22, 23, 25] rfl rfl (by decide) trivial ⟨.inl (zaf rfl rfl (qP o18 rfl)), ⟨.inl rfl, ⟨.inl (zco rfl (h16 rfl) hn16), ⟨.inl (zaO rfl rfl), ⟨.inl (qZ rfl), ⟨.inl (congrArg some (qX _).symm), ⟨.inl rfl, ⟨.inl (congrArg some (qQ g20).symm), ⟨.inl rfl, ⟨.inl rfl, ⟨.inl rfl, ⟨.inl rfl, ⟨.inl rfl, ⟨.inl rfl, ⟨.inl rfl, ⟨.inl rfl, ⟨.inl rfl, ⟨.inl rfl, ⟨.inl rfl, ⟨.inl rfl, ⟨.inl rfl, ⟨.inl rfl, ⟨.inl rfl, ⟨.inl rfl, ⟨.inl (zaz (some m14) (fun _ => (zca _ _))), trivial⟩⟩⟩⟩⟩⟩⟩⟩⟩⟩⟩⟩⟩⟩⟩⟩⟩⟩⟩⟩⟩⟩⟩⟩⟩, (by simp [one, h1, h3]), true, (fun q => by cases q), (fun _ => by rw [hD]; exact hE13), (by rw [hT.1, hT.2.1, hT.2.2]; exact ⟨o18, gB (lz ++ ([(⟨nt.u, b, qJ (uhS p is b nt).1 (uhS p is b nt).2, false, true, e0, zH⟩ : Nt)])) o18, 7, 24, some m14, [slB zI (ii (zaw ((uhS p is b nt).1))) (some m14)], ⟨g20, (fun z => by cases z), rfl, .inl ⟨rfl, rfl⟩, (by decide), .inr ⟨0, m14, _, rfl, rfl, rfl, rfl, rfl⟩⟩⟩)⟩
  refine ⟨(zA qD (zA zD (zA zD (zA zD (zA zD z4))))), .tuple #[], [cw (zY 1 (sv 2 0 n (n + m)) (gV 28 ((lz ++ ([(⟨nt.u, b, qJ (uhS p is b nt).1 (uhS p is b nt).2, false, true, e0, zH⟩ : Nt)])).length) o18)), cr [], cr (zaY n (uf i 3 8) ++ zbe m), cw (z5 4 ((uhS p is b nt).1) b 5), cw (zK ((uhS p is b nt).1) true nr (slV 25 127 (some m14))), .chan 1 (([] : List Nt).map ntE), cr [], gB lz (some (cz, tz)), cr [], cr [], cr [], cr [], cr [], cr [], cr [], cr [], cr [], cr [], cr [], cr [], cr [], cr [], cr [], cr [], cw (ntL nt), slB zI (ii (zaw ((uhS p is b nt).1))) (some m14), cw (ntF nt.u b (qJ (uhS p is b nt).1 (uhS p is b nt).2) false true e0 zH), cw (ntF nt.u b (qJ (uhS p is b nt).1 (uhS p is b nt).2) false true e0 zH)], [gB (lz ++ ([(⟨nt.u, b, qJ (uhS p is b nt).1 (uhS p is b nt).2, false, true, e0, zH⟩ : Nt)])) o18], (by simp [zbw]), ⟨zat rfl rfl (qP o18 rfl), ⟨(by cases true <;> rfl), ⟨rfl, ⟨rfl, ⟨rfl, ⟨rfl, ⟨rfl, ⟨qQ hz, ⟨rfl, ⟨rfl, ⟨rfl, ⟨rfl, ⟨rfl, ⟨rfl, ⟨rfl, ⟨rfl, ⟨rfl, ⟨rfl, ⟨rfl, ⟨rfl, ⟨rfl, ⟨rfl, ⟨rfl, ⟨rfl, ⟨rfl, ⟨rfl, ⟨rfl, ⟨ze7, trivial⟩⟩⟩⟩⟩⟩⟩⟩⟩⟩⟩⟩⟩⟩⟩⟩⟩⟩⟩⟩⟩⟩⟩⟩⟩⟩⟩⟩, ⟨(qQ g20), trivial⟩, ?_⟩
  refine zbW (zC (zT (z0 (o_d 1 [(6, bv true)] (by kernel_rfl) (zF (zC (zbr ?_)))))))
  have hD : (zcY p is b l k keep) = ((uhS p is b nt), (lz ++ ([(⟨nt.u, b, qJ (uhS p is b nt).1 (uhS p is b nt).2, false, true, e0, zH⟩ : Nt)]))) := by simp [zcY, ackN, hn9, h1, h3, hlz, zdM]
  have hI : (uhS p is b nt).2 = true := hE13
  have hT : (zcY p is b l k keep).1.1 = ((uhS p is b nt).1) ∧ (zcY p is b l k keep).1.2 = true ∧ (zcY p is b l k keep).2 = (lz ++ ([(⟨nt.u, b, qJ (uhS p is b nt).1 (uhS p is b nt).2, false, true, e0, zH⟩ : Nt)])) := by rw [hD]; exact ⟨rfl, hI, rfl⟩
  exact ⟨trivial, [bv true], (qB rfl rfl), (zS rfl z1), rfl, ⟨reg [], [cw (zY 1 (sv 2 0 n (n + m)) (gV 25 ((lz ++ ([(⟨nt.u, b, qJ (uhS p is b nt).1 (uhS p is b nt).2, false, true, e0, zH⟩ : Nt)])).length) o18)), cr [], cr (zaY n (uf i 3 8) ++ zbe m), cw (z5 4 ((uhS p is b nt).1) b 5), cw (zK ((uhS p is b nt).1) true nr (slV 24 127 (some m14))), .chan 1 (([] : List Nt).map ntE), cr [], gB lz (some (cz, tz)), cr [], cr [], cr [], cr [], cr [], cr [], cr [], cr [], cr [], cr [], cr [], cr [], cr [], cr [], cr [], cr [], slB zI (ii (zaw ((uhS p is b nt).1))) (some m14), gB (lz ++ ([(⟨nt.u, b, qJ (uhS p is b nt).1 (uhS p is b nt).2, false, true, e0, zH⟩ : Nt)])) o18]⟩, Wk.ren [0, 1, 2, 3, 4, 5, 6, 7, 8, 9, 10, 11, 12, 13, 14, 15, 16, 17, 18, 19, 20, 21, 22, 23, 25, 28] rfl rfl (by decide) trivial ⟨.inl (zaf rfl rfl (qP o18 rfl)), ⟨.inl rfl, ⟨.inl (zco rfl (h16 rfl) hn16), ⟨.inl (zaO rfl rfl), ⟨.inl (qZ rfl), ⟨.inl (congrArg some (qX _).symm), ⟨.inl rfl, ⟨.inl (congrArg some (qQ hz).symm), ⟨.inl rfl, ⟨.inl rfl, ⟨.inl rfl, ⟨.inl rfl, ⟨.inl rfl, ⟨.inl rfl, ⟨.inl rfl, ⟨.inl rfl, ⟨.inl rfl, ⟨.inl rfl, ⟨.inl rfl, ⟨.inl rfl, ⟨.inl rfl, ⟨.inl rfl, ⟨.inl rfl, ⟨.inl rfl, ⟨.inl (zaz (some m14) (fun _ => (zca _ _))), ⟨.inl (congrArg some (qQ g20).symm), trivial⟩⟩⟩⟩⟩⟩⟩⟩⟩⟩⟩⟩⟩⟩⟩⟩⟩⟩⟩⟩⟩⟩⟩⟩⟩⟩, (by simp [one, h1, h3]), true, (fun q => by cases q), (fun _ => by rw [hD]; exact hE13), (by rw [hT.1, hT.2.1, hT.2.2]; exact ⟨o18, gB lz (some (cz, tz)), 25, 24, some m14, [slB zI (ii (zaw ((uhS p is b nt).1))) (some m14), gB (lz ++ ([(⟨nt.u, b, qJ (uhS p is b nt).1 (uhS p is b nt).2, false, true, e0, zH⟩ : Nt)])) o18], ⟨g20, (fun z => by cases z), rfl, .inr ⟨1, rfl, rfl⟩, (by decide), .inr ⟨0, m14, _, rfl, rfl, rfl, rfl, rfl⟩⟩⟩)⟩
 refine zT (zT (z0 (o_d 1 [(30, pv 24 4)] (by kernel_rfl) (o_s (by refine z6 (v := bv nt.a) rfl rfl ?_; exact zdx rfl) ?_))))
 refine zF (zC (zaJ (t := nt.a) rfl (fun q => by rw [(hn9 ▸ (hnt (by assumption)).1 : (nt.a) = false)] at q; cases q) (fun _ => ?_)))
 refine zaC (zC (zT (zT (zbq [cw (zY 1 (sv 2 0 n (n + m)) (gV 25 lz.length (some (cz, tz)))), cr [], cr (zaY n (uf i 3 8) ++ zbe m), cw (z5 4 p b 5), cw (zK p is nr (slV 6 127 q)), .chan 1 (([] : List Nt).map ntE), cr [], gB l (some (c, t)), cr [], cr [], cr [], cr [], cr [], cr [], cr [], cr [], cr [], cr [], cr [], cr [], cr [], cr [], cr [], cr [], cw (ntL nt), gB lz (some (cz, tz))] (by kernel_rfl) (d_n 4 4 26 [(42, pv 24 0), (41, pv 0 1), (40, pv 0 0), (39, pv 0 0)] [cw (zY 1 (sv 2 0 n (n + m)) (gV 25 lz.length (some (cz, tz)))), cr [], cr (zaY n (uf i 3 8) ++ zbe m), cw (z5 4 p b 5), cw (zK p is nr (slV 6 127 q)), .chan 1 (([] : List Nt).map ntE), cr [], gB l (some (c, t)), cr [], cr [], cr [], cr [], cr [], cr [], cr [], cr [], cr [], cr [], cr [], cr [], cr [], cr [], cr [], cr [], cw (ntL nt), gB lz (some (cz, tz))] [] (by kernel_rfl) rfl rfl (d_s rfl rfl rfl (by kernel_rfl) (by refine z6 (v := iv nt.u) rfl rfl ?_; exact zdx rfl) ?_))))))
 have hui : nt.u = (i : Nat) := hn9 ▸ (hnt (by assumption)).2
 refine zga [0, 2, 1, 25, 3, 8, 9, 10, 11, 12, 13, 14, 15, 16, 17, 18, 19, 20, 21, 22, 23] [cr (zY 2 (sv 1 0 n (n + m)) (gV 3 lz.length (some (cz, tz)))), cr (zaY n (uf i 4 5) ++ zbe m), cr [], cr [], cr [], cr [], cr [], cr [], cr [], cr [], cr [], cr [], cr [], cr [], cr [], cr [], cr [], cr [], cr [], cr [], cr []] [pv 0 1, iv nt.u] (atU1C h_yard_row_yard_unit_at n m i lz.length (some (cz, tz)) nt.u hui hi) rfl rfl ⟨⟨_, rfl, zZ (.inl (zao rfl rfl (qP (some (cz, tz)) rfl) (fun q => rfl)))⟩, ⟨⟨_, rfl, zZ (.inl (zey rfl (h16 rfl) hn16 (fun q => q)))⟩, ⟨⟨_, rfl, zG⟩, ⟨⟨_, rfl, zdm (some (cz, tz))⟩, ⟨⟨_, rfl, zG⟩, ⟨⟨_, rfl, zG⟩, ⟨⟨_, rfl, zG⟩, ⟨⟨_, rfl, zG⟩, ⟨⟨_, rfl, zG⟩, ⟨⟨_, rfl, zG⟩, ⟨⟨_, rfl, zG⟩, ⟨⟨_, rfl, zG⟩, ⟨⟨_, rfl, zG⟩, ⟨⟨_, rfl, zG⟩, ⟨⟨_, rfl, zG⟩, ⟨⟨_, rfl, zG⟩, ⟨⟨_, rfl, zG⟩, ⟨⟨_, rfl, zG⟩, ⟨⟨_, rfl, zG⟩, ⟨⟨_, rfl, zG⟩, ⟨⟨_, rfl, zG⟩, trivial⟩⟩⟩⟩⟩⟩⟩⟩⟩⟩⟩⟩⟩⟩⟩⟩⟩⟩⟩⟩⟩ (by decide) ⟨_, _, ⟨rfl, rfl⟩, Nat.le_refl _, za0 [_, _, _, _, _, _, _, _, _, _, _, _, _, _, _, _, _, _, _, _, _] []⟩ ?_ (by kernel_rfl)
 rintro v1 h1' ⟨rfl, rfl⟩
 refine ⟨(zA zD (zA zD (zA zD (zA zD (zA zD (zA zD (zA zD (zA zD (zA zD (zA zD (zA zD (zA zD (zA zD (zA zD (zA zD (zA zD (zA zD (zA zD (zA zD (zA zD (zA zD z4))))))))))))))))))))), .tuple #[pv 3 0, bv true], [cw (zY 1 (sv 2 0 n (n + m)) (gV 25 lz.length (some (cz, tz)))), cr [], cr (zaY n (uf i 3 8) ++ zbe m), cw (z5 4 p b 5), cw (zK p is nr (slV 6 127 q)), .chan 1 (([] : List Nt).map ntE), cr [], gB l (some (c, t)), cr [], cr [], cr [], cr [], cr [], cr [], cr [], cr [], cr [], cr [], cr [], cr [], cr [], cr [], cr [], cr [], cw (ntL nt), gB lz (some (cz, tz))], [], ((zfG _).trans rfl), ⟨rfl, ⟨(by cases true <;> rfl), ⟨rfl, ⟨rfl, ⟨rfl, ⟨rfl, ⟨rfl, ⟨rfl, ⟨(by cases true <;> rfl), ⟨(by cases true <;> rfl), ⟨(by cases true <;> rfl), ⟨(by cases true <;> rfl), ⟨(by cases true <;> rfl), ⟨(by cases true <;> rfl), ⟨(by cases true <;> rfl), ⟨(by cases true <;> rfl), ⟨(by cases true <;> rfl), ⟨(by cases true <;> rfl), ⟨(by cases true <;> rfl), ⟨(by cases true <;> rfl), ⟨(by cases true <;> rfl), ⟨(by cases true <;> rfl), ⟨(by cases true <;> rfl), ⟨(by cases true <;> rfl), ⟨rfl, ⟨rfl, trivial⟩⟩⟩⟩⟩⟩⟩⟩⟩⟩⟩⟩⟩⟩⟩⟩⟩⟩⟩⟩⟩⟩⟩⟩⟩⟩, trivial, ?_⟩
 refine d_n 5 11 26 [(10, bv true), (9, pv 3 0), (46, bv true), (45, pv 3 0), (38, .tuple #[pv 3 0, bv true])] [cw (zY 1 (sv 2 0 n (n + m)) (gV 25 lz.length (some (cz, tz)))), cr [], cr (zaY n (uf i 3 8) ++ zbe m), cw (z5 4 p b 5), cw (zK p is nr (slV 6 127 q)), .chan 1 (([] : List Nt).map ntE), cr [], gB l (some (c, t)), cr [], cr [], cr [], cr [], cr [], cr [], cr [], cr [], cr [], cr [], cr [], cr [], cr [], cr [], cr [], cr [], cw (ntL nt), gB lz (some (cz, tz))] [⟨5, [0, 2, 1, 25, 3, 8, 9, 10, 11, 12, 13, 14, 15, 16, 17, 18, 19, 20, 21, 22, 23], [], some 26⟩, ⟨4, [24], [], none⟩] (by kernel_rfl) rfl rfl (zbW (zC (zT (z0 (o_d 1 [(47, bv true)] (by kernel_rfl) (zF (zC (zd5 rfl (zT (zbq [cw (zY 1 (sv 2 0 n (n + m)) (gV 25 lz.length (some (cz, tz)))), cr [], cr (zaY n (uf i 3 8) ++ zbe m), cw (z5 4 p b 5), cw (zK p is nr (slV 6 127 q)), .chan 1 (([] : List Nt).map ntE), cr [], gB l (some (c, t)), cr [], cr [], cr [], cr [], cr [], cr [], cr [], cr [], cr [], cr [], cr [], cr [], cr [], cr [], cr [], cr [], cw (ntL nt), gB lz (some (cz, tz))] (by kernel_rfl) (d_n 3 3 26 [(50, pv 3 332), (49, pv 3 0), (48, pv 3 0)] [cw (zY 1 (sv 2 0 n (n + m)) (gV 25 lz.length (some (cz, tz)))), cr [], cr (zaY n (uf i 3 8) ++ zbe m), cw (z5 4 p b 5), cw (zK p is nr (slV 6 127 q)), .chan 1 (([] : List Nt).map ntE), cr [], gB l (some (c, t)), cr [], cr [], cr [], cr [], cr [], cr [], cr [], cr [], cr [], cr [], cr [], cr [], cr [], cr [], cr [], cr [], cw (ntL nt), gB lz (some (cz, tz))] [] (by kernel_rfl) rfl rfl (d_s rfl rfl rfl (by kernel_rfl) (by refine z6 (v := .chan (some 5)) rfl rfl ?_; exact (zdu 1).trans rfl) ?_))))))))))))
 refine d_s rfl rfl rfl (by kernel_rfl) (by refine z6 (v := ntE nt) rfl rfl ?_; exact zbx nt.u nt.b nt.v nt.w nt.a nt.e nt.p) ?_
 refine d_snd (k := 5) (b := ([] : List Nt).map ntE) (b2 := ([nt]).map ntE) rfl rfl rfl (by rw [List.length_map]; simp) rfl rfl ?_
 refine zbW (zC (zT (z0 (o_d 2 [(55, pv 24 0), (54, pv 3 0)] (by kernel_rfl) (o_s (by refine z6 (v := iv nt.u) rfl rfl ?_; exact zdx rfl) ?_)))))
 refine zbO (zcZ [3, 4, 5, 6] [cw (z5 1 p b 2), cw (zK p is nr (slV 3 127 q)), .chan 1 (([nt]).map ntE), cr []] [pv 0 0, iv nt.u] (UHearC h_yard_unit_hear h_yard_unit_version h_plane_Plane_Version h_yard_unit_load h_plane_Plane_Load h_plane_maybe_api_Pool_lay h_wheel_Make h_wheel_spun h_sip_Words h_sip_Of h_sip_number_byte h_sip_state_take h_sip_state_rounds h_sip_state_round h_math_bits_RotateLeft64 h_pool_Apply h_pool_may h_pool_held h_pool_fits h_pool_Check h_pool_placed h_cookie_Next p is nr q b nt nt.u) rfl rfl ⟨⟨_, rfl, zZ (.inl (zbB rfl rfl (fun q => rfl)))⟩, ⟨⟨_, rfl, zZ (.inl (zaK (qN q rfl) (fun q => rfl)))⟩, ⟨⟨_, rfl, zZ (.inl (zcg _))⟩, ⟨⟨_, rfl, zG⟩, trivial⟩⟩⟩⟩ (by decide) ?_)
 rintro v1 h1' ⟨rfl, ⟨hE21, rfl⟩ | ⟨hE21, m22, rfl⟩⟩
 ·skip
  refine ⟨(zA zD (zA zD (zA (fun h => by cases h) (zA zD z4)))), .tuple #[ntV nt.u b (qJ (uhS p is b nt).1 (uhS p is b nt).2) false true e0 zH, bv true], [cw (zY 1 (sv 2 0 n (n + m)) (gV 25 lz.length (some (cz, tz)))), cr [], cr (zaY n (uf i 3 8) ++ zbe m), cw (z5 4 p b 5), cw (zK p is nr (slV 6 127 q)), .chan 1 (([] : List Nt).map ntE), cr [], gB l (some (c, t)), cr [], cr [], cr [], cr [], cr [], cr [], cr [], cr [], cr [], cr [], cr [], cr [], cr [], cr [], cr [], cr [], cw (ntL nt), gB lz (some (cz, tz))], [], (qE (all_cons (zaV nt.u b (qJ (uhS p is b nt).1 (uhS p is b nt).2) false true e0 zH) (all_cons rfl rfl))), ⟨rfl, ⟨rfl, ⟨rfl, ⟨zcn rfl rfl, ⟨zbb (qN q rfl), ⟨qX _, ⟨(by cases true <;> rfl), ⟨rfl, ⟨rfl, ⟨rfl, ⟨rfl, ⟨rfl, ⟨rfl, ⟨rfl, ⟨rfl, ⟨rfl, ⟨rfl, ⟨rfl, ⟨rfl, ⟨rfl, ⟨rfl, ⟨rfl, ⟨rfl, ⟨rfl, ⟨rfl, ⟨rfl, trivial⟩⟩⟩⟩⟩⟩⟩⟩⟩⟩⟩⟩⟩⟩⟩⟩⟩⟩⟩⟩⟩⟩⟩⟩⟩⟩, trivial, ?_⟩
  refine o_b 4 [(11, pv 26 0), (59, bv true), (58, ntV nt.u b (qJ (uhS p is b nt).1 (uhS p is b nt).2) false true e0 zH), (53, .tuple #[ntV nt.u b (qJ (uhS p is b nt).1 (uhS p is b nt).2) false true e0 zH, bv true])] [cw (zY 1 (sv 2 0 n (n + m)) (gV 25 lz.length (some (cz, tz)))), cr [], cr (zaY n (uf i 3 8) ++ zbe m), cw (z5 4 p b 5), cw (zK p is nr (slV 6 127 q)), .chan 1 (([] : List Nt).map ntE), cr [], gB l (some (c, t)), cr [], cr [], cr [], cr [], cr [], cr [], cr [], cr [], cr [], cr [], cr [], cr [], cr [], cr [], cr [], cr [], cw (ntL nt), gB lz (some (cz, tz)), cw (ntF 0 0 0 false false e0 zH)] (by kernel_rfl) (zeC (by refine qY (c' := ntF nt.u b (qJ (uhS p is b nt).1 (uhS p is b nt).2) false true e0 zH) rfl rfl rfl ?_ ?_ ?_; exact z8 _ _ _ _ _ _ _; exact zcR (by omega); exact zbh) ?_)
  refine o_b 1 [(12, bv true)] [cw (zY 1 (sv 2 0 n (n + m)) (gV 25 lz.length (some (cz, tz)))), cr [], cr (zaY n (uf i 3 8) ++ zbe m), cw (z5 4 p b 5), cw (zK p is nr (slV 6 127 q)), .chan 1 (([] : List Nt).map ntE), cr [], gB l (some (c, t)), cr [], cr [], cr [], cr [], cr [], cr [], cr [], cr [], cr [], cr [], cr [], cr [], cr [], cr [], cr [], cr [], cw (ntL nt), gB lz (some (cz, tz)), cw (ntF nt.u b (qJ (uhS p is b nt).1 (uhS p is b nt).2) false true e0 zH)] (by kernel_rfl) (zF (z9 [(12, bv true), (11, pv 26 0), (0, pv 0 0)] (by kernel_rfl) (zT (z0 (o_d 1 [(60, bv true)] (by kernel_rfl) (zF (zC (zd5 rfl (zbq [cw (zY 1 (sv 2 0 n (n + m)) (gV 25 lz.length (some (cz, tz)))), cr [], cr (zaY n (uf i 3 8) ++ zbe m), cw (z5 4 p b 5), cw (zK p is nr (slV 6 127 q)), .chan 1 (([] : List Nt).map ntE), cr [], gB l (some (c, t)), cr [], cr [], cr [], cr [], cr [], cr [], cr [], cr [], cr [], cr [], cr [], cr [], cr [], cr [], cr [], cr [], cw (ntL nt), gB lz (some (cz, tz)), cw (ntF nt.u b (qJ (uhS p is b nt).1 (uhS p is b nt).2) false true e0 zH), .gone] (by kernel_rfl) (d_n 3 3 27 [(63, pv 0 2), (62, pv 0 0), (61, pv 0 0)] [cw (zY 1 (sv 2 0 n (n + m)) (gV 25 lz.length (some (cz, tz)))), cr [], cr (zaY n (uf i 3 8) ++ zbe m), cw (z5 4 p b 5), cw (zK p is nr (slV 6 127 q)), .chan 1 (([] : List Nt).map ntE), cr [], gB l (some (c, t)), cr [], cr [], cr [], cr [], cr [], cr [], cr [], cr [], cr [], cr [], cr [], cr [], cr [], cr [], cr [], cr [], cw (ntL nt), gB lz (some (cz, tz)), cw (ntF nt.u b (qJ (uhS p is b nt).1 (uhS p is b nt).2) false true e0 zH), .gone] [] (by kernel_rfl) rfl rfl (d_s rfl rfl rfl (by kernel_rfl) (by refine z6 (v := ntV nt.u b (qJ (uhS p is b nt).1 (uhS p is b nt).2) false true e0 zH) rfl rfl ?_; exact zbx nt.u b (qJ (uhS p is b nt).1 (uhS p is b nt).2) false true e0 zH) ?_)))))))))))
  refine d_mk (B := cw (ntF nt.u b (qJ (uhS p is b nt).1 (uhS p is b nt).2) false true e0 zH)) rfl (zgu rfl (z8 _ _ _ _ _ _ _)) rfl (by kernel_rfl) (d_clHW [0, 25, 27] [0, 25, 27, 1, 2] [cw (zY 3 (sv 4 0 n (n + m)) (gV 1 lz.length (some (cz, tz)))), gB lz (some (cz, tz)), slB zNt (zaX ([(⟨nt.u, b, qJ (uhS p is b nt).1 (uhS p is b nt).2, false, true, e0, zH⟩ : Nt)])) (some 0), cr [], cr []] [pv 0 2, slV 2 (([(⟨nt.u, b, qJ (uhS p is b nt).1 (uhS p is b nt).2, false, true, e0, zH⟩ : Nt)]).length) (some 0)] (putNC h_yard_row_head_Note_put lz ([(⟨nt.u, b, qJ (uhS p is b nt).1 (uhS p is b nt).2, false, true, e0, zH⟩ : Nt)]) (some (cz, tz)) (some 0) n m hz (fun z => by cases z) (by first | (simp; omega) | (simp [List.length_eraseIdx]; split <;> omega))) (wr_put ..) rfl rfl ⟨⟨_, rfl, zZ (.inl (zao rfl rfl (qP (some (cz, tz)) rfl) (fun q => rfl)))⟩, ⟨⟨_, rfl, zb3 hz⟩, ⟨⟨_, rfl, zhL⟩, ⟨⟨_, rfl, zG⟩, ⟨⟨_, rfl, zG⟩, trivial⟩⟩⟩⟩⟩ (by decide) (zik lz ([(⟨nt.u, b, qJ (uhS p is b nt).1 (uhS p is b nt).2, false, true, e0, zH⟩ : Nt)]) (some (cz, tz)) (some 0) n m) ?_ (by kernel_rfl))
  rintro v1 h1' ⟨rfl, o23, g25, ⟨s24, rfl⟩ | ⟨s24, rfl⟩⟩
  ·skip
   refine ⟨(zA qD (zA (zfL s24) (zA zD (zA zD (zA zD z4))))), .tuple #[], [cw (zY 1 (sv 2 0 n (n + m)) (gV 25 ((lz ++ ([(⟨nt.u, b, qJ (uhS p is b nt).1 (uhS p is b nt).2, false, true, e0, zH⟩ : Nt)])).length) o23)), cr [], cr (zaY n (uf i 3 8) ++ zbe m), cw (z5 4 p b 5), cw (zK p is nr (slV 6 127 q)), .chan 1 (([] : List Nt).map ntE), cr [], gB l (some (c, t)), cr [], cr [], cr [], cr [], cr [], cr [], cr [], cr [], cr [], cr [], cr [], cr [], cr [], cr [], cr [], cr [], cw (ntL nt), gB (lz ++ ([(⟨nt.u, b, qJ (uhS p is b nt).1 (uhS p is b nt).2, false, true, e0, zH⟩ : Nt)])) o23, cw (ntF nt.u b (qJ (uhS p is b nt).1 (uhS p is b nt).2) false true e0 zH), cw (ntF nt.u b (qJ (uhS p is b nt).1 (uhS p is b nt).2) false true e0 zH)], [], (by simp [zbw]), ⟨zat rfl rfl (qP o23 rfl), ⟨(by cases true <;> rfl), ⟨rfl, ⟨rfl, ⟨rfl, ⟨rfl, ⟨rfl, ⟨rfl, ⟨rfl, ⟨rfl, ⟨rfl, ⟨rfl, ⟨rfl, ⟨rfl, ⟨rfl, ⟨rfl, ⟨rfl, ⟨rfl, ⟨rfl, ⟨rfl, ⟨rfl, ⟨rfl, ⟨rfl, ⟨rfl, ⟨rfl, ⟨(by cases o23 with | none => rfl | some y9 => exact qQ g25), ⟨rfl, ⟨ze7, trivial⟩⟩⟩⟩⟩⟩⟩⟩⟩⟩⟩⟩⟩⟩⟩⟩⟩⟩⟩⟩⟩⟩⟩⟩⟩⟩⟩⟩, trivial, ?_⟩
   refine zbW (zC (zT (z0 (o_d 1 [(6, bv true)] (by kernel_rfl) (zF (zC (zbr ?_)))))))
   have hD : (zcY p is b l k keep) = ((uhS p is b nt), (lz ++ ([(⟨nt.u, b, qJ (uhS p is b nt).1 (uhS p is b nt).2, false, true, e0, zH⟩ : Nt)]))) := by simp [zcY, ackN, hn9, h1, h3, hlz, zdM]
   have hT : (zcY p is b l k keep).1.1 = p ∧ (zcY p is b l k keep).1.2 = is ∧ (zcY p is b l k keep).2 = (lz ++ ([(⟨nt.u, b, qJ (uhS p is b nt).1 (uhS p is b nt).2, false, true, e0, zH⟩ : Nt)])) := by rw [hD]; exact ⟨congrArg Prod.fst hE21, congrArg Prod.snd hE21, rfl⟩
   exact ⟨trivial, [bv true], (qB rfl rfl), (zS rfl z1), rfl, ⟨reg [], [cw (zY 1 (sv 2 0 n (n + m)) (gV 24 ((lz ++ ([(⟨nt.u, b, qJ (uhS p is b nt).1 (uhS p is b nt).2, false, true, e0, zH⟩ : Nt)])).length) o23)), cr [], cr (zaY n (uf i 3 8) ++ zbe m), cw (z5 4 p b 5), cw (zK p is nr (slV 6 127 q)), .chan 1 (([] : List Nt).map ntE), cr [], gB l (some (c, t)), cr [], cr [], cr [], cr [], cr [], cr [], cr [], cr [], cr [], cr [], cr [], cr [], cr [], cr [], cr [], cr [], gB (lz ++ ([(⟨nt.u, b, qJ (uhS p is b nt).1 (uhS p is b nt).2, false, true, e0, zH⟩ : Nt)])) o23]⟩, Wk.ren [0, 1, 2, 3, 4, 5, 6, 7, 8, 9, 10, 11, 12, 13, 14, 15, 16, 17, 18, 19, 20, 21, 22, 23, 25] rfl rfl (by decide) trivial ⟨.inl (zaf rfl rfl (qP o23 rfl)), ⟨.inl rfl, ⟨.inl (zco rfl (h16 rfl) hn16), ⟨.inl (zaO rfl rfl), ⟨.inl (qZ (qN q rfl)), ⟨.inl (congrArg some (qX _).symm), ⟨.inl rfl, ⟨.inl (congrArg some (qQ ho).symm), ⟨.inl rfl, ⟨.inl rfl, ⟨.inl rfl, ⟨.inl rfl, ⟨.inl rfl, ⟨.inl rfl, ⟨.inl rfl, ⟨.inl rfl, ⟨.inl rfl, ⟨.inl rfl, ⟨.inl rfl, ⟨.inl rfl, ⟨.inl rfl, ⟨.inl rfl, ⟨.inl rfl, ⟨.inl rfl, ⟨.inl (congrArg some (qQ g25).symm), trivial⟩⟩⟩⟩⟩⟩⟩⟩⟩⟩⟩⟩⟩⟩⟩⟩⟩⟩⟩⟩⟩⟩⟩⟩⟩, (by simp [one, h1, h3]), false, (fun _ => by rw [hD]; exact hE21), (fun q => by cases q), (by rw [hT.1, hT.2.1, hT.2.2]; exact ⟨o23, gB l (some (c, t)), 24, 6, q, [gB (lz ++ ([(⟨nt.u, b, qJ (uhS p is b nt).1 (uhS p is b nt).2, false, true, e0, zH⟩ : Nt)])) o23], ⟨g25, (fun z => by cases z), rfl, .inr ⟨0, rfl, rfl⟩, (by decide), .inl ⟨rfl, rfl, rfl⟩⟩⟩)⟩
  refine ⟨(zA qD (zA zD (zA zD (zA zD (zA zD z4))))), .tuple #[], [cw (zY 1 (sv 2 0 n (n + m)) (gV 28 ((lz ++ ([(⟨nt.u, b, qJ (uhS p is b nt).1 (uhS p is b nt).2, false, true, e0, zH⟩ : Nt)])).length) o23)), cr [], cr (zaY n (uf i 3 8) ++ zbe m), cw (z5 4 p b 5), cw (zK p is nr (slV 6 127 q)), .chan 1 (([] : List Nt).map ntE), cr [], gB l (some (c, t)), cr [], cr [], cr [], cr [], cr [], cr [], cr [], cr [], cr [], cr [], cr [], cr [], cr [], cr [], cr [], cr [], cw (ntL nt), gB lz (some (cz, tz)), cw (ntF nt.u b (qJ (uhS p is b nt).1 (uhS p is b nt).2) false true e0 zH), cw (ntF nt.u b (qJ (uhS p is b nt).1 (uhS p is b nt).2) false true e0 zH)], [gB (lz ++ ([(⟨nt.u, b, qJ (uhS p is b nt).1 (uhS p is b nt).2, false, true, e0, zH⟩ : Nt)])) o23], (by simp [zbw]), ⟨zat rfl rfl (qP o23 rfl), ⟨(by cases true <;> rfl), ⟨rfl, ⟨rfl, ⟨rfl, ⟨rfl, ⟨rfl, ⟨rfl, ⟨rfl, ⟨rfl, ⟨rfl, ⟨rfl, ⟨rfl, ⟨rfl, ⟨rfl, ⟨rfl, ⟨rfl, ⟨rfl, ⟨rfl, ⟨rfl, ⟨rfl, ⟨rfl, ⟨rfl, ⟨rfl, ⟨rfl, ⟨qQ hz, ⟨rfl, ⟨ze7, trivial⟩⟩⟩⟩⟩⟩⟩⟩⟩⟩⟩⟩⟩⟩⟩⟩⟩⟩⟩⟩⟩⟩⟩⟩⟩⟩⟩⟩, ⟨(qQ g25), trivial⟩, ?_⟩
  refine zbW (zC (zT (z0 (o_d 1 [(6, bv true)] (by kernel_rfl) (zF (zC (zbr ?_)))))))
  have hD : (zcY p is b l k keep) = ((uhS p is b nt), (lz ++ ([(⟨nt.u, b, qJ (uhS p is b nt).1 (uhS p is b nt).2, false, true, e0, zH⟩ : Nt)]))) := by simp [zcY, ackN, hn9, h1, h3, hlz, zdM]
  have hT : (zcY p is b l k keep).1.1 = p ∧ (zcY p is b l k keep).1.2 = is ∧ (zcY p is b l k keep).2 = (lz ++ ([(⟨nt.u, b, qJ (uhS p is b nt).1 (uhS p is b nt).2, false, true, e0, zH⟩ : Nt)])) := by rw [hD]; exact ⟨congrArg Prod.fst hE21, congrArg Prod.snd hE21, rfl⟩
  exact ⟨trivial, [bv true], (qB rfl rfl), (zS rfl z1), rfl, ⟨reg [], [cw (zY 1 (sv 2 0 n (n + m)) (gV 24 ((lz ++ ([(⟨nt.u, b, qJ (uhS p is b nt).1 (uhS p is b nt).2, false, true, e0, zH⟩ : Nt)])).length) o23)), cr [], cr (zaY n (uf i 3 8) ++ zbe m), cw (z5 4 p b 5), cw (zK p is nr (slV 6 127 q)), .chan 1 (([] : List Nt).map ntE), cr [], gB l (some (c, t)), cr [], cr [], cr [], cr [], cr [], cr [], cr [], cr [], cr [], cr [], cr [], cr [], cr [], cr [], cr [], cr [], gB (lz ++ ([(⟨nt.u, b, qJ (uhS p is b nt).1 (uhS p is b nt).2, false, true, e0, zH⟩ : Nt)])) o23]⟩, Wk.ren [0, 1, 2, 3, 4, 5, 6, 7, 8, 9, 10, 11, 12, 13, 14, 15, 16, 17, 18, 19, 20, 21, 22, 23, 28] rfl rfl (by decide) trivial ⟨.inl (zaf rfl rfl (qP o23 rfl)), ⟨.inl rfl, ⟨.inl (zco rfl (h16 rfl) hn16), ⟨.inl (zaO rfl rfl), ⟨.inl (qZ (qN q rfl)), ⟨.inl (congrArg some (qX _).symm), ⟨.inl rfl, ⟨.inl (congrArg some (qQ ho).symm), ⟨.inl rfl, ⟨.inl rfl, ⟨.inl rfl, ⟨.inl rfl, ⟨.inl rfl, ⟨.inl rfl, ⟨.inl rfl, ⟨.inl rfl, ⟨.inl rfl, ⟨.inl rfl, ⟨.inl rfl, ⟨.inl rfl, ⟨.inl rfl, ⟨.inl rfl, ⟨.inl rfl, ⟨.inl rfl, ⟨.inl (congrArg some (qQ g25).symm), trivial⟩⟩⟩⟩⟩⟩⟩⟩⟩⟩⟩⟩⟩⟩⟩⟩⟩⟩⟩⟩⟩⟩⟩⟩⟩, (by simp [one, h1, h3]), false, (fun _ => by rw [hD]; exact hE21), (fun q => by cases q), (by rw [hT.1, hT.2.1, hT.2.2]; exact ⟨o23, gB l (some (c, t)), 24, 6, q, [gB (lz ++ ([(⟨nt.u, b, qJ (uhS p is b nt).1 (uhS p is b nt).2, false, true, e0, zH⟩ : Nt)])) o23], ⟨g25, (fun z => by cases z), rfl, .inr ⟨0, rfl, rfl⟩, (by decide), .inl ⟨rfl, rfl, rfl⟩⟩⟩)⟩
 refine ⟨(zA qD (zA qD (zA (fun h => by cases h) (zA zD z4)))), .tuple #[ntV nt.u b (qJ (uhS p is b nt).1 (uhS p is b nt).2) false true e0 zH, bv true], [cw (zY 1 (sv 2 0 n (n + m)) (gV 25 lz.length (some (cz, tz)))), cr [], cr (zaY n (uf i 3 8) ++ zbe m), cw (z5 4 ((uhS p is b nt).1) b 5), cw (zK ((uhS p is b nt).1) true nr (slV 26 127 (some m22))), .chan 1 (([] : List Nt).map ntE), cr [], gB l (some (c, t)), cr [], cr [], cr [], cr [], cr [], cr [], cr [], cr [], cr [], cr [], cr [], cr [], cr [], cr [], cr [], cr [], cw (ntL nt), gB lz (some (cz, tz))], [slB zI (ii (zaw ((uhS p is b nt).1))) (some m22)], (qE (all_cons (zaV nt.u b (qJ (uhS p is b nt).1 (uhS p is b nt).2) false true e0 zH) (all_cons rfl rfl))), ⟨rfl, ⟨rfl, ⟨rfl, ⟨zcn rfl rfl, ⟨zbb rfl, ⟨qX _, ⟨(by cases true <;> rfl), ⟨rfl, ⟨rfl, ⟨rfl, ⟨rfl, ⟨rfl, ⟨rfl, ⟨rfl, ⟨rfl, ⟨rfl, ⟨rfl, ⟨rfl, ⟨rfl, ⟨rfl, ⟨rfl, ⟨rfl, ⟨rfl, ⟨rfl, ⟨rfl, ⟨rfl, trivial⟩⟩⟩⟩⟩⟩⟩⟩⟩⟩⟩⟩⟩⟩⟩⟩⟩⟩⟩⟩⟩⟩⟩⟩⟩⟩, ⟨(Option.some.inj (zaz (some m22) (fun _ => (zca _ _)))).symm, trivial⟩, ?_⟩
 refine o_b 4 [(11, pv 27 0), (59, bv true), (58, ntV nt.u b (qJ (uhS p is b nt).1 (uhS p is b nt).2) false true e0 zH), (53, .tuple #[ntV nt.u b (qJ (uhS p is b nt).1 (uhS p is b nt).2) false true e0 zH, bv true])] [cw (zY 1 (sv 2 0 n (n + m)) (gV 25 lz.length (some (cz, tz)))), cr [], cr (zaY n (uf i 3 8) ++ zbe m), cw (z5 4 ((uhS p is b nt).1) b 5), cw (zK ((uhS p is b nt).1) true nr (slV 26 127 (some m22))), .chan 1 (([] : List Nt).map ntE), cr [], gB l (some (c, t)), cr [], cr [], cr [], cr [], cr [], cr [], cr [], cr [], cr [], cr [], cr [], cr [], cr [], cr [], cr [], cr [], cw (ntL nt), gB lz (some (cz, tz)), slB zI (ii (zaw ((uhS p is b nt).1))) (some m22), cw (ntF 0 0 0 false false e0 zH)] (by kernel_rfl) (zeC (by refine qY (c' := ntF nt.u b (qJ (uhS p is b nt).1 (uhS p is b nt).2) false true e0 zH) rfl rfl rfl ?_ ?_ ?_; exact z8 _ _ _ _ _ _ _; exact zcR (by omega); exact zbh) ?_)
 refine o_b 1 [(12, bv true)] [cw (zY 1 (sv 2 0 n (n + m)) (gV 25 lz.length (some (cz, tz)))), cr [], cr (zaY n (uf i 3 8) ++ zbe m), cw (z5 4 ((uhS p is b nt).1) b 5), cw (zK ((uhS p is b nt).1) true nr (slV 26 127 (some m22))), .chan 1 (([] : List Nt).map ntE), cr [], gB l (some (c, t)), cr [], cr [], cr [], cr [], cr [], cr [], cr [], cr [], cr [], cr [], cr [], cr [], cr [], cr [], cr [], cr [], cw (ntL nt), gB lz (some (cz, tz)), slB zI (ii (zaw ((uhS p is b nt).1))) (some m22), cw (ntF nt.u b (qJ (uhS p is b nt).1 (uhS p is b nt).2) false true e0 zH)] (by kernel_rfl) (zF (z9 [(12, bv true), (11, pv 27 0), (0, pv 0 0)] (by kernel_rfl) (zT (z0 (o_d 1 [(60, bv true)] (by kernel_rfl) (zF (zC (zd5 rfl (zbq [cw (zY 1 (sv 2 0 n (n + m)) (gV 25 lz.length (some (cz, tz)))), cr [], cr (zaY n (uf i 3 8) ++ zbe m), cw (z5 4 ((uhS p is b nt).1) b 5), cw (zK ((uhS p is b nt).1) true nr (slV 26 127 (some m22))), .chan 1 (([] : List Nt).map ntE), cr [], gB l (some (c, t)), cr [], cr [], cr [], cr [], cr [], cr [], cr [], cr [], cr [], cr [], cr [], cr [], cr [], cr [], cr [], cr [], cw (ntL nt), gB lz (some (cz, tz)), slB zI (ii (zaw ((uhS p is b nt).1))) (some m22), cw (ntF nt.u b (qJ (uhS p is b nt).1 (uhS p is b nt).2) false true e0 zH), .gone] (by kernel_rfl) (d_n 3 3 28 [(63, pv 0 2), (62, pv 0 0), (61, pv 0 0)] [cw (zY 1 (sv 2 0 n (n + m)) (gV 25 lz.length (some (cz, tz)))), cr [], cr (zaY n (uf i 3 8) ++ zbe m), cw (z5 4 ((uhS p is b nt).1) b 5), cw (zK ((uhS p is b nt).1) true nr (slV 26 127 (some m22))), .chan 1 (([] : List Nt).map ntE), cr [], gB l (some (c, t)), cr [], cr [], cr [], cr [], cr [], cr [], cr [], cr [], cr [], cr [], cr [], cr [], cr [], cr [], cr [], cr [], cw (ntL nt), gB lz (some (cz, tz)), slB zI (ii (zaw ((uhS p is b nt).1))) (some m22), cw (ntF nt.u b (qJ (uhS p is b nt).1 (uhS p is b nt).2) false true e0 zH), .gone] [] (by kernel_rfl) rfl rfl (d_s rfl rfl rfl (by kernel_rfl) (by refine z6 (v := ntV nt.u b (qJ (uhS p is b nt).1 (uhS p is b nt).2) false true e0 zH) rfl rfl ?_; exact zbx nt.u b (qJ (uhS p is b nt).1 (uhS p is b nt).2) false true e0 zH) ?_)))))))))))
 refine d_mk (B := cw (ntF nt.u b (qJ (uhS p is b nt).1 (uhS p is b nt).2) false true e0 zH)) rfl (zgu rfl (z8 _ _ _ _ _ _ _)) rfl (by kernel_rfl) (d_clHW [0, 25, 28] [0, 25, 28, 1, 2] [cw (zY 3 (sv 4 0 n (n + m)) (gV 1 lz.length (some (cz, tz)))), gB lz (some (cz, tz)), slB zNt (zaX ([(⟨nt.u, b, qJ (uhS p is b nt).1 (uhS p is b nt).2, false, true, e0, zH⟩ : Nt)])) (some 0), cr [], cr []] [pv 0 2, slV 2 (([(⟨nt.u, b, qJ (uhS p is b nt).1 (uhS p is b nt).2, false, true, e0, zH⟩ : Nt)]).length) (some 0)] (putNC h_yard_row_head_Note_put lz ([(⟨nt.u, b, qJ (uhS p is b nt).1 (uhS p is b nt).2, false, true, e0, zH⟩ : Nt)]) (some (cz, tz)) (some 0) n m hz (fun z => by cases z) (by first | (simp; omega) | (simp [List.length_eraseIdx]; split <;> omega))) (wr_put ..) rfl rfl ⟨⟨_, rfl, zZ (.inl (zao rfl rfl (qP (some (cz, tz)) rfl) (fun q => rfl)))⟩, ⟨⟨_, rfl, zb3 hz⟩, ⟨⟨_, rfl, zhL⟩, ⟨⟨_, rfl, zG⟩, ⟨⟨_, rfl, zG⟩, trivial⟩⟩⟩⟩⟩ (by decide) (zik lz ([(⟨nt.u, b, qJ (uhS p is b nt).1 (uhS p is b nt).2, false, true, e0, zH⟩ : Nt)]) (some (cz, tz)) (some 0) n m) ?_ (by kernel_rfl))
 rintro v1 h1' ⟨rfl, o26, g28, ⟨s27, rfl⟩ | ⟨s27, rfl⟩⟩
 ·skip
  refine ⟨(zA qD (zA (zfL s27) (zA zD (zA zD (zA zD z4))))), .tuple #[], [cw (zY 1 (sv 2 0 n (n + m)) (gV 25 ((lz ++ ([(⟨nt.u, b, qJ (uhS p is b nt).1 (uhS p is b nt).2, false, true, e0, zH⟩ : Nt)])).length) o26)), cr [], cr (zaY n (uf i 3 8) ++ zbe m), cw (z5 4 ((uhS p is b nt).1) b 5), cw (zK ((uhS p is b nt).1) true nr (slV 26 127 (some m22))), .chan 1 (([] : List Nt).map ntE), cr [], gB l (some (c, t)), cr [], cr [], cr [], cr [], cr [], cr [], cr [], cr [], cr [], cr [], cr [], cr [], cr [], cr [], cr [], cr [], cw (ntL nt), gB (lz ++ ([(⟨nt.u, b, qJ (uhS p is b nt).1 (uhS p is b nt).2, false, true, e0, zH⟩ : Nt)])) o26, slB zI (ii (zaw ((uhS p is b nt).1))) (some m22), cw (ntF nt.u b (qJ (uhS p is b nt).1 (uhS p is b nt).2) false true e0 zH), cw (ntF nt.u b (qJ (uhS p is b nt).1 (uhS p is b nt).2) false true e0 zH)], [], (by simp [zbw]), ⟨zat rfl rfl (qP o26 rfl), ⟨(by cases true <;> rfl), ⟨rfl, ⟨rfl, ⟨rfl, ⟨rfl, ⟨rfl, ⟨rfl, ⟨rfl, ⟨rfl, ⟨rfl, ⟨rfl, ⟨rfl, ⟨rfl, ⟨rfl, ⟨rfl, ⟨rfl, ⟨rfl, ⟨rfl, ⟨rfl, ⟨rfl, ⟨rfl, ⟨rfl, ⟨rfl, ⟨rfl, ⟨(by cases o26 with | none => rfl | some y9 => exact qQ g28), ⟨rfl, ⟨rfl, ⟨ze7, trivial⟩⟩⟩⟩⟩⟩⟩⟩⟩⟩⟩⟩⟩⟩⟩⟩⟩⟩⟩⟩⟩⟩⟩⟩⟩⟩⟩⟩⟩, trivial, ?_⟩
  refine zbW (zC (zT (z0 (o_d 1 [(6, bv true)] (by kernel_rfl) (zF (zC (zbr ?_)))))))
  have hD : (zcY p is b l k keep) = ((uhS p is b nt), (lz ++ ([(⟨nt.u, b, qJ (uhS p is b nt).1 (uhS p is b nt).2, false, true, e0, zH⟩ : Nt)]))) := by simp [zcY, ackN, hn9, h1, h3, hlz, zdM]
  have hI : (uhS p is b nt).2 = true := hE21
  have hT : (zcY p is b l k keep).1.1 = ((uhS p is b nt).1) ∧ (zcY p is b l k keep).1.2 = true ∧ (zcY p is b l k keep).2 = (lz ++ ([(⟨nt.u, b, qJ (uhS p is b nt).1 (uhS p is b nt).2, false, true, e0, zH⟩ : Nt)])) := by rw [hD]; exact ⟨rfl, hI, rfl⟩
  exact ⟨trivial, [bv true], (qB rfl rfl), (zS rfl z1), rfl, ⟨reg [], [cw (zY 1 (sv 2 0 n (n + m)) (gV 25 ((lz ++ ([(⟨nt.u, b, qJ (uhS p is b nt).1 (uhS p is b nt).2, false, true, e0, zH⟩ : Nt)])).length) o26)), cr [], cr (zaY n (uf i 3 8) ++ zbe m), cw (z5 4 ((uhS p is b nt).1) b 5), cw (zK ((uhS p is b nt).1) true nr (slV 24 127 (some m22))), .chan 1 (([] : List Nt).map ntE), cr [], gB l (some (c, t)), cr [], cr [], cr [], cr [], cr [], cr [], cr [], cr [], cr [], cr [], cr [], cr [], cr [], cr [], cr [], cr [], slB zI (ii (zaw ((uhS p is b nt).1))) (some m22), gB (lz ++ ([(⟨nt.u, b, qJ (uhS p is b nt).1 (uhS p is b nt).2, false, true, e0, zH⟩ : Nt)])) o26]⟩, Wk.ren [0, 1, 2, 3, 4, 5, 6, 7, 8, 9, 10, 11, 12, 13, 14, 15, 16, 17, 18, 19, 20, 21, 22, 23, 26, 25] rfl rfl (by decide) trivial ⟨.inl (zaf rfl rfl (qP o26 rfl)), ⟨.inl rfl, ⟨.inl (zco rfl (h16 rfl) hn16), ⟨.inl (zaO rfl rfl), ⟨.inl (qZ rfl), ⟨.inl (congrArg some (qX _).symm), ⟨.inl rfl, ⟨.inl (congrArg some (qQ ho).symm), ⟨.inl rfl, ⟨.inl rfl, ⟨.inl rfl, ⟨.inl rfl, ⟨.inl rfl, ⟨.inl rfl, ⟨.inl rfl, ⟨.inl rfl, ⟨.inl rfl, ⟨.inl rfl, ⟨.inl rfl, ⟨.inl rfl, ⟨.inl rfl, ⟨.inl rfl, ⟨.inl rfl, ⟨.inl rfl, ⟨.inl (zaz (some m22) (fun _ => (zca _ _))), ⟨.inl (congrArg some (qQ g28).symm), trivial⟩⟩⟩⟩⟩⟩⟩⟩⟩⟩⟩⟩⟩⟩⟩⟩⟩⟩⟩⟩⟩⟩⟩⟩⟩⟩, (by simp [one, h1, h3]), true, (fun q => by cases q), (fun _ => by rw [hD]; exact hE21), (by rw [hT.1, hT.2.1, hT.2.2]; exact ⟨o26, gB l (some (c, t)), 25, 24, some m22, [slB zI (ii (zaw ((uhS p is b nt).1))) (some m22), gB (lz ++ ([(⟨nt.u, b, qJ (uhS p is b nt).1 (uhS p is b nt).2, false, true, e0, zH⟩ : Nt)])) o26], ⟨g28, (fun z => by cases z), rfl, .inr ⟨1, rfl, rfl⟩, (by decide), .inr ⟨0, m22, _, rfl, rfl, rfl, rfl, rfl⟩⟩⟩)⟩
 refine ⟨(zA qD (zA zD (zA zD (zA zD (zA zD z4))))), .tuple #[], [cw (zY 1 (sv 2 0 n (n + m)) (gV 29 ((lz ++ ([(⟨nt.u, b, qJ (uhS p is b nt).1 (uhS p is b nt).2, false, true, e0, zH⟩ : Nt)])).length) o26)), cr [], cr (zaY n (uf i 3 8) ++ zbe m), cw (z5 4 ((uhS p is b nt).1) b 5), cw (zK ((uhS p is b nt).1) true nr (slV 26 127 (some m22))), .chan 1 (([] : List Nt).map ntE), cr [], gB l (some (c, t)), cr [], cr [], cr [], cr [], cr [], cr [], cr [], cr [], cr [], cr [], cr [], cr [], cr [], cr [], cr [], cr [], cw (ntL nt), gB lz (some (cz, tz)), slB zI (ii (zaw ((uhS p is b nt).1))) (some m22), cw (ntF nt.u b (qJ (uhS p is b nt).1 (uhS p is b nt).2) false true e0 zH), cw (ntF nt.u b (qJ (uhS p is b nt).1 (uhS p is b nt).2) false true e0 zH)], [gB (lz ++ ([(⟨nt.u, b, qJ (uhS p is b nt).1 (uhS p is b nt).2, false, true, e0, zH⟩ : Nt)])) o26], (by simp [zbw]), ⟨zat rfl rfl (qP o26 rfl), ⟨(by cases true <;> rfl), ⟨rfl, ⟨rfl, ⟨rfl, ⟨rfl, ⟨rfl, ⟨rfl, ⟨rfl, ⟨rfl, ⟨rfl, ⟨rfl, ⟨rfl, ⟨rfl, ⟨rfl, ⟨rfl, ⟨rfl, ⟨rfl, ⟨rfl, ⟨rfl, ⟨rfl, ⟨rfl, ⟨rfl, ⟨rfl, ⟨rfl, ⟨qQ hz, ⟨rfl, ⟨rfl, ⟨ze7, trivial⟩⟩⟩⟩⟩⟩⟩⟩⟩⟩⟩⟩⟩⟩⟩⟩⟩⟩⟩⟩⟩⟩⟩⟩⟩⟩⟩⟩⟩, ⟨(qQ g28), trivial⟩, ?_⟩
 refine zbW (zC (zT (z0 (o_d 1 [(6, bv true)] (by kernel_rfl) (zF (zC (zbr ?_)))))))
 have hD : (zcY p is b l k keep) = ((uhS p is b nt), (lz ++ ([(⟨nt.u, b, qJ (uhS p is b nt).1 (uhS p is b nt).2, false, true, e0, zH⟩ : Nt)]))) := by simp [zcY, ackN, hn9, h1, h3, hlz, zdM]
 have hI : (uhS p is b nt).2 = true := hE21
 have hT : (zcY p is b l k keep).1.1 = ((uhS p is b nt).1) ∧ (zcY p is b l k keep).1.2 = true ∧ (zcY p is b l k keep).2 = (lz ++ ([(⟨nt.u, b, qJ (uhS p is b nt).1 (uhS p is b nt).2, false, true, e0, zH⟩ : Nt)])) := by rw [hD]; exact ⟨rfl, hI, rfl⟩
 exact ⟨trivial, [bv true], (qB rfl rfl), (zS rfl z1), rfl, ⟨reg [], [cw (zY 1 (sv 2 0 n (n + m)) (gV 25 ((lz ++ ([(⟨nt.u, b, qJ (uhS p is b nt).1 (uhS p is b nt).2, false, true, e0, zH⟩ : Nt)])).length) o26)), cr [], cr (zaY n (uf i 3 8) ++ zbe m), cw (z5 4 ((uhS p is b nt).1) b 5), cw (zK ((uhS p is b nt).1) true nr (slV 24 127 (some m22))), .chan 1 (([] : List Nt).map ntE), cr [], gB l (some (c, t)), cr [], cr [], cr [], cr [], cr [], cr [], cr [], cr [], cr [], cr [], cr [], cr [], cr [], cr [], cr [], cr [], slB zI (ii (zaw ((uhS p is b nt).1))) (some m22), gB (lz ++ ([(⟨nt.u, b, qJ (uhS p is b nt).1 (uhS p is b nt).2, false, true, e0, zH⟩ : Nt)])) o26]⟩, Wk.ren [0, 1, 2, 3, 4, 5, 6, 7, 8, 9, 10, 11, 12, 13, 14, 15, 16, 17, 18, 19, 20, 21, 22, 23, 26, 29] rfl rfl (by decide) trivial ⟨.inl (zaf rfl rfl (qP o26 rfl)), ⟨.inl rfl, ⟨.inl (zco rfl (h16 rfl) hn16), ⟨.inl (zaO rfl rfl), ⟨.inl (qZ rfl), ⟨.inl (congrArg some (qX _).symm), ⟨.inl rfl, ⟨.inl (congrArg some (qQ ho).symm), ⟨.inl rfl, ⟨.inl rfl, ⟨.inl rfl, ⟨.inl rfl, ⟨.inl rfl, ⟨.inl rfl, ⟨.inl rfl, ⟨.inl rfl, ⟨.inl rfl, ⟨.inl rfl, ⟨.inl rfl, ⟨.inl rfl, ⟨.inl rfl, ⟨.inl rfl, ⟨.inl rfl, ⟨.inl rfl, ⟨.inl (zaz (some m22) (fun _ => (zca _ _))), ⟨.inl (congrArg some (qQ g28).symm), trivial⟩⟩⟩⟩⟩⟩⟩⟩⟩⟩⟩⟩⟩⟩⟩⟩⟩⟩⟩⟩⟩⟩⟩⟩⟩⟩, (by simp [one, h1, h3]), true, (fun q => by cases q), (fun _ => by rw [hD]; exact hE21), (by rw [hT.1, hT.2.1, hT.2.2]; exact ⟨o26, gB l (some (c, t)), 25, 24, some m22, [slB zI (ii (zaw ((uhS p is b nt).1))) (some m22), gB (lz ++ ([(⟨nt.u, b, qJ (uhS p is b nt).1 (uhS p is b nt).2, false, true, e0, zH⟩ : Nt)])) o26], ⟨g28, (fun z => by cases z), rfl, .inr ⟨1, rfl, rfl⟩, (by decide), .inr ⟨0, m22, _, rfl, rfl, rfl, rfl, rfl⟩⟩⟩)⟩
end Go.Rh

namespace Go.Rh
section
variable {sel : List Nat} {h h1 h1' : List Blk} {ρ : Nat → Nat} {k i : Nat} {b : Blk}
theorem over_at : ∀ {sel : List Nat} {h1 : List Blk} {k i : Nat} {b : Blk}, (∀ j, sel[j]? = some k → j = i) → sel[i]? = some k → h1[i]? = some b → b.rw = true → zeB k sel h1 = some b
 | [], _, _, _, _, _, h, _, _ => by simp at h
 | _ :: _, [], _, _, _, _, _, h, _ => by simp at h
 | s :: ss, c :: cs, k, 0, b, hu, h1, h2, hr => by
  simp at h1 h2; subst h1; subst h2
  simp [zeB, hr]
 | s :: ss, c :: cs, k, i + 1, b, hu, h1, h2, hr => by
  have hs : s ≠ k := fun e => by have := hu 0 (by simp [e]); omega
  simp only [zeB, hs, false_and, if_false]
  exact over_at (i := i) (fun j hj => by have := hu (j + 1) (by simpa using hj); omega) (by simpa using h1) (by simpa using h2) hr
theorem ziG (hk : k < h.length) (hu : ∀ j, sel[j]? = some k → j = i) (h1s : sel[i]? = some k) (h2 : h1[i]? = some b) (hr : b.rw = true) : (zdK h sel h1 ρ)[k]? = some (zaR ρ b) := by
 rw [zgi hk, over_at hu h1s h2 hr]
theorem zdq (hk : k < h.length) (hro : ∀ (j : Nat) (b : Blk), sel[j]? = some k → h1[j]? = some b → b.rw = false) : (zdK h sel h1 ρ)[k]? = h[k]? := by
 rw [zgi hk]
 cases ho : zeB k sel h1 with
 | none => rfl
 | some b =>
  obtain ⟨j, e1, e2, e3⟩ := zdn ho
  rw [hro j b e1 e2] at e3; cases e3
theorem back_new (j : Nat) : (zdK h sel h1 ρ)[h.length + j]? = (h1[sel.length + j]?).map (zaR ρ) := by
 rw [zbv (Nat.le_add_right _ _), Nat.add_sub_cancel_left]
theorem zen : h.length ≤ (zdK h sel h1 ρ).length := by unfold zdK; simp
theorem zjr {G : Nat → Prop} (hlo : ∀ (j : Nat) k, sel[j]? = some k → G k) (hl : ∀ k, h.length ≤ k → G k) : ∀ k, ¬ G k → (zdK h sel h1 ρ)[k]? = h[k]? := fun k hk =>
 zdq (Nat.lt_of_not_le fun q => hk (hl k q)) fun i b e1 _ => absurd (hlo i k e1) hk
end
theorem ziv {h h1 h1' : List Blk} {sel : List Nat} {n : Nat} {ρ : Nat → Nat} (hg : zee h1 h1') (hl : h1.length = sel.length) (hs : ∀ (i k : Nat) b1, sel[i]? = some k → h1[i]? = some b1 → ∃ b, h[k]? = some b ∧ Blk.view (zaR (rho sel n) b1) b) : zee h (zdK h sel h1' ρ) := by
 intro k hk
 have hkl := zJ hk
 rw [zgi hkl]
 cases ho : zeB k sel h1' with
 | none => exact hk
 | some b' =>
  obtain ⟨i, e1, e2, e3⟩ := zdn ho
  have hi := zJ e1
  have e4 : h1[i]? = some (h1[i]'(by omega)) := by simp [show i < h1.length by omega]
  obtain ⟨b, hb, hv⟩ := hs i k _ e1 e4
  rw [hk] at hb; cases hb
  have hgo : h1[i]'(by omega) = .gone := by
   rcases zht hv with hv | ⟨hv, _⟩
   ·exact absurd rfl (zdR hv).2
   ·exact zb8.1 hv
  rw [hgo] at e4
  have := hg i e4
  rw [e2] at this
  cases this
  rfl
structure FrY (F : Nat → Prop) (h h' : List Blk) : Prop where
  fr : ∀ k, ¬ F k → h'[k]? = h[k]?
  len : h.length ≤ h'.length
  gone : zee h h'
structure US where
  p : qO
  is : Bool
  b : Int
  nr : Nat → Int × Bool
  q : Option Nat
def whB (u : US) (B : Blk) : Prop := match u.q with
 | none => ∃ c rw, B = .cells c rw
 | some c => B = slB zI (ii (zaw u.p)) (some c)
theorem whB_cells {u : US} {B : Blk} (h : whB u B) : ∃ c rw, B = .cells c rw := by
 unfold whB at h
 split at h
 ·exact h
 ·exact ⟨_, _, h⟩
theorem whB_ren {u : US} {B : Blk} {ρ : Nat → Nat} (h : whB u B) : whB u (zaR ρ B) := by
 unfold whB at h ⊢
 split at h
 ·obtain ⟨c, rw, rfl⟩ := h; exact ⟨_, _, rfl⟩
 ·subst h; exact zbk (zca _ _)
def pB (n : Nat) (f : Nat → Nat) (ro : Option Nat) : Blk := slB [.pointer none] (zaY n f) ro
structure YH (n : Nat) (ro : Option Nat) (x : HS) (us : Nat → US) (l : List Nt) (o : Gr) (pl : Nat → Nat) (h : List Blk) : Prop where
  inj : ∀ a b, a < 6 + 4 * n → b < 6 + 4 * n → pl a = pl b → a = b
  ro0 : ro = none → n = 0
  y : h[pl 0]? = some (cw (zY (pl 1) (slV (pl 4) n ro) (gV (pl 5) l.length o)))
  hd : h[pl 1]? = some (cw (zR x.p (pl 2) (pl 3) x.e x.s))
  hc : h[pl 2]? = some (.chan 200 (x.w.map qH))
  hm : h[pl 3]? = some (.map (hdM x.hd))
  ur : h[pl 4]? = some (pB n (fun j => pl (6 + 4 * j)) ro)
  way : h[pl 5]? = some (gB l o)
  ok : gOk l o
  un : ∀ j, j < n → h[pl (6 + 4 * j)]? = some (cw (z5 (pl (7 + 4 * j)) (us j).p (us j).b (pl (8 + 4 * j))))
  pn : ∀ j, j < n → h[pl (7 + 4 * j)]? = some (cw (zK (us j).p (us j).is (us j).nr (slV (pl (9 + 4 * j)) 127 (us j).q)))
  ch : ∀ j, j < n → h[pl (8 + 4 * j)]? = some (.chan 1 (([] : List Nt).map ntE))
  wh : ∀ j, j < n → ∃ B, h[pl (9 + 4 * j)]? = some B ∧ whB (us j) B
theorem YH.lt {n : Nat} {ro : Option Nat} {x : HS} {us : Nat → US} {l : List Nt} {o : Gr} {pl : Nat → Nat} {h : List Blk} (Y : YH n ro x us l o pl h) {a : Nat} (ha : a < 6 + 4 * n) : pl a < h.length := by
 rcases Nat.lt_or_ge a 6 with h1 | h1
 ·match a, h1 with
  | 0, _ => exact zJ Y.y
  | 1, _ => exact zJ Y.hd
  | 2, _ => exact zJ Y.hc
  | 3, _ => exact zJ Y.hm
  | 4, _ => exact zJ Y.ur
  | 5, _ => exact zJ Y.way
 ·obtain ⟨j, c, rfl, hc⟩ : ∃ j c, a = 6 + c + 4 * j ∧ c < 4 := ⟨(a - 6) / 4, (a - 6) % 4, by omega, by omega⟩
  have hj : j < n := by omega
  match c, hc with
  | 0, _ => exact zJ (Y.un j hj)
  | 1, _ => exact zJ (Y.pn j hj)
  | 2, _ => exact zJ (Y.ch j hj)
  | 3, _ => obtain ⟨B, hB, _⟩ := Y.wh j hj; exact zJ hB
def YT (G : Nat → Prop) (y n : Nat) (x : HS) (us : Nat → US) (l : List Nt) (h : List Blk) : Prop :=
 ∃ m o pl, YH n (some m) x us l o pl h ∧ pl 0 = y ∧ (∀ a, a < 6 + 4 * n → G (pl a)) ∧ 1 ≤ n ∧ n ≤ 16 ∧ ∀ k, h.length ≤ k → G k
theorem getElem?_map {l : List Nat} {pl : Nat → Nat} {i k : Nat} (h : (l.map pl)[i]? = some k) : ∃ a, l[i]? = some a ∧ pl a = k := by
 rw [List.getElem?_map] at h
 cases hq : l[i]? with
 | none => rw [hq] at h; cases h
 | some a => rw [hq] at h; exact ⟨a, rfl, by simpa using h⟩
section
variable {C : qW} {g : String} {G : Nat → Prop} {y n : Nat} {x x' : HS} {us us' : Nat → US} {l l' : List Nt} {h : List Blk} {ex : List Value} {V : Value} {K : zdX}
def CallF (C : qW) (g : String) (vals : List Value) (h : List Blk) (G : Nat → Prop) (hX : Prop) (S : zdX) : Prop :=
 ∃ (sel : List Nat) (h1 : List Blk) (a1 : List Value) (R : zdX), C g a1 h1 R ∧ h1.length = sel.length ∧ a1.map (zbw (rho sel h.length)) = vals ∧
  (∀ (i k : Nat) b1, sel[i]? = some k → h1[i]? = some b1 → ∃ b, h[k]? = some b ∧ Blk.view (zaR (rho sel h.length) b1) b) ∧
  (∀ (i j k : Nat) b1, i ≠ j → sel[i]? = some k → sel[j]? = some k → h1[i]? = some b1 → b1.rw = false) ∧
  (∀ (i k : Nat), sel[i]? = some k → G k) ∧ (hX → ∃ v h1', R v h1' ∧ sel.length ≤ h1'.length ∧ zcI h1 h1') ∧
  ∀ v h1', R v h1' → sel.length ≤ h1'.length → zcI h1 h1' → zee h1 h1' ∧ S (zbw (rho sel h.length) v) (zdK h sel h1' (rho sel h.length))
theorem CallF.toK {vals : List Value} {hX : Prop} (hc : CallF C g vals h G hX K) : zcl C g vals K h := by
 obtain ⟨sel, h1, a1, R, e1, e2, e3, e4, e5, _, _, e8⟩ := hc
 exact ⟨sel, h1, a1, R, e1, e2, e3, e4, e5, e8⟩
theorem glueA0 {hX : Prop} (hY : YT G y n x us l h) (hex : ex.all vpf = true) (hV : vpf V = true)
  (hC : ∀ m o, gOk l o → ∃ R, C g (pv 0 0 :: ex) (laA n m x 5 l o ++ [gB l o]) R ∧ (∀ v h', R v h' → v = V ∧ PA n m o x' l' h') ∧ (hX → ∃ v h', R v h' ∧ 6 ≤ h'.length ∧ zcI (laA n m x 5 l o ++ [gB l o]) h'))
  (hK : ∀ h', YT G y n x' us l' h' → FrY G h h' → K V h') : CallF C g (pv y 0 :: ex) h G hX K := by
 obtain ⟨m, o, pl, Y, rfl, hlo, h1, h16, hll⟩ := hY
 obtain ⟨R, hC, hR, hXX⟩ := hC m o Y.ok
 have hsel : ∀ (i k : Nat), ([0, 1, 2, 3, 4, 5].map pl)[i]? = some k → i < 6 ∧ pl i = k := fun i k e => by
  obtain ⟨a, e1, e2⟩ := getElem?_map e
  match i, e1 with
  | 0, e1 => simp at e1; subst e1; exact ⟨by omega, e2⟩
  | 1, e1 => simp at e1; subst e1; exact ⟨by omega, e2⟩
  | 2, e1 => simp at e1; subst e1; exact ⟨by omega, e2⟩
  | 3, e1 => simp at e1; subst e1; exact ⟨by omega, e2⟩
  | 4, e1 => simp at e1; subst e1; exact ⟨by omega, e2⟩
  | 5, e1 => simp at e1; subst e1; exact ⟨by omega, e2⟩
  | i + 6, e1 => simp at e1
 have hinj : ∀ (i j k : Nat), ([0, 1, 2, 3, 4, 5].map pl)[i]? = some k → ([0, 1, 2, 3, 4, 5].map pl)[j]? = some k → i = j := fun i j k e1 e2 => by
  obtain ⟨a1, a2⟩ := hsel i k e1
  obtain ⟨b1, b2⟩ := hsel j k e2
  exact Y.inj i j (by omega) (by omega) (a2.trans b2.symm)
 have hview := zeu (ρ := rho ([0, 1, 2, 3, 4, 5].map pl) h.length) (h := h) (sel := [0, 1, 2, 3, 4, 5].map pl) (bs := laA n m x 5 l o ++ [gB l o]) ⟨⟨_, Y.y, zZ (.inl (zao rfl rfl (qP o rfl) (fun q => q)))⟩, ⟨_, Y.hd, zZ (.inl (zb4 rfl rfl (fun q => q)))⟩, ⟨_, Y.hc, zZ (.inl (zb5 _))⟩, ⟨_, Y.hm, zZ (.inl (zcP _))⟩, ⟨_, Y.ur, .inr ⟨rfl, _, _, rfl⟩⟩, ⟨_, Y.way, zb3 Y.ok⟩, trivial⟩
 refine ⟨[0, 1, 2, 3, 4, 5].map pl, laA n m x 5 l o ++ [gB l o], pv 0 0 :: ex, R, hC, rfl, ?_, hview, fun i j k b1 hij e1 e2 _ => absurd (hinj i j k e1 e2) hij, fun i k e => (let ⟨a1, a2⟩ := hsel i k e; a2 ▸ hlo i (by omega)), hXX, fun v h1' hRv hlen hfl => ?_⟩
 ·exact zan rfl (zbf fun v hv => qE (List.all_eq_true.1 hex v hv))
 ·obtain ⟨rfl, o', X, k, T, hg', hX, hs, rfl⟩ := hR v h1' hRv
  have hgo : zee (laA n m x 5 l o ++ [gB l o]) (laA n m x' k l' o' ++ [X] ++ T) := by
   refine zA qD (zA qD (zA (fun h => by cases h) (zA (fun h => by cases h) (zA zD (zA (fun hg => ?_) z4)))))
   refine hX ?_
   cases o with
   | none => rfl
   | some z => cases hg
  refine ⟨hgo, ?_⟩
  ·rw [qE hV]
   have at_ : ∀ (i : Nat) b, i < 6 → (laA n m x' k l' o' ++ [X] ++ T)[i]? = some b → b.rw = true → (zdK h ([0, 1, 2, 3, 4, 5].map pl) (laA n m x' k l' o' ++ [X] ++ T) (rho ([0, 1, 2, 3, 4, 5].map pl) h.length))[pl i]? = some (zaR (rho ([0, 1, 2, 3, 4, 5].map pl) h.length) b) := fun i b hi hb hr => by
    have hs' : ([0, 1, 2, 3, 4, 5].map pl)[i]? = some (pl i) := by
     match i, hi with
     | 0, _ | 1, _ | 2, _ | 3, _ | 4, _ | 5, _ => rfl
    exact ziG (Y.lt (by omega)) (fun j hj => hinj j i _ hj hs') hs' hb hr
   have keep_ : ∀ a, a < 6 + 4 * n → 6 ≤ a ∨ a = 4 → (zdK h ([0, 1, 2, 3, 4, 5].map pl) (laA n m x' k l' o' ++ [X] ++ T) (rho ([0, 1, 2, 3, 4, 5].map pl) h.length))[pl a]? = h[pl a]? := fun a ha h6 => zdq (Y.lt ha) fun j b e1 e2 => by
    obtain ⟨a1, a2⟩ := hsel j _ e1
    have := Y.inj j a (by omega) ha a2
    have : j = 4 := by omega
    subst this
    have : b = cr [] := by simpa [laA] using e2.symm
    rw [this]; rfl
   have hpl5 : ∀ a, a < 6 + 4 * n → pl a ≠ h.length := fun a ha e => by have := Y.lt ha; omega
   refine hK _ ⟨m, o', fun a => if k = 6 ∧ a = 5 then h.length else pl a, ⟨?_, ?_, ?_, ?_, ?_, ?_, ?_, ?_, hg', ?_, ?_, ?_, ?_⟩, ?_, ?_, h1, h16, fun k hk => hll k (Nat.le_trans zen hk)⟩ ⟨zjr (fun j k e => by obtain ⟨a1, a2⟩ := hsel j k e; rw [← a2]; exact hlo j (by omega)) hll, zen, ziv hgo rfl hview⟩
   ·intro a b ha hb e
    split at e <;> split at e
    ·omega
    ·exact absurd e.symm (hpl5 b hb)
    ·exact absurd e (hpl5 a ha)
    ·exact Y.inj a b ha hb e
   ·intro e; cases e
   ·have := at_ 0 _ (by omega) rfl rfl
    simp only [show ¬ (k = 6 ∧ 0 = 5) by omega, show ¬ (k = 6 ∧ 1 = 5) by omega, show ¬ (k = 6 ∧ 4 = 5) by omega, if_false]
    rw [this]
    rcases hs with ⟨rfl, rfl, rfl⟩ | ⟨rfl, rfl⟩
    ·exact congrArg some (zat rfl rfl (qP o' rfl))
    ·exact congrArg some (zat rfl rfl (qP o' (zgB (by simp))))
   ·have := at_ 1 _ (by omega) rfl rfl
    simp only [show ¬ (k = 6 ∧ 1 = 5) by omega, show ¬ (k = 6 ∧ 2 = 5) by omega, show ¬ (k = 6 ∧ 3 = 5) by omega, if_false]
    rw [this]; exact congrArg some (zb7 rfl rfl)
   ·have := at_ 2 _ (by omega) rfl rfl
    simp only [show ¬ (k = 6 ∧ 2 = 5) by omega, if_false]
    rw [this]; exact congrArg some (zU _)
   ·have := at_ 3 _ (by omega) rfl rfl
    simp only [show ¬ (k = 6 ∧ 3 = 5) by omega, if_false]
    rw [this]; exact congrArg some (qA _)
   ·simp only [show ¬ (k = 6 ∧ 4 = 5) by omega, if_false]
    rw [keep_ 4 (by omega) (.inr rfl), Y.ur]
    have : (fun j => pl (6 + 4 * j)) = fun j => if k = 6 ∧ 6 + 4 * j = 5 then h.length else pl (6 + 4 * j) := by
     funext j; rw [if_neg (by omega)]
    rw [this]
   ·rcases hs with ⟨rfl, rfl, rfl⟩ | ⟨rfl, rfl⟩
    ·simp only [show ¬ (5 = 6 ∧ True) by omega, show ¬ ((5 : Nat) = 6 ∧ (5 : Nat) = 5) by omega, if_false]
     have := at_ 5 (gB l' o') (by omega) rfl (by cases o' <;> rfl)
     rw [this, qQ hg']
    ·simp only [and_self, if_true]
     have := back_new (h := h) (sel := [0, 1, 2, 3, 4, 5].map pl) (h1 := laA n m x' 6 l' o' ++ [X] ++ [gB l' o']) (ρ := rho ([0, 1, 2, 3, 4, 5].map pl) h.length) 0
     rw [Nat.add_zero] at this
     rw [this]
     exact congrArg some (qQ hg')
   ·intro j hj
    simp only [show ¬ (k = 6 ∧ 6 + 4 * j = 5) by omega, show ¬ (k = 6 ∧ 7 + 4 * j = 5) by omega, show ¬ (k = 6 ∧ 8 + 4 * j = 5) by omega, if_false]
    rw [keep_ _ (by omega) (.inl (by omega))]; exact Y.un j hj
   ·intro j hj
    simp only [show ¬ (k = 6 ∧ 7 + 4 * j = 5) by omega, show ¬ (k = 6 ∧ 9 + 4 * j = 5) by omega, if_false]
    rw [keep_ _ (by omega) (.inl (by omega))]; exact Y.pn j hj
   ·intro j hj
    simp only [show ¬ (k = 6 ∧ 8 + 4 * j = 5) by omega, if_false]
    rw [keep_ _ (by omega) (.inl (by omega))]; exact Y.ch j hj
   ·intro j hj
    simp only [show ¬ (k = 6 ∧ 9 + 4 * j = 5) by omega, if_false]
    rw [keep_ _ (by omega) (.inl (by omega))]; exact Y.wh j hj
   ·simp only [show ¬ (k = 6 ∧ 0 = 5) by omega, if_false]
   ·intro a ha
    show G (if k = 6 ∧ a = 5 then h.length else pl a)
    split
    ·exact hll _ (Nat.le_refl _)
    ·exact hlo a ha
theorem glueA (hY : YT G y n x us l h) (hex : ex.all vpf = true) (hV : vpf V = true)
  (hC : ∀ m o, gOk l o → ∃ R, C g (pv 0 0 :: ex) (laA n m x 5 l o ++ [gB l o]) R ∧ ∀ v h', R v h' → v = V ∧ PA n m o x' l' h')
  (hK : ∀ h', YT G y n x' us l' h' → FrY G h h' → K V h') : zcl C g (pv y 0 :: ex) K h :=
 (glueA0 (hX := False) hY hex hV (fun m o ho => let ⟨R, h1, h2⟩ := hC m o ho; ⟨R, h1, h2, fun q => q.elim⟩) hK).toK
end
end Go.Rh

namespace Go.Rh
def ixH (n i : Nat) : List Nat := (List.range 16).map fun j => if j < n ∧ j ≠ i then 6 + 4 * j else 1
def ixB (n i : Nat) : List Nat := [0, 1, 4, 6 + 4 * i, 7 + 4 * i, 8 + 4 * i, 9 + 4 * i, 5] ++ ixH n i
theorem ixH_at {n i j : Nat} (hj : j < 16) : (ixB n i)[8 + j]? = some (if j < n ∧ j ≠ i then 6 + 4 * j else 1) := by
 unfold ixB
 rw [List.getElem?_append_right (by simp)]
 simp [ixH, hj]
theorem zit (n i : Nat) : (ixB n i).length = 24 := by simp [ixB, ixH]
theorem zhb {n i t a : Nat} (h : (ixB n i)[t]? = some a) : (t = 0 ∧ a = 0) ∨ (t = 1 ∧ a = 1) ∨ (t = 2 ∧ a = 4) ∨ (t = 3 ∧ a = 6 + 4 * i) ∨ (t = 4 ∧ a = 7 + 4 * i) ∨ (t = 5 ∧ a = 8 + 4 * i) ∨ (t = 6 ∧ a = 9 + 4 * i) ∨ (t = 7 ∧ a = 5) ∨ (8 ≤ t ∧ t < 24 ∧ (a = 1 ∨ ∃ j, j < n ∧ j ≠ i ∧ a = 6 + 4 * j)) := by
 have hl := zJ h
 rw [zit] at hl
 rcases Nat.lt_or_ge t 8 with h8 | h8
 ·match t, h8 with
  | 0, _ => simp [ixB] at h; simp [h]
  | 1, _ => simp [ixB] at h; simp [h]
  | 2, _ => simp [ixB] at h; simp [h]
  | 3, _ => simp [ixB] at h; simp [h]
  | 4, _ => simp [ixB] at h; simp [h]
  | 5, _ => simp [ixB] at h; simp [h]
  | 6, _ => simp [ixB] at h; simp [h]
  | 7, _ => simp [ixB] at h; simp [h]
 ·obtain ⟨j, rfl⟩ : ∃ j, t = 8 + j := ⟨t - 8, by omega⟩
  rw [ixH_at (by omega)] at h
  refine .inr (.inr (.inr (.inr (.inr (.inr (.inr (.inr ⟨h8, hl, ?_⟩)))))))
  have h := Option.some.inj h
  split at h
  ·rename_i hc; exact .inr ⟨j, hc.1, hc.2, h.symm⟩
  ·exact .inl h.symm
structure PGok (n m i : Nat) (o0 : Gr) (l' : List Nt) (u0 u' : US) (h' : List Blk) (o : Gr) (X : Blk) (kl kw : Nat) (T : List Blk) : Prop where
  ok : gOk l' o
  gone : o0 = none → X = .gone
  eq : h' = laB n m i kl kw l' o u'.p u'.is u'.nr u'.b u'.q X ++ T
  way : (kl = 7 ∧ X = gB l' o) ∨ ∃ j, kl = 24 + j ∧ T[j]? = some (gB l' o)
  ne : kl ≠ kw
  whl : (kw = 6 ∧ ∀ B, whB u0 B → whB u' B) ∨ ∃ j B, kw = 24 + j ∧ T[j]? = some B ∧ whB u' B
def PG (n m i : Nat) (o0 : Gr) (l' : List Nt) (u0 u' : US) (h' : List Blk) : Prop := ∃ o X kl kw T, PGok n m i o0 l' u0 u' h' o X kl kw T
def upd1 (us : Nat → US) (i : Nat) (u : US) : Nat → US := fun j => if j = i then u else us j
theorem zis (n m i kl kw : Nat) (l : List Nt) (o : Gr) (p : qO) (is : Bool) (nr : Nat → Int × Bool) (b : Int) (q : Option Nat) (X : Blk) : (laB n m i kl kw l o p is nr b q X).length = 24 := by simp [laB]
theorem laB_hid {n m i kl kw : Nat} {l : List Nt} {o : Gr} {p : qO} {is : Bool} {nr : Nat → Int × Bool} {b : Int} {q : Option Nat} {X : Blk} {T : List Blk} {t : Nat} (h8 : 8 ≤ t) (ht : t < 24) : (laB n m i kl kw l o p is nr b q X ++ T)[t]? = some (cr []) := by
 rw [List.getElem?_append_left (by rw [zis]; exact ht)]
 unfold laB
 rw [List.getElem?_append_right (by simpa using h8)]
 exact List.getElem?_replicate_of_lt (by simp; omega)
section
variable {C : qW} {g : String} {F : Nat → Prop} {y n i : Nat} {x : HS} {us : Nat → US} {l l' : List Nt} {h : List Blk} {ex : List Value} {V : Value} {K : zdX}
theorem glueB2 {u' : Option Nat → US} {ok : Option Nat → Prop} (hi : i < n) (hY : YT F y n x us l h) (hex : ex.all vpf = true) (hV : vpf V = true)
  (hC : ∀ m o, gOk l o → n ≤ 16 → ∃ R, C g (pv 0 0 :: ex) (laB n m i 7 6 l o (us i).p (us i).is (us i).nr (us i).b (us i).q (gB l o)) R ∧ ∀ v h', R v h' → v = V ∧ ∃ c, ok c ∧ PG n m i o l' (us i) (u' c) h')
  (hK : ∀ c, ok c → ∀ h', YT F y n x (upd1 us i (u' c)) l' h' → FrY F h h' → K V h') : zcl C g (pv y 0 :: ex) K h := by
 obtain ⟨m, o, pl, Y, rfl, hlo, h1, h16, hll⟩ := hY
 obtain ⟨R, hC, hR⟩ := hC m o Y.ok h16
 have hix : ∀ {t a : Nat}, (ixB n i)[t]? = some a → a < 6 + 4 * n := fun {t a} e => by
  rcases zhb e with h | h | h | h | h | h | h | h | ⟨_, _, h | ⟨j, hj, _, h⟩⟩ <;> omega
 have hsel : ∀ (t a : Nat), a < 6 + 4 * n → ((ixB n i).map pl)[t]? = some (pl a) → (ixB n i)[t]? = some a := fun t a ha e => by
  obtain ⟨a', e1, e2⟩ := getElem?_map e
  have := Y.inj a' a (hix e1) ha e2
  rw [← this]; exact e1
 have huq : ∀ (t t' a : Nat), a ≠ 1 → (∀ j, a = 6 + 4 * j → j = i) → a < 6 + 4 * n → ((ixB n i).map pl)[t]? = some (pl a) → ((ixB n i).map pl)[t']? = some (pl a) → t = t' := fun t t' a h1 h2 ha e1 e2 => by
  have e1 := zhb (hsel t a ha e1)
  have e2 := zhb (hsel t' a ha e2)
  have hno : ∀ t : Nat, (8 ≤ t ∧ t < 24 ∧ (a = 1 ∨ ∃ j, j < n ∧ j ≠ i ∧ a = 6 + 4 * j)) → False := fun t q => by
   rcases q.2.2 with q | ⟨j, _, q1, q2⟩
   ·exact h1 q
   ·exact q1 (h2 j q2)
  rcases e1 with h | h | h | h | h | h | h | h | h <;> first | exact (hno _ h).elim | skip
  all_goals rcases e2 with h' | h' | h' | h' | h' | h' | h' | h' | h' <;> first | exact (hno _ h').elim | omega
 have hss : ∀ (t a : Nat), (ixB n i)[t]? = some a → ((ixB n i).map pl)[t]? = some (pl a) := fun t a e => by rw [List.getElem?_map, e]; rfl
 have hρ : ∀ (t a : Nat), (ixB n i)[t]? = some a → rho ((ixB n i).map pl) h.length t = pl a := fun t a e => zc1 (hss t a e)
 have hρn : ∀ j : Nat, rho ((ixB n i).map pl) h.length (24 + j) = h.length + j := fun j => by
  rw [zgB (by rw [List.length_map, zit]; omega), List.length_map, zit, Nat.add_sub_cancel_left]
 have hptr : ∀ j, j < n → rho ((ixB n i).map pl) h.length (uf i 3 8 j) = pl (6 + 4 * j) := fun j hj => by
  unfold uf
  split
  ·rename_i e; subst e; exact hρ 3 _ rfl
  ·rename_i e
   refine hρ (8 + j) _ ?_
   rw [ixH_at (by omega), if_pos ⟨hj, e⟩]
 have hl24 : (laB n m i 7 6 l o (us i).p (us i).is (us i).nr (us i).b (us i).q (gB l o)).length = ((ixB n i).map pl).length := by rw [zis, List.length_map, zit]
 have hview : ∀ (t k : Nat) b1, ((ixB n i).map pl)[t]? = some k → (laB n m i 7 6 l o (us i).p (us i).is (us i).nr (us i).b (us i).q (gB l o))[t]? = some b1 → ∃ b, h[k]? = some b ∧ Blk.view (zaR (rho ((ixB n i).map pl) h.length) b1) b := by
  intro t k b1 e1 e2
  obtain ⟨a, e3, rfl⟩ := getElem?_map e1
  rcases zhb e3 with ⟨rfl, rfl⟩ | ⟨rfl, rfl⟩ | ⟨rfl, rfl⟩ | ⟨rfl, rfl⟩ | ⟨rfl, rfl⟩ | ⟨rfl, rfl⟩ | ⟨rfl, rfl⟩ | ⟨rfl, rfl⟩ | ⟨h8, h24, q⟩
  ·cases e2; exact ⟨_, Y.y, .inl (.inl (zao (hρ 1 1 rfl) (by show zet _ (slV 2 n (some m)) = _; exact qN (some m) (hρ 2 4 rfl)) (qP o (hρ 7 5 rfl)) (fun q => q)))⟩
  ·cases e2; exact ⟨_, Y.hd, zG⟩
  ·cases e2
   refine ⟨_, Y.ur, .inl (.inl ?_)⟩
   show Blk.seen (zaR _ (.cells (zaY n (uf i 3 8) ++ zbe m) false)) (.cells (zaY n (fun j => pl (6 + 4 * j)) ++ zbe m) true)
   rw [zfF hptr]; exact ⟨rfl, fun q => by cases q⟩
  ·cases e2; exact ⟨_, Y.un i hi, .inl (.inl (zbB (hρ 4 _ rfl) (hρ 5 _ rfl) (fun q => q)))⟩
  ·cases e2; exact ⟨_, Y.pn i hi, .inl (.inl (zaK (qN _ (hρ 6 _ rfl)) (fun q => q)))⟩
  ·cases e2; exact ⟨_, Y.ch i hi, .inl (.inl (zcg _))⟩
  ·cases e2
   obtain ⟨B, hB, hw⟩ := Y.wh i hi
   obtain ⟨c, rw, rfl⟩ := whB_cells hw
   exact ⟨_, hB, zG⟩
  ·cases e2; exact ⟨_, Y.way, zb3 Y.ok⟩
  ·have := laB_hid (n := n) (m := m) (i := i) (kl := 7) (kw := 6) (l := l) (o := o) (p := (us i).p) (is := (us i).is) (nr := (us i).nr) (b := (us i).b) (q := (us i).q) (X := gB l o) (T := []) h8 h24
   rw [List.append_nil] at this
   rw [this] at e2; cases e2
   rcases q with rfl | ⟨j, hj, _, rfl⟩
   ·exact ⟨_, Y.hd, zG⟩
   ·exact ⟨_, Y.un j hj, zG⟩
 refine ⟨(ixB n i).map pl, laB n m i 7 6 l o (us i).p (us i).is (us i).nr (us i).b (us i).q (gB l o), pv 0 0 :: ex, R, hC, hl24, ?_, hview, ?_, fun v h1' hRv hlen hfl => ?_⟩
 ·exact zan (by show pv (rho _ _ 0) 0 = _; rw [hρ 0 0 rfl]) (zbf fun v hv => qE (List.all_eq_true.1 hex v hv))
 ·intro t t' k b1 htt e1 e2 e3
  obtain ⟨a, e4, rfl⟩ := getElem?_map e1
  have ha := hix e4
  rcases zhb e4 with ⟨rfl, rfl⟩ | ⟨rfl, rfl⟩ | ⟨rfl, rfl⟩ | ⟨rfl, rfl⟩ | ⟨rfl, rfl⟩ | ⟨rfl, rfl⟩ | ⟨rfl, rfl⟩ | ⟨rfl, rfl⟩ | ⟨h8, h24, q⟩
  ·exact absurd (huq _ _ 0 (by omega) (fun j e => by omega) ha e1 e2) htt
  ·cases e3; rfl
  ·cases e3; rfl
  ·exact absurd (huq _ _ (6 + 4 * i) (by omega) (fun j e => by omega) ha e1 e2) htt
  ·exact absurd (huq _ _ (7 + 4 * i) (by omega) (fun j e => by omega) ha e1 e2) htt
  ·exact absurd (huq _ _ (8 + 4 * i) (by omega) (fun j e => by omega) ha e1 e2) htt
  ·cases e3; rfl
  ·exact absurd (huq _ _ 5 (by omega) (fun j e => by omega) ha e1 e2) htt
  ·have := laB_hid (n := n) (m := m) (i := i) (kl := 7) (kw := 6) (l := l) (o := o) (p := (us i).p) (is := (us i).is) (nr := (us i).nr) (b := (us i).b) (q := (us i).q) (X := gB l o) (T := []) h8 h24
   rw [List.append_nil] at this
   rw [this] at e3; cases e3; rfl
 ·obtain ⟨rfl, c0, hc0, o', X, kl, kw, T, G⟩ := hR v h1' hRv
  have hK := hK c0 hc0
  generalize u' c0 = u' at G hK
  have hh := G.eq
  subst hh
  have hgt : ∀ {t : Nat}, 24 ≤ t → (laB n m i kl kw l' o' u'.p u'.is u'.nr u'.b u'.q X ++ T)[t]? = T[t - 24]? := fun {t} ht => by
   rw [List.getElem?_append_right (by rw [zis]; exact ht), zis]
  have hgo : zee (laB n m i 7 6 l o (us i).p (us i).is (us i).nr (us i).b (us i).q (gB l o)) (laB n m i kl kw l' o' u'.p u'.is u'.nr u'.b u'.q X ++ T) := by
   intro t ht
   have htl := zJ ht
   rw [zis] at htl
   rcases Nat.lt_or_ge t 8 with h8 | h8
   ·match t, h8 with
    | 0, _ => cases ht
    | 1, _ => cases ht
    | 2, _ => cases ht
    | 3, _ => cases ht
    | 4, _ => cases ht
    | 5, _ => cases ht
    | 6, _ => cases ht
    | 7, _ =>
     have hg : gB l o = .gone := Option.some.inj ht
     have : X = .gone := G.gone (by
      cases o with
      | none => rfl
      | some z => cases hg)
     show some X = _
     rw [this]
   ·have := laB_hid (n := n) (m := m) (i := i) (kl := 7) (kw := 6) (l := l) (o := o) (p := (us i).p) (is := (us i).is) (nr := (us i).nr) (b := (us i).b) (q := (us i).q) (X := gB l o) (T := []) h8 htl
    rw [List.append_nil] at this
    rw [this] at ht; cases ht
  refine ⟨hgo, ?_⟩
  ·rw [qE hV]
   let H2 := zdK h ((ixB n i).map pl) (laB n m i kl kw l' o' u'.p u'.is u'.nr u'.b u'.q X ++ T) (rho ((ixB n i).map pl) h.length)
   have at_ : ∀ (t a : Nat) b, (ixB n i)[t]? = some a → a ≠ 1 → (∀ j, a = 6 + 4 * j → j = i) → (laB n m i kl kw l' o' u'.p u'.is u'.nr u'.b u'.q X ++ T)[t]? = some b → b.rw = true → H2[pl a]? = some (zaR (rho ((ixB n i).map pl) h.length) b) := fun t a b e h1 h2 hb hr =>
    ziG (Y.lt (hix e)) (fun j hj => huq j t a h1 h2 (hix e) hj (hss t a e)) (hss t a e) hb hr
   have keep_ : ∀ a, a < 6 + 4 * n → a ≠ 0 → a ≠ 5 → a ≠ 6 + 4 * i → a ≠ 7 + 4 * i → a ≠ 8 + 4 * i → H2[pl a]? = h[pl a]? := fun a ha h0 h5 h6 h7 h8 => zdq (Y.lt ha) fun t b e1 e2 => by
    rcases zhb (hsel t a ha e1) with q | ⟨rfl, q⟩ | ⟨rfl, q⟩ | q | q | q | ⟨rfl, q⟩ | q | ⟨q8, q24, q⟩ <;> first | omega | skip
    ·have : b = cr [] := by simpa [laB] using e2.symm
     rw [this]; rfl
    ·have : b = cr (zaY n (uf i 3 8) ++ zbe m) := by simpa [laB] using e2.symm
     rw [this]; rfl
    ·have : b = cr [] := by simpa [laB] using e2.symm
     rw [this]; rfl
    ·rw [laB_hid q8 q24] at e2; cases e2; rfl
   have new_ : ∀ (j : Nat), H2[h.length + j]? = (T[j]?).map (zaR (rho ((ixB n i).map pl) h.length)) := fun j => by
    have := back_new (h := h) (sel := (ixB n i).map pl) (h1 := laB n m i kl kw l' o' u'.p u'.is u'.nr u'.b u'.q X ++ T) (ρ := rho ((ixB n i).map pl) h.length) j
    rw [List.length_map, zit, hgt (by omega), Nat.add_sub_cancel_left] at this
    exact this
   have hkl : rho ((ixB n i).map pl) h.length kl = if kl = 7 then pl 5 else h.length + (kl - 24) := by
    rcases G.way with ⟨rfl, _⟩ | ⟨j, rfl, _⟩
    ·rw [if_pos rfl]; exact hρ 7 5 rfl
    ·rw [if_neg (by omega), hρn, Nat.add_sub_cancel_left]
   have hkw : rho ((ixB n i).map pl) h.length kw = if kw = 6 then pl (9 + 4 * i) else h.length + (kw - 24) := by
    rcases G.whl with ⟨rfl, _⟩ | ⟨j, B, rfl, _, _⟩
    ·rw [if_pos rfl]; exact hρ 6 _ rfl
    ·rw [if_neg (by omega), hρn, Nat.add_sub_cancel_left]
   have hlt : ∀ a, a < 6 + 4 * n → pl a < h.length := fun a ha => Y.lt ha
   have hne := G.ne
   have h24l : kl = 7 ∨ 24 ≤ kl := by rcases G.way with ⟨rfl, _⟩ | ⟨j, rfl, _⟩ <;> omega
   have h24w : kw = 6 ∨ 24 ≤ kw := by rcases G.whl with ⟨rfl, _⟩ | ⟨j, B, rfl, _, _⟩ <;> omega
   let P2 : Nat → Nat := fun a => if a = 5 then (if kl = 7 then pl 5 else h.length + (kl - 24)) else if a = 9 + 4 * i then (if kw = 6 then pl (9 + 4 * i) else h.length + (kw - 24)) else pl a
   have p5 : P2 5 = if kl = 7 then pl 5 else h.length + (kl - 24) := if_pos rfl
   have p9 : P2 (9 + 4 * i) = if kw = 6 then pl (9 + 4 * i) else h.length + (kw - 24) := by
    show (if 9 + 4 * i = 5 then _ else _) = _
    rw [if_neg (by omega), if_pos rfl]
   have pn_ : ∀ a, a ≠ 5 → a ≠ 9 + 4 * i → P2 a = pl a := fun a h5 h9 => by
    show (if a = 5 then _ else _) = _
    rw [if_neg h5, if_neg h9]
   have plo : ∀ a, a < 6 + 4 * n → F (P2 a) := fun a ha => by
    by_cases h5 : a = 5
    ·subst h5; rw [p5]; split
     ·exact hlo 5 (by omega)
     ·exact hll _ (Nat.le_add_right _ _)
    by_cases h9 : a = 9 + 4 * i
    ·subst h9; rw [p9]; split
     ·exact hlo _ (by omega)
     ·exact hll _ (Nat.le_add_right _ _)
    rw [pn_ a h5 h9]; exact hlo a ha
   refine hK H2 ⟨m, o', P2, ⟨?_, (fun e => by cases e), ?_, ?_, ?_, ?_, ?_, ?_, G.ok, ?_, ?_, ?_, ?_⟩, pn_ 0 (by omega) (by omega), plo, h1, h16, fun k hk => hll k (Nat.le_trans zen hk)⟩ ⟨zjr (fun j k e => by
    obtain ⟨a, e1, rfl⟩ := getElem?_map e; exact hlo a (hix e1)) hll, zen, ziv hgo hl24 hview⟩
   ·intro a b ha hb e
    have key : ∀ a, a < 6 + 4 * n → (a ≠ 5 ∧ a ≠ 9 + 4 * i ∧ P2 a = pl a ∧ P2 a < h.length) ∨ (a = 5 ∧ ((kl = 7 ∧ P2 a = pl a) ∨ (24 ≤ kl ∧ P2 a = h.length + (kl - 24)))) ∨ (a = 9 + 4 * i ∧ ((kw = 6 ∧ P2 a = pl a) ∨ (24 ≤ kw ∧ P2 a = h.length + (kw - 24)))) := fun a ha => by
     by_cases h5 : a = 5
     ·subst h5
      refine .inr (.inl ⟨rfl, ?_⟩)
      rw [p5]
      rcases h24l with q | q
      ·exact .inl ⟨q, if_pos q⟩
      ·exact .inr ⟨q, if_neg (by omega)⟩
     by_cases h9 : a = 9 + 4 * i
     ·subst h9
      refine .inr (.inr ⟨rfl, ?_⟩)
      rw [p9]
      rcases h24w with q | q
      ·exact .inl ⟨q, if_pos q⟩
      ·exact .inr ⟨q, if_neg (by omega)⟩
     exact .inl ⟨h5, h9, pn_ a h5 h9, by rw [pn_ a h5 h9]; exact hlt a ha⟩
    have ka := key a ha
    have kb := key b hb
    have la := hlt a ha
    have lb := hlt b hb
    rcases ka with ⟨a1, a2, a3, a4⟩ | ⟨a1, ⟨a2, a3⟩ | ⟨a2, a3⟩⟩ | ⟨a1, ⟨a2, a3⟩ | ⟨a2, a3⟩⟩ <;> rcases kb with ⟨b1, b2, b3, b4⟩ | ⟨b1, ⟨b2, b3⟩ | ⟨b2, b3⟩⟩ | ⟨b1, ⟨b2, b3⟩ | ⟨b2, b3⟩⟩ <;> first | omega | exact Y.inj a b ha hb (a3.symm.trans (e.trans b3))
   ·have := at_ 0 0 _ rfl (by omega) (fun j e => by omega) rfl rfl
    rw [pn_ 0 (by omega) (by omega), pn_ 1 (by omega) (by omega), pn_ 4 (by omega) (by omega), p5, this]
    exact congrArg some (zat (hρ 1 1 rfl) (by show zet _ (slV 2 n (some m)) = _; exact qN (some m) (hρ 2 4 rfl)) (qP o' hkl))
   ·rw [pn_ 1 (by omega) (by omega), pn_ 2 (by omega) (by omega), pn_ 3 (by omega) (by omega), keep_ 1 (by omega) (by omega) (by omega) (by omega) (by omega) (by omega)]
    exact Y.hd
   ·rw [pn_ 2 (by omega) (by omega), keep_ 2 (by omega) (by omega) (by omega) (by omega) (by omega) (by omega)]
    exact Y.hc
   ·rw [pn_ 3 (by omega) (by omega), keep_ 3 (by omega) (by omega) (by omega) (by omega) (by omega) (by omega)]
    exact Y.hm
   ·rw [pn_ 4 (by omega) (by omega), keep_ 4 (by omega) (by omega) (by omega) (by omega) (by omega) (by omega), Y.ur]
    have : (fun j => pl (6 + 4 * j)) = fun j => P2 (6 + 4 * j) := by
     funext j; rw [pn_ _ (by omega) (by omega)]
    rw [this]
   ·rw [p5]
    rcases G.way with ⟨hk7, rfl⟩ | ⟨j, hk, hT⟩
    ·rw [if_pos hk7, at_ 7 5 _ rfl (by omega) (fun j e => by omega) rfl (by cases o' <;> rfl), qQ G.ok]
    ·rw [if_neg (by omega), show kl - 24 = j by omega, new_ j, hT]
     exact congrArg some (qQ G.ok)
   ·intro j hj
    by_cases hji : j = i
    ·subst hji
     rw [pn_ _ (by omega) (by omega), pn_ _ (by omega) (by omega), pn_ _ (by omega) (by omega), at_ 3 _ _ rfl (by omega) (fun j' e => by omega) rfl rfl]
     simp only [upd1, if_true]
     exact congrArg some (zcn (hρ 4 _ rfl) (hρ 5 _ rfl))
    ·rw [pn_ _ (by omega) (by omega), pn_ _ (by omega) (by omega), pn_ _ (by omega) (by omega), keep_ _ (by omega) (by omega) (by omega) (by omega) (by omega) (by omega)]
     simp only [upd1, hji, if_false]; exact Y.un j hj
   ·intro j hj
    by_cases hji : j = i
    ·subst hji
     rw [pn_ _ (by omega) (by omega), p9, at_ 4 _ _ rfl (by omega) (fun j' e => by omega) rfl rfl]
     simp only [upd1, if_true]
     exact congrArg some (zbb (qN _ hkw))
    ·rw [pn_ _ (by omega) (by omega), pn_ _ (by omega) (by omega), keep_ _ (by omega) (by omega) (by omega) (by omega) (by omega) (by omega)]
     simp only [upd1, hji, if_false]; exact Y.pn j hj
   ·intro j hj
    by_cases hji : j = i
    ·subst hji
     rw [pn_ _ (by omega) (by omega), at_ 5 _ _ rfl (by omega) (fun j' e => by omega) rfl rfl]
     exact congrArg some (qX _)
    ·rw [pn_ _ (by omega) (by omega), keep_ _ (by omega) (by omega) (by omega) (by omega) (by omega) (by omega)]
     exact Y.ch j hj
   ·intro j hj
    by_cases hji : j = i
    ·subst hji
     simp only [upd1, if_true]
     rw [p9]
     rcases G.whl with ⟨hk6, hw⟩ | ⟨j', B, hk, hT, hw⟩
     ·obtain ⟨B, hB, hwB⟩ := Y.wh j hj
      rw [if_pos hk6, keep_ _ (by omega) (by omega) (by omega) (by omega) (by omega) (by omega)]
      exact ⟨B, hB, hw B hwB⟩
     ·rw [if_neg (by omega), show kw - 24 = j' by omega, new_ j', hT]
      exact ⟨_, rfl, whB_ren hw⟩
    ·rw [pn_ _ (by omega) (by omega), keep_ _ (by omega) (by omega) (by omega) (by omega) (by omega) (by omega)]
     simp only [upd1, hji, if_false]; exact Y.wh j hj
theorem glueB {u' : US} (hi : i < n) (hY : YT F y n x us l h) (hex : ex.all vpf = true) (hV : vpf V = true)
  (hC : ∀ m o, gOk l o → n ≤ 16 → ∃ R, C g (pv 0 0 :: ex) (laB n m i 7 6 l o (us i).p (us i).is (us i).nr (us i).b (us i).q (gB l o)) R ∧ ∀ v h', R v h' → v = V ∧ PG n m i o l' (us i) u' h')
  (hK : ∀ h', YT F y n x (upd1 us i u') l' h' → FrY F h h' → K V h') : zcl C g (pv y 0 :: ex) K h :=
 glueB2 (u' := fun _ => u') (ok := fun _ => True) hi hY hex hV (fun m o ho h16 => let ⟨R, h1, h2⟩ := hC m o ho h16; ⟨R, h1, fun v h' hr => ⟨(h2 v h' hr).1, none, trivial, (h2 v h' hr).2⟩⟩) (fun _ _ => hK)
end
end Go.Rh

namespace Go.Rh
structure YCode (P : Program) : Prop where
  h_yard_Yard_Notes : zbl P
  h_yard_Yard_Pool : zcv P
  h_head_Head_Pool : zbS P
  h_yard_Yard_Wish : zct P
  h_head_Head_Wish : zbQ P
  h_head_Head_waiting : za4 P
  h_pool_All : zcH P
  h_pool_Apply : zaI P
  h_pool_may : zaP P
  h_pool_held : zaG P
  h_pool_fits : zaM P
  h_pool_Check : zaB P
  h_pool_placed : zai P
  h_cookie_Next : zaq P
  h_yard_Yard_Tick : zcu P
  h_head_Head_Send : zbR P
  h_head_Head_all : zbC P
  h_head_Head_publish : za5 P
  h_yard_row_head_Note_put : zay P
  h_yard_Yard_Lose : zcw P
  h_yard_row_head_Note_at : zab P
  h_yard_row_head_Note_drop : zad P
  h_yard_Yard_Version : zbK P
  h_yard_row_yard_unit_at : qT P
  h_plane_Plane_Version : zap P
  h_yard_Yard_Crash : zci P
  h_plane_Plane_Crash : zbp P
  h_yard_Yard_Deliver : zbn P
  h_head_Head_Heard : zbm P
  h_yard_unit_hear : zbP P
  h_yard_unit_version : za3 P
  h_yard_unit_load : zbu P
  h_plane_Plane_Load : zaW P
  h_plane_maybe_api_Pool_lay : qR P
  h_wheel_Make : zbH P
  h_wheel_spun : zbj P
  h_sip_Words : zbo P
  h_sip_Of : zcx P
  h_sip_number_byte : qU P
  h_sip_state_take : zaa P
  h_sip_state_rounds : qK P
  h_sip_state_round : qM P
  h_math_bits_RotateLeft64 : zV P
  h_head_New : zdT P
  h_plane_New : zeN P
  h_yard_New : zg9 P
  h_yard_row_yard_unit_put : zbc P
structure UP where
  p : qO
  is : Bool
  b : Int
  nr : Nat → Int × Bool
structure YS where
  n : Nat
  x : HS
  us : Nat → UP
  l : List Nt
def UP.u (v : UP) (q : Option Nat) : US := ⟨v.p, v.is, v.b, v.nr, q⟩
def YP (F : Nat → Prop) (y : Nat) (s : YS) (h : List Blk) : Prop := ∃ q : Nat → Option Nat, (∀ j, j < s.n → (s.us j).is = true → (q j).isSome = true) ∧ YT F y s.n s.x (fun j => (s.us j).u (q j)) s.l h
def zdh (us : Nat → UP) (i : Nat) (u : UP) : Nat → UP := fun j => if j = i then u else us j
def zax (s : YS) : YS := { s with x := (zal s.x).1, l := s.l ++ (zal s.x).2 }
def zcy (s : YS) (k : Int) : YS := { s with l := zeb s.l k }
def zcK (u : UP) : UP := ⟨zH, false, i64.wrap (u.b + 1), nr0⟩
def inU (n : Nat) (u : Int) : Bool := decide (0 ≤ u ∧ u < n)
def zel (s : YS) (u : Int) : YS := if inU s.n u = true then { s with us := zdh s.us u.toNat (zcK (s.us u.toNat)) } else s
def zfd (u : UP) (n : Nt) : UP := ⟨(uhS u.p u.is u.b n).1, (uhS u.p u.is u.b n).2, u.b, u.nr⟩
def zaN (s : YS) (k : Int) (keep : Bool) : YS :=
 if (atS s.l k).2 = true then
  (if (atS s.l k).1.a = true then { s with x := zhH s.x (atS s.l k).1, l := zdM s.l k keep }
  else { s with us := zdh s.us (atS s.l k).1.u.toNat (zfd (s.us (atS s.l k).1.u.toNat) (atS s.l k).1), l := zdM s.l k keep ++ [ackN (atS s.l k).1.u (s.us (atS s.l k).1.u.toNat).b (uhS (s.us (atS s.l k).1.u.toNat).p (s.us (atS s.l k).1.u.toNat).is (s.us (atS s.l k).1.u.toNat).b (atS s.l k).1)] })
 else s
def zdL (s : YS) (u : Int) : Int × Bool := if inU s.n u = true then ((s.us u.toNat).p 0, (s.us u.toNat).is) else (0, false)
def NOK (s : YS) : Prop := ∀ nt ∈ s.l, nt.a = false → 0 ≤ nt.u ∧ nt.u < s.n
section
variable {P : Program} {F : Nat → Prop} {y : Nat} {s : YS} {h : List Blk} {K : zdX}
theorem YP.fun_eq {n : Nat} {x : HS} {us us' : Nat → US} {l : List Nt} (h1 : YT F y n x us l h) (he : us = us') : YT F y n x us' l h := he ▸ h1
theorem YP.of {q : Nat → Option Nat} {x' : HS} {l' : List Nt} {h' : List Blk} (hq : ∀ j, j < s.n → (s.us j).is = true → (q j).isSome = true) (hY : YT F y s.n x' (fun j => (s.us j).u (q j)) l' h') : YP F y { s with x := x', l := l' } h' := ⟨q, hq, hY⟩
theorem zgq (H : YCode P) (hY : YP F y s h) (hK : ∀ h', YP F y s h' → FrY F h h' → K (iv (s.l.length : Nat)) h') : zcl (Env P) "(*roundhouse/yard.Yard).Notes" [pv y 0] K h := by
 obtain ⟨q, hq, hY⟩ := hY
 refine glueA (ex := []) (V := iv (s.l.length : Nat)) (x' := s.x) (l' := s.l) hY rfl rfl (fun m o ho => ⟨_, YNotesAC H.h_yard_Yard_Notes s.x.p s.x.w s.x.hd s.x.e s.x.s s.n m s.l o ho, ?_⟩) (fun h' hT => hK h' (YP.of hq hT))
 rintro v h' ⟨rfl, rfl⟩
 exact ⟨rfl, o, gB s.l o, 5, [], ho, (fun z => by subst z; rfl), .inl ⟨rfl, rfl, rfl⟩, rfl⟩
theorem YPoolK (H : YCode P) (hY : YP F y s h) (hK : ∀ h', YP F y s h' → FrY F h h' → K (qG s.x.p) h') : zcl (Env P) "(*roundhouse/yard.Yard).Pool" [pv y 0] K h := by
 obtain ⟨q, hq, hY⟩ := hY
 refine glueA (ex := []) (V := qG s.x.p) (x' := s.x) (l' := s.l) hY rfl (zaA _) (fun m o ho => ⟨_, YPoolC H.h_yard_Yard_Pool H.h_head_Head_Pool s.x.p s.x.w s.x.hd s.x.e s.x.s s.n m s.l o ho, ?_⟩) (fun h' hT => hK h' (YP.of hq hT))
 rintro v h' ⟨rfl, rfl⟩
 exact ⟨rfl, o, gB s.l o, 5, [], ho, (fun z => by subst z; rfl), .inl ⟨rfl, rfl, rfl⟩, rfl⟩
theorem YTickK (H : YCode P) (hY : YP F y s h) (hl : s.l.length ≤ 900000) (hh : s.x.hd.length ≤ 1000) (hK : ∀ h', YP F y (zax s) h' → FrY F h h' → K (iv ((zax s).l.length : Nat)) h') : zcl (Env P) "(*roundhouse/yard.Yard).Tick" [pv y 0] K h := by
 obtain ⟨q, hq, hY⟩ := hY
 refine glueA (ex := []) (V := iv ((zax s).l.length : Nat)) (x' := (zax s).x) (l' := (zax s).l) hY rfl rfl (fun m o ho => ⟨_, YTickC H.h_yard_Yard_Tick H.h_head_Head_Send H.h_head_Head_all H.h_head_Head_publish H.h_pool_Apply H.h_pool_may H.h_pool_held H.h_pool_fits H.h_pool_Check H.h_pool_placed H.h_cookie_Next H.h_yard_row_head_Note_put H.h_yard_Yard_Notes s.x.p s.x.w s.x.hd s.x.e s.x.s s.n m s.l o ho hl hh, ?_⟩) (fun h' hT => hK h' (YP.of hq hT))
 rintro v h' ⟨rfl, hp⟩
 exact ⟨rfl, hp⟩
theorem YLoseK (H : YCode P) (hY : YP F y s h) (hl : s.l.length ≤ 900000) (k : Int) (hK : ∀ h', YP F y (zcy s k) h' → FrY F h h' → K (bv (atS s.l k).2) h') : zcl (Env P) "(*roundhouse/yard.Yard).Lose" [pv y 0, iv k] K h := by
 obtain ⟨q, hq, hY⟩ := hY
 refine glueA (ex := [iv k]) (V := bv (atS s.l k).2) (x' := s.x) (l' := zeb s.l k) hY rfl rfl (fun m o ho => ⟨_, YLoseC H.h_yard_Yard_Lose H.h_yard_row_head_Note_at H.h_yard_row_head_Note_drop s.x.p s.x.w s.x.hd s.x.e s.x.s s.n m s.l o ho hl k, ?_⟩) (fun h' hT => hK h' (YP.of hq hT))
 rintro v h' ⟨rfl, hp⟩
 exact ⟨rfl, hp⟩
theorem YVersionK (H : YCode P) (hY : YP F y s h) (u : Int) (hK : ∀ h', YP F y s h' → FrY F h h' → K (.tuple #[iv (zdL s u).1, bv (zdL s u).2]) h') : zcl (Env P) "(*roundhouse/yard.Yard).Version" [pv y 0, iv u] K h := by
 obtain ⟨q, hq, hY⟩ := hY
 have h1n : 1 ≤ s.n := by obtain ⟨_, _, _, _, _, _, h1, _⟩ := hY; exact h1
 obtain ⟨i, hi, hui⟩ : ∃ i : Nat, i < s.n ∧ (0 ≤ u ∧ u < (s.n : Nat) → u = (i : Nat)) := by
  by_cases hu : 0 ≤ u ∧ u < (s.n : Nat)
  ·exact ⟨u.toNat, by omega, fun _ => by omega⟩
  ·exact ⟨0, h1n, fun q => absurd q hu⟩
 refine glueB (i := i) (u' := (s.us i).u (q i)) (l' := s.l) (ex := [iv u]) (V := .tuple #[iv (zdL s u).1, bv (zdL s u).2]) hi hY rfl rfl (fun m o ho h16 => ⟨_, YVersionC H.h_yard_Yard_Version H.h_yard_row_yard_unit_at H.h_plane_Plane_Version s.n m i h16 hi s.l o ho (s.us i).p (s.us i).is (s.us i).nr (s.us i).b (q i) u hui, ?_⟩) (fun h' hT => hK h' ⟨q, hq, ?_⟩)
 ·rintro v h' ⟨rfl, rfl⟩
  refine ⟨?_, o, gB s.l o, 7, 6, [], ⟨ho, (fun z => by subst z; rfl), rfl, .inl ⟨rfl, rfl⟩, by decide, .inl ⟨rfl, fun B hB => hB⟩⟩⟩
  unfold zdL inU
  by_cases hu : 0 ≤ u ∧ u < (s.n : Nat)
  ·rw [if_pos hu, if_pos (decide_eq_true hu), show u.toNat = i by have := hui hu; omega]
  ·rw [if_neg hu, if_neg (by simpa using hu)]
 ·refine YP.fun_eq hT ?_
  funext j
  unfold upd1; split
  ·rename_i e; rw [e]
  ·rfl
theorem YCrashK (H : YCode P) (hY : YP F y s h) (u : Int) (hK : ∀ h', YP F y (zel s u) h' → FrY F h h' → K (bv (inU s.n u)) h') : zcl (Env P) "(*roundhouse/yard.Yard).Crash" [pv y 0, iv u] K h := by
 obtain ⟨q, hq, hY⟩ := hY
 have h1n : 1 ≤ s.n := by obtain ⟨_, _, _, _, _, _, h1, _⟩ := hY; exact h1
 by_cases hu : 0 ≤ u ∧ u < (s.n : Nat)
 ·have hin : inU s.n u = true := decide_eq_true hu
  refine glueB (i := u.toNat) (u' := (zcK (s.us u.toNat)).u none) (l' := s.l) (ex := [iv u]) (V := bv (inU s.n u)) (by omega) hY rfl rfl (fun m o ho h16 => ⟨_, YCrashC H.h_yard_Yard_Crash H.h_yard_row_yard_unit_at H.h_plane_Plane_Crash s.n m u.toNat h16 (by omega) s.l o ho (s.us u.toNat).p (s.us u.toNat).is (s.us u.toNat).nr (s.us u.toNat).b (q u.toNat) u (fun _ => by omega), ?_⟩) (fun h' hT => hK h' ⟨fun j => if j = u.toNat then none else q j, ?_, ?_⟩)
  ·rintro v h' (⟨rfl, _, rfl⟩ | ⟨_, hn, _⟩)
   ·exact ⟨by rw [hin], o, gB s.l o, 7, 6, [], ⟨ho, (fun z => by subst z; rfl), rfl, .inl ⟨rfl, rfl⟩, by decide, .inl ⟨rfl, fun B hB => whB_cells hB⟩⟩⟩
   ·exact absurd hu hn
  ·intro j hj his
   unfold zel at hj his
   rw [if_pos hin] at hj his
   simp only [zdh] at his
   by_cases e : j = u.toNat
   ·rw [if_pos e] at his; cases his
   ·rw [if_neg e] at his; simp only [e, if_false]; exact hq j hj his
  ·unfold zel; rw [if_pos hin]
   refine YP.fun_eq hT ?_
   funext j
   unfold upd1 zdh
   by_cases e : j = u.toNat <;> simp [e]
 ·have hin : inU s.n u = false := decide_eq_false hu
  refine glueB (i := 0) (u' := (s.us 0).u (q 0)) (l' := s.l) (ex := [iv u]) (V := bv (inU s.n u)) h1n hY rfl rfl (fun m o ho h16 => ⟨_, YCrashC H.h_yard_Yard_Crash H.h_yard_row_yard_unit_at H.h_plane_Plane_Crash s.n m 0 h16 h1n s.l o ho (s.us 0).p (s.us 0).is (s.us 0).nr (s.us 0).b (q 0) u (fun q => absurd q hu), ?_⟩) (fun h' hT => hK h' ⟨q, ?_, ?_⟩)
  ·rintro v h' (⟨_, hn, _⟩ | ⟨rfl, _, rfl⟩)
   ·exact absurd hn hu
   ·exact ⟨by rw [hin], o, gB s.l o, 7, 6, [], ⟨ho, (fun z => by subst z; rfl), rfl, .inl ⟨rfl, rfl⟩, by decide, .inl ⟨rfl, fun B hB => hB⟩⟩⟩
  ·unfold zel; rw [if_neg (by rw [hin]; simp)]; exact hq
  ·unfold zel; rw [if_neg (by rw [hin]; simp)]
   refine YP.fun_eq hT ?_
   funext j
   unfold upd1; split
   ·rename_i e; rw [e]
   ·rfl
theorem atS_mem {l : List Nt} {k : Int} (h : (atS l k).2 = true) : (atS l k).1 ∈ l := by
 have hin := atS_in h
 unfold atS
 rw [if_pos hin]
 exact List.mem_of_getElem? (nts_get (l := l) (k := k.toNat) (by omega))
theorem zgV (H : YCode P) (hY : YP F y s h) (hl : s.l.length ≤ 900000) (hN : NOK s) (k : Int) (keep : Bool) (hK : ∀ h', YP F y (zaN s k keep) h' → FrY F h h' → K (bv (atS s.l k).2) h') : zcl (Env P) "(*roundhouse/yard.Yard).Deliver" [pv y 0, iv k, bv keep] K h := by
 obtain ⟨q, hq, hY⟩ := hY
 by_cases hack : (atS s.l k).2 = true → (atS s.l k).1.a = true
 ·refine glueA (ex := [iv k, bv keep]) (V := bv (atS s.l k).2) (x' := (ackS s.x s.l k keep).1) (l' := (ackS s.x s.l k keep).2) hY rfl rfl (fun m o ho => ⟨_, YDeliverAC H.h_yard_Yard_Deliver H.h_yard_row_head_Note_at H.h_yard_row_head_Note_drop H.h_head_Head_Heard s.x.p s.x.w s.x.hd s.x.e s.x.s s.n m s.l o ho hl k keep hack, ?_⟩) (fun h' hT => hK h' ?_)
  ·rintro v h' ⟨rfl, hp⟩
   exact ⟨rfl, hp⟩
  ·have : zaN s k keep = { s with x := (ackS s.x s.l k keep).1, l := (ackS s.x s.l k keep).2 } := by
    unfold zaN ackS
    by_cases hf : (atS s.l k).2 = true
    ·rw [if_pos hf, if_pos hf, if_pos (hack hf)]; rfl
    ·rw [if_neg hf, if_neg hf]
   rw [this]
   exact YP.of hq hT
 ·have hf : (atS s.l k).2 = true := Decidable.byContradiction fun e => hack fun q => absurd q e
  have ha : (atS s.l k).1.a = false := by
   cases e : (atS s.l k).1.a with
   | true => exact absurd (fun _ => e) hack
   | false => rfl
  obtain ⟨hu0, hun⟩ := hN _ (atS_mem hf) ha
  obtain ⟨i, hi⟩ : ∃ i : Nat, (atS s.l k).1.u = (i : Nat) := ⟨(atS s.l k).1.u.toNat, by omega⟩
  have hin : i < s.n := by omega
  have hd : ∀ ld, zcY (s.us i).p (s.us i).is (s.us i).b s.l k keep = ld → ld = (uhS (s.us i).p (s.us i).is (s.us i).b (atS s.l k).1, zdM s.l k keep ++ [ackN (atS s.l k).1.u (s.us i).b (uhS (s.us i).p (s.us i).is (s.us i).b (atS s.l k).1)]) := by
   rintro ld rfl
   unfold zcY; rw [if_pos hf]; rfl
  have hds : zaN s k keep = { s with us := zdh s.us i (zfd (s.us i) (atS s.l k).1), l := zdM s.l k keep ++ [ackN (atS s.l k).1.u (s.us i).b (uhS (s.us i).p (s.us i).is (s.us i).b (atS s.l k).1)] } := by
   unfold zaN
   rw [if_pos hf, if_neg (by rw [ha]; simp), show (atS s.l k).1.u.toNat = i by omega]
  -- the capacity of the new wheel is not known ahead: one contract, its answers by cases
  have key := fun m o ho h16 => YDeliverBC H.h_yard_Yard_Deliver H.h_yard_row_head_Note_at H.h_yard_row_head_Note_drop H.h_yard_row_yard_unit_at H.h_yard_unit_hear H.h_yard_unit_version H.h_plane_Plane_Version H.h_yard_unit_load H.h_plane_Plane_Load H.h_plane_maybe_api_Pool_lay H.h_wheel_Make H.h_wheel_spun H.h_sip_Words H.h_sip_Of H.h_sip_number_byte H.h_sip_state_take H.h_sip_state_rounds H.h_sip_state_round H.h_math_bits_RotateLeft64 H.h_pool_Apply H.h_pool_may H.h_pool_held H.h_pool_fits H.h_pool_Check H.h_pool_placed H.h_cookie_Next H.h_yard_row_head_Note_put H.h_head_Head_Heard s.n m i h16 hin s.l o ho hl (s.us i).p (s.us i).is (s.us i).nr (s.us i).b (q i) k keep (fun _ => ⟨ha, hi⟩) (atS s.l k).1 rfl
  refine glueB2 (i := i) (u' := fun c => (zfd (s.us i) (atS s.l k).1).u c) (ok := fun c => (uhS (s.us i).p (s.us i).is (s.us i).b (atS s.l k).1).2 = true → c.isSome = true) (l' := zdM s.l k keep ++ [ackN (atS s.l k).1.u (s.us i).b (uhS (s.us i).p (s.us i).is (s.us i).b (atS s.l k).1)]) (ex := [iv k, bv keep]) (V := bv (atS s.l k).2) hin hY rfl rfl (fun m o ho h16 => ⟨_, key m o ho h16, ?_⟩) (fun c hc h' hT => hK h' ?_)
  ·rintro v h' ⟨rfl, ld, e1, e2, o', X, kl, kw, qw, T, G⟩
   have hdd := hd _ rfl
   rw [hdd] at G e1 e2
   refine ⟨rfl, qw, ?_, o', X, kl, kw, T, ⟨G.ok, G.gone, G.eq, G.way, G.ne, ?_⟩⟩
   ·intro his
    rcases G.whl with ⟨hld, _, hqw⟩ | ⟨j, c, B, _, _, hqw, _, _⟩
    ·have := e1 hld
     simp only at this
     rw [this] at his
     rw [hqw]; exact hq i hin his
    ·rw [hqw]; rfl
   ·rcases G.whl with ⟨hld, hkw, hqw⟩ | ⟨j, c, B, hld, hkw, hqw, hT, hB⟩
    ·refine .inl ⟨hkw, fun B hB => ?_⟩
     have e1 := e1 hld
     simp only at e1
     subst hqw
     unfold whB at hB ⊢
     simp only [UP.u, zfd, e1] at hB ⊢
     exact hB
    ·refine .inr ⟨j, B, hkw, hT, ?_⟩
     subst hqw
     unfold whB
     simp only [UP.u, zfd]
     exact hB
  ·rw [hds]
   refine ⟨fun j => if j = i then c else q j, ?_, ?_⟩
   ·intro j hj his
    simp only [zdh] at his
    by_cases e : j = i
    ·rw [if_pos e] at his; simp only [e, if_true]; exact hc his
    ·rw [if_neg e] at his; simp only [e, if_false]; exact hq j hj his
   ·refine YP.fun_eq hT ?_
    funext j
    unfold upd1 zdh
    by_cases e : j = i <;> simp [e]
end
end Go.Rh

namespace Go.Rh
section
variable {C : qW} {un : Nat → Nat → Bool} {K : St → Prop} {L : List (Nat × Value)} {h : List Blk} {i nid : Nat} {log : List Foot}
theorem d_mkF {d : Nat} {op : IOp} {r : List ICell} {v : Value} {B : Blk} (hm : op.makes = true) (hs : zQ op (evf (reg L)) (hf h) nid = some (v, .push B)) (hg : h[nid]? = some .gone) (hfit : fits un ⟨i, [], [nid], none⟩ log)
  (hk : GD C un (i + 1) (nid + 1) r (⟨i, [], [nid], none⟩ :: log) K ⟨reg ((d, v) :: L), h.set nid B⟩) : GD C un i nid (⟨some d, op, none⟩ :: r) log K ⟨reg L, h⟩ := by
 refine ⟨?_⟩
 show za8 C un ⟨i, nid, ⟨some d, op, none⟩⟩ log (fun log' s' => wpD C un (zbA (i + 1) (if op.makes then nid + 1 else nid) r) log' K s') ⟨reg L, h⟩
 have hsp : qC op = 0 := by cases op <;> first | rfl | cases hm
 have hrd : rdE op (evf (reg L)) = [] := by unfold rdE; rw [ziq hm]; rfl
 refine (zaZ (fun _ => hsp)).2 ⟨⟨i, [], [nid], none⟩, ⟨zas (reg L) (some d) v, h.set nid B⟩, ?_, hfit, ?_⟩
 ·simp [ziB, gJ, zb0, hs, hrd, hg]
 ·have hk := hk.out
  simp only [hm, if_true]
  exact hk
theorem d_callF {d : Nat} {g : String} {args : List Opd} {r : List ICell} {R : zdX} (sel : List Nat) (h1 : List Blk) (a1 : List Value) (hC : C g a1 h1 R) (hl : h1.length = sel.length) (ha : a1.map (zbw (rho sel h.length)) = args.map (evf (reg L)))
  (hs : ∀ (i k : Nat) b1, sel[i]? = some k → h1[i]? = some b1 → ∃ b, h[k]? = some b ∧ Blk.view (zaR (rho sel h.length) b1) b)
  (hd : ∀ (i j k : Nat) b1, i ≠ j → sel[i]? = some k → sel[j]? = some k → h1[i]? = some b1 → b1.rw = false)
  (hfit : fits un ⟨i, sel, zcL sel h1, some h.length⟩ log) (hx : ∃ v h1', R v h1' ∧ sel.length ≤ h1'.length ∧ zcI h1 h1')
  (hK : ∀ v h1', R v h1' → zee h1 h1' ∧ GD C un (i + 1) nid r (⟨i, sel, zcL sel h1, some h.length⟩ :: log) K ⟨reg ((d, zbw (rho sel h.length) v) :: L), zdK h sel h1' (rho sel h.length)⟩) : GD C un i nid (⟨some d, .call g args, none⟩ :: r) log K ⟨reg L, h⟩ :=
 ⟨⟨sel, h1, a1, R, hC, hl, ha, hs, hd, hfit, fun _ => hx, fun v h1' hR _ _ => ⟨(hK v h1' hR).1, (hK v h1' hR).2.out⟩⟩⟩
end
theorem ptrs_succ (k : Nat) (f : Nat → Nat) : zaY k f ++ [pv (f k) 0] = zaY (k + 1) f := by
 simp [zaY, List.range_succ]
theorem putUC {P : Program} (hc : zbc P) (k : Nat) (hk : k ≤ 1000) (f : Nat → Nat) (ro : Option Nat) (ho : ro = none → k = 0) (w : Value) (T : List Blk) :
  Env P "(*roundhouse/yard.row[*roundhouse/yard.unit]).put" [pv 0 1, sv 2 0 1 1] ([cw [pv 3 0, slV 1 k ro, w], pB k f ro, cw [pv (f k) 0], cr []] ++ T)
   (fun v h' => v = .tuple #[] ∧ ∃ m, (ro.isSome = true ∧ h' = [cw [pv 3 0, slV 1 (k + 1) (some m), w], pB (k + 1) f (some m), cw [pv (f k) 0], cr []] ++ T) ∨ h' = [cw [pv 3 0, slV (4 + T.length) (k + 1) (some m), w], pB k f ro, cw [pv (f k) 0], cr []] ++ T ++ [pB (k + 1) f (some m)]) := by
 refine Env.by2 hc ?_
 unfold zbD
 show GC _ _ _ _ ⟨reg [(0, pv 0 1), (1, sv 2 0 1 1)], [cw [pv 3 0, slV 1 k ro, w], pB k f ro, cw [pv (f k) 0], cr []] ++ T⟩
 refine z0 (o_d 6 [(9, sv 2 0 1 1), (8, slV 1 k ro), (7, pv 0 1), (6, pv 0 1), (5, pv 0 1), (4, pv 0 1)] (by kernel_rfl) (zhy (k := 1) (n := k) (o := ro) (q := 1) (cs := zaY k f) (xs := [pv (f k) 0]) (cs2 := zaY (k + 1) f) (zl := [.pointer none]) rfl rfl rfl (fun m q => by subst q; rfl) (fun q => by have := ho q; subst this; exact ⟨rfl, rfl⟩) (by simp [zaY]) rfl rfl (zbF rfl rfl (by simp)) rfl (by omega) (by omega) (ptrs_succ k f) (fun m q => ?_) (fun m => ?_)))
 ·subst q
  exact o_b 3 [(12, pv 0 1), (11, pv 0 1)] ([cw [pv 3 0, slV 1 (k + 1) (some m), w], pB (k + 1) f (some m), cw [pv (f k) 0], cr []] ++ T) (by kernel_rfl) (zF ⟨trivial, _, .inl rfl, [], rfl, z1, rfl, m, .inl ⟨rfl, rfl⟩⟩)
 ·have hl : ([cw [pv 3 0, slV 1 k ro, w], pB k f ro, cw [pv (f k) 0], cr []] ++ T).length = 4 + T.length := by simp; omega
  rw [hl]
  exact o_b 3 [(12, pv 0 1), (11, pv 0 1)] ([cw [pv 3 0, slV (4 + T.length) (k + 1) (some m), w], pB k f ro, cw [pv (f k) 0], cr []] ++ T ++ [pB (k + 1) f (some m)]) (by kernel_rfl) (zF ⟨trivial, _, .inl rfl, [], rfl, z1, rfl, m, .inr rfl⟩)
def u00 : US := ⟨zH, false, 0, nr0, none⟩
def nyS (p : qO) (n : Nat) : YS := ⟨n, newHS p (n : Nat), fun _ => ⟨zH, false, 0, nr0⟩, []⟩
def YHn (k : Nat) (x : HS) (h : List Blk) : Prop := ∃ ro pl, YH k ro x (fun _ => u00) [] none pl h ∧ pl 0 = 0
theorem zfZ {h T : List Blk} {k : Nat} {b : Blk} (hb : h[k]? = some b) : (h ++ T)[k]? = some b := by
 rw [List.getElem?_append_left (zJ hb)]; exact hb
theorem zhz {h T : List Blk} (j : Nat) : (h ++ T)[h.length + j]? = T[j]? := by
 rw [List.getElem?_append_right (Nat.le_add_right _ _), Nat.add_sub_cancel_left]
theorem YH.more {k : Nat} {ro : Option Nat} {x : HS} {us : Nat → US} {l : List Nt} {o : Gr} {pl : Nat → Nat} {h : List Blk} (Y : YH k ro x us l o pl h) (T : List Blk) : YH k ro x us l o pl (h ++ T) :=
 ⟨Y.inj, Y.ro0, zfZ Y.y, zfZ Y.hd, zfZ Y.hc, zfZ Y.hm, zfZ Y.ur, zfZ Y.way, Y.ok, fun j hj => zfZ (Y.un j hj), fun j hj => zfZ (Y.pn j hj), fun j hj => zfZ (Y.ch j hj), fun j hj => let ⟨B, h1, h2⟩ := Y.wh j hj; ⟨B, zfZ h1, h2⟩⟩
theorem YH.grow {k : Nat} {ro : Option Nat} {x : HS} {pl : Nat → Nat} {h h' : List Blk} (Y : YH k ro x (fun _ => u00) [] none pl h) (hp : pl 0 = 0) (ku m : Nat) (f : Nat → Nat) (N : Nat) (hN : N = h.length)
  (hf : ∀ j, j < k → f j = pl (6 + 4 * j)) (hfk : f k = N + 1) (hku : ku = pl 4 ∨ N + 4 ≤ ku)
  (e0 : h'[pl 0]? = some (cw (zY (pl 1) (slV ku (k + 1) (some m)) (gV (pl 5) 0 none))))
  (e4 : h'[ku]? = some (pB (k + 1) f (some m)))
  (ek : ∀ a, a < 6 + 4 * k → a ≠ 0 → a ≠ 4 → h'[pl a]? = h[pl a]?)
  (e1 : h'[N]? = some (.chan 1 (([] : List Nt).map ntE))) (e2 : h'[N + 1]? = some (cw (z5 (N + 3) zH 0 N))) (e3 : ∃ c rw, h'[N + 2]? = some (.cells c rw)) (e5 : h'[N + 3]? = some (cw (zK zH false nr0 (.slice none 0 0)))) : YHn (k + 1) x h' := by
 subst hN
 have hlt : ∀ a, a < 6 + 4 * k → pl a < h.length := fun a ha => Y.lt ha
 let P2 : Nat → Nat := fun a => if a = 4 then ku else if a < 6 + 4 * k then pl a else if a = 6 + 4 * k then h.length + 1 else if a = 7 + 4 * k then h.length + 3 else if a = 8 + 4 * k then h.length else h.length + 2
 have q4 : P2 4 = ku := if_pos rfl
 have q1 : ∀ a, a ≠ 4 → a < 6 + 4 * k → P2 a = pl a := fun a h4 ha => by
  show (if a = 4 then _ else _) = _
  rw [if_neg h4, if_pos ha]
 have q6 : P2 (6 + 4 * k) = h.length + 1 := by
  show (if 6 + 4 * k = 4 then _ else _) = _
  rw [if_neg (by omega), if_neg (by omega), if_pos rfl]
 have q7 : P2 (7 + 4 * k) = h.length + 3 := by
  show (if 7 + 4 * k = 4 then _ else _) = _
  rw [if_neg (by omega), if_neg (by omega), if_neg (by omega), if_pos rfl]
 have q8 : P2 (8 + 4 * k) = h.length := by
  show (if 8 + 4 * k = 4 then _ else _) = _
  rw [if_neg (by omega), if_neg (by omega), if_neg (by omega), if_neg (by omega), if_pos rfl]
 have q9 : P2 (9 + 4 * k) = h.length + 2 := by
  show (if 9 + 4 * k = 4 then _ else _) = _
  rw [if_neg (by omega), if_neg (by omega), if_neg (by omega), if_neg (by omega), if_neg (by omega)]
 refine ⟨some m, P2, ⟨?_, (fun e => by cases e), ?_, ?_, ?_, ?_, ?_, ?_, rfl, ?_, ?_, ?_, ?_⟩, by rw [q1 0 (by omega) (by omega)]; exact hp⟩
 ·intro a b ha hb e
  have key : ∀ a, a < 6 + 4 * (k + 1) → (a ≠ 4 ∧ a < 6 + 4 * k ∧ P2 a = pl a ∧ P2 a < h.length ∧ (a ≠ 4 → pl a ≠ pl 4)) ∨ (a = 4 ∧ P2 a = ku) ∨ (a = 6 + 4 * k ∧ P2 a = h.length + 1) ∨ (a = 7 + 4 * k ∧ P2 a = h.length + 3) ∨ (a = 8 + 4 * k ∧ P2 a = h.length) ∨ (a = 9 + 4 * k ∧ P2 a = h.length + 2) := fun a ha => by
   by_cases h4 : a = 4
   ·subst h4; exact .inr (.inl ⟨rfl, q4⟩)
   by_cases h6 : a < 6 + 4 * k
   ·exact .inl ⟨h4, h6, q1 a h4 h6, by rw [q1 a h4 h6]; exact hlt a h6, fun h4 e => h4 (Y.inj a 4 h6 (by omega) e)⟩
   have : a = 6 + 4 * k ∨ a = 7 + 4 * k ∨ a = 8 + 4 * k ∨ a = 9 + 4 * k := by omega
   rcases this with rfl | rfl | rfl | rfl
   ·exact .inr (.inr (.inl ⟨rfl, q6⟩))
   ·exact .inr (.inr (.inr (.inl ⟨rfl, q7⟩)))
   ·exact .inr (.inr (.inr (.inr (.inl ⟨rfl, q8⟩))))
   ·exact .inr (.inr (.inr (.inr (.inr ⟨rfl, q9⟩))))
  have ka := key a ha
  have kb := key b hb
  have l4 := hlt 4 (by omega)
  rcases ka with ⟨a1, a2, a3, a4, a5⟩ | ⟨a1, a2⟩ | ⟨a1, a2⟩ | ⟨a1, a2⟩ | ⟨a1, a2⟩ | ⟨a1, a2⟩ <;> rcases kb with ⟨b1, b2, b3, b4, b5⟩ | ⟨b1, b2⟩ | ⟨b1, b2⟩ | ⟨b1, b2⟩ | ⟨b1, b2⟩ | ⟨b1, b2⟩ <;> first | omega | exact Y.inj a b a2 b2 (a3.symm.trans (e.trans b3)) | skip
  all_goals
   rcases hku with hku | hku
   ·first
     | exact absurd (a3.symm.trans (e.trans (b2.trans hku))) (a5 a1)
     | exact absurd (b3.symm.trans (e.symm.trans (a2.trans hku))) (b5 b1)
   ·omega
 ·rw [q1 0 (by omega) (by omega), q1 1 (by omega) (by omega), q4, q1 5 (by omega) (by omega)]; exact e0
 ·rw [q1 1 (by omega) (by omega), q1 2 (by omega) (by omega), q1 3 (by omega) (by omega), ek 1 (by omega) (by omega) (by omega)]; exact Y.hd
 ·rw [q1 2 (by omega) (by omega), ek 2 (by omega) (by omega) (by omega)]; exact Y.hc
 ·rw [q1 3 (by omega) (by omega), ek 3 (by omega) (by omega) (by omega)]; exact Y.hm
 ·rw [q4, e4]
  unfold pB
  have : zaY (k + 1) f = zaY (k + 1) (fun j => P2 (6 + 4 * j)) := by
   unfold zaY
   refine List.map_congr_left fun j hj => ?_
   have hj := List.mem_range.1 hj
   show pv (f j) 0 = pv (P2 (6 + 4 * j)) 0
   by_cases hjk : j = k
   ·subst hjk; rw [hfk, q6]
   ·rw [hf j (by omega), q1 _ (by omega) (by omega)]
  rw [this]
 ·rw [q1 5 (by omega) (by omega), ek 5 (by omega) (by omega) (by omega)]; exact Y.way
 ·intro j hj
  by_cases hjk : j = k
  ·subst hjk; rw [q6, q7, q8]; exact e2
  ·rw [q1 _ (by omega) (by omega), q1 _ (by omega) (by omega), q1 _ (by omega) (by omega), ek _ (by omega) (by omega) (by omega)]; exact Y.un j (by omega)
 ·intro j hj
  by_cases hjk : j = k
  ·subst hjk; rw [q7, q9]; exact e5
  ·rw [q1 _ (by omega) (by omega), q1 _ (by omega) (by omega), ek _ (by omega) (by omega) (by omega)]; exact Y.pn j (by omega)
 ·intro j hj
  by_cases hjk : j = k
  ·subst hjk; rw [q8]; exact e1
  ·rw [q1 _ (by omega) (by omega), ek _ (by omega) (by omega) (by omega)]; exact Y.ch j (by omega)
 ·intro j hj
  by_cases hjk : j = k
  ·subst hjk; rw [q9]
   obtain ⟨c, rw, e3⟩ := e3
   exact ⟨_, e3, ⟨c, rw, rfl⟩⟩
  ·rw [q1 _ (by omega) (by omega), ek _ (by omega) (by omega) (by omega)]; exact Y.wh j (by omega)
theorem back_nil {h h1 : List Blk} {ρ : Nat → Nat} : zdK h [] h1 ρ = h ++ h1.map (zaR ρ) := by
 unfold zdK
 have : (h.mapIdx fun k b => match zeB k [] h1 with | some b' => zaR ρ b' | none => b) = h := by
  refine List.ext_getElem? fun k => ?_
  simp [List.getElem?_mapIdx, zeB]
 exact congrArg (· ++ h1.map (zaR ρ)) this
theorem set_new {h T : List Blk} {j : Nat} {b : Blk} : (h ++ T).set (h.length + j) b = h ++ T.set j b := by
 rw [List.set_append_right _ _ (Nat.le_add_right _ _), Nat.add_sub_cancel_left]
theorem pl_nodup {k : Nat} {ro : Option Nat} {x : HS} {us : Nat → US} {l : List Nt} {o : Gr} {pl : Nat → Nat} {h : List Blk} (Y : YH k ro x us l o pl h) {a b : Nat} (ha : a < 6 + 4 * k) (hb : b < 6 + 4 * k) (hab : a ≠ b) : pl a ≠ pl b := fun e => hab (Y.inj a b ha hb e)
theorem new_body {P : Program} (H : YCode P) {B : Nat} {Q : IExit → St → Prop} {k : Nat} {x : HS} {h : List Blk} {v a c : Value} (hk : k < 16) (hY : YHn k x h)
    (hQ : ∀ h' v27 v28 v29 v30 v31 v32, YHn (k + 1) x h' → h.length ≤ h'.length → Q .normal ⟨reg [(32, v32), (31, v31), (30, v30), (29, v29), (28, v28), (27, v27), (26, pv 0 1), (25, pv 0 0), (24, pv 0 0), (23, v), (22, a), (21, c), (8, pv 0 0)], h'⟩) :
    GC (Env P) B (.dreg [⟨(some 24), .mv (.t 8), none⟩, ⟨(some 25), .nilc (.t 24), none⟩, ⟨(some 26), .fad 1 (.t 25), none⟩, ⟨(some 27), .call "roundhouse/plane.New" [], none⟩, ⟨(some 28), .mkc 1, none⟩, ⟨(some 29), .bld [(1, .pointer none), (324, (.int .i64 0)), (6, (.int .u64 0)), (1, (.int .i64 0)), (1, (.chan none))] [(0, 1, (.t 27)), (332, 1, (.t 28))], none⟩, ⟨(some 30), .box (.t 29), none⟩, ⟨(some 31), .bsl [(1, .pointer none)] 1 1 [(0, 1, (.t 30))], none⟩, ⟨(some 32), .call "(*roundhouse/yard.row[*roundhouse/yard.unit]).put" [(.t 26), (.t 31)], none⟩] [[], [0], [1, 0], [], [], [3, 4], [5, 3, 4], [6, 5, 3, 4], [2, 1, 0, 7, 6, 5, 3, 4]]) Q ⟨reg [(23, v), (22, a), (21, c), (8, pv 0 0)], h⟩ := by
  obtain ⟨ro, pl, Y, hp⟩ := hY
  refine zbq (h ++ [.gone, .gone, .gone]) rfl (d_n 3 3 h.length [(26, pv 0 1), (25, pv 0 0), (24, pv 0 0)] (h ++ [.gone, .gone, .gone]) [] (by kernel_rfl) rfl rfl (d_callF [] [] [] (PNewC H.h_plane_New) rfl rfl (fun i k b1 e => by simp at e) (fun i j k b1 _ e => by simp at e) (fun y hy => by cases hy) ⟨_, _, ⟨rfl, rfl⟩, Nat.zero_le _, za0 [] [_]⟩ ?_))
  rintro v1 h1' ⟨rfl, rfl⟩
  refine ⟨z4, ?_⟩
  have hlen : (h ++ [Blk.gone, .gone, .gone]).length = h.length + 3 := by simp
  rw [back_nil, hlen, List.append_assoc]
  have e1 : zbw (rho [] (h.length + 3)) (pv 0 0) = pv (h.length + 3) 0 := rfl
  have e2 : [cw (zK zH false nr0 (.slice none 0 0))].map (zaR (rho [] (h.length + 3))) = [cw (zK zH false nr0 (.slice none 0 0))] := by
    simp only [List.map_cons, List.map_nil]; rw [zbb (w' := .slice none 0 0) rfl]
  rw [e1, e2]
  refine d_mkF (B := .chan 1 (([] : List Nt).map ntE)) (v := .chan (some h.length)) rfl rfl (zhz 0) ?_ ?_
  · intro y hy
    rcases List.mem_cons.1 hy with rfl | hy
    · refine .inl ⟨fun k hk => ?_, fun k _ => by simp, ?_, trivial⟩
      · simp [zcL] at hk
      · intro k hk; simp at hk; omega
    · cases hy
  rw [show (h ++ ([Blk.gone, .gone, .gone] ++ [cw (zK zH false nr0 (.slice none 0 0))])).set h.length (.chan 1 (([] : List Nt).map ntE)) = h ++ [.chan 1 (([] : List Nt).map ntE), .gone, .gone, cw (zK zH false nr0 (.slice none 0 0))] from set_new (j := 0)]
  refine d_s rfl rfl rfl (by kernel_rfl) (by refine zck (c := z5 (h.length + 3) zH 0 h.length) ?_; exact bld_unit _ _) ?_
  refine d_mkF (B := cw (z5 (h.length + 3) zH 0 h.length)) (v := pv (h.length + 1) 0) rfl rfl (zhz 1) (fun y hy => .inr ?_) ?_
  · rcases List.mem_cons.1 hy with rfl | hy
    · rfl
    · rcases List.mem_cons.1 hy with rfl | hy
      · rfl
      · cases hy
  rw [set_new (j := 1)]
  refine d_mkF (B := cw [pv (h.length + 1) 0]) (v := sv (h.length + 2) 0 1 1) rfl rfl (zhz 2) (fun y hy => .inr ?_) ?_
  · rcases List.mem_cons.1 hy with rfl | hy
    · rfl
    · rcases List.mem_cons.1 hy with rfl | hy
      · rfl
      · rcases List.mem_cons.1 hy with rfl | hy
        · rfl
        · cases hy
  rw [set_new (j := 2)]
  show GD _ _ _ _ _ _ _ ⟨_, h ++ [.chan 1 (([] : List Nt).map ntE), cw (z5 (h.length + 3) zH 0 h.length), cw [pv (h.length + 1) 0], cw (zK zH false nr0 (.slice none 0 0))]⟩
  generalize hh5 : h ++ [.chan 1 (([] : List Nt).map ntE), cw (z5 (h.length + 3) zH 0 h.length), cw [pv (h.length + 1) 0], cw (zK zH false nr0 (.slice none 0 0))] = h5
  have n0_ : h5[h.length]? = some (.chan 1 (([] : List Nt).map ntE)) := by rw [← hh5]; exact zhz 0
  have n1_ : h5[h.length + 1]? = some (cw (z5 (h.length + 3) zH 0 h.length)) := by rw [← hh5]; exact zhz 1
  have n2_ : h5[h.length + 2]? = some (cw [pv (h.length + 1) 0]) := by rw [← hh5]; exact zhz 2
  have n3_ : h5[h.length + 3]? = some (cw (zK zH false nr0 (.slice none 0 0))) := by rw [← hh5]; exact zhz 3
  have Y5 : YH k ro x (fun _ => u00) [] none pl h5 := hh5 ▸ Y.more _
  have hl5 : h5.length = h.length + 4 := by rw [← hh5]; simp
  have hlt : ∀ a, a < 6 + 4 * k → pl a < h.length := fun a ha => Y.lt ha
  -- the callee's zhx: 0 the yard, 1 the row, 2 the new pointer, 3 the head, 4 + j the units
  let sel : List Nat := [pl 0, pl 4, h.length + 2, pl 1] ++ (List.range (k + 1)).map fun j => if j < k then pl (6 + 4 * j) else h.length + 1
  have hsl : sel.length = 4 + (k + 1) := by simp [sel]; omega
  have hs4 : ∀ j, j < k + 1 → sel[4 + j]? = some (if j < k then pl (6 + 4 * j) else h.length + 1) := fun j hj => by
    show ([pl 0, pl 4, h.length + 2, pl 1] ++ (List.range (k + 1)).map fun j => if j < k then pl (6 + 4 * j) else h.length + 1)[4 + j]? = _
    rw [List.getElem?_append_right (by simp)]
    simp [hj]
  have hsi : ∀ (t q : Nat), sel[t]? = some q → (t = 0 ∧ q = pl 0) ∨ (t = 1 ∧ q = pl 4) ∨ (t = 2 ∧ q = h.length + 2) ∨ (t = 3 ∧ q = pl 1) ∨ ∃ j, j < k + 1 ∧ t = 4 + j ∧ q = if j < k then pl (6 + 4 * j) else h.length + 1 := fun t q e => by
    rcases Nat.lt_or_ge t 4 with h4 | h4
    · match t, h4 with
      | 0, _ => exact .inl ⟨rfl, (Option.some.inj e).symm⟩
      | 1, _ => exact .inr (.inl ⟨rfl, (Option.some.inj e).symm⟩)
      | 2, _ => exact .inr (.inr (.inl ⟨rfl, (Option.some.inj e).symm⟩))
      | 3, _ => exact .inr (.inr (.inr (.inl ⟨rfl, (Option.some.inj e).symm⟩)))
    · obtain ⟨j, rfl⟩ : ∃ j, t = 4 + j := ⟨t - 4, by omega⟩
      have hj : j < k + 1 := by have := zJ e; omega
      rw [hs4 j hj] at e
      exact .inr (.inr (.inr (.inr ⟨j, hj, rfl, (Option.some.inj e).symm⟩)))
  have hinj : ∀ (t t' q : Nat), sel[t]? = some q → sel[t']? = some q → t = t' := fun t t' q e1 e2 => by
    have nd := fun a b ha hb hab => pl_nodup Y (a := a) (b := b) ha hb hab
    have l0 := hlt 0 (by omega)
    have l1 := hlt 1 (by omega)
    have l4 := hlt 4 (by omega)
    rcases hsi t q e1 with ⟨a1, a2⟩ | ⟨a1, a2⟩ | ⟨a1, a2⟩ | ⟨a1, a2⟩ | ⟨j, hj, a1, a2⟩ <;> rcases hsi t' q e2 with ⟨b1, b2⟩ | ⟨b1, b2⟩ | ⟨b1, b2⟩ | ⟨b1, b2⟩ | ⟨j', hj', b1, b2⟩
    all_goals first
      | omega
      | exact absurd (a2.symm.trans b2) (nd _ _ (by omega) (by omega) (by omega))
      | skip
    all_goals first
      | (split at a2
         · have := hlt (6 + 4 * j) (by omega)
           first | omega | exact absurd (a2.symm.trans b2) (nd _ _ (by omega) (by omega) (by omega))
         · omega)
      | (split at b2
         · have := hlt (6 + 4 * j') (by omega)
           first | omega | exact absurd (a2.symm.trans b2) (nd _ _ (by omega) (by omega) (by omega))
         · omega)
      | skip
    split at a2 <;> split at b2
    · by_cases hjj : j = j'
      · omega
      · exact absurd (a2.symm.trans b2) (nd _ _ (by omega) (by omega) (by omega))
    · have := hlt (6 + 4 * j) (by omega); omega
    · have := hlt (6 + 4 * j') (by omega); omega
    · omega
  have hρ : ∀ (t q : Nat), sel[t]? = some q → rho sel h5.length t = q := fun t q e => zc1 e
  have hptr : ∀ j, j < k + 1 → rho sel h5.length (4 + j) = if j < k then pl (6 + 4 * j) else h.length + 1 := fun j hj => hρ _ _ (hs4 j hj)
  have hpk : rho sel h5.length (4 + k) = h.length + 1 := by rw [hptr k (by omega), if_neg (by omega)]
  refine d_callF sel ([cw [pv 3 0, slV 1 k ro, .slice none 0 0], pB k (fun j => 4 + j) ro, cw [pv (4 + k) 0], cr []] ++ List.replicate (k + 1) (cr [])) [pv 0 1, sv 2 0 1 1] (putUC H.h_yard_row_yard_unit_put k (by omega) (fun j => 4 + j) ro Y.ro0 (.slice none 0 0) _) ?_ ?_ ?_ (fun t t' q b1 htt e1 e2 _ => absurd (hinj t t' q e1 e2) htt) (fun y hy => .inr ?_) ?_ ?_
  · rw [hsl]; simp; omega
  · refine zan ?_ (zan ?_ rfl)
    · show pv (rho sel h5.length 0) 1 = pv 0 1
      rw [hρ 0 (pl 0) rfl, hp]
    · show sv (rho sel h5.length 2) 0 1 1 = sv (h.length + 2) 0 1 1
      rw [hρ 2 (h.length + 2) rfl]
  · intro t q b1 e1 e2
    rcases hsi t q e1 with ⟨rfl, rfl⟩ | ⟨rfl, rfl⟩ | ⟨rfl, rfl⟩ | ⟨rfl, rfl⟩ | ⟨j, hj, rfl, rfl⟩
    · cases e2
      refine ⟨_, Y5.y, .inl (.inl ?_)⟩
      show Blk.seen (zaR _ (.cells (zY 3 (slV 1 k ro) (.slice none 0 0)) true)) _
      exact zao (hρ 3 (pl 1) rfl) (qN ro (hρ 1 (pl 4) rfl)) rfl (fun q => q)
    · cases e2
      refine ⟨_, Y5.ur, .inl ?_⟩
      unfold pB
      cases ro with
      | none => exact .inr ⟨rfl, rfl⟩
      | some m =>
        refine .inl ?_
        show Blk.seen (zaR _ (.cells (zaY k (fun j => 4 + j) ++ zbe m) true)) (.cells (zaY k (fun j => pl (6 + 4 * j)) ++ zbe m) true)
        rw [zfF fun j hj => (hptr j (by omega)).trans (if_pos hj)]; exact ⟨rfl, fun q => q⟩
    · cases e2
      refine ⟨_, n2_, .inl (.inl ⟨?_, fun q => q⟩)⟩
      show [pv (rho sel h5.length (4 + k)) 0] = _
      rw [hpk]
    · cases e2; exact ⟨_, Y5.hd, zG⟩
    · have : ([cw [pv 3 0, slV 1 k ro, .slice none 0 0], pB k (fun j => 4 + j) ro, cw [pv (4 + k) 0], cr []] ++ List.replicate (k + 1) (cr []))[4 + j]? = some (cr []) := by
        rw [List.getElem?_append_right (by simp)]
        exact List.getElem?_replicate_of_lt (by simp; omega)
      rw [this] at e2; cases e2
      split
      · rename_i hjk; exact ⟨_, Y5.un j hjk, zG⟩
      · exact ⟨_, n1_, zG⟩
  · rcases List.mem_cons.1 hy with rfl | hy
    · rfl
    · rcases List.mem_cons.1 hy with rfl | hy
      · rfl
      · rcases List.mem_cons.1 hy with rfl | hy
        · rfl
        · rcases List.mem_cons.1 hy with rfl | hy
          · rfl
          · cases hy
  · refine ⟨_, _, ⟨rfl, 0, .inr rfl⟩, by rw [hsl]; simp; omega, ?_⟩
    rw [List.append_assoc]
    exact zfM rfl (za0 ([_, _, _] ++ List.replicate (k + 1) (cr [])) [_])
  · rintro v1 h1' ⟨rfl, m, hw⟩
    have hat : ∀ (j : Nat) {A : List Blk}, A.length = 4 → (A ++ List.replicate (k + 1) (cr []))[4 + j]? = (List.replicate (k + 1) (cr []))[j]? := fun j A hA => by
      rw [List.getElem?_append_right (by omega), hA, Nat.add_sub_cancel_left]
    refine ⟨?_, ?_⟩
    · rcases hw with ⟨hs, rfl⟩ | rfl
      · refine zA qD (zA (fun hg => ?_) (zA qD (zA qD (fun i hi => hi))))
        cases ro with
        | none => cases hs
        | some z => cases hg
      · rw [List.append_assoc]
        refine zA qD (zA (fun hg => hg) (zA qD (zA qD (fun i hi => ?_))))
        have := zJ hi
        simp at this
        show (List.replicate (k + 1) (cr []) ++ [pB (k + 1) (fun j => 4 + j) (some m)])[i]? = _
        rw [List.getElem?_append_left (by simp; omega)]; exact hi
    · refine zbW ?_
      have hkeep : ∀ {h1' : List Blk}, (∀ (t : Nat) b, t ≠ 0 → t ≠ 1 → t ≠ 2 → t < 4 + (k + 1) → h1'[t]? = some b → b.rw = false) → ∀ a, a < 6 + 4 * k → a ≠ 0 → a ≠ 4 → (zdK h5 sel h1' (rho sel h5.length))[pl a]? = h[pl a]? := fun {h1'} hro a ha h0 h4 => by
        rw [zdq (by have := hlt a ha; omega) fun t b e1 e2 => ?_]
        · rw [← hh5]; exact List.getElem?_append_left (hlt a ha)
        · have hlq := hlt a ha
          have htl : t < 4 + (k + 1) := by have := zJ e1; omega
          refine hro t b ?_ ?_ ?_ htl e2
          · rintro rfl; exact pl_nodup Y ha (by omega) h0 (Option.some.inj e1).symm
          · rintro rfl; exact pl_nodup Y ha (by omega) h4 (Option.some.inj e1).symm
          · rintro rfl; have := Option.some.inj e1; omega
      have hkN : ∀ {h1' : List Blk} (q : Nat), (q = h.length ∨ q = h.length + 1 ∨ q = h.length + 3) → (∀ (t : Nat) b, t ≠ 0 → t ≠ 1 → t ≠ 2 → t < 4 + (k + 1) → h1'[t]? = some b → b.rw = false) → (zdK h5 sel h1' (rho sel h5.length))[q]? = h5[q]? := fun {h1'} q hq hro => by
        refine zdq (by omega) fun t b e1 e2 => ?_
        have htl : t < 4 + (k + 1) := by have := zJ e1; omega
        refine hro t b ?_ ?_ ?_ htl e2
        · rintro rfl; have := Option.some.inj e1; have := hlt 0 (by omega); omega
        · rintro rfl; have := Option.some.inj e1; have := hlt 4 (by omega); omega
        · rintro rfl; have := Option.some.inj e1; omega
      have hat2 : ∀ {h1' : List Blk} (t q : Nat) (b : Blk), sel[t]? = some q → h1'[t]? = some b → b.rw = true → (zdK h5 sel h1' (rho sel h5.length))[q]? = some (zaR (rho sel h5.length) b) := fun {h1'} t q b e1 e2 hr => by
        refine ziG ?_ (fun j hj => hinj j t q hj e1) e1 e2 hr
        rcases hsi t q e1 with ⟨_, rfl⟩ | ⟨_, rfl⟩ | ⟨_, rfl⟩ | ⟨_, rfl⟩ | ⟨j, hj, _, rfl⟩
        · have := hlt 0 (by omega); omega
        · have := hlt 4 (by omega); omega
        · omega
        · have := hlt 1 (by omega); omega
        · split
          · have := hlt (6 + 4 * j) (by omega); omega
          · omega
      have hren : zaR (rho sel h5.length) (pB (k + 1) (fun j => 4 + j) (some m)) = pB (k + 1) (fun j => if j < k then pl (6 + 4 * j) else h.length + 1) (some m) := zfF fun j hj => hptr j hj
      have hrow : ∀ {h1' : List Blk}, h1'[2]? = some (cw [pv (4 + k) 0]) → ∃ c rw, (zdK h5 sel h1' (rho sel h5.length))[h.length + 2]? = some (.cells c rw) := fun {h1'} e2 => ⟨_, _, hat2 2 _ _ rfl e2 rfl⟩
      rcases hw with ⟨hs, rfl⟩ | rfl
      · have hro : ∀ (t : Nat) b, t ≠ 0 → t ≠ 1 → t ≠ 2 → t < 4 + (k + 1) → ([cw [pv 3 0, slV 1 (k + 1) (some m), .slice none 0 0], pB (k + 1) (fun j => 4 + j) (some m), cw [pv (4 + k) 0], cr []] ++ List.replicate (k + 1) (cr []))[t]? = some b → b.rw = false := fun t b h0 h1 h2 ht e => by
          by_cases h3 : t = 3
          · subst h3; cases e; rfl
          · obtain ⟨j, rfl⟩ : ∃ j, t = 4 + j := ⟨t - 4, by omega⟩
            rw [hat j rfl, List.getElem?_replicate_of_lt (by omega)] at e
            cases e; rfl
        refine hQ _ _ _ _ _ _ _ (Y.grow hp (pl 4) m (fun j => if j < k then pl (6 + 4 * j) else h.length + 1) h.length rfl (fun j hj => if_pos hj) (if_neg (by omega)) (.inl rfl) ?_ ?_ (hkeep hro) ?_ ?_ (hrow rfl) ?_) (by have := zen (h := h5) (sel := sel) (h1 := [cw [pv 3 0, slV 1 (k + 1) (some m), .slice none 0 0], pB (k + 1) (fun j => 4 + j) (some m), cw [pv (4 + k) 0], cr []] ++ List.replicate (k + 1) (cr [])) (ρ := rho sel h5.length); omega)
        · rw [hat2 0 (pl 0) _ rfl rfl rfl]
          exact congrArg some (zat (kh := 3) (u := slV 1 (k + 1) (some m)) (w := .slice none 0 0) (hρ 3 (pl 1) rfl) (qN _ (hρ 1 (pl 4) rfl)) rfl)
        · rw [hat2 1 (pl 4) _ rfl rfl rfl, hren]
        · rw [hkN _ (.inl rfl) hro]; exact n0_
        · rw [hkN _ (.inr (.inl rfl)) hro]; exact n1_
        · rw [hkN _ (.inr (.inr rfl)) hro]; exact n3_
      · have hTl : (List.replicate (k + 1) (cr [])).length = k + 1 := by simp
        rw [hTl]
        have hro : ∀ (t : Nat) b, t ≠ 0 → t ≠ 1 → t ≠ 2 → t < 4 + (k + 1) → ([cw [pv 3 0, slV (4 + (k + 1)) (k + 1) (some m), .slice none 0 0], pB k (fun j => 4 + j) ro, cw [pv (4 + k) 0], cr []] ++ List.replicate (k + 1) (cr []) ++ [pB (k + 1) (fun j => 4 + j) (some m)])[t]? = some b → b.rw = false := fun t b h0 h1 h2 ht e => by
          rw [List.getElem?_append_left (by simp; omega)] at e
          by_cases h3 : t = 3
          · subst h3; cases e; rfl
          · obtain ⟨j, rfl⟩ : ∃ j, t = 4 + j := ⟨t - 4, by omega⟩
            rw [hat j rfl, List.getElem?_replicate_of_lt (by omega)] at e
            cases e; rfl
        have hρn : rho sel h5.length (4 + (k + 1)) = h.length + 4 := by rw [zgB (by omega), hsl, hl5]; omega
        refine hQ _ _ _ _ _ _ _ (Y.grow hp (h.length + 4) m (fun j => if j < k then pl (6 + 4 * j) else h.length + 1) h.length rfl (fun j hj => if_pos hj) (if_neg (by omega)) (.inr (Nat.le_refl _)) ?_ ?_ (hkeep hro) ?_ ?_ (hrow rfl) ?_) (by have := zen (h := h5) (sel := sel) (h1 := [cw [pv 3 0, slV (4 + (k + 1)) (k + 1) (some m), .slice none 0 0], pB k (fun j => 4 + j) ro, cw [pv (4 + k) 0], cr []] ++ List.replicate (k + 1) (cr []) ++ [pB (k + 1) (fun j => 4 + j) (some m)]) (ρ := rho sel h5.length); omega)
        · rw [hat2 0 (pl 0) _ rfl rfl rfl]
          exact congrArg some (zat (kh := 3) (u := slV (4 + (k + 1)) (k + 1) (some m)) (w := .slice none 0 0) (hρ 3 (pl 1) rfl) (qN _ hρn) rfl)
        · have := back_new (h := h5) (sel := sel) (h1 := [cw [pv 3 0, slV (4 + (k + 1)) (k + 1) (some m), .slice none 0 0], pB k (fun j => 4 + j) ro, cw [pv (4 + k) 0], cr []] ++ List.replicate (k + 1) (cr []) ++ [pB (k + 1) (fun j => 4 + j) (some m)]) (ρ := rho sel h5.length) 0
          rw [hsl, List.getElem?_append_right (by simp; omega)] at this
          rw [show h.length + 4 = h5.length + 0 by omega, this]
          have h0 : 4 + (k + 1) + 0 - ([cw [pv 3 0, slV (4 + (k + 1)) (k + 1) (some m), .slice none 0 0], pB k (fun j => 4 + j) ro, cw [pv (4 + k) 0], cr []] ++ List.replicate (k + 1) (cr [])).length = 0 := by simp; omega
          rw [h0]
          exact congrArg some hren
        · rw [hkN _ (.inl rfl) hro]; exact n0_
        · rw [hkN _ (.inr (.inl rfl)) hro]; exact n1_
        · rw [hkN _ (.inr (.inr rfl)) hro]; exact n3_
end Go.Rh

namespace Go.Rh
theorem HNew0C {P : Program} (hc : zdT P) (p : qO) (units : Int) (hu : units < 1 ∨ 16 < units) :
  Env P "roundhouse/head.New" [qG p, iv units] ([]) (fun v h' => v = .tuple #[.pointer none, iv 14] ∧ h' = []) := by
 have h := HNewC hc p units
 have e : (fun (v : Value) (h' : List Blk) => if units < 1 ∨ 16 < units then v = .tuple #[.pointer none, iv 14] ∧ h' = [] else v = .tuple #[pv 0 0, iv 0] ∧ h' = [cw (zR p 1 2 e0 false), .chan 200 (([] : List Ent).map qH), .map (hdM (List.replicate units.toNat (0, -1)))]) = fun v h' => v = .tuple #[.pointer none, iv 14] ∧ h' = [] := by
  funext v h'; rw [if_pos hu]
 rw [e] at h; exact h
theorem HNew1C {P : Program} (hc : zdT P) (p : qO) (units : Int) (hu : ¬ (units < 1 ∨ 16 < units)) :
  Env P "roundhouse/head.New" [qG p, iv units] ([]) (fun v h' => v = .tuple #[pv 0 0, iv 0] ∧ h' = [cw (zR p 1 2 e0 false), .chan 200 (([] : List Ent).map qH), .map (hdM (List.replicate units.toNat (0, -1)))]) := by
 have h := HNewC hc p units
 have e : (fun (v : Value) (h' : List Blk) => if units < 1 ∨ 16 < units then v = .tuple #[.pointer none, iv 14] ∧ h' = [] else v = .tuple #[pv 0 0, iv 0] ∧ h' = [cw (zR p 1 2 e0 false), .chan 200 (([] : List Ent).map qH), .map (hdM (List.replicate units.toNat (0, -1)))]) = fun v h' => v = .tuple #[pv 0 0, iv 0] ∧ h' = [cw (zR p 1 2 e0 false), .chan 200 (([] : List Ent).map qH), .map (hdM (List.replicate units.toNat (0, -1)))] := by
  funext v h'; rw [if_neg hu]
 rw [e] at h; exact h
theorem YHn.to {n : Nat} {p : qO} {h : List Blk} (h1 : 1 ≤ n) (h16 : n ≤ 16) (hY : YHn n (newHS p (n : Nat)) h) : YP (fun _ => True) 0 (nyS p n) h := by
 obtain ⟨ro, pl, Y, hp⟩ := hY
 cases ro with
 | none => have := Y.ro0 rfl; omega
 | some m => exact ⟨fun _ => none, ⟨fun j _ his => by simp [nyS] at his, ⟨m, none, pl, Y, hp, fun _ _ => trivial, h1, h16, fun _ _ => trivial⟩⟩⟩
theorem YNewC {P : Program} (H : YCode P) (p : qO) (units : Int) :
    Env P "roundhouse/yard.New" [qG p, iv units] ([]) (fun v h' => if units < 1 ∨ 16 < units then v = .tuple #[.pointer none, iv 14] ∧ h' = [] else v = .tuple #[pv 0 0, iv 0] ∧ YP (fun _ => True) 0 (nyS p units.toNat) h') := by
 refine Env.by2 H.h_yard_New ?_
 unfold zhj
 show GC _ 0 _ _ ⟨reg [(0, qG p), (1, iv units)], []⟩
 refine zT (z0 (o_b 3 [(5, iv 0), (4, .pointer none), (2, pv 0 0)] [cw (pl p)] (by kernel_rfl) (zF (zC (zT (z0 (o_s (by refine z6 (v := qG p) rfl rfl ?_; exact zaU p) ?_)))))))
 refine o_d 1 [(11, iv units)] (by kernel_rfl) ?_
 by_cases hu : units < 1 ∨ 16 < units
 · refine zbO (zcZ [] [] [qG p, iv units] (HNew0C H.h_head_New p units hu) rfl (zan (qE (zaA p)) (zan rfl rfl)) trivial (by decide) ?_)
   rintro v1 h1' ⟨rfl, rfl⟩
   refine ⟨z4, .tuple #[.pointer none, iv 14], [cw (pl p)], [], (qE rfl), ⟨rfl, trivial⟩, trivial, ?_⟩
   refine o_d 5 [(7, iv 14), (6, .pointer none), (14, iv 14), (13, .pointer none), (9, .tuple #[.pointer none, iv 14])] (by kernel_rfl) (zF (zC (zT (zT (z0 (o_d 2 [(16, bv true), (15, iv 14)] (by kernel_rfl) (zF (zC (zd5 rfl (zT (z0 (o_d 3 [(5, iv 14), (4, .pointer none), (17, iv 14)] (by kernel_rfl) ?_))))))))))))
   exact zF (zC (zbr (⟨trivial, ⟨reg [(4, .pointer none), (5, iv 14)], []⟩, Wk.ren [] rfl rfl (by decide) ⟨rfl, ⟨rfl, trivial⟩⟩ trivial, [.pointer none, iv 14], (qB rfl (qB rfl rfl)), (zS rfl (zS rfl z1)), by rw [if_pos hu]; exact ⟨rfl, rfl⟩⟩)))
 refine zbO (zcZ [] [] [qG p, iv units] (HNew1C H.h_head_New p units hu) rfl (zan (qE (zaA p)) (zan rfl rfl)) trivial (by decide) ?_)
 rintro v1 h1' ⟨rfl, rfl⟩
 refine ⟨z4, .tuple #[pv 1 0, iv 0], [cw (pl p)], [cw (zR p 2 3 e0 false), .chan 200 (([] : List Ent).map qH), .map (hdM (List.replicate units.toNat (0, -1)))], ((zfG _).trans rfl), ⟨rfl, trivial⟩, ⟨(Option.some.inj (z3 rfl rfl)).symm, ⟨(Option.some.inj (congrArg some (zU _).symm)).symm, ⟨(Option.some.inj (congrArg some (qA _).symm)).symm, trivial⟩⟩⟩, ?_⟩
 refine o_d 5 [(7, iv 0), (6, pv 1 0), (14, iv 0), (13, pv 1 0), (9, .tuple #[pv 1 0, iv 0])] (by kernel_rfl) (zF (zC (zT (zT (z0 (o_d 2 [(16, bv false), (15, iv 0)] (by kernel_rfl) (zF (zC (zbU rfl (zaC (zC (zT ?_))))))))))))
 refine z0 (o_b 4 [(8, pv 4 0), (20, pv 4 0), (19, .agg #[pv 1 0, .slice none 0 0, .slice none 0 0]), (18, pv 1 0)] [cw (pl p), cw (zR p 2 3 e0 false), .chan 200 (([] : List Ent).map qH), .map (hdM (List.replicate units.toNat (0, -1))), cw [pv 1 0, .slice none 0 0, .slice none 0 0]] (by kernel_rfl) (zF (zC (zT (zT (z0 (o_d 2 [(22, iv 0), (21, iv units)] (by kernel_rfl) (zF ?_))))))))
 -- the yard first; a place for the row of units, one for the row of notes
 refine ⟨⟨reg [(22, iv 0), (21, iv units), (8, pv 0 0)], [cw (zY 1 (.slice none 0 0) (.slice none 0 0)), cw (zR p 2 3 e0 false), .chan 200 (([] : List Ent).map qH), .map (hdM (List.replicate units.toNat (0, -1))), .gone, .gone]⟩,
   Wk.ren [4, 1, 2, 3, 5, 6] rfl rfl (by decide) ⟨rfl, ⟨rfl, ⟨rfl, trivial⟩⟩⟩ ⟨.inl rfl, ⟨.inl (z3 rfl rfl), ⟨.inl (congrArg some (zU _).symm), ⟨.inl (congrArg some (qA _).symm), ⟨.inr ⟨rfl, rfl⟩, ⟨.inr ⟨rfl, rfl⟩, trivial⟩⟩⟩⟩⟩⟩, ?_⟩
 refine zak (zdy (fun μ s => ∃ (k : Nat) (h : List Blk), μ = units.toNat - k ∧ (k : Int) ≤ units ∧ YHn k (newHS p units) h ∧ s = ⟨reg [(22, iv (k : Nat)), (21, iv units), (8, pv 0 0)], h⟩) ⟨units.toNat - 0, _, .inl rfl, 0, _, rfl, by omega, ⟨none, fun a => a, ⟨fun a b _ _ e => e, fun _ => rfl, rfl, rfl, rfl, rfl, rfl, rfl, rfl, fun j hj => by omega, fun j hj => by omega, fun j hj => by omega, fun j hj => by omega⟩, rfl⟩, rfl⟩ ?_)
 rintro μ s ⟨k, h, rfl, hk, hY, rfl⟩
 refine zT (z0 (o_d 1 [(23, bv (decide ((k : Int) < units)))] (by kernel_rfl) (zF (zC (zT (zaJ (t := decide ((k : Int) < units)) rfl (fun h1 => ?_) (fun h1 => ?_)))))))
 · have h1 := of_decide_eq_true h1
   refine zaC (zC (zT (zak (new_body H (by omega) hY (fun h' v27 v28 v29 v30 v31 v32 hY' hle => ?_)))))
   refine zC (z0 (o_s (by refine qL (v := .int .i64 (i64.wrap ((k : Nat) + 1))) (congrArg (Value.int .i64) (w64 (by omega) (by omega))) ?_; kernel_rfl) ?_))
   refine o_d 1 [(22, iv ((k : Int) + 1))] (by kernel_rfl) (zF ?_)
   obtain ⟨s0, hw, hs⟩ := z9 (B := 0) (K := fun s => s = ⟨reg [(22, iv ((k + 1 : Nat) : Int)), (21, iv units), (8, pv 0 0)], h'⟩) [(22, iv ((k + 1 : Nat) : Int)), (21, iv units), (8, pv 0 0)] (L := [(22, iv ((k : Int) + 1)), (33, iv ((k : Int) + 1)), (32, v32), (31, v31), (30, v30), (29, v29), (28, v28), (27, v27), (26, pv 0 1), (25, pv 0 0), (24, pv 0 0), (23, bv (decide ((k : Int) < units))), (22, iv (k : Nat)), (21, iv units), (8, pv 0 0)]) (h := h') rfl rfl (Nat.zero_le _)
   exact ⟨units.toNat - (k + 1), s0, by omega, hw, k + 1, h', rfl, by omega, hY', hs⟩
 · have h1 := of_decide_eq_false h1
   refine zcU ?_
   have hkn : k = units.toNat := by omega
   refine zC (zT (z0 (o_d 3 [(5, iv 0), (4, pv 0 0), (34, pv 0 0)] (by kernel_rfl) (zF (zC (zbr (⟨trivial, _, .inl rfl, [pv 0 0, iv 0], (qB rfl (qB rfl rfl)), (zS rfl (zS rfl z1)), ?_⟩)))))))
   rw [if_neg hu]
   refine ⟨rfl, ?_⟩
   subst hkn
   refine YHn.to (by omega) (by omega) ?_
   rw [show ((units.toNat : Nat) : Int) = units by omega]; exact hY
theorem YP.shift {F : Nat → Prop} {y : Nat} {s : YS} {T : List Blk} (hY : YP F y s T) (h : List Blk) : YP (fun k => h.length ≤ k) (h.length + y) s (h ++ T.map (zaR (rho [] h.length))) := by
 obtain ⟨q, hq, m, o, pl, Y, rfl, _, h1, h16, _⟩ := hY
 have hρ : ∀ i, rho [] h.length i = h.length + i := fun i => by rw [zgB (by simp)]; simp
 have at_ : ∀ (k : Nat) b, T[k]? = some b → (h ++ T.map (zaR (rho [] h.length)))[h.length + k]? = some (zaR (rho [] h.length) b) := fun k b e => by
  rw [zhz, List.getElem?_map, e]; rfl
 refine ⟨q, hq, m, o, fun a => h.length + pl a, ⟨fun a b ha hb e => Y.inj a b ha hb (by omega), (fun e => by cases e), ?_, ?_, ?_, ?_, ?_, ?_, Y.ok, fun j hj => ?_, fun j hj => ?_, fun j hj => ?_, fun j hj => ?_⟩, rfl, fun a _ => Nat.le_add_right _ _, h1, h16, fun k hk => by simp at hk; omega⟩
 ·rw [at_ _ _ Y.y]; exact congrArg some (zat (hρ _) (qN _ (hρ _)) (qP _ (hρ _)))
 ·rw [at_ _ _ Y.hd]; exact congrArg some (zb7 (hρ _) (hρ _))
 ·rw [at_ _ _ Y.hc]; exact congrArg some (zU _)
 ·rw [at_ _ _ Y.hm]; exact congrArg some (qA _)
 ·rw [at_ _ _ Y.ur]; exact congrArg some (zfF fun j _ => hρ _)
 ·rw [at_ _ _ Y.way]; exact congrArg some (qQ Y.ok)
 ·rw [at_ _ _ (Y.un j hj)]; exact congrArg some (zcn (hρ _) (hρ _))
 ·rw [at_ _ _ (Y.pn j hj)]; exact congrArg some (zbb (qN _ (hρ _)))
 ·rw [at_ _ _ (Y.ch j hj)]; exact congrArg some (qX _)
 ·obtain ⟨B, hB, hw⟩ := Y.wh j hj
  exact ⟨_, at_ _ _ hB, whB_ren hw⟩
theorem YNewK {P : Program} (H : YCode P) (p : qO) (units : Int) {K : zdX} {h : List Blk}
  (h0 : units < 1 ∨ 16 < units → K (.tuple #[.pointer none, iv 14]) h)
  (h1 : ∀ T, ¬ (units < 1 ∨ 16 < units) → YP (fun k => h.length ≤ k) h.length (nyS p units.toNat) (h ++ T) → K (.tuple #[pv h.length 0, iv 0]) (h ++ T)) : zcl (Env P) "roundhouse/yard.New" [qG p, iv units] K h := by
 refine ⟨[], [], [qG p, iv units], _, YNewC H p units, rfl, zan (qE (zaA p)) rfl, fun i k b1 e => by simp at e, fun i j k b1 _ e => by simp at e, fun v h1' hR _ _ => ⟨fun i hi => by simp at hi, ?_⟩⟩
 rw [back_nil]
 by_cases hu : units < 1 ∨ 16 < units
 ·rw [if_pos hu] at hR
  obtain ⟨rfl, rfl⟩ := hR
  rw [qE rfl]
  simpa using h0 hu
 ·rw [if_neg hu] at hR
  obtain ⟨rfl, hY⟩ := hR
  have := h1 _ hu (by have := hY.shift h; rwa [Nat.add_zero] at this)
  rwa [show zbw (rho [] h.length) (.tuple #[pv 0 0, iv 0]) = .tuple #[pv h.length 0, iv 0] from (zfG _).trans rfl]
end Go.Rh

namespace Go.Rh
theorem ex_eq {α : Type} (x : α) : ∃ y, y = x := ⟨x, rfl⟩
theorem FrY.split {L T h' : List Blk} {F : Nat → Prop} (hF : FrY F (L ++ T) h') (hl : ∀ k, k < L.length → ¬ F k) : ∃ T', h' = L ++ T' := by
 refine ⟨h'.drop L.length, List.ext_getElem? fun k => ?_⟩
 rcases Nat.lt_or_ge k L.length with h | h
 ·rw [hF.fr k (hl k h), List.getElem?_append_left h, List.getElem?_append_left h]
 ·rw [List.getElem?_append_right h, List.getElem?_drop]; congr 1; omega
theorem spl {L T : List Blk} {y : Nat} {S : YS} {K' : List Blk → Prop} {lo : Nat} (hlo : L.length = lo) (hk : ∀ T', YP (fun k => lo ≤ k) y S (L ++ T') → K' (L ++ T')) : ∀ h', YP (fun k => lo ≤ k) y S h' → FrY (fun k => lo ≤ k) (L ++ T) h' → K' h' := fun h' hY hF => by
 obtain ⟨T', rfl⟩ := hF.split (fun k hk => by omega)
 exact hk T' hY
def aloneB (anc : List (List Nat)) (i : Nat) : Bool := (List.range anc.length).all fun k => Nat.beq k i || !(unA anc i k)
theorem alone_of {anc : List (List Nat)} {i : Nat} (h : aloneB anc i = true) : ∀ k, k ≠ i → unA anc i k = false := by
  intro k hk
  rcases Nat.lt_or_ge k anc.length with hl | hl
  · have := List.all_eq_true.1 h k (List.mem_range.2 hl)
    simp only [Bool.or_eq_true, Nat.beq_eq, Bool.not_eq_true'] at this
    exact this.resolve_left hk
  · unfold unA
    have : Nat.blt k anc.length = false := by
      cases e : Nat.blt k anc.length with
      | false => rfl
      | true => have : k < anc.length := Nat.blt_eq ▸ e
                omega
    rw [this]; simp
theorem unA_symm (anc : List (List Nat)) (i j : Nat) : unA anc i j = unA anc j i := by
 unfold unA
 cases Nat.blt i anc.length <;> cases Nat.blt j anc.length <;> cases ((anc.getD i []).any (Nat.beq j)) <;> cases ((anc.getD j []).any (Nat.beq i)) <;> rfl
section
variable {C : qW} {anc : List (List Nat)} {K : St → Prop} {L : List (Nat × Value)} {h : List Blk} {i nid : Nat} {log : List Foot}
theorem d_clK {d : Nat} {g : String} {args : List Opd} {r : List ICell} (ha : aloneB anc i = true) (hlog : log.all (fun y => !(Nat.beq y.i i)) = true)
  (hc : zcl C g (args.map (evf (reg L))) (fun v h' => ∀ rd wr, GD C (unA anc) (i + 1) nid r (⟨i, rd, wr, some h.length⟩ :: log) K ⟨reg ((d, v) :: L), h'⟩) h) : GD C (unA anc) i nid (⟨some d, .call g args, none⟩ :: r) log K ⟨reg L, h⟩ := by
 obtain ⟨sel, h1, a1, R, e1, e2, e3, e4, e5, e6⟩ := hc
 refine ⟨⟨sel, h1, a1, R, e1, e2, e3, e4, e5, fun y hy => .inr ?_, fun ⟨k, hk, hu⟩ => ?_, fun v h1' a b c => ⟨(e6 v h1' a b c).1, ((e6 v h1' a b c).2 _ _).out⟩⟩⟩
 ·have := List.all_eq_true.1 hlog y hy
  rw [unA_symm]
  refine alone_of ha y.i ?_
  have h9 : Nat.beq y.i i = false := by simpa using this
  intro e; rw [e] at h9; simp at h9
 ·rw [alone_of ha k hk] at hu; cases hu
theorem d_clS {d : Nat} {g : String} {args : List Opd} {r : List ICell} {G : Nat → Prop} (hlog : ∀ y ∈ log, unA anc y.i i = false)
  (hc : CallF C g (args.map (evf (reg L))) h G True (fun v h' => ∀ rd wr, (∀ k ∈ wr, G k) → GD C (unA anc) (i + 1) nid r (⟨i, rd, wr, some h.length⟩ :: log) K ⟨reg ((d, v) :: L), h'⟩)) : GD C (unA anc) i nid (⟨some d, .call g args, none⟩ :: r) log K ⟨reg L, h⟩ := by
 obtain ⟨sel, h1, a1, R, e1, e2, e3, e4, e5, eG, eX, e6⟩ := hc
 refine ⟨⟨sel, h1, a1, R, e1, e2, e3, e4, e5, fun y hy => .inr (hlog y hy), fun _ => eX trivial, fun v h1' a b c => ⟨(e6 v h1' a b c).1, ((e6 v h1' a b c).2 _ _ ?_).out⟩⟩⟩
 have : ∀ (sel : List Nat) (h1 : List Blk), ∀ k ∈ zcL sel h1, k ∈ sel := by
  intro sel
  induction sel with
  | nil => intro h1 k hk; cases h1 <;> simp [zcL] at hk
  | cons a l ih =>
   intro h1 k hk
   cases h1 with
   | nil => simp [zcL] at hk
   | cons b t =>
    simp only [zcL] at hk
    split at hk
    ·rcases List.mem_cons.1 hk with rfl | hk
     ·simp
     ·exact List.mem_cons_of_mem _ (ih t k hk)
    ·exact List.mem_cons_of_mem _ (ih t k hk)
 intro k hk
 obtain ⟨j, hj⟩ := List.mem_iff_getElem?.1 (this sel h1 k hk)
 exact eG j k hj
theorem zjo {x : Foot} (h : log.all (fun y => !(unA anc y.i x.i)) = true) : ∀ y ∈ log, unA anc y.i x.i = false := fun y hy => by
 have := List.all_eq_true.1 h y hy
 simpa using this
theorem d_ldF {d : Nat} {m : Option Nat} {x : Opd} {r : List ICell} {k o : Nat} {c : List Value} {rw : Bool} {v : Value} (hx : evf (reg L) x = .pointer (some ⟨k, o, none⟩)) (hh : hf h k = some (.cells c rw)) (hv : zam m c o = some v)
  (hfit : fits (unA anc) ⟨i, [k], [], none⟩ log) (hk : GD C (unA anc) (i + 1) nid r (⟨i, [k], [], none⟩ :: log) K ⟨reg ((d, v) :: L), h⟩) : GD C (unA anc) i nid (⟨some d, .ld m x, none⟩ :: r) log K ⟨reg L, h⟩ := by
 refine ⟨?_⟩
 show za8 C (unA anc) ⟨i, nid, ⟨some d, .ld m x, none⟩⟩ log (fun log' s' => wpD C (unA anc) (zbA (i + 1) nid r) log' K s') ⟨reg L, h⟩
 refine (zaZ (fun _ => rfl)).2 ⟨⟨i, [k], [], none⟩, ⟨zas (reg L) (some d) v, h⟩, ?_, hfit, hk.out⟩
 have h1 : rdE (.ld m x) (evf (reg L)) = [k] := by simp [rdE, IOp.rdl, hx, zbZ]
 have h2 : zQ (.ld m x) (evf (reg L)) (hf h) nid = some (v, .no) := by simp [zQ, ldV, hx, hh, hv]
 simp [ziB, gJ, zb0, h1, h2]
theorem fits_ld {k j n lo : Nat} {rd wr : List Nat} {log : List Foot} (hk : k < lo) (hw : ∀ k ∈ wr, lo ≤ k) (hn : k < n) (hr : fits (unA anc) ⟨i, [k], [], none⟩ log) : fits (unA anc) ⟨i, [k], [], none⟩ (⟨j, rd, wr, some n⟩ :: log) := by
 intro y hy
 rcases List.mem_cons.1 hy with rfl | hy
 ·refine .inl ⟨fun q hq => ⟨?_, by simp⟩, fun q hq => by simp at hq, fun q hq => ?_, trivial⟩
  ·simp only [List.mem_singleton]; have := hw q hq; omega
  ·simp at hq; omega
 ·exact hr y hy
end
section
variable {P : Program} {F : Nat → Prop} {y : Nat} {s : YS} {h : List Blk} {K : zdX}
theorem YPoolF (H : YCode P) (hY : YP F y s h) (hK : ∀ h', YP F y s h' → FrY F h h' → K (qG s.x.p) h') : CallF (Env P) "(*roundhouse/yard.Yard).Pool" [pv y 0] h F True K := by
 obtain ⟨q, hq, hY⟩ := hY
 refine glueA0 (hX := True) (ex := []) (V := qG s.x.p) (x' := s.x) (l' := s.l) hY rfl (zaA _) (fun m o ho => ⟨_, YPoolC H.h_yard_Yard_Pool H.h_head_Head_Pool s.x.p s.x.w s.x.hd s.x.e s.x.s s.n m s.l o ho, ?_, fun _ => ⟨_, _, ⟨rfl, rfl⟩, Nat.le_refl 6, fun i b b' e1 e2 => ?_⟩⟩) (fun h' hT => hK h' (YP.of hq hT))
 ·rintro v h' ⟨rfl, rfl⟩
  exact ⟨rfl, o, gB s.l o, 5, [], ho, (fun z => by subst z; rfl), .inl ⟨rfl, rfl, rfl⟩, rfl⟩
 ·have e1' : (laA s.n m s.x 5 s.l o ++ [gB s.l o])[i]? = some b' := e2
  rw [e1'] at e1; cases e1; rfl
end
structure YOK (S : YS) : Prop where
  hd : S.x.hd.length = S.n
  n : 1 ≤ S.n ∧ S.n ≤ 16
  nok : NOK S
theorem notesTo_mem {x : HS} {n : Nat} {nt : Nt} (h : nt ∈ zcS x n) : 0 ≤ nt.u ∧ nt.u < n ∧ nt.a = false := by
 unfold zcS at h
 obtain ⟨i, hi, he⟩ := List.mem_filterMap.1 h
 have hi := List.mem_range.1 hi
 unfold zg8 at he
 simp only at he
 split at he
 ·cases he
 ·split at he
  ·cases he; exact ⟨by simp only; omega, by simp only; omega, rfl⟩
  ·cases he; exact ⟨by simp only; omega, by simp only; omega, rfl⟩
theorem zim {S : YS} (h : YOK S) : YOK (zax S) := by
 refine ⟨?_, h.n, fun nt hm ha => ?_⟩
 ·show (zal S.x).1.hd.length = _; rw [sendS_hd]; exact h.hd
 ·have hm : nt ∈ S.l ++ (zal S.x).2 := hm
  rcases List.mem_append.1 hm with hm | hm
  ·exact h.nok nt hm ha
  ·have := notesTo_mem (x := goS S.x) (n := (goS S.x).hd.length) hm
   rw [goS_hd, h.hd] at this
   exact ⟨this.1, this.2.1⟩
theorem tick_len {S : YS} (h : YOK S) : (zax S).l.length ≤ S.l.length + 16 := by
 show (S.l ++ (zal S.x).2).length ≤ _
 have := sendS_len (x := S.x)
 rw [h.hd] at this
 have := h.n
 simp; omega
theorem rest_mem {l : List Nt} {k : Int} {keep : Bool} {nt : Nt} (h : nt ∈ zdM l k keep) : nt ∈ l := by
 unfold zdM at h
 split at h
 ·exact h
 ·exact List.mem_of_mem_eraseIdx h
theorem rest_len {l : List Nt} {k : Int} {keep : Bool} : (zdM l k keep).length ≤ l.length := by
 unfold zdM; split
 ·exact Nat.le_refl _
 ·exact List.length_eraseIdx_le ..
theorem ok_dlv {S : YS} (h : YOK S) (k : Int) (keep : Bool) : YOK (zaN S k keep) := by
 unfold zaN
 split
 ·split
  ·refine ⟨?_, h.n, fun nt hm ha => h.nok nt (rest_mem hm) ha⟩
   show (zbT S.x.hd _).length = _; rw [heardS_len]; exact h.hd
  ·refine ⟨h.hd, h.n, fun nt hm ha => ?_⟩
   have hm : nt ∈ zdM S.l k keep ++ [_] := hm
   rcases List.mem_append.1 hm with hm | hm
   ·exact h.nok nt (rest_mem hm) ha
   ·simp at hm; subst hm; cases ha
 ·exact h
theorem dlv_len (S : YS) (k : Int) (keep : Bool) : (zaN S k keep).l.length ≤ S.l.length + 1 := by
 have := rest_len (l := S.l) (k := k) (keep := keep)
 unfold zaN
 split
 ·split
  ·simp only; omega
  ·simp only [List.length_append, List.length_singleton]; omega
 ·omega
theorem ok_lose {S : YS} (h : YOK S) (k : Int) : YOK (zcy S k) := by
 refine ⟨h.hd, h.n, fun nt hm ha => h.nok nt ?_ ha⟩
 have hm : nt ∈ zeb S.l k := hm
 unfold zeb at hm
 split at hm
 ·exact List.mem_of_mem_eraseIdx hm
 ·exact hm
theorem lose_len (S : YS) (k : Int) : (zcy S k).l.length ≤ S.l.length := by
 show (zeb S.l k).length ≤ _
 unfold zeb; split
 ·exact List.length_eraseIdx_le ..
 ·exact Nat.le_refl _
theorem ok_crash {S : YS} (h : YOK S) (u : Int) : YOK (zel S u) := by
 unfold zel
 split
 ·exact ⟨h.hd, h.n, fun nt hm ha => h.nok nt hm ha⟩
 ·exact h
theorem crash_l (S : YS) (u : Int) : (zel S u).l = S.l := by unfold zel; split <;> rfl
theorem crash_n (S : YS) (u : Int) : (zel S u).n = S.n := by unfold zel; split <;> rfl
theorem dlv_n (S : YS) (k : Int) (keep : Bool) : (zaN S k keep).n = S.n := by
 unfold zaN; split
 ·split <;> rfl
 ·rfl
theorem ok_nyS (p : qO) {n : Nat} (h1 : 1 ≤ n) (h2 : n ≤ 16) : YOK (nyS p n) := by
 refine ⟨?_, ⟨h1, h2⟩, fun nt hm => by cases hm⟩
 show (List.replicate ((n : Nat) : Int).toNat ((0 : Int), (-1 : Int))).length = n
 simp
theorem zgy {B m μ : Nat} {L : List (Nat × Value)} {h : List Blk} {K : St → Prop} (l : List (Nat × Value)) (hl : l.map (fun p => reg L p.1) = l.map (·.2)) (hm : m < μ) (hk : K ⟨reg l, h⟩) (hB : B ≤ h.length := by simp) : ∃ s0, m < μ ∧ Wk B ⟨reg L, h⟩ s0 ∧ K s0 := let ⟨s0, h1, h2⟩ := z9 l hl hk hB; ⟨s0, hm, h1, h2⟩
end Go.Rh

set_option maxHeartbeats 8000000
namespace Go.Rh
def zdj : IFunc := ⟨15, [.tmp 4], (.seq (.reg [kq 4 (.mv (ki 0))]) (.seq (.reg [km 6 0, km 7 1, kq 8 (.bin .rem (.t 6) (.t 7)), km 5 8]) (.seq (.seq (.reg [km 9 5, kq 10 (.bin .lss (.t 9) (ki 0))]) (.cond (.t 10) (.reg [km 11 5, km 12 1, kq 13 (.bin .add (.t 11) (.t 12)), km 5 13]) .skip)) (.seq (.reg [km 14 5, km 4 14]) .ret))))⟩
theorem within12C {P : Program} (hc : zX P "roundhouse/roundhouselaw12.within" = some zdj) (x n : Int) (hn : n ≠ 0) :
    Env P "roundhouse/roundhouselaw12.within" [iv x, iv n] ([]) (Ans (.int .i64 (zM x n)) ([])) := by
 refine Env.by hc ?_
 unfold zdj
 show GC _ 0 _ _ ⟨reg [(0, iv x), (1, iv n)], []⟩
 refine zT (z0 (o_d 1 [(4, iv 0)] (by kernel_rfl) (zF (zC (zT (z0 (o_d 2 [(7, iv n), (6, iv x)] (by kernel_rfl) (o_s (by exact run_rem rfl rfl (by omega)) ?_))))))))
 refine o_d 1 [(5, iv (x.tmod n))] (by kernel_rfl) (zF (zC (zT (zT (z0 (o_d 2 [(10, bv (decide (x.tmod n < 0))), (9, iv (x.tmod n))] (by kernel_rfl) (zF (zC (zaJ (t := decide (x.tmod n < 0)) rfl (fun h1 => ?_) (fun h1 => ?_))))))))))
 ·skip
  have h1' : x.tmod n < 0 := of_decide_eq_true h1
  refine z0 (o_d 4 [(5, iv (i64.wrap (x.tmod n + n))), (13, iv (i64.wrap (x.tmod n + n))), (12, iv n), (11, iv (x.tmod n))] (by kernel_rfl) (zF (zC (zT (z0 (o_d 2 [(4, iv (i64.wrap (x.tmod n + n))), (14, iv (i64.wrap (x.tmod n + n)))] (by kernel_rfl) (zF (zC (zbr ?_)))))))))
  have E0_ : zM x n = (i64.wrap (x.tmod n + n)) := by
   unfold zM; simp only [h1', if_true, if_false]
  exact zar [iv (i64.wrap (x.tmod n + n))] (qB rfl rfl) rfl (by rw [E0_]; rfl) rfl rfl
 have h1' : ¬ (x.tmod n < 0) := of_decide_eq_false h1
 refine zaC (zC (zT (z0 (o_d 2 [(4, iv (x.tmod n)), (14, iv (x.tmod n))] (by kernel_rfl) (zF (zC (zbr ?_)))))))
 have E0_ : zM x n = (x.tmod n) := by
  unfold zM; simp only [h1', if_true, if_false]
 exact zar [iv (x.tmod n)] (qB rfl rfl) rfl (by rw [E0_]; rfl) rfl rfl
end Go.Rh

set_option maxHeartbeats 8000000
namespace Go.Rh
def zdP : IFunc := ⟨84, [.tmp 0], (.seq (.reg [kq 0 (.mv kF)]) (.seq (.reg [kq 12 (.bld [(2, (.int .u64 0))] []), kq 13 (.bld [(2, (.int .u64 0))] []), kq 14 (.call "roundhouse/roundhouseref6.New" [(ki 10), (ki 80), (.t 12), (.t 13)]), km 11 14, kq 15 (.ext 0 (.t 11)), kq 16 (.ext 1 (.t 11)), kq 1 (.new kA), ku (.st 330 (.t 1) (.t 15)), km 2 16]) (.seq (.reg [kq 18 (.ld (some 330) (.t 1)), kq 19 (.call "roundhouse/yard.New" [(.t 18), (ki 2)]), km 17 19, kq 20 (.ext 0 (.t 17)), kq 21 (.ext 1 (.t 17)), km 3 20, km 4 21]) (.seq (.seq (.reg [km 22 4, kq 23 (.bin .neq (.t 22) (ki 0)), km 24 23, kg 25 (.mv (.t 3)) 24 false, kg 26 (.eqn false .ptr (.t 25) (.c (.pointer none))) 24 false, kq 27 (.pick (.t 24) kT (.t 26))]) (.cond (.t 27) (.seq (.reg [kq 0 (.mv kF)]) .ret) .skip)) (.seq (.reg [km 28 3, kq 29 (.call "(*roundhouse/yard.Yard).Notes" [(.t 28)]), km 5 29]) (.seq (.reg [km 30 3, kq 31 (.call "(*roundhouse/yard.Yard).Tick" [(.t 30)]), km 6 31]) (.seq (.reg [km 32 3, kq 33 (.call "(*roundhouse/yard.Yard).Deliver" [(.t 32), (ki 0), kF]), km 34 3, kq 35 (.call "(*roundhouse/yard.Yard).Deliver" [(.t 34), (ki 0), kF]), km 7 33, km 8 35]) (.seq (.reg [km 37 3, kq 38 (.call "(*roundhouse/yard.Yard).Version" [(.t 37), (ki 1)]), km 36 38, kq 39 (.ext 0 (.t 36)), kq 40 (.ext 1 (.t 36)), km 9 39, km 10 40]) (.seq (.dreg [km 41 5, kq 42 (.bin .eql (.t 41) (ki 0)), km 43 42, kg 44 (.mv (.t 6)) 43 true, kg 45 (.bin .eql (.t 44) (ki 2)) 43 true, kq 46 (.pick (.t 43) (.t 45) kF), km 47 46, kg 48 (.mv (.t 7)) 47 true, kq 49 (.pick (.t 47) (.t 48) kF), km 50 49, kg 51 (.mv (.t 8)) 50 true, kq 52 (.pick (.t 50) (.t 51) kF), km 53 52, kg 54 (.mv (.t 3)) 53 true, kg 55 (.call "(*roundhouse/yard.Yard).Notes" [(.t 54)]) 53 true, kg 56 (.bin .eql (.t 55) (ki 2)) 53 true, kq 57 (.pick (.t 53) (.t 56) kF), km 58 57, kg 59 (.mv (.t 10)) 58 true, kq 60 (.pick (.t 58) (.t 59) kF), km 61 60, kg 62 (.mv (.t 9)) 61 true, kg 63 (.bin .eql (.t 62) (ki 0)) 61 true, kq 64 (.pick (.t 61) (.t 63) kF), km 65 64, kg 66 (.mv (.t 3)) 65 true, kg 67 (.call "(*roundhouse/yard.Yard).Deliver" [(.t 66), (ki 0), kF]) 65 true, kq 68 (.pick (.t 65) (.t 67) kF), km 69 68, kg 70 (.mv (.t 3)) 69 true, kg 71 (.call "(*roundhouse/yard.Yard).Lose" [(.t 70), (ki 0)]) 69 true, kq 72 (.pick (.t 69) (.t 71) kF), km 73 72, kg 74 (.mv (.t 3)) 73 true, kg 75 (.call "(*roundhouse/yard.Yard).Lose" [(.t 74), (ki 0)]) 73 true, kg 76 (.un .not (.t 75)) 73 true, kq 77 (.pick (.t 73) (.t 76) kF), km 78 77, kg 79 (.mv (.t 3)) 78 true, kg 80 (.call "(*roundhouse/yard.Yard).Pool" [(.t 79)]) 78 true, kg 81 (.ld (some 330) (.t 1)) 78 true, kg 82 (.eqa false [(330, .i)] (.t 80) (.t 81)) 78 true, kq 83 (.pick (.t 78) (.t 82) kF), km 0 83] [[], [0], [1, 0], [2, 1, 0], [3, 2, 1, 0], [2, 1, 0, 4, 3], [5, 2, 1, 0, 4, 3], [6, 5, 2, 1, 0, 4, 3], [6, 5, 2, 1, 0, 4, 3, 7], [8, 6, 5, 2, 1, 0, 4, 3, 7], [9, 8, 6, 5, 2, 1, 0, 4, 3, 7], [9, 8, 6, 5, 2, 1, 0, 4, 3, 7, 10], [11, 9, 8, 6, 5, 2, 1, 0, 4, 3, 7, 10], [12, 11, 9, 8, 6, 5, 2, 1, 0, 4, 3, 7, 10], [13, 12, 11, 9, 8, 6, 5, 2, 1, 0, 4, 3, 7, 10], [14, 13, 12, 11, 9, 8, 6, 5, 2, 1, 0, 4, 3, 7, 10], [12, 11, 9, 8, 6, 5, 2, 1, 0, 4, 3, 7, 10, 15, 14, 13], [16, 12, 11, 9, 8, 6, 5, 2, 1, 0, 4, 3, 7, 10, 15, 14, 13], [17, 16, 12, 11, 9, 8, 6, 5, 2, 1, 0, 4, 3, 7, 10, 15, 14, 13], [17, 16, 12, 11, 9, 8, 6, 5, 2, 1, 0, 4, 3, 7, 10, 15, 14, 13, 18], [19, 17, 16, 12, 11, 9, 8, 6, 5, 2, 1, 0, 4, 3, 7, 10, 15, 14, 13, 18], [20, 19, 17, 16, 12, 11, 9, 8, 6, 5, 2, 1, 0, 4, 3, 7, 10, 15, 14, 13, 18], [21, 20, 19, 17, 16, 12, 11, 9, 8, 6, 5, 2, 1, 0, 4, 3, 7, 10, 15, 14, 13, 18], [20, 19, 17, 16, 12, 11, 9, 8, 6, 5, 2, 1, 0, 4, 3, 7, 10, 15, 14, 13, 18, 22, 21], [23, 20, 19, 17, 16, 12, 11, 9, 8, 6, 5, 2, 1, 0, 4, 3, 7, 10, 15, 14, 13, 18, 22, 21], [24, 23, 20, 19, 17, 16, 12, 11, 9, 8, 6, 5, 2, 1, 0, 4, 3, 7, 10, 15, 14, 13, 18, 22, 21], [25, 24, 23, 20, 19, 17, 16, 12, 11, 9, 8, 6, 5, 2, 1, 0, 4, 3, 7, 10, 15, 14, 13, 18, 22, 21], [24, 23, 20, 19, 17, 16, 12, 11, 9, 8, 6, 5, 2, 1, 0, 4, 3, 7, 10, 15, 14, 13, 18, 22, 21, 26, 25], [27, 24, 23, 20, 19, 17, 16, 12, 11, 9, 8, 6, 5, 2, 1, 0, 4, 3, 7, 10, 15, 14, 13, 18, 22, 21, 26, 25], [28, 27, 24, 23, 20, 19, 17, 16, 12, 11, 9, 8, 6, 5, 2, 1, 0, 4, 3, 7, 10, 15, 14, 13, 18, 22, 21, 26, 25], [29, 28, 27, 24, 23, 20, 19, 17, 16, 12, 11, 9, 8, 6, 5, 2, 1, 0, 4, 3, 7, 10, 15, 14, 13, 18, 22, 21, 26, 25], [28, 27, 24, 23, 20, 19, 17, 16, 12, 11, 9, 8, 6, 5, 2, 1, 0, 4, 3, 7, 10, 15, 14, 13, 18, 22, 21, 26, 25, 30, 29], [31, 28, 27, 24, 23, 20, 19, 17, 16, 12, 11, 9, 8, 6, 5, 2, 1, 0, 4, 3, 7, 10, 15, 14, 13, 18, 22, 21, 26, 25, 30, 29], [32, 31, 28, 27, 24, 23, 20, 19, 17, 16, 12, 11, 9, 8, 6, 5, 2, 1, 0, 4, 3, 7, 10, 15, 14, 13, 18, 22, 21, 26, 25, 30, 29], [33, 32, 31, 28, 27, 24, 23, 20, 19, 17, 16, 12, 11, 9, 8, 6, 5, 2, 1, 0, 4, 3, 7, 10, 15, 14, 13, 18, 22, 21, 26, 25, 30, 29], [34, 33, 32, 31, 28, 27, 24, 23, 20, 19, 17, 16, 12, 11, 9, 8, 6, 5, 2, 1, 0, 4, 3, 7, 10, 15, 14, 13, 18, 22, 21, 26, 25, 30, 29], [32, 31, 28, 27, 24, 23, 20, 19, 17, 16, 12, 11, 9, 8, 6, 5, 2, 1, 0, 4, 3, 7, 10, 15, 14, 13, 18, 22, 21, 26, 25, 30, 29, 35, 34, 33], [36, 32, 31, 28, 27, 24, 23, 20, 19, 17, 16, 12, 11, 9, 8, 6, 5, 2, 1, 0, 4, 3, 7, 10, 15, 14, 13, 18, 22, 21, 26, 25, 30, 29, 35, 34, 33], [37, 36, 32, 31, 28, 27, 24, 23, 20, 19, 17, 16, 12, 11, 9, 8, 6, 5, 2, 1, 0, 4, 3, 7, 10, 15, 14, 13, 18, 22, 21, 26, 25, 30, 29, 35, 34, 33], [38, 37, 36, 32, 31, 28, 27, 24, 23, 20, 19, 17, 16, 12, 11, 9, 8, 6, 5, 2, 1, 0, 4, 3, 7, 10, 15, 14, 13, 18, 22, 21, 26, 25, 30, 29, 35, 34, 33], [37, 36, 32, 31, 28, 27, 24, 23, 20, 19, 17, 16, 12, 11, 9, 8, 6, 5, 2, 1, 0, 4, 3, 7, 10, 15, 14, 13, 18, 22, 21, 26, 25, 30, 29, 35, 34, 33], [39, 38, 37, 36, 32, 31, 28, 27, 24, 23, 20, 19, 17, 16, 12, 11, 9, 8, 6, 5, 2, 1, 0, 4, 3, 7, 10, 15, 14, 13, 18, 22, 21, 26, 25, 30, 29, 35, 34, 33, 40], [37, 36, 32, 31, 28, 27, 24, 23, 20, 19, 17, 16, 12, 11, 9, 8, 6, 5, 2, 1, 0, 4, 3, 7, 10, 15, 14, 13, 18, 22, 21, 26, 25, 30, 29, 35, 34, 33, 41, 39, 38, 40], [42, 37, 36, 32, 31, 28, 27, 24, 23, 20, 19, 17, 16, 12, 11, 9, 8, 6, 5, 2, 1, 0, 4, 3, 7, 10, 15, 14, 13, 18, 22, 21, 26, 25, 30, 29, 35, 34, 33, 41, 39, 38, 40]]) .ret)))))))))⟩
theorem known12C {P : Program} (hc : zX P "roundhouse/roundhouselaw12.known" = some zdP) (h_ref6_New : zfJ P) (h_ref6_out : zeD P) (h_ref5_Ring : zd4 P) (h_yard_Yard_Notes : zbl P) (h_yard_Yard_Pool : zcv P) (h_head_Head_Pool : zbS P) (h_yard_Yard_Wish : zct P) (h_head_Head_Wish : zbQ P) (h_head_Head_waiting : za4 P) (h_pool_All : zcH P) (h_pool_Apply : zaI P) (h_pool_may : zaP P) (h_pool_held : zaG P) (h_pool_fits : zaM P) (h_pool_Check : zaB P) (h_pool_placed : zai P) (h_cookie_Next : zaq P) (h_yard_Yard_Tick : zcu P) (h_head_Head_Send : zbR P) (h_head_Head_all : zbC P) (h_head_Head_publish : za5 P) (h_yard_row_head_Note_put : zay P) (h_yard_Yard_Lose : zcw P) (h_yard_row_head_Note_at : zab P) (h_yard_row_head_Note_drop : zad P) (h_yard_Yard_Version : zbK P) (h_yard_row_yard_unit_at : qT P) (h_plane_Plane_Version : zap P) (h_yard_Yard_Crash : zci P) (h_plane_Plane_Crash : zbp P) (h_yard_Yard_Deliver : zbn P) (h_head_Head_Heard : zbm P) (h_yard_unit_hear : zbP P) (h_yard_unit_version : za3 P) (h_yard_unit_load : zbu P) (h_plane_Plane_Load : zaW P) (h_plane_maybe_api_Pool_lay : qR P) (h_wheel_Make : zbH P) (h_wheel_spun : zbj P) (h_sip_Words : zbo P) (h_sip_Of : zcx P) (h_sip_number_byte : qU P) (h_sip_state_take : zaa P) (h_sip_state_rounds : qK P) (h_sip_state_round : qM P) (h_math_bits_RotateLeft64 : zV P) (h_head_New : zdT P) (h_plane_New : zeN P) (h_yard_New : zg9 P) (h_yard_row_yard_unit_put : zbc P)  :
    Env P "roundhouse/roundhouselaw12.known" [] ([]) (Ans (.bool true) ([])) := by
 refine Env.by hc ?_
 unfold zdP
 show GC _ 0 _ _ ⟨reg [], []⟩
 have H : YCode P := ⟨h_yard_Yard_Notes, h_yard_Yard_Pool, h_head_Head_Pool, h_yard_Yard_Wish, h_head_Head_Wish, h_head_Head_waiting, h_pool_All, h_pool_Apply, h_pool_may, h_pool_held, h_pool_fits, h_pool_Check, h_pool_placed, h_cookie_Next, h_yard_Yard_Tick, h_head_Head_Send, h_head_Head_all, h_head_Head_publish, h_yard_row_head_Note_put, h_yard_Yard_Lose, h_yard_row_head_Note_at, h_yard_row_head_Note_drop, h_yard_Yard_Version, h_yard_row_yard_unit_at, h_plane_Plane_Version, h_yard_Yard_Crash, h_plane_Plane_Crash, h_yard_Yard_Deliver, h_head_Head_Heard, h_yard_unit_hear, h_yard_unit_version, h_yard_unit_load, h_plane_Plane_Load, h_plane_maybe_api_Pool_lay, h_wheel_Make, h_wheel_spun, h_sip_Words, h_sip_Of, h_sip_number_byte, h_sip_state_take, h_sip_state_rounds, h_sip_state_round, h_math_bits_RotateLeft64, h_head_New, h_plane_New, h_yard_New, h_yard_row_yard_unit_put⟩
 refine zT (z0 (o_d 1 [(0, bv false)] (by kernel_rfl) (zF (zC (zT (z0 (o_d 2 [(13, .agg #[uv 0, uv 0]), (12, .agg #[uv 0, uv 0])] (by kernel_rfl) (zbO (zeO (refNewC h_ref6_New h_ref6_out h_ref5_Ring 10 80 0 0 0 0) rfl rfl (all_cons (zaL ((zag 10 80 0 0 0 0).1)) (all_cons rfl rfl)) (o_b 4 [(1, pv 0 0), (16, iv ((zag 10 80 0 0 0 0).2)), (15, qG ((zag 10 80 0 0 0 0).1)), (11, .tuple #[qG ((zag 10 80 0 0 0 0).1), iv ((zag 10 80 0 0 0 0).2)])] [cw (pl zH)] (by kernel_rfl) (zeC (by refine qY (c' := pl ((zag 10 80 0 0 0 0).1)) rfl rfl rfl ?_ ?_ ?_; exact zN _; exact zeW (by omega); exact zae zH ((zag 10 80 0 0 0 0).1)) ?_)))))))))))
 refine o_b 1 [(2, iv ((zag 10 80 0 0 0 0).2))] [cw (pl ((zag 10 80 0 0 0 0).1))] (by kernel_rfl) (zF (zC (zT (z0 (o_s (by refine z6 (v := qG ((zag 10 80 0 0 0 0).1)) rfl rfl ?_; exact zaU ((zag 10 80 0 0 0 0).1)) ?_)))))
 refine zbO (YNewK H ((zag 10 80 0 0 0 0).1) 2 (fun q => absurd q (by omega)) (fun T0 hu0 hY0q => ?_))
 have hY0 : YP (fun k => 1 ≤ k) 1 (nyS ((zag 10 80 0 0 0 0).1) 2) ([cw (pl ((zag 10 80 0 0 0 0).1))] ++ T0) := hY0q
 refine o_d 5 [(4, iv 0), (3, pv 1 0), (21, iv 0), (20, pv 1 0), (17, .tuple #[pv 1 0, iv 0])] (by kernel_rfl) (zF (zC (zT (zT (z0 (o_d 6 [(27, bv false), (26, bv false), (25, pv 1 0), (24, bv false), (23, bv false), (22, iv 0)] (by kernel_rfl) (zF (zC (zbU rfl (zaC (zC (zT ?_))))))))))))
 refine z0 (o_d 1 [(28, pv 1 0)] (by kernel_rfl) (zbO (zgq H hY0   (spl rfl fun T1 hY1q => ?_))))
 refine o_d 1 [(5, iv ((nyS ((zag 10 80 0 0 0 0).1) 2).l.length : Nat))] (by kernel_rfl) (zF (z9 [(5, iv ((nyS ((zag 10 80 0 0 0 0).1) 2).l.length : Nat)), (3, pv 1 0), (1, pv 0 0)] (by kernel_rfl) (zT (z0 (o_d 1 [(30, pv 1 0)] (by kernel_rfl) (zbO (YTickK H hY1q (Nat.le_of_ble_eq_true (by kernel_rfl)) (Nat.le_of_ble_eq_true (by kernel_rfl))  (spl rfl fun T2 hY2q => ?_))))))))
 refine o_d 1 [(6, iv ((zax (nyS ((zag 10 80 0 0 0 0).1) 2)).l.length : Nat))] (by kernel_rfl) (zF (zC (zT (z0 (o_d 1 [(32, pv 1 0)] (by kernel_rfl) (zbO (zgV H hY2q (Nat.le_of_ble_eq_true (by kernel_rfl)) (zim (ok_nyS ((zag 10 80 0 0 0 0).1) (by decide) (by decide))).nok 0 false (spl rfl fun T3 hY3q => ?_))))))))
 refine o_d 1 [(34, pv 1 0)] (by kernel_rfl) (zbO (zgV H hY3q (Nat.le_of_ble_eq_true (by kernel_rfl)) (ok_dlv (zim (ok_nyS ((zag 10 80 0 0 0 0).1) (by decide) (by decide))) _ _).nok 0 false (spl rfl fun T4 hY4q => ?_)))
 refine o_d 2 [(8, bv ((atS (zaN (zax (nyS ((zag 10 80 0 0 0 0).1) 2)) 0 false).l 0).2)), (7, bv ((atS (zax (nyS ((zag 10 80 0 0 0 0).1) 2)).l 0).2))] (by kernel_rfl) (zF (zC (zT (z0 (o_d 1 [(37, pv 1 0)] (by kernel_rfl) (zbO (YVersionK H hY4q  1 (spl rfl fun T5 hY5q => ?_))))))))
 refine o_d 5 [(10, bv ((zdL (zaN (zaN (zax (nyS ((zag 10 80 0 0 0 0).1) 2)) 0 false) 0 false) 1).2)), (9, iv ((zdL (zaN (zaN (zax (nyS ((zag 10 80 0 0 0 0).1) 2)) 0 false) 0 false) 1).1)), (40, bv ((zdL (zaN (zaN (zax (nyS ((zag 10 80 0 0 0 0).1) 2)) 0 false) 0 false) 1).2)), (39, iv ((zdL (zaN (zaN (zax (nyS ((zag 10 80 0 0 0 0).1) 2)) 0 false) 0 false) 1).1)), (36, .tuple #[iv ((zdL (zaN (zaN (zax (nyS ((zag 10 80 0 0 0 0).1) 2)) 0 false) 0 false) 1).1), bv ((zdL (zaN (zaN (zax (nyS ((zag 10 80 0 0 0 0).1) 2)) 0 false) 0 false) 1).2)])] (by kernel_rfl) (zF (zC (zT (zbq ([cw (pl ((zag 10 80 0 0 0 0).1))] ++ T5) (List.append_nil _) (d_n 3 3 _ [(43, bv ((((nyS ((zag 10 80 0 0 0 0).1) 2).l.length : Nat) : Int) == 0)), (42, bv ((((nyS ((zag 10 80 0 0 0 0).1) 2).l.length : Nat) : Int) == 0)), (41, iv ((nyS ((zag 10 80 0 0 0 0).1) 2).l.length : Nat))] ([cw (pl ((zag 10 80 0 0 0 0).1))] ++ T5) [] (by kernel_rfl) rfl rfl (d_sp (b := (((nyS ((zag 10 80 0 0 0 0).1) 2).l.length : Nat) : Int) == 0) 43 rfl (fun k7 => ?_) (fun q => by rw [(by kernel_rfl : ((((nyS ((zag 10 80 0 0 0 0).1) 2).l.length : Nat) : Int) == 0) = true)] at q; cases q)))))))
 refine d_n 4 7 _ [(47, bv ((((zax (nyS ((zag 10 80 0 0 0 0).1) 2)).l.length : Nat) : Int) == 2)), (46, bv ((((zax (nyS ((zag 10 80 0 0 0 0).1) 2)).l.length : Nat) : Int) == 2)), (45, bv ((((zax (nyS ((zag 10 80 0 0 0 0).1) 2)).l.length : Nat) : Int) == 2)), (44, iv ((zax (nyS ((zag 10 80 0 0 0 0).1) 2)).l.length : Nat))] ([cw (pl ((zag 10 80 0 0 0 0).1))] ++ T5) [] (by kernel_rfl) rfl rfl (d_sp (b := (((zax (nyS ((zag 10 80 0 0 0 0).1) 2)).l.length : Nat) : Int) == 2) 47 rfl (fun k8 => ?_) (fun q => by rw [(by kernel_rfl : ((((zax (nyS ((zag 10 80 0 0 0 0).1) 2)).l.length : Nat) : Int) == 2) = true)] at q; cases q))
 refine d_n 3 10 _ [(50, bv ((atS (zax (nyS ((zag 10 80 0 0 0 0).1) 2)).l 0).2)), (49, bv ((atS (zax (nyS ((zag 10 80 0 0 0 0).1) 2)).l 0).2)), (48, bv ((atS (zax (nyS ((zag 10 80 0 0 0 0).1) 2)).l 0).2))] ([cw (pl ((zag 10 80 0 0 0 0).1))] ++ T5) [] (by kernel_rfl) rfl rfl (d_sp (b := (atS (zax (nyS ((zag 10 80 0 0 0 0).1) 2)).l 0).2) 50 rfl (fun k9 => ?_) (fun q => by rw [(by kernel_rfl : ((atS (zax (nyS ((zag 10 80 0 0 0 0).1) 2)).l 0).2) = true)] at q; cases q))
 refine d_n 3 13 _ [(53, bv ((atS (zaN (zax (nyS ((zag 10 80 0 0 0 0).1) 2)) 0 false).l 0).2)), (52, bv ((atS (zaN (zax (nyS ((zag 10 80 0 0 0 0).1) 2)) 0 false).l 0).2)), (51, bv ((atS (zaN (zax (nyS ((zag 10 80 0 0 0 0).1) 2)) 0 false).l 0).2))] ([cw (pl ((zag 10 80 0 0 0 0).1))] ++ T5) [] (by kernel_rfl) rfl rfl (d_sp (b := (atS (zaN (zax (nyS ((zag 10 80 0 0 0 0).1) 2)) 0 false).l 0).2) 53 rfl (fun k10 => ?_) (fun q => by rw [(by kernel_rfl : ((atS (zaN (zax (nyS ((zag 10 80 0 0 0 0).1) 2)) 0 false).l 0).2) = true)] at q; cases q))
 refine d_n 1 14 _ [(54, pv 1 0)] ([cw (pl ((zag 10 80 0 0 0 0).1))] ++ T5) [] (by kernel_rfl) rfl rfl (zd7 rfl (d_clK (by kernel_rfl) (by kernel_rfl) (zgq H hY5q   (spl rfl fun T10 hY10q => fun rd10 wr10 => ?_))))
 refine d_n 3 18 _ [(58, bv ((((zaN (zaN (zax (nyS ((zag 10 80 0 0 0 0).1) 2)) 0 false) 0 false).l.length : Nat) : Int) == 2)), (57, bv ((((zaN (zaN (zax (nyS ((zag 10 80 0 0 0 0).1) 2)) 0 false) 0 false).l.length : Nat) : Int) == 2)), (56, bv ((((zaN (zaN (zax (nyS ((zag 10 80 0 0 0 0).1) 2)) 0 false) 0 false).l.length : Nat) : Int) == 2))] ([cw (pl ((zag 10 80 0 0 0 0).1))] ++ T10) [⟨14, rd10, wr10, some ([cw (pl ((zag 10 80 0 0 0 0).1))] ++ T5).length⟩] (by kernel_rfl) rfl rfl (d_sp (b := (((zaN (zaN (zax (nyS ((zag 10 80 0 0 0 0).1) 2)) 0 false) 0 false).l.length : Nat) : Int) == 2) 58 rfl (fun k12 => ?_) (fun q => by rw [(by kernel_rfl : ((((zaN (zaN (zax (nyS ((zag 10 80 0 0 0 0).1) 2)) 0 false) 0 false).l.length : Nat) : Int) == 2) = true)] at q; cases q))
 refine d_n 3 21 _ [(61, bv ((zdL (zaN (zaN (zax (nyS ((zag 10 80 0 0 0 0).1) 2)) 0 false) 0 false) 1).2)), (60, bv ((zdL (zaN (zaN (zax (nyS ((zag 10 80 0 0 0 0).1) 2)) 0 false) 0 false) 1).2)), (59, bv ((zdL (zaN (zaN (zax (nyS ((zag 10 80 0 0 0 0).1) 2)) 0 false) 0 false) 1).2))] ([cw (pl ((zag 10 80 0 0 0 0).1))] ++ T10) [⟨14, rd10, wr10, some ([cw (pl ((zag 10 80 0 0 0 0).1))] ++ T5).length⟩] (by kernel_rfl) rfl rfl (d_sp (b := (zdL (zaN (zaN (zax (nyS ((zag 10 80 0 0 0 0).1) 2)) 0 false) 0 false) 1).2) 61 rfl (fun k13 => ?_) (fun q => by rw [(by kernel_rfl : ((zdL (zaN (zaN (zax (nyS ((zag 10 80 0 0 0 0).1) 2)) 0 false) 0 false) 1).2) = true)] at q; cases q))
 refine d_n 4 25 _ [(65, bv (((zdL (zaN (zaN (zax (nyS ((zag 10 80 0 0 0 0).1) 2)) 0 false) 0 false) 1).1) == 0)), (64, bv (((zdL (zaN (zaN (zax (nyS ((zag 10 80 0 0 0 0).1) 2)) 0 false) 0 false) 1).1) == 0)), (63, bv (((zdL (zaN (zaN (zax (nyS ((zag 10 80 0 0 0 0).1) 2)) 0 false) 0 false) 1).1) == 0)), (62, iv ((zdL (zaN (zaN (zax (nyS ((zag 10 80 0 0 0 0).1) 2)) 0 false) 0 false) 1).1))] ([cw (pl ((zag 10 80 0 0 0 0).1))] ++ T10) [⟨14, rd10, wr10, some ([cw (pl ((zag 10 80 0 0 0 0).1))] ++ T5).length⟩] (by kernel_rfl) rfl rfl (d_sp (b := ((zdL (zaN (zaN (zax (nyS ((zag 10 80 0 0 0 0).1) 2)) 0 false) 0 false) 1).1) == 0) 65 rfl (fun k14 => ?_) (fun q => by rw [(by kernel_rfl : (((zdL (zaN (zaN (zax (nyS ((zag 10 80 0 0 0 0).1) 2)) 0 false) 0 false) 1).1) == 0) = true)] at q; cases q))
 refine d_n 1 26 _ [(66, pv 1 0)] ([cw (pl ((zag 10 80 0 0 0 0).1))] ++ T10) [⟨14, rd10, wr10, some ([cw (pl ((zag 10 80 0 0 0 0).1))] ++ T5).length⟩] (by kernel_rfl) rfl rfl (zd7 rfl (d_clK (by kernel_rfl) (by kernel_rfl) (zgV H hY10q (Nat.le_of_ble_eq_true (by kernel_rfl)) (ok_dlv (ok_dlv (zim (ok_nyS ((zag 10 80 0 0 0 0).1) (by decide) (by decide))) _ _) _ _).nok 0 false (spl rfl fun T14 hY14q => fun rd14 wr14 => ?_))))
 refine d_n 2 29 _ [(69, bv ((atS (zaN (zaN (zax (nyS ((zag 10 80 0 0 0 0).1) 2)) 0 false) 0 false).l 0).2)), (68, bv ((atS (zaN (zaN (zax (nyS ((zag 10 80 0 0 0 0).1) 2)) 0 false) 0 false).l 0).2))] ([cw (pl ((zag 10 80 0 0 0 0).1))] ++ T14) [⟨26, rd14, wr14, some ([cw (pl ((zag 10 80 0 0 0 0).1))] ++ T10).length⟩, ⟨14, rd10, wr10, some ([cw (pl ((zag 10 80 0 0 0 0).1))] ++ T5).length⟩] (by kernel_rfl) rfl rfl (d_sp (b := (atS (zaN (zaN (zax (nyS ((zag 10 80 0 0 0 0).1) 2)) 0 false) 0 false).l 0).2) 69 rfl (fun k16 => ?_) (fun q => by rw [(by kernel_rfl : ((atS (zaN (zaN (zax (nyS ((zag 10 80 0 0 0 0).1) 2)) 0 false) 0 false).l 0).2) = true)] at q; cases q))
 refine d_n 1 30 _ [(70, pv 1 0)] ([cw (pl ((zag 10 80 0 0 0 0).1))] ++ T14) [⟨26, rd14, wr14, some ([cw (pl ((zag 10 80 0 0 0 0).1))] ++ T10).length⟩, ⟨14, rd10, wr10, some ([cw (pl ((zag 10 80 0 0 0 0).1))] ++ T5).length⟩] (by kernel_rfl) rfl rfl (zd7 rfl (d_clK (by kernel_rfl) (by kernel_rfl) (YLoseK H hY14q (Nat.le_of_ble_eq_true (by kernel_rfl)) 0 (spl rfl fun T16 hY16q => fun rd16 wr16 => ?_))))
 refine d_n 2 33 _ [(73, bv ((atS (zaN (zaN (zaN (zax (nyS ((zag 10 80 0 0 0 0).1) 2)) 0 false) 0 false) 0 false).l 0).2)), (72, bv ((atS (zaN (zaN (zaN (zax (nyS ((zag 10 80 0 0 0 0).1) 2)) 0 false) 0 false) 0 false).l 0).2))] ([cw (pl ((zag 10 80 0 0 0 0).1))] ++ T16) [⟨30, rd16, wr16, some ([cw (pl ((zag 10 80 0 0 0 0).1))] ++ T14).length⟩, ⟨26, rd14, wr14, some ([cw (pl ((zag 10 80 0 0 0 0).1))] ++ T10).length⟩, ⟨14, rd10, wr10, some ([cw (pl ((zag 10 80 0 0 0 0).1))] ++ T5).length⟩] (by kernel_rfl) rfl rfl (d_sp (b := (atS (zaN (zaN (zaN (zax (nyS ((zag 10 80 0 0 0 0).1) 2)) 0 false) 0 false) 0 false).l 0).2) 73 rfl (fun k18 => ?_) (fun q => by rw [(by kernel_rfl : ((atS (zaN (zaN (zaN (zax (nyS ((zag 10 80 0 0 0 0).1) 2)) 0 false) 0 false) 0 false).l 0).2) = true)] at q; cases q))
 refine d_n 1 34 _ [(74, pv 1 0)] ([cw (pl ((zag 10 80 0 0 0 0).1))] ++ T16) [⟨30, rd16, wr16, some ([cw (pl ((zag 10 80 0 0 0 0).1))] ++ T14).length⟩, ⟨26, rd14, wr14, some ([cw (pl ((zag 10 80 0 0 0 0).1))] ++ T10).length⟩, ⟨14, rd10, wr10, some ([cw (pl ((zag 10 80 0 0 0 0).1))] ++ T5).length⟩] (by kernel_rfl) rfl rfl (zd7 rfl (d_clK (by kernel_rfl) (by kernel_rfl) (YLoseK H hY16q (Nat.le_of_ble_eq_true (by kernel_rfl)) 0 (spl rfl fun T18 hY18q => fun rd18 wr18 => ?_))))
 refine d_n 3 38 _ [(78, bv (!((atS (zcy (zaN (zaN (zaN (zax (nyS ((zag 10 80 0 0 0 0).1) 2)) 0 false) 0 false) 0 false) 0).l 0).2))), (77, bv (!((atS (zcy (zaN (zaN (zaN (zax (nyS ((zag 10 80 0 0 0 0).1) 2)) 0 false) 0 false) 0 false) 0).l 0).2))), (76, bv (!((atS (zcy (zaN (zaN (zaN (zax (nyS ((zag 10 80 0 0 0 0).1) 2)) 0 false) 0 false) 0 false) 0).l 0).2)))] ([cw (pl ((zag 10 80 0 0 0 0).1))] ++ T18) [⟨34, rd18, wr18, some ([cw (pl ((zag 10 80 0 0 0 0).1))] ++ T16).length⟩, ⟨30, rd16, wr16, some ([cw (pl ((zag 10 80 0 0 0 0).1))] ++ T14).length⟩, ⟨26, rd14, wr14, some ([cw (pl ((zag 10 80 0 0 0 0).1))] ++ T10).length⟩, ⟨14, rd10, wr10, some ([cw (pl ((zag 10 80 0 0 0 0).1))] ++ T5).length⟩] (by kernel_rfl) rfl rfl (d_sp (b := !((atS (zcy (zaN (zaN (zaN (zax (nyS ((zag 10 80 0 0 0 0).1) 2)) 0 false) 0 false) 0 false) 0).l 0).2)) 78 rfl (fun k20 => ?_) (fun q => by rw [(by kernel_rfl : (!((atS (zcy (zaN (zaN (zaN (zax (nyS ((zag 10 80 0 0 0 0).1) 2)) 0 false) 0 false) 0 false) 0).l 0).2)) = true)] at q; cases q))
 refine d_n 1 39 _ [(79, pv 1 0)] ([cw (pl ((zag 10 80 0 0 0 0).1))] ++ T18) [⟨34, rd18, wr18, some ([cw (pl ((zag 10 80 0 0 0 0).1))] ++ T16).length⟩, ⟨30, rd16, wr16, some ([cw (pl ((zag 10 80 0 0 0 0).1))] ++ T14).length⟩, ⟨26, rd14, wr14, some ([cw (pl ((zag 10 80 0 0 0 0).1))] ++ T10).length⟩, ⟨14, rd10, wr10, some ([cw (pl ((zag 10 80 0 0 0 0).1))] ++ T5).length⟩] (by kernel_rfl) rfl rfl (zd7 rfl (d_clS (zjo (x := ⟨39, [], [], none⟩) (by kernel_rfl)) (YPoolF H hY18q (spl rfl fun T20 hY20q => fun rd20 wr20 hw20 => ?_))))
 refine zd7 rfl (d_ldF (v := qG ((zag 10 80 0 0 0 0).1)) rfl rfl (zaU ((zag 10 80 0 0 0 0).1)) (fits_ld (by decide) hw20 (by simp) (fun y hy => .inr (zjo (x := ⟨40, [], [], none⟩) (by kernel_rfl) y hy))) ?_)
 refine zd7 rfl (d_s rfl rfl rfl (by kernel_rfl) (by refine run_eqa (a := ⟨pl ((zcy (zcy (zaN (zaN (zaN (zax (nyS ((zag 10 80 0 0 0 0).1) 2)) 0 false) 0 false) 0 false) 0) 0).x.p)⟩) (b := ⟨pl ((zag 10 80 0 0 0 0).1)⟩) (r := eqP ((zcy (zcy (zaN (zaN (zaN (zax (nyS ((zag 10 80 0 0 0 0).1) 2)) 0 false) 0 false) 0 false) 0) 0).x.p) ((zag 10 80 0 0 0 0).1)) (R := eqP ((zcy (zcy (zaN (zaN (zaN (zax (nyS ((zag 10 80 0 0 0 0).1) 2)) 0 false) 0 false) 0 false) 0) 0).x.p) ((zag 10 80 0 0 0 0).1)) ?_ rfl; exact eqP_run ((zcy (zcy (zaN (zaN (zaN (zax (nyS ((zag 10 80 0 0 0 0).1) 2)) 0 false) 0 false) 0 false) 0) 0).x.p) ((zag 10 80 0 0 0 0).1) rfl rfl) ?_)
 refine d_n 2 44 _ [(0, bv (eqP ((zcy (zcy (zaN (zaN (zaN (zax (nyS ((zag 10 80 0 0 0 0).1) 2)) 0 false) 0 false) 0 false) 0) 0).x.p) ((zag 10 80 0 0 0 0).1))), (83, bv (eqP ((zcy (zcy (zaN (zaN (zaN (zax (nyS ((zag 10 80 0 0 0 0).1) 2)) 0 false) 0 false) 0 false) 0) 0).x.p) ((zag 10 80 0 0 0 0).1)))] ([cw (pl ((zag 10 80 0 0 0 0).1))] ++ T20) [⟨40, [0], [], none⟩, ⟨39, rd20, wr20, some ([cw (pl ((zag 10 80 0 0 0 0).1))] ++ T18).length⟩, ⟨34, rd18, wr18, some ([cw (pl ((zag 10 80 0 0 0 0).1))] ++ T16).length⟩, ⟨30, rd16, wr16, some ([cw (pl ((zag 10 80 0 0 0 0).1))] ++ T14).length⟩, ⟨26, rd14, wr14, some ([cw (pl ((zag 10 80 0 0 0 0).1))] ++ T10).length⟩, ⟨14, rd10, wr10, some ([cw (pl ((zag 10 80 0 0 0 0).1))] ++ T5).length⟩] (by kernel_rfl) rfl rfl (zbW (z9 [(0, bv (eqP ((zcy (zcy (zaN (zaN (zaN (zax (nyS ((zag 10 80 0 0 0 0).1) 2)) 0 false) 0 false) 0 false) 0) 0).x.p) ((zag 10 80 0 0 0 0).1)))] (by kernel_rfl) (zbr ?_)))
 have E0_ : (eqP ((zcy (zcy (zaN (zaN (zaN (zax (nyS ((zag 10 80 0 0 0 0).1) 2)) 0 false) 0 false) 0 false) 0) 0).x.p) ((zag 10 80 0 0 0 0).1)) = true := by
  kernel_rfl
 exact zar [bv (eqP ((zcy (zcy (zaN (zaN (zaN (zax (nyS ((zag 10 80 0 0 0 0).1) 2)) 0 false) 0 false) 0 false) 0) 0).x.p) ((zag 10 80 0 0 0 0).1))] (qB rfl rfl) rfl (by rw [E0_]; rfl) rfl rfl
end Go.Rh

set_option maxHeartbeats 8000000
namespace Go.Rh
end Go.Rh

namespace Go.Rh
theorem lk_at {hd : List (Int × Int)} {u : Nat} (h : u < hd.length) : lkS hd (u : Nat) = (hd.getD u (0, 0), true) := by
 unfold lkS; rw [if_pos ⟨by omega, by omega⟩]; rfl
def bb (l : List Bool) : List Value := l.map .bool
def rotE (a b : Int) : Ent := ⟨6, 0, 0, 0, 0, a, b⟩
def Rots (l : List Ent) : Prop := ∀ e ∈ l, ∃ a b, e = rotE a b
theorem Rots.nil : Rots [] := by intro e h; simp at h
def coldS (p : qO) (u : Nat) (w : List Ent) : HS := ⟨p, w, List.replicate u (0, -1), e0, false⟩
theorem cold_new (p : qO) {u : Int} : newHS p u = coldS p u.toNat [] := rfl
def hdk (v : Int) (u k : Nat) : List (Int × Int) := List.replicate k (0, v) ++ List.replicate (u - k) (0, -1)
end Go.Rh

namespace Go.Rh
def wn (p : qO) (u : Nat) : Nt := ⟨(u : Nat), 0, p 0, true, false, e0, p⟩
def an (p : qO) (u : Int) : Nt := ⟨u, 0, p 0, false, true, e0, zH⟩
def dn : UP := ⟨zH, false, 0, nr0⟩
def up1 (p : qO) : UP := ⟨p, true, 0, nr0⟩
theorem ver_at {S : YS} {u : Nat} (h : u < S.n) : zdL S (u : Nat) = ((S.us u).p 0, (S.us u).is) := by
 unfold zdL inU
 rw [if_pos (decide_eq_true ⟨by omega, by omega⟩)]
 simp
end Go.Rh

namespace Go.Rh
theorem atS_snd (l : List Nt) (k : Int) : (atS l k).2 = decide (0 ≤ k ∧ k < l.length) := by
 unfold atS; by_cases h : 0 ≤ k ∧ k < (l.length : Int)
 ·rw [if_pos h, decide_eq_true h]
 ·rw [if_neg h, decide_eq_false h]
theorem zhB {α β : Type} (f : α → β) : ∀ (l : List α) (k : Nat), (l.map f).eraseIdx k = (l.eraseIdx k).map f
 | [], _ => rfl
 | _ :: _, 0 => rfl
 | a :: l, k + 1 => by simp [zhB f l k]
def upL (p : qO) (js : List Nat) : Nat → UP := fun j => if j ∈ js then up1 p else dn
structure LossI (p : qO) (U : Nat) (S : YS) (n : Int) (js : List Nat) : Prop where
  nd : js.Nodup
  lt : ∀ j ∈ js, j < U
  l : S.l = js.map (wn p)
  us : S.us = fun _ => dn
  sn : S.n = U
  n : n = js.length
theorem LossI.lose {p : qO} {U : Nat} {S : YS} {n k : Int} {js : List Nat} (h : LossI p U S n js) (hk : 0 ≤ k ∧ k < n) : LossI p U (zcy S k) (n - 1) (js.eraseIdx k.toNat) := by
 have hn := h.n
 have hlen : S.l.length = js.length := by rw [h.l]; simp
 refine ⟨h.nd.sublist (List.eraseIdx_sublist js _), fun j hj => h.lt j (List.mem_of_mem_eraseIdx hj), ?_, h.us, h.sn, ?_⟩
 ·show zeb S.l k = _
  unfold zeb
  rw [if_pos (by rw [atS_snd]; exact decide_eq_true (by omega)), h.l, zhB]
 ·rw [List.length_eraseIdx_of_lt (by omega)]; omega
theorem LossI.out {p : qO} {U : Nat} {S : YS} {n k : Int} {js : List Nat} (h : LossI p U S n js) (hk : ¬ (0 ≤ k ∧ k < n)) : LossI p U (zcy S k) n js := by
 have hn := h.n
 have hlen : S.l.length = js.length := by rw [h.l]; simp
 have e : zeb S.l k = S.l := by unfold zeb; rw [if_neg (by rw [atS_snd]; simp; omega)]
 refine ⟨h.nd, h.lt, ?_, h.us, h.sn, hn⟩
 show zeb S.l k = _
 rw [e, h.l]
theorem LossI.len {p : qO} {U : Nat} {S : YS} {n : Int} {js : List Nat} (h : LossI p U S n js) : (S.l.length : Int) = n := by rw [h.l, h.n]; simp
theorem LossI.at_ {p : qO} {U : Nat} {S : YS} {n : Int} {js : List Nat} (h : LossI p U S n js) (k : Int) : (atS S.l k).2 = decide (0 ≤ k ∧ k < n) := by rw [atS_snd, h.len]
theorem LossI.any {p : qO} {U : Nat} {S : YS} {n : Int} {js : List Nat} (h : LossI p U S n js) (k : Int) : ((zcy S k).l.length : Int) = if 0 ≤ k ∧ k < n then n - 1 else n := by
 by_cases hk : 0 ≤ k ∧ k < n
 ·rw [if_pos hk]; exact (h.lose hk).len
 ·rw [if_neg hk]; exact (h.out hk).len
theorem LossI.le {p : qO} {U : Nat} {S : YS} {n : Int} {js : List Nat} (h : LossI p U S n js) : n ≤ U ∧ 0 ≤ n := by
 have e : js.length ≤ U := by
  have hp : ((List.range U).filter (fun j => decide (j ∈ js))).Perm js := (List.perm_ext_iff_of_nodup (List.nodup_range.sublist (List.filter_sublist (p := fun j => decide (j ∈ js)))) h.nd).2 fun a => by
   simp only [List.mem_filter, List.mem_range, decide_eq_true_eq]
   exact ⟨fun h => h.2, fun q => ⟨h.lt a q, q⟩⟩
  have h1 := hp.length_eq
  have h2 := List.length_filter_le (fun j => decide (j ∈ js)) (List.range U)
  simp at h2; omega
 have := h.n; omega
structure DlvI (p : qO) (U : Nat) (js : List Nat) (m : Nat) (S : YS) : Prop where
  sn : S.n = U
  way : (m ≤ js.length ∧ S.l = (js.drop m).map (wn p) ++ (js.take m).map (fun (j : Nat) => an p (j : Int)) ∧ S.us = upL p (js.take m)) ∨ (js.length ≤ m ∧ m ≤ 2 * js.length ∧ S.l = (js.drop (m - js.length)).map (fun (j : Nat) => an p (j : Int)) ∧ S.us = upL p js)
theorem DlvI.more {p : qO} {U : Nat} {S : YS} {js : List Nat} {m : Nat} (h : DlvI p U js m S) : (atS S.l 0).2 = decide (m < 2 * js.length) := by
 have e : ((0 : Int) ≤ 0 ∧ (0 : Int) < S.l.length) ↔ m < 2 * js.length := by
  rcases h.way with ⟨h1, h2, _⟩ | ⟨h1, h3, h2, _⟩
  ·rw [h2]; simp; omega
  ·rw [h2]; simp; omega
 rw [atS_snd]; exact decide_eq_decide.2 e
theorem DlvI.lt {p : qO} {U : Nat} {S : YS} {js : List Nat} {m : Nat} (h : DlvI p U js m S) (hm : (atS S.l 0).2 = true) : m < 2 * js.length := by rw [h.more] at hm; exact of_decide_eq_true hm
end Go.Rh

namespace Go.Rh
end Go.Rh

namespace Go.Rh
section
variable {C : qW} {g : String} {G : Nat → Prop} {y n : Nat} {x x' : HS} {us us' : Nat → US} {l l' : List Nt} {h : List Blk} {V A A' : Value} {K : zdX} {kx : Nat} {eb : Blk}
theorem glueW (hY : YT G y n x us l h) (hkx : h[kx]? = some eb) (hnk : ¬ G kx) (heb : ∀ ρ, zaR ρ eb = eb) (hvi : ∀ ρ, Blk.view (zaR ρ eb) eb) (hA : ∀ (sel : List Nat) (n : Nat), rho sel n 6 = kx → zbw (rho sel n) A = A') (hV : vpf V = true)
  (hC : ∀ m o, gOk l o → ∃ R, C g [pv 0 0, A] (laA n m x 5 l o ++ [gB l o, eb]) R ∧ ∀ v h', R v h' → v = V ∧ h' = laA n m x' 5 l o ++ [gB l o, eb])
  (hK : ∀ h', YT G y n x' us l h' → FrY G h h' → K V h') : zcl C g [pv y 0, A'] K h := by
 obtain ⟨m, o, pl, Y, rfl, hlo, h1, h16, hll⟩ := hY
 obtain ⟨R, hC, hR⟩ := hC m o Y.ok
 have hsel : ∀ (i k : Nat), ([pl 0, pl 1, pl 2, pl 3, pl 4, pl 5, kx])[i]? = some k → (i < 6 ∧ pl i = k) ∨ (i = 6 ∧ k = kx) := fun i k e => by
  match i, e with
  | 0, e | 1, e | 2, e | 3, e | 4, e | 5, e => exact .inl ⟨by omega, by simpa using e⟩
  | 6, e => exact .inr ⟨rfl, by simpa using e.symm⟩
  | i + 7, e => simp at e
 have hne : ∀ a, a < 6 + 4 * n → pl a ≠ kx := fun a ha e => hnk (e ▸ hlo a ha)
 have hinj : ∀ (i j k : Nat), ([pl 0, pl 1, pl 2, pl 3, pl 4, pl 5, kx])[i]? = some k → ([pl 0, pl 1, pl 2, pl 3, pl 4, pl 5, kx])[j]? = some k → i = j := fun i j k e1 e2 => by
  rcases hsel i k e1 with ⟨a1, a2⟩ | ⟨a1, a2⟩ <;> rcases hsel j k e2 with ⟨b1, b2⟩ | ⟨b1, b2⟩
  ·exact Y.inj i j (by omega) (by omega) (a2.trans b2.symm)
  ·exact absurd (a2.trans b2) (hne i (by omega))
  ·exact absurd (b2.trans a2) (hne j (by omega))
  ·omega
 have hview := zeu (ρ := rho [pl 0, pl 1, pl 2, pl 3, pl 4, pl 5, kx] h.length) (h := h) (sel := [pl 0, pl 1, pl 2, pl 3, pl 4, pl 5, kx]) (bs := laA n m x 5 l o ++ [gB l o, eb]) ⟨⟨_, Y.y, zZ (.inl (zao rfl rfl (qP o rfl) (fun q => q)))⟩, ⟨_, Y.hd, zZ (.inl (zb4 rfl rfl (fun q => q)))⟩, ⟨_, Y.hc, zZ (.inl (zb5 _))⟩, ⟨_, Y.hm, zZ (.inl (zcP _))⟩, ⟨_, Y.ur, .inr ⟨rfl, _, _, rfl⟩⟩, ⟨_, Y.way, zb3 Y.ok⟩, ⟨_, hkx, hvi _⟩, trivial⟩
 refine ⟨[pl 0, pl 1, pl 2, pl 3, pl 4, pl 5, kx], laA n m x 5 l o ++ [gB l o, eb], [pv 0 0, A], R, hC, rfl, ?_, hview, fun i j k b1 hij e1 e2 _ => absurd (hinj i j k e1 e2) hij, fun v h1' hRv hlen hfl => ?_⟩
 ·exact zan rfl (zan (hA _ _ rfl) rfl)
 ·obtain ⟨rfl, rfl⟩ := hR v h1' hRv
  have hgo : zee (laA n m x 5 l o ++ [gB l o, eb]) (laA n m x' 5 l o ++ [gB l o, eb]) := zA qD (zA qD (zA (fun h => by cases h) (zA (fun h => by cases h) (zA zD (zA zD (zA zD z4))))))
  refine ⟨hgo, ?_⟩
  rw [qE hV]
  have at_ : ∀ (i : Nat) b, i < 6 → (laA n m x' 5 l o ++ [gB l o, eb])[i]? = some b → b.rw = true → (zdK h [pl 0, pl 1, pl 2, pl 3, pl 4, pl 5, kx] (laA n m x' 5 l o ++ [gB l o, eb]) (rho [pl 0, pl 1, pl 2, pl 3, pl 4, pl 5, kx] h.length))[pl i]? = some (zaR (rho [pl 0, pl 1, pl 2, pl 3, pl 4, pl 5, kx] h.length) b) := fun i b hi hb hr => by
   have hs' : ([pl 0, pl 1, pl 2, pl 3, pl 4, pl 5, kx])[i]? = some (pl i) := by
    match i, hi with
    | 0, _ | 1, _ | 2, _ | 3, _ | 4, _ | 5, _ => rfl
   exact ziG (Y.lt (by omega)) (fun j hj => hinj j i _ hj hs') hs' hb hr
  have keep_ : ∀ a, a < 6 + 4 * n → 6 ≤ a ∨ a = 4 → (zdK h [pl 0, pl 1, pl 2, pl 3, pl 4, pl 5, kx] (laA n m x' 5 l o ++ [gB l o, eb]) (rho [pl 0, pl 1, pl 2, pl 3, pl 4, pl 5, kx] h.length))[pl a]? = h[pl a]? := fun a ha h6 => zdq (Y.lt ha) fun j b e1 e2 => by
   rcases hsel j _ e1 with ⟨a1, a2⟩ | ⟨a1, a2⟩
   ·have := Y.inj j a (by omega) ha a2
    have : j = 4 := by omega
    subst this
    have : b = cr [] := by simpa [laA] using e2.symm
    rw [this]; rfl
   ·exact absurd a2 (hne a ha)
  refine hK _ ⟨m, o, pl, ⟨Y.inj, Y.ro0, ?_, ?_, ?_, ?_, ?_, ?_, Y.ok, ?_, ?_, ?_, ?_⟩, rfl, hlo, h1, h16, fun k hk => hll k (Nat.le_trans zen hk)⟩ ⟨fun k hk => ?_, zen, ziv hgo rfl hview⟩
  ·rw [at_ 0 _ (by omega) rfl rfl]; exact congrArg some (zat rfl rfl (qP o rfl))
  ·rw [at_ 1 _ (by omega) rfl rfl]; exact congrArg some (zb7 rfl rfl)
  ·rw [at_ 2 _ (by omega) rfl rfl]; exact congrArg some (zU _)
  ·rw [at_ 3 _ (by omega) rfl rfl]; exact congrArg some (qA _)
  ·rw [keep_ 4 (by omega) (.inr rfl)]; exact Y.ur
  ·rw [at_ 5 (gB l o) (by omega) rfl (by cases o <;> rfl), qQ Y.ok]
  ·intro j hj; rw [keep_ _ (by omega) (.inl (by omega))]; exact Y.un j hj
  ·intro j hj; rw [keep_ _ (by omega) (.inl (by omega))]; exact Y.pn j hj
  ·intro j hj; rw [keep_ _ (by omega) (.inl (by omega))]; exact Y.ch j hj
  ·intro j hj; rw [keep_ _ (by omega) (.inl (by omega))]; exact Y.wh j hj
  ·by_cases e : k = kx
   ·subst e
    have hkl := zJ hkx
    cases hr : eb.rw with
    | true =>
     have := ziG (ρ := rho [pl 0, pl 1, pl 2, pl 3, pl 4, pl 5, k] h.length) (h1 := laA n m x' 5 l o ++ [gB l o, eb]) (i := 6) hkl (fun j hj => hinj j 6 _ hj rfl) rfl rfl hr
     rw [this, heb, hkx]
    | false =>
     refine zdq hkl fun j b e1 e2 => ?_
     have hj : j = 6 := hinj j 6 _ e1 rfl
     subst hj
     have : b = eb := by simpa [laA] using e2.symm
     rw [this]; exact hr
   ·exact zdq (Nat.lt_of_not_le fun q => hk (hll k q)) fun j b e1 _ => by
     rcases hsel j _ e1 with ⟨a1, a2⟩ | ⟨a1, a2⟩
     ·exact absurd (a2 ▸ hlo j (by omega)) hk
     ·exact absurd a2 e
theorem YT.mono {G' : Nat → Prop} (h1 : ∀ k, G k → G' k) (hY : YT G y n x us l h) : YT G' y n x us l h := by
 obtain ⟨m, o, pl, Y, e, hlo, h1', h16, hll⟩ := hY
 exact ⟨m, o, pl, Y, e, fun a ha => h1 _ (hlo a ha), h1', h16, fun k hk => h1 _ (hll k hk)⟩
theorem zba {b : Blk} {k : Nat} {z : Blk} (e : h[k]? = some z) : (h ++ [b])[k]? = some z := by rw [List.getElem?_append_left (zJ e)]; exact e
theorem YT.push {b : Blk} (hY : YT G y n x us l h) : YT (fun k => G k ∧ k ≠ h.length) y n x us l (h ++ [b]) := by
 obtain ⟨m, o, pl, Y, e, hlo, h1', h16, hll⟩ := hY
 refine ⟨m, o, pl, ⟨Y.inj, Y.ro0, zba Y.y, zba Y.hd, zba Y.hc, zba Y.hm, zba Y.ur, zba Y.way, Y.ok, fun j hj => zba (Y.un j hj), fun j hj => zba (Y.pn j hj), fun j hj => zba (Y.ch j hj), fun j hj => ?_⟩, e, fun a ha => ⟨hlo a ha, fun q => ?_⟩, h1', h16, fun k hk => ?_⟩
 ·obtain ⟨B, hB, hw⟩ := Y.wh j hj; exact ⟨B, zba hB, hw⟩
 ·have := Y.lt ha; omega
 ·simp only [List.length_append, List.length_singleton] at hk
  exact ⟨hll k (by omega), by omega⟩
theorem FrY.mono {F F' : Nat → Prop} {a b : List Blk} (h1 : ∀ k, F k → F' k) (hF : FrY F a b) : FrY F' a b := ⟨fun k hk => hF.fr k fun q => hk (h1 k q), hF.len, hF.gone⟩
end
section
variable {P : Program} {F : Nat → Prop} {y : Nat} {s : YS} {h : List Blk} {K : zdX}
theorem YP.push {b : Blk} (hY : YP F y s h) : YP (fun k => F k ∧ k ≠ h.length) y s (h ++ [b]) := by
 obtain ⟨q, hq, hY⟩ := hY; exact ⟨q, hq, hY.push⟩
theorem YP.mono {F' : Nat → Prop} (h1 : ∀ k, F k → F' k) (hY : YP F y s h) : YP F' y s h := by
 obtain ⟨q, hq, hY⟩ := hY; exact ⟨q, hq, hY.mono h1⟩
def wishY (s : YS) (x : List Ent) : YS := { s with x := (zb2 s.x x).2 }
theorem zgW (z : HS) (x : List Ent) : (zb2 z x).2 = ⟨z.p, (zb2 z x).2.w, z.hd, z.e, z.s⟩ := by
 unfold zb2; split
 ·rfl
 ·split <;> rfl
theorem view_sl {ρ : Nat → Nat} {x : List Ent} {q : Option Nat} : Blk.view (zaR ρ (slB zE (qV x) q)) (slB zE (qV x) q) := by
 cases q with
 | none => exact .inl (.inr ⟨rfl, rfl⟩)
 | some m => exact zZ (.inl (zch (zaD _ _) (fun q => q)))
theorem ren_sl {ρ : Nat → Nat} {x : List Ent} {q : Option Nat} : zaR ρ (slB zE (qV x) q) = slB zE (qV x) q := by
 cases q with
 | none => rfl
 | some m => exact zbk (zaD _ _)
theorem YWishK (H : YCode P) (hY : YP F y s h) (hw : s.x.w.length ≤ 200) {kx : Nat} {x : List Ent} {q : Option Nat} (hq : q = none → x = []) (hx : x.length ≤ 1000000) (hkx : h[kx]? = some (slB zE (qV x) q)) (hnk : ¬ F kx)
  (hK : ∀ h', YP F y (wishY s x) h' → FrY F h h' → K (iv (zb2 s.x x).1) h') : zcl (Env P) "(*roundhouse/yard.Yard).Wish" [pv y 0, slV kx x.length q] K h := by
 obtain ⟨q0, hq0, hY⟩ := hY
 refine glueW (kx := kx) (eb := slB zE (qV x) q) (A := slV 6 x.length q) (V := iv (zb2 s.x x).1) (x' := (zb2 s.x x).2) hY hkx hnk (fun ρ => ren_sl) (fun ρ => view_sl) (fun sel n h6 => za9 q h6) rfl (fun m o ho => ⟨_, YWishC H.h_yard_Yard_Wish H.h_head_Head_Wish H.h_head_Head_waiting H.h_pool_All H.h_pool_Apply H.h_pool_may H.h_pool_held H.h_pool_fits H.h_pool_Check H.h_pool_placed H.h_cookie_Next s.x.p s.x.w s.x.hd s.x.e s.x.s s.n m s.l o ho x q hw hq hx, ?_⟩) (fun h' hT => hK h' ⟨q0, hq0, hT⟩)
 rintro v h' ⟨rfl, rfl⟩
 refine ⟨rfl, ?_⟩
 have e := zgW s.x x
 rw [e]; rfl
theorem YWishP (H : YCode P) (hY : YP F y s h) (hF : ∀ k, h.length ≤ k → F k) (hw : s.x.w.length ≤ 200) {x : List Ent} {m : Nat} (hx : x.length ≤ 1000000)
  (hK : ∀ h', YP F y (wishY s x) h' → FrY F (h ++ [slB zE (qV x) (some m)]) h' → K (iv (zb2 s.x x).1) h') : zcl (Env P) "(*roundhouse/yard.Yard).Wish" [pv y 0, slV h.length x.length (some m)] K (h ++ [slB zE (qV x) (some m)]) :=
 YWishK H (hY.push (b := slB zE (qV x) (some m))) hw (fun z => by cases z) hx (by rw [List.getElem?_append_right (Nat.le_refl _)]; simp) (fun q => q.2 rfl) (fun h' h1 h2 => hK h' (h1.mono fun k q => q.1) (h2.mono fun k q => q.1))
theorem okW {S : YS} (h : YOK S) (x : List Ent) : YOK (wishY S x) := by
 refine ⟨?_, h.n, fun nt hm ha => h.nok nt hm ha⟩
 show (zb2 S.x x).2.hd.length = _
 rw [zgW]; exact h.hd
end
end Go.Rh

namespace Go.Rh
def zjk (S : YS) (m : Nt) : Prop :=
  0 ≤ m.u ∧ m.u < S.n ∧ m.v ≤ S.x.p 0 ∧
  (if m.a = true then m.b ≤ (S.us m.u.toNat).b ∧ (m.b = (S.us m.u.toNat).b → 0 ≤ m.v → (S.us m.u.toNat).is = true ∧ m.v ≤ (S.us m.u.toNat).p 0)
   else m.b ≤ (S.x.hd.getD m.u.toNat (0, 0)).1 ∧ (m.w = true → m.p 0 = m.v) ∧ (m.w = true → m.b = (S.us m.u.toNat).b → (S.us m.u.toNat).is = false → m.v = S.x.p 0))
structure AI (S : YS) (i : Nat) : Prop where
  ver : 0 ≤ S.x.p 0 ∧ S.x.p 0 ≤ i
  len : S.x.hd.length = S.n
  w : S.x.w.length ≤ 200
  bb : ∀ j, j < S.n → 0 ≤ (S.us j).b ∧ (S.us j).b ≤ i
  bo : ∀ j, j < S.n → (S.x.hd.getD j (0, 0)).1 ≤ (S.us j).b
  kn : ∀ j, j < S.n → (S.x.hd.getD j (0, 0)).1 = (S.us j).b → 0 ≤ (S.x.hd.getD j (0, 0)).2 → (S.us j).is = true ∧ (S.x.hd.getD j (0, 0)).2 ≤ (S.us j).p 0
  vw : ∀ j, j < S.n → (S.x.hd.getD j (0, 0)).2 ≤ S.x.p 0
  up : ∀ j, j < S.n → (S.us j).is = true → (S.x.hd.getD j (0, 0)).1 = (S.us j).b ∧ S.x.p 0 - 1 ≤ (S.us j).p 0 ∧ (S.us j).p 0 ≤ S.x.p 0
  nt : ∀ m ∈ S.l, zjk S m
theorem AI.more {S : YS} {i k : Nat} (h : AI S i) (hk : i ≤ k) : AI S k := ⟨⟨h.ver.1, by have := h.ver.2; omega⟩, h.len, h.w, fun j hj => by have := h.bb j hj; omega, h.bo, h.kn, h.vw, h.up, h.nt⟩
theorem AI.wish {S : YS} {i : Nat} (h : AI S i) (x : List Ent) : AI (wishY S x) i := by
 have hw : (zb2 S.x x).2.w.length ≤ 200 := by
  unfold zb2
  split
  ·exact h.w
  ·split
   ·exact h.w
   ·rename_i h1 _; show (S.x.w ++ x).length ≤ 200; rw [List.length_append]; omega
 have e : (zb2 S.x x).2 = ⟨S.x.p, (zb2 S.x x).2.w, S.x.hd, S.x.e, S.x.s⟩ := zgW _ _
 unfold wishY
 rw [e]
 exact ⟨h.ver, h.len, hw, h.bb, h.bo, h.kn, h.vw, h.up, h.nt⟩
theorem AI.lose {S : YS} {i : Nat} (h : AI S i) (k : Int) : AI (zcy S k) i := by
 refine ⟨h.ver, h.len, h.w, h.bb, h.bo, h.kn, h.vw, h.up, fun m hm => ?_⟩
 have hm : m ∈ zeb S.l k := hm
 have : m ∈ S.l := by
  unfold zeb at hm
  split at hm
  ·exact List.mem_of_mem_eraseIdx hm
  ·exact hm
 exact h.nt m this
theorem AI.crash {S : YS} {i : Nat} (h : AI S i) (hi : i ≤ 1000) (u : Int) : AI (zel S u) (i + 1) := by
 unfold zel
 split
 case isFalse => exact h.more (by omega)
 rename_i hin
 obtain ⟨h0, h1⟩ := of_decide_eq_true hin
 have hu : u.toNat < S.n := by omega
 have hbu := h.bb _ hu
 have hwr : i64.wrap ((S.us u.toNat).b + 1) = (S.us u.toNat).b + 1 := w64 (by omega) (by omega)
 have key : ∀ j, zdh S.us u.toNat (zcK (S.us u.toNat)) j = if j = u.toNat then ⟨zH, false, (S.us u.toNat).b + 1, nr0⟩ else S.us j := fun j => by
  unfold zdh zcK; rw [hwr]
 refine ⟨⟨h.ver.1, by have := h.ver.2; show S.x.p 0 ≤ _; omega⟩, h.len, h.w, fun j hj => ?_, fun j hj => ?_, fun j hj e1 e2 => ?_, h.vw, fun j hj e => ?_, fun m hm => ?_⟩
 ·show 0 ≤ (zdh S.us u.toNat (zcK (S.us u.toNat)) j).b ∧ (zdh S.us u.toNat (zcK (S.us u.toNat)) j).b ≤ _
  rw [key]; have := h.bb j hj
  split
  ·show 0 ≤ (S.us u.toNat).b + 1 ∧ (S.us u.toNat).b + 1 ≤ _; omega
  ·omega
 ·show _ ≤ (zdh S.us u.toNat (zcK (S.us u.toNat)) j).b
  rw [key]; have := h.bo j hj
  split
  ·rename_i e; subst e; show _ ≤ (S.us u.toNat).b + 1; exact Int.le_trans this (by omega)
  ·exact this
 ·have e1 : (S.x.hd.getD j (0, 0)).1 = (zdh S.us u.toNat (zcK (S.us u.toNat)) j).b := e1
  show (zdh S.us u.toNat (zcK (S.us u.toNat)) j).is = true ∧ _ ≤ (zdh S.us u.toNat (zcK (S.us u.toNat)) j).p 0
  rw [key] at e1 ⊢
  have := h.bo j hj
  split
  ·rename_i e; subst e
   rw [if_pos rfl] at e1
   have e1 : (S.x.hd.getD u.toNat (0, 0)).1 = (S.us u.toNat).b + 1 := e1
   omega
  ·rename_i e; rw [if_neg e] at e1
   exact h.kn j hj e1 e2
 ·have e : (zdh S.us u.toNat (zcK (S.us u.toNat)) j).is = true := e
  show (S.x.hd.getD j (0, 0)).1 = (zdh S.us u.toNat (zcK (S.us u.toNat)) j).b ∧ _ ≤ (zdh S.us u.toNat (zcK (S.us u.toNat)) j).p 0 ∧ (zdh S.us u.toNat (zcK (S.us u.toNat)) j).p 0 ≤ _
  rw [key] at e ⊢
  split at e
  ·cases e
  ·rename_i q; rw [if_neg q]; exact h.up j hj e
 ·obtain ⟨a1, a2, a3, a4⟩ := h.nt m hm
  refine ⟨a1, a2, a3, ?_⟩
  show if m.a = true then m.b ≤ (zdh S.us u.toNat (zcK (S.us u.toNat)) m.u.toNat).b ∧ (m.b = (zdh S.us u.toNat (zcK (S.us u.toNat)) m.u.toNat).b → 0 ≤ m.v → (zdh S.us u.toNat (zcK (S.us u.toNat)) m.u.toNat).is = true ∧ m.v ≤ (zdh S.us u.toNat (zcK (S.us u.toNat)) m.u.toNat).p 0) else m.b ≤ (S.x.hd.getD m.u.toNat (0, 0)).1 ∧ (m.w = true → m.p 0 = m.v) ∧ (m.w = true → m.b = (zdh S.us u.toNat (zcK (S.us u.toNat)) m.u.toNat).b → (zdh S.us u.toNat (zcK (S.us u.toNat)) m.u.toNat).is = false → m.v = S.x.p 0)
  rw [key]
  by_cases e : m.u.toNat = u.toNat
  ·rw [if_pos e]
   rw [e] at a4
   split at a4
   ·rename_i ha; rw [if_pos ha]
    refine ⟨Int.le_trans a4.1 (by show _ ≤ (S.us u.toNat).b + 1; omega), fun q => ?_⟩
    have q : m.b = (S.us u.toNat).b + 1 := q
    have := a4.1; omega
   ·rename_i ha; rw [if_neg ha]
    have hbo := h.bo _ hu
    refine ⟨by rw [e]; exact a4.1, a4.2.1, fun _ q => ?_⟩
    have q : m.b = (S.us u.toNat).b + 1 := q
    have := a4.1; omega
  ·rw [if_neg e]; exact a4
theorem AI.sub {S : YS} {i : Nat} (h : AI S i) {l : List Nt} (hl : ∀ m ∈ l, m ∈ S.l) : AI { S with l := l } i := ⟨h.ver, h.len, h.w, h.bb, h.bo, h.kn, h.vw, h.up, fun m hm => h.nt m (hl m hm)⟩
theorem AI.add {S : YS} {i : Nat} (h : AI S i) {l : List Nt} (hl : ∀ m ∈ l, zjk S m) : AI { S with l := S.l ++ l } i := ⟨h.ver, h.len, h.w, h.bb, h.bo, h.kn, h.vw, h.up, fun m hm => (List.mem_append.1 hm).elim (h.nt m) (hl m)⟩
theorem allW_at {hd : List (Int × Int)} {v : Int} (h : allW hd v = true) {j : Nat} (hj : j < hd.length) : (hd.getD j (0, 0)).2 = v := by
 have := List.all_eq_true.1 h (hd[j]) (List.getElem_mem hj)
 rw [List.getD_eq_getElem?_getD, List.getElem?_eq_getElem hj]
 exact beq_iff_eq.1 this
theorem AI.go {S : YS} {i : Nat} (h : AI S i) (hi : i ≤ 1000) : AI { S with x := goS S.x } (i + 1) := by
 unfold goS
 split
 case isFalse => exact h.more (by omega)
 rename_i hall
 unfold pubS
 split
 ·exact h.more (by omega)
 ·rename_i e r hw
  have hwl := h.w
  rw [hw] at hwl
  have hbb : ∀ j, j < S.n → 0 ≤ (S.us j).b ∧ (S.us j).b ≤ ((i + 1 : Nat) : Int) := fun j hj => by have := h.bb j hj; omega
  split
  ·rename_i hs
   have hv : (z2 S.x.p e).1 0 = S.x.p 0 + 1 := by rw [apply_ver hs, w64 (by have := h.ver; omega) (by have := h.ver; omega)]
   have hver := h.ver
   have hat := fun j (hj : j < S.n) => allW_at hall (j := j) (by rw [h.len]; exact hj)
   refine ⟨by show 0 ≤ (z2 S.x.p e).1 0 ∧ (z2 S.x.p e).1 0 ≤ _; omega, h.len, by simp at hwl; show r.length ≤ 200; omega, hbb, h.bo, h.kn, fun j hj => ?_, fun j hj q => ?_, fun m hm => ?_⟩
   ·show _ ≤ (z2 S.x.p e).1 0
    have := h.vw j hj; rw [hv]; exact Int.le_trans this (by omega)
   ·show _ ∧ (z2 S.x.p e).1 0 - 1 ≤ _ ∧ _ ≤ (z2 S.x.p e).1 0
    obtain ⟨q1, q2, q3⟩ := h.up j hj q
    obtain ⟨_, q5⟩ := h.kn j hj q1 (by rw [hat j hj]; exact h.ver.1)
    rw [hat j hj] at q5
    have r1 : (z2 S.x.p e).1 0 - 1 ≤ (S.us j).p 0 := by omega
    have r2 : (S.us j).p 0 ≤ (z2 S.x.p e).1 0 := by omega
    exact ⟨q1, r1, r2⟩
   ·obtain ⟨a1, a2, a3, a4⟩ := h.nt m hm
    refine ⟨a1, a2, by show m.v ≤ (z2 S.x.p e).1 0; omega, ?_⟩
    split at a4
    ·rename_i ha; rw [if_pos ha]; exact a4
    ·rename_i ha; rw [if_neg ha]
     refine ⟨a4.1, a4.2.1, fun _ q1 q2 => ?_⟩
     have hj : m.u.toNat < S.n := by omega
     have hb := h.bo _ hj
     have hk := (h.kn _ hj (by have := a4.1; show _ = (S.us m.u.toNat).b; have q1 : m.b = (S.us m.u.toNat).b := q1; omega) (by rw [hat _ hj]; exact h.ver.1)).1
     have q2 : (S.us m.u.toNat).is = false := q2
     rw [hk] at q2; cases q2
  ·exact ⟨by have := h.ver; show 0 ≤ S.x.p 0 ∧ S.x.p 0 ≤ _; omega, h.len, by simp at hwl; show r.length ≤ 200; omega, hbb, h.bo, h.kn, h.vw, h.up, h.nt⟩
theorem noteS_ok {S : YS} {i : Nat} (h : AI S i) {j : Nat} (hj : j < S.n) {m : Nt} (hm : zg8 S.x j = some m) : zjk S m := by
 have hl : lkS S.x.hd (j : Nat) = (S.x.hd.getD j (0, 0), true) := lk_at (by rw [h.len]; exact hj)
 unfold zg8 at hm
 simp only [hl] at hm
 split at hm
 ·cases hm
 ·split at hm
  ·cases hm
   refine ⟨by show (0 : Int) ≤ (j : Nat); omega, by show ((j : Nat) : Int) < _; omega, Int.le_refl _, ?_⟩
   rw [if_neg (by simp)]
   exact ⟨by show (S.x.hd.getD j (0, 0)).1 ≤ (S.x.hd.getD ((j : Nat) : Int).toNat (0, 0)).1; simp, (fun q => by cases q), (fun q => by cases q)⟩
  ·cases hm
   refine ⟨by show (0 : Int) ≤ (j : Nat); omega, by show ((j : Nat) : Int) < _; omega, Int.le_refl _, ?_⟩
   rw [if_neg (by simp)]
   exact ⟨by show (S.x.hd.getD j (0, 0)).1 ≤ (S.x.hd.getD ((j : Nat) : Int).toNat (0, 0)).1; simp, fun _ => rfl, fun _ _ _ => rfl⟩
theorem AI.tick {S : YS} {i : Nat} (h : AI S i) (hi : i ≤ 1000) : AI (zax S) (i + 1) := by
 have h1 := h.go hi
 refine h1.add (l := zcS (goS S.x) (goS S.x).hd.length) fun m hm => ?_
 unfold zcS at hm
 obtain ⟨j, hj, he⟩ := List.mem_filterMap.1 hm
 have hj := List.mem_range.1 hj
 rw [goS_hd, h.len] at hj
 exact noteS_ok h1 (j := j) hj he
theorem zgx {hd : List (Int × Int)} {k j : Nat} {z : Int × Int} (hk : k < hd.length) : (hd.set k z).getD j (0, 0) = if j = k then z else hd.getD j (0, 0) := by
 rw [List.getD_eq_getElem?_getD, List.getD_eq_getElem?_getD, List.getElem?_set]
 by_cases e : k = j
 ·subst e; rw [if_pos rfl, if_pos hk, if_pos rfl]; rfl
 ·rw [if_neg e, if_neg (fun q => e q.symm)]
theorem heard_cases (hd : List (Int × Int)) (m : Nt) : zbT hd m = hd ∨ (0 ≤ m.u ∧ m.u < hd.length ∧ m.a = true ∧ (hd.getD m.u.toNat (0, 0)).1 ≤ m.b ∧ zbT hd m = hd.set m.u.toNat (m.b, mxS m.v)) := by
 unfold zbT
 split
 ·exact .inl rfl
 ·rename_i hn
  have h2 : (lkS hd m.u).2 = true := by
   cases e : (lkS hd m.u).2 with
   | true => rfl
   | false => exact absurd (.inr (.inl e)) hn
  have h1 : m.a = true := by
   cases e : m.a with
   | true => rfl
   | false => exact absurd (.inl e) hn
  have hin : 0 ≤ m.u ∧ m.u < hd.length := lkS_in (by rw [h2]; rfl)
  have hl : lkS hd m.u = (hd.getD m.u.toNat (0, 0), true) := by unfold lkS; rw [if_pos hin]
  have h3 : ¬ m.b < (lkS hd m.u).1.1 := fun q => hn (.inr (.inr q))
  rw [hl] at h3 ⊢
  simp only at h3 ⊢
  split
  ·exact .inr ⟨hin.1, hin.2, h1, by omega, rfl⟩
  ·refine .inl (List.ext_getElem? fun k => ?_)
   rw [List.getElem?_set]
   by_cases e : m.u.toNat = k
   ·subst e
    have hk : m.u.toNat < hd.length := by omega
    rw [if_pos rfl, if_pos hk, List.getD_eq_getElem?_getD, List.getElem?_eq_getElem hk]; rfl
   ·rw [if_neg e]
theorem AI.hear {S : YS} {i : Nat} (h : AI S i) {m : Nt} (hm : zjk S m) (ha : m.a = true) : AI { S with x := zhH S.x m } i := by
 rcases heard_cases S.x.hd m with e | ⟨h0, h1, _, h3, e⟩
 ·have : zhH S.x m = S.x := by unfold zhH; rw [e]
  rw [this]; exact h
 ·have hx : zhH S.x m = { S.x with hd := S.x.hd.set m.u.toNat (m.b, mxS m.v) } := by unfold zhH; rw [e]
  rw [hx]
  have hk : m.u.toNat < S.x.hd.length := by omega
  obtain ⟨a1, a2, a3, a4⟩ := hm
  rw [if_pos ha] at a4
  have hmx : mxS m.v = m.v ∨ (mxS m.v = -1 ∧ m.v < -1) := by unfold mxS; split <;> omega
  have hver := h.ver
  refine ⟨h.ver, by show (S.x.hd.set _ _).length = _; rw [List.length_set]; exact h.len, h.w, h.bb, fun j hj => ?_, fun j hj e1 e2 => ?_, fun j hj => ?_, fun j hj q => ?_, fun z hz => ?_⟩
  ·show ((S.x.hd.set m.u.toNat (m.b, mxS m.v)).getD j (0, 0)).1 ≤ (S.us j).b
   rw [zgx hk]
   split
   ·rename_i e; subst e; exact a4.1
   ·exact h.bo j hj
  ·have e1 : ((S.x.hd.set m.u.toNat (m.b, mxS m.v)).getD j (0, 0)).1 = (S.us j).b := e1
   have e2 : 0 ≤ ((S.x.hd.set m.u.toNat (m.b, mxS m.v)).getD j (0, 0)).2 := e2
   show (S.us j).is = true ∧ ((S.x.hd.set m.u.toNat (m.b, mxS m.v)).getD j (0, 0)).2 ≤ (S.us j).p 0
   rw [zgx hk] at e1 e2 ⊢
   by_cases e : j = m.u.toNat
   ·subst e
    rw [if_pos rfl] at e1 e2 ⊢
    simp only at e1 e2 ⊢
    have hv : mxS m.v = m.v := by omega
    rw [hv] at e2 ⊢
    exact a4.2 e1 e2
   ·rw [if_neg e] at e1 e2 ⊢; exact h.kn j hj e1 e2
  ·show ((S.x.hd.set m.u.toNat (m.b, mxS m.v)).getD j (0, 0)).2 ≤ S.x.p 0
   rw [zgx hk]
   split
   ·show mxS m.v ≤ _; omega
   ·exact h.vw j hj
  ·show ((S.x.hd.set m.u.toNat (m.b, mxS m.v)).getD j (0, 0)).1 = (S.us j).b ∧ _
   obtain ⟨q1, q2⟩ := h.up j hj q
   refine ⟨?_, q2⟩
   rw [zgx hk]
   split
   ·rename_i e; subst e; have := a4.1; show m.b = _; omega
   ·exact q1
  ·obtain ⟨b1, b2, b3, b4⟩ := h.nt z hz
   refine ⟨b1, b2, b3, ?_⟩
   split at b4
   ·rename_i hza; rw [if_pos hza]; exact b4
   ·rename_i hza; rw [if_neg hza]
    refine ⟨?_, b4.2⟩
    show z.b ≤ ((S.x.hd.set m.u.toNat (m.b, mxS m.v)).getD z.u.toNat (0, 0)).1
    rw [zgx hk]
    split
    ·rename_i e; rw [e] at b4; exact Int.le_trans b4.1 h3
    ·exact b4.1
theorem AI.unit {S : YS} {i : Nat} (h : AI S i) {u : Nat} (hu : u < S.n) {v : UP} (hb : v.b = (S.us u).b) (his : v.is = true) (hk : (S.x.hd.getD u (0, 0)).1 = (S.us u).b) (hlt : (S.us u).is = true → (S.us u).p 0 ≤ v.p 0) (h1 : S.x.p 0 - 1 ≤ v.p 0) (h2 : v.p 0 ≤ S.x.p 0) : AI { S with us := zdh S.us u v } i := by
 have at_ : zdh S.us u v u = v := if_pos rfl
 have ne_ : ∀ j, j ≠ u → zdh S.us u v j = S.us j := fun j e => if_neg e
 refine ⟨h.ver, h.len, h.w, fun j hj => ?_, fun j hj => ?_, fun j hj e1 e2 => ?_, h.vw, fun j hj q => ?_, fun m hm => ?_⟩
 ·show 0 ≤ (zdh S.us u v j).b ∧ (zdh S.us u v j).b ≤ _
  by_cases e : j = u
  ·subst e; rw [at_, hb]; exact h.bb j hj
  ·rw [ne_ j e]; exact h.bb j hj
 ·show _ ≤ (zdh S.us u v j).b
  by_cases e : j = u
  ·subst e; rw [at_, hb]; exact h.bo j hj
  ·rw [ne_ j e]; exact h.bo j hj
 ·have e1 : (S.x.hd.getD j (0, 0)).1 = (zdh S.us u v j).b := e1
  show (zdh S.us u v j).is = true ∧ _ ≤ (zdh S.us u v j).p 0
  by_cases e : j = u
  ·subst e; rw [at_, hb] at e1; rw [at_]
   obtain ⟨k1, k2⟩ := h.kn j hj e1 e2
   exact ⟨his, Int.le_trans k2 (hlt k1)⟩
  ·rw [ne_ j e] at e1 ⊢; exact h.kn j hj e1 e2
 ·have q : (zdh S.us u v j).is = true := q
  show (S.x.hd.getD j (0, 0)).1 = (zdh S.us u v j).b ∧ _ ≤ (zdh S.us u v j).p 0 ∧ (zdh S.us u v j).p 0 ≤ _
  by_cases e : j = u
  ·subst e; rw [at_, hb]; exact ⟨hk, h1, h2⟩
  ·rw [ne_ j e] at q ⊢; exact h.up j hj q
 ·obtain ⟨a1, a2, a3, a4⟩ := h.nt m hm
  refine ⟨a1, a2, a3, ?_⟩
  show if m.a = true then m.b ≤ (zdh S.us u v m.u.toNat).b ∧ (m.b = (zdh S.us u v m.u.toNat).b → 0 ≤ m.v → (zdh S.us u v m.u.toNat).is = true ∧ m.v ≤ (zdh S.us u v m.u.toNat).p 0) else m.b ≤ (S.x.hd.getD m.u.toNat (0, 0)).1 ∧ (m.w = true → m.p 0 = m.v) ∧ (m.w = true → m.b = (zdh S.us u v m.u.toNat).b → (zdh S.us u v m.u.toNat).is = false → m.v = S.x.p 0)
  by_cases e : m.u.toNat = u
  ·rw [e, at_, hb]; rw [e] at a4
   split at a4
   ·rename_i ha; rw [if_pos ha]
    refine ⟨a4.1, fun q1 q2 => ?_⟩
    obtain ⟨k1, k2⟩ := a4.2 q1 q2
    exact ⟨his, Int.le_trans k2 (hlt k1)⟩
   ·rename_i ha; rw [if_neg ha]
    exact ⟨a4.1, a4.2.1, fun _ _ q => by rw [his] at q; cases q⟩
  ·rw [ne_ _ e]; exact a4
theorem uh_cases {S : YS} {i : Nat} (h : AI S i) (hi : i ≤ 1000) {m : Nt} (hm : zjk S m) (ha : m.a = false) {P : UP} (hP : S.us m.u.toNat = P) :
  uhS P.p P.is P.b m = (P.p, P.is) ∨ (m.b = P.b ∧ (uhS P.p P.is P.b m).2 = true ∧ (P.is = true → P.p 0 ≤ (uhS P.p P.is P.b m).1 0) ∧ S.x.p 0 - 1 ≤ (uhS P.p P.is P.b m).1 0 ∧ (uhS P.p P.is P.b m).1 0 ≤ S.x.p 0) := by
 obtain ⟨a1, a2, a3, a4⟩ := hm
 rw [if_neg (by rw [ha]; simp)] at a4
 have hu : m.u.toNat < S.n := by omega
 have hup := h.up _ hu
 rw [hP] at a4 hup
 have hver := h.ver
 unfold uhS
 split
 ·exact .inl rfl
 ·rename_i hb
  have hb : m.b = P.b := Decidable.of_not_not hb
  split
  ·rename_i hw
   have e := a4.2.1 hw.1
   refine .inr ⟨hb, rfl, fun q => ?_, ?_, by show m.p 0 ≤ _; omega⟩
   ·have h9 := hw.2; unfold qJ at h9; rw [if_pos q] at h9; show P.p 0 ≤ m.p 0; omega
   ·show _ ≤ m.p 0
    cases q : P.is with
    | true => have h9 := hw.2; unfold qJ at h9; rw [if_pos q] at h9; have := (hup q).2.1; omega
    | false => have := a4.2.2 hw.1 hb q; omega
  ·split
   ·rename_i hn
    obtain ⟨n1, n2, n3, n4⟩ := hn
    have q : P.is = true := by
     cases q : P.is with
     | true => rfl
     | false => rw [qJ, q] at n2; simp at n2
    have hv : qJ P.p P.is = P.p 0 := by unfold qJ; rw [if_pos q]
    obtain ⟨u1, u2, u3⟩ := hup q
    rw [hv] at n2 n3
    have hw1 : i64.wrap (P.p 0 + 1) = P.p 0 + 1 := w64 (by omega) (by omega)
    have hv2 : (z2 P.p m.e).1 0 = P.p 0 + 1 := by rw [apply_ver n4, hw1]
    rw [hw1] at n3
    exact .inr ⟨hb, rfl, fun _ => by show P.p 0 ≤ (z2 P.p m.e).1 0; omega, by show _ ≤ (z2 P.p m.e).1 0; omega, by show (z2 P.p m.e).1 0 ≤ _; omega⟩
   ·exact .inl rfl
theorem AI.note {S : YS} {i : Nat} (h : AI S i) (hi : i ≤ 1000) {m : Nt} (hm : zjk S m) (ha : m.a = false) :
  AI { S with us := zdh S.us m.u.toNat (zfd (S.us m.u.toNat) m), l := S.l ++ [ackN m.u (S.us m.u.toNat).b (uhS (S.us m.u.toNat).p (S.us m.u.toNat).is (S.us m.u.toNat).b m)] } i := by
 have hu : m.u.toNat < S.n := by have := hm.1; have := hm.2.1; omega
 have key : AI { S with us := zdh S.us m.u.toNat (zfd (S.us m.u.toNat) m) } i := by
  rcases uh_cases h hi hm ha rfl with e | ⟨b1, b2, b3, b4, b5⟩
  ·have e2 : zfd (S.us m.u.toNat) m = S.us m.u.toNat := by unfold zfd; rw [e]
   have e3 : zdh S.us m.u.toNat (zfd (S.us m.u.toNat) m) = S.us := by
    funext j; unfold zdh; split
    ·rename_i q; rw [q, e2]
    ·rfl
   rw [e3]; exact h
  ·have a4 := hm.2.2.2
   rw [if_neg (by rw [ha]; simp)] at a4
   have := h.bo _ hu
   exact h.unit hu rfl b2 (by have := a4.1; omega) b3 b4 b5
 refine key.add fun z hz => ?_
 have hz := List.mem_singleton.1 hz
 subst hz
 have hat : zdh S.us m.u.toNat (zfd (S.us m.u.toNat) m) m.u.toNat = zfd (S.us m.u.toNat) m := if_pos rfl
 have hup := key.up _ hu
 have hver := key.ver
 refine ⟨hm.1, hm.2.1, ?_, ?_⟩
 ·show qJ (uhS _ _ _ m).1 (uhS _ _ _ m).2 ≤ S.x.p 0
  unfold qJ
  split
  ·rename_i q
   have := (hup (by show (zdh S.us m.u.toNat (zfd (S.us m.u.toNat) m) m.u.toNat).is = true; rw [hat]; exact q)).2.2
   have this : (zdh S.us m.u.toNat (zfd (S.us m.u.toNat) m) m.u.toNat).p 0 ≤ S.x.p 0 := this
   rw [hat] at this; exact this
  ·have hver : 0 ≤ S.x.p 0 ∧ S.x.p 0 ≤ i := hver
   omega
 ·rw [if_pos (show (ackN m.u (S.us m.u.toNat).b (uhS (S.us m.u.toNat).p (S.us m.u.toNat).is (S.us m.u.toNat).b m)).a = true from rfl)]
  show (S.us m.u.toNat).b ≤ (zdh S.us m.u.toNat (zfd (S.us m.u.toNat) m) m.u.toNat).b ∧ (_ → 0 ≤ qJ (uhS _ _ _ m).1 (uhS _ _ _ m).2 → (zdh S.us m.u.toNat (zfd (S.us m.u.toNat) m) m.u.toNat).is = true ∧ qJ (uhS _ _ _ m).1 (uhS _ _ _ m).2 ≤ (zdh S.us m.u.toNat (zfd (S.us m.u.toNat) m) m.u.toNat).p 0)
  rw [hat]
  refine ⟨Int.le_refl _, fun _ q => ?_⟩
  unfold qJ at q ⊢
  split at q
  ·rename_i q2; rw [if_pos q2]; exact ⟨q2, Int.le_refl _⟩
  ·omega
theorem AI.dlv {S : YS} {i : Nat} (h : AI S i) (hi : i ≤ 1000) (k : Int) (keep : Bool) : AI (zaN S k keep) i := by
 unfold zaN
 split
 case isFalse => exact h
 rename_i hf
 have hm := h.nt _ (atS_mem hf)
 have hsub := h.sub (l := zdM S.l k keep) fun m hm => rest_mem hm
 split
 ·rename_i ha; exact hsub.hear (m := (atS S.l k).1) hm ha
 ·rename_i ha; exact hsub.note hi (m := (atS S.l k).1) hm (by simpa using ha)
theorem AI.init {p : qO} (hp : 0 ≤ p 0) {n i : Nat} (hi : p 0 ≤ i) : AI (nyS p n) i := by
 have hg : ∀ j, j < n → ((newHS p (n : Nat)).hd.getD j (0, 0)) = (0, -1) := fun j hj => by
  rw [cold_new]
  show (List.replicate _ _).getD j (0, 0) = _
  rw [List.getD_eq_getElem?_getD, List.getElem?_replicate, if_pos (by simpa using hj)]; rfl
 refine ⟨⟨hp, hi⟩, by show (newHS p (n : Nat)).hd.length = n; rw [cold_new]; simp [coldS], by show [].length ≤ 200; simp, fun j hj => ?_, fun j hj => ?_, fun j hj e1 e2 => ?_, fun j hj => ?_, (fun j hj q => by cases q), (fun m hm => by cases hm)⟩
 ·exact ⟨Int.le_refl _, by show (0 : Int) ≤ (i : Nat); omega⟩
 ·show ((newHS p (n : Nat)).hd.getD j (0, 0)).1 ≤ 0; rw [hg j hj]; exact Int.le_refl _
 ·have e2 : 0 ≤ ((newHS p (n : Nat)).hd.getD j (0, 0)).2 := e2
  rw [hg j hj] at e2; simp at e2
 ·show ((newHS p (n : Nat)).hd.getD j (0, 0)).2 ≤ p 0; rw [hg j hj]; show (-1 : Int) ≤ _; omega
theorem AI.at_ {S : YS} {i : Nat} (h : AI S i) {j : Nat} (hj : j < S.n) (hu : (zdL S (j : Nat)).2 = true) : (zdL S (j : Nat)).1 = S.x.p 0 ∨ (zdL S (j : Nat)).1 = S.x.p 0 - 1 := by
 rw [ver_at hj] at hu ⊢
 have := h.up j hj hu
 show (S.us j).p 0 = _ ∨ (S.us j).p 0 = _
 omega
end Go.Rh

set_option maxHeartbeats 8000000
namespace Go.Rh
theorem Make0C {P : Program} (hc : zX P "roundhouse/roundhouselaw6.Make" = some zeR) (h_law5_Key : zha P) (h_ref6_New : zfJ P) (h_ref6_out : zeD P) (h_ref5_Ring : zd4 P) (h_law6_Entry : zX P "roundhouse/roundhouselaw6.Entry" = some zfm) (h_law6_within : zX P "roundhouse/roundhouselaw6.within" = some zeQ) (h_ref6_Apply : zX P "roundhouse/roundhouseref6.Apply" = some zfj) (h_ref6_Check : zX P "roundhouse/roundhouseref6.Check" = some zfi) (h_ref6_bad : zX P "roundhouse/roundhouseref6.bad" = some zhl) (h_ref6_Held : zX P "roundhouse/roundhouseref6.Held" = some zgc) (h_ref5_Next : zX P "roundhouse/roundhouseref5.Next" = some zge)  :
    Env P "roundhouse/roundhouselaw6.Make" [.slice none 0 0, iv 0] ([]) (Ans (qG ((zag 10 80 (zed 1) (zec 1) (zed 2) (zec 2)).1)) ([])) := by
 refine Env.by hc ?_
 unfold zeR
 show GC _ 0 _ _ ⟨reg [(0, .slice none 0 0), (1, iv 0)], []⟩
 refine zT (z0 (o_b 1 [(4, pv 0 0)] [cw (pl zH)] (by kernel_rfl) (zF (zC (zT (z0 (zbO (zeO (KeyC h_law5_Key 1) rfl rfl rfl (zbO (zeO (KeyC h_law5_Key 2) rfl rfl rfl (zbO (zeO (refNewC h_ref6_New h_ref6_out h_ref5_Ring 10 80 (zed 1) (zec 1) (zed 2) (zec 2)) rfl rfl (all_cons (zaL ((zag 10 80 (zed 1) (zec 1) (zed 2) (zec 2)).1)) (all_cons rfl rfl)) ?_))))))))))))
 refine o_b 4 [(5, pv 1 0), (15, iv ((zag 10 80 (zed 1) (zec 1) (zed 2) (zec 2)).2)), (14, qG ((zag 10 80 (zed 1) (zec 1) (zed 2) (zec 2)).1)), (10, .tuple #[qG ((zag 10 80 (zed 1) (zec 1) (zed 2) (zec 2)).1), iv ((zag 10 80 (zed 1) (zec 1) (zed 2) (zec 2)).2)])] [cw (pl zH), cw (pl zH)] (by kernel_rfl) (zeC (by refine qY (c' := pl ((zag 10 80 (zed 1) (zec 1) (zed 2) (zec 2)).1)) rfl rfl rfl ?_ ?_ ?_; exact zN _; exact zeW (by omega); exact zae zH ((zag 10 80 (zed 1) (zec 1) (zed 2) (zec 2)).1)) ?_)
 refine o_b 1 [(6, iv ((zag 10 80 (zed 1) (zec 1) (zed 2) (zec 2)).2))] [cw (pl zH), cw (pl ((zag 10 80 (zed 1) (zec 1) (zed 2) (zec 2)).1))] (by kernel_rfl) (zF (zC (zT (zT (z0 (o_d 1 [(7, iv 0)] (by kernel_rfl) (zF (zC (zak (zdy (fun μ s => (μ = 0 ∧ s = ⟨reg [(7, iv 0), (5, pv 1 0), (4, pv 0 0), (0, .slice none 0 0), (1, iv 0)], [cw (pl zH), cw (pl ((zag 10 80 (zed 1) (zec 1) (zed 2) (zec 2)).1))]⟩)) ⟨0, ?_⟩ ?_))))))))))
 ·skip
  refine ⟨⟨reg [(7, iv 0), (5, pv 1 0), (4, pv 0 0), (0, .slice none 0 0), (1, iv 0)], [cw (pl zH), cw (pl ((zag 10 80 (zed 1) (zec 1) (zed 2) (zec 2)).1))]⟩, ?_⟩
  refine ⟨?_, ?_⟩
  ·exact Wk.ren [0, 1] rfl rfl (by decide) ⟨rfl, ⟨rfl, ⟨rfl, ⟨rfl, ⟨rfl, trivial⟩⟩⟩⟩⟩ ⟨.inl (zO (za7 zH)), ⟨.inl (zO (za7 ((zag 10 80 (zed 1) (zec 1) (zed 2) (zec 2)).1))), trivial⟩⟩
  ·exact ⟨rfl, rfl⟩
 ·rintro μ s (⟨rfl, rfl⟩)
  ·skip
   refine zT (zT (z0 (o_d 9 [(24, bv false), (23, undef), (22, undef), (21, undef), (20, bv false), (19, bv false), (18, iv 0), (17, .slice none 0 0), (16, iv 0)] (by kernel_rfl) (zF (zC (zbU rfl (zcU (zC (zT (z0 (o_s (by refine z6 (v := qG ((zag 10 80 (zed 1) (zec 1) (zed 2) (zec 2)).1)) rfl rfl ?_; exact zaU ((zag 10 80 (zed 1) (zec 1) (zed 2) (zec 2)).1)) ?_)))))))))))
   refine zeC (by refine qY (c' := pl ((zag 10 80 (zed 1) (zec 1) (zed 2) (zec 2)).1)) rfl rfl rfl ?_ ?_ ?_; exact zN _; exact zeW (by omega); exact zae zH ((zag 10 80 (zed 1) (zec 1) (zed 2) (zec 2)).1)) ?_
   exact zF (zC (zbr (zar [qG ((zag 10 80 (zed 1) (zec 1) (zed 2) (zec 2)).1)] (zcG rfl rfl (zaU ((zag 10 80 (zed 1) (zec 1) (zed 2) (zec 2)).1)) rfl) (all_cons (zaL ((zag 10 80 (zed 1) (zec 1) (zed 2) (zec 2)).1)) rfl) (by rfl) rfl rfl)))
end Go.Rh
