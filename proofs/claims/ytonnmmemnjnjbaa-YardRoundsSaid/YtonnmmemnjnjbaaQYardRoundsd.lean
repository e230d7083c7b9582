/- The proofs zeX the intermediate form, part QYardRoundsd. -/
import Derived.Test.YtonnmmemnjnjbaaQYardRoundsc
import Derived.Test.YtonnmmemnjnjbaaQYardRoundsa
import Derived.Test.YtonnmmemnjnjbaaQYardRoundsb
open Go.IntKind (i64)
set_option linter.unusedVariables false
set_option linter.unusedSimpArgs false
set_option maxRecDepth 100000
set_option maxHeartbeats 8000000
namespace Go.Rh
def zd1 : IFunc := ⟨55, [.tmp 4], (.seq (.reg [kq 4 (.mv (ki 0))]) (.seq (.seq (.reg [km 13 0, kq 14 (.nilc (.t 13)), kq 15 (.fad 330 (.t 14)), kq 16 (.ld none (.t 15)), kq 17 (.lenC (.t 16)), km 18 1, kq 19 (.lenS (.t 18)), kq 20 (.bin .add (.t 17) (.t 19)), kq 21 (.bin .gtr (.t 20) (ki 200))]) (.cond (.t 21) (.seq (.reg [kq 4 (.mv (ki 14))]) .ret) .skip)) (.seq (.dreg [km 23 0, kq 24 (.nilc (.t 23)), kq 25 (.fad 0 (.t 24)), kq 26 (.ld (some 330) (.t 25)), km 27 0, kq 28 (.call "(*roundhouse/head.Head).waiting" [(.t 27)]), kq 29 (.call "roundhouse/pool.All" [(.t 26), (.t 28)]), km 22 29, kq 30 (.ext 0 (.t 22)), kq 31 (.ext 1 (.t 22)), kq 32 (.ext 2 (.t 22)), kq 5 (.new kA), ku (.st 330 (.t 5) (.t 30)), km 6 31, km 7 32] [[], [0], [1, 0], [2, 1, 0], [], [4], [3, 2, 1, 0, 5, 4], [6, 3, 2, 1, 0, 5, 4], [7, 6, 3, 2, 1, 0, 5, 4], [7, 6, 3, 2, 1, 0, 5, 4], [7, 6, 3, 2, 1, 0, 5, 4], [], [11, 8, 7, 6, 3, 2, 1, 0, 5, 4], [9, 7, 6, 3, 2, 1, 0, 5, 4, 12, 11, 8], [10, 7, 6, 3, 2, 1, 0, 5, 4, 13, 9, 12, 11, 8]]) (.seq (.seq (.reg [kq 34 (.ld (some 330) (.t 5)), km 35 1, kq 36 (.call "roundhouse/pool.All" [(.t 34), (.t 35)]), km 33 36, kq 37 (.ext 0 (.t 33)), kq 38 (.ext 1 (.t 33)), kq 39 (.ext 2 (.t 33)), kq 8 (.new kA), ku (.st 330 (.t 8) (.t 37)), km 9 38, km 10 39]) (.seq (.reg [km 40 10, kq 41 (.bin .neq (.t 40) (ki 0))]) (.cond (.t 41) (.seq (.reg [km 42 10, km 4 42]) .ret) .skip))) (.seq (.seq (.reg [km 43 1, kq 44 (.lenS (.t 43)), kq 45 (.mv (ki 0))]) (.block 0 (.loop (.seq (.reg [kq 46 (.bin .lss (.t 45) (.t 44))]) (.seq (.cond (.t 46) .skip (.exit 0)) (.seq (.block 1 (.seq (.reg [kq 47 (.iadS 7 (.t 43) (.t 45)), kq 48 (.ld (some 7) (.t 47)), kq 12 (.new kC), ku (.st 7 (.t 12) (.t 48))]) (.dreg [km 49 0, kq 50 (.nilc (.t 49)), kq 51 (.fad 330 (.t 50)), kq 52 (.ld none (.t 51)), kq 53 (.ld (some 7) (.t 12)), ku (.snd (.t 52) (.t 53))] [[], [0], [1, 0], [2, 1, 0], [], [3, 2, 1, 0, 4]]))) (.reg [kq 54 (.bin .add (.t 45) (ki 1)), km 45 54]))))))) (.seq (.reg [kq 4 (.mv (ki 0))]) .ret))))))⟩
abbrev zb8 (P : Program) : Prop := z6 P "(*roundhouse/head.Head).Wish" = some zd1
theorem wish_many {x : HS} {l : List Ent} (h : 200 < x.w.length + l.length) : zcj x l = (14, x) := by simp only [zcj]; rw [if_pos h]
theorem wish_bad {x : HS} {l : List Ent} (h : ¬ 200 < x.w.length + l.length) (h2 : (zaR (zaR x.p x.w 0).1 l 0).2.2 ≠ 0) : zcj x l = ((zaR (zaR x.p x.w 0).1 l 0).2.2, x) := by simp only [zcj]; rw [if_neg h, if_pos h2]
theorem ziC {x : HS} {l : List Ent} (h : ¬ 200 < x.w.length + l.length) (h2 : ¬ (zaR (zaR x.p x.w 0).1 l 0).2.2 ≠ 0) : zcj x l = (0, { x with w := x.w ++ l }) := by simp only [zcj]; rw [if_neg h, if_neg h2]
theorem HWishC {P : Program} (hc : zb8 P) (h_head_Head_waiting : zbj P) (h_pool_All : zc2 P) (h_pool_Apply : zaU P) (h_pool_may : za3 P) (h_pool_held : zaT P) (h_pool_fits : za1 P) (h_pool_Check : zaO P) (h_pool_placed : zau P) (h_cookie_Next : zaC P) (p : qL) (w : List Ent) (hd : List (Int × Int)) (e : Ent) (b : Bool) (l : List Ent) (q : Option Nat) (hw : w.length ≤ 200) (hq : q = none → l = []) (hl : l.length ≤ 1000000) :
    Env P "(*roundhouse/head.Head).Wish" [pv 0 0, slV 3 l.length q] ([cw (zT p 1 2 e b), .chan 200 (w.map qR), .map (hdM hd), slB zE (qP l) q]) (fun v1 h' => v1 = iv (zcj (HS.mk p w hd e b) l).1 ∧ h' = [cw (zT p 1 2 e b), .chan 200 ((zcj (HS.mk p w hd e b) l).2.w.map qR), .map (hdM hd), slB zE (qP l) q]) := by
 refine Env.by2 hc ?_
 unfold zd1
 show GC _ 4 _ _ ⟨reg [(0, pv 0 0), (1, slV 3 l.length q)], [cw (zT p 1 2 e b), .chan 200 (w.map qR), .map (hdM hd), slB zE (qP l) q]⟩
 refine zR (zV (o_d 1 [(4, iv 0)] (by kernel_rfl) (zG (zC (zR (zR (zV (o_d 3 [(15, pv 0 330), (14, pv 0 0), (13, pv 0 0)] (by kernel_rfl) (o_s (by refine z4 (v := .chan (some 1)) rfl rfl ?_; exact (zcu 0).trans rfl) ?_)))))))))
 refine o_s (by exact run_lenW (w := w) rfl rfl) ?_
 refine o_d 1 [(18, slV 3 l.length q)] (by kernel_rfl) (o_s (by exact zej rfl (fun z => by rw [hq z]; rfl)) ?_)
 refine o_s (by refine zaf (v := .int .i64 (i64.wrap ((w.length : Nat) + (l.length : Nat)))) (congrArg (Value.int .i64) (w64 (by first | omega | (simp at *; omega)) (by first | omega | (simp at *; omega)))) ?_; kernel_rfl) ?_
 refine o_d 1 [(21, bv (decide (((w.length : Nat) + (l.length : Nat) : Int) > 200)))] (by kernel_rfl) (zG (zC (zaj (t := decide (((w.length : Nat) + (l.length : Nat) : Int) > 200)) rfl (fun h1 => ?_) (fun h1 => ?_))))
 ·skip
  have h1' : ((w.length : Nat) + (l.length : Nat) : Int) > 200 := of_decide_eq_true h1
  refine zR (zV (o_d 1 [(4, iv 14)] (by kernel_rfl) (zG (zC (zaZ ?_)))))
  have hW : zcj (HS.mk p w hd e b) l = (14, (HS.mk p w hd e b)) := wish_many (by show 200 < w.length + l.length; simp at *; omega)
  exact ⟨trivial, ⟨reg [(4, iv 14)], [cw (zT p 1 2 e b), .chan 200 (w.map qR), .map (hdM hd), slB zE (qP l) q]⟩, Wk.ren [0, 1, 2, 3] rfl rfl (by decide) ⟨rfl, trivial⟩ ⟨.inl (qB rfl rfl), ⟨.inl (congrArg some (zX _).symm), ⟨.inl (congrArg some (qI _).symm), ⟨.inl (zaM q (fun _ => (zaP _ _))), trivial⟩⟩⟩⟩, [iv 14], (qE rfl rfl), (zU rfl qA), (by rw [hW]; rfl), (by first | (rw [hW]; done) | (rw [hW]; rfl) | (rw [hW, hil]; rfl) | (rw [hW, hil]; done) | (rw [hW, hl0, List.append_nil]; rfl) | (rw [hW, hl0, List.append_nil]; done))⟩
 have h1' : ¬ (((w.length : Nat) + (l.length : Nat) : Int) > 200) := of_decide_eq_false h1
 refine zaq (zC (zR (zbx [cw (zT p 1 2 e b), .chan 200 (w.map qR), .map (hdM hd), slB zE (qP l) q, .gone] (by kernel_rfl) (d_n 3 3 4 [(25, pv 0 0), (24, pv 0 0), (23, pv 0 0)] [cw (zT p 1 2 e b), .chan 200 (w.map qR), .map (hdM hd), slB zE (qP l) q, .gone] [] (by kernel_rfl) rfl rfl (d_s rfl rfl rfl (by kernel_rfl) (by refine z4 (v := qG p) rfl rfl ?_; exact zeL (zal p)) ?_)))))
 refine d_n 1 5 4 [(27, pv 0 0)] [cw (zT p 1 2 e b), .chan 200 (w.map qR), .map (hdM hd), slB zE (qP l) q, .gone] [⟨3, [0], [], none⟩] (by kernel_rfl) rfl rfl (d_clG [0, 1, 2] [cr (zT p 1 2 e b), .chan 200 (w.map qR), .map (hdM hd)] [pv 0 0] (HwaitingC h_head_Head_waiting p w hd e b hw) rfl rfl ⟨⟨_, rfl, zcn rfl rfl (fun q => rfl)⟩, ⟨⟨_, rfl, zco _⟩, ⟨⟨_, rfl, zdd _⟩, trivial⟩⟩⟩ (by decide) ⟨_, _, ⟨some 0, (fun q => by cases q), rfl, rfl⟩, Nat.le_add_right 3 1, zbf [_, _, _] [_]⟩ ?_ (by kernel_rfl))
 rintro v1 h1' ⟨q2, hq3, rfl, rfl⟩
 refine ⟨slV 5 w.length q2, [cw (zT p 1 2 e b), .chan 200 (w.map qR), .map (hdM hd), slB zE (qP l) q, .gone], [slB zE (qP w) q2], (zbn q2 rfl), ⟨rfl, ⟨zX _, ⟨qI _, ⟨rfl, ⟨rfl, trivial⟩⟩⟩⟩⟩, ⟨(Option.some.inj (zaM q2 (fun _ => (zaP _ _)))).symm, trivial⟩, ?_⟩
 rcases q2 with _ | m4
 ·skip
  have h0q2 := hq3 rfl
  refine d_cl (zhl (All0 h_pool_All h_pool_Apply h_pool_may h_pool_held h_pool_fits h_pool_Check h_pool_placed h_cookie_Next p) rfl (all_cons (zaG p) (all_cons rfl rfl)) (all_cons (qZ p) (all_cons rfl (all_cons rfl rfl))) (d_n 5 12 5 [(5, pv 4 0), (32, iv 0), (31, iv 0), (30, qG p), (22, .tuple #[qG p, iv 0, iv 0])] [cw (zT p 1 2 e b), .chan 200 (w.map qR), .map (hdM hd), slB zE (qP l) q, cw (pl zH), .gone] [⟨11, [], [4], none⟩, ⟨6, [], [], some 6⟩, ⟨5, [0, 1, 2], [1, 2], some 5⟩, ⟨3, [0], [], none⟩] (by kernel_rfl) rfl rfl (d_s0 rfl rfl ⟨_, _, _, rfl⟩ (by kernel_rfl) (by refine qQ (c' := pl p) rfl rfl rfl ?_ ?_ ?_; exact zN _; exact zbU (by omega); exact qO zH p) ?_)))
  refine d_n 2 15 5 [(7, iv 0), (6, iv 0)] [cw (zT p 1 2 e b), .chan 200 (w.map qR), .map (hdM hd), slB zE (qP l) q, cw (pl p), .gone] [⟨12, [4], [4], none⟩, ⟨11, [], [4], none⟩, ⟨6, [], [], some 6⟩, ⟨5, [0, 1, 2], [1, 2], some 5⟩, ⟨3, [0], [], none⟩] (by kernel_rfl) rfl rfl (zb2 (z5 [(5, pv 4 0), (0, pv 0 0), (1, slV 3 l.length q)] (by kernel_rfl) (zR (zR (zV (o_s (by refine z4 (v := qG p) rfl rfl ?_; exact zal p) ?_))))))
  refine o_d 1 [(35, slV 3 l.length q)] (by kernel_rfl) ?_
  rcases q with _ | m5
  ·skip
   have hl0 : l = [] := hq rfl
   refine zcc (zc7 (All0 h_pool_All h_pool_Apply h_pool_may h_pool_held h_pool_fits h_pool_Check h_pool_placed h_cookie_Next p) rfl (all_cons (zaG p) (all_cons rfl rfl)) (all_cons (qZ p) (all_cons rfl (all_cons rfl rfl))) (o_b 5 [(8, pv 6 0), (39, iv 0), (38, iv 0), (37, qG p), (33, .tuple #[qG p, iv 0, iv 0])] [cw (zT p 1 2 e b), .chan 200 (w.map qR), .map (hdM hd), .gone, cw (pl p), .gone, cw (pl zH)] (by kernel_rfl) (zc1 (by refine qQ (c' := pl p) rfl rfl rfl ?_ ?_ ?_; exact zN _; exact zbU (by omega); exact qO zH p) ?_)))
   refine o_b 2 [(10, iv 0), (9, iv 0)] [cw (zT p 1 2 e b), .chan 200 (w.map qR), .map (hdM hd), .gone, cw (pl p), .gone, cw (pl p)] (by kernel_rfl) (zG (zC (zR (zV (o_d 2 [(41, bv false), (40, iv 0)] (by kernel_rfl) (zG (zC (zbW rfl (zaq (zC (zR (zR ?_))))))))))))
   refine zV (o_d 3 [(45, iv 0), (44, iv 0), (43, .slice none 0 0)] (by kernel_rfl) (zG (zC (zai (zdm (fun μ s => (μ = 0 ∧ s = ⟨reg [(45, iv 0), (44, iv 0), (43, .slice none 0 0), (0, pv 0 0)], [cw (zT p 1 2 e b), .chan 200 (w.map qR), .map (hdM hd), .gone, cw (pl p), .gone, cw (pl p)]⟩)) ⟨0, ?_⟩ ?_)))))
   ·skip
    refine ⟨⟨reg [(45, iv 0), (44, iv 0), (43, .slice none 0 0), (0, pv 0 0)], [cw (zT p 1 2 e b), .chan 200 (w.map qR), .map (hdM hd), .gone, cw (pl p), .gone, cw (pl p)]⟩, ?_⟩
    refine ⟨?_, ?_⟩
    ·exact Wk.ren [0, 1, 2, 3, 4, 5, 6] rfl rfl (by decide) ⟨rfl, ⟨rfl, ⟨rfl, ⟨rfl, trivial⟩⟩⟩⟩ ⟨.inl (qB rfl rfl), ⟨.inl (congrArg some (zX _).symm), ⟨.inl (congrArg some (qI _).symm), ⟨.inl rfl, ⟨.inl (zQ (zaH p)), ⟨.inl rfl, ⟨.inl (zQ (zaH p)), trivial⟩⟩⟩⟩⟩⟩⟩
    ·exact ⟨rfl, rfl⟩
   ·rintro μ s (⟨rfl, rfl⟩)
    ·skip
     refine zR (zV (o_d 1 [(46, bv false)] (by kernel_rfl) (zG (zC (zR (zbW rfl (zcD (zC (zR (zV (o_d 1 [(4, iv 0)] (by kernel_rfl) (zG ?_))))))))))))
     refine zC (zaZ ?_)
     have hW : zcj (HS.mk p w hd e b) l = (0, ⟨p, w ++ l, hd, e, b⟩) := ziC (by show ¬ 200 < w.length + l.length; simp at *; omega) (by first | assumption | (simp_all [zaR]; done))
     exact ⟨trivial, ⟨reg [(4, iv 0)], [cw (zT p 1 2 e b), .chan 200 (w.map qR), .map (hdM hd), .gone]⟩, Wk.ren [0, 1, 2, 3] rfl rfl (by decide) ⟨rfl, trivial⟩ ⟨.inl (qB rfl rfl), ⟨.inl (congrArg some (zX _).symm), ⟨.inl (congrArg some (qI _).symm), ⟨.inl rfl, trivial⟩⟩⟩⟩, [iv 0], (qE rfl rfl), (zU rfl qA), (by rw [hW]; rfl), (by first | (rw [hW]; done) | (rw [hW]; rfl) | (rw [hW, hil]; rfl) | (rw [hW, hil]; done) | (rw [hW, hl0, List.append_nil]; rfl) | (rw [hW, hl0, List.append_nil]; done))⟩
  ·skip
   refine zcc (callS (a1 := [qG p, .slice (some ⟨0, 0, none⟩) l.length (l.length + m5)]) [3] [qP l ++ zbt zE m5] (AllE h_pool_All h_pool_Apply h_pool_may h_pool_held h_pool_fits h_pool_Check h_pool_placed h_cookie_Next p l m5 l.length (l.length + m5) (by simp) (by first | omega | (simp at *; omega))) rfl (fun n => ziR _ _ _ _ _) ⟨⟨_, rfl⟩, zaP _ _, trivial⟩ (all_cons (qZ ((zaR p l 0).1)) (all_cons rfl (all_cons rfl rfl))) ?_)
   refine o_b 5 [(8, pv 6 0), (39, iv ((zaR p l 0).2.2)), (38, iv ((zaR p l 0).2.1 : Int)), (37, qG ((zaR p l 0).1)), (33, .tuple #[qG ((zaR p l 0).1), iv ((zaR p l 0).2.1 : Int), iv ((zaR p l 0).2.2)])] [cw (zT p 1 2 e b), .chan 200 (w.map qR), .map (hdM hd), cw (qP l ++ zbt zE m5), cw (pl p), .gone, cw (pl zH)] (by kernel_rfl) (zc1 (by refine qQ (c' := pl ((zaR p l 0).1)) rfl rfl rfl ?_ ?_ ?_; exact zN _; exact zbU (by omega); exact qO zH ((zaR p l 0).1)) ?_)
   refine o_b 2 [(10, iv ((zaR p l 0).2.2)), (9, iv ((zaR p l 0).2.1 : Int))] [cw (zT p 1 2 e b), .chan 200 (w.map qR), .map (hdM hd), cw (qP l ++ zbt zE m5), cw (pl p), .gone, cw (pl ((zaR p l 0).1))] (by kernel_rfl) (zG (zC (zR (zV (o_d 2 [(41, bv (((zaR p l 0).2.2) != 0)), (40, iv ((zaR p l 0).2.2))] (by kernel_rfl) (zG (zC (zaj (t := ((zaR p l 0).2.2) != 0) rfl (fun h6 => ?_) (fun h6 => ?_)))))))))
   ·skip
    have h6' : (zaR p l 0).2.2 ≠ 0 := zjt h6
    refine zR (zV (o_d 2 [(4, iv ((zaR p l 0).2.2)), (42, iv ((zaR p l 0).2.2))] (by kernel_rfl) (zG (zC (zaZ ?_)))))
    have hW : zcj (HS.mk p w hd e b) l = ((zaR p l 0).2.2, (HS.mk p w hd e b)) := by have z := @wish_bad (HS.mk p w hd e b) l (by show ¬ 200 < w.length + l.length; simp at *; omega) (by first | assumption | (simp_all [zaR]; done)); first | exact z | (subst_vars; exact z)
    exact ⟨trivial, ⟨reg [(4, iv ((zaR p l 0).2.2))], [cw (zT p 1 2 e b), .chan 200 (w.map qR), .map (hdM hd), cw (qP l ++ zbt zE m5)]⟩, Wk.ren [0, 1, 2, 3] rfl rfl (by decide) ⟨rfl, trivial⟩ ⟨.inl (qB rfl rfl), ⟨.inl (congrArg some (zX _).symm), ⟨.inl (congrArg some (qI _).symm), ⟨.inl (zQ (zaP l m5)), trivial⟩⟩⟩⟩, [iv ((zaR p l 0).2.2)], (qE rfl rfl), (zU rfl qA), (by rw [hW]; rfl), (by first | (rw [hW]; done) | (rw [hW]; rfl) | (rw [hW, hil]; rfl) | (rw [hW, hil]; done) | (rw [hW, hl0, List.append_nil]; rfl) | (rw [hW, hl0, List.append_nil]; done))⟩
   have h6' : ¬ ((zaR p l 0).2.2 ≠ 0) := zju h6
   refine zaq (zC (zR (zR (zV (o_d 3 [(45, iv 0), (44, iv (l.length : Nat)), (43, sv 3 0 l.length (l.length + m5))] (by kernel_rfl) (zG (zC (zai (zdm (fun μ s => ∃ (i : Nat), ∃ (wc : List Ent), μ = l.length - i ∧ (i ≤ l.length) ∧ (wc = w ++ l.take i) ∧ s = ⟨reg [(45, iv (i : Int)), (44, iv (l.length : Nat)), (43, sv 3 0 l.length (l.length + m5)), (0, pv 0 0)], [cw (zT p 1 2 e b), .chan 200 (wc.map qR), .map (hdM hd), cw (qP l ++ zbt zE m5)]⟩) ⟨(l.length - 0), ?_⟩ ?_)))))))))
   ·skip
    refine ⟨⟨reg [(45, iv (0 : Int)), (44, iv (l.length : Nat)), (43, sv 3 0 l.length (l.length + m5)), (0, pv 0 0)], [cw (zT p 1 2 e b), .chan 200 (w.map qR), .map (hdM hd), cw (qP l ++ zbt zE m5)]⟩, ?_⟩
    refine ⟨?_, ?_⟩
    ·exact Wk.ren [0, 1, 2, 3] rfl rfl (by decide) ⟨rfl, ⟨rfl, ⟨rfl, ⟨rfl, trivial⟩⟩⟩⟩ ⟨.inl (qB rfl rfl), ⟨.inl (congrArg some (zX _).symm), ⟨.inl (congrArg some (qI _).symm), ⟨.inl (zQ (zaP l m5)), trivial⟩⟩⟩⟩
    ·exact ⟨0, w, rfl, (Nat.zero_le _), (by simp), rfl⟩
   rintro μ s ⟨i, wc, rfl, hi, hwc, rfl⟩
   refine zR (zV (o_d 1 [(46, bv (decide ((i : Int) < (l.length : Nat))))] (by kernel_rfl) (zG (zC (zR (zaj (t := decide ((i : Int) < (l.length : Nat))) rfl (fun h7 => ?_) (fun h7 => ?_)))))))
   ·skip
    have h7' : (i : Int) < (l.length : Nat) := of_decide_eq_true h7
    obtain ⟨x, hx, hdr, ht⟩ := zdK (l := l) (i := i) (by omega)
    refine zaq (zC (zR (zai (zR (zV (o_s (by exact zf8 (o := 0) (o' := 7 * i) rfl rfl (by first | omega | (simp at *; omega)) (by first | omega | (simp at *; omega))) ?_))))))
    refine o_s (by refine z4 (v := .agg #[iv x.k, iv x.s, iv x.a, iv x.p, iv x.g, uv x.ka, uv x.kb]) rfl rfl ?_; exact ents_r (i := i) (by omega) hx) ?_
    refine o_b 2 [(12, pv 4 0)] [cw (zT p 1 2 e b), .chan 200 (wc.map qR), .map (hdM hd), cw (qP l ++ zbt zE m5), cw [iv x.k, iv x.s, iv x.a, iv x.p, iv x.g, uv x.ka, uv x.kb]] (by kernel_rfl) (zG (zC (zbx [cw (zT p 1 2 e b), .chan 200 (wc.map qR), .map (hdM hd), cw (qP l ++ zbt zE m5), cw [iv x.k, iv x.s, iv x.a, iv x.p, iv x.g, uv x.ka, uv x.kb]] (by kernel_rfl) (d_n 3 3 5 [(51, pv 0 330), (50, pv 0 0), (49, pv 0 0)] [cw (zT p 1 2 e b), .chan 200 (wc.map qR), .map (hdM hd), cw (qP l ++ zbt zE m5), cw [iv x.k, iv x.s, iv x.a, iv x.p, iv x.g, uv x.ka, uv x.kb]] [] (by kernel_rfl) rfl rfl (d_s rfl rfl rfl (by kernel_rfl) (by refine z4 (v := .chan (some 1)) rfl rfl ?_; exact (zcu 0).trans rfl) ?_)))))
    refine d_n 1 5 5 [(53, .agg #[iv x.k, iv x.s, iv x.a, iv x.p, iv x.g, uv x.ka, uv x.kb])] [cw (zT p 1 2 e b), .chan 200 (wc.map qR), .map (hdM hd), cw (qP l ++ zbt zE m5), cw [iv x.k, iv x.s, iv x.a, iv x.p, iv x.g, uv x.ka, uv x.kb]] [⟨4, [4], [], none⟩, ⟨3, [0], [], none⟩] (by kernel_rfl) rfl rfl (d_snd (k := 1) (b := wc.map qR) (b2 := (wc ++ [x]).map qR) rfl rfl rfl (by rw [List.length_map]; rw [hwc]; simp; omega) rfl (zhP wc x) ?_)
    refine zb2 (zC (zV (o_s (by refine zaf (v := .int .i64 (i64.wrap ((i : Int) + 1))) (congrArg (Value.int .i64) (w64 (by first | omega | (simp at *; omega)) (by first | omega | (simp at *; omega)))) ?_; kernel_rfl) ?_)))
    refine o_d 1 [(45, iv ((i : Int) + 1))] (by kernel_rfl) (zG (⟨l.length - (i + 1), ?_⟩))
    refine ⟨⟨reg [(45, iv ((i + 1) : Int)), (44, iv (l.length : Nat)), (43, sv 3 0 l.length (l.length + m5)), (0, pv 0 0)], [cw (zT p 1 2 e b), .chan 200 ((wc ++ [x]).map qR), .map (hdM hd), cw (qP l ++ zbt zE m5)]⟩, ?_⟩
    refine zf2 (by omega) ⟨?_, ?_⟩
    ·exact Wk.ren [0, 1, 2, 3] rfl rfl (by decide) ⟨rfl, ⟨rfl, ⟨rfl, ⟨rfl, trivial⟩⟩⟩⟩ ⟨.inl (qB rfl rfl), ⟨.inl (congrArg some (zX _).symm), ⟨.inl (congrArg some (qI _).symm), ⟨.inl (zQ (zaP l m5)), trivial⟩⟩⟩⟩
    ·exact ⟨(i + 1), (wc ++ [x]), rfl, by omega, (by rw [ht, hwc, List.append_assoc]), rfl⟩
   have h7' : ¬ ((i : Int) < (l.length : Nat)) := of_decide_eq_false h7
   refine zcD (zC (zR (zV (o_d 1 [(4, iv 0)] (by kernel_rfl) (zG (zC (zaZ ?_)))))))
   have hW : zcj (HS.mk p w hd e b) l = (0, ⟨p, w ++ l, hd, e, b⟩) := ziC (by show ¬ 200 < w.length + l.length; simp at *; omega) (by first | assumption | (simp_all [zaR]; done))
   have hil : wc = w ++ l := by rw [hwc, show i = l.length by omega]; simp
   exact ⟨trivial, ⟨reg [(4, iv 0)], [cw (zT p 1 2 e b), .chan 200 (wc.map qR), .map (hdM hd), cw (qP l ++ zbt zE m5)]⟩, Wk.ren [0, 1, 2, 3] rfl rfl (by decide) ⟨rfl, trivial⟩ ⟨.inl (qB rfl rfl), ⟨.inl (congrArg some (zX _).symm), ⟨.inl (congrArg some (qI _).symm), ⟨.inl (zQ (zaP l m5)), trivial⟩⟩⟩⟩, [iv 0], (qE rfl rfl), (zU rfl qA), (by rw [hW]; rfl), (by first | (rw [hW]; done) | (rw [hW]; rfl) | (rw [hW, hil]; rfl) | (rw [hW, hil]; done) | (rw [hW, hl0, List.append_nil]; rfl) | (rw [hW, hl0, List.append_nil]; done))⟩
 ·skip
  refine d_clG [5] [cr (qP w ++ zbt zE m4)] [qG p, sv 0 0 w.length (w.length + m4)] (AllE h_pool_All h_pool_Apply h_pool_may h_pool_held h_pool_fits h_pool_Check h_pool_placed h_cookie_Next p w m4 w.length (w.length + m4) (by simp) (by first | omega | (simp at *; omega))) rfl (zaz (qN (zaG p)) (zaz rfl rfl)) ⟨⟨_, rfl, zcA (zaP w m4) (fun q => rfl)⟩, trivial⟩ (by decide) ⟨_, _, ⟨rfl, rfl⟩, Nat.le_refl 1, zbf [_] []⟩ ?_ (by kernel_rfl)
  rintro v1 h1' ⟨rfl, rfl⟩
  refine ⟨.tuple #[qG ((zaR p w 0).1), iv ((zaR p w 0).2.1 : Int), iv ((zaR p w 0).2.2)], [cw (zT p 1 2 e b), .chan 200 (w.map qR), .map (hdM hd), slB zE (qP l) q, .gone, cw (qP w ++ zbt zE m4)], [], (qN (all_cons (qZ ((zaR p w 0).1)) (all_cons rfl (all_cons rfl rfl)))), ⟨rfl, ⟨rfl, ⟨rfl, ⟨rfl, ⟨rfl, ⟨rfl, trivial⟩⟩⟩⟩⟩⟩, trivial, ?_⟩
  refine d_n 5 12 5 [(5, pv 4 0), (32, iv ((zaR p w 0).2.2)), (31, iv ((zaR p w 0).2.1 : Int)), (30, qG ((zaR p w 0).1)), (22, .tuple #[qG ((zaR p w 0).1), iv ((zaR p w 0).2.1 : Int), iv ((zaR p w 0).2.2)])] [cw (zT p 1 2 e b), .chan 200 (w.map qR), .map (hdM hd), slB zE (qP l) q, cw (pl zH), cw (qP w ++ zbt zE m4)] [⟨11, [], [4], none⟩, ⟨6, [5], [], some 6⟩, ⟨5, [0, 1, 2], [1, 2], some 5⟩, ⟨3, [0], [], none⟩] (by kernel_rfl) rfl rfl (d_s0 rfl rfl ⟨_, _, _, rfl⟩ (by kernel_rfl) (by refine qQ (c' := pl ((zaR p w 0).1)) rfl rfl rfl ?_ ?_ ?_; exact zN _; exact zbU (by omega); exact qO zH ((zaR p w 0).1)) ?_)
  refine d_n 2 15 5 [(7, iv ((zaR p w 0).2.2)), (6, iv ((zaR p w 0).2.1 : Int))] [cw (zT p 1 2 e b), .chan 200 (w.map qR), .map (hdM hd), slB zE (qP l) q, cw (pl ((zaR p w 0).1)), cw (qP w ++ zbt zE m4)] [⟨12, [4], [4], none⟩, ⟨11, [], [4], none⟩, ⟨6, [5], [], some 6⟩, ⟨5, [0, 1, 2], [1, 2], some 5⟩, ⟨3, [0], [], none⟩] (by kernel_rfl) rfl rfl (zb2 (z5 [(5, pv 4 0), (0, pv 0 0), (1, slV 3 l.length q)] (by kernel_rfl) (zR (zR (zV (o_s (by refine z4 (v := qG ((zaR p w 0).1)) rfl rfl ?_; exact zal ((zaR p w 0).1)) ?_))))))
  refine o_d 1 [(35, slV 3 l.length q)] (by kernel_rfl) ?_
  rcases q with _ | m8
  ·skip
   have hl0 : l = [] := hq rfl
   refine zcc (zc7 (All0 h_pool_All h_pool_Apply h_pool_may h_pool_held h_pool_fits h_pool_Check h_pool_placed h_cookie_Next ((zaR p w 0).1)) rfl (all_cons (zaG ((zaR p w 0).1)) (all_cons rfl rfl)) (all_cons (qZ ((zaR p w 0).1)) (all_cons rfl (all_cons rfl rfl))) (o_b 5 [(8, pv 6 0), (39, iv 0), (38, iv 0), (37, qG ((zaR p w 0).1)), (33, .tuple #[qG ((zaR p w 0).1), iv 0, iv 0])] [cw (zT p 1 2 e b), .chan 200 (w.map qR), .map (hdM hd), .gone, cw (pl ((zaR p w 0).1)), cw (qP w ++ zbt zE m4), cw (pl zH)] (by kernel_rfl) (zc1 (by refine qQ (c' := pl ((zaR p w 0).1)) rfl rfl rfl ?_ ?_ ?_; exact zN _; exact zbU (by omega); exact qO zH ((zaR p w 0).1)) ?_)))
   refine o_b 2 [(10, iv 0), (9, iv 0)] [cw (zT p 1 2 e b), .chan 200 (w.map qR), .map (hdM hd), .gone, cw (pl ((zaR p w 0).1)), cw (qP w ++ zbt zE m4), cw (pl ((zaR p w 0).1))] (by kernel_rfl) (zG (zC (zR (zV (o_d 2 [(41, bv false), (40, iv 0)] (by kernel_rfl) (zG (zC (zbW rfl (zaq (zC (zR (zR ?_))))))))))))
   refine zV (o_d 3 [(45, iv 0), (44, iv 0), (43, .slice none 0 0)] (by kernel_rfl) (zG (zC (zai (zdm (fun μ s => (μ = 0 ∧ s = ⟨reg [(45, iv 0), (44, iv 0), (43, .slice none 0 0), (0, pv 0 0)], [cw (zT p 1 2 e b), .chan 200 (w.map qR), .map (hdM hd), .gone, cw (pl ((zaR p w 0).1)), cw (qP w ++ zbt zE m4), cw (pl ((zaR p w 0).1))]⟩)) ⟨0, ?_⟩ ?_)))))
   ·skip
    refine ⟨⟨reg [(45, iv 0), (44, iv 0), (43, .slice none 0 0), (0, pv 0 0)], [cw (zT p 1 2 e b), .chan 200 (w.map qR), .map (hdM hd), .gone, cw (pl ((zaR p w 0).1)), cw (qP w ++ zbt zE m4), cw (pl ((zaR p w 0).1))]⟩, ?_⟩
    refine ⟨?_, ?_⟩
    ·exact Wk.ren [0, 1, 2, 3, 4, 5, 6] rfl rfl (by decide) ⟨rfl, ⟨rfl, ⟨rfl, ⟨rfl, trivial⟩⟩⟩⟩ ⟨.inl (qB rfl rfl), ⟨.inl (congrArg some (zX _).symm), ⟨.inl (congrArg some (qI _).symm), ⟨.inl rfl, ⟨.inl (zQ (zaH ((zaR p w 0).1))), ⟨.inl (zQ (zaP w m4)), ⟨.inl (zQ (zaH ((zaR p w 0).1))), trivial⟩⟩⟩⟩⟩⟩⟩
    ·exact ⟨rfl, rfl⟩
   ·rintro μ s (⟨rfl, rfl⟩)
    ·skip
     refine zR (zV (o_d 1 [(46, bv false)] (by kernel_rfl) (zG (zC (zR (zbW rfl (zcD (zC (zR (zV (o_d 1 [(4, iv 0)] (by kernel_rfl) (zG ?_))))))))))))
     refine zC (zaZ ?_)
     have hW : zcj (HS.mk p w hd e b) l = (0, ⟨p, w ++ l, hd, e, b⟩) := ziC (by show ¬ 200 < w.length + l.length; simp at *; omega) (by first | assumption | (simp_all [zaR]; done))
     exact ⟨trivial, ⟨reg [(4, iv 0)], [cw (zT p 1 2 e b), .chan 200 (w.map qR), .map (hdM hd), .gone]⟩, Wk.ren [0, 1, 2, 3] rfl rfl (by decide) ⟨rfl, trivial⟩ ⟨.inl (qB rfl rfl), ⟨.inl (congrArg some (zX _).symm), ⟨.inl (congrArg some (qI _).symm), ⟨.inl rfl, trivial⟩⟩⟩⟩, [iv 0], (qE rfl rfl), (zU rfl qA), (by rw [hW]; rfl), (by first | (rw [hW]; done) | (rw [hW]; rfl) | (rw [hW, hil]; rfl) | (rw [hW, hil]; done) | (rw [hW, hl0, List.append_nil]; rfl) | (rw [hW, hl0, List.append_nil]; done))⟩
  ·skip
   refine zcc (callS (a1 := [qG ((zaR p w 0).1), .slice (some ⟨0, 0, none⟩) l.length (l.length + m8)]) [3] [qP l ++ zbt zE m8] (AllE h_pool_All h_pool_Apply h_pool_may h_pool_held h_pool_fits h_pool_Check h_pool_placed h_cookie_Next ((zaR p w 0).1) l m8 l.length (l.length + m8) (by simp) (by first | omega | (simp at *; omega))) rfl (fun n => ziR _ _ _ _ _) ⟨⟨_, rfl⟩, zaP _ _, trivial⟩ (all_cons (qZ ((zaR ((zaR p w 0).1) l 0).1)) (all_cons rfl (all_cons rfl rfl))) ?_)
   refine o_b 5 [(8, pv 6 0), (39, iv ((zaR ((zaR p w 0).1) l 0).2.2)), (38, iv ((zaR ((zaR p w 0).1) l 0).2.1 : Int)), (37, qG ((zaR ((zaR p w 0).1) l 0).1)), (33, .tuple #[qG ((zaR ((zaR p w 0).1) l 0).1), iv ((zaR ((zaR p w 0).1) l 0).2.1 : Int), iv ((zaR ((zaR p w 0).1) l 0).2.2)])] [cw (zT p 1 2 e b), .chan 200 (w.map qR), .map (hdM hd), cw (qP l ++ zbt zE m8), cw (pl ((zaR p w 0).1)), cw (qP w ++ zbt zE m4), cw (pl zH)] (by kernel_rfl) (zc1 (by refine qQ (c' := pl ((zaR ((zaR p w 0).1) l 0).1)) rfl rfl rfl ?_ ?_ ?_; exact zN _; exact zbU (by omega); exact qO zH ((zaR ((zaR p w 0).1) l 0).1)) ?_)
   refine o_b 2 [(10, iv ((zaR ((zaR p w 0).1) l 0).2.2)), (9, iv ((zaR ((zaR p w 0).1) l 0).2.1 : Int))] [cw (zT p 1 2 e b), .chan 200 (w.map qR), .map (hdM hd), cw (qP l ++ zbt zE m8), cw (pl ((zaR p w 0).1)), cw (qP w ++ zbt zE m4), cw (pl ((zaR ((zaR p w 0).1) l 0).1))] (by kernel_rfl) (zG (zC (zR (zV (o_d 2 [(41, bv (((zaR ((zaR p w 0).1) l 0).2.2) != 0)), (40, iv ((zaR ((zaR p w 0).1) l 0).2.2))] (by kernel_rfl) (zG (zC (zaj (t := ((zaR ((zaR p w 0).1) l 0).2.2) != 0) rfl (fun h9 => ?_) (fun h9 => ?_)))))))))
   ·skip
    have h9' : (zaR ((zaR p w 0).1) l 0).2.2 ≠ 0 := zjt h9
    refine zR (zV (o_d 2 [(4, iv ((zaR ((zaR p w 0).1) l 0).2.2)), (42, iv ((zaR ((zaR p w 0).1) l 0).2.2))] (by kernel_rfl) (zG (zC (zaZ ?_)))))
    have hW : zcj (HS.mk p w hd e b) l = ((zaR ((zaR p w 0).1) l 0).2.2, (HS.mk p w hd e b)) := by have z := @wish_bad (HS.mk p w hd e b) l (by show ¬ 200 < w.length + l.length; simp at *; omega) (by first | assumption | (simp_all [zaR]; done)); first | exact z | (subst_vars; exact z)
    exact ⟨trivial, ⟨reg [(4, iv ((zaR ((zaR p w 0).1) l 0).2.2))], [cw (zT p 1 2 e b), .chan 200 (w.map qR), .map (hdM hd), cw (qP l ++ zbt zE m8)]⟩, Wk.ren [0, 1, 2, 3] rfl rfl (by decide) ⟨rfl, trivial⟩ ⟨.inl (qB rfl rfl), ⟨.inl (congrArg some (zX _).symm), ⟨.inl (congrArg some (qI _).symm), ⟨.inl (zQ (zaP l m8)), trivial⟩⟩⟩⟩, [iv ((zaR ((zaR p w 0).1) l 0).2.2)], (qE rfl rfl), (zU rfl qA), (by rw [hW]; rfl), (by first | (rw [hW]; done) | (rw [hW]; rfl) | (rw [hW, hil]; rfl) | (rw [hW, hil]; done) | (rw [hW, hl0, List.append_nil]; rfl) | (rw [hW, hl0, List.append_nil]; done))⟩
   have h9' : ¬ ((zaR ((zaR p w 0).1) l 0).2.2 ≠ 0) := zju h9
   refine zaq (zC (zR (zR (zV (o_d 3 [(45, iv 0), (44, iv (l.length : Nat)), (43, sv 3 0 l.length (l.length + m8))] (by kernel_rfl) (zG (zC (zai (zdm (fun μ s => ∃ (i : Nat), ∃ (wc : List Ent), μ = l.length - i ∧ (i ≤ l.length) ∧ (wc = w ++ l.take i) ∧ s = ⟨reg [(45, iv (i : Int)), (44, iv (l.length : Nat)), (43, sv 3 0 l.length (l.length + m8)), (0, pv 0 0)], [cw (zT p 1 2 e b), .chan 200 (wc.map qR), .map (hdM hd), cw (qP l ++ zbt zE m8)]⟩) ⟨(l.length - 0), ?_⟩ ?_)))))))))
   ·skip
    refine ⟨⟨reg [(45, iv (0 : Int)), (44, iv (l.length : Nat)), (43, sv 3 0 l.length (l.length + m8)), (0, pv 0 0)], [cw (zT p 1 2 e b), .chan 200 (w.map qR), .map (hdM hd), cw (qP l ++ zbt zE m8)]⟩, ?_⟩
    refine ⟨?_, ?_⟩
    ·exact Wk.ren [0, 1, 2, 3] rfl rfl (by decide) ⟨rfl, ⟨rfl, ⟨rfl, ⟨rfl, trivial⟩⟩⟩⟩ ⟨.inl (qB rfl rfl), ⟨.inl (congrArg some (zX _).symm), ⟨.inl (congrArg some (qI _).symm), ⟨.inl (zQ (zaP l m8)), trivial⟩⟩⟩⟩
    ·exact ⟨0, w, rfl, (Nat.zero_le _), (by simp), rfl⟩
   rintro μ s ⟨i, wc, rfl, hi, hwc, rfl⟩
   refine zR (zV (o_d 1 [(46, bv (decide ((i : Int) < (l.length : Nat))))] (by kernel_rfl) (zG (zC (zR (zaj (t := decide ((i : Int) < (l.length : Nat))) rfl (fun h10 => ?_) (fun h10 => ?_)))))))
   ·skip
    have h10' : (i : Int) < (l.length : Nat) := of_decide_eq_true h10
    obtain ⟨x, hx, hdr, ht⟩ := zdK (l := l) (i := i) (by omega)
    refine zaq (zC (zR (zai (zR (zV (o_s (by exact zf8 (o := 0) (o' := 7 * i) rfl rfl (by first | omega | (simp at *; omega)) (by first | omega | (simp at *; omega))) ?_))))))
    refine o_s (by refine z4 (v := .agg #[iv x.k, iv x.s, iv x.a, iv x.p, iv x.g, uv x.ka, uv x.kb]) rfl rfl ?_; exact ents_r (i := i) (by omega) hx) ?_
    refine o_b 2 [(12, pv 4 0)] [cw (zT p 1 2 e b), .chan 200 (wc.map qR), .map (hdM hd), cw (qP l ++ zbt zE m8), cw [iv x.k, iv x.s, iv x.a, iv x.p, iv x.g, uv x.ka, uv x.kb]] (by kernel_rfl) (zG (zC (zbx [cw (zT p 1 2 e b), .chan 200 (wc.map qR), .map (hdM hd), cw (qP l ++ zbt zE m8), cw [iv x.k, iv x.s, iv x.a, iv x.p, iv x.g, uv x.ka, uv x.kb]] (by kernel_rfl) (d_n 3 3 5 [(51, pv 0 330), (50, pv 0 0), (49, pv 0 0)] [cw (zT p 1 2 e b), .chan 200 (wc.map qR), .map (hdM hd), cw (qP l ++ zbt zE m8), cw [iv x.k, iv x.s, iv x.a, iv x.p, iv x.g, uv x.ka, uv x.kb]] [] (by kernel_rfl) rfl rfl (d_s rfl rfl rfl (by kernel_rfl) (by refine z4 (v := .chan (some 1)) rfl rfl ?_; exact (zcu 0).trans rfl) ?_)))))
    refine d_n 1 5 5 [(53, .agg #[iv x.k, iv x.s, iv x.a, iv x.p, iv x.g, uv x.ka, uv x.kb])] [cw (zT p 1 2 e b), .chan 200 (wc.map qR), .map (hdM hd), cw (qP l ++ zbt zE m8), cw [iv x.k, iv x.s, iv x.a, iv x.p, iv x.g, uv x.ka, uv x.kb]] [⟨4, [4], [], none⟩, ⟨3, [0], [], none⟩] (by kernel_rfl) rfl rfl (d_snd (k := 1) (b := wc.map qR) (b2 := (wc ++ [x]).map qR) rfl rfl rfl (by rw [List.length_map]; rw [hwc]; simp; omega) rfl (zhP wc x) ?_)
    refine zb2 (zC (zV (o_s (by refine zaf (v := .int .i64 (i64.wrap ((i : Int) + 1))) (congrArg (Value.int .i64) (w64 (by first | omega | (simp at *; omega)) (by first | omega | (simp at *; omega)))) ?_; kernel_rfl) ?_)))
    refine o_d 1 [(45, iv ((i : Int) + 1))] (by kernel_rfl) (zG (⟨l.length - (i + 1), ?_⟩))
    refine ⟨⟨reg [(45, iv ((i + 1) : Int)), (44, iv (l.length : Nat)), (43, sv 3 0 l.length (l.length + m8)), (0, pv 0 0)], [cw (zT p 1 2 e b), .chan 200 ((wc ++ [x]).map qR), .map (hdM hd), cw (qP l ++ zbt zE m8)]⟩, ?_⟩
    refine zf2 (by omega) ⟨?_, ?_⟩
    ·exact Wk.ren [0, 1, 2, 3] rfl rfl (by decide) ⟨rfl, ⟨rfl, ⟨rfl, ⟨rfl, trivial⟩⟩⟩⟩ ⟨.inl (qB rfl rfl), ⟨.inl (congrArg some (zX _).symm), ⟨.inl (congrArg some (qI _).symm), ⟨.inl (zQ (zaP l m8)), trivial⟩⟩⟩⟩
    ·exact ⟨(i + 1), (wc ++ [x]), rfl, by omega, (by rw [ht, hwc, List.append_assoc]), rfl⟩
   have h10' : ¬ ((i : Int) < (l.length : Nat)) := of_decide_eq_false h10
   refine zcD (zC (zR (zV (o_d 1 [(4, iv 0)] (by kernel_rfl) (zG (zC (zaZ ?_)))))))
   have hW : zcj (HS.mk p w hd e b) l = (0, ⟨p, w ++ l, hd, e, b⟩) := ziC (by show ¬ 200 < w.length + l.length; simp at *; omega) (by first | assumption | (simp_all [zaR]; done))
   have hil : wc = w ++ l := by rw [hwc, show i = l.length by omega]; simp
   exact ⟨trivial, ⟨reg [(4, iv 0)], [cw (zT p 1 2 e b), .chan 200 (wc.map qR), .map (hdM hd), cw (qP l ++ zbt zE m8)]⟩, Wk.ren [0, 1, 2, 3] rfl rfl (by decide) ⟨rfl, trivial⟩ ⟨.inl (qB rfl rfl), ⟨.inl (congrArg some (zX _).symm), ⟨.inl (congrArg some (qI _).symm), ⟨.inl (zQ (zaP l m8)), trivial⟩⟩⟩⟩, [iv 0], (qE rfl rfl), (zU rfl qA), (by rw [hW]; rfl), (by first | (rw [hW]; done) | (rw [hW]; rfl) | (rw [hW, hil]; rfl) | (rw [hW, hil]; done) | (rw [hW, hl0, List.append_nil]; rfl) | (rw [hW, hl0, List.append_nil]; done))⟩
end Go.Rh

set_option maxHeartbeats 4000000
namespace Go.Rh
theorem ss0 (d : qL) (s k : Nat) (x0 x1 x2 x3 x4 : Int) : zZ d s x0 x1 x2 x3 x4 (3 + 5 * k) = if k = s then x0 else d (3 + 5 * k) := by
 simp only [zZ, upd]; repeat' split
 all_goals first | rfl | omega | (exfalso; omega)
theorem ss1 (d : qL) (s k : Nat) (x0 x1 x2 x3 x4 : Int) : zZ d s x0 x1 x2 x3 x4 (3 + 5 * k + 1) = if k = s then x1 else d (3 + 5 * k + 1) := by
 simp only [zZ, upd]; repeat' split
 all_goals first | rfl | omega | (exfalso; omega)
theorem ss2 (d : qL) (s k : Nat) (x0 x1 x2 x3 x4 : Int) : zZ d s x0 x1 x2 x3 x4 (3 + 5 * k + 2) = if k = s then x2 else d (3 + 5 * k + 2) := by
 simp only [zZ, upd]; repeat' split
 all_goals first | rfl | omega | (exfalso; omega)
theorem ss3 (d : qL) (s k : Nat) (x0 x1 x2 x3 x4 : Int) : zZ d s x0 x1 x2 x3 x4 (3 + 5 * k + 3) = if k = s then x3 else d (3 + 5 * k + 3) := by
 simp only [zZ, upd]; repeat' split
 all_goals first | rfl | omega | (exfalso; omega)
theorem ss4 (d : qL) (s k : Nat) (x0 x1 x2 x3 x4 : Int) : zZ d s x0 x1 x2 x3 x4 (3 + 5 * k + 4) = if k = s then x4 else d (3 + 5 * k + 4) := by
 simp only [zZ, upd]; repeat' split
 all_goals first | rfl | omega | (exfalso; omega)
theorem ssN (d : qL) {s i : Nat} (x0 x1 x2 x3 x4 : Int) (hs : s < 64) (h : i < 3 ∨ 323 ≤ i) : zZ d s x0 x1 x2 x3 x4 i = d i := by
 simp only [zZ, upd]; rw [if_neg (by omega), if_neg (by omega), if_neg (by omega), if_neg (by omega), if_neg (by omega)]
theorem done_set (c : qL) (e : Ent) (hk : 1 ≤ e.k ∧ e.k ≤ 5) : ∃ x0 x1 x2 x3 x4, zaX c e = zZ (upd c 0 (i64.wrap (c 0 + 1))) e.s.toNat x0 x1 x2 x3 x4 ∧
  (e.k = 1 → x0 = 1 ∧ x1 = e.a ∧ x2 = e.p ∧ x3 = e.g ∧ x4 = 0) ∧ (e.k = 5 → x0 = 0 ∧ x1 = 0 ∧ x2 = 0 ∧ x3 = 0 ∧ x4 = 0) ∧
  (e.k ≠ 1 → e.k ≠ 5 → x0 = e.k ∧ x1 = c (3 + 5 * e.s.toNat + 1) ∧ x2 = c (3 + 5 * e.s.toNat + 2) ∧ x3 = c (3 + 5 * e.s.toNat + 3) ∧ (e.k = 4 → x4 = c 323) ∧ (e.k ≠ 4 → x4 = c (3 + 5 * e.s.toNat + 4))) := by
 have hu : ∀ j, upd c 0 (i64.wrap (c 0 + 1)) (3 + 5 * e.s.toNat + j) = c (3 + 5 * e.s.toNat + j) := fun j => zg2 _ _ (by omega)
 by_cases h1 : e.k = 1
 ·exact ⟨1, e.a, e.p, e.g, 0, by simp only [zaX, h1, if_true], by simp [h1], by simp [h1], by simp [h1]⟩
 by_cases h5 : e.k = 5
 ·exact ⟨0, 0, 0, 0, 0, by simp [zaX, h5], by simp [h5], by simp [h5], by simp [h5]⟩
 by_cases h4 : e.k = 4
 ·refine ⟨4, _, _, _, c 323, ?_, by simp [h4], by simp [h4], fun _ _ => ⟨h4.symm, hu 1, hu 2, hu 3, fun _ => rfl, fun h => absurd h4 h⟩⟩
  simp only [zaX, h4]; exact (zjR _ _ _ _).symm
 by_cases h2 : e.k = 2
 ·refine ⟨2, _, _, _, _, ?_, by simp [h2], by simp [h2], fun _ _ => ⟨h2.symm, hu 1, hu 2, hu 3, fun h => by omega, fun _ => hu 4⟩⟩
  simp only [zaX, h2]; exact (zg7 _ _ _).symm
 ·have h3 : e.k = 3 := by omega
  refine ⟨3, _, _, _, _, ?_, by simp [h3], by simp [h3], fun _ _ => ⟨h3.symm, hu 1, hu 2, hu 3, fun h => by omega, fun _ => hu 4⟩⟩
  simp only [zaX, h3]; exact (zg7 _ _ _).symm
theorem done6 {c : qL} {e : Ent} (h : e.k = 6) {i : Nat} (hi : 1 ≤ i ∧ i < 323) : zaX c e i = c i := by
 simp only [zaX, h]
 show nextS (upd c 0 _) e.ka e.kb i = c i
 unfold nextS
 rw [zfb _ _ _ _ _ _ _ _ (by omega)]
 exact zg2 _ _ (by omega)
theorem done6e {c : qL} {e : Ent} (h : e.k = 6) : zaX c e 323 = i64.wrap (c 323 + 1) := by
 simp only [zaX, h]; rfl
theorem done0 (c : qL) (e : Ent) (hs : 0 ≤ e.s ∧ e.s < 64) : zaX c e 0 = i64.wrap (c 0 + 1) := by
 simp only [zaX]
 repeat' split
 ·rw [ssN _ _ _ _ _ _ (by omega) (by omega)]; rfl
 ·rw [zg2 _ _ (by omega)]; rfl
 ·rw [zg2 _ _ (by omega)]; rfl
 ·rw [zg2 _ _ (by omega), zg2 _ _ (by omega)]; rfl
 ·rw [ssN _ _ _ _ _ _ (by omega) (by omega)]; rfl
 ·unfold nextS; rw [zfb _ _ _ _ _ _ _ _ (by omega)]; rfl
theorem checkS_ok {e : Ent} (h : zaK e = 0) : (1 ≤ e.k ∧ e.k ≤ 6) ∧ (0 ≤ e.s ∧ e.s < 64) ∧ (e.k = 6 → e.s = 0) ∧ (e.k = 1 → za0 e.a e.p = true ∧ 1 ≤ e.g ∧ e.g ≤ 8) ∧ (e.k ≠ 1 → e.a = 0 ∧ e.p = 0 ∧ e.g = 0) ∧ (e.k ≠ 6 → e.ka = 0 ∧ e.kb = 0) := by
 unfold zaK at h
 split at h
 ·cases h
 rename_i h1
 split at h
 ·cases h
 rename_i h2
 split at h
 ·cases h
 rename_i h3
 split at h
 ·cases h
 rename_i h4
 refine ⟨by omega, by omega, fun q => by omega, fun q => ?_, fun q => by omega, fun q => by omega⟩
 have : ¬ (za0 e.a e.p = false ∨ e.g < 1 ∨ 8 < e.g) := fun x => h3 ⟨q, x⟩
 exact ⟨by cases hp : za0 e.a e.p <;> simp [hp] at this ⊢, by omega, by omega⟩
theorem apply_ok {c : qL} {e : Ent} (h : (zO c e).2 = 0) : (zO c e).1 = zaX c e ∧ zaK e = 0 ∧ zci c e = false ∧ (e.k = 5 → ¬ c 323 < i64.wrap (c (3 + 5 * e.s.toNat + 4) + 3)) := by
 unfold zO at h ⊢
 split at h
 ·rename_i he
  rw [if_pos he]
  refine ⟨rfl, ?_⟩
  unfold ze3 at he
  split at he
  ·rename_i hc; exact absurd he hc
  ·rename_i hc
   have hc : zaK e = 0 := Decidable.of_not_not hc
   unfold zbE at he
   split at he
   ·cases he
   ·rename_i hb
    split at he
    ·cases he
    ·rename_i hs
     exact ⟨hc, by simpa using hb, fun h5 hx => hs ⟨h5, hx⟩⟩
 ·rename_i he; exact absurd h he
theorem bad_false {c : qL} {e : Ent} (h : zci c e = false) : (e.k = 1 → c (3 + 5 * e.s.toNat) = 0 ∧ zeK c e.a e.p = false) ∧ (e.k = 2 ∨ e.k = 4 → c (3 + 5 * e.s.toNat) = 1 ∨ c (3 + 5 * e.s.toNat) = 3) ∧ (e.k = 3 → c (3 + 5 * e.s.toNat) = 2) ∧ (e.k = 5 → c (3 + 5 * e.s.toNat) = 4) := by
 unfold zci at h
 simp only at h
 refine ⟨fun q => ?_, fun q => ?_, fun q => ?_, fun q => ?_⟩
 ·rw [if_pos q] at h
  simp only [Bool.or_eq_false_iff, decide_eq_false_iff_not, Decidable.not_not] at h; exact h
 ·rw [if_neg (by omega), if_pos q] at h
  simp only [Bool.and_eq_false_iff, decide_eq_false_iff_not, Decidable.not_not] at h; exact h
 ·rw [if_neg (by omega), if_neg (by omega), if_pos q] at h
  simp only [decide_eq_false_iff_not, Decidable.not_not] at h; exact h
 ·rw [if_neg (by omega), if_neg (by omega), if_neg (by omega), if_pos q] at h
  simp only [decide_eq_false_iff_not, Decidable.not_not] at h; exact h
theorem zic {c : qL} {a p : Int} : ∀ {n : Nat}, zeq c a p n = false → ∀ k, k < n → c (3 + 5 * k) ≠ 0 → ¬ (c (3 + 5 * k + 1) = a ∧ c (3 + 5 * k + 2) = p)
 | n + 1, h, k, hk, h0 => by
  simp only [zeq, Bool.or_eq_false_iff] at h
  by_cases e : k = n
  ·subst e
   have := h.2
   simp [zds, h0] at this
   exact fun q => this q.1 q.2
  ·exact zic h.1 k (by omega) h0
theorem zj5 {c : qL} {a p : Int} (h : zeK c a p = false) : ¬ (c 1 = a ∧ c 2 = p) ∧ ∀ k, k < 64 → c (3 + 5 * k) ≠ 0 → ¬ (c (3 + 5 * k + 1) = a ∧ c (3 + 5 * k + 2) = p) := by
 simp only [zeK, Bool.or_eq_false_iff] at h
 refine ⟨?_, zic h.2⟩
 have := h.1
 simp at this
 exact fun q => this q.1 q.2
structure PInv (c : qL) (b : Nat) : Prop where
  ver : 0 ≤ c 0 ∧ c 0 ≤ b
  ep : 1 ≤ c 323 ∧ c 323 ≤ b + 1
  st : ∀ k, k < 64 → 0 ≤ c (3 + 5 * k) ∧ c (3 + 5 * k) ≤ 4
  since : ∀ k, k < 64 → 0 ≤ c (3 + 5 * k + 4) ∧ c (3 + 5 * k + 4) ≤ c 323
  uniq : ∀ j k, j < 64 → k < 64 → j ≠ k → c (3 + 5 * j) ≠ 0 → c (3 + 5 * k) ≠ 0 → ¬ (c (3 + 5 * j + 1) = c (3 + 5 * k + 1) ∧ c (3 + 5 * j + 2) = c (3 + 5 * k + 2))
  own : ∀ k, k < 64 → c (3 + 5 * k) ≠ 0 → ¬ (c (3 + 5 * k + 1) = c 1 ∧ c (3 + 5 * k + 2) = c 2)
  place : za0 (c 1) (c 2) = true
  slot : ∀ k, k < 64 → c (3 + 5 * k) ≠ 0 → za0 (c (3 + 5 * k + 1)) (c (3 + 5 * k + 2)) = true ∧ 1 ≤ c (3 + 5 * k + 3) ∧ c (3 + 5 * k + 3) ≤ 8
theorem w1 {x : Int} (h : 0 ≤ x ∧ x ≤ 4611686018427387904) : i64.wrap (x + 1) = x + 1 := w64 (by omega) (by omega)
theorem PInv.apply {c : qL} {b : Nat} (I : PInv c b) (hb : b ≤ 1000000) {e : Ent} (h : (zO c e).2 = 0) : PInv (zO c e).1 (b + 1) := by
 obtain ⟨h1, hc, hbad, hsoon⟩ := apply_ok h
 rw [h1]
 obtain ⟨hk, hs, hk6, hbind, hno, hnk⟩ := checkS_ok hc
 obtain ⟨b1, b2, b3, b4⟩ := bad_false hbad
 have i1 := I.ver; have i2 := I.ep
 have hv : i64.wrap (c 0 + 1) = c 0 + 1 := w1 (by omega)
 by_cases h6 : e.k = 6
 ·have hw : i64.wrap (c 323 + 1) = c 323 + 1 := w1 (by omega)
  have hd : ∀ {i : Nat}, 1 ≤ i ∧ i < 323 → zaX c e i = c i := fun hi => done6 h6 hi
  have e0 := done0 c e hs
  have e323 : zaX c e 323 = c 323 + 1 := by rw [done6e h6, hw]
  refine ⟨by rw [e0, hv]; omega, by rw [e323]; omega, fun k hk => ?_, fun k hk => ?_, fun j k hj hk hjk => ?_, fun k hk => ?_, ?_, fun k hk => ?_⟩
  ·rw [hd (by omega)]; exact I.st k hk
  ·rw [hd (by omega), e323]; have := I.since k hk; omega
  ·rw [hd (by omega), hd (by omega), hd (by omega), hd (by omega), hd (by omega), hd (by omega)]; exact I.uniq j k hj hk hjk
  ·rw [hd (by omega), hd (by omega), hd (by omega), hd (by omega), hd (by omega)]; exact I.own k hk
  ·rw [hd (by omega), hd (by omega)]; exact I.place
  ·rw [hd (by omega), hd (by omega), hd (by omega), hd (by omega)]; exact I.slot k hk
 ·obtain ⟨x0, x1, x2, x3, x4, hd, g1, g5, g3⟩ := done_set c e (by omega)
  rw [hd]
  have hs64 : e.s.toNat < 64 := by omega
  have u : ∀ {i : Nat}, 0 < i → upd c 0 (i64.wrap (c 0 + 1)) i = c i := fun hi => zg2 _ _ (by omega)
  have hst := I.st _ hs64
  have hsi := I.since _ hs64
  refine ⟨?_, ?_, fun k hk => ?_, fun k hk => ?_, fun j k hj hk hjk => ?_, fun k hk => ?_, ?_, fun k hk => ?_⟩
  ·rw [ssN _ _ _ _ _ _ hs64 (by omega), upd_eq, hv]; omega
  ·rw [ssN _ _ _ _ _ _ hs64 (by omega), u (by omega)]; omega
  ·rw [ss0, u (by omega)]
   split
   ·by_cases q1 : e.k = 1
    ·have := g1 q1; omega
    by_cases q5 : e.k = 5
    ·have := g5 q5; omega
    ·have := g3 q1 q5; omega
   ·exact I.st k hk
  ·rw [ss4, ssN _ _ _ _ _ _ hs64 (by omega), u (by omega), u (by omega)]
   split
   ·by_cases q1 : e.k = 1
    ·have := g1 q1; omega
    by_cases q5 : e.k = 5
    ·have := g5 q5; omega
    ·obtain ⟨_, _, _, _, q4, q4'⟩ := g3 q1 q5
     by_cases q : e.k = 4
     ·rw [q4 q]; omega
     ·rw [q4' q]; exact hsi
   ·exact I.since k hk
  ·rw [ss0, ss0, ss1, ss1, ss2, ss2, u (by omega), u (by omega), u (by omega), u (by omega), u (by omega), u (by omega)]
   intro n1 n2
   by_cases q5 : e.k = 5
   ·obtain ⟨z0, _⟩ := g5 q5
    by_cases ej : j = e.s.toNat
    ·rw [if_pos ej, z0] at n1; exact absurd rfl n1
    by_cases ek : k = e.s.toNat
    ·rw [if_pos ek, z0] at n2; exact absurd rfl n2
    simp only [ej, ek, if_false] at n1 n2 ⊢
    exact I.uniq j k hj hk hjk n1 n2
   by_cases q1 : e.k = 1
   ·obtain ⟨z0, z1, z2, _⟩ := g1 q1
    obtain ⟨_, hh⟩ := b1 q1
    have hf := (zj5 hh).2
    by_cases ej : j = e.s.toNat
    ·have ek : k ≠ e.s.toNat := fun q => hjk (ej.trans q.symm)
     simp only [ej, ek, if_true, if_false] at n1 n2 ⊢
     have := hf k hk n2
     rw [z1, z2]; exact fun q => this ⟨q.1.symm, q.2.symm⟩
    by_cases ek : k = e.s.toNat
    ·simp only [ej, ek, if_true, if_false] at n1 n2 ⊢
     rw [z1, z2]; exact hf j hj n1
    simp only [ej, ek, if_false] at n1 n2 ⊢
    exact I.uniq j k hj hk hjk n1 n2
   ·obtain ⟨z0, z1, z2, z3, _⟩ := g3 q1 q5
    have hne : c (3 + 5 * e.s.toNat) ≠ 0 := by
     have : e.k = 2 ∨ e.k = 3 ∨ e.k = 4 := by omega
     rcases this with q | q | q
     ·have := b2 (.inl q); omega
     ·have := b3 q; omega
     ·have := b2 (.inr q); omega
    have f : ∀ i, (if i = e.s.toNat then x0 else c (3 + 5 * i)) ≠ 0 → c (3 + 5 * i) ≠ 0 := fun i q => by
     by_cases ei : i = e.s.toNat
     ·rw [ei]; exact hne
     ·rw [if_neg ei] at q; exact q
    have f1 : ∀ i, (if i = e.s.toNat then x1 else c (3 + 5 * i + 1)) = c (3 + 5 * i + 1) := fun i => by
     by_cases ei : i = e.s.toNat
     ·rw [if_pos ei, z1, ei]
     ·rw [if_neg ei]
    have f2 : ∀ i, (if i = e.s.toNat then x2 else c (3 + 5 * i + 2)) = c (3 + 5 * i + 2) := fun i => by
     by_cases ei : i = e.s.toNat
     ·rw [if_pos ei, z2, ei]
     ·rw [if_neg ei]
    rw [f1, f1, f2, f2]
    exact I.uniq j k hj hk hjk (f j n1) (f k n2)
  ·rw [ss0, ss1, ss2, ssN _ _ _ _ _ _ hs64 (by omega), ssN _ _ _ _ _ _ hs64 (by omega), u (by omega), u (by omega), u (by omega), u (by omega), u (by omega)]
   intro n1
   by_cases ek : k = e.s.toNat
   ·simp only [ek, if_true] at n1 ⊢
    by_cases q1 : e.k = 1
    ·obtain ⟨z0, z1, z2, _⟩ := g1 q1
     have := (zj5 (b1 q1).2).1
     rw [z1, z2]; exact fun q => this ⟨q.1.symm, q.2.symm⟩
    by_cases q5 : e.k = 5
    ·rw [(g5 q5).1] at n1; exact absurd rfl n1
    ·obtain ⟨z0, z1, z2, z3, _⟩ := g3 q1 q5
     rw [z1, z2]
     refine I.own _ hs64 ?_
     have : e.k = 2 ∨ e.k = 3 ∨ e.k = 4 := by omega
     rcases this with q | q | q
     ·have := b2 (.inl q); omega
     ·have := b3 q; omega
     ·have := b2 (.inr q); omega
   ·simp only [ek, if_false] at n1 ⊢
    exact I.own k hk n1
  ·rw [ssN _ _ _ _ _ _ hs64 (by omega), ssN _ _ _ _ _ _ hs64 (by omega), u (by omega), u (by omega)]; exact I.place
  ·rw [ss0, ss1, ss2, ss3, u (by omega), u (by omega), u (by omega), u (by omega)]
   intro n1
   by_cases ek : k = e.s.toNat
   ·simp only [ek, if_true] at n1 ⊢
    by_cases q1 : e.k = 1
    ·obtain ⟨z0, z1, z2, z3, _⟩ := g1 q1
     rw [z1, z2, z3]; exact hbind q1
    by_cases q5 : e.k = 5
    ·rw [(g5 q5).1] at n1; exact absurd rfl n1
    ·obtain ⟨z0, z1, z2, z3, _⟩ := g3 q1 q5
     rw [z1, z2, z3]
     refine I.slot _ hs64 ?_
     have : e.k = 2 ∨ e.k = 3 ∨ e.k = 4 := by omega
     rcases this with q | q | q
     ·have := b2 (.inl q); omega
     ·have := b3 q; omega
     ·have := b2 (.inr q); omega
   ·simp only [ek, if_false] at n1 ⊢
    exact I.slot k hk n1
theorem ziY (a p ka kb na nb : Int) {i : Nat} (h : 3 ≤ i ∧ i < 323) : newS a p ka kb na nb i = 0 := by
 simp only [newS]
 rw [if_neg (by omega), if_neg (by omega), if_neg (by omega), if_neg (by omega), if_neg (by omega), if_neg (by omega), if_neg (by omega)]
theorem PInv.new {a p ka kb na nb : Int} (h : za0 a p = true) : PInv (newS a p ka kb na nb) 0 := by
 refine ⟨(by decide : (0 : Int) ≤ 0 ∧ (0 : Int) ≤ 0), (by decide : (1 : Int) ≤ 1 ∧ (1 : Int) ≤ 0 + 1), fun k hk => ?_, fun k hk => ?_, fun j k hj hk hjk h1 => ?_, fun k hk h1 => ?_, h, fun k hk h1 => ?_⟩
 ·rw [ziY _ _ _ _ _ _ (by omega)]; decide
 ·rw [ziY _ _ _ _ _ _ (by omega)]; exact ⟨by decide, (by decide : (0 : Int) ≤ 1)⟩
 ·rw [ziY _ _ _ _ _ _ (by omega)] at h1; exact absurd rfl h1
 ·rw [ziY _ _ _ _ _ _ (by omega)] at h1; exact absurd rfl h1
 ·rw [ziY _ _ _ _ _ _ (by omega)] at h1; exact absurd rfl h1
theorem PInv.mono {c : qL} {b b' : Nat} (I : PInv c b) (h : b ≤ b') : PInv c b' :=
 ⟨by have := I.ver; omega, by have := I.ep; omega, I.st, I.since, I.uniq, I.own, I.place, I.slot⟩
end Go.Rh

namespace Go.Rh
theorem stepM_inv {c : qL} {b : Nat} (I : PInv c b) (hb : b ≤ 1000000) (n : Int) : PInv (stepM c n) (b + 1) := by
 unfold stepM
 split
 ·rename_i h; exact I.apply hb h
 ·exact I.mono (by omega)
theorem fold_inv : ∀ (l : List Int) {c : qL} {b : Nat}, PInv c b → b + l.length ≤ 1000000 → PInv (l.foldl stepM c) (b + l.length)
 | [], _, _, I, _ => I
 | n :: l, c, b, I, hb => by
  simp only [List.length_cons] at hb
  have := fold_inv l (stepM_inv I (by omega) n) (by omega)
  simp only [List.foldl_cons, List.length_cons]
  exact this.mono (by omega)
theorem makeS_inv (ns : List Int) {k : Nat} (hk : k ≤ 1000) : PInv (makeS ns k) k := by
 have h0 : PInv (zax 10 80 (ze0 1) (zeZ 1) (ze0 2) (zeZ 2)).1 0 := by
  have hp : za0 10 80 = true := by decide
  simp only [zax, hp, if_true]
  exact PInv.new hp
 have hl : (ns.take k).length ≤ k := by simp; omega
 exact (fold_inv (ns.take k) h0 (by omega)).mono (by omega)
theorem ziB (x : Int) {n : Int} (hn : 0 < n ∧ n ≤ 4611686018427387904) : 0 ≤ zF x n ∧ zF x n < n := by
 have h2 : x.tmod n < n := Int.tmod_lt_of_pos x hn.1
 have h3 : -n < x.tmod n := by
  have := Int.lt_tmod_of_pos x hn.1
  exact this
 unfold zF
 split
 ·rename_i h; rw [w64 (by omega) (by omega)]; omega
 ·omega
end Go.Rh
namespace Go.Rh
end Go.Rh

namespace Go.Rh
def newHS (p : qL) (u : Int) : HS := ⟨p, [], List.replicate u.toNat (0, -1), e0, false⟩
def zfg (x : HS) (n : Nt) : HS := ⟨x.p, x.w, zbR x.hd n, x.e, x.s⟩
def n0 : Nt := ⟨0, 0, 0, false, false, e0, zH⟩
theorem heardS_len (hd : List (Int × Int)) (n : Nt) : (zbR hd n).length = hd.length := by
 unfold zbR; split
 ·rfl
 ·split <;> simp
theorem sendS_hd (x : HS) : (zam x).1.hd = x.hd := goS_hd x
theorem nts_get {l : List Nt} {k : Nat} (h : k < l.length) : l[k]? = some (l.getD k n0) := by
 simp [List.getD_eq_getElem?_getD, h]
theorem nt_rL {m : Option Nat} {n : Nt} {o : Nat} {v : Value} (h : zaw m (ntF n.u n.b n.v n.w n.a n.e n.p) o = some v) : zaw m (ntL n) o = some v := h
theorem nts_r2 {m : Option Nat} {l : List Nt} {t : List Value} {o i j : Nat} {n : Nt} {v : Value} (ho : o = 342 * i + j) (h : l[i]? = some n) (hv : zaw m (ntL n) j = some v) : zaw m (zbb l ++ t) o = some v := by
 subst ho; exact nts_r h hv
end Go.Rh

namespace Go.Rh
def zhS : IFunc := ⟨35, [.tmp 4, .tmp 5], (.seq (.reg [kq 2 (.box (.t 0)), kq 4 (.mv (.c (.pointer none))), kq 5 (.mv (ki 0))]) (.seq (.reg [kq 10 (.ld (some 330) (.t 2)), km 11 1, kq 12 (.call "roundhouse/head.New" [(.t 10), (.t 11)]), km 9 12, kq 13 (.ext 0 (.t 9)), kq 14 (.ext 1 (.t 9)), km 6 13, km 7 14]) (.seq (.seq (.reg [km 15 7, kq 16 (.bin .neq (.t 15) (ki 0))]) (.cond (.t 16) (.seq (.reg [km 17 7, kq 4 (.mv (.c (.pointer none))), km 5 17]) .ret) .skip)) (.seq (.reg [km 18 6, kq 19 (.bld [(1, .pointer none), (2, (.slice none 0 0))] [(0, 1, (.t 18))]), kq 20 (.box (.t 19)), km 8 20]) (.seq (.seq (.reg [km 21 1, kq 22 (.mv (ki 0))]) (.block 0 (.loop (.seq (.reg [kq 23 (.bin .lss (.t 22) (.t 21))]) (.seq (.cond (.t 23) .skip (.exit 0)) (.seq (.block 1 (.dreg [km 24 8, kq 25 (.nilc (.t 24)), kq 26 (.fad 1 (.t 25)), kq 27 (.call "roundhouse/plane.New" []), kq 28 (.mkc 1), kq 29 (.bld [(1, .pointer none), (324, (.int .i64 0)), (6, (.int .u64 0)), (1, (.int .i64 0)), (1, (.chan none))] [(0, 1, (.t 27)), (332, 1, (.t 28))]), kq 30 (.box (.t 29)), kq 31 (.bsl [(1, .pointer none)] 1 1 [(0, 1, (.t 30))]), kq 32 (.call "(*roundhouse/yard.row[*roundhouse/yard.unit]).put" [(.t 26), (.t 31)])] [[], [0], [1, 0], [], [], [3, 4], [5, 3, 4], [6, 5, 3, 4], [2, 1, 0, 7, 6, 5, 3, 4]])) (.reg [kq 33 (.bin .add (.t 22) (ki 1)), km 22 33]))))))) (.seq (.reg [km 34 8, km 4 34, kq 5 (.mv (ki 0))]) .ret))))))⟩
abbrev zhK (P : Program) : Prop := z6 P "roundhouse/yard.New" = some zhS
def zdX : IFunc := ⟨14, [.tmp 2], (.seq (.reg [kq 2 (.mv (ki 0))]) (.seq (.dreg [km 3 0, kq 4 (.nilc (.t 3)), kq 5 (.fad 2 (.t 4)), km 6 0, kq 7 (.nilc (.t 6)), kq 8 (.fad 0 (.t 7)), kq 9 (.ld none (.t 8)), kq 10 (.call "(*roundhouse/head.Head).Send" [(.t 9)]), kq 11 (.call "(*roundhouse/yard.row[roundhouse/head.Note]).put" [(.t 5), (.t 10)])] [[], [0], [1, 0], [], [3], [4, 3], [5, 4, 3], [6, 5, 4, 3], [2, 1, 0, 7, 6, 5, 4, 3]]) (.seq (.reg [km 12 0, kq 13 (.call "(*roundhouse/yard.Yard).Notes" [(.t 12)]), km 2 13]) .ret)))⟩
abbrev zcM (P : Program) : Prop := z6 P "(*roundhouse/yard.Yard).Tick" = some zdX
def zb4 : IFunc := ⟨67, [.tmp 6], (.seq (.reg [kq 6 (.mv kF)]) (.seq (.reg [km 14 0, kq 15 (.nilc (.t 14)), kq 16 (.fad 2 (.t 15)), km 17 1, kq 18 (.call "(*roundhouse/yard.row[roundhouse/head.Note]).at" [(.t 16), (.t 17)]), km 13 18, kq 19 (.ext 0 (.t 13)), kq 20 (.ext 1 (.t 13)), kq 7 (.new kB), ku (.st 342 (.t 7) (.t 19)), km 8 20]) (.seq (.seq (.reg [km 21 8, kq 22 (.un .not (.t 21))]) (.cond (.t 22) (.seq (.reg [kq 6 (.mv kF)]) .ret) .skip)) (.seq (.seq (.reg [km 23 2, kq 24 (.un .not (.t 23))]) (.cond (.t 24) (.reg [km 25 0, kq 26 (.nilc (.t 25)), kq 27 (.fad 2 (.t 26)), km 28 1, kq 29 (.call "(*roundhouse/yard.row[roundhouse/head.Note]).drop" [(.t 27), (.t 28)])]) .skip)) (.seq (.seq (.reg [kq 30 (.fad 4 (.t 7)), kq 31 (.ld none (.t 30))]) (.cond (.t 31) (.seq (.dreg [km 32 0, kq 33 (.nilc (.t 32)), kq 34 (.fad 0 (.t 33)), kq 35 (.ld none (.t 34)), kq 36 (.ld (some 342) (.t 7)), kq 37 (.call "(*roundhouse/head.Head).Heard" [(.t 35), (.t 36)])] [[], [0], [1, 0], [2, 1, 0], [], [3, 2, 1, 0, 4]]) (.seq (.reg [kq 6 (.mv kT)]) .ret)) .skip)) (.seq (.seq (.dreg [km 39 0, kq 40 (.nilc (.t 39)), kq 41 (.fad 1 (.t 40)), kq 42 (.fad 0 (.t 7)), kq 43 (.ld none (.t 42)), kq 44 (.call "(*roundhouse/yard.row[*roundhouse/yard.unit]).at" [(.t 41), (.t 43)]), km 38 44, kq 45 (.ext 0 (.t 38)), kq 46 (.ext 1 (.t 38)), km 9 45, km 10 46] [[], [0], [1, 0], [], [3], [2, 1, 0, 4, 3], [5, 2, 1, 0, 4, 3], [6, 5, 2, 1, 0, 4, 3], [6, 5, 2, 1, 0, 4, 3], [7, 6, 5, 2, 1, 0, 4, 3], [8, 6, 5, 2, 1, 0, 4, 3, 9, 7]]) (.seq (.reg [km 47 10]) (.cond (.t 47) (.seq (.dreg [km 48 9, kq 49 (.nilc (.t 48)), kq 50 (.fad 332 (.t 49)), kq 51 (.ld none (.t 50)), kq 52 (.ld (some 342) (.t 7)), ku (.snd (.t 51) (.t 52))] [[], [0], [1, 0], [2, 1, 0], [], [3, 2, 1, 0, 4]]) (.seq (.reg [km 54 9, kq 55 (.fad 0 (.t 7)), kq 56 (.ld none (.t 55)), kq 57 (.call "(*roundhouse/yard.unit).hear" [(.t 54), (.t 56)]), km 53 57, kq 58 (.ext 0 (.t 53)), kq 59 (.ext 1 (.t 53)), kq 11 (.new kB), ku (.st 342 (.t 11) (.t 58)), km 12 59]) (.seq (.reg [km 60 12]) (.cond (.t 60) (.dreg [km 61 0, kq 62 (.nilc (.t 61)), kq 63 (.fad 2 (.t 62)), kq 64 (.ld (some 342) (.t 11)), kq 65 (.bsl kB 342 1 [(0, 342, (.t 64))]), kq 66 (.call "(*roundhouse/yard.row[roundhouse/head.Note]).put" [(.t 63), (.t 65)])] [[], [0], [1, 0], [], [3], [2, 1, 0, 4, 3]]) .skip)))) .skip))) (.seq (.reg [kq 6 (.mv kT)]) .ret)))))))⟩
abbrev zbB (P : Program) : Prop := z6 P "(*roundhouse/yard.Yard).Deliver" = some zb4
def zcR : IFunc := ⟨25, [.tmp 4, .tmp 5], (.seq (.reg [kq 4 (.mv (ki 0)), kq 5 (.mv kF)]) (.seq (.reg [km 9 0, kq 10 (.nilc (.t 9)), kq 11 (.fad 1 (.t 10)), km 12 1, kq 13 (.call "(*roundhouse/yard.row[*roundhouse/yard.unit]).at" [(.t 11), (.t 12)]), km 8 13, kq 14 (.ext 0 (.t 8)), kq 15 (.ext 1 (.t 8)), km 6 14, km 7 15]) (.seq (.seq (.reg [km 16 7, kq 17 (.un .not (.t 16))]) (.cond (.t 17) (.seq (.reg [kq 4 (.mv (ki 0)), kq 5 (.mv kF)]) .ret) .skip)) (.seq (.reg [km 18 6, kq 19 (.nilc (.t 18)), kq 20 (.fad 0 (.t 19)), kq 21 (.ld none (.t 20)), kq 22 (.call "(*roundhouse/plane.Plane).Version" [(.t 21)]), kq 23 (.ext 0 (.t 22)), kq 24 (.ext 1 (.t 22)), km 4 23, km 5 24]) .ret))))⟩
abbrev zb1 (P : Program) : Prop := z6 P "(*roundhouse/yard.Yard).Version" = some zcR
def zcC : IFunc := ⟨9, [.tmp 2], (.seq (.reg [kq 2 (.mv (ki 0))]) (.seq (.reg [km 3 0, kq 4 (.nilc (.t 3)), kq 5 (.fad 2 (.t 4)), kq 6 (.fad 0 (.t 5)), kq 7 (.ld none (.t 6)), kq 8 (.lenS (.t 7)), km 2 8]) .ret))⟩
abbrev zbz (P : Program) : Prop := z6 P "(*roundhouse/yard.Yard).Notes" = some zcC
def zdZ : IFunc := ⟨22, [.tmp 4], (.seq (.reg [kq 4 (.mv kF)]) (.seq (.reg [km 8 0, kq 9 (.nilc (.t 8)), kq 10 (.fad 2 (.t 9)), km 11 1, kq 12 (.call "(*roundhouse/yard.row[roundhouse/head.Note]).at" [(.t 10), (.t 11)]), km 7 12, kq 13 (.ext 0 (.t 7)), kq 14 (.ext 1 (.t 7)), kq 5 (.new kB), ku (.st 342 (.t 5) (.t 13)), km 6 14]) (.seq (.seq (.reg [km 15 6]) (.cond (.t 15) (.reg [km 16 0, kq 17 (.nilc (.t 16)), kq 18 (.fad 2 (.t 17)), km 19 1, kq 20 (.call "(*roundhouse/yard.row[roundhouse/head.Note]).drop" [(.t 18), (.t 19)])]) .skip)) (.seq (.reg [km 21 6, km 4 21]) .ret))))⟩
abbrev zcO (P : Program) : Prop := z6 P "(*roundhouse/yard.Yard).Lose" = some zdZ
def zdA : IFunc := ⟨33, [.tmp 4], (.seq (.reg [kq 4 (.mv kF)]) (.seq (.reg [km 8 0, kq 9 (.nilc (.t 8)), kq 10 (.fad 1 (.t 9)), km 11 1, kq 12 (.call "(*roundhouse/yard.row[*roundhouse/yard.unit]).at" [(.t 10), (.t 11)]), km 7 12, kq 13 (.ext 0 (.t 7)), kq 14 (.ext 1 (.t 7)), km 5 13, km 6 14]) (.seq (.seq (.reg [km 15 6]) (.cond (.t 15) (.seq (.reg [km 16 5, kq 17 (.nilc (.t 16)), kq 18 (.fad 0 (.t 17)), kq 19 (.ld none (.t 18)), kq 20 (.call "(*roundhouse/plane.Plane).Crash" [(.t 19)])]) (.seq (.reg [km 21 5, kq 22 (.bld kA []), kq 23 (.nilc (.t 21)), kq 24 (.fad 1 (.t 23)), ku (.st 330 (.t 24) (.t 22))]) (.reg [km 25 5, kq 26 (.nilc (.t 25)), kq 27 (.fad 331 (.t 26)), kq 28 (.ld none (.t 27)), kq 29 (.bin .add (.t 28) (ki 1)), kq 30 (.nilc (.t 25)), kq 31 (.fad 331 (.t 30)), ku (.st 1 (.t 31) (.t 29))]))) .skip)) (.seq (.reg [km 32 6, km 4 32]) .ret))))⟩
abbrev zcB (P : Program) : Prop := z6 P "(*roundhouse/yard.Yard).Crash" = some zdA
def zdW : IFunc := ⟨11, [.tmp 4], (.seq (.reg [kq 4 (.mv (ki 0))]) (.seq (.reg [km 5 0, kq 6 (.nilc (.t 5)), kq 7 (.fad 0 (.t 6)), kq 8 (.ld none (.t 7)), km 9 1, kq 10 (.call "(*roundhouse/head.Head).Wish" [(.t 8), (.t 9)]), km 4 10]) .ret))⟩
abbrev zcL (P : Program) : Prop := z6 P "(*roundhouse/yard.Yard).Wish" = some zdW
def zdY : IFunc := ⟨8, [.cell 2 (some 330)], (.seq (.reg [kq 2 (.new kA)]) (.seq (.reg [km 3 0, kq 4 (.nilc (.t 3)), kq 5 (.fad 0 (.t 4)), kq 6 (.ld none (.t 5)), kq 7 (.call "(*roundhouse/head.Head).Pool" [(.t 6)]), ku (.st 330 (.t 2) (.t 7))]) .ret))⟩
abbrev zcN (P : Program) : Prop := z6 P "(*roundhouse/yard.Yard).Pool" = some zdY
def zbS : IFunc := ⟨13, [], (.reg [km 4 0, km 5 0, kq 6 (.nilc (.t 5)), kq 7 (.fad 0 (.t 6)), kq 8 (.ld none (.t 7)), km 9 1, kq 10 (.app [(1, .pointer none)] 1 8 (.t 8) (.t 9)), kq 11 (.nilc (.t 4)), kq 12 (.fad 0 (.t 11)), ku (.st 1 (.t 12) (.t 10))])⟩
abbrev zbp (P : Program) : Prop := z6 P "(*roundhouse/yard.row[*roundhouse/yard.unit]).put" = some zbS
def zgT : IFunc := ⟨3, [.tmp 0], (.seq (.reg [kq 0 (.mv (.c (.pointer none)))]) (.seq (.reg [kq 1 (.bld [(324, (.int .i64 0)), (6, (.int .u64 0)), (1, (.bool false)), (1, (.int .u32 0)), (1, (.bool false)), (1, (.int .u32 0)), (1, (.bool false)), (1, (.int .u32 0)), (1, (.bool false)), (1, (.int .u32 0)), (1, (.bool false)), (1, (.int .u32 0)), (1, (.bool false)), (1, (.int .u32 0)), (1, (.bool false)), (1, (.int .u32 0)), (1, (.bool false)), (1, (.int .u32 0)), (1, (.bool false)), (1, (.int .u32 0)), (1, (.bool false)), (1, (.int .u32 0)), (1, (.bool false)), (1, (.int .u32 0)), (1, (.bool false)), (1, (.int .u32 0)), (1, (.bool false)), (1, (.int .u32 0)), (1, (.bool false)), (1, (.int .u32 0)), (1, (.bool false)), (1, (.int .u32 0)), (1, (.bool false)), (1, (.int .u32 0)), (1, (.bool false)), (1, (.int .u32 0)), (1, (.bool false)), (1, (.int .u32 0)), (1, (.bool false)), (1, (.int .u32 0)), (1, (.bool false)), (1, (.int .u32 0)), (1, (.bool false)), (1, (.int .u32 0)), (1, (.bool false)), (1, (.int .u32 0)), (1, (.bool false)), (1, (.int .u32 0)), (1, (.bool false)), (1, (.int .u32 0)), (1, (.bool false)), (1, (.int .u32 0)), (1, (.bool false)), (1, (.int .u32 0)), (1, (.bool false)), (1, (.int .u32 0)), (1, (.bool false)), (1, (.int .u32 0)), (1, (.bool false)), (1, (.int .u32 0)), (1, (.bool false)), (1, (.int .u32 0)), (1, (.bool false)), (1, (.int .u32 0)), (1, (.bool false)), (1, (.int .u32 0)), (1, (.bool false)), (1, (.int .u32 0)), (1, (.bool false)), (1, (.int .u32 0)), (1, (.bool false)), (1, (.int .u32 0)), (1, (.bool false)), (1, (.int .u32 0)), (1, (.bool false)), (1, (.int .u32 0)), (1, (.bool false)), (1, (.int .u32 0)), (1, (.bool false)), (1, (.int .u32 0)), (1, (.bool false)), (1, (.int .u32 0)), (1, (.bool false)), (1, (.int .u32 0)), (1, (.bool false)), (1, (.int .u32 0)), (1, (.bool false)), (1, (.int .u32 0)), (1, (.bool false)), (1, (.int .u32 0)), (1, (.bool false)), (1, (.int .u32 0)), (1, (.bool false)), (1, (.int .u32 0)), (1, (.bool false)), (1, (.int .u32 0)), (1, (.bool false)), (1, (.int .u32 0)), (1, (.bool false)), (1, (.int .u32 0)), (1, (.bool false)), (1, (.int .u32 0)), (1, (.bool false)), (1, (.int .u32 0)), (1, (.bool false)), (1, (.int .u32 0)), (1, (.bool false)), (1, (.int .u32 0)), (1, (.bool false)), (1, (.int .u32 0)), (1, (.bool false)), (1, (.int .u32 0)), (1, (.bool false)), (1, (.int .u32 0)), (1, (.bool false)), (1, (.int .u32 0)), (1, (.bool false)), (1, (.int .u32 0)), (1, (.bool false)), (1, (.int .u32 0)), (1, (.bool false)), (1, (.int .u32 0)), (1, (.bool false)), (1, (.int .u32 0)), (1, (.bool false)), (1, (.int .u32 0)), (1, (.bool false)), (1, (.int .u32 0)), (1, (.bool false)), (1, (.int .u32 0)), (1, (.bool false)), (1, (.slice none 0 0))] []), kq 2 (.box (.t 1)), km 0 2]) .ret))⟩
abbrev zff (P : Program) : Prop := z6 P "roundhouse/plane.New" = some zgT
def zbT : IFunc := ⟨13, [], (.reg [km 4 0, km 5 0, kq 6 (.nilc (.t 5)), kq 7 (.fad 0 (.t 6)), kq 8 (.ld none (.t 7)), km 9 1, kq 10 (.app kB 342 2728 (.t 8) (.t 9)), kq 11 (.nilc (.t 4)), kq 12 (.fad 0 (.t 11)), ku (.st 1 (.t 12) (.t 10))])⟩
abbrev zaL (P : Program) : Prop := z6 P "(*roundhouse/yard.row[roundhouse/head.Note]).put" = some zbT
def zbv : IFunc := ⟨26, [.cell 4 (some 342), .tmp 5], (.seq (.reg [kq 4 (.new kB), kq 5 (.mv kF)]) (.seq (.seq (.reg [km 7 1, kq 8 (.bin .lss (.t 7) (ki 0)), km 9 8, kg 10 (.mv (.t 1)) 9 false, kg 11 (.mv (.t 0)) 9 false, kg 12 (.nilc (.t 11)) 9 false, kg 13 (.fad 0 (.t 12)) 9 false, kg 14 (.ld none (.t 13)) 9 false, kg 15 (.lenS (.t 14)) 9 false, kg 16 (.bin .geq (.t 10) (.t 15)) 9 false, kq 17 (.pick (.t 9) kT (.t 16))]) (.cond (.t 17) (.seq (.reg [kq 6 (.new kB)]) (.seq (.reg [kq 18 (.ld (some 342) (.t 6)), ku (.st 342 (.t 4) (.t 18)), kq 5 (.mv kF)]) .ret)) .skip)) (.seq (.reg [km 19 0, kq 20 (.nilc (.t 19)), kq 21 (.fad 0 (.t 20)), kq 22 (.ld none (.t 21)), km 23 1, kq 24 (.iadS 342 (.t 22) (.t 23)), kq 25 (.ld (some 342) (.t 24)), ku (.st 342 (.t 4) (.t 25)), kq 5 (.mv kT)]) .ret)))⟩
abbrev zap (P : Program) : Prop := z6 P "(*roundhouse/yard.row[roundhouse/head.Note]).at" = some zbv
def zbM : IFunc := ⟨22, [], (.dreg [km 4 0, km 5 0, kq 6 (.nilc (.t 5)), kq 7 (.fad 0 (.t 6)), kq 8 (.ld none (.t 7)), km 9 1, km 10 1, kq 11 (.slcS 342 (.t 8) none (some (.t 9)) (some (.t 10))), km 12 0, kq 13 (.nilc (.t 12)), kq 14 (.fad 0 (.t 13)), kq 15 (.ld none (.t 14)), km 16 1, kq 17 (.bin .add (.t 16) (ki 1)), kq 18 (.slcS 342 (.t 15) (some (.t 17)) none none), kq 19 (.app kB 342 2728 (.t 11) (.t 18)), kq 20 (.nilc (.t 4)), kq 21 (.fad 0 (.t 20)), ku (.st 1 (.t 21) (.t 19))] [[], [], [1], [2, 1], [3, 2, 1], [], [], [4, 3, 2, 1, 5, 6], [], [8], [9, 8], [10, 9, 8], [], [12], [11, 10, 9, 8, 13, 12], [7, 4, 3, 2, 1, 5, 6, 14, 11, 10, 9, 8, 13, 12], [0, 1, 2, 3, 4, 5, 6, 7, 8, 9, 10, 11, 12, 13, 14, 15], [16, 0, 1, 2, 3, 4, 5, 6, 7, 8, 9, 10, 11, 12, 13, 14, 15], [17, 16, 0, 1, 2, 3, 4, 5, 6, 7, 8, 9, 10, 11, 12, 13, 14, 15]])⟩
abbrev zar (P : Program) : Prop := z6 P "(*roundhouse/yard.row[roundhouse/head.Note]).drop" = some zbM
def zb3 : IFunc := ⟨26, [.tmp 4, .tmp 5], (.seq (.reg [kq 4 (.mv (.c (.pointer none))), kq 5 (.mv kF)]) (.seq (.seq (.reg [km 7 1, kq 8 (.bin .lss (.t 7) (ki 0)), km 9 8, kg 10 (.mv (.t 1)) 9 false, kg 11 (.mv (.t 0)) 9 false, kg 12 (.nilc (.t 11)) 9 false, kg 13 (.fad 0 (.t 12)) 9 false, kg 14 (.ld none (.t 13)) 9 false, kg 15 (.lenS (.t 14)) 9 false, kg 16 (.bin .geq (.t 10) (.t 15)) 9 false, kq 17 (.pick (.t 9) kT (.t 16))]) (.cond (.t 17) (.seq (.reg [kq 6 (.mv (.c (.pointer none)))]) (.seq (.reg [km 18 6, km 4 18, kq 5 (.mv kF)]) .ret)) .skip)) (.seq (.reg [km 19 0, kq 20 (.nilc (.t 19)), kq 21 (.fad 0 (.t 20)), kq 22 (.ld none (.t 21)), km 23 1, kq 24 (.iadS 1 (.t 22) (.t 23)), kq 25 (.ld none (.t 24)), km 4 25, kq 5 (.mv kT)]) .ret)))⟩
abbrev zae (P : Program) : Prop := z6 P "(*roundhouse/yard.row[*roundhouse/yard.unit]).at" = some zb3
def zdV : IFunc := ⟨81, [.cell 4 (some 342), .tmp 5], (.seq (.reg [kq 4 (.new kB), kq 5 (.mv kF)]) (.seq (.reg [km 10 0, kq 11 (.nilc (.t 10)), kq 12 (.fad 332 (.t 11)), kq 13 (.ld none (.t 12))]) (.seq (.reg [kq 14 (.sel1 kB true (.t 13)), kq 15 (.ext 0 (.t 14)), kq 16 (.bin .eql (.t 15) (ki 0))]) (.block 0 (.cond (.t 16) (.seq (.reg [kq 18 (.ext 2 (.t 14)), kq 6 (.new kB), ku (.st 342 (.t 6) (.t 18))]) (.seq (.reg [km 19 0, kq 20 (.call "(*roundhouse/yard.unit).version" [(.t 19)]), km 7 20]) (.seq (.block 1 (.seq (.dreg [kq 22 (.fad 1 (.t 6)), kq 23 (.ld none (.t 22)), km 24 0, kq 25 (.nilc (.t 24)), kq 26 (.fad 331 (.t 25)), kq 27 (.ld none (.t 26)), kq 28 (.bin .neq (.t 23) (.t 27)), km 21 28] [[], [0], [], [2], [3, 2], [4, 3, 2], [1, 0, 5, 4, 3, 2], [6, 1, 0, 5, 4, 3, 2]]) (.cond (.t 21) .skip (.seq (.reg [kq 30 (.fad 3 (.t 6)), kq 31 (.ld none (.t 30)), km 32 31, kg 33 (.mv (.t 7)) 32 true, kg 34 (.fad 12 (.t 6)) 32 true, kg 35 (.fad 0 (.t 34)) 32 true, kg 36 (.ld none (.t 35)) 32 true, kg 37 (.bin .lss (.t 33) (.t 36)) 32 true, kq 38 (.pick (.t 32) (.t 37) kF), km 29 38]) (.cond (.t 29) (.reg [km 39 0, kq 40 (.fad 12 (.t 6)), kq 41 (.ld (some 330) (.t 40)), kq 42 (.call "(*roundhouse/yard.unit).load" [(.t 39), (.t 41)])]) (.seq (.reg [kq 44 (.fad 3 (.t 6)), kq 45 (.ld none (.t 44)), kq 46 (.un .not (.t 45)), km 47 46, kg 48 (.mv (.t 7)) 47 true, kg 49 (.bin .geq (.t 48) (ki 0)) 47 true, kq 50 (.pick (.t 47) (.t 49) kF), km 51 50, kg 52 (.fad 2 (.t 6)) 51 true, kg 53 (.ld none (.t 52)) 51 true, kg 54 (.mv (.t 7)) 51 true, kg 55 (.bin .add (.t 54) (ki 1)) 51 true, kg 56 (.bin .eql (.t 53) (.t 55)) 51 true, kq 57 (.pick (.t 51) (.t 56) kF), km 43 57]) (.cond (.t 43) (.seq (.dreg [km 59 0, kq 60 (.nilc (.t 59)), kq 61 (.fad 1 (.t 60)), kq 62 (.ld (some 330) (.t 61)), kq 63 (.fad 5 (.t 6)), kq 64 (.ld (some 7) (.t 63)), kq 65 (.call "roundhouse/pool.Apply" [(.t 62), (.t 64)]), km 58 65, kq 66 (.ext 0 (.t 58)), kq 67 (.ext 1 (.t 58)), kq 8 (.new kA), ku (.st 330 (.t 8) (.t 66)), km 9 67] [[], [0], [1, 0], [2, 1, 0], [], [4], [3, 2, 1, 0, 5, 4], [6, 3, 2, 1, 0, 5, 4], [7, 6, 3, 2, 1, 0, 5, 4], [7, 6, 3, 2, 1, 0, 5, 4], [], [10, 8, 7, 6, 3, 2, 1, 0, 5, 4], [9, 7, 6, 3, 2, 1, 0, 5, 4, 11, 10, 8]]) (.seq (.reg [km 68 9, kq 69 (.bin .eql (.t 68) (ki 0))]) (.cond (.t 69) (.reg [km 70 0, kq 71 (.ld (some 330) (.t 8)), kq 72 (.call "(*roundhouse/yard.unit).load" [(.t 70), (.t 71)])]) .skip))) .skip))))))) (.seq (.dreg [km 73 1, km 74 0, kq 75 (.nilc (.t 74)), kq 76 (.fad 331 (.t 75)), kq 77 (.ld none (.t 76)), km 78 0, kq 79 (.call "(*roundhouse/yard.unit).version" [(.t 78)]), kq 80 (.bld kB [(0, 1, (.t 73)), (1, 1, (.t 77)), (2, 1, (.t 79)), (4, 1, kT)]), ku (.st 342 (.t 4) (.t 80)), kq 5 (.mv kT)] [[], [], [1], [2, 1], [3, 2, 1], [], [5], [0, 4, 3, 2, 1, 6, 5], [7, 0, 4, 3, 2, 1, 6, 5], [8, 7, 0, 4, 3, 2, 1, 6, 5]]) .ret)))) (.seq (.reg [kq 17 (.bld kB []), ku (.st 342 (.t 4) (.t 17)), kq 5 (.mv kF)]) .ret))))))⟩
abbrev zb7 (P : Program) : Prop := z6 P "(*roundhouse/yard.unit).hear" = some zdV
def zcv : IFunc := ⟨15, [.tmp 2, .tmp 3], (.seq (.reg [kq 2 (.mv (ki 0)), kq 3 (.mv kF)]) (.seq (.dreg [km 4 0, kq 5 (.nilc (.t 4)), kq 6 (.fad 0 (.t 5)), kq 7 (.fad 0 (.t 6)), kq 8 (.fad 0 (.t 7)), kq 9 (.ld none (.t 8)), km 10 0, kq 11 (.nilc (.t 10)), kq 12 (.fad 0 (.t 11)), kq 13 (.fad 330 (.t 12)), kq 14 (.ld none (.t 13)), km 2 9, km 3 14] [[], [0], [1, 0], [2, 1, 0], [3, 2, 1, 0], [4, 3, 2, 1, 0], [], [6], [7, 6], [8, 7, 6], [9, 8, 7, 6], [5, 4, 3, 2, 1, 0], [10, 9, 8, 7, 6, 11, 5, 4, 3, 2, 1, 0]]) .ret))⟩
abbrev zaB (P : Program) : Prop := z6 P "(*roundhouse/plane.Plane).Version" = some zcv
def zcS : IFunc := ⟨5, [], (.reg [km 2 0, kq 3 (.bld [(324, (.int .i64 0)), (6, (.int .u64 0)), (1, (.bool false)), (1, (.int .u32 0)), (1, (.bool false)), (1, (.int .u32 0)), (1, (.bool false)), (1, (.int .u32 0)), (1, (.bool false)), (1, (.int .u32 0)), (1, (.bool false)), (1, (.int .u32 0)), (1, (.bool false)), (1, (.int .u32 0)), (1, (.bool false)), (1, (.int .u32 0)), (1, (.bool false)), (1, (.int .u32 0)), (1, (.bool false)), (1, (.int .u32 0)), (1, (.bool false)), (1, (.int .u32 0)), (1, (.bool false)), (1, (.int .u32 0)), (1, (.bool false)), (1, (.int .u32 0)), (1, (.bool false)), (1, (.int .u32 0)), (1, (.bool false)), (1, (.int .u32 0)), (1, (.bool false)), (1, (.int .u32 0)), (1, (.bool false)), (1, (.int .u32 0)), (1, (.bool false)), (1, (.int .u32 0)), (1, (.bool false)), (1, (.int .u32 0)), (1, (.bool false)), (1, (.int .u32 0)), (1, (.bool false)), (1, (.int .u32 0)), (1, (.bool false)), (1, (.int .u32 0)), (1, (.bool false)), (1, (.int .u32 0)), (1, (.bool false)), (1, (.int .u32 0)), (1, (.bool false)), (1, (.int .u32 0)), (1, (.bool false)), (1, (.int .u32 0)), (1, (.bool false)), (1, (.int .u32 0)), (1, (.bool false)), (1, (.int .u32 0)), (1, (.bool false)), (1, (.int .u32 0)), (1, (.bool false)), (1, (.int .u32 0)), (1, (.bool false)), (1, (.int .u32 0)), (1, (.bool false)), (1, (.int .u32 0)), (1, (.bool false)), (1, (.int .u32 0)), (1, (.bool false)), (1, (.int .u32 0)), (1, (.bool false)), (1, (.int .u32 0)), (1, (.bool false)), (1, (.int .u32 0)), (1, (.bool false)), (1, (.int .u32 0)), (1, (.bool false)), (1, (.int .u32 0)), (1, (.bool false)), (1, (.int .u32 0)), (1, (.bool false)), (1, (.int .u32 0)), (1, (.bool false)), (1, (.int .u32 0)), (1, (.bool false)), (1, (.int .u32 0)), (1, (.bool false)), (1, (.int .u32 0)), (1, (.bool false)), (1, (.int .u32 0)), (1, (.bool false)), (1, (.int .u32 0)), (1, (.bool false)), (1, (.int .u32 0)), (1, (.bool false)), (1, (.int .u32 0)), (1, (.bool false)), (1, (.int .u32 0)), (1, (.bool false)), (1, (.int .u32 0)), (1, (.bool false)), (1, (.int .u32 0)), (1, (.bool false)), (1, (.int .u32 0)), (1, (.bool false)), (1, (.int .u32 0)), (1, (.bool false)), (1, (.int .u32 0)), (1, (.bool false)), (1, (.int .u32 0)), (1, (.bool false)), (1, (.int .u32 0)), (1, (.bool false)), (1, (.int .u32 0)), (1, (.bool false)), (1, (.int .u32 0)), (1, (.bool false)), (1, (.int .u32 0)), (1, (.bool false)), (1, (.int .u32 0)), (1, (.bool false)), (1, (.int .u32 0)), (1, (.bool false)), (1, (.int .u32 0)), (1, (.bool false)), (1, (.int .u32 0)), (1, (.bool false)), (1, (.int .u32 0)), (1, (.bool false)), (1, (.int .u32 0)), (1, (.bool false)), (1, (.int .u32 0)), (1, (.bool false)), (1, (.slice none 0 0))] []), kq 4 (.nilc (.t 2)), ku (.st 460 (.t 4) (.t 3))])⟩
abbrev zbD (P : Program) : Prop := z6 P "(*roundhouse/plane.Plane).Crash" = some zcS
def zcQ : IFunc := ⟨15, [.tmp 2], (.seq (.reg [kq 2 (.mv (ki 0))]) (.seq (.seq (.reg [km 6 0, kq 7 (.nilc (.t 6)), kq 8 (.fad 0 (.t 7)), kq 9 (.ld none (.t 8)), kq 10 (.call "(*roundhouse/plane.Plane).Version" [(.t 9)]), km 5 10, kq 11 (.ext 0 (.t 5)), kq 12 (.ext 1 (.t 5)), km 3 11, km 4 12]) (.seq (.reg [km 13 4]) (.cond (.t 13) (.seq (.reg [km 14 3, km 2 14]) .ret) .skip))) (.seq (.reg [kq 2 (.mv (ki (-1)))]) .ret)))⟩
abbrev zbi (P : Program) : Prop := z6 P "(*roundhouse/yard.unit).version" = some zcQ
def zdU : IFunc := ⟨14, [], (.seq (.reg [kq 3 (.box (.t 1))]) (.seq (.reg [km 4 0, kq 5 (.ld (some 330) (.t 3)), kq 6 (.nilc (.t 4)), kq 7 (.fad 1 (.t 6)), ku (.st 330 (.t 7) (.t 5))]) (.dreg [km 8 0, kq 9 (.nilc (.t 8)), kq 10 (.fad 0 (.t 9)), kq 11 (.ld none (.t 10)), kq 12 (.ld (some 330) (.t 3)), kq 13 (.call "(*roundhouse/plane.Plane).Load" [(.t 11), (.t 12)])] [[], [0], [1, 0], [2, 1, 0], [], [3, 2, 1, 0, 4]])))⟩
abbrev zbH (P : Program) : Prop := z6 P "(*roundhouse/yard.unit).load" = some zdU
def zdj : IFunc := ⟨14, [], (.seq (.reg [kq 3 (.box (.t 1))]) (.seq (.dreg [km 4 0, kq 5 (.nilc (.t 4)), kq 6 (.fad 0 (.t 5)), kq 7 (.ld (some 330) (.t 3)), kq 8 (.call "(*roundhouse/plane.maybe[roundhouse/api.Pool]).lay" [(.t 6), (.t 7)])] [[], [0], [1, 0], [], [2, 1, 0, 3]]) (.reg [km 9 0, kq 10 (.ld (some 330) (.t 3)), kq 11 (.call "roundhouse/wheel.Make" [(.t 10)]), kq 12 (.nilc (.t 9)), kq 13 (.fad 459 (.t 12)), ku (.st 1 (.t 13) (.t 11))])))⟩
abbrev za9 (P : Program) : Prop := z6 P "(*roundhouse/plane.Plane).Load" = some zdj
def zbG : IFunc := ⟨11, [], (.seq (.reg [kq 3 (.box (.t 1))]) (.reg [km 4 0, km 5 0, kq 6 (.ld (some 330) (.t 3)), kq 7 (.nilc (.t 4)), kq 8 (.fad 0 (.t 7)), ku (.st 330 (.t 8) (.t 6)), kq 9 (.nilc (.t 5)), kq 10 (.fad 330 (.t 9)), ku (.st 1 (.t 10) kT)]))⟩
abbrev zad (P : Program) : Prop := z6 P "(*roundhouse/plane.maybe[roundhouse/api.Pool]).lay" = some zbG
end Go.Rh

namespace Go.Rh
section
variable {P : Program} {C : zah}
def wpF3 (C : zah) (c : IFunc) (args : List Value) (h : List Blk) (R : zea) : Prop :=
 wpC C h.length c.body (fun ex s => (match ex with | .exit _ => False | .goto _ => False | _ => True) ∧ ∃ l, zfr s c.res = some l ∧ (∀ v ∈ l, zbQ v = false) ∧ vpf (one l) = true ∧ ∃ s0, Wk h.length s s0 ∧ R (one l) s0.h) ⟨reg (argL 0 args), h⟩
theorem wpF3_sound (hC : zjm P C) {f : FuncId} {fn : Func} {c : IFunc} {args : List Value} {h : List Blk} {R : zea} (hf' : P.funcs[f]? = some fn) (hc : cFunc P fn = some c) (hwp : wpF3 C c args h R) : ACalls P f args h R := by
 unfold cFunc at hc
 split at hc <;> try cases hc
 rename_i body res hb hres
 split at hc <;> cases hc
 rename_i hwf
 intro w φ args' H hl hargs
 refine calls_of_wp hf' hb (wp_mono (zb5 (n := fn.ntmps) (h0 := h) (w0 := w) (φ0 := φ) hC H body _ _ w hwf ⟨φ, _, hwp, ?_⟩) ?_)
 ·refine ⟨by simp; omega, fun t => ?_, rfl, H, FrC.refl _ _ _⟩
  simp only [Array.getD_eq_getD_getElem?]
  rcases ziw args 0 t with h1 | ⟨v, h0, h1, h2⟩
  ·rw [h1]; exact VR.junk
  ·have ht := zL h1
   have h3 : args'[t]? = some (args'[t]'(by omega)) := by simp [show t < args'.size by omega]
   rw [Array.getElem?_append_left (by omega), h2, h3]
   exact hargs t _ _ (by simpa using h1) h3
 ·intro e a' w' he
  have fin : Sim fn.ntmps φ h w (fun s => ∃ l, zfr s res = some l ∧ (∀ v ∈ l, zbQ v = false) ∧ vpf (one l) = true ∧ ∃ s0, Wk h.length s s0 ∧ R (one l) s0.h) a' w' →
    a'.defers = [] ∧ ∃ v, (results fn a'.tmps).run P w' = .ok v w' ∧ ∃ v0 v' h' φ', (Ending.returned v : Ending) = .returned v' ∧ R v0 h' ∧ VR φ' v0 v' ∧ HR φ' (hf h') w' ∧ FrC φ h w φ' h' w' := by
   intro hS
   obtain ⟨φ1, s, ⟨l, hl1, hl2, hvp, s0, hwk, hR⟩, I⟩ := hS
   obtain ⟨φ2, I2⟩ := I.weak H hwk
   obtain ⟨l', hr, hE⟩ := zel I hres hl1
   refine ⟨I.defers, if h : l'.toArray.size = 1 then l'.toArray[0] else .tuple l'.toArray, ?_, ?_⟩
   ·rw [zhG]
    simp [Array.mapM_eq_mapM_toList, hr]
   ·have hV : VR φ1 (one l) (if h : l'.toArray.size = 1 then l'.toArray[0] else .tuple l'.toArray) := by
     have hlen := hE.1
     unfold one
     split
     ·rename_i v
      match l', hE with
      | [v'], hE => simpa using hE.2 0 v v' rfl rfl
      | [], hE => simp at hlen
      | _ :: _ :: _, hE => simp at hlen
     ·rename_i hne
      have : ¬ l'.toArray.size = 1 := by
       intro h1
       have h2 : l.length = 1 := by rw [hlen]; simpa using h1
       match l, h2 with
       | [v], _ => exact hne v rfl
      rw [dif_neg this]
      exact ⟨l'.toArray, rfl, by simpa using hE.mono2 fun v v' hv hr => GR.of_VR (hl2 v hv) hr⟩
    exact ⟨_, _, _, φ2, rfl, hR, VR.plain' hvp hV, I2.heap, I2.fr⟩
  cases e with
  | normal => exact fin (he.mono fun s h => h.2)
  | ret => exact fin (he.mono fun s h => h.2)
  | exit id => obtain ⟨_, _, ⟨h, _⟩, _⟩ := he; exact h.elim
  | goto l => obtain ⟨_, _, ⟨h, _⟩, _⟩ := he; exact h.elim
  | _ => exact he.elim
theorem Env.of3 {P : Program} {g : String} {c : IFunc} {args : List Value} {h : List Blk} {R : zea} (hc : z6 P g = some c) (hwp : wpF3 (Env P) c args h R) : Env P g args h R := by
 intro f fn hf hn
 unfold z6 at hc
 split at hc <;> try cases hc
 rename_i fn' hfl
 have hm : fn ∈ P.funcs.toList.filter (·.name == g) := List.mem_filter.2 ⟨by
  have := Array.mem_of_getElem? hf
  simpa using this, by simpa using hn⟩
 rw [hfl] at hm
 have : fn = fn' := by simpa using hm
 subst this
 exact wpF3_sound (Env.sound P) hf hc hwp
end
theorem Env.by3 {P : Program} {g : String} {c : IFunc} {args : List Value} {h : List Blk} {R : zea} (hc : z6 P g = some c)
  (hg : GC (Env P) h.length c.body (fun ex s => (match ex with | .exit _ => False | .goto _ => False | _ => True) ∧ ∃ l, zfr s c.res = some l ∧ (∀ v ∈ l, zbQ v = false) ∧ vpf (one l) = true ∧ ∃ s0, Wk h.length s s0 ∧ R (one l) s0.h) ⟨reg (argL 0 args), h⟩) : Env P g args h R := Env.of3 hc hg.out
end Go.Rh

namespace Go.Rh
def viewL (ρ : Nat → Nat) (h : List Blk) : List Nat → List Blk → Prop
 | k :: ks, b :: bs => (∃ b', h[k]? = some b' ∧ Blk.view (za5 ρ b) b') ∧ viewL ρ h ks bs
 | _, _ => True
theorem zeQ {ρ : Nat → Nat} {h : List Blk} : ∀ {sel : List Nat} {bs : List Blk}, viewL ρ h sel bs → ∀ (i k : Nat) b1, sel[i]? = some k → bs[i]? = some b1 → ∃ b, h[k]? = some b ∧ Blk.view (za5 ρ b1) b
 | [], _, _, i, _, _, h1, _ => by simp at h1
 | _ :: _, [], _, i, _, _, _, h2 => by simp at h2
 | _ :: _, _ :: _, hb, 0, _, _, h1, h2 => by simp at h1 h2; subst h1; subst h2; exact hb.1
 | _ :: _, _ :: _, hb, i + 1, k, b, h1, h2 => zeQ hb.2 i k b (by simpa using h1) (by simpa using h2)
theorem zdn {C : zah} {g : String} {vals : List Value} {K : zea} {h : List Blk} {R : zea} (sel : List Nat) (h1 : List Blk) (a1 : List Value) (hC : C g a1 h1 R) (hl : h1.length = sel.length) (ha : a1.map (zbF (rho sel h.length)) = vals)
  (hs : viewL (rho sel h.length) h sel h1) (hd : sel.Nodup) (hK : ∀ v h1', R v h1' → zex h1 h1' ∧ ∃ v' xs ys, zbF (rho sel h.length) v = v' ∧ zii sel h1' (rho sel h.length) 0 h xs ∧ renL (rho sel h.length) (h1'.drop sel.length) ys ∧ K v' (xs ++ ys)) : zcV C g vals K h := by
 refine ⟨sel, h1, a1, R, hC, hl, ha, zeQ hs, fun i j k b1 hij e1 e2 _ => ?_, fun v h1' hR _ _ => ?_⟩
 ·exact (zhh hd hij e1 e2).elim
 ·obtain ⟨hg, v', xs, ys, e1, e2, e3, e4⟩ := hK v h1' hR
  rw [e1, zjf e2 e3]; exact ⟨hg, e4⟩
section
variable {C : zah} {un : Nat → Nat → Bool} {K : St → Prop} {L : List (Nat × Value)} {h : List Blk} {i nid : Nat} {log : List Foot}
theorem zgM {d : Nat} {g : String} {args : List Opd} {r : List ICell} {R : zea} (sel : List Nat) (h1 : List Blk) (a1 : List Value) (hC : C g a1 h1 R) (hl : h1.length = sel.length) (ha : a1.map (zbF (rho sel h.length)) = args.map (evf (reg L)))
  (hs : viewL (rho sel h.length) h sel h1) (hd : sel.Nodup) (hx : ∃ v h1', R v h1' ∧ sel.length ≤ h1'.length ∧ zc3 h1 h1')
  (hK : ∀ v h1', R v h1' → zex h1 h1' ∧ ∃ v' xs ys, zbF (rho sel h.length) v = v' ∧ zii sel h1' (rho sel h.length) 0 h xs ∧ renL (rho sel h.length) (h1'.drop sel.length) ys ∧ GD C un (i + 1) nid r (⟨i, sel, zc5 sel h1, some h.length⟩ :: log) K ⟨reg ((d, v') :: L), xs ++ ys⟩)
  (hfit : zih un ⟨i, sel, zc5 sel h1, some h.length⟩ log = true := by kernel_rfl) : GD C un i nid (⟨some d, .call g args, none⟩ :: r) log K ⟨reg L, h⟩ := by
 refine ⟨⟨sel, h1, a1, R, hC, hl, ha, zeQ hs, fun i j k b1 hij e1 e2 _ => ?_, zc4 hfit, fun _ => hx, fun v h1' hR _ _ => ?_⟩⟩
 ·exact (zhh hd hij e1 e2).elim
 ·obtain ⟨hg, v', xs, ys, e1, e2, e3, e4⟩ := hK v h1' hR
  rw [e1, zjf e2 e3]; exact ⟨hg, e4.out⟩
theorem d_clHW {d : Nat} {g : String} {args : List Opd} {r : List ICell} {R : zea} (w : List Nat) (sel : List Nat) (h1 : List Blk) (a1 : List Value) (hC : C g a1 h1 R) (hw : zc5 sel h1 = w) (hl : h1.length = sel.length) (ha : a1.map (zbF (rho sel h.length)) = args.map (evf (reg L)))
  (hs : viewL (rho sel h.length) h sel h1) (hd : sel.Nodup) (hx : ∃ v h1', R v h1' ∧ sel.length ≤ h1'.length ∧ zc3 h1 h1')
  (hK : ∀ v h1', R v h1' → zex h1 h1' ∧ ∃ v' xs ys, zbF (rho sel h.length) v = v' ∧ zii sel h1' (rho sel h.length) 0 h xs ∧ renL (rho sel h.length) (h1'.drop sel.length) ys ∧ GD C un (i + 1) nid r (⟨i, sel, w, some h.length⟩ :: log) K ⟨reg ((d, v') :: L), xs ++ ys⟩)
  (hfit : zih un ⟨i, sel, w, some h.length⟩ log = true := by kernel_rfl) : GD C un i nid (⟨some d, .call g args, none⟩ :: r) log K ⟨reg L, h⟩ := by
 subst hw
 refine ⟨⟨sel, h1, a1, R, hC, hl, ha, zeQ hs, fun i j k b1 hij e1 e2 _ => ?_, zc4 hfit, fun _ => hx, fun v h1' hR _ _ => ?_⟩⟩
 ·exact (zhh hd hij e1 e2).elim
 ·obtain ⟨hg, v', xs, ys, e1, e2, e3, e4⟩ := hK v h1' hR
  rw [e1, zjf e2 e3]; exact ⟨hg, e4.out⟩
theorem d_mk {d : Nat} {op : IOp} {r : List ICell} {v : Value} {B : Blk} (hm : op.makes = true) (hs : zS op (evf (reg L)) (hf h) nid = some (v, .push B)) (hg : h[nid]? = some .gone) (hfit : zih un ⟨i, [], [nid], none⟩ log = true)
  (hk : GD C un (i + 1) (nid + 1) r (⟨i, [], [nid], none⟩ :: log) K ⟨reg ((d, v) :: L), h.set nid B⟩) : GD C un i nid (⟨some d, op, none⟩ :: r) log K ⟨reg L, h⟩ := by
 refine ⟨?_⟩
 show zbm C un ⟨i, nid, ⟨some d, op, none⟩⟩ log (fun log' s' => wpD C un (zbN (i + 1) (if op.makes then nid + 1 else nid) r) log' K s') ⟨reg L, h⟩
 have hsp : qK op = 0 := by cases op <;> first | rfl | cases hm
 have hrd : rdE op (evf (reg L)) = [] := by unfold rdE; rw [ziZ hm]; rfl
 refine (zbd (fun _ => hsp)).2 ⟨⟨i, [], [nid], none⟩, ⟨zaD (reg L) (some d) v, h.set nid B⟩, ?_, zc4 hfit, ?_⟩
 ·simp [zjc, gJ, zck, hs, hrd, hg]
 ·have hk := hk.out
  simp only [hm, if_true]
  exact hk
theorem zg4 {x : Opd} {e : Opd → Value} {h : Nat → Option Blk} {n : Nat} {c : List Value} (hx : e x = .agg ⟨c⟩) (hc : c.length = 342) : zS (.bsl zNt' 342 1 [(0, 342, x)]) e h n = some (sv n 0 1 1, .push (cw c)) := by
 have h1 : (List.replicate 1 (qT zNt')).flatten = ntF 0 0 0 false false e0 zH := by rw [zNt_eq]; simp
 have h2 : zdb (.agg ⟨c⟩) = c := rfl
 have h3 : splice (ntF 0 0 0 false false e0 zH) 0 c = c := zdr (by rw [hc, qF])
 simp only [zS, List.map_cons, List.map_nil, hx, h1, zd7, h2]
 rw [if_pos ⟨rfl, hc, by rw [qF]; omega⟩, h3]
end
theorem zJ {ρ : Nat → Nat} {c : List Value} {rw : Bool} : Blk.view (za5 ρ (cr [])) (.cells c rw) := .inr ⟨rfl, _, _, rfl⟩
theorem z9 {a b : Blk} (h : Blk.sees a b) : Blk.view a b := .inl h
theorem qC {l : List Blk} : zex [] l := fun i h => by simp at h
theorem zA {b b' : Blk} {h h' : List Blk} (h1 : b = .gone → b' = .gone) (h2 : zex h h') : zex (b :: h) (b' :: h') := by
 intro i hi
 cases i with
 | zero => simp only [List.getElem?_cons_zero, Option.some.injEq] at hi ⊢; exact h1 hi
 | succ i => simp only [List.getElem?_cons_succ] at hi ⊢; exact h2 i hi
theorem zD {b : Blk} : b = .gone → b = .gone := fun h => h
theorem qM {c : List Value} {rw : Bool} {b : Blk} : Blk.cells c rw = .gone → b = .gone := fun h => by cases h
def ntE (n : Nt) : Value := ntV n.u n.b n.v n.w n.a n.e n.p
theorem zak {ρ : Nat → Nat} {n : Nat} (w : List Nt) : za5 ρ (.chan n (w.map ntE)) = .chan n (w.map ntE) := by
 have hr : ∀ e : Nt, zgq ρ (ntE e) = ntE e := fun e => zhc (za8 _ _ _ _ _ _ _)
 simp only [za5, List.map_map]
 congr 1
 exact List.map_congr_left fun e _ => hr e
theorem zcz {ρ : Nat → Nat} {n : Nat} (w : List Nt) : Blk.seen (za5 ρ (.chan n (w.map ntE))) (.chan n (w.map ntE)) := by rw [zak]; rfl
def qD (k : Nat) (p : qL) (b : Int) (kc : Nat) : List Value := [pv k 0] ++ (pl p ++ [iv b, .chan (some kc)])
theorem unitL_length (k : Nat) (p : qL) (b : Int) (kc : Nat) : (qD k p b kc).length = 333 := by simp [qD, zN]
theorem unit_rP {m : Option Nat} {k : Nat} {p : qL} {b : Int} {kc o : Nat} {v : Value} (h : zaw m (pl p) o = some v) : zaw m (qD k p b kc) (1 + o) = some v := (zfF (a := [pv k 0]) rfl).trans (zdS h)
theorem zdQ {m : Option Nat} {k : Nat} {p : qL} {b : Int} {kc : Nat} (o : Nat) : zaw m (qD k p b kc) (331 + o) = zaw m [iv b, .chan (some kc)] o := by
 rw [show 331 + o = 1 + (330 + o) by omega]
 exact (zfF (a := [pv k 0]) rfl).trans (zfF (zN p))
theorem unit_wP {k : Nat} {p q : qL} {b : Int} {kc : Nat} : splice (qD k p b kc) 1 (pl q) = qD k q b kc := by
 have : splice (qD k p b kc) (1 + 0) (pl q) = [pv k 0] ++ splice (pl p ++ [iv b, .chan (some kc)]) 0 (pl q) := zcy rfl
 rw [zeC (by rw [zN, zN]; omega), qO] at this; exact this
theorem unit_wB {k : Nat} {p : qL} {b b' : Int} {kc : Nat} : splice (qD k p b kc) 331 [iv b'] = qD k p b' kc := by
 have h1 : splice (qD k p b kc) (1 + 330) [iv b'] = [pv k 0] ++ splice (pl p ++ [iv b, .chan (some kc)]) 330 [iv b'] := zcy rfl
 have h2 : splice (pl p ++ [iv b, .chan (some kc)]) (330 + 0) [iv b'] = pl p ++ splice [iv b, .chan (some kc)] 0 [iv b'] := zcy (zN p)
 rw [h2] at h1; exact h1
theorem unit_le {k : Nat} {p : qL} {b : Int} {kc m : Nat} (h : m ≤ 333) : m ≤ (qD k p b kc).length := by rw [unitL_length]; exact h
theorem zcF {ρ : Nat → Nat} {k k' : Nat} {p : qL} {b : Int} {kc kc' : Nat} {rw : Bool} (h1 : ρ k = k') (h2 : ρ kc = kc') : za5 ρ (.cells (qD k p b kc) rw) = .cells (qD k' p b kc') rw := by
 subst h1; subst h2
 simp only [za5, qD, List.map_append, ren_pl]; rfl
theorem za2 {ρ : Nat → Nat} {k k' : Nat} {p : qL} {b : Int} {kc kc' : Nat} {rw : Bool} (h1 : ρ k = k') (h2 : ρ kc = kc') : some (Blk.cells (qD k' p b kc') rw) = some (za5 ρ (.cells (qD k p b kc) rw)) := by rw [zcF h1 h2]
theorem zbO {ρ : Nat → Nat} {k k' : Nat} {p : qL} {b : Int} {kc kc' : Nat} {rw rw' : Bool} (h1 : ρ k = k') (h2 : ρ kc = kc') (hr : rw = true → rw' = true) : Blk.seen (za5 ρ (.cells (qD k p b kc) rw)) (.cells (qD k' p b kc') rw') := by
 rw [zcF h1 h2]; exact ⟨rfl, hr⟩
def zUn : RL := [(1, .pointer none), (324, .int .i64 0), (6, .int .u64 0), (1, .int .i64 0), (1, .chan none)]
theorem bld_unit (k kc : Nat) : zd7 (qT zUn) [(0, 1, pv k 0), (332, 1, .chan (some kc))] = some (qD k zH 0 kc) := by kernel_rfl
def nearL (nr : Nat → Int × Bool) : List Value := ((List.range 64).map fun i => [.int .u32 (nr i).1, bv (nr i).2]).flatten
def nr0 : Nat → Int × Bool := fun _ => (0, false)
def zjZ (is : Bool) (nr : Nat → Int × Bool) (w : Value) : List Value := [bv is] ++ (nearL nr ++ [w])
def zM (p : qL) (is : Bool) (nr : Nat → Int × Bool) (w : Value) : List Value := pl p ++ zjZ is nr w
theorem planeT_length (is : Bool) (nr : Nat → Int × Bool) (w : Value) : (zjZ is nr w).length = 130 := rfl
theorem zd5 (p : qL) (is : Bool) (nr : Nat → Int × Bool) (w : Value) : (zM p is nr w).length = 460 := by simp only [zM, List.length_append, zN, planeT_length]
theorem plane_rP {m : Option Nat} {p : qL} {is : Bool} {nr : Nat → Int × Bool} {w v : Value} {o : Nat} (h : zaw m (pl p) o = some v) : zaw m (zM p is nr w) o = some v := zdS h
theorem plane_rT {m : Option Nat} {p : qL} {is : Bool} {nr : Nat → Int × Bool} {w : Value} (o : Nat) : zaw m (zM p is nr w) (330 + o) = zaw m (zjZ is nr w) o := zfF (zN p)
theorem plane_wP {p q : qL} {is : Bool} {nr : Nat → Int × Bool} {w : Value} : splice (zM p is nr w) 0 (pl q) = zM q is nr w := by
 unfold zM; rw [zeC (by rw [zN, zN]; omega), qO]
theorem plane_wI {p : qL} {is is' : Bool} {nr : Nat → Int × Bool} {w : Value} : splice (zM p is nr w) 330 [bv is'] = zM p is' nr w := zcy (o := 0) (zN p)
theorem plane_wW {p : qL} {is : Bool} {nr : Nat → Int × Bool} {w w' : Value} : splice (zM p is nr w) 459 [w'] = zM p is nr w' := by
 have h1 : splice (zM p is nr w) (330 + 129) [w'] = pl p ++ splice (zjZ is nr w) 129 [w'] := zcy (zN p)
 have h2 : splice (zjZ is nr w) (1 + 128) [w'] = [bv is] ++ splice (nearL nr ++ [w]) 128 [w'] := zcy rfl
 have h3 : splice (nearL nr ++ [w]) (128 + 0) [w'] = nearL nr ++ splice [w] 0 [w'] := zcy rfl
 rw [h3] at h2; rw [h2] at h1; exact h1
theorem plane_wAll {p q : qL} {is is' : Bool} {nr nr' : Nat → Int × Bool} {w w' : Value} : splice (zM p is nr w) 0 (zM q is' nr' w') = zM q is' nr' w' := zdr (by rw [zd5, zd5])
theorem zip {p : qL} {is : Bool} {nr : Nat → Int × Bool} {w : Value} {m : Nat} (h : m ≤ 460) : m ≤ (zM p is nr w).length := by rw [zd5]; exact h
theorem nearL_scl (nr : Nat → Int × Bool) : (nearL nr).all zbL = true := by
 simp only [nearL, List.all_flatten, List.all_map]
 exact List.all_eq_true.2 fun i _ => rfl
theorem ren_nearL {ρ : Nat → Nat} (nr : Nat → Int × Bool) : (nearL nr).map (zeJ ρ) = nearL nr := zbe fun v hv => zeW (List.all_eq_true.1 (nearL_scl nr) v hv)
theorem zbo {ρ : Nat → Nat} {p : qL} {is : Bool} {nr : Nat → Int × Bool} {w w' : Value} {rw : Bool} (h : zeJ ρ w = w') : za5 ρ (.cells (zM p is nr w) rw) = .cells (zM p is nr w') rw := by
 subst h
 simp only [za5, zM, zjZ, List.map_append, ren_pl, ren_nearL]; rfl
theorem zan {ρ : Nat → Nat} {p : qL} {is : Bool} {nr : Nat → Int × Bool} {w w' : Value} {rw : Bool} (h : zeJ ρ w = w') : some (Blk.cells (zM p is nr w') rw) = some (za5 ρ (.cells (zM p is nr w) rw)) := by rw [zbo h]
theorem zaW {ρ : Nat → Nat} {p : qL} {is : Bool} {nr : Nat → Int × Bool} {w w' : Value} {rw rw' : Bool} (h : zeJ ρ w = w') (hr : rw = true → rw' = true) : Blk.seen (za5 ρ (.cells (zM p is nr w) rw)) (.cells (zM p is nr w') rw') := by
 rw [zbo h]; exact ⟨rfl, hr⟩
theorem bld_plane : zd7 (qT [(324, Value.int .i64 0), (6, .int .u64 0), (1, .bool false), (1, .int .u32 0), (1, .bool false), (1, .int .u32 0), (1, .bool false), (1, .int .u32 0), (1, .bool false), (1, .int .u32 0), (1, .bool false), (1, .int .u32 0), (1, .bool false), (1, .int .u32 0), (1, .bool false), (1, .int .u32 0), (1, .bool false), (1, .int .u32 0), (1, .bool false), (1, .int .u32 0), (1, .bool false), (1, .int .u32 0), (1, .bool false), (1, .int .u32 0), (1, .bool false), (1, .int .u32 0), (1, .bool false), (1, .int .u32 0), (1, .bool false), (1, .int .u32 0), (1, .bool false), (1, .int .u32 0), (1, .bool false), (1, .int .u32 0), (1, .bool false), (1, .int .u32 0), (1, .bool false), (1, .int .u32 0), (1, .bool false), (1, .int .u32 0), (1, .bool false), (1, .int .u32 0), (1, .bool false), (1, .int .u32 0), (1, .bool false), (1, .int .u32 0), (1, .bool false), (1, .int .u32 0), (1, .bool false), (1, .int .u32 0), (1, .bool false), (1, .int .u32 0), (1, .bool false), (1, .int .u32 0), (1, .bool false), (1, .int .u32 0), (1, .bool false), (1, .int .u32 0), (1, .bool false), (1, .int .u32 0), (1, .bool false), (1, .int .u32 0), (1, .bool false), (1, .int .u32 0), (1, .bool false), (1, .int .u32 0), (1, .bool false), (1, .int .u32 0), (1, .bool false), (1, .int .u32 0), (1, .bool false), (1, .int .u32 0), (1, .bool false), (1, .int .u32 0), (1, .bool false), (1, .int .u32 0), (1, .bool false), (1, .int .u32 0), (1, .bool false), (1, .int .u32 0), (1, .bool false), (1, .int .u32 0), (1, .bool false), (1, .int .u32 0), (1, .bool false), (1, .int .u32 0), (1, .bool false), (1, .int .u32 0), (1, .bool false), (1, .int .u32 0), (1, .bool false), (1, .int .u32 0), (1, .bool false), (1, .int .u32 0), (1, .bool false), (1, .int .u32 0), (1, .bool false), (1, .int .u32 0), (1, .bool false), (1, .int .u32 0), (1, .bool false), (1, .int .u32 0), (1, .bool false), (1, .int .u32 0), (1, .bool false), (1, .int .u32 0), (1, .bool false), (1, .int .u32 0), (1, .bool false), (1, .int .u32 0), (1, .bool false), (1, .int .u32 0), (1, .bool false), (1, .int .u32 0), (1, .bool false), (1, .int .u32 0), (1, .bool false), (1, .int .u32 0), (1, .bool false), (1, .int .u32 0), (1, .bool false), (1, .int .u32 0), (1, .bool false), (1, .int .u32 0), (1, .bool false), (1, .int .u32 0), (1, .bool false), (1, .int .u32 0), (1, .bool false), (1, .int .u32 0), (1, .bool false), (1, .slice none 0 0)]) [] = some (zM zH false nr0 (.slice none 0 0)) := by kernel_rfl
def uf (i a b : Nat) : Nat → Nat := fun j => if j = i then a else b + j
def zbc (n : Nat) (f : Nat → Nat) : List Value := (List.range n).map fun j => pv (f j) 0
def zbq (m : Nat) : List Value := zbt [.pointer none] m
theorem ptrs_length (n : Nat) (f : Nat → Nat) : (zbc n f).length = n := by simp [zbc]
theorem ptrs_r {n m j : Nat} {f : Nat → Nat} (h : j < n) : zaw none (zbc n f ++ zbq m) j = some (pv (f j) 0) := by
 show (zbc n f ++ zbq m)[j]? = _
 rw [List.getElem?_append_left (by rw [ptrs_length]; exact h)]
 simp [zbc, h]
theorem zgb {ρ : Nat → Nat} {n m : Nat} {f f' : Nat → Nat} {rw : Bool} (h : ∀ j, j < n → ρ (f j) = f' j) : za5 ρ (.cells (zbc n f ++ zbq m) rw) = .cells (zbc n f' ++ zbq m) rw := by
 simp only [za5, List.map_append]
 congr 2
 ·simp only [zbc, List.map_map]
  refine List.map_congr_left fun j hj => ?_
  show zeJ ρ (pv (f j) 0) = pv (f' j) 0
  rw [← h j (List.mem_range.1 hj)]; rfl
 ·exact zbe fun v hv => zeW (List.all_eq_true.1 (zha (z := [.pointer none]) rfl m) v hv)
theorem uf_ren {ρ : Nat → Nat} {i a b a' b' : Nat} (h1 : ρ a = a') (h2 : ∀ j, j < 16 → ρ (b + j) = b' + j) : ∀ j, j < 16 → ρ (uf i a b j) = uf i a' b' j := by
 intro j hj
 unfold uf
 split
 ·exact h1
 ·exact h2 j hj
theorem h16 {sel : List Nat} {N b b' : Nat} (h : (List.range 16).all (fun j => sel[b + j]? == some (b' + j)) = true) : ∀ j, j < 16 → rho sel N (b + j) = b' + j := by
 intro j hj
 have := List.all_eq_true.1 h j (List.mem_range.2 hj)
 exact zdp (by simpa using this)
theorem zeU {ρ : Nat → Nat} {n m i a b a' b' : Nat} {rw rw' : Bool} (h1 : ρ a = a') (h2 : ∀ j, j < 16 → ρ (b + j) = b' + j) (hn : n ≤ 16) (hr : rw = true → rw' = true) : Blk.seen (za5 ρ (.cells (zbc n (uf i a b) ++ zbq m) rw)) (.cells (zbc n (uf i a' b') ++ zbq m) rw') := by
 rw [zgb fun j hj => uf_ren h1 h2 j (by omega)]; exact ⟨rfl, hr⟩
theorem zcG {ρ : Nat → Nat} {n m i a b : Nat} {rw : Bool} (h1 : ρ a = a) (h2 : ∀ j, j < 16 → ρ (b + j) = b + j) (hn : n ≤ 16) : some (Blk.cells (zbc n (uf i a b) ++ zbq m) rw) = some (za5 ρ (.cells (zbc n (uf i a b) ++ zbq m) rw)) := by
 rw [zgb fun j hj => uf_ren h1 h2 j (by omega)]
theorem uf_at (i a b : Nat) : uf i a b i = a := if_pos rfl
abbrev Gr := Option (Nat × List Value)
def gV (k n : Nat) : Gr → Value
 | none => .slice none 0 0
 | some (c, _) => sv k 0 n c
def gB (l : List Nt) : Gr → Blk
 | none => .gone
 | some (_, t) => cw (zbb l ++ t)
def hidB : Bool → Blk
 | false => .gone
 | true => cr []
theorem view_hidS {ρ : Nat → Nat} {z c : List Value} (q : Option Nat) : Blk.view (za5 ρ (hidB q.isSome)) (slB z c q) := by
 cases q with
 | none => exact .inl (.inr ⟨rfl, rfl⟩)
 | some x => exact .inr ⟨rfl, _, _, rfl⟩
def gOk (l : List Nt) : Gr → Prop
 | none => l = []
 | some (c, t) => l.length ≤ c ∧ (c - l.length) * 342 ≤ t.length ∧ t.all zbL = true
theorem zdH {ρ : Nat → Nat} {l : List Nt} (o : Gr) : Blk.view (za5 ρ (hidB o.isSome)) (gB l o) := by
 cases o with
 | none => exact .inl (.inr ⟨rfl, rfl⟩)
 | some x => exact zJ
theorem gB_scl {l : List Nt} {c : Nat} {t : List Value} (h : gOk l (some (c, t))) : (zbb l ++ t).all zbL = true := zfm (zgd l) h.2.2
theorem zab {ρ : Nat → Nat} {l : List Nt} {o : Gr} (h : gOk l o) : za5 ρ (gB l o) = gB l o := by
 cases o with
 | none => rfl
 | some x => exact zby (gB_scl h)
theorem zcm {ρ : Nat → Nat} {l : List Nt} {o : Gr} (h : gOk l o) : Blk.view (za5 ρ (gB l o)) (gB l o) := by
 rw [zab h]
 cases o with
 | none => exact .inl (.inr ⟨rfl, rfl⟩)
 | some x => exact .inl (.inl ⟨rfl, fun q => q⟩)
theorem zaa {sel : List Nat} {N k k' n : Nat} (o : Gr) (h : rho sel N k = k') : zeJ (rho sel N) (gV k n o) = gV k' n o := by
 cases o with
 | none => rfl
 | some x => subst h; rfl
theorem zgj {l l' : List Nt} {o o' : Gr} (h : o'.isSome = o.isSome) : gB l o = .gone → gB l' o' = .gone := by
 cases o with
 | none => cases o' with
  | none => exact fun _ => rfl
  | some x => cases h
 | some x => exact fun h => by cases h
theorem zis (a b : List Nt) : zbb (a ++ b) = zbb a ++ zbb b := by simp [zbb]
theorem nts_take (l : List Nt) (t : List Value) : ((zbb l ++ t).drop 0).take (l.length * 342) = zbb l := by
 rw [List.drop_zero, ← zbh, List.take_append_of_le_length (Nat.le_refl _), List.take_length]
theorem app_g {C : zah} {K : Value → List Blk → Prop} {s x : Opd} {L : List (Nat × Value)} {h : List Blk} {k : Nat} {l xs : List Nt} {o : Gr} {xv : Value}
  (hs : evf (reg L) s = gV k l.length o) (hk : h[k]? = some (gB l o)) (ho : gOk l o) (hx : evf (reg L) x = xv) (hq : lenV xv = some xs.length) (hf1 : first (hf h) 342 xs.length xv = some (zbb xs)) (hb : l.length + xs.length ≤ 1000000)
  (h0 : xs = [] → K (gV k l.length o) h)
  (h1 : xs ≠ [] → ∀ c t, o = some (c, t) → gOk (l ++ xs) (some (c, t.drop (xs.length * 342))) → K (gV k (l ++ xs).length (some (c, t.drop (xs.length * 342)))) (h.set k (gB (l ++ xs) (some (c, t.drop (xs.length * 342))))))
  (h2 : xs ≠ [] → ∀ o', o'.isSome = true → gOk (l ++ xs) o' → K (gV h.length (l ++ xs).length o') (h ++ [gB (l ++ xs) o'])) : zgp C (.app zNt' 342 2728 s x) (reg L) h K := by
 show appK zNt' 342 2728 (evf (reg L) s) (evf (reg L) x) (fun v e => K v (e.on h)) (hf h) h.length
 rw [hs, hx]
 have e1 : first (hf h) 342 l.length (gV k l.length o) = some (zbb l) := by
  cases o with
  | none => have : l = [] := ho; subst this; rfl
  | some ct =>
   obtain ⟨c, t⟩ := ct
   refine zbK (zay.2 ⟨hk, by simp [gB]⟩) (nts_take l t) ?_
   rw [List.length_append, zbh]; omega
 have e2 : ∃ b c, gV k l.length o = .slice b l.length c ∧ (c = match o with | none => 0 | some (c, _) => c) ∧ (b = match o with | none => none | some _ => some ⟨k, 0, none⟩) := by
  cases o with
  | none => have : l = [] := ho; subst this; exact ⟨_, _, rfl, rfl, rfl⟩
  | some ct => exact ⟨_, _, rfl, rfl, rfl⟩
 obtain ⟨b, c, e3, e4, e5⟩ := e2
 have new : ∀ c, l.length + xs.length ≤ c → xs ≠ [] → K (.slice (some ⟨h.length, 0, none⟩) (l.length + xs.length) c) (h ++ [.cells (zbb l ++ zbb xs ++ (List.replicate (c - (l.length + xs.length)) (qT zNt')).flatten) true]) := by
  intro c hc hne
  have := h2 hne (some (c, (List.replicate (c - (l.length + xs.length)) (qT zNt')).flatten)) rfl ?_
  ·simp only [gV, gB, zis, List.length_append] at this
   exact this
  ·refine ⟨by simp; omega, ?_, ?_⟩
   ·rw [show ((List.replicate (c - (l.length + xs.length)) (qT zNt')).flatten).length = (c - (l.length + xs.length)) * 342 by rw [zNt_eq]; simp [qF]]
    simp
   ·rw [zNt_eq]; exact zha (zhI 0 0 0 false false e0 zH) _
 rw [e3] at e1 ⊢
 simp only [appK, hq]
 rw [e1, hf1]
 simp only
 by_cases hfit : l.length + xs.length ≤ c
 ·rw [if_pos hfit]
  by_cases hz : xs.length = 0
  ·have hxn : xs = [] := List.eq_nil_of_length_eq_zero hz
   cases o with
   | none =>
    simp only at e5; subst e5
    simp only [hz, if_true, Eff.on]
    have := h0 hxn
    rw [e3] at this; simpa [hxn] using this
   | some ct =>
    simp only at e5; subst e5
    simp only [hz, if_true, Eff.on]
    have := h0 hxn
    rw [e3] at this; simpa [hxn] using this
  ·have hxn : xs ≠ [] := fun e => hz (by rw [e]; rfl)
   cases o with
   | none =>
    simp only at e4; subst e4; omega
   | some ct =>
    obtain ⟨c1, t⟩ := ct
    simp only at e4 e5; subst e4; subst e5
    simp only [hz, if_false]
    have e6 : hf h k = some (.cells (zbb l ++ t) true) := zay.2 ⟨hk, by simp⟩
    rw [e6]
    simp only
    obtain ⟨o1, o2, o3⟩ := ho
    have hle : 0 + l.length * 342 + (zbb xs).length ≤ (zbb l ++ t).length := by
     rw [List.length_append, zbh, zbh]
     have : xs.length * 342 ≤ (c - l.length) * 342 := Nat.mul_le_mul_right _ (by omega)
     omega
    rw [if_pos hle]
    have hsp : splice (zbb l ++ t) (0 + l.length * 342) (zbb xs) = zbb (l ++ xs) ++ t.drop (xs.length * 342) := by
     rw [Nat.zero_add, ← zbh l]
     unfold splice
     rw [List.take_append_of_le_length (Nat.le_refl _), List.take_length, zis, List.drop_append, List.drop_eq_nil_of_le (by omega), List.nil_append, zbh xs]
     rw [Nat.add_sub_cancel_left, List.append_assoc]
    have := h1 hxn c t rfl ⟨by simp; omega, ?_, ?_⟩
    ·simp only [gV, gB, List.length_append] at this
     rw [hsp]
     exact this
    ·rw [List.length_drop, List.length_append]
     have : (c - (l.length + xs.length)) * 342 = (c - l.length) * 342 - xs.length * 342 := by rw [← Nat.sub_mul]; congr 1; omega
     omega
    ·exact List.all_eq_true.2 fun v hv => List.all_eq_true.1 o3 v (List.mem_of_mem_drop hv)
 ·rw [if_neg hfit]
  have hxn : xs ≠ [] := fun e => by
   subst e
   cases o with
   | none => have : l = [] := ho; subst this; simp at hfit
   | some ct => obtain ⟨c1, t⟩ := ct; simp only at e4; have := ho.1; simp at hfit; omega
  refine ⟨by omega, fun c hc => ?_⟩
  have := new c (by omega) hxn
  simpa [Eff.on] using this
theorem o_app {C : zah} {K : St → Prop} {L : List (Nat × Value)} {h : List Blk} {d : Nat} {op : IOp} {r : List ICell} (hw : zgp C op (reg L) h (fun v h' => GO C r K ⟨reg ((d, v) :: L), h'⟩)) : GO C (⟨some d, op, none⟩ :: r) K ⟨reg L, h⟩ := ⟨zcE (fun v h' q => q.out) hw⟩
def z8 (kh : Nat) (u w : Value) : List Value := [pv kh 0, u, w]
theorem zaF {ρ : Nat → Nat} {kh kh' : Nat} {u u' w w' : Value} {rw : Bool} (h0 : ρ kh = kh') (h1 : zeJ ρ u = u') (h2 : zeJ ρ w = w') : za5 ρ (.cells (z8 kh u w) rw) = .cells (z8 kh' u' w') rw := by
 subst h0; subst h1; subst h2; rfl
theorem zas {ρ : Nat → Nat} {kh kh' : Nat} {u u' w w' : Value} {rw : Bool} (h0 : ρ kh = kh') (h1 : zeJ ρ u = u') (h2 : zeJ ρ w = w') : some (Blk.cells (z8 kh' u' w') rw) = some (za5 ρ (.cells (z8 kh u w) rw)) := by rw [zaF h0 h1 h2]
theorem zaA {ρ : Nat → Nat} {kh kh' : Nat} {u u' w w' : Value} {rw rw' : Bool} (h0 : ρ kh = kh') (h1 : zeJ ρ u = u') (h2 : zeJ ρ w = w') (hr : rw = true → rw' = true) : Blk.seen (za5 ρ (.cells (z8 kh u w) rw)) (.cells (z8 kh' u' w') rw') := by
 rw [zaF h0 h1 h2]; exact ⟨rfl, hr⟩
theorem putNC {P : Program} (hc : zaL P) (l x : List Nt) (o : Gr) (q : Option Nat) (n m : Nat) (ho : gOk l o) (hq : q = none → x = []) (hl : l.length + x.length ≤ 1000000) :
  Env P "(*roundhouse/yard.row[roundhouse/head.Note]).put" [pv 0 2, slV 2 x.length q] [cw [pv 3 0, sv 4 0 n (n + m), gV 1 l.length o], gB l o, slB zNt (zbb x) q, cr [], cr []]
   (fun v h' => v = .tuple #[] ∧ ∃ o', gOk (l ++ x) o' ∧ ((o'.isSome = o.isSome ∧ h' = [cw [pv 3 0, sv 4 0 n (n + m), gV 1 (l ++ x).length o'], gB (l ++ x) o', slB zNt (zbb x) q, cr [], cr []]) ∨ (o'.isSome = true ∧ h' = [cw [pv 3 0, sv 4 0 n (n + m), gV 5 (l ++ x).length o'], gB l o, slB zNt (zbb x) q, cr [], cr [], gB (l ++ x) o']))) := by
 refine Env.by2 hc ?_
 unfold zbT
 show GC _ 5 _ _ ⟨reg [(0, pv 0 2), (1, slV 2 x.length q)], [cw [pv 3 0, sv 4 0 n (n + m), gV 1 l.length o], gB l o, slB zNt (zbb x) q, cr [], cr []]⟩
 refine zV (o_d 6 [(9, slV 2 x.length q), (8, gV 1 l.length o), (7, pv 0 2), (6, pv 0 2), (5, pv 0 2), (4, pv 0 2)] (by kernel_rfl) (o_app (app_g (l := l) (xs := x) (o := o) (k := 1) rfl rfl ho rfl ?_ ?_ hl (fun hx => ?_) (fun hx c t ht hg => ?_) (fun hx o' hs hg => ?_))))
 ·cases q with
  | none => rw [hq rfl]; rfl
  | some c => rfl
 ·cases q with
  | none => rw [hq rfl]; rfl
  | some c => exact zbK rfl (nts_take x _) (by rw [List.length_append, zbh]; omega)
 ·subst hx
  refine o_b 3 [(12, pv 0 2), (11, pv 0 2)] [cw [pv 3 0, sv 4 0 n (n + m), gV 1 l.length o], gB l o, slB zNt (zbb []) q, cr [], cr []] (by cases o <;> kernel_rfl) ?_
  refine zG ⟨trivial, _, .inl rfl, [], rfl, qA, rfl, o, by simpa using ho, .inl ⟨rfl, ?_⟩⟩
  simp only [List.append_nil]
 ·subst ht
  exact o_b 3 [(12, pv 0 2), (11, pv 0 2)] [cw [pv 3 0, sv 4 0 n (n + m), gV 1 (l ++ x).length (some (c, t.drop (x.length * 342)))], gB (l ++ x) (some (c, t.drop (x.length * 342))), slB zNt (zbb x) q, cr [], cr []] (by kernel_rfl) (zG ⟨trivial, _, .inl rfl, [], rfl, qA, rfl, _, hg, .inl ⟨rfl, rfl⟩⟩)
 ·cases o' with
  | none => cases hs
  | some ct =>
   exact o_b 3 [(12, pv 0 2), (11, pv 0 2)] [cw [pv 3 0, sv 4 0 n (n + m), gV 5 (l ++ x).length (some ct)], gB l o, slB zNt (zbb x) q, cr [], cr [], gB (l ++ x) (some ct)] (by kernel_rfl) (zG ⟨trivial, _, .inl rfl, [], rfl, qA, rfl, _, hg, .inr ⟨rfl, rfl⟩⟩)
theorem nt1_eq {u b v : Int} {w a : Bool} {e : Ent} {p : qL} : slB zNt (zbb [⟨u, b, v, w, a, e, p⟩]) (some 0) = cw (ntF u b v w a e p) := by
 show cw (zbb [_] ++ zbt zNt 0) = _
 simp [zbb, zbt, ntL]
theorem zik {ρ : Nat → Nat} {u b v : Int} {w a : Bool} {e : Ent} {p : qL} : Blk.view (za5 ρ (slB zNt (zbb [⟨u, b, v, w, a, e, p⟩]) (some 0))) (cw (ntF u b v w a e p)) := by
 rw [nt1_eq, zby ntF_scl']; exact .inl (.inl ⟨rfl, fun q => q⟩)
theorem zfB {ρ : Nat → Nat} {u b v : Int} {w a : Bool} {e : Ent} {p : qL} : za5 ρ (slB zNt (zbb [⟨u, b, v, w, a, e, p⟩]) (some 0)) = cw (ntF u b v w a e p) := by
 rw [nt1_eq, zby ntF_scl']
theorem ziU (l x : List Nt) (o : Gr) (q : Option Nat) (n m : Nat) : ∃ (v : Value) (h1' : List Blk), (v = .tuple #[] ∧ ∃ o', gOk (l ++ x) o' ∧ ((o'.isSome = o.isSome ∧ h1' = [cw [pv 3 0, sv 4 0 n (n + m), gV 1 (l ++ x).length o'], gB (l ++ x) o', slB zNt (zbb x) q, cr [], cr []]) ∨ (o'.isSome = true ∧ h1' = [cw [pv 3 0, sv 4 0 n (n + m), gV 5 (l ++ x).length o'], gB l o, slB zNt (zbb x) q, cr [], cr [], gB (l ++ x) o']))) ∧ 5 ≤ h1'.length ∧ zc3 [cw [pv 3 0, sv 4 0 n (n + m), gV 1 l.length o], gB l o, slB zNt (zbb x) q, cr [], cr []] h1' :=
 ⟨_, _, ⟨rfl, some ((l ++ x).length, []), ⟨Nat.le_refl _, by simp, rfl⟩, .inr ⟨rfl, rfl⟩⟩, Nat.le_add_right 5 1, zgk rfl (zbf [_, _, _, _] [_])⟩
theorem wr_put (k k2 k3 k4 k5 : Nat) (l x : List Nt) (o : Gr) (q : Option Nat) {c : List Value} : zc5 [k, k2, k3, k4, k5] [cw c, gB l o, slB zNt (zbb x) q, cr [], cr []] = [k, k2, k3] := by cases o <;> cases q <;> rfl
theorem run_lenG {d : Option Nat} {x : Opd} {L : List (Nat × Value)} {hp : List Blk} {k : Nat} {l : List Nt} {o : Gr} (hx : evf (reg L) x = gV k l.length o) (ho : gOk l o) : zdE [⟨d, .lenS x, none⟩] ⟨reg L, hp⟩ = some ⟨zaD (reg L) d (iv (l.length : Nat)), hp⟩ := by
 refine zaQ (e := .no) rfl rfl ?_
 cases o with
 | none => have : l = [] := ho; subst this; simp [zS, hx, gV]
 | some ct => simp [zS, hx, gV]
def laA (n m : Nat) (x : HS) (k : Nat) (l : List Nt) (o : Gr) : List Blk := [cw (z8 1 (sv 4 0 n (n + m)) (gV k l.length o)), cw (zT x.p 2 3 x.e x.s), .chan 200 (x.w.map qR), .map (hdM x.hd), cr []]
def PA (n m : Nat) (o0 : Gr) (x : HS) (l : List Nt) (h' : List Blk) : Prop := ∃ o X k T, gOk l o ∧ (o0 = none → X = Blk.gone) ∧ ((k = 5 ∧ X = gB l o ∧ T = []) ∨ (k = 6 ∧ T = [gB l o])) ∧ h' = laA n m x k l o ++ [X] ++ T
theorem sendS_len {x : HS} : (zam x).2.length ≤ x.hd.length := by
 have := notesTo_len (goS x) (goS x).hd.length
 rw [goS_hd] at this
 simpa [zam, goS_hd] using this
def laB (n m i kl kw : Nat) (l : List Nt) (o : Gr) (p : qL) (is : Bool) (nr : Nat → Int × Bool) (b : Int) (q : Option Nat) (X : Blk) : List Blk :=
 [cw (z8 1 (sv 2 0 n (n + m)) (gV kl l.length o)), cr [], cr (zbc n (uf i 3 8) ++ zbq m), cw (qD 4 p b 5), cw (zM p is nr (slV kw 127 q)), .chan 1 (([] : List Nt).map ntE), cr [], X] ++ List.replicate 16 (cr [])
structure PBok (n m i : Nat) (o0 : Gr) (l : List Nt) (p : qL) (is : Bool) (nr : Nat → Int × Bool) (b : Int) (ld : Bool) (q0 : Option Nat) (W : Blk → Nat → Prop) (h' : List Blk) (o : Gr) (X : Blk) (kl kw : Nat) (qw : Option Nat) (T : List Blk) : Prop where
  ok : gOk l o
  gone : o0 = none → X = .gone
  eq : h' = laB n m i kl kw l o p is nr b qw X ++ T
  way : (kl = 7 ∧ X = gB l o) ∨ ∃ j, kl = 24 + j ∧ T[j]? = some (gB l o)
  ne : kl ≠ kw
  whl : (ld = false ∧ kw = 6 ∧ qw = q0) ∨ ∃ j c B, ld = true ∧ kw = 24 + j ∧ qw = some c ∧ T[j]? = some B ∧ W B c
def PB (n m i : Nat) (o0 : Gr) (l : List Nt) (p : qL) (is : Bool) (nr : Nat → Int × Bool) (b : Int) (ld : Bool) (q0 : Option Nat) (W : Blk → Nat → Prop) (h' : List Blk) : Prop := ∃ o X kl kw qw T, PBok n m i o0 l p is nr b ld q0 W h' o X kl kw qw T
end Go.Rh

set_option maxHeartbeats 4000000
namespace Go.Rh
theorem apply_rot (c : qL) (ka kb : Int) : zO c ⟨6, 0, 0, 0, 0, ka, kb⟩ = (nextS (upd c 0 (i64.wrap (c 0 + 1))) ka kb, 0) := by
 simp [zO, ze3, zaK, zbE, zci, zaX]
theorem apply_ver {c : qL} {e : Ent} (h : (zO c e).2 = 0) : (zO c e).1 0 = i64.wrap (c 0 + 1) := by
 obtain ⟨h1, hc, _, _⟩ := apply_ok h
 rw [h1]; exact done0 c e (checkS_ok hc).2.1
end Go.Rh

namespace Go.Rh
theorem bnds_hi {n c : Nat} {ik : IntKind} {v : Int} (h : 0 ≤ v ∧ v ≤ c) : bnds n c none (some (.int ik v)) none = some (0, v.toNat, c) := by
 have hb : bnd c (.int ik v) = some v.toNat := by simp [bnd, h]
 show (match bnd c (.int ik v) with | none => none | some h => some (0, h, c)) = _
 rw [hb]
theorem bnds_lo {n c : Nat} {ik : IntKind} {v : Int} (h : 0 ≤ v ∧ v ≤ n) : bnds n c (some (.int ik v)) none none = some (v.toNat, n, c) := by
 have hb : bnd n (.int ik v) = some v.toNat := by simp [bnd, h]
 show (match bnd n (.int ik v) with | none => none | some l => some (l, n, c)) = _
 rw [hb]
theorem run_slcHi {d : Option Nat} {size : Nat} {x lo : Opd} {L : List (Nat × Value)} {hp : List Blk} {b n c : Nat} {ik : IntKind} {v : Int} (hx : evf (reg L) x = .slice (some ⟨b, 0, none⟩) n c) (hh : evf (reg L) lo = .int ik v) (hv : 0 ≤ v ∧ v ≤ n) :
  zdE [⟨d, .slcS size x (some lo) none none, none⟩] ⟨reg L, hp⟩ = some ⟨zaD (reg L) d (.slice (some ⟨b, if c = v.toNat then 0 else v.toNat * size, none⟩) (n - v.toNat) (c - v.toNat)), hp⟩ := by
 refine zaQ (e := .no) rfl rfl ?_
 simp only [zS, slcV, hx, Option.map_none, Option.map_some, hh, bnds_lo hv]
 by_cases hc : c = v.toNat <;> simp [hc, addA]
end Go.Rh

namespace Go.Rh
theorem r_app {C : zah} {pu : List String} {K : St → Prop} {L : List (Nat × Value)} {h : List Blk} {d : Nat} {z : RL} {n b : Nat} {x y : Opd} {r : List ICell} (hw : zgp C (.app z n b x y) (reg L) h (fun v h' => GE C pu r K ⟨reg ((d, v) :: L), h'⟩)) : GE C pu (⟨some d, .app z n b x y, none⟩ :: r) K ⟨reg L, h⟩ :=
 ⟨zcE (K' := fun v h' => wpR C pu r K ⟨zaD (reg L) (some d) v, h'⟩) (fun v h' q => q.out) hw⟩
theorem run_slc3 {d : Option Nat} {size : Nat} {x hi mx : Opd} {L : List (Nat × Value)} {hp : List Blk} {b n c : Nat} {v : Int} (hx : evf (reg L) x = .slice (some ⟨b, 0, none⟩) n c) (hh : evf (reg L) hi = iv v) (hm : evf (reg L) mx = iv v) (hv : 0 ≤ v ∧ v ≤ c) :
  zdE [⟨d, .slcS size x none (some hi) (some mx), none⟩] ⟨reg L, hp⟩ = some ⟨zaD (reg L) d (.slice (some ⟨b, 0, none⟩) v.toNat v.toNat), hp⟩ := by
 refine zaQ (e := .no) rfl rfl ?_
 have h1 : bnd c (.int .i64 v) = some v.toNat := by simp [bnd, hv]
 have h2 : bnd v.toNat (.int .i64 v) = some v.toNat := by simp [bnd, hv]; omega
 have hb : bnds n c none (some (.int .i64 v)) (some (.int .i64 v)) = some (0, v.toNat, v.toNat) := by
  show (match bnd c (.int .i64 v) with | none => none | some m => match bnd m (.int .i64 v) with | none => none | some h => some (0, h, m)) = _
  rw [h1]
  simp only [h2]
 simp only [zS, slcV, hx, Option.map_none, Option.map_some, hh, hm, hb]
 by_cases hc : v.toNat = 0 <;> simp [hc, addA]
theorem gB_cut {l : List Nt} {c i : Nat} {t : List Value} : gB l (some (c, t)) = gB (l.take i) (some (i, zbb (l.drop i) ++ t)) := by
 show cw (zbb l ++ t) = cw (zbb (l.take i) ++ (zbb (l.drop i) ++ t))
 rw [← List.append_assoc, ← zis, List.take_append_drop]
theorem gOk_cut {l : List Nt} {c i : Nat} {t : List Value} (h : gOk l (some (c, t))) (hi : i < l.length) : gOk (l.take i) (some (i, zbb (l.drop i) ++ t)) := by
 refine ⟨by simp; omega, ?_, zfm (zgd _) h.2.2⟩
 have : (l.take i).length = i := by simp; omega
 rw [this]; simp
theorem nts_dropS {l : List Nt} {t : List Value} {j : Nat} (h : j ≤ l.length) : ((zbb l ++ t).drop (j * 342)).take ((l.drop j).length * 342) = zbb (l.drop j) := by
 have e : zbb l ++ t = zbb (l.take j) ++ (zbb (l.drop j) ++ t) := by rw [← List.append_assoc, ← zis, List.take_append_drop]
 have e1 : (zbb (l.take j)).length = j * 342 := by rw [zbh]; simp [Nat.min_eq_left h]
 rw [e, ← e1, List.drop_append_of_le_length (Nat.le_refl _), List.drop_length, List.nil_append]
 have := nts_take (l.drop j) t
 rwa [List.drop_zero] at this
theorem zgn {l : List Nt} {i : Nat} : l.take i ++ l.drop (i + 1) = l.eraseIdx i := (List.eraseIdx_eq_take_drop_succ l i).symm
theorem dropNC {P : Program} (hc : zar P) (l : List Nt) (o : Gr) (k : Int) (n m : Nat) (ho : gOk l o) (hk : 0 ≤ k ∧ k < l.length) (hl : l.length ≤ 1000000) :
  Env P "(*roundhouse/yard.row[roundhouse/head.Note]).drop" [pv 0 2, iv k] [cw [pv 2 0, sv 3 0 n (n + m), gV 1 l.length o], gB l o, cr [], cr []]
   (fun v h' => v = .tuple #[] ∧ ∃ o', o'.isSome = true ∧ gOk (l.eraseIdx k.toNat) o' ∧ (h' = [cw [pv 2 0, sv 3 0 n (n + m), gV 1 (l.eraseIdx k.toNat).length o'], gB (l.eraseIdx k.toNat) o', cr [], cr []] ∨ h' = [cw [pv 2 0, sv 3 0 n (n + m), gV 4 (l.eraseIdx k.toNat).length o'], gB l o, cr [], cr [], gB (l.eraseIdx k.toNat) o'])) := by
 obtain ⟨i, rfl⟩ : ∃ i : Nat, k = (i : Nat) := ⟨k.toNat, by omega⟩
 have hi : i < l.length := by omega
 rw [show ((i : Nat) : Int).toNat = i from rfl]
 cases o with
 | none => have : l = [] := ho; subst this; simp at hi
 | some ct =>
 obtain ⟨c, t⟩ := ct
 have hlc := ho.1
 refine Env.by2 hc ?_
 unfold zbM
 show GC _ 4 _ _ ⟨reg [(0, pv 0 2), (1, iv (i : Nat))], [cw [pv 2 0, sv 3 0 n (n + m), sv 1 0 l.length c], cw (zbb l ++ t), cr [], cr []]⟩
 refine zdz [] (by kernel_rfl) (r_d 7 [(10, iv (i : Nat)), (9, iv (i : Nat)), (8, sv 1 0 l.length c), (7, pv 0 2), (6, pv 0 2), (5, pv 0 2), (4, pv 0 2)] (by kernel_rfl) (r_s (run_slc3 (v := (i : Nat)) (b := 1) (n := l.length) (c := c) rfl rfl rfl (by omega)) ?_))
 refine r_d 5 [(16, iv (i : Nat)), (15, sv 1 0 l.length c), (14, pv 0 2), (13, pv 0 2), (12, pv 0 2)] (by kernel_rfl) (r_s (by refine zaf (v := .int .i64 (i64.wrap ((i : Nat) + 1))) (congrArg (Value.int .i64) (w64 (by omega) (by omega))) ?_; kernel_rfl) ?_)
 refine r_s (run_slcHi (v := ((i : Nat) : Int) + 1) (b := 1) (n := l.length) (c := c) rfl rfl (by omega)) ?_
 have hlt : (l.take i).length = i := by simp; omega
 have hld : (l.drop (i + 1)).length = l.length - (i + 1) := by simp
 have hsum : (l.take i ++ l.drop (i + 1)).length = (l.eraseIdx i).length := by rw [zgn]
 refine r_app (app_g (l := l.take i) (xs := l.drop (i + 1)) (o := some (i, zbb (l.drop i) ++ t)) (k := 1) ?_ ?_ (gOk_cut ho hi) rfl ?_ ?_ (by rw [hlt, hld]; omega) (fun hx => ?_) (fun hx c' t' ht hg => ?_) (fun hx o' hs hg => ?_))
 ·rw [hlt]; rfl
 ·rw [← gB_cut (c := c)]; rfl
 ·rw [hld]; exact congrArg some (by omega)
 ·rw [hld]
  refine zbK (rw := true) (t := zbb l ++ t) rfl ?_ ?_
  ·by_cases hcc : c = (((i : Nat) : Int) + 1).toNat
   ·have h0 : l.length - (i + 1) = 0 := by omega
    have h1 : l.drop (i + 1) = [] := List.eq_nil_of_length_eq_zero (by rw [hld]; exact h0)
    rw [h0, h1]; simp [zbb]
   ·rw [if_neg hcc, ← hld]
    have : (((i : Nat) : Int) + 1).toNat = i + 1 := by omega
    rw [this]; exact nts_dropS (by omega)
  ·by_cases hcc : c = (((i : Nat) : Int) + 1).toNat
   ·rw [if_pos hcc, List.length_append, zbh]; omega
   ·rw [if_neg hcc, List.length_append, zbh]; omega
 ·refine r_b 3 [(21, pv 0 2), (20, pv 0 2)] [cw [pv 2 0, sv 3 0 n (n + m), gV 1 (l.take i).length (some (i, zbb (l.drop i) ++ t))], cw (zbb l ++ t), cr [], cr []] (by kernel_rfl) ?_
  refine zc6 ⟨trivial, _, .inl rfl, [], rfl, qA, rfl, some (i, zbb (l.drop i) ++ t), rfl, ?_, .inl ?_⟩
  ·rw [← zgn, hx, List.append_nil]; exact gOk_cut ho hi
  ·rw [← zgn, hx, List.append_nil, ← gB_cut (c := c)]; rfl
 ·exfalso
  have h2 := hg.1
  simp only [Option.some.injEq, Prod.mk.injEq] at ht
  rw [hsum, ← ht.1, ← zgn, List.length_append, hlt] at h2
  exact hx (List.eq_nil_of_length_eq_zero (by omega))
 ·cases o' with
  | none => cases hs
  | some ct =>
   refine r_b 3 [(21, pv 0 2), (20, pv 0 2)] [cw [pv 2 0, sv 3 0 n (n + m), gV 4 (l.take i ++ l.drop (i + 1)).length (some ct)], cw (zbb l ++ t), cr [], cr [], gB (l.take i ++ l.drop (i + 1)) (some ct)] (by kernel_rfl) (zc6 ⟨trivial, _, .inl rfl, [], rfl, qA, rfl, some ct, rfl, ?_, .inr ?_⟩)
   ·rw [← zgn]; exact hg
   ·rw [← zgn]; rfl
end Go.Rh

namespace Go.Rh
def u8 (l : List Int) : List Value := l.map fun x => .int .u8 (x % 256)
theorem u8_length (l : List Int) : (u8 l).length = l.length := by simp [u8]
theorem zgw (l : List Int) : (u8 l).all zbL = true := by
 refine List.all_eq_true.2 fun v hv => ?_
 obtain ⟨b, _, rfl⟩ := List.mem_map.1 hv; rfl
theorem u8_get {l : List Int} {i : Nat} (h : i < l.length) : zaw none (u8 l) i = some (.int .u8 (l.getD i 0 % 256)) := by
 simp [zaw, u8, List.getD_eq_getElem?_getD, h]
theorem u8_app (a b : List Int) : u8 a ++ u8 b = u8 (a ++ b) := by simp [u8]
theorem u8_rep (n : Nat) : (List.replicate n [(.int .u8 0 : Value)]).flatten = u8 (List.replicate n 0) := by
 induction n with
 | zero => rfl
 | succ n ih => simp only [List.replicate_succ, List.flatten_cons, ih]; rfl
def ze9 (q : Option (Nat × Nat)) (k n : Nat) : Value := match q with
 | none => .slice none 0 0
 | some (o, c) => .slice (some ⟨k, o, none⟩) n c
def zeI (q : Option (Nat × Nat)) (c : List Value) (rw : Bool) : Blk := match q with
 | none => .gone
 | some _ => .cells c rw
def qo (q : Option (Nat × Nat)) : Nat := match q with
 | none => 0
 | some (o, _) => o
structure RowOf (q : Option (Nat × Nat)) (L l : List Int) : Prop where
  nil : q = none → l.length = 0
  off : q ≠ none → qo q + l.length ≤ L.length
  at_ : q ≠ none → (L.drop (qo q)).take l.length = l
  cap : ∀ o c, q = some (o, c) → l.length ≤ c
theorem zhD {d : Option Nat} {x : Opd} {L : List (Nat × Value)} {hp : List Blk} {k n : Nat} {q : Option (Nat × Nat)} (hx : evf (reg L) x = ze9 q k n) (ho : q = none → n = 0) : zdE [⟨d, .lenS x, none⟩] ⟨reg L, hp⟩ = some ⟨zaD (reg L) d (.int .i64 (n : Nat)), hp⟩ := by
 refine zaQ (e := .no) rfl rfl ?_
 cases q with
 | none => simp [zS, hx, ze9, ho rfl]
 | some p => simp [zS, hx, ze9]
theorem run_iadRow {d : Option Nat} {x i : Opd} {L : List (Nat × Value)} {hp : List Blk} {k o' m : Nat} {q : Option (Nat × Nat)} {ik : IntKind} {n : Int} (hx : evf (reg L) x = ze9 q k m) (ho : q = none → m = 0) (hi : evf (reg L) i = .int ik n) (hn : 0 ≤ n ∧ n < m) (he : qo q + n.toNat = o') : zdE [⟨d, .iadS 1 x i, none⟩] ⟨reg L, hp⟩ = some ⟨zaD (reg L) d (.pointer (some ⟨k, o', none⟩)), hp⟩ := by
 cases q with
 | none => have := ho rfl; omega
 | some p => exact zf8 (o := p.1) hx hi hn (by simpa [qo] using he)
theorem hf_row {h : List Blk} {k n : Nat} {q : Option (Nat × Nat)} {c : List Value} {rw : Bool} (hk : h[k]? = some (zeI q c rw)) (ho : q = none → n = 0) (hn : 0 < n) : hf h k = some (.cells c rw) := by
 cases q with
 | none => have := ho rfl; omega
 | some p => exact zay.2 ⟨hk, by simp [zeI]⟩
theorem row_r {q : Option (Nat × Nat)} {L l : List Int} (hr : RowOf q L l) {i o : Nat} (hi : i < l.length) (ho : o = qo q + i) : zaw none (u8 L) o = some (.int .u8 (l.getD i 0 % 256)) := by
 have hq : q ≠ none := fun e => by have := hr.nil e; omega
 have h1 := hr.off hq
 subst ho
 rw [u8_get (by omega)]
 have : (L.drop (qo q)).getD i 0 = l.getD i 0 := by
  have h3 := congrArg (fun z : List Int => z[i]?) (hr.at_ hq)
  simp only [List.getElem?_take, if_pos hi] at h3
  rw [List.getD_eq_getElem?_getD, List.getD_eq_getElem?_getD, h3]
 rw [← this, List.getD_eq_getElem?_getD, List.getD_eq_getElem?_getD, List.getElem?_drop]
theorem row_slc {q : Option (Nat × Nat)} {L l : List Int} {k : Nat} (hr : RowOf q L l) {lo hi mx : Option Value} (a b : Nat) (hab : a ≤ b ∧ b ≤ l.length) (hlo : (lo = none ∧ a = 0) ∨ lo = some (iv (a : Nat))) (hhi : (hi = none ∧ b = l.length ∧ mx = none) ∨ hi = some (iv (b : Nat))) (hmx : mx = none ∨ mx = some (iv (b : Nat))) :
  ∃ (q' : Option (Nat × Nat)) (l' : List Int), l' = (l.drop a).take (b - a) ∧ l'.length = b - a ∧ slcV 1 (ze9 q k l.length) lo hi mx = some (ze9 q' k l'.length) ∧ RowOf q' L l' ∧ q'.isSome = q.isSome := by
 have hln : ((l.drop a).take (b - a)).length = b - a := by simp; omega
 have bn : ∀ (y i : Nat), i ≤ y → bnd y (iv (i : Nat)) = some i := fun y i h => by simp [bnd]; omega
 cases q with
 | none =>
  have h0 := hr.nil rfl
  have ha : a = 0 := by omega
  have hb : b = 0 := by omega
  subst ha; subst hb
  refine ⟨none, _, rfl, hln, ?_, ⟨fun _ => hln, fun e => absurd rfl e, fun e => absurd rfl e, (fun o c e => by cases e)⟩, rfl⟩
  show slcV 1 (.slice none 0 0) lo hi mx = some (.slice none 0 0)
  rcases hmx with rfl | rfl <;> rcases hlo with ⟨rfl, _⟩ | rfl <;> rcases hhi with ⟨rfl, _, hz⟩ | rfl <;> first | rfl | (cases hz)
 | some p =>
  obtain ⟨o, c⟩ := p
  have hc := hr.cap o c rfl
  have h1 := hr.off (by simp)
  have h2 := hr.at_ (by simp)
  simp only [qo] at h1 h2
  have key : ∀ m, b ≤ m → m ≤ c → bnds l.length c lo hi mx = some (a, b, m) → ∃ (q' : Option (Nat × Nat)) (l' : List Int), l' = (l.drop a).take (b - a) ∧ l'.length = b - a ∧ slcV 1 (ze9 (some (o, c)) k l.length) lo hi mx = some (ze9 q' k l'.length) ∧ RowOf q' L l' ∧ q'.isSome = (some (o, c)).isSome := by
   intro m hm1 hm2 hb
   refine ⟨some (if m = a then o else o + a * 1, m - a), _, rfl, hln, ?_, ⟨(fun e => by cases e), fun _ => ?_, fun _ => ?_, fun o' c' e => ?_⟩, rfl⟩
   ·simp only [ze9, slcV, hb, hln]
    split <;> rfl
   ·rw [hln]; simp only [qo]; split <;> omega
   ·rw [hln]
    simp only [qo]
    split
    ·rename_i hma
     have : b - a = 0 := by omega
     rw [this]; simp
    ·have h4 : l.drop a = (L.drop (o + a)).take (l.length - a) := by
      conv => lhs; rw [← h2]
      rw [List.drop_take, List.drop_drop]
     rw [Nat.mul_one, h4, List.take_take, show min (b - a) (l.length - a) = b - a by omega]
   ·cases e; rw [hln]; omega
  have e3 : (match (generalizing := false) lo with | some v => bnd b v | none => some 0) = some a := by
   rcases hlo with ⟨rfl, rfl⟩ | rfl
   ·rfl
   ·exact bn b a hab.1
  rcases hmx with rfl | rfl
  ·refine key c (by omega) (Nat.le_refl _) ?_
   rcases hhi with ⟨rfl, rfl, _⟩ | rfl
   ·show (match (generalizing := false) (match (generalizing := false) lo with | some v => bnd l.length v | none => some 0) with | none => none | some l' => some (l', l.length, c)) = _
    rw [e3]
   ·show (match (generalizing := false) bnd c (iv (b : Nat)) with | none => none | some h => match (generalizing := false) (match (generalizing := false) lo with | some v => bnd h v | none => some 0) with | none => none | some l' => some (l', h, c)) = _
    rw [bn c b (by omega)]
    show (match (generalizing := false) (match (generalizing := false) lo with | some v => bnd b v | none => some 0) with | none => none | some l' => some (l', b, c)) = _
    rw [e3]
  ·refine key b (Nat.le_refl _) (by omega) ?_
   rcases hhi with ⟨_, _, hz⟩ | rfl
   ·cases hz
   ·show (match (generalizing := false) bnd c (iv (b : Nat)) with | none => none | some m => match (generalizing := false) bnd m (iv (b : Nat)) with | none => none | some h => match (generalizing := false) (match (generalizing := false) lo with | some v => bnd h v | none => some 0) with | none => none | some l' => some (l', h, m)) = _
    rw [bn c b (by omega)]
    show (match (generalizing := false) bnd b (iv (b : Nat)) with | none => none | some h => match (generalizing := false) (match (generalizing := false) lo with | some v => bnd h v | none => some 0) with | none => none | some l' => some (l', h, b)) = _
    rw [bn b b (Nat.le_refl _)]
    show (match (generalizing := false) (match (generalizing := false) lo with | some v => bnd b v | none => some 0) with | none => none | some l' => some (l', b, b)) = _
    rw [e3]
theorem zjS {d : Option Nat} {x : Opd} {lo hi mx : Option Opd} {L : List (Nat × Value)} {hp : List Blk} {v w : Value} (hx : evf (reg L) x = v) (h : slcV 1 v (lo.map (evf (reg L))) (hi.map (evf (reg L))) (mx.map (evf (reg L))) = some w) : zdE [⟨d, .slcS 1 x lo hi mx, none⟩] ⟨reg L, hp⟩ = some ⟨zaD (reg L) d w, hp⟩ := by
 refine zaQ (e := .no) rfl rfl ?_
 simp only [zS, hx, h]
theorem ren_rowB {ρ : Nat → Nat} {q : Option (Nat × Nat)} {c : List Value} {rw : Bool} (h : c.all zbL = true) : za5 ρ (zeI q c rw) = zeI q c rw := by
 cases q with
 | none => rfl
 | some p => exact zby h
theorem zga {ρ : Nat → Nat} {q : Option (Nat × Nat)} {c : List Value} {rw : Bool} (h : c.all zbL = true) : some (zeI q c rw) = some (za5 ρ (zeI q c rw)) := by rw [ren_rowB h]
theorem ziJ {ρ : Nat → Nat} {q q' : Option (Nat × Nat)} {c : List Value} {rw rw' : Bool} (h : c.all zbL = true) (hs : q'.isSome = q.isSome) (hr : rw = true → rw' = true) : Blk.sees (za5 ρ (zeI q' c rw)) (zeI q c rw') := by
 rw [ren_rowB h]
 cases q <;> cases q' <;> first | exact .inr ⟨rfl, rfl⟩ | exact .inl ⟨rfl, hr⟩ | (cases hs)
theorem zde {ρ : Nat → Nat} {q : Option (Nat × Nat)} {k k' n : Nat} (h : ρ k = k') : zbF ρ (ze9 q k n) = ze9 q k' n := by
 subst h; cases q <;> rfl
end Go.Rh

namespace Go.Rh
theorem wrap_u64 {x : Int} (h : 0 ≤ x ∧ x < 18446744073709551616) : IntKind.u64.wrap x = x := by show x % 18446744073709551616 = x; omega
theorem hf_row2 {h : List Blk} {k n : Nat} {q q' : Option (Nat × Nat)} {c : List Value} {rw : Bool} (hk : h[k]? = some (zeI q c rw)) (hs : q'.isSome = q.isSome) (ho : q' = none → n = 0) (hn : 0 < n) : hf h k = some (.cells c rw) :=
 hf_row (n := n) hk (fun e => by subst e; cases q' with | none => exact ho rfl | some p => cases hs) hn
end Go.Rh

namespace Go.Rh
def zB : List Value := [.int .u8 0]
theorem room_zB (m : Nat) : zbt zB m = u8 (List.replicate m 0) := u8_rep m
theorem ziD (l : List Int) (m : Nat) : (u8 l ++ zbt zB m).all zbL = true := by rw [room_zB, u8_app]; exact zgw _
theorem u8_len (l : List Int) : (u8 l).length = l.length * 1 := by rw [u8_length, Nat.mul_one]
theorem run_mks0 {d : Option Nat} {z : RL} {size bytes n : Nat} {ik : IntKind} {v : Int} {l c : Opd} {L : List (Nat × Value)} {hp : List Blk} {zl : List Value} (hz : qT z = zl) (hl : evf (reg L) l = iv 0) (hc : evf (reg L) c = .int ik v) (hv : 0 ≤ v ∧ v ≤ 1000000) (hn : v.toNat = n) (hb : bytes ≤ 1000) :
  zdE [⟨d, .mks z size bytes l c, none⟩] ⟨reg L, hp⟩ = some ⟨zaD (reg L) d (sv hp.length 0 0 (0 + n)), hp ++ [cw ([] ++ zbt zl n)]⟩ := by
 have h1 : (bytes : Int) * v ≤ 1000 * 1000000 := Int.mul_le_mul (by omega) hv.2 hv.1 (by omega)
 refine zaQ (e := .push (cw ([] ++ zbt zl n))) (v := sv hp.length 0 0 (0 + n)) rfl rfl ?_
 subst hn
 simp only [zS, hl, hc, iv]
 rw [if_pos ⟨by omega, hv.1, by omega, by omega⟩, hz]
 simp [sv, zbt]
def qsl (n : Nat) (o : Option Nat) : Option (Nat × Nat) := match o with
 | none => none
 | some m => some (0, n + m)
theorem rowV_qsl (k n : Nat) (o : Option Nat) : ze9 (qsl n o) k n = slV k n o := by cases o <;> rfl
theorem rowB_qsl {n : Nat} {l : List Int} (o : Option Nat) : zeI (qsl n o) (u8 (l ++ List.replicate (o.getD 0) 0)) true = slB zB (u8 l) o := by
 cases o with
 | none => rfl
 | some m => simp [zeI, qsl, slB, room_zB, u8_app]
theorem row_qsl {l : List Int} {n : Nat} {o : Option Nat} (ho : o = none → l.length = 0) (hn : n = l.length) : RowOf (qsl n o) (l ++ List.replicate (o.getD 0) 0) l := by
 subst hn
 cases o with
 | none => exact ⟨fun _ => ho rfl, fun q => absurd rfl q, fun q => absurd rfl q, (fun o c q => by cases q)⟩
 | some m => exact ⟨(fun q => by cases q), (fun _ => by simp [qsl, qo]), (fun _ => by simp [qsl, qo]), (fun o c q => by cases q; omega)⟩
theorem sees_qsl {ρ : Nat → Nat} {n : Nat} {l : List Int} {rw : Bool} (o : Option Nat) : Blk.sees (za5 ρ (zeI (qsl n o) (u8 (l ++ List.replicate (o.getD 0) 0)) rw)) (slB zB (u8 l) o) := by
 rw [← rowB_qsl (n := n) o]; exact ziJ (zgw _) rfl (fun _ => rfl)
theorem renV_qsl {ρ : Nat → Nat} {k k' n m : Nat} (o : Option Nat) (h : ρ k = k') (hn : n = m) : zbF ρ (ze9 (qsl n o) k m) = slV k' n o := by
 subst hn; rw [zde h, rowV_qsl]
theorem u8_app1 {l : List Int} {v w : Int} (h : v % 256 = w) : u8 l ++ [.int .u8 w] = u8 (l ++ [v]) := by subst h; simp [u8]
theorem over_row {ρ : Nat → Nat} {k : Nat} {ss : List Nat} {bs : List Blk} {q q' : Option (Nat × Nat)} {c c2 : List Value} {rw : Bool} (hs : q'.isSome = q.isSome) (hn : zeX k ss bs = none) : (match zeX k (k :: ss) (zeI q' c false :: bs) with
  | some b' => za5 ρ b'
  | none => zeI q c2 rw) = zeI q c2 rw := by
 cases q' <;> cases q <;> first | (cases hs; done) | (simp [zeX, zeI, Blk.rw, hn, za5])
theorem over_qsl {ρ : Nat → Nat} {k n : Nat} {ss : List Nat} {bs : List Blk} {c z cs : List Value} {o : Option Nat} (hn : zeX k ss bs = none) : (match zeX k (k :: ss) (zeI (qsl n o) c false :: bs) with
  | some b' => za5 ρ b'
  | none => slB z cs o) = slB z cs o := by
 cases o <;> simp [zeX, zeI, qsl, slB, Blk.rw, hn, za5]
end Go.Rh

set_option maxHeartbeats 8000000
namespace Go.Rh
def zav : IFunc := ⟨17, [.tmp 4], (.seq (.reg [kq 4 (.mv (.c (.int .u64 0)))]) (.seq (.reg [km 6 1, kq 7 (.cvi .u64 (.t 6)), kq 8 (.bin .and (.t 7) (.c (.int .u64 63))), km 5 8]) (.seq (.reg [km 9 0, km 10 5, kq 11 (.bin .shl (.t 9) (.t 10)), km 12 0, km 13 5, kq 14 (.bin .sub (.c (.int .u64 64)) (.t 13)), kq 15 (.bin .shr (.t 12) (.t 14)), kq 16 (.bin .or (.t 11) (.t 15)), km 4 16]) .ret)))⟩
abbrev zY (P : Program) : Prop := z6 P "math/bits.RotateLeft64" = some zav
def zdB : IFunc := ⟨114, [], (.seq (.dreg [km 2 0, kq 3 (.nilc (.t 2)), kq 4 (.fad 0 (.t 3)), kq 5 (.ld none (.t 4)), km 6 0, kq 7 (.nilc (.t 6)), kq 8 (.fad 1 (.t 7)), kq 9 (.ld none (.t 8)), kq 10 (.bin .add (.t 5) (.t 9)), kq 11 (.nilc (.t 2)), kq 12 (.fad 0 (.t 11)), ku (.st 1 (.t 12) (.t 10))] [[], [0], [1, 0], [2, 1, 0], [], [4], [5, 4], [6, 5, 4], [3, 2, 1, 0, 7, 6, 5, 4], [0, 1, 2, 3, 4, 5, 6, 7, 8], [9, 0, 1, 2, 3, 4, 5, 6, 7, 8], [10, 9, 0, 1, 2, 3, 4, 5, 6, 7, 8]]) (.seq (.dreg [km 13 0, km 14 0, kq 15 (.nilc (.t 14)), kq 16 (.fad 1 (.t 15)), kq 17 (.ld none (.t 16)), kq 18 (.call "math/bits.RotateLeft64" [(.t 17), (ki 13)]), km 19 0, kq 20 (.nilc (.t 19)), kq 21 (.fad 0 (.t 20)), kq 22 (.ld none (.t 21)), kq 23 (.bin .xor (.t 18) (.t 22)), kq 24 (.nilc (.t 13)), kq 25 (.fad 1 (.t 24)), ku (.st 1 (.t 25) (.t 23))] [[], [], [1], [2, 1], [3, 2, 1], [4, 3, 2, 1], [], [6], [7, 6], [8, 7, 6], [5, 4, 3, 2, 1, 9, 8, 7, 6], [0, 1, 2, 3, 4, 5, 6, 7, 8, 9, 10], [11, 0, 1, 2, 3, 4, 5, 6, 7, 8, 9, 10], [12, 11, 0, 1, 2, 3, 4, 5, 6, 7, 8, 9, 10]]) (.seq (.reg [km 26 0, km 27 0, kq 28 (.nilc (.t 27)), kq 29 (.fad 0 (.t 28)), kq 30 (.ld none (.t 29)), kq 31 (.call "math/bits.RotateLeft64" [(.t 30), (ki 32)]), kq 32 (.nilc (.t 26)), kq 33 (.fad 0 (.t 32)), ku (.st 1 (.t 33) (.t 31))]) (.seq (.dreg [km 34 0, kq 35 (.nilc (.t 34)), kq 36 (.fad 2 (.t 35)), kq 37 (.ld none (.t 36)), km 38 0, kq 39 (.nilc (.t 38)), kq 40 (.fad 3 (.t 39)), kq 41 (.ld none (.t 40)), kq 42 (.bin .add (.t 37) (.t 41)), kq 43 (.nilc (.t 34)), kq 44 (.fad 2 (.t 43)), ku (.st 1 (.t 44) (.t 42))] [[], [0], [1, 0], [2, 1, 0], [], [4], [5, 4], [6, 5, 4], [3, 2, 1, 0, 7, 6, 5, 4], [0, 1, 2, 3, 4, 5, 6, 7, 8], [9, 0, 1, 2, 3, 4, 5, 6, 7, 8], [10, 9, 0, 1, 2, 3, 4, 5, 6, 7, 8]]) (.seq (.dreg [km 45 0, km 46 0, kq 47 (.nilc (.t 46)), kq 48 (.fad 3 (.t 47)), kq 49 (.ld none (.t 48)), kq 50 (.call "math/bits.RotateLeft64" [(.t 49), (ki 16)]), km 51 0, kq 52 (.nilc (.t 51)), kq 53 (.fad 2 (.t 52)), kq 54 (.ld none (.t 53)), kq 55 (.bin .xor (.t 50) (.t 54)), kq 56 (.nilc (.t 45)), kq 57 (.fad 3 (.t 56)), ku (.st 1 (.t 57) (.t 55))] [[], [], [1], [2, 1], [3, 2, 1], [4, 3, 2, 1], [], [6], [7, 6], [8, 7, 6], [5, 4, 3, 2, 1, 9, 8, 7, 6], [0, 1, 2, 3, 4, 5, 6, 7, 8, 9, 10], [11, 0, 1, 2, 3, 4, 5, 6, 7, 8, 9, 10], [12, 11, 0, 1, 2, 3, 4, 5, 6, 7, 8, 9, 10]]) (.seq (.dreg [km 58 0, kq 59 (.nilc (.t 58)), kq 60 (.fad 0 (.t 59)), kq 61 (.ld none (.t 60)), km 62 0, kq 63 (.nilc (.t 62)), kq 64 (.fad 3 (.t 63)), kq 65 (.ld none (.t 64)), kq 66 (.bin .add (.t 61) (.t 65)), kq 67 (.nilc (.t 58)), kq 68 (.fad 0 (.t 67)), ku (.st 1 (.t 68) (.t 66))] [[], [0], [1, 0], [2, 1, 0], [], [4], [5, 4], [6, 5, 4], [3, 2, 1, 0, 7, 6, 5, 4], [0, 1, 2, 3, 4, 5, 6, 7, 8], [9, 0, 1, 2, 3, 4, 5, 6, 7, 8], [10, 9, 0, 1, 2, 3, 4, 5, 6, 7, 8]]) (.seq (.dreg [km 69 0, km 70 0, kq 71 (.nilc (.t 70)), kq 72 (.fad 3 (.t 71)), kq 73 (.ld none (.t 72)), kq 74 (.call "math/bits.RotateLeft64" [(.t 73), (ki 21)]), km 75 0, kq 76 (.nilc (.t 75)), kq 77 (.fad 0 (.t 76)), kq 78 (.ld none (.t 77)), kq 79 (.bin .xor (.t 74) (.t 78)), kq 80 (.nilc (.t 69)), kq 81 (.fad 3 (.t 80)), ku (.st 1 (.t 81) (.t 79))] [[], [], [1], [2, 1], [3, 2, 1], [4, 3, 2, 1], [], [6], [7, 6], [8, 7, 6], [5, 4, 3, 2, 1, 9, 8, 7, 6], [0, 1, 2, 3, 4, 5, 6, 7, 8, 9, 10], [11, 0, 1, 2, 3, 4, 5, 6, 7, 8, 9, 10], [12, 11, 0, 1, 2, 3, 4, 5, 6, 7, 8, 9, 10]]) (.seq (.dreg [km 82 0, kq 83 (.nilc (.t 82)), kq 84 (.fad 2 (.t 83)), kq 85 (.ld none (.t 84)), km 86 0, kq 87 (.nilc (.t 86)), kq 88 (.fad 1 (.t 87)), kq 89 (.ld none (.t 88)), kq 90 (.bin .add (.t 85) (.t 89)), kq 91 (.nilc (.t 82)), kq 92 (.fad 2 (.t 91)), ku (.st 1 (.t 92) (.t 90))] [[], [0], [1, 0], [2, 1, 0], [], [4], [5, 4], [6, 5, 4], [3, 2, 1, 0, 7, 6, 5, 4], [0, 1, 2, 3, 4, 5, 6, 7, 8], [9, 0, 1, 2, 3, 4, 5, 6, 7, 8], [10, 9, 0, 1, 2, 3, 4, 5, 6, 7, 8]]) (.seq (.dreg [km 93 0, km 94 0, kq 95 (.nilc (.t 94)), kq 96 (.fad 1 (.t 95)), kq 97 (.ld none (.t 96)), kq 98 (.call "math/bits.RotateLeft64" [(.t 97), (ki 17)]), km 99 0, kq 100 (.nilc (.t 99)), kq 101 (.fad 2 (.t 100)), kq 102 (.ld none (.t 101)), kq 103 (.bin .xor (.t 98) (.t 102)), kq 104 (.nilc (.t 93)), kq 105 (.fad 1 (.t 104)), ku (.st 1 (.t 105) (.t 103))] [[], [], [1], [2, 1], [3, 2, 1], [4, 3, 2, 1], [], [6], [7, 6], [8, 7, 6], [5, 4, 3, 2, 1, 9, 8, 7, 6], [0, 1, 2, 3, 4, 5, 6, 7, 8, 9, 10], [11, 0, 1, 2, 3, 4, 5, 6, 7, 8, 9, 10], [12, 11, 0, 1, 2, 3, 4, 5, 6, 7, 8, 9, 10]]) (.reg [km 106 0, km 107 0, kq 108 (.nilc (.t 107)), kq 109 (.fad 2 (.t 108)), kq 110 (.ld none (.t 109)), kq 111 (.call "math/bits.RotateLeft64" [(.t 110), (ki 32)]), kq 112 (.nilc (.t 106)), kq 113 (.fad 2 (.t 112)), ku (.st 1 (.t 113) (.t 111))]))))))))))⟩
abbrev qW (P : Program) : Prop := z6 P "(*roundhouse/sip.state).round" = some zdB
def xo (a b : Int) : Int := IntKind.u64.wrap ((BitVec.ofInt 64 a ^^^ BitVec.ofInt 64 b).toNat)
def ad (a b : Int) : Int := IntKind.u64.wrap (a + b)
def oo (a b : Int) : Int := IntKind.u64.wrap ((BitVec.ofInt 64 a ||| BitVec.ofInt 64 b).toNat)
def sl (a b : Int) : Int := IntKind.u64.wrap (a * 2 ^ (min b.toNat 64))
def zdO (R Q x : Int) : Int := IntKind.u64.wrap ((BitVec.ofInt 64 (IntKind.u64.wrap (x * R)) ||| BitVec.ofInt 64 (x.fdiv Q)).toNat)
structure Q4 where
  (a b c d : Int)
def q4L (q : Q4) : List Value := [uv q.a, uv q.b, uv q.c, uv q.d]
def rs1 (q : Q4) : Q4 := ⟨ad q.a q.b, q.b, q.c, q.d⟩
def rs2 (q : Q4) : Q4 := let x := rs1 q; ⟨x.a, xo (zdO 8192 2251799813685248 x.b) x.a, x.c, x.d⟩
def rs3 (q : Q4) : Q4 := let x := rs2 q; ⟨zdO 4294967296 4294967296 x.a, x.b, x.c, x.d⟩
def rs4 (q : Q4) : Q4 := let x := rs3 q; ⟨x.a, x.b, ad x.c x.d, x.d⟩
def rs5 (q : Q4) : Q4 := let x := rs4 q; ⟨x.a, x.b, x.c, xo (zdO 65536 281474976710656 x.d) x.c⟩
def rs6 (q : Q4) : Q4 := let x := rs5 q; ⟨ad x.a x.d, x.b, x.c, x.d⟩
def rs7 (q : Q4) : Q4 := let x := rs6 q; ⟨x.a, x.b, x.c, xo (zdO 2097152 8796093022208 x.d) x.a⟩
def rs8 (q : Q4) : Q4 := let x := rs7 q; ⟨x.a, x.b, ad x.c x.b, x.d⟩
def rs9 (q : Q4) : Q4 := let x := rs8 q; ⟨x.a, xo (zdO 131072 140737488355328 x.b) x.c, x.c, x.d⟩
def rs10 (q : Q4) : Q4 := let x := rs9 q; ⟨x.a, x.b, zdO 4294967296 4294967296 x.c, x.d⟩
theorem rot13C {P : Program} (hc : zY P) (x : Int) :
    Env P "math/bits.RotateLeft64" [uv x, iv 13] ([]) (Ans (uv (zdO 8192 2251799813685248 x)) ([])) := by
 refine Env.by hc ?_
 unfold zav
 show GC _ 0 _ _ ⟨reg [(0, uv x), (1, iv 13)], []⟩
 refine zR (zV (o_d 1 [(4, uv 0)] (by kernel_rfl) (zG (zC (zR (zV (o_d 4 [(5, uv 13), (8, uv 13), (7, uv 13), (6, iv 13)] (by kernel_rfl) (zG (zC (zR (zV (o_d 9 [(4, uv (IntKind.u64.wrap ((BitVec.ofInt 64 (IntKind.u64.wrap (x * 8192)) ||| BitVec.ofInt 64 (x.fdiv 2251799813685248)).toNat))), (16, uv (IntKind.u64.wrap ((BitVec.ofInt 64 (IntKind.u64.wrap (x * 8192)) ||| BitVec.ofInt 64 (x.fdiv 2251799813685248)).toNat))), (15, uv (x.fdiv 2251799813685248)), (14, uv 51), (13, uv 13), (12, uv x), (11, uv (IntKind.u64.wrap (x * 8192))), (10, uv 13), (9, uv x)] (by kernel_rfl) ?_))))))))))))
 refine zG (zC (zaZ ?_))
 have E0_ : zdO 8192 2251799813685248 x = IntKind.u64.wrap ((BitVec.ofInt 64 (IntKind.u64.wrap (x * 8192)) ||| BitVec.ofInt 64 (x.fdiv 2251799813685248)).toNat) := by
  rfl
 exact qH [uv (IntKind.u64.wrap ((BitVec.ofInt 64 (IntKind.u64.wrap (x * 8192)) ||| BitVec.ofInt 64 (x.fdiv 2251799813685248)).toNat))] (qE rfl rfl) rfl (by rw [E0_]; rfl) rfl rfl
theorem rot32C {P : Program} (hc : zY P) (x : Int) :
    Env P "math/bits.RotateLeft64" [uv x, iv 32] ([]) (Ans (uv (zdO 4294967296 4294967296 x)) ([])) := by
 refine Env.by hc ?_
 unfold zav
 show GC _ 0 _ _ ⟨reg [(0, uv x), (1, iv 32)], []⟩
 refine zR (zV (o_d 1 [(4, uv 0)] (by kernel_rfl) (zG (zC (zR (zV (o_d 4 [(5, uv 32), (8, uv 32), (7, uv 32), (6, iv 32)] (by kernel_rfl) (zG (zC (zR (zV (o_d 9 [(4, uv (IntKind.u64.wrap ((BitVec.ofInt 64 (IntKind.u64.wrap (x * 4294967296)) ||| BitVec.ofInt 64 (x.fdiv 4294967296)).toNat))), (16, uv (IntKind.u64.wrap ((BitVec.ofInt 64 (IntKind.u64.wrap (x * 4294967296)) ||| BitVec.ofInt 64 (x.fdiv 4294967296)).toNat))), (15, uv (x.fdiv 4294967296)), (14, uv 32), (13, uv 32), (12, uv x), (11, uv (IntKind.u64.wrap (x * 4294967296))), (10, uv 32), (9, uv x)] (by kernel_rfl) ?_))))))))))))
 refine zG (zC (zaZ ?_))
 have E0_ : zdO 4294967296 4294967296 x = IntKind.u64.wrap ((BitVec.ofInt 64 (IntKind.u64.wrap (x * 4294967296)) ||| BitVec.ofInt 64 (x.fdiv 4294967296)).toNat) := by
  rfl
 exact qH [uv (IntKind.u64.wrap ((BitVec.ofInt 64 (IntKind.u64.wrap (x * 4294967296)) ||| BitVec.ofInt 64 (x.fdiv 4294967296)).toNat))] (qE rfl rfl) rfl (by rw [E0_]; rfl) rfl rfl
theorem rot16C {P : Program} (hc : zY P) (x : Int) :
    Env P "math/bits.RotateLeft64" [uv x, iv 16] ([]) (Ans (uv (zdO 65536 281474976710656 x)) ([])) := by
 refine Env.by hc ?_
 unfold zav
 show GC _ 0 _ _ ⟨reg [(0, uv x), (1, iv 16)], []⟩
 refine zR (zV (o_d 1 [(4, uv 0)] (by kernel_rfl) (zG (zC (zR (zV (o_d 4 [(5, uv 16), (8, uv 16), (7, uv 16), (6, iv 16)] (by kernel_rfl) (zG (zC (zR (zV (o_d 9 [(4, uv (IntKind.u64.wrap ((BitVec.ofInt 64 (IntKind.u64.wrap (x * 65536)) ||| BitVec.ofInt 64 (x.fdiv 281474976710656)).toNat))), (16, uv (IntKind.u64.wrap ((BitVec.ofInt 64 (IntKind.u64.wrap (x * 65536)) ||| BitVec.ofInt 64 (x.fdiv 281474976710656)).toNat))), (15, uv (x.fdiv 281474976710656)), (14, uv 48), (13, uv 16), (12, uv x), (11, uv (IntKind.u64.wrap (x * 65536))), (10, uv 16), (9, uv x)] (by kernel_rfl) ?_))))))))))))
 refine zG (zC (zaZ ?_))
 have E0_ : zdO 65536 281474976710656 x = IntKind.u64.wrap ((BitVec.ofInt 64 (IntKind.u64.wrap (x * 65536)) ||| BitVec.ofInt 64 (x.fdiv 281474976710656)).toNat) := by
  rfl
 exact qH [uv (IntKind.u64.wrap ((BitVec.ofInt 64 (IntKind.u64.wrap (x * 65536)) ||| BitVec.ofInt 64 (x.fdiv 281474976710656)).toNat))] (qE rfl rfl) rfl (by rw [E0_]; rfl) rfl rfl
theorem rot21C {P : Program} (hc : zY P) (x : Int) :
    Env P "math/bits.RotateLeft64" [uv x, iv 21] ([]) (Ans (uv (zdO 2097152 8796093022208 x)) ([])) := by
 refine Env.by hc ?_
 unfold zav
 show GC _ 0 _ _ ⟨reg [(0, uv x), (1, iv 21)], []⟩
 refine zR (zV (o_d 1 [(4, uv 0)] (by kernel_rfl) (zG (zC (zR (zV (o_d 4 [(5, uv 21), (8, uv 21), (7, uv 21), (6, iv 21)] (by kernel_rfl) (zG (zC (zR (zV (o_d 9 [(4, uv (IntKind.u64.wrap ((BitVec.ofInt 64 (IntKind.u64.wrap (x * 2097152)) ||| BitVec.ofInt 64 (x.fdiv 8796093022208)).toNat))), (16, uv (IntKind.u64.wrap ((BitVec.ofInt 64 (IntKind.u64.wrap (x * 2097152)) ||| BitVec.ofInt 64 (x.fdiv 8796093022208)).toNat))), (15, uv (x.fdiv 8796093022208)), (14, uv 43), (13, uv 21), (12, uv x), (11, uv (IntKind.u64.wrap (x * 2097152))), (10, uv 21), (9, uv x)] (by kernel_rfl) ?_))))))))))))
 refine zG (zC (zaZ ?_))
 have E0_ : zdO 2097152 8796093022208 x = IntKind.u64.wrap ((BitVec.ofInt 64 (IntKind.u64.wrap (x * 2097152)) ||| BitVec.ofInt 64 (x.fdiv 8796093022208)).toNat) := by
  rfl
 exact qH [uv (IntKind.u64.wrap ((BitVec.ofInt 64 (IntKind.u64.wrap (x * 2097152)) ||| BitVec.ofInt 64 (x.fdiv 8796093022208)).toNat))] (qE rfl rfl) rfl (by rw [E0_]; rfl) rfl rfl
theorem rot17C {P : Program} (hc : zY P) (x : Int) :
    Env P "math/bits.RotateLeft64" [uv x, iv 17] ([]) (Ans (uv (zdO 131072 140737488355328 x)) ([])) := by
 refine Env.by hc ?_
 unfold zav
 show GC _ 0 _ _ ⟨reg [(0, uv x), (1, iv 17)], []⟩
 refine zR (zV (o_d 1 [(4, uv 0)] (by kernel_rfl) (zG (zC (zR (zV (o_d 4 [(5, uv 17), (8, uv 17), (7, uv 17), (6, iv 17)] (by kernel_rfl) (zG (zC (zR (zV (o_d 9 [(4, uv (IntKind.u64.wrap ((BitVec.ofInt 64 (IntKind.u64.wrap (x * 131072)) ||| BitVec.ofInt 64 (x.fdiv 140737488355328)).toNat))), (16, uv (IntKind.u64.wrap ((BitVec.ofInt 64 (IntKind.u64.wrap (x * 131072)) ||| BitVec.ofInt 64 (x.fdiv 140737488355328)).toNat))), (15, uv (x.fdiv 140737488355328)), (14, uv 47), (13, uv 17), (12, uv x), (11, uv (IntKind.u64.wrap (x * 131072))), (10, uv 17), (9, uv x)] (by kernel_rfl) ?_))))))))))))
 refine zG (zC (zaZ ?_))
 have E0_ : zdO 131072 140737488355328 x = IntKind.u64.wrap ((BitVec.ofInt 64 (IntKind.u64.wrap (x * 131072)) ||| BitVec.ofInt 64 (x.fdiv 140737488355328)).toNat) := by
  rfl
 exact qH [uv (IntKind.u64.wrap ((BitVec.ofInt 64 (IntKind.u64.wrap (x * 131072)) ||| BitVec.ofInt 64 (x.fdiv 140737488355328)).toNat))] (qE rfl rfl) rfl (by rw [E0_]; rfl) rfl rfl
theorem roundC {P : Program} (hc : qW P) (h_math_bits_RotateLeft64 : zY P) (q : Q4) :
    Env P "(*roundhouse/sip.state).round" [pv 0 0] ([cw [uv q.a, uv q.b, uv q.c, uv q.d]]) (fun v h' => v = .tuple #[] ∧ h' = [cw (q4L (rs10 q))]) := by
 refine Env.by2 hc ?_
 unfold zdB
 show GC _ 1 _ _ ⟨reg [(0, pv 0 0)], [cw [uv q.a, uv q.b, uv q.c, uv q.d]]⟩
 refine gcut (fun s => ∃ (x : Q4), 0 = 0 ∧ (x = rs1 q) ∧ s = ⟨reg [(0, pv 0 0)], [cw [uv x.a, uv x.b, uv x.c, uv x.d]]⟩) ?_ ?_
 ·skip
  refine zdz ["math/bits.RotateLeft64"] (by kernel_rfl) (r_b 12 [(12, pv 0 0), (11, pv 0 0), (10, uv (ad q.a q.b)), (9, uv q.b), (8, pv 0 1), (7, pv 0 0), (6, pv 0 0), (5, uv q.a), (4, pv 0 0), (3, pv 0 0), (2, pv 0 0)] [cw [uv (ad q.a q.b), uv q.b, uv q.c, uv q.d]] (by kernel_rfl) (zc6 (⟨⟨reg [(0, pv 0 0)], [cw [uv (Q4.mk (ad q.a q.b) q.b q.c q.d).a, uv (Q4.mk (ad q.a q.b) q.b q.c q.d).b, uv (Q4.mk (ad q.a q.b) q.b q.c q.d).c, uv (Q4.mk (ad q.a q.b) q.b q.c q.d).d]]⟩, ?_⟩)))
  refine ⟨?_, ?_⟩
  ·exact Wk.ren [0] rfl rfl (by decide) ⟨rfl, trivial⟩ ⟨.inl rfl, trivial⟩
  ·exact ⟨(Q4.mk (ad q.a q.b) q.b q.c q.d), rfl, rfl, rfl⟩
 rintro s ⟨x, -, hx, rfl⟩
 refine gcut (fun s => ∃ (x : Q4), 0 = 0 ∧ (x = rs2 q) ∧ s = ⟨reg [(0, pv 0 0)], [cw [uv x.a, uv x.b, uv x.c, uv x.d]]⟩) ?_ ?_
 ·skip
  refine zdz ["math/bits.RotateLeft64"] (by kernel_rfl) (r_d 5 [(17, uv x.b), (16, pv 0 1), (15, pv 0 0), (14, pv 0 0), (13, pv 0 0)] (by kernel_rfl) (r_cl (zhl (rot13C h_math_bits_RotateLeft64 x.b) rfl rfl rfl (r_b 8 [(25, pv 0 1), (24, pv 0 0), (23, uv (xo (zdO 8192 2251799813685248 x.b) x.a)), (22, uv x.a), (21, pv 0 0), (20, pv 0 0), (19, pv 0 0)] [cw [uv x.a, uv (xo (zdO 8192 2251799813685248 x.b) x.a), uv x.c, uv x.d]] (by kernel_rfl) (zc6 (⟨⟨reg [(0, pv 0 0)], [cw [uv (Q4.mk x.a (xo (zdO 8192 2251799813685248 x.b) x.a) x.c x.d).a, uv (Q4.mk x.a (xo (zdO 8192 2251799813685248 x.b) x.a) x.c x.d).b, uv (Q4.mk x.a (xo (zdO 8192 2251799813685248 x.b) x.a) x.c x.d).c, uv (Q4.mk x.a (xo (zdO 8192 2251799813685248 x.b) x.a) x.c x.d).d]]⟩, ?_⟩))))))
  refine ⟨?_, ?_⟩
  ·exact Wk.ren [0] rfl rfl (by decide) ⟨rfl, trivial⟩ ⟨.inl rfl, trivial⟩
  ·exact ⟨(Q4.mk x.a (xo (zdO 8192 2251799813685248 x.b) x.a) x.c x.d), rfl, (by rw [hx]; rfl), rfl⟩
 rintro s ⟨x, -, hx, rfl⟩
 refine gcut (fun s => ∃ (x : Q4), 0 = 0 ∧ (x = rs3 q) ∧ s = ⟨reg [(0, pv 0 0)], [cw [uv x.a, uv x.b, uv x.c, uv x.d]]⟩) ?_ ?_
 ·skip
  refine zV (o_d 5 [(30, uv x.a), (29, pv 0 0), (28, pv 0 0), (27, pv 0 0), (26, pv 0 0)] (by kernel_rfl) (zcc (zc7 (rot32C h_math_bits_RotateLeft64 x.a) rfl rfl rfl (o_b 3 [(33, pv 0 0), (32, pv 0 0)] [cw [uv (zdO 4294967296 4294967296 x.a), uv x.b, uv x.c, uv x.d]] (by kernel_rfl) (zG (⟨⟨reg [(0, pv 0 0)], [cw [uv (Q4.mk (zdO 4294967296 4294967296 x.a) x.b x.c x.d).a, uv (Q4.mk (zdO 4294967296 4294967296 x.a) x.b x.c x.d).b, uv (Q4.mk (zdO 4294967296 4294967296 x.a) x.b x.c x.d).c, uv (Q4.mk (zdO 4294967296 4294967296 x.a) x.b x.c x.d).d]]⟩, ?_⟩))))))
  refine ⟨?_, ?_⟩
  ·exact Wk.ren [0] rfl rfl (by decide) ⟨rfl, trivial⟩ ⟨.inl rfl, trivial⟩
  ·exact ⟨(Q4.mk (zdO 4294967296 4294967296 x.a) x.b x.c x.d), rfl, (by rw [hx]; rfl), rfl⟩
 rintro s ⟨x, -, hx, rfl⟩
 refine gcut (fun s => ∃ (x : Q4), 0 = 0 ∧ (x = rs4 q) ∧ s = ⟨reg [(0, pv 0 0)], [cw [uv x.a, uv x.b, uv x.c, uv x.d]]⟩) ?_ ?_
 ·skip
  refine zdz ["math/bits.RotateLeft64"] (by kernel_rfl) (r_b 12 [(44, pv 0 2), (43, pv 0 0), (42, uv (ad x.c x.d)), (41, uv x.d), (40, pv 0 3), (39, pv 0 0), (38, pv 0 0), (37, uv x.c), (36, pv 0 2), (35, pv 0 0), (34, pv 0 0)] [cw [uv x.a, uv x.b, uv (ad x.c x.d), uv x.d]] (by kernel_rfl) (zc6 (⟨⟨reg [(0, pv 0 0)], [cw [uv (Q4.mk x.a x.b (ad x.c x.d) x.d).a, uv (Q4.mk x.a x.b (ad x.c x.d) x.d).b, uv (Q4.mk x.a x.b (ad x.c x.d) x.d).c, uv (Q4.mk x.a x.b (ad x.c x.d) x.d).d]]⟩, ?_⟩)))
  refine ⟨?_, ?_⟩
  ·exact Wk.ren [0] rfl rfl (by decide) ⟨rfl, trivial⟩ ⟨.inl rfl, trivial⟩
  ·exact ⟨(Q4.mk x.a x.b (ad x.c x.d) x.d), rfl, (by rw [hx]; rfl), rfl⟩
 rintro s ⟨x, -, hx, rfl⟩
 refine gcut (fun s => ∃ (x : Q4), 0 = 0 ∧ (x = rs5 q) ∧ s = ⟨reg [(0, pv 0 0)], [cw [uv x.a, uv x.b, uv x.c, uv x.d]]⟩) ?_ ?_
 ·skip
  refine zdz ["math/bits.RotateLeft64"] (by kernel_rfl) (r_d 5 [(49, uv x.d), (48, pv 0 3), (47, pv 0 0), (46, pv 0 0), (45, pv 0 0)] (by kernel_rfl) (r_cl (zhl (rot16C h_math_bits_RotateLeft64 x.d) rfl rfl rfl (r_b 8 [(57, pv 0 3), (56, pv 0 0), (55, uv (xo (zdO 65536 281474976710656 x.d) x.c)), (54, uv x.c), (53, pv 0 2), (52, pv 0 0), (51, pv 0 0)] [cw [uv x.a, uv x.b, uv x.c, uv (xo (zdO 65536 281474976710656 x.d) x.c)]] (by kernel_rfl) (zc6 (⟨⟨reg [(0, pv 0 0)], [cw [uv (Q4.mk x.a x.b x.c (xo (zdO 65536 281474976710656 x.d) x.c)).a, uv (Q4.mk x.a x.b x.c (xo (zdO 65536 281474976710656 x.d) x.c)).b, uv (Q4.mk x.a x.b x.c (xo (zdO 65536 281474976710656 x.d) x.c)).c, uv (Q4.mk x.a x.b x.c (xo (zdO 65536 281474976710656 x.d) x.c)).d]]⟩, ?_⟩))))))
  refine ⟨?_, ?_⟩
  ·exact Wk.ren [0] rfl rfl (by decide) ⟨rfl, trivial⟩ ⟨.inl rfl, trivial⟩
  ·exact ⟨(Q4.mk x.a x.b x.c (xo (zdO 65536 281474976710656 x.d) x.c)), rfl, (by rw [hx]; rfl), rfl⟩
 rintro s ⟨x, -, hx, rfl⟩
 refine gcut (fun s => ∃ (x : Q4), 0 = 0 ∧ (x = rs6 q) ∧ s = ⟨reg [(0, pv 0 0)], [cw [uv x.a, uv x.b, uv x.c, uv x.d]]⟩) ?_ ?_
 ·skip
  refine zdz ["math/bits.RotateLeft64"] (by kernel_rfl) (r_b 12 [(68, pv 0 0), (67, pv 0 0), (66, uv (ad x.a x.d)), (65, uv x.d), (64, pv 0 3), (63, pv 0 0), (62, pv 0 0), (61, uv x.a), (60, pv 0 0), (59, pv 0 0), (58, pv 0 0)] [cw [uv (ad x.a x.d), uv x.b, uv x.c, uv x.d]] (by kernel_rfl) (zc6 (⟨⟨reg [(0, pv 0 0)], [cw [uv (Q4.mk (ad x.a x.d) x.b x.c x.d).a, uv (Q4.mk (ad x.a x.d) x.b x.c x.d).b, uv (Q4.mk (ad x.a x.d) x.b x.c x.d).c, uv (Q4.mk (ad x.a x.d) x.b x.c x.d).d]]⟩, ?_⟩)))
  refine ⟨?_, ?_⟩
  ·exact Wk.ren [0] rfl rfl (by decide) ⟨rfl, trivial⟩ ⟨.inl rfl, trivial⟩
  ·exact ⟨(Q4.mk (ad x.a x.d) x.b x.c x.d), rfl, (by rw [hx]; rfl), rfl⟩
 rintro s ⟨x, -, hx, rfl⟩
 refine gcut (fun s => ∃ (x : Q4), 0 = 0 ∧ (x = rs7 q) ∧ s = ⟨reg [(0, pv 0 0)], [cw [uv x.a, uv x.b, uv x.c, uv x.d]]⟩) ?_ ?_
 ·skip
  refine zdz ["math/bits.RotateLeft64"] (by kernel_rfl) (r_d 5 [(73, uv x.d), (72, pv 0 3), (71, pv 0 0), (70, pv 0 0), (69, pv 0 0)] (by kernel_rfl) (r_cl (zhl (rot21C h_math_bits_RotateLeft64 x.d) rfl rfl rfl (r_b 8 [(81, pv 0 3), (80, pv 0 0), (79, uv (xo (zdO 2097152 8796093022208 x.d) x.a)), (78, uv x.a), (77, pv 0 0), (76, pv 0 0), (75, pv 0 0)] [cw [uv x.a, uv x.b, uv x.c, uv (xo (zdO 2097152 8796093022208 x.d) x.a)]] (by kernel_rfl) (zc6 (⟨⟨reg [(0, pv 0 0)], [cw [uv (Q4.mk x.a x.b x.c (xo (zdO 2097152 8796093022208 x.d) x.a)).a, uv (Q4.mk x.a x.b x.c (xo (zdO 2097152 8796093022208 x.d) x.a)).b, uv (Q4.mk x.a x.b x.c (xo (zdO 2097152 8796093022208 x.d) x.a)).c, uv (Q4.mk x.a x.b x.c (xo (zdO 2097152 8796093022208 x.d) x.a)).d]]⟩, ?_⟩))))))
  refine ⟨?_, ?_⟩
  ·exact Wk.ren [0] rfl rfl (by decide) ⟨rfl, trivial⟩ ⟨.inl rfl, trivial⟩
  ·exact ⟨(Q4.mk x.a x.b x.c (xo (zdO 2097152 8796093022208 x.d) x.a)), rfl, (by rw [hx]; rfl), rfl⟩
 rintro s ⟨x, -, hx, rfl⟩
 refine gcut (fun s => ∃ (x : Q4), 0 = 0 ∧ (x = rs8 q) ∧ s = ⟨reg [(0, pv 0 0)], [cw [uv x.a, uv x.b, uv x.c, uv x.d]]⟩) ?_ ?_
 ·skip
  refine zdz ["math/bits.RotateLeft64"] (by kernel_rfl) (r_b 12 [(92, pv 0 2), (91, pv 0 0), (90, uv (ad x.c x.b)), (89, uv x.b), (88, pv 0 1), (87, pv 0 0), (86, pv 0 0), (85, uv x.c), (84, pv 0 2), (83, pv 0 0), (82, pv 0 0)] [cw [uv x.a, uv x.b, uv (ad x.c x.b), uv x.d]] (by kernel_rfl) (zc6 (⟨⟨reg [(0, pv 0 0)], [cw [uv (Q4.mk x.a x.b (ad x.c x.b) x.d).a, uv (Q4.mk x.a x.b (ad x.c x.b) x.d).b, uv (Q4.mk x.a x.b (ad x.c x.b) x.d).c, uv (Q4.mk x.a x.b (ad x.c x.b) x.d).d]]⟩, ?_⟩)))
  refine ⟨?_, ?_⟩
  ·exact Wk.ren [0] rfl rfl (by decide) ⟨rfl, trivial⟩ ⟨.inl rfl, trivial⟩
  ·exact ⟨(Q4.mk x.a x.b (ad x.c x.b) x.d), rfl, (by rw [hx]; rfl), rfl⟩
 rintro s ⟨x, -, hx, rfl⟩
 refine gcut (fun s => ∃ (x : Q4), 0 = 0 ∧ (x = rs9 q) ∧ s = ⟨reg [(0, pv 0 0)], [cw [uv x.a, uv x.b, uv x.c, uv x.d]]⟩) ?_ ?_
 ·skip
  refine zdz ["math/bits.RotateLeft64"] (by kernel_rfl) (r_d 5 [(97, uv x.b), (96, pv 0 1), (95, pv 0 0), (94, pv 0 0), (93, pv 0 0)] (by kernel_rfl) (r_cl (zhl (rot17C h_math_bits_RotateLeft64 x.b) rfl rfl rfl (r_b 8 [(105, pv 0 1), (104, pv 0 0), (103, uv (xo (zdO 131072 140737488355328 x.b) x.c)), (102, uv x.c), (101, pv 0 2), (100, pv 0 0), (99, pv 0 0)] [cw [uv x.a, uv (xo (zdO 131072 140737488355328 x.b) x.c), uv x.c, uv x.d]] (by kernel_rfl) (zc6 (⟨⟨reg [(0, pv 0 0)], [cw [uv (Q4.mk x.a (xo (zdO 131072 140737488355328 x.b) x.c) x.c x.d).a, uv (Q4.mk x.a (xo (zdO 131072 140737488355328 x.b) x.c) x.c x.d).b, uv (Q4.mk x.a (xo (zdO 131072 140737488355328 x.b) x.c) x.c x.d).c, uv (Q4.mk x.a (xo (zdO 131072 140737488355328 x.b) x.c) x.c x.d).d]]⟩, ?_⟩))))))
  refine ⟨?_, ?_⟩
  ·exact Wk.ren [0] rfl rfl (by decide) ⟨rfl, trivial⟩ ⟨.inl rfl, trivial⟩
  ·exact ⟨(Q4.mk x.a (xo (zdO 131072 140737488355328 x.b) x.c) x.c x.d), rfl, (by rw [hx]; rfl), rfl⟩
 rintro s ⟨x, -, hx, rfl⟩
 exact zV (o_d 5 [(110, uv x.c), (109, pv 0 2), (108, pv 0 0), (107, pv 0 0), (106, pv 0 0)] (by kernel_rfl) (zcc (zc7 (rot32C h_math_bits_RotateLeft64 x.c) rfl rfl rfl (o_b 3 [(113, pv 0 2), (112, pv 0 0)] [cw [uv x.a, uv x.b, uv (zdO 4294967296 4294967296 x.c), uv x.d]] (by kernel_rfl) (zG (⟨trivial, ⟨reg [], [cw [uv x.a, uv x.b, uv (zdO 4294967296 4294967296 x.c), uv x.d]]⟩, Wk.ren [0] rfl rfl (by decide) trivial ⟨.inl rfl, trivial⟩, [], rfl, qA, (by rfl), (by rw [hx]; rfl)⟩))))))
end Go.Rh

set_option maxHeartbeats 8000000
namespace Go.Rh
def zdi : IFunc := ⟨10, [], (.seq (.reg [km 4 1, kq 5 (.mv (ki 0))]) (.block 0 (.loop (.seq (.reg [kq 6 (.bin .lss (.t 5) (.t 4))]) (.seq (.cond (.t 6) .skip (.exit 0)) (.seq (.block 1 (.reg [km 7 0, kq 8 (.call "(*roundhouse/sip.state).round" [(.t 7)])])) (.reg [kq 9 (.bin .add (.t 5) (ki 1)), km 5 9])))))))⟩
abbrev qV (P : Program) : Prop := z6 P "(*roundhouse/sip.state).rounds" = some zdi
def zd0 : IFunc := ⟨22, [], (.seq (.reg [km 4 0, kq 5 (.nilc (.t 4)), kq 6 (.fad 3 (.t 5)), kq 7 (.ld none (.t 6)), km 8 1, kq 9 (.bin .xor (.t 7) (.t 8)), kq 10 (.nilc (.t 4)), kq 11 (.fad 3 (.t 10)), ku (.st 1 (.t 11) (.t 9))]) (.seq (.reg [km 12 0, kq 13 (.call "(*roundhouse/sip.state).rounds" [(.t 12), (ki 2)])]) (.reg [km 14 0, kq 15 (.nilc (.t 14)), kq 16 (.fad 0 (.t 15)), kq 17 (.ld none (.t 16)), km 18 1, kq 19 (.bin .xor (.t 17) (.t 18)), kq 20 (.nilc (.t 14)), kq 21 (.fad 0 (.t 20)), ku (.st 1 (.t 21) (.t 19))])))⟩
abbrev zao (P : Program) : Prop := z6 P "(*roundhouse/sip.state).take" = some zd0
def zdC : IFunc := ⟨23, [.tmp 2], (.seq (.reg [kq 2 (.mv (.c (.int .u64 0)))]) (.seq (.reg [kq 3 (.mv (.c (.int .u64 0)))]) (.seq (.seq (.reg [km 5 0, kq 6 (.lenS (.t 5)), kq 7 (.mm false (.t 6) (ki 8)), kq 8 (.mv (ki 0))]) (.block 0 (.loop (.seq (.reg [kq 9 (.bin .lss (.t 8) (.t 7))]) (.seq (.cond (.t 9) .skip (.exit 0)) (.seq (.block 1 (.seq (.reg [km 10 8, km 4 10]) (.reg [km 11 3, km 12 0, km 13 4, kq 14 (.iadS 1 (.t 12) (.t 13)), kq 15 (.ld none (.t 14)), kq 16 (.cvi .u64 (.t 15)), km 17 4, kq 18 (.bin .mul (ki 8) (.t 17)), kq 19 (.bin .shl (.t 16) (.t 18)), kq 20 (.bin .or (.t 11) (.t 19)), km 3 20]))) (.reg [kq 21 (.bin .add (.t 8) (ki 1)), km 8 21]))))))) (.seq (.reg [km 22 3, km 2 22]) .ret))))⟩
abbrev zag (P : Program) : Prop := z6 P "roundhouse/sip.number[[]byte]" = some zdC
def rnds : Nat → Q4 → Q4
 | 0, q => q
 | n + 1, q => rs10 (rnds n q)
def zgE (m : Int) (q : Q4) : Q4 := let x := rnds 2 ⟨q.a, q.b, q.c, xo q.d m⟩; ⟨xo x.a m, x.b, x.c, x.d⟩
theorem takeS_eq {m : Int} {q y : Q4} (h : rnds 2 (Q4.mk q.a q.b q.c (xo q.d m)) = y) : zgE m q = ⟨xo y.a m, y.b, y.c, y.d⟩ := by subst h; rfl
def numT (l : List Int) : Nat → Int
 | 0 => 0
 | i + 1 => oo (numT l i) (sl (l.getD i 0 % 256) (8 * (i : Int)))
def zjs (l : List Int) : Int := numT l (min l.length 8)
theorem roundsC {P : Program} (hc : qV P) (h_sip_state_round : qW P) (h_math_bits_RotateLeft64 : zY P) (q : Q4) (n : Nat) (hn : n ≤ 1000) :
    Env P "(*roundhouse/sip.state).rounds" [pv 0 0, iv (n : Nat)] ([cw [uv q.a, uv q.b, uv q.c, uv q.d]]) (fun v h' => v = .tuple #[] ∧ h' = [cw (q4L (rnds n q))]) := by
 refine Env.by2 hc ?_
 unfold zdi
 show GC _ 1 _ _ ⟨reg [(0, pv 0 0), (1, iv (n : Nat))], [cw [uv q.a, uv q.b, uv q.c, uv q.d]]⟩
 refine zR (zV (o_d 2 [(5, iv 0), (4, iv (n : Nat))] (by kernel_rfl) (zG (zC (zai (zdm (fun μ s => ∃ (i : Nat), ∃ (x : Q4), μ = n - i ∧ (i ≤ n) ∧ (x = rnds i q) ∧ s = ⟨reg [(5, iv (i : Int)), (4, iv (n : Nat)), (0, pv 0 0)], [cw [uv x.a, uv x.b, uv x.c, uv x.d]]⟩) ⟨(n - 0), ?_⟩ ?_))))))
 ·skip
  refine ⟨⟨reg [(5, iv (0 : Int)), (4, iv (n : Nat)), (0, pv 0 0)], [cw [uv q.a, uv q.b, uv q.c, uv q.d]]⟩, ?_⟩
  refine ⟨?_, ?_⟩
  ·exact Wk.ren [0] rfl rfl (by decide) ⟨rfl, ⟨rfl, ⟨rfl, trivial⟩⟩⟩ ⟨.inl rfl, trivial⟩
  ·exact ⟨0, q, rfl, (Nat.zero_le _), rfl, rfl⟩
 rintro μ s ⟨i, x, rfl, hi, hx, rfl⟩
 refine zR (zV (o_d 1 [(6, bv (decide ((i : Int) < (n : Nat))))] (by kernel_rfl) (zG (zC (zR (zaj (t := decide ((i : Int) < (n : Nat))) rfl (fun h1 => ?_) (fun h1 => ?_)))))))
 ·skip
  have h1' : (i : Int) < (n : Nat) := of_decide_eq_true h1
  refine zaq (zC (zR (zai (zV (o_d 1 [(7, pv 0 0)] (by kernel_rfl) (zcc (callG [0] [cw [uv x.a, uv x.b, uv x.c, uv x.d]] [pv 0 0] (roundC h_sip_state_round h_math_bits_RotateLeft64 x) rfl rfl ⟨⟨_, rfl, zcA rfl (fun q => rfl)⟩, trivial⟩ (by decide) ?_)))))))
  rintro v1 h1' ⟨rfl, rfl⟩
  refine ⟨.tuple #[], [cw [uv ((rs10 x).a), uv ((rs10 x).b), uv ((rs10 x).c), uv ((rs10 x).d)]], [], (by simp [zbF]), ⟨rfl, trivial⟩, trivial, ?_⟩
  generalize hy2 : rs10 x = y2
  refine zG (zC (zV (o_s (by refine zaf (v := .int .i64 (i64.wrap ((i : Int) + 1))) (congrArg (Value.int .i64) (w64 (by omega) (by omega))) ?_; kernel_rfl) ?_)))
  refine o_d 1 [(5, iv ((i : Int) + 1))] (by kernel_rfl) (zG (⟨n - (i + 1), ?_⟩))
  refine ⟨⟨reg [(5, iv ((i + 1) : Int)), (4, iv (n : Nat)), (0, pv 0 0)], [cw [uv y2.a, uv y2.b, uv y2.c, uv y2.d]]⟩, ?_⟩
  refine zf2 (by omega) ⟨?_, ?_⟩
  ·exact Wk.ren [0] rfl rfl (by decide) ⟨rfl, ⟨rfl, ⟨rfl, trivial⟩⟩⟩ ⟨.inl rfl, trivial⟩
  ·exact ⟨(i + 1), y2, rfl, by omega, (by rw [← hy2, hx]; rfl), rfl⟩
 have h1' : ¬ ((i : Int) < (n : Nat)) := of_decide_eq_false h1
 exact zcD (⟨trivial, ⟨reg [], [cw [uv x.a, uv x.b, uv x.c, uv x.d]]⟩, Wk.ren [0] rfl rfl (by decide) trivial ⟨.inl rfl, trivial⟩, [], rfl, qA, rfl, (by rw [hx, show i = n by omega]; rfl)⟩)
theorem takeC {P : Program} (hc : zao P) (h_sip_state_rounds : qV P) (h_sip_state_round : qW P) (h_math_bits_RotateLeft64 : zY P) (q : Q4) (m : Int) :
    Env P "(*roundhouse/sip.state).take" [pv 0 0, uv m] ([cw [uv q.a, uv q.b, uv q.c, uv q.d]]) (fun v h' => v = .tuple #[] ∧ h' = [cw (q4L (zgE m q))]) := by
 refine Env.by2 hc ?_
 unfold zd0
 show GC _ 1 _ _ ⟨reg [(0, pv 0 0), (1, uv m)], [cw [uv q.a, uv q.b, uv q.c, uv q.d]]⟩
 refine zR (zV (o_b 9 [(11, pv 0 3), (10, pv 0 0), (9, uv (xo q.d m)), (8, uv m), (7, uv q.d), (6, pv 0 3), (5, pv 0 0), (4, pv 0 0)] [cw [uv q.a, uv q.b, uv q.c, uv (xo q.d m)]] (by kernel_rfl) (zG (zC (zR (zV (o_d 1 [(12, pv 0 0)] (by kernel_rfl) (zcc (callG [0] [cw [uv q.a, uv q.b, uv q.c, uv (xo q.d m)]] [pv 0 0, iv 2] (roundsC h_sip_state_rounds h_sip_state_round h_math_bits_RotateLeft64 (Q4.mk q.a q.b q.c (xo q.d m)) 2 (by decide)) rfl rfl ⟨⟨_, rfl, zcA rfl (fun q => rfl)⟩, trivial⟩ (by decide) ?_)))))))))
 rintro v1 h1' ⟨rfl, rfl⟩
 refine ⟨.tuple #[], [cw [uv ((rnds 2 (Q4.mk q.a q.b q.c (xo q.d m))).a), uv ((rnds 2 (Q4.mk q.a q.b q.c (xo q.d m))).b), uv ((rnds 2 (Q4.mk q.a q.b q.c (xo q.d m))).c), uv ((rnds 2 (Q4.mk q.a q.b q.c (xo q.d m))).d)]], [], (by simp [zbF]), ⟨rfl, trivial⟩, trivial, ?_⟩
 generalize hy1 : rnds 2 (Q4.mk q.a q.b q.c (xo q.d m)) = y1
 exact zG (zC (zV (o_b 9 [(21, pv 0 0), (20, pv 0 0), (19, uv (xo y1.a m)), (18, uv m), (17, uv y1.a), (16, pv 0 0), (15, pv 0 0), (14, pv 0 0)] [cw [uv (xo y1.a m), uv y1.b, uv y1.c, uv y1.d]] (by kernel_rfl) (zG (⟨trivial, ⟨reg [], [cw [uv (xo y1.a m), uv y1.b, uv y1.c, uv y1.d]]⟩, Wk.ren [0] rfl rfl (by decide) trivial ⟨.inl rfl, trivial⟩, [], rfl, qA, rfl, (by rw [takeS_eq hy1]; rfl)⟩)))))
theorem numberC {P : Program} (hc : zag P) (q : Option (Nat × Nat)) (L l : List Int) (hr : RowOf q L l) (hl : l.length ≤ 100000) :
    Env P "roundhouse/sip.number[[]byte]" [ze9 q 0 l.length] ([zeI q (u8 L) false]) (fun v h' => v = uv (zjs l) ∧ h' = [zeI q (u8 L) false]) := by
 refine Env.by2 hc ?_
 unfold zdC
 show GC _ 1 _ _ ⟨reg [(0, ze9 q 0 l.length)], [zeI q (u8 L) false]⟩
 refine zR (zV (o_d 1 [(2, uv 0)] (by kernel_rfl) (zG (zC (zR (zV (o_d 1 [(3, uv 0)] (by kernel_rfl) (zG (zC (zR (zR (zV ?_))))))))))))
 refine o_d 1 [(5, ze9 q 0 l.length)] (by kernel_rfl) (o_s (by exact zhD rfl hr.nil) ?_)
 refine o_d 2 [(8, iv 0), (7, iv (if (8 : Int) < ((l.length : Nat) : Int) then (8 : Int) else ((l.length : Nat) : Int)))] (by kernel_rfl) (zG (zC (zai (zdm (fun μ s => ∃ (i : Nat), ∃ (x : Int), μ = 8 - i ∧ (i ≤ l.length ∧ i ≤ 8) ∧ (x = numT l i) ∧ s = ⟨reg [(8, iv (i : Int)), (7, iv (if (8 : Int) < ((l.length : Nat) : Int) then (8 : Int) else ((l.length : Nat) : Int))), (3, uv x), (0, ze9 q 0 l.length)], [zeI q (u8 L) false]⟩) ⟨(8 - 0), ?_⟩ ?_))))
 ·skip
  refine ⟨⟨reg [(8, iv (0 : Int)), (7, iv (if (8 : Int) < ((l.length : Nat) : Int) then (8 : Int) else ((l.length : Nat) : Int))), (3, uv 0), (0, ze9 q 0 l.length)], [zeI q (u8 L) false]⟩, ?_⟩
  refine ⟨?_, ?_⟩
  ·exact Wk.ren [0] rfl rfl (by decide) ⟨rfl, ⟨rfl, ⟨rfl, ⟨((zde rfl)).trans rfl, trivial⟩⟩⟩⟩ ⟨.inl (zga (zgw _)), trivial⟩
  ·exact ⟨0, 0, rfl, ⟨Nat.zero_le _, Nat.zero_le _⟩, rfl, rfl⟩
 rintro μ s ⟨i, x, rfl, hi, hx, rfl⟩
 refine zR (zV (o_d 1 [(9, bv (decide ((i : Int) < (if (8 : Int) < ((l.length : Nat) : Int) then (8 : Int) else ((l.length : Nat) : Int)))))] (by kernel_rfl) (zG (zC (zR (zaj (t := decide ((i : Int) < (if (8 : Int) < ((l.length : Nat) : Int) then (8 : Int) else ((l.length : Nat) : Int)))) rfl (fun h1 => ?_) (fun h1 => ?_)))))))
 ·skip
  have h1' : (i : Int) < (if (8 : Int) < ((l.length : Nat) : Int) then (8 : Int) else ((l.length : Nat) : Int)) := of_decide_eq_true h1
  have h9 : i < l.length ∧ i < 8 := by split at h1' <;> omega
  refine zaq (zC (zR (zai (zR (zV (o_d 2 [(4, iv (i : Int)), (10, iv (i : Int))] (by kernel_rfl) (zG (zC (zV (o_d 3 [(13, iv (i : Int)), (12, ze9 q 0 l.length), (11, uv x)] (by kernel_rfl) (o_s (by exact run_iadRow (o' := qo q + i) rfl hr.nil rfl (by omega) (by omega)) ?_)))))))))))
  refine o_s (by refine z4 (v := .int .u8 (l.getD i 0 % 256)) rfl (hf_row2 (n := l.length) rfl rfl hr.nil (by omega)) ?_; exact row_r hr (by omega) rfl) ?_
  refine o_s (by refine zaf (v := .int .u64 (IntKind.u64.wrap (l.getD i 0 % 256))) (congrArg (Value.int .u64) (wrap_u64 (by omega))) ?_; kernel_rfl) ?_
  refine o_d 1 [(17, iv (i : Int))] (by kernel_rfl) (o_s (by refine zaf (v := .int .i64 (i64.wrap (8 * (i : Int)))) (congrArg (Value.int .i64) (w64 (by omega) (by omega))) ?_; kernel_rfl) ?_)
  refine o_d 3 [(3, uv (oo x (sl (l.getD i 0 % 256) (8 * (i : Int))))), (20, uv (oo x (sl (l.getD i 0 % 256) (8 * (i : Int))))), (19, uv (sl (l.getD i 0 % 256) (8 * (i : Int))))] (by kernel_rfl) (zG (zC (zV (o_s (by refine zaf (v := .int .i64 (i64.wrap ((i : Int) + 1))) (congrArg (Value.int .i64) (w64 (by omega) (by omega))) ?_; kernel_rfl) ?_))))
  refine o_d 1 [(8, iv ((i : Int) + 1))] (by kernel_rfl) (zG (⟨8 - (i + 1), ?_⟩))
  refine ⟨⟨reg [(8, iv ((i + 1) : Int)), (7, iv (if (8 : Int) < ((l.length : Nat) : Int) then (8 : Int) else ((l.length : Nat) : Int))), (3, uv (oo x (sl (l.getD i 0 % 256) (8 * (i : Int))))), (0, ze9 q 0 l.length)], [zeI q (u8 L) false]⟩, ?_⟩
  refine zf2 (by omega) ⟨?_, ?_⟩
  ·exact Wk.ren [0] rfl rfl (by decide) ⟨rfl, ⟨rfl, ⟨rfl, ⟨((zde rfl)).trans rfl, trivial⟩⟩⟩⟩ ⟨.inl (zga (zgw _)), trivial⟩
  ·exact ⟨(i + 1), (oo x (sl (l.getD i 0 % 256) (8 * (i : Int)))), rfl, by omega, (by rw [hx]; rfl), rfl⟩
 have h1' : ¬ ((i : Int) < (if (8 : Int) < ((l.length : Nat) : Int) then (8 : Int) else ((l.length : Nat) : Int))) := of_decide_eq_false h1
 have h9 : ¬ (i < l.length ∧ i < 8) := by split at h1' <;> omega
 refine zcD (zC (zR (zV (o_d 2 [(2, uv x), (22, uv x)] (by kernel_rfl) (zG (zC (zaZ ?_)))))))
 have hi9 : True := trivial
 exact ⟨trivial, ⟨reg [(2, uv x)], [zeI q (u8 L) false]⟩, Wk.ren [0] rfl rfl (by decide) ⟨rfl, trivial⟩ ⟨.inl (zga (zgw _)), trivial⟩, [uv x], (qE rfl rfl), (zU rfl qA), (congrArg (Value.int .u64) (hx.trans (congrArg (numT l) (by omega : i = min l.length 8)))), rfl⟩
end Go.Rh

set_option maxHeartbeats 1000000
namespace Go.Rh
def c_sip_Of : IFunc := ⟨69, [.tmp 4], (.seq (.reg [kq 2 (.box (.t 0)), kq 4 (.mv (.c (.int .u64 0)))]) (.seq (.reg [kq 7 (.fad 0 (.t 2)), kq 8 (.ld none (.t 7)), kq 9 (.bin .xor (.t 8) (.c (.int .u64 8317987319222330741))), kq 10 (.fad 1 (.t 2)), kq 11 (.ld none (.t 10)), kq 12 (.bin .xor (.t 11) (.c (.int .u64 7237128888997146477))), kq 13 (.fad 0 (.t 2)), kq 14 (.ld none (.t 13)), kq 15 (.bin .xor (.t 14) (.c (.int .u64 7816392313619706465))), kq 16 (.fad 1 (.t 2)), kq 17 (.ld none (.t 16)), kq 18 (.bin .xor (.t 17) (.c (.int .u64 8387220255154660723))), kq 19 (.bld [(4, (.int .u64 0))] [(0, 1, (.t 9)), (1, 1, (.t 12)), (2, 1, (.t 15)), (3, 1, (.t 18))]), kq 20 (.box (.t 19)), km 5 20]) (.seq (.reg [km 21 1, km 6 21]) (.seq (.block 0 (.loop (.seq (.seq (.reg [km 22 6, kq 23 (.lenS (.t 22)), kq 24 (.bin .geq (.t 23) (ki 8))]) (.cond (.t 24) .skip (.exit 0))) (.block 1 (.seq (.reg [km 25 5, km 26 6, kq 27 (.slcS 1 (.t 26) none (some (ki 8)) none), kq 28 (.call "roundhouse/sip.number[[]byte]" [(.t 27)]), kq 29 (.call "(*roundhouse/sip.state).take" [(.t 25), (.t 28)])]) (.reg [km 30 6, kq 31 (.slcS 1 (.t 30) (some (ki 8)) none none), km 6 31])))))) (.seq (.reg [km 32 5, km 33 6, kq 34 (.call "roundhouse/sip.number[[]byte]" [(.t 33)]), km 35 1, kq 36 (.lenS (.t 35)), kq 37 (.cvi .u64 (.t 36)), kq 38 (.bin .shl (.t 37) (.c (.int .u64 56))), kq 39 (.bin .or (.t 34) (.t 38)), kq 40 (.call "(*roundhouse/sip.state).take" [(.t 32), (.t 39)])]) (.seq (.reg [km 41 5, kq 42 (.nilc (.t 41)), kq 43 (.fad 2 (.t 42)), kq 44 (.ld none (.t 43)), kq 45 (.bin .xor (.t 44) (.c (.int .u64 255))), kq 46 (.nilc (.t 41)), kq 47 (.fad 2 (.t 46)), ku (.st 1 (.t 47) (.t 45))]) (.seq (.reg [km 48 5, kq 49 (.call "(*roundhouse/sip.state).rounds" [(.t 48), (ki 4)])]) (.seq (.dreg [km 50 5, kq 51 (.nilc (.t 50)), kq 52 (.fad 0 (.t 51)), kq 53 (.ld none (.t 52)), km 54 5, kq 55 (.nilc (.t 54)), kq 56 (.fad 1 (.t 55)), kq 57 (.ld none (.t 56)), kq 58 (.bin .xor (.t 53) (.t 57)), km 59 5, kq 60 (.nilc (.t 59)), kq 61 (.fad 2 (.t 60)), kq 62 (.ld none (.t 61)), kq 63 (.bin .xor (.t 58) (.t 62)), km 64 5, kq 65 (.nilc (.t 64)), kq 66 (.fad 3 (.t 65)), kq 67 (.ld none (.t 66)), kq 68 (.bin .xor (.t 63) (.t 67)), km 4 68] [[], [0], [1, 0], [2, 1, 0], [], [4], [5, 4], [6, 5, 4], [3, 2, 1, 0, 7, 6, 5, 4], [], [9], [10, 9], [11, 10, 9], [8, 3, 2, 1, 0, 7, 6, 5, 4, 12, 11, 10, 9], [], [14], [15, 14], [16, 15, 14], [13, 8, 3, 2, 1, 0, 7, 6, 5, 4, 12, 11, 10, 9, 17, 16, 15, 14], [18, 13, 8, 3, 2, 1, 0, 7, 6, 5, 4, 12, 11, 10, 9, 17, 16, 15, 14]]) .ret))))))))⟩
abbrev zcP (P : Program) : Prop := z6 P "roundhouse/sip.Of" = some c_sip_Of
def sipT (l : List Int) : Nat → Q4 → Q4
 | 0, q => q
 | i + 1, q => zgE (zjs ((l.drop (8 * i)).take 8)) (sipT l i q)
def c255 (y : Q4) : Q4 := ⟨y.a, y.b, xo y.c 255, y.d⟩
def fin4 (z : Q4) : Int := xo (xo (xo z.a z.b) z.c) z.d
def sip0 (ka kb : Int) : Q4 := (Q4.mk (xo ka 8317987319222330741) (xo kb 7237128888997146477) (xo ka 7816392313619706465) (xo kb 8387220255154660723))
def ofS (ka kb : Int) (l : List Int) : Int := fin4 (rnds 4 (c255 (zgE (oo (zjs (l.drop (8 * (l.length / 8)))) (sl ((l.length : Int) % 18446744073709551616) 56)) (sipT l (l.length / 8) (sip0 ka kb)))))
theorem drop8 {l l2 l3 : List Int} {i : Nat} (h : l2 = l.drop (8 * i)) (h3 : l3 = (l2.drop 8).take (l2.length - 8)) : l3 = l.drop (8 * (i + 1)) := by
 rw [h3, List.take_of_length_le (by simp), h, List.drop_drop]; congr 1
theorem ofS_eq {ka kb s : Int} {l l2 : List Int} {i : Nat} {x y z : Q4} (hi : i = l.length / 8) (hx : x = sipT l i (Q4.mk (xo ka 8317987319222330741) (xo kb 7237128888997146477) (xo ka 7816392313619706465) (xo kb 8387220255154660723))) (hl : l2 = l.drop (8 * i)) (hs : s = sl ((l.length : Int) % 18446744073709551616) 56) (hy : zgE (oo (zjs l2) s) x = y) (hz : rnds 4 (Q4.mk y.a y.b (xo y.c 255) y.d) = z) : xo (xo (xo z.a z.b) z.c) z.d = ofS ka kb l := by
 subst hi; subst hx; subst hl; subst hs; subst hy; subst hz; rfl
theorem ofC {P : Program} (hc : zcP P) (h_sip_number_byte : zag P) (h_sip_state_take : zao P) (h_sip_state_rounds : qV P) (h_sip_state_round : qW P) (h_math_bits_RotateLeft64 : zY P) (ka kb : Int) (q : Option (Nat × Nat)) (L l : List Int) (hr : RowOf q L l) (hl : l.length ≤ 100000) :
    Env P "roundhouse/sip.Of" [.agg #[uv ka, uv kb], ze9 q 0 l.length] ([zeI q (u8 L) false]) (fun v h' => v = uv (ofS ka kb l) ∧ h' = [zeI q (u8 L) false]) := by
 refine Env.by2 hc ?_
 unfold c_sip_Of
 show GC _ 1 _ _ ⟨reg [(0, .agg #[uv ka, uv kb]), (1, ze9 q 0 l.length)], [zeI q (u8 L) false]⟩
 refine zR (zV (o_b 2 [(4, uv 0), (2, pv 1 0)] [zeI q (u8 L) false, cw [uv ka, uv kb]] (by kernel_rfl) (zG (zC (zR (zV (o_b 15 [(5, pv 2 0), (20, pv 2 0), (19, .agg #[uv (xo ka 8317987319222330741), uv (xo kb 7237128888997146477), uv (xo ka 7816392313619706465), uv (xo kb 8387220255154660723)]), (18, uv (xo kb 8387220255154660723)), (17, uv kb), (16, pv 1 1), (15, uv (xo ka 7816392313619706465)), (14, uv ka), (13, pv 1 0), (12, uv (xo kb 7237128888997146477)), (11, uv kb), (10, pv 1 1), (9, uv (xo ka 8317987319222330741)), (8, uv ka), (7, pv 1 0)] [zeI q (u8 L) false, cw [uv ka, uv kb], cw [uv (xo ka 8317987319222330741), uv (xo kb 7237128888997146477), uv (xo ka 7816392313619706465), uv (xo kb 8387220255154660723)]] (by kernel_rfl) (zG (zC (zR (zV (o_d 2 [(6, ze9 q 0 l.length), (21, ze9 q 0 l.length)] (by kernel_rfl) ?_))))))))))))
 refine zG (zC (zR (zai (zdm (fun μ s => ∃ (i : Nat), ∃ (q2 : Option (Nat × Nat)), ∃ (l2 : List Int), ∃ (x : Q4), μ = l.length - i ∧ (8 * i ≤ l.length) ∧ (l2 = l.drop (8 * i)) ∧ (x = sipT l i (Q4.mk (xo ka 8317987319222330741) (xo kb 7237128888997146477) (xo ka 7816392313619706465) (xo kb 8387220255154660723))) ∧ (RowOf q2 L l2) ∧ (q2.isSome = q.isSome) ∧ s = ⟨reg [(6, ze9 q2 0 l2.length), (5, pv 2 0), (1, ze9 q 0 l.length)], [zeI q (u8 L) false, cw [uv ka, uv kb], cw [uv x.a, uv x.b, uv x.c, uv x.d]]⟩) ⟨(l.length - 0), ?_⟩ ?_))))
 ·skip
  refine ⟨⟨reg [(6, ze9 q 0 l.length), (5, pv 2 0), (1, ze9 q 0 l.length)], [zeI q (u8 L) false, cw [uv ka, uv kb], cw [uv (Q4.mk (xo ka 8317987319222330741) (xo kb 7237128888997146477) (xo ka 7816392313619706465) (xo kb 8387220255154660723)).a, uv (Q4.mk (xo ka 8317987319222330741) (xo kb 7237128888997146477) (xo ka 7816392313619706465) (xo kb 8387220255154660723)).b, uv (Q4.mk (xo ka 8317987319222330741) (xo kb 7237128888997146477) (xo ka 7816392313619706465) (xo kb 8387220255154660723)).c, uv (Q4.mk (xo ka 8317987319222330741) (xo kb 7237128888997146477) (xo ka 7816392313619706465) (xo kb 8387220255154660723)).d]]⟩, ?_⟩
  refine ⟨?_, ?_⟩
  ·exact Wk.ren [0, 1, 2] rfl rfl (by decide) ⟨((zde rfl)).trans rfl, ⟨rfl, ⟨((zde rfl)).trans rfl, trivial⟩⟩⟩ ⟨.inl (zga (zgw _)), ⟨.inl rfl, ⟨.inl rfl, trivial⟩⟩⟩
  ·exact ⟨0, q, l, (Q4.mk (xo ka 8317987319222330741) (xo kb 7237128888997146477) (xo ka 7816392313619706465) (xo kb 8387220255154660723)), rfl, (by omega), rfl, rfl, hr, rfl, rfl⟩
 rintro μ s ⟨i, q2, l2, x, rfl, hi, hl2, hx, hr2, hs2, rfl⟩
 have hn2 : l2.length = l.length - 8 * i := by rw [hl2]; simp
 refine zR (zR (zV (o_d 1 [(22, ze9 q2 0 l2.length)] (by kernel_rfl) (o_s (by exact zhD rfl hr2.nil) ?_))))
 refine o_d 1 [(24, bv (decide (((l2.length : Nat) : Int) ≥ 8)))] (by kernel_rfl) (zG (zC (zaj (t := decide (((l2.length : Nat) : Int) ≥ 8)) rfl (fun h1 => ?_) (fun h1 => ?_))))
 ·skip
  have h1' : ((l2.length : Nat) : Int) ≥ 8 := of_decide_eq_true h1
  refine zaq (zC (zai (zR (zV (o_d 2 [(26, ze9 q2 0 l2.length), (25, pv 2 0)] (by kernel_rfl) ?_)))))
  obtain ⟨qz2, lz2, hlz2, hn2z, hq2z, hr2z, hs2z⟩ := row_slc (k := 0) hr2 (lo := none) (hi := (some (iv 8))) (mx := none) 0 8 (by omega) (.inl ⟨rfl, rfl⟩) (.inr rfl) (.inl rfl)
  have hs2y := hs2z.trans hs2
  refine o_s (by exact zjS rfl hq2z) ?_
  refine zcc (callN [0] [zeI qz2 (u8 L) false] [ze9 qz2 0 lz2.length] (numberC h_sip_number_byte qz2 L lz2 hr2z (by omega)) rfl (zaz (zde rfl) rfl) ⟨⟨_, rfl, ziJ (zgw _) hs2y (fun q => q)⟩, trivial⟩ (by decide) ?_)
  rintro v1 h1' ⟨rfl, rfl⟩
  refine ⟨zi4 [_] [], uv (zjs lz2), [zeI q (u8 L) false, cw [uv ka, uv kb], cw [uv x.a, uv x.b, uv x.c, uv x.d]], [], rfl, ⟨(over_row hs2y rfl), ⟨rfl, ⟨rfl, trivial⟩⟩⟩, trivial, ?_⟩
  refine zcc (callG [2] [cw [uv x.a, uv x.b, uv x.c, uv x.d]] [pv 0 0, uv (zjs lz2)] (takeC h_sip_state_take h_sip_state_rounds h_sip_state_round h_math_bits_RotateLeft64 x (zjs lz2)) rfl rfl ⟨⟨_, rfl, zcA rfl (fun q => rfl)⟩, trivial⟩ (by decide) ?_)
  rintro v1 h1' ⟨rfl, rfl⟩
  refine ⟨.tuple #[], [zeI q (u8 L) false, cw [uv ka, uv kb], cw [uv ((zgE (zjs lz2) x).a), uv ((zgE (zjs lz2) x).b), uv ((zgE (zjs lz2) x).c), uv ((zgE (zjs lz2) x).d)]], [], (by simp [zbF]), ⟨rfl, ⟨rfl, ⟨rfl, trivial⟩⟩⟩, trivial, ?_⟩
  generalize hy3 : zgE (zjs lz2) x = y3
  refine zG (zC (zV (o_d 1 [(30, ze9 q2 0 l2.length)] (by kernel_rfl) ?_)))
  obtain ⟨qz4, lz4, hlz4, hn4z, hq4z, hr4z, hs4z⟩ := row_slc (k := 0) hr2 (lo := (some (iv 8))) (hi := none) (mx := none) 8 l2.length (by omega) (.inr rfl) (.inl ⟨rfl, rfl, rfl⟩) (.inl rfl)
  have hs4y := hs4z.trans hs2
  refine o_s (by exact zjS rfl hq4z) ?_
  refine o_d 1 [(6, ze9 qz4 0 lz4.length)] (by kernel_rfl) (zG (⟨l.length - (i + 1), ?_⟩))
  refine ⟨⟨reg [(6, ze9 qz4 0 lz4.length), (5, pv 2 0), (1, ze9 q 0 l.length)], [zeI q (u8 L) false, cw [uv ka, uv kb], cw [uv y3.a, uv y3.b, uv y3.c, uv y3.d]]⟩, ?_⟩
  refine zf2 (by omega) ⟨?_, ?_⟩
  ·exact Wk.ren [0, 1, 2] rfl rfl (by decide) ⟨((zde rfl)).trans rfl, ⟨rfl, ⟨((zde rfl)).trans rfl, trivial⟩⟩⟩ ⟨.inl (zga (zgw _)), ⟨.inl rfl, ⟨.inl rfl, trivial⟩⟩⟩
  ·exact ⟨(i + 1), qz4, lz4, y3, rfl, (by omega), (drop8 hl2 hlz4), (by rw [← hy3, hlz2, hx, hl2]; rfl), hr4z, hs4y, rfl⟩
 have h1' : ¬ (((l2.length : Nat) : Int) ≥ 8) := of_decide_eq_false h1
 refine zcD (zC (zR (zV (o_d 2 [(33, ze9 q2 0 l2.length), (32, pv 2 0)] (by kernel_rfl) (zcc (callN [0] [zeI q2 (u8 L) false] [ze9 q2 0 l2.length] (numberC h_sip_number_byte q2 L l2 hr2 (by omega)) rfl (zaz (zde rfl) rfl) ⟨⟨_, rfl, ziJ (zgw _) hs2 (fun q => q)⟩, trivial⟩ (by decide) ?_))))))
 rintro v1 h1' ⟨rfl, rfl⟩
 refine ⟨zi4 [_] [], uv (zjs l2), [zeI q (u8 L) false, cw [uv ka, uv kb], cw [uv x.a, uv x.b, uv x.c, uv x.d]], [], rfl, ⟨(over_row hs2 rfl), ⟨rfl, ⟨rfl, trivial⟩⟩⟩, trivial, ?_⟩
 refine o_d 1 [(35, ze9 q 0 l.length)] (by kernel_rfl) (o_s (by exact zhD rfl hr.nil) ?_)
 refine o_d 3 [(39, uv (oo (zjs l2) (sl (((l.length : Nat) : Int) % 18446744073709551616) 56))), (38, uv (sl (((l.length : Nat) : Int) % 18446744073709551616) 56)), (37, uv (((l.length : Nat) : Int) % 18446744073709551616))] (by kernel_rfl) (zcc (callG [2] [cw [uv x.a, uv x.b, uv x.c, uv x.d]] [pv 0 0, uv (oo (zjs l2) (sl (((l.length : Nat) : Int) % 18446744073709551616) 56))] (takeC h_sip_state_take h_sip_state_rounds h_sip_state_round h_math_bits_RotateLeft64 x (oo (zjs l2) (sl (((l.length : Nat) : Int) % 18446744073709551616) 56))) rfl rfl ⟨⟨_, rfl, zcA rfl (fun q => rfl)⟩, trivial⟩ (by decide) ?_))
 rintro v1 h1' ⟨rfl, rfl⟩
 refine ⟨.tuple #[], [zeI q (u8 L) false, cw [uv ka, uv kb], cw [uv ((zgE (oo (zjs l2) (sl (((l.length : Nat) : Int) % 18446744073709551616) 56)) x).a), uv ((zgE (oo (zjs l2) (sl (((l.length : Nat) : Int) % 18446744073709551616) 56)) x).b), uv ((zgE (oo (zjs l2) (sl (((l.length : Nat) : Int) % 18446744073709551616) 56)) x).c), uv ((zgE (oo (zjs l2) (sl (((l.length : Nat) : Int) % 18446744073709551616) 56)) x).d)]], [], (by simp [zbF]), ⟨rfl, ⟨rfl, ⟨rfl, trivial⟩⟩⟩, trivial, ?_⟩
 generalize hy5 : zgE (oo (zjs l2) (sl (((l.length : Nat) : Int) % 18446744073709551616) 56)) x = y5
 refine zG (zC (zR (zV (o_b 8 [(47, pv 2 2), (46, pv 2 0), (45, uv (xo y5.c 255)), (44, uv y5.c), (43, pv 2 2), (42, pv 2 0), (41, pv 2 0)] [zeI q (u8 L) false, cw [uv ka, uv kb], cw [uv y5.a, uv y5.b, uv (xo y5.c 255), uv y5.d]] (by kernel_rfl) (zG (z5 [(5, pv 2 0)] (by kernel_rfl) (zR (zV (o_d 1 [(48, pv 2 0)] (by kernel_rfl) (zcc (callG [2] [cw [uv y5.a, uv y5.b, uv (xo y5.c 255), uv y5.d]] [pv 0 0, iv 4] (roundsC h_sip_state_rounds h_sip_state_round h_math_bits_RotateLeft64 (Q4.mk y5.a y5.b (xo y5.c 255) y5.d) 4 (by decide)) rfl rfl ⟨⟨_, rfl, zcA rfl (fun q => rfl)⟩, trivial⟩ (by decide) ?_)))))))))))
 rintro v1 h1' ⟨rfl, rfl⟩
 refine ⟨.tuple #[], [zeI q (u8 L) false, cw [uv ka, uv kb], cw [uv ((rnds 4 (Q4.mk y5.a y5.b (xo y5.c 255) y5.d)).a), uv ((rnds 4 (Q4.mk y5.a y5.b (xo y5.c 255) y5.d)).b), uv ((rnds 4 (Q4.mk y5.a y5.b (xo y5.c 255) y5.d)).c), uv ((rnds 4 (Q4.mk y5.a y5.b (xo y5.c 255) y5.d)).d)]], [], (by simp [zbF]), ⟨rfl, ⟨rfl, ⟨rfl, trivial⟩⟩⟩, trivial, ?_⟩
 generalize hy6 : rnds 4 (Q4.mk y5.a y5.b (xo y5.c 255) y5.d) = y6
 exact zG (zC (zR (zdz [] (by kernel_rfl) (r_d 20 [(4, uv (xo (xo (xo y6.a y6.b) y6.c) y6.d)), (68, uv (xo (xo (xo y6.a y6.b) y6.c) y6.d)), (67, uv y6.d), (66, pv 2 3), (65, pv 2 0), (64, pv 2 0), (63, uv (xo (xo y6.a y6.b) y6.c)), (62, uv y6.c), (61, pv 2 2), (60, pv 2 0), (59, pv 2 0), (58, uv (xo y6.a y6.b)), (57, uv y6.b), (56, pv 2 1), (55, pv 2 0), (54, pv 2 0), (53, uv y6.a), (52, pv 2 0), (51, pv 2 0), (50, pv 2 0)] (by kernel_rfl) (zc6 (z5 [(4, uv (xo (xo (xo y6.a y6.b) y6.c) y6.d))] (by kernel_rfl) (zaZ (⟨trivial, ⟨reg [(4, uv (xo (xo (xo y6.a y6.b) y6.c) y6.d))], [zeI q (u8 L) false]⟩, Wk.ren [0] rfl rfl (by decide) ⟨rfl, trivial⟩ ⟨.inl (zga (zgw _)), trivial⟩, [uv (xo (xo (xo y6.a y6.b) y6.c) y6.d)], (qE rfl rfl), (zU rfl qA), (congrArg (Value.int .u64) (ofS_eq (i := i) (by omega) hx hl2 rfl hy5 hy6)), rfl⟩))))))))
end Go.Rh

set_option maxHeartbeats 1000000
namespace Go.Rh
def zgN : IFunc := ⟨36, [.tmp 4], (.seq (.reg [kq 2 (.box (.t 0)), kq 4 (.mv (.c (.int .u64 0)))]) (.seq (.reg [km 9 1, kq 10 (.lenS (.t 9)), kq 11 (.bin .mul (ki 8) (.t 10)), kq 12 (.mks [(1, (.int .u8 0))] 1 1 (ki 0) (.t 11)), km 5 12]) (.seq (.seq (.reg [km 13 1, kq 14 (.lenS (.t 13)), kq 15 (.mv (ki 0))]) (.block 0 (.loop (.seq (.reg [kq 16 (.bin .lss (.t 15) (.t 14))]) (.seq (.cond (.t 16) .skip (.exit 0)) (.seq (.block 1 (.seq (.reg [kq 17 (.iadS 1 (.t 13) (.t 15)), kq 18 (.ld none (.t 17)), km 7 18]) (.seq (.reg [kq 19 (.mv (ki 0))]) (.block 2 (.loop (.seq (.reg [kq 20 (.bin .lss (.t 19) (ki 8))]) (.seq (.cond (.t 20) .skip (.exit 2)) (.seq (.block 3 (.seq (.reg [km 21 19, km 8 21]) (.reg [km 22 5, km 23 7, kq 24 (.cvi .u64 (.t 23)), km 25 8, kq 26 (.bin .mul (ki 8) (.t 25)), kq 27 (.bin .shr (.t 24) (.t 26)), kq 28 (.cvi .u8 (.t 27)), kq 29 (.bsl [(1, (.int .u8 0))] 1 1 [(0, 1, (.t 28))]), kq 30 (.app [(1, (.int .u8 0))] 1 1 (.t 22) (.t 29)), km 5 30]))) (.reg [kq 31 (.bin .add (.t 19) (ki 1)), km 19 31]))))))))) (.reg [kq 32 (.bin .add (.t 15) (ki 1)), km 15 32]))))))) (.seq (.reg [kq 33 (.ld (some 2) (.t 2)), km 34 5, kq 35 (.call "roundhouse/sip.Of" [(.t 33), (.t 34)]), km 4 35]) .ret))))⟩
abbrev zbC (P : Program) : Prop := z6 P "roundhouse/sip.Words" = some zgN
def wB (n : Int) : Nat → List Int
 | 0 => []
 | j + 1 => wB n j ++ [(n % 18446744073709551616).fdiv (2 ^ (min (8 * (j : Int)).toNat 64))]
def wsT (ns : List Int) : Nat → List Int
 | 0 => []
 | i + 1 => wsT ns i ++ wB (ns.getD i 0) 8
def zdG (ka kb : Int) (ns : List Int) : Int := ofS ka kb (wsT ns ns.length)
theorem wordsC {P : Program} (hc : zbC P) (h_sip_Of : zcP P) (h_sip_number_byte : zag P) (h_sip_state_take : zao P) (h_sip_state_rounds : qV P) (h_sip_state_round : qW P) (h_math_bits_RotateLeft64 : zY P) (ka kb : Int) (ns : List Int) (hl : ns.length ≤ 1000) :
    Env P "roundhouse/sip.Words" [.agg #[uv ka, uv kb], sv 0 0 ns.length ns.length] ([cr (ii ns)]) (fun v h' => v = uv (zdG ka kb ns) ∧ h' = [cr (ii ns)]) := by
 refine Env.by2 hc ?_
 unfold zgN
 show GC _ 1 _ _ ⟨reg [(0, .agg #[uv ka, uv kb]), (1, sv 0 0 ns.length ns.length)], [cr (ii ns)]⟩
 refine zR (zV (o_b 2 [(4, uv 0), (2, pv 1 0)] [cr (ii ns), cw [uv ka, uv kb]] (by kernel_rfl) (zG (zC (zR (zV (o_d 2 [(10, iv (ns.length : Nat)), (9, sv 0 0 ns.length ns.length)] (by kernel_rfl) (o_s (by refine zaf (v := .int .i64 (i64.wrap (8 * (ns.length : Nat)))) (congrArg (Value.int .i64) (w64 (by omega) (by omega))) ?_; kernel_rfl) ?_))))))))
 refine o_s (by exact run_mks0 rfl rfl rfl (by omega) (by first | rfl | omega) (by decide)) ?_
 refine o_b 1 [(5, sv 2 0 0 (0 + (8 * ns.length)))] [cr (ii ns), cw [uv ka, uv kb], cw (u8 ([] : List Int) ++ zbt zB (8 * ns.length))] (by kernel_rfl) (zG (zC (zR (zR (zV (o_d 3 [(15, iv 0), (14, iv (ns.length : Nat)), (13, sv 0 0 ns.length ns.length)] (by kernel_rfl) (zG (zC (zai (zdm (fun μ s => ∃ (i : Nat), ∃ (bs : List Int), ∃ (n : Nat), ∃ (o : Option Nat), μ = ns.length - i ∧ (i ≤ ns.length) ∧ (bs = wsT ns i) ∧ (bs.length = n ∧ n = 8 * i) ∧ (o = none → bs.length = 0) ∧ s = ⟨reg [(15, iv (i : Int)), (14, iv (ns.length : Nat)), (13, sv 0 0 ns.length ns.length), (5, slV 2 n o), (2, pv 1 0)], [cr (ii ns), cw [uv ka, uv kb], slB zB (u8 bs) o]⟩) ⟨(ns.length - 0), ?_⟩ ?_))))))))))
 ·skip
  refine ⟨⟨reg [(15, iv (0 : Int)), (14, iv (ns.length : Nat)), (13, sv 0 0 ns.length ns.length), (5, slV 2 0 (some (8 * ns.length))), (2, pv 1 0)], [cr (ii ns), cw [uv ka, uv kb], slB zB (u8 ([] : List Int)) (some (8 * ns.length))]⟩, ?_⟩
  refine ⟨?_, ?_⟩
  ·exact Wk.ren [0, 1, 2] rfl rfl (by decide) ⟨rfl, ⟨rfl, ⟨rfl, ⟨rfl, ⟨rfl, trivial⟩⟩⟩⟩⟩ ⟨.inl (zQ (zaY ns)), ⟨.inl rfl, ⟨.inl (zQ (ziD _ _)), trivial⟩⟩⟩
  ·exact ⟨0, ([] : List Int), 0, (some (8 * ns.length)), rfl, (Nat.zero_le _), rfl, ⟨rfl, rfl⟩, (fun _ => rfl), rfl⟩
 rintro μ s ⟨i, bs, n, o, rfl, hi, hbs, hn, ho, rfl⟩
 refine zR (zV (o_d 1 [(16, bv (decide ((i : Int) < (ns.length : Nat))))] (by kernel_rfl) (zG (zC (zR (zaj (t := decide ((i : Int) < (ns.length : Nat))) rfl (fun h1 => ?_) (fun h1 => ?_)))))))
 ·skip
  have h1' : (i : Int) < (ns.length : Nat) := of_decide_eq_true h1
  obtain ⟨x, hx, hdr, ht⟩ := zdK (l := ns) (i := i) (by omega)
  have hgx : ns.getD i 0 = x := by simp [List.getD_eq_getElem?_getD, hx]
  refine zaq (zC (zR (zai (zR (zV (o_s (by exact zf8 (o := 0) (o' := i) rfl rfl (by omega) (by omega)) ?_))))))
  refine o_s (by refine z4 (v := iv x) rfl rfl ?_; exact ii_r (i := i) (by omega) hx) ?_
  refine o_d 1 [(7, iv x)] (by kernel_rfl) (zG (zC (zR (zV (o_d 1 [(19, iv 0)] (by kernel_rfl) (zG (zC (zai (zdm (fun μ s => ∃ (j : Nat), ∃ (bs2 : List Int), ∃ (n2 : Nat), ∃ (o2 : Option Nat), μ = 8 - j ∧ (j ≤ 8) ∧ (bs2 = bs ++ wB x j) ∧ (bs2.length = n2 ∧ n2 = n + j) ∧ (o2 = none → bs2.length = 0) ∧ s = ⟨reg [(19, iv (j : Int)), (7, iv x), (15, iv (i : Int)), (14, iv (ns.length : Nat)), (13, sv 0 0 ns.length ns.length), (5, slV 2 n2 o2), (2, pv 1 0)], [cr (ii ns), cw [uv ka, uv kb], slB zB (u8 bs2) o2]⟩) ⟨(8 - 0), ?_⟩ ?_)))))))))
  ·skip
   refine ⟨⟨reg [(19, iv (0 : Int)), (7, iv x), (15, iv (i : Int)), (14, iv (ns.length : Nat)), (13, sv 0 0 ns.length ns.length), (5, slV 2 n o), (2, pv 1 0)], [cr (ii ns), cw [uv ka, uv kb], slB zB (u8 bs) o]⟩, ?_⟩
   refine ⟨?_, ?_⟩
   ·exact Wk.ren [0, 1, 2] rfl rfl (by decide) ⟨rfl, ⟨rfl, ⟨rfl, ⟨rfl, ⟨rfl, ⟨((zbn o rfl)).trans rfl, ⟨rfl, trivial⟩⟩⟩⟩⟩⟩⟩ ⟨.inl (zQ (zaY ns)), ⟨.inl rfl, ⟨.inl (zaM o (fun _ => (ziD _ _))), trivial⟩⟩⟩
   ·exact ⟨0, bs, n, o, rfl, (by omega), (List.append_nil _).symm, ⟨hn.1, rfl⟩, ho, rfl⟩
  rintro μ s ⟨j, bs2, n2, o2, rfl, hj, hb2, hn2, ho2, rfl⟩
  refine zR (zV (o_d 1 [(20, bv (decide ((j : Int) < 8)))] (by kernel_rfl) (zG (zC (zR (zaj (t := decide ((j : Int) < 8)) rfl (fun h2 => ?_) (fun h2 => ?_)))))))
  ·skip
   have h2' : (j : Int) < 8 := of_decide_eq_true h2
   refine zaq (zC (zR (zai (zR (zV (o_d 2 [(8, iv (j : Int)), (21, iv (j : Int))] (by kernel_rfl) (zG (zC (zV (o_d 4 [(25, iv (j : Int)), (24, uv (x % 18446744073709551616)), (23, iv x), (22, slV 2 n2 o2)] (by kernel_rfl) (o_s (by refine zaf (v := .int .i64 (i64.wrap (8 * (j : Int)))) (congrArg (Value.int .i64) (w64 (by omega) (by omega))) ?_; kernel_rfl) ?_)))))))))))
   refine o_b 3 [(29, sv 3 0 1 1), (28, .int .u8 (((x % 18446744073709551616).fdiv (2 ^ (min (8 * (j : Int)).toNat 64))) % 256)), (27, uv ((x % 18446744073709551616).fdiv (2 ^ (min (8 * (j : Int)).toNat 64))))] [cr (ii ns), cw [uv ka, uv kb], slB zB (u8 bs2) o2, cw [.int .u8 (((x % 18446744073709551616).fdiv (2 ^ (min (8 * (j : Int)).toNat 64))) % 256)]] (by kernel_rfl) (zhg (k := 2) (n := n2) (o := o2) (q := 1) (cs := u8 bs2) (xs := [.int .u8 (((x % 18446744073709551616).fdiv (2 ^ (min (8 * (j : Int)).toNat 64))) % 256)]) (cs2 := u8 (bs2 ++ [(x % 18446744073709551616).fdiv (2 ^ (min (8 * (j : Int)).toNat 64))])) (zl := zB) rfl rfl rfl (fun m q => by subst q; rfl) (fun z => by have h0 := ho2 z; have h1 := List.eq_nil_of_length_eq_zero h0; subst h1; exact ⟨by omega, rfl⟩) (by first | exact u8_len _ | (rw [u8_length]; omega) | simp [u8]) rfl rfl (zbK rfl rfl (by simp)) (by rfl) (by omega) (by omega) (u8_app1 rfl) (fun m3 e4 => ?_) (fun m3 => ?_))
   ·skip
    subst e4
    refine o_d 1 [(5, sv 2 0 (n2 + 1) (n2 + 1 + m3))] (by kernel_rfl) (zG (zC (zV (o_s (by refine zaf (v := .int .i64 (i64.wrap ((j : Int) + 1))) (congrArg (Value.int .i64) (w64 (by omega) (by omega))) ?_; kernel_rfl) ?_))))
    refine o_d 1 [(19, iv ((j : Int) + 1))] (by kernel_rfl) (zG (⟨8 - (j + 1), ?_⟩))
    refine ⟨⟨reg [(19, iv ((j + 1) : Int)), (7, iv x), (15, iv (i : Int)), (14, iv (ns.length : Nat)), (13, sv 0 0 ns.length ns.length), (5, slV 2 (n2 + 1) (some m3)), (2, pv 1 0)], [cr (ii ns), cw [uv ka, uv kb], slB zB (u8 (bs2 ++ [(x % 18446744073709551616).fdiv (2 ^ (min (8 * (j : Int)).toNat 64))])) (some m3)]⟩, ?_⟩
    refine zf2 (by omega) ⟨?_, ?_⟩
    ·exact Wk.ren [0, 1, 2] rfl rfl (by decide) ⟨rfl, ⟨rfl, ⟨rfl, ⟨rfl, ⟨rfl, ⟨rfl, ⟨rfl, trivial⟩⟩⟩⟩⟩⟩⟩ ⟨.inl (zQ (zaY ns)), ⟨.inl rfl, ⟨.inl (zQ (ziD _ _)), trivial⟩⟩⟩
    ·exact ⟨(j + 1), (bs2 ++ [(x % 18446744073709551616).fdiv (2 ^ (min (8 * (j : Int)).toNat 64))]), (n2 + 1), (some m3), rfl, by omega, (by rw [hb2, List.append_assoc]; rfl), (by simp only [List.length_append, List.length_singleton]; omega), (fun z => by cases z), rfl⟩
   refine o_d 1 [(5, sv 4 0 (n2 + 1) (n2 + 1 + m3))] (by kernel_rfl) (zG (zC (zV (o_s (by refine zaf (v := .int .i64 (i64.wrap ((j : Int) + 1))) (congrArg (Value.int .i64) (w64 (by omega) (by omega))) ?_; kernel_rfl) ?_))))
   refine o_d 1 [(19, iv ((j : Int) + 1))] (by kernel_rfl) (zG (⟨8 - (j + 1), ?_⟩))
   refine ⟨⟨reg [(19, iv ((j + 1) : Int)), (7, iv x), (15, iv (i : Int)), (14, iv (ns.length : Nat)), (13, sv 0 0 ns.length ns.length), (5, slV 2 (n2 + 1) (some m3)), (2, pv 1 0)], [cr (ii ns), cw [uv ka, uv kb], slB zB (u8 (bs2 ++ [(x % 18446744073709551616).fdiv (2 ^ (min (8 * (j : Int)).toNat 64))])) (some m3)]⟩, ?_⟩
   refine zf2 (by omega) ⟨?_, ?_⟩
   ·exact Wk.ren [0, 1, 4] rfl rfl (by decide) ⟨rfl, ⟨rfl, ⟨rfl, ⟨rfl, ⟨rfl, ⟨rfl, ⟨rfl, trivial⟩⟩⟩⟩⟩⟩⟩ ⟨.inl (zQ (zaY ns)), ⟨.inl rfl, ⟨.inl (zQ (ziD _ _)), trivial⟩⟩⟩
   ·exact ⟨(j + 1), (bs2 ++ [(x % 18446744073709551616).fdiv (2 ^ (min (8 * (j : Int)).toNat 64))]), (n2 + 1), (some m3), rfl, by omega, (by rw [hb2, List.append_assoc]; rfl), (by simp only [List.length_append, List.length_singleton]; omega), (fun z => by cases z), rfl⟩
  have h2' : ¬ ((j : Int) < 8) := of_decide_eq_false h2
  refine zcD (zC (zV (o_s (by refine zaf (v := .int .i64 (i64.wrap ((i : Int) + 1))) (congrArg (Value.int .i64) (w64 (by omega) (by omega))) ?_; kernel_rfl) ?_)))
  refine o_d 1 [(15, iv ((i : Int) + 1))] (by kernel_rfl) (zG (⟨ns.length - (i + 1), ?_⟩))
  refine ⟨⟨reg [(15, iv ((i + 1) : Int)), (14, iv (ns.length : Nat)), (13, sv 0 0 ns.length ns.length), (5, slV 2 n2 o2), (2, pv 1 0)], [cr (ii ns), cw [uv ka, uv kb], slB zB (u8 bs2) o2]⟩, ?_⟩
  refine zf2 (by omega) ⟨?_, ?_⟩
  ·exact Wk.ren [0, 1, 2] rfl rfl (by decide) ⟨rfl, ⟨rfl, ⟨rfl, ⟨((zbn o2 rfl)).trans rfl, ⟨rfl, trivial⟩⟩⟩⟩⟩ ⟨.inl (zQ (zaY ns)), ⟨.inl rfl, ⟨.inl (zaM o2 (fun _ => (ziD _ _))), trivial⟩⟩⟩
  ·exact ⟨(i + 1), bs2, n2, o2, rfl, by omega, (by rw [hb2, show j = 8 by omega, hbs, ← hgx]; rfl), (by omega), ho2, rfl⟩
 have h1' : ¬ ((i : Int) < (ns.length : Nat)) := of_decide_eq_false h1
 refine zcD (zC (zR (zV (o_d 2 [(34, slV 2 n o), (33, .agg #[uv ka, uv kb])] (by kernel_rfl) (zcc (callN [2] [zeI (qsl n o) (u8 (bs ++ List.replicate (o.getD 0) 0)) false] [.agg #[uv ka, uv kb], ze9 (qsl n o) 0 bs.length] (ofC h_sip_Of h_sip_number_byte h_sip_state_take h_sip_state_rounds h_sip_state_round h_math_bits_RotateLeft64 ka kb (qsl n o) (bs ++ List.replicate (o.getD 0) 0) bs (row_qsl ho (by omega)) (by omega)) rfl (zaz (qN rfl) (zaz (renV_qsl o rfl (by omega)) rfl)) ⟨⟨_, rfl, sees_qsl o⟩, trivial⟩ (by decide) ?_))))))
 rintro v1 h1' ⟨rfl, rfl⟩
 refine ⟨zi4 [_] [], uv (ofS ka kb bs), [cr (ii ns), cw [uv ka, uv kb], slB zB (u8 bs) o], [], rfl, ⟨rfl, ⟨rfl, ⟨(over_qsl rfl), trivial⟩⟩⟩, trivial, ?_⟩
 exact o_d 1 [(4, uv (ofS ka kb bs))] (by kernel_rfl) (zG (zC (zaZ (⟨trivial, ⟨reg [(4, uv (ofS ka kb bs))], [cr (ii ns)]⟩, Wk.ren [0] rfl rfl (by decide) ⟨rfl, trivial⟩ ⟨.inl (zQ (zaY ns)), trivial⟩, [uv (ofS ka kb bs)], (qE rfl rfl), (zU rfl qA), (congrArg (Value.int .u64) (congrArg (ofS ka kb) (by rw [hbs, show i = ns.length by omega]))), rfl⟩))))
end Go.Rh

namespace Go.Rh
def zI : List Value := [iv 0]
theorem za4 (l : List Int) : (ii l).length = l.length := by simp [ii]
theorem ii_len1 (l : List Int) : (ii l).length = l.length * 1 := by simp [ii]
theorem room_zI (m : Nat) : zbt zI m = ii (List.replicate m 0) := by
 induction m with
 | zero => rfl
 | succ n ih => simp only [zbt, List.replicate_succ, List.flatten_cons] at ih ⊢; rw [ih]; rfl
theorem ii_app (a b : List Int) : ii a ++ ii b = ii (a ++ b) := by simp [ii]
theorem zct (l : List Int) (m : Nat) : (ii l ++ zbt zI m).all zbL = true := by rw [room_zI, ii_app]; exact zaY _
theorem ii_g {l : List Int} {i o : Nat} (ho : o = i) (h : i < l.length) : zaw none (ii l) o = some (iv (l.getD i 0)) :=
 ii_r ho (by simp [List.getD_eq_getElem?_getD, h])
theorem ii_w {l : List Int} {i o : Nat} {v : Int} (ho : o = i) (h : i < l.length) : splice (ii l) o [iv v] = ii (l.set i v) := by
 subst ho
 refine zdv (by rw [zhz (by rw [za4]; exact h), za4, za4, List.length_set]) fun k hk => ?_
 rw [zjO (by rw [za4]; exact h)]
 simp only [ii, List.getElem?_map, List.length_singleton]
 rw [List.getElem?_set]
 by_cases hki : o = k
 ·subst hki; rw [if_pos ⟨Nat.le_refl _, by omega⟩, if_pos rfl, if_pos h]; simp
 ·rw [if_neg (by omega), if_neg hki]
theorem ii_all {l : List Int} {n : Nat} (h : l.length = n) : zaw (some n) (ii l) 0 = some (.agg ⟨ii l⟩) := by
 subst h; simp [zaw, za4, ← za4]
def eqI (a b : List Int) : Bool := decide (a = b)
theorem eqI_K : ∀ {n : Nat} {a b : List Int}, a.length = n → b.length = n → eqK (List.replicate n LK.i) (ii a) (ii b) = some (eqI a b)
 | 0, [], [], _, _ => rfl
 | n + 1, x :: a, y :: b, h1, h2 => by
  have ih := eqI_K (n := n) (a := a) (b := b) (by simpa using h1) (by simpa using h2)
  simp only [ii, List.replicate_succ, List.map_cons, eqK] at ih ⊢
  rw [ih]
  simp only [eq1K, eqI]
  by_cases hx : x = y <;> by_cases ha : a = b <;> simp [hx, ha]
 | 0, _ :: _, _, h, _ => by simp at h
 | 0, [], _ :: _, _, h => by simp at h
 | _ + 1, [], _, h, _ => by simp at h
 | _ + 1, _ :: _, [], _, h => by simp at h
theorem eqI_run {x y : Value} (a b : List Int) (ha : a.length = 127) (hb : b.length = 127) (hx : x = .agg ⟨ii a⟩) (hy : y = .agg ⟨ii b⟩) : x = .agg ⟨ii a⟩ ∧ y = .agg ⟨ii b⟩ ∧ eqK (zdc [(127, .i)]) (ii a) (ii b) = some (eqI a b) :=
 ⟨hx, hy, by rw [show zdc [(127, .i)] = List.replicate 127 LK.i by simp [zdc]]; exact eqI_K ha hb⟩
def zdP {α : Type} (f : α → List Value) (l : List α) : List Value := l.flatMap f
theorem zfc {α : Type} {f : α → List Value} {n : Nat} (hf : ∀ x, (f x).length = n) (l : List α) : (zdP f l).length = l.length * n := by
 induction l with
 | nil => simp [zdP]
 | cons x l ih => simp only [zdP, List.flatMap_cons, List.length_append, List.length_cons] at ih ⊢; rw [ih, hf, Nat.add_mul]; omega
theorem recL_app {α : Type} (f : α → List Value) (a b : List α) : zdP f a ++ zdP f b = zdP f (a ++ b) := by simp [zdP]
theorem recL_scl {α : Type} {f : α → List Value} (hf : ∀ x, (f x).all zbL = true) (l : List α) : (zdP f l).all zbL = true := by
 induction l with
 | nil => rfl
 | cons x l ih => simp only [zdP, List.flatMap_cons, List.all_append] at ih ⊢; rw [hf, ih]; rfl
theorem ziT {α : Type} {f : α → List Value} {l : List α} {i : Nat} {x : α} (hx : l[i]? = some x) : zdP f l = zdP f (l.take i) ++ (f x ++ zdP f (l.drop (i + 1))) := by
 have h := zL hx
 have : l = l.take i ++ x :: l.drop (i + 1) := by
  rw [List.getElem?_eq_getElem h] at hx; cases hx
  simp
 conv => lhs; rw [this]
 simp [zdP]
theorem rec_r {α : Type} {f : α → List Value} {n i j o : Nat} {m : Option Nat} {l : List α} {x : α} {v : Value} (hf : ∀ x, (f x).length = n) (ho : o = n * i + j) (hx : l[i]? = some x) (h : zaw m (f x) j = some v) : zaw m (zdP f l) o = some v := by
 have hl := zL hx
 rw [ziT hx, ho, zfF (by rw [zfc hf, List.length_take, Nat.min_eq_left (by omega), Nat.mul_comm])]
 exact zdS h
theorem rec_w {α : Type} {f : α → List Value} {n i j o : Nat} {l : List α} {x y : α} {vs : List Value} (hf : ∀ x, (f x).length = n) (ho : o = n * i + j) (hx : l[i]? = some x) (hj : j + vs.length ≤ n) (h : splice (f x) j vs = f y) : splice (zdP f l) o vs = zdP f (l.set i y) := by
 have hl := zL hx
 have hy : (l.set i y)[i]? = some y := by simp [hl]
 rw [ziT hx, ziT hy, ho, zcy (by rw [zfc hf, List.length_take, Nat.min_eq_left (by omega), Nat.mul_comm]), zeC (by rw [hf]; exact hj), h]
 rw [List.take_set_of_le (Nat.le_refl _), List.drop_set_of_lt (by omega)]
structure Wl where
  (s a b w : Int)
def wlF (x : Wl) : List Value := [iv x.s, iv x.a, iv x.b, iv x.w]
def zW : List Value := [iv 0, iv 0, iv 0, iv 0]
theorem ze6 (x : Wl) : (wlF x).length = 4 := rfl
theorem zdq (l : List Wl) (m : Nat) : (zdP wlF l ++ zbt zW m).all zbL = true := zfm (recL_scl (fun _ => rfl) l) (zha rfl m)
theorem wl_app1 (l : List Wl) (s a b w : Int) : zdP wlF l ++ [iv s, iv a, iv b, iv w] = zdP wlF (l ++ [⟨s, a, b, w⟩]) := by rw [← recL_app]; rfl
def zcl (m : Int) (ns : List Int) : Int := zdG 0 0 ns % m
theorem xo_rng (a b : Int) : 0 ≤ xo a b ∧ xo a b < 18446744073709551616 := by
 show 0 ≤ (_ : Int) % 18446744073709551616 ∧ (_ : Int) % 18446744073709551616 < 18446744073709551616
 omega
theorem words_rng (ka kb : Int) (ns : List Int) : 0 ≤ zdG ka kb ns ∧ zdG ka kb ns < 18446744073709551616 := xo_rng _ _
theorem spun_eq {m : Int} {ns : List Int} (h : 0 < m ∧ m ≤ 1000) : i64.wrap ((zdG 0 0 ns).tmod m) = zcl m ns := by
 have h1 := words_rng 0 0 ns
 rw [rem_nn (by omega)]
 have h2 := Int.emod_nonneg (zdG 0 0 ns) (by omega : m ≠ 0)
 have h3 := Int.emod_lt_of_pos (zdG 0 0 ns) h.1
 exact w64 (by omega) (by omega)
theorem zil {m : Int} {ns : List Int} (h : 0 < m) : 0 ≤ zcl m ns ∧ zcl m ns < m := ⟨Int.emod_nonneg _ (by omega), Int.emod_lt_of_pos _ h⟩
def wlOf (p : qL) (i : Nat) : Wl := ⟨i, zcl 127 [1, p (3 + 5 * i + 1), p (3 + 5 * i + 2)], 1 + zcl 126 [2, p (3 + 5 * i + 1), p (3 + 5 * i + 2)], (if (8 : Int) < (if (1 : Int) > p (3 + 5 * i + 3) then (1 : Int) else p (3 + 5 * i + 3)) then (8 : Int) else (if (1 : Int) > p (3 + 5 * i + 3) then (1 : Int) else p (3 + 5 * i + 3)))⟩
def wlks (p : qL) : Nat → List Wl
 | 0 => []
 | i + 1 => if p (3 + 5 * i) = 2 then wlks p i ++ [wlOf p i] else wlks p i
structure WlOk (x : Wl) : Prop where
  s : 0 ≤ x.s ∧ x.s < 64
  a : 0 ≤ x.a ∧ x.a < 127
  b : 1 ≤ x.b ∧ x.b ≤ 126
  w : 1 ≤ x.w ∧ x.w ≤ 8
theorem wlOf_ok (p : qL) {i : Nat} (h : i < 64) : WlOk (wlOf p i) := by
 have h1 := zil (m := 127) (ns := [1, p (3 + 5 * i + 1), p (3 + 5 * i + 2)]) (by omega)
 have h2 := zil (m := 126) (ns := [2, p (3 + 5 * i + 1), p (3 + 5 * i + 2)]) (by omega)
 refine ⟨by simp only [wlOf]; omega, h1, by simp only [wlOf]; omega, ?_⟩
 simp only [wlOf]
 (repeat' split) <;> omega
theorem wlks_ok (p : qL) : ∀ {n : Nat}, n ≤ 64 → ∀ x ∈ wlks p n, WlOk x
 | 0, _, _, hx => by simp [wlks] at hx
 | n + 1, h, x, hx => by
  simp only [wlks] at hx
  split at hx
  ·rcases List.mem_append.1 hx with q | q
   ·exact wlks_ok p (by omega) x q
   ·simp at q; subst q; exact wlOf_ok p (by omega)
  ·exact wlks_ok p (by omega) x hx
theorem wlks_len (p : qL) : ∀ n, (wlks p n).length ≤ n
 | 0 => by simp [wlks]
 | n + 1 => by
  have := wlks_len p n
  simp only [wlks]; split <;> simp <;> omega
def nobodyL : List Int := List.replicate 127 (-1)
def ze2 (W : List Int) : Nat := W.count (-1)
def prb (W : List Int) (b : Int) : Nat → Int → Int
 | 0, a => a
 | n + 1, a => if W.getD a.toNat 0 = -1 then a else prb W b n ((a + b) % 127)
abbrev WS := List Int × List Wl
def zjr (k : Nat) (S : WS) : WS := if ze2 S.1 = 0 then S else match S.2[k]? with
 | none => S
 | some x => (S.1.set (prb S.1 x.b 127 x.a).toNat x.s, S.2.set k ⟨x.s, prb S.1 x.b 127 x.a, x.b, x.w⟩)
def itr {α : Type} (f : α → α) : Nat → α → α
 | 0, x => x
 | n + 1, x => f (itr f n x)
def wtOf (l0 : List Wl) (k : Nat) : Nat := match l0[k]? with
 | none => 0
 | some x => x.w.toNat
def zfA (l0 : List Wl) (S : WS) : Nat → WS
 | 0 => S
 | k + 1 => itr (zjr k) (wtOf l0 k) (zfA l0 S k)
def zcd (l0 : List Wl) (r : Nat) : WS := itr (fun S => zfA l0 S l0.length) r (nobodyL, l0)
def zaI (p : qL) : List Int := (zcd (wlks p 64) 127).1
theorem turn_full {k : Nat} {S : WS} (h : ze2 S.1 = 0) : zjr k S = S := by simp [zjr, h]
theorem zhj {α : Type} {f : α → α} {x : α} (h : f x = x) : ∀ n, itr f n x = x
 | 0 => rfl
 | n + 1 => by simp only [itr]; rw [zhj h n, h]
theorem itr_add {α : Type} (f : α → α) (x : α) (m : Nat) : ∀ n, itr f (n + m) x = itr f n (itr f m x)
 | 0 => by simp [itr]
 | n + 1 => by rw [show n + 1 + m = n + m + 1 by omega]; simp only [itr]; rw [itr_add f x m n]
theorem zhF {l0 : List Wl} {S0 S : WS} {k : Nat} (h : ze2 S.1 = 0) (hk : zfA l0 S0 k = S) : ∀ n, zfA l0 S0 (k + n) = S
 | 0 => hk
 | n + 1 => by rw [show k + (n + 1) = (k + n) + 1 by omega]; simp only [zfA]; rw [zhF h hk n]; exact zhj (turn_full h) _
theorem ziO {l0 : List Wl} {r : Nat} {S : WS} (h : ze2 S.1 = 0) (hr : zcd l0 r = S) {n : Nat} (hn : r ≤ n) : zcd l0 n = S := by
 obtain ⟨m, rfl⟩ : ∃ m, n = m + r := ⟨n - r, by omega⟩
 unfold zcd at hr ⊢
 rw [itr_add, hr]
 refine zhj ?_ m
 have := zhF (l0 := l0) (S0 := S) (k := 0) h rfl l0.length
 simpa using this
theorem point_full {l0 : List Wl} {r k t : Nat} {S : WS} (hS : S = itr (zjr k) t (zfA l0 (zcd l0 r) k)) (hk : k < l0.length) (ht : t ≤ wtOf l0 k) (h : ze2 S.1 = 0) : zcd l0 (r + 1) = S := by
 have h1 : zfA l0 (zcd l0 r) (k + 1) = S := by
  show itr (zjr k) (wtOf l0 k) (zfA l0 (zcd l0 r) k) = S
  obtain ⟨m, hm⟩ : ∃ m, wtOf l0 k = m + t := ⟨wtOf l0 k - t, by omega⟩
  rw [hm, itr_add, ← hS]; exact zhj (turn_full h) m
 have h2 := zhF h h1 (l0.length - (k + 1))
 rw [show k + 1 + (l0.length - (k + 1)) = l0.length by omega] at h2
 exact h2
theorem inv127 : ∀ b : Fin 127, b.val ≠ 0 → ∃ c : Fin 127, (b.val * c.val) % 127 = 1 := by decide
theorem free_at {W : List Int} (h : ze2 W ≠ 0) : ∃ i, i < W.length ∧ W.getD i 0 = -1 := by
 have h1 : 0 < W.count (-1) := Nat.pos_of_ne_zero h
 have h2 : (-1 : Int) ∈ W := List.count_pos_iff.1 h1
 obtain ⟨i, hi, e⟩ := List.getElem_of_mem h2
 exact ⟨i, hi, by simp [List.getD_eq_getElem?_getD, hi, e]⟩
theorem reach {a b : Int} (ha : 0 ≤ a ∧ a < 127) (hb : 1 ≤ b ∧ b ≤ 126) (t : Nat) (ht : t < 127) : ∃ n : Nat, n < 127 ∧ (a + n * b) % 127 = t := by
 obtain ⟨c, hc⟩ := inv127 ⟨b.toNat, by omega⟩ (by simp; omega)
 simp only at hc
 refine ⟨((((t : Int) - a) * c.val) % 127).toNat, by omega, ?_⟩
 have hb' : ((b.toNat : Nat) : Int) = b := by omega
 have hc' : (b * (c.val : Int)) % 127 = 1 := by rw [← hb']; exact_mod_cast hc
 rw [Int.toNat_of_nonneg (by omega)]
 have e1 : (((t : Int) - a) * c.val % 127 * b) % 127 = ((t : Int) - a) % 127 := by
  rw [Int.mul_emod, Int.emod_emod, ← Int.mul_emod, Int.mul_assoc, Int.mul_comm (c.val : Int) b, Int.mul_emod, hc', Int.mul_one, Int.emod_emod]
 omega
theorem least {P : Nat → Prop} [DecidablePred P] {n : Nat} (h : P n) : ∃ m, m ≤ n ∧ P m ∧ ∀ k, k < m → ¬ P k := by
 induction n using Nat.strongRecOn with
 | _ n ih =>
  by_cases hq : ∃ k, k < n ∧ P k
  ·obtain ⟨k, hk, hp⟩ := hq
   obtain ⟨m, h1, h2, h3⟩ := ih k hk hp
   exact ⟨m, by omega, h2, h3⟩
  ·exact ⟨n, Nat.le_refl _, h, fun k hk hp => hq ⟨k, hk, hp⟩⟩
def zdo (a b : Int) (m : Nat) : Int := (a + m * b) % 127
theorem walk_0 {a b : Int} (ha : 0 ≤ a ∧ a < 127) : zdo a b 0 = a := by unfold zdo; omega
theorem walk_1 (a b : Int) (m : Nat) : (zdo a b m + b) % 127 = zdo a b (m + 1) := by
 unfold zdo; rw [show ((m + 1 : Nat) : Int) * b = m * b + b by push_cast; rw [Int.add_mul, Int.one_mul]]; omega
theorem walk_rng (a b : Int) (m : Nat) : 0 ≤ zdo a b m ∧ zdo a b m < 127 := by unfold zdo; omega
theorem prb_walk {W : List Int} {a b : Int} {n : Nat} (hW : W.getD (zdo a b n).toNat 0 = -1) : ∀ (d m f : Nat), m + d = n → d < f → (∀ k, m ≤ k → k < n → W.getD (zdo a b k).toNat 0 ≠ -1) → prb W b f (zdo a b m) = zdo a b n
 | 0, m, f + 1, e, _, _ => by
  have : m = n := by omega
  subst this; simp only [prb]; rw [if_pos hW]
 | d + 1, m, f + 1, e, hf, hk => by
  simp only [prb]
  rw [if_neg (hk m (Nat.le_refl _) (by omega)), walk_1]
  exact prb_walk hW d (m + 1) f (by omega) (by omega) fun k h1 h2 => hk k (by omega) h2
 | _, _, 0, _, h, _ => by omega
theorem found {W : List Int} {a b : Int} (hW : W.length = 127) (hf : ze2 W ≠ 0) (ha : 0 ≤ a ∧ a < 127) (hb : 1 ≤ b ∧ b ≤ 126) : ∃ n, n < 127 ∧ W.getD (zdo a b n).toNat 0 = -1 ∧ (∀ k, k < n → W.getD (zdo a b k).toNat 0 ≠ -1) ∧ prb W b 127 a = zdo a b n := by
 obtain ⟨i, hi, hg⟩ := free_at hf
 obtain ⟨n, hn, he⟩ := reach ha hb i (by omega)
 have h0 : W.getD (zdo a b n).toNat 0 = -1 := by unfold zdo; rw [he]; simpa using hg
 obtain ⟨m, h1, h2, h3⟩ := least (P := fun n => W.getD (zdo a b n).toNat 0 = -1) h0
 refine ⟨m, by omega, h2, h3, ?_⟩
 have := prb_walk h2 m 0 127 (by omega) (by omega) fun k _ hk => h3 k hk
 rwa [walk_0 ha] at this
theorem free_set {W : List Int} {i : Nat} {s : Int} (hi : i < W.length) (h : W.getD i 0 = -1) (hs : s ≠ -1) : ze2 (W.set i s) + 1 = ze2 W := by
 have e : W[i] = -1 := by simpa [List.getD_eq_getElem?_getD, hi] using h
 unfold ze2
 rw [List.count_set hi]
 have : 0 < W.count (-1) := List.count_pos_iff.2 (e ▸ List.getElem_mem hi)
 simp [e, hs]; omega
theorem set_neq {W : List Int} {i : Nat} {s : Int} (hi : i < W.length) (h : W.getD i 0 = -1) (hs : s ≠ -1) : eqI (W.set i s) W = false := by
 refine decide_eq_false fun q => ?_
 have := congrArg (fun l => List.getD l i 0) q
 simp only [h] at this
 simp [List.getD_eq_getElem?_getD, hi] at this
 exact hs this
structure WOk (l0 : List Wl) (W : List Int) (l : List Wl) : Prop where
  len : l.length = l0.length
  wl : W.length = 127
  same : ∀ (k : Nat) (x : Wl), l[k]? = some x → ∃ y, l0[k]? = some y ∧ x.s = y.s ∧ x.b = y.b ∧ x.w = y.w ∧ 0 ≤ x.a ∧ x.a < 127
  good : ∀ y ∈ l0, WlOk y
theorem WOk.init {l0 : List Wl} (h : ∀ y ∈ l0, WlOk y) : WOk l0 nobodyL l0 :=
 ⟨rfl, rfl, fun k x hx => ⟨x, hx, rfl, rfl, rfl, (h x (List.mem_of_getElem? hx)).a⟩, h⟩
theorem WOk.at_ {l0 l : List Wl} {W : List Int} (h : WOk l0 W l) {k : Nat} {x : Wl} (hx : l[k]? = some x) : WlOk x ∧ wtOf l0 k = x.w.toNat := by
 obtain ⟨y, h1, h2, h3, h4, h5⟩ := h.same k x hx
 have hy := h.good y (List.mem_of_getElem? h1)
 refine ⟨⟨h2 ▸ hy.s, h5, h3 ▸ hy.b, h4 ▸ hy.w⟩, ?_⟩
 simp [wtOf, h1, h4]
theorem WOk.set {l0 l : List Wl} {W : List Int} (h : WOk l0 W l) {k : Nat} {x : Wl} (hx : l[k]? = some x) {a : Int} (ha : 0 ≤ a ∧ a < 127) : WOk l0 W (l.set k ⟨x.s, a, x.b, x.w⟩) := by
 refine ⟨by rw [List.length_set]; exact h.len, h.wl, fun j z hz => ?_, h.good⟩
 have hl := zL hx
 rw [List.getElem?_set] at hz
 by_cases hj : k = j
 ·subst hj
  rw [if_pos rfl, if_pos hl] at hz; cases hz
  obtain ⟨y, h1, h2, h3, h4, _⟩ := h.same k x hx
  exact ⟨y, h1, h2, h3, h4, ha⟩
 ·rw [if_neg hj] at hz; exact h.same j z hz
theorem WOk.put {l0 l : List Wl} {W : List Int} (h : WOk l0 W l) (i : Nat) (s : Int) : WOk l0 (W.set i s) l :=
 ⟨h.len, by rw [List.length_set]; exact h.wl, h.same, h.good⟩
theorem turn_eq {W : List Int} {l : List Wl} {k n : Nat} {x : Wl} (hf : ze2 W ≠ 0) (hx : l[k]? = some x) (hp : prb W x.b 127 x.a = zdo x.a x.b n) : zjr k (W, l) = (W.set (zdo x.a x.b n).toNat x.s, l.set k ⟨x.s, zdo x.a x.b n, x.b, x.w⟩) := by
 simp [zjr, hf, hx, hp]
theorem run_stSl {d : Option Nat} {n n2 : Nat} {x y : Opd} {L : List (Nat × Value)} {hp : List Blk} {k o : Nat} {c c' z : List Value} {q : Option Nat} (hx : evf (reg L) x = .pointer (some ⟨k, o, none⟩)) (hk : hp[k]? = some (slB z c q)) (hq : q = none → n2 = 0) (hn2 : 0 < n2) (ht : zbQ (evf (reg L) y) = false) (hl : (zdb (evf (reg L) y)).length = n) (ho : o + n ≤ c.length) (hc : splice c o (zdb (evf (reg L) y)) = c') : zdE [⟨d, .st n x y, none⟩] ⟨reg L, hp⟩ = some ⟨zaD (reg L) d undef, hp.set k (slB z c' q)⟩ := by
 cases q with
 | none => have := hq rfl; omega
 | some m =>
  refine qQ (c := c ++ zbt z m) (c' := c' ++ zbt z m) hx (zay.2 ⟨hk, by simp [slB]⟩) ht hl (by simp; omega) ?_
  rw [zeC (by omega), hc]
theorem rounds_nil (n : Nat) : zcd [] n = (nobodyL, []) := by
 unfold zcd; exact zhj rfl n
theorem fin_a {l0 l : List Wl} {W : List Int} {r : Nat} {f : Int} (hS : (W, l) = zcd l0 r) (hf : f = if l0.length = 0 then 0 else ((ze2 W : Nat) : Int)) (hr : f + r ≤ 127) (h0 : ¬ f > 0) : W = (zcd l0 127).1 := by
 by_cases h : l0.length = 0
 ·have : l0 = [] := List.eq_nil_of_length_eq_zero h
  subst this
  rw [rounds_nil] at hS ⊢; exact congrArg Prod.fst hS
 ·rw [if_neg h] at hf
  rw [ziO (S := (W, l)) (by show ze2 W = 0; omega) hS.symm (by omega)]
theorem fin_b {l0 l : List Wl} {W : List Int} {r k t : Nat} {f : Int} (hS : (W, l) = itr (zjr k) t (zfA l0 (zcd l0 r) k)) (hk : k < l0.length) (ht : t ≤ wtOf l0 k) (hf : f = ((ze2 W : Nat) : Int)) (h0 : f = 0) (hr : r + 1 ≤ 127) : W = (zcd l0 127).1 := by
 rw [ziO (S := (W, l)) (by show ze2 W = 0; omega) (point_full hS hk ht (by show ze2 W = 0; omega)) hr]
theorem set_id {l : List Wl} {k : Nat} {x : Wl} (hx : l[k]? = some x) (ha : 0 ≤ x.a ∧ x.a < 127) : l = l.set k ⟨x.s, zdo x.a x.b 0, x.b, x.w⟩ := by
 rw [walk_0 ha]
 have h := zL hx
 rw [List.getElem?_eq_getElem h] at hx; cases hx
 exact (List.set_getElem_self h).symm
theorem nob_next {i : Nat} {W : List Int} (h : W = List.replicate i (-1) ++ List.replicate (127 - i) 0) (hi : i < 127) : W.set i (-1) = List.replicate (i + 1) (-1) ++ List.replicate (127 - (i + 1)) 0 := by
 subst h
 rw [List.set_append_right _ _ (by simp)]
 simp only [List.length_replicate, Nat.sub_self]
 rw [show 127 - i = (127 - (i + 1)) + 1 by omega, List.replicate_succ, List.set_cons_zero, List.replicate_succ', List.append_assoc]; rfl
end Go.Rh

set_option maxHeartbeats 8000000
namespace Go.Rh
def zeG : IFunc := ⟨11, [.tmp 4], (.seq (.reg [kq 4 (.mv (ki 0))]) (.seq (.reg [kq 5 (.bld [(2, (.int .u64 0))] []), km 6 1, kq 7 (.call "roundhouse/sip.Words" [(.t 5), (.t 6)]), km 8 0, kq 9 (.bin .rem (.t 7) (.t 8)), kq 10 (.cvi .i64 (.t 9)), km 4 10]) .ret))⟩
abbrev zbw (P : Program) : Prop := z6 P "roundhouse/wheel.spun" = some zeG
def zfO : IFunc := ⟨113, [.tmp 2], (.seq (.reg [kq 1 (.box (.t 0)), kq 2 (.mv (.c (.slice none 0 0)))]) (.scp 0 (.seq .skip (.seq (.block 4 (.loop (.seq (.seq (.reg [km 52 8, kq 53 (.bin .gtr (.t 52) (ki 0))]) (.cond (.t 53) .skip (.exit 4))) (.block 5 (.seq (.reg [km 54 5, kq 55 (.lenS (.t 54)), kq 56 (.mv (ki 0))]) (.block 6 (.loop (.seq (.reg [kq 57 (.bin .lss (.t 56) (.t 55))]) (.seq (.cond (.t 57) .skip (.exit 6)) (.seq (.block 7 (.seq (.reg [km 58 56, km 9 58]) (.seq (.reg [km 59 5, km 60 9, kq 61 (.iadS 4 (.t 59) (.t 60)), kq 62 (.fad 3 (.t 61)), kq 63 (.ld none (.t 62)), kq 64 (.mv (ki 0))]) (.block 8 (.loop (.seq (.reg [kq 65 (.bin .lss (.t 64) (.t 63))]) (.seq (.cond (.t 65) .skip (.exit 8)) (.seq (.block 9 (.seq (.seq (.reg [km 66 8, kq 67 (.bin .eql (.t 66) (ki 0))]) (.cond (.t 67) (.exit 4) .skip)) (.seq (.reg [kq 68 (.ld (some 127) (.t 3)), kq 10 (.new [(127, (.int .i64 0))]), ku (.st 127 (.t 10) (.t 68))]) (.seq (.block 10 (.loop (.seq (.seq (.reg [km 69 5, km 70 9, kq 71 (.iadS 4 (.t 69) (.t 70)), kq 72 (.fad 1 (.t 71)), kq 73 (.ld none (.t 72)), kq 74 (.iadA 127 1 (.t 3) (.t 73)), kq 75 (.ld none (.t 74)), kq 76 (.bin .neq (.t 75) (ki (-1)))]) (.cond (.t 76) .skip (.exit 10))) (.block 11 (.dreg [km 77 5, km 78 9, km 79 5, km 80 9, kq 81 (.iadS 4 (.t 79) (.t 80)), kq 82 (.fad 1 (.t 81)), kq 83 (.ld none (.t 82)), km 84 5, km 85 9, kq 86 (.iadS 4 (.t 84) (.t 85)), kq 87 (.fad 2 (.t 86)), kq 88 (.ld none (.t 87)), kq 89 (.bin .add (.t 83) (.t 88)), kq 90 (.bin .rem (.t 89) (ki 127)), kq 91 (.iadS 4 (.t 77) (.t 78)), kq 92 (.fad 1 (.t 91)), ku (.st 1 (.t 92) (.t 90))] [[], [], [], [], [2, 3], [4, 2, 3], [5, 4, 2, 3], [], [], [7, 8], [9, 7, 8], [10, 9, 7, 8], [6, 5, 4, 2, 3, 11, 10, 9, 7, 8], [12, 6, 5, 4, 2, 3, 11, 10, 9, 7, 8], [0, 1, 2, 3, 4, 5, 6, 7, 8, 9, 10, 11, 12, 13], [14, 0, 1, 2, 3, 4, 5, 6, 7, 8, 9, 10, 11, 12, 13], [15, 14, 0, 1, 2, 3, 4, 5, 6, 7, 8, 9, 10, 11, 12, 13]]))))) (.seq (.dreg [km 93 5, km 94 9, kq 95 (.iadS 4 (.t 93) (.t 94)), kq 96 (.fad 1 (.t 95)), kq 97 (.ld none (.t 96)), km 98 5, km 99 9, kq 100 (.iadS 4 (.t 98) (.t 99)), kq 101 (.fad 0 (.t 100)), kq 102 (.ld none (.t 101)), kq 103 (.iadA 127 1 (.t 3) (.t 97)), ku (.st 1 (.t 103) (.t 102))] [[], [], [0, 1], [2, 0, 1], [3, 2, 0, 1], [], [], [5, 6], [7, 5, 6], [8, 7, 5, 6], [4, 3, 2, 0, 1, 5, 6, 7, 8, 9], [10, 4, 3, 2, 0, 1, 5, 6, 7, 8, 9]]) (.seq (.reg [kq 104 (.ld (some 127) (.t 3)), kq 105 (.ld (some 127) (.t 10)), kq 106 (.eqa true [(127, .i)] (.t 104) (.t 105))]) (.cond (.t 106) (.reg [km 107 8, kq 108 (.bin .sub (.t 107) (ki 1)), km 8 108]) .skip))))))) (.reg [kq 109 (.bin .add (.t 64) (ki 1)), km 64 109]))))))))) (.reg [kq 110 (.bin .add (.t 56) (ki 1)), km 56 110]))))))))))) (.seq (.reg [kq 111 (.slcA 127 1 (.t 3) none none none), kq 112 (.app [(1, (.int .i64 0))] 1 8 (.c (.slice none 0 0)) (.t 111)), km 2 112]) .ret))) (.seq (.reg [kq 3 (.new [(127, (.int .i64 0))])]) (.seq (.seq (.reg [kq 11 (.mv (ki 0))]) (.block 0 (.loop (.seq (.reg [kq 12 (.bin .lss (.t 11) (ki 127))]) (.seq (.cond (.t 12) .skip (.exit 0)) (.seq (.block 1 (.seq (.reg [km 13 11, km 4 13]) (.reg [km 14 4, kq 15 (.iadA 127 1 (.t 3) (.t 14)), ku (.st 1 (.t 15) (ki (-1)))]))) (.reg [kq 16 (.bin .add (.t 11) (ki 1)), km 11 16]))))))) (.seq (.reg [kq 5 (.mv (.c (.slice none 0 0)))]) (.seq (.seq (.reg [kq 17 (.fad 3 (.t 1)), kq 18 (.ld (some 320) (.t 17)), kq 19 (.mv (ki 0))]) (.block 2 (.loop (.seq (.reg [kq 20 (.bin .lss (.t 19) (ki 64))]) (.seq (.cond (.t 20) .skip (.exit 2)) (.seq (.block 3 (.seq (.reg [km 21 19, kq 22 (.ixA 64 5 (some 5) (.t 18) (.t 19)), kq 7 (.new [(5, (.int .i64 0))]), km 6 21, ku (.st 5 (.t 7) (.t 22))]) (.seq (.reg [kq 23 (.fad 0 (.t 7)), kq 24 (.ld none (.t 23)), kq 25 (.bin .eql (.t 24) (ki 2))]) (.cond (.t 25) (.dreg [km 26 5, km 27 6, kq 28 (.fad 1 (.t 7)), kq 29 (.ld none (.t 28)), kq 30 (.fad 2 (.t 7)), kq 31 (.ld none (.t 30)), kq 32 (.bsl [(1, (.int .i64 0))] 1 3 [(0, 1, (ki 1)), (1, 1, (.t 29)), (2, 1, (.t 31))]), kq 33 (.call "roundhouse/wheel.spun" [(.c (.int .u64 127)), (.t 32)]), kq 34 (.fad 1 (.t 7)), kq 35 (.ld none (.t 34)), kq 36 (.fad 2 (.t 7)), kq 37 (.ld none (.t 36)), kq 38 (.bsl [(1, (.int .i64 0))] 1 3 [(0, 1, (ki 2)), (1, 1, (.t 35)), (2, 1, (.t 37))]), kq 39 (.call "roundhouse/wheel.spun" [(.c (.int .u64 126)), (.t 38)]), kq 40 (.bin .add (ki 1) (.t 39)), kq 41 (.fad 3 (.t 7)), kq 42 (.ld none (.t 41)), kq 43 (.mm true (.t 42) (ki 1)), kq 44 (.mm false (.t 43) (ki 8)), kq 45 (.bld [(4, (.int .i64 0))] [(0, 1, (.t 27)), (1, 1, (.t 33)), (2, 1, (.t 40)), (3, 1, (.t 44))]), kq 46 (.bsl [(4, (.int .i64 0))] 4 1 [(0, 4, (.t 45))]), kq 47 (.app [(4, (.int .i64 0))] 4 32 (.t 26) (.t 46)), km 5 47] [[], [], [], [2], [], [4], [3, 2, 5, 4], [6, 3, 2, 5, 4], [], [8], [], [10], [9, 8, 11, 10], [12, 9, 8, 11, 10, 7, 6, 3, 2, 5, 4], [13, 12, 9, 8, 11, 10, 7, 6, 3, 2, 5, 4], [], [15], [16, 15], [17, 16, 15], [1, 7, 6, 3, 2, 5, 4, 14, 13, 12, 9, 8, 11, 10, 18, 17, 16, 15], [19, 1, 7, 6, 3, 2, 5, 4, 14, 13, 12, 9, 8, 11, 10, 18, 17, 16, 15], [0, 20, 19, 1, 7, 6, 3, 2, 5, 4, 14, 13, 12, 9, 8, 11, 10, 18, 17, 16, 15], [21, 0, 20, 19, 1, 7, 6, 3, 2, 5, 4, 14, 13, 12, 9, 8, 11, 10, 18, 17, 16, 15]]) .skip)))) (.reg [kq 48 (.bin .add (.t 19) (ki 1)), km 19 48]))))))) (.seq (.reg [kq 8 (.mv (ki 127))]) (.seq (.seq (.reg [km 49 5, kq 50 (.lenS (.t 49)), kq 51 (.bin .eql (.t 50) (ki 0))]) (.cond (.t 51) (.reg [kq 8 (.mv (ki 0))]) .skip)) (.seq (.label 0) (.seq (.block 4 (.loop (.seq (.seq (.reg [km 52 8, kq 53 (.bin .gtr (.t 52) (ki 0))]) (.cond (.t 53) .skip (.exit 4))) (.block 5 (.seq (.reg [km 54 5, kq 55 (.lenS (.t 54)), kq 56 (.mv (ki 0))]) (.block 6 (.loop (.seq (.reg [kq 57 (.bin .lss (.t 56) (.t 55))]) (.seq (.cond (.t 57) .skip (.exit 6)) (.seq (.block 7 (.seq (.reg [km 58 56, km 9 58]) (.seq (.reg [km 59 5, km 60 9, kq 61 (.iadS 4 (.t 59) (.t 60)), kq 62 (.fad 3 (.t 61)), kq 63 (.ld none (.t 62)), kq 64 (.mv (ki 0))]) (.block 8 (.loop (.seq (.reg [kq 65 (.bin .lss (.t 64) (.t 63))]) (.seq (.cond (.t 65) .skip (.exit 8)) (.seq (.block 9 (.seq (.seq (.reg [km 66 8, kq 67 (.bin .eql (.t 66) (ki 0))]) (.cond (.t 67) (.exit 4) .skip)) (.seq (.reg [kq 68 (.ld (some 127) (.t 3)), kq 10 (.new [(127, (.int .i64 0))]), ku (.st 127 (.t 10) (.t 68))]) (.seq (.block 10 (.loop (.seq (.seq (.reg [km 69 5, km 70 9, kq 71 (.iadS 4 (.t 69) (.t 70)), kq 72 (.fad 1 (.t 71)), kq 73 (.ld none (.t 72)), kq 74 (.iadA 127 1 (.t 3) (.t 73)), kq 75 (.ld none (.t 74)), kq 76 (.bin .neq (.t 75) (ki (-1)))]) (.cond (.t 76) .skip (.exit 10))) (.block 11 (.dreg [km 77 5, km 78 9, km 79 5, km 80 9, kq 81 (.iadS 4 (.t 79) (.t 80)), kq 82 (.fad 1 (.t 81)), kq 83 (.ld none (.t 82)), km 84 5, km 85 9, kq 86 (.iadS 4 (.t 84) (.t 85)), kq 87 (.fad 2 (.t 86)), kq 88 (.ld none (.t 87)), kq 89 (.bin .add (.t 83) (.t 88)), kq 90 (.bin .rem (.t 89) (ki 127)), kq 91 (.iadS 4 (.t 77) (.t 78)), kq 92 (.fad 1 (.t 91)), ku (.st 1 (.t 92) (.t 90))] [[], [], [], [], [2, 3], [4, 2, 3], [5, 4, 2, 3], [], [], [7, 8], [9, 7, 8], [10, 9, 7, 8], [6, 5, 4, 2, 3, 11, 10, 9, 7, 8], [12, 6, 5, 4, 2, 3, 11, 10, 9, 7, 8], [0, 1, 2, 3, 4, 5, 6, 7, 8, 9, 10, 11, 12, 13], [14, 0, 1, 2, 3, 4, 5, 6, 7, 8, 9, 10, 11, 12, 13], [15, 14, 0, 1, 2, 3, 4, 5, 6, 7, 8, 9, 10, 11, 12, 13]]))))) (.seq (.dreg [km 93 5, km 94 9, kq 95 (.iadS 4 (.t 93) (.t 94)), kq 96 (.fad 1 (.t 95)), kq 97 (.ld none (.t 96)), km 98 5, km 99 9, kq 100 (.iadS 4 (.t 98) (.t 99)), kq 101 (.fad 0 (.t 100)), kq 102 (.ld none (.t 101)), kq 103 (.iadA 127 1 (.t 3) (.t 97)), ku (.st 1 (.t 103) (.t 102))] [[], [], [0, 1], [2, 0, 1], [3, 2, 0, 1], [], [], [5, 6], [7, 5, 6], [8, 7, 5, 6], [4, 3, 2, 0, 1, 5, 6, 7, 8, 9], [10, 4, 3, 2, 0, 1, 5, 6, 7, 8, 9]]) (.seq (.reg [kq 104 (.ld (some 127) (.t 3)), kq 105 (.ld (some 127) (.t 10)), kq 106 (.eqa true [(127, .i)] (.t 104) (.t 105))]) (.cond (.t 106) (.reg [km 107 8, kq 108 (.bin .sub (.t 107) (ki 1)), km 8 108]) .skip))))))) (.reg [kq 109 (.bin .add (.t 64) (ki 1)), km 64 109]))))))))) (.reg [kq 110 (.bin .add (.t 56) (ki 1)), km 56 110]))))))))))) (.seq (.reg [kq 111 (.slcA 127 1 (.t 3) none none none), kq 112 (.app [(1, (.int .i64 0))] 1 8 (.c (.slice none 0 0)) (.t 111)), km 2 112]) .ret)))))))))))⟩
abbrev zbV (P : Program) : Prop := z6 P "roundhouse/wheel.Make" = some zfO
theorem spun127C {P : Program} (hc : zbw P) (h_sip_Words : zbC P) (h_sip_Of : zcP P) (h_sip_number_byte : zag P) (h_sip_state_take : zao P) (h_sip_state_rounds : qV P) (h_sip_state_round : qW P) (h_math_bits_RotateLeft64 : zY P) (ns : List Int) (hl : ns.length ≤ 1000) :
    Env P "roundhouse/wheel.spun" [uv 127, sv 0 0 ns.length ns.length] ([cr (ii ns)]) (Ans (iv (zcl 127 ns)) [cr (ii ns)]) := by
 refine Env.by2 hc ?_
 unfold zeG
 show GC _ 1 _ _ ⟨reg [(0, uv 127), (1, sv 0 0 ns.length ns.length)], [cr (ii ns)]⟩
 refine zR (zV (o_d 1 [(4, iv 0)] (by kernel_rfl) (zG (zC (zR (zV (o_d 2 [(6, sv 0 0 ns.length ns.length), (5, .agg #[uv 0, uv 0])] (by kernel_rfl) (zcc (callS (a1 := [.agg #[uv 0, uv 0], sv 0 0 ns.length ns.length]) [0] [ii ns] (wordsC h_sip_Words h_sip_Of h_sip_number_byte h_sip_state_take h_sip_state_rounds h_sip_state_round h_math_bits_RotateLeft64 0 0 ns (by first | omega | decide | (simp; done))) rfl (fun _ => zaz (qN rfl) (zaz rfl rfl)) ⟨⟨_, rfl⟩, zaY _, trivial⟩ rfl ?_)))))))))
 exact o_d 4 [(4, iv (i64.wrap ((zdG 0 0 ns).tmod 127))), (10, iv (i64.wrap ((zdG 0 0 ns).tmod 127))), (9, uv ((zdG 0 0 ns).tmod 127)), (8, uv 127)] (by kernel_rfl) (zG (zC (zaZ (⟨trivial, ⟨reg [(4, iv (i64.wrap ((zdG 0 0 ns).tmod 127)))], [cr (ii ns)]⟩, Wk.ren [0] rfl rfl (by decide) ⟨rfl, trivial⟩ ⟨.inl (zQ (zaY ns)), trivial⟩, [iv (i64.wrap ((zdG 0 0 ns).tmod 127))], (qE rfl rfl), (zU rfl qA), (congrArg (Value.int .i64) (spun_eq (by omega))), rfl⟩))))
theorem spun126C {P : Program} (hc : zbw P) (h_sip_Words : zbC P) (h_sip_Of : zcP P) (h_sip_number_byte : zag P) (h_sip_state_take : zao P) (h_sip_state_rounds : qV P) (h_sip_state_round : qW P) (h_math_bits_RotateLeft64 : zY P) (ns : List Int) (hl : ns.length ≤ 1000) :
    Env P "roundhouse/wheel.spun" [uv 126, sv 0 0 ns.length ns.length] ([cr (ii ns)]) (Ans (iv (zcl 126 ns)) [cr (ii ns)]) := by
 refine Env.by2 hc ?_
 unfold zeG
 show GC _ 1 _ _ ⟨reg [(0, uv 126), (1, sv 0 0 ns.length ns.length)], [cr (ii ns)]⟩
 refine zR (zV (o_d 1 [(4, iv 0)] (by kernel_rfl) (zG (zC (zR (zV (o_d 2 [(6, sv 0 0 ns.length ns.length), (5, .agg #[uv 0, uv 0])] (by kernel_rfl) (zcc (callS (a1 := [.agg #[uv 0, uv 0], sv 0 0 ns.length ns.length]) [0] [ii ns] (wordsC h_sip_Words h_sip_Of h_sip_number_byte h_sip_state_take h_sip_state_rounds h_sip_state_round h_math_bits_RotateLeft64 0 0 ns (by first | omega | decide | (simp; done))) rfl (fun _ => zaz (qN rfl) (zaz rfl rfl)) ⟨⟨_, rfl⟩, zaY _, trivial⟩ rfl ?_)))))))))
 exact o_d 4 [(4, iv (i64.wrap ((zdG 0 0 ns).tmod 126))), (10, iv (i64.wrap ((zdG 0 0 ns).tmod 126))), (9, uv ((zdG 0 0 ns).tmod 126)), (8, uv 126)] (by kernel_rfl) (zG (zC (zaZ (⟨trivial, ⟨reg [(4, iv (i64.wrap ((zdG 0 0 ns).tmod 126)))], [cr (ii ns)]⟩, Wk.ren [0] rfl rfl (by decide) ⟨rfl, trivial⟩ ⟨.inl (zQ (zaY ns)), trivial⟩, [iv (i64.wrap ((zdG 0 0 ns).tmod 126))], (qE rfl rfl), (zU rfl qA), (congrArg (Value.int .i64) (spun_eq (by omega))), rfl⟩))))
theorem makeWC {P : Program} (hc : zbV P) (h_wheel_spun : zbw P) (h_sip_Words : zbC P) (h_sip_Of : zcP P) (h_sip_number_byte : zag P) (h_sip_state_take : zao P) (h_sip_state_rounds : qV P) (h_sip_state_round : qW P) (h_math_bits_RotateLeft64 : zY P) (p : qL) :
    Env P "roundhouse/wheel.Make" [qG p] ([]) (fun v h' => ∃ m, v = slV 0 127 (some m) ∧ h' = [slB zI (ii (zaI p)) (some m)]) := by
 refine Env.by2 hc ?_
 unfold zfO
 show GC _ 0 _ _ ⟨reg [(0, qG p)], []⟩
 refine zR (zV (o_b 2 [(2, .slice none 0 0), (1, pv 0 0)] [cw (pl p)] (by kernel_rfl) (zG (zC (gscp (fun _ _ => False) ?_ (fun _ _ q => q.elim))))))
 refine zR (zV (o_b 1 [(3, pv 1 0)] [cw (pl p), cw (ii (List.replicate 127 0))] (by kernel_rfl) (zG (zC (zR (zR (zV (o_d 1 [(11, iv 0)] (by kernel_rfl) (zG (zC (zai (zdm (fun μ s => ∃ (i0 : Nat), ∃ (W0 : List Int), μ = 127 - i0 ∧ (i0 ≤ 127) ∧ (W0 = List.replicate i0 (-1) ++ List.replicate (127 - i0) 0) ∧ (W0.length = 127) ∧ s = ⟨reg [(11, iv (i0 : Int)), (3, pv 1 0), (1, pv 0 0)], [cw (pl p), cw (ii W0)]⟩) ⟨(127 - 0), ?_⟩ ?_))))))))))))
 ·skip
  refine ⟨⟨reg [(11, iv (0 : Int)), (3, pv 1 0), (1, pv 0 0)], [cw (pl p), cw (ii (List.replicate 127 0))]⟩, ?_⟩
  refine ⟨?_, ?_⟩
  ·exact Wk.ren [0, 1] rfl rfl (by decide) ⟨rfl, ⟨rfl, ⟨rfl, trivial⟩⟩⟩ ⟨.inl (zQ (zaH p)), ⟨.inl (zQ (zaY (List.replicate 127 0))), trivial⟩⟩
  ·exact ⟨0, (List.replicate 127 0), rfl, (by omega), rfl, (List.length_replicate ..), rfl⟩
 rintro μ s ⟨i0, W0, rfl, hi0, hW0, hwl, rfl⟩
 refine zR (zV (o_d 1 [(12, bv (decide ((i0 : Int) < 127)))] (by kernel_rfl) (zG (zC (zR (zaj (t := decide ((i0 : Int) < 127)) rfl (fun h1 => ?_) (fun h1 => ?_)))))))
 ·skip
  have h1' : (i0 : Int) < 127 := of_decide_eq_true h1
  refine zaq (zC (zR (zai (zR (zV (o_d 2 [(4, iv (i0 : Int)), (13, iv (i0 : Int))] (by kernel_rfl) (zG (zC (zV (o_d 1 [(14, iv (i0 : Int))] (by kernel_rfl) (o_s (by exact zch (o := 0) (o' := i0) rfl rfl (by omega) (by omega)) ?_)))))))))))
  refine zc1 (by refine qQ (c' := ii (W0.set i0 (-1))) rfl rfl rfl ?_ ?_ ?_; exact rfl; exact (by rw [za4, hwl]; omega); exact ii_w (i := i0) rfl (by rw [hwl]; omega)) ?_
  refine zG (zC (zV (o_s (by refine zaf (v := .int .i64 (i64.wrap ((i0 : Int) + 1))) (congrArg (Value.int .i64) (w64 (by omega) (by omega))) ?_; kernel_rfl) ?_)))
  refine o_d 1 [(11, iv ((i0 : Int) + 1))] (by kernel_rfl) (zG (⟨127 - (i0 + 1), ?_⟩))
  refine ⟨⟨reg [(11, iv ((i0 + 1) : Int)), (3, pv 1 0), (1, pv 0 0)], [cw (pl p), cw (ii (W0.set i0 (-1)))]⟩, ?_⟩
  refine zf2 (by omega) ⟨?_, ?_⟩
  ·exact Wk.ren [0, 1] rfl rfl (by decide) ⟨rfl, ⟨rfl, ⟨rfl, trivial⟩⟩⟩ ⟨.inl (zQ (zaH p)), ⟨.inl (zQ (zaY (W0.set i0 (-1)))), trivial⟩⟩
  ·exact ⟨(i0 + 1), (W0.set i0 (-1)), rfl, by omega, (nob_next hW0 (by omega)), ((List.length_set ..).trans hwl), rfl⟩
 have h1' : ¬ ((i0 : Int) < 127) := of_decide_eq_false h1
 refine zcD (zC (zR (zV (o_d 1 [(5, .slice none 0 0)] (by kernel_rfl) (zG (zC (zR (zR (zV (o_d 1 [(17, pv 0 3)] (by kernel_rfl) (o_s (by refine z4 (v := zgx p) rfl rfl ?_; exact pl_rA p) ?_)))))))))))
 refine o_d 1 [(19, iv 0)] (by kernel_rfl) (zG (zC (zai (zdm (fun μ s => ∃ (i : Nat), ∃ (l1 : List Wl), ∃ (n1 : Nat), ∃ (o1 : Option Nat), μ = 64 - i ∧ (i ≤ 64) ∧ (l1 = wlks p i) ∧ (n1 = l1.length ∧ n1 ≤ i) ∧ (o1 = none → n1 = 0) ∧ s = ⟨reg [(19, iv (i : Int)), (18, zgx p), (5, slV 2 n1 o1), (3, pv 1 0)], [cw (pl p), cw (ii W0), slB zW (zdP wlF l1) o1]⟩) ⟨(64 - 0), ?_⟩ ?_))))
 ·skip
  refine ⟨⟨reg [(19, iv (0 : Int)), (18, zgx p), (5, slV 2 0 none), (3, pv 1 0)], [cw (pl p), cw (ii W0), slB zW (zdP wlF ([] : List Wl)) none]⟩, ?_⟩
  refine ⟨?_, ?_⟩
  ·exact Wk.ren [0, 1, 4] rfl rfl (by decide) ⟨rfl, ⟨((qN (zf7 p))).trans rfl, ⟨rfl, ⟨rfl, trivial⟩⟩⟩⟩ ⟨.inl (zQ (zaH p)), ⟨.inl (zQ (zaY W0)), ⟨.inr ⟨rfl, rfl⟩, trivial⟩⟩⟩
  ·exact ⟨0, ([] : List Wl), 0, none, rfl, (by omega), rfl, ⟨rfl, by omega⟩, (fun _ => rfl), rfl⟩
 rintro μ s ⟨i, l1, n1, o1, rfl, hi, hl1, hn1, ho1, rfl⟩
 refine zR (zV (o_d 1 [(20, bv (decide ((i : Int) < 64)))] (by kernel_rfl) (zG (zC (zR (zaj (t := decide ((i : Int) < 64)) rfl (fun h2 => ?_) (fun h2 => ?_)))))))
 ·skip
  have h2' : (i : Int) < 64 := of_decide_eq_true h2
  refine zaq (zC (zR (zai (zR (zV (o_d 1 [(21, iv (i : Int))] (by kernel_rfl) (o_s (by refine run_ixA (v := .agg #[iv (p (3 + 5 * i)), iv (p (3 + 5 * i + 1)), iv (p (3 + 5 * i + 2)), iv (p (3 + 5 * i + 3)), iv (p (3 + 5 * i + 4))]) (o := 5 * i) rfl rfl (by omega) (by omega) ?_; exact slots_r p i (by omega) (by omega)) ?_)))))))
  refine o_b 3 [(6, iv (i : Int)), (7, pv 3 0)] [cw (pl p), cw (ii W0), slB zW (zdP wlF l1) o1, cw [iv (p (3 + 5 * i)), iv (p (3 + 5 * i + 1)), iv (p (3 + 5 * i + 2)), iv (p (3 + 5 * i + 3)), iv (p (3 + 5 * i + 4))]] (by kernel_rfl) (zG (zC (zR (zV (o_d 3 [(25, bv ((p (3 + 5 * i)) == 2)), (24, iv (p (3 + 5 * i))), (23, pv 3 0)] (by kernel_rfl) (zG (zC (zaj (t := (p (3 + 5 * i)) == 2) rfl (fun h3 => ?_) (fun h3 => ?_)))))))))
  ·skip
   have h3' : p (3 + 5 * i) = 2 := zcf h3
   refine zbx [cw (pl p), cw (ii W0), slB zW (zdP wlF l1) o1, cw [iv (p (3 + 5 * i)), iv (p (3 + 5 * i + 1)), iv (p (3 + 5 * i + 2)), iv (p (3 + 5 * i + 3)), iv (p (3 + 5 * i + 4))], .gone, .gone, .gone] (by kernel_rfl) (d_n 7 7 5 [(32, sv 4 0 3 3), (31, iv (p (3 + 5 * i + 2))), (30, pv 3 2), (29, iv (p (3 + 5 * i + 1))), (28, pv 3 1), (27, iv (i : Int)), (26, slV 2 n1 o1)] [cw (pl p), cw (ii W0), slB zW (zdP wlF l1) o1, cw [iv (p (3 + 5 * i)), iv (p (3 + 5 * i + 1)), iv (p (3 + 5 * i + 2)), iv (p (3 + 5 * i + 3)), iv (p (3 + 5 * i + 4))], cw [iv 1, iv (p (3 + 5 * i + 1)), iv (p (3 + 5 * i + 2))], .gone, .gone] [⟨6, [], [4], none⟩, ⟨5, [3], [], none⟩, ⟨3, [3], [], none⟩] (by kernel_rfl) rfl rfl ?_)
   have hsp127 := zil (m := 127) (ns := [1, p (3 + 5 * i + 1), p (3 + 5 * i + 2)]) (by decide)
   refine d_clG [4] [cr [iv 1, iv (p (3 + 5 * i + 1)), iv (p (3 + 5 * i + 2))]] [uv 127, sv 0 0 3 3] (spun127C h_wheel_spun h_sip_Words h_sip_Of h_sip_number_byte h_sip_state_take h_sip_state_rounds h_sip_state_round h_math_bits_RotateLeft64 [1, p (3 + 5 * i + 1), p (3 + 5 * i + 2)] (by simp)) rfl rfl ⟨⟨_, rfl, zcA rfl (fun q => rfl)⟩, trivial⟩ (by decide) ⟨_, _, ⟨rfl, rfl⟩, Nat.le_refl _, zbf [_] []⟩ ?_ (by kernel_rfl)
   rintro v1 h1' ⟨rfl, rfl⟩
   refine ⟨iv (zcl 127 [1, p (3 + 5 * i + 1), p (3 + 5 * i + 2)]), [cw (pl p), cw (ii W0), slB zW (zdP wlF l1) o1, cw [iv (p (3 + 5 * i)), iv (p (3 + 5 * i + 1)), iv (p (3 + 5 * i + 2)), iv (p (3 + 5 * i + 3)), iv (p (3 + 5 * i + 4))], cw [iv 1, iv (p (3 + 5 * i + 1)), iv (p (3 + 5 * i + 2))], .gone, .gone], [], rfl, ⟨rfl, ⟨rfl, ⟨rfl, ⟨rfl, ⟨rfl, ⟨rfl, ⟨rfl, trivial⟩⟩⟩⟩⟩⟩⟩, trivial, ?_⟩
   refine d_n 5 13 6 [(38, sv 5 0 3 3), (37, iv (p (3 + 5 * i + 2))), (36, pv 3 2), (35, iv (p (3 + 5 * i + 1))), (34, pv 3 1)] [cw (pl p), cw (ii W0), slB zW (zdP wlF l1) o1, cw [iv (p (3 + 5 * i)), iv (p (3 + 5 * i + 1)), iv (p (3 + 5 * i + 2)), iv (p (3 + 5 * i + 3)), iv (p (3 + 5 * i + 4))], cw [iv 1, iv (p (3 + 5 * i + 1)), iv (p (3 + 5 * i + 2))], cw [iv 2, iv (p (3 + 5 * i + 1)), iv (p (3 + 5 * i + 2))], .gone] [⟨12, [], [5], none⟩, ⟨11, [3], [], none⟩, ⟨9, [3], [], none⟩, ⟨7, [4], [], some 7⟩, ⟨6, [], [4], none⟩, ⟨5, [3], [], none⟩, ⟨3, [3], [], none⟩] (by kernel_rfl) rfl rfl ?_
   have hsp126 := zil (m := 126) (ns := [2, p (3 + 5 * i + 1), p (3 + 5 * i + 2)]) (by decide)
   refine d_clG [5] [cr [iv 2, iv (p (3 + 5 * i + 1)), iv (p (3 + 5 * i + 2))]] [uv 126, sv 0 0 3 3] (spun126C h_wheel_spun h_sip_Words h_sip_Of h_sip_number_byte h_sip_state_take h_sip_state_rounds h_sip_state_round h_math_bits_RotateLeft64 [2, p (3 + 5 * i + 1), p (3 + 5 * i + 2)] (by simp)) rfl rfl ⟨⟨_, rfl, zcA rfl (fun q => rfl)⟩, trivial⟩ (by decide) ⟨_, _, ⟨rfl, rfl⟩, Nat.le_refl _, zbf [_] []⟩ ?_ (by kernel_rfl)
   rintro v1 h1' ⟨rfl, rfl⟩
   refine ⟨iv (zcl 126 [2, p (3 + 5 * i + 1), p (3 + 5 * i + 2)]), [cw (pl p), cw (ii W0), slB zW (zdP wlF l1) o1, cw [iv (p (3 + 5 * i)), iv (p (3 + 5 * i + 1)), iv (p (3 + 5 * i + 2)), iv (p (3 + 5 * i + 3)), iv (p (3 + 5 * i + 4))], cw [iv 1, iv (p (3 + 5 * i + 1)), iv (p (3 + 5 * i + 2))], cw [iv 2, iv (p (3 + 5 * i + 1)), iv (p (3 + 5 * i + 2))], .gone], [], rfl, ⟨rfl, ⟨rfl, ⟨rfl, ⟨rfl, ⟨rfl, ⟨rfl, ⟨rfl, trivial⟩⟩⟩⟩⟩⟩⟩, trivial, ?_⟩
   refine d_s rfl rfl rfl (by kernel_rfl) (by refine zaf (v := .int .i64 (i64.wrap (1 + zcl 126 [2, p (3 + 5 * i + 1), p (3 + 5 * i + 2)]))) (congrArg (Value.int .i64) (w64 (by omega) (by omega))) ?_; kernel_rfl) ?_
   refine d_n 6 21 7 [(46, sv 6 0 1 1), (45, .agg #[iv (i : Int), iv (zcl 127 [1, p (3 + 5 * i + 1), p (3 + 5 * i + 2)]), iv (1 + zcl 126 [2, p (3 + 5 * i + 1), p (3 + 5 * i + 2)]), iv (if (8 : Int) < (if (1 : Int) > p (3 + 5 * i + 3) then (1 : Int) else p (3 + 5 * i + 3)) then (8 : Int) else (if (1 : Int) > p (3 + 5 * i + 3) then (1 : Int) else p (3 + 5 * i + 3)))]), (44, iv (if (8 : Int) < (if (1 : Int) > p (3 + 5 * i + 3) then (1 : Int) else p (3 + 5 * i + 3)) then (8 : Int) else (if (1 : Int) > p (3 + 5 * i + 3) then (1 : Int) else p (3 + 5 * i + 3)))), (43, iv (if (1 : Int) > p (3 + 5 * i + 3) then (1 : Int) else p (3 + 5 * i + 3))), (42, iv (p (3 + 5 * i + 3))), (41, pv 3 3)] [cw (pl p), cw (ii W0), slB zW (zdP wlF l1) o1, cw [iv (p (3 + 5 * i)), iv (p (3 + 5 * i + 1)), iv (p (3 + 5 * i + 2)), iv (p (3 + 5 * i + 3)), iv (p (3 + 5 * i + 4))], cw [iv 1, iv (p (3 + 5 * i + 1)), iv (p (3 + 5 * i + 2))], cw [iv 2, iv (p (3 + 5 * i + 1)), iv (p (3 + 5 * i + 2))], cw [iv (i : Int), iv (zcl 127 [1, p (3 + 5 * i + 1), p (3 + 5 * i + 2)]), iv (1 + zcl 126 [2, p (3 + 5 * i + 1), p (3 + 5 * i + 2)]), iv (if (8 : Int) < (if (1 : Int) > p (3 + 5 * i + 3) then (1 : Int) else p (3 + 5 * i + 3)) then (8 : Int) else (if (1 : Int) > p (3 + 5 * i + 3) then (1 : Int) else p (3 + 5 * i + 3)))]] [⟨20, [], [6], none⟩, ⟨16, [3], [], none⟩, ⟨13, [5], [], some 7⟩, ⟨12, [], [5], none⟩, ⟨11, [3], [], none⟩, ⟨9, [3], [], none⟩, ⟨7, [4], [], some 7⟩, ⟨6, [], [4], none⟩, ⟨5, [3], [], none⟩, ⟨3, [3], [], none⟩] (by kernel_rfl) rfl rfl (d_appC (k := 2) (n := n1) (o := o1) (q := 1) (cs := zdP wlF l1) (xs := [iv (i : Int), iv (zcl 127 [1, p (3 + 5 * i + 1), p (3 + 5 * i + 2)]), iv (1 + zcl 126 [2, p (3 + 5 * i + 1), p (3 + 5 * i + 2)]), iv (if (8 : Int) < (if (1 : Int) > p (3 + 5 * i + 3) then (1 : Int) else p (3 + 5 * i + 3)) then (8 : Int) else (if (1 : Int) > p (3 + 5 * i + 3) then (1 : Int) else p (3 + 5 * i + 3)))]) (cs2 := zdP wlF (l1 ++ [(Wl.mk (i : Int) (zcl 127 [1, p (3 + 5 * i + 1), p (3 + 5 * i + 2)]) (1 + zcl 126 [2, p (3 + 5 * i + 1), p (3 + 5 * i + 2)]) (if (8 : Int) < (if (1 : Int) > p (3 + 5 * i + 3) then (1 : Int) else p (3 + 5 * i + 3)) then (8 : Int) else (if (1 : Int) > p (3 + 5 * i + 3) then (1 : Int) else p (3 + 5 * i + 3))))])) (zl := zW) rfl rfl rfl (fun m q => by subst q; rfl) (fun z => by have h0 := ho1 z; have h1 : l1 = [] := List.eq_nil_of_length_eq_zero (by omega); subst h1; exact ⟨h0, rfl⟩) (by rw [zfc ze6]; first | omega | (simp; try omega)) rfl rfl (zbK rfl rfl (by simp)) (by rfl) (by omega) (by omega) (wl_app1 l1 (i : Int) (zcl 127 [1, p (3 + 5 * i + 1), p (3 + 5 * i + 2)]) (1 + zcl 126 [2, p (3 + 5 * i + 1), p (3 + 5 * i + 2)]) (if (8 : Int) < (if (1 : Int) > p (3 + 5 * i + 3) then (1 : Int) else p (3 + 5 * i + 3)) then (8 : Int) else (if (1 : Int) > p (3 + 5 * i + 3) then (1 : Int) else p (3 + 5 * i + 3)))) (fun m4 e5 => ?_) (fun m4 => ?_))
   ·skip
    subst e5
    refine d_n 1 23 7 [(5, sv 2 0 (n1 + 1) (n1 + 1 + m4))] [cw (pl p), cw (ii W0), cw (zdP wlF (l1 ++ [(Wl.mk (i : Int) (zcl 127 [1, p (3 + 5 * i + 1), p (3 + 5 * i + 2)]) (1 + zcl 126 [2, p (3 + 5 * i + 1), p (3 + 5 * i + 2)]) (if (8 : Int) < (if (1 : Int) > p (3 + 5 * i + 3) then (1 : Int) else p (3 + 5 * i + 3)) then (8 : Int) else (if (1 : Int) > p (3 + 5 * i + 3) then (1 : Int) else p (3 + 5 * i + 3))))]) ++ zbt zW m4), cw [iv (p (3 + 5 * i)), iv (p (3 + 5 * i + 1)), iv (p (3 + 5 * i + 2)), iv (p (3 + 5 * i + 3)), iv (p (3 + 5 * i + 4))], cw [iv 1, iv (p (3 + 5 * i + 1)), iv (p (3 + 5 * i + 2))], cw [iv 2, iv (p (3 + 5 * i + 1)), iv (p (3 + 5 * i + 2))], cw [iv (i : Int), iv (zcl 127 [1, p (3 + 5 * i + 1), p (3 + 5 * i + 2)]), iv (1 + zcl 126 [2, p (3 + 5 * i + 1), p (3 + 5 * i + 2)]), iv (if (8 : Int) < (if (1 : Int) > p (3 + 5 * i + 3) then (1 : Int) else p (3 + 5 * i + 3)) then (8 : Int) else (if (1 : Int) > p (3 + 5 * i + 3) then (1 : Int) else p (3 + 5 * i + 3)))]] [⟨20, [], [6], none⟩, ⟨16, [3], [], none⟩, ⟨13, [5], [], some 7⟩, ⟨12, [], [5], none⟩, ⟨11, [3], [], none⟩, ⟨9, [3], [], none⟩, ⟨7, [4], [], some 7⟩, ⟨6, [], [4], none⟩, ⟨5, [3], [], none⟩, ⟨3, [3], [], none⟩] (by kernel_rfl) rfl rfl (zb2 (z5 [(5, sv 2 0 (n1 + 1) (n1 + 1 + m4)), (19, iv (i : Int)), (18, zgx p), (3, pv 1 0)] (by kernel_rfl) (zV (o_s (by refine zaf (v := .int .i64 (i64.wrap ((i : Int) + 1))) (congrArg (Value.int .i64) (w64 (by omega) (by omega))) ?_; kernel_rfl) ?_))))
    refine o_d 1 [(19, iv ((i : Int) + 1))] (by kernel_rfl) (zG (⟨64 - (i + 1), ?_⟩))
    refine ⟨⟨reg [(19, iv ((i + 1) : Int)), (18, zgx p), (5, slV 2 (n1 + 1) (some m4)), (3, pv 1 0)], [cw (pl p), cw (ii W0), slB zW (zdP wlF (l1 ++ [(Wl.mk (i : Int) (zcl 127 [1, p (3 + 5 * i + 1), p (3 + 5 * i + 2)]) (1 + zcl 126 [2, p (3 + 5 * i + 1), p (3 + 5 * i + 2)]) (if (8 : Int) < (if (1 : Int) > p (3 + 5 * i + 3) then (1 : Int) else p (3 + 5 * i + 3)) then (8 : Int) else (if (1 : Int) > p (3 + 5 * i + 3) then (1 : Int) else p (3 + 5 * i + 3))))])) (some m4)]⟩, ?_⟩
    refine zf2 (by omega) ⟨?_, ?_⟩
    ·exact Wk.ren [0, 1, 2] rfl rfl (by decide) ⟨rfl, ⟨((qN (zf7 p))).trans rfl, ⟨rfl, ⟨rfl, trivial⟩⟩⟩⟩ ⟨.inl (zQ (zaH p)), ⟨.inl (zQ (zaY W0)), ⟨.inl (zQ (zdq _ _)), trivial⟩⟩⟩
    ·exact ⟨(i + 1), (l1 ++ [(Wl.mk (i : Int) (zcl 127 [1, p (3 + 5 * i + 1), p (3 + 5 * i + 2)]) (1 + zcl 126 [2, p (3 + 5 * i + 1), p (3 + 5 * i + 2)]) (if (8 : Int) < (if (1 : Int) > p (3 + 5 * i + 3) then (1 : Int) else p (3 + 5 * i + 3)) then (8 : Int) else (if (1 : Int) > p (3 + 5 * i + 3) then (1 : Int) else p (3 + 5 * i + 3))))]), (n1 + 1), (some m4), rfl, by omega, (by rw [hl1]; simp only [wlks]; rw [if_pos (show p (3 + 5 * i) = 2 by assumption)]; rfl), (by simp only [List.length_append, List.length_singleton]; omega), (fun z => by cases z), rfl⟩
   refine d_n 1 23 7 [(5, sv 7 0 (n1 + 1) (n1 + 1 + m4))] [cw (pl p), cw (ii W0), slB zW (zdP wlF l1) o1, cw [iv (p (3 + 5 * i)), iv (p (3 + 5 * i + 1)), iv (p (3 + 5 * i + 2)), iv (p (3 + 5 * i + 3)), iv (p (3 + 5 * i + 4))], cw [iv 1, iv (p (3 + 5 * i + 1)), iv (p (3 + 5 * i + 2))], cw [iv 2, iv (p (3 + 5 * i + 1)), iv (p (3 + 5 * i + 2))], cw [iv (i : Int), iv (zcl 127 [1, p (3 + 5 * i + 1), p (3 + 5 * i + 2)]), iv (1 + zcl 126 [2, p (3 + 5 * i + 1), p (3 + 5 * i + 2)]), iv (if (8 : Int) < (if (1 : Int) > p (3 + 5 * i + 3) then (1 : Int) else p (3 + 5 * i + 3)) then (8 : Int) else (if (1 : Int) > p (3 + 5 * i + 3) then (1 : Int) else p (3 + 5 * i + 3)))], cw (zdP wlF (l1 ++ [(Wl.mk (i : Int) (zcl 127 [1, p (3 + 5 * i + 1), p (3 + 5 * i + 2)]) (1 + zcl 126 [2, p (3 + 5 * i + 1), p (3 + 5 * i + 2)]) (if (8 : Int) < (if (1 : Int) > p (3 + 5 * i + 3) then (1 : Int) else p (3 + 5 * i + 3)) then (8 : Int) else (if (1 : Int) > p (3 + 5 * i + 3) then (1 : Int) else p (3 + 5 * i + 3))))]) ++ zbt zW m4)] [⟨20, [], [6], none⟩, ⟨16, [3], [], none⟩, ⟨13, [5], [], some 7⟩, ⟨12, [], [5], none⟩, ⟨11, [3], [], none⟩, ⟨9, [3], [], none⟩, ⟨7, [4], [], some 7⟩, ⟨6, [], [4], none⟩, ⟨5, [3], [], none⟩, ⟨3, [3], [], none⟩] (by kernel_rfl) rfl rfl (zb2 (z5 [(5, sv 7 0 (n1 + 1) (n1 + 1 + m4)), (19, iv (i : Int)), (18, zgx p), (3, pv 1 0)] (by kernel_rfl) (zV (o_s (by refine zaf (v := .int .i64 (i64.wrap ((i : Int) + 1))) (congrArg (Value.int .i64) (w64 (by omega) (by omega))) ?_; kernel_rfl) ?_))))
   refine o_d 1 [(19, iv ((i : Int) + 1))] (by kernel_rfl) (zG (⟨64 - (i + 1), ?_⟩))
   refine ⟨⟨reg [(19, iv ((i + 1) : Int)), (18, zgx p), (5, slV 2 (n1 + 1) (some m4)), (3, pv 1 0)], [cw (pl p), cw (ii W0), slB zW (zdP wlF (l1 ++ [(Wl.mk (i : Int) (zcl 127 [1, p (3 + 5 * i + 1), p (3 + 5 * i + 2)]) (1 + zcl 126 [2, p (3 + 5 * i + 1), p (3 + 5 * i + 2)]) (if (8 : Int) < (if (1 : Int) > p (3 + 5 * i + 3) then (1 : Int) else p (3 + 5 * i + 3)) then (8 : Int) else (if (1 : Int) > p (3 + 5 * i + 3) then (1 : Int) else p (3 + 5 * i + 3))))])) (some m4)]⟩, ?_⟩
   refine zf2 (by omega) ⟨?_, ?_⟩
   ·exact Wk.ren [0, 1, 7] rfl rfl (by decide) ⟨rfl, ⟨((qN (zf7 p))).trans rfl, ⟨rfl, ⟨rfl, trivial⟩⟩⟩⟩ ⟨.inl (zQ (zaH p)), ⟨.inl (zQ (zaY W0)), ⟨.inl (zQ (zdq _ _)), trivial⟩⟩⟩
   ·exact ⟨(i + 1), (l1 ++ [(Wl.mk (i : Int) (zcl 127 [1, p (3 + 5 * i + 1), p (3 + 5 * i + 2)]) (1 + zcl 126 [2, p (3 + 5 * i + 1), p (3 + 5 * i + 2)]) (if (8 : Int) < (if (1 : Int) > p (3 + 5 * i + 3) then (1 : Int) else p (3 + 5 * i + 3)) then (8 : Int) else (if (1 : Int) > p (3 + 5 * i + 3) then (1 : Int) else p (3 + 5 * i + 3))))]), (n1 + 1), (some m4), rfl, by omega, (by rw [hl1]; simp only [wlks]; rw [if_pos (show p (3 + 5 * i) = 2 by assumption)]; rfl), (by simp only [List.length_append, List.length_singleton]; omega), (fun z => by cases z), rfl⟩
  have h3' : ¬ (p (3 + 5 * i) = 2) := zcg h3
  refine zaq (zC (zV (o_s (by refine zaf (v := .int .i64 (i64.wrap ((i : Int) + 1))) (congrArg (Value.int .i64) (w64 (by omega) (by omega))) ?_; kernel_rfl) ?_)))
  refine o_d 1 [(19, iv ((i : Int) + 1))] (by kernel_rfl) (zG (⟨64 - (i + 1), ?_⟩))
  refine ⟨⟨reg [(19, iv ((i + 1) : Int)), (18, zgx p), (5, slV 2 n1 o1), (3, pv 1 0)], [cw (pl p), cw (ii W0), slB zW (zdP wlF l1) o1]⟩, ?_⟩
  refine zf2 (by omega) ⟨?_, ?_⟩
  ·exact Wk.ren [0, 1, 2] rfl rfl (by decide) ⟨rfl, ⟨((qN (zf7 p))).trans rfl, ⟨((zbn o1 rfl)).trans rfl, ⟨rfl, trivial⟩⟩⟩⟩ ⟨.inl (zQ (zaH p)), ⟨.inl (zQ (zaY W0)), ⟨.inl (zaM o1 (fun _ => (zdq _ _))), trivial⟩⟩⟩
  ·exact ⟨(i + 1), l1, n1, o1, rfl, by omega, (by rw [hl1]; simp only [wlks]; rw [if_neg (show ¬ p (3 + 5 * i) = 2 by assumption)]), (by omega), ho1, rfl⟩
 have h2' : ¬ ((i : Int) < 64) := of_decide_eq_false h2
 refine zcD (zC (zR (zV (o_d 1 [(8, iv 127)] (by kernel_rfl) (zG (zC (gcut (fun s => ∃ (f0 : Int), 0 = 0 ∧ (f0 = if n1 = 0 then 0 else 127) ∧ s = ⟨reg [(8, iv f0), (5, slV 2 n1 o1), (3, pv 1 0)], [cw (pl p), cw (ii W0), slB zW (zdP wlF l1) o1]⟩) ?_ ?_)))))))
 ·skip
  refine zR (zV (o_d 1 [(49, slV 2 n1 o1)] (by kernel_rfl) (o_s (by exact zej rfl ho1) ?_)))
  refine o_d 1 [(51, bv (((n1 : Nat) : Int) == 0))] (by kernel_rfl) (zG (zC (zaj (t := ((n1 : Nat) : Int) == 0) rfl (fun h6 => ?_) (fun h6 => ?_))))
  ·skip
   have h6' : ((n1 : Nat) : Int) = 0 := zcf h6
   refine zV (o_d 1 [(8, iv 0)] (by kernel_rfl) (zG (⟨⟨reg [(8, iv 0), (5, slV 2 n1 o1), (3, pv 1 0)], [cw (pl p), cw (ii W0), slB zW (zdP wlF l1) o1]⟩, ?_⟩)))
   refine ⟨?_, ?_⟩
   ·exact Wk.ren [0, 1, 2] rfl rfl (by decide) ⟨rfl, ⟨((zbn o1 rfl)).trans rfl, ⟨rfl, trivial⟩⟩⟩ ⟨.inl (zQ (zaH p)), ⟨.inl (zQ (zaY W0)), ⟨.inl (zaM o1 (fun _ => (zdq _ _))), trivial⟩⟩⟩
   ·exact ⟨0, rfl, (by first | (rw [if_pos (by omega)]; done) | (rw [if_neg (by omega)]; done)), rfl⟩
  have h6' : ¬ (((n1 : Nat) : Int) = 0) := zcg h6
  refine zaq (⟨⟨reg [(8, iv 127), (5, slV 2 n1 o1), (3, pv 1 0)], [cw (pl p), cw (ii W0), slB zW (zdP wlF l1) o1]⟩, ?_⟩)
  refine ⟨?_, ?_⟩
  ·exact Wk.ren [0, 1, 2] rfl rfl (by decide) ⟨rfl, ⟨((zbn o1 rfl)).trans rfl, ⟨rfl, trivial⟩⟩⟩ ⟨.inl (zQ (zaH p)), ⟨.inl (zQ (zaY W0)), ⟨.inl (zaM o1 (fun _ => (zdq _ _))), trivial⟩⟩⟩
  ·exact ⟨127, rfl, (by first | (rw [if_pos (by omega)]; done) | (rw [if_neg (by omega)]; done)), rfl⟩
 rintro s ⟨f0, -, hf0, rfl⟩
 have hi64 : i = 64 := by omega
 have hW9 : W0 = nobodyL := by rw [hW0, show i0 = 127 by omega]; rfl
 obtain ⟨L0, hL0⟩ : ∃ z, z = wlks p 64 := ⟨_, rfl⟩
 have hok0 : WOk L0 W0 l1 := by rw [hl1, hW9, hi64, hL0]; exact WOk.init (wlks_ok p (Nat.le_refl _))
 have hS0 : (W0, l1) = zcd L0 0 := by rw [hl1, hW9, hi64, hL0]; rfl
 have hlen : L0.length = n1 := by rw [hn1.1, hl1, hi64, hL0]
 refine zR (glabel (zC (zR (zai (zdm (fun μ s => ∃ (r : Nat), ∃ (W : List Int), ∃ (l : List Wl), ∃ (f : Int), μ = f.toNat ∧ (WOk L0 W l) ∧ ((W, l) = zcd L0 r) ∧ (f = if L0.length = 0 then 0 else ((ze2 W : Nat) : Int)) ∧ (f + r ≤ 127) ∧ s = ⟨reg [(8, iv f), (5, slV 2 n1 o1), (3, pv 1 0)], [cw (pl p), cw (ii W), slB zW (zdP wlF l) o1]⟩) ⟨f0.toNat, ?_⟩ ?_)))))
 ·skip
  refine ⟨⟨reg [(8, iv f0), (5, slV 2 n1 o1), (3, pv 1 0)], [cw (pl p), cw (ii W0), slB zW (zdP wlF l1) o1]⟩, ?_⟩
  refine ⟨?_, ?_⟩
  ·exact Wk.ren [0, 1, 2] rfl rfl (by decide) ⟨rfl, ⟨((zbn o1 rfl)).trans rfl, ⟨rfl, trivial⟩⟩⟩ ⟨.inl (zQ (zaH p)), ⟨.inl (zQ (zaY W0)), ⟨.inl (zaM o1 (fun _ => (zdq _ _))), trivial⟩⟩⟩
  ·exact ⟨0, W0, l1, f0, rfl, hok0, hS0, (by rw [hf0, hlen, hW9]; rfl), (by rw [hf0]; split <;> omega), rfl⟩
 rintro μ s ⟨r, W, l, f, rfl, hok, hS, hf, hr, rfl⟩
 refine zR (zR (zV (o_d 2 [(53, bv (decide (f > 0))), (52, iv f)] (by kernel_rfl) (zG (zC (zaj (t := decide (f > 0)) rfl (fun h7 => ?_) (fun h7 => ?_)))))))
 ·skip
  have h7' : f > 0 := of_decide_eq_true h7
  refine zaq (zC (zai (zR (zV (o_d 1 [(54, slV 2 n1 o1)] (by kernel_rfl) (o_s (by exact zej rfl ho1) ?_))))))
  refine o_d 1 [(56, iv 0)] (by kernel_rfl) (zG (zC (zai (zdm (fun μ s => ∃ (k : Nat), ∃ (Wq : List Int), ∃ (lk : List Wl), ∃ (fk : Int), μ = n1 - k ∧ (k ≤ n1) ∧ (WOk L0 Wq lk) ∧ ((Wq, lk) = zfA L0 (zcd L0 r) k) ∧ (fk = ((ze2 Wq : Nat) : Int) ∧ fk ≤ f ∧ (1 ≤ k → fk < f)) ∧ s = ⟨reg [(56, iv (k : Int)), (55, iv (n1 : Nat)), (8, iv fk), (5, slV 2 n1 o1), (3, pv 1 0)], [cw (pl p), cw (ii Wq), slB zW (zdP wlF lk) o1]⟩) ⟨(n1 - 0), ?_⟩ ?_))))
  ·skip
   refine ⟨⟨reg [(56, iv (0 : Int)), (55, iv (n1 : Nat)), (8, iv f), (5, slV 2 n1 o1), (3, pv 1 0)], [cw (pl p), cw (ii W), slB zW (zdP wlF l) o1]⟩, ?_⟩
   refine ⟨?_, ?_⟩
   ·exact Wk.ren [0, 1, 2] rfl rfl (by decide) ⟨rfl, ⟨rfl, ⟨rfl, ⟨((zbn o1 rfl)).trans rfl, ⟨rfl, trivial⟩⟩⟩⟩⟩ ⟨.inl (zQ (zaH p)), ⟨.inl (zQ (zaY W)), ⟨.inl (zaM o1 (fun _ => (zdq _ _))), trivial⟩⟩⟩
   ·exact ⟨0, W, l, f, rfl, (by omega), hok, hS, (by rw [if_neg (by omega)] at hf; omega), rfl⟩
  rintro μ s ⟨k, Wq, lk, fk, rfl, hk, hokk, hSk, hfk, rfl⟩
  refine zR (zV (o_d 1 [(57, bv (decide ((k : Int) < (n1 : Nat))))] (by kernel_rfl) (zG (zC (zR (zaj (t := decide ((k : Int) < (n1 : Nat))) rfl (fun h8 => ?_) (fun h8 => ?_)))))))
  ·skip
   have h8' : (k : Int) < (n1 : Nat) := of_decide_eq_true h8
   have hl0 := hokk.len
   have hb1 : k < lk.length := by omega
   refine (zdK hb1).elim fun x0 hx0q => ?_
   have hx0 := hx0q.1
   have hq1 := hokk.at_ hx0
   have hx0ok := hq1.1
   have hx0w := hq1.2
   have hx0b := hx0ok.w
   refine zaq (zC (zR (zai (zR (zV (o_d 2 [(9, iv (k : Int)), (58, iv (k : Int))] (by kernel_rfl) (zG (zC (zR (zV (o_d 2 [(60, iv (k : Int)), (59, slV 2 n1 o1)] (by kernel_rfl) (o_s (by exact zek (o' := 4 * k) rfl ho1 rfl (by omega) (by omega)) ?_))))))))))))
   refine o_s (by refine ze8 (o' := 3 + 4 * k) rfl (by omega)) ?_
   refine o_s (by refine z4 (v := iv x0.w) rfl (hf_sl (n := n1) rfl ho1 (by omega)) ?_; exact zdS (rec_r (m := none) ze6 (i := k) (j := 3) (by omega) hx0 rfl)) ?_
   refine o_d 1 [(64, iv 0)] (by kernel_rfl) (zG (zC (zai (zdm (fun μ s => ∃ (t : Nat), ∃ (Wt : List Int), ∃ (lt : List Wl), ∃ (ft : Int), μ = x0.w.toNat - t ∧ ((t : Int) ≤ x0.w) ∧ (WOk L0 Wt lt) ∧ ((Wt, lt) = itr (zjr k) t (zfA L0 (zcd L0 r) k)) ∧ (ft = ((ze2 Wt : Nat) : Int) ∧ ft ≤ fk ∧ (1 ≤ t → ft < fk)) ∧ s = ⟨reg [(64, iv (t : Int)), (63, iv x0.w), (9, iv (k : Int)), (56, iv (k : Int)), (55, iv (n1 : Nat)), (8, iv ft), (5, slV 2 n1 o1), (3, pv 1 0)], [cw (pl p), cw (ii Wt), slB zW (zdP wlF lt) o1]⟩) ⟨(x0.w.toNat - 0), ?_⟩ ?_))))
   ·skip
    refine ⟨⟨reg [(64, iv (0 : Int)), (63, iv x0.w), (9, iv (k : Int)), (56, iv (k : Int)), (55, iv (n1 : Nat)), (8, iv fk), (5, slV 2 n1 o1), (3, pv 1 0)], [cw (pl p), cw (ii Wq), slB zW (zdP wlF lk) o1]⟩, ?_⟩
    refine ⟨?_, ?_⟩
    ·exact Wk.ren [0, 1, 2] rfl rfl (by decide) ⟨rfl, ⟨rfl, ⟨rfl, ⟨rfl, ⟨rfl, ⟨rfl, ⟨((zbn o1 rfl)).trans rfl, ⟨rfl, trivial⟩⟩⟩⟩⟩⟩⟩⟩ ⟨.inl (zQ (zaH p)), ⟨.inl (zQ (zaY Wq)), ⟨.inl (zaM o1 (fun _ => (zdq _ _))), trivial⟩⟩⟩
    ·exact ⟨0, Wq, lk, fk, rfl, (by omega), hokk, hSk, (by omega), rfl⟩
   rintro μ s ⟨t, Wt, lt, ft, rfl, ht, hokt, hSt, hft, rfl⟩
   refine zR (zV (o_d 1 [(65, bv (decide ((t : Int) < x0.w)))] (by kernel_rfl) (zG (zC (zR (zaj (t := decide ((t : Int) < x0.w)) rfl (fun h9 => ?_) (fun h9 => ?_)))))))
   ·skip
    have h9' : (t : Int) < x0.w := of_decide_eq_true h9
    refine zaq (zC (zR (zai (zR (zR (zV (o_d 2 [(67, bv (ft == 0)), (66, iv ft)] (by kernel_rfl) (zG (zC (zaj (t := ft == 0) rfl (fun h10 => ?_) (fun h10 => ?_)))))))))))
    ·skip
     have h10' : ft = 0 := zcf h10
     refine zcD (zC (zR (zV (o_d 1 [(111, sv 1 0 127 127)] (by kernel_rfl) (zhg (k := 0) (n := 0) (o := none) (q := 127) (cs := ii ([] : List Int)) (xs := ii Wt) (cs2 := ii Wt) (zl := zI) rfl rfl rfl (fun m q => by cases q) (fun _ => ⟨rfl, rfl⟩) (by first | exact ii_len1 _ | (rw [za4]; omega) | simp [ii]) rfl rfl (zbK rfl (by rw [List.drop_zero]; exact List.take_of_length_le (by rw [za4, hokt.wl]; omega)) (by rw [za4, hokt.wl]; omega)) (by rw [za4, hokt.wl]) (by omega) (by omega) rfl (fun m11 e12 => ?_) (fun m11 => ?_))))))
     ·cases e12
     refine o_d 1 [(2, sv 3 0 127 (127 + m11))] (by kernel_rfl) (zG (zC (zaZ ?_)))
     have hW9 : Wt = zaI p := by rw [zaI, ← hL0]; exact (fin_b hSt (by omega) (by omega) hft.1 (by omega) (by omega))
     exact ⟨trivial, ⟨reg [(2, sv 0 0 127 (127 + m11))], [cw (ii Wt ++ zbt zI m11)]⟩, Wk.ren [3] rfl rfl (by decide) ⟨rfl, trivial⟩ ⟨.inl (zQ (zct Wt m11)), trivial⟩, [sv 0 0 127 (127 + m11)], (qE rfl rfl), (zU rfl qA), m11, rfl, (by rw [← hW9]; rfl)⟩
    have h10' : ¬ (ft = 0) := zcg h10
    have hlt0 := hokt.len
    have hb2 : k < lt.length := by omega
    refine (zdK hb2).elim fun x hxq => ?_
    have hx := hxq.1
    have hq2 := hokt.at_ hx
    have hxok := hq2.1
    have hxw := hq2.2
    have hxs := hxok.s
    have hxb := hxok.b
    have hb3 : ze2 Wt ≠ 0 := by omega
    refine (found hokt.wl hb3 hxok.a hxok.b).elim fun n hnq => ?_
    have hn := hnq.1
    have hn2 := hnq.2.1
    have hn3 := hnq.2.2.1
    have hp := hnq.2.2.2
    refine zaq (zC (zR (zV (o_s (by refine z4 (v := .agg ⟨ii Wt⟩) rfl rfl ?_; exact ii_all hokt.wl) ?_))))
    refine o_b 1 [(10, pv 3 0)] [cw (pl p), cw (ii Wt), slB zW (zdP wlF lt) o1, cw (ii (List.replicate 127 0))] (by kernel_rfl) (zc1 (by refine qQ (c' := ii Wt) rfl rfl rfl ?_ ?_ ?_; exact (by show (ii Wt).length = 127; rw [za4, hokt.wl]); exact (by rw [za4, (List.length_replicate ..)]; omega); exact zdr (vs := ii Wt) (c := ii (List.replicate 127 0)) (by rw [za4, za4, hokt.wl, (List.length_replicate ..)])) ?_)
    refine zG (zC (zR (zai (zdm (fun μ s => ∃ (m : Nat), ∃ (lm : List Wl), μ = n - m ∧ (m ≤ n) ∧ (lm = lt.set k ⟨x.s, zdo x.a x.b m, x.b, x.w⟩) ∧ (WOk L0 Wt lm) ∧ s = ⟨reg [(10, pv 3 0), (64, iv (t : Int)), (63, iv x0.w), (9, iv (k : Int)), (56, iv (k : Int)), (55, iv (n1 : Nat)), (8, iv ft), (5, slV 2 n1 o1), (3, pv 1 0)], [cw (pl p), cw (ii Wt), slB zW (zdP wlF lm) o1, cw (ii Wt)]⟩) ⟨(n - 0), ?_⟩ ?_))))
    ·skip
     refine ⟨⟨reg [(10, pv 3 0), (64, iv (t : Int)), (63, iv x0.w), (9, iv (k : Int)), (56, iv (k : Int)), (55, iv (n1 : Nat)), (8, iv ft), (5, slV 2 n1 o1), (3, pv 1 0)], [cw (pl p), cw (ii Wt), slB zW (zdP wlF lt) o1, cw (ii Wt)]⟩, ?_⟩
     refine ⟨?_, ?_⟩
     ·exact Wk.ren [0, 1, 2, 3] rfl rfl (by decide) ⟨rfl, ⟨rfl, ⟨rfl, ⟨rfl, ⟨rfl, ⟨rfl, ⟨rfl, ⟨((zbn o1 rfl)).trans rfl, ⟨rfl, trivial⟩⟩⟩⟩⟩⟩⟩⟩⟩ ⟨.inl (zQ (zaH p)), ⟨.inl (zQ (zaY Wt)), ⟨.inl (zaM o1 (fun _ => (zdq _ _))), ⟨.inl (zQ (zaY Wt)), trivial⟩⟩⟩⟩
     ·exact ⟨0, lt, rfl, (Nat.zero_le _), (set_id hx hxok.a), hokt, rfl⟩
    rintro μ s ⟨m, lm, rfl, hm, hlm, hokm, rfl⟩
    have hwr := walk_rng x.a x.b m
    have hlt := hokm.len
    have hx2 : lm[k]? = some ⟨x.s, zdo x.a x.b m, x.b, x.w⟩ := by rw [hlm, List.getElem?_set_self (by omega)]
    refine zR (zR (zV (o_d 2 [(70, iv (k : Int)), (69, slV 2 n1 o1)] (by kernel_rfl) (o_s (by exact zek (o' := 4 * k) rfl ho1 rfl (by omega) (by omega)) ?_))))
    refine o_s (by refine ze8 (o' := 1 + 4 * k) rfl (by omega)) ?_
    refine o_s (by refine z4 (v := iv (zdo x.a x.b m)) rfl (hf_sl (n := n1) rfl ho1 (by omega)) ?_; exact zdS (rec_r (m := none) ze6 (i := k) (j := 1) (by omega) hx2 rfl)) ?_
    refine o_s (by exact zch (o := 0) (o' := ((zdo x.a x.b m).toNat)) rfl rfl (by omega) (by omega)) ?_
    refine o_s (by refine z4 (v := iv (Wt.getD ((zdo x.a x.b m).toNat) 0)) rfl rfl ?_; exact ii_g (i := ((zdo x.a x.b m).toNat)) rfl (by rw [hokt.wl]; omega)) ?_
    refine o_d 1 [(76, bv ((Wt.getD ((zdo x.a x.b m).toNat) 0) != (-1)))] (by kernel_rfl) (zG (zC (zaj (t := (Wt.getD ((zdo x.a x.b m).toNat) 0) != (-1)) rfl (fun h13 => ?_) (fun h13 => ?_))))
    ·skip
     have h13' : Wt.getD ((zdo x.a x.b m).toNat) 0 ≠ (-1) := zjt h13
     have hmlt : m < n := Nat.lt_of_le_of_ne hm (by rintro rfl; exact absurd hn2 (by assumption))
     refine zaq (zC (zai (zdz ["roundhouse/wheel.spun"] (by kernel_rfl) (r_d 4 [(80, iv (k : Int)), (79, slV 2 n1 o1), (78, iv (k : Int)), (77, slV 2 n1 o1)] (by kernel_rfl) (r_s (by exact zek (o' := 4 * k) rfl ho1 rfl (by omega) (by omega)) ?_)))))
     refine r_s (by refine ze8 (o' := 1 + 4 * k) rfl (by omega)) ?_
     refine r_s (by refine z4 (v := iv (zdo x.a x.b m)) rfl (hf_sl (n := n1) rfl ho1 (by omega)) ?_; exact zdS (rec_r (m := none) ze6 (i := k) (j := 1) (by omega) hx2 rfl)) ?_
     refine r_d 2 [(85, iv (k : Int)), (84, slV 2 n1 o1)] (by kernel_rfl) (r_s (by exact zek (o' := 4 * k) rfl ho1 rfl (by omega) (by omega)) ?_)
     refine r_s (by refine ze8 (o' := 2 + 4 * k) rfl (by omega)) ?_
     refine r_s (by refine z4 (v := iv x.b) rfl (hf_sl (n := n1) rfl ho1 (by omega)) ?_; exact zdS (rec_r (m := none) ze6 (i := k) (j := 2) (by omega) hx2 rfl)) ?_
     refine r_s (by refine zaf (v := .int .i64 (i64.wrap (zdo x.a x.b m + x.b))) (congrArg (Value.int .i64) (w64 (by omega) (by omega))) ?_; kernel_rfl) ?_
     refine r_s (by refine zaf (v := .int .i64 ((zdo x.a x.b m + x.b).tmod 127)) (congrArg (Value.int .i64) (rem_nn (by omega))) ?_; kernel_rfl) ?_
     refine r_s (by exact zek (o' := 4 * k) rfl ho1 rfl (by omega) (by omega)) ?_
     refine r_s (by refine ze8 (o' := 1 + 4 * k) rfl (by omega)) ?_
     refine r_s0 (by exact run_stSl (n2 := n1) rfl rfl ho1 (by omega) rfl rfl (by rw [zfc ze6]; omega) (rec_w (y := (Wl.mk x.s ((zdo x.a x.b m + x.b) % 127) x.b x.w)) ze6 (i := k) (j := 1) (by omega) hx2 (Nat.le_of_ble_eq_true rfl) rfl)) ?_
     refine zc6 (⟨n - (m + 1), ?_⟩)
     refine ⟨⟨reg [(10, pv 3 0), (64, iv (t : Int)), (63, iv x0.w), (9, iv (k : Int)), (56, iv (k : Int)), (55, iv (n1 : Nat)), (8, iv ft), (5, slV 2 n1 o1), (3, pv 1 0)], [cw (pl p), cw (ii Wt), slB zW (zdP wlF (lm.set k (Wl.mk x.s ((zdo x.a x.b m + x.b) % 127) x.b x.w))) o1, cw (ii Wt)]⟩, ?_⟩
     refine zf2 (by omega) ⟨?_, ?_⟩
     ·exact Wk.ren [0, 1, 2, 3] rfl rfl (by decide) ⟨rfl, ⟨rfl, ⟨rfl, ⟨rfl, ⟨rfl, ⟨rfl, ⟨rfl, ⟨((zbn o1 rfl)).trans rfl, ⟨rfl, trivial⟩⟩⟩⟩⟩⟩⟩⟩⟩ ⟨.inl (zQ (zaH p)), ⟨.inl (zQ (zaY Wt)), ⟨.inl (zaM o1 (fun _ => (zdq _ _))), ⟨.inl (zQ (zaY Wt)), trivial⟩⟩⟩⟩
     ·exact ⟨(m + 1), (lm.set k (Wl.mk x.s ((zdo x.a x.b m + x.b) % 127) x.b x.w)), rfl, (by omega), (by rw [hlm, List.set_set, walk_1]), (WOk.set (x := ⟨x.s, zdo x.a x.b m, x.b, x.w⟩) hokm hx2 (by omega)), rfl⟩
    have h13' : ¬ (Wt.getD ((zdo x.a x.b m).toNat) 0 ≠ (-1)) := zju h13
    have hmn : m = n := Nat.le_antisymm hm (Nat.le_of_not_lt fun q => hn3 m q (Decidable.of_not_not (by assumption)))
    have hfree : Wt.getD (zdo x.a x.b m).toNat 0 = -1 := by rw [hmn]; exact hn2
    refine zcD (zC (zR (zdz ["roundhouse/wheel.spun"] (by kernel_rfl) (r_d 2 [(94, iv (k : Int)), (93, slV 2 n1 o1)] (by kernel_rfl) (r_s (by exact zek (o' := 4 * k) rfl ho1 rfl (by omega) (by omega)) ?_)))))
    refine r_s (by refine ze8 (o' := 1 + 4 * k) rfl (by omega)) ?_
    refine r_s (by refine z4 (v := iv (zdo x.a x.b m)) rfl (hf_sl (n := n1) rfl ho1 (by omega)) ?_; exact zdS (rec_r (m := none) ze6 (i := k) (j := 1) (by omega) hx2 rfl)) ?_
    refine r_d 2 [(99, iv (k : Int)), (98, slV 2 n1 o1)] (by kernel_rfl) (r_s (by exact zek (o' := 4 * k) rfl ho1 rfl (by omega) (by omega)) ?_)
    refine r_s (by refine ze8 (o' := 4 * k) rfl (by omega)) ?_
    refine r_s (by refine z4 (v := iv x.s) rfl (hf_sl (n := n1) rfl ho1 (by omega)) ?_; exact zdS (rec_r (m := none) ze6 (i := k) (j := 0) (by omega) hx2 rfl)) ?_
    refine r_s (by exact zch (o := 0) (o' := ((zdo x.a x.b m).toNat)) rfl rfl (by omega) (by omega)) ?_
    refine r_s0 (by refine qQ (c' := ii (Wt.set ((zdo x.a x.b m).toNat) x.s)) rfl rfl rfl ?_ ?_ ?_; exact rfl; exact (by rw [za4, hokt.wl]; omega); exact ii_w (i := ((zdo x.a x.b m).toNat)) rfl (by rw [hokt.wl]; omega)) ?_
    refine zc6 (zC (zR (zV (o_s (by refine z4 (v := .agg ⟨ii (Wt.set ((zdo x.a x.b m).toNat) x.s)⟩) rfl rfl ?_; exact ii_all ((List.length_set ..).trans hokt.wl)) ?_))))
    refine o_s (by refine z4 (v := .agg ⟨ii Wt⟩) rfl rfl ?_; exact ii_all hokt.wl) ?_
    refine o_s (by refine run_eqa (a := ⟨ii (Wt.set ((zdo x.a x.b m).toNat) x.s)⟩) (b := ⟨ii Wt⟩) (r := eqI (Wt.set ((zdo x.a x.b m).toNat) x.s) Wt) (R := !(eqI (Wt.set ((zdo x.a x.b m).toNat) x.s) Wt)) ?_ rfl; exact eqI_run (Wt.set ((zdo x.a x.b m).toNat) x.s) Wt ((List.length_set ..).trans hokt.wl) hokt.wl rfl rfl) ?_
    refine zG (z5 [(106, bv (!(eqI (Wt.set ((zdo x.a x.b m).toNat) x.s) Wt))), (64, iv (t : Int)), (63, iv x0.w), (9, iv (k : Int)), (56, iv (k : Int)), (55, iv (n1 : Nat)), (8, iv ft), (5, slV 2 n1 o1), (3, pv 1 0)] (by kernel_rfl) (zaj (t := !(eqI (Wt.set ((zdo x.a x.b m).toNat) x.s) Wt)) rfl (fun _ => ?_) (fun q => by rw [(by rw [set_neq (by rw [hokt.wl]; omega) hfree (by omega)]; rfl : (!(eqI (Wt.set ((zdo x.a x.b m).toNat) x.s) Wt)) = true)] at q; cases q)))
    refine zV (o_d 1 [(107, iv ft)] (by kernel_rfl) (o_s (by refine zaf (v := .int .i64 (i64.wrap (ft - 1))) (congrArg (Value.int .i64) (w64 (by omega) (by omega))) ?_; kernel_rfl) ?_))
    refine o_d 1 [(8, iv (ft - 1))] (by kernel_rfl) (zG (zC (zV (o_s (by refine zaf (v := .int .i64 (i64.wrap ((t : Int) + 1))) (congrArg (Value.int .i64) (w64 (by omega) (by omega))) ?_; kernel_rfl) ?_))))
    refine o_d 1 [(64, iv ((t : Int) + 1))] (by kernel_rfl) (zG (⟨x0.w.toNat - (t + 1), ?_⟩))
    refine ⟨⟨reg [(64, iv ((t + 1) : Int)), (63, iv x0.w), (9, iv (k : Int)), (56, iv (k : Int)), (55, iv (n1 : Nat)), (8, iv (ft - 1)), (5, slV 2 n1 o1), (3, pv 1 0)], [cw (pl p), cw (ii (Wt.set ((zdo x.a x.b m).toNat) x.s)), slB zW (zdP wlF lm) o1]⟩, ?_⟩
    refine zf2 (by omega) ⟨?_, ?_⟩
    ·exact Wk.ren [0, 1, 2] rfl rfl (by decide) ⟨rfl, ⟨rfl, ⟨rfl, ⟨rfl, ⟨rfl, ⟨rfl, ⟨((zbn o1 rfl)).trans rfl, ⟨rfl, trivial⟩⟩⟩⟩⟩⟩⟩⟩ ⟨.inl (zQ (zaH p)), ⟨.inl (zQ (zaY (Wt.set ((zdo x.a x.b m).toNat) x.s))), ⟨.inl (zaM o1 (fun _ => (zdq _ _))), trivial⟩⟩⟩
    ·exact ⟨(t + 1), (Wt.set ((zdo x.a x.b m).toNat) x.s), lm, (ft - 1), rfl, (by omega), (WOk.put hokm _ _), (by rw [hlm, hmn]; exact (turn_eq (by omega) hx hp).symm.trans (congrArg (zjr k) hSt)), (by have h9 := free_set (i := (zdo x.a x.b m).toNat) (s := x.s) (by rw [hokt.wl]; omega) hfree (by omega); omega), rfl⟩
   have h9' : ¬ ((t : Int) < x0.w) := of_decide_eq_false h9
   refine zcD (zC (zV (o_s (by refine zaf (v := .int .i64 (i64.wrap ((k : Int) + 1))) (congrArg (Value.int .i64) (w64 (by omega) (by omega))) ?_; kernel_rfl) ?_)))
   refine o_d 1 [(56, iv ((k : Int) + 1))] (by kernel_rfl) (zG (⟨n1 - (k + 1), ?_⟩))
   refine ⟨⟨reg [(56, iv ((k + 1) : Int)), (55, iv (n1 : Nat)), (8, iv ft), (5, slV 2 n1 o1), (3, pv 1 0)], [cw (pl p), cw (ii Wt), slB zW (zdP wlF lt) o1]⟩, ?_⟩
   refine zf2 (by omega) ⟨?_, ?_⟩
   ·exact Wk.ren [0, 1, 2] rfl rfl (by decide) ⟨rfl, ⟨rfl, ⟨rfl, ⟨((zbn o1 rfl)).trans rfl, ⟨rfl, trivial⟩⟩⟩⟩⟩ ⟨.inl (zQ (zaH p)), ⟨.inl (zQ (zaY Wt)), ⟨.inl (zaM o1 (fun _ => (zdq _ _))), trivial⟩⟩⟩
   ·exact ⟨(k + 1), Wt, lt, ft, rfl, (by omega), hokt, (by rw [hSt, show t = wtOf L0 k by omega]; rfl), (by omega), rfl⟩
  have h8' : ¬ ((k : Int) < (n1 : Nat)) := of_decide_eq_false h8
  refine zcD (⟨fk.toNat, ?_⟩)
  refine ⟨⟨reg [(8, iv fk), (5, slV 2 n1 o1), (3, pv 1 0)], [cw (pl p), cw (ii Wq), slB zW (zdP wlF lk) o1]⟩, ?_⟩
  refine zf2 (by omega) ⟨?_, ?_⟩
  ·exact Wk.ren [0, 1, 2] rfl rfl (by decide) ⟨rfl, ⟨((zbn o1 rfl)).trans rfl, ⟨rfl, trivial⟩⟩⟩ ⟨.inl (zQ (zaH p)), ⟨.inl (zQ (zaY Wq)), ⟨.inl (zaM o1 (fun _ => (zdq _ _))), trivial⟩⟩⟩
  ·exact ⟨(r + 1), Wq, lk, fk, rfl, hokk, (by rw [hSk, show k = L0.length by omega]; rfl), (by rw [if_neg (by omega)]; exact hfk.1), (by omega), rfl⟩
 have h7' : ¬ (f > 0) := of_decide_eq_false h7
 refine zcD (zC (zR (zV (o_d 1 [(111, sv 1 0 127 127)] (by kernel_rfl) (zhg (k := 0) (n := 0) (o := none) (q := 127) (cs := ii ([] : List Int)) (xs := ii W) (cs2 := ii W) (zl := zI) rfl rfl rfl (fun m q => by cases q) (fun _ => ⟨rfl, rfl⟩) (by first | exact ii_len1 _ | (rw [za4]; omega) | simp [ii]) rfl rfl (zbK rfl (by rw [List.drop_zero]; exact List.take_of_length_le (by rw [za4, hok.wl]; omega)) (by rw [za4, hok.wl]; omega)) (by rw [za4, hok.wl]) (by omega) (by omega) rfl (fun m14 e15 => ?_) (fun m14 => ?_))))))
 ·cases e15
 refine o_d 1 [(2, sv 3 0 127 (127 + m14))] (by kernel_rfl) (zG (zC (zaZ ?_)))
 have hW9 : W = zaI p := by rw [zaI, ← hL0]; exact (fin_a hS hf hr (by omega))
 exact ⟨trivial, ⟨reg [(2, sv 0 0 127 (127 + m14))], [cw (ii W ++ zbt zI m14)]⟩, Wk.ren [3] rfl rfl (by decide) ⟨rfl, trivial⟩ ⟨.inl (zQ (zct W m14)), trivial⟩, [sv 0 0 127 (127 + m14)], (qE rfl rfl), (zU rfl qA), m14, rfl, (by rw [← hW9]; rfl)⟩
end Go.Rh
