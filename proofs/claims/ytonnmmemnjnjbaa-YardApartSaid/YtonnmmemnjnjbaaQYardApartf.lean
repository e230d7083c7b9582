/- The proofs zeB the intermediate form, part QYardApartf. -/
import Derived.Test.YtonnmmemnjnjbaaQYardAparte
open Go.IntKind (i64)
set_option linter.unusedVariables false
set_option linter.unusedSimpArgs false
set_option maxRecDepth 100000
set_option maxHeartbeats 8000000
namespace Go.Rh
def zdf : IFunc := ⟨137, [.tmp 4], (.seq (.reg [kq 4 (.mv kF)]) (.seq (.seq (.reg [kq 15 (.call "roundhouse/roundhouselaw12.known" []), kq 16 (.un .not (.t 15))]) (.cond (.t 16) (.seq (.reg [kq 4 (.mv kF)]) .ret) .skip)) (.seq (.reg [kq 17 (.call "roundhouse/roundhouselaw6.Make" [(.c (.slice none 0 0)), (ki 0)]), kq 5 (.new kA), ku (.st 330 (.t 5) (.t 17))]) (.seq (.reg [km 18 0, kq 19 (.call "roundhouse/roundhouselaw12.within" [(.t 18), (ki 5)]), kq 20 (.bin .add (ki 1) (.t 19)), km 6 20]) (.seq (.reg [kq 22 (.ld (some 330) (.t 5)), km 23 6, kq 24 (.call "roundhouse/yard.New" [(.t 22), (.t 23)]), km 21 24, kq 25 (.ext 0 (.t 21)), kq 26 (.ext 1 (.t 21)), km 7 25, km 8 26]) (.seq (.seq (.reg [km 27 8, kq 28 (.bin .neq (.t 27) (ki 0)), km 29 28, kg 30 (.mv (.t 7)) 29 false, kg 31 (.eqn false .ptr (.t 30) (.c (.pointer none))) 29 false, kq 32 (.pick (.t 29) kT (.t 31))]) (.cond (.t 32) (.seq (.reg [kq 4 (.mv kF)]) .ret) .skip)) (.seq (.seq (.reg [kq 9 (.mv (ki 0))]) (.block 0 (.loop (.seq (.seq (.reg [km 33 9, km 34 1, kq 35 (.lenS (.t 34)), kq 36 (.bin .lss (.t 33) (.t 35)), km 37 36, kg 38 (.mv (.t 9)) 37 true, kg 39 (.bin .lss (.t 38) (ki 150)) 37 true, kq 40 (.pick (.t 37) (.t 39) kF), km 41 40, kg 42 (.mv (.t 7)) 41 true, kg 43 (.call "(*roundhouse/yard.Yard).Notes" [(.t 42)]) 41 true, kg 44 (.bin .lss (.t 43) (ki 200)) 41 true, kq 45 (.pick (.t 41) (.t 44) kF)]) (.cond (.t 45) .skip (.exit 0))) (.seq (.block 1 (.seq (.reg [km 48 1, km 49 9, kq 50 (.iadS 1 (.t 48) (.t 49)), kq 51 (.ld none (.t 50)), kq 52 (.call "roundhouse/roundhouselaw12.within" [(.t 51), (ki 1099511627776)]), km 10 52]) (.seq (.seq (.reg [km 53 10, kq 54 (.bin .rem (.t 53) (ki 8))]) (.block 2 (.seq (.reg [kq 70 (.bin .eql (.t 54) (ki 0)), km 69 70]) (.cond (.t 69) (.reg [km 71 7, km 72 10, kq 73 (.cvi .u64 (.t 72)), kq 74 (.bld [(2, (.int .u64 0))] [(0, 1, (.t 73))]), kq 75 (.bld kC [(0, 1, (ki 6)), (5, 2, (.t 74))]), kq 76 (.bsl kC 7 1 [(0, 7, (.t 75))]), kq 77 (.call "(*roundhouse/yard.Yard).Wish" [(.t 71), (.t 76)])]) (.seq (.seq (.reg [kq 79 (.bin .eql (.t 54) (ki 1)), km 78 79]) (.cond (.t 78) .skip (.reg [kq 80 (.bin .eql (.t 54) (ki 2)), km 78 80]))) (.cond (.t 78) (.reg [km 81 7, kq 82 (.call "(*roundhouse/yard.Yard).Tick" [(.t 81)])]) (.seq (.reg [kq 84 (.bin .eql (.t 54) (ki 3)), km 83 84]) (.cond (.t 83) (.seq (.seq (.reg [km 85 10, kq 86 (.bin .quo (.t 85) (ki 8)), kq 87 (.bin .rem (.t 86) (ki 4)), kq 88 (.bin .eql (.t 87) (ki 0))]) (.cond (.t 88) (.reg [km 89 7, km 90 10, kq 91 (.bin .quo (.t 90) (ki 32)), km 92 6, kq 93 (.bin .rem (.t 91) (.t 92)), kq 94 (.call "(*roundhouse/yard.Yard).Crash" [(.t 89), (.t 93)])]) .skip)) (.seq (.reg [km 95 10, kq 96 (.bin .quo (.t 95) (ki 8)), kq 97 (.bin .rem (.t 96) (ki 4)), kq 98 (.bin .eql (.t 97) (ki 1)), km 99 98, kg 100 (.mv (.t 7)) 99 true, kg 101 (.call "(*roundhouse/yard.Yard).Notes" [(.t 100)]) 99 true, kg 102 (.bin .gtr (.t 101) (ki 0)) 99 true, kq 103 (.pick (.t 99) (.t 102) kF)]) (.cond (.t 103) (.reg [km 104 7, km 105 10, kq 106 (.bin .quo (.t 105) (ki 32)), km 107 7, kq 108 (.call "(*roundhouse/yard.Yard).Notes" [(.t 107)]), kq 109 (.bin .rem (.t 106) (.t 108)), kq 110 (.call "(*roundhouse/yard.Yard).Lose" [(.t 104), (.t 109)])]) .skip))) (.seq (.reg [km 55 7, kq 56 (.call "(*roundhouse/yard.Yard).Notes" [(.t 55)]), kq 57 (.bin .gtr (.t 56) (ki 0))]) (.cond (.t 57) (.reg [km 58 7, km 59 10, kq 60 (.bin .quo (.t 59) (ki 32)), km 61 7, kq 62 (.call "(*roundhouse/yard.Yard).Notes" [(.t 61)]), kq 63 (.bin .rem (.t 60) (.t 62)), km 64 10, kq 65 (.bin .quo (.t 64) (ki 8)), kq 66 (.bin .rem (.t 65) (ki 4)), kq 67 (.bin .eql (.t 66) (ki 0)), kq 68 (.call "(*roundhouse/yard.Yard).Deliver" [(.t 58), (.t 63), (.t 67)])]) .skip)))))))))) (.seq (.reg [kq 11 (.mv (ki 0))]) (.block 3 (.loop (.seq (.seq (.reg [km 111 11, km 112 6, kq 113 (.bin .lss (.t 111) (.t 112))]) (.cond (.t 113) .skip (.exit 3))) (.seq (.block 4 (.seq (.reg [km 117 7, km 118 11, kq 119 (.call "(*roundhouse/yard.Yard).Version" [(.t 117), (.t 118)]), km 116 119, kq 120 (.ext 0 (.t 116)), kq 121 (.ext 1 (.t 116)), km 12 120, km 13 121]) (.seq (.reg [km 122 7, kq 123 (.call "(*roundhouse/yard.Yard).Pool" [(.t 122)]), kq 124 (.fld none 0 (.t 123)), km 14 124]) (.seq (.reg [km 125 13, km 126 125, kg 127 (.mv (.t 12)) 126 true, kg 128 (.mv (.t 14)) 126 true, kg 129 (.bin .neq (.t 127) (.t 128)) 126 true, kq 130 (.pick (.t 126) (.t 129) kF), km 131 130, kg 132 (.mv (.t 12)) 131 true, kg 133 (.mv (.t 14)) 131 true, kg 134 (.bin .sub (.t 133) (ki 1)) 131 true, kg 135 (.bin .neq (.t 132) (.t 134)) 131 true, kq 136 (.pick (.t 131) (.t 135) kF)]) (.cond (.t 136) (.seq (.reg [kq 4 (.mv kF)]) .ret) .skip))))) (.reg [km 114 11, kq 115 (.bin .add (.t 114) (ki 1)), km 11 115]))))))))) (.reg [km 46 9, kq 47 (.bin .add (.t 46) (ki 1)), km 9 47])))))) (.seq (.reg [kq 4 (.mv kT)]) .ret))))))))⟩
theorem YardApartC {P : Program} (hc : zX P "roundhouse/roundhouselaw12.YardApart" = some zdf) (h_law12_known : zX P "roundhouse/roundhouselaw12.known" = some zdP) (h_ref6_New : zfJ P) (h_ref6_out : zeD P) (h_ref5_Ring : zd4 P) (h_yard_Yard_Notes : zbl P) (h_yard_Yard_Pool : zcv P) (h_head_Head_Pool : zbS P) (h_yard_Yard_Wish : zct P) (h_head_Head_Wish : zbQ P) (h_head_Head_waiting : za4 P) (h_pool_All : zcH P) (h_pool_Apply : zaI P) (h_pool_may : zaP P) (h_pool_held : zaG P) (h_pool_fits : zaM P) (h_pool_Check : zaB P) (h_pool_placed : zai P) (h_cookie_Next : zaq P) (h_yard_Yard_Tick : zcu P) (h_head_Head_Send : zbR P) (h_head_Head_all : zbC P) (h_head_Head_publish : za5 P) (h_yard_row_head_Note_put : zay P) (h_yard_Yard_Lose : zcw P) (h_yard_row_head_Note_at : zab P) (h_yard_row_head_Note_drop : zad P) (h_yard_Yard_Version : zbK P) (h_yard_row_yard_unit_at : qT P) (h_plane_Plane_Version : zap P) (h_yard_Yard_Crash : zci P) (h_plane_Plane_Crash : zbp P) (h_yard_Yard_Deliver : zbn P) (h_head_Head_Heard : zbm P) (h_yard_unit_hear : zbP P) (h_yard_unit_version : za3 P) (h_yard_unit_load : zbu P) (h_plane_Plane_Load : zaW P) (h_plane_maybe_api_Pool_lay : qR P) (h_wheel_Make : zbH P) (h_wheel_spun : zbj P) (h_sip_Words : zbo P) (h_sip_Of : zcx P) (h_sip_number_byte : qU P) (h_sip_state_take : zaa P) (h_sip_state_rounds : qK P) (h_sip_state_round : qM P) (h_math_bits_RotateLeft64 : zV P) (h_head_New : zdT P) (h_plane_New : zeN P) (h_yard_New : zg9 P) (h_yard_row_yard_unit_put : zbc P) (h_law6_Make : zX P "roundhouse/roundhouselaw6.Make" = some zeR) (h_law5_Key : zha P) (h_law6_Entry : zX P "roundhouse/roundhouselaw6.Entry" = some zfm) (h_law6_within : zX P "roundhouse/roundhouselaw6.within" = some zeQ) (h_ref6_Apply : zX P "roundhouse/roundhouseref6.Apply" = some zfj) (h_ref6_Check : zX P "roundhouse/roundhouseref6.Check" = some zfi) (h_ref6_bad : zX P "roundhouse/roundhouseref6.bad" = some zhl) (h_ref6_Held : zX P "roundhouse/roundhouseref6.Held" = some zgc) (h_ref5_Next : zX P "roundhouse/roundhouseref5.Next" = some zge) (h_law12_within : zX P "roundhouse/roundhouselaw12.within" = some zdj) (units : Int) (o2 : Option Nat) (ks : List Int) (hnks : o2 = none → ks = []) (hl2 : (ks.length : Int) ≤ 9223372036854775807) :
    Env P "roundhouse/roundhouselaw12.YardApart" [iv units, inV o2 0 ks.length] ([inB o2 (ii ks)]) (Ans (.bool true) ([inB o2 (ii ks)])) := by
 refine Env.by hc ?_
 unfold zdf
 show GC _ 1 _ _ ⟨reg [(0, iv units), (1, inV o2 0 ks.length)], [inB o2 (ii ks)]⟩
 have H : YCode P := ⟨h_yard_Yard_Notes, h_yard_Yard_Pool, h_head_Head_Pool, h_yard_Yard_Wish, h_head_Head_Wish, h_head_Head_waiting, h_pool_All, h_pool_Apply, h_pool_may, h_pool_held, h_pool_fits, h_pool_Check, h_pool_placed, h_cookie_Next, h_yard_Yard_Tick, h_head_Head_Send, h_head_Head_all, h_head_Head_publish, h_yard_row_head_Note_put, h_yard_Yard_Lose, h_yard_row_head_Note_at, h_yard_row_head_Note_drop, h_yard_Yard_Version, h_yard_row_yard_unit_at, h_plane_Plane_Version, h_yard_Yard_Crash, h_plane_Plane_Crash, h_yard_Yard_Deliver, h_head_Head_Heard, h_yard_unit_hear, h_yard_unit_version, h_yard_unit_load, h_plane_Plane_Load, h_plane_maybe_api_Pool_lay, h_wheel_Make, h_wheel_spun, h_sip_Words, h_sip_Of, h_sip_number_byte, h_sip_state_take, h_sip_state_rounds, h_sip_state_round, h_math_bits_RotateLeft64, h_head_New, h_plane_New, h_yard_New, h_yard_row_yard_unit_put⟩
 refine zT (z0 (o_d 1 [(4, bv false)] (by kernel_rfl) (zF (zC (zT (zT (z0 (zbO (zeO (known12C h_law12_known h_ref6_New h_ref6_out h_ref5_Ring h_yard_Yard_Notes h_yard_Yard_Pool h_head_Head_Pool h_yard_Yard_Wish h_head_Head_Wish h_head_Head_waiting h_pool_All h_pool_Apply h_pool_may h_pool_held h_pool_fits h_pool_Check h_pool_placed h_cookie_Next h_yard_Yard_Tick h_head_Head_Send h_head_Head_all h_head_Head_publish h_yard_row_head_Note_put h_yard_Yard_Lose h_yard_row_head_Note_at h_yard_row_head_Note_drop h_yard_Yard_Version h_yard_row_yard_unit_at h_plane_Plane_Version h_yard_Yard_Crash h_plane_Plane_Crash h_yard_Yard_Deliver h_head_Head_Heard h_yard_unit_hear h_yard_unit_version h_yard_unit_load h_plane_Plane_Load h_plane_maybe_api_Pool_lay h_wheel_Make h_wheel_spun h_sip_Words h_sip_Of h_sip_number_byte h_sip_state_take h_sip_state_rounds h_sip_state_round h_math_bits_RotateLeft64 h_head_New h_plane_New h_yard_New h_yard_row_yard_unit_put) rfl rfl rfl (o_d 1 [(16, bv false)] (by kernel_rfl) (zF (zC ?_))))))))))))
 refine zbU rfl (zaC (zC (zT (z0 (zbO (zeO (Make0C h_law6_Make h_law5_Key h_ref6_New h_ref6_out h_ref5_Ring h_law6_Entry h_law6_within h_ref6_Apply h_ref6_Check h_ref6_bad h_ref6_Held h_ref5_Next) rfl rfl (zaA _) ((ex_eq (zag 10 80 (zed 1) (zec 1) (zed 2) (zec 2)).1).elim fun p hpE => ?_)))))))
 have hpv : p 0 = 0 := hpE ▸ rfl
 rw [← hpE]
 refine o_b 1 [(5, pv 1 0)] [inB o2 (ii ks), cw (pl zH)] (by kernel_rfl) (zeC (by refine qY (c' := pl p) rfl rfl rfl ?_ ?_ ?_; exact zN _; exact zeW (by omega); exact zae zH p) ?_)
 refine zF (zC (zT (z0 (o_d 1 [(18, iv units)] (by kernel_rfl) (zbO (zeO (within12C h_law12_within units 5 (by decide)) rfl rfl rfl ?_))))))
 have w1 := within_lt units (n := 5) (by decide)
 refine o_s (by refine qL (v := .int .i64 (i64.wrap (1 + (zM units 5)))) (congrArg (Value.int .i64) (w64 (by omega) (by omega))) ?_; kernel_rfl) ?_
 refine o_d 1 [(6, iv (1 + (zM units 5)))] (by kernel_rfl) (zF (zC (zT (z0 (o_s (by refine z6 (v := qG p) rfl rfl ?_; exact zaU p) ?_)))))
 refine o_d 1 [(23, iv (1 + (zM units 5)))] (by kernel_rfl) (zbO (YNewK H p (1 + (zM units 5)) (fun q => absurd q (by omega)) (fun T1 hu1 hY1q => ?_)))
 have hY1 : YP (fun k => 2 ≤ k) 2 (nyS p (1 + (zM units 5)).toNat) ([inB o2 (ii ks), cw (pl p)] ++ T1) := hY1q
 refine (ex_eq (nyS p (1 + (zM units 5)).toNat)).elim fun S3 hS4 => ?_
 have hY5 := hS4.symm ▸ hY1
 have ok6 : YOK S3 := hS4 ▸ (ok_nyS p (by omega) (by omega))
 have ln7 : S3.l.length ≤ 0 := hS4 ▸ Nat.zero_le _
 refine o_d 5 [(8, iv 0), (7, pv 2 0), (26, iv 0), (25, pv 2 0), (21, .tuple #[pv 2 0, iv 0])] (by kernel_rfl) (zF (zC (zT (zT (z0 (o_d 6 [(32, bv false), (31, bv false), (30, pv 2 0), (29, bv false), (28, bv false), (27, iv 0)] (by kernel_rfl) (zF (z9 [(32, bv false), (7, pv 2 0), (6, iv (1 + (zM units 5))), (1, inV o2 0 ks.length)] (by kernel_rfl) (zbU rfl (zaC (zC (zT ?_))))))))))))
 refine zT (z0 (o_d 1 [(9, iv 0)] (by kernel_rfl) (zF (zC (zak (zdy (fun μ s => ∃ (T7z : List Blk), ∃ (i : Nat), ∃ (S1 : YS), μ = 150 - i ∧ YP (fun k => 2 ≤ k) 2 S1 ([inB o2 (ii ks), cw (pl p)] ++ T7z) ∧ YOK S1 ∧ (i ≤ 150) ∧ (AI S1 i) ∧ (S1.n = (1 + (zM units 5)).toNat) ∧ s = ⟨reg [(9, iv (i : Int)), (7, pv 2 0), (6, iv (1 + (zM units 5))), (1, inV o2 0 ks.length)], ([inB o2 (ii ks), cw (pl p)] ++ T7z)⟩) ⟨(150 - 0), ?_⟩ ?_))))))
 ·skip
  exact z9 [(9, iv (0 : Int)), (7, pv 2 0), (6, iv (1 + (zM units 5))), (1, inV o2 0 ks.length)] (by kernel_rfl) (⟨T1, 0, S3, rfl, hY5, ok6, (by omega), (hS4 ▸ AI.init (by omega) (by omega)), (hS4 ▸ rfl), rfl⟩)
 rintro μ s ⟨T7z, i, S1, rfl, hY7z, ok7z, hi, hA, hn1, rfl⟩
 refine zT (zT (z0 (o_d 2 [(34, inV o2 0 ks.length), (33, iv (i : Int))] (by kernel_rfl) (o_s (by exact run_lenIn rfl (fun q => by rw [hnks q]; rfl)) ?_))))
 refine o_d 2 [(37, bv (decide ((i : Int) < (ks.length : Nat)))), (36, bv (decide ((i : Int) < (ks.length : Nat))))] (by kernel_rfl) (o_sp (b := decide ((i : Int) < (ks.length : Nat))) 37 rfl (fun h9 => ?_) (fun h9 => ?_))
 ·skip
  have h9' : (i : Int) < (ks.length : Nat) := of_decide_eq_true h9
  refine o_d 4 [(41, bv (decide ((i : Int) < 150))), (40, bv (decide ((i : Int) < 150))), (39, bv (decide ((i : Int) < 150))), (38, iv (i : Int))] (by kernel_rfl) (o_sp (b := decide ((i : Int) < 150)) 41 rfl (fun h10 => ?_) (fun h10 => ?_))
  ·skip
   have h10' : (i : Int) < 150 := of_decide_eq_true h10
   refine (zd6 (l := ks) (i := i) (by omega)).elim fun x hxq => ?_
   have hx := hxq.1
   refine o_d 1 [(42, pv 2 0)] (by kernel_rfl) (zd2 rfl (zbO (zgq H hY7z   (spl rfl fun T10 hY10q => ?_))))
   refine o_d 2 [(45, bv (decide (((S1.l.length : Nat) : Int) < 200))), (44, bv (decide (((S1.l.length : Nat) : Int) < 200)))] (by kernel_rfl) (zF (zC (zaJ (t := decide (((S1.l.length : Nat) : Int) < 200)) rfl (fun h12 => ?_) (fun h12 => ?_))))
   ·skip
    have h12' : ((S1.l.length : Nat) : Int) < 200 := of_decide_eq_true h12
    refine zaC (zC (zT (zak (zT (z0 (o_d 2 [(49, iv (i : Int)), (48, inV o2 0 ks.length)] (by kernel_rfl) (o_s (by exact run_iadIn (o' := i) rfl (fun q => by rw [hnks q]; rfl) rfl (by omega) (by omega)) ?_)))))))
    refine o_s (by refine z6 (v := iv x) rfl (hf_in (n := ks.length) rfl (fun q => by rw [hnks q]; rfl) (by omega)) ?_; exact ii_r (i := i) (by omega) hx) ?_
    refine zbO (zeO (within12C h_law12_within x 1099511627776 (by decide)) rfl rfl rfl ?_)
    have w13 := within_lt x (n := 1099511627776) (by decide)
    refine o_d 1 [(10, iv (zM x 1099511627776))] (by kernel_rfl) (zF (zC (gcut (fun s => ∃ (T13z : List Blk), ∃ (S2 : YS), YP (fun k => 2 ≤ k) 2 S2 ([inB o2 (ii ks), cw (pl p)] ++ T13z) ∧ YOK S2 ∧ (AI S2 (i + 1)) ∧ (S2.n = (1 + (zM units 5)).toNat) ∧ s = ⟨reg [(9, iv (i : Int)), (7, pv 2 0), (6, iv (1 + (zM units 5))), (1, inV o2 0 ks.length)], ([inB o2 (ii ks), cw (pl p)] ++ T13z)⟩) ?_ ?_)))
    ·skip
     refine zT (z0 (o_d 1 [(53, iv (zM x 1099511627776))] (by kernel_rfl) (o_s (by refine qL (v := .int .i64 ((zM x 1099511627776).tmod 8)) (congrArg (Value.int .i64) (zfY (by omega))) ?_; kernel_rfl) ?_)))
     refine zF (z9 [(54, iv ((zM x 1099511627776) % 8)), (10, iv (zM x 1099511627776)), (9, iv (i : Int)), (7, pv 2 0), (6, iv (1 + (zM units 5))), (1, inV o2 0 ks.length)] (by kernel_rfl) (zak (zT (z0 (o_d 2 [(69, bv (((zM x 1099511627776) % 8) == 0)), (70, bv (((zM x 1099511627776) % 8) == 0))] (by kernel_rfl) (zF (zC (zaJ (t := ((zM x 1099511627776) % 8) == 0) rfl (fun h15 => ?_) (fun h15 => ?_)))))))))
     ·skip
      have h15' : (zM x 1099511627776) % 8 = 0 := zhf h15
      refine z0 (o_b 6 [(76, slV ([inB o2 (ii ks), cw (pl p)] ++ T10).length ([⟨6, 0, 0, 0, 0, IntKind.u64.wrap (zM x 1099511627776), 0⟩] : List Ent).length (some 0)), (75, .agg #[iv 6, iv 0, iv 0, iv 0, iv 0, uv (IntKind.u64.wrap (zM x 1099511627776)), uv 0]), (74, .agg #[uv (IntKind.u64.wrap (zM x 1099511627776)), uv 0]), (73, uv (IntKind.u64.wrap (zM x 1099511627776))), (72, iv (zM x 1099511627776)), (71, pv 2 0)] ([inB o2 (ii ks), cw (pl p)] ++ (T10 ++ [slB zE (qV ([⟨6, 0, 0, 0, 0, IntKind.u64.wrap (zM x 1099511627776), 0⟩] : List Ent)) (some 0)])) (by kernel_rfl) (zbO (YWishP H hY10q (fun k hk => by simp only [List.length_append, List.length_cons, List.length_nil] at hk; omega) hA.w (x := ([⟨6, 0, 0, 0, 0, IntKind.u64.wrap (zM x 1099511627776), 0⟩] : List Ent)) (m := 0) (by simp) (spl (L := [inB o2 (ii ks), cw (pl p)]) (T := (T10 ++ [slB zE (qV ([⟨6, 0, 0, 0, 0, IntKind.u64.wrap (zM x 1099511627776), 0⟩] : List Ent)) (some 0)])) rfl fun T15 hY15q => ?_))))
      refine (ex_eq (wishY S1 ([⟨6, 0, 0, 0, 0, IntKind.u64.wrap (zM x 1099511627776), 0⟩] : List Ent))).elim fun S17 hS18 => ?_
      have hY19 := hS18.symm ▸ hY15q
      have ok20 : YOK S17 := hS18 ▸ (okW ok7z _)
      have ln21 : S17.l.length ≤ S1.l.length := hS18 ▸ Nat.le_refl _
      exact zF (z9 [(9, iv (i : Int)), (7, pv 2 0), (6, iv (1 + (zM units 5))), (1, inV o2 0 ks.length)] (by kernel_rfl) (⟨T15, S17, hY19, ok20, (hS18 ▸ ((hA.wish _).more (by omega))), (hS18 ▸ (hn1)), rfl⟩))
     have h15' : ¬ ((zM x 1099511627776) % 8 = 0) := zhg h15
     refine zT (zT (z0 (o_d 2 [(78, bv (((zM x 1099511627776) % 8) == 1)), (79, bv (((zM x 1099511627776) % 8) == 1))] (by kernel_rfl) (zF (zC (zaJ (t := ((zM x 1099511627776) % 8) == 1) rfl (fun h22 => ?_) (fun h22 => ?_)))))))
     ·skip
      have h22' : (zM x 1099511627776) % 8 = 1 := zhf h22
      refine zaC (zC (zaJ (t := ((zM x 1099511627776) % 8) == 1) rfl (fun _ => ?_) (fun q => by rw [h22] at q; cases q)))
      refine z0 (o_d 1 [(81, pv 2 0)] (by kernel_rfl) (zbO (YTickK H hY10q (by omega) (by rw [ok7z.hd]; have := ok7z.n; omega)  (spl rfl fun T22 hY22q => ?_))))
      refine (ex_eq (zax S1)).elim fun S24 hS25 => ?_
      have hY26 := hS25.symm ▸ hY22q
      have ok27 : YOK S24 := hS25 ▸ (zim ok7z)
      have ln28 : S24.l.length ≤ S1.l.length + 16 := hS25 ▸ tick_len ok7z
      exact zF (z9 [(9, iv (i : Int)), (7, pv 2 0), (6, iv (1 + (zM units 5))), (1, inV o2 0 ks.length)] (by kernel_rfl) (⟨T22, S24, hY26, ok27, (hS25 ▸ (hA.tick (by omega))), (hS25 ▸ (hn1)), rfl⟩))
     have h22' : ¬ ((zM x 1099511627776) % 8 = 1) := zhg h22
     refine z0 (o_d 2 [(78, bv (((zM x 1099511627776) % 8) == 2)), (80, bv (((zM x 1099511627776) % 8) == 2))] (by kernel_rfl) (zF (zC (zaJ (t := ((zM x 1099511627776) % 8) == 2) rfl (fun h29 => ?_) (fun h29 => ?_)))))
     ·skip
      have h29' : (zM x 1099511627776) % 8 = 2 := zhf h29
      refine z0 (o_d 1 [(81, pv 2 0)] (by kernel_rfl) (zbO (YTickK H hY10q (by omega) (by rw [ok7z.hd]; have := ok7z.n; omega)  (spl rfl fun T29 hY29q => ?_))))
      refine (ex_eq (zax S1)).elim fun S31 hS32 => ?_
      have hY33 := hS32.symm ▸ hY29q
      have ok34 : YOK S31 := hS32 ▸ (zim ok7z)
      have ln35 : S31.l.length ≤ S1.l.length + 16 := hS32 ▸ tick_len ok7z
      exact zF (z9 [(9, iv (i : Int)), (7, pv 2 0), (6, iv (1 + (zM units 5))), (1, inV o2 0 ks.length)] (by kernel_rfl) (⟨T29, S31, hY33, ok34, (hS32 ▸ (hA.tick (by omega))), (hS32 ▸ (hn1)), rfl⟩))
     have h29' : ¬ ((zM x 1099511627776) % 8 = 2) := zhg h29
     refine zT (z0 (o_d 2 [(83, bv (((zM x 1099511627776) % 8) == 3)), (84, bv (((zM x 1099511627776) % 8) == 3))] (by kernel_rfl) (zF (zC (zaJ (t := ((zM x 1099511627776) % 8) == 3) rfl (fun h36 => ?_) (fun h36 => ?_))))))
     ·skip
      have h36' : (zM x 1099511627776) % 8 = 3 := zhf h36
      refine zT (zT (z0 (o_d 1 [(85, iv (zM x 1099511627776))] (by kernel_rfl) (o_s (by refine qL (v := .int .i64 (i64.wrap ((zM x 1099511627776).tdiv 8))) (congrArg (Value.int .i64) (zij (by omega) (by omega))) ?_; kernel_rfl) ?_))))
      refine o_s (by refine qL (v := .int .i64 (((zM x 1099511627776) / 8).tmod 4)) (congrArg (Value.int .i64) (zfY (by omega))) ?_; kernel_rfl) ?_
      refine o_d 1 [(88, bv ((((zM x 1099511627776) / 8) % 4) == 0))] (by kernel_rfl) (zF (zC (zaJ (t := (((zM x 1099511627776) / 8) % 4) == 0) rfl (fun h37 => ?_) (fun h37 => ?_))))
      ·skip
       have h37' : ((zM x 1099511627776) / 8) % 4 = 0 := zhf h37
       refine z0 (o_d 2 [(90, iv (zM x 1099511627776)), (89, pv 2 0)] (by kernel_rfl) (o_s (by refine qL (v := .int .i64 (i64.wrap ((zM x 1099511627776).tdiv 32))) (congrArg (Value.int .i64) (zij (by omega) (by omega))) ?_; kernel_rfl) ?_))
       refine o_d 1 [(92, iv (1 + (zM units 5)))] (by kernel_rfl) (o_s (by refine qL (congrArg (Value.int .i64) (zfY (a := (zM x 1099511627776) / 32) (c := 1 + (zM units 5)) (by omega))) ?_; exact run_rem rfl rfl (by omega)) ?_)
       refine zbO (YCrashK H hY10q  (((zM x 1099511627776) / 32) % (1 + (zM units 5))) (spl rfl fun T37 hY37q => ?_))
       refine (ex_eq (zel S1 (((zM x 1099511627776) / 32) % (1 + (zM units 5))))).elim fun S39 hS40 => ?_
       have hY41 := hS40.symm ▸ hY37q
       have ok42 : YOK S39 := hS40 ▸ (ok_crash ok7z _)
       have ln43 : S39.l.length ≤ S1.l.length := hS40 ▸ (Nat.le_of_eq (congrArg List.length (crash_l _ _)))
       refine zF (zC (zT (z0 (o_d 1 [(95, iv (zM x 1099511627776))] (by kernel_rfl) (o_s (by refine qL (v := .int .i64 (i64.wrap ((zM x 1099511627776).tdiv 8))) (congrArg (Value.int .i64) (zij (by omega) (by omega))) ?_; kernel_rfl) ?_)))))
       refine o_s (by refine qL (v := .int .i64 (((zM x 1099511627776) / 8).tmod 4)) (congrArg (Value.int .i64) (zfY (by omega))) ?_; kernel_rfl) ?_
       refine o_d 2 [(99, bv ((((zM x 1099511627776) / 8) % 4) == 1)), (98, bv ((((zM x 1099511627776) / 8) % 4) == 1))] (by kernel_rfl) (o_sp (b := (((zM x 1099511627776) / 8) % 4) == 1) 99 rfl (fun q => absurd (eq_of_beq q) (by omega)) (fun k44 => ?_))
       exact o_d 4 [(103, bv false), (102, undef), (101, undef), (100, undef)] (by kernel_rfl) (zF (z9 [(103, bv false), (10, iv (zM x 1099511627776)), (9, iv (i : Int)), (7, pv 2 0), (6, iv (1 + (zM units 5))), (1, inV o2 0 ks.length)] (by kernel_rfl) (zbU rfl (zaC (z9 [(9, iv (i : Int)), (7, pv 2 0), (6, iv (1 + (zM units 5))), (1, inV o2 0 ks.length)] (by kernel_rfl) (⟨T37, S39, hY41, ok42, (hS40 ▸ (hA.crash (by omega) _)), (hS40 ▸ ((crash_n _ _).trans hn1)), rfl⟩))))))
      have h37' : ¬ (((zM x 1099511627776) / 8) % 4 = 0) := zhg h37
      refine zaC (zC (zT (z0 (o_d 1 [(95, iv (zM x 1099511627776))] (by kernel_rfl) (o_s (by refine qL (v := .int .i64 (i64.wrap ((zM x 1099511627776).tdiv 8))) (congrArg (Value.int .i64) (zij (by omega) (by omega))) ?_; kernel_rfl) ?_)))))
      refine o_s (by refine qL (v := .int .i64 (((zM x 1099511627776) / 8).tmod 4)) (congrArg (Value.int .i64) (zfY (by omega))) ?_; kernel_rfl) ?_
      refine o_d 2 [(99, bv ((((zM x 1099511627776) / 8) % 4) == 1)), (98, bv ((((zM x 1099511627776) / 8) % 4) == 1))] (by kernel_rfl) (o_sp (b := (((zM x 1099511627776) / 8) % 4) == 1) 99 rfl (fun h45 => ?_) (fun h45 => ?_))
      ·skip
       have h45' : ((zM x 1099511627776) / 8) % 4 = 1 := zhf h45
       refine o_d 1 [(100, pv 2 0)] (by kernel_rfl) (zd2 rfl (zbO (zgq H hY10q   (spl rfl fun T45 hY45q => ?_))))
       refine o_d 2 [(103, bv (decide (((S1.l.length : Nat) : Int) > 0))), (102, bv (decide (((S1.l.length : Nat) : Int) > 0)))] (by kernel_rfl) (zF (z9 [(103, bv (decide (((S1.l.length : Nat) : Int) > 0))), (10, iv (zM x 1099511627776)), (9, iv (i : Int)), (7, pv 2 0), (6, iv (1 + (zM units 5))), (1, inV o2 0 ks.length)] (by kernel_rfl) (zaJ (t := decide (((S1.l.length : Nat) : Int) > 0)) rfl (fun h47 => ?_) (fun h47 => ?_))))
       ·skip
        have h47' : ((S1.l.length : Nat) : Int) > 0 := of_decide_eq_true h47
        refine z0 (o_d 2 [(105, iv (zM x 1099511627776)), (104, pv 2 0)] (by kernel_rfl) (o_s (by refine qL (v := .int .i64 (i64.wrap ((zM x 1099511627776).tdiv 32))) (congrArg (Value.int .i64) (zij (by omega) (by omega))) ?_; kernel_rfl) ?_))
        refine o_d 1 [(107, pv 2 0)] (by kernel_rfl) (zbO (zgq H hY45q   (spl rfl fun T47 hY47q => ?_)))
        refine o_s (by refine qL (congrArg (Value.int .i64) (zfY (a := (zM x 1099511627776) / 32) (c := (S1.l.length : Nat)) (by omega))) ?_; exact run_rem rfl rfl (by omega)) ?_
        refine zbO (YLoseK H hY47q (by omega) (((zM x 1099511627776) / 32) % (S1.l.length : Nat)) (spl rfl fun T48 hY48q => ?_))
        refine (ex_eq (zcy S1 (((zM x 1099511627776) / 32) % (S1.l.length : Nat)))).elim fun S50 hS51 => ?_
        have hY52 := hS51.symm ▸ hY48q
        have ok53 : YOK S50 := hS51 ▸ (ok_lose ok7z _)
        have ln54 : S50.l.length ≤ S1.l.length := hS51 ▸ lose_len _ _
        exact zF (z9 [(9, iv (i : Int)), (7, pv 2 0), (6, iv (1 + (zM units 5))), (1, inV o2 0 ks.length)] (by kernel_rfl) (⟨T48, S50, hY52, ok53, (hS51 ▸ ((hA.lose _).more (by omega))), (hS51 ▸ (hn1)), rfl⟩))
       have h47' : ¬ (((S1.l.length : Nat) : Int) > 0) := of_decide_eq_false h47
       exact zaC (z9 [(9, iv (i : Int)), (7, pv 2 0), (6, iv (1 + (zM units 5))), (1, inV o2 0 ks.length)] (by kernel_rfl) (⟨T45, S1, hY45q, ok7z, (hA.more (by omega)), hn1, rfl⟩))
      have h45' : ¬ (((zM x 1099511627776) / 8) % 4 = 1) := zhg h45
      exact o_d 4 [(103, bv false), (102, undef), (101, undef), (100, undef)] (by kernel_rfl) (zF (z9 [(103, bv false), (10, iv (zM x 1099511627776)), (9, iv (i : Int)), (7, pv 2 0), (6, iv (1 + (zM units 5))), (1, inV o2 0 ks.length)] (by kernel_rfl) (zbU rfl (zaC (z9 [(9, iv (i : Int)), (7, pv 2 0), (6, iv (1 + (zM units 5))), (1, inV o2 0 ks.length)] (by kernel_rfl) (⟨T10, S1, hY10q, ok7z, (hA.more (by omega)), hn1, rfl⟩))))))
     have h36' : ¬ ((zM x 1099511627776) % 8 = 3) := zhg h36
     refine zT (z0 (o_d 1 [(55, pv 2 0)] (by kernel_rfl) (zbO (zgq H hY10q   (spl rfl fun T54 hY54q => ?_)))))
     refine o_d 1 [(57, bv (decide (((S1.l.length : Nat) : Int) > 0)))] (by kernel_rfl) (zF (zC (zaJ (t := decide (((S1.l.length : Nat) : Int) > 0)) rfl (fun h56 => ?_) (fun h56 => ?_))))
     ·skip
      have h56' : ((S1.l.length : Nat) : Int) > 0 := of_decide_eq_true h56
      refine z0 (o_d 2 [(59, iv (zM x 1099511627776)), (58, pv 2 0)] (by kernel_rfl) (o_s (by refine qL (v := .int .i64 (i64.wrap ((zM x 1099511627776).tdiv 32))) (congrArg (Value.int .i64) (zij (by omega) (by omega))) ?_; kernel_rfl) ?_))
      refine o_d 1 [(61, pv 2 0)] (by kernel_rfl) (zbO (zgq H hY54q   (spl rfl fun T56 hY56q => ?_)))
      refine o_s (by refine qL (congrArg (Value.int .i64) (zfY (a := (zM x 1099511627776) / 32) (c := (S1.l.length : Nat)) (by omega))) ?_; exact run_rem rfl rfl (by omega)) ?_
      refine o_d 1 [(64, iv (zM x 1099511627776))] (by kernel_rfl) (o_s (by refine qL (v := .int .i64 (i64.wrap ((zM x 1099511627776).tdiv 8))) (congrArg (Value.int .i64) (zij (by omega) (by omega))) ?_; kernel_rfl) ?_)
      refine o_s (by refine qL (v := .int .i64 (((zM x 1099511627776) / 8).tmod 4)) (congrArg (Value.int .i64) (zfY (by omega))) ?_; kernel_rfl) ?_
      refine o_d 1 [(67, bv ((((zM x 1099511627776) / 8) % 4) == 0))] (by kernel_rfl) (zbO (zgV H hY56q (by omega) ok7z.nok (((zM x 1099511627776) / 32) % (S1.l.length : Nat)) ((((zM x 1099511627776) / 8) % 4) == 0) (spl rfl fun T57 hY57q => ?_)))
      refine (ex_eq (zaN S1 (((zM x 1099511627776) / 32) % (S1.l.length : Nat)) ((((zM x 1099511627776) / 8) % 4) == 0))).elim fun S59 hS60 => ?_
      have hY61 := hS60.symm ▸ hY57q
      have ok62 : YOK S59 := hS60 ▸ (ok_dlv ok7z _ _)
      have ln63 : S59.l.length ≤ S1.l.length + 1 := hS60 ▸ dlv_len _ _ _
      exact zF (z9 [(9, iv (i : Int)), (7, pv 2 0), (6, iv (1 + (zM units 5))), (1, inV o2 0 ks.length)] (by kernel_rfl) (⟨T57, S59, hY61, ok62, (hS60 ▸ ((hA.dlv (by omega) _ _).more (by omega))), (hS60 ▸ ((dlv_n _ _ _).trans hn1)), rfl⟩))
     have h56' : ¬ (((S1.l.length : Nat) : Int) > 0) := of_decide_eq_false h56
     exact zaC (z9 [(9, iv (i : Int)), (7, pv 2 0), (6, iv (1 + (zM units 5))), (1, inV o2 0 ks.length)] (by kernel_rfl) (⟨T54, S1, hY54q, ok7z, (hA.more (by omega)), hn1, rfl⟩))
    rintro s ⟨T13z, S2, hY13z, ok13z, hA2, hn2, rfl⟩
    have hver2 := hA2.ver
    refine zT (z0 (o_d 1 [(11, iv 0)] (by kernel_rfl) (zF (zC (zak (zdy (fun μ s => ∃ (T63z : List Blk), ∃ (j : Nat), μ = (1 + (zM units 5)).toNat - j ∧ YP (fun k => 2 ≤ k) 2 S2 ([inB o2 (ii ks), cw (pl p)] ++ T63z) ∧ YOK S2 ∧ (j ≤ (1 + (zM units 5)).toNat) ∧ s = ⟨reg [(11, iv (j : Int)), (9, iv (i : Int)), (7, pv 2 0), (6, iv (1 + (zM units 5))), (1, inV o2 0 ks.length)], ([inB o2 (ii ks), cw (pl p)] ++ T63z)⟩) ⟨((1 + (zM units 5)).toNat - 0), ?_⟩ ?_))))))
    ·skip
     exact z9 [(11, iv (0 : Int)), (9, iv (i : Int)), (7, pv 2 0), (6, iv (1 + (zM units 5))), (1, inV o2 0 ks.length)] (by kernel_rfl) (⟨T13z, 0, rfl, hY13z, ok13z, (by omega), rfl⟩)
    rintro μ s ⟨T63z, j, rfl, hY63z, ok63z, hj, rfl⟩
    refine zT (zT (z0 (o_d 3 [(113, bv (decide ((j : Int) < 1 + (zM units 5)))), (112, iv (1 + (zM units 5))), (111, iv (j : Int))] (by kernel_rfl) (zF (zC (zaJ (t := decide ((j : Int) < 1 + (zM units 5))) rfl (fun h65 => ?_) (fun h65 => ?_)))))))
    ·skip
     have h65' : (j : Int) < 1 + (zM units 5) := of_decide_eq_true h65
     refine zaC (zC (zT (zak (zT (z0 (o_d 2 [(118, iv (j : Int)), (117, pv 2 0)] (by kernel_rfl) (zbO (YVersionK H hY63z  (j : Int) (spl rfl fun T65 hY65q => ?_)))))))))
     refine o_d 5 [(13, bv ((zdL S2 (j : Int)).2)), (12, iv ((zdL S2 (j : Int)).1)), (121, bv ((zdL S2 (j : Int)).2)), (120, iv ((zdL S2 (j : Int)).1)), (116, .tuple #[iv ((zdL S2 (j : Int)).1), bv ((zdL S2 (j : Int)).2)])] (by kernel_rfl) (zF (zC (zT (z0 (o_d 1 [(122, pv 2 0)] (by kernel_rfl) (zbO (YPoolK H hY65q   (spl rfl fun T66 hY66q => ?_))))))))
     refine o_s (by refine run_fld (v := iv (S2.x.p 0)) rfl ?_; exact pl_r S2.x.p 0 rfl (by omega)) ?_
     refine o_d 1 [(14, iv (S2.x.p 0))] (by kernel_rfl) (zF (zC (zT (z0 (o_d 2 [(126, bv ((zdL S2 (j : Int)).2)), (125, bv ((zdL S2 (j : Int)).2))] (by kernel_rfl) (o_sp (b := (zdL S2 (j : Int)).2) 126 rfl (fun h68 => ?_) (fun h68 => ?_)))))))
     ·skip
      refine o_d 5 [(131, bv (((zdL S2 (j : Int)).1) != (S2.x.p 0))), (130, bv (((zdL S2 (j : Int)).1) != (S2.x.p 0))), (129, bv (((zdL S2 (j : Int)).1) != (S2.x.p 0))), (128, iv (S2.x.p 0)), (127, iv ((zdL S2 (j : Int)).1))] (by kernel_rfl) (o_sp (b := ((zdL S2 (j : Int)).1) != (S2.x.p 0)) 131 rfl (fun h69 => ?_) (fun h69 => ?_))
      ·skip
       have h69' : (zdL S2 (j : Int)).1 ≠ S2.x.p 0 := neI_t h69
       refine o_d 2 [(133, iv (S2.x.p 0)), (132, iv ((zdL S2 (j : Int)).1))] (by kernel_rfl) (zd2 rfl (o_s (by refine qL (v := .int .i64 (i64.wrap (S2.x.p 0 - 1))) (congrArg (Value.int .i64) (w64 (by omega) (by omega))) ?_; kernel_rfl) ?_))
       refine o_d 2 [(136, bv (((zdL S2 (j : Int)).1) != (S2.x.p 0 - 1))), (135, bv (((zdL S2 (j : Int)).1) != (S2.x.p 0 - 1)))] (by kernel_rfl) (zF (z9 [(136, bv (((zdL S2 (j : Int)).1) != (S2.x.p 0 - 1))), (11, iv (j : Int)), (9, iv (i : Int)), (7, pv 2 0), (6, iv (1 + (zM units 5))), (1, inV o2 0 ks.length)] (by kernel_rfl) (zaJ (t := ((zdL S2 (j : Int)).1) != (S2.x.p 0 - 1)) rfl (fun q => by rw [(bne_eq_false_iff_eq.2 (by have h9 := hA2.at_ (j := j) (by omega) (by assumption); omega) : (((zdL S2 (j : Int)).1) != (S2.x.p 0 - 1)) = false)] at q; cases q) (fun _ => ?_))))
       refine zaC (zC (z0 (o_d 1 [(114, iv (j : Int))] (by kernel_rfl) (o_s (by refine qL (v := .int .i64 (i64.wrap ((j : Int) + 1))) (congrArg (Value.int .i64) (w64 (by omega) (by omega))) ?_; kernel_rfl) ?_))))
       refine o_d 1 [(11, iv ((j : Int) + 1))] (by kernel_rfl) (zF (⟨(1 + (zM units 5)).toNat - (j + 1), ?_⟩))
       refine zgy [(11, iv ((j + 1) : Int)), (9, iv (i : Int)), (7, pv 2 0), (6, iv (1 + (zM units 5))), (1, inV o2 0 ks.length)] (by kernel_rfl) (by omega) ?_
       exact ⟨T66, (j + 1), rfl, hY66q, ok63z, (by omega), rfl⟩
      have h69' : ¬ ((zdL S2 (j : Int)).1 ≠ S2.x.p 0) := neI_f h69
      refine o_d 5 [(136, bv false), (135, undef), (134, undef), (133, undef), (132, undef)] (by kernel_rfl) (zF (z9 [(136, bv false), (11, iv (j : Int)), (9, iv (i : Int)), (7, pv 2 0), (6, iv (1 + (zM units 5))), (1, inV o2 0 ks.length)] (by kernel_rfl) (zbU rfl (zaC (zC (z0 (o_d 1 [(114, iv (j : Int))] (by kernel_rfl) (o_s (by refine qL (v := .int .i64 (i64.wrap ((j : Int) + 1))) (congrArg (Value.int .i64) (w64 (by omega) (by omega))) ?_; kernel_rfl) ?_))))))))
      refine o_d 1 [(11, iv ((j : Int) + 1))] (by kernel_rfl) (zF (⟨(1 + (zM units 5)).toNat - (j + 1), ?_⟩))
      refine zgy [(11, iv ((j + 1) : Int)), (9, iv (i : Int)), (7, pv 2 0), (6, iv (1 + (zM units 5))), (1, inV o2 0 ks.length)] (by kernel_rfl) (by omega) ?_
      exact ⟨T66, (j + 1), rfl, hY66q, ok63z, (by omega), rfl⟩
     refine o_d 10 [(136, bv false), (135, undef), (134, undef), (133, undef), (132, undef), (131, bv false), (130, bv false), (129, undef), (128, undef), (127, undef)] (by kernel_rfl) (zF (z9 [(136, bv false), (11, iv (j : Int)), (9, iv (i : Int)), (7, pv 2 0), (6, iv (1 + (zM units 5))), (1, inV o2 0 ks.length)] (by kernel_rfl) (zbU rfl (zaC (zC (z0 (o_d 1 [(114, iv (j : Int))] (by kernel_rfl) (o_s (by refine qL (v := .int .i64 (i64.wrap ((j : Int) + 1))) (congrArg (Value.int .i64) (w64 (by omega) (by omega))) ?_; kernel_rfl) ?_))))))))
     refine o_d 1 [(11, iv ((j : Int) + 1))] (by kernel_rfl) (zF (⟨(1 + (zM units 5)).toNat - (j + 1), ?_⟩))
     refine zgy [(11, iv ((j + 1) : Int)), (9, iv (i : Int)), (7, pv 2 0), (6, iv (1 + (zM units 5))), (1, inV o2 0 ks.length)] (by kernel_rfl) (by omega) ?_
     exact ⟨T66, (j + 1), rfl, hY66q, ok63z, (by omega), rfl⟩
    have h65' : ¬ ((j : Int) < 1 + (zM units 5)) := of_decide_eq_false h65
    refine zcU (zC (z0 (o_d 1 [(46, iv (i : Int))] (by kernel_rfl) (o_s (by refine qL (v := .int .i64 (i64.wrap ((i : Int) + 1))) (congrArg (Value.int .i64) (w64 (by omega) (by omega))) ?_; kernel_rfl) ?_))))
    refine o_d 1 [(9, iv ((i : Int) + 1))] (by kernel_rfl) (zF (⟨150 - (i + 1), ?_⟩))
    refine zgy [(9, iv ((i + 1) : Int)), (7, pv 2 0), (6, iv (1 + (zM units 5))), (1, inV o2 0 ks.length)] (by kernel_rfl) (by omega) ?_
    exact ⟨T63z, (i + 1), S2, rfl, hY63z, ok63z, (by omega), hA2, hn2, rfl⟩
   have h12' : ¬ (((S1.l.length : Nat) : Int) < 200) := of_decide_eq_false h12
   exact zcU (zC (zT (z0 (o_d 1 [(4, bv true)] (by kernel_rfl) (zF (zC (zbr (zar [bv true] (qB rfl rfl) rfl (by rfl) rfl (show List.all [inB o2 (ii ks)] ziT = true from (all_cons (inB_gone _ (zbd ks)) rfl))))))))))
  have h10' : ¬ ((i : Int) < 150) := of_decide_eq_false h10
  exact o_d 4 [(45, bv false), (44, undef), (43, undef), (42, undef)] (by kernel_rfl) (zF (zC (zbU rfl (zcU (zC (zT (z0 (o_d 1 [(4, bv true)] (by kernel_rfl) (zF (zC (zbr (zar [bv true] (qB rfl rfl) rfl (by rfl) rfl (show List.all [inB o2 (ii ks)] ziT = true from (all_cons (inB_gone _ (zbd ks)) rfl))))))))))))))
 have h9' : ¬ ((i : Int) < (ks.length : Nat)) := of_decide_eq_false h9
 exact o_d 8 [(45, bv false), (44, undef), (43, undef), (42, undef), (41, bv false), (40, bv false), (39, undef), (38, undef)] (by kernel_rfl) (zF (zC (zbU rfl (zcU (zC (zT (z0 (o_d 1 [(4, bv true)] (by kernel_rfl) (zF (zC (zbr (zar [bv true] (qB rfl rfl) rfl (by rfl) rfl (show List.all [inB o2 (ii ks)] ziT = true from (all_cons (inB_gone _ (zbd ks)) rfl))))))))))))))
end Go.Rh
