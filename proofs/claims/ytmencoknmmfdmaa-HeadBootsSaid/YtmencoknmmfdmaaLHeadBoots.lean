import Derived.Test.YtmencoknmmfdmaaMf
set_option linter.unusedSimpArgs false
set_option linter.unusedVariables false
set_option maxRecDepth 100000
set_option maxHeartbeats 8000000
namespace Go.Rh
def c_law11_HeadBoots : IFunc :=
  ⟨86, [.tmp 8], (.seq (.reg [⟨(some 8), .mv (.c (.bool false)), none⟩]) (.seq (.seq (.reg [⟨(some 16), .call "roundhouse/roundhouselaw11.known" [], none⟩, ⟨(some 17), .un .not (.t 16), none⟩]) (.cond (.t 17) (.seq (.reg [⟨(some 8), .mv (.c (.bool false)), none⟩]) .ret) .skip)) (.seq (.reg [⟨(some 18), .mv (.t 0), none⟩, ⟨(some 19), .call "roundhouse/roundhouselaw6.Make" [(.t 18), (.c (.int .i64 30))], none⟩, ⟨(some 9), .new [(324, (.int .i64 0)), (6, (.int .u64 0))], none⟩, ⟨none, .st 330 (.t 9) (.t 19), none⟩]) (.seq (.reg [⟨(some 21), .ld (some 330) (.t 9), none⟩, ⟨(some 22), .call "roundhouse/head.New" [(.t 21), (.c (.int .i64 1))], none⟩, ⟨(some 20), .mv (.t 22), none⟩, ⟨(some 23), .ext 0 (.t 20), none⟩, ⟨(some 24), .ext 1 (.t 20), none⟩, ⟨(some 10), .mv (.t 23), none⟩, ⟨(some 11), .mv (.t 24), none⟩]) (.seq (.seq (.reg [⟨(some 25), .mv (.t 11), none⟩, ⟨(some 26), .bin .neq (.t 25) (.c (.int .i64 0)), none⟩, ⟨(some 27), .mv (.t 26), none⟩, ⟨(some 28), .mv (.t 10), some (27, false)⟩, ⟨(some 29), .eqn false .ptr (.t 28) (.c (.pointer none)), some (27, false)⟩, ⟨(some 30), .pick (.t 27) (.c (.bool true)) (.t 29), none⟩]) (.cond (.t 30) (.seq (.reg [⟨(some 8), .mv (.c (.bool false)), none⟩]) .ret) .skip)) (.seq (.reg [⟨(some 31), .mv (.t 1), none⟩, ⟨(some 32), .call "roundhouse/roundhouselaw11.within" [(.t 31), (.c (.int .i64 9))], none⟩, ⟨(some 33), .bin .add (.c (.int .i64 1)) (.t 32), none⟩, ⟨(some 34), .mv (.t 2), none⟩, ⟨(some 35), .call "roundhouse/roundhouselaw11.within" [(.t 34), (.c (.int .i64 12))], none⟩, ⟨(some 12), .mv (.t 33), none⟩, ⟨(some 13), .mv (.t 35), none⟩]) (.seq (.reg [⟨(some 36), .mv (.t 10), none⟩, ⟨(some 37), .mv (.t 12), none⟩, ⟨(some 38), .fad 0 (.t 9), none⟩, ⟨(some 39), .ld none (.t 38), none⟩, ⟨(some 40), .bld [(3, (.int .i64 0)), (2, (.bool false)), (5, (.int .i64 0)), (2, (.int .u64 0)), (324, (.int .i64 0)), (6, (.int .u64 0))] [(1, 1, (.t 37)), (2, 1, (.t 39)), (4, 1, (.c (.bool true)))], none⟩, ⟨(some 41), .call "(*roundhouse/head.Head).Heard" [(.t 36), (.t 40)], none⟩]) (.seq (.reg [⟨(some 42), .mv (.t 10), none⟩, ⟨(some 43), .call "(*roundhouse/head.Head).Send" [(.t 42)], none⟩, ⟨(some 14), .mv (.t 43), none⟩]) (.seq (.reg [⟨(some 44), .mv (.t 10), none⟩, ⟨(some 45), .mv (.t 13), none⟩, ⟨(some 46), .mv (.t 3), none⟩, ⟨(some 47), .call "roundhouse/roundhouselaw11.within" [(.t 46), (.c (.int .i64 3))], none⟩, ⟨(some 48), .bin .sub (.c (.int .i64 (-1))) (.t 47), none⟩, ⟨(some 49), .bld [(3, (.int .i64 0)), (2, (.bool false)), (5, (.int .i64 0)), (2, (.int .u64 0)), (324, (.int .i64 0)), (6, (.int .u64 0))] [(1, 1, (.t 45)), (2, 1, (.t 48)), (4, 1, (.c (.bool true)))], none⟩, ⟨(some 50), .call "(*roundhouse/head.Head).Heard" [(.t 44), (.t 49)], none⟩]) (.seq (.reg [⟨(some 51), .mv (.t 10), none⟩, ⟨(some 52), .call "(*roundhouse/head.Head).Send" [(.t 51)], none⟩, ⟨(some 15), .mv (.t 52), none⟩]) (.seq (.seq (.reg [⟨(some 53), .mv (.t 13), none⟩, ⟨(some 54), .mv (.t 12), none⟩, ⟨(some 55), .bin .gtr (.t 53) (.t 54), none⟩]) (.cond (.t 55) (.seq (.reg [⟨(some 56), .mv (.t 14), none⟩, ⟨(some 57), .lenS (.t 56), none⟩, ⟨(some 58), .bin .eql (.t 57) (.c (.int .i64 0)), none⟩, ⟨(some 59), .mv (.t 58), none⟩, ⟨(some 60), .mv (.t 15), some (59, true)⟩, ⟨(some 61), .lenS (.t 60), some (59, true)⟩, ⟨(some 62), .bin .eql (.t 61) (.c (.int .i64 1)), some (59, true)⟩, ⟨(some 63), .pick (.t 59) (.t 62) (.c (.bool false)), none⟩, ⟨(some 64), .mv (.t 63), none⟩, ⟨(some 65), .mv (.t 15), some (64, true)⟩, ⟨(some 66), .iadS 342 (.t 65) (.c (.int .i64 0)), some (64, true)⟩, ⟨(some 67), .fad 1 (.t 66), some (64, true)⟩, ⟨(some 68), .ld none (.t 67), some (64, true)⟩, ⟨(some 69), .mv (.t 13), some (64, true)⟩, ⟨(some 70), .bin .eql (.t 68) (.t 69), some (64, true)⟩, ⟨(some 71), .pick (.t 64) (.t 70) (.c (.bool false)), none⟩, ⟨(some 72), .mv (.t 71), none⟩, ⟨(some 73), .mv (.t 15), some (72, true)⟩, ⟨(some 74), .iadS 342 (.t 73) (.c (.int .i64 0)), some (72, true)⟩, ⟨(some 75), .fad 3 (.t 74), some (72, true)⟩, ⟨(some 76), .ld none (.t 75), some (72, true)⟩, ⟨(some 77), .pick (.t 72) (.t 76) (.c (.bool false)), none⟩, ⟨(some 8), .mv (.t 77), none⟩]) .ret) .skip)) (.seq (.reg [⟨(some 78), .mv (.t 14), none⟩, ⟨(some 79), .lenS (.t 78), none⟩, ⟨(some 80), .bin .eql (.t 79) (.c (.int .i64 0)), none⟩, ⟨(some 81), .mv (.t 80), none⟩, ⟨(some 82), .mv (.t 15), some (81, true)⟩, ⟨(some 83), .lenS (.t 82), some (81, true)⟩, ⟨(some 84), .bin .eql (.t 83) (.c (.int .i64 0)), some (81, true)⟩, ⟨(some 85), .pick (.t 81) (.t 84) (.c (.bool false)), none⟩, ⟨(some 8), .mv (.t 85), none⟩]) .ret))))))))))))⟩
theorem boots {p : Flat} (hp : 0 ≤ p 0) {x y v : Int} (hx : 1 ≤ x) :
    (sendS (hearS (newHS p 1) ⟨0, x, p 0, false, true, e0, zeroP⟩)).2 = [] ∧
    (y > x → v ≤ -1 → (sendS (hearS (sendS (hearS (newHS p 1) ⟨0, x, p 0, false, true, e0, zeroP⟩)).1 ⟨0, y, v, false, true, e0, zeroP⟩)).2 = [⟨0, y, p 0, true, false, e0, p⟩]) ∧
    (¬ y > x → v ≤ -1 → (sendS (hearS (sendS (hearS (newHS p 1) ⟨0, x, p 0, false, true, e0, zeroP⟩)).1 ⟨0, y, v, false, true, e0, zeroP⟩)).2 = []) := by
  rw [one_new, one_hear, if_neg (by omega), if_pos (by omega), mx_pos (by omega), one_send, if_pos (by omega)]
  refine ⟨rfl, fun h hv => ?_, fun h hv => ?_⟩
  · simp only
    rw [one_hear, if_neg (by omega), if_pos (by omega), mx_neg hv, one_send, if_neg (by omega)]
  · simp only
    rw [one_hear]
    split
    · rw [one_send, if_pos (by omega)]
    · rw [if_neg (by rw [mx_neg hv]; omega), one_send, if_pos (by omega)]
theorem HeadBootsC {P : Program} (hc : codeOf P "roundhouse/roundhouselaw11.HeadBoots" = some c_law11_HeadBoots) (h_law11_known : codeOf P "roundhouse/roundhouselaw11.known" = some c_law11_known) (h_ref6_New : codeOf P "roundhouse/roundhouseref6.New" = some c_ref6_New) (h_ref6_out : codeOf P "roundhouse/roundhouseref6.out" = some c_ref6_out) (h_ref5_Ring : codeOf P "roundhouse/roundhouseref5.Ring" = some c_ref5_Ring) (h_head_New : codeOf P "roundhouse/head.New" = some c_head_New) (h_head_Head_Send : codeOf P "(*roundhouse/head.Head).Send" = some c_head_Head_Send) (h_head_Head_all : codeOf P "(*roundhouse/head.Head).all" = some c_head_Head_all) (h_head_Head_publish : codeOf P "(*roundhouse/head.Head).publish" = some c_head_Head_publish) (h_pool_Apply : codeOf P "roundhouse/pool.Apply" = some c_pool_Apply) (h_pool_may : codeOf P "roundhouse/pool.may" = some c_pool_may) (h_pool_held : codeOf P "roundhouse/pool.held" = some c_pool_held) (h_pool_fits : codeOf P "roundhouse/pool.fits" = some c_pool_fits) (h_pool_Check : codeOf P "roundhouse/pool.Check" = some c_pool_Check) (h_pool_placed : codeOf P "roundhouse/pool.placed" = some c_pool_placed) (h_cookie_Next : codeOf P "roundhouse/cookie.Next" = some c_cookie_Next) (h_head_Head_Wish : codeOf P "(*roundhouse/head.Head).Wish" = some c_head_Head_Wish) (h_head_Head_waiting : codeOf P "(*roundhouse/head.Head).waiting" = some c_head_Head_waiting) (h_pool_All : codeOf P "roundhouse/pool.All" = some c_pool_All) (h_head_Head_Heard : codeOf P "(*roundhouse/head.Head).Heard" = some c_head_Head_Heard) (h_head_Head_Version : codeOf P "(*roundhouse/head.Head).Version" = some c_head_Head_Version) (h_head_Head_Waiting : codeOf P "(*roundhouse/head.Head).Waiting" = some c_head_Head_Waiting) (h_head_Head_Pool : codeOf P "(*roundhouse/head.Head).Pool" = some c_head_Head_Pool) (h_law6_Make : codeOf P "roundhouse/roundhouselaw6.Make" = some c_law6_Make) (h_law5_Key : codeOf P "roundhouse/roundhouselaw5.Key" = some c_law5_Key) (h_law6_Entry : codeOf P "roundhouse/roundhouselaw6.Entry" = some c_law6_Entry) (h_law6_within : codeOf P "roundhouse/roundhouselaw6.within" = some c_law6_within) (h_ref6_Apply : codeOf P "roundhouse/roundhouseref6.Apply" = some c_ref6_Apply) (h_ref6_Check : codeOf P "roundhouse/roundhouseref6.Check" = some c_ref6_Check) (h_ref6_bad : codeOf P "roundhouse/roundhouseref6.bad" = some c_ref6_bad) (h_ref6_Held : codeOf P "roundhouse/roundhouseref6.Held" = some c_ref6_Held) (h_ref5_Next : codeOf P "roundhouse/roundhouseref5.Next" = some c_ref5_Next) (h_law11_within : codeOf P "roundhouse/roundhouselaw11.within" = some c_law11_within) (o : Option Nat) (ns : List Int) (hnns : o = none → ns = []) (hl : (ns.length : Int) ≤ 9223372036854775807) (a b v : Int) :
    Env P "roundhouse/roundhouselaw11.HeadBoots" [inV o 0 ns.length, iv a, iv b, iv v] ([inB o (ii ns)]) (Ans (.bool true) ([inB o (ii ns)])) := by
 refine Env.by hc ?_
 unfold c_law11_HeadBoots
 show GC _ 1 _ _ ⟨reg [(0, inV o 0 ns.length), (1, iv a), (2, iv b), (3, iv v)], [inB o (ii ns)]⟩
 have wa := within_lt a (n := 9) (by decide)
 have wb := within_lt b (n := 12) (by decide)
 have wv := within_lt v (n := 3) (by decide)
 refine gseq ?_
 refine greg ?_
 refine o_d 1 [(8, bv false)] (by kernel_rfl) ?_
 refine o_nil ?_
 refine seq_go ?_
 refine gseq ?_
 refine gseq ?_
 refine greg ?_
 refine o_cl (callV (known11C h_law11_known h_ref6_New h_ref6_out h_ref5_Ring h_head_New h_head_Head_Send h_head_Head_all h_head_Head_publish h_pool_Apply h_pool_may h_pool_held h_pool_fits h_pool_Check h_pool_placed h_cookie_Next h_head_Head_Wish h_head_Head_waiting h_pool_All h_head_Head_Heard h_head_Head_Version h_head_Head_Waiting h_head_Head_Pool) rfl rfl rfl ?_)
 refine o_d 1 [(17, bv false)] (by kernel_rfl) ?_
 refine o_nil ?_
 refine seq_go ?_
 refine gfalse rfl ?_
 refine gskip ?_
 refine seq_go ?_
 refine gseq ?_
 refine greg ?_
 refine o_d 1 [(18, inV o 0 ns.length)] (by kernel_rfl) ?_
 refine o_cl (callRO_K (callIn 0 (MakeC h_law6_Make h_law5_Key h_ref6_New h_ref6_out h_ref5_Ring h_law6_Entry h_law6_within h_ref6_Apply h_ref6_Check h_ref6_bad h_ref6_Held h_ref5_Next o ns hnns hl 30 (by omega)) rfl (ii_scl _) rfl rfl (poolV_vpf _) ?_))
 have I0 := makeS_inv ns (k := 30) (by omega)
 have hpv := I0.ver
 generalize makeS ns 30 = p at I0 hpv ⊢
 refine o_b 1 [(9, pv 1 0)] [inB o (ii ns), cw (pl zeroP)] (by kernel_rfl) ?_
 refine o_s0 (by refine run_st (c' := pl p) rfl rfl rfl ?_ ?_ ?_; exact pl_length _; exact pl_le (by omega); exact splice_pl0 zeroP p) ?_
 refine o_nil ?_
 refine seq_go ?_
 refine gseq ?_
 refine greg ?_
 refine o_s (by refine run_ld (v := poolV p) rfl rfl ?_; exact pl_all p) ?_
 refine o_cl (callG [] [] [poolV p, iv 1] (HNewC h_head_New p 1) rfl (cons_eq (renV_vpf (poolV_vpf p)) (cons_eq rfl rfl)) trivial (by decide) ?_)
 rintro v1 h1' hN1
 rw [if_neg (by omega)] at hN1
 obtain ⟨rfl, rfl⟩ := hN1
 refine ⟨.tuple #[pv 2 0, iv 0], [inB o (ii ns), cw (pl p)], [cw (headL ((newHS p 1).p) 3 4 ((newHS p 1).e) ((newHS p 1).s)), .chan 200 (((newHS p 1).w).map entV), .map (hdM ((newHS p 1).hd))], ((renV_tup _).trans rfl), ⟨rfl, ⟨rfl, trivial⟩⟩, ⟨(Option.some.inj (ren_headS rfl rfl)).symm, ⟨(Option.some.inj (congrArg some (ren_entsV _).symm)).symm, ⟨(Option.some.inj (congrArg some (ren_hdM _).symm)).symm, trivial⟩⟩⟩, ?_⟩
 have ok_y2 := (ok_new p (u := 1) (by omega))
 generalize hd_y2 : (newHS p 1) = y2 at ok_y2 ⊢
 refine o_d 5 [(11, iv 0), (10, pv 2 0), (24, iv 0), (23, pv 2 0), (20, .tuple #[pv 2 0, iv 0])] (by kernel_rfl) ?_
 refine o_nil ?_
 refine seq_go ?_
 refine gseq ?_
 refine gseq ?_
 refine greg ?_
 refine o_d 6 [(30, bv false), (29, bv false), (28, pv 2 0), (27, bv false), (26, bv false), (25, iv 0)] (by kernel_rfl) ?_
 refine o_nil ?_
 refine seq_go ?_
 refine gfalse rfl ?_
 refine gskip ?_
 refine seq_go ?_
 refine gseq ?_
 refine greg ?_
 refine o_d 1 [(31, iv a)] (by kernel_rfl) ?_
 refine o_cl (callV (within11C h_law11_within a 9 (by decide)) rfl rfl rfl ?_)
 refine o_s (by refine run_val (v := .int .i64 (IntKind.i64.wrap (1 + withinS a 9))) (congrArg (Value.int .i64) (w64 (by first | omega | (rw [hF2 (by assumption)]; simp)) (by first | omega | (rw [hF2 (by assumption)]; simp)))) ?_; kernel_rfl) ?_
 refine o_d 1 [(34, iv b)] (by kernel_rfl) ?_
 refine o_cl (callV (within11C h_law11_within b 12 (by decide)) rfl rfl rfl ?_)
 refine o_d 2 [(13, iv (withinS b 12)), (12, iv (1 + withinS a 9))] (by kernel_rfl) ?_
 refine o_nil ?_
 refine seq_regs [(13, iv (withinS b 12)), (12, iv (1 + withinS a 9)), (10, pv 2 0), (9, pv 1 0), (3, iv v)] (by kernel_rfl) ?_
 refine gseq ?_
 refine greg ?_
 refine o_d 3 [(38, pv 1 0), (37, iv (1 + withinS a 9)), (36, pv 2 0)] (by kernel_rfl) ?_
 refine o_s (by refine run_ld (v := iv (p 0)) rfl rfl ?_; exact pl_r p 0 rfl (by omega)) ?_
 refine o_s (by refine run_bld (c := ntF 0 (1 + withinS a 9) (p 0) false true e0 zeroP) ?_; exact bld_nt rfl) ?_
 refine o_cl (callG [2, 3, 4] [cw (headL y2.p 1 2 y2.e y2.s), .chan 200 (y2.w.map entV), .map (hdM y2.hd)] [pv 0 0, ntV 0 (1 + withinS a 9) (p 0) false true e0 zeroP] (HheardC h_head_Head_Heard y2.p y2.w y2.hd y2.e y2.s 0 (1 + withinS a 9) (p 0) false true e0 zeroP) rfl (cons_eq rfl (cons_eq (renV_vpf (ntV_vpf 0 (1 + withinS a 9) (p 0) false true e0 zeroP)) rfl)) ⟨⟨_, rfl, seen_head rfl rfl (fun q => rfl)⟩, ⟨⟨_, rfl, seen_ents _⟩, ⟨⟨_, rfl, seen_hdM _⟩, trivial⟩⟩⟩ (by decide) ?_)
 rintro v1 h1' ⟨rfl, rfl⟩
 refine ⟨.tuple #[], [inB o (ii ns), cw (pl p), cw (headL ((hearS y2 (Nt.mk 0 (1 + withinS a 9) (p 0) false true e0 zeroP)).p) 3 4 ((hearS y2 (Nt.mk 0 (1 + withinS a 9) (p 0) false true e0 zeroP)).e) ((hearS y2 (Nt.mk 0 (1 + withinS a 9) (p 0) false true e0 zeroP)).s)), .chan 200 (((hearS y2 (Nt.mk 0 (1 + withinS a 9) (p 0) false true e0 zeroP)).w).map entV), .map (hdM ((hearS y2 (Nt.mk 0 (1 + withinS a 9) (p 0) false true e0 zeroP)).hd))], [], (by simp [renV]), ⟨rfl, ⟨rfl, ⟨ren_headL rfl rfl, ⟨ren_entsV _, ⟨ren_hdM _, trivial⟩⟩⟩⟩⟩, trivial, ?_⟩
 have ok_y3 := (ok_hear ok_y2 (Nt.mk 0 (1 + withinS a 9) (p 0) false true e0 zeroP))
 generalize hd_y3 : (hearS y2 (Nt.mk 0 (1 + withinS a 9) (p 0) false true e0 zeroP)) = y3 at ok_y3 ⊢
 refine o_nil ?_
 refine seq_go ?_
 refine gseq ?_
 refine greg ?_
 refine o_d 1 [(42, pv 2 0)] (by kernel_rfl) ?_
 refine o_cl (callG [2, 3, 4] [cw (headL y3.p 1 2 y3.e y3.s), .chan 200 (y3.w.map entV), .map (hdM y3.hd)] [pv 0 0] (HsendC h_head_Head_Send h_head_Head_all h_head_Head_publish h_pool_Apply h_pool_may h_pool_held h_pool_fits h_pool_Check h_pool_placed h_cookie_Next y3.p y3.w y3.hd y3.e y3.s (ok_y3).hd) rfl rfl ⟨⟨_, rfl, seen_head rfl rfl (fun q => rfl)⟩, ⟨⟨_, rfl, seen_ents _⟩, ⟨⟨_, rfl, seen_hdM _⟩, trivial⟩⟩⟩ (by decide) ?_)
 rintro v1 h1' ⟨q4, hq5, rfl, rfl⟩
 refine ⟨slV 5 ((sendS y3).2.length) q4, [inB o (ii ns), cw (pl p), cw (headL ((sendS y3).1.p) 3 4 ((sendS y3).1.e) ((sendS y3).1.s)), .chan 200 (((sendS y3).1.w).map entV), .map (hdM ((sendS y3).1.hd))], [slB zNt (ntsL ((sendS y3).2)) q4], (renV_slV q4 rfl), ⟨rfl, ⟨rfl, ⟨ren_headL rfl rfl, ⟨ren_entsV _, ⟨(ren_hdM2 (sendS_hd _)), trivial⟩⟩⟩⟩⟩, ⟨(Option.some.inj (ren_slB q4 (fun _ => (ntsR_scl _ _)))).symm, trivial⟩, ?_⟩
 have ok_y6 := (ok_send ok_y3)
 generalize hd_y6 : (sendS y3) = y6 at ok_y6 hq5 ⊢
 refine o_d 1 [(14, slV 5 y6.2.length q4)] (by kernel_rfl) ?_
 refine o_nil ?_
 refine seq_go ?_
 refine gseq ?_
 refine greg ?_
 refine o_d 3 [(46, iv v), (45, iv (withinS b 12)), (44, pv 2 0)] (by kernel_rfl) ?_
 refine o_cl (callV (within11C h_law11_within v 3 (by decide)) rfl rfl rfl ?_)
 refine o_s (by refine run_val (v := .int .i64 (IntKind.i64.wrap ((-1) - withinS v 3))) (congrArg (Value.int .i64) (w64 (by first | omega | (rw [hF2 (by assumption)]; simp)) (by first | omega | (rw [hF2 (by assumption)]; simp)))) ?_; kernel_rfl) ?_
 refine o_s (by refine run_bld (c := ntF 0 (withinS b 12) ((-1) - withinS v 3) false true e0 zeroP) ?_; exact bld_nt rfl) ?_
 refine o_cl (callG [2, 3, 4] [cw (headL y6.1.p 1 2 y6.1.e y6.1.s), .chan 200 (y6.1.w.map entV), .map (hdM y6.1.hd)] [pv 0 0, ntV 0 (withinS b 12) ((-1) - withinS v 3) false true e0 zeroP] (HheardC h_head_Head_Heard y6.1.p y6.1.w y6.1.hd y6.1.e y6.1.s 0 (withinS b 12) ((-1) - withinS v 3) false true e0 zeroP) rfl (cons_eq rfl (cons_eq (renV_vpf (ntV_vpf 0 (withinS b 12) ((-1) - withinS v 3) false true e0 zeroP)) rfl)) ⟨⟨_, rfl, seen_head rfl rfl (fun q => rfl)⟩, ⟨⟨_, rfl, seen_ents _⟩, ⟨⟨_, rfl, seen_hdM _⟩, trivial⟩⟩⟩ (by decide) ?_)
 rintro v1 h1' ⟨rfl, rfl⟩
 refine ⟨.tuple #[], [inB o (ii ns), cw (pl p), cw (headL ((hearS y6.1 (Nt.mk 0 (withinS b 12) ((-1) - withinS v 3) false true e0 zeroP)).p) 3 4 ((hearS y6.1 (Nt.mk 0 (withinS b 12) ((-1) - withinS v 3) false true e0 zeroP)).e) ((hearS y6.1 (Nt.mk 0 (withinS b 12) ((-1) - withinS v 3) false true e0 zeroP)).s)), .chan 200 (((hearS y6.1 (Nt.mk 0 (withinS b 12) ((-1) - withinS v 3) false true e0 zeroP)).w).map entV), .map (hdM ((hearS y6.1 (Nt.mk 0 (withinS b 12) ((-1) - withinS v 3) false true e0 zeroP)).hd)), slB zNt (ntsL y6.2) q4], [], (by simp [renV]), ⟨rfl, ⟨rfl, ⟨ren_headL rfl rfl, ⟨ren_entsV _, ⟨ren_hdM _, ⟨rfl, trivial⟩⟩⟩⟩⟩⟩, trivial, ?_⟩
 have ok_y7 := (ok_hear ok_y6 (Nt.mk 0 (withinS b 12) ((-1) - withinS v 3) false true e0 zeroP))
 generalize hd_y7 : (hearS y6.1 (Nt.mk 0 (withinS b 12) ((-1) - withinS v 3) false true e0 zeroP)) = y7 at ok_y7 ⊢
 refine o_nil ?_
 refine seq_go ?_
 refine gseq ?_
 refine greg ?_
 refine o_d 1 [(51, pv 2 0)] (by kernel_rfl) ?_
 refine o_cl (callG [2, 3, 4] [cw (headL y7.p 1 2 y7.e y7.s), .chan 200 (y7.w.map entV), .map (hdM y7.hd)] [pv 0 0] (HsendC h_head_Head_Send h_head_Head_all h_head_Head_publish h_pool_Apply h_pool_may h_pool_held h_pool_fits h_pool_Check h_pool_placed h_cookie_Next y7.p y7.w y7.hd y7.e y7.s (ok_y7).hd) rfl rfl ⟨⟨_, rfl, seen_head rfl rfl (fun q => rfl)⟩, ⟨⟨_, rfl, seen_ents _⟩, ⟨⟨_, rfl, seen_hdM _⟩, trivial⟩⟩⟩ (by decide) ?_)
 rintro v1 h1' ⟨q8, hq9, rfl, rfl⟩
 refine ⟨slV 6 ((sendS y7).2.length) q8, [inB o (ii ns), cw (pl p), cw (headL ((sendS y7).1.p) 3 4 ((sendS y7).1.e) ((sendS y7).1.s)), .chan 200 (((sendS y7).1.w).map entV), .map (hdM ((sendS y7).1.hd)), slB zNt (ntsL y6.2) q4], [slB zNt (ntsL ((sendS y7).2)) q8], (renV_slV q8 rfl), ⟨rfl, ⟨rfl, ⟨ren_headL rfl rfl, ⟨ren_entsV _, ⟨(ren_hdM2 (sendS_hd _)), ⟨rfl, trivial⟩⟩⟩⟩⟩⟩, ⟨(Option.some.inj (ren_slB q8 (fun _ => (ntsR_scl _ _)))).symm, trivial⟩, ?_⟩
 have ok_y10 := (ok_send ok_y7)
 generalize hd_y10 : (sendS y7) = y10 at ok_y10 hq9 ⊢
 have hF1 : y6.2 = [] := by rw [← hd_y6, ← hd_y3, ← hd_y2]; exact (boots (y := 0) (v := 0) hpv.1 (by omega)).1
 have hF2 : (withinS b 12 > 1 + withinS a 9) → y10.2 = [⟨0, withinS b 12, p 0, true, false, e0, p⟩] := by intro h; rw [← hd_y10, ← hd_y7, ← hd_y6, ← hd_y3, ← hd_y2]; exact (boots hpv.1 (by omega)).2.1 h (by omega)
 have hF3 : (¬ withinS b 12 > 1 + withinS a 9) → y10.2 = [] := by intro h; rw [← hd_y10, ← hd_y7, ← hd_y6, ← hd_y3, ← hd_y2]; exact (boots hpv.1 (by omega)).2.2 h (by omega)
 refine o_d 1 [(15, slV 6 y10.2.length q8)] (by kernel_rfl) ?_
 refine o_nil ?_
 refine seq_go ?_
 refine gseq ?_
 refine gseq ?_
 refine greg ?_
 refine o_d 3 [(55, bv (decide (withinS b 12 > 1 + withinS a 9))), (54, iv (1 + withinS a 9)), (53, iv (withinS b 12))] (by kernel_rfl) ?_
 refine o_nil ?_
 refine seq_regs [(55, bv (decide (withinS b 12 > 1 + withinS a 9))), (15, slV 6 y10.2.length q8), (14, slV 5 y6.2.length q4), (13, iv (withinS b 12))] (by kernel_rfl) ?_
 refine gcond (t := decide (withinS b 12 > 1 + withinS a 9)) rfl (fun h11 => ?_) (fun h11 => ?_)
 ·skip
  have h11' : withinS b 12 > 1 + withinS a 9 := of_decide_eq_true h11
  refine gseq ?_
  refine greg ?_
  refine o_d 1 [(56, slV 5 y6.2.length q4)] (by kernel_rfl) ?_
  refine o_s (by exact run_lenSl rfl (fun z => by rw [hq5 z]; rfl)) ?_
  refine o_d 2 [(59, bv (((y6.2.length : Nat) : Int) == 0)), (58, bv (((y6.2.length : Nat) : Int) == 0))] (by kernel_rfl) ?_
  refine o_sp (b := ((y6.2.length : Nat) : Int) == 0) 59 rfl (fun k12 => ?_) (fun q => by rw [(by first | (rw [hF1]; rfl) | (rw [hF2 (by assumption)]; first | rfl | simp) | (rw [hF3 (by assumption)]; rfl) : (((y6.2.length : Nat) : Int) == 0) = true)] at q; cases q)
  refine o_d 1 [(60, slV 6 y10.2.length q8)] (by kernel_rfl) ?_
  refine o_unguard rfl ?_
  refine o_s (by exact run_lenSl rfl (fun z => by rw [hq9 z]; rfl)) ?_
  refine o_d 3 [(64, bv (((y10.2.length : Nat) : Int) == 1)), (63, bv (((y10.2.length : Nat) : Int) == 1)), (62, bv (((y10.2.length : Nat) : Int) == 1))] (by kernel_rfl) ?_
  refine o_sp (b := ((y10.2.length : Nat) : Int) == 1) 64 rfl (fun k13 => ?_) (fun q => by rw [(by first | (rw [hF1]; rfl) | (rw [hF2 (by assumption)]; first | rfl | simp) | (rw [hF3 (by assumption)]; rfl) : (((y10.2.length : Nat) : Int) == 1) = true)] at q; cases q)
  refine o_d 1 [(65, slV 6 y10.2.length q8)] (by kernel_rfl) ?_
  refine o_unguard rfl ?_
  refine o_s (by exact run_iadSl (o' := 0) rfl (fun z => by rw [hq9 z]; rfl) rfl (by first | omega | (rw [hF2 (by assumption)]; simp)) (by first | omega | (rw [hF2 (by assumption)]; simp))) ?_
  refine o_d 1 [(67, pv 6 1)] (by kernel_rfl) ?_
  refine o_unguard rfl ?_
  refine o_s (by refine run_ld (v := iv ((y10.2.getD 0 n0).b)) rfl (hf_sl (n := y10.2.length) rfl (fun z => by rw [hq9 z]; rfl) (by rw [hF2 (by assumption)]; simp)) ?_; exact nts_r2 (i := 0) (j := 1) (by omega) (nts_get (by rw [hF2 (by assumption)]; simp)) (nt_rL (nt_rH rfl))) ?_
  refine o_d 4 [(72, bv (((y10.2.getD 0 n0).b) == (withinS b 12))), (71, bv (((y10.2.getD 0 n0).b) == (withinS b 12))), (70, bv (((y10.2.getD 0 n0).b) == (withinS b 12))), (69, iv (withinS b 12))] (by kernel_rfl) ?_
  refine o_sp (b := ((y10.2.getD 0 n0).b) == (withinS b 12)) 72 rfl (fun k14 => ?_) (fun q => by rw [(by first | (rw [hF1]; rfl) | (rw [hF2 (by assumption)]; first | rfl | simp) | (rw [hF3 (by assumption)]; rfl) : (((y10.2.getD 0 n0).b) == (withinS b 12)) = true)] at q; cases q)
  refine o_d 1 [(73, slV 6 y10.2.length q8)] (by kernel_rfl) ?_
  refine o_unguard rfl ?_
  refine o_s (by exact run_iadSl (o' := 0) rfl (fun z => by rw [hq9 z]; rfl) rfl (by first | omega | (rw [hF2 (by assumption)]; simp)) (by first | omega | (rw [hF2 (by assumption)]; simp))) ?_
  refine o_d 1 [(75, pv 6 3)] (by kernel_rfl) ?_
  refine o_unguard rfl ?_
  refine o_s (by refine run_ld (v := bv ((y10.2.getD 0 n0).w)) rfl (hf_sl (n := y10.2.length) rfl (fun z => by rw [hq9 z]; rfl) (by rw [hF2 (by assumption)]; simp)) ?_; exact nts_r2 (i := 0) (j := 3) (by omega) (nts_get (by rw [hF2 (by assumption)]; simp)) (nt_rL (nt_rH rfl))) ?_
  refine o_d 2 [(8, bv ((y10.2.getD 0 n0).w)), (77, bv ((y10.2.getD 0 n0).w))] (by kernel_rfl) ?_
  refine o_nil ?_
  refine seq_regs [(8, bv ((y10.2.getD 0 n0).w))] (by kernel_rfl) ?_
  refine gret ?_
  have E0_ : ((y10.2.getD 0 n0).w) = true := by
   first | (rw [hF2 (by assumption)]; rfl) | (rw [hF3 (by assumption)]; rfl)
  exact fin_ans [bv ((y10.2.getD 0 n0).w)] (resV_t rfl rfl) rfl (by rw [E0_]; rfl) rfl (show List.all [inB o (ii ns)] blkf = true from (all_cons (inB_gone _ (ii_scl ns)) rfl))
 have h11' : ¬ (withinS b 12 > 1 + withinS a 9) := of_decide_eq_false h11
 refine gskip ?_
 refine seq_go ?_
 refine gseq ?_
 refine greg ?_
 refine o_d 1 [(78, slV 5 y6.2.length q4)] (by kernel_rfl) ?_
 refine o_s (by exact run_lenSl rfl (fun z => by rw [hq5 z]; rfl)) ?_
 refine o_d 2 [(81, bv (((y6.2.length : Nat) : Int) == 0)), (80, bv (((y6.2.length : Nat) : Int) == 0))] (by kernel_rfl) ?_
 refine o_sp (b := ((y6.2.length : Nat) : Int) == 0) 81 rfl (fun k15 => ?_) (fun q => by rw [(by first | (rw [hF1]; rfl) | (rw [hF2 (by assumption)]; first | rfl | simp) | (rw [hF3 (by assumption)]; rfl) : (((y6.2.length : Nat) : Int) == 0) = true)] at q; cases q)
 refine o_d 1 [(82, slV 6 y10.2.length q8)] (by kernel_rfl) ?_
 refine o_unguard rfl ?_
 refine o_s (by exact run_lenSl rfl (fun z => by rw [hq9 z]; rfl)) ?_
 refine o_d 3 [(8, bv (((y10.2.length : Nat) : Int) == 0)), (85, bv (((y10.2.length : Nat) : Int) == 0)), (84, bv (((y10.2.length : Nat) : Int) == 0))] (by kernel_rfl) ?_
 refine o_nil ?_
 refine seq_go ?_
 refine gret ?_
 have E0_ : (((y10.2.length : Nat) : Int) == 0) = true := by
  first | (rw [hF2 (by assumption)]; rfl) | (rw [hF3 (by assumption)]; rfl)
 exact fin_ans [bv (((y10.2.length : Nat) : Int) == 0)] (resV_t rfl rfl) rfl (by rw [E0_]; rfl) rfl (show List.all [inB o (ii ns)] blkf = true from (all_cons (inB_gone _ (ii_scl ns)) rfl))
end Go.Rh
