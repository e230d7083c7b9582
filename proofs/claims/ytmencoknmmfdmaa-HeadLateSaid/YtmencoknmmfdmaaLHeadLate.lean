import Derived.Test.YtmencoknmmfdmaaMf
set_option linter.unusedSimpArgs false
set_option linter.unusedVariables false
set_option maxRecDepth 100000
set_option maxHeartbeats 8000000
namespace Go.Rh
def c_law11_HeadLate : IFunc :=
  ⟨97, [.tmp 8], (.seq (.reg [⟨(some 8), .mv (.c (.bool false)), none⟩]) (.seq (.seq (.reg [⟨(some 16), .call "roundhouse/roundhouselaw11.known" [], none⟩, ⟨(some 17), .un .not (.t 16), none⟩]) (.cond (.t 17) (.seq (.reg [⟨(some 8), .mv (.c (.bool false)), none⟩]) .ret) .skip)) (.seq (.reg [⟨(some 18), .mv (.t 0), none⟩, ⟨(some 19), .call "roundhouse/roundhouselaw6.Make" [(.t 18), (.c (.int .i64 30))], none⟩, ⟨(some 9), .new [(324, (.int .i64 0)), (6, (.int .u64 0))], none⟩, ⟨none, .st 330 (.t 9) (.t 19), none⟩]) (.seq (.reg [⟨(some 21), .ld (some 330) (.t 9), none⟩, ⟨(some 22), .call "roundhouse/head.New" [(.t 21), (.c (.int .i64 1))], none⟩, ⟨(some 20), .mv (.t 22), none⟩, ⟨(some 23), .ext 0 (.t 20), none⟩, ⟨(some 24), .ext 1 (.t 20), none⟩, ⟨(some 10), .mv (.t 23), none⟩, ⟨(some 11), .mv (.t 24), none⟩]) (.seq (.seq (.reg [⟨(some 25), .mv (.t 11), none⟩, ⟨(some 26), .bin .neq (.t 25) (.c (.int .i64 0)), none⟩, ⟨(some 27), .mv (.t 26), none⟩, ⟨(some 28), .mv (.t 10), some (27, false)⟩, ⟨(some 29), .eqn false .ptr (.t 28) (.c (.pointer none)), some (27, false)⟩, ⟨(some 30), .pick (.t 27) (.c (.bool true)) (.t 29), none⟩]) (.cond (.t 30) (.seq (.reg [⟨(some 8), .mv (.c (.bool false)), none⟩]) .ret) .skip)) (.seq (.dreg [⟨(some 31), .mv (.t 1), none⟩, ⟨(some 32), .fad 0 (.t 9), none⟩, ⟨(some 33), .ld none (.t 32), none⟩, ⟨(some 34), .bin .add (.t 33) (.c (.int .i64 3)), none⟩, ⟨(some 35), .call "roundhouse/roundhouselaw11.within" [(.t 31), (.t 34)], none⟩, ⟨(some 36), .bin .sub (.t 35) (.c (.int .i64 1)), none⟩, ⟨(some 37), .mv (.t 2), none⟩, ⟨(some 38), .fad 0 (.t 9), none⟩, ⟨(some 39), .ld none (.t 38), none⟩, ⟨(some 40), .bin .add (.t 39) (.c (.int .i64 3)), none⟩, ⟨(some 41), .call "roundhouse/roundhouselaw11.within" [(.t 37), (.t 40)], none⟩, ⟨(some 42), .bin .sub (.t 41) (.c (.int .i64 1)), none⟩, ⟨(some 43), .mv (.t 3), none⟩, ⟨(some 44), .fad 0 (.t 9), none⟩, ⟨(some 45), .ld none (.t 44), none⟩, ⟨(some 46), .bin .add (.t 45) (.c (.int .i64 3)), none⟩, ⟨(some 47), .call "roundhouse/roundhouselaw11.within" [(.t 43), (.t 46)], none⟩, ⟨(some 48), .bin .sub (.t 47) (.c (.int .i64 1)), none⟩, ⟨(some 49), .bsl [(1, (.int .i64 0))] 1 3 [(0, 1, (.t 36)), (1, 1, (.t 42)), (2, 1, (.t 48))], none⟩, ⟨(some 12), .mv (.t 49), none⟩] [[], [], [1], [2, 1], [0, 3, 2, 1], [4, 0, 3, 2, 1], [], [], [7], [8, 7], [6, 9, 8, 7, 4, 0, 3, 2, 1], [10, 6, 9, 8, 7, 4, 0, 3, 2, 1], [], [], [13], [14, 13], [12, 15, 14, 13, 10, 6, 9, 8, 7, 4, 0, 3, 2, 1], [16, 12, 15, 14, 13, 10, 6, 9, 8, 7, 4, 0, 3, 2, 1], [5, 4, 0, 3, 2, 1, 11, 10, 6, 9, 8, 7, 17, 16, 12, 15, 14, 13], [18, 5, 4, 0, 3, 2, 1, 11, 10, 6, 9, 8, 7, 17, 16, 12, 15, 14, 13]]) (.seq (.reg [⟨(some 13), .mv (.c (.int .i64 (-1))), none⟩]) (.seq (.seq (.reg [⟨(some 14), .mv (.c (.int .i64 0)), none⟩]) (.block 0 (.loop (.seq (.seq (.reg [⟨(some 50), .mv (.t 14), none⟩, ⟨(some 51), .bin .lss (.t 50) (.c (.int .i64 3)), none⟩]) (.cond (.t 51) .skip (.exit 0))) (.seq (.block 1 (.seq (.reg [⟨(some 54), .mv (.t 10), none⟩, ⟨(some 55), .mv (.t 12), none⟩, ⟨(some 56), .mv (.t 14), none⟩, ⟨(some 57), .iadS 1 (.t 55) (.t 56), none⟩, ⟨(some 58), .ld none (.t 57), none⟩, ⟨(some 59), .bld [(3, (.int .i64 0)), (2, (.bool false)), (5, (.int .i64 0)), (2, (.int .u64 0)), (324, (.int .i64 0)), (6, (.int .u64 0))] [(2, 1, (.t 58)), (4, 1, (.c (.bool true)))], none⟩, ⟨(some 60), .call "(*roundhouse/head.Head).Heard" [(.t 54), (.t 59)], none⟩]) (.reg [⟨(some 61), .mv (.t 13), none⟩, ⟨(some 62), .mv (.t 12), none⟩, ⟨(some 63), .mv (.t 14), none⟩, ⟨(some 64), .iadS 1 (.t 62) (.t 63), none⟩, ⟨(some 65), .ld none (.t 64), none⟩, ⟨(some 66), .mm true (.t 61) (.t 65), none⟩, ⟨(some 13), .mv (.t 66), none⟩]))) (.reg [⟨(some 52), .mv (.t 14), none⟩, ⟨(some 53), .bin .add (.t 52) (.c (.int .i64 1)), none⟩, ⟨(some 14), .mv (.t 53), none⟩])))))) (.seq (.reg [⟨(some 67), .mv (.t 10), none⟩, ⟨(some 68), .call "(*roundhouse/head.Head).Send" [(.t 67)], none⟩, ⟨(some 15), .mv (.t 68), none⟩]) (.seq (.dreg [⟨(some 69), .mv (.t 15), none⟩, ⟨(some 70), .lenS (.t 69), none⟩, ⟨(some 71), .bin .eql (.t 70) (.c (.int .i64 0)), none⟩, ⟨(some 72), .mv (.t 13), none⟩, ⟨(some 73), .fad 0 (.t 9), none⟩, ⟨(some 74), .ld none (.t 73), none⟩, ⟨(some 75), .bin .geq (.t 72) (.t 74), none⟩, ⟨(some 76), .eqb false (.t 71) (.t 75), none⟩, ⟨(some 77), .mv (.t 76), none⟩, ⟨(some 78), .mv (.t 15), some (77, true)⟩, ⟨(some 79), .lenS (.t 78), some (77, true)⟩, ⟨(some 80), .bin .eql (.t 79) (.c (.int .i64 0)), some (77, true)⟩, ⟨(some 81), .mv (.t 80), some (77, true)⟩, ⟨(some 82), .mv (.t 15), some (81, false)⟩, ⟨(some 83), .iadS 342 (.t 82) (.c (.int .i64 0)), some (81, false)⟩, ⟨(some 84), .fad 3 (.t 83), some (81, false)⟩, ⟨(some 85), .ld none (.t 84), some (81, false)⟩, ⟨(some 86), .mv (.t 85), some (81, false)⟩, ⟨(some 87), .mv (.t 15), some (86, true)⟩, ⟨(some 88), .iadS 342 (.t 87) (.c (.int .i64 0)), some (86, true)⟩, ⟨(some 89), .fad 2 (.t 88), some (86, true)⟩, ⟨(some 90), .ld none (.t 89), some (86, true)⟩, ⟨(some 91), .fad 0 (.t 9), some (86, true)⟩, ⟨(some 92), .ld none (.t 91), some (86, true)⟩, ⟨(some 93), .bin .eql (.t 90) (.t 92), some (86, true)⟩, ⟨(some 94), .pick (.t 86) (.t 93) (.c (.bool false)), some (81, false)⟩, ⟨(some 95), .pick (.t 81) (.c (.bool true)) (.t 94), some (77, true)⟩, ⟨(some 96), .pick (.t 77) (.t 95) (.c (.bool false)), none⟩, ⟨(some 8), .mv (.t 96), none⟩] [[], [0], [1, 0], [], [], [4], [3, 5, 4], [2, 1, 0, 6, 3, 5, 4], [7, 2, 1, 0, 6, 3, 5, 4], [8, 7, 2, 1, 0, 6, 3, 5, 4], [9, 8, 7, 2, 1, 0, 6, 3, 5, 4], [10, 9, 8, 7, 2, 1, 0, 6, 3, 5, 4], [11, 10, 9, 8, 7, 2, 1, 0, 6, 3, 5, 4], [12, 11, 10, 9, 8, 7, 2, 1, 0, 6, 3, 5, 4], [13, 12, 11, 10, 9, 8, 7, 2, 1, 0, 6, 3, 5, 4], [14, 13, 12, 11, 10, 9, 8, 7, 2, 1, 0, 6, 3, 5, 4], [15, 14, 13, 12, 11, 10, 9, 8, 7, 2, 1, 0, 6, 3, 5, 4], [16, 15, 14, 13, 12, 11, 10, 9, 8, 7, 2, 1, 0, 6, 3, 5, 4], [17, 16, 15, 14, 13, 12, 11, 10, 9, 8, 7, 2, 1, 0, 6, 3, 5, 4], [18, 17, 16, 15, 14, 13, 12, 11, 10, 9, 8, 7, 2, 1, 0, 6, 3, 5, 4], [19, 18, 17, 16, 15, 14, 13, 12, 11, 10, 9, 8, 7, 2, 1, 0, 6, 3, 5, 4], [20, 19, 18, 17, 16, 15, 14, 13, 12, 11, 10, 9, 8, 7, 2, 1, 0, 6, 3, 5, 4], [17, 16, 15, 14, 13, 12, 11, 10, 9, 8, 7, 2, 1, 0, 6, 3, 5, 4], [22, 17, 16, 15, 14, 13, 12, 11, 10, 9, 8, 7, 2, 1, 0, 6, 3, 5, 4], [21, 20, 19, 18, 17, 16, 15, 14, 13, 12, 11, 10, 9, 8, 7, 2, 1, 0, 6, 3, 5, 4, 23, 22], [17, 16, 15, 14, 13, 12, 11, 10, 9, 8, 7, 2, 1, 0, 6, 3, 5, 4, 24, 21, 20, 19, 18, 23, 22], [12, 11, 10, 9, 8, 7, 2, 1, 0, 6, 3, 5, 4, 25, 17, 16, 15, 14, 13, 24, 21, 20, 19, 18, 23, 22], [8, 7, 2, 1, 0, 6, 3, 5, 4, 26, 12, 11, 10, 9, 25, 17, 16, 15, 14, 13, 24, 21, 20, 19, 18, 23, 22], [27, 8, 7, 2, 1, 0, 6, 3, 5, 4, 26, 12, 11, 10, 9, 25, 17, 16, 15, 14, 13, 24, 21, 20, 19, 18, 23, 22]]) .ret))))))))))⟩
theorem late_max {v m : Int} (h : -1 ≤ m) : -1 ≤ if v > m then v else m := by split <;> omega
theorem ok_one (p : Flat) (b v : Int) : HOK (one1 p b v) := ⟨by simp [one1], by simp [one1]⟩
theorem late3 {p : Flat} {k : Nat} (hp : 0 ≤ p 0 ∧ p 0 ≤ k) {a b c : Int} (i : Nat) (hk : k ≤ 1000 := by omega) : -1 ≤ pickL [withinS a (p 0 + 3) - 1, withinS b (p 0 + 3) - 1, withinS c (p 0 + 3) - 1] i := by
  have h1 := within_lt a (n := p 0 + 3) (by omega)
  have h2 := within_lt b (n := p 0 + 3) (by omega)
  have h3 := within_lt c (n := p 0 + 3) (by omega)
  match i with
  | 0 => simp [pickL]; omega
  | 1 => simp [pickL]; omega
  | 2 => simp [pickL]; omega
  | i + 3 => simp [pickL]
theorem late1 {p : Flat} {m v : Int} (hm : -1 ≤ m) (hv : -1 ≤ v) : hearS (one1 p 0 m) ⟨0, 0, v, false, true, e0, zeroP⟩ = one1 p 0 (if v > m then v else m) := by
  rw [one_hear, if_neg (by omega), mx_pos hv]
  by_cases h : v > m
  · rw [if_pos (.inr h), if_pos h]
  · rw [if_neg (by omega), if_neg h]
theorem HeadLateC {P : Program} (hc : codeOf P "roundhouse/roundhouselaw11.HeadLate" = some c_law11_HeadLate) (h_law11_known : codeOf P "roundhouse/roundhouselaw11.known" = some c_law11_known) (h_ref6_New : codeOf P "roundhouse/roundhouseref6.New" = some c_ref6_New) (h_ref6_out : codeOf P "roundhouse/roundhouseref6.out" = some c_ref6_out) (h_ref5_Ring : codeOf P "roundhouse/roundhouseref5.Ring" = some c_ref5_Ring) (h_head_New : codeOf P "roundhouse/head.New" = some c_head_New) (h_head_Head_Send : codeOf P "(*roundhouse/head.Head).Send" = some c_head_Head_Send) (h_head_Head_all : codeOf P "(*roundhouse/head.Head).all" = some c_head_Head_all) (h_head_Head_publish : codeOf P "(*roundhouse/head.Head).publish" = some c_head_Head_publish) (h_pool_Apply : codeOf P "roundhouse/pool.Apply" = some c_pool_Apply) (h_pool_may : codeOf P "roundhouse/pool.may" = some c_pool_may) (h_pool_held : codeOf P "roundhouse/pool.held" = some c_pool_held) (h_pool_fits : codeOf P "roundhouse/pool.fits" = some c_pool_fits) (h_pool_Check : codeOf P "roundhouse/pool.Check" = some c_pool_Check) (h_pool_placed : codeOf P "roundhouse/pool.placed" = some c_pool_placed) (h_cookie_Next : codeOf P "roundhouse/cookie.Next" = some c_cookie_Next) (h_head_Head_Wish : codeOf P "(*roundhouse/head.Head).Wish" = some c_head_Head_Wish) (h_head_Head_waiting : codeOf P "(*roundhouse/head.Head).waiting" = some c_head_Head_waiting) (h_pool_All : codeOf P "roundhouse/pool.All" = some c_pool_All) (h_head_Head_Heard : codeOf P "(*roundhouse/head.Head).Heard" = some c_head_Head_Heard) (h_head_Head_Version : codeOf P "(*roundhouse/head.Head).Version" = some c_head_Head_Version) (h_head_Head_Waiting : codeOf P "(*roundhouse/head.Head).Waiting" = some c_head_Head_Waiting) (h_head_Head_Pool : codeOf P "(*roundhouse/head.Head).Pool" = some c_head_Head_Pool) (h_law6_Make : codeOf P "roundhouse/roundhouselaw6.Make" = some c_law6_Make) (h_law5_Key : codeOf P "roundhouse/roundhouselaw5.Key" = some c_law5_Key) (h_law6_Entry : codeOf P "roundhouse/roundhouselaw6.Entry" = some c_law6_Entry) (h_law6_within : codeOf P "roundhouse/roundhouselaw6.within" = some c_law6_within) (h_ref6_Apply : codeOf P "roundhouse/roundhouseref6.Apply" = some c_ref6_Apply) (h_ref6_Check : codeOf P "roundhouse/roundhouseref6.Check" = some c_ref6_Check) (h_ref6_bad : codeOf P "roundhouse/roundhouseref6.bad" = some c_ref6_bad) (h_ref6_Held : codeOf P "roundhouse/roundhouseref6.Held" = some c_ref6_Held) (h_ref5_Next : codeOf P "roundhouse/roundhouseref5.Next" = some c_ref5_Next) (h_law11_within : codeOf P "roundhouse/roundhouselaw11.within" = some c_law11_within) (o : Option Nat) (ns : List Int) (hnns : o = none → ns = []) (hl : (ns.length : Int) ≤ 9223372036854775807) (a b c : Int) :
    Env P "roundhouse/roundhouselaw11.HeadLate" [inV o 0 ns.length, iv a, iv b, iv c] ([inB o (ii ns)]) (Ans (.bool true) ([inB o (ii ns)])) := by
 refine Env.by hc ?_
 unfold c_law11_HeadLate
 show GC _ 1 _ _ ⟨reg [(0, inV o 0 ns.length), (1, iv a), (2, iv b), (3, iv c)], [inB o (ii ns)]⟩
 refine gseq ?_
 refine greg ?_
 refine o_d 1 [(8, bv false)] (by kernel_rfl) ?_
 refine o_nil ?_
 refine seq_go ?_
 refine gseq ?_
 refine gseq ?_
 refine greg ?_
 refine o_cl (callV (known11C h_law11_known h_ref6_New h_ref6_out h_ref5_Ring h_head_New h_head_Head_Send h_head_Head_all h_head_Head_publish h_pool_Apply h_pool_may h_pool_held h_pool_fits h_pool_Check h_pool_placed h_cookie_Next h_head_Head_Wish h_head_Head_waiting h_pool_All h_head_Head_Heard h_head_Head_Version h_head_Head_Waiting h_head_Head_Pool) rfl rfl rfl ?_)
 refine o_d 1 [(17, bv false)] (by kernel_rfl) ?_
 refine o_nil ?_
 refine seq_go ?_
 refine gfalse rfl ?_
 refine gskip ?_
 refine seq_go ?_
 refine gseq ?_
 refine greg ?_
 refine o_d 1 [(18, inV o 0 ns.length)] (by kernel_rfl) ?_
 refine o_cl (callRO_K (callIn 0 (MakeC h_law6_Make h_law5_Key h_ref6_New h_ref6_out h_ref5_Ring h_law6_Entry h_law6_within h_ref6_Apply h_ref6_Check h_ref6_bad h_ref6_Held h_ref5_Next o ns hnns hl 30 (by omega)) rfl (ii_scl _) rfl rfl (poolV_vpf _) ?_))
 have I0 := makeS_inv ns (k := 30) (by omega)
 have hpv := I0.ver
 generalize makeS ns 30 = p at I0 hpv ⊢
 have wa := within_lt a (n := p 0 + 3) (by omega)
 have wb := within_lt b (n := p 0 + 3) (by omega)
 have wc := within_lt c (n := p 0 + 3) (by omega)
 refine o_b 1 [(9, pv 1 0)] [inB o (ii ns), cw (pl zeroP)] (by kernel_rfl) ?_
 refine o_s0 (by refine run_st (c' := pl p) rfl rfl rfl ?_ ?_ ?_; exact pl_length _; exact pl_le (by omega); exact splice_pl0 zeroP p) ?_
 refine o_nil ?_
 refine seq_go ?_
 refine gseq ?_
 refine greg ?_
 refine o_s (by refine run_ld (v := poolV p) rfl rfl ?_; exact pl_all p) ?_
 refine o_cl (callG [] [] [poolV p, iv 1] (HNewC h_head_New p 1) rfl (cons_eq (renV_vpf (poolV_vpf p)) (cons_eq rfl rfl)) trivial (by decide) ?_)
 rintro v1 h1' hN1
 rw [if_neg (by omega)] at hN1
 obtain ⟨rfl, rfl⟩ := hN1
 refine ⟨.tuple #[pv 2 0, iv 0], [inB o (ii ns), cw (pl p)], [cw (headL ((one1 p 0 (-1)).p) 3 4 ((one1 p 0 (-1)).e) ((one1 p 0 (-1)).s)), .chan 200 (((one1 p 0 (-1)).w).map entV), .map (hdM ((one1 p 0 (-1)).hd))], ((renV_tup _).trans rfl), ⟨rfl, ⟨rfl, trivial⟩⟩, ⟨(Option.some.inj (ren_headS rfl rfl)).symm, ⟨(Option.some.inj (congrArg some (ren_entsV _).symm)).symm, ⟨(Option.some.inj (congrArg some (ren_hdM _).symm)).symm, trivial⟩⟩⟩, ?_⟩
 refine o_d 5 [(11, iv 0), (10, pv 2 0), (24, iv 0), (23, pv 2 0), (20, .tuple #[pv 2 0, iv 0])] (by kernel_rfl) ?_
 refine o_nil ?_
 refine seq_go ?_
 refine gseq ?_
 refine gseq ?_
 refine greg ?_
 refine o_d 6 [(30, bv false), (29, bv false), (28, pv 2 0), (27, bv false), (26, bv false), (25, iv 0)] (by kernel_rfl) ?_
 refine o_nil ?_
 refine seq_go ?_
 refine gfalse rfl ?_
 refine gskip ?_
 refine seq_go ?_
 refine gseq ?_
 refine gdreg [] (by kernel_rfl) ?_
 refine r_d 2 [(32, pv 1 0), (31, iv a)] (by kernel_rfl) ?_
 refine r_s (by refine run_ld (v := iv (p 0)) rfl rfl ?_; exact pl_r p 0 rfl (by omega)) ?_
 refine r_s (by refine run_val (v := .int .i64 (IntKind.i64.wrap (p 0 + 3))) (congrArg (Value.int .i64) (w64 (by first | omega | (rw [hF, if_neg (by intro z; rw [if_pos z] at hF; simp_all)]; simp)) (by first | omega | (rw [hF, if_neg (by intro z; rw [if_pos z] at hF; simp_all)]; simp)))) ?_; kernel_rfl) ?_
 refine r_cl (callVR (within11C h_law11_within a (p 0 + 3) (by omega)) rfl rfl rfl ?_)
 refine r_s (by refine run_val (v := .int .i64 (IntKind.i64.wrap (withinS a (p 0 + 3) - 1))) (congrArg (Value.int .i64) (w64 (by first | omega | (rw [hF, if_neg (by intro z; rw [if_pos z] at hF; simp_all)]; simp)) (by first | omega | (rw [hF, if_neg (by intro z; rw [if_pos z] at hF; simp_all)]; simp)))) ?_; kernel_rfl) ?_
 refine r_d 2 [(38, pv 1 0), (37, iv b)] (by kernel_rfl) ?_
 refine r_s (by refine run_ld (v := iv (p 0)) rfl rfl ?_; exact pl_r p 0 rfl (by omega)) ?_
 refine r_s (by refine run_val (v := .int .i64 (IntKind.i64.wrap (p 0 + 3))) (congrArg (Value.int .i64) (w64 (by first | omega | (rw [hF, if_neg (by intro z; rw [if_pos z] at hF; simp_all)]; simp)) (by first | omega | (rw [hF, if_neg (by intro z; rw [if_pos z] at hF; simp_all)]; simp)))) ?_; kernel_rfl) ?_
 refine r_cl (callVR (within11C h_law11_within b (p 0 + 3) (by omega)) rfl rfl rfl ?_)
 refine r_s (by refine run_val (v := .int .i64 (IntKind.i64.wrap (withinS b (p 0 + 3) - 1))) (congrArg (Value.int .i64) (w64 (by first | omega | (rw [hF, if_neg (by intro z; rw [if_pos z] at hF; simp_all)]; simp)) (by first | omega | (rw [hF, if_neg (by intro z; rw [if_pos z] at hF; simp_all)]; simp)))) ?_; kernel_rfl) ?_
 refine r_d 2 [(44, pv 1 0), (43, iv c)] (by kernel_rfl) ?_
 refine r_s (by refine run_ld (v := iv (p 0)) rfl rfl ?_; exact pl_r p 0 rfl (by omega)) ?_
 refine r_s (by refine run_val (v := .int .i64 (IntKind.i64.wrap (p 0 + 3))) (congrArg (Value.int .i64) (w64 (by first | omega | (rw [hF, if_neg (by intro z; rw [if_pos z] at hF; simp_all)]; simp)) (by first | omega | (rw [hF, if_neg (by intro z; rw [if_pos z] at hF; simp_all)]; simp)))) ?_; kernel_rfl) ?_
 refine r_cl (callVR (within11C h_law11_within c (p 0 + 3) (by omega)) rfl rfl rfl ?_)
 refine r_s (by refine run_val (v := .int .i64 (IntKind.i64.wrap (withinS c (p 0 + 3) - 1))) (congrArg (Value.int .i64) (w64 (by first | omega | (rw [hF, if_neg (by intro z; rw [if_pos z] at hF; simp_all)]; simp)) (by first | omega | (rw [hF, if_neg (by intro z; rw [if_pos z] at hF; simp_all)]; simp)))) ?_; kernel_rfl) ?_
 refine r_b 2 [(12, sv 5 0 3 3), (49, sv 5 0 3 3)] [inB o (ii ns), cw (pl p), cw (headL ((one1 p 0 (-1)).p) 3 4 ((one1 p 0 (-1)).e) ((one1 p 0 (-1)).s)), .chan 200 (((one1 p 0 (-1)).w).map entV), .map (hdM ((one1 p 0 (-1)).hd)), cw [iv (withinS a (p 0 + 3) - 1), iv (withinS b (p 0 + 3) - 1), iv (withinS c (p 0 + 3) - 1)]] (by kernel_rfl) ?_
 refine r_nil ?_
 refine seq_regs [(12, sv 5 0 3 3), (10, pv 2 0), (9, pv 1 0)] (by kernel_rfl) ?_
 refine gseq ?_
 refine greg ?_
 refine o_d 1 [(13, iv (-1))] (by kernel_rfl) ?_
 refine o_nil ?_
 refine seq_go ?_
 refine gseq ?_
 refine gseq ?_
 refine greg ?_
 refine o_d 1 [(14, iv 0)] (by kernel_rfl) ?_
 refine o_nil ?_
 refine seq_go ?_
 refine gblock ?_
 refine gloop (fun μ s => ∃ (i : Nat), ∃ (m : Int), μ = 3 - i ∧ (i ≤ 3) ∧ (-1 ≤ m) ∧ s = ⟨reg [(14, iv (i : Int)), (13, iv m), (12, sv 5 0 3 3), (10, pv 2 0), (9, pv 1 0)], [inB o (ii ns), cw (pl p), cw (headL ((one1 p 0 m).p) 3 4 ((one1 p 0 m).e) ((one1 p 0 m).s)), .chan 200 (((one1 p 0 m).w).map entV), .map (hdM ((one1 p 0 m).hd)), cw [iv (withinS a (p 0 + 3) - 1), iv (withinS b (p 0 + 3) - 1), iv (withinS c (p 0 + 3) - 1)]]⟩) ⟨(3 - 0), ?_⟩ ?_
 ·skip
  refine ⟨⟨reg [(14, iv (0 : Int)), (13, iv (-1)), (12, sv 5 0 3 3), (10, pv 2 0), (9, pv 1 0)], [inB o (ii ns), cw (pl p), cw (headL ((one1 p 0 (-1)).p) 3 4 ((one1 p 0 (-1)).e) ((one1 p 0 (-1)).s)), .chan 200 (((one1 p 0 (-1)).w).map entV), .map (hdM ((one1 p 0 (-1)).hd)), cw [iv (withinS a (p 0 + 3) - 1), iv (withinS b (p 0 + 3) - 1), iv (withinS c (p 0 + 3) - 1)]]⟩, ?_⟩
  refine ⟨?_, ?_⟩
  ·exact Wk.ren [0, 1, 2, 3, 4, 5] rfl rfl (by decide) ⟨rfl, ⟨rfl, ⟨rfl, ⟨rfl, ⟨rfl, trivial⟩⟩⟩⟩⟩ ⟨.inl (ren_inB o (ii_scl ns)), ⟨.inl (ren_cells (pl_scl p)), ⟨.inl (ren_headS rfl rfl), ⟨.inl (congrArg some (ren_entsV _).symm), ⟨.inl (congrArg some (ren_hdM _).symm), ⟨.inl rfl, trivial⟩⟩⟩⟩⟩⟩
  ·exact ⟨0, (-1), rfl, by omega, (Int.le_refl _), rfl⟩
 rintro μ s ⟨i, m, rfl, hi, hm, rfl⟩
 refine gseq ?_
 refine gseq ?_
 refine greg ?_
 refine o_d 2 [(51, bv (decide ((i : Int) < 3))), (50, iv (i : Int))] (by kernel_rfl) ?_
 refine o_nil ?_
 refine seq_go ?_
 refine gcond (t := decide ((i : Int) < 3)) rfl (fun h2 => ?_) (fun h2 => ?_)
 ·skip
  have h2' : (i : Int) < 3 := of_decide_eq_true h2
  refine gskip ?_
  refine seq_go ?_
  refine gseq ?_
  refine gblock ?_
  refine gseq ?_
  refine greg ?_
  refine o_d 3 [(56, iv (i : Int)), (55, sv 5 0 3 3), (54, pv 2 0)] (by kernel_rfl) ?_
  refine o_s (by exact run_iadS (o := 0) (o' := i) rfl rfl (by first | omega | (rw [hF, if_neg (by intro z; rw [if_pos z] at hF; simp_all)]; simp)) (by first | omega | (rw [hF, if_neg (by intro z; rw [if_pos z] at hF; simp_all)]; simp))) ?_
  refine o_s (by refine run_ld (v := iv (pickL [withinS a (p 0 + 3) - 1, withinS b (p 0 + 3) - 1, withinS c (p 0 + 3) - 1] i)) rfl rfl ?_; exact pickL_r [withinS a (p 0 + 3) - 1, withinS b (p 0 + 3) - 1, withinS c (p 0 + 3) - 1] (by simp; omega)) ?_
  refine o_s (by refine run_bld (c := ntF 0 0 (pickL [withinS a (p 0 + 3) - 1, withinS b (p 0 + 3) - 1, withinS c (p 0 + 3) - 1] i) false true e0 zeroP) ?_; exact bld_nt rfl) ?_
  refine o_cl (callG [2, 3, 4] [cw (headL ((one1 p 0 m).p) 1 2 ((one1 p 0 m).e) ((one1 p 0 m).s)), .chan 200 (((one1 p 0 m).w).map entV), .map (hdM ((one1 p 0 m).hd))] [pv 0 0, ntV 0 0 (pickL [withinS a (p 0 + 3) - 1, withinS b (p 0 + 3) - 1, withinS c (p 0 + 3) - 1] i) false true e0 zeroP] (HheardC h_head_Head_Heard ((one1 p 0 m).p) ((one1 p 0 m).w) ((one1 p 0 m).hd) ((one1 p 0 m).e) ((one1 p 0 m).s) 0 0 (pickL [withinS a (p 0 + 3) - 1, withinS b (p 0 + 3) - 1, withinS c (p 0 + 3) - 1] i) false true e0 zeroP) rfl (cons_eq rfl (cons_eq (renV_vpf (ntV_vpf 0 0 (pickL [withinS a (p 0 + 3) - 1, withinS b (p 0 + 3) - 1, withinS c (p 0 + 3) - 1] i) false true e0 zeroP)) rfl)) ⟨⟨_, rfl, seen_head rfl rfl (fun q => rfl)⟩, ⟨⟨_, rfl, seen_ents _⟩, ⟨⟨_, rfl, seen_hdM _⟩, trivial⟩⟩⟩ (by decide) ?_)
  rintro v1 h1' ⟨rfl, rfl⟩
  refine ⟨.tuple #[], [inB o (ii ns), cw (pl p), cw (headL ((hearS (one1 p 0 m) (Nt.mk 0 0 (pickL [withinS a (p 0 + 3) - 1, withinS b (p 0 + 3) - 1, withinS c (p 0 + 3) - 1] i) false true e0 zeroP)).p) 3 4 ((hearS (one1 p 0 m) (Nt.mk 0 0 (pickL [withinS a (p 0 + 3) - 1, withinS b (p 0 + 3) - 1, withinS c (p 0 + 3) - 1] i) false true e0 zeroP)).e) ((hearS (one1 p 0 m) (Nt.mk 0 0 (pickL [withinS a (p 0 + 3) - 1, withinS b (p 0 + 3) - 1, withinS c (p 0 + 3) - 1] i) false true e0 zeroP)).s)), .chan 200 (((hearS (one1 p 0 m) (Nt.mk 0 0 (pickL [withinS a (p 0 + 3) - 1, withinS b (p 0 + 3) - 1, withinS c (p 0 + 3) - 1] i) false true e0 zeroP)).w).map entV), .map (hdM ((hearS (one1 p 0 m) (Nt.mk 0 0 (pickL [withinS a (p 0 + 3) - 1, withinS b (p 0 + 3) - 1, withinS c (p 0 + 3) - 1] i) false true e0 zeroP)).hd)), cw [iv (withinS a (p 0 + 3) - 1), iv (withinS b (p 0 + 3) - 1), iv (withinS c (p 0 + 3) - 1)]], [], (by simp [renV]), ⟨rfl, ⟨rfl, ⟨ren_headL rfl rfl, ⟨ren_entsV _, ⟨ren_hdM _, ⟨rfl, trivial⟩⟩⟩⟩⟩⟩, trivial, ?_⟩
  have ok_y3 := (ok_hear (ok_one p 0 m) (Nt.mk 0 0 (pickL [withinS a (p 0 + 3) - 1, withinS b (p 0 + 3) - 1, withinS c (p 0 + 3) - 1] i) false true e0 zeroP))
  generalize hd_y3 : (hearS (one1 p 0 m) (Nt.mk 0 0 (pickL [withinS a (p 0 + 3) - 1, withinS b (p 0 + 3) - 1, withinS c (p 0 + 3) - 1] i) false true e0 zeroP)) = y3 at ok_y3 ⊢
  have hy_y3 : y3 = one1 p 0 (if (pickL [(withinS a (p 0 + 3) - 1), (withinS b (p 0 + 3) - 1), (withinS c (p 0 + 3) - 1)] i) > m then (pickL [(withinS a (p 0 + 3) - 1), (withinS b (p 0 + 3) - 1), (withinS c (p 0 + 3) - 1)] i) else m) := by rw [← hd_y3]; exact late1 hm (late3 hpv i)
  subst hy_y3
  refine o_nil ?_
  refine seq_go ?_
  refine greg ?_
  refine o_d 3 [(63, iv (i : Int)), (62, sv 5 0 3 3), (61, iv m)] (by kernel_rfl) ?_
  refine o_s (by exact run_iadS (o := 0) (o' := i) rfl rfl (by first | omega | (rw [hF, if_neg (by intro z; rw [if_pos z] at hF; simp_all)]; simp)) (by first | omega | (rw [hF, if_neg (by intro z; rw [if_pos z] at hF; simp_all)]; simp))) ?_
  refine o_s (by refine run_ld (v := iv (pickL [withinS a (p 0 + 3) - 1, withinS b (p 0 + 3) - 1, withinS c (p 0 + 3) - 1] i)) rfl rfl ?_; exact pickL_r [withinS a (p 0 + 3) - 1, withinS b (p 0 + 3) - 1, withinS c (p 0 + 3) - 1] (by simp; omega)) ?_
  refine o_d 2 [(13, iv (if pickL [withinS a (p 0 + 3) - 1, withinS b (p 0 + 3) - 1, withinS c (p 0 + 3) - 1] i > m then pickL [withinS a (p 0 + 3) - 1, withinS b (p 0 + 3) - 1, withinS c (p 0 + 3) - 1] i else m)), (66, iv (if pickL [withinS a (p 0 + 3) - 1, withinS b (p 0 + 3) - 1, withinS c (p 0 + 3) - 1] i > m then pickL [withinS a (p 0 + 3) - 1, withinS b (p 0 + 3) - 1, withinS c (p 0 + 3) - 1] i else m))] (by kernel_rfl) ?_
  refine o_nil ?_
  refine seq_go ?_
  refine greg ?_
  refine o_d 1 [(52, iv (i : Int))] (by kernel_rfl) ?_
  refine o_s (by refine run_val (v := .int .i64 (IntKind.i64.wrap ((i : Int) + 1))) (congrArg (Value.int .i64) (w64 (by first | omega | (rw [hF, if_neg (by intro z; rw [if_pos z] at hF; simp_all)]; simp)) (by first | omega | (rw [hF, if_neg (by intro z; rw [if_pos z] at hF; simp_all)]; simp)))) ?_; kernel_rfl) ?_
  refine o_d 1 [(14, iv ((i : Int) + 1))] (by kernel_rfl) ?_
  refine o_nil ?_
  refine ⟨3 - (i + 1), ?_⟩
  refine ⟨⟨reg [(14, iv ((i + 1) : Int)), (13, iv (if pickL [withinS a (p 0 + 3) - 1, withinS b (p 0 + 3) - 1, withinS c (p 0 + 3) - 1] i > m then pickL [withinS a (p 0 + 3) - 1, withinS b (p 0 + 3) - 1, withinS c (p 0 + 3) - 1] i else m)), (12, sv 5 0 3 3), (10, pv 2 0), (9, pv 1 0)], [inB o (ii ns), cw (pl p), cw (headL ((one1 p 0 (if pickL [withinS a (p 0 + 3) - 1, withinS b (p 0 + 3) - 1, withinS c (p 0 + 3) - 1] i > m then pickL [withinS a (p 0 + 3) - 1, withinS b (p 0 + 3) - 1, withinS c (p 0 + 3) - 1] i else m)).p) 3 4 ((one1 p 0 (if pickL [withinS a (p 0 + 3) - 1, withinS b (p 0 + 3) - 1, withinS c (p 0 + 3) - 1] i > m then pickL [withinS a (p 0 + 3) - 1, withinS b (p 0 + 3) - 1, withinS c (p 0 + 3) - 1] i else m)).e) ((one1 p 0 (if pickL [withinS a (p 0 + 3) - 1, withinS b (p 0 + 3) - 1, withinS c (p 0 + 3) - 1] i > m then pickL [withinS a (p 0 + 3) - 1, withinS b (p 0 + 3) - 1, withinS c (p 0 + 3) - 1] i else m)).s)), .chan 200 (((one1 p 0 (if pickL [withinS a (p 0 + 3) - 1, withinS b (p 0 + 3) - 1, withinS c (p 0 + 3) - 1] i > m then pickL [withinS a (p 0 + 3) - 1, withinS b (p 0 + 3) - 1, withinS c (p 0 + 3) - 1] i else m)).w).map entV), .map (hdM ((one1 p 0 (if pickL [withinS a (p 0 + 3) - 1, withinS b (p 0 + 3) - 1, withinS c (p 0 + 3) - 1] i > m then pickL [withinS a (p 0 + 3) - 1, withinS b (p 0 + 3) - 1, withinS c (p 0 + 3) - 1] i else m)).hd)), cw [iv (withinS a (p 0 + 3) - 1), iv (withinS b (p 0 + 3) - 1), iv (withinS c (p 0 + 3) - 1)]]⟩, ?_⟩
  refine and3 (by omega) ⟨?_, ?_⟩
  ·exact Wk.ren [0, 1, 2, 3, 4, 5] rfl rfl (by decide) ⟨rfl, ⟨rfl, ⟨rfl, ⟨rfl, ⟨rfl, trivial⟩⟩⟩⟩⟩ ⟨.inl (ren_inB o (ii_scl ns)), ⟨.inl (ren_cells (pl_scl p)), ⟨.inl (ren_headS rfl rfl), ⟨.inl (congrArg some (ren_entsV _).symm), ⟨.inl (congrArg some (ren_hdM _).symm), ⟨.inl rfl, trivial⟩⟩⟩⟩⟩⟩
  ·exact ⟨(i + 1), (if pickL [withinS a (p 0 + 3) - 1, withinS b (p 0 + 3) - 1, withinS c (p 0 + 3) - 1] i > m then pickL [withinS a (p 0 + 3) - 1, withinS b (p 0 + 3) - 1, withinS c (p 0 + 3) - 1] i else m), rfl, by omega, (late_max hm), rfl⟩
 have h2' : ¬ ((i : Int) < 3) := of_decide_eq_false h2
 refine gexit ?_
 refine seq_go ?_
 refine gseq ?_
 refine greg ?_
 refine o_d 1 [(67, pv 2 0)] (by kernel_rfl) ?_
 refine o_cl (callG [2, 3, 4] [cw (headL ((one1 p 0 m).p) 1 2 ((one1 p 0 m).e) ((one1 p 0 m).s)), .chan 200 (((one1 p 0 m).w).map entV), .map (hdM ((one1 p 0 m).hd))] [pv 0 0] (HsendC h_head_Head_Send h_head_Head_all h_head_Head_publish h_pool_Apply h_pool_may h_pool_held h_pool_fits h_pool_Check h_pool_placed h_cookie_Next ((one1 p 0 m).p) ((one1 p 0 m).w) ((one1 p 0 m).hd) ((one1 p 0 m).e) ((one1 p 0 m).s) ((ok_one p 0 m)).hd) rfl rfl ⟨⟨_, rfl, seen_head rfl rfl (fun q => rfl)⟩, ⟨⟨_, rfl, seen_ents _⟩, ⟨⟨_, rfl, seen_hdM _⟩, trivial⟩⟩⟩ (by decide) ?_)
 rintro v1 h1' ⟨q4, hq5, rfl, rfl⟩
 refine ⟨slV 6 ((sendS (one1 p 0 m)).2.length) q4, [inB o (ii ns), cw (pl p), cw (headL ((sendS (one1 p 0 m)).1.p) 3 4 ((sendS (one1 p 0 m)).1.e) ((sendS (one1 p 0 m)).1.s)), .chan 200 (((sendS (one1 p 0 m)).1.w).map entV), .map (hdM ((sendS (one1 p 0 m)).1.hd)), cw [iv (withinS a (p 0 + 3) - 1), iv (withinS b (p 0 + 3) - 1), iv (withinS c (p 0 + 3) - 1)]], [slB zNt (ntsL ((sendS (one1 p 0 m)).2)) q4], (renV_slV q4 rfl), ⟨rfl, ⟨rfl, ⟨ren_headL rfl rfl, ⟨ren_entsV _, ⟨(ren_hdM2 (sendS_hd _)), ⟨rfl, trivial⟩⟩⟩⟩⟩⟩, ⟨(Option.some.inj (ren_slB q4 (fun _ => (ntsR_scl _ _)))).symm, trivial⟩, ?_⟩
 have ok_y6 := (ok_send (ok_one p 0 m))
 generalize hd_y6 : (sendS (one1 p 0 m)) = y6 at ok_y6 hq5 ⊢
 have hF : y6.2 = if p 0 ≤ m then [] else [⟨0, 0, p 0, true, false, e0, p⟩] := by rw [← hd_y6, one_send]
 refine o_d 1 [(15, slV 6 y6.2.length q4)] (by kernel_rfl) ?_
 refine o_nil ?_
 refine seq_go ?_
 refine gseq ?_
 refine gdreg [] (by kernel_rfl) ?_
 refine r_d 1 [(69, slV 6 y6.2.length q4)] (by kernel_rfl) ?_
 refine r_s (by exact run_lenSl rfl (fun z => by rw [hq5 z]; rfl)) ?_
 refine r_d 3 [(73, pv 1 0), (72, iv m), (71, bv (((y6.2.length : Nat) : Int) == 0))] (by kernel_rfl) ?_
 refine r_s (by refine run_ld (v := iv (p 0)) rfl rfl ?_; exact pl_r p 0 rfl (by omega)) ?_
 refine r_d 3 [(77, bv ((((y6.2.length : Nat) : Int) == 0) == (decide (m ≥ p 0)))), (76, bv ((((y6.2.length : Nat) : Int) == 0) == (decide (m ≥ p 0)))), (75, bv (decide (m ≥ p 0)))] (by kernel_rfl) ?_
 refine r_sp (b := (((y6.2.length : Nat) : Int) == 0) == (decide (m ≥ p 0))) 77 rfl (fun k7 => ?_) (fun q => by rw [(by first | (rw [hF]; split <;> simp_all <;> omega) | (rw [hF, if_neg (by intro z; rw [if_pos z] at hF; simp_all)]; rfl) : ((((y6.2.length : Nat) : Int) == 0) == (decide (m ≥ p 0))) = true)] at q; cases q)
 refine r_d 1 [(78, slV 6 y6.2.length q4)] (by kernel_rfl) ?_
 refine r_unguard rfl ?_
 refine r_s (by exact run_lenSl rfl (fun z => by rw [hq5 z]; rfl)) ?_
 refine r_d 2 [(81, bv (((y6.2.length : Nat) : Int) == 0)), (80, bv (((y6.2.length : Nat) : Int) == 0))] (by kernel_rfl) ?_
 refine r_sp (b := ((y6.2.length : Nat) : Int) == 0) 81 rfl (fun h8 => ?_) (fun h8 => ?_)
 ·skip
  have h8' : ((y6.2.length : Nat) : Int) = 0 := eqI_t h8
  refine r_d 16 [(8, bv true), (96, bv true), (95, bv true), (94, undef), (93, undef), (92, undef), (91, undef), (90, undef), (89, undef), (88, undef), (87, undef), (86, undef), (85, undef), (84, undef), (83, undef), (82, undef)] (by kernel_rfl) ?_
  refine r_nil ?_
  refine seq_regs [(8, bv true)] (by kernel_rfl) ?_
  refine gret ?_
  exact fin_ans [bv true] (resV_t rfl rfl) rfl (by rfl) rfl (show List.all [inB o (ii ns)] blkf = true from (all_cons (inB_gone _ (ii_scl ns)) rfl))
 have h8' : ¬ (((y6.2.length : Nat) : Int) = 0) := eqI_f h8
 refine r_d 1 [(82, slV 6 y6.2.length q4)] (by kernel_rfl) ?_
 refine r_unguard rfl ?_
 refine r_s (by exact run_iadSl (o' := 0) rfl (fun z => by rw [hq5 z]; rfl) rfl (by first | omega | (rw [hF, if_neg (by intro z; rw [if_pos z] at hF; simp_all)]; simp)) (by first | omega | (rw [hF, if_neg (by intro z; rw [if_pos z] at hF; simp_all)]; simp))) ?_
 refine r_d 1 [(84, pv 6 3)] (by kernel_rfl) ?_
 refine r_unguard rfl ?_
 refine r_s (by refine run_ld (v := bv ((y6.2.getD 0 n0).w)) rfl (hf_sl (n := y6.2.length) rfl (fun z => by rw [hq5 z]; rfl) (by rw [hF, if_neg (by intro z; rw [if_pos z] at hF; simp_all)]; simp)) ?_; exact nts_r2 (i := 0) (j := 3) (by omega) (nts_get (by rw [hF, if_neg (by intro z; rw [if_pos z] at hF; simp_all)]; simp)) (nt_rL (nt_rH rfl))) ?_
 refine r_d 1 [(86, bv ((y6.2.getD 0 n0).w))] (by kernel_rfl) ?_
 refine r_sp (b := (y6.2.getD 0 n0).w) 86 rfl (fun k9 => ?_) (fun q => by rw [(by first | (rw [hF]; split <;> simp_all <;> omega) | (rw [hF, if_neg (by intro z; rw [if_pos z] at hF; simp_all)]; rfl) : ((y6.2.getD 0 n0).w) = true)] at q; cases q)
 refine r_d 1 [(87, slV 6 y6.2.length q4)] (by kernel_rfl) ?_
 refine r_unguard rfl ?_
 refine r_s (by exact run_iadSl (o' := 0) rfl (fun z => by rw [hq5 z]; rfl) rfl (by first | omega | (rw [hF, if_neg (by intro z; rw [if_pos z] at hF; simp_all)]; simp)) (by first | omega | (rw [hF, if_neg (by intro z; rw [if_pos z] at hF; simp_all)]; simp))) ?_
 refine r_d 1 [(89, pv 6 2)] (by kernel_rfl) ?_
 refine r_unguard rfl ?_
 refine r_s (by refine run_ld (v := iv ((y6.2.getD 0 n0).v)) rfl (hf_sl (n := y6.2.length) rfl (fun z => by rw [hq5 z]; rfl) (by rw [hF, if_neg (by intro z; rw [if_pos z] at hF; simp_all)]; simp)) ?_; exact nts_r2 (i := 0) (j := 2) (by omega) (nts_get (by rw [hF, if_neg (by intro z; rw [if_pos z] at hF; simp_all)]; simp)) (nt_rL (nt_rH rfl))) ?_
 refine r_d 1 [(91, pv 1 0)] (by kernel_rfl) ?_
 refine r_unguard rfl ?_
 refine r_s (by refine run_ld (v := iv (p 0)) rfl rfl ?_; exact pl_r p 0 rfl (by omega)) ?_
 refine r_d 5 [(8, bv (((y6.2.getD 0 n0).v) == (p 0))), (96, bv (((y6.2.getD 0 n0).v) == (p 0))), (95, bv (((y6.2.getD 0 n0).v) == (p 0))), (94, bv (((y6.2.getD 0 n0).v) == (p 0))), (93, bv (((y6.2.getD 0 n0).v) == (p 0)))] (by kernel_rfl) ?_
 refine r_nil ?_
 refine seq_regs [(8, bv (((y6.2.getD 0 n0).v) == (p 0)))] (by kernel_rfl) ?_
 refine gret ?_
 have E0_ : (((y6.2.getD 0 n0).v) == (p 0)) = true := by
  first | done | (rw [hF, if_neg (by intro z; rw [if_pos z] at hF; simp_all)]; simp)
 exact fin_ans [bv (((y6.2.getD 0 n0).v) == (p 0))] (resV_t rfl rfl) rfl (by rw [E0_]; rfl) rfl (show List.all [inB o (ii ns)] blkf = true from (all_cons (inB_gone _ (ii_scl ns)) rfl))
end Go.Rh
