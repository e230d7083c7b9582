/- The proofs zcl the intermediate form, part QPlaneOpensg. -/
import Derived.Test.YtcgficakdfdepaaGreatQPlaneOpensf
import Derived.Test.YtcgficakdfdepaaGreatQPlaneOpense
open Go.IntKind (i64)
set_option linter.unusedVariables false
set_option linter.unusedSimpArgs false
set_option maxRecDepth 100000
set_option maxHeartbeats 1000000
namespace Go.Rh
theorem place22C {P:Program} {k:Int} (hk: ¬k=3) (h:Env P "roundhouse/roundhouseref3.place" [iv k] [] (Ans (iv (zak k)) [])):Env P "roundhouse/roundhouseref3.place" [iv k] [] (Ans (iv 22) []):=by rwa [zak,if_neg hk] at h
theorem zaY {ρ:Nat→Nat} {l:List Int} {r c:Nat} {rw:Bool} :Blk.seen (zbx ρ (zG (some (0,c)) (u8 (l++List.replicate r 0)) rw)) (.cells (u8 l++zaj zB r) true):=by
 rw [zcS,zdh (zH _)];exact ⟨rfl,fun _=>rfl⟩
theorem conv_sv {ρ:Nat→Nat} {k n r N:Nat} (hk:ρ k=k) (hn:n=N) (hr:r=0):zaF ρ (zS (some (0,N)) k N)=sv k 0 n (n+r):=by
 subst hn;subst hr;rw [qG hk];rfl
theorem zjC {ρ:Nat→Nat} {m:List Int} {r N:Nat} (hr:r=0):some (Blk.cells (u8 m++zaj zB r) true)=some (zbx ρ (zG (some (0,N)) (u8 m) true)):=by
 subst hr;rw [zdh (zH _),zgM];simp [u8,zG]
abbrev Wf a (b:Option (Nat×Nat)) (c:Option (Nat×Nat)):=(pkL a b 0 c 1)
theorem Build2C {P:Program} [PrC P] (qp qd:Option (Nat×Nat)) (Lo Ld:List Int) (x:Pk) (hro:RowOf qp Lo x.op) (hrd:RowOf qd Ld x.da) (B:BOk x) (hk:x.k=2):
    Env P "roundhouse/roundhouseref3.Build" [pkV x qp 0 qd 1] ([zG qp (u8 Lo) false,zG qd (u8 Ld) false]) (fun v h'=>v= .tuple #[zS (some (0,(bld x).length)) 2 (bld x).length,iv 0]∧h'= [zG qp (u8 Lo) false,zG qd (u8 Ld) false,zG (some (0,(bld x).length)) (u8 (bld x)) true]):=by
 refine Env.by4 PrC.ref3_Build ?_
 unfold zff
 show GC _ 2 _ _ ⟨reg [(0,pkV x qp 0 qd 1)],[zG qp (u8 Lo) false,zG qd (u8 Ld) false]⟩
 have b1:=B.li
 have b2:=B.pi
 have b3:=B.fr
 have b4:=B.t
 have b5:=B.co
 have b6:=B.fp
 have b7:=B.fl
 have b8_:=B.la
 have b9:=B.op
 have b10:=B.da
 have b11:=B.n
 have hl40:x.da.length≤100000:=om
 refine zJ (zN (o_b 3 [(3,iv 0),(2,.slice none 0 0),(1,pv 2 0)] [zG qp (u8 Lo) false,zG qd (u8 Ld) false,cw (Wf x qp qd)] (zE (zA (zJ (zJ (zN (o_d 1 [(10,pv 2 0)] (o_s (by refine zV (v:=iv x.k) rfl rfl ?_;exact rfl) ?_)))))))))
 refine o_d 2 [(13,bv (decide (x.k < 1))),(12,bv (decide (x.k < 1)))] (zbJ (b:=decide (x.k < 1)) 13 rfl (fun q=>by rw [(by exact decide_eq_false om:(decide (x.k < 1))=false)] at q;cases q) (fun k1=>?_))
 refine o_d 1 [(14,pv 2 0)] (qB rfl (o_s (by refine zV (v:=iv x.k) rfl rfl ?_;exact rfl) ?_))
 refine o_d 2 [(17,bv (decide (x.k > 3))),(16,bv (decide (x.k > 3)))] (zE (zA (qJ (t:=decide (x.k > 3)) rfl (fun q=>by rw [(by exact decide_eq_false om:(decide (x.k > 3))=false)] at q;cases q) (fun _=>?_))))
 refine qK (zA (zJ (zbe [] (r_d 1 [(18,pv 2 0)] (r_s (by refine zV (v:=iv x.k) rfl rfl ?_;exact rfl) ?_)))))
 refine r_d 2 [(21,pv 2 0),(20,bv (x.k==1))] (r_s (by refine zV (v:=iv x.k) rfl rfl ?_;exact rfl) ?_)
 refine r_d 2 [(24,pv 2 0),(23,bv (x.k==2))] (r_s (by refine zV (v:=iv x.k) rfl rfl ?_;exact rfl) ?_)
 refine r_d 4 [(6,bv (x.k==3)),(5,bv (x.k==2)),(4,bv (x.k==1)),(26,bv (x.k==3))] (za3 (zU [(6,bv (x.k==3)),(5,bv (x.k==2)),(4,bv (x.k==1)),(1,pv 2 0)] (zJ (zJ (zN (o_d 1 [(27,pv 2 1)] (o_s (by refine zV (v:=iv x.li) rfl rfl ?_;exact rfl) ?_)))))))
 refine qV (zab (zdK x.li 255) rfl rfl rfl (o_d 1 [(30,bv (decide (x.li < 0) || decide (x.li > 255)))] (zbJ (b:=decide (x.li < 0) || decide (x.li > 255)) 30 rfl (fun q=>by rw [(by simp;omega:(decide (x.li < 0) || decide (x.li > 255))=false)] at q;cases q) (fun k2=>?_))))
 refine o_d 1 [(31,pv 2 2)] (qB rfl (o_s (by refine zV (v:=iv x.pi) rfl rfl ?_;exact rfl) ?_))
 refine qB rfl (qV (zab (zdK x.pi 255) rfl rfl rfl (o_d 2 [(35,bv (decide (x.pi < 0) || decide (x.pi > 255))),(34,bv (decide (x.pi < 0) || decide (x.pi > 255)))] (zbJ (b:=decide (x.pi < 0) || decide (x.pi > 255)) 35 rfl (fun q=>by rw [(by simp;omega:(decide (x.pi < 0) || decide (x.pi > 255))=false)] at q;cases q) (fun k3=>?_)))))
 refine o_d 2 [(37,bv (x.k==3)),(36,bv (x.k==3))] (zbJ (b:=x.k==3) 37 rfl (fun q=>by rw [(by rw [hk];rfl:(x.k==3)=false)] at q;cases q) (fun k4=>?_))
 refine o_d 7 ((44,pv 2 3)::(43,bv false)::(We 42 41 40 39 38)) (qB rfl (o_s (by refine zV (v:=iv x.fr) rfl rfl ?_;exact rfl) ?_))
 refine qB rfl (qV (zab (zdK x.fr 4294967295) rfl rfl rfl (o_d 2 [(48,bv (decide (x.fr < 0) || decide (x.fr > 4294967295))),(47,bv (decide (x.fr < 0) || decide (x.fr > 4294967295)))] (zbJ (b:=decide (x.fr < 0) || decide (x.fr > 4294967295)) 48 rfl (fun q=>by rw [(by simp;omega:(decide (x.fr < 0) || decide (x.fr > 4294967295))=false)] at q;cases q) (fun k5=>?_)))))
 refine o_d 1 [(49,pv 2 4)] (qB rfl (o_s (by refine zV (v:=iv x.t) rfl rfl ?_;exact rfl) ?_))
 refine qB rfl (qV (zab (zdK x.t 4294967295) rfl rfl rfl (o_d 2 [(53,bv (decide (x.t < 0) || decide (x.t > 4294967295))),(52,bv (decide (x.t < 0) || decide (x.t > 4294967295)))] (zbJ (b:=decide (x.t < 0) || decide (x.t > 4294967295)) 53 rfl (fun q=>by rw [(by simp;omega:(decide (x.t < 0) || decide (x.t > 4294967295))=false)] at q;cases q) (fun k6=>?_)))))
 refine o_d 3 [(56,bv (!(x.k==3))),(55,bv (!(x.k==3))),(54,bv (x.k==3))] (zbJ (b:= !(x.k==3)) 56 rfl (fun k7=>?_) (fun q=>by rw [(by rw [(by rw [hk];rfl:(x.k==3)=false)];rfl:(!(x.k==3))=true)] at q;cases q))
 refine o_d 1 [(57,pv 2 5)] (qB rfl (o_s (by refine zV (v:=iv x.fp) rfl rfl ?_;exact rfl) ?_))
 refine qB rfl (qV (zab (zdK x.fp 65535) rfl rfl rfl (o_d 1 [(60,bv (decide (x.fp < 0) || decide (x.fp > 65535)))] (zbJ (b:=decide (x.fp < 0) || decide (x.fp > 65535)) 60 rfl (fun q=>by rw [(by simp;omega:(decide (x.fp < 0) || decide (x.fp > 65535))=false)] at q;cases q) (fun k8=>?_)))))
 refine o_d 1 [(61,pv 2 6)] (qB rfl (o_s (by refine zV (v:=iv x.tp) rfl rfl ?_;exact rfl) ?_))
 refine qB rfl (qV (zab (zdK x.tp 65535) rfl rfl rfl (o_d 4 [(67,bv (decide (x.tp < 0) || decide (x.tp > 65535))),(66,bv (decide (x.tp < 0) || decide (x.tp > 65535))),(65,bv (decide (x.tp < 0) || decide (x.tp > 65535))),(64,bv (decide (x.tp < 0) || decide (x.tp > 65535)))] (zbJ (b:=decide (x.tp < 0) || decide (x.tp > 65535)) 67 rfl (fun q=>by rw [(by simp;omega:(decide (x.tp < 0) || decide (x.tp > 65535))=false)] at q;cases q) (fun k9=>?_)))))
 refine o_d 2 [(69,bv (x.k==1)),(68,bv (x.k==1))] (zbJ (b:=x.k==1) 69 rfl (fun q=>by rw [(by rw [hk];rfl:(x.k==1)=false)] at q;cases q) (fun k10=>?_))
 refine o_d 8 ((77,bv (x.k==2))::(76,bv (x.k==2))::(75,bv false)::(We 74 73 72 71 70)) (zbJ (b:=x.k==2) 77 rfl (fun k11=>?_) (fun q=>by rw [(by rw [hk];rfl:(x.k==2)=true)] at q;cases q))
 refine o_d 1 [(78,pv 2 8)] (qB rfl (o_s (by refine zV (v:=iv x.la) rfl rfl ?_;exact rfl) ?_))
 refine qB rfl (qV (zab (zdK x.la 65535) rfl rfl rfl (o_d 2 [(82,bv (decide (x.la < 0) || decide (x.la > 65535))),(81,bv (decide (x.la < 0) || decide (x.la > 65535)))] (zE (zU [(82,bv (decide (x.la < 0) || decide (x.la > 65535))),(6,bv (x.k==3)),(5,bv (x.k==2)),(4,bv (x.k==1)),(1,pv 2 0)] (qJ (t:=decide (x.la < 0) || decide (x.la > 65535)) rfl (fun q=>by rw [(by simp;omega:(decide (x.la < 0) || decide (x.la > 65535))=false)] at q;cases q) (fun _=>?_)))))))
 refine qK (zA (zJ (zJ (zN (o_d 2 [(84,bv (x.k==1)),(83,bv (x.k==1))] (zbJ (b:=x.k==1) 84 rfl (fun q=>by rw [(by rw [hk];rfl:(x.k==1)=false)] at q;cases q) (fun k12=>?_)))))))
 refine o_d 5 [(89,bv false),(88,undef),(87,undef),(86,undef),(85,undef)] (zE (zA (zbc rfl (qK (zA (zJ (zN (o_d 1 [(90,pv 2 12)] (o_s (by refine zV (v:=zS qd 1 x.da.length) rfl rfl ?_;exact rfl) ?_)))))))))
 refine o_s (by exact qM rfl hrd.nil) ?_
 refine o_s (by refine zK (v:= .int .i64 (i64.wrap (24+(x.da.length:Nat)))) (congrArg wg (w64 lA lA)) ?_;kernel_rfl) ?_
 refine o_d 1 [(7,iv (24+(x.da.length:Nat)))] (zE (zA (zJ (zJ (zN (o_d 1 [(94,bv (x.k==1))] (zE (zA (qJ (t:=x.k==1) rfl (fun q=>by rw [(by rw [hk];rfl:(x.k==1)=false)] at q;cases q) (fun _=>?_))))))))))
 refine qK (zA (zJ (zJ (zN (o_d 1 [(100,bv (x.k==3))] (zE (zA (qJ (t:=x.k==3) rfl (fun q=>by rw [(by rw [hk];rfl:(x.k==3)=false)] at q;cases q) (fun _=>?_)))))))))
 refine qK (zA (zJ (zJ (zN (o_d 2 [(106,bv (x.k==3)),(105,bv (x.k==3))] (zbJ (b:=x.k==3) 106 rfl (fun q=>by rw [(by rw [hk];rfl:(x.k==3)=false)] at q;cases q) (fun k13=>?_)))))))
 refine o_d 9 ((115,bv (decide ((24+(x.da.length:Nat):Int) > 1500)))::(114,bv (decide ((24+(x.da.length:Nat):Int) > 1500)))::(113,iv (24+(x.da.length:Nat)))::(112,bv false)::(111,bv false)::(vG 110 109 108 107)) (zE (zU [(115,bv (decide ((24+(x.da.length:Nat):Int) > 1500))),(7,iv (24+(x.da.length:Nat))),(6,bv (x.k==3)),(5,bv (x.k==2)),(1,pv 2 0)] (qJ (t:=decide ((24+(x.da.length:Nat):Int) > 1500)) rfl (fun q=>by rw [(by exact decide_eq_false om:(decide ((24+(x.da.length:Nat):Int) > 1500))=false)] at q;cases q) (fun _=>?_))))
 refine qK (zA (zJ (zN (o_d 1 [(116,iv (24+(x.da.length:Nat)))] (o_s (by exact run_mksR (a:=16) (n:=24+x.da.length) (r:=24+x.da.length - 16) rfl rfl om om) ?_)))))
 refine o_b 1 [(8,sv 3 0 16 (16+(24+x.da.length - 16)))] [zG qp (u8 Lo) false,zG qd (u8 Ld) false,cw (Wf x qp qd),cw (u8 (List.replicate 16 0)++zaj zB (24+x.da.length - 16))] (zE (zA (zJ (zeE [zG qp (u8 Lo) false,zG qd (u8 Ld) false,cw (Wf x qp qd),cw (u8 (List.replicate 16 0)++zaj zB (24+x.da.length - 16))] (by kernel_rfl) (d_n 4 4 4 [(121,pv 2 0),(120,sv 3 0 16 (16+(24+x.da.length - 16))),(119,sv 3 0 16 (16+(24+x.da.length - 16))),(118,sv 3 0 16 (16+(24+x.da.length - 16)))] [zG qp (u8 Lo) false,zG qd (u8 Ld) false,cw (Wf x qp qd),cw (u8 (List.replicate 16 0)++zaj zB (24+x.da.length - 16))] [] (by kernel_rfl) rfl rfl (d_s rfl rfl rfl (by kernel_rfl) (by refine zV (v:=iv x.k) rfl rfl ?_;exact rfl) ?_))))))
 refine d_n 2 7 4 [(124,pv 2 1),(123,.int .u8 (x.k % 256))] [zG qp (u8 Lo) false,zG qd (u8 Ld) false,cw (Wf x qp qd),cw (u8 (List.replicate 16 0)++zaj zB (24+x.da.length - 16))] [⟨4,[2],[],none⟩] (by kernel_rfl) rfl rfl (d_s rfl rfl rfl (by kernel_rfl) (by refine zV (v:=iv x.li) rfl rfl ?_;exact rfl) ?_)
 refine d_n 2 10 4 [(127,pv 2 2),(126,.int .u8 (x.li % 256))] [zG qp (u8 Lo) false,zG qd (u8 Ld) false,cw (Wf x qp qd),cw (u8 (List.replicate 16 0)++zaj zB (24+x.da.length - 16))] [⟨7,[2],[],none⟩,⟨4,[2],[],none⟩] (by kernel_rfl) rfl rfl (d_s rfl rfl rfl (by kernel_rfl) (by refine zV (v:=iv x.pi) rfl rfl ?_;exact rfl) ?_)
 refine d_n 2 13 4 [(130,pv 3 0),(129,.int .u8 (x.pi % 256))] [zG qp (u8 Lo) false,zG qd (u8 Ld) false,cw (Wf x qp qd),cw (u8 (List.replicate 16 0)++zaj zB (24+x.da.length - 16))] [⟨10,[2],[],none⟩,⟨7,[2],[],none⟩,⟨4,[2],[],none⟩] (by kernel_rfl) rfl rfl (d_s0 rfl rfl ⟨_,_,_,rfl⟩ (by kernel_rfl) (by refine zao (c':=u8 ((List.replicate 16 0).set 0 x.k)++zaj zB (24+x.da.length - 16)) rfl rfl rfl ?_ ?_ ?_;exact rfl;exact (by simp only [List.length_append,qL];first | omega | (simp only [List.length_set,List.length_replicate,List.length_append];omega) | (simp;done) | (simp;omega));exact zeQ (l:=List.replicate 16 0) (x:=x.k) lA rfl) ?_)
 refine d_n 1 15 4 [(131,pv 3 1)] [zG qp (u8 Lo) false,zG qd (u8 Ld) false,cw (Wf x qp qd),cw (u8 ((List.replicate 16 0).set 0 x.k)++zaj zB (24+x.da.length - 16))] [⟨13,[3],[3],none⟩,⟨10,[2],[],none⟩,⟨7,[2],[],none⟩,⟨4,[2],[],none⟩] (by kernel_rfl) rfl rfl (d_s0 rfl rfl ⟨_,_,_,rfl⟩ (by kernel_rfl) (by refine zao (c':=u8 (((List.replicate 16 0).set 0 x.k).set 1 x.li)++zaj zB (24+x.da.length - 16)) rfl rfl rfl ?_ ?_ ?_;exact rfl;exact (by simp only [List.length_append,qL];first | omega | (simp only [List.length_set,List.length_replicate,List.length_append];omega) | (simp;done) | (simp;omega));exact zeQ (l:=(List.replicate 16 0).set 0 x.k) (x:=x.li) lA rfl) ?_)
 refine d_n 1 17 4 [(132,pv 3 12)] [zG qp (u8 Lo) false,zG qd (u8 Ld) false,cw (Wf x qp qd),cw (u8 (((List.replicate 16 0).set 0 x.k).set 1 x.li)++zaj zB (24+x.da.length - 16))] [⟨15,[3],[3],none⟩,⟨13,[3],[3],none⟩,⟨10,[2],[],none⟩,⟨7,[2],[],none⟩,⟨4,[2],[],none⟩] (by kernel_rfl) rfl rfl (d_s0 rfl rfl ⟨_,_,_,rfl⟩ (by kernel_rfl) (by refine zao (c':=u8 ((((List.replicate 16 0).set 0 x.k).set 1 x.li).set 12 x.pi)++zaj zB (24+x.da.length - 16)) rfl rfl rfl ?_ ?_ ?_;exact rfl;exact (by simp only [List.length_append,qL];first | omega | (simp only [List.length_set,List.length_replicate,List.length_append];omega) | (simp;done) | (simp;omega));exact zeQ (l:=((List.replicate 16 0).set 0 x.k).set 1 x.li) (x:=x.pi) lA rfl) ?_)
 refine zgp (zA (zJ (zN (o_d 2 [(134,iv (24+(x.da.length:Nat))),(133,sv 3 0 16 (16+(24+x.da.length - 16)))] ?_))))
 obtain ⟨m14,hm14⟩: ∃z9,zbq ((((List.replicate 16 0).set 0 x.k).set 1 x.li).set 12 x.pi) 2 2 (24+(x.da.length:Nat))=z9:=⟨_,rfl⟩
 have hm14l:m14.length=((((List.replicate 16 0).set 0 x.k).set 1 x.li).set 12 x.pi).length:=by rw [←hm14,zX]
 have hm14n:m14.length=16:=by rw [hm14l]<;>exact lA
 refine qV (zct [3] [zG (some (0,16+(24+x.da.length - 16))) (u8 (((((List.replicate 16 0).set 0 x.k).set 1 x.li).set 12 x.pi)++List.replicate (24+x.da.length - 16) 0)) true] [zS (some (0,16+(24+x.da.length - 16))) 0 (((((List.replicate 16 0).set 0 x.k).set 1 x.li).set 12 x.pi).length),iv 2,iv 2,iv (24+(x.da.length:Nat))] (zcb (some (0,16+(24+x.da.length - 16))) (((((List.replicate 16 0).set 0 x.k).set 1 x.li).set 12 x.pi)++List.replicate (24+x.da.length - 16) 0) ((((List.replicate 16 0).set 0 x.k).set 1 x.li).set 12 x.pi) (zcI (l:=(((List.replicate 16 0).set 0 x.k).set 1 x.li).set 12 x.pi) (n:=16) (r:=(24+x.da.length - 16)) lA) 2 2 (24+(x.da.length:Nat)) lA lA lA) rfl (zQ (zam rfl lA) (zQ rfl (zQ rfl (zQ rfl rfl)))) ⟨⟨_,rfl,zaY⟩,trivial⟩ dC ?_)
 rintro v1 h1' ⟨rfl,rfl⟩
 refine ⟨.tuple #[],[zG qp (u8 Lo) false,zG qd (u8 Ld) false,cw (Wf x qp qd),cw (u8 m14++zaj zB (24+x.da.length - 16))],[],(by simp [zaF]),⟨rfl,rfl,rfl,(zb6 hm14 lA),trivial⟩,trivial, ?_⟩
 refine zE (zU [(8,sv 3 0 16 (16+(24+x.da.length - 16))),(6,bv (x.k==3)),(5,bv (x.k==2)),(1,pv 2 0)] (zJ (zN (o_d 2 [(137,pv 2 3),(136,sv 3 0 16 (16+(24+x.da.length - 16)))] (o_s (by refine zV (v:=iv x.fr) rfl rfl ?_;exact rfl) ?_)))))
 obtain ⟨m15,hm15⟩: ∃z9,zbq m14 4 4 x.fr=z9:=⟨_,rfl⟩
 have hm15l:m15.length=m14.length:=by rw [←hm15,zX]
 have hm15n:m15.length=16:=by rw [hm15l]<;>exact lA
 refine qV (zct [3] [zG (some (0,16+(24+x.da.length - 16))) (u8 (m14++List.replicate (24+x.da.length - 16) 0)) true] [zS (some (0,16+(24+x.da.length - 16))) 0 m14.length,iv 4,iv 4,iv x.fr] (zcb (some (0,16+(24+x.da.length - 16))) (m14++List.replicate (24+x.da.length - 16) 0) m14 (zcI (l:=m14) (n:=16) (r:=(24+x.da.length - 16)) lA) 4 4 x.fr lA lA lA) rfl (zQ (zam rfl lA) (zQ rfl (zQ rfl (zQ rfl rfl)))) ⟨⟨_,rfl,zaY⟩,trivial⟩ dC ?_)
 rintro v1 h1' ⟨rfl,rfl⟩
 refine ⟨.tuple #[],[zG qp (u8 Lo) false,zG qd (u8 Ld) false,cw (Wf x qp qd),cw (u8 m15++zaj zB (24+x.da.length - 16))],[],(by simp [zaF]),⟨rfl,rfl,rfl,(zb6 hm15 lA),trivial⟩,trivial, ?_⟩
 refine zE (zA (zJ (zN (o_d 2 [(141,pv 2 4),(140,sv 3 0 16 (16+(24+x.da.length - 16)))] (o_s (by refine zV (v:=iv x.t) rfl rfl ?_;exact rfl) ?_)))))
 obtain ⟨m16,hm16⟩: ∃z9,zbq m15 8 4 x.t=z9:=⟨_,rfl⟩
 have hm16l:m16.length=m15.length:=by rw [←hm16,zX]
 have hm16n:m16.length=16:=by rw [hm16l]<;>exact lA
 refine qV (zct [3] [zG (some (0,16+(24+x.da.length - 16))) (u8 (m15++List.replicate (24+x.da.length - 16) 0)) true] [zS (some (0,16+(24+x.da.length - 16))) 0 m15.length,iv 8,iv 4,iv x.t] (zcb (some (0,16+(24+x.da.length - 16))) (m15++List.replicate (24+x.da.length - 16) 0) m15 (zcI (l:=m15) (n:=16) (r:=(24+x.da.length - 16)) lA) 8 4 x.t lA lA lA) rfl (zQ (zam rfl lA) (zQ rfl (zQ rfl (zQ rfl rfl)))) ⟨⟨_,rfl,zaY⟩,trivial⟩ dC ?_)
 rintro v1 h1' ⟨rfl,rfl⟩
 refine ⟨.tuple #[],[zG qp (u8 Lo) false,zG qd (u8 Ld) false,cw (Wf x qp qd),cw (u8 m16++zaj zB (24+x.da.length - 16))],[],(by simp [zaF]),⟨rfl,rfl,rfl,(zb6 hm16 lA),trivial⟩,trivial, ?_⟩
 refine zE (zA (zJ (zN (o_d 2 [(145,sv 3 0 16 (16+(24+x.da.length - 16))),(144,sv 3 0 16 (16+(24+x.da.length - 16)))] (qV (zdD (a1:= [zS (some (0,16+(24+x.da.length - 16))) 0 m16.length]) [3] [u8 (m16++List.replicate (24+x.da.length - 16) 0)] (refOf1C (some (0,16+(24+x.da.length - 16))) (m16++List.replicate (24+x.da.length - 16) 0) m16 (zcI (l:=m16) (n:=16) (r:=(24+x.da.length - 16)) lA) lA) rfl (fun _=>zQ (zam rfl lA) rfl) ⟨⟨_,congrArg some (zcS _ _)⟩,zH _,trivial⟩ rfl ?_))))))
 have hy17:=zhB m16
 obtain ⟨m18,hm18⟩: ∃z9,zbq m16 14 2 (65535 - zbY m16)=z9:=⟨_,rfl⟩
 have hm18l:m18.length=m16.length:=by rw [←hm18,zX]
 have hm18n:m18.length=16:=by rw [hm18l]<;>exact lA
 refine qV (zct [3] [zG (some (0,16+(24+x.da.length - 16))) (u8 (m16++List.replicate (24+x.da.length - 16) 0)) true] [zS (some (0,16+(24+x.da.length - 16))) 0 m16.length,iv 14,iv 2,iv (65535 - zbY m16)] (zcb (some (0,16+(24+x.da.length - 16))) (m16++List.replicate (24+x.da.length - 16) 0) m16 (zcI (l:=m16) (n:=16) (r:=(24+x.da.length - 16)) lA) 14 2 (65535 - zbY m16) lA lA lA) rfl (zQ (zam rfl lA) (zQ rfl (zQ rfl (zQ rfl rfl)))) ⟨⟨_,rfl,zaY⟩,trivial⟩ dC ?_)
 rintro v1 h1' ⟨rfl,rfl⟩
 refine ⟨.tuple #[],[zG qp (u8 Lo) false,zG qd (u8 Ld) false,cw (Wf x qp qd),cw (u8 m18++zaj zB (24+x.da.length - 16))],[],(by simp [zaF]),⟨rfl,rfl,rfl,(zb6 hm18 lA),trivial⟩,trivial, ?_⟩
 refine zE (zA (zJ (qU (zJ (zN (o_d 2 [(164,bv (x.k==3)),(165,bv (x.k==3))] (zE (zA (qJ (t:=x.k==3) rfl (fun q=>by rw [(by rw [hk];rfl:(x.k==3)=false)] at q;cases q) (fun _=>?_))))))))))
 refine zJ (zN (o_d 2 [(172,bv (x.k==2)),(173,bv (x.k==2))] (zE (zA (qJ (t:=x.k==2) rfl (fun _=>?_) (fun q=>by rw [(by rw [hk];rfl:(x.k==2)=true)] at q;cases q))))))
 refine zJ (zN (o_d 1 [(174,sv 3 0 16 (16+(24+x.da.length - 16)))] ?_))
 obtain ⟨m19,hm19⟩: ∃z9,m18++List.replicate 8 (0:Int)=z9:=⟨_,rfl⟩
 have hm19l:m19.length=16+8:=by rw [←hm19,List.length_append]<;>exact lA
 refine o_appF (q:=8) (r:=(24+x.da.length - 16)) (r2:=((24+x.da.length - 16) - 8)) (n:=16) (k:=3) (cs:=u8 m18) (xs:=u8 (List.replicate 8 (0:Int))) (cs2:=u8 m19) (zl:=zB) rfl rfl om rfl (by rw [qL]<;>exact lA) rfl (by kernel_rfl) (by kernel_rfl) (by rw [qL]<;>exact lA) (by rw [zcG,hm19]) rfl ?_
 refine o_d 1 [(8,sv 3 0 (16+8) (16+8+((24+x.da.length - 16) - 8)))] (zE (zA (zN (o_d 2 [(177,pv 2 8),(176,sv 3 0 (16+8) (16+8+((24+x.da.length - 16) - 8)))] (o_s (by refine zV (v:=iv x.la) rfl rfl ?_;exact rfl) ?_)))))
 obtain ⟨m20,hm20⟩: ∃z9,zbq m19 20 2 x.la=z9:=⟨_,rfl⟩
 have hm20l:m20.length=m19.length:=by rw [←hm20,zX]
 have hm20n:m20.length=16+8:=by rw [hm20l]<;>exact lA
 refine qV (zct [3] [zG (some (0,16+8+((24+x.da.length - 16) - 8))) (u8 (m19++List.replicate ((24+x.da.length - 16) - 8) 0)) true] [zS (some (0,16+8+((24+x.da.length - 16) - 8))) 0 m19.length,iv 20,iv 2,iv x.la] (zcb (some (0,16+8+((24+x.da.length - 16) - 8))) (m19++List.replicate ((24+x.da.length - 16) - 8) 0) m19 (zcI (l:=m19) (n:=16+8) (r:=((24+x.da.length - 16) - 8)) lA) 20 2 x.la lA lA lA) rfl (zQ (zam rfl lA) (zQ rfl (zQ rfl (zQ rfl rfl)))) ⟨⟨_,rfl,zaY⟩,trivial⟩ dC ?_)
 rintro v1 h1' ⟨rfl,rfl⟩
 refine ⟨.tuple #[],[zG qp (u8 Lo) false,zG qd (u8 Ld) false,cw (Wf x qp qd),cw (u8 m20++zaj zB ((24+x.da.length - 16) - 8))],[],(by simp [zaF]),⟨rfl,rfl,rfl,(zb6 hm20 lA),trivial⟩,trivial, ?_⟩
 refine zE (zU [(8,sv 3 0 (16+8) (16+8+((24+x.da.length - 16) - 8))),(6,bv (x.k==3)),(5,bv (x.k==2)),(1,pv 2 0)] (zJ (zJ (zN (o_d 2 [(181,bv (!(x.k==3))),(180,bv (x.k==3))] (zE (zA (qJ (t:= !(x.k==3)) rfl (fun _=>?_) (fun q=>by rw [(by rw [(by rw [hk];rfl:(x.k==3)=false)];rfl:(!(x.k==3))=true)] at q;cases q)))))))))
 refine zJ (zN (o_d 2 [(183,pv 2 5),(182,sv 3 0 (16+8) (16+8+((24+x.da.length - 16) - 8)))] (o_s (by refine zV (v:=iv x.fp) rfl rfl ?_;exact rfl) ?_)))
 obtain ⟨m21,hm21⟩: ∃z9,zbq m20 16 2 x.fp=z9:=⟨_,rfl⟩
 have hm21l:m21.length=m20.length:=by rw [←hm21,zX]
 have hm21n:m21.length=16+8:=by rw [hm21l]<;>exact lA
 refine qV (zct [3] [zG (some (0,16+8+((24+x.da.length - 16) - 8))) (u8 (m20++List.replicate ((24+x.da.length - 16) - 8) 0)) true] [zS (some (0,16+8+((24+x.da.length - 16) - 8))) 0 m20.length,iv 16,iv 2,iv x.fp] (zcb (some (0,16+8+((24+x.da.length - 16) - 8))) (m20++List.replicate ((24+x.da.length - 16) - 8) 0) m20 (zcI (l:=m20) (n:=16+8) (r:=((24+x.da.length - 16) - 8)) lA) 16 2 x.fp lA lA lA) rfl (zQ (zam rfl lA) (zQ rfl (zQ rfl (zQ rfl rfl)))) ⟨⟨_,rfl,zaY⟩,trivial⟩ dC ?_)
 rintro v1 h1' ⟨rfl,rfl⟩
 refine ⟨.tuple #[],[zG qp (u8 Lo) false,zG qd (u8 Ld) false,cw (Wf x qp qd),cw (u8 m21++zaj zB ((24+x.da.length - 16) - 8))],[],(by simp [zaF]),⟨rfl,rfl,rfl,(zb6 hm21 lA),trivial⟩,trivial, ?_⟩
 refine zE (zA (zN (o_d 2 [(187,pv 2 6),(186,sv 3 0 (16+8) (16+8+((24+x.da.length - 16) - 8)))] (o_s (by refine zV (v:=iv x.tp) rfl rfl ?_;exact rfl) ?_))))
 obtain ⟨m22,hm22⟩: ∃z9,zbq m21 18 2 x.tp=z9:=⟨_,rfl⟩
 have hm22l:m22.length=m21.length:=by rw [←hm22,zX]
 have hm22n:m22.length=16+8:=by rw [hm22l]<;>exact lA
 refine qV (zct [3] [zG (some (0,16+8+((24+x.da.length - 16) - 8))) (u8 (m21++List.replicate ((24+x.da.length - 16) - 8) 0)) true] [zS (some (0,16+8+((24+x.da.length - 16) - 8))) 0 m21.length,iv 18,iv 2,iv x.tp] (zcb (some (0,16+8+((24+x.da.length - 16) - 8))) (m21++List.replicate ((24+x.da.length - 16) - 8) 0) m21 (zcI (l:=m21) (n:=16+8) (r:=((24+x.da.length - 16) - 8)) lA) 18 2 x.tp lA lA lA) rfl (zQ (zam rfl lA) (zQ rfl (zQ rfl (zQ rfl rfl)))) ⟨⟨_,rfl,zaY⟩,trivial⟩ dC ?_)
 rintro v1 h1' ⟨rfl,rfl⟩
 refine ⟨.tuple #[],[zG qp (u8 Lo) false,zG qd (u8 Ld) false,cw (Wf x qp qd),cw (u8 m22++zaj zB ((24+x.da.length - 16) - 8))],[],(by simp [zaF]),⟨rfl,rfl,rfl,(zb6 hm22 lA),trivial⟩,trivial, ?_⟩
 refine zE (zA (zJ (zN (o_d 2 [(191,pv 2 12),(190,sv 3 0 (16+8) (16+8+((24+x.da.length - 16) - 8)))] (o_s (by refine zV (v:=zS qd 1 x.da.length) rfl rfl ?_;exact rfl) ?_)))))
 obtain ⟨m23,hm23⟩: ∃z9,m22++x.da=z9:=⟨_,rfl⟩
 have hm23l:m23.length=16+8+x.da.length:=by rw [←hm23,List.length_append]<;>exact lA
 refine o_appF (q:=x.da.length) (r:=((24+x.da.length - 16) - 8)) (r2:=(((24+x.da.length - 16) - 8) - x.da.length)) (n:=16+8) (k:=3) (cs:=u8 m22) (xs:=u8 x.da) (cs2:=u8 m23) (zl:=zB) rfl rfl om rfl (by rw [qL]<;>exact lA) rfl (zc2 _ _ _ hrd.nil) (zcX rfl rfl hrd) (by rw [qL]<;>exact lA) (by rw [zcG,hm23]) rfl ?_
 refine o_d 1 [(8,sv 3 0 (16+8+x.da.length) (16+8+x.da.length+(((24+x.da.length - 16) - 8) - x.da.length)))] (zE ?_)
 have hB:bldB x=m23:=by
  unfold bldB;rw [if_neg om,if_pos hk]
  unfold bldS bldH;rw [hm14,hm15,hm16,hm18,hm19,hm20,hm21,hm22,hm23]
 have hml:m23.length=(24+x.da.length):=by rw [hm23l]<;>omega
 refine ⟨⟨reg [(8,zS (some (0,(24+x.da.length))) 3 (24+x.da.length)),(5,bv (x.k==2)),(1,pv 2 0)],[zG qp (u8 Lo) false,zG qd (u8 Ld) false,cw (Wf x qp qd),zG (some (0,(24+x.da.length))) (u8 m23) true]⟩,Wk.ren [0,1,2,3] rfl rfl dC ⟨conv_sv rfl om om,rfl,rfl,trivial⟩ ⟨.inl (zF (zH _)),.inl (zF (zH _)),.inl (zcj rfl rfl),.inl (zjC om),trivial⟩, ?_⟩
 refine zJ (zN (o_d 1 [(194,zS (some (0,(24+x.da.length))) 3 (24+x.da.length))] ?_))
 have hsl:=zh8 m23
 refine qV (zaD [3] [zG (some (0,(24+x.da.length))) (u8 m23) false] [zS (some (0,(24+x.da.length))) 0 m23.length] (summedC (some (0,(24+x.da.length))) m23 m23 (RowOf.whole rfl om) om om) rfl (zQ (zam rfl lA) rfl) ⟨⟨_,rfl,z4 (zH _) rfl (fun q=>rfl)⟩,trivial⟩ dC ?_)
 rintro v1 h1' ⟨c24,rfl,rfl⟩
 refine ⟨q9 [_] [_],sv 4 0 ((zbW m23).length) ((zbW m23).length+c24),[zG qp (u8 Lo) false,zG qd (u8 Ld) false,cw (Wf x qp qd),zG (some (0,(24+x.da.length))) (u8 m23) true],[cw (u8 (zbW m23)++zaj zB c24)],rfl,⟨rfl,rfl,rfl,rfl,trivial⟩,⟨(Option.some.inj (zL (za5 (zbW m23) c24))).symm,trivial⟩, ?_⟩
 refine qV (zdD (a1:= [sv 0 0 ((zbW m23).length) ((zbW m23).length+c24)]) [4] [u8 ((zbW m23)++List.replicate c24 0)] (refOf1C (some (0,(zbW m23).length+c24)) ((zbW m23)++List.replicate c24 0) (zbW m23) (zcI (l:=zbW m23) (n:=(zbW m23).length) (r:=c24) lA) lA) rfl (fun _=>rfl) ⟨⟨_,congrArg some (zcS _ _)⟩,zH _,trivial⟩ rfl ?_)
 have hy25:=zhB (zbW m23)
 refine o_d 1 [(9,iv (65535 - zbY (zbW m23)))] (zE (zA (zJ (zJ (zN (o_d 2 [(198,bv (x.k==2)),(197,bv (x.k==2))] (zbJ (b:=x.k==2) 198 rfl (fun k26=>?_) (fun q=>by rw [(by rw [hk];rfl:(x.k==2)=true)] at q;cases q))))))))
 refine o_d 3 [(201,bv ((65535 - zbY (zbW m23))==0)),(200,bv ((65535 - zbY (zbW m23))==0)),(199,iv (65535 - zbY (zbW m23)))] (zE (zA (qJ (t:=(65535 - zbY (zbW m23))==0) rfl (fun h27=>?_) (fun h27=>?_))))
 ·skip
  have h27':65535 - zbY (zbW m23)=0:=zaQ h27
  refine zN (o_d 1 [(9,iv 65535)] (zE (zA (zf2 (fun s=> ∃(sx:Int),0=0∧(sx=bldX x)∧s=⟨reg [(9,iv sx),(8,zS (some (0,(24+x.da.length))) 3 (24+x.da.length)),(1,pv 2 0)],[zG qp (u8 Lo) false,zG qd (u8 Ld) false,cw (Wf x qp qd),zG (some (0,(24+x.da.length))) (u8 m23) true,cw (u8 (zbW m23)++zaj zB c24)]⟩) ?_ ?_))))
  ·skip
   refine zJ (zN (o_d 2 [(203,bv (x.k==2)),(202,bv (x.k==2))] (zbJ (b:=x.k==2) 203 rfl (fun k28=>?_) (fun q=>by rw [(by rw [hk];rfl:(x.k==2)=true)] at q;cases q))))
   refine o_d 1 [(204,pv 2 9)] (qB rfl (o_s (by refine zV (v:=bv x.ba) rfl rfl ?_;exact rfl) ?_))
   refine o_d 1 [(206,bv x.ba)] (zE (zA (qJ (t:=x.ba) rfl (fun h29=>?_) (fun h29=>?_))))
   ·skip
    refine zN (o_d 1 [(9,iv 0)] (zE (⟨⟨reg [(9,iv 0),(8,zS (some (0,(24+x.da.length))) 3 (24+x.da.length)),(1,pv 2 0)],[zG qp (u8 Lo) false,zG qd (u8 Ld) false,cw (Wf x qp qd),zG (some (0,(24+x.da.length))) (u8 m23) true,cw (u8 (zbW m23)++zaj zB c24)]⟩, ?_⟩)))
    refine ⟨?_, ?_⟩
    ·exact Wk.ren [0,1,2,3,4] rfl rfl dC ⟨rfl,rfl,rfl,trivial⟩ ⟨.inl (zF (zH _)),.inl (zF (zH _)),.inl (zcj rfl rfl),.inl (zF (zH _)),.inl (zL (za5 (zbW m23) c24)),trivial⟩
    ·exact ⟨0,rfl,(by rw [bldX,if_pos hk,hB];rw [if_pos h29]),rfl⟩
   refine qK (⟨⟨reg [(9,iv 65535),(8,zS (some (0,(24+x.da.length))) 3 (24+x.da.length)),(1,pv 2 0)],[zG qp (u8 Lo) false,zG qd (u8 Ld) false,cw (Wf x qp qd),zG (some (0,(24+x.da.length))) (u8 m23) true,cw (u8 (zbW m23)++zaj zB c24)]⟩, ?_⟩)
   refine ⟨?_, ?_⟩
   ·exact Wk.ren [0,1,2,3,4] rfl rfl dC ⟨rfl,rfl,rfl,trivial⟩ ⟨.inl (zF (zH _)),.inl (zF (zH _)),.inl (zcj rfl rfl),.inl (zF (zH _)),.inl (zL (za5 (zbW m23) c24)),trivial⟩
   ·exact ⟨65535,rfl,(by rw [bldX,if_pos hk,hB];rw [if_neg (by rw [h29];simp),if_pos om]),rfl⟩
  rintro s ⟨sx,-,hsx,rfl⟩
  refine zJ (zN (o_d 2 [(208,pv 2 0),(207,zS (some (0,(24+x.da.length))) 3 (24+x.da.length))] (o_s (by refine zV (v:=iv x.k) rfl rfl ?_;exact rfl) ?_)))
  refine qV (zab (place22C om (placeC x.k)) rfl rfl rfl ?_)
  refine o_d 1 [(211,iv sx)] ?_
  obtain ⟨m30,hm30⟩: ∃z9,zbq m23 22 2 sx=z9:=⟨_,rfl⟩
  have hm30l:m30.length=m23.length:=by rw [←hm30,zX]
  refine qV (zaD [3] [zG (some (0,(24+x.da.length))) (u8 m23) true] [zS (some (0,(24+x.da.length))) 0 m23.length,iv 22,iv 2,iv sx] (zcb (some (0,(24+x.da.length))) m23 m23 (RowOf.whole rfl om) 22 2 sx lA lA lA) rfl (zQ (zam rfl lA) (zQ rfl (zQ rfl (zQ rfl rfl)))) ⟨⟨_,rfl,z4 (zH _) rfl (fun q=>rfl)⟩,trivial⟩ dC ?_)
  rintro v1 h1' ⟨rfl,rfl⟩
  refine ⟨(fun i q=>zcC q),.tuple #[],[zG qp (u8 Lo) false,zG qd (u8 Ld) false,cw (Wf x qp qd),zG (some (0,(24+x.da.length))) (u8 m30) true,cw (u8 (zbW m23)++zaj zB c24)],[],(by simp [zaF]),⟨rfl,rfl,rfl,(zcz hm30),rfl,trivial⟩,trivial, ?_⟩
  refine zE (zA (zJ (zN (o_d 3 [(3,iv 0),(2,zS (some (0,(24+x.da.length))) 3 (24+x.da.length)),(213,zS (some (0,(24+x.da.length))) 3 (24+x.da.length))] (zE (zA (qW ?_)))))))
  have he:bld x=m30:=by unfold bld;rw [hB,zgQ,if_neg om,←hsx];exact hm30
  have hlen:m30.length=(24+x.da.length):=om
  exact ⟨trivial,[zS (some (0,(24+x.da.length))) 3 (24+x.da.length),iv 0],(zT rfl (zT rfl rfl)),(zM rfl (zM rfl z5)),⟨reg [],[zG qp (u8 Lo) false,zG qd (u8 Ld) false,zG (some (0,(24+x.da.length))) (u8 m30) true]⟩,[0,1,3],[zS (some (0,(24+x.da.length))) 2 (24+x.da.length),iv 0],WkR.of (rs:= []) rfl rfl dC trivial ⟨.inl (zF (zH _)),.inl (zF (zH _)),.inl (zF (zH _)),trivial⟩,rfl,(by rw [he,hlen];rfl),(by rw [he,hlen])⟩
 have h27': ¬(65535 - zbY (zbW m23)=0):=zaR h27
 refine qK (zA (zf2 (fun s=> ∃(sx:Int),0=0∧(sx=bldX x)∧s=⟨reg [(9,iv sx),(8,zS (some (0,(24+x.da.length))) 3 (24+x.da.length)),(1,pv 2 0)],[zG qp (u8 Lo) false,zG qd (u8 Ld) false,cw (Wf x qp qd),zG (some (0,(24+x.da.length))) (u8 m23) true,cw (u8 (zbW m23)++zaj zB c24)]⟩) ?_ ?_))
 ·skip
  refine zJ (zN (o_d 2 [(203,bv (x.k==2)),(202,bv (x.k==2))] (zbJ (b:=x.k==2) 203 rfl (fun k31=>?_) (fun q=>by rw [(by rw [hk];rfl:(x.k==2)=true)] at q;cases q))))
  refine o_d 1 [(204,pv 2 9)] (qB rfl (o_s (by refine zV (v:=bv x.ba) rfl rfl ?_;exact rfl) ?_))
  refine o_d 1 [(206,bv x.ba)] (zE (zA (qJ (t:=x.ba) rfl (fun h32=>?_) (fun h32=>?_))))
  ·skip
   refine zN (o_d 1 [(9,iv 0)] (zE (⟨⟨reg [(9,iv 0),(8,zS (some (0,(24+x.da.length))) 3 (24+x.da.length)),(1,pv 2 0)],[zG qp (u8 Lo) false,zG qd (u8 Ld) false,cw (Wf x qp qd),zG (some (0,(24+x.da.length))) (u8 m23) true,cw (u8 (zbW m23)++zaj zB c24)]⟩, ?_⟩)))
   refine ⟨?_, ?_⟩
   ·exact Wk.ren [0,1,2,3,4] rfl rfl dC ⟨rfl,rfl,rfl,trivial⟩ ⟨.inl (zF (zH _)),.inl (zF (zH _)),.inl (zcj rfl rfl),.inl (zF (zH _)),.inl (zL (za5 (zbW m23) c24)),trivial⟩
   ·exact ⟨0,rfl,(by rw [bldX,if_pos hk,hB];rw [if_pos h32]),rfl⟩
  refine qK (⟨⟨reg [(9,iv (65535 - zbY (zbW m23))),(8,zS (some (0,(24+x.da.length))) 3 (24+x.da.length)),(1,pv 2 0)],[zG qp (u8 Lo) false,zG qd (u8 Ld) false,cw (Wf x qp qd),zG (some (0,(24+x.da.length))) (u8 m23) true,cw (u8 (zbW m23)++zaj zB c24)]⟩, ?_⟩)
  refine ⟨?_, ?_⟩
  ·exact Wk.ren [0,1,2,3,4] rfl rfl dC ⟨rfl,rfl,rfl,trivial⟩ ⟨.inl (zF (zH _)),.inl (zF (zH _)),.inl (zcj rfl rfl),.inl (zF (zH _)),.inl (zL (za5 (zbW m23) c24)),trivial⟩
  ·exact ⟨(65535 - zbY (zbW m23)),rfl,(by rw [bldX,if_pos hk,hB];rw [if_neg (by rw [h32];simp),if_neg om]),rfl⟩
 rintro s ⟨sx,-,hsx,rfl⟩
 refine zJ (zN (o_d 2 [(208,pv 2 0),(207,zS (some (0,(24+x.da.length))) 3 (24+x.da.length))] (o_s (by refine zV (v:=iv x.k) rfl rfl ?_;exact rfl) ?_)))
 refine qV (zab (place22C om (placeC x.k)) rfl rfl rfl ?_)
 refine o_d 1 [(211,iv sx)] ?_
 obtain ⟨m33,hm33⟩: ∃z9,zbq m23 22 2 sx=z9:=⟨_,rfl⟩
 have hm33l:m33.length=m23.length:=by rw [←hm33,zX]
 refine qV (zaD [3] [zG (some (0,(24+x.da.length))) (u8 m23) true] [zS (some (0,(24+x.da.length))) 0 m23.length,iv 22,iv 2,iv sx] (zcb (some (0,(24+x.da.length))) m23 m23 (RowOf.whole rfl om) 22 2 sx lA lA lA) rfl (zQ (zam rfl lA) (zQ rfl (zQ rfl (zQ rfl rfl)))) ⟨⟨_,rfl,z4 (zH _) rfl (fun q=>rfl)⟩,trivial⟩ dC ?_)
 rintro v1 h1' ⟨rfl,rfl⟩
 refine ⟨(fun i q=>zcC q),.tuple #[],[zG qp (u8 Lo) false,zG qd (u8 Ld) false,cw (Wf x qp qd),zG (some (0,(24+x.da.length))) (u8 m33) true,cw (u8 (zbW m23)++zaj zB c24)],[],(by simp [zaF]),⟨rfl,rfl,rfl,(zcz hm33),rfl,trivial⟩,trivial, ?_⟩
 refine zE (zA (zJ (zN (o_d 3 [(3,iv 0),(2,zS (some (0,(24+x.da.length))) 3 (24+x.da.length)),(213,zS (some (0,(24+x.da.length))) 3 (24+x.da.length))] (zE (zA (qW ?_)))))))
 have he:bld x=m33:=by unfold bld;rw [hB,zgQ,if_neg om,←hsx];exact hm33
 have hlen:m33.length=(24+x.da.length):=om
 exact ⟨trivial,[zS (some (0,(24+x.da.length))) 3 (24+x.da.length),iv 0],(zT rfl (zT rfl rfl)),(zM rfl (zM rfl z5)),⟨reg [],[zG qp (u8 Lo) false,zG qd (u8 Ld) false,zG (some (0,(24+x.da.length))) (u8 m33) true]⟩,[0,1,3],[zS (some (0,(24+x.da.length))) 2 (24+x.da.length),iv 0],WkR.of (rs:= []) rfl rfl dC trivial ⟨.inl (zF (zH _)),.inl (zF (zH _)),.inl (zF (zH _)),trivial⟩,rfl,(by rw [he,hlen];rfl),(by rw [he,hlen])⟩
abbrev xY (a:List Int) (b:Pk):=((a.set 20 b.fl).set 21 ((b.op.length:Nat):Int))
theorem Build1C {P:Program} [PrC P] (qp qd:Option (Nat×Nat)) (Lo Ld:List Int) (x:Pk) (hro:RowOf qp Lo x.op) (hrd:RowOf qd Ld x.da) (B:BOk x) (hk:x.k=1):
    Env P "roundhouse/roundhouseref3.Build" [pkV x qp 0 qd 1] ([zG qp (u8 Lo) false,zG qd (u8 Ld) false]) (fun v h'=>v= .tuple #[zS (some (0,(bld x).length)) 2 (bld x).length,iv 0]∧h'= [zG qp (u8 Lo) false,zG qd (u8 Ld) false,zG (some (0,(bld x).length)) (u8 (bld x)) true]):=by
 refine Env.by4 PrC.ref3_Build ?_
 unfold zff
 show GC _ 2 _ _ ⟨reg [(0,pkV x qp 0 qd 1)],[zG qp (u8 Lo) false,zG qd (u8 Ld) false]⟩
 have b1:=B.li
 have b2:=B.pi
 have b3:=B.fr
 have b4:=B.t
 have b5:=B.co
 have b6:=B.fp
 have b7:=B.fl
 have b8_:=B.la
 have b9:=B.op
 have b10:=B.da
 have b11:=B.n
 have hl40:x.op.length≤100000∧x.da.length≤100000:=om
 refine zJ (zN (o_b 3 [(3,iv 0),(2,.slice none 0 0),(1,pv 2 0)] [zG qp (u8 Lo) false,zG qd (u8 Ld) false,cw (Wf x qp qd)] (zE (zA (zJ (zJ (zN (o_d 1 [(10,pv 2 0)] (o_s (by refine zV (v:=iv x.k) rfl rfl ?_;exact rfl) ?_)))))))))
 refine o_d 2 [(13,bv (decide (x.k < 1))),(12,bv (decide (x.k < 1)))] (zbJ (b:=decide (x.k < 1)) 13 rfl (fun q=>by rw [(by exact decide_eq_false om:(decide (x.k < 1))=false)] at q;cases q) (fun k1=>?_))
 refine o_d 1 [(14,pv 2 0)] (qB rfl (o_s (by refine zV (v:=iv x.k) rfl rfl ?_;exact rfl) ?_))
 refine o_d 2 [(17,bv (decide (x.k > 3))),(16,bv (decide (x.k > 3)))] (zE (zA (qJ (t:=decide (x.k > 3)) rfl (fun q=>by rw [(by exact decide_eq_false om:(decide (x.k > 3))=false)] at q;cases q) (fun _=>?_))))
 refine qK (zA (zJ (zbe [] (r_d 1 [(18,pv 2 0)] (r_s (by refine zV (v:=iv x.k) rfl rfl ?_;exact rfl) ?_)))))
 refine r_d 2 [(21,pv 2 0),(20,bv (x.k==1))] (r_s (by refine zV (v:=iv x.k) rfl rfl ?_;exact rfl) ?_)
 refine r_d 2 [(24,pv 2 0),(23,bv (x.k==2))] (r_s (by refine zV (v:=iv x.k) rfl rfl ?_;exact rfl) ?_)
 refine r_d 4 [(6,bv (x.k==3)),(5,bv (x.k==2)),(4,bv (x.k==1)),(26,bv (x.k==3))] (za3 (zU [(6,bv (x.k==3)),(5,bv (x.k==2)),(4,bv (x.k==1)),(1,pv 2 0)] (zJ (zJ (zN (o_d 1 [(27,pv 2 1)] (o_s (by refine zV (v:=iv x.li) rfl rfl ?_;exact rfl) ?_)))))))
 refine qV (zab (zdK x.li 255) rfl rfl rfl (o_d 1 [(30,bv (decide (x.li < 0) || decide (x.li > 255)))] (zbJ (b:=decide (x.li < 0) || decide (x.li > 255)) 30 rfl (fun q=>by rw [(by simp;omega:(decide (x.li < 0) || decide (x.li > 255))=false)] at q;cases q) (fun k2=>?_))))
 refine o_d 1 [(31,pv 2 2)] (qB rfl (o_s (by refine zV (v:=iv x.pi) rfl rfl ?_;exact rfl) ?_))
 refine qB rfl (qV (zab (zdK x.pi 255) rfl rfl rfl (o_d 2 [(35,bv (decide (x.pi < 0) || decide (x.pi > 255))),(34,bv (decide (x.pi < 0) || decide (x.pi > 255)))] (zbJ (b:=decide (x.pi < 0) || decide (x.pi > 255)) 35 rfl (fun q=>by rw [(by simp;omega:(decide (x.pi < 0) || decide (x.pi > 255))=false)] at q;cases q) (fun k3=>?_)))))
 refine o_d 2 [(37,bv (x.k==3)),(36,bv (x.k==3))] (zbJ (b:=x.k==3) 37 rfl (fun q=>by rw [(by rw [hk];rfl:(x.k==3)=false)] at q;cases q) (fun k4=>?_))
 refine o_d 7 ((44,pv 2 3)::(43,bv false)::(We 42 41 40 39 38)) (qB rfl (o_s (by refine zV (v:=iv x.fr) rfl rfl ?_;exact rfl) ?_))
 refine qB rfl (qV (zab (zdK x.fr 4294967295) rfl rfl rfl (o_d 2 [(48,bv (decide (x.fr < 0) || decide (x.fr > 4294967295))),(47,bv (decide (x.fr < 0) || decide (x.fr > 4294967295)))] (zbJ (b:=decide (x.fr < 0) || decide (x.fr > 4294967295)) 48 rfl (fun q=>by rw [(by simp;omega:(decide (x.fr < 0) || decide (x.fr > 4294967295))=false)] at q;cases q) (fun k5=>?_)))))
 refine o_d 1 [(49,pv 2 4)] (qB rfl (o_s (by refine zV (v:=iv x.t) rfl rfl ?_;exact rfl) ?_))
 refine qB rfl (qV (zab (zdK x.t 4294967295) rfl rfl rfl (o_d 2 [(53,bv (decide (x.t < 0) || decide (x.t > 4294967295))),(52,bv (decide (x.t < 0) || decide (x.t > 4294967295)))] (zbJ (b:=decide (x.t < 0) || decide (x.t > 4294967295)) 53 rfl (fun q=>by rw [(by simp;omega:(decide (x.t < 0) || decide (x.t > 4294967295))=false)] at q;cases q) (fun k6=>?_)))))
 refine o_d 3 [(56,bv (!(x.k==3))),(55,bv (!(x.k==3))),(54,bv (x.k==3))] (zbJ (b:= !(x.k==3)) 56 rfl (fun k7=>?_) (fun q=>by rw [(by rw [(by rw [hk];rfl:(x.k==3)=false)];rfl:(!(x.k==3))=true)] at q;cases q))
 refine o_d 1 [(57,pv 2 5)] (qB rfl (o_s (by refine zV (v:=iv x.fp) rfl rfl ?_;exact rfl) ?_))
 refine qB rfl (qV (zab (zdK x.fp 65535) rfl rfl rfl (o_d 1 [(60,bv (decide (x.fp < 0) || decide (x.fp > 65535)))] (zbJ (b:=decide (x.fp < 0) || decide (x.fp > 65535)) 60 rfl (fun q=>by rw [(by simp;omega:(decide (x.fp < 0) || decide (x.fp > 65535))=false)] at q;cases q) (fun k8=>?_)))))
 refine o_d 1 [(61,pv 2 6)] (qB rfl (o_s (by refine zV (v:=iv x.tp) rfl rfl ?_;exact rfl) ?_))
 refine qB rfl (qV (zab (zdK x.tp 65535) rfl rfl rfl (o_d 4 [(67,bv (decide (x.tp < 0) || decide (x.tp > 65535))),(66,bv (decide (x.tp < 0) || decide (x.tp > 65535))),(65,bv (decide (x.tp < 0) || decide (x.tp > 65535))),(64,bv (decide (x.tp < 0) || decide (x.tp > 65535)))] (zbJ (b:=decide (x.tp < 0) || decide (x.tp > 65535)) 67 rfl (fun q=>by rw [(by simp;omega:(decide (x.tp < 0) || decide (x.tp > 65535))=false)] at q;cases q) (fun k9=>?_)))))
 refine o_d 2 [(69,bv (x.k==1)),(68,bv (x.k==1))] (zbJ (b:=x.k==1) 69 rfl (fun k10=>?_) (fun q=>by rw [(by rw [hk];rfl:(x.k==1)=true)] at q;cases q))
 refine o_d 1 [(70,pv 2 7)] (qB rfl (o_s (by refine zV (v:=iv x.fl) rfl rfl ?_;exact rfl) ?_))
 refine qB rfl (qV (zab (zdK x.fl 15) rfl rfl rfl (o_d 3 [(75,bv (decide (x.fl < 0) || decide (x.fl > 15))),(74,bv (decide (x.fl < 0) || decide (x.fl > 15))),(73,bv (decide (x.fl < 0) || decide (x.fl > 15)))] (zbJ (b:=decide (x.fl < 0) || decide (x.fl > 15)) 75 rfl (fun q=>by rw [(by simp;omega:(decide (x.fl < 0) || decide (x.fl > 15))=false)] at q;cases q) (fun k11=>?_)))))
 refine o_d 2 [(77,bv (x.k==2)),(76,bv (x.k==2))] (zbJ (b:=x.k==2) 77 rfl (fun q=>by rw [(by rw [hk];rfl:(x.k==2)=false)] at q;cases q) (fun k12=>?_))
 refine o_d 5 (We 82 81 80 79 78) (zE (zU [(82,bv false),(6,bv (x.k==3)),(5,bv (x.k==2)),(4,bv (x.k==1)),(1,pv 2 0)] (zbc rfl (qK (zA (zJ (zJ (zN (o_d 2 [(84,bv (x.k==1)),(83,bv (x.k==1))] (zbJ (b:=x.k==1) 84 rfl (fun k13=>?_) (fun q=>by rw [(by rw [hk];rfl:(x.k==1)=true)] at q;cases q)))))))))))
 refine o_d 1 [(85,pv 2 11)] (qB rfl (o_s (by refine zV (v:=zS qp 0 x.op.length) rfl rfl ?_;exact rfl) ?_))
 refine qB rfl (o_s (by exact qM rfl hro.nil) ?_)
 refine o_d 2 [(89,bv (decide (((x.op.length:Nat):Int) > 40))),(88,bv (decide (((x.op.length:Nat):Int) > 40)))] (zE (zA (qJ (t:=decide (((x.op.length:Nat):Int) > 40)) rfl (fun q=>by rw [(by exact decide_eq_false om:(decide (((x.op.length:Nat):Int) > 40))=false)] at q;cases q) (fun _=>?_))))
 refine qK (zA (zJ (zN (o_d 1 [(90,pv 2 12)] (o_s (by refine zV (v:=zS qd 1 x.da.length) rfl rfl ?_;exact rfl) ?_)))))
 refine o_s (by exact qM rfl hrd.nil) ?_
 refine o_s (by refine zK (v:= .int .i64 (i64.wrap (24+(x.da.length:Nat)))) (congrArg wg (w64 lA lA)) ?_;kernel_rfl) ?_
 refine o_d 1 [(7,iv (24+(x.da.length:Nat)))] (zE (zA (zJ (zJ (zN (o_d 1 [(94,bv (x.k==1))] (zE (zA (qJ (t:=x.k==1) rfl (fun _=>?_) (fun q=>by rw [(by rw [hk];rfl:(x.k==1)=true)] at q;cases q))))))))))
 refine zN (o_d 2 [(96,pv 2 11),(95,iv (24+(x.da.length:Nat)))] (o_s (by refine zV (v:=zS qp 0 x.op.length) rfl rfl ?_;exact rfl) ?_))
 refine o_s (by exact qM rfl hro.nil) ?_
 refine o_s (by refine zK (v:= .int .i64 (i64.wrap (24+(x.da.length:Nat)+(x.op.length:Nat)))) (congrArg wg (w64 lA lA)) ?_;kernel_rfl) ?_
 refine o_d 1 [(7,iv (24+(x.da.length:Nat)+(x.op.length:Nat)))] (zE (zU [(7,iv (24+(x.da.length:Nat)+(x.op.length:Nat))),(6,bv (x.k==3)),(5,bv (x.k==2)),(1,pv 2 0)] (zJ (zJ (zN (o_d 1 [(100,bv (x.k==3))] (zE (zA (qJ (t:=x.k==3) rfl (fun q=>by rw [(by rw [hk];rfl:(x.k==3)=false)] at q;cases q) (fun _=>?_))))))))))
 refine qK (zA (zJ (zJ (zN (o_d 2 [(106,bv (x.k==3)),(105,bv (x.k==3))] (zbJ (b:=x.k==3) 106 rfl (fun q=>by rw [(by rw [hk];rfl:(x.k==3)=false)] at q;cases q) (fun k14=>?_)))))))
 refine o_d 9 ((115,bv (decide ((24+(x.da.length:Nat)+(x.op.length:Nat):Int) > 1500)))::(114,bv (decide ((24+(x.da.length:Nat)+(x.op.length:Nat):Int) > 1500)))::(113,iv (24+(x.da.length:Nat)+(x.op.length:Nat)))::(112,bv false)::(111,bv false)::(vG 110 109 108 107)) (zE (zA (qJ (t:=decide ((24+(x.da.length:Nat)+(x.op.length:Nat):Int) > 1500)) rfl (fun q=>by rw [(by exact decide_eq_false om:(decide ((24+(x.da.length:Nat)+(x.op.length:Nat):Int) > 1500))=false)] at q;cases q) (fun _=>?_))))
 refine qK (zA (zJ (zN (o_d 1 [(116,iv (24+(x.da.length:Nat)+(x.op.length:Nat)))] (o_s (by exact run_mksR (a:=16) (n:=24+x.da.length+x.op.length) (r:=24+x.da.length+x.op.length - 16) rfl rfl om om) ?_)))))
 refine o_b 1 [(8,sv 3 0 16 (16+(24+x.da.length+x.op.length - 16)))] [zG qp (u8 Lo) false,zG qd (u8 Ld) false,cw (Wf x qp qd),cw (u8 (List.replicate 16 0)++zaj zB (24+x.da.length+x.op.length - 16))] (zE (zA (zJ (zeE [zG qp (u8 Lo) false,zG qd (u8 Ld) false,cw (Wf x qp qd),cw (u8 (List.replicate 16 0)++zaj zB (24+x.da.length+x.op.length - 16))] (by kernel_rfl) (d_n 4 4 4 [(121,pv 2 0),(120,sv 3 0 16 (16+(24+x.da.length+x.op.length - 16))),(119,sv 3 0 16 (16+(24+x.da.length+x.op.length - 16))),(118,sv 3 0 16 (16+(24+x.da.length+x.op.length - 16)))] [zG qp (u8 Lo) false,zG qd (u8 Ld) false,cw (Wf x qp qd),cw (u8 (List.replicate 16 0)++zaj zB (24+x.da.length+x.op.length - 16))] [] (by kernel_rfl) rfl rfl (d_s rfl rfl rfl (by kernel_rfl) (by refine zV (v:=iv x.k) rfl rfl ?_;exact rfl) ?_))))))
 refine d_n 2 7 4 [(124,pv 2 1),(123,.int .u8 (x.k % 256))] [zG qp (u8 Lo) false,zG qd (u8 Ld) false,cw (Wf x qp qd),cw (u8 (List.replicate 16 0)++zaj zB (24+x.da.length+x.op.length - 16))] [⟨4,[2],[],none⟩] (by kernel_rfl) rfl rfl (d_s rfl rfl rfl (by kernel_rfl) (by refine zV (v:=iv x.li) rfl rfl ?_;exact rfl) ?_)
 refine d_n 2 10 4 [(127,pv 2 2),(126,.int .u8 (x.li % 256))] [zG qp (u8 Lo) false,zG qd (u8 Ld) false,cw (Wf x qp qd),cw (u8 (List.replicate 16 0)++zaj zB (24+x.da.length+x.op.length - 16))] [⟨7,[2],[],none⟩,⟨4,[2],[],none⟩] (by kernel_rfl) rfl rfl (d_s rfl rfl rfl (by kernel_rfl) (by refine zV (v:=iv x.pi) rfl rfl ?_;exact rfl) ?_)
 refine d_n 2 13 4 [(130,pv 3 0),(129,.int .u8 (x.pi % 256))] [zG qp (u8 Lo) false,zG qd (u8 Ld) false,cw (Wf x qp qd),cw (u8 (List.replicate 16 0)++zaj zB (24+x.da.length+x.op.length - 16))] [⟨10,[2],[],none⟩,⟨7,[2],[],none⟩,⟨4,[2],[],none⟩] (by kernel_rfl) rfl rfl (d_s0 rfl rfl ⟨_,_,_,rfl⟩ (by kernel_rfl) (by refine zao (c':=u8 ((List.replicate 16 0).set 0 x.k)++zaj zB (24+x.da.length+x.op.length - 16)) rfl rfl rfl ?_ ?_ ?_;exact rfl;exact (by simp only [List.length_append,qL];first | omega | (simp only [List.length_set,List.length_replicate,List.length_append];omega) | (simp;done) | (simp;omega));exact zeQ (l:=List.replicate 16 0) (x:=x.k) lA rfl) ?_)
 refine d_n 1 15 4 [(131,pv 3 1)] [zG qp (u8 Lo) false,zG qd (u8 Ld) false,cw (Wf x qp qd),cw (u8 ((List.replicate 16 0).set 0 x.k)++zaj zB (24+x.da.length+x.op.length - 16))] [⟨13,[3],[3],none⟩,⟨10,[2],[],none⟩,⟨7,[2],[],none⟩,⟨4,[2],[],none⟩] (by kernel_rfl) rfl rfl (d_s0 rfl rfl ⟨_,_,_,rfl⟩ (by kernel_rfl) (by refine zao (c':=u8 (((List.replicate 16 0).set 0 x.k).set 1 x.li)++zaj zB (24+x.da.length+x.op.length - 16)) rfl rfl rfl ?_ ?_ ?_;exact rfl;exact (by simp only [List.length_append,qL];first | omega | (simp only [List.length_set,List.length_replicate,List.length_append];omega) | (simp;done) | (simp;omega));exact zeQ (l:=(List.replicate 16 0).set 0 x.k) (x:=x.li) lA rfl) ?_)
 refine d_n 1 17 4 [(132,pv 3 12)] [zG qp (u8 Lo) false,zG qd (u8 Ld) false,cw (Wf x qp qd),cw (u8 (((List.replicate 16 0).set 0 x.k).set 1 x.li)++zaj zB (24+x.da.length+x.op.length - 16))] [⟨15,[3],[3],none⟩,⟨13,[3],[3],none⟩,⟨10,[2],[],none⟩,⟨7,[2],[],none⟩,⟨4,[2],[],none⟩] (by kernel_rfl) rfl rfl (d_s0 rfl rfl ⟨_,_,_,rfl⟩ (by kernel_rfl) (by refine zao (c':=u8 ((((List.replicate 16 0).set 0 x.k).set 1 x.li).set 12 x.pi)++zaj zB (24+x.da.length+x.op.length - 16)) rfl rfl rfl ?_ ?_ ?_;exact rfl;exact (by simp only [List.length_append,qL];first | omega | (simp only [List.length_set,List.length_replicate,List.length_append];omega) | (simp;done) | (simp;omega));exact zeQ (l:=((List.replicate 16 0).set 0 x.k).set 1 x.li) (x:=x.pi) lA rfl) ?_)
 refine zgp (zU [(8,sv 3 0 16 (16+(24+x.da.length+x.op.length - 16))),(7,iv (24+(x.da.length:Nat)+(x.op.length:Nat))),(6,bv (x.k==3)),(5,bv (x.k==2)),(1,pv 2 0)] (zJ (zN (o_d 2 [(134,iv (24+(x.da.length:Nat)+(x.op.length:Nat))),(133,sv 3 0 16 (16+(24+x.da.length+x.op.length - 16)))] ?_))))
 obtain ⟨m15,hm15⟩: ∃z9,zbq ((((List.replicate 16 0).set 0 x.k).set 1 x.li).set 12 x.pi) 2 2 (24+(x.da.length:Nat)+(x.op.length:Nat))=z9:=⟨_,rfl⟩
 have hm15l:m15.length=((((List.replicate 16 0).set 0 x.k).set 1 x.li).set 12 x.pi).length:=by rw [←hm15,zX]
 have hm15n:m15.length=16:=by rw [hm15l]<;>exact lA
 refine qV (zct [3] [zG (some (0,16+(24+x.da.length+x.op.length - 16))) (u8 (((((List.replicate 16 0).set 0 x.k).set 1 x.li).set 12 x.pi)++List.replicate (24+x.da.length+x.op.length - 16) 0)) true] [zS (some (0,16+(24+x.da.length+x.op.length - 16))) 0 (((((List.replicate 16 0).set 0 x.k).set 1 x.li).set 12 x.pi).length),iv 2,iv 2,iv (24+(x.da.length:Nat)+(x.op.length:Nat))] (zcb (some (0,16+(24+x.da.length+x.op.length - 16))) (((((List.replicate 16 0).set 0 x.k).set 1 x.li).set 12 x.pi)++List.replicate (24+x.da.length+x.op.length - 16) 0) ((((List.replicate 16 0).set 0 x.k).set 1 x.li).set 12 x.pi) (zcI (l:=(((List.replicate 16 0).set 0 x.k).set 1 x.li).set 12 x.pi) (n:=16) (r:=(24+x.da.length+x.op.length - 16)) lA) 2 2 (24+(x.da.length:Nat)+(x.op.length:Nat)) lA lA lA) rfl (zQ (zam rfl lA) (zQ rfl (zQ rfl (zQ rfl rfl)))) ⟨⟨_,rfl,zaY⟩,trivial⟩ dC ?_)
 rintro v1 h1' ⟨rfl,rfl⟩
 refine ⟨.tuple #[],[zG qp (u8 Lo) false,zG qd (u8 Ld) false,cw (Wf x qp qd),cw (u8 m15++zaj zB (24+x.da.length+x.op.length - 16))],[],(by simp [zaF]),⟨rfl,rfl,rfl,(zb6 hm15 lA),trivial⟩,trivial, ?_⟩
 refine zE (zA (zJ (zN (o_d 2 [(137,pv 2 3),(136,sv 3 0 16 (16+(24+x.da.length+x.op.length - 16)))] (o_s (by refine zV (v:=iv x.fr) rfl rfl ?_;exact rfl) ?_)))))
 obtain ⟨m16,hm16⟩: ∃z9,zbq m15 4 4 x.fr=z9:=⟨_,rfl⟩
 have hm16l:m16.length=m15.length:=by rw [←hm16,zX]
 have hm16n:m16.length=16:=by rw [hm16l]<;>exact lA
 refine qV (zct [3] [zG (some (0,16+(24+x.da.length+x.op.length - 16))) (u8 (m15++List.replicate (24+x.da.length+x.op.length - 16) 0)) true] [zS (some (0,16+(24+x.da.length+x.op.length - 16))) 0 m15.length,iv 4,iv 4,iv x.fr] (zcb (some (0,16+(24+x.da.length+x.op.length - 16))) (m15++List.replicate (24+x.da.length+x.op.length - 16) 0) m15 (zcI (l:=m15) (n:=16) (r:=(24+x.da.length+x.op.length - 16)) lA) 4 4 x.fr lA lA lA) rfl (zQ (zam rfl lA) (zQ rfl (zQ rfl (zQ rfl rfl)))) ⟨⟨_,rfl,zaY⟩,trivial⟩ dC ?_)
 rintro v1 h1' ⟨rfl,rfl⟩
 refine ⟨.tuple #[],[zG qp (u8 Lo) false,zG qd (u8 Ld) false,cw (Wf x qp qd),cw (u8 m16++zaj zB (24+x.da.length+x.op.length - 16))],[],(by simp [zaF]),⟨rfl,rfl,rfl,(zb6 hm16 lA),trivial⟩,trivial, ?_⟩
 refine zE (zA (zJ (zN (o_d 2 [(141,pv 2 4),(140,sv 3 0 16 (16+(24+x.da.length+x.op.length - 16)))] (o_s (by refine zV (v:=iv x.t) rfl rfl ?_;exact rfl) ?_)))))
 obtain ⟨m17,hm17⟩: ∃z9,zbq m16 8 4 x.t=z9:=⟨_,rfl⟩
 have hm17l:m17.length=m16.length:=by rw [←hm17,zX]
 have hm17n:m17.length=16:=by rw [hm17l]<;>exact lA
 refine qV (zct [3] [zG (some (0,16+(24+x.da.length+x.op.length - 16))) (u8 (m16++List.replicate (24+x.da.length+x.op.length - 16) 0)) true] [zS (some (0,16+(24+x.da.length+x.op.length - 16))) 0 m16.length,iv 8,iv 4,iv x.t] (zcb (some (0,16+(24+x.da.length+x.op.length - 16))) (m16++List.replicate (24+x.da.length+x.op.length - 16) 0) m16 (zcI (l:=m16) (n:=16) (r:=(24+x.da.length+x.op.length - 16)) lA) 8 4 x.t lA lA lA) rfl (zQ (zam rfl lA) (zQ rfl (zQ rfl (zQ rfl rfl)))) ⟨⟨_,rfl,zaY⟩,trivial⟩ dC ?_)
 rintro v1 h1' ⟨rfl,rfl⟩
 refine ⟨.tuple #[],[zG qp (u8 Lo) false,zG qd (u8 Ld) false,cw (Wf x qp qd),cw (u8 m17++zaj zB (24+x.da.length+x.op.length - 16))],[],(by simp [zaF]),⟨rfl,rfl,rfl,(zb6 hm17 lA),trivial⟩,trivial, ?_⟩
 refine zE (zA (zJ (zN (o_d 2 [(145,sv 3 0 16 (16+(24+x.da.length+x.op.length - 16))),(144,sv 3 0 16 (16+(24+x.da.length+x.op.length - 16)))] (qV (zdD (a1:= [zS (some (0,16+(24+x.da.length+x.op.length - 16))) 0 m17.length]) [3] [u8 (m17++List.replicate (24+x.da.length+x.op.length - 16) 0)] (refOf1C (some (0,16+(24+x.da.length+x.op.length - 16))) (m17++List.replicate (24+x.da.length+x.op.length - 16) 0) m17 (zcI (l:=m17) (n:=16) (r:=(24+x.da.length+x.op.length - 16)) lA) lA) rfl (fun _=>zQ (zam rfl lA) rfl) ⟨⟨_,congrArg some (zcS _ _)⟩,zH _,trivial⟩ rfl ?_))))))
 have hy18:=zhB m17
 obtain ⟨m19,hm19⟩: ∃z9,zbq m17 14 2 (65535 - zbY m17)=z9:=⟨_,rfl⟩
 have hm19l:m19.length=m17.length:=by rw [←hm19,zX]
 have hm19n:m19.length=16:=by rw [hm19l]<;>exact lA
 refine qV (zct [3] [zG (some (0,16+(24+x.da.length+x.op.length - 16))) (u8 (m17++List.replicate (24+x.da.length+x.op.length - 16) 0)) true] [zS (some (0,16+(24+x.da.length+x.op.length - 16))) 0 m17.length,iv 14,iv 2,iv (65535 - zbY m17)] (zcb (some (0,16+(24+x.da.length+x.op.length - 16))) (m17++List.replicate (24+x.da.length+x.op.length - 16) 0) m17 (zcI (l:=m17) (n:=16) (r:=(24+x.da.length+x.op.length - 16)) lA) 14 2 (65535 - zbY m17) lA lA lA) rfl (zQ (zam rfl lA) (zQ rfl (zQ rfl (zQ rfl rfl)))) ⟨⟨_,rfl,zaY⟩,trivial⟩ dC ?_)
 rintro v1 h1' ⟨rfl,rfl⟩
 refine ⟨.tuple #[],[zG qp (u8 Lo) false,zG qd (u8 Ld) false,cw (Wf x qp qd),cw (u8 m19++zaj zB (24+x.da.length+x.op.length - 16))],[],(by simp [zaF]),⟨rfl,rfl,rfl,(zb6 hm19 lA),trivial⟩,trivial, ?_⟩
 refine zE (zA (zJ (qU (zJ (zN (o_d 2 [(164,bv (x.k==3)),(165,bv (x.k==3))] (zE (zA (qJ (t:=x.k==3) rfl (fun q=>by rw [(by rw [hk];rfl:(x.k==3)=false)] at q;cases q) (fun _=>?_))))))))))
 refine zJ (zN (o_d 2 [(172,bv (x.k==2)),(173,bv (x.k==2))] (zE (zA (qJ (t:=x.k==2) rfl (fun q=>by rw [(by rw [hk];rfl:(x.k==2)=false)] at q;cases q) (fun _=>?_))))))
 refine zf2 (fun s=> ∃(b8:List Int),0=0∧(m19++List.replicate 8 (0:Int)++x.op=b8)∧s=⟨reg [(8,sv 3 0 (16+8+x.op.length) (16+8+x.op.length+(((24+x.da.length+x.op.length - 16) - 8) - x.op.length))),(6,bv (x.k==3)),(5,bv (x.k==2)),(1,pv 2 0)],[zG qp (u8 Lo) false,zG qd (u8 Ld) false,cw (Wf x qp qd),cw (u8 b8++zaj zB (((24+x.da.length+x.op.length - 16) - 8) - x.op.length))]⟩) ?_ ?_
 ·skip
  refine zeE [zG qp (u8 Lo) false,zG qd (u8 Ld) false,cw (Wf x qp qd),cw (u8 m19++zaj zB (24+x.da.length+x.op.length - 16)),.gone,.gone] (by kernel_rfl) (d_n 1 1 4 [(148,sv 3 0 16 (16+(24+x.da.length+x.op.length - 16)))] [zG qp (u8 Lo) false,zG qd (u8 Ld) false,cw (Wf x qp qd),cw (u8 m19++zaj zB (24+x.da.length+x.op.length - 16)),.gone,.gone] [] (by kernel_rfl) rfl rfl ?_)
  obtain ⟨m20,hm20⟩: ∃z9,m19++List.replicate 8 (0:Int)=z9:=⟨_,rfl⟩
  have hm20l:m20.length=16+8:=by rw [←hm20,List.length_append]<;>exact lA
  refine d_appF (q:=8) (r:=(24+x.da.length+x.op.length - 16)) (r2:=((24+x.da.length+x.op.length - 16) - 8)) (n:=16) (k:=3) (cs:=u8 m19) (xs:=u8 (List.replicate 8 (0:Int))) (cs2:=u8 m20) (zl:=zB) rfl rfl om rfl (by rw [qL]<;>exact lA) rfl (by kernel_rfl) (by kernel_rfl) (by rw [qL]<;>exact lA) (by rw [zcG,hm20]) rfl dC (by kernel_rfl) ?_
  refine d_n 1 3 5 [(150,pv 2 11)] [zG qp (u8 Lo) false,zG qd (u8 Ld) false,cw (Wf x qp qd),cw (u8 m20++zaj zB ((24+x.da.length+x.op.length - 16) - 8)),.gone,.gone] [⟨1,[3],[3],none⟩] (by kernel_rfl) rfl rfl (d_s rfl rfl rfl (by kernel_rfl) (by refine zV (v:=zS qp 0 x.op.length) rfl rfl ?_;exact rfl) ?_)
  obtain ⟨m21,hm21⟩: ∃z9,m20++x.op=z9:=⟨_,rfl⟩
  have hm21l:m21.length=16+8+x.op.length:=by rw [←hm21,List.length_append]<;>exact lA
  rcases Nat.eq_zero_or_pos x.op.length with z22 | z22
  ·skip
   refine d_appF0 (q:=x.op.length) (r:=((24+x.da.length+x.op.length - 16) - 8)) (r2:=(((24+x.da.length+x.op.length - 16) - 8) - x.op.length)) (n:=16+8) (k:=3) (cs:=u8 m20) (xs:=u8 x.op) (cs2:=u8 m21) (zl:=zB) rfl rfl om rfl (by rw [qL]<;>exact lA) rfl (zc2 _ _ _ hro.nil) (zcX rfl rfl hro) (by rw [qL]<;>exact lA) (by rw [zcG,hm21]) rfl z22 (by kernel_rfl) ?_
   refine d_n 1 6 6 [(8,sv 3 0 (16+8+x.op.length) (16+8+x.op.length+(((24+x.da.length+x.op.length - 16) - 8) - x.op.length)))] [zG qp (u8 Lo) false,zG qd (u8 Ld) false,cw (Wf x qp qd),cw (u8 m21++zaj zB (((24+x.da.length+x.op.length - 16) - 8) - x.op.length)),.gone,.gone] [⟨4,(rdE (.appR [(1,.int .u8 0)] 1 1 (.t 149) (.t 151)) (evf (reg [(151,zS qp 0 x.op.length),(150,pv 2 11),(149,sv 3 0 (16+8) (16+8+((24+x.da.length+x.op.length - 16) - 8))),(148,sv 3 0 16 (16+(24+x.da.length+x.op.length - 16))),(172,bv (x.k==2)),(173,bv (x.k==2)),(164,bv (x.k==3)),(165,bv (x.k==3)),(147,.tuple #[]),(146,iv (65535 - zbY m17)),(145,sv 3 0 16 (16+(24+x.da.length+x.op.length - 16))),(144,sv 3 0 16 (16+(24+x.da.length+x.op.length - 16))),(143,.tuple #[]),(142,iv x.t),(141,pv 2 4),(140,sv 3 0 16 (16+(24+x.da.length+x.op.length - 16))),(139,.tuple #[]),(138,iv x.fr),(137,pv 2 3),(136,sv 3 0 16 (16+(24+x.da.length+x.op.length - 16))),(135,.tuple #[]),(134,iv (24+(x.da.length:Nat)+(x.op.length:Nat))),(133,sv 3 0 16 (16+(24+x.da.length+x.op.length - 16))),(8,sv 3 0 16 (16+(24+x.da.length+x.op.length - 16))),(7,iv (24+(x.da.length:Nat)+(x.op.length:Nat))),(6,bv (x.k==3)),(5,bv (x.k==2)),(1,pv 2 0)]))),[],none⟩,⟨3,[2],[],none⟩,⟨1,[3],[3],none⟩] (by kernel_rfl) rfl rfl (zgp (⟨⟨reg [(8,sv 3 0 (16+8+x.op.length) (16+8+x.op.length+(((24+x.da.length+x.op.length - 16) - 8) - x.op.length))),(6,bv (x.k==3)),(5,bv (x.k==2)),(1,pv 2 0)],[zG qp (u8 Lo) false,zG qd (u8 Ld) false,cw (Wf x qp qd),cw (u8 m21++zaj zB (((24+x.da.length+x.op.length - 16) - 8) - x.op.length))]⟩, ?_⟩))
   refine ⟨?_, ?_⟩
   ·exact Wk.ren [0,1,2,3] rfl rfl dC ⟨rfl,rfl,rfl,rfl,trivial⟩ ⟨.inl (zF (zH _)),.inl (zF (zH _)),.inl (zcj rfl rfl),.inl (zL (za5 m21 (((24+x.da.length+x.op.length - 16) - 8) - x.op.length))),trivial⟩
   ·exact ⟨m21,rfl,(by rw [hm20,hm21]),rfl⟩
  ·skip
   refine d_appF (q:=x.op.length) (r:=((24+x.da.length+x.op.length - 16) - 8)) (r2:=(((24+x.da.length+x.op.length - 16) - 8) - x.op.length)) (n:=16+8) (k:=3) (cs:=u8 m20) (xs:=u8 x.op) (cs2:=u8 m21) (zl:=zB) rfl rfl om rfl (by rw [qL]<;>exact lA) rfl (zc2 _ _ _ hro.nil) (zcX rfl rfl hro) (by rw [qL]<;>exact lA) (by rw [zcG,hm21]) rfl z22 (by kernel_rfl) ?_
   refine d_n 1 6 6 [(8,sv 3 0 (16+8+x.op.length) (16+8+x.op.length+(((24+x.da.length+x.op.length - 16) - 8) - x.op.length)))] [zG qp (u8 Lo) false,zG qd (u8 Ld) false,cw (Wf x qp qd),cw (u8 m21++zaj zB (((24+x.da.length+x.op.length - 16) - 8) - x.op.length)),.gone,.gone] [⟨4,(rdE (.appR [(1,.int .u8 0)] 1 1 (.t 149) (.t 151)) (evf (reg [(151,zS qp 0 x.op.length),(150,pv 2 11),(149,sv 3 0 (16+8) (16+8+((24+x.da.length+x.op.length - 16) - 8))),(148,sv 3 0 16 (16+(24+x.da.length+x.op.length - 16))),(172,bv (x.k==2)),(173,bv (x.k==2)),(164,bv (x.k==3)),(165,bv (x.k==3)),(147,.tuple #[]),(146,iv (65535 - zbY m17)),(145,sv 3 0 16 (16+(24+x.da.length+x.op.length - 16))),(144,sv 3 0 16 (16+(24+x.da.length+x.op.length - 16))),(143,.tuple #[]),(142,iv x.t),(141,pv 2 4),(140,sv 3 0 16 (16+(24+x.da.length+x.op.length - 16))),(139,.tuple #[]),(138,iv x.fr),(137,pv 2 3),(136,sv 3 0 16 (16+(24+x.da.length+x.op.length - 16))),(135,.tuple #[]),(134,iv (24+(x.da.length:Nat)+(x.op.length:Nat))),(133,sv 3 0 16 (16+(24+x.da.length+x.op.length - 16))),(8,sv 3 0 16 (16+(24+x.da.length+x.op.length - 16))),(7,iv (24+(x.da.length:Nat)+(x.op.length:Nat))),(6,bv (x.k==3)),(5,bv (x.k==2)),(1,pv 2 0)]))),[3],none⟩,⟨3,[2],[],none⟩,⟨1,[3],[3],none⟩] (by kernel_rfl) rfl rfl (zgp (⟨⟨reg [(8,sv 3 0 (16+8+x.op.length) (16+8+x.op.length+(((24+x.da.length+x.op.length - 16) - 8) - x.op.length))),(6,bv (x.k==3)),(5,bv (x.k==2)),(1,pv 2 0)],[zG qp (u8 Lo) false,zG qd (u8 Ld) false,cw (Wf x qp qd),cw (u8 m21++zaj zB (((24+x.da.length+x.op.length - 16) - 8) - x.op.length))]⟩, ?_⟩))
   refine ⟨?_, ?_⟩
   ·exact Wk.ren [0,1,2,3] rfl rfl dC ⟨rfl,rfl,rfl,rfl,trivial⟩ ⟨.inl (zF (zH _)),.inl (zF (zH _)),.inl (zcj rfl rfl),.inl (zL (za5 m21 (((24+x.da.length+x.op.length - 16) - 8) - x.op.length))),trivial⟩
   ·exact ⟨m21,rfl,(by rw [hm20,hm21]),rfl⟩
 rintro s ⟨b8,-,hb8,rfl⟩
 have hb8n:b8.length=16+8+x.op.length:=by rw [←hb8,List.length_append,List.length_append,List.length_replicate]<;>omega
 refine zeE [zG qp (u8 Lo) false,zG qd (u8 Ld) false,cw (Wf x qp qd),cw (u8 b8++zaj zB (((24+x.da.length+x.op.length - 16) - 8) - x.op.length))] (by kernel_rfl) (d_n 3 3 4 [(155,pv 2 7),(154,sv 3 0 (16+8+x.op.length) (16+8+x.op.length+(((24+x.da.length+x.op.length - 16) - 8) - x.op.length))),(153,sv 3 0 (16+8+x.op.length) (16+8+x.op.length+(((24+x.da.length+x.op.length - 16) - 8) - x.op.length)))] [zG qp (u8 Lo) false,zG qd (u8 Ld) false,cw (Wf x qp qd),cw (u8 b8++zaj zB (((24+x.da.length+x.op.length - 16) - 8) - x.op.length))] [] (by kernel_rfl) rfl rfl (d_s rfl rfl rfl (by kernel_rfl) (by refine zV (v:=iv x.fl) rfl rfl ?_;exact rfl) ?_))
 refine d_n 2 6 4 [(158,pv 2 11),(157,.int .u8 (x.fl % 256))] [zG qp (u8 Lo) false,zG qd (u8 Ld) false,cw (Wf x qp qd),cw (u8 b8++zaj zB (((24+x.da.length+x.op.length - 16) - 8) - x.op.length))] [⟨3,[2],[],none⟩] (by kernel_rfl) rfl rfl (d_s rfl rfl rfl (by kernel_rfl) (by refine zV (v:=zS qp 0 x.op.length) rfl rfl ?_;exact rfl) ?_)
 refine d_s rfl rfl rfl (by kernel_rfl) (by exact qM rfl hro.nil) ?_
 refine d_n 1 9 4 [(161,.int .u8 (((x.op.length:Nat):Int) % 256))] [zG qp (u8 Lo) false,zG qd (u8 Ld) false,cw (Wf x qp qd),cw (u8 b8++zaj zB (((24+x.da.length+x.op.length - 16) - 8) - x.op.length))] [⟨6,[2],[],none⟩,⟨3,[2],[],none⟩] (by kernel_rfl) rfl rfl (d_s rfl rfl rfl (by kernel_rfl) (by exact zcU (o:=0) (o':=20) rfl rfl lA lA) ?_)
 refine d_s0 rfl rfl ⟨_,_,_,rfl⟩ (by kernel_rfl) (by refine zao (c':=u8 (b8.set 20 x.fl)++zaj zB (((24+x.da.length+x.op.length - 16) - 8) - x.op.length)) rfl rfl rfl ?_ ?_ ?_;exact rfl;exact (by simp only [List.length_append,qL];first | omega | (simp only [List.length_set,List.length_replicate,List.length_append];omega) | (simp;done) | (simp;omega));exact zeQ (l:=b8) (x:=x.fl) lA rfl) ?_
 refine d_s rfl rfl rfl (by kernel_rfl) (by exact zcU (o:=0) (o':=21) rfl rfl lA lA) ?_
 refine d_s0 rfl rfl ⟨_,_,_,rfl⟩ (by kernel_rfl) (by refine zao (c':=u8 (xY b8 x)++zaj zB (((24+x.da.length+x.op.length - 16) - 8) - x.op.length)) rfl rfl rfl ?_ ?_ ?_;exact rfl;exact (by simp only [List.length_append,qL];first | omega | (simp only [List.length_set,List.length_replicate,List.length_append];omega) | (simp;done) | (simp;omega));exact zeQ (l:=b8.set 20 x.fl) (x:=((x.op.length:Nat):Int)) lA rfl) ?_
 refine zgp (zA (zJ (zJ (zN (o_d 2 [(181,bv (!(x.k==3))),(180,bv (x.k==3))] (zE (zA (qJ (t:= !(x.k==3)) rfl (fun _=>?_) (fun q=>by rw [(by rw [(by rw [hk];rfl:(x.k==3)=false)];rfl:(!(x.k==3))=true)] at q;cases q)))))))))
 refine zJ (zN (o_d 2 [(183,pv 2 5),(182,sv 3 0 (16+8+x.op.length) (16+8+x.op.length+(((24+x.da.length+x.op.length - 16) - 8) - x.op.length)))] (o_s (by refine zV (v:=iv x.fp) rfl rfl ?_;exact rfl) ?_)))
 obtain ⟨m23,hm23⟩: ∃z9,zbq (xY b8 x) 16 2 x.fp=z9:=⟨_,rfl⟩
 have hm23l:m23.length=(xY b8 x).length:=by rw [←hm23,zX]
 have hm23n:m23.length=16+8+x.op.length:=by rw [hm23l]<;>exact lA
 refine qV (zct [3] [zG (some (0,16+8+x.op.length+(((24+x.da.length+x.op.length - 16) - 8) - x.op.length))) (u8 ((xY b8 x)++List.replicate (((24+x.da.length+x.op.length - 16) - 8) - x.op.length) 0)) true] [zS (some (0,16+8+x.op.length+(((24+x.da.length+x.op.length - 16) - 8) - x.op.length))) 0 ((xY b8 x).length),iv 16,iv 2,iv x.fp] (zcb (some (0,16+8+x.op.length+(((24+x.da.length+x.op.length - 16) - 8) - x.op.length))) ((xY b8 x)++List.replicate (((24+x.da.length+x.op.length - 16) - 8) - x.op.length) 0) (xY b8 x) (zcI (l:=(b8.set 20 x.fl).set 21 ((x.op.length:Nat):Int)) (n:=16+8+x.op.length) (r:=(((24+x.da.length+x.op.length - 16) - 8) - x.op.length)) lA) 16 2 x.fp lA lA lA) rfl (zQ (zam rfl lA) (zQ rfl (zQ rfl (zQ rfl rfl)))) ⟨⟨_,rfl,zaY⟩,trivial⟩ dC ?_)
 rintro v1 h1' ⟨rfl,rfl⟩
 refine ⟨.tuple #[],[zG qp (u8 Lo) false,zG qd (u8 Ld) false,cw (Wf x qp qd),cw (u8 m23++zaj zB (((24+x.da.length+x.op.length - 16) - 8) - x.op.length))],[],(by simp [zaF]),⟨rfl,rfl,rfl,(zb6 hm23 lA),trivial⟩,trivial, ?_⟩
 refine zE (zA (zN (o_d 2 [(187,pv 2 6),(186,sv 3 0 (16+8+x.op.length) (16+8+x.op.length+(((24+x.da.length+x.op.length - 16) - 8) - x.op.length)))] (o_s (by refine zV (v:=iv x.tp) rfl rfl ?_;exact rfl) ?_))))
 obtain ⟨m24,hm24⟩: ∃z9,zbq m23 18 2 x.tp=z9:=⟨_,rfl⟩
 have hm24l:m24.length=m23.length:=by rw [←hm24,zX]
 have hm24n:m24.length=16+8+x.op.length:=by rw [hm24l]<;>exact lA
 refine qV (zct [3] [zG (some (0,16+8+x.op.length+(((24+x.da.length+x.op.length - 16) - 8) - x.op.length))) (u8 (m23++List.replicate (((24+x.da.length+x.op.length - 16) - 8) - x.op.length) 0)) true] [zS (some (0,16+8+x.op.length+(((24+x.da.length+x.op.length - 16) - 8) - x.op.length))) 0 m23.length,iv 18,iv 2,iv x.tp] (zcb (some (0,16+8+x.op.length+(((24+x.da.length+x.op.length - 16) - 8) - x.op.length))) (m23++List.replicate (((24+x.da.length+x.op.length - 16) - 8) - x.op.length) 0) m23 (zcI (l:=m23) (n:=16+8+x.op.length) (r:=(((24+x.da.length+x.op.length - 16) - 8) - x.op.length)) lA) 18 2 x.tp lA lA lA) rfl (zQ (zam rfl lA) (zQ rfl (zQ rfl (zQ rfl rfl)))) ⟨⟨_,rfl,zaY⟩,trivial⟩ dC ?_)
 rintro v1 h1' ⟨rfl,rfl⟩
 refine ⟨.tuple #[],[zG qp (u8 Lo) false,zG qd (u8 Ld) false,cw (Wf x qp qd),cw (u8 m24++zaj zB (((24+x.da.length+x.op.length - 16) - 8) - x.op.length))],[],(by simp [zaF]),⟨rfl,rfl,rfl,(zb6 hm24 lA),trivial⟩,trivial, ?_⟩
 refine zE (zU [(8,sv 3 0 (16+8+x.op.length) (16+8+x.op.length+(((24+x.da.length+x.op.length - 16) - 8) - x.op.length))),(5,bv (x.k==2)),(1,pv 2 0)] (zJ (zN (o_d 2 [(191,pv 2 12),(190,sv 3 0 (16+8+x.op.length) (16+8+x.op.length+(((24+x.da.length+x.op.length - 16) - 8) - x.op.length)))] (o_s (by refine zV (v:=zS qd 1 x.da.length) rfl rfl ?_;exact rfl) ?_)))))
 obtain ⟨m25,hm25⟩: ∃z9,m24++x.da=z9:=⟨_,rfl⟩
 have hm25l:m25.length=16+8+x.op.length+x.da.length:=by rw [←hm25,List.length_append]<;>exact lA
 refine o_appF (q:=x.da.length) (r:=(((24+x.da.length+x.op.length - 16) - 8) - x.op.length)) (r2:=((((24+x.da.length+x.op.length - 16) - 8) - x.op.length) - x.da.length)) (n:=16+8+x.op.length) (k:=3) (cs:=u8 m24) (xs:=u8 x.da) (cs2:=u8 m25) (zl:=zB) rfl rfl om rfl (by rw [qL]<;>exact lA) rfl (zc2 _ _ _ hrd.nil) (zcX rfl rfl hrd) (by rw [qL]<;>exact lA) (by rw [zcG,hm25]) rfl ?_
 refine o_d 1 [(8,sv 3 0 (16+8+x.op.length+x.da.length) (16+8+x.op.length+x.da.length+((((24+x.da.length+x.op.length - 16) - 8) - x.op.length) - x.da.length)))] (zE ?_)
 have hB:bldB x=m25:=by
  unfold bldB;rw [if_neg om,if_neg om]
  unfold bldS bldH;rw [hm15,hm16,hm17,hm19,hb8,hm23,hm24,hm25]
 have hml:m25.length=(24+x.da.length+x.op.length):=by rw [hm25l]<;>omega
 refine ⟨⟨reg [(8,zS (some (0,(24+x.da.length+x.op.length))) 3 (24+x.da.length+x.op.length)),(5,bv (x.k==2)),(1,pv 2 0)],[zG qp (u8 Lo) false,zG qd (u8 Ld) false,cw (Wf x qp qd),zG (some (0,(24+x.da.length+x.op.length))) (u8 m25) true]⟩,Wk.ren [0,1,2,3] rfl rfl dC ⟨conv_sv rfl om om,rfl,rfl,trivial⟩ ⟨.inl (zF (zH _)),.inl (zF (zH _)),.inl (zcj rfl rfl),.inl (zjC om),trivial⟩, ?_⟩
 refine zJ (zN (o_d 1 [(194,zS (some (0,(24+x.da.length+x.op.length))) 3 (24+x.da.length+x.op.length))] ?_))
 have hsl:=zh8 m25
 refine qV (zaD [3] [zG (some (0,(24+x.da.length+x.op.length))) (u8 m25) false] [zS (some (0,(24+x.da.length+x.op.length))) 0 m25.length] (summedC (some (0,(24+x.da.length+x.op.length))) m25 m25 (RowOf.whole rfl om) om om) rfl (zQ (zam rfl lA) rfl) ⟨⟨_,rfl,z4 (zH _) rfl (fun q=>rfl)⟩,trivial⟩ dC ?_)
 rintro v1 h1' ⟨c26,rfl,rfl⟩
 refine ⟨q9 [_] [_],sv 4 0 ((zbW m25).length) ((zbW m25).length+c26),[zG qp (u8 Lo) false,zG qd (u8 Ld) false,cw (Wf x qp qd),zG (some (0,(24+x.da.length+x.op.length))) (u8 m25) true],[cw (u8 (zbW m25)++zaj zB c26)],rfl,⟨rfl,rfl,rfl,rfl,trivial⟩,⟨(Option.some.inj (zL (za5 (zbW m25) c26))).symm,trivial⟩, ?_⟩
 refine qV (zdD (a1:= [sv 0 0 ((zbW m25).length) ((zbW m25).length+c26)]) [4] [u8 ((zbW m25)++List.replicate c26 0)] (refOf1C (some (0,(zbW m25).length+c26)) ((zbW m25)++List.replicate c26 0) (zbW m25) (zcI (l:=zbW m25) (n:=(zbW m25).length) (r:=c26) lA) lA) rfl (fun _=>rfl) ⟨⟨_,congrArg some (zcS _ _)⟩,zH _,trivial⟩ rfl ?_)
 have hy27:=zhB (zbW m25)
 refine o_d 1 [(9,iv (65535 - zbY (zbW m25)))] (zE (zA (zJ (zJ (zN (o_d 2 [(198,bv (x.k==2)),(197,bv (x.k==2))] (zbJ (b:=x.k==2) 198 rfl (fun q=>by rw [(by rw [hk];rfl:(x.k==2)=false)] at q;cases q) (fun k28=>?_))))))))
 refine o_d 3 [(201,bv false),(200,undef),(199,undef)] (zE (zA (zbc rfl (qK (zA (zf2 (fun s=> ∃(sx:Int),0=0∧(sx=bldX x)∧s=⟨reg [(9,iv sx),(8,zS (some (0,(24+x.da.length+x.op.length))) 3 (24+x.da.length+x.op.length)),(1,pv 2 0)],[zG qp (u8 Lo) false,zG qd (u8 Ld) false,cw (Wf x qp qd),zG (some (0,(24+x.da.length+x.op.length))) (u8 m25) true,cw (u8 (zbW m25)++zaj zB c26)]⟩) ?_ ?_))))))
 ·skip
  refine zJ (zN (o_d 2 [(203,bv (x.k==2)),(202,bv (x.k==2))] (zbJ (b:=x.k==2) 203 rfl (fun q=>by rw [(by rw [hk];rfl:(x.k==2)=false)] at q;cases q) (fun k29=>?_))))
  refine o_d 3 [(206,bv false),(205,undef),(204,undef)] (zE (zA (zbc rfl (qK (⟨⟨reg [(9,iv (65535 - zbY (zbW m25))),(8,zS (some (0,(24+x.da.length+x.op.length))) 3 (24+x.da.length+x.op.length)),(1,pv 2 0)],[zG qp (u8 Lo) false,zG qd (u8 Ld) false,cw (Wf x qp qd),zG (some (0,(24+x.da.length+x.op.length))) (u8 m25) true,cw (u8 (zbW m25)++zaj zB c26)]⟩, ?_⟩)))))
  refine ⟨?_, ?_⟩
  ·exact Wk.ren [0,1,2,3,4] rfl rfl dC ⟨rfl,rfl,rfl,trivial⟩ ⟨.inl (zF (zH _)),.inl (zF (zH _)),.inl (zcj rfl rfl),.inl (zF (zH _)),.inl (zL (za5 (zbW m25) c26)),trivial⟩
  ·exact ⟨(65535 - zbY (zbW m25)),rfl,(by rw [bldX,if_neg om,hB]),rfl⟩
 rintro s ⟨sx,-,hsx,rfl⟩
 refine zJ (zN (o_d 2 [(208,pv 2 0),(207,zS (some (0,(24+x.da.length+x.op.length))) 3 (24+x.da.length+x.op.length))] (o_s (by refine zV (v:=iv x.k) rfl rfl ?_;exact rfl) ?_)))
 refine qV (zab (place22C om (placeC x.k)) rfl rfl rfl ?_)
 refine o_d 1 [(211,iv sx)] ?_
 obtain ⟨m30,hm30⟩: ∃z9,zbq m25 22 2 sx=z9:=⟨_,rfl⟩
 have hm30l:m30.length=m25.length:=by rw [←hm30,zX]
 refine qV (zaD [3] [zG (some (0,(24+x.da.length+x.op.length))) (u8 m25) true] [zS (some (0,(24+x.da.length+x.op.length))) 0 m25.length,iv 22,iv 2,iv sx] (zcb (some (0,(24+x.da.length+x.op.length))) m25 m25 (RowOf.whole rfl om) 22 2 sx lA lA lA) rfl (zQ (zam rfl lA) (zQ rfl (zQ rfl (zQ rfl rfl)))) ⟨⟨_,rfl,z4 (zH _) rfl (fun q=>rfl)⟩,trivial⟩ dC ?_)
 rintro v1 h1' ⟨rfl,rfl⟩
 refine ⟨(fun i q=>zcC q),.tuple #[],[zG qp (u8 Lo) false,zG qd (u8 Ld) false,cw (Wf x qp qd),zG (some (0,(24+x.da.length+x.op.length))) (u8 m30) true,cw (u8 (zbW m25)++zaj zB c26)],[],(by simp [zaF]),⟨rfl,rfl,rfl,(zcz hm30),rfl,trivial⟩,trivial, ?_⟩
 refine zE (zA (zJ (zN (o_d 3 [(3,iv 0),(2,zS (some (0,(24+x.da.length+x.op.length))) 3 (24+x.da.length+x.op.length)),(213,zS (some (0,(24+x.da.length+x.op.length))) 3 (24+x.da.length+x.op.length))] (zE (zA (qW ?_)))))))
 have he:bld x=m30:=by unfold bld;rw [hB,zgQ,if_neg om,←hsx];exact hm30
 have hlen:m30.length=(24+x.da.length+x.op.length):=om
 exact ⟨trivial,[zS (some (0,(24+x.da.length+x.op.length))) 3 (24+x.da.length+x.op.length),iv 0],(zT rfl (zT rfl rfl)),(zM rfl (zM rfl z5)),⟨reg [],[zG qp (u8 Lo) false,zG qd (u8 Ld) false,zG (some (0,(24+x.da.length+x.op.length))) (u8 m30) true]⟩,[0,1,3],[zS (some (0,(24+x.da.length+x.op.length))) 2 (24+x.da.length+x.op.length),iv 0],WkR.of (rs:= []) rfl rfl dC trivial ⟨.inl (zF (zH _)),.inl (zF (zH _)),.inl (zF (zH _)),trivial⟩,rfl,(by rw [he,hlen];rfl),(by rw [he,hlen])⟩
end Go.Rh

namespace Go.Rh
theorem bld_len {x:Pk} (B:BOk x):24≤(bld x).length∧(bld x).length≤1500:=by
 have:=B.k;have:=B.da;have:=B.n
 rw [zgZ];split
 ·omega
 ·split<;>omega
end Go.Rh

namespace Go.Rh
section
variable {C:zag} {K:St→Prop} {L:List (Nat×Value)} {h:List Blk} {z:RL} {zl:List Value} {size bytes q k d:Nat} {xs:List Value} {vx:Value} {s x:Opd} {rs:List ICell}
end
section
variable {l:List Int}
theorem hd2 (h: ¬l.length < 16) (h2: ¬(l.getD 0 0 % 256≥1∧l.getD 0 0 % 256≤3)):qX l=(2,pk0):=by
 have e:zb7 l=2:=by unfold zb7;rw [if_neg h,if_pos h2]
 unfold qX;rw [if_pos (by rw [e];decide),e]
theorem hd0 (h: ¬l.length < 16) (h2:l.getD 0 0 % 256≥1∧l.getD 0 0 % 256≤3) (h3: ¬(qD l 2 2≠(l.length:Int)∨(l.length:Int) > 1500∨l.getD 13 0 % 256≠0)) (h4:zbY (l.take 16)=65535) (h5: ¬(l.length < 24∨(l.getD 0 0 % 256=3∧l.length < 44))):zb7 l=0:=by
 unfold zb7;rw [if_neg h,if_neg om,if_neg h3,if_neg om,if_neg h5]
end
end Go.Rh

set_option maxHeartbeats 1000000
namespace Go.Rh
end Go.Rh

namespace Go.Rh
theorem stamp_st (v e:Int):zcy (stL v e)=some 4:=by kernel_rfl
theorem num_st (v e:Int) (hv:0≤v∧v < 4294967296) (he:0≤e∧e < 4294967296):qD (stL v e) 4 4=v∧qD (stL v e) 8 4=e:=by
 have e1:qD (stL v e) 4 4=(((0*256+v / 16777216 % 256)*256+v / 65536 % 256)*256+v / 256 % 256)*256+v % 256:=rfl
 have e2:qD (stL v e) 8 4=(((0*256+e / 16777216 % 256)*256+e / 65536 % 256)*256+e / 256 % 256)*256+e % 256:=rfl
 rw [e1,e2];omega
def bkP (k fl la t tp:Int) (op:List Int):Pk:=⟨k,5,0,t,10,tp,80,fl,la,false,0,op,[]⟩
theorem bkP_ok {k fl la t tp:Int} {op:List Int} (hk:k=1∨k=2) (hf:0≤fl∧fl≤15) (hl:0≤la∧la≤65535) (ht:0≤t∧t≤4294967295) (htp:0≤tp∧tp≤65535) (ho:op.length≤12):BOk (bkP k fl la t tp op):=by
 constructor<;>simp only [bkP,List.length_nil]<;>omega
end Go.Rh

namespace Go.Rh
theorem num_e (v e:Int) (he:0≤e∧e < 4294967296):qD (stL v e) 8 4=e:=by
 have h:=num_st 1 e dC he
 have h2:qD (stL v e) 8 4=qD (stL 1 e) 8 4:=rfl
 rw [h2];exact h.2
theorem zhM {fl fp v e:Int} (hf:0≤fp∧fp≤65535) (hfl:0≤fl∧fl≤15):BOk (bkP 1 fl 0 4000 fp (stL v e))∧qX (bld (bkP 1 fl 0 4000 fp (stL v e)))=(0,bkP 1 fl 0 4000 fp (stL v e)):=by
 have B:BOk (bkP 1 fl 0 4000 fp (stL v e)):=bkP_ok (.inl rfl) hfl dC dC hf (by rw [stL_length];decide)
 exact ⟨B,parse_bld1 B rfl rfl rfl rfl⟩
theorem opens_law {ns:List Int} {s fp fl v:Int} (hs:0≤s∧s < 6) (ht:zeR (zY ns 60 (3+5*s.toNat))=true) (hf:0≤fp∧fp≤65535) (hfl:0≤fl∧fl≤15) (nr:zdU) {x:Pk} (hx:x=bkP 1 fl 0 4000 fp (stL v (zbT v (zad (rgP (zY ns 60)) 1 ⟨4000,fp,10,80⟩ s)))):
  (fl≠1→(zaK (zY ns 60) nr (bld x)).1.e=0∧(zaK (zY ns 60) nr (bld x)).1.c=true∧(zaK (zY ns 60) nr (bld x)).1.s=s)∧
  (fl=1→(zaK (zY ns 60) nr (bld x)).1.c=false∧(zaK (zY ns 60) nr (bld x)).1.s=zbp (zZ (zY ns 60)) ⟨4000,fp,10,80⟩∧((zaK (zY ns 60) nr (bld x)).1.e=0↔0≤zbp (zZ (zY ns 60)) ⟨4000,fp,10,80⟩)):=by
 have hBp:=zhM (v:=v) (e:=zbT v (zad (rgP (zY ns 60)) 1 ⟨4000,fp,10,80⟩ s)) hf hfl
 rw [←hx] at hBp
 have hp:=hBp.2
 have hw:=putS_r v (zad (rgP (zY ns 60)) 1 ⟨4000,fp,10,80⟩ s)
 have hc:=cookS_r (rgP (zY ns 60)) 1 ⟨4000,fp,10,80⟩ (s:=s) om
 rw [show TB 1=4096 from rfl] at hc
 have hpl:=ziy ns 60
 have hF:inF (zY ns 60) x=⟨4000,fp,10,80⟩:=by rw [hx];simp only [inF,bkP,hpl.1,hpl.2]
 have hT:=take_in (nr:=nr) hp (by rw [hx];rfl) (by rw [hx];show (2:Int)≤5;decide) (by rw [hx];show (1:Int)≠3;decide) (by rw [hx];exact ⟨hpl.1.symm,hpl.2.symm⟩)
 have hk:x.k=1:=by rw [hx];rfl
 have hop:x.op=stL v (zbT v (zad (rgP (zY ns 60)) 1 ⟨4000,fp,10,80⟩ s)):=by rw [hx];rfl
 have hl:x.fl=fl:=by rw [hx];rfl
 have hcar:zgY (zY ns 60) x (inF (zY ns 60) x)=if fl=1 then none else some s:=by
  rw [hF];unfold zgY
  rw [if_neg (by rw [hk];decide),hop,stamp_st]
  simp only [hl]
  split
  ·rfl
  ·have e1:qD (stL v (zbT v (zad (rgP (zY ns 60)) 1 ⟨4000,fp,10,80⟩ s))) (4+4) 4=zbT v (zad (rgP (zY ns 60)) 1 ⟨4000,fp,10,80⟩ s):=num_e _ _ hw
   have e:zbT v (zad (rgP (zY ns 60)) 1 ⟨4000,fp,10,80⟩ s) % 1048576=zad (rgP (zY ns 60)) 1 ⟨4000,fp,10,80⟩ s:=by unfold zbT;omega
   rw [e1,e,hk];exact read_cook om
 refine ⟨fun h=>?_,fun h=>?_⟩
 ·rw [if_neg h] at hcar
  have hi:=inP_some hcar (by rw [takes_eq];exact ht)
  rw [hT,hi]
  simp only [if_neg (show¬s < 0 by omega)]
  exact ⟨trivial,trivial,trivial⟩
 ·rw [if_pos h] at hcar
  have hi:=inP_none hcar
  rw [hT,hi,hF]
  have hr:=pick_r (zY ns 60) ⟨4000,fp,10,80⟩
  by_cases hn:zbp (zZ (zY ns 60)) ⟨4000,fp,10,80⟩ < 0
  ·simp only [if_pos hn]
   refine ⟨rfl, ?_,fun q=>absurd (show (9:Int)=0 from q) dC,fun q=>by omega⟩
   show (-1:Int)=_
   rcases hr with q | ⟨k,_,q,_⟩<;>omega
  ·simp only [if_neg hn]
   exact ⟨trivial,trivial,fun _=>by omega,fun _=>trivial⟩
theorem make_wt (ns:List Int): ∀i:Nat,i < 64→zY ns 60 (3+5*i)=2→1≤zY ns 60 (3+5*i+3)∧zY ns 60 (3+5*i+3)≤8:=fun i hi h=>((makeS_inv ns (k:=60) dC).slot i hi om).2
theorem ge_beq {e w:Int} (h:e=0↔0≤w):((e==0)==decide (w≥0))=true:=by
 by_cases h1:e=0
 ·rw [beq_iff_eq.2 h1,decide_eq_true (h.1 h1)];rfl
 ·rw [beq_eq_false_iff_ne.2 h1,decide_eq_false (fun q=>h1 (h.2 q))];rfl
end Go.Rh

namespace Go.Rh
def zi5 (L0:List Wl) (nx:List Int):List Wl:=L0.map fun y=>⟨y.s,zbs y.a y.b (nx.getD y.s.toNat 0).toNat,y.b,y.w⟩
theorem wlks_lt (p:qZ): ∀ {n:Nat},∀y∈zbw p n,0≤y.s∧y.s < n
 | 0,y,h=>by simp [zbw] at h
 | n+1,y,h=>by
  simp only [zbw] at h
  split at h
  ·rcases List.mem_append.1 h with q | q
   ·have:=wlks_lt p y q;omega
   ·simp at q;subst q;simp only [zaT];omega
  ·have:=wlks_lt p y h;omega
theorem wlks_pre (p:qZ) (i:Nat): ∀d,∃r,zbw p (i+d)=zbw p i++r∧∀y∈r,(i:Int)≤y.s
 | 0=>⟨[],by simp,by simp⟩
 | d+1=>by
  obtain ⟨r,h1,h2⟩:=wlks_pre p i d
  by_cases h:p (3+5*(i+d))=2
  ·refine ⟨r++ [zaT p (i+d)], ?_,fun y hy=>?_⟩
   ·rw [←Nat.add_assoc];simp only [zbw];rw [if_pos h,h1,List.append_assoc]
   ·rcases List.mem_append.1 hy with q | q
    ·exact h2 y q
    ·simp at q;subst q;simp only [zaT];omega
  ·refine ⟨r, ?_,h2⟩
   rw [←Nat.add_assoc];simp only [zbw];rw [if_neg h,h1]
theorem zje (p:qZ) {i:Nat} (hi:i < 64) (h:p (3+5*i)=2): ∃r,zbw p 64=zbw p i++zaT p i::r∧∀y∈r,(i:Int) < y.s:=by
 obtain ⟨r,h1,h2⟩:=wlks_pre p (i+1) (64 - (i+1))
 rw [show i+1+(64 - (i+1))=64 by omega] at h1
 refine ⟨r, ?_,fun y hy=>by have:=h2 y hy;omega⟩
 rw [h1];simp only [zbw];rw [if_pos h,List.append_assoc];rfl
theorem lof_init {L:List Wl} (h: ∀y∈L,WlOk y):zi5 L (List.replicate 64 0)=L:=by
 unfold zi5
 conv=>rhs;rw [←List.map_id L]
 refine List.map_congr_left fun y hy=>?_
 have h0:(List.replicate 64 (0:Int)).getD y.s.toNat 0=0:=by
  rw [List.getD_eq_getElem?_getD,List.getElem?_replicate];split<;>rfl
 rw [h0]
 show Wl.mk y.s (zbs y.a y.b 0) y.b y.w=y
 rw [walk_0 (h y hy).a]
theorem lof_ne {A:List Wl} {nx:List Int} {i:Nat} {v:Int} (h: ∀z∈A,0≤z.s∧z.s≠i):zi5 A (nx.set i v)=zi5 A nx:=by
 unfold zi5
 refine List.map_congr_left fun y hy=>?_
 have:=h y hy
 rw [List.getD_eq_getElem?_getD,List.getD_eq_getElem?_getD,List.getElem?_set_ne om]
theorem lof_set {A B:List Wl} {y:Wl} {nx:List Int} {i:Nat} {v:Int} (hi:i < nx.length) (hy:y.s=i) (hA: ∀z∈A,0≤z.s∧z.s < i) (hB: ∀z∈B,(i:Int) < z.s):
  zi5 (A++y::B) (nx.set i v)=(zi5 (A++y::B) nx).set A.length ⟨y.s,zbs y.a y.b v.toNat,y.b,y.w⟩:=by
 have h1:=lof_ne (nx:=nx) (v:=v) (A:=A) (i:=i) fun z hz=>⟨(hA z hz).1,by have:=hA z hz;omega⟩
 have h2:=lof_ne (nx:=nx) (v:=v) (A:=B) (i:=i) fun z hz=>⟨by have:=hB z hz;omega,by have:=hB z hz;omega⟩
 unfold zi5 at h1 h2 ⊢
 rw [List.map_append,List.map_append,List.map_cons,List.map_cons,h1,h2]
 rw [List.set_append_right _ _ (by simp)]
 simp only [List.length_map,Nat.sub_self,List.set_cons_zero]
 rw [hy,Int.toNat_natCast]
 congr 4
 rw [List.getD_eq_getElem?_getD,List.getElem?_set_self hi];rfl
theorem lof_at {A B:List Wl} {y:Wl} {nx:List Int} :(zi5 (A++y::B) nx)[A.length]? =some ⟨y.s,zbs y.a y.b (nx.getD y.s.toNat 0).toNat,y.b,y.w⟩:=by
 unfold zi5
 rw [List.map_append,List.map_cons,List.getElem?_append_right (by simp)]
 simp
theorem zf4 (a b:Int) (m n:Nat):zbs (zbs a b m) b n=zbs a b (m+n):=by
 unfold zbs
 rw [show ((m+n:Nat):Int)*b=m*b+n*b by push_cast;rw [Int.add_mul]]
 omega
structure WN (W nx:List Int) (f:Int):Prop where
  wl:W.length=127
  nl:nx.length=64
  lf:f=((zc9 W:Nat):Int)
  v: ∀z∈W,z= -1∨0≤z
  n: ∀z∈nx,0≤z∧z≤127*(127 - f)
theorem WN.init:WN zeA (List.replicate 64 0) 127:=by
 refine ⟨rfl,rfl,by rw [zc9,zeA,List.count_replicate_self];rfl,fun z hz=> .inl (List.eq_of_mem_replicate hz),fun z hz=>?_⟩
 have:=List.eq_of_mem_replicate hz;omega
theorem getD_mem {l:List Int} {i:Nat} (h:i < l.length):l.getD i 0∈l:=by
 rw [List.getD_eq_getElem?_getD,List.getElem?_eq_getElem h];exact List.getElem_mem h
theorem WN.nxr {W nx:List Int} {f:Int} (h:WN W nx f) {i:Nat} (hi:i < 64):0≤nx.getD i 0∧nx.getD i 0≤127*(127 - f):=h.n _ (getD_mem (by rw [h.nl];exact hi))
theorem WN.fr {W nx:List Int} {f:Int} (h:WN W nx f):0≤f∧f≤127:=by
 have h1:=h.lf
 have h2:W.count (-1)≤W.length:=List.count_le_length
 have h3:=h.wl
 unfold zc9 at h1
 omega
theorem WN.found {W nx:List Int} {f:Int} (h:WN W nx f) (hf:0 < f) (p:qZ) {i:Nat} (hi:i < 64): ∃n:Nat,n < 127∧W.getD (zbs (zaT p i).a (zaT p i).b ((nx.getD i 0).toNat+n)).toNat 0= -1∧(∀k,k < n→W.getD (zbs (zaT p i).a (zaT p i).b ((nx.getD i 0).toNat+k)).toNat 0≠ -1)∧
  prb W (zaT p i).b 127 (zbs (zaT p i).a (zaT p i).b (nx.getD i 0).toNat)=zbs (zaT p i).a (zaT p i).b ((nx.getD i 0).toNat+n):=by
 have hy:=wlOf_ok p hi
 have h1:=h.lf
 obtain ⟨n,a1,a2,a3,a4⟩:=Rh.found (a:=zbs (zaT p i).a (zaT p i).b (nx.getD i 0).toNat) h.wl om (zf3 _ _ _) hy.b
 refine ⟨n,a1, ?_,fun k hk=>?_, ?_⟩
 ·rw [←zf4];exact a2
 ·rw [←zf4];exact a3 k hk
 ·rw [a4,zf4]
theorem turn7 {p:qZ} {W nx:List Int} {f:Int} (h:WN W nx f) (hf:0 < f) {i n:Nat} (hi:i < 64) (ha:p (3+5*i)=2) (hp:prb W (zaT p i).b 127 (zbs (zaT p i).a (zaT p i).b (nx.getD i 0).toNat)=zbs (zaT p i).a (zaT p i).b ((nx.getD i 0).toNat+n)):
  zcH (zbw p i).length (W,zi5 (zbw p 64) nx)=(W.set (zbs (zaT p i).a (zaT p i).b ((nx.getD i 0).toNat+n)).toNat i,zi5 (zbw p 64) (nx.set i (nx.getD i 0+n))):=by
 obtain ⟨r,hr,hr2⟩:=zje p hi ha
 have h1:=h.lf
 have hc:=h.nxr hi
 have hat:(zi5 (zbw p 64) nx)[(zbw p i).length]? =some ⟨(zaT p i).s,zbs (zaT p i).a (zaT p i).b (nx.getD i 0).toNat,(zaT p i).b,(zaT p i).w⟩:=by rw [hr];exact lof_at
 rw [turn_eq (n:=n) om hat (by show prb W _ 127 _=zbs (zbs _ _ _) _ _;rw [hp,zf4])]
 show (W.set (zbs (zbs _ _ _) _ n).toNat _,_)=_
 rw [zf4,hr,lof_set (by rw [h.nl];exact hi) rfl (wlks_lt p) hr2,show (nx.getD i 0+(n:Int)).toNat=(nx.getD i 0).toNat+n by omega];rfl
theorem WN.step {W nx:List Int} {f:Int} (h:WN W nx f) (hf:0 < f) {i n q:Nat} (hi:i < 64) (hn:n < 127) (hq:q < 127) (hw:W.getD q 0= -1):WN (W.set q i) (nx.set i (nx.getD i 0+n)) (f - 1):=by
 have h1:=h.lf
 have hc:=h.nxr hi
 have h2:=free_set (i:=q) (s:=(i:Int)) (by rw [h.wl];exact hq) hw om
 refine ⟨by rw [List.length_set];exact h.wl,by rw [List.length_set];exact h.nl,om,fun z hz=>?_,fun z hz=>?_⟩
 ·rcases List.mem_or_eq_of_mem_set hz with t | t
  ·exact h.v z t
  ·subst t;exact .inr om
 ·rcases List.mem_or_eq_of_mem_set hz with t | t
  ·have:=h.n z t;omega
  ·subst t;omega
theorem WN.neg {W nx:List Int} {f:Int} (h:WN W nx f) {q:Nat} (hq:q < 127) (hw:W.getD q 0≠ -1):0≤W.getD q 0:=(h.v _ (getD_mem (by rw [h.wl];exact hq))).resolve_left hw
theorem wt_at {p:qZ} {i:Nat} (hi:i < 64) (ha:p (3+5*i)=2) (hw:1≤p (3+5*i+3)∧p (3+5*i+3)≤8):wtOf (zbw p 64) (zbw p i).length=(p (3+5*i+3)).toNat:=by
 obtain ⟨r,hr,_⟩:=zje p hi ha
 have:(zbw p 64)[(zbw p i).length]? =some (zaT p i):=by rw [hr,List.getElem?_append_right (Nat.le_refl _)];simp
 unfold wtOf;rw [this]
 show (zaT p i).w.toNat=_
 simp only [zaT]
 congr 1
 repeat' split
 all_goals omega
theorem slot7 {p:qZ} {W nx:List Int} {f:Int} {S:WS} {i t:Nat} (h:WN W nx f) (hi:i < 64) (ha:p (3+5*i)=2) (hw:1≤p (3+5*i+3)∧p (3+5*i+3)≤8) (ht:(t:Int)≤p (3+5*i+3))
  (hS:(W,zi5 (zbw p 64) nx)=itr (zcH (zbw p i).length) t (zcY (zbw p 64) S (zbw p i).length)) (he:(t:Int)=p (3+5*i+3)∨f=0):(W,zi5 (zbw p 64) nx)=zcY (zbw p 64) S (zbw p (i+1)).length:=by
 have h1:=h.lf
 rw [show (zbw p (i+1)).length=(zbw p i).length+1 by simp only [zbw];rw [if_pos ha];simp]
 show _=itr (zcH (zbw p i).length) (wtOf (zbw p 64) (zbw p i).length) (zcY (zbw p 64) S (zbw p i).length)
 rw [wt_at hi ha hw]
 obtain ⟨m,hm⟩: ∃m,(p (3+5*i+3)).toNat=m+t:=⟨(p (3+5*i+3)).toNat - t,om⟩
 rw [hm,itr_add,←hS]
 rcases he with e | e
 ·have:m=0:=om
  subst this;rfl
 ·exact (zfv (zh4 (show zc9 W=0 by omega)) m).symm
theorem skip7 {p:qZ} {i:Nat} (ha: ¬p (3+5*i)=2):zbw p (i+1)=zbw p i:=by simp only [zbw];rw [if_neg ha]
theorem fin7 {p:qZ} {W nx:List Int} {f:Int} {r:Nat} (h:WN W nx f) (hS:(W,zi5 (zbw p 64) nx)=zbg (zbw p 64) r) (hr:zbw p 64≠ []→f+r≤127) (he:zbw p 64= []∨f=0):W=zZ p:=by
 unfold zZ
 have h1:=h.lf
 by_cases hl:zbw p 64= []
 ·rw [hl] at hS ⊢;rw [zjn] at hS ⊢;exact congrArg Prod.fst hS
 ·have hf:f=0:=he.resolve_left hl
  have:=hr hl
  rw [zfT (S:=(W,zi5 (zbw p 64) nx)) (by show zc9 W=0;omega) hS.symm (n:=127) om]
theorem run_mksI {d:Option Nat} {L:List (Nat×Value)} {hp:List Blk} :
  zdb [⟨d,.mks [(1,(.int .i64 0))] 1 8 (.c (.int .i64 127)) (.c (.int .i64 127)),none⟩] ⟨reg L,hp⟩=some ⟨zau (reg L) d (sv hp.length 0 127 127),hp++ [cw (ii (List.replicate 127 0))]⟩:=
 zaU (e:= .push (cw (ii (List.replicate 127 0)))) (v:=sv hp.length 0 127 127) rfl rfl rfl
end Go.Rh

set_option maxHeartbeats 1000000
namespace Go.Rh
theorem walk_lt (a b:Int) (m:Nat):(zbs a b m).toNat < 127:=by have:=zf3 a b m;omega
theorem ag7 {f f1:Int} {ag1:Bool} {Q:Prop} (h:f1≤f∧(ag1=false→Q)∧(ag1=true→f1 < f)):f1+(ag1.toNat:Int)≤f:=by
 cases ag1 with
 | false=>have:=h.1;show f1+0≤f;omega
 | true=>have:=h.2.2 rfl;show f1+1≤f;omega
theorem step7 {p:qZ} {W nx:List Int} {f:Int} {S:WS} (h:WN W nx f) (hf:0 < f) {i n t:Nat} (hi:i < 64) (ha:p (3+5*i)=2) (hp:prb W (zaT p i).b 127 (zbs (zaT p i).a (zaT p i).b (nx.getD i 0).toNat)=zbs (zaT p i).a (zaT p i).b ((nx.getD i 0).toNat+n))
  (hS:(W,zi5 (zbw p 64) nx)=itr (zcH (zbw p i).length) t S):(W.set (zbs (zaT p i).a (zaT p i).b ((nx.getD i 0).toNat+n)).toNat i,zi5 (zbw p 64) (nx.set i (nx.getD i 0+n)))=itr (zcH (zbw p i).length) (t+1) S:=by
 rw [←turn7 h hf hi ha hp,hS];rfl
theorem probe_lt {W:List Int} {X a b:Int} {c n m:Nat} (hm:m≤n) (hwk:X=zbs a b (c+m)) (hn:W.getD (zbs a b (c+n)).toNat 0= -1) (h:W.getD X.toNat 0≥0):m < n:=by
 refine Nat.lt_of_le_of_ne hm fun e=>?_
 subst e;rw [hwk,hn] at h;omega
theorem probe_eq {W nx:List Int} {f X a b:Int} {c n m:Nat} (hw:WN W nx f) (hm:m≤n) (hwk:X=zbs a b (c+m)) (hn: ∀k,k < n→W.getD (zbs a b (c+k)).toNat 0≠ -1) (h: ¬W.getD X.toNat 0≥0):m=n:=by
 refine Nat.le_antisymm hm (Nat.le_of_not_lt fun q=>h ?_)
 have hr:=zf3 a b (c+m)
 rw [hwk]
 exact hw.neg om (hn m q)
theorem ord7a {p:qZ} {i:Nat} :(zaT p i).a=i64.wrap ((zan 0 0 [1,p (3+5*i+1),p (3+5*i+2)]).tmod 127):=(spun_eq dC).symm
theorem mul7 {x b:Int} (hx:0≤x∧x≤20000) (hb:1≤b∧b≤126):0≤x*b∧x*b≤2520000:=by
 refine ⟨Int.mul_nonneg hx.1 om, ?_⟩
 have h:=Int.mul_le_mul hx.2 hb.2 om (by omega:(0:Int)≤20000)
 omega
theorem set_same7 {l:List Int} {i:Nat} (h:i < l.length):l.set i (l.getD i 0)=l:=by
 rw [List.getD_eq_getElem?_getD,List.getElem?_eq_getElem h];exact List.set_getElem_self h
theorem set_get7 {l:List Int} {i:Nat} {v:Int} (h:i < l.length):(l.set i v).getD i 0=v:=by
 rw [List.getD_eq_getElem?_getD,List.getElem?_set_self h];rfl
theorem out7 {p:qZ} {i r:Nat} {f f1:Int} {ag1:Bool} (h:f1≤f∧(ag1=false→zbw p i= [])∧(ag1=true→f1 < f)) (hi:i=64) (hr:zbw p 64≠ []→f+r≤127):zbw p 64≠ []→f1+((r+1:Nat):Int)≤127:=by
 subst hi
 intro hn
 have h1:=hr hn
 have h2:ag1=true:=by cases ag1 with | true=>rfl | false=>exact absurd (h.2.1 rfl) hn
 have:=h.2.2 h2
 omega
theorem r7orderC {P:Program} [PrC P] (p:qZ) (i:Nat):
    Env P "roundhouse/roundhouseref7.order" [.agg (vz p i)] ([]) (Ans (.tuple #[iv (zaT p i).a,iv (zaT p i).b]) ([])):=by
 refine Env.by PrC.ref7_order ?_
 unfold zhi
 show GC _ 0 _ _ ⟨reg [(0,.agg (vz p i))],[]⟩
 have hsw:=spun_eq (m:=126) (ns:= (wL 2 p i)) dC
 have hsr:=zdG (m:=126) (ns:= (wL 2 p i)) dC
 refine zJ (zN (o_b 3 [(3,iv 0),(2,iv 0),(1,pv 0 0)] [cw (wj p i)] (zE (zA (zJ (zN (o_b 6 [(11,sv 1 0 3 3),(10,iv (p (3+5*i+2))),(9,pv 0 2),(8,iv (p (3+5*i+1))),(7,pv 0 1),(6,.agg #[uv 0,uv 0])] [cw (wj p i),cw (yI 1 p i)] (qV (zdD (a1:= [.agg #[uv 0,uv 0],sv 0 0 3 3]) [1] [ii (wL 1 p i)] (zgf 0 0 (wL 1 p i) (by first | omega | decide | (simp;done))) rfl (fun _=>zQ (qN rfl) (zQ rfl rfl)) ⟨⟨_,rfl⟩,qS _,trivial⟩ rfl ?_)))))))))
 refine o_d 1 [(4,uv (zan 0 0 (wL 1 p i)))] (zE (zA (zJ (zN (o_b 6 [(18,sv 2 0 3 3),(17,iv (p (3+5*i+2))),(16,pv 0 2),(15,iv (p (3+5*i+1))),(14,pv 0 1),(13,.agg #[uv 0,uv 0])] [cw (wj p i),cw (yI 1 p i),cw (yI 2 p i)] (qV (zdD (a1:= [.agg #[uv 0,uv 0],sv 0 0 3 3]) [2] [ii (wL 2 p i)] (zgf 0 0 (wL 2 p i) (by first | omega | decide | (simp;done))) rfl (fun _=>zQ (qN rfl) (zQ rfl rfl)) ⟨⟨_,rfl⟩,qS _,trivial⟩ rfl ?_)))))))
 refine o_d 1 [(5,uv (zan 0 0 (wL 2 p i)))] (zE (zA (zJ (zN (o_d 6 [(25,iv (i64.wrap ((zan 0 0 (wL 2 p i)).tmod 126))),(24,uv ((zan 0 0 (wL 2 p i)).tmod 126)),(23,uv (zan 0 0 (wL 2 p i))),(22,iv (i64.wrap ((zan 0 0 (wL 1 p i)).tmod 127))),(21,uv ((zan 0 0 (wL 1 p i)).tmod 127)),(20,uv (zan 0 0 (wL 1 p i)))] (o_s (by refine zK (v:= .int .i64 (i64.wrap (i64.wrap ((zan 0 0 (wL 2 p i)).tmod 126)+1))) (congrArg wg (w64 om om)) ?_;kernel_rfl) ?_))))))
 refine o_d 2 [(3,iv (i64.wrap ((zan 0 0 (wL 2 p i)).tmod 126)+1)),(2,iv (i64.wrap ((zan 0 0 (wL 1 p i)).tmod 127)))] (zE (zU [(3,iv (i64.wrap ((zan 0 0 (wL 2 p i)).tmod 126)+1)),(2,iv (i64.wrap ((zan 0 0 (wL 1 p i)).tmod 127)))] (qW ?_)))
 have E0_:(zaT p i).a=i64.wrap ((zan 0 0 (wL 1 p i)).tmod 127):=by
  exact ord7a
 have E1_:(zaT p i).b=i64.wrap ((zan 0 0 (wL 2 p i)).tmod 126)+1:=by
  show 1+za2 126 (wL 2 p i)=_;omega
 exact z7 [iv (i64.wrap ((zan 0 0 (wL 1 p i)).tmod 127)),iv (i64.wrap ((zan 0 0 (wL 2 p i)).tmod 126)+1)] (zT rfl (zT rfl rfl)) rfl (by rw [E0_,E1_];rfl) rfl rfl
abbrev yx (c:qZ) d e:=[(10,iv ((zaT c d).b)),(9,iv ((zaT c d).a)),(7,bv true),(8,iv (d:Int)),(6,iv e),(5,pv 2 0),(3,sv 1 0 127 127),(1,pv 0 0)]
abbrev yG:=[(5,pv 2 0),(3,sv 1 0 127 127),(1,pv 0 0)]
abbrev WF (a:qZ) b c:=[cw (pl a),cw (ii b),cw (ii c)]
theorem r7MakeC {P:Program} [PrC P] (p:qZ) (hw: ∀i:Nat,i < 64→p (3+5*i)=2→1≤p (3+5*i+3)∧p (3+5*i+3)≤8):
    Env P "roundhouse/roundhouseref7.Make" [zaw p] ([]) (fun v h'=>v=sv 0 0 127 127∧h'= [cw (ii (zZ p))]):=by
 refine Env.by2 PrC.ref7_Make ?_
 unfold ziJ
 show GC _ 0 _ _ ⟨reg [(0,zaw p)],[]⟩
 refine zJ (zN (o_b 2 [(2,.slice none 0 0),(1,pv 0 0)] [cw (pl p)] (zE (zA (zJ (zN (o_s (by exact run_mksI) ?_)))))))
 refine o_b 1 [(3,sv 1 0 127 127)] [cw (pl p),cw (ii (List.replicate 127 0))] (zE (zA (zJ (zJ (zN (o_d 1 [(4,iv 0)] (zE (zA (qU (zcs (fun μ s=> ∃(i0:Nat),∃(W0:List Int),μ=127 - i0∧(i0≤127)∧(W0=List.replicate i0 (-1)++List.replicate (127 - i0) 0)∧(W0.length=127)∧s=⟨reg [(4,iv (i0:Int)),(3,sv 1 0 127 127),(1,pv 0 0)],[cw (pl p),cw (ii W0)]⟩) ⟨(127 - 0), ?_⟩ ?_))))))))))
 ·skip
  refine ⟨⟨reg [(4,iv (0:Int)),(3,sv 1 0 127 127),(1,pv 0 0)],[cw (pl p),cw (ii (List.replicate 127 0))]⟩, ?_⟩
  refine ⟨?_, ?_⟩
  ·exact Wk.ren [0,1] rfl rfl dC ⟨rfl,rfl,rfl,trivial⟩ ⟨.inl (zL (zae p)),.inl (zL (qS (List.replicate 127 0))),trivial⟩
  ·exact ⟨0,(List.replicate 127 0),rfl,om,rfl,(List.length_replicate ..),rfl⟩
 rintro μ s ⟨i0,W0,rfl,hi0,hW0,hwl,rfl⟩
 refine zJ (zJ (zN (o_d 2 [(14,bv (decide ((i0:Int) < 127))),(13,iv (i0:Int))] (zE (zA (qJ (t:=decide ((i0:Int) < 127)) rfl (fun h1=>?_) (fun h1=>?_)))))))
 ·skip
  have h1':(i0:Int) < 127:=of_decide_eq_true h1
  refine qK (zA (zJ (qU (zN (o_d 2 [(18,iv (i0:Int)),(17,sv 1 0 127 127)] (o_s (by exact zcU (o:=0) (o':=i0) rfl rfl om om) ?_))))))
  refine zdj (by refine zao (c':=ii (W0.set i0 (-1))) rfl rfl rfl ?_ ?_ ?_;exact rfl;exact (by rw [zaz,hwl];omega);exact ii_w (i:=i0) rfl (by rw [hwl];omega)) ?_
  refine zE (zA (zN (o_d 1 [(15,iv (i0:Int))] (o_s (by refine zK (v:= .int .i64 (i64.wrap ((i0:Int)+1))) (congrArg wg (w64 om om)) ?_;kernel_rfl) ?_))))
  refine o_d 1 [(4,iv ((i0:Int)+1))] (zE (⟨127 - (i0+1), ?_⟩))
  refine ⟨⟨reg [(4,iv ((i0+1):Int)),(3,sv 1 0 127 127),(1,pv 0 0)],[cw (pl p),cw (ii (W0.set i0 (-1)))]⟩, ?_⟩
  refine zde om ⟨?_, ?_⟩
  ·exact Wk.ren [0,1] rfl rfl dC ⟨rfl,rfl,rfl,trivial⟩ ⟨.inl (zL (zae p)),.inl (zL (qS (W0.set i0 (-1)))),trivial⟩
  ·exact ⟨(i0+1),(W0.set i0 (-1)),rfl,om,(nob_next hW0 om),((List.length_set ..).trans hwl),rfl⟩
 have h1': ¬((i0:Int) < 127):=of_decide_eq_false h1
 refine zb1 (zA (zJ (zN (o_b 1 [(5,pv 2 0)] [cw (pl p),cw (ii W0),cw (ii (List.replicate 64 0))] (zE (zA (zJ (zN (o_d 1 [(6,iv 127)] (zE (zA (zJ ?_))))))))))))
 refine zJ (zN (o_d 1 [(7,bv true)] (zE (zA (qU (zcs (fun μ s=> ∃(r:Nat),∃(W:List Int),∃(nx:List Int),∃(f:Int),∃(ag:Bool),μ=f.toNat+ag.toNat∧(WN W nx f)∧((W,zi5 (zbw p 64) nx)=zbg (zbw p 64) r)∧((zbw p 64)≠ []→f+r≤127)∧(ag=false→(zbw p 64)= [])∧s=⟨reg ((7,bv ag)::(6,iv f)::yG),(WF p W nx)⟩) ⟨((127:Int).toNat+true.toNat), ?_⟩ ?_))))))
 ·skip
  refine ⟨⟨reg ((7,bv true)::(6,iv (127:Int))::yG),[cw (pl p),cw (ii W0),cw (ii (List.replicate 64 0))]⟩, ?_⟩
  refine ⟨?_, ?_⟩
  ·exact Wk.ren [0,1,2] rfl rfl dC ⟨rfl,rfl,rfl,rfl,rfl,trivial⟩ ⟨.inl (zL (zae p)),.inl (zL (qS W0)),.inl (zL (qS (List.replicate 64 0))),trivial⟩
  ·exact ⟨0,W0,(List.replicate 64 0),(127:Int),true,rfl,(by rw [(show W0=zeA by rw [hW0,show i0=127 by omega];rfl)];exact WN.init),(by rw [(show W0=zeA by rw [hW0,show i0=127 by omega];rfl),lof_init (wlks_ok p (Nat.le_refl _))];rfl),(fun _=>by omega),(fun e=>by cases e),rfl⟩
 rintro μ s ⟨r,W,nx,f,ag,rfl,hwn,hS,hr,hag,rfl⟩
 have hfr:=hwn.fr
 refine zJ (zJ (zN (o_d 2 [(21,bv ag),(20,bv ag)] (zbJ (b:=ag) 21 rfl (fun h2=>?_) (fun h2=>?_)))))
 ·skip
  have hag1:ag.toNat=1:=by rw [h2];rfl
  refine o_d 3 [(24,bv (decide (f > 0))),(23,bv (decide (f > 0))),(22,iv f)] (zE (zA (qJ (t:=decide (f > 0)) rfl (fun h3=>?_) (fun h3=>?_))))
  ·skip
   have h3':f > 0:=of_decide_eq_true h3
   refine qK (zA (qU (zJ (zN (o_d 1 [(7,bv false)] (zE (zA (zJ (zN (o_d 1 [(8,iv 0)] (zE (zA ?_))))))))))))
   refine qU (zcs (fun μ s=> ∃(i:Nat),∃(W1:List Int),∃(nx1:List Int),∃(f1:Int),∃(ag1:Bool),μ=64 - i∧(i≤64)∧(WN W1 nx1 f1)∧((W1,zi5 (zbw p 64) nx1)=zcY (zbw p 64) (zbg (zbw p 64) r) (zbw p i).length)∧(f1≤f∧(ag1=false→zbw p i= [])∧(ag1=true→f1 < f))∧s=⟨reg ((8,iv (i:Int))::(7,bv ag1)::(6,iv f1)::yG),(WF p W1 nx1)⟩) ⟨(64 - 0), ?_⟩ ?_)
   ·skip
    refine ⟨⟨reg ((8,iv (0:Int))::(7,bv false)::(6,iv f)::yG),(WF p W nx)⟩, ?_⟩
    refine ⟨?_, ?_⟩
    ·exact Wk.ren [0,1,2] rfl rfl dC ⟨rfl,rfl,rfl,rfl,rfl,rfl,trivial⟩ ⟨.inl (zL (zae p)),.inl (zL (qS W)),.inl (zL (qS nx)),trivial⟩
    ·exact ⟨0,W,nx,f,false,rfl,om,hwn,(by rw [hS];rfl),⟨Int.le_refl _,fun _=>rfl,fun e=>by cases e⟩,rfl⟩
   rintro μ s ⟨i,W1,nx1,f1,ag1,rfl,hi,hwn1,hS1,hg1,rfl⟩
   have hm7:=ag7 hg1
   have hfr1:=hwn1.fr
   refine zJ (zJ (zN (o_d 2 [(26,bv (decide ((i:Int) < 64))),(25,iv (i:Int))] (zE (zA (qJ (t:=decide ((i:Int) < 64)) rfl (fun h4=>?_) (fun h4=>?_)))))))
   ·skip
    have h4':(i:Int) < 64:=of_decide_eq_true h4
    refine qK (zA (zJ (qU (zJ (zJ (zN (o_d 2 [(30,pv 0 3),(29,iv (i:Int))] (o_s (by exact zaA (o:=3) (o':=3+5*i) rfl rfl om om) ?_))))))))
    refine o_s (by refine zci (o':=3+5*i) rfl om) ?_
    refine o_s (by refine zV (v:=iv (p (3+5*i))) rfl rfl ?_;exact zi9 p (3+5*i) om om) ?_
    refine o_d 1 [(34,bv ((p (3+5*i))!=2))] (zE (zA (qJ (t:=(p (3+5*i))!=2) rfl (fun h5=>?_) (fun h5=>?_))))
    ·skip
     have h5':p (3+5*i)≠2:=ze5 h5
     refine zb1 (zA (zN (o_d 1 [(27,iv (i:Int))] (o_s (by refine zK (v:= .int .i64 (i64.wrap ((i:Int)+1))) (congrArg wg (w64 om om)) ?_;kernel_rfl) ?_))))
     refine o_d 1 [(8,iv ((i:Int)+1))] (zE (⟨64 - (i+1), ?_⟩))
     refine ⟨⟨reg ((8,iv ((i+1):Int))::(7,bv ag1)::(6,iv f1)::yG),(WF p W1 nx1)⟩, ?_⟩
     refine zde om ⟨?_, ?_⟩
     ·exact Wk.ren [0,1,2] rfl rfl dC ⟨rfl,rfl,rfl,rfl,rfl,rfl,trivial⟩ ⟨.inl (zL (zae p)),.inl (zL (qS W1)),.inl (zL (qS nx1)),trivial⟩
     ·exact ⟨(i+1),W1,nx1,f1,ag1,rfl,om,hwn1,(by rw [skip7 (show¬p (3+5*i)=2 by assumption)];exact hS1),(by rw [skip7 (show¬p (3+5*i)=2 by assumption)];exact hg1),rfl⟩
    have h5': ¬(p (3+5*i)≠2):=ze6 h5
    have hac:p (3+5*i)=2:=Decidable.of_not_not (by assumption)
    have hw8:=hw i om hac
    refine qK (zA (zJ (zN (o_d 1 [(7,bv true)] (zE (zA (zJ (zN (o_d 2 [(37,pv 0 3),(36,iv (i:Int))] (o_s (by exact zaA (o:=3) (o':=3+5*i) rfl rfl om om) ?_))))))))))
    refine o_s (by refine zV (v:= .agg (vz p i)) rfl rfl ?_;exact pl_rS p i om om) ?_
    refine qV (zab (r7orderC p i) rfl rfl rfl (o_d 5 [(10,iv ((zaT p i).b)),(9,iv ((zaT p i).a)),(42,iv ((zaT p i).b)),(41,iv ((zaT p i).a)),(35,.tuple #[iv ((zaT p i).a),iv ((zaT p i).b)])] (zE (zA (zJ (zN (o_d 1 [(11,iv 0)] (zE (zA (qU (zcs (fun μ s=> ∃(t:Nat),∃(W2:List Int),∃(nx2:List Int),∃(f2:Int),μ=(p (3+5*i+3)).toNat - t∧((t:Int)≤p (3+5*i+3))∧(WN W2 nx2 f2)∧((W2,zi5 (zbw p 64) nx2)=itr (zcH (zbw p i).length) t (zcY (zbw p 64) (zbg (zbw p 64) r) (zbw p i).length))∧(f2≤f1∧(1≤t→f2 < f1))∧s=⟨reg ((11,iv (t:Int))::(yx p i f2)),(WF p W2 nx2)⟩) ⟨((p (3+5*i+3)).toNat - 0), ?_⟩ ?_)))))))))))
    ·skip
     refine ⟨⟨reg ((11,iv (0:Int))::(yx p i f1)),(WF p W1 nx1)⟩, ?_⟩
     refine ⟨?_, ?_⟩
     ·exact Wk.ren [0,1,2] rfl rfl dC ⟨rfl,rfl,rfl,rfl,rfl,rfl,rfl,rfl,rfl,trivial⟩ ⟨.inl (zL (zae p)),.inl (zL (qS W1)),.inl (zL (qS nx1)),trivial⟩
     ·exact ⟨0,W1,nx1,f1,rfl,om,hwn1,hS1,om,rfl⟩
    rintro μ s ⟨t,W2,nx2,f2,rfl,ht,hwn2,hS2,hf2,rfl⟩
    refine zJ (zJ (zN (o_d 3 [(45,pv 0 3),(44,iv (i:Int)),(43,iv (t:Int))] (o_s (by exact zaA (o:=3) (o':=3+5*i) rfl rfl om om) ?_))))
    refine o_s (by refine zci (o':=6+5*i) rfl om) ?_
    refine o_s (by refine zV (v:=iv (p (3+5*i+3))) rfl rfl ?_;exact zi9 p (3+5*i+3) om om) ?_
    refine o_d 2 [(50,bv (decide ((t:Int) < p (3+5*i+3)))),(49,bv (decide ((t:Int) < p (3+5*i+3))))] (zbJ (b:=decide ((t:Int) < p (3+5*i+3))) 50 rfl (fun h6=>?_) (fun h6=>?_))
    ·skip
     have h6':(t:Int) < p (3+5*i+3):=of_decide_eq_true h6
     refine o_d 3 [(53,bv (decide (f2 > 0))),(52,bv (decide (f2 > 0))),(51,iv f2)] (zE (zA (qJ (t:=decide (f2 > 0)) rfl (fun h7=>?_) (fun h7=>?_))))
     ·skip
      have h7':f2 > 0:=of_decide_eq_true h7
      refine (hwn2.found om p (show i < 64 by omega)).elim fun n hn=>?_
      refine qK (zA (zJ (qU (zJ (qU (zcs (fun μ s=> ∃(m:Nat),∃(nx3:List Int),μ=n - m∧(m≤n)∧(nx3=nx2.set i (nx2.getD i 0+(m:Int)))∧s=⟨reg ((11,iv (t:Int))::(yx p i f2)),(WF p W2 nx3)⟩) ⟨(n - 0), ?_⟩ ?_))))))
      ·skip
       refine ⟨⟨reg ((11,iv (t:Int))::(yx p i f2)),(WF p W2 nx2)⟩, ?_⟩
       refine ⟨?_, ?_⟩
       ·exact Wk.ren [0,1,2] rfl rfl dC ⟨rfl,rfl,rfl,rfl,rfl,rfl,rfl,rfl,rfl,trivial⟩ ⟨.inl (zL (zae p)),.inl (zL (qS W2)),.inl (zL (qS nx2)),trivial⟩
       ·exact ⟨0,nx2,rfl,(Nat.zero_le _),(by rw [show nx2.getD i 0+((0:Nat):Int)=nx2.getD i 0 by omega];exact (set_same7 (by rw [hwn2.nl];omega)).symm),rfl⟩
      rintro μ s ⟨m,nx3,rfl,hm,hnx,rfl⟩
      have hn1:=hn.1
      have hwr:=zf3 (zaT p i).a (zaT p i).b ((nx2.getD i 0).toNat+m)
      have hg3:nx3.getD i 0=nx2.getD i 0+(m:Int):=by rw [hnx];exact set_get7 (by rw [hwn2.nl];omega)
      have hl3:nx3.length=64:=by rw [hnx,List.length_set];exact hwn2.nl
      have hq3:=hwn2.nxr (i:=i) om
      have hfr2:=hwn2.fr
      have hmb:=mul7 (x:=nx3.getD i 0) (b:=(zaT p i).b) om (wlOf_ok p om).b
      have hya:=(wlOf_ok p (show i < 64 by omega)).a
      have hwk:((zaT p i).a+(nx3.getD i 0)*((zaT p i).b)).tmod 127=zbs (zaT p i).a (zaT p i).b ((nx2.getD i 0).toNat+m):=by rw [rem_nn om];unfold zbs;rw [hg3,show ((((nx2.getD i 0).toNat+m:Nat)):Int)=nx2.getD i 0+(m:Int) by omega]
      refine zJ (zJ (zN (o_d 3 [(58,iv (i:Int)),(57,iv ((zaT p i).a)),(56,sv 1 0 127 127)] (o_s (by exact zaA (o:=0) (o':=i) rfl rfl om om) ?_))))
      refine o_s (by refine zV (v:=iv (nx3.getD i 0)) rfl rfl ?_;exact ii_g (i:=i) rfl (by rw [hl3];omega)) ?_
      refine o_d 1 [(61,iv ((zaT p i).b))] (o_s (by refine zK (v:= .int .i64 (i64.wrap ((nx3.getD i 0)*((zaT p i).b)))) (congrArg wg (w64 om om)) ?_;kernel_rfl) ?_)
      refine o_s (by refine zK (v:= .int .i64 (i64.wrap ((zaT p i).a+(nx3.getD i 0)*((zaT p i).b)))) (congrArg wg (w64 om om)) ?_;kernel_rfl) ?_
      refine o_d 1 [(64,iv (((zaT p i).a+(nx3.getD i 0)*((zaT p i).b)).tmod 127))] (o_s (by exact zcU (o:=0) (o':=((((zaT p i).a+(nx3.getD i 0)*((zaT p i).b)).tmod 127).toNat)) rfl rfl om om) ?_)
      refine o_s (by refine zV (v:=iv (W2.getD ((((zaT p i).a+(nx3.getD i 0)*((zaT p i).b)).tmod 127).toNat) 0)) rfl rfl ?_;exact ii_g (i:=((((zaT p i).a+(nx3.getD i 0)*((zaT p i).b)).tmod 127).toNat)) rfl (by rw [hwn2.wl];omega)) ?_
      refine o_d 1 [(67,bv (decide (W2.getD ((((zaT p i).a+(nx3.getD i 0)*((zaT p i).b)).tmod 127).toNat) 0≥0)))] (zE (zA (qJ (t:=decide (W2.getD ((((zaT p i).a+(nx3.getD i 0)*((zaT p i).b)).tmod 127).toNat) 0≥0)) rfl (fun h8=>?_) (fun h8=>?_))))
      ·skip
       have h8':W2.getD ((((zaT p i).a+(nx3.getD i 0)*((zaT p i).b)).tmod 127).toNat) 0≥0:=of_decide_eq_true h8
       have hmlt:m < n:=probe_lt hm hwk hn.2.1 h8'
       refine qK (zA (qU (zN (o_d 1 [(68,iv (i:Int))] (o_s (by exact zaA (o:=0) (o':=i) rfl rfl om om) ?_)))))
       refine o_s (by refine zV (v:=iv (nx3.getD i 0)) rfl rfl ?_;exact ii_g (i:=i) rfl (by rw [hl3];omega)) ?_
       refine o_s (by refine zK (v:= .int .i64 (i64.wrap (nx3.getD i 0+1))) (congrArg wg (w64 om om)) ?_;kernel_rfl) ?_
       refine o_s (by exact zaA (o:=0) (o':=i) rfl rfl om om) ?_
       refine zdj (by refine zao (c':=ii (nx3.set i (nx3.getD i 0+1))) rfl rfl rfl ?_ ?_ ?_;exact rfl;exact (by rw [zaz,hl3];omega);exact ii_w (i:=i) rfl (by rw [hl3];omega)) ?_
       refine zE (⟨n - (m+1), ?_⟩)
       refine ⟨⟨reg ((11,iv (t:Int))::(yx p i f2)),[cw (pl p),cw (ii W2),cw (ii (nx3.set i (nx3.getD i 0+1)))]⟩, ?_⟩
       refine zde om ⟨?_, ?_⟩
       ·exact Wk.ren [0,1,2] rfl rfl dC ⟨rfl,rfl,rfl,rfl,rfl,rfl,rfl,rfl,rfl,trivial⟩ ⟨.inl (zL (zae p)),.inl (zL (qS W2)),.inl (zL (qS (nx3.set i (nx3.getD i 0+1)))),trivial⟩
       ·exact ⟨(m+1),(nx3.set i (nx3.getD i 0+1)),rfl,om,(by rw [hg3,hnx,List.set_set];congr 1;omega),rfl⟩
      have h8': ¬(W2.getD ((((zaT p i).a+(nx3.getD i 0)*((zaT p i).b)).tmod 127).toNat) 0≥0):=of_decide_eq_false h8
      have hmn:m=n:=probe_eq hwn2 hm hwk hn.2.2.1 h8'
      refine zb1 (zA (zJ (zN (o_d 3 [(75,iv (i:Int)),(74,iv ((zaT p i).a)),(73,sv 1 0 127 127)] (o_s (by exact zaA (o:=0) (o':=i) rfl rfl om om) ?_)))))
      refine o_s (by refine zV (v:=iv (nx3.getD i 0)) rfl rfl ?_;exact ii_g (i:=i) rfl (by rw [hl3];omega)) ?_
      refine o_d 1 [(78,iv ((zaT p i).b))] (o_s (by refine zK (v:= .int .i64 (i64.wrap ((nx3.getD i 0)*((zaT p i).b)))) (congrArg wg (w64 om om)) ?_;kernel_rfl) ?_)
      refine o_s (by refine zK (v:= .int .i64 (i64.wrap ((zaT p i).a+(nx3.getD i 0)*((zaT p i).b)))) (congrArg wg (w64 om om)) ?_;kernel_rfl) ?_
      refine o_d 2 [(82,iv (i:Int)),(81,iv (((zaT p i).a+(nx3.getD i 0)*((zaT p i).b)).tmod 127))] (o_s (by exact zcU (o:=0) (o':=((((zaT p i).a+(nx3.getD i 0)*((zaT p i).b)).tmod 127).toNat)) rfl rfl om om) ?_)
      refine zdj (by refine zao (c':=ii (W2.set ((((zaT p i).a+(nx3.getD i 0)*((zaT p i).b)).tmod 127).toNat) (i:Int))) rfl rfl rfl ?_ ?_ ?_;exact rfl;exact (by rw [zaz,hwn2.wl];omega);exact ii_w (i:=((((zaT p i).a+(nx3.getD i 0)*((zaT p i).b)).tmod 127).toNat)) rfl (by rw [hwn2.wl];omega)) ?_
      refine zE (zU ((11,iv (t:Int))::(yx p i f2)) (zN (o_d 1 [(84,iv f2)] (o_s (by refine zK (v:= .int .i64 (i64.wrap (f2 - 1))) (congrArg wg (w64 om om)) ?_;kernel_rfl) ?_))))
      refine o_d 1 [(6,iv (f2 - 1))] (zE (zA (zN (o_d 1 [(54,iv (t:Int))] (o_s (by refine zK (v:= .int .i64 (i64.wrap ((t:Int)+1))) (congrArg wg (w64 om om)) ?_;kernel_rfl) ?_)))))
      refine o_d 1 [(11,iv ((t:Int)+1))] (zE (⟨(p (3+5*i+3)).toNat - (t+1), ?_⟩))
      refine ⟨⟨reg ((11,iv ((t+1):Int))::(10,iv ((zaT p i).b))::(9,iv ((zaT p i).a))::(7,bv true)::(8,iv (i:Int))::(6,iv (f2 - 1))::yG),[cw (pl p),cw (ii (W2.set ((((zaT p i).a+(nx3.getD i 0)*((zaT p i).b)).tmod 127).toNat) (i:Int))),cw (ii nx3)]⟩, ?_⟩
      refine zde om ⟨?_, ?_⟩
      ·exact Wk.ren [0,1,2] rfl rfl dC ⟨rfl,rfl,rfl,rfl,rfl,rfl,rfl,rfl,rfl,trivial⟩ ⟨.inl (zL (zae p)),.inl (zL (qS (W2.set ((((zaT p i).a+(nx3.getD i 0)*((zaT p i).b)).tmod 127).toNat) (i:Int)))),.inl (zL (qS nx3)),trivial⟩
      ·exact ⟨(t+1),(W2.set ((((zaT p i).a+(nx3.getD i 0)*((zaT p i).b)).tmod 127).toNat) (i:Int)),nx3,(f2 - 1),rfl,om,(by rw [hwk,hnx,hmn];exact WN.step hwn2 om om hn.1 (walk_lt _ _ _) hn.2.1),(by rw [hwk,hnx,hmn];exact step7 hwn2 om om hac hn.2.2.2 hS2),om,rfl⟩
     have h7': ¬(f2 > 0):=of_decide_eq_false h7
     refine zb1 (zA (zN (o_d 1 [(27,iv (i:Int))] (o_s (by refine zK (v:= .int .i64 (i64.wrap ((i:Int)+1))) (congrArg wg (w64 om om)) ?_;kernel_rfl) ?_))))
     refine o_d 1 [(8,iv ((i:Int)+1))] (zE (⟨64 - (i+1), ?_⟩))
     refine ⟨⟨reg ((8,iv ((i+1):Int))::(7,bv true)::(6,iv f2)::yG),(WF p W2 nx2)⟩, ?_⟩
     refine zde om ⟨?_, ?_⟩
     ·exact Wk.ren [0,1,2] rfl rfl dC ⟨rfl,rfl,rfl,rfl,rfl,rfl,trivial⟩ ⟨.inl (zL (zae p)),.inl (zL (qS W2)),.inl (zL (qS nx2)),trivial⟩
     ·exact ⟨(i+1),W2,nx2,f2,true,rfl,om,hwn2,(slot7 hwn2 om hac hw8 ht hS2 (by have:=hwn2.fr;omega)),⟨om,fun e=>(by cases e),fun _=>by have:=hwn2.fr;omega⟩,rfl⟩
    have h6': ¬((t:Int) < p (3+5*i+3)):=of_decide_eq_false h6
    refine o_d 3 [(53,bv false),(52,undef),(51,undef)] (zE (zA (zbc rfl (zb1 (zA (zN (o_d 1 [(27,iv (i:Int))] (o_s (by refine zK (v:= .int .i64 (i64.wrap ((i:Int)+1))) (congrArg wg (w64 om om)) ?_;kernel_rfl) ?_))))))))
    refine o_d 1 [(8,iv ((i:Int)+1))] (zE (⟨64 - (i+1), ?_⟩))
    refine ⟨⟨reg ((8,iv ((i+1):Int))::(7,bv true)::(6,iv f2)::yG),(WF p W2 nx2)⟩, ?_⟩
    refine zde om ⟨?_, ?_⟩
    ·exact Wk.ren [0,1,2] rfl rfl dC ⟨rfl,rfl,rfl,rfl,rfl,rfl,trivial⟩ ⟨.inl (zL (zae p)),.inl (zL (qS W2)),.inl (zL (qS nx2)),trivial⟩
    ·exact ⟨(i+1),W2,nx2,f2,true,rfl,om,hwn2,(slot7 hwn2 om hac hw8 ht hS2 (by have:=hwn2.fr;omega)),⟨om,fun e=>(by cases e),fun _=>by have:=hwn2.fr;omega⟩,rfl⟩
   have h4': ¬((i:Int) < 64):=of_decide_eq_false h4
   refine zb1 (⟨f1.toNat+ag1.toNat, ?_⟩)
   refine ⟨⟨reg ((7,bv ag1)::(6,iv f1)::yG),(WF p W1 nx1)⟩, ?_⟩
   refine zde om ⟨?_, ?_⟩
   ·exact Wk.ren [0,1,2] rfl rfl dC ⟨rfl,rfl,rfl,rfl,rfl,trivial⟩ ⟨.inl (zL (zae p)),.inl (zL (qS W1)),.inl (zL (qS nx1)),trivial⟩
   ·exact ⟨(r+1),W1,nx1,f1,ag1,rfl,hwn1,(by rw [hS1,show i=64 by omega];rfl),(out7 hg1 (show i=64 by omega) hr),(fun e=>by have h:=hg1.2.1 e;rwa [show i=64 by omega] at h),rfl⟩
  have h3': ¬(f > 0):=of_decide_eq_false h3
  refine zb1 (zA (zJ (zN (o_d 2 [(2,sv 1 0 127 127),(86,sv 1 0 127 127)] (zE (zA (qW ?_)))))))
  have hW9:W=zZ p:=fin7 hwn hS hr (.inr om)
  exact ⟨trivial,⟨reg [(2,sv 0 0 127 127)],[cw (ii W)]⟩,Wk.ren [1] rfl rfl dC ⟨rfl,trivial⟩ ⟨.inl (zL (qS W)),trivial⟩,[sv 0 0 127 127],(zT rfl rfl),(zM rfl z5),rfl,(by rw [hW9])⟩
 refine o_d 3 [(24,bv false),(23,undef),(22,undef)] (zE (zA (zbc rfl (zb1 (zA (zJ (zN (o_d 2 [(2,sv 1 0 127 127),(86,sv 1 0 127 127)] (zE (zA (qW ?_)))))))))))
 have hW9:W=zZ p:=fin7 hwn hS hr (.inl (hag h2))
 exact ⟨trivial,⟨reg [(2,sv 0 0 127 127)],[cw (ii W)]⟩,Wk.ren [1] rfl rfl dC ⟨rfl,trivial⟩ ⟨.inl (zL (qS W)),trivial⟩,[sv 0 0 127 127],(zT rfl rfl),(zM rfl z5),rfl,(by rw [hW9])⟩
theorem r7PickC {P:Program} [PrC P] (W:List Int) (f:Fl) (hW:W.length=127):
    Env P "roundhouse/roundhouseref7.Pick" [sv 0 0 127 127,.agg (wK f)] ([cr (ii W)]) (fun v h'=>v=iv (zbp W f)∧h'= [cr (ii W)]):=by
 refine Env.by2 PrC.ref7_Pick ?_
 unfold ziI
 show GC _ 1 _ _ ⟨reg [(0,sv 0 0 127 127),(1,.agg (wK f))],[cr (ii W)]⟩
 have hsr:=zdG (m:=127) (ns:= (vk f)) dC
 unfold za2 at hsr
 have hrw:=words_rng 0 0 (vk f)
 have hrn:(zan 0 0 (vk f)).tmod 127=zan 0 0 (vk f) % 127:=rem_nn om
 refine zJ (zN (o_b 2 [(4,iv 0),(3,pv 1 0)] [cr (ii W),cw (w5 f)] (zE (zA (zJ (zN (o_b 11 [(15,sv 2 0 5 5),(14,iv f.tp),(13,pv 1 3),(12,iv f.ta),(11,pv 1 2),(10,iv f.p),(9,pv 1 1),(8,iv f.a),(7,pv 1 0),(6,.agg #[uv 0,uv 0]),(5,sv 0 0 127 127)] [cr (ii W),cw (w5 f),cw [iv 3,iv f.a,iv f.p,iv f.ta,iv f.tp]] (qV (zdD (a1:= [.agg #[uv 0,uv 0],sv 0 0 5 5]) [2] [ii (vk f)] (zgf 0 0 (vk f) (by first | omega | decide | (simp;done))) rfl (fun _=>zQ (qN rfl) (zQ rfl rfl)) ⟨⟨_,rfl⟩,qS _,trivial⟩ rfl ?_)))))))))
 refine o_d 1 [(17,uv ((zan 0 0 (vk f)).tmod 127))] (o_s (by exact zcU (o:=0) (o':=(((zan 0 0 (vk f)).tmod 127).toNat)) rfl rfl om om) ?_)
 refine o_s (by refine zV (v:=iv (W.getD (((zan 0 0 (vk f)).tmod 127).toNat) 0)) rfl rfl ?_;exact ii_g (i:=(((zan 0 0 (vk f)).tmod 127).toNat)) rfl (by rw [hW];omega)) ?_
 exact o_d 1 [(4,iv (W.getD (((zan 0 0 (vk f)).tmod 127).toNat) 0))] (zE (zA (qW (⟨trivial,⟨reg [(4,iv (W.getD (((zan 0 0 (vk f)).tmod 127).toNat) 0))],[cr (ii W)]⟩,Wk.ren [0] rfl rfl dC ⟨rfl,trivial⟩ ⟨.inl (zL (qS W)),trivial⟩,[iv (W.getD (((zan 0 0 (vk f)).tmod 127).toNat) 0)],(zT rfl rfl),(zM rfl z5),(by rw [hrn];rfl),rfl⟩))))
end Go.Rh

set_option maxHeartbeats 1000000
namespace Go.Rh
abbrev ws a (b:zdU) (c:Nat) d e (f:List Int) g:=cw (zR a true b (slV 2 127 (some c)))::zG (some (d,e)) (u8 f) false::slB zI (ii (zZ a)) (some c)::g
abbrev yc a (b:List Int) c d:=[zG (zD a.op) (u8 a.op) true,zG (zD a.da) (u8 a.da) true,cw (wM a 4 5),cw (qR a (zD a.op) 4 (zD a.da) 5 0 (wa b) c b.length),zG (wa b) (u8 d) true]
theorem TakeC9 {P:Program} [PrC P] (p:qZ) (nr:zdU) (w9:Nat) (q:Option (Nat×Nat)) (L l:List Int) (hr:RowOf q L l) (hl:l.length≤100000) (H:PRng p) (hnr: ∀k,0≤(nr k).1∧(nr k).1 < 4294967296) (hnf:(qX l).2.k≠3):
    Env P "(*roundhouse/plane.Plane).Take" [pv 0 0,zS q 1 l.length] ([cw (zR p true nr (wx 2 w9)),zG q (u8 L) false,slB zI (ii (zZ p)) (some w9)]) (fun v h'=>v=ocV (zaK p nr l).1 3∧h'= [cw (zR p true (zaK p nr l).2 (wx 2 w9)),zG q (u8 L) false,slB zI (ii (zZ p)) (some w9),zG (zD (zaK p nr l).1.b) (u8 (zaK p nr l).1.b) true]):=by
 refine Env.by4 PrC.plane_Plane_Take ?_
 unfold zcE
 show GC _ 3 _ _ ⟨reg [(0,pv 0 0),(1,zS q 1 l.length)],[cw (zR p true nr (wx 2 w9)),zG q (u8 L) false,slB zI (ii (zZ p)) (some w9)]⟩
 have hp1:=H.a
 have hp2:=H.b
 refine zJ (zN (o_b 1 [(4,pv 3 0)] [cw (zR p true nr (wx 2 w9)),zG q (u8 L) false,slB zI (ii (zZ p)) (some w9),cw wm] (zE (zA (zJ (zJ (zN (o_d 4 (wJ 13 0 330 12 0 11 0 10 0) (o_s (by refine zV (v:=bv true) rfl rfl ?_;exact (zfp 0).trans rfl) ?_)))))))))
 refine o_d 1 [(15,bv false)] (zE (zA (zbc rfl (qK (zA (zJ (zN (o_d 1 (vF 18 q 1 l) ?_))))))))
 obtain ⟨⟨e1,xe1⟩,he1⟩: ∃z9,qX l=z9:=⟨_,rfl⟩
 refine qV (zaD [1] (wA q L) (WO q l) (ParseC3 he1 (ParseC q L l hr om)) rfl (zQ (qG rfl) rfl) ⟨⟨_,rfl,z4 (zH _) rfl (fun q=>q)⟩,trivial⟩ dC ?_)
 rintro v1 h1' ⟨rfl,rfl⟩
 refine ⟨q9 [_] [_,_],.tuple #[pkV xe1 (zD xe1.op) 4 (zD xe1.da) 5,iv e1],[cw (zR p true nr (wx 2 w9)),zG q (u8 L) false,slB zI (ii (zZ p)) (some w9),cw wm],[zG (zD xe1.op) (u8 xe1.op) true,zG (zD xe1.da) (u8 xe1.da) true],(ren_pkT rfl rfl),⟨rfl,(zaV rfl rfl),rfl,rfl,trivial⟩,⟨(Option.some.inj (zF (zH _))).symm,(Option.some.inj (zF (zH _))).symm,trivial⟩, ?_⟩
 refine o_b 6 [(6,iv e1),(5,pv 6 0),(21,iv e1),(20,pkV xe1 (zD xe1.op) 4 (zD xe1.da) 5),(17,.tuple #[pkV xe1 (zD xe1.op) 4 (zD xe1.da) 5,iv e1])] [cw (zR p true nr (wx 2 w9)),zG q (u8 L) false,slB zI (ii (zZ p)) (some w9),cw wm,zG (zD xe1.op) (u8 xe1.op) true,zG (zD xe1.da) (u8 xe1.da) true,cw (wM xe1 4 5)] (zE (zA (zJ (qU (zJ (zN (o_d 3 [(22,bv (e1 !=0)),(24,bv (e1 !=0)),(23,iv e1)] (zE (zA (qJ (t:=e1 !=0) rfl (fun h2=>?_) (fun h2=>?_)))))))))))
 ·skip
  have h2':e1≠0:=ze5 h2
  refine zJ (zN (o_d 1 [(25,iv e1)] (qV (zab (dropC e1) rfl rfl rfl (o_b 1 [] [cw (zR p true nr (wx 2 w9)),zG q (u8 L) false,slB zI (ii (zZ p)) (some w9),cw [iv e1,iv (-1),bv false,.slice none 0 0],zG (zD xe1.op) (u8 xe1.op) true,zG (zD xe1.da) (u8 xe1.da) true,cw (wM xe1 4 5)] (zE (zA (qW ?_))))))))
  have he:zaK p nr l=(zeB e1,nr):=take_e he1 (by assumption)
  exact ⟨trivial,[.agg #[iv e1,iv (-1),bv false,.slice none 0 0]],(q8 rfl rfl rfl rfl),(zM rfl z5),⟨reg [],[cw (zR p true nr (wx 2 w9)),zG q (u8 L) false,slB zI (ii (zZ p)) (some w9),.gone]⟩,[0,1,2,10],[.agg #[iv e1,iv (-1),bv false,.slice none 0 0]],WkR.of (rs:= []) rfl rfl dC trivial ⟨.inl (qH rfl),.inl (zF (zH _)),.inl (zaa (some w9) (fun _=>(zaq _ _))),.inr ⟨rfl,rfl⟩,trivial⟩,(zQ (zbB (q:=none) (k:=0) (k':=0) (n:=0) rfl) rfl),(by rw [he];rfl),(by rw [he];rfl)⟩
 have h2': ¬(e1≠0):=ze6 h2
 have hk3: ¬xe1.k=3:=by have:=hnf;rw [he1] at this;exact this
 have he0:e1=0:=om
 subst he0
 have hp9:=he1
 have hl9:=zcZ hp9
 have hx9:=zfs hp9
 have hop9:xe1.op.length+24≤l.length:=by rw [(ze4 hp9).2];exact pk_op hl9.1
 obtain ⟨o,c,rfl⟩: ∃o c,q=some (o,c):=by cases q with | none=>(have:=hr.nil rfl;omega) | some p=>exact ⟨p.1,p.2,rfl⟩
 refine zJ (zN (o_d 1 [(28,pv 6 2)] (o_s (by refine zV (v:=iv xe1.pi) rfl rfl ?_;exact rfl) ?_)))
 refine o_d 2 [(27,bv (xe1.pi !=0)),(30,bv (xe1.pi !=0))] (zE (zA (qJ (t:=xe1.pi !=0) rfl (fun h3=>?_) (fun h3=>?_))))
 ·skip
  have h3':xe1.pi≠0:=ze5 h3
  refine zJ (zN (qV (zab (dropC 6) rfl rfl rfl (o_b 1 [] (ws p nr w9 o c L [cw (yt 6),zG (zD xe1.op) (u8 xe1.op) true,zG (zD xe1.da) (u8 xe1.da) true,cw (wM xe1 4 5)]) (zE (zU [(4,pv 3 0)] (qW ?_)))))))
  have he:zaK p nr l=(zeB 6,nr):=take_pi hp9 (by assumption)
  exact ⟨trivial,[.agg (yB 6)],(q8 rfl rfl rfl rfl),(zM rfl z5),⟨reg [],(ws p nr w9 o c L [.gone])⟩,[0,1,2,10],[.agg (yB 6)],WkR.of (rs:= []) rfl rfl dC trivial ⟨.inl (qH rfl),.inl (zF (zH _)),.inl (zaa (some w9) (fun _=>(zaq _ _))),.inr ⟨rfl,rfl⟩,trivial⟩,(zQ (zbB (q:=none) (k:=0) (k':=0) (n:=0) rfl) rfl),(by rw [he];rfl),(by rw [he];rfl)⟩
 have h3': ¬(xe1.pi≠0):=ze6 h3
 refine zJ (zN (o_d 1 [(33,pv 6 1)] (o_s (by refine zV (v:=iv xe1.li) rfl rfl ?_;exact rfl) ?_)))
 refine o_d 2 [(32,bv (decide (xe1.li < 2))),(35,bv (decide (xe1.li < 2)))] (zE (zU [(32,bv (decide (xe1.li < 2))),(5,pv 6 0),(4,pv 3 0),(0,pv 0 0),(1,zS (wZ o c) 1 l.length)] (qJ (t:=decide (xe1.li < 2)) rfl (fun h4=>?_) (fun h4=>?_))))
 ·skip
  have h4':xe1.li < 2:=of_decide_eq_true h4
  refine zJ (zN (qV (zab (dropC 7) rfl rfl rfl (o_b 1 [] (ws p nr w9 o c L [cw (yt 7),zG (zD xe1.op) (u8 xe1.op) true,zG (zD xe1.da) (u8 xe1.da) true,cw (wM xe1 4 5)]) (zE (zA (qW ?_)))))))
  have he:zaK p nr l=(zeB 7,nr):=take_li hp9 om (by assumption)
  exact ⟨trivial,[.agg (yB 7)],(q8 rfl rfl rfl rfl),(zM rfl z5),⟨reg [],(ws p nr w9 o c L [.gone])⟩,[0,1,2,10],[.agg (yB 7)],WkR.of (rs:= []) rfl rfl dC trivial ⟨.inl (qH rfl),.inl (zF (zH _)),.inl (zaa (some w9) (fun _=>(zaq _ _))),.inr ⟨rfl,rfl⟩,trivial⟩,(zQ (zbB (q:=none) (k:=0) (k':=0) (n:=0) rfl) rfl),(by rw [he];rfl),(by rw [he];rfl)⟩
 have h4': ¬(xe1.li < 2):=of_decide_eq_false h4
 refine qK (zA (zJ (zN (o_s (by refine zV (v:=pkV xe1 (zD xe1.op) 4 (zD xe1.da) 5) rfl rfl ?_;exact rfl) ?_))))
 refine o_d 2 [(39,zS (wZ o c) 1 l.length),(38,pv 0 0)] (o_s (by refine zeu (c:=qR xe1 (zD xe1.op) 4 (zD xe1.da) 5 0 (wZ o c) 1 l.length) ?_;exact bld_pack) ?_)
 refine o_b 2 [(7,pv 7 0),(41,pv 7 0)] (ws p nr w9 o c L [cw wm,zG (zD xe1.op) (u8 xe1.op) true,zG (zD xe1.da) (u8 xe1.da) true,cw (wM xe1 4 5),cw (qR xe1 (zD xe1.op) 4 (zD xe1.da) 5 0 (wZ o c) 1 l.length)]) (zE (zA (zJ (zN (o_d 2 [(43,zS (wZ o c) 1 l.length),(42,pv 7 0)] ?_)))))
 obtain ⟨m5,hm5⟩: ∃z9,ageL l xe1.ba=z9:=⟨_,rfl⟩
 have hm5a:Alike l m5:=by rw [←hm5];exact age_alike hp9 om
 have hm5p:=hm5a.parse hp9
 have hm5l:=hm5p.2.2.2
 have hm5k:=hm5p.2.1
 have hm5b:=hm5p.2.2.1
 have hm5e:m5.length=l.length:=hm5l
 refine qV (zaD [1] (xU o c L) [zS (wZ o c) 0 l.length] (chgR hm5 rfl (AgeC _ _ L l hr xe1 hp9 om)) rfl rfl ⟨⟨_,rfl,z4 (zH _) rfl (fun q=>q)⟩,trivial⟩ dC ?_)
 rintro v1 h1' ⟨rfl,rfl⟩
 refine ⟨za6 rfl,.tuple #[zS (wa l) 8 l.length,iv 0],(ws p nr w9 o c L [cw wm,zG (zD xe1.op) (u8 xe1.op) true,zG (zD xe1.da) (u8 xe1.da) true,cw (wM xe1 4 5),cw (qR xe1 (zD xe1.op) 4 (zD xe1.da) 5 0 (wZ o c) 1 l.length)]),(W4 l m5),((zdJ _).trans rfl),⟨rfl,rfl,rfl,rfl,rfl,rfl,rfl,rfl,trivial⟩,⟨(Option.some.inj (zF (zH _))).symm,trivial⟩, ?_⟩
 refine o_d 2 [(46,iv 0),(45,zS (wa l) 8 l.length)] (qV (zd1 [7,4,5,0,1,8] [cw (qR xe1 (zD xe1.op) 1 (zD xe1.da) 2 3 (wZ o c) 4 l.length),zaG ((zD xe1.op).isSome),zaG ((zD xe1.da).isSome),cr [],cr [],cr []] [pv 0 0,zS (wa l) 5 l.length,iv 0] (thenC xe1 (zD xe1.op) (zD xe1.da) o c l.length 0 l.length l.length ((zD xe1.op).isSome) ((zD xe1.da).isSome)) rfl rfl ⟨⟨_,rfl,zav (.inl (zb4 rfl rfl rfl rfl (fun q=>rfl)))⟩,⟨_,rfl,(zcw (zD xe1.op))⟩,⟨_,rfl,(zcw (zD xe1.da))⟩,⟨_,rfl,zaI⟩,⟨_,rfl,zaI⟩,⟨_,rfl,zaI⟩,trivial⟩ dC ?_))
 rintro v1 h1' ⟨rfl,rfl⟩
 refine ⟨(zW zaO (zW qC (zW qC (zW qC (zW qC (zW qC zap)))))),.tuple #[],(ws p nr w9 o c L (cw wm::(yc xe1 l 8 m5))),[],(by simp [zaF]),⟨rfl,rfl,rfl,rfl,(by first | exact hid1 dC rfl | exact row1 dC rfl),(by first | exact hid2 dC dC rfl | exact row2 dC dC rfl),rfl,zbZ rfl rfl rfl rfl,rfl,trivial⟩,trivial, ?_⟩
 refine zE (zA (zJ (zJ (zN (o_d 1 [(48,pv 6 0)] (o_s (by refine zV (v:=iv xe1.k) rfl rfl ?_;exact rfl) ?_))))))
 refine o_d 1 [(50,bv (xe1.k==3))] (zE (zA (qJ (t:=xe1.k==3) rfl (fun q=>by rw [(by exact beq_eq_false_iff_ne.2 hk3:(xe1.k==3)=false)] at q;cases q) (fun _=>?_))))
 refine qK (zA (zf2 (fun s=>0=0∧(¬xe1.k=3)∧(¬(xe1.t=p 1∧xe1.tp=p 2))∧s=⟨reg (wJ 7 7 0 5 6 4 3 0 0),(ws p nr w9 o c L (cw wm::(yc xe1 l 8 m5)))⟩) ?_ ?_))
 ·skip
  refine zJ (zbe [] (r_d 1 [(63,pv 6 4)] (r_s (by refine zV (v:=iv xe1.t) rfl rfl ?_;exact rfl) ?_)))
  refine r_d 5 ((69,pv 0 1)::(wJ 68 0 0 67 0 66 0 65 0)) (r_s (by refine zV (v:=iv (p 1)) rfl rfl ?_;exact zex (zi9 p 1 rfl om)) ?_)
  refine r_d 2 [(72,bv (xe1.t==(p 1))),(71,bv (xe1.t==(p 1)))] (r_sp (b:=xe1.t==(p 1)) 72 rfl (fun h6=>?_) (fun h6=>?_))
  ·skip
   have h6':xe1.t=p 1:=zaQ h6
   refine r_d 1 [(73,pv 6 6)] (zd9 rfl (r_s (by refine zV (v:=iv xe1.tp) rfl rfl ?_;exact rfl) ?_))
   refine r_d 5 ((79,pv 0 2)::(wJ 78 0 0 77 0 76 0 75 0)) (zd9 rfl (r_s (by refine zV (v:=iv (p 2)) rfl rfl ?_;exact zex (zi9 p 2 rfl om)) ?_))
   refine r_d 2 [(82,bv (xe1.tp==(p 2))),(81,bv (xe1.tp==(p 2)))] (za3 (zU ((82,bv (xe1.tp==(p 2)))::(wJ 7 7 0 5 6 4 3 0 0)) (qJ (t:=xe1.tp==(p 2)) rfl (fun h7=>?_) (fun h7=>?_))))
   ·skip
    have h7':xe1.tp=p 2:=zaQ h7
    refine zJ (zN (o_d 1 [(83,pv 7 0)] (qV (zd1 [7,4,5,0,8,2] [cw (qR xe1 (zD xe1.op) 1 (zD xe1.da) 2 3 (wa l) 4 l.length),zG (zD xe1.op) (u8 xe1.op) false,zaG ((zD xe1.da).isSome),cr (zR p true nr (wx 5 w9)),zG (wa l) (u8 m5) false,slB zI (ii (zZ p)) (some w9)] [pv 0 0] (inW p true nr w9 xe1 (zD xe1.da) ((zD xe1.da).isSome) m5 (ze3 m5) hm5p.1 hm5k hm5b (by assumption) om H hnr l.length hm5l) rfl rfl ⟨⟨_,rfl,zav (.inl (zb4 rfl rfl rfl rfl (fun q=>rfl)))⟩,⟨_,rfl,zav (z4 (q:=zD xe1.op) (q':=zD xe1.op) (zH _) rfl (fun q=>rfl))⟩,⟨_,rfl,(zcw (zD xe1.da))⟩,⟨_,rfl,zav (.inl (zaX rfl (fun q=>rfl)))⟩,⟨_,rfl,zav (z4 (q:=some (0,l.length)) (q':=some (0,l.length)) (zH _) rfl (fun q=>rfl))⟩,⟨_,rfl,zav (zhH (some w9) (fun _=>(zaq _ _)))⟩,trivial⟩ dC ?_))))
    rintro v1 h1' (⟨hi1,rfl,rfl⟩ | ⟨k8,hi1,hi2,rfl,rfl⟩)
    ·skip
     refine ⟨(zW qC (zW qC (zW qC (zW qC (zW qC (zW qC zap)))))),.agg (yB 9),(ws p nr w9 o c L (cw wm::(yc xe1 l 8 m5))),[],(qN rfl),⟨rfl,rfl,(by rcases some w9 with _ | m9<;>first | rfl | exact zbn (zaq _ _)),rfl,(by first | exact hid1 dC rfl | exact row1 dC rfl),(by first | exact hid2 dC dC rfl | exact row2 dC dC rfl),rfl,zbZ rfl rfl rfl rfl,rfl,trivial⟩,trivial, ?_⟩
     refine o_b 1 [] (ws p nr w9 o c L (cw (yt 9)::(yc xe1 l 8 m5))) (zE (zA (qW ?_)))
     have he:zaK p nr l=(zeB 9,nr):=(take_go hp9 om om hm5).trans (go_i1 (by assumption) om hi1)
     exact ⟨trivial,[.agg (yB 9)],(q8 rfl rfl rfl rfl),(zM rfl z5),⟨reg [],(ws p nr w9 o c L [.gone])⟩,[0,1,2,12],[.agg (yB 9)],WkR.of (rs:= []) rfl rfl dC trivial ⟨.inl (qH rfl),.inl (zF (zH _)),.inl (zaa (some w9) (fun _=>(zaq _ _))),.inr ⟨rfl,rfl⟩,trivial⟩,(zQ (zbB (q:=none) (k:=0) (k':=0) (n:=0) rfl) rfl),(by rw [he];rfl),(by rw [he];rfl)⟩
    refine ⟨(zW zaO (zW qC (zW qC (zW qC (zW qC (zW qC zap)))))),.agg #[iv 0,iv (k8:Int),bv ((inP p xe1).2),zS (wa l) 9 l.length],(ws p nr w9 o c L (cw wm::(yc xe1 l 9 m5))),[zG (wa l) (u8 (inL p nr xe1 m5 k8)) true],(zbB rfl),⟨rfl,rfl,(by rcases some w9 with _ | m9<;>first | rfl | exact zbn (zaq _ _)),rfl,(by first | exact hid1 dC rfl | exact row1 dC rfl),(by first | exact hid2 dC dC rfl | exact row2 dC dC rfl),rfl,zbZ rfl rfl rfl rfl,rfl,trivial⟩,⟨(Option.some.inj (zF (zH _))).symm,trivial⟩, ?_⟩
    refine o_b 1 [] (ws p nr w9 o c L [cw [iv 0,iv (k8:Int),bv ((inP p xe1).2),zS (wa l) 9 l.length],zG (zD xe1.op) (u8 xe1.op) true,zG (zD xe1.da) (u8 xe1.da) true,cw (wM xe1 4 5),cw (qR xe1 (zD xe1.op) 4 (zD xe1.da) 5 0 (wa l) 9 l.length),zG (wa l) (u8 m5) true,zG (wa l) (u8 (inL p nr xe1 m5 k8)) true]) (zE (zA (qW ?_)))
    have he:zaK p nr l=(⟨0,(k8:Int),(inP p xe1).2,(inL p nr xe1 m5 k8)⟩,nr):=(take_go hp9 om om hm5).trans (go_i2 (by assumption) om hi1)
    have hlen:(inL p nr xe1 m5 k8).length=l.length:=inL_length.trans hm5l
    exact ⟨trivial,[.agg #[iv 0,iv (k8:Int),bv ((inP p xe1).2),zS (wa l) 9 l.length]],(q8 rfl rfl rfl rfl),(zM rfl z5),⟨reg [],(ws p nr w9 o c L [zG (wa l) (u8 (inL p nr xe1 m5 k8)) true])⟩,[0,1,2,9],[.agg #[iv 0,iv (k8:Int),bv ((inP p xe1).2),zS (wa l) 3 l.length]],WkR.of (rs:= []) rfl rfl dC trivial ⟨.inl (qH rfl),.inl (zF (zH _)),.inl (zaa (some w9) (fun _=>(zaq _ _))),.inl (zF (zH _)),trivial⟩,(zQ (zbB rfl) rfl),(by rw [he];exact (oc_some hlen om).symm),(by rw [he];show _= [_,_,_,zG (zD _) _ true];rw [ob_some hlen om])⟩
   have h7': ¬(xe1.tp=p 2):=zaR h7
   refine qK (⟨⟨reg (wJ 7 7 0 5 6 4 3 0 0),(ws p nr w9 o c L (cw wm::(yc xe1 l 8 m5)))⟩, ?_⟩)
   refine ⟨?_, ?_⟩
   ·exact Wk.ren [0,1,2,3,4,5,6,7,8] rfl rfl dC ⟨rfl,rfl,rfl,rfl,trivial⟩ ⟨.inl (qH rfl),.inl (zF (zH _)),.inl (zaa (some w9) (fun _=>(zaq _ _))),.inl rfl,.inl (zF (zH _)),.inl (zF (zH _)),.inl (zcj rfl rfl),.inl (zay rfl rfl rfl rfl),.inl (zF (zH _)),trivial⟩
   ·exact ⟨rfl,(by assumption),om,rfl⟩
  have h6': ¬(xe1.t=p 1):=zaR h6
  refine r_d 10 ((82,bv false)::(81,undef)::(80,undef)::(79,undef)::(78,undef)::(77,undef)::(vG 76 75 74 73)) (za3 (zU [(82,bv false),(7,pv 7 0),(5,pv 6 0),(4,pv 3 0),(0,pv 0 0)] (zbc rfl (qK (⟨⟨reg (wJ 7 7 0 5 6 4 3 0 0),(ws p nr w9 o c L (cw wm::(yc xe1 l 8 m5)))⟩, ?_⟩)))))
  refine ⟨?_, ?_⟩
  ·exact Wk.ren [0,1,2,3,4,5,6,7,8] rfl rfl dC ⟨rfl,rfl,rfl,rfl,trivial⟩ ⟨.inl (qH rfl),.inl (zF (zH _)),.inl (zaa (some w9) (fun _=>(zaq _ _))),.inl rfl,.inl (zF (zH _)),.inl (zF (zH _)),.inl (zcj rfl rfl),.inl (zay rfl rfl rfl rfl),.inl (zF (zH _)),trivial⟩
  ·exact ⟨rfl,(by assumption),om,rfl⟩
 rintro s ⟨-,hk3,hnot,rfl⟩
 refine zJ (zbe [] (r_d 4 (wJ 89 0 0 88 0 87 0 86 0) (r_s (by refine zV (v:=zaw p) rfl rfl ?_;exact zex (zaS p)) ?_)))
 refine r_d 1 [(91,pv 6 3)] (r_s (by refine zV (v:=iv xe1.fr) rfl rfl ?_;exact rfl) ?_)
 refine r_d 1 [(93,pv 6 5)] (r_s (by refine zV (v:=iv xe1.fp) rfl rfl ?_;exact rfl) ?_)
 obtain ⟨sl,hsl⟩: ∃s:Nat,(zbR (zep p xe1.fr xe1.fp) 0 64).1=(s:Int):=⟨(zbR (zep p xe1.fr xe1.fp) 0 64).1.toNat,by have:=find_r (h:=zep p xe1.fr xe1.fp) 64 0 om;omega⟩
 have hslr:=(find_r (h:=zep p xe1.fr xe1.fp) 64 0 om).2
 refine zeJ (zba (FindC2 hsl (FindC p xe1.fr xe1.fp)) rfl (all_cons (zbO p) (all_cons rfl (all_cons rfl rfl))) rfl (r_d 5 [(9,bv ((zbR (zep p xe1.fr xe1.fp) 0 64).2)),(8,iv (sl:Int)),(97,bv ((zbR (zep p xe1.fr xe1.fp) 0 64).2)),(96,iv (sl:Int)),(85,.tuple #[iv (sl:Int),bv ((zbR (zep p xe1.fr xe1.fp) 0 64).2)])] (za3 (zA (zJ (zJ (zN (o_d 2 [(99,bv (!((zbR (zep p xe1.fr xe1.fp) 0 64).2))),(98,bv ((zbR (zep p xe1.fr xe1.fp) 0 64).2))] (zE (zA (qJ (t:= !((zbR (zep p xe1.fr xe1.fp) 0 64).2)) rfl (fun h9=>?_) (fun h9=>?_))))))))))))
 ·skip
  have h10:((zbR (zep p xe1.fr xe1.fp) 0 64).2)=false:=not_t h9
  refine zJ (zN (qV (zab (dropC 8) rfl rfl rfl (o_b 1 [] (ws p nr w9 o c L (cw (yt 8)::(yc xe1 l 8 m5))) (zE (zU [(4,pv 3 0)] (qW ?_)))))))
  have he:zaK p nr l=(zeB 8,nr):=(take_go hp9 om om hm5).trans (go_n hk3 hnot (by assumption))
  exact ⟨trivial,[.agg (yB 8)],(q8 rfl rfl rfl rfl),(zM rfl z5),⟨reg [],(ws p nr w9 o c L [.gone])⟩,[0,1,2,12],[.agg (yB 8)],WkR.of (rs:= []) rfl rfl dC trivial ⟨.inl (qH rfl),.inl (zF (zH _)),.inl (zaa (some w9) (fun _=>(zaq _ _))),.inr ⟨rfl,rfl⟩,trivial⟩,(zQ (zbB (q:=none) (k:=0) (k':=0) (n:=0) rfl) rfl),(by rw [he];rfl),(by rw [he];rfl)⟩
 have h11:((zbR (zep p xe1.fr xe1.fp) 0 64).2)=true:=not_f h9
 refine qK (zA (zJ (zN (o_d 2 [(102,iv (sl:Int)),(101,pv 7 0)] (qV (zd1 [7,4,5,0,8,2] [cw (qR xe1 (zD xe1.op) 1 (zD xe1.da) 2 3 (wa l) 4 l.length),zG (zD xe1.op) (u8 xe1.op) false,zaG ((zD xe1.da).isSome),cw (zR p true nr (wx 5 w9)),zG (wa l) (u8 m5) false,cr []] [pv 0 0,iv (sl:Int)] (outW p true nr (some w9) xe1 (zD xe1.da) ((zD xe1.da).isSome) m5 (ze3 m5) hm5p.1 hm5k hm5b (by assumption) om sl om H l.length hm5l) rfl rfl ⟨⟨_,rfl,zav (.inl (zb4 rfl rfl rfl rfl (fun q=>rfl)))⟩,⟨_,rfl,zav (z4 (q:=zD xe1.op) (q':=zD xe1.op) (zH _) rfl (fun q=>rfl))⟩,⟨_,rfl,(zcw (zD xe1.da))⟩,⟨_,rfl,zav (.inl (zaX rfl (fun q=>rfl)))⟩,⟨_,rfl,zav (z4 (q:=some (0,l.length)) (q':=some (0,l.length)) (zH _) rfl (fun q=>rfl))⟩,⟨_,rfl,zdq (some w9)⟩,trivial⟩ dC ?_))))))
 rintro v1 h1' ⟨rfl,rfl⟩
 refine ⟨(zW zaO (zW qC (zW qC (zW zaO (zW qC (zW qC zap)))))),.agg (yZ l 9),(cw (zR p true (outN nr xe1 sl) (wx 2 w9))::zG (wZ o c) (u8 L) false::slB zI (ii (zZ p)) (some w9)::cw wm::(yc xe1 l 9 m5)),[zG (wa l) (u8 (outL p xe1 m5 ((sl:Nat):Int))) true],(zbB rfl),⟨zbA rfl,rfl,rfl,rfl,(by first | exact hid1 dC rfl | exact row1 dC rfl),(by first | exact hid2 dC dC rfl | exact row2 dC dC rfl),rfl,zbZ rfl rfl rfl rfl,rfl,trivial⟩,⟨(Option.some.inj (zF (zH _))).symm,trivial⟩, ?_⟩
 refine o_b 1 [] [cw (zR p true (outN nr xe1 sl) (wx 2 w9)),zG (wZ o c) (u8 L) false,slB zI (ii (zZ p)) (some w9),cw [iv 0,iv (-1),bv false,zS (wa l) 9 l.length],zG (zD xe1.op) (u8 xe1.op) true,zG (zD xe1.da) (u8 xe1.da) true,cw (wM xe1 4 5),cw (qR xe1 (zD xe1.op) 4 (zD xe1.da) 5 0 (wa l) 9 l.length),zG (wa l) (u8 m5) true,zG (wa l) (u8 (outL p xe1 m5 ((sl:Nat):Int))) true] (zE (zU [(4,pv 3 0)] (qW ?_)))
 have he:zaK p nr l=(⟨0,-1,false,(outL p xe1 m5 ((sl:Nat):Int))⟩,(outN nr xe1 sl)):=(take_go hp9 om om hm5).trans (go_o hk3 hnot (by assumption) hsl)
 have hlen:(outL p xe1 m5 ((sl:Nat):Int)).length=l.length:=outL_length.trans hm5l
 exact ⟨trivial,[.agg (yZ l 9)],(q8 rfl rfl rfl rfl),(zM rfl z5),⟨reg [],[cw (zR p true (outN nr xe1 sl) (wx 2 w9)),zG (wZ o c) (u8 L) false,slB zI (ii (zZ p)) (some w9),zG (wa l) (u8 (outL p xe1 m5 ((sl:Nat):Int))) true]⟩,[0,1,2,9],[.agg (yZ l 3)],WkR.of (rs:= []) rfl rfl dC trivial ⟨.inl (qH rfl),.inl (zF (zH _)),.inl (zaa (some w9) (fun _=>(zaq _ _))),.inl (zF (zH _)),trivial⟩,(zQ (zbB rfl) rfl),(by rw [he];exact (oc_some hlen om).symm),(by rw [he];show _= [_,_,_,zG (zD _) _ true];rw [ob_some hlen om])⟩
end Go.Rh

set_option maxHeartbeats 1000000
namespace Go.Rh
theorem row_nil:RowOf none ([]:List Int) []:=⟨fun _=>rfl,fun h=>absurd rfl h,fun h=>absurd rfl h,fun o c h=>by cases h⟩
theorem TakeT {P:Program} {p:qZ} {nr:zdU} {w9:Nat} {q:Option (Nat×Nat)} {L l:List Int} {T:Oc×zdU} (hT:zaK p nr l=T) (h:Env P "(*roundhouse/plane.Plane).Take" [pv 0 0,zS q 1 l.length] [cw (zR p true nr (slV 2 127 (some w9))),zG q (u8 L) false,slB zI (ii (zZ p)) (some w9)] (fun v h'=>v=ocV (zaK p nr l).1 3∧h'= [cw (zR p true (zaK p nr l).2 (slV 2 127 (some w9))),zG q (u8 L) false,slB zI (ii (zZ p)) (some w9),zG (zD (zaK p nr l).1.b) (u8 (zaK p nr l).1.b) true])):Env P "(*roundhouse/plane.Plane).Take" [pv 0 0,zS q 1 l.length] [cw (zR p true nr (slV 2 127 (some w9))),zG q (u8 L) false,slB zI (ii (zZ p)) (some w9)] (fun v h'=>v=ocV T.1 3∧h'= [cw (zR p true T.2 (slV 2 127 (some w9))),zG q (u8 L) false,slB zI (ii (zZ p)) (some w9),zG (zD T.1.b) (u8 T.1.b) true]):=by
 subst hT;exact h
def zcP:Pk:=⟨2,9,0,1,10,2,80,0,0,false,0,[],[]⟩
theorem bok00:BOk zcP:=by constructor<;>decide
theorem kn1:(zaK (zY [0,2] 2) nr0 (bld zcP)).1.e=0:=by kernel_rfl
theorem kn2:(zaK (zY [0,2] 2) nr0 (bld zcP)).1.s=0:=by kernel_rfl
theorem kn3:(zaK (zY [0,2] 2) nr0 (bld zcP)).1.c=false:=by kernel_rfl
theorem kn4:(zaK (zY [0,2] 2) nr0 (bld zcP)).1.b.length=(bld zcP).length:=by kernel_rfl
theorem kn5:(zc1 (zaK (zY [0,2] 2) nr0 (bld zcP)).2 0).2=false:=by kernel_rfl
theorem kn6:(zY [0,2] 2) 0=2:=by kernel_rfl
theorem kn7:(bld zcP).length≤100000:=by decide+kernel
theorem kn8:(qX (bld zcP)).2.k≠3:=by decide+kernel
theorem nr0_r: ∀k,0≤(nr0 k).1∧(nr0 k).1 < 4294967296:=fun k=>⟨by show (0:Int)≤0;decide,by show (0:Int) < 4294967296;decide⟩
theorem make_rng (ns:List Int) {k:Nat} (hk:k≤100):PRng (zY ns k):=(makeS_inv ns (k:=k) om).rng om
theorem TakeNC {P:Program} [PrC P] (p:qZ) (nr:zdU) (q:Option Nat) (zw:Bool):
    Env P "(*roundhouse/plane.Plane).Take" [pv 0 0,.slice none 0 0] ([cw (zR p false nr (xJ q)),zaG zw]) (fun v h'=>v= .agg (yB 10)∧h'= [cw (zR p false nr (xJ q)),zaG zw]):=by
 refine Env.by4 PrC.plane_Plane_Take ?_
 unfold zcE
 show GC _ 2 _ _ ⟨reg [(0,pv 0 0),(1,.slice none 0 0)],[cw (zR p false nr (xJ q)),zaG zw]⟩
 refine zJ (zN (o_b 1 [(4,pv 2 0)] [cw (zR p false nr (xJ q)),zaG zw,cw wm] (zE (zA (zJ (zJ (zN (o_d 4 (wJ 13 0 330 12 0 11 0 10 0) (o_s (by refine zV (v:=bv false) rfl rfl ?_;exact (zfp 0).trans rfl) ?_)))))))))
 exact o_d 1 [(15,bv true)] (zE (zA (zc8 rfl (zJ (zN (qV (zab (dropC 10) rfl rfl rfl (o_b 1 [] [cw (zR p false nr (xJ q)),zaG zw,cw (yt 10)] (zE (zA (qW (⟨trivial,[.agg (yB 10)],(q8 rfl rfl rfl rfl),(zM rfl z5),⟨reg [],[cw (zR p false nr (xJ q)),zaG zw]⟩,[0,1],[.agg (yB 10)],WkR.of (rs:= []) rfl rfl dC trivial ⟨.inl (qH (zaZ q rfl)),.inl (congrArg some (zaM _).symm),trivial⟩,(zQ (zbB (q:=none) (k:=0) (k':=0) (n:=0) rfl) rfl),rfl,rfl⟩))))))))))))
abbrev yC:=(zY [0,2] 2)
abbrev vB:=(some (0,(bld zcP).length))
theorem known9C {P:Program} [PrC P]:
    Env P "roundhouse/roundhouselaw9.known" [] ([]) (Ans (.bool true) ([])):=by
 refine Env.by PrC.law9_known ?_
 unfold zhs
 show GC _ 0 _ _ ⟨reg [],[]⟩
 refine zJ (zN (o_d 1 [(0,bv false)] (zE (zA (zJ (zN (qV (zd1 [] [] [] (PNewC) rfl rfl trivial dC ?_))))))))
 rintro v1 h1' ⟨rfl,rfl⟩
 refine ⟨zap,pv 0 0,[],[cw (zR qO false nr0 wD)],rfl,trivial,⟨(Option.some.inj (qH rfl)).symm,trivial⟩, ?_⟩
 refine o_d 1 [(1,pv 0 0)] (zE (zA (zJ (zJ (zN (o_d 2 [(15,bv false),(14,pv 0 0)] (zE (zA (zbc rfl (qK (⟨⟨reg [(1,pv 0 0)],[cw (zR qO false nr0 wD),.gone]⟩,Wk.ren [0,1] rfl rfl dC ⟨rfl,trivial⟩ ⟨.inl (qH rfl),.inr ⟨rfl,rfl⟩,trivial⟩, ?_⟩)))))))))))
 refine zJ (zN (o_d 1 [(16,pv 0 0)] (qV (zd1 [0,1] [cw (xj 1),.gone] [pv 0 0,.slice none 0 0] (TakeNC qO nr0 none false) rfl rfl ⟨⟨_,rfl,zav (.inl (zaX rfl (fun q=>rfl)))⟩,⟨_,rfl,zav (.inr ⟨rfl,rfl⟩)⟩,trivial⟩ dC ?_))))
 rintro v1 h1' ⟨rfl,rfl⟩
 refine ⟨(zW qC (zW qC zap)),.agg (yB 10),[cw (xj 1),.gone],[],(qN rfl),⟨zbA rfl,rfl,trivial⟩,trivial, ?_⟩
 refine o_b 2 [(2,pv 2 0)] [cw (xj 1),.gone,cw (yt 10)] (zE (zA (zJ (zN (o_b 1 [(18,sv 3 0 2 2)] [cw (xj 1),.gone,cw (yt 10),cw [iv 0,iv 2]] (qV (zdD (a1:= [sv 0 0 2 2,iv 2]) [3] [ii [0,2]] (MakeC (some 2) [0,2] (fun q=>by cases q) dC 2 dC) rfl (fun _=>zQ rfl (zQ rfl rfl)) ⟨⟨_,rfl⟩,qS _,trivial⟩ (zbO _) ?_)))))))
 refine o_b 1 [(3,pv 4 0)] [cw (xj 1),.gone,cw (yt 10),cw [iv 0,iv 2],cw (pl qO)] (zdj (by refine zao (c':=pl yC) rfl rfl rfl ?_ ?_ ?_;exact qI _;exact zck om;exact zai qO yC) ?_)
 refine zE (zA (zJ (zN (o_d 1 [(20,pv 0 0)] (o_s (by refine zV (v:=zaw yC) rfl rfl ?_;exact zaS yC) ?_)))))
 refine qV (zd1 [0,4] [cw (xj 1),cr []] [pv 0 0,zaw yC] (PLoadC qO false nr0 none yC) rfl (zQ rfl (zQ (qN (zbO yC)) rfl)) ⟨⟨_,rfl,zav (.inl (zaX rfl (fun q=>rfl)))⟩,⟨_,rfl,zaI⟩,trivial⟩ dC ?_)
 rintro v1 h1' ⟨rfl,m1,rfl⟩
 refine ⟨(zW zaO (zW qC zap)),.tuple #[],[cw (zR yC true nr0 (wx 5 m1)),.gone,cw (yt 10),cw [iv 0,iv 2],cw (pl yC)],[slB zI (ii (zZ yC)) (some m1)],(by simp [zaF]),⟨zbA rfl,rfl,rfl,rfl,rfl,trivial⟩,⟨(Option.some.inj (zaa (some m1) (fun _=>(zaq _ _)))).symm,trivial⟩, ?_⟩
 refine zE (zA (zJ (zN (o_d 1 [(24,pv 0 0)] (qV (zd1 [0,5] [cr (zR yC true nr0 (wx 1 m1)),cr []] [pv 0 0] (PVersionC yC true nr0 (some m1)) rfl rfl ⟨⟨_,rfl,zav (.inl (zaX rfl (fun q=>rfl)))⟩,⟨_,rfl,zdq (some m1)⟩,trivial⟩ dC ?_))))))
 rintro v1 h1' ⟨rfl,rfl⟩
 refine ⟨(zW qC (zW qC zap)),.tuple #[iv (yC 0),bv true],[cw (zR yC true nr0 (wx 5 m1)),.gone,cw (yt 10),cw [iv 0,iv 2],cw (pl yC),slB zI (ii (zZ yC)) (some m1)],[],(qN rfl),⟨rfl,rfl,rfl,rfl,rfl,rfl,trivial⟩,trivial, ?_⟩
 refine o_d 5 [(5,bv true),(4,iv (yC 0)),(27,bv true),(26,iv (yC 0)),(23,.tuple #[iv (yC 0),bv true])] (zE (⟨⟨reg [(5,bv true),(4,iv (yC 0)),(2,pv 2 0),(1,pv 0 0)],[cw (zR yC true nr0 (wx 5 m1)),.gone,cw (yt 10),cw [iv 0,iv 2],cw (pl yC),slB zI (ii (zZ yC)) (some m1),.gone,.gone]⟩,Wk.ren [0,1,2,3,4,5,6,7] rfl rfl dC ⟨rfl,rfl,rfl,rfl,trivial⟩ ⟨.inl (qH rfl),.inl rfl,.inl rfl,.inl rfl,.inl (zL (zae yC)),.inl (zaa (some m1) (fun _=>(zaq _ _))),.inr ⟨rfl,rfl⟩,.inr ⟨rfl,rfl⟩,trivial⟩, ?_⟩))
 refine zJ (zN (o_d 1 [(29,.agg #[iv 2,iv 9,iv 0,iv 1,iv 10,iv 2,iv 80,iv 0,iv 0,bv false,iv 0,.slice none 0 0,.slice none 0 0])] (qV (zaD [1,6] [zG none (u8 ([]:List Int)) false,zG none (u8 ([]:List Int)) false] [pkV zcP none 0 none 1] (Build2C none none ([]:List Int) ([]:List Int) zcP (row_nil) (row_nil) bok00 rfl) rfl (zQ (zcO rfl rfl) rfl) ⟨⟨_,rfl,.inr ⟨rfl,rfl⟩⟩,⟨_,rfl,.inr ⟨rfl,rfl⟩⟩,trivial⟩ dC ?_))))
 rintro v1 h1' ⟨rfl,rfl⟩
 refine ⟨q9 [_,_] [_],.tuple #[zS vB 8 ((bld zcP).length),iv 0],[cw (zR yC true nr0 (wx 5 m1)),.gone,cw (yt 10),cw [iv 0,iv 2],cw (pl yC),slB zI (ii (zZ yC)) (some m1),.gone,.gone],[zG vB (u8 (bld zcP)) true],((zdJ _).trans rfl),⟨rfl,rfl,rfl,rfl,rfl,rfl,rfl,rfl,trivial⟩,⟨(zdh (zH _)),trivial⟩, ?_⟩
 refine o_d 5 [(7,iv 0),(6,zS vB 8 ((bld zcP).length)),(32,iv 0),(31,zS vB 8 ((bld zcP).length)),(28,.tuple #[zS vB 8 ((bld zcP).length),iv 0])] (zE (zA (zJ (zN (o_d 2 [(34,zS vB 8 ((bld zcP).length)),(33,pv 0 0)] ?_)))))
 obtain ⟨T2,hT2⟩: ∃z9,zaK yC nr0 (bld zcP)=z9:=⟨_,rfl⟩
 have hk1:T2.1.e=0:=by rw [←hT2];exact kn1
 have hk2:T2.1.s=0:=by rw [←hT2];exact kn2
 have hk3:T2.1.c=false:=by rw [←hT2];exact kn3
 have hk4:T2.1.b.length=(bld zcP).length:=by rw [←hT2];exact kn4
 have hk5:(zc1 T2.2 0).2=false:=by rw [←hT2];exact kn5
 refine qV (zd1 [0,8,5] [cw (zR yC true nr0 (wx 2 m1)),zG vB (u8 (bld zcP)) false,slB zI (ii (zZ yC)) (some m1)] [pv 0 0,zS vB 1 ((bld zcP).length)] (TakeT hT2 (TakeC9 yC nr0 m1 vB (bld zcP) (bld zcP) (RowOf.whole rfl (Nat.le_refl _)) (by first | omega | exact kn7) (make_rng _ dC) nr0_r kn8)) rfl rfl ⟨⟨_,rfl,zav (.inl (zaX rfl (fun q=>rfl)))⟩,⟨_,rfl,zav (z4 (q:=some (0,(bld zcP).length)) (q':=some (0,(bld zcP).length)) (zH _) rfl (fun q=>rfl))⟩,⟨_,rfl,zav (zhH (some m1) (fun _=>(zaq _ _)))⟩,trivial⟩ dC ?_)
 rintro v1 h1' ⟨rfl,rfl⟩
 refine ⟨(zW zaO (zW qC (zW qC zap))),.agg #[iv T2.1.e,iv T2.1.s,bv T2.1.c,zS (zD T2.1.b) 9 T2.1.b.length],[cw (zR yC true T2.2 (wx 5 m1)),.gone,cw (yt 10),cw [iv 0,iv 2],cw (pl yC),slB zI (ii (zZ yC)) (some m1),.gone,.gone,zG vB (u8 (bld zcP)) true],[zG (zD T2.1.b) (u8 T2.1.b) true],(zbB rfl),⟨zbA rfl,rfl,rfl,rfl,rfl,(by rcases some m1 with _ | m9<;>first | rfl | exact zbn (zaq _ _)),rfl,rfl,rfl,trivial⟩,⟨(Option.some.inj (zF (zH _))).symm,trivial⟩, ?_⟩
 refine o_b 2 [(8,pv 10 0)] [cw (zR yC true T2.2 (wx 5 m1)),.gone,cw [iv 10,iv (-1),bv false,.slice none 0 0],cw [iv 0,iv 2],cw (pl (zY [0,2] 2)),slB zI (ii (zZ (zY [0,2] 2))) (some m1),.gone,.gone,zG (some (0,(bld zcP).length)) (u8 (bld zcP)) true,zG (zD T2.1.b) (u8 T2.1.b) true,cw [iv T2.1.e,iv T2.1.s,bv T2.1.c,zS (zD T2.1.b) 9 T2.1.b.length]] (zE (zA (zJ (zN (o_d 1 [(37,pv 0 0)] (qV (zd1 [0,5] [cr (zR yC true T2.2 (wx 1 m1)),cr []] [pv 0 0,iv 0] (NearC yC true T2.2 (some m1) 0) rfl rfl ⟨⟨_,rfl,zav (.inl (zaX rfl (fun q=>rfl)))⟩,⟨_,rfl,zdq (some m1)⟩,trivial⟩ dC ?_)))))))
 rintro v1 h1' ⟨rfl,rfl⟩
 refine ⟨(zW qC (zW qC zap)),.tuple #[.int .u32 ((zc1 T2.2 0).1),bv ((zc1 T2.2 0).2)],[cw (zR yC true T2.2 (wx 5 m1)),.gone,cw [iv 10,iv (-1),bv false,.slice none 0 0],cw [iv 0,iv 2],cw (pl (zY [0,2] 2)),slB zI (ii (zZ (zY [0,2] 2))) (some m1),.gone,.gone,zG (some (0,(bld zcP).length)) (u8 (bld zcP)) true,zG (zD T2.1.b) (u8 T2.1.b) true,cw [iv T2.1.e,iv T2.1.s,bv T2.1.c,zS (zD T2.1.b) 9 T2.1.b.length]],[],(qN rfl),⟨rfl,rfl,rfl,rfl,rfl,rfl,rfl,rfl,rfl,rfl,rfl,trivial⟩,trivial, ?_⟩
 refine o_d 5 [(10,bv ((zc1 T2.2 0).2)),(9,.int .u32 ((zc1 T2.2 0).1)),(40,bv ((zc1 T2.2 0).2)),(39,.int .u32 ((zc1 T2.2 0).1)),(36,.tuple #[.int .u32 ((zc1 T2.2 0).1),bv ((zc1 T2.2 0).2)])] (zE (zA (zJ (zN (o_d 1 [(41,pv 0 0)] (qV (zd1 [0,5] [cw (zR yC true T2.2 (wx 1 m1)),cr []] [pv 0 0] (PCrashC yC true T2.2 (some m1)) rfl rfl ⟨⟨_,rfl,zav (.inl (zaX rfl (fun q=>rfl)))⟩,⟨_,rfl,zdq (some m1)⟩,trivial⟩ dC ?_)))))))
 rintro v1 h1' ⟨rfl,rfl⟩
 refine ⟨(zW zaO (zW qC zap)),.tuple #[],[cw (xj 5),.gone,cw [iv 10,iv (-1),bv false,.slice none 0 0],cw [iv 0,iv 2],cw (pl (zY [0,2] 2)),slB zI (ii (zZ (zY [0,2] 2))) (some m1),.gone,.gone,zG (some (0,(bld zcP).length)) (u8 (bld zcP)) true,zG (zD T2.1.b) (u8 T2.1.b) true,cw [iv T2.1.e,iv T2.1.s,bv T2.1.c,zS (zD T2.1.b) 9 T2.1.b.length]],[],(by simp [zaF]),⟨zbA rfl,rfl,rfl,rfl,rfl,rfl,rfl,rfl,rfl,rfl,rfl,trivial⟩,trivial, ?_⟩
 refine zE (zA (zJ (zN (o_d 1 [(44,pv 0 0)] (qV (zd1 [0,5] [cr (xj 1),cr []] [pv 0 0] (PVersionC qO false nr0 none) rfl rfl ⟨⟨_,rfl,zav (.inl (zaX rfl (fun q=>rfl)))⟩,⟨_,rfl,zdq (some m1)⟩,trivial⟩ dC ?_))))))
 rintro v1 h1' ⟨rfl,rfl⟩
 refine ⟨(zW qC (zW qC zap)),.tuple #[iv (qO 0),bv false],[cw (xj 5),.gone,cw [iv 10,iv (-1),bv false,.slice none 0 0],cw [iv 0,iv 2],cw (pl (zY [0,2] 2)),slB zI (ii (zZ (zY [0,2] 2))) (some m1),.gone,.gone,zG (some (0,(bld zcP).length)) (u8 (bld zcP)) true,zG (zD T2.1.b) (u8 T2.1.b) true,cw [iv T2.1.e,iv T2.1.s,bv T2.1.c,zS (zD T2.1.b) 9 T2.1.b.length]],[],(qN rfl),⟨rfl,rfl,rfl,rfl,rfl,rfl,rfl,rfl,rfl,rfl,rfl,trivial⟩,trivial, ?_⟩
 refine o_d 5 [(12,bv false),(11,iv (qO 0)),(47,bv false),(46,iv (qO 0)),(43,.tuple #[iv (qO 0),bv false])] (zE (zU [(12,bv false),(10,bv ((zc1 T2.2 0).2)),(8,pv 10 0),(6,zS vB 8 ((bld zcP).length)),(5,bv true),(4,iv (yC 0)),(2,pv 2 0)] (zJ (zN (o_d 16 [(63,bv ((yC 0)==2)),(62,bv ((yC 0)==2)),(61,bv ((yC 0)==2)),(60,iv (yC 0)),(59,bv true),(58,bv true),(57,bv true),(56,bv true),(55,bv true),(54,bv true),(53,iv (-1)),(52,pv 2 1),(51,bv true),(50,bv true),(49,iv 10),(48,pv 2 0)] (zbJ (b:=(yC 0)==2) 63 rfl (fun k3=>?_) (fun q=>by rw [(beq_iff_eq.2 kn6:((yC 0)==2)=true)] at q;cases q)))))))
 refine o_d 5 [(68,bv (T2.1.e==0)),(67,bv (T2.1.e==0)),(66,bv (T2.1.e==0)),(65,iv T2.1.e),(64,pv 10 0)] (zbJ (b:=T2.1.e==0) 68 rfl (fun k4=>?_) (fun q=>by rw [(by rw [hk1];rfl:(T2.1.e==0)=true)] at q;cases q))
 refine o_d 5 [(73,bv (T2.1.s==0)),(72,bv (T2.1.s==0)),(71,bv (T2.1.s==0)),(70,iv T2.1.s),(69,pv 10 1)] (zbJ (b:=T2.1.s==0) 73 rfl (fun k5=>?_) (fun q=>by rw [(by rw [hk2];rfl:(T2.1.s==0)=true)] at q;cases q))
 refine o_d 5 [(78,bv (!T2.1.c)),(77,bv (!T2.1.c)),(76,bv (!T2.1.c)),(75,bv T2.1.c),(74,pv 10 2)] (zbJ (b:= !T2.1.c) 78 rfl (fun k6=>?_) (fun q=>by rw [(by rw [hk3];rfl:(!T2.1.c)=true)] at q;cases q))
 refine o_d 2 [(80,zS (zD T2.1.b) 9 T2.1.b.length),(79,pv 10 3)] (qB rfl (o_s (by exact qM rfl (zdt T2.1.b).nil) ?_))
 refine o_d 1 [(82,zS vB 8 ((bld zcP).length))] (qB rfl (o_s (by exact qM (q:=some (0,(bld zcP).length)) (k:=8) (n:=(bld zcP).length) rfl (fun q=>by cases q)) ?_))
 refine o_d 3 [(86,bv (((T2.1.b.length:Nat):Int)==((bld zcP).length:Nat))),(85,bv (((T2.1.b.length:Nat):Int)==((bld zcP).length:Nat))),(84,bv (((T2.1.b.length:Nat):Int)==((bld zcP).length:Nat)))] (zbJ (b:=((T2.1.b.length:Nat):Int)==((bld zcP).length:Nat)) 86 rfl (fun k7=>?_) (fun q=>by rw [(by rw [hk4];exact beq_self_eq_true _:(((T2.1.b.length:Nat):Int)==((bld zcP).length:Nat))=true)] at q;cases q))
 refine o_d 4 [(90,bv (!((zc1 T2.2 0).2))),(89,bv (!((zc1 T2.2 0).2))),(88,bv (!((zc1 T2.2 0).2))),(87,bv ((zc1 T2.2 0).2))] (zbJ (b:= !((zc1 T2.2 0).2)) 90 rfl (fun k8=>?_) (fun q=>by rw [(by rw [hk5];rfl:(!((zc1 T2.2 0).2))=true)] at q;cases q))
 refine o_d 4 [(0,bv true),(93,bv true),(92,bv true),(91,bv false)] (zE (zU [(0,bv true)] (qW ?_)))
 have E0_:(true)=true:=by
  first | rfl | (rw [hk5];rfl) | (simp [hk5])
 exact z7 [bv true] (zT rfl rfl) rfl (by rw [E0_];rfl) rfl rfl
end Go.Rh

set_option maxHeartbeats 8000000
namespace Go.Rh
abbrev wb (a:Int) (b:Int) (c:Int) (d:List Int) (e:Int):=(bkP 1 (zC a 16) 0 4000 (zC b 65536) (stL (c % 4294967296) (zbT (c % 4294967296) (zad (rgP (zY d 60)) 1 (Fl.mk 4000 (zC b 65536) 10 80) (zC e 6)))))
abbrev wt (a:Option Nat) (b:List Int) c (d:Int) e:=inB a (ii b)::cw (pl (zY b 60))::cw (zR (zY b 60) true nr0 (slV 3 127 (some c)))::slB zI (ii (zZ (zY b 60))) (some c)::cw [iv 4000,iv (zC d 65536),iv 10,iv 80]::e
abbrev yg (a:Int):=(Fl.mk 4000 (zC a 65536) 10 80)
abbrev vD (a:Int):=(Fl.mk 4000 (zC a 65536) 10 80)
abbrev vO (a:Int) (b:Int) (c:Int) (d:List Int) (e:Int):=(some (0,(bld (wb a b c d e)).length))
abbrev xu (a:List Int):=(zZ (zY a 60))
theorem PlaneOpensC {P:Program} [PrC P] (o:Option Nat) (ns:List Int) (hnns:o=none→ns= []) (hl:(ns.length:Int)≤9223372036854775807) (port slot flags m:Int):
    Env P "roundhouse/roundhouselaw9.PlaneOpens" [inV o 0 ns.length,iv port,iv slot,iv flags,iv m] ([inB o (ii ns)]) (Ans (.bool true) ([inB o (ii ns)])):=by
 refine Env.by PrC.law9_PlaneOpens ?_
 unfold zel
 show GC _ 1 _ _ ⟨reg [(0,inV o 0 ns.length),(1,iv port),(2,iv slot),(3,iv flags),(4,iv m)],[inB o (ii ns)]⟩
 have hpl:=ziy ns 60
 have hput:=putS_r (m % 4294967296) (zad (rgP (zY ns 60)) 1 (yg port) (zC slot 6))
 refine zJ (zN (o_d 1 [(10,bv false)] (zE (zA (zJ (zJ (zN (qV (zab (known9C) rfl rfl rfl (o_d 1 [(21,bv false)] (zE (zA ?_))))))))))))
 refine zbc rfl (qK (zA (zJ (zN (o_d 1 [(22,inV o 0 ns.length)] (qV (zhQ (callIn 0 (MakeC o ns hnns hl 60 om) rfl (qS _) rfl rfl (zbO _) ?_))))))))
 refine o_b 1 [(11,pv 1 0)] [inB o (ii ns),cw (pl qO)] (zdj (by refine zao (c':=pl (zY ns 60)) rfl rfl rfl ?_ ?_ ?_;exact qI _;exact zck om;exact zai qO (zY ns 60)) ?_)
 refine zE (zA (zJ (zN (o_s (by refine zV (v:=zaw (zY ns 60)) rfl rfl ?_;exact zaS (zY ns 60)) ?_))))
 refine qV (zd1 [] [] [zaw (zY ns 60)] (upC (zY ns 60)) rfl (zQ (qN (zbO (zY ns 60))) rfl) trivial dC ?_)
 rintro v1 h1' ⟨m1,rfl,rfl⟩
 refine ⟨zap,pv 2 0,[inB o (ii ns),cw (pl (zY ns 60))],[cw (zR (zY ns 60) true nr0 (wx 3 m1)),slB zI (ii (xu ns)) (some m1)],rfl,⟨rfl,rfl,trivial⟩,⟨(Option.some.inj (qH rfl)).symm,(Option.some.inj (zaa (some m1) (fun _=>(zaq _ _)))).symm,trivial⟩, ?_⟩
 refine o_d 1 [(12,pv 2 0)] (zE (zA (zJ (zN (o_d 1 [(26,iv slot)] (qV (zab (within9C slot 6 dC) rfl rfl rfl ?_)))))))
 have hw2:=zhZ slot (n:=6) dC
 refine o_d 1 [(13,iv (zC slot 6))] (zE (zA (zJ (zJ (zN (o_d 2 [(29,bv false),(28,pv 2 0)] (zE (zA (zbc rfl (qK (zA (zJ ?_))))))))))))
 refine zJ (zN (o_d 2 [(31,pv 1 3),(30,iv (zC slot 6))] (o_s (by exact zaA (o:=3) (o':=3+5*((zC slot 6).toNat)) rfl rfl om om) ?_)))
 refine o_s (by refine zV (v:= .agg #[iv ((zY ns 60) (3+5*((zC slot 6).toNat))),iv ((zY ns 60) (3+5*((zC slot 6).toNat)+1)),iv ((zY ns 60) (3+5*((zC slot 6).toNat)+2)),iv ((zY ns 60) (3+5*((zC slot 6).toNat)+3)),iv ((zY ns 60) (3+5*((zC slot 6).toNat)+4))]) rfl rfl ?_;exact pl_rS (zY ns 60) ((zC slot 6).toNat) om om) ?_
 refine qV (zab (refTakesC ((zY ns 60) (3+5*((zC slot 6).toNat))) ((zY ns 60) (3+5*((zC slot 6).toNat)+1)) ((zY ns 60) (3+5*((zC slot 6).toNat)+2)) ((zY ns 60) (3+5*((zC slot 6).toNat)+3)) ((zY ns 60) (3+5*((zC slot 6).toNat)+4))) rfl rfl rfl (o_d 1 [(35,bv (!(zeR ((zY ns 60) (3+5*((zC slot 6).toNat))))))] (zE (zA (qJ (t:= !(zeR ((zY ns 60) (3+5*((zC slot 6).toNat))))) rfl (fun h3=>?_) (fun h3=>?_))))))
 ·skip
  have h4:(zeR ((zY ns 60) (3+5*((zC slot 6).toNat))))=false:=not_t h3
  exact zJ (zN (o_d 1 [(10,bv true)] (zE (zU [(10,bv true)] (qW (z7 [bv true] (zT rfl rfl) rfl (by rfl) rfl (show List.all [inB o (ii ns)] zhR=true from (all_cons (zdk _ (qS ns)) rfl))))))))
 have h5:(zeR ((zY ns 60) (3+5*((zC slot 6).toNat))))=true:=not_f h3
 refine qK (zA (zJ (zbe [] (r_d 1 [(36,iv port)] (zeJ (zba (within9C port 65536 dC) rfl rfl rfl ?_))))))
 have hw6:=zhZ port (n:=65536) dC
 refine r_d 1 [(38,pv 1 1)] (r_s (by refine zV (v:=iv 10) rfl rfl ?_;exact (zi9 (zY ns 60) 1 rfl om).trans (congrArg (fun x=>some (iv x)) hpl.1)) ?_)
 refine r_d 1 [(40,pv 1 2)] (r_s (by refine zV (v:=iv 80) rfl rfl ?_;exact (zi9 (zY ns 60) 2 rfl om).trans (congrArg (fun x=>some (iv x)) hpl.2)) ?_)
 refine r_b 3 [(14,pv 4 0),(42,.agg #[iv 4000,iv (zC port 65536),iv 10,iv 80])] [inB o (ii ns),cw (pl (zY ns 60)),cw (zR (zY ns 60) true nr0 (wx 3 m1)),slB zI (ii (xu ns)) (some m1),cw [iv 4000,iv (zC port 65536),iv 10,iv 80]] (za3 (zU [(14,pv 4 0),(13,iv (zC slot 6)),(12,pv 2 0),(11,pv 1 0),(3,iv flags),(4,iv m)] (zJ (zeE (wt o ns m1 port [.gone]) (by kernel_rfl) (d_n 5 5 5 [(47,pv 1 1),(46,iv (zC port 65536)),(45,pv 4 1),(44,iv 4000),(43,pv 4 0)] (wt o ns m1 port [.gone]) [⟨3,[4],[],none⟩,⟨1,[4],[],none⟩] (by kernel_rfl) rfl rfl (d_s rfl rfl rfl (by kernel_rfl) (by refine zV (v:=iv 10) rfl rfl ?_;exact (zi9 (zY ns 60) 1 rfl om).trans (congrArg (fun x=>some (iv x)) hpl.1)) ?_))))))
 refine d_n 1 7 5 [(49,pv 1 2)] (wt o ns m1 port [.gone]) [⟨5,[1],[],none⟩,⟨3,[4],[],none⟩,⟨1,[4],[],none⟩] (by kernel_rfl) rfl rfl (d_s rfl rfl rfl (by kernel_rfl) (by refine zV (v:=iv 80) rfl rfl ?_;exact (zi9 (zY ns 60) 2 rfl om).trans (congrArg (fun x=>some (iv x)) hpl.2)) ?_)
 refine d_n 1 9 5 [(51,iv flags)] (wt o ns m1 port [.gone]) [⟨7,[1],[],none⟩,⟨5,[1],[],none⟩,⟨3,[4],[],none⟩,⟨1,[4],[],none⟩] (by kernel_rfl) rfl rfl (d_cl (zba (within9C flags 16 dC) rfl rfl rfl ?_))
 have hw7:=zhZ flags (n:=16) dC
 refine d_n 5 15 5 [(57,pv 1 323),(56,.int .u32 (m % 4294967296)),(55,iv m),(54,.int .u32 (m % 4294967296)),(53,iv m)] (wt o ns m1 port [.gone]) [⟨9,[],[],some 6⟩,⟨7,[1],[],none⟩,⟨5,[1],[],none⟩,⟨3,[4],[],none⟩,⟨1,[4],[],none⟩] (by kernel_rfl) rfl rfl (d_s rfl rfl rfl (by kernel_rfl) (by refine zV (v:= .agg #[iv ((zY ns 60) 323),uv ((zY ns 60) 324),uv ((zY ns 60) 325),uv ((zY ns 60) 326),uv ((zY ns 60) 327),uv ((zY ns 60) 328),uv ((zY ns 60) 329)]) rfl rfl ?_;exact pl_ring (zY ns 60)) ?_)
 refine d_n 2 18 5 [(60,iv (zC slot 6)),(59,.agg #[iv 4000,iv (zC port 65536),iv 10,iv 80])] (wt o ns m1 port [.gone]) [⟨16,[4],[],none⟩,⟨15,[1],[],none⟩,⟨9,[],[],some 6⟩,⟨7,[1],[],none⟩,⟨5,[1],[],none⟩,⟨3,[4],[],none⟩,⟨1,[4],[],none⟩] (by kernel_rfl) rfl rfl (d_cl (zba (r5MakeC (rgP (zY ns 60)) 1 (yg port) (zC slot 6) (.inl rfl) om) rfl rfl rfl ?_))
 have hy8:=cookS_r (rgP (zY ns 60)) 1 (yg port) (s:=zC slot 6) om
 rw [show TB 1=4096 from rfl] at hy8
 refine d_cl (zba (r5PutC (m % 4294967296) (zad (rgP (zY ns 60)) 1 (yg port) (zC slot 6)) om om) rfl rfl rfl ?_)
 refine d_clG [] [] [.int .u32 (m % 4294967296),.int .u32 (zbT (m % 4294967296) (zad (rgP (zY ns 60)) 1 (vD port) (zC slot 6)))] (make4C (m % 4294967296) (zbT (m % 4294967296) (zad (rgP (zY ns 60)) 1 (vD port) (zC slot 6))) om om) rfl rfl trivial dC ⟨_,_,⟨0,rfl,rfl⟩,Nat.zero_le _,zbD [] [_]⟩ ?_ (by kernel_rfl)
 rintro v1 h1' ⟨m9,rfl,rfl⟩
 refine ⟨zS (some (0,12+m9)) 6 12,(wt o ns m1 port [.gone]),[zG (some (0,12+m9)) (u8 (stL (m % 4294967296) (zbT (m % 4294967296) (zad (rgP (zY ns 60)) 1 (vD port) (zC slot 6)))++List.replicate m9 0)) true],rfl,⟨rfl,rfl,rfl,rfl,rfl,rfl,trivial⟩,⟨(Option.some.inj (zF (zH _))).symm,trivial⟩, ?_⟩
 refine d_n 3 24 6 [(15,pv 5 0),(64,.agg #[iv 1,iv 5,iv 0,iv 4000,iv 10,iv (zC port 65536),iv 80,iv (zC flags 16),iv 0,bv false,iv 0,zS (some (0,12+m9)) 6 12,.slice none 0 0])] (wt o ns m1 port [cw [iv 1,iv 5,iv 0,iv 4000,iv 10,iv (zC port 65536),iv 80,iv (zC flags 16),iv 0,bv false,iv 0,zS (some (0,12+m9)) 6 12,.slice none 0 0],zG (some (0,12+m9)) (u8 (stL (m % 4294967296) (zbT (m % 4294967296) (zad (rgP (zY ns 60)) 1 (vD port) (zC slot 6)))++List.replicate m9 0)) true]) [⟨23,[5],[5],none⟩,⟨22,[],[5],none⟩,⟨20,[],(zcF [] []),some 6⟩,⟨19,[],[],some 6⟩,⟨18,[],[],some 6⟩,⟨16,[4],[],none⟩,⟨15,[1],[],none⟩,⟨9,[],[],some 6⟩,⟨7,[1],[],none⟩,⟨5,[1],[],none⟩,⟨3,[4],[],none⟩,⟨1,[4],[],none⟩] (by kernel_rfl) rfl rfl (zgp (⟨⟨reg [(15,pv 5 0),(14,pv 4 0),(13,iv (zC slot 6)),(12,pv 2 0),(11,pv 1 0)],(wt o ns m1 port [cw [iv 1,iv 5,iv 0,iv 4000,iv 10,iv (zC port 65536),iv 80,iv (zC flags 16),iv 0,bv false,iv 0,zS (some (0,12+m9)) 6 12,.slice none 0 0],zG (some (0,12+m9)) (u8 (stL (m % 4294967296) (zbT (m % 4294967296) (zad (rgP (zY ns 60)) 1 (vD port) (zC slot 6)))++List.replicate m9 0)) true,.gone])⟩,Wk.ren [0,1,2,3,4,5,6,7] rfl rfl dC ⟨rfl,rfl,rfl,rfl,rfl,trivial⟩ ⟨.inl (zgO o (qS ns)),.inl (zL (zae (zY ns 60))),.inl (qH rfl),.inl (zaa (some m1) (fun _=>(zaq _ _))),.inl rfl,.inl rfl,.inl (zF (zH _)),.inr ⟨rfl,rfl⟩,trivial⟩, ?_⟩))
 refine zJ (zN (o_d 1 [(66,.agg #[iv 1,iv 5,iv 0,iv 4000,iv 10,iv (zC port 65536),iv 80,iv (zC flags 16),iv 0,bv false,iv 0,zS (some (0,12+m9)) 6 12,.slice none 0 0])] ?_))
 have hbl:=bld_len (x:=(wb flags port m ns slot)) (zhM om om).1
 refine qV (zaD [6,7] [zG (some (0,12+m9)) (u8 (stL (m % 4294967296) (zbT (m % 4294967296) (zad (rgP (zY ns 60)) 1 (vD port) (zC slot 6)))++List.replicate m9 0)) false,zG none (u8 ([]:List Int)) false] [pkV (wb flags port m ns slot) (some (0,12+m9)) 0 none 1] (Build1C (some (0,12+m9)) none (stL (m % 4294967296) (zbT (m % 4294967296) (zad (rgP (zY ns 60)) 1 (vD port) (zC slot 6)))++List.replicate m9 0) ([]:List Int) (wb flags port m ns slot) (row_st (m % 4294967296) (zbT (m % 4294967296) (zad (rgP (zY ns 60)) 1 (vD port) (zC slot 6))) m9) (row_nil) (zhM om om).1 rfl) rfl (zQ (zcO rfl rfl) rfl) ⟨⟨_,rfl,z4 (q:=some (0,12+m9)) (q':=some (0,12+m9)) (zH _) rfl (fun q=>rfl)⟩,⟨_,rfl,.inr ⟨rfl,rfl⟩⟩,trivial⟩ dC ?_)
 rintro v1 h1' ⟨rfl,rfl⟩
 refine ⟨q9 [_,_] [_],.tuple #[zS (vO flags port m ns slot) 8 ((bld (wb flags port m ns slot)).length),iv 0],(wt o ns m1 port [cw [iv 1,iv 5,iv 0,iv 4000,iv 10,iv (zC port 65536),iv 80,iv (zC flags 16),iv 0,bv false,iv 0,zS (some (0,12+m9)) 6 12,.slice none 0 0],zG (some (0,12+m9)) (u8 (stL (m % 4294967296) (zbT (m % 4294967296) (zad (rgP (zY ns 60)) 1 (vD port) (zC slot 6)))++List.replicate m9 0)) true,.gone]),[zG (vO flags port m ns slot) (u8 (bld (wb flags port m ns slot))) true],((zdJ _).trans rfl),⟨rfl,rfl,rfl,rfl,rfl,rfl,rfl,rfl,trivial⟩,⟨(zdh (zH _)),trivial⟩, ?_⟩
 refine o_d 5 [(17,iv 0),(16,zS (vO flags port m ns slot) 8 ((bld (wb flags port m ns slot)).length)),(69,iv 0),(68,zS (vO flags port m ns slot) 8 ((bld (wb flags port m ns slot)).length)),(65,.tuple #[zS (vO flags port m ns slot) 8 ((bld (wb flags port m ns slot)).length),iv 0])] (zE (zA (zJ (zN (o_d 2 [(71,zS (vO flags port m ns slot) 8 ((bld (wb flags port m ns slot)).length)),(70,pv 2 0)] ?_)))))
 obtain ⟨T10,hT10⟩: ∃z9,zaK (zY ns 60) nr0 (bld (wb flags port m ns slot))=z9:=⟨_,rfl⟩
 have hA:((zC flags 16)≠1→T10.1.e=0∧T10.1.c=true∧T10.1.s=(zC slot 6))∧((zC flags 16)=1→T10.1.c=false∧T10.1.s=zbp (xu ns) (yg port)∧(T10.1.e=0↔0≤zbp (xu ns) (yg port))):=by rw [←hT10];exact opens_law om h5 om om nr0 rfl
 refine qV (zd1 [2,8,3] [cw (zR (zY ns 60) true nr0 (wx 2 m1)),zG (vO flags port m ns slot) (u8 (bld (wb flags port m ns slot))) false,slB zI (ii (xu ns)) (some m1)] [pv 0 0,zS (vO flags port m ns slot) 1 ((bld (wb flags port m ns slot)).length)] (TakeT hT10 (TakeC9 (zY ns 60) nr0 m1 (vO flags port m ns slot) (bld (wb flags port m ns slot)) (bld (wb flags port m ns slot)) (RowOf.whole rfl (Nat.le_refl _)) om (make_rng _ dC) nr0_r (by rw [(zhM om om).2];show (1:Int)≠3;decide))) rfl rfl ⟨⟨_,rfl,zav (.inl (zaX rfl (fun q=>rfl)))⟩,⟨_,rfl,zav (z4 (q:=some (0,(bld (wb flags port m ns slot)).length)) (q':=some (0,(bld (wb flags port m ns slot)).length)) (zH _) rfl (fun q=>rfl))⟩,⟨_,rfl,zav (zhH (some m1) (fun _=>(zaq _ _)))⟩,trivial⟩ dC ?_)
 rintro v1 h1' ⟨rfl,rfl⟩
 refine ⟨(zW zaO (zW qC (zW qC zap))),.agg #[iv T10.1.e,iv T10.1.s,bv T10.1.c,zS (zD T10.1.b) 9 T10.1.b.length],[inB o (ii ns),cw (pl (zY ns 60)),cw (zR (zY ns 60) true T10.2 (slV 3 127 (some m1))),slB zI (ii (xu ns)) (some m1),cw [iv 4000,iv (zC port 65536),iv 10,iv 80],cw [iv 1,iv 5,iv 0,iv 4000,iv 10,iv (zC port 65536),iv 80,iv (zC flags 16),iv 0,bv false,iv 0,zS (some (0,12+m9)) 6 12,.slice none 0 0],zG (some (0,12+m9)) (u8 (stL (m % 4294967296) (zbT (m % 4294967296) (zad (rgP (zY ns 60)) 1 (Fl.mk 4000 (zC port 65536) 10 80) (zC slot 6)))++List.replicate m9 0)) true,.gone,zG (vO flags port m ns slot) (u8 (bld (wb flags port m ns slot))) true],[zG (zD T10.1.b) (u8 T10.1.b) true],(zbB rfl),⟨rfl,rfl,zbA rfl,(by rcases some m1 with _ | m9<;>first | rfl | exact zbn (zaq _ _)),rfl,rfl,rfl,rfl,rfl,trivial⟩,⟨(Option.some.inj (zF (zH _))).symm,trivial⟩, ?_⟩
 refine o_b 2 [(18,pv 10 0)] [inB o (ii ns),cw (pl (zY ns 60)),cw (zR (zY ns 60) true T10.2 (slV 3 127 (some m1))),slB zI (ii (zZ (zY ns 60))) (some m1),cw [iv 4000,iv (zC port 65536),iv 10,iv 80],cw [iv 1,iv 5,iv 0,iv 4000,iv 10,iv (zC port 65536),iv 80,iv (zC flags 16),iv 0,bv false,iv 0,zS (some (0,12+m9)) 6 12,.slice none 0 0],zG (some (0,12+m9)) (u8 (stL (m % 4294967296) (zbT (m % 4294967296) (zad (rgP (zY ns 60)) 1 (Fl.mk 4000 (zC port 65536) 10 80) (zC slot 6)))++List.replicate m9 0)) true,.gone,zG (vO flags port m ns slot) (u8 (bld (wb flags port m ns slot))) true,zG (zD T10.1.b) (u8 T10.1.b) true,cw [iv T10.1.e,iv T10.1.s,bv T10.1.c,zS (zD T10.1.b) 9 T10.1.b.length]] (zE (zA (zJ (zJ (zN (o_d 3 [(75,bv ((zC flags 16)!=1)),(74,iv (zC flags 16)),(73,pv 5 7)] (zE (zA (qJ (t:=(zC flags 16)!=1) rfl (fun h11=>?_) (fun h11=>?_))))))))))
 ·skip
  have h11':zC flags 16≠1:=ze5 h11
  refine zJ (zN (o_d 4 [(79,bv (T10.1.e==0)),(78,bv (T10.1.e==0)),(77,iv T10.1.e),(76,pv 10 0)] (zbJ (b:=T10.1.e==0) 79 rfl (fun k12=>?_) (fun q=>by rw [(beq_iff_eq.2 (hA.1 (bne_iff_ne.1 h11)).1:(T10.1.e==0)=true)] at q;cases q))))
  refine o_d 4 [(83,bv T10.1.c),(82,bv T10.1.c),(81,bv T10.1.c),(80,pv 10 2)] (zbJ (b:=T10.1.c) 83 rfl (fun k13=>?_) (fun q=>by rw [((hA.1 (bne_iff_ne.1 h11)).2.1:(T10.1.c)=true)] at q;cases q))
  refine o_d 6 [(10,bv (T10.1.s==(zC slot 6))),(88,bv (T10.1.s==(zC slot 6))),(87,bv (T10.1.s==(zC slot 6))),(86,iv (zC slot 6)),(85,iv T10.1.s),(84,pv 10 1)] (zE (zU [(10,bv (T10.1.s==(zC slot 6)))] (qW ?_)))
  have E0_:(T10.1.s==(zC slot 6))=true:=by
   exact beq_iff_eq.2 (hA.1 (bne_iff_ne.1 h11)).2.2
  exact z7 [bv (T10.1.s==(zC slot 6))] (zT rfl rfl) rfl (by rw [E0_];rfl) rfl (show List.all [inB o (ii ns)] zhR=true from (all_cons (zdk _ (qS ns)) rfl))
 have h11': ¬(zC flags 16≠1):=ze6 h11
 refine qK (zA (zJ (zeE [inB o (ii ns),cw (pl (zY ns 60)),cw (zR (zY ns 60) true T10.2 (slV 3 127 (some m1))),slB zI (ii (zZ (zY ns 60))) (some m1),cw [iv 4000,iv (zC port 65536),iv 10,iv 80],cw [iv 1,iv 5,iv 0,iv 4000,iv 10,iv (zC port 65536),iv 80,iv (zC flags 16),iv 0,bv false,iv 0,zS (some (0,12+m9)) 6 12,.slice none 0 0],zG (some (0,12+m9)) (u8 (stL (m % 4294967296) (zbT (m % 4294967296) (zad (rgP (zY ns 60)) 1 (Fl.mk 4000 (zC port 65536) 10 80) (zC slot 6)))++List.replicate m9 0)) true,.gone,zG (vO flags port m ns slot) (u8 (bld (wb flags port m ns slot))) true,zG (zD T10.1.b) (u8 T10.1.b) true,cw [iv T10.1.e,iv T10.1.s,bv T10.1.c,zS (zD T10.1.b) 9 T10.1.b.length]] (by kernel_rfl) (d_s rfl rfl rfl (by kernel_rfl) (by refine zV (v:=zaw (zY ns 60)) rfl rfl ?_;exact zaS (zY ns 60)) ?_))))
 refine d_clG [] [] [zaw (zY ns 60)] (r7MakeC (zY ns 60) (make_wt ns)) rfl (zQ (qN (zbO (zY ns 60))) rfl) trivial dC ⟨_,_,⟨rfl,rfl⟩,Nat.zero_le _,zbD [] [_]⟩ ?_ (by kernel_rfl)
 rintro v1 h1' ⟨rfl,rfl⟩
 refine ⟨sv 11 0 127 127,[inB o (ii ns),cw (pl (zY ns 60)),cw (zR (zY ns 60) true T10.2 (slV 3 127 (some m1))),slB zI (ii (zZ (zY ns 60))) (some m1),cw [iv 4000,iv (zC port 65536),iv 10,iv 80],cw [iv 1,iv 5,iv 0,iv 4000,iv 10,iv (zC port 65536),iv 80,iv (zC flags 16),iv 0,bv false,iv 0,zS (some (0,12+m9)) 6 12,.slice none 0 0],zG (some (0,12+m9)) (u8 (stL (m % 4294967296) (zbT (m % 4294967296) (zad (rgP (zY ns 60)) 1 (Fl.mk 4000 (zC port 65536) 10 80) (zC slot 6)))++List.replicate m9 0)) true,.gone,zG (vO flags port m ns slot) (u8 (bld (wb flags port m ns slot))) true,zG (zD T10.1.b) (u8 T10.1.b) true,cw [iv T10.1.e,iv T10.1.s,bv T10.1.c,zS (zD T10.1.b) 9 T10.1.b.length]],[cw (ii (xu ns))],rfl,⟨rfl,rfl,rfl,rfl,rfl,rfl,rfl,rfl,rfl,rfl,rfl,trivial⟩,⟨(Option.some.inj (zL (qS (xu ns)))).symm,trivial⟩, ?_⟩
 refine d_n 1 3 11 [(91,.agg #[iv 4000,iv (zC port 65536),iv 10,iv 80])] [inB o (ii ns),cw (pl (zY ns 60)),cw (zR (zY ns 60) true T10.2 (slV 3 127 (some m1))),slB zI (ii (zZ (zY ns 60))) (some m1),cw [iv 4000,iv (zC port 65536),iv 10,iv 80],cw [iv 1,iv 5,iv 0,iv 4000,iv 10,iv (zC port 65536),iv 80,iv (zC flags 16),iv 0,bv false,iv 0,zS (some (0,12+m9)) 6 12,.slice none 0 0],zG (some (0,12+m9)) (u8 (stL (m % 4294967296) (zbT (m % 4294967296) (zad (rgP (zY ns 60)) 1 (Fl.mk 4000 (zC port 65536) 10 80) (zC slot 6)))++List.replicate m9 0)) true,.gone,zG (vO flags port m ns slot) (u8 (bld (wb flags port m ns slot))) true,zG (zD T10.1.b) (u8 T10.1.b) true,cw [iv T10.1.e,iv T10.1.s,bv T10.1.c,zS (zD T10.1.b) 9 T10.1.b.length],cw (ii (xu ns))] [⟨2,[4],[],none⟩,⟨1,[],(zcF [] []),some 11⟩,⟨0,[1],[],none⟩] (by kernel_rfl) rfl rfl (d_clG [11] [cr (ii (xu ns))] [sv 0 0 127 127,.agg #[iv 4000,iv (zC port 65536),iv 10,iv 80]] (r7PickC (xu ns) (yg port) (zhF (zY ns 60)).1) rfl (zQ rfl (zQ (qN rfl) rfl)) ⟨⟨_,rfl,zaC (qS (xu ns)) (fun q=>rfl)⟩,trivial⟩ dC ⟨_,_,⟨rfl,rfl⟩,Nat.le_refl _,zbD [_] []⟩ ?_ (by kernel_rfl))
 rintro v1 h1' ⟨rfl,rfl⟩
 refine ⟨iv (zbp (xu ns) (yg port)),[inB o (ii ns),cw (pl (zY ns 60)),cw (zR (zY ns 60) true T10.2 (slV 3 127 (some m1))),slB zI (ii (zZ (zY ns 60))) (some m1),cw [iv 4000,iv (zC port 65536),iv 10,iv 80],cw [iv 1,iv 5,iv 0,iv 4000,iv 10,iv (zC port 65536),iv 80,iv (zC flags 16),iv 0,bv false,iv 0,zS (some (0,12+m9)) 6 12,.slice none 0 0],zG (some (0,12+m9)) (u8 (stL (m % 4294967296) (zbT (m % 4294967296) (zad (rgP (zY ns 60)) 1 (Fl.mk 4000 (zC port 65536) 10 80) (zC slot 6)))++List.replicate m9 0)) true,.gone,zG (vO flags port m ns slot) (u8 (bld (wb flags port m ns slot))) true,zG (zD T10.1.b) (u8 T10.1.b) true,cw [iv T10.1.e,iv T10.1.s,bv T10.1.c,zS (zD T10.1.b) 9 T10.1.b.length],cw (ii (xu ns))],[],rfl,⟨rfl,rfl,rfl,rfl,rfl,rfl,rfl,rfl,rfl,rfl,rfl,rfl,trivial⟩,trivial, ?_⟩
 refine d_n 1 5 11 [(19,iv (zbp (xu ns) (yg port)))] [inB o (ii ns),cw (pl (zY ns 60)),cw (zR (zY ns 60) true T10.2 (slV 3 127 (some m1))),slB zI (ii (zZ (zY ns 60))) (some m1),cw [iv 4000,iv (zC port 65536),iv 10,iv 80],cw [iv 1,iv 5,iv 0,iv 4000,iv 10,iv (zC port 65536),iv 80,iv (zC flags 16),iv 0,bv false,iv 0,zS (some (0,12+m9)) 6 12,.slice none 0 0],zG (some (0,12+m9)) (u8 (stL (m % 4294967296) (zbT (m % 4294967296) (zad (rgP (zY ns 60)) 1 (Fl.mk 4000 (zC port 65536) 10 80) (zC slot 6)))++List.replicate m9 0)) true,.gone,zG (vO flags port m ns slot) (u8 (bld (wb flags port m ns slot))) true,zG (zD T10.1.b) (u8 T10.1.b) true,cw [iv T10.1.e,iv T10.1.s,bv T10.1.c,zS (zD T10.1.b) 9 T10.1.b.length],cw (ii (xu ns))] [⟨3,[11],(zcF [11] [cr (ii (xu ns))]),some 12⟩,⟨2,[4],[],none⟩,⟨1,[],(zcF [] []),some 11⟩,⟨0,[1],[],none⟩] (by kernel_rfl) rfl rfl (zgp (zU [(19,iv (zbp (xu ns) (yg port))),(18,pv 10 0)] (zJ (zN (o_d 4 [(96,bv (!T10.1.c)),(95,bv (!T10.1.c)),(94,bv T10.1.c),(93,pv 10 2)] (zbJ (b:= !T10.1.c) 96 rfl (fun k14=>?_) (fun q=>by rw [(by rw [((hA.2 (bne_eq_false_iff_eq.1 h11)).1:(T10.1.c)=false)];rfl:(!T10.1.c)=true)] at q;cases q)))))))
 refine o_d 6 [(102,bv (T10.1.s==(zbp (xu ns) (yg port)))),(101,bv (T10.1.s==(zbp (xu ns) (yg port)))),(100,bv (T10.1.s==(zbp (xu ns) (yg port)))),(99,iv (zbp (xu ns) (yg port))),(98,iv T10.1.s),(97,pv 10 1)] (zbJ (b:=T10.1.s==(zbp (xu ns) (yg port))) 102 rfl (fun k15=>?_) (fun q=>by rw [(beq_iff_eq.2 (hA.2 (bne_eq_false_iff_eq.1 h11)).2.1:(T10.1.s==(zbp (xu ns) (yg port)))=true)] at q;cases q))
 refine o_d 8 [(10,bv ((T10.1.e==0)==(decide (zbp (xu ns) (yg port)≥0)))),(109,bv ((T10.1.e==0)==(decide (zbp (xu ns) (yg port)≥0)))),(108,bv ((T10.1.e==0)==(decide (zbp (xu ns) (yg port)≥0)))),(107,bv (decide (zbp (xu ns) (yg port)≥0))),(106,iv (zbp (xu ns) (yg port))),(105,bv (T10.1.e==0)),(104,iv T10.1.e),(103,pv 10 0)] (zE (zU [(10,bv ((T10.1.e==0)==(decide (zbp (xu ns) (yg port)≥0))))] (qW ?_)))
 have E0_:((T10.1.e==0)==(decide (zbp (xu ns) (yg port)≥0)))=true:=by
  exact ge_beq (hA.2 (bne_eq_false_iff_eq.1 h11)).2.2
 exact z7 [bv ((T10.1.e==0)==(decide (zbp (xu ns) (yg port)≥0)))] (zT rfl rfl) rfl (by rw [E0_];rfl) rfl (show List.all [inB o (ii ns)] zhR=true from (all_cons (zdk _ (qS ns)) rfl))
end Go.Rh
