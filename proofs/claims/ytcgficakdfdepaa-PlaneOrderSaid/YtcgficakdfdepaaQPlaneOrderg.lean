/- The proofs zcf the intermediate form, part QPlaneOrderg. -/
import Derived.Test.YtcgficakdfdepaaQPlaneOrderf
import Derived.Test.YtcgficakdfdepaaQPlaneOrdere
open Go.IntKind (i64)
set_option linter.unusedVariables false
set_option linter.unusedSimpArgs false
set_option maxRecDepth 100000
set_option maxHeartbeats 1000000
namespace Go.Rh
theorem place22C {P:Program} {k:Int} (hk: ¬k=3) (h:Env P "roundhouse/roundhouseref3.place" [iv k] [] (Ans (iv (zaj k)) [])):Env P "roundhouse/roundhouseref3.place" [iv k] [] (Ans (iv 22) []):=by rwa [zaj,if_neg hk] at h
theorem zaR {ρ:Nat→Nat} {l:List Int} {r c:Nat} {rw:Bool} :Blk.seen (zbn ρ (zG (some (0,c)) (u8 (l++List.replicate r 0)) rw)) (.cells (u8 l++zai zB r) true):=by
 rw [zcL,zc9 (zH _)];exact ⟨rfl,fun _=>rfl⟩
theorem conv_sv {ρ:Nat→Nat} {k n r N:Nat} (hk:ρ k=k) (hn:n=N) (hr:r=0):zaL ρ (zN (some (0,N)) k N)=sv k 0 n (n+r):=by
 subst hn;subst hr;rw [qI hk];rfl
theorem zjr {ρ:Nat→Nat} {m:List Int} {r N:Nat} (hr:r=0):some (Blk.cells (u8 m++zai zB r) true)=some (zbn ρ (zG (some (0,N)) (u8 m) true)):=by
 subst hr;rw [zc9 (zH _),zgH];simp [u8,zG]
abbrev xM a (b:Option (Nat×Nat)) (c:Option (Nat×Nat)):=(pkL a b 0 c 1)
theorem Build2C {P:Program} [PrC P] (qp qd:Option (Nat×Nat)) (Lo Ld:List Int) (x:Pk) (hro:RowOf qp Lo x.op) (hrd:RowOf qd Ld x.da) (B:BOk x) (hk:x.k=2):
    Env P "roundhouse/roundhouseref3.Build" [pkV x qp 0 qd 1] ([zG qp (u8 Lo) false,zG qd (u8 Ld) false]) (fun v h'=>v= .tuple #[zN (some (0,(bld x).length)) 2 (bld x).length,iv 0]∧h'= [zG qp (u8 Lo) false,zG qd (u8 Ld) false,zG (some (0,(bld x).length)) (u8 (bld x)) true]):=by
 refine Env.by4 PrC.ref3_Build ?_
 unfold ze5
 show GC _ 2 _ _ ⟨reg [(0,pkV x qp 0 qd 1)],[zG qp (u8 Lo) false,zG qd (u8 Ld) false]⟩
 have b1:=B.li
 have b2:=B.pi
 have b3:=B.fr
 have b4:=B.t
 have b5:=B.co
 have b6:=B.fp
 have b7:=B.fl
 have b8_:=B.la
 have b9:=B.op
 have b10:=B.da
 have b11:=B.n
 have hl40:x.da.length≤100000:=om
 refine zJ (zR (o_b 3 [(3,iv 0),(2,.slice none 0 0),(1,pv 2 0)] [zG qp (u8 Lo) false,zG qd (u8 Ld) false,cw (xM x qp qd)] (zE (zC (zJ (zJ (zR (o_d 1 [(10,pv 2 0)] (o_s (by refine zX (v:=iv x.k) rfl rfl ?_;exact rfl) ?_)))))))))
 refine o_d 2 [(13,bv (decide (x.k < 1))),(12,bv (decide (x.k < 1)))] (zby (b:=decide (x.k < 1)) 13 rfl (fun q=>by rw [(by exact decide_eq_false om:(decide (x.k < 1))=false)] at q;cases q) (fun k1=>?_))
 refine o_d 1 [(14,pv 2 0)] (qC rfl (o_s (by refine zX (v:=iv x.k) rfl rfl ?_;exact rfl) ?_))
 refine o_d 2 [(17,bv (decide (x.k > 3))),(16,bv (decide (x.k > 3)))] (zE (zC (qJ (t:=decide (x.k > 3)) rfl (fun q=>by rw [(by exact decide_eq_false om:(decide (x.k > 3))=false)] at q;cases q) (fun _=>?_))))
 refine qK (zC (zJ (zbG [] (r_d 1 [(18,pv 2 0)] (r_s (by refine zX (v:=iv x.k) rfl rfl ?_;exact rfl) ?_)))))
 refine r_d 2 [(21,pv 2 0),(20,bv (x.k==1))] (r_s (by refine zX (v:=iv x.k) rfl rfl ?_;exact rfl) ?_)
 refine r_d 2 [(24,pv 2 0),(23,bv (x.k==2))] (r_s (by refine zX (v:=iv x.k) rfl rfl ?_;exact rfl) ?_)
 refine r_d 4 [(6,bv (x.k==3)),(5,bv (x.k==2)),(4,bv (x.k==1)),(26,bv (x.k==3))] (zbo (zT [(6,bv (x.k==3)),(5,bv (x.k==2)),(4,bv (x.k==1)),(1,pv 2 0)] (zJ (zJ (zR (o_d 1 [(27,pv 2 1)] (o_s (by refine zX (v:=iv x.li) rfl rfl ?_;exact rfl) ?_)))))))
 refine qW (zae (zdC x.li 255) rfl rfl rfl (o_d 1 [(30,bv (decide (x.li < 0) || decide (x.li > 255)))] (zby (b:=decide (x.li < 0) || decide (x.li > 255)) 30 rfl (fun q=>by rw [(by simp;omega:(decide (x.li < 0) || decide (x.li > 255))=false)] at q;cases q) (fun k2=>?_))))
 refine o_d 1 [(31,pv 2 2)] (qC rfl (o_s (by refine zX (v:=iv x.pi) rfl rfl ?_;exact rfl) ?_))
 refine qC rfl (qW (zae (zdC x.pi 255) rfl rfl rfl (o_d 2 [(35,bv (decide (x.pi < 0) || decide (x.pi > 255))),(34,bv (decide (x.pi < 0) || decide (x.pi > 255)))] (zby (b:=decide (x.pi < 0) || decide (x.pi > 255)) 35 rfl (fun q=>by rw [(by simp;omega:(decide (x.pi < 0) || decide (x.pi > 255))=false)] at q;cases q) (fun k3=>?_)))))
 refine o_d 2 [(37,bv (x.k==3)),(36,bv (x.k==3))] (zby (b:=x.k==3) 37 rfl (fun q=>by rw [(by rw [hk];rfl:(x.k==3)=false)] at q;cases q) (fun k4=>?_))
 refine o_d 7 ((44,pv 2 3)::(43,bv false)::(xL 42 41 40 39 38)) (qC rfl (o_s (by refine zX (v:=iv x.fr) rfl rfl ?_;exact rfl) ?_))
 refine qC rfl (qW (zae (zdC x.fr 4294967295) rfl rfl rfl (o_d 2 [(48,bv (decide (x.fr < 0) || decide (x.fr > 4294967295))),(47,bv (decide (x.fr < 0) || decide (x.fr > 4294967295)))] (zby (b:=decide (x.fr < 0) || decide (x.fr > 4294967295)) 48 rfl (fun q=>by rw [(by simp;omega:(decide (x.fr < 0) || decide (x.fr > 4294967295))=false)] at q;cases q) (fun k5=>?_)))))
 refine o_d 1 [(49,pv 2 4)] (qC rfl (o_s (by refine zX (v:=iv x.t) rfl rfl ?_;exact rfl) ?_))
 refine qC rfl (qW (zae (zdC x.t 4294967295) rfl rfl rfl (o_d 2 [(53,bv (decide (x.t < 0) || decide (x.t > 4294967295))),(52,bv (decide (x.t < 0) || decide (x.t > 4294967295)))] (zby (b:=decide (x.t < 0) || decide (x.t > 4294967295)) 53 rfl (fun q=>by rw [(by simp;omega:(decide (x.t < 0) || decide (x.t > 4294967295))=false)] at q;cases q) (fun k6=>?_)))))
 refine o_d 3 [(56,bv (!(x.k==3))),(55,bv (!(x.k==3))),(54,bv (x.k==3))] (zby (b:= !(x.k==3)) 56 rfl (fun k7=>?_) (fun q=>by rw [(by rw [(by rw [hk];rfl:(x.k==3)=false)];rfl:(!(x.k==3))=true)] at q;cases q))
 refine o_d 1 [(57,pv 2 5)] (qC rfl (o_s (by refine zX (v:=iv x.fp) rfl rfl ?_;exact rfl) ?_))
 refine qC rfl (qW (zae (zdC x.fp 65535) rfl rfl rfl (o_d 1 [(60,bv (decide (x.fp < 0) || decide (x.fp > 65535)))] (zby (b:=decide (x.fp < 0) || decide (x.fp > 65535)) 60 rfl (fun q=>by rw [(by simp;omega:(decide (x.fp < 0) || decide (x.fp > 65535))=false)] at q;cases q) (fun k8=>?_)))))
 refine o_d 1 [(61,pv 2 6)] (qC rfl (o_s (by refine zX (v:=iv x.tp) rfl rfl ?_;exact rfl) ?_))
 refine qC rfl (qW (zae (zdC x.tp 65535) rfl rfl rfl (o_d 4 [(67,bv (decide (x.tp < 0) || decide (x.tp > 65535))),(66,bv (decide (x.tp < 0) || decide (x.tp > 65535))),(65,bv (decide (x.tp < 0) || decide (x.tp > 65535))),(64,bv (decide (x.tp < 0) || decide (x.tp > 65535)))] (zby (b:=decide (x.tp < 0) || decide (x.tp > 65535)) 67 rfl (fun q=>by rw [(by simp;omega:(decide (x.tp < 0) || decide (x.tp > 65535))=false)] at q;cases q) (fun k9=>?_)))))
 refine o_d 2 [(69,bv (x.k==1)),(68,bv (x.k==1))] (zby (b:=x.k==1) 69 rfl (fun q=>by rw [(by rw [hk];rfl:(x.k==1)=false)] at q;cases q) (fun k10=>?_))
 refine o_d 8 ((77,bv (x.k==2))::(76,bv (x.k==2))::(75,bv false)::(xL 74 73 72 71 70)) (zby (b:=x.k==2) 77 rfl (fun k11=>?_) (fun q=>by rw [(by rw [hk];rfl:(x.k==2)=true)] at q;cases q))
 refine o_d 1 [(78,pv 2 8)] (qC rfl (o_s (by refine zX (v:=iv x.la) rfl rfl ?_;exact rfl) ?_))
 refine qC rfl (qW (zae (zdC x.la 65535) rfl rfl rfl (o_d 2 [(82,bv (decide (x.la < 0) || decide (x.la > 65535))),(81,bv (decide (x.la < 0) || decide (x.la > 65535)))] (zE (zT [(82,bv (decide (x.la < 0) || decide (x.la > 65535))),(6,bv (x.k==3)),(5,bv (x.k==2)),(4,bv (x.k==1)),(1,pv 2 0)] (qJ (t:=decide (x.la < 0) || decide (x.la > 65535)) rfl (fun q=>by rw [(by simp;omega:(decide (x.la < 0) || decide (x.la > 65535))=false)] at q;cases q) (fun _=>?_)))))))
 refine qK (zC (zJ (zJ (zR (o_d 2 [(84,bv (x.k==1)),(83,bv (x.k==1))] (zby (b:=x.k==1) 84 rfl (fun q=>by rw [(by rw [hk];rfl:(x.k==1)=false)] at q;cases q) (fun k12=>?_)))))))
 refine o_d 5 [(89,bv false),(88,undef),(87,undef),(86,undef),(85,undef)] (zE (zC (zaW rfl (qK (zC (zJ (zR (o_d 1 [(90,pv 2 12)] (o_s (by refine zX (v:=zN qd 1 x.da.length) rfl rfl ?_;exact rfl) ?_)))))))))
 refine o_s (by exact qN rfl hrd.nil) ?_
 refine o_s (by refine zK (v:= .int .i64 (i64.wrap (24+(x.da.length:Nat)))) (congrArg wg (w64 lA lA)) ?_;kernel_rfl) ?_
 refine o_d 1 [(7,iv (24+(x.da.length:Nat)))] (zE (zC (zJ (zJ (zR (o_d 1 [(94,bv (x.k==1))] (zE (zC (qJ (t:=x.k==1) rfl (fun q=>by rw [(by rw [hk];rfl:(x.k==1)=false)] at q;cases q) (fun _=>?_))))))))))
 refine qK (zC (zJ (zJ (zR (o_d 1 [(100,bv (x.k==3))] (zE (zC (qJ (t:=x.k==3) rfl (fun q=>by rw [(by rw [hk];rfl:(x.k==3)=false)] at q;cases q) (fun _=>?_)))))))))
 refine qK (zC (zJ (zJ (zR (o_d 2 [(106,bv (x.k==3)),(105,bv (x.k==3))] (zby (b:=x.k==3) 106 rfl (fun q=>by rw [(by rw [hk];rfl:(x.k==3)=false)] at q;cases q) (fun k13=>?_)))))))
 refine o_d 9 ((115,bv (decide ((24+(x.da.length:Nat):Int) > 1500)))::(114,bv (decide ((24+(x.da.length:Nat):Int) > 1500)))::(113,iv (24+(x.da.length:Nat)))::(112,bv false)::(111,bv false)::(vf 110 109 108 107)) (zE (zT [(115,bv (decide ((24+(x.da.length:Nat):Int) > 1500))),(7,iv (24+(x.da.length:Nat))),(6,bv (x.k==3)),(5,bv (x.k==2)),(1,pv 2 0)] (qJ (t:=decide ((24+(x.da.length:Nat):Int) > 1500)) rfl (fun q=>by rw [(by exact decide_eq_false om:(decide ((24+(x.da.length:Nat):Int) > 1500))=false)] at q;cases q) (fun _=>?_))))
 refine qK (zC (zJ (zR (o_d 1 [(116,iv (24+(x.da.length:Nat)))] (o_s (by exact run_mksR (a:=16) (n:=24+x.da.length) (r:=24+x.da.length - 16) rfl rfl om om) ?_)))))
 refine o_b 1 [(8,sv 3 0 16 (16+(24+x.da.length - 16)))] [zG qp (u8 Lo) false,zG qd (u8 Ld) false,cw (xM x qp qd),cw (u8 (List.replicate 16 0)++zai zB (24+x.da.length - 16))] (zE (zC (zJ (zfx [zG qp (u8 Lo) false,zG qd (u8 Ld) false,cw (xM x qp qd),cw (u8 (List.replicate 16 0)++zai zB (24+x.da.length - 16))] (by kernel_rfl) (d_n 4 4 4 [(121,pv 2 0),(120,sv 3 0 16 (16+(24+x.da.length - 16))),(119,sv 3 0 16 (16+(24+x.da.length - 16))),(118,sv 3 0 16 (16+(24+x.da.length - 16)))] [zG qp (u8 Lo) false,zG qd (u8 Ld) false,cw (xM x qp qd),cw (u8 (List.replicate 16 0)++zai zB (24+x.da.length - 16))] [] (by kernel_rfl) rfl rfl (d_s rfl rfl rfl (by kernel_rfl) (by refine zX (v:=iv x.k) rfl rfl ?_;exact rfl) ?_))))))
 refine d_n 2 7 4 [(124,pv 2 1),(123,.int .u8 (x.k % 256))] [zG qp (u8 Lo) false,zG qd (u8 Ld) false,cw (xM x qp qd),cw (u8 (List.replicate 16 0)++zai zB (24+x.da.length - 16))] [⟨4,[2],[],none⟩] (by kernel_rfl) rfl rfl (d_s rfl rfl rfl (by kernel_rfl) (by refine zX (v:=iv x.li) rfl rfl ?_;exact rfl) ?_)
 refine d_n 2 10 4 [(127,pv 2 2),(126,.int .u8 (x.li % 256))] [zG qp (u8 Lo) false,zG qd (u8 Ld) false,cw (xM x qp qd),cw (u8 (List.replicate 16 0)++zai zB (24+x.da.length - 16))] [⟨7,[2],[],none⟩,⟨4,[2],[],none⟩] (by kernel_rfl) rfl rfl (d_s rfl rfl rfl (by kernel_rfl) (by refine zX (v:=iv x.pi) rfl rfl ?_;exact rfl) ?_)
 refine d_n 2 13 4 [(130,pv 3 0),(129,.int .u8 (x.pi % 256))] [zG qp (u8 Lo) false,zG qd (u8 Ld) false,cw (xM x qp qd),cw (u8 (List.replicate 16 0)++zai zB (24+x.da.length - 16))] [⟨10,[2],[],none⟩,⟨7,[2],[],none⟩,⟨4,[2],[],none⟩] (by kernel_rfl) rfl rfl (d_s0 rfl rfl ⟨_,_,_,rfl⟩ (by kernel_rfl) (by refine zat (c':=u8 ((List.replicate 16 0).set 0 x.k)++zai zB (24+x.da.length - 16)) rfl rfl rfl ?_ ?_ ?_;exact rfl;exact (by simp only [List.length_append,qL];first | omega | (simp only [List.length_set,List.length_replicate,List.length_append];omega) | (simp;done) | (simp;omega));exact zeK (l:=List.replicate 16 0) (x:=x.k) lA rfl) ?_)
 refine d_n 1 15 4 [(131,pv 3 1)] [zG qp (u8 Lo) false,zG qd (u8 Ld) false,cw (xM x qp qd),cw (u8 ((List.replicate 16 0).set 0 x.k)++zai zB (24+x.da.length - 16))] [⟨13,[3],[3],none⟩,⟨10,[2],[],none⟩,⟨7,[2],[],none⟩,⟨4,[2],[],none⟩] (by kernel_rfl) rfl rfl (d_s0 rfl rfl ⟨_,_,_,rfl⟩ (by kernel_rfl) (by refine zat (c':=u8 (((List.replicate 16 0).set 0 x.k).set 1 x.li)++zai zB (24+x.da.length - 16)) rfl rfl rfl ?_ ?_ ?_;exact rfl;exact (by simp only [List.length_append,qL];first | omega | (simp only [List.length_set,List.length_replicate,List.length_append];omega) | (simp;done) | (simp;omega));exact zeK (l:=(List.replicate 16 0).set 0 x.k) (x:=x.li) lA rfl) ?_)
 refine d_n 1 17 4 [(132,pv 3 12)] [zG qp (u8 Lo) false,zG qd (u8 Ld) false,cw (xM x qp qd),cw (u8 (((List.replicate 16 0).set 0 x.k).set 1 x.li)++zai zB (24+x.da.length - 16))] [⟨15,[3],[3],none⟩,⟨13,[3],[3],none⟩,⟨10,[2],[],none⟩,⟨7,[2],[],none⟩,⟨4,[2],[],none⟩] (by kernel_rfl) rfl rfl (d_s0 rfl rfl ⟨_,_,_,rfl⟩ (by kernel_rfl) (by refine zat (c':=u8 ((((List.replicate 16 0).set 0 x.k).set 1 x.li).set 12 x.pi)++zai zB (24+x.da.length - 16)) rfl rfl rfl ?_ ?_ ?_;exact rfl;exact (by simp only [List.length_append,qL];first | omega | (simp only [List.length_set,List.length_replicate,List.length_append];omega) | (simp;done) | (simp;omega));exact zeK (l:=((List.replicate 16 0).set 0 x.k).set 1 x.li) (x:=x.pi) lA rfl) ?_)
 refine zhw (zC (zJ (zR (o_d 2 [(134,iv (24+(x.da.length:Nat))),(133,sv 3 0 16 (16+(24+x.da.length - 16)))] ?_))))
 obtain ⟨m14,hm14⟩: ∃z9,za8 ((((List.replicate 16 0).set 0 x.k).set 1 x.li).set 12 x.pi) 2 2 (24+(x.da.length:Nat))=z9:=⟨_,rfl⟩
 have hm14l:m14.length=((((List.replicate 16 0).set 0 x.k).set 1 x.li).set 12 x.pi).length:=by rw [←hm14,zU]
 have hm14n:m14.length=16:=by rw [hm14l]<;>exact lA
 refine qW (zdd [3] [zG (some (0,16+(24+x.da.length - 16))) (u8 (((((List.replicate 16 0).set 0 x.k).set 1 x.li).set 12 x.pi)++List.replicate (24+x.da.length - 16) 0)) true] [zN (some (0,16+(24+x.da.length - 16))) 0 (((((List.replicate 16 0).set 0 x.k).set 1 x.li).set 12 x.pi).length),iv 2,iv 2,iv (24+(x.da.length:Nat))] (zb4 (some (0,16+(24+x.da.length - 16))) (((((List.replicate 16 0).set 0 x.k).set 1 x.li).set 12 x.pi)++List.replicate (24+x.da.length - 16) 0) ((((List.replicate 16 0).set 0 x.k).set 1 x.li).set 12 x.pi) (zcB (l:=(((List.replicate 16 0).set 0 x.k).set 1 x.li).set 12 x.pi) (n:=16) (r:=(24+x.da.length - 16)) lA) 2 2 (24+(x.da.length:Nat)) lA lA lA) rfl (zQ (zac rfl lA) (zQ rfl (zQ rfl (zQ rfl rfl)))) ⟨⟨_,rfl,zaR⟩,trivial⟩ dC ?_)
 rintro v1 h1' ⟨rfl,rfl⟩
 refine ⟨.tuple #[],[zG qp (u8 Lo) false,zG qd (u8 Ld) false,cw (xM x qp qd),cw (u8 m14++zai zB (24+x.da.length - 16))],[],(by simp [zaL]),⟨rfl,rfl,rfl,(zb1 hm14 lA),trivial⟩,trivial, ?_⟩
 refine zE (zT [(8,sv 3 0 16 (16+(24+x.da.length - 16))),(6,bv (x.k==3)),(5,bv (x.k==2)),(1,pv 2 0)] (zJ (zR (o_d 2 [(137,pv 2 3),(136,sv 3 0 16 (16+(24+x.da.length - 16)))] (o_s (by refine zX (v:=iv x.fr) rfl rfl ?_;exact rfl) ?_)))))
 obtain ⟨m15,hm15⟩: ∃z9,za8 m14 4 4 x.fr=z9:=⟨_,rfl⟩
 have hm15l:m15.length=m14.length:=by rw [←hm15,zU]
 have hm15n:m15.length=16:=by rw [hm15l]<;>exact lA
 refine qW (zdd [3] [zG (some (0,16+(24+x.da.length - 16))) (u8 (m14++List.replicate (24+x.da.length - 16) 0)) true] [zN (some (0,16+(24+x.da.length - 16))) 0 m14.length,iv 4,iv 4,iv x.fr] (zb4 (some (0,16+(24+x.da.length - 16))) (m14++List.replicate (24+x.da.length - 16) 0) m14 (zcB (l:=m14) (n:=16) (r:=(24+x.da.length - 16)) lA) 4 4 x.fr lA lA lA) rfl (zQ (zac rfl lA) (zQ rfl (zQ rfl (zQ rfl rfl)))) ⟨⟨_,rfl,zaR⟩,trivial⟩ dC ?_)
 rintro v1 h1' ⟨rfl,rfl⟩
 refine ⟨.tuple #[],[zG qp (u8 Lo) false,zG qd (u8 Ld) false,cw (xM x qp qd),cw (u8 m15++zai zB (24+x.da.length - 16))],[],(by simp [zaL]),⟨rfl,rfl,rfl,(zb1 hm15 lA),trivial⟩,trivial, ?_⟩
 refine zE (zC (zJ (zR (o_d 2 [(141,pv 2 4),(140,sv 3 0 16 (16+(24+x.da.length - 16)))] (o_s (by refine zX (v:=iv x.t) rfl rfl ?_;exact rfl) ?_)))))
 obtain ⟨m16,hm16⟩: ∃z9,za8 m15 8 4 x.t=z9:=⟨_,rfl⟩
 have hm16l:m16.length=m15.length:=by rw [←hm16,zU]
 have hm16n:m16.length=16:=by rw [hm16l]<;>exact lA
 refine qW (zdd [3] [zG (some (0,16+(24+x.da.length - 16))) (u8 (m15++List.replicate (24+x.da.length - 16) 0)) true] [zN (some (0,16+(24+x.da.length - 16))) 0 m15.length,iv 8,iv 4,iv x.t] (zb4 (some (0,16+(24+x.da.length - 16))) (m15++List.replicate (24+x.da.length - 16) 0) m15 (zcB (l:=m15) (n:=16) (r:=(24+x.da.length - 16)) lA) 8 4 x.t lA lA lA) rfl (zQ (zac rfl lA) (zQ rfl (zQ rfl (zQ rfl rfl)))) ⟨⟨_,rfl,zaR⟩,trivial⟩ dC ?_)
 rintro v1 h1' ⟨rfl,rfl⟩
 refine ⟨.tuple #[],[zG qp (u8 Lo) false,zG qd (u8 Ld) false,cw (xM x qp qd),cw (u8 m16++zai zB (24+x.da.length - 16))],[],(by simp [zaL]),⟨rfl,rfl,rfl,(zb1 hm16 lA),trivial⟩,trivial, ?_⟩
 refine zE (zC (zJ (zR (o_d 2 [(145,sv 3 0 16 (16+(24+x.da.length - 16))),(144,sv 3 0 16 (16+(24+x.da.length - 16)))] (qW (zeE (a1:= [zN (some (0,16+(24+x.da.length - 16))) 0 m16.length]) [3] [u8 (m16++List.replicate (24+x.da.length - 16) 0)] (refOf1C (some (0,16+(24+x.da.length - 16))) (m16++List.replicate (24+x.da.length - 16) 0) m16 (zcB (l:=m16) (n:=16) (r:=(24+x.da.length - 16)) lA) lA) rfl (fun _=>zQ (zac rfl lA) rfl) ⟨⟨_,congrArg some (zcL _ _)⟩,zH _,trivial⟩ rfl ?_))))))
 have hy17:=zhu m16
 obtain ⟨m18,hm18⟩: ∃z9,za8 m16 14 2 (65535 - zbR m16)=z9:=⟨_,rfl⟩
 have hm18l:m18.length=m16.length:=by rw [←hm18,zU]
 have hm18n:m18.length=16:=by rw [hm18l]<;>exact lA
 refine qW (zdd [3] [zG (some (0,16+(24+x.da.length - 16))) (u8 (m16++List.replicate (24+x.da.length - 16) 0)) true] [zN (some (0,16+(24+x.da.length - 16))) 0 m16.length,iv 14,iv 2,iv (65535 - zbR m16)] (zb4 (some (0,16+(24+x.da.length - 16))) (m16++List.replicate (24+x.da.length - 16) 0) m16 (zcB (l:=m16) (n:=16) (r:=(24+x.da.length - 16)) lA) 14 2 (65535 - zbR m16) lA lA lA) rfl (zQ (zac rfl lA) (zQ rfl (zQ rfl (zQ rfl rfl)))) ⟨⟨_,rfl,zaR⟩,trivial⟩ dC ?_)
 rintro v1 h1' ⟨rfl,rfl⟩
 refine ⟨.tuple #[],[zG qp (u8 Lo) false,zG qd (u8 Ld) false,cw (xM x qp qd),cw (u8 m18++zai zB (24+x.da.length - 16))],[],(by simp [zaL]),⟨rfl,rfl,rfl,(zb1 hm18 lA),trivial⟩,trivial, ?_⟩
 refine zE (zC (zJ (zab (zJ (zR (o_d 2 [(164,bv (x.k==3)),(165,bv (x.k==3))] (zE (zC (qJ (t:=x.k==3) rfl (fun q=>by rw [(by rw [hk];rfl:(x.k==3)=false)] at q;cases q) (fun _=>?_))))))))))
 refine zJ (zR (o_d 2 [(172,bv (x.k==2)),(173,bv (x.k==2))] (zE (zC (qJ (t:=x.k==2) rfl (fun _=>?_) (fun q=>by rw [(by rw [hk];rfl:(x.k==2)=true)] at q;cases q))))))
 refine zJ (zR (o_d 1 [(174,sv 3 0 16 (16+(24+x.da.length - 16)))] ?_))
 obtain ⟨m19,hm19⟩: ∃z9,m18++List.replicate 8 (0:Int)=z9:=⟨_,rfl⟩
 have hm19l:m19.length=16+8:=by rw [←hm19,List.length_append]<;>exact lA
 refine o_appF (q:=8) (r:=(24+x.da.length - 16)) (r2:=((24+x.da.length - 16) - 8)) (n:=16) (k:=3) (cs:=u8 m18) (xs:=u8 (List.replicate 8 (0:Int))) (cs2:=u8 m19) (zl:=zB) rfl rfl om rfl (by rw [qL]<;>exact lA) rfl (by kernel_rfl) (by kernel_rfl) (by rw [qL]<;>exact lA) (by rw [zcz,hm19]) rfl ?_
 refine o_d 1 [(8,sv 3 0 (16+8) (16+8+((24+x.da.length - 16) - 8)))] (zE (zC (zR (o_d 2 [(177,pv 2 8),(176,sv 3 0 (16+8) (16+8+((24+x.da.length - 16) - 8)))] (o_s (by refine zX (v:=iv x.la) rfl rfl ?_;exact rfl) ?_)))))
 obtain ⟨m20,hm20⟩: ∃z9,za8 m19 20 2 x.la=z9:=⟨_,rfl⟩
 have hm20l:m20.length=m19.length:=by rw [←hm20,zU]
 have hm20n:m20.length=16+8:=by rw [hm20l]<;>exact lA
 refine qW (zdd [3] [zG (some (0,16+8+((24+x.da.length - 16) - 8))) (u8 (m19++List.replicate ((24+x.da.length - 16) - 8) 0)) true] [zN (some (0,16+8+((24+x.da.length - 16) - 8))) 0 m19.length,iv 20,iv 2,iv x.la] (zb4 (some (0,16+8+((24+x.da.length - 16) - 8))) (m19++List.replicate ((24+x.da.length - 16) - 8) 0) m19 (zcB (l:=m19) (n:=16+8) (r:=((24+x.da.length - 16) - 8)) lA) 20 2 x.la lA lA lA) rfl (zQ (zac rfl lA) (zQ rfl (zQ rfl (zQ rfl rfl)))) ⟨⟨_,rfl,zaR⟩,trivial⟩ dC ?_)
 rintro v1 h1' ⟨rfl,rfl⟩
 refine ⟨.tuple #[],[zG qp (u8 Lo) false,zG qd (u8 Ld) false,cw (xM x qp qd),cw (u8 m20++zai zB ((24+x.da.length - 16) - 8))],[],(by simp [zaL]),⟨rfl,rfl,rfl,(zb1 hm20 lA),trivial⟩,trivial, ?_⟩
 refine zE (zT [(8,sv 3 0 (16+8) (16+8+((24+x.da.length - 16) - 8))),(6,bv (x.k==3)),(5,bv (x.k==2)),(1,pv 2 0)] (zJ (zJ (zR (o_d 2 [(181,bv (!(x.k==3))),(180,bv (x.k==3))] (zE (zC (qJ (t:= !(x.k==3)) rfl (fun _=>?_) (fun q=>by rw [(by rw [(by rw [hk];rfl:(x.k==3)=false)];rfl:(!(x.k==3))=true)] at q;cases q)))))))))
 refine zJ (zR (o_d 2 [(183,pv 2 5),(182,sv 3 0 (16+8) (16+8+((24+x.da.length - 16) - 8)))] (o_s (by refine zX (v:=iv x.fp) rfl rfl ?_;exact rfl) ?_)))
 obtain ⟨m21,hm21⟩: ∃z9,za8 m20 16 2 x.fp=z9:=⟨_,rfl⟩
 have hm21l:m21.length=m20.length:=by rw [←hm21,zU]
 have hm21n:m21.length=16+8:=by rw [hm21l]<;>exact lA
 refine qW (zdd [3] [zG (some (0,16+8+((24+x.da.length - 16) - 8))) (u8 (m20++List.replicate ((24+x.da.length - 16) - 8) 0)) true] [zN (some (0,16+8+((24+x.da.length - 16) - 8))) 0 m20.length,iv 16,iv 2,iv x.fp] (zb4 (some (0,16+8+((24+x.da.length - 16) - 8))) (m20++List.replicate ((24+x.da.length - 16) - 8) 0) m20 (zcB (l:=m20) (n:=16+8) (r:=((24+x.da.length - 16) - 8)) lA) 16 2 x.fp lA lA lA) rfl (zQ (zac rfl lA) (zQ rfl (zQ rfl (zQ rfl rfl)))) ⟨⟨_,rfl,zaR⟩,trivial⟩ dC ?_)
 rintro v1 h1' ⟨rfl,rfl⟩
 refine ⟨.tuple #[],[zG qp (u8 Lo) false,zG qd (u8 Ld) false,cw (xM x qp qd),cw (u8 m21++zai zB ((24+x.da.length - 16) - 8))],[],(by simp [zaL]),⟨rfl,rfl,rfl,(zb1 hm21 lA),trivial⟩,trivial, ?_⟩
 refine zE (zC (zR (o_d 2 [(187,pv 2 6),(186,sv 3 0 (16+8) (16+8+((24+x.da.length - 16) - 8)))] (o_s (by refine zX (v:=iv x.tp) rfl rfl ?_;exact rfl) ?_))))
 obtain ⟨m22,hm22⟩: ∃z9,za8 m21 18 2 x.tp=z9:=⟨_,rfl⟩
 have hm22l:m22.length=m21.length:=by rw [←hm22,zU]
 have hm22n:m22.length=16+8:=by rw [hm22l]<;>exact lA
 refine qW (zdd [3] [zG (some (0,16+8+((24+x.da.length - 16) - 8))) (u8 (m21++List.replicate ((24+x.da.length - 16) - 8) 0)) true] [zN (some (0,16+8+((24+x.da.length - 16) - 8))) 0 m21.length,iv 18,iv 2,iv x.tp] (zb4 (some (0,16+8+((24+x.da.length - 16) - 8))) (m21++List.replicate ((24+x.da.length - 16) - 8) 0) m21 (zcB (l:=m21) (n:=16+8) (r:=((24+x.da.length - 16) - 8)) lA) 18 2 x.tp lA lA lA) rfl (zQ (zac rfl lA) (zQ rfl (zQ rfl (zQ rfl rfl)))) ⟨⟨_,rfl,zaR⟩,trivial⟩ dC ?_)
 rintro v1 h1' ⟨rfl,rfl⟩
 refine ⟨.tuple #[],[zG qp (u8 Lo) false,zG qd (u8 Ld) false,cw (xM x qp qd),cw (u8 m22++zai zB ((24+x.da.length - 16) - 8))],[],(by simp [zaL]),⟨rfl,rfl,rfl,(zb1 hm22 lA),trivial⟩,trivial, ?_⟩
 refine zE (zC (zJ (zR (o_d 2 [(191,pv 2 12),(190,sv 3 0 (16+8) (16+8+((24+x.da.length - 16) - 8)))] (o_s (by refine zX (v:=zN qd 1 x.da.length) rfl rfl ?_;exact rfl) ?_)))))
 obtain ⟨m23,hm23⟩: ∃z9,m22++x.da=z9:=⟨_,rfl⟩
 have hm23l:m23.length=16+8+x.da.length:=by rw [←hm23,List.length_append]<;>exact lA
 refine o_appF (q:=x.da.length) (r:=((24+x.da.length - 16) - 8)) (r2:=(((24+x.da.length - 16) - 8) - x.da.length)) (n:=16+8) (k:=3) (cs:=u8 m22) (xs:=u8 x.da) (cs2:=u8 m23) (zl:=zB) rfl rfl om rfl (by rw [qL]<;>exact lA) rfl (zcT _ _ _ hrd.nil) (zcO rfl rfl hrd) (by rw [qL]<;>exact lA) (by rw [zcz,hm23]) rfl ?_
 refine o_d 1 [(8,sv 3 0 (16+8+x.da.length) (16+8+x.da.length+(((24+x.da.length - 16) - 8) - x.da.length)))] (zE ?_)
 have hB:bldB x=m23:=by
  unfold bldB;rw [if_neg om,if_pos hk]
  unfold bldS bldH;rw [hm14,hm15,hm16,hm18,hm19,hm20,hm21,hm22,hm23]
 have hml:m23.length=(24+x.da.length):=by rw [hm23l]<;>omega
 refine ⟨⟨reg [(8,zN (some (0,(24+x.da.length))) 3 (24+x.da.length)),(5,bv (x.k==2)),(1,pv 2 0)],[zG qp (u8 Lo) false,zG qd (u8 Ld) false,cw (xM x qp qd),zG (some (0,(24+x.da.length))) (u8 m23) true]⟩,Wk.ren [0,1,2,3] rfl rfl dC ⟨conv_sv rfl om om,rfl,rfl,trivial⟩ ⟨.inl (zF (zH _)),.inl (zF (zH _)),.inl (zcd rfl rfl),.inl (zjr om),trivial⟩, ?_⟩
 refine zJ (zR (o_d 1 [(194,zN (some (0,(24+x.da.length))) 3 (24+x.da.length))] ?_))
 have hsl:=zhY m23
 refine qW (zaK [3] [zG (some (0,(24+x.da.length))) (u8 m23) false] [zN (some (0,(24+x.da.length))) 0 m23.length] (summedC (some (0,(24+x.da.length))) m23 m23 (RowOf.whole rfl om) om om) rfl (zQ (zac rfl lA) rfl) ⟨⟨_,rfl,zY (zH _) rfl (fun q=>rfl)⟩,trivial⟩ dC ?_)
 rintro v1 h1' ⟨c24,rfl,rfl⟩
 refine ⟨zak [_] [_],sv 4 0 ((zbP m23).length) ((zbP m23).length+c24),[zG qp (u8 Lo) false,zG qd (u8 Ld) false,cw (xM x qp qd),zG (some (0,(24+x.da.length))) (u8 m23) true],[cw (u8 (zbP m23)++zai zB c24)],rfl,⟨rfl,rfl,rfl,rfl,trivial⟩,⟨(Option.some.inj (zS (zbk (zbP m23) c24))).symm,trivial⟩, ?_⟩
 refine qW (zeE (a1:= [sv 0 0 ((zbP m23).length) ((zbP m23).length+c24)]) [4] [u8 ((zbP m23)++List.replicate c24 0)] (refOf1C (some (0,(zbP m23).length+c24)) ((zbP m23)++List.replicate c24 0) (zbP m23) (zcB (l:=zbP m23) (n:=(zbP m23).length) (r:=c24) lA) lA) rfl (fun _=>rfl) ⟨⟨_,congrArg some (zcL _ _)⟩,zH _,trivial⟩ rfl ?_)
 have hy25:=zhu (zbP m23)
 refine o_d 1 [(9,iv (65535 - zbR (zbP m23)))] (zE (zC (zJ (zJ (zR (o_d 2 [(198,bv (x.k==2)),(197,bv (x.k==2))] (zby (b:=x.k==2) 198 rfl (fun k26=>?_) (fun q=>by rw [(by rw [hk];rfl:(x.k==2)=true)] at q;cases q))))))))
 refine o_d 3 [(201,bv ((65535 - zbR (zbP m23))==0)),(200,bv ((65535 - zbR (zbP m23))==0)),(199,iv (65535 - zbR (zbP m23)))] (zE (zC (qJ (t:=(65535 - zbR (zbP m23))==0) rfl (fun h27=>?_) (fun h27=>?_))))
 ·skip
  have h27':65535 - zbR (zbP m23)=0:=zaz h27
  refine zR (o_d 1 [(9,iv 65535)] (zE (zC (zgO (fun s=> ∃(sx:Int),0=0∧(sx=bldX x)∧s=⟨reg [(9,iv sx),(8,zN (some (0,(24+x.da.length))) 3 (24+x.da.length)),(1,pv 2 0)],[zG qp (u8 Lo) false,zG qd (u8 Ld) false,cw (pkL x qp 0 qd 1),zG (some (0,(24+x.da.length))) (u8 m23) true,cw (u8 (zbP m23)++zai zB c24)]⟩) ?_ ?_))))
  ·skip
   refine zJ (zR (o_d 2 [(203,bv (x.k==2)),(202,bv (x.k==2))] (zby (b:=x.k==2) 203 rfl (fun k28=>?_) (fun q=>by rw [(by rw [hk];rfl:(x.k==2)=true)] at q;cases q))))
   refine o_d 1 [(204,pv 2 9)] (qC rfl (o_s (by refine zX (v:=bv x.ba) rfl rfl ?_;exact rfl) ?_))
   refine o_d 1 [(206,bv x.ba)] (zE (zC (qJ (t:=x.ba) rfl (fun h29=>?_) (fun h29=>?_))))
   ·skip
    refine zR (o_d 1 [(9,iv 0)] (zE (⟨⟨reg [(9,iv 0),(8,zN (some (0,(24+x.da.length))) 3 (24+x.da.length)),(1,pv 2 0)],[zG qp (u8 Lo) false,zG qd (u8 Ld) false,cw (pkL x qp 0 qd 1),zG (some (0,(24+x.da.length))) (u8 m23) true,cw (u8 (zbP m23)++zai zB c24)]⟩, ?_⟩)))
    refine ⟨?_, ?_⟩
    ·exact Wk.ren [0,1,2,3,4] rfl rfl dC ⟨rfl,rfl,rfl,trivial⟩ ⟨.inl (zF (zH _)),.inl (zF (zH _)),.inl (zcd rfl rfl),.inl (zF (zH _)),.inl (zS (zbk (zbP m23) c24)),trivial⟩
    ·exact ⟨0,rfl,(by rw [bldX,if_pos hk,hB];rw [if_pos h29]),rfl⟩
   refine qK (⟨⟨reg [(9,iv 65535),(8,zN (some (0,(24+x.da.length))) 3 (24+x.da.length)),(1,pv 2 0)],[zG qp (u8 Lo) false,zG qd (u8 Ld) false,cw (pkL x qp 0 qd 1),zG (some (0,(24+x.da.length))) (u8 m23) true,cw (u8 (zbP m23)++zai zB c24)]⟩, ?_⟩)
   refine ⟨?_, ?_⟩
   ·exact Wk.ren [0,1,2,3,4] rfl rfl dC ⟨rfl,rfl,rfl,trivial⟩ ⟨.inl (zF (zH _)),.inl (zF (zH _)),.inl (zcd rfl rfl),.inl (zF (zH _)),.inl (zS (zbk (zbP m23) c24)),trivial⟩
   ·exact ⟨65535,rfl,(by rw [bldX,if_pos hk,hB];rw [if_neg (by rw [h29];simp),if_pos om]),rfl⟩
  rintro s ⟨sx,-,hsx,rfl⟩
  refine zJ (zR (o_d 2 [(208,pv 2 0),(207,zN (some (0,(24+x.da.length))) 3 (24+x.da.length))] (o_s (by refine zX (v:=iv x.k) rfl rfl ?_;exact rfl) ?_)))
  refine qW (zae (place22C om (placeC x.k)) rfl rfl rfl ?_)
  refine o_d 1 [(211,iv sx)] ?_
  obtain ⟨m30,hm30⟩: ∃z9,za8 m23 22 2 sx=z9:=⟨_,rfl⟩
  have hm30l:m30.length=m23.length:=by rw [←hm30,zU]
  refine qW (zaK [3] [zG (some (0,(24+x.da.length))) (u8 m23) true] [zN (some (0,(24+x.da.length))) 0 m23.length,iv 22,iv 2,iv sx] (zb4 (some (0,(24+x.da.length))) m23 m23 (RowOf.whole rfl om) 22 2 sx lA lA lA) rfl (zQ (zac rfl lA) (zQ rfl (zQ rfl (zQ rfl rfl)))) ⟨⟨_,rfl,zY (zH _) rfl (fun q=>rfl)⟩,trivial⟩ dC ?_)
  rintro v1 h1' ⟨rfl,rfl⟩
  refine ⟨(fun i q=>zcw q),.tuple #[],[zG qp (u8 Lo) false,zG qd (u8 Ld) false,cw (xM x qp qd),zG (some (0,(24+x.da.length))) (u8 m30) true,cw (u8 (zbP m23)++zai zB c24)],[],(by simp [zaL]),⟨rfl,rfl,rfl,(zcs hm30),rfl,trivial⟩,trivial, ?_⟩
  refine zE (zC (zJ (zR (o_d 3 [(3,iv 0),(2,zN (some (0,(24+x.da.length))) 3 (24+x.da.length)),(213,zN (some (0,(24+x.da.length))) 3 (24+x.da.length))] (zE (zC (qX ?_)))))))
  have he:bld x=m30:=by unfold bld;rw [hB,zfL,if_neg om,←hsx];exact hm30
  have hlen:m30.length=(24+x.da.length):=om
  exact ⟨trivial,[zN (some (0,(24+x.da.length))) 3 (24+x.da.length),iv 0],(zV rfl (zV rfl rfl)),(zL rfl (zL rfl z4)),⟨reg [],[zG qp (u8 Lo) false,zG qd (u8 Ld) false,zG (some (0,(24+x.da.length))) (u8 m30) true]⟩,[0,1,3],[zN (some (0,(24+x.da.length))) 2 (24+x.da.length),iv 0],WkR.of (rs:= []) rfl rfl dC trivial ⟨.inl (zF (zH _)),.inl (zF (zH _)),.inl (zF (zH _)),trivial⟩,rfl,(by rw [he,hlen];rfl),(by rw [he,hlen])⟩
 have h27': ¬(65535 - zbR (zbP m23)=0):=zaA h27
 refine qK (zC (zgO (fun s=> ∃(sx:Int),0=0∧(sx=bldX x)∧s=⟨reg [(9,iv sx),(8,zN (some (0,(24+x.da.length))) 3 (24+x.da.length)),(1,pv 2 0)],[zG qp (u8 Lo) false,zG qd (u8 Ld) false,cw (pkL x qp 0 qd 1),zG (some (0,(24+x.da.length))) (u8 m23) true,cw (u8 (zbP m23)++zai zB c24)]⟩) ?_ ?_))
 ·skip
  refine zJ (zR (o_d 2 [(203,bv (x.k==2)),(202,bv (x.k==2))] (zby (b:=x.k==2) 203 rfl (fun k31=>?_) (fun q=>by rw [(by rw [hk];rfl:(x.k==2)=true)] at q;cases q))))
  refine o_d 1 [(204,pv 2 9)] (qC rfl (o_s (by refine zX (v:=bv x.ba) rfl rfl ?_;exact rfl) ?_))
  refine o_d 1 [(206,bv x.ba)] (zE (zC (qJ (t:=x.ba) rfl (fun h32=>?_) (fun h32=>?_))))
  ·skip
   refine zR (o_d 1 [(9,iv 0)] (zE (⟨⟨reg [(9,iv 0),(8,zN (some (0,(24+x.da.length))) 3 (24+x.da.length)),(1,pv 2 0)],[zG qp (u8 Lo) false,zG qd (u8 Ld) false,cw (pkL x qp 0 qd 1),zG (some (0,(24+x.da.length))) (u8 m23) true,cw (u8 (zbP m23)++zai zB c24)]⟩, ?_⟩)))
   refine ⟨?_, ?_⟩
   ·exact Wk.ren [0,1,2,3,4] rfl rfl dC ⟨rfl,rfl,rfl,trivial⟩ ⟨.inl (zF (zH _)),.inl (zF (zH _)),.inl (zcd rfl rfl),.inl (zF (zH _)),.inl (zS (zbk (zbP m23) c24)),trivial⟩
   ·exact ⟨0,rfl,(by rw [bldX,if_pos hk,hB];rw [if_pos h32]),rfl⟩
  refine qK (⟨⟨reg [(9,iv (65535 - zbR (zbP m23))),(8,zN (some (0,(24+x.da.length))) 3 (24+x.da.length)),(1,pv 2 0)],[zG qp (u8 Lo) false,zG qd (u8 Ld) false,cw (pkL x qp 0 qd 1),zG (some (0,(24+x.da.length))) (u8 m23) true,cw (u8 (zbP m23)++zai zB c24)]⟩, ?_⟩)
  refine ⟨?_, ?_⟩
  ·exact Wk.ren [0,1,2,3,4] rfl rfl dC ⟨rfl,rfl,rfl,trivial⟩ ⟨.inl (zF (zH _)),.inl (zF (zH _)),.inl (zcd rfl rfl),.inl (zF (zH _)),.inl (zS (zbk (zbP m23) c24)),trivial⟩
  ·exact ⟨(65535 - zbR (zbP m23)),rfl,(by rw [bldX,if_pos hk,hB];rw [if_neg (by rw [h32];simp),if_neg om]),rfl⟩
 rintro s ⟨sx,-,hsx,rfl⟩
 refine zJ (zR (o_d 2 [(208,pv 2 0),(207,zN (some (0,(24+x.da.length))) 3 (24+x.da.length))] (o_s (by refine zX (v:=iv x.k) rfl rfl ?_;exact rfl) ?_)))
 refine qW (zae (place22C om (placeC x.k)) rfl rfl rfl ?_)
 refine o_d 1 [(211,iv sx)] ?_
 obtain ⟨m33,hm33⟩: ∃z9,za8 m23 22 2 sx=z9:=⟨_,rfl⟩
 have hm33l:m33.length=m23.length:=by rw [←hm33,zU]
 refine qW (zaK [3] [zG (some (0,(24+x.da.length))) (u8 m23) true] [zN (some (0,(24+x.da.length))) 0 m23.length,iv 22,iv 2,iv sx] (zb4 (some (0,(24+x.da.length))) m23 m23 (RowOf.whole rfl om) 22 2 sx lA lA lA) rfl (zQ (zac rfl lA) (zQ rfl (zQ rfl (zQ rfl rfl)))) ⟨⟨_,rfl,zY (zH _) rfl (fun q=>rfl)⟩,trivial⟩ dC ?_)
 rintro v1 h1' ⟨rfl,rfl⟩
 refine ⟨(fun i q=>zcw q),.tuple #[],[zG qp (u8 Lo) false,zG qd (u8 Ld) false,cw (xM x qp qd),zG (some (0,(24+x.da.length))) (u8 m33) true,cw (u8 (zbP m23)++zai zB c24)],[],(by simp [zaL]),⟨rfl,rfl,rfl,(zcs hm33),rfl,trivial⟩,trivial, ?_⟩
 refine zE (zC (zJ (zR (o_d 3 [(3,iv 0),(2,zN (some (0,(24+x.da.length))) 3 (24+x.da.length)),(213,zN (some (0,(24+x.da.length))) 3 (24+x.da.length))] (zE (zC (qX ?_)))))))
 have he:bld x=m33:=by unfold bld;rw [hB,zfL,if_neg om,←hsx];exact hm33
 have hlen:m33.length=(24+x.da.length):=om
 exact ⟨trivial,[zN (some (0,(24+x.da.length))) 3 (24+x.da.length),iv 0],(zV rfl (zV rfl rfl)),(zL rfl (zL rfl z4)),⟨reg [],[zG qp (u8 Lo) false,zG qd (u8 Ld) false,zG (some (0,(24+x.da.length))) (u8 m33) true]⟩,[0,1,3],[zN (some (0,(24+x.da.length))) 2 (24+x.da.length),iv 0],WkR.of (rs:= []) rfl rfl dC trivial ⟨.inl (zF (zH _)),.inl (zF (zH _)),.inl (zF (zH _)),trivial⟩,rfl,(by rw [he,hlen];rfl),(by rw [he,hlen])⟩
abbrev xI (a:List Int) (b:Pk):=((a.set 20 b.fl).set 21 ((b.op.length:Nat):Int))
theorem Build1C {P:Program} [PrC P] (qp qd:Option (Nat×Nat)) (Lo Ld:List Int) (x:Pk) (hro:RowOf qp Lo x.op) (hrd:RowOf qd Ld x.da) (B:BOk x) (hk:x.k=1):
    Env P "roundhouse/roundhouseref3.Build" [pkV x qp 0 qd 1] ([zG qp (u8 Lo) false,zG qd (u8 Ld) false]) (fun v h'=>v= .tuple #[zN (some (0,(bld x).length)) 2 (bld x).length,iv 0]∧h'= [zG qp (u8 Lo) false,zG qd (u8 Ld) false,zG (some (0,(bld x).length)) (u8 (bld x)) true]):=by
 refine Env.by4 PrC.ref3_Build ?_
 unfold ze5
 show GC _ 2 _ _ ⟨reg [(0,pkV x qp 0 qd 1)],[zG qp (u8 Lo) false,zG qd (u8 Ld) false]⟩
 have b1:=B.li
 have b2:=B.pi
 have b3:=B.fr
 have b4:=B.t
 have b5:=B.co
 have b6:=B.fp
 have b7:=B.fl
 have b8_:=B.la
 have b9:=B.op
 have b10:=B.da
 have b11:=B.n
 have hl40:x.op.length≤100000∧x.da.length≤100000:=om
 refine zJ (zR (o_b 3 [(3,iv 0),(2,.slice none 0 0),(1,pv 2 0)] [zG qp (u8 Lo) false,zG qd (u8 Ld) false,cw (xM x qp qd)] (zE (zC (zJ (zJ (zR (o_d 1 [(10,pv 2 0)] (o_s (by refine zX (v:=iv x.k) rfl rfl ?_;exact rfl) ?_)))))))))
 refine o_d 2 [(13,bv (decide (x.k < 1))),(12,bv (decide (x.k < 1)))] (zby (b:=decide (x.k < 1)) 13 rfl (fun q=>by rw [(by exact decide_eq_false om:(decide (x.k < 1))=false)] at q;cases q) (fun k1=>?_))
 refine o_d 1 [(14,pv 2 0)] (qC rfl (o_s (by refine zX (v:=iv x.k) rfl rfl ?_;exact rfl) ?_))
 refine o_d 2 [(17,bv (decide (x.k > 3))),(16,bv (decide (x.k > 3)))] (zE (zC (qJ (t:=decide (x.k > 3)) rfl (fun q=>by rw [(by exact decide_eq_false om:(decide (x.k > 3))=false)] at q;cases q) (fun _=>?_))))
 refine qK (zC (zJ (zbG [] (r_d 1 [(18,pv 2 0)] (r_s (by refine zX (v:=iv x.k) rfl rfl ?_;exact rfl) ?_)))))
 refine r_d 2 [(21,pv 2 0),(20,bv (x.k==1))] (r_s (by refine zX (v:=iv x.k) rfl rfl ?_;exact rfl) ?_)
 refine r_d 2 [(24,pv 2 0),(23,bv (x.k==2))] (r_s (by refine zX (v:=iv x.k) rfl rfl ?_;exact rfl) ?_)
 refine r_d 4 [(6,bv (x.k==3)),(5,bv (x.k==2)),(4,bv (x.k==1)),(26,bv (x.k==3))] (zbo (zT [(6,bv (x.k==3)),(5,bv (x.k==2)),(4,bv (x.k==1)),(1,pv 2 0)] (zJ (zJ (zR (o_d 1 [(27,pv 2 1)] (o_s (by refine zX (v:=iv x.li) rfl rfl ?_;exact rfl) ?_)))))))
 refine qW (zae (zdC x.li 255) rfl rfl rfl (o_d 1 [(30,bv (decide (x.li < 0) || decide (x.li > 255)))] (zby (b:=decide (x.li < 0) || decide (x.li > 255)) 30 rfl (fun q=>by rw [(by simp;omega:(decide (x.li < 0) || decide (x.li > 255))=false)] at q;cases q) (fun k2=>?_))))
 refine o_d 1 [(31,pv 2 2)] (qC rfl (o_s (by refine zX (v:=iv x.pi) rfl rfl ?_;exact rfl) ?_))
 refine qC rfl (qW (zae (zdC x.pi 255) rfl rfl rfl (o_d 2 [(35,bv (decide (x.pi < 0) || decide (x.pi > 255))),(34,bv (decide (x.pi < 0) || decide (x.pi > 255)))] (zby (b:=decide (x.pi < 0) || decide (x.pi > 255)) 35 rfl (fun q=>by rw [(by simp;omega:(decide (x.pi < 0) || decide (x.pi > 255))=false)] at q;cases q) (fun k3=>?_)))))
 refine o_d 2 [(37,bv (x.k==3)),(36,bv (x.k==3))] (zby (b:=x.k==3) 37 rfl (fun q=>by rw [(by rw [hk];rfl:(x.k==3)=false)] at q;cases q) (fun k4=>?_))
 refine o_d 7 ((44,pv 2 3)::(43,bv false)::(xL 42 41 40 39 38)) (qC rfl (o_s (by refine zX (v:=iv x.fr) rfl rfl ?_;exact rfl) ?_))
 refine qC rfl (qW (zae (zdC x.fr 4294967295) rfl rfl rfl (o_d 2 [(48,bv (decide (x.fr < 0) || decide (x.fr > 4294967295))),(47,bv (decide (x.fr < 0) || decide (x.fr > 4294967295)))] (zby (b:=decide (x.fr < 0) || decide (x.fr > 4294967295)) 48 rfl (fun q=>by rw [(by simp;omega:(decide (x.fr < 0) || decide (x.fr > 4294967295))=false)] at q;cases q) (fun k5=>?_)))))
 refine o_d 1 [(49,pv 2 4)] (qC rfl (o_s (by refine zX (v:=iv x.t) rfl rfl ?_;exact rfl) ?_))
 refine qC rfl (qW (zae (zdC x.t 4294967295) rfl rfl rfl (o_d 2 [(53,bv (decide (x.t < 0) || decide (x.t > 4294967295))),(52,bv (decide (x.t < 0) || decide (x.t > 4294967295)))] (zby (b:=decide (x.t < 0) || decide (x.t > 4294967295)) 53 rfl (fun q=>by rw [(by simp;omega:(decide (x.t < 0) || decide (x.t > 4294967295))=false)] at q;cases q) (fun k6=>?_)))))
 refine o_d 3 [(56,bv (!(x.k==3))),(55,bv (!(x.k==3))),(54,bv (x.k==3))] (zby (b:= !(x.k==3)) 56 rfl (fun k7=>?_) (fun q=>by rw [(by rw [(by rw [hk];rfl:(x.k==3)=false)];rfl:(!(x.k==3))=true)] at q;cases q))
 refine o_d 1 [(57,pv 2 5)] (qC rfl (o_s (by refine zX (v:=iv x.fp) rfl rfl ?_;exact rfl) ?_))
 refine qC rfl (qW (zae (zdC x.fp 65535) rfl rfl rfl (o_d 1 [(60,bv (decide (x.fp < 0) || decide (x.fp > 65535)))] (zby (b:=decide (x.fp < 0) || decide (x.fp > 65535)) 60 rfl (fun q=>by rw [(by simp;omega:(decide (x.fp < 0) || decide (x.fp > 65535))=false)] at q;cases q) (fun k8=>?_)))))
 refine o_d 1 [(61,pv 2 6)] (qC rfl (o_s (by refine zX (v:=iv x.tp) rfl rfl ?_;exact rfl) ?_))
 refine qC rfl (qW (zae (zdC x.tp 65535) rfl rfl rfl (o_d 4 [(67,bv (decide (x.tp < 0) || decide (x.tp > 65535))),(66,bv (decide (x.tp < 0) || decide (x.tp > 65535))),(65,bv (decide (x.tp < 0) || decide (x.tp > 65535))),(64,bv (decide (x.tp < 0) || decide (x.tp > 65535)))] (zby (b:=decide (x.tp < 0) || decide (x.tp > 65535)) 67 rfl (fun q=>by rw [(by simp;omega:(decide (x.tp < 0) || decide (x.tp > 65535))=false)] at q;cases q) (fun k9=>?_)))))
 refine o_d 2 [(69,bv (x.k==1)),(68,bv (x.k==1))] (zby (b:=x.k==1) 69 rfl (fun k10=>?_) (fun q=>by rw [(by rw [hk];rfl:(x.k==1)=true)] at q;cases q))
 refine o_d 1 [(70,pv 2 7)] (qC rfl (o_s (by refine zX (v:=iv x.fl) rfl rfl ?_;exact rfl) ?_))
 refine qC rfl (qW (zae (zdC x.fl 15) rfl rfl rfl (o_d 3 [(75,bv (decide (x.fl < 0) || decide (x.fl > 15))),(74,bv (decide (x.fl < 0) || decide (x.fl > 15))),(73,bv (decide (x.fl < 0) || decide (x.fl > 15)))] (zby (b:=decide (x.fl < 0) || decide (x.fl > 15)) 75 rfl (fun q=>by rw [(by simp;omega:(decide (x.fl < 0) || decide (x.fl > 15))=false)] at q;cases q) (fun k11=>?_)))))
 refine o_d 2 [(77,bv (x.k==2)),(76,bv (x.k==2))] (zby (b:=x.k==2) 77 rfl (fun q=>by rw [(by rw [hk];rfl:(x.k==2)=false)] at q;cases q) (fun k12=>?_))
 refine o_d 5 (xL 82 81 80 79 78) (zE (zT [(82,bv false),(6,bv (x.k==3)),(5,bv (x.k==2)),(4,bv (x.k==1)),(1,pv 2 0)] (zaW rfl (qK (zC (zJ (zJ (zR (o_d 2 [(84,bv (x.k==1)),(83,bv (x.k==1))] (zby (b:=x.k==1) 84 rfl (fun k13=>?_) (fun q=>by rw [(by rw [hk];rfl:(x.k==1)=true)] at q;cases q)))))))))))
 refine o_d 1 [(85,pv 2 11)] (qC rfl (o_s (by refine zX (v:=zN qp 0 x.op.length) rfl rfl ?_;exact rfl) ?_))
 refine qC rfl (o_s (by exact qN rfl hro.nil) ?_)
 refine o_d 2 [(89,bv (decide (((x.op.length:Nat):Int) > 40))),(88,bv (decide (((x.op.length:Nat):Int) > 40)))] (zE (zC (qJ (t:=decide (((x.op.length:Nat):Int) > 40)) rfl (fun q=>by rw [(by exact decide_eq_false om:(decide (((x.op.length:Nat):Int) > 40))=false)] at q;cases q) (fun _=>?_))))
 refine qK (zC (zJ (zR (o_d 1 [(90,pv 2 12)] (o_s (by refine zX (v:=zN qd 1 x.da.length) rfl rfl ?_;exact rfl) ?_)))))
 refine o_s (by exact qN rfl hrd.nil) ?_
 refine o_s (by refine zK (v:= .int .i64 (i64.wrap (24+(x.da.length:Nat)))) (congrArg wg (w64 lA lA)) ?_;kernel_rfl) ?_
 refine o_d 1 [(7,iv (24+(x.da.length:Nat)))] (zE (zC (zJ (zJ (zR (o_d 1 [(94,bv (x.k==1))] (zE (zC (qJ (t:=x.k==1) rfl (fun _=>?_) (fun q=>by rw [(by rw [hk];rfl:(x.k==1)=true)] at q;cases q))))))))))
 refine zR (o_d 2 [(96,pv 2 11),(95,iv (24+(x.da.length:Nat)))] (o_s (by refine zX (v:=zN qp 0 x.op.length) rfl rfl ?_;exact rfl) ?_))
 refine o_s (by exact qN rfl hro.nil) ?_
 refine o_s (by refine zK (v:= .int .i64 (i64.wrap (24+(x.da.length:Nat)+(x.op.length:Nat)))) (congrArg wg (w64 lA lA)) ?_;kernel_rfl) ?_
 refine o_d 1 [(7,iv (24+(x.da.length:Nat)+(x.op.length:Nat)))] (zE (zT [(7,iv (24+(x.da.length:Nat)+(x.op.length:Nat))),(6,bv (x.k==3)),(5,bv (x.k==2)),(1,pv 2 0)] (zJ (zJ (zR (o_d 1 [(100,bv (x.k==3))] (zE (zC (qJ (t:=x.k==3) rfl (fun q=>by rw [(by rw [hk];rfl:(x.k==3)=false)] at q;cases q) (fun _=>?_))))))))))
 refine qK (zC (zJ (zJ (zR (o_d 2 [(106,bv (x.k==3)),(105,bv (x.k==3))] (zby (b:=x.k==3) 106 rfl (fun q=>by rw [(by rw [hk];rfl:(x.k==3)=false)] at q;cases q) (fun k14=>?_)))))))
 refine o_d 9 ((115,bv (decide ((24+(x.da.length:Nat)+(x.op.length:Nat):Int) > 1500)))::(114,bv (decide ((24+(x.da.length:Nat)+(x.op.length:Nat):Int) > 1500)))::(113,iv (24+(x.da.length:Nat)+(x.op.length:Nat)))::(112,bv false)::(111,bv false)::(vf 110 109 108 107)) (zE (zC (qJ (t:=decide ((24+(x.da.length:Nat)+(x.op.length:Nat):Int) > 1500)) rfl (fun q=>by rw [(by exact decide_eq_false om:(decide ((24+(x.da.length:Nat)+(x.op.length:Nat):Int) > 1500))=false)] at q;cases q) (fun _=>?_))))
 refine qK (zC (zJ (zR (o_d 1 [(116,iv (24+(x.da.length:Nat)+(x.op.length:Nat)))] (o_s (by exact run_mksR (a:=16) (n:=24+x.da.length+x.op.length) (r:=24+x.da.length+x.op.length - 16) rfl rfl om om) ?_)))))
 refine o_b 1 [(8,sv 3 0 16 (16+(24+x.da.length+x.op.length - 16)))] [zG qp (u8 Lo) false,zG qd (u8 Ld) false,cw (xM x qp qd),cw (u8 (List.replicate 16 0)++zai zB (24+x.da.length+x.op.length - 16))] (zE (zC (zJ (zfx [zG qp (u8 Lo) false,zG qd (u8 Ld) false,cw (xM x qp qd),cw (u8 (List.replicate 16 0)++zai zB (24+x.da.length+x.op.length - 16))] (by kernel_rfl) (d_n 4 4 4 [(121,pv 2 0),(120,sv 3 0 16 (16+(24+x.da.length+x.op.length - 16))),(119,sv 3 0 16 (16+(24+x.da.length+x.op.length - 16))),(118,sv 3 0 16 (16+(24+x.da.length+x.op.length - 16)))] [zG qp (u8 Lo) false,zG qd (u8 Ld) false,cw (xM x qp qd),cw (u8 (List.replicate 16 0)++zai zB (24+x.da.length+x.op.length - 16))] [] (by kernel_rfl) rfl rfl (d_s rfl rfl rfl (by kernel_rfl) (by refine zX (v:=iv x.k) rfl rfl ?_;exact rfl) ?_))))))
 refine d_n 2 7 4 [(124,pv 2 1),(123,.int .u8 (x.k % 256))] [zG qp (u8 Lo) false,zG qd (u8 Ld) false,cw (xM x qp qd),cw (u8 (List.replicate 16 0)++zai zB (24+x.da.length+x.op.length - 16))] [⟨4,[2],[],none⟩] (by kernel_rfl) rfl rfl (d_s rfl rfl rfl (by kernel_rfl) (by refine zX (v:=iv x.li) rfl rfl ?_;exact rfl) ?_)
 refine d_n 2 10 4 [(127,pv 2 2),(126,.int .u8 (x.li % 256))] [zG qp (u8 Lo) false,zG qd (u8 Ld) false,cw (xM x qp qd),cw (u8 (List.replicate 16 0)++zai zB (24+x.da.length+x.op.length - 16))] [⟨7,[2],[],none⟩,⟨4,[2],[],none⟩] (by kernel_rfl) rfl rfl (d_s rfl rfl rfl (by kernel_rfl) (by refine zX (v:=iv x.pi) rfl rfl ?_;exact rfl) ?_)
 refine d_n 2 13 4 [(130,pv 3 0),(129,.int .u8 (x.pi % 256))] [zG qp (u8 Lo) false,zG qd (u8 Ld) false,cw (xM x qp qd),cw (u8 (List.replicate 16 0)++zai zB (24+x.da.length+x.op.length - 16))] [⟨10,[2],[],none⟩,⟨7,[2],[],none⟩,⟨4,[2],[],none⟩] (by kernel_rfl) rfl rfl (d_s0 rfl rfl ⟨_,_,_,rfl⟩ (by kernel_rfl) (by refine zat (c':=u8 ((List.replicate 16 0).set 0 x.k)++zai zB (24+x.da.length+x.op.length - 16)) rfl rfl rfl ?_ ?_ ?_;exact rfl;exact (by simp only [List.length_append,qL];first | omega | (simp only [List.length_set,List.length_replicate,List.length_append];omega) | (simp;done) | (simp;omega));exact zeK (l:=List.replicate 16 0) (x:=x.k) lA rfl) ?_)
 refine d_n 1 15 4 [(131,pv 3 1)] [zG qp (u8 Lo) false,zG qd (u8 Ld) false,cw (xM x qp qd),cw (u8 ((List.replicate 16 0).set 0 x.k)++zai zB (24+x.da.length+x.op.length - 16))] [⟨13,[3],[3],none⟩,⟨10,[2],[],none⟩,⟨7,[2],[],none⟩,⟨4,[2],[],none⟩] (by kernel_rfl) rfl rfl (d_s0 rfl rfl ⟨_,_,_,rfl⟩ (by kernel_rfl) (by refine zat (c':=u8 (((List.replicate 16 0).set 0 x.k).set 1 x.li)++zai zB (24+x.da.length+x.op.length - 16)) rfl rfl rfl ?_ ?_ ?_;exact rfl;exact (by simp only [List.length_append,qL];first | omega | (simp only [List.length_set,List.length_replicate,List.length_append];omega) | (simp;done) | (simp;omega));exact zeK (l:=(List.replicate 16 0).set 0 x.k) (x:=x.li) lA rfl) ?_)
 refine d_n 1 17 4 [(132,pv 3 12)] [zG qp (u8 Lo) false,zG qd (u8 Ld) false,cw (xM x qp qd),cw (u8 (((List.replicate 16 0).set 0 x.k).set 1 x.li)++zai zB (24+x.da.length+x.op.length - 16))] [⟨15,[3],[3],none⟩,⟨13,[3],[3],none⟩,⟨10,[2],[],none⟩,⟨7,[2],[],none⟩,⟨4,[2],[],none⟩] (by kernel_rfl) rfl rfl (d_s0 rfl rfl ⟨_,_,_,rfl⟩ (by kernel_rfl) (by refine zat (c':=u8 ((((List.replicate 16 0).set 0 x.k).set 1 x.li).set 12 x.pi)++zai zB (24+x.da.length+x.op.length - 16)) rfl rfl rfl ?_ ?_ ?_;exact rfl;exact (by simp only [List.length_append,qL];first | omega | (simp only [List.length_set,List.length_replicate,List.length_append];omega) | (simp;done) | (simp;omega));exact zeK (l:=((List.replicate 16 0).set 0 x.k).set 1 x.li) (x:=x.pi) lA rfl) ?_)
 refine zhw (zT [(8,sv 3 0 16 (16+(24+x.da.length+x.op.length - 16))),(7,iv (24+(x.da.length:Nat)+(x.op.length:Nat))),(6,bv (x.k==3)),(5,bv (x.k==2)),(1,pv 2 0)] (zJ (zR (o_d 2 [(134,iv (24+(x.da.length:Nat)+(x.op.length:Nat))),(133,sv 3 0 16 (16+(24+x.da.length+x.op.length - 16)))] ?_))))
 obtain ⟨m15,hm15⟩: ∃z9,za8 ((((List.replicate 16 0).set 0 x.k).set 1 x.li).set 12 x.pi) 2 2 (24+(x.da.length:Nat)+(x.op.length:Nat))=z9:=⟨_,rfl⟩
 have hm15l:m15.length=((((List.replicate 16 0).set 0 x.k).set 1 x.li).set 12 x.pi).length:=by rw [←hm15,zU]
 have hm15n:m15.length=16:=by rw [hm15l]<;>exact lA
 refine qW (zdd [3] [zG (some (0,16+(24+x.da.length+x.op.length - 16))) (u8 (((((List.replicate 16 0).set 0 x.k).set 1 x.li).set 12 x.pi)++List.replicate (24+x.da.length+x.op.length - 16) 0)) true] [zN (some (0,16+(24+x.da.length+x.op.length - 16))) 0 (((((List.replicate 16 0).set 0 x.k).set 1 x.li).set 12 x.pi).length),iv 2,iv 2,iv (24+(x.da.length:Nat)+(x.op.length:Nat))] (zb4 (some (0,16+(24+x.da.length+x.op.length - 16))) (((((List.replicate 16 0).set 0 x.k).set 1 x.li).set 12 x.pi)++List.replicate (24+x.da.length+x.op.length - 16) 0) ((((List.replicate 16 0).set 0 x.k).set 1 x.li).set 12 x.pi) (zcB (l:=(((List.replicate 16 0).set 0 x.k).set 1 x.li).set 12 x.pi) (n:=16) (r:=(24+x.da.length+x.op.length - 16)) lA) 2 2 (24+(x.da.length:Nat)+(x.op.length:Nat)) lA lA lA) rfl (zQ (zac rfl lA) (zQ rfl (zQ rfl (zQ rfl rfl)))) ⟨⟨_,rfl,zaR⟩,trivial⟩ dC ?_)
 rintro v1 h1' ⟨rfl,rfl⟩
 refine ⟨.tuple #[],[zG qp (u8 Lo) false,zG qd (u8 Ld) false,cw (xM x qp qd),cw (u8 m15++zai zB (24+x.da.length+x.op.length - 16))],[],(by simp [zaL]),⟨rfl,rfl,rfl,(zb1 hm15 lA),trivial⟩,trivial, ?_⟩
 refine zE (zC (zJ (zR (o_d 2 [(137,pv 2 3),(136,sv 3 0 16 (16+(24+x.da.length+x.op.length - 16)))] (o_s (by refine zX (v:=iv x.fr) rfl rfl ?_;exact rfl) ?_)))))
 obtain ⟨m16,hm16⟩: ∃z9,za8 m15 4 4 x.fr=z9:=⟨_,rfl⟩
 have hm16l:m16.length=m15.length:=by rw [←hm16,zU]
 have hm16n:m16.length=16:=by rw [hm16l]<;>exact lA
 refine qW (zdd [3] [zG (some (0,16+(24+x.da.length+x.op.length - 16))) (u8 (m15++List.replicate (24+x.da.length+x.op.length - 16) 0)) true] [zN (some (0,16+(24+x.da.length+x.op.length - 16))) 0 m15.length,iv 4,iv 4,iv x.fr] (zb4 (some (0,16+(24+x.da.length+x.op.length - 16))) (m15++List.replicate (24+x.da.length+x.op.length - 16) 0) m15 (zcB (l:=m15) (n:=16) (r:=(24+x.da.length+x.op.length - 16)) lA) 4 4 x.fr lA lA lA) rfl (zQ (zac rfl lA) (zQ rfl (zQ rfl (zQ rfl rfl)))) ⟨⟨_,rfl,zaR⟩,trivial⟩ dC ?_)
 rintro v1 h1' ⟨rfl,rfl⟩
 refine ⟨.tuple #[],[zG qp (u8 Lo) false,zG qd (u8 Ld) false,cw (xM x qp qd),cw (u8 m16++zai zB (24+x.da.length+x.op.length - 16))],[],(by simp [zaL]),⟨rfl,rfl,rfl,(zb1 hm16 lA),trivial⟩,trivial, ?_⟩
 refine zE (zC (zJ (zR (o_d 2 [(141,pv 2 4),(140,sv 3 0 16 (16+(24+x.da.length+x.op.length - 16)))] (o_s (by refine zX (v:=iv x.t) rfl rfl ?_;exact rfl) ?_)))))
 obtain ⟨m17,hm17⟩: ∃z9,za8 m16 8 4 x.t=z9:=⟨_,rfl⟩
 have hm17l:m17.length=m16.length:=by rw [←hm17,zU]
 have hm17n:m17.length=16:=by rw [hm17l]<;>exact lA
 refine qW (zdd [3] [zG (some (0,16+(24+x.da.length+x.op.length - 16))) (u8 (m16++List.replicate (24+x.da.length+x.op.length - 16) 0)) true] [zN (some (0,16+(24+x.da.length+x.op.length - 16))) 0 m16.length,iv 8,iv 4,iv x.t] (zb4 (some (0,16+(24+x.da.length+x.op.length - 16))) (m16++List.replicate (24+x.da.length+x.op.length - 16) 0) m16 (zcB (l:=m16) (n:=16) (r:=(24+x.da.length+x.op.length - 16)) lA) 8 4 x.t lA lA lA) rfl (zQ (zac rfl lA) (zQ rfl (zQ rfl (zQ rfl rfl)))) ⟨⟨_,rfl,zaR⟩,trivial⟩ dC ?_)
 rintro v1 h1' ⟨rfl,rfl⟩
 refine ⟨.tuple #[],[zG qp (u8 Lo) false,zG qd (u8 Ld) false,cw (xM x qp qd),cw (u8 m17++zai zB (24+x.da.length+x.op.length - 16))],[],(by simp [zaL]),⟨rfl,rfl,rfl,(zb1 hm17 lA),trivial⟩,trivial, ?_⟩
 refine zE (zC (zJ (zR (o_d 2 [(145,sv 3 0 16 (16+(24+x.da.length+x.op.length - 16))),(144,sv 3 0 16 (16+(24+x.da.length+x.op.length - 16)))] (qW (zeE (a1:= [zN (some (0,16+(24+x.da.length+x.op.length - 16))) 0 m17.length]) [3] [u8 (m17++List.replicate (24+x.da.length+x.op.length - 16) 0)] (refOf1C (some (0,16+(24+x.da.length+x.op.length - 16))) (m17++List.replicate (24+x.da.length+x.op.length - 16) 0) m17 (zcB (l:=m17) (n:=16) (r:=(24+x.da.length+x.op.length - 16)) lA) lA) rfl (fun _=>zQ (zac rfl lA) rfl) ⟨⟨_,congrArg some (zcL _ _)⟩,zH _,trivial⟩ rfl ?_))))))
 have hy18:=zhu m17
 obtain ⟨m19,hm19⟩: ∃z9,za8 m17 14 2 (65535 - zbR m17)=z9:=⟨_,rfl⟩
 have hm19l:m19.length=m17.length:=by rw [←hm19,zU]
 have hm19n:m19.length=16:=by rw [hm19l]<;>exact lA
 refine qW (zdd [3] [zG (some (0,16+(24+x.da.length+x.op.length - 16))) (u8 (m17++List.replicate (24+x.da.length+x.op.length - 16) 0)) true] [zN (some (0,16+(24+x.da.length+x.op.length - 16))) 0 m17.length,iv 14,iv 2,iv (65535 - zbR m17)] (zb4 (some (0,16+(24+x.da.length+x.op.length - 16))) (m17++List.replicate (24+x.da.length+x.op.length - 16) 0) m17 (zcB (l:=m17) (n:=16) (r:=(24+x.da.length+x.op.length - 16)) lA) 14 2 (65535 - zbR m17) lA lA lA) rfl (zQ (zac rfl lA) (zQ rfl (zQ rfl (zQ rfl rfl)))) ⟨⟨_,rfl,zaR⟩,trivial⟩ dC ?_)
 rintro v1 h1' ⟨rfl,rfl⟩
 refine ⟨.tuple #[],[zG qp (u8 Lo) false,zG qd (u8 Ld) false,cw (xM x qp qd),cw (u8 m19++zai zB (24+x.da.length+x.op.length - 16))],[],(by simp [zaL]),⟨rfl,rfl,rfl,(zb1 hm19 lA),trivial⟩,trivial, ?_⟩
 refine zE (zC (zJ (zab (zJ (zR (o_d 2 [(164,bv (x.k==3)),(165,bv (x.k==3))] (zE (zC (qJ (t:=x.k==3) rfl (fun q=>by rw [(by rw [hk];rfl:(x.k==3)=false)] at q;cases q) (fun _=>?_))))))))))
 refine zJ (zR (o_d 2 [(172,bv (x.k==2)),(173,bv (x.k==2))] (zE (zC (qJ (t:=x.k==2) rfl (fun q=>by rw [(by rw [hk];rfl:(x.k==2)=false)] at q;cases q) (fun _=>?_))))))
 refine zgO (fun s=> ∃(b8:List Int),0=0∧(m19++List.replicate 8 (0:Int)++x.op=b8)∧s=⟨reg [(8,sv 3 0 (16+8+x.op.length) (16+8+x.op.length+(((24+x.da.length+x.op.length - 16) - 8) - x.op.length))),(6,bv (x.k==3)),(5,bv (x.k==2)),(1,pv 2 0)],[zG qp (u8 Lo) false,zG qd (u8 Ld) false,cw (xM x qp qd),cw (u8 b8++zai zB (((24+x.da.length+x.op.length - 16) - 8) - x.op.length))]⟩) ?_ ?_
 ·skip
  refine zfx [zG qp (u8 Lo) false,zG qd (u8 Ld) false,cw (xM x qp qd),cw (u8 m19++zai zB (24+x.da.length+x.op.length - 16)),.gone,.gone] (by kernel_rfl) (d_n 1 1 4 [(148,sv 3 0 16 (16+(24+x.da.length+x.op.length - 16)))] [zG qp (u8 Lo) false,zG qd (u8 Ld) false,cw (xM x qp qd),cw (u8 m19++zai zB (24+x.da.length+x.op.length - 16)),.gone,.gone] [] (by kernel_rfl) rfl rfl ?_)
  obtain ⟨m20,hm20⟩: ∃z9,m19++List.replicate 8 (0:Int)=z9:=⟨_,rfl⟩
  have hm20l:m20.length=16+8:=by rw [←hm20,List.length_append]<;>exact lA
  refine d_appF (q:=8) (r:=(24+x.da.length+x.op.length - 16)) (r2:=((24+x.da.length+x.op.length - 16) - 8)) (n:=16) (k:=3) (cs:=u8 m19) (xs:=u8 (List.replicate 8 (0:Int))) (cs2:=u8 m20) (zl:=zB) rfl rfl om rfl (by rw [qL]<;>exact lA) rfl (by kernel_rfl) (by kernel_rfl) (by rw [qL]<;>exact lA) (by rw [zcz,hm20]) rfl dC (by kernel_rfl) ?_
  refine d_n 1 3 5 [(150,pv 2 11)] [zG qp (u8 Lo) false,zG qd (u8 Ld) false,cw (xM x qp qd),cw (u8 m20++zai zB ((24+x.da.length+x.op.length - 16) - 8)),.gone,.gone] [⟨1,[3],[3],none⟩] (by kernel_rfl) rfl rfl (d_s rfl rfl rfl (by kernel_rfl) (by refine zX (v:=zN qp 0 x.op.length) rfl rfl ?_;exact rfl) ?_)
  obtain ⟨m21,hm21⟩: ∃z9,m20++x.op=z9:=⟨_,rfl⟩
  have hm21l:m21.length=16+8+x.op.length:=by rw [←hm21,List.length_append]<;>exact lA
  rcases Nat.eq_zero_or_pos x.op.length with z22 | z22
  ·skip
   refine d_appF0 (q:=x.op.length) (r:=((24+x.da.length+x.op.length - 16) - 8)) (r2:=(((24+x.da.length+x.op.length - 16) - 8) - x.op.length)) (n:=16+8) (k:=3) (cs:=u8 m20) (xs:=u8 x.op) (cs2:=u8 m21) (zl:=zB) rfl rfl om rfl (by rw [qL]<;>exact lA) rfl (zcT _ _ _ hro.nil) (zcO rfl rfl hro) (by rw [qL]<;>exact lA) (by rw [zcz,hm21]) rfl z22 (by kernel_rfl) ?_
   refine d_n 1 6 6 [(8,sv 3 0 (16+8+x.op.length) (16+8+x.op.length+(((24+x.da.length+x.op.length - 16) - 8) - x.op.length)))] [zG qp (u8 Lo) false,zG qd (u8 Ld) false,cw (xM x qp qd),cw (u8 m21++zai zB (((24+x.da.length+x.op.length - 16) - 8) - x.op.length)),.gone,.gone] [⟨4,(rdE (.appR [(1,.int .u8 0)] 1 1 (.t 149) (.t 151)) (evf (reg [(151,zN qp 0 x.op.length),(150,pv 2 11),(149,sv 3 0 (16+8) (16+8+((24+x.da.length+x.op.length - 16) - 8))),(148,sv 3 0 16 (16+(24+x.da.length+x.op.length - 16))),(172,bv (x.k==2)),(173,bv (x.k==2)),(164,bv (x.k==3)),(165,bv (x.k==3)),(147,.tuple #[]),(146,iv (65535 - zbR m17)),(145,sv 3 0 16 (16+(24+x.da.length+x.op.length - 16))),(144,sv 3 0 16 (16+(24+x.da.length+x.op.length - 16))),(143,.tuple #[]),(142,iv x.t),(141,pv 2 4),(140,sv 3 0 16 (16+(24+x.da.length+x.op.length - 16))),(139,.tuple #[]),(138,iv x.fr),(137,pv 2 3),(136,sv 3 0 16 (16+(24+x.da.length+x.op.length - 16))),(135,.tuple #[]),(134,iv (24+(x.da.length:Nat)+(x.op.length:Nat))),(133,sv 3 0 16 (16+(24+x.da.length+x.op.length - 16))),(8,sv 3 0 16 (16+(24+x.da.length+x.op.length - 16))),(7,iv (24+(x.da.length:Nat)+(x.op.length:Nat))),(6,bv (x.k==3)),(5,bv (x.k==2)),(1,pv 2 0)]))),[],none⟩,⟨3,[2],[],none⟩,⟨1,[3],[3],none⟩] (by kernel_rfl) rfl rfl (zhw (⟨⟨reg [(8,sv 3 0 (16+8+x.op.length) (16+8+x.op.length+(((24+x.da.length+x.op.length - 16) - 8) - x.op.length))),(6,bv (x.k==3)),(5,bv (x.k==2)),(1,pv 2 0)],[zG qp (u8 Lo) false,zG qd (u8 Ld) false,cw (xM x qp qd),cw (u8 m21++zai zB (((24+x.da.length+x.op.length - 16) - 8) - x.op.length))]⟩, ?_⟩))
   refine ⟨?_, ?_⟩
   ·exact Wk.ren [0,1,2,3] rfl rfl dC ⟨rfl,rfl,rfl,rfl,trivial⟩ ⟨.inl (zF (zH _)),.inl (zF (zH _)),.inl (zcd rfl rfl),.inl (zS (zbk m21 (((24+x.da.length+x.op.length - 16) - 8) - x.op.length))),trivial⟩
   ·exact ⟨m21,rfl,(by rw [hm20,hm21]),rfl⟩
  ·skip
   refine d_appF (q:=x.op.length) (r:=((24+x.da.length+x.op.length - 16) - 8)) (r2:=(((24+x.da.length+x.op.length - 16) - 8) - x.op.length)) (n:=16+8) (k:=3) (cs:=u8 m20) (xs:=u8 x.op) (cs2:=u8 m21) (zl:=zB) rfl rfl om rfl (by rw [qL]<;>exact lA) rfl (zcT _ _ _ hro.nil) (zcO rfl rfl hro) (by rw [qL]<;>exact lA) (by rw [zcz,hm21]) rfl z22 (by kernel_rfl) ?_
   refine d_n 1 6 6 [(8,sv 3 0 (16+8+x.op.length) (16+8+x.op.length+(((24+x.da.length+x.op.length - 16) - 8) - x.op.length)))] [zG qp (u8 Lo) false,zG qd (u8 Ld) false,cw (xM x qp qd),cw (u8 m21++zai zB (((24+x.da.length+x.op.length - 16) - 8) - x.op.length)),.gone,.gone] [⟨4,(rdE (.appR [(1,.int .u8 0)] 1 1 (.t 149) (.t 151)) (evf (reg [(151,zN qp 0 x.op.length),(150,pv 2 11),(149,sv 3 0 (16+8) (16+8+((24+x.da.length+x.op.length - 16) - 8))),(148,sv 3 0 16 (16+(24+x.da.length+x.op.length - 16))),(172,bv (x.k==2)),(173,bv (x.k==2)),(164,bv (x.k==3)),(165,bv (x.k==3)),(147,.tuple #[]),(146,iv (65535 - zbR m17)),(145,sv 3 0 16 (16+(24+x.da.length+x.op.length - 16))),(144,sv 3 0 16 (16+(24+x.da.length+x.op.length - 16))),(143,.tuple #[]),(142,iv x.t),(141,pv 2 4),(140,sv 3 0 16 (16+(24+x.da.length+x.op.length - 16))),(139,.tuple #[]),(138,iv x.fr),(137,pv 2 3),(136,sv 3 0 16 (16+(24+x.da.length+x.op.length - 16))),(135,.tuple #[]),(134,iv (24+(x.da.length:Nat)+(x.op.length:Nat))),(133,sv 3 0 16 (16+(24+x.da.length+x.op.length - 16))),(8,sv 3 0 16 (16+(24+x.da.length+x.op.length - 16))),(7,iv (24+(x.da.length:Nat)+(x.op.length:Nat))),(6,bv (x.k==3)),(5,bv (x.k==2)),(1,pv 2 0)]))),[3],none⟩,⟨3,[2],[],none⟩,⟨1,[3],[3],none⟩] (by kernel_rfl) rfl rfl (zhw (⟨⟨reg [(8,sv 3 0 (16+8+x.op.length) (16+8+x.op.length+(((24+x.da.length+x.op.length - 16) - 8) - x.op.length))),(6,bv (x.k==3)),(5,bv (x.k==2)),(1,pv 2 0)],[zG qp (u8 Lo) false,zG qd (u8 Ld) false,cw (xM x qp qd),cw (u8 m21++zai zB (((24+x.da.length+x.op.length - 16) - 8) - x.op.length))]⟩, ?_⟩))
   refine ⟨?_, ?_⟩
   ·exact Wk.ren [0,1,2,3] rfl rfl dC ⟨rfl,rfl,rfl,rfl,trivial⟩ ⟨.inl (zF (zH _)),.inl (zF (zH _)),.inl (zcd rfl rfl),.inl (zS (zbk m21 (((24+x.da.length+x.op.length - 16) - 8) - x.op.length))),trivial⟩
   ·exact ⟨m21,rfl,(by rw [hm20,hm21]),rfl⟩
 rintro s ⟨b8,-,hb8,rfl⟩
 have hb8n:b8.length=16+8+x.op.length:=by rw [←hb8,List.length_append,List.length_append,List.length_replicate]<;>omega
 refine zfx [zG qp (u8 Lo) false,zG qd (u8 Ld) false,cw (xM x qp qd),cw (u8 b8++zai zB (((24+x.da.length+x.op.length - 16) - 8) - x.op.length))] (by kernel_rfl) (d_n 3 3 4 [(155,pv 2 7),(154,sv 3 0 (16+8+x.op.length) (16+8+x.op.length+(((24+x.da.length+x.op.length - 16) - 8) - x.op.length))),(153,sv 3 0 (16+8+x.op.length) (16+8+x.op.length+(((24+x.da.length+x.op.length - 16) - 8) - x.op.length)))] [zG qp (u8 Lo) false,zG qd (u8 Ld) false,cw (xM x qp qd),cw (u8 b8++zai zB (((24+x.da.length+x.op.length - 16) - 8) - x.op.length))] [] (by kernel_rfl) rfl rfl (d_s rfl rfl rfl (by kernel_rfl) (by refine zX (v:=iv x.fl) rfl rfl ?_;exact rfl) ?_))
 refine d_n 2 6 4 [(158,pv 2 11),(157,.int .u8 (x.fl % 256))] [zG qp (u8 Lo) false,zG qd (u8 Ld) false,cw (xM x qp qd),cw (u8 b8++zai zB (((24+x.da.length+x.op.length - 16) - 8) - x.op.length))] [⟨3,[2],[],none⟩] (by kernel_rfl) rfl rfl (d_s rfl rfl rfl (by kernel_rfl) (by refine zX (v:=zN qp 0 x.op.length) rfl rfl ?_;exact rfl) ?_)
 refine d_s rfl rfl rfl (by kernel_rfl) (by exact qN rfl hro.nil) ?_
 refine d_n 1 9 4 [(161,.int .u8 (((x.op.length:Nat):Int) % 256))] [zG qp (u8 Lo) false,zG qd (u8 Ld) false,cw (xM x qp qd),cw (u8 b8++zai zB (((24+x.da.length+x.op.length - 16) - 8) - x.op.length))] [⟨6,[2],[],none⟩,⟨3,[2],[],none⟩] (by kernel_rfl) rfl rfl (d_s rfl rfl rfl (by kernel_rfl) (by exact zf6 (o:=0) (o':=20) rfl rfl lA lA) ?_)
 refine d_s0 rfl rfl ⟨_,_,_,rfl⟩ (by kernel_rfl) (by refine zat (c':=u8 (b8.set 20 x.fl)++zai zB (((24+x.da.length+x.op.length - 16) - 8) - x.op.length)) rfl rfl rfl ?_ ?_ ?_;exact rfl;exact (by simp only [List.length_append,qL];first | omega | (simp only [List.length_set,List.length_replicate,List.length_append];omega) | (simp;done) | (simp;omega));exact zeK (l:=b8) (x:=x.fl) lA rfl) ?_
 refine d_s rfl rfl rfl (by kernel_rfl) (by exact zf6 (o:=0) (o':=21) rfl rfl lA lA) ?_
 refine d_s0 rfl rfl ⟨_,_,_,rfl⟩ (by kernel_rfl) (by refine zat (c':=u8 (xI b8 x)++zai zB (((24+x.da.length+x.op.length - 16) - 8) - x.op.length)) rfl rfl rfl ?_ ?_ ?_;exact rfl;exact (by simp only [List.length_append,qL];first | omega | (simp only [List.length_set,List.length_replicate,List.length_append];omega) | (simp;done) | (simp;omega));exact zeK (l:=b8.set 20 x.fl) (x:=((x.op.length:Nat):Int)) lA rfl) ?_
 refine zhw (zC (zJ (zJ (zR (o_d 2 [(181,bv (!(x.k==3))),(180,bv (x.k==3))] (zE (zC (qJ (t:= !(x.k==3)) rfl (fun _=>?_) (fun q=>by rw [(by rw [(by rw [hk];rfl:(x.k==3)=false)];rfl:(!(x.k==3))=true)] at q;cases q)))))))))
 refine zJ (zR (o_d 2 [(183,pv 2 5),(182,sv 3 0 (16+8+x.op.length) (16+8+x.op.length+(((24+x.da.length+x.op.length - 16) - 8) - x.op.length)))] (o_s (by refine zX (v:=iv x.fp) rfl rfl ?_;exact rfl) ?_)))
 obtain ⟨m23,hm23⟩: ∃z9,za8 (xI b8 x) 16 2 x.fp=z9:=⟨_,rfl⟩
 have hm23l:m23.length=(xI b8 x).length:=by rw [←hm23,zU]
 have hm23n:m23.length=16+8+x.op.length:=by rw [hm23l]<;>exact lA
 refine qW (zdd [3] [zG (some (0,16+8+x.op.length+(((24+x.da.length+x.op.length - 16) - 8) - x.op.length))) (u8 ((xI b8 x)++List.replicate (((24+x.da.length+x.op.length - 16) - 8) - x.op.length) 0)) true] [zN (some (0,16+8+x.op.length+(((24+x.da.length+x.op.length - 16) - 8) - x.op.length))) 0 ((xI b8 x).length),iv 16,iv 2,iv x.fp] (zb4 (some (0,16+8+x.op.length+(((24+x.da.length+x.op.length - 16) - 8) - x.op.length))) ((xI b8 x)++List.replicate (((24+x.da.length+x.op.length - 16) - 8) - x.op.length) 0) (xI b8 x) (zcB (l:=(b8.set 20 x.fl).set 21 ((x.op.length:Nat):Int)) (n:=16+8+x.op.length) (r:=(((24+x.da.length+x.op.length - 16) - 8) - x.op.length)) lA) 16 2 x.fp lA lA lA) rfl (zQ (zac rfl lA) (zQ rfl (zQ rfl (zQ rfl rfl)))) ⟨⟨_,rfl,zaR⟩,trivial⟩ dC ?_)
 rintro v1 h1' ⟨rfl,rfl⟩
 refine ⟨.tuple #[],[zG qp (u8 Lo) false,zG qd (u8 Ld) false,cw (xM x qp qd),cw (u8 m23++zai zB (((24+x.da.length+x.op.length - 16) - 8) - x.op.length))],[],(by simp [zaL]),⟨rfl,rfl,rfl,(zb1 hm23 lA),trivial⟩,trivial, ?_⟩
 refine zE (zC (zR (o_d 2 [(187,pv 2 6),(186,sv 3 0 (16+8+x.op.length) (16+8+x.op.length+(((24+x.da.length+x.op.length - 16) - 8) - x.op.length)))] (o_s (by refine zX (v:=iv x.tp) rfl rfl ?_;exact rfl) ?_))))
 obtain ⟨m24,hm24⟩: ∃z9,za8 m23 18 2 x.tp=z9:=⟨_,rfl⟩
 have hm24l:m24.length=m23.length:=by rw [←hm24,zU]
 have hm24n:m24.length=16+8+x.op.length:=by rw [hm24l]<;>exact lA
 refine qW (zdd [3] [zG (some (0,16+8+x.op.length+(((24+x.da.length+x.op.length - 16) - 8) - x.op.length))) (u8 (m23++List.replicate (((24+x.da.length+x.op.length - 16) - 8) - x.op.length) 0)) true] [zN (some (0,16+8+x.op.length+(((24+x.da.length+x.op.length - 16) - 8) - x.op.length))) 0 m23.length,iv 18,iv 2,iv x.tp] (zb4 (some (0,16+8+x.op.length+(((24+x.da.length+x.op.length - 16) - 8) - x.op.length))) (m23++List.replicate (((24+x.da.length+x.op.length - 16) - 8) - x.op.length) 0) m23 (zcB (l:=m23) (n:=16+8+x.op.length) (r:=(((24+x.da.length+x.op.length - 16) - 8) - x.op.length)) lA) 18 2 x.tp lA lA lA) rfl (zQ (zac rfl lA) (zQ rfl (zQ rfl (zQ rfl rfl)))) ⟨⟨_,rfl,zaR⟩,trivial⟩ dC ?_)
 rintro v1 h1' ⟨rfl,rfl⟩
 refine ⟨.tuple #[],[zG qp (u8 Lo) false,zG qd (u8 Ld) false,cw (xM x qp qd),cw (u8 m24++zai zB (((24+x.da.length+x.op.length - 16) - 8) - x.op.length))],[],(by simp [zaL]),⟨rfl,rfl,rfl,(zb1 hm24 lA),trivial⟩,trivial, ?_⟩
 refine zE (zT [(8,sv 3 0 (16+8+x.op.length) (16+8+x.op.length+(((24+x.da.length+x.op.length - 16) - 8) - x.op.length))),(5,bv (x.k==2)),(1,pv 2 0)] (zJ (zR (o_d 2 [(191,pv 2 12),(190,sv 3 0 (16+8+x.op.length) (16+8+x.op.length+(((24+x.da.length+x.op.length - 16) - 8) - x.op.length)))] (o_s (by refine zX (v:=zN qd 1 x.da.length) rfl rfl ?_;exact rfl) ?_)))))
 obtain ⟨m25,hm25⟩: ∃z9,m24++x.da=z9:=⟨_,rfl⟩
 have hm25l:m25.length=16+8+x.op.length+x.da.length:=by rw [←hm25,List.length_append]<;>exact lA
 refine o_appF (q:=x.da.length) (r:=(((24+x.da.length+x.op.length - 16) - 8) - x.op.length)) (r2:=((((24+x.da.length+x.op.length - 16) - 8) - x.op.length) - x.da.length)) (n:=16+8+x.op.length) (k:=3) (cs:=u8 m24) (xs:=u8 x.da) (cs2:=u8 m25) (zl:=zB) rfl rfl om rfl (by rw [qL]<;>exact lA) rfl (zcT _ _ _ hrd.nil) (zcO rfl rfl hrd) (by rw [qL]<;>exact lA) (by rw [zcz,hm25]) rfl ?_
 refine o_d 1 [(8,sv 3 0 (16+8+x.op.length+x.da.length) (16+8+x.op.length+x.da.length+((((24+x.da.length+x.op.length - 16) - 8) - x.op.length) - x.da.length)))] (zE ?_)
 have hB:bldB x=m25:=by
  unfold bldB;rw [if_neg om,if_neg om]
  unfold bldS bldH;rw [hm15,hm16,hm17,hm19,hb8,hm23,hm24,hm25]
 have hml:m25.length=(24+x.da.length+x.op.length):=by rw [hm25l]<;>omega
 refine ⟨⟨reg [(8,zN (some (0,(24+x.da.length+x.op.length))) 3 (24+x.da.length+x.op.length)),(5,bv (x.k==2)),(1,pv 2 0)],[zG qp (u8 Lo) false,zG qd (u8 Ld) false,cw (xM x qp qd),zG (some (0,(24+x.da.length+x.op.length))) (u8 m25) true]⟩,Wk.ren [0,1,2,3] rfl rfl dC ⟨conv_sv rfl om om,rfl,rfl,trivial⟩ ⟨.inl (zF (zH _)),.inl (zF (zH _)),.inl (zcd rfl rfl),.inl (zjr om),trivial⟩, ?_⟩
 refine zJ (zR (o_d 1 [(194,zN (some (0,(24+x.da.length+x.op.length))) 3 (24+x.da.length+x.op.length))] ?_))
 have hsl:=zhY m25
 refine qW (zaK [3] [zG (some (0,(24+x.da.length+x.op.length))) (u8 m25) false] [zN (some (0,(24+x.da.length+x.op.length))) 0 m25.length] (summedC (some (0,(24+x.da.length+x.op.length))) m25 m25 (RowOf.whole rfl om) om om) rfl (zQ (zac rfl lA) rfl) ⟨⟨_,rfl,zY (zH _) rfl (fun q=>rfl)⟩,trivial⟩ dC ?_)
 rintro v1 h1' ⟨c26,rfl,rfl⟩
 refine ⟨zak [_] [_],sv 4 0 ((zbP m25).length) ((zbP m25).length+c26),[zG qp (u8 Lo) false,zG qd (u8 Ld) false,cw (xM x qp qd),zG (some (0,(24+x.da.length+x.op.length))) (u8 m25) true],[cw (u8 (zbP m25)++zai zB c26)],rfl,⟨rfl,rfl,rfl,rfl,trivial⟩,⟨(Option.some.inj (zS (zbk (zbP m25) c26))).symm,trivial⟩, ?_⟩
 refine qW (zeE (a1:= [sv 0 0 ((zbP m25).length) ((zbP m25).length+c26)]) [4] [u8 ((zbP m25)++List.replicate c26 0)] (refOf1C (some (0,(zbP m25).length+c26)) ((zbP m25)++List.replicate c26 0) (zbP m25) (zcB (l:=zbP m25) (n:=(zbP m25).length) (r:=c26) lA) lA) rfl (fun _=>rfl) ⟨⟨_,congrArg some (zcL _ _)⟩,zH _,trivial⟩ rfl ?_)
 have hy27:=zhu (zbP m25)
 refine o_d 1 [(9,iv (65535 - zbR (zbP m25)))] (zE (zC (zJ (zJ (zR (o_d 2 [(198,bv (x.k==2)),(197,bv (x.k==2))] (zby (b:=x.k==2) 198 rfl (fun q=>by rw [(by rw [hk];rfl:(x.k==2)=false)] at q;cases q) (fun k28=>?_))))))))
 refine o_d 3 [(201,bv false),(200,undef),(199,undef)] (zE (zC (zaW rfl (qK (zC (zgO (fun s=> ∃(sx:Int),0=0∧(sx=bldX x)∧s=⟨reg [(9,iv sx),(8,zN (some (0,(24+x.da.length+x.op.length))) 3 (24+x.da.length+x.op.length)),(1,pv 2 0)],[zG qp (u8 Lo) false,zG qd (u8 Ld) false,cw (xM x qp qd),zG (some (0,(24+x.da.length+x.op.length))) (u8 m25) true,cw (u8 (zbP m25)++zai zB c26)]⟩) ?_ ?_))))))
 ·skip
  refine zJ (zR (o_d 2 [(203,bv (x.k==2)),(202,bv (x.k==2))] (zby (b:=x.k==2) 203 rfl (fun q=>by rw [(by rw [hk];rfl:(x.k==2)=false)] at q;cases q) (fun k29=>?_))))
  refine o_d 3 [(206,bv false),(205,undef),(204,undef)] (zE (zC (zaW rfl (qK (⟨⟨reg [(9,iv (65535 - zbR (zbP m25))),(8,zN (some (0,(24+x.da.length+x.op.length))) 3 (24+x.da.length+x.op.length)),(1,pv 2 0)],[zG qp (u8 Lo) false,zG qd (u8 Ld) false,cw (xM x qp qd),zG (some (0,(24+x.da.length+x.op.length))) (u8 m25) true,cw (u8 (zbP m25)++zai zB c26)]⟩, ?_⟩)))))
  refine ⟨?_, ?_⟩
  ·exact Wk.ren [0,1,2,3,4] rfl rfl dC ⟨rfl,rfl,rfl,trivial⟩ ⟨.inl (zF (zH _)),.inl (zF (zH _)),.inl (zcd rfl rfl),.inl (zF (zH _)),.inl (zS (zbk (zbP m25) c26)),trivial⟩
  ·exact ⟨(65535 - zbR (zbP m25)),rfl,(by rw [bldX,if_neg om,hB]),rfl⟩
 rintro s ⟨sx,-,hsx,rfl⟩
 refine zJ (zR (o_d 2 [(208,pv 2 0),(207,zN (some (0,(24+x.da.length+x.op.length))) 3 (24+x.da.length+x.op.length))] (o_s (by refine zX (v:=iv x.k) rfl rfl ?_;exact rfl) ?_)))
 refine qW (zae (place22C om (placeC x.k)) rfl rfl rfl ?_)
 refine o_d 1 [(211,iv sx)] ?_
 obtain ⟨m30,hm30⟩: ∃z9,za8 m25 22 2 sx=z9:=⟨_,rfl⟩
 have hm30l:m30.length=m25.length:=by rw [←hm30,zU]
 refine qW (zaK [3] [zG (some (0,(24+x.da.length+x.op.length))) (u8 m25) true] [zN (some (0,(24+x.da.length+x.op.length))) 0 m25.length,iv 22,iv 2,iv sx] (zb4 (some (0,(24+x.da.length+x.op.length))) m25 m25 (RowOf.whole rfl om) 22 2 sx lA lA lA) rfl (zQ (zac rfl lA) (zQ rfl (zQ rfl (zQ rfl rfl)))) ⟨⟨_,rfl,zY (zH _) rfl (fun q=>rfl)⟩,trivial⟩ dC ?_)
 rintro v1 h1' ⟨rfl,rfl⟩
 refine ⟨(fun i q=>zcw q),.tuple #[],[zG qp (u8 Lo) false,zG qd (u8 Ld) false,cw (xM x qp qd),zG (some (0,(24+x.da.length+x.op.length))) (u8 m30) true,cw (u8 (zbP m25)++zai zB c26)],[],(by simp [zaL]),⟨rfl,rfl,rfl,(zcs hm30),rfl,trivial⟩,trivial, ?_⟩
 refine zE (zC (zJ (zR (o_d 3 [(3,iv 0),(2,zN (some (0,(24+x.da.length+x.op.length))) 3 (24+x.da.length+x.op.length)),(213,zN (some (0,(24+x.da.length+x.op.length))) 3 (24+x.da.length+x.op.length))] (zE (zC (qX ?_)))))))
 have he:bld x=m30:=by unfold bld;rw [hB,zfL,if_neg om,←hsx];exact hm30
 have hlen:m30.length=(24+x.da.length+x.op.length):=om
 exact ⟨trivial,[zN (some (0,(24+x.da.length+x.op.length))) 3 (24+x.da.length+x.op.length),iv 0],(zV rfl (zV rfl rfl)),(zL rfl (zL rfl z4)),⟨reg [],[zG qp (u8 Lo) false,zG qd (u8 Ld) false,zG (some (0,(24+x.da.length+x.op.length))) (u8 m30) true]⟩,[0,1,3],[zN (some (0,(24+x.da.length+x.op.length))) 2 (24+x.da.length+x.op.length),iv 0],WkR.of (rs:= []) rfl rfl dC trivial ⟨.inl (zF (zH _)),.inl (zF (zH _)),.inl (zF (zH _)),trivial⟩,rfl,(by rw [he,hlen];rfl),(by rw [he,hlen])⟩
end Go.Rh

set_option maxHeartbeats 1000000
namespace Go.Rh
theorem bld_pack {x:Pk} {qo qd:Option (Nat×Nat)} {ko kd kp o c kb nb:Nat} :zgh (zaE [(9,Value.int .i64 0),(1,.bool false),(1,.int .i64 0),(2,.slice none 0 0),(1,.pointer none),(1,.slice none 0 0)]) [(0,13,pkV x qo ko qd kd),(13,1,pv kp 0),(14,1,zN (some (o,c)) kb nb)]=some (qS x qo ko qd kd kp (some (o,c)) kb nb):=by kernel_rfl
theorem ParseC3 {P:Program} {q:Option (Nat×Nat)} {L l:List Int} {e:Int} {x:Pk} (hp:qV l=(e,x)) (h:Env P "roundhouse/wire.Parse" [zN q 0 l.length] [zG q (u8 L) false] (fun v h'=>v=zd5 l 1 2∧h'=zG q (u8 L) false::zd2 (qV l).2)):
  Env P "roundhouse/wire.Parse" [zN q 0 l.length] [zG q (u8 L) false] (fun v h'=>v= .tuple #[pkV x (zD x.op) 1 (zD x.da) 2,iv e]∧h'= [zG q (u8 L) false,zG (zD x.op) (u8 x.op) true,zG (zD x.da) (u8 x.da) true]):=by
 simpa only [zd5,zd2,hp] using h
theorem take_e {p:q9} {nr:zdu} {b:List Int} {e:Int} {x:Pk} (hp:qV b=(e,x)) (h: ¬e=0):zaC p nr b=(zdc e,nr):=by unfold zaC;rw [hp];exact if_pos h
theorem take_pi {p:q9} {nr:zdu} {b:List Int} {x:Pk} (hp:qV b=(0,x)) (h: ¬x.pi=0):zaC p nr b=(zdc 6,nr):=by unfold zaC;rw [hp,if_neg (by simp)];exact if_pos h
theorem take_li {p:q9} {nr:zdu} {b:List Int} {x:Pk} (hp:qV b=(0,x)) (h:x.pi=0) (h2:x.li < 2):zaC p nr b=(zdc 7,nr):=by unfold zaC;rw [hp,if_neg (by simp),if_neg (by simpa using h)];exact if_pos h2
theorem take_go {p:q9} {nr:zdu} {b m:List Int} {x:Pk} (hp:qV b=(0,x)) (h:x.pi=0) (h2: ¬x.li < 2) (hm:ageL b x.ba=m):zaC p nr b=go9S p nr x m:=by subst hm;unfold zaC;rw [hp,if_neg (by simp),if_neg (by simpa using h)];exact if_neg h2
theorem go_f3 {p:q9} {nr:zdu} {x:Pk} {m:List Int} {k:Nat} (h:x.k=3) (h2:x.t=p 1) (h3: ¬fauE p x) (h4:zd3 (z7 p) (fauF p x)=(k:Int)):go9S p nr x m=(⟨0,(k:Int),false,fauL p m k⟩,nr):=by unfold go9S;rw [if_pos h,if_neg (fun q=>q h2),if_neg h3,h4,if_neg om];rfl
theorem go_i1 {p:q9} {nr:zdu} {x:Pk} {m:List Int} (h: ¬x.k=3) (h2:x.t=p 1∧x.tp=p 2) (h4:(inP p x).1 < 0):go9S p nr x m=(zdc 9,nr):=by unfold go9S;rw [if_neg h,if_pos h2,if_pos h4]
theorem go_i2 {p:q9} {nr:zdu} {x:Pk} {m:List Int} {k:Nat} (h: ¬x.k=3) (h2:x.t=p 1∧x.tp=p 2) (h4:(inP p x).1=(k:Int)):go9S p nr x m=(⟨0,(k:Int),(inP p x).2,inL p nr x m k⟩,nr):=by unfold go9S;rw [if_neg h,if_pos h2,h4,if_neg om];rfl
theorem go_n {p:q9} {nr:zdu} {x:Pk} {m:List Int} (h: ¬x.k=3) (h2: ¬(x.t=p 1∧x.tp=p 2)) (h4:(zao (zdo p x.fr x.fp) 0 64).2=false):go9S p nr x m=(zdc 8,nr):=by unfold go9S;rw [if_neg h,if_neg h2,if_neg (by rw [h4];simp)]
theorem go_o {p:q9} {nr:zdu} {x:Pk} {m:List Int} {s:Nat} (h: ¬x.k=3) (h2: ¬(x.t=p 1∧x.tp=p 2)) (h4:(zao (zdo p x.fr x.fp) 0 64).2=true) (hs:(zao (zdo p x.fr x.fp) 0 64).1=(s:Int)):go9S p nr x m=(⟨0,-1,false,outL p x m (s:Nat)⟩,outN nr x s):=by unfold go9S;rw [if_neg h,if_neg h2,if_pos h4,hs];rfl
theorem zij {p:q9} {x:Pk} {m:List Int} {s:Int} :(outL p x m s).length=m.length:=by
 have hn: ∀(l:List Int) ba so a b,(natL l ba so a b).length=l.length:=fun l ba so a b=>by unfold natL;simp only;rw [zad,q8,q8,zU,zU,zU]
 have hw: ∀(l:List Int) ba a n v,(zcj l ba a n v).length=l.length:=fun l ba a n v=>by unfold zcj;rw [zad,q8,zU]
 unfold outL;split
 ·rw [hw,hn]
 ·split
  ·rw [hn]
  ·rw [hw,hn]
theorem inL_length {p:q9} {nr:zdu} {x:Pk} {m:List Int} {s:Nat} :(inL p nr x m s).length=m.length:=by
 have hn: ∀(l:List Int) ba so a b,(natL l ba so a b).length=l.length:=fun l ba so a b=>by unfold natL;simp only;rw [zad,q8,q8,zU,zU,zU]
 have hw: ∀(l:List Int) ba a n v,(zcj l ba a n v).length=l.length:=fun l ba a n v=>by unfold zcj;rw [zad,q8,zU]
 unfold inL;split
 ·rw [hn]
 ·split
  ·rw [hw,hn]
  ·rw [hn]
theorem oc_some {e s:Int} {c:Bool} {m:List Int} {n k:Nat} (h:m.length=n) (h0:0 < n):ocV ⟨e,s,c,m⟩ k= .agg #[iv e,iv s,bv c,zN (some (0,n)) k n]:=by
 subst h;simp only [ocV,ocL];rw [zdi h0]
theorem ob_some {m:List Int} {n:Nat} (h:m.length=n) (h0:0 < n):zG (zD m) (u8 m) true=zG (some (0,n)) (u8 m) true:=by
 subst h;rw [zdi h0]
theorem pk_op {l:List Int} (h:24≤l.length):(zeH l).op.length+24≤l.length:=by
 unfold zeH;split
 ·simpa using h
 split
 ·simpa using h
 ·simp only [List.length_take,List.length_drop];omega
theorem FindC2 {P:Program} {p:q9} {a b:Int} {s:Nat} (hs:(zao (zdo p a b) 0 64).1=(s:Int)) (h:Env P "roundhouse/pool.Find" [zap p,.int .i64 a,.int .i64 b] [] (Ans (.tuple #[.int .i64 (zao (zdo p a b) 0 64).1,.bool (zao (zdo p a b) 0 64).2]) [])):Env P "roundhouse/pool.Find" [zap p,.int .i64 a,.int .i64 b] [] (Ans (.tuple #[iv (s:Int),bv (zao (zdo p a b) 0 64).2]) []):=by
 rwa [hs] at h
end Go.Rh

namespace Go.Rh
def Small (c:q9):Prop:= ∀k,k < 64→(0≤c (3+5*k+1)∧c (3+5*k+1)≤4)∧(0≤c (3+5*k+2)∧c (3+5*k+2)≤2)
theorem ent_small (n:Int):(zci n).a≤4∧(zci n).p≤2:=by
 have h1: ∀x:Int,x.tmod 5≤4:=fun x=>by have:=Int.tmod_lt_of_pos x (b:=5) dC;omega
 have h2: ∀x:Int,x.tmod 3≤2:=fun x=>by have:=Int.tmod_lt_of_pos x (b:=3) dC;omega
 have f: ∀(b:Bool) (x y:Ent),(x.a≤4∧x.p≤2)→(y.a≤4∧y.p≤2)→((bif b then x else y).a≤4∧(bif b then x else y).p≤2):=fun b x y hx hy=>by cases b;exact hy;exact hx
 have z:(0:Int)≤4∧(0:Int)≤2:=by decide
 unfold zci
 repeat' apply f
 all_goals first | exact z | exact ⟨h1 _,h2 _⟩
theorem small_apply {c:q9} {e:Ent} (h:Small c) (he:e.a≤4∧e.p≤2) (ha:(qQ c e).2=0):Small (qQ c e).1:=by
 intro k hk
 obtain ⟨h1,hc,_,_⟩:=zhL ha
 obtain ⟨hkk,hs,_,hpl,_⟩:=zgi hc
 by_cases hne:(k:Int)≠e.s∨e.k=6
 ·have:=apply_other ha hk hne
  rw [this.2.1,this.2.2.1];exact h k hk
 ·have hks:e.s.toNat=k:=om
  obtain ⟨x0,x1,x2,x3,x4,hd,hx1,hx5,hx⟩:=zhH c e om
  rw [h1,hd,hks,ss1,ss2,if_pos rfl,if_pos rfl]
  have hh:=h k hk
  by_cases k1:e.k=1
  ·have:=hx1 k1;have hp:=placed_r (hpl k1).1
   omega
  ·by_cases k5:e.k=5
   ·have:=hx5 k5;omega
   ·have:=hx k1 k5;rw [hks] at this;omega
theorem zi9 (ns:List Int) (k:Nat):Small (z6 ns k):=by
 have g: ∀(l:List Int) (c:q9),Small c→Small (l.foldl zgw c):=by
  intro l
  induction l with
  | nil=>exact fun c h=>h
  | cons n l ih=>
   intro c h
   refine ih _ ?_
   unfold zgw;split
   ·rename_i ha;exact small_apply h (ent_small n) ha
   ·exact h
 refine g _ _ fun k hk=>?_
 have hp:za7 10 80=true:=by decide
 simp only [zg0,hp,if_true]
 rw [zfO _ _ _ _ _ _ om,zfO _ _ _ _ _ _ om];decide
theorem findS_none {c:q9} {a p:Int} (h:Small c) (ha:4 < a):(zao (zdR c a p) 0 64).2=false:=by
 have g: ∀n i,i+n≤64→(zao (zdR c a p) i n).2=false:=by
  intro n
  induction n with
  | zero=>intro i _;rfl
  | succ n ih=>
   intro i hi
   have hf:zdR c a p i=false:=by
    have:=h i om
    have e:(c (3+5*i+1)==a)=false:=beq_eq_false_iff_ne.2 om
    unfold zdR;rw [e];simp
   unfold zao;rw [hf];exact ih (i+1) om
 exact g 64 0 om
structure OutOk (p:q9) (x:Pk):Prop where
  k:x.k=1∨x.k=2
  li:1≤x.li∧x.li≤9
  pi:x.pi=0
  fr:0≤x.fr∧x.fr≤4
  fp:0≤x.fp∧x.fp≤2
  t:1000≤x.t∧x.t≤1004
  tp:0≤x.tp∧x.tp≤2
  fl:0≤x.fl∧x.fl≤15∧(x.k=2→x.fl=0)
  la:0≤x.la∧x.la≤65535∧(x.k=1→x.la=0)
  ba:x.k=1→x.ba=false
  co:x.co=0
  op:x.op.length≤12∧(x.k=2→x.op= [])
  da:x.da.length≤1
theorem outX_ok {p:q9} (h:Small p) (n m:Int):OutOk p (outX p n m):=by
 have hn:=zeJ n (n:=1125899906842624) dC
 have hm:=zeJ m (n:=65536) dC
 have hs:=h (zA n 1125899906842624 % 6).toNat om
 unfold outX
 split
 ·constructor<;>simp<;>omega
 ·split
  ·constructor<;>simp [stL,b4]<;>omega
  ·constructor<;>simp<;>omega
theorem outX_row (p:q9) (n m:Int):RowOf (some (0,1)) [zA n 1125899906842624] (outX p n m).da:=by
 have hn:=zeJ n (n:=1125899906842624) dC
 have e:(outX p n m).da= [zA n 1125899906842624].take (zA n 1125899906842624 / 1620 % 2).toNat:=by
  unfold outX;split<;>rfl
 rw [e];exact row_tk rfl om
theorem OutT {P:Program} {p:q9} {n m:Int} {x:Pk} {L2:List Int} (h:outX p n m=x) (hE:Env P "roundhouse/roundhouselaw9.Out" [zap p,iv n,iv m] [] (fun w h'=> ∃q1 L1,RowOf q1 L1 (outX p n m).op∧w=pkV (outX p n m) q1 0 (some (0,1)) 1∧h'= [zG q1 (u8 L1) true,zG (some (0,1)) (u8 L2) true])):Env P "roundhouse/roundhouselaw9.Out" [zap p,iv n,iv m] [] (fun w h'=> ∃q1 L1,RowOf q1 L1 x.op∧w=pkV x q1 0 (some (0,1)) 1∧h'= [zG q1 (u8 L1) true,zG (some (0,1)) (u8 L2) true]):=by subst h;exact hE
def za6 (x:Pk) (fr t li pi:Int):Pk:=⟨x.k,li,pi,fr,t,x.fp,x.tp,x.fl,x.la,x.ba,x.co,x.op,x.da⟩
theorem ordX_ok {p:q9} {x:Pk} (h:OutOk p x) {fr t li pi:Int} (h1:0≤fr∧fr≤9999) (h2:0≤t∧t≤9999) (h3:0≤li∧li≤9) (h4:0≤pi∧pi≤2):BOk (za6 x fr t li pi):=by
 have:=h.k;have:=h.fp;have:=h.tp;have:=h.fl;have:=h.la;have:=h.co;have:=h.op;have:=h.da
 constructor<;>simp only [za6]<;>omega
theorem ordX_parse {p:q9} {x:Pk} (h:OutOk p x) {fr t li pi:Int} (B:BOk (za6 x fr t li pi)):qV (bld (za6 x fr t li pi))=(0,za6 x fr t li pi):=by
 rcases h.k with k | k
 ·exact parse_bld1 B k (h.la.2.2 k) (h.ba k) h.co
 ·exact parse_bld2 B k (h.fl.2.2 k) h.co (h.op.2 k)
theorem bld_len {x:Pk} (B:BOk x):24≤(bld x).length∧(bld x).length≤1500:=by
 have:=B.k;have:=B.da;have:=B.n
 rw [zef];split
 ·omega
 ·split<;>omega
theorem Build12C {P:Program} {q1 q2:Option (Nat×Nat)} {x:Pk} {h0:List Blk} {R:zdU} (hk:x.k=1∨x.k=2) (h1:x.k=1→Env P "roundhouse/roundhouseref3.Build" [pkV x q1 0 q2 1] h0 R) (h2:x.k=2→Env P "roundhouse/roundhouseref3.Build" [pkV x q1 0 q2 1] h0 R):Env P "roundhouse/roundhouseref3.Build" [pkV x q1 0 q2 1] h0 R:=
 hk.elim h1 h2
theorem bad_sum {l:List Int} {x:Pk} (h:qV l=(0,x)) {v:Int} (hv:(v % 256 - (l.getD 15 0 % 256) - 1) % 256=0):qV (l.set 15 v)=(4,pk0):=by
 have P:=(zd4 h).1
 have hl:=P.len;have hb:=P.b0;have h2:=P.b2;have h13:=P.b13;have hw:=P.w
 have g: ∀i,i≠15→(l.set 15 v).getD i 0=l.getD i 0:=fun i hi=>zaq om
 have g15:(l.set 15 v).getD 15 0=v:=zaS om
 have c: ∀a k,a+k≤15∨16≤a→qE (l.set 15 v) a k=qE l a k:=fun a k q=>zer k om
 have c14:qE (l.set 15 v) 14 2=l.getD 14 0 % 256*256+v % 256:=by simp only [qE,Nat.add_zero,Nat.reduceAdd];rw [g 14 om,g15];omega
 have e14:qE l 14 2=l.getD 14 0 % 256*256+l.getD 15 0 % 256:=by simp only [qE,Nat.add_zero,Nat.reduceAdd];omega
 have hne: ¬zbR ((l.set 15 v).take 16)=65535:=fun e=>by
  have:=(ziT (l:=l.set 15 v) (by simp;omega) (zeV (by rw [g 0 om];omega))).1 e
  unfold zge at this hw
  rw [c 0 2 om,c 2 2 om,c 4 2 om,c 6 2 om,c 8 2 om,c 10 2 om,c 12 2 om,c14] at this
  rw [e14] at hw
  omega
 have h4:zb8 (l.set 15 v)=4:=by
  unfold zb8
  rw [List.length_set,g 0 om,g 13 om,c 2 2 om,if_neg om,if_neg om,if_neg om,if_pos hne]
 unfold qV;rw [if_pos (by rw [h4];decide),h4]
theorem zhG {e:Int} (he:e≠0) (nr:zdu):(zdc e,nr).1.e=e∧((e=0)↔0 < (zdc e,nr).1.b.length):=⟨rfl,fun q=>absurd q he,fun q=>absurd (show 0 < 0 from q) dC⟩
theorem iff_beq {w:Int} {n:Nat} (h:(w=0)↔0 < n):((w==0)==decide (((n:Nat):Int) > 0))=true:=by
 by_cases h0:w=0
 ·have:=h.1 h0
  rw [h0,decide_eq_true om];rfl
 ·have: ¬0 < n:=fun q=>h0 (h.2 q)
  rw [decide_eq_false om,beq_eq_false_iff_ne.2 h0];rfl
theorem zbs {ρ:Nat→Nat} {a b c d e f g h i k:Int} {j:Bool} {q1 q2:Option (Nat×Nat)} {k1 k2 k1' k2' n1 n2:Nat} {rw:Bool} (h1:ρ k1=k1') (h2:ρ k2=k2'):some (Blk.cells [iv a,iv b,iv c,iv d,iv e,iv f,iv g,iv h,iv i,bv j,iv k,zN q1 k1' n1,zN q2 k2' n2] rw)=some (zbn ρ (.cells [iv a,iv b,iv c,iv d,iv e,iv f,iv g,iv h,iv i,bv j,iv k,zN q1 k1 n1,zN q2 k2 n2] rw)):=by
 simp only [zbn,List.map_cons,List.map_nil,zcP h1,zcP h2];rfl
theorem order_law {ns:List Int} {x:Pk} (h:OutOk (z6 ns 60) x) {nr:zdu} {fr t li pi w1 w2 w3 w4 w5:Int} {m:List Int}
  (hA:(fr=9999∧t=8888∧w1=8)∨(fr=x.fr∧t=x.t∧w1=0))
  (hB:((li=0∨li=1)∧w2=7)∨(li=9∧w2=w1))
  (hC:((pi=1∨pi=2)∧w3=6)∨(pi=0∧w3=w2))
  (hD:(∃v,(v % 256 - ((bld (za6 x fr t li pi)).getD 15 0 % 256) - 1) % 256=0∧m=(bld (za6 x fr t li pi)).set 15 v∧w4=4)∨(m=bld (za6 x fr t li pi)∧w4=w3))
  (hE:w5=if (zao (zdR (z6 ns 60) fr x.fp) 0 64).2=false∧w4=0 then 8 else w4):
  (qV m).2.k≠3∧(zaC (z6 ns 60) nr m).1.e=w5∧((w5=0)↔0 < (zaC (z6 ns 60) nr m).1.b.length):=by
 have B:BOk (za6 x fr t li pi):=by
  clear hD hE
  have:=h.fr;have:=h.t
  exact ordX_ok h om om om om
 have hp:=ordX_parse h B
 have I:=makeS_inv ns (k:=60) dC
 have hpl:=zio ns 60
 have hx:=h.k;have htt:=h.t
 rcases hD with ⟨v,hv,rfl,rfl⟩ | ⟨rfl,rfl⟩
 ·have hb:=bad_sum hp hv
  have ht:zaC (z6 ns 60) nr ((bld (za6 x fr t li pi)).set 15 v)=(zdc 4,nr):=by
   unfold zaC;rw [hb,if_pos (by show¬(4:Int)=0;decide)]
  have h5:w5=4:=by rw [hE,if_neg om]
  rw [hb,ht,h5];exact ⟨dC,zhG dC nr⟩
 ·have hk3:(za6 x fr t li pi).k≠3:=by show x.k≠3;omega
  rw [hp]
  refine ⟨hk3, ?_⟩
  rcases hC with ⟨h1,h2⟩ | ⟨rfl,h2⟩
  ·have ht:zaC (z6 ns 60) nr (bld (za6 x fr t li pi))=(zdc 6,nr):=by
    unfold zaC;rw [hp,if_neg (by simp),if_pos (by show¬pi=0;omega)]
   have h5:w5=6:=by rw [hE,if_neg om];omega
   rw [ht,h5];exact zhG dC nr
  rcases hB with ⟨h3,h4⟩ | ⟨rfl,h4⟩
  ·have ht:zaC (z6 ns 60) nr (bld (za6 x fr t li 0))=(zdc 7,nr):=by
    unfold zaC;rw [hp,if_neg (by simp),if_neg (by simp [za6]),if_pos (by show li < 2;omega)]
   have h5:w5=7:=by rw [hE,if_neg om];omega
   rw [ht,h5];exact zhG dC nr
  have hnot: ¬((za6 x fr t 9 0).t=z6 ns 60 1∧(za6 x fr t 9 0).tp=z6 ns 60 2):=by
   rw [hpl.1];show¬(t=10∧_);omega
  have hfe:=find_eq I fr x.fp
  by_cases hf:(zao (zdR (z6 ns 60) fr x.fp) 0 64).2=true
  ·have hw:w1=0:=by
    rcases hA with ⟨e,_,_⟩ | ⟨_,_,e⟩
    ·rw [e,findS_none (zi9 ns 60) dC] at hf;cases hf
    ·exact e
   have hr:=find_r (h:=zdo (z6 ns 60) fr x.fp) 64 0 om
   obtain ⟨s,hs⟩: ∃s:Nat,(zao (zdo (z6 ns 60) fr x.fp) 0 64).1=(s:Int):=⟨_,(Int.toNat_of_nonneg hr.1).symm⟩
   have ht:=take_out (nr:=nr) (s:=s) hp rfl (by show (2:Int)≤9;decide) hk3 hnot (by show zao (zdo (z6 ns 60) fr x.fp) 0 64=_;rw [Prod.ext_iff];exact ⟨hs,by rw [hfe];exact hf⟩)
   have h5:w5=0:=by rw [hE,if_neg (by rw [hf];simp)];omega
   rw [ht,h5]
   refine ⟨rfl,fun _=>?_,fun _=>rfl⟩
   show 0 < (outL _ _ _ _).length
   have hb:=zef (za6 x fr t 9 0)
   have hl:(ageL (bld (za6 x fr t 9 0)) (za6 x fr t 9 0).ba).length=(bld (za6 x fr t 9 0)).length:=(age_alike hp (by show (2:Int)≤9;decide)).len
   rw [zij,hl,hb,if_neg hk3];split<;>omega
  ·have hf:(zao (zdR (z6 ns 60) fr x.fp) 0 64).2=false:=by simpa using hf
   have ht:zaC (z6 ns 60) nr (bld (za6 x fr t 9 0))=(zdc 8,nr):=by
    rw [zi5 hp rfl (by show (2:Int)≤9;decide)]
    exact go_n hk3 hnot (by show (zao (zdo (z6 ns 60) fr x.fp) 0 64).2=false;rw [hfe];exact hf)
   have h5:w5=8:=by
    rw [hE]
    by_cases h0:w1=0
    ·rw [if_pos ⟨hf,om⟩]
    ·rw [if_neg om];omega
   rw [ht,h5];exact zhG dC nr
end Go.Rh

set_option maxHeartbeats 1000000
namespace Go.Rh
abbrev ws a (b:zdu) (c:Nat) d e (f:List Int) g:=cw (zM a true b (slV 2 127 (some c)))::zG (some (d,e)) (u8 f) false::slB zI (ii (z7 a)) (some c)::g
abbrev yf a (b:List Int) c d:=[zG (zD a.op) (u8 a.op) true,zG (zD a.da) (u8 a.da) true,cw (wG a 4 5),cw (qS a (zD a.op) 4 (zD a.da) 5 0 (wb b) c b.length),zG (wb b) (u8 d) true]
theorem TakeC9 {P:Program} [PrC P] (p:q9) (nr:zdu) (w9:Nat) (q:Option (Nat×Nat)) (L l:List Int) (hr:RowOf q L l) (hl:l.length≤100000) (H:PRng p) (hnr: ∀k,0≤(nr k).1∧(nr k).1 < 4294967296) (hnf:(qV l).2.k≠3):
    Env P "(*roundhouse/plane.Plane).Take" [pv 0 0,zN q 1 l.length] ([cw (zM p true nr (wv 2 w9)),zG q (u8 L) false,slB zI (ii (z7 p)) (some w9)]) (fun v h'=>v=ocV (zaC p nr l).1 3∧h'= [cw (zM p true (zaC p nr l).2 (wv 2 w9)),zG q (u8 L) false,slB zI (ii (z7 p)) (some w9),zG (zD (zaC p nr l).1.b) (u8 (zaC p nr l).1.b) true]):=by
 refine Env.by4 PrC.plane_Plane_Take ?_
 unfold zbO
 show GC _ 3 _ _ ⟨reg [(0,pv 0 0),(1,zN q 1 l.length)],[cw (zM p true nr (wv 2 w9)),zG q (u8 L) false,slB zI (ii (z7 p)) (some w9)]⟩
 have hp1:=H.a
 have hp2:=H.b
 refine zJ (zR (o_b 1 [(4,pv 3 0)] [cw (zM p true nr (wv 2 w9)),zG q (u8 L) false,slB zI (ii (z7 p)) (some w9),cw wn] (zE (zC (zJ (zJ (zR (o_d 4 (wM 13 0 330 12 0 11 0 10 0) (o_s (by refine zX (v:=bv true) rfl rfl ?_;exact (zep 0).trans rfl) ?_)))))))))
 refine o_d 1 [(15,bv false)] (zE (zC (zaW rfl (qK (zC (zJ (zR (o_d 1 (vo 18 q 1 l) ?_))))))))
 obtain ⟨⟨e1,xe1⟩,he1⟩: ∃z9,qV l=z9:=⟨_,rfl⟩
 refine qW (zaK [1] (wC q L) (Wv q l) (ParseC3 he1 (ParseC q L l hr om)) rfl (zQ (qI rfl) rfl) ⟨⟨_,rfl,zY (zH _) rfl (fun q=>q)⟩,trivial⟩ dC ?_)
 rintro v1 h1' ⟨rfl,rfl⟩
 refine ⟨zak [_] [_,_],.tuple #[pkV xe1 (zD xe1.op) 4 (zD xe1.da) 5,iv e1],[cw (zM p true nr (wv 2 w9)),zG q (u8 L) false,slB zI (ii (z7 p)) (some w9),cw wn],[zG (zD xe1.op) (u8 xe1.op) true,zG (zD xe1.da) (u8 xe1.da) true],(ren_pkT rfl rfl),⟨rfl,(za0 rfl rfl),rfl,rfl,trivial⟩,⟨(Option.some.inj (zF (zH _))).symm,(Option.some.inj (zF (zH _))).symm,trivial⟩, ?_⟩
 refine o_b 6 [(6,iv e1),(5,pv 6 0),(21,iv e1),(20,pkV xe1 (zD xe1.op) 4 (zD xe1.da) 5),(17,.tuple #[pkV xe1 (zD xe1.op) 4 (zD xe1.da) 5,iv e1])] [cw (zM p true nr (wv 2 w9)),zG q (u8 L) false,slB zI (ii (z7 p)) (some w9),cw wn,zG (zD xe1.op) (u8 xe1.op) true,zG (zD xe1.da) (u8 xe1.da) true,cw (wG xe1 4 5)] (zE (zC (zJ (zab (zJ (zR (o_d 3 [(22,bv (e1 !=0)),(24,bv (e1 !=0)),(23,iv e1)] (zE (zC (qJ (t:=e1 !=0) rfl (fun h2=>?_) (fun h2=>?_)))))))))))
 ·skip
  have h2':e1≠0:=zfP h2
  refine zJ (zR (o_d 1 [(25,iv e1)] (qW (zae (dropC e1) rfl rfl rfl (o_b 1 [] [cw (zM p true nr (wv 2 w9)),zG q (u8 L) false,slB zI (ii (z7 p)) (some w9),cw [iv e1,iv (-1),bv false,.slice none 0 0],zG (zD xe1.op) (u8 xe1.op) true,zG (zD xe1.da) (u8 xe1.da) true,cw (wG xe1 4 5)] (zE (zC (qX ?_))))))))
  have he:zaC p nr l=(zdc e1,nr):=take_e he1 (by assumption)
  exact ⟨trivial,[.agg #[iv e1,iv (-1),bv false,.slice none 0 0]],(qZ rfl rfl rfl rfl),(zL rfl z4),⟨reg [],[cw (zM p true nr (wv 2 w9)),zG q (u8 L) false,slB zI (ii (z7 p)) (some w9),.gone]⟩,[0,1,2,10],[.agg #[iv e1,iv (-1),bv false,.slice none 0 0]],WkR.of (rs:= []) rfl rfl dC trivial ⟨.inl (qD rfl),.inl (zF (zH _)),.inl (qT (some w9) (fun _=>(qY _ _))),.inr ⟨rfl,rfl⟩,trivial⟩,(zQ (zbm (q:=none) (k:=0) (k':=0) (n:=0) rfl) rfl),(by rw [he];rfl),(by rw [he];rfl)⟩
 have h2': ¬(e1≠0):=zfQ h2
 have hk3: ¬xe1.k=3:=by have:=hnf;rw [he1] at this;exact this
 have he0:e1=0:=om
 subst he0
 have hp9:=he1
 have hl9:=zcQ hp9
 have hx9:=zfj hp9
 have hop9:xe1.op.length+24≤l.length:=by rw [(zd4 hp9).2];exact pk_op hl9.1
 obtain ⟨o,c,rfl⟩: ∃o c,q=some (o,c):=by cases q with | none=>(have:=hr.nil rfl;omega) | some p=>exact ⟨p.1,p.2,rfl⟩
 refine zJ (zR (o_d 1 [(28,pv 6 2)] (o_s (by refine zX (v:=iv xe1.pi) rfl rfl ?_;exact rfl) ?_)))
 refine o_d 2 [(27,bv (xe1.pi !=0)),(30,bv (xe1.pi !=0))] (zE (zC (qJ (t:=xe1.pi !=0) rfl (fun h3=>?_) (fun h3=>?_))))
 ·skip
  have h3':xe1.pi≠0:=zfP h3
  refine zJ (zR (qW (zae (dropC 6) rfl rfl rfl (o_b 1 [] (ws p nr w9 o c L [cw [iv 6,iv (-1),bv false,.slice none 0 0],zG (zD xe1.op) (u8 xe1.op) true,zG (zD xe1.da) (u8 xe1.da) true,cw (wG xe1 4 5)]) (zE (zT [(4,pv 3 0)] (qX ?_)))))))
  have he:zaC p nr l=(zdc 6,nr):=take_pi hp9 (by assumption)
  exact ⟨trivial,[.agg (wT 6)],(qZ rfl rfl rfl rfl),(zL rfl z4),⟨reg [],(ws p nr w9 o c L [.gone])⟩,[0,1,2,10],[.agg (wT 6)],WkR.of (rs:= []) rfl rfl dC trivial ⟨.inl (qD rfl),.inl (zF (zH _)),.inl (qT (some w9) (fun _=>(qY _ _))),.inr ⟨rfl,rfl⟩,trivial⟩,(zQ (zbm (q:=none) (k:=0) (k':=0) (n:=0) rfl) rfl),(by rw [he];rfl),(by rw [he];rfl)⟩
 have h3': ¬(xe1.pi≠0):=zfQ h3
 refine zJ (zR (o_d 1 [(33,pv 6 1)] (o_s (by refine zX (v:=iv xe1.li) rfl rfl ?_;exact rfl) ?_)))
 refine o_d 2 [(32,bv (decide (xe1.li < 2))),(35,bv (decide (xe1.li < 2)))] (zE (zT [(32,bv (decide (xe1.li < 2))),(5,pv 6 0),(4,pv 3 0),(0,pv 0 0),(1,zN (wD o c) 1 l.length)] (qJ (t:=decide (xe1.li < 2)) rfl (fun h4=>?_) (fun h4=>?_))))
 ·skip
  have h4':xe1.li < 2:=of_decide_eq_true h4
  refine zJ (zR (qW (zae (dropC 7) rfl rfl rfl (o_b 1 [] (ws p nr w9 o c L [cw [iv 7,iv (-1),bv false,.slice none 0 0],zG (zD xe1.op) (u8 xe1.op) true,zG (zD xe1.da) (u8 xe1.da) true,cw (wG xe1 4 5)]) (zE (zC (qX ?_)))))))
  have he:zaC p nr l=(zdc 7,nr):=take_li hp9 om (by assumption)
  exact ⟨trivial,[.agg (wT 7)],(qZ rfl rfl rfl rfl),(zL rfl z4),⟨reg [],(ws p nr w9 o c L [.gone])⟩,[0,1,2,10],[.agg (wT 7)],WkR.of (rs:= []) rfl rfl dC trivial ⟨.inl (qD rfl),.inl (zF (zH _)),.inl (qT (some w9) (fun _=>(qY _ _))),.inr ⟨rfl,rfl⟩,trivial⟩,(zQ (zbm (q:=none) (k:=0) (k':=0) (n:=0) rfl) rfl),(by rw [he];rfl),(by rw [he];rfl)⟩
 have h4': ¬(xe1.li < 2):=of_decide_eq_false h4
 refine qK (zC (zJ (zR (o_s (by refine zX (v:=pkV xe1 (zD xe1.op) 4 (zD xe1.da) 5) rfl rfl ?_;exact rfl) ?_))))
 refine o_d 2 [(39,zN (wD o c) 1 l.length),(38,pv 0 0)] (o_s (by refine zem (c:=qS xe1 (zD xe1.op) 4 (zD xe1.da) 5 0 (wD o c) 1 l.length) ?_;exact bld_pack) ?_)
 refine o_b 2 [(7,pv 7 0),(41,pv 7 0)] (ws p nr w9 o c L [cw wn,zG (zD xe1.op) (u8 xe1.op) true,zG (zD xe1.da) (u8 xe1.da) true,cw (wG xe1 4 5),cw (qS xe1 (zD xe1.op) 4 (zD xe1.da) 5 0 (wD o c) 1 l.length)]) (zE (zC (zJ (zR (o_d 2 [(43,zN (wD o c) 1 l.length),(42,pv 7 0)] ?_)))))
 obtain ⟨m5,hm5⟩: ∃z9,ageL l xe1.ba=z9:=⟨_,rfl⟩
 have hm5a:Alike l m5:=by rw [←hm5];exact age_alike hp9 om
 have hm5p:=hm5a.parse hp9
 have hm5l:=hm5p.2.2.2
 have hm5k:=hm5p.2.1
 have hm5b:=hm5p.2.2.1
 have hm5e:m5.length=l.length:=hm5l
 refine qW (zaK [1] (xf o c L) [zN (wD o c) 0 l.length] (chgR hm5 rfl (AgeC _ _ L l hr xe1 hp9 om)) rfl rfl ⟨⟨_,rfl,zY (zH _) rfl (fun q=>q)⟩,trivial⟩ dC ?_)
 rintro v1 h1' ⟨rfl,rfl⟩
 refine ⟨za2 rfl,.tuple (W7 l 8),(ws p nr w9 o c L [cw wn,zG (zD xe1.op) (u8 xe1.op) true,zG (zD xe1.da) (u8 xe1.da) true,cw (wG xe1 4 5),cw (qS xe1 (zD xe1.op) 4 (zD xe1.da) 5 0 (wD o c) 1 l.length)]),(Ww l m5),((zdB _).trans rfl),⟨rfl,rfl,rfl,rfl,rfl,rfl,rfl,rfl,trivial⟩,⟨(Option.some.inj (zF (zH _))).symm,trivial⟩, ?_⟩
 refine o_d 2 (WL 46 45 l 8) (qW (zdq [7,4,5,0,1,8] [cw (qS xe1 (zD xe1.op) 1 (zD xe1.da) 2 3 (wD o c) 4 l.length),zaB ((zD xe1.op).isSome),zaB ((zD xe1.da).isSome),cr [],cr [],cr []] [pv 0 0,zN (wb l) 5 l.length,iv 0] (thenC xe1 (zD xe1.op) (zD xe1.da) o c l.length 0 l.length l.length ((zD xe1.op).isSome) ((zD xe1.da).isSome)) rfl rfl ⟨⟨_,rfl,zas (.inl (zbY rfl rfl rfl rfl (fun q=>rfl)))⟩,⟨_,rfl,(zcp (zD xe1.op))⟩,⟨_,rfl,(zcp (zD xe1.da))⟩,⟨_,rfl,zaD⟩,⟨_,rfl,zaD⟩,⟨_,rfl,zaD⟩,trivial⟩ dC ?_))
 rintro v1 h1' ⟨rfl,rfl⟩
 refine ⟨(zW zaI (zW z8 (zW z8 (zW z8 (zW z8 (zW z8 zal)))))),.tuple #[],(ws p nr w9 o c L (cw wn::(yf xe1 l 8 m5))),[],(by simp [zaL]),⟨rfl,rfl,rfl,rfl,(by first | exact hid1 dC rfl | exact row1 dC rfl),(by first | exact hid2 dC dC rfl | exact row2 dC dC rfl),rfl,zbS rfl rfl rfl rfl,rfl,trivial⟩,trivial, ?_⟩
 refine zE (zC (zJ (zJ (zR (o_d 1 [(48,pv 6 0)] (o_s (by refine zX (v:=iv xe1.k) rfl rfl ?_;exact rfl) ?_))))))
 refine o_d 1 [(50,bv (xe1.k==3))] (zE (zC (qJ (t:=xe1.k==3) rfl (fun q=>by rw [(by exact beq_eq_false_iff_ne.2 hk3:(xe1.k==3)=false)] at q;cases q) (fun _=>?_))))
 refine qK (zC (zgO (fun s=>0=0∧(¬xe1.k=3)∧(¬(xe1.t=p 1∧xe1.tp=p 2))∧s=⟨reg (wM 7 7 0 5 6 4 3 0 0),(ws p nr w9 o c L (cw wn::(yf xe1 l 8 m5)))⟩) ?_ ?_))
 ·skip
  refine zJ (zbG [] (r_d 1 [(63,pv 6 4)] (r_s (by refine zX (v:=iv xe1.t) rfl rfl ?_;exact rfl) ?_)))
  refine r_d 5 ((69,pv 0 1)::(wM 68 0 0 67 0 66 0 65 0)) (r_s (by refine zX (v:=iv (p 1)) rfl rfl ?_;exact zeq (pl_r p 1 rfl om)) ?_)
  refine r_d 2 [(72,bv (xe1.t==(p 1))),(71,bv (xe1.t==(p 1)))] (r_sp (b:=xe1.t==(p 1)) 72 rfl (fun h6=>?_) (fun h6=>?_))
  ·skip
   have h6':xe1.t=p 1:=zaz h6
   refine r_d 1 [(73,pv 6 6)] (zd1 rfl (r_s (by refine zX (v:=iv xe1.tp) rfl rfl ?_;exact rfl) ?_))
   refine r_d 5 ((79,pv 0 2)::(wM 78 0 0 77 0 76 0 75 0)) (zd1 rfl (r_s (by refine zX (v:=iv (p 2)) rfl rfl ?_;exact zeq (pl_r p 2 rfl om)) ?_))
   refine r_d 2 [(82,bv (xe1.tp==(p 2))),(81,bv (xe1.tp==(p 2)))] (zbo (zT ((82,bv (xe1.tp==(p 2)))::(wM 7 7 0 5 6 4 3 0 0)) (qJ (t:=xe1.tp==(p 2)) rfl (fun h7=>?_) (fun h7=>?_))))
   ·skip
    have h7':xe1.tp=p 2:=zaz h7
    refine zJ (zR (o_d 1 [(83,pv 7 0)] (qW (zdq [7,4,5,0,8,2] [cw (qS xe1 (zD xe1.op) 1 (zD xe1.da) 2 3 (wb l) 4 l.length),zG (zD xe1.op) (u8 xe1.op) false,zaB ((zD xe1.da).isSome),cr (zM p true nr (wv 5 w9)),zG (wb l) (u8 m5) false,slB zI (ii (z7 p)) (some w9)] [pv 0 0] (inW p true nr w9 xe1 (zD xe1.da) ((zD xe1.da).isSome) m5 (zeH m5) hm5p.1 hm5k hm5b (by assumption) om H hnr l.length hm5l) rfl rfl ⟨⟨_,rfl,zas (.inl (zbY rfl rfl rfl rfl (fun q=>rfl)))⟩,⟨_,rfl,zas (zY (q:=zD xe1.op) (q':=zD xe1.op) (zH _) rfl (fun q=>rfl))⟩,⟨_,rfl,(zcp (zD xe1.da))⟩,⟨_,rfl,zas (.inl (zaF rfl (fun q=>rfl)))⟩,⟨_,rfl,zas (zY (q:=some (0,l.length)) (q':=some (0,l.length)) (zH _) rfl (fun q=>rfl))⟩,⟨_,rfl,zas (zhz (some w9) (fun _=>(qY _ _)))⟩,trivial⟩ dC ?_))))
    rintro v1 h1' (⟨hi1,rfl,rfl⟩ | ⟨k8,hi1,hi2,rfl,rfl⟩)
    ·skip
     refine ⟨(zW z8 (zW z8 (zW z8 (zW z8 (zW z8 (zW z8 zal)))))),.agg (wT 9),(ws p nr w9 o c L (cw wn::(yf xe1 l 8 m5))),[],(qR rfl),⟨rfl,rfl,(by rcases some w9 with _ | m9<;>first | rfl | exact zbg (qY _ _)),rfl,(by first | exact hid1 dC rfl | exact row1 dC rfl),(by first | exact hid2 dC dC rfl | exact row2 dC dC rfl),rfl,zbS rfl rfl rfl rfl,rfl,trivial⟩,trivial, ?_⟩
     refine o_b 1 [] (ws p nr w9 o c L (cw [iv 9,iv (-1),bv false,.slice none 0 0]::(yf xe1 l 8 m5))) (zE (zC (qX ?_)))
     have he:zaC p nr l=(zdc 9,nr):=(take_go hp9 om om hm5).trans (go_i1 (by assumption) om hi1)
     exact ⟨trivial,[.agg (wT 9)],(qZ rfl rfl rfl rfl),(zL rfl z4),⟨reg [],(ws p nr w9 o c L [.gone])⟩,[0,1,2,12],[.agg (wT 9)],WkR.of (rs:= []) rfl rfl dC trivial ⟨.inl (qD rfl),.inl (zF (zH _)),.inl (qT (some w9) (fun _=>(qY _ _))),.inr ⟨rfl,rfl⟩,trivial⟩,(zQ (zbm (q:=none) (k:=0) (k':=0) (n:=0) rfl) rfl),(by rw [he];rfl),(by rw [he];rfl)⟩
    refine ⟨(zW zaI (zW z8 (zW z8 (zW z8 (zW z8 (zW z8 zal)))))),.agg #[iv 0,iv (k8:Int),bv ((inP p xe1).2),zN (wb l) 9 l.length],(ws p nr w9 o c L (cw wn::(yf xe1 l 9 m5))),[zG (wb l) (u8 (inL p nr xe1 m5 k8)) true],(zbm rfl),⟨rfl,rfl,(by rcases some w9 with _ | m9<;>first | rfl | exact zbg (qY _ _)),rfl,(by first | exact hid1 dC rfl | exact row1 dC rfl),(by first | exact hid2 dC dC rfl | exact row2 dC dC rfl),rfl,zbS rfl rfl rfl rfl,rfl,trivial⟩,⟨(Option.some.inj (zF (zH _))).symm,trivial⟩, ?_⟩
    refine o_b 1 [] (ws p nr w9 o c L [cw [iv 0,iv (k8:Int),bv ((inP p xe1).2),zN (wb l) 9 l.length],zG (zD xe1.op) (u8 xe1.op) true,zG (zD xe1.da) (u8 xe1.da) true,cw (wG xe1 4 5),cw (qS xe1 (zD xe1.op) 4 (zD xe1.da) 5 0 (wb l) 9 l.length),zG (wb l) (u8 m5) true,zG (wb l) (u8 (inL p nr xe1 m5 k8)) true]) (zE (zC (qX ?_)))
    have he:zaC p nr l=(⟨0,(k8:Int),(inP p xe1).2,(inL p nr xe1 m5 k8)⟩,nr):=(take_go hp9 om om hm5).trans (go_i2 (by assumption) om hi1)
    have hlen:(inL p nr xe1 m5 k8).length=l.length:=inL_length.trans hm5l
    exact ⟨trivial,[.agg #[iv 0,iv (k8:Int),bv ((inP p xe1).2),zN (wb l) 9 l.length]],(qZ rfl rfl rfl rfl),(zL rfl z4),⟨reg [],(ws p nr w9 o c L [zG (wb l) (u8 (inL p nr xe1 m5 k8)) true])⟩,[0,1,2,9],[.agg #[iv 0,iv (k8:Int),bv ((inP p xe1).2),zN (wb l) 3 l.length]],WkR.of (rs:= []) rfl rfl dC trivial ⟨.inl (qD rfl),.inl (zF (zH _)),.inl (qT (some w9) (fun _=>(qY _ _))),.inl (zF (zH _)),trivial⟩,(zQ (zbm rfl) rfl),(by rw [he];exact (oc_some hlen om).symm),(by rw [he];show _= [_,_,_,zG (zD _) _ true];rw [ob_some hlen om])⟩
   have h7': ¬(xe1.tp=p 2):=zaA h7
   refine qK (⟨⟨reg (wM 7 7 0 5 6 4 3 0 0),(ws p nr w9 o c L (cw wn::(yf xe1 l 8 m5)))⟩, ?_⟩)
   refine ⟨?_, ?_⟩
   ·exact Wk.ren [0,1,2,3,4,5,6,7,8] rfl rfl dC ⟨rfl,rfl,rfl,rfl,trivial⟩ ⟨.inl (qD rfl),.inl (zF (zH _)),.inl (qT (some w9) (fun _=>(qY _ _))),.inl rfl,.inl (zF (zH _)),.inl (zF (zH _)),.inl (zcd rfl rfl),.inl (zax rfl rfl rfl rfl),.inl (zF (zH _)),trivial⟩
   ·exact ⟨rfl,(by assumption),om,rfl⟩
  have h6': ¬(xe1.t=p 1):=zaA h6
  refine r_d 10 ((82,bv false)::(81,undef)::(80,undef)::(79,undef)::(78,undef)::(77,undef)::(vf 76 75 74 73)) (zbo (zT [(82,bv false),(7,pv 7 0),(5,pv 6 0),(4,pv 3 0),(0,pv 0 0)] (zaW rfl (qK (⟨⟨reg (wM 7 7 0 5 6 4 3 0 0),(ws p nr w9 o c L (cw wn::(yf xe1 l 8 m5)))⟩, ?_⟩)))))
  refine ⟨?_, ?_⟩
  ·exact Wk.ren [0,1,2,3,4,5,6,7,8] rfl rfl dC ⟨rfl,rfl,rfl,rfl,trivial⟩ ⟨.inl (qD rfl),.inl (zF (zH _)),.inl (qT (some w9) (fun _=>(qY _ _))),.inl rfl,.inl (zF (zH _)),.inl (zF (zH _)),.inl (zcd rfl rfl),.inl (zax rfl rfl rfl rfl),.inl (zF (zH _)),trivial⟩
  ·exact ⟨rfl,(by assumption),om,rfl⟩
 rintro s ⟨-,hk3,hnot,rfl⟩
 refine zJ (zbG [] (r_d 4 (wM 89 0 0 88 0 87 0 86 0) (r_s (by refine zX (v:=zap p) rfl rfl ?_;exact zeq (zaM p)) ?_)))
 refine r_d 1 [(91,pv 6 3)] (r_s (by refine zX (v:=iv xe1.fr) rfl rfl ?_;exact rfl) ?_)
 refine r_d 1 [(93,pv 6 5)] (r_s (by refine zX (v:=iv xe1.fp) rfl rfl ?_;exact rfl) ?_)
 obtain ⟨sl,hsl⟩: ∃s:Nat,(zao (zdo p xe1.fr xe1.fp) 0 64).1=(s:Int):=⟨(zao (zdo p xe1.fr xe1.fp) 0 64).1.toNat,by have:=find_r (h:=zdo p xe1.fr xe1.fp) 64 0 om;omega⟩
 have hslr:=(find_r (h:=zdo p xe1.fr xe1.fp) 64 0 om).2
 refine zfW (zbV (FindC2 hsl (FindC p xe1.fr xe1.fp)) rfl (all_cons (zbi p) (all_cons rfl (all_cons rfl rfl))) rfl (r_d 5 [(9,bv ((zao (zdo p xe1.fr xe1.fp) 0 64).2)),(8,iv (sl:Int)),(97,bv ((zao (zdo p xe1.fr xe1.fp) 0 64).2)),(96,iv (sl:Int)),(85,.tuple #[iv (sl:Int),bv ((zao (zdo p xe1.fr xe1.fp) 0 64).2)])] (zbo (zC (zJ (zJ (zR (o_d 2 [(99,bv (!((zao (zdo p xe1.fr xe1.fp) 0 64).2))),(98,bv ((zao (zdo p xe1.fr xe1.fp) 0 64).2))] (zE (zC (qJ (t:= !((zao (zdo p xe1.fr xe1.fp) 0 64).2)) rfl (fun h9=>?_) (fun h9=>?_))))))))))))
 ·skip
  have h10:((zao (zdo p xe1.fr xe1.fp) 0 64).2)=false:=not_t h9
  refine zJ (zR (qW (zae (dropC 8) rfl rfl rfl (o_b 1 [] (ws p nr w9 o c L (cw [iv 8,iv (-1),bv false,.slice none 0 0]::(yf xe1 l 8 m5))) (zE (zT [(4,pv 3 0)] (qX ?_)))))))
  have he:zaC p nr l=(zdc 8,nr):=(take_go hp9 om om hm5).trans (go_n hk3 hnot (by assumption))
  exact ⟨trivial,[.agg (wT 8)],(qZ rfl rfl rfl rfl),(zL rfl z4),⟨reg [],(ws p nr w9 o c L [.gone])⟩,[0,1,2,12],[.agg (wT 8)],WkR.of (rs:= []) rfl rfl dC trivial ⟨.inl (qD rfl),.inl (zF (zH _)),.inl (qT (some w9) (fun _=>(qY _ _))),.inr ⟨rfl,rfl⟩,trivial⟩,(zQ (zbm (q:=none) (k:=0) (k':=0) (n:=0) rfl) rfl),(by rw [he];rfl),(by rw [he];rfl)⟩
 have h11:((zao (zdo p xe1.fr xe1.fp) 0 64).2)=true:=not_f h9
 refine qK (zC (zJ (zR (o_d 2 [(102,iv (sl:Int)),(101,pv 7 0)] (qW (zdq [7,4,5,0,8,2] [cw (qS xe1 (zD xe1.op) 1 (zD xe1.da) 2 3 (wb l) 4 l.length),zG (zD xe1.op) (u8 xe1.op) false,zaB ((zD xe1.da).isSome),cw (zM p true nr (wv 5 w9)),zG (wb l) (u8 m5) false,cr []] [pv 0 0,iv (sl:Int)] (outW p true nr (some w9) xe1 (zD xe1.da) ((zD xe1.da).isSome) m5 (zeH m5) hm5p.1 hm5k hm5b (by assumption) om sl om H l.length hm5l) rfl rfl ⟨⟨_,rfl,zas (.inl (zbY rfl rfl rfl rfl (fun q=>rfl)))⟩,⟨_,rfl,zas (zY (q:=zD xe1.op) (q':=zD xe1.op) (zH _) rfl (fun q=>rfl))⟩,⟨_,rfl,(zcp (zD xe1.da))⟩,⟨_,rfl,zas (.inl (zaF rfl (fun q=>rfl)))⟩,⟨_,rfl,zas (zY (q:=some (0,l.length)) (q':=some (0,l.length)) (zH _) rfl (fun q=>rfl))⟩,⟨_,rfl,zco (some w9)⟩,trivial⟩ dC ?_))))))
 rintro v1 h1' ⟨rfl,rfl⟩
 refine ⟨(zW zaI (zW z8 (zW z8 (zW zaI (zW z8 (zW z8 zal)))))),.agg (yG l 9),(cw (zM p true (outN nr xe1 sl) (wv 2 w9))::zG (wD o c) (u8 L) false::slB zI (ii (z7 p)) (some w9)::cw wn::(yf xe1 l 9 m5)),[zG (wb l) (u8 (outL p xe1 m5 ((sl:Nat):Int))) true],(zbm rfl),⟨zba rfl,rfl,rfl,rfl,(by first | exact hid1 dC rfl | exact row1 dC rfl),(by first | exact hid2 dC dC rfl | exact row2 dC dC rfl),rfl,zbS rfl rfl rfl rfl,rfl,trivial⟩,⟨(Option.some.inj (zF (zH _))).symm,trivial⟩, ?_⟩
 refine o_b 1 [] [cw (zM p true (outN nr xe1 sl) (wv 2 w9)),zG (wD o c) (u8 L) false,slB zI (ii (z7 p)) (some w9),cw [iv 0,iv (-1),bv false,zN (wb l) 9 l.length],zG (zD xe1.op) (u8 xe1.op) true,zG (zD xe1.da) (u8 xe1.da) true,cw (wG xe1 4 5),cw (qS xe1 (zD xe1.op) 4 (zD xe1.da) 5 0 (wb l) 9 l.length),zG (wb l) (u8 m5) true,zG (wb l) (u8 (outL p xe1 m5 ((sl:Nat):Int))) true] (zE (zT [(4,pv 3 0)] (qX ?_)))
 have he:zaC p nr l=(⟨0,-1,false,(outL p xe1 m5 ((sl:Nat):Int))⟩,(outN nr xe1 sl)):=(take_go hp9 om om hm5).trans (go_o hk3 hnot (by assumption) hsl)
 have hlen:(outL p xe1 m5 ((sl:Nat):Int)).length=l.length:=zij.trans hm5l
 exact ⟨trivial,[.agg (yG l 9)],(qZ rfl rfl rfl rfl),(zL rfl z4),⟨reg [],[cw (zM p true (outN nr xe1 sl) (wv 2 w9)),zG (wD o c) (u8 L) false,slB zI (ii (z7 p)) (some w9),zG (wb l) (u8 (outL p xe1 m5 ((sl:Nat):Int))) true]⟩,[0,1,2,9],[.agg (yG l 3)],WkR.of (rs:= []) rfl rfl dC trivial ⟨.inl (qD rfl),.inl (zF (zH _)),.inl (qT (some w9) (fun _=>(qY _ _))),.inl (zF (zH _)),trivial⟩,(zQ (zbm rfl) rfl),(by rw [he];exact (oc_some hlen om).symm),(by rw [he];show _= [_,_,_,zG (zD _) _ true];rw [ob_some hlen om])⟩
end Go.Rh

set_option maxHeartbeats 1000000
namespace Go.Rh
theorem row_nil:RowOf none ([]:List Int) []:=⟨fun _=>rfl,fun h=>absurd rfl h,fun h=>absurd rfl h,fun o c h=>by cases h⟩
theorem TakeT {P:Program} {p:q9} {nr:zdu} {w9:Nat} {q:Option (Nat×Nat)} {L l:List Int} {T:Oc×zdu} (hT:zaC p nr l=T) (h:Env P "(*roundhouse/plane.Plane).Take" [pv 0 0,zN q 1 l.length] [cw (zM p true nr (slV 2 127 (some w9))),zG q (u8 L) false,slB zI (ii (z7 p)) (some w9)] (fun v h'=>v=ocV (zaC p nr l).1 3∧h'= [cw (zM p true (zaC p nr l).2 (slV 2 127 (some w9))),zG q (u8 L) false,slB zI (ii (z7 p)) (some w9),zG (zD (zaC p nr l).1.b) (u8 (zaC p nr l).1.b) true])):Env P "(*roundhouse/plane.Plane).Take" [pv 0 0,zN q 1 l.length] [cw (zM p true nr (slV 2 127 (some w9))),zG q (u8 L) false,slB zI (ii (z7 p)) (some w9)] (fun v h'=>v=ocV T.1 3∧h'= [cw (zM p true T.2 (slV 2 127 (some w9))),zG q (u8 L) false,slB zI (ii (z7 p)) (some w9),zG (zD T.1.b) (u8 T.1.b) true]):=by
 subst hT;exact h
def zcI:Pk:=⟨2,9,0,1,10,2,80,0,0,false,0,[],[]⟩
theorem bok00:BOk zcI:=by constructor<;>decide
theorem kn1:(zaC (z6 [0,2] 2) nr0 (bld zcI)).1.e=0:=by kernel_rfl
theorem kn2:(zaC (z6 [0,2] 2) nr0 (bld zcI)).1.s=0:=by kernel_rfl
theorem kn3:(zaC (z6 [0,2] 2) nr0 (bld zcI)).1.c=false:=by kernel_rfl
theorem kn4:(zaC (z6 [0,2] 2) nr0 (bld zcI)).1.b.length=(bld zcI).length:=by kernel_rfl
theorem kn5:(zcS (zaC (z6 [0,2] 2) nr0 (bld zcI)).2 0).2=false:=by kernel_rfl
theorem kn6:(z6 [0,2] 2) 0=2:=by kernel_rfl
theorem kn7:(bld zcI).length≤100000:=by decide+kernel
theorem kn8:(qV (bld zcI)).2.k≠3:=by decide+kernel
theorem nr0_r: ∀k,0≤(nr0 k).1∧(nr0 k).1 < 4294967296:=fun k=>⟨by show (0:Int)≤0;decide,by show (0:Int) < 4294967296;decide⟩
theorem make_rng (ns:List Int) {k:Nat} (hk:k≤100):PRng (z6 ns k):=(makeS_inv ns (k:=k) om).rng om
abbrev yt:=[iv 10,iv (-1),bv false,.slice none 0 0]
theorem TakeNC {P:Program} [PrC P] (p:q9) (nr:zdu) (q:Option Nat) (zw:Bool):
    Env P "(*roundhouse/plane.Plane).Take" [pv 0 0,.slice none 0 0] ([cw (zM p false nr (xH q)),zaB zw]) (fun v h'=>v= .agg (wT 10)∧h'= [cw (zM p false nr (xH q)),zaB zw]):=by
 refine Env.by4 PrC.plane_Plane_Take ?_
 unfold zbO
 show GC _ 2 _ _ ⟨reg [(0,pv 0 0),(1,.slice none 0 0)],[cw (zM p false nr (xH q)),zaB zw]⟩
 refine zJ (zR (o_b 1 [(4,pv 2 0)] [cw (zM p false nr (xH q)),zaB zw,cw wn] (zE (zC (zJ (zJ (zR (o_d 4 (wM 13 0 330 12 0 11 0 10 0) (o_s (by refine zX (v:=bv false) rfl rfl ?_;exact (zep 0).trans rfl) ?_)))))))))
 exact o_d 1 [(15,bv true)] (zE (zC (zcU rfl (zJ (zR (qW (zae (dropC 10) rfl rfl rfl (o_b 1 [] [cw (zM p false nr (xH q)),zaB zw,cw yt] (zE (zC (qX (⟨trivial,[.agg (wT 10)],(qZ rfl rfl rfl rfl),(zL rfl z4),⟨reg [],[cw (zM p false nr (xH q)),zaB zw]⟩,[0,1],[.agg (wT 10)],WkR.of (rs:= []) rfl rfl dC trivial ⟨.inl (qD (zaP q rfl)),.inl (congrArg some (zaJ _).symm),trivial⟩,(zQ (zbm (q:=none) (k:=0) (k':=0) (n:=0) rfl) rfl),rfl,rfl⟩))))))))))))
theorem TakeDC {P:Program} [PrC P] (p:q9) (nr:zdu) (q:Option Nat) (q1:Option (Nat×Nat)) (n1:Nat) (zb:Bool):
    Env P "(*roundhouse/plane.Plane).Take" [pv 0 0,zN q1 1 n1] ([cw (zM p false nr (slV 2 127 q)),zaB zb,cr []]) (fun v h'=>v= .agg (wT 10)∧h'= [cw (zM p false nr (slV 2 127 q)),zaB zb,cr []]):=by
 refine Env.by4 PrC.plane_Plane_Take ?_
 unfold zbO
 show GC _ 3 _ _ ⟨reg [(0,pv 0 0),(1,zN q1 1 n1)],[cw (zM p false nr (slV 2 127 q)),zaB zb,cr []]⟩
 refine zJ (zR (o_b 1 [(4,pv 3 0)] [cw (zM p false nr (slV 2 127 q)),zaB zb,cr [],cw wn] (zE (zC (zJ (zJ (zR (o_d 4 (wM 13 0 330 12 0 11 0 10 0) (o_s (by refine zX (v:=bv false) rfl rfl ?_;exact (zep 0).trans rfl) ?_)))))))))
 exact o_d 1 [(15,bv true)] (zE (zC (zcU rfl (zJ (zR (qW (zae (dropC 10) rfl rfl rfl (o_b 1 [] [cw (zM p false nr (slV 2 127 q)),zaB zb,cr [],cw yt] (zE (zC (qX (⟨trivial,[.agg (wT 10)],(qZ rfl rfl rfl rfl),(zL rfl z4),⟨reg [],[cw (zM p false nr (slV 2 127 q)),zaB zb,cr []]⟩,[0,1,2],[.agg (wT 10)],WkR.of (rs:= []) rfl rfl dC trivial ⟨.inl (qD (zaP q rfl)),.inl (congrArg some (zaJ _).symm),.inl rfl,trivial⟩,(zQ (zbm (q:=none) (k:=0) (k':=0) (n:=0) rfl) rfl),rfl,rfl⟩))))))))))))
abbrev yw:=(z6 [0,2] 2)
abbrev vi:=(some (0,(bld zcI).length))
theorem known9C {P:Program} [PrC P]:
    Env P "roundhouse/roundhouselaw9.known" [] ([]) (Ans (.bool true) ([])):=by
 refine Env.by PrC.law9_known ?_
 unfold zhl
 show GC _ 0 _ _ ⟨reg [],[]⟩
 refine zJ (zR (o_d 1 [(0,bv false)] (zE (zC (zJ (zR (qW (zdq [] [] [] (PNewC) rfl rfl trivial dC ?_))))))))
 rintro v1 h1' ⟨rfl,rfl⟩
 refine ⟨zal,pv 0 0,[],[cw (zM qM false nr0 wA)],rfl,trivial,⟨(Option.some.inj (qD rfl)).symm,trivial⟩, ?_⟩
 refine o_d 1 [(1,pv 0 0)] (zE (zC (zJ (zJ (zR (o_d 2 [(15,bv false),(14,pv 0 0)] (zE (zC (zaW rfl (qK (⟨⟨reg [(1,pv 0 0)],[cw (zM qM false nr0 wA),.gone]⟩,Wk.ren [0,1] rfl rfl dC ⟨rfl,trivial⟩ ⟨.inl (qD rfl),.inr ⟨rfl,rfl⟩,trivial⟩, ?_⟩)))))))))))
 refine zJ (zR (o_d 1 [(16,pv 0 0)] (qW (zdq [0,1] [cw (vO 1),.gone] [pv 0 0,.slice none 0 0] (TakeNC qM nr0 none false) rfl rfl ⟨⟨_,rfl,zas (.inl (zaF rfl (fun q=>rfl)))⟩,⟨_,rfl,zas (.inr ⟨rfl,rfl⟩)⟩,trivial⟩ dC ?_))))
 rintro v1 h1' ⟨rfl,rfl⟩
 refine ⟨(zW z8 (zW z8 zal)),.agg (wT 10),[cw (vO 1),.gone],[],(qR rfl),⟨zba rfl,rfl,trivial⟩,trivial, ?_⟩
 refine o_b 2 [(2,pv 2 0)] [cw (vO 1),.gone,cw yt] (zE (zC (zJ (zR (o_b 1 [(18,sv 3 0 2 2)] [cw (vO 1),.gone,cw yt,cw [iv 0,iv 2]] (qW (zeE (a1:= [sv 0 0 2 2,iv 2]) [3] [ii [0,2]] (MakeC (some 2) [0,2] (fun q=>by cases q) dC 2 dC) rfl (fun _=>zQ rfl (zQ rfl rfl)) ⟨⟨_,rfl⟩,zan _,trivial⟩ (zbi _) ?_)))))))
 refine o_b 1 [(3,pv 4 0)] [cw (vO 1),.gone,cw yt,cw [iv 0,iv 2],cw (pl qM)] (zdn (by refine zat (c':=pl yw) rfl rfl rfl ?_ ?_ ?_;exact qG _;exact zce om;exact zah qM yw) ?_)
 refine zE (zC (zJ (zR (o_d 1 [(20,pv 0 0)] (o_s (by refine zX (v:=zap yw) rfl rfl ?_;exact zaM yw) ?_)))))
 refine qW (zdq [0,4] [cw (vO 1),cr []] [pv 0 0,zap yw] (PLoadC qM false nr0 none yw) rfl (zQ rfl (zQ (qR (zbi yw)) rfl)) ⟨⟨_,rfl,zas (.inl (zaF rfl (fun q=>rfl)))⟩,⟨_,rfl,zaD⟩,trivial⟩ dC ?_)
 rintro v1 h1' ⟨rfl,m1,rfl⟩
 refine ⟨(zW zaI (zW z8 zal)),.tuple #[],[cw (zM yw true nr0 (wv 5 m1)),.gone,cw yt,cw [iv 0,iv 2],cw (pl yw)],[slB zI (ii (z7 yw)) (some m1)],(by simp [zaL]),⟨zba rfl,rfl,rfl,rfl,rfl,trivial⟩,⟨(Option.some.inj (qT (some m1) (fun _=>(qY _ _)))).symm,trivial⟩, ?_⟩
 refine zE (zC (zJ (zR (o_d 1 [(24,pv 0 0)] (qW (zdq [0,5] [cr (zM yw true nr0 (wv 1 m1)),cr []] [pv 0 0] (PVersionC yw true nr0 (some m1)) rfl rfl ⟨⟨_,rfl,zas (.inl (zaF rfl (fun q=>rfl)))⟩,⟨_,rfl,zco (some m1)⟩,trivial⟩ dC ?_))))))
 rintro v1 h1' ⟨rfl,rfl⟩
 refine ⟨(zW z8 (zW z8 zal)),.tuple #[iv (yw 0),bv true],[cw (zM yw true nr0 (wv 5 m1)),.gone,cw yt,cw [iv 0,iv 2],cw (pl yw),slB zI (ii (z7 yw)) (some m1)],[],(qR rfl),⟨rfl,rfl,rfl,rfl,rfl,rfl,trivial⟩,trivial, ?_⟩
 refine o_d 5 [(5,bv true),(4,iv (yw 0)),(27,bv true),(26,iv (yw 0)),(23,.tuple #[iv (yw 0),bv true])] (zE (⟨⟨reg [(5,bv true),(4,iv (yw 0)),(2,pv 2 0),(1,pv 0 0)],[cw (zM yw true nr0 (wv 5 m1)),.gone,cw yt,cw [iv 0,iv 2],cw (pl yw),slB zI (ii (z7 yw)) (some m1),.gone,.gone]⟩,Wk.ren [0,1,2,3,4,5,6,7] rfl rfl dC ⟨rfl,rfl,rfl,rfl,trivial⟩ ⟨.inl (qD rfl),.inl rfl,.inl rfl,.inl rfl,.inl (zS (zaa yw)),.inl (qT (some m1) (fun _=>(qY _ _))),.inr ⟨rfl,rfl⟩,.inr ⟨rfl,rfl⟩,trivial⟩, ?_⟩))
 refine zJ (zR (o_d 1 [(29,.agg #[iv 2,iv 9,iv 0,iv 1,iv 10,iv 2,iv 80,iv 0,iv 0,bv false,iv 0,.slice none 0 0,.slice none 0 0])] (qW (zaK [1,6] [zG none (u8 ([]:List Int)) false,zG none (u8 ([]:List Int)) false] [pkV zcI none 0 none 1] (Build2C none none ([]:List Int) ([]:List Int) zcI (row_nil) (row_nil) bok00 rfl) rfl (zQ (zct rfl rfl) rfl) ⟨⟨_,rfl,.inr ⟨rfl,rfl⟩⟩,⟨_,rfl,.inr ⟨rfl,rfl⟩⟩,trivial⟩ dC ?_))))
 rintro v1 h1' ⟨rfl,rfl⟩
 refine ⟨zak [_,_] [_],.tuple #[zN vi 8 ((bld zcI).length),iv 0],[cw (zM yw true nr0 (wv 5 m1)),.gone,cw yt,cw [iv 0,iv 2],cw (pl yw),slB zI (ii (z7 yw)) (some m1),.gone,.gone],[zG vi (u8 (bld zcI)) true],((zdB _).trans rfl),⟨rfl,rfl,rfl,rfl,rfl,rfl,rfl,rfl,trivial⟩,⟨(zc9 (zH _)),trivial⟩, ?_⟩
 refine o_d 5 [(7,iv 0),(6,zN vi 8 ((bld zcI).length)),(32,iv 0),(31,zN vi 8 ((bld zcI).length)),(28,.tuple #[zN vi 8 ((bld zcI).length),iv 0])] (zE (zC (zJ (zR (o_d 2 [(34,zN vi 8 ((bld zcI).length)),(33,pv 0 0)] ?_)))))
 obtain ⟨T2,hT2⟩: ∃z9,zaC yw nr0 (bld zcI)=z9:=⟨_,rfl⟩
 have hk1:T2.1.e=0:=by rw [←hT2];exact kn1
 have hk2:T2.1.s=0:=by rw [←hT2];exact kn2
 have hk3:T2.1.c=false:=by rw [←hT2];exact kn3
 have hk4:T2.1.b.length=(bld zcI).length:=by rw [←hT2];exact kn4
 have hk5:(zcS T2.2 0).2=false:=by rw [←hT2];exact kn5
 refine qW (zdq [0,8,5] [cw (zM yw true nr0 (wv 2 m1)),zG vi (u8 (bld zcI)) false,slB zI (ii (z7 yw)) (some m1)] [pv 0 0,zN vi 1 ((bld zcI).length)] (TakeT hT2 (TakeC9 yw nr0 m1 vi (bld zcI) (bld zcI) (RowOf.whole rfl (Nat.le_refl _)) (by first | omega | exact kn7) (make_rng _ dC) nr0_r kn8)) rfl rfl ⟨⟨_,rfl,zas (.inl (zaF rfl (fun q=>rfl)))⟩,⟨_,rfl,zas (zY (q:=some (0,(bld zcI).length)) (q':=some (0,(bld zcI).length)) (zH _) rfl (fun q=>rfl))⟩,⟨_,rfl,zas (zhz (some m1) (fun _=>(qY _ _)))⟩,trivial⟩ dC ?_)
 rintro v1 h1' ⟨rfl,rfl⟩
 refine ⟨(zW zaI (zW z8 (zW z8 zal))),.agg #[iv T2.1.e,iv T2.1.s,bv T2.1.c,zN (zD T2.1.b) 9 T2.1.b.length],[cw (zM yw true T2.2 (wv 5 m1)),.gone,cw yt,cw [iv 0,iv 2],cw (pl yw),slB zI (ii (z7 yw)) (some m1),.gone,.gone,zG vi (u8 (bld zcI)) true],[zG (zD T2.1.b) (u8 T2.1.b) true],(zbm rfl),⟨zba rfl,rfl,rfl,rfl,rfl,(by rcases some m1 with _ | m9<;>first | rfl | exact zbg (qY _ _)),rfl,rfl,rfl,trivial⟩,⟨(Option.some.inj (zF (zH _))).symm,trivial⟩, ?_⟩
 refine o_b 2 [(8,pv 10 0)] [cw (zM yw true T2.2 (wv 5 m1)),.gone,cw [iv 10,iv (-1),bv false,.slice none 0 0],cw [iv 0,iv 2],cw (pl (z6 [0,2] 2)),slB zI (ii (z7 (z6 [0,2] 2))) (some m1),.gone,.gone,zG (some (0,(bld zcI).length)) (u8 (bld zcI)) true,zG (zD T2.1.b) (u8 T2.1.b) true,cw [iv T2.1.e,iv T2.1.s,bv T2.1.c,zN (zD T2.1.b) 9 T2.1.b.length]] (zE (zC (zJ (zR (o_d 1 [(37,pv 0 0)] (qW (zdq [0,5] [cr (zM yw true T2.2 (wv 1 m1)),cr []] [pv 0 0,iv 0] (NearC yw true T2.2 (some m1) 0) rfl rfl ⟨⟨_,rfl,zas (.inl (zaF rfl (fun q=>rfl)))⟩,⟨_,rfl,zco (some m1)⟩,trivial⟩ dC ?_)))))))
 rintro v1 h1' ⟨rfl,rfl⟩
 refine ⟨(zW z8 (zW z8 zal)),.tuple #[.int .u32 ((zcS T2.2 0).1),bv ((zcS T2.2 0).2)],[cw (zM yw true T2.2 (wv 5 m1)),.gone,cw [iv 10,iv (-1),bv false,.slice none 0 0],cw [iv 0,iv 2],cw (pl (z6 [0,2] 2)),slB zI (ii (z7 (z6 [0,2] 2))) (some m1),.gone,.gone,zG (some (0,(bld zcI).length)) (u8 (bld zcI)) true,zG (zD T2.1.b) (u8 T2.1.b) true,cw [iv T2.1.e,iv T2.1.s,bv T2.1.c,zN (zD T2.1.b) 9 T2.1.b.length]],[],(qR rfl),⟨rfl,rfl,rfl,rfl,rfl,rfl,rfl,rfl,rfl,rfl,rfl,trivial⟩,trivial, ?_⟩
 refine o_d 5 [(10,bv ((zcS T2.2 0).2)),(9,.int .u32 ((zcS T2.2 0).1)),(40,bv ((zcS T2.2 0).2)),(39,.int .u32 ((zcS T2.2 0).1)),(36,.tuple #[.int .u32 ((zcS T2.2 0).1),bv ((zcS T2.2 0).2)])] (zE (zC (zJ (zR (o_d 1 [(41,pv 0 0)] (qW (zdq [0,5] [cw (zM yw true T2.2 (wv 1 m1)),cr []] [pv 0 0] (PCrashC yw true T2.2 (some m1)) rfl rfl ⟨⟨_,rfl,zas (.inl (zaF rfl (fun q=>rfl)))⟩,⟨_,rfl,zco (some m1)⟩,trivial⟩ dC ?_)))))))
 rintro v1 h1' ⟨rfl,rfl⟩
 refine ⟨(zW zaI (zW z8 zal)),.tuple #[],[cw (vO 5),.gone,cw [iv 10,iv (-1),bv false,.slice none 0 0],cw [iv 0,iv 2],cw (pl (z6 [0,2] 2)),slB zI (ii (z7 (z6 [0,2] 2))) (some m1),.gone,.gone,zG (some (0,(bld zcI).length)) (u8 (bld zcI)) true,zG (zD T2.1.b) (u8 T2.1.b) true,cw [iv T2.1.e,iv T2.1.s,bv T2.1.c,zN (zD T2.1.b) 9 T2.1.b.length]],[],(by simp [zaL]),⟨zba rfl,rfl,rfl,rfl,rfl,rfl,rfl,rfl,rfl,rfl,rfl,trivial⟩,trivial, ?_⟩
 refine zE (zC (zJ (zR (o_d 1 [(44,pv 0 0)] (qW (zdq [0,5] [cr (vO 1),cr []] [pv 0 0] (PVersionC qM false nr0 none) rfl rfl ⟨⟨_,rfl,zas (.inl (zaF rfl (fun q=>rfl)))⟩,⟨_,rfl,zco (some m1)⟩,trivial⟩ dC ?_))))))
 rintro v1 h1' ⟨rfl,rfl⟩
 refine ⟨(zW z8 (zW z8 zal)),.tuple #[iv (qM 0),bv false],[cw (vO 5),.gone,cw [iv 10,iv (-1),bv false,.slice none 0 0],cw [iv 0,iv 2],cw (pl (z6 [0,2] 2)),slB zI (ii (z7 (z6 [0,2] 2))) (some m1),.gone,.gone,zG (some (0,(bld zcI).length)) (u8 (bld zcI)) true,zG (zD T2.1.b) (u8 T2.1.b) true,cw [iv T2.1.e,iv T2.1.s,bv T2.1.c,zN (zD T2.1.b) 9 T2.1.b.length]],[],(qR rfl),⟨rfl,rfl,rfl,rfl,rfl,rfl,rfl,rfl,rfl,rfl,rfl,trivial⟩,trivial, ?_⟩
 refine o_d 5 [(12,bv false),(11,iv (qM 0)),(47,bv false),(46,iv (qM 0)),(43,.tuple #[iv (qM 0),bv false])] (zE (zT [(12,bv false),(10,bv ((zcS T2.2 0).2)),(8,pv 10 0),(6,zN vi 8 ((bld zcI).length)),(5,bv true),(4,iv (yw 0)),(2,pv 2 0)] (zJ (zR (o_d 16 [(63,bv ((yw 0)==2)),(62,bv ((yw 0)==2)),(61,bv ((yw 0)==2)),(60,iv (yw 0)),(59,bv true),(58,bv true),(57,bv true),(56,bv true),(55,bv true),(54,bv true),(53,iv (-1)),(52,pv 2 1),(51,bv true),(50,bv true),(49,iv 10),(48,pv 2 0)] (zby (b:=(yw 0)==2) 63 rfl (fun k3=>?_) (fun q=>by rw [(beq_iff_eq.2 kn6:((yw 0)==2)=true)] at q;cases q)))))))
 refine o_d 5 [(68,bv (T2.1.e==0)),(67,bv (T2.1.e==0)),(66,bv (T2.1.e==0)),(65,iv T2.1.e),(64,pv 10 0)] (zby (b:=T2.1.e==0) 68 rfl (fun k4=>?_) (fun q=>by rw [(by rw [hk1];rfl:(T2.1.e==0)=true)] at q;cases q))
 refine o_d 5 [(73,bv (T2.1.s==0)),(72,bv (T2.1.s==0)),(71,bv (T2.1.s==0)),(70,iv T2.1.s),(69,pv 10 1)] (zby (b:=T2.1.s==0) 73 rfl (fun k5=>?_) (fun q=>by rw [(by rw [hk2];rfl:(T2.1.s==0)=true)] at q;cases q))
 refine o_d 5 [(78,bv (!T2.1.c)),(77,bv (!T2.1.c)),(76,bv (!T2.1.c)),(75,bv T2.1.c),(74,pv 10 2)] (zby (b:= !T2.1.c) 78 rfl (fun k6=>?_) (fun q=>by rw [(by rw [hk3];rfl:(!T2.1.c)=true)] at q;cases q))
 refine o_d 2 [(80,zN (zD T2.1.b) 9 T2.1.b.length),(79,pv 10 3)] (qC rfl (o_s (by exact qN rfl (zcN T2.1.b).nil) ?_))
 refine o_d 1 [(82,zN vi 8 ((bld zcI).length))] (qC rfl (o_s (by exact qN (q:=some (0,(bld zcI).length)) (k:=8) (n:=(bld zcI).length) rfl (fun q=>by cases q)) ?_))
 refine o_d 3 [(86,bv (((T2.1.b.length:Nat):Int)==((bld zcI).length:Nat))),(85,bv (((T2.1.b.length:Nat):Int)==((bld zcI).length:Nat))),(84,bv (((T2.1.b.length:Nat):Int)==((bld zcI).length:Nat)))] (zby (b:=((T2.1.b.length:Nat):Int)==((bld zcI).length:Nat)) 86 rfl (fun k7=>?_) (fun q=>by rw [(by rw [hk4];exact beq_self_eq_true _:(((T2.1.b.length:Nat):Int)==((bld zcI).length:Nat))=true)] at q;cases q))
 refine o_d 4 [(90,bv (!((zcS T2.2 0).2))),(89,bv (!((zcS T2.2 0).2))),(88,bv (!((zcS T2.2 0).2))),(87,bv ((zcS T2.2 0).2))] (zby (b:= !((zcS T2.2 0).2)) 90 rfl (fun k8=>?_) (fun q=>by rw [(by rw [hk5];rfl:(!((zcS T2.2 0).2))=true)] at q;cases q))
 refine o_d 4 [(0,bv true),(93,bv true),(92,bv true),(91,bv false)] (zE (zT [(0,bv true)] (qX ?_)))
 have E0_:(true)=true:=by
  first | rfl | (rw [hk5];rfl) | (simp [hk5])
 exact qA [bv true] (zV rfl rfl) rfl (by rw [E0_];rfl) rfl rfl
end Go.Rh

set_option maxHeartbeats 8000000
namespace Go.Rh
abbrev wd (a:Option Nat) (b:List Int) c d e (f:Int) g:=inB a (ii b)::cw (pl (z6 b 60))::cw (zM (z6 b 60) true nr0 (slV 3 127 (some c)))::slB zI (ii (z7 (z6 b 60))) (some c)::zG d (u8 e) true::zG (some (0,1)) (u8 ([zA f 1125899906842624])) true::g
abbrev wh (a:Pk) b:=[iv a.fp,iv a.tp,iv a.fl,iv a.la,bv a.ba,iv a.co,zN b 4 a.op.length,zN (some (0,1)) 5 a.da.length]
abbrev wL (a:Option Nat) (b:List Int) c d e (f:Int) g:=inB a (ii b)::cw (pl (z6 b 60))::cw (zM qM false nr0 (slV 3 127 none))::slB zI (ii (z7 (z6 b 60))) (some c)::zG d (u8 e) true::zG (some (0,1)) (u8 ([zA f 1125899906842624])) true::g
abbrev vY a (b:Int):=[(12,iv a),(11,pv 6 0),(10,pv 2 0),(9,pv 1 0),(3,iv b)]
abbrev v9 (a:List Int) b (c:Pk):=[(16,bv ((zao (zdR (z6 a 60) b c.fp) 0 64).2)),(15,iv ((zao (zdR (z6 a 60) b c.fp) 0 64).1)),(81,bv ((zao (zdR (z6 a 60) b c.fp) 0 64).2)),(80,iv ((zao (zdR (z6 a 60) b c.fp) 0 64).1)),(73,.tuple #[iv ((zao (zdR (z6 a 60) b c.fp) 0 64).1),bv ((zao (zdR (z6 a 60) b c.fp) 0 64).2)])]
abbrev WA a (b:Int):=[(12,iv a),(11,pv 6 0),(10,pv 2 0),(9,pv 1 0),(3,iv b)]
theorem PlaneOrderC {P:Program} [PrC P] (o:Option Nat) (ns:List Int) (hnns:o=none→ns= []) (hl:(ns.length:Int)≤9223372036854775807) (n m bits:Int):
    Env P "roundhouse/roundhouselaw9.PlaneOrder" [inV o 0 ns.length,iv n,iv m,iv bits] ([inB o (ii ns)]) (Ans (.bool true) ([inB o (ii ns)])):=by
 refine Env.by PrC.law9_PlaneOrder ?_
 unfold zee
 show GC _ 1 _ _ ⟨reg [(0,inV o 0 ns.length),(1,iv n),(2,iv m),(3,iv bits)],[inB o (ii ns)]⟩
 have hpl:=zio ns 60
 refine zJ (zR (o_d 1 [(8,bv false)] (zE (zC (zJ (zJ (zR (qW (zae (known9C) rfl rfl rfl (o_d 1 [(19,bv false)] (zE (zC ?_))))))))))))
 refine zaW rfl (qK (zC (zJ (zR (o_d 1 [(20,inV o 0 ns.length)] (qW (zhJ (callIn 0 (MakeC o ns hnns hl 60 om) rfl (zan _) rfl rfl (zbi _) ?_))))))))
 refine o_b 1 [(9,pv 1 0)] [inB o (ii ns),cw (pl qM)] (zdn (by refine zat (c':=pl (z6 ns 60)) rfl rfl rfl ?_ ?_ ?_;exact qG _;exact zce om;exact zah qM (z6 ns 60)) ?_)
 refine zE (zC (zJ (zR (o_s (by refine zX (v:=zap (z6 ns 60)) rfl rfl ?_;exact zaM (z6 ns 60)) ?_))))
 refine qW (zdq [] [] [zap (z6 ns 60)] (upC (z6 ns 60)) rfl (zQ (qR (zbi (z6 ns 60))) rfl) trivial dC ?_)
 rintro v1 h1' ⟨m1,rfl,rfl⟩
 refine ⟨zal,pv 2 0,[inB o (ii ns),cw (pl (z6 ns 60))],[cw (zM (z6 ns 60) true nr0 (wv 3 m1)),slB zI (ii (z7 (z6 ns 60))) (some m1)],rfl,⟨rfl,rfl,trivial⟩,⟨(Option.some.inj (qD rfl)).symm,(Option.some.inj (qT (some m1) (fun _=>(qY _ _)))).symm,trivial⟩, ?_⟩
 refine o_d 1 [(10,pv 2 0)] (zE (zC (zJ (zJ (zR (o_d 2 [(25,bv false),(24,pv 2 0)] (zE (zC (zaW rfl (qK (zC (zJ ?_))))))))))))
 refine zR (o_s (by refine zX (v:=zap (z6 ns 60)) rfl rfl ?_;exact zaM (z6 ns 60)) ?_)
 refine o_d 2 [(28,iv m),(27,iv n)] ?_
 obtain ⟨X2,hX2⟩: ∃z9,outX (z6 ns 60) n m=z9:=⟨_,rfl⟩
 have hX2o:OutOk (z6 ns 60) X2:=by rw [←hX2];exact outX_ok (zi9 ns 60) _ _
 have hX2d:RowOf (some (0,1)) [zA n 1125899906842624] X2.da:=by rw [←hX2];exact outX_row _ _ _
 refine qW (zdd [] [] [zap (z6 ns 60),iv n,iv m] (OutT hX2 (OutC9 (z6 ns 60) n m)) rfl (zQ (qR (zbi (z6 ns 60))) (zQ rfl (zQ rfl rfl))) trivial dC ?_)
 rintro v1 h1' ⟨q1q3,L1q3,hrq3,rfl,rfl⟩
 refine ⟨.agg #[iv X2.k,iv X2.li,iv X2.pi,iv X2.fr,iv X2.t,iv X2.fp,iv X2.tp,iv X2.fl,iv X2.la,bv X2.ba,iv X2.co,zN q1q3 4 X2.op.length,zN (some (0,1)) 5 X2.da.length],[inB o (ii ns),cw (pl (z6 ns 60)),cw (zM (z6 ns 60) true nr0 (wv 3 m1)),slB zI (ii (z7 (z6 ns 60))) (some m1)],[zG q1q3 (u8 L1q3) true,zG (some (0,1)) (u8 ([zA n 1125899906842624])) true],(zct rfl rfl),⟨rfl,rfl,rfl,rfl,trivial⟩,⟨(Option.some.inj (zF (zH _))).symm,(Option.some.inj (zF (zH _))).symm,trivial⟩, ?_⟩
 refine o_b 2 [(11,pv 6 0)] (wd o ns m1 q1q3 L1q3 n [cw ((iv X2.k::iv X2.li::iv X2.pi::iv X2.fr::iv X2.t::(wh X2 q1q3)))]) (zE (zC (zJ (zR (o_d 1 [(12,iv 0)] (zE (zC (zgO (fun s=> ∃(fr:Int),∃(t:Int),∃(w1:Int),0=0∧((fr=9999∧t=8888∧w1=8)∨(fr=X2.fr∧t=X2.t∧w1=0))∧s=⟨reg (vY w1 bits),(wd o ns m1 q1q3 L1q3 n [cw ((iv X2.k::iv X2.li::iv X2.pi::iv fr::iv t::(wh X2 q1q3)))])⟩) ?_ ?_))))))))
 ·skip
  refine zJ (zR (o_d 1 [(30,iv bits)] (o_s (by refine zK (congrArg wg (zcm (k:= .i64) 1 (M:=1) (R:=2) (x:=bits) dC rfl rfl)) ?_;kernel_rfl) ?_)))
  refine o_d 1 [(32,bv ((bits % 2)==1))] (zE (zC (qJ (t:=(bits % 2)==1) rfl (fun h4=>?_) (fun h4=>?_))))
  ·skip
   have h4':bits % 2=1:=zaz h4
   refine zR (o_b 5 [(12,iv 8),(34,pv 6 4),(33,pv 6 3)] (wd o ns m1 q1q3 L1q3 n [cw ((iv X2.k::iv X2.li::iv X2.pi::iv 9999::iv 8888::(wh X2 q1q3)))]) (zE (⟨⟨reg (WA 8 bits),(wd o ns m1 q1q3 L1q3 n [cw ((iv X2.k::iv X2.li::iv X2.pi::iv 9999::iv 8888::(wh X2 q1q3)))])⟩, ?_⟩)))
   refine ⟨?_, ?_⟩
   ·exact Wk.ren [0,1,2,3,4,5,6] rfl rfl dC ⟨rfl,rfl,rfl,rfl,rfl,trivial⟩ ⟨.inl (zbK o (zan ns)),.inl (zS (zaa (z6 ns 60))),.inl (qD rfl),.inl (qT (some m1) (fun _=>(qY _ _))),.inl (zF (zH _)),.inl (zF (zH _)),.inl (zbs rfl rfl),trivial⟩
   ·exact ⟨9999,8888,8,rfl,(.inl ⟨rfl,rfl,rfl⟩),rfl⟩
  have h4': ¬(bits % 2=1):=zaA h4
  refine qK (⟨⟨reg (WA 0 bits),(wd o ns m1 q1q3 L1q3 n [cw ((iv X2.k::iv X2.li::iv X2.pi::iv X2.fr::iv X2.t::(wh X2 q1q3)))])⟩, ?_⟩)
  refine ⟨?_, ?_⟩
  ·exact Wk.ren [0,1,2,3,4,5,6] rfl rfl dC ⟨rfl,rfl,rfl,rfl,rfl,trivial⟩ ⟨.inl (zbK o (zan ns)),.inl (zS (zaa (z6 ns 60))),.inl (qD rfl),.inl (qT (some m1) (fun _=>(qY _ _))),.inl (zF (zH _)),.inl (zF (zH _)),.inl (zbs rfl rfl),trivial⟩
  ·exact ⟨X2.fr,X2.t,0,rfl,(.inr ⟨rfl,rfl,rfl⟩),rfl⟩
 rintro s ⟨fr,t,w1,-,hA,rfl⟩
 refine zgO (fun s=> ∃(li:Int),∃(w2:Int),0=0∧(((li=0∨li=1)∧w2=7)∨(li=9∧w2=w1))∧s=⟨reg (vY w2 bits),(wd o ns m1 q1q3 L1q3 n [cw ((iv X2.k::iv li::iv X2.pi::iv fr::iv t::(wh X2 q1q3)))])⟩) ?_ ?_
 ·skip
  refine zJ (zR (o_d 1 [(35,iv bits)] (o_s (by refine zK (v:= .int .i64 (bits.fdiv 2)) (congrArg wg (zbl dC)) ?_;kernel_rfl) ?_)))
  refine o_s (by refine zK (congrArg wg (zcm (k:= .i64) 1 (M:=1) (R:=2) (x:=bits / 2) dC rfl rfl)) ?_;kernel_rfl) ?_
  refine o_d 1 [(38,bv (((bits / 2) % 2)==1))] (zE (zC (qJ (t:=((bits / 2) % 2)==1) rfl (fun h5=>?_) (fun h5=>?_))))
  ·skip
   have h5':(bits / 2) % 2=1:=zaz h5
   refine zR (o_d 1 [(39,iv bits)] (o_s (by refine zK (v:= .int .i64 (bits.fdiv 256)) (congrArg wg (zbl dC)) ?_;kernel_rfl) ?_))
   refine o_s (by refine zK (congrArg wg (zcm (k:= .i64) 1 (M:=1) (R:=2) (x:=bits / 256) dC rfl rfl)) ?_;kernel_rfl) ?_
   refine o_b 3 [(12,iv 7),(42,pv 6 1)] (wd o ns m1 q1q3 L1q3 n [cw ((iv X2.k::iv ((bits / 256) % 2)::iv X2.pi::iv fr::iv t::(wh X2 q1q3)))]) (zE (⟨⟨reg (WA 7 bits),(wd o ns m1 q1q3 L1q3 n [cw ((iv X2.k::iv ((bits / 256) % 2)::iv X2.pi::iv fr::iv t::(wh X2 q1q3)))])⟩, ?_⟩))
   refine ⟨?_, ?_⟩
   ·exact Wk.ren [0,1,2,3,4,5,6] rfl rfl dC ⟨rfl,rfl,rfl,rfl,rfl,trivial⟩ ⟨.inl (zbK o (zan ns)),.inl (zS (zaa (z6 ns 60))),.inl (qD rfl),.inl (qT (some m1) (fun _=>(qY _ _))),.inl (zF (zH _)),.inl (zF (zH _)),.inl (zbs rfl rfl),trivial⟩
   ·exact ⟨((bits / 256) % 2),7,rfl,(.inl ⟨om,rfl⟩),rfl⟩
  have h5': ¬((bits / 2) % 2=1):=zaA h5
  refine zR (o_b 2 [(43,pv 6 1)] (wd o ns m1 q1q3 L1q3 n [cw ((iv X2.k::iv 9::iv X2.pi::iv fr::iv t::(wh X2 q1q3)))]) (zE (⟨⟨reg (vY w1 bits),(wd o ns m1 q1q3 L1q3 n [cw ((iv X2.k::iv 9::iv X2.pi::iv fr::iv t::(wh X2 q1q3)))])⟩, ?_⟩)))
  refine ⟨?_, ?_⟩
  ·exact Wk.ren [0,1,2,3,4,5,6] rfl rfl dC ⟨rfl,rfl,rfl,rfl,rfl,trivial⟩ ⟨.inl (zbK o (zan ns)),.inl (zS (zaa (z6 ns 60))),.inl (qD rfl),.inl (qT (some m1) (fun _=>(qY _ _))),.inl (zF (zH _)),.inl (zF (zH _)),.inl (zbs rfl rfl),trivial⟩
  ·exact ⟨9,w1,rfl,(.inr ⟨rfl,rfl⟩),rfl⟩
 rintro s ⟨li,w2,-,hB,rfl⟩
 refine zgO (fun s=> ∃(pi:Int),∃(w3:Int),0=0∧(((pi=1∨pi=2)∧w3=6)∨(pi=0∧w3=w2))∧s=⟨reg (vY w3 bits),(wd o ns m1 q1q3 L1q3 n [cw ((iv X2.k::iv li::iv pi::iv fr::iv t::(wh X2 q1q3)))])⟩) ?_ ?_
 ·skip
  refine zJ (zR (o_d 1 [(44,iv bits)] (o_s (by refine zK (v:= .int .i64 (bits.fdiv 4)) (congrArg wg (zbl dC)) ?_;kernel_rfl) ?_)))
  refine o_s (by refine zK (congrArg wg (zcm (k:= .i64) 1 (M:=1) (R:=2) (x:=bits / 4) dC rfl rfl)) ?_;kernel_rfl) ?_
  refine o_d 1 [(47,bv (((bits / 4) % 2)==1))] (zE (zC (qJ (t:=((bits / 4) % 2)==1) rfl (fun h6=>?_) (fun h6=>?_))))
  ·skip
   have h6':(bits / 4) % 2=1:=zaz h6
   refine zR (o_d 1 [(48,iv bits)] (o_s (by refine zK (v:= .int .i64 (bits.fdiv 256)) (congrArg wg (zbl dC)) ?_;kernel_rfl) ?_))
   refine o_s (by refine zK (congrArg wg (zcm (k:= .i64) 1 (M:=1) (R:=2) (x:=bits / 256) dC rfl rfl)) ?_;kernel_rfl) ?_
   refine o_s (by refine zK (v:= .int .i64 (i64.wrap (1+(bits / 256) % 2))) (congrArg wg (w64 om om)) ?_;kernel_rfl) ?_
   refine o_b 3 [(12,iv 6),(52,pv 6 2)] (wd o ns m1 q1q3 L1q3 n [cw ((iv X2.k::iv li::iv (1+(bits / 256) % 2)::iv fr::iv t::(wh X2 q1q3)))]) (zE (⟨⟨reg (WA 6 bits),(wd o ns m1 q1q3 L1q3 n [cw ((iv X2.k::iv li::iv (1+(bits / 256) % 2)::iv fr::iv t::(wh X2 q1q3)))])⟩, ?_⟩))
   refine ⟨?_, ?_⟩
   ·exact Wk.ren [0,1,2,3,4,5,6] rfl rfl dC ⟨rfl,rfl,rfl,rfl,rfl,trivial⟩ ⟨.inl (zbK o (zan ns)),.inl (zS (zaa (z6 ns 60))),.inl (qD rfl),.inl (qT (some m1) (fun _=>(qY _ _))),.inl (zF (zH _)),.inl (zF (zH _)),.inl (zbs rfl rfl),trivial⟩
   ·exact ⟨(1+(bits / 256) % 2),6,rfl,(.inl ⟨om,rfl⟩),rfl⟩
  have h6': ¬((bits / 4) % 2=1):=zaA h6
  refine qK (⟨⟨reg (vY w2 bits),(wd o ns m1 q1q3 L1q3 n [cw ((iv X2.k::iv li::iv X2.pi::iv fr::iv t::(wh X2 q1q3)))])⟩, ?_⟩)
  refine ⟨?_, ?_⟩
  ·exact Wk.ren [0,1,2,3,4,5,6] rfl rfl dC ⟨rfl,rfl,rfl,rfl,rfl,trivial⟩ ⟨.inl (zbK o (zan ns)),.inl (zS (zaa (z6 ns 60))),.inl (qD rfl),.inl (qT (some m1) (fun _=>(qY _ _))),.inl (zF (zH _)),.inl (zF (zH _)),.inl (zbs rfl rfl),trivial⟩
  ·exact ⟨X2.pi,w2,rfl,(.inr ⟨hX2o.pi,rfl⟩),rfl⟩
 rintro s ⟨pi,w3,-,hC,rfl⟩
 refine zJ (zR (o_d 1 [(54,.agg #[iv X2.k,iv li,iv pi,iv fr,iv t,iv X2.fp,iv X2.tp,iv X2.fl,iv X2.la,bv X2.ba,iv X2.co,zN q1q3 4 X2.op.length,zN (some (0,1)) 5 X2.da.length])] ?_))
 have hbl:=bld_len (x:=(za6 X2 fr t li pi)) (ordX_ok hX2o (by have:=hX2o.fr;omega) (by have:=hX2o.t;omega) om om)
 refine qW (zaK [4,5] [zG q1q3 (u8 L1q3) false,zG (some (0,1)) (u8 ([zA n 1125899906842624])) false] [pkV (za6 X2 fr t li pi) q1q3 0 (some (0,1)) 1] (Build12C hX2o.k (fun k9=>Build1C q1q3 (some (0,1)) L1q3 ([zA n 1125899906842624]) (za6 X2 fr t li pi) hrq3 hX2d (ordX_ok hX2o (by have:=hX2o.fr;omega) (by have:=hX2o.t;omega) om om) k9) (fun k9=>Build2C q1q3 (some (0,1)) L1q3 ([zA n 1125899906842624]) (za6 X2 fr t li pi) hrq3 hX2d (ordX_ok hX2o (by have:=hX2o.fr;omega) (by have:=hX2o.t;omega) om om) k9)) rfl (zQ (zct rfl rfl) rfl) ⟨⟨_,rfl,zY (q:=q1q3) (q':=q1q3) (zH _) rfl (fun q=>rfl)⟩,⟨_,rfl,zY (q:=some (0,1)) (q':=some (0,1)) (zH _) rfl (fun q=>rfl)⟩,trivial⟩ dC ?_)
 rintro v1 h1' ⟨rfl,rfl⟩
 refine ⟨zak [_,_] [_],.tuple #[zN (some (0,(bld (za6 X2 fr t li pi)).length)) 7 ((bld (za6 X2 fr t li pi)).length),iv 0],(wd o ns m1 q1q3 L1q3 n [cw ((iv X2.k::iv li::iv pi::iv fr::iv t::(wh X2 q1q3)))]),[zG (some (0,(bld (za6 X2 fr t li pi)).length)) (u8 (bld (za6 X2 fr t li pi))) true],((zdB _).trans rfl),⟨rfl,rfl,rfl,rfl,(by generalize q1q3=z9;cases z9<;>rfl),rfl,rfl,trivial⟩,⟨(zc9 (zH _)),trivial⟩, ?_⟩
 refine o_d 5 [(14,iv 0),(13,zN (some (0,(bld (za6 X2 fr t li pi)).length)) 7 ((bld (za6 X2 fr t li pi)).length)),(57,iv 0),(56,zN (some (0,(bld (za6 X2 fr t li pi)).length)) 7 ((bld (za6 X2 fr t li pi)).length)),(53,.tuple #[zN (some (0,(bld (za6 X2 fr t li pi)).length)) 7 ((bld (za6 X2 fr t li pi)).length),iv 0])] (zE (zC (zgO (fun s=> ∃(m:List Int),∃(w4:Int),0=0∧((∃v,(v % 256 - ((bld (za6 X2 fr t li pi)).getD 15 0 % 256) - 1) % 256=0∧m=(bld (za6 X2 fr t li pi)).set 15 v∧w4=4)∨(m=bld (za6 X2 fr t li pi)∧w4=w3))∧(m.length=(bld (za6 X2 fr t li pi)).length)∧s=⟨reg ((13,zN (some (0,(bld (za6 X2 fr t li pi)).length)) 7 m.length)::(vY w4 bits)),(wd o ns m1 q1q3 L1q3 n [cw ((iv X2.k::iv li::iv pi::iv fr::iv t::(wh X2 q1q3))),zG (some (0,(bld (za6 X2 fr t li pi)).length)) (u8 m) true])⟩) ?_ ?_)))
 ·skip
  refine zJ (zR (o_d 1 [(58,iv bits)] (o_s (by refine zK (v:= .int .i64 (bits.fdiv 8)) (congrArg wg (zbl dC)) ?_;kernel_rfl) ?_)))
  refine o_s (by refine zK (congrArg wg (zcm (k:= .i64) 1 (M:=1) (R:=2) (x:=bits / 8) dC rfl rfl)) ?_;kernel_rfl) ?_
  refine o_d 1 [(61,bv (((bits / 8) % 2)==1))] (zE (zC (qJ (t:=((bits / 8) % 2)==1) rfl (fun h7=>?_) (fun h7=>?_))))
  ·skip
   have h7':(bits / 8) % 2=1:=zaz h7
   refine zJ (zR (o_d 1 [(62,zN (some (0,(bld (za6 X2 fr t li pi)).length)) 7 ((bld (za6 X2 fr t li pi)).length))] (o_s (by exact qO (q:=some (0,(bld (za6 X2 fr t li pi)).length)) (k:=7) (m:=(bld (za6 X2 fr t li pi)).length) (o':=15) rfl (fun q=>by cases q) rfl om (by simp only [qo];omega)) ?_)))
   refine o_s (by refine zX (v:= .int .u8 ((bld (za6 X2 fr t li pi)).getD 15 0 % 256)) rfl rfl ?_;exact zb0 (q:=some (0,(bld (za6 X2 fr t li pi)).length)) (L:=(bld (za6 X2 fr t li pi))) (l:=(bld (za6 X2 fr t li pi))) (i:=15) (RowOf.whole rfl (Nat.le_refl _)) om rfl) ?_
   refine o_d 1 [(65,.int .u8 (IntKind.u8.wrap ((bld (za6 X2 fr t li pi)).getD 15 0 % 256+1)))] (o_s (by exact qO (q:=some (0,(bld (za6 X2 fr t li pi)).length)) (k:=7) (m:=(bld (za6 X2 fr t li pi)).length) (o':=15) rfl (fun q=>by cases q) rfl om (by simp only [qo];omega)) ?_)
   obtain ⟨m8,hm8⟩: ∃z9,(bld (za6 X2 fr t li pi)).set 15 ((bld (za6 X2 fr t li pi)).getD 15 0 % 256+1)=z9:=⟨_,rfl⟩
   have hm8l:m8.length=(bld (za6 X2 fr t li pi)).length:=by rw [←hm8,List.length_set]
   refine zdn (by exact zf4 (x:=(bld (za6 X2 fr t li pi)).getD 15 0 % 256+1) rfl rfl rfl (by simp) om rfl (by rw [hm8]<;>rfl)) ?_
   refine zE (zC (zR (o_d 1 [(12,iv 4)] (zE (⟨⟨reg ((13,zN (some (0,(bld (za6 X2 fr t li pi)).length)) 7 m8.length)::(WA 4 bits)),(wd o ns m1 q1q3 L1q3 n [cw ((iv X2.k::iv li::iv pi::iv fr::iv t::(wh X2 q1q3))),zG (some (0,(bld (za6 X2 fr t li pi)).length)) (u8 m8) true])⟩, ?_⟩)))))
   refine ⟨?_, ?_⟩
   ·exact Wk.ren [0,1,2,3,4,5,6,7] rfl rfl dC ⟨((zac (q:=some (0,(bld (za6 X2 fr t li pi)).length)) (k:=7) (k':=7) (n:=m8.length) (n':=(bld (za6 X2 fr t li pi)).length) rfl (by first | omega | rfl))).trans rfl,rfl,rfl,rfl,rfl,rfl,trivial⟩ ⟨.inl (zbK o (zan ns)),.inl (zS (zaa (z6 ns 60))),.inl (qD rfl),.inl (qT (some m1) (fun _=>(qY _ _))),.inl (zF (zH _)),.inl (zF (zH _)),.inl (zbs rfl rfl),.inl (zF (zH _)),trivial⟩
   ·exact ⟨m8,4,rfl,(.inl ⟨_,om,hm8.symm,rfl⟩),(by rw [←hm8,List.length_set]),rfl⟩
  have h7': ¬((bits / 8) % 2=1):=zaA h7
  refine qK (⟨⟨reg ((13,zN (some (0,(bld (za6 X2 fr t li pi)).length)) 7 (bld (za6 X2 fr t li pi)).length)::(vY w3 bits)),(wd o ns m1 q1q3 L1q3 n [cw ((iv X2.k::iv li::iv pi::iv fr::iv t::(wh X2 q1q3))),zG (some (0,(bld (za6 X2 fr t li pi)).length)) (u8 (bld (za6 X2 fr t li pi))) true])⟩, ?_⟩)
  refine ⟨?_, ?_⟩
  ·exact Wk.ren [0,1,2,3,4,5,6,7] rfl rfl dC ⟨((zac (q:=some (0,(bld (za6 X2 fr t li pi)).length)) (k:=7) (k':=7) (n:=(bld (za6 X2 fr t li pi)).length) (n':=(bld (za6 X2 fr t li pi)).length) rfl (by first | omega | rfl))).trans rfl,rfl,rfl,rfl,rfl,rfl,trivial⟩ ⟨.inl (zbK o (zan ns)),.inl (zS (zaa (z6 ns 60))),.inl (qD rfl),.inl (qT (some m1) (fun _=>(qY _ _))),.inl (zF (zH _)),.inl (zF (zH _)),.inl (zbs rfl rfl),.inl (zF (zH _)),trivial⟩
  ·exact ⟨(bld (za6 X2 fr t li pi)),w3,rfl,(.inr ⟨rfl,rfl⟩),rfl,rfl⟩
 rintro s ⟨m,w4,-,hD,hml,rfl⟩
 refine zJ (zJ (zR (o_d 1 [(67,iv bits)] (o_s (by refine zK (v:= .int .i64 (bits.fdiv 16)) (congrArg wg (zbl dC)) ?_;kernel_rfl) ?_))))
 refine o_s (by refine zK (congrArg wg (zcm (k:= .i64) 1 (M:=1) (R:=2) (x:=bits / 16) dC rfl rfl)) ?_;kernel_rfl) ?_
 refine o_d 1 [(70,bv (((bits / 16) % 2)==1))] (zE (zC (qJ (t:=((bits / 16) % 2)==1) rfl (fun h9=>?_) (fun h9=>?_))))
 ·skip
  have h9':(bits / 16) % 2=1:=zaz h9
  refine zJ (zR (o_d 1 [(71,pv 2 0)] (qW (zdq [2,3] [cw (zM (z6 ns 60) true nr0 (wv 1 m1)),cr []] [pv 0 0] (PCrashC (z6 ns 60) true nr0 (some m1)) rfl rfl ⟨⟨_,rfl,zas (.inl (zaF rfl (fun q=>rfl)))⟩,⟨_,rfl,zco (some m1)⟩,trivial⟩ dC ?_))))
  rintro v1 h1' ⟨rfl,rfl⟩
  refine ⟨(zW zaI (zW z8 zal)),.tuple #[],(wL o ns m1 q1q3 L1q3 n [cw ((iv X2.k::iv li::iv pi::iv fr::iv t::(wh X2 q1q3))),zG (some (0,(bld (za6 X2 fr t li pi)).length)) (u8 m) true]),[],(by simp [zaL]),⟨rfl,rfl,zba rfl,rfl,rfl,rfl,rfl,rfl,trivial⟩,trivial, ?_⟩
  refine zE (zC (zR (o_d 1 [(12,iv 10)] (zE (zC (zgO (fun s=> ∃(w5:Int),0=0∧(w5=10)∧s=⟨reg [(12,iv w5),(13,zN (some (0,(bld (za6 X2 fr t li pi)).length)) 7 m.length),(10,pv 2 0)],(wL o ns m1 q1q3 L1q3 n [cw ((iv X2.k::iv li::iv pi::iv fr::iv t::(wh X2 q1q3))),zG (some (0,(bld (za6 X2 fr t li pi)).length)) (u8 m) true])⟩) ?_ ?_))))))
  ·skip
   refine zJ (zR (o_s (by refine zX (v:=zap (z6 ns 60)) rfl rfl ?_;exact zaM (z6 ns 60)) ?_))
   refine o_d 4 [(78,iv X2.fp),(77,pv 6 5),(76,iv fr),(75,pv 6 3)] (qW (zae (refFindC (z6 ns 60) fr X2.fp) rfl (all_cons (zbi (z6 ns 60)) (all_cons rfl (all_cons rfl rfl))) rfl (o_d 5 (v9 ns fr X2) (zE (zC (zJ (zR (o_d 3 [(84,bv (!((zao (zdR (z6 ns 60) fr X2.fp) 0 64).2))),(83,bv (!((zao (zdR (z6 ns 60) fr X2.fp) 0 64).2))),(82,bv ((zao (zdR (z6 ns 60) fr X2.fp) 0 64).2))] (zby (b:= !((zao (zdR (z6 ns 60) fr X2.fp) 0 64).2)) 84 rfl (fun h10=>?_) (fun h10=>?_))))))))))
   ·skip
    refine o_d 3 [(87,bv false),(86,bv false),(85,iv 10)] (zE (zT [(87,bv false),(12,iv 10),(13,zN (some (0,(bld (za6 X2 fr t li pi)).length)) 7 m.length),(10,pv 2 0)] (zaW rfl (qK (⟨⟨reg [(12,iv 10),(13,zN (some (0,(bld (za6 X2 fr t li pi)).length)) 7 m.length),(10,pv 2 0)],(wL o ns m1 q1q3 L1q3 n [cw ((iv X2.k::iv li::iv pi::iv fr::iv t::(wh X2 q1q3))),zG (some (0,(bld (za6 X2 fr t li pi)).length)) (u8 m) true])⟩, ?_⟩)))))
    refine ⟨?_, ?_⟩
    ·exact Wk.ren [0,1,2,3,4,5,6,7] rfl rfl dC ⟨rfl,rfl,rfl,trivial⟩ ⟨.inl (zbK o (zan ns)),.inl (zS (zaa (z6 ns 60))),.inl (qD rfl),.inl (qT (some m1) (fun _=>(qY _ _))),.inl (zF (zH _)),.inl (zF (zH _)),.inl (zbs rfl rfl),.inl (zF (zH _)),trivial⟩
    ·exact ⟨10,rfl,rfl,rfl⟩
   refine o_d 3 [(87,bv false),(86,undef),(85,undef)] (zE (zT [(87,bv false),(12,iv 10),(13,zN (some (0,(bld (za6 X2 fr t li pi)).length)) 7 m.length),(10,pv 2 0)] (zaW rfl (qK (⟨⟨reg [(12,iv 10),(13,zN (some (0,(bld (za6 X2 fr t li pi)).length)) 7 m.length),(10,pv 2 0)],(wL o ns m1 q1q3 L1q3 n [cw ((iv X2.k::iv li::iv pi::iv fr::iv t::(wh X2 q1q3))),zG (some (0,(bld (za6 X2 fr t li pi)).length)) (u8 m) true])⟩, ?_⟩)))))
   refine ⟨?_, ?_⟩
   ·exact Wk.ren [0,1,2,3,4,5,6,7] rfl rfl dC ⟨rfl,rfl,rfl,trivial⟩ ⟨.inl (zbK o (zan ns)),.inl (zS (zaa (z6 ns 60))),.inl (qD rfl),.inl (qT (some m1) (fun _=>(qY _ _))),.inl (zF (zH _)),.inl (zF (zH _)),.inl (zbs rfl rfl),.inl (zF (zH _)),trivial⟩
   ·exact ⟨10,rfl,rfl,rfl⟩
  rintro s ⟨w5,-,hE,rfl⟩
  refine zJ (zR (o_d 2 [(89,zN (some (0,(bld (za6 X2 fr t li pi)).length)) 7 m.length),(88,pv 2 0)] (qW (zdq [2,7,3] [cw (vO 2),cr [],cr []] [pv 0 0,zN (some (0,(bld (za6 X2 fr t li pi)).length)) 1 m.length] (TakeDC qM nr0 none (some (0,(bld (za6 X2 fr t li pi)).length)) m.length true) rfl rfl ⟨⟨_,rfl,zas (.inl (zaF rfl (fun q=>rfl)))⟩,⟨_,rfl,zaD⟩,⟨_,rfl,zco (some m1)⟩,trivial⟩ dC ?_))))
  rintro v1 h1' ⟨rfl,rfl⟩
  refine ⟨(zW z8 (zW z8 (zW z8 zal))),.agg (wT 10),(wL o ns m1 q1q3 L1q3 n [cw ((iv X2.k::iv li::iv pi::iv fr::iv t::(wh X2 q1q3))),zG (some (0,(bld (za6 X2 fr t li pi)).length)) (u8 m) true]),[],(qR rfl),⟨rfl,rfl,zba rfl,rfl,rfl,rfl,rfl,rfl,trivial⟩,trivial, ?_⟩
  refine o_b 2 [(17,pv 8 0)] (wL o ns m1 q1q3 L1q3 n [cw ((iv X2.k::iv li::iv pi::iv fr::iv t::(wh X2 q1q3))),zG (some (0,(bld (za6 X2 fr t li pi)).length)) (u8 m) true,cw yt]) (zE (zC (zJ (zR (o_d 5 [(95,bv (10==w5)),(94,bv (10==w5)),(93,iv w5),(92,iv 10),(91,pv 8 0)] (zby (b:=10==w5) 95 rfl (fun k11=>?_) (fun q=>by rw [(by rw [hE];rfl:(10==w5)=true)] at q;cases q)))))))
  refine o_d 9 [(8,bv ((w5==0)==false)),(103,bv ((w5==0)==false)),(102,bv ((w5==0)==false)),(101,bv false),(100,iv 0),(99,.slice none 0 0),(98,pv 8 3),(97,bv (w5==0)),(96,iv w5)] (zE (zT [(8,bv ((w5==0)==false))] (qX ?_)))
  have E0_:((w5==0)==false)=true:=by
   first | exact iff_beq hT.2 | (rw [hE];rfl)
  exact qA [bv ((w5==0)==false)] (zV rfl rfl) rfl (by rw [E0_];rfl) rfl (show List.all [inB o (ii ns)] ziM=true from (all_cons (zdE _ (zan ns)) rfl))
 have h9': ¬((bits / 16) % 2=1):=zaA h9
 refine qK (zC (zgO (fun s=> ∃(w5:Int),0=0∧(w5=if (zao (zdR (z6 ns 60) fr X2.fp) 0 64).2=false∧w4=0 then 8 else w4)∧s=⟨reg [(13,zN (some (0,(bld (za6 X2 fr t li pi)).length)) 7 m.length),(12,iv w5),(10,pv 2 0)],(wd o ns m1 q1q3 L1q3 n [cw ((iv X2.k::iv li::iv pi::iv fr::iv t::(wh X2 q1q3))),zG (some (0,(bld (za6 X2 fr t li pi)).length)) (u8 m) true])⟩) ?_ ?_))
 ·skip
  refine zJ (zR (o_s (by refine zX (v:=zap (z6 ns 60)) rfl rfl ?_;exact zaM (z6 ns 60)) ?_))
  refine o_d 4 [(78,iv X2.fp),(77,pv 6 5),(76,iv fr),(75,pv 6 3)] (qW (zae (refFindC (z6 ns 60) fr X2.fp) rfl (all_cons (zbi (z6 ns 60)) (all_cons rfl (all_cons rfl rfl))) rfl (o_d 5 (v9 ns fr X2) (zE (zC (zJ (zR (o_d 3 [(84,bv (!((zao (zdR (z6 ns 60) fr X2.fp) 0 64).2))),(83,bv (!((zao (zdR (z6 ns 60) fr X2.fp) 0 64).2))),(82,bv ((zao (zdR (z6 ns 60) fr X2.fp) 0 64).2))] (zby (b:= !((zao (zdR (z6 ns 60) fr X2.fp) 0 64).2)) 84 rfl (fun h12=>?_) (fun h12=>?_))))))))))
  ·skip
   refine o_d 3 [(87,bv (w4==0)),(86,bv (w4==0)),(85,iv w4)] (zE (zT [(87,bv (w4==0)),(13,zN (some (0,(bld (za6 X2 fr t li pi)).length)) 7 m.length),(12,iv w4),(10,pv 2 0)] (qJ (t:=w4==0) rfl (fun h13=>?_) (fun h13=>?_))))
   ·skip
    have h13':w4=0:=zaz h13
    refine zR (o_d 1 [(12,iv 8)] (zE (⟨⟨reg [(13,zN (some (0,(bld (za6 X2 fr t li pi)).length)) 7 m.length),(12,iv 8),(10,pv 2 0)],(wd o ns m1 q1q3 L1q3 n [cw ((iv X2.k::iv li::iv pi::iv fr::iv t::(wh X2 q1q3))),zG (some (0,(bld (za6 X2 fr t li pi)).length)) (u8 m) true])⟩, ?_⟩)))
    refine ⟨?_, ?_⟩
    ·exact Wk.ren [0,1,2,3,4,5,6,7] rfl rfl dC ⟨rfl,rfl,rfl,trivial⟩ ⟨.inl (zbK o (zan ns)),.inl (zS (zaa (z6 ns 60))),.inl (qD rfl),.inl (qT (some m1) (fun _=>(qY _ _))),.inl (zF (zH _)),.inl (zF (zH _)),.inl (zbs rfl rfl),.inl (zF (zH _)),trivial⟩
    ·exact ⟨8,rfl,(if_pos ⟨by simpa using h12,by assumption⟩).symm,rfl⟩
   have h13': ¬(w4=0):=zaA h13
   refine qK (⟨⟨reg [(13,zN (some (0,(bld (za6 X2 fr t li pi)).length)) 7 m.length),(12,iv w4),(10,pv 2 0)],(wd o ns m1 q1q3 L1q3 n [cw ((iv X2.k::iv li::iv pi::iv fr::iv t::(wh X2 q1q3))),zG (some (0,(bld (za6 X2 fr t li pi)).length)) (u8 m) true])⟩, ?_⟩)
   refine ⟨?_, ?_⟩
   ·exact Wk.ren [0,1,2,3,4,5,6,7] rfl rfl dC ⟨rfl,rfl,rfl,trivial⟩ ⟨.inl (zbK o (zan ns)),.inl (zS (zaa (z6 ns 60))),.inl (qD rfl),.inl (qT (some m1) (fun _=>(qY _ _))),.inl (zF (zH _)),.inl (zF (zH _)),.inl (zbs rfl rfl),.inl (zF (zH _)),trivial⟩
   ·exact ⟨w4,rfl,(if_neg (fun q=>absurd q.2 (by assumption))).symm,rfl⟩
  refine o_d 3 [(87,bv false),(86,undef),(85,undef)] (zE (zT [(87,bv false),(13,zN (some (0,(bld (za6 X2 fr t li pi)).length)) 7 m.length),(12,iv w4),(10,pv 2 0)] (zaW rfl (qK (⟨⟨reg [(13,zN (some (0,(bld (za6 X2 fr t li pi)).length)) 7 m.length),(12,iv w4),(10,pv 2 0)],(wd o ns m1 q1q3 L1q3 n [cw ((iv X2.k::iv li::iv pi::iv fr::iv t::(wh X2 q1q3))),zG (some (0,(bld (za6 X2 fr t li pi)).length)) (u8 m) true])⟩, ?_⟩)))))
  refine ⟨?_, ?_⟩
  ·exact Wk.ren [0,1,2,3,4,5,6,7] rfl rfl dC ⟨rfl,rfl,rfl,trivial⟩ ⟨.inl (zbK o (zan ns)),.inl (zS (zaa (z6 ns 60))),.inl (qD rfl),.inl (qT (some m1) (fun _=>(qY _ _))),.inl (zF (zH _)),.inl (zF (zH _)),.inl (zbs rfl rfl),.inl (zF (zH _)),trivial⟩
  ·exact ⟨w4,rfl,(if_neg (fun q=>by have h9:=h12;rw [q.1] at h9;cases h9)).symm,rfl⟩
 rintro s ⟨w5,-,hE,rfl⟩
 refine zJ (zR (o_d 2 [(89,zN (some (0,(bld (za6 X2 fr t li pi)).length)) 7 m.length),(88,pv 2 0)] ?_))
 obtain ⟨T14,hT14⟩: ∃z9,zaC (z6 ns 60) nr0 m=z9:=⟨_,rfl⟩
 have hT:T14.1.e=w5∧((w5=0)↔0 < T14.1.b.length):=by rw [←hT14];exact (order_law (nr:=nr0) hX2o hA hB hC hD hE).2
 refine qW (zdq [2,7,3] [cw (zM (z6 ns 60) true nr0 (wv 2 m1)),zG (some (0,(bld (za6 X2 fr t li pi)).length)) (u8 m) false,slB zI (ii (z7 (z6 ns 60))) (some m1)] [pv 0 0,zN (some (0,(bld (za6 X2 fr t li pi)).length)) 1 m.length] (TakeT hT14 (TakeC9 (z6 ns 60) nr0 m1 (some (0,(bld (za6 X2 fr t li pi)).length)) m m (RowOf.whole hml (Nat.le_refl _)) om (make_rng _ dC) nr0_r (order_law (nr:=nr0) hX2o hA hB hC hD hE).1)) rfl rfl ⟨⟨_,rfl,zas (.inl (zaF rfl (fun q=>rfl)))⟩,⟨_,rfl,zas (zY (q:=some (0,(bld (za6 X2 fr t li pi)).length)) (q':=some (0,(bld (za6 X2 fr t li pi)).length)) (zH _) rfl (fun q=>rfl))⟩,⟨_,rfl,zas (zhz (some m1) (fun _=>(qY _ _)))⟩,trivial⟩ dC ?_)
 rintro v1 h1' ⟨rfl,rfl⟩
 refine ⟨(zW zaI (zW z8 (zW z8 zal))),.agg #[iv T14.1.e,iv T14.1.s,bv T14.1.c,zN (zD T14.1.b) 8 T14.1.b.length],[inB o (ii ns),cw (pl (z6 ns 60)),cw (zM (z6 ns 60) true T14.2 (wv 3 m1)),slB zI (ii (z7 (z6 ns 60))) (some m1),zG q1q3 (u8 L1q3) true,zG (some (0,1)) (u8 ([zA n 1125899906842624])) true,cw ((iv X2.k::iv li::iv pi::iv fr::iv t::(wh X2 q1q3))),zG (some (0,(bld (za6 X2 fr t li pi)).length)) (u8 m) true],[zG (zD T14.1.b) (u8 T14.1.b) true],(zbm rfl),⟨rfl,rfl,zba rfl,(by rcases some m1 with _ | m9<;>first | rfl | exact zbg (qY _ _)),rfl,rfl,rfl,rfl,trivial⟩,⟨(Option.some.inj (zF (zH _))).symm,trivial⟩, ?_⟩
 refine o_b 2 [(17,pv 9 0)] [inB o (ii ns),cw (pl (z6 ns 60)),cw (zM (z6 ns 60) true T14.2 (wv 3 m1)),slB zI (ii (z7 (z6 ns 60))) (some m1),zG q1q3 (u8 L1q3) true,zG (some (0,1)) (u8 ([zA n 1125899906842624])) true,cw ((iv X2.k::iv li::iv pi::iv fr::iv t::(wh X2 q1q3))),zG (some (0,(bld (za6 X2 fr t li pi)).length)) (u8 m) true,zG (zD T14.1.b) (u8 T14.1.b) true,cw [iv T14.1.e,iv T14.1.s,bv T14.1.c,zN (zD T14.1.b) 8 T14.1.b.length]] (zE (zC (zJ (zR (o_d 5 [(95,bv (T14.1.e==w5)),(94,bv (T14.1.e==w5)),(93,iv w5),(92,iv T14.1.e),(91,pv 9 0)] (zby (b:=T14.1.e==w5) 95 rfl (fun k15=>?_) (fun q=>by rw [(beq_iff_eq.2 hT.1:(T14.1.e==w5)=true)] at q;cases q)))))))
 refine o_d 4 [(99,zN (zD T14.1.b) 8 T14.1.b.length),(98,pv 9 3),(97,bv (w5==0)),(96,iv w5)] (qC rfl (o_s (by exact qN rfl (zcN T14.1.b).nil) ?_))
 refine o_d 4 [(8,bv ((w5==0)==(decide (((T14.1.b.length:Nat):Int) > 0)))),(103,bv ((w5==0)==(decide (((T14.1.b.length:Nat):Int) > 0)))),(102,bv ((w5==0)==(decide (((T14.1.b.length:Nat):Int) > 0)))),(101,bv (decide (((T14.1.b.length:Nat):Int) > 0)))] (zE (zT [(8,bv ((w5==0)==(decide (((T14.1.b.length:Nat):Int) > 0))))] (qX ?_)))
 have E0_:((w5==0)==(decide (((T14.1.b.length:Nat):Int) > 0)))=true:=by
  first | exact iff_beq hT.2 | (rw [hE];rfl)
 exact qA [bv ((w5==0)==(decide (((T14.1.b.length:Nat):Int) > 0)))] (zV rfl rfl) rfl (by rw [E0_];rfl) rfl (show List.all [inB o (ii ns)] ziM=true from (all_cons (zdE _ (zan ns)) rfl))
end Go.Rh
