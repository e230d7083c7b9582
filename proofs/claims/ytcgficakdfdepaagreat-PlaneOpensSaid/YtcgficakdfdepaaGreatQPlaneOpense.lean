/- The proofs zcl the intermediate form, part QPlaneOpense. -/
import Derived.Test.YtcgficakdfdepaaGreatQPlaneOpensd
import Derived.Test.YtcgficakdfdepaaGreatQPlaneOpensc
import Derived.Test.YtcgficakdfdepaaGreatQPlaneOpensa
open Go.IntKind (i64)
set_option linter.unusedVariables false
set_option linter.unusedSimpArgs false
set_option maxRecDepth 100000
set_option maxHeartbeats 8000000
namespace Go.Rh
theorem refNewC {P:Program} [PrC P] (a p ka kb na nb:Int):
  Env P "roundhouse/roundhouseref6.New" [iv a,iv p,.agg #[uv ka,uv kb],.agg #[uv na,uv nb]] ([]) (Ans (.tuple #[zaw ((zhC a p ka kb na nb).1),iv ((zhC a p ka kb na nb).2)]) ([])):=by
 refine Env.by PrC.ref6_New ?_
 unfold zjM
 show GC _ 0 _ _ ⟨reg [(0,iv a),(1,iv p),(2,.agg #[uv ka,uv kb]),(3,.agg #[uv na,uv nb])],[]⟩
 refine zJ (zN (o_b 4 [(9,iv 0),(8,pv 2 0),(7,pv 1 0),(6,pv 0 0)] [cw [uv ka,uv kb],cw [uv na,uv nb],cw (pl qO)] (zE (zA (zJ (zJ (zN (o_d 1 [(10,iv a)] (qV (zab (outC a 0 4294967295) rfl rfl rfl (o_d 1 [(12,bv (zeD a 0 4294967295))] (zbJ (b:=zeD a 0 4294967295) 12 rfl (fun h1=>?_) (fun h1=>?_)))))))))))))
 ·skip
  refine o_d 3 [(15,bv true),(14,undef),(13,undef)] (zE (zA (zc8 rfl (zJ (zN (o_s (by refine zeu (c:=pl qO) ?_;exact bld_zP) ?_))))))
  refine zdj (by refine zao (c':=pl qO) rfl rfl rfl ?_ ?_ ?_;exact qI _;exact zck om;exact zai qO qO) ?_
  refine o_d 1 [(9,iv 14)] (zE (zA (qW ?_)))
  have e0:zhC a p ka kb na nb=(qO,14):=by
   have hp:=zed a p
   simp only [h1,Bool.true_or,Bool.false_or] at hp
   have hp2:zbh a p=false:=by revert hp;cases zbh a p<;>simp
   simp [zhC,hp2]
  exact z7 [zaw qO,iv 14] (q8 rfl rfl (zaS qO) (zT rfl rfl)) (all_cons (zaH qO) (all_cons rfl rfl)) (by rw [e0];rfl) rfl rfl
 ·skip
  refine o_d 1 [(13,iv p)] (qB rfl (qV (zab (outC p 0 65535) rfl rfl rfl (o_d 1 [(15,bv (zeD p 0 65535))] (zE (zA (qJ (t:=zeD p 0 65535) rfl (fun h2=>?_) (fun h2=>?_))))))))
  ·skip
   refine zJ (zN (o_s (by refine zeu (c:=pl qO) ?_;exact bld_zP) ?_))
   refine zdj (by refine zao (c':=pl qO) rfl rfl rfl ?_ ?_ ?_;exact qI _;exact zck om;exact zai qO qO) ?_
   refine o_d 1 [(9,iv 14)] (zE (zA (qW ?_)))
   have e0:zhC a p ka kb na nb=(qO,14):=by
    have hp:=zed a p
    simp only [h1,h2,Bool.true_or,Bool.false_or] at hp
    have hp2:zbh a p=false:=by revert hp;cases zbh a p<;>simp
    simp [zhC,hp2]
   exact z7 [zaw qO,iv 14] (q8 rfl rfl (zaS qO) (zT rfl rfl)) (all_cons (zaH qO) (all_cons rfl rfl)) (by rw [e0];rfl) rfl rfl
  ·skip
   refine qK (zA (zJ (zN (o_b 6 [(22,sv 3 0 3 3),(21,.agg #[uv na,uv nb]),(20,.agg #[uv ka,uv kb]),(19,.agg #[uv 0,uv 0]),(18,iv p),(17,iv a)] [cw [uv ka,uv kb],cw [uv na,uv nb],cw (pl qO),cw [uv 0,uv 0,uv ka,uv kb,uv na,uv nb]] (qV (zdD (a1:= [.int .i64 1,.slice (some ⟨0,0,none⟩) 3 3]) [3] [[uv 0,uv 0,uv ka,uv kb,uv na,uv nb]] (refRingC 1 0 0 ka kb na nb) rfl (fun _=>rfl) ⟨⟨_,rfl⟩,rfl,trivial⟩ rfl ?_))))))
   refine o_s (by refine zeu (c:=pl (newS a p ka kb na nb)) ?_;exact (bld_newS a p ka kb na nb)) ?_
   refine zdj (by refine zao (c':=pl (newS a p ka kb na nb)) rfl rfl rfl ?_ ?_ ?_;exact qI _;exact zck om;exact zai qO (newS a p ka kb na nb)) ?_
   refine o_b 1 [(9,iv 0)] [cw [uv ka,uv kb],cw [uv na,uv nb],cw (pl (newS a p ka kb na nb)),cw [uv 0,uv 0,uv ka,uv kb,uv na,uv nb]] (zE (zU [(9,iv 0),(8,pv 2 0)] (qW ?_)))
   have e0:zhC a p ka kb na nb=(newS a p ka kb na nb,0):=by
    have hp:=zed a p
    simp only [h1,h2,Bool.true_or,Bool.false_or] at hp
    have hp2:zbh a p=true:=by revert hp;cases zbh a p<;>simp
    simp [zhC,hp2]
   exact z7 [zaw (newS a p ka kb na nb),iv 0] (q8 rfl rfl (zaS (newS a p ka kb na nb)) (zT rfl rfl)) (all_cons (zaH (newS a p ka kb na nb)) (all_cons rfl rfl)) (by rw [e0];rfl) rfl rfl
def zcu (n:Int):Ent:=(bif ((i64.wrap ((zC n 1125899906842624).tdiv 48)).tmod 29)==0 then (bif ((zC n 1125899906842624).tmod 8)==0 then ⟨1,(i64.wrap ((zC n 1125899906842624).tdiv 48)).tmod 66,(i64.wrap ((zC n 1125899906842624).tdiv 400)).tmod 5,(i64.wrap ((zC n 1125899906842624).tdiv 2000)).tmod 3,i64.wrap (1+(i64.wrap ((zC n 1125899906842624).tdiv 6000)).tmod 8),0,0⟩ else (bif ((zC n 1125899906842624).tmod 8)==1 then ⟨1,(i64.wrap ((zC n 1125899906842624).tdiv 48)).tmod 66,(i64.wrap ((zC n 1125899906842624).tdiv 400)).tmod 5,(i64.wrap ((zC n 1125899906842624).tdiv 2000)).tmod 3,i64.wrap (1+(i64.wrap ((zC n 1125899906842624).tdiv 6000)).tmod 8),0,0⟩ else (bif ((zC n 1125899906842624).tmod 8)==2 then ⟨2,(i64.wrap ((zC n 1125899906842624).tdiv 48)).tmod 66,0,0,0,0,0⟩ else (bif ((zC n 1125899906842624).tmod 8)==3 then ⟨3,(i64.wrap ((zC n 1125899906842624).tdiv 48)).tmod 66,0,0,0,0,0⟩ else (bif ((zC n 1125899906842624).tmod 8)==4 then ⟨4,(i64.wrap ((zC n 1125899906842624).tdiv 48)).tmod 66,0,0,0,0,0⟩ else (bif ((zC n 1125899906842624).tmod 8)==5 then ⟨5,(i64.wrap ((zC n 1125899906842624).tdiv 48)).tmod 66,0,0,0,0,0⟩ else ⟨6,0,0,0,0,zdZ (zC n 1125899906842624),zdY (zC n 1125899906842624)⟩)))))) else (bif ((zC n 1125899906842624).tmod 8)==0 then ⟨1,(i64.wrap ((zC n 1125899906842624).tdiv 8)).tmod 6,(i64.wrap ((zC n 1125899906842624).tdiv 400)).tmod 5,(i64.wrap ((zC n 1125899906842624).tdiv 2000)).tmod 3,i64.wrap (1+(i64.wrap ((zC n 1125899906842624).tdiv 6000)).tmod 8),0,0⟩ else (bif ((zC n 1125899906842624).tmod 8)==1 then ⟨1,(i64.wrap ((zC n 1125899906842624).tdiv 8)).tmod 6,(i64.wrap ((zC n 1125899906842624).tdiv 400)).tmod 5,(i64.wrap ((zC n 1125899906842624).tdiv 2000)).tmod 3,i64.wrap (1+(i64.wrap ((zC n 1125899906842624).tdiv 6000)).tmod 8),0,0⟩ else (bif ((zC n 1125899906842624).tmod 8)==2 then ⟨2,(i64.wrap ((zC n 1125899906842624).tdiv 8)).tmod 6,0,0,0,0,0⟩ else (bif ((zC n 1125899906842624).tmod 8)==3 then ⟨3,(i64.wrap ((zC n 1125899906842624).tdiv 8)).tmod 6,0,0,0,0,0⟩ else (bif ((zC n 1125899906842624).tmod 8)==4 then ⟨4,(i64.wrap ((zC n 1125899906842624).tdiv 8)).tmod 6,0,0,0,0,0⟩ else (bif ((zC n 1125899906842624).tmod 8)==5 then ⟨5,(i64.wrap ((zC n 1125899906842624).tdiv 8)).tmod 6,0,0,0,0,0⟩ else ⟨6,0,0,0,0,zdZ (zC n 1125899906842624),zdY (zC n 1125899906842624)⟩)))))))
abbrev wP (a:Nat) (b:Int) (c:Nat) (d:Nat):=[(a,bv (((zC b 1125899906842624).tmod 8)==c)),(d,bv (((zC b 1125899906842624).tmod 8)==c))]
abbrev yL (a:Int) b c:=[(33,.agg #[iv 1,iv ((i64.wrap ((zC a 1125899906842624).tdiv b)).tmod c),iv ((i64.wrap ((zC a 1125899906842624).tdiv 400)).tmod 5),iv ((i64.wrap ((zC a 1125899906842624).tdiv 2000)).tmod 3),iv (i64.wrap (1+(i64.wrap ((zC a 1125899906842624).tdiv 6000)).tmod 8)),uv 0,uv 0]),(32,iv (i64.wrap (1+(i64.wrap ((zC a 1125899906842624).tdiv 6000)).tmod 8))),(31,iv ((i64.wrap ((zC a 1125899906842624).tdiv 6000)).tmod 8)),(30,iv (i64.wrap ((zC a 1125899906842624).tdiv 6000))),(29,iv (zC a 1125899906842624)),(28,iv ((i64.wrap ((zC a 1125899906842624).tdiv 2000)).tmod 3)),(27,iv (i64.wrap ((zC a 1125899906842624).tdiv 2000))),(26,iv (zC a 1125899906842624)),(25,iv ((i64.wrap ((zC a 1125899906842624).tdiv 400)).tmod 5)),(24,iv (i64.wrap ((zC a 1125899906842624).tdiv 400))),(23,iv (zC a 1125899906842624)),(22,iv ((i64.wrap ((zC a 1125899906842624).tdiv b)).tmod c))]
abbrev yW (a:Int):=[iv ((i64.wrap ((zC a 1125899906842624).tdiv 400)).tmod 5),iv ((i64.wrap ((zC a 1125899906842624).tdiv 2000)).tmod 3),iv (i64.wrap (1+(i64.wrap ((zC a 1125899906842624).tdiv 6000)).tmod 8)),uv 0,uv 0]
theorem EntryC {P:Program} [PrC P] (n:Int):
  Env P "roundhouse/roundhouselaw6.Entry" [iv n] ([]) (Ans (.agg #[iv ((zcu n).k),iv ((zcu n).s),iv ((zcu n).a),iv ((zcu n).p),iv ((zcu n).g),uv ((zcu n).ka),uv ((zcu n).kb)]) ([])):=by
 refine Env.by PrC.law6_Entry ?_
 unfold zht
 show GC _ 0 _ _ ⟨reg [(0,iv n)],[]⟩
 refine zJ (zN (o_b 1 [(2,pv 0 0)] [cw [iv 0,iv 0,iv 0,iv 0,iv 0,uv 0,uv 0]] (zE (zA (zJ (zN (o_d 1 [(5,iv n)] (qV (zab (withinC n 1125899906842624 dC) rfl rfl rfl ?_)))))))))
 refine o_d 1 [(3,iv (zC n 1125899906842624))] (zE (zA (zJ (zN (o_d 4 [(4,iv ((i64.wrap ((zC n 1125899906842624).tdiv 8)).tmod 6)),(9,iv ((i64.wrap ((zC n 1125899906842624).tdiv 8)).tmod 6)),(8,iv (i64.wrap ((zC n 1125899906842624).tdiv 8))),(7,iv (zC n 1125899906842624))] (zE (zA (zJ (zJ (zN (o_d 4 [(13,bv (((i64.wrap ((zC n 1125899906842624).tdiv 48)).tmod 29)==0)),(12,iv ((i64.wrap ((zC n 1125899906842624).tdiv 48)).tmod 29)),(11,iv (i64.wrap ((zC n 1125899906842624).tdiv 48))),(10,iv (zC n 1125899906842624))] (zE ?_))))))))))))
 refine zA (qJ (t:=((i64.wrap ((zC n 1125899906842624).tdiv 48)).tmod 29)==0) rfl (fun h1=>?_) (fun h1=>?_))
 ·skip
  have h1':(i64.wrap ((zC n 1125899906842624).tdiv 48)).tmod 29=0:=zaQ h1
  refine zN (o_d 4 [(4,iv ((i64.wrap ((zC n 1125899906842624).tdiv 48)).tmod 66)),(16,iv ((i64.wrap ((zC n 1125899906842624).tdiv 48)).tmod 66)),(15,iv (i64.wrap ((zC n 1125899906842624).tdiv 48))),(14,iv (zC n 1125899906842624))] (zE (zA (zJ (zJ (zN (o_d 2 [(18,iv ((zC n 1125899906842624).tmod 8)),(17,iv (zC n 1125899906842624))] (zE (zA (qU (zJ (zJ ?_))))))))))))
  refine zN (o_d 2 (wP 19 n 0 20) (zE (zA (qJ (t:=((zC n 1125899906842624).tmod 8)==0) rfl (fun h2=>?_) (fun h2=>?_)))))
  ·skip
   have h2':(zC n 1125899906842624).tmod 8=0:=zaQ h2
   refine qK (zA (qJ (t:=((zC n 1125899906842624).tmod 8)==0) rfl (fun _=>?_) (fun q=>by rw [h2] at q;cases q)))
   refine zJ (zN (o_b 13 (yL n 48 66) [cw (iv 1::iv ((i64.wrap ((zC n 1125899906842624).tdiv 48)).tmod 66)::(yW n))] (zE (zU [(2,pv 0 0)] (qW ?_)))))
   have e0:zcu n=⟨1,(i64.wrap ((zC n 1125899906842624).tdiv 48)).tmod 66,(i64.wrap ((zC n 1125899906842624).tdiv 400)).tmod 5,(i64.wrap ((zC n 1125899906842624).tdiv 2000)).tmod 3,i64.wrap (1+(i64.wrap ((zC n 1125899906842624).tdiv 6000)).tmod 8),0,0⟩:=by
    simp only [zcu,h1,h2,cond_true,cond_false]
   exact z7 [.agg #[iv 1,iv ((i64.wrap ((zC n 1125899906842624).tdiv 48)).tmod 66),iv ((i64.wrap ((zC n 1125899906842624).tdiv 400)).tmod 5),iv ((i64.wrap ((zC n 1125899906842624).tdiv 2000)).tmod 3),iv (i64.wrap (1+(i64.wrap ((zC n 1125899906842624).tdiv 6000)).tmod 8)),uv 0,uv 0]] (q8 rfl rfl rfl rfl) rfl (by rw [e0];rfl) rfl rfl
  ·skip
   have h2': ¬((zC n 1125899906842624).tmod 8=0):=zaR h2
   refine zN (o_d 2 (wP 19 n 1 21) (zE (zA (qJ (t:=((zC n 1125899906842624).tmod 8)==1) rfl (fun h3=>?_) (fun h3=>?_)))))
   ·skip
    have h3':(zC n 1125899906842624).tmod 8=1:=zaQ h3
    refine zJ (zN (o_b 13 (yL n 48 66) [cw (iv 1::iv ((i64.wrap ((zC n 1125899906842624).tdiv 48)).tmod 66)::(yW n))] (zE (zU [(2,pv 0 0)] (qW ?_)))))
    have e0:zcu n=⟨1,(i64.wrap ((zC n 1125899906842624).tdiv 48)).tmod 66,(i64.wrap ((zC n 1125899906842624).tdiv 400)).tmod 5,(i64.wrap ((zC n 1125899906842624).tdiv 2000)).tmod 3,i64.wrap (1+(i64.wrap ((zC n 1125899906842624).tdiv 6000)).tmod 8),0,0⟩:=by
     simp only [zcu,h1,h2,h3,cond_true,cond_false]
    exact z7 [.agg #[iv 1,iv ((i64.wrap ((zC n 1125899906842624).tdiv 48)).tmod 66),iv ((i64.wrap ((zC n 1125899906842624).tdiv 400)).tmod 5),iv ((i64.wrap ((zC n 1125899906842624).tdiv 2000)).tmod 3),iv (i64.wrap (1+(i64.wrap ((zC n 1125899906842624).tdiv 6000)).tmod 8)),uv 0,uv 0]] (q8 rfl rfl rfl rfl) rfl (by rw [e0];rfl) rfl rfl
   ·skip
    have h3': ¬((zC n 1125899906842624).tmod 8=1):=zaR h3
    refine zJ (zN (o_d 2 (wP 34 n 2 35) (zE (zA (qJ (t:=((zC n 1125899906842624).tmod 8)==2) rfl (fun h4=>?_) (fun h4=>?_))))))
    ·skip
     have h4':(zC n 1125899906842624).tmod 8=2:=zaQ h4
     refine zJ (zN (o_b 3 [(37,.agg #[iv 2,iv ((i64.wrap ((zC n 1125899906842624).tdiv 48)).tmod 66),iv 0,iv 0,iv 0,uv 0,uv 0]),(36,iv ((i64.wrap ((zC n 1125899906842624).tdiv 48)).tmod 66))] [cw [iv 2,iv ((i64.wrap ((zC n 1125899906842624).tdiv 48)).tmod 66),iv 0,iv 0,iv 0,uv 0,uv 0]] (zE (zU [(2,pv 0 0)] (qW ?_)))))
     have e0:zcu n=⟨2,(i64.wrap ((zC n 1125899906842624).tdiv 48)).tmod 66,0,0,0,0,0⟩:=by
      simp only [zcu,h1,h2,h3,h4,cond_true,cond_false]
     exact z7 [.agg #[iv 2,iv ((i64.wrap ((zC n 1125899906842624).tdiv 48)).tmod 66),iv 0,iv 0,iv 0,uv 0,uv 0]] (q8 rfl rfl rfl rfl) rfl (by rw [e0];rfl) rfl rfl
    ·skip
     have h4': ¬((zC n 1125899906842624).tmod 8=2):=zaR h4
     refine zJ (zN (o_d 2 (wP 38 n 3 39) (zE (zU [(38,bv (((zC n 1125899906842624).tmod 8)==3)),(18,iv ((zC n 1125899906842624).tmod 8)),(4,iv ((i64.wrap ((zC n 1125899906842624).tdiv 48)).tmod 66)),(3,iv (zC n 1125899906842624)),(2,pv 0 0)] (qJ (t:=((zC n 1125899906842624).tmod 8)==3) rfl (fun h5=>?_) (fun h5=>?_))))))
     ·skip
      have h5':(zC n 1125899906842624).tmod 8=3:=zaQ h5
      refine zJ (zN (o_b 3 [(41,.agg #[iv 3,iv ((i64.wrap ((zC n 1125899906842624).tdiv 48)).tmod 66),iv 0,iv 0,iv 0,uv 0,uv 0]),(40,iv ((i64.wrap ((zC n 1125899906842624).tdiv 48)).tmod 66))] [cw [iv 3,iv ((i64.wrap ((zC n 1125899906842624).tdiv 48)).tmod 66),iv 0,iv 0,iv 0,uv 0,uv 0]] (zE (zA (qW ?_)))))
      have e0:zcu n=⟨3,(i64.wrap ((zC n 1125899906842624).tdiv 48)).tmod 66,0,0,0,0,0⟩:=by
       simp only [zcu,h1,h2,h3,h4,h5,cond_true,cond_false]
      exact z7 [.agg #[iv 3,iv ((i64.wrap ((zC n 1125899906842624).tdiv 48)).tmod 66),iv 0,iv 0,iv 0,uv 0,uv 0]] (q8 rfl rfl rfl rfl) rfl (by rw [e0];rfl) rfl rfl
     ·skip
      have h5': ¬((zC n 1125899906842624).tmod 8=3):=zaR h5
      refine zJ (zN (o_d 2 (wP 42 n 4 43) (zE (zA (qJ (t:=((zC n 1125899906842624).tmod 8)==4) rfl (fun h6=>?_) (fun h6=>?_))))))
      ·skip
       have h6':(zC n 1125899906842624).tmod 8=4:=zaQ h6
       refine zJ (zN (o_b 3 [(45,.agg #[iv 4,iv ((i64.wrap ((zC n 1125899906842624).tdiv 48)).tmod 66),iv 0,iv 0,iv 0,uv 0,uv 0]),(44,iv ((i64.wrap ((zC n 1125899906842624).tdiv 48)).tmod 66))] [cw [iv 4,iv ((i64.wrap ((zC n 1125899906842624).tdiv 48)).tmod 66),iv 0,iv 0,iv 0,uv 0,uv 0]] (zE (zA (qW ?_)))))
       have e0:zcu n=⟨4,(i64.wrap ((zC n 1125899906842624).tdiv 48)).tmod 66,0,0,0,0,0⟩:=by
        simp only [zcu,h1,h2,h3,h4,h5,h6,cond_true,cond_false]
       exact z7 [.agg #[iv 4,iv ((i64.wrap ((zC n 1125899906842624).tdiv 48)).tmod 66),iv 0,iv 0,iv 0,uv 0,uv 0]] (q8 rfl rfl rfl rfl) rfl (by rw [e0];rfl) rfl rfl
      ·skip
       have h6': ¬((zC n 1125899906842624).tmod 8=4):=zaR h6
       refine zJ (zN (o_d 2 (wP 46 n 5 47) (zE (zA (qJ (t:=((zC n 1125899906842624).tmod 8)==5) rfl (fun h7=>?_) (fun h7=>?_))))))
       ·skip
        have h7':(zC n 1125899906842624).tmod 8=5:=zaQ h7
        refine zJ (zN (o_b 3 [(49,.agg #[iv 5,iv ((i64.wrap ((zC n 1125899906842624).tdiv 48)).tmod 66),iv 0,iv 0,iv 0,uv 0,uv 0]),(48,iv ((i64.wrap ((zC n 1125899906842624).tdiv 48)).tmod 66))] [cw [iv 5,iv ((i64.wrap ((zC n 1125899906842624).tdiv 48)).tmod 66),iv 0,iv 0,iv 0,uv 0,uv 0]] (zE (zA (qW ?_)))))
        have e0:zcu n=⟨5,(i64.wrap ((zC n 1125899906842624).tdiv 48)).tmod 66,0,0,0,0,0⟩:=by
         simp only [zcu,h1,h2,h3,h4,h5,h6,h7,cond_true,cond_false]
        exact z7 [.agg #[iv 5,iv ((i64.wrap ((zC n 1125899906842624).tdiv 48)).tmod 66),iv 0,iv 0,iv 0,uv 0,uv 0]] (q8 rfl rfl rfl rfl) rfl (by rw [e0];rfl) rfl rfl
       ·skip
        have h7': ¬((zC n 1125899906842624).tmod 8=5):=zaR h7
        refine qK (zA (zJ (zN (o_d 1 [(50,iv (zC n 1125899906842624))] (qV (zab (KeyC (zC n 1125899906842624)) rfl rfl rfl (o_b 2 [(52,.agg #[iv 6,iv 0,iv 0,iv 0,iv 0,uv (zdZ (zC n 1125899906842624)),uv (zdY (zC n 1125899906842624))])] [cw [iv 6,iv 0,iv 0,iv 0,iv 0,uv (zdZ (zC n 1125899906842624)),uv (zdY (zC n 1125899906842624))]] (zE (zA (qW ?_))))))))))
        have e0:zcu n=⟨6,0,0,0,0,zdZ (zC n 1125899906842624),zdY (zC n 1125899906842624)⟩:=by
         simp only [zcu,h1,h2,h3,h4,h5,h6,h7,cond_true,cond_false]
        exact z7 [.agg #[iv 6,iv 0,iv 0,iv 0,iv 0,uv (zdZ (zC n 1125899906842624)),uv (zdY (zC n 1125899906842624))]] (q8 rfl rfl rfl rfl) rfl (by rw [e0];rfl) rfl rfl
 ·skip
  have h1': ¬((i64.wrap ((zC n 1125899906842624).tdiv 48)).tmod 29=0):=zaR h1
  refine qK (zA (zJ (zJ (zN (o_d 2 [(18,iv ((zC n 1125899906842624).tmod 8)),(17,iv (zC n 1125899906842624))] (zE (zA (qU (zJ (zJ (zN (o_d 2 (wP 19 n 0 20) ?_))))))))))))
  refine zE (zA (qJ (t:=((zC n 1125899906842624).tmod 8)==0) rfl (fun h8=>?_) (fun h8=>?_)))
  ·skip
   have h8':(zC n 1125899906842624).tmod 8=0:=zaQ h8
   refine qK (zA (qJ (t:=((zC n 1125899906842624).tmod 8)==0) rfl (fun _=>?_) (fun q=>by rw [h8] at q;cases q)))
   refine zJ (zN (o_b 13 (yL n 8 6) [cw (iv 1::iv ((i64.wrap ((zC n 1125899906842624).tdiv 8)).tmod 6)::(yW n))] (zE (zU [(2,pv 0 0)] (qW ?_)))))
   have e0:zcu n=⟨1,(i64.wrap ((zC n 1125899906842624).tdiv 8)).tmod 6,(i64.wrap ((zC n 1125899906842624).tdiv 400)).tmod 5,(i64.wrap ((zC n 1125899906842624).tdiv 2000)).tmod 3,i64.wrap (1+(i64.wrap ((zC n 1125899906842624).tdiv 6000)).tmod 8),0,0⟩:=by
    simp only [zcu,h1,h8,cond_true,cond_false]
   exact z7 [.agg #[iv 1,iv ((i64.wrap ((zC n 1125899906842624).tdiv 8)).tmod 6),iv ((i64.wrap ((zC n 1125899906842624).tdiv 400)).tmod 5),iv ((i64.wrap ((zC n 1125899906842624).tdiv 2000)).tmod 3),iv (i64.wrap (1+(i64.wrap ((zC n 1125899906842624).tdiv 6000)).tmod 8)),uv 0,uv 0]] (q8 rfl rfl rfl rfl) rfl (by rw [e0];rfl) rfl rfl
  ·skip
   have h8': ¬((zC n 1125899906842624).tmod 8=0):=zaR h8
   refine zN (o_d 2 (wP 19 n 1 21) (zE (zA (qJ (t:=((zC n 1125899906842624).tmod 8)==1) rfl (fun h9=>?_) (fun h9=>?_)))))
   ·skip
    have h9':(zC n 1125899906842624).tmod 8=1:=zaQ h9
    refine zJ (zN (o_b 13 (yL n 8 6) [cw (iv 1::iv ((i64.wrap ((zC n 1125899906842624).tdiv 8)).tmod 6)::(yW n))] (zE (zU [(2,pv 0 0)] (qW ?_)))))
    have e0:zcu n=⟨1,(i64.wrap ((zC n 1125899906842624).tdiv 8)).tmod 6,(i64.wrap ((zC n 1125899906842624).tdiv 400)).tmod 5,(i64.wrap ((zC n 1125899906842624).tdiv 2000)).tmod 3,i64.wrap (1+(i64.wrap ((zC n 1125899906842624).tdiv 6000)).tmod 8),0,0⟩:=by
     simp only [zcu,h1,h8,h9,cond_true,cond_false]
    exact z7 [.agg #[iv 1,iv ((i64.wrap ((zC n 1125899906842624).tdiv 8)).tmod 6),iv ((i64.wrap ((zC n 1125899906842624).tdiv 400)).tmod 5),iv ((i64.wrap ((zC n 1125899906842624).tdiv 2000)).tmod 3),iv (i64.wrap (1+(i64.wrap ((zC n 1125899906842624).tdiv 6000)).tmod 8)),uv 0,uv 0]] (q8 rfl rfl rfl rfl) rfl (by rw [e0];rfl) rfl rfl
   ·skip
    have h9': ¬((zC n 1125899906842624).tmod 8=1):=zaR h9
    refine zJ (zN (o_d 2 (wP 34 n 2 35) (zE (zA (qJ (t:=((zC n 1125899906842624).tmod 8)==2) rfl (fun h10=>?_) (fun h10=>?_))))))
    ·skip
     have h10':(zC n 1125899906842624).tmod 8=2:=zaQ h10
     refine zJ (zN (o_b 3 [(37,.agg #[iv 2,iv ((i64.wrap ((zC n 1125899906842624).tdiv 8)).tmod 6),iv 0,iv 0,iv 0,uv 0,uv 0]),(36,iv ((i64.wrap ((zC n 1125899906842624).tdiv 8)).tmod 6))] [cw [iv 2,iv ((i64.wrap ((zC n 1125899906842624).tdiv 8)).tmod 6),iv 0,iv 0,iv 0,uv 0,uv 0]] (zE (zU [(2,pv 0 0)] (qW ?_)))))
     have e0:zcu n=⟨2,(i64.wrap ((zC n 1125899906842624).tdiv 8)).tmod 6,0,0,0,0,0⟩:=by
      simp only [zcu,h1,h8,h9,h10,cond_true,cond_false]
     exact z7 [.agg #[iv 2,iv ((i64.wrap ((zC n 1125899906842624).tdiv 8)).tmod 6),iv 0,iv 0,iv 0,uv 0,uv 0]] (q8 rfl rfl rfl rfl) rfl (by rw [e0];rfl) rfl rfl
    ·skip
     have h10': ¬((zC n 1125899906842624).tmod 8=2):=zaR h10
     refine zJ (zN (o_d 2 (wP 38 n 3 39) (zE (zA (qJ (t:=((zC n 1125899906842624).tmod 8)==3) rfl (fun h11=>?_) (fun h11=>?_))))))
     ·skip
      have h11':(zC n 1125899906842624).tmod 8=3:=zaQ h11
      refine zJ (zN (o_b 3 [(41,.agg #[iv 3,iv ((i64.wrap ((zC n 1125899906842624).tdiv 8)).tmod 6),iv 0,iv 0,iv 0,uv 0,uv 0]),(40,iv ((i64.wrap ((zC n 1125899906842624).tdiv 8)).tmod 6))] [cw [iv 3,iv ((i64.wrap ((zC n 1125899906842624).tdiv 8)).tmod 6),iv 0,iv 0,iv 0,uv 0,uv 0]] (zE (zU [(2,pv 0 0)] (qW ?_)))))
      have e0:zcu n=⟨3,(i64.wrap ((zC n 1125899906842624).tdiv 8)).tmod 6,0,0,0,0,0⟩:=by
       simp only [zcu,h1,h8,h9,h10,h11,cond_true,cond_false]
      exact z7 [.agg #[iv 3,iv ((i64.wrap ((zC n 1125899906842624).tdiv 8)).tmod 6),iv 0,iv 0,iv 0,uv 0,uv 0]] (q8 rfl rfl rfl rfl) rfl (by rw [e0];rfl) rfl rfl
     ·skip
      have h11': ¬((zC n 1125899906842624).tmod 8=3):=zaR h11
      refine zJ (zN (o_d 2 (wP 42 n 4 43) (zE (zA (qJ (t:=((zC n 1125899906842624).tmod 8)==4) rfl (fun h12=>?_) (fun h12=>?_))))))
      ·skip
       have h12':(zC n 1125899906842624).tmod 8=4:=zaQ h12
       refine zJ (zN (o_b 3 [(45,.agg #[iv 4,iv ((i64.wrap ((zC n 1125899906842624).tdiv 8)).tmod 6),iv 0,iv 0,iv 0,uv 0,uv 0]),(44,iv ((i64.wrap ((zC n 1125899906842624).tdiv 8)).tmod 6))] [cw [iv 4,iv ((i64.wrap ((zC n 1125899906842624).tdiv 8)).tmod 6),iv 0,iv 0,iv 0,uv 0,uv 0]] (zE (zU [(2,pv 0 0)] (qW ?_)))))
       have e0:zcu n=⟨4,(i64.wrap ((zC n 1125899906842624).tdiv 8)).tmod 6,0,0,0,0,0⟩:=by
        simp only [zcu,h1,h8,h9,h10,h11,h12,cond_true,cond_false]
       exact z7 [.agg #[iv 4,iv ((i64.wrap ((zC n 1125899906842624).tdiv 8)).tmod 6),iv 0,iv 0,iv 0,uv 0,uv 0]] (q8 rfl rfl rfl rfl) rfl (by rw [e0];rfl) rfl rfl
      ·skip
       have h12': ¬((zC n 1125899906842624).tmod 8=4):=zaR h12
       refine zJ (zN (o_d 2 (wP 46 n 5 47) (zE (zU [(46,bv (((zC n 1125899906842624).tmod 8)==5)),(4,iv ((i64.wrap ((zC n 1125899906842624).tdiv 8)).tmod 6)),(3,iv (zC n 1125899906842624)),(2,pv 0 0)] (qJ (t:=((zC n 1125899906842624).tmod 8)==5) rfl (fun h13=>?_) (fun h13=>?_))))))
       ·skip
        have h13':(zC n 1125899906842624).tmod 8=5:=zaQ h13
        refine zJ (zN (o_b 3 [(49,.agg #[iv 5,iv ((i64.wrap ((zC n 1125899906842624).tdiv 8)).tmod 6),iv 0,iv 0,iv 0,uv 0,uv 0]),(48,iv ((i64.wrap ((zC n 1125899906842624).tdiv 8)).tmod 6))] [cw [iv 5,iv ((i64.wrap ((zC n 1125899906842624).tdiv 8)).tmod 6),iv 0,iv 0,iv 0,uv 0,uv 0]] (zE (zA (qW ?_)))))
        have e0:zcu n=⟨5,(i64.wrap ((zC n 1125899906842624).tdiv 8)).tmod 6,0,0,0,0,0⟩:=by
         simp only [zcu,h1,h8,h9,h10,h11,h12,h13,cond_true,cond_false]
        exact z7 [.agg #[iv 5,iv ((i64.wrap ((zC n 1125899906842624).tdiv 8)).tmod 6),iv 0,iv 0,iv 0,uv 0,uv 0]] (q8 rfl rfl rfl rfl) rfl (by rw [e0];rfl) rfl rfl
       ·skip
        have h13': ¬((zC n 1125899906842624).tmod 8=5):=zaR h13
        refine qK (zA (zJ (zN (o_d 1 [(50,iv (zC n 1125899906842624))] (qV (zab (KeyC (zC n 1125899906842624)) rfl rfl rfl (o_b 2 [(52,.agg #[iv 6,iv 0,iv 0,iv 0,iv 0,uv (zdZ (zC n 1125899906842624)),uv (zdY (zC n 1125899906842624))])] [cw [iv 6,iv 0,iv 0,iv 0,iv 0,uv (zdZ (zC n 1125899906842624)),uv (zdY (zC n 1125899906842624))]] (zE (zA (qW ?_))))))))))
        have e0:zcu n=⟨6,0,0,0,0,zdZ (zC n 1125899906842624),zdY (zC n 1125899906842624)⟩:=by
         simp only [zcu,h1,h8,h9,h10,h11,h12,h13,cond_true,cond_false]
        exact z7 [.agg #[iv 6,iv 0,iv 0,iv 0,iv 0,uv (zdZ (zC n 1125899906842624)),uv (zdY (zC n 1125899906842624))]] (q8 rfl rfl rfl rfl) rfl (by rw [e0];rfl) rfl rfl
end Go.Rh

set_option maxHeartbeats 4000000
namespace Go.Rh
theorem ss0 (d:qZ) (s k:Nat) (x0 x1 x2 x3 x4:Int):qA d s x0 x1 x2 x3 x4 (3+5*k)=if k=s then x0 else d (3+5*k):=by
 simp only [qA,upd];repeat' split
 all_goals first | rfl | omega | (exfalso;omega)
theorem ss1 (d:qZ) (s k:Nat) (x0 x1 x2 x3 x4:Int):qA d s x0 x1 x2 x3 x4 (3+5*k+1)=if k=s then x1 else d (3+5*k+1):=by
 simp only [qA,upd];repeat' split
 all_goals first | rfl | omega | (exfalso;omega)
theorem ss2 (d:qZ) (s k:Nat) (x0 x1 x2 x3 x4:Int):qA d s x0 x1 x2 x3 x4 (3+5*k+2)=if k=s then x2 else d (3+5*k+2):=by
 simp only [qA,upd];repeat' split
 all_goals first | rfl | omega | (exfalso;omega)
theorem ss3 (d:qZ) (s k:Nat) (x0 x1 x2 x3 x4:Int):qA d s x0 x1 x2 x3 x4 (3+5*k+3)=if k=s then x3 else d (3+5*k+3):=by
 simp only [qA,upd];repeat' split
 all_goals first | rfl | omega | (exfalso;omega)
theorem ss4 (d:qZ) (s k:Nat) (x0 x1 x2 x3 x4:Int):qA d s x0 x1 x2 x3 x4 (3+5*k+4)=if k=s then x4 else d (3+5*k+4):=by
 simp only [qA,upd];repeat' split
 all_goals first | rfl | omega | (exfalso;omega)
theorem ssN (d:qZ) {s i:Nat} (x0 x1 x2 x3 x4:Int) (hs:s < 64) (h:i < 3∨323≤i):qA d s x0 x1 x2 x3 x4 i=d i:=by
 simp only [qA,upd];rw [if_neg om,if_neg om,if_neg om,if_neg om,if_neg om]
theorem done_set (c:qZ) (e:Ent) (hk:1≤e.k∧e.k≤5): ∃x0 x1 x2 x3 x4,za9 c e=qA (upd c 0 (i64.wrap (c 0+1))) e.s.toNat x0 x1 x2 x3 x4∧
  (e.k=1→x0=1∧x1=e.a∧x2=e.p∧x3=e.g∧x4=0)∧(e.k=5→x0=0∧x1=0∧x2=0∧x3=0∧x4=0)∧
  (e.k≠1→e.k≠5→x0=e.k∧x1=c (3+5*e.s.toNat+1)∧x2=c (3+5*e.s.toNat+2)∧x3=c (3+5*e.s.toNat+3)∧(e.k=4→x4=c 323)∧(e.k≠4→x4=c (3+5*e.s.toNat+4))):=by
 have hu: ∀j,upd c 0 (i64.wrap (c 0+1)) (3+5*e.s.toNat+j)=c (3+5*e.s.toNat+j):=fun j=>zeP _ _ om
 by_cases h1:e.k=1
 ·exact ⟨1,e.a,e.p,e.g,0,by simp only [za9,h1,if_true],by simp [h1],by simp [h1],by simp [h1]⟩
 by_cases h5:e.k=5
 ·exact ⟨0,0,0,0,0,by simp [za9,h5],by simp [h5],by simp [h5],by simp [h5]⟩
 by_cases h4:e.k=4
 ·refine ⟨4,_,_,_,c 323, ?_,by simp [h4],by simp [h4],fun _ _=>⟨h4.symm,hu 1,hu 2,hu 3,fun _=>rfl,fun h=>absurd h4 h⟩⟩
  simp only [za9,h4];exact (zjk _ _ _ _).symm
 by_cases h2:e.k=2
 ·refine ⟨2,_,_,_,_, ?_,by simp [h2],by simp [h2],fun _ _=>⟨h2.symm,hu 1,hu 2,hu 3,fun h=>by omega,fun _=>hu 4⟩⟩
  simp only [za9,h2];exact (zga _ _ _).symm
 ·have h3:e.k=3:=om
  refine ⟨3,_,_,_,_, ?_,by simp [h3],by simp [h3],fun _ _=>⟨h3.symm,hu 1,hu 2,hu 3,fun h=>by omega,fun _=>hu 4⟩⟩
  simp only [za9,h3];exact (zga _ _ _).symm
theorem done6 {c:qZ} {e:Ent} (h:e.k=6) {i:Nat} (hi:1≤i∧i < 323):za9 c e i=c i:=by
 simp only [za9,h]
 show nextS (upd c 0 _) e.ka e.kb i=c i
 unfold nextS
 rw [zev _ _ _ _ _ _ _ _ om]
 exact zeP _ _ om
theorem done6e {c:qZ} {e:Ent} (h:e.k=6):za9 c e 323=i64.wrap (c 323+1):=by
 simp only [za9,h];rfl
theorem done0 (c:qZ) (e:Ent) (hs:0≤e.s∧e.s < 64):za9 c e 0=i64.wrap (c 0+1):=by
 simp only [za9]
 repeat' split
 ·rw [ssN _ _ _ _ _ _ om om];rfl
 ·rw [zeP _ _ om];rfl
 ·rw [zeP _ _ om];rfl
 ·rw [zeP _ _ om,zeP _ _ om];rfl
 ·rw [ssN _ _ _ _ _ _ om om];rfl
 ·unfold nextS;rw [zev _ _ _ _ _ _ _ _ om];rfl
theorem checkS_ok {e:Ent} (h:zbk e=0):(1≤e.k∧e.k≤6)∧(0≤e.s∧e.s < 64)∧(e.k=6→e.s=0)∧(e.k=1→zbh e.a e.p=true∧1≤e.g∧e.g≤8)∧(e.k≠1→e.a=0∧e.p=0∧e.g=0)∧(e.k≠6→e.ka=0∧e.kb=0):=by
 unfold zbk at h
 split at h
 ·cases h
 rename_i h1
 split at h
 ·cases h
 rename_i h2
 split at h
 ·cases h
 rename_i h3
 split at h
 ·cases h
 rename_i h4
 refine ⟨om,om,fun q=>by omega,fun q=>?_,fun q=>by omega,fun q=>by omega⟩
 have: ¬(zbh e.a e.p=false∨e.g < 1∨8 < e.g):=fun x=>h3 ⟨q,x⟩
 exact ⟨by cases hp:zbh e.a e.p<;>simp [hp] at this ⊢,om,om⟩
theorem apply_ok {c:qZ} {e:Ent} (h:(qT c e).2=0):(qT c e).1=za9 c e∧zbk e=0∧zcv c e=false∧(e.k=5→¬c 323 < i64.wrap (c (3+5*e.s.toNat+4)+3)):=by
 unfold qT at h ⊢
 split at h
 ·rename_i he
  rw [if_pos he]
  refine ⟨rfl, ?_⟩
  unfold zeL at he
  split at he
  ·rename_i hc;exact absurd he hc
  ·rename_i hc
   have hc:zbk e=0:=Decidable.of_not_not hc
   unfold zbX at he
   split at he
   ·cases he
   ·rename_i hb
    split at he
    ·cases he
    ·rename_i hs
     exact ⟨hc,by simpa using hb,fun h5 hx=>hs ⟨h5,hx⟩⟩
 ·rename_i he;exact absurd h he
theorem bad_false {c:qZ} {e:Ent} (h:zcv c e=false):(e.k=1→c (3+5*e.s.toNat)=0∧zfC c e.a e.p=false)∧(e.k=2∨e.k=4→c (3+5*e.s.toNat)=1∨c (3+5*e.s.toNat)=3)∧(e.k=3→c (3+5*e.s.toNat)=2)∧(e.k=5→c (3+5*e.s.toNat)=4):=by
 unfold zcv at h
 simp only at h
 refine ⟨fun q=>?_,fun q=>?_,fun q=>?_,fun q=>?_⟩
 ·rw [if_pos q] at h
  simp only [Bool.or_eq_false_iff,decide_eq_false_iff_not,Decidable.not_not] at h;exact h
 ·rw [if_neg om,if_pos q] at h
  simp only [Bool.and_eq_false_iff,decide_eq_false_iff_not,Decidable.not_not] at h;exact h
 ·rw [if_neg om,if_neg om,if_pos q] at h
  simp only [decide_eq_false_iff_not,Decidable.not_not] at h;exact h
 ·rw [if_neg om,if_neg om,if_neg om,if_pos q] at h
  simp only [decide_eq_false_iff_not,Decidable.not_not] at h;exact h
theorem zg9 {c:qZ} {a p:Int} : ∀ {n:Nat},zfG c a p n=false→∀k,k < n→c (3+5*k)≠0→¬(c (3+5*k+1)=a∧c (3+5*k+2)=p)
 | n+1,h,k,hk,h0=>by
  simp only [zfG,Bool.or_eq_false_iff] at h
  by_cases e:k=n
  ·subst e
   have:=h.2
   simp [zfS,h0] at this
   exact fun q=>this q.1 q.2
  ·exact zg9 h.1 k om h0
theorem zjw {c:qZ} {a p:Int} (h:zfC c a p=false): ¬(c 1=a∧c 2=p)∧∀k,k < 64→c (3+5*k)≠0→¬(c (3+5*k+1)=a∧c (3+5*k+2)=p):=by
 simp only [zfC,Bool.or_eq_false_iff] at h
 refine ⟨?_,zg9 h.2⟩
 have:=h.1
 simp at this
 exact fun q=>this q.1 q.2
structure PInv (c:qZ) (b:Nat):Prop where
  ver:0≤c 0∧c 0≤b
  ep:1≤c 323∧c 323≤b+1
  st: ∀k,k < 64→0≤c (3+5*k)∧c (3+5*k)≤4
  since: ∀k,k < 64→0≤c (3+5*k+4)∧c (3+5*k+4)≤c 323
  uniq: ∀j k,j < 64→k < 64→j≠k→c (3+5*j)≠0→c (3+5*k)≠0→¬(c (3+5*j+1)=c (3+5*k+1)∧c (3+5*j+2)=c (3+5*k+2))
  own: ∀k,k < 64→c (3+5*k)≠0→¬(c (3+5*k+1)=c 1∧c (3+5*k+2)=c 2)
  place:zbh (c 1) (c 2)=true
  slot: ∀k,k < 64→c (3+5*k)≠0→zbh (c (3+5*k+1)) (c (3+5*k+2))=true∧1≤c (3+5*k+3)∧c (3+5*k+3)≤8
theorem w1 {x:Int} (h:0≤x∧x≤4611686018427387904):i64.wrap (x+1)=x+1:=w64 om om
theorem PInv.apply {c:qZ} {b:Nat} (I:PInv c b) (hb:b≤1000000) {e:Ent} (h:(qT c e).2=0):PInv (qT c e).1 (b+1):=by
 obtain ⟨h1,hc,hbad,hsoon⟩:=apply_ok h
 rw [h1]
 obtain ⟨hk,hs,hk6,hbind,hno,hnk⟩:=checkS_ok hc
 obtain ⟨b1,b2,b3,b4⟩:=bad_false hbad
 have i1:=I.ver;have i2:=I.ep
 have hv:i64.wrap (c 0+1)=c 0+1:=w1 om
 by_cases h6:e.k=6
 ·have hw:i64.wrap (c 323+1)=c 323+1:=w1 om
  have hd: ∀ {i:Nat},1≤i∧i < 323→za9 c e i=c i:=fun hi=>done6 h6 hi
  have e0:=done0 c e hs
  have e323:za9 c e 323=c 323+1:=by rw [done6e h6,hw]
  refine ⟨by rw [e0,hv];omega,by rw [e323];omega,fun k hk=>?_,fun k hk=>?_,fun j k hj hk hjk=>?_,fun k hk=>?_, ?_,fun k hk=>?_⟩
  ·rw [hd om];exact I.st k hk
  ·rw [hd om,e323];have:=I.since k hk;omega
  ·rw [hd om,hd om,hd om,hd om,hd om,hd om];exact I.uniq j k hj hk hjk
  ·rw [hd om,hd om,hd om,hd om,hd om];exact I.own k hk
  ·rw [hd om,hd om];exact I.place
  ·rw [hd om,hd om,hd om,hd om];exact I.slot k hk
 ·obtain ⟨x0,x1,x2,x3,x4,hd,g1,g5,g3⟩:=done_set c e om
  rw [hd]
  have hs64:e.s.toNat < 64:=om
  have u: ∀ {i:Nat},0 < i→upd c 0 (i64.wrap (c 0+1)) i=c i:=fun hi=>zeP _ _ om
  have hst:=I.st _ hs64
  have hsi:=I.since _ hs64
  refine ⟨?_, ?_,fun k hk=>?_,fun k hk=>?_,fun j k hj hk hjk=>?_,fun k hk=>?_, ?_,fun k hk=>?_⟩
  ·rw [ssN _ _ _ _ _ _ hs64 om,upd_eq,hv];omega
  ·rw [ssN _ _ _ _ _ _ hs64 om,u om];omega
  ·rw [ss0,u om]
   split
   ·by_cases q1:e.k=1
    ·have:=g1 q1;omega
    by_cases q5:e.k=5
    ·have:=g5 q5;omega
    ·have:=g3 q1 q5;omega
   ·exact I.st k hk
  ·rw [ss4,ssN _ _ _ _ _ _ hs64 om,u om,u om]
   split
   ·by_cases q1:e.k=1
    ·have:=g1 q1;omega
    by_cases q5:e.k=5
    ·have:=g5 q5;omega
    ·obtain ⟨_,_,_,_,q4,q4'⟩:=g3 q1 q5
     by_cases q:e.k=4
     ·rw [q4 q];omega
     ·rw [q4' q];exact hsi
   ·exact I.since k hk
  ·rw [ss0,ss0,ss1,ss1,ss2,ss2,u om,u om,u om,u om,u om,u om]
   intro n1 n2
   by_cases q5:e.k=5
   ·obtain ⟨z0,_⟩:=g5 q5
    by_cases ej:j=e.s.toNat
    ·rw [if_pos ej,z0] at n1;exact absurd rfl n1
    by_cases ek:k=e.s.toNat
    ·rw [if_pos ek,z0] at n2;exact absurd rfl n2
    simp only [ej,ek,if_false] at n1 n2 ⊢
    exact I.uniq j k hj hk hjk n1 n2
   by_cases q1:e.k=1
   ·obtain ⟨z0,z1,z2,_⟩:=g1 q1
    obtain ⟨_,hh⟩:=b1 q1
    have hf:=(zjw hh).2
    by_cases ej:j=e.s.toNat
    ·have ek:k≠e.s.toNat:=fun q=>hjk (ej.trans q.symm)
     simp only [ej,ek,if_true,if_false] at n1 n2 ⊢
     have:=hf k hk n2
     rw [z1,z2];exact fun q=>this ⟨q.1.symm,q.2.symm⟩
    by_cases ek:k=e.s.toNat
    ·simp only [ej,ek,if_true,if_false] at n1 n2 ⊢
     rw [z1,z2];exact hf j hj n1
    simp only [ej,ek,if_false] at n1 n2 ⊢
    exact I.uniq j k hj hk hjk n1 n2
   ·obtain ⟨z0,z1,z2,z3,_⟩:=g3 q1 q5
    have hne:c (3+5*e.s.toNat)≠0:=by
     have:e.k=2∨e.k=3∨e.k=4:=om
     rcases this with q | q | q
     ·have:=b2 (.inl q);omega
     ·have:=b3 q;omega
     ·have:=b2 (.inr q);omega
    have f: ∀i,(if i=e.s.toNat then x0 else c (3+5*i))≠0→c (3+5*i)≠0:=fun i q=>by
     by_cases ei:i=e.s.toNat
     ·rw [ei];exact hne
     ·rw [if_neg ei] at q;exact q
    have f1: ∀i,(if i=e.s.toNat then x1 else c (3+5*i+1))=c (3+5*i+1):=fun i=>by
     by_cases ei:i=e.s.toNat
     ·rw [if_pos ei,z1,ei]
     ·rw [if_neg ei]
    have f2: ∀i,(if i=e.s.toNat then x2 else c (3+5*i+2))=c (3+5*i+2):=fun i=>by
     by_cases ei:i=e.s.toNat
     ·rw [if_pos ei,z2,ei]
     ·rw [if_neg ei]
    rw [f1,f1,f2,f2]
    exact I.uniq j k hj hk hjk (f j n1) (f k n2)
  ·rw [ss0,ss1,ss2,ssN _ _ _ _ _ _ hs64 om,ssN _ _ _ _ _ _ hs64 om,u om,u om,u om,u om,u om]
   intro n1
   by_cases ek:k=e.s.toNat
   ·simp only [ek,if_true] at n1 ⊢
    by_cases q1:e.k=1
    ·obtain ⟨z0,z1,z2,_⟩:=g1 q1
     have:=(zjw (b1 q1).2).1
     rw [z1,z2];exact fun q=>this ⟨q.1.symm,q.2.symm⟩
    by_cases q5:e.k=5
    ·rw [(g5 q5).1] at n1;exact absurd rfl n1
    ·obtain ⟨z0,z1,z2,z3,_⟩:=g3 q1 q5
     rw [z1,z2]
     refine I.own _ hs64 ?_
     have:e.k=2∨e.k=3∨e.k=4:=om
     rcases this with q | q | q
     ·have:=b2 (.inl q);omega
     ·have:=b3 q;omega
     ·have:=b2 (.inr q);omega
   ·simp only [ek,if_false] at n1 ⊢
    exact I.own k hk n1
  ·rw [ssN _ _ _ _ _ _ hs64 om,ssN _ _ _ _ _ _ hs64 om,u om,u om];exact I.place
  ·rw [ss0,ss1,ss2,ss3,u om,u om,u om,u om]
   intro n1
   by_cases ek:k=e.s.toNat
   ·simp only [ek,if_true] at n1 ⊢
    by_cases q1:e.k=1
    ·obtain ⟨z0,z1,z2,z3,_⟩:=g1 q1
     rw [z1,z2,z3];exact hbind q1
    by_cases q5:e.k=5
    ·rw [(g5 q5).1] at n1;exact absurd rfl n1
    ·obtain ⟨z0,z1,z2,z3,_⟩:=g3 q1 q5
     rw [z1,z2,z3]
     refine I.slot _ hs64 ?_
     have:e.k=2∨e.k=3∨e.k=4:=om
     rcases this with q | q | q
     ·have:=b2 (.inl q);omega
     ·have:=b3 q;omega
     ·have:=b2 (.inr q);omega
   ·simp only [ek,if_false] at n1 ⊢
    exact I.slot k hk n1
theorem zix (a p ka kb na nb:Int) {i:Nat} (h:3≤i∧i < 323):newS a p ka kb na nb i=0:=by
 simp only [newS]
 rw [if_neg om,if_neg om,if_neg om,if_neg om,if_neg om,if_neg om,if_neg om]
theorem PInv.new {a p ka kb na nb:Int} (h:zbh a p=true):PInv (newS a p ka kb na nb) 0:=by
 refine ⟨(by decide:(0:Int)≤0∧(0:Int)≤0),(by decide:(1:Int)≤1∧(1:Int)≤0+1),fun k hk=>?_,fun k hk=>?_,fun j k hj hk hjk h1=>?_,fun k hk h1=>?_,h,fun k hk h1=>?_⟩
 ·rw [zix _ _ _ _ _ _ om];decide
 ·rw [zix _ _ _ _ _ _ om];exact ⟨dC,(by decide:(0:Int)≤1)⟩
 ·rw [zix _ _ _ _ _ _ om] at h1;exact absurd rfl h1
 ·rw [zix _ _ _ _ _ _ om] at h1;exact absurd rfl h1
 ·rw [zix _ _ _ _ _ _ om] at h1;exact absurd rfl h1
theorem PInv.mono {c:qZ} {b b':Nat} (I:PInv c b) (h:b≤b'):PInv c b':=
 ⟨by have:=I.ver;omega,by have:=I.ep;omega,I.st,I.since,I.uniq,I.own,I.place,I.slot⟩
end Go.Rh

set_option maxHeartbeats 8000000
namespace Go.Rh
def zh9 (p:qZ) (n:Int):qZ:=if (qT p (zcu n)).2=0 then (qT p (zcu n)).1 else p
def zY (ns:List Int) (k:Nat):qZ:=(ns.take k).foldl zh9 (zhC 10 80 (zdZ 1) (zdY 1) (zdZ 2) (zdY 2)).1
abbrev yK:=(zhC 10 80 (zdZ 1) (zdY 1) (zdZ 2) (zdY 2))
theorem MakeC {P:Program} [PrC P] (o:Option Nat) (ns:List Int) (hnns:o=none→ns= []) (hl:(ns.length:Int)≤9223372036854775807) (k:Nat) (hk:(k:Int)≤1000):
  Env P "roundhouse/roundhouselaw6.Make" [inV o 0 ns.length,iv (k:Int)] ([inB o (ii ns)]) (Ans (zaw (zY ns k)) ([inB o (ii ns)])):=by
 refine Env.by PrC.law6_Make ?_
 unfold ziW
 show GC _ 1 _ _ ⟨reg [(0,inV o 0 ns.length),(1,iv (k:Int))],[inB o (ii ns)]⟩
 refine zJ (zN (o_b 1 [(4,pv 1 0)] [inB o (ii ns),cw (pl qO)] (zE (zA (zJ (zN (qV (zab (KeyC 1) rfl rfl rfl (qV (zab (KeyC 2) rfl rfl rfl (qV (zab (refNewC 10 80 (zdZ 1) (zdY 1) (zdZ 2) (zdY 2)) rfl rfl (all_cons (zaH (yK.1)) (all_cons rfl rfl)) ?_))))))))))))
 refine o_b 4 [(5,pv 2 0),(15,iv (yK.2)),(14,zaw (yK.1)),(10,.tuple #[zaw (yK.1),iv (yK.2)])] [inB o (ii ns),cw (pl qO),cw (pl qO)] (zdj (by refine zao (c':=pl (yK.1)) rfl rfl rfl ?_ ?_ ?_;exact qI _;exact zck om;exact zai qO (yK.1)) ?_)
 refine o_b 1 [(6,iv (yK.2))] [inB o (ii ns),cw (pl qO),cw (pl (yK.1))] (zE (zA (zJ (zJ (zN (o_d 1 [(7,iv 0)] (zE (zA (qU (zcs (fun μ s=> ∃(i:Nat),∃(d:qZ),μ=ns.length - i∧(i≤ns.length∧i≤k)∧(((ns.drop i).take (k - i)).foldl zh9 d=zY ns k)∧s=⟨reg [(7,iv (i:Int)),(5,pv 2 0),(4,pv 1 0),(0,inV o 0 ns.length),(1,iv (k:Int))],[inB o (ii ns),cw (pl qO),cw (pl d)]⟩) ⟨(ns.length - 0), ?_⟩ ?_))))))))))
 ·skip
  refine ⟨⟨reg [(7,iv (0:Int)),(5,pv 2 0),(4,pv 1 0),(0,inV o 0 ns.length),(1,iv (k:Int))],[inB o (ii ns),cw (pl qO),cw (pl (yK.1))]⟩, ?_⟩
  refine ⟨?_, ?_⟩
  ·exact Wk.ren [0,1,2] rfl rfl dC ⟨rfl,rfl,rfl,((zgd o rfl)).trans rfl,rfl,trivial⟩ ⟨.inl (zgO o (qS ns)),.inl (zL (zae qO)),.inl (zL (zae (yK.1))),trivial⟩
  ·exact ⟨0,(yK.1),rfl,⟨Nat.zero_le _,Nat.zero_le _⟩,rfl,rfl⟩
 ·rintro μ s ⟨i,d,rfl,hi,hf,rfl⟩
  refine zJ (zJ (zN (o_d 2 [(17,inV o 0 ns.length),(16,iv (i:Int))] (o_s (by exact run_lenIn rfl (fun q=>by rw [hnns q];rfl)) ?_))))
  refine o_d 2 [(20,bv (decide ((i:Int) < (ns.length:Nat)))),(19,bv (decide ((i:Int) < (ns.length:Nat))))] (zbJ (b:=decide ((i:Int) < (ns.length:Nat))) 20 rfl (fun h1=>?_) (fun h1=>?_))
  ·skip
   have h1':(i:Int) < (ns.length:Nat):=of_decide_eq_true h1
   refine o_d 4 [(24,bv (decide ((i:Int) < (k:Int)))),(23,bv (decide ((i:Int) < (k:Int)))),(22,iv (k:Int)),(21,iv (i:Int))] (zE (zA (qJ (t:=decide ((i:Int) < (k:Int))) rfl (fun h2=>?_) (fun h2=>?_))))
   ·skip
    have h2':(i:Int) < (k:Int):=of_decide_eq_true h2
    obtain ⟨x,hx,hd,ht⟩:=zeh (l:=ns) (i:=i) om
    have hstep:(ns.drop i).take (k - i)=x::(ns.drop (i+1)).take (k - (i+1)):=by rw [hd,show k - i=(k - (i+1))+1 by omega];rfl
    refine qK (zA (zJ (qU (zJ (zbe ["roundhouse/roundhouselaw6.Entry","roundhouse/roundhouseref6.Apply"] (r_s (by refine zV (v:=zaw d) rfl rfl ?_;exact zaS d) ?_))))))
    refine r_d 2 [(30,iv (i:Int)),(29,inV o 0 ns.length)] (r_s (by exact zil (o':=i) rfl (fun q=>by rw [hnns q];rfl) rfl om om) ?_)
    refine r_s (by refine zV (v:=iv x) rfl (hf_in (n:=ns.length) rfl (fun q=>by rw [hnns q];rfl) om) ?_;exact ii_r (i:=i) om hx) ?_
    refine zeJ (zba (EntryC x) rfl rfl rfl (zeJ (zba (refApplyC d (zcu x)) rfl (all_cons (zbO d) (all_cons rfl rfl)) (all_cons (zaH ((qT d (zcu x)).1)) (all_cons rfl rfl)) (r_b 4 [(8,pv 3 0),(36,iv ((qT d (zcu x)).2)),(35,zaw ((qT d (zcu x)).1)),(27,.tuple #[zaw ((qT d (zcu x)).1),iv ((qT d (zcu x)).2)])] [inB o (ii ns),cw (pl qO),cw (pl d),cw (pl qO)] (r_s0 (by refine zao (c':=pl ((qT d (zcu x)).1)) rfl rfl rfl ?_ ?_ ?_;exact qI _;exact zck om;exact zai qO ((qT d (zcu x)).1)) ?_)))))
    refine r_b 1 [(9,iv ((qT d (zcu x)).2))] [inB o (ii ns),cw (pl qO),cw (pl d),cw (pl ((qT d (zcu x)).1))] (za3 (zA (zJ (zN (o_d 2 [(38,bv (((qT d (zcu x)).2)==0)),(37,iv ((qT d (zcu x)).2))] (zE (zU [(38,bv (((qT d (zcu x)).2)==0)),(8,pv 3 0),(7,iv (i:Int)),(5,pv 2 0),(4,pv 1 0),(0,inV o 0 ns.length),(1,iv (k:Int))] (qJ (t:=((qT d (zcu x)).2)==0) rfl (fun h3=>?_) (fun h3=>?_)))))))))
    ·skip
     have h3':(qT d (zcu x)).2=0:=zaQ h3
     refine zN (o_s (by refine zV (v:=zaw ((qT d (zcu x)).1)) rfl rfl ?_;exact zaS ((qT d (zcu x)).1)) ?_)
     refine zdj (by refine zao (c':=pl ((qT d (zcu x)).1)) rfl rfl rfl ?_ ?_ ?_;exact qI _;exact zck om;exact zai d ((qT d (zcu x)).1)) ?_
     refine zE (zA (zN (o_d 1 [(25,iv (i:Int))] (o_s (by refine zK (v:= .int .i64 (i64.wrap ((i:Int)+1))) (congrArg wg (w64 om om)) ?_;kernel_rfl) ?_))))
     refine o_d 1 [(7,iv ((i:Int)+1))] (zE (⟨ns.length - (i+1), ?_⟩))
     refine ⟨⟨reg [(7,iv ((i+1):Int)),(5,pv 2 0),(4,pv 1 0),(0,inV o 0 ns.length),(1,iv (k:Int))],[inB o (ii ns),cw (pl qO),cw (pl ((qT d (zcu x)).1))]⟩, ?_⟩
     refine zde om ⟨?_, ?_⟩
     ·exact Wk.ren [0,1,2] rfl rfl dC ⟨rfl,rfl,rfl,((zgd o rfl)).trans rfl,rfl,trivial⟩ ⟨.inl (zgO o (qS ns)),.inl (zL (zae qO)),.inl (zL (zae ((qT d (zcu x)).1))),trivial⟩
     ·exact ⟨(i+1),((qT d (zcu x)).1),rfl,om,(by rw [←hf,hstep];simp [zh9,h1,h1',h2,h2',h3,h3']),rfl⟩
    ·skip
     have h3': ¬((qT d (zcu x)).2=0):=zaR h3
     refine qK (zA (zN (o_d 1 [(25,iv (i:Int))] (o_s (by refine zK (v:= .int .i64 (i64.wrap ((i:Int)+1))) (congrArg wg (w64 om om)) ?_;kernel_rfl) ?_))))
     refine o_d 1 [(7,iv ((i:Int)+1))] (zE (⟨ns.length - (i+1), ?_⟩))
     refine ⟨⟨reg [(7,iv ((i+1):Int)),(5,pv 2 0),(4,pv 1 0),(0,inV o 0 ns.length),(1,iv (k:Int))],[inB o (ii ns),cw (pl qO),cw (pl d)]⟩, ?_⟩
     refine zde om ⟨?_, ?_⟩
     ·exact Wk.ren [0,1,2] rfl rfl dC ⟨rfl,rfl,rfl,((zgd o rfl)).trans rfl,rfl,trivial⟩ ⟨.inl (zgO o (qS ns)),.inl (zL (zae qO)),.inl (zL (zae d)),trivial⟩
     ·exact ⟨(i+1),d,rfl,om,(by rw [←hf,hstep];simp [zh9,h1,h1',h2,h2',h3,h3']),rfl⟩
   ·skip
    have h2': ¬((i:Int) < (k:Int)):=of_decide_eq_false h2
    refine zb1 (zA (zJ (zN (o_s (by refine zV (v:=zaw d) rfl rfl ?_;exact zaS d) ?_))))
    refine zdj (by refine zao (c':=pl d) rfl rfl rfl ?_ ?_ ?_;exact qI _;exact zck om;exact zai qO d) ?_
    refine zE (zA (qW ?_))
    have e0:zY ns k=d:=by
     rw [←hf];have:(ns.drop i).take (k - i)= []:=by simp;omega
     rw [this];rfl
    exact z7 [zaw d] (q8 rfl rfl (zaS d) rfl) (all_cons (zaH d) rfl) (by rw [e0];rfl) rfl (show List.all [inB o (ii ns)] zhR=true from (all_cons (zdk _ (qS ns)) rfl))
  ·skip
   have h1': ¬((i:Int) < (ns.length:Nat)):=of_decide_eq_false h1
   refine o_d 4 [(24,bv false),(23,undef),(22,undef),(21,undef)] (zE (zA (zbc rfl (zb1 (zA (zJ (zN (o_s (by refine zV (v:=zaw d) rfl rfl ?_;exact zaS d) ?_))))))))
   refine zdj (by refine zao (c':=pl d) rfl rfl rfl ?_ ?_ ?_;exact qI _;exact zck om;exact zai qO d) ?_
   refine zE (zA (qW ?_))
   have e0:zY ns k=d:=by
    rw [←hf];have:(ns.drop i).take (k - i)= []:=by simp;omega
    rw [this];rfl
   exact z7 [zaw d] (q8 rfl rfl (zaS d) rfl) (all_cons (zaH d) rfl) (by rw [e0];rfl) rfl (show List.all [inB o (ii ns)] zhR=true from (all_cons (zdk _ (qS ns)) rfl))
end Go.Rh

namespace Go.Rh
theorem stepM_inv {c:qZ} {b:Nat} (I:PInv c b) (hb:b≤1000000) (n:Int):PInv (zh9 c n) (b+1):=by
 unfold zh9
 split
 ·rename_i h;exact I.apply hb h
 ·exact I.mono om
theorem fold_inv: ∀(l:List Int) {c:qZ} {b:Nat},PInv c b→b+l.length≤1000000→PInv (l.foldl zh9 c) (b+l.length)
 | [],_,_,I,_=>I
 | n::l,c,b,I,hb=>by
  simp only [List.length_cons] at hb
  have:=fold_inv l (stepM_inv I om n) om
  simp only [List.foldl_cons,List.length_cons]
  exact this.mono om
theorem makeS_inv (ns:List Int) {k:Nat} (hk:k≤1000):PInv (zY ns k) k:=by
 have h0:PInv (zhC 10 80 (zdZ 1) (zdY 1) (zdZ 2) (zdY 2)).1 0:=by
  have hp:zbh 10 80=true:=by decide
  simp only [zhC,hp,if_true]
  exact PInv.new hp
 have hl:(ns.take k).length≤k:=by simp;omega
 exact (fold_inv (ns.take k) h0 om).mono om
theorem zhZ (x:Int) {n:Int} (hn:0 < n∧n≤4611686018427387904):0≤zC x n∧zC x n < n:=by
 have h2:x.tmod n < n:=Int.tmod_lt_of_pos x hn.1
 have h3: -n < x.tmod n:=by
  have:=Int.lt_tmod_of_pos x hn.1
  exact this
 unfold zC
 split
 ·rename_i h;rw [w64 om om];omega
 ·omega
end Go.Rh
namespace Go.Rh
end Go.Rh

namespace Go.Rh
def zI:List Value:= [iv 0]
theorem zaz (l:List Int):(ii l).length=l.length:=by simp [ii]
theorem ii_len1 (l:List Int):(ii l).length=l.length*1:=by simp [ii]
theorem room_zI (m:Nat):zaj zI m=ii (List.replicate m 0):=by
 induction m with
 | zero=>rfl
 | succ n ih=>simp only [zaj,List.replicate_succ,List.flatten_cons] at ih ⊢;rw [ih];rfl
theorem ii_app (a b:List Int):ii a++ii b=ii (a++b):=by simp [ii]
theorem zaq (l:List Int) (m:Nat):(ii l++zaj zI m).all zbG=true:=by rw [room_zI,ii_app];exact qS _
theorem ii_g {l:List Int} {i o:Nat} (ho:o=i) (h:i < l.length):zaP none (ii l) o=some (iv (l.getD i 0)):=
 ii_r ho (by simp [List.getD_eq_getElem?_getD,h])
theorem ii_w {l:List Int} {i o:Nat} {v:Int} (ho:o=i) (h:i < l.length):splice (ii l) o [iv v]=ii (l.set i v):=by
 subst ho
 refine zcn (by rw [zfm (by rw [zaz];exact h),zaz,zaz,List.length_set]) fun k hk=>?_
 rw [zgG (by rw [zaz];exact h)]
 simp only [ii,List.getElem?_map,List.length_singleton]
 rw [List.getElem?_set]
 by_cases hki:o=k
 ·subst hki;rw [if_pos ⟨Nat.le_refl _,om⟩,if_pos rfl,if_pos h];simp
 ·rw [if_neg om,if_neg hki]
theorem ii_all {l:List Int} {n:Nat} (h:l.length=n):zaP (some n) (ii l) 0=some (.agg ⟨ii l⟩):=by
 subst h;simp [zaP,zaz,←zaz]
def eqI (a b:List Int):Bool:=decide (a=b)
theorem eqI_K: ∀ {n:Nat} {a b:List Int},a.length=n→b.length=n→eqK (List.replicate n LK.i) (ii a) (ii b)=some (eqI a b)
 | 0,[],[],_,_=>rfl
 | n+1,x::a,y::b,h1,h2=>by
  have ih:=eqI_K (n:=n) (a:=a) (b:=b) (by simpa using h1) (by simpa using h2)
  simp only [ii,List.replicate_succ,List.map_cons,eqK] at ih ⊢
  rw [ih]
  simp only [eq1K,eqI]
  by_cases hx:x=y<;>by_cases ha:a=b<;>simp [hx,ha]
 | 0,_::_,_,h,_=>by simp at h
 | 0,[],_::_,_,h=>by simp at h
 | _+1,[],_,h,_=>by simp at h
 | _+1,_::_,[],_,h=>by simp at h
theorem eqI_run {x y:Value} (a b:List Int) (ha:a.length=127) (hb:b.length=127) (hx:x= .agg ⟨ii a⟩) (hy:y= .agg ⟨ii b⟩):x= .agg ⟨ii a⟩∧y= .agg ⟨ii b⟩∧eqK (zdW [(127,.i)]) (ii a) (ii b)=some (eqI a b):=
 ⟨hx,hy,by rw [show zdW [(127,.i)]=List.replicate 127 LK.i by simp [zdW]];exact eqI_K ha hb⟩
def za4 {α:Type} (f:α→List Value) (l:List α):List Value:=l.flatMap f
theorem zb0 {α:Type} {f:α→List Value} {n:Nat} (hf: ∀x,(f x).length=n) (l:List α):(za4 f l).length=l.length*n:=by
 induction l with
 | nil=>simp [za4]
 | cons x l ih=>simp only [za4,List.flatMap_cons,List.length_append,List.length_cons] at ih ⊢;rw [ih,hf,Nat.add_mul];omega
theorem recL_app {α:Type} (f:α→List Value) (a b:List α):za4 f a++za4 f b=za4 f (a++b):=by simp [za4]
theorem recL_scl {α:Type} {f:α→List Value} (hf: ∀x,(f x).all zbG=true) (l:List α):(za4 f l).all zbG=true:=by
 induction l with
 | nil=>rfl
 | cons x l ih=>simp only [za4,List.flatMap_cons,List.all_append] at ih ⊢;rw [hf,ih];rfl
theorem zir {α:Type} {f:α→List Value} {l:List α} {i:Nat} {x:α} (hx:l[i]? =some x):za4 f l=za4 f (l.take i)++(f x++za4 f (l.drop (i+1))):=by
 have h:=z6 hx
 have:l=l.take i++x::l.drop (i+1):=by
  rw [List.getElem?_eq_getElem h] at hx;cases hx
  simp
 conv=>lhs;rw [this]
 simp [za4]
theorem rec_r {α:Type} {f:α→List Value} {n i j o:Nat} {m:Option Nat} {l:List α} {x:α} {v:Value} (hf: ∀x,(f x).length=n) (ho:o=n*i+j) (hx:l[i]? =some x) (h:zaP m (f x) j=some v):zaP m (za4 f l) o=some v:=by
 have hl:=z6 hx
 rw [zir hx,ho,partL_r (by rw [zb0 hf,List.length_take,Nat.min_eq_left om,Nat.mul_comm])]
 exact zcQ h
theorem rec_w {α:Type} {f:α→List Value} {n i j o:Nat} {l:List α} {x y:α} {vs:List Value} (hf: ∀x,(f x).length=n) (ho:o=n*i+j) (hx:l[i]? =some x) (hj:j+vs.length≤n) (h:splice (f x) j vs=f y):splice (za4 f l) o vs=za4 f (l.set i y):=by
 have hl:=z6 hx
 have hy:(l.set i y)[i]? =some y:=by simp [hl]
 rw [zir hx,zir hy,ho,zdg (by rw [zb0 hf,List.length_take,Nat.min_eq_left om,Nat.mul_comm]),zes (by rw [hf];exact hj),h]
 rw [List.take_set_of_le (Nat.le_refl _),List.drop_set_of_lt om]
structure Wl where
  (s a b w:Int)
def wlF (x:Wl):List Value:= [iv x.s,iv x.a,iv x.b,iv x.w]
def zWl:List Value:= [iv 0,iv 0,iv 0,iv 0]
theorem zer (x:Wl):(wlF x).length=4:=rfl
theorem zcM (l:List Wl) (m:Nat):(za4 wlF l++zaj zWl m).all zbG=true:=app_scl (recL_scl (fun _=>rfl) l) (room_scl rfl m)
theorem wl_app1 (l:List Wl) (s a b w:Int):za4 wlF l++ [iv s,iv a,iv b,iv w]=za4 wlF (l++ [⟨s,a,b,w⟩]):=by rw [←recL_app];rfl
def za2 (m:Int) (ns:List Int):Int:=zan 0 0 ns % m
theorem xo_rng (a b:Int):0≤xo a b∧xo a b < 18446744073709551616:=by
 show 0≤(_:Int) % 18446744073709551616∧(_:Int) % 18446744073709551616 < 18446744073709551616
 omega
theorem words_rng (ka kb:Int) (ns:List Int):0≤zan ka kb ns∧zan ka kb ns < 18446744073709551616:=xo_rng _ _
theorem spun_eq {m:Int} {ns:List Int} (h:0 < m∧m≤1000):i64.wrap ((zan 0 0 ns).tmod m)=za2 m ns:=by
 have h1:=words_rng 0 0 ns
 rw [rem_nn om]
 have h2:=Int.emod_nonneg (zan 0 0 ns) (by omega:m≠0)
 have h3:=Int.emod_lt_of_pos (zan 0 0 ns) h.1
 exact w64 om om
theorem zdG {m:Int} {ns:List Int} (h:0 < m):0≤za2 m ns∧za2 m ns < m:=⟨Int.emod_nonneg _ om,Int.emod_lt_of_pos _ h⟩
def zaT (p:qZ) (i:Nat):Wl:=⟨i,za2 127 [1,p (3+5*i+1),p (3+5*i+2)],1+za2 126 [2,p (3+5*i+1),p (3+5*i+2)],(if (8:Int) < (if (1:Int) > p (3+5*i+3) then (1:Int) else p (3+5*i+3)) then (8:Int) else (if (1:Int) > p (3+5*i+3) then (1:Int) else p (3+5*i+3)))⟩
def zbw (p:qZ):Nat→List Wl
 | 0=> []
 | i+1=>if p (3+5*i)=2 then zbw p i++ [zaT p i] else zbw p i
structure WlOk (x:Wl):Prop where
  s:0≤x.s∧x.s < 64
  a:0≤x.a∧x.a < 127
  b:1≤x.b∧x.b≤126
  w:1≤x.w∧x.w≤8
theorem wlOf_ok (p:qZ) {i:Nat} (h:i < 64):WlOk (zaT p i):=by
 have h1:=zdG (m:=127) (ns:= [1,p (3+5*i+1),p (3+5*i+2)]) om
 have h2:=zdG (m:=126) (ns:= [2,p (3+5*i+1),p (3+5*i+2)]) om
 refine ⟨by simp only [zaT];omega,h1,by simp only [zaT];omega, ?_⟩
 simp only [zaT]
 (repeat' split)<;>omega
theorem wlks_ok (p:qZ): ∀ {n:Nat},n≤64→∀x∈zbw p n,WlOk x
 | 0,_,_,hx=>by simp [zbw] at hx
 | n+1,h,x,hx=>by
  simp only [zbw] at hx
  split at hx
  ·rcases List.mem_append.1 hx with q | q
   ·exact wlks_ok p om x q
   ·simp at q;subst q;exact wlOf_ok p om
  ·exact wlks_ok p om x hx
theorem wlks_len (p:qZ): ∀n,(zbw p n).length≤n
 | 0=>by simp [zbw]
 | n+1=>by
  have:=wlks_len p n
  simp only [zbw];split<;>simp<;>omega
def zeA:List Int:=List.replicate 127 (-1)
def zc9 (W:List Int):Nat:=W.count (-1)
def prb (W:List Int) (b:Int):Nat→Int→Int
 | 0,a=>a
 | n+1,a=>if W.getD a.toNat 0= -1 then a else prb W b n ((a+b) % 127)
abbrev WS:=List Int×List Wl
def zcH (k:Nat) (S:WS):WS:=if zc9 S.1=0 then S else match S.2[k]? with
 | none=>S
 | some x=>(S.1.set (prb S.1 x.b 127 x.a).toNat x.s,S.2.set k ⟨x.s,prb S.1 x.b 127 x.a,x.b,x.w⟩)
def itr {α:Type} (f:α→α):Nat→α→α
 | 0,x=>x
 | n+1,x=>f (itr f n x)
def wtOf (l0:List Wl) (k:Nat):Nat:=match l0[k]? with
 | none=>0
 | some x=>x.w.toNat
def zcY (l0:List Wl) (S:WS):Nat→WS
 | 0=>S
 | k+1=>itr (zcH k) (wtOf l0 k) (zcY l0 S k)
def zbg (l0:List Wl) (r:Nat):WS:=itr (fun S=>zcY l0 S l0.length) r (zeA,l0)
def zZ (p:qZ):List Int:=(zbg (zbw p 64) 127).1
theorem zh4 {k:Nat} {S:WS} (h:zc9 S.1=0):zcH k S=S:=by simp [zcH,h]
theorem zfv {α:Type} {f:α→α} {x:α} (h:f x=x): ∀n,itr f n x=x
 | 0=>rfl
 | n+1=>by simp only [itr];rw [zfv h n,h]
theorem itr_add {α:Type} (f:α→α) (x:α) (m:Nat): ∀n,itr f (n+m) x=itr f n (itr f m x)
 | 0=>by simp [itr]
 | n+1=>by rw [show n+1+m=n+m+1 by omega];simp only [itr];rw [itr_add f x m n]
theorem zgL {l0:List Wl} {S0 S:WS} {k:Nat} (h:zc9 S.1=0) (hk:zcY l0 S0 k=S): ∀n,zcY l0 S0 (k+n)=S
 | 0=>hk
 | n+1=>by rw [show k+(n+1)=(k+n)+1 by omega];simp only [zcY];rw [zgL h hk n];exact zfv (zh4 h) _
theorem zfT {l0:List Wl} {r:Nat} {S:WS} (h:zc9 S.1=0) (hr:zbg l0 r=S) {n:Nat} (hn:r≤n):zbg l0 n=S:=by
 obtain ⟨m,rfl⟩: ∃m,n=m+r:=⟨n - r,om⟩
 unfold zbg at hr ⊢
 rw [itr_add,hr]
 refine zfv ?_ m
 have:=zgL (l0:=l0) (S0:=S) (k:=0) h rfl l0.length
 simpa using this
theorem point_full {l0:List Wl} {r k t:Nat} {S:WS} (hS:S=itr (zcH k) t (zcY l0 (zbg l0 r) k)) (hk:k < l0.length) (ht:t≤wtOf l0 k) (h:zc9 S.1=0):zbg l0 (r+1)=S:=by
 have h1:zcY l0 (zbg l0 r) (k+1)=S:=by
  show itr (zcH k) (wtOf l0 k) (zcY l0 (zbg l0 r) k)=S
  obtain ⟨m,hm⟩: ∃m,wtOf l0 k=m+t:=⟨wtOf l0 k - t,om⟩
  rw [hm,itr_add,←hS];exact zfv (zh4 h) m
 have h2:=zgL h h1 (l0.length - (k+1))
 rw [show k+1+(l0.length - (k+1))=l0.length by omega] at h2
 exact h2
theorem inv127: ∀b:Fin 127,b.val≠0→∃c:Fin 127,(b.val*c.val) % 127=1:=by decide
theorem free_at {W:List Int} (h:zc9 W≠0): ∃i,i < W.length∧W.getD i 0= -1:=by
 have h1:0 < W.count (-1):=Nat.pos_of_ne_zero h
 have h2:(-1:Int)∈W:=List.count_pos_iff.1 h1
 obtain ⟨i,hi,e⟩:=List.getElem_of_mem h2
 exact ⟨i,hi,by simp [List.getD_eq_getElem?_getD,hi,e]⟩
theorem reach {a b:Int} (ha:0≤a∧a < 127) (hb:1≤b∧b≤126) (t:Nat) (ht:t < 127): ∃n:Nat,n < 127∧(a+n*b) % 127=t:=by
 obtain ⟨c,hc⟩:=inv127 ⟨b.toNat,om⟩ (by simp;omega)
 simp only at hc
 refine ⟨((((t:Int) - a)*c.val) % 127).toNat,om, ?_⟩
 have hb':((b.toNat:Nat):Int)=b:=om
 have hc':(b*(c.val:Int)) % 127=1:=by rw [←hb'];exact_mod_cast hc
 rw [Int.toNat_of_nonneg om]
 have e1:(((t:Int) - a)*c.val % 127*b) % 127=((t:Int) - a) % 127:=by
  rw [Int.mul_emod,Int.emod_emod,←Int.mul_emod,Int.mul_assoc,Int.mul_comm (c.val:Int) b,Int.mul_emod,hc',Int.mul_one,Int.emod_emod]
 omega
theorem least {P:Nat→Prop} [DecidablePred P] {n:Nat} (h:P n): ∃m,m≤n∧P m∧∀k,k < m→¬P k:=by
 induction n using Nat.strongRecOn with
 | _ n ih=>
  by_cases hq: ∃k,k < n∧P k
  ·obtain ⟨k,hk,hp⟩:=hq
   obtain ⟨m,h1,h2,h3⟩:=ih k hk hp
   exact ⟨m,om,h2,h3⟩
  ·exact ⟨n,Nat.le_refl _,h,fun k hk hp=>hq ⟨k,hk,hp⟩⟩
def zbs (a b:Int) (m:Nat):Int:=(a+m*b) % 127
theorem walk_0 {a b:Int} (ha:0≤a∧a < 127):zbs a b 0=a:=by unfold zbs;omega
theorem walk_1 (a b:Int) (m:Nat):(zbs a b m+b) % 127=zbs a b (m+1):=by
 unfold zbs;rw [show ((m+1:Nat):Int)*b=m*b+b by push_cast;rw [Int.add_mul,Int.one_mul]];omega
theorem zf3 (a b:Int) (m:Nat):0≤zbs a b m∧zbs a b m < 127:=by unfold zbs;omega
theorem prb_walk {W:List Int} {a b:Int} {n:Nat} (hW:W.getD (zbs a b n).toNat 0= -1): ∀(d m f:Nat),m+d=n→d < f→(∀k,m≤k→k < n→W.getD (zbs a b k).toNat 0≠ -1)→prb W b f (zbs a b m)=zbs a b n
 | 0,m,f+1,e,_,_=>by
  have:m=n:=om
  subst this;simp only [prb];rw [if_pos hW]
 | d+1,m,f+1,e,hf,hk=>by
  simp only [prb]
  rw [if_neg (hk m (Nat.le_refl _) om),walk_1]
  exact prb_walk hW d (m+1) f om om fun k h1 h2=>hk k om h2
 | _,_,0,_,h,_=>by omega
theorem found {W:List Int} {a b:Int} (hW:W.length=127) (hf:zc9 W≠0) (ha:0≤a∧a < 127) (hb:1≤b∧b≤126): ∃n,n < 127∧W.getD (zbs a b n).toNat 0= -1∧(∀k,k < n→W.getD (zbs a b k).toNat 0≠ -1)∧prb W b 127 a=zbs a b n:=by
 obtain ⟨i,hi,hg⟩:=free_at hf
 obtain ⟨n,hn,he⟩:=reach ha hb i om
 have h0:W.getD (zbs a b n).toNat 0= -1:=by unfold zbs;rw [he];simpa using hg
 obtain ⟨m,h1,h2,h3⟩:=least (P:=fun n=>W.getD (zbs a b n).toNat 0= -1) h0
 refine ⟨m,om,h2,h3, ?_⟩
 have:=prb_walk h2 m 0 127 om om fun k _ hk=>h3 k hk
 rwa [walk_0 ha] at this
theorem free_set {W:List Int} {i:Nat} {s:Int} (hi:i < W.length) (h:W.getD i 0= -1) (hs:s≠ -1):zc9 (W.set i s)+1=zc9 W:=by
 have e:W[i]= -1:=by simpa [List.getD_eq_getElem?_getD,hi] using h
 unfold zc9
 rw [List.count_set hi]
 have:0 < W.count (-1):=List.count_pos_iff.2 (e▸List.getElem_mem hi)
 simp [e,hs];omega
theorem set_neq {W:List Int} {i:Nat} {s:Int} (hi:i < W.length) (h:W.getD i 0= -1) (hs:s≠ -1):eqI (W.set i s) W=false:=by
 refine decide_eq_false fun q=>?_
 have:=congrArg (fun l=>List.getD l i 0) q
 simp only [h] at this
 simp [List.getD_eq_getElem?_getD,hi] at this
 exact hs this
structure WOk (l0:List Wl) (W:List Int) (l:List Wl):Prop where
  len:l.length=l0.length
  wl:W.length=127
  same: ∀(k:Nat) (x:Wl),l[k]? =some x→∃y,l0[k]? =some y∧x.s=y.s∧x.b=y.b∧x.w=y.w∧0≤x.a∧x.a < 127
  good: ∀y∈l0,WlOk y
theorem WOk.init {l0:List Wl} (h: ∀y∈l0,WlOk y):WOk l0 zeA l0:=
 ⟨rfl,rfl,fun k x hx=>⟨x,hx,rfl,rfl,rfl,(h x (List.mem_of_getElem? hx)).a⟩,h⟩
theorem WOk.at_ {l0 l:List Wl} {W:List Int} (h:WOk l0 W l) {k:Nat} {x:Wl} (hx:l[k]? =some x):WlOk x∧wtOf l0 k=x.w.toNat:=by
 obtain ⟨y,h1,h2,h3,h4,h5⟩:=h.same k x hx
 have hy:=h.good y (List.mem_of_getElem? h1)
 refine ⟨⟨h2▸hy.s,h5,h3▸hy.b,h4▸hy.w⟩, ?_⟩
 simp [wtOf,h1,h4]
theorem WOk.set {l0 l:List Wl} {W:List Int} (h:WOk l0 W l) {k:Nat} {x:Wl} (hx:l[k]? =some x) {a:Int} (ha:0≤a∧a < 127):WOk l0 W (l.set k ⟨x.s,a,x.b,x.w⟩):=by
 refine ⟨by rw [List.length_set];exact h.len,h.wl,fun j z hz=>?_,h.good⟩
 have hl:=z6 hx
 rw [List.getElem?_set] at hz
 by_cases hj:k=j
 ·subst hj
  rw [if_pos rfl,if_pos hl] at hz;cases hz
  obtain ⟨y,h1,h2,h3,h4,_⟩:=h.same k x hx
  exact ⟨y,h1,h2,h3,h4,ha⟩
 ·rw [if_neg hj] at hz;exact h.same j z hz
theorem WOk.put {l0 l:List Wl} {W:List Int} (h:WOk l0 W l) (i:Nat) (s:Int):WOk l0 (W.set i s) l:=
 ⟨h.len,by rw [List.length_set];exact h.wl,h.same,h.good⟩
theorem turn_eq {W:List Int} {l:List Wl} {k n:Nat} {x:Wl} (hf:zc9 W≠0) (hx:l[k]? =some x) (hp:prb W x.b 127 x.a=zbs x.a x.b n):zcH k (W,l)=(W.set (zbs x.a x.b n).toNat x.s,l.set k ⟨x.s,zbs x.a x.b n,x.b,x.w⟩):=by
 simp [zcH,hf,hx,hp]
theorem run_stSl {d:Option Nat} {n n2:Nat} {x y:Opd} {L:List (Nat×Value)} {hp:List Blk} {k o:Nat} {c c' z:List Value} {q:Option Nat} (hx:evf (reg L) x= .pointer (some ⟨k,o,none⟩)) (hk:hp[k]? =some (slB z c q)) (hq:q=none→n2=0) (hn2:0 < n2) (ht:zbt (evf (reg L) y)=false) (hl:(zdE (evf (reg L) y)).length=n) (ho:o+n≤c.length) (hc:splice c o (zdE (evf (reg L) y))=c'):zdb [⟨d,.st n x y,none⟩] ⟨reg L,hp⟩=some ⟨zau (reg L) d undef,hp.set k (slB z c' q)⟩:=by
 cases q with
 | none=>have:=hq rfl;omega
 | some m=>
  refine zao (c:=c++zaj z m) (c':=c'++zaj z m) hx (zah.2 ⟨hk,by simp [slB]⟩) ht hl (by simp;omega) ?_
  rw [zes om,hc]
theorem zjn (n:Nat):zbg [] n=(zeA,[]):=by
 unfold zbg;exact zfv rfl n
theorem fin_a {l0 l:List Wl} {W:List Int} {r:Nat} {f:Int} (hS:(W,l)=zbg l0 r) (hf:f=if l0.length=0 then 0 else ((zc9 W:Nat):Int)) (hr:f+r≤127) (h0: ¬f > 0):W=(zbg l0 127).1:=by
 by_cases h:l0.length=0
 ·have:l0= []:=List.eq_nil_of_length_eq_zero h
  subst this
  rw [zjn] at hS ⊢;exact congrArg Prod.fst hS
 ·rw [if_neg h] at hf
  rw [zfT (S:=(W,l)) (by show zc9 W=0;omega) hS.symm om]
theorem fin_b {l0 l:List Wl} {W:List Int} {r k t:Nat} {f:Int} (hS:(W,l)=itr (zcH k) t (zcY l0 (zbg l0 r) k)) (hk:k < l0.length) (ht:t≤wtOf l0 k) (hf:f=((zc9 W:Nat):Int)) (h0:f=0) (hr:r+1≤127):W=(zbg l0 127).1:=by
 rw [zfT (S:=(W,l)) (by show zc9 W=0;omega) (point_full hS hk ht (by show zc9 W=0;omega)) hr]
theorem set_id {l:List Wl} {k:Nat} {x:Wl} (hx:l[k]? =some x) (ha:0≤x.a∧x.a < 127):l=l.set k ⟨x.s,zbs x.a x.b 0,x.b,x.w⟩:=by
 rw [walk_0 ha]
 have h:=z6 hx
 rw [List.getElem?_eq_getElem h] at hx;cases hx
 exact (List.set_getElem_self h).symm
theorem nob_next {i:Nat} {W:List Int} (h:W=List.replicate i (-1)++List.replicate (127 - i) 0) (hi:i < 127):W.set i (-1)=List.replicate (i+1) (-1)++List.replicate (127 - (i+1)) 0:=by
 subst h
 rw [List.set_append_right _ _ (by simp)]
 simp only [List.length_replicate,Nat.sub_self]
 rw [show 127 - i=(127 - (i+1))+1 by omega,List.replicate_succ,List.set_cons_zero,List.replicate_succ',List.append_assoc];rfl
end Go.Rh

set_option maxHeartbeats 8000000
namespace Go.Rh
theorem spun127C {P:Program} [PrC P] (ns:List Int) (hl:ns.length≤1000):
    Env P "roundhouse/wheel.spun" [uv 127,sv 0 0 ns.length ns.length] ([cr (ii ns)]) (Ans (iv (za2 127 ns)) [cr (ii ns)]):=by
 refine Env.by2 PrC.wheel_spun ?_
 unfold zfe
 show GC _ 1 _ _ ⟨reg [(0,uv 127),(1,sv 0 0 ns.length ns.length)],[cr (ii ns)]⟩
 refine zJ (zN (o_d 1 [(4,iv 0)] (zE (zA (zJ (zN (o_d 2 [(6,sv 0 0 ns.length ns.length),(5,.agg #[uv 0,uv 0])] (qV (zdD (a1:= [.agg #[uv 0,uv 0],sv 0 0 ns.length ns.length]) [0] [ii ns] (wordsC 0 0 ns (by first | omega | decide | (simp;done))) rfl (fun _=>zQ (qN rfl) (zQ rfl rfl)) ⟨⟨_,rfl⟩,qS _,trivial⟩ rfl ?_)))))))))
 exact o_d 4 [(4,iv (i64.wrap ((zan 0 0 ns).tmod 127))),(10,iv (i64.wrap ((zan 0 0 ns).tmod 127))),(9,uv ((zan 0 0 ns).tmod 127)),(8,uv 127)] (zE (zA (qW (⟨trivial,⟨reg [(4,iv (i64.wrap ((zan 0 0 ns).tmod 127)))],[cr (ii ns)]⟩,Wk.ren [0] rfl rfl dC ⟨rfl,trivial⟩ ⟨.inl (zL (qS ns)),trivial⟩,[iv (i64.wrap ((zan 0 0 ns).tmod 127))],(zT rfl rfl),(zM rfl z5),(congrArg wg (spun_eq om)),rfl⟩))))
theorem spun126C {P:Program} [PrC P] (ns:List Int) (hl:ns.length≤1000):
    Env P "roundhouse/wheel.spun" [uv 126,sv 0 0 ns.length ns.length] ([cr (ii ns)]) (Ans (iv (za2 126 ns)) [cr (ii ns)]):=by
 refine Env.by2 PrC.wheel_spun ?_
 unfold zfe
 show GC _ 1 _ _ ⟨reg [(0,uv 126),(1,sv 0 0 ns.length ns.length)],[cr (ii ns)]⟩
 refine zJ (zN (o_d 1 [(4,iv 0)] (zE (zA (zJ (zN (o_d 2 [(6,sv 0 0 ns.length ns.length),(5,.agg #[uv 0,uv 0])] (qV (zdD (a1:= [.agg #[uv 0,uv 0],sv 0 0 ns.length ns.length]) [0] [ii ns] (wordsC 0 0 ns (by first | omega | decide | (simp;done))) rfl (fun _=>zQ (qN rfl) (zQ rfl rfl)) ⟨⟨_,rfl⟩,qS _,trivial⟩ rfl ?_)))))))))
 exact o_d 4 [(4,iv (i64.wrap ((zan 0 0 ns).tmod 126))),(10,iv (i64.wrap ((zan 0 0 ns).tmod 126))),(9,uv ((zan 0 0 ns).tmod 126)),(8,uv 126)] (zE (zA (qW (⟨trivial,⟨reg [(4,iv (i64.wrap ((zan 0 0 ns).tmod 126)))],[cr (ii ns)]⟩,Wk.ren [0] rfl rfl dC ⟨rfl,trivial⟩ ⟨.inl (zL (qS ns)),trivial⟩,[iv (i64.wrap ((zan 0 0 ns).tmod 126))],(zT rfl rfl),(zM rfl z5),(congrArg wg (spun_eq om)),rfl⟩))))
abbrev wL a (b:qZ) (c:Nat):=[a,b (3+5*c+1),b (3+5*c+2)]
abbrev yI a (b:qZ) (c:Nat):=[iv a,iv (b (3+5*c+1)),iv (b (3+5*c+2))]
abbrev vJ (a:qZ) b c d:=[cw (pl a),cw (ii b),slB zWl (za4 wlF c) d]
abbrev xB a b c d:=[(9,iv (a:Int)),(56,iv (a:Int)),(55,iv (b:Nat)),(8,iv c),(5,slV 2 b d),(3,pv 1 0)]
abbrev xR (a:qZ) b c d e f:=cw (pl a)::cw (ii b)::slB zWl (za4 wlF c) d::cw (wj a e)::cw (yI 1 a e)::f
theorem makeWC {P:Program} [PrC P] (p:qZ):
    Env P "roundhouse/wheel.Make" [zaw p] ([]) (fun v h'=> ∃m,v=slV 0 127 (some m)∧h'= [slB zI (ii (zZ p)) (some m)]):=by
 refine Env.by2 PrC.wheel_Make ?_
 unfold zhh
 show GC _ 0 _ _ ⟨reg [(0,zaw p)],[]⟩
 refine zJ (zN (o_b 2 [(2,.slice none 0 0),(1,pv 0 0)] [cw (pl p)] (zE (zA (gscp (fun _ _=>False) ?_ (fun _ _ q=>q.elim))))))
 refine zJ (zN (o_b 1 [(3,pv 1 0)] [cw (pl p),cw (ii (List.replicate 127 0))] (zE (zA (zJ (zJ (zN (o_d 1 [(11,iv 0)] (zE (zA (qU (zcs (fun μ s=> ∃(i0:Nat),∃(W0:List Int),μ=127 - i0∧(i0≤127)∧(W0=List.replicate i0 (-1)++List.replicate (127 - i0) 0)∧(W0.length=127)∧s=⟨reg [(11,iv (i0:Int)),(3,pv 1 0),(1,pv 0 0)],[cw (pl p),cw (ii W0)]⟩) ⟨(127 - 0), ?_⟩ ?_))))))))))))
 ·skip
  refine ⟨⟨reg [(11,iv (0:Int)),(3,pv 1 0),(1,pv 0 0)],[cw (pl p),cw (ii (List.replicate 127 0))]⟩, ?_⟩
  refine ⟨?_, ?_⟩
  ·exact Wk.ren [0,1] rfl rfl dC ⟨rfl,rfl,rfl,trivial⟩ ⟨.inl (zL (zae p)),.inl (zL (qS (List.replicate 127 0))),trivial⟩
  ·exact ⟨0,(List.replicate 127 0),rfl,om,rfl,(List.length_replicate ..),rfl⟩
 rintro μ s ⟨i0,W0,rfl,hi0,hW0,hwl,rfl⟩
 refine zJ (zN (o_d 1 [(12,bv (decide ((i0:Int) < 127)))] (zE (zA (zJ (qJ (t:=decide ((i0:Int) < 127)) rfl (fun h1=>?_) (fun h1=>?_)))))))
 ·skip
  have h1':(i0:Int) < 127:=of_decide_eq_true h1
  refine qK (zA (zJ (qU (zJ (zN (o_d 2 [(4,iv (i0:Int)),(13,iv (i0:Int))] (zE (zA (zN (o_d 1 [(14,iv (i0:Int))] (o_s (by exact zaA (o:=0) (o':=i0) rfl rfl om om) ?_)))))))))))
  refine zdj (by refine zao (c':=ii (W0.set i0 (-1))) rfl rfl rfl ?_ ?_ ?_;exact rfl;exact (by rw [zaz,hwl];omega);exact ii_w (i:=i0) rfl (by rw [hwl];omega)) ?_
  refine zE (zA (zN (o_s (by refine zK (v:= .int .i64 (i64.wrap ((i0:Int)+1))) (congrArg wg (w64 om om)) ?_;kernel_rfl) ?_)))
  refine o_d 1 [(11,iv ((i0:Int)+1))] (zE (⟨127 - (i0+1), ?_⟩))
  refine ⟨⟨reg [(11,iv ((i0+1):Int)),(3,pv 1 0),(1,pv 0 0)],[cw (pl p),cw (ii (W0.set i0 (-1)))]⟩, ?_⟩
  refine zde om ⟨?_, ?_⟩
  ·exact Wk.ren [0,1] rfl rfl dC ⟨rfl,rfl,rfl,trivial⟩ ⟨.inl (zL (zae p)),.inl (zL (qS (W0.set i0 (-1)))),trivial⟩
  ·exact ⟨(i0+1),(W0.set i0 (-1)),rfl,om,(nob_next hW0 om),((List.length_set ..).trans hwl),rfl⟩
 have h1': ¬((i0:Int) < 127):=of_decide_eq_false h1
 refine zb1 (zA (zJ (zN (o_d 1 [(5,.slice none 0 0)] (zE (zA (zJ (zJ (zN (o_d 1 [(17,pv 0 3)] (o_s (by refine zV (v:=zfE p) rfl rfl ?_;exact pl_rA p) ?_)))))))))))
 refine o_d 1 [(19,iv 0)] (zE (zA (qU (zcs (fun μ s=> ∃(i:Nat),∃(l1:List Wl),∃(n1:Nat),∃(o1:Option Nat),μ=64 - i∧(i≤64)∧(l1=zbw p i)∧(n1=l1.length∧n1≤i)∧(o1=none→n1=0)∧s=⟨reg [(19,iv (i:Int)),(18,zfE p),(5,slV 2 n1 o1),(3,pv 1 0)],(vJ p W0 l1 o1)⟩) ⟨(64 - 0), ?_⟩ ?_))))
 ·skip
  refine ⟨⟨reg [(19,iv (0:Int)),(18,zfE p),(5,slV 2 0 none),(3,pv 1 0)],[cw (pl p),cw (ii W0),slB zWl (za4 wlF ([]:List Wl)) none]⟩, ?_⟩
  refine ⟨?_, ?_⟩
  ·exact Wk.ren [0,1,4] rfl rfl dC ⟨rfl,((qN (zfn p))).trans rfl,rfl,rfl,trivial⟩ ⟨.inl (zL (zae p)),.inl (zL (qS W0)),.inr ⟨rfl,rfl⟩,trivial⟩
  ·exact ⟨0,([]:List Wl),0,none,rfl,om,rfl,⟨rfl,om⟩,(fun _=>rfl),rfl⟩
 rintro μ s ⟨i,l1,n1,o1,rfl,hi,hl1,hn1,ho1,rfl⟩
 refine zJ (zN (o_d 1 [(20,bv (decide ((i:Int) < 64)))] (zE (zA (zJ (qJ (t:=decide ((i:Int) < 64)) rfl (fun h2=>?_) (fun h2=>?_)))))))
 ·skip
  have h2':(i:Int) < 64:=of_decide_eq_true h2
  refine qK (zA (zJ (qU (zJ (zN (o_d 1 [(21,iv (i:Int))] (o_s (by refine run_ixA (v:= .agg (vz p i)) (o:=5*i) rfl rfl om om ?_;exact slots_r p i om om) ?_)))))))
  refine o_b 3 [(6,iv (i:Int)),(7,pv 3 0)] [cw (pl p),cw (ii W0),slB zWl (za4 wlF l1) o1,cw (wj p i)] (zE (zA (zJ (zN (o_d 3 [(25,bv ((p (3+5*i))==2)),(24,iv (p (3+5*i))),(23,pv 3 0)] (zE (zA (qJ (t:=(p (3+5*i))==2) rfl (fun h3=>?_) (fun h3=>?_)))))))))
  ·skip
   have h3':p (3+5*i)=2:=zaQ h3
   refine zeE [cw (pl p),cw (ii W0),slB zWl (za4 wlF l1) o1,cw (wj p i),.gone,.gone,.gone] (by kernel_rfl) (d_n 7 7 5 [(32,sv 4 0 3 3),(31,iv (p (3+5*i+2))),(30,pv 3 2),(29,iv (p (3+5*i+1))),(28,pv 3 1),(27,iv (i:Int)),(26,slV 2 n1 o1)] (xR p W0 l1 o1 i [.gone,.gone]) [⟨6,[],[4],none⟩,⟨5,[3],[],none⟩,⟨3,[3],[],none⟩] (by kernel_rfl) rfl rfl ?_)
   have hsp127:=zdG (m:=127) (ns:= (wL 1 p i)) dC
   refine d_clG [4] [cr (yI 1 p i)] [uv 127,sv 0 0 3 3] (spun127C (wL 1 p i) (by simp)) rfl rfl ⟨⟨_,rfl,zaC rfl (fun q=>rfl)⟩,trivial⟩ dC ⟨_,_,⟨rfl,rfl⟩,Nat.le_refl _,zbD [_] []⟩ ?_ (by kernel_rfl)
   rintro v1 h1' ⟨rfl,rfl⟩
   refine ⟨iv (za2 127 (wL 1 p i)),(xR p W0 l1 o1 i [.gone,.gone]),[],rfl,⟨rfl,rfl,rfl,rfl,rfl,rfl,rfl,trivial⟩,trivial, ?_⟩
   refine d_n 5 13 6 [(38,sv 5 0 3 3),(37,iv (p (3+5*i+2))),(36,pv 3 2),(35,iv (p (3+5*i+1))),(34,pv 3 1)] (xR p W0 l1 o1 i [cw (yI 2 p i),.gone]) [⟨12,[],[5],none⟩,⟨11,[3],[],none⟩,⟨9,[3],[],none⟩,⟨7,[4],[],some 7⟩,⟨6,[],[4],none⟩,⟨5,[3],[],none⟩,⟨3,[3],[],none⟩] (by kernel_rfl) rfl rfl ?_
   have hsp126:=zdG (m:=126) (ns:= (wL 2 p i)) dC
   refine d_clG [5] [cr (yI 2 p i)] [uv 126,sv 0 0 3 3] (spun126C (wL 2 p i) (by simp)) rfl rfl ⟨⟨_,rfl,zaC rfl (fun q=>rfl)⟩,trivial⟩ dC ⟨_,_,⟨rfl,rfl⟩,Nat.le_refl _,zbD [_] []⟩ ?_ (by kernel_rfl)
   rintro v1 h1' ⟨rfl,rfl⟩
   refine ⟨iv (za2 126 (wL 2 p i)),(xR p W0 l1 o1 i [cw (yI 2 p i),.gone]),[],rfl,⟨rfl,rfl,rfl,rfl,rfl,rfl,rfl,trivial⟩,trivial, ?_⟩
   refine d_s rfl rfl rfl (by kernel_rfl) (by refine zK (v:= .int .i64 (i64.wrap (1+za2 126 (wL 2 p i)))) (congrArg wg (w64 om om)) ?_;kernel_rfl) ?_
   refine d_n 6 21 7 [(46,sv 6 0 1 1),(45,.agg #[iv (i:Int),iv (za2 127 (wL 1 p i)),iv (1+za2 126 (wL 2 p i)),iv (if (8:Int) < (if (1:Int) > p (3+5*i+3) then (1:Int) else p (3+5*i+3)) then (8:Int) else (if (1:Int) > p (3+5*i+3) then (1:Int) else p (3+5*i+3)))]),(44,iv (if (8:Int) < (if (1:Int) > p (3+5*i+3) then (1:Int) else p (3+5*i+3)) then (8:Int) else (if (1:Int) > p (3+5*i+3) then (1:Int) else p (3+5*i+3)))),(43,iv (if (1:Int) > p (3+5*i+3) then (1:Int) else p (3+5*i+3))),(42,iv (p (3+5*i+3))),(41,pv 3 3)] (xR p W0 l1 o1 i [cw (yI 2 p i),cw [iv (i:Int),iv (za2 127 (wL 1 p i)),iv (1+za2 126 (wL 2 p i)),iv (if (8:Int) < (if (1:Int) > p (3+5*i+3) then (1:Int) else p (3+5*i+3)) then (8:Int) else (if (1:Int) > p (3+5*i+3) then (1:Int) else p (3+5*i+3)))]]) [⟨20,[],[6],none⟩,⟨16,[3],[],none⟩,⟨13,[5],[],some 7⟩,⟨12,[],[5],none⟩,⟨11,[3],[],none⟩,⟨9,[3],[],none⟩,⟨7,[4],[],some 7⟩,⟨6,[],[4],none⟩,⟨5,[3],[],none⟩,⟨3,[3],[],none⟩] (by kernel_rfl) rfl rfl (d_appC (k:=2) (n:=n1) (o:=o1) (q:=1) (cs:=za4 wlF l1) (xs:= [iv (i:Int),iv (za2 127 (wL 1 p i)),iv (1+za2 126 (wL 2 p i)),iv (if (8:Int) < (if (1:Int) > p (3+5*i+3) then (1:Int) else p (3+5*i+3)) then (8:Int) else (if (1:Int) > p (3+5*i+3) then (1:Int) else p (3+5*i+3)))]) (cs2:=za4 wlF (l1++ [(Wl.mk (i:Int) (za2 127 [1,p (3+5*i+1),p (3+5*i+2)]) (1+za2 126 [2,p (3+5*i+1),p (3+5*i+2)]) (if (8:Int) < (if (1:Int) > p (3+5*i+3) then (1:Int) else p (3+5*i+3)) then (8:Int) else (if (1:Int) > p (3+5*i+3) then (1:Int) else p (3+5*i+3))))])) (zl:=zWl) rfl rfl rfl (fun m q=>by subst q;rfl) (fun z=>by have h0:=ho1 z;have h1:l1= []:=List.eq_nil_of_length_eq_zero om;subst h1;exact ⟨h0,rfl⟩) (by rw [zb0 zer];first | omega | (simp;try omega)) rfl rfl (zbF rfl rfl (by simp)) (by rfl) om om (wl_app1 l1 (i:Int) (za2 127 (wL 1 p i)) (1+za2 126 (wL 2 p i)) (if (8:Int) < (if (1:Int) > p (3+5*i+3) then (1:Int) else p (3+5*i+3)) then (8:Int) else (if (1:Int) > p (3+5*i+3) then (1:Int) else p (3+5*i+3)))) (fun m4 e5=>?_) (fun m4=>?_))
   ·skip
    subst e5
    refine d_n 1 23 7 [(5,sv 2 0 (n1+1) (n1+1+m4))] [cw (pl p),cw (ii W0),cw (za4 wlF (l1++ [(Wl.mk (i:Int) (za2 127 [1,p (3+5*i+1),p (3+5*i+2)]) (1+za2 126 [2,p (3+5*i+1),p (3+5*i+2)]) (if (8:Int) < (if (1:Int) > p (3+5*i+3) then (1:Int) else p (3+5*i+3)) then (8:Int) else (if (1:Int) > p (3+5*i+3) then (1:Int) else p (3+5*i+3))))])++zaj zWl m4),cw (wj p i),cw (yI 1 p i),cw (yI 2 p i),cw [iv (i:Int),iv (za2 127 (wL 1 p i)),iv (1+za2 126 (wL 2 p i)),iv (if (8:Int) < (if (1:Int) > p (3+5*i+3) then (1:Int) else p (3+5*i+3)) then (8:Int) else (if (1:Int) > p (3+5*i+3) then (1:Int) else p (3+5*i+3)))]] [⟨20,[],[6],none⟩,⟨16,[3],[],none⟩,⟨13,[5],[],some 7⟩,⟨12,[],[5],none⟩,⟨11,[3],[],none⟩,⟨9,[3],[],none⟩,⟨7,[4],[],some 7⟩,⟨6,[],[4],none⟩,⟨5,[3],[],none⟩,⟨3,[3],[],none⟩] (by kernel_rfl) rfl rfl (zgp (zU [(5,sv 2 0 (n1+1) (n1+1+m4)),(19,iv (i:Int)),(18,zfE p),(3,pv 1 0)] (zN (o_s (by refine zK (v:= .int .i64 (i64.wrap ((i:Int)+1))) (congrArg wg (w64 om om)) ?_;kernel_rfl) ?_))))
    refine o_d 1 [(19,iv ((i:Int)+1))] (zE (⟨64 - (i+1), ?_⟩))
    refine ⟨⟨reg [(19,iv ((i+1):Int)),(18,zfE p),(5,slV 2 (n1+1) (some m4)),(3,pv 1 0)],[cw (pl p),cw (ii W0),slB zWl (za4 wlF (l1++ [(Wl.mk (i:Int) (za2 127 [1,p (3+5*i+1),p (3+5*i+2)]) (1+za2 126 [2,p (3+5*i+1),p (3+5*i+2)]) (if (8:Int) < (if (1:Int) > p (3+5*i+3) then (1:Int) else p (3+5*i+3)) then (8:Int) else (if (1:Int) > p (3+5*i+3) then (1:Int) else p (3+5*i+3))))])) (some m4)]⟩, ?_⟩
    refine zde om ⟨?_, ?_⟩
    ·exact Wk.ren [0,1,2] rfl rfl dC ⟨rfl,((qN (zfn p))).trans rfl,rfl,rfl,trivial⟩ ⟨.inl (zL (zae p)),.inl (zL (qS W0)),.inl (zL (zcM _ _)),trivial⟩
    ·exact ⟨(i+1),(l1++ [(Wl.mk (i:Int) (za2 127 [1,p (3+5*i+1),p (3+5*i+2)]) (1+za2 126 [2,p (3+5*i+1),p (3+5*i+2)]) (if (8:Int) < (if (1:Int) > p (3+5*i+3) then (1:Int) else p (3+5*i+3)) then (8:Int) else (if (1:Int) > p (3+5*i+3) then (1:Int) else p (3+5*i+3))))]),(n1+1),(some m4),rfl,om,(by rw [hl1];simp only [zbw];rw [if_pos (show p (3+5*i)=2 by assumption)];rfl),(by simp only [List.length_append,List.length_singleton];omega),(fun z=>by cases z),rfl⟩
   refine d_n 1 23 7 [(5,sv 7 0 (n1+1) (n1+1+m4))] (xR p W0 l1 o1 i [cw (yI 2 p i),cw [iv (i:Int),iv (za2 127 (wL 1 p i)),iv (1+za2 126 (wL 2 p i)),iv (if (8:Int) < (if (1:Int) > p (3+5*i+3) then (1:Int) else p (3+5*i+3)) then (8:Int) else (if (1:Int) > p (3+5*i+3) then (1:Int) else p (3+5*i+3)))],cw (za4 wlF (l1++ [(Wl.mk (i:Int) (za2 127 [1,p (3+5*i+1),p (3+5*i+2)]) (1+za2 126 [2,p (3+5*i+1),p (3+5*i+2)]) (if (8:Int) < (if (1:Int) > p (3+5*i+3) then (1:Int) else p (3+5*i+3)) then (8:Int) else (if (1:Int) > p (3+5*i+3) then (1:Int) else p (3+5*i+3))))])++zaj zWl m4)]) [⟨20,[],[6],none⟩,⟨16,[3],[],none⟩,⟨13,[5],[],some 7⟩,⟨12,[],[5],none⟩,⟨11,[3],[],none⟩,⟨9,[3],[],none⟩,⟨7,[4],[],some 7⟩,⟨6,[],[4],none⟩,⟨5,[3],[],none⟩,⟨3,[3],[],none⟩] (by kernel_rfl) rfl rfl (zgp (zU [(5,sv 7 0 (n1+1) (n1+1+m4)),(19,iv (i:Int)),(18,zfE p),(3,pv 1 0)] (zN (o_s (by refine zK (v:= .int .i64 (i64.wrap ((i:Int)+1))) (congrArg wg (w64 om om)) ?_;kernel_rfl) ?_))))
   refine o_d 1 [(19,iv ((i:Int)+1))] (zE (⟨64 - (i+1), ?_⟩))
   refine ⟨⟨reg [(19,iv ((i+1):Int)),(18,zfE p),(5,slV 2 (n1+1) (some m4)),(3,pv 1 0)],[cw (pl p),cw (ii W0),slB zWl (za4 wlF (l1++ [(Wl.mk (i:Int) (za2 127 [1,p (3+5*i+1),p (3+5*i+2)]) (1+za2 126 [2,p (3+5*i+1),p (3+5*i+2)]) (if (8:Int) < (if (1:Int) > p (3+5*i+3) then (1:Int) else p (3+5*i+3)) then (8:Int) else (if (1:Int) > p (3+5*i+3) then (1:Int) else p (3+5*i+3))))])) (some m4)]⟩, ?_⟩
   refine zde om ⟨?_, ?_⟩
   ·exact Wk.ren [0,1,7] rfl rfl dC ⟨rfl,((qN (zfn p))).trans rfl,rfl,rfl,trivial⟩ ⟨.inl (zL (zae p)),.inl (zL (qS W0)),.inl (zL (zcM _ _)),trivial⟩
   ·exact ⟨(i+1),(l1++ [(Wl.mk (i:Int) (za2 127 [1,p (3+5*i+1),p (3+5*i+2)]) (1+za2 126 [2,p (3+5*i+1),p (3+5*i+2)]) (if (8:Int) < (if (1:Int) > p (3+5*i+3) then (1:Int) else p (3+5*i+3)) then (8:Int) else (if (1:Int) > p (3+5*i+3) then (1:Int) else p (3+5*i+3))))]),(n1+1),(some m4),rfl,om,(by rw [hl1];simp only [zbw];rw [if_pos (show p (3+5*i)=2 by assumption)];rfl),(by simp only [List.length_append,List.length_singleton];omega),(fun z=>by cases z),rfl⟩
  have h3': ¬(p (3+5*i)=2):=zaR h3
  refine qK (zA (zN (o_s (by refine zK (v:= .int .i64 (i64.wrap ((i:Int)+1))) (congrArg wg (w64 om om)) ?_;kernel_rfl) ?_)))
  refine o_d 1 [(19,iv ((i:Int)+1))] (zE (⟨64 - (i+1), ?_⟩))
  refine ⟨⟨reg [(19,iv ((i+1):Int)),(18,zfE p),(5,slV 2 n1 o1),(3,pv 1 0)],(vJ p W0 l1 o1)⟩, ?_⟩
  refine zde om ⟨?_, ?_⟩
  ·exact Wk.ren [0,1,2] rfl rfl dC ⟨rfl,((qN (zfn p))).trans rfl,((zbz o1 rfl)).trans rfl,rfl,trivial⟩ ⟨.inl (zL (zae p)),.inl (zL (qS W0)),.inl (zaa o1 (fun _=>(zcM _ _))),trivial⟩
  ·exact ⟨(i+1),l1,n1,o1,rfl,om,(by rw [hl1];simp only [zbw];rw [if_neg (show¬p (3+5*i)=2 by assumption)]),om,ho1,rfl⟩
 have h2': ¬((i:Int) < 64):=of_decide_eq_false h2
 refine zb1 (zA (zJ (zN (o_d 1 [(8,iv 127)] (zE (zA (zf2 (fun s=> ∃(f0:Int),0=0∧(f0=if n1=0 then 0 else 127)∧s=⟨reg [(8,iv f0),(5,slV 2 n1 o1),(3,pv 1 0)],(vJ p W0 l1 o1)⟩) ?_ ?_)))))))
 ·skip
  refine zJ (zN (o_d 1 [(49,slV 2 n1 o1)] (o_s (by exact zgc rfl ho1) ?_)))
  refine o_d 1 [(51,bv (((n1:Nat):Int)==0))] (zE (zA (qJ (t:=((n1:Nat):Int)==0) rfl (fun h6=>?_) (fun h6=>?_))))
  ·skip
   have h6':((n1:Nat):Int)=0:=zaQ h6
   refine zN (o_d 1 [(8,iv 0)] (zE (⟨⟨reg [(8,iv 0),(5,slV 2 n1 o1),(3,pv 1 0)],(vJ p W0 l1 o1)⟩, ?_⟩)))
   refine ⟨?_, ?_⟩
   ·exact Wk.ren [0,1,2] rfl rfl dC ⟨rfl,((zbz o1 rfl)).trans rfl,rfl,trivial⟩ ⟨.inl (zL (zae p)),.inl (zL (qS W0)),.inl (zaa o1 (fun _=>(zcM _ _))),trivial⟩
   ·exact ⟨0,rfl,(by first | (rw [if_pos om];done) | (rw [if_neg om];done)),rfl⟩
  have h6': ¬(((n1:Nat):Int)=0):=zaR h6
  refine qK (⟨⟨reg [(8,iv 127),(5,slV 2 n1 o1),(3,pv 1 0)],(vJ p W0 l1 o1)⟩, ?_⟩)
  refine ⟨?_, ?_⟩
  ·exact Wk.ren [0,1,2] rfl rfl dC ⟨rfl,((zbz o1 rfl)).trans rfl,rfl,trivial⟩ ⟨.inl (zL (zae p)),.inl (zL (qS W0)),.inl (zaa o1 (fun _=>(zcM _ _))),trivial⟩
  ·exact ⟨127,rfl,(by first | (rw [if_pos om];done) | (rw [if_neg om];done)),rfl⟩
 rintro s ⟨f0,-,hf0,rfl⟩
 have hi64:i=64:=om
 have hW9:W0=zeA:=by rw [hW0,show i0=127 by omega];rfl
 obtain ⟨L0,hL0⟩: ∃z,z=zbw p 64:=⟨_,rfl⟩
 have hok0:WOk L0 W0 l1:=by rw [hl1,hW9,hi64,hL0];exact WOk.init (wlks_ok p (Nat.le_refl _))
 have hS0:(W0,l1)=zbg L0 0:=by rw [hl1,hW9,hi64,hL0];rfl
 have hlen:L0.length=n1:=by rw [hn1.1,hl1,hi64,hL0]
 refine zJ (glabel (zA (zJ (qU (zcs (fun μ s=> ∃(r:Nat),∃(W:List Int),∃(l:List Wl),∃(f:Int),μ=f.toNat∧(WOk L0 W l)∧((W,l)=zbg L0 r)∧(f=if L0.length=0 then 0 else ((zc9 W:Nat):Int))∧(f+r≤127)∧s=⟨reg [(8,iv f),(5,slV 2 n1 o1),(3,pv 1 0)],(vJ p W l o1)⟩) ⟨f0.toNat, ?_⟩ ?_)))))
 ·skip
  refine ⟨⟨reg [(8,iv f0),(5,slV 2 n1 o1),(3,pv 1 0)],(vJ p W0 l1 o1)⟩, ?_⟩
  refine ⟨?_, ?_⟩
  ·exact Wk.ren [0,1,2] rfl rfl dC ⟨rfl,((zbz o1 rfl)).trans rfl,rfl,trivial⟩ ⟨.inl (zL (zae p)),.inl (zL (qS W0)),.inl (zaa o1 (fun _=>(zcM _ _))),trivial⟩
  ·exact ⟨0,W0,l1,f0,rfl,hok0,hS0,(by rw [hf0,hlen,hW9];rfl),(by rw [hf0];split<;>omega),rfl⟩
 rintro μ s ⟨r,W,l,f,rfl,hok,hS,hf,hr,rfl⟩
 refine zJ (zJ (zN (o_d 2 [(53,bv (decide (f > 0))),(52,iv f)] (zE (zA (qJ (t:=decide (f > 0)) rfl (fun h7=>?_) (fun h7=>?_)))))))
 ·skip
  have h7':f > 0:=of_decide_eq_true h7
  refine qK (zA (qU (zJ (zN (o_d 1 [(54,slV 2 n1 o1)] (o_s (by exact zgc rfl ho1) ?_))))))
  refine o_d 1 [(56,iv 0)] (zE (zA (qU (zcs (fun μ s=> ∃(k:Nat),∃(Wq:List Int),∃(lk:List Wl),∃(fk:Int),μ=n1 - k∧(k≤n1)∧(WOk L0 Wq lk)∧((Wq,lk)=zcY L0 (zbg L0 r) k)∧(fk=((zc9 Wq:Nat):Int)∧fk≤f∧(1≤k→fk < f))∧s=⟨reg [(56,iv (k:Int)),(55,iv (n1:Nat)),(8,iv fk),(5,slV 2 n1 o1),(3,pv 1 0)],(vJ p Wq lk o1)⟩) ⟨(n1 - 0), ?_⟩ ?_))))
  ·skip
   refine ⟨⟨reg [(56,iv (0:Int)),(55,iv (n1:Nat)),(8,iv f),(5,slV 2 n1 o1),(3,pv 1 0)],(vJ p W l o1)⟩, ?_⟩
   refine ⟨?_, ?_⟩
   ·exact Wk.ren [0,1,2] rfl rfl dC ⟨rfl,rfl,rfl,((zbz o1 rfl)).trans rfl,rfl,trivial⟩ ⟨.inl (zL (zae p)),.inl (zL (qS W)),.inl (zaa o1 (fun _=>(zcM _ _))),trivial⟩
   ·exact ⟨0,W,l,f,rfl,om,hok,hS,(by rw [if_neg om] at hf;omega),rfl⟩
  rintro μ s ⟨k,Wq,lk,fk,rfl,hk,hokk,hSk,hfk,rfl⟩
  refine zJ (zN (o_d 1 [(57,bv (decide ((k:Int) < (n1:Nat))))] (zE (zA (zJ (qJ (t:=decide ((k:Int) < (n1:Nat))) rfl (fun h8=>?_) (fun h8=>?_)))))))
  ·skip
   have h8':(k:Int) < (n1:Nat):=of_decide_eq_true h8
   have hl0:=hokk.len
   have hb1:k < lk.length:=om
   refine (zeh hb1).elim fun x0 hx0q=>?_
   have hx0:=hx0q.1
   have hq1:=hokk.at_ hx0
   have hx0ok:=hq1.1
   have hx0w:=hq1.2
   have hx0b:=hx0ok.w
   refine qK (zA (zJ (qU (zJ (zN (o_d 2 [(9,iv (k:Int)),(58,iv (k:Int))] (zE (zA (zJ (zN (o_d 2 [(60,iv (k:Int)),(59,slV 2 n1 o1)] (o_s (by exact zds (o':=4*k) rfl ho1 rfl om om) ?_))))))))))))
   refine o_s (by refine zci (o':=3+4*k) rfl om) ?_
   refine o_s (by refine zV (v:=iv x0.w) rfl (hf_sl (n:=n1) rfl ho1 om) ?_;exact zcQ (rec_r (m:=none) zer (i:=k) (j:=3) om hx0 rfl)) ?_
   refine o_d 1 [(64,iv 0)] (zE (zA (qU (zcs (fun μ s=> ∃(t:Nat),∃(Wt:List Int),∃(lt:List Wl),∃(ft:Int),μ=x0.w.toNat - t∧((t:Int)≤x0.w)∧(WOk L0 Wt lt)∧((Wt,lt)=itr (zcH k) t (zcY L0 (zbg L0 r) k))∧(ft=((zc9 Wt:Nat):Int)∧ft≤fk∧(1≤t→ft < fk))∧s=⟨reg ((64,iv (t:Int))::(63,iv x0.w)::(xB k n1 ft o1)),(vJ p Wt lt o1)⟩) ⟨(x0.w.toNat - 0), ?_⟩ ?_))))
   ·skip
    refine ⟨⟨reg ((64,iv (0:Int))::(63,iv x0.w)::(xB k n1 fk o1)),(vJ p Wq lk o1)⟩, ?_⟩
    refine ⟨?_, ?_⟩
    ·exact Wk.ren [0,1,2] rfl rfl dC ⟨rfl,rfl,rfl,rfl,rfl,rfl,((zbz o1 rfl)).trans rfl,rfl,trivial⟩ ⟨.inl (zL (zae p)),.inl (zL (qS Wq)),.inl (zaa o1 (fun _=>(zcM _ _))),trivial⟩
    ·exact ⟨0,Wq,lk,fk,rfl,om,hokk,hSk,om,rfl⟩
   rintro μ s ⟨t,Wt,lt,ft,rfl,ht,hokt,hSt,hft,rfl⟩
   refine zJ (zN (o_d 1 [(65,bv (decide ((t:Int) < x0.w)))] (zE (zA (zJ (qJ (t:=decide ((t:Int) < x0.w)) rfl (fun h9=>?_) (fun h9=>?_)))))))
   ·skip
    have h9':(t:Int) < x0.w:=of_decide_eq_true h9
    refine qK (zA (zJ (qU (zJ (zJ (zN (o_d 2 [(67,bv (ft==0)),(66,iv ft)] (zE (zA (qJ (t:=ft==0) rfl (fun h10=>?_) (fun h10=>?_)))))))))))
    ·skip
     have h10':ft=0:=zaQ h10
     refine zb1 (zA (zJ (zN (o_d 1 [(111,sv 1 0 127 127)] (zef (k:=0) (n:=0) (o:=none) (q:=127) (cs:=ii ([]:List Int)) (xs:=ii Wt) (cs2:=ii Wt) (zl:=zI) rfl rfl rfl (fun m q=>by cases q) (fun _=>⟨rfl,rfl⟩) (by first | exact ii_len1 _ | (rw [zaz];omega) | simp [ii]) rfl rfl (zbF rfl (by rw [List.drop_zero];exact List.take_of_length_le (by rw [zaz,hokt.wl];omega)) (by rw [zaz,hokt.wl];omega)) (by rw [zaz,hokt.wl]) om om rfl (fun m11 e12=>?_) (fun m11=>?_))))))
     ·cases e12
     refine o_d 1 [(2,sv 3 0 127 (127+m11))] (zE (zA (qW ?_)))
     have hW9:Wt=zZ p:=by rw [zZ,←hL0];exact (fin_b hSt om om hft.1 om om)
     exact ⟨trivial,⟨reg [(2,sv 0 0 127 (127+m11))],[cw (ii Wt++zaj zI m11)]⟩,Wk.ren [3] rfl rfl dC ⟨rfl,trivial⟩ ⟨.inl (zL (zaq Wt m11)),trivial⟩,[sv 0 0 127 (127+m11)],(zT rfl rfl),(zM rfl z5),m11,rfl,(by rw [←hW9];rfl)⟩
    have h10': ¬(ft=0):=zaR h10
    have hlt0:=hokt.len
    have hb2:k < lt.length:=om
    refine (zeh hb2).elim fun x hxq=>?_
    have hx:=hxq.1
    have hq2:=hokt.at_ hx
    have hxok:=hq2.1
    have hxw:=hq2.2
    have hxs:=hxok.s
    have hxb:=hxok.b
    have hb3:zc9 Wt≠0:=om
    refine (found hokt.wl hb3 hxok.a hxok.b).elim fun n hnq=>?_
    have hn:=hnq.1
    have hn2:=hnq.2.1
    have hn3:=hnq.2.2.1
    have hp:=hnq.2.2.2
    refine qK (zA (zJ (zN (o_s (by refine zV (v:= .agg ⟨ii Wt⟩) rfl rfl ?_;exact ii_all hokt.wl) ?_))))
    refine o_b 1 [(10,pv 3 0)] [cw (pl p),cw (ii Wt),slB zWl (za4 wlF lt) o1,cw (ii (List.replicate 127 0))] (zdj (by refine zao (c':=ii Wt) rfl rfl rfl ?_ ?_ ?_;exact (by show (ii Wt).length=127;rw [zaz,hokt.wl]);exact (by rw [zaz,(List.length_replicate ..)];omega);exact zgH (vs:=ii Wt) (c:=ii (List.replicate 127 0)) (by rw [zaz,zaz,hokt.wl,(List.length_replicate ..)])) ?_)
    refine zE (zA (zJ (qU (zcs (fun μ s=> ∃(m:Nat),∃(lm:List Wl),μ=n - m∧(m≤n)∧(lm=lt.set k ⟨x.s,zbs x.a x.b m,x.b,x.w⟩)∧(WOk L0 Wt lm)∧s=⟨reg ((10,pv 3 0)::(64,iv (t:Int))::(63,iv x0.w)::(xB k n1 ft o1)),[cw (pl p),cw (ii Wt),slB zWl (za4 wlF lm) o1,cw (ii Wt)]⟩) ⟨(n - 0), ?_⟩ ?_))))
    ·skip
     refine ⟨⟨reg ((10,pv 3 0)::(64,iv (t:Int))::(63,iv x0.w)::(xB k n1 ft o1)),[cw (pl p),cw (ii Wt),slB zWl (za4 wlF lt) o1,cw (ii Wt)]⟩, ?_⟩
     refine ⟨?_, ?_⟩
     ·exact Wk.ren [0,1,2,3] rfl rfl dC ⟨rfl,rfl,rfl,rfl,rfl,rfl,rfl,((zbz o1 rfl)).trans rfl,rfl,trivial⟩ ⟨.inl (zL (zae p)),.inl (zL (qS Wt)),.inl (zaa o1 (fun _=>(zcM _ _))),.inl (zL (qS Wt)),trivial⟩
     ·exact ⟨0,lt,rfl,(Nat.zero_le _),(set_id hx hxok.a),hokt,rfl⟩
    rintro μ s ⟨m,lm,rfl,hm,hlm,hokm,rfl⟩
    have hwr:=zf3 x.a x.b m
    have hlt:=hokm.len
    have hx2:lm[k]? =some ⟨x.s,zbs x.a x.b m,x.b,x.w⟩:=by rw [hlm,List.getElem?_set_self om]
    refine zJ (zJ (zN (o_d 2 [(70,iv (k:Int)),(69,slV 2 n1 o1)] (o_s (by exact zds (o':=4*k) rfl ho1 rfl om om) ?_))))
    refine o_s (by refine zci (o':=1+4*k) rfl om) ?_
    refine o_s (by refine zV (v:=iv (zbs x.a x.b m)) rfl (hf_sl (n:=n1) rfl ho1 om) ?_;exact zcQ (rec_r (m:=none) zer (i:=k) (j:=1) om hx2 rfl)) ?_
    refine o_s (by exact zaA (o:=0) (o':=((zbs x.a x.b m).toNat)) rfl rfl om om) ?_
    refine o_s (by refine zV (v:=iv (Wt.getD ((zbs x.a x.b m).toNat) 0)) rfl rfl ?_;exact ii_g (i:=((zbs x.a x.b m).toNat)) rfl (by rw [hokt.wl];omega)) ?_
    refine o_d 1 [(76,bv ((Wt.getD ((zbs x.a x.b m).toNat) 0)!=(-1)))] (zE (zA (qJ (t:=(Wt.getD ((zbs x.a x.b m).toNat) 0)!=(-1)) rfl (fun h13=>?_) (fun h13=>?_))))
    ·skip
     have h13':Wt.getD ((zbs x.a x.b m).toNat) 0≠(-1):=ze5 h13
     have hmlt:m < n:=Nat.lt_of_le_of_ne hm (by rintro rfl;exact absurd hn2 (by assumption))
     refine qK (zA (qU (zbe ["roundhouse/wheel.spun"] (r_d 4 [(80,iv (k:Int)),(79,slV 2 n1 o1),(78,iv (k:Int)),(77,slV 2 n1 o1)] (r_s (by exact zds (o':=4*k) rfl ho1 rfl om om) ?_)))))
     refine r_s (by refine zci (o':=1+4*k) rfl om) ?_
     refine r_s (by refine zV (v:=iv (zbs x.a x.b m)) rfl (hf_sl (n:=n1) rfl ho1 om) ?_;exact zcQ (rec_r (m:=none) zer (i:=k) (j:=1) om hx2 rfl)) ?_
     refine r_d 2 [(85,iv (k:Int)),(84,slV 2 n1 o1)] (r_s (by exact zds (o':=4*k) rfl ho1 rfl om om) ?_)
     refine r_s (by refine zci (o':=2+4*k) rfl om) ?_
     refine r_s (by refine zV (v:=iv x.b) rfl (hf_sl (n:=n1) rfl ho1 om) ?_;exact zcQ (rec_r (m:=none) zer (i:=k) (j:=2) om hx2 rfl)) ?_
     refine r_s (by refine zK (v:= .int .i64 (i64.wrap (zbs x.a x.b m+x.b))) (congrArg wg (w64 om om)) ?_;kernel_rfl) ?_
     refine r_s (by refine zK (v:= .int .i64 ((zbs x.a x.b m+x.b).tmod 127)) (congrArg wg (rem_nn om)) ?_;kernel_rfl) ?_
     refine r_s (by exact zds (o':=4*k) rfl ho1 rfl om om) ?_
     refine r_s (by refine zci (o':=1+4*k) rfl om) ?_
     refine r_s0 (by exact run_stSl (n2:=n1) rfl rfl ho1 om rfl rfl (by rw [zb0 zer];omega) (rec_w (y:=(Wl.mk x.s ((zbs x.a x.b m+x.b) % 127) x.b x.w)) zer (i:=k) (j:=1) om hx2 (Nat.le_of_ble_eq_true rfl) rfl)) ?_
     refine za3 (⟨n - (m+1), ?_⟩)
     refine ⟨⟨reg ((10,pv 3 0)::(64,iv (t:Int))::(63,iv x0.w)::(xB k n1 ft o1)),[cw (pl p),cw (ii Wt),slB zWl (za4 wlF (lm.set k (Wl.mk x.s ((zbs x.a x.b m+x.b) % 127) x.b x.w))) o1,cw (ii Wt)]⟩, ?_⟩
     refine zde om ⟨?_, ?_⟩
     ·exact Wk.ren [0,1,2,3] rfl rfl dC ⟨rfl,rfl,rfl,rfl,rfl,rfl,rfl,((zbz o1 rfl)).trans rfl,rfl,trivial⟩ ⟨.inl (zL (zae p)),.inl (zL (qS Wt)),.inl (zaa o1 (fun _=>(zcM _ _))),.inl (zL (qS Wt)),trivial⟩
     ·exact ⟨(m+1),(lm.set k (Wl.mk x.s ((zbs x.a x.b m+x.b) % 127) x.b x.w)),rfl,om,(by rw [hlm,List.set_set,walk_1]),(WOk.set (x:=⟨x.s,zbs x.a x.b m,x.b,x.w⟩) hokm hx2 om),rfl⟩
    have h13': ¬(Wt.getD ((zbs x.a x.b m).toNat) 0≠(-1)):=ze6 h13
    have hmn:m=n:=Nat.le_antisymm hm (Nat.le_of_not_lt fun q=>hn3 m q (Decidable.of_not_not (by assumption)))
    have hfree:Wt.getD (zbs x.a x.b m).toNat 0= -1:=by rw [hmn];exact hn2
    refine zb1 (zA (zJ (zbe ["roundhouse/wheel.spun"] (r_d 2 [(94,iv (k:Int)),(93,slV 2 n1 o1)] (r_s (by exact zds (o':=4*k) rfl ho1 rfl om om) ?_)))))
    refine r_s (by refine zci (o':=1+4*k) rfl om) ?_
    refine r_s (by refine zV (v:=iv (zbs x.a x.b m)) rfl (hf_sl (n:=n1) rfl ho1 om) ?_;exact zcQ (rec_r (m:=none) zer (i:=k) (j:=1) om hx2 rfl)) ?_
    refine r_d 2 [(99,iv (k:Int)),(98,slV 2 n1 o1)] (r_s (by exact zds (o':=4*k) rfl ho1 rfl om om) ?_)
    refine r_s (by refine zci (o':=4*k) rfl om) ?_
    refine r_s (by refine zV (v:=iv x.s) rfl (hf_sl (n:=n1) rfl ho1 om) ?_;exact zcQ (rec_r (m:=none) zer (i:=k) (j:=0) om hx2 rfl)) ?_
    refine r_s (by exact zaA (o:=0) (o':=((zbs x.a x.b m).toNat)) rfl rfl om om) ?_
    refine r_s0 (by refine zao (c':=ii (Wt.set ((zbs x.a x.b m).toNat) x.s)) rfl rfl rfl ?_ ?_ ?_;exact rfl;exact (by rw [zaz,hokt.wl];omega);exact ii_w (i:=((zbs x.a x.b m).toNat)) rfl (by rw [hokt.wl];omega)) ?_
    refine za3 (zA (zJ (zN (o_s (by refine zV (v:= .agg ⟨ii (Wt.set ((zbs x.a x.b m).toNat) x.s)⟩) rfl rfl ?_;exact ii_all ((List.length_set ..).trans hokt.wl)) ?_))))
    refine o_s (by refine zV (v:= .agg ⟨ii Wt⟩) rfl rfl ?_;exact ii_all hokt.wl) ?_
    refine o_s (by refine run_eqa (a:=⟨ii (Wt.set ((zbs x.a x.b m).toNat) x.s)⟩) (b:=⟨ii Wt⟩) (r:=eqI (Wt.set ((zbs x.a x.b m).toNat) x.s) Wt) (R:= !(eqI (Wt.set ((zbs x.a x.b m).toNat) x.s) Wt)) ?_ rfl;exact eqI_run (Wt.set ((zbs x.a x.b m).toNat) x.s) Wt ((List.length_set ..).trans hokt.wl) hokt.wl rfl rfl) ?_
    refine zE (zU ((106,bv (!(eqI (Wt.set ((zbs x.a x.b m).toNat) x.s) Wt)))::(64,iv (t:Int))::(63,iv x0.w)::(xB k n1 ft o1)) (qJ (t:= !(eqI (Wt.set ((zbs x.a x.b m).toNat) x.s) Wt)) rfl (fun _=>?_) (fun q=>by rw [(by rw [set_neq (by rw [hokt.wl];omega) hfree om];rfl:(!(eqI (Wt.set ((zbs x.a x.b m).toNat) x.s) Wt))=true)] at q;cases q)))
    refine zN (o_d 1 [(107,iv ft)] (o_s (by refine zK (v:= .int .i64 (i64.wrap (ft - 1))) (congrArg wg (w64 om om)) ?_;kernel_rfl) ?_))
    refine o_d 1 [(8,iv (ft - 1))] (zE (zA (zN (o_s (by refine zK (v:= .int .i64 (i64.wrap ((t:Int)+1))) (congrArg wg (w64 om om)) ?_;kernel_rfl) ?_))))
    refine o_d 1 [(64,iv ((t:Int)+1))] (zE (⟨x0.w.toNat - (t+1), ?_⟩))
    refine ⟨⟨reg [(64,iv ((t+1):Int)),(63,iv x0.w),(9,iv (k:Int)),(56,iv (k:Int)),(55,iv (n1:Nat)),(8,iv (ft - 1)),(5,slV 2 n1 o1),(3,pv 1 0)],[cw (pl p),cw (ii (Wt.set ((zbs x.a x.b m).toNat) x.s)),slB zWl (za4 wlF lm) o1]⟩, ?_⟩
    refine zde om ⟨?_, ?_⟩
    ·exact Wk.ren [0,1,2] rfl rfl dC ⟨rfl,rfl,rfl,rfl,rfl,rfl,((zbz o1 rfl)).trans rfl,rfl,trivial⟩ ⟨.inl (zL (zae p)),.inl (zL (qS (Wt.set ((zbs x.a x.b m).toNat) x.s))),.inl (zaa o1 (fun _=>(zcM _ _))),trivial⟩
    ·exact ⟨(t+1),(Wt.set ((zbs x.a x.b m).toNat) x.s),lm,(ft - 1),rfl,om,(WOk.put hokm _ _),(by rw [hlm,hmn];exact (turn_eq om hx hp).symm.trans (congrArg (zcH k) hSt)),(by have h9:=free_set (i:=(zbs x.a x.b m).toNat) (s:=x.s) (by rw [hokt.wl];omega) hfree om;omega),rfl⟩
   have h9': ¬((t:Int) < x0.w):=of_decide_eq_false h9
   refine zb1 (zA (zN (o_s (by refine zK (v:= .int .i64 (i64.wrap ((k:Int)+1))) (congrArg wg (w64 om om)) ?_;kernel_rfl) ?_)))
   refine o_d 1 [(56,iv ((k:Int)+1))] (zE (⟨n1 - (k+1), ?_⟩))
   refine ⟨⟨reg [(56,iv ((k+1):Int)),(55,iv (n1:Nat)),(8,iv ft),(5,slV 2 n1 o1),(3,pv 1 0)],(vJ p Wt lt o1)⟩, ?_⟩
   refine zde om ⟨?_, ?_⟩
   ·exact Wk.ren [0,1,2] rfl rfl dC ⟨rfl,rfl,rfl,((zbz o1 rfl)).trans rfl,rfl,trivial⟩ ⟨.inl (zL (zae p)),.inl (zL (qS Wt)),.inl (zaa o1 (fun _=>(zcM _ _))),trivial⟩
   ·exact ⟨(k+1),Wt,lt,ft,rfl,om,hokt,(by rw [hSt,show t=wtOf L0 k by omega];rfl),om,rfl⟩
  have h8': ¬((k:Int) < (n1:Nat)):=of_decide_eq_false h8
  refine zb1 (⟨fk.toNat, ?_⟩)
  refine ⟨⟨reg [(8,iv fk),(5,slV 2 n1 o1),(3,pv 1 0)],(vJ p Wq lk o1)⟩, ?_⟩
  refine zde om ⟨?_, ?_⟩
  ·exact Wk.ren [0,1,2] rfl rfl dC ⟨rfl,((zbz o1 rfl)).trans rfl,rfl,trivial⟩ ⟨.inl (zL (zae p)),.inl (zL (qS Wq)),.inl (zaa o1 (fun _=>(zcM _ _))),trivial⟩
  ·exact ⟨(r+1),Wq,lk,fk,rfl,hokk,(by rw [hSk,show k=L0.length by omega];rfl),(by rw [if_neg om];exact hfk.1),om,rfl⟩
 have h7': ¬(f > 0):=of_decide_eq_false h7
 refine zb1 (zA (zJ (zN (o_d 1 [(111,sv 1 0 127 127)] (zef (k:=0) (n:=0) (o:=none) (q:=127) (cs:=ii ([]:List Int)) (xs:=ii W) (cs2:=ii W) (zl:=zI) rfl rfl rfl (fun m q=>by cases q) (fun _=>⟨rfl,rfl⟩) (by first | exact ii_len1 _ | (rw [zaz];omega) | simp [ii]) rfl rfl (zbF rfl (by rw [List.drop_zero];exact List.take_of_length_le (by rw [zaz,hok.wl];omega)) (by rw [zaz,hok.wl];omega)) (by rw [zaz,hok.wl]) om om rfl (fun m14 e15=>?_) (fun m14=>?_))))))
 ·cases e15
 refine o_d 1 [(2,sv 3 0 127 (127+m14))] (zE (zA (qW ?_)))
 have hW9:W=zZ p:=by rw [zZ,←hL0];exact (fin_a hS hf hr om)
 exact ⟨trivial,⟨reg [(2,sv 0 0 127 (127+m14))],[cw (ii W++zaj zI m14)]⟩,Wk.ren [3] rfl rfl dC ⟨rfl,trivial⟩ ⟨.inl (zL (zaq W m14)),trivial⟩,[sv 0 0 127 (127+m14)],(zT rfl rfl),(zM rfl z5),m14,rfl,(by rw [←hW9];rfl)⟩
end Go.Rh

namespace Go.Rh
theorem gscp2 {C:zag} {B:Nat} {Q:IExit→St→Prop} {s:St} {l:Nat} {a b x:IC} (I:Nat→St→Prop)
  (h1:GC C B (.seq a b) (fun ex s'=>match ex with | .normal=> ∃m s0,Wk B s' s0∧I m s0 | _=>False) s)
  (h2: ∀n s,I n s→GC C B x (fun ex s'=>match ex with | .goto i=>if i=l then∃m s0,m < n∧Wk B s' s0∧I m s0 else Q (.goto i) s' | ex=>Q ex s') s):
  GC C B (.scp l (.seq .skip x) (.seq a (.seq b (.seq (.label l) x)))) Q s:=by
 have h3: ∀ {n s},I n s→wpC C B x (fun ex s'=>match ex with | .goto i=>if i=l then∃m s0,Wk B s' s0∧I m s0 else Q (.goto i) s' | ex=>Q ex s') s:=fun {n s} hI=>
  zbV (c:=x) (fun ex s hs=>by
   cases ex with
   | goto i=>
    by_cases hi:i=l
    ·simp only [if_pos hi] at hs ⊢
     obtain ⟨m,s0,_,h⟩:=hs;exact ⟨m,s0,h⟩
    ·simp only [if_neg hi] at hs ⊢;exact hs
   | normal=>exact hs
   | exit i=>exact hs
   | ret=>exact hs) (h2 n s hI).out
 refine ⟨⟨I, ?_,fun n s hI=>⟨s,.inl rfl,(h2 n s hI).out⟩⟩⟩
 have h4:wpC C B (.seq a b) _ s:=h1.out
 exact zbV (c:=a) (fun ex s hs=>by
  cases ex with
  | normal=>
   obtain ⟨s0,w0,hb⟩:=hs
   refine ⟨s0,w0,zbV (c:=b) (fun ex s hs=>?_) hb⟩
   cases ex with
   | normal=>obtain ⟨m,s1,w1,hI⟩:=hs;exact ⟨s1,w1,s1,.inl rfl,h3 hI⟩
   | _=>exact hs.elim
  | _=>exact hs.elim) h4
theorem callIn2 {P:Program} {g:String} {o m:Option Nat} {n:Nat} {z c cs rest vals:List Value} {V:Value} {K:zen} {h:List Blk} (k:Nat) (hC:Env P g (inV o 0 n::rest) [inB o c] (Ans V [inB o c])) (hk:h[k]? =some (slB z cs m)) (ho:o=m.map fun _=>n) (hcs:c=cs++zaj z (m.getD 0)) (hc:c.all zbG=true) (hr:rest.all vpf=true) (hv:vals=inV o k n::rest) (hV:vpf V=true) (hK:K V h):zdA (Env P) g vals K h:=by
 subst hv
 refine zhQ (pu:=false) ?_
 cases m with
 | none=>
  subst ho
  exact ⟨[],[],_,V,Env.nil hC,rfl,fun n=>za8 fun v hm=>qN (List.all_eq_true.1 (show (inV none 0 _::rest).all vpf=true by simp only [List.all_cons,hr];rfl) v hm),by simp,by simp,fun q=>(by cases q),hV,hK⟩
 | some m=>
  subst ho
  refine zfb (a1:=inV (some n) 0 n::rest) [k] [c] hC rfl (fun m=>?_) ⟨⟨true,by rw [hk,hcs];rfl⟩,hc,trivial⟩ hV hK
  simp only [List.map_cons]
  rw [za8 fun v hm=>qN (List.all_eq_true.1 hr v hm)]
  rfl
structure Ot where
  k:Int
  a:Nat
  n:Int
def otF (x:Ot):List Value:= [iv x.k,iv (x.a:Nat),iv x.n]
def otV (x:Ot):Value:= .agg #[iv x.k,iv (x.a:Nat),iv x.n]
def zO:List Value:= [iv 0,iv 0,iv 0]
theorem zgR (x:Ot):(otF x).length=3:=rfl
theorem zbi (l:List Ot) (m:Nat):(za4 otF l++zaj zO m).all zbG=true:=app_scl (recL_scl (fun _=>rfl) l) (room_scl rfl m)
theorem ot_app1 (l:List Ot) (k:Int) (a:Nat) (n:Int):za4 otF l++ [iv k,iv (a:Nat),iv n]=za4 otF (l++ [⟨k,a,n⟩]):=by rw [←recL_app];rfl
def zja (x:Ot):Bool:=x.k==8&&x.n==10
def zgl:List Ot→Nat→Int
 | [],_=> -1
 | x::l,i=>if zja x then (i:Nat) else zgl l (i+1)
def findO (l:List Ot):Ot:=(l.find? zja).getD ⟨0,0,0⟩
theorem idxS_0 {l:List Ot} {i:Nat} (h:l.length≤i):zgl (l.drop i) i= -1:=by rw [List.drop_eq_nil_of_le h];rfl
theorem idxS_t {l:List Ot} {i:Nat} {x:Ot} (hx:l[i]? =some x) (h:zja x=true):zgl (l.drop i) i=(i:Nat):=by
 have hl:=z6 hx
 rw [List.drop_eq_getElem_cons hl,List.getElem?_eq_getElem hl] at*
 cases hx;simp [zgl,h]
theorem idxS_f {l:List Ot} {i:Nat} {x:Ot} (hx:l[i]? =some x) (h:zja x=false):zgl (l.drop i) i=zgl (l.drop (i+1)) (i+1):=by
 have hl:=z6 hx
 rw [List.getElem?_eq_getElem hl] at hx;cases hx
 rw [List.drop_eq_getElem_cons hl];simp [zgl,h]
theorem ze8: ∀(l:List Ot) (i:Nat),(zgl l i= -1∧l.find? zja=none∧l.any zja=false)∨∃(j:Nat) (x:Ot),zgl l i=((i+j:Nat):Int)∧l[j]? =some x∧l.find? zja=some x∧l.any zja=true
 | [],i=> .inl ⟨rfl,rfl,rfl⟩
 | y::l,i=>by
  by_cases h:zja y=true
  ·exact .inr ⟨0,y,by simp [zgl,h],rfl,by simp [h],by simp [h]⟩
  ·simp only [Bool.not_eq_true] at h
   rcases ze8 l (i+1) with ⟨h1,h2,h3⟩ | ⟨j,x,h1,h2,h3,h4⟩
   ·exact .inl ⟨by simp [zgl,h,h1],by simp [h,h2],by simp only [List.any_cons,h,h3];rfl⟩
   ·exact .inr ⟨j+1,x,by simp only [zgl,h,Bool.false_eq_true,if_false,h1];congr 1;omega,by simpa using h2,by simp [h,h3],by simp only [List.any_cons,h4,Bool.or_true]⟩
def walkA (b:List Int):Nat→Nat→List Ot→Option (List Ot)
 | 0,_,_=>none
 | f+1,at_,l=>
  if at_=b.length then some l
  else if 1 < b.getD at_ 0 % 256 then
   if at_+1=b.length∨b.getD (at_+1) 0 % 256 < 2∨(at_:Int)+b.getD (at_+1) 0 % 256 > (b.length:Nat) then none
   else walkA b f (at_+(b.getD (at_+1) 0 % 256).toNat) (l++ [⟨b.getD at_ 0 % 256,at_,b.getD (at_+1) 0 % 256⟩])
  else if b.getD at_ 0 % 256=0 then some (l++ [⟨b.getD at_ 0 % 256,at_,1⟩])
  else walkA b f (at_+1) (l++ [⟨b.getD at_ 0 % 256,at_,1⟩])
def zgB (b:List Int):Option (List Ot):=walkA b (b.length+1) 0 []
def zbU (b:List Int):List Ot:=(zgB b).getD []
def zfz (b:List Int):Int:=if (zgB b).isSome then 0 else 5
theorem walkA_in {b:List Int} : ∀(f at_:Nat) (l r:List Ot),at_≤b.length→(∀x∈l,0≤x.n∧(x.a:Int)+x.n≤(b.length:Nat))→walkA b f at_ l=some r→∀x∈r,0≤x.n∧(x.a:Int)+x.n≤(b.length:Nat)
 | 0,_,_,_,_,_,h=>by cases h
 | f+1,at_,l,r,ha,hl,h=>by
  simp only [walkA] at h
  split at h
  ·cases h;exact hl
  split at h
  ·split at h
   ·cases h
   ·refine walkA_in f _ _ r om (fun x hx=>?_) h
    rcases List.mem_append.1 hx with hx | hx
    ·exact hl x hx
    ·simp only [List.mem_singleton] at hx;subst hx;simp only;omega
  ·have hl2: ∀x∈l++ [(⟨b.getD at_ 0 % 256,at_,1⟩:Ot)],0≤x.n∧(x.a:Int)+x.n≤(b.length:Nat):=fun x hx=>by
    rcases List.mem_append.1 hx with hx | hx
    ·exact hl x hx
    ·simp only [List.mem_singleton] at hx;subst hx;simp only;omega
   split at h
   ·cases h;exact hl2
   ·exact walkA_in f _ _ r om hl2 h
theorem walkL_in {b:List Int} {x:Ot} (hx:x∈zbU b):0≤x.n∧(x.a:Int)+x.n≤(b.length:Nat):=by
 unfold zbU at hx
 cases h:zgB b with
 | none=>rw [h] at hx;simp at hx
 | some l=>rw [h] at hx;exact walkA_in _ _ _ _ (Nat.zero_le _) (by simp) h x hx
def zcy (b:List Int):Option Nat:=((zbU b).find? zja).map (·.a+2)
theorem zic {b:List Int} (h:(zbU b).any zja=false):zcy b=none:=by
 rcases ze8 (zbU b) 0 with ⟨_,h2,_⟩ | ⟨_,_,_,_,_,h4⟩
 ·rw [zcy,h2];rfl
 ·rw [h] at h4;cases h4
theorem stampO_bad {b:List Int} (h:zfz b≠0):zcy b=none:=by
 unfold zfz at h;split at h
 ·exact absurd rfl h
 ·rename_i h1
  simp only [Bool.not_eq_true,Option.isSome_eq_false_iff,Option.isNone_iff_eq_none] at h1
  rw [zcy,zbU,h1];rfl
theorem zfQ {b:List Int} (h:(zbU b).any zja=true):zcy b=some ((findO (zbU b)).a+2)∧(findO (zbU b)).a+10≤b.length:=by
 rcases ze8 (zbU b) 0 with ⟨_,_,h3⟩ | ⟨j,x,_,h2,h3,h4⟩
 ·rw [h] at h3;cases h3
 ·rw [zcy,findO,h3]
  refine ⟨rfl, ?_⟩
  have:=walkL_in (List.mem_of_getElem? h2)
  have h5:=List.find?_some h3
  simp only [zja,Bool.and_eq_true,beq_iff_eq] at h5
  show x.a+10≤_
  omega
theorem stampO_r {b:List Int} {a:Nat} (h:zcy b=some a):2≤a∧a+8≤b.length:=by
 cases h1:(zbU b).any zja with
 | false=>rw [zic h1] at h;cases h
 | true=>have:=zfQ h1;rw [this.1] at h;cases h;omega
def u32v (n:Int):Value:= .int .u32 n
def zg2 (b:List Int):Value:=match zcy b with
 | none=> .tuple #[iv 0,u32v 0,u32v 0,bv false]
 | some a=> .tuple #[iv (a:Nat),u32v (qD b a 4),u32v (qD b (a+4) 4),bv true]
end Go.Rh

set_option maxHeartbeats 1000000
namespace Go.Rh
theorem zcc {ρ:Nat→Nat} {k k' n:Nat} (o:Option Nat) (h:ρ k=k'):zaF ρ (inV o k n)=inV o k' n:=by
 subst h;cases o<;>rfl
theorem zgk (o:Option Nat) (k n:Nat):zbt (inV o k n)=false:=by cases o<;>rfl
theorem ren_inT {ρ:Nat→Nat} {k k' n:Nat} {e:Int} (o:Option Nat) (h:ρ k=k'):zaF ρ (.tuple #[inV o k n,iv e])= .tuple #[inV o k' n,iv e]:=by
 subst h;cases o<;>(simp only [zaF,List.map_toArray,List.map_cons,List.map_nil];rfl)
theorem bnds_nn {l c n:Nat} (h:n≤c):bnds l c none (some (iv (n:Nat))) (some (iv (n:Nat)))=some (0,n,n):=by
 have hb: ∀c,n≤c→bnd c (iv (n:Nat))=some n:=fun c h=>by simp [bnd,iv];omega
 show (match bnd c (iv (n:Nat)) with | none=>none | some m=>match bnd m (iv (n:Nat)) with | none=>none | some h=>some (0,h,m))=_
 rw [hb c h]
 show (match bnd n (iv (n:Nat)) with | none=>none | some h=>some (0,h,n))=_
 rw [hb n (Nat.le_refl _)]
theorem zh0 {b:List Int} : ∀(f at_:Nat) (l r:List Ot),l.length≤at_→at_≤b.length→walkA b f at_ l=some r→r.length≤b.length
 | 0,_,_,_,_,_,h=>by cases h
 | f+1,at_,l,r,hl,ha,h=>by
  simp only [walkA] at h
  split at h
  ·cases h;omega
  split at h
  ·split at h
   ·cases h
   ·exact zh0 f _ _ r (by simp only [List.length_append,List.length_singleton];omega) om h
  ·split at h
   ·cases h;simp only [List.length_append,List.length_singleton];omega
   ·exact zh0 f _ _ r (by simp only [List.length_append,List.length_singleton];omega) om h
theorem walkL_len (b:List Int):(zbU b).length≤b.length:=by
 unfold zbU
 cases h:zgB b with
 | none=>simp
 | some l=>exact zh0 (b.length+1) 0 [] l (Nat.le_refl _) (Nat.zero_le _) h
theorem run_clip {d:Option Nat} {size:Nat} {x hi mx:Opd} {L:List (Nat×Value)} {hp:List Blk} {k n:Nat} {o:Option Nat} (hx:evf (reg L) x=slV k n o) (hh:evf (reg L) hi=iv (n:Nat)) (hm:evf (reg L) mx=iv (n:Nat)) (ho:o=none→n=0):
  zdb [⟨d,.slcS size x none (some hi) (some mx),none⟩] ⟨reg L,hp⟩=some ⟨zau (reg L) d (inV (o.map fun _=>n) k n),hp⟩:=by
 refine zaU (e:= .no) rfl rfl ?_
 cases o with
 | none=>cases ho rfl;simp only [z8,slcV,hx,Option.map_none,Option.map_some,hh,hm,slV,bnds_nn (Nat.le_refl 0)];rfl
 | some m=>simp only [z8,slcV,hx,Option.map_none,Option.map_some,hh,hm,slV,bnds_nn (Nat.le_add_right n m)];by_cases h:n=0<;>simp [h,inV,addA]
theorem ot_app2 {z:Int} {a:Nat} (hz:z=(a:Nat)) (l:List Ot) (k n:Int):za4 otF l++ [iv k,iv z,iv n]=za4 otF (l++ [⟨k,a,n⟩]):=by subst hz;exact ot_app1 l k a n
theorem zdV {b:List Int} {w:List Ot} (h:some w=zgB b):zbU b=w∧zfz b=0:=by
 constructor
 ·rw [zbU,←h];rfl
 ·rw [zfz,←h];rfl
theorem zc6 {b:List Int} (h:none=zgB b):zbU b= []∧zfz b=5:=by
 constructor
 ·rw [zbU,←h];rfl
 ·rw [zfz,←h];rfl
theorem ziv {l z:List Int} {a m:Nat} (hz:z=(l.drop a).take m) (i:Nat): ∀n,i+n≤m→qD z i n=qD l (a+i) n
 | 0,_=>rfl
 | n+1,h=>by
  simp only [qD];rw [ziv hz i n om,getD_part hz (by omega:i+n < m),Nat.add_assoc]
def zdB (a b:Int):Int:=i64.wrap (IntKind.i32.wrap (IntKind.u32.wrap (b - a)))
theorem StampPC {P:Program} [PrC P] (k a n:Int):
    Env P (.no 132) [.agg #[iv k,iv a,iv n]] ([]) (Ans (bv (k==8&&n==10)) ([])):=by
 refine Env.byAt PrC.opts_Stamp_1 ?_
 unfold zfI
 show GC _ 0 _ _ ⟨reg [(0,.agg #[iv k,iv a,iv n])],[]⟩
 refine zJ (zN (o_b 2 [(2,bv false),(1,pv 0 0)] [cw [iv k,iv a,iv n]] (zE (zA (zJ (zN (o_d 4 [(6,bv (k==8)),(5,bv (k==8)),(4,iv k),(3,pv 0 0)] (zbJ (b:=k==8) 6 rfl (fun h1=>?_) (fun h1=>?_)))))))))
 ·skip
  have h1':k=8:=zaQ h1
  refine o_d 5 [(2,bv (n==10)),(10,bv (n==10)),(9,bv (n==10)),(8,iv n),(7,pv 0 2)] (zE (zA (qW ?_)))
  have E0_:(k==8&&n==10)=(n==10):=by
   first | rfl | simp_all
  exact z7 [bv (n==10)] (zT rfl rfl) rfl (by rw [E0_];rfl) rfl rfl
 have h1': ¬(k=8):=zaR h1
 refine o_d 5 (We 2 10 9 8 7) (zE (zA (qW ?_)))
 have E0_:(k==8&&n==10)=(false):=by
  first | rfl | simp_all
 exact z7 [bv false] (zT rfl rfl) rfl (by rw [E0_];rfl) rfl rfl
theorem ClipC {P:Program} [PrC P] (n:Nat) (o:Option Nat) (l:List Ot) (ho:o=none→n=0):
    Env P "slices.Clip[[]roundhouse/opts.Opt,roundhouse/opts.Opt]" [slV 0 n o] ([slB zO (za4 otF l) o]) (fun v h'=>v=inV (o.map fun _=>n) 0 n∧h'= [slB zO (za4 otF l) o]):=by
 refine Env.by2 PrC.slices_Clip_opts_Opt_opts_Opt ?_
 unfold zbE
 show GC _ 1 _ _ ⟨reg [(0,slV 0 n o)],[slB zO (za4 otF l) o]⟩
 refine zJ (zN (o_d 1 [(2,.slice none 0 0)] (zE (zA (zJ (zN (o_d 2 [(4,slV 0 n o),(3,slV 0 n o)] (o_s (by exact zgc rfl ho) ?_))))))))
 refine o_d 1 [(6,slV 0 n o)] (o_s (by exact zgc rfl ho) ?_)
 refine o_s (by exact run_clip rfl rfl rfl ho) ?_
 refine o_d 1 [(2,inV (o.map fun _=>n) 0 n)] ?_
 exact zE (zA (qW (⟨trivial,⟨reg [(2,inV (o.map fun _=>n) 0 n)],[slB zO (za4 otF l) o]⟩,Wk.ren [0] rfl rfl dC ⟨(zcc _ rfl).trans rfl,trivial⟩ ⟨.inl (zaa o (fun _=>(zbi _ _))),trivial⟩,[inV (o.map fun _=>n) 0 n],(zT rfl rfl),(zM (zgk _ _ _) z5),rfl,rfl⟩)))
theorem IndexC {P:Program} [PrC P] (o:Option Nat) (m:Nat) (l:List Ot) (ho:o=none→l.length=0) (hll:l.length≤100000):
    Env P "slices.IndexFunc[[]roundhouse/opts.Opt,roundhouse/opts.Opt]" [inV o 0 l.length,.func (.func 132) #[] #[]] ([inB o (za4 otF l++zaj zO m)]) (Ans (iv (zgl l 0)) ([inB o (za4 otF l++zaj zO m)])):=by
 refine Env.by PrC.slices_IndexFunc_opts_Opt_opts_Opt ?_
 unfold zbd
 show GC _ 1 _ _ ⟨reg [(0,inV o 0 l.length),(1,.func (.func 132) #[] #[])],[inB o (za4 otF l++zaj zO m)]⟩
 refine zJ (zN (o_d 1 [(4,iv 0)] (zE (zA (zJ (zJ (zN (o_d 1 [(6,inV o 0 l.length)] (o_s (by exact run_lenIn rfl ho) ?_)))))))))
 refine o_d 1 [(8,iv 0)] (zE (zA (qU (zcs (fun μ s=> ∃(i:Nat),μ=l.length - i∧(i≤l.length)∧(zgl (l.drop i) i=zgl l 0)∧s=⟨reg [(8,iv (i:Int)),(7,iv (l.length:Nat)),(0,inV o 0 l.length),(1,.func (.func 132) #[] #[])],[inB o (za4 otF l++zaj zO m)]⟩) ⟨(l.length - 0), ?_⟩ ?_))))
 ·skip
  refine ⟨⟨reg [(8,iv (0:Int)),(7,iv (l.length:Nat)),(0,inV o 0 l.length),(1,.func (.func 132) #[] #[])],[inB o (za4 otF l++zaj zO m)]⟩, ?_⟩
  refine ⟨?_, ?_⟩
  ·exact Wk.ren [0] rfl rfl dC ⟨rfl,rfl,((zgd o rfl)).trans rfl,((qN rfl)).trans rfl,trivial⟩ ⟨.inl (zgO o (zbi l m)),trivial⟩
  ·exact ⟨0,rfl,(Nat.zero_le _),rfl,rfl⟩
 rintro μ s ⟨i,rfl,hi,hk,rfl⟩
 refine zJ (zN (o_d 1 [(9,bv (decide ((i:Int) < (l.length:Nat))))] (zE (zA (zJ (qJ (t:=decide ((i:Int) < (l.length:Nat))) rfl (fun h1=>?_) (fun h1=>?_)))))))
 ·skip
  have h1':(i:Int) < (l.length:Nat):=of_decide_eq_true h1
  have hb:i < l.length:=om
  refine (zeh hb).elim fun x hxq=>?_
  have hx:=hxq.1
  refine qK (zA (zJ (qU (zJ (zN (o_d 2 [(5,iv (i:Int)),(10,iv (i:Int))] (zE (zA (zJ (zN (o_d 3 [(13,iv (i:Int)),(12,inV o 0 l.length),(11,.func (.func 132) #[] #[])] ?_)))))))))))
  refine o_s (by exact zil (o':=3*i) rfl ho rfl om om) ?_
  refine o_s (by refine zV (v:= .agg #[iv x.k,iv (x.a:Nat),iv x.n]) rfl (hf_in (n:=l.length) rfl ho om) ?_;exact zcQ (rec_r (m:=some 3) zgR (i:=i) (j:=0) om hx rfl)) ?_
  refine o_clv (g:= 132) (cs:= []) rfl rfl (zab (StampPC x.k (x.a:Nat) x.n) rfl rfl rfl (zE (zA (qJ (t:=zja x) rfl (fun h2=>?_) (fun h2=>?_)))))
  ·skip
   refine zJ (zN (o_d 2 [(4,iv (i:Int)),(17,iv (i:Int))] (zE (zA (qW ?_)))))
   have E0_:zgl l 0=(i:Int):=by
    rw [←hk,idxS_t hx h2]
   exact z7 [iv (i:Int)] (zT rfl rfl) rfl (by rw [E0_];rfl) rfl (show List.all [inB o (za4 otF l++zaj zO m)] zhR=true from (all_cons (zdk _ (zbi l m)) rfl))
  refine qK (zA (zN (o_s (by refine zK (v:= .int .i64 (i64.wrap ((i:Int)+1))) (congrArg wg (w64 om om)) ?_;kernel_rfl) ?_)))
  refine o_d 1 [(8,iv ((i:Int)+1))] (zE (⟨l.length - (i+1), ?_⟩))
  refine ⟨⟨reg [(8,iv ((i+1):Int)),(7,iv (l.length:Nat)),(0,inV o 0 l.length),(1,.func (.func 132) #[] #[])],[inB o (za4 otF l++zaj zO m)]⟩, ?_⟩
  refine zde om ⟨?_, ?_⟩
  ·exact Wk.ren [0] rfl rfl dC ⟨rfl,rfl,((zgd o rfl)).trans rfl,((qN rfl)).trans rfl,trivial⟩ ⟨.inl (zgO o (zbi l m)),trivial⟩
  ·exact ⟨(i+1),rfl,om,(by rw [←hk,idxS_f hx h2]),rfl⟩
 have h1': ¬((i:Int) < (l.length:Nat)):=of_decide_eq_false h1
 refine zb1 (zA (zJ (zN (o_d 1 [(4,iv (-1))] (zE (zA (qW ?_)))))))
 have E0_:zgl l 0=(-1):=by
  rw [←hk,idxS_0 om]
 exact z7 [iv (-1)] (zT rfl rfl) rfl (by rw [E0_];rfl) rfl (show List.all [inB o (za4 otF l++zaj zO m)] zhR=true from (all_cons (zdk _ (zbi l m)) rfl))
theorem findC {P:Program} [PrC P] (o:Option Nat) (m:Nat) (l:List Ot) (ho:o=none→l.length=0) (hll:l.length≤100000) (y:Ot) (b:Bool) (hy:findO l=y) (hb:l.any zja=b):
    Env P "roundhouse/opts.find[roundhouse/opts.Opt]" [inV o 0 l.length,.func (.func 132) #[] #[]] ([inB o (za4 otF l++zaj zO m)]) (Ans (.tuple #[otV y,bv b]) ([inB o (za4 otF l++zaj zO m)])):=by
 refine Env.by PrC.opts_find_opts_Opt ?_
 unfold zdd
 show GC _ 1 _ _ ⟨reg [(0,inV o 0 l.length),(1,.func (.func 132) #[] #[])],[inB o (za4 otF l++zaj zO m)]⟩
 refine zJ (zN (o_b 2 [(5,bv false),(4,pv 1 0)] [inB o (za4 otF l++zaj zO m),cw [iv 0,iv 0,iv 0]] (zE (zA (zJ (zJ (zN (o_d 2 [(9,.func (.func 132) #[] #[]),(8,inV o 0 l.length)] ?_))))))))
 refine qV (zhQ (callIn 0 (IndexC o m l ho hll) rfl (zbi _ _) rfl rfl rfl (o_d 1 [(6,iv (zgl l 0))] (zE (zA (zJ (zN (o_d 2 [(12,bv (decide (zgl l 0≥0))),(11,iv (zgl l 0))] (zE (zA (qJ (t:=decide (zgl l 0≥0)) rfl (fun h1=>?_) (fun h1=>?_))))))))))))
 ·skip
  have h1':zgl l 0≥0:=of_decide_eq_true h1
  obtain ⟨j,x,hj,hx,hf,hany⟩: ∃(j:Nat) (x:Ot),zgl l 0=(j:Nat)∧l[j]? =some x∧l.find? zja=some x∧l.any zja=true:=by
   rcases ze8 l 0 with ⟨h,_⟩ | ⟨j,x,h,h2⟩
   · omega
   · exact ⟨j,x,om,h2⟩
  have hjl:=z6 hx
  have hx2:l[(zgl l 0).toNat]? =some x:=by rw [show (zgl l 0).toNat=j by omega];exact hx
  refine zJ (zN (o_d 2 [(14,iv (zgl l 0)),(13,inV o 0 l.length)] (o_s (by exact zil (o':=3*((zgl l 0).toNat)) rfl ho rfl om om) ?_)))
  refine o_s (by refine zV (v:= .agg #[iv x.k,iv (x.a:Nat),iv x.n]) rfl (hf_in (n:=l.length) rfl ho om) ?_;exact zcQ (rec_r (m:=some 3) zgR (i:=((zgl l 0).toNat)) (j:=0) om hx2 rfl)) ?_
  refine o_b 2 [(5,bv true)] [inB o (za4 otF l++zaj zO m),cw [iv x.k,iv (x.a:Nat),iv x.n]] (zE (zA (qW ?_)))
  have E0_:(.tuple #[otV y,bv b]:Value)= .tuple #[.agg #[iv x.k,iv (x.a:Nat),iv x.n],bv true]:=by
   subst hy;subst hb;rw [findO,hf,hany];rfl
  exact z7 [.agg #[iv x.k,iv (x.a:Nat),iv x.n],bv true] (q8 rfl rfl rfl (zT rfl rfl)) rfl (by rw [E0_];rfl) rfl (show List.all [inB o (za4 otF l++zaj zO m)] zhR=true from (all_cons (zdk _ (zbi l m)) rfl))
 have h1': ¬(zgl l 0≥0):=of_decide_eq_false h1
 obtain ⟨hf,hany⟩:l.find? zja=none∧l.any zja=false:=by
  rcases ze8 l 0 with ⟨_,h⟩ | ⟨j,x,h,h2⟩
  · exact h
  · omega
 refine qK (zA (zJ (zN (o_b 1 [(7,pv 2 0)] [inB o (za4 otF l++zaj zO m),cw [iv 0,iv 0,iv 0],cw [iv 0,iv 0,iv 0]] (zE (zA (zJ (zN (o_d 3 [(5,bv false),(17,.agg #[iv 0,iv 0,iv 0])] (zE (zA (qW ?_))))))))))))
 have E0_:(.tuple #[otV y,bv b]:Value)= .tuple #[.agg #[iv 0,iv 0,iv 0],bv false]:=by
  subst hy;subst hb;rw [findO,hf,hany];rfl
 exact z7 [.agg #[iv 0,iv 0,iv 0],bv false] (q8 rfl rfl rfl (zT rfl rfl)) rfl (by rw [E0_];rfl) rfl (show List.all [inB o (za4 otF l++zaj zO m)] zhR=true from (all_cons (zdk _ (zbi l m)) rfl))
end Go.Rh

set_option maxHeartbeats 1000000
namespace Go.Rh
theorem WalkC {P:Program} [PrC P] (q:Option (Nat×Nat)) (L l:List Int) (hr:RowOf q L l) (hl:l.length≤100000):
    Env P "roundhouse/opts.Walk" (WO q l) ((wA q L)) (fun v h'=> ∃m:Option Nat,(m=none→(zbU l).length=0)∧v= .tuple #[inV (m.map fun _=>(zbU l).length) 1 (zbU l).length,iv (zfz l)]∧h'= [zG q (u8 L) false,slB zO (za4 otF (zbU l)) m]):=by
 refine Env.by4 PrC.opts_Walk ?_
 unfold ziV
 show GC _ 1 _ _ ⟨reg (vF 0 q 0 l),(wA q L)⟩
 refine zJ (zN (o_d 2 [(3,iv 0),(2,.slice none 0 0)] (zE (zA (gscp2 (fun μ s=> ∃(f:Nat),∃(a:Nat),∃(z:Int),∃(w:List Ot),∃(n:Nat),∃(o:Option Nat),μ=f+1∧(walkA l f a w=zgB l)∧(l.length - a < f)∧(z=(a:Nat))∧(a≤l.length)∧(o=none→n=0)∧(w.length≤a)∧(n=w.length)∧s=⟨reg [(0,zS q 0 l.length),(5,iv z),(4,slV 1 n o)],[zG q (u8 L) false,slB zO (za4 otF w) o]⟩) ?_ ?_)))))
 ·skip
  refine zJ (zN (o_d 1 [(4,.slice none 0 0)] (zE (zA (zN (o_d 1 [(5,iv 0)] (zE (⟨(l.length+1)+1, ?_⟩))))))))
  refine ⟨⟨reg [(0,zS q 0 l.length),(5,iv 0),(4,slV 1 0 none)],[zG q (u8 L) false,slB zO (za4 otF ([]:List Ot)) none]⟩, ?_⟩
  refine ⟨?_, ?_⟩
  ·exact Wk.ren [0,2] rfl rfl dC ⟨((qG rfl)).trans rfl,rfl,rfl,trivial⟩ ⟨.inl (zF (zH _)),.inr ⟨rfl,rfl⟩,trivial⟩
  ·exact ⟨(l.length+1),0,0,([]:List Ot),0,none,rfl,rfl,om,rfl,om,(fun _=>rfl),(Nat.le_refl _),rfl,rfl⟩
 rintro μ s ⟨f,a,z,w,n,o,rfl,hk,hf,hz,ha,ho,hw,hn,rfl⟩
 obtain ⟨f,rfl⟩: ∃z9,f=z9+1:=⟨f - 1,om⟩
 simp only [walkA] at hk
 refine zJ (zJ (zN (o_d 2 [(8,zS q 0 l.length),(7,iv z)] (o_s (by exact qM rfl hr.nil) ?_))))
 refine o_d 1 [(10,bv (z==(l.length:Nat)))] (zE (zA (qJ (t:=z==(l.length:Nat)) rfl (fun h1=>?_) (fun h1=>?_))))
 ·skip
  have h1':z=(l.length:Nat):=zaQ h1
  refine zJ (zN (o_d 1 [(11,slV 1 n o)] (qV (zaD [1] [slB zO (za4 otF w) o] [slV 0 n o] (ClipC n o w ho) rfl (zQ (zbz o rfl) rfl) ⟨⟨_,rfl,zhH o (fun _=>(zbi _ _))⟩,trivial⟩ dC ?_))))
  rintro v1 h1' ⟨rfl,rfl⟩
  refine ⟨q9 [_] [],inV (o.map fun _=>n) 1 n,[zG q (u8 L) false,slB zO (za4 otF w) o],[],(zcc _ rfl),⟨rfl,(by rcases o with _ | m9<;>first | rfl | exact zbn (zbi _ _)),trivial⟩,trivial, ?_⟩
  refine o_d 2 [(3,iv 0),(2,inV (o.map fun _=>n) 1 n)] ?_
  refine zE (zA (qW ?_))
  have he:zgB l=some (w):=by rw [←hk,if_pos om]
  exact ⟨trivial,[inV (o.map fun _=>n) 1 n,iv 0],(zT rfl (zT rfl rfl)),(zM (zgk _ _ _) (zM rfl z5)),⟨reg [],[zG q (u8 L) false,slB zO (za4 otF w) o]⟩,[0,1],[inV (o.map fun _=>n) 1 n,iv 0],WkR.of (rs:= []) rfl rfl dC trivial ⟨.inl (zF (zH _)),.inl (zaa o (fun _=>(zbi _ _))),trivial⟩,(zQ (zcc _ rfl) (zQ rfl rfl)),o,(fun q=>by rw [(zdV he.symm).1];have:=ho q;omega),(by rw [(zdV he.symm).1,(zdV he.symm).2];subst hn;first | rfl | (simp;rfl)),(by rw [(zdV he.symm).1]<;>rfl)⟩
 have h1': ¬(z=(l.length:Nat)):=zaR h1
 refine qK (zA (zJ (zN (o_d 2 [(14,iv z),(13,zS q 0 l.length)] (o_s (by exact qP (o':=qo q+a) rfl hr.nil rfl om om) ?_)))))
 refine o_s (by refine zV (v:= .int .u8 (l.getD a 0 % 256)) rfl (zbj (n:=l.length) rfl rfl hr.nil om) ?_;exact zb5 hr om rfl) ?_
 refine o_s (by refine zK (v:= .int .i64 (i64.wrap (l.getD a 0 % 256))) (congrArg wg (w64 om om)) ?_;kernel_rfl) ?_
 refine o_b 4 [(6,pv 2 0),(19,.agg #[iv (l.getD a 0 % 256),iv z,iv 1]),(18,iv z)] [zG q (u8 L) false,slB zO (za4 otF w) o,cw [iv (l.getD a 0 % 256),iv z,iv 1]] (zE (zA (zJ (zJ (zN (o_d 3 [(22,bv (decide (l.getD a 0 % 256 > 1))),(21,iv (l.getD a 0 % 256)),(20,pv 2 0)] (zE (zA (qJ (t:=decide (l.getD a 0 % 256 > 1)) rfl (fun h2=>?_) (fun h2=>?_))))))))))
 ·skip
  have h2':l.getD a 0 % 256 > 1:=of_decide_eq_true h2
  refine zJ (zJ (zN (o_d 1 [(23,iv z)] (o_s (by refine zK (v:= .int .i64 (i64.wrap (z+1))) (congrArg wg (w64 om om)) ?_;kernel_rfl) ?_))))
  refine o_d 1 (vF 25 q 0 l) (o_s (by exact qM rfl hr.nil) ?_)
  refine o_d 2 [(28,bv ((z+1)==(l.length:Nat))),(27,bv ((z+1)==(l.length:Nat)))] (zbJ (b:=(z+1)==(l.length:Nat)) 28 rfl (fun h3=>?_) (fun h3=>?_))
  ·skip
   have h3':z+1=(l.length:Nat):=zaQ h3
   refine o_d 20 ((48,bv true)::(47,undef)::(46,undef)::(45,undef)::(44,undef)::(43,undef)::(42,undef)::(41,undef)::(40,undef)::(39,undef)::(38,undef)::(37,undef)::(36,bv true)::(35,bv true)::(34,undef)::(33,undef)::(vG 32 31 30 29)) (zE (zU [(48,bv true),(6,pv 2 0),(0,zS q 0 l.length),(5,iv z),(4,slV 1 n o)] (zc8 rfl (zJ (zN (o_d 2 [(3,iv 5),(2,.slice none 0 0)] (zE (zA (qW ?_)))))))))
   have he:zgB l=none:=by rw [←hk,if_neg om,if_pos om,if_pos om]
   exact ⟨trivial,[.slice none 0 0,iv 5],(zT rfl (zT rfl rfl)),(zM rfl (zM rfl z5)),⟨reg [],[zG q (u8 L) false,.gone]⟩,[0,4],[inV ((none:Option Nat).map fun _=>0) 1 0,iv 5],WkR.of (rs:= []) rfl rfl dC trivial ⟨.inl (zF (zH _)),.inr ⟨rfl,rfl⟩,trivial⟩,(zQ (zcc _ rfl) (zQ rfl rfl)),none,(fun _=>by rw [(zc6 he.symm).1];rfl),(by rw [(zc6 he.symm).1,(zc6 he.symm).2];rfl),(by rw [(zc6 he.symm).1];rfl)⟩
  have h3': ¬(z+1=(l.length:Nat)):=zaR h3
  refine o_d 2 [(30,iv z),(29,zS q 0 l.length)] (qB rfl (o_s (by refine zK (v:= .int .i64 (i64.wrap (z+1))) (congrArg wg (w64 om om)) ?_;kernel_rfl) ?_))
  refine qB rfl (o_s (by exact qP (o':=qo q+(a+1)) rfl hr.nil rfl om om) ?_)
  refine qB rfl (o_s (by refine zV (v:= .int .u8 (l.getD (a+1) 0 % 256)) rfl (zbj (n:=l.length) rfl rfl hr.nil om) ?_;exact zb5 hr om rfl) ?_)
  refine o_d 3 [(36,bv (decide (l.getD (a+1) 0 % 256 < 2))),(35,bv (decide (l.getD (a+1) 0 % 256 < 2))),(34,bv (decide (l.getD (a+1) 0 % 256 < 2)))] (zbJ (b:=decide (l.getD (a+1) 0 % 256 < 2)) 36 rfl (fun h4=>?_) (fun h4=>?_))
  ·skip
   have h4':l.getD (a+1) 0 % 256 < 2:=of_decide_eq_true h4
   refine o_d 12 ((48,bv true)::(47,undef)::(46,undef)::(45,undef)::(44,undef)::(43,undef)::(42,undef)::(41,undef)::(vG 40 39 38 37)) (zE (zU [(48,bv true),(6,pv 2 0),(0,zS q 0 l.length),(5,iv z),(4,slV 1 n o)] (zc8 rfl (zJ (zN (o_d 2 [(3,iv 5),(2,.slice none 0 0)] (zE (zA (qW ?_)))))))))
   have he:zgB l=none:=by rw [←hk,if_neg om,if_pos om,if_pos om]
   exact ⟨trivial,[.slice none 0 0,iv 5],(zT rfl (zT rfl rfl)),(zM rfl (zM rfl z5)),⟨reg [],[zG q (u8 L) false,.gone]⟩,[0,4],[inV ((none:Option Nat).map fun _=>0) 1 0,iv 5],WkR.of (rs:= []) rfl rfl dC trivial ⟨.inl (zF (zH _)),.inr ⟨rfl,rfl⟩,trivial⟩,(zQ (zcc _ rfl) (zQ rfl rfl)),none,(fun _=>by rw [(zc6 he.symm).1];rfl),(by rw [(zc6 he.symm).1,(zc6 he.symm).2];rfl),(by rw [(zc6 he.symm).1];rfl)⟩
  have h4': ¬(l.getD (a+1) 0 % 256 < 2):=of_decide_eq_false h4
  refine o_d 3 [(39,iv z),(38,zS q 0 l.length),(37,iv z)] (qB rfl (o_s (by refine zK (v:= .int .i64 (i64.wrap (z+1))) (congrArg wg (w64 om om)) ?_;kernel_rfl) ?_))
  refine qB rfl (o_s (by exact qP (o':=qo q+(a+1)) rfl hr.nil rfl om om) ?_)
  refine qB rfl (o_s (by refine zV (v:= .int .u8 (l.getD (a+1) 0 % 256)) rfl (zbj (n:=l.length) rfl rfl hr.nil om) ?_;exact zb5 hr om rfl) ?_)
  refine qB rfl (o_s (by refine zK (v:= .int .i64 (i64.wrap (l.getD (a+1) 0 % 256))) (congrArg wg (w64 om om)) ?_;kernel_rfl) ?_)
  refine qB rfl (o_s (by refine zK (v:= .int .i64 (i64.wrap (z+l.getD (a+1) 0 % 256))) (congrArg wg (w64 om om)) ?_;kernel_rfl) ?_)
  refine o_d 1 (vF 45 q 0 l) (qB rfl (o_s (by exact qM rfl hr.nil) ?_))
  refine o_d 2 [(48,bv (decide (z+l.getD (a+1) 0 % 256 > (l.length:Nat)))),(47,bv (decide (z+l.getD (a+1) 0 % 256 > (l.length:Nat))))] (zE (zU [(48,bv (decide (z+l.getD (a+1) 0 % 256 > (l.length:Nat)))),(6,pv 2 0),(0,zS q 0 l.length),(5,iv z),(4,slV 1 n o)] (qJ (t:=decide (z+l.getD (a+1) 0 % 256 > (l.length:Nat))) rfl (fun h5=>?_) (fun h5=>?_))))
  ·skip
   have h5':z+l.getD (a+1) 0 % 256 > (l.length:Nat):=of_decide_eq_true h5
   refine zJ (zN (o_d 2 [(3,iv 5),(2,.slice none 0 0)] (zE (zA (qW ?_)))))
   have he:zgB l=none:=by rw [←hk,if_neg om,if_pos om,if_pos om]
   exact ⟨trivial,[.slice none 0 0,iv 5],(zT rfl (zT rfl rfl)),(zM rfl (zM rfl z5)),⟨reg [],[zG q (u8 L) false,.gone]⟩,[0,4],[inV ((none:Option Nat).map fun _=>0) 1 0,iv 5],WkR.of (rs:= []) rfl rfl dC trivial ⟨.inl (zF (zH _)),.inr ⟨rfl,rfl⟩,trivial⟩,(zQ (zcc _ rfl) (zQ rfl rfl)),none,(fun _=>by rw [(zc6 he.symm).1];rfl),(by rw [(zc6 he.symm).1,(zc6 he.symm).2];rfl),(by rw [(zc6 he.symm).1];rfl)⟩
  have h5': ¬(z+l.getD (a+1) 0 % 256 > (l.length:Nat)):=of_decide_eq_false h5
  refine qK (zA (zN (o_d 2 [(50,iv z),(49,zS q 0 l.length)] (o_s (by refine zK (v:= .int .i64 (i64.wrap (z+1))) (congrArg wg (w64 om om)) ?_;kernel_rfl) ?_))))
  refine o_s (by exact qP (o':=qo q+(a+1)) rfl hr.nil rfl om om) ?_
  refine o_s (by refine zV (v:= .int .u8 (l.getD (a+1) 0 % 256)) rfl (zbj (n:=l.length) rfl rfl hr.nil om) ?_;exact zb5 hr om rfl) ?_
  refine o_s (by refine zK (v:= .int .i64 (i64.wrap (l.getD (a+1) 0 % 256))) (congrArg wg (w64 om om)) ?_;kernel_rfl) ?_
  refine o_b 2 [(55,pv 2 2)] [zG q (u8 L) false,slB zO (za4 otF w) o,cw [iv (l.getD a 0 % 256),iv z,iv (l.getD (a+1) 0 % 256)]] (zE (zA (zJ (zJ (zN (o_b 3 [(58,sv 3 0 1 1),(57,.agg #[iv (l.getD a 0 % 256),iv z,iv (l.getD (a+1) 0 % 256)]),(56,slV 1 n o)] [zG q (u8 L) false,slB zO (za4 otF w) o,cw [iv (l.getD a 0 % 256),iv z,iv (l.getD (a+1) 0 % 256)],cw [iv (l.getD a 0 % 256),iv z,iv (l.getD (a+1) 0 % 256)]] (zef (k:=1) (n:=n) (o:=o) (q:=1) (cs:=za4 otF w) (xs:= [iv (l.getD a 0 % 256),iv z,iv (l.getD (a+1) 0 % 256)]) (cs2:=za4 otF (w++ [(Ot.mk (l.getD a 0 % 256) a (l.getD (a+1) 0 % 256))])) (zl:=zO) rfl rfl rfl (fun m q=>by subst q;rfl) (fun z=>by have h0:=ho z;have h1:w= []:=List.eq_nil_of_length_eq_zero om;subst h1;exact ⟨h0,rfl⟩) (by first | exact zb0 zgR _ | rw [zb0 zgR];first | omega | (simp;try omega)) rfl rfl (zbF rfl rfl (by simp)) (by rfl) om om (ot_app2 hz w (l.getD a 0 % 256) (l.getD (a+1) 0 % 256)) (fun m6 e7=>?_) (fun m6=>?_))))))))
  ·skip
   subst e7
   refine o_d 1 [(4,sv 1 0 (n+1) (n+1+m6))] (zE (zA (zJ (zN (o_d 3 [(62,bv ((l.getD a 0 % 256)==0)),(61,iv (l.getD a 0 % 256)),(60,pv 2 0)] (zE (zA (qJ (t:=(l.getD a 0 % 256)==0) rfl (fun q=>by rw [(by exact beq_eq_false_iff_ne.2 om:((l.getD a 0 % 256)==0)=false)] at q;cases q) (fun _=>?_)))))))))
   refine qK (zA (zJ (zN (o_d 3 [(67,iv (l.getD (a+1) 0 % 256)),(66,pv 2 2),(65,iv z)] (o_s (by refine zK (v:= .int .i64 (i64.wrap (z+l.getD (a+1) 0 % 256))) (congrArg wg (w64 om om)) ?_;kernel_rfl) ?_)))))
   refine o_d 1 [(5,iv (z+l.getD (a+1) 0 % 256))] (zE (zU [(5,iv (z+l.getD (a+1) 0 % 256)),(4,sv 1 0 (n+1) (n+1+m6)),(0,zS q 0 l.length)] (ggoto (⟨f+1, ?_⟩))))
   refine ⟨⟨reg [(0,zS q 0 l.length),(5,iv (z+l.getD (a+1) 0 % 256)),(4,slV 1 (n+1) (some m6))],[zG q (u8 L) false,slB zO (za4 otF (w++ [(Ot.mk (l.getD a 0 % 256) a (l.getD (a+1) 0 % 256))])) (some m6)]⟩, ?_⟩
   refine zde om ⟨?_, ?_⟩
   ·exact Wk.ren [0,1] rfl rfl dC ⟨((qG rfl)).trans rfl,rfl,rfl,trivial⟩ ⟨.inl (zF (zH _)),.inl (zL (zbi _ _)),trivial⟩
   ·exact ⟨f,(a+(l.getD (a+1) 0 % 256).toNat),(z+l.getD (a+1) 0 % 256),(w++ [(Ot.mk (l.getD a 0 % 256) a (l.getD (a+1) 0 % 256))]),(n+1),(some m6),rfl,(by rw [if_neg om,if_pos om,if_neg om] at hk;exact hk),om,om,om,(fun z=>by cases z),(by simp only [List.length_append,List.length_singleton];omega),(by simp only [List.length_append,List.length_singleton];omega),rfl⟩
  refine o_d 1 [(4,sv 4 0 (n+1) (n+1+m6))] (zE (zA (zJ (zN (o_d 3 [(62,bv ((l.getD a 0 % 256)==0)),(61,iv (l.getD a 0 % 256)),(60,pv 2 0)] (zE (zA (qJ (t:=(l.getD a 0 % 256)==0) rfl (fun q=>by rw [(by exact beq_eq_false_iff_ne.2 om:((l.getD a 0 % 256)==0)=false)] at q;cases q) (fun _=>?_)))))))))
  refine qK (zA (zJ (zN (o_d 3 [(67,iv (l.getD (a+1) 0 % 256)),(66,pv 2 2),(65,iv z)] (o_s (by refine zK (v:= .int .i64 (i64.wrap (z+l.getD (a+1) 0 % 256))) (congrArg wg (w64 om om)) ?_;kernel_rfl) ?_)))))
  refine o_d 1 [(5,iv (z+l.getD (a+1) 0 % 256))] (zE (zU [(5,iv (z+l.getD (a+1) 0 % 256)),(4,sv 4 0 (n+1) (n+1+m6)),(0,zS q 0 l.length)] (ggoto (⟨f+1, ?_⟩))))
  refine ⟨⟨reg [(0,zS q 0 l.length),(5,iv (z+l.getD (a+1) 0 % 256)),(4,slV 1 (n+1) (some m6))],[zG q (u8 L) false,slB zO (za4 otF (w++ [(Ot.mk (l.getD a 0 % 256) a (l.getD (a+1) 0 % 256))])) (some m6)]⟩, ?_⟩
  refine zde om ⟨?_, ?_⟩
  ·exact Wk.ren [0,4] rfl rfl dC ⟨((qG rfl)).trans rfl,rfl,rfl,trivial⟩ ⟨.inl (zF (zH _)),.inl (zL (zbi _ _)),trivial⟩
  ·exact ⟨f,(a+(l.getD (a+1) 0 % 256).toNat),(z+l.getD (a+1) 0 % 256),(w++ [(Ot.mk (l.getD a 0 % 256) a (l.getD (a+1) 0 % 256))]),(n+1),(some m6),rfl,(by rw [if_neg om,if_pos om,if_neg om] at hk;exact hk),om,om,om,(fun z=>by cases z),(by simp only [List.length_append,List.length_singleton];omega),(by simp only [List.length_append,List.length_singleton];omega),rfl⟩
 have h2': ¬(l.getD a 0 % 256 > 1):=of_decide_eq_false h2
 refine qK (zA (zJ (zJ (zN (o_b 3 [(58,sv 3 0 1 1),(57,.agg #[iv (l.getD a 0 % 256),iv z,iv 1]),(56,slV 1 n o)] [zG q (u8 L) false,slB zO (za4 otF w) o,cw [iv (l.getD a 0 % 256),iv z,iv 1],cw [iv (l.getD a 0 % 256),iv z,iv 1]] (zef (k:=1) (n:=n) (o:=o) (q:=1) (cs:=za4 otF w) (xs:= [iv (l.getD a 0 % 256),iv z,iv 1]) (cs2:=za4 otF (w++ [(Ot.mk (l.getD a 0 % 256) a 1)])) (zl:=zO) rfl rfl rfl (fun m q=>by subst q;rfl) (fun z=>by have h0:=ho z;have h1:w= []:=List.eq_nil_of_length_eq_zero om;subst h1;exact ⟨h0,rfl⟩) (by first | exact zb0 zgR _ | rw [zb0 zgR];first | omega | (simp;try omega)) rfl rfl (zbF rfl rfl (by simp)) (by rfl) om om (ot_app2 hz w (l.getD a 0 % 256) 1) (fun m8 e9=>?_) (fun m8=>?_)))))))
 ·skip
  subst e9
  refine o_d 1 [(4,sv 1 0 (n+1) (n+1+m8))] (zE (zA (zJ (zN (o_d 3 [(62,bv ((l.getD a 0 % 256)==0)),(61,iv (l.getD a 0 % 256)),(60,pv 2 0)] (zE (zU [(62,bv ((l.getD a 0 % 256)==0)),(4,sv 1 0 (n+1) (n+1+m8)),(6,pv 2 0),(0,zS q 0 l.length),(5,iv z)] (qJ (t:=(l.getD a 0 % 256)==0) rfl (fun h10=>?_) (fun h10=>?_)))))))))
  ·skip
   have h10':l.getD a 0 % 256=0:=zaQ h10
   refine zJ (zN (o_d 1 [(63,sv 1 0 (n+1) (n+1+m8))] (qV (zct [1] [cw (za4 otF (w++ [(Ot.mk (l.getD a 0 % 256) a 1)])++zaj zO m8)] [sv 0 0 (n+1) (n+1+m8)] (ClipC (n+1) (some m8) (w++ [(Ot.mk (l.getD a 0 % 256) a 1)]) (fun q=>by cases q)) rfl rfl ⟨⟨_,rfl,zaC (zbi (w++ [(Ot.mk (l.getD a 0 % 256) a 1)]) m8) (fun q=>rfl)⟩,trivial⟩ dC ?_))))
   rintro v1 h1' ⟨rfl,rfl⟩
   refine ⟨inV ((some m8).map fun _=>n+1) 1 (n+1),[zG q (u8 L) false,cw (za4 otF (w++ [(Ot.mk (l.getD a 0 % 256) a 1)])++zaj zO m8),cw [iv (l.getD a 0 % 256),iv z,iv 1],cw [iv (l.getD a 0 % 256),iv z,iv 1]],[],(zcc _ rfl),⟨rfl,(zbn (zbi (w++ [(Ot.mk (l.getD a 0 % 256) a 1)]) m8)),rfl,rfl,trivial⟩,trivial, ?_⟩
   refine o_d 2 [(3,iv 0),(2,inV ((some m8).map fun _=>n+1) 1 (n+1))] ?_
   refine zE (zA (qW ?_))
   have he:zgB l=some (w++ [(Ot.mk (l.getD a 0 % 256) a 1)]):=by rw [←hk,if_neg om,if_neg om,if_pos om]
   exact ⟨trivial,[inV ((some m8).map fun _=>n+1) 1 (n+1),iv 0],(zT rfl (zT rfl rfl)),(zM (zgk _ _ _) (zM rfl z5)),⟨reg [],[zG q (u8 L) false,cw (za4 otF (w++ [(Ot.mk (l.getD a 0 % 256) a 1)])++zaj zO m8)]⟩,[0,1],[inV ((some m8).map fun _=>n+1) 1 (n+1),iv 0],WkR.of (rs:= []) rfl rfl dC trivial ⟨.inl (zF (zH _)),.inl (zL (zbi (w++ [(Ot.mk (l.getD a 0 % 256) a 1)]) m8)),trivial⟩,(zQ (zcc _ rfl) (zQ rfl rfl)),some m8,(fun q=>by cases q),(by rw [(zdV he.symm).1,(zdV he.symm).2];subst hn;first | rfl | (simp;rfl)),(by rw [(zdV he.symm).1]<;>rfl)⟩
  have h10': ¬(l.getD a 0 % 256=0):=zaR h10
  refine qK (zA (zJ (zN (o_d 3 [(67,iv 1),(66,pv 2 2),(65,iv z)] (o_s (by refine zK (v:= .int .i64 (i64.wrap (z+1))) (congrArg wg (w64 om om)) ?_;kernel_rfl) ?_)))))
  refine o_d 1 [(5,iv (z+1))] (zE (zA (ggoto (⟨f+1, ?_⟩))))
  refine ⟨⟨reg [(0,zS q 0 l.length),(5,iv (z+1)),(4,slV 1 (n+1) (some m8))],[zG q (u8 L) false,slB zO (za4 otF (w++ [(Ot.mk (l.getD a 0 % 256) a 1)])) (some m8)]⟩, ?_⟩
  refine zde om ⟨?_, ?_⟩
  ·exact Wk.ren [0,1] rfl rfl dC ⟨((qG rfl)).trans rfl,rfl,rfl,trivial⟩ ⟨.inl (zF (zH _)),.inl (zL (zbi _ _)),trivial⟩
  ·exact ⟨f,(a+1),(z+1),(w++ [(Ot.mk (l.getD a 0 % 256) a 1)]),(n+1),(some m8),rfl,(by rw [if_neg om,if_neg om,if_neg om] at hk;exact hk),om,om,om,(fun z=>by cases z),(by simp only [List.length_append,List.length_singleton];omega),(by simp only [List.length_append,List.length_singleton];omega),rfl⟩
 refine o_d 1 [(4,sv 4 0 (n+1) (n+1+m8))] (zE (zA (zJ (zN (o_d 3 [(62,bv ((l.getD a 0 % 256)==0)),(61,iv (l.getD a 0 % 256)),(60,pv 2 0)] (zE (zU [(62,bv ((l.getD a 0 % 256)==0)),(4,sv 4 0 (n+1) (n+1+m8)),(6,pv 2 0),(0,zS q 0 l.length),(5,iv z)] (qJ (t:=(l.getD a 0 % 256)==0) rfl (fun h11=>?_) (fun h11=>?_)))))))))
 ·skip
  have h11':l.getD a 0 % 256=0:=zaQ h11
  refine zJ (zN (o_d 1 [(63,sv 4 0 (n+1) (n+1+m8))] (qV (zct [4] [cw (za4 otF (w++ [(Ot.mk (l.getD a 0 % 256) a 1)])++zaj zO m8)] [sv 0 0 (n+1) (n+1+m8)] (ClipC (n+1) (some m8) (w++ [(Ot.mk (l.getD a 0 % 256) a 1)]) (fun q=>by cases q)) rfl rfl ⟨⟨_,rfl,zaC (zbi (w++ [(Ot.mk (l.getD a 0 % 256) a 1)]) m8) (fun q=>rfl)⟩,trivial⟩ dC ?_))))
  rintro v1 h1' ⟨rfl,rfl⟩
  refine ⟨inV ((some m8).map fun _=>n+1) 4 (n+1),[zG q (u8 L) false,slB zO (za4 otF w) o,cw [iv (l.getD a 0 % 256),iv z,iv 1],cw [iv (l.getD a 0 % 256),iv z,iv 1],cw (za4 otF (w++ [(Ot.mk (l.getD a 0 % 256) a 1)])++zaj zO m8)],[],(zcc _ rfl),⟨rfl,rfl,rfl,rfl,(zbn (zbi (w++ [(Ot.mk (l.getD a 0 % 256) a 1)]) m8)),trivial⟩,trivial, ?_⟩
  refine o_d 2 [(3,iv 0),(2,inV ((some m8).map fun _=>n+1) 4 (n+1))] ?_
  refine zE (zA (qW ?_))
  have he:zgB l=some (w++ [(Ot.mk (l.getD a 0 % 256) a 1)]):=by rw [←hk,if_neg om,if_neg om,if_pos om]
  exact ⟨trivial,[inV ((some m8).map fun _=>n+1) 4 (n+1),iv 0],(zT rfl (zT rfl rfl)),(zM (zgk _ _ _) (zM rfl z5)),⟨reg [],[zG q (u8 L) false,cw (za4 otF (w++ [(Ot.mk (l.getD a 0 % 256) a 1)])++zaj zO m8)]⟩,[0,4],[inV ((some m8).map fun _=>n+1) 1 (n+1),iv 0],WkR.of (rs:= []) rfl rfl dC trivial ⟨.inl (zF (zH _)),.inl (zL (zbi (w++ [(Ot.mk (l.getD a 0 % 256) a 1)]) m8)),trivial⟩,(zQ (zcc _ rfl) (zQ rfl rfl)),some m8,(fun q=>by cases q),(by rw [(zdV he.symm).1,(zdV he.symm).2];subst hn;first | rfl | (simp;rfl)),(by rw [(zdV he.symm).1]<;>rfl)⟩
 have h11': ¬(l.getD a 0 % 256=0):=zaR h11
 refine qK (zA (zJ (zN (o_d 3 [(67,iv 1),(66,pv 2 2),(65,iv z)] (o_s (by refine zK (v:= .int .i64 (i64.wrap (z+1))) (congrArg wg (w64 om om)) ?_;kernel_rfl) ?_)))))
 refine o_d 1 [(5,iv (z+1))] (zE (zA (ggoto (⟨f+1, ?_⟩))))
 refine ⟨⟨reg [(0,zS q 0 l.length),(5,iv (z+1)),(4,slV 1 (n+1) (some m8))],[zG q (u8 L) false,slB zO (za4 otF (w++ [(Ot.mk (l.getD a 0 % 256) a 1)])) (some m8)]⟩, ?_⟩
 refine zde om ⟨?_, ?_⟩
 ·exact Wk.ren [0,4] rfl rfl dC ⟨((qG rfl)).trans rfl,rfl,rfl,trivial⟩ ⟨.inl (zF (zH _)),.inl (zL (zbi _ _)),trivial⟩
 ·exact ⟨f,(a+1),(z+1),(w++ [(Ot.mk (l.getD a 0 % 256) a 1)]),(n+1),(some m8),rfl,(by rw [if_neg om,if_neg om,if_neg om] at hk;exact hk),om,om,om,(fun z=>by cases z),(by simp only [List.length_append,List.length_singleton];omega),(by simp only [List.length_append,List.length_singleton];omega),rfl⟩
end Go.Rh

set_option maxHeartbeats 1000000
namespace Go.Rh
abbrev vE:=(Value.int .u32)
theorem onumC {P:Program} [PrC P] (q:Option (Nat×Nat)) (L l:List Int) (hr:RowOf q L l) (h4:4≤l.length):
    Env P "roundhouse/opts.number" (WO q l) ((wA q L)) (fun v h'=>v=u32v (qD l 0 4)∧h'= (wA q L)):=by
 refine Env.by2 PrC.opts_number ?_
 unfold zgs
 show GC _ 1 _ _ ⟨reg (vF 0 q 0 l),(wA q L)⟩
 refine zJ (zN (o_d 1 [(2,.int .u32 0)] (zE (zA (zJ (zbe [] (r_d 1 (vF 3 q 0 l) (r_s (by exact qP (o':=qo q+0) rfl hr.nil rfl om om) ?_))))))))
 refine r_s (by refine zV (v:= .int .u8 (l.getD 0 0 % 256)) rfl (zbj (n:=l.length) rfl rfl hr.nil om) ?_;exact zb5 hr om rfl) ?_
 refine r_s (by refine zK (v:= .int .u32 (IntKind.u32.wrap (l.getD 0 0 % 256))) (congrArg vE (zby om)) ?_;kernel_rfl) ?_
 refine r_s (by refine zK (v:= .int .u32 (IntKind.u32.wrap ((l.getD 0 0 % 256)*16777216))) (congrArg vE (zby om)) ?_;kernel_rfl) ?_
 refine r_d 1 (vF 8 q 0 l) (r_s (by exact qP (o':=qo q+1) rfl hr.nil rfl om om) ?_)
 refine r_s (by refine zV (v:= .int .u8 (l.getD 1 0 % 256)) rfl (zbj (n:=l.length) rfl rfl hr.nil om) ?_;exact zb5 hr om rfl) ?_
 refine r_s (by refine zK (v:= .int .u32 (IntKind.u32.wrap (l.getD 1 0 % 256))) (congrArg vE (zby om)) ?_;kernel_rfl) ?_
 refine r_s (by refine zK (v:= .int .u32 (IntKind.u32.wrap ((l.getD 1 0 % 256)*65536))) (congrArg vE (zby om)) ?_;kernel_rfl) ?_
 refine r_s (by refine zK (congrArg vE (zee (k:= .u32) 24 (R:=16777216) (x:=(l.getD 0 0 % 256)*16777216) (y:=(l.getD 1 0 % 256)*65536) rfl om om (by rw [show (2:Int)^IntKind.u32.bits=4294967296 from rfl];omega) (zby om))) ?_;kernel_rfl) ?_
 refine r_d 1 (vF 14 q 0 l) (r_s (by exact qP (o':=qo q+2) rfl hr.nil rfl om om) ?_)
 refine r_s (by refine zV (v:= .int .u8 (l.getD 2 0 % 256)) rfl (zbj (n:=l.length) rfl rfl hr.nil om) ?_;exact zb5 hr om rfl) ?_
 refine r_s (by refine zK (v:= .int .u32 (IntKind.u32.wrap (l.getD 2 0 % 256))) (congrArg vE (zby om)) ?_;kernel_rfl) ?_
 refine r_s (by refine zK (v:= .int .u32 (IntKind.u32.wrap ((l.getD 2 0 % 256)*256))) (congrArg vE (zby om)) ?_;kernel_rfl) ?_
 refine r_s (by refine zK (congrArg vE (zee (k:= .u32) 16 (R:=65536) (x:=(l.getD 0 0 % 256)*16777216+(l.getD 1 0 % 256)*65536) (y:=(l.getD 2 0 % 256)*256) rfl om om (by rw [show (2:Int)^IntKind.u32.bits=4294967296 from rfl];omega) (zby om))) ?_;kernel_rfl) ?_
 refine r_d 1 (vF 20 q 0 l) (r_s (by exact qP (o':=qo q+3) rfl hr.nil rfl om om) ?_)
 refine r_s (by refine zV (v:= .int .u8 (l.getD 3 0 % 256)) rfl (zbj (n:=l.length) rfl rfl hr.nil om) ?_;exact zb5 hr om rfl) ?_
 refine r_s (by refine zK (v:= .int .u32 (IntKind.u32.wrap (l.getD 3 0 % 256))) (congrArg vE (zby om)) ?_;kernel_rfl) ?_
 refine r_s (by refine zK (congrArg vE (zee (k:= .u32) 8 (R:=256) (x:=(l.getD 0 0 % 256)*16777216+(l.getD 1 0 % 256)*65536+(l.getD 2 0 % 256)*256) (y:=l.getD 3 0 % 256) rfl om om (by rw [show (2:Int)^IntKind.u32.bits=4294967296 from rfl];omega) (zby om))) ?_;kernel_rfl) ?_
 exact r_d 1 [(2,.int .u32 ((l.getD 0 0 % 256)*16777216+(l.getD 1 0 % 256)*65536+(l.getD 2 0 % 256)*256+l.getD 3 0 % 256))] (za3 (zU [(2,.int .u32 ((l.getD 0 0 % 256)*16777216+(l.getD 1 0 % 256)*65536+(l.getD 2 0 % 256)*256+l.getD 3 0 % 256))] (qW (⟨trivial,⟨reg [(2,.int .u32 ((l.getD 0 0 % 256)*16777216+(l.getD 1 0 % 256)*65536+(l.getD 2 0 % 256)*256+l.getD 3 0 % 256))],(wA q L)⟩,Wk.ren [0] rfl rfl dC ⟨rfl,trivial⟩ ⟨.inl (zF (zH _)),trivial⟩,[.int .u32 ((l.getD 0 0 % 256)*16777216+(l.getD 1 0 % 256)*65536+(l.getD 2 0 % 256)*256+l.getD 3 0 % 256)],(zT rfl rfl),(zM rfl z5),(congrArg vE (by simp only [qD,Nat.zero_add];omega)),rfl⟩))))
theorem FarC {P:Program} [PrC P] (a b:Int):
    Env P "roundhouse/opts.Far" [.int .u32 a,.int .u32 b] ([]) (Ans (iv (zdB a b)) ([])):=by
 refine Env.by PrC.opts_Far ?_
 unfold zjT
 show GC _ 0 _ _ ⟨reg [(0,.int .u32 a),(1,.int .u32 b)],[]⟩
 refine zJ (zN (o_d 1 [(4,iv 0)] (zE (zA (zJ (zN (o_d 6 [(4,iv (i64.wrap (IntKind.i32.wrap (IntKind.u32.wrap (b - a))))),(9,iv (i64.wrap (IntKind.i32.wrap (IntKind.u32.wrap (b - a))))),(8,.int .i32 (IntKind.i32.wrap (IntKind.u32.wrap (b - a)))),(7,.int .u32 (IntKind.u32.wrap (b - a))),(6,.int .u32 a),(5,.int .u32 b)] (zE (zA (qW ?_))))))))))
 have E0_:zdB a b=i64.wrap (IntKind.i32.wrap (IntKind.u32.wrap (b - a))):=by
  rfl
 exact z7 [iv (i64.wrap (IntKind.i32.wrap (IntKind.u32.wrap (b - a))))] (zT rfl rfl) rfl (by rw [E0_];rfl) rfl rfl
theorem zjV {P:Program} [PrC P] (q:Option (Nat×Nat)) (L l:List Int) (hr:RowOf q L l) (hl:l.length≤100000):
    Env P "roundhouse/opts.Stamp" (WO q l) ((wA q L)) (fun v h'=>v=zg2 l∧h'= (wA q L)):=by
 refine Env.by2 PrC.opts_Stamp ?_
 unfold zhr
 show GC _ 1 _ _ ⟨reg (vF 0 q 0 l),(wA q L)⟩
 have hwl:=walkL_len l
 refine zJ (zN (o_d 4 [(5,bv false),(4,.int .u32 0),(3,.int .u32 0),(2,iv 0)] (zE (zA (zJ (zN (o_d 1 (vF 10 q 0 l) (qV (zaD [0] (wA q L) (WO q l) (WalkC q L l hr om) rfl (zQ (qG rfl) rfl) ⟨⟨_,rfl,z4 (zH _) rfl (fun q=>q)⟩,trivial⟩ dC ?_)))))))))
 rintro v1 h1' ⟨m1,hm1,rfl,rfl⟩
 refine ⟨q9 [_] [_],.tuple #[inV (m1.map fun _=>(zbU l).length) 1 ((zbU l).length),iv (zfz l)],(wA q L),[slB zO (za4 otF (zbU l)) m1],(ren_inT _ rfl),⟨(zaV rfl rfl),trivial⟩,⟨(Option.some.inj (zaa m1 (fun _=>(zbi _ _)))).symm,trivial⟩, ?_⟩
 refine o_d 5 [(7,iv (zfz l)),(6,inV (m1.map fun _=>(zbU l).length) 1 ((zbU l).length)),(13,iv (zfz l)),(12,inV (m1.map fun _=>(zbU l).length) 1 ((zbU l).length)),(9,.tuple #[inV (m1.map fun _=>(zbU l).length) 1 ((zbU l).length),iv (zfz l)])] ?_
 refine zE (zA (zJ (zJ (zN (o_d 2 [(15,bv ((zfz l)!=0)),(14,iv (zfz l))] (zE (zA (qJ (t:=(zfz l)!=0) rfl (fun h2=>?_) (fun h2=>?_)))))))))
 ·skip
  have h2':zfz l≠0:=ze5 h2
  exact zJ (zN (o_d 4 [(5,bv false),(4,.int .u32 0),(3,.int .u32 0),(2,iv 0)] (zE (zA (qW (⟨trivial,⟨reg [(2,iv 0),(3,.int .u32 0),(4,.int .u32 0),(5,bv false)],(wA q L)⟩,Wk.ren [0] rfl rfl dC ⟨rfl,rfl,rfl,rfl,trivial⟩ ⟨.inl (zF (zH _)),trivial⟩,[iv 0,.int .u32 0,.int .u32 0,bv false],(zT rfl (zT rfl (zT rfl (zT rfl rfl)))),(zM rfl (zM rfl (zM rfl (zM rfl z5)))),(by rw [zg2,stampO_bad (by assumption)];rfl),rfl⟩))))))
 have h2': ¬(zfz l≠0):=ze6 h2
 refine qK (zA (zJ (zN (o_d 1 [(17,inV (m1.map fun _=>(zbU l).length) 1 ((zbU l).length))] ?_))))
 obtain ⟨x3,hx3⟩: ∃z9,findO (zbU l)=z9:=⟨_,rfl⟩
 obtain ⟨b4,hb4⟩: ∃z9,(zbU l).any zja=z9:=⟨_,rfl⟩
 refine qV (callIn2 1 (findC (m1.map fun _=>(zbU l).length) (m1.getD 0) (zbU l) (fun q=>hm1 (by cases m1<;>first | rfl | cases q)) om x3 b4 hx3 hb4) rfl rfl rfl (zbi _ _) rfl rfl rfl ?_)
 refine o_b 6 [(5,bv b4),(8,pv 2 0),(20,bv b4),(19,.agg #[iv x3.k,iv (x3.a:Nat),iv x3.n]),(16,.tuple #[.agg #[iv x3.k,iv (x3.a:Nat),iv x3.n],bv b4])] [zG q (u8 L) false,slB zO (za4 otF (zbU l)) m1,cw [iv x3.k,iv (x3.a:Nat),iv x3.n]] (zE (zA (zJ (zJ (zN (o_d 2 [(22,bv (!b4)),(21,bv b4)] (zE (zA (qJ (t:= !b4) rfl (fun h5=>?_) (fun h5=>?_))))))))))
 ·skip
  have h6:b4=false:=not_t h5
  exact zJ (zN (o_d 4 [(5,bv false),(4,.int .u32 0),(3,.int .u32 0),(2,iv 0)] (zE (zU [(5,bv false),(4,.int .u32 0),(3,.int .u32 0),(2,iv 0)] (qW (⟨trivial,⟨reg [(2,iv 0),(3,.int .u32 0),(4,.int .u32 0),(5,bv false)],(wA q L)⟩,Wk.ren [0] rfl rfl dC ⟨rfl,rfl,rfl,rfl,trivial⟩ ⟨.inl (zF (zH _)),trivial⟩,[iv 0,.int .u32 0,.int .u32 0,bv false],(zT rfl (zT rfl (zT rfl (zT rfl rfl)))),(zM rfl (zM rfl (zM rfl (zM rfl z5)))),(by rw [zg2,zic (by rw [hb4];assumption)];rfl),rfl⟩))))))
 have h7:b4=true:=not_f h5
 have hx9:=(zfQ (b:=l) (by rw [hb4];exact h7)).2
 rw [hx3] at hx9
 obtain ⟨o,c,rfl⟩: ∃o c,q=some (o,c):=by cases q with | none=>(have:=hr.nil rfl;omega) | some p=>exact ⟨p.1,p.2,rfl⟩
 refine qK (zU [(8,pv 2 0),(0,zS (some (o,c)) 0 l.length)] (zJ (zN (o_d 2 [(24,iv (x3.a:Nat)),(23,pv 2 1)] (o_s (by refine zK (v:= .int .i64 (i64.wrap ((x3.a:Nat)+2))) (congrArg wg (w64 om om)) ?_;kernel_rfl) ?_)))))
 refine o_d 1 [(2,iv ((x3.a:Nat)+2))] (zE (zA (zJ (zbe [] (r_d 3 [(28,iv ((x3.a:Nat)+2)),(27,zS (some (o,c)) 0 l.length),(26,iv ((x3.a:Nat)+2))] ?_)))))
 obtain ⟨qz8,lz8,hlz8,hn8z,hq8z,hr8z,hs8z⟩:=zca (k:=0) hr (lo:=(some (iv ((x3.a:Nat)+2)))) (hi:=none) (mx:=none) (x3.a+2) l.length om (.inr (by first | rfl | (congr 2;omega))) (.inl ⟨rfl,rfl,rfl⟩) (.inl rfl)
 have hs8y:=hs8z.trans (rfl:(some (o,c)).isSome=(some (o,c)).isSome)
 obtain ⟨oz8,cz8,rfl⟩: ∃o c,qz8=some (o,c):=by cases qz8 with | none=>(have:=hr8z.nil rfl;omega) | some p=>exact ⟨p.1,p.2,rfl⟩
 refine r_s (by exact zaN rfl hq8z) ?_
 refine zeJ (zfb (a1:= [zS (some (oz8,cz8)) 0 lz8.length]) [0] [u8 L] (onumC (some (oz8,cz8)) L lz8 hr8z om) rfl (fun _=>rfl) ⟨⟨_,rfl⟩,zH _,trivial⟩ rfl ?_)
 have hn9:=(zcJ lz8 0).2.2.2
 refine r_d 2 [(32,iv ((x3.a:Nat)+2)),(31,zS (some (o,c)) 0 l.length)] (r_s (by refine zK (v:= .int .i64 (i64.wrap ((x3.a:Nat)+2+4))) (congrArg wg (w64 om om)) ?_;kernel_rfl) ?_)
 obtain ⟨qz10,lz10,hlz10,hn10z,hq10z,hr10z,hs10z⟩:=zca (k:=0) hr (lo:=(some (iv ((x3.a:Nat)+2+4)))) (hi:=none) (mx:=none) (x3.a+2+4) l.length om (.inr (by first | rfl | (congr 2;omega))) (.inl ⟨rfl,rfl,rfl⟩) (.inl rfl)
 have hs10y:=hs10z.trans (rfl:(some (o,c)).isSome=(some (o,c)).isSome)
 obtain ⟨oz10,cz10,rfl⟩: ∃o c,qz10=some (o,c):=by cases qz10 with | none=>(have:=hr10z.nil rfl;omega) | some p=>exact ⟨p.1,p.2,rfl⟩
 refine r_s (by exact zaN rfl hq10z) ?_
 refine zeJ (zfb (a1:= [zS (some (oz10,cz10)) 0 lz10.length]) [0] [u8 L] (onumC (some (oz10,cz10)) L lz10 hr10z om) rfl (fun _=>rfl) ⟨⟨_,rfl⟩,zH _,trivial⟩ rfl ?_)
 have hn11:=(zcJ lz10 0).2.2.2
 refine r_d 4 [(5,bv true),(4,.int .u32 (qD lz10 0 4)),(3,.int .u32 (qD lz8 0 4)),(2,iv ((x3.a:Nat)+2))] (za3 (zA (qW ?_)))
 have h9:zcy l=some (x3.a+2):=by have:=(zfQ (b:=l) (by rw [hb4];assumption)).1;rw [this,hx3]
 have e1:qD lz8 0 4=qD l (x3.a+2) 4:=ziv hlz8 0 4 om
 have e2:qD lz10 0 4=qD l (x3.a+2+4) 4:=ziv hlz10 0 4 om
 exact ⟨trivial,⟨reg [(2,iv ((x3.a:Nat)+2)),(3,.int .u32 (qD lz8 0 4)),(4,.int .u32 (qD lz10 0 4)),(5,bv true)],[zG (some (o,c)) (u8 L) false]⟩,Wk.ren [0] rfl rfl dC ⟨rfl,rfl,rfl,rfl,trivial⟩ ⟨.inl (zF (zH _)),trivial⟩,[iv ((x3.a:Nat)+2),.int .u32 (qD lz8 0 4),.int .u32 (qD lz10 0 4),bv true],(zT rfl (zT rfl (zT rfl (zT rfl rfl)))),(zM rfl (zM rfl (zM rfl (zM rfl z5)))),(by rw [e1,e2,zg2,h9];rfl),rfl⟩
end Go.Rh

set_option maxHeartbeats 1000000
namespace Go.Rh
def xoN (a b:Int):Int:=((a.toNat^^^b.toNat:Nat):Int)
theorem zhU {a b:Int} (ha:0≤a∧a < 4611686018427387904) (hb:0≤b∧b < 4611686018427387904):i64.wrap ((BitVec.ofInt 64 a^^^BitVec.ofInt 64 b).toNat)=xoN a b:=by
 obtain ⟨m,rfl⟩:=Int.eq_ofNat_of_zero_le ha.1
 obtain ⟨n,rfl⟩:=Int.eq_ofNat_of_zero_le hb.1
 have h1:(BitVec.ofInt 64 (m:Int)^^^BitVec.ofInt 64 (n:Int)).toNat=m^^^n:=by
  rw [BitVec.toNat_xor,BitVec.ofInt_natCast,BitVec.ofInt_natCast,BitVec.toNat_ofNat,BitVec.toNat_ofNat,Nat.mod_eq_of_lt om,Nat.mod_eq_of_lt om]
 have h2:m^^^n < 2^62:=Nat.xor_lt_two_pow om om
 rw [h1]
 show i64.wrap ((m^^^n:Nat):Int)=((m^^^n:Nat):Int)
 exact w64 om om
theorem xoN_r {a b:Int} (ha:0≤a∧a < 64) (hb:0≤b∧b < 64):0≤xoN a b∧xoN a b < 64:=by
 have h2:a.toNat^^^b.toNat < 2^6:=Nat.xor_lt_two_pow om om
 unfold xoN;omega
theorem xoN_2 {a b:Int} (ha:0≤a):xoN (xoN a b) b=a:=by
 unfold xoN
 rw [Int.toNat_natCast,Nat.xor_assoc,Nat.xor_self,Nat.xor_zero];omega
structure Rg where
  (e pa pb ca cb na nb:Int)
structure Fl where
  (a p ta tp:Int)
def TB (k:Int):Int:=if k=2 then 256 else 4096
theorem TB_r (k:Int):TB k=256∨TB k=4096:=by unfold TB;split<;>simp
def zaJ (ka kb k:Int) (f:Fl) (s e:Int):Int:=zan ka kb [k,f.a,f.p,f.ta,f.tp,s,e]
def zaL (ka kb k:Int) (f:Fl) (e:Int):Int:=zaJ ka kb k f 64 e % 64
def zeo (ka kb k:Int) (f:Fl) (s e:Int):Int:=zaJ ka kb k f s e % TB k
theorem zeO (ka kb k:Int) (f:Fl) (e:Int):0≤zaL ka kb k f e∧zaL ka kb k f e < 64:=by unfold zaL;omega
theorem tagS_r (ka kb k:Int) (f:Fl) (s e:Int):0≤zeo ka kb k f s e∧zeo ka kb k f s e < TB k:=by
 unfold zeo;rcases TB_r k with h | h<;>rw [h]<;>omega
def zad (r:Rg) (k:Int) (f:Fl) (s:Int):Int:=(r.e % 4*64+xoN s (zaL r.ca r.cb k f (r.e % 4)))*TB k+zeo r.ca r.cb k f s (r.e % 4)
theorem cookS_r (r:Rg) (k:Int) (f:Fl) {s:Int} (hs:0≤s∧s < 64):0≤zad r k f s∧zad r k f s < 256*TB k:=by
 have h1:=xoN_r hs (zeO r.ca r.cb k f (r.e % 4))
 have h2:=tagS_r r.ca r.cb k f s (r.e % 4)
 unfold zad;rcases TB_r k with h | h<;>rw [h] at h2 ⊢<;>omega
def atS (e0 e a0 b0 a1 b1 a2 b2:Int):Option (Int×Int):=if (e0+0) % 4=e % 4 then some (a0,b0) else if (e0+1) % 4=e % 4 then some (a1,b1) else if (e0+2) % 4=e % 4 then some (a2,b2) else none
def keyS (r:Rg) (e:Int):Option (Int×Int):=atS (r.e - 1) e r.pa r.pb r.ca r.cb r.na r.nb
def kpV:Option (Int×Int)→Value
 | none=> .tuple #[.agg #[uv 0,uv 0],bv false]
 | some x=> .tuple #[.agg #[uv x.1,uv x.2],bv true]
def readT (k c:Int) (f:Fl) (x:Int×Int):Option Int:=
 if zeo x.1 x.2 k f (xoN (c / TB k % 64) (zaL x.1 x.2 k f (c / (64*TB k)))) (c / (64*TB k))=c % TB k then some (xoN (c / TB k % 64) (zaL x.1 x.2 k f (c / (64*TB k)))) else none
def ze1 (r:Rg) (k:Int) (f:Fl) (c:Int):Option Int:=
 if c < 0∨256*TB k≤c then none else (keyS r (c / (64*TB k))).bind (readT k c f)
def zd8:Option Int→Value
 | none=> .tuple #[iv 0,bv false]
 | some s=> .tuple #[iv s,bv true]
theorem readS_r {r:Rg} {k:Int} {f:Fl} {c s:Int} (h:ze1 r k f c=some s):0≤s∧s < 64:=by
 unfold ze1 at h;split at h
 ·cases h
 cases hk:keyS r (c / (64*TB k)) with
 | none=>rw [hk] at h;cases h
 | some x=>
  rw [hk] at h;simp only [Option.bind_some,readT] at h
  split at h
  ·cases h;exact xoN_r om (zeO _ _ _ _ _)
  ·cases h
theorem zgD {P:Program} {g:String} {l:List Int} {a:Nat} {A:List Value} {h1 h2:List Blk} (h:zcy l=some a) (hc:Env P g A h1 (fun v h'=>v=zg2 l∧h'=h2)):Env P g A h1 (fun v h'=>v= .tuple #[iv (a:Nat),.int .u32 (qD l a 4),.int .u32 (qD l (a+4) 4),bv true]∧h'=h2):=by
 simpa only [zg2,h,u32v] using hc
theorem zgE {P:Program} {g:String} {l:List Int} {A:List Value} {h1 h2:List Blk} (h:zcy l=none) (hc:Env P g A h1 (fun v h'=>v=zg2 l∧h'=h2)):Env P g A h1 (fun v h'=>v= .tuple #[iv 0,.int .u32 0,.int .u32 0,bv false]∧h'=h2):=by
 simpa only [zg2,h,u32v] using hc
def zbT (v c:Int):Int:=v / 256 % 4096*1048576+c % 1048576
def backF (d:Int):Int:=if d≥524288 then d - 1048576 else if d < -524288 then d+1048576 else d
def zfY (v n:Int):Int:=IntKind.u32.wrap (n / 256*256+backF (zdB (n / 256*256 % 1048576) (v / 1048576*256)) % 4294967296)
theorem farS_r (a b:Int): -2147483648≤zdB a b∧zdB a b < 2147483648:=by
 have h: -2147483648≤IntKind.i32.wrap (IntKind.u32.wrap (b - a))∧IntKind.i32.wrap (IntKind.u32.wrap (b - a)) < 2147483648:=by
  generalize IntKind.u32.wrap (b - a)=x
  have e:(2:Int)^32=4294967296:=by decide
  have e2:(2:Int)^31=2147483648:=by decide
  simp only [IntKind.wrap,IntKind.bits,IntKind.signed]
  simp
  omega
 unfold zdB;rw [w64 om om];exact h
theorem lo8 {n:Int} (h:0≤n∧n < 4294967296):IntKind.u32.wrap ((BitVec.ofInt 32 n&&& ~~~(BitVec.ofInt 32 255)).toNat)=n / 256*256:=by
 obtain ⟨m,rfl⟩:=Int.eq_ofNat_of_zero_le h.1
 have e1:(BitVec.ofInt 32 (m:Int)&&& ~~~(BitVec.ofInt 32 255)).toNat=m / 256*256:=by
  have: ~~~(BitVec.ofInt 32 255)=BitVec.ofNat 32 4294967040:=by decide
  rw [this,BitVec.ofInt_natCast,BitVec.toNat_and,BitVec.toNat_ofNat,BitVec.toNat_ofNat,Nat.mod_eq_of_lt om,Nat.mod_eq_of_lt dC]
  refine Nat.eq_of_testBit_eq fun i=>?_
  rw [Nat.testBit_and,show m / 256*256=(m >>> 8) <<< 8 by rw [Nat.shiftRight_eq_div_pow,Nat.shiftLeft_eq]]
  simp only [Nat.testBit_shiftLeft,Nat.testBit_shiftRight]
  rw [show (4294967040:Nat)=(2^24 - 1) <<< 8 by decide]
  simp only [Nat.testBit_shiftLeft,Nat.testBit_two_pow_sub_one]
  by_cases hi:8≤i
  ·rw [show 8+(i - 8)=i by omega]
   by_cases h2:i - 8 < 24
   ·simp [hi,h2]
   ·simp only [hi,h2,decide_false,Bool.and_false,decide_true,Bool.true_and]
    exact (Nat.testBit_lt_two_pow (Nat.lt_of_lt_of_le (by omega:m < 2^32) (Nat.pow_le_pow_right dC om))).symm
  ·simp [hi]
 rw [e1];exact zby om
theorem zh5 {P:Program} [PrC P] (e:Int):
    Env P "roundhouse/cookie.turn" [iv e] ([]) (Ans (iv (e % 4)) ([])):=by
 refine Env.by PrC.cookie_turn ?_
 unfold zgw
 show GC _ 0 _ _ ⟨reg [(0,iv e)],[]⟩
 refine zJ (zN (o_d 1 [(2,iv 0)] (zE (zA (zJ (zN (o_d 1 [(3,iv e)] (o_s (by refine zK (congrArg wg (zcr (k:= .i64) 2 (M:=3) (R:=4) (x:=e) dC rfl rfl)) ?_;kernel_rfl) ?_))))))))
 refine o_d 1 [(2,iv (e % 4))] (zE (zA (qW ?_)))
 have E0_:e % 4=e % 4:=by
  rfl
 exact z7 [iv (e % 4)] (zT rfl rfl) rfl (by rw [E0_];rfl) rfl rfl
theorem tb8C {P:Program} [PrC P] (k:Int) (h:k=2):
    Env P "roundhouse/cookie.tagBits" [iv k] ([]) (Ans (iv 8) ([])):=by
 refine Env.by PrC.cookie_tagBits ?_
 unfold zda
 show GC _ 0 _ _ ⟨reg [(0,iv k)],[]⟩
 refine zJ (zN (o_d 1 [(2,iv 0)] (zE (zA (zJ (zJ (zN (o_d 2 [(4,bv (k==2)),(3,iv k)] (zE (zA (qJ (t:=k==2) rfl (fun _=>?_) (fun q=>by rw [(by simp [h]:(k==2)=true)] at q;cases q))))))))))))
 exact zJ (zN (o_d 1 [(2,iv 8)] (zE (zA (qW (z7 [iv 8] (zT rfl rfl) rfl (by rfl) rfl rfl))))))
theorem tb12C {P:Program} [PrC P] (k:Int) (h: ¬k=2):
    Env P "roundhouse/cookie.tagBits" [iv k] ([]) (Ans (iv 12) ([])):=by
 refine Env.by PrC.cookie_tagBits ?_
 unfold zda
 show GC _ 0 _ _ ⟨reg [(0,iv k)],[]⟩
 refine zJ (zN (o_d 1 [(2,iv 0)] (zE (zA (zJ (zJ (zN (o_d 2 [(4,bv (k==2)),(3,iv k)] (zE (zA (qJ (t:=k==2) rfl (fun q=>by rw [(by simp [h]:(k==2)=false)] at q;cases q) (fun _=>?_))))))))))))
 exact qK (zA (zJ (zN (o_d 1 [(2,iv 12)] (zE (zA (qW (z7 [iv 12] (zT rfl rfl) rfl (by rfl) rfl rfl))))))))
abbrev vm a (b:Int) (c:Int) (d:Int) (e:Int) (f:Int) (g:Int) (h:Int) (i:Int):=[(12,iv a),(11,.agg #[uv b,uv c,uv d,uv e,uv f,uv g]),(6,pv 1 0),(1,iv h),(2,iv i)]
theorem keyAtC {P:Program} [PrC P] (e0 e a0 b0 a1 b1 a2 b2:Int) (o:Option (Int×Int)) (ho:atS e0 e a0 b0 a1 b1 a2 b2=o) (hb: -4611686018427387904≤e0∧e0≤4611686018427387904):
    Env P "(roundhouse/cookie.three[roundhouse/api.Key]).at" [.agg #[uv a0,uv b0,uv a1,uv b1,uv a2,uv b2],iv e0,iv e] ([]) (Ans (kpV o) ([])):=by
 refine Env.by PrC.cookie_three_api_Key_at ?_
 unfold zcg
 show GC _ 0 _ _ ⟨reg [(0,.agg #[uv a0,uv b0,uv a1,uv b1,uv a2,uv b2]),(1,iv e0),(2,iv e)],[]⟩
 refine zJ (zN (o_b 3 [(7,bv false),(6,pv 1 0),(3,pv 0 0)] [cw (yD a0 b0 a1 b1 a2 b2),cw [uv 0,uv 0]] (zE (zA (zJ (zJ (zN (o_d 2 [(12,iv 0),(11,.agg #[uv a0,uv b0,uv a1,uv b1,uv a2,uv b2])] (zE (zA (qU (zcs (fun μ s=>(μ=3∧(0=0)∧s=⟨reg (vm 0 a0 b0 a1 b1 a2 b2 e0 e),[cw (yD a0 b0 a1 b1 a2 b2),cw [uv 0,uv 0]]⟩)∨(μ=2∧(0=0∧¬(e0+0) % 4=e % 4)∧s=⟨reg (vm 1 a0 b0 a1 b1 a2 b2 e0 e),[cw (yD a0 b0 a1 b1 a2 b2),cw [uv 0,uv 0]]⟩)∨(μ=1∧(0=0∧¬(e0+0) % 4=e % 4∧¬(e0+1) % 4=e % 4)∧s=⟨reg (vm 2 a0 b0 a1 b1 a2 b2 e0 e),[cw (yD a0 b0 a1 b1 a2 b2),cw [uv 0,uv 0]]⟩)∨(μ=0∧(0=0∧¬(e0+0) % 4=e % 4∧¬(e0+1) % 4=e % 4∧¬(e0+2) % 4=e % 4)∧s=⟨reg (vm 3 a0 b0 a1 b1 a2 b2 e0 e),[cw (yD a0 b0 a1 b1 a2 b2),cw [uv 0,uv 0]]⟩)) ⟨3, ?_⟩ ?_))))))))))))
 ·skip
  refine ⟨⟨reg (vm 0 a0 b0 a1 b1 a2 b2 e0 e),[cw (yD a0 b0 a1 b1 a2 b2),cw [uv 0,uv 0]]⟩, ?_⟩
  refine ⟨?_, ?_⟩
  ·exact Wk.ren [0,1] rfl rfl dC ⟨rfl,((qN rfl)).trans rfl,rfl,rfl,rfl,trivial⟩ ⟨.inl rfl,.inl rfl,trivial⟩
  ·exact .inl ⟨rfl,om,rfl⟩
 ·rintro μ s (⟨rfl,hU,rfl⟩ | ⟨rfl,hU,rfl⟩ | ⟨rfl,hU,rfl⟩ | ⟨rfl,hU,rfl⟩)
  ·skip
   refine zJ (zN (o_d 1 [(13,bv true)] (zE (zA (zJ (zc8 rfl (qK (zA (zJ (qU (zJ (zN ?_))))))))))))
   refine o_b 5 [(8,iv 0),(9,pv 2 0),(15,.agg #[uv a0,uv b0]),(14,iv 0)] [cw (yD a0 b0 a1 b1 a2 b2),cw [uv 0,uv 0],cw [uv a0,uv b0]] (zE (zA (zJ (zN (o_d 2 [(17,iv 0),(16,iv e0)] (o_s (by refine zK (v:= .int .i64 (i64.wrap (e0+0))) (congrArg wg (w64 om om)) ?_;kernel_rfl) ?_))))))
   refine qV (zab (zh5 (e0+0)) rfl rfl rfl (o_d 1 [(20,iv e)] (qV (zab (zh5 e) rfl rfl rfl (o_d 1 [(22,bv (((e0+0) % 4)==(e % 4)))] (zE (zA (qJ (t:=((e0+0) % 4)==(e % 4)) rfl (fun h1=>?_) (fun h1=>?_)))))))))
   ·skip
    have h1':(e0+0) % 4=e % 4:=zaQ h1
    refine zJ (zN (o_b 3 [(7,bv true),(23,.agg #[uv a0,uv b0])] [cw (yD a0 b0 a1 b1 a2 b2),cw [uv a0,uv b0],cw [uv a0,uv b0]] (zE (zA (qW ?_)))))
    have E0_:kpV o=(.tuple #[.agg #[uv a0,uv b0],bv true]):=by
     have h9:atS e0 e a0 b0 a1 b1 a2 b2=o:=ho
     unfold atS at h9
     rw [if_pos om] at h9
     subst h9;rfl
    exact z7 [.agg #[uv a0,uv b0],bv true] (q8 rfl rfl rfl (zT rfl rfl)) rfl (by rw [E0_];rfl) rfl rfl
   have h1': ¬((e0+0) % 4=e % 4):=zaR h1
   refine qK (zA (zN (o_d 2 [(12,iv 1),(24,iv 1)] (zE (⟨2, ?_⟩)))))
   refine ⟨⟨reg (vm 1 a0 b0 a1 b1 a2 b2 e0 e),[cw (yD a0 b0 a1 b1 a2 b2),cw [uv 0,uv 0]]⟩, ?_⟩
   refine zde dC ⟨?_, ?_⟩
   ·exact Wk.ren [0,1] rfl rfl dC ⟨rfl,((qN rfl)).trans rfl,rfl,rfl,rfl,trivial⟩ ⟨.inl rfl,.inl rfl,trivial⟩
   ·exact .inr (.inl ⟨rfl,om,rfl⟩)
  ·skip
   refine zJ (zN (o_d 1 [(13,bv true)] (zE (zA (zJ (zc8 rfl (qK (zA (zJ (qU (zJ (zN ?_))))))))))))
   refine o_b 5 [(8,iv 1),(9,pv 2 0),(15,.agg #[uv a1,uv b1]),(14,iv 1)] [cw (yD a0 b0 a1 b1 a2 b2),cw [uv 0,uv 0],cw [uv a1,uv b1]] (zE (zA (zJ (zN (o_d 2 [(17,iv 1),(16,iv e0)] (o_s (by refine zK (v:= .int .i64 (i64.wrap (e0+1))) (congrArg wg (w64 om om)) ?_;kernel_rfl) ?_))))))
   refine qV (zab (zh5 (e0+1)) rfl rfl rfl (o_d 1 [(20,iv e)] (qV (zab (zh5 e) rfl rfl rfl (o_d 1 [(22,bv (((e0+1) % 4)==(e % 4)))] (zE (zA (qJ (t:=((e0+1) % 4)==(e % 4)) rfl (fun h2=>?_) (fun h2=>?_)))))))))
   ·skip
    have h2':(e0+1) % 4=e % 4:=zaQ h2
    refine zJ (zN (o_b 3 [(7,bv true),(23,.agg #[uv a1,uv b1])] [cw (yD a0 b0 a1 b1 a2 b2),cw [uv a1,uv b1],cw [uv a1,uv b1]] (zE (zA (qW ?_)))))
    have E0_:kpV o=(.tuple #[.agg #[uv a1,uv b1],bv true]):=by
     have h9:atS e0 e a0 b0 a1 b1 a2 b2=o:=ho
     unfold atS at h9
     rw [if_neg om,if_pos om] at h9
     subst h9;rfl
    exact z7 [.agg #[uv a1,uv b1],bv true] (q8 rfl rfl rfl (zT rfl rfl)) rfl (by rw [E0_];rfl) rfl rfl
   have h2': ¬((e0+1) % 4=e % 4):=zaR h2
   refine qK (zA (zN (o_d 2 [(12,iv 2),(24,iv 2)] (zE (⟨1, ?_⟩)))))
   refine ⟨⟨reg (vm 2 a0 b0 a1 b1 a2 b2 e0 e),[cw (yD a0 b0 a1 b1 a2 b2),cw [uv 0,uv 0]]⟩, ?_⟩
   refine zde dC ⟨?_, ?_⟩
   ·exact Wk.ren [0,1] rfl rfl dC ⟨rfl,((qN rfl)).trans rfl,rfl,rfl,rfl,trivial⟩ ⟨.inl rfl,.inl rfl,trivial⟩
   ·exact .inr (.inr (.inl ⟨rfl,om,rfl⟩))
  ·skip
   refine zJ (zN (o_d 1 [(13,bv true)] (zE (zA (zJ (zc8 rfl (qK (zA (zJ (qU (zJ (zN ?_))))))))))))
   refine o_b 5 [(8,iv 2),(9,pv 2 0),(15,.agg #[uv a2,uv b2]),(14,iv 2)] [cw (yD a0 b0 a1 b1 a2 b2),cw [uv 0,uv 0],cw [uv a2,uv b2]] (zE (zA (zJ (zN (o_d 2 [(17,iv 2),(16,iv e0)] (o_s (by refine zK (v:= .int .i64 (i64.wrap (e0+2))) (congrArg wg (w64 om om)) ?_;kernel_rfl) ?_))))))
   refine qV (zab (zh5 (e0+2)) rfl rfl rfl (o_d 1 [(20,iv e)] (qV (zab (zh5 e) rfl rfl rfl (o_d 1 [(22,bv (((e0+2) % 4)==(e % 4)))] (zE (zA (qJ (t:=((e0+2) % 4)==(e % 4)) rfl (fun h3=>?_) (fun h3=>?_)))))))))
   ·skip
    have h3':(e0+2) % 4=e % 4:=zaQ h3
    refine zJ (zN (o_b 3 [(7,bv true),(23,.agg #[uv a2,uv b2])] [cw (yD a0 b0 a1 b1 a2 b2),cw [uv a2,uv b2],cw [uv a2,uv b2]] (zE (zA (qW ?_)))))
    have E0_:kpV o=(.tuple #[.agg #[uv a2,uv b2],bv true]):=by
     have h9:atS e0 e a0 b0 a1 b1 a2 b2=o:=ho
     unfold atS at h9
     rw [if_neg om,if_neg om,if_pos om] at h9
     subst h9;rfl
    exact z7 [.agg #[uv a2,uv b2],bv true] (q8 rfl rfl rfl (zT rfl rfl)) rfl (by rw [E0_];rfl) rfl rfl
   have h3': ¬((e0+2) % 4=e % 4):=zaR h3
   refine qK (zA (zN (o_d 2 [(12,iv 3),(24,iv 3)] (zE (⟨0, ?_⟩)))))
   refine ⟨⟨reg (vm 3 a0 b0 a1 b1 a2 b2 e0 e),[cw (yD a0 b0 a1 b1 a2 b2),cw [uv 0,uv 0]]⟩, ?_⟩
   refine zde dC ⟨?_, ?_⟩
   ·exact Wk.ren [0,1] rfl rfl dC ⟨rfl,((qN rfl)).trans rfl,rfl,rfl,rfl,trivial⟩ ⟨.inl rfl,.inl rfl,trivial⟩
   ·exact .inr (.inr (.inr (⟨rfl,om,rfl⟩)))
  ·skip
   refine zJ (zN (o_d 1 [(13,bv false)] (zE (zA (zJ (zbc rfl (zb1 (zA (zJ (zN (o_b 1 [(10,pv 2 0)] [cw (yD a0 b0 a1 b1 a2 b2),cw [uv 0,uv 0],cw [uv 0,uv 0]] (zE ?_))))))))))))
   refine zA (zJ (zN (o_d 3 [(7,bv false),(25,.agg #[uv 0,uv 0])] (zE (zA (qW ?_))))))
   have E0_:kpV o=(.tuple #[.agg #[uv 0,uv 0],bv false]):=by
    have h9:atS e0 e a0 b0 a1 b1 a2 b2=o:=ho
    unfold atS at h9
    rw [if_neg om,if_neg om,if_neg om] at h9
    subst h9;rfl
   exact z7 [.agg #[uv 0,uv 0],bv false] (q8 rfl rfl rfl (zT rfl rfl)) rfl (by rw [E0_];rfl) rfl rfl
abbrev yJ (a:Rg):=#[iv a.e,uv a.pa,uv a.pb,uv a.ca,uv a.cb,uv a.na,uv a.nb]
abbrev v8 (a:Rg):=[iv a.e,uv a.pa,uv a.pb,uv a.ca,uv a.cb,uv a.na,uv a.nb]
theorem ckeyC {P:Program} [PrC P] (r:Rg) (e:Int) (o:Option (Int×Int)) (ho:keyS r e=o) (hb: -4611686018427387904≤r.e - 1∧r.e - 1≤4611686018427387904):
    Env P "roundhouse/cookie.Key" [.agg (yJ r),iv e] ([]) (Ans (kpV o) ([])):=by
 refine Env.by PrC.cookie_Key ?_
 unfold zhx
 show GC _ 0 _ _ ⟨reg [(0,.agg (yJ r)),(1,iv e)],[]⟩
 refine zJ (zN (o_b 3 [(5,bv false),(4,pv 1 0),(2,pv 0 0)] [cw (v8 r),cw [uv 0,uv 0]] (zE (zA (zJ (zN (o_d 9 [(14,iv r.e),(13,pv 0 0),(12,.agg #[uv r.pa,uv r.pb,uv r.ca,uv r.cb,uv r.na,uv r.nb]),(11,.agg #[uv r.na,uv r.nb]),(10,pv 0 5),(9,.agg #[uv r.ca,uv r.cb]),(8,pv 0 3),(7,.agg #[uv r.pa,uv r.pb]),(6,pv 0 1)] (o_s (by refine zK (v:= .int .i64 (i64.wrap (r.e - 1))) (congrArg wg (w64 om om)) ?_;kernel_rfl) ?_))))))))
 refine o_d 1 [(16,iv e)] ?_
 rcases q1:atS (r.e - 1) e r.pa r.pb r.ca r.cb r.na r.nb with _ | x2
 ·skip
  refine qV (zab (keyAtC (r.e - 1) e r.pa r.pb r.ca r.cb r.na r.nb none q1 om) rfl rfl rfl ?_)
  refine o_d 4 [(5,bv false),(19,bv false),(18,.agg #[uv 0,uv 0])] (zE (zA (qW ?_)))
  have E0_:kpV o=(.tuple #[.agg #[uv 0,uv 0],bv false]):=by
   exact congrArg kpV (ho.symm.trans (by assumption))
  exact z7 [.agg #[uv 0,uv 0],bv false] (q8 rfl rfl rfl (zT rfl rfl)) rfl (by rw [E0_];rfl) rfl rfl
 ·skip
  refine qV (zab (keyAtC (r.e - 1) e r.pa r.pb r.ca r.cb r.na r.nb (some x2) q1 om) rfl rfl rfl ?_)
  refine o_b 4 [(5,bv true),(19,bv true),(18,.agg #[uv x2.1,uv x2.2])] [cw (v8 r),cw [uv x2.1,uv x2.2]] (zE (zA (qW ?_)))
  have E0_:kpV o=(.tuple #[.agg #[uv x2.1,uv x2.2],bv true]):=by
   exact congrArg kpV (ho.symm.trans (by assumption))
  exact z7 [.agg #[uv x2.1,uv x2.2],bv true] (q8 rfl rfl rfl (zT rfl rfl)) rfl (by rw [E0_];rfl) rfl rfl
abbrev wK (b:Fl):=#[iv b.a,iv b.p,iv b.ta,iv b.tp]
abbrev w5 (b:Fl):=[iv b.a,iv b.p,iv b.ta,iv b.tp]
theorem csumC {P:Program} [PrC P] (ka kb k:Int) (f:Fl) (a b:Int):
    Env P "roundhouse/cookie.sum" [.agg #[uv ka,uv kb],iv k,.agg (wK f),iv a,iv b] ([]) (Ans (uv (zaJ ka kb k f a b)) ([])):=by
 refine Env.by PrC.cookie_sum ?_
 unfold zhv
 show GC _ 0 _ _ ⟨reg [(0,.agg #[uv ka,uv kb]),(1,iv k),(2,.agg (wK f)),(3,iv a),(4,iv b)],[]⟩
 refine zJ (zN (o_b 3 [(10,uv 0),(7,pv 1 0),(5,pv 0 0)] [cw [uv ka,uv kb],cw (w5 f)] (zE (zA (zJ (zN (o_b 13 [(23,sv 2 0 7 7),(22,iv b),(21,iv a),(20,iv f.tp),(19,pv 1 3),(18,iv f.ta),(17,pv 1 2),(16,iv f.p),(15,pv 1 1),(14,iv f.a),(13,pv 1 0),(12,iv k),(11,.agg #[uv ka,uv kb])] [cw [uv ka,uv kb],cw (w5 f),cw [iv k,iv f.a,iv f.p,iv f.ta,iv f.tp,iv a,iv b]] (qV (zdD (a1:= [.agg #[uv ka,uv kb],sv 0 0 7 7]) [2] [ii [k,f.a,f.p,f.ta,f.tp,a,b]] (wordsC ka kb [k,f.a,f.p,f.ta,f.tp,a,b] (by first | omega | decide | (simp;done))) rfl (fun _=>zQ (qN rfl) (zQ rfl rfl)) ⟨⟨_,rfl⟩,qS _,trivial⟩ rfl ?_)))))))))
 refine o_d 1 [(10,uv (zan ka kb [k,f.a,f.p,f.ta,f.tp,a,b]))] (zE (zU [(10,uv (zan ka kb [k,f.a,f.p,f.ta,f.tp,a,b]))] (qW ?_)))
 have E0_:zaJ ka kb k f a b=zan ka kb [k,f.a,f.p,f.ta,f.tp,a,b]:=by
  rfl
 exact z7 [uv (zan ka kb [k,f.a,f.p,f.ta,f.tp,a,b])] (zT rfl rfl) rfl (by rw [E0_];rfl) rfl rfl
theorem veilC {P:Program} [PrC P] (ka kb k:Int) (f:Fl) (e:Int):
    Env P "roundhouse/cookie.veil" [.agg #[uv ka,uv kb],iv k,.agg (wK f),iv e] ([]) (Ans (iv (zaL ka kb k f e)) ([])):=by
 refine Env.by PrC.cookie_veil ?_
 unfold zgv
 show GC _ 0 _ _ ⟨reg [(0,.agg #[uv ka,uv kb]),(1,iv k),(2,.agg (wK f)),(3,iv e)],[]⟩
 refine zJ (zN (o_b 3 [(8,iv 0),(6,pv 1 0),(4,pv 0 0)] [cw [uv ka,uv kb],cw (w5 f)] (zE (zA (zJ (zN (o_d 4 [(12,iv e),(11,.agg (wK f)),(10,iv k),(9,.agg #[uv ka,uv kb])] (qV (zab (csumC ka kb k f 64 e) rfl rfl rfl (o_s (by refine zK (congrArg Yb (zcr (k:= .u64) 6 (M:=63) (R:=64) (x:=zaJ ka kb k f 64 e) dC rfl rfl)) ?_;kernel_rfl) ?_))))))))))
 refine o_s (by refine zK (v:= .int .i64 (i64.wrap ((zaJ ka kb k f 64 e) % 64))) (congrArg wg (w64 om om)) ?_;kernel_rfl) ?_
 refine o_d 1 [(8,iv ((zaJ ka kb k f 64 e) % 64))] (zE (zA (qW ?_)))
 have E0_:zaL ka kb k f e=(zaJ ka kb k f 64 e) % 64:=by
  rfl
 exact z7 [iv ((zaJ ka kb k f 64 e) % 64)] (zT rfl rfl) rfl (by rw [E0_];rfl) rfl rfl
theorem ctagC {P:Program} [PrC P] (ka kb k:Int) (f:Fl) (s e:Int):
    Env P "roundhouse/cookie.tag" [.agg #[uv ka,uv kb],iv k,.agg (wK f),iv s,iv e] ([]) (Ans (iv (zeo ka kb k f s e)) ([])):=by
 refine Env.by PrC.cookie_tag ?_
 unfold zhu
 show GC _ 0 _ _ ⟨reg [(0,.agg #[uv ka,uv kb]),(1,iv k),(2,.agg (wK f)),(3,iv s),(4,iv e)],[]⟩
 refine zJ (zN (o_b 3 [(10,iv 0),(7,pv 1 0),(5,pv 0 0)] [cw [uv ka,uv kb],cw (w5 f)] (zE (zA (zJ (zN (o_d 5 [(15,iv e),(14,iv s),(13,.agg (wK f)),(12,iv k),(11,.agg #[uv ka,uv kb])] (qV (zab (csumC ka kb k f s e) rfl rfl rfl (o_d 1 [(17,iv k)] ?_))))))))))
 rcases Decidable.em (k=2) with t1 | t1
 ·skip
  have t1b:TB k=256:=if_pos t1
  refine qV (zab (tb8C k t1) rfl rfl rfl (o_d 2 [(20,uv 255),(19,uv 256)] (o_s (by refine zK (congrArg Yb (zcr (k:= .u64) 8 (M:=255) (R:=256) (x:=zaJ ka kb k f s e) dC rfl rfl)) ?_;kernel_rfl) ?_)))
  refine o_s (by refine zK (v:= .int .i64 (i64.wrap ((zaJ ka kb k f s e) % 256))) (congrArg wg (w64 om om)) ?_;kernel_rfl) ?_
  refine o_d 1 [(10,iv ((zaJ ka kb k f s e) % 256))] (zE (zA (qW ?_)))
  have E0_:zeo ka kb k f s e=(zaJ ka kb k f s e) % 256:=by
   unfold zeo;simp only [TB, *];rfl
  exact z7 [iv ((zaJ ka kb k f s e) % 256)] (zT rfl rfl) rfl (by rw [E0_];rfl) rfl rfl
 ·skip
  have t1b:TB k=4096:=if_neg t1
  refine qV (zab (tb12C k t1) rfl rfl rfl (o_d 2 [(20,uv 4095),(19,uv 4096)] (o_s (by refine zK (congrArg Yb (zcr (k:= .u64) 12 (M:=4095) (R:=4096) (x:=zaJ ka kb k f s e) dC rfl rfl)) ?_;kernel_rfl) ?_)))
  refine o_s (by refine zK (v:= .int .i64 (i64.wrap ((zaJ ka kb k f s e) % 4096))) (congrArg wg (w64 om om)) ?_;kernel_rfl) ?_
  refine o_d 1 [(10,iv ((zaJ ka kb k f s e) % 4096))] (zE (zA (qW ?_)))
  have E0_:zeo ka kb k f s e=(zaJ ka kb k f s e) % 4096:=by
   unfold zeo;simp only [TB, *];rfl
  exact z7 [iv ((zaJ ka kb k f s e) % 4096)] (zT rfl rfl) rfl (by rw [E0_];rfl) rfl rfl
theorem partsC {P:Program} [PrC P] (e s t k:Int) (he:0≤e∧e < 4) (hs:0≤s∧s < 64) (ht:0≤t∧t < TB k):
    Env P "(roundhouse/cookie.parts).number" [.agg #[iv e,iv s,iv t],iv k] ([]) (Ans (iv ((e*64+s)*TB k+t)) ([])):=by
 refine Env.by PrC.cookie_parts_number ?_
 unfold zc5
 show GC _ 0 _ _ ⟨reg [(0,.agg #[iv e,iv s,iv t]),(1,iv k)],[]⟩
 refine zJ (zN (o_b 2 [(4,iv 0),(2,pv 0 0)] [cw [iv e,iv s,iv t]] (zE (zA (zJ (zbe [] (r_d 2 [(6,iv e),(5,pv 0 0)] (r_s (by refine zK (v:= .int .i64 (i64.wrap (e*64))) (congrArg wg (w64 om om)) ?_;kernel_rfl) ?_))))))))
 refine r_d 2 [(9,iv s),(8,pv 0 1)] (r_s (by refine zK (congrArg wg (zee (k:= .i64) 6 (R:=64) (x:=e*64) (y:=s) rfl om om (by rw [show (2:Int)^IntKind.i64.bits=18446744073709551616 from rfl];omega) (w64 om om))) ?_;kernel_rfl) ?_)
 refine r_d 1 [(11,iv k)] ?_
 rcases Decidable.em (k=2) with t1 | t1
 ·skip
  have t1b:TB k=256:=if_pos t1
  refine zeJ (zba (tb8C k t1) rfl rfl rfl (r_s (by refine zK (v:= .int .i64 (i64.wrap ((e*64+s)*256))) (congrArg wg (w64 om om)) ?_;kernel_rfl) ?_))
  refine r_d 2 [(15,iv t),(14,pv 0 2)] (r_s (by refine zK (congrArg wg (zee (k:= .i64) 8 (R:=256) (x:=(e*64+s)*256) (y:=t) rfl om om (by rw [show (2:Int)^IntKind.i64.bits=18446744073709551616 from rfl];omega) (w64 om om))) ?_;kernel_rfl) ?_)
  refine r_d 1 [(4,iv ((e*64+s)*256+t))] (za3 (zA (qW ?_)))
  have E0_:(e*64+s)*TB k+t=(e*64+s)*256+t:=by
   rw [t1b]
  exact z7 [iv ((e*64+s)*256+t)] (zT rfl rfl) rfl (by rw [E0_];rfl) rfl rfl
 ·skip
  have t1b:TB k=4096:=if_neg t1
  refine zeJ (zba (tb12C k t1) rfl rfl rfl (r_s (by refine zK (v:= .int .i64 (i64.wrap ((e*64+s)*4096))) (congrArg wg (w64 om om)) ?_;kernel_rfl) ?_))
  refine r_d 2 [(15,iv t),(14,pv 0 2)] (r_s (by refine zK (congrArg wg (zee (k:= .i64) 12 (R:=4096) (x:=(e*64+s)*4096) (y:=t) rfl om om (by rw [show (2:Int)^IntKind.i64.bits=18446744073709551616 from rfl];omega) (w64 om om))) ?_;kernel_rfl) ?_)
  refine r_d 1 [(4,iv ((e*64+s)*4096+t))] (za3 (zA (qW ?_)))
  have E0_:(e*64+s)*TB k+t=(e*64+s)*4096+t:=by
   rw [t1b]
  exact z7 [iv ((e*64+s)*4096+t)] (zT rfl rfl) rfl (by rw [E0_];rfl) rfl rfl
end Go.Rh

set_option maxHeartbeats 1000000
namespace Go.Rh
theorem readS_a {r:Rg} {k T c:Int} {f:Fl} (hT:TB k=T) (h:c < 0∨256*T≤c):ze1 r k f c=none:=by subst hT;exact if_pos h
theorem readS_b {r:Rg} {k T c D:Int} {f:Fl} (hT:TB k=T) (hD:64*T=D) (h: ¬(c < 0∨256*T≤c)) (hk:keyS r (c / D)=none):ze1 r k f c=none:=by
 subst hT;subst hD;unfold ze1;rw [if_neg h,hk];rfl
theorem readS_c {r:Rg} {k T c D:Int} {f:Fl} {x:Int×Int} (hT:TB k=T) (hD:64*T=D) (h: ¬(c < 0∨256*T≤c)) (hk:keyS r (c / D)=some x) (ht: ¬zeo x.1 x.2 k f (xoN (c / T % 64) (zaL x.1 x.2 k f (c / D))) (c / D)=c % T):ze1 r k f c=none:=by
 subst hT;subst hD;unfold ze1;rw [if_neg h,hk,Option.bind_some,readT,if_neg ht]
theorem readS_d {r:Rg} {k T c D:Int} {f:Fl} {x:Int×Int} (hT:TB k=T) (hD:64*T=D) (h: ¬(c < 0∨256*T≤c)) (hk:keyS r (c / D)=some x) (ht:zeo x.1 x.2 k f (xoN (c / T % 64) (zaL x.1 x.2 k f (c / D))) (c / D)=c % T):ze1 r k f c=some (xoN (c / T % 64) (zaL x.1 x.2 k f (c / D))):=by
 subst hT;subst hD;unfold ze1;rw [if_neg h,hk,Option.bind_some,readT,if_pos ht]
theorem shl_mod_u32 {x M R:Int} (hR:0 < R) (h:M*R=4294967296):IntKind.u32.wrap (x*R)=x % M*R:=by
 show x*R % 4294967296=_
 rw [←h,Int.mul_comm x R,Int.mul_comm M R,Int.mul_emod_mul_of_pos _ _ hR,Int.mul_comm]
theorem cMakeC {P:Program} [PrC P] (r:Rg) (k:Int) (f:Fl) (s:Int) (hs:0≤s∧s < 64):
    Env P "roundhouse/cookie.Make" [.agg (yJ r),iv k,.agg (wK f),iv s] ([]) (Ans (iv (zad r k f s)) ([])):=by
 refine Env.by PrC.cookie_Make ?_
 unfold zgy
 show GC _ 0 _ _ ⟨reg [(0,.agg (yJ r)),(1,iv k),(2,.agg (wK f)),(3,iv s)],[]⟩
 have hx9:=xoN_r hs (zeO r.ca r.cb k f (r.e % 4))
 refine zJ (zN (o_b 3 [(8,iv 0),(6,pv 1 0),(4,pv 0 0)] [cw (v8 r),cw (w5 f)] (zE (zA (zJ (zN (o_d 2 [(11,iv r.e),(10,pv 0 0)] (qV (zab (zh5 r.e) rfl rfl rfl (o_d 1 [(9,iv (r.e % 4))] (zE (zA ?_))))))))))))
 refine zJ (zbe [] (r_d 7 [(19,iv (r.e % 4)),(18,.agg (wK f)),(17,iv k),(16,.agg #[uv r.ca,uv r.cb]),(15,pv 0 3),(14,iv s),(13,iv (r.e % 4))] (zeJ (zba (veilC r.ca r.cb k f (r.e % 4)) rfl rfl rfl ?_))))
 have hy1:=zeO r.ca r.cb k f (r.e % 4)
 refine r_s (by refine zK (congrArg wg (zhU (a:=s) (b:=zaL r.ca r.cb k f (r.e % 4)) om om)) ?_;kernel_rfl) ?_
 refine r_d 6 [(27,iv (r.e % 4)),(26,iv s),(25,.agg (wK f)),(24,iv k),(23,.agg #[uv r.ca,uv r.cb]),(22,pv 0 3)] (zeJ (zba (ctagC r.ca r.cb k f s (r.e % 4)) rfl rfl rfl ?_))
 have hy2:=tagS_r r.ca r.cb k f s (r.e % 4)
 refine r_d 2 [(30,iv k),(29,.agg #[iv (r.e % 4),iv (xoN s (zaL r.ca r.cb k f (r.e % 4))),iv (zeo r.ca r.cb k f s (r.e % 4))])] (zeJ (zba (partsC (r.e % 4) (xoN s (zaL r.ca r.cb k f (r.e % 4))) (zeo r.ca r.cb k f s (r.e % 4)) k om om (by first | assumption | omega)) rfl rfl rfl ?_))
 refine r_d 1 [(8,iv ((r.e % 4*64+xoN s (zaL r.ca r.cb k f (r.e % 4)))*TB k+zeo r.ca r.cb k f s (r.e % 4)))] (za3 (zU [(8,iv ((r.e % 4*64+xoN s (zaL r.ca r.cb k f (r.e % 4)))*TB k+zeo r.ca r.cb k f s (r.e % 4)))] (qW ?_)))
 have E0_:zad r k f s=(r.e % 4*64+xoN s (zaL r.ca r.cb k f (r.e % 4)))*TB k+zeo r.ca r.cb k f s (r.e % 4):=by
  rfl
 exact z7 [iv ((r.e % 4*64+xoN s (zaL r.ca r.cb k f (r.e % 4)))*TB k+zeo r.ca r.cb k f s (r.e % 4))] (zT rfl rfl) rfl (by rw [E0_];rfl) rfl rfl
abbrev w4 (b:Rg) (c:Fl) (d:Int) f g h:=cw [iv b.e,uv b.pa,uv b.pb,uv b.ca,uv b.cb,uv b.na,uv b.nb]::cw [iv c.a,iv c.p,iv c.ta,iv c.tp]::cw [iv (d / f),iv ((d / g) % 64),iv (d % g)]::h
theorem cReadC {P:Program} [PrC P] (r:Rg) (k:Int) (f:Fl) (c:Int) (o:Option Int) (ho:ze1 r k f c=o) (hb: -4611686018427387904≤r.e - 1∧r.e - 1≤4611686018427387904):
    Env P "roundhouse/cookie.Read" [.agg (yJ r),iv k,.agg (wK f),iv c] ([]) (fun v h'=>v=zd8 o∧h'= []):=by
 refine Env.by2 PrC.cookie_Read ?_
 unfold zgx
 show GC _ 0 _ _ ⟨reg [(0,.agg (yJ r)),(1,iv k),(2,.agg (wK f)),(3,iv c)],[]⟩
 refine zJ (zN (o_b 4 [(9,bv false),(8,iv 0),(6,pv 1 0),(4,pv 0 0)] [cw (v8 r),cw (w5 f)] (zE (zA (zJ (zN (o_d 1 [(16,iv k)] ?_)))))))
 rcases Decidable.em (k=2) with t1 | t1
 ·skip
  have t1b:TB k=256:=if_pos t1
  refine qV (zab (tb8C k t1) rfl rfl rfl (o_d 1 [(10,iv 8)] (zE (zA (zJ (zJ (zN (o_d 3 [(20,bv (decide (c < 0))),(19,bv (decide (c < 0))),(18,iv c)] (zbJ (b:=decide (c < 0)) 20 rfl (fun h2=>?_) (fun h2=>?_))))))))))
  ·skip
   have h2':c < 0:=of_decide_eq_true h2
   exact o_d 6 ((26,bv true)::(25,undef)::(vG 24 23 22 21)) (zE (zA (zc8 rfl (zJ (zN (o_d 2 (xq 9 8) (zE (zU (xq 9 8) (qW (⟨trivial,⟨reg [(8,iv 0),(9,bv false)],[]⟩,Wk.ren [] rfl rfl dC ⟨rfl,rfl,trivial⟩ trivial,[iv 0,bv false],(zT rfl (zT rfl rfl)),(zM rfl (zM rfl z5)),(congrArg zd8 ((readS_a t1b om).symm.trans ho)),rfl⟩))))))))))
  have h2': ¬(c < 0):=of_decide_eq_false h2
  refine o_d 6 [(26,bv (decide (c≥65536))),(25,bv (decide (c≥65536))),(24,iv 65536),(23,iv 16),(22,iv 8),(21,iv c)] (zE (zA (qJ (t:=decide (c≥65536)) rfl (fun h3=>?_) (fun h3=>?_))))
  ·skip
   have h3':c≥65536:=of_decide_eq_true h3
   exact zJ (zN (o_d 2 (xq 9 8) (zE (zU (xq 9 8) (qW (⟨trivial,⟨reg [(8,iv 0),(9,bv false)],[]⟩,Wk.ren [] rfl rfl dC ⟨rfl,rfl,trivial⟩ trivial,[iv 0,bv false],(zT rfl (zT rfl rfl)),(zM rfl (zM rfl z5)),(congrArg zd8 ((readS_a t1b om).symm.trans ho)),rfl⟩))))))
  have h3': ¬(c≥65536):=of_decide_eq_false h3
  refine qK (zA (zJ (zbe [] (r_d 3 [(29,iv 14),(28,iv 8),(27,iv c)] (r_s (by refine zK (v:= .int .i64 (c.fdiv 16384)) (congrArg wg (zb9 dC)) ?_;kernel_rfl) ?_)))))
  refine r_d 2 [(32,iv 8),(31,iv c)] (r_s (by refine zK (v:= .int .i64 (c.fdiv 256)) (congrArg wg (zb9 dC)) ?_;kernel_rfl) ?_)
  refine r_s (by refine zK (congrArg wg (zcr (k:= .i64) 6 (M:=63) (R:=64) (x:=c / 256) dC rfl rfl)) ?_;kernel_rfl) ?_
  refine r_d 4 [(38,iv 255),(37,iv 256),(36,iv 8),(35,iv c)] (r_s (by refine zK (congrArg wg (zcr (k:= .i64) 8 (M:=255) (R:=256) (x:=c) dC rfl rfl)) ?_;kernel_rfl) ?_)
  refine r_b 3 [(11,pv 2 0),(40,.agg #[iv (c / 16384),iv ((c / 256) % 64),iv (c % 256)])] [cw (v8 r),cw (w5 f),cw [iv (c / 16384),iv ((c / 256) % 64),iv (c % 256)]] (za3 (zU [(11,pv 2 0),(6,pv 1 0),(4,pv 0 0),(1,iv k)] (zJ (zN (o_d 3 [(44,iv (c / 16384)),(43,pv 2 0),(42,.agg (yJ r))] ?_)))))
  rcases q4:keyS r (c / 16384) with _ | x5
  ·skip
   refine qV (zab (ckeyC r (c / 16384) none q4 om) rfl rfl rfl ?_)
   refine o_b 6 [(13,bv false),(12,pv 3 0),(47,bv false),(46,.agg #[uv 0,uv 0]),(41,.tuple #[.agg #[uv 0,uv 0],bv false])] (w4 r f c 16384 256 [cw [uv 0,uv 0]]) (zE (zA (zJ (zJ (zN (o_d 2 [(49,bv true),(48,bv false)] (zE (zA (zc8 rfl (zJ (zN (o_d 2 (xq 9 8) ?_))))))))))))
   exact zE (zA (qW (⟨trivial,⟨reg [(8,iv 0),(9,bv false)],[]⟩,Wk.ren [] rfl rfl dC ⟨rfl,rfl,trivial⟩ trivial,[iv 0,bv false],(zT rfl (zT rfl rfl)),(zM rfl (zM rfl z5)),(congrArg zd8 ((readS_b t1b dC om q4).symm.trans ho)),rfl⟩)))
  ·skip
   refine qV (zab (ckeyC r (c / 16384) (some x5) q4 om) rfl rfl rfl ?_)
   refine o_b 6 [(13,bv true),(12,pv 3 0),(47,bv true),(46,.agg #[uv x5.1,uv x5.2]),(41,.tuple #[.agg #[uv x5.1,uv x5.2],bv true])] (w4 r f c 16384 256 [cw [uv x5.1,uv x5.2]]) (zE (zA (zJ (zJ (zN (o_d 2 [(49,bv false),(48,bv true)] (zE (zA (zbc rfl (qK (zA (zJ ?_))))))))))))
   refine zbe [] (r_d 7 [(56,iv (c / 16384)),(55,pv 2 0),(54,.agg (wK f)),(53,iv k),(52,.agg #[uv x5.1,uv x5.2]),(51,iv ((c / 256) % 64)),(50,pv 2 1)] (zeJ (zba (veilC x5.1 x5.2 k f (c / 16384)) rfl rfl rfl ?_)))
   have hy6:=zeO x5.1 x5.2 k f (c / 16384)
   refine r_s (by refine zK (congrArg wg (zhU (a:=(c / 256) % 64) (b:=zaL x5.1 x5.2 k f (c / 16384)) om om)) ?_;kernel_rfl) ?_
   refine r_d 1 [(14,iv (xoN ((c / 256) % 64) (zaL x5.1 x5.2 k f (c / 16384))))] (za3 (zA (zJ (zJ (zbe [] (r_d 10 [(68,iv (c / 16384)),(67,pv 2 0),(66,iv (xoN ((c / 256) % 64) (zaL x5.1 x5.2 k f (c / 16384)))),(65,.agg (wK f)),(64,iv k),(63,.agg #[uv x5.1,uv x5.2]),(62,iv ((c / 256) % 64)),(61,pv 2 1),(60,iv (c / 16384)),(59,pv 2 0)] (zeJ (zba (ctagC x5.1 x5.2 k f (xoN ((c / 256) % 64) (zaL x5.1 x5.2 k f (c / 16384))) (c / 16384)) rfl rfl rfl ?_))))))))
   have hy7:=tagS_r x5.1 x5.2 k f (xoN ((c / 256) % 64) (zaL x5.1 x5.2 k f (c / 16384))) (c / 16384)
   refine r_b 3 [(15,pv 4 0),(70,.agg #[iv (c / 16384),iv ((c / 256) % 64),iv (zeo x5.1 x5.2 k f (xoN ((c / 256) % 64) (zaL x5.1 x5.2 k f (c / 16384))) (c / 16384))])] (w4 r f c 16384 256 [cw [uv x5.1,uv x5.2],cw [iv (c / 16384),iv ((c / 256) % 64),iv (zeo x5.1 x5.2 k f (xoN ((c / 256) % 64) (zaL x5.1 x5.2 k f (c / 16384))) (c / 16384))]]) (za3 (zU [(15,pv 4 0),(14,iv (xoN ((c / 256) % 64) (zaL x5.1 x5.2 k f (c / 16384)))),(11,pv 2 0)] (zJ (zN (o_d 3 [(73,bv (!(((c / 16384)==(c / 16384))&&((((c / 256) % 64)==((c / 256) % 64))&&(((zeo x5.1 x5.2 k f (xoN ((c / 256) % 64) (zaL x5.1 x5.2 k f (c / 16384))) (c / 16384))==(c % 256))&&true))))),(72,.agg #[iv (c / 16384),iv ((c / 256) % 64),iv (c % 256)]),(71,.agg #[iv (c / 16384),iv ((c / 256) % 64),iv (zeo x5.1 x5.2 k f (xoN ((c / 256) % 64) (zaL x5.1 x5.2 k f (c / 16384))) (c / 16384))])] (zE (zA (qJ (t:= !(((c / 16384)==(c / 16384))&&((((c / 256) % 64)==((c / 256) % 64))&&(((zeo x5.1 x5.2 k f (xoN ((c / 256) % 64) (zaL x5.1 x5.2 k f (c / 16384))) (c / 16384))==(c % 256))&&true)))) rfl (fun h8=>?_) (fun h8=>?_)))))))))
   ·skip
    have h9:(((c / 16384)==(c / 16384))&&((((c / 256) % 64)==((c / 256) % 64))&&(((zeo x5.1 x5.2 k f (xoN ((c / 256) % 64) (zaL x5.1 x5.2 k f (c / 16384))) (c / 16384))==(c % 256))&&true)))=false:=not_t h8
    exact zJ (zN (o_d 2 (xq 9 8) (zE (zA (qW (⟨trivial,⟨reg [(8,iv 0),(9,bv false)],[]⟩,Wk.ren [] rfl rfl dC ⟨rfl,rfl,trivial⟩ trivial,[iv 0,bv false],(zT rfl (zT rfl rfl)),(zM rfl (zM rfl z5)),(congrArg zd8 ((readS_c t1b dC om q4 (by have q:=h8;simp only [beq_self_eq_true,Bool.true_and,Bool.and_true,Bool.not_eq_false',Bool.not_eq_true',beq_iff_eq,beq_eq_false_iff_ne] at q;exact q)).symm.trans ho)),rfl⟩))))))
   have h10:(((c / 16384)==(c / 16384))&&((((c / 256) % 64)==((c / 256) % 64))&&(((zeo x5.1 x5.2 k f (xoN ((c / 256) % 64) (zaL x5.1 x5.2 k f (c / 16384))) (c / 16384))==(c % 256))&&true)))=true:=not_f h8
   exact qK (zA (zJ (zN (o_d 3 [(9,bv true),(8,iv (xoN ((c / 256) % 64) (zaL x5.1 x5.2 k f (c / 16384)))),(74,iv (xoN ((c / 256) % 64) (zaL x5.1 x5.2 k f (c / 16384))))] (zE (zA (qW (⟨trivial,⟨reg [(8,iv (xoN ((c / 256) % 64) (zaL x5.1 x5.2 k f (c / 16384)))),(9,bv true)],[]⟩,Wk.ren [] rfl rfl dC ⟨rfl,rfl,trivial⟩ trivial,[iv (xoN ((c / 256) % 64) (zaL x5.1 x5.2 k f (c / 16384))),bv true],(zT rfl (zT rfl rfl)),(zM rfl (zM rfl z5)),(congrArg zd8 ((readS_d t1b dC om q4 (by have q:=h8;simp only [beq_self_eq_true,Bool.true_and,Bool.and_true,Bool.not_eq_false',Bool.not_eq_true',beq_iff_eq,beq_eq_false_iff_ne] at q;exact q)).symm.trans ho)),rfl⟩))))))))
 ·skip
  have t1b:TB k=4096:=if_neg t1
  refine qV (zab (tb12C k t1) rfl rfl rfl (o_d 1 [(10,iv 12)] (zE (zA (zJ (zJ (zN (o_d 3 [(20,bv (decide (c < 0))),(19,bv (decide (c < 0))),(18,iv c)] (zbJ (b:=decide (c < 0)) 20 rfl (fun h11=>?_) (fun h11=>?_))))))))))
  ·skip
   have h11':c < 0:=of_decide_eq_true h11
   exact o_d 6 ((26,bv true)::(25,undef)::(vG 24 23 22 21)) (zE (zA (zc8 rfl (zJ (zN (o_d 2 (xq 9 8) (zE (zU (xq 9 8) (qW (⟨trivial,⟨reg [(8,iv 0),(9,bv false)],[]⟩,Wk.ren [] rfl rfl dC ⟨rfl,rfl,trivial⟩ trivial,[iv 0,bv false],(zT rfl (zT rfl rfl)),(zM rfl (zM rfl z5)),(congrArg zd8 ((readS_a t1b om).symm.trans ho)),rfl⟩))))))))))
  have h11': ¬(c < 0):=of_decide_eq_false h11
  refine o_d 6 [(26,bv (decide (c≥1048576))),(25,bv (decide (c≥1048576))),(24,iv 1048576),(23,iv 20),(22,iv 12),(21,iv c)] (zE (zA (qJ (t:=decide (c≥1048576)) rfl (fun h12=>?_) (fun h12=>?_))))
  ·skip
   have h12':c≥1048576:=of_decide_eq_true h12
   exact zJ (zN (o_d 2 (xq 9 8) (zE (zU (xq 9 8) (qW (⟨trivial,⟨reg [(8,iv 0),(9,bv false)],[]⟩,Wk.ren [] rfl rfl dC ⟨rfl,rfl,trivial⟩ trivial,[iv 0,bv false],(zT rfl (zT rfl rfl)),(zM rfl (zM rfl z5)),(congrArg zd8 ((readS_a t1b om).symm.trans ho)),rfl⟩))))))
  have h12': ¬(c≥1048576):=of_decide_eq_false h12
  refine qK (zA (zJ (zbe [] (r_d 3 [(29,iv 18),(28,iv 12),(27,iv c)] (r_s (by refine zK (v:= .int .i64 (c.fdiv 262144)) (congrArg wg (zb9 dC)) ?_;kernel_rfl) ?_)))))
  refine r_d 2 [(32,iv 12),(31,iv c)] (r_s (by refine zK (v:= .int .i64 (c.fdiv 4096)) (congrArg wg (zb9 dC)) ?_;kernel_rfl) ?_)
  refine r_s (by refine zK (congrArg wg (zcr (k:= .i64) 6 (M:=63) (R:=64) (x:=c / 4096) dC rfl rfl)) ?_;kernel_rfl) ?_
  refine r_d 4 [(38,iv 4095),(37,iv 4096),(36,iv 12),(35,iv c)] (r_s (by refine zK (congrArg wg (zcr (k:= .i64) 12 (M:=4095) (R:=4096) (x:=c) dC rfl rfl)) ?_;kernel_rfl) ?_)
  refine r_b 3 [(11,pv 2 0),(40,.agg #[iv (c / 262144),iv ((c / 4096) % 64),iv (c % 4096)])] [cw (v8 r),cw (w5 f),cw [iv (c / 262144),iv ((c / 4096) % 64),iv (c % 4096)]] (za3 (zU [(11,pv 2 0),(6,pv 1 0),(4,pv 0 0),(1,iv k)] (zJ (zN (o_d 3 [(44,iv (c / 262144)),(43,pv 2 0),(42,.agg (yJ r))] ?_)))))
  rcases q13:keyS r (c / 262144) with _ | x14
  ·skip
   refine qV (zab (ckeyC r (c / 262144) none q13 om) rfl rfl rfl ?_)
   refine o_b 6 [(13,bv false),(12,pv 3 0),(47,bv false),(46,.agg #[uv 0,uv 0]),(41,.tuple #[.agg #[uv 0,uv 0],bv false])] (w4 r f c 262144 4096 [cw [uv 0,uv 0]]) (zE (zA (zJ (zJ (zN (o_d 2 [(49,bv true),(48,bv false)] (zE (zA (zc8 rfl (zJ (zN (o_d 2 (xq 9 8) ?_))))))))))))
   exact zE (zA (qW (⟨trivial,⟨reg [(8,iv 0),(9,bv false)],[]⟩,Wk.ren [] rfl rfl dC ⟨rfl,rfl,trivial⟩ trivial,[iv 0,bv false],(zT rfl (zT rfl rfl)),(zM rfl (zM rfl z5)),(congrArg zd8 ((readS_b t1b dC om q13).symm.trans ho)),rfl⟩)))
  ·skip
   refine qV (zab (ckeyC r (c / 262144) (some x14) q13 om) rfl rfl rfl ?_)
   refine o_b 6 [(13,bv true),(12,pv 3 0),(47,bv true),(46,.agg #[uv x14.1,uv x14.2]),(41,.tuple #[.agg #[uv x14.1,uv x14.2],bv true])] (w4 r f c 262144 4096 [cw [uv x14.1,uv x14.2]]) (zE (zA (zJ (zJ (zN (o_d 2 [(49,bv false),(48,bv true)] (zE (zA (zbc rfl (qK (zA (zJ ?_))))))))))))
   refine zbe [] (r_d 7 [(56,iv (c / 262144)),(55,pv 2 0),(54,.agg (wK f)),(53,iv k),(52,.agg #[uv x14.1,uv x14.2]),(51,iv ((c / 4096) % 64)),(50,pv 2 1)] (zeJ (zba (veilC x14.1 x14.2 k f (c / 262144)) rfl rfl rfl ?_)))
   have hy15:=zeO x14.1 x14.2 k f (c / 262144)
   refine r_s (by refine zK (congrArg wg (zhU (a:=(c / 4096) % 64) (b:=zaL x14.1 x14.2 k f (c / 262144)) om om)) ?_;kernel_rfl) ?_
   refine r_d 1 [(14,iv (xoN ((c / 4096) % 64) (zaL x14.1 x14.2 k f (c / 262144))))] (za3 (zA (zJ (zJ (zbe [] (r_d 10 [(68,iv (c / 262144)),(67,pv 2 0),(66,iv (xoN ((c / 4096) % 64) (zaL x14.1 x14.2 k f (c / 262144)))),(65,.agg (wK f)),(64,iv k),(63,.agg #[uv x14.1,uv x14.2]),(62,iv ((c / 4096) % 64)),(61,pv 2 1),(60,iv (c / 262144)),(59,pv 2 0)] (zeJ (zba (ctagC x14.1 x14.2 k f (xoN ((c / 4096) % 64) (zaL x14.1 x14.2 k f (c / 262144))) (c / 262144)) rfl rfl rfl ?_))))))))
   have hy16:=tagS_r x14.1 x14.2 k f (xoN ((c / 4096) % 64) (zaL x14.1 x14.2 k f (c / 262144))) (c / 262144)
   refine r_b 3 [(15,pv 4 0),(70,.agg #[iv (c / 262144),iv ((c / 4096) % 64),iv (zeo x14.1 x14.2 k f (xoN ((c / 4096) % 64) (zaL x14.1 x14.2 k f (c / 262144))) (c / 262144))])] (w4 r f c 262144 4096 [cw [uv x14.1,uv x14.2],cw [iv (c / 262144),iv ((c / 4096) % 64),iv (zeo x14.1 x14.2 k f (xoN ((c / 4096) % 64) (zaL x14.1 x14.2 k f (c / 262144))) (c / 262144))]]) (za3 (zU [(15,pv 4 0),(14,iv (xoN ((c / 4096) % 64) (zaL x14.1 x14.2 k f (c / 262144)))),(11,pv 2 0)] (zJ (zN (o_d 3 [(73,bv (!(((c / 262144)==(c / 262144))&&((((c / 4096) % 64)==((c / 4096) % 64))&&(((zeo x14.1 x14.2 k f (xoN ((c / 4096) % 64) (zaL x14.1 x14.2 k f (c / 262144))) (c / 262144))==(c % 4096))&&true))))),(72,.agg #[iv (c / 262144),iv ((c / 4096) % 64),iv (c % 4096)]),(71,.agg #[iv (c / 262144),iv ((c / 4096) % 64),iv (zeo x14.1 x14.2 k f (xoN ((c / 4096) % 64) (zaL x14.1 x14.2 k f (c / 262144))) (c / 262144))])] (zE (zA (qJ (t:= !(((c / 262144)==(c / 262144))&&((((c / 4096) % 64)==((c / 4096) % 64))&&(((zeo x14.1 x14.2 k f (xoN ((c / 4096) % 64) (zaL x14.1 x14.2 k f (c / 262144))) (c / 262144))==(c % 4096))&&true)))) rfl (fun h17=>?_) (fun h17=>?_)))))))))
   ·skip
    have h18:(((c / 262144)==(c / 262144))&&((((c / 4096) % 64)==((c / 4096) % 64))&&(((zeo x14.1 x14.2 k f (xoN ((c / 4096) % 64) (zaL x14.1 x14.2 k f (c / 262144))) (c / 262144))==(c % 4096))&&true)))=false:=not_t h17
    exact zJ (zN (o_d 2 (xq 9 8) (zE (zA (qW (⟨trivial,⟨reg [(8,iv 0),(9,bv false)],[]⟩,Wk.ren [] rfl rfl dC ⟨rfl,rfl,trivial⟩ trivial,[iv 0,bv false],(zT rfl (zT rfl rfl)),(zM rfl (zM rfl z5)),(congrArg zd8 ((readS_c t1b dC om q13 (by have q:=h17;simp only [beq_self_eq_true,Bool.true_and,Bool.and_true,Bool.not_eq_false',Bool.not_eq_true',beq_iff_eq,beq_eq_false_iff_ne] at q;exact q)).symm.trans ho)),rfl⟩))))))
   have h19:(((c / 262144)==(c / 262144))&&((((c / 4096) % 64)==((c / 4096) % 64))&&(((zeo x14.1 x14.2 k f (xoN ((c / 4096) % 64) (zaL x14.1 x14.2 k f (c / 262144))) (c / 262144))==(c % 4096))&&true)))=true:=not_f h17
   exact qK (zA (zJ (zN (o_d 3 [(9,bv true),(8,iv (xoN ((c / 4096) % 64) (zaL x14.1 x14.2 k f (c / 262144)))),(74,iv (xoN ((c / 4096) % 64) (zaL x14.1 x14.2 k f (c / 262144))))] (zE (zA (qW (⟨trivial,⟨reg [(8,iv (xoN ((c / 4096) % 64) (zaL x14.1 x14.2 k f (c / 262144)))),(9,bv true)],[]⟩,Wk.ren [] rfl rfl dC ⟨rfl,rfl,trivial⟩ trivial,[iv (xoN ((c / 4096) % 64) (zaL x14.1 x14.2 k f (c / 262144))),bv true],(zT rfl (zT rfl rfl)),(zM rfl (zM rfl z5)),(congrArg zd8 ((readS_d t1b dC om q13 (by have q:=h17;simp only [beq_self_eq_true,Bool.true_and,Bool.and_true,Bool.not_eq_false',Bool.not_eq_true',beq_iff_eq,beq_eq_false_iff_ne] at q;exact q)).symm.trans ho)),rfl⟩))))))))
theorem cPutC {P:Program} [PrC P] (v c:Int) (hvv:0≤v∧v < 4294967296):
    Env P "roundhouse/cookie.Put" [.int .u32 v,iv c] ([]) (Ans (u32v (zbT v c)) ([])):=by
 refine Env.by PrC.cookie_Put ?_
 unfold zhw
 show GC _ 0 _ _ ⟨reg [(0,.int .u32 v),(1,iv c)],[]⟩
 refine zJ (zN (o_d 1 [(4,.int .u32 0)] (zE (zA (zJ (zN (o_d 1 [(5,.int .u32 v)] (o_s (by refine zK (v:= .int .u32 (v.fdiv 256)) (congrArg vE (zb9 dC)) ?_;kernel_rfl) ?_))))))))
 refine o_s (by refine zK (v:= .int .u32 (IntKind.u32.wrap ((v / 256)*1048576))) (congrArg vE (shl_mod_u32 (M:=4096) (R:=1048576) dC dC)) ?_;kernel_rfl) ?_
 refine o_d 2 [(9,.int .u32 (c % 4294967296)),(8,iv c)] (o_s (by refine zK (congrArg vE (zcr (k:= .u32) 20 (M:=1048575) (R:=1048576) (x:=c % 4294967296) dC rfl rfl)) ?_;kernel_rfl) ?_)
 refine o_s (by refine zK (congrArg vE (zee (k:= .u32) 20 (R:=1048576) (x:=(v / 256) % 4096*1048576) (y:=(c % 4294967296) % 1048576) rfl om om (by rw [show (2:Int)^IntKind.u32.bits=4294967296 from rfl];omega) (zby om))) ?_;kernel_rfl) ?_
 refine o_d 1 [(4,.int .u32 ((v / 256) % 4096*1048576+(c % 4294967296) % 1048576))] (zE (zA (qW ?_)))
 have E0_:zbT v c=(v / 256) % 4096*1048576+(c % 4294967296) % 1048576:=by
  unfold zbT;omega
 exact z7 [.int .u32 ((v / 256) % 4096*1048576+(c % 4294967296) % 1048576)] (zT rfl rfl) rfl (by rw [E0_];rfl) rfl rfl
theorem cGetC {P:Program} [PrC P] (v:Int) (hvv:0≤v∧v < 4294967296):
    Env P "roundhouse/cookie.Get" [.int .u32 v] ([]) (Ans (.tuple #[iv (v / 1048576),iv (v % 1048576)]) ([])):=by
 refine Env.by PrC.cookie_Get ?_
 unfold zhy
 show GC _ 0 _ _ ⟨reg [(0,.int .u32 v)],[]⟩
 refine zJ (zN (o_d 2 [(3,iv 0),(2,iv 0)] (zE (zA (zJ (zN (o_d 1 [(4,.int .u32 v)] (o_s (by refine zK (v:= .int .u32 (v.fdiv 1048576)) (congrArg vE (zb9 dC)) ?_;kernel_rfl) ?_))))))))
 refine o_s (by refine zK (v:= .int .i64 (i64.wrap (v / 1048576))) (congrArg wg (w64 om om)) ?_;kernel_rfl) ?_
 refine o_d 1 [(7,.int .u32 v)] (o_s (by refine zK (congrArg vE (zcr (k:= .u32) 20 (M:=1048575) (R:=1048576) (x:=v) dC rfl rfl)) ?_;kernel_rfl) ?_)
 refine o_s (by refine zK (v:= .int .i64 (i64.wrap (v % 1048576))) (congrArg wg (w64 om om)) ?_;kernel_rfl) ?_
 refine o_d 2 [(3,iv (v % 1048576)),(2,iv (v / 1048576))] (zE (zA (qW ?_)))
 have E0_:v / 1048576=v / 1048576:=by
  rfl
 exact z7 [iv (v / 1048576),iv (v % 1048576)] (zT rfl (zT rfl rfl)) rfl (by rw [E0_];rfl) rfl rfl
theorem cBackC {P:Program} [PrC P] (v n:Int) (hvv:0≤v∧v < 4294967296) (hvn:0≤n∧n < 4294967296):
    Env P "roundhouse/cookie.Back" [.int .u32 v,.int .u32 n] ([]) (Ans (u32v (zfY v n)) ([])):=by
 refine Env.by PrC.cookie_Back ?_
 unfold zgz
 show GC _ 0 _ _ ⟨reg [(0,.int .u32 v),(1,.int .u32 n)],[]⟩
 have hf9:=farS_r (n / 256*256 % 1048576) (v / 1048576*256)
 refine zJ (zN (o_d 1 [(4,.int .u32 0)] (zE (zA (zJ (zN (o_d 1 [(10,.int .u32 v)] (qV (zab (cGetC v om) rfl rfl rfl ?_)))))))))
 refine o_d 5 [(6,iv (v % 1048576)),(5,iv (v / 1048576)),(13,iv (v % 1048576)),(12,iv (v / 1048576)),(9,.tuple #[iv (v / 1048576),iv (v % 1048576)])] (zE (zA (zJ (zN (o_d 1 [(14,iv (v / 1048576))] (o_s (by refine zK (v:= .int .u32 (IntKind.u32.wrap (v / 1048576))) (congrArg vE (zby om)) ?_;kernel_rfl) ?_))))))
 refine o_s (by refine zK (v:= .int .u32 (IntKind.u32.wrap ((v / 1048576)*256))) (congrArg vE (zby om)) ?_;kernel_rfl) ?_
 refine o_d 1 [(7,.int .u32 ((v / 1048576)*256))] (zE (zA (zJ (zN (o_d 1 [(17,.int .u32 n)] (o_s (by refine zK (congrArg vE (lo8 (n:=n) om)) ?_;kernel_rfl) ?_))))))
 refine o_d 1 [(1,.int .u32 (n / 256*256))] (zE (zA (zJ (zN (o_d 1 [(19,.int .u32 (n / 256*256))] (o_s (by refine zK (congrArg vE (zcr (k:= .u32) 20 (M:=1048575) (R:=1048576) (x:=n / 256*256) dC rfl rfl)) ?_;kernel_rfl) ?_))))))
 refine o_d 1 [(21,.int .u32 ((v / 1048576)*256))] (qV (zab (FarC ((n / 256*256) % 1048576) ((v / 1048576)*256)) rfl rfl rfl (o_d 1 [(8,iv (zdB ((n / 256*256) % 1048576) ((v / 1048576)*256)))] (zE (zA (zJ (qU (zJ (zN (o_d 3 [(23,bv (decide (zdB ((n / 256*256) % 1048576) ((v / 1048576)*256)≥524288))),(25,bv (decide (zdB ((n / 256*256) % 1048576) ((v / 1048576)*256)≥524288))),(24,iv (zdB ((n / 256*256) % 1048576) ((v / 1048576)*256)))] (zE (zU [(23,bv (decide (zdB ((n / 256*256) % 1048576) ((v / 1048576)*256)≥524288))),(8,iv (zdB ((n / 256*256) % 1048576) ((v / 1048576)*256))),(1,.int .u32 (n / 256*256))] ?_))))))))))))
 refine qJ (t:=decide (zdB ((n / 256*256) % 1048576) ((v / 1048576)*256)≥524288)) rfl (fun h1=>?_) (fun h1=>?_)
 ·skip
  have h1':zdB ((n / 256*256) % 1048576) ((v / 1048576)*256)≥524288:=of_decide_eq_true h1
  refine zN (o_d 1 [(26,iv (zdB ((n / 256*256) % 1048576) ((v / 1048576)*256)))] (o_s (by refine zK (v:= .int .i64 (i64.wrap (zdB ((n / 256*256) % 1048576) ((v / 1048576)*256) - 1048576))) (congrArg wg (w64 om om)) ?_;kernel_rfl) ?_))
  refine o_d 1 [(8,iv (zdB ((n / 256*256) % 1048576) ((v / 1048576)*256) - 1048576))] (zE (zA (zJ (zN (o_d 5 [(4,.int .u32 (IntKind.u32.wrap (n / 256*256+(zdB ((n / 256*256) % 1048576) ((v / 1048576)*256) - 1048576) % 4294967296))),(36,.int .u32 (IntKind.u32.wrap (n / 256*256+(zdB ((n / 256*256) % 1048576) ((v / 1048576)*256) - 1048576) % 4294967296))),(35,.int .u32 ((zdB ((n / 256*256) % 1048576) ((v / 1048576)*256) - 1048576) % 4294967296)),(34,iv (zdB ((n / 256*256) % 1048576) ((v / 1048576)*256) - 1048576)),(33,.int .u32 (n / 256*256))] (zE (zA (qW ?_))))))))
  have E0_:zfY v n=IntKind.u32.wrap (n / 256*256+(zdB ((n / 256*256) % 1048576) ((v / 1048576)*256) - 1048576) % 4294967296):=by
   unfold zfY backF
   (repeat' split)<;>first | rfl | omega
  exact z7 [.int .u32 (IntKind.u32.wrap (n / 256*256+(zdB ((n / 256*256) % 1048576) ((v / 1048576)*256) - 1048576) % 4294967296))] (zT rfl rfl) rfl (by rw [E0_];rfl) rfl rfl
 have h1': ¬(zdB ((n / 256*256) % 1048576) ((v / 1048576)*256)≥524288):=of_decide_eq_false h1
 refine zJ (zN (o_d 3 [(28,bv (decide (zdB ((n / 256*256) % 1048576) ((v / 1048576)*256) < (-524288)))),(30,bv (decide (zdB ((n / 256*256) % 1048576) ((v / 1048576)*256) < (-524288)))),(29,iv (zdB ((n / 256*256) % 1048576) ((v / 1048576)*256)))] (zE (zA (qJ (t:=decide (zdB ((n / 256*256) % 1048576) ((v / 1048576)*256) < (-524288))) rfl (fun h2=>?_) (fun h2=>?_))))))
 ·skip
  have h2':zdB ((n / 256*256) % 1048576) ((v / 1048576)*256) < (-524288):=of_decide_eq_true h2
  refine zN (o_d 1 [(31,iv (zdB ((n / 256*256) % 1048576) ((v / 1048576)*256)))] (o_s (by refine zK (v:= .int .i64 (i64.wrap (zdB ((n / 256*256) % 1048576) ((v / 1048576)*256)+1048576))) (congrArg wg (w64 om om)) ?_;kernel_rfl) ?_))
  refine o_d 1 [(8,iv (zdB ((n / 256*256) % 1048576) ((v / 1048576)*256)+1048576))] (zE (zA (zJ (zN (o_d 5 [(4,.int .u32 (IntKind.u32.wrap (n / 256*256+(zdB ((n / 256*256) % 1048576) ((v / 1048576)*256)+1048576) % 4294967296))),(36,.int .u32 (IntKind.u32.wrap (n / 256*256+(zdB ((n / 256*256) % 1048576) ((v / 1048576)*256)+1048576) % 4294967296))),(35,.int .u32 ((zdB ((n / 256*256) % 1048576) ((v / 1048576)*256)+1048576) % 4294967296)),(34,iv (zdB ((n / 256*256) % 1048576) ((v / 1048576)*256)+1048576)),(33,.int .u32 (n / 256*256))] (zE (zA (qW ?_))))))))
  have E0_:zfY v n=IntKind.u32.wrap (n / 256*256+(zdB ((n / 256*256) % 1048576) ((v / 1048576)*256)+1048576) % 4294967296):=by
   unfold zfY backF
   (repeat' split)<;>first | rfl | omega
  exact z7 [.int .u32 (IntKind.u32.wrap (n / 256*256+(zdB ((n / 256*256) % 1048576) ((v / 1048576)*256)+1048576) % 4294967296))] (zT rfl rfl) rfl (by rw [E0_];rfl) rfl rfl
 have h2': ¬(zdB ((n / 256*256) % 1048576) ((v / 1048576)*256) < (-524288)):=of_decide_eq_false h2
 refine qK (zA (zJ (zN (o_d 5 [(4,.int .u32 (IntKind.u32.wrap (n / 256*256+(zdB ((n / 256*256) % 1048576) ((v / 1048576)*256)) % 4294967296))),(36,.int .u32 (IntKind.u32.wrap (n / 256*256+(zdB ((n / 256*256) % 1048576) ((v / 1048576)*256)) % 4294967296))),(35,.int .u32 ((zdB ((n / 256*256) % 1048576) ((v / 1048576)*256)) % 4294967296)),(34,iv (zdB ((n / 256*256) % 1048576) ((v / 1048576)*256))),(33,.int .u32 (n / 256*256))] (zE (zA (qW ?_)))))))
 have E0_:zfY v n=IntKind.u32.wrap (n / 256*256+(zdB ((n / 256*256) % 1048576) ((v / 1048576)*256)) % 4294967296):=by
  unfold zfY backF
  (repeat' split)<;>first | rfl | omega
 exact z7 [.int .u32 (IntKind.u32.wrap (n / 256*256+(zdB ((n / 256*256) % 1048576) ((v / 1048576)*256)) % 4294967296))] (zT rfl rfl) rfl (by rw [E0_];rfl) rfl rfl
end Go.Rh

namespace Go.Rh
theorem zbm: ∀(n:Nat) (l:List Int) (a i:Nat) (v:Int),i < a∨a+n≤i→(zbq l a n v).getD i 0=l.getD i 0
 | 0,_,_,_,_,_=>rfl
 | n+1,l,a,i,v,h=>by
  simp only [zbq]
  rw [zbm n _ _ _ _ om,List.getD_eq_getElem?_getD,List.getD_eq_getElem?_getD,List.getElem?_set_ne om]
theorem zac {l:List Int} {a n i:Nat} {v:Int} : ∀k,i+k≤a∨a+n≤i→qD (zbq l a n v) i k=qD l i k
 | 0,_=>rfl
 | k+1,h=>by simp only [qD];rw [zac k om,zbm _ _ _ _ _ om]
theorem zft {l:List Int} {a i:Nat} {v:Int} : ∀k,i+k≤a∨a+1≤i→qD (l.set a v) i k=qD l i k
 | 0,_=>rfl
 | k+1,h=>by
  simp only [qD];rw [zft k om,List.getD_eq_getElem?_getD,List.getD_eq_getElem?_getD,List.getElem?_set_ne om]
theorem zat {l:List Int} {a i:Nat} {v:Int} (h:a≠i):(l.set a v).getD i 0=l.getD i 0:=by
 rw [List.getD_eq_getElem?_getD,List.getD_eq_getElem?_getD,List.getElem?_set_ne h]
theorem za7 {l:List Int} {a:Nat} {v:Int} (h:a < l.length):(l.set a v).getD a 0=v:=by
 rw [List.getD_eq_getElem?_getD,List.getElem?_set_self h];rfl
theorem zdw {l:List Int} {a:Nat} {v:Int} (h:a+2≤l.length) (hv:0≤v∧v < 65536):qD (zbq l a 2 v) a 2=v:=by
 simp only [zbq,qD,Nat.add_zero,Nat.zero_add]
 rw [za7 (by rw [List.length_set];omega),zat om,za7 om]
 omega
theorem numB_put4 {l:List Int} {a:Nat} {v:Int} (h:a+4≤l.length) (hv:0≤v∧v < 4294967296):qD (zbq l a 4 v) a 4=v:=by
 simp only [zbq,qD,Nat.add_zero,Nat.zero_add]
 rw [za7 (by simp only [List.length_set];omega),zat om,za7 (by simp only [List.length_set];omega),zat om,zat om,za7 (by simp only [List.length_set];omega),zat om,zat om,zat om,za7 om]
 omega
def zgV (l:List Int):Int:=qD l 0 2+qD l 2 2+qD l 4 2+qD l 6 2+qD l 8 2+qD l 10 2+qD l 12 2+qD l 14 2
theorem plusS_m {a b:Int} (h:(0≤a∧a≤65535)∧(0≤b∧b≤65535)):(za0 a b - a - b) % 65535=0∧(0 < a→0 < za0 a b)∧(0 < b→0 < za0 a b):=by
 unfold za0;split<;>omega
theorem zi4 {l:List Int} (hl:16≤l.length) (h1:0 < qD l 0 2): ∀k,k≤8→(zhA (l.take 16) k=0∧k=0∨0 < zhA (l.take 16) k∧0 < k)∧(zhA (l.take 16) k - (if 0 < k then qD l 0 2 else 0) - (if 1 < k then qD l 2 2 else 0) - (if 2 < k then qD l 4 2 else 0) - (if 3 < k then qD l 6 2 else 0) - (if 4 < k then qD l 8 2 else 0) - (if 5 < k then qD l 10 2 else 0) - (if 6 < k then qD l 12 2 else 0) - (if 7 < k then qD l 14 2 else 0)) % 65535=0
 | 0,_=>by simp [zhA]
 | k+1,hk=>by
  have ih:=zi4 hl h1 k om
  have hp:(l.take 16).getD (2*k) 0 % 256*256+(l.take 16).getD (2*k+1) 0 % 256=qD l (2*k) 2:=by
   have e: ∀j,j < 16→(l.take 16).getD j 0=l.getD j 0:=fun j hj=>by
    rw [List.getD_eq_getElem?_getD,List.getD_eq_getElem?_getD,List.getElem?_take,if_pos hj]
   rw [e _ om,e _ om];simp only [qD];simp
  simp only [zhA];rw [hp]
  have hr:=addT_r (l.take 16) k
  have hn:=(zcJ l (2*k)).2.1
  have hm:=plusS_m (a:=zhA (l.take 16) k) (b:=qD l (2*k) 2) ⟨hr,om⟩
  have hq:=zc7 (a:=zhA (l.take 16) k) (b:=qD l (2*k) 2) ⟨hr,om⟩
  generalize za0 (zhA (l.take 16) k) (qD l (2*k) 2)=y at hm hq ⊢
  generalize zhA (l.take 16) k=z at ih hm hr ⊢
  have hy:0 < y:=by
   rcases ih.1 with ⟨e1,e2⟩ | ⟨e1,_⟩
   ·subst e2;exact hm.2.2 h1
   ·exact hm.2.1 e1
  refine ⟨.inr ⟨hy,om⟩, ?_⟩
  have hk8:k=0∨k=1∨k=2∨k=3∨k=4∨k=5∨k=6∨k=7:=om
  have hm1:=hm.1
  clear hm hp hn hq hr
  have ih2:=ih.2
  clear ih
  rcases hk8 with rfl | rfl | rfl | rfl | rfl | rfl | rfl | rfl<;>simp at ih2 hm1 ⊢<;>omega
theorem addS_head {l:List Int} (hl:16≤l.length) (h1:0 < qD l 0 2):zbY (l.take 16)=65535↔zgV l % 65535=0:=by
 have h:=zi4 hl h1 8 (Nat.le_refl _)
 have h2:=zhB (l.take 16)
 have e:zbY (l.take 16)=zhA (l.take 16) 8:=by unfold zbY;rw [List.length_take,Nat.min_eq_left hl]
 rw [e] at h2 ⊢
 simp at h
 unfold zgV
 omega
theorem turnS_m {s a b:Int} (h:(0≤s∧s≤65535)∧(0≤a∧a≤65535)∧(0≤b∧b≤65535)):(zd3 s a b - s - a+b) % 65535=0:=by
 unfold zd3 za0;(repeat' split)<;>omega
def ze3 (l:List Int):Pk:=
 if l.getD 0 0 % 256=3 then ⟨l.getD 0 0 % 256,l.getD 1 0 % 256,l.getD 12 0 % 256,qD l 4 4,qD l 8 4,0,0,0,0,false,l.getD 16 0 % 256,[],l.drop 20⟩
 else if l.getD 0 0 % 256=2 then ⟨l.getD 0 0 % 256,l.getD 1 0 % 256,l.getD 12 0 % 256,qD l 4 4,qD l 8 4,qD l 16 2,qD l 18 2,0,qD l 20 2,qD l 22 2==0,0,[],l.drop 24⟩
 else ⟨l.getD 0 0 % 256,l.getD 1 0 % 256,l.getD 12 0 % 256,qD l 4 4,qD l 8 4,qD l 16 2,qD l 18 2,l.getD 20 0 % 256,0,false,0,(l.drop 24).take (l.getD 21 0 % 256).toNat,l.drop (24+(l.getD 21 0 % 256).toNat)⟩
structure PkB (l:List Int):Prop where
  len:24≤l.length∧l.length≤1500
  b0:1≤l.getD 0 0 % 256∧l.getD 0 0 % 256≤3
  b2:qD l 2 2=(l.length:Int)
  b13:l.getD 13 0 % 256=0
  w:zgV l % 65535=0
  f:l.getD 0 0 % 256=3→44≤l.length∧l.getD 17 0 % 256=0
  s:l.getD 0 0 % 256=1→l.getD 20 0 % 256≤15∧l.getD 21 0 % 256≤40∧24+l.getD 21 0 % 256≤(l.length:Int)
theorem zgi {l:List Int} (h:1≤l.getD 0 0 % 256):0 < qD l 0 2:=by simp only [qD,Nat.add_zero];omega
theorem ze4 {l:List Int} {x:Pk} (hp:qX l=(0,x)):PkB l∧x=ze3 l:=by
 have h0:=headS_0 (zfV (l:=l) (by rw [hp]))
 have hw:=(addS_head (l:=l) om (zgi h0.2.2.1.1)).1 h0.2.2.2.2.1
 unfold qX at hp
 split at hp
 ·simp only [Prod.mk.injEq] at hp;exact absurd hp.1 (by assumption)
 split at hp
 ·rename_i h3
  split at hp
  ·simp at hp
  ·cases hp;exact ⟨⟨om,om,om,om,hw,fun _=>⟨om,om⟩,fun q=>by omega⟩,by rw [ze3,if_pos h3]⟩
 rename_i h3
 split at hp
 ·rename_i h2;cases hp;exact ⟨⟨om,om,om,om,hw,fun q=>by omega,fun q=>by omega⟩,by rw [ze3,if_neg h3,if_pos h2]⟩
 rename_i h2
 split at hp
 ·simp at hp
 ·rename_i h4;cases hp;exact ⟨⟨om,om,om,om,hw,fun q=>by omega,fun q=>by omega⟩,by rw [ze3,if_neg h3,if_neg h2]⟩
theorem PkB.head {l:List Int} (h:PkB l):zb7 l=0:=by
 have:=h.len;have:=h.b0;have:=h.b2;have:=h.b13;have:=h.f
 have hw:=(addS_head (l:=l) om (zgi h.b0.1)).2 h.w
 unfold zb7
 rw [if_neg om,if_neg om,if_neg om,if_neg om,if_neg om]
theorem PkB.parse {l:List Int} (h:PkB l):qX l=(0,ze3 l):=by
 have:=h.b0;have hf:=h.f;have hs:=h.s
 unfold qX ze3
 rw [if_neg (by rw [h.head];simp)]
 split
 ·rw [if_neg om]
 split
 ·rfl
 ·rw [if_neg om]
structure Alik0 (l m:List Int):Prop where
  len:m.length=l.length
  b0:m.getD 0 0 % 256=l.getD 0 0 % 256
  b2:qD m 2 2=qD l 2 2
  b13:m.getD 13 0 % 256=l.getD 13 0 % 256
  w:(zgV m - zgV l) % 65535=0
  f:l.getD 0 0 % 256=3→m.getD 17 0 % 256=l.getD 17 0 % 256
  s:l.getD 0 0 % 256=1→m.getD 20 0 % 256=l.getD 20 0 % 256∧m.getD 21 0 % 256=l.getD 21 0 % 256
structure Alike (l m:List Int):Prop extends Alik0 l m where
  g:l.getD 0 0 % 256=2→(qD m 22 2=0↔qD l 22 2=0)
theorem Alik0.refl (l:List Int):Alik0 l l:=⟨rfl,rfl,rfl,rfl,om,fun _=>rfl,fun _=>⟨rfl,rfl⟩⟩
theorem Alik0.pkb {l m:List Int} (h:Alik0 l m) (k:PkB l):PkB m:=by
 have:=k.len;have:=k.b0;have:=k.b2;have:=k.b13;have:=k.w;have:=k.f;have:=k.s
 have:=h.len;have:=h.b0;have:=h.b2;have:=h.b13;have:=h.w;have:=h.f;have:=h.s
 exact ⟨om,om,om,om,om,fun q=>⟨om,om⟩,fun q=>by omega⟩
theorem pkOf_k (l:List Int):(ze3 l).k=l.getD 0 0 % 256:=by unfold ze3;(repeat' split)<;>rfl
theorem pkOf_li (l:List Int):(ze3 l).li=l.getD 1 0 % 256:=by unfold ze3;(repeat' split)<;>rfl
theorem pkOf_ba (l:List Int):(ze3 l).ba=true↔(l.getD 0 0 % 256=2∧qD l 22 2=0):=by
 unfold ze3;split
 ·exact ⟨fun h=>(by cases h),fun h=>om⟩
 split
 ·rename_i h2
  show (qD l 22 2==0)=true↔_
  rw [beq_iff_eq];exact ⟨fun h=>⟨h2,h⟩,fun h=>h.2⟩
 ·exact ⟨fun h=>(by cases h),fun h=>om⟩
theorem pkOf_nb {l:List Int} (h:(ze3 l).ba=false):l.getD 0 0 % 256=2→¬qD l 22 2=0:=fun h2 e=>by
 rw [(pkOf_ba l).2 ⟨h2,e⟩] at h;cases h
theorem Alike.ba {l m:List Int} (h:Alike l m):(ze3 m).ba=(ze3 l).ba:=by
 rw [Bool.eq_iff_iff,pkOf_ba,pkOf_ba,h.b0]
 exact ⟨fun ⟨a,b⟩=>⟨a,(h.g a).1 b⟩,fun ⟨a,b⟩=>⟨a,(h.g a).2 b⟩⟩
theorem Alik0.put {l m:List Int} (h:Alik0 l m) {a n:Nat} {v:Int} (ha:16≤a) (hf:l.getD 0 0 % 256=3→18≤a) (hs:l.getD 0 0 % 256=1→22≤a):Alik0 l (zbq m a n v):=by
 have hw:zgV (zbq m a n v)=zgV m:=by
  unfold zgV
  rw [zac 2 om,zac 2 om,zac 2 om,zac 2 om,zac 2 om,zac 2 om,zac 2 om,zac 2 om]
 refine ⟨by rw [zX,h.len],by rw [zbm _ _ _ _ _ om,h.b0],by rw [zac 2 om,h.b2],by rw [zbm _ _ _ _ _ om,h.b13],by rw [hw];exact h.w,fun q=>?_,fun q=>?_⟩
 ·have:=hf q;rw [zbm _ _ _ _ _ om];exact h.f q
 ·have:=hs q;rw [zbm _ _ _ _ _ om,zbm _ _ _ _ _ om];exact h.s q
theorem zgW {l m:List Int} (hl:24≤l.length) (h:Alik0 l m) (hg:(ze3 l).ba=true→qD m 22 2=qD l 22 2):Alike l (zdC m (ze3 l).ba):=by
 have h0:=h.b0
 have hlen:=h.len
 cases hb:(ze3 l).ba with
 | true=>rw [zdC,if_neg (fun q=>by cases q.2.1)];exact ⟨h,fun _=>by rw [hg hb]⟩
 | false=>
  have hnz:=pkOf_nb hb
  unfold zdC
  split
  ·exact ⟨h.put om (fun _=>by omega) (fun _=>by omega),fun q=>⟨fun e=>by rw [zdw om om] at e;omega,fun e=>absurd e (hnz q)⟩⟩
  ·rename_i hc
   exact ⟨h,fun q=>⟨fun e=>absurd ⟨om,rfl,e⟩ hc,fun e=>absurd e (hnz q)⟩⟩
theorem zgQ {k:Int} :(zak k).toNat=if k=3 then 18 else 22:=by unfold zak;split<;>rfl
theorem ziX {l w m:List Int} (h:Alik0 l m) (ba:Bool) (a n:Nat):Alik0 l (zeM w m ba a n):=by
 unfold zeM
 split
 ·exact h
 ·have h0:=h.b0
  rw [zgQ]
  exact h.put (by split<;>omega) (fun q=>by rw [if_pos om];omega) (fun q=>by rw [if_neg om];omega)
theorem turnN_2 (w m:List Int) (p a:Nat) (ha:a % 2=0):zfN w m p a 2=zd3 (qD m p 2) (qD w a 2) (qD m a 2):=by
 unfold zfN
 rw [show (a+2 - a / 2*2+1) / 2=1 by omega,show a / 2*2=a by omega];rfl
theorem turnN_4 (w m:List Int) (p a:Nat) (ha:a % 2=0):zfN w m p a 4=zd3 (zd3 (qD m p 2) (qD w a 2) (qD m a 2)) (qD w (a+2) 2) (qD m (a+2) 2):=by
 unfold zfN
 rw [show (a+4 - a / 2*2+1) / 2=2 by omega,show a / 2*2=a by omega];rfl
theorem age_alike {l:List Int} {x:Pk} (hp:qX l=(0,x)) (h2:2≤x.li):Alike l (ageL l x.ba):=by
 obtain ⟨k,rfl⟩:=ze4 hp
 have hl:=k.len
 rw [pkOf_li] at h2
 have e1:qD (l.set 1 (l.getD 1 0 % 256 - 1)) 14 2=qD l 14 2:=zft 2 om
 have e0:qD (l.set 1 (l.getD 1 0 % 256 - 1)) 0 2=qD l 0 2 - 1:=by
  simp only [qD,Nat.add_zero,Nat.zero_add]
  rw [zat om,za7 om];omega
 have hn:=fun i=>(zcJ l i).2.1
 have n0:=hn 0;have n14:=hn 14
 have hb0:=zgi k.b0.1
 have ht:=turnS_r (s:=qD l 14 2) (a:=qD l 0 2) (b:=qD l 0 2 - 1) om
 have hm:=turnS_m (s:=qD l 14 2) (a:=qD l 0 2) (b:=qD l 0 2 - 1) om
 unfold ageL
 simp only
 rw [turnN_2 _ _ _ _ rfl,e0,e1]
 generalize zd3 (qD l 14 2) (qD l 0 2) (qD l 0 2 - 1)=t at ht hm ⊢
 have hlen:(l.set 1 (l.getD 1 0 % 256 - 1)).length=l.length:=List.length_set ..
 have hg: ∀i,i≠1→i < 14∨16≤i→(zbq (l.set 1 (l.getD 1 0 % 256 - 1)) 14 2 t).getD i 0=l.getD i 0:=fun i q r=>by rw [zbm _ _ _ _ _ om,zat om]
 have hN: ∀i,2≤i→i+2≤14∨16≤i→qD (zbq (l.set 1 (l.getD 1 0 % 256 - 1)) 14 2 t) i 2=qD l i 2:=fun i q r=>by rw [zac 2 om,zft 2 om]
 refine zgW om ⟨by rw [zX,hlen],by rw [hg 0 om om],hN 2 om om,by rw [hg 13 om om], ?_,fun _=>by rw [hg 17 om om],fun _=>⟨by rw [hg 20 om om],by rw [hg 21 om om]⟩⟩ (fun _=>hN 22 om om)
 unfold zgV
 rw [zac (i:=0) 2 om,e0,hN 2 om om,hN 4 om om,hN 6 om om,hN 8 om om,hN 10 om om,hN 12 om om,zdw om om]
 omega
theorem nat_alike {l:List Int} {x:Pk} (hp:qX l=(0,x)) (h3:x.k≠3) (source:Bool) {addr port:Int} :Alike l (natL l x.ba source addr port):=by
 obtain ⟨k,rfl⟩:=ze4 hp
 have hl:=k.len
 rw [pkOf_k] at h3
 unfold natL
 simp only
 obtain ⟨a,ha⟩: ∃z9,(if source=true then 4 else 8)=z9:=⟨_,rfl⟩
 obtain ⟨p,hpp⟩: ∃z9,(if source=true then 16 else 18)=z9:=⟨_,rfl⟩
 rw [ha,hpp]
 have ha4:a=4∨a=8:=by rw [←ha];split<;>simp
 have hp16:p=16∨p=18:=by rw [←hpp];split<;>simp
 obtain ⟨m,hm⟩: ∃z9,zbq (zbq l a 4 addr) p 2 port=z9:=⟨_,rfl⟩
 rw [hm]
 have hlen:m.length=l.length:=by rw [←hm,zX,zX]
 have hN: ∀i,i+2≤16∨20≤i→i+2≤a∨a+4≤i→qD m i 2=qD l i 2:=fun i q r=>by rw [←hm,zac 2 om,zac 2 om]
 have hG: ∀i,i < 16∨20≤i→i < a∨a+4≤i→m.getD i 0=l.getD i 0:=fun i q r=>by rw [←hm,zbm _ _ _ _ _ om,zbm _ _ _ _ _ om]
 rw [turnN_4 _ _ _ _ om,hN 14 om om]
 have hr:=fun l i=>(zcJ l i).2.1
 have r1:=hr l 14;have r2:=hr l a;have r3:=hr m a;have r4:=hr l (a+2);have r5:=hr m (a+2)
 have t1:=turnS_r (s:=qD l 14 2) (a:=qD l a 2) (b:=qD m a 2) om
 have u1:=turnS_m (s:=qD l 14 2) (a:=qD l a 2) (b:=qD m a 2) om
 obtain ⟨t,ht⟩: ∃z9,zd3 (qD l 14 2) (qD l a 2) (qD m a 2)=z9:=⟨_,rfl⟩
 rw [ht] at t1 u1 ⊢
 have t2:=turnS_r (s:=t) (a:=qD l (a+2) 2) (b:=qD m (a+2) 2) om
 have u2:=turnS_m (s:=t) (a:=qD l (a+2) 2) (b:=qD m (a+2) 2) om
 obtain ⟨u,hu⟩: ∃z9,zd3 t (qD l (a+2) 2) (qD m (a+2) 2)=z9:=⟨_,rfl⟩
 rw [hu] at t2 u2 ⊢
 have h0:Alik0 l (zbq m 14 2 u):=by
  have hN2: ∀i,i+2≤14→qD (zbq m 14 2 u) i 2=qD m i 2:=fun i q=>zac 2 om
  refine ⟨by rw [zX,hlen],by rw [zbm _ _ _ _ _ om,hG 0 om om],by rw [hN2 2 om,hN 2 om om],by rw [zbm _ _ _ _ _ om,hG 13 om om], ?_,fun q=>absurd q h3,fun _=>⟨by rw [zbm _ _ _ _ _ om,hG 20 om om],by rw [zbm _ _ _ _ _ om,hG 21 om om]⟩⟩
  unfold zgV
  rw [hN2 0 om,hN2 2 om,hN2 4 om,hN2 6 om,hN2 8 om,hN2 10 om,hN2 12 om,zdw om om,hN 0 om om,hN 2 om om,hN 12 om om]
  rcases ha4 with rfl | rfl
  ·rw [hN 8 om om,hN 10 om om];simp only [Nat.reduceAdd] at*;omega
  ·rw [hN 4 om om,hN 6 om om];simp only [Nat.reduceAdd] at*;omega
 refine zgW om (ziX (ziX h0 _ _ _) _ _ _) (fun hb=>?_)
 rw [hb]
 simp only [zeM,if_true]
 rw [zac 2 om,hN 22 om om]
theorem zfK {l:List Int} {x:Pk} (hp:qX l=(0,x)) {a n:Nat} {v:Int} (ha:16≤a) (hf:x.k=3→18≤a) (hs:x.k=1→22≤a) (hg:x.k=2→a+n≤22∨24≤a):Alike l (zco l x.ba a n v):=by
 obtain ⟨k,rfl⟩:=ze4 hp
 have hl:=k.len
 rw [pkOf_k] at hf hs hg
 unfold zco
 refine zgW om (ziX ((Alik0.refl l).put ha hf hs) _ _ _) (fun hb=>?_)
 rw [hb]
 simp only [zeM,if_true]
 have:=hg ((pkOf_ba l).1 hb).1
 rw [zac 2 om]
theorem Alike.parse {l m:List Int} {x:Pk} (h:Alike l m) (hp:qX l=(0,x)):qX m=(0,ze3 m)∧(ze3 m).k=x.k∧(ze3 m).ba=x.ba∧m.length=l.length:=by
 obtain ⟨k,rfl⟩:=ze4 hp
 exact ⟨(h.toAlik0.pkb k).parse,by rw [pkOf_k,pkOf_k,h.b0],h.ba,h.len⟩
end Go.Rh

namespace Go.Rh
def hT (kc km:Nat) (e:Ent) (s:Bool):List Value:= [.chan (some kc),.map (some km),iv e.k,iv e.s,iv e.a,iv e.p,iv e.g,uv e.ka,uv e.kb,bv s]
theorem ren_pl {ρ:Nat→Nat} (c:qZ):(pl c).map (zew ρ)=pl c:=za8 fun v hv=>ze0 (List.all_eq_true.1 (zae c) v hv)
structure Nt where
  u:Int
  b:Int
  v:Int
  w:Bool
  a:Bool
  e:Ent
  p:qZ
end Go.Rh

namespace Go.Rh
end Go.Rh

namespace Go.Rh
def e0:Ent:=⟨0,0,0,0,0,0,0⟩
end Go.Rh

set_option maxHeartbeats 8000000
namespace Go.Rh
end Go.Rh

set_option maxHeartbeats 8000000
namespace Go.Rh
end Go.Rh

set_option maxHeartbeats 8000000
namespace Go.Rh
end Go.Rh

namespace Go.Rh
end Go.Rh

set_option maxHeartbeats 8000000
namespace Go.Rh
end Go.Rh

namespace Go.Rh
def n0:Nt:=⟨0,0,0,false,false,e0,qO⟩
end Go.Rh

namespace Go.Rh
end Go.Rh

namespace Go.Rh
section
variable {P:Program} {C:zag}
end
end Go.Rh

namespace Go.Rh
def viewL (ρ:Nat→Nat) (h:List Blk):List Nat→List Blk→Prop
 | k::ks,b::bs=>(∃b',h[k]? =some b'∧Blk.view (zbx ρ b) b')∧viewL ρ h ks bs
 | _,_=>True
theorem zh2 {ρ:Nat→Nat} {h:List Blk} : ∀ {sel:List Nat} {bs:List Blk},viewL ρ h sel bs→∀(i k:Nat) b1,sel[i]? =some k→bs[i]? =some b1→∃b,h[k]? =some b∧Blk.view (zbx ρ b1) b
 | [],_,_,i,_,_,h1,_=>by simp at h1
 | _::_,[],_,i,_,_,_,h2=>by simp at h2
 | _::_,_::_,hb,0,_,_,h1,h2=>by simp at h1 h2;subst h1;subst h2;exact hb.1
 | _::_,_::_,hb,i+1,k,b,h1,h2=>zh2 hb.2 i k b (by simpa using h1) (by simpa using h2)
theorem zd1 {C:zag} {g:String} {vals:List Value} {K:zen} {h:List Blk} {R:zen} (sel:List Nat) (h1:List Blk) (a1:List Value) (hC:C g a1 h1 R) (hl:h1.length=sel.length) (ha:a1.map (zaF (rho sel h.length))=vals)
  (hs:viewL (rho sel h.length) h sel h1) (hd:sel.Nodup) (hK: ∀v h1',R v h1'→zgm h1 h1'∧∃v' xs ys,zaF (rho sel h.length) v=v'∧zi2 sel h1' (rho sel h.length) 0 h xs∧renL (rho sel h.length) (h1'.drop sel.length) ys∧K v' (xs++ys)):zdA C g vals K h:=by
 refine ⟨sel,h1,a1,R,hC,hl,ha,zh2 hs,fun i j k b1 hij e1 e2 _=>?_,fun v h1' hR _ _=>?_⟩
 ·exact (zhN hd hij e1 e2).elim
 ·obtain ⟨hg,v',xs,ys,e1,e2,e3,e4⟩:=hK v h1' hR
  rw [e1,back_of e2 e3];exact ⟨hg,e4⟩
section
variable {C:zag} {un:Nat→Nat→Bool} {K:St→Prop} {L:List (Nat×Value)} {h:List Blk} {i nid:Nat} {log:List Foot}
theorem d_clH {d:Nat} {g:String} {args:List Opd} {r:List ICell} {R:zen} (sel:List Nat) (h1:List Blk) (a1:List Value) (hC:C g a1 h1 R) (hl:h1.length=sel.length) (ha:a1.map (zaF (rho sel h.length))=args.map (evf (reg L)))
  (hs:viewL (rho sel h.length) h sel h1) (hd:sel.Nodup) (hx: ∃v h1',R v h1'∧sel.length≤h1'.length∧zeF h1 h1')
  (hK: ∀v h1',R v h1'→zgm h1 h1'∧∃v' xs ys,zaF (rho sel h.length) v=v'∧zi2 sel h1' (rho sel h.length) 0 h xs∧renL (rho sel h.length) (h1'.drop sel.length) ys∧GD C un (i+1) nid r (⟨i,sel,zcF sel h1,some h.length⟩::log) K ⟨reg ((d,v')::L),xs++ys⟩)
  (hfit:zhD un ⟨i,sel,zcF sel h1,some h.length⟩ log=true:=by kernel_rfl):GD C un i nid (⟨some d,.call g args,none⟩::r) log K ⟨reg L,h⟩:=by
 refine ⟨⟨sel,h1,a1,R,hC,hl,ha,zh2 hs,fun i j k b1 hij e1 e2 _=>?_,zcp hfit,fun _=>hx,fun v h1' hR _ _=>?_⟩⟩
 ·exact (zhN hd hij e1 e2).elim
 ·obtain ⟨hg,v',xs,ys,e1,e2,e3,e4⟩:=hK v h1' hR
  rw [e1,back_of e2 e3];exact ⟨hg,e4.out⟩
end
theorem zaI {ρ:Nat→Nat} {c:List Value} {rw:Bool} :Blk.view (zbx ρ (cr [])) (.cells c rw):= .inr ⟨rfl,_,_,rfl⟩
theorem zav {a b:Blk} (h:Blk.sees a b):Blk.view a b:= .inl h
theorem zap {l:List Blk} :zgm [] l:=fun i h=>by simp at h
theorem zW {b b':Blk} {h h':List Blk} (h1:b= .gone→b'= .gone) (h2:zgm h h'):zgm (b::h) (b'::h'):=by
 intro i hi
 cases i with
 | zero=>simp only [List.getElem?_cons_zero,Option.some.injEq] at hi ⊢;exact h1 hi
 | succ i=>simp only [List.getElem?_cons_succ] at hi ⊢;exact h2 i hi
theorem qC {b:Blk} :b= .gone→b= .gone:=fun h=>h
theorem zaO {c:List Value} {rw:Bool} {b:Blk} :Blk.cells c rw= .gone→b= .gone:=fun h=>by cases h
def unitL (k:Nat) (p:qZ) (b:Int) (kc:Nat):List Value:= [pv k 0]++(pl p++ [iv b,.chan (some kc)])
theorem unit_wP {k:Nat} {p q:qZ} {b:Int} {kc:Nat} :splice (unitL k p b kc) 1 (pl q)=unitL k q b kc:=by
 have:splice (unitL k p b kc) (1+0) (pl q)= [pv k 0]++splice (pl p++ [iv b,.chan (some kc)]) 0 (pl q):=zdg rfl
 rw [zes (by rw [qI,qI];omega),zai] at this;exact this
def zeK (nr:Nat→Int×Bool):List Value:=((List.range 64).map fun i=> [.int .u32 (nr i).1,bv (nr i).2]).flatten
def nr0:Nat→Int×Bool:=fun _=>(0,false)
def zis (is:Bool) (nr:Nat→Int×Bool) (w:Value):List Value:= [bv is]++(zeK nr++ [w])
def zR (p:qZ) (is:Bool) (nr:Nat→Int×Bool) (w:Value):List Value:=pl p++zis is nr w
theorem nearL_length (nr:Nat→Int×Bool):(zeK nr).length=128:=rfl
theorem planeT_length (is:Bool) (nr:Nat→Int×Bool) (w:Value):(zis is nr w).length=130:=rfl
theorem zdi (p:qZ) (is:Bool) (nr:Nat→Int×Bool) (w:Value):(zR p is nr w).length=460:=by simp only [zR,List.length_append,qI,planeT_length]
theorem zex {m:Option Nat} {p:qZ} {is:Bool} {nr:Nat→Int×Bool} {w v:Value} {o:Nat} (h:zaP m (pl p) o=some v):zaP m (zR p is nr w) o=some v:=zcQ h
theorem zfp {m:Option Nat} {p:qZ} {is:Bool} {nr:Nat→Int×Bool} {w:Value} (o:Nat):zaP m (zR p is nr w) (330+o)=zaP m (zis is nr w) o:=partL_r (qI p)
theorem plane_wP {p q:qZ} {is:Bool} {nr:Nat→Int×Bool} {w:Value} :splice (zR p is nr w) 0 (pl q)=zR q is nr w:=by
 unfold zR;rw [zes (by rw [qI,qI];omega),zai]
theorem plane_wI {p:qZ} {is is':Bool} {nr:Nat→Int×Bool} {w:Value} :splice (zR p is nr w) 330 [bv is']=zR p is' nr w:=zdg (o:=0) (qI p)
theorem plane_wW {p:qZ} {is:Bool} {nr:Nat→Int×Bool} {w w':Value} :splice (zR p is nr w) 459 [w']=zR p is nr w':=by
 have h1:splice (zR p is nr w) (330+129) [w']=pl p++splice (zis is nr w) 129 [w']:=zdg (qI p)
 have h2:splice (zis is nr w) (1+128) [w']= [bv is]++splice (zeK nr++ [w]) 128 [w']:=zdg rfl
 have h3:splice (zeK nr++ [w]) (128+0) [w']=zeK nr++splice [w] 0 [w']:=zdg rfl
 rw [h3] at h2;rw [h2] at h1;exact h1
theorem plane_wAll {p q:qZ} {is is':Bool} {nr nr':Nat→Int×Bool} {w w':Value} :splice (zR p is nr w) 0 (zR q is' nr' w')=zR q is' nr' w':=zgH (by rw [zdi,zdi])
theorem zfq {p:qZ} {is:Bool} {nr:Nat→Int×Bool} {w:Value} {m:Nat} (h:m≤460):m≤(zR p is nr w).length:=by rw [zdi];exact h
theorem nearL_scl (nr:Nat→Int×Bool):(zeK nr).all zbG=true:=by
 simp only [zeK,List.all_flatten,List.all_map]
 exact List.all_eq_true.2 fun i _=>rfl
theorem ren_nearL {ρ:Nat→Nat} (nr:Nat→Int×Bool):(zeK nr).map (zew ρ)=zeK nr:=za8 fun v hv=>ze0 (List.all_eq_true.1 (nearL_scl nr) v hv)
theorem zbA {ρ:Nat→Nat} {p:qZ} {is:Bool} {nr:Nat→Int×Bool} {w w':Value} {rw:Bool} (h:zew ρ w=w'):zbx ρ (.cells (zR p is nr w) rw)= .cells (zR p is nr w') rw:=by
 subst h
 simp only [zbx,zR,zis,List.map_append,ren_pl,ren_nearL];rfl
theorem qH {ρ:Nat→Nat} {p:qZ} {is:Bool} {nr:Nat→Int×Bool} {w w':Value} {rw:Bool} (h:zew ρ w=w'):some (Blk.cells (zR p is nr w') rw)=some (zbx ρ (.cells (zR p is nr w) rw)):=by rw [zbA h]
theorem zaX {ρ:Nat→Nat} {p:qZ} {is:Bool} {nr:Nat→Int×Bool} {w w':Value} {rw rw':Bool} (h:zew ρ w=w') (hr:rw=true→rw'=true):Blk.seen (zbx ρ (.cells (zR p is nr w) rw)) (.cells (zR p is nr w') rw'):=by
 rw [zbA h];exact ⟨rfl,hr⟩
theorem bld_plane:zgo (zaE [(324,Value.int .i64 0),(6,.int .u64 0),(1,.bool false),(1,.int .u32 0),(1,.bool false),(1,.int .u32 0),(1,.bool false),(1,.int .u32 0),(1,.bool false),(1,.int .u32 0),(1,.bool false),(1,.int .u32 0),(1,.bool false),(1,.int .u32 0),(1,.bool false),(1,.int .u32 0),(1,.bool false),(1,.int .u32 0),(1,.bool false),(1,.int .u32 0),(1,.bool false),(1,.int .u32 0),(1,.bool false),(1,.int .u32 0),(1,.bool false),(1,.int .u32 0),(1,.bool false),(1,.int .u32 0),(1,.bool false),(1,.int .u32 0),(1,.bool false),(1,.int .u32 0),(1,.bool false),(1,.int .u32 0),(1,.bool false),(1,.int .u32 0),(1,.bool false),(1,.int .u32 0),(1,.bool false),(1,.int .u32 0),(1,.bool false),(1,.int .u32 0),(1,.bool false),(1,.int .u32 0),(1,.bool false),(1,.int .u32 0),(1,.bool false),(1,.int .u32 0),(1,.bool false),(1,.int .u32 0),(1,.bool false),(1,.int .u32 0),(1,.bool false),(1,.int .u32 0),(1,.bool false),(1,.int .u32 0),(1,.bool false),(1,.int .u32 0),(1,.bool false),(1,.int .u32 0),(1,.bool false),(1,.int .u32 0),(1,.bool false),(1,.int .u32 0),(1,.bool false),(1,.int .u32 0),(1,.bool false),(1,.int .u32 0),(1,.bool false),(1,.int .u32 0),(1,.bool false),(1,.int .u32 0),(1,.bool false),(1,.int .u32 0),(1,.bool false),(1,.int .u32 0),(1,.bool false),(1,.int .u32 0),(1,.bool false),(1,.int .u32 0),(1,.bool false),(1,.int .u32 0),(1,.bool false),(1,.int .u32 0),(1,.bool false),(1,.int .u32 0),(1,.bool false),(1,.int .u32 0),(1,.bool false),(1,.int .u32 0),(1,.bool false),(1,.int .u32 0),(1,.bool false),(1,.int .u32 0),(1,.bool false),(1,.int .u32 0),(1,.bool false),(1,.int .u32 0),(1,.bool false),(1,.int .u32 0),(1,.bool false),(1,.int .u32 0),(1,.bool false),(1,.int .u32 0),(1,.bool false),(1,.int .u32 0),(1,.bool false),(1,.int .u32 0),(1,.bool false),(1,.int .u32 0),(1,.bool false),(1,.int .u32 0),(1,.bool false),(1,.int .u32 0),(1,.bool false),(1,.int .u32 0),(1,.bool false),(1,.int .u32 0),(1,.bool false),(1,.int .u32 0),(1,.bool false),(1,.int .u32 0),(1,.bool false),(1,.int .u32 0),(1,.bool false),(1,.int .u32 0),(1,.bool false),(1,.int .u32 0),(1,.bool false),(1,.int .u32 0),(1,.bool false),(1,.slice none 0 0)]) []=some (zR qO false nr0 (.slice none 0 0)):=by kernel_rfl
theorem h16 {sel:List Nat} {N b b':Nat} (h:(List.range 16).all (fun j=>sel[b+j]? ==some (b'+j))=true): ∀j,j < 16→rho sel N (b+j)=b'+j:=by
 intro j hj
 have:=List.all_eq_true.1 h j (List.mem_range.2 hj)
 exact zdc (by simpa using this)
def zaG:Bool→Blk
 | false=> .gone
 | true=>cr []
theorem zaM {ρ:Nat→Nat} (b:Bool):zbx ρ (zaG b)=zaG b:=by cases b<;>rfl
theorem zd2 {ρ:Nat→Nat} (b:Bool):Blk.view (zbx ρ (zaG b)) (zaG b):=by
 cases b with
 | false=>exact .inl (.inr ⟨rfl,rfl⟩)
 | true=>exact .inl (.inl ⟨rfl,fun q=>q⟩)
theorem zdq {ρ:Nat→Nat} {z c:List Value} (q:Option Nat):Blk.view (zbx ρ (zaG q.isSome)) (slB z c q):=by
 cases q with
 | none=>exact .inl (.inr ⟨rfl,rfl⟩)
 | some x=>exact .inr ⟨rfl,_,_,rfl⟩
end Go.Rh
