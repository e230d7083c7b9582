/- The proofs zcl the intermediate form, part QPlaneOpensc. -/
import Derived.Test.YtcgficakdfdepaaGreatQPlaneOpensb
import Derived.IntWalk
import Derived.KernelRfl
import Derived.Below
import Derived.WideShapes
open Go.IntKind (i64)
set_option linter.unusedVariables false
set_option linter.unusedSimpArgs false
set_option maxRecDepth 100000
namespace Go.Rh
def run1 (c:ICell) (s:St):Option St:=
 if gJ c s.f then none else if zbS c s.f then (if qQ c.op=0 then (match z8 c.op (evf s.f) (hf s.h) s.h.length with
   | some (v,e)=>some ⟨zau s.f c.dst v,e.on s.h⟩
   | none=>none) else none)
 else some ⟨zau s.f c.dst undef,s.h⟩
def zdb:List ICell→St→Option St
 | [],s=>some s
 | c::r,s=>match run1 c s with
  | some s'=>zdb r s'
  | none=>none
theorem wp1_run {C:zag} {c:ICell} {K:St→Prop} {s s':St} (h:run1 c s=some s') (hk:K s'):wp1 C c K s:=by
 unfold run1 at h
 have plain:qQ c.op=0→(match z8 c.op (evf s.f) (hf s.h) s.h.length with
   | some (v,e)=>some (⟨zau s.f c.dst v,e.on s.h⟩:St)
   | none=>none)=some s'→zfD C c.op s.f s.h fun v h=>K ⟨zau s.f c.dst v,h⟩:=by
  intro hsp hs
  have:zfD C c.op s.f s.h (fun v h=>K ⟨zau s.f c.dst v,h⟩)=(match z8 c.op (evf s.f) (hf s.h) s.h.length with
   | some (v,e)=>K ⟨zau s.f c.dst v,e.on s.h⟩
   | none=>False):=by
   cases ho:c.op<;>first | rfl | (rw [ho] at hsp;cases hsp)
  rw [this]
  split at hs<;>cases hs
  exact hk
 unfold wp1
 unfold zbS gJ at h
 rcases hg:c.guard with _ | ⟨g,b⟩
 ·simp only [hg,if_true,Bool.false_eq_true,if_false] at h ⊢
  split at h
  ·rename_i hsp;exact plain hsp h
  ·cases h
 ·simp only [hg] at h ⊢
  cases hgv:s.f g with
  | bool x=>
   simp only [hgv,Bool.false_eq_true,if_false] at h
   cases hx:x==b with
   | true=>
    rw [hx] at h
    simp only [if_true] at h
    have:x=b:=by simpa using hx
    simp only [this,if_true]
    split at h
    ·rename_i hsp;exact plain hsp h
    ·cases h
   | false=>
    rw [hx] at h
    have:x≠b:=by simpa using hx
    simp only [this,if_false]
    cases h
    exact hk
  | complex k r i=>simp [hgv] at h
  | _=>simp only [hgv,Bool.false_eq_true,if_false] at h;cases h;exact hk
theorem zeN {C:zag} {K:St→Prop} : ∀ {l r:List ICell} {s s':St},zdb l s=some s'→zbv C r K s'→zbv C (l++r) K s
 | [],_,_,_,h,hk=>by cases h;exact hk
 | c::l,r,s,s',h,hk=>by
  simp only [zdb] at h
  split at h
  ·rename_i s1 h1;exact wp1_run h1 (zeN h hk)
  ·cases h
theorem qF {C:zag} {K:St→Prop} {l:List ICell} {s s':St} (h:zdb l s=some s') (hk:K s'):zbv C l K s:=by
 have:=zeN (C:=C) (r:= []) h hk
 simpa using this
theorem zfi {C:zag} {K:St→Prop} {d:Option Nat} {op:IOp} {r:List ICell} {s:St} {v:Value} {e:Eff} (hsp:qQ op=0) (h:z8 op (evf s.f) (hf s.h) s.h.length=some (v,e)) (hk:zbv C r K ⟨zau s.f d v,e.on s.h⟩):
  zbv C (⟨d,op,none⟩::r) K s:=
 wp1_run (s':=⟨zau s.f d v,e.on s.h⟩) (by simp [run1,gJ,zbS,hsp,h]) hk
theorem wpOps_iadS {C:zag} {K:St→Prop} {d:Option Nat} {r:List ICell} {s:St} {size k o len cap:Nat} {ik:IntKind} {n:Int} {x i:Opd} (hx:evf s.f x= .slice (some ⟨k,o,none⟩) len cap) (hi:evf s.f i= .int ik n) (hn:0≤n∧n < len)
  (hk:zbv C r K ⟨zau s.f d (.pointer (some ⟨k,o+n.toNat*size,none⟩)),s.h⟩):zbv C (⟨d,.iadS size x i,none⟩::r) K s:=
 zfi (e:= .no) rfl (by simp [z8,hx,hi,hn]) hk
theorem wpOps_ld {C:zag} {K:St→Prop} {d:Option Nat} {r:List ICell} {s:St} {m:Option Nat} {k o:Nat} {x:Opd} {c:List Value} {rw:Bool} {v:Value} (hx:evf s.f x= .pointer (some ⟨k,o,none⟩)) (hh:hf s.h k=some (.cells c rw)) (hv:zaP m c o=some v)
  (hk:zbv C r K ⟨zau s.f d v,s.h⟩):zbv C (⟨d,.ld m x,none⟩::r) K s:=
 zfi (e:= .no) rfl (by simp [z8,ldV,hx,hh,hv]) hk
theorem zgH {c vs:List Value} (h:vs.length=c.length):splice c 0 vs=vs:=by
 unfold splice;simp [h]
theorem zb3 {C:zag} {B:Nat} {c:Opd} {a b:IC} {Q:IExit→St→Prop} {s:St} {t:Bool} (hc:evf s.f c= .bool t) (h1:t=true→wpC C B a Q s) (h2:t=false→wpC C B b Q s):wpC C B (.cond c a b) Q s:=by
 simp only [wpC,hc]
 cases t with
 | true=>exact h1 rfl
 | false=>exact h2 rfl
theorem zbK {C:zag} {B:Nat} {a b:IC} {Q:IExit→St→Prop} {s:St} (h:wpC C B a (fun ex s'=>match ex with | .normal=> ∃s0,Wk B s' s0∧wpC C B b Q s0 | ex=>Q ex s') s):wpC C B (.seq a b) Q s:=h
theorem zhY {C:zag} {B:Nat} {id:Nat} {b:IC} {Q:IExit→St→Prop} {s:St} (h:wpC C B b (fun ex s'=>match ex with | .exit i=>if i=id then Q .normal s' else Q (.exit i) s' | ex=>Q ex s') s):wpC C B (.block id b) Q s:=h
theorem zA {B:Nat} {s:St} {K:St→Prop} (h:K s): ∃s0,Wk B s s0∧K s0:=⟨s,.inl rfl,h⟩
def regsOK (f:Nat→Value) (m:Nat):List (Nat×Value)→Prop
 | []=>True
 | p::l=>(f p.1=p.2∧vbel m p.2=true)∧regsOK f m l
theorem reg_cases {f:Nat→Value} {m:Nat} : ∀ {l:List (Nat×Value)},regsOK f m l→∀t,reg l t=junk∨(reg l t=f t∧vbel m (reg l t)=true)
 | [],_,t=> .inl rfl
 | p::l,h,t=>by
  obtain ⟨⟨h1,h2⟩,h3⟩:=h
  simp only [reg,setf]
  by_cases ht:t=p.1
  ·subst ht;simp only [if_true];exact .inr ⟨h1.symm,h2⟩
  ·simp only [ht,if_false];exact reg_cases h3 t
theorem Wk.to {B:Nat} {s:St} {l:List (Nat×Value)} {hs:List Blk} (hB:B≤hs.length) (hp:s.h.take hs.length=hs) (hr:regsOK s.f hs.length l) (hb:hs.all (bbel hs.length)=true):Wk B s ⟨reg l,hs⟩:=
 .inr (.inl ⟨hB,hp.symm,fun t=>reg_cases hr t,fun b hbm=>List.all_eq_true.1 hb b hbm⟩)
theorem seq_to {B:Nat} {s:St} {K:St→Prop} (l:List (Nat×Value)) (hs:List Blk) (hB:B≤hs.length) (hp:s.h.take hs.length=hs) (hr:regsOK s.f hs.length l) (hb:hs.all (bbel hs.length)=true) (h:K ⟨reg l,hs⟩): ∃s0,Wk B s s0∧K s0:=
 ⟨_,Wk.to hB hp hr hb,h⟩
def disjB (a b:List Nat):Bool:=a.all fun k=>b.all fun j=> !(Nat.beq k j)
def belowB (t:Option Nat) (l:List Nat):Bool:=match t with
 | some n=>l.all fun k=>Nat.blt k n
 | none=>true
def apartB (x y:Foot):Bool:=disjB x.wr y.rd&&disjB x.wr y.wr&&disjB y.wr x.rd&&belowB x.top (y.rd++y.wr)&&belowB y.top (x.rd++x.wr)
def zhD (un:Nat→Nat→Bool) (x:Foot) (log:List Foot):Bool:=x.none? || log.all fun y=> !(un y.i x.i) || apartB y x
theorem zgX {a b:List Nat} (h:disjB a b=true): ∀k∈a,k∉b:=by
 intro k hk hb
 have:=List.all_eq_true.1 (List.all_eq_true.1 h k hk) k hb
 simp at this
theorem zi0 {t:Option Nat} {l:List Nat} (h:belowB t l=true):below t l:=by
 cases t with
 | none=>trivial
 | some n=>exact fun k hk=>by have:=List.all_eq_true.1 h k hk;simpa using this
theorem apartB_spec {x y:Foot} (h:apartB x y=true):Foot.apart x y:=by
 simp only [apartB,Bool.and_eq_true] at h
 obtain ⟨⟨⟨⟨h1,h2⟩,h3⟩,h4⟩,h5⟩:=h
 exact ⟨fun k hk=>⟨zgX h1 k hk,zgX h2 k hk⟩,zgX h3,zi0 h4,zi0 h5⟩
theorem zcp {un:Nat→Nat→Bool} {x:Foot} {log:List Foot} (h:zhD un x log=true):fits un x log:=by
 intro y hy
 simp only [zhD,Bool.or_eq_true] at h
 rcases h with h | h
 ·exact .inl (Foot.apart.symm (zfu h))
 ·have:=List.all_eq_true.1 h y hy
  simp only [Bool.or_eq_true,Bool.not_eq_true'] at this
  rcases this with h | h
  ·exact .inr h
  ·exact .inl (apartB_spec h)
def runD (un:Nat→Nat→Bool):List DCell→List Foot→St→Option (List Foot×St)
 | [],log,s=>some (log,s)
 | d::r,log,s=>if Nat.beq (qQ d.c.op) 0 || !(zbS d.c s.f) then (match zhb 0 d s with
   | some (x,s')=>if zhD un x log then runD un r (zeq x log) s' else none
   | none=>none) else none
theorem wpD_run {C:zag} {un:Nat→Nat→Bool} {K:St→Prop} : ∀ {l r:List DCell} {log log':List Foot} {s s':St},runD un l log s=some (log',s')→wpD C un r log' K s'→wpD C un (l++r) log K s
 | [],_,_,_,_,_,h,hk=>by cases h;exact hk
 | d::l,r,log,log',s,s',h,hk=>by
  simp only [runD] at h
  split at h<;>try cases h
  rename_i hsp
  split at h<;>try cases h
  rename_i x s1 hd
  split at h<;>try cases h
  rename_i hf
  show zaW C un d log (fun log' s'=>wpD C un (l++r) log' K s') s
  refine (zcx ?_).2 ⟨x,s1,hd,zcp hf,wpD_run h hk⟩
  intro hw
  rw [hw] at hsp
  simpa using hsp
theorem wpD_all {C:zag} {un:Nat→Nat→Bool} {K:St→Prop} {l:List DCell} {log log':List Foot} {s s':St} (h:runD un l log s=some (log',s')) (hk:K s'):wpD C un l log K s:=by
 have:=wpD_run (C:=C) (r:= []) h hk
 simpa using this
theorem ze0 {ρ:Nat→Nat} {v:Value} (h:zbG v=true):zew ρ v=v:=by
 unfold zew;split<;>first | rfl | (simp [zbG] at h)
theorem za8 {f:Value→Value} {l:List Value} (h: ∀v∈l,f v=v):l.map f=l:=by
 have:=List.map_congr_left h;simpa using this
theorem renG_aggf {ρ:Nat→Nat} {v:Value} (h:aggf v=true):zeY ρ v=v:=by
 unfold zeY;split
 ·rename_i a
  have:a.map (zew ρ)=a:=Array.toList_inj.1 (by rw [Array.toList_map];exact za8 fun v hv=>ze0 (List.all_eq_true.1 h v hv))
  rw [this]
 ·rename_i hv;cases v<;>first | exact ze0 h | exact absurd rfl (hv _)
theorem qN {ρ:Nat→Nat} {v:Value} (h:vpf v=true):zaF ρ v=v:=by
 unfold zaF;split
 ·rename_i a
  have:a.map (zeY ρ)=a:=Array.toList_inj.1 (by rw [Array.toList_map];exact za8 fun v hv=>renG_aggf (List.all_eq_true.1 h v hv))
  rw [this]
 ·rename_i hv;cases v<;>first | exact renG_aggf h | exact absurd rfl (hv _)
theorem zbn {ρ:Nat→Nat} {c:List Value} {rw:Bool} (h:c.all zbG=true):zbx ρ (.cells c rw)= .cells c rw:=by
 simp only [zbx];rw [za8 fun v hv=>ze0 (List.all_eq_true.1 h v hv)]
theorem over_ro {k:Nat} : ∀ {sel:List Nat} {h:List Blk},(∀b∈h,b.rw=false)→zcl k sel h=none
 | [],_,_=>rfl
 | _::_,[],_=>rfl
 | s::ss,b::bs,hb=>by
  simp only [zcl]
  rw [if_neg (by rw [hb b (by simp)];simp)]
  exact over_ro fun x hx=>hb x (by simp [hx])
theorem zi1 {h:List Blk} {sel:List Nat} {h1:List Blk} {ρ:Nat→Nat} (hl:h1.length=sel.length) (hb: ∀b∈h1,b.rw=false):zfZ h sel h1 ρ=h:=by
 unfold zfZ
 rw [←hl,List.drop_length]
 simp only [over_ro hb,List.map_nil,List.append_nil]
 exact List.ext_getElem? fun k=>by simp [List.getElem?_mapIdx]
abbrev Ans (V:Value) (h1:List Blk):zen:=fun v h'=>v=V∧h'=h1
theorem callP {C:zag} {g:Fnm} {vals:List Value} {K:zen} {h:List Blk} {V:Value} (hC:C g vals [] (Ans V [])) (hv:vals.all vpf=true) (hV:vpf V=true) (hK:K V h):zdA C g vals K h:=by
 refine ⟨[],[],vals,_,hC,rfl,za8 fun v hm=>qN (List.all_eq_true.1 hv v hm),by simp,by simp, ?_⟩
 rintro v h' ⟨rfl,rfl⟩ _ _
 refine ⟨fun _ q=>q, ?_⟩
 rw [qN hV,zi1 rfl (by simp)]
 exact hK
theorem zab {C:zag} {g:Fnm} {vals vs:List Value} {K:zen} {h:List Blk} {V:Value} (hC:C g vs [] (Ans V [])) (hv:vals=vs) (hp:vs.all vpf=true) (hV:vpf V=true) (hK:K V h):zdA C g vals K h:=by
 subst hv;exact callP hC hp hV hK
theorem callR {C:zag} {g:Fnm} {vals a1:List Value} {K:zen} {h:List Blk} {V:Value} {c:List Value} {rw:Bool} (k:Nat) (hC:C g a1 [.cells c false] (Ans V [.cells c false])) (hk:h[k]? =some (.cells c rw)) (hc:c.all zbG=true) (ha:a1.map (zaF (rho [k] h.length))=vals) (hV:vpf V=true) (hK:K V h):zdA C g vals K h:=by
 refine ⟨[k],[.cells c false],a1,_,hC,rfl,ha, ?_, ?_, ?_⟩
 ·intro i k' b1 h1 h2
  match i with
  | 0=>
   simp at h1 h2
   subst h1;subst h2
   exact ⟨_,hk,.inl (.inl (by rw [zbn hc];exact ⟨rfl,by simp⟩))⟩
  | i+1=>simp at h1
 ·intro i j k' b1 hij h1 h2
  match i,j with
  | 0,0=>exact absurd rfl hij
  | 0,j+1=>simp at h2
  | i+1,_=>simp at h1
 ·rintro v h' ⟨rfl,rfl⟩ _ _
  refine ⟨fun _ q=>q, ?_⟩
  rw [qN hV,zi1 rfl (by simp [Blk.rw])]
  exact hK
theorem callRS {C:zag} {g:Fnm} {vals pre:List Value} {K:zen} {h:List Blk} {V:Value} {c:List Value} {rw:Bool} {l cp:Nat} (k:Nat) (hC:C g (pre++ [.slice (some ⟨0,0,none⟩) l cp]) [.cells c false] (Ans V [.cells c false])) (hk:h[k]? =some (.cells c rw)) (hc:c.all zbG=true) (hp:pre.all vpf=true)
  (ha:vals=pre++ [.slice (some ⟨k,0,none⟩) l cp]) (hV:vpf V=true) (hK:K V h):zdA C g vals K h:=by
 refine callR k hC hk hc ?_ hV hK
 rw [ha,List.map_append,za8 fun v hm=>qN (List.all_eq_true.1 hp v hm)]
 rfl
theorem zcL {C:zag} {K:St→Prop} {d:Option Nat} {g:String} {args:List Opd} {r:List ICell} {s:St} (h:zdA C g (args.map (evf s.f)) (fun v h=>zbv C r K ⟨zau s.f d v,h⟩) s.h):zbv C (⟨d,.call g args,none⟩::r) K s:=h
theorem za1 {C:zag} {K:St→Prop} {l:List ICell} {s s':St} (n:Nat) (h:zdb (l.take n) s=some s') (hk:zbv C (l.drop n) K s'):zbv C l K s:=by
 have:=zeN h hk
 rwa [List.take_append_drop] at this
theorem zf9 {f:Nat→Value} {g:Nat} {v:Value} (h:f g=v):setf f g v=f:=by
 funext i;unfold setf;split
 ·rename_i e;subst e;exact h.symm
 ·rfl
theorem zaB {C:zag} {K:St→Prop} {l:List ICell} {s:St} {b:Bool} (g:Nat) (hg:s.f g= .bool b) (h1:b=true→zbv C l K ⟨setf s.f g (.bool true),s.h⟩) (h2:b=false→zbv C l K ⟨setf s.f g (.bool false),s.h⟩):zbv C l K s:=by
 cases b with
 | true=>have:=h1 rfl;rwa [zf9 hg] at this
 | false=>have:=h2 rfl;rwa [zf9 hg] at this
theorem wpOps_ixA {C:zag} {K:St→Prop} {d:Option Nat} {r:List ICell} {s:St} {m:Option Nat} {size len:Nat} {ik:IntKind} {n:Int} {x i:Opd} {c:Array Value} {v:Value} (hx:evf s.f x= .agg c) (hi:evf s.f i= .int ik n) (hn:0≤n∧n < len) (hv:zaP m c.toList (n.toNat*size)=some v)
  (hk:zbv C r K ⟨zau s.f d v,s.h⟩):zbv C (⟨d,.ixA len size m x i,none⟩::r) K s:=
 zfi (e:= .no) rfl (by simp [z8,hx,hi,hn,hv]) hk
theorem aggf_tup {v:Value} (h:aggf v=true):zbt v=false:=by
 cases v<;>simp_all [aggf,zbG,zbt]
theorem vpf_one {l:List Value} (h:l.all aggf=true):vpf (one l)=true:=by
 unfold one
 split
 ·rename_i v
  have:aggf v=true:=by simpa using h
  cases v<;>first | exact this | (simp [aggf,zbG] at this)
 ·simpa [vpf] using h
theorem z7 {s:St} {res:List IRes} {h:List Blk} {V:Value} (l:List Value) (hr:zf1 s res=some l) (hl:l.all aggf=true) (hV:one l=V) (hh:s.h.take h.length=h) (hb:h.all zhR=true):
  True∧∃l',zf1 s res=some l'∧(∀v∈l',zbt v=false)∧(Ans V h (one l') s.h∨(vpf (one l')=true∧(∀b∈s.h.take h.length,zhR b=true)∧Ans V h (one l') (s.h.take h.length))):=by
 refine ⟨trivial,l,hr,fun v hv=>aggf_tup (List.all_eq_true.1 hl v hv),.inr ⟨vpf_one hl, ?_,hV,hh⟩⟩
 rw [hh];exact fun b hbm=>List.all_eq_true.1 hb b hbm
theorem zdf {C:zag} {K:St→Prop} {d:Option Nat} {op:IOp} {g:Nat} {b:Bool} {r:List ICell} {s:St} (hg:s.f g= .bool b) (hk:zbv C (⟨d,op,none⟩::r) K s):zbv C (⟨d,op,some (g,b)⟩::r) K s:=by
 have:wp1 C ⟨d,op,some (g,b)⟩ (zbv C r K) s=wp1 C ⟨d,op,none⟩ (zbv C r K) s:=by simp [wp1,hg]
 show wp1 C ⟨d,op,some (g,b)⟩ (zbv C r K) s
 rw [this];exact hk
theorem wp1_mono {C:zag} {c:ICell} {K K':St→Prop} {s:St} (hk: ∀s,K s→K' s) (h:wp1 C c K s):wp1 C c K' s:=by
 unfold wp1 at*
 split at h
 ·exact zcV (fun v h=>hk _) h
 ·split at h
  ·split at h
   ·rename_i hx;rw [if_pos hx];exact zcV (fun v h=>hk _) h
   ·rename_i hx;rw [if_neg hx];exact hk _ h
  ·exact h
  ·exact hk _ h
theorem zjd {C:zag} {K K':St→Prop} (hk: ∀s,K s→K' s): ∀ {l:List ICell} {s:St},zbv C l K s→zbv C l K' s
 | [],_,h=>hk _ h
 | _::_,_,h=>wp1_mono (fun _=>zjd hk) h
theorem wpD_mono {C:zag} {un:Nat→Nat→Bool} {K K':St→Prop} (hk: ∀s,K s→K' s): ∀ {l:List DCell} {log:List Foot} {s:St},wpD C un l log K s→wpD C un l log K' s
 | [],_,_,h=>hk _ h
 | _::_,_,_,h=>zgC (fun _ _=>wpD_mono hk) h
theorem zbV {C:zag} {B:Nat} : ∀ {c:IC} {Q Q':IExit→St→Prop} {s:St},(∀ex s,Q ex s→Q' ex s)→wpC C B c Q s→wpC C B c Q' s
 | .skip,_,_,_,hq,h=>hq _ _ h
 | .reg ops,_,_,_,hq,h=>zjd (hq _) h
 | .dreg ops anc,_,_,_,hq,h=>wpD_mono (hq _) h
 | .seq a b,_,_,_,hq,h=>zbV (c:=a) (fun ex s hs=>by
   cases ex with
   | normal=>obtain ⟨s0,h1,h2⟩:=hs;exact ⟨s0,h1,zbV (c:=b) hq h2⟩
   | exit i=>exact hq _ _ hs
   | goto i=>exact hq _ _ hs
   | ret=>exact hq _ _ hs) h
 | .cond c a b,_,_,_,hq,h=>by
  simp only [wpC] at h ⊢
  split at h
  ·split at h
   ·rename_i hx;rw [if_pos hx];exact zbV (c:=a) hq h
   ·rename_i hx;rw [if_neg hx];exact zbV (c:=b) hq h
  ·exact h
 | .block id b,_,_,_,hq,h=>zbV (c:=b) (fun ex s hs=>by
   cases ex with
   | normal=>exact hq _ _ hs
   | exit i=>
    simp only at hs ⊢
    split at hs
    ·rename_i hx;rw [if_pos hx];exact hq _ _ hs
    ·rename_i hx;rw [if_neg hx];exact hq _ _ hs
   | goto i=>exact hq _ _ hs
   | ret=>exact hq _ _ hs) h
 | .loop b,_,_,_,hq,h=>by
  obtain ⟨I,h1,h2⟩:=h
  refine ⟨I,h1,fun n s hI=>zbV (c:=b) (fun ex s hs=>?_) (h2 n s hI)⟩
  cases ex with
  | normal=>exact hs
  | exit i=>exact hq _ _ hs
  | goto i=>exact hq _ _ hs
  | ret=>exact hq _ _ hs
 | .label _,_,_,_,hq,h=>hq _ _ h
 | .goto _,_,_,_,hq,h=>hq _ _ h
 | .scp l r b,_,_,_,hq,h=>by
  obtain ⟨I,h1,h2⟩:=h
  refine ⟨I,zbV (c:=b) (fun ex s hs=>?_) h1,fun n s hI=>zbV (c:=r) (fun ex s hs=>?_) (h2 n s hI)⟩
  all_goals
   cases ex with
   | goto i=>
    simp only at hs ⊢
    split at hs
    ·rename_i hx;rw [if_pos hx];exact hs
    ·rename_i hx;rw [if_neg hx];exact hq _ _ hs
   | _=>exact hq _ _ hs
 | .exit id,_,_,_,hq,h=>hq _ _ h
 | .ret,_,_,_,hq,h=>hq _ _ h
 | .bad _,_,_,_,_,h=>h
theorem wpC_cut {C:zag} {B:Nat} {a b:IC} {Q:IExit→St→Prop} {s:St} (M:St→Prop) (h1:wpC C B a (fun ex s'=>match ex with | .normal=> ∃s0,Wk B s' s0∧M s0 | ex=>Q ex s') s) (h2: ∀s,M s→wpC C B b Q s):wpC C B (.seq a b) Q s:=
 zbV (c:=a) (fun ex s hs=>by
  cases ex with
  | normal=>obtain ⟨s0,h3,h4⟩:=hs;exact ⟨s0,h3,h2 _ h4⟩
  | exit i=>exact hs
  | goto i=>exact hs
  | ret=>exact hs) h1
theorem w64 {x:Int} (h0: -9223372036854775808≤x) (h1:x≤9223372036854775807):i64.wrap x=x:=IntWalk.i64_in x ⟨h0,h1⟩
end Go.Rh

set_option maxHeartbeats 4000000
namespace Go.Rh
def IOp.isCall:IOp→Bool
 | .call .. =>true
 | _=>false
def IOp.callee:IOp→String
 | .call g _=>g
 | _=> ""
def IOp.touch (pu:List String) (op:IOp):Bool:= !op.rdl.isEmpty || (op.isCall&& !(pu.any fun g=>g==op.callee))
def meets (pu:List String) (x y:IOp):Bool:=(x.writes&&y.touch pu) || (x.touch pu&&y.writes) || (x.makes&&y.touch pu)
def okA (anc:List (List Nat)) (all:List ICell):Nat→List ICell→Bool
 | _,[]=>true
 | i,c::r=>(!(Nat.beq (qQ c.op) 2) || (Nat.beq (zar r) 0&&(List.range all.length).all fun k=>Nat.ble k i || (all.getD k default).op.quiet || (List.range (i+1)).all fun j=> !(unA anc j k)))&&okA anc all (i+1) r
def okD (pu:List String) (ops:List ICell) (anc:List (List Nat)):Bool:=
 okA anc ops 0 ops&&
 ops.all (fun c=> !(c.op.makes&&c.guard.isSome)&&(qQ c.op).ble 2)&&
 (List.range ops.length).all fun i=>(List.range i).all fun j=> !(unA anc j i) || !(meets pu (ops.getD j default).op (ops.getD i default).op)
def zeI (C:zag) (pu:Bool) (g:String) (vals:List Value) (K:Value→List Blk→Prop) (h:List Blk):Prop:=
 ∃(sel:List Nat) (h1:List Blk) (a1:List Value) (V:Value),C g a1 h1 (Ans V h1)∧h1.length=sel.length∧(∀n,a1.map (zaF (rho sel n))=vals)∧
  (∀n (i k:Nat) b1,sel[i]? =some k→h1[i]? =some b1→∃b,h[k]? =some b∧b≠ .gone∧Blk.seen (zbx (rho sel n) b1) b)∧
  (∀b∈h1,b.rw=false)∧(pu=true→sel= [])∧vpf V=true∧K V h
def wpR (C:zag) (pu:List String):List ICell→(St→Prop)→St→Prop
 | [],K,s=>K s
 | c::r,K,s=>match c.guard with
  | none=>(match c.op with
   | .call g args=>zeI C (pu.any fun x=>x==g) g (args.map (evf s.f)) (fun v h=>wpR C pu r K ⟨zau s.f c.dst v,h⟩) s.h
   | .app z n b x y=>zfD C (.app z n b x y) s.f s.h (fun v h=>wpR C pu r K ⟨zau s.f c.dst v,h⟩)
   | op=>match z8 op (evf s.f) (hf s.h) s.h.length with
    | some (v,e)=>wpR C pu r K ⟨zau s.f c.dst v,e.on s.h⟩
    | none=>False)
  | some (g,b)=>match s.f g with
   | .bool x=>if x=b then (match c.op with
    | .call g args=>zeI C (pu.any fun x=>x==g) g (args.map (evf s.f)) (fun v h=>wpR C pu r K ⟨zau s.f c.dst v,h⟩) s.h
    | .app z n b x y=>zfD C (.app z n b x y) s.f s.h (fun v h=>wpR C pu r K ⟨zau s.f c.dst v,h⟩)
    | op=>match z8 op (evf s.f) (hf s.h) s.h.length with
     | some (v,e)=>wpR C pu r K ⟨zau s.f c.dst v,e.on s.h⟩
     | none=>False) else wpR C pu r K ⟨zau s.f c.dst undef,s.h⟩
   | .complex _ _ _=>False
   | _=>wpR C pu r K ⟨zau s.f c.dst undef,s.h⟩
def actR (C:zag) (pu:List String) (op:IOp) (K:Value→List Blk→Prop) (s:St):Prop:=match op with
 | .call g args=>zeI C (pu.any fun x=>x==g) g (args.map (evf s.f)) K s.h
 | .app z n b x y=>zfD C (.app z n b x y) s.f s.h K
 | op=>match z8 op (evf s.f) (hf s.h) s.h.length with
  | some (v,e)=>K v (e.on s.h)
  | none=>False
theorem wpR_cons {C:zag} {pu:List String} {c:ICell} {r:List ICell} {K:St→Prop} {s:St} (h:wpR C pu (c::r) K s):
  gJ c s.f=false∧(zbS c s.f=true→actR C pu c.op (fun v h=>wpR C pu r K ⟨zau s.f c.dst v,h⟩) s)∧(zbS c s.f=false→wpR C pu r K ⟨zau s.f c.dst undef,s.h⟩):=by
 obtain ⟨d,op,gd⟩:=c
 unfold wpR at h
 unfold gJ zbS
 cases gd with
 | none=>
  simp only at h ⊢
  refine ⟨trivial,fun _=>?_,by simp⟩
  unfold actR
  exact h
 | some gb=>
  obtain ⟨g,b⟩:=gb
  simp only at h ⊢
  cases hg:s.f g with
  | bool x=>
   simp only [hg] at h ⊢
   by_cases hx:x=b
   ·rw [if_pos hx] at h
    refine ⟨trivial,fun _=>?_,by simp [hx]⟩
    unfold actR;exact h
   ·rw [if_neg hx] at h
    exact ⟨trivial,by simp [hx],fun _=>h⟩
  | complex k r i=>rw [hg] at h;exact h.elim
  | _=>rw [hg] at h;exact ⟨rfl,by simp,fun _=>h⟩
theorem stepE_rd {op:IOp} {e:Opd→Value} {h:Nat→Option Blk} {n:Nat} {r:Value×Eff} (hs:z8 op e h n=some r): ∀k∈rdE op e,h k≠none:=by
 cases op with
 | ld m a=>
  simp only [z8] at hs
  split at hs<;>try cases hs
  rename_i hv
  unfold ldV at hv
  split at hv<;>try cases hv
  rename_i hx
  split at hv<;>try cases hv
  rename_i hh
  intro k hk
  simp [rdE,IOp.rdl,hx,zbC] at hk
  subst hk;rw [hh];simp
 | st m x y=>
  simp only [z8] at hs
  split at hs<;>cases hs
  rename_i hf
  unfold stV at hf
  split at hf<;>try cases hf
  rename_i hx
  split at hf<;>try cases hf
  split at hf<;>try cases hf
  rename_i hh
  intro k hk
  simp [rdE,IOp.rdl,hx,zbC] at hk
  subst hk;rw [hh];simp
 | cbs x=>
  simp only [z8] at hs
  split at hs<;>try cases hs
  ·rename_i hx;intro k hk;simp [rdE,IOp.rdl,hx,zbC] at hk
  ·rename_i hx
   split at hs<;>try cases hs
   rename_i hfi
   unfold first at hfi
   simp only at hfi
   split at hfi<;>try cases hfi
   rename_i hh
   intro k hk
   simp [rdE,IOp.rdl,hx,zbC] at hk
   subst hk;rw [hh];simp
 | lenM x=>
  simp only [z8] at hs
  split at hs<;>try cases hs
  ·rename_i hx;intro k hk;simp [rdE,IOp.rdl,hx,zbC] at hk
  ·rename_i hx
   split at hs<;>try cases hs
   rename_i hh
   intro k hk
   simp [rdE,IOp.rdl,hx,zbC] at hk
   subst hk;rw [hh];simp
 | lenC x=>
  simp only [z8] at hs
  split at hs<;>try cases hs
  rename_i hx
  split at hs<;>try cases hs
  rename_i hh
  intro k hk
  simp [rdE,IOp.rdl,hx,zbC] at hk
  subst hk;rw [hh];simp
 | cpy z d x=>
  simp only [z8] at hs
  split at hs<;>try cases hs
  rename_i a dl dc sl hd hl
  split at hs<;>try cases hs
  rename_i c hc
  have h1: ∀k∈zbC (e x),h k≠none:=by
   intro k hk
   unfold first at hc
   split at hc
   ·rename_i hx
    split at hc<;>try cases hc
    rename_i hh
    rw [hx] at hk;simp [zbC] at hk;subst hk;rw [hh];simp
   ·rename_i hx;rw [hx] at hk;simp [zbC] at hk
   ·rename_i hx;rw [hx] at hk;simp [zbC] at hk
   ·cases hc
  have h2: ∀k∈zbC (e d),h k≠none:=by
   intro k hk
   rw [hd] at hk
   cases a with
   | none=>simp [zbC] at hk
   | some ad=>
    simp [zbC] at hk;subst hk
    split at hs
    ·rename_i hq;cases hq
     split at hs
     ·rename_i hh;rw [hh];simp
     ·cases hs
    ·rename_i hq;cases hq
    ·cases hs
  intro k hk
  simp only [rdE,IOp.rdl,List.flatMap_cons,List.flatMap_nil,List.append_nil,List.mem_append] at hk
  rcases hk with hk | hk
  ·exact h2 k hk
  ·exact h1 k hk
 | lku kt z ag ok m y=>
  simp only [z8] at hs
  split at hs<;>try cases hs
  split at hs<;>try cases hs
  ·rename_i hx;intro k hk;simp [rdE,IOp.rdl,hx,zbC] at hk
  ·rename_i hx
   split at hs<;>try cases hs
   rename_i hh
   intro k hk
   simp [rdE,IOp.rdl,hx,zbC] at hk
   subst hk;rw [hh];simp
 | mup kt m x y=>
  simp only [z8] at hs
  split at hs<;>try cases hs
  split at hs<;>try cases hs
  rename_i hx
  split at hs<;>try cases hs
  rename_i hh
  intro k hk
  simp [rdE,IOp.rdl,hx,zbC] at hk
  subst hk;rw [hh];simp
 | appR z m b x y=>simp [z8] at hs
 | _=>intro k hk;simp [rdE,IOp.rdl] at hk
theorem makes_nw {op:IOp} (h:op.makes=true):op.writes=false:=by
 cases op<;>first | rfl | cases h
theorem makes_rdl {op:IOp} (h:op.makes=true) (h2:qQ op≠11):op.rdl= []:=by
 cases op<;>first | rfl | exact absurd rfl h2 | cases h
structure Lg (pu:List String) (ops:List ICell) (h:List Blk) (m:Nat) (y:Foot):Prop where
  lt:y.i < m
  wr:y.wr≠ []→(ops.getD y.i default).op.writes=true∨(ops.getD y.i default).op.makes=true
  rd:y.rd≠ []→(ops.getD y.i default).op.touch pu=true
  ex: ∀k∈y.rd++y.wr,hf h k≠none
  top:y.top=none∨y.top=some h.length
theorem Lg.mono {pu:List String} {ops:List ICell} {h h':List Blk} {m m':Nat} {y:Foot} (L:Lg pu ops h m y) (hm:m≤m') (hl:h'.length=h.length) (he: ∀k,hf h k≠none→hf h' k≠none):Lg pu ops h' m' y:=
 ⟨Nat.lt_of_lt_of_le L.lt hm,L.wr,L.rd,fun k hk=>he k (L.ex k hk),by rw [hl];exact L.top⟩
theorem below_all {t:Option Nat} {l:List Nat} {n:Nat} (ht:t=none∨t=some n) (hl: ∀k∈l,k < n):below t l:=by
 rcases ht with rfl | rfl
 ·trivial
 ·exact hl
theorem lg_apart {pu:List String} {ops:List ICell} {h:List Blk} {i:Nat} {x y:Foot} (hm:meets pu (ops.getD y.i default).op (ops.getD i default).op=false) (L:Lg pu ops h i y)
  (xwr:x.wr≠ []→(ops.getD i default).op.writes=true∨((ops.getD i default).op.makes=true∧x.rd= []∧∀k∈x.wr,hf h k=none∧k < h.length))
  (xrd:x.rd≠ []→(ops.getD i default).op.touch pu=true) (xex: ∀k∈x.rd,hf h k≠none) (xws:(ops.getD i default).op.writes=true→∀k∈x.wr,k∈x.rd) (xtop:x.top=none∨x.top=some h.length):Foot.apart y x:=by
 simp only [meets,Bool.or_eq_false_iff] at hm
 obtain ⟨⟨m1,m2⟩,m3⟩:=hm
 have ylt: ∀k∈y.rd++y.wr,k < h.length:=fun k hk=>zgU (L.ex k hk)
 have nilOf: ∀ {l:List Nat} {k:Nat},k∈l→l≠ []:=fun hk e=>by rw [e] at hk;cases hk
 have xnew: ∀k∈x.wr,k∉x.rd→hf h k=none∧k < h.length:=fun k hk hn=>by
  rcases xwr (nilOf hk) with hw | ⟨_,_,h3⟩
  ·exact absurd (xws hw k hk) hn
  ·exact h3 k hk
 have xlt: ∀k∈x.rd++x.wr,k < h.length:=fun k hk=>by
  by_cases hr:k∈x.rd
  ·exact zgU (xex k hr)
  ·rcases List.mem_append.1 hk with h1 | h1
   ·exact absurd h1 hr
   ·exact (xnew k h1 hr).2
 refine ⟨fun k hk=>?_,fun k hk hy=>?_,below_all L.top xlt,below_all xtop ylt⟩
 ·have hnt:(ops.getD i default).op.touch pu=false:=by
   rcases L.wr (nilOf hk) with hw | hw
   ·rw [hw] at m1;simpa using m1
   ·rw [hw] at m3;simpa using m3
  have hxr:x.rd= []:=by
   cases hq:x.rd with
   | nil=>rfl
   | cons a l=>have:=xrd (by rw [hq];simp);rw [hnt] at this;cases this
  refine ⟨by rw [hxr];simp,fun hxw=>?_⟩
  have:=(xnew k hxw (by rw [hxr];simp)).1
  exact L.ex k (List.mem_append_right _ hk) this
 ·rcases xwr (nilOf hk) with hw | ⟨_,_,h3⟩
  ·rw [hw] at m2
   have:=L.rd (nilOf hy)
   rw [this] at m2;cases m2
  ·exact L.ex k (List.mem_append_left _ hy) (h3 k hk).1
theorem wpD_nid {C:zag} {un:Nat→Nat→Bool} {K:St→Prop} : ∀ {l:List ICell} {i n n':Nat} {log:List Foot} {s:St},zar l=0→wpD C un (zbI i n l) log K s→wpD C un (zbI i n' l) log K s
 | [],_,_,_,_,_,_,h=>h
 | c::r,i,n,n',log,s,hm,h=>by
  have hc:c.op.makes=false:=by
   cases hq:c.op.makes with
   | false=>rfl
   | true=>simp [zar,hq] at hm
  have hr:zar r=0:=by simpa [zar,hc] using hm
  simp only [zbI,hc,if_false,Bool.false_eq_true] at h ⊢
  show zaW C un ⟨i,n',c⟩ log (fun log' s'=>wpD C un (zbI (i+1) n' r) log' K s') s
  have h:zaW C un ⟨i,n,c⟩ log (fun log' s'=>wpD C un (zbI (i+1) n r) log' K s') s:=h
  have h:=zgC (fun l s=>wpD_nid (n':=n') hr) h
  unfold zaW at h ⊢
  split at h
  ·rename_i hg;rw [if_pos hg];exact h
  rename_i hg
  rw [if_neg hg]
  split at h
  ·rename_i hw
   rw [if_pos hw]
   split at h
   ·rename_i hop
    simp only at hop
    simp only [hop]
    exact h
   ·rename_i hop
    simp only at hop
    rw [hop] at hc;cases hc
   ·rename_i hnc
    split at h
    ·rename_i hsp
     rw [if_pos hsp]
     simp only at h ⊢
     rw [zia (n:=n') (n':=n) hc]
     cases hs:z8 c.op (evf s.f) (hf s.h) n with
     | none=>rw [hs] at h;exact h
     | some q=>
      obtain ⟨v,e⟩:=q
      rw [hs] at h
      simp only at h ⊢
      rcases zf7 hs with ⟨hm',_⟩ | ⟨_,rfl | ⟨_,k,b,rfl⟩⟩
      ·rw [hc] at hm';cases hm'
      ·exact h
      ·exact h
    ·rename_i hsp;rw [if_neg hsp];exact h
  ·rename_i hw;rw [if_neg hw];exact h
theorem okA_at {anc:List (List Nat)} {n:List ICell} : ∀ {r:List ICell} {i:Nat},okA anc n i r=true→∀ {j:Nat} {c:ICell},r[j]? =some c→qQ c.op=2→zar (r.drop (j+1))=0∧∀k,k < n.length→i+j < k→∀q,q≤i+j→unA anc q k=false∨(n.getD k default).op.quiet=true
 | [],_,_,j,_,h1,_=>by simp at h1
 | c::r,i,h,0,c',h1,h2=>by
  simp at h1;subst h1
  simp only [okA,Bool.and_eq_true,h2] at h
  obtain ⟨h3,_⟩:=h
  simp only [Nat.beq_refl,Bool.not_true,Bool.false_or,Bool.and_eq_true] at h3
  refine ⟨by have:=h3.1;simpa using this,fun k hk hik q hq=>?_⟩
  have h4:=List.all_eq_true.1 h3.2 k (by simp [hk])
  simp only [Bool.or_eq_true,Nat.ble_eq] at h4
  rcases h4 with (h4 | h4) | h4
  ·omega
  ·exact .inr h4
  ·have:=List.all_eq_true.1 h4 q (by simp;omega)
   exact .inl (by simpa using this)
 | c::r,i,h,j+1,c',h1,h2=>by
  simp only [okA,Bool.and_eq_true] at h
  have:=okA_at h.2 (j:=j) (c:=c') (by simpa using h1) h2
  refine ⟨by simpa using this.1,fun k hk hik q hq=>this.2 k hk om q om⟩
theorem quiet_rd {op:IOp} {e:Opd→Value} (hq:op.quiet=true):rdE op e= []:=by
 simp only [IOp.quiet,Bool.and_eq_true,List.isEmpty_iff] at hq
 unfold rdE;rw [hq.2];rfl
theorem set_app {h t:List Blk} {k:Nat} {b:Blk} (hk:k < h.length):(h++t).set k b=h.set k b++t:=List.set_append_left _ _ hk
theorem set_gone {h:List Blk} {m:Nat} {b:Blk} :(h++List.replicate (m+1) Blk.gone).set h.length b=(h++ [b])++List.replicate m .gone:=by
 rw [List.set_append_right _ _ (Nat.le_refl _)]
 simp [List.replicate_succ]
theorem zcR {h:List Blk} {m:Nat} :hf (h++List.replicate m .gone)=hf h:=zg8
theorem zdo {C:zag} {pu:List String} {anc:List (List Nat)} {all:List ICell} {K:St→Prop} (hok:okD pu all anc=true): ∀(r:List ICell) (i:Nat),(∀j,r[j]? =all[i+j]?)→∀(log:List Foot) (s:St),(∀y∈log,Lg pu all (s.h++List.replicate (zar r) .gone) i y∨∀k,i≤k→k < all.length→unA anc y.i k=false∨(all.getD k default).op.quiet=true)→wpR C pu r K s→
  wpD C (unA anc) (zbI i s.h.length r) log K ⟨s.f,s.h++List.replicate (zar r) .gone⟩
 | [],i,_,log,s,_,h=>by simpa [zar,wpR,zbI,wpD] using h
 | c::r,i,hall,log,s,hL,h=>by
  have hc:all[i]? =some c:=by have:=hall 0;simpa using this.symm
  have hil:=z6 hc
  have hgd:all.getD i default=c:=by simp [hc]
  have hall': ∀j,r[j]? =all[i+1+j]? :=fun j=>by have:=hall (j+1);rw [List.getElem?_cons_succ] at this;rw [this];congr 1;omega
  have hk:=hok
  simp only [okD,Bool.and_eq_true] at hk
  obtain ⟨⟨hkA,hk1⟩,hk2⟩:=hk
  have hk1:=List.all_eq_true.1 hk1 c (List.mem_of_getElem? hc)
  simp only [Bool.and_eq_true,Bool.not_eq_true',Nat.ble_eq] at hk1
  obtain ⟨hmg,hspc⟩:=hk1
  have hmeet: ∀j,j < i→unA anc j i=true→meets pu (all.getD j default).op c.op=false:=fun j hj hu=>by
   have h1:=List.all_eq_true.1 hk2 i (by simp [hil])
   have h2:=List.all_eq_true.1 h1 j (by simp [hj])
   simp only [hu,hgd,Bool.not_true,Bool.false_or,Bool.not_eq_true'] at h2
   exact h2
  have hfit: ∀(x:Foot),x.i=i→(x.wr≠ []→c.op.writes=true∨(c.op.makes=true∧x.rd= []∧∀k∈x.wr,hf (s.h++List.replicate (zar (c::r)) .gone) k=none∧k < (s.h++List.replicate (zar (c::r)) Blk.gone).length))→
    (x.rd≠ []→c.op.touch pu=true)→(∀k∈x.rd,hf (s.h++List.replicate (zar (c::r)) .gone) k≠none)→(c.op.writes=true→∀k∈x.wr,k∈x.rd)→(x.top=none∨x.top=some (s.h++List.replicate (zar (c::r)) Blk.gone).length)→(c.op.quiet=true→x.none? =true)→fits (unA anc) x log:=by
   intro x hxi h1 h2 h3 h4 h5 h6 y hy
   rcases hL y hy with L | L
   rotate_left
   ·rcases L i (Nat.le_refl _) hil with L | L
    ·exact .inr (by rw [hxi];exact L)
    ·exact .inl (Foot.apart.symm (zfu (h6 (by rw [hgd] at L;exact L))))
   cases hu:unA anc y.i x.i with
   | false=>exact .inr rfl
   | true=>
    refine .inl (lg_apart (i:=i) (by rw [hgd];rw [hxi] at hu;exact hmeet y.i L.lt hu) L ?_ ?_ h3 ?_ h5)
    ·rw [hgd];exact h1
    ·rw [hgd];exact h2
    ·rw [hgd];exact h4
  obtain ⟨h1,h2,h3⟩:=wpR_cons h
  show zaW C (unA anc) ⟨i,s.h.length,c⟩ log (fun log' s'=>wpD C (unA anc) (zbI (i+1) (if c.op.makes then s.h.length+1 else s.h.length) r) log' K s') ⟨s.f,s.h++List.replicate (zar (c::r)) .gone⟩
  unfold zaW
  simp only [h1,if_false,Bool.false_eq_true]
  cases hw:zbS c s.f with
  | false=>
   simp only [if_false,Bool.false_eq_true]
   have hnm:c.op.makes=false:=by
    cases hm:c.op.makes with
    | false=>rfl
    | true=>
     rw [hm] at hmg
     have:c.guard=none:=by simpa using hmg
     unfold zbS at hw;rw [this] at hw;cases hw
   have hmk:zar (c::r)=zar r:=by simp [zar,hnm]
   rw [hmk] at hL ⊢
   simp only [hnm,if_false,Bool.false_eq_true]
   exact zdo hok r (i+1) hall' log ⟨zau s.f c.dst undef,s.h⟩ (fun y hy=>(hL y hy).imp (fun L=>L.mono om rfl fun _ h=>h) fun L k hk=>L k om) (h3 hw)
  | true=>
   simp only [if_true]
   have h2:=h2 hw
   clear h3
   split
   ·rename_i g args hop
    unfold actR at h2
    rw [hop] at h2
    simp only at h2
    obtain ⟨sel,h1',a1,V,e1,e2,e3,e4,e5,e6,e7,e8⟩:=h2
    have hnm:c.op.makes=false:=by rw [hop];rfl
    have hmk:zar (c::r)=zar r:=by simp [zar,hnm]
    have hwrs:zcF sel h1'= []:=by
     have: ∀(sel:List Nat) (h:List Blk),(∀b∈h,b.rw=false)→zcF sel h= []:=by
      intro sel
      induction sel with
      | nil=>intro h _;rfl
      | cons a l ih=>
       intro h hb
       cases h with
       | nil=>rfl
       | cons b t=>simp only [zcF];rw [if_neg (by rw [hb b (by simp)];simp)];exact ih t fun x hx=>hb x (by simp [hx])
     exact this sel h1' e5
    have hex: ∀k∈sel,hf (s.h++List.replicate (zar (c::r)) .gone) k≠none:=by
     intro k hk
     obtain ⟨j,hj⟩:=List.mem_iff_getElem?.1 hk
     have hjl:=z6 hj
     obtain ⟨b,hb,hbg,_⟩:=e4 0 j k (h1'[j]'om) hj (by simp [show j < h1'.length by omega])
     rw [zcR,zah.2 ⟨hb,hbg⟩];simp
    have htc:sel≠ []→c.op.touch pu=true:=by
     intro hs
     rw [hop]
     have:(pu.any fun x=>x==g)=false:=by
      cases hq:(pu.any fun x=>x==g) with
      | false=>rfl
      | true=>exact absurd (e6 hq) hs
     have h3:(pu.any fun x=>x==IOp.callee (.call g args))=false:=this
     simp [IOp.touch,IOp.isCall,h3]
    refine ⟨sel,h1',a1,_,e1,e2,e3 _, ?_, ?_, ?_,fun _=>⟨V,h1',⟨rfl,rfl⟩,om,fun k b b' q1 q2=>by rw [q1] at q2;cases q2;rfl⟩, ?_⟩
    ·intro j k b1 q1 q2
     obtain ⟨b,hb,_,hsn⟩:=e4 (s.h++List.replicate (zar (c::r)) Blk.gone).length j k b1 q1 q2
     exact ⟨b,by rw [List.getElem?_append_left (z6 hb)];exact hb,.inl (.inl hsn)⟩
    ·intro j j' k b1 _ _ _ q;exact e5 b1 (List.mem_of_getElem? q)
    ·refine hfit _ rfl ?_ htc hex ?_ (.inr rfl) (fun q=>by rw [hop] at q;simp [IOp.quiet,qQ] at q)
     ·rw [hwrs];intro q;exact absurd rfl q
     ·rw [hwrs];intro _ k hk;cases hk
    ·rintro v h'' ⟨rfl,rfl⟩ _ _
     refine ⟨fun _ q=>q, ?_⟩
     rw [qN e7,zi1 e2 e5]
     rw [hmk] at hL ⊢
     simp only [hnm,if_false,Bool.false_eq_true]
     refine zdo hok r (i+1) hall' _ ⟨zau s.f c.dst v,s.h⟩ (fun y hy=>?_) e8
     rcases List.mem_cons.1 hy with rfl | hy
     ·refine .inl ⟨by simp,by rw [hwrs];intro q;exact absurd rfl q, ?_, ?_,.inr rfl⟩
      ·intro hs;simp only;rw [hgd];exact htc hs
      ·rw [hwrs,List.append_nil];rw [hmk] at hex;exact hex
     ·exact (hL y hy).imp (fun L=>L.mono om rfl fun _ h=>h) fun L k hk=>L k om
   ·rename_i hq;rw [hq] at hspc;simp [qQ] at hspc
   ·rename_i hncall _
    by_cases hsp:qQ c.op=0
    rotate_left
    ·-- append
     rw [if_neg hsp]
     obtain ⟨z,n,b,x,y,hop⟩: ∃z n b x y,c.op= .app z n b x y:=by
      have hsp1:=hspc
      cases hop:c.op<;>rw [hop] at hsp1 hsp<;>first | exact ⟨_,_,_,_,_,rfl⟩ | (exact absurd rfl hsp) | (exact absurd hop (hncall _ _)) | (simp [qQ] at hsp1)
     have hA:=okA_at (r:=all) (i:=0) hkA hc (by rw [hop];rfl)
     have hdr:all.drop (i+1)=r:=List.ext_getElem? fun j=>by rw [List.getElem?_drop];exact (hall' j).symm
     rw [hdr] at hA
     have hnm:c.op.makes=false:=by rw [hop];rfl
     have hmk:zar (c::r)=0:=by simp [zar,hnm,hA.1]
     unfold actR at h2
     rw [hop] at h2
     simp only at h2
     rw [hop,hmk]
     simp only [List.replicate_zero,List.append_nil]
     refine zcV (fun v h' hw'=>?_) h2
     simp only [IOp.makes,if_false,Bool.false_eq_true]
     refine wpD_nid (n:=h'.length) hA.1 ?_
     have:=zdo hok r (i+1) hall' log ⟨zau s.f c.dst v,h'⟩ (fun y hy=> .inr fun k hk hkl=>?_) hw'
     ·simpa [hA.1] using this
     ·rcases hL y hy with L | L
      ·exact hA.2 k hkl om y.i (by have:=L.lt;omega)
      ·exact L k om hkl
    rw [if_pos hsp]
    have hact:(match z8 c.op (evf s.f) (hf s.h) s.h.length with
      | some (v,e)=>wpR C pu r K ⟨zau s.f c.dst v,e.on s.h⟩
      | none=>False):=by
     unfold actR at h2
     cases hop:c.op<;>rw [hop] at h2 hsp<;>first | exact h2 | (exact absurd hop (hncall _ _)) | (cases hsp)
    rw [zcR]
    cases hst:z8 c.op (evf s.f) (hf s.h) s.h.length with
    | none=>rw [hst] at hact;exact hact.elim
    | some q=>
     obtain ⟨v,e⟩:=q
     rw [hst] at hact
     simp only at hact ⊢
     have hrd: ∀k∈rdE c.op (evf s.f),hf (s.h++List.replicate (zar (c::r)) .gone) k≠none:=by
      rw [zcR];exact stepE_rd hst
     have htc:rdE c.op (evf s.f)≠ []→c.op.touch pu=true:=by
      intro hr
      cases hq:c.op.rdl with
      | nil=>unfold rdE at hr;rw [hq] at hr;exact absurd rfl hr
      | cons a l=>simp [IOp.touch,hq]
     rcases zf7 hst with ⟨hm,b,rfl⟩ | ⟨hnm,rfl | ⟨hwr,k,b,rfl⟩⟩
     ·-- makes
      have hmk:zar (c::r)=zar r+1:=by simp [zar,hm]
      have hrn:rdE c.op (evf s.f)= []:=by
       unfold rdE
       rw [makes_rdl hm om];rfl
      have hgone:(s.h++List.replicate (zar (c::r)) Blk.gone)[s.h.length]? =some .gone:=by
       rw [hmk,List.getElem?_append_right (Nat.le_refl _)];simp [List.replicate_succ]
      refine ⟨hgone, ?_, ?_⟩
      ·refine hfit _ rfl (fun _=> .inr ⟨hm,hrn,fun k hk=>?_⟩) htc hrd ?_ (.inl rfl) (fun q=>by simp [IOp.quiet,hm] at q)
       ·simp only [Eff.wr,List.mem_singleton] at hk
        subst hk
        exact ⟨zcB hgone,z6 hgone⟩
       ·intro hw;rw [makes_nw hm] at hw;cases hw
      ·have hxn:zeq ⟨i,rdE c.op (evf s.f),Eff.wr s.h.length (.push b),none⟩ log=⟨i,rdE c.op (evf s.f),[s.h.length],none⟩::log:=by
        simp [zeq,Foot.none?,Eff.wr]
       rw [hxn]
       simp only [hm,if_true,Eff.onR,Eff.on] at hact ⊢
       rw [hmk,set_gone]
       have hh:(s.h++ [b]).length=s.h.length+1:=by simp
       rw [←hh]
       have hb:b≠ .gone:=by
        rintro rfl
        cases hop:c.op<;>rw [hop] at hm hst<;>first | cases hm | skip
        all_goals
         simp only [z8] at hst
         (repeat' (split at hst))<;>cases hst
       have hstep: ∀k,hf (s.h++List.replicate (zar (c::r)) .gone) k≠none→hf ((s.h++ [b])++List.replicate (zar r) .gone) k≠none:=by
        intro k hk
        rw [zcR] at hk ⊢
        have hkl:=zgU hk
        unfold hf at hk ⊢
        rwa [List.getElem?_append_left hkl]
       refine zdo hok r (i+1) hall' _ ⟨zau s.f c.dst v,s.h++ [b]⟩ (fun y hy=>?_) hact
       rcases List.mem_cons.1 hy with rfl | hy
       ·refine .inl ⟨by simp,fun _=> .inr (by simp only;rw [hgd];exact hm),by simp only;rw [hrn];intro q;exact absurd rfl q, ?_,.inl rfl⟩
        intro k hk
        simp only [hrn,List.nil_append,List.mem_singleton] at hk
        subst hk
        rw [zcR]
        have:hf (s.h++ [b]) s.h.length=some b:=zah.2 ⟨by simp,hb⟩
        simp only [this];simp
       ·exact (hL y hy).imp (fun L=>L.mono om (by simp [hmk]<;>omega) hstep) fun L k hk=>L k om
     ·-- nothing
      have hmk:zar (c::r)=zar r:=by simp [zar,hnm]
      refine ⟨trivial, ?_, ?_⟩
      ·exact hfit _ rfl (fun q=>absurd rfl q) htc hrd (fun _ k hk=>by simp [Eff.wr] at hk) (.inl rfl) (fun q=>by
        have hr:=quiet_rd (e:=evf s.f) q
        simp [Foot.none?,hr,Eff.wr])
      ·simp only [hnm,if_false,Bool.false_eq_true,Eff.onR,Eff.on] at hact ⊢
       rw [hmk] at hL hrd ⊢
       refine zdo hok r (i+1) hall' _ ⟨zau s.f c.dst v,s.h⟩ (fun y hy=>?_) hact
       rcases zgj hy with rfl | hy
       ·refine .inl ⟨by simp,fun q=>absurd rfl q,fun q=>by simp only;rw [hgd];exact htc q, ?_,.inl rfl⟩
        simp only [Eff.wr,List.append_nil];exact hrd
       ·exact (hL y hy).imp (fun L=>L.mono om rfl fun _ h=>h) fun L k hk=>L k om
     ·-- writes
      have hmk:zar (c::r)=zar r:=by simp [zar,hnm]
      have hset:=zf6 hst
      have hkl:=zgU hset.1
      have hkr:=zdF hst
      refine ⟨trivial, ?_, ?_⟩
      ·refine hfit _ rfl (fun _=> .inl hwr) htc hrd (fun _ j hj=>?_) (.inl rfl) (fun q=>by rw [quiet_rd q] at hkr;cases hkr)
       simp only [Eff.wr,List.mem_singleton] at hj;subst hj;exact hkr
      ·simp only [hnm,if_false,Bool.false_eq_true,Eff.onR,Eff.on] at hact ⊢
       rw [hmk] at hL hrd ⊢
       rw [set_app hkl]
       have hlen:(s.h.set k b).length=s.h.length:=by simp
       rw [←hlen]
       have hstep: ∀j,hf (s.h++List.replicate (zar r) .gone) j≠none→hf (s.h.set k b++List.replicate (zar r) .gone) j≠none:=by
        intro j hj
        rw [zcR] at hj ⊢
        by_cases hjk:j=k
        ·subst hjk
         rw [zah.2 ⟨by simp [hkl],hset.2⟩];simp
        ·unfold hf at hj ⊢
         rwa [List.getElem?_set_ne (Ne.symm hjk)]
       refine zdo hok r (i+1) hall' _ ⟨zau s.f c.dst v,s.h.set k b⟩ (fun y hy=>?_) hact
       rcases zgj hy with rfl | hy
       ·refine .inl ⟨by simp,fun _=> .inl (by simp only;rw [hgd];exact hwr),fun q=>by simp only;rw [hgd];exact htc q, ?_,.inl rfl⟩
        intro j hj
        simp only [Eff.wr,List.mem_append,List.mem_singleton] at hj
        rcases hj with hj | rfl
        ·exact hstep j (hrd j hj)
        ·exact hstep j (hrd j hkr)
       ·exact (hL y hy).imp (fun L=>L.mono om (by simp) hstep) fun L k hk=>L k om
theorem wpD_of_R {C:zag} (pu:List String) {anc:List (List Nat)} {ops:List ICell} {K:St→Prop} {s:St} (hok:okD pu ops anc=true) (h:wpR C pu ops K s):
  wpD C (unA anc) (zbI 0 s.h.length ops) [] K ⟨s.f,s.h++List.replicate (zar ops) .gone⟩:=
 zdo hok ops 0 (fun j=>by simp) [] s (by simp) h
theorem wpC_dreg {C:zag} {B:Nat} (pu:List String) {anc:List (List Nat)} {ops:List ICell} {Q:IExit→St→Prop} {s:St} (hok:okD pu ops anc=true) (h:wpR C pu ops (Q .normal) s):wpC C B (.dreg ops anc) Q s:=
 wpD_of_R pu hok h
end Go.Rh

namespace Go.Rh
abbrev iv (x:Int):Value:= .int .i64 x
abbrev uv (x:Int):Value:= .int .u64 x
abbrev bv (x:Bool):Value:= .bool x
abbrev pv (k o:Nat):Value:= .pointer (some ⟨k,o,none⟩)
abbrev sv (k o l c:Nat):Value:= .slice (some ⟨k,o,none⟩) l c
abbrev cw (l:List Value):Blk:= .cells l true
abbrev cr (l:List Value):Blk:= .cells l false
theorem zaQ {a b:Int} (h:(a==b)=true):a=b:=eq_of_beq h
theorem zaR {a b:Int} (h:(a==b)=false): ¬a=b:=fun e=>by subst e;simp at h
theorem ze5 {a b:Int} (h:(a !=b)=true):a≠b:=bne_iff_ne.1 h
theorem ze6 {a b:Int} (h:(a !=b)=false): ¬a≠b:=fun e=>by rw [bne_iff_ne.2 e] at h;cases h
theorem not_t {b:Bool} (h:(!b)=true):b=false:=by cases b<;>simp_all
theorem not_f {b:Bool} (h:(!b)=false):b=true:=by cases b<;>simp_all
theorem wpC_true {C:zag} {B:Nat} {c:Opd} {a b:IC} {Q:IExit→St→Prop} {s:St} (hc:evf s.f c= .bool true) (h:wpC C B a Q s):wpC C B (.cond c a b) Q s:=zb3 hc (fun _=>h) (fun e=>by cases e)
theorem wpC_false {C:zag} {B:Nat} {c:Opd} {a b:IC} {Q:IExit→St→Prop} {s:St} (hc:evf s.f c= .bool false) (h:wpC C B b Q s):wpC C B (.cond c a b) Q s:=zb3 hc (fun e=>by cases e) (fun _=>h)
theorem rho_id {n i:Nat} :rho (List.range n) n i=i:=by
 rcases Nat.lt_or_ge i n with h | h
 ·exact zdc (by simp [h])
 ·rw [rho_ge (by simpa using h)];simp;omega
theorem renA_id {a:Addr} {ρ:Nat→Nat} (h: ∀i,ρ i=i):renA ρ a=a:=by simp [renA,h]
theorem ren1_id {ρ:Nat→Nat} (h: ∀i,ρ i=i) (v:Value):zew ρ v=v:=by
 unfold zew;split<;>simp [renA_id h,h]
theorem renG_id {ρ:Nat→Nat} (h: ∀i,ρ i=i) (v:Value):zeY ρ v=v:=by
 unfold zeY;split
 ·congr 1;exact Array.toList_inj.1 (by rw [Array.toList_map];exact za8 fun v _=>ren1_id h v)
 ·exact ren1_id h _
theorem renV_id {ρ:Nat→Nat} (h: ∀i,ρ i=i) (v:Value):zaF ρ v=v:=by
 unfold zaF;split
 ·congr 1;exact Array.toList_inj.1 (by rw [Array.toList_map];exact za8 fun v _=>renG_id h v)
 ·exact renG_id h _
theorem renB_id {ρ:Nat→Nat} (h: ∀i,ρ i=i) (b:Blk):zbx ρ b=b:=by
 cases b<;>simp only [zbx]
 ·rw [za8 fun v _=>ren1_id h v]
 ·rw [List.map_congr_left (g:=id) fun e _=>by simp [renG_id h]];simp
 ·rw [za8 fun v _=>renG_id h v]
 ·rw [h]
theorem reg_mem {l:List (Nat×Value)} {t:Nat} :reg l t=junk∨∃p∈l,p.1=t∧reg l t=p.2:=by
 induction l with
 | nil=>exact .inl rfl
 | cons p l ih=>
  simp only [reg,setf]
  by_cases h:t=p.1
  ·simp only [h,if_true];exact .inr ⟨p,by simp,rfl,rfl⟩
  ·simp only [h,if_false]
   rcases ih with h1 | ⟨q,h1,h2,h3⟩
   ·exact .inl h1
   ·exact .inr ⟨q,by simp [h1],h2,h3⟩
theorem seq_regs' {B:Nat} {s:St} {K:St→Prop} (l:List (Nat×Value)) (hl:l.map (fun p=>s.f p.1)=l.map (·.2)) (h:K ⟨reg l,s.h⟩) (hB:B≤s.h.length:=by simp): ∃s0,Wk B s s0∧K s0:=by
 refine ⟨_,.inr (.inr ⟨List.range s.h.length,by simp,fun i hi=>by simp only [List.getElem?_range (Nat.lt_of_lt_of_le hi hB)],List.nodup_range,fun t=>?_,fun i k b h1 h2=>?_⟩),h⟩
 ·rcases reg_mem (l:=l) (t:=t) with h | ⟨p,h1,h2,h3⟩
  ·exact .inl h
  ·refine .inr ?_
   rw [renV_id (fun i=>rho_id)]
   show reg l t=s.f t
   rw [h3,←h2]
   have: ∀l:List (Nat×Value),l.map (fun p=>s.f p.1)=l.map (·.2)→p∈l→p.2=s.f p.1:=by
    intro l
    induction l with
    | nil=>intro _ h;cases h
    | cons q l ih=>
     intro hl hm
     simp only [List.map_cons,List.cons.injEq] at hl
     rcases List.mem_cons.1 hm with rfl | hm
     ·exact hl.1.symm
     ·exact ih hl.2 hm
   exact this l hl h1
 ·have h3:=z6 h1
  simp at h3
  have:k=i:=by simp [h3] at h1;exact h1.symm
  subst this
  rw [renB_id (fun i=>rho_id)]
  exact .inl h2
theorem zU {B:Nat} {L:List (Nat×Value)} {h:List Blk} {K:St→Prop} (l:List (Nat×Value)) (hk:K ⟨reg l,h⟩) (hl:l.map (fun p=>reg L p.1)=l.map (·.2):=by kernel_rfl) (hB:B≤h.length:=by simp): ∃s0,Wk B ⟨reg L,h⟩ s0∧K s0:=seq_regs' l hl hk hB
def regsR (ρ:Nat→Nat) (f:Nat→Value):List (Nat×Value)→Prop
 | []=>True
 | p::l=>zaF ρ p.2=f p.1∧regsR ρ f l
def blksR (ρ:Nat→Nat) (h:List Blk):List Nat→List Blk→Prop
 | k::ks,b::bs=>(h[k]? =some (zbx ρ b)∨(b= .gone∧h[k]? =none))∧blksR ρ h ks bs
 | _,_=>True
theorem ziq {ρ:Nat→Nat} {f:Nat→Value} : ∀ {l:List (Nat×Value)} {p:Nat×Value},regsR ρ f l→p∈l→zaF ρ p.2=f p.1
 | _::_,_,h,hm=>by
  rcases List.mem_cons.1 hm with rfl | hm
  ·exact h.1
  ·exact ziq h.2 hm
theorem ziY {ρ:Nat→Nat} {h:List Blk} : ∀ {sel:List Nat} {bs:List Blk},blksR ρ h sel bs→∀(i k:Nat) b,sel[i]? =some k→bs[i]? =some b→h[k]? =some (zbx ρ b)∨(b= .gone∧h[k]? =none)
 | [],_,_,i,_,_,h1,_=>by simp at h1
 | _::_,[],_,i,_,_,_,h2=>by simp at h2
 | _::_,_::_,hb,0,_,_,h1,h2=>by simp at h1 h2;subst h1;subst h2;exact hb.1
 | _::_,_::_,hb,i+1,k,b,h1,h2=>ziY hb.2 i k b (by simpa using h1) (by simpa using h2)
theorem Wk.ren {B:Nat} {s:St} {l:List (Nat×Value)} {hs:List Blk} (sel:List Nat) (h1:hs.length=sel.length) (h2:sel.take B=List.range B) (h3:sel.Nodup) (hr:regsR (rho sel s.h.length) s.f l) (hb:blksR (rho sel s.h.length) s.h sel hs):Wk B s ⟨reg l,hs⟩:=by
 refine .inr (.inr ⟨sel,h1,fun i hi=>?_,h3,fun t=>?_,fun i k b e1 e2=>ziY hb i k b e1 e2⟩)
 ·have:(sel.take B)[i]? =some i:=by rw [h2];simp [hi]
  rwa [List.getElem?_take,if_pos hi] at this
 ·rcases reg_mem (l:=l) (t:=t) with h | ⟨p,h4,h5,h6⟩
  ·exact .inl h
  ·refine .inr ?_
   show zaF _ (reg l t)=_
   rw [h6,←h5]
   exact ziq hr h4
theorem zL {ρ:Nat→Nat} {c:List Value} {rw:Bool} (h:c.all zbG=true):some (Blk.cells c rw)=some (zbx ρ (.cells c rw)):=by rw [zbn h]
theorem zde {a b c:Prop} (h1:a) (h2:b∧c):a∧b∧c:=⟨h1,h2⟩
theorem all_cons {α:Type} {p:α→Bool} {a:α} {l:List α} (h1:p a=true) (h2:l.all p=true):(a::l).all p=true:=by simp [h1,h2]
theorem zT {s:St} {t:Nat} {v:Value} {r:List IRes} {l:List Value} (h:s.f t=v) (h2:zf1 s r=some l):zf1 s (.tmp t::r)=some (v::l):=by simp [zf1,h,h2]
theorem q8 {s:St} {a k o:Nat} {n:Option Nat} {c:List Value} {rw:Bool} {v:Value} {r:List IRes} {l:List Value} (h:s.f a= .pointer (some ⟨k,o,none⟩)) (hh:hf s.h k=some (.cells c rw)) (hv:zaP n c o=some v) (h2:zf1 s r=some l):zf1 s (.cell a n::r)=some (v::l):=by
 simp [zf1,ldV,h,hh,hv,h2]
theorem zaU {c:ICell} {s:St} {v:Value} {e:Eff} (hg:c.guard=none) (hsp:qQ c.op=0) (h:z8 c.op (evf s.f) (hf s.h) s.h.length=some (v,e)):zdb [c] s=some ⟨zau s.f c.dst v,e.on s.h⟩:=by
 obtain ⟨d,op,g⟩:=c
 simp only at hg;subst hg
 simp [zdb,run1,gJ,zbS,hsp,h]
theorem zK {c:ICell} {L:List (Nat×Value)} {h:List Blk} {v v':Value} (he:v=v') (hr:zdb [c] ⟨reg L,h⟩=some ⟨zau (reg L) c.dst v,h⟩):zdb [c] ⟨reg L,h⟩=some ⟨zau (reg L) c.dst v',h⟩:=he▸hr
theorem zV {d:Option Nat} {m:Option Nat} {x:Opd} {L:List (Nat×Value)} {hp:List Blk} {k o:Nat} {c:List Value} {rw:Bool} {v:Value} (hx:evf (reg L) x= .pointer (some ⟨k,o,none⟩)) (hh:hf hp k=some (.cells c rw)) (hv:zaP m c o=some v):zdb [⟨d,.ld m x,none⟩] ⟨reg L,hp⟩=some ⟨zau (reg L) d v,hp⟩:=
 zaU (e:= .no) rfl rfl (by simp [z8,ldV,hx,hh,hv])
theorem zao {d:Option Nat} {n:Nat} {x y:Opd} {L:List (Nat×Value)} {hp:List Blk} {k o:Nat} {c c':List Value} (hx:evf (reg L) x= .pointer (some ⟨k,o,none⟩)) (hh:hf hp k=some (.cells c true)) (ht:zbt (evf (reg L) y)=false) (hl:(zdE (evf (reg L) y)).length=n) (ho:o+n≤c.length) (hc:splice c o (zdE (evf (reg L) y))=c'):zdb [⟨d,.st n x y,none⟩] ⟨reg L,hp⟩=some ⟨zau (reg L) d undef,hp.set k (.cells c' true)⟩:=
 zaU (v:=undef) (e:= .set k (.cells c' true)) rfl rfl (by simp [z8,stV,hx,hh,ht,hl,ho,hc])
theorem zeu {d:Option Nat} {z:RL} {ps:List (Nat×Nat×Opd)} {L:List (Nat×Value)} {hp:List Blk} {c:List Value} (h:zgo (zaE z) (ps.map fun p=>(p.1,p.2.1,evf (reg L) p.2.2))=some c):zdb [⟨d,.bld z ps,none⟩] ⟨reg L,hp⟩=some ⟨zau (reg L) d (.agg ⟨c⟩),hp⟩:=
 zaU (e:= .no) rfl rfl (by simp [z8,h])
theorem run_eqa {d:Option Nat} {neg:Bool} {ks:List (Nat×LK)} {x y:Opd} {L:List (Nat×Value)} {hp:List Blk} {a b:Array Value} {r R:Bool} (h:evf (reg L) x= .agg a∧evf (reg L) y= .agg b∧eqK (zdW ks) a.toList b.toList=some r) (hR:(if neg=true then !r else r)=R):zdb [⟨d,.eqa neg ks x y,none⟩] ⟨reg L,hp⟩=some ⟨zau (reg L) d (.bool R),hp⟩:=by
 subst hR
 exact zaU (e:= .no) rfl rfl (by simp [z8,h.1,h.2.1,h.2.2])
theorem zci {d:Option Nat} {off:Nat} {x:Opd} {L:List (Nat×Value)} {hp:List Blk} {k o o':Nat} (hx:evf (reg L) x= .pointer (some ⟨k,o,none⟩)) (ho:o+off=o'):zdb [⟨d,.fad off x,none⟩] ⟨reg L,hp⟩=some ⟨zau (reg L) d (.pointer (some ⟨k,o',none⟩)),hp⟩:=by
 subst ho
 exact zaU (e:= .no) rfl rfl (by simp [z8,hx])
theorem zaA {d:Option Nat} {len size:Nat} {x i:Opd} {L:List (Nat×Value)} {hp:List Blk} {k o o':Nat} {ik:IntKind} {n:Int} (hx:evf (reg L) x= .pointer (some ⟨k,o,none⟩)) (hi:evf (reg L) i= .int ik n) (hn:0≤n∧n < len) (ho:o+n.toNat*size=o'):zdb [⟨d,.iadA len size x i,none⟩] ⟨reg L,hp⟩=some ⟨zau (reg L) d (.pointer (some ⟨k,o',none⟩)),hp⟩:=by
 subst ho
 exact zaU (e:= .no) rfl rfl (by simp [z8,hx,hi,hn])
theorem zcU {d:Option Nat} {size:Nat} {x i:Opd} {L:List (Nat×Value)} {hp:List Blk} {k o o' len cap:Nat} {ik:IntKind} {n:Int} (hx:evf (reg L) x= .slice (some ⟨k,o,none⟩) len cap) (hi:evf (reg L) i= .int ik n) (hn:0≤n∧n < len) (ho:o+n.toNat*size=o'):zdb [⟨d,.iadS size x i,none⟩] ⟨reg L,hp⟩=some ⟨zau (reg L) d (.pointer (some ⟨k,o',none⟩)),hp⟩:=by
 subst ho
 exact zaU (e:= .no) rfl rfl (by simp [z8,hx,hi,hn])
theorem run_ixA {d:Option Nat} {len size:Nat} {m:Option Nat} {x i:Opd} {L:List (Nat×Value)} {hp:List Blk} {c:Array Value} {ik:IntKind} {n:Int} {o:Nat} {v:Value} (hx:evf (reg L) x= .agg c) (hi:evf (reg L) i= .int ik n) (hn:0≤n∧n < len) (ho:n.toNat*size=o) (hv:zaP m c.toList o=some v):zdb [⟨d,.ixA len size m x i,none⟩] ⟨reg L,hp⟩=some ⟨zau (reg L) d v,hp⟩:=by
 subst ho
 exact zaU (e:= .no) rfl rfl (by simp [z8,hx,hi,hn,hv])
theorem run_rem {d:Option Nat} {x y:Opd} {L:List (Nat×Value)} {hp:List Blk} {k:IntKind} {a b:Int} (hx:evf (reg L) x= .int k a) (hy:evf (reg L) y= .int k b) (hb:b≠0):zdb [⟨d,.bin .rem x y,none⟩] ⟨reg L,hp⟩=some ⟨zau (reg L) d (.int k (a.tmod b)),hp⟩:=
 zaU (e:= .no) rfl rfl (by simp [z8,hx,hy,binV,binI,hb])
theorem want_act {C:zag} {pu:List String} {c:ICell} {r:List ICell} {K:St→Prop} {s:St} (hg:gJ c s.f=false) (h1:zbS c s.f=true→actR C pu c.op (fun v h=>wpR C pu r K ⟨zau s.f c.dst v,h⟩) s) (h2:zbS c s.f=false→wpR C pu r K ⟨zau s.f c.dst undef,s.h⟩):wpR C pu (c::r) K s:=by
 obtain ⟨d,op,gd⟩:=c
 unfold wpR
 unfold gJ at hg
 unfold zbS at h1 h2
 cases gd with
 | none=>
  have:=h1 rfl
  unfold actR at this
  exact this
 | some gb=>
  obtain ⟨g,b⟩:=gb
  simp only at hg h1 h2 ⊢
  cases hv:s.f g with
  | bool x=>
   simp only [hv] at h1 h2 ⊢
   by_cases hx:x=b
   ·rw [if_pos hx]
    have:=h1 (by simp [hx])
    unfold actR at this
    exact this
   ·rw [if_neg hx]
    exact h2 (by simpa using hx)
  | complex k r i=>simp [hv] at hg
  | _=>simp only [hv] at h2;exact h2 trivial
theorem wpR_run1 {C:zag} {pu:List String} {c:ICell} {r:List ICell} {K:St→Prop} {s s':St} (h:run1 c s=some s') (hk:wpR C pu r K s'):wpR C pu (c::r) K s:=by
 unfold run1 at h
 cases hg:gJ c s.f with
 | true=>simp [hg] at h
 | false=>
  simp only [hg,if_false,Bool.false_eq_true] at h
  cases hw:zbS c s.f with
  | false=>
   simp only [hw,if_false,Bool.false_eq_true,Option.some.injEq] at h
   subst h
   exact want_act hg (fun q=>by rw [hw] at q;cases q) (fun _=>hk)
  | true=>
   simp only [hw,if_true] at h
   split at h<;>try cases h
   rename_i hsp
   refine want_act hg (fun _=>?_) (fun q=>by rw [hw] at q;cases q)
   have:actR C pu c.op (fun v h=>wpR C pu r K ⟨zau s.f c.dst v,h⟩) s=(match z8 c.op (evf s.f) (hf s.h) s.h.length with
    | some (v,e)=>wpR C pu r K ⟨zau s.f c.dst v,e.on s.h⟩
    | none=>False):=by
    unfold actR
    cases ho:c.op<;>first | rfl | (rw [ho] at hsp;cases hsp)
   rw [this]
   split at h<;>cases h
   rename_i hs
   first | (simp only [hs];exact hk) | exact hk | (rw [hs];exact hk)
theorem wpR_run {C:zag} {pu:List String} {K:St→Prop} : ∀ {l r:List ICell} {s s':St},zdb l s=some s'→wpR C pu r K s'→wpR C pu (l++r) K s
 | [],_,_,_,h,hk=>by cases h;exact hk
 | c::l,r,s,s',h,hk=>by
  simp only [zdb] at h
  split at h
  ·rename_i s1 h1;exact wpR_run1 h1 (wpR_run h hk)
  ·cases h
theorem wpR_n {C:zag} {pu:List String} {K:St→Prop} {l:List ICell} {s s':St} (n:Nat) (h:zdb (l.take n) s=some s') (hk:wpR C pu (l.drop n) K s'):wpR C pu l K s:=by
 have:=wpR_run (C:=C) (pu:=pu) h hk
 rwa [List.take_append_drop] at this
theorem wpR_split {C:zag} {pu:List String} {K:St→Prop} {l:List ICell} {s:St} {b:Bool} (g:Nat) (hg:s.f g= .bool b) (h1:b=true→wpR C pu l K ⟨setf s.f g (.bool true),s.h⟩) (h2:b=false→wpR C pu l K ⟨setf s.f g (.bool false),s.h⟩):wpR C pu l K s:=by
 cases b with
 | true=>have:=h1 rfl;rwa [zf9 hg] at this
 | false=>have:=h2 rfl;rwa [zf9 hg] at this
theorem wpR_unguard {C:zag} {pu:List String} {K:St→Prop} {d:Option Nat} {op:IOp} {g:Nat} {b:Bool} {r:List ICell} {s:St} (hg:s.f g= .bool b) (hk:wpR C pu (⟨d,op,none⟩::r) K s):wpR C pu (⟨d,op,some (g,b)⟩::r) K s:=by
 obtain ⟨_,h2,_⟩:=wpR_cons hk
 exact want_act (by simp [gJ,hg]) (fun _=>h2 rfl) (fun q=>by simp [zbS,hg] at q)
theorem wpC_dregK {C:zag} {B:Nat} {anc:List (List Nat)} {ops:List ICell} {Q:IExit→St→Prop} {L:List (Nat×Value)} {h:List Blk} (l:List (Nat×Value)) (h':List Blk) (hr:(runD (unA anc) (zbI 0 h.length ops) [] ⟨reg L,h++List.replicate (zar ops) .gone⟩).map (·.2)=some ⟨reg (l++L),h'⟩) (hk:Q .normal ⟨reg (l++L),h'⟩):wpC C B (.dreg ops anc) Q ⟨reg L,h⟩:=by
 simp only [Option.map_eq_some_iff] at hr
 obtain ⟨⟨log,s⟩,h1,h2⟩:=hr
 simp only at h2;subst h2
 exact wpD_all h1 hk
theorem wpR_cl {C:zag} {pu:List String} {K:St→Prop} {d:Nat} {g:String} {args:List Opd} {r:List ICell} {L:List (Nat×Value)} {h:List Blk} (hc:zeI C (pu.any fun x=>x==g) g (args.map (evf (reg L))) (fun v h=>wpR C pu r K ⟨reg ((d,v)::L),h⟩) h):wpR C pu (⟨some d,.call g args,none⟩::r) K ⟨reg L,h⟩:=hc
theorem wpOps_cl {C:zag} {K:St→Prop} {d:Nat} {g:String} {args:List Opd} {r:List ICell} {L:List (Nat×Value)} {h:List Blk} (hc:zdA C g (args.map (evf (reg L))) (fun v h=>zbv C r K ⟨reg ((d,v)::L),h⟩) h):zbv C (⟨some d,.call g args,none⟩::r) K ⟨reg L,h⟩:=hc
theorem zba {C:zag} {pu:Bool} {g:String} {vals vs:List Value} {K:zen} {h:List Blk} {V:Value} (hC:C g vs [] (Ans V [])) (hv:vals=vs) (hp:vs.all vpf=true) (hV:vpf V=true) (hK:K V h):zeI C pu g vals K h:=by
 subst hv
 exact ⟨[],[],vals,V,hC,rfl,fun n=>za8 fun v hm=>qN (List.all_eq_true.1 hp v hm),by simp,by simp,fun _=>rfl,hV,hK⟩
def roB (h:List Blk):List Nat→List (List Value)→Prop
 | k::ks,c::cs=>(∃rw,h[k]? =some (.cells c rw))∧c.all zbG=true∧roB h ks cs
 | _,_=>True
theorem roB_get {h:List Blk} : ∀ {sel:List Nat} {cs:List (List Value)},roB h sel cs→∀(i k:Nat) c,sel[i]? =some k→cs[i]? =some c→(∃rw,h[k]? =some (.cells c rw))∧c.all zbG=true
 | [],_,_,i,_,_,h1,_=>by simp at h1
 | _::_,[],_,i,_,_,_,h2=>by simp at h2
 | _::_,_::_,hb,0,_,_,h1,h2=>by simp at h1 h2;subst h1;subst h2;exact ⟨hb.1,hb.2.1⟩
 | _::_,_::_,hb,i+1,k,c,h1,h2=>roB_get hb.2.2 i k c (by simpa using h1) (by simpa using h2)
def roL (cs:List (List Value)):List Blk:=cs.map fun c=> .cells c false
theorem zfb {C:zag} {g:String} {vals a1:List Value} {K:zen} {h:List Blk} {V:Value} (sel:List Nat) (cs:List (List Value)) (hC:C g a1 (roL cs) (Ans V (roL cs))) (hl:cs.length=sel.length) (ha: ∀n,a1.map (zaF (rho sel n))=vals) (hs:roB h sel cs) (hV:vpf V=true) (hK:K V h):zeI C false g vals K h:=by
 have hget: ∀ {i:Nat} {b:Blk},(roL cs)[i]? =some b→∃c,cs[i]? =some c∧b= .cells c false:=fun {i b} e=>by
  simp only [roL,List.getElem?_map,Option.map_eq_some_iff] at e
  obtain ⟨c,e1,e2⟩:=e
  exact ⟨c,e1,e2.symm⟩
 refine ⟨sel,roL cs,a1,V,hC,by simp [roL,hl],ha,fun n i k b1 h1 h2=>?_,fun b hb=>?_,fun q=>(by cases q),hV,hK⟩
 ·obtain ⟨c,h3,rfl⟩:=hget h2
  obtain ⟨⟨rw,h4⟩,h5⟩:=roB_get hs i k c h1 h3
  exact ⟨_,h4,by simp,by rw [zbn h5];exact ⟨rfl,by simp⟩⟩
 ·obtain ⟨i,hi⟩:=List.mem_iff_getElem?.1 hb
  obtain ⟨c,_,rfl⟩:=hget hi
  rfl
theorem zhQ {C:zag} {pu:Bool} {g:String} {vals:List Value} {K:zen} {h:List Blk} (hc:zeI C pu g vals K h):zdA C g vals K h:=by
 obtain ⟨sel,h1,a1,V,e1,e2,e3,e4,e5,e6,e7,e8⟩:=hc
 refine ⟨sel,h1,a1,_,e1,e2,e3 _,fun i k b1 q1 q2=>?_,fun i j k b1 _ _ _ q=>e5 b1 (List.mem_of_getElem? q), ?_⟩
 ·obtain ⟨b,hb,_,hs⟩:=e4 h.length i k b1 q1 q2;exact ⟨b,hb,.inl (.inl hs)⟩
 ·rintro v h' ⟨rfl,rfl⟩ _ _
  refine ⟨fun _ q=>q, ?_⟩
  rw [qN e7,zi1 e2 e5]
  exact e8
theorem zdD {C:zag} {g:String} {vals a1:List Value} {K:zen} {h:List Blk} {V:Value} (sel:List Nat) (cs:List (List Value)) (hC:C g a1 (roL cs) (Ans V (roL cs))) (hl:cs.length=sel.length) (ha: ∀n,a1.map (zaF (rho sel n))=vals) (hs:roB h sel cs) (hV:vpf V=true) (hK:K V h):zdA C g vals K h:=
 zhQ (zfb sel cs hC hl ha hs hV hK)
end Go.Rh

namespace Go.Rh
def slV (k n:Nat):Option Nat→Value
 | none=> .slice none 0 0
 | some m=> .slice (some ⟨k,0,none⟩) n (n+m)
def zaj (z:List Value) (m:Nat):List Value:=(List.replicate m z).flatten
def slB (z cs:List Value):Option Nat→Blk
 | none=> .gone
 | some m=> .cells (cs++zaj z m) true
theorem room_scl {z:List Value} (hz:z.all zbG=true) (m:Nat):(zaj z m).all zbG=true:=by
 simp only [zaj,List.all_flatten]
 exact List.all_eq_true.2 fun l hl=>by rw [List.eq_of_mem_replicate hl];exact hz
theorem app_scl {a b:List Value} (ha:a.all zbG=true) (hb:b.all zbG=true):(a++b).all zbG=true:=by simp [List.all_append,ha,hb]
theorem room_len (z:List Value) (m:Nat):(zaj z m).length=m*z.length:=by simp [zaj]
theorem room_add (z:List Value) (a b:Nat):zaj z (a+b)=zaj z a++zaj z b:=by rw [zaj,←List.replicate_append_replicate,List.flatten_append];rfl
theorem zid {cs xs z:List Value} {m q:Nat} (hx:xs.length=q*z.length):splice (cs++zaj z (q+m)) cs.length xs=(cs++xs)++zaj z m:=by
 unfold splice
 rw [room_add,List.take_append_of_le_length (Nat.le_refl _),List.take_length,←List.append_assoc cs,List.drop_append]
 have h1:(cs++zaj z q).length=cs.length+xs.length:=by simp [room_len,hx]
 rw [h1,List.drop_eq_nil_of_le om]
 simp
theorem zbF {h:Nat→Option Blk} {size n j o l c:Nat} {cs t:List Value} {rw:Bool} (hh:h j=some (.cells t rw)) (ht:(t.drop o).take (n*size)=cs) (hl:o+n*size≤t.length):first h size n (.slice (some ⟨j,o,none⟩) l c)=some cs:=by
 simp [first,hh,hl,ht]
theorem app_k {C:zag} {K:Value→List Blk→Prop} {z:RL} {zl:List Value} {size bytes q:Nat} {s x:Opd} {L:List (Nat×Value)} {h:List Blk} {k n:Nat} {o:Option Nat} {cs xs:List Value} {vx:Value}
  (hz:zaE z=zl) (hzl:zl.length=size) (hs:reg L=reg L∧evf (reg L) s=slV k n o) (hk: ∀m,o=some m→hf h k=some (.cells (cs++zaj zl m) true)) (ho:o=none→n=0∧cs= []) (hcs:cs.length=n*size)
  (hx:evf (reg L) x=vx) (hq:zi6 vx=some q) (hf1:first (hf h) size q vx=some xs) (hxl:xs.length=q*size) (hq0:0 < q) (hb:2*(n+q)*bytes≤2^48)
  (h1: ∀m,o=some (q+m)→K (sv k 0 (n+q) (n+q+m)) (h.set k (cw ((cs++xs)++zaj zl m))))
  (h2: ∀m,K (sv h.length 0 (n+q) (n+q+m)) (h++ [cw ((cs++xs)++zaj zl m)])):zfD C (.app z size bytes s x) (reg L) h K:=by
 show appK z size bytes (evf (reg L) s) (evf (reg L) x) (fun v e=>K v (e.on h)) (hf h) h.length
 rw [hs.2,hx]
 have new: ∀c,n+q≤c→K (.slice (some ⟨h.length,0,none⟩) (n+q) c) (h++ [.cells (cs++xs++(List.replicate (c - (n+q)) (zaE z)).flatten) true]):=by
  intro c hc
  have:=h2 (c - (n+q))
  rw [show n+q+(c - (n+q))=c by omega] at this
  rw [hz]
  exact this
 cases o with
 | none=>
  obtain ⟨rfl,rfl⟩:=ho rfl
  simp only [appK,slV,hq]
  rw [hf1]
  simp only [first,List.nil_append]
  rw [if_neg om]
  refine ⟨by simpa using hb,fun c hc=>?_⟩
  have:=new c om
  simpa [Eff.on] using this
 | some m=>
  have hk:=hk m rfl
  simp only [appK,slV,hq]
  rw [hf1]
  have e1:first (hf h) size n (.slice (some ⟨k,0,none⟩) n (n+m))=some cs:=by
   refine zbF hk ?_ ?_
   ·rw [List.drop_zero,←hcs,List.take_append_of_le_length (Nat.le_refl _),List.take_length]
   ·simp [hcs]
  rw [e1]
  simp only
  by_cases hm:n+q≤n+m
  ·rw [if_pos hm,if_neg om,hk]
   simp only
   obtain ⟨m',rfl⟩: ∃m',m=q+m':=⟨m - q,om⟩
   have hsz:(cs++zaj zl (q+m')).length=n*size+(q+m')*size:=by simp [room_len,hzl,hcs]
   rw [if_pos (by rw [hsz,hxl,Nat.add_mul];omega)]
   have e2:splice (cs++zaj zl (q+m')) (0+n*size) xs=(cs++xs)++zaj zl m':=by
    rw [Nat.zero_add,←hcs];exact zid (by rw [hzl];exact hxl)
   rw [e2,show n+(q+m')=n+q+m' by omega]
   exact h1 m' rfl
  ·rw [if_neg hm]
   exact ⟨hb,fun c hc=>by have:=new c hc;simpa [Eff.on] using this⟩
theorem wpOps_app {C:zag} {K:St→Prop} {d:Nat} {z:RL} {zl:List Value} {size bytes q:Nat} {s x:Opd} {r:List ICell} {L:List (Nat×Value)} {h:List Blk} {k n:Nat} {o:Option Nat} {cs xs:List Value} {vx:Value}
  (hz:zaE z=zl) (hzl:zl.length=size) (hs:reg L=reg L∧evf (reg L) s=slV k n o) (hk: ∀m,o=some m→hf h k=some (.cells (cs++zaj zl m) true)) (ho:o=none→n=0∧cs= []) (hcs:cs.length=n*size)
  (hx:evf (reg L) x=vx) (hq:zi6 vx=some q) (hf1:first (hf h) size q vx=some xs) (hxl:xs.length=q*size) (hq0:0 < q) (hb:2*(n+q)*bytes≤2^48)
  (h1: ∀m,o=some (q+m)→zbv C r K ⟨reg ((d,sv k 0 (n+q) (n+q+m))::L),h.set k (cw ((cs++xs)++zaj zl m))⟩)
  (h2: ∀m,zbv C r K ⟨reg ((d,sv h.length 0 (n+q) (n+q+m))::L),h++ [cw ((cs++xs)++zaj zl m)]⟩):zbv C (⟨some d,.app z size bytes s x,none⟩::r) K ⟨reg L,h⟩:=
 app_k (C:=C) (K:=fun v h=>zbv C r K ⟨zau (reg L) (some d) v,h⟩) hz hzl hs hk ho hcs hx hq hf1 hxl hq0 hb h1 h2
theorem wpOps_appC {C:zag} {K:St→Prop} {d:Nat} {z:RL} {zl:List Value} {size bytes q:Nat} {s x:Opd} {r:List ICell} {L:List (Nat×Value)} {h:List Blk} {k n:Nat} {o:Option Nat} {cs xs cs2:List Value} {vx:Value}
  (hz:zaE z=zl) (hzl:zl.length=size) (hs:evf (reg L) s=slV k n o) (hk: ∀m,o=some m→hf h k=some (.cells (cs++zaj zl m) true)) (ho:o=none→n=0∧cs= []) (hcs:cs.length=n*size)
  (hx:evf (reg L) x=vx) (hq:zi6 vx=some q) (hf1:first (hf h) size q vx=some xs) (hxl:xs.length=q*size) (hq0:0 < q) (hb:2*(n+q)*bytes≤2^48) (hc:cs++xs=cs2)
  (h1: ∀m,o=some (q+m)→zbv C r K ⟨reg ((d,sv k 0 (n+q) (n+q+m))::L),h.set k (cw (cs2++zaj zl m))⟩)
  (h2: ∀m,zbv C r K ⟨reg ((d,sv h.length 0 (n+q) (n+q+m))::L),h++ [cw (cs2++zaj zl m)]⟩):zbv C (⟨some d,.app z size bytes s x,none⟩::r) K ⟨reg L,h⟩:=by
 subst hc;exact wpOps_app hz hzl ⟨rfl,hs⟩ hk ho hcs hx hq hf1 hxl hq0 hb h1 h2
theorem zgc {d:Option Nat} {x:Opd} {L:List (Nat×Value)} {hp:List Blk} {k n:Nat} {o:Option Nat} (hx:evf (reg L) x=slV k n o) (ho:o=none→n=0):zdb [⟨d,.lenS x,none⟩] ⟨reg L,hp⟩=some ⟨zau (reg L) d (.int .i64 (n:Nat)),hp⟩:=by
 refine zaU (e:= .no) rfl rfl ?_
 cases o with
 | none=>simp [z8,hx,slV,ho rfl]
 | some m=>simp [z8,hx,slV]
theorem zds {d:Option Nat} {size:Nat} {x i:Opd} {L:List (Nat×Value)} {hp:List Blk} {k o' n':Nat} {o:Option Nat} {ik:IntKind} {n:Int} (hx:evf (reg L) x=slV k n' o) (ho:o=none→n'=0) (hi:evf (reg L) i= .int ik n) (hn:0≤n∧n < n') (he:n.toNat*size=o'):zdb [⟨d,.iadS size x i,none⟩] ⟨reg L,hp⟩=some ⟨zau (reg L) d (.pointer (some ⟨k,o',none⟩)),hp⟩:=by
 subst he
 cases o with
 | none=>have:=ho rfl;omega
 | some m=>exact zaU (e:= .no) rfl rfl (by simp [z8,hx,slV,hi,hn])
end Go.Rh

namespace Go.Rh
abbrev qZ:=Nat→Int
def upd (c:qZ) (i:Nat) (v:Int):qZ:=fun j=>if j=i then v else c j
def qO:qZ:=fun _=>0
structure Ent where
  k:Int
  s:Int
  a:Int
  p:Int
  g:Int
  ka:Int
  kb:Int
def pk (i:Nat):IntKind:=if i < 324 then .i64 else .u64
def plF (c:qZ):Nat→Nat→List Value
 | _,0=> []
 | i,n+1=> .int (pk i) (c i)::plF c (i+1) n
def pl (c:qZ):List Value:=plF c 0 330
def zaw (c:qZ):Value:= .agg ⟨pl c⟩
def entV (e:Ent):Value:= .agg #[.int .i64 e.k,.int .i64 e.s,.int .i64 e.a,.int .i64 e.p,.int .i64 e.g,.int .u64 e.ka,.int .u64 e.kb]
def slotV (c:qZ) (k:Nat):Value:= .agg #[.int .i64 (c (3+5*k)),.int .i64 (c (3+5*k+1)),.int .i64 (c (3+5*k+2)),.int .i64 (c (3+5*k+3)),.int .i64 (c (3+5*k+4))]
def zbh (a p:Int):Bool:=decide (0≤a)&&(decide (a≤4294967295)&&(decide (0≤p)&&decide (p≤65535)))
def newS (a p ka kb na nb:Int):qZ:=fun i=>if i=1 then a else if i=2 then p else if i=323 then 1 else if i=326 then ka else if i=327 then kb else if i=328 then na else if i=329 then nb else 0
def zbk (e:Ent):Int:=
 if e.k < 1∨6 < e.k then 2
 else if e.s < 0∨64≤e.s∨(e.k=6∧e.s≠0) then 11
 else if e.k=1∧(zbh e.a e.p=false∨e.g < 1∨8 < e.g) then 14
 else if (e.k≠1∧(e.a≠0∨e.p≠0∨e.g≠0))∨(e.k≠6∧(e.ka≠0∨e.kb≠0)) then 14
 else 0
def zfS (c:qZ) (a p:Int) (k:Nat):Bool:=decide (c (3+5*k)≠0)&&(decide (c (3+5*k+1)=a)&&decide (c (3+5*k+2)=p))
def zfG (c:qZ) (a p:Int):Nat→Bool
 | 0=>false
 | n+1=>zfG c a p n || zfS c a p n
def zfC (c:qZ) (a p:Int):Bool:=(decide (c 1=a)&&decide (c 2=p)) || zfG c a p 64
def zcv (c:qZ) (e:Ent):Bool:=
 let t:=c (3+5*e.s.toNat)
 if e.k=1 then decide (t≠0) || zfC c e.a e.p
 else if e.k=2∨e.k=4 then decide (t≠1)&&decide (t≠3)
 else if e.k=3 then decide (t≠2)
 else if e.k=5 then decide (t≠4)
 else false
def zbX (c:qZ) (e:Ent):Int:=
 if zcv c e=true then 12
 else if e.k=5∧c 323 < i64.wrap (c (3+5*e.s.toNat+4)+3) then 13
 else 0
def nextS (c:qZ) (ka kb:Int):qZ:=
 upd (upd (upd (upd (upd (upd (upd c 323 (i64.wrap (c 323+1))) 324 (c 326)) 325 (c 327)) 326 (c 328)) 327 (c 329)) 328 ka) 329 kb
def qA (c:qZ) (k:Nat) (x0 x1 x2 x3 x4:Int):qZ:=
 upd (upd (upd (upd (upd c (3+5*k) x0) (3+5*k+1) x1) (3+5*k+2) x2) (3+5*k+3) x3) (3+5*k+4) x4
def za9 (c:qZ) (e:Ent):qZ:=
 let d:=upd c 0 (i64.wrap (c 0+1))
 let k:=e.s.toNat
 if e.k=1 then qA d k 1 e.a e.p e.g 0
 else if e.k=2 then upd d (3+5*k) 2
 else if e.k=3 then upd d (3+5*k) 3
 else if e.k=4 then upd (upd d (3+5*k) 4) (3+5*k+4) (c 323)
 else if e.k=5 then qA d k 0 0 0 0 0
 else nextS d e.ka e.kb
def zeL (c:qZ) (e:Ent):Int:=if zbk e≠0 then zbk e else zbX c e
def qT (c:qZ) (e:Ent):qZ×Int:=if zeL c e=0 then (za9 c e,0) else (qO,zeL c e)
theorem zjs (c:qZ): ∀n i,(plF c i n).length=n
 | 0,_=>rfl
 | n+1,i=>by simp [plF,zjs c n]
theorem qI (c:qZ):(pl c).length=330:=zjs c 330 0
theorem plF_get (c:qZ): ∀(n i k:Nat),k < n→(plF c i n)[k]? =some (.int (pk (i+k)) (c (i+k)))
 | 0,_,_,h=>by omega
 | n+1,i,0,_=>by simp [plF]
 | n+1,i,k+1,h=>by
  simp only [plF,List.getElem?_cons_succ]
  rw [plF_get c n (i+1) k om]
  rw [show i+1+k=i+(k+1) by omega]
theorem zjr (c:qZ) {k:Nat} (h:k < 330):(pl c)[k]? =some (.int (pk k) (c k)):=by
 unfold pl;rw [plF_get c 330 0 k h];simp
theorem pl_get64 (c:qZ) {k:Nat} (h:k < 324):(pl c)[k]? =some (.int .i64 (c k)):=by
 rw [zjr c om];simp [pk,h]
theorem plF_scl (c:qZ): ∀n i,(plF c i n).all zbG=true
 | 0,_=>rfl
 | n+1,i=>by simp only [plF,List.all_cons,plF_scl c n,Bool.and_true];rfl
theorem zae (c:qZ):(pl c).all zbG=true:=plF_scl c 330 0
theorem zbO (c:qZ):vpf (zaw c)=true:=zae c
theorem zaH (c:qZ):aggf (zaw c)=true:=zae c
theorem sbel_of_scl {m:Nat} {v:Value} (h:zbG v=true):sbel m v=true:=by
 unfold sbel;split<;>first | rfl | (simp [zbG] at h)
theorem zfy {m:Nat} {l:List Value} (h:l.all zbG=true):l.all (sbel m)=true:=
 List.all_eq_true.2 fun v hv=>sbel_of_scl (List.all_eq_true.1 h v hv)
theorem pl_bel (c:qZ) (m:Nat):(pl c).all (sbel m)=true:=zfy (zae c)
theorem zhG {l:List Value} (h:l.all zbG=true) (n:Nat):(l.take n).all zbG=true:=
 List.all_eq_true.2 fun v hv=>List.all_eq_true.1 h v (List.mem_of_mem_take hv)
theorem zhO {l:List Value} (h:l.all zbG=true) (n:Nat):(l.drop n).all zbG=true:=
 List.all_eq_true.2 fun v hv=>List.all_eq_true.1 h v (List.mem_of_mem_drop hv)
theorem zcn {l l':List Value} (hl:l.length=l'.length) (h: ∀k,k < l.length→l[k]? =l'[k]?):l=l':=by
 refine List.ext_getElem? fun k=>?_
 rcases Nat.lt_or_ge k l.length with hk | hk
 ·exact h k hk
 ·rw [List.getElem?_eq_none hk,List.getElem?_eq_none om]
theorem pl_slot (c:qZ) {k:Nat} (h:k < 64):zaP (some 5) (pl c) (3+5*k)=some (slotV c k):=by
 unfold zaP
 simp only []
 rw [if_pos (by rw [qI];omega)]
 congr 2
 refine congrArg List.toArray (zcn (by simp [qI];omega) ?_)
 intro j hj
 simp [qI] at hj
 have hj:=(show j < 5 by omega)
 rw [List.getElem?_take,if_pos hj,List.getElem?_drop,pl_get64 c om]
 match j,hj with
 | 0,_=>rfl
 | 1,_=>rfl
 | 2,_=>rfl
 | 3,_=>rfl
 | 4,_=>rfl
theorem zaS (c:qZ):zaP (some 330) (pl c) 0=some (zaw c):=by
 unfold zaP
 simp only []
 rw [if_pos (by rw [qI];omega),List.drop_zero,List.take_of_length_le (by rw [qI];omega)]
 rfl
def zdH (c:qZ):List Value:=((pl c).drop 3).take 320
theorem slotsL_get (c:qZ) {k:Nat} (h:k < 320):(zdH c)[k]? =some (.int .i64 (c (3+k))):=by
 unfold zdH
 rw [List.getElem?_take,if_pos h,List.getElem?_drop,pl_get64 c om]
theorem zet (c:qZ):(zdH c).length=320:=by simp [zdH,qI]
theorem zig (c:qZ) {k:Nat} (h:k < 64):zaP (some 5) (zdH c) (k*5)=some (slotV c k):=by
 unfold zaP
 simp only []
 rw [if_pos (by rw [zet];omega)]
 congr 2
 refine congrArg List.toArray (zcn (by simp [zet];omega) ?_)
 intro j hj
 simp [zet] at hj
 have hj:=(show j < 5 by omega)
 rw [List.getElem?_take,if_pos hj,List.getElem?_drop,slotsL_get c om]
 match j,hj with
 | 0,_=>simp [Nat.mul_comm]
 | 1,_=>simp [Nat.mul_comm,Nat.add_assoc]
 | 2,_=>simp [Nat.mul_comm,Nat.add_assoc]
 | 3,_=>simp [Nat.mul_comm,Nat.add_assoc]
 | 4,_=>simp [Nat.mul_comm,Nat.add_assoc]
theorem zgG {c vs:List Value} {o k:Nat} (h:o+vs.length≤c.length):(splice c o vs)[k]? =if o≤k∧k < o+vs.length then vs[k - o]? else c[k]? :=by
 unfold splice
 rw [List.append_assoc]
 by_cases h1:k < o
 ·rw [List.getElem?_append_left (by simp;omega),List.getElem?_take,if_pos h1,if_neg om]
 ·rw [List.getElem?_append_right (by simp;omega)]
  simp only [List.length_take,show min o c.length=o by omega]
  by_cases h2:k < o+vs.length
  ·rw [List.getElem?_append_left om,if_pos ⟨om,h2⟩]
  ·rw [List.getElem?_append_right om,List.getElem?_drop,if_neg om]
   congr 1;omega
theorem zfm {c vs:List Value} {o:Nat} (h:o+vs.length≤c.length):(splice c o vs).length=c.length:=by
 unfold splice;simp;omega
theorem zif (c d:qZ) {o:Nat} {vs:List Value} (h:o+vs.length≤330) (hv: ∀k,k < vs.length→vs[k]? =some (.int (pk (o+k)) (d (o+k)))) (hd: ∀k,k < o∨o+vs.length≤k→d k=c k):splice (pl c) o vs=pl d:=by
 have hl:o+vs.length≤(pl c).length:=by rw [qI];exact h
 refine zcn (by rw [zfm hl,qI,qI]) ?_
 intro k hk
 rw [zfm hl,qI] at hk
 rw [zgG hl,zjr d hk]
 split
 ·rename_i h1
  rw [hv (k - o) om,show o+(k - o)=k by omega]
 ·rename_i h1
  rw [zjr c hk,hd k om]
theorem zgF (c:qZ) {o:Nat} (h:o < 324) (v:Int):splice (pl c) o [.int .i64 v]=pl (upd c o v):=by
 refine zif c _ (by simp;omega) ?_ ?_
 ·intro k hk
  match k,hk with
  | 0,_=>simp [pk,h,upd]
 ·intro k hk
  simp only [List.length_singleton] at hk
  simp only [upd];rw [if_neg om]
theorem splice_slot (c:qZ) {k:Nat} (h:k < 64) (x0 x1 x2 x3 x4:Int):splice (pl c) (3+5*k) [.int .i64 x0,.int .i64 x1,.int .i64 x2,.int .i64 x3,.int .i64 x4]=pl (qA c k x0 x1 x2 x3 x4):=by
 refine zif c _ (by simp;omega) ?_ ?_
 ·intro j hj
  have hp:pk (3+5*k+j)= .i64:=by simp [pk];simp at hj;omega
  rw [hp]
  match j,hj with
  | 0,_=>simp [qA,upd]
  | 1,_=>simp [qA,upd]
  | 2,_=>simp [qA,upd]
  | 3,_=>simp [qA,upd]
  | 4,_=>simp [qA,upd]
 ·intro j hj
  simp only [List.length_cons,List.length_nil] at hj
  simp only [qA,upd]
  rw [if_neg om,if_neg om,if_neg om,if_neg om,if_neg om]
def ringV (c:qZ):Value:= .agg #[.int .i64 (c 323),.int .u64 (c 324),.int .u64 (c 325),.int .u64 (c 326),.int .u64 (c 327),.int .u64 (c 328),.int .u64 (c 329)]
theorem pl_ring (c:qZ):zaP (some 7) (pl c) 323=some (ringV c):=by
 unfold zaP
 simp only []
 rw [if_pos (by rw [qI];omega)]
 rfl
theorem zie (c:qZ) (x0 x1 x2 x3 x4 x5 x6:Int):splice (pl c) 323 [.int .i64 x0,.int .u64 x1,.int .u64 x2,.int .u64 x3,.int .u64 x4,.int .u64 x5,.int .u64 x6]=pl (upd (upd (upd (upd (upd (upd (upd c 323 x0) 324 x1) 325 x2) 326 x3) 327 x4) 328 x5) 329 x6):=by
 refine zif c _ (by simp) ?_ ?_
 ·intro j hj
  match j,hj with
  | 0,_=>rfl
  | 1,_=>rfl
  | 2,_=>rfl
  | 3,_=>rfl
  | 4,_=>rfl
  | 5,_=>rfl
  | 6,_=>rfl
 ·intro j hj
  simp only [List.length_cons,List.length_nil] at hj
  simp only [upd]
  rw [if_neg om,if_neg om,if_neg om,if_neg om,if_neg om,if_neg om,if_neg om]
def zP:RL:= [(324,.int .i64 0),(6,.int .u64 0)]
theorem zP_pl:zaE zP=pl qO:=by
 refine zcn (by rw [qI];simp [zP,zaE]) ?_
 intro k hk
 have hk:k < 330:=by simpa [zP,zaE] using hk
 rw [zjr qO hk]
 show (List.replicate 324 (Value.int .i64 0)++(List.replicate 6 (Value.int .u64 0)++ []))[k]? =_
 by_cases h:k < 324
 ·rw [List.getElem?_append_left (by simpa using h),List.getElem?_replicate,if_pos h]
  simp [pk,h,qO]
 ·rw [List.getElem?_append_right (by simp;omega),List.append_nil,List.getElem?_replicate]
  simp only [List.length_replicate]
  rw [if_pos om]
  simp [pk,h,qO]
theorem pl_ext {c d:qZ} (h: ∀k,k < 330→c k=d k):pl c=pl d:=by
 refine zcn (by rw [qI,qI]) ?_
 intro k hk
 rw [qI] at hk
 rw [zjr c hk,zjr d hk,h k hk]
end Go.Rh

namespace Go.Rh
end Go.Rh

namespace Go.Rh
def ii (l:List Int):List Value:=l.map fun x=> .int .i64 x
theorem qS (l:List Int):(ii l).all zbG=true:=by simp [ii,zbG]
theorem ii_bel (m:Nat) (l:List Int):(ii l).all (sbel m)=true:=by simp [ii,sbel]
theorem ii_blk (l:List Int):zhR (.cells (ii l) false)=true:=by simp [ii,zbG,zhR]
theorem ii_get {l:List Int} {i:Nat} (h:i < l.length):zaP none (ii l) i=some (.int .i64 l[i]):=by simp [zaP,ii,h]
theorem mayC {P:Program} [PrC P] (x0 x1 x2 x3 x4:Int) (l:List Int) (hl:(l.length:Int)≤1000):
  Env P "roundhouse/pool.may" [.agg #[.int .i64 x0,.int .i64 x1,.int .i64 x2,.int .i64 x3,.int .i64 x4],.slice (some ⟨0,0,none⟩) l.length l.length] [.cells (ii l) false]
   (Ans (.bool (l.contains x0)) [.cells (ii l) false]):=by
 refine Env.of PrC.pool_may ?_
 unfold wpF zjS
 refine qF (s':=_) rfl (zA (qF (s':=_) rfl (zA ?_)))
 have fin: ∀(b:Bool) (s:St),b=l.contains x0→s.f 4= .bool b→s.h.take 1= [.cells (ii l) false]→True∧∃q,zf1 s [.tmp 4]=some q∧(∀v∈q,zbt v=false)∧
   (Ans (.bool (l.contains x0)) [.cells (ii l) false] (one q) s.h∨(vpf (one q)=true∧(∀b∈s.h.take 1,zhR b=true)∧Ans (.bool (l.contains x0)) [.cells (ii l) false] (one q) (s.h.take 1))):=by
  intro b s hb h4 hh
  refine ⟨trivial,[.bool b],by simp [zf1,h4],by simp [zbt],.inr ⟨rfl, ?_, ?_⟩⟩
  ·rw [hh];intro b hb;simp at hb;subst hb;exact ii_blk l
  ·rw [hh,hb];exact ⟨rfl,rfl⟩
 refine ⟨fun m s=> ∃i:Nat,i≤l.length∧m=l.length - i∧(∀(j:Nat) x,j < i→l[j]? =some x→x≠x0)∧
  s=⟨reg [(2,.pointer (some ⟨1,0,none⟩)),(7,.slice (some ⟨0,0,none⟩) l.length l.length),(8,.int .i64 l.length),(9,.int .i64 i)],[.cells (ii l) false,.cells [.int .i64 x0,.int .i64 x1,.int .i64 x2,.int .i64 x3,.int .i64 x4] true]⟩,⟨l.length,_,Wk.to (hs:= [.cells (ii l) false,.cells [.int .i64 x0,.int .i64 x1,.int .i64 x2,.int .i64 x3,.int .i64 x4] true]) ?_ ?_ ?_ ?_,0, ?_, ?_, ?_,rfl⟩, ?_⟩
 ·exact Nat.le_succ 1
 ·rfl
 ·exact ⟨⟨rfl,rfl⟩,⟨rfl,rfl⟩,⟨rfl,rfl⟩,⟨rfl,rfl⟩,trivial⟩
 ·simp [bbel,sbel,ii_bel]
 ·exact Nat.zero_le _
 ·rfl
 ·intro j x hj;exact absurd hj (Nat.not_lt_zero _)
 ·rintro m s ⟨i,hi,rfl,hlt,rfl⟩
  refine qF (s':=_) rfl (zA (zbK (zb3 (t:=decide ((i:Int) < (l.length:Int))) rfl (fun ht=>?_) (fun ht=>?_))))
  ·refine zA ?_
   have ht:i < l.length:=by simpa using ht
   refine wpOps_iadS (k:=0) (o:=0) (n:=i) rfl rfl om ?_
   refine wpOps_ld (v:= .int .i64 l[i]) rfl rfl ?_ ?_
   ·rw [show 0+(i:Int).toNat*1=i by omega];exact ii_get ht
   refine qF (s':=_) rfl (zA (qF (s':=_) rfl (zA (zb3 (t:=x0==l[i]) rfl (fun hx=>?_) (fun hx=>?_)))))
   ·refine qF (s':=_) rfl (zA ?_)
    refine fin true _ ?_ rfl rfl
    have:x0=l[i]:=by simpa using hx
    simp [this]
   ·refine zA ?_
    refine qF (s':=_) rfl (⟨l.length - (i+1),_,om,Wk.to (hs:= [.cells (ii l) false,.cells [.int .i64 x0,.int .i64 x1,.int .i64 x2,.int .i64 x3,.int .i64 x4] true]) (Nat.le_succ 1) rfl ?_ ?_,i+1,om,rfl, ?_,rfl⟩)
    ·refine ⟨⟨rfl,rfl⟩,⟨rfl,rfl⟩,⟨rfl,rfl⟩,⟨?_,rfl⟩,trivial⟩
     exact congrArg (Value.int .i64) (w64 om om)
    ·simp [bbel,sbel,ii_bel]
    ·intro j x hj hx'
     by_cases hji:j=i
     ·subst hji
      have:l[j]? =some l[j]:=by simp
      rw [this] at hx';cases hx'
      intro e;simp [e] at hx
     ·exact hlt j x om hx'
  ·refine zA ?_
   refine qF (s':=_) rfl (zA (fin false _ ?_ rfl rfl))
   have ht:l.length≤i:=by simpa using ht
   symm
   rw [←Bool.not_eq_true]
   intro hcc
   rw [List.contains_iff_exists_mem_beq] at hcc
   obtain ⟨y,hy,hxy⟩:=hcc
   obtain ⟨j,hj⟩:=List.mem_iff_getElem?.1 hy
   have:=z6 hj
   exact hlt j y om hj (show y=x0 from (eq_of_beq hxy).symm)
theorem heldTo_of (c:qZ) (a p:Int): ∀ {n i:Nat},i < n→zfS c a p i=true→zfG c a p n=true
 | n+1,i,hi,h=>by
  simp only [zfG]
  by_cases e:i=n
  ·subst e;simp [h]
  ·simp [heldTo_of c a p (n:=n) om h]
end Go.Rh

namespace Go.Rh
def inV (o:Option Nat) (k n:Nat):Value:=match o with
 | none=> .slice none 0 0
 | some cap=> .slice (some ⟨k,0,none⟩) n cap
def inB (o:Option Nat) (c:List Value):Blk:=match o with
 | none=> .gone
 | some _=> .cells c false
theorem hf_gone1:hf [Blk.gone]=hf []:=by
 funext k
 cases k with
 | zero=>rfl
 | succ k=>simp [hf]
theorem Env.nil {P:Program} {g:String} {args:List Value} {V:Value} (h:Env P g args [.gone] (Ans V [.gone])):Env P g args [] (Ans V []):=by
 intro f fn h1 h2 w φ args' H hl ha
 refine (h f fn h1 h2 w φ args' (by rw [hf_gone1];exact H) hl ha).mono ?_
 rintro e w' ⟨v,v',h',φ',e1,⟨e2,rfl⟩,e3,e4,e5⟩
 refine ⟨v,v',[],φ',e1,⟨e2,rfl⟩,e3,by rw [←hf_gone1];exact e4,e5.size,fun b hb hk=>e5.keep b hb fun k blk o hq hrw=>?_,e5.os,e5.tape,e5.output,e5.le,e5.new,Nat.le_refl _,fun k b b' q=>by simp at q⟩
 cases k with
 | zero=>simp at hq;subst hq;intro he;have:=H.nil 0 (zcA (by simp));rw [this] at he;cases he
 | succ k=>simp at hq
theorem callIn {P:Program} {g:String} {o:Option Nat} {n:Nat} {c rest vals:List Value} {V:Value} {K:zen} {h:List Blk} (k:Nat) (hC:Env P g (inV o 0 n::rest) [inB o c] (Ans V [inB o c])) (hk:h[k]? =some (inB o c)) (hc:c.all zbG=true) (hr:rest.all vpf=true) (hv:vals=inV o k n::rest) (hV:vpf V=true) (hK:K V h):zeI (Env P) false g vals K h:=by
 subst hv
 cases o with
 | none=>
  exact ⟨[],[],_,V,Env.nil hC,rfl,fun n=>za8 fun v hm=>qN (List.all_eq_true.1 (show (inV none 0 _::rest).all vpf=true by simp only [List.all_cons,hr];rfl) v hm),by simp,by simp,fun q=>(by cases q),hV,hK⟩
 | some cap=>
  refine zfb (a1:=inV (some cap) 0 n::rest) [k] [c] hC rfl (fun m=>?_) ⟨⟨false,hk⟩,hc,trivial⟩ hV hK
  simp only [List.map_cons]
  rw [za8 fun v hm=>qN (List.all_eq_true.1 hr v hm)]
  rfl
theorem run_lenIn {d:Option Nat} {x:Opd} {L:List (Nat×Value)} {hp:List Blk} {k n:Nat} {o:Option Nat} (hx:evf (reg L) x=inV o k n) (ho:o=none→n=0):zdb [⟨d,.lenS x,none⟩] ⟨reg L,hp⟩=some ⟨zau (reg L) d (.int .i64 (n:Nat)),hp⟩:=by
 refine zaU (e:= .no) rfl rfl ?_
 cases o with
 | none=>simp [z8,hx,inV,ho rfl]
 | some m=>simp [z8,hx,inV]
theorem zdk (o:Option Nat) {c:List Value} (hc:c.all zbG=true):zhR (inB o c)=true:=by
 cases o with
 | none=>rfl
 | some _=>exact hc
theorem zgO {ρ:Nat→Nat} (o:Option Nat) {c:List Value} (hc:c.all zbG=true):some (inB o c)=some (zbx ρ (inB o c)):=by
 cases o with
 | none=>rfl
 | some _=>exact zL hc
theorem zgd {sel:List Nat} {n m k:Nat} (o:Option Nat) (h:rho sel n k=k):zaF (rho sel n) (inV o k m)=inV o k m:=by
 cases o with
 | none=>rfl
 | some c=>simp [inV,zaF,zeY,zew,renA,h]
theorem ii_r {l:List Int} {i:Nat} {x:Int} {o:Nat} (ho:o=i) (h:l[i]? =some x):zaP none (ii l) o=some (iv x):=by
 subst ho;simp [zaP,ii,h]
theorem zeh {α:Type} {l:List α} {i:Nat} (h:i < l.length): ∃x,l[i]? =some x∧l.drop i=x::l.drop (i+1)∧l.take (i+1)=l.take i++ [x]:=
 ⟨l[i],by simp [h],List.drop_eq_getElem_cons h,by rw [List.take_add_one];simp [h]⟩
theorem hf_in {h:List Blk} {k n:Nat} {o:Option Nat} {c:List Value} (hk:h[k]? =some (inB o c)) (ho:o=none→n=0) (hn:0 < n):hf h k=some (.cells c false):=by
 cases o with
 | none=>have:=ho rfl;omega
 | some m=>exact zah.2 ⟨hk,by simp⟩
theorem zil {d:Option Nat} {size:Nat} {x i:Opd} {L:List (Nat×Value)} {hp:List Blk} {k o' n':Nat} {o:Option Nat} {ik:IntKind} {n:Int} (hx:evf (reg L) x=inV o k n') (ho:o=none→n'=0) (hi:evf (reg L) i= .int ik n) (hn:0≤n∧n < n') (he:n.toNat*size=o'):zdb [⟨d,.iadS size x i,none⟩] ⟨reg L,hp⟩=some ⟨zau (reg L) d (.pointer (some ⟨k,o',none⟩)),hp⟩:=by
 subst he
 cases o with
 | none=>have:=ho rfl;omega
 | some m=>exact zaU (e:= .no) rfl rfl (by simp [z8,hx,inV,hi,hn])
end Go.Rh

namespace Go.Rh
structure GC (C:zag) (B:Nat) (c:IC) (Q:IExit→St→Prop) (s:St):Prop where
  out:wpC C B c Q s
structure GO (C:zag) (l:List ICell) (K:St→Prop) (s:St):Prop where
  out:zbv C l K s
structure GE (C:zag) (pu:List String) (l:List ICell) (K:St→Prop) (s:St):Prop where
  out:wpR C pu l K s
section
variable {C:zag} {B:Nat} {Q:IExit→St→Prop} {K:St→Prop} {s:St} {L:List (Nat×Value)} {h:List Blk} {pu:List String}
theorem zJ {a b:IC} (hg:GC C B a (fun ex s'=>match ex with | .normal=> ∃s0,Wk B s' s0∧GC C B b Q s0 | ex=>Q ex s') s):GC C B (.seq a b) Q s:=
 ⟨zbV (c:=a) (fun ex s hs=>by
  cases ex with
  | normal=>obtain ⟨s0,h1,h2⟩:=hs;exact ⟨s0,h1,h2.out⟩
  | exit i=>exact hs
  | goto i=>exact hs
  | ret=>exact hs) hg.out⟩
theorem qJ {c:Opd} {a b:IC} {t:Bool} (hc:evf s.f c= .bool t) (h1:t=true→GC C B a Q s) (h2:t=false→GC C B b Q s):GC C B (.cond c a b) Q s:=
 ⟨zb3 hc (fun e=>(h1 e).out) (fun e=>(h2 e).out)⟩
theorem zc8 {c:Opd} {a b:IC} (hc:evf s.f c= .bool true) (h1:GC C B a Q s):GC C B (.cond c a b) Q s:=⟨wpC_true hc h1.out⟩
theorem zbc {c:Opd} {a b:IC} (hc:evf s.f c= .bool false) (h1:GC C B b Q s):GC C B (.cond c a b) Q s:=⟨wpC_false hc h1.out⟩
theorem qU {id:Nat} {b:IC} (hg:GC C B b (fun ex s'=>match ex with | .exit i=>if i=id then Q .normal s' else Q (.exit i) s' | ex=>Q ex s') s):GC C B (.block id b) Q s:=⟨zhY hg.out⟩
theorem qK (hg:Q .normal s):GC C B .skip Q s:=⟨hg⟩
theorem zb1 {id:Nat} (hg:Q (.exit id) s):GC C B (.exit id) Q s:=⟨hg⟩
theorem qW (hg:Q .ret s):GC C B .ret Q s:=⟨hg⟩
theorem zN {ops:List ICell} (hg:GO C ops (Q .normal) s):GC C B (.reg ops) Q s:=⟨hg.out⟩
theorem zbe (pu:List String) {ops:List ICell} {anc:List (List Nat)} (hg:GE C pu ops (Q .normal) s) (hok:okD pu ops anc=true:=by kernel_rfl):GC C B (.dreg ops anc) Q s:=⟨wpC_dreg pu hok hg.out⟩
theorem gdregK {anc:List (List Nat)} {ops:List ICell} (l:List (Nat×Value)) (h':List Blk) (hr:(runD (unA anc) (zbI 0 h.length ops) [] ⟨reg L,h++List.replicate (zar ops) .gone⟩).map (·.2)=some ⟨reg (l++L),h'⟩) (hk:Q .normal ⟨reg (l++L),h'⟩):GC C B (.dreg ops anc) Q ⟨reg L,h⟩:=⟨wpC_dregK l h' hr hk⟩
theorem glabel {l:Nat} (hg:Q .normal s):GC C B (.label l) Q s:=⟨hg⟩
theorem ggoto {l:Nat} (hg:Q (.goto l) s):GC C B (.goto l) Q s:=⟨hg⟩
theorem gscp {l:Nat} {r b:IC} (I:Nat→St→Prop) (h1:GC C B b (fun ex s'=>match ex with | .goto i=>if i=l then∃m s0,Wk B s' s0∧I m s0 else Q (.goto i) s' | ex=>Q ex s') s)
  (h2: ∀n s,I n s→GC C B r (fun ex s'=>match ex with | .goto i=>if i=l then∃m s0,m < n∧Wk B s' s0∧I m s0 else Q (.goto i) s' | ex=>Q ex s') s):GC C B (.scp l r b) Q s:=
 ⟨⟨I,h1.out,fun n s hI=>(h2 n s hI).out⟩⟩
theorem zcs {b:IC} (I:Nat→St→Prop) (h1: ∃n s0,Wk B s s0∧I n s0) (h2: ∀n s,I n s→GC C B b (fun ex s'=>match ex with | .normal=> ∃m s0,m < n∧Wk B s' s0∧I m s0 | ex=>Q ex s') s):GC C B (.loop b) Q s:=
 ⟨⟨I,h1,fun n s hI=>(h2 n s hI).out⟩⟩
theorem zE (hk:K s):GO C [] K s:=⟨hk⟩
theorem o_d {ops:List ICell} (n:Nat) (l:List (Nat×Value)) (hk:GO C (ops.drop n) K ⟨reg (l++L),h⟩) (hr:zdb (ops.take n) ⟨reg L,h⟩=some ⟨reg (l++L),h⟩:=by kernel_rfl):GO C ops K ⟨reg L,h⟩:=⟨za1 n hr hk.out⟩
theorem o_b {ops:List ICell} (n:Nat) (l:List (Nat×Value)) (h':List Blk) (hk:GO C (ops.drop n) K ⟨reg (l++L),h'⟩) (hr:zdb (ops.take n) ⟨reg L,h⟩=some ⟨reg (l++L),h'⟩:=by kernel_rfl):GO C ops K ⟨reg L,h⟩:=⟨za1 n hr hk.out⟩
theorem o_s {op:IOp} {ops:List ICell} {h':List Blk} {d:Nat} {v:Value} (hr:zdb [⟨some d,op,none⟩] ⟨reg L,h⟩=some ⟨zau (reg L) (some d) v,h'⟩) (hk:GO C ops K ⟨reg ((d,v)::L),h'⟩):GO C (⟨some d,op,none⟩::ops) K ⟨reg L,h⟩:=⟨zeN (l:= [_]) hr hk.out⟩
theorem zdj {op:IOp} {ops:List ICell} {h':List Blk} {v:Value} (hr:zdb [⟨none,op,none⟩] ⟨reg L,h⟩=some ⟨zau (reg L) none v,h'⟩) (hk:GO C ops K ⟨reg L,h'⟩):GO C (⟨none,op,none⟩::ops) K ⟨reg L,h⟩:=⟨zeN (l:= [_]) hr hk.out⟩
theorem zbJ {l:List ICell} {b:Bool} (g:Nat) (hg:reg L g= .bool b) (h1:b=true→GO C l K ⟨reg ((g,bv true)::L),h⟩) (h2:b=false→GO C l K ⟨reg ((g,bv false)::L),h⟩):GO C l K ⟨reg L,h⟩:=⟨zaB g hg (fun e=>(h1 e).out) (fun e=>(h2 e).out)⟩
theorem qB {d:Option Nat} {op:IOp} {g:Nat} {b:Bool} {r:List ICell} (hg:reg L g= .bool b) (hk:GO C (⟨d,op,none⟩::r) K ⟨reg L,h⟩):GO C (⟨d,op,some (g,b)⟩::r) K ⟨reg L,h⟩:=⟨zdf hg hk.out⟩
theorem CallK_imp {g:Fnm} {vals:List Value} {K K':zen} {h:List Blk} (hk: ∀v h,K v h→K' v h) (hc:zdA C g vals K h):zdA C g vals K' h:=by
 obtain ⟨sel,h1,a1,R,e1,e2,e3,e4,e5,e6⟩:=hc
 exact ⟨sel,h1,a1,R,e1,e2,e3,e4,e5,fun v h1' q1 q2 q3=>⟨(e6 v h1' q1 q2 q3).1,hk _ _ (e6 v h1' q1 q2 q3).2⟩⟩
theorem CallRO_imp {pu:Bool} {g:String} {vals:List Value} {K K':zen} {h:List Blk} (hk: ∀v h,K v h→K' v h) (hc:zeI C pu g vals K h):zeI C pu g vals K' h:=by
 obtain ⟨sel,h1,a1,V,e1,e2,e3,e4,e5,e6,e7,e8⟩:=hc
 exact ⟨sel,h1,a1,V,e1,e2,e3,e4,e5,e6,e7,hk _ _ e8⟩
theorem qV {d:Nat} {g:String} {args:List Opd} {r:List ICell} (hc:zdA C g (args.map (evf (reg L))) (fun v h=>GO C r K ⟨reg ((d,v)::L),h⟩) h):GO C (⟨some d,.call g args,none⟩::r) K ⟨reg L,h⟩:=⟨wpOps_cl (CallK_imp (fun v h q=>q.out) hc)⟩
theorem o_clv {d g:Nat} {x:Opd} {cs vals:List Value} {args:List Opd} {r:List ICell} (hx:evf (reg L) x= .func (.func g) #[] cs.toArray) (hv:args.map (evf (reg L))++cs=vals) (hc:zdA C (.no g) vals (fun v h=>GO C r K ⟨reg ((d,v)::L),h⟩) h):
  GO C (⟨some d,.callv x args,none⟩::r) K ⟨reg L,h⟩:=by
 refine ⟨?_⟩
 show (match evf (reg L) x with
  | .func (.func g) _ caps=>zdA C (.no g) (args.map (evf (reg L))++caps.toList) (fun v h=>zbv C r K ⟨reg ((d,v)::L),h⟩) h
  | _=>False)
 rw [hx]
 simp only
 rw [hv]
 exact CallK_imp (fun v h q=>q.out) hc
theorem zef {d:Nat} {z:RL} {zl:List Value} {size bytes q:Nat} {s x:Opd} {r:List ICell} {k n:Nat} {o:Option Nat} {cs xs cs2:List Value} {vx:Value}
  (hz:zaE z=zl) (hzl:zl.length=size) (hs:evf (reg L) s=slV k n o) (hk: ∀m,o=some m→hf h k=some (.cells (cs++zaj zl m) true)) (ho:o=none→n=0∧cs= []) (hcs:cs.length=n*size)
  (hx:evf (reg L) x=vx) (hq:zi6 vx=some q) (hf1:first (hf h) size q vx=some xs) (hxl:xs.length=q*size) (hq0:0 < q) (hb:2*(n+q)*bytes≤2^48) (hc:cs++xs=cs2)
  (h1: ∀m,o=some (q+m)→GO C r K ⟨reg ((d,sv k 0 (n+q) (n+q+m))::L),h.set k (cw (cs2++zaj zl m))⟩)
  (h2: ∀m,GO C r K ⟨reg ((d,sv h.length 0 (n+q) (n+q+m))::L),h++ [cw (cs2++zaj zl m)]⟩):GO C (⟨some d,.app z size bytes s x,none⟩::r) K ⟨reg L,h⟩:=
 ⟨wpOps_appC hz hzl hs hk ho hcs hx hq hf1 hxl hq0 hb hc (fun m e=>(h1 m e).out) (fun m=>(h2 m).out)⟩
theorem za3 (hk:K s):GE C pu [] K s:=⟨hk⟩
theorem r_d {ops:List ICell} (n:Nat) (l:List (Nat×Value)) (hk:GE C pu (ops.drop n) K ⟨reg (l++L),h⟩) (hr:zdb (ops.take n) ⟨reg L,h⟩=some ⟨reg (l++L),h⟩:=by kernel_rfl):GE C pu ops K ⟨reg L,h⟩:=⟨wpR_n n hr hk.out⟩
theorem r_b {ops:List ICell} (n:Nat) (l:List (Nat×Value)) (h':List Blk) (hk:GE C pu (ops.drop n) K ⟨reg (l++L),h'⟩) (hr:zdb (ops.take n) ⟨reg L,h⟩=some ⟨reg (l++L),h'⟩:=by kernel_rfl):GE C pu ops K ⟨reg L,h⟩:=⟨wpR_n n hr hk.out⟩
theorem r_s {op:IOp} {ops:List ICell} {h':List Blk} {d:Nat} {v:Value} (hr:zdb [⟨some d,op,none⟩] ⟨reg L,h⟩=some ⟨zau (reg L) (some d) v,h'⟩) (hk:GE C pu ops K ⟨reg ((d,v)::L),h'⟩):GE C pu (⟨some d,op,none⟩::ops) K ⟨reg L,h⟩:=⟨wpR_run (l:= [_]) hr hk.out⟩
theorem r_s0 {op:IOp} {ops:List ICell} {h':List Blk} {v:Value} (hr:zdb [⟨none,op,none⟩] ⟨reg L,h⟩=some ⟨zau (reg L) none v,h'⟩) (hk:GE C pu ops K ⟨reg L,h'⟩):GE C pu (⟨none,op,none⟩::ops) K ⟨reg L,h⟩:=⟨wpR_run (l:= [_]) hr hk.out⟩
theorem r_sp {l:List ICell} {b:Bool} (g:Nat) (hg:reg L g= .bool b) (h1:b=true→GE C pu l K ⟨reg ((g,bv true)::L),h⟩) (h2:b=false→GE C pu l K ⟨reg ((g,bv false)::L),h⟩):GE C pu l K ⟨reg L,h⟩:=⟨wpR_split g hg (fun e=>(h1 e).out) (fun e=>(h2 e).out)⟩
theorem zd9 {d:Option Nat} {op:IOp} {g:Nat} {b:Bool} {r:List ICell} (hg:reg L g= .bool b) (hk:GE C pu (⟨d,op,none⟩::r) K ⟨reg L,h⟩):GE C pu (⟨d,op,some (g,b)⟩::r) K ⟨reg L,h⟩:=⟨wpR_unguard hg hk.out⟩
theorem zeJ {d:Nat} {g:String} {args:List Opd} {r:List ICell} (hc:zeI C (pu.any fun x=>x==g) g (args.map (evf (reg L))) (fun v h=>GE C pu r K ⟨reg ((d,v)::L),h⟩) h):GE C pu (⟨some d,.call g args,none⟩::r) K ⟨reg L,h⟩:=⟨wpR_cl (CallRO_imp (fun v h q=>q.out) hc)⟩
end
structure GD (C:zag) (un:Nat→Nat→Bool) (i nid:Nat) (ops:List ICell) (log:List Foot) (K:St→Prop) (s:St):Prop where
  out:wpD C un (zbI i nid ops) log K s
theorem zi3: ∀(n:Nat) (ops:List ICell) (i nid:Nat),zbI i nid ops=zbI i nid (ops.take n)++zbI (i+(ops.take n).length) (nid+zar (ops.take n)) (ops.drop n)
 | 0,ops,i,nid=>by simp [zbI,zar]
 | n+1,[],i,nid=>by simp [zbI,zar]
 | n+1,c::r,i,nid=>by
  simp only [List.take_succ_cons,List.drop_succ_cons,zbI,List.cons_append,List.length_cons,zar]
  rw [zi3 n r (i+1)]
  congr 2
  cases c.op.makes<;>simp<;>congr 1<;>omega
section
variable {C:zag} {un:Nat→Nat→Bool} {K:St→Prop} {L:List (Nat×Value)} {h:List Blk} {i nid:Nat} {log:List Foot}
theorem d_n {ops:List ICell} (n i' nid':Nat) (l:List (Nat×Value)) (h':List Blk) (log':List Foot) (hr:runD un (zbI i nid (ops.take n)) log ⟨reg L,h⟩=some (log',⟨reg (l++L),h'⟩)) (hi:i+(ops.take n).length=i') (hn:nid+zar (ops.take n)=nid') (hk:GD C un i' nid' (ops.drop n) log' K ⟨reg (l++L),h'⟩):GD C un i nid ops log K ⟨reg L,h⟩:=by
 subst hi;subst hn
 refine ⟨?_⟩
 rw [zi3 n ops]
 exact wpD_run hr hk.out
theorem zgp {s:St} (hk:K s):GD C un i nid [] log K s:=⟨hk⟩
theorem run1_inv {c:ICell} {s s':St} (hg:c.guard=none) (hsp:qQ c.op=0) (h:zdb [c] s=some s'): ∃v e,z8 c.op (evf s.f) (hf s.h) s.h.length=some (v,e)∧s'=⟨zau s.f c.dst v,e.on s.h⟩:=by
 obtain ⟨d,op,g⟩:=c
 simp only at hg hsp;subst hg
 simp only [zdb,run1,gJ,zbS,hsp] at h
 cases hs:z8 op (evf s.f) (hf s.h) s.h.length with
 | none=>simp [hs] at h
 | some q=>obtain ⟨v,e⟩:=q;simp [hs] at h;exact ⟨v,e,rfl,h.symm⟩
theorem d_step {d:Option Nat} {op:IOp} {r:List ICell} {s s':St} {log':List Foot} (w:List Nat) (hsp:qQ op=0) (hm:op.makes=false) (hw:op.writes=false∧w= []∨∃m x y,op= .st m x y∧w=rdE op (evf s.f))
  (hr:zdb [⟨d,op,none⟩] s=some s') (hfit:zhD un ⟨i,rdE op (evf s.f),w,none⟩ log=true) (hl:zeq ⟨i,rdE op (evf s.f),w,none⟩ log=log') (hk:GD C un (i+1) nid r log' K s'):GD C un i nid (⟨d,op,none⟩::r) log K s:=by
 subst hl
 obtain ⟨v,e,hs,rfl⟩:=run1_inv rfl hsp hr
 refine ⟨?_⟩
 show zaW C un ⟨i,nid,d,op,none⟩ log (fun log' s'=>wpD C un (zbI (i+1) (if op.makes then nid+1 else nid) r) log' K s') s
 have hk:=hk.out
 simp only [hm,if_false,Bool.false_eq_true]
 refine (zcx (fun _=>hsp)).2 ?_
 have hs:z8 op (evf s.f) (hf s.h) nid=some (v,e):=by rw [zia (n:=nid) (n':=s.h.length) hm];exact hs
 rcases zf7 hs with ⟨hm',_⟩ | ⟨_,rfl | ⟨hwr,k,b,rfl⟩⟩
 ·rw [hm] at hm';cases hm'
 ·rcases hw with ⟨hw,rfl⟩ | ⟨m,x,y,rfl,rfl⟩
  ·refine ⟨⟨i,rdE op (evf s.f),[],none⟩,⟨zau s.f d v,s.h⟩, ?_,zcp hfit,hk⟩
   simp [zhb,gJ,zbS,zfP hsp,hs]
  ·simp only [z8] at hs
   split at hs<;>cases hs
   rename_i hf
   unfold stV at hf
   (repeat' (split at hf))<;>cases hf
 ·rcases hw with ⟨hw,rfl⟩ | ⟨m,x,y,rfl,rfl⟩
  ·rw [hw] at hwr;cases hwr
  ·have hkr:rdE (.st m x y) (evf s.f)= [k]:=by
    have:=zdF hs
    simp only [z8] at hs
    split at hs<;>cases hs
    rename_i hf
    unfold stV at hf
    split at hf<;>try cases hf
    rename_i hx
    simp [rdE,IOp.rdl,hx,zbC] at this ⊢
    exact this.symm
   rw [hkr] at hfit hk
   refine ⟨⟨i,rdE (.st m x y) (evf s.f),[k],none⟩,⟨zau s.f d v,s.h.set k b⟩, ?_, ?_, ?_⟩
   ·simp [zhb,gJ,zbS,zfP hsp,hs]
   ·rw [hkr];exact zcp hfit
   ·rw [hkr];exact hk
theorem d_s {op:IOp} {r:List ICell} {h':List Blk} {d:Nat} {v:Value} (hsp:qQ op=0) (hm:op.makes=false) (hw:op.writes=false) (hfit:zhD un ⟨i,rdE op (evf (reg L)),[],none⟩ log=true) (hr:zdb [⟨some d,op,none⟩] ⟨reg L,h⟩=some ⟨zau (reg L) (some d) v,h'⟩) (hk:GD C un (i+1) nid r (zeq ⟨i,rdE op (evf (reg L)),[],none⟩ log) K ⟨reg ((d,v)::L),h'⟩):GD C un i nid (⟨some d,op,none⟩::r) log K ⟨reg L,h⟩:=
 d_step [] hsp hm (.inl ⟨hw,rfl⟩) hr hfit rfl hk
theorem d_s0 {op:IOp} {r:List ICell} {h':List Blk} {v:Value} (hsp:qQ op=0) (hm:op.makes=false) (hw: ∃m x y,op= .st m x y) (hfit:zhD un ⟨i,rdE op (evf (reg L)),rdE op (evf (reg L)),none⟩ log=true) (hr:zdb [⟨none,op,none⟩] ⟨reg L,h⟩=some ⟨zau (reg L) none v,h'⟩) (hk:GD C un (i+1) nid r (zeq ⟨i,rdE op (evf (reg L)),rdE op (evf (reg L)),none⟩ log) K ⟨reg L,h'⟩):GD C un i nid (⟨none,op,none⟩::r) log K ⟨reg L,h⟩:=by
 obtain ⟨m,x,y,rfl⟩:=hw
 exact d_step _ hsp hm (.inr ⟨m,x,y,rfl,rfl⟩) hr hfit rfl hk
theorem d_cl {d:Nat} {g:String} {args:List Opd} {r:List ICell} (hc:zeI C true g (args.map (evf (reg L))) (fun v h=>GD C un (i+1) nid r (⟨i,[],[],some h.length⟩::log) K ⟨reg ((d,v)::L),h⟩) h) (hfit:zhD un ⟨i,[],[],some h.length⟩ log=true:=by kernel_rfl):GD C un i nid (⟨some d,.call g args,none⟩::r) log K ⟨reg L,h⟩:=by
 obtain ⟨sel,h1',a1,V,e1,e2,e3,e4,e5,e6,e7,e8⟩:=hc
 have hs:=e6 rfl;subst hs
 have:h1'= []:=List.eq_nil_of_length_eq_zero e2
 subst this
 refine ⟨⟨[],[],a1,_,e1,rfl,e3 _,by simp,by simp,zcp hfit,fun _=>⟨V,[],⟨rfl,rfl⟩,by simp,by simp [zeF]⟩, ?_⟩⟩
 rintro v h'' ⟨rfl,rfl⟩ _ _
 refine ⟨fun _ q=>q, ?_⟩
 rw [qN e7,zi1 rfl (by simp)]
 exact e8.out
theorem d_appC {d:Nat} {z:RL} {zl:List Value} {size bytes q:Nat} {s x:Opd} {r:List ICell} {k n:Nat} {o:Option Nat} {cs xs cs2:List Value} {vx:Value}
  (hz:zaE z=zl) (hzl:zl.length=size) (hs:evf (reg L) s=slV k n o) (hk: ∀m,o=some m→hf h k=some (.cells (cs++zaj zl m) true)) (ho:o=none→n=0∧cs= []) (hcs:cs.length=n*size)
  (hx:evf (reg L) x=vx) (hq:zi6 vx=some q) (hf1:first (hf h) size q vx=some xs) (hxl:xs.length=q*size) (hq0:0 < q) (hb:2*(n+q)*bytes≤2^48) (hc:cs++xs=cs2)
  (h1: ∀m,o=some (q+m)→GD C un (i+1) nid r log K ⟨reg ((d,sv k 0 (n+q) (n+q+m))::L),h.set k (cw (cs2++zaj zl m))⟩)
  (h2: ∀m,GD C un (i+1) nid r log K ⟨reg ((d,sv h.length 0 (n+q) (n+q+m))::L),h++ [cw (cs2++zaj zl m)]⟩):GD C un i nid (⟨some d,.app z size bytes s x,none⟩::r) log K ⟨reg L,h⟩:=by
 subst hc
 refine ⟨?_⟩
 exact app_k (C:=C) (K:=fun v h=>wpD C un (zbI (i+1) nid r) log K ⟨zau (reg L) (some d) v,h⟩) hz hzl ⟨rfl,hs⟩ hk ho hcs hx hq hf1 hxl hq0 hb (fun m e=>(h1 m e).out) (fun m=>(h2 m).out)
theorem zeE {B:Nat} {Q:IExit→St→Prop} {ops:List ICell} {anc:List (List Nat)} (h':List Blk) (hh:h++List.replicate (zar ops) .gone=h') (hg:GD C (unA anc) 0 h.length ops [] (Q .normal) ⟨reg L,h'⟩):GC C B (.dreg ops anc) Q ⟨reg L,h⟩:=by
 subst hh;exact ⟨hg.out⟩
theorem zf2 {B:Nat} {a b:IC} {Q:IExit→St→Prop} {s:St} (M:St→Prop) (h1:GC C B a (fun ex s'=>match ex with | .normal=> ∃s0,Wk B s' s0∧M s0 | ex=>Q ex s') s) (h2: ∀s,M s→GC C B b Q s):GC C B (.seq a b) Q s:=
 ⟨zbV (c:=a) (fun ex s hs=>by
  cases ex with
  | normal=>obtain ⟨s0,e1,e2⟩:=hs;exact ⟨s0,e1,(h2 s0 e2).out⟩
  | exit i=>exact hs
  | goto i=>exact hs
  | ret=>exact hs) h1.out⟩
end
theorem zbz {sel:List Nat} {n k k' m:Nat} (o:Option Nat) (h:rho sel n k=k'):zaF (rho sel n) (slV k m o)=slV k' m o:=by
 cases o with
 | none=>rfl
 | some c=>simp [slV,zaF,zeY,zew,renA,h]
theorem zaa {ρ:Nat→Nat} {z c:List Value} (o:Option Nat) (hc: ∀m,(c++zaj z m).all zbG=true):some (slB z c o)=some (zbx ρ (slB z c o)):=by
 cases o with
 | none=>rfl
 | some m=>exact zL (hc m)
theorem Env.by {P:Program} {g:String} {c:IFunc} {args:List Value} {h:List Blk} {R:zen} (hc:qE P g=some c)
  (hg:GC (Env P) h.length c.body (fun ex s=>(match ex with | .exit _=>False | .goto _=>False | _=>True)∧∃l,zf1 s c.res=some l∧(∀v∈l,zbt v=false)∧
  (R (one l) s.h∨(vpf (one l)=true∧(∀b∈s.h.take h.length,zhR b=true)∧R (one l) (s.h.take h.length)))) ⟨reg (argL 0 args),h⟩):Env P g args h R:=Env.of hc hg.out
theorem Env.byAt {P:Program} {n:Nat} {c:IFunc} {args:List Value} {h:List Blk} {R:zen} (hc:codeAt P n=some c)
  (hg:GC (Env P) h.length c.body (fun ex s=>(match ex with | .exit _=>False | .goto _=>False | _=>True)∧∃l,zf1 s c.res=some l∧(∀v∈l,zbt v=false)∧
  (R (one l) s.h∨(vpf (one l)=true∧(∀b∈s.h.take h.length,zhR b=true)∧R (one l) (s.h.take h.length)))) ⟨reg (argL 0 args),h⟩):Env P (.no n) args h R:=Env.at hc hg.out
end Go.Rh

namespace Go.Rh
open Go.RowKit
theorem rowAt_off {p:Program} {fits:TypeId→Bool} : ∀ {d:Nat} {e:TypeId} {count off n:Nat},rowAt p fits d e count off n=true→off≤count*p.cellsOf e
 | 0,_,_,_,_,h=>by simp [rowAt] at h
 | d+1,e,count,off,n,h=>by
  unfold rowAt at h
  simp only at h
  split at h
  ·cases h
  rename_i hs
  have hs:0 < p.cellsOf e:=om
  have hd:=Nat.div_add_mod off (p.cellsOf e)
  have hm:=Nat.mod_lt off hs
  simp only [Bool.or_eq_true,Bool.and_eq_true,beq_iff_eq,decide_eq_true_eq] at h
  rcases h with ⟨⟨h1,h2⟩,_⟩ | ⟨h1,_⟩
  ·have h3:p.cellsOf e*(off / p.cellsOf e)≤p.cellsOf e*count:=Nat.mul_le_mul_left _ om
   rw [Nat.mul_comm count];omega
  ·have h3:p.cellsOf e*(off / p.cellsOf e+1)≤p.cellsOf e*count:=Nat.mul_le_mul_left _ h1
   rw [Nat.mul_comm count]
   rw [Nat.mul_add,Nat.mul_one] at h3
   omega
theorem zjv {p:Program} : ∀ {d:Nat} {e:TypeId} {count off:Nat} {u:TypeId} {n:Nat},liesAt p d e count off u n=true→off≤count*p.cellsOf e
 | 0,_,_,_,_,_,h=>by simp [liesAt] at h
 | d+1,e,count,off,u,n,h=>by
  unfold liesAt at h
  simp only [Bool.or_eq_true] at h
  rcases h with h | h
  ·exact rowAt_off h
  ·split at h
   ·exact zjv h
   ·cases h
theorem okSlice_block {P:Program} {w:World} {r:Reach} {base:Nat} {t e:TypeId} {a:Addr} {len cap:Nat} (ht:P.underlying t=some (.slice e)) (h:Value.okWide P w r base t (.slice (some a) len cap)):
  a.spot=none∧∃c T fr,w.heap[a.block]? =some (.cells c T fr)∧a.off≤c.size:=by
 simp only [Value.okWide,ht,Cell.okWide,Cell.ok] at h
 obtain ⟨_,_,_,h1,row,cells,h2,h3⟩:=h
 refine ⟨h1, ?_⟩
 unfold World.shape? at h2
 split at h2<;>cases h2
 rename_i T fr hh
 refine ⟨_,_,_,hh, ?_⟩
 have:=zjv h3
 exact Nat.le_trans this (Nat.div_mul_le_self _ _)
structure RowAt (w:World) (a:Addr) (c:List Value):Prop where
  spot:a.spot=none
  at_: ∃c' T fr,w.heap[a.block]? =some (.cells c' T fr)∧a.off+c.length≤c'.size∧(c'.toList.drop a.off).take c.length=c
  scl:c.all zbG=true
theorem addr_add (a:Addr) (h:a.spot=none) (i:Nat):a.add i=⟨a.block,a.off+i,none⟩:=by
 obtain ⟨b,o,s⟩:=a
 simp only at h;subst h
 unfold Addr.add;split<;>simp_all
theorem RowAt.of {w:World} {a:Addr} {c:List Value} (h1:a.spot=none∧∃c T fr,w.heap[a.block]? =some (.cells c T fr)∧a.off≤c.size) (hc: ∀(i:Nat) v,c[i]? =some v→w.cell? (a.add i)=some v) (hs:c.all zbG=true):RowAt w a c:=by
 obtain ⟨hsp,c',T,fr,hh,ho⟩:=h1
 have hget: ∀(i:Nat) v,c[i]? =some v→c'[a.off+i]? =some v:=fun i v hv=>by
  have:=hc i v hv
  rw [addr_add a hsp] at this
  simp only [World.cell?,hh] at this
  simpa using this
 have hl:a.off+c.length≤c'.size:=by
  rcases Nat.eq_zero_or_pos c.length with h0 | h0
  ·omega
  ·have:c[c.length - 1]? =some (c[c.length - 1]'om):=by simp [show c.length - 1 < c.length by omega]
   have:=hget _ _ this
   have hlt:a.off+(c.length - 1) < c'.size:=by
    rcases Nat.lt_or_ge (a.off+(c.length - 1)) c'.size with h | h
    ·exact h
    ·rw [Array.getElem?_eq_none h] at this;cases this
   omega
 refine ⟨hsp,⟨c',T,fr,hh,hl, ?_⟩,hs⟩
 refine List.ext_getElem? fun i=>?_
 rw [List.getElem?_take]
 split
 ·rename_i hi
  rw [List.getElem?_drop]
  have:c[i]? =some c[i]:=by simp [hi]
  rw [this]
  have:=hget i _ this
  simpa using this
 ·rename_i hi
  rw [List.getElem?_eq_none om]
abbrev Rows:=List (Option (Addr×List Value))
def Rows.phi (r:Rows):Phi:=fun k=>match r[k]? with
 | some (some (a,_))=>some (a.block,a.off)
 | _=>none
def Rows.blks (r:Rows):List Blk:=r.map fun | some (_,c)=> .cells c false | none=> .gone
theorem Rows.hr {r:Rows} {w:World} (h: ∀a c,some (a,c)∈r→RowAt w a c):HR r.phi (hf r.blks) w:=by
 have hget: ∀ {k:Nat} {b:Blk},hf r.blks k=some b→∃a c,r[k]? =some (some (a,c))∧b= .cells c false:=fun {k b} e=>by
  obtain ⟨e1,e2⟩:=zah.1 e
  simp only [Rows.blks,List.getElem?_map,Option.map_eq_some_iff] at e1
  obtain ⟨x,e3,e4⟩:=e1
  cases x with
  | none=>exact absurd e4.symm e2
  | some y=>exact ⟨y.1,y.2,e3,e4.symm⟩
 refine ⟨fun k b hk=>?_,fun k hk=>?_,fun k k' b rb ro rb' ro' _ hk hrw=>?_⟩
 ·obtain ⟨a,c,e1,rfl⟩:=hget hk
  have R:=h a c (List.mem_of_getElem? e1)
  obtain ⟨c',T,fr,h1,h2,h3⟩:=R.at_
  refine ⟨a.block,a.off,by simp [Rows.phi,e1],c',T,fr,h1,h2, ?_,fun q=>by cases q⟩
  rw [h3]
  exact Each.refl_of fun v hv=>SR.of_sclf (List.all_eq_true.1 R.scl v hv)
 ·unfold Rows.phi
  split
  ·rename_i a c e1
   have:r.blks[k]? =some (.cells c false):=by simp [Rows.blks,e1]
   rw [zah.2 ⟨this,by simp⟩] at hk;cases hk
  ·rfl
 ·obtain ⟨a,c,_,rfl⟩:=hget hk
  cases hrw
def VRL (φ:Phi):List Value→List Value→Prop
 | a::l,b::m=>VR φ a b∧VRL φ l m
 | [],[]=>True
 | _,_=>False
theorem VRL.get {φ:Phi} : ∀ {l m:List Value},VRL φ l m→l.length=m.length∧∀(i:Nat) v v',l[i]? =some v→m[i]? =some v'→VR φ v v'
 | [],[],_=>⟨rfl,by simp⟩
 | a::l,b::m,h=>by
  obtain ⟨h1,h2⟩:=VRL.get h.2
  refine ⟨by simp [h1],fun i v v' e1 e2=>?_⟩
  cases i with
  | zero=>simp at e1 e2;subst e1;subst e2;exact h.1
  | succ i=>exact h2 i v v' (by simpa using e1) (by simpa using e2)
 | [],_::_,h=>h.elim
 | _::_,[],h=>h.elim
theorem Env.law {P:Program} {g:String} {f:FuncId} {fn:Func} (hf':P.funcs[f]? =some fn) (hn:fn.name=g) {args:List Value} {r:Rows} {w:World} {args':Array Value}
  (hC:Env P g args r.blks (Ans (.bool true) r.blks)) (hr: ∀a c,some (a,c)∈r→RowAt w a c) (ha:VRL r.phi args args'.toList):
  Calls P f args' w fun e w'=>e= .returned (.bool true)∧Below w.heap.size w w':=by
 obtain ⟨h1,h2⟩:=ha.get
 refine (hC f fn hf' hn w r.phi args' (Rows.hr hr) (by simpa using h1) (fun i v v' e1 e2=>h2 i v v' e1 (by simpa using e2))).mono ?_
 rintro e w' ⟨v,v',h',φ',e1,⟨e2,e3⟩,e4,e5,e6⟩
 subst e1;subst e2;subst e3
 refine ⟨?_,e6.os,e6.tape,e6.output,e6.size,fun b hb=>e6.keep b hb fun k blk o hk hrw=>?_⟩
 ·have:v'= .bool true:=by simpa [VR,GR,SR,zbG] using e4
  rw [this]
 ·simp only [Rows.blks,List.getElem?_map,Option.map_eq_some_iff] at hk
  obtain ⟨x,_,hx⟩:=hk
  cases x with
  | none=>subst hx;intro q;have:=(Rows.hr hr).nil k (zcB (by simp_all [Rows.blks]));rw [this] at q;cases q
  | some y=>subst hx;cases hrw
theorem VR.pl {φ:Phi} {v:Value} (h:vpf v=true):VR φ v v:=VR.of_vpf h
theorem VR.in_ {r:Rows} {k n cap:Nat} {a:Addr} {c:List Value} (h:r[k]? =some (some (a,c))) (hs:a.spot=none):VR r.phi (inV (some cap) k n) (.slice (some a) n cap):=by
 refine ⟨a,rfl,rfl,a.block,a.off,by simp [Rows.phi,h], ?_⟩
 obtain ⟨b,o,s⟩:=a
 simp only at hs;subst hs;rfl
end Go.Rh

namespace Go.Rh
section
variable {C:zag} {un:Nat→Nat→Bool} {K:St→Prop} {L:List (Nat×Value)} {h:List Blk} {i nid:Nat} {log:List Foot}
end
end Go.Rh

namespace Go.Rh
section
variable {P:Program} {C:zag}
def wpF2 (C:zag) (c:IFunc) (args:List Value) (h:List Blk) (R:zen):Prop:=
 wpC C h.length c.body (fun ex s=>(match ex with | .exit _=>False | .goto _=>False | _=>True)∧∃s0,Wk h.length s s0∧∃l,zf1 s0 c.res=some l∧(∀v∈l,zbt v=false)∧R (one l) s0.h) ⟨reg (argL 0 args),h⟩
theorem wpF2_sound (hC:zhE P C) {f:FuncId} {fn:Func} {c:IFunc} {args:List Value} {h:List Blk} {R:zen} (hf':P.funcs[f]? =some fn) (hc:cFunc P fn=some c) (hwp:wpF2 C c args h R):zjX P f args h R:=by
 unfold cFunc at hc
 split at hc<;>try cases hc
 rename_i body res hb hres
 split at hc<;>cases hc
 rename_i hwf
 intro w φ args' H hl hargs
 refine calls_of_wp hf' hb (wp_mono (zbN (n:=fn.ntmps) (h0:=h) (w0:=w) (φ0:=φ) hC H body _ _ w hwf ⟨φ,_,hwp, ?_⟩) ?_)
 ·refine ⟨by simp;omega,fun t=>?_,rfl,H,FrC.refl _ _ _⟩
  simp only [Array.getD_eq_getD_getElem?]
  rcases zhS args 0 t with h1 | ⟨v,h0,h1,h2⟩
  ·rw [h1];exact VR.junk
  ·have ht:=z6 h1
   have h3:args'[t]? =some (args'[t]'om):=by simp [show t < args'.size by omega]
   rw [Array.getElem?_append_left om,h2,h3]
   exact hargs t _ _ (by simpa using h1) h3
 ·intro e a' w' he
  have fin:Sim fn.ntmps φ h w (fun s=> ∃s0,Wk h.length s s0∧∃l,zf1 s0 res=some l∧(∀v∈l,zbt v=false)∧R (one l) s0.h) a' w'→
    a'.defers= []∧∃v,(results fn a'.tmps).run P w'= .ok v w'∧∃v0 v' h' φ',(Ending.returned v:Ending)= .returned v'∧R v0 h'∧VR φ' v0 v'∧HR φ' (hf h') w'∧FrC φ h w φ' h' w':=by
   intro hS
   obtain ⟨φ1,s,⟨l,hl1,hl2,hR⟩,I⟩:=Sim.weak H hS
   obtain ⟨l',hr,hE⟩:=zdu I hres hl1
   refine ⟨I.defers,if h:l'.toArray.size=1 then l'.toArray[0] else .tuple l'.toArray, ?_, ?_⟩
   ·rw [zgN]
    simp [Array.mapM_eq_mapM_toList,hr]
   ·have hV:VR φ1 (one l) (if h:l'.toArray.size=1 then l'.toArray[0] else .tuple l'.toArray):=by
     have hlen:=hE.1
     unfold one
     split
     ·rename_i v
      match l',hE with
      | [v'],hE=>simpa using hE.2 0 v v' rfl rfl
      | [],hE=>simp at hlen
      | _::_::_,hE=>simp at hlen
     ·rename_i hne
      have: ¬l'.toArray.size=1:=by
       intro h1
       have h2:l.length=1:=by rw [hlen];simpa using h1
       match l,h2 with
       | [v],_=>exact hne v rfl
      rw [dif_neg this]
      exact ⟨l'.toArray,rfl,by simpa using hE.mono2 fun v v' hv hr=>GR.of_VR (hl2 v hv) hr⟩
    exact ⟨_,_,_,φ1,rfl,hR,hV,I.heap,I.fr⟩
  cases e with
  | normal=>exact fin (he.mono fun s h=>h.2)
  | ret=>exact fin (he.mono fun s h=>h.2)
  | exit id=>obtain ⟨_,_,⟨h,_⟩,_⟩:=he;exact h.elim
  | goto l=>obtain ⟨_,_,⟨h,_⟩,_⟩:=he;exact h.elim
  | _=>exact he.elim
theorem Env.of2 {P:Program} {g:String} {c:IFunc} {args:List Value} {h:List Blk} {R:zen} (hc:qE P g=some c) (hwp:wpF2 (Env P) c args h R):Env P g args h R:=by
 intro f fn hf hn
 unfold qE at hc
 split at hc<;>try cases hc
 rename_i fn' hfl
 have hm:fn∈P.funcs.toList.filter (·.name==g):=List.mem_filter.2 ⟨by
  have:=Array.mem_of_getElem? hf
  simpa using this,by simpa using hn⟩
 rw [hfl] at hm
 have:fn=fn':=by simpa using hm
 subst this
 exact wpF2_sound (Env.sound P) hf hc hwp
end
theorem Env.by2 {P:Program} {g:String} {c:IFunc} {args:List Value} {h:List Blk} {R:zen} (hc:qE P g=some c)
  (hg:GC (Env P) h.length c.body (fun ex s=>(match ex with | .exit _=>False | .goto _=>False | _=>True)∧∃s0,Wk h.length s s0∧∃l,zf1 s0 c.res=some l∧(∀v∈l,zbt v=false)∧R (one l) s0.h) ⟨reg (argL 0 args),h⟩):Env P g args h R:=Env.of2 hc hg.out
end Go.Rh

namespace Go.Rh
theorem zcQ {m:Option Nat} {a b:List Value} {o:Nat} {v:Value} (h:zaP m a o=some v):zaP m (a++b) o=some v:=by
 cases m with
 | none=>
  simp only [zaP] at h ⊢
  have:=z6 h
  rw [List.getElem?_append_left this];exact h
 | some m=>
  simp only [zaP] at h ⊢
  split at h
  ·rename_i hl
   rw [if_pos (by simp;omega)]
   rw [←h,List.drop_append_of_le_length om,List.take_append_of_le_length (by simp;omega)]
  ·cases h
theorem partL_r {m:Option Nat} {a b:List Value} {n o:Nat} (ha:a.length=n):zaP m (a++b) (n+o)=zaP m b o:=by
 subst ha
 cases m with
 | none=>simp only [zaP];rw [List.getElem?_append_right om];congr 1;omega
 | some m=>
  simp only [zaP,List.length_append]
  by_cases hl:o+m≤b.length
  ·rw [if_pos om,if_pos hl,List.drop_append,List.drop_eq_nil_of_le om,show a.length+o - a.length=o by omega,List.nil_append]
  ·rw [if_neg om,if_neg hl]
theorem zes {a b vs:List Value} {o:Nat} (h:o+vs.length≤a.length):splice (a++b) o vs=splice a o vs++b:=by
 unfold splice
 rw [List.take_append_of_le_length om,List.drop_append_of_le_length om]
 simp
theorem zdg {a b vs:List Value} {n o:Nat} (ha:a.length=n):splice (a++b) (n+o) vs=a++splice b o vs:=by
 subst ha
 unfold splice
 rw [List.take_append,List.drop_append,List.take_of_length_le om,List.drop_eq_nil_of_le om,show a.length+o - a.length=o by omega,show a.length+o+vs.length - a.length=o+vs.length by omega]
 simp
theorem z5: ∀v∈([]:List Value),zbt v=false:=by simp
theorem zM {a:Value} {l:List Value} (h1:zbt a=false) (h2: ∀v∈l,zbt v=false): ∀v∈a::l,zbt v=false:=List.forall_mem_cons.2 ⟨h1,h2⟩
def seenL (ρ:Nat→Nat) (h:List Blk):List Nat→List Blk→Prop
 | k::ks,b::bs=>(∃b',h[k]? =some b'∧Blk.seen (zbx ρ b) b')∧seenL ρ h ks bs
 | _,_=>True
theorem seenL_get {ρ:Nat→Nat} {h:List Blk} : ∀ {sel:List Nat} {bs:List Blk},seenL ρ h sel bs→∀(i k:Nat) b1,sel[i]? =some k→bs[i]? =some b1→∃b,h[k]? =some b∧Blk.seen (zbx ρ b1) b
 | [],_,_,i,_,_,h1,_=>by simp at h1
 | _::_,[],_,i,_,_,_,h2=>by simp at h2
 | _::_,_::_,hb,0,_,_,h1,h2=>by simp at h1 h2;subst h1;subst h2;exact hb.1
 | _::_,_::_,hb,i+1,k,b,h1,h2=>seenL_get hb.2 i k b (by simpa using h1) (by simpa using h2)
def zi2 (sel:List Nat) (h1:List Blk) (ρ:Nat→Nat):Nat→List Blk→List Blk→Prop
 | k,b::h,x::xs=>(match zcl k sel h1 with
  | some b'=>zbx ρ b'
  | none=>b)=x∧zi2 sel h1 ρ (k+1) h xs
 | _,[],[]=>True
 | _,_,_=>False
def renL (ρ:Nat→Nat):List Blk→List Blk→Prop
 | b::r,x::xs=>zbx ρ b=x∧renL ρ r xs
 | [],[]=>True
 | _,_=>False
theorem renL_eq {ρ:Nat→Nat} : ∀ {l xs:List Blk},renL ρ l xs→l.map (zbx ρ)=xs
 | [],[],_=>rfl
 | _::_,_::_,h=>by rw [List.map_cons,h.1,renL_eq h.2]
 | [],_::_,h=>h.elim
 | _::_,[],h=>h.elim
theorem backL_eq {sel:List Nat} {h1:List Blk} {ρ:Nat→Nat} : ∀ {h xs:List Blk} {k:Nat},zi2 sel h1 ρ k h xs→(h.mapIdx fun i b=>match zcl (i+k) sel h1 with
  | some b'=>zbx ρ b'
  | none=>b)=xs
 | [],[],_,_=>rfl
 | b::h,x::xs,k,q=>by
  rw [List.mapIdx_cons]
  have h2:=backL_eq q.2
  have he:(fun (i:Nat) (b:Blk)=>match zcl (i+1+k) sel h1 with | some b'=>zbx ρ b' | none=>b)=fun i b=>match zcl (i+(k+1)) sel h1 with | some b'=>zbx ρ b' | none=>b:=by
   funext i b;rw [show i+1+k=i+(k+1) by omega]
  rw [he,h2]
  have h3:=q.1
  rw [←h3,Nat.zero_add]
 | [],_::_,_,q=>by simp [zi2] at q
 | _::_,[],_,q=>by simp [zi2] at q
theorem back_of {sel:List Nat} {h1:List Blk} {ρ:Nat→Nat} {h xs ys:List Blk} (h2:zi2 sel h1 ρ 0 h xs) (h3:renL ρ (h1.drop sel.length) ys):zfZ h sel h1 ρ=xs++ys:=by
 unfold zfZ
 rw [renL_eq h3]
 have:=backL_eq h2
 simp only [Nat.add_zero] at this
 exact congrArg (·++ys) this
theorem zhN {l:List Nat} (h:l.Nodup) {i j k:Nat} (hij:i≠j) (h1:l[i]? =some k) (h2:l[j]? =some k):False:=by
 have hi:=z6 h1
 have hj:=z6 h2
 rw [List.getElem?_eq_getElem hi] at h1
 rw [List.getElem?_eq_getElem hj] at h2
 have e:l[i]=l[j]:=(Option.some.inj h1).trans (Option.some.inj h2).symm
 rcases Nat.lt_or_gt_of_ne hij with q | q
 ·exact List.pairwise_iff_getElem.1 h i j hi hj q e
 ·exact List.pairwise_iff_getElem.1 h j i hj hi q e.symm
def seesL (ρ:Nat→Nat) (h:List Blk):List Nat→List Blk→Prop
 | k::ks,b::bs=>(∃b',h[k]? =some b'∧Blk.sees (zbx ρ b) b')∧seesL ρ h ks bs
 | _,_=>True
theorem zih {ρ:Nat→Nat} {h:List Blk} : ∀ {sel:List Nat} {bs:List Blk},seesL ρ h sel bs→∀(i k:Nat) b1,sel[i]? =some k→bs[i]? =some b1→∃b,h[k]? =some b∧Blk.sees (zbx ρ b1) b
 | [],_,_,i,_,_,h1,_=>by simp at h1
 | _::_,[],_,i,_,_,_,h2=>by simp at h2
 | _::_,_::_,hb,0,_,_,h1,h2=>by simp at h1 h2;subst h1;subst h2;exact hb.1
 | _::_,_::_,hb,i+1,k,b,h1,h2=>zih hb.2 i k b (by simpa using h1) (by simpa using h2)
theorem seesL_of {ρ:Nat→Nat} {h:List Blk} : ∀ {sel:List Nat} {bs:List Blk},seenL ρ h sel bs→seesL ρ h sel bs
 | [],_,_=>by simp [seesL]
 | _::_,[],_=>by simp [seesL]
 | _::_,_::_,q=>⟨let ⟨b,h1,h2⟩:=q.1;⟨b,h1,.inl h2⟩,seesL_of q.2⟩
theorem zjx {ρ:Nat→Nat} {h:List Blk} {sel:List Nat} {h1:List Blk} (hl:h1.length=sel.length) (hs:seenL ρ h sel h1) (h1':List Blk):zgm h1 h1':=by
 intro i hi
 have:=z6 hi
 obtain ⟨b,_,hb⟩:=seenL_get hs i _ _ (List.getElem?_eq_getElem (show i < sel.length by omega)) hi
 exact absurd rfl (zii hb).1
theorem zaD {C:zag} {g:Fnm} {vals:List Value} {K:zen} {h:List Blk} {R:zen} (sel:List Nat) (h1:List Blk) (a1:List Value) (hC:C g a1 h1 R) (hl:h1.length=sel.length) (ha:a1.map (zaF (rho sel h.length))=vals)
  (hs:seesL (rho sel h.length) h sel h1) (hd:sel.Nodup) (hK: ∀v h1',R v h1'→zgm h1 h1'∧∃v' xs ys,zaF (rho sel h.length) v=v'∧zi2 sel h1' (rho sel h.length) 0 h xs∧renL (rho sel h.length) (h1'.drop sel.length) ys∧K v' (xs++ys)):zdA C g vals K h:=by
 refine ⟨sel,h1,a1,R,hC,hl,ha,fun i k b1 e1 e2=>(zih hs i k b1 e1 e2).imp fun _ q=>⟨q.1,.inl q.2⟩,fun i j k b1 hij e1 e2 _=>?_,fun v h1' hR _ _=>?_⟩
 ·exact (zhN hd hij e1 e2).elim
 ·obtain ⟨hg,v',xs,ys,e1,e2,e3,e4⟩:=hK v h1' hR
  rw [e1,back_of e2 e3];exact ⟨hg,e4⟩
theorem zct {C:zag} {g:Fnm} {vals:List Value} {K:zen} {h:List Blk} {R:zen} (sel:List Nat) (h1:List Blk) (a1:List Value) (hC:C g a1 h1 R) (hl:h1.length=sel.length) (ha:a1.map (zaF (rho sel h.length))=vals)
  (hs:seenL (rho sel h.length) h sel h1) (hd:sel.Nodup) (hK: ∀v h1',R v h1'→∃v' xs ys,zaF (rho sel h.length) v=v'∧zi2 sel h1' (rho sel h.length) 0 h xs∧renL (rho sel h.length) (h1'.drop sel.length) ys∧K v' (xs++ys)):zdA C g vals K h:=
 zaD sel h1 a1 hC hl ha (seesL_of hs) hd fun v h1' q=>⟨zjx hl hs h1',hK v h1' q⟩
section
variable {C:zag} {un:Nat→Nat→Bool} {K:St→Prop} {L:List (Nat×Value)} {h:List Blk} {i nid:Nat} {log:List Foot}
theorem d_clN {d:Nat} {g:String} {args:List Opd} {r:List ICell} {R:zen} (sel:List Nat) (h1:List Blk) (a1:List Value) (hC:C g a1 h1 R) (hl:h1.length=sel.length) (ha:a1.map (zaF (rho sel h.length))=args.map (evf (reg L)))
  (hs:seesL (rho sel h.length) h sel h1) (hd:sel.Nodup) (hx: ∃v h1',R v h1'∧sel.length≤h1'.length∧zeF h1 h1')
  (hK: ∀v h1',R v h1'→zgm h1 h1'∧∃v' xs ys,zaF (rho sel h.length) v=v'∧zi2 sel h1' (rho sel h.length) 0 h xs∧renL (rho sel h.length) (h1'.drop sel.length) ys∧GD C un (i+1) nid r (⟨i,sel,zcF sel h1,some h.length⟩::log) K ⟨reg ((d,v')::L),xs++ys⟩)
  (hfit:zhD un ⟨i,sel,zcF sel h1,some h.length⟩ log=true:=by kernel_rfl):GD C un i nid (⟨some d,.call g args,none⟩::r) log K ⟨reg L,h⟩:=by
 refine ⟨⟨sel,h1,a1,R,hC,hl,ha,fun i k b1 e1 e2=>(zih hs i k b1 e1 e2).imp fun _ q=>⟨q.1,.inl q.2⟩,fun i j k b1 hij e1 e2 _=>?_,zcp hfit,fun _=>hx,fun v h1' hR _ _=>?_⟩⟩
 ·exact (zhN hd hij e1 e2).elim
 ·obtain ⟨hg,v',xs,ys,e1,e2,e3,e4⟩:=hK v h1' hR
  rw [e1,back_of e2 e3];exact ⟨hg,e4.out⟩
theorem d_clG {d:Nat} {g:String} {args:List Opd} {r:List ICell} {R:zen} (sel:List Nat) (h1:List Blk) (a1:List Value) (hC:C g a1 h1 R) (hl:h1.length=sel.length) (ha:a1.map (zaF (rho sel h.length))=args.map (evf (reg L)))
  (hs:seenL (rho sel h.length) h sel h1) (hd:sel.Nodup) (hx: ∃v h1',R v h1'∧sel.length≤h1'.length∧zeF h1 h1')
  (hK: ∀v h1',R v h1'→∃v' xs ys,zaF (rho sel h.length) v=v'∧zi2 sel h1' (rho sel h.length) 0 h xs∧renL (rho sel h.length) (h1'.drop sel.length) ys∧GD C un (i+1) nid r (⟨i,sel,zcF sel h1,some h.length⟩::log) K ⟨reg ((d,v')::L),xs++ys⟩)
  (hfit:zhD un ⟨i,sel,zcF sel h1,some h.length⟩ log=true:=by kernel_rfl):GD C un i nid (⟨some d,.call g args,none⟩::r) log K ⟨reg L,h⟩:=
 d_clN sel h1 a1 hC hl ha (seesL_of hs) hd hx (fun v h1' q=>⟨zjx hl hs h1',hK v h1' q⟩) hfit
end
theorem zdJ {ρ:Nat→Nat} (l:List Value):zaF ρ (.tuple ⟨l⟩)= .tuple ⟨l.map (zeY ρ)⟩:=by simp [zaF]
theorem zQ {a b:Value} {l m:List Value} (h:a=b) (h2:l=m):a::l=b::m:=by rw [h,h2]
theorem zaC {ρ:Nat→Nat} {c:List Value} {rw rw':Bool} (h:c.all zbG=true) (hr:rw=true→rw'=true):Blk.seen (zbx ρ (.cells c rw)) (.cells c rw'):=by
 rw [zbn h];exact ⟨rfl,hr⟩
theorem ren_slB2 {ρ:Nat→Nat} {z c:List Value} (o:Option Nat) (hc: ∀m,(c++zaj z m).all zbG=true):zbx ρ (slB z c o)=slB z c o:=(Option.some.inj (zaa (ρ:=ρ) o hc)).symm
theorem zhH {ρ:Nat→Nat} {z c:List Value} (o:Option Nat) (hc: ∀m,(c++zaj z m).all zbG=true):Blk.sees (zbx ρ (slB z c o)) (slB z c o):=by
 rw [ren_slB2 o hc]
 cases o with
 | none=>exact .inr ⟨rfl,rfl⟩
 | some m=>exact .inl ⟨rfl,fun q=>q⟩
theorem zbD (h l:List Blk):zeF h (h++l):=by
 intro i b b' e1 e2
 rw [List.getElem?_append_left (z6 e1),e1] at e2
 cases e2;rfl
theorem q9 (h l:List Blk):zgm h (h++l):=by
 intro i hi;rw [List.getElem?_append_left (z6 hi)];exact hi
theorem rem_nn {a c:Int} (h:0≤a):a.tmod c=a % c:=Int.tmod_eq_emod_of_nonneg h
theorem hf_sl {h:List Blk} {k n:Nat} {o:Option Nat} {z c:List Value} (hk:h[k]? =some (slB z c o)) (ho:o=none→n=0) (hn:0 < n):hf h k=some (.cells (c++zaj z (o.getD 0)) true):=by
 cases o with
 | none=>have:=ho rfl;omega
 | some m=>exact zah.2 ⟨hk,by simp [slB]⟩
theorem zaZ {ρ:Nat→Nat} {k k' n:Nat} (o:Option Nat) (h:ρ k=k'):zew ρ (slV k n o)=slV k' n o:=by subst h;cases o<;>rfl
section
variable {C:zag} {un:Nat→Nat→Bool} {pu:List String} {K:St→Prop} {L:List (Nat×Value)} {h:List Blk} {i nid:Nat} {log:List Foot}
end
theorem zfw {a a':Blk} {h h':List Blk} (h1:a'.rw=a.rw) (h2:zeF h h'):zeF (a::h) (a'::h'):=by
 intro i x y e1 e2
 cases i with
 | zero=>simp at e1 e2;subst e1;subst e2;exact h1
 | succ i=>simp at e1 e2;exact h2 i x y e1 e2
end Go.Rh

namespace Go.Rh
def u8 (l:List Int):List Value:=l.map fun x=> .int .u8 (x % 256)
theorem qL (l:List Int):(u8 l).length=l.length:=by simp [u8]
theorem zH (l:List Int):(u8 l).all zbG=true:=by
 refine List.all_eq_true.2 fun v hv=>?_
 obtain ⟨b,_,rfl⟩:=List.mem_map.1 hv;rfl
theorem u8_get {l:List Int} {i:Nat} (h:i < l.length):zaP none (u8 l) i=some (.int .u8 (l.getD i 0 % 256)):=by
 simp [zaP,u8,List.getD_eq_getElem?_getD,h]
theorem u8_set {l:List Int} {i:Nat} {v w:Int} (h:i < l.length) (hv:v % 256=w):splice (u8 l) i [.int .u8 w]=u8 (l.set i v):=by
 subst hv
 refine zcn (by rw [zfm (by rw [qL];exact h),qL,qL,List.length_set]) fun k hk=>?_
 rw [zgG (by rw [qL];exact h)]
 simp only [u8,List.getElem?_map,List.length_singleton]
 rw [List.getElem?_set]
 by_cases hki:i=k
 ·subst hki;rw [if_pos ⟨Nat.le_refl _,om⟩,if_pos rfl,if_pos h];simp
 ·rw [if_neg om,if_neg hki]
theorem zcG (a b:List Int):u8 a++u8 b=u8 (a++b):=by simp [u8]
theorem u8_rep (n:Nat):(List.replicate n [(.int .u8 0:Value)]).flatten=u8 (List.replicate n 0):=by
 induction n with
 | zero=>rfl
 | succ n ih=>simp only [List.replicate_succ,List.flatten_cons,ih];rfl
def zS (q:Option (Nat×Nat)) (k n:Nat):Value:=match q with
 | none=> .slice none 0 0
 | some (o,c)=> .slice (some ⟨k,o,none⟩) n c
def zG (q:Option (Nat×Nat)) (c:List Value) (rw:Bool):Blk:=match q with
 | none=> .gone
 | some _=> .cells c rw
def qo (q:Option (Nat×Nat)):Nat:=match q with
 | none=>0
 | some (o,_)=>o
structure RowOf (q:Option (Nat×Nat)) (L l:List Int):Prop where
  nil:q=none→l.length=0
  off:q≠none→qo q+l.length≤L.length
  at_:q≠none→(L.drop (qo q)).take l.length=l
  cap: ∀o c,q=some (o,c)→l.length≤c
theorem RowOf.whole {l:List Int} {n c:Nat} (h:l.length=n) (hc:n≤c):RowOf (some (0,c)) l l:=
 ⟨(fun q=>by cases q),(fun _=>by simp [qo]),(fun _=>by simp [qo]),(fun o c' q=>by cases q;omega)⟩
theorem qM {d:Option Nat} {x:Opd} {L:List (Nat×Value)} {hp:List Blk} {k n:Nat} {q:Option (Nat×Nat)} (hx:evf (reg L) x=zS q k n) (ho:q=none→n=0):zdb [⟨d,.lenS x,none⟩] ⟨reg L,hp⟩=some ⟨zau (reg L) d (.int .i64 (n:Nat)),hp⟩:=by
 refine zaU (e:= .no) rfl rfl ?_
 cases q with
 | none=>simp [z8,hx,zS,ho rfl]
 | some p=>simp [z8,hx,zS]
theorem qP {d:Option Nat} {x i:Opd} {L:List (Nat×Value)} {hp:List Blk} {k o' m:Nat} {q:Option (Nat×Nat)} {ik:IntKind} {n:Int} (hx:evf (reg L) x=zS q k m) (ho:q=none→m=0) (hi:evf (reg L) i= .int ik n) (hn:0≤n∧n < m) (he:qo q+n.toNat=o'):zdb [⟨d,.iadS 1 x i,none⟩] ⟨reg L,hp⟩=some ⟨zau (reg L) d (.pointer (some ⟨k,o',none⟩)),hp⟩:=by
 cases q with
 | none=>have:=ho rfl;omega
 | some p=>exact zcU (o:=p.1) hx hi hn (by simpa [qo] using he)
theorem hf_row {h:List Blk} {k n:Nat} {q:Option (Nat×Nat)} {c:List Value} {rw:Bool} (hk:h[k]? =some (zG q c rw)) (ho:q=none→n=0) (hn:0 < n):hf h k=some (.cells c rw):=by
 cases q with
 | none=>have:=ho rfl;omega
 | some p=>exact zah.2 ⟨hk,by simp [zG]⟩
theorem zb5 {q:Option (Nat×Nat)} {L l:List Int} (hr:RowOf q L l) {i o:Nat} (hi:i < l.length) (ho:o=qo q+i):zaP none (u8 L) o=some (.int .u8 (l.getD i 0 % 256)):=by
 have hq:q≠none:=fun e=>by have:=hr.nil e;omega
 have h1:=hr.off hq
 subst ho
 rw [u8_get om]
 have:(L.drop (qo q)).getD i 0=l.getD i 0:=by
  have h3:=congrArg (fun z:List Int=>z[i]?) (hr.at_ hq)
  simp only [List.getElem?_take,if_pos hi] at h3
  rw [List.getD_eq_getElem?_getD,List.getD_eq_getElem?_getD,h3]
 rw [←this,List.getD_eq_getElem?_getD,List.getD_eq_getElem?_getD,List.getElem?_drop]
theorem zca {q:Option (Nat×Nat)} {L l:List Int} {k:Nat} (hr:RowOf q L l) {lo hi mx:Option Value} (a b:Nat) (hab:a≤b∧b≤l.length) (hlo:(lo=none∧a=0)∨lo=some (iv (a:Nat))) (hhi:(hi=none∧b=l.length∧mx=none)∨hi=some (iv (b:Nat))) (hmx:mx=none∨mx=some (iv (b:Nat))):
  ∃(q':Option (Nat×Nat)) (l':List Int),l'=(l.drop a).take (b - a)∧l'.length=b - a∧slcV 1 (zS q k l.length) lo hi mx=some (zS q' k l'.length)∧RowOf q' L l'∧q'.isSome=q.isSome:=by
 have hln:((l.drop a).take (b - a)).length=b - a:=by simp;omega
 have bn: ∀(y i:Nat),i≤y→bnd y (iv (i:Nat))=some i:=fun y i h=>by simp [bnd];omega
 cases q with
 | none=>
  have h0:=hr.nil rfl
  have ha:a=0:=om
  have hb:b=0:=om
  subst ha;subst hb
  refine ⟨none,_,rfl,hln, ?_,⟨fun _=>hln,fun e=>absurd rfl e,fun e=>absurd rfl e,(fun o c e=>by cases e)⟩,rfl⟩
  show slcV 1 (.slice none 0 0) lo hi mx=some (.slice none 0 0)
  rcases hmx with rfl | rfl<;>rcases hlo with ⟨rfl,_⟩ | rfl<;>rcases hhi with ⟨rfl,_,hz⟩ | rfl<;>first | rfl | (cases hz)
 | some p=>
  obtain ⟨o,c⟩:=p
  have hc:=hr.cap o c rfl
  have h1:=hr.off (by simp)
  have h2:=hr.at_ (by simp)
  simp only [qo] at h1 h2
  have key: ∀m,b≤m→m≤c→bnds l.length c lo hi mx=some (a,b,m)→∃(q':Option (Nat×Nat)) (l':List Int),l'=(l.drop a).take (b - a)∧l'.length=b - a∧slcV 1 (zS (some (o,c)) k l.length) lo hi mx=some (zS q' k l'.length)∧RowOf q' L l'∧q'.isSome=(some (o,c)).isSome:=by
   intro m hm1 hm2 hb
   refine ⟨some (if m=a then o else o+a*1,m - a),_,rfl,hln, ?_,⟨(fun e=>by cases e),fun _=>?_,fun _=>?_,fun o' c' e=>?_⟩,rfl⟩
   ·simp only [zS,slcV,hb,hln]
    split<;>rfl
   ·rw [hln];simp only [qo];split<;>omega
   ·rw [hln]
    simp only [qo]
    split
    ·rename_i hma
     have:b - a=0:=om
     rw [this];simp
    ·have h4:l.drop a=(L.drop (o+a)).take (l.length - a):=by
      conv=>lhs;rw [←h2]
      rw [List.drop_take,List.drop_drop]
     rw [Nat.mul_one,h4,List.take_take,show min (b - a) (l.length - a)=b - a by omega]
   ·cases e;rw [hln];omega
  have e3:(match (generalizing:=false) lo with | some v=>bnd b v | none=>some 0)=some a:=by
   rcases hlo with ⟨rfl,rfl⟩ | rfl
   ·rfl
   ·exact bn b a hab.1
  rcases hmx with rfl | rfl
  ·refine key c om (Nat.le_refl _) ?_
   rcases hhi with ⟨rfl,rfl,_⟩ | rfl
   ·show (match (generalizing:=false) (match (generalizing:=false) lo with | some v=>bnd l.length v | none=>some 0) with | none=>none | some l'=>some (l',l.length,c))=_
    rw [e3]
   ·show (match (generalizing:=false) bnd c (iv (b:Nat)) with | none=>none | some h=>match (generalizing:=false) (match (generalizing:=false) lo with | some v=>bnd h v | none=>some 0) with | none=>none | some l'=>some (l',h,c))=_
    rw [bn c b om]
    show (match (generalizing:=false) (match (generalizing:=false) lo with | some v=>bnd b v | none=>some 0) with | none=>none | some l'=>some (l',b,c))=_
    rw [e3]
  ·refine key b (Nat.le_refl _) om ?_
   rcases hhi with ⟨_,_,hz⟩ | rfl
   ·cases hz
   ·show (match (generalizing:=false) bnd c (iv (b:Nat)) with | none=>none | some m=>match (generalizing:=false) bnd m (iv (b:Nat)) with | none=>none | some h=>match (generalizing:=false) (match (generalizing:=false) lo with | some v=>bnd h v | none=>some 0) with | none=>none | some l'=>some (l',h,m))=_
    rw [bn c b om]
    show (match (generalizing:=false) bnd b (iv (b:Nat)) with | none=>none | some h=>match (generalizing:=false) (match (generalizing:=false) lo with | some v=>bnd h v | none=>some 0) with | none=>none | some l'=>some (l',h,b))=_
    rw [bn b b (Nat.le_refl _)]
    show (match (generalizing:=false) (match (generalizing:=false) lo with | some v=>bnd b v | none=>some 0) with | none=>none | some l'=>some (l',b,b))=_
    rw [e3]
theorem zaN {d:Option Nat} {x:Opd} {lo hi mx:Option Opd} {L:List (Nat×Value)} {hp:List Blk} {v w:Value} (hx:evf (reg L) x=v) (h:slcV 1 v (lo.map (evf (reg L))) (hi.map (evf (reg L))) (mx.map (evf (reg L)))=some w):zdb [⟨d,.slcS 1 x lo hi mx,none⟩] ⟨reg L,hp⟩=some ⟨zau (reg L) d w,hp⟩:=by
 refine zaU (e:= .no) rfl rfl ?_
 simp only [z8,hx,h]
theorem zdh {ρ:Nat→Nat} {q:Option (Nat×Nat)} {c:List Value} {rw:Bool} (h:c.all zbG=true):zbx ρ (zG q c rw)=zG q c rw:=by
 cases q with
 | none=>rfl
 | some p=>exact zbn h
theorem zF {ρ:Nat→Nat} {q:Option (Nat×Nat)} {c:List Value} {rw:Bool} (h:c.all zbG=true):some (zG q c rw)=some (zbx ρ (zG q c rw)):=by rw [zdh h]
theorem z4 {ρ:Nat→Nat} {q q':Option (Nat×Nat)} {c:List Value} {rw rw':Bool} (h:c.all zbG=true) (hs:q'.isSome=q.isSome) (hr:rw=true→rw'=true):Blk.sees (zbx ρ (zG q' c rw)) (zG q c rw'):=by
 rw [zdh h]
 cases q<;>cases q'<;>first | exact .inr ⟨rfl,rfl⟩ | exact .inl ⟨rfl,hr⟩ | (cases hs)
theorem qG {ρ:Nat→Nat} {q:Option (Nat×Nat)} {k k' n:Nat} (h:ρ k=k'):zaF ρ (zS q k n)=zS q k' n:=by
 subst h;cases q<;>rfl
theorem zge {ρ:Nat→Nat} {q:Option (Nat×Nat)} {k k' n:Nat} (h:ρ k=k'):zew ρ (zS q k n)=zS q k' n:=by
 subst h;cases q<;>rfl
theorem gone_rowB {q:Option (Nat×Nat)} {c c':List Value} {rw rw':Bool} :zG q c rw= .gone→zG q c' rw'= .gone:=by
 cases q<;>intro h<;>first | rfl | (cases h)
end Go.Rh

namespace Go.Rh
theorem zgh (n:Nat) (x:Int):(BitVec.ofInt n x).toNat=(x % (2^n:Nat)).toNat:=by simp [BitVec.toNat_ofInt]
theorem mask_nat {n m:Nat} (h:m < n) {M:Int} (hM:M=2^m - 1):(BitVec.ofInt n M).toNat=2^m - 1:=by
 have h1:(1:Nat)≤2^m:=Nat.one_le_two_pow
 have h2:2^m < 2^n:=Nat.pow_lt_pow_right om h
 have e:M=((2^m - 1:Nat):Int):=by rw [hM,Int.natCast_sub h1];push_cast;rfl
 rw [zgh,e,←Int.natCast_emod,Int.toNat_natCast,Nat.mod_eq_of_lt om]
theorem emod_pow {x:Int} {n m:Nat} (h:m≤n):(x % (2^n:Nat)) % (2^m:Nat)=x % (2^m:Nat):=
 Int.emod_emod_of_dvd x (Int.natCast_dvd_natCast.2 (Nat.pow_dvd_pow 2 h))
theorem and_nat {n m:Nat} (h:m < n) {M x:Int} (hM:M=2^m - 1):((BitVec.ofInt n x&&&BitVec.ofInt n M).toNat:Int)=x % (2^m:Nat):=by
 rw [BitVec.toNat_and,mask_nat h hM,Nat.and_two_pow_sub_one_eq_mod,zgh,Int.natCast_emod,Int.toNat_of_nonneg (Int.emod_nonneg _ (by have:=Nat.one_le_two_pow (n:=n);omega)),emod_pow om]
theorem zjc {k:IntKind} {x:Int} (h0:0≤x) (h1:x < 2^(k.bits - 1)) (hk:1≤k.bits):k.wrap x=x:=by
 have h2:(2:Int)^(k.bits - 1)*2=2^k.bits:=by rw [←Int.pow_succ];congr 1;omega
 have hm:x % (2^k.bits:Int)=x:=Int.emod_eq_of_lt h0 om
 unfold IntKind.wrap
 simp only [hm]
 rw [if_neg]
 simp only [Bool.and_eq_true,decide_eq_true_eq]
 intro q;omega
theorem zcr {k:IntKind} (m:Nat) {M R x:Int} (hm:m < k.bits) (hM:M=2^m - 1) (hR:R=(2^m:Nat)):k.wrap ((BitVec.ofInt k.bits x&&&BitVec.ofInt k.bits M).toNat)=x % R:=by
 rw [and_nat hm hM,hR]
 have h1:(1:Nat)≤2^m:=Nat.one_le_two_pow
 refine zjc (Int.emod_nonneg _ om) ?_ om
 have h2:=Int.emod_lt_of_pos x (b:=(2^m:Nat)) om
 have h3:((2^m:Nat):Int)≤2^(k.bits - 1):=by
  have:=Nat.pow_le_pow_right (n:=2) om (show m≤k.bits - 1 by omega)
  exact_mod_cast this
 omega
theorem zb9 {a:Int} {R:Int} (h:0≤R):a.fdiv R=a / R:=Int.fdiv_eq_ediv_of_nonneg a h
theorem zee {k:IntKind} (m:Nat) {R x y:Int} (hR:R=(2^m:Nat)) (hx:0≤x∧x % R=0) (hy:0≤y∧y < R) (h:x+y < 2^k.bits) (hw:k.wrap (x+y)=x+y):k.wrap ((BitVec.ofInt k.bits x ||| BitVec.ofInt k.bits y).toNat)=x+y:=by
 obtain ⟨a,rfl⟩:=Int.eq_ofNat_of_zero_le hx.1
 obtain ⟨b,rfl⟩:=Int.eq_ofNat_of_zero_le hy.1
 subst hR
 have hb:b < 2^m:=by have:=hy.2;exact_mod_cast this
 have h3:a+b < 2^k.bits:=by
  have:((a+b:Nat):Int) < ((2^k.bits:Nat):Int):=by push_cast at h ⊢;omega
  exact_mod_cast this
 have hd:a % 2^m=0:=by have:=hx.2;exact_mod_cast this
 obtain ⟨c,rfl⟩: ∃c,a=2^m*c:=⟨a / 2^m,by have:=Nat.div_add_mod a (2^m);omega⟩
 have e1:(BitVec.ofInt k.bits ((2^m*c:Nat):Int)).toNat=2^m*c:=by
  rw [zgh,←Int.natCast_emod,Int.toNat_natCast,Nat.mod_eq_of_lt om]
 have e2:(BitVec.ofInt k.bits (b:Int)).toNat=b:=by
  rw [zgh,←Int.natCast_emod,Int.toNat_natCast,Nat.mod_eq_of_lt om]
 rw [BitVec.toNat_or,e1,e2,←Nat.two_pow_add_eq_or_of_lt hb]
 rw [show ((2^m*c+b:Nat):Int)=((2^m*c:Nat):Int)+b by push_cast;rfl]
 exact hw
theorem zby {x:Int} (h:0≤x∧x < 4294967296):IntKind.u32.wrap x=x:=by show x % 4294967296=x;omega
theorem wrap_u64 {x:Int} (h:0≤x∧x < 18446744073709551616):IntKind.u64.wrap x=x:=by show x % 18446744073709551616=x;omega
theorem zbj {h:List Blk} {k n:Nat} {q q':Option (Nat×Nat)} {c:List Value} {rw:Bool} (hk:h[k]? =some (zG q c rw)) (hs:q'.isSome=q.isSome) (ho:q'=none→n=0) (hn:0 < n):hf h k=some (.cells c rw):=
 hf_row (n:=n) hk (fun e=>by subst e;cases q' with | none=>exact ho rfl | some p=>cases hs) hn
end Go.Rh

namespace Go.Rh
def zB:List Value:= [.int .u8 0]
theorem zgM (m:Nat):zaj zB m=u8 (List.replicate m 0):=u8_rep m
theorem za5 (l:List Int) (m:Nat):(u8 l++zaj zB m).all zbG=true:=by rw [zgM,zcG];exact zH _
theorem u8_len (l:List Int):(u8 l).length=l.length*1:=by rw [qL,Nat.mul_one]
theorem run_mks0 {d:Option Nat} {z:RL} {size bytes n:Nat} {ik:IntKind} {v:Int} {l c:Opd} {L:List (Nat×Value)} {hp:List Blk} {zl:List Value} (hz:zaE z=zl) (hl:evf (reg L) l=iv 0) (hc:evf (reg L) c= .int ik v) (hv:0≤v∧v≤1000000) (hn:v.toNat=n) (hb:bytes≤1000):
  zdb [⟨d,.mks z size bytes l c,none⟩] ⟨reg L,hp⟩=some ⟨zau (reg L) d (sv hp.length 0 0 (0+n)),hp++ [cw ([]++zaj zl n)]⟩:=by
 have h1:(bytes:Int)*v≤1000*1000000:=Int.mul_le_mul om hv.2 hv.1 om
 refine zaU (e:= .push (cw ([]++zaj zl n))) (v:=sv hp.length 0 0 (0+n)) rfl rfl ?_
 subst hn
 simp only [z8,hl,hc,iv]
 rw [if_pos ⟨om,hv.1,om,om⟩,hz]
 simp [sv,zaj]
def qsl (n:Nat) (o:Option Nat):Option (Nat×Nat):=match o with
 | none=>none
 | some m=>some (0,n+m)
theorem rowV_qsl (k n:Nat) (o:Option Nat):zS (qsl n o) k n=slV k n o:=by cases o<;>rfl
theorem rowB_qsl {n:Nat} {l:List Int} (o:Option Nat):zG (qsl n o) (u8 (l++List.replicate (o.getD 0) 0)) true=slB zB (u8 l) o:=by
 cases o with
 | none=>rfl
 | some m=>simp [zG,qsl,slB,zgM,zcG]
theorem row_qsl {l:List Int} {n:Nat} {o:Option Nat} (ho:o=none→l.length=0) (hn:n=l.length):RowOf (qsl n o) (l++List.replicate (o.getD 0) 0) l:=by
 subst hn
 cases o with
 | none=>exact ⟨fun _=>ho rfl,fun q=>absurd rfl q,fun q=>absurd rfl q,(fun o c q=>by cases q)⟩
 | some m=>exact ⟨(fun q=>by cases q),(fun _=>by simp [qsl,qo]),(fun _=>by simp [qsl,qo]),(fun o c q=>by cases q;omega)⟩
theorem sees_qsl {ρ:Nat→Nat} {n:Nat} {l:List Int} {rw:Bool} (o:Option Nat):Blk.sees (zbx ρ (zG (qsl n o) (u8 (l++List.replicate (o.getD 0) 0)) rw)) (slB zB (u8 l) o):=by
 rw [←rowB_qsl (n:=n) o];exact z4 (zH _) rfl (fun _=>rfl)
theorem renV_qsl {ρ:Nat→Nat} {k k' n m:Nat} (o:Option Nat) (h:ρ k=k') (hn:n=m):zaF ρ (zS (qsl n o) k m)=slV k' n o:=by
 subst hn;rw [qG h,rowV_qsl]
theorem isTup_rowV (q:Option (Nat×Nat)) (k n:Nat):zbt (zS q k n)=false:=by cases q<;>rfl
theorem u8_app1 {l:List Int} {v w:Int} (h:v % 256=w):u8 l++ [.int .u8 w]=u8 (l++ [v]):=by subst h;simp [u8]
theorem zaV {ρ:Nat→Nat} {k:Nat} {ss:List Nat} {bs:List Blk} {q q':Option (Nat×Nat)} {c c2:List Value} {rw:Bool} (hs:q'.isSome=q.isSome) (hn:zcl k ss bs=none):(match zcl k (k::ss) (zG q' c false::bs) with
  | some b'=>zbx ρ b'
  | none=>zG q c2 rw)=zG q c2 rw:=by
 cases q'<;>cases q<;>first | (cases hs;done) | (simp [zcl,zG,Blk.rw,hn,zbx])
theorem over_qsl {ρ:Nat→Nat} {k n:Nat} {ss:List Nat} {bs:List Blk} {c z cs:List Value} {o:Option Nat} (hn:zcl k ss bs=none):(match zcl k (k::ss) (zG (qsl n o) c false::bs) with
  | some b'=>zbx ρ b'
  | none=>slB z cs o)=slB z cs o:=by
 cases o<;>simp [zcl,zG,qsl,slB,Blk.rw,hn,zbx]
end Go.Rh

set_option maxHeartbeats 1000000
namespace Go.Rh
def za0 (a b:Int):Int:=if a+b > 65535 then a+b - 65535 else a+b
theorem zc7 {a b:Int} (h:(0≤a∧a≤65535)∧(0≤b∧b≤65535)):0≤za0 a b∧za0 a b≤65535:=by
 unfold za0;split<;>omega
def zhA (l:List Int):Nat→Int
 | 0=>0
 | k+1=>za0 (zhA l k) (l.getD (2*k) 0 % 256*256+l.getD (2*k+1) 0 % 256)
def zbY (l:List Int):Int:=zhA l ((l.length+1) / 2)
theorem addT_r (l:List Int): ∀k,0≤zhA l k∧zhA l k≤65535
 | 0=>by simp [zhA]
 | k+1=>by simp only [zhA];exact zc7 ⟨addT_r l k,om,om⟩
theorem zhB (l:List Int):0≤zbY l∧zbY l≤65535:=addT_r l _
def zd3 (s a b:Int):Int:=65535 - za0 (65535 - s) (za0 (65535 - a) b)
theorem turnS_r {s a b:Int} (h:(0≤s∧s≤65535)∧(0≤a∧a≤65535)∧(0≤b∧b≤65535)):0≤zd3 s a b∧zd3 s a b≤65535:=by
 have h1:=zc7 (a:=65535 - a) (b:=b) ⟨om,h.2.2⟩
 have h2:=zc7 (a:=65535 - s) ⟨om,h1⟩
 unfold zd3;omega
theorem turnS_eq {s a b:Int} (h:(0≤s∧s≤65535)∧(0≤a∧a≤65535)∧(0≤b∧b≤65535)):65535 - za0 (za0 (65535 - s) (65535 - a)) b=zd3 s a b:=by
 unfold zd3 za0;(repeat' split)<;>omega
theorem getD_off {l:List Int} {i:Nat} (h:l.length≤i):l.getD i 0=0:=by
 rw [List.getD_eq_getElem?_getD,List.getElem?_eq_none h];rfl
theorem addS_0 {l:List Int} (h:l.length=0):(0:Int)=zbY l:=by
 unfold zbY;rw [h];rfl
theorem addT_1 {l:List Int} {k a:Nat} {x y:Int} (hx:x=zhA l k) (ha:a=2*k) (hy:y=za0 x (l.getD a 0 % 256*256+l.getD (a+1) 0 % 256)):y=zhA l (k+1):=by
 subst hx;subst ha;exact hy
theorem addT_2 {l:List Int} {k a:Nat} {x:Int} (hx:x=zhA l k) (ha:a=2*k) (h: ¬((a:Int)+1 < (l.length:Nat))):za0 x (l.getD a 0 % 256*256)=zhA l (k+1):=by
 subst hx;subst ha;simp only [zhA];rw [getD_off (i:=2*k+1) om];simp
abbrev wg:=(Value.int .i64)
theorem PlusC {P:Program} [PrC P] (a b:Int) (h:(0≤a∧a≤65535)∧(0≤b∧b≤65535)):
    Env P "roundhouse/sum.Plus" [iv a,iv b] ([]) (Ans (iv (za0 a b)) ([])):=by
 refine Env.by PrC.sum_Plus ?_
 unfold zjJ
 show GC _ 0 _ _ ⟨reg [(0,iv a),(1,iv b)],[]⟩
 refine zJ (zN (o_d 1 [(4,iv 0)] (zE (zA (zJ (zN (o_d 2 [(7,iv b),(6,iv a)] (o_s (by refine zK (v:= .int .i64 (i64.wrap (a+b))) (congrArg wg (w64 om om)) ?_;kernel_rfl) ?_))))))))
 refine o_d 1 [(5,iv (a+b))] (zE (zA (zJ (zN (o_d 1 [(9,iv (a+b))] (o_s (by refine zK (congrArg wg (zcr (k:= .i64) 16 (M:=65535) (R:=65536) (x:=a+b) dC rfl rfl)) ?_;kernel_rfl) ?_))))))
 refine o_d 1 [(11,iv (a+b))] (o_s (by refine zK (v:= .int .i64 ((a+b).fdiv 65536)) (congrArg wg (zb9 dC)) ?_;kernel_rfl) ?_)
 refine o_s (by refine zK (congrArg wg (zcr (k:= .i64) 16 (M:=65535) (R:=65536) (x:=(a+b) / 65536) dC rfl rfl)) ?_;kernel_rfl) ?_
 refine o_s (by refine zK (v:= .int .i64 (i64.wrap ((a+b) % 65536+((a+b) / 65536) % 65536))) (congrArg wg (w64 om om)) ?_;kernel_rfl) ?_
 refine o_d 1 [(4,iv ((a+b) % 65536+((a+b) / 65536) % 65536))] (zE (zA (qW ?_)))
 have E0_:za0 a b=(a+b) % 65536+((a+b) / 65536) % 65536:=by
  unfold za0;split<;>omega
 exact z7 [iv ((a+b) % 65536+((a+b) / 65536) % 65536)] (zT rfl rfl) rfl (by rw [E0_];rfl) rfl rfl
theorem refPlusC {P:Program} [PrC P] (a b:Int) (h:(0≤a∧a≤65535)∧(0≤b∧b≤65535)):
    Env P "roundhouse/roundhouseref1.Plus" [iv a,iv b] ([]) (Ans (iv (za0 a b)) ([])):=by
 refine Env.by PrC.ref1_Plus ?_
 unfold ziS
 show GC _ 0 _ _ ⟨reg [(0,iv a),(1,iv b)],[]⟩
 refine zJ (zN (o_d 1 [(4,iv 0)] (zE (zA (zJ (zN (o_d 2 [(7,iv b),(6,iv a)] (o_s (by refine zK (v:= .int .i64 (i64.wrap (a+b))) (congrArg wg (w64 om om)) ?_;kernel_rfl) ?_))))))))
 refine o_d 1 [(5,iv (a+b))] (zE (zA (zJ (zJ (zN (o_d 2 [(10,bv (decide (a+b > 65535))),(9,iv (a+b))] (zE (zA (qJ (t:=decide (a+b > 65535)) rfl (fun h1=>?_) (fun h1=>?_))))))))))
 ·skip
  have h1':a+b > 65535:=of_decide_eq_true h1
  refine zN (o_d 1 [(11,iv (a+b))] (o_s (by refine zK (v:= .int .i64 (i64.wrap (a+b - 65535))) (congrArg wg (w64 om om)) ?_;kernel_rfl) ?_))
  refine o_d 1 [(5,iv (a+b - 65535))] (zE (zA (zJ (zN (o_d 2 [(4,iv (a+b - 65535)),(13,iv (a+b - 65535))] (zE (zA (qW ?_))))))))
  have E0_:za0 a b=a+b - 65535:=by
   unfold za0;split<;>omega
  exact z7 [iv (a+b - 65535)] (zT rfl rfl) rfl (by rw [E0_];rfl) rfl rfl
 have h1': ¬(a+b > 65535):=of_decide_eq_false h1
 refine qK (zA (zJ (zN (o_d 2 [(4,iv (a+b)),(13,iv (a+b))] (zE (zA (qW ?_)))))))
 have E0_:za0 a b=a+b:=by
  unfold za0;split<;>omega
 exact z7 [iv (a+b)] (zT rfl rfl) rfl (by rw [E0_];rfl) rfl rfl
abbrev wA (a:Option (Nat×Nat)) (b:List Int):=[zG a (u8 b) false]
abbrev vF (a:Nat) (b:Option (Nat×Nat)) (c:Nat) (d:List Int):=[(a,zS b c d.length)]
abbrev WO (a:Option (Nat×Nat)) (b:List Int):=[zS a 0 b.length]
theorem AddC {P:Program} [PrC P] (q:Option (Nat×Nat)) (L l:List Int) (hr:RowOf q L l) (hl:l.length≤100000):
    Env P "roundhouse/sum.Add" (WO q l) ((wA q L)) (fun v h'=>v=iv (zbY l)∧h'= (wA q L)):=by
 refine Env.by2 PrC.sum_Add ?_
 unfold c_sum_Add
 show GC _ 1 _ _ ⟨reg (vF 0 q 0 l),(wA q L)⟩
 refine zJ (zN (o_d 1 [(2,iv 0)] (zE (zA (gscp (fun μ s=> ∃(k:Nat),∃(a:Nat),∃(x:Int),μ=l.length+1 - a∧(a=2*k)∧(2*k≤l.length+1)∧(x=zhA l k)∧(0≤x∧x≤65535)∧s=⟨reg [(0,zS q 0 l.length),(3,iv x),(4,iv (a:Int))],(wA q L)⟩) ?_ ?_)))))
 ·skip
  refine zJ (zN (o_d 2 [(4,iv 0),(3,iv 0)] (zE (zA (zJ (glabel (zA (zJ (zJ (zN (o_d 2 [(7,zS q 0 l.length),(6,iv 0)] (o_s (by exact qM rfl hr.nil) ?_))))))))))))
  refine o_d 1 [(9,bv (decide ((0:Int) < (l.length:Nat))))] (zE (zA (qJ (t:=decide ((0:Int) < (l.length:Nat))) rfl (fun h1=>?_) (fun h1=>?_))))
  ·skip
   have h1':(0:Int) < (l.length:Nat):=of_decide_eq_true h1
   refine zJ (zN (o_d 2 [(11,iv 0),(10,zS q 0 l.length)] (o_s (by exact qP (o':=qo q+0) rfl hr.nil rfl om om) ?_)))
   refine o_s (by refine zV (v:= .int .u8 (l.getD 0 0 % 256)) rfl (zbj (n:=l.length) rfl rfl hr.nil om) ?_;exact zb5 hr om rfl) ?_
   refine o_s (by refine zK (v:= .int .i64 (i64.wrap (l.getD 0 0 % 256))) (congrArg wg (w64 om om)) ?_;kernel_rfl) ?_
   refine o_s (by refine zK (v:= .int .i64 (i64.wrap ((l.getD 0 0 % 256)*256))) (congrArg wg (w64 om om)) ?_;kernel_rfl) ?_
   refine o_d 1 [(5,iv ((l.getD 0 0 % 256)*256))] (zE (zA (zJ (zJ (zN (o_d 3 [(18,zS q 0 l.length),(17,iv 1),(16,iv 0)] (o_s (by exact qM rfl hr.nil) ?_)))))))
   refine o_d 1 [(20,bv (decide ((1:Int) < (l.length:Nat))))] (zE (zA (qJ (t:=decide ((1:Int) < (l.length:Nat))) rfl (fun h2=>?_) (fun h2=>?_))))
   ·skip
    have h2':(1:Int) < (l.length:Nat):=of_decide_eq_true h2
    refine zN (o_d 4 [(24,iv 1),(23,iv 0),(22,zS q 0 l.length),(21,iv ((l.getD 0 0 % 256)*256))] (o_s (by exact qP (o':=qo q+1) rfl hr.nil rfl om om) ?_))
    refine o_s (by refine zV (v:= .int .u8 (l.getD 1 0 % 256)) rfl (zbj (n:=l.length) rfl rfl hr.nil om) ?_;exact zb5 hr om rfl) ?_
    refine o_s (by refine zK (v:= .int .i64 (i64.wrap (l.getD 1 0 % 256))) (congrArg wg (w64 om om)) ?_;kernel_rfl) ?_
    refine o_s (by refine zK (v:= .int .i64 (i64.wrap ((l.getD 0 0 % 256)*256+l.getD 1 0 % 256))) (congrArg wg (w64 om om)) ?_;kernel_rfl) ?_
    refine o_d 1 [(5,iv ((l.getD 0 0 % 256)*256+l.getD 1 0 % 256))] (zE (zU [(5,iv ((l.getD 0 0 % 256)*256+l.getD 1 0 % 256)),(4,iv 0),(3,iv 0),(0,zS q 0 l.length)] (zJ (zN (o_d 2 [(30,iv ((l.getD 0 0 % 256)*256+l.getD 1 0 % 256)),(29,iv 0)] (qV (zab (PlusC 0 ((l.getD 0 0 % 256)*256+l.getD 1 0 % 256) om) rfl rfl rfl ?_)))))))
    refine o_d 1 [(3,iv (za0 0 ((l.getD 0 0 % 256)*256+l.getD 1 0 % 256)))] (zE (zA (zJ (zN (o_d 3 [(4,iv 2),(33,iv 2),(32,iv 0)] (zE (zA (ggoto (⟨l.length+1 - 2, ?_⟩)))))))))
    refine ⟨⟨reg [(0,zS q 0 l.length),(3,iv (za0 0 ((l.getD 0 0 % 256)*256+l.getD 1 0 % 256))),(4,iv (2:Int))],(wA q L)⟩, ?_⟩
    refine ⟨?_, ?_⟩
    ·exact Wk.ren [0] rfl rfl dC ⟨((qG rfl)).trans rfl,rfl,rfl,trivial⟩ ⟨.inl (zF (zH _)),trivial⟩
    ·exact ⟨1,2,(za0 0 ((l.getD 0 0 % 256)*256+l.getD 1 0 % 256)),rfl,rfl,om,rfl,(zc7 ⟨om,om,om⟩),rfl⟩
   have h2': ¬((1:Int) < (l.length:Nat)):=of_decide_eq_false h2
   refine qK (zA (zJ (zN (o_d 2 [(30,iv ((l.getD 0 0 % 256)*256)),(29,iv 0)] (qV (zab (PlusC 0 ((l.getD 0 0 % 256)*256) om) rfl rfl rfl ?_))))))
   refine o_d 1 [(3,iv (za0 0 ((l.getD 0 0 % 256)*256)))] (zE (zU [(3,iv (za0 0 ((l.getD 0 0 % 256)*256))),(4,iv 0),(0,zS q 0 l.length)] (zJ (zN (o_d 3 [(4,iv 2),(33,iv 2),(32,iv 0)] (zE (zA (ggoto (⟨l.length+1 - 2, ?_⟩)))))))))
   refine ⟨⟨reg [(0,zS q 0 l.length),(3,iv (za0 0 ((l.getD 0 0 % 256)*256))),(4,iv (2:Int))],(wA q L)⟩, ?_⟩
   refine ⟨?_, ?_⟩
   ·exact Wk.ren [0] rfl rfl dC ⟨((qG rfl)).trans rfl,rfl,rfl,trivial⟩ ⟨.inl (zF (zH _)),trivial⟩
   ·exact ⟨1,2,(za0 0 ((l.getD 0 0 % 256)*256)),rfl,rfl,om,(addT_2 (l:=l) (k:=0) (a:=0) (x:=0) rfl rfl (by have:=h2';omega)),(zc7 ⟨om,om,om⟩),rfl⟩
  have h1': ¬((0:Int) < (l.length:Nat)):=of_decide_eq_false h1
  exact qK (zA (zJ (zN (o_d 2 [(2,iv 0),(34,iv 0)] (zE (zA (qW (⟨trivial,⟨reg [(2,iv 0)],(wA q L)⟩,Wk.ren [0] rfl rfl dC ⟨rfl,trivial⟩ ⟨.inl (zF (zH _)),trivial⟩,[iv 0],(zT rfl rfl),(zM rfl z5),(congrArg wg (addS_0 om)),rfl⟩))))))))
 rintro μ s ⟨k,a,x,rfl,ha,hk,hx,hr2,rfl⟩
 refine zJ (qK (zA (zJ (zJ (zN (o_d 2 [(7,zS q 0 l.length),(6,iv (a:Int))] (o_s (by exact qM rfl hr.nil) ?_)))))))
 refine o_d 1 [(9,bv (decide ((a:Int) < (l.length:Nat))))] (zE (zA (qJ (t:=decide ((a:Int) < (l.length:Nat))) rfl (fun h3=>?_) (fun h3=>?_))))
 ·skip
  have h3':(a:Int) < (l.length:Nat):=of_decide_eq_true h3
  refine zJ (zN (o_d 2 [(11,iv (a:Int)),(10,zS q 0 l.length)] (o_s (by exact qP (o':=qo q+a) rfl hr.nil rfl om om) ?_)))
  refine o_s (by refine zV (v:= .int .u8 (l.getD a 0 % 256)) rfl (zbj (n:=l.length) rfl rfl hr.nil om) ?_;exact zb5 hr om rfl) ?_
  refine o_s (by refine zK (v:= .int .i64 (i64.wrap (l.getD a 0 % 256))) (congrArg wg (w64 om om)) ?_;kernel_rfl) ?_
  refine o_s (by refine zK (v:= .int .i64 (i64.wrap ((l.getD a 0 % 256)*256))) (congrArg wg (w64 om om)) ?_;kernel_rfl) ?_
  refine o_d 1 [(5,iv ((l.getD a 0 % 256)*256))] (zE (zA (zJ (zJ (zN (o_d 1 [(16,iv (a:Int))] (o_s (by refine zK (v:= .int .i64 (i64.wrap ((a:Int)+1))) (congrArg wg (w64 om om)) ?_;kernel_rfl) ?_)))))))
  refine o_d 1 (vF 18 q 0 l) (o_s (by exact qM rfl hr.nil) ?_)
  refine o_d 1 [(20,bv (decide ((a:Int)+1 < (l.length:Nat))))] (zE (zA (qJ (t:=decide ((a:Int)+1 < (l.length:Nat))) rfl (fun h4=>?_) (fun h4=>?_))))
  ·skip
   have h4':(a:Int)+1 < (l.length:Nat):=of_decide_eq_true h4
   refine zN (o_d 3 [(23,iv (a:Int)),(22,zS q 0 l.length),(21,iv ((l.getD a 0 % 256)*256))] (o_s (by refine zK (v:= .int .i64 (i64.wrap ((a:Int)+1))) (congrArg wg (w64 om om)) ?_;kernel_rfl) ?_))
   refine o_s (by exact qP (o':=qo q+(a+1)) rfl hr.nil rfl om om) ?_
   refine o_s (by refine zV (v:= .int .u8 (l.getD (a+1) 0 % 256)) rfl (zbj (n:=l.length) rfl rfl hr.nil om) ?_;exact zb5 hr om rfl) ?_
   refine o_s (by refine zK (v:= .int .i64 (i64.wrap (l.getD (a+1) 0 % 256))) (congrArg wg (w64 om om)) ?_;kernel_rfl) ?_
   refine o_s (by refine zK (v:= .int .i64 (i64.wrap ((l.getD a 0 % 256)*256+l.getD (a+1) 0 % 256))) (congrArg wg (w64 om om)) ?_;kernel_rfl) ?_
   refine o_d 1 [(5,iv ((l.getD a 0 % 256)*256+l.getD (a+1) 0 % 256))] (zE (zU [(5,iv ((l.getD a 0 % 256)*256+l.getD (a+1) 0 % 256)),(0,zS q 0 l.length),(3,iv x),(4,iv (a:Int))] (zJ (zN (o_d 2 [(30,iv ((l.getD a 0 % 256)*256+l.getD (a+1) 0 % 256)),(29,iv x)] (qV (zab (PlusC x ((l.getD a 0 % 256)*256+l.getD (a+1) 0 % 256) om) rfl rfl rfl ?_)))))))
   refine o_d 1 [(3,iv (za0 x ((l.getD a 0 % 256)*256+l.getD (a+1) 0 % 256)))] (zE (zA (zJ (zN (o_d 1 [(32,iv (a:Int))] (o_s (by refine zK (v:= .int .i64 (i64.wrap ((a:Int)+2))) (congrArg wg (w64 om om)) ?_;kernel_rfl) ?_))))))
   refine o_d 1 [(4,iv ((a:Int)+2))] (zE (zA (ggoto (⟨l.length+1 - (a+2), ?_⟩))))
   refine ⟨⟨reg [(0,zS q 0 l.length),(3,iv (za0 x ((l.getD a 0 % 256)*256+l.getD (a+1) 0 % 256))),(4,iv ((a+2):Int))],(wA q L)⟩, ?_⟩
   refine zde om ⟨?_, ?_⟩
   ·exact Wk.ren [0] rfl rfl dC ⟨((qG rfl)).trans rfl,rfl,rfl,trivial⟩ ⟨.inl (zF (zH _)),trivial⟩
   ·exact ⟨(k+1),(a+2),(za0 x ((l.getD a 0 % 256)*256+l.getD (a+1) 0 % 256)),rfl,om,om,(addT_1 hx ha rfl),(zc7 ⟨hr2,om,om⟩),rfl⟩
  have h4': ¬((a:Int)+1 < (l.length:Nat)):=of_decide_eq_false h4
  refine qK (zA (zJ (zN (o_d 2 [(30,iv ((l.getD a 0 % 256)*256)),(29,iv x)] (qV (zab (PlusC x ((l.getD a 0 % 256)*256) om) rfl rfl rfl ?_))))))
  refine o_d 1 [(3,iv (za0 x ((l.getD a 0 % 256)*256)))] (zE (zA (zJ (zN (o_d 1 [(32,iv (a:Int))] (o_s (by refine zK (v:= .int .i64 (i64.wrap ((a:Int)+2))) (congrArg wg (w64 om om)) ?_;kernel_rfl) ?_))))))
  refine o_d 1 [(4,iv ((a:Int)+2))] (zE (zU [(4,iv ((a:Int)+2)),(3,iv (za0 x ((l.getD a 0 % 256)*256))),(0,zS q 0 l.length)] (ggoto (⟨l.length+1 - (a+2), ?_⟩))))
  refine ⟨⟨reg [(0,zS q 0 l.length),(3,iv (za0 x ((l.getD a 0 % 256)*256))),(4,iv ((a+2):Int))],(wA q L)⟩, ?_⟩
  refine zde om ⟨?_, ?_⟩
  ·exact Wk.ren [0] rfl rfl dC ⟨((qG rfl)).trans rfl,rfl,rfl,trivial⟩ ⟨.inl (zF (zH _)),trivial⟩
  ·exact ⟨(k+1),(a+2),(za0 x ((l.getD a 0 % 256)*256)),rfl,om,om,(addT_2 hx ha h4'),(zc7 ⟨hr2,om,om⟩),rfl⟩
 have h3': ¬((a:Int) < (l.length:Nat)):=of_decide_eq_false h3
 exact qK (zA (zJ (zN (o_d 2 [(2,iv x),(34,iv x)] (zE (zA (qW (⟨trivial,⟨reg [(2,iv x)],(wA q L)⟩,Wk.ren [0] rfl rfl dC ⟨rfl,trivial⟩ ⟨.inl (zF (zH _)),trivial⟩,[iv x],(zT rfl rfl),(zM rfl z5),(congrArg wg (hx.trans (congrArg (zhA l) (by omega:k=(l.length+1) / 2)))),rfl⟩))))))))
theorem refAddC {P:Program} [PrC P] (q:Option (Nat×Nat)) (L l:List Int) (hr:RowOf q L l) (hl:l.length≤100000):
    Env P "roundhouse/roundhouseref1.Add" (WO q l) ((wA q L)) (fun v h'=>v=iv (zbY l)∧h'= (wA q L)):=by
 refine Env.by2 PrC.ref1_Add ?_
 unfold zjR
 show GC _ 1 _ _ ⟨reg (vF 0 q 0 l),(wA q L)⟩
 refine zJ (zN (o_d 1 [(2,iv 0)] (zE (zA (zJ (zN (o_d 1 [(3,iv 0)] (zE (zA (zJ (zJ (zN ?_))))))))))))
 refine o_d 1 [(4,iv 0)] (zE (zA (qU (zcs (fun μ s=> ∃(k:Nat),∃(a:Nat),∃(x:Int),μ=l.length+1 - a∧(a=2*k)∧(2*k≤l.length+1)∧(x=zhA l k)∧(0≤x∧x≤65535)∧s=⟨reg [(4,iv (a:Int)),(3,iv x),(0,zS q 0 l.length)],(wA q L)⟩) ⟨(l.length+1 - 0), ?_⟩ ?_))))
 ·skip
  refine ⟨⟨reg [(4,iv (0:Int)),(3,iv 0),(0,zS q 0 l.length)],(wA q L)⟩, ?_⟩
  refine ⟨?_, ?_⟩
  ·exact Wk.ren [0] rfl rfl dC ⟨rfl,rfl,((qG rfl)).trans rfl,trivial⟩ ⟨.inl (zF (zH _)),trivial⟩
  ·exact ⟨0,0,0,rfl,rfl,om,rfl,om,rfl⟩
 rintro μ s ⟨k,a,x,rfl,ha,hk,hx,hr2,rfl⟩
 refine zJ (zJ (zN (o_d 2 [(7,zS q 0 l.length),(6,iv (a:Int))] (o_s (by exact qM rfl hr.nil) ?_))))
 refine o_d 1 [(9,bv (decide ((a:Int) < (l.length:Nat))))] (zE (zA (qJ (t:=decide ((a:Int) < (l.length:Nat))) rfl (fun h1=>?_) (fun h1=>?_))))
 ·skip
  have h1':(a:Int) < (l.length:Nat):=of_decide_eq_true h1
  refine qK (zA (zJ (qU (zJ (zN (o_d 2 [(13,iv (a:Int)),(12,zS q 0 l.length)] (o_s (by exact qP (o':=qo q+a) rfl hr.nil rfl om om) ?_)))))))
  refine o_s (by refine zV (v:= .int .u8 (l.getD a 0 % 256)) rfl (zbj (n:=l.length) rfl rfl hr.nil om) ?_;exact zb5 hr om rfl) ?_
  refine o_s (by refine zK (v:= .int .i64 (i64.wrap (l.getD a 0 % 256))) (congrArg wg (w64 om om)) ?_;kernel_rfl) ?_
  refine o_s (by refine zK (v:= .int .i64 (i64.wrap ((l.getD a 0 % 256)*256))) (congrArg wg (w64 om om)) ?_;kernel_rfl) ?_
  refine o_d 1 [(5,iv ((l.getD a 0 % 256)*256))] (zE (zA (zJ (zJ (zN (o_d 1 [(18,iv (a:Int))] (o_s (by refine zK (v:= .int .i64 (i64.wrap ((a:Int)+1))) (congrArg wg (w64 om om)) ?_;kernel_rfl) ?_)))))))
  refine o_d 1 (vF 20 q 0 l) (o_s (by exact qM rfl hr.nil) ?_)
  refine o_d 1 [(22,bv (decide ((a:Int)+1 < (l.length:Nat))))] (zE (zA (qJ (t:=decide ((a:Int)+1 < (l.length:Nat))) rfl (fun h2=>?_) (fun h2=>?_))))
  ·skip
   have h2':(a:Int)+1 < (l.length:Nat):=of_decide_eq_true h2
   refine zN (o_d 3 [(25,iv (a:Int)),(24,zS q 0 l.length),(23,iv ((l.getD a 0 % 256)*256))] (o_s (by refine zK (v:= .int .i64 (i64.wrap ((a:Int)+1))) (congrArg wg (w64 om om)) ?_;kernel_rfl) ?_))
   refine o_s (by exact qP (o':=qo q+(a+1)) rfl hr.nil rfl om om) ?_
   refine o_s (by refine zV (v:= .int .u8 (l.getD (a+1) 0 % 256)) rfl (zbj (n:=l.length) rfl rfl hr.nil om) ?_;exact zb5 hr om rfl) ?_
   refine o_s (by refine zK (v:= .int .i64 (i64.wrap (l.getD (a+1) 0 % 256))) (congrArg wg (w64 om om)) ?_;kernel_rfl) ?_
   refine o_s (by refine zK (v:= .int .i64 (i64.wrap ((l.getD a 0 % 256)*256+l.getD (a+1) 0 % 256))) (congrArg wg (w64 om om)) ?_;kernel_rfl) ?_
   refine o_d 1 [(5,iv ((l.getD a 0 % 256)*256+l.getD (a+1) 0 % 256))] (zE (zU [(5,iv ((l.getD a 0 % 256)*256+l.getD (a+1) 0 % 256)),(4,iv (a:Int)),(3,iv x),(0,zS q 0 l.length)] (zN (o_d 2 [(32,iv ((l.getD a 0 % 256)*256+l.getD (a+1) 0 % 256)),(31,iv x)] (qV (zab (refPlusC x ((l.getD a 0 % 256)*256+l.getD (a+1) 0 % 256) om) rfl rfl rfl ?_))))))
   refine o_d 1 [(3,iv (za0 x ((l.getD a 0 % 256)*256+l.getD (a+1) 0 % 256)))] (zE (zA (zN (o_d 1 [(10,iv (a:Int))] (o_s (by refine zK (v:= .int .i64 (i64.wrap ((a:Int)+2))) (congrArg wg (w64 om om)) ?_;kernel_rfl) ?_)))))
   refine o_d 1 [(4,iv ((a:Int)+2))] (zE (⟨l.length+1 - (a+2), ?_⟩))
   refine ⟨⟨reg [(4,iv ((a+2):Int)),(3,iv (za0 x ((l.getD a 0 % 256)*256+l.getD (a+1) 0 % 256))),(0,zS q 0 l.length)],(wA q L)⟩, ?_⟩
   refine zde om ⟨?_, ?_⟩
   ·exact Wk.ren [0] rfl rfl dC ⟨rfl,rfl,((qG rfl)).trans rfl,trivial⟩ ⟨.inl (zF (zH _)),trivial⟩
   ·exact ⟨(k+1),(a+2),(za0 x ((l.getD a 0 % 256)*256+l.getD (a+1) 0 % 256)),rfl,om,om,(addT_1 hx ha rfl),(zc7 ⟨hr2,om,om⟩),rfl⟩
  have h2': ¬((a:Int)+1 < (l.length:Nat)):=of_decide_eq_false h2
  refine qK (zA (zN (o_d 2 [(32,iv ((l.getD a 0 % 256)*256)),(31,iv x)] (qV (zab (refPlusC x ((l.getD a 0 % 256)*256) om) rfl rfl rfl ?_)))))
  refine o_d 1 [(3,iv (za0 x ((l.getD a 0 % 256)*256)))] (zE (zA (zN (o_d 1 [(10,iv (a:Int))] (o_s (by refine zK (v:= .int .i64 (i64.wrap ((a:Int)+2))) (congrArg wg (w64 om om)) ?_;kernel_rfl) ?_)))))
  refine o_d 1 [(4,iv ((a:Int)+2))] (zE (⟨l.length+1 - (a+2), ?_⟩))
  refine ⟨⟨reg [(4,iv ((a+2):Int)),(3,iv (za0 x ((l.getD a 0 % 256)*256))),(0,zS q 0 l.length)],(wA q L)⟩, ?_⟩
  refine zde om ⟨?_, ?_⟩
  ·exact Wk.ren [0] rfl rfl dC ⟨rfl,rfl,((qG rfl)).trans rfl,trivial⟩ ⟨.inl (zF (zH _)),trivial⟩
  ·exact ⟨(k+1),(a+2),(za0 x ((l.getD a 0 % 256)*256)),rfl,om,om,(addT_2 hx ha h2'),(zc7 ⟨hr2,om,om⟩),rfl⟩
 have h1': ¬((a:Int) < (l.length:Nat)):=of_decide_eq_false h1
 exact zb1 (zA (zJ (zN (o_d 2 [(2,iv x),(34,iv x)] (zE (zA (qW (⟨trivial,⟨reg [(2,iv x)],(wA q L)⟩,Wk.ren [0] rfl rfl dC ⟨rfl,trivial⟩ ⟨.inl (zF (zH _)),trivial⟩,[iv x],(zT rfl rfl),(zM rfl z5),(congrArg wg (hx.trans (congrArg (zhA l) (by omega:k=(l.length+1) / 2)))),rfl⟩))))))))
theorem refOf1C {P:Program} [PrC P] (q:Option (Nat×Nat)) (L l:List Int) (hr:RowOf q L l) (hl:l.length≤100000):
    Env P "roundhouse/roundhouseref1.Of" (WO q l) ((wA q L)) (fun v h'=>v=iv (65535 - zbY l)∧h'= (wA q L)):=by
 refine Env.by2 PrC.ref1_Of ?_
 unfold c_ref1_Of
 show GC _ 1 _ _ ⟨reg (vF 0 q 0 l),(wA q L)⟩
 have hs0:=zhB l
 refine zJ (zN (o_d 1 [(2,iv 0)] (zE (zA (zJ (zN (o_d 1 (vF 3 q 0 l) (qV (zaD [0] (wA q L) (WO q l) (refAddC q L l hr om) rfl (zQ (qG rfl) rfl) ⟨⟨_,rfl,z4 (zH _) rfl (fun q=>q)⟩,trivial⟩ dC ?_)))))))))
 rintro v1 h1' ⟨rfl,rfl⟩
 refine ⟨q9 [_] [],iv (zbY l),(wA q L),[],rfl,⟨(zaV rfl rfl),trivial⟩,trivial, ?_⟩
 refine o_s (by refine zK (v:= .int .i64 (i64.wrap (65535 - zbY l))) (congrArg wg (w64 om om)) ?_;kernel_rfl) ?_
 exact o_d 1 [(2,iv (65535 - zbY l))] (zE (zA (qW (⟨trivial,⟨reg [(2,iv (65535 - zbY l))],(wA q L)⟩,Wk.ren [0] rfl rfl dC ⟨rfl,trivial⟩ ⟨.inl (zF (zH _)),trivial⟩,[iv (65535 - zbY l)],(zT rfl rfl),(zM rfl z5),rfl,rfl⟩))))
theorem RightC {P:Program} [PrC P] (q:Option (Nat×Nat)) (L l:List Int) (hr:RowOf q L l) (hl:l.length≤100000):
    Env P "roundhouse/sum.Right" (WO q l) ((wA q L)) (fun v h'=>v=bv (zbY l==65535)∧h'= (wA q L)):=by
 refine Env.by2 PrC.sum_Right ?_
 unfold ziG
 show GC _ 1 _ _ ⟨reg (vF 0 q 0 l),(wA q L)⟩
 refine zJ (zN (o_d 1 [(2,bv false)] (zE (zA (zJ (zN (o_d 1 (vF 3 q 0 l) (qV (zaD [0] (wA q L) (WO q l) (AddC q L l hr om) rfl (zQ (qG rfl) rfl) ⟨⟨_,rfl,z4 (zH _) rfl (fun q=>q)⟩,trivial⟩ dC ?_)))))))))
 rintro v1 h1' ⟨rfl,rfl⟩
 refine ⟨q9 [_] [],iv (zbY l),(wA q L),[],rfl,⟨(zaV rfl rfl),trivial⟩,trivial, ?_⟩
 exact o_d 2 [(2,bv ((zbY l)==65535)),(5,bv ((zbY l)==65535))] (zE (zA (qW (⟨trivial,⟨reg [(2,bv ((zbY l)==65535))],(wA q L)⟩,Wk.ren [0] rfl rfl dC ⟨rfl,trivial⟩ ⟨.inl (zF (zH _)),trivial⟩,[bv ((zbY l)==65535)],(zT rfl rfl),(zM rfl z5),rfl,rfl⟩))))
theorem TurnC {P:Program} [PrC P] (s a b:Int) (h:(0≤s∧s≤65535)∧(0≤a∧a≤65535)∧(0≤b∧b≤65535)):
    Env P "roundhouse/sum.Turn" [iv s,iv a,iv b] ([]) (Ans (iv (zd3 s a b)) ([])):=by
 refine Env.by PrC.sum_Turn ?_
 unfold zjI
 show GC _ 0 _ _ ⟨reg [(0,iv s),(1,iv a),(2,iv b)],[]⟩
 have h1:=zc7 (a:=65535 - a) (b:=b) ⟨om,h.2.2⟩
 have h2:=zc7 (a:=65535 - s) ⟨om,h1⟩
 refine zJ (zN (o_d 1 [(6,iv 0)] (zE (zA (zJ (zN (o_d 1 [(7,iv s)] (o_s (by refine zK (v:= .int .i64 (i64.wrap (65535 - s))) (congrArg wg (w64 om om)) ?_;kernel_rfl) ?_))))))))
 refine o_d 1 [(9,iv a)] (o_s (by refine zK (v:= .int .i64 (i64.wrap (65535 - a))) (congrArg wg (w64 om om)) ?_;kernel_rfl) ?_)
 refine o_d 1 [(11,iv b)] (qV (zab (PlusC (65535 - a) b om) rfl rfl rfl ?_))
 refine qV (zab (PlusC (65535 - s) (za0 (65535 - a) b) om) rfl rfl rfl ?_)
 refine o_s (by refine zK (v:= .int .i64 (i64.wrap (65535 - za0 (65535 - s) (za0 (65535 - a) b)))) (congrArg wg (w64 om om)) ?_;kernel_rfl) ?_
 refine o_d 1 [(6,iv (65535 - za0 (65535 - s) (za0 (65535 - a) b)))] (zE (zA (qW ?_)))
 have E0_:zd3 s a b=65535 - za0 (65535 - s) (za0 (65535 - a) b):=by
  first | rfl | exact (turnS_eq h).symm
 exact z7 [iv (65535 - za0 (65535 - s) (za0 (65535 - a) b))] (zT rfl rfl) rfl (by rw [E0_];rfl) rfl rfl
end Go.Rh

namespace Go.Rh
def qD (l:List Int) (a:Nat):Nat→Int
 | 0=>0
 | n+1=>qD l a n*256+l.getD (a+n) 0 % 256
theorem zcJ (l:List Int) (a:Nat):(0≤qD l a 1∧qD l a 1 < 256)∧(0≤qD l a 2∧qD l a 2 < 65536)∧(0≤qD l a 3∧qD l a 3 < 16777216)∧0≤qD l a 4∧qD l a 4 < 4294967296:=by
 simp only [qD];omega
theorem zez (l:List Int) (a n:Nat) (h:n≤4):0≤qD l a n∧qD l a n < 4294967296:=by
 have:=zcJ l a
 rcases n with _ | _ | _ | _ | _ | n
 ·simp [qD]
 all_goals first | omega | (simp only [Nat.zero_add,Nat.reduceAdd];omega)
theorem getD_part {l z:List Int} {a m i:Nat} (hz:z=(l.drop a).take m) (h:i < m):z.getD i 0=l.getD (a+i) 0:=by
 subst hz;simp only [List.getD_eq_getElem?_getD,List.getElem?_take,if_pos h,List.getElem?_drop]
theorem numB_s {l z:List Int} {a i m:Nat} {x y:Int} (hz:z=(l.drop a).take m) (h:i < m) (hx:x=qD l a i) (hy:y=x*256+z.getD i 0 % 256):y=qD l a (i+1):=by
 subst hx;rw [hy,getD_part hz h];rfl
def zbq (l:List Int) (a:Nat):Nat→Int→List Int
 | 0,_=>l
 | n+1,v=>zbq (l.set (a+n) v) a n (v / 256)
theorem zX: ∀(n:Nat) (l:List Int) (a:Nat) (v:Int),(zbq l a n v).length=l.length
 | 0,_,_,_=>rfl
 | n+1,l,a,v=>by simp only [zbq];rw [zX n,List.length_set]
theorem zgg: ∀(n:Nat) (l r:List Int) (a:Nat) (v:Int),a+n≤l.length→zbq (l++r) a n v=zbq l a n v++r
 | 0,_,_,_,_,_=>rfl
 | n+1,l,r,a,v,h=>by
  simp only [zbq]
  rw [List.set_append_left _ _ om,zgg n _ _ _ _ (by rw [List.length_set];omega)]
theorem row_set {q:Option (Nat×Nat)} {L l:List Int} (hr:RowOf q L l) {i:Nat} (hi:i < l.length) (v:Int):RowOf q (L.set (qo q+i) v) (l.set i v):=by
 have hq:q≠none:=fun e=>by have:=hr.nil e;omega
 refine ⟨fun e=>absurd e hq,fun _=>?_,fun _=>?_,fun o c e=>?_⟩
 ·rw [List.length_set,List.length_set];exact hr.off hq
 ·rw [List.length_set,List.drop_set,if_neg om,Nat.add_sub_cancel_left,List.take_set,hr.at_ hq]
 ·rw [List.length_set];exact hr.cap o c e
theorem put_s {M:List Int} {o a j:Nat} {w:Int} {R:List Int} (hj:0 < j) (h:zbq M (o+a) j w=R):zbq (M.set (o+(a+(j - 1))) w) (o+a) (j - 1) (w / 256)=R:=by
 obtain ⟨k,rfl⟩: ∃k,j=k+1:=⟨j - 1,om⟩
 rw [←h];simp only [zbq,Nat.add_sub_cancel,Nat.add_assoc]
def zD (l:List Int):Option (Nat×Nat):=if l.length=0 then none else some (0,l.length)
theorem zjf {l:List Int} (h:l.length=0):zD l=none:=if_pos h
theorem zdp {l:List Int} (h:0 < l.length):zD l=some (0,l.length):=if_neg om
theorem zdt (l:List Int):RowOf (zD l) l l:=by
 unfold zD
 split
 ·rename_i h;exact ⟨fun _=>h,fun e=>absurd rfl e,fun e=>absurd rfl e,fun o c e=>by cases e⟩
 ·exact RowOf.whole rfl (Nat.le_refl _)
theorem zij {a v:Opd} {L:List (Nat×Value)} {hp hp':List Blk} {k o:Nat} {q:Option (Nat×Nat)} {l:List Int} {x w:Int} (ha:evf (reg L) a=pv k o) (hv:evf (reg L) v= .int .u8 w) (hk:hp[k]? =some (zG q (u8 l) true)) (hq:q≠none) (ho:o < l.length) (hw:x % 256=w)
  (hs:hp.set k (zG q (u8 (l.set o x)) true)=hp'):zdb [⟨none,.st 1 a v,none⟩] ⟨reg L,hp⟩=some ⟨zau (reg L) none undef,hp'⟩:=by
 subst hs
 cases q with
 | none=>exact absurd rfl hq
 | some p=>
  have hh:hf hp k=some (.cells (u8 l) true):=zah.2 ⟨hk,by simp⟩
  refine zaU (e:= .set k (zG (some p) (u8 (l.set o x)) true)) rfl rfl ?_
  simp only [z8,ha,hv,pv,stV,zbt,hh,zdE]
  rw [if_neg (by simp),if_pos ⟨rfl,by rw [qL];omega⟩,u8_set ho hw]
  rfl
theorem zam {ρ:Nat→Nat} {q:Option (Nat×Nat)} {k k' n n':Nat} (h:ρ k=k') (hn:n=n'):zaF ρ (zS q k n)=zS q k' n':=by subst hn;exact qG h
theorem zh3 (q:Option (Nat×Nat)) (k n:Nat):zdE (zS q k n)= [zS q k n]:=by cases q<;>rfl
theorem splice_set1 {c:List Value} {o:Nat} {v:Value} (h:o < c.length):splice c o [v]=c.set o v:=by
 refine List.ext_getElem? fun i=>?_
 unfold splice
 rw [List.getElem?_set]
 by_cases hi:o=i
 ·subst hi
  rw [if_pos rfl,if_pos h,List.append_assoc,List.getElem?_append_right (by simp;omega)]
  simp [Nat.min_eq_left (Nat.le_of_lt h)]
 ·rw [if_neg hi,List.append_assoc]
  rcases Nat.lt_or_ge i o with h1 | h1
  ·rw [List.getElem?_append_left (by simp;omega),List.getElem?_take,if_pos h1]
  ·rw [List.getElem?_append_right (by simp;omega),List.length_take,Nat.min_eq_left (Nat.le_of_lt h),List.getElem?_append_right (by simp;omega)]
   simp only [List.length_singleton,List.getElem?_drop]
   congr 1;omega
theorem run_stV {x y:Opd} {L:List (Nat×Value)} {hp:List Blk} {k o k1 n1:Nat} {q:Option (Nat×Nat)} {c c':List Value} (hx:evf (reg L) x= .pointer (some ⟨k,o,none⟩)) (hh:hf hp k=some (.cells c true)) (hy:evf (reg L) y=zS q k1 n1) (ho:o < c.length) (hc:c.set o (zS q k1 n1)=c'):
  zdb [⟨none,.st 1 x y,none⟩] ⟨reg L,hp⟩=some ⟨zau (reg L) none undef,hp.set k (.cells c' true)⟩:=by
 refine zao hx hh (by rw [hy];exact isTup_rowV _ _ _) (by rw [hy,zh3];rfl) ho ?_
 rw [hy,zh3,splice_set1 ho,hc]
theorem run_mksB {d:Option Nat} {l c:Opd} {L:List (Nat×Value)} {hp:List Blk} {n:Nat} (hl:evf (reg L) l=iv (n:Nat)) (hc:evf (reg L) c=iv (n:Nat)) (hn:n≤1000000):
  zdb [⟨d,.mks [(1,(.int .u8 0))] 1 1 l c,none⟩] ⟨reg L,hp⟩=some ⟨zau (reg L) d (zS (some (0,n)) hp.length n),hp++ [zG (some (0,n)) (u8 (List.replicate n 0)) true]⟩:=by
 refine zaU (e:= .push (zG (some (0,n)) (u8 (List.replicate n 0)) true)) (v:=zS (some (0,n)) hp.length n) rfl rfl ?_
 simp only [z8,hl,hc,iv]
 rw [if_pos ⟨om,om,om,om⟩]
 simp only [Int.toNat_natCast,zS,zG]
 rw [←u8_rep];rfl
theorem run_cpyB {d:Option Nat} {x y:Opd} {L:List (Nat×Value)} {hp hp':List Blk} {k k2 n c:Nat} {q:Option (Nat×Nat)} {L1 L2 l:List Int} {rw:Bool} (hx:evf (reg L) x=zS (some (0,c)) k n) (hy:evf (reg L) y=zS q k2 l.length) (hk:hp[k]? =some (zG (some (0,c)) (u8 L1) true)) (h1:L1.length=n)
  (hk2:hp[k2]? =some (zG q (u8 L2) rw)) (hr:RowOf q L2 l) (hl:l.length=n) (hn:0 < n) (hs:hp.set k (zG (some (0,c)) (u8 l) true)=hp'):
  zdb [⟨d,.cpy 1 x y,none⟩] ⟨reg L,hp⟩=some ⟨zau (reg L) d (iv (n:Nat)),hp'⟩:=by
 subst hs
 have hq:q≠none:=fun e=>by have:=hr.nil e;omega
 have h5:hf hp k=some (.cells (u8 L1) true):=zah.2 ⟨hk,by simp⟩
 obtain ⟨p,rfl⟩: ∃p,q=some p:=by cases q with | none=>exact absurd rfl hq | some p=>exact ⟨p,rfl⟩
 have h6:hf hp k2=some (.cells (u8 L2) rw):=zah.2 ⟨hk2,by simp⟩
 have h7:=hr.off hq
 have h8:=hr.at_ hq
 simp only [qo] at h7 h8
 have h9:((u8 L2).drop p.1).take l.length=u8 l:=by
  conv=>rhs;rw [←h8]
  simp [u8]
 refine zaU (e:= .set k (zG (some (0,c)) (u8 l) true)) (v:=iv (n:Nat)) rfl rfl ?_
 simp only [z8,hx,hy,zS,zi6,first,h6,hl,Nat.min_self,Nat.mul_one,qL]
 rw [if_pos om]
 simp only [h5]
 rw [←hl,h9,if_pos (by rw [qL,qL];omega)]
 simp only [zG,splice,List.take_zero,List.nil_append,qL,Nat.zero_add]
 rw [List.drop_eq_nil_of_le (by rw [qL];omega),List.append_nil]
end Go.Rh

set_option maxHeartbeats 1000000
namespace Go.Rh
theorem zcI {l:List Int} {n r c:Nat} (hn:l.length=n) (hc:c=n+r:=by rfl):RowOf (some (0,c)) (l++List.replicate r 0) l:=by
 subst hn;subst hc
 exact ⟨(fun q=>by cases q),(fun _=>by simp [qo]),(fun _=>by simp [qo]),(fun o c q=>by cases q;omega)⟩
theorem zcS (l:List Int) (m:Nat):Blk.cells (u8 l++zaj zB m) true= .cells (u8 (l++List.replicate m 0)) true:=by rw [zgM,zcG]
theorem zcz {ρ:Nat→Nat} {l m:List Int} {c a n:Nat} {v:Int} (h:zbq l a n v=m):zbx ρ (zG (some (0,c)) (u8 (zbq l (qo (some (0,c))+a) n v)) true)=zG (some (0,c)) (u8 m) true:=by
 rw [zdh (zH _)];simp only [qo,Nat.zero_add,h]
theorem zb6 {ρ:Nat→Nat} {l m:List Int} {c a n r:Nat} {v:Int} (h:zbq l a n v=m) (hl:a+n≤l.length):zbx ρ (zG (some (0,c)) (u8 (zbq (l++List.replicate r 0) (qo (some (0,c))+a) n v)) true)= .cells (u8 m++zaj zB r) true:=by
 rw [zdh (zH _)];simp only [qo,Nat.zero_add]
 rw [zgg _ _ _ _ _ hl,h,zgM,zcG];rfl
theorem zcC {q:Option (Nat×Nat)} {c c':List Value} {i:Nat} (h: [zG q c true][i]? =some .gone): [zG q c' true][i]? =some .gone:=by
 match i,h with
 | 0,h=>simp only [List.getElem?_cons_zero,Option.some.injEq] at h ⊢;exact gone_rowB h
theorem pair_odd {l:List Int} {a:Nat} (h:(a:Int)+1=(l.length:Nat)):l.getD a 0 % 256*256=qD l a 2:=by
 simp only [qD];rw [getD_off (i:=a+1) om];simp
def zak (k:Int):Int:=if k=3 then 18 else 22
theorem zfr (k:Int):zak k=18∨zak k=22:=by unfold zak;split<;>simp
theorem getC {P:Program} [PrC P] (q:Option (Nat×Nat)) (L l:List Int) (hr:RowOf q L l) (a n:Nat) (ha:a+n≤l.length) (hn:n≤4) (hl:l.length≤100000):
    Env P "roundhouse/wire.get" [zS q 0 l.length,iv (a:Nat),iv (n:Nat)] ((wA q L)) (fun v h'=>v=iv (qD l a n)∧h'= (wA q L)):=by
 refine Env.by2 PrC.wire_get ?_
 unfold zjF
 show GC _ 1 _ _ ⟨reg [(0,zS q 0 l.length),(1,iv (a:Nat)),(2,iv (n:Nat))],(wA q L)⟩
 refine zJ (zN (o_d 1 [(6,iv 0)] (zE (zA (zJ (zN (o_d 1 [(7,iv 0)] (zE (zA (zJ (zJ (zN ?_))))))))))))
 refine o_d 4 [(13,iv (n:Nat)),(12,iv (a:Nat)),(11,iv (a:Nat)),(10,zS q 0 l.length)] (o_s (by refine zK (v:= .int .i64 (i64.wrap ((a:Nat)+(n:Nat)))) (congrArg wg (w64 om om)) ?_;kernel_rfl) ?_)
 obtain ⟨qz1,lz1,hlz1,hn1z,hq1z,hr1z,hs1z⟩:=zca (k:=0) hr (lo:=(some (iv (a:Nat)))) (hi:=(some (iv ((a:Nat)+(n:Nat))))) (mx:=none) a (a+n) om (.inr rfl) (.inr (by first | rfl | (congr 2;omega))) (.inl rfl)
 have hs1y:=hs1z.trans (rfl:q.isSome=q.isSome)
 refine o_s (by exact zaN rfl hq1z) ?_
 refine o_s (by exact qM rfl hr1z.nil) ?_
 refine o_d 1 [(17,iv 0)] (zE (zA (qU (zcs (fun μ s=> ∃(i:Nat),∃(x:Int),μ=n - i∧(i≤n)∧(x=qD l a i)∧(0≤x∧x < 4294967296)∧s=⟨reg [(17,iv (i:Int)),(16,iv (lz1.length:Nat)),(15,zS qz1 0 lz1.length),(7,iv x)],(wA q L)⟩) ⟨(n - 0), ?_⟩ ?_))))
 ·skip
  refine ⟨⟨reg [(17,iv (0:Int)),(16,iv (lz1.length:Nat)),(15,zS qz1 0 lz1.length),(7,iv 0)],(wA q L)⟩, ?_⟩
  refine ⟨?_, ?_⟩
  ·exact Wk.ren [0] rfl rfl dC ⟨rfl,rfl,((qG rfl)).trans rfl,rfl,trivial⟩ ⟨.inl (zF (zH _)),trivial⟩
  ·exact ⟨0,0,rfl,(Nat.zero_le _),rfl,om,rfl⟩
 rintro μ s ⟨i,x,rfl,hi,hx,hb,rfl⟩
 refine zJ (zN (o_d 1 [(18,bv (decide ((i:Int) < (lz1.length:Nat))))] (zE (zA (zJ (qJ (t:=decide ((i:Int) < (lz1.length:Nat))) rfl (fun h2=>?_) (fun h2=>?_)))))))
 ·skip
  have h2':(i:Int) < (lz1.length:Nat):=of_decide_eq_true h2
  refine qK (zA (zJ (qU (zJ (zN (o_s (by exact qP (o':=qo qz1+i) rfl hr1z.nil rfl om om) ?_))))))
  refine o_s (by refine zV (v:= .int .u8 (lz1.getD i 0 % 256)) rfl (zbj (n:=lz1.length) rfl hs1y hr1z.nil om) ?_;exact zb5 hr1z om rfl) ?_
  refine o_d 1 [(9,.int .u8 (lz1.getD i 0 % 256))] (zE (zA (zN (o_d 1 [(21,iv x)] (o_s (by refine zK (v:= .int .i64 (i64.wrap (x*256))) (congrArg wg (w64 om om)) ?_;kernel_rfl) ?_)))))
  refine o_d 1 [(23,.int .u8 (lz1.getD i 0 % 256))] (o_s (by refine zK (v:= .int .i64 (i64.wrap (lz1.getD i 0 % 256))) (congrArg wg (w64 om om)) ?_;kernel_rfl) ?_)
  refine o_s (by refine zK (congrArg wg (zee (k:= .i64) 8 (R:=256) (x:=x*256) (y:=lz1.getD i 0 % 256) rfl om om (by rw [show (2:Int)^IntKind.i64.bits=18446744073709551616 from rfl];omega) (w64 om om))) ?_;kernel_rfl) ?_
  refine o_d 1 [(7,iv (x*256+lz1.getD i 0 % 256))] (zE (zA (zN (o_s (by refine zK (v:= .int .i64 (i64.wrap ((i:Int)+1))) (congrArg wg (w64 om om)) ?_;kernel_rfl) ?_))))
  refine o_d 1 [(17,iv ((i:Int)+1))] (zE (⟨n - (i+1), ?_⟩))
  refine ⟨⟨reg [(17,iv ((i+1):Int)),(16,iv (lz1.length:Nat)),(15,zS qz1 0 lz1.length),(7,iv (x*256+lz1.getD i 0 % 256))],(wA q L)⟩, ?_⟩
  refine zde om ⟨?_, ?_⟩
  ·exact Wk.ren [0] rfl rfl dC ⟨rfl,rfl,((qG rfl)).trans rfl,rfl,trivial⟩ ⟨.inl (zF (zH _)),trivial⟩
  ·exact ⟨(i+1),(x*256+lz1.getD i 0 % 256),rfl,om,(numB_s hlz1 om hx rfl),(by rw [show x*256+lz1.getD i 0 % 256=qD l a (i+1) from numB_s hlz1 om hx rfl];exact zez _ _ _ om),rfl⟩
 have h2': ¬((i:Int) < (lz1.length:Nat)):=of_decide_eq_false h2
 exact zb1 (zA (zJ (zN (o_d 2 [(6,iv x),(27,iv x)] (zE (zA (qW (⟨trivial,⟨reg [(6,iv x)],(wA q L)⟩,Wk.ren [0] rfl rfl dC ⟨rfl,trivial⟩ ⟨.inl (zF (zH _)),trivial⟩,[iv x],(zT rfl rfl),(zM rfl z5),(congrArg wg (hx.trans (congrArg (qD l a) (by omega:i=n)))),rfl⟩))))))))
theorem putC {P:Program} [PrC P] (q:Option (Nat×Nat)) (L l:List Int) (hr:RowOf q L l) (a n:Nat) (v:Int) (ha:a+n≤l.length) (hn:n≤8) (hl:l.length≤100000):
    Env P "roundhouse/wire.put" [zS q 0 l.length,iv (a:Nat),iv (n:Nat),iv v] ([zG q (u8 L) true]) (fun w h'=>w= .tuple #[]∧h'= [zG q (u8 (zbq L (qo q+a) n v)) true]):=by
 refine Env.by2 PrC.wire_put ?_
 unfold zjE
 show GC _ 1 _ _ ⟨reg [(0,zS q 0 l.length),(1,iv (a:Nat)),(2,iv (n:Nat)),(3,iv v)],[zG q (u8 L) true]⟩
 refine zJ (zN (o_d 1 [(9,iv (n:Nat))] (o_s (by refine zK (v:= .int .i64 (i64.wrap ((n:Nat) - 1))) (congrArg wg (w64 om om)) ?_;kernel_rfl) ?_)))
 refine o_d 1 [(8,iv ((n:Nat) - 1))] (zE (zA (qU (zcs (fun μ s=> ∃(j:Nat),∃(k:Int),∃(w:Int),∃(M:List Int),∃(m:List Int),μ=j+1∧(j≤n)∧(k=(j:Int) - 1)∧(zbq M (qo q+a) j w=zbq L (qo q+a) n v)∧(RowOf q M m)∧(m.length=l.length)∧s=⟨reg [(8,iv k),(0,zS q 0 l.length),(1,iv (a:Nat)),(3,iv w)],[zG q (u8 M) true]⟩) ⟨(n+1), ?_⟩ ?_))))
 ·skip
  refine ⟨⟨reg [(8,iv ((n:Int) - 1)),(0,zS q 0 l.length),(1,iv (a:Nat)),(3,iv v)],[zG q (u8 L) true]⟩, ?_⟩
  refine ⟨?_, ?_⟩
  ·exact Wk.ren [0] rfl rfl dC ⟨rfl,((qG rfl)).trans rfl,rfl,rfl,trivial⟩ ⟨.inl (zF (zH _)),trivial⟩
  ·exact ⟨n,((n:Int) - 1),v,L,l,rfl,(Nat.le_refl _),rfl,rfl,hr,rfl,rfl⟩
 rintro μ s ⟨j,k,w,M,m,rfl,hj,hk,hM,hr2,hm,rfl⟩
 refine zJ (zJ (zN (o_d 2 [(12,bv (decide (k≥0))),(11,iv k)] (zE (zA (qJ (t:=decide (k≥0)) rfl (fun h1=>?_) (fun h1=>?_)))))))
 ·skip
  have h1':k≥0:=of_decide_eq_true h1
  refine qK (zA (zJ (qU (zJ (zN (o_d 3 [(17,iv k),(16,iv (a:Nat)),(15,zS q 0 l.length)] (o_s (by refine zK (v:= .int .i64 (i64.wrap ((a:Nat)+k))) (congrArg wg (w64 om om)) ?_;kernel_rfl) ?_)))))))
  refine o_d 2 [(20,.int .u8 (w % 256)),(19,iv w)] (o_s (by exact qP (o':=qo q+(a+(j - 1))) rfl hr.nil rfl om om) ?_)
  refine zdj (by exact zij (x:=w) rfl rfl rfl (fun e=>by have:=hr2.nil e;omega) (by have:=hr2.off (fun e=>by have:=hr2.nil e;omega);omega) rfl rfl) ?_
  refine zE (zA (zN (o_d 1 [(22,iv w)] (o_s (by refine zK (v:= .int .i64 (w.fdiv 256)) (congrArg wg (zb9 dC)) ?_;kernel_rfl) ?_))))
  refine o_d 1 [(3,iv (w / 256))] (zE (zA (zN (o_d 1 [(13,iv k)] (o_s (by refine zK (v:= .int .i64 (i64.wrap (k - 1))) (congrArg wg (w64 om om)) ?_;kernel_rfl) ?_)))))
  refine o_d 1 [(8,iv (k - 1))] (zE (⟨(j - 1)+1, ?_⟩))
  refine ⟨⟨reg [(8,iv (k - 1)),(0,zS q 0 l.length),(1,iv (a:Nat)),(3,iv (w / 256))],[zG q (u8 (M.set (qo q+(a+(j - 1))) w)) true]⟩, ?_⟩
  refine zde om ⟨?_, ?_⟩
  ·exact Wk.ren [0] rfl rfl dC ⟨rfl,((qG rfl)).trans rfl,rfl,rfl,trivial⟩ ⟨.inl (zF (zH _)),trivial⟩
  ·exact ⟨(j - 1),(k - 1),(w / 256),(M.set (qo q+(a+(j - 1))) w),(m.set (a+(j - 1)) w),rfl,om,om,(put_s om hM),(row_set hr2 om _),(by rw [List.length_set];exact hm),rfl⟩
 have h1': ¬(k≥0):=of_decide_eq_false h1
 exact zb1 (⟨trivial,⟨reg [],[zG q (u8 M) true]⟩,Wk.ren [0] rfl rfl dC trivial ⟨.inl (zF (zH _)),trivial⟩,[],rfl,z5,rfl,(by rw [←hM,show j=0 by omega];rfl)⟩)
theorem zcb {P:Program} [PrC P] (q:Option (Nat×Nat)) (L l:List Int) (hr:RowOf q L l) (a n:Nat) (v:Int) (ha:a+n≤l.length) (hn:n≤8) (hl:l.length≤100000):
    Env P "roundhouse/roundhouseref3.put" [zS q 0 l.length,iv (a:Nat),iv (n:Nat),iv v] ([zG q (u8 L) true]) (fun w h'=>w= .tuple #[]∧h'= [zG q (u8 (zbq L (qo q+a) n v)) true]):=by
 refine Env.by2 PrC.ref3_put ?_
 unfold zjO
 show GC _ 1 _ _ ⟨reg [(0,zS q 0 l.length),(1,iv (a:Nat)),(2,iv (n:Nat)),(3,iv v)],[zG q (u8 L) true]⟩
 refine zJ (zN (o_d 1 [(9,iv (n:Nat))] (o_s (by refine zK (v:= .int .i64 (i64.wrap ((n:Nat) - 1))) (congrArg wg (w64 om om)) ?_;kernel_rfl) ?_)))
 refine o_d 1 [(8,iv ((n:Nat) - 1))] (zE (zA (qU (zcs (fun μ s=> ∃(j:Nat),∃(k:Int),∃(w:Int),∃(M:List Int),∃(m:List Int),μ=j+1∧(j≤n)∧(k=(j:Int) - 1)∧(zbq M (qo q+a) j w=zbq L (qo q+a) n v)∧(RowOf q M m)∧(m.length=l.length)∧s=⟨reg [(8,iv k),(0,zS q 0 l.length),(1,iv (a:Nat)),(3,iv w)],[zG q (u8 M) true]⟩) ⟨(n+1), ?_⟩ ?_))))
 ·skip
  refine ⟨⟨reg [(8,iv ((n:Int) - 1)),(0,zS q 0 l.length),(1,iv (a:Nat)),(3,iv v)],[zG q (u8 L) true]⟩, ?_⟩
  refine ⟨?_, ?_⟩
  ·exact Wk.ren [0] rfl rfl dC ⟨rfl,((qG rfl)).trans rfl,rfl,rfl,trivial⟩ ⟨.inl (zF (zH _)),trivial⟩
  ·exact ⟨n,((n:Int) - 1),v,L,l,rfl,(Nat.le_refl _),rfl,rfl,hr,rfl,rfl⟩
 rintro μ s ⟨j,k,w,M,m,rfl,hj,hk,hM,hr2,hm,rfl⟩
 refine zJ (zJ (zN (o_d 2 [(12,bv (decide (k≥0))),(11,iv k)] (zE (zA (qJ (t:=decide (k≥0)) rfl (fun h1=>?_) (fun h1=>?_)))))))
 ·skip
  have h1':k≥0:=of_decide_eq_true h1
  refine qK (zA (zJ (qU (zJ (zN (o_d 3 [(17,iv k),(16,iv (a:Nat)),(15,zS q 0 l.length)] (o_s (by refine zK (v:= .int .i64 (i64.wrap ((a:Nat)+k))) (congrArg wg (w64 om om)) ?_;kernel_rfl) ?_)))))))
  refine o_d 2 [(20,.int .u8 (w % 256)),(19,iv w)] (o_s (by exact qP (o':=qo q+(a+(j - 1))) rfl hr.nil rfl om om) ?_)
  refine zdj (by exact zij (x:=w) rfl rfl rfl (fun e=>by have:=hr2.nil e;omega) (by have:=hr2.off (fun e=>by have:=hr2.nil e;omega);omega) rfl rfl) ?_
  refine zE (zA (zN (o_d 1 [(22,iv w)] (o_s (by refine zK (v:= .int .i64 (w.fdiv 256)) (congrArg wg (zb9 dC)) ?_;kernel_rfl) ?_))))
  refine o_d 1 [(3,iv (w / 256))] (zE (zA (zN (o_d 1 [(13,iv k)] (o_s (by refine zK (v:= .int .i64 (i64.wrap (k - 1))) (congrArg wg (w64 om om)) ?_;kernel_rfl) ?_)))))
  refine o_d 1 [(8,iv (k - 1))] (zE (⟨(j - 1)+1, ?_⟩))
  refine ⟨⟨reg [(8,iv (k - 1)),(0,zS q 0 l.length),(1,iv (a:Nat)),(3,iv (w / 256))],[zG q (u8 (M.set (qo q+(a+(j - 1))) w)) true]⟩, ?_⟩
  refine zde om ⟨?_, ?_⟩
  ·exact Wk.ren [0] rfl rfl dC ⟨rfl,((qG rfl)).trans rfl,rfl,rfl,trivial⟩ ⟨.inl (zF (zH _)),trivial⟩
  ·exact ⟨(j - 1),(k - 1),(w / 256),(M.set (qo q+(a+(j - 1))) w),(m.set (a+(j - 1)) w),rfl,om,om,(put_s om hM),(row_set hr2 om _),(by rw [List.length_set];exact hm),rfl⟩
 have h1': ¬(k≥0):=of_decide_eq_false h1
 exact zb1 (⟨trivial,⟨reg [],[zG q (u8 M) true]⟩,Wk.ren [0] rfl rfl dC trivial ⟨.inl (zF (zH _)),trivial⟩,[],rfl,z5,rfl,(by rw [←hM,show j=0 by omega];rfl)⟩)
theorem zh7 {P:Program} [PrC P] (k:Int):
    Env P "roundhouse/wire.sumPlace" [iv k] ([]) (Ans (iv (zak k)) ([])):=by
 refine Env.by PrC.wire_sumPlace ?_
 unfold zfc
 show GC _ 0 _ _ ⟨reg [(0,iv k)],[]⟩
 refine zJ (zN (o_d 1 [(2,iv 0)] (zE (zA (zJ (zJ (zN (o_d 2 [(4,bv (k==3)),(3,iv k)] (zE (zA (qJ (t:=k==3) rfl (fun h1=>?_) (fun h1=>?_))))))))))))
 ·skip
  have h1':k=3:=zaQ h1
  refine zJ (zN (o_d 1 [(2,iv 18)] (zE (zA (qW ?_)))))
  have E0_:zak k=18:=by
   unfold zak;split<;>omega
  exact z7 [iv 18] (zT rfl rfl) rfl (by rw [E0_];rfl) rfl rfl
 have h1': ¬(k=3):=zaR h1
 refine qK (zA (zJ (zN (o_d 1 [(2,iv 22)] (zE (zA (qW ?_)))))))
 have E0_:zak k=22:=by
  unfold zak;split<;>omega
 exact z7 [iv 22] (zT rfl rfl) rfl (by rw [E0_];rfl) rfl rfl
theorem placeC {P:Program} [PrC P] (k:Int):
    Env P "roundhouse/roundhouseref3.place" [iv k] ([]) (Ans (iv (zak k)) ([])):=by
 refine Env.by PrC.ref3_place ?_
 unfold zhn
 show GC _ 0 _ _ ⟨reg [(0,iv k)],[]⟩
 refine zJ (zN (o_d 1 [(2,iv 0)] (zE (zA (zJ (zJ (zN (o_d 2 [(4,bv (k==3)),(3,iv k)] (zE (zA (qJ (t:=k==3) rfl (fun h1=>?_) (fun h1=>?_))))))))))))
 ·skip
  have h1':k=3:=zaQ h1
  refine zJ (zN (o_d 1 [(2,iv 18)] (zE (zA (qW ?_)))))
  have E0_:zak k=18:=by
   unfold zak;split<;>omega
  exact z7 [iv 18] (zT rfl rfl) rfl (by rw [E0_];rfl) rfl rfl
 have h1': ¬(k=3):=zaR h1
 refine qK (zA (zJ (zN (o_d 1 [(2,iv 22)] (zE (zA (qW ?_)))))))
 have E0_:zak k=22:=by
  unfold zak;split<;>omega
 exact z7 [iv 22] (zT rfl rfl) rfl (by rw [E0_];rfl) rfl rfl
theorem wknownC {P:Program} [PrC P] (k:Int):
    Env P "roundhouse/wire.known" [iv k] ([]) (Ans (bv (decide (k≥1)&&decide (k≤3))) ([])):=by
 refine Env.by PrC.wire_known ?_
 unfold zhc
 show GC _ 0 _ _ ⟨reg [(0,iv k)],[]⟩
 refine zJ (zN (o_d 1 [(2,bv false)] (zE (zA (zJ (zN (o_d 3 [(5,bv (decide (k≥1))),(4,bv (decide (k≥1))),(3,iv k)] (zbJ (b:=decide (k≥1)) 5 rfl (fun h1=>?_) (fun h1=>?_)))))))))
 ·skip
  have h1':k≥1:=of_decide_eq_true h1
  refine o_d 4 [(2,bv (decide (k≤3))),(8,bv (decide (k≤3))),(7,bv (decide (k≤3))),(6,iv k)] (zE (zA (qW ?_)))
  have E0_:(decide (k≥1)&&decide (k≤3))=decide (k≤3):=by
   first | rfl | (simp_all;omega) | simp_all
  exact z7 [bv (decide (k≤3))] (zT rfl rfl) rfl (by rw [E0_];rfl) rfl rfl
 have h1': ¬(k≥1):=of_decide_eq_false h1
 refine o_d 4 [(2,bv false),(8,bv false),(7,undef),(6,undef)] (zE (zA (qW ?_)))
 have E0_:(decide (k≥1)&&decide (k≤3))=false:=by
  first | rfl | (simp_all;omega) | simp_all
 exact z7 [bv false] (zT rfl rfl) rfl (by rw [E0_];rfl) rfl rfl
abbrev We (a:Nat) (b:Nat) (c:Nat) (d:Nat) (e:Nat):=[(a,bv false),(b,bv false),(c,undef),(d,undef),(e,undef)]
theorem wwithinC {P:Program} [PrC P] (k m:Int):
    Env P "roundhouse/wire.within" [iv k,iv m] ([]) (Ans (bv (decide (k≥0)&&decide (k≤m))) ([])):=by
 refine Env.by PrC.wire_within ?_
 unfold zgq
 show GC _ 0 _ _ ⟨reg [(0,iv k),(1,iv m)],[]⟩
 refine zJ (zN (o_d 1 [(4,bv false)] (zE (zA (zJ (zN (o_d 3 [(7,bv (decide (k≥0))),(6,bv (decide (k≥0))),(5,iv k)] (zbJ (b:=decide (k≥0)) 7 rfl (fun h1=>?_) (fun h1=>?_)))))))))
 ·skip
  have h1':k≥0:=of_decide_eq_true h1
  refine o_d 5 [(4,bv (decide (k≤m))),(11,bv (decide (k≤m))),(10,bv (decide (k≤m))),(9,iv m),(8,iv k)] (zE (zA (qW ?_)))
  have E0_:(decide (k≥0)&&decide (k≤m))=decide (k≤m):=by
   first | rfl | (simp_all;omega) | simp_all
  exact z7 [bv (decide (k≤m))] (zT rfl rfl) rfl (by rw [E0_];rfl) rfl rfl
 have h1': ¬(k≥0):=of_decide_eq_false h1
 refine o_d 5 (We 4 11 10 9 8) (zE (zA (qW ?_)))
 have E0_:(decide (k≥0)&&decide (k≤m))=false:=by
  first | rfl | (simp_all;omega) | simp_all
 exact z7 [bv false] (zT rfl rfl) rfl (by rw [E0_];rfl) rfl rfl
theorem zdK {P:Program} [PrC P] (k m:Int):
    Env P "roundhouse/roundhouseref3.out" [iv k,iv m] ([]) (Ans (bv (decide (k < 0) || decide (k > m))) ([])):=by
 refine Env.by PrC.ref3_out ?_
 unfold zjP
 show GC _ 0 _ _ ⟨reg [(0,iv k),(1,iv m)],[]⟩
 refine zJ (zN (o_d 1 [(4,bv false)] (zE (zA (zJ (zN (o_d 3 [(7,bv (decide (k < 0))),(6,bv (decide (k < 0))),(5,iv k)] (zbJ (b:=decide (k < 0)) 7 rfl (fun h1=>?_) (fun h1=>?_)))))))))
 ·skip
  have h1':k < 0:=of_decide_eq_true h1
  refine o_d 5 [(4,bv true),(11,bv true),(10,undef),(9,undef),(8,undef)] (zE (zA (qW ?_)))
  have E0_:(decide (k < 0) || decide (k > m))=true:=by
   first | rfl | (simp_all;omega) | simp_all
  exact z7 [bv true] (zT rfl rfl) rfl (by rw [E0_];rfl) rfl rfl
 have h1': ¬(k < 0):=of_decide_eq_false h1
 refine o_d 5 [(4,bv (decide (k > m))),(11,bv (decide (k > m))),(10,bv (decide (k > m))),(9,iv m),(8,iv k)] (zE (zA (qW ?_)))
 have E0_:(decide (k < 0) || decide (k > m))=decide (k > m):=by
  first | rfl | (simp_all;omega) | simp_all
 exact z7 [bv (decide (k > m))] (zT rfl rfl) rfl (by rw [E0_];rfl) rfl rfl
theorem pairC {P:Program} [PrC P] (q:Option (Nat×Nat)) (L l:List Int) (hr:RowOf q L l) (a:Nat) (ha:a < l.length) (hl:l.length≤100000):
    Env P "roundhouse/wire.pair" [zS q 0 l.length,iv (a:Nat)] ((wA q L)) (fun v h'=>v=iv (qD l a 2)∧h'= (wA q L)):=by
 refine Env.by2 PrC.wire_pair ?_
 unfold ziE
 show GC _ 1 _ _ ⟨reg [(0,zS q 0 l.length),(1,iv (a:Nat))],(wA q L)⟩
 refine zJ (zN (o_d 1 [(4,iv 0)] (zE (zA (zJ (zJ (zN (o_d 1 [(5,iv (a:Nat))] (o_s (by refine zK (v:= .int .i64 (i64.wrap ((a:Nat)+1))) (congrArg wg (w64 om om)) ?_;kernel_rfl) ?_)))))))))
 refine o_d 1 (vF 7 q 0 l) (o_s (by exact qM rfl hr.nil) ?_)
 refine o_d 1 [(9,bv (((a:Nat)+1:Int)==(l.length:Nat)))] (zE (zA (qJ (t:=((a:Nat)+1:Int)==(l.length:Nat)) rfl (fun h1=>?_) (fun h1=>?_))))
 ·skip
  have h1':((a:Nat)+1:Int)=(l.length:Nat):=zaQ h1
  refine zJ (zN (o_d 2 [(11,iv (a:Nat)),(10,zS q 0 l.length)] (o_s (by exact qP (o':=qo q+a) rfl hr.nil rfl om om) ?_)))
  refine o_s (by refine zV (v:= .int .u8 (l.getD a 0 % 256)) rfl (zbj (n:=l.length) rfl rfl hr.nil om) ?_;exact zb5 hr om rfl) ?_
  refine o_s (by refine zK (v:= .int .i64 (i64.wrap (l.getD a 0 % 256))) (congrArg wg (w64 om om)) ?_;kernel_rfl) ?_
  refine o_s (by refine zK (v:= .int .i64 (i64.wrap ((l.getD a 0 % 256)*256))) (congrArg wg (w64 om om)) ?_;kernel_rfl) ?_
  exact o_d 1 [(4,iv ((l.getD a 0 % 256)*256))] (zE (zA (qW (⟨trivial,⟨reg [(4,iv ((l.getD a 0 % 256)*256))],(wA q L)⟩,Wk.ren [0] rfl rfl dC ⟨rfl,trivial⟩ ⟨.inl (zF (zH _)),trivial⟩,[iv ((l.getD a 0 % 256)*256)],(zT rfl rfl),(zM rfl z5),(congrArg wg (pair_odd om)),rfl⟩))))
 have h1': ¬(((a:Nat)+1:Int)=(l.length:Nat)):=zaR h1
 refine qK (zA (zJ (zN (o_d 2 [(17,iv (a:Nat)),(16,zS q 0 l.length)] (qV (zaD [0] (wA q L) [zS q 0 l.length,iv (a:Nat),iv 2] (getC q L l hr a 2 om om om) rfl (zQ (qG rfl) (zQ rfl (zQ rfl rfl))) ⟨⟨_,rfl,z4 (zH _) rfl (fun q=>q)⟩,trivial⟩ dC ?_))))))
 rintro v1 h1' ⟨rfl,rfl⟩
 refine ⟨q9 [_] [],iv (qD l a 2),(wA q L),[],rfl,⟨(zaV rfl rfl),trivial⟩,trivial, ?_⟩
 have hn2:=(zcJ l a).2.1
 exact o_d 1 [(4,iv (qD l a 2))] (zE (zA (qW (⟨trivial,⟨reg [(4,iv (qD l a 2))],(wA q L)⟩,Wk.ren [0] rfl rfl dC ⟨rfl,trivial⟩ ⟨.inl (zF (zH _)),trivial⟩,[iv (qD l a 2)],(zT rfl rfl),(zM rfl z5),rfl,rfl⟩))))
abbrev wa (a:List Int):=(some (0,a.length))
theorem cloneC {P:Program} [PrC P] (q:Option (Nat×Nat)) (L l:List Int) (hr:RowOf q L l) (hl:l.length≤100000):
    Env P "roundhouse/wire.clone" (WO q l) ((wA q L)) (fun v h'=>v=zS (zD l) 1 l.length∧h'= [zG q (u8 L) false,zG (zD l) (u8 l) true]):=by
 refine Env.by2 PrC.wire_clone ?_
 unfold zhd
 show GC _ 1 _ _ ⟨reg (vF 0 q 0 l),(wA q L)⟩
 refine zJ (zN (o_d 1 [(2,.slice none 0 0)] (zE (zA (zJ (zJ (zN (o_d 1 (vF 4 q 0 l) (o_s (by exact qM rfl hr.nil) ?_)))))))))
 refine o_d 1 [(6,bv (((l.length:Nat):Int)==0))] (zE (zA (qJ (t:=((l.length:Nat):Int)==0) rfl (fun h1=>?_) (fun h1=>?_))))
 ·skip
  have h1':((l.length:Nat):Int)=0:=zaQ h1
  exact zJ (zN (o_d 1 [(2,.slice none 0 0)] (zE (zA (qW (⟨trivial,⟨reg [(2,.slice none 0 0)],[zG q (u8 L) false,.gone]⟩,Wk.ren [0,2] rfl rfl dC ⟨rfl,trivial⟩ ⟨.inl (zF (zH _)),.inr ⟨rfl,rfl⟩,trivial⟩,[.slice none 0 0],(zT rfl rfl),(zM rfl z5),(by rw [zjf om];rfl),(by rw [zjf om];rfl)⟩))))))
 have h1': ¬(((l.length:Nat):Int)=0):=zaR h1
 refine qK (zA (zJ (zN (o_d 1 (vF 7 q 0 l) (o_s (by exact qM rfl hr.nil) ?_)))))
 refine o_s (by exact run_mksB rfl rfl om) ?_
 refine o_b 1 [(3,zS (wa l) 1 l.length)] [zG q (u8 L) false,zG (wa l) (u8 (List.replicate l.length 0)) true] (zE (zA (zJ (zN (o_d 2 [(11,zS q 0 l.length),(10,zS (wa l) 1 l.length)] (o_s (by exact run_cpyB rfl rfl rfl (by simp) rfl hr rfl om rfl) ?_))))))
 exact zE (zA (zJ (zN (o_d 2 [(2,zS (wa l) 1 l.length),(13,zS (wa l) 1 l.length)] (zE (zA (qW (⟨trivial,⟨reg [(2,zS (wa l) 1 l.length)],[zG q (u8 L) false,zG (wa l) (u8 l) true]⟩,Wk.ren [0,1] rfl rfl dC ⟨rfl,trivial⟩ ⟨.inl (zF (zH _)),.inl (zF (zH _)),trivial⟩,[zS (wa l) 1 l.length],(zT rfl rfl),(zM rfl z5),(by rw [zdp om];rfl),(by rw [zdp om])⟩))))))))
end Go.Rh

namespace Go.Rh
section
variable {P:Program} {C:zag}
theorem isTup_renV {ρ:Nat→Nat} {v:Value} (h:zbt (zaF ρ v)=false):zbt v=false:=by
 cases v<;>first | rfl | (simp [zaF,zeY,zew,zbt] at h)
theorem one_rel {φ:Phi} {l l':List Value} (hE:Each (VR φ) l l') (ht: ∀v∈l,zbt v=false):VR φ (one l) (if h:l'.toArray.size=1 then l'.toArray[0] else .tuple l'.toArray):=by
 have hlen:=hE.1
 unfold one
 split
 ·rename_i v
  match l',hE with
  | [v'],hE=>simpa using hE.2 0 v v' rfl rfl
  | [],hE=>simp at hlen
  | _::_::_,hE=>simp at hlen
 ·rename_i hne
  have: ¬l'.toArray.size=1:=by
   intro h1
   have h2:l.length=1:=by rw [hlen];simpa using h1
   match l,h2 with
   | [v],_=>exact hne v rfl
  rw [dif_neg this]
  exact ⟨l'.toArray,rfl,by simpa using hE.mono2 fun v v' hv hr=>GR.of_VR (ht v hv) hr⟩
def wpF4 (C:zag) (c:IFunc) (args:List Value) (h:List Blk) (R:zen):Prop:=
 wpC C h.length c.body (fun ex s=>(match ex with | .exit _=>False | .goto _=>False | _=>True)∧∃l,zf1 s c.res=some l∧(∀v∈l,zbt v=false)∧∃s0 sel l0,WkR h.length s s0 sel∧l0.map (zaF (rho sel s.h.length))=l∧R (one l0) s0.h) ⟨reg (argL 0 args),h⟩
theorem wpF4_sound (hC:zhE P C) {f:FuncId} {fn:Func} {c:IFunc} {args:List Value} {h:List Blk} {R:zen} (hf':P.funcs[f]? =some fn) (hc:cFunc P fn=some c) (hwp:wpF4 C c args h R):zjX P f args h R:=by
 unfold cFunc at hc
 split at hc<;>try cases hc
 rename_i body res hb hres
 split at hc<;>cases hc
 rename_i hwf
 intro w φ args' H hl hargs
 refine calls_of_wp hf' hb (wp_mono (zbN (n:=fn.ntmps) (h0:=h) (w0:=w) (φ0:=φ) hC H body _ _ w hwf ⟨φ,_,hwp, ?_⟩) ?_)
 ·refine ⟨by simp;omega,fun t=>?_,rfl,H,FrC.refl _ _ _⟩
  simp only [Array.getD_eq_getD_getElem?]
  rcases zhS args 0 t with h1 | ⟨v,h0,h1,h2⟩
  ·rw [h1];exact VR.junk
  ·have ht:=z6 h1
   have h3:args'[t]? =some (args'[t]'om):=by simp [show t < args'.size by omega]
   rw [Array.getElem?_append_left om,h2,h3]
   exact hargs t _ _ (by simpa using h1) h3
 ·intro e a' w' he
  have fin:Sim fn.ntmps φ h w (fun s=> ∃l,zf1 s res=some l∧(∀v∈l,zbt v=false)∧∃s0 sel l0,WkR h.length s s0 sel∧l0.map (zaF (rho sel s.h.length))=l∧R (one l0) s0.h) a' w'→
    a'.defers= []∧∃v,(results fn a'.tmps).run P w'= .ok v w'∧∃v0 v' h' φ',(Ending.returned v:Ending)= .returned v'∧R v0 h'∧VR φ' v0 v'∧HR φ' (hf h') w'∧FrC φ h w φ' h' w':=by
   rintro ⟨φ1,s,⟨l,hl1,hl2,s0,sel,l0,hwk,hle,hR⟩,I⟩
   have I2:=I.weakR' H hwk
   obtain ⟨l',hr,hE⟩:=zdu I hres hl1
   subst hle
   have hE:=(Each.map_left.1 hE).mono fun v v'=>(VR.ren (v:=v) (v':=v')).1
   refine ⟨I.defers,if h:l'.toArray.size=1 then l'.toArray[0] else .tuple l'.toArray, ?_, ?_⟩
   ·rw [zgN]
    simp [Array.mapM_eq_mapM_toList,hr]
   ·have hV:=one_rel hE (fun v hv=>isTup_renV (hl2 _ (List.mem_map.2 ⟨v,hv,rfl⟩)))
    exact ⟨_,_,_,_,rfl,hR,hV,I2.heap,I2.fr⟩
  cases e with
  | normal=>exact fin (he.mono fun s h=>h.2)
  | ret=>exact fin (he.mono fun s h=>h.2)
  | exit id=>obtain ⟨_,_,⟨h,_⟩,_⟩:=he;exact h.elim
  | goto l=>obtain ⟨_,_,⟨h,_⟩,_⟩:=he;exact h.elim
  | _=>exact he.elim
theorem Env.of4 {P:Program} {g:String} {c:IFunc} {args:List Value} {h:List Blk} {R:zen} (hc:qE P g=some c) (hwp:wpF4 (Env P) c args h R):Env P g args h R:=by
 intro f fn hf hn
 unfold qE at hc
 split at hc<;>try cases hc
 rename_i fn' hfl
 have hm:fn∈P.funcs.toList.filter (·.name==g):=List.mem_filter.2 ⟨by
  have:=Array.mem_of_getElem? hf
  simpa using this,by simpa using hn⟩
 rw [hfl] at hm
 have:fn=fn':=by simpa using hm
 subst this
 exact wpF4_sound (Env.sound P) hf hc hwp
end
theorem Env.by4 {P:Program} {g:String} {c:IFunc} {args:List Value} {h:List Blk} {R:zen} (hc:qE P g=some c)
  (hg:GC (Env P) h.length c.body (fun ex s=>(match ex with | .exit _=>False | .goto _=>False | _=>True)∧∃l,zf1 s c.res=some l∧(∀v∈l,zbt v=false)∧∃s0 sel l0,WkR h.length s s0 sel∧l0.map (zaF (rho sel s.h.length))=l∧R (one l0) s0.h) ⟨reg (argL 0 args),h⟩):Env P g args h R:=Env.of4 hc hg.out
theorem WkR.of {B:Nat} {s:St} {rs:List (Nat×Value)} {hs:List Blk} {sel:List Nat} (h1:hs.length=sel.length) (h2:sel.take B=List.range B) (h3:sel.Nodup) (hr:regsR (rho sel s.h.length) s.f rs) (hb:blksR (rho sel s.h.length) s.h sel hs):WkR B s ⟨reg rs,hs⟩ sel:=by
 refine ⟨h1,fun i hi=>?_,h3,fun t=>?_,fun i k b e1 e2=>ziY hb i k b e1 e2⟩
 ·have:(sel.take B)[i]? =some i:=by rw [h2];simp [hi]
  rwa [List.getElem?_take,if_pos hi] at this
 ·rcases reg_mem (l:=rs) (t:=t) with h | ⟨p,h4,h5,h6⟩
  ·exact .inl h
  ·refine .inr ?_
   show zaF _ (reg rs t)=_
   rw [h6,←h5]
   exact ziq hr h4
structure Pk where
  (k li pi fr t fp tp fl la:Int)
  ba:Bool
  co:Int
  (op da:List Int)
def pk0:Pk:=⟨0,0,0,0,0,0,0,0,0,false,0,[],[]⟩
def pkL (x:Pk) (qo:Option (Nat×Nat)) (ko:Nat) (qd:Option (Nat×Nat)) (kd:Nat):List Value:=
 [iv x.k,iv x.li,iv x.pi,iv x.fr,iv x.t,iv x.fp,iv x.tp,iv x.fl,iv x.la,bv x.ba,iv x.co,zS qo ko x.op.length,zS qd kd x.da.length]
def pkV (x:Pk) (qo:Option (Nat×Nat)) (ko:Nat) (qd:Option (Nat×Nat)) (kd:Nat):Value:= .agg ⟨pkL x qo ko qd kd⟩
theorem ren_pkL {ρ:Nat→Nat} {x:Pk} {qo qd:Option (Nat×Nat)} {ko kd ko' kd':Nat} (h1:ρ ko=ko') (h2:ρ kd=kd'):(pkL x qo ko qd kd).map (zew ρ)=pkL x qo ko' qd kd':=by
 simp only [pkL,List.map_cons,List.map_nil,zge h1,zge h2];rfl
theorem zcO {ρ:Nat→Nat} {x:Pk} {qo qd:Option (Nat×Nat)} {ko kd ko' kd':Nat} (h1:ρ ko=ko') (h2:ρ kd=kd'):zaF ρ (pkV x qo ko qd kd)=pkV x qo ko' qd kd':=by
 show Value.agg (Array.map (zew ρ) ⟨pkL x qo ko qd kd⟩)=_
 rw [show Array.map (zew ρ) ⟨pkL x qo ko qd kd⟩=⟨(pkL x qo ko qd kd).map (zew ρ)⟩ from by simp,ren_pkL h1 h2];rfl
theorem zcj {ρ:Nat→Nat} {x:Pk} {qo qd:Option (Nat×Nat)} {ko kd ko' kd':Nat} {rw:Bool} (h1:ρ ko=ko') (h2:ρ kd=kd'):some (Blk.cells (pkL x qo ko' qd kd') rw)=some (zbx ρ (.cells (pkL x qo ko qd kd) rw)):=by
 simp only [zbx];rw [ren_pkL h1 h2]
def zb7 (l:List Int):Int:=
 if l.length < 16 then 1 else if¬(l.getD 0 0 % 256≥1∧l.getD 0 0 % 256≤3) then 2
 else if qD l 2 2≠(l.length:Int)∨(l.length:Int) > 1500∨l.getD 13 0 % 256≠0 then 3
 else if zbY (l.take 16)≠65535 then 4
 else if l.length < 24∨(l.getD 0 0 % 256=3∧l.length < 44) then 1 else 0
def qX (l:List Int):Int×Pk:=
 if zb7 l≠0 then (zb7 l,pk0)
 else if l.getD 0 0 % 256=3 then
  if l.getD 17 0 % 256≠0 then (2,pk0)
  else (0,⟨l.getD 0 0 % 256,l.getD 1 0 % 256,l.getD 12 0 % 256,qD l 4 4,qD l 8 4,0,0,0,0,false,l.getD 16 0 % 256,[],l.drop 20⟩)
 else if l.getD 0 0 % 256=2 then
  (0,⟨l.getD 0 0 % 256,l.getD 1 0 % 256,l.getD 12 0 % 256,qD l 4 4,qD l 8 4,qD l 16 2,qD l 18 2,0,qD l 20 2,qD l 22 2==0,0,[],l.drop 24⟩)
 else if l.getD 20 0 % 256 > 15∨l.getD 21 0 % 256 > 40∨24+l.getD 21 0 % 256 > (l.length:Int) then (5,pk0)
 else (0,⟨l.getD 0 0 % 256,l.getD 1 0 % 256,l.getD 12 0 % 256,qD l 4 4,qD l 8 4,qD l 16 2,qD l 18 2,l.getD 20 0 % 256,0,false,0,(l.drop 24).take (l.getD 21 0 % 256).toNat,l.drop (24+(l.getD 21 0 % 256).toNat)⟩)
def zea (x:Pk):List Blk:= [zG (zD x.op) (u8 x.op) true,zG (zD x.da) (u8 x.da) true]
def zeb (l:List Int) (ko kd:Nat):Value:= .tuple #[pkV (qX l).2 (zD (qX l).2.op) ko (zD (qX l).2.da) kd,iv (qX l).1]
theorem headS_0 {l:List Int} (h:zb7 l=0):24≤l.length∧l.length≤1500∧(l.getD 0 0 % 256≥1∧l.getD 0 0 % 256≤3)∧(l.getD 0 0 % 256=3→44≤l.length)∧zbY (l.take 16)=65535∧qD l 2 2=(l.length:Int)∧l.getD 13 0 % 256=0:=by
 unfold zb7 at h
 split at h
 ·cases h
 split at h
 ·cases h
 split at h
 ·cases h
 split at h
 ·cases h
 split at h
 ·cases h
 omega
theorem zfV {l:List Int} (h:(qX l).1=0):zb7 l=0:=by
 unfold qX at h
 split at h
 ·rename_i h1;exact absurd h h1
 ·rename_i h1;exact Classical.byContradiction h1
end Go.Rh

set_option maxHeartbeats 1000000
namespace Go.Rh
abbrev vG (a:Nat) (b:Nat) (c:Nat) (d:Nat):=[(a,undef),(b,undef),(c,undef),(d,undef)]
theorem headC {P:Program} [PrC P] (q:Option (Nat×Nat)) (L l:List Int) (hr:RowOf q L l) (hl:l.length≤100000):
    Env P "roundhouse/wire.head" (WO q l) ((wA q L)) (fun v h'=>v=iv (zb7 l)∧h'= (wA q L)):=by
 refine Env.by2 PrC.wire_head ?_
 unfold ziF
 show GC _ 1 _ _ ⟨reg (vF 0 q 0 l),(wA q L)⟩
 refine zJ (zN (o_d 1 [(2,iv 0)] (zE (zA (zJ (qU (zJ (zN (o_d 1 (vF 4 q 0 l) (o_s (by exact qM rfl hr.nil) ?_))))))))))
 refine o_d 2 [(3,bv (decide (((l.length:Nat):Int) < 16))),(6,bv (decide (((l.length:Nat):Int) < 16)))] (zE (zA (qJ (t:=decide (((l.length:Nat):Int) < 16)) rfl (fun h1=>?_) (fun h1=>?_))))
 ·skip
  have h1':((l.length:Nat):Int) < 16:=of_decide_eq_true h1
  exact zJ (zN (o_d 1 [(2,iv 1)] (zE (zA (qW (⟨trivial,⟨reg [(2,iv 1)],(wA q L)⟩,Wk.ren [0] rfl rfl dC ⟨rfl,trivial⟩ ⟨.inl (zF (zH _)),trivial⟩,[iv 1],(zT rfl rfl),(zM rfl z5),(congrArg wg (by unfold zb7;(repeat' split)<;>first | rfl | omega)),rfl⟩))))))
 have h1': ¬(((l.length:Nat):Int) < 16):=of_decide_eq_false h1
 refine zJ (zN (o_d 1 (vF 8 q 0 l) (o_s (by exact qP (o':=qo q+0) rfl hr.nil rfl om om) ?_)))
 refine o_s (by refine zV (v:= .int .u8 (l.getD 0 0 % 256)) rfl (zbj (n:=l.length) rfl rfl hr.nil om) ?_;exact zb5 hr om rfl) ?_
 refine o_s (by refine zK (v:= .int .i64 (i64.wrap (l.getD 0 0 % 256))) (congrArg wg (w64 om om)) ?_;kernel_rfl) ?_
 refine qV (zab (wknownC (l.getD 0 0 % 256)) rfl rfl rfl (o_d 2 [(7,bv (!(decide ((l.getD 0 0 % 256)≥1)&&decide ((l.getD 0 0 % 256)≤3)))),(13,bv (!(decide ((l.getD 0 0 % 256)≥1)&&decide ((l.getD 0 0 % 256)≤3))))] (zE (zA (qJ (t:= !(decide ((l.getD 0 0 % 256)≥1)&&decide ((l.getD 0 0 % 256)≤3))) rfl (fun h2=>?_) (fun h2=>?_))))))
 ·skip
  have h3:(decide ((l.getD 0 0 % 256)≥1)&&decide ((l.getD 0 0 % 256)≤3))=false:=not_t h2
  have h3': ¬(((l.getD 0 0 % 256)≥1)∧((l.getD 0 0 % 256)≤3)):=by have q:=h3;simp only [Bool.and_eq_true,Bool.and_eq_false_iff,decide_eq_true_eq,decide_eq_false_iff_not,beq_iff_eq,beq_eq_false_iff_ne] at q;omega
  exact zJ (zN (o_d 1 [(2,iv 2)] (zE (zA (qW (⟨trivial,⟨reg [(2,iv 2)],(wA q L)⟩,Wk.ren [0] rfl rfl dC ⟨rfl,trivial⟩ ⟨.inl (zF (zH _)),trivial⟩,[iv 2],(zT rfl rfl),(zM rfl z5),(congrArg wg (by unfold zb7;(repeat' split)<;>first | rfl | omega)),rfl⟩))))))
 have h4:(decide ((l.getD 0 0 % 256)≥1)&&decide ((l.getD 0 0 % 256)≤3))=true:=not_f h2
 have h4':(((l.getD 0 0 % 256)≥1)∧((l.getD 0 0 % 256)≤3)):=by have q:=h4;simp only [Bool.and_eq_true,Bool.and_eq_false_iff,decide_eq_true_eq,decide_eq_false_iff_not,beq_iff_eq,beq_eq_false_iff_ne] at q;omega
 refine zJ (zN (o_d 1 (vF 15 q 0 l) (qV (zaD [0] (wA q L) [zS q 0 l.length,iv 2,iv 2] (getC q L l hr 2 2 om om om) rfl (zQ (qG rfl) (zQ rfl (zQ rfl rfl))) ⟨⟨_,rfl,z4 (zH _) rfl (fun q=>q)⟩,trivial⟩ dC ?_))))
 rintro v1 h1' ⟨rfl,rfl⟩
 refine ⟨q9 [_] [],iv (qD l 2 2),(wA q L),[],rfl,⟨(zaV rfl rfl),trivial⟩,trivial, ?_⟩
 have hn5:=(zcJ l 2).2.1
 refine o_d 1 (vF 17 q 0 l) (o_s (by exact qM rfl hr.nil) ?_)
 refine o_d 2 [(20,bv ((qD l 2 2)!=(l.length:Nat))),(19,bv ((qD l 2 2)!=(l.length:Nat)))] (zbJ (b:=(qD l 2 2)!=(l.length:Nat)) 20 rfl (fun h6=>?_) (fun h6=>?_))
 ·skip
  have h6':qD l 2 2≠(l.length:Nat):=ze5 h6
  exact o_d 11 [(14,bv true),(30,bv true),(29,undef),(28,undef),(27,undef),(26,undef),(25,bv true),(24,bv true),(23,undef),(22,undef),(21,undef)] (zE (zU [(14,bv true),(0,zS q 0 l.length)] (zc8 rfl (zJ (zN (o_d 1 [(2,iv 3)] (zE (zA (qW (⟨trivial,⟨reg [(2,iv 3)],(wA q L)⟩,Wk.ren [0] rfl rfl dC ⟨rfl,trivial⟩ ⟨.inl (zF (zH _)),trivial⟩,[iv 3],(zT rfl rfl),(zM rfl z5),(congrArg wg (by unfold zb7;(repeat' split)<;>first | rfl | omega)),rfl⟩))))))))))
 have h6': ¬(qD l 2 2≠(l.length:Nat)):=ze6 h6
 refine o_d 1 (vF 21 q 0 l) (qB rfl (o_s (by exact qM rfl hr.nil) ?_))
 refine o_d 3 [(25,bv (decide (((l.length:Nat):Int) > 1500))),(24,bv (decide (((l.length:Nat):Int) > 1500))),(23,bv (decide (((l.length:Nat):Int) > 1500)))] (zbJ (b:=decide (((l.length:Nat):Int) > 1500)) 25 rfl (fun h7=>?_) (fun h7=>?_))
 ·skip
  have h7':((l.length:Nat):Int) > 1500:=of_decide_eq_true h7
  exact o_d 6 ((14,bv true)::(30,bv true)::(vG 29 28 27 26)) (zE (zU [(14,bv true),(0,zS q 0 l.length)] (zc8 rfl (zJ (zN (o_d 1 [(2,iv 3)] (zE (zA (qW (⟨trivial,⟨reg [(2,iv 3)],(wA q L)⟩,Wk.ren [0] rfl rfl dC ⟨rfl,trivial⟩ ⟨.inl (zF (zH _)),trivial⟩,[iv 3],(zT rfl rfl),(zM rfl z5),(congrArg wg (by unfold zb7;(repeat' split)<;>first | rfl | omega)),rfl⟩))))))))))
 have h7': ¬(((l.length:Nat):Int) > 1500):=of_decide_eq_false h7
 refine o_d 1 (vF 26 q 0 l) (qB rfl (o_s (by exact qP (o':=qo q+13) rfl hr.nil rfl om om) ?_))
 refine qB rfl (o_s (by refine zV (v:= .int .u8 (l.getD 13 0 % 256)) rfl (zbj (n:=l.length) rfl rfl hr.nil om) ?_;exact zb5 hr om rfl) ?_)
 refine o_d 3 [(14,bv ((l.getD 13 0 % 256)!=0)),(30,bv ((l.getD 13 0 % 256)!=0)),(29,bv ((l.getD 13 0 % 256)!=0))] (zE (zU [(14,bv ((l.getD 13 0 % 256)!=0)),(0,zS q 0 l.length)] (qJ (t:=(l.getD 13 0 % 256)!=0) rfl (fun h8=>?_) (fun h8=>?_))))
 ·skip
  have h8':l.getD 13 0 % 256≠0:=ze5 h8
  exact zJ (zN (o_d 1 [(2,iv 3)] (zE (zA (qW (⟨trivial,⟨reg [(2,iv 3)],(wA q L)⟩,Wk.ren [0] rfl rfl dC ⟨rfl,trivial⟩ ⟨.inl (zF (zH _)),trivial⟩,[iv 3],(zT rfl rfl),(zM rfl z5),(congrArg wg (by unfold zb7;(repeat' split)<;>first | rfl | omega)),rfl⟩))))))
 have h8': ¬(l.getD 13 0 % 256≠0):=ze6 h8
 refine zJ (zN (o_d 1 (vF 32 q 0 l) ?_))
 obtain ⟨qz9,lz9,hlz9,hn9z,hq9z,hr9z,hs9z⟩:=zca (k:=0) hr (lo:=none) (hi:=(some (iv 16))) (mx:=none) 0 16 om (.inl ⟨rfl,rfl⟩) (.inr rfl) (.inl rfl)
 have hs9y:=hs9z.trans (rfl:q.isSome=q.isSome)
 refine o_s (by exact zaN rfl hq9z) ?_
 refine qV (zaD [0] (wA qz9 L) (WO qz9 lz9) (RightC qz9 L lz9 hr9z om) rfl (zQ (qG rfl) rfl) ⟨⟨_,rfl,z4 (zH _) hs9y (fun q=>q)⟩,trivial⟩ dC ?_)
 rintro v1 h1' ⟨rfl,rfl⟩
 refine ⟨q9 [_] [],bv (zbY lz9==65535),(wA q L),[],rfl,⟨(zaV hs9y rfl),trivial⟩,trivial, ?_⟩
 refine o_d 2 [(31,bv (!(zbY lz9==65535))),(35,bv (!(zbY lz9==65535)))] (zE (zA (qJ (t:= !(zbY lz9==65535)) rfl (fun h10=>?_) (fun h10=>?_))))
 ·skip
  have h11:(zbY lz9==65535)=false:=not_t h10
  have h11': ¬(zbY lz9=65535):=zaR h11
  refine zJ (zN (o_d 1 [(2,iv 4)] (zE (zA (qW ?_)))))
  have e1:zbY lz9=zbY (l.take 16):=congrArg zbY hlz9
  exact ⟨trivial,⟨reg [(2,iv 4)],(wA q L)⟩,Wk.ren [0] rfl rfl dC ⟨rfl,trivial⟩ ⟨.inl (zF (zH _)),trivial⟩,[iv 4],(zT rfl rfl),(zM rfl z5),(congrArg wg (by unfold zb7;(repeat' split)<;>first | rfl | omega)),rfl⟩
 have h12:(zbY lz9==65535)=true:=not_f h10
 have h12':zbY lz9=65535:=zaQ h12
 refine zJ (zN (o_d 1 (vF 37 q 0 l) (o_s (by exact qM rfl hr.nil) ?_)))
 refine o_d 2 [(40,bv (decide (((l.length:Nat):Int) < 24))),(39,bv (decide (((l.length:Nat):Int) < 24)))] (zbJ (b:=decide (((l.length:Nat):Int) < 24)) 40 rfl (fun h13=>?_) (fun h13=>?_))
 ·skip
  have h13':((l.length:Nat):Int) < 24:=of_decide_eq_true h13
  refine o_d 12 ((36,bv true)::(51,bv true)::(50,undef)::(49,undef)::(48,undef)::(47,undef)::(46,undef)::(45,undef)::(vG 44 43 42 41)) (zE (zU [(36,bv true)] (zc8 rfl (zJ (zN (o_d 1 [(2,iv 1)] (zE (zA (qW ?_)))))))))
  have e1:zbY lz9=zbY (l.take 16):=congrArg zbY hlz9
  exact ⟨trivial,⟨reg [(2,iv 1)],(wA q L)⟩,Wk.ren [0] rfl rfl dC ⟨rfl,trivial⟩ ⟨.inl (zF (zH _)),trivial⟩,[iv 1],(zT rfl rfl),(zM rfl z5),(congrArg wg (by unfold zb7;(repeat' split)<;>first | rfl | omega)),rfl⟩
 have h13': ¬(((l.length:Nat):Int) < 24):=of_decide_eq_false h13
 refine o_d 1 (vF 41 q 0 l) (qB rfl (o_s (by exact qP (o':=qo q+0) rfl hr.nil rfl om om) ?_))
 refine qB rfl (o_s (by refine zV (v:= .int .u8 (l.getD 0 0 % 256)) rfl (zbj (n:=l.length) rfl rfl hr.nil om) ?_;exact zb5 hr om rfl) ?_)
 refine qB rfl (o_s (by refine zK (v:= .int .i64 (i64.wrap (l.getD 0 0 % 256))) (congrArg wg (w64 om om)) ?_;kernel_rfl) ?_)
 refine o_d 2 [(46,bv ((l.getD 0 0 % 256)==3)),(45,bv ((l.getD 0 0 % 256)==3))] (zbJ (b:=(l.getD 0 0 % 256)==3) 46 rfl (fun h14=>?_) (fun h14=>?_))
 ·skip
  have h14':l.getD 0 0 % 256=3:=zaQ h14
  refine o_d 1 (vF 47 q 0 l) (qB rfl (o_s (by exact qM rfl hr.nil) ?_))
  refine o_d 4 [(36,bv (decide (((l.length:Nat):Int) < 44))),(51,bv (decide (((l.length:Nat):Int) < 44))),(50,bv (decide (((l.length:Nat):Int) < 44))),(49,bv (decide (((l.length:Nat):Int) < 44)))] (zE (zU [(36,bv (decide (((l.length:Nat):Int) < 44)))] (qJ (t:=decide (((l.length:Nat):Int) < 44)) rfl (fun h15=>?_) (fun h15=>?_))))
  ·skip
   have h15':((l.length:Nat):Int) < 44:=of_decide_eq_true h15
   refine zJ (zN (o_d 1 [(2,iv 1)] (zE (zA (qW ?_)))))
   have e1:zbY lz9=zbY (l.take 16):=congrArg zbY hlz9
   exact ⟨trivial,⟨reg [(2,iv 1)],(wA q L)⟩,Wk.ren [0] rfl rfl dC ⟨rfl,trivial⟩ ⟨.inl (zF (zH _)),trivial⟩,[iv 1],(zT rfl rfl),(zM rfl z5),(congrArg wg (by unfold zb7;(repeat' split)<;>first | rfl | omega)),rfl⟩
  have h15': ¬(((l.length:Nat):Int) < 44):=of_decide_eq_false h15
  refine qK (zA (zJ (zN (o_d 1 [(2,iv 0)] (zE (zA (qW ?_)))))))
  have e1:zbY lz9=zbY (l.take 16):=congrArg zbY hlz9
  exact ⟨trivial,⟨reg [(2,iv 0)],(wA q L)⟩,Wk.ren [0] rfl rfl dC ⟨rfl,trivial⟩ ⟨.inl (zF (zH _)),trivial⟩,[iv 0],(zT rfl rfl),(zM rfl z5),(congrArg wg (by unfold zb7;(repeat' split)<;>first | rfl | omega)),rfl⟩
 have h14': ¬(l.getD 0 0 % 256=3):=zaR h14
 refine o_d 6 ((36,bv false)::(We 51 50 49 48 47)) (zE (zU [(36,bv false)] (zbc rfl (qK (zA (zJ (zN (o_d 1 [(2,iv 0)] (zE (zA (qW ?_)))))))))))
 have e1:zbY lz9=zbY (l.take 16):=congrArg zbY hlz9
 exact ⟨trivial,⟨reg [(2,iv 0)],(wA q L)⟩,Wk.ren [0] rfl rfl dC ⟨rfl,trivial⟩ ⟨.inl (zF (zH _)),trivial⟩,[iv 0],(zT rfl rfl),(zM rfl z5),(congrArg wg (by unfold zb7;(repeat' split)<;>first | rfl | omega)),rfl⟩
abbrev wn:=[iv 0,iv 0,iv 0,iv 0,iv 0,iv 0,iv 0,iv 0,iv 0,bv false,iv 0,.slice none 0 0,.slice none 0 0]
abbrev wu (a:List Int) b:=iv (a.getD 0 0 % 256)::iv (a.getD 1 0 % 256)::iv (a.getD 12 0 % 256)::iv (qD a 4 4)::iv (qD a 8 4)::b
abbrev wQ:=#[iv 0,iv 0,iv 0,iv 0,iv 0,iv 0,iv 0,iv 0,iv 0,bv false,iv 0,.slice none 0 0,.slice none 0 0]
abbrev vV (a:Nat) b c (d:List Int):=[(a,zS (some (b,c)) 0 d.length)]
abbrev xm a:=[pkV (⟨0,0,0,0,0,0,0,0,0,false,0,([]:List Int),([]:List Int)⟩:Pk) (zD []) 1 (zD []) 2,iv a]
abbrev xI (a:List Int) b:=iv (qD a 16 2)::iv (qD a 18 2)::iv (a.getD 20 0 % 256)::iv 0::bv false::iv 0::b
abbrev xO (a:List Int) b:=iv (qD a 16 2)::iv (qD a 18 2)::iv 0::iv (qD a 20 2)::bv ((qD a 22 2)==0)::iv 0::.slice none 0 0::b
abbrev Yf (a:List Int) b:=iv 0::iv 0::iv 0::iv 0::bv false::iv (a.getD 16 0 % 256)::.slice none 0 0::b
theorem ParseC {P:Program} [PrC P] (q:Option (Nat×Nat)) (L l:List Int) (hr:RowOf q L l) (hl:l.length≤100000):
    Env P "roundhouse/wire.Parse" (WO q l) ((wA q L)) (fun v h'=>v=zeb l 1 2∧h'=zG q (u8 L) false::zea (qX l).2):=by
 refine Env.by4 PrC.wire_Parse ?_
 unfold zhf
 show GC _ 1 _ _ ⟨reg (vF 0 q 0 l),(wA q L)⟩
 refine zJ (zN (o_b 2 [(3,iv 0),(2,pv 1 0)] [zG q (u8 L) false,cw wn] (zE (zA (zJ (zJ (zN (o_d 1 (vF 7 q 0 l) (qV (zaD [0] (wA q L) (WO q l) (headC q L l hr om) rfl (zQ (qG rfl) rfl) ⟨⟨_,rfl,z4 (zH _) rfl (fun q=>q)⟩,trivial⟩ dC ?_))))))))))
 rintro v1 h1' ⟨rfl,rfl⟩
 refine ⟨q9 [_] [],iv (zb7 l),[zG q (u8 L) false,cw wn],[],rfl,⟨(zaV rfl rfl),rfl,trivial⟩,trivial, ?_⟩
 refine o_d 1 [(4,iv (zb7 l))] (zE (zA (zJ (zN (o_d 2 [(10,bv ((zb7 l)!=0)),(9,iv (zb7 l))] (zE (zA (qJ (t:=(zb7 l)!=0) rfl (fun h1=>?_) (fun h1=>?_)))))))))
 ·skip
  have h1':zb7 l≠0:=ze5 h1
  refine zJ (zN (o_d 4 [(3,iv (zb7 l)),(12,iv (zb7 l)),(11,.agg wQ)] (zE (zA (qW ?_)))))
  have he:qX l=(zb7 l,(⟨0,0,0,0,0,0,0,0,0,false,0,([]:List Int),([]:List Int)⟩:Pk)):=by unfold qX;(repeat' split)<;>first | (exfalso;omega) | rfl | simp only []
  exact ⟨trivial,[.agg wQ,iv (zb7 l)],(q8 rfl rfl rfl (zT rfl rfl)),(zM rfl (zM rfl z5)),⟨reg [],[zG q (u8 L) false,.gone,.gone]⟩,[0,3,4],[pkV (⟨0,0,0,0,0,0,0,0,0,false,0,([]:List Int),([]:List Int)⟩:Pk) (zD []) 1 (zD []) 2,iv (zb7 l)],WkR.of (rs:= []) rfl rfl dC trivial ⟨.inl (zF (zH _)),.inr ⟨rfl,rfl⟩,.inr ⟨rfl,rfl⟩,trivial⟩,(zQ (zcO rfl rfl) (zQ rfl rfl)),(by rw [zeb,he]<;>rfl),(by rw [zea,he]<;>rfl)⟩
 have h1': ¬(zb7 l≠0):=ze6 h1
 have h0:=headS_0 (Classical.byContradiction h1')
 obtain ⟨o,c,rfl⟩: ∃o c,q=some (o,c):=by
  cases q with
  | none=>have:=hr.nil rfl;omega
  | some p=>exact ⟨p.1,p.2,rfl⟩
 refine qK (zA (zJ (zbe [] (r_d 1 (vV 13 o c l) (r_s (by exact qP (q:=(some (o,c))) (k:=0) (m:=l.length) (o':=qo (some (o,c))+0) rfl (fun q=>by cases q) rfl om om) ?_)))))
 refine r_s (by refine zV (v:= .int .u8 (l.getD 0 0 % 256)) rfl rfl ?_;exact zb5 hr om rfl) ?_
 refine r_s (by refine zK (v:= .int .i64 (i64.wrap (l.getD 0 0 % 256))) (congrArg wg (w64 om om)) ?_;kernel_rfl) ?_
 refine r_d 1 (vV 17 o c l) (r_s (by exact qP (q:=(some (o,c))) (k:=0) (m:=l.length) (o':=qo (some (o,c))+1) rfl (fun q=>by cases q) rfl om om) ?_)
 refine r_s (by refine zV (v:= .int .u8 (l.getD 1 0 % 256)) rfl rfl ?_;exact zb5 hr om rfl) ?_
 refine r_s (by refine zK (v:= .int .i64 (i64.wrap (l.getD 1 0 % 256))) (congrArg wg (w64 om om)) ?_;kernel_rfl) ?_
 refine r_d 1 (vV 21 o c l) (r_s (by exact qP (q:=(some (o,c))) (k:=0) (m:=l.length) (o':=qo (some (o,c))+12) rfl (fun q=>by cases q) rfl om om) ?_)
 refine r_s (by refine zV (v:= .int .u8 (l.getD 12 0 % 256)) rfl rfl ?_;exact zb5 hr om rfl) ?_
 refine r_s (by refine zK (v:= .int .i64 (i64.wrap (l.getD 12 0 % 256))) (congrArg wg (w64 om om)) ?_;kernel_rfl) ?_
 refine r_d 1 (vV 25 o c l) (zeJ (zfb (a1:= [zS (some (o,c)) 0 l.length,iv 4,iv 4]) [0] [u8 L] (getC (some (o,c)) L l hr 4 4 om om om) rfl (fun _=>rfl) ⟨⟨_,rfl⟩,zH _,trivial⟩ rfl ?_))
 have hn2:=zez l 4 4 dC
 refine r_d 1 (vV 27 o c l) (zeJ (zfb (a1:= [zS (some (o,c)) 0 l.length,iv 8,iv 4]) [0] [u8 L] (getC (some (o,c)) L l hr 8 4 om om om) rfl (fun _=>rfl) ⟨⟨_,rfl⟩,zH _,trivial⟩ rfl ?_))
 have hn3:=zez l 8 4 dC
 refine r_b 3 [(5,pv 2 0),(29,.agg #[iv (l.getD 0 0 % 256),iv (l.getD 1 0 % 256),iv (l.getD 12 0 % 256),iv (qD l 4 4),iv (qD l 8 4),iv 0,iv 0,iv 0,iv 0,bv false,iv 0,.slice none 0 0,.slice none 0 0])] [zG (some (o,c)) (u8 L) false,cw wn,cw (wu l [iv 0,iv 0,iv 0,iv 0,bv false,iv 0,.slice none 0 0,.slice none 0 0])] (za3 (zU [(5,pv 2 0),(2,pv 1 0),(0,zS (some (o,c)) 0 l.length)] (zJ (zN (o_d 1 [(6,iv 24)] (zE (zA (zJ (zJ (zN (o_d 2 [(31,iv (l.getD 0 0 % 256)),(30,pv 2 0)] (zE ?_))))))))))))
 refine zA (qU (zJ (zN (o_d 2 [(71,bv ((l.getD 0 0 % 256)==3)),(72,bv ((l.getD 0 0 % 256)==3))] (zE (zA (qJ (t:=(l.getD 0 0 % 256)==3) rfl (fun h4=>?_) (fun h4=>?_))))))))
 ·skip
  have h4':l.getD 0 0 % 256=3:=zaQ h4
  refine zJ (zJ (zN (o_d 1 (vV 73 o c l) (o_s (by exact qP (q:=(some (o,c))) (k:=0) (m:=l.length) (o':=qo (some (o,c))+17) rfl (fun q=>by cases q) rfl om om) ?_))))
  refine o_s (by refine zV (v:= .int .u8 (l.getD 17 0 % 256)) rfl rfl ?_;exact zb5 hr om rfl) ?_
  refine o_d 1 [(76,bv ((l.getD 17 0 % 256)!=0))] (zE (zA (qJ (t:=(l.getD 17 0 % 256)!=0) rfl (fun h5=>?_) (fun h5=>?_))))
  ·skip
   have h5':l.getD 17 0 % 256≠0:=ze5 h5
   refine zJ (zN (o_d 3 [(3,iv 2),(77,.agg wQ)] (zE (zA (qW ?_)))))
   have he:qX l=(2,(⟨0,0,0,0,0,0,0,0,0,false,0,([]:List Int),([]:List Int)⟩:Pk)):=by unfold qX;(repeat' split)<;>first | (exfalso;omega) | rfl | simp only []
   exact ⟨trivial,[.agg wQ,iv 2],(q8 rfl rfl rfl (zT rfl rfl)),(zM rfl (zM rfl z5)),⟨reg [],[zG (some (o,c)) (u8 L) false,.gone,.gone]⟩,[0,4,5],(xm 2),WkR.of (rs:= []) rfl rfl dC trivial ⟨.inl (zF (zH _)),.inr ⟨rfl,rfl⟩,.inr ⟨rfl,rfl⟩,trivial⟩,(zQ (zcO rfl rfl) (zQ rfl rfl)),(by rw [zeb,he]<;>rfl),(by rw [zea,he]<;>rfl)⟩
  have h5': ¬(l.getD 17 0 % 256≠0):=ze6 h5
  refine qK (zA (zN (o_d 1 (vV 78 o c l) (o_s (by exact qP (q:=(some (o,c))) (k:=0) (m:=l.length) (o':=qo (some (o,c))+16) rfl (fun q=>by cases q) rfl om om) ?_))))
  refine o_s (by refine zV (v:= .int .u8 (l.getD 16 0 % 256)) rfl rfl ?_;exact zb5 hr om rfl) ?_
  refine o_s (by refine zK (v:= .int .i64 (i64.wrap (l.getD 16 0 % 256))) (congrArg wg (w64 om om)) ?_;kernel_rfl) ?_
  refine o_b 3 [(6,iv 20),(82,pv 2 10)] [zG (some (o,c)) (u8 L) false,cw wn,cw (wu l (Yf l [.slice none 0 0]))] (zE (zA (zJ (zN (o_d 3 [(100,zS (some (o,c)) 0 l.length),(99,iv 20),(98,zS (some (o,c)) 0 l.length)] (o_s (by exact qM (q:=(some (o,c))) (k:=0) (n:=l.length) rfl (fun q=>by cases q)) ?_))))))
  refine o_d 1 (vV 102 o c l) (o_s (by exact qM (q:=(some (o,c))) (k:=0) (n:=l.length) rfl (fun q=>by cases q)) ?_)
  obtain ⟨qz6,lz6,hlz6,hn6z,hq6z,hr6z,hs6z⟩:=zca (k:=0) hr (lo:=(some (iv 20))) (hi:=(some (iv (l.length:Nat)))) (mx:=(some (iv (l.length:Nat)))) 20 l.length om (.inr rfl) (.inr rfl) (.inr rfl)
  have hs6y:=hs6z.trans (rfl:(some (o,c)).isSome=(some (o,c)).isSome)
  refine o_s (by exact zaN rfl hq6z) ?_
  refine qV (zaD [0] (wA qz6 L) (WO qz6 lz6) (cloneC qz6 L lz6 hr6z om) rfl (zQ (qG rfl) rfl) ⟨⟨_,rfl,z4 (zH _) hs6y (fun q=>q)⟩,trivial⟩ dC ?_)
  rintro v1 h1' ⟨rfl,rfl⟩
  refine ⟨q9 [_] [_],zS (zD lz6) 3 lz6.length,[zG (some (o,c)) (u8 L) false,cw wn,cw (wu l (Yf l [.slice none 0 0]))],[zG (zD lz6) (u8 lz6) true],(qG rfl),⟨(zaV hs6y rfl),rfl,rfl,trivial⟩,⟨(Option.some.inj (zF (zH _))).symm,trivial⟩, ?_⟩
  refine o_d 1 [(106,pv 2 12)] (zdj (by exact run_stV (q:=zD lz6) (k1:=3) (n1:=lz6.length) rfl rfl rfl (Nat.le_of_ble_eq_true rfl) rfl) ?_)
  refine zE (zU [(5,pv 2 0),(2,pv 1 0)] (zJ (zN (o_b 3 [(3,iv 0),(107,.agg #[iv (l.getD 0 0 % 256),iv (l.getD 1 0 % 256),iv (l.getD 12 0 % 256),iv (qD l 4 4),iv (qD l 8 4),iv 0,iv 0,iv 0,iv 0,bv false,iv (l.getD 16 0 % 256),.slice none 0 0,zS (zD lz6) 3 lz6.length])] [zG (some (o,c)) (u8 L) false,cw (wu l (Yf l [zS (zD lz6) 3 lz6.length])),cw (wu l (Yf l [zS (zD lz6) 3 lz6.length])),zG (zD lz6) (u8 lz6) true] (zE (zA (qW ?_)))))))
  have e2:l.drop (20)=lz6:=by rw [hlz6,List.take_of_length_le (by simp<;>omega)]<;>congr 1<;>omega
  have he:qX l=(0,(⟨l.getD 0 0 % 256,l.getD 1 0 % 256,l.getD 12 0 % 256,qD l 4 4,qD l 8 4,0,0,0,0,false,l.getD 16 0 % 256,([]:List Int),lz6⟩:Pk)):=by unfold qX;(repeat' split)<;>first | (exfalso;omega) | rfl | simp only [e2]
  exact ⟨trivial,[.agg #[iv (l.getD 0 0 % 256),iv (l.getD 1 0 % 256),iv (l.getD 12 0 % 256),iv (qD l 4 4),iv (qD l 8 4),iv 0,iv 0,iv 0,iv 0,bv false,iv (l.getD 16 0 % 256),.slice none 0 0,zS (zD lz6) 3 lz6.length],iv 0],(q8 rfl rfl rfl (zT rfl rfl)),(zM rfl (zM rfl z5)),⟨reg [],[zG (some (o,c)) (u8 L) false,.gone,zG (zD lz6) (u8 lz6) true]⟩,[0,5,3],[pkV (⟨l.getD 0 0 % 256,l.getD 1 0 % 256,l.getD 12 0 % 256,qD l 4 4,qD l 8 4,0,0,0,0,false,l.getD 16 0 % 256,([]:List Int),lz6⟩:Pk) (zD []) 1 (zD lz6) 2,iv 0],WkR.of (rs:= []) rfl rfl dC trivial ⟨.inl (zF (zH _)),.inr ⟨rfl,rfl⟩,.inl (zF (zH _)),trivial⟩,(zQ (zcO rfl rfl) (zQ rfl rfl)),(by rw [zeb,he]<;>rfl),(by rw [zea,he]<;>rfl)⟩
 have h4': ¬(l.getD 0 0 % 256=3):=zaR h4
 refine zJ (zN (o_d 2 [(83,bv ((l.getD 0 0 % 256)==2)),(84,bv ((l.getD 0 0 % 256)==2))] (zE (zA (qJ (t:=(l.getD 0 0 % 256)==2) rfl (fun h7=>?_) (fun h7=>?_))))))
 ·skip
  have h7':l.getD 0 0 % 256=2:=zaQ h7
  refine zJ (zN (o_d 1 (vV 85 o c l) (qV (zdD (a1:= [zS (some (o,c)) 0 l.length,iv 16,iv 2]) [0] [u8 L] (getC (some (o,c)) L l hr 16 2 om om om) rfl (fun _=>rfl) ⟨⟨_,rfl⟩,zH _,trivial⟩ rfl ?_))))
  have hn8:=(zcJ l 16).2.1
  refine o_d 1 (vV 87 o c l) (qV (zdD (a1:= [zS (some (o,c)) 0 l.length,iv 18,iv 2]) [0] [u8 L] (getC (some (o,c)) L l hr 18 2 om om om) rfl (fun _=>rfl) ⟨⟨_,rfl⟩,zH _,trivial⟩ rfl ?_))
  have hn9:=(zcJ l 18).2.1
  refine o_b 4 [(90,pv 2 6),(89,pv 2 5)] [zG (some (o,c)) (u8 L) false,cw wn,cw (wu l [iv (qD l 16 2),iv (qD l 18 2),iv 0,iv 0,bv false,iv 0,.slice none 0 0,.slice none 0 0])] (zE (zA (zN (o_d 1 (vV 91 o c l) (qV (zdD (a1:= [zS (some (o,c)) 0 l.length,iv 20,iv 2]) [0] [u8 L] (getC (some (o,c)) L l hr 20 2 om om om) rfl (fun _=>rfl) ⟨⟨_,rfl⟩,zH _,trivial⟩ rfl ?_))))))
  have hn10:=(zcJ l 20).2.1
  refine o_d 1 (vV 93 o c l) (qV (zdD (a1:= [zS (some (o,c)) 0 l.length,iv 22,iv 2]) [0] [u8 L] (getC (some (o,c)) L l hr 22 2 om om om) rfl (fun _=>rfl) ⟨⟨_,rfl⟩,zH _,trivial⟩ rfl ?_))
  have hn11:=(zcJ l 22).2.1
  refine o_b 5 [(97,pv 2 9),(96,pv 2 8),(95,bv ((qD l 22 2)==0))] [zG (some (o,c)) (u8 L) false,cw wn,cw (wu l (xO l [.slice none 0 0]))] (zE (zA (zJ (zN (o_d 3 [(100,zS (some (o,c)) 0 l.length),(99,iv 24),(98,zS (some (o,c)) 0 l.length)] (o_s (by exact qM (q:=(some (o,c))) (k:=0) (n:=l.length) rfl (fun q=>by cases q)) ?_))))))
  refine o_d 1 (vV 102 o c l) (o_s (by exact qM (q:=(some (o,c))) (k:=0) (n:=l.length) rfl (fun q=>by cases q)) ?_)
  obtain ⟨qz12,lz12,hlz12,hn12z,hq12z,hr12z,hs12z⟩:=zca (k:=0) hr (lo:=(some (iv 24))) (hi:=(some (iv (l.length:Nat)))) (mx:=(some (iv (l.length:Nat)))) 24 l.length om (.inr rfl) (.inr rfl) (.inr rfl)
  have hs12y:=hs12z.trans (rfl:(some (o,c)).isSome=(some (o,c)).isSome)
  refine o_s (by exact zaN rfl hq12z) ?_
  refine qV (zaD [0] (wA qz12 L) (WO qz12 lz12) (cloneC qz12 L lz12 hr12z om) rfl (zQ (qG rfl) rfl) ⟨⟨_,rfl,z4 (zH _) hs12y (fun q=>q)⟩,trivial⟩ dC ?_)
  rintro v1 h1' ⟨rfl,rfl⟩
  refine ⟨q9 [_] [_],zS (zD lz12) 3 lz12.length,[zG (some (o,c)) (u8 L) false,cw wn,cw (wu l (xO l [.slice none 0 0]))],[zG (zD lz12) (u8 lz12) true],(qG rfl),⟨(zaV hs12y rfl),rfl,rfl,trivial⟩,⟨(Option.some.inj (zF (zH _))).symm,trivial⟩, ?_⟩
  refine o_d 1 [(106,pv 2 12)] (zdj (by exact run_stV (q:=zD lz12) (k1:=3) (n1:=lz12.length) rfl rfl rfl (Nat.le_of_ble_eq_true rfl) rfl) ?_)
  refine zE (zU [(5,pv 2 0),(2,pv 1 0)] (zJ (zN (o_b 3 [(3,iv 0),(107,.agg #[iv (l.getD 0 0 % 256),iv (l.getD 1 0 % 256),iv (l.getD 12 0 % 256),iv (qD l 4 4),iv (qD l 8 4),iv (qD l 16 2),iv (qD l 18 2),iv 0,iv (qD l 20 2),bv ((qD l 22 2)==0),iv 0,.slice none 0 0,zS (zD lz12) 3 lz12.length])] [zG (some (o,c)) (u8 L) false,cw (wu l (xO l [zS (zD lz12) 3 lz12.length])),cw (wu l (xO l [zS (zD lz12) 3 lz12.length])),zG (zD lz12) (u8 lz12) true] (zE (zA (qW ?_)))))))
  have e2:l.drop (24)=lz12:=by rw [hlz12,List.take_of_length_le (by simp<;>omega)]<;>congr 1<;>omega
  have he:qX l=(0,(⟨l.getD 0 0 % 256,l.getD 1 0 % 256,l.getD 12 0 % 256,qD l 4 4,qD l 8 4,qD l 16 2,qD l 18 2,0,qD l 20 2,(qD l 22 2)==0,0,([]:List Int),lz12⟩:Pk)):=by unfold qX;(repeat' split)<;>first | (exfalso;omega) | rfl | simp only [e2]
  exact ⟨trivial,[.agg #[iv (l.getD 0 0 % 256),iv (l.getD 1 0 % 256),iv (l.getD 12 0 % 256),iv (qD l 4 4),iv (qD l 8 4),iv (qD l 16 2),iv (qD l 18 2),iv 0,iv (qD l 20 2),bv ((qD l 22 2)==0),iv 0,.slice none 0 0,zS (zD lz12) 3 lz12.length],iv 0],(q8 rfl rfl rfl (zT rfl rfl)),(zM rfl (zM rfl z5)),⟨reg [],[zG (some (o,c)) (u8 L) false,.gone,zG (zD lz12) (u8 lz12) true]⟩,[0,5,3],[pkV (⟨l.getD 0 0 % 256,l.getD 1 0 % 256,l.getD 12 0 % 256,qD l 4 4,qD l 8 4,qD l 16 2,qD l 18 2,0,qD l 20 2,(qD l 22 2)==0,0,([]:List Int),lz12⟩:Pk) (zD []) 1 (zD lz12) 2,iv 0],WkR.of (rs:= []) rfl rfl dC trivial ⟨.inl (zF (zH _)),.inr ⟨rfl,rfl⟩,.inl (zF (zH _)),trivial⟩,(zQ (zcO rfl rfl) (zQ rfl rfl)),(by rw [zeb,he]<;>rfl),(by rw [zea,he]<;>rfl)⟩
 have h7': ¬(l.getD 0 0 % 256=2):=zaR h7
 refine zJ (zN (o_d 1 (vV 32 o c l) (qV (zdD (a1:= [zS (some (o,c)) 0 l.length,iv 16,iv 2]) [0] [u8 L] (getC (some (o,c)) L l hr 16 2 om om om) rfl (fun _=>rfl) ⟨⟨_,rfl⟩,zH _,trivial⟩ rfl ?_))))
 have hn13:=(zcJ l 16).2.1
 refine o_d 1 (vV 34 o c l) (qV (zdD (a1:= [zS (some (o,c)) 0 l.length,iv 18,iv 2]) [0] [u8 L] (getC (some (o,c)) L l hr 18 2 om om om) rfl (fun _=>rfl) ⟨⟨_,rfl⟩,zH _,trivial⟩ rfl ?_))
 have hn14:=(zcJ l 18).2.1
 refine o_b 4 [(37,pv 2 6),(36,pv 2 5)] [zG (some (o,c)) (u8 L) false,cw wn,cw (wu l [iv (qD l 16 2),iv (qD l 18 2),iv 0,iv 0,bv false,iv 0,.slice none 0 0,.slice none 0 0])] (zE (zA (zJ (zN (o_d 1 (vV 38 o c l) (o_s (by exact qP (q:=(some (o,c))) (k:=0) (m:=l.length) (o':=qo (some (o,c))+20) rfl (fun q=>by cases q) rfl om om) ?_))))))
 refine o_s (by refine zV (v:= .int .u8 (l.getD 20 0 % 256)) rfl rfl ?_;exact zb5 hr om rfl) ?_
 refine o_s (by refine zK (v:= .int .i64 (i64.wrap (l.getD 20 0 % 256))) (congrArg wg (w64 om om)) ?_;kernel_rfl) ?_
 refine o_b 2 [(42,pv 2 7)] [zG (some (o,c)) (u8 L) false,cw wn,cw (wu l (xI l [.slice none 0 0,.slice none 0 0]))] (zE (zA (zJ (zN (o_d 2 [(44,zS (some (o,c)) 0 l.length),(43,iv 24)] (o_s (by exact qP (q:=(some (o,c))) (k:=0) (m:=l.length) (o':=qo (some (o,c))+21) rfl (fun q=>by cases q) rfl om om) ?_))))))
 refine o_s (by refine zV (v:= .int .u8 (l.getD 21 0 % 256)) rfl rfl ?_;exact zb5 hr om rfl) ?_
 refine o_s (by refine zK (v:= .int .i64 (i64.wrap (l.getD 21 0 % 256))) (congrArg wg (w64 om om)) ?_;kernel_rfl) ?_
 refine o_s (by refine zK (v:= .int .i64 (i64.wrap (24+l.getD 21 0 % 256))) (congrArg wg (w64 om om)) ?_;kernel_rfl) ?_
 refine o_d 1 [(6,iv (24+l.getD 21 0 % 256))] (zE (zU [(6,iv (24+l.getD 21 0 % 256)),(5,pv 2 0),(2,pv 1 0),(0,zS (some (o,c)) 0 l.length)] (zJ (zJ (zN (o_d 4 [(52,bv (decide (l.getD 20 0 % 256 > 15))),(51,bv (decide (l.getD 20 0 % 256 > 15))),(50,iv (l.getD 20 0 % 256)),(49,pv 2 7)] (zbJ (b:=decide (l.getD 20 0 % 256 > 15)) 52 rfl (fun h15=>?_) (fun h15=>?_))))))))
 ·skip
  have h15':l.getD 20 0 % 256 > 15:=of_decide_eq_true h15
  refine o_d 11 ((63,bv true)::(62,undef)::(61,undef)::(60,undef)::(59,undef)::(58,bv true)::(57,bv true)::(vG 56 55 54 53)) (zE (zA (zc8 rfl (zJ (zN (o_d 3 [(3,iv 5),(64,.agg wQ)] (zE (zA (qW ?_)))))))))
  have he:qX l=(5,(⟨0,0,0,0,0,0,0,0,0,false,0,([]:List Int),([]:List Int)⟩:Pk)):=by unfold qX;(repeat' split)<;>first | (exfalso;omega) | rfl | simp only []
  exact ⟨trivial,[.agg wQ,iv 5],(q8 rfl rfl rfl (zT rfl rfl)),(zM rfl (zM rfl z5)),⟨reg [],[zG (some (o,c)) (u8 L) false,.gone,.gone]⟩,[0,4,5],(xm 5),WkR.of (rs:= []) rfl rfl dC trivial ⟨.inl (zF (zH _)),.inr ⟨rfl,rfl⟩,.inr ⟨rfl,rfl⟩,trivial⟩,(zQ (zcO rfl rfl) (zQ rfl rfl)),(by rw [zeb,he]<;>rfl),(by rw [zea,he]<;>rfl)⟩
 have h15': ¬(l.getD 20 0 % 256 > 15):=of_decide_eq_false h15
 refine o_d 1 (vV 53 o c l) (qB rfl (o_s (by exact qP (q:=(some (o,c))) (k:=0) (m:=l.length) (o':=qo (some (o,c))+21) rfl (fun q=>by cases q) rfl om om) ?_))
 refine qB rfl (o_s (by refine zV (v:= .int .u8 (l.getD 21 0 % 256)) rfl rfl ?_;exact zb5 hr om rfl) ?_)
 refine o_d 3 [(58,bv (decide (l.getD 21 0 % 256 > 40))),(57,bv (decide (l.getD 21 0 % 256 > 40))),(56,bv (decide (l.getD 21 0 % 256 > 40)))] (zbJ (b:=decide (l.getD 21 0 % 256 > 40)) 58 rfl (fun h16=>?_) (fun h16=>?_))
 ·skip
  have h16':l.getD 21 0 % 256 > 40:=of_decide_eq_true h16
  refine o_d 5 [(63,bv true),(62,undef),(61,undef),(60,undef),(59,undef)] (zE (zA (zc8 rfl (zJ (zN (o_d 3 [(3,iv 5),(64,.agg wQ)] (zE (zU [(3,iv 5),(2,pv 1 0)] (qW ?_)))))))))
  have he:qX l=(5,(⟨0,0,0,0,0,0,0,0,0,false,0,([]:List Int),([]:List Int)⟩:Pk)):=by unfold qX;(repeat' split)<;>first | (exfalso;omega) | rfl | simp only []
  exact ⟨trivial,[.agg wQ,iv 5],(q8 rfl rfl rfl (zT rfl rfl)),(zM rfl (zM rfl z5)),⟨reg [],[zG (some (o,c)) (u8 L) false,.gone,.gone]⟩,[0,4,5],(xm 5),WkR.of (rs:= []) rfl rfl dC trivial ⟨.inl (zF (zH _)),.inr ⟨rfl,rfl⟩,.inr ⟨rfl,rfl⟩,trivial⟩,(zQ (zcO rfl rfl) (zQ rfl rfl)),(by rw [zeb,he]<;>rfl),(by rw [zea,he]<;>rfl)⟩
 have h16': ¬(l.getD 21 0 % 256 > 40):=of_decide_eq_false h16
 refine o_d 2 [(60,zS (some (o,c)) 0 l.length),(59,iv (24+l.getD 21 0 % 256))] (qB rfl (o_s (by exact qM (q:=(some (o,c))) (k:=0) (n:=l.length) rfl (fun q=>by cases q)) ?_))
 refine o_d 2 [(63,bv (decide (24+l.getD 21 0 % 256 > (l.length:Nat)))),(62,bv (decide (24+l.getD 21 0 % 256 > (l.length:Nat))))] (zE (zA (qJ (t:=decide (24+l.getD 21 0 % 256 > (l.length:Nat))) rfl (fun h17=>?_) (fun h17=>?_))))
 ·skip
  have h17':24+l.getD 21 0 % 256 > (l.length:Nat):=of_decide_eq_true h17
  refine zJ (zN (o_d 3 [(3,iv 5),(64,.agg wQ)] (zE (zU [(3,iv 5),(2,pv 1 0)] (qW ?_)))))
  have he:qX l=(5,(⟨0,0,0,0,0,0,0,0,0,false,0,([]:List Int),([]:List Int)⟩:Pk)):=by unfold qX;(repeat' split)<;>first | (exfalso;omega) | rfl | simp only []
  exact ⟨trivial,[.agg wQ,iv 5],(q8 rfl rfl rfl (zT rfl rfl)),(zM rfl (zM rfl z5)),⟨reg [],[zG (some (o,c)) (u8 L) false,.gone,.gone]⟩,[0,4,5],(xm 5),WkR.of (rs:= []) rfl rfl dC trivial ⟨.inl (zF (zH _)),.inr ⟨rfl,rfl⟩,.inr ⟨rfl,rfl⟩,trivial⟩,(zQ (zcO rfl rfl) (zQ rfl rfl)),(by rw [zeb,he]<;>rfl),(by rw [zea,he]<;>rfl)⟩
 have h17': ¬(24+l.getD 21 0 % 256 > (l.length:Nat)):=of_decide_eq_false h17
 refine qK (zA (zN (o_d 3 [(67,iv (24+l.getD 21 0 % 256)),(66,iv (24+l.getD 21 0 % 256)),(65,zS (some (o,c)) 0 l.length)] ?_)))
 obtain ⟨qz18,lz18,hlz18,hn18z,hq18z,hr18z,hs18z⟩:=zca (k:=0) hr (lo:=(some (iv 24))) (hi:=(some (iv (24+l.getD 21 0 % 256)))) (mx:=(some (iv (24+l.getD 21 0 % 256)))) 24 ((24+l.getD 21 0 % 256).toNat) om (.inr rfl) (.inr (by first | rfl | (congr 2;omega))) (.inr (by first | rfl | (congr 2;omega)))
 have hs18y:=hs18z.trans (rfl:(some (o,c)).isSome=(some (o,c)).isSome)
 refine o_s (by exact zaN rfl hq18z) ?_
 refine qV (zaD [0] (wA qz18 L) (WO qz18 lz18) (cloneC qz18 L lz18 hr18z om) rfl (zQ (qG rfl) rfl) ⟨⟨_,rfl,z4 (zH _) hs18y (fun q=>q)⟩,trivial⟩ dC ?_)
 rintro v1 h1' ⟨rfl,rfl⟩
 refine ⟨q9 [_] [_],zS (zD lz18) 3 lz18.length,[zG (some (o,c)) (u8 L) false,cw wn,cw (wu l (xI l [.slice none 0 0,.slice none 0 0]))],[zG (zD lz18) (u8 lz18) true],(qG rfl),⟨(zaV hs18y rfl),rfl,rfl,trivial⟩,⟨(Option.some.inj (zF (zH _))).symm,trivial⟩, ?_⟩
 refine o_d 1 [(70,pv 2 11)] (zdj (by exact run_stV (q:=zD lz18) (k1:=3) (n1:=lz18.length) rfl rfl rfl (Nat.le_of_ble_eq_true rfl) rfl) ?_)
 refine zE (zU [(6,iv (24+l.getD 21 0 % 256)),(5,pv 2 0),(2,pv 1 0),(0,zS (some (o,c)) 0 l.length)] (zJ (zN (o_d 3 [(100,zS (some (o,c)) 0 l.length),(99,iv (24+l.getD 21 0 % 256)),(98,zS (some (o,c)) 0 l.length)] (o_s (by exact qM (q:=(some (o,c))) (k:=0) (n:=l.length) rfl (fun q=>by cases q)) ?_)))))
 refine o_d 1 (vV 102 o c l) (o_s (by exact qM (q:=(some (o,c))) (k:=0) (n:=l.length) rfl (fun q=>by cases q)) ?_)
 obtain ⟨qz19,lz19,hlz19,hn19z,hq19z,hr19z,hs19z⟩:=zca (k:=0) hr (lo:=(some (iv (24+l.getD 21 0 % 256)))) (hi:=(some (iv (l.length:Nat)))) (mx:=(some (iv (l.length:Nat)))) ((24+l.getD 21 0 % 256).toNat) l.length om (.inr (by first | rfl | (congr 2;omega))) (.inr rfl) (.inr rfl)
 have hs19y:=hs19z.trans (rfl:(some (o,c)).isSome=(some (o,c)).isSome)
 refine o_s (by exact zaN rfl hq19z) ?_
 refine qV (zaD [0] (wA qz19 L) (WO qz19 lz19) (cloneC qz19 L lz19 hr19z om) rfl (zQ (qG rfl) rfl) ⟨⟨_,rfl,z4 (zH _) hs19y (fun q=>q)⟩,trivial⟩ dC ?_)
 rintro v1 h1' ⟨rfl,rfl⟩
 refine ⟨q9 [_] [_],zS (zD lz19) 4 lz19.length,[zG (some (o,c)) (u8 L) false,cw wn,cw (wu l (xI l [zS (zD lz18) 3 lz18.length,.slice none 0 0])),zG (zD lz18) (u8 lz18) true],[zG (zD lz19) (u8 lz19) true],(qG rfl),⟨(zaV hs19y rfl),rfl,rfl,rfl,trivial⟩,⟨(Option.some.inj (zF (zH _))).symm,trivial⟩, ?_⟩
 refine o_d 1 [(106,pv 2 12)] (zdj (by exact run_stV (q:=zD lz19) (k1:=4) (n1:=lz19.length) rfl rfl rfl (Nat.le_of_ble_eq_true rfl) rfl) ?_)
 refine zE (zA (zJ (zN (o_b 3 [(3,iv 0),(107,.agg #[iv (l.getD 0 0 % 256),iv (l.getD 1 0 % 256),iv (l.getD 12 0 % 256),iv (qD l 4 4),iv (qD l 8 4),iv (qD l 16 2),iv (qD l 18 2),iv (l.getD 20 0 % 256),iv 0,bv false,iv 0,zS (zD lz18) 3 lz18.length,zS (zD lz19) 4 lz19.length])] [zG (some (o,c)) (u8 L) false,cw (wu l (xI l [zS (zD lz18) 3 lz18.length,zS (zD lz19) 4 lz19.length])),cw (wu l (xI l [zS (zD lz18) 3 lz18.length,zS (zD lz19) 4 lz19.length])),zG (zD lz18) (u8 lz18) true,zG (zD lz19) (u8 lz19) true] (zE (zA (qW ?_)))))))
 have e1:(l.drop 24).take (l.getD 21 0 % 256).toNat=lz18:=by rw [hlz18];congr 1;omega
 have e2:l.drop (24+(l.getD 21 0 % 256).toNat)=lz19:=by rw [hlz19,List.take_of_length_le (by simp<;>omega)]<;>congr 1<;>omega
 have he:qX l=(0,(⟨l.getD 0 0 % 256,l.getD 1 0 % 256,l.getD 12 0 % 256,qD l 4 4,qD l 8 4,qD l 16 2,qD l 18 2,l.getD 20 0 % 256,0,false,0,lz18,lz19⟩:Pk)):=by unfold qX;(repeat' split)<;>first | (exfalso;omega) | rfl | simp only [e1,e2]
 exact ⟨trivial,[.agg #[iv (l.getD 0 0 % 256),iv (l.getD 1 0 % 256),iv (l.getD 12 0 % 256),iv (qD l 4 4),iv (qD l 8 4),iv (qD l 16 2),iv (qD l 18 2),iv (l.getD 20 0 % 256),iv 0,bv false,iv 0,zS (zD lz18) 3 lz18.length,zS (zD lz19) 4 lz19.length],iv 0],(q8 rfl rfl rfl (zT rfl rfl)),(zM rfl (zM rfl z5)),⟨reg [],[zG (some (o,c)) (u8 L) false,zG (zD lz18) (u8 lz18) true,zG (zD lz19) (u8 lz19) true]⟩,[0,3,4],[pkV (⟨l.getD 0 0 % 256,l.getD 1 0 % 256,l.getD 12 0 % 256,qD l 4 4,qD l 8 4,qD l 16 2,qD l 18 2,l.getD 20 0 % 256,0,false,0,lz18,lz19⟩:Pk) (zD lz18) 1 (zD lz19) 2,iv 0],WkR.of (rs:= []) rfl rfl dC trivial ⟨.inl (zF (zH _)),.inl (zF (zH _)),.inl (zF (zH _)),trivial⟩,(zQ (zcO rfl rfl) (zQ rfl rfl)),(by rw [zeb,he]<;>rfl),(by rw [zea,he]<;>rfl)⟩
end Go.Rh
