/- The proofs zcl the intermediate form, part QPlaneOpensb. -/
import Derived.Test.YtcgficakdfdepaaGreatQPlaneOpensa
import Derived.Conc.LoneSelect
import Derived.Maps.RangeRun
import Derived.Laws.IdiomRangeMap
import Derived.Orders
import Derived.Scope
import Derived.Deep.LoopGhost
open Go.IntKind (i64)
set_option linter.unusedVariables false
set_option linter.unusedSimpArgs false
set_option maxRecDepth 100000
namespace Go.Rh
section
variable {P:Program} {o:Oper} {a:Act} {w:World} {φ:Phi} {h:Nat→Option Blk} {n:Nat} {e:Opd→Value}
theorem zeX (H:HR φ h w) {size m:Nat} {v v':Value} {c:List Value} (hf:first h size m v=some c) (hv:VR φ v v'): ∃c',(Builtin.firstCells size m v').run P w= .ok c' w∧Each (SR φ) c c'.toList:=by
 unfold first at hf
 split at hf
 ·rename_i k off l cp
  split at hf<;>try cases hf
  rename_i cs r hk
  split at hf<;>cases hf
  rename_i hb
  obtain ⟨x',rfl,_,b,bo,hφ,rfl⟩:=hv.slice
  obtain ⟨b',o',hφ',hB⟩:=H.has k _ hk
  rw [hφ] at hφ';cases hφ'
  obtain ⟨c',hr,hE⟩:=hB.seg (P:=P) off (m*size) hb
  exact ⟨c',hr,hE⟩
 ·cases hf
  rw [hv.sliceNil]
  exact ⟨#[],rfl,Each.nil _⟩
 ·cases hf
  rw [hv.string]
  refine ⟨_,rfl, ?_⟩
  rw [Array.toList_map]
  exact Each.refl_of fun v hv=>by
   obtain ⟨b,_,rfl⟩:=List.mem_map.1 hv
   exact SR.of_sclf rfl
 ·cases hf
theorem zik {v v':Value} {l:Nat} (hl:zi6 v=some l) (hv:VR φ v v'):(Builtin.lenOf v').run P w= .ok l w:=by
 unfold zi6 at hl
 split at hl<;>cases hl
 ·rename_i p c
  cases p with
  | none=>rw [hv.sliceNil];rfl
  | some p=>obtain ⟨x',rfl,_⟩:=hv.slice;rfl
 ·rw [hv.string];rfl
theorem does_cpy {dt st ty el:TypeId} {s:Nat} {x y:Operand} {x' y':Opd} {p:Option Addr} {dl dc sl:Nat} {c:List Value} {f:Eff} (he: ∀x y,opd x=some y→VR φ (e y) (a.eval x)) (H:HR φ h w)
  (ho:o.op= .call { callee:= .builtin .copy,args:= #[x,y],argTypes:= #[dt,st] }) (hx:opd x=some x') (hy:opd y=some y') (hu:P.underlying dt=some (.slice el)) (hs:zeT P el=some s)
  (ex:e x'= .slice p dl dc) (hl:zi6 (e y')=some sl) (hc:first h s (min sl dl) (e y')=some c)
  (hf:(p=none∧f= .no)∨∃k off old,p=some ⟨k,off,none⟩∧h k=some (.cells old true)∧off+c.length≤old.length∧f= .set k (.cells (splice old off c) true)):
  Does P o a w φ h n (.int .i64 (min sl dl:Nat)) f:=by
 have h1:=he _ _ hx
 have h2:=he _ _ hy
 rw [ex] at h1
 have hlo:=zik (P:=P) (w:=w) hl h2
 obtain ⟨c',hc',hE⟩:=zeX (P:=P) H hc h2
 rcases hf with ⟨rfl,rfl⟩ | ⟨k,off,old,rfl,hk,hb,rfl⟩
 ·refine Does.same H (v':= .int .i64 (min sl dl:Nat)) ?_ (VR.mkInt _ _)
  have hc2:(Builtin.firstCells s (sl.min dl) (a.eval y)).run P w= .ok c' w:=hc'
  simp [execOp,ho,resolve,invoke,builtin,Builtin.copy_,run_underlying hu,h1.sliceNil,hlo,zal hs,hc2,goInt]
 ·obtain ⟨x2,hx2,_,b,bo,hφ,rfl⟩:=h1.slice
  obtain ⟨w',hr,h3,h4⟩:=zfO (P:=P) (off:=off) H hk hφ hE om
  refine ⟨φ,.int .i64 (min sl dl:Nat),w',.inl ?_,VR.mkInt _ _,h3,h4⟩
  have hc2:(Builtin.firstCells s (sl.min dl) (a.eval y)).run P w= .ok c' w:=hc'
  simp [execOp,ho,resolve,invoke,builtin,Builtin.copy_,run_underlying hu,hx2,hlo,zal hs,hc2,hr,goInt]
theorem zhz: ∀ {l:List Value} {r:List UInt8},zf0 l=some r→∃ns:List Int,l=ns.map (.int .u8 ·)∧r=ns.map (fun n=>UInt8.ofNat n.toNat)
 | [],r,h=>by simp [zf0] at h;subst h;exact ⟨[],rfl,rfl⟩
 | v::l,r,h=>by
  unfold zf0 at h
  split at h
  ·rename_i he;cases he
  ·rename_i m q he
   cases he
   cases hq:zf0 l with
   | none=>simp [hq] at h
   | some r'=>
    obtain ⟨ns,rfl,rfl⟩:=zhz hq
    simp [hq] at h
    subst h
    exact ⟨m::ns,rfl,rfl⟩
  ·cases h
theorem run_push (w:World) (f:Value→ByteArray→Sem (ForInStep ByteArray)) (hf: ∀m s,f (.int .u8 m) s=pure (.yield (s.push (UInt8.ofNat m.toNat)))): ∀(ns:List Int) (s0:ByteArray),(forIn (ns.map (Value.int .u8 ·)) s0 f).run P w= .ok ⟨s0.data++(ns.map (fun n=>UInt8.ofNat n.toNat)).toArray⟩ w
 | [],s0=>by simp
 | m::ns,s0=>by
  simp only [List.map_cons,List.forIn_cons,Sem.run_bind,Sem.run_pure,Result.andThen_ok,hf]
  rw [run_push w f hf ns]
  congr 1
  simp [ByteArray.push]
theorem does_cbs {s d el:TypeId} {x:Operand} {y:Opd} {p:Option Addr} {l cp:Nat} {r:ByteArray} (he: ∀x y,opd x=some y→VR φ (e y) (a.eval x)) (H:HR φ h w) (ho:o.op= .convert s d x) (hx:opd x=some y) (hs:P.underlying s=some (.slice el)) (hd:P.underlying d=some .string)
  (hel:P.underlying el=some (.int .u8)) (hv:e y= .slice p l cp) (hr:(p=none∧r= .empty)∨∃k off c q,p=some ⟨k,off,none⟩∧first h 1 l (.slice (some ⟨k,off,none⟩) l cp)=some c∧zf0 c=some q∧r=⟨q.toArray⟩):
  Does P o a w φ h n (.string r) .no:=by
 have h1:=he _ _ hx
 rw [hv] at h1
 refine Does.same H (v':= .string r) ?_ (VR.mkString _)
 rcases hr with ⟨rfl,rfl⟩ | ⟨k,off,c,q,rfl,hc,hq,rfl⟩
 ·simp [execOp,ho,convert,run_underlying hs,run_underlying hd,run_underlying hel,h1.sliceNil,Conv.bytesToString]
 ·obtain ⟨c',hc',hE⟩:=zeX (P:=P) H hc h1
  obtain ⟨x2,hx2,_,b,bo,hφ,rfl⟩:=h1.slice
  obtain ⟨ns,rfl,rfl⟩:=zhz hq
  have hcc:c'.toList=ns.map (.int .u8 ·):=Each.plain hE (by intro v hv;obtain ⟨b,_,rfl⟩:=List.mem_map.1 hv;rfl)
  rw [hx2] at hc'
  simp only [Builtin.firstCells,Nat.mul_one] at hc'
  simp only [execOp,ho,convert,run_underlying hs,run_underlying hd,hx2,Sem.run_bind,Result.andThen_ok,run_underlying hel,Conv.bytesToString,hc']
  have key: ∀f:Value→ByteArray→Sem (ForInStep ByteArray),(∀m s,f (.int .u8 m) s=pure (.yield (s.push (UInt8.ofNat m.toNat))))→(forIn c' ByteArray.empty f).run P w= .ok ⟨(ns.map (fun n=>UInt8.ofNat n.toNat)).toArray⟩ w:=fun f hf=>by
   have:=run_push (P:=P) w f hf ns ByteArray.empty
   rw [←hcc,Array.forIn_toList] at this
   rw [this]
   simp
  rw [key _ (fun _ _=>rfl)]
  simp
theorem does_mkm {t:TypeId} (H:HR φ h w) (hn:h n=none) (ho:o.op= .makeMap t none):Does P o a w φ h n (.map (some n)) (.push (.map [])):=by
 refine Does.push H hn (.map #[] 0) (v':= .map (some w.heap.size)) ?_ ⟨rfl,#[],0,heap_alloc_new w _,Each.nil _,Each.nil _,rfl,rfl⟩ ⟨w.heap.size,rfl,by simp [zdr]⟩
 simp [execOp,ho,Instr.makeMap]
theorem does_mkc {t el:TypeId} {dir:ChanDir} {i:TypeInfo} {m:Nat} (H:HR φ h w) (hn:h n=none) (ho:o.op= .makeChan t (.const (.int .i64 m))) (hu:P.underlying t=some (.chan dir el)) (hi:P.info? el=some i) (hb:i.bytes*m≤2^48 - 112) (hm:m < 1000000):
  Does P o a w φ h n (.chan (some n)) (.push (.chan m [])):=by
 refine Does.push H hn (.chan m #[] false 0 0 false) (v':= .chan (some w.heap.size)) ?_ ⟨rfl,#[],0,0,heap_alloc_new w _,Each.nil _⟩ ⟨w.heap.size,rfl,by simp [zdr]⟩
 have h1: ¬((m:Int) < 0):=om
 have h2: ¬((m:Int) > 9223372036854775807):=om
 have h3: ¬((i.bytes:Int)*(m:Int) > 281474976710544):=by
  have:((i.bytes*m:Nat):Int)≤281474976710544:=om
  simpa using this
 simp [execOp,ho,Act.eval,Instr.makeChan,asInt,asIntOf,run_underlying hu,zbo hi,h1,h2,h3]
theorem does_lenM {t ty k el:TypeId} {x:Operand} {y:Opd} {m:Nat} (he: ∀x y,opd x=some y→VR φ (e y) (a.eval x)) (H:HR φ h w) (ho:o.op= .call { callee:= .builtin .len,args:= #[x],argTypes:= #[t] }) (hx:opd x=some y)
  (hu:P.underlying t=some (.map k el)) (hy:(e y= .map none∧m=0)∨∃r es,e y= .map (some r)∧h r=some (.map es)∧m=es.length):Does P o a w φ h n (.int .i64 m) .no:=by
 have h1:=he _ _ hx
 refine Does.same H (v':= .int .i64 m) ?_ (VR.mkInt _ _)
 rcases hy with ⟨hy,rfl⟩ | ⟨r,es,hy,hr,rfl⟩<;>rw [hy] at h1
 ·simp [execOp,ho,resolve,invoke,builtin,Builtin.len_,run_underlying hu,h1.mapNil,goInt]
 ·obtain ⟨b,hb,hφ⟩:=h1.map
  obtain ⟨b',o',hφ',_,ms,cl,hw,hE1,_⟩:=H.has r _ hr
  rw [hφ] at hφ';cases hφ'
  have hl:ms.size=es.length:=by have:=hE1.1;simp at this;omega
  simp [execOp,ho,resolve,invoke,builtin,Builtin.len_,run_underlying hu,hb,getObj,Sem.run,hw,goInt,hl]
theorem does_lenC {t ty el:TypeId} {dir:ChanDir} {x:Operand} {y:Opd} {r cap:Nat} {bf:List Value} (he: ∀x y,opd x=some y→VR φ (e y) (a.eval x)) (H:HR φ h w) (ho:o.op= .call { callee:= .builtin .len,args:= #[x],argTypes:= #[t] }) (hx:opd x=some y)
  (hu:P.underlying t=some (.chan dir el)) (hy:e y= .chan (some r)) (hr:h r=some (.chan cap bf)):Does P o a w φ h n (.int .i64 bf.length) .no:=by
 have h1:=he _ _ hx
 rw [hy] at h1
 refine Does.same H (v':= .int .i64 bf.length) ?_ (VR.mkInt _ _)
 obtain ⟨b,hb,hφ⟩:=h1.chan
 obtain ⟨b',o',hφ',_,bf',s,q,hw,hE1⟩:=H.has r _ hr
 rw [hφ] at hφ';cases hφ'
 have hl:bf'.size=bf.length:=by have:=hE1.1;simp at this;omega
 simp [execOp,ho,resolve,invoke,builtin,Builtin.len_,run_underlying hu,hb,getObj,Sem.run,hw,goInt,hl]
theorem find_none {kt:LK} {k:Value} {es:List (Value×Value)} (hf:find kt k es=some none): ∀x∈es,zdX kt k x.1=some false:=by
 induction es with
 | nil=>simp
 | cons x es ih=>
  simp only [find] at hf
  split at hf<;>try cases hf
  rename_i hs
  split at hf<;>try cases hf
  rename_i h2
  intro y hy
  rcases List.mem_cons.1 hy with rfl | hy
  ·exact hs
  ·exact ih h2 y hy
theorem find_some {kt:LK} {k:Value} : ∀ {es:List (Value×Value)} {i:Nat},find kt k es=some (some i)→(∃x,es[i]? =some x∧zdX kt k x.1=some true)∧∀(j:Nat) x,j < i→es[j]? =some x→zdX kt k x.1=some false
 | [],i,hf=>by simp [find] at hf
 | x::es,i,hf=>by
  simp only [find] at hf
  split at hf<;>try cases hf
  ·rename_i hs
   exact ⟨⟨x,rfl,hs⟩,fun j _ hj=>by omega⟩
  ·rename_i hs
   split at hf<;>cases hf
   rename_i i h2
   obtain ⟨⟨y,h3,h4⟩,h5⟩:=find_some h2
   refine ⟨⟨y,by simpa using h3,h4⟩,fun j z hj hz=>?_⟩
   cases j with
   | zero=>simp at hz;subst hz;exact hs
   | succ j=>exact h5 j z om (by simpa using hz)
def keyTy (kt:LK) (d:TypeDesc):Prop:=match kt with
 | .i=> ∃k,d= .int k
 | .s=>d= .string
 | .b=>False
theorem zgI {kt:LK} {d:TypeDesc} (hd:keyTy kt d) {u v u' v':Value} {r:Bool} (hs:zdX kt u v=some r) (hu:VR φ u u') (hv:GR φ v v'):Instr.sameNow d u' v'=some r∧u'=u∧v'=v:=by
 unfold zdX at hs
 split at hs<;>try cases hs
 ·split at hs<;>cases hs
  rename_i hk;subst hk
  obtain ⟨k,rfl⟩:=hd
  have:=hv.2
  rw [hu.int,hv.2]
  simp [Instr.sameNow]
 ·cases hd
  rw [hu.string,hv.2]
  simp [Instr.sameNow]
theorem sameKey_eq {kt:LK} {u v:Value} (h:zdX kt u v=some true):u=v:=by
 unfold zdX at h
 split at h
 ·split at h<;>simp_all
 ·rename_i x y
  obtain ⟨x⟩:=x
  obtain ⟨y⟩:=y
  have h':=Option.some.inj h
  change (x==y)=true at h'
  have:x=y:=by simpa using h'
  rw [this]
 ·cases h
theorem zgb {kt:LK} {u v:Value} {r:Bool} (h:zdX kt u v=some r):(∃k q,u= .int k q)∨∃q,u= .string q:=by
 unfold zdX at h
 split at h
 ·exact .inl ⟨_,_,rfl⟩
 ·exact .inr ⟨_,rfl⟩
 ·cases h
theorem zfa {kt:LK} {d:TypeDesc} (hd:keyTy kt d) {k k':Value} (hk:VR φ k k'): ∀(es:List (Value×Value)) (ms:List MapEntry) (j:Nat),Each (GR φ) (es.map (·.1)) (ms.map (·.key))→find kt k es=some none→Instr.findNow d k' ms j=some none
 | [],[],j,_,_=>rfl
 | x::es,m::ms,j,hE,hf=>by
  simp only [List.map_cons] at hE
  have h1:=find_none hf x (by simp)
  obtain ⟨h2,_,_⟩:=zgI hd h1 hk hE.head
  simp only [Instr.findNow,h2]
  refine zfa hd hk es ms (j+1) hE.tail ?_
  simp only [find,h1] at hf
  split at hf<;>first | cases hf;done | (rename_i h2;exact h2) | skip
  all_goals simp_all
 | [],_::_,_,hE,_=>by have:=hE.1;simp at this
 | _::_,[],_,hE,_=>by have:=hE.1;simp at this
theorem ze9 {kt:LK} {d:TypeDesc} (hd:keyTy kt d) {k k':Value} (hk:VR φ k k'): ∀(es:List (Value×Value)) (ms:List MapEntry) (j i:Nat),Each (GR φ) (es.map (·.1)) (ms.map (·.key))→find kt k es=some (some i)→
  ∃m,ms[i]? =some m∧Instr.findNow d k' ms j=some (some (j+i,m.val))∧m.key=k'
 | [],_,j,i,_,hf=>by simp [find] at hf
 | x::es,m::ms,j,i,hE,hf=>by
  simp only [List.map_cons] at hE
  simp only [find] at hf
  split at hf<;>try cases hf
  ·rename_i hs
   obtain ⟨h2,h3,h4⟩:=zgI hd hs hk hE.head
   refine ⟨m,rfl,by simp [Instr.findNow,h2], ?_⟩
   rw [h3,h4,sameKey_eq hs]
  ·rename_i hs
   split at hf<;>cases hf
   rename_i i h2
   obtain ⟨h3,_,_⟩:=zgI hd hs hk hE.head
   obtain ⟨m',h4,h5,h6⟩:=ze9 hd hk es ms (j+1) i hE.tail h2
   refine ⟨m',by simpa using h4, ?_,h6⟩
   simp only [Instr.findNow,h3,h5]
   congr 3
   omega
 | _::_,[],_,_,hE,_=>by have:=hE.1;simp at this
theorem keyK_spec {t:TypeId} {kt:LK} (hk:keyK P t=some kt): ∃d,P.underlying t=some d∧keyTy kt d:=by
 unfold keyK at hk
 split at hk<;>cases hk
 ·rename_i k hu;exact ⟨_,hu,k,rfl⟩
 ·rename_i hu;exact ⟨_,hu,rfl⟩
theorem zg5 {t:TypeId} {kt:LK} {d:TypeDesc} (hu:P.underlying t=some d) (hd:keyTy kt d) (b:Bool) (D:Nat) (v:Value):(Instr.checkKey b (D+1) t v).run P w= .ok () w:=by
 cases kt<;>simp only [keyTy] at hd
 ·obtain ⟨k,rfl⟩:=hd;simp [Instr.checkKey,run_underlying hu]
 ·subst hd;simp [Instr.checkKey,run_underlying hu]
theorem zjb {t:TypeId} {z:RL} {m:Option Nat} {zv:Value} (hz:zbM P t=some z) (hm:ldn P t=some m) (hg:zhT P t=m.isSome) (hv:zeroV z m.isSome=some zv): ∃zr,(zeroValue t).run P w= .ok zr w∧GR φ zv zr:=by
 obtain ⟨i,zr,hi,hzr,hc,hp,hs⟩:=zbr hz
 refine ⟨zr,zas hi hzr w, ?_⟩
 simp only [zhT,hi,Option.bind_some,hzr] at hg
 unfold zeroV at hv
 cases hms:m.isSome with
 | true=>
  rw [hms] at hg hv
  simp only [if_true,Option.some.injEq] at hv
  subst hv
  split at hg<;>try cases hg
  rename_i u hu
  cases hu
  refine ⟨_,rfl, ?_⟩
  simp only [Value.cells] at hc
  rw [hc]
  exact Each.refl_of fun v hv=>SR.of_sclf (hp v hv)
 | false=>
  rw [hms] at hg hv
  simp only [Bool.false_eq_true,if_false] at hv
  split at hv<;>cases hv
  rename_i hx
  rw [hx] at hc hp
  have hzz:zr.cells= #[zr]:=by
   cases zr<;>first | rfl | (cases hg)
  rw [hzz] at hc
  simp at hc
  subst hc
  exact GR.of_SR (SR.of_sclf (hp zr (by simp)))
theorem Each.getElem?_map {es:List (Value×Value)} {ms:List MapEntry} (h2:Each (GR φ) (es.map (·.2)) (ms.map (·.val))) {i:Nat} {x:Value×Value} {m:MapEntry} (hx:es[i]? =some x) (hm:ms[i]? =some m):GR φ x.2 m.val:=
 h2.2 i _ _ (by simp [hx]) (by simp [hm])
theorem does_lku {t kt el:TypeId} {kk:LK} {z:RL} {m:Option Nat} {ok:Bool} {x y:Operand} {x' y':Opd} {zv v:Value} (he: ∀x y,opd x=some y→VR φ (e y) (a.eval x)) (H:HR φ h w) (ho:o.op= .lookup t x y ok) (hx:opd x=some x') (hy:opd y=some y')
  (hu:P.underlying t=some (.map kt el)) (hkk:keyK P kt=some kk) (hz:zbM P el=some z) (hm:ldn P el=some m) (hg:zhT P el=m.isSome) (hzv:zeroV z m.isSome=some zv)
  (hv:(e x'= .map none∧v=if ok then .tuple #[zv,.bool false] else zv)∨∃r es,e x'= .map (some r)∧h r=some (.map es)∧
   ((∃i p,find kk (e y') es=some (some i)∧es[i]? =some p∧v=if ok then .tuple #[p.2,.bool true] else p.2)∨(find kk (e y') es=some none∧v=if ok then .tuple #[zv,.bool false] else zv))):
  Does P o a w φ h n v .no:=by
 have h1:=he _ _ hx
 have h2:=he _ _ hy
 obtain ⟨d,hd,hdk⟩:=keyK_spec hkk
 obtain ⟨zr,hzr,hzG⟩:=zjb (P:=P) (w:=w) (φ:=φ) hz hm hg hzv
 have hck: ∀b v,(Instr.checkKey b 10000 kt v).run P w= .ok () w:=fun b v=>zg5 hd hdk b 9999 v
 have hres: ∀(b:Bool) (u u':Value),GR φ u u'→VR φ (if ok then .tuple #[u,.bool b] else u) (if ok then .tuple #[u',.bool b] else u'):=by
  intro b u u' hG
  cases ok
  ·exact VR.of_GR hG
  ·exact ⟨_,rfl,Each.cons hG (Each.cons ⟨rfl,rfl⟩ (Each.nil _))⟩
 rcases hv with ⟨hxe,rfl⟩ | ⟨r,es,hxe,hr,hv⟩<;>rw [hxe] at h1
 ·refine Does.same H (v':=if ok then .tuple #[zr,.bool false] else zr) ?_ (hres _ _ _ hzG)
  have hl:(Instr.lookup t (a.eval x) (a.eval y) ok).run P w= .ok (if ok then .tuple #[zr,.bool false] else zr) w:=by
   rw [h1.mapNil]
   unfold Instr.lookup
   simp only [Sem.run_bind,run_underlying hu,Result.andThen_ok,Sem.run_pure,hck,Instr.findKey,run_underlying hd,Instr.findNow,hzr,List.toList_toArray]
  simp only [execOp,ho,Sem.run_bind,hl,Result.andThen_ok,Sem.run_pure]
 ·obtain ⟨b,hb,hφ⟩:=h1.map
  obtain ⟨b',o',hφ',_,ms,cl,hw,hE1,hE2,hE3,hE4⟩:=H.has r _ hr
  rw [hφ] at hφ';cases hφ'
  rcases hv with ⟨i,p,hf,hp,rfl⟩ | ⟨hf,rfl⟩
  ·obtain ⟨me,hme,hfn,_⟩:=ze9 hdk h2 es ms.toList 0 i hE1 hf
   refine Does.same H (v':=if ok then .tuple #[me.val,.bool true] else me.val) ?_ (hres _ _ _ (Each.getElem?_map hE2 hp hme))
   have hl:(Instr.lookup t (a.eval x) (a.eval y) ok).run P w= .ok (if ok then .tuple #[me.val,.bool true] else me.val) w:=by
    rw [hb]
    unfold Instr.lookup
    have hgo:(getObj b).run P w= .ok (.map ms cl) w:=by simp [getObj,Sem.run,hw]
    simp only [Sem.run_bind,run_underlying hu,Result.andThen_ok,Sem.run_pure,hgo,hck,Instr.findKey,run_underlying hd,hfn]
   simp only [execOp,ho,Sem.run_bind,hl,Result.andThen_ok,Sem.run_pure]
  ·have hfn:=zfa hdk h2 es ms.toList 0 hE1 hf
   refine Does.same H (v':=if ok then .tuple #[zr,.bool false] else zr) ?_ (hres _ _ _ hzG)
   have hl:(Instr.lookup t (a.eval x) (a.eval y) ok).run P w= .ok (if ok then .tuple #[zr,.bool false] else zr) w:=by
    rw [hb]
    unfold Instr.lookup
    have hgo:(getObj b).run P w= .ok (.map ms cl) w:=by simp [getObj,Sem.run,hw]
    simp only [Sem.run_bind,run_underlying hu,Result.andThen_ok,Sem.run_pure,hgo,hck,Instr.findKey,run_underlying hd,hfn,hzr]
   simp only [execOp,ho,Sem.run_bind,hl,Result.andThen_ok,Sem.run_pure]
theorem zjm {b:Nat} {ob ob':Obj} (hb:w.heap[b]? =some ob) (hc: ∀c e f,ob≠ .cells c e f):(setObj b ob').run P w= .ok () { w with heap:=w.heap.setIfInBounds b ob' } :=by
 cases ob<;>simp [setObj,Sem.run,hb]<;>exact absurd rfl (hc _ _ _)
theorem zg3 {b:Nat} {ob ob':Obj} (hb:w.heap[b]? =some ob):({ w with heap:=w.heap.setIfInBounds b ob' } :World).heap[b]? =some ob':=by
 obtain ⟨hlt,_⟩:=Array.getElem?_eq_some_iff.1 hb
 simp [hlt]
theorem zg4 {b j:Nat} {ob':Obj} (hj:j≠b):({ w with heap:=w.heap.setIfInBounds b ob' } :World).heap[j]? =w.heap[j]? :=by
 simp [Array.getElem?_setIfInBounds_ne (Ne.symm hj)]
theorem does_mup {t kt el:TypeId} {kk:LK} {x y z:Operand} {x' y' z':Opd} {r:Nat} {es:List (Value×Value)} {f:Eff} (he: ∀x y,opd x=some y→VR φ (e y) (a.eval x)) (H:HR φ h w) (ho:o.op= .mapUpdate t x y z) (hx:opd x=some x') (hy:opd y=some y') (hz:opd z=some z')
  (hu:P.underlying t=some (.map kt el)) (hkk:keyK P kt=some kk) (ht:zbt (e z')=false) (hxe:e x'= .map (some r)) (hr:h r=some (.map es))
  (hf:(∃i,find kk (e y') es=some (some i)∧f= .set r (.map (es.set i (e y',e z'))))∨(find kk (e y') es=some none∧zbt (e y')=false∧f= .set r (.map (es++ [(e y',e z')])))):
  Does P o a w φ h n undef f:=by
 have h1:=he _ _ hx
 have h2:=he _ _ hy
 have h3:=GR.of_VR ht (he _ _ hz)
 obtain ⟨d,hd,hdk⟩:=keyK_spec hkk
 have hck: ∀b v,(Instr.checkKey b 10000 kt v).run P w= .ok () w:=fun b v=>zg5 hd hdk b 9999 v
 rw [hxe] at h1
 obtain ⟨b,hb,hφ⟩:=h1.map
 obtain ⟨b',o',hφ',_,ms,cl,hw,hE1,hE2,hE3,hE4⟩:=H.has r _ hr
 rw [hφ] at hφ';cases hφ'
 have hgo:(getObj b).run P w= .ok (.map ms cl) w:=by simp [getObj,Sem.run,hw]
 rcases hf with ⟨i,hf,rfl⟩ | ⟨hf,hyt,rfl⟩
 ·obtain ⟨me,hme,hfn,hkey⟩:=ze9 hdk h2 es ms.toList 0 i hE1 hf
  have hme':ms[i]? =some me:=by simpa using hme
  obtain ⟨⟨p,hp,hsk⟩,_⟩:=find_some hf
  have hky:zbt (e y')=false:=by
   rcases zgb hsk with ⟨k,q,hq⟩ | ⟨q,hq⟩<;>rw [hq]<;>rfl
  have hsb:Instr.sameBits 10000 me.key (a.eval y)=true:=by
   rw [hkey]
   have hval:(∃k q,a.eval y= .int k q)∨∃q,a.eval y= .string q:=by
    rcases zgb hsk with ⟨k,q,hq⟩ | ⟨q,hq⟩<;>rw [hq] at h2
    ·exact .inl ⟨_,_,h2.int⟩
    ·exact .inr ⟨_,h2.string⟩
   rcases hval with ⟨k,q,hq⟩ | ⟨⟨q⟩,hq⟩<;>rw [hq]<;>simp [Instr.sameBits]
   show (q==q)=true
   simp
  have hks:(Instr.keyThatStays me.key (a.eval y)).run P w= .ok (a.eval y) w:=by
   unfold Instr.keyThatStays
   rw [if_pos hsb];rfl
  have hl:(Instr.mapUpdate t (a.eval x) (a.eval y) (a.eval z)).run P w= .ok () { w with heap:=w.heap.setIfInBounds b (.map (ms.modify i fun m=> { m with key:=a.eval y,val:=a.eval z }) cl) } :=by
   rw [hb]
   unfold Instr.mapUpdate
   simp only [Sem.run_bind,run_underlying hu,Result.andThen_ok,hgo,hck,Instr.findKey,run_underlying hd,hfn,Sem.run_pure,Nat.zero_add]
   have:(((ms[i]?).map (·.key)).getD (a.eval y))=me.key:=by simp [hme']
   rw [this,hks]
   simp only [Result.andThen_ok]
   exact zjm hw (by intro c e f h;cases h)
  have hlen:ms.size=es.length:=by have:=hE1.1;simp at this;omega
  have hmod:(ms.modify i fun m=> { m with key:=a.eval y,val:=a.eval z }).toList=ms.toList.set i { me with key:=a.eval y,val:=a.eval z } :=by
   rw [Array.toList_modify]
   apply List.ext_getElem?
   intro j
   rw [List.getElem?_modify,List.getElem?_set]
   by_cases hij:i=j
   ·subst hij
    obtain ⟨hlt,_⟩:=List.getElem?_eq_some_iff.1 hme
    rw [if_pos rfl,if_pos hlt,hme]
    simp
   ·simp [hij]
  obtain ⟨h4,h5⟩:=HR.set (w':= { w with heap:=w.heap.setIfInBounds b (.map (ms.modify i fun m=> { m with key:=a.eval y,val:=a.eval z }) cl) }) (blk':= .map (es.set i (e y',e z'))) H hr rfl hφ
   ⟨rfl,_,cl,zg3 hw,by
    rw [hmod,List.map_set,List.map_set];exact hE1.set (GR.of_VR hky h2) i,by
    rw [hmod,List.map_set,List.map_set];exact hE2.set h3 i,by
    rw [hmod,List.map_set]
    have:(ms.toList.map (·.born)).set i me.born=ms.toList.map (·.born):=by
     apply List.ext_getElem?
     intro j
     rw [List.getElem?_set]
     split
     ·rename_i hij;subst hij
      obtain ⟨hlt,_⟩:=List.getElem?_eq_some_iff.1 hme
      simp [hme]
      simpa using hlt
     ·rfl
    rw [this,hE3];simp,by rw [hE4];simp⟩ rfl (by simp) (fun j hj=>zg4 hj) rfl rfl rfl
  refine ⟨φ,undef,_,.inr ⟨?_,rfl⟩,VR.undef,h4,h5⟩
  simp only [execOp,ho,Sem.run_bind,hl,Result.andThen_ok,Sem.run_pure]
 ·have hfn:=zfa hdk h2 es ms.toList 0 hE1 hf
  have hl:(Instr.mapUpdate t (a.eval x) (a.eval y) (a.eval z)).run P w= .ok () { w with heap:=w.heap.setIfInBounds b (.map (ms.push { key:=a.eval y,val:=a.eval z,born:=cl }) (cl+1)) } :=by
   rw [hb]
   unfold Instr.mapUpdate
   simp only [Sem.run_bind,run_underlying hu,Result.andThen_ok,hgo,hck,Instr.findKey,run_underlying hd,hfn,Sem.run_pure]
   exact zjm hw (by intro c e f h;cases h)
  obtain ⟨h4,h5⟩:=HR.set (w':= { w with heap:=w.heap.setIfInBounds b (.map (ms.push { key:=a.eval y,val:=a.eval z,born:=cl }) (cl+1)) }) (blk':= .map (es++ [(e y',e z')])) H hr rfl hφ
   ⟨rfl,_,cl+1,zg3 hw,by
    simp only [Array.toList_push,List.map_append,List.map_cons,List.map_nil];exact hE1.append (Each.cons (GR.of_VR hyt h2) (Each.nil _)),by
    simp only [Array.toList_push,List.map_append,List.map_cons,List.map_nil];exact hE2.append (Each.cons h3 (Each.nil _)),by
    simp only [Array.toList_push,List.map_append,List.map_cons,List.map_nil]
    rw [hE3,hE4,Array.size_push,List.range_succ],by rw [hE4];simp⟩ rfl (by simp) (fun j hj=>zg4 hj) rfl rfl rfl
  refine ⟨φ,undef,_,.inr ⟨?_,rfl⟩,VR.undef,h4,h5⟩
  simp only [execOp,ho,Sem.run_bind,hl,Result.andThen_ok,Sem.run_pure]
end
end Go.Rh

namespace Go.Rh
section
variable {P:Program} {o:Oper} {a:Act} {w:World} {φ:Phi} {h:Nat→Option Blk} {n:Nat} {e:Opd→Value}
theorem bin_does {op:BinOp} {t t':TypeId} {x y:Operand} {v:Value} {f:Eff} (he: ∀x y,opd x=some y→VR φ (e y) (a.eval x)) (H:HR φ h w) (ho:o.op= .binOp op t x y t') (hs:z8 (cBin P op t x y) e h n=some (v,f)):Does P o a w φ h n v f:=by
  have plain: ∀x' y',opd x=some x'→opd y=some y'→z8 (.bin op x' y') e h n=some (v,f)→Does P o a w φ h n v f:=by
    intro x' y' hx hy hs
    simp only [z8] at hs
    split at hs<;>cases hs
    rename_i hv
    exact does_bin he H ho hx hy hv
  unfold cBin at hs
  split at hs
  · rename_i hop
    have hop':op= .eql∨op= .neq:=by simpa using hop
    split at hs
    · unfold O2 at hs;split at hs
      · rename_i x' y' hx hy;exact plain _ _ hx hy hs
      · cases hs
    · unfold O2 at hs;split at hs
      · rename_i x' y' hx hy;exact plain _ _ hx hy hs
      · cases hs
    · rename_i hu
      unfold O2 at hs;split at hs
      · rename_i x' y' hx hy
        simp only [z8] at hs
        split at hs<;>cases hs
        rename_i p q ex ey
        exact does_eqb he H ho hx hy hop' hu ex ey
      · cases hs
    · rename_i fs hu
      split at hs
      · rename_i ks hl
        split at hs
        · cases hs
        · rename_i hg
          unfold O2 at hs;split at hs
          · rename_i x' y' hx hy
            simp only [z8] at hs
            split at hs<;>try cases hs
            rename_i p q ex ey
            split at hs<;>cases hs
            rename_i r hr
            rw [zfM] at hr
            exact does_eqa he H ho hx hy hop' hu rfl hl (by simpa using hg) ex ey hr
          · cases hs
      · cases hs
    · rename_i len el hu
      split at hs
      · rename_i ks hl
        split at hs
        · cases hs
        · rename_i hg
          unfold O2 at hs;split at hs
          · rename_i x' y' hx hy
            simp only [z8] at hs
            split at hs<;>try cases hs
            rename_i p q ex ey
            split at hs<;>cases hs
            rename_i r hr
            rw [zfM] at hr
            exact does_eqa he H ho hx hy hop' hu rfl hl (by simpa using hg) ex ey hr
          · cases hs
      · cases hs
    all_goals first
      | cases hs;done
      | (rename_i hu
         unfold O2 at hs;split at hs
         · rename_i x' y' hx hy
           simp only [z8] at hs
           split at hs<;>cases hs
           rename_i r hr
           exact does_eqn he H ho hx hy hop' hu rfl hr
         · cases hs)
  · split at hs
    · unfold O2 at hs;split at hs
      · rename_i x' y' hx hy;exact plain _ _ hx hy hs
      · cases hs
    · unfold O2 at hs;split at hs
      · rename_i x' y' hx hy;exact plain _ _ hx hy hs
      · cases hs
    · cases hs
theorem one_of {α:Type} {x:α} {l:Array α} (h:l.toList= [x]):l= #[x]:=by
 apply Array.ext';simpa using h
theorem zjg {α:Type} {x y:α} {l:Array α} (h:l.toList= [x,y]):l= #[x,y]:=by
 apply Array.ext';simpa using h
theorem call_does {c:Call} {v:Value} {f:Eff} (he: ∀x y,opd x=some y→VR φ (e y) (a.eval x)) (H:HR φ h w) (ho:o.op= .call c) (hs:z8 (cCall P c o.type) e h n=some (v,f)):Does P o a w φ h n v f:=by
 obtain ⟨callee,args,argTypes⟩:=c
 unfold cCall at hs
 simp only at hs
 split at hs
 ·-- a Go function
  rename_i e1 e2 e3
  split at hs
  ·split at hs<;>cases hs
  ·cases hs
 ·-- len
  rename_i x t e2 e3
  rw [one_of e2,one_of e3] at ho
  split at hs
  ·rename_i el hu
   unfold O1 at hs;split at hs
   ·rename_i y hy
    simp only [z8] at hs
    split at hs<;>cases hs
    rename_i ev
    exact does_lenS (ty:=0) he H ho hy hu ev
   ·cases hs
  ·rename_i hu
   unfold O1 at hs;split at hs
   ·rename_i y hy
    simp only [z8] at hs
    split at hs<;>cases hs
    rename_i ev
    exact does_lenT he H ho hy hu ev
   ·cases hs
  ·rename_i k el hu
   unfold O1 at hs;split at hs
   ·rename_i y hy
    simp only [z8] at hs
    split at hs<;>try cases hs
    ·rename_i ev
     exact does_lenM (m:=0) (ty:=0) he H ho hy hu (.inl ⟨ev,rfl⟩)
    ·rename_i r ev
     split at hs<;>cases hs
     rename_i es hr
     exact does_lenM (ty:=0) he H ho hy hu (.inr ⟨r,es,ev,hr,rfl⟩)
   ·cases hs
  ·rename_i dir el hu
   unfold O1 at hs;split at hs
   ·rename_i y hy
    simp only [z8] at hs
    split at hs<;>try cases hs
    rename_i r ev
    split at hs<;>cases hs
    rename_i cap bf hr
    exact does_lenC (ty:=0) he H ho hy hu ev hr
   ·cases hs
  ·cases hs
 ·-- append
  rename_i x y st xt e1 e2 e3
  split at hs
  ·split at hs
   ·split at hs
    ·cases hs
    ·unfold O2 at hs;split at hs<;>simp [z8] at hs
   ·cases hs
  ·split at hs
   ·split at hs
    ·cases hs
    ·unfold O2 at hs;split at hs<;>simp [z8] at hs
   ·cases hs
  ·split at hs
   ·split at hs
    ·unfold O1 at hs;split at hs<;>simp [z8] at hs
    ·cases hs
   ·cases hs
  ·cases hs
 ·-- copy
  rename_i x y dt st e2 e3
  rw [zjg e2,zjg e3] at ho
  have main: ∀el s x' y',P.underlying dt=some (.slice el)→zeT P el=some s→opd x=some x'→opd y=some y'→z8 (.cpy s x' y') e h n=some (v,f)→Does P o a w φ h n v f:=by
   intro el s x' y' hu hsz hx hy hs
   simp only [z8] at hs
   split at hs<;>try cases hs
   rename_i p dl dc sl ex hl
   split at hs<;>try cases hs
   rename_i cc hc
   split at hs<;>try cases hs
   ·rename_i k off
    split at hs<;>try cases hs
    rename_i old hk
    split at hs<;>cases hs
    rename_i hb
    exact does_cpy (ty:=0) he H ho hx hy hu hsz ex hl hc (.inr ⟨k,off,old,rfl,hk,hb,rfl⟩)
   ·exact does_cpy (ty:=0) he H ho hx hy hu hsz ex hl hc (.inl ⟨rfl,rfl⟩)
  split at hs
  ·rename_i el _ hu hu2
   split at hs
   ·rename_i s hsz
    unfold O2 at hs;split at hs
    ·rename_i x' y' hx hy;exact main _ _ _ _ hu hsz hx hy hs
    ·cases hs
   ·cases hs
  ·rename_i el hu hu2
   split at hs
   ·rename_i s hsz
    unfold O2 at hs;split at hs
    ·rename_i x' y' hx hy;exact main _ _ _ _ hu hsz hx hy hs
    ·cases hs
   ·cases hs
  ·cases hs
 ·-- max
  rename_i x y e2
  rw [zjg e2] at ho
  split at hs
  ·unfold O2 at hs;split at hs
   ·rename_i x' y' hx hy
    simp only [z8] at hs
    split at hs<;>cases hs
    rename_i ex ey
    exact does_mm (b:=true) (t:=0) he H ho hx hy ex ey
   ·cases hs
  ·cases hs
 ·-- min
  rename_i x y e2
  rw [zjg e2] at ho
  split at hs
  ·unfold O2 at hs;split at hs
   ·rename_i x' y' hx hy
    simp only [z8] at hs
    split at hs<;>cases hs
    rename_i ex ey
    exact does_mm (b:=false) (t:=0) he H ho hx hy ex ey
   ·cases hs
  ·cases hs
 all_goals first
  | (cases hs;done)
  | (split at hs<;>simp [z8] at hs)
theorem zjh {v:Value} {f:Eff} (he: ∀x y,opd x=some y→VR φ (e y) (a.eval x)) (H:HR φ h w) (hn:h n=none) (hs:z8 (cOp P o) e h n=some (v,f)):Does P o a w φ h n v f:=by
 have hco:cOp P o=cOp P o:=rfl
 cases ho:o.op with
 | move x=>
  simp only [cOp,ho,O1] at hs
  split at hs<;>simp only [z8] at hs<;>cases hs
  rename_i y hy;exact does_mv he H (.inl ho) hy
 | assign x=>
  simp only [cOp,ho,O1] at hs
  split at hs<;>simp only [z8] at hs<;>cases hs
  rename_i y hy;exact does_mv he H (.inr ho) hy
 | pick c x y=>
  simp only [cOp,ho] at hs
  split at hs
  ·rename_i c' x' y' hc hx hy
   simp only [z8] at hs
   split at hs<;>cases hs
   rename_i t ht;exact does_pick he H ho hc hx hy ht
  ·simp [z8] at hs
 | alloc t=>
  simp only [cOp,ho] at hs
  split at hs
  ·rename_i z hz;simp only [z8] at hs;cases hs;exact does_new H hn ho hz
  ·simp [z8] at hs
 | box t x=>
  simp only [cOp,ho,O1] at hs
  split at hs
  ·rename_i y hy
   simp only [z8] at hs
   split at hs<;>cases hs
   rename_i ht;exact does_box he H hn ho hy (by simpa using ht)
  ·simp [z8] at hs
 | build t ps=>
  cases hc:cOp P o<;>rw [hc] at hs<;>first
   | (simp only [cOp,ho] at hc;split at hc<;>(try split at hc)<;>(try split at hc)<;>cases hc;done)
   | (simp [z8] at hs;done)
   | skip
  rename_i z qs
  simp only [z8] at hs
  split at hs<;>cases hs
  rename_i c hf
  exact does_bld he H ho hc hf
 | buildSlice t len ps=>
  cases hc:cOp P o<;>rw [hc] at hs<;>first
   | (simp only [cOp,ho] at hc;split at hc<;>(try split at hc)<;>(try split at hc)<;>(try split at hc)<;>cases hc;done)
   | (simp [z8] at hs;done)
   | skip
  rename_i z s l qs
  simp only [z8] at hs
  split at hs<;>cases hs
  rename_i c hf
  exact does_bsl he H hn ho hc hf
 | load t x=>
  simp only [cOp,ho] at hs
  split at hs
  ·rename_i m hm
   unfold O1 at hs;split at hs
   ·rename_i y hy
    simp only [z8] at hs
    split at hs<;>cases hs
    rename_i hv;exact does_ld he H ho hy hm hv
   ·simp [z8] at hs
  ·simp [z8] at hs
 | store t x y=>
  simp only [cOp,ho] at hs
  split at hs
  ·rename_i m hm
   unfold O2 at hs;split at hs
   ·rename_i x' y' hx hy
    simp only [z8] at hs
    split at hs<;>cases hs
    rename_i hf;exact does_st he H ho hx hy hm hf
   ·simp [z8] at hs
  ·simp [z8] at hs
 | nilCheck x=>
  simp only [cOp,ho,O1] at hs
  split at hs
  ·rename_i y hy
   simp only [z8] at hs
   split at hs<;>cases hs
   ·rename_i ev;exact does_nilc he H ho hy ev
   ·rename_i ev;exact does_nilcF he H ho hy ev
  ·simp [z8] at hs
 | makeFunc fn fs caps=>
  cases fn with
  | func g=>
   simp only [cOp,ho] at hs
   split at hs
   ·rename_i hf
    split at hs
    ·rename_i l hl
     simp only [z8] at hs
     split at hs<;>cases hs
     rename_i hp
     exact does_mkf he H ho hf hl hp
    ·simp [z8] at hs
   ·simp [z8] at hs
  | _=>simp [cOp,ho,z8] at hs
 | binOp op t x y t'=>
  simp only [cOp,ho] at hs
  exact bin_does he H ho hs
 | unOp op t x=>
  simp only [cOp,ho,O1] at hs
  split at hs
  ·rename_i y hy
   simp only [z8] at hs
   split at hs<;>cases hs
   rename_i hv;exact does_un he H ho hy hv
  ·simp [z8] at hs
 | convert s d x=>
  simp only [cOp,ho] at hs
  split at hs
  ·rename_i k j hu1 hu2
   unfold O1 at hs;split at hs
   ·rename_i y hy
    simp only [z8] at hs
    split at hs<;>cases hs
    rename_i ev;exact does_cvi he H ho hy hu1 hu2 ev
   ·simp [z8] at hs
  ·rename_i hu1 hu2
   unfold O1 at hs;split at hs
   ·rename_i y hy
    simp only [z8] at hs
    split at hs<;>cases hs
    rename_i ev;exact does_cst he H ho hy hu1 hu2 ev
   ·simp [z8] at hs
  ·split at hs
   ·unfold O1 at hs;split at hs<;>simp [z8] at hs
   ·simp [z8] at hs
  ·rename_i el hu1 hu2
   split at hs
   ·rename_i hu3
    unfold O1 at hs;split at hs
    ·rename_i y hy
     simp only [z8] at hs
     split at hs<;>try cases hs
     ·rename_i ev;exact does_cbs he H ho hy hu1 hu2 hu3 ev (.inl ⟨rfl,rfl⟩)
     ·rename_i ev
      split at hs<;>try cases hs
      rename_i c hc
      split at hs<;>cases hs
      rename_i q hq;exact does_cbs he H ho hy hu1 hu2 hu3 ev (.inr ⟨_,_,c,q,rfl,hc,hq,rfl⟩)
    ·simp [z8] at hs
   ·simp [z8] at hs
  ·simp [z8] at hs
 | fieldAddr s x i=>
  simp only [cOp,ho] at hs
  split at hs
  ·rename_i fs hu
   split at hs
   ·rename_i fd hf
    split at hs
    ·rename_i m hm
     unfold O1 at hs;split at hs
     ·rename_i y hy
      simp only [z8] at hs
      split at hs<;>cases hs
      rename_i ev;exact does_fad he H ho hy hu hf hm ev
     ·simp [z8] at hs
    ·simp [z8] at hs
   ·simp [z8] at hs
  ·simp [z8] at hs
 | field s x i=>
  simp only [cOp,ho] at hs
  split at hs
  ·rename_i fs hu
   split at hs
   ·rename_i fd hf
    split at hs
    ·rename_i m hm
     unfold O1 at hs;split at hs
     ·rename_i y hy
      simp only [z8] at hs
      split at hs<;>try cases hs
      rename_i ev
      split at hs<;>cases hs
      rename_i hv;exact does_fld he H ho hy hu hf hm ev hv
     ·simp [z8] at hs
    ·simp [z8] at hs
   ·simp [z8] at hs
  ·simp [z8] at hs
 | indexAddr t x i=>
  simp only [cOp,ho] at hs
  split at hs
  ·rename_i len el hu
   split at hs
   ·rename_i s hsz
    unfold O2 at hs;split at hs
    ·rename_i x' i' hx hi
     simp only [z8] at hs
     split at hs<;>try cases hs
     rename_i ex ei
     split at hs<;>cases hs
     rename_i hb;exact does_iadA he H ho hx hi hu hsz ex ei hb
    ·simp [z8] at hs
   ·simp [z8] at hs
  ·rename_i el hu
   split at hs
   ·rename_i s hsz
    unfold O2 at hs;split at hs
    ·rename_i x' i' hx hi
     simp only [z8] at hs
     split at hs<;>try cases hs
     rename_i ex ei
     split at hs<;>cases hs
     rename_i hb;exact does_iadS he H ho hx hi hu hsz ex ei hb
    ·simp [z8] at hs
   ·simp [z8] at hs
  ·simp [z8] at hs
 | index t x i=>
  simp only [cOp,ho] at hs
  split at hs
  ·rename_i len el hu
   split at hs
   ·rename_i s m hsz hm
    unfold O2 at hs;split at hs
    ·rename_i x' i' hx hi
     simp only [z8] at hs
     split at hs<;>try cases hs
     rename_i ex ei
     split at hs<;>try cases hs
     rename_i hb
     split at hs<;>cases hs
     rename_i hp;exact does_ixA he H ho hx hi hu hsz hm ex ei hb hp
    ·simp [z8] at hs
   ·simp [z8] at hs
  ·rename_i hu
   unfold O2 at hs;split at hs
   ·rename_i x' i' hx hi
    simp only [z8] at hs
    split at hs<;>try cases hs
    rename_i ex ei
    split at hs<;>try cases hs
    rename_i hb
    split at hs<;>cases hs
    rename_i hp;exact does_ixS he H ho hx hi hu ex ei hb hp
   ·simp [z8] at hs
  ·simp [z8] at hs
 | slice t x lo hi mx=>
  simp only [cOp,ho] at hs
  split at hs
  ·rename_i len el x' lo' hi' mx' hu hx h1 h2 h3
   split at hs
   ·rename_i s hsz
    simp only [z8] at hs
    split at hs<;>try cases hs
    rename_i ex
    split at hs<;>cases hs
    rename_i hv;exact does_slcA he H ho hx h1 h2 h3 hu hsz ex hv
   ·simp [z8] at hs
  ·rename_i el x' lo' hi' mx' hu hx h1 h2 h3
   split at hs
   ·rename_i s hsz
    simp only [z8] at hs
    split at hs<;>cases hs
    rename_i hv;exact does_slcS he H ho hx h1 h2 h3 hu hsz hv
   ·simp [z8] at hs
  ·rename_i x' lo' hi' hu hx h1 h2 h3
   have hmx:mx=none:=by cases mx<;>simp [opdO] at h3 ⊢
   subst hmx
   simp only [z8] at hs
   split at hs<;>try cases hs
   rename_i ex
   split at hs<;>cases hs
   rename_i hv;exact does_slcT he H ho hx h1 h2 hu ex hv
  ·simp [z8] at hs
 | makeSlice t x y=>
  simp only [cOp,ho] at hs
  split at hs
  ·rename_i el hu
   split at hs
   ·rename_i s b z hsz hb hz
    unfold O2 at hs;split at hs
    ·rename_i x' y' hx hy
     simp only [z8] at hs
     split at hs<;>try cases hs
     rename_i ex ey
     split at hs<;>cases hs
     rename_i hbb
     cases hi:P.info? el with
     | none=>simp [hi] at hb
     | some i=>
      simp only [hi,Option.map_some,Option.some.injEq] at hb
      subst hb
      exact does_mks he H hn ho hx hy hu hi hz ex ey hbb
    ·simp [z8] at hs
   ·simp [z8] at hs
  ·simp [z8] at hs
 | extract x i=>
  simp only [cOp,ho,O1] at hs
  split at hs
  ·rename_i y hy
   simp only [z8] at hs
   split at hs<;>try cases hs
   rename_i ev
   split at hs<;>cases hs
   rename_i hv;exact does_ext he H ho hy ev hv
  ·simp [z8] at hs
 | makeMap t r=>
  cases r with
  | some r=>simp [cOp,ho,z8] at hs
  | none=>
   simp only [cOp,ho] at hs
   split at hs
   ·split at hs
    ·simp only [z8] at hs;cases hs;exact does_mkm H hn ho
    ·simp [z8] at hs
   ·simp [z8] at hs
 | lookup t x y ok=>
  simp only [cOp,ho] at hs
  split at hs
  ·rename_i kt el hu
   split at hs
   ·rename_i kk z m hkk hz hm
    split at hs
    ·rename_i hg
     unfold O2 at hs;split at hs
     ·rename_i x' y' hx hy
      simp only [z8] at hs
      split at hs<;>try cases hs
      rename_i zv hzv
      split at hs<;>try cases hs
      ·rename_i ex;exact does_lku he H ho hx hy hu hkk hz hm hg hzv (.inl ⟨ex,rfl⟩)
      ·rename_i r ex
       split at hs<;>try cases hs
       rename_i es hr
       split at hs<;>try cases hs
       ·rename_i i hf
        split at hs<;>cases hs
        rename_i p hp;exact does_lku he H ho hx hy hu hkk hz hm hg hzv (.inr ⟨r,es,ex,hr,.inl ⟨i,p,hf,hp,rfl⟩⟩)
       ·rename_i hf;exact does_lku he H ho hx hy hu hkk hz hm hg hzv (.inr ⟨r,es,ex,hr,.inr ⟨hf,rfl⟩⟩)
     ·simp [z8] at hs
    ·simp [z8] at hs
   ·simp [z8] at hs
  ·simp [z8] at hs
 | mapUpdate t x y z=>
  simp only [cOp,ho] at hs
  split at hs
  ·rename_i kt el hu
   split at hs
   ·rename_i kk x' y' z' hkk hx hy hz
    simp only [z8] at hs
    split at hs<;>try cases hs
    rename_i ht
    split at hs<;>try cases hs
    rename_i r ex
    split at hs<;>try cases hs
    rename_i es hr
    split at hs<;>try cases hs
    ·rename_i i hf;exact does_mup he H ho hx hy hz hu hkk (by simpa using ht) ex hr (.inl ⟨i,hf,rfl⟩)
    ·rename_i hf
     split at hs<;>cases hs
     rename_i hyt;exact does_mup he H ho hx hy hz hu hkk (by simpa using ht) ex hr (.inr ⟨hf,by simpa using hyt,rfl⟩)
   ·simp [z8] at hs
  ·simp [z8] at hs
 | call c=>
  simp only [cOp,ho] at hs
  exact call_does he H ho hs
 | makeChan t s=>
  have bad: ∀why,cOp P o= .bad why→False:=fun why hb=>by rw [hb] at hs;simp [z8] at hs
  cases s with
  | const val=>
   cases val with
   | int k z=>
    cases k with
    | i64=>
     simp only [cOp,ho] at hs
     split at hs
     ·rename_i dir el hu
      split at hs
      ·rename_i i hi
       split at hs
       ·rename_i hb
        simp only [z8] at hs
        cases hs
        have hz:z=(z.toNat:Int):=om
        rw [hz] at ho
        exact does_mkc H hn ho hu hi hb.2.2 om
       ·simp [z8] at hs
      ·simp [z8] at hs
     ·simp [z8] at hs
    | _=>exact (bad _ (by simp only [cOp,ho];rfl)).elim
   | _=>exact (bad _ (by simp only [cOp,ho];rfl)).elim
  | _=>exact (bad _ (by simp only [cOp,ho];rfl)).elim
 | next x s=>cases s<;>simp [cOp,ho,O1] at hs<;>(try split at hs)<;>simp [z8] at hs
 | entry x=>simp only [cOp,ho,O1] at hs;split at hs<;>simp [z8] at hs
 | range t x=>simp only [cOp,ho,O1] at hs;split at hs<;>(try split at hs)<;>simp [z8] at hs
 | send c x=>simp only [cOp,ho,O2] at hs;split at hs<;>simp [z8] at hs
 | recv t c ok=>
  cases ok<;>simp only [cOp,ho] at hs
  ·split at hs
   ·split at hs
    ·unfold O1 at hs;split at hs<;>simp [z8] at hs
    ·simp [z8] at hs
   ·simp [z8] at hs
  ·simp [z8] at hs
 | select cs b=>
  cases b<;>simp only [cOp,ho] at hs
  ·split at hs
   ·split at hs
    ·split at hs
     ·unfold O1 at hs;split at hs<;>simp [z8] at hs
     ·simp [z8] at hs
    ·simp [z8] at hs
   ·simp [z8] at hs
  ·simp [z8] at hs
 | _=>simp [cOp,ho,z8] at hs
end
end Go.Rh

namespace Go.Rh
inductive IExit where
  | normal
  | exit (id:Nat)
  | goto (l:Nat)
  | ret
abbrev zen:=Value→List Blk→Prop
def hf (l:List Blk):Nat→Option Blk:=fun k=>match l[k]? with
 | some .gone=>none
 | x=>x
def zeF (h1 h1':List Blk):Prop:= ∀(i:Nat) b b',h1[i]? =some b→h1'[i]? =some b'→b'.rw=b.rw
def zgm (h1 h1':List Blk):Prop:= ∀i:Nat,h1[i]? =some .gone→h1'[i]? =some .gone
def zdA (C:zag) (g:Fnm) (vals:List Value) (K:zen) (h:List Blk):Prop:=
 ∃(sel:List Nat) (h1:List Blk) (a1:List Value) (R:zen),C g a1 h1 R∧h1.length=sel.length∧a1.map (zaF (rho sel h.length))=vals∧
  (∀(i k:Nat) b1,sel[i]? =some k→h1[i]? =some b1→∃b,h[k]? =some b∧Blk.view (zbx (rho sel h.length) b1) b)∧
  (∀(i j k:Nat) b1,i≠j→sel[i]? =some k→sel[j]? =some k→h1[i]? =some b1→b1.rw=false)∧
  ∀v h1',R v h1'→sel.length≤h1'.length→zeF h1 h1'→zgm h1 h1'∧K (zaF (rho sel h.length) v) (zfZ h sel h1' (rho sel h.length))
def appK (z:RL) (size bytes:Nat) (s x:Value) (K:Value→Eff→Prop) (h:Nat→Option Blk) (nid:Nat):Prop:=
 match s,zi6 x with
 | .slice base sl cap,some m=>match first h size sl s,first h size m x with
  | some old,some new=>
   if sl+m≤cap then (match base with
    | some ⟨k,o,none⟩=>if m=0 then K (.slice base (sl+m) cap) .no else match h k with
     | some (.cells c true)=>if o+sl*size+new.length≤c.length then K (.slice base (sl+m) cap) (.set k (.cells (splice c (o+sl*size) new) true)) else False
     | _=>False
    | none=>if m=0 then K (.slice none (sl+m) cap) .no else False
    | _=>False)
   else 2*(sl+m)*bytes≤2^48∧∀c,sl+m≤c→K (.slice (some ⟨nid,0,none⟩) (sl+m) c) (.push (.cells (old++new++(List.replicate (c - (sl+m)) (zaE z)).flatten) true))
  | _,_=>False
 | _,_=>False
def appE (z:RL) (size bytes:Nat) (s x:Value) (h:Nat→Option Blk) (nid c:Nat):Option (Value×Eff):=
 match s,zi6 x with
 | .slice base sl cap,some m=>match first h size sl s,first h size m x with
  | some old,some new=>
   if sl+m≤cap then (match base with
    | some ⟨k,o,none⟩=>if m=0 then some (.slice base (sl+m) cap,.no) else match h k with
     | some (.cells cs true)=>if o+sl*size+new.length≤cs.length then some (.slice base (sl+m) cap,.set k (.cells (splice cs (o+sl*size) new) true)) else none
     | _=>none
    | none=>if m=0 then some (.slice none (sl+m) cap,.no) else none
    | _=>none)
   else if 2*(sl+m)*bytes≤2^48 then some (.slice (some ⟨nid,0,none⟩) (sl+m) (sl+m+c),.push (.cells (old++new++(List.replicate c (zaE z)).flatten) true)) else none
  | _,_=>none
 | _,_=>none
def csbK (x:Value) (K:Value→Eff→Prop) (nid:Nat):Prop:=
 match x with
 | .string s=> ∀c,s.size≤c→K (.slice (some ⟨nid,0,none⟩) s.size c) (.push (.cells ((s.data.toList.map fun b=> .int .u8 b.toNat)++List.replicate (c - s.size) (.int .u8 0)) true))
 | _=>False
def sndK (c v:Value) (K:Value→Eff→Prop) (h:Nat→Option Blk):Prop:=
 match c with
 | .chan (some r)=>match h r with
  | some (.chan n b)=>b.length < n∧zbt v=false∧K undef (.set r (.chan n (b++ [v])))
  | _=>False
 | _=>False
def rcvK (c:Value) (K:Value→Eff→Prop) (h:Nat→Option Blk):Prop:=
 match c with
 | .chan (some r)=>match h r with
  | some (.chan n (v::b))=>K v (.set r (.chan n b))
  | _=>False
 | _=>False
def rngK (x:Value) (K:Value→Eff→Prop) (h:Nat→Option Blk) (nid:Nat):Prop:=
 match x with
 | .map (some r)=>match h r with
  | some (.map es)=>K (.pointer (some ⟨nid,0,none⟩)) (.push (.iter r es.length []))
  | _=>False
 | _=>False
def nxtK (x:Value) (K:Value→Eff→Prop) (h:Nat→Option Blk):Prop:=
 match x with
 | .pointer (some ⟨k,0,none⟩)=>match h k with
  | some (.iter m n seen)=>match h m with
   | some (.map es)=>es.length=n∧((∀i,i < n→i∈seen)→K (.tuple #[.bool false]) .no)∧∀(i:Nat) e,i∉seen→es[i]? =some e→K (.tuple #[.bool true,e.1,e.2]) (.set k (.iter m n (seen++ [i])))
   | _=>False
  | _=>False
 | _=>False
def entK (x:Value) (K:Value→Eff→Prop) (h:Nat→Option Blk):Prop:=
 match x with
 | .pointer (some ⟨k,0,none⟩)=>match h k with
  | some (.iter m n seen)=>match h m,seen.getLast? with
   | some (.map es),some i=>match es[i]? with
    | some e=>es.length=n∧K (.tuple #[e.1,e.2]) .no
    | none=>False
   | _,_=>False
  | _=>False
 | _=>False
def selK (z:RL) (agg:Bool) (c:Value) (K:Value→Eff→Prop) (h:Nat→Option Blk):Prop:=
 match c with
 | .chan (some r)=>match h r with
  | some (.chan n (v::b))=>K (.tuple #[.int .i64 0,.bool true,v]) (.set r (.chan n b))
  | some (.chan n [])=>match zeroV z agg with
   | some zv=>K (.tuple #[.int .i64 (-1),.bool false,zv]) .no
   | none=>False
  | _=>False
 | _=>False
def zfD (C:zag) (op:IOp) (f:Nat→Value) (h:List Blk) (K:Value→List Blk→Prop):Prop:=
 match op with
 | .call g args=>zdA C g (args.map (evf f)) K h
 | .callv x args=>match evf f x with
  | .func (.func g) _ caps=>zdA C (.no g) (args.map (evf f)++caps.toList) K h
  | _=>False
 | .app z size bytes s x=>appK z size bytes (evf f s) (evf f x) (fun v e=>K v (e.on h)) (hf h) h.length
 | .csb x=>csbK (evf f x) (fun v e=>K v (e.on h)) h.length
 | .snd c v=>sndK (evf f c) (evf f v) (fun v e=>K v (e.on h)) (hf h)
 | .rcv c=>rcvK (evf f c) (fun v e=>K v (e.on h)) (hf h)
 | .sel1 z agg c=>selK z agg (evf f c) (fun v e=>K v (e.on h)) (hf h)
 | .rng x=>rngK (evf f x) (fun v e=>K v (e.on h)) (hf h) h.length
 | .nxt x=>nxtK (evf f x) (fun v e=>K v (e.on h)) (hf h)
 | .ent x=>entK (evf f x) (fun v e=>K v (e.on h)) (hf h)
 | op=>match z8 op (evf f) (hf h) h.length with
  | some (v,e)=>K v (e.on h)
  | none=>False
def wp1 (C:zag) (c:ICell) (K:St→Prop) (s:St):Prop:=
 match c.guard with
 | none=>zfD C c.op s.f s.h fun v h=>K ⟨zau s.f c.dst v,h⟩
 | some (g,b)=>match s.f g with
  | .bool x=>if x=b then zfD C c.op s.f s.h fun v h=>K ⟨zau s.f c.dst v,h⟩ else K ⟨zau s.f c.dst undef,s.h⟩
  | .complex _ _ _=>False
  | _=>K ⟨zau s.f c.dst undef,s.h⟩
def zbv (C:zag):List ICell→(St→Prop)→St→Prop
 | [],K,s=>K s
 | c::r,K,s=>wp1 C c (zbv C r K) s
structure DCell where
  i:Nat
  nid:Nat
  c:ICell
def zbI:Nat→Nat→List ICell→List DCell
 | _,_,[]=> []
 | i,nid,c::r=>⟨i,nid,c⟩::zbI (i+1) (if c.op.makes then nid+1 else nid) r
def zar:List ICell→Nat
 | []=>0
 | c::r=>if c.op.makes then zar r+1 else zar r
structure Foot where
  i:Nat
  rd:List Nat
  wr:List Nat
  top:Option Nat
def Foot.none? (x:Foot):Bool:=match x.rd,x.wr,x.top with
 | [],[],none=>true
 | _,_,_=>false
def below (t:Option Nat) (l:List Nat):Prop:=match t with
 | some n=> ∀k∈l,k < n
 | none=>True
def Foot.apart (x y:Foot):Prop:=(∀k∈x.wr,k∉y.rd∧k∉y.wr)∧(∀k∈y.wr,k∉x.rd)∧below x.top (y.rd++y.wr)∧below y.top (x.rd++x.wr)
def fits (un:Nat→Nat→Bool) (x:Foot) (log:List Foot):Prop:= ∀y∈log,Foot.apart y x∨un y.i x.i=false
def zeq (x:Foot) (log:List Foot):List Foot:=if x.none? then log else x::log
def zbS (c:ICell) (f:Nat→Value):Bool:=match c.guard with
 | none=>true
 | some (g,b)=>match f g with
  | .bool x=>x==b
  | _=>false
def gJ (c:ICell) (f:Nat→Value):Bool:=match c.guard with
 | none=>false
 | some (g,_)=>match f g with
  | .complex _ _ _=>true
  | _=>false
def Eff.wr (nid:Nat):Eff→List Nat
 | .no=> []
 | .set k _=> [k]
 | .push _=> [nid]
def Eff.onR (nid:Nat) (h:List Blk):Eff→List Blk
 | .no=>h
 | .set k b=>h.set k b
 | .push b=>h.set nid b
def Eff.okR (nid:Nat) (h:List Blk):Eff→Prop
 | .push _=>h[nid]? =some .gone
 | _=>True
def zcF:List Nat→List Blk→List Nat
 | k::ks,b::bs=>if b.rw then k::zcF ks bs else zcF ks bs
 | _,_=> []
def CallD (C:zag) (un:Nat→Nat→Bool) (i:Nat) (g:String) (vals:List Value) (log:List Foot) (K:List Foot→Value→List Blk→Prop) (h:List Blk):Prop:=
 ∃(sel:List Nat) (h1:List Blk) (a1:List Value) (R:zen),C g a1 h1 R∧h1.length=sel.length∧a1.map (zaF (rho sel h.length))=vals∧
  (∀(i k:Nat) b1,sel[i]? =some k→h1[i]? =some b1→∃b,h[k]? =some b∧Blk.view (zbx (rho sel h.length) b1) b)∧
  (∀(i j k:Nat) b1,i≠j→sel[i]? =some k→sel[j]? =some k→h1[i]? =some b1→b1.rw=false)∧
  fits un ⟨i,sel,zcF sel h1,some h.length⟩ log∧
  ((∃k,k≠i∧un i k=true)→∃v h1',R v h1'∧sel.length≤h1'.length∧zeF h1 h1')∧
  ∀v h1',R v h1'→sel.length≤h1'.length→zeF h1 h1'→zgm h1 h1'∧K (⟨i,sel,zcF sel h1,some h.length⟩::log) (zaF (rho sel h.length) v) (zfZ h sel h1' (rho sel h.length))
def zaW (C:zag) (un:Nat→Nat→Bool) (d:DCell) (log:List Foot) (K:List Foot→St→Prop) (s:St):Prop:=
 if gJ d.c s.f then False else if zbS d.c s.f then match d.c.op with
  | .call g args=>CallD C un d.i g (args.map (evf s.f)) log (fun l v h=>K l ⟨zau s.f d.c.dst v,h⟩) s.h
  | .appR z n b x y=> ∀c,match appE z n b (evf s.f x) (evf s.f y) (hf s.h) d.nid c with
   | some (v,e)=>e.okR d.nid s.h∧fits un ⟨d.i,rdE (.appR z n b x y) (evf s.f),e.wr d.nid,none⟩ log∧K (zeq ⟨d.i,rdE (.appR z n b x y) (evf s.f),e.wr d.nid,none⟩ log) ⟨zau s.f d.c.dst v,e.onR d.nid s.h⟩
   | none=>False
  | op=>if qQ op=0 then (match z8 op (evf s.f) (hf s.h) d.nid with
    | some (v,e)=>e.okR d.nid s.h∧fits un ⟨d.i,rdE op (evf s.f),e.wr d.nid,none⟩ log∧K (zeq ⟨d.i,rdE op (evf s.f),e.wr d.nid,none⟩ log) ⟨zau s.f d.c.dst v,e.onR d.nid s.h⟩
    | none=>False)
   else zfD C op s.f s.h (fun v h=>K log ⟨zau s.f d.c.dst v,h⟩)
 else K log ⟨zau s.f d.c.dst undef,s.h⟩
def wpD (C:zag) (un:Nat→Nat→Bool):List DCell→List Foot→(St→Prop)→St→Prop
 | [],_,K,s=>K s
 | d::r,log,K,s=>zaW C un d log (fun log' s'=>wpD C un r log' K s') s
def unA (anc:List (List Nat)) (i j:Nat):Bool:=Nat.blt i anc.length&&Nat.blt j anc.length&& !((anc.getD i []).any (Nat.beq j))&& !((anc.getD j []).any (Nat.beq i))
def sbel (n:Nat):Value→Bool
 | .pointer (some a)=>Nat.blt a.block n
 | .slice (some a) _ _=>Nat.blt a.block n
 | .map (some r)=>Nat.blt r n
 | .chan (some r)=>Nat.blt r n
 | _=>true
def gbel (n:Nat):Value→Bool
 | .agg a=>a.toList.all (sbel n)
 | v=>sbel n v
def vbel (n:Nat):Value→Bool
 | .tuple a=>a.toList.all (gbel n)
 | v=>gbel n v
def bbel (n:Nat):Blk→Bool
 | .cells c _=>c.all (sbel n)
 | .map es=>es.all fun e=>gbel n e.1&&gbel n e.2
 | .chan _ b=>b.all (gbel n)
 | .iter m _ _=>Nat.blt m n
 | .gone=>true
structure WkD (B:Nat) (s s0:St):Prop where
  base:B≤s0.h.length
  pre:s0.h=s.h.take s0.h.length
  regs: ∀t,s0.f t=junk∨(s0.f t=s.f t∧vbel s0.h.length (s0.f t)=true)
  blks: ∀b∈s0.h,bbel s0.h.length b=true
structure WkR (B:Nat) (s s0:St) (sel:List Nat):Prop where
  len:s0.h.length=sel.length
  base: ∀i,i < B→sel[i]? =some i
  nodup:sel.Nodup
  regs: ∀t,s0.f t=junk∨zaF (rho sel s.h.length) (s0.f t)=s.f t
  blks: ∀(i k:Nat) b,sel[i]? =some k→s0.h[i]? =some b→s.h[k]? =some (zbx (rho sel s.h.length) b)∨(b= .gone∧s.h[k]? =none)
def Wk (B:Nat) (s s0:St):Prop:=s=s0∨WkD B s s0∨∃sel,WkR B s s0 sel
def wpC (C:zag) (B:Nat):IC→(IExit→St→Prop)→St→Prop
 | .skip,Q,s=>Q .normal s
 | .reg ops,Q,s=>zbv C ops (Q .normal) s
 | .dreg ops anc,Q,s=>wpD C (unA anc) (zbI 0 s.h.length ops) [] (Q .normal) ⟨s.f,s.h++List.replicate (zar ops) .gone⟩
 | .seq a b,Q,s=>wpC C B a (fun ex s'=>match ex with | .normal=> ∃s0,Wk B s' s0∧wpC C B b Q s0 | ex=>Q ex s') s
 | .cond c a b,Q,s=>match evf s.f c with
  | .bool x=>if x then wpC C B a Q s else wpC C B b Q s
  | _=>False
 | .block id b,Q,s=>wpC C B b (fun ex s'=>match ex with | .exit i=>if i=id then Q .normal s' else Q (.exit i) s' | ex=>Q ex s') s
 | .loop b,Q,s=> ∃(I:Nat→St→Prop),(∃n s0,Wk B s s0∧I n s0)∧∀n s,I n s→wpC C B b (fun ex s'=>match ex with | .normal=> ∃m s0,m < n∧Wk B s' s0∧I m s0 | ex=>Q ex s') s
 | .label _,Q,s=>Q .normal s
 | .goto l,Q,s=>Q (.goto l) s
 | .scp l r b,Q,s=> ∃(I:Nat→St→Prop),wpC C B b (fun ex s'=>match ex with | .goto i=>if i=l then∃m s0,Wk B s' s0∧I m s0 else Q (.goto i) s' | ex=>Q ex s') s∧
   ∀n s,I n s→wpC C B r (fun ex s'=>match ex with | .goto i=>if i=l then∃m s0,m < n∧Wk B s' s0∧I m s0 else Q (.goto i) s' | ex=>Q ex s') s
 | .exit id,Q,s=>Q (.exit id) s
 | .ret,Q,s=>Q .ret s
 | .bad _,_,_=>False
def zf1 (s:St):List IRes→Option (List Value)
 | []=>some []
 | .tmp t::r=>(zf1 s r).map (s.f t::·)
 | .cell a n::r=>match ldV (hf s.h) n (s.f a),zf1 s r with
  | some v,some l=>some (v::l)
  | _,_=>none
def one (l:List Value):Value:=match l with
 | [v]=>v
 | l=> .tuple l.toArray
def zhR:Blk→Bool
 | .cells c _=>c.all zbG
 | .map es=>es.all fun e=>aggf e.1&&aggf e.2
 | .chan _ b=>b.all aggf
 | .iter _ _ _=>false
 | .gone=>true
def reg:List (Nat×Value)→Nat→Value
 | []=>fun _=>junk
 | p::l=>setf (reg l) p.1 p.2
def argL:Nat→List Value→List (Nat×Value)
 | _,[]=> []
 | i,v::r=>(i,v)::argL (i+1) r
def wpF (C:zag) (fn:IFunc) (args:List Value) (h:List Blk) (R:zen):Prop:=
 wpC C h.length fn.body (fun ex s=>(match ex with | .exit _=>False | .goto _=>False | _=>True)∧∃l,zf1 s fn.res=some l∧(∀v∈l,zbt v=false)∧
  (R (one l) s.h∨(vpf (one l)=true∧(∀b∈s.h.take h.length,zhR b=true)∧R (one l) (s.h.take h.length)))) ⟨reg (argL 0 args),h⟩
end Go.Rh

namespace Go.Rh
def RunsFrom (P:Program) (ops:Array Oper) (l:List Nat) (Q:Exit→Act→World→Prop) (a:Act) (w:World):Prop:=
 ∀(b:Frame) (k:List Item) (cs:List Frame),∃e a' w',Q e a' w'∧Arrives P (lone (b.at a (.inRegion ops l::k)) cs w) b k cs e a' w'
def OpTo (P:Program) (ops:Array Oper) (i:Nat) (K:Act→World→Prop) (a:Act) (w:World):Prop:=
 ∀(rest:List Nat) (b:Frame) (k:List Item) (cs:List Frame),∃a1 w1,K a1 w1∧Steps P (lone (b.at a (.inRegion ops (i::rest)::k)) cs w) (lone (b.at a1 (.inRegion ops rest::k)) cs w1)
section
variable {P:Program} {ops:Array Oper} {a:Act} {w:World} {Q:Exit→Act→World→Prop} {K:Act→World→Prop}
theorem RunsFrom.nil (h:Q .normal a w):RunsFrom P ops [] Q a w:=fun b k cs=>⟨.normal,a,w,h,.one step_region_end⟩
theorem RunsFrom.cons {i:Nat} {rest:List Nat} (h:OpTo P ops i K a w) (hk: ∀a1 w1,K a1 w1→RunsFrom P ops rest Q a1 w1):RunsFrom P ops (i::rest) Q a w:=by
 intro b k cs
 obtain ⟨a1,w1,hK,hs⟩:=h rest b k cs
 obtain ⟨e,a',w',hq,harr⟩:=hk a1 w1 hK b k cs
 exact ⟨e,a',w',hq,.of_steps hs harr⟩
theorem OpTo.mono {i:Nat} {K':Act→World→Prop} (h:OpTo P ops i K a w) (hk: ∀a1 w1,K a1 w1→K' a1 w1):OpTo P ops i K' a w:=
 fun r b k cs=>let ⟨a1,w1,h1,h2⟩:=h r b k cs;⟨a1,w1,hk _ _ h1,h2⟩
theorem OpTo.skip {i:Nat} {o:Oper} (ho:ops[i]? =some o) (hw:Region.wanted o (yielded ops a.tmps)=false) (h:K (a.put o.dst undef) w):OpTo P ops i K a w:=by
 intro rest b k cs
 refine ⟨_,w,h,.one ?_⟩
 have hs:=step_op_skip (P:=P) (b:=b) (a:=a) (k:=k) (cs:=cs) (w:=w) (ops:=ops) (i:=i) (rest:=rest) (by simp [ho,hw])
 simpa [ho] using hs
theorem OpTo.value {i:Nat} {o:Oper} {v:Value} {w':World} (ho:ops[i]? =some o) (hw:Region.wanted o (yielded ops a.tmps)=true) (hr:(execOp a.eval o).run P w= .ok (.value v) w') (h:K (a.put o.dst v) w'):OpTo P ops i K a w:=by
 intro rest b k cs
 have hg:=stepG_op (P:=P) (b:=b) (k:=k) (cs:=cs) (w:=w) (rest:=rest) ho hw
 have hfin: ∀v,(b.at a (.inRegion ops (i::rest)::k)).finish v=b.at (a.put o.dst v) (.inRegion ops rest::k):=by
  intro v;rw [Frame.finish_at,ho];rfl
 refine ⟨_,w',h,.one (step_lone_go ?_)⟩
 rw [hg,←hfin];simp [stepG.apply,hr]
theorem OpTo.skipped {i:Nat} {o:Oper} {w':World} (ho:ops[i]? =some o) (hw:Region.wanted o (yielded ops a.tmps)=true) (hr:(execOp a.eval o).run P w= .ok .skip w') (h:K (a.put o.dst undef) w'):OpTo P ops i K a w:=by
 intro rest b k cs
 have hg:=stepG_op (P:=P) (b:=b) (k:=k) (cs:=cs) (w:=w) (rest:=rest) ho hw
 have hfin: ∀v,(b.at a (.inRegion ops (i::rest)::k)).finish v=b.at (a.put o.dst v) (.inRegion ops rest::k):=by
  intro v;rw [Frame.finish_at,ho];rfl
 refine ⟨_,w',h,.one (step_lone_go ?_)⟩
 rw [hg,←hfin];simp [stepG.apply,hr]
theorem OpTo.runs {i:Nat} {o:Oper} {v:Value} {w':World} (ho:ops[i]? =some o) (hw:Region.wanted o (yielded ops a.tmps)=true) (hr:Runs P o a w v w') (h:K (a.put o.dst v) w'):OpTo P ops i K a w:=by
 rcases hr with hr | ⟨hr,rfl⟩
 ·exact OpTo.value ho hw hr h
 ·exact OpTo.skipped ho hw hr h
theorem OpTo.enter {i:Nat} {o:Oper} {f:FuncId} {args:Array Value} {w':World} (ho:ops[i]? =some o) (hw:Region.wanted o (yielded ops a.tmps)=true) (hr:(execOp a.eval o).run P w= .ok (.enter f args) w')
  (h:Calls P f args w' fun e w''=> ∃v,e= .returned v∧K (a.put o.dst v) w''):OpTo P ops i K a w:=by
 intro rest b k cs
 have hg:=stepG_op (P:=P) (b:=b) (k:=k) (cs:=cs) (w:=w) (rest:=rest) ho hw
 have hfin: ∀v,(b.at a (.inRegion ops (i::rest)::k)).finish v=b.at (a.put o.dst v) (.inRegion ops rest::k):=by
  intro v;rw [Frame.finish_at,ho];rfl
 obtain ⟨e,w'',fr,⟨v,rfl,hK⟩,hsteps,_,hleave⟩:=h (b.at a (.inRegion ops (i::rest)::k)::cs)
 have henter:step P (lone (b.at a (.inRegion ops (i::rest)::k)) cs w)=
   .next (lone (Frame.enter P f args .normal) (b.at a (.inRegion ops (i::rest)::k)::cs) w'):=
  step_lone_go (by rw [hg];simp [stepG.apply,hr,Frame.at])
 refine ⟨_,w'',hK,.head henter (hsteps.trans (.one ?_))⟩
 rw [←hfin];exact step_leave_returned hleave
theorem zi8 {id:Nat} (h:RunsFrom P ops (List.range ops.size) Q a w):(Code.region id ops false).wp P Q a w:=
 fun b k cs=>let ⟨e,a',w',q,r⟩:=h b k cs;⟨e,a',w',q,.of_steps (.one step_region) r⟩
theorem zfL {id:Nat} (h: ∀t,RunsFrom P ops (Region.schedule (P.follows .mixedOrders) ops t) Q a w.drew):(Code.region id ops true).wp P Q a w:=
 fun b k cs=>let ⟨e,a',w',q,r⟩:=h _ b k cs;⟨e,a',w',q,.of_steps (.one step_region_draw) r⟩
end
theorem zah {l:List Blk} {k:Nat} {b:Blk} :hf l k=some b↔l[k]? =some b∧b≠ .gone:=by
 unfold hf
 constructor
 ·intro h
  split at h
  ·cases h
  ·rename_i hx;exact ⟨h,fun e=>hx (e▸h)⟩
 ·rintro ⟨h1,h2⟩
  rw [h1]
  split
  ·rename_i h3;cases h3;exact absurd rfl h2
  ·rfl
theorem zcA {l:List Blk} {k:Nat} (h:l[k]? =none):hf l k=none:=by unfold hf;rw [h]
theorem zcB {l:List Blk} {k:Nat} (h:l[k]? =some .gone):hf l k=none:=by unfold hf;rw [h]
theorem zeg {l:List Blk} {k:Nat} {b:Blk} (h:hf l k=some b):l[k]? =some b:=(zah.1 h).1
structure FrC (φ0:Phi) (h0:List Blk) (w0:World) (φ:Phi) (h:List Blk) (w:World):Prop where
  size:w0.heap.size≤w.heap.size
  keep: ∀b,b < w0.heap.size→(∀k blk o,h0[k]? =some blk→blk.rw=true→φ0 k≠some (b,o))→w.heap[b]? =w0.heap[b]?
  os:w.os=w0.os
  tape:w.tape=w0.tape
  output:w.output=w0.output
  le:Le φ0 φ
  new: ∀k b o,φ k=some (b,o)→φ0 k=some (b,o)∨w0.heap.size≤b
  len:h0.length≤h.length
  flags: ∀(k:Nat) b b',h0[k]? =some b→h[k]? =some b'→b'.rw=b.rw
theorem FrC.refl (φ:Phi) (h:List Blk) (w:World):FrC φ h w φ h w:=
 ⟨Nat.le_refl _,fun _ _ _=>rfl,rfl,rfl,rfl,Le.refl _,fun _ _ _ e=> .inl e,Nat.le_refl _,fun _ _ _ h1 h2=>by rw [h1] at h2;cases h2;rfl⟩
theorem FrC.trans {φ0 φ1 φ2:Phi} {h0 h1 h2:List Blk} {w0 w1 w2:World} (H0:HR φ0 (hf h0) w0) (H1:HR φ1 (hf h1) w1) (A:FrC φ0 h0 w0 φ1 h1 w1) (B:FrC φ1 h1 w1 φ2 h2 w2):FrC φ0 h0 w0 φ2 h2 w2:=by
 refine ⟨Nat.le_trans A.size B.size, ?_,B.os.trans A.os,B.tape.trans A.tape,B.output.trans A.output,A.le.trans B.le, ?_,Nat.le_trans A.len B.len, ?_⟩
 ·intro b hb hx
  rw [B.keep b (Nat.lt_of_lt_of_le hb A.size) ?_,A.keep b hb hx]
  intro k blk o hk hrw hφ
  rcases A.new k b o hφ with h | h
  ·have: ∃blk0,h0[k]? =some blk0:=by
    cases hq:h0[k]? with
    | some x=>exact ⟨x,rfl⟩
    | none=>have:=H0.nil k (zcA hq);rw [this] at h;cases h
   obtain ⟨blk0,h0k⟩:=this
   have hfl:=A.flags k blk0 blk h0k hk
   exact hx k blk0 o h0k (hfl▸hrw) h
  ·omega
 ·intro k b o hφ
  rcases B.new k b o hφ with h | h
  ·exact A.new k b o h
  ·exact .inr (Nat.le_trans A.size h)
 ·intro k b b' hk hk'
  have: ∃b1,h1[k]? =some b1:=by
   have:k < h0.length:=by
    rcases Nat.lt_or_ge k h0.length with h | h
    ·exact h
    ·simp [List.getElem?_eq_none h] at hk
   exact ⟨h1[k]'(Nat.lt_of_lt_of_le this A.len),by simp [Nat.lt_of_lt_of_le this A.len]⟩
  obtain ⟨b1,hb1⟩:=this
  exact (B.flags k b1 b' hb1 hk').trans (A.flags k b b1 hk hb1)
theorem zg7 (l:List Blk) (k:Nat) (b:Blk) (hk:k < l.length) (hb:b≠ .gone):hf (l.set k b)=zdr (hf l) k b:=by
 funext j
 unfold hf zdr
 rw [List.getElem?_set]
 by_cases hj:j=k
 ·subst hj
  simp only [if_true,hk]
  split
  ·rename_i h;cases h;exact absurd rfl hb
  ·rfl
 ·simp [hj,Ne.symm hj]
theorem zgU {l:List Blk} {k:Nat} (h:hf l k≠none):k < l.length:=by
 rcases Nat.lt_or_ge k l.length with h' | h'
 ·exact h'
 ·exact absurd (zcA (List.getElem?_eq_none h')) h
theorem hf_push (l:List Blk) (b:Blk) (hb:b≠ .gone):hf (l++ [b])=zdr (hf l) l.length b:=by
 funext j
 unfold hf zdr
 by_cases hj:j=l.length
 ·subst hj
  simp only [List.getElem?_concat_length,if_true]
  split
  ·rename_i h;cases h;exact absurd rfl hb
  ·rfl
 ·rcases Nat.lt_or_ge j l.length with h | h
  ·simp [hj,List.getElem?_append_left h]
  ·have h2:l.length+1≤j:=om
   simp [hj,List.getElem?_eq_none h,h2]
theorem zdx (l:List Blk):hf l l.length=none:=zcA (by simp)
theorem zf6 {op:IOp} {e:Opd→Value} {h:Nat→Option Blk} {n:Nat} {v:Value} {k:Nat} {b:Blk} (hs:z8 op e h n=some (v,.set k b)):h k≠none∧b≠ .gone:=by
 cases op with
 | st m x y=>
  simp only [z8] at hs
  split at hs<;>cases hs
  rename_i f hf
  unfold stV at hf
  split at hf<;>try cases hf
  split at hf<;>try cases hf
  split at hf<;>try cases hf
  rename_i hk
  split at hf<;>cases hf
  rw [hk];exact ⟨by simp,by simp⟩
 | cpy s d x=>
  simp only [z8] at hs
  split at hs<;>try cases hs
  split at hs<;>try cases hs
  split at hs<;>try cases hs
  split at hs<;>try cases hs
  rename_i hk
  split at hs<;>cases hs
  rw [hk];exact ⟨by simp,by simp⟩
 | mup kt m x y=>
  simp only [z8] at hs
  split at hs<;>try cases hs
  split at hs<;>try cases hs
  split at hs<;>try cases hs
  rename_i hk
  split at hs<;>try cases hs
  ·rw [hk];exact ⟨by simp,by simp⟩
  ·split at hs<;>cases hs
   rw [hk];exact ⟨by simp,by simp⟩
 | _=>
  simp only [z8] at hs
  first | cases hs;done | skip
  all_goals (repeat' (split at hs))<;>cases hs
theorem zfk {op:IOp} {e:Opd→Value} {h:Nat→Option Blk} {n:Nat} {v:Value} {b:Blk} (hs:z8 op e h n=some (v,.push b)):b≠ .gone∧b.rw=true∧op.makes=true:=by
 cases op with
 | new z=>simp only [z8] at hs;cases hs;exact ⟨by simp,rfl,rfl⟩
 | box x=>simp only [z8] at hs;split at hs<;>cases hs;exact ⟨by simp,rfl,rfl⟩
 | bsl z s l ps=>simp only [z8] at hs;split at hs<;>cases hs;exact ⟨by simp,rfl,rfl⟩
 | mks z s b l c=>
  simp only [z8] at hs
  split at hs<;>try cases hs
  split at hs<;>cases hs
  exact ⟨by simp,rfl,rfl⟩
 | mkm=>simp only [z8] at hs;cases hs;exact ⟨by simp,rfl,rfl⟩
 | mkc n=>simp only [z8] at hs;cases hs;exact ⟨by simp,rfl,rfl⟩
 | st m x y=>
  simp only [z8] at hs
  split at hs<;>cases hs
  rename_i hf
  unfold stV at hf
  split at hf<;>try cases hf
  split at hf<;>try cases hf
  split at hf<;>try cases hf
  split at hf<;>cases hf
 | _=>
  simp only [z8] at hs
  first | cases hs;done | skip
  all_goals (repeat' (split at hs))<;>cases hs
end Go.Rh

namespace Go.Rh
theorem FrC.of_fr {φ φ':Phi} {h h':List Blk} {w w':World} (F:Fr φ (hf h) w φ' (hf h') w') (hl:h.length≤h'.length) (hfl: ∀(k:Nat) b b',h[k]? =some b→h'[k]? =some b'→b'.rw=b.rw):FrC φ h w φ' h' w':=
 ⟨F.size,fun b hb hx=>F.keep b hb fun k blk o hk=>hx k blk o (zeg hk),F.os,F.tape,F.output,F.le,F.new,hl,hfl⟩
theorem zjz (h l:List Blk): ∀(k:Nat) b b',h[k]? =some b→(h++l)[k]? =some b'→b'.rw=b.rw:=by
 intro k b b' h1 h2
 have:k < h.length:=by
  rcases Nat.lt_or_ge k h.length with h' | h'
  ·exact h'
  ·rw [List.getElem?_eq_none h'] at h1;cases h1
 rw [List.getElem?_append_left this,h1] at h2;cases h2;rfl
theorem zgn {h:List Blk} {k:Nat} {x:Blk} (hx: ∀b,h[k]? =some b→x.rw=b.rw): ∀(j:Nat) b b',h[j]? =some b→(h.set k x)[j]? =some b'→b'.rw=b.rw:=by
 intro j b b' h1 h2
 rw [List.getElem?_set] at h2
 split at h2
 ·rename_i e;subst e
  split at h2<;>cases h2
  exact hx b h1
 ·rw [h1] at h2;cases h2;rfl
theorem Fr.set_rw {φ φ':Phi} {h:List Blk} {w w':World} {k:Nat} {x:Blk} (F:Fr φ (hf h) w φ' (zdr (hf h) k x) w') (hk:hf h k≠none): ∀b,h[k]? =some b→x.rw=b.rw:=by
 intro b hb
 cases hq:hf h k with
 | none=>exact absurd hq hk
 | some y=>
  have:=zeg hq
  rw [hb] at this;cases this
  exact F.flags k b x hq (by simp [zdr])
structure Inv (n:Nat) (φ0:Phi) (h0:List Blk) (w0:World) (φ:Phi) (s:St) (a:Act) (w:World):Prop where
  size:n≤a.tmps.size
  regs: ∀t,VR φ (s.f t) (a.tmps.getD t undef)
  defers:a.defers= []
  heap:HR φ (hf s.h) w
  fr:FrC φ0 h0 w0 φ s.h w
def Sim (n:Nat) (φ0:Phi) (h0:List Blk) (w0:World) (K:St→Prop) (a:Act) (w:World):Prop:= ∃φ s,K s∧Inv n φ0 h0 w0 φ s a w
section
variable {P:Program} {ops:Array Oper} {a:Act} {w:World} {n:Nat} {φ0:Phi} {h0:List Blk} {w0:World} {φ:Phi} {s:St}
theorem Inv.ev (I:Inv n φ0 h0 w0 φ s a w): ∀x y,opd x=some y→VR φ (evf s.f y) (a.eval x):=by
 intro x y hx
 cases x with
 | tmp t=>simp only [opd,Option.some.injEq] at hx;subst hx;exact I.regs t
 | const v=>
  simp only [opd] at hx
  split at hx<;>cases hx
  rename_i hv
  exact VR.of_vpf hv
 | global g=>simp [opd] at hx
 | func f=>simp only [opd,Option.some.injEq] at hx;subst hx;exact VR.of_vpf rfl
theorem getD_put (a:Act) (d:Option Nat) (v:Value) (t:Nat):(a.put d v).tmps.getD t undef=(match d with | some d=>if d=t∧d < a.tmps.size then v else a.tmps.getD t undef | none=>a.tmps.getD t undef):=by
 cases d with
 | none=>rfl
 | some d=>
  simp only [Act.put,Array.getD_eq_getD_getElem?,Array.getElem?_setIfInBounds]
  by_cases h:d=t
  ·subst h
   by_cases h2:d < a.tmps.size
   ·simp [h2]
   ·simp [h2]
  ·simp [h]
theorem size_put (a:Act) (d:Option Nat) (v:Value):(a.put d v).tmps.size=a.tmps.size:=by
 cases d<;>simp [Act.put]
theorem defers_put (a:Act) (d:Option Nat) (v:Value):(a.put d v).defers=a.defers:=by
 cases d<;>simp [Act.put]
theorem Inv.step (I:Inv n φ0 h0 w0 φ s a w) (H0:HR φ0 (hf h0) w0) {d:Option Nat} (hd: ∀t,d=some t→t < n) {v v':Value} {φ':Phi} {h':List Blk} {w':World} (hv:VR φ' v v') (hh:HR φ' (hf h') w') (F:FrC φ s.h w φ' h' w'):
  Inv n φ0 h0 w0 φ' ⟨zau s.f d v,h'⟩ (a.put d v') w':=by
 refine ⟨by rw [size_put];exact I.size, ?_,by rw [defers_put];exact I.defers,hh,FrC.trans H0 I.heap I.fr F⟩
 intro t
 rw [getD_put]
 cases d with
 | none=>exact (I.regs t).mono F.le
 | some d=>
  simp only [zau,setf]
  by_cases h:t=d
  ·subst h
   have:=hd t rfl
   simp only [if_true]
   rw [if_pos ⟨trivial,by have:=I.size;omega⟩]
   exact hv
  ·rw [if_neg h,if_neg (fun hh=>h hh.1.symm)]
   exact (I.regs t).mono F.le
theorem Does.step {o:Oper} {v:Value} {f:Eff} (D:Does P o a w φ (hf s.h) s.h.length v f) (hset: ∀k b,f= .set k b→hf s.h k≠none∧b≠ .gone) (hpush: ∀b,f= .push b→b≠ .gone):
  ∃φ' v' w',Runs P o a w v' w'∧VR φ' v v'∧HR φ' (hf (f.on s.h)) w'∧FrC φ s.h w φ' (f.on s.h) w':=by
 obtain ⟨φ',v',w',hr,hv,hh,F⟩:=D
 cases f with
 | no=>exact ⟨φ',v',w',hr,hv,hh,FrC.of_fr F (Nat.le_refl _) (fun k b b' h1 h2=>by rw [show Eff.no.on s.h=s.h from rfl,h1] at h2;cases h2;rfl)⟩
 | set k b=>
  obtain ⟨h1,h2⟩:=hset k b rfl
  simp only [Eff.onF] at hh F
  refine ⟨φ',v',w',hr,hv,by simp only [Eff.on];rw [zg7 _ _ _ (zgU h1) h2];exact hh,FrC.of_fr (by simp only [Eff.on];rw [zg7 _ _ _ (zgU h1) h2];exact F) (by simp [Eff.on]) (zgn (F.set_rw h1))⟩
 | push b=>
  have h2:=hpush b rfl
  simp only [Eff.onF] at hh F
  exact ⟨φ',v',w',hr,hv,by simp only [Eff.on];rw [hf_push _ _ h2];exact hh,FrC.of_fr (by simp only [Eff.on];rw [hf_push _ _ h2];exact F) (by simp [Eff.on]) (zjz _ _)⟩
theorem VR.bool_inv {v:Value} {b:Bool} (h:VR φ v (.bool b)) (hj: ∀k r i,v≠ .complex k r i):v= .bool b:=by
 cases v<;>simp only [VR,GR] at h
 case complex=>exact absurd rfl (hj _ _ _)
 case agg=>obtain ⟨_,h,_⟩:=h;cases h
 case tuple=>obtain ⟨_,h,_⟩:=h;cases h
 all_goals
  unfold SR at h
  split at h
  all_goals first
   | (obtain ⟨_,h,_⟩:=h;cases h;done)
   | (obtain ⟨_,h⟩:=h;rw [←h];done)
   | (obtain ⟨_,h⟩:=h;cases h;done)
theorem zfJ (I:Inv n φ0 h0 w0 φ s a w) {j d:Nat} (hd:(ops[j]?).bind (·.dst)=some d) (hj: ∀k r i,s.f d≠ .complex k r i):yielded ops a.tmps j=(match s.f d with | .bool x=>some x | _=>none):=by
 have hr:=I.regs d
 unfold yielded
 rw [hd]
 simp only [Option.bind_some]
 rw [Array.getD_eq_getD_getElem?] at hr
 cases ht:a.tmps[d]? with
 | none=>
  rw [ht] at hr
  simp only [Option.getD_none] at hr
  split<;>rename_i hx
  ·cases hx
  ·split
   ·rename_i x hs;rw [hs] at hr;have:=hr.bool;cases this
   ·rfl
 | some u=>
  rw [ht] at hr
  simp only [Option.getD_some] at hr
  split
  ·rename_i b hb
   cases hb
   rw [hr.bool_inv hj]
  ·rename_i hb
   split
   ·rename_i x hs;rw [hs] at hr;exact absurd (congrArg some hr.bool) (hb x)
   ·rfl
def cut (m:Nat) (φ:Phi):Phi:=fun k=>if k < m then φ k else none
theorem SR.cut {m:Nat} {v v':Value} (hb:sbel m v=true) (h:SR φ v v'):SR (cut m φ) v v':=by
 unfold SR at*
 split at h
 ·obtain ⟨a',rfl,h1,b,o,h2,h3⟩:=h
  simp only [sbel,Nat.blt_eq] at hb
  exact ⟨a',rfl,h1,b,o,by simp [Go.Rh.cut,hb,h2],h3⟩
 ·obtain ⟨a',rfl,h1,b,o,h2,h3⟩:=h
  simp only [sbel,Nat.blt_eq] at hb
  exact ⟨a',rfl,h1,b,o,by simp [Go.Rh.cut,hb,h2],h3⟩
 ·obtain ⟨b,rfl,h2⟩:=h
  simp only [sbel,Nat.blt_eq] at hb
  exact ⟨b,rfl,by simp [Go.Rh.cut,hb,h2]⟩
 ·obtain ⟨b,rfl,h2⟩:=h
  simp only [sbel,Nat.blt_eq] at hb
  exact ⟨b,rfl,by simp [Go.Rh.cut,hb,h2]⟩
 ·exact h
theorem Each.mono3 {R R':Value→Value→Prop} {l l':List Value} {p:Value→Bool} (hp:l.all p=true) (h:Each R l l') (hr: ∀v v',p v=true→R v v'→R' v v'):Each R' l l':=
 ⟨h.1,fun i v v' h1 h2=>hr v v' (List.all_eq_true.1 hp v (List.mem_of_getElem? h1)) (h.2 i v v' h1 h2)⟩
theorem GR.cut {m:Nat} {v v':Value} (hb:gbel m v=true) (h:GR φ v v'):GR (Go.Rh.cut m φ) v v':=by
 cases v<;>simp only [GR,gbel] at h hb ⊢
 case agg x=>obtain ⟨a',rfl,h⟩:=h;exact ⟨a',rfl,h.mono3 hb fun _ _=>SR.cut⟩
 all_goals exact SR.cut hb h
theorem VR.cut {m:Nat} {v v':Value} (hb:vbel m v=true) (h:VR φ v v'):VR (Go.Rh.cut m φ) v v':=by
 cases v<;>simp only [VR,vbel] at h hb ⊢
 case tuple x=>obtain ⟨a',rfl,h⟩:=h;exact ⟨a',rfl,h.mono3 hb fun _ _=>GR.cut⟩
 all_goals exact GR.cut hb h
theorem BR.cut {m b o:Nat} {blk:Blk} (hb:bbel m blk=true) (h:BR φ w b o blk):BR (Go.Rh.cut m φ) w b o blk:=by
 cases blk with
 | cells c rw=>
  obtain ⟨c',T,fr,h1,h2,h3,h4⟩:=h
  exact ⟨c',T,fr,h1,h2,h3.mono3 hb fun _ _=>SR.cut,h4⟩
 | map es=>
  obtain ⟨h0,ms,cl,h1,h2,h3,h4⟩:=h
  simp only [bbel,List.all_eq_true,Bool.and_eq_true] at hb
  refine ⟨h0,ms,cl,h1,h2.mono3 (p:=gbel m) ?_ fun _ _=>GR.cut,h3.mono3 (p:=gbel m) ?_ fun _ _=>GR.cut,h4⟩
  ·simp only [List.all_map,List.all_eq_true];exact fun e he=>(hb e he).1
  ·simp only [List.all_map,List.all_eq_true];exact fun e he=>(hb e he).2
 | chan c bf=>
  obtain ⟨h0,b',s,r,h1,h2⟩:=h
  exact ⟨h0,b',s,r,h1,h2.mono3 hb fun _ _=>GR.cut⟩
 | iter k n seen=>
  obtain ⟨h0,bm,h1,h2⟩:=h
  simp only [bbel,Nat.blt_eq] at hb
  exact ⟨h0,bm,by simp [Go.Rh.cut,hb,h1],h2⟩
 | gone=>exact h
theorem VR.junk {v':Value} :VR φ junk v':=trivial
end
end Go.Rh

namespace Go.Rh
def zjX (P:Program) (f:FuncId) (args:List Value) (h:List Blk) (R:zen):Prop:=
 ∀(w:World) (φ:Phi) (args':Array Value),HR φ (hf h) w→args.length=args'.size→(∀(i:Nat) v v',args[i]? =some v→args'[i]? =some v'→VR φ v v')→
  Calls P f args' w fun e w'=> ∃v v' h' φ',e= .returned v'∧R v h'∧VR φ' v v'∧HR φ' (hf h') w'∧FrC φ h w φ' h' w'
def Env (P:Program):zag:=fun g args h R=>match g with
 | .nm s=> ∀f fn,P.funcs[f]? =some fn→fn.name=s→zjX P f args h R
 | .no f=> ∃fn,P.funcs[f]? =some fn∧fn.body.isSome=true∧fn.name≠ "runtime.NumGoroutine" ∧zjX P f args h R
def zhE (P:Program) (C:zag):Prop:= ∀g args h R,C g args h R→Env P g args h R
theorem Each.map_left {R:Value→Value→Prop} {g:Value→Value} {l l':List Value} :Each R (l.map g) l'↔Each (fun v v'=>R (g v) v') l l':=by
 constructor
 ·rintro ⟨h1,h2⟩
  refine ⟨by simpa using h1,fun i v v' hv hv'=>h2 i (g v) v' (by simp [hv]) hv'⟩
 ·rintro ⟨h1,h2⟩
  refine ⟨by simpa using h1,fun i v v' hv hv'=>?_⟩
  simp only [List.getElem?_map,Option.map_eq_some_iff] at hv
  obtain ⟨u,hu,rfl⟩:=hv
  exact h2 i u v' hu hv'
theorem SR.ren {φ:Phi} {ρ:Nat→Nat} {v v':Value} :SR φ (zew ρ v) v'↔SR (fun i=>φ (ρ i)) v v':=by
 cases v with
 | pointer a=>cases a<;>simp [zew,SR,AddrR,renA]
 | slice a l c=>cases a<;>simp [zew,SR,AddrR,renA]
 | map r=>cases r<;>simp [zew,SR]
 | chan r=>cases r<;>simp [zew,SR]
 | _=>simp [zew,SR]
theorem GR.ren {φ:Phi} {ρ:Nat→Nat} {v v':Value} :GR φ (zeY ρ v) v'↔GR (fun i=>φ (ρ i)) v v':=by
 cases v with
 | agg a=>
  simp only [zeY,GR,Array.toList_map,Each.map_left]
  constructor
  ·rintro ⟨a',h1,h2⟩;exact ⟨a',h1,h2.mono fun _ _=>SR.ren.1⟩
  ·rintro ⟨a',h1,h2⟩;exact ⟨a',h1,h2.mono fun _ _=>SR.ren.2⟩
 | pointer a=>cases a<;>simp [zeY,GR,zew,SR,AddrR,renA]
 | slice a l c=>cases a<;>simp [zeY,GR,zew,SR,AddrR,renA]
 | map r=>cases r<;>simp [zeY,GR,zew,SR]
 | chan r=>cases r<;>simp [zeY,GR,zew,SR]
 | _=>simp [zeY,GR,zew,SR]
theorem VR.ren {φ:Phi} {ρ:Nat→Nat} {v v':Value} :VR φ (zaF ρ v) v'↔VR (fun i=>φ (ρ i)) v v':=by
 cases v with
 | tuple a=>
  simp only [zaF,VR,Array.toList_map,Each.map_left]
  constructor
  ·rintro ⟨a',h1,h2⟩;exact ⟨a',h1,h2.mono fun _ _=>GR.ren.1⟩
  ·rintro ⟨a',h1,h2⟩;exact ⟨a',h1,h2.mono fun _ _=>GR.ren.2⟩
 | agg a=>exact GR.ren (v:= .agg a)
 | pointer a=>cases a<;>simp [zaF,zeY,VR,GR,zew,SR,AddrR,renA]
 | slice a l c=>cases a<;>simp [zaF,zeY,VR,GR,zew,SR,AddrR,renA]
 | map r=>cases r<;>simp [zaF,zeY,VR,GR,zew,SR]
 | chan r=>cases r<;>simp [zaF,zeY,VR,GR,zew,SR]
 | _=>simp [zaF,zeY,VR,GR,zew,SR]
theorem BR.ren {φ:Phi} {ρ:Nat→Nat} {w:World} {b o:Nat} {blk:Blk} :BR φ w b o (zbx ρ blk)↔BR (fun i=>φ (ρ i)) w b o blk:=by
 cases blk with
 | cells c rw=>
  simp only [zbx,BR,List.length_map,Each.map_left]
  constructor
  ·rintro ⟨c',T,fr,h1,h2,h3,h4⟩;exact ⟨c',T,fr,h1,h2,h3.mono fun _ _=>SR.ren.1,h4⟩
  ·rintro ⟨c',T,fr,h1,h2,h3,h4⟩;exact ⟨c',T,fr,h1,h2,h3.mono fun _ _=>SR.ren.2,h4⟩
 | map es=>
  have e1:(es.map fun e=>(zeY ρ e.1,zeY ρ e.2)).map (·.1)=(es.map (·.1)).map (zeY ρ):=by simp [Function.comp_def]
  have e2:(es.map fun e=>(zeY ρ e.1,zeY ρ e.2)).map (·.2)=(es.map (·.2)).map (zeY ρ):=by simp [Function.comp_def]
  simp only [zbx,BR,e1,e2]
  constructor
  ·rintro ⟨h0,ms,cl,h1,h2,h3,h4⟩;exact ⟨h0,ms,cl,h1,(Each.map_left.1 h2).mono fun _ _=>GR.ren.1,(Each.map_left.1 h3).mono fun _ _=>GR.ren.1,h4⟩
  ·rintro ⟨h0,ms,cl,h1,h2,h3,h4⟩;exact ⟨h0,ms,cl,h1,Each.map_left.2 (h2.mono fun _ _=>GR.ren.2),Each.map_left.2 (h3.mono fun _ _=>GR.ren.2),h4⟩
 | iter m n seen=>exact Iff.rfl
 | gone=>exact Iff.rfl
 | chan n bf=>
  simp only [zbx,BR]
  constructor
  ·rintro ⟨h0,b',s,r,h1,h2⟩;exact ⟨h0,b',s,r,h1,(Each.map_left.1 h2).mono fun _ _=>GR.ren.1⟩
  ·rintro ⟨h0,b',s,r,h1,h2⟩;exact ⟨h0,b',s,r,h1,Each.map_left.2 (h2.mono fun _ _=>GR.ren.2)⟩
theorem zeZ (ρ:Nat→Nat) (b:Blk):(zbx ρ b).rw=b.rw:=by cases b<;>rfl
theorem seen_rw {b b':Blk} (h:Blk.seen b b') (hr:b.rw=true):b'.rw=true:=by
 unfold Blk.seen at h
 split at h
 ·exact h.2 hr
 ·exact h.elim
 ·subst h;exact hr
theorem zcd {ρ:Nat→Nat} {b:Blk} :zbx ρ b= .gone↔b= .gone:=by cases b<;>simp [zbx]
theorem zii {ρ:Nat→Nat} {b b':Blk} (h:Blk.seen (zbx ρ b) b'):b≠ .gone∧b'≠ .gone:=by
 cases b with
 | gone=>simp only [zbx,Blk.seen] at h
 | cells c rw=>
  refine ⟨by simp, ?_⟩
  rintro rfl
  simp [zbx,Blk.seen] at h
 | map es=>
  refine ⟨by simp, ?_⟩
  rintro rfl
  simp [zbx,Blk.seen] at h
 | iter m n seen=>
  refine ⟨by simp, ?_⟩
  rintro rfl
  simp [zbx,Blk.seen] at h
 | chan n bf=>
  refine ⟨by simp, ?_⟩
  rintro rfl
  simp [zbx,Blk.seen] at h
theorem BR.seen {φ:Phi} {w:World} {b o:Nat} {blk blk':Blk} (h:Blk.seen blk blk') (hb:BR φ w b o blk'):BR φ w b o blk:=by
 unfold Blk.seen at h
 split at h
 ·obtain ⟨rfl,hr⟩:=h
  obtain ⟨c',T,fr,h1,h2,h3,h4⟩:=hb
  exact ⟨c',T,fr,h1,h2,h3,fun e=>h4 (hr e)⟩
 ·exact h.elim
 ·subst h;exact hb
theorem zec {k:Nat} {b:Blk} : ∀ {sel:List Nat} {h:List Blk},zcl k sel h=some b→∃i:Nat,sel[i]? =some k∧h[i]? =some b∧b.rw=true
 | [],_,h=>by simp [zcl] at h
 | _::_,[],h=>by simp [zcl] at h
 | s::ss,c::cs,h=>by
  simp only [zcl] at h
  split at h
  ·rename_i hc;cases h;exact ⟨0,by simp [hc.1],rfl,hc.2⟩
  ·obtain ⟨i,h1,h2,h3⟩:=zec h;exact ⟨i+1,by simpa using h1,by simpa using h2,h3⟩
theorem over_none {k:Nat} : ∀ {sel:List Nat} {h:List Blk},zcl k sel h=none→∀(i:Nat) b,sel[i]? =some k→h[i]? =some b→b.rw=false
 | [],_,_,i,b,h1,_=>by simp at h1
 | _::_,[],_,i,b,_,h2=>by simp at h2
 | s::ss,c::cs,h,i,b,h1,h2=>by
  simp only [zcl] at h
  split at h<;>try cases h
  rename_i hc
  cases i with
  | zero=>simp at h1 h2;subst h1;subst h2;simpa using hc
  | succ i=>exact over_none h i b (by simpa using h1) (by simpa using h2)
theorem zdc {sel:List Nat} {n i k:Nat} (h:sel[i]? =some k):rho sel n i=k:=by simp [rho,h]
theorem rho_ge {sel:List Nat} {n i:Nat} (h:sel.length≤i):rho sel n i=n+(i - sel.length):=by simp [rho,List.getElem?_eq_none h]
theorem z6 {α:Type} {l:List α} {i:Nat} {x:α} (h:l[i]? =some x):i < l.length:=by
 rcases Nat.lt_or_ge i l.length with h' | h'
 ·exact h'
 ·simp [List.getElem?_eq_none h'] at h
theorem zbP {h:List Blk} {sel:List Nat} {h1:List Blk} {ρ:Nat→Nat} {k:Nat} (hk:k < h.length):(zfZ h sel h1 ρ)[k]? =some (match zcl k sel h1 with | some b'=>zbx ρ b' | none=>h[k]):=by
 unfold zfZ
 rw [List.getElem?_append_left (by simpa using hk)]
 simp [hk]
 all_goals (cases zcl k sel h1<;>rfl)
theorem zbQ {h:List Blk} {sel:List Nat} {h1:List Blk} {ρ:Nat→Nat} {k:Nat} (hk:h.length≤k):(zfZ h sel h1 ρ)[k]? =(h1[sel.length+(k - h.length)]?).map (zbx ρ):=by
 unfold zfZ
 rw [List.getElem?_append_right (by simpa using hk)]
 simp
def Blk.seenW (a b:Blk):Prop:=Blk.seen a b∨Blk.hid a b
theorem zh1 {a b:Blk} (h:Blk.view a b):Blk.seenW a b∨a= .gone∧b= .gone:=by
 rcases h with (h | h) | h
 ·exact .inl (.inl h)
 ·exact .inr h
 ·exact .inl (.inr h)
theorem zhI {b b':Blk} (h:Blk.seenW b b') (hr:b.rw=true):b'.rw=true:=by
 rcases h with h | ⟨rfl,_⟩
 ·exact seen_rw h hr
 ·cases hr
theorem zd5 {ρ:Nat→Nat} {b b':Blk} (h:Blk.seenW (zbx ρ b) b'):b≠ .gone∧b'≠ .gone:=by
 rcases h with h | ⟨h,c,rw,rfl⟩
 ·exact zii h
 ·refine ⟨?_,by simp⟩
  rintro rfl
  cases h
theorem BR.seenW {φ:Phi} {w:World} {b o:Nat} {blk blk':Blk} (h:Blk.seenW blk blk') (hb:BR φ w b o blk'):BR φ w b o blk:=by
 rcases h with h | ⟨rfl,c,rw,rfl⟩
 ·exact BR.seen h hb
 ·obtain ⟨c',T,fr,h1,h2,h3,h4⟩:=hb
  exact ⟨c',T,fr,h1,by simp only [List.length_nil];omega,by simpa using Each.nil _,fun e=>by cases e⟩
theorem goneL_of {ρ:Nat→Nat} {h:List Blk} {sel:List Nat} {h1:List Blk} (hl:h1.length=sel.length) (hs: ∀(i k:Nat) b1,sel[i]? =some k→h1[i]? =some b1→∃b,h[k]? =some b∧Blk.seen (zbx ρ b1) b) (h1':List Blk):zgm h1 h1':=by
 intro i hi
 have:=z6 hi
 obtain ⟨b,_,hb⟩:=hs i _ _ (List.getElem?_eq_getElem (show i < sel.length by omega)) hi
 exact absurd rfl (zii hb).1
theorem callee_heap {φ:Phi} {h:List Blk} {w:World} (H:HR φ (hf h) w) {sel:List Nat} {h1:List Blk} (hl:h1.length=sel.length)
  (hs: ∀(i k:Nat) b1,sel[i]? =some k→h1[i]? =some b1→∃b,h[k]? =some b∧Blk.view (zbx (rho sel h.length) b1) b)
  (hd: ∀(i j k:Nat) b1,i≠j→sel[i]? =some k→sel[j]? =some k→h1[i]? =some b1→b1.rw=false):
  HR (fun i=>φ (rho sel h.length i)) (hf h1) w:=by
 have sel_of: ∀ {i:Nat} {b1:Blk},h1[i]? =some b1→∃k,sel[i]? =some k:=fun {i b1} hi=>by
  have:=z6 hi
  exact ⟨sel[i]'om,by simp [show i < sel.length by omega]⟩
 have nil_of: ∀ {i:Nat},sel.length≤i→φ (rho sel h.length i)=none:=fun {i} hi=>by
  rw [rho_ge hi];exact H.nil _ (zcA (List.getElem?_eq_none om))
 refine ⟨?_, ?_, ?_⟩
 ·intro i b1 hi
  have hng:=(zah.1 hi).2
  replace hi:=zeg hi
  obtain ⟨k,hk⟩:=sel_of hi
  obtain ⟨b,hb,hsn⟩:=hs i k b1 hk hi
  have hsn:=(zh1 hsn).resolve_right fun q=>hng (zcd.1 q.1)
  obtain ⟨rb,ro,hφ,hB⟩:=H.has k b (zah.2 ⟨hb,(zd5 hsn).2⟩)
  exact ⟨rb,ro,by simp only [zdc hk];exact hφ,BR.ren.1 (BR.seenW hsn hB)⟩
 ·intro i hi
  rcases Nat.lt_or_ge i h1.length with h' | h'
  ·have hi':h1[i]? =some h1[i]:=by simp [h']
   obtain ⟨k,hk⟩:=sel_of hi'
   obtain ⟨b,hb,hsn⟩:=hs i k _ hk hi'
   rcases zh1 hsn with hsn | ⟨_,hbg⟩
   ·rw [zah.2 ⟨hi',(zd5 hsn).1⟩] at hi;cases hi
   ·simp only [zdc hk];exact H.nil _ (zcB (hbg▸hb))
  ·exact nil_of om
 ·intro i j b1 rb ro rb' ro' hij hi hrw e1 e2
  have hng:=(zah.1 hi).2
  replace hi:=zeg hi
  obtain ⟨k,hk⟩:=sel_of hi
  obtain ⟨b,hb,hsn⟩:=hs i k b1 hk hi
  have hsn:=(zh1 hsn).resolve_right fun q=>hng (zcd.1 q.1)
  simp only [zdc hk] at e1
  rcases Nat.lt_or_ge j sel.length with hj | hj
  ·have hk':sel[j]? =some sel[j]:=by simp [hj]
   simp only [zdc hk'] at e2
   by_cases hkk:sel[j]=k
   ·have:=hd i j k b1 hij hk (hkk▸hk') hi
    rw [this] at hrw;cases hrw
   ·exact H.apart k sel[j] b rb ro rb' ro' (fun e=>hkk e.symm) (zah.2 ⟨hb,(zd5 hsn).2⟩) (zhI hsn (by rw [zeZ];exact hrw)) e1 e2
  ·rw [nil_of hj] at e2;cases e2
theorem caller_heap {φ φ1':Phi} {h:List Blk} {w w':World} (H:HR φ (hf h) w) {sel:List Nat} {h1 h1':List Blk} (hl:h1.length=sel.length)
  (hs: ∀(i k:Nat) b1,sel[i]? =some k→h1[i]? =some b1→∃b,h[k]? =some b∧Blk.view (zbx (rho sel h.length) b1) b)
  (H1:HR (fun i=>φ (rho sel h.length i)) (hf h1) w) (H1':HR φ1' (hf h1') w') (F:FrC (fun i=>φ (rho sel h.length i)) h1 w φ1' h1' w') (hgo:zgm h1 h1'):
  ∃φ',(fun i=>φ' (rho sel h.length i))=φ1'∧HR φ' (hf (zfZ h sel h1' (rho sel h.length))) w'∧FrC φ h w φ' (zfZ h sel h1' (rho sel h.length)) w':=by
 have hlen:sel.length≤h1'.length:=hl▸F.len
 have sel_of: ∀ {i:Nat} {b1:Blk},h1[i]? =some b1→∃k,sel[i]? =some k:=fun {i b1} hi=>by
  have:=z6 hi
  exact ⟨sel[i]'om,by simp [show i < sel.length by omega]⟩
 have h1_of: ∀ {i k:Nat},sel[i]? =some k→∃b1,h1[i]? =some b1:=fun {i k} hi=>by
  have:=z6 hi
  exact ⟨h1[i]'om,by simp [show i < h1.length by omega]⟩
 have h1'_of: ∀ {i:Nat} {b1:Blk},h1[i]? =some b1→∃b1',h1'[i]? =some b1'∧b1'.rw=b1.rw:=fun {i b1} hi=>by
  have h2:=z6 hi
  have h3:=F.len
  refine ⟨h1'[i]'om,by simp [show i < h1'.length by omega],F.flags i b1 _ hi (by simp [show i < h1'.length by omega])⟩
 let φ':Phi:=fun k=>if k < h.length then φ k else φ1' (k - h.length+sel.length)
 have hφlt: ∀ {k:Nat},k < h.length→φ' k=φ k:=fun {k} hk=>by simp [φ',hk]
 have hφge: ∀ {k:Nat},h.length≤k→φ' k=φ1' (k - h.length+sel.length):=fun {k} hk=>by simp [φ',Nat.not_lt.2 hk]
 have hsel_lt: ∀ {i k:Nat},sel[i]? =some k→k < h.length:=fun {i k} hi=>by
  obtain ⟨b1,hb1⟩:=h1_of hi
  obtain ⟨b,hb,_⟩:=hs i k b1 hi hb1
  exact z6 hb
 have hρ:(fun i=>φ' (rho sel h.length i))=φ1':=by
  funext i
  rcases Nat.lt_or_ge i sel.length with hi | hi
  ·have hk:sel[i]? =some sel[i]:=by simp [hi]
   obtain ⟨b1,hb1⟩:=h1_of hk
   obtain ⟨b,hb,hsn⟩:=hs i _ b1 hk hb1
   rcases zh1 hsn with hsn | ⟨hbg1,hbg⟩
   ·obtain ⟨rb,ro,e,_⟩:=H1.has i b1 (zah.2 ⟨hb1,(zd5 hsn).1⟩)
    have e2:=F.le i _ e
    simp only [zdc hk] at e ⊢
    rw [hφlt (hsel_lt hk),e,e2]
   ·simp only [zdc hk]
    rw [hφlt (hsel_lt hk),H.nil _ (zcB (hbg▸hb)),H1'.nil _ (zcB (hgo i (zcd.1 hbg1▸hb1)))]
  ·simp only [rho_ge hi]
   rw [hφge om]
   congr 1;omega
 have hρi: ∀i,φ' (rho sel h.length i)=φ1' i:=fun i=>congrFun hρ i
 have hle:Le φ φ':=by
  intro k x e
  rcases Nat.lt_or_ge k h.length with hk | hk
  ·rw [hφlt hk];exact e
  ·rw [H.nil k (zcA (List.getElem?_eq_none hk))] at e;cases e
 have hnew: ∀ {k rb ro:Nat},h.length≤k→φ' k=some (rb,ro)→w.heap.size≤rb:=fun {k rb ro} hk e=>by
  rw [hφge hk] at e
  rcases F.new _ _ _ e with h' | h'
  ·rw [rho_ge om,H.nil _ (zcA (List.getElem?_eq_none om))] at h';cases h'
  ·exact h'
 have hbk_rw: ∀ {k:Nat} {blk:Blk},k < h.length→(zfZ h sel h1' (rho sel h.length))[k]? =some blk→∃b,h[k]? =some b∧blk.rw=b.rw:=fun {k blk} hk e=>by
  rw [zbP hk] at e
  cases e
  refine ⟨h[k],by simp [hk], ?_⟩
  split
  ·rename_i b' hov
   obtain ⟨i,e1,e2,e3⟩:=zec hov
   obtain ⟨b1,hb1⟩:=h1_of e1
   obtain ⟨b1',e4,e5⟩:=h1'_of hb1
   rw [e2] at e4;cases e4
   obtain ⟨b,hb,hsn⟩:=hs i k b1 e1 hb1
   have hb':h[k]=b:=by
    have:h[k]? =some h[k]:=by simp [hk]
    rw [hb] at this;exact (Option.some.inj this).symm
   rw [zeZ,e3,hb']
   rcases zh1 hsn with hsn | ⟨_,hbg⟩
   ·exact (zhI hsn (by rw [zeZ,←e5,e3])).symm
   ·rw [hbg];rfl
  ·rfl
 refine ⟨φ',hρ,⟨?_, ?_, ?_⟩, ?_⟩
 ·-- has
  intro k blk hk
  rcases Nat.lt_or_ge k h.length with hkl | hkl
  ·obtain ⟨hk',hkg⟩:=zah.1 hk
   rw [zbP hkl] at hk'
   cases hk'
   rw [hφlt hkl]
   split
   ·rename_i b' hov
    rw [hov] at hkg
    obtain ⟨i,e1,e2,e3⟩:=zec hov
    obtain ⟨rb,ro,e4,hB⟩:=H1'.has i b' (zah.2 ⟨e2,fun e=>hkg (zcd.2 e)⟩)
    refine ⟨rb,ro, ?_,BR.ren.2 (by rw [hρ];exact hB)⟩
    have:=hρi i
    rw [zdc e1,hφlt hkl] at this
    rw [this];exact e4
   ·rename_i hov
    rw [hov] at hkg
    obtain ⟨rb,ro,e4,hB⟩:=H.has k h[k] (zah.2 ⟨by simp [hkl],hkg⟩)
    refine ⟨rb,ro,e4,(hB.congr (F.keep rb hB.lt ?_)).mono hle⟩
    intro i b1 ro' hi hrw he
    obtain ⟨kk,hkk⟩:=sel_of hi
    obtain ⟨b,hb,hsn⟩:=hs i kk b1 hkk hi
    rw [zdc hkk] at he
    have hsn:Blk.seenW (zbx (rho sel h.length) b1) b:=by
     rcases zh1 hsn with hsn | ⟨_,hbg⟩
     ·exact hsn
     ·rw [H.nil _ (zcB (hbg▸hb))] at he;cases he
    by_cases hkk':kk=k
    ·subst hkk'
     obtain ⟨b1',e5,e6⟩:=h1'_of hi
     have:=over_none hov i b1' hkk e5
     rw [e6,hrw] at this;cases this
    ·exact H.apart kk k b rb ro' rb ro hkk' (zah.2 ⟨hb,(zd5 hsn).2⟩) (zhI hsn (by rw [zeZ];exact hrw)) he e4 rfl
  ·obtain ⟨hk',hkg⟩:=zah.1 hk
   rw [zbQ hkl] at hk'
   cases hb:h1'[sel.length+(k - h.length)]? with
   | none=>rw [hb] at hk';cases hk'
   | some b1=>
    rw [hb] at hk';cases hk'
    obtain ⟨rb,ro,e4,hB⟩:=H1'.has _ b1 (zah.2 ⟨hb,fun e=>hkg (zcd.2 e)⟩)
    refine ⟨rb,ro, ?_,BR.ren.2 (by rw [hρ];exact hB)⟩
    rw [hφge hkl,show k - h.length+sel.length=sel.length+(k - h.length) by omega];exact e4
 ·-- nil
  intro k hk
  rcases Nat.lt_or_ge k h.length with hkl | hkl
  ·have hg:(zfZ h sel h1' (rho sel h.length))[k]? =some .gone:=by
    cases hq:(zfZ h sel h1' (rho sel h.length))[k]? with
    | none=>rw [zbP hkl] at hq;cases hq
    | some b=>
     by_cases hbg:b= .gone
     ·rw [hbg]
     ·rw [zah.2 ⟨hq,hbg⟩] at hk;cases hk
   rw [zbP hkl] at hg
   have hg:=Option.some.inj hg
   split at hg
   ·rename_i b' hov
    obtain ⟨i,e1,e2,e3⟩:=zec hov
    have:=hρi i
    rw [zdc e1] at this
    rw [this]
    exact H1'.nil _ (zcB (by rw [e2,zcd.1 hg]))
   ·rw [hφlt hkl]
    exact H.nil _ (zcB (by rw [←hg];simp [hkl]))
  ·rw [hφge hkl]
   refine H1'.nil _ ?_
   cases hb:h1'[k - h.length+sel.length]? with
   | none=>exact zcA hb
   | some b1=>
    by_cases hbg:b1= .gone
    ·exact zcB (by rw [hb,hbg])
    ·rw [zah.2 ⟨by rw [zbQ hkl,show sel.length+(k - h.length)=k - h.length+sel.length by omega,hb];rfl,fun e=>hbg (zcd.1 e)⟩] at hk;cases hk
 ·-- apart
  intro k k' blk rb ro rb' ro' hne hk hrw e1 e2
  obtain ⟨hk,hkg⟩:=zah.1 hk
  rcases Nat.lt_or_ge k h.length with hkl | hkl
  ·obtain ⟨b,hb,hbr⟩:=hbk_rw hkl hk
   rw [hφlt hkl] at e1
   have hb:hf h k=some b:=zah.2 ⟨hb,fun e=>by rw [H.nil k (zcB (e▸hb))] at e1;cases e1⟩
   rcases Nat.lt_or_ge k' h.length with hkl' | hkl'
   ·rw [hφlt hkl'] at e2
    exact H.apart k k' b rb ro rb' ro' hne hb (hbr▸hrw) e1 e2
   ·have:=hnew hkl' e2
    have:=H.lt e1
    omega
  ·have h2:=hnew hkl e1
   rcases Nat.lt_or_ge k' h.length with hkl' | hkl'
   ·rw [hφlt hkl'] at e2
    have:=H.lt e2
    omega
   ·rw [hφge hkl] at e1
    rw [hφge hkl'] at e2
    rw [zbQ hkl] at hk
    cases hb:h1'[sel.length+(k - h.length)]? with
    | none=>rw [hb] at hk;cases hk
    | some b1=>
     rw [hb] at hk;cases hk
     rw [zeZ] at hrw
     exact H1'.apart (k - h.length+sel.length) (k' - h.length+sel.length) b1 rb ro rb' ro' om (zah.2 ⟨by rw [show k - h.length+sel.length=sel.length+(k - h.length) by omega];exact hb,fun e=>hkg (zcd.2 e)⟩) hrw e1 e2
 ·-- frame
  refine ⟨F.size, ?_,F.os,F.tape,F.output,hle, ?_, ?_, ?_⟩
  ·intro rb hrb hx
   refine F.keep rb hrb ?_
   intro i b1 ro hi hrw he
   obtain ⟨kk,hkk⟩:=sel_of hi
   obtain ⟨b,hb,hsn⟩:=hs i kk b1 hkk hi
   rw [zdc hkk] at he
   have hsn:Blk.seenW (zbx (rho sel h.length) b1) b:=by
    rcases zh1 hsn with hsn | ⟨_,hbg⟩
    ·exact hsn
    ·rw [H.nil _ (zcB (hbg▸hb))] at he;cases he
   exact hx kk b ro hb (zhI hsn (by rw [zeZ];exact hrw)) he
  ·intro k rb ro e
   rcases Nat.lt_or_ge k h.length with hkl | hkl
   ·rw [hφlt hkl] at e;exact .inl e
   ·exact .inr (hnew hkl e)
  ·unfold zfZ;simp
  ·intro k b b' hk hk'
   have hkl:=z6 hk
   obtain ⟨b2,hb2,hbr⟩:=hbk_rw hkl hk'
   rw [hk] at hb2;cases hb2
   exact hbr
section
variable {n:Nat} {φ0:Phi} {h0:List Blk} {w0:World} {φ:Phi} {s:St} {a:Act} {w:World}
theorem Inv.weakR' (I:Inv n φ0 h0 w0 φ s a w) (H0:HR φ0 (hf h0) w0) {s0:St} {sel:List Nat} (hw:WkR h0.length s s0 sel):Inv n φ0 h0 w0 (fun i=>φ (rho sel s.h.length i)) s0 a w:=by
 obtain ⟨h1,h2,hnd,h3,h4⟩:=hw
 have hinj: ∀(i j k:Nat),sel[i]? =some k→sel[j]? =some k→i=j:=fun i j k e1 e2=>by
  have l1:=z6 e1
  have l2:=z6 e2
  rw [List.getElem?_eq_getElem l1] at e1
  rw [List.getElem?_eq_getElem l2] at e2
  exact (List.getElem_inj hnd).1 ((Option.some.inj e1).trans (Option.some.inj e2).symm)
 have hnil: ∀ {k:Nat},s.h[k]? =none→φ k=none:=fun {k} e=>I.heap.nil k (zcA e)
 have hge: ∀ {i:Nat},sel.length≤i→φ (rho sel s.h.length i)=none:=fun {i} hi=>by
  rw [rho_ge hi];exact hnil (List.getElem?_eq_none om)
 have hsl: ∀ {i:Nat} {x:Nat×Nat},φ (rho sel s.h.length i)=some x→∃k,sel[i]? =some k∧φ k=some x:=fun {i x} e=>by
  rcases Nat.lt_or_ge i sel.length with hi | hi
  ·exact ⟨sel[i],by simp [hi],by rw [zdc (k:=sel[i]) (by simp [hi])] at e;exact e⟩
  ·rw [hge hi] at e;cases e
 have hB:h0.length≤s0.h.length:=by
  rw [h1]
  rcases Nat.lt_or_ge sel.length h0.length with h | h
  ·have:=h2 sel.length h;simp at this
  ·exact h
 refine ⟨I.size,fun t=>?_,I.defers,⟨?_, ?_, ?_⟩,I.fr.size,I.fr.keep,I.fr.os,I.fr.tape,I.fr.output, ?_, ?_,hB, ?_⟩
 ·rcases h3 t with h | e
  ·rw [h];exact VR.junk
  ·exact VR.ren.1 (e▸I.regs t)
 ·intro i blk hi
  obtain ⟨e1,hne⟩:=zah.1 hi
  have hil:=z6 e1
  rw [h1] at hil
  have e2:sel[i]? =some sel[i]:=by simp [hil]
  rcases h4 i _ blk e2 e1 with e3 | ⟨e3,_⟩
  ·obtain ⟨b,o,e4,hb⟩:=I.heap.has _ _ (zah.2 ⟨e3,fun e=>hne (zcd.1 e)⟩)
   exact ⟨b,o,by simp only [zdc e2];exact e4,BR.ren.1 hb⟩
  ·exact absurd e3 hne
 ·intro i hi
  rcases Nat.lt_or_ge i sel.length with hil | hil
  ·have e2:sel[i]? =some sel[i]:=by simp [hil]
   have e1:s0.h[i]? =some (s0.h[i]'om):=by simp [show i < s0.h.length by omega]
   simp only [zdc e2]
   have hg:s0.h[i]'om= .gone:=by
    generalize hq:s0.h[i]'om=q at e1
    cases q with
    | gone=>rfl
    | _=>rw [zah.2 ⟨e1,by simp⟩] at hi;cases hi
   rcases h4 i _ _ e2 e1 with e3 | ⟨_,e3⟩
   ·rw [hg] at e3;exact I.heap.nil _ (zcB e3)
   ·exact hnil e3
  ·exact hge hil
 ·intro i i' blk rb ro rb' ro' hne hi hrw e1 e2
  obtain ⟨k,e3,e4⟩:=hsl e1
  obtain ⟨k',e5,e6⟩:=hsl e2
  obtain ⟨e7,hng⟩:=zah.1 hi
  rcases h4 i k blk e3 e7 with e8 | ⟨e8,_⟩
  ·exact I.heap.apart k k' _ rb ro rb' ro' (fun e=>hne (hinj i i' k e3 (e▸e5))) (zah.2 ⟨e8,fun e=>hng (zcd.1 e)⟩) (by rw [zeZ];exact hrw) e4 e6
  ·exact absurd e8 hng
 ·intro k x e
  have hk:k < h0.length:=by
   rcases Nat.lt_or_ge k h0.length with hk | hk
   ·exact hk
   ·rw [H0.nil k (zcA (List.getElem?_eq_none hk))] at e;cases e
  show φ (rho sel s.h.length k)=some x
  rw [zdc (h2 k hk)]
  exact I.fr.le k x e
 ·intro i b o e
  obtain ⟨k,e3,e4⟩:=hsl e
  rcases I.fr.new k b o e4 with h | h
  ·have hk:k < h0.length:=by
    rcases Nat.lt_or_ge k h0.length with hk | hk
    ·exact hk
    ·rw [H0.nil k (zcA (List.getElem?_eq_none hk))] at h;cases h
   have:=hinj i k k e3 (h2 k hk)
   subst this
   exact .inl h
  ·exact .inr h
 ·intro k b b' e1 e2
  have hk:=z6 e1
  rcases h4 k k b' (h2 k hk) e2 with e3 | ⟨_,e3⟩
  ·have:=I.fr.flags k b _ e1 e3
   rw [zeZ] at this
   exact this
  ·have hlt:k < s.h.length:=Nat.lt_of_lt_of_le hk I.fr.len
   rw [List.getElem?_eq_getElem hlt] at e3;cases e3
theorem Inv.weakR (I:Inv n φ0 h0 w0 φ s a w) (H0:HR φ0 (hf h0) w0) {s0:St} {sel:List Nat} (hw:WkR h0.length s s0 sel): ∃φ',Inv n φ0 h0 w0 φ' s0 a w:=⟨_,I.weakR' H0 hw⟩
theorem Inv.weak (I:Inv n φ0 h0 w0 φ s a w) (H0:HR φ0 (hf h0) w0) {s0:St} (hw:Wk h0.length s s0): ∃φ',Inv n φ0 h0 w0 φ' s0 a w:=by
 rcases hw with rfl | ⟨h1,h2,h3,h4⟩ | ⟨sel,hw⟩
 ·exact ⟨φ,I⟩
 ·have hle:s0.h.length≤s.h.length:=by rw [h2];simp;omega
  have hget: ∀ {k:Nat},k < s0.h.length→s0.h[k]? =s.h[k]? :=fun {k} hk=>by
   have e:s0.h[k]? =(s.h.take s0.h.length)[k]? :=by rw [←h2]
   rw [e,List.getElem?_take,if_pos hk]
  have hfe: ∀ {k:Nat},k < s0.h.length→hf s0.h k=hf s.h k:=fun {k} hk=>by unfold hf;rw [hget hk]
  refine ⟨cut s0.h.length φ,I.size,fun t=>?_,I.defers,⟨?_, ?_, ?_⟩,I.fr.size,I.fr.keep,I.fr.os,I.fr.tape,I.fr.output, ?_, ?_,h1, ?_⟩
  ·rcases h3 t with h | ⟨e,h⟩
   ·rw [h];exact VR.junk
   ·exact VR.cut h (e▸I.regs t)
  ·intro k blk hk
   have hkl:=zgU (by rw [hk];simp:hf s0.h k≠none)
   rw [hfe hkl] at hk
   obtain ⟨b,o,e,hB⟩:=I.heap.has k blk hk
   refine ⟨b,o,by simp [cut,hkl,e],BR.cut (h4 blk ?_) hB⟩
   rw [←hfe hkl] at hk
   exact List.mem_of_getElem? (zeg hk)
  ·intro k hk
   by_cases hkl:k < s0.h.length
   ·rw [hfe hkl] at hk;simp [cut,hkl,I.heap.nil k hk]
   ·simp [cut,hkl]
  ·intro k k' blk rb ro rb' ro' hne hk hrw e1 e2
   unfold cut at e1 e2
   split at e1
   ·rename_i hkl
    split at e2
    ·rw [hfe hkl] at hk;exact I.heap.apart k k' blk rb ro rb' ro' hne hk hrw e1 e2
    ·cases e2
   ·cases e1
  ·intro k x e
   have:k < h0.length:=by
    rcases Nat.lt_or_ge k h0.length with hk | hk
    ·exact hk
    ·rw [H0.nil k (zcA (List.getElem?_eq_none hk))] at e;cases e
   simp only [cut,show k < s0.h.length by omega,if_true]
   exact I.fr.le k x e
  ·intro k b o e
   unfold cut at e
   split at e
   ·exact I.fr.new k b o e
   ·cases e
  ·intro k b b' e1 e2
   have:k < s0.h.length:=by
    rcases Nat.lt_or_ge k s0.h.length with h | h
    ·exact h
    ·rw [List.getElem?_eq_none h] at e2;cases e2
   rw [hget this] at e2
   exact I.fr.flags k b b' e1 e2
 ·exact I.weakR H0 hw
theorem Sim.weak {K:St→Prop} (H0:HR φ0 (hf h0) w0) (h:Sim n φ0 h0 w0 (fun s=> ∃s0,Wk h0.length s s0∧K s0) a w):Sim n φ0 h0 w0 K a w:=by
 obtain ⟨φ,s,⟨s0,hw,hk⟩,I⟩:=h
 obtain ⟨φ',I'⟩:=I.weak H0 hw
 exact ⟨φ',s0,hk,I'⟩
end
end Go.Rh

namespace Go.Rh
theorem growBy_le (n:Nat): ∀(r c:Nat),256≤c→c≤2*n→Builtin.growBy n r c≤2*n
 | 0,c,_,h=>h
 | r+1,c,h0,h=>by
  simp only [Builtin.growBy]
  split
  ·exact h
  ·exact growBy_le n r _ om om
theorem ziw {n c:Nat} (h:c < n):Builtin.nextslicecap n c≤2*n:=by
 unfold Builtin.nextslicecap
 split
 ·omega
 ·split
  ·omega
  ·exact growBy_le n 4 c om om
section
variable {P:Program} {ops:Array Oper} {a:Act} {w:World} {n:Nat} {φ0:Phi} {h0:List Blk} {w0:World} {φ:Phi} {s:St}
theorem HR.drew {h:Nat→Option Blk} (H:HR φ h w):HR φ h w.drew:=
 ⟨fun k blk e=>let ⟨b,o,e1,r⟩:=H.has k blk e;⟨b,o,e1,r.congr rfl⟩,H.nil,H.apart⟩
theorem FrC.of_drew {h h':List Blk} {φ':Phi} {w':World} (F:FrC φ h w.drew φ' h' w'):FrC φ h w φ' h' w':=
 ⟨F.size,F.keep,F.os,F.tape,F.output,F.le,F.new,F.len,F.flags⟩
theorem push_list {h:List Blk} (H:HR φ (hf h) w) (blk:Blk) (hg:blk≠ .gone) (obj:Obj) (hb:BR (zdr φ h.length (w.heap.size,0)) (w.alloc obj) w.heap.size 0 blk):
  HR (zdr φ h.length (w.heap.size,0)) (hf (h++ [blk])) (w.alloc obj)∧FrC φ h w (zdr φ h.length (w.heap.size,0)) (h++ [blk]) (w.alloc obj):=by
 obtain ⟨h1,h2⟩:=HR.push H (n:=h.length) (zdx h) obj blk hb
 rw [hf_push _ _ hg]
 exact ⟨h1,FrC.of_fr (by rw [hf_push _ _ hg];exact h2) (by simp) (zjz _ _)⟩
theorem set_list {h:List Blk} {k:Nat} {blk':Blk} {w':World} (hk:hf h k≠none) (hg:blk'≠ .gone) (h1:HR φ (zdr (hf h) k blk') w') (h2:Fr φ (hf h) w φ (zdr (hf h) k blk') w'):
  HR φ (hf (h.set k blk')) w'∧FrC φ h w φ (h.set k blk') w':=by
 rw [zg7 _ _ _ (zgU hk) hg]
 exact ⟨h1,FrC.of_fr (by rw [zg7 _ _ _ (zgU hk) hg];exact h2) (by simp) (zgn (h2.set_rw hk))⟩
def OpOK (P:Program) (o:Oper) (φ:Phi) (h:List Blk) (a:Act) (w:World) (K:Value→List Blk→Prop):Prop:=
 ∃φ' v v' h' w',Runs P o a w v' w'∧K v h'∧VR φ' v v'∧HR φ' (hf h') w'∧FrC φ h w φ' h' w'
theorem zim {st xt ty el:TypeId} {i:TypeInfo} (hu:P.underlying st=some (.slice el)) (hxt:(∃e2,P.underlying xt=some (.slice e2))∨P.underlying xt=some .string) (hi:P.info? el=some i) {base:Option Addr} {sl cap m:Nat} {xv:Value} {new:Array Value} {w':World}
  (hlo:(Builtin.lenOf xv).run P w= .ok m w) (hrn:(Builtin.firstCells i.size m xv).run P w= .ok new w) (hroom:sl+m≤cap)
  (hst:(match base with | some ad=>storeCells (ad.add (sl*i.size)) new.toList | none=>pure ():Sem Unit).run P w= .ok () w'):
  (Builtin.append_ #[st,xt] ty #[.slice base sl cap,xv]).run P w= .ok (.slice base (sl+m) cap) w':=by
 unfold Builtin.append_
 rcases hxt with ⟨e2,hd⟩ | hd
 all_goals
  cases base with
  | none=>
   have:w=w':=by simpa using hst
   subst this
   simp [run_underlying hu,zbf hi,run_underlying hd,hlo,hroom,hrn]
  | some ad=>simp [run_underlying hu,zbf hi,run_underlying hd,hlo,hroom,hrn,hst]
theorem zin {st xt ty el:TypeId} {i:TypeInfo} {zv:Value} (hu:P.underlying st=some (.slice el)) (hxt:(∃e2,P.underlying xt=some (.slice e2))∨P.underlying xt=some .string) (hi:P.info? el=some i) (hzv:i.zero=some zv) (hb0:i.bytes≠0) {base:Option Addr} {sl cap m:Nat} {xv:Value} {old new:Array Value}
  (hlo:(Builtin.lenOf xv).run P w= .ok m w) (hrn:(Builtin.firstCells i.size m xv).run P w.drew= .ok new w.drew) (hro:(Builtin.firstCells i.size sl (.slice base sl cap)).run P w.drew= .ok old w.drew) (hroom: ¬sl+m≤cap)
  (hns: ¬(Builtin.nextslicecap (sl+m) cap*i.bytes > 281474976710656)):
  (Builtin.append_ #[st,xt] ty #[.slice base sl cap,xv]).run P w= .ok (.slice (some ⟨w.heap.size,0,none⟩) (sl+m) ((Question.appendCap (sl+m) cap el).cut (w.tape w.drawn (.appendCap (sl+m) cap el))))
   (w.drew.alloc (.cells (old++new++Builtin.zeroCells zv.cells ((Question.appendCap (sl+m) cap el).cut (w.tape w.drawn (.appendCap (sl+m) cap el)) - (sl+m))) el)):=by
 unfold Builtin.append_
 have hd0:({ w with drawn:=w.drawn+1 } :World)=w.drew:=rfl
 rcases hxt with ⟨e2,hd⟩ | hd
 all_goals
  simp [run_underlying hu,zbf hi,run_underlying hd,hlo,hroom,zbo hi,hb0,hns,Question.forced,hrn,hro,zas hi hzv,newRow]
theorem Fr.of_drew {h h':Nat→Option Blk} {φ':Phi} {w':World} (F:Fr φ h w.drew φ' h' w'):Fr φ h w φ' h' w':=
 ⟨F.size,F.keep,F.os,F.tape,F.output,F.le,F.new,F.own,F.flags⟩
theorem app_core {o:Oper} {x y:Operand} {x':Opd} {st xt el:TypeId} {i:TypeInfo} {z:RL} {K:Value→Eff→Prop} {h:Nat→Option Blk} {n:Nat} {e:Opd→Value} (he: ∀x y,opd x=some y→VR φ (e y) (a.eval x)) (H:HR φ h w) (hn:h n=none)
  (ho:o.op= .call { callee:= .builtin .append,args:= #[x,y],argTypes:= #[st,xt] }) (hx:opd x=some x') {yv:Value} (hi:P.info? el=some i) (hz:zbM P el=some z)
  (hrS: ∀m new,zi6 yv=some m→first h i.size m yv=some new→∃new':Array Value,Each (SR φ) new new'.toList∧∀base sl cap w',sl+m≤cap→(match base with | some ad=>storeCells (ad.add (sl*i.size)) new'.toList | none=>pure ():Sem Unit).run P w= .ok () w'→
   (Builtin.append_ #[st,xt] o.type #[.slice base sl cap,a.eval y]).run P w= .ok (.slice base (sl+m) cap) w')
  (hgS: ∀m new,zi6 yv=some m→first h i.size m yv=some new→∃new':Array Value,Each (SR φ) new new'.toList∧∀(zv:Value) base sl cap (old:Array Value),i.zero=some zv→(Builtin.firstCells i.size sl (.slice base sl cap)).run P w.drew= .ok old w.drew→¬sl+m≤cap→2*(sl+m)*i.bytes≤281474976710656→
   ¬(Builtin.nextslicecap (sl+m) cap*i.bytes > 281474976710656)→(Builtin.append_ #[st,xt] o.type #[.slice base sl cap,a.eval y]).run P w= .ok (.slice (some ⟨w.heap.size,0,none⟩) (sl+m) ((Question.appendCap (sl+m) cap el).cut (w.tape w.drawn (.appendCap (sl+m) cap el))))
   (w.drew.alloc (.cells (old++new'++Builtin.zeroCells zv.cells ((Question.appendCap (sl+m) cap el).cut (w.tape w.drawn (.appendCap (sl+m) cap el)) - (sl+m))) el)))
  (hK:appK z i.size i.bytes (e x') yv K h n): ∃v f,K v f∧Does P o a w φ h n v f∧(∀k b,f= .set k b→h k≠none∧b≠ .gone)∧(∀b,f= .push b→b≠ .gone∧b.rw=true):=by
 have h1:=he _ _ hx
 unfold appK at hK
 split at hK<;>try cases hK
 rename_i base sl cap m ex hl
 rw [ex] at h1
 split at hK<;>try cases hK
 rename_i old new hold hnew
 rw [ex] at hold
 have hbase: ∃base',a.eval x= .slice base' sl cap∧∀l c,VR φ (.slice base l c) (.slice base' l c):=by
  cases base with
  | none=>exact ⟨none,h1.sliceNil,fun l c=>VR.of_sclf rfl⟩
  | some b=>obtain ⟨b',e1,hA⟩:=h1.slice;exact ⟨some b',e1,fun l c=>⟨b',rfl,hA⟩⟩
 obtain ⟨base',hax,hVb⟩:=hbase
 have pre: ∀v' w',(Builtin.append_ #[st,xt] o.type #[.slice base' sl cap,a.eval y]).run P w= .ok v' w'→Runs P o a w v' w':=by
  intro v' w' hr
  rw [←hax] at hr
  refine .inl ?_
  simp [execOp,ho,resolve,invoke,builtin,hr]
 split at hK
 ·-- zaj
  rename_i hroom
  obtain ⟨new',hEn,hrn⟩:=hrS m new hl hnew
  have hr0: ∀w',(match base' with | some ad=>storeCells (ad.add (sl*i.size)) new'.toList | none=>pure ():Sem Unit).run P w= .ok () w'→
    Runs P o a w (.slice base' (sl+m) cap) w':=fun w' hst=>pre _ _ (hrn _ _ _ _ hroom hst)
  split at hK
  ·rename_i k off
   obtain ⟨b',e1,hsp,b,bo,hφ,rfl⟩:=VR.slice h1
   rw [hax] at e1
   cases e1
   split at hK
   ·rename_i hm
    subst hm
    have hn0:new'.toList= []:=by
     have:new= []:=by
      unfold first at hnew
      split at hnew
      ·split at hnew<;>try cases hnew
       split at hnew<;>cases hnew
       simp
      ·cases hnew;rfl
      ·cases hnew;simp
      ·cases hnew
     subst this
     have:=hEn.1
     simpa using this.symm
    exact ⟨_,_,hK,⟨φ,_,w,hr0 w (by simp [hn0,storeCells]),hVb _ _,H,Fr.same _ _ _⟩,(fun _ _ q=>by cases q),(fun _ q=>by cases q)⟩
   ·split at hK<;>try cases hK
    rename_i c hk
    split at hK<;>try cases hK
    rename_i hb
    obtain ⟨w',hr,h3,h4⟩:=zfO (P:=P) (off:=off+sl*i.size) H hk hφ hEn om
    refine ⟨_,_,hK,⟨φ,_,w',hr0 w' ?_,hVb _ _,h3,h4⟩,(fun _ _ q=>by cases q;exact ⟨by rw [hk];simp,by simp⟩),(fun _ q=>by cases q)⟩
    simp only [Addr.add_lit]
    rw [show bo+off+sl*i.size=bo+(off+sl*i.size) by omega]
    exact hr
  ·split at hK<;>try cases hK
   rename_i hm
   subst hm
   have:=h1.sliceNil
   rw [hax] at this
   cases this
   exact ⟨_,_,hK,⟨φ,_,w,hr0 w rfl,hVb _ _,H,Fr.same _ _ _⟩,(fun _ _ q=>by cases q),(fun _ q=>by cases q)⟩
  ·cases hK
 ·-- a new row
  rename_i hroom
  obtain ⟨hbig,hK⟩:=hK
  obtain ⟨i',zv,hi',hzv,hcz,hp,hsz⟩:=zbr hz
  rw [hi] at hi';cases hi'
  have hzs:zv.cells.size=i.size:=by
   have:=congrArg List.length hcz
   simp at this;omega
  have hcap:cap < sl+m:=om
  have hns:=ziw hcap
  have hns2: ¬(Builtin.nextslicecap (sl+m) cap*i.bytes > 281474976710656):=by
   have:=Nat.mul_le_mul_right i.bytes hns
   omega
  obtain ⟨new',hEn,hrn⟩:=hgS m new hl hnew
  rw [hax] at h1
  obtain ⟨old',hro,hEo⟩:=zeX (P:=P) H.drew hold h1
  have hrun:=hrn _ _ _ _ _ hzv hro hroom hbig hns2
  generalize hnc:(Question.appendCap (sl+m) cap el).cut (w.tape w.drawn (.appendCap (sl+m) cap el))=nc at hrun
  have hnc':sl+m≤nc:=by rw [←hnc];simp [Question.cut]
  have hrest:(Builtin.zeroCells zv.cells (nc - (sl+m))).toList=(List.replicate (nc - (sl+m)) (zaE z)).flatten:=by
   unfold Builtin.zeroCells
   rw [zero_row,hcz]
  have hE:Each (SR φ) (old++new++(List.replicate (nc - (sl+m)) (zaE z)).flatten) (old'++new'++Builtin.zeroCells zv.cells (nc - (sl+m))).toList:=by
   simp only [Array.toList_append,hrest]
   refine (hEo.append hEn).append (Each.refl_of fun v hv=>SR.of_sclf (hp v ?_))
   simp only [List.mem_flatten,List.mem_replicate] at hv
   obtain ⟨l,⟨_,rfl⟩,hv⟩:=hv
   exact hv
  obtain ⟨h5,h6⟩:=HR.push H.drew (n:=n) hn (.cells (old'++new'++Builtin.zeroCells zv.cells (nc - (sl+m))) el) (.cells (old++new++(List.replicate (nc - (sl+m)) (zaE z)).flatten) true)
   (BR.new (hE.mono fun _ _=>SR.mono (Le.upd (H.nil _ hn) _)) true)
  exact ⟨_,_,hK nc hnc',⟨_,_,_,pre _ _ hrun,⟨_,rfl,rfl,w.heap.size,0,by simp [zdr],by simp⟩,h5,h6.of_drew⟩,(fun _ _ q=>by cases q),(fun _ q=>by cases q;exact ⟨by simp,rfl⟩)⟩
theorem app_does {o:Oper} {x y:Operand} {x' y':Opd} {st xt el:TypeId} {i:TypeInfo} {z:RL} {K:Value→Eff→Prop} {h:Nat→Option Blk} {n:Nat} {e:Opd→Value} (he: ∀x y,opd x=some y→VR φ (e y) (a.eval x)) (H:HR φ h w) (hn:h n=none)
  (ho:o.op= .call { callee:= .builtin .append,args:= #[x,y],argTypes:= #[st,xt] }) (hx:opd x=some x') (hy:opd y=some y') (hu:P.underlying st=some (.slice el))
  (hxt:(∃e2,P.underlying xt=some (.slice e2))∨P.underlying xt=some .string) (hi:P.info? el=some i) (hb0:i.bytes≠0) (hz:zbM P el=some z)
  (hK:appK z i.size i.bytes (e x') (e y') K h n): ∃v f,K v f∧Does P o a w φ h n v f∧(∀k b,f= .set k b→h k≠none∧b≠ .gone)∧(∀b,f= .push b→b≠ .gone∧b.rw=true):=by
 have h2:=he _ _ hy
 refine app_core he H hn ho hx hi hz (fun m new hl hnew=>?_) (fun m new hl hnew=>?_) hK
 ·have hlo:=zik (P:=P) (w:=w) hl h2
  obtain ⟨new',hrn,hEn⟩:=zeX (P:=P) H hnew h2
  exact ⟨new',hEn,fun base sl cap w' hroom hst=>zim hu hxt hi hlo hrn hroom hst⟩
 ·have hlo:=zik (P:=P) (w:=w) hl h2
  obtain ⟨new',hrn,hEn⟩:=zeX (P:=P) H.drew hnew h2
  exact ⟨new',hEn,fun zv base sl cap old hzv hro hroom _ hns=>zin (ty:=o.type) hu hxt hi hzv hb0 hlo hrn hro hroom hns⟩
theorem zio {st xt ty el:TypeId} {k:IntKind} {i:TypeInfo} {zv:Value} (hu:P.underlying st=some (.slice el)) (hxt:P.underlying xt=some (.int k)) (hi:P.info? el=some i) (hzv:i.zero=some zv) (hzc:zv.cells= #[.int .u8 0]) (hs:i.size=1) (hb:i.bytes=1) {m:Nat} (hmp:0 < m) (hm:m≤1000) {base:Option Addr} {sl cap:Nat} :
  (∀w',sl+m≤cap→(match base with | some ad=>storeCells (ad.add (sl*i.size)) (Array.replicate m (.int .u8 0)).toList | none=>pure ():Sem Unit).run P w= .ok () w'→
   (Builtin.append_ #[st,xt] ty #[.slice base sl cap,.int .i64 m]).run P w= .ok (.slice base (sl+m) cap) w')∧
  (∀(old:Array Value),(Builtin.firstCells i.size sl (.slice base sl cap)).run P w.drew= .ok old w.drew→¬sl+m≤cap→2*(sl+m)*i.bytes≤281474976710656→¬(Builtin.nextslicecap (sl+m) cap*i.bytes > 281474976710656)→
   (Builtin.append_ #[st,xt] ty #[.slice base sl cap,.int .i64 m]).run P w= .ok (.slice (some ⟨w.heap.size,0,none⟩) (sl+m) ((Question.appendCap (sl+m) cap el).cut (w.tape w.drawn (.appendCap (sl+m) cap el))))
   (w.drew.alloc (.cells (old++Array.replicate m (.int .u8 0)++Builtin.zeroCells zv.cells ((Question.appendCap (sl+m) cap el).cut (w.tape w.drawn (.appendCap (sl+m) cap el)) - (sl+m))) el))):=by
 have hd0:({ w with drawn:=w.drawn+1 } :World)=w.drew:=rfl
 have hw:i64.wrap (m:Int)=m:=by
  have h1:(m:Int) % 2^64=m:=om
  have h2:i64.wrap (m:Int)=(if (true&&decide ((2:Int)^63≤(m:Int) % 2^64))=true then (m:Int) % 2^64 - 2^64 else (m:Int) % 2^64):=rfl
  rw [h2,h1,if_neg (by simp;omega)]
 have hz0:Builtin.zeroCells #[.int .u8 0] m=Array.replicate m (.int .u8 0):=by
  apply Array.toList_inj.1
  refine List.ext_getElem? fun k=>?_
  simp only [Builtin.zeroCells,Array.toList_map,Array.toList_range,List.getElem?_map,Array.toList_replicate,List.getElem?_replicate]
  simp [List.getElem?_range,Nat.mod_one]
  by_cases hk:k < m<;>simp [hk]
 have ha: ∀w',(asInt (.int .i64 (m:Int))).run P w'= .ok (m:Int) w':=fun _=>rfl
 have hnn: ¬((m:Int) < 0):=om
 have hbig: ¬(281474976710656 < (m:Int)):=om
 have hmt:((m:Int)).toNat=m:=rfl
 have hm0: ¬(m=0):=om
 have hm1: ¬((m:Int)≤0):=om
 refine ⟨fun w' hroom hst=>?_,fun old hro hroom hbd hns=>?_⟩
 ·unfold Builtin.append_
  cases base with
  | none=>
   have:w=w':=by simpa using hst
   subst this
   simp [run_underlying hu,zbf hi,run_underlying hxt,ha,hw,zbo hi,hb,hs,hroom,hnn,hbig,hm0,zas hi hzv,hzc,hz0]
  | some ad=>
   simp only [hs] at hst
   simp [run_underlying hu,zbf hi,run_underlying hxt,ha,hw,zbo hi,hb,hs,hroom,hnn,hbig,hm0,zas hi hzv,hzc,hz0]
   simp only [Nat.mul_one,Array.toList_replicate] at hst
   rw [hst];rfl
 ·unfold Builtin.append_
  have hcut: ¬(9223372036854775807 < (sl:Int)+(m:Int)):=by rw [hb] at hbd;omega
  rw [hb] at hns
  rw [hs] at hro
  have hns': ¬(281474976710656 < Builtin.nextslicecap (sl+m) cap):=om
  simp [run_underlying hu,zbf hi,run_underlying hxt,ha,hw,zbo hi,hb,hs,hroom,hnn,hbig,hm0,zas hi hzv,hzc,hz0,hns',Question.forced,hro,newRow,hcut]
theorem zstr_size (m:Nat):(zstr m).size=m:=by simp [zstr,ByteArray.size]
theorem zstr_first (m:Nat):((zstr m).extract 0 m).data.toList.map (fun b:UInt8=>Value.int .u8 b.toNat)=List.replicate m (.int .u8 0):=by
 have h:((zstr m).extract 0 m).data.toList=List.replicate m 0:=by simp [zstr]
 rw [h];simp
theorem app0_does {o:Oper} {x:Operand} {x':Opd} {st xt el:TypeId} {k:IntKind} {i:TypeInfo} {K:Value→Eff→Prop} {h:Nat→Option Blk} {n m:Nat} {e:Opd→Value} (he: ∀x y,opd x=some y→VR φ (e y) (a.eval x)) (H:HR φ h w) (hn:h n=none)
  (ho:o.op= .call { callee:= .builtin .append,args:= #[x,.const (.int .i64 m)],argTypes:= #[st,xt] }) (hx:opd x=some x') (hu:P.underlying st=some (.slice el)) (hxt:P.underlying xt=some (.int k)) (hi:P.info? el=some i) (hb:i.bytes=1)
  (hz:zbM P el=some [(1,.int .u8 0)]) (hmp:0 < m) (hm:m≤1000)
  (hK:appK [(1,.int .u8 0)] i.size i.bytes (e x') (.string (zstr m)) K h n): ∃v f,K v f∧Does P o a w φ h n v f∧(∀k b,f= .set k b→h k≠none∧b≠ .gone)∧(∀b,f= .push b→b≠ .gone∧b.rw=true):=by
 obtain ⟨i',zv,hi',hzv,hcz,hp,hsz⟩:=zbr hz
 rw [hi] at hi';cases hi'
 have hs:i.size=1:=hsz
 have hzc:zv.cells= #[.int .u8 0]:=Array.toList_inj.1 hcz
 have hnew: ∀m' new,zi6 (.string (zstr m))=some m'→first h i.size m' (.string (zstr m))=some new→m'=m∧new=List.replicate m (.int .u8 0):=by
  intro m' new h1 h2
  simp only [zi6,zstr_size,Option.some.injEq] at h1
  subst h1
  simp only [first,Option.some.injEq] at h2
  rw [zstr_first] at h2
  exact ⟨rfl,h2.symm⟩
 have hE:Each (SR φ) (List.replicate m (.int .u8 0)) (Array.replicate m (.int .u8 0)).toList:=by
  rw [Array.toList_replicate];exact Each.replicate (SR.of_sclf rfl) m
 refine app_core he H hn ho hx hi hz (fun m' new h1 h2=>?_) (fun m' new h1 h2=>?_) hK
 ·obtain ⟨rfl,rfl⟩:=hnew m' new h1 h2
  exact ⟨_,hE,fun base sl cap w'=>(zio (ty:=o.type) hu hxt hi hzv hzc hs hb hmp hm).1 w'⟩
 ·obtain ⟨rfl,rfl⟩:=hnew m' new h1 h2
  exact ⟨_,hE,fun zv' base sl cap old hzv' hro hroom hbd hns=>by
   rw [hzv] at hzv';cases hzv'
   exact (zio (ty:=o.type) hu hxt hi hzv hzc hs hb hmp hm).2 old hro hroom hbd hns⟩
theorem app_ok {o:Oper} {x y:Operand} {x' y':Opd} {st xt el:TypeId} {i:TypeInfo} {z:RL} {K:Value→List Blk→Prop} {h:List Blk} {e:Opd→Value} (he: ∀x y,opd x=some y→VR φ (e y) (a.eval x)) (H:HR φ (hf h) w)
  (ho:o.op= .call { callee:= .builtin .append,args:= #[x,y],argTypes:= #[st,xt] }) (hx:opd x=some x') (hy:opd y=some y') (hu:P.underlying st=some (.slice el))
  (hxt:(∃e2,P.underlying xt=some (.slice e2))∨P.underlying xt=some .string) (hi:P.info? el=some i) (hb0:i.bytes≠0) (hz:zbM P el=some z)
  (hK:appK z i.size i.bytes (e x') (e y') (fun v f=>K v (f.on h)) (hf h) h.length):OpOK P o φ h a w K:=by
 obtain ⟨v,f,k1,k2,k3,k4⟩:=app_does he H (zdx h) ho hx hy hu hxt hi hb0 hz hK
 obtain ⟨φ',v',w',h1,h2,h3,h4⟩:=Does.step (s:=⟨fun _=>junk,h⟩) k2 k3 (fun b q=>(k4 b q).1)
 exact ⟨φ',v,v',_,w',h1,k1,h2,h3,h4⟩
theorem appK_of {z:RL} {size bytes nid:Nat} {s x:Value} {K:Value→Eff→Prop} {h:Nat→Option Blk} (h0: ∀c,∃v f,appE z size bytes s x h nid c=some (v,f)∧K v f):appK z size bytes s x K h nid:=by
 cases s with
 | slice base sl cap=>
  cases hl:zi6 x with
  | none=>obtain ⟨_,_,h1,_⟩:=h0 0;simp [appE,hl] at h1
  | some m=>
   cases hold:first h size sl (.slice base sl cap) with
   | none=>obtain ⟨_,_,h1,_⟩:=h0 0;simp [appE,hl,hold] at h1
   | some old=>
    cases hnew:first h size m x with
    | none=>obtain ⟨_,_,h1,_⟩:=h0 0;simp [appE,hl,hold,hnew] at h1
    | some new=>
     simp only [appE,appK,hl,hold,hnew] at h0 ⊢
     by_cases hr:sl+m≤cap
     ·simp only [if_pos hr] at h0 ⊢
      obtain ⟨v,f,h1,h2⟩:=h0 0
      cases base with
      | none=>
       simp only at h1 ⊢
       by_cases hm:m=0
       ·rw [if_pos hm] at h1 ⊢;cases h1;exact h2
       ·rw [if_neg hm] at h1;cases h1
      | some ad=>
       obtain ⟨k,o,sp⟩:=ad
       cases sp with
       | some _=>simp at h1
       | none=>
        simp only at h1 ⊢
        by_cases hm:m=0
        ·rw [if_pos hm] at h1 ⊢;cases h1;exact h2
        ·rw [if_neg hm] at h1 ⊢
         split at h1
         ·rename_i cs hk
          split at h1
          ·rename_i hb;rw [if_pos hb];cases h1;exact h2
          ·cases h1
         ·cases h1
     ·simp only [if_neg hr] at h0 ⊢
      by_cases hb:2*(sl+m)*bytes≤2^48
      ·refine ⟨hb,fun c hc=>?_⟩
       obtain ⟨v,f,h1,h2⟩:=h0 (c - (sl+m))
       rw [if_pos hb] at h1
       cases h1
       rwa [show sl+m+(c - (sl+m))=c by omega] at h2
      ·obtain ⟨_,_,h1,_⟩:=h0 0;rw [if_neg hb] at h1;cases h1
 | _=>obtain ⟨_,_,h1,_⟩:=h0 0;simp [appE] at h1
end
end Go.Rh

namespace Go.Rh
section
variable {P:Program} {ops:Array Oper} {a:Act} {w:World} {n:Nat} {φ0:Phi} {h0:List Blk} {w0:World} {φ:Phi} {s:St}
theorem modify_push (h:Array Obj) (o:Obj) (f:Obj→Obj):(h.push o).modify h.size f=h.push (f o):=by
 apply Array.ext
 ·simp
 ·intro i h1 h2
  simp only [Array.getElem_modify,Array.getElem_push]
  by_cases hi:i < h.size
  ·simp [hi]
   intro e;omega
  ·have:i=h.size:=by simp at h1;omega
   subst this;simp
theorem csb_ok {o:Oper} {sT dT el:TypeId} {x:Operand} {x':Opd} {K:Value→List Blk→Prop} {h:List Blk} {e:Opd→Value} (he: ∀x y,opd x=some y→VR φ (e y) (a.eval x)) (H:HR φ (hf h) w)
  (ho:o.op= .convert sT dT x) (hx:opd x=some x') (hs:P.underlying sT=some .string) (hd:P.underlying dT=some (.slice el)) (hel:P.underlying el=some (.int .u8))
  (hK:csbK (e x') (fun v f=>K v (f.on h)) h.length):OpOK P o φ h a w K:=by
 have h1:=he _ _ hx
 unfold csbK at hK
 split at hK<;>try cases hK
 rename_i st ex
 rw [ex] at h1
 have hax:=h1.string
 generalize hnc:(Question.appendCap st.size 0 el).cut (w.tape w.drawn (.appendCap st.size 0 el))=nc
 have hnc':st.size≤nc:=by rw [←hnc];simp [Question.cut]
 let cs:Array Value:=(st.data.map fun b=> .int .u8 b.toNat)++Array.replicate (nc - st.size) (.int .u8 0)
 have hcs:cs.toList=(st.data.toList.map fun (b:UInt8)=>Value.int .u8 b.toNat)++List.replicate (nc - st.size) (Value.int .u8 0):=by simp [cs]
 have hrun:(execOp a.eval o).run P w= .ok (.value (.slice (some ⟨w.heap.size,0,none⟩) st.size nc)) (w.drew.alloc (.cells cs el (cs.size,cs.size+1))):=by
  have hst:(Conv.stringToBytes el st).run P w= .ok (.slice (some ⟨w.heap.size,0,none⟩) st.size nc) (w.drew.alloc (.cells cs el (cs.size,cs.size+1))):=by
   unfold Conv.stringToBytes
   have hcs':(st.data.map fun b=>Value.int .u8 b.toNat)++Array.replicate (nc - st.size) (.int .u8 0)=cs:=rfl
   have hshape:(w.drew.alloc (.cells cs el)).shape? w.heap.size=some (el,cs.size):=by
    have:=heap_alloc_new w.drew (.cells cs el)
    have hsz:w.drew.heap.size=w.heap.size:=rfl
    rw [hsz] at this
    unfold World.shape?
    rw [this]
   have hfr:(w.drew.alloc (.cells cs el)).freeze ⟨w.heap.size,cs.size,none⟩ 1=w.drew.alloc (.cells cs el (cs.size,cs.size+1)):=by
    unfold World.freeze
    rw [if_neg dC]
    have hh:(w.drew.alloc (.cells cs el)).heap=w.heap.push (.cells cs el):=rfl
    simp only [hh]
    rw [modify_push]
    rfl
   simp only [Sem.run_bind,run_choose,Question.forced,Bool.false_eq_true,if_false,hnc,World.drew_eq,Result.andThen_ok,newRow,run_newObj,World.alloc_eq,Sem.run_pure]
   simp only [hcs',markStringish,Sem.run_bind,run_shape,World.size_drew,hshape,Result.andThen_ok,run_freeze,hfr]
  simp only [execOp,ho,hax,convert,Sem.run_bind,run_underlying hs,run_underlying hd,run_underlying hel,Result.andThen_ok,hst,Sem.run_pure]
 have hE:Each (SR φ) ((st.data.toList.map fun (b:UInt8)=>Value.int .u8 b.toNat)++List.replicate (nc - st.size) (Value.int .u8 0)) cs.toList:=by
  rw [hcs]
  refine Each.refl_of fun v hv=>SR.of_sclf ?_
  simp only [List.mem_append,List.mem_map,List.mem_replicate] at hv
  rcases hv with ⟨b,_,rfl⟩ | ⟨_,rfl⟩<;>rfl
 have hlen:cs.size=((st.data.toList.map fun (b:UInt8)=>Value.int .u8 b.toNat)++List.replicate (nc - st.size) (Value.int .u8 0)).length:=by
  rw [←hcs];simp
 obtain ⟨h5,h6⟩:=push_list H.drew (.cells ((st.data.toList.map fun (b:UInt8)=>Value.int .u8 b.toNat)++List.replicate (nc - st.size) (Value.int .u8 0)) true) (by simp) (.cells cs el (cs.size,cs.size+1)) (by
  refine ⟨cs,el,(cs.size,cs.size+1),heap_alloc_new w.drew _,by rw [hlen];simp, ?_,fun _=>⟨rfl,hlen,fun i hi=>by simp;omega⟩⟩
  rw [List.drop_zero,List.take_of_length_le (by rw [←hlen];simp)]
  exact hE.mono fun _ _=>SR.mono (Le.upd (H.nil _ (zdx h)) _))
 exact ⟨_,_,_,_,_,.inl hrun,hK nc hnc',⟨_,rfl,rfl,w.heap.size,0,by simp [zdr],by simp⟩,h5,h6.of_drew⟩
theorem comm_at {i:Nat} {o:Oper} {cases':Array CommCase} {bl:Bool} {sh:CommShape} (ho:ops[i]? =some o) (hw:Region.wanted o (yielded ops a.tmps)=true) (hr:(execOp a.eval o).run P w= .ok (.comm cases' bl sh) w)
  (rest:List Nat) (b:Frame) (k:List Item) (cs:List Frame):
  ∃es,stepG P true (Conc.G (b.at a (.inRegion ops (i::rest)::k)) cs) w= .comm (Conc.G (b.at a (.inRegion ops (i::rest)::k)) cs) cases' bl sh w es:=by
 have hg:=stepG_op (P:=P) (b:=b) (k:=k) (cs:=cs) (w:=w) (rest:=rest) ho hw
 unfold Conc.G
 rw [hg]
 simp [stepG.apply,hr,GStep.after]
def ChOK (P:Program) (ops:Array Oper) (i:Nat) (o:Oper) (φ:Phi) (h:List Blk) (a:Act) (w:World) (K:Value→List Blk→Prop):Prop:=
 ∃v v' h' w',OpTo P ops i (fun a1 w1=>a1=a.put o.dst v'∧w1=w') a w∧K v h'∧VR φ v v'∧HR φ (hf h') w'∧FrC φ h w φ h' w'
theorem zeU {h:List Blk} (H:HR φ (hf h) w) {r cap:Nat} {bf bf':List Value} {rb:Nat} (hr:hf h r=some (.chan cap bf)) (hφ:φ r=some (rb,0)) {buf':Array Value} (hE:Each (GR φ) bf' buf'.toList) (s q:Nat):
  HR φ (hf (h.set r (.chan cap bf'))) (w.setChan rb cap buf' false s q false)∧FrC φ h w φ (h.set r (.chan cap bf')) (w.setChan rb cap buf' false s q false):=by
 have hlt:=H.lt hφ
 obtain ⟨h3,h4⟩:=HR.set (w':=w.setChan rb cap buf' false s q false) (blk':= .chan cap bf') H hr rfl hφ ⟨rfl,buf',s,q,by simp [World.setChan,hlt],hE⟩ rfl (by simp [World.setChan]) (fun j hj=>by simp [World.setChan,Array.getElem?_setIfInBounds_ne (Ne.symm hj)]) rfl rfl rfl
 exact set_list (by rw [hr];simp) (by simp) h3 h4
theorem snd_ok {i:Nat} {o:Oper} {c x:Operand} {c' x':Opd} {K:Value→List Blk→Prop} {h:List Blk} {e:Opd→Value} (hoi:ops[i]? =some o) (hw:Region.wanted o (yielded ops a.tmps)=true) (he: ∀x y,opd x=some y→VR φ (e y) (a.eval x)) (H:HR φ (hf h) w)
  (ho:o.op= .send c x) (hc:opd c=some c') (hx:opd x=some x') (hK:sndK (e c') (e x') (fun v f=>K v (f.on h)) (hf h)):ChOK P ops i o φ h a w K:=by
 have h1:=he _ _ hc
 have h2:=he _ _ hx
 unfold sndK at hK
 split at hK<;>try cases hK
 rename_i r ec
 rw [ec] at h1
 split at hK
 case h_2=>cases hK
 rename_i cap bf hr
 obtain ⟨hroom,ht,hK⟩:=hK
 obtain ⟨rb,hrb,hφ⟩:=h1.chan
 obtain ⟨b',o',hφ',_,bf',s,q,hw',hE⟩:=H.has r _ hr
 rw [hφ] at hφ';cases hφ'
 have hE':Each (GR φ) (bf++ [e x']) (bf'.push (a.eval x)).toList:=by
  rw [Array.toList_push];exact hE.append (Each.cons (GR.of_VR ht h2) (Each.nil _))
 obtain ⟨h3,h4⟩:=zeU H hr hφ hE' (s+1) q
 refine ⟨undef,undef,_,w.setChan rb cap (bf'.push (a.eval x)) false (s+1) q false, ?_,hK,VR.undef,h3,h4⟩
 intro rest b k cs
 obtain ⟨es,hcm⟩:=comm_at (P:=P) (cases':= #[{ chan:= .chan (some rb),send:=some (a.eval x),zero:= .tuple #[] }]) (bl:=true) (sh:= .send) hoi hw (by simp [execOp,ho,hrb]) rest b k cs
 have hst:=Conc.step_lone_send_room (c:=rb) (v:=a.eval x) (z':= .tuple #[]) hcm hw' (by have:=hE.1;simp at this;omega)
 refine ⟨_,_,⟨rfl,rfl⟩,.one ?_⟩
 have hfin:(b.at a (.inRegion ops (i::rest)::k)).finish undef=b.at (a.put o.dst undef) (.inRegion ops rest::k):=by rw [Frame.finish_at,hoi];rfl
 rw [hfin] at hst
 exact hst
theorem each_head {R} {v:Value} {l:List Value} {l':Array Value} (h:Each R (v::l) l'.toList): ∃v',l'.getD 0 undef=v'∧R v v'∧0 < l'.size∧Each R l (l'.extract 1 l'.size).toList:=by
 obtain ⟨v',h1,h2⟩:=h.get (i:=0) rfl
 have h1':l'[0]? =some v':=by simpa using h1
 obtain ⟨hlt,_⟩:=Array.getElem?_eq_some_iff.1 h1'
 refine ⟨v',by simp [Array.getD_eq_getD_getElem?,h1'],h2,hlt, ?_⟩
 have:=h.drop 1
 simp only [List.drop_succ_cons,List.drop_zero] at this
 rw [Array.toList_extract,List.extract_eq_take_drop,List.take_of_length_le (by simp)]
 exact this
theorem rcv_ok {i:Nat} {o:Oper} {t el:TypeId} {dir:ChanDir} {z:RL} {c:Operand} {c':Opd} {K:Value→List Blk→Prop} {h:List Blk} {e:Opd→Value} (hoi:ops[i]? =some o) (hw:Region.wanted o (yielded ops a.tmps)=true) (he: ∀x y,opd x=some y→VR φ (e y) (a.eval x)) (H:HR φ (hf h) w)
  (ho:o.op= .recv t c false) (hc:opd c=some c') (hu:P.underlying t=some (.chan dir el)) (hz:zbM P el=some z) (hK:rcvK (e c') (fun v f=>K v (f.on h)) (hf h)):ChOK P ops i o φ h a w K:=by
 have h1:=he _ _ hc
 unfold rcvK at hK
 split at hK<;>try cases hK
 rename_i r ec
 rw [ec] at h1
 split at hK<;>try cases hK
 rename_i cap v bf hr
 obtain ⟨rb,hrb,hφ⟩:=h1.chan
 obtain ⟨b',o',hφ',_,bf',s,q,hw',hE⟩:=H.has r _ hr
 rw [hφ] at hφ';cases hφ'
 obtain ⟨v',hv',hG,hpos,hE'⟩:=each_head hE
 obtain ⟨h3,h4⟩:=zeU H hr hφ hE' s (q+1)
 obtain ⟨it,zv,hi,hzv,_⟩:=zbr hz
 refine ⟨v,v',_,w.setChan rb cap (bf'.extract 1 bf'.size) false s (q+1) false, ?_,hK,VR.of_GR hG,h3,h4⟩
 intro rest b k cs
 obtain ⟨es,hcm⟩:=comm_at (P:=P) (cases':= #[{ chan:= .chan (some rb),send:=none,zero:=zv }]) (bl:=true) (sh:= .recv false) hoi hw (by simp [execOp,ho,hrb,run_underlying hu,zas hi hzv]) rest b k cs
 have hst:=Conc.step_lone_recv_buf (c:=rb) (z:=zv) false hcm hw' hpos
 refine ⟨_,_,⟨rfl,rfl⟩,.one ?_⟩
 have hfin: ∀v,(b.at a (.inRegion ops (i::rest)::k)).finish v=b.at (a.put o.dst v) (.inRegion ops rest::k):=by intro v;rw [Frame.finish_at,hoi];rfl
 rw [hfin] at hst
 simp only [Conc.got,Bool.false_eq_true,if_false,hv'] at hst
 exact hst
theorem sel_ok {i:Nat} {o:Oper} {sc:SelectCase} {z:RL} {m:Option Nat} {c':Opd} {K:Value→List Blk→Prop} {h:List Blk} {e:Opd→Value} (hoi:ops[i]? =some o) (hw:Region.wanted o (yielded ops a.tmps)=true) (he: ∀x y,opd x=some y→VR φ (e y) (a.eval x)) (H:HR φ (hf h) w)
  (ho:o.op= .select #[sc] false) (hsn:sc.send=none) (hc:opd sc.chan=some c') (hz:zbM P sc.elem=some z) (hm:ldn P sc.elem=some m) (hg:zhT P sc.elem=m.isSome) (hK:selK z m.isSome (e c') (fun v f=>K v (f.on h)) (hf h)):ChOK P ops i o φ h a w K:=by
 have h1:=he _ _ hc
 unfold selK at hK
 split at hK<;>try cases hK
 rename_i r ec
 rw [ec] at h1
 obtain ⟨rb,hrb,hφ⟩:=h1.chan
 obtain ⟨it,zv0,hi,hzv0,_⟩:=zbr hz
 have hfin: ∀(rest:List Nat) (b:Frame) (k:List Item) v,(b.at a (.inRegion ops (i::rest)::k)).finish v=b.at (a.put o.dst v) (.inRegion ops rest::k):=by intro rest b k v;rw [Frame.finish_at,hoi];rfl
 have hex:(execOp a.eval o).run P w= .ok (.comm #[{ chan:= .chan (some rb),send:=none,zero:=zv0 }] false .select) w:=by
  simp [execOp,ho,hrb,hsn,zas hi hzv0]
 split at hK
 ·rename_i cap v bf hr
  obtain ⟨b',o',hφ',_,bf',s,q,hw',hE⟩:=H.has r _ hr
  rw [hφ] at hφ';cases hφ'
  obtain ⟨v',hv',hG,hpos,hE'⟩:=each_head hE
  obtain ⟨h3,h4⟩:=zeU H hr hφ hE' s (q+1)
  refine ⟨_,.tuple #[goInt 0,.bool true,v'],_,w.setChan rb cap (bf'.extract 1 bf'.size) false s (q+1) false, ?_,hK,⟨_,rfl,Each.cons ⟨rfl,rfl⟩ (Each.cons ⟨rfl,rfl⟩ (Each.cons hG (Each.nil _)))⟩,h3,h4⟩
  intro rest b k cs
  obtain ⟨es,hcm⟩:=comm_at (P:=P) hoi hw hex rest b k cs
  have hst:=Conc.step_lone_select_recv_buf (c:=rb) (z:=zv0) hcm hw' hpos
  rw [hfin,hv'] at hst
  exact ⟨_,_,⟨rfl,rfl⟩,.one hst⟩
 ·rename_i cap hr
  split at hK<;>try cases hK
  rename_i zv hzv
  obtain ⟨b',o',hφ',_,bf',s,q,hw',hE⟩:=H.has r _ hr
  rw [hφ] at hφ';cases hφ'
  have hb0:bf'= #[]:=by
   have:=hE.1
   apply Array.ext'
   simpa using this.symm
  subst hb0
  obtain ⟨zr,hzr,hzG⟩:=zjb (P:=P) (w:=w) (φ:=φ) hz hm hg hzv
  have hzz:zr=zv0:=by rw [zas hi hzv0] at hzr;cases hzr;rfl
  subst hzz
  refine ⟨_,.tuple #[goInt (-1),.bool false,zr],h,w, ?_,hK,⟨_,rfl,Each.cons ⟨rfl,rfl⟩ (Each.cons ⟨rfl,rfl⟩ (Each.cons hzG (Each.nil _)))⟩,H,FrC.refl _ _ _⟩
  intro rest b k cs
  obtain ⟨es,hcm⟩:=comm_at (P:=P) hoi hw hex rest b k cs
  have hst:=Conc.step_lone_select_default (c:=rb) (z:=zr) hcm hw'
  rw [hfin] at hst
  exact ⟨_,_,⟨rfl,rfl⟩,.one hst⟩
 ·cases hK
theorem born_at {ms:Array MapEntry} (h:ms.toList.map (·.born)=List.range ms.size) {i:Nat} {e:MapEntry} (he:ms[i]? =some e):e.born=i:=by
 have hi:i < ms.size:=by
  rcases Nat.lt_or_ge i ms.size with q | q
  ·exact q
  ·rw [Array.getElem?_eq_none q] at he;cases he
 have h1:(ms.toList.map (·.born))[i]? =some e.born:=by simp [he]
 rw [h] at h1
 simp [hi] at h1
 exact h1.symm
theorem born_lt {ms:Array MapEntry} (h:ms.toList.map (·.born)=List.range ms.size) {e:MapEntry} (he:e∈ms.toList): ∃i:Nat,ms[i]? =some e∧e.born=i∧i < ms.size:=by
 obtain ⟨i,hi⟩:=List.mem_iff_getElem?.1 he
 have hi':ms[i]? =some e:=by simpa using hi
 refine ⟨i,hi',born_at h hi', ?_⟩
 have:=z6 hi
 simpa using this
theorem rng_ok {o:Oper} {t kt el:TypeId} {x:Operand} {x':Opd} {K:Value→List Blk→Prop} {h:List Blk} {e:Opd→Value} (he: ∀x y,opd x=some y→VR φ (e y) (a.eval x)) (H:HR φ (hf h) w)
  (ho:o.op= .range t x) (hx:opd x=some x') (hu:P.underlying t=some (.map kt el)) (hK:rngK (e x') (fun v f=>K v (f.on h)) (hf h) h.length):OpOK P o φ h a w K:=by
 have h1:=he _ _ hx
 unfold rngK at hK
 split at hK<;>first | exact hK.elim | skip
 rename_i r ex
 rw [ex] at h1
 split at hK<;>first | exact hK.elim | skip
 rename_i es hr
 obtain ⟨bm,hb,hφ⟩:=h1.map
 obtain ⟨b',o',hφ',_,ms,cl,hw,hE1,hE2,hE3,hE4⟩:=H.has r _ hr
 rw [hφ] at hφ';cases hφ'
 have hrl:r < h.length:=by
  rcases Nat.lt_or_ge r h.length with q | q
  ·exact q
  ·rw [zcA (List.getElem?_eq_none q)] at hr;cases hr
 have hlen:es.length=ms.size:=by have:=hE1.1;simp at this;exact this
 obtain ⟨h3,h4⟩:=push_list H (.iter r es.length []) (by simp) (.mapIter (some bm) cl #[] cl) ⟨rfl,bm,by simp [zdr,show r≠h.length by omega,hφ],by rw [heap_alloc_new,hlen,hE4]⟩
 refine ⟨_,_,.pointer (some ⟨w.heap.size,0,none⟩),_,_,.inl ?_,hK, ?_,h3,h4⟩
 ·simp only [execOp,ho,hb,Sem.run_bind,run_range_map w t kt el bm ms cl hu hw,Result.andThen_ok,Sem.run_pure]
 ·exact ⟨_,rfl,rfl,w.heap.size,0,by simp [zdr],rfl⟩
theorem iter_at {h:List Blk} {v v':Value} {k m n:Nat} {seen:List Nat} (H:HR φ (hf h) w) (hv:VR φ v v') (ex:v= .pointer (some ⟨k,0,none⟩)) (hk:hf h k=some (.iter m n seen)) {es:List (Value×Value)} (hm:hf h m=some (.map es)) (hn:es.length=n):
  ∃r bm ms,v'= .pointer (some ⟨r,0,none⟩)∧φ k=some (r,0)∧φ m=some (bm,0)∧w.heap[r]? =some (.mapIter (some bm) n seen.toArray n)∧w.heap[bm]? =some (.map ms n)∧ms.size=n∧
   Each (GR φ) (es.map (·.1)) (ms.toList.map (·.key))∧Each (GR φ) (es.map (·.2)) (ms.toList.map (·.val))∧ms.toList.map (·.born)=List.range ms.size:=by
 subst ex
 obtain ⟨v'',rfl,_,r,ro,hφ,rfl⟩:=hv.pointer
 obtain ⟨b',o',hφ',h0,bm,h1,h2⟩:=H.has k _ hk
 rw [hφ] at hφ';cases hφ'
 obtain ⟨b2,o2,hφ2,h02,ms,cl,hw,hE1,hE2,hE3,hE4⟩:=H.has m _ hm
 rw [h1] at hφ2;cases hφ2
 have hlen:ms.size=n:=by have:=hE1.1;simp at this;omega
 subst h0
 exact ⟨r,bm,ms,rfl,hφ,h1,h2,by rw [hw,hE4,hlen],hlen,hE1,hE2,hE3⟩
theorem nxt_ok {o:Oper} {x:Operand} {x':Opd} {K:Value→List Blk→Prop} {h:List Blk} {e:Opd→Value} (he: ∀x y,opd x=some y→VR φ (e y) (a.eval x)) (H:HR φ (hf h) w)
  (ho:o.op= .next x false) (hx:opd x=some x') (hK:nxtK (e x') (fun v f=>K v (f.on h)) (hf h)):OpOK P o φ h a w K:=by
 have h1:=he _ _ hx
 unfold nxtK at hK
 split at hK<;>first | exact hK.elim | skip
 rename_i k ex
 split at hK<;>first | exact hK.elim | skip
 rename_i m n seen hk
 split at hK<;>first | exact hK.elim | skip
 rename_i es hm
 obtain ⟨hn,hK1,hK2⟩:=hK
 obtain ⟨r,bm,ms,hv',hφr,hφm,hir,hmw,hsz,hE1,hE2,hE3⟩:=iter_at H h1 ex hk hm hn
 have hold: ∀x∈ms.toList,x.born < n:=fun x hx=>by obtain ⟨i,_,h2,h3⟩:=born_lt hE3 hx;omega
 rcases run_next_at (P:=P) w o.type r bm n n seen.toArray ms n hir hmw hold (Nat.le_refl _) with ⟨h2,hrun⟩ | ⟨e0,he0,w1,hw1,hrun⟩
 ·refine ⟨φ,_,.tuple #[.bool false],h,w,.inl ?_,hK1 fun i hi=>?_,VR.of_vpf rfl,H,FrC.refl _ _ _⟩
  ·simp only [execOp,ho,hv',Sem.run_bind,hrun,Result.andThen_ok,Sem.run_pure]
  ·refine Decidable.byContradiction fun hni=>?_
   obtain ⟨me,hme⟩: ∃me,ms[i]? =some me:=⟨ms[i]'om,by simp [show i < ms.size by omega]⟩
   have hb:=born_at hE3 hme
   have hmem:me∈leftOf ms seen.toArray:=by
    unfold leftOf
    rw [Array.mem_filter]
    refine ⟨Array.mem_of_getElem? hme, ?_⟩
    rw [hb];simpa using hni
   have:=Array.size_pos_of_mem hmem
   omega
 ·have he1:e0∈ms∧e0.born∉seen:=by
   unfold leftOf at he0
   simp only [Array.toList_filter,List.mem_filter] at he0
   exact ⟨by simpa using he0.1,by simpa using he0.2⟩
  obtain ⟨i,hi,hb,hlt⟩:=born_lt hE3 (by simpa using he1.1)
  have hes:es[i]? =some (es[i]'om):=by simp [show i < es.length by omega]
  have hik:ms.toList[i]? =some e0:=by simpa using hi
  have g1:GR φ (es[i]'om).1 e0.key:=hE1.2 i _ _ (by simp [show i < es.length by omega]) (by simp [hi])
  have g2:GR φ (es[i]'om).2 e0.val:=hE2.2 i _ _ (by simp [show i < es.length by omega]) (by simp [hi])
  have H1:HR φ (hf h) w1:=by rcases hw1 with rfl | rfl;exact H;exact H.drew
  have hir1:w1.heap[r]? =some (.mapIter (some bm) n seen.toArray n):=by rcases hw1 with rfl | rfl<;>exact hir
  obtain ⟨h3,h4⟩:=HR.set (w':=Go.ChangeMaps.setBlock w1 r (.mapIter (some bm) n (seen.toArray.push e0.born) n)) (blk':= .iter m n (seen++ [i])) H1 hk rfl hφr
   ⟨rfl,bm,hφm,by
    have hrl:r < w1.heap.size:=by
     rcases Nat.lt_or_ge r w1.heap.size with q | q
     ·exact q
     ·rw [Array.getElem?_eq_none q] at hir1;cases hir1
    simp [Go.ChangeMaps.setBlock,hrl,hb]⟩ rfl (by simp [Go.ChangeMaps.setBlock]) (fun j hj=>by simp [Go.ChangeMaps.setBlock,Array.getElem?_setIfInBounds_ne (Ne.symm hj)]) rfl rfl rfl
  obtain ⟨h5,h6⟩:=set_list (by rw [hk];simp) (by simp) h3 h4
  refine ⟨φ,_,.tuple #[.bool true,e0.key,e0.val],_,_,.inl ?_,hK2 i _ (by rw [←hb];exact he1.2) hes,⟨_,rfl,Each.cons ⟨rfl,rfl⟩ (Each.cons g1 (Each.cons g2 (Each.nil _)))⟩,h5, ?_⟩
  ·simp only [execOp,ho,hv',Sem.run_bind,hrun,Result.andThen_ok,Sem.run_pure]
  ·rcases hw1 with rfl | rfl
   ·exact h6
   ·exact FrC.of_drew h6
theorem ent_ok {o:Oper} {x:Operand} {x':Opd} {K:Value→List Blk→Prop} {h:List Blk} {e:Opd→Value} (he: ∀x y,opd x=some y→VR φ (e y) (a.eval x)) (H:HR φ (hf h) w)
  (ho:o.op= .entry x) (hx:opd x=some x') (hK:entK (e x') (fun v f=>K v (f.on h)) (hf h)):OpOK P o φ h a w K:=by
 have h1:=he _ _ hx
 unfold entK at hK
 split at hK<;>first | exact hK.elim | skip
 rename_i k ex
 split at hK<;>first | exact hK.elim | skip
 rename_i m n seen hk
 split at hK<;>first | exact hK.elim | skip
 rename_i es i hm hlast
 split at hK<;>first | exact hK.elim | skip
 rename_i p hp
 obtain ⟨hn,hK⟩:=hK
 obtain ⟨r,bm,ms,hv',hφr,hφm,hir,hmw,hsz,hE1,hE2,hE3⟩:=iter_at H h1 ex hk hm hn
 have hil:=z6 hp
 obtain ⟨me,hme⟩: ∃me,ms[i]? =some me:=⟨ms[i]'om,by simp [show i < ms.size by omega]⟩
 have hb:=born_at hE3 hme
 have g1:GR φ p.1 me.key:=hE1.2 i _ _ (by simp [hp]) (by simp [hme])
 have g2:GR φ p.2 me.val:=hE2.2 i _ _ (by simp [hp]) (by simp [hme])
 have hse:seen.toArray=seen.dropLast.toArray.push me.born:=by
  rw [hb]
  have:seen=seen.dropLast++ [i]:=by
   have hne:seen≠ []:=by rintro rfl;cases hlast
   have h3:=List.dropLast_concat_getLast hne
   have h4:seen.getLast hne=i:=by rw [List.getLast?_eq_some_getLast hne] at hlast;exact Option.some.inj hlast
   rw [h4] at h3;exact h3.symm
  conv=>lhs;rw [this]
  simp
 rw [hse] at hir
 have hrun:=run_entry_at (P:=P) w r bm n seen.dropLast.toArray ms n me hir hmw (by simpa using Array.mem_of_getElem? hme) (by rw [hE3];exact List.nodup_range)
 refine ⟨φ,_,.tuple #[me.key,me.val],h,w,.inl ?_,hK,⟨_,rfl,Each.cons g1 (Each.cons g2 (Each.nil _))⟩,H,FrC.refl _ _ _⟩
 simp only [execOp,ho,hv',Sem.run_bind,hrun,Result.andThen_ok,Sem.run_pure]
end
end Go.Rh

namespace Go.Rh
section
variable {P:Program} {ops:Array Oper} {a:Act} {w:World} {n:Nat} {φ0:Phi} {h0:List Blk} {w0:World} {φ:Phi} {s:St} {C:zag}
theorem ziu (he: ∀x y,opd x=some y→VR φ (evf s.f y) (a.eval x)): ∀ {xs:List Operand} {ys:List Opd},opds xs=some ys→ys.length=xs.length∧∀(i:Nat) v v',(ys.map (evf s.f))[i]? =some v→(xs.map a.eval)[i]? =some v'→VR φ v v'
 | [],ys,h=>by simp [opds] at h;subst h;simp
 | x::xs,ys,h=>by
  simp only [opds] at h
  split at h<;>cases h
  rename_i y l hy hl
  obtain ⟨h1,h2⟩:=ziu he hl
  refine ⟨by simp [h1],fun i=>?_⟩
  cases i with
  | zero=>intro v v' e1 e2;simp at e1 e2;subst e1;subst e2;exact he _ _ hy
  | succ i=>intro v v' e1 e2;exact h2 i v v' (by simpa using e1) (by simpa using e2)
theorem enter_ok {g:FuncId} {i:Nat} {o:Oper} {vals:List Value} {args':Array Value} {K:Value→List Blk→Prop} {n:Fnm} (hoi:ops[i]? =some o) (hw:Region.wanted o (yielded ops a.tmps)=true) (H:HR φ (hf s.h) w)
  (hsz:vals.length=args'.size) (hVV: ∀(j:Nat) v v',vals[j]? =some v→args'[j]? =some v'→VR φ v v')
  (hrun:(execOp a.eval o).run P w= .ok (.enter g args') w) (hAC: ∀args h R,C n args h R→zjX P g args h R)
  (hK:zdA C n vals K s.h) {K':Act→World→Prop} (hK': ∀φ' v v' h' w',K v h'→VR φ' v v'→HR φ' (hf h') w'→FrC φ s.h w φ' h' w'→K' (a.put o.dst v') w'):OpTo P ops i K' a w:=by
 obtain ⟨sel,h1,a1,R,hCg,hlen,ha1,hs,hd,hR⟩:=hK
 have hAC:=hAC a1 h1 R hCg
 have H1:=callee_heap H hlen hs hd
 refine OpTo.enter hoi hw hrun ?_
 have hsz1:a1.length=args'.size:=by
  have h2:=congrArg List.length ha1
  simp at h2;omega
 refine (hAC w (fun i=>φ (rho sel s.h.length i)) args' H1 hsz1 ?_).mono ?_
 ·intro j v v' e1 e2
  rw [←VR.ren]
  refine hVV j _ _ ?_ e2
  rw [←ha1];simp [e1]
 ·rintro e w' ⟨v,v',h1',φ1',rfl,hRv,hV,H1',F⟩
  obtain ⟨hgo,hKR⟩:=hR v h1' hRv (hlen▸F.len) F.flags
  obtain ⟨φ',hφ',hH',hF'⟩:=caller_heap H hlen hs H1 H1' F hgo
  refine ⟨v',rfl, ?_⟩
  have hVc:VR φ' (zaF (rho sel s.h.length) v) v':=by rw [VR.ren,hφ'];exact hV
  exact hK' φ' _ v' _ w' hKR hVc hH' hF'
theorem call_ok (hC:zhE P C) {i:Nat} {o:Oper} {c:Call} {f:FuncId} {fn:Func} {l:List Opd} {K:Value→List Blk→Prop} (hoi:ops[i]? =some o) (hw:Region.wanted o (yielded ops a.tmps)=true) (he: ∀x y,opd x=some y→VR φ (evf s.f y) (a.eval x)) (H:HR φ (hf s.h) w)
  (ho:o.op= .call c) (hcal:c.callee= .value (.func f)) (hfn:P.funcs[f]? =some fn) (hl:opds c.args.toList=some l) (hb:fn.body.isSome=true) (hname:fn.name≠ "runtime.NumGoroutine")
  (hK:zdA C fn.name (l.map (evf s.f)) K s.h) {K':Act→World→Prop} (hK': ∀φ' v v' h' w',K v h'→VR φ' v v'→HR φ' (hf h') w'→FrC φ s.h w φ' h' w'→K' (a.put o.dst v') w'):OpTo P ops i K' a w:=by
 obtain ⟨hll,hVV⟩:=ziu he hl
 have hrun:(execOp a.eval o).run P w= .ok (.enter f (c.args.map a.eval)) w:=by
  have hnb:fn.body.isNone=false:=by cases h:fn.body<;>simp [h] at hb ⊢
  have hnn:(fn.name== "runtime.NumGoroutine")=false:=by simpa using hname
  simp [execOp,ho,resolve,hcal,Act.eval,Deferred.ofValue,invoke,callFunc,hfn,hnb,hnn]
  rw [if_neg hname,if_neg (by intro e;rw [e] at hb;cases hb)]
 refine enter_ok (n:= .nm fn.name) hoi hw H (by simpa using hll) (fun j v v' e1 e2=>hVV j v v' e1 (by simpa using e2)) hrun (fun args h R q=>(show Env P (.nm fn.name) args h R from hC _ _ _ _ q) f fn hfn rfl) hK hK'
theorem callv_ok (hC:zhE P C) {i:Nat} {o:Oper} {c:Call} {x:Operand} {y:Opd} {g:FuncId} {fs cs:Array Value} {l:List Opd} {K:Value→List Blk→Prop} (hoi:ops[i]? =some o) (hw:Region.wanted o (yielded ops a.tmps)=true) (he: ∀x y,opd x=some y→VR φ (evf s.f y) (a.eval x)) (H:HR φ (hf s.h) w)
  (ho:o.op= .call c) (hcal:c.callee= .value x) (hx:opd x=some y) (hl:opds c.args.toList=some l) (hy:evf s.f y= .func (.func g) fs cs)
  (hK:zdA C (.no g) (l.map (evf s.f)++cs.toList) K s.h) {K':Act→World→Prop} (hK': ∀φ' v v' h' w',K v h'→VR φ' v v'→HR φ' (hf h') w'→FrC φ s.h w φ' h' w'→K' (a.put o.dst v') w'):OpTo P ops i K' a w:=by
 obtain ⟨hll,hVV⟩:=ziu he hl
 have h1:=he _ _ hx
 rw [hy] at h1
 have h2:SR φ (.func (.func g) fs cs) (a.eval x):=h1
 simp only [SR,zbG,Bool.and_eq_true] at h2
 obtain ⟨⟨h3,h4⟩,h5⟩:=h2
 have h3:fs= #[]:=by simpa using h3
 subst h3
 obtain ⟨fn,hfn,hb,hname,-⟩:=(show Env P (.no g) _ _ _ from hC _ _ _ _ hK.choose_spec.choose_spec.choose_spec.choose_spec.1)
 have hrun:(execOp a.eval o).run P w= .ok (.enter g (c.args.map a.eval++cs)) w:=by
  simp [execOp,ho,resolve,hcal,h5,Deferred.ofValue,invoke,callFunc,hfn]
  rw [if_neg hname,if_neg (by intro e;rw [e] at hb;cases hb)]
 refine enter_ok (n:= .no g) hoi hw H (by simp at hll ⊢;omega) (fun j v v' e1 e2=>?_) hrun (fun args h R q=>?_) hK hK'
 ·have hlen:(l.map (evf s.f)).length=(c.args.map a.eval).size:=by simpa using hll
  rw [List.getElem?_append] at e1
  rw [Array.getElem?_append] at e2
  rw [hlen] at e1
  split at e1
  ·rename_i hj;rw [if_pos hj] at e2;exact hVV j v v' e1 (by simpa using e2)
  ·rename_i hj;rw [if_neg hj] at e2
   have e3:cs[j - (c.args.map a.eval).size]? =some v:=by simpa using e1
   rw [e3] at e2;cases e2
   have hm:v∈cs.toList:=by have:=Array.mem_of_getElem? e3;simpa using this
   exact VR.of_sclf (zjl (List.all_eq_true.1 h4 v hm))
 ·obtain ⟨_,_,_,_,hA⟩:=(show Env P (.no g) args h R from hC _ _ _ _ q)
  exact hA
theorem special_O1 {f:Opd→IOp} {x:Operand} (hf: ∀y,qQ (f y)=0):qQ (O1 f x)=0:=by
 unfold O1;split
 ·exact hf _
 ·rfl
theorem zjj {f:Opd→Opd→IOp} {x y:Operand} (hf: ∀x y,qQ (f x y)=0):qQ (O2 f x y)=0:=by
 unfold O2;split
 ·exact hf _ _
 ·rfl
theorem special_bin {op:BinOp} {t:TypeId} {x y:Operand} :qQ (cBin P op t x y)=0:=by
 unfold cBin
 simp only
 repeat' split
 all_goals first | rfl | exact zjj (fun _ _=>rfl)
theorem special_spec {o:Oper} (h:qQ (cOp P o)≠0):(∃c,o.op= .call c)∨(∃s d x,o.op= .convert s d x)∨(∃c v,o.op= .send c v)∨(∃t c b,o.op= .recv t c b)∨(∃cs b,o.op= .select cs b)∨(∃t x,o.op= .range t x)∨(∃x b,o.op= .next x b)∨∃x,o.op= .entry x:=by
 cases ho:o.op with
 | call c=>exact .inl ⟨c,rfl⟩
 | convert s d x=>exact .inr (.inl ⟨_,_,_,rfl⟩)
 | send c v=>exact .inr (.inr (.inl ⟨_,_,rfl⟩))
 | recv t c b=>exact .inr (.inr (.inr (.inl ⟨_,_,_,rfl⟩)))
 | select cs b=>exact .inr (.inr (.inr (.inr (.inl ⟨_,_,rfl⟩))))
 | range t x=>exact .inr (.inr (.inr (.inr (.inr (.inl ⟨_,_,rfl⟩)))))
 | next x b=>exact .inr (.inr (.inr (.inr (.inr (.inr (.inl ⟨_,_,rfl⟩))))))
 | entry x=>exact .inr (.inr (.inr (.inr (.inr (.inr (.inr ⟨_,rfl⟩))))))
 | binOp op t x y t'=>exact absurd (by simp only [cOp,ho];exact special_bin) h
 | _=>
  refine absurd ?_ h
  simp only [cOp,ho]
  (repeat' split)<;>first | contradiction | rfl | exact special_O1 (fun _=>rfl) | exact zjj (fun _ _=>rfl)
theorem zfh {f:Opd→IOp} {x:Operand} {r:IOp} (h:O1 f x=r) (hr:qQ r≠0): ∃y,opd x=some y∧r=f y:=by
 unfold O1 at h;split at h
 ·rename_i y hy;exact ⟨y,hy,h.symm⟩
 ·subst h;exact absurd rfl hr
theorem zjW {f:Opd→Opd→IOp} {x y:Operand} {r:IOp} (h:O2 f x y=r) (hr:qQ r≠0): ∃x' y',opd x=some x'∧opd y=some y'∧r=f x' y':=by
 unfold O2 at h;split at h
 ·rename_i x' y' hx hy;exact ⟨x',y',hx,hy,h.symm⟩
 ·subst h;exact absurd rfl hr
theorem zfR {o:Oper} {r:IOp} (h:cOp P o=r) (hr:qQ r≠0):
    (∃c f fn l,o.op= .call c∧c.callee= .value (.func f)∧P.funcs[f]? =some fn∧opds c.args.toList=some l∧fn.body.isSome=true∧fn.name≠ "runtime.NumGoroutine" ∧r= .call fn.name l)∨
    (∃x y x' y' st xt el i z,o.op= .call { callee:= .builtin .append,args:= #[x,y],argTypes:= #[st,xt] } ∧opd x=some x'∧opd y=some y'∧P.underlying st=some (.slice el)∧
      ((∃e2,P.underlying xt=some (.slice e2))∨P.underlying xt=some .string)∧P.info? el=some i∧i.bytes≠0∧zbM P el=some z∧r= .app z i.size i.bytes x' y')∨
    (∃sT dT el x x',o.op= .convert sT dT x∧opd x=some x'∧P.underlying sT=some .string∧P.underlying dT=some (.slice el)∧P.underlying el=some (.int .u8)∧r= .csb x')∨
    (∃c v c' v',o.op= .send c v∧opd c=some c'∧opd v=some v'∧r= .snd c' v')∨
    (∃t dir el z c c',o.op= .recv t c false∧opd c=some c'∧P.underlying t=some (.chan dir el)∧zbM P el=some z∧r= .rcv c')∨
    (∃sc z m c',o.op= .select #[sc] false∧sc.send=none∧opd sc.chan=some c'∧zbM P sc.elem=some z∧ldn P sc.elem=some m∧zhT P sc.elem=m.isSome∧r= .sel1 z m.isSome c')∨
    (∃t kt el x x',o.op= .range t x∧opd x=some x'∧P.underlying t=some (.map kt el)∧r= .rng x')∨
    (∃x x',o.op= .next x false∧opd x=some x'∧r= .nxt x')∨
    (∃x x',o.op= .entry x∧opd x=some x'∧r= .ent x')∨
    (∃c x y l,o.op= .call c∧c.callee= .value x∧opd x=some y∧opds c.args.toList=some l∧r= .callv y l)∨
    (∃x m x' st xt el k i,o.op= .call { callee:= .builtin .append,args:= #[x,.const (.int .i64 (.ofNat m))],argTypes:= #[st,xt] } ∧opd x=some x'∧P.underlying st=some (.slice el)∧P.underlying xt=some (.int k)∧P.info? el=some i∧i.bytes=1∧
      zbM P el=some [(1,.int .u8 0)]∧0 < m∧m≤1000∧r= .app [(1,.int .u8 0)] i.size i.bytes x' (.c (.string (zstr m)))):=by
  rcases special_spec (o:=o) (P:=P) (h▸hr) with ⟨c,ho⟩ | ⟨sT,dT,x,ho⟩ | ⟨c,v,ho⟩ | ⟨t,c,b,ho⟩ | ⟨cs,b,ho⟩ | ⟨t,x,ho⟩ | ⟨x,b,ho⟩ | ⟨x,ho⟩
  · simp only [cOp,ho] at h
    obtain ⟨callee,args,argTypes⟩:=c
    unfold cCall at h
    simp only at h
    split at h
    · split at h
      · rename_i fn l hfn hl
        split at h
        · rename_i hb
          simp only [Bool.and_eq_true,bne_iff_ne] at hb
          exact .inl ⟨_,_,fn,l,ho,rfl,hfn,hl,hb.1,hb.2,h.symm⟩
        · subst h;exact absurd rfl hr
      · subst h;exact absurd rfl hr
    · exfalso
      split at h<;>first
        | (obtain ⟨y,_,rfl⟩:=zfh h hr;exact hr rfl)
        | (subst h;exact hr rfl)
    · rename_i x y st xt e1 e2
      have ho':o.op= .call { callee:= .builtin .append,args:= #[x,y],argTypes:= #[st,xt] } :=by rw [ho,zjg e1,zjg e2]
      refine .inr ?_
      split at h
      · rename_i el e2 hu hxt
        split at h
        · rename_i m b z hm hb hz
          split at h
          · subst h;exact absurd rfl hr
          · rename_i hb0
            obtain ⟨x',y',hx,hy,rfl⟩:=zjW h hr
            obtain ⟨it,hi,rfl⟩:=zeS hm
            simp only [hi,Option.map_some,Option.some.injEq] at hb
            subst hb
            exact .inl ⟨x,y,x',y',st,xt,el,it,z,ho',hx,hy,hu,.inl ⟨_,hxt⟩,hi,by simpa using hb0,hz,rfl⟩
        · subst h;exact absurd rfl hr
      · rename_i el hu hxt
        split at h
        · rename_i m b z hm hb hz
          split at h
          · subst h;exact absurd rfl hr
          · rename_i hb0
            obtain ⟨x',y',hx,hy,rfl⟩:=zjW h hr
            obtain ⟨it,hi,rfl⟩:=zeS hm
            simp only [hi,Option.map_some,Option.some.injEq] at hb
            subst hb
            exact .inl ⟨x,y,x',y',st,xt,el,it,z,ho',hx,hy,hu,.inr hxt,hi,by simpa using hb0,hz,rfl⟩
        · subst h;exact absurd rfl hr
      · rename_i el k hu hxt
        split at h
        · rename_i m n hm hb hz
          split at h
          · rename_i hnm
            obtain ⟨x',hx,rfl⟩:=zfh h hr
            obtain ⟨it,hi,rfl⟩:=zeS hm
            simp only [hi,Option.map_some,Option.some.injEq] at hb
            simp only [Bool.and_eq_true,Nat.blt_eq,Nat.ble_eq] at hnm
            exact .inr (.inr (.inr (.inr (.inr (.inr (.inr (.inr (.inr ⟨x,_,x',st,xt,el,k,it,ho',hx,hu,hxt,hi,hb,hz,hnm.1,hnm.2,by rw [hb]⟩))))))))
          · subst h;exact absurd rfl hr
        · subst h;exact absurd rfl hr
      · subst h;exact absurd rfl hr
    · exfalso
      split at h<;>first
        | (split at h<;>first | (obtain ⟨_,_,_,_,rfl⟩:=zjW h hr;exact hr rfl) | (subst h;exact hr rfl))
        | (subst h;exact hr rfl)
    · exfalso
      split at h<;>first
        | (obtain ⟨_,_,_,_,rfl⟩:=zjW h hr;exact hr rfl)
        | (subst h;exact hr rfl)
    · exfalso
      split at h<;>first
        | (obtain ⟨_,_,_,_,rfl⟩:=zjW h hr;exact hr rfl)
        | (subst h;exact hr rfl)
    all_goals first
      | (subst h;exact absurd rfl hr)
      | (split at h
         · rename_i y l hy hl
           exact .inr (.inr (.inr (.inr (.inr (.inr (.inr (.inr (.inr (.inl ⟨_,_,y,l,ho,rfl,hy,hl,h.symm⟩)))))))))
         · subst h;exact absurd rfl hr)
  · simp only [cOp,ho] at h
    split at h
    · obtain ⟨_,_,rfl⟩:=zfh h hr;exact absurd rfl hr
    · obtain ⟨_,_,rfl⟩:=zfh h hr;exact absurd rfl hr
    · rename_i el hu1 hu2
      split at h
      · rename_i hu3
        obtain ⟨y,hy,rfl⟩:=zfh h hr
        exact .inr (.inr (.inl ⟨sT,dT,el,x,y,ho,hy,hu1,hu2,hu3,rfl⟩))
      · subst h;exact absurd rfl hr
    · split at h
      · obtain ⟨_,_,rfl⟩:=zfh h hr;exact absurd rfl hr
      · subst h;exact absurd rfl hr
    · subst h;exact absurd rfl hr
  · simp only [cOp,ho] at h
    obtain ⟨c',v',hc,hv,rfl⟩:=zjW h hr
    exact .inr (.inr (.inr (.inl ⟨c,v,c',v',ho,hc,hv,rfl⟩)))
  · cases b with
    | true=>simp only [cOp,ho] at h;subst h;exact absurd rfl hr
    | false=>
      simp only [cOp,ho] at h
      split at h
      · rename_i dir el hu
        split at h
        · rename_i hz
          obtain ⟨c',hc,rfl⟩:=zfh h hr
          obtain ⟨z,hz⟩:=Option.isSome_iff_exists.1 hz
          exact .inr (.inr (.inr (.inr (.inl ⟨t,dir,el,z,c,c',ho,hc,hu,hz,rfl⟩))))
        · subst h;exact absurd rfl hr
      · subst h;exact absurd rfl hr
  · cases b with
    | true=>simp only [cOp,ho] at h;subst h;exact absurd rfl hr
    | false=>
      simp only [cOp,ho] at h
      split at h
      · rename_i sc hsc
        split at h
        · rename_i z m hsn hz hm
          split at h
          · rename_i hg
            obtain ⟨c',hc,rfl⟩:=zfh h hr
            exact .inr (.inr (.inr (.inr (.inr (.inl ⟨sc,z,m,c',by rw [ho,one_of hsc],hsn,hc,hz,hm,hg,rfl⟩)))))
          · subst h;exact absurd rfl hr
        · subst h;exact absurd rfl hr
      · subst h;exact absurd rfl hr

  · simp only [cOp,ho] at h
    split at h
    · rename_i kt el hu
      obtain ⟨x',hx,rfl⟩:=zfh h hr
      exact .inr (.inr (.inr (.inr (.inr (.inr (.inl ⟨t,kt,el,x,x',ho,hx,hu,rfl⟩))))))
    · subst h;exact absurd rfl hr
  · cases b with
    | true=>simp only [cOp,ho] at h;subst h;exact absurd rfl hr
    | false=>
      simp only [cOp,ho] at h
      obtain ⟨x',hx,rfl⟩:=zfh h hr
      exact .inr (.inr (.inr (.inr (.inr (.inr (.inr (.inl ⟨x,x',ho,hx,rfl⟩)))))))
  · simp only [cOp,ho] at h
    obtain ⟨x',hx,rfl⟩:=zfh h hr
    exact .inr (.inr (.inr (.inr (.inr (.inr (.inr (.inr (.inl ⟨x,x',ho,hx,rfl⟩))))))))
theorem zfj (hC:zhE P C) (H0:HR φ0 (hf h0) w0) {i:Nat} {o:Oper} (hoi:ops[i]? =some o) (hw:Region.wanted o (yielded ops a.tmps)=true) (hd: ∀t,o.dst=some t→t < n) {K:St→Prop} (I:Inv n φ0 h0 w0 φ s a w)
  (hK:zfD C (cOp P o) s.f s.h fun v h=>K ⟨zau s.f o.dst v,h⟩):OpTo P ops i (Sim n φ0 h0 w0 K) a w:=by
 have he:=I.ev
 have fin: ∀φ' v v' h' w',K ⟨zau s.f o.dst v,h'⟩→VR φ' v v'→HR φ' (hf h') w'→FrC φ s.h w φ' h' w'→Sim n φ0 h0 w0 K (a.put o.dst v') w':=
  fun φ' v v' h' w' k1 k2 k3 k4=>⟨φ',_,k1,I.step H0 hd k2 k3 k4⟩
 have finOK: ∀ {K':Value→List Blk→Prop},(∀v h,K' v h→K ⟨zau s.f o.dst v,h⟩)→OpOK P o φ s.h a w K'→OpTo P ops i (Sim n φ0 h0 w0 K) a w:=by
  rintro K' hKK ⟨φ',v,v',h',w',hr,k1,k2,k3,k4⟩
  exact OpTo.runs hoi hw hr (fin φ' v v' h' w' (hKK _ _ k1) k2 k3 k4)
 have finCh: ∀ {K':Value→List Blk→Prop},(∀v h,K' v h→K ⟨zau s.f o.dst v,h⟩)→ChOK P ops i o φ s.h a w K'→OpTo P ops i (Sim n φ0 h0 w0 K) a w:=by
  rintro K' hKK ⟨v,v',h',w',hr,k1,k2,k3,k4⟩
  refine hr.mono ?_
  rintro a1 w1 ⟨rfl,rfl⟩
  exact fin φ v v' h' _ (hKK _ _ k1) k2 k3 k4
 have plain:(match z8 (cOp P o) (evf s.f) (hf s.h) s.h.length with | some (v,e)=>K ⟨zau s.f o.dst v,e.on s.h⟩ | none=>False)→OpTo P ops i (Sim n φ0 h0 w0 K) a w:=by
  intro hp
  split at hp
  ·rename_i v f hs
   obtain ⟨φ',v',w',hr,k2,k3,k4⟩:=(zjh (P:=P) (o:=o) he I.heap (zdx s.h) hs).step (fun k b e=>zf6 (e▸hs)) (fun b e=>(zfk (e▸hs)).1)
   exact OpTo.runs hoi hw hr (fin φ' v v' _ w' hp k2 k3 k4)
  ·cases hp
 by_cases hsp:qQ (cOp P o)=0
 ·refine plain ?_
  unfold zfD at hK
  split at hK<;>first
   | exact hK
   | (rename_i hop;rw [hop] at hsp;cases hsp)
 ·rcases zfR (P:=P) (o:=o) rfl hsp with ⟨c,f,fn,l,ho,h1,h2,h3,h4,h5,h6⟩ | ⟨x,y,x',y',st,xt,el,it,z,ho,hx,hy,h1,h2,h3,h4,h5,h6⟩ | ⟨sT,dT,el,x,x',ho,hx,h1,h2,h3,h6⟩ |
   ⟨c,v,c',v',ho,hc,hv,h6⟩ | ⟨t,dir,el,z,c,c',ho,hc,h1,h2,h6⟩ | ⟨sc,z,m,c',ho,h1,h2,h3,h4,h5,h6⟩ | ⟨t,kt,el,x,x',ho,hx,hu,h6⟩ | ⟨x,x',ho,hx,h6⟩ | ⟨x,x',ho,hx,h6⟩ | ⟨c,x,y,l,ho,h1,h2,h3,h6⟩ | ⟨x,m,x',st,xt,el,k,it,ho,hx,h1,h2,h3,h4,h5,h7,h8,h6⟩<;>rw [h6] at hK<;>simp only [zfD] at hK
  ·exact call_ok hC hoi hw he I.heap ho h1 h2 h3 h4 h5 hK fin
  ·exact finOK (fun _ _ h=>h) (app_ok he I.heap ho hx hy h1 h2 h3 h4 h5 hK)
  ·exact finOK (fun _ _ h=>h) (csb_ok he I.heap ho hx h1 h2 h3 hK)
  ·exact finCh (fun _ _ h=>h) (snd_ok hoi hw he I.heap ho hc hv hK)
  ·exact finCh (fun _ _ h=>h) (rcv_ok hoi hw he I.heap ho hc h1 h2 hK)
  ·exact finCh (fun _ _ h=>h) (sel_ok hoi hw he I.heap ho h1 h2 h3 h4 h5 hK)
  ·exact finOK (fun _ _ h=>h) (rng_ok he I.heap ho hx hu hK)
  ·exact finOK (fun _ _ h=>h) (nxt_ok he I.heap ho hx hK)
  ·exact finOK (fun _ _ h=>h) (ent_ok he I.heap ho hx hK)
  ·split at hK
   ·rename_i g fs cs hy
    exact callv_ok hC hoi hw he I.heap ho h1 h2 h3 hy hK fin
   ·exact hK.elim
  ·refine finOK (fun _ _ h=>h) ?_
   obtain ⟨v,f,k1,k2,k3,k4⟩:=app0_does he I.heap (zdx s.h) ho hx h1 h2 h3 h4 h5 h7 h8 hK
   obtain ⟨φ',v',w',q1,q2,q3,q4⟩:=Does.step k2 k3 (fun b q=>(k4 b q).1)
   exact ⟨φ',v,v',_,w',q1,k1,q2,q3,q4⟩
end
end Go.Rh

namespace Go.Rh
theorem zg6 {e e':Opd→Value} {ps:List (Nat×Nat×Opd)} (h: ∀x∈ps.map (·.2.2),e x=e' x):(ps.map fun p=>(p.1,p.2.1,e p.2.2))=ps.map fun p=>(p.1,p.2.1,e' p.2.2):=by
 refine List.map_congr_left fun p hp=>?_
 rw [h p.2.2 (List.mem_map.2 ⟨p,hp,rfl⟩)]
theorem zc0 {e e':Opd→Value} {x:Option Opd} (h: ∀y∈x.toList,e y=e' y):x.map e=x.map e':=by
 cases x with
 | none=>rfl
 | some y=>simp [h y (by simp)]
theorem stepE_ev {op:IOp} {e e':Opd→Value} {h:Nat→Option Blk} {n:Nat} (he: ∀x∈op.opds,e x=e' x) (hsp:qQ op=0):z8 op e h n=z8 op e' h n:=by
 cases op<;>simp only [IOp.opds,List.mem_cons,List.mem_append,List.not_mem_nil,or_false,forall_eq_or_imp,forall_eq,qQ] at he hsp
 case bld z ps=>simp only [z8];rw [zg6 he]
 case mkf g caps=>
  have h1:(caps.all fun x=>sclf0 (e x))=caps.all fun x=>sclf0 (e' x):=by
   rw [Bool.eq_iff_iff];simp only [List.all_eq_true]
   exact ⟨fun h x hx=>he x hx▸h x hx,fun h x hx=>(he x hx).symm▸h x hx⟩
  simp only [z8];rw [List.map_congr_left he,h1]
 case bsl z s l ps=>simp only [z8];rw [zg6 he]
 case slcA l s x a b c=>simp only [z8];rw [he.1,zc0 (fun y hy=>he.2 y (.inl (.inl hy))),zc0 (fun y hy=>he.2 y (.inl (.inr hy))),zc0 (fun y hy=>he.2 y (.inr hy))]
 case slcS s x a b c=>simp only [z8];rw [he.1,zc0 (fun y hy=>he.2 y (.inl (.inl hy))),zc0 (fun y hy=>he.2 y (.inl (.inr hy))),zc0 (fun y hy=>he.2 y (.inr hy))]
 case slcT x a b=>simp only [z8];rw [he.1,zc0 (fun y hy=>he.2 y (.inl hy)),zc0 (fun y hy=>he.2 y (.inr hy))]
 all_goals first
  | rfl
  | (cases hsp;done)
  | (simp only [z8,he];done)
  | (obtain ⟨h1,h2⟩:=he;simp only [z8,h1,h2];done)
  | (obtain ⟨h1,h2,h3⟩:=he;simp only [z8,h1,h2,h3];done)
theorem zia {op:IOp} {e:Opd→Value} {h:Nat→Option Blk} {n n':Nat} (hm:op.makes=false):z8 op e h n=z8 op e h n':=by
 cases op<;>first | rfl | cases hm
theorem zib {op:IOp} {e:Opd→Value} {h:Nat→Option Blk} {n:Nat} {v:Value} {f:Eff} (hm:op.makes=true) (hs:z8 op e h n=some (v,f)): ∃b,f= .push b:=by
  cases op<;>simp only [IOp.makes] at hm<;>try cases hm
  all_goals
    simp only [z8] at hs
    first
      | (cases hs;done)
      | (cases hs;exact ⟨_,rfl⟩)
      | (split at hs<;>cases hs;exact ⟨_,rfl⟩)
      | (split at hs<;>try cases hs
         split at hs<;>cases hs;exact ⟨_,rfl⟩)
theorem ldV_h {h h':Nat→Option Blk} {n:Option Nat} {x:Value} (hh: ∀k∈zbC x,h k=h' k):ldV h n x=ldV h' n x:=by
 unfold ldV
 split
 ·rw [hh _ (by simp [zbC])]
 ·rfl
theorem stV_h {h h':Nat→Option Blk} {n:Nat} {v x:Value} (hh: ∀k∈zbC x,h k=h' k):stV h n v x=stV h' n v x:=by
 unfold stV
 split
 ·rw [hh _ (by simp [zbC])]
 ·rfl
theorem first_h {h h':Nat→Option Blk} {s n:Nat} {x:Value} (hh: ∀k∈zbC x,h k=h' k):first h s n x=first h' s n x:=by
 unfold first
 split
 ·rw [hh _ (by simp [zbC])]
 all_goals rfl
theorem stepE_h {op:IOp} {e:Opd→Value} {h h':Nat→Option Blk} {n:Nat} (hh: ∀k∈rdE op e,h k=h' k):z8 op e h n=z8 op e h' n:=by
 cases op<;>simp only [rdE,IOp.rdl,List.flatMap_cons,List.flatMap_nil,List.append_nil,List.mem_append] at hh
 case ld m a=>simp only [z8];rw [ldV_h hh]
 case st m a v=>simp only [z8];rw [stV_h hh]
 case cbs x=>
  simp only [z8]
  split
  ·rfl
  ·rename_i hx;rw [hx] at hh;rw [first_h hh]
  ·rfl
 case lenM x=>
  simp only [z8]
  split
  ·rfl
  ·rename_i hx;rw [hx] at hh;rw [hh _ (by simp [zbC])]
  ·rfl
 case lenC x=>
  simp only [z8]
  split
  ·rename_i hx;rw [hx] at hh;rw [hh _ (by simp [zbC])]
  ·rfl
 case cpy s d x=>
  simp only [z8]
  split
  ·rename_i hd hl
   rw [hd] at hh
   rw [first_h (fun k hk=>hh k (.inr hk))]
   split
   ·split
    ·rw [hh _ (.inl (by simp [zbC]))]
    all_goals rfl
   ·rfl
  ·rfl
 case lku kt z ag ok m k=>
  simp only [z8]
  split
  ·split
   ·rfl
   ·rename_i hx;rw [hx] at hh;rw [hh _ (by simp [zbC])]
   ·rfl
  ·rfl
 case mup kt m k v=>
  simp only [z8]
  split
  ·rfl
  ·split
   ·rename_i hx;rw [hx] at hh;rw [hh _ (by simp [zbC])]
   ·rfl
 all_goals rfl
theorem zdF {op:IOp} {e:Opd→Value} {h:Nat→Option Blk} {n:Nat} {v:Value} {k:Nat} {b:Blk} (hs:z8 op e h n=some (v,.set k b)):k∈rdE op e:=by
 cases op with
 | st m x y=>
  simp only [z8] at hs
  split at hs<;>cases hs
  rename_i hf
  unfold stV at hf
  split at hf<;>try cases hf
  rename_i hx
  split at hf<;>try cases hf
  split at hf<;>try cases hf
  split at hf<;>cases hf
  simp [rdE,IOp.rdl,hx,zbC]
 | cpy s d x=>
  simp only [z8] at hs
  split at hs<;>try cases hs
  rename_i hd _
  split at hs<;>try cases hs
  split at hs<;>try cases hs
  split at hs<;>try cases hs
  split at hs<;>cases hs
  simp [rdE,IOp.rdl,hd,zbC]
 | mup kt m x y=>
  simp only [z8] at hs
  split at hs<;>try cases hs
  split at hs<;>try cases hs
  rename_i hm
  split at hs<;>try cases hs
  split at hs<;>try cases hs
  ·simp [rdE,IOp.rdl,hm,zbC]
  ·split at hs<;>cases hs
   simp [rdE,IOp.rdl,hm,zbC]
 | _=>
  simp only [z8] at hs
  first | cases hs;done | skip
  all_goals (repeat' (split at hs))<;>cases hs
def IOp.writes:IOp→Bool
 | .st .. | .cpy .. | .mup .. =>true
 | _=>false
theorem zf7 {op:IOp} {e:Opd→Value} {h:Nat→Option Blk} {n:Nat} {v:Value} {f:Eff} (hs:z8 op e h n=some (v,f)):
  (op.makes=true∧∃b,f= .push b)∨(op.makes=false∧(f= .no∨(op.writes=true∧∃k b,f= .set k b))):=by
 cases hm:op.makes with
 | true=>exact .inl ⟨rfl,zib hm hs⟩
 | false=>
  refine .inr ⟨rfl, ?_⟩
  cases f with
  | no=>exact .inl rfl
  | set k b=>
   refine .inr ⟨?_,k,b,rfl⟩
   have:=zdF hs
   cases op<;>simp only [rdE,IOp.rdl,List.flatMap_nil,List.not_mem_nil] at this<;>first | rfl | skip
   all_goals
    simp only [z8] at hs
    (repeat' (split at hs))<;>cases hs
  | push b=>
   cases op with
   | st m x y=>
    simp only [z8] at hs
    split at hs<;>cases hs
    rename_i hf
    unfold stV at hf
    (repeat' (split at hf))<;>cases hf
   | _=>
    simp only [IOp.makes] at hm
    first | cases hm;done | skip
    all_goals
     simp only [z8] at hs
     first | cases hs;done | skip
    all_goals (repeat' (split at hs))<;>cases hs
def zf5 (c:Nat) (op:IOp) (e:Opd→Value) (h:Nat→Option Blk) (nid:Nat):Option (Value×Eff):=match op with
 | .appR z n b x y=>appE z n b (e x) (e y) h nid c
 | op=>z8 op e h nid
theorem zfP {c:Nat} {op:IOp} {e:Opd→Value} {h:Nat→Option Blk} {n:Nat} (hsp:qQ op=0):zf5 c op e h n=z8 op e h n:=by
 cases op<;>first | rfl | cases hsp
theorem det_cases {op:IOp} (h:op.det=true):qQ op=0∨∃z n b x y,op= .appR z n b x y:=by
 cases op<;>simp [IOp.det,qQ] at h ⊢
theorem stepX_or (op:IOp):(∃z n b x y,op= .appR z n b x y)∨∀c e h n,zf5 c op e h n=z8 op e h n:=by
 cases op<;>first | exact .inl ⟨_,_,_,_,_,rfl⟩ | exact .inr fun _ _ _ _=>rfl
theorem det_0 {op:IOp} (h:qQ op=0):op.det=true:=by simp [IOp.det,h]
theorem stepX_ev {c:Nat} {op:IOp} {e e':Opd→Value} {h:Nat→Option Blk} {n:Nat} (he: ∀x∈op.opds,e x=e' x) (hd:op.det=true):zf5 c op e h n=zf5 c op e' h n:=by
 rcases det_cases hd with h0 | ⟨z,m,b,x,y,rfl⟩
 ·rw [zfP h0,zfP h0];exact stepE_ev he h0
 ·simp only [zf5];rw [he x (by simp [IOp.opds]),he y (by simp [IOp.opds])]
theorem appE_h {z:RL} {size bytes nid c:Nat} {s x:Value} {h h':Nat→Option Blk} (hh: ∀k,k∈zbC s∨k∈zbC x→h k=h' k):appE z size bytes s x h nid c=appE z size bytes s x h' nid c:=by
 unfold appE
 split
 ·rename_i base sl cap m hl
  rw [first_h (h:=h) (h':=h') (fun k hk=>hh k (.inl hk)),first_h (h:=h) (h':=h') (x:=x) (fun k hk=>hh k (.inr hk))]
  split
  ·split
   ·split
    ·rw [hh _ (.inl (by simp [zbC]))]
    all_goals rfl
   ·rfl
  ·rfl
 ·rfl
theorem stepX_h {c:Nat} {op:IOp} {e:Opd→Value} {h h':Nat→Option Blk} {n:Nat} (hh: ∀k∈rdE op e,h k=h' k):zf5 c op e h n=zf5 c op e h' n:=by
 rcases stepX_or op with ⟨z,m,b,x,y,rfl⟩ | ho
 ·exact appE_h fun k hk=>hh k (by simpa [rdE,IOp.rdl] using hk)
 ·rw [ho,ho];exact stepE_h hh
theorem appE_set {z:RL} {size bytes nid c k:Nat} {s x v:Value} {b:Blk} {h:Nat→Option Blk} (hs:appE z size bytes s x h nid c=some (v,.set k b)):h k≠none∧b≠ .gone∧k∈zbC s:=by
 unfold appE at hs
 split at hs<;>try cases hs
 split at hs<;>try cases hs
 split at hs
 ·split at hs
  ·split at hs<;>try cases hs
   split at hs<;>try cases hs
   rename_i hk
   split at hs<;>cases hs
   rw [hk];simp [zbC]
  ·split at hs<;>cases hs
  ·cases hs
 ·split at hs<;>cases hs
theorem stepX_set {c:Nat} {op:IOp} {e:Opd→Value} {h:Nat→Option Blk} {n:Nat} {v:Value} {k:Nat} {b:Blk} (hs:zf5 c op e h n=some (v,.set k b)):h k≠none∧b≠ .gone:=by
 rcases stepX_or op with ⟨z,m,b,x,y,rfl⟩ | ho
 ·have:=appE_set hs;exact ⟨this.1,this.2.1⟩
 ·rw [ho] at hs;exact zf6 hs
def zhb (c:Nat) (d:DCell) (s:St):Option (Foot×St):=
 if gJ d.c s.f then none else if zbS d.c s.f then (match zf5 c d.c.op (evf s.f) (hf s.h) d.nid with
  | some (v,.no)=>some (⟨d.i,rdE d.c.op (evf s.f),[],none⟩,⟨zau s.f d.c.dst v,s.h⟩)
  | some (v,.set k b)=>some (⟨d.i,rdE d.c.op (evf s.f),[k],none⟩,⟨zau s.f d.c.dst v,s.h.set k b⟩)
  | some (v,.push b)=>match s.h[d.nid]? with
   | some .gone=>some (⟨d.i,rdE d.c.op (evf s.f),[d.nid],none⟩,⟨zau s.f d.c.dst v,s.h.set d.nid b⟩)
   | _=>none
  | none=>none)
 else some (⟨d.i,[],[],none⟩,⟨zau s.f d.c.dst undef,s.h⟩)
theorem zem {x:Foot} {log:List Foot} (h:x.none? =true):zeq x log=log:=by simp [zeq,h]
theorem apart_none {i:Nat} {y:Foot} :Foot.apart y ⟨i,[],[],none⟩:=by
 refine ⟨by simp,by simp, ?_,trivial⟩
 unfold below;split<;>simp
theorem zcN {C:zag} {un:Nat→Nat→Bool} {d:DCell} {log:List Foot} {K:List Foot→St→Prop} {s:St} (hd:zbS d.c s.f=true→d.c.op.det=true):
  zaW C un d log K s↔∀c,∃x s',zhb c d s=some (x,s')∧fits un x log∧K (zeq x log) s':=by
 unfold zaW zhb
 by_cases hg:gJ d.c s.f=true
 ·simp [hg]
 simp only [hg,if_false,Bool.false_eq_true]
 by_cases hw:zbS d.c s.f=true
 ·simp only [hw,if_true]
  have key: ∀c,(match zf5 c d.c.op (evf s.f) (hf s.h) d.nid with
    | some (v,e)=>e.okR d.nid s.h∧fits un ⟨d.i,rdE d.c.op (evf s.f),e.wr d.nid,none⟩ log∧K (zeq ⟨d.i,rdE d.c.op (evf s.f),e.wr d.nid,none⟩ log) ⟨zau s.f d.c.dst v,e.onR d.nid s.h⟩
    | none=>False)↔∃x s',(match zf5 c d.c.op (evf s.f) (hf s.h) d.nid with
    | some (v,.no)=>some ((⟨d.i,rdE d.c.op (evf s.f),[],none⟩:Foot),(⟨zau s.f d.c.dst v,s.h⟩:St))
    | some (v,.set k b)=>some (⟨d.i,rdE d.c.op (evf s.f),[k],none⟩,⟨zau s.f d.c.dst v,s.h.set k b⟩)
    | some (v,.push b)=>match s.h[d.nid]? with
     | some .gone=>some (⟨d.i,rdE d.c.op (evf s.f),[d.nid],none⟩,⟨zau s.f d.c.dst v,s.h.set d.nid b⟩)
     | _=>none
    | none=>none)=some (x,s')∧fits un x log∧K (zeq x log) s':=by
   intro c
   cases hs:zf5 c d.c.op (evf s.f) (hf s.h) d.nid with
   | none=>simp
   | some r=>
    obtain ⟨v,e⟩:=r
    cases e with
    | no=>
     simp only [Eff.okR,Eff.wr,Eff.onR]
     constructor
     ·rintro ⟨h1,h2,h3⟩;exact ⟨_,_,rfl,h2,h3⟩
     ·rintro ⟨x,s',h1,h2,h3⟩;cases h1;exact ⟨trivial,h2,h3⟩
    | set k b=>
     simp only [Eff.okR,Eff.wr,Eff.onR]
     constructor
     ·rintro ⟨h1,h2,h3⟩;exact ⟨_,_,rfl,h2,h3⟩
     ·rintro ⟨x,s',h1,h2,h3⟩;cases h1;exact ⟨trivial,h2,h3⟩
    | push b=>
     simp only [Eff.okR,Eff.wr,Eff.onR]
     constructor
     ·rintro ⟨h1,h2,h3⟩;exact ⟨_,_,by rw [h1],h2,h3⟩
     ·rintro ⟨x,s',h1,h2,h3⟩
      split at h1<;>cases h1
      rename_i hg
      exact ⟨hg,h2,h3⟩
  rcases det_cases (hd hw) with hsp | ⟨z,n,b,x,y,hop⟩
  ·split
   ·rename_i hop;rw [hop] at hsp;cases hsp
   ·rename_i hop;rw [hop] at hsp;cases hsp
   ·rw [if_pos hsp]
    simp only [zfP hsp] at key ⊢
    exact ⟨fun h _=>(key 0).1 h,fun h=>(key 0).2 (h 0)⟩
  ·rw [hop] at key ⊢
   exact ⟨fun h c=>(key c).1 (h c),fun h c=>(key c).2 (h c)⟩
 ·simp only [hw,if_false,Bool.false_eq_true]
  constructor
  ·intro h _
   exact ⟨_,_,rfl,fun y _=> .inl apart_none,by rw [zem rfl];exact h⟩
  ·intro h
   obtain ⟨x,s',h1,h2,h3⟩:=h 0
   cases h1
   rwa [zem rfl] at h3
theorem detD_0 {c:Nat} {d:DCell} {s:St} (hd:zbS d.c s.f=true→qQ d.c.op=0):zhb c d s=zhb 0 d s:=by
 unfold zhb
 by_cases hw:zbS d.c s.f=true
 ·simp only [hw,if_true,zfP (hd hw)]
 ·simp only [hw,if_false,Bool.false_eq_true]
theorem zcx {C:zag} {un:Nat→Nat→Bool} {d:DCell} {log:List Foot} {K:List Foot→St→Prop} {s:St} (hd:zbS d.c s.f=true→qQ d.c.op=0):
  zaW C un d log K s↔∃x s',zhb 0 d s=some (x,s')∧fits un x log∧K (zeq x log) s':=by
 rw [zcN fun hw=>det_0 (hd hw)]
 exact ⟨fun h=>h 0,fun h c=>by rw [detD_0 hd];exact h⟩
def apartS (x y:ICell):Prop:=(∀d,x.dst=some d→d∉y.looks∧y.dst≠some d)∧(∀d,y.dst=some d→d∉x.looks)
theorem apartS.symm {x y:ICell} (h:apartS x y):apartS y x:=
 ⟨fun d hd=>⟨h.2 d hd,fun e=>(h.1 d e).2 hd⟩,fun d hd=>(h.1 d hd).1⟩
theorem zgP {f:Nat→Value} {d:Option Nat} {v:Value} {t:Nat} (h:d≠some t):zau f d v t=f t:=by
 cases d with
 | none=>rfl
 | some d=>simp only [zau,setf];rw [if_neg];rintro rfl;exact h rfl
theorem ze2 {f:Nat→Value} {d d':Option Nat} {v v':Value} (h: ∀x,d=some x→d'≠some x):zau (zau f d v) d' v'=zau (zau f d' v') d v:=by
 cases d with
 | none=>rfl
 | some x=>
  cases d' with
  | none=>rfl
  | some y=>
   have:x≠y:=fun e=>h x rfl (by rw [e])
   funext i
   simp only [zau,setf]
   by_cases h1:i=x
   ·subst h1;simp [this]
   ·by_cases h2:i=y
    ·subst h2;simp [h1]
    ·simp [h1,h2]
theorem zd0 {c:ICell} {f:Nat→Value} {d:Option Nat} {v:Value} (h: ∀x,d=some x→x∉c.looks): ∀x∈c.op.opds,evf (zau f d v) x=evf f x:=by
 intro x hx
 cases x with
 | c v=>rfl
 | t n=>
  refine zgP ?_
  rintro rfl
  refine h n rfl ?_
  unfold ICell.looks
  exact List.mem_append_right _ (List.mem_filterMap.2 ⟨.t n,hx,rfl⟩)
theorem zch {c:ICell} {f:Nat→Value} {d:Option Nat} {v:Value} (h: ∀x,d=some x→x∉c.looks):zbS c (zau f d v)=zbS c f:=by
 unfold zbS
 rcases hg:c.guard with _ | ⟨g,b⟩
 ·rfl
 ·simp only
  rw [zgP]
  rintro rfl
  exact h g rfl (by unfold ICell.looks;rw [hg];simp)
theorem zfH {c:ICell} {f:Nat→Value} {d:Option Nat} {v:Value} (h: ∀x,d=some x→x∉c.looks):gJ c (zau f d v)=gJ c f:=by
 unfold gJ
 rcases hg:c.guard with _ | ⟨g,b⟩
 ·rfl
 ·simp only
  rw [zgP]
  rintro rfl
  exact h g rfl (by unfold ICell.looks;rw [hg];simp)
theorem rdl_opds {op:IOp} : ∀x∈op.rdl,x∈op.opds:=by
 cases op<;>simp [IOp.rdl,IOp.opds]
theorem rdE_ev {op:IOp} {e e':Opd→Value} (he: ∀x∈op.opds,e x=e' x):rdE op e=rdE op e':=by
 unfold rdE
 have: ∀l:List Opd,(∀x∈l,e x=e' x)→(l.flatMap fun x=>zbC (e x))=l.flatMap fun x=>zbC (e' x):=by
  intro l
  induction l with
  | nil=>intro _;rfl
  | cons x r ih=>intro h;rw [List.flatMap_cons,List.flatMap_cons,h x (by simp),ih (fun y hy=>h y (by simp [hy]))]
 exact this _ fun x hx=>he x (rdl_opds x hx)
theorem zc3 {c:Nat} {d:DCell} {s s':St} {x:Foot} (h:zhb c d s=some (x,s')):
  x.i=d.i∧x.top=none∧s'.h.length=s.h.length∧(∀k,k∉x.wr→s'.h[k]? =s.h[k]?)∧(∀k∈x.wr,k < s.h.length)∧
   ∃v,s'.f=zau s.f d.c.dst v:=by
 unfold zhb at h
 split at h
 ·cases h
 split at h
 ·split at h
  ·cases h;exact ⟨rfl,rfl,rfl,fun _ _=>rfl,by simp,_,rfl⟩
  ·rename_i v k b hs
   cases h
   refine ⟨rfl,rfl,by simp,fun j hj=>?_, ?_,_,rfl⟩
   ·simp only [List.mem_singleton] at hj
    exact List.getElem?_set_ne (Ne.symm hj)
   ·intro j hj
    simp only [List.mem_singleton] at hj
    subst hj
    exact zgU (stepX_set hs).1
  ·rename_i v b hs
   split at h<;>cases h
   rename_i hg
   refine ⟨rfl,rfl,by simp,fun j hj=>?_, ?_,_,rfl⟩
   ·simp only [List.mem_singleton] at hj
    exact List.getElem?_set_ne (Ne.symm hj)
   ·intro j hj
    simp only [List.mem_singleton] at hj
    subst hj
    exact z6 hg
  ·cases h
 ·cases h;exact ⟨rfl,rfl,rfl,fun _ _=>rfl,by simp,_,rfl⟩
theorem zdn {c:Nat} {d:DCell} {s s':St} {x:Foot} {f1:Nat→Value} {h1:List Blk} (h:zhb c d s=some (x,s')) (hgj:gJ d.c f1=gJ d.c s.f) (hw:zbS d.c f1=zbS d.c s.f) (he: ∀y∈d.c.op.opds,evf f1 y=evf s.f y) (hsp:zbS d.c s.f=true→d.c.op.det=true)
  (hh: ∀k,k∈x.rd∨k∈x.wr→h1[k]? =s.h[k]?):
  ∃(v:Value) (g:List Blk→List Blk),(∀l:List Blk,(∀k,k∉x.wr→(g l)[k]? =l[k]?)∧(∀k∈x.wr,k < l.length→(g l)[k]? =(s'.h)[k]?)∧(g l).length=l.length)∧
   s'=⟨zau s.f d.c.dst v,g s.h⟩∧zhb c d ⟨f1,h1⟩=some (x,⟨zau f1 d.c.dst v,g h1⟩):=by
 unfold zhb at h ⊢
 split at h
 ·cases h
 rename_i hgf
 rw [if_neg (by simp only;rw [hgj];exact hgf)]
 split at h
 ·rename_i hwt
  rw [if_pos (by rw [hw];exact hwt)]
  have hr:rdE d.c.op (evf f1)=rdE d.c.op (evf s.f):=rdE_ev he
  have hst: ∀(hrd: ∀k∈rdE d.c.op (evf s.f),h1[k]? =s.h[k]?),zf5 c d.c.op (evf f1) (hf h1) d.nid=zf5 c d.c.op (evf s.f) (hf s.h) d.nid:=by
   intro hrd
   rw [stepX_ev he (hsp hwt)]
   refine stepX_h fun k hk=>?_
   unfold hf;rw [hrd k hk]
  simp only
  split at h
  ·rename_i v hs
   cases h
   rw [hst (fun k hk=>hh k (.inl hk)),hs,hr]
   exact ⟨v,fun l=>l,fun l=>⟨fun _ _=>rfl,by simp,rfl⟩,rfl,rfl⟩
  ·rename_i v k b hs
   cases h
   rw [hst (fun k hk=>hh k (.inl hk)),hs,hr]
   refine ⟨v,fun l=>l.set k b,fun l=>⟨fun j hj=>?_, ?_,by simp⟩,rfl,rfl⟩
   ·simp only [List.mem_singleton] at hj;exact List.getElem?_set_ne (Ne.symm hj)
   ·intro j hj hl
    simp only [List.mem_singleton] at hj;subst hj
    have:=zgU (stepX_set hs).1
    simp [hl,this]
  ·rename_i v b hs
   split at h<;>cases h
   rename_i hg
   rw [hst (fun k hk=>hh k (.inl hk)),hs,hr]
   have hg':h1[d.nid]? =some .gone:=by rw [hh d.nid (.inr (by simp)),hg]
   simp only [hg']
   refine ⟨v,fun l=>l.set d.nid b,fun l=>⟨fun j hj=>?_, ?_,by simp⟩,rfl,rfl⟩
   ·simp only [List.mem_singleton] at hj;exact List.getElem?_set_ne (Ne.symm hj)
   ·intro j hj hl
    simp only [List.mem_singleton] at hj;subst hj
    have:=z6 hg
    simp [hl,this]
  ·cases h
 ·rename_i hwt
  rw [if_neg (by rw [hw];exact hwt)]
  cases h
  exact ⟨undef,fun l=>l,fun l=>⟨fun _ _=>rfl,by simp,rfl⟩,rfl,rfl⟩
end Go.Rh

namespace Go.Rh
theorem Foot.apart.symm {x y:Foot} (h:Foot.apart x y):Foot.apart y x:=by
 obtain ⟨h1,h2,h3,h4⟩:=h
 exact ⟨fun k hk=>⟨h2 k hk,fun hx=>(h1 k hx).2 hk⟩,fun k hk=>(h1 k hk).1,h4,h3⟩
theorem zfu {x y:Foot} (h:x.none? =true):Foot.apart x y:=by
 obtain ⟨i,rd,wr,top⟩:=x
 unfold Foot.none? at h
 split at h
 ·rename_i h1 h2 h3
  simp only at h1 h2 h3
  subst h1;subst h2;subst h3
  exact ⟨by simp,by simp,trivial,by unfold below;split<;>simp⟩
 ·cases h
theorem zgj {x y:Foot} {l:List Foot} (h:y∈zeq x l):y=x∨y∈l:=by
 unfold zeq at h;split at h
 ·exact .inr h
 ·simpa using h
theorem zce {x y:Foot} {l:List Foot} (h:y∈l):y∈zeq x l:=by
 unfold zeq;split
 ·exact h
 ·simp [h]
theorem addF_swap {x y z:Foot} {l:List Foot} (h:z∈zeq x (zeq y l)):z∈zeq y (zeq x l):=by
 unfold zeq at*
 split at h<;>split at h<;>simp_all
 rcases h with h | h | h<;>simp [h]
section
variable {C:zag} {un:Nat→Nat→Bool} {i j:DCell} {log:List Foot} {K:List Foot→St→Prop} {s:St}
theorem fits.mono {x:Foot} {l l':List Foot} (h:fits un x l) (hl: ∀y∈l',y∈l):fits un x l':=fun y hy=>h y (hl y hy)
theorem fits.apart {x y:Foot} (h:fits un x (zeq y log)) (hu:un y.i x.i=true):Foot.apart y x:=by
 by_cases hn:y.none? =true
 ·exact zfu hn
 ·rcases h y (by simp [zeq,hn]) with h | h
  ·exact h
  ·rw [hu] at h;cases h
theorem fits.add {x y:Foot} (h:fits un x log) (ha:Foot.apart y x):fits un x (zeq y log):=by
 intro z hz
 rcases zgj hz with rfl | hz
 ·exact .inl ha
 ·exact h z hz
theorem fits.add_cons {x y:Foot} (h:fits un x log) (ha:Foot.apart y x):fits un x (y::log):=by
 intro z hz
 rcases List.mem_cons.1 hz with rfl | hz
 ·exact .inl ha
 ·exact h z hz
theorem addF_cons {x y z:Foot} {l:List Foot} (h:z∈zeq x (y::l)):z∈y::zeq x l:=by
 rcases zgj h with rfl | h
 ·unfold zeq at h ⊢
  split
  ·rename_i hn;rwa [if_pos hn] at h
  ·simp
 ·rcases List.mem_cons.1 h with rfl | h
  ·simp
  ·exact List.mem_cons_of_mem _ (zce h)
theorem cons_addF {x y z:Foot} {l:List Foot} (h:z∈y::zeq x l):z∈zeq x (y::l):=by
 rcases List.mem_cons.1 h with rfl | h
 ·exact zce (by simp)
 ·unfold zeq at h ⊢
  split
  ·rename_i hn;rw [if_pos hn] at h;simp [h]
  ·rename_i hn;rw [if_neg hn] at h;simp at h ⊢;rcases h with h | h<;>simp [h]
theorem addF_sub {x:Foot} {l l':List Foot} (hl: ∀x∈l',x∈l) {y:Foot} (hx:y∈zeq x l'):y∈zeq x l:=by
 rcases zgj hx with rfl | hx
 ·unfold zeq at hx ⊢
  split
  ·rename_i hn;rw [if_pos hn] at hx;exact hl _ hx
  ·simp
 ·exact zce (hl y hx)
def zg1 (K:List Foot→St→Prop):Prop:= ∀l l' s,(∀x∈l',x∈l)→K l s→K l' s
theorem zcV {op:IOp} {f:Nat→Value} {h:List Blk} {K K':Value→List Blk→Prop} (hk: ∀v h,K v h→K' v h):zfD C op f h K→zfD C op f h K':=by
 have plain:(match z8 op (evf f) (hf h) h.length with | some (v,e)=>K v (e.on h) | none=>False)→(match z8 op (evf f) (hf h) h.length with | some (v,e)=>K' v (e.on h) | none=>False):=by
  split
  ·exact hk _ _
  ·exact id
 cases op<;>try exact plain
 case call g args=>
  rintro ⟨sel,h1,a1,R,h2,h3,h4,h5,h6,h7⟩
  exact ⟨sel,h1,a1,R,h2,h3,h4,h5,h6,fun v h1' hR hl hf=>⟨(h7 v h1' hR hl hf).1,hk _ _ (h7 v h1' hR hl hf).2⟩⟩
 case callv x args=>
  simp only [zfD]
  split
  ·rintro ⟨sel,h1,a1,R,h2,h3,h4,h5,h6,h7⟩
   exact ⟨sel,h1,a1,R,h2,h3,h4,h5,h6,fun v h1' hR hl hf=>⟨(h7 v h1' hR hl hf).1,hk _ _ (h7 v h1' hR hl hf).2⟩⟩
  ·exact id
 case app z si b x y=>
  simp only [zfD,appK]
  split
  ·split
   ·split
    ·split
     ·split
      ·exact hk _ _
      ·split
       ·split
        ·exact hk _ _
        ·exact id
       ·exact id
     ·split
      ·exact hk _ _
      ·exact id
     ·exact id
    ·exact fun ⟨h1,h2⟩=>⟨h1,fun c hc=>hk _ _ (h2 c hc)⟩
   ·exact id
  ·exact id
 case csb x=>
  simp only [zfD,csbK]
  split
  ·exact fun h c hc=>hk _ _ (h c hc)
  ·exact id
 case snd c v=>
  simp only [zfD,sndK]
  split
  ·split
   ·exact fun ⟨h1,h2,h3⟩=>⟨h1,h2,hk _ _ h3⟩
   ·exact id
  ·exact id
 case rcv c=>
  simp only [zfD,rcvK]
  split
  ·split
   ·exact hk _ _
   ·exact id
  ·exact id
 case rng x=>
  simp only [zfD,rngK]
  split
  ·split
   ·exact hk _ _
   ·exact id
  ·exact id
 case nxt x=>
  simp only [zfD,nxtK]
  split
  ·split
   ·split
    ·exact fun ⟨h1,h2,h3⟩=>⟨h1,fun q=>hk _ _ (h2 q),fun i e q1 q2=>hk _ _ (h3 i e q1 q2)⟩
    ·exact id
   ·exact id
  ·exact id
 case ent x=>
  simp only [zfD,entK]
  split
  ·split
   ·split
    ·split
     ·exact fun ⟨h1,h2⟩=>⟨h1,hk _ _ h2⟩
     ·exact id
    ·exact id
   ·exact id
  ·exact id
 case sel1 z ag c=>
  simp only [zfD,selK]
  split
  ·split
   ·exact hk _ _
   ·split
    ·exact hk _ _
    ·exact id
   ·exact id
  ·exact id
theorem zgC {d:DCell} {K':List Foot→St→Prop} (hk: ∀l s,K l s→K' l s) (h:zaW C un d log K s):zaW C un d log K' s:=by
 unfold zaW at*
 split at h
 ·exact h.elim
 rename_i hg
 rw [if_neg hg]
 split at h
 ·rename_i hw
  simp only [hw,if_true]
  split at h
  ·obtain ⟨sel,h1,a1,R,h2,h3,h4,h5,h6,h7,h8,h9⟩:=h
   exact ⟨sel,h1,a1,R,h2,h3,h4,h5,h6,h7,h8,fun v h1' a b c=>⟨(h9 v h1' a b c).1,hk _ _ (h9 v h1' a b c).2⟩⟩
  ·intro c
   have h:=h c
   revert h
   split
   ·exact fun ⟨q1,q2,q3⟩=>⟨q1,q2,hk _ _ q3⟩
   ·exact id
  ·split at h
   ·rename_i hsp
    rw [if_pos hsp]
    split at h
    ·exact ⟨h.1,h.2.1,hk _ _ h.2.2⟩
    ·exact h
   ·rename_i hsp
    rw [if_neg hsp]
    exact zcV (fun v h=>hk _ _) h
 ·rename_i hw
  rw [if_neg hw]
  exact hk _ _ h
theorem stepD_log {d:DCell} {log':List Foot} (hK:zg1 K) (hl: ∀x∈log',x∈log) (h:zaW C un d log K s):zaW C un d log' K s:=by
 unfold zaW at*
 split at h
 ·exact h.elim
 rename_i hg
 rw [if_neg hg]
 split at h
 ·rename_i hw
  simp only [hw,if_true]
  split at h
  ·obtain ⟨sel,h1,a1,R,h2,h3,h4,h5,h6,h7,h8,h9⟩:=h
   refine ⟨sel,h1,a1,R,h2,h3,h4,h5,h6,h7.mono hl,h8,fun v h1' a b c=>⟨(h9 v h1' a b c).1,hK _ _ _ ?_ (h9 v h1' a b c).2⟩⟩
   intro x hx
   rcases List.mem_cons.1 hx with rfl | hx
   ·simp
   ·exact List.mem_cons_of_mem _ (hl x hx)
  ·intro c
   have h:=h c
   revert h
   split
   ·exact fun ⟨q1,q2,q3⟩=>⟨q1,q2.mono hl,hK _ _ _ (fun x hx=>addF_sub hl hx) q3⟩
   ·exact id
  ·split at h
   ·rename_i hsp
    rw [if_pos hsp]
    split at h
    ·refine ⟨h.1,h.2.1.mono hl,hK _ _ _ ?_ h.2.2⟩
     exact fun x hx=>addF_sub hl hx
    ·exact h
   ·rename_i hsp
    rw [if_neg hsp]
    exact zcV (fun v h=>hK _ _ _ hl) h
 ·rename_i hw
  rw [if_neg hw]
  exact hK _ _ _ hl h
theorem zfl {d:DCell} {g:String} {args:List Opd} (hw:zbS d.c s.f=true) (hop:d.c.op= .call g args):
  zaW C un d log K s↔gJ d.c s.f=false∧CallD C un d.i g (args.map (evf s.f)) log (fun l v h=>K l ⟨zau s.f d.c.dst v,h⟩) s.h:=by
 unfold zaW
 rw [hop]
 cases hg:gJ d.c s.f with
 | true=>simp
 | false=>simp only [Bool.false_eq_true,if_false,if_pos hw,true_and]
theorem comm_det {c1 c2:Nat} {x y:Foot} {s1 s2:St} (ha:apartS j.c i.c) (hj:zbS j.c s.f=true→j.c.op.det=true) (hi:zbS i.c s.f=true→i.c.op.det=true)
  (h1:zhb c1 j s=some (x,s1)) (h2:zhb c2 i s1=some (y,s2)) (hxy:Foot.apart x y): ∃s3,zhb c2 i s=some (y,s3)∧zhb c1 j s3=some (x,s2):=by
 obtain ⟨_,_,hl1,hoff1,hlt1,v1,hf1⟩:=zc3 h1
 obtain ⟨_,_,hl2,hoff2,hlt2,v2,hf2⟩:=zc3 h2
 have hw1:zbS i.c s1.f=zbS i.c s.f:=by rw [hf1];exact zch fun d hd=>(ha.1 d hd).1
 have hg1:gJ i.c s1.f=gJ i.c s.f:=by rw [hf1];exact zfH fun d hd=>(ha.1 d hd).1
 have he1: ∀o∈i.c.op.opds,evf s1.f o=evf s.f o:=by rw [hf1];exact zd0 fun d hd=>(ha.1 d hd).1
 obtain ⟨v,g,hg,hs2,h3⟩:=zdn (f1:=s.f) (h1:=s.h) h2 hg1.symm hw1.symm (fun o ho=>(he1 o ho).symm) (fun hw=>hi (hw1▸hw)) (by
  intro k hk
  rw [hoff1]
  intro hx
  have:=hxy.1 k hx
  rcases hk with hk | hk
  ·exact this.1 hk
  ·exact this.2 hk)
 refine ⟨_,h3, ?_⟩
 obtain ⟨v',g',hg',hs1,h4⟩:=zdn (f1:=zau s.f i.c.dst v) (h1:=g s.h) h1 (zfH ha.2) (zch ha.2) (zd0 ha.2) hj (by
  intro k hk
  rw [(hg s.h).1]
  intro hy
  rcases hk with hk | hk
  ·exact hxy.2.1 k hy hk
  ·exact (hxy.1 k hk).2 hy)
 rw [h4]
 congr 2
 rw [hs2]
 congr 1
 ·rw [hs1]
  simp only
  exact ze2 fun d hd e=>(ha.1 d e).2 hd
 ·refine List.ext_getElem? fun k=>?_
  by_cases hx:k∈x.wr
  ·have hy:=(hxy.1 k hx).2
   have hkl:=hlt1 k hx
   rw [(hg' (g s.h)).2.1 k hx (by rw [(hg s.h).2.2];exact hkl),(hg s1.h).1 k hy]
  ·rw [(hg' (g s.h)).1 k hx]
   by_cases hy:k∈y.wr
   ·have hkl:=hlt2 k hy
    rw [(hg s.h).2.1 k hy (by rw [←hl1];exact hkl),hs2]
   ·rw [(hg s.h).1 k hy,(hg s1.h).1 k hy,hoff1 k hx]
theorem zh6 (ha:apartS j.c i.c) (hj:zbS j.c s.f=true→j.c.op.det=true) (hi:zbS i.c s.f=true→i.c.op.det=true) (hu:un j.i i.i=true) (hK:zg1 K)
  (h:zaW C un j log (fun l s=>zaW C un i l K s) s):zaW C un i log (fun l s=>zaW C un j l K s) s:=by
 rw [zcN hj] at h
 have key: ∀c1 c2,∃x y s2 s3,fits un x log∧fits un y log∧Foot.apart x y∧zhb c2 i s=some (y,s3)∧zhb c1 j s3=some (x,s2)∧K (zeq y (zeq x log)) s2:=by
  intro c1 c2
  obtain ⟨x,s1,h1,hx,h⟩:=h c1
  obtain ⟨ex,_,_,_,_,v1,hf1⟩:=zc3 h1
  have hw1:zbS i.c s1.f=zbS i.c s.f:=by rw [hf1];exact zch fun d hd=>(ha.1 d hd).1
  rw [zcN (fun hw=>hi (hw1▸hw))] at h
  obtain ⟨y,s2,h2,hy,hk⟩:=h c2
  obtain ⟨ey,_⟩:=zc3 h2
  have hxy:=hy.apart (by rw [ex,ey];exact hu)
  obtain ⟨s3,h3,h4⟩:=comm_det ha hj hi h1 h2 hxy
  exact ⟨x,y,s2,s3,hx,hy.mono fun z hz=>zce hz,hxy,h3,h4,hk⟩
 rw [zcN hi]
 intro c2
 obtain ⟨x0,y,s20,s3,_,hy,_,h3,_,_⟩:=key 0 c2
 obtain ⟨_,_,_,_,_,v3,hf3⟩:=zc3 h3
 have hw3:zbS j.c s3.f=zbS j.c s.f:=by rw [hf3];exact zch ha.2
 refine ⟨y,s3,h3,hy, ?_⟩
 rw [zcN (fun hw=>hj (hw3▸hw))]
 intro c1
 obtain ⟨x,y',s2,s3',hx,_,hxy,h3',h4,hk⟩:=key c1 c2
 rw [h3] at h3'
 cases h3'
 exact ⟨x,s2,h4,hx.add hxy.symm,hK _ _ _ (fun z hz=>addF_swap hz) hk⟩
theorem mem_wrsel: ∀ {sel:List Nat} {h1:List Blk} {n k:Nat} {b:Blk},sel[n]? =some k→h1[n]? =some b→b.rw=true→k∈zcF sel h1
 | [],_,n,_,_,h,_,_=>by simp at h
 | _::_,[],n,_,_,_,h,_=>by simp at h
 | a::sel,c::h1,0,k,b,e1,e2,e3=>by
  simp at e1 e2;subst e1;subst e2;simp [zcF,e3]
 | a::sel,c::h1,n+1,k,b,e1,e2,e3=>by
  have:=mem_wrsel (sel:=sel) (h1:=h1) (n:=n) (by simpa using e1) (by simpa using e2) e3
  simp only [zcF];split
  ·exact List.mem_cons_of_mem _ this
  ·exact this
theorem back_lt {h:List Blk} {sel:List Nat} {h1:List Blk} {ρ:Nat→Nat} {k:Nat} (hk:k < h.length):(zfZ h sel h1 ρ)[k]? =(match zcl k sel h1 with | some b'=>some (zbx ρ b') | none=>h[k]?):=by
 rw [zbP hk]
 cases zcl k sel h1<;>simp [hk]
theorem back_off {h:List Blk} {sel:List Nat} {h1 h1':List Blk} {ρ:Nat→Nat} {k:Nat} (hk:k < h.length) (hl:h1.length=sel.length) (hfl:zeF h1 h1') (hw:k∉zcF sel h1):(zfZ h sel h1' ρ)[k]? =h[k]? :=by
 rw [back_lt hk]
 split
 ·rename_i b' hov
  obtain ⟨n,e1,e2,e3⟩:=zec hov
  have hn:=z6 e1
  have e4:h1[n]? =some (h1[n]'om):=by simp [show n < h1.length by omega]
  have:=hfl n _ b' e4 e2
  exact absurd (mem_wrsel e1 e4 (by rw [←this];exact e3)) hw
 ·rfl
theorem back_g {h:List Blk} {sel:List Nat} {h1:List Blk} {ρ:Nat→Nat} {g:List Blk→List Blk} {wr:List Nat} {c:Nat→Option Blk} (hg: ∀l:List Blk,(∀k,k∉wr→(g l)[k]? =l[k]?)∧(∀k∈wr,k < l.length→(g l)[k]? =c k)∧(g l).length=l.length)
  (hwr: ∀k∈wr,k < h.length∧k∉sel):zfZ (g h) sel h1 ρ=g (zfZ h sel h1 ρ):=by
 refine List.ext_getElem? fun k=>?_
 have hbl:h.length≤(zfZ h sel h1 ρ).length:=by unfold zfZ;simp
 by_cases hk:k∈wr
 ·obtain ⟨h2,h3⟩:=hwr k hk
  rw [(hg _).2.1 k hk om,back_lt (by rw [(hg h).2.2];exact h2)]
  have:zcl k sel h1=none:=by
   cases ho:zcl k sel h1 with
   | none=>rfl
   | some b=>obtain ⟨n,e1,_⟩:=zec ho;exact absurd (List.mem_of_getElem? e1) h3
  rw [this,(hg h).2.1 k hk h2]
 ·rw [(hg _).1 k hk]
  rcases Nat.lt_or_ge k h.length with hkl | hkl
  ·rw [back_lt (by rw [(hg h).2.2];exact hkl),back_lt hkl,(hg h).1 k hk]
  ·rw [zbQ (by rw [(hg h).2.2];exact hkl),zbQ hkl,(hg h).2.2]
theorem swap_dc {g:String} {args:List Opd} (ha:apartS j.c i.c) (hj:qQ j.c.op=0) (hw:zbS i.c s.f=true) (hop:i.c.op= .call g args) (hu:un j.i i.i=true) (hK:zg1 K)
  (h:zaW C un j log (fun l s=>zaW C un i l K s) s):zaW C un i log (fun l s=>zaW C un j l K s) s:=by
 rw [zcx (fun _=>hj)] at h
 obtain ⟨x,s1,h1,hx,h⟩:=h
 obtain ⟨ex,_,hl1,hoff1,hlt1,v1,hf1⟩:=zc3 h1
 have hw1:zbS i.c s1.f=zbS i.c s.f:=by rw [hf1];exact zch fun d hd=>(ha.1 d hd).1
 have hg1:gJ i.c s1.f=gJ i.c s.f:=by rw [hf1];exact zfH fun d hd=>(ha.1 d hd).1
 have he1: ∀o∈i.c.op.opds,evf s1.f o=evf s.f o:=by rw [hf1];exact zd0 fun d hd=>(ha.1 d hd).1
 have hargs:args.map (evf s1.f)=args.map (evf s.f):=List.map_congr_left fun o ho=>he1 o (by rw [hop];exact ho)
 rw [zfl (hw1.trans hw) hop] at h
 obtain ⟨hgi,sel,b1,a1,R,h2,h3,h4,h5,h6,h7,h8,h9⟩:=h
 rw [hl1] at h4 h5 h7 h9
 rw [hargs] at h4
 have hxy:=h7.apart (by rw [ex];exact hu)
 obtain ⟨p1,p2,p3,p4⟩:=hxy
 simp only [below] at p4
 rw [zfl hw hop]
 refine ⟨hg1▸hgi,sel,b1,a1,R,h2,h3,h4, ?_,h6,h7.mono fun z hz=>zce hz,h8, ?_⟩
 ·intro n k b e1 e2
  rw [←hoff1 k (fun hk=>(p1 k hk).1 (List.mem_of_getElem? e1))]
  exact h5 n k b e1 e2
 ·intro v b1' hR hl hfl
  obtain ⟨hgn,hk⟩:=h9 v b1' hR hl hfl
  refine ⟨hgn, ?_⟩
  obtain ⟨v',g',hg',hs1,h10⟩:=zdn (f1:=zau s.f i.c.dst (zaF (rho sel s.h.length) v)) (h1:=zfZ s.h sel b1' (rho sel s.h.length)) h1 (zfH ha.2) (zch ha.2) (zd0 ha.2) (fun _=>det_0 hj) (by
   intro k hk
   refine back_off (p4 k ?_) h3 hfl ?_
   ·rcases hk with hk | hk<;>simp [hk]
   ·intro hkw
    rcases hk with hk | hk
    ·exact p2 k hkw hk
    ·exact (p1 k hk).2 hkw)
  rw [zcx (fun _=>hj)]
  refine ⟨x,_,h10,fits.add_cons hx (Foot.apart.symm ⟨p1,p2,p3,p4⟩), ?_⟩
  have e:(⟨zau s1.f i.c.dst (zaF (rho sel s.h.length) v),zfZ s1.h sel b1' (rho sel s.h.length)⟩:St)=
    ⟨zau (zau s.f i.c.dst (zaF (rho sel s.h.length) v)) j.c.dst v',g' (zfZ s.h sel b1' (rho sel s.h.length))⟩:=by
   rw [hs1]
   congr 1
   ·exact ze2 fun d hd=>(ha.1 d hd).2
   ·exact back_g hg' fun k hk=>⟨hlt1 k hk,fun hs=>(p1 k hk).1 hs⟩
  rw [e] at hk
  exact hK _ _ _ (fun z hz=>addF_cons hz) hk
theorem swap_cd {g:String} {args:List Opd} (hne:i.i≠j.i) (ha:apartS j.c i.c) (hi:i.c.op.det=true) (hw:zbS j.c s.f=true) (hop:j.c.op= .call g args) (hu:un j.i i.i=true) (hK:zg1 K)
  (h:zaW C un j log (fun l s=>zaW C un i l K s) s):zaW C un i log (fun l s=>zaW C un j l K s) s:=by
 rw [zfl hw hop] at h
 obtain ⟨hgj,sel,b1,a1,R,h2,h3,h4,h5,h6,h7,hex,h9⟩:=h
 obtain ⟨v0,b0,hR0,hl0,hf0⟩:=hex ⟨i.i,hne,hu⟩
 have key: ∀c v b1',R v b1'→sel.length≤b1'.length→zeF b1 b1'→∃y s2,zhb c i ⟨zau s.f j.c.dst (zaF (rho sel s.h.length) v),zfZ s.h sel b1' (rho sel s.h.length)⟩=some (y,s2)∧
   fits un y log∧Foot.apart ⟨j.i,sel,zcF sel b1,some s.h.length⟩ y∧(∀k,k∈y.rd∨k∈y.wr→(zfZ s.h sel b1' (rho sel s.h.length))[k]? =s.h[k]?)∧K (zeq y (⟨j.i,sel,zcF sel b1,some s.h.length⟩::log)) s2:=by
  intro c v b1' hR hl hfl
  have hk:=(h9 v b1' hR hl hfl).2
  dsimp only at hk
  rw [zcN (fun _=>hi)] at hk
  obtain ⟨y,s2,e1,e2,e3⟩:=hk c
  obtain ⟨ey,_⟩:=zc3 e1
  have hap:Foot.apart ⟨j.i,sel,zcF sel b1,some s.h.length⟩ y:=by
   rcases e2 ⟨j.i,sel,zcF sel b1,some s.h.length⟩ (by simp) with h | h
   ·exact h
   ·dsimp only at h;rw [ey,hu] at h;cases h
  refine ⟨y,s2,e1,e2.mono (fun z hz=>List.mem_cons_of_mem _ hz),hap, ?_,e3⟩
  intro k hk
  obtain ⟨p1,p2,p3,p4⟩:=hap
  simp only [below] at p3
  refine back_off (p3 k ?_) h3 hfl ?_
  ·rcases hk with hk | hk<;>simp [hk]
  ·intro hkw
   rcases hk with hk | hk
   ·exact (p1 k hkw).1 hk
   ·exact (p1 k hkw).2 hk
 have hgi: ∀v,gJ i.c (zau s.f j.c.dst v)=gJ i.c s.f:=fun v=>zfH fun d hd=>(ha.1 d hd).1
 have hwi: ∀v,zbS i.c (zau s.f j.c.dst v)=zbS i.c s.f:=fun v=>zch fun d hd=>(ha.1 d hd).1
 have hei: ∀v,∀o∈i.c.op.opds,evf (zau s.f j.c.dst v) o=evf s.f o:=fun v=>zd0 fun d hd=>(ha.1 d hd).1
 rw [zcN (fun _=>hi)]
 intro c
 obtain ⟨y,s20,q1,q2,q3,q4,_⟩:=key c v0 b0 hR0 hl0 hf0
 obtain ⟨v1,g1,_,_,q5⟩:=zdn (f1:=s.f) (h1:=s.h) q1 (hgi _).symm (hwi _).symm (fun o ho=>(hei _ o ho).symm) (fun _=>hi) (fun k hk=>(q4 k hk).symm)
 obtain ⟨ey,_,hl3,hoff3,hlt3,v3,hf3⟩:=zc3 q5
 refine ⟨y,_,q5,q2, ?_⟩
 have hw3:zbS j.c (zau s.f i.c.dst v1)=zbS j.c s.f:=zch ha.2
 have he3: ∀o∈j.c.op.opds,evf (zau s.f i.c.dst v1) o=evf s.f o:=zd0 ha.2
 have hargs:args.map (evf (zau s.f i.c.dst v1))=args.map (evf s.f):=List.map_congr_left fun o ho=>he3 o (by rw [hop];exact ho)
 rw [zfl (hw3.trans hw) hop]
 dsimp only at hl3 hoff3
 simp only [hargs]
 unfold CallD
 rw [hl3]
 obtain ⟨p1,p2,p3,p4⟩:=q3
 refine ⟨(zfH ha.2).trans hgj,sel,b1,a1,R,h2,h3,h4, ?_,h6,h7.add (Foot.apart.symm ⟨p1,p2,p3,p4⟩),fun _=>⟨v0,b0,hR0,hl0,hf0⟩, ?_⟩
 ·intro n k b e1 e2
  rw [hoff3 k (fun hk=>p2 k hk (List.mem_of_getElem? e1))]
  exact h5 n k b e1 e2
 ·intro v b1' hR hl hfl
  obtain ⟨y',s2,r1,_,_,r4,r5⟩:=key c v b1' hR hl hfl
  have hh: ∀k,k∈y.rd∨k∈y.wr→(zfZ s.h sel b1' (rho sel s.h.length))[k]? =s.h[k]? :=by
   intro k hk
   simp only [below] at p3
   refine back_off (p3 k ?_) h3 hfl ?_
   ·rcases hk with hk | hk<;>simp [hk]
   ·intro hkw
    rcases hk with hk | hk
    ·exact (p1 k hkw).1 hk
    ·exact (p1 k hkw).2 hk
  obtain ⟨v4,g4,hg4,hs4,q6⟩:=zdn (f1:=zau s.f j.c.dst (zaF (rho sel s.h.length) v)) (h1:=zfZ s.h sel b1' (rho sel s.h.length)) q5 (hgi _) (hwi _) (hei _) (fun _=>hi) hh
  rw [q6] at r1
  cases r1
  have e:(⟨zau (zau s.f i.c.dst v1) j.c.dst (zaF (rho sel s.h.length) v),zfZ (g1 s.h) sel b1' (rho sel s.h.length)⟩:St)=
    ⟨zau (zau s.f j.c.dst (zaF (rho sel s.h.length) v)) i.c.dst v4,g4 (zfZ s.h sel b1' (rho sel s.h.length))⟩:=by
   have e1:zau s.f i.c.dst v1=zau s.f i.c.dst v4:=congrArg St.f hs4
   have e2:g1 s.h=g4 s.h:=congrArg St.h hs4
   rw [e1,e2]
   congr 1
   ·exact ze2 fun d hd e=>(ha.1 d e).2 hd
   ·exact back_g hg4 fun k hk=>⟨hlt3 k hk,fun hs=>p2 k hk hs⟩
  refine ⟨(h9 v b1' hR hl hfl).1, ?_⟩
  dsimp only
  rw [e]
  exact hK _ _ _ (fun z hz=>cons_addF hz) r5
theorem zjp {c:Nat} {d:DCell} {s s1:St} {x:Foot} (hq:d.c.op.quiet=true) (h:zhb c d s=some (x,s1)):x.rd= []∧x.wr= []∧x.top=none:=by
 simp only [IOp.quiet,Bool.and_eq_true,Bool.not_eq_true',List.isEmpty_iff] at hq
 obtain ⟨⟨h0,hm⟩,hr⟩:=hq
 rw [Nat.beq_eq] at h0
 rw [detD_0 (c:=c) (fun _=>h0)] at h
 have hrd:rdE d.c.op (evf s.f)= []:=by unfold rdE;rw [hr];rfl
 unfold zhb at h
 rw [zfP h0] at h
 split at h
 ·cases h
 split at h
 ·split at h
  ·cases h;exact ⟨hrd,rfl,rfl⟩
  ·rename_i v k b hs
   have:=zdF hs
   rw [hrd] at this;cases this
  ·rename_i v b hs
   have h0:z8 d.c.op (evf s.f) (hf s.h) d.nid=some (v,.push b)→False:=fun hs=>by
    rcases zf7 hs with ⟨h1,_⟩ | ⟨_,h1 | ⟨_,_,_,h1⟩⟩
    ·rw [hm] at h1;cases h1
    ·cases h1
    ·cases h1
   exact (h0 hs).elim
  ·cases h
 ·cases h;exact ⟨rfl,rfl,rfl⟩
theorem zdv {c:Nat} {d:DCell} {s s1:St} {x:Foot} (hq:d.c.op.quiet=true) (h:zhb c d s=some (x,s1)) {f1:Nat→Value} {h1:List Blk} (hg:gJ d.c f1=gJ d.c s.f) (hw:zbS d.c f1=zbS d.c s.f) (he: ∀y∈d.c.op.opds,evf f1 y=evf s.f y):
  ∃v,s1=⟨zau s.f d.c.dst v,s.h⟩∧zhb c d ⟨f1,h1⟩=some (x,⟨zau f1 d.c.dst v,h1⟩):=by
 obtain ⟨e1,e2,_⟩:=zjp hq h
 have hsp:qQ d.c.op=0:=by simp only [IOp.quiet,Bool.and_eq_true,Nat.beq_eq] at hq;exact hq.1.1
 obtain ⟨v,g,hg',h2,h3⟩:=zdn (f1:=f1) (h1:=h1) h hg hw he (fun _=>det_0 hsp) (by rw [e1,e2];rintro k (hk | hk)<;>cases hk)
 have hid: ∀l:List Blk,g l=l:=fun l=>List.ext_getElem? fun k=>(hg' l).1 k (by rw [e2];simp)
 rw [hid] at h2 h3
 exact ⟨v,h2,h3⟩
theorem zjo {c:Nat} {d:DCell} {s s1:St} {x:Foot} (hq:d.c.op.quiet=true) (h:zhb c d s=some (x,s1)):x.none? =true:=by
 obtain ⟨e1,e2,e3⟩:=zjp hq h
 unfold Foot.none?;rw [e1,e2,e3]
theorem none_fits {x:Foot} {log:List Foot} (h:x.none? =true):fits un x log:=fun _ _=> .inl (Foot.apart.symm (zfu h))
theorem zf8 {d:DCell} (hw:zbS d.c s.f=true) (hop:qQ d.c.op=2):zaW C un d log K s↔gJ d.c s.f=false∧zfD C d.c.op s.f s.h (fun v h=>K log ⟨zau s.f d.c.dst v,h⟩):=by
 unfold zaW
 cases hg:gJ d.c s.f with
 | true=>simp
 | false=>
  simp only [Bool.false_eq_true,if_false,if_pos hw,true_and]
  split
  ·rename_i h;rw [h] at hop;cases hop
  ·rename_i h;rw [h] at hop;cases hop
  ·rw [if_neg om]
theorem zhX {op:IOp} {f f':Nat→Value} {h:List Blk} {K:Value→List Blk→Prop} (hop:qQ op=2) (he: ∀x∈op.opds,evf f x=evf f' x) (hk:zfD C op f h K):zfD C op f' h K:=by
 cases op<;>simp only [qQ] at hop<;>try cases hop
 case app z n b x y=>
  have h1:=he x (by simp [IOp.opds])
  have h2:=he y (by simp [IOp.opds])
  simp only [zfD] at hk ⊢
  rw [←h1,←h2];exact hk
theorem wpOp_app_some {op:IOp} {f:Nat→Value} {h:List Blk} {K:Value→List Blk→Prop} (hop:qQ op=2) (hk:zfD C op f h K): ∃v h',K v h':=by
 cases op<;>simp only [qQ] at hop<;>try cases hop
 case app z n b x y=>
  simp only [zfD,appK] at hk
  split at hk<;>try exact hk.elim
  split at hk<;>try exact hk.elim
  split at hk
  ·split at hk
   ·split at hk
    ·exact ⟨_,_,hk⟩
    ·split at hk
     ·split at hk
      ·exact ⟨_,_,hk⟩
      ·exact hk.elim
     ·exact hk.elim
   ·split at hk
    ·exact ⟨_,_,hk⟩
    ·exact hk.elim
   ·exact hk.elim
  ·exact ⟨_,_,hk.2 _ (Nat.le_refl _)⟩
theorem swap_qa (ha:apartS j.c i.c) (hj:j.c.op.quiet=true) (hw:zbS i.c s.f=true) (hop:qQ i.c.op=2)
  (h:zaW C un j log (fun l s=>zaW C un i l K s) s):zaW C un i log (fun l s=>zaW C un j l K s) s:=by
 have hj0:qQ j.c.op=0:=by simp only [IOp.quiet,Bool.and_eq_true,Nat.beq_eq] at hj;exact hj.1.1
 rw [zcx (fun _=>hj0)] at h
 obtain ⟨x,s1,h1,hx,h⟩:=h
 have hn:=zjo hj h1
 rw [zem hn] at h
 obtain ⟨v1,hs1,_⟩:=zdv (f1:=s.f) (h1:=s.h) hj h1 rfl rfl (fun _ _=>rfl)
 subst hs1
 have hw1:zbS i.c (zau s.f j.c.dst v1)=zbS i.c s.f:=zch fun d hd=>(ha.1 d hd).1
 have hg1:gJ i.c (zau s.f j.c.dst v1)=gJ i.c s.f:=zfH fun d hd=>(ha.1 d hd).1
 have he1: ∀o∈i.c.op.opds,evf (zau s.f j.c.dst v1) o=evf s.f o:=zd0 fun d hd=>(ha.1 d hd).1
 rw [zf8 (hw1.trans hw) hop] at h
 obtain ⟨hg,hk⟩:=h
 rw [zf8 hw hop]
 refine ⟨hg1▸hg,zhX hop he1 (zcV (fun v h' hk'=>?_) hk)⟩
 rw [zcx (fun _=>hj0)]
 obtain ⟨v2,e1,e2⟩:=zdv (f1:=zau s.f i.c.dst v) (h1:=h') hj h1 (zfH ha.2) (zch ha.2) (zd0 ha.2)
 refine ⟨x,_,e2,none_fits hn, ?_⟩
 rw [zem hn]
 have e3:zau s.f j.c.dst v1=zau s.f j.c.dst v2:=congrArg St.f e1
 simp only [e3] at hk'
 rw [ze2 fun d hd=>(ha.1 d hd).2] at hk'
 exact hk'
theorem swap_aq (ha:apartS j.c i.c) (hi:i.c.op.quiet=true) (hw:zbS j.c s.f=true) (hop:qQ j.c.op=2)
  (h:zaW C un j log (fun l s=>zaW C un i l K s) s):zaW C un i log (fun l s=>zaW C un j l K s) s:=by
 have hi0:qQ i.c.op=0:=by simp only [IOp.quiet,Bool.and_eq_true,Nat.beq_eq] at hi;exact hi.1.1
 rw [zf8 hw hop] at h
 obtain ⟨hgj,hk⟩:=h
 have hgi: ∀v,gJ i.c s.f=gJ i.c (zau s.f j.c.dst v):=fun v=>(zfH fun d hd=>(ha.1 d hd).1).symm
 have hwi: ∀v,zbS i.c s.f=zbS i.c (zau s.f j.c.dst v):=fun v=>(zch fun d hd=>(ha.1 d hd).1).symm
 have hei: ∀v,∀o∈i.c.op.opds,evf s.f o=evf (zau s.f j.c.dst v) o:=fun v o ho=>(zd0 (fun d hd=>(ha.1 d hd).1) o ho).symm
 obtain ⟨v0,h0,q0⟩:=wpOp_app_some hop hk
 rw [zcx (fun _=>hi0)] at q0
 obtain ⟨y,s2,q1,q2,_⟩:=q0
 obtain ⟨v1,_,q5⟩:=zdv (f1:=s.f) (h1:=s.h) hi q1 (hgi _) (hwi _) (hei _)
 have hn:=zjo hi q1
 rw [zcx (fun _=>hi0)]
 refine ⟨y,_,q5,none_fits hn, ?_⟩
 rw [zem hn]
 have hw3:zbS j.c (zau s.f i.c.dst v1)=zbS j.c s.f:=zch ha.2
 rw [zf8 (hw3.trans hw) hop]
 refine ⟨(zfH ha.2).trans hgj,zhX hop (fun o ho=>(zd0 ha.2 o ho).symm) (zcV (fun v h' hk'=>?_) hk)⟩
 rw [zcx (fun _=>hi0)] at hk'
 obtain ⟨y',s3,r1,_,r3⟩:=hk'
 obtain ⟨v4,e4,q6⟩:=zdv (f1:=zau s.f j.c.dst v) (h1:=h') hi q5 (hgi _).symm (hwi _).symm (fun o ho=>(hei _ o ho).symm)
 rw [q6] at r1
 cases r1
 rw [zem hn] at r3
 have e5:zau s.f i.c.dst v1=zau s.f i.c.dst v4:=congrArg St.f e4
 simp only [e5]
 rw [←ze2 fun d hd=>(ha.1 d hd).2]
 exact r3
def swapOK (x y:ICell):Prop:=(x.op.det=true∧y.op.det=true)∨(qQ x.op=1∧y.op.det=true)∨(qQ x.op=0∧qQ y.op=1)∨(qQ x.op=2∧y.op.quiet=true)∨(x.op.quiet=true∧qQ y.op=2)
theorem swap (hne:i.i≠j.i) (ha:apartS j.c i.c) (hsw:swapOK j.c i.c) (hu:un j.i i.i=true) (hK:zg1 K)
  (h:zaW C un j log (fun l s=>zaW C un i l K s) s):zaW C un i log (fun l s=>zaW C un j l K s) s:=by
 have call_of: ∀ {op:IOp},qQ op=1→∃g args,op= .call g args:=by
  intro op h
  cases op<;>simp only [qQ] at h<;>try cases h
  exact ⟨_,_,rfl⟩
 have zdv: ∀ {op:IOp},op.quiet=true→op.det=true:=fun hq=>by
  simp only [IOp.quiet,Bool.and_eq_true,Nat.beq_eq] at hq;exact det_0 hq.1.1
 rcases hsw with ⟨hj1,hi1⟩ | ⟨hj1,hi1⟩ | ⟨hj1,hi1⟩ | ⟨hj2,hi2⟩ | ⟨hj2,hi2⟩
 ·exact zh6 ha (fun _=>hj1) (fun _=>hi1) hu hK h
 ·cases hw:zbS j.c s.f with
  | true=>obtain ⟨g,args,hop⟩:=call_of hj1;exact swap_cd hne ha hi1 hw hop hu hK h
  | false=>exact zh6 ha (fun e=>by rw [hw] at e;cases e) (fun _=>hi1) hu hK h
 ·cases hw:zbS i.c s.f with
  | true=>obtain ⟨g,args,hop⟩:=call_of hi1;exact swap_dc ha hj1 hw hop hu hK h
  | false=>exact zh6 ha (fun _=>det_0 hj1) (fun e=>by rw [hw] at e;cases e) hu hK h
 ·cases hw:zbS j.c s.f with
  | true=>exact swap_aq ha hi2 hw hj2 h
  | false=>exact zh6 ha (fun e=>by rw [hw] at e;cases e) (fun _=>zdv hi2) hu hK h
 ·cases hw:zbS i.c s.f with
  | true=>exact swap_qa ha hj2 hw hi2 h
  | false=>exact zh6 ha (fun _=>zdv hj2) (fun e=>by rw [hw] at e;cases e) hu hK h
theorem wpD_log {K:St→Prop} : ∀(l:List DCell),zg1 fun log s=>wpD C un l log K s
 | []=>fun _ _ _ _ h=>h
 | d::r=>fun l l' s hl h=>stepD_log (wpD_log r) hl h
theorem wpD_take {K:St→Prop} {l2:List DCell} : ∀(l1:List DCell) (log:List Foot) (s:St),(∀j∈l1,apartS j.c i.c∧swapOK j.c i.c∧un j.i i.i=true∧i.i≠j.i)→
  wpD C un (l1++i::l2) log K s→zaW C un i log (fun log' s'=>wpD C un (l1++l2) log' K s') s
 | [],_,_,_,h=>h
 | j::l1,log,s,hl,h=>by
  obtain ⟨h1,h2,h3,h4⟩:=hl j (by simp)
  refine swap h4 h1 h2 h3 (wpD_log (l1++l2)) (zgC (fun log' s' h'=>?_) h)
  exact wpD_take l1 log' s' (fun x hx=>hl x (by simp [hx])) h'
end
end Go.Rh

namespace Go.Rh
section
variable {P:Program} {ops:Array Oper} {a:Act} {w:World} {n:Nat} {φ0:Phi} {h0:List Blk} {w0:World} {φ:Phi} {s:St} {C:zag}
theorem Inv.skip (I:Inv n φ0 h0 w0 φ s a w) (H0:HR φ0 (hf h0) w0) {d:Option Nat} (hd: ∀t,d=some t→t < n):Inv n φ0 h0 w0 φ ⟨zau s.f d undef,s.h⟩ (a.put d undef) w:=
 I.step H0 hd (VR.of_vpf (by rfl)) I.heap (FrC.refl _ _ _)
theorem wp1_sound (hC:zhE P C) (H0:HR φ0 (hf h0) w0) {i:Nat} {o:Oper} (hoi:ops[i]? =some o) (hd:zeC n (zbH P ops o)=true) {K:St→Prop}
  (hK:Sim n φ0 h0 w0 (wp1 C (zbH P ops o) K) a w):OpTo P ops i (Sim n φ0 h0 w0 K) a w:=by
 obtain ⟨φ,s,hK,I⟩:=hK
 have hd':(zbH P ops o).op≠ .bad "guard" →∀t,o.dst=some t→t < n:=by
  intro _ t ht
  unfold zbH zeC at hd
  rcases hg:o.guard with _ | ⟨j,b⟩
  ·simp only [hg,ht] at hd;simpa using hd
  ·simp only [hg] at hd
   cases hj:(ops[j]?).bind (·.dst) with
   | none=>simp only [hj,ht] at hd;simpa using hd
   | some d=>simp only [hj,ht] at hd;simpa using hd
 rcases hg:o.guard with _ | ⟨j,b⟩
 ·have hw:Region.wanted o (yielded ops a.tmps)=true:=by simp [Region.wanted,hg]
  have e:zbH P ops o=⟨o.dst,cOp P o,none⟩:=by unfold zbH;rw [hg]
  rw [e] at hK hd
  have hd2: ∀t,o.dst=some t→t < n:=by
   intro t ht;simp only [zeC,ht] at hd;simpa using hd
  simp only [wp1] at hK
  exact zfj hC H0 hoi hw hd2 I hK
 ·cases hj:(ops[j]?).bind (·.dst) with
  | none=>
   have e:zbH P ops o=⟨o.dst,.bad "guard",none⟩:=by unfold zbH;rw [hg];simp only [hj]
   rw [e] at hK
   simp [wp1,zfD,z8] at hK
  | some d=>
   have e:zbH P ops o=⟨o.dst,cOp P o,some (d,b)⟩:=by unfold zbH;rw [hg];simp only [hj]
   rw [e] at hK hd
   have hd2: ∀t,o.dst=some t→t < n:=by
    intro t ht;simp only [zeC,ht] at hd;simpa using hd
   simp only [wp1] at hK
   split at hK
   ·rename_i x hx
    have hy:=zfJ I hj (by rw [hx];intro _ _ _ h;cases h)
    rw [hx] at hy
    simp only at hy
    split at hK
    ·rename_i hxb
     refine zfj hC H0 hoi ?_ hd2 I hK
     simp [Region.wanted,hg,hy,hxb]
    ·rename_i hxb
     refine OpTo.skip hoi ?_ ⟨φ,_,hK,I.skip H0 hd2⟩
     simp [Region.wanted,hg,hy,hxb]
   ·cases hK
   ·rename_i hx hxj
    have hy:=zfJ I hj hxj
    have hy':yielded ops a.tmps j=none:=by
     rw [hy];split
     ·rename_i y hy2;exact absurd hy2 (hx y)
     ·rfl
    refine OpTo.skip hoi ?_ ⟨φ,_,hK,I.skip H0 hd2⟩
    simp [Region.wanted,hg,hy']
theorem RunsFrom.mono {l:List Nat} {Q Q':Exit→Act→World→Prop} (h:RunsFrom P ops l Q a w) (hq: ∀e a w,Q e a w→Q' e a w):RunsFrom P ops l Q' a w:=
 fun b k cs=>let ⟨e,a',w',q,r⟩:=h b k cs;⟨e,a',w',hq _ _ _ q,r⟩
def QX (n:Nat) (φ0:Phi) (h0:List Blk) (w0:World) (Q:IExit→St→Prop):Exit→Act→World→Prop
 | .normal,a,w=>Sim n φ0 h0 w0 (Q .normal) a w
 | .exit id,a,w=>Sim n φ0 h0 w0 (Q (.exit id)) a w
 | .ret,a,w=>Sim n φ0 h0 w0 (Q .ret) a w
 | .goto l,a,w=>Sim n φ0 h0 w0 (Q (.goto l)) a w
 | _,_,_=>False
theorem zhW (hC:zhE P C) (H0:HR φ0 (hf h0) w0) {Q:IExit→St→Prop} : ∀(l:List Oper) (k:Nat),(∀j,l[j]? =ops[k+j]?)→(l.map (zbH P ops)).all (zeC n)=true→∀a w,
  Sim n φ0 h0 w0 (zbv C (l.map (zbH P ops)) (Q .normal)) a w→RunsFrom P ops (List.range' k l.length) (QX n φ0 h0 w0 Q) a w
 | [],k,_,_,a,w,h=>by
  simp only [List.length_nil,List.range'_zero]
  exact RunsFrom.nil h
 | o::l,k,hl,hwf,a,w,h=>by
  simp only [List.length_cons,List.range'_succ]
  simp only [List.map_cons,List.all_cons,Bool.and_eq_true] at hwf
  refine RunsFrom.cons (wp1_sound hC H0 (by have:=hl 0;simpa using this.symm) hwf.1 (K:=zbv C (l.map (zbH P ops)) (Q .normal)) h) ?_
  intro a1 w1 h1
  refine zhW hC H0 l (k+1) ?_ hwf.2 a1 w1 h1
  intro j
  have:=hl (j+1)
  simp only [List.getElem?_cons_succ] at this
  rw [this];congr 1;omega
theorem zg8 {h:List Blk} {m:Nat} :hf (h++List.replicate m .gone)=hf h:=by
 funext k
 unfold hf
 rcases Nat.lt_or_ge k h.length with hk | hk
 ·rw [List.getElem?_append_left hk]
 ·rw [List.getElem?_append_right hk,List.getElem?_eq_none hk,List.getElem?_replicate]
  split<;>simp_all
theorem FrC.to_drew {h h':List Blk} {φ':Phi} {w':World} (F:FrC φ h w φ' h' w'):FrC φ h w φ' h' w'.drew:=
 ⟨F.size,F.keep,F.os,F.tape,F.output,F.le,F.new,F.len,F.flags⟩
theorem FrC.gone {h h':List Blk} {φ':Phi} {w':World} {m:Nat} (F:FrC φ h w φ' h' w'):FrC φ h w φ' (h'++List.replicate m .gone) w':=
 ⟨F.size,F.keep,F.os,F.tape,F.output,F.le,F.new,by have:=F.len;simp;omega,fun k b b' h1 h2=>by
  have:=z6 h1
  have h3:=F.len
  rw [List.getElem?_append_left om] at h2
  exact F.flags k b b' h1 h2⟩
theorem Does.stepR {o:Oper} {v:Value} {f:Eff} {nid:Nat} (D:Does P o a w φ (hf s.h) nid v f) (hset: ∀k b,f= .set k b→hf s.h k≠none∧b≠ .gone) (hpush: ∀b,f= .push b→s.h[nid]? =some .gone∧b≠ .gone∧b.rw=true):
  ∃φ' v' w',Runs P o a w v' w'∧VR φ' v v'∧HR φ' (hf (f.onR nid s.h)) w'∧FrC φ s.h w φ' (f.onR nid s.h) w':=by
 obtain ⟨φ',v',w',hr,hv,hh,F⟩:=D
 cases f with
 | no=>exact ⟨φ',v',w',hr,hv,hh,FrC.of_fr F (Nat.le_refl _) (fun k b b' h1 h2=>by rw [show Eff.no.onR nid s.h=s.h from rfl,h1] at h2;cases h2;rfl)⟩
 | set k b=>
  obtain ⟨h1,h2⟩:=hset k b rfl
  simp only [Eff.onF] at hh F
  refine ⟨φ',v',w',hr,hv,by simp only [Eff.onR];rw [zg7 _ _ _ (zgU h1) h2];exact hh,FrC.of_fr (by simp only [Eff.onR];rw [zg7 _ _ _ (zgU h1) h2];exact F) (by simp [Eff.onR]) (zgn (F.set_rw h1))⟩
 | push b=>
  obtain ⟨h1,h2,h3⟩:=hpush b rfl
  simp only [Eff.onF] at hh F
  have hlt:=z6 h1
  refine ⟨φ',v',w',hr,hv,by simp only [Eff.onR];rw [zg7 _ _ _ hlt h2];exact hh,FrC.of_fr (by simp only [Eff.onR];rw [zg7 _ _ _ hlt h2];exact F) (by simp [Eff.onR]) (zgn ?_)⟩
  intro b' hb'
  rw [h1] at hb';cases hb';exact h3
theorem cell_dst (o:Oper):(zbH P ops o).dst=o.dst:=by
 unfold zbH
 split
 ·rfl
 ·split<;>rfl
def zbu (r:Bool) (P:Program) (ops:Array Oper) (o:Oper):ICell:=if r then (zbH P ops o).toR else zbH P ops o
theorem ziD (r:Bool) (o:Oper):(zbu r P ops o).dst=o.dst:=by
 unfold zbu;split
 ·exact cell_dst o
 ·exact cell_dst o
theorem ziC (r:Bool) (o:Oper):(zbu r P ops o).guard=(zbH P ops o).guard:=by
 unfold zbu;split<;>rfl
theorem zjD (r:Bool) (o:Oper) (f:Nat→Value):zbS (zbu r P ops o) f=zbS (zbH P ops o) f:=by
 unfold zbS;rw [ziC]
theorem cellX_gJ (r:Bool) (o:Oper) (f:Nat→Value):gJ (zbu r P ops o) f=gJ (zbH P ops o) f:=by
 unfold gJ;rw [ziC]
theorem cellX_wf {r:Bool} {o:Oper} (hd:zeC n (zbu r P ops o)=true): ∀t,o.dst=some t→t < n:=by
 intro t ht
 unfold zeC at hd
 rw [ziD,ht] at hd
 simpa using hd
theorem cellX_op (r:Bool) (o:Oper):(zbu r P ops o).op=(zbH P ops o).op∨∃z m b x y,(zbH P ops o).op= .app z m b x y∧(zbu r P ops o).op= .appR z m b x y:=by
 unfold zbu;split
 ·simp only [ICell.toR]
  cases (zbH P ops o).op<;>simp [IOp.toR]
 ·exact .inl rfl
theorem not_appR {o:Oper} {z:RL} {m b:Nat} {x y:Opd} (h:cOp P o= .appR z m b x y):False:=by
 rcases zfR (P:=P) (o:=o) h (by simp [qQ]) with h | h | h | h | h | h | h | h | h | h | h<;>simp at h
theorem appE_nid {z:RL} {size bytes nid nid' c:Nat} {s x v:Value} {e:Eff} {h:Nat→Option Blk} (hs:appE z size bytes s x h nid c=some (v,e)) (he: ∀b,e≠ .push b):appE z size bytes s x h nid' c=some (v,e):=by
 unfold appE at hs ⊢
 split at hs<;>try cases hs
 split at hs<;>try cases hs
 split at hs
 ·rename_i hr;rw [if_pos hr];exact hs
 ·split at hs
  ·cases hs;exact absurd rfl (he _)
  ·cases hs
theorem stepD_sound (hC:zhE P C) (H0:HR φ0 (hf h0) w0) {r:Bool} {i nid:Nat} {o:Oper} (hoi:ops[i]? =some o) (hd:zeC n (zbu r P ops o)=true) {un:Nat→Nat→Bool} {log:List Foot} {K:List Foot→St→Prop}
  (I:Inv n φ0 h0 w0 φ s a w) (hK:zaW C un ⟨i,nid,zbu r P ops o⟩ log K s):OpTo P ops i (Sim n φ0 h0 w0 fun s=> ∃log,K log s) a w:=by
 have hd2:=cellX_wf hd
 have he:=I.ev
 -- the operation,wanted
 have run:zbH P ops o=⟨o.dst,cOp P o,(zbH P ops o).guard⟩→Region.wanted o (yielded ops a.tmps)=true→zbS (zbH P ops o) s.f=true→OpTo P ops i (Sim n φ0 h0 w0 fun s=> ∃log,K log s) a w:=by
  intro hc hw hwt
  unfold zaW at hK
  split at hK
  ·cases hK
  simp only [zjD,hwt,if_true] at hK
  have hop:(zbH P ops o).op=cOp P o:=by rw [hc]
  have hdst:(zbu r P ops o).dst=o.dst:=ziD r o
  rcases cellX_op (P:=P) (ops:=ops) r o with hx | ⟨z,m,b,x,y,hx1,hx2⟩
  rotate_left
  ·-- an append at its place
   rw [hx2,hdst] at hK
   rw [hop] at hx1
   have hsi:=zfR (P:=P) (o:=o) hx1 (by simp [qQ])
   simp only at hK
   have hA: ∃m',hf s.h m'=none∧appK z m b (evf s.f x) (evf s.f y) (fun v e=>(∀b,e= .push b→m'=nid∧s.h[nid]? =some .gone)∧∃log,K log ⟨zau s.f o.dst v,e.onR nid s.h⟩) (hf s.h) m':=by
    by_cases hg:s.h[nid]? =some .gone
    ·refine ⟨nid,zcB hg,appK_of fun c=>?_⟩
     have:=hK c
     split at this
     ·rename_i v e hq;exact ⟨v,e,hq,fun _ _=>⟨rfl,hg⟩,_,this.2.2⟩
     ·exact this.elim
    ·refine ⟨s.h.length,zdx _,appK_of fun c=>?_⟩
     have:=hK c
     split at this
     ·rename_i v e hq
      have hnp: ∀b,e≠ .push b:=fun b hb=>by subst hb;exact hg this.1
      exact ⟨v,e,appE_nid hq hnp,fun b hb=>absurd hb (hnp b),_,this.2.2⟩
     ·exact this.elim
   obtain ⟨m',hm,hA⟩:=hA
   have hdo: ∃v f,((∀b,f= .push b→m'=nid∧s.h[nid]? =some .gone)∧∃log,K log ⟨zau s.f o.dst v,f.onR nid s.h⟩)∧Does P o a w φ (hf s.h) m' v f∧(∀k b,f= .set k b→hf s.h k≠none∧b≠ .gone)∧(∀b,f= .push b→b≠ .gone∧b.rw=true):=by
    rcases hsi with h | h | h | h | h | h | h | h | h | h | h
    ·exfalso;simp at h
    ·obtain ⟨x0,y0,x',y',st,xt,el,it,z',h1,h2,h3,h4,h5,h6,h7,h8,h9⟩:=h
     cases h9
     exact app_does he I.heap hm h1 h2 h3 h4 h5 h6 h7 h8 hA
    ·exfalso;simp at h
    ·exfalso;simp at h
    ·exfalso;simp at h
    ·exfalso;simp at h
    ·exfalso;simp at h
    ·exfalso;simp at h
    ·exfalso;simp at h
    ·exfalso;simp at h
    ·obtain ⟨x0,mm,x',st,xt,el,k,it,h1,h2,h3,h4,h5,h6,h7,h8,h9,h10⟩:=h
     cases h10
     exact app0_does he I.heap hm h1 h2 h3 h4 h5 h6 h7 h8 h9 hA
   obtain ⟨v,f,⟨k1,lg,k2⟩,D,k3,k4⟩:=hdo
   obtain ⟨φ',v',w',hr,q2,q3,q4⟩:=D.stepR k3 (fun b hb=>⟨by rw [(k1 b hb).1];exact (k1 b hb).2,(k4 b hb).1,(k4 b hb).2⟩)
   have he2:f.onR m' s.h=f.onR nid s.h:=by
    cases f with
    | push b=>rw [(k1 b rfl).1]
    | _=>rfl
   rw [he2] at q3 q4
   exact OpTo.runs hoi hw hr ⟨φ',_,⟨lg,k2⟩,I.step H0 hd2 q2 q3 q4⟩
  rw [hx,hop,hdst] at hK
  split at hK
  ·rename_i g args hcop
   refine zfj (K:=fun s=> ∃log,K log s) hC H0 hoi hw hd2 I ?_
   rw [hcop]
   simp only [zfD]
   obtain ⟨sel,h1,a1,R,h2,h3,h4,h5,h6,h7,h8,h9⟩:=hK
   exact ⟨sel,h1,a1,R,h2,h3,h4,h5,h6,fun v h1' a b c=>⟨(h9 v h1' a b c).1,_,(h9 v h1' a b c).2⟩⟩
  ·rename_i hq;exact (not_appR hq).elim
  ·split at hK
   ·split at hK
    ·rename_i v e hs
     obtain ⟨hok,_,hk⟩:=hK
     have hs': ∃m,hf s.h m=none∧z8 (cOp P o) (evf s.f) (hf s.h) m=some (v,e)∧(∀b,e= .push b→m=nid):=by
      cases hm:(cOp P o).makes with
      | true=>
       obtain ⟨b,rfl⟩:=zib hm hs
       exact ⟨nid,zcB hok,hs,fun _ _=>rfl⟩
      | false=>exact ⟨s.h.length,zdx _,by rw [zia hm (n':=nid)];exact hs,fun b e=>by subst e;have:=(zfk hs).2.2;rw [hm] at this;cases this⟩
     obtain ⟨m,hm,hsm,hpm⟩:=hs'
     obtain ⟨φ',v',w',hr,k2,k3,k4⟩:=(zjh (P:=P) (o:=o) he I.heap hm hsm).stepR (fun k b e=>zf6 (e▸hs)) (fun b e=>by
      subst e
      refine ⟨?_,(zfk hs).1,(zfk hs).2.1⟩
      rw [hpm b rfl];exact hok)
     have he2:e.onR m s.h=e.onR nid s.h:=by
      cases e with
      | push b=>rw [hpm b rfl]
      | _=>rfl
     rw [he2] at k3 k4
     exact OpTo.runs hoi hw hr ⟨φ',_,⟨_,hk⟩,I.step H0 hd2 k2 k3 k4⟩
    ·cases hK
   ·refine zfj (K:=fun s=> ∃log,K log s) hC H0 hoi hw hd2 I ?_
    exact zcV (fun v h hk=>⟨log,hk⟩) hK
 have skip:Region.wanted o (yielded ops a.tmps)=false→zbS (zbH P ops o) s.f=false→OpTo P ops i (Sim n φ0 h0 w0 fun s=> ∃log,K log s) a w:=by
  intro hw hwt
  unfold zaW at hK
  split at hK
  ·cases hK
  simp only [zjD,hwt,Bool.false_eq_true,if_false,ziD] at hK
  exact OpTo.skip hoi hw ⟨φ,_,⟨log,hK⟩,I.skip H0 hd2⟩
 rcases hg:o.guard with _ | ⟨j,b⟩
 ·have e:zbH P ops o=⟨o.dst,cOp P o,none⟩:=by unfold zbH;rw [hg]
  exact run (by rw [e]) (by simp [Region.wanted,hg]) (by rw [e];rfl)
 ·cases hj:(ops[j]?).bind (·.dst) with
  | none=>
   have e:zbH P ops o=⟨o.dst,.bad "guard",none⟩:=by unfold zbH;rw [hg];simp only [hj]
   have e2:zbu r P ops o=⟨o.dst,.bad "guard",none⟩:=by unfold zbu;rw [e];simp [ICell.toR,IOp.toR]
   rw [e2] at hK
   simp [zaW,zbS,gJ,qQ,z8] at hK
  | some d=>
   have e:zbH P ops o=⟨o.dst,cOp P o,some (d,b)⟩:=by unfold zbH;rw [hg];simp only [hj]
   have hnj: ∀k r i,s.f d≠ .complex k r i:=by
    intro k r i hx
    unfold zaW at hK
    rw [if_pos (by simp only [cellX_gJ];rw [e];simp [gJ,hx])] at hK
    exact hK
   have hy:=zfJ I hj hnj
   have key:Region.wanted o (yielded ops a.tmps)=zbS (zbH P ops o) s.f:=by
    rw [e]
    simp only [Region.wanted,hg,zbS,hy]
    cases s.f d with
    | bool x=>cases x<;>cases b<;>rfl
    | _=>rfl
   cases hwt:zbS (zbH P ops o) s.f with
   | true=>exact run (by rw [e]) (key.trans hwt) hwt
   | false=>exact skip (key.trans hwt) hwt
theorem Sim.mono {K K':St→Prop} (h:Sim n φ0 h0 w0 K a w) (hk: ∀s,K s→K' s):Sim n φ0 h0 w0 K' a w:=let ⟨φ,s,h1,h2⟩:=h;⟨φ,s,hk _ h1,h2⟩
theorem zgA: ∀ {l:List ICell} {i nid k:Nat} {d:DCell},(zbI i nid l)[k]? =some d→d.i=i+k∧l[k]? =some d.c
 | [],_,_,_,_,h=>by simp [zbI] at h
 | c::l,i,nid,0,d,h=>by simp [zbI] at h;subst h;simp
 | c::l,i,nid,k+1,d,h=>by
  simp only [zbI,List.getElem?_cons_succ] at h
  obtain ⟨h1,h2⟩:=zgA h
  exact ⟨om,by simpa using h2⟩
theorem zfg: ∀ {l:List ICell} {i nid:Nat},(zbI i nid l).length=l.length
 | [],_,_=>rfl
 | c::l,i,nid=>by simp [zbI,zfg (l:=l)]
theorem zg0 {l:List Nat} {q:Nat} :l.any (Nat.beq q)=true↔q∈l:=by
 simp only [List.any_eq_true,Nat.beq_eq]
 constructor
 ·rintro ⟨x,h1,rfl⟩;exact h1
 ·intro h;exact ⟨q,h,rfl⟩
theorem pairOK_spec {x y:ICell} (h:pairOK x y=true):apartS x y∧swapOK x y:=by
 unfold pairOK at h
 simp only [Bool.and_eq_true] at h
 obtain ⟨⟨h3,h4⟩,h5⟩:=h
 refine ⟨⟨?_, ?_⟩, ?_⟩
 ·intro d hd
  rw [hd] at h4
  simp only [Bool.and_eq_true,Bool.not_eq_true'] at h4
  refine ⟨fun hx=>(by rw [zg0.2 hx] at h4;cases h4.1),fun hy=>?_⟩
  rw [hy] at h4
  have:=h4.2
  simp at this
 ·intro d hd hx
  rw [hd] at h5
  simp only [Bool.not_eq_true'] at h5
  rw [zg0.2 hx] at h5;cases h5
 ·simp only [Bool.or_eq_true,Bool.and_eq_true,Bool.not_eq_true',Nat.ble_eq,Nat.beq_eq] at h3
  rcases h3 with (((⟨h1,h2⟩ | ⟨h1,h2⟩) | ⟨h1,h2⟩) | ⟨h1,h2⟩) | ⟨h1,h2⟩
  ·exact .inl ⟨h1,h2⟩
  ·exact .inr (.inl ⟨h1,h2⟩)
  ·exact .inr (.inr (.inl ⟨h1,h2⟩))
  ·exact .inr (.inr (.inr (.inl ⟨h1,h2⟩)))
  ·exact .inr (.inr (.inr (.inr ⟨h1,h2⟩)))
theorem dchk_spec {cells:List ICell} {af anc:List (List Nat)} (h:dchk cells af anc=true):(af.length=cells.length∧anc.length=cells.length)∧∀i,i < cells.length→
  (∀p∈af.getD i [],p < i)∧(∀q∈anc.getD i [],q < i∧(q∈af.getD i []∨∃p∈af.getD i [],q∈anc.getD p []))∧∀j,j < i→j∈anc.getD i []∨pairOK (cells.getD j default) (cells.getD i default)=true:=by
 unfold dchk at h
 simp only [Bool.and_eq_true,List.all_eq_true,List.mem_range,Bool.or_eq_true,Nat.beq_eq,Nat.blt_eq,zg0] at h
 refine ⟨h.1,fun i hi=>?_⟩
 obtain ⟨⟨h1,h2⟩,h3⟩:=h.2 i hi
 refine ⟨h1,fun q hq=>⟨(h2 q hq).1, ?_⟩,h3⟩
 rcases (h2 q hq).2 with h | h
 ·exact .inl h
 ·rw [List.any_eq_true] at h
  obtain ⟨p,h4,h5⟩:=h
  exact .inr ⟨p,h4,zg0.1 h5⟩
theorem getD_set {l:Array Bool} {i p:Nat} (hi:i < l.size):(l.setIfInBounds i true).getD p true=if p=i then true else l.getD p true:=by
 simp only [Array.getD_eq_getD_getElem?,Array.getElem?_setIfInBounds]
 by_cases h:i=p
 ·subst h;simp [hi]
 ·simp [h,Ne.symm h]
theorem DCell.eta {d:DCell} {i:Nat} {c:ICell} (h1:d.i=i) (h2:d.c=c):d=⟨i,d.nid,c⟩:=by
 cases d;simp_all
theorem drawn (hC:zhE P C) (H0:HR φ0 (hf h0) w0) {Q:IExit→St→Prop} {r:Bool} {af anc:List (List Nat)} {B:Nat} (hchk:dchk (ops.toList.map (zbu r P ops)) af anc=true)
  (haf:af=ops.toList.map fun o=>(o.after.toList.filter (Region.binds .any)).map (·.on)) (hwf:(ops.toList.map (zbu r P ops)).all (zeC n)=true):
  ∀(fuel t:Nat) (listed:Array Bool) (a:Act) (w:World),listed.size=ops.size→
   (∀i,i < ops.size→listed.getD i true=true→∀p∈anc.getD i [],listed.getD p true=true)→
   ((zbI 0 B (ops.toList.map (zbu r P ops))).filter fun d=> !listed.getD d.i true).length≤fuel→
   Sim n φ0 h0 w0 (fun s=> ∃log,wpD C (unA anc) ((zbI 0 B (ops.toList.map (zbu r P ops))).filter fun d=> !listed.getD d.i true) log (Q .normal) s) a w→
   RunsFrom P ops (Region.linearise.go .any ops fuel t listed []) (QX n φ0 h0 w0 Q) a w:=by
 obtain ⟨⟨hal,hanl⟩,hspec⟩:=dchk_spec hchk
 have hlen:(ops.toList.map (zbu r P ops)).length=ops.size:=by simp
 intro fuel
 induction fuel with
 | zero=>
  intro t listed a w hsz hdown hf hS
  have:((zbI 0 B (ops.toList.map (zbu r P ops))).filter fun d=> !listed.getD d.i true)= []:=List.eq_nil_of_length_eq_zero om
  rw [this] at hS
  exact RunsFrom.nil (hS.mono fun s ⟨_,h⟩=>h)
 | succ fuel ih=>
  intro t listed a w hsz hdown hf hS
  simp only [Region.linearise.go]
  change RunsFrom P ops (match (Region.ready .any ops listed)[t % (Region.ready .any ops listed).length]? with
   | some i=>Region.linearise.go .any ops fuel (t / (Region.ready .any ops listed).length) (listed.setIfInBounds i true) [i]
   | none=> [].reverse) _ a w
  have haf_mem: ∀ {i:Nat} {o:Oper},ops[i]? =some o→∀e∈o.after.toList,Region.binds .any e=true→e.on∈af.getD i []:=by
   intro i o hoi e he hb
   have:af[i]? =some ((o.after.toList.filter (Region.binds .any)).map (·.on)):=by
    rw [haf];simp [hoi]
   rw [List.getD_eq_getElem?_getD,this]
   exact List.mem_map.2 ⟨e,List.mem_filter.2 ⟨he,hb⟩,rfl⟩
  have hidx: ∀d∈zbI 0 B (ops.toList.map (zbu r P ops)),d.i < ops.size:=by
   intro d hd
   obtain ⟨k,hk⟩:=List.mem_iff_getElem?.1 hd
   obtain ⟨h1,h2⟩:=zgA hk
   have:=z6 h2
   omega
  cases hi:(Region.ready .any ops listed)[t % (Region.ready .any ops listed).length]? with
  | none=>
   have hnil:Region.ready .any ops listed= []:=by
    cases hr:Region.ready .any ops listed with
    | nil=>rfl
    | cons x xs=>
     rw [hr] at hi
     have hlt:t % (x::xs).length < (x::xs).length:=Nat.mod_lt _ (by simp)
     rw [List.getElem?_eq_getElem hlt] at hi;cases hi
   have hall: ∀i,i < ops.size→listed.getD i true=true:=by
    intro i
    induction i using Nat.strongRecOn with
    | _ i ihi=>
     intro his
     cases hli:listed.getD i true with
     | true=>rfl
     | false=>
      have:i∈Region.ready .any ops listed:=by
       unfold Region.ready
       refine List.mem_filter.2 ⟨List.mem_range.2 his, ?_⟩
       have hoi:ops[i]? =some ops[i]:=by simp [his]
       rw [hli,hoi]
       simp only [Bool.not_false,Bool.true_and,Option.map_some,Option.getD_some,Array.all_eq_true']
       intro e he
       cases hb:Region.binds .any e with
       | false=>rfl
       | true=>
        have hm:=haf_mem hoi e (by simpa using he) hb
        have hlt:=(hspec i om).1 _ hm
        have:=ihi _ hlt om
        have hs2:e.on < listed.size:=om
        rw [Array.getD_eq_getD_getElem?] at this ⊢
        simp only [hs2,getElem?_pos,Option.getD_some] at this ⊢
        simp [this]
      rw [hnil] at this;cases this
   have:((zbI 0 B (ops.toList.map (zbu r P ops))).filter fun d=> !listed.getD d.i true)= []:=by
    refine List.filter_eq_nil_iff.2 fun d hd=>?_
    rw [hall _ (hidx d hd)];simp
   rw [this] at hS
   exact RunsFrom.nil (hS.mono fun s ⟨_,h⟩=>h)
  | some i=>
   have hmem:=List.mem_of_getElem? hi
   unfold Region.ready at hmem
   rw [List.mem_filter,List.mem_range] at hmem
   obtain ⟨his,hrd⟩:=hmem
   have hoi:ops[i]? =some ops[i]:=by simp [his]
   rw [hoi] at hrd
   simp only [Bool.and_eq_true,Bool.not_eq_true',Option.map_some,Option.getD_some,Array.all_eq_true'] at hrd
   obtain ⟨hli,hpre⟩:=hrd
   simp only []
   rw [linearise_go_acc,List.reverse_singleton,List.singleton_append]
   have haflist: ∀p∈af.getD i [],listed.getD p true=true:=by
    intro p hp
    have hplt:=(hspec i om).1 p hp
    have:af[i]? =some ((ops[i].after.toList.filter (Region.binds .any)).map (·.on)):=by
     rw [haf];simp [hoi]
    rw [List.getD_eq_getElem?_getD,this] at hp
    simp only [Option.getD_some,List.mem_map,List.mem_filter] at hp
    obtain ⟨e,⟨h1,h2⟩,rfl⟩:=hp
    have h3:=hpre e (by simpa using h1)
    rw [h2] at h3
    have hs2:e.on < listed.size:=om
    rw [Array.getD_eq_getD_getElem?] at h3 ⊢
    simp only [hs2,getElem?_pos,Option.getD_some,Bool.not_true,Bool.false_or] at h3 ⊢
    exact h3
   have hanc: ∀q∈anc.getD i [],listed.getD q true=true:=by
    intro q hq
    rcases ((hspec i om).2.1 q hq).2 with h | ⟨p,h1,h2⟩
    ·exact haflist q h
    ·have:=(hspec i om).1 p h1
     exact hdown p om (haflist p h1) q h2
   -- the list,taken apart
   have hLl:(zbI 0 B (ops.toList.map (zbu r P ops))).length=ops.size:=by rw [zfg];exact hlen
   generalize hL:zbI 0 B (ops.toList.map (zbu r P ops))=L at*
   have hget: ∀ {k:Nat} {d:DCell},L[k]? =some d→d.i=k∧(ops.toList.map (zbu r P ops))[k]? =some d.c:=by
    intro k d h;rw [←hL] at h;obtain ⟨h1,h2⟩:=zgA h;exact ⟨om,h2⟩
   have hLi:L[i]? =some (L[i]'om):=by simp [show i < L.length by omega]
   obtain ⟨nid,hd⟩: ∃nid,L[i]'om=⟨i,nid,zbu r P ops ops[i]⟩:=by
    obtain ⟨h1,h2⟩:=hget hLi
    refine ⟨(L[i]'om).nid, ?_⟩
    simp [hoi] at h2
    exact DCell.eta h1 h2.symm
   have hsplit:L=L.take i++⟨i,nid,zbu r P ops ops[i]⟩::L.drop (i+1):=by
    rw [←hd];simp
   have hbefore: ∀d∈L.take i,d.i < i∧(ops.toList.map (zbu r P ops))[d.i]? =some d.c:=by
    intro d hd
    obtain ⟨k,hk⟩:=List.mem_iff_getElem?.1 hd
    rw [List.getElem?_take] at hk
    split at hk<;>try cases hk
    obtain ⟨h1,h2⟩:=hget hk
    subst h1
    exact ⟨by assumption,h2⟩
   have hafter: ∀d∈L.drop (i+1),i < d.i:=by
    intro d hd
    obtain ⟨k,hk⟩:=List.mem_iff_getElem?.1 hd
    rw [List.getElem?_drop] at hk
    obtain ⟨h1,h2⟩:=hget hk
    omega
   have hf1:(L.filter fun d=> !listed.getD d.i true)=(L.take i).filter (fun d=> !listed.getD d.i true)++⟨i,nid,zbu r P ops ops[i]⟩::(L.drop (i+1)).filter (fun d=> !listed.getD d.i true):=by
    conv=>lhs;rw [hsplit]
    rw [List.filter_append,List.filter_cons]
    simp [hli]
   have hsame: ∀d:DCell,d.i≠i→(!(listed.setIfInBounds i true).getD d.i true)= !listed.getD d.i true:=by
    intro d hd;rw [getD_set om,if_neg hd]
   have hf2:(L.filter fun d=> !(listed.setIfInBounds i true).getD d.i true)=(L.take i).filter (fun d=> !listed.getD d.i true)++(L.drop (i+1)).filter (fun d=> !listed.getD d.i true):=by
    conv=>lhs;rw [hsplit]
    rw [List.filter_append,List.filter_cons]
    have:(!(listed.setIfInBounds i true).getD i true)=false:=by rw [getD_set om];simp
    simp only [this,Bool.false_eq_true,if_false]
    congr 1
    ·exact List.filter_congr fun d hd=>hsame d (by have:=(hbefore d hd).1;omega)
    ·exact List.filter_congr fun d hd=>hsame d (by have:=hafter d hd;omega)
   refine RunsFrom.cons (K:=Sim n φ0 h0 w0 fun s=> ∃log,wpD C (unA anc) (L.filter fun d=> !(listed.setIfInBounds i true).getD d.i true) log (Q .normal) s) ?_ ?_
   ·obtain ⟨φ,s,⟨log,hwp⟩,I⟩:=hS
    rw [hf1] at hwp
    rw [hf2]
    have hwc:zeC n (zbu r P ops ops[i])=true:=List.all_eq_true.1 hwf _ (List.mem_map.2 ⟨ops[i],by simp,rfl⟩)
    refine stepD_sound hC H0 hoi hwc I (wpD_take _ _ _ ?_ hwp)
    intro j hj
    rw [List.mem_filter] at hj
    obtain ⟨hj1,hj2⟩:=hj
    obtain ⟨hjlt,hjc⟩:=hbefore j hj1
    have hnot:j.i∉anc.getD i []:=fun h=>by have:=hanc _ h;rw [this] at hj2;cases hj2
    have hpair:=((hspec i om).2.2 j.i hjlt).resolve_left hnot
    rw [List.getD_eq_getElem?_getD,hjc,List.getD_eq_getElem?_getD] at hpair
    have hic:(ops.toList.map (zbu r P ops))[i]? =some (zbu r P ops ops[i]):=by simp [hoi]
    rw [hic] at hpair
    obtain ⟨p1,p2⟩:=pairOK_spec hpair
    refine ⟨p1,p2, ?_, ?_⟩
    rotate_left
    ·show i≠j.i;omega
    unfold unA
    have h1:((anc.getD j.i []).any (Nat.beq i))=false:=by
     cases h:(anc.getD j.i []).any (Nat.beq i) with
     | false=>rfl
     | true=>have:=((hspec j.i om).2.1 i (zg0.1 h)).1;omega
    have h2:((anc.getD i []).any (Nat.beq j.i))=false:=by
     cases h:(anc.getD i []).any (Nat.beq j.i) with
     | false=>rfl
     | true=>exact absurd (zg0.1 h) hnot
    rw [h1,h2,(Nat.blt_eq.symm▸(show j.i < anc.length by rw [hanl];omega):Nat.blt j.i anc.length=true),(Nat.blt_eq.symm▸(show i < anc.length by rw [hanl];simp;omega):Nat.blt i anc.length=true)];rfl
   ·intro a1 w1 hS1
    refine ih _ _ a1 w1 (by simp [hsz]) ?_ ?_ hS1
    ·intro k hk hkl p hp
     rw [getD_set om] at hkl ⊢
     by_cases hpi:p=i
     ·simp [hpi]
     ·rw [if_neg hpi]
      by_cases hki:k=i
      ·subst hki;exact hanc p hp
      ·rw [if_neg hki] at hkl;exact hdown k hk hkl p hp
    ·rw [hf2];rw [hf1] at hf;simp at hf ⊢;omega
theorem zfo {l:Nat} : ∀ {c:IC},l∉zfA c→zip l c=none
 | .seq a b,h=>by
  simp only [zfA,List.mem_append,not_or] at h
  simp only [zip,zfo h.1,zfo h.2]
 | .label l',h=>by
  simp only [zfA,List.mem_singleton] at h
  simp only [zip,if_neg (show¬l'=l from fun e=>h e.symm)]
 | .skip,_ | .reg _,_ | .dreg _ _,_ | .cond _ _ _,_ | .block _ _,_ | .loop _,_ | .exit _,_ | .ret,_ | .goto _,_ | .scp _ _ _,_ | .bad _,_=>rfl
theorem spine_mk (b:IC):zfA (mkScope b)= []:=by
 unfold mkScope
 split
 ·assumption
 ·split<;>rfl
 ·rfl
theorem zd4 {l:Nat} : ∀ {c:Code},(∀r,findLabel c l=some r→zip l (zb2 P c)=some (zb2 P r))∧(findLabel c l=none→l∉zfA (zb2 P c))
 | .seq x y=>by
  have hx:=zd4 (l:=l) (c:=x)
  have hy:=zd4 (l:=l) (c:=y)
  constructor
  ·intro r h
   simp only [findLabel] at h
   split at h
   ·rename_i r1 h1
    cases h
    simp only [zb2,zip,hx.1 r1 h1]
   ·rename_i h1
    simp only [zb2,zip,zfo (hx.2 h1)]
    exact hy.1 r h
  ·intro h hm
   simp only [findLabel] at h
   split at h
   ·cases h
   ·rename_i h1
    simp only [zb2,zfA,List.mem_append] at hm
    rcases hm with hm | hm
    ·exact hx.2 h1 hm
    ·exact hy.2 h hm
 | .label l'=>by
  constructor
  ·intro r h
   simp only [findLabel] at h
   split at h
   ·rename_i hl
    cases h
    simp only [zb2,zip,if_pos (show l'=l by simpa using hl)]
   ·cases h
  ·intro h hm
   simp only [findLabel] at h
   split at h
   ·cases h
   ·rename_i hl
    simp only [zb2,zfA,List.mem_singleton] at hm
    exact hl (by simp [hm])
 | .scope b=>⟨fun r h=>by simp [findLabel] at h,fun _=>by simp only [zb2,spine_mk];simp⟩
 | .region id ops draw=>⟨fun r h=>by simp [findLabel] at h,fun _=>by
   simp only [zb2];split
   ·split
    ·simp [zfA]
    ·split<;>simp [zfA]
   ·simp [zfA]⟩
 | .cond c x y=>⟨fun r h=>by simp [findLabel] at h,fun _=>by simp only [zb2];split<;>simp [zfA]⟩
 | .skip | .block _ _ | .loop _ | .exit _ | .ret | .goto _ | .refuse _ | .rangeFunc .. =>⟨fun r h=>by simp [findLabel] at h,fun _=>by simp [zb2,zfA]⟩
theorem zji {l:Nat} {c:Code} (h:l∉zfA (zb2 P c)):findLabel c l=none:=by
 cases hf:findLabel c l with
 | none=>rfl
 | some r=>have:=(zd4 (P:=P)).1 r hf;rw [zfo h] at this;cases this
theorem ziA {l:Nat} : ∀ {c r:Code},findLabel c l=some r→SizeOf.sizeOf r≤SizeOf.sizeOf c
 | .seq x y,r,h=>by
  simp only [findLabel] at h
  split at h
  ·rename_i r1 h1
   cases h
   have:=ziA h1
   simp;omega
  ·have:=ziA h
   simp;omega
 | .label l',r,h=>by
  simp only [findLabel] at h
  split at h
  ·cases h;simp
  ·cases h
theorem wp_scope_pass {Q:Exit→Act→World→Prop} {c:Code} (hn: ∀l,findLabel c l=none) (h:c.wp P Q a w):(Code.scope c).wp P Q a w:=by
 intro b k cs
 obtain ⟨e,a₁,w₁,hq,harr⟩:=h b (.inScope c::k) cs
 cases e with
 | normal=>exact ⟨.normal,a₁,w₁,hq,.head step_scope (Steps.trans harr (.one step_inScope))⟩
 | exit id=>exact ⟨.exit id,a₁,w₁,hq,fun k' hk=> .head step_scope (harr k' (by simp [exitTo,hk]))⟩
 | goto l=>exact ⟨.goto l,a₁,w₁,hq,fun k' hk=> .head step_scope (harr k' (by simp [gotoIn,hn l,hk]))⟩
 | ret=>exact ⟨_,a₁,w₁,hq,.of_steps (.one step_scope) harr⟩
 | panic ch=>exact ⟨_,a₁,w₁,hq,.of_steps (.one step_scope) harr⟩
 | outgrown=>exact ⟨_,a₁,w₁,hq,.of_steps (.one step_scope) harr⟩
theorem zi7 {Q:Exit→Act→World→Prop} {c rest:Code} (l:Nat) (J:Nat→Act→World→Prop) (hf:findLabel c l=some rest) (hn: ∀l',l'≠l→findLabel c l'=none)
  (first:c.wp P (fun e a w=>match e with | .goto i=>if i=l then∃m,J m a w else Q (.goto i) a w | e=>Q e a w) a w)
  (pass: ∀n a w,J n a w→rest.wp P (fun e a w=>match e with | .goto i=>if i=l then∃m,m < n∧J m a w else Q (.goto i) a w | e=>Q e a w) a w):(Code.scope c).wp P Q a w:=by
 intro b k cs
 have hg:gotoIn l (.inScope c::k)=some (.code rest:: .inScope c::k):=by simp [gotoIn,hf]
 have key: ∀n a w,J n a w→∃e a' w',Q e a' w'∧Arrives P (lone (b.at a (.code rest:: .inScope c::k)) cs w) b k cs e a' w':=by
  intro n
  induction n using Nat.strongRecOn with
  | _ n ih=>
   intro a w hJ
   obtain ⟨e,a₁,w₁,hq,harr⟩:=pass n a w hJ b (.inScope c::k) cs
   cases e with
   | normal=>exact ⟨.normal,a₁,w₁,hq,Steps.trans harr (.one step_inScope)⟩
   | exit id=>exact ⟨.exit id,a₁,w₁,hq,fun k' hk=>harr k' (by simp [exitTo,hk])⟩
   | goto l'=>
    simp only at hq
    split at hq
    ·rename_i hl
     subst hl
     obtain ⟨m,hm,hJ'⟩:=hq
     obtain ⟨e₂,a₂,w₂,hq₂,harr₂⟩:=ih m hm a₁ w₁ hJ'
     exact ⟨e₂,a₂,w₂,hq₂,.of_steps (harr _ hg) harr₂⟩
    ·rename_i hl
     exact ⟨.goto l',a₁,w₁,hq,fun k' hk=>harr k' (by simp [gotoIn,hn l' hl,hk])⟩
   | ret=>exact ⟨_,a₁,w₁,hq,harr⟩
   | panic ch=>exact ⟨_,a₁,w₁,hq,harr⟩
   | outgrown=>exact ⟨_,a₁,w₁,hq,harr⟩
 obtain ⟨e,a₁,w₁,hq,harr⟩:=first b (.inScope c::k) cs
 cases e with
 | normal=>exact ⟨.normal,a₁,w₁,hq,.head step_scope (Steps.trans harr (.one step_inScope))⟩
 | exit id=>exact ⟨.exit id,a₁,w₁,hq,fun k' hk=> .head step_scope (harr k' (by simp [exitTo,hk]))⟩
 | goto l'=>
  simp only at hq
  split at hq
  ·rename_i hl
   subst hl
   obtain ⟨m,hJ'⟩:=hq
   obtain ⟨e₂,a₂,w₂,hq₂,harr₂⟩:=key m a₁ w₁ hJ'
   exact ⟨e₂,a₂,w₂,hq₂,.of_steps (.head step_scope (harr _ hg)) harr₂⟩
  ·rename_i hl
   exact ⟨.goto l',a₁,w₁,hq,fun k' hk=> .head step_scope (harr k' (by simp [gotoIn,hn l' hl,hk]))⟩
 | ret=>exact ⟨_,a₁,w₁,hq,.of_steps (.one step_scope) harr⟩
 | panic ch=>exact ⟨_,a₁,w₁,hq,.of_steps (.one step_scope) harr⟩
 | outgrown=>exact ⟨_,a₁,w₁,hq,.of_steps (.one step_scope) harr⟩
theorem zbN (hC:zhE P C) (H0:HR φ0 (hf h0) w0): ∀(c:Code) (Q:IExit→St→Prop) (a:Act) (w:World),wfC n (zb2 P c)=true→Sim n φ0 h0 w0 (wpC C h0.length (zb2 P c) Q) a w→c.wp P (QX n φ0 h0 w0 Q) a w
 | .skip,Q,a,w,_,h=>wp_skip h
 | .region id ops draw,Q,a,w,hwf,h=>by
  cases draw with
  | true=>
   have go: ∀(r:Bool),P.follows .mixedOrders=true→dchk (ops.toList.map (zbu r P ops)) (ops.toList.map fun o=>(o.after.toList.filter (Region.binds .any)).map (·.on)) (ancs (ops.toList.map fun o=>(o.after.toList.filter (Region.binds .any)).map (·.on)))=true→
     wfC n (.dreg (ops.toList.map (zbu r P ops)) (ancs (ops.toList.map fun o=>(o.after.toList.filter (Region.binds .any)).map (·.on))))=true→
     Sim n φ0 h0 w0 (wpC C h0.length (.dreg (ops.toList.map (zbu r P ops)) (ancs (ops.toList.map fun o=>(o.after.toList.filter (Region.binds .any)).map (·.on)))) Q) a w→(Code.region id ops true).wp P (QX n φ0 h0 w0 Q) a w:=by
    intro r hmix hchk hwf h
    simp only [wpC] at h
    simp only [wfC] at hwf
    refine zfL fun t=>?_
    simp only [Region.schedule,hmix,Bool.true_or,if_true,Region.linearise]
    obtain ⟨φ,s,h,I⟩:=h
    refine drawn (r:=r) (B:=s.h.length) hC H0 hchk rfl hwf ops.size t _ a w.drew (by simp) ?_ ?_ ?_
    ·intro i hi hl
     simp [Array.getD_eq_getD_getElem?,hi] at hl
    ·refine Nat.le_trans (List.length_filter_le _ _) ?_
     rw [zfg];simp
    ·refine ⟨φ,⟨s.f,s.h++List.replicate (zar (ops.toList.map (zbu r P ops))) .gone⟩,⟨[], ?_⟩, ?_⟩
     ·have:((zbI 0 s.h.length (ops.toList.map (zbu r P ops))).filter fun d=> !(Array.replicate ops.size false).getD d.i true)=zbI 0 s.h.length (ops.toList.map (zbu r P ops)):=by
       refine List.filter_eq_self.2 fun d hd=>?_
       obtain ⟨k,hk⟩:=List.mem_iff_getElem?.1 hd
       obtain ⟨h1,h2⟩:=zgA hk
       have h3:=z6 h2
       simp at h3
       simp [Array.getD_eq_getD_getElem?,show d.i < ops.size by omega]
      rw [this];exact h
     ·exact ⟨I.size,I.regs,I.defers,by rw [zg8];exact I.heap.drew,FrC.gone (FrC.to_drew I.fr)⟩
   have e0:ops.toList.map (zbH P ops)=ops.toList.map (zbu false P ops):=List.map_congr_left fun o _=>by simp [zbu]
   have e1:(ops.toList.map (zbH P ops)).map ICell.toR=ops.toList.map (zbu true P ops):=by rw [List.map_map];exact List.map_congr_left fun o _=>by simp [zbu]
   simp only [zb2,if_true] at h hwf
   split at hwf
   ·rename_i hchk
    rw [if_pos hchk] at h
    simp only [Bool.and_eq_true] at hchk
    rw [e0] at h hwf hchk
    exact go false hchk.1 hchk.2 hwf h
   ·rename_i hchk
    rw [if_neg hchk] at h
    split at hwf
    ·rename_i hchk2
     rw [if_pos hchk2] at h
     simp only [Bool.and_eq_true] at hchk2
     rw [e1] at h hwf hchk2
     exact go true hchk2.1 hchk2.2 hwf h
    ·rename_i hchk2
     rw [if_neg hchk2] at h
     obtain ⟨φ,s,h,I⟩:=h
     simp only [wpC] at h
  | false=>
   simp only [zb2,Bool.false_eq_true,↓reduceIte,wpC] at h
   simp only [zb2,Bool.false_eq_true,↓reduceIte,wfC] at hwf
   refine zi8 ?_
   have:=zhW (ops:=ops) hC H0 (Q:=Q) ops.toList 0 (by intro j;simp) hwf a w h
   rwa [List.range_eq_range',←Array.length_toList]
 | .seq x y,Q,a,w,hwf,h=>by
  simp only [zb2,wfC,Bool.and_eq_true] at hwf
  refine wp_seq (wp_mono (zbN hC H0 x _ a w hwf.1 h) ?_)
  intro e a' w' he
  cases e with
  | normal=>exact zbN hC H0 y Q a' w' hwf.2 (Sim.weak H0 he)
  | _=>exact he
 | .cond c x y,Q,a,w,hwf,h=>by
  obtain ⟨φ,s,h,I⟩:=h
  simp only [zb2] at h hwf
  split at h
  ·rename_i c' hc'
   simp only [hc',wfC,Bool.and_eq_true] at hwf
   simp only [wpC] at h
   split at h
   ·rename_i t ht
    have:=I.ev _ _ hc'
    rw [ht] at this
    have he:a.eval c= .bool t:=this.bool
    refine wp_cond he ?_
    cases t with
    | true=>exact zbN hC H0 x Q a w hwf.1 ⟨φ,s,by simpa using h,I⟩
    | false=>exact zbN hC H0 y Q a w hwf.2 ⟨φ,s,by simpa using h,I⟩
   ·cases h
  ·simp only [wpC] at h
 | .block id b,Q,a,w,hwf,h=>by
  simp only [zb2,wfC] at hwf
  refine wp_block (wp_mono (zbN hC H0 b _ a w hwf h) ?_)
  intro e a' w' he
  cases e with
  | exit i=>
   simp only [QX,Exit.inBlock] at he ⊢
   split
   ·rename_i hi;simp only [hi,↓reduceIte] at he;exact he
   ·rename_i hi;simp only [hi,↓reduceIte] at he;exact he
  | _=>exact he
 | .loop b,Q,a,w,hwf,h=>by
  simp only [zb2,wfC] at hwf
  obtain ⟨φ,s,⟨J,⟨m,s0,hwk,hm⟩,hr⟩,I⟩:=h
  obtain ⟨φ',I'⟩:=I.weak H0 hwk
  refine wp_loop_ghost (fun m a w=>Sim n φ0 h0 w0 (J m) a w) m ⟨φ',s0,hm,I'⟩ ?_
  rintro k a1 w1 hk
  refine wp_mono (zbN hC H0 b _ a1 w1 hwf (hk.mono (hr k))) ?_
  intro e a' w' he
  cases e with
  | normal=>
   obtain ⟨φ2,s2,⟨m2,s3,hm2,hwk2,hJ2⟩,I2⟩:=he
   obtain ⟨φ3,I3⟩:=I2.weak H0 hwk2
   exact ⟨m2,hm2,φ3,s3,hJ2,I3⟩
  | _=>exact he
 | .exit id,Q,a,w,_,h=>wp_exit h
 | .scope b,Q,a,w,hwf,h=>by
  simp only [zb2] at hwf h
  unfold mkScope at hwf h
  split at hwf
  ·rename_i hs
   rw [hs] at h
   exact wp_scope_pass (fun l=>zji (P:=P) (by rw [hs];simp)) (zbN hC H0 b Q a w hwf h)
  ·rename_i l hs
   rw [hs] at h
   simp only at h
   cases hr:zip l (zb2 P b) with
   | none=>rw [hr] at h;obtain ⟨_,_,h,_⟩:=h;simp only [wpC] at h
   | some r=>
    rw [hr] at h hwf
    simp only [wfC,Bool.and_eq_true] at hwf
    simp only at h
    obtain ⟨φ,s,⟨J,h1,h2⟩,I⟩:=h
    cases hfl:findLabel b l with
    | none=>have:=(zd4 (P:=P)).2 hfl;rw [hs] at this;simp at this
    | some rc=>
     have hrc:=(zd4 (P:=P)).1 rc hfl
     rw [hr] at hrc
     have hrc:=Option.some.inj hrc
     have hsz:=ziA hfl
     subst hrc
     refine zi7 l (fun m a w=>Sim n φ0 h0 w0 (J m) a w) hfl (fun l' hl=>zji (P:=P) (by rw [hs];simpa using hl)) ?_ ?_
     ·refine wp_mono (zbN hC H0 b _ a w hwf.2 ⟨φ,s,h1,I⟩) ?_
      intro e a' w' he
      cases e with
      | goto i=>
       simp only [QX] at he ⊢
       split
       ·rename_i hi
        simp only [if_pos hi] at he
        obtain ⟨φ2,s2,⟨m2,s3,hwk2,hJ2⟩,I2⟩:=he
        obtain ⟨φ3,I3⟩:=I2.weak H0 hwk2
        exact ⟨m2,φ3,s3,hJ2,I3⟩
       ·rename_i hi
        simp only [if_neg hi] at he
        exact he
      | _=>exact he
     ·intro k a1 w1 hk
      refine wp_mono (zbN hC H0 rc _ a1 w1 hwf.1 (hk.mono (h2 k))) ?_
      intro e a' w' he
      cases e with
      | goto i=>
       simp only [QX] at he ⊢
       split
       ·rename_i hi
        simp only [if_pos hi] at he
        obtain ⟨φ2,s2,⟨m2,s3,hm2,hwk2,hJ2⟩,I2⟩:=he
        obtain ⟨φ3,I3⟩:=I2.weak H0 hwk2
        exact ⟨m2,hm2,φ3,s3,hJ2,I3⟩
       ·rename_i hi
        simp only [if_neg hi] at he
        exact he
      | _=>exact he
  ·rename_i hs1 hs2
   exfalso
   obtain ⟨_,_,h,_⟩:=h
   split at h
   ·rename_i hs;exact hs1 hs
   ·rename_i hs;exact hs2 _ hs
   ·simp only [wpC] at h
 | .ret,Q,a,w,_,h=>wp_ret h
 | .rangeFunc ..,Q,a,w,_,h=>by obtain ⟨_,_,h,_⟩:=h;simp only [zb2,wpC] at h
 | .label _,Q,a,w,_,h=>wp_label h
 | .goto _,Q,a,w,_,h=>wp_goto h
 | .refuse _,Q,a,w,_,h=>by obtain ⟨_,_,h,_⟩:=h;simp only [zb2,wpC] at h
termination_by c=>SizeOf.sizeOf c
decreasing_by all_goals (simp_wf;try omega)
end
end Go.Rh

namespace Go.Rh
section
variable {P:Program} {a:Act} {w:World} {n:Nat} {φ0:Phi} {h0:List Blk} {w0:World} {φ:Phi} {s:St} {C:zag}
def resOne (tmps:Array Value):ResultVar→Sem Value
 | .tmp t=>pure (tmps.getD t undef)
 | .cell c t=>do loadVar t (←asAddr (tmps.getD c undef))
theorem resOne_tmp {tmps:Array Value} {t:Nat} :(resOne tmps (.tmp t)).run P w= .ok (tmps.getD t undef) w:=rfl
theorem zgN {fn:Func} {tmps:Array Value} :results fn tmps=(do
  let vs←fn.results.mapM (resOne tmps)
  pure (if h:vs.size=1 then vs[0] else .tuple vs)):=rfl
theorem zdu (I:Inv n φ0 h0 w0 φ s a w): ∀ {rs:List ResultVar} {q:List IRes} {l:List Value},cRes P rs=some q→zf1 s q=some l→
  ∃l',(rs.mapM (resOne a.tmps)).run P w= .ok l' w∧Each (VR φ) l l'
 | [],q,l,h1,h2=>by
  simp [cRes] at h1;subst h1
  simp [zf1] at h2;subst h2
  exact ⟨[],by simp,Each.nil _⟩
 | .tmp t::rs,q,l,h1,h2=>by
  simp only [cRes,Option.map_eq_some_iff] at h1
  obtain ⟨q',h1,rfl⟩:=h1
  simp only [zf1,Option.map_eq_some_iff] at h2
  obtain ⟨l',h2,rfl⟩:=h2
  obtain ⟨l'',h3,h4⟩:=zdu I h1 h2
  exact ⟨a.tmps.getD t undef::l'',by simp [List.mapM_cons,resOne_tmp,h3],Each.cons (I.regs t) h4⟩
 | .cell c t::rs,q,l,h1,h2=>by
  simp only [cRes] at h1
  split at h1<;>cases h1
  rename_i m q' hm hq'
  simp only [zf1] at h2
  split at h2<;>cases h2
  rename_i v l' hv hl'
  obtain ⟨l'',h3,h4⟩:=zdu I hq' hl'
  obtain ⟨k,o,cs,r,h5,h6,h7⟩:=ldV_spec hv
  have hreg:=I.regs c
  rw [h5] at hreg
  obtain ⟨x',hx',_,b,bo,hφ,rfl⟩:=hreg.pointer
  obtain ⟨b',o',hφ',hb⟩:=I.heap.has k _ h6
  rw [hφ] at hφ';cases hφ'
  obtain ⟨v',hr,hG⟩:=zfF (P:=P) hm hb h7
  exact ⟨v'::l'',by
   have h8:(resOne a.tmps (.cell c t)).run P w= .ok v' w:=by simp only [resOne];rw [hx'];simp [asAddr,hr]
   simp [List.mapM_cons,h3,h8],Each.cons (VR.of_GR hG) h4⟩
theorem Each.mono2 {R R':Value→Value→Prop} {l l':List Value} (h:Each R l l') (hr: ∀v v',v∈l→R v v'→R' v v'):Each R' l l':=
 ⟨h.1,fun i v v' h1 h2=>hr v v' (List.mem_of_getElem? h1) (h.2 i v v' h1 h2)⟩
theorem GR.plain {φ φ':Phi} {v v':Value} (h:aggf v=true) (r:GR φ v v'):GR φ' v v':=by
 cases v<;>simp only [GR,aggf] at r h ⊢
 case agg x=>
  obtain ⟨a',rfl,r⟩:=r
  exact ⟨a',rfl,r.mono2 fun v v' hv hr=>by
   have:=List.all_eq_true.1 h v hv
   rw [SR.eq_of_sclf this hr];exact SR.of_sclf this⟩
 all_goals
  rw [SR.eq_of_sclf h r];exact SR.of_sclf h
theorem VR.plain' {φ φ':Phi} {v v':Value} (h:vpf v=true) (r:VR φ v v'):VR φ' v v':=by
 cases v<;>simp only [VR,vpf] at r h ⊢
 case tuple x=>
  obtain ⟨a',rfl,r⟩:=r
  exact ⟨a',rfl,r.mono2 fun v v' hv hr=>GR.plain (List.all_eq_true.1 h v hv) hr⟩
 all_goals exact GR.plain h r
theorem BR.plain {φ φ':Phi} {w:World} {b o:Nat} {blk:Blk} (h:zhR blk=true) (r:BR φ w b o blk):BR φ' w b o blk:=by
 cases blk with
 | cells c rw=>
  obtain ⟨c',T,fr,h1,h2,h3,h4⟩:=r
  refine ⟨c',T,fr,h1,h2,h3.mono2 fun v v' hv hr=>?_,h4⟩
  have:=List.all_eq_true.1 h v hv
  rw [SR.eq_of_sclf this hr];exact SR.of_sclf this
 | map es=>
  obtain ⟨h0,ms,cl,h1,h2,h3,h4⟩:=r
  have hall: ∀e∈es,aggf e.1=true∧aggf e.2=true:=fun e he=>by
   have:=List.all_eq_true.1 h e he;simpa using this
  refine ⟨h0,ms,cl,h1,h2.mono2 fun v v' hv hr=>?_,h3.mono2 fun v v' hv hr=>?_,h4⟩
  ·obtain ⟨e,he,rfl⟩:=List.mem_map.1 hv;exact GR.plain (hall e he).1 hr
  ·obtain ⟨e,he,rfl⟩:=List.mem_map.1 hv;exact GR.plain (hall e he).2 hr
 | chan c bf=>
  obtain ⟨h0,b',s,r,h1,h2⟩:=r
  exact ⟨h0,b',s,r,h1,h2.mono2 fun v v' hv hr=>GR.plain (List.all_eq_true.1 h v hv) hr⟩
 | iter m n seen=>simp [zhR] at h
 | gone=>exact r
theorem drop_new {h h':List Blk} {w':World} {φ':Phi} (H:HR φ (hf h) w) (H':HR φ' (hf h') w') (F:FrC φ h w φ' h' w') (hp: ∀b∈h'.take h.length,zhR b=true):
  ∃φ'',HR φ'' (hf (h'.take h.length)) w'∧FrC φ h w φ'' (h'.take h.length) w':=by
 have hlen:=F.len
 have htk: ∀ {k:Nat} {b:Blk},(h'.take h.length)[k]? =some b→k < h.length∧h'[k]? =some b:=by
  intro k b e
  rw [List.getElem?_take] at e
  split at e
  ·exact ⟨by assumption,e⟩
  ·cases e
 refine ⟨fun k=>if k < h.length then φ' k else none,⟨?_, ?_, ?_⟩,F.size,F.keep,F.os,F.tape,F.output, ?_, ?_,by simp;omega, ?_⟩
 ·intro k blk hk
  obtain ⟨h1,h2⟩:=zah.1 hk
  obtain ⟨h3,h4⟩:=htk h1
  obtain ⟨b,o,e,hB⟩:=H'.has k blk (zah.2 ⟨h4,h2⟩)
  exact ⟨b,o,by simp [h3,e],BR.plain (hp _ (List.mem_of_getElem? h1)) hB⟩
 ·intro k hk
  by_cases hkl:k < h.length
  ·simp only [hkl,if_true]
   refine H'.nil k ?_
   unfold hf at hk ⊢
   rwa [List.getElem?_take_of_lt hkl] at hk
  ·simp [hkl]
 ·intro k k' blk rb ro rb' ro' hne hk hrw e1 e2
  obtain ⟨h1,h2⟩:=zah.1 hk
  obtain ⟨h3,h4⟩:=htk h1
  simp only [h3,if_true] at e1
  split at e2
  ·exact H'.apart k k' blk rb ro rb' ro' hne (zah.2 ⟨h4,h2⟩) hrw e1 e2
  ·cases e2
 ·intro k x e
  have:k < h.length:=by
   rcases Nat.lt_or_ge k h.length with hk | hk
   ·exact hk
   ·rw [H.nil k (zcA (List.getElem?_eq_none hk))] at e;cases e
  simp only [this,if_true]
  exact F.le k x e
 ·intro k b o e
  split at e
  ·exact F.new k b o e
  ·cases e
 ·intro k b b' h1 h2
  exact F.flags k b b' h1 (htk h2).2
theorem zhS: ∀(l:List Value) (i t:Nat),reg (argL i l) t=junk∨∃v,i≤t∧l[t - i]? =some v∧reg (argL i l) t=v
 | [],_,_=> .inl rfl
 | v::r,i,t=>by
  simp only [argL,reg,setf]
  by_cases h:t=i
  ·subst h;simp
  ·simp only [h,if_false]
   rcases zhS r (i+1) t with h1 | ⟨u,h0,h1,h2⟩
   ·exact .inl h1
   ·refine .inr ⟨u,om, ?_,h2⟩
    rw [show t - i=(t - (i+1))+1 by omega];simpa using h1
theorem wpF_sound (hC:zhE P C) {f:FuncId} {fn:Func} {c:IFunc} {args:List Value} {h:List Blk} {R:zen} (hf':P.funcs[f]? =some fn) (hc:cFunc P fn=some c) (hwp:wpF C c args h R):zjX P f args h R:=by
 unfold cFunc at hc
 split at hc<;>try cases hc
 rename_i body res hb hres
 split at hc<;>cases hc
 rename_i hwf
 intro w φ args' H hl hargs
 refine calls_of_wp hf' hb (wp_mono (zbN (n:=fn.ntmps) (h0:=h) (w0:=w) (φ0:=φ) hC H body _ _ w hwf ⟨φ,_,hwp, ?_⟩) ?_)
 ·refine ⟨by simp;omega,fun t=>?_,rfl,H,FrC.refl _ _ _⟩
  simp only [Array.getD_eq_getD_getElem?]
  rcases zhS args 0 t with h1 | ⟨v,h0,h1,h2⟩
  ·rw [h1];exact VR.junk
  ·have ht:=z6 h1
   have h3:args'[t]? =some (args'[t]'om):=by simp [show t < args'.size by omega]
   rw [Array.getElem?_append_left om,h2,h3]
   exact hargs t _ _ (by simpa using h1) h3
 ·intro e a' w' he
  have fin:Sim fn.ntmps φ h w (fun s=> ∃l,zf1 s res=some l∧(∀v∈l,zbt v=false)∧(R (one l) s.h∨(vpf (one l)=true∧(∀b∈s.h.take h.length,zhR b=true)∧R (one l) (s.h.take h.length)))) a' w'→
    a'.defers= []∧∃v,(results fn a'.tmps).run P w'= .ok v w'∧∃v0 v' h' φ',(Ending.returned v:Ending)= .returned v'∧R v0 h'∧VR φ' v0 v'∧HR φ' (hf h') w'∧FrC φ h w φ' h' w':=by
   rintro ⟨φ1,s,⟨l,hl1,hl2,hR⟩,I⟩
   obtain ⟨l',hr,hE⟩:=zdu I hres hl1
   refine ⟨I.defers,if h:l'.toArray.size=1 then l'.toArray[0] else .tuple l'.toArray, ?_, ?_⟩
   ·rw [zgN]
    simp [Array.mapM_eq_mapM_toList,hr]
   ·have hV:VR φ1 (one l) (if h:l'.toArray.size=1 then l'.toArray[0] else .tuple l'.toArray):=by
     have hlen:=hE.1
     unfold one
     split
     ·rename_i v
      match l',hE with
      | [v'],hE=>simpa using hE.2 0 v v' rfl rfl
      | [],hE=>simp at hlen
      | _::_::_,hE=>simp at hlen
     ·rename_i hne
      have: ¬l'.toArray.size=1:=by
       intro h1
       have h2:l.length=1:=by rw [hlen];simpa using h1
       match l,h2 with
       | [v],_=>exact hne v rfl
      rw [dif_neg this]
      exact ⟨l'.toArray,rfl,by simpa using hE.mono2 fun v v' hv hr=>GR.of_VR (hl2 v hv) hr⟩
    rcases hR with hR | ⟨h1,h2,hR⟩
    ·exact ⟨_,_,_,φ1,rfl,hR,hV,I.heap,I.fr⟩
    ·obtain ⟨φ2,h3,h4⟩:=drop_new H I.heap I.fr h2
     exact ⟨_,_,_,φ2,rfl,hR,VR.plain' h1 hV,h3,h4⟩
  cases e with
  | normal=>exact fin (he.mono fun s h=>h.2)
  | ret=>exact fin (he.mono fun s h=>h.2)
  | exit id=>obtain ⟨_,_,⟨h,_⟩,_⟩:=he;exact h.elim
  | goto l=>obtain ⟨_,_,⟨h,_⟩,_⟩:=he;exact h.elim
  | _=>exact he.elim
theorem Env.sound (P:Program):zhE P (Env P):=fun _ _ _ _ h=>h
theorem Env.of {P:Program} {g:String} {c:IFunc} {args:List Value} {h:List Blk} {R:zen} (hc:qE P g=some c) (hwp:wpF (Env P) c args h R):Env P g args h R:=by
 intro f fn hf hn
 unfold qE at hc
 split at hc<;>try cases hc
 rename_i fn' hfl
 have hm:fn∈P.funcs.toList.filter (·.name==g):=List.mem_filter.2 ⟨by
  have:=Array.mem_of_getElem? hf
  simpa using this,by simpa using hn⟩
 rw [hfl] at hm
 have:fn=fn':=by simpa using hm
 subst this
 exact wpF_sound (Env.sound P) hf hc hwp
theorem Env.at {P:Program} {n:Nat} {c:IFunc} {args:List Value} {h:List Blk} {R:zen} (hc:codeAt P n=some c) (hwp:wpF (Env P) c args h R):Env P (.no n) args h R:=by
 unfold codeAt at hc
 split at hc<;>try cases hc
 rename_i fn hf
 split at hc<;>try cases hc
 rename_i hname
 refine ⟨fn,hf, ?_,by simpa using hname,wpF_sound (Env.sound P) hf hc hwp⟩
 cases hb:fn.body with
 | some _=>rfl
 | none=>unfold cFunc at hc;rw [hb] at hc;cases hc
end
end Go.Rh
