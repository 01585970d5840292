/-
  A part of the proof: XmWrite, XmWrite2, XmWrite3, XmWrite4, XmOne, XmDo, XmDrawn, XmDrawn2, XmDrawn3, XmMany.
-/
import Derived.Test.YthdciapjllppjaaGreatWbA
set_option maxRecDepth 10000
set_option maxHeartbeats 8000000
set_option linter.unusedVariables false
set_option linter.unusedSectionVars false
set_option linter.unusedSimpArgs false
namespace Go.Xm
variable [aq]
def NC:Next->Option Value
 | .value v=>some v
 | .skip=>some undef
 | _ => .none
def ES(P:Program)(s:Sem Next)(β : Env)(m:Mem)(w:World)(x:XV)(m':Mem):Prop:=
 ∃nx v β' w',s.run P w = .ok nx w'/\NC nx=some v/\aL β' m'.n x v/\Step β m w β' m' w'
theorem aL.skip{β : Env}{n:Nat}:aL β n (.tup []) undef:=⟨by simp,rfl⟩
theorem m6{β : Env}{m m':Mem}{w:World}(h:Rel β m w){cs:List XC}{t:TypeId}(hc:∀c∈cs,c.ok m.n)(hp:m.push (.cells cs t false false)=some m') :
 ∃β',Step β m w β' m' (w.alloc (.cells (cs.map (·.den β)).toArray t))/\(β'.bG m.n=w.heap.size /\ β'.base m.n=0)/\m'.n=m.n+1:=by
 have hn:=(Mem.bu hp).2.1
 obtain⟨β',h1,h2,_,h3⟩:=Step.push h hp (ob := .cells (cs.map (·.den β)).toArray t) (sz:=cs.length) (fun β' he=>
  ⟨(cs.map (·.den β)).toArray,(0,0),rfl,by simp,by simp,fun _=>⟨rfl,rfl⟩,fun c hm=>XC.dg (by omega) (hc c hm),by
    rw[dL he hc];have hl:cs.length=(cs.map (·.den β)).length:=by simp
    show(cs.map (·.den β)).take cs.length=_
    rw[hl,List.take_length]⟩)
 exact⟨β',h1,⟨h2,h3⟩,hn⟩
theorem pS{P:Program}(t:TypeId)(v:Value)(w:World):(newVar t v).run P w = .ok ⟨w.heap.size,0,none⟩ (w.alloc (.cells v.cells t)):=rfl
def y8(m:Mem)(cs:List XC)(t:TypeId):Option (XV×Mem):=
 match m.push (.cells cs t false false)with
 | some m'=>some (.one (.ptr m.n 0),m')
 | .none => .none
def oD(P:Program)(t:TypeId)(m:Mem):Option (XV×Mem):=
 match rq P t with
 | some zs=>y8 m zs t
 | .none => .none
theorem yX{P:Program}{t:TypeId}{m m':Mem}{x:XV}(h:oD P t m=some (x,m')){β : Env}{w:World}(hm:Rel β m w){ev:Operand->Value}{o:Oper}(ho:o.op = .alloc t) :
 ES P (execOp ev o) β m w x m':=by
 unfold oD y8 at h;split at h
 ·rename_i zs hz;split at h
  ·rename_i m1 hp;cases h;obtain⟨i,v,h1,h2,h3,h4⟩:=ij hz β m.n;obtain⟨β',g1,g2,g3⟩:=m6 hm h4 hp;refine⟨.value (.pointer (some ⟨w.heap.size,0,none⟩)),_,β',_,?_,rfl,?_,g1⟩
   ·simp only[execOp,ho,Instr.alloc,Sem.run_bind,cV h1 h2,Result.andThen_ok,pS,Sem.run_pure,h3]
   ·exact⟨by show m.n<m'.n;omega,by simp only[XC.den,g2.1,g2.2,Nat.add_zero]⟩
  ·cases h
 ·cases h
def GS(t:TypeId)(x:XV)(m:Mem):Option (XV×Mem):=
 match cQ x with
 | some cs=>y8 m cs t
 | .none => .none
theorem C9{P:Program}{t:TypeId}{m m':Mem}{x r:XV}(h:GS t x m=some (r,m')){β : Env}{w:World}(hm:Rel β m w){ev:Operand->Value}{o:Oper}{xo:Operand}(ho:o.op = .box t xo)(hx:aL β m.n x (ev xo)) :
 ES P (execOp ev o) β m w r m':=by
 unfold GS y8 at h;split at h
 ·rename_i cs hc;split at h
  ·rename_i m1 hp;cases h;obtain⟨h1,h2⟩:=qc hc hx;obtain⟨β',g1,g2,g3⟩:=m6 hm h2 hp;refine⟨.value (.pointer (some ⟨w.heap.size,0,none⟩)),_,β',_,?_,rfl,?_,g1⟩
   ·simp only[execOp,ho,Instr.box,Sem.run_bind,Result.andThen_ok,pS,Sem.run_pure,h1]
   ·exact⟨by show m.n<m'.n;omega,by simp only[XC.den,g2.1,g2.2,Nat.add_zero]⟩
  ·cases h
 ·cases h
theorem pF(w:World)(g:Nat)(cs:Array Value)(k:Nat)(h:k≠g):(w.setRow g cs).heap[k]? = w.heap[k]?:=by
 simp only[World.setRow,Array.getElem?_modify];rw[if_neg (by omega)]
theorem A6{α : Type}(cur new:List α)(L off:Nat)(h:off+new.length<=L)(hL:L<=cur.length) :
 (cur.take off++new++cur.drop (off+new.length)).take L=(cur.take L).take off++new++(cur.take L).drop (off+new.length):=by
 apply List.ext_getElem?;intro j;simp only[List.getElem?_take,List.getElem?_append,List.length_append,List.length_take,List.getElem?_drop];rw[show min off cur.length=off by omega,show min off (min L cur.length)=off by omega];split
 ·split
  ·split
   ·rfl
   ·rfl
  ·rw[if_pos (by omega)]
 ·rename_i hj;split
  ·omega
  ·rw[if_neg (by omega)]
theorem AM{β : Env}{n lo sz:Nat}{vs cs:List XC}{e:TypeId}{opn:Bool}{w:World}{b off:Nat}(h:fb β n lo sz (.cells vs e opn false) w.heap[b]?)(hc:∀c∈cs,c.ok n)(hl:off+cs.length<=vs.length) :
 lo=0/\∃cur,w.heap[b]? = some (.cells cur e (0,0))/\off+cs.length<=cur.size /\
  fb β n lo sz (.cells (vs.take off++cs++vs.drop (off+cs.length)) e opn false) (w.setRow b (cur.toList.take off++cs.map (·.den β)++cur.toList.drop (off+cs.length)).toArray).heap[b]?:=by
 obtain⟨cur,fr,h1,h2,h3,h4,h5,h6⟩:=h;obtain⟨hf,hlo⟩:=h4 rfl;subst hf hlo;rw[List.drop_zero]at h6;have hvl:vs.length<=cur.size:=by split at h3<;>omega
 refine⟨rfl,cur,h1,by omega,_,(0,0),setRow_heap w b cur _ e (0,0) h1,?_,?_,fun _=>⟨rfl,rfl⟩,uM h5 hc,?_⟩
 ·simp;omega
 ·have:(vs.take off++cs++vs.drop (off+cs.length)).length=vs.length:=by simp;omega
  rw[this];exact h3
 ·have e1:(vs.take off++cs++vs.drop (off+cs.length)).length=vs.length:=by simp;omega
  rw[e1,List.drop_zero];have e2:=A6 cur.toList (cs.map (·.den β)) vs.length off (by simpa using hl) (by simpa using hvl);simp only[List.length_map]at e2;simp only[e2,h6];rw[uL]
def kX(P:Program)(t:TypeId)(a x:XV)(m:Mem):Option (XV×Mem):=
 match a,cQ x,bT P t with
 | .one (.ptr i off),some cs,some s=>
   if cs.length=s then
    match m.get i with
    | .cells vs e opn false=>if off+cs.length<=vs.length then some (.tup [],m.put i (.cells (vs.take off++cs++vs.drop (off+cs.length)) e opn false))else .none
    | _ => .none
   else .none
 | _,_,_ => .none
theorem sE{β : Env}{cs:List XC}:∀v∈cs.map (·.den β),v.oneCell'=true:=by
 intro v hv;obtain⟨c,_,rfl⟩:=List.mem_map.1 hv;exact(XC.wX β c).2
theorem pX{β : Env}{m:Mem}{w:World}(hm:Rel β m w){i off:Nat}(hi:i<m.n){vs cs:List XC}{e:TypeId}{opn:Bool}(hg:m.get i = .cells vs e opn false)(hc:∀c∈cs,c.ok m.n)(hl:off+cs.length<=vs.length) :
 ∃w',(∀P:Program,(storeCells ⟨β.bG i,β.base i+off,none⟩ (cs.map (·.den β)) 0).run P w = .ok () w')/\Step β m w β (m.put i (.cells (vs.take off++cs++vs.drop (off+cs.length)) e opn false)) w':=by
 have hob:=hm.obj i hi;rw[hg]at hob;obtain⟨hlo,cur,g1,g2,g3⟩:=AM hob hc hl;rw[hlo,Nat.zero_add];refine⟨_,fun P=>run_storeCells_at P (β.bG i) off e (cs.map (·.den β)) 0 cur w g1 (by simpa using g2) sE,?_⟩;simp only[Nat.add_zero,List.length_map];exact Step.put hm hi (by rw[hg];rfl) rfl rfl rfl (by simp) (fun k hk=>pF w _ _ k hk) g3
theorem za{P:Program}{t:TypeId}{m m':Mem}{a x r:XV}(h:kX P t a x m=some (r,m')){β : Env}{w:World}(hm:Rel β m w){ev:Operand->Value}{o:Oper}{ao xo:Operand}(ho:o.op = .store t ao xo)
 (ha:aL β m.n a (ev ao)) (hx:aL β m.n x (ev xo)):ES P (execOp ev o) β m w r m':=by
 unfold kX at h;split at h
 ·rename_i i off cs s hc hs;split at h
  ·rename_i hl;split at h
   ·rename_i vs e opn hg;split at h
    ·rename_i hfit;cases h;obtain⟨h1,h2⟩:=ha;obtain⟨h3,h4⟩:=qc hc hx;obtain⟨w',g1,g2⟩:=pX hm h1 hg h4 hfit;refine⟨.skip,undef,β,w',?_,rfl,aL.skip,g2⟩;have hsz:(ev xo).cells.size=s:=by rw[h3];simpa using hl
     simp only[execOp,ho,Instr.storeAt,h2,XC.den,Instr.sureAddr,Sem.run_bind,Sem.run_pure,Result.andThen_ok,storeVar,br hs,hsz,ne_eq,not_true_eq_false,if_false];have:=g1 P;rw[h3];simp only[Result.andThen_ok,this]
    ·cases h
   ·cases h
  ·cases h
 ·cases h
end Go.Xm
namespace Go.Xm
variable [aq]
def eC(zs:List XC)(k:Nat):List XC:=(List.range k).map fun j=>zs.getD (j%zs.length) .nili
theorem qh{β : Env}{zs:List XC}{n:Nat}(hz:∀c∈zs,c.ok n)(k:Nat)(v:Array Value)(hv:v=(zs.map (·.den β)).toArray)(h0:0<zs.length\/k=0) :
 ((Array.range k).map (fun j=>v[j%v.size]!))=((eC zs k).map (·.den β)).toArray/\∀c∈eC zs k,c.ok n:=by
 subst hv;constructor
 ·apply Array.toList_inj.1;simp only[Array.toList_map,Array.toList_range,eC,List.map_map];apply List.map_congr_left;intro j hj;have hj':j<k:=by simpa using hj
  have hpos:0<zs.length:=by rcases h0 with h|h<;>omega
  have hlt:j%zs.length<zs.length:=Nat.mod_lt _ hpos;simp[hlt,List.getD_eq_getElem?_getD]
 ·intro c hc;obtain⟨j,hj,rfl⟩:=List.mem_map.1 hc;have hj':j<k:=by simpa using hj
  have hpos:0<zs.length:=by rcases h0 with h|h<;>omega
  have hlt:j%zs.length<zs.length:=Nat.mod_lt _ hpos;refine hz _ ?_;rw[List.getD_eq_getElem?_getD,List.getElem?_eq_getElem hlt];exact List.getElem_mem _
def dX(P:Program)(t:TypeId):Option TypeId:=
 match P.underlying t with
 | some (.slice e)=>some e
 | _ => .none
theorem jG{P:Program}{t e:TypeId}(h:dX P t=some e):P.underlying t=some (.slice e):=by
 unfold dX at h;split at h
 ·rename_i he;cases h;exact he
 ·cases h
def dz(P : Program)(t:TypeId)(len:Nat)(parts:List (Nat×XV))(m:Mem):Option (XV×Mem):=
 match dX P t with
 | some e=>match bT P e,rq P e with
   | some s,some zs=>
     if len*s<=16777216/\0<zs.length then
      match gQ (fun i=>some (i*s,s)) (eC zs (len*s)) parts with
      | some cs=>match m.push (.cells cs e false false)with
        | some m'=>some (.one (.slice m.n 0 len (.exact len)),m')
        | .none => .none
      | .none => .none
     else .none
   | _,_ => .none
 | .none => .none
theorem rk{P : Program}{t:TypeId}{len:Nat}{parts:List (Nat×XV)}{m m':Mem}{r:XV}(h:dz P t len parts m=some (r,m')){β : Env}{w:World}(hm:Rel β m w){vs:Array (Nat×Value)}
 (hp:dj (fun p q=>p.1=q.1/\aL β m.n p.2 q.2) parts vs.toList) :
 ∃v β' w',(Instr.buildSlice t len vs).run P w = .ok v w'/\aL β' m'.n r v/\Step β m w β' m' w':=by
 unfold dz at h;split at h
 ·rename_i e he;split at h
  ·rename_i s zs hs hz;split at h
   ·rename_i hc;split at h
    ·rename_i cs hf;split at h
     ·rename_i m1 hpush;cases h;obtain⟨i,v,h1,h2,h3,h4⟩:=ij hz β m.n;obtain⟨g1,g2⟩:=qh h4 (len*s) _ h3 (.inl hc.2);obtain⟨h5,h6⟩:=jF hf g2 hp;obtain⟨β',k1,k2,k3⟩:=m6 hm h6 hpush;refine⟨.slice (some ⟨w.heap.size,0,none⟩) len len,β',_,?_,?_,k1⟩
      ·have hu:=jG he;have hz00:len*s=0->((Array.range (len*s)).map fun j=>(#[]:Array Value)[j%(#[]:Array Value).size]!)=((eC zs (len*s)).map (·.den β)).toArray:=fun hz0=>by rw[hz0];simp[eC]
       simp only[Instr.buildSlice,Sem.run_bind,run_underlying hu,Result.andThen_ok,br hs];rw[if_neg (by omega)]
       by_cases hz0:len*s=0
       ·rw[if_pos hz0];simp only[Sem.run_bind,Sem.run_pure,Result.andThen_ok];rw[hz00 hz0];simp only[h5];rfl
       ·rw[if_neg hz0];simp only[Sem.run_bind,cV h1 h2,Result.andThen_ok,Sem.run_pure,g1,h5];rfl
      ·exact⟨by show m.n<m'.n;omega,by simp only[XC.den,k2.1,k2.2,Nat.add_zero]⟩
     ·cases h
    ·cases h
   ·cases h
  ·cases h
 ·cases h
theorem Jl{β : Env}{m m':Mem}{w:World}(h:Rel β m w)(hp:m.push (.map [])=some m') :
 ∃β',Step β m w β' m' (w.alloc (.map #[] 0)) /\ β'.bG m.n=w.heap.size/\m'.n=m.n+1:=by
 have hn:=(Mem.bu hp).2.1;obtain⟨β',h1,h2,_,_⟩:=Step.push h hp (ob := .map #[] 0) (sz:=0) (fun β' _=>⟨#[],0,rfl,by simp,by simp⟩);exact⟨β',h1,h2,hn⟩
def mj(m:Mem):Option (XV×Mem):=
 match m.push (.map [])with
 | some m'=>some (.one (.map m.n),m')
 | .none => .none
theorem vQ{P:Program}{t:TypeId}{m m':Mem}{r:XV}(h:mj m=some (r,m')){β : Env}{w:World}(hm:Rel β m w){ev:Operand->Value}{o:Oper}(ho:o.op = .makeMap t .none):ES P (execOp ev o) β m w r m':=by
 unfold mj at h;split at h
 ·rename_i m1 hp;cases h;obtain⟨β',k1,k2,k3⟩:=Jl hm hp;refine⟨.value (.map (some w.heap.size)),_,β',_,?_,rfl,?_,k1⟩
  ·simp only[execOp,ho,Option.map_none,Instr.makeMap];rfl
  ·exact⟨by show m.n<m'.n;omega,by simp only[XC.den,k2]⟩
 ·cases h
def rm:XC->Bool
 | .bool _=>true
 | .int _ _=>true
 | .str _=>true
 | _=>false
def tJ:X1->Bool
 | .one c=>rm c
 | .agg cs=>cs.all rm
theorem oo{β : Env}{c:XC}(h:rm c=true)(k:Nat):Instr.sameBits (k+1) (c.den β) (c.den β)=true:=by
 cases c<;>first
  | (simp[rm]at h;done)
  | (simp[XC.den,Instr.sameBits];done)
  | (simp only[XC.den,Instr.sameBits,wQ];simp)
theorem yJ{β : Env}{x:X1}(h:tJ x=true)(k:Nat):Instr.sameBits (k+2) (x.den β) (x.den β)=true:=by
 cases x with
 | one c=>exact oo h (k+1)
 | agg cs=>
   simp only[tJ,List.all_eq_true]at h;simp only[X1.den,Instr.sameBits,beq_self_eq_true,Bool.true_and,List.all_eq_true];intro p hp;obtain⟨a,b⟩:=p
   have key:∀l:List XC,(∀c∈l,rm c=true)->∀p∈(l.map (·.den β)).zip (l.map (·.den β)),Instr.sameBits (k+1) p.1 p.2=true:=by
    intro l
    induction l with
    | nil=>intro _ p hp;simp at hp
    | cons c l ih=>
      intro hl p hp;simp only[List.map_cons,List.zip_cons_cons,List.mem_cons]at hp
      rcases hp with rfl|hp
      ·exact oo (hl c (by simp)) k
      ·exact ih (fun c hc=>hl c (by simp[hc])) p hp
   exact key cs h (a,b) hp
def hJ(P : Program)(t:TypeId)(mp key x:XV)(m:Mem):Option (XV×Mem):=
 match P.underlying t,mp,p9 key,p9 x with
 | some (.map kt _),.one (.map i),some k,some v=>
   match m.get i with
   | .map es=>
     if ie P 40 kt k then
      match P.underlying kt,kS P kt k es 0 with
      | some _,some (some (j,_))=>match es[j]? with
        | some (k',_)=>if k'=k/\tJ k=true then some (.tup [],m.put i (.map (es.set j (k,v))))else .none
        | .none => .none
      | some _,some .none=>some (.tup [],m.put i (.map (es++[(k,v)])))
      | _,_ => .none
     else .none
   | _ => .none
 | _,_,_,_ => .none
theorem vo{P:Program}{w:World}{r:Nat}{o:Obj}{en:Array MapEntry}{c:Nat}(h:w.heap[r]? = some (.map en c)):(setObj r o).run P w = .ok () {w with heap:=w.heap.setIfInBounds r o}:=by
 simp only[setObj,Sem.run,h]
theorem Af{β : Env}{m:Mem}{w:World}(hm:Rel β m w){i:Nat}(hi:i<m.n){es es':List (X1×X1)}(hg:m.get i = .map es){en':Array MapEntry}{c':Nat}(hok:∀p∈es',p.1.ok m.n/\p.2.ok m.n)
 (he:en'.toList.map (fun e=>(e.key,e.val))=es'.map (fun p=>(p.1.den β,p.2.den β))):Step β m w β (m.put i (.map es')) {w with heap:=w.heap.setIfInBounds (β.bG i) (.map en' c')}:=by
 have hob:=hm.obj i hi;rw[hg]at hob;obtain⟨en,c,h1,h2,h3⟩:=hob;have hlt : β.bG i<w.heap.size:=(Array.getElem?_eq_some_iff.1 h1).1;refine Step.put hm hi (by rw[hg];rfl) rfl rfl rfl (by simp) (fun k hk=>?_) ?_
 ·exact Array.getElem?_setIfInBounds_ne (Ne.symm hk)
 ·exact⟨en',c',by simp[hlt],hok,he⟩
theorem mn{P : Program}{t:TypeId}{mp key x r:XV}{m m':Mem}(h:hJ P t mp key x m=some (r,m')){β : Env}{w:World}(hm:Rel β m w){u k' v':Value}(hu:aL β m.n mp u)(hk:aL β m.n key k')(hv:aL β m.n x v') :
 r = .tup []/\∃β' w',(Instr.mapUpdate t u k' v').run P w = .ok () w'/\Step β m w β' m' w':=by
 unfold hJ at h;split at h
 ·rename_i kt et i k v ht hkx hvx;obtain⟨h1,rfl⟩:=hu;obtain⟨h2,rfl⟩:=qZ hkx hk;obtain⟨h3,rfl⟩:=qZ hvx hv;split at h
  ·rename_i es hg;have hob:=hm.obj i h1;rw[hg]at hob;obtain⟨en,c,g1,g2,g3⟩:=hob;have hgo:(getObj (β.bG i)).run P w = .ok (.map en c) w:=by simp only[getObj,Sem.run,g1]
   split at h
   ·rename_i hck;have hckr:=jO (P:=P) false β w 40 kt k hck h2 10000 (by decide);split at h
    ·rename_i d j v0 hd hf;have hfk:=lp hd h2 β w hf g2 g3;split at h
     ·rename_i k1 v1 hes;split at h
      ·rename_i hsame;cases h;obtain⟨rfl,hpl⟩:=hsame;refine⟨rfl,β,_,?_,Af hm h1 hg (en':=en.modify j fun e=>{e with key:=k1.den β,val:=v.den β}) (c':=c) ?_ ?_⟩
       ·have hej:en[j]?.map (·.key)=some (k1.den β):=by
         have:=congrArg (·[j]?) g3;simp only[List.getElem?_map,hes,Option.map_some,Array.getElem?_toList]at this
         cases hej:en[j]? with
         | none=>rw[hej]at this;cases this
         | some e=>rw[hej]at this;simp only[Option.map_some,Option.some.injEq,Prod.mk.injEq]at this;simp[this.1]
        have hkts:(Instr.keyThatStays (k1.den β) (k1.den β)).run P w = .ok (k1.den β) w:=by
         simp only[Instr.keyThatStays,yJ hpl 9998,if_true,Sem.run_pure]
        simp only[Instr.mapUpdate,Sem.run_bind,run_underlying ht,Result.andThen_ok,XC.den,hgo,hckr,hfk,Option.map_some,hej,Option.getD_some,hkts,vo g1]
       ·intro p hp
        rcases List.mem_or_eq_of_mem_set hp with hp|rfl
        ·exact g2 p hp
        ·exact⟨h2,h3⟩
       ·apply List.ext_getElem?;intro q;have hq:=congrArg (·[q]?) g3;simp only[List.getElem?_map,Array.getElem?_toList]at hq;simp only[List.getElem?_map,Array.getElem?_toList,Array.getElem?_modify,List.getElem?_set]
        by_cases hjq:j=q
        ·subst hjq;rw[hes]at hq;have hlt:j<es.length:=(List.getElem?_eq_some_iff.1 hes).1
         cases hej:en[j]? with
         | none=>rw[hej]at hq;cases hq
         | some e=>simp[hlt]
        ·simp only[hjq,if_false];exact hq
      ·cases h
     ·cases h
    ·rename_i d hd hf;cases h;have hfk:=lp hd h2 β w hf g2 g3;refine⟨rfl,β,_,?_,Af hm h1 hg (en':=en.push {key:=k.den β,val:=v.den β,born:=c}) (c':=c+1) ?_ ?_⟩
     ·simp only[Instr.mapUpdate,Sem.run_bind,run_underlying ht,Result.andThen_ok,XC.den,hgo,hckr,hfk,Option.map_none,vo g1]
     ·intro p hp
      rcases List.mem_append.1 hp with hp|hp
      ·exact g2 p hp
      ·simp only[List.mem_singleton]at hp;subst hp;exact⟨h2,h3⟩
     ·simp[g3]
    ·cases h
   ·cases h
  ·cases h
 ·cases h
end Go.Xm
namespace Go.Xm
variable [aq]
def jb(P:Program)(t:TypeId)(l c:XV)(m:Mem):Option (XV×Mem):=
 match dX P t,l,c with
 | some e,.one (.int _ l),.one (.int _ c)=>match P.info? e,rq P e with
   | some i,some zs=>
     if 0<=l/\l<=c/\c<=281474976710656/\i.bytes*c<=281474976710656/\0<zs.length then
      match m.push (.cells (eC zs (c.toNat*i.size)) e false false)with
      | some m'=>some (.one (.slice m.n 0 l.toNat (.exact c.toNat)),m')
      | .none => .none
     else .none
   | _,_ => .none
 | _,_,_ => .none
theorem sj{P : Program}{t:TypeId}{l c r:XV}{m m':Mem}(h:jb P t l c m=some (r,m')){β : Env}{w:World}(hm:Rel β m w){u v:Value}(hl:aL β m.n l u)(hc:aL β m.n c v) :
 ∃z β' w',(Instr.makeSlice t u v).run P w = .ok z w'/\aL β' m'.n r z/\Step β m w β' m' w':=by
 unfold jb at h;split at h
 ·rename_i e kl l kc c he;obtain⟨_,rfl⟩:=hl;obtain⟨_,rfl⟩:=hc;split at h
  ·rename_i i zs hi hz;split at h
   ·rename_i hcond;obtain⟨c1,c2,c3,c4,c5⟩:=hcond;split at h
    ·rename_i m1 hp;cases h;obtain⟨i',v,h1,h2,h3,h4⟩:=ij hz β m.n;rw[hi]at h1;cases h1;obtain⟨g1,g2⟩:=qh h4 (c.toNat*i.size) _ h3 (.inl c5);obtain⟨β',k1,k2,k3⟩:=m6 hm g2 hp;refine⟨.slice (some ⟨w.heap.size,0,none⟩) l.toNat c.toNat,β',_,?_,?_,k1⟩
     ·have hu:=jG he;have wl:IntKind.i64.wrap l=l:=IntWalk.i64_in l ⟨by omega,by omega⟩;have wc:IntKind.i64.wrap c=c:=IntWalk.i64_in c ⟨by omega,by omega⟩;have hsz:bT P e=some i.size:=by simp[bT,hi]
      have hz00:c.toNat*i.size=0->((Array.range (c.toNat*i.size)).map fun j=>(#[]:Array Value)[j%(#[]:Array Value).size]!)=((eC zs (c.toNat*i.size)).map (·.den β)).toArray:=fun hz0=>by rw[hz0];simp[eC]
      have hti:(typeInfo e).run P w = .ok i w:=by simp[typeInfo,hi]
      simp only[Instr.makeSlice,XC.den,asInt,asIntOf,Sem.run_bind,run_underlying hu,Result.andThen_ok,Sem.run_pure,hti,wl,wc]
      rw[if_neg (by
       have d1:decide (c<0)=false:=by simp;omega
       have d2:decide ((i.bytes:Int)*c>2^48)=false:=by simp;omega
       have d3:decide (l<0)=false:=by simp;omega
       have d4:decide (l>c)=false:=by simp;omega
       simp only[d1,d2,d3,d4];decide)]
      simp only[Sem.run_bind,run_askRoom,Result.andThen_ok,br hsz]
      by_cases hz0:c.toNat*i.size=0
      ·rw[if_pos hz0];simp only[Sem.run_bind,Sem.run_pure,Result.andThen_ok];rw[hz00 hz0];rfl
      ·rw[if_neg hz0];simp only[Sem.run_bind,cV hi h2,Result.andThen_ok,Sem.run_pure,g1];rfl
     ·exact⟨by show m.n<m'.n;omega,by simp only[XC.den,k2.1,k2.2,Nat.add_zero]⟩
    ·cases h
   ·cases h
  ·cases h
 ·cases h
def j8(P:Program)(t:TypeId)(sz:Nat)(x:XV)(m:Mem):Option (Nat×List XC):=
 match P.underlying t,x with
 | some (.slice _),.one .nils=>some (0,[])
 | some (.slice _),.one (.slice i off len _)=>if len=0 then some (0,[])else match m.get i with
   | .cells vs _ _ _=>if off+len*sz<=vs.length then some (len,(vs.drop off).take (len*sz))else .none
   | _ => .none
 | some (.slice _),.one (.lsl g k off len _ _)=>if len=0 then some (0,[])else match m.get g with
   | .late L=>match L[k]? with
     | some (c::cs)=>if off+len*sz<=(c::cs).length then some (len,(((c::cs).map (·.self g)).drop off).take (len*sz))else .none
     | _ => .none
   | _ => .none
 | some (.slice _),.one (.lem _)=>some (0,[])
 | some .string,.one (.str s)=>if sz=1 then some (s.length,s.map fun b => .int .u8 b.toNat)else .none
 | _,_ => .none
structure Qy(P:Program)(t:TypeId)(sz:Nat)(β : Env)(m:Mem)(v:Value)(n:Nat)(cs:List XC):Prop where
 len:cs.length=n*sz
 ok:∀c∈cs,c.ok m.n
 lenOf:∀w,(Builtin.lenOf v).run P w = .ok n w
 first:∀w,Rel β m w->(Builtin.firstCells sz n v).run P w = .ok (cs.map (·.den β)).toArray w
 firstK:∀w,Rel β m w->∀k,k<=n->(Builtin.firstCells sz k v).run P w = .ok ((cs.take (k*sz)).map (·.den β)).toArray w
 noInt:∃d,P.underlying t=some d/\((∃q,d = .slice q)\/d = .string)
theorem vU{P:Program}{t:TypeId}{sz n:Nat}{x:XV}{m:Mem}{cs:List XC}(h:j8 P t sz x m=some (n,cs)){β : Env}{v:Value}(hv:aL β m.n x v){w0:World}(hm0:Rel β m w0):Qy P t sz β m v n cs:=by
 unfold j8 at h;split at h
 ·rename_i e hu;cases h;obtain⟨_,rfl⟩:=hv;exact⟨by simp,by simp,fun _=>rfl,fun _ _=>rfl,fun _ _ k _=>by simp[Builtin.firstCells,XC.den],_,hu,.inl ⟨_,rfl⟩⟩
 ·rename_i e i off len cap hu;obtain⟨h1,rfl⟩:=hv
  by_cases hl0:len=0
  ·rw[if_pos hl0]at h;cases h;subst hl0
   exact⟨by simp,by simp,fun _=>by cases cap<;>rfl,fun _ _=>by cases cap<;>simp[Builtin.firstCells,XC.den,loadCells,loadCellsFrom],fun _ _ k hk=>by
    obtain rfl:k=0:=by omega
    cases cap<;>simp[Builtin.firstCells,XC.den,loadCells,loadCellsFrom],_,hu,.inl ⟨_,rfl⟩⟩
  rw[if_neg hl0]at h;split at h
  ·rename_i vs et opn ro hg;split at h
   ·rename_i hfit;cases h;have hok:=hm0.obj i h1;rw[hg]at hok;refine⟨by simp;omega,fun c hc=>hok.FH c (List.mem_of_mem_drop (List.mem_of_mem_take hc)),fun _=>by cases cap<;>rfl,fun w hm=>?_,fun w hm k hk=>?_,_,hu,.inl ⟨_,rfl⟩⟩
    ·have hob:=hm.obj i h1;rw[hg]at hob;have:=dq (P:=P) hob off (n*sz) hfit;cases cap<;>exact this
    ·have hob:=hm.obj i h1;rw[hg]at hob;have hkn:k*sz<=n*sz:=Nat.mul_le_mul_right _ hk;have:=dq (P:=P) hob off (k*sz) (by omega);have e:((vs.drop off).take (n*sz)).take (k*sz)=(vs.drop off).take (k*sz):=by rw[List.take_take,Nat.min_eq_left hkn]
     rw[e];cases cap<;>exact this
   ·cases h
  ·cases h
 ·rename_i e g k0 off len fl cut hu;obtain⟨h1,rfl⟩:=hv
  by_cases hl0:len=0
  ·rw[if_pos hl0]at h;cases h;subst hl0
   exact⟨by simp,by simp,fun _=>rfl,fun _ _=>by simp[Builtin.firstCells,XC.den,loadCells,loadCellsFrom],fun _ _ k hk=>by
    obtain rfl:k=0:=by omega
    simp[Builtin.firstCells,XC.den,loadCells,loadCellsFrom],_,hu,.inl ⟨_,rfl⟩⟩
  rw[if_neg hl0]at h;split at h
  ·rename_i L hg;split at h
   ·rename_i c0 cs0 hk0;split at h
    ·rename_i hfit;cases h;have hfit:off+n*sz<=((c0::cs0).map (·.self g)).length:=by rw[List.length_map];exact hfit
     obtain⟨et,zz,hok⟩:=(hm0.late g h1 L hg).Ju h1 hk0 (by simp);refine⟨by rw[List.length_take,List.length_drop];omega,fun c hc=>hok.FH c (List.mem_of_mem_drop (List.mem_of_mem_take hc)),fun _=>rfl,fun w hm=>?_,fun w hm k hk=>?_,_,hu,.inl ⟨_,rfl⟩⟩
     ·obtain⟨et,zz,hob⟩:=(hm.late g h1 L hg).Ju h1 hk0 (by simp);exact dq (P:=P) hob off (n*sz) hfit
     ·obtain⟨et,zz,hob⟩:=(hm.late g h1 L hg).Ju h1 hk0 (by simp);have hkn:k*sz<=n*sz:=Nat.mul_le_mul_right _ hk;have:=dq (P:=P) hob off (k*sz) (by omega);have e:((((c0::cs0).map (·.self g)).drop off).take (n*sz)).take (k*sz)=(((c0::cs0).map (·.self g)).drop off).take (k*sz):=by rw[List.take_take,Nat.min_eq_left hkn]
      rw[e];exact this
    ·cases h
   ·cases h
  ·cases h
 ·rename_i e i hu;obtain⟨_,rfl⟩:=hv;cases h
  rcases yK (aq.val i)with e|⟨a,cap,e⟩
  ·exact⟨by simp,by simp,fun _=>by simp only[XC.den,e];rfl,fun _ _=>by simp only[XC.den,e];simp[Builtin.firstCells],fun _ _ k hk=>by
    obtain rfl:k=0:=by omega
    simp only[XC.den,e]
    simp[Builtin.firstCells],_,hu,.inl ⟨_,rfl⟩⟩
  ·exact⟨by simp,by simp,fun _=>by simp only[XC.den,e];rfl,fun _ _=>by simp only[XC.den,e];simp[Builtin.firstCells,loadCells,loadCellsFrom],fun _ _ k hk=>by
    obtain rfl:k=0:=by omega
    simp only[XC.den,e]
    simp[Builtin.firstCells,loadCells,loadCellsFrom],_,hu,.inl ⟨_,rfl⟩⟩
 ·rename_i s hu;obtain⟨_,rfl⟩:=hv;split at h
  ·rename_i hs;cases h;refine⟨by simp[hs],fun c hc=>?_,fun _=>rfl,fun w _=>?_,fun w _ k _=>?_,_,hu,.inr rfl⟩
   ·obtain⟨b,_,rfl⟩:=List.mem_map.1 hc;trivial
   ·have e1:(⟨s.toArray⟩:ByteArray).extract 0 s.length=⟨s.toArray⟩:=by rw[lJ];simp
    simp only[Builtin.firstCells,XC.den,e1,Sem.run_pure]
    congr 1
    apply Array.toList_inj.1;simp[XC.den]
   ·have e1:(⟨s.toArray⟩:ByteArray).extract 0 k=⟨(s.take k).toArray⟩:=by rw[lJ];simp
    subst hs;simp only[Builtin.firstCells,XC.den,e1,Sem.run_pure]
    congr 1
    apply Array.toList_inj.1;simp[List.map_take];rfl
  ·cases h
 ·cases h
section
variable {P:Program} {t e ty:TypeId} {sz n sLen sCap:Nat} {ts:Array TypeId} {args:Array Value} {x:Value} {base:Option Addr} {t1:TypeId} {w:World}
theorem gR(ht0:ts[0]? = some t)(hu:P.underlying t=some (.slice e))(hs:bT P e=some sz)(ht1:ts[1]? = some t1){d:TypeDesc}(hd1:P.underlying t1=some d)(hd2:(∃q,d = .slice q)\/d = .string)
 (ha0:args[0]? = some (.slice base sLen sCap)) (ha1:args[1]? = some x) (hl:∀w,(Builtin.lenOf x).run P w = .ok n w) (hr:sLen+n<=sCap) {new:Array Value}(hf:(Builtin.firstCells sz n x).run P w = .ok new w) :
 (Builtin.append_ ts ty args).run P w=(do
   if let some a:=base then storeCells (a.add (sLen*sz)) new.toList
   pure (.slice base (sLen+n) sCap):Sem Value).run P w:=by
 rcases hd2 with⟨q,rfl⟩|rfl<;>
  (simp only[Builtin.append_,ht0,ht1,ha0,ha1,Sem.run_bind,run_underlying hu,Result.andThen_ok,br hs,run_underlying hd1,Sem.run_pure,Bool.false_eq_true,if_false,hl,hr,if_true,Bool.not_false,hf]
   cases base<;>rfl)
theorem nj(ht0:ts[0]? = some t)(hu:P.underlying t=some (.slice e))(hs:bT P e=some sz){i:TypeInfo}(hi:P.info? e=some i){z:Value}(hz0:i.zero=some z)(ht1:ts[1]? = some t1){d:TypeDesc}(hd1:P.underlying t1=some d)(hd2:(∃q,d = .slice q)\/d = .string)
 (ha0:args[0]? = some (.slice base sLen sCap)) (ha1:args[1]? = some x) (hl:∀w,(Builtin.lenOf x).run P w = .ok n w) (hr:sCap<sLen+n) (hmax:sLen+n<=9223372036854775807) (hby:(sLen+n)*i.bytes<=140737488355328)
 {yB new:Array Value}(hf0:(Builtin.firstCells sz sLen (.slice base sLen sCap)).run P w.drew = .ok yB w.drew) (hf:(Builtin.firstCells sz n x).run P w.drew = .ok new w.drew) :
 (Builtin.append_ ts ty args).run P w = .ok (.slice (some ⟨w.heap.size,0,none⟩) (sLen+n) (grownCap w (sLen+n) sCap e))
   (w.drew.alloc (.cells (yB++new++Builtin.zeroCells z.cells (grownCap w (sLen+n) sCap e-(sLen+n))) e)):=by
 have hti:∀w,(typeInfo e).run P w = .ok i w:=fun w=>by simp[typeInfo,hi]
 have hfit:=growslice_fits hr hby
 have h63:¬(((sLen+n:Nat):Int)>IntKind.i64.max):=by
  have:IntKind.i64.max=9223372036854775807:=by decide
  rw[this];omega
 have h48:¬(Builtin.nextslicecap (sLen+n) sCap*i.bytes>2^48):=by omega
 rcases hd2 with⟨q,rfl⟩|rfl<;>
  (simp only[Builtin.append_,ht0,ht1,ha0,ha1,Sem.run_bind,run_underlying hu,Result.andThen_ok,br hs,run_underlying hd1,Sem.run_pure,Bool.false_eq_true,if_false,hl,Nat.not_le.2 hr,Bool.not_false,if_true,hti,h63,h48,false_and,
    run_choose,Question.forced,run_askRoom,World.drew_eq,hf0,hf,cV hi hz0]
   rfl)
end
theorem Step.move{β : Env}{m m':Mem}{w w':World}(h:Rel β m w){i:Nat}(hi:i<m.n)(hl:(m.get i).own=true){o:ak}(hp:(m.put i .dead).push o=some m')
 (hos:w'.os=w.os) (htape:w'.tape=w.tape) (hout:w'.output=w.output) (hsz:w'.heap.size=w.heap.size)
 (hother:∀k,k ≠ β.bG i->w'.heap[k]? = w.heap[k]?) (ho:∀β',Ext m.n β β'->fb β' m'.n (β.base i) (β.size i) o w'.heap[β.bG i]?) (hnl:∀L,o ≠ .late L:=by intro L hL;cases hL) :
 ∃β',Step β m w β' m' w'/\(β'.bG m.n = β.bG i /\ β'.base m.n = β.base i) /\ β'.size m.n = β.size i/\m'.n=m.n+1:=by
 obtain⟨h1,h2,h3,h4⟩:=Mem.bu hp;simp only[Mem.dZ]at h1 h2 h3 h4;have hib:i<Mem.bound:=by omega
 let β':Env:=⟨fun j=>if j=m.n then β.bG i else β.bG j,fun j=>if j=m.n then β.base i else β.base j,fun j=>if j=m.n then β.size i else β.size j⟩
 have hext:Ext m.n β β':=fun j hj=>⟨by simp only[β'];rw[if_neg (by omega)],by simp only[β'];rw[if_neg (by omega)],by simp only[β'];rw[if_neg (by omega)]⟩
 have hblk : β'.bG m.n = β.bG i:=by simp[β']
 have hszn : β'.size m.n = β.size i:=by simp[β']
 have hban : β'.base m.n = β.base i:=by simp[β']
 have hgn:m'.get m.n=o:=by unfold Mem.get;rw[h3]
 have hgi:m'.get i = .dead:=by
  unfold Mem.get;rw[h4 i (by omega),Mem.pN m _ hi hib]
 have hget:∀j,j≠m.n->j≠i->m'.get j=m.get j:=fun j hj hji=>by
  unfold Mem.get;rw[h4 j hj,Mem.gY m _ hji]
 have hframe:∀k,k<w.heap.size->¬kY β m k->w'.heap[k]? = w.heap[k]?:=by
  intro k hk hn;exact hother k (fun e=>hn ⟨i,hi,hl,e.symm⟩)
 have himg:∀k,k<w.heap.size->kY β' m' k->kY β m k:=by
  intro k hk ⟨j,hj,hlj,hb⟩
  by_cases hjn:j=m.n
  ·rw[hjn,hblk]at hb;exact⟨i,hi,hl,hb⟩
  ·have hji:j≠i:=fun e=>by subst e;rw[hgi]at hlj;cases hlj
   rw[hget j hjn hji]at hlj;rw[(hext j (by omega)).1]at hb;exact⟨j,by omega,hlj,hb⟩
 have hsame:∀j,j<m'.n->∀L,m'.get j = .late L->j<m.n/\m.get j = .late L:=fun j hj L hL=>by
  by_cases hjn:j=m.n
  ·rw[hjn,hgn]at hL;exact absurd hL (hnl L)
  ·by_cases hji:j=i
   ·rw[hji,hgi]at hL;cases hL
   ·rw[hget j hjn hji]at hL;exact⟨by omega,hL⟩
 refine⟨β',⟨by omega,hext,⟨by omega,cg.push (cg.put h.fresh _) hp,?_,?_,l7 h (by omega) hext hframe himg hsame⟩,hos,htape,hout,by omega,hframe,himg,fun k _ hk => .inr (hk.yB hext hsame)⟩,⟨hblk,hban⟩,hszn,h2⟩
 ·intro j hj
  by_cases hjn:j=m.n
  ·subst hjn;rw[hgn,hblk,hszn,hban];exact ho β' hext
  ·by_cases hji:j=i
   ·subst hji;rw[hgi];trivial
   ·rw[hget j hjn hji,(hext j (by omega)).1,(hext j (by omega)).2.1,(hext j (by omega)).2.2]
    by_cases hlv:(m.get j).live=true
    ·rw[hother _ (fun e=>hji (h.inj i j hi (by omega) hl hlv e.symm).symm)];exact(h.obj j (by omega)).ext hext (by omega)
    ·cases hg:m.get j with
     | dead=>trivial
     | late L=>trivial
     | cells vs elem opn ro=>rw[hg]at hlv;simp[ak.live]at hlv
     | map es=>rw[hg]at hlv;simp[ak.live]at hlv
 ·intro a b ha hb hla hlb he
  have low:∀j,j<m'.n->j≠m.n->(m'.get j).live=true->j<m.n/\j≠i/\(m.get j).live=true /\ β'.bG j = β.bG j:=fun j hj hjn hlv=>by
   have hji:j≠i:=fun e=>by subst e;rw[hgi]at hlv;cases hlv
   rw[hget j hjn hji]at hlv;exact⟨by omega,hji,hlv,(hext j (by omega)).1⟩
  have lowo:∀j,j<m'.n->j≠m.n->(m'.get j).own=true->j<m.n/\j≠i/\(m.get j).own=true /\ β'.bG j = β.bG j:=fun j hj hjn hlv=>by
   have hji:j≠i:=fun e=>by subst e;rw[hgi]at hlv;cases hlv
   rw[hget j hjn hji]at hlv;exact⟨by omega,hji,hlv,(hext j (by omega)).1⟩
  by_cases han:a=m.n
  ·by_cases hbn:b=m.n
   ·omega
   ·obtain⟨k1,k2,k3,k4⟩:=low b hb hbn hlb;rw[han,hblk,k4]at he;exact(k2 (h.inj i b hi k1 hl k3 he).symm).elim
  ·obtain⟨k1,k2,k3,k4⟩:=lowo a ha han hla
   by_cases hbn:b=m.n
   ·rw[hbn,hblk,k4]at he;exact(k2 (h.inj a i k1 hi k3 (ak.bO hl) he)).elim
   ·obtain⟨q1,q2,q3,q4⟩:=low b hb hbn hlb;rw[k4,q4]at he;exact h.inj a b k1 q1 k3 q3 he
def jh(P : Program)(t t1:TypeId)(s x:XV)(m:Mem):Option (XV×Mem):=
 match dX P t with
 | some e => match P.info? e,rq P e with
   | some i, some zs=>
     match j8 P t1 i.size x m with
     | some (n, cs)=>
       if zs.length=i.size/\0<i.size then
        match s with
        | .one .nils=>
          if n=0 then some (.one .nils,m)
          else if n<=9223372036854775807/\n*i.bytes<=140737488355328 then
           match m.push (.cells cs e true false)with
           | some m'=>some (.one (.slice m.n 0 n (.toEnd i.size)),m')
           | .none => .none
          else .none
        | .one (.slice j off len (.exact c))=>
          if len + n<=c then
           if n=0 then some (.one (.slice j off len (.exact c)),m)
           else match m.get j with
            | .cells vs et opn false=>
              if off+len*i.size+cs.length<=vs.length then
               some (.one (.slice j off (len+n) (.exact c)),m.put j (.cells (vs.take (off+len*i.size)++cs++vs.drop (off+len*i.size+cs.length)) et opn false))
              else .none
            | _ => .none
          else if len+n<=9223372036854775807/\(len+n)*i.bytes<=140737488355328 then
           match m.get j with
           | .cells vs _ _ _=>
             if off+len*i.size<=vs.length then
              match m.push (.cells ((vs.drop off).take (len*i.size)++cs) e true false)with
              | some m'=>some (.one (.slice m.n 0 (len+n) (.toEnd i.size)),m')
              | .none => .none
             else .none
           | _ => .none
          else .none
        | .one (.slice j off len (.toEnd sz))=>
          if sz = i.size/\len+n<=9223372036854775807/\(len+n)*i.bytes<=140737488355328 then
           match m.get j with
           | .cells vs et opn false=>
             if n=0 then(if off+len*i.size<=vs.length then some (.one (.slice j off len (.toEnd sz)),m)else .none)
             else if off=0/\vs.length=len*i.size/\opn=true/\et=e then
              match (m.put j .dead).push (.cells (vs++cs) e true false)with
              | some m'=>some (.one (.slice m.n 0 (len+n) (.toEnd sz)),m')
              | .none => .none
             else .none
           | _ => .none
          else .none
        | _ => .none
       else .none
     | .none => .none
   | _,_ => .none
 | .none => .none
end Go.Xm
namespace Go.Xm
variable [aq]
theorem xc{β : Env}{m m':Mem}{w:World}(hm:Rel β m w){vs:List XC}{e:TypeId}{isz need cap:Nat}(hc:∀c∈vs,c.ok m.n)(hp:m.push (.cells vs e true false)=some m')(hv:vs.length=need*isz)(hcap:need<=cap)
 {rest:Array Value}(hr:rest.size=(cap-need)*isz) :
 ∃β',Step β m w β' m' (w.drew.alloc (.cells ((vs.map (·.den β)).toArray++rest) e))/\(β'.bG m.n=w.heap.size /\ β'.base m.n=0) /\ β'.size m.n=cap*isz/\m'.n=m.n+1:=by
 have hn:=(Mem.bu hp).2.1;have hd:=Step.drew hm;have hsz:need*isz+(cap-need)*isz=cap*isz:=by rw[<-Nat.add_mul];congr 1;omega
 obtain⟨β',h1,h2,h3,h4⟩:=Step.push hd.rel hp (ob := .cells ((vs.map (·.den β)).toArray++rest) e) (sz:=cap*isz) (fun β' he=>
  ⟨(vs.map (·.den β)).toArray++rest,(0,0),rfl,by simp[hr,hv,hsz],by simp only[if_true];rw[hv];exact Nat.mul_le_mul_right _ hcap,fun _=>⟨rfl,rfl⟩,fun c hm=>XC.dg (by omega) (hc c hm),by
    rw[dL he hc,Array.toList_append,List.drop_zero];have hl:vs.length=(vs.map (·.den β)).length:=by simp
    rw[hl]
    exact List.take_left⟩)
 exact⟨β',hd.trans h1,⟨h2,h4⟩,h3,hn⟩
theorem pB{cap isz:Nat}(h:0<isz):(cap*isz-0)/isz=cap:=by rw[Nat.sub_zero,Nat.mul_div_cancel _ h]
theorem wC{P : Program}{t t1:TypeId}{s x r:XV}{m m':Mem}(h:jh P t t1 s x m=some (r,m')){β : Env}{w:World}(hm:Rel β m w){ts:Array TypeId}{args:Array Value}(ht0:ts[0]? = some t)(ht1:ts[1]? = some t1)
 {u v:Value}(ha0:args[0]? = some u) (ha1:args[1]? = some v) (hu:aL β m.n s u) (hv:aL β m.n x v) (ty:TypeId) :
 ∃z β' w',(Builtin.append_ ts ty args).run P w = .ok z w'/\aL β' m'.n r z/\Step β m w β' m' w':=by
 unfold jh at h;split at h
 ·rename_i e he;have hue:=jG he;split at h
  ·rename_i i zs hi hz;split at h
   ·rename_i n cs hsrc;have so:=vU hsrc hv hm;have hs:bT P e=some i.size:=by simp[bT,hi]
    obtain⟨i',z,hi',hzv,hzc,hzok⟩:=ij hz β m.n;rw[hi]at hi';cases hi';obtain⟨d,hd1,hd2⟩:=so.noInt;have hdr:=(Step.drew hm).rel;split at h
    ·rename_i hzl;obtain⟨hzl,hpos⟩:=hzl;have hzsz:z.cells.size=i.size:=by rw[hzc];simp[hzl]
     have grow:∀(base:Option Addr) (sLen sCap:Nat) (olds:List XC) (m1:Mem),args[0]? = some (.slice base sLen sCap)->sCap<sLen+n->sLen+n<=9223372036854775807->(sLen+n)*i.bytes<=140737488355328 ->
      (Builtin.firstCells i.size sLen (.slice base sLen sCap)).run P w.drew = .ok (olds.map (·.den β)).toArray w.drew->(∀c∈olds,c.ok m.n)->olds.length=sLen*i.size->m.push (.cells (olds++cs) e true false)=some m1 ->
      ∃z β' w',(Builtin.append_ ts ty args).run P w = .ok z w'/\aL β' m1.n (.one (.slice m.n 0 (sLen+n) (.toEnd i.size))) z/\Step β m w β' m1 w':=by
      intro base sLen sCap olds m1 ha0' hlt hmax hby hf0 hok hlo hpush;have hrun:=nj (P:=P) (ty:=ty) ht0 hue hs hi hzv ht1 hd1 hd2 ha0' ha1 so.lenOf hlt hmax hby hf0 (so.first w.drew hdr);have hge:=grownCap_ge w (sLen+n) sCap e
      obtain⟨β',k1,k2,k3,k4⟩:=xc (rest:=Builtin.zeroCells z.cells (grownCap w (sLen+n) sCap e-(sLen+n))) hm (vs:=olds++cs) (isz:=i.size) (need:=sLen+n) (cap:=grownCap w (sLen+n) sCap e)
       (fun c hc=>by rcases List.mem_append.1 hc with hc|hc;exact hok c hc;exact so.ok c hc) hpush (by rw[List.length_append,hlo,so.len,Nat.add_mul]) hge (by rw[size_zeroCells,hzsz])
      refine⟨_,β',_,hrun,?_,?_⟩
      ·refine⟨by show m.n<m1.n;omega,?_⟩;simp only[XC.den,k2.1,k2.2,k3,pB hpos,Nat.add_zero]
      ·have e1:((olds++cs).map (·.den β)).toArray=(olds.map (·.den β)).toArray++(cs.map (·.den β)).toArray:=by simp
       rw[e1]at k1;exact k1
     split at h
     ·-- nil
      obtain⟨_,rfl⟩:=hu;split at h
      ·rename_i hn;cases h;refine⟨.slice none 0 0,β,w,?_,⟨trivial,rfl⟩,Step.refl hm⟩;rw[gR (P:=P) (ty:=ty) ht0 hue hs ht1 hd1 hd2 ha0 ha1 so.lenOf (by omega) (so.first w hm),hn];rfl
      ·split at h
       ·rename_i hb;split at h
        ·rename_i m1 hp;cases h;have:=grow none 0 0 [] m' ha0 (by omega) (by omega) (by simpa using hb.2) (by simp[Builtin.firstCells]) (by simp) (by simp) (by simpa using hp);simpa using this
        ·cases h
       ·cases h
     ·-- exact
      rename_i j off len c;obtain⟨hj,rfl⟩:=hu;split at h
      ·rename_i hroom;have hrun:=gR (P:=P) (ty:=ty) ht0 hue hs ht1 hd1 hd2 ha0 ha1 so.lenOf hroom (so.first w hm);split at h
       ·rename_i hn;cases h;have hcs:cs = []:=List.eq_nil_of_length_eq_zero (by rw[so.len,hn];simp);refine⟨.slice (some ⟨β.bG j,β.base j+off,none⟩) len c,β,w,?_,⟨hj,rfl⟩,Step.refl hm⟩;rw[hrun,hcs,hn];rfl
       ·split at h
        ·rename_i vs et opn hg;split at h
         ·rename_i hfit;cases h;obtain⟨w',g1,g2⟩:=pX hm hj hg so.ok hfit;refine⟨.slice (some ⟨β.bG j,β.base j+off,none⟩) (len+n) c,β,w',?_,⟨by rw[Mem.dZ];exact hj,rfl⟩,g2⟩;rw[hrun];simp only[Addr.ec,Nat.add_assoc,Sem.run_bind,g1 P,Result.andThen_ok,Sem.run_pure]
         ·cases h
        ·cases h
      ·rename_i hroom;split at h
       ·rename_i hb;split at h
        ·rename_i vs et opn ro hg;split at h
         ·rename_i hfit;split at h
          ·rename_i m1 hp;cases h;have hob:=hdr.obj j hj;rw[hg]at hob;exact grow _ len c _ m' ha0 (by omega) hb.1 hb.2 (dq (P:=P) hob off (len*i.size) hfit) (fun c hc=>hob.FH c (List.mem_of_mem_drop (List.mem_of_mem_take hc))) (by simp;omega) hp
          ·cases h
         ·cases h
        ·cases h
       ·cases h
     ·-- to the end
      rename_i j off len sz;obtain⟨hj,rfl⟩:=hu;split at h
      ·rename_i hb;obtain⟨rfl,hmax,hby⟩:=hb;split at h
       ·rename_i vs et opn hg;have hob:=hm.obj j hj;rw[hg]at hob
        have hvl:vs.length <= β.size j:=by
         obtain⟨cs',fr,g1,g2,g3,_⟩:=hob;split at g3<;>omega
        split at h
        ·rename_i hn;split at h
         ·rename_i hfit;cases h
          have hroom:len+n<=(β.size j-off)/i.size:=by
           rw[hn,Nat.add_zero,Nat.le_div_iff_mul_le hpos];omega
          have hrun:=gR (P:=P) (ty:=ty) ht0 hue hs ht1 hd1 hd2 ha0 ha1 so.lenOf hroom (so.first w hm);have hcs:cs = []:=List.eq_nil_of_length_eq_zero (by rw[so.len,hn];simp);refine⟨.slice (some ⟨β.bG j,β.base j+off,none⟩) len ((β.size j-off)/i.size),β,w,?_,⟨hj,rfl⟩,Step.refl hm⟩;rw[hrun,hcs,hn];rfl
         ·cases h
        ·split at h
         ·rename_i hc;obtain⟨rfl,hvs,rfl,rfl⟩:=hc;split at h
          ·rename_i m1 hp;cases h
           by_cases hroom:len+n<=(β.size j-0)/i.size
           ·have hrun:=gR (P:=P) (ty:=ty) ht0 hue hs ht1 hd1 hd2 ha0 ha1 so.lenOf hroom (so.first w hm);obtain⟨cur,fr,g1,g2,g3,g4,g5,g6⟩:=hob;obtain⟨hfr,hlo⟩:=g4 rfl;subst hfr;rw[hlo,List.drop_zero]at g6
            have hcap:(len+n)*i.size<=cur.size:=by
             rw[Nat.le_div_iff_mul_le hpos]at hroom;omega
            have hnl:len*i.size+cs.length=(len+n)*i.size:=by rw[so.len,Nat.add_mul]
            have hst:=run_storeCells_at P (β.bG j) (len*i.size) et (cs.map (·.den β)) 0 cur w g1 (by simp;omega) sE;simp only[Nat.add_zero,List.length_map]at hst
            obtain⟨β',k1,k2,k3,k4⟩:=Step.move hm hj (by rw[hg];rfl) hp (w':=w.setRow (β.bG j) (cur.toList.take (len*i.size)++cs.map (·.den β)++cur.toList.drop (len*i.size+cs.length)).toArray)
             rfl rfl rfl (by simp) (fun k hk=>pF w _ _ k hk) (fun β' hx=>by
              have hn1:m.n<=m'.n:=by have:=(Mem.bu hp).2.1;simp only[Mem.dZ]at this;omega
              refine⟨_,(0,0),setRow_heap w (β.bG j) cur _ et (0,0) g1,?_,?_,fun _=>⟨rfl,hlo⟩,?_,?_⟩
              ·simp;omega
              ·simp only[if_true,List.length_append];omega
              ·intro c hc
               rcases List.mem_append.1 hc with hc|hc
               ·exact XC.dg hn1 (g5 c hc)
               ·exact XC.dg hn1 (so.ok c hc)
              ·rw[hvs]at g6;rw[hlo,List.drop_zero];simp only[g6];have hl:(vs++cs).length=(vs.map (·.den β)++cs.map (·.den β)).length:=by simp
               rw[hl,List.take_left,List.map_append,dL hx g5,dL hx so.ok])
            refine⟨.slice (some ⟨β.bG j,β.base j+0,none⟩) (len+n) ((β.size j-0)/i.size),β',_,?_,?_,k1⟩
            ·rw[hrun];simp only[hlo,Addr.ec,Nat.zero_add,Sem.run_bind,hst,Result.andThen_ok,Sem.run_pure]
            ·exact⟨by show m.n<m'.n;omega,by simp only[XC.den,k2.1,k2.2,k3]⟩
           ·-- it grows
            have hobd:=hdr.obj j hj;rw[hg]at hobd;have hl0:=dq (P:=P) hobd 0 (len*i.size) (by omega);have hall:(vs.drop 0).take (len*i.size)=vs:=by rw[List.drop_zero,<-hvs,List.take_length]
            rw[hall]at hl0;have hkill:=Step.kill hm hj;have hrun:=nj (P:=P) (ty:=ty) ht0 hue hs hi hzv ht1 hd1 hd2 ha0 ha1 so.lenOf (Nat.lt_of_not_le hroom) hmax hby hl0 (so.first w.drew hdr);have hge:=grownCap_ge w (len+n) ((β.size j-0)/i.size) et
            obtain⟨β',k1,k2,k3,k4⟩:=xc (rest:=Builtin.zeroCells z.cells (grownCap w (len+n) ((β.size j-0)/i.size) et-(len+n))) hkill.rel (vs:=vs++cs) (isz:=i.size) (need:=len+n) (cap:=grownCap w (len+n) ((β.size j-0)/i.size) et)
             (fun c hc=>by
               rw[Mem.dZ]
               rcases List.mem_append.1 hc with hc|hc
               ·exact hob.FH c hc
               ·exact so.ok c hc) hp (by rw[List.length_append,hvs,so.len,Nat.add_mul]) hge (by rw[size_zeroCells,hzsz])
            simp only[Mem.dZ]at k2 k3 k4;refine⟨_,β',_,hrun,?_,?_⟩
            ·refine⟨by show m.n<m'.n;omega,?_⟩;simp only[XC.den,k2.1,k2.2,k3,pB hpos,Nat.add_zero]
            ·have e1:((vs++cs).map (·.den β)).toArray=(vs.map (·.den β)).toArray++(cs.map (·.den β)).toArray:=by simp
             rw[e1]at k1;exact hkill.trans k1
          ·cases h
         ·cases h
       ·cases h
      ·cases h
     ·cases h
    ·cases h
   ·cases h
  ·cases h
 ·cases h
def vK(P : Program)(t t1:TypeId)(d x:XV)(m:Mem):Option (XV×Mem):=
 match dX P t with
 | some e => match bT P e with
   | some sz => match j8 P t1 sz x m with
     | some (n,cs)=>match d with
       | .one .nils=>some (.one (.int .i64 0),m)
       | .one (.slice j off len _)=>match m.get j with
         | .cells vs et opn false=>
           if off+(Nat.min n len)*sz<=vs.length then
            some (.one (.int .i64 (Nat.min n len:Nat)),m.put j (.cells (vs.take off++cs.take ((Nat.min n len)*sz)++vs.drop (off+(cs.take ((Nat.min n len)*sz)).length)) et opn false))
           else .none
         | _ => .none
       | _ => .none
     | .none => .none
   | .none => .none
 | .none => .none
theorem Bk{P : Program}{t t1:TypeId}{d x r:XV}{m m':Mem}(h:vK P t t1 d x m=some (r,m')){β : Env}{w:World}(hm:Rel β m w){ts:Array TypeId}{args:Array Value}(ht0:ts[0]? = some t)
 {u v:Value}(ha0:args[0]? = some u) (ha1:args[1]? = some v) (hu:aL β m.n d u) (hv:aL β m.n x v) (ty:TypeId) :
 ∃z β' w',(Builtin.copy_ ts ty args).run P w = .ok z w'/\aL β' m'.n r z/\Step β m w β' m' w':=by
 unfold vK at h;split at h
 ·rename_i e he;have hue:=jG he;split at h
  ·rename_i sz hs;split at h
   ·rename_i n cs hsrc;have so:=vU hsrc hv hm;split at h
    ·cases h;obtain⟨_,rfl⟩:=hu;refine⟨.int .i64 0,β,w,?_,⟨trivial,rfl⟩,Step.refl hm⟩;have hk:=so.firstK w hm 0 (Nat.zero_le _);simp only[Builtin.copy_,ht0,ha0,ha1,XC.den,Sem.run_bind,run_underlying hue,Result.andThen_ok,so.lenOf,Nat.min_zero,br hs,hk,Sem.run_pure];rfl
    ·rename_i j off len cap;obtain⟨hj,rfl⟩:=hu;split at h
     ·rename_i vs et opn hg;split at h
      ·rename_i hfit;cases h;have hmin:Nat.min n len<=n:=Nat.min_le_left _ _;have hk:=so.firstK w hm (Nat.min n len) hmin
       have hlen:(cs.take ((Nat.min n len)*sz)).length=(Nat.min n len)*sz:=by
        rw[List.length_take,so.len,Nat.min_eq_left (Nat.mul_le_mul_right _ hmin)]
       obtain⟨w',g1,g2⟩:=pX hm hj hg (cs:=cs.take ((Nat.min n len)*sz)) (off:=off) (fun c hc=>so.ok c (List.mem_of_mem_take hc)) (by rw[hlen];exact hfit);refine⟨.int .i64 (Nat.min n len:Nat),β,w',?_,⟨trivial,rfl⟩,g2⟩;have e1:∃c',XC.den β (.slice j off len cap) = .slice (some ⟨β.bG j,β.base j+off,none⟩) len c':=by cases cap<;>exact⟨_,rfl⟩
       obtain⟨c',e1⟩:=e1;rw[e1]at ha0;simp only[Builtin.copy_,ht0,ha0,ha1,Sem.run_bind,run_underlying hue,Result.andThen_ok,so.lenOf,br hs,hk,g1 P,Sem.run_pure,goInt]
      ·cases h
     ·cases h
    ·cases h
   ·cases h
  ·cases h
 ·cases h
def cf(P:Program)(ρ : Operand->XV)(op:Op)(m:Mem):Option (XV×Mem):=
 match op with
 | .alloc t=>oD P t m
 | .box t x=>GS t (ρ x) m
 | .store t a x=>kX P t (ρ a) (ρ x) m
 | .buildSlice t len parts=>dz P t len (parts.toList.map fun p=>(p.1,ρ p.2)) m
 | .makeMap _ .none=>mj m
 | .mapUpdate t mp k x=>hJ P t (ρ mp) (ρ k) (ρ x) m
 | .insert t mp k x=>hJ P t (ρ mp) (ρ k) (ρ x) m
 | .makeSlice t l c=>jb P t (ρ l) (ρ c) m
 | .call ⟨.builtin .append,args,ts⟩=>match args.toList,ts[0]?,ts[1]? with
   | [s,x],some t,some t1=>jh P t t1 (ρ s) (ρ x) m
   | _,_,_ => .none
 | .call ⟨.builtin .copy,args,ts⟩=>match args.toList,ts[0]?,ts[1]? with
   | [s,x],some t,some t1=>vK P t t1 (ρ s) (ρ x) m
   | _,_,_ => .none
 | _ => .none
theorem zv{args:Array Operand}{s x:Operand}(h:args.toList = [s,x])(ev:Operand->Value):(args.map ev)[0]? = some (ev s)/\(args.map ev)[1]? = some (ev x):=by
 have:args.map ev = #[ev s,ev x]:=by apply Array.toList_inj.1;simp[h]
 rw[this];exact⟨rfl,rfl⟩
theorem zc{P:Program}{ρ : Operand->XV}{o:Oper}{m m':Mem}{r:XV}(h:cf P ρ o.op m=some (r,m')){β : Env}{w:World}(hm:Rel β m w){ev:Operand->Value}(hr:∀x,aL β m.n (ρ x) (ev x)) :
 ES P (execOp ev o) β m w r m':=by
 unfold cf at h;split at h
 ·rename_i t ho;exact yX h hm ho
 ·rename_i t x ho;exact C9 h hm ho (hr x)
 ·rename_i t a x ho;exact za h hm ho (hr a) (hr x)
 ·rename_i t len parts ho
  obtain⟨v,β',w',h1,h2,h3⟩:=rk h hm (vs:=parts.map fun(i,x)=>(i,ev x)) (by
   rw[Array.toList_map]
   exact dj.n9 _ _ _ fun p _=>⟨rfl,hr p.2⟩)
  exact⟨.value v,v,β',w',by simp only[execOp,ho,Sem.run_bind,h1,Result.andThen_ok,Sem.run_pure],rfl,h2,h3⟩
 ·rename_i t ho;exact vQ h hm ho
 ·rename_i t mp k x ho;obtain⟨rfl,β',w',h1,h2⟩:=mn h hm (hr mp) (hr k) (hr x);exact⟨.skip,undef,β',w',by simp only[execOp,ho,Sem.run_bind,h1,Result.andThen_ok,Sem.run_pure],rfl,aL.skip,h2⟩
 ·rename_i t mp k x ho;obtain⟨rfl,β',w',h1,h2⟩:=mn h hm (hr mp) (hr k) (hr x);exact⟨.skip,undef,β',w',by simp only[execOp,ho,Sem.run_bind,h1,Result.andThen_ok,Sem.run_pure],rfl,aL.skip,h2⟩
 ·rename_i t l c ho;obtain⟨v,β',w',h1,h2,h3⟩:=sj h hm (hr l) (hr c);exact⟨.value v,v,β',w',by simp only[execOp,ho,Sem.run_bind,h1,Result.andThen_ok,Sem.run_pure],rfl,h2,h3⟩
 ·rename_i args ts ho;split at h
  ·rename_i s x t t1 hargs ht0 ht1;obtain⟨ha0,ha1⟩:=zv hargs ev;obtain⟨v,β',w',h1,h2,h3⟩:=wC h hm ht0 ht1 ha0 ha1 (hr s) (hr x) o.type;exact⟨.value v,v,β',w',by simp only[execOp,ho,resolve,invoke,builtin,Sem.run_bind,h1,Result.andThen_ok,Sem.run_pure],rfl,h2,h3⟩
  ·cases h
 ·rename_i args ts ho;split at h
  ·rename_i s x t t1 hargs ht0 ht1;obtain⟨ha0,ha1⟩:=zv hargs ev;obtain⟨v,β',w',h1,h2,h3⟩:=Bk h hm ht0 ha0 ha1 (hr s) (hr x) o.type;exact⟨.value v,v,β',w',by simp only[execOp,ho,resolve,invoke,builtin,Sem.run_bind,h1,Result.andThen_ok,Sem.run_pure],rfl,h2,h3⟩
  ·cases h
 ·cases h
end Go.Xm
namespace Go.Xm
variable [aq]
inductive rC:Mem->Mem->Prop where
 | same (m:Mem):rC m m
 | put (m:Mem) (i:Nat) (o:ak):rC m (m.put i o)
 | push {m m':Mem} {o:ak}:m.push o=some m'->rC m m'
 | trans {a b c:Mem}:rC a b->rC b c->rC a c
theorem rC.mono{m m':Mem}(h:rC m m'):m.cg->qn m m'/\m'.cg:=by
 induction h with
 | same m=>exact fun hf=>⟨qn.refl m,hf⟩
 | put m i o=>exact fun hf=>⟨qn.put m i o,cg.put hf o⟩
 | push hp=>exact fun hf=>⟨qn.push hf hp,cg.push hf hp⟩
 | trans _ _ ih1 ih2=>
   intro hf;obtain⟨h1,h2⟩:=ih1 hf;obtain⟨h3,h4⟩:=ih2 h2;exact⟨h1.trans h3,h4⟩
theorem Dh{P:Program}{ρ : Operand->XV}{op:Op}{m m':Mem}{r:XV}(h:cf P ρ op m=some (r,m')):rC m m':=by
 unfold cf oD GS y8 kX dz mj hJ jb jh vK at h
 (repeat' split at h)<;>first
   | (cases h;done)
   | (cases h;exact .same _)
   | (cases h;exact .put _ _ _)
   | (cases h;exact .push ‹_›)
   | (cases h;exact .trans (.put _ _ _) (.push ‹_›))
end Go.Xm
namespace Go.Xm
variable [aq]
structure dm where
 call:FuncId->List XV->Mem->Option (XV×Mem)
 op:Op->List XV->Option XV
def qf(O:dm)(ρ : Operand->XV):Op->Option XV
 | .binOp o t x y t'=>O.op (.binOp o t x y t') [ρ x,ρ y]
 | .convert s d x=>match ρ x with
   | .one (.slice _ _ _ _) => .none
   | .one (.lsl _ _ _ _ _ _) => .none
   | v=>O.op (.convert s d x) [v]
 | _ => .none
def dJ(O:dm)(P:Program)(ρ : Operand->XV)(op:Op):Option XV:=
 match aZ P ρ op with
 | some x=>some x
 | .none=>qf O ρ op
def K2(P:Program)(op:Op)(l:List XV)(x:XV):Prop:=
 ∀(β : Env) (n:Nat) (o:Oper) (ev:Operand->Value),o.op=op->dj (aL β n) l (op.operands.toList.map ev)->∀w,∃z,(execOp ev o).run P w = .ok (.value z) w/\aL β n x z
def d8(P:Program)(f:FuncId)(args:List XV)(m:Mem)(v:XV)(m':Mem):Prop:=
 ∀ (β : Env) (w:World) (vs:List Value),dj (aL β m.n) args vs->Rel β m w ->
   Calls P f vs.toArray w fun e w'=>∃u β',e = .returned u/\aL β' m'.n v u/\Step β m w β' m' w'
structure aS(P:Program)(O:dm):Prop where
 call:∀f args m v m',O.call f args m=some (v,m')->d8 P f args m v m'
 KU:∀f args m v m',O.call f args m=some (v,m')->rC m m'
 op:∀o l x,O.op o l=some x->K2 P o l x
def eV(P:Program)(f:FuncId):Bool:=
 match P.funcs[f]? with
 | some fn=>fn.name != "runtime.NumGoroutine" && fn.body.isSome
 | .none=>false
def c6(O:dm)(P:Program)(ρ : Operand->XV)(op:Op)(m:Mem):Option (XV×Mem):=
 match op with
 | .call ⟨.value g,args,_⟩=>match ρ g with
   | .one c=>match zo c with
     | some (f,caps)=>if eV P f then O.call f (args.toList.map ρ++caps.map .one) m else .none
     | .none => .none
   | _ => .none
 | _ => .none
structure Out where
 x:XV
 m:Mem
 eff:Bool
 fp:Option Nat
def dG(O:dm)(P:Program)(ρ : Operand->XV)(op:Op)(m:Mem):Option Out:=
 match dJ O P ρ op with
 | some x=>some ⟨x,m,false,.none⟩
 | .none=>match eX P ρ op with
   | some (i,f)=>match f (m.get i)with
     | some x=>some ⟨x,m,false,some i⟩
     | .none => .none
   | .none=>match cf P ρ op m with
     | some (x,m')=>some ⟨x,m',true,.none⟩
     | .none=>match c6 O P ρ op m with
       | some (x,m')=>some ⟨x,m',true,.none⟩
       | .none => .none
def K0(P:Program)(ev:Operand->Value)(o:Oper)(β : Env)(m:Mem)(w:World)(x:XV)(m':Mem):Prop:=
 ∀(a:Act) (K:Act->World->Prop) (Q:Exit->Act->World->Prop),a.eval=ev->(∀u β' w',aL β' m'.n x u->Step β m w β' m' w'->K (a.put o.dst u) w')->o.wp P a w K Q
theorem px{P:Program}{ev:Operand->Value}{o:Oper}{β : Env}{m:Mem}{w:World}{x:XV}{z:Value}(hm:Rel β m w)(h:(execOp ev o).run P w = .ok (.value z) w)(hz:aL β m.n x z):K0 P ev o β m w x m:=by
 intro a K Q ha hK;unfold Oper.wp;rw[ha,h];exact hK z β w hz (Step.refl hm)
theorem yl{P:Program}{ev:Operand->Value}{o:Oper}{β : Env}{m m':Mem}{w:World}{x:XV}(h:ES P (execOp ev o) β m w x m'):K0 P ev o β m w x m':=by
 intro a K Q ha hK;obtain⟨nx,v,β',w',h1,h2,h3,h4⟩:=h;unfold Oper.wp;rw[ha,h1];cases nx<;>simp only[NC]at h2<;>cases h2
 ·exact hK v β' w' h3 h4
 ·exact hK undef β' w' h3 h4
theorem yZ{O : dm}{P:Program}(hO:aS P O){ρ : Operand->XV}{o:Oper}{m m':Mem}{x:XV}(h:c6 O P ρ o.op m=some (x,m')){β : Env}{w:World}(hm:Rel β m w){ev:Operand->Value}(hr:∀x,aL β m.n (ρ x) (ev x)):K0 P ev o β m w x m':=by
 unfold c6 at h;split at h
 ·rename_i g args ts ho;split at h
  ·rename_i c hg;split at h
   ·rename_i f caps hf;split at h
    ·rename_i hcb;have hrg:=hr g;rw[hg]at hrg;obtain⟨h1,h2⟩:=hrg;obtain⟨h3,h4⟩:=o_ β hf h1
     have hall:dj (aL β m.n) (args.toList.map ρ++caps.map .one) (args.toList.map ev++caps.map (·.den β)):=
      (qo hr _).append (dj.n9 _ _ _ fun c hc=>⟨h4 c hc,rfl⟩)
     have hcall:=hO.call _ _ _ _ _ h β w _ hall hm;intro a K Q ha hK;unfold eV at hcb;split at hcb
     ·rename_i fn hfn;simp only[Bool.and_eq_true,bne_iff_ne,ne_eq]at hcb;have hev:ev g = .func (.func f) #[] (caps.map (·.den β)).toArray:=by rw[h2,h3]
      have hrun:(execOp ev o).run P w = .ok (.enter f (args.toList.map ev++caps.map (·.den β)).toArray) w:=by
       have e1:(args.map ev++(caps.map (·.den β)).toArray)=(args.toList.map ev++caps.map (·.den β)).toArray:=by apply Array.toList_inj.1;simp
       have hb:fn.body.isNone=false:=by cases hbb:fn.body<;>simp_all
       have hnm:(fn.name == "runtime.NumGoroutine")=false:=by simpa using hcb.1
       simp only[execOp,ho,resolve,hev,Deferred.ofValue,Sem.run_bind,Sem.run_pure,Result.andThen_ok,invoke,callFunc,run_program,hfn,hnm,hb,Bool.false_eq_true,if_false,Array.empty_append,e1]
      unfold Oper.wp;rw[ha,hrun];simp only[Oper.upon];refine hcall.mono fun e w' he=>?_
      obtain⟨u,β',rfl,h5,h6⟩:=he;exact hK u β' w' h5 h6
     ·cases hcb
    ·cases h
   ·cases h
  ·cases h
 ·cases h
theorem y9{O:dm}{P:Program}(hO:aS P O){ρ : Operand->XV}{o:Oper}{r:XV}(h:dJ O P ρ o.op=some r){β : Env}{n:Nat}{ev:Operand->Value}(hr:∀x,aL β n (ρ x) (ev x))(w:World) :
 ∃z,(execOp ev o).run P w = .ok (.value z) w/\aL β n r z:=by
 unfold dJ at h;split at h
 ·rename_i x hx;cases h;exact Bq hx hr w
 ·unfold qf at h;split at h
  ·rename_i bo t x y t' ho;exact hO.op _ _ _ h β n o ev ho (.cons (hr x) (.cons (hr y) .nil)) w
  ·rename_i s d x ho;split at h
   ·cases h
   ·cases h
   ·rename_i v hv;exact hO.op _ _ _ h β n o ev ho (.cons (hr x) .nil) w
  ·cases h
theorem sf{O:dm}{P:Program}(hO:aS P O){ρ : Operand->XV}{o:Oper}{m:Mem}{d:Out}(h:dG O P ρ o.op m=some d){β : Env}{w:World}(hm:Rel β m w){ev:Operand->Value}(hr:∀x,aL β m.n (ρ x) (ev x)):K0 P ev o β m w d.x d.m:=by
 unfold dG at h;split at h
 ·rename_i x hx;cases h;obtain⟨z,h1,h2⟩:=y9 hO hx hr w;exact px hm h1 h2
 ·split at h
  ·rename_i i f hf;split at h
   ·rename_i x hx;cases h;obtain⟨z,h1,h2⟩:=Br hf hr hm hx;exact px hm h1 h2
   ·cases h
  ·split at h
   ·rename_i x m' hx;cases h;exact yl (zc hx hm hr)
   ·split at h
    ·rename_i x m' hx;cases h;exact yZ hO hx hm hr
    ·cases h
theorem Bi{O:dm}{P:Program}(hO:aS P O){ρ : Operand->XV}{op:Op}{m:Mem}{d:Out}(h:dG O P ρ op m=some d):rC m d.m:=by
 unfold dG at h;split at h
 ·cases h;exact .same _
 ·split at h
  ·split at h
   ·cases h;exact .same _
   ·cases h
  ·split at h
   ·rename_i x m' hx;cases h;exact Dh hx
   ·split at h
    ·rename_i x m' hx;cases h;unfold c6 at hx
     (repeat' split at hx)<;>first
       | (cases hx;done)
       | exact hO.KU _ _ _ _ _ hx
    ·cases h
def aw(ops:Array Oper)(g:Nat->XV)(o:Oper):Option Bool:=
 match o.guard with
 | .none=>some true
 | some (j,want)=>match (ops[j]?).bind (·.dst)with
   | .none=>some false
   | some t=>match g t with
     | .one (.bool b)=>some (b==want)
     | .tup _=>some false
     | .agg _=>some false
     | _ => .none
theorem fG{ops:Array Oper}{g:Nat->XV}{o:Oper}{b:Bool}(h:aw ops g o=some b){β : Env}{n nt:Nat}{a:Array Value}(hr:gB β n nt g a):Region.wanted o (yielded ops a)=b:=by
 unfold aw at h;unfold Region.wanted;split at h
 ·cases h;rename_i hg;rw[hg]
 ·rename_i j want hg;rw[hg];simp only[];split at h
  ·rename_i hd;cases h;simp[yielded,hd]
  ·rename_i t hd
   have hlt:∀x,g t=x->x ≠ .undef->t<nt:=fun x hx hne=>by
    rcases Nat.lt_or_ge t nt with h'|h'
    ·exact h'
    ·rw[hr.out t h']at hx;exact absurd hx.symm hne
   have hget:t<nt->∃v,a[t]? = some v/\aL β n (g t) v:=fun ht=>by
    have ht':t<a.size:=by rw[hr.size];exact ht
    have:=hr.rel t ht;refine⟨a[t],by simp[ht'],?_⟩;simpa [Array.getD_eq_getD_getElem?,ht']using this
   split at h
   ·rename_i x hx;cases h;obtain⟨v,hv,hrv⟩:=hget (hlt _ hx (by simp));rw[hx]at hrv;obtain⟨_,rfl⟩:=hrv;simp only[yielded,hd,Option.bind_some,hv,XC.den];cases x<;>cases want<;>rfl
   ·rename_i x hx;cases h;obtain⟨v,hv,hrv⟩:=hget (hlt _ hx (by simp));rw[hx]at hrv;obtain⟨_,rfl⟩:=hrv;simp only[yielded,hd,Option.bind_some,hv];rfl
   ·rename_i x hx;cases h;obtain⟨v,hv,hrv⟩:=hget (hlt _ hx (by simp));rw[hx]at hrv;obtain⟨_,rfl⟩:=hrv;simp only[yielded,hd,Option.bind_some,hv];rfl
   ·cases h
def ji(O:dm)(P:Program)(ops:Array Oper)(g:Nat->XV)(o:Oper)(m:Mem):Option Out:=
 match aw ops g o with
 | some true=>dG O P (af g) o.op m
 | some false=>some ⟨.tup [],m,false,.none⟩
 | .none => .none
def pG(O:dm)(P:Program)(ops:Array Oper)(nt:Nat):List Oper->T XV->Mem->Option (T XV×Mem)
 | [],r,m=>some (r,m)
 | o::l,r,m=>match ji O P ops (r.get .undef) o m with
   | some d=>pG O P ops nt l (nE nt r o.dst d.x) d.m
   | .none => .none
theorem xO{O:dm}{P:Program}(hO:aS P O){ops:Array Oper}{nt:Nat}:∀{l:List Oper} {r r':T XV} {m m':Mem},pG O P ops nt l r m=some (r',m')->rC m m'
 | [],r,r',m,m',h=>by simp only[pG,Option.some.injEq,Prod.mk.injEq]at h;obtain⟨_,rfl⟩:=h;exact .same _
 | o :: l,r,r',m,m',h=>by
   unfold pG at h;split at h
   ·rename_i d hd;refine .trans ?_ (xO hO h);unfold ji at hd;split at hd
    ·exact Bi hO hd
    ·cases hd;exact .same _
    ·cases hd
   ·cases h
theorem lV.defers{a:Act}{d:List Deferred}:({a with defers:=d}:Act).tmps=a.tmps:=rfl
def zr(β : Env)(m:Mem)(w:World)(nt:Nat)(ds:List Deferred)(r':T XV)(m':Mem)(K:Act->World->Prop):Prop:=
 ∀a' β' w',lV β' m'.n nt r' a'.tmps->a'.defers=ds->Step β m w β' m' w'->K a' w'
theorem dM(a:Act)(d:Option Tmp)(v:Value):(a.put d v).defers=a.defers:=by cases d<;>rfl
theorem vP{O:dm}{P:Program}(hO:aS P O){ops:Array Oper}{nt:Nat}{Q:Exit->Act->World->Prop}:∀{l:List Oper} {r r':T XV} {m m':Mem} {β : Env} {w:World} {a:Act},pG O P ops nt l r m=some (r',m')->lV β m.n nt r a.tmps->Rel β m w ->
 zr β m w nt a.defers r' m' (Q .normal)->wpList P ops Q l a w
 | [],r,r',m,m',β,w,a,h,hr,hm,hq=>by
   simp only[pG,Option.some.injEq,Prod.mk.injEq]at h;obtain⟨rfl,rfl⟩:=h;exact hq a β w hr rfl (Step.refl hm)
 | o :: l,r,r',m,m',β,w,a,h,hr,hm,hq=>by
   unfold pG at h;split at h
   ·rename_i d hd;unfold ji at hd;unfold wpList;split at hd
    ·rename_i hw;rw[if_pos (fG hw hr)];refine .inl (sf hO hd hm (fun x=>hr.eval x) a _ Q rfl fun u β' w' hu hs=>?_);refine vP hO h (lV.set (r:=r) (hr.ext hs.ext hs.le) o.dst hu) hs.rel fun a'' β'' w'' h1 h2 h3=>?_
     exact hq a'' β'' w'' h1 (by rw[h2,dM]) (hs.trans h3)
    ·rename_i hw;cases hd;have:=fG hw hr;rw[if_neg (by simp[this])];refine vP hO h (lV.set (r:=r) hr o.dst aL.skip) hm fun a'' β'' w'' h1 h2 h3=>?_
     exact hq a'' β'' w'' h1 (by rw[h2,dM]) h3
    ·cases hd
   ·cases h
end Go.Xm
namespace Go.Xm
variable [aq]
theorem Bp{P:Program}{ρ ρ':Operand->XV}{op:Op}(h:∀x∈op.operands,ρ x = ρ' x):aZ P ρ op=aZ P ρ' op:=by
 unfold aZ;split
 all_goals simp only[Op.operands,Call.operands]at h
 case h_4 t parts=>
  have:(parts.toList.map fun p=>(p.1,ρ p.2))=parts.toList.map fun p=>(p.1,ρ' p.2):=List.map_congr_left fun p hp=>by
   rw[h p.2 (by simpa using ⟨p.1,by simpa using hp⟩)]
  simp only[this]
 case h_9 f first caps=>
  have:caps.toList.map ρ = caps.toList.map ρ':=List.map_congr_left fun x hx=>h x (by simp at hx;simp[hx])
  simp only[this]
 case h_10 t x lo hi mx=>
  have h0 : ρ x = ρ' x:=h x (by simp)
  have h1:lo.map ρ = lo.map ρ':=by cases lo with|none=>rfl|some y=>simp[h y (by simp)]
  have h2:hi.map ρ = hi.map ρ':=by cases hi with|none=>rfl|some y=>simp[h y (by simp)]
  have h3:mx.map ρ = mx.map ρ':=by cases mx with|none=>rfl|some y=>simp[h y (by simp)]
  simp only[h0,h1,h2,h3]
 case h_16 b args ts=>
  have:args.toList.map ρ = args.toList.map ρ':=List.map_congr_left fun x hx=>h x (by simp at hx;simp[hx])
  simp only[this]
 all_goals first
  | rfl
  | (simp_all;done)
theorem sO{P:Program}{ρ ρ':Operand->XV}{op:Op}(h:∀x∈op.operands,ρ x = ρ' x):eX P ρ op=eX P ρ' op:=by
 unfold eX;split
 all_goals simp only[Op.operands,Call.operands]at h
 case h_3 args ts=>
  split
  ·rename_i x hx
   have : ρ x = ρ' x:=h x (by
    have:x∈args.toList:=by rw[hx];simp
    simp at this
    simp[this])
   rw[this]
  ·rfl
 case h_4 t x lo hi=>
  have h0 : ρ x = ρ' x:=h x (by simp)
  have h1:lo.map ρ = lo.map ρ':=by cases lo with|none=>rfl|some y=>simp[h y (by simp)]
  have h2:hi.map ρ = hi.map ρ':=by cases hi with|none=>rfl|some y=>simp[h y (by simp)]
  simp only[h0,h1,h2]
 all_goals first
  | rfl
  | (simp_all;done)
theorem Ba{args:Array Operand}{s x:Operand}(h:args.toList = [s,x]):s∈args/\x∈args:=by
 have h1:s∈args.toList:=by rw[h];simp
 have h2:x∈args.toList:=by rw[h];simp
 exact⟨by simpa using h1,by simpa using h2⟩
theorem zb{P:Program}{ρ ρ':Operand->XV}{op:Op}{m:Mem}(h:∀x∈op.operands,ρ x = ρ' x):cf P ρ op m=cf P ρ' op m:=by
 unfold cf;split
 all_goals simp only[Op.operands,Call.operands]at h
 case h_4 t len parts=>
  have:(parts.toList.map fun p=>(p.1,ρ p.2))=parts.toList.map fun p=>(p.1,ρ' p.2):=List.map_congr_left fun p hp=>by
   rw[h p.2 (by simpa using ⟨p.1,by simpa using hp⟩)]
  simp only[this]
 case h_9 args ts=>
  split
  ·rename_i s x t t1 hx _ _;obtain⟨h1,h2⟩:=Ba hx;rw[h s (by simp[h1]),h x (by simp[h2])]
  ·rfl
 case h_10 args ts=>
  split
  ·rename_i s x t t1 hx _ _;obtain⟨h1,h2⟩:=Ba hx;rw[h s (by simp[h1]),h x (by simp[h2])]
  ·rfl
 all_goals first
  | rfl
  | (simp_all;done)
theorem rn{O:dm}{P:Program}{ρ ρ':Operand->XV}{op:Op}(h:∀x∈op.operands,ρ x = ρ' x):dJ O P ρ op=dJ O P ρ' op:=by
 unfold dJ;rw[Bp (P:=P) h];split
 ·rfl
 ·unfold qf
  cases op with
  | binOp o t x y t'=>simp only[h x (by simp[Op.operands]),h y (by simp[Op.operands])]
  | convert s d x=>simp only[h x (by simp[Op.operands])]
  | _=>rfl
theorem wH{O:dm}{P:Program}{ρ ρ':Operand->XV}{op:Op}{m:Mem}(h:∀x∈op.operands,ρ x = ρ' x):c6 O P ρ op m=c6 O P ρ' op m:=by
 unfold c6;split
 all_goals simp only[Op.operands,Call.operands]at h
 ·rename_i g args ts;have h0 : ρ g = ρ' g:=h g (by simp);have:args.toList.map ρ = args.toList.map ρ':=List.map_congr_left fun x hx=>h x (by simp at hx;simp[hx])
  simp only[h0,this]
 ·rfl
inductive lg(ops:Array Oper):Nat->Nat->Prop where
 | edge {i:Nat} {o:Oper} {e:Edge}:ops[i]? = some o->e∈o.after->Region.binds .any e=true->lg ops i e.on
 | trans {i k j:Nat}:lg ops i k->lg ops k j->lg ops i j
def Dz:List Oper->List Nat->List Nat
 | [],acc=>acc
 | o::l,acc=>Dz l (acc++[o.after.toList.foldl (fun s e=>if Region.binds .any e then s ||| 2^e.on ||| acc.getD e.on 0 else s) 0])
def iQ(ops:List Oper):List Nat:=Dz ops []
theorem tX(ops : Array Oper):∀(l:List Oper) (acc:List Nat),(∀j,l[j]? = ops[acc.length+j]?)->(∀i j,(acc.getD i 0).testBit j=true->lg ops i j)->∀i j,((Dz l acc).getD i 0).testBit j=true->lg ops i j
 | [],acc,_,h,i,j,hb=>h i j hb
 | o :: l, acc,hl,h,i,j,hb=>by
   unfold Dz at hb;refine tX ops l _ (fun j=>?_) (fun i j hb=>?_) i j hb
   ·have:=hl (j+1);simpa [Nat.add_assoc,Nat.add_comm 1 j]using this
   ·rcases Nat.lt_trichotomy i acc.length with hi|hi|hi
    ·refine h i j ?_;rw[List.getD_eq_getElem?_getD]at hb ⊢;rwa [List.getElem?_append_left hi]at hb
    ·subst hi;rw[List.getD_eq_getElem?_getD,List.getElem?_append_right (Nat.le_refl _)]at hb;simp only[Nat.sub_self,List.getElem?_cons_zero,Option.getD_some]at hb;have ho:ops[acc.length]? = some o:=by have:=hl 0;simpa using this.symm
     have key:∀(es:List Edge) (s:Nat),(∀e∈es,e∈o.after)->(s.testBit j=true->lg ops acc.length j) ->
      (es.foldl (fun s e=>if Region.binds .any e then s ||| 2^e.on ||| acc.getD e.on 0 else s) s).testBit j=true->lg ops acc.length j:=by
      intro es
      induction es with
      | nil=>intro s _ hs hb;exact hs hb
      | cons e es ih=>
        intro s hes hs hb;refine ih _ (fun e' he'=>hes e' (List.mem_cons_of_mem _ he')) (fun ht=>?_) hb;dsimp only at ht;split at ht
        ·rename_i hbd;simp only[Nat.testBit_or,Bool.or_eq_true]at ht;have hedge:lg ops acc.length e.on := .edge ho (hes e (List.mem_cons_self ..)) hbd
         rcases ht with(ht|ht)|ht
         ·exact hs ht
         ·rw[Nat.testBit_two_pow]at ht;have:e.on=j:=by simpa using ht
          rw[<-this];exact hedge
         ·exact .trans hedge (h _ _ ht)
        ·exact hs ht
     exact key o.after.toList 0 (fun e he=>by simpa using he) (fun ht=>by simp at ht) hb
    ·rw[List.getD_eq_getElem?_getD,List.getElem?_eq_none (by simp;omega)]at hb;simp at hb
theorem fx(ops:Array Oper)(i j:Nat)(h:((iQ ops.toList).getD i 0).testBit j=true):lg ops i j:=
 tX ops ops.toList [] (fun j=>by simp) (fun i j hb=>by simp at hb) i j h
def bit(bs:List Nat)(i j:Nat):Bool:=(bs.getD i 0).testBit j
structure d_(ops:Array Oper)(nt:Nat):Prop where
 noSel:Region.noSelect ops=true
 back:∀(i:Nat) (o:Oper),ops[i]? = some o->∀e∈o.after,Region.binds .any e=true->e.on<i
 dst:∀(i:Nat) (o:Oper) (d:Nat),ops[i]? = some o->o.dst=some d->d<nt
 uniq:∀(i j:Nat) (oi oj:Oper) (t:Nat),ops[i]? = some oi->ops[j]? = some oj->oi.dst=some t->oj.dst=some t->i=j
 look:∀(i j:Nat) (oi oj:Oper) (t:Nat),ops[i]? = some oi->ops[j]? = some oj->oj.dst=some t->t∈oi.looksAt ops->i≠j->(j<i->lg ops i j)/\(i<j->lg ops j i)
def AX(ops:Array Oper)(nt:Nat)(bs:List Nat)(i:Nat):Bool:=
 match ops[i]? with
  | .none=>true
  | some oi=>
    oi.after.toList.all (fun e => !Region.binds .any e||decide (e.on<i))&&
    (match oi.dst with | .none=>true|some d=>decide (d<nt))&&
    (List.range ops.size).all fun j=>match ops[j]? with
      | .none=>true
      | some oj=>match oj.dst with
        | .none=>true
        | some t=>i==j||(oi.dst != some t&&(!(oi.looksAt ops).contains t||(if j<i then bit bs i j else bit bs j i)))
def da(ops:Array Oper)(nt:Nat)(bs:List Nat):Bool:=
 Region.noSelect ops&&(List.range ops.size).all (AX ops nt bs)
theorem ku{ops:Array Oper}{nt:Nat}(h:da ops nt (iQ ops.toList)=true):d_ ops nt:=by
 unfold da at h;simp only[Bool.and_eq_true,List.all_eq_true,List.mem_range]at h;obtain⟨h0,h⟩:=h;have lt:∀(i:Nat) (o:Oper),ops[i]? = some o->i<ops.size:=fun i o ho=>(Array.getElem?_eq_some_iff.1 ho).1
 have at_:∀(i:Nat) (o:Oper),ops[i]? = some o->((o.after.toList.all (fun e => !Region.binds .any e||decide (e.on<i))=true /\
  (match o.dst with | .none=>true|some d=>decide (d<nt))=true) /\
  ∀ j,j<ops.size->(match ops[j]? with
    | .none=>true
    | some oj=>match oj.dst with
      | .none=>true
      | some t=>i==j||(o.dst != some t&&(!(o.looksAt ops).contains t||(if j<i then bit (iQ ops.toList) i j else bit (iQ ops.toList) j i))))=true):=fun i o ho=>by
  have h1:=h i (lt i o ho);unfold AX at h1;rw[ho]at h1;simp only[Bool.and_eq_true]at h1;refine⟨h1.1,fun j hj=>?_⟩;exact List.all_eq_true.1 h1.2 j (List.mem_range.2 hj)
 refine⟨h0,fun i o ho e he hb=>?_,fun i o d ho hd=>?_,fun i j oi oj t hi hj hdi hdj=>?_,fun i j oi oj t hi hj hdj ht hne=>?_⟩
 ·have:=List.all_eq_true.1 (at_ i o ho).1.1 e (by simpa using he);simpa [hb]using this
 ·have:=(at_ i o ho).1.2;rw[hd]at this;simpa using this
 ·have:=(at_ i oi hi).2 j (lt j oj hj);rw[hj]at this;simp only[hdj]at this
  rcases Nat.decEq i j with hne|he
  ·have hb:(i==j)=false:=by simpa using hne
   rw[hb]at this;simp[hdi]at this
  ·exact he
 ·have:=(at_ i oi hi).2 j (lt j oj hj);rw[hj]at this;simp only[hdj]at this;have hb:(i==j)=false:=by simpa using hne
  rw[hb]at this;simp only[Bool.false_or,Bool.and_eq_true,Bool.or_eq_true,Bool.not_eq_true']at this;have hc:(oi.looksAt ops).contains t=true:=by simpa using ht
  rw[hc]at this;have h2:=this.2.resolve_left (by simp);constructor
  ·intro hlt;rw[if_pos hlt]at h2;exact fx ops i j h2
  ·intro hlt;rw[if_neg (by omega)]at h2;exact fx ops j i h2
theorem lg.lt{ops:Array Oper}{nt:Nat}(hs:d_ ops nt):∀{i j:Nat},lg ops i j->j<i:=by
 intro i j h
 induction h with
 | edge ho he hb=>exact hs.back _ _ ho _ he hb
 | trans _ _ ih1 ih2=>omega
end Go.Xm
namespace Go.Xm
variable [aq]
def jc(O:dm)(P:Program)(ops:Array Oper)(nt:Nat):List Oper->T XV->Mem->Option (List (Mem×Out)×T XV×Mem)
 | [],r,m=>some ([],r,m)
 | o :: l,r,m=>match ji O P ops (r.get .undef) o m with
   | some d=>match jc O P ops nt l (nE nt r o.dst d.x) d.m with
     | some (tr,r',m')=>some ((m,d)::tr,r',m')
     | .none => .none
   | .none => .none
structure Trace(O:dm)(P:Program)(ops:Array Oper)(nt:Nat)(l:List Oper)(tr:List (Mem×Out))(rs:Nat->T XV)(ms:Nat->Mem)(ds:Nat->Out):Prop where
 at_:∀i o,l[i]? = some o->tr[i]? = some (ms i,ds i)/\ji O P ops ((rs i).get .undef) o (ms i)=some (ds i)/\rs (i+1)=nE nt (rs i) o.dst (ds i).x/\ms (i+1)=(ds i).m
theorem oK{O:dm}{P:Program}{ops:Array Oper}{nt:Nat}:∀{l:List Oper} {r r':T XV} {m m':Mem} {tr:List (Mem×Out)},jc O P ops nt l r m=some (tr,r',m') ->
 ∃rs ms ds,Trace O P ops nt l tr rs ms ds/\rs 0=r/\ms 0=m/\rs l.length=r'/\ms l.length=m'
 | [],r,r',m,m',tr,h=>by
   simp only[jc,Option.some.injEq,Prod.mk.injEq]at h;obtain⟨rfl,rfl,rfl⟩:=h;exact⟨fun _=>r,fun _=>m,fun _=>⟨.undef,m,false,.none⟩,⟨fun i o h=>by simp at h⟩,rfl,rfl,rfl,rfl⟩
 | o :: l,r,r',m,m',tr,h=>by
   unfold jc at h;split at h
   ·rename_i d hd;split at h
    ·rename_i tr1 r1 m1 ht;simp only[Option.some.injEq,Prod.mk.injEq]at h;obtain⟨rfl,rfl,rfl⟩:=h;obtain⟨rs,ms,ds,hT,h1,h2,h3,h4⟩:=oK ht;refine⟨fun k=>match k with|0=>r|k+1=>rs k,fun k=>match k with|0=>m|k+1=>ms k,fun k=>match k with|0=>d|k+1=>ds k,⟨fun i o' hi=>?_⟩,rfl,rfl,h3,h4⟩
     cases i with
     | zero=>
       simp only[List.getElem?_cons_zero,Option.some.injEq]at hi;subst hi;exact⟨rfl,hd,h1,h2⟩
     | succ i=>
       simp only[List.getElem?_cons_succ]at hi;have:=hT.at_ i o' hi;simpa using this
    ·cases h
   ·cases h
def iE(bs:List Nat)(i:Nat)(di:Out)(e:Nat)(me:Mem)(de:Out):Bool:=
 !de.eff||i==e||((!(di.eff&&decide (e<i))||bit bs i e)&&
  (match di.fp with
    | .none=>true
    | some fp=>bit bs i e||bit bs e i||(de.m.f4 fp).ver==(me.f4 fp).ver))
def jq(bs:List Nat)(tr:List (Mem×Out)):Bool:=
 (List.range tr.length).all fun i=>match tr[i]? with
   | .none=>true
   | some (_,di)=>(!di.eff&&di.fp.isNone)||(List.range tr.length).all fun e=>match tr[e]? with
     | .none=>true
     | some (me,de)=>iE bs i di e me de
def iN(O:dm)(P:Program)(ops:Array Oper)(nt:Nat)(r:T XV)(m:Mem):Option (T XV×Mem):=
 if da ops nt (iQ ops.toList)then
  match jc O P ops nt ops.toList r m with
  | some (tr,r',m')=>if jq (iQ ops.toList) tr then some (r',m')else .none
  | .none => .none
 else .none
theorem lD{O:dm}{P:Program}(hO:aS P O){ops:Array Oper}{g:Nat->XV}{o:Oper}{m:Mem}{d:Out}(h:ji O P ops g o m=some d):rC m d.m:=by
 unfold ji at h;split at h
 ·exact Bi hO h
 ·cases h;exact .same _
 ·cases h
theorem xM{O:dm}{P:Program}{ops:Array Oper}{g:Nat->XV}{o:Oper}{m:Mem}{d:Out}(h:ji O P ops g o m=some d)(he:d.eff=false):d.m=m:=by
 unfold ji at h;split at h
 ·unfold dG at h
  (repeat' split at h)<;>first
    | (cases h;rfl)
    | (cases h;cases he)
    | (cases h;done)
 ·cases h;rfl
 ·cases h
theorem xL{O:dm}{P:Program}{ops:Array Oper}{g g':Nat->XV}{o:Oper}{m m':Mem}{d:Out}(h:ji O P ops g o m=some d)(hg:∀t∈o.looksAt ops,g' t=g t)(he:d.eff=false)(hfp:∀fp,d.fp=some fp->m'.get fp=m.get fp) :
 ji O P ops g' o m'=some {d with m:=m'}:=by
 have hops:∀x∈o.op.operands,af g' x=af g x:=fun x hx=>by
  cases x with
  | tmp t=>exact hg t (List.mem_append_left _ (List.mem_filterMap.2 ⟨.tmp t,by simpa using hx,rfl⟩))
  | _=>rfl
 have hw:aw ops g' o=aw ops g o:=by
  unfold aw;split
  ·rfl
  ·rename_i j want hgd;split
   ·rfl
   ·rename_i t ht;rw[hg t (by simp[Oper.looksAt,hgd,ht])]
 unfold ji at h ⊢;rw[hw];generalize aw ops g o=q at h ⊢
 cases q with
 | none=>cases h
 | some b =>
   cases b with
   | false=>cases h;rfl
   | true =>
     simp only[]at h ⊢;unfold dG at h ⊢;rw[rn (O:=O) (P:=P) hops,sO (P:=P) hops];split at h
     ·cases h;rfl
     ·split at h
      ·rename_i i f hf;split at h
       ·rename_i x hx;cases h;simp only[hfp i rfl,hx]
       ·cases h
      ·split at h
       ·cases h;cases he
       ·split at h
        ·cases h;cases he
        ·cases h
theorem jj{O:dm}{P:Program}{ops:Array Oper}{g g':Nat->XV}{o:Oper}{m:Mem}{d:Out}(h:ji O P ops g o m=some d)(hg:∀t∈o.looksAt ops,g' t=g t) :
 ji O P ops g' o m=some d:=by
 have hops:∀x∈o.op.operands,af g' x=af g x:=fun x hx=>by
  cases x with
  | tmp t=>exact hg t (List.mem_append_left _ (List.mem_filterMap.2 ⟨.tmp t,by simpa using hx,rfl⟩))
  | _=>rfl
 have hw:aw ops g' o=aw ops g o:=by
  unfold aw;split
  ·rfl
  ·rename_i j want hgd;split
   ·rfl
   ·rename_i t ht;rw[hg t (by simp[Oper.looksAt,hgd,ht])]
 unfold ji at h ⊢;rw[hw];unfold dG at h ⊢;rw[rn (O:=O) (P:=P) hops,sO (P:=P) hops,zb (P:=P) hops,wH (P:=P) hops];exact h
theorem vL{O:dm}{P:Program}(hO:aS P O){ops:Array Oper}{g:Nat->XV}{o:Oper}{m:Mem}{d:Out}{nt i:Nat}(hi:ops[i]? = some o)(h:ji O P ops g o m=some d){β : Env}{w:World}{a:Act}(hm:Rel β m w)(hr:gB β m.n nt g a.tmps)
 {K:Act->World->Prop} {Q:Exit->Act->World->Prop}(hK:∀u β' w',aL β' d.m.n d.x u->Step β m w β' d.m w'->K (a.put o.dst u) w'):wpOp P ops Q i K a w:=by
 unfold wpOp;rw[hi];simp only[];unfold ji at h;split at h
 ·rename_i hw;rw[if_pos (fG hw hr)];exact .inl (sf hO h hm (fun x=>hr.eval x) a _ Q rfl hK)
 ·rename_i hw;cases h;have:=fG hw hr;rw[if_neg (by simp[this])];exact hK undef β w aL.skip (Step.refl hm)
 ·cases h
theorem gB.put{β : Env}{n nt:Nat}{g:Nat->XV}{a:Act}(h:gB β n nt g a.tmps)(d:Option Nat){x:XV}{v:Value}(hv:aL β n x v)(hd:∀t,d=some t->t<nt) :
 gB β n nt (fun t=>if d=some t then x else g t) (a.put d v).tmps:=by
 cases d with
 | none=>simpa [Act.put]using h
 | some d=>
   have hlt:=hd d rfl;refine⟨by simpa [Act.put]using h.size,h.small,fun t ht=>?_,fun t ht=>?_⟩
   ·by_cases htd:d=t
    ·subst htd;simp only[if_true];have:(a.put (some d) v).tmps.getD d undef=v:=by simp[Act.put,Array.getD_eq_getD_getElem?,h.size,hlt]
     rw[this];exact hv
    ·have hne:¬(some d=some t):=fun e=>htd (Option.some.inj e)
     simp only[hne,if_false]
     have:(a.put (some d) v).tmps.getD t undef=a.tmps.getD t undef:=by
      simp[Act.put,Array.getD_eq_getD_getElem?,Array.getElem?_setIfInBounds_ne htd]
     rw[this];exact h.rel t ht
   ·have hne:¬(some d=some t):=fun e=>by
     have:d=t:=Option.some.inj e;omega
    simp only[hne,if_false];exact h.out t ht
end Go.Xm
namespace Go.Xm
variable [aq]
theorem t8{p q:Nat->Bool}:∀(l:List Nat),(∀j,p j=true->q j=true)->l.countP p<=l.countP q
 | [],_=>Nat.le_refl _
 | j::l,h=>by
   have:=t8 l h;simp only[List.countP_cons]
   by_cases hp:p j=true
   ·simp[hp,h j hp];exact this
   ·simp[hp];omega
theorem kp{p q:Nat->Bool}{i:Nat}(h:∀j,p j=true->q j=true)(hq:q i=true)(hp:p i=false):∀(l:List Nat),i∈l->l.countP p<l.countP q
 | j :: l,hi=>by
   have hle:=t8 l h;simp only[List.countP_cons]
   rcases List.mem_cons.1 hi with rfl|hi
   ·simp[hq,hp];omega
   ·have:=kp h hq hp l hi
    by_cases hpj:p j=true
    ·simp[hpj,h j hpj];exact this
    ·simp[hpj];omega
section
variable {O:dm} {P:Program} {ops:Array Oper} {nt:Nat} {tr:List (Mem×Out)} {rs:Nat->T XV} {ms:Nat->Mem} {ds:Nat->Out}
structure G8(ops:Array Oper)(ms:Nat->Mem)(ds:Nat->Out):Prop where
 ord:∀i e,i<ops.size->e<ops.size->(ds i).eff=true->(ds e).eff=true->e<i->lg ops i e
 ver:∀i e fp,i<ops.size->e<ops.size->(ds i).fp=some fp->(ds e).eff=true->i≠e->¬lg ops i e->¬lg ops e i->((ds e).m.f4 fp).ver=((ms e).f4 fp).ver
theorem cz(hT:Trace O P ops nt ops.toList tr rs ms ds){i:Nat}(hi:i<ops.size):∃o,ops[i]? = some o/\tr[i]? = some (ms i,ds i)/\ji O P ops ((rs i).get .undef) o (ms i)=some (ds i)/\rs (i+1)=nE nt (rs i) o.dst (ds i).x/\ms (i+1)=(ds i).m:=by
 have ho:ops[i]? = some ops[i]:=by simp[hi]
 have:=hT.at_ i ops[i] (by simp[hi]);exact⟨_,ho,this⟩
theorem Oh(hT:Trace O P ops nt ops.toList tr rs ms ds)(h:jq (iQ ops.toList) tr=true):G8 ops ms ds:=by
 have pair:∀i e,i<ops.size->e<ops.size->((!(ds i).eff&&(ds i).fp.isNone)||iE (iQ ops.toList) i (ds i) e (ms e) (ds e))=true:=by
  intro i e hi he;obtain⟨_,_,h1,_⟩:=cz hT hi;obtain⟨_,_,h2,_⟩:=cz hT he;have hil:i<tr.length:=(List.getElem?_eq_some_iff.1 h1).1;have hel:e<tr.length:=(List.getElem?_eq_some_iff.1 h2).1;have h3:=List.all_eq_true.1 h i (List.mem_range.2 hil);rw[h1]at h3;simp only[Bool.or_eq_true]at h3 ⊢
  rcases h3 with h3|h3
  ·exact .inl h3
  ·have h4:=List.all_eq_true.1 h3 e (List.mem_range.2 hel);rw[h2]at h4;exact .inr h4
 refine⟨fun i e hi he h1 h2 hlt=>?_,fun i e fp hi he h1 h2 hne ha hb=>?_⟩
 ·have hp:=pair i e hi he;have hb:(i==e)=false:=by simp;omega
  simp[iE,h1,h2,hb,hlt]at hp;exact fx ops i e hp.1
 ·have hp:=pair i e hi he;have hq:(i==e)=false:=by simpa using hne
  have n1:bit (iQ ops.toList) i e=false:=by
   cases hx:bit (iQ ops.toList) i e
   ·rfl
   ·exact absurd (fx ops i e hx) ha
  have n2:bit (iQ ops.toList) e i=false:=by
   cases hx:bit (iQ ops.toList) e i
   ·rfl
   ·exact absurd (fx ops e i hx) hb
  simp[iE,h1,h2,hq,n1,n2]at hp;exact hp.2
theorem zQ(hO:aS P O)(hT:Trace O P ops nt ops.toList tr rs ms ds)(h0:(ms 0).cg):∀k,k<=ops.size->(ms k).cg
 | 0,_=>h0
 | k+1,hk=>by
   obtain⟨o,_,_,h2,_,h4⟩:=cz hT (show k<ops.size by omega);rw[h4];exact((lD hO h2).mono (zQ hO hT h0 k (by omega))).2
theorem oU(hT:Trace O P ops nt ops.toList tr rs ms ds)(k:Nat):∀d,k+d<=ops.size->(∀e,k<=e->e<k+d->(ds e).eff=false)->ms (k+d)=ms k
 | 0,_,_=>rfl
 | d+1,hk,h=>by
   obtain⟨o,_,_,h2,_,h4⟩:=cz hT (show k+d<ops.size by omega);have:=xM h2 (h (k+d) (by omega) (by omega));rw[show k+(d+1)=k+d+1 by omega,h4,this];exact oU hT k d (by omega) (fun e he he'=>h e he (by omega))
theorem nS(hO:aS P O)(hT:Trace O P ops nt ops.toList tr rs ms ds)(h0:(ms 0).cg)(fp k:Nat):∀d,k+d<=ops.size->(∀e,k<=e->e<k+d->(ds e).eff=true->((ds e).m.f4 fp).ver=((ms e).f4 fp).ver)->(ms (k+d)).get fp=(ms k).get fp
 | 0,_,_=>rfl
 | d + 1,hk,h=>by
   obtain⟨o,_,_,h2,_,h4⟩:=cz hT (show k+d<ops.size by omega);have ih:=nS hO hT h0 fp k d (by omega) (fun e he he'=>h e he (by omega));rw[show k+(d+1)=k+d+1 by omega,h4,<-ih]
   cases he:(ds (k+d)).eff with
   | false=>rw[xM h2 he]
   | true=>
     have hv:=h (k+d) (by omega) (by omega) he;have hm:=((lD hO h2).mono (zQ hO hT h0 (k+d) (by omega))).1;unfold Mem.get;rw[(hm.2 fp).2 hv]
theorem oX(hs:d_ ops nt)(hnt:nt<1000000)(hT:Trace O P ops nt ops.toList tr rs ms ds):∀k,k<=ops.size ->
 (∀(j:Nat) (o:Oper) (t:Nat),j<k->ops[j]? = some o->o.dst=some t->(rs k).get .undef t=(ds j).x) /\
 (∀t:Nat,(∀(j:Nat) (o:Oper),j<k->ops[j]? = some o->o.dst≠some t)->(rs k).get .undef t=(rs 0).get .undef t)
 | 0,_=>⟨fun j o t hj=>by omega,fun t _=>rfl⟩
 | k + 1,hk=>by
   obtain⟨o,ho,_,_,h3,_⟩:=cz hT (show k<ops.size by omega);obtain⟨ih1,ih2⟩:=oX hs hnt hT k (by omega)
   have other:∀t,o.dst≠some t->(rs (k+1)).get .undef t=(rs k).get .undef t:=fun t ht=>by
    rw[h3];unfold nE;split
    ·rename_i d hd;split
     ·exact T.fg _ _ _ _ _ _ (fun e=>ht (by rw[hd,e]))
     ·rfl
    ·rfl
   refine⟨fun j o' t hj ho' ht=>?_,fun t ht=>?_⟩
   ·rcases Nat.lt_or_ge j k with hjk|hjk
    ·rw[other t (fun e=>by have:=hs.uniq k j o o' t ho ho' e ht;omega)];exact ih1 j o' t hjk ho' ht
    ·have:j=k:=by omega
     subst this;rw[ho]at ho';cases ho';have hd:=hs.dst j o t ho ht;rw[h3,ht];simp only[nE,hd,if_true];exact T.f5 _ _ _ _ _ (by omega)
   ·rw[other t (ht k o (by omega) ho)];exact ih2 t (fun j o' hj=>ht j o' (by omega))
structure Inv(O:dm)(P:Program)(ops:Array Oper)(nt:Nat)(rs:Nat->T XV)(ms:Nat->Mem)(ds:Nat->Out)(β0:Env)(w0:World)(dfs:List Deferred)(listed:Array Bool)(a:Act)(w:World):Prop where
 size:listed.size=ops.size
 cl:∀i j,lg ops i j->listed.getD i false=true->listed.getD j false=true
 st:∃(β : Env) (q:Nat) (g:Nat->XV),q<=ops.size/\(∀e,e<ops.size->(ds e).eff=true->(listed.getD e false=true↔e<q))/\Rel β (ms q) w/\gB β (ms q).n nt g a.tmps /\
  (∀(i:Nat) (o:Oper) (t:Nat),listed.getD i false=true->ops[i]? = some o->o.dst=some t->g t=(ds i).x) /\
  (∀t:Nat,(∀(i:Nat) (o:Oper),listed.getD i false=true->ops[i]? = some o->o.dst≠some t)->g t=(rs 0).get .undef t)/\Step β0 (ms 0) w0 β (ms q) w
 dfs:a.defers=dfs
theorem aW{listed:Array Bool}{i j:Nat}(hi:i<listed.size):(listed.setIfInBounds i true).getD j false=(if i=j then true else listed.getD j false):=by
 by_cases h:i=j
 ·subst h;simp[Array.getD_eq_getD_getElem?,hi]
 ·simp only[h,if_false];simp[Array.getD_eq_getD_getElem?,Array.getElem?_setIfInBounds_ne h]
theorem dQ{listed:Array Bool}{j:Nat}(hj:j<listed.size):listed.getD j true=listed.getD j false:=by
 simp[Array.getD_eq_getD_getElem?,hj]
theorem Inv.step(hO:aS P O)(hs:d_ ops nt)(hnt:nt<1000000)(hT:Trace O P ops nt ops.toList tr rs ms ds)(hd:G8 ops ms ds)(h0:(ms 0).cg){β0:Env}{w0:World}{dfs:List Deferred}{listed:Array Bool}{a:Act}{w:World}
 (h:Inv O P ops nt rs ms ds β0 w0 dfs listed a w) {i:Nat}(hi:i∈Region.ready .any ops listed) {K:Act->World->Prop} {Q:Exit->Act->World->Prop}
 (hK:∀a' w',Inv O P ops nt rs ms ds β0 w0 dfs (listed.setIfInBounds i true) a' w'->K a' w'):wpOp P ops Q i K a w:=by
 obtain⟨hun,oi,hoi,hedges⟩:=mem_ready.1 hi;have hilt:i<ops.size:=(Array.getElem?_eq_some_iff.1 hoi).1;have hil:i<listed.size:=by rw[h.size];exact hilt
 have hun':listed.getD i false=false:=by rw[<-dQ hil];exact hun
 obtain⟨β,q,g,hq,heff,hm,hr,hg1,hg2,hst⟩:=h.st
 have hanc:∀i' j,lg ops i' j->i'=i->listed.getD j false=true:=by
  intro i' j ha
  induction ha with
  | edge ho he hb=>
    intro e;subst e;rw[hoi]at ho;cases ho;exact hedges _ he hb
  | trans h1 h2 ih1 _=>intro e;exact h.cl _ _ h2 (ih1 e)
 have hanc':∀j,lg ops i j->listed.getD j false=true:=fun j ha=>hanc i j ha rfl
 have hno:∀j,lg ops j i->listed.getD j false=false:=fun j ha=>by
  cases hx:listed.getD j false
  ·rfl
  ·have:=h.cl j i ha hx;rw[hun']at this;cases this
 obtain⟨o',ho',_,hdo,hrs,hms⟩:=cz hT hilt;rw[hoi]at ho';cases ho';obtain⟨hr1,hr2⟩:=oX hs hnt hT i (by omega)
 have hlook:∀t∈oi.looksAt ops,g t=(rs i).get .undef t:=by
  intro t ht
  by_cases hw:∃(j:Nat) (oj:Oper),ops[j]? = some oj/\oj.dst=some t
  ·obtain⟨j,oj,hj,hdj⟩:=hw
   have nolisted:listed.getD j false=false->g t=(rs 0).get .undef t:=fun hlj=>hg2 t (fun k ok hk hok e=>by
    have:=hs.uniq k j ok oj t hok hj e hdj;subst this
    rw[hlj]at hk;cases hk)
   have nobefore:¬j<i->(rs i).get .undef t=(rs 0).get .undef t:=fun hji=>hr2 t (fun k ok hk hok e=>by
    have:=hs.uniq k j ok oj t hok hj e hdj
    omega)
   rcases Nat.lt_trichotomy j i with hji|hji|hji
   ·have:=(hs.look i j oi oj t hoi hj hdj ht (by omega)).1 hji;rw[hg1 j oj t (hanc' j this) hj hdj,hr1 j oj t hji hj hdj]
   ·subst hji;rw[nolisted hun',nobefore (by omega)]
   ·have:=(hs.look i j oi oj t hoi hj hdj ht (by omega)).2 hji;rw[nolisted (hno j this),nobefore (by omega)]
  ·have hnone:∀(k:Nat) (ok:Oper),ops[k]? = some ok->ok.dst≠some t:=fun k ok hok e=>hw ⟨k,ok,hok,e⟩
   rw[hg2 t (fun k ok _ hok=>hnone k ok hok),hr2 t (fun k ok _ hok=>hnone k ok hok)]
 have hdstlt:∀t,oi.dst=some t->t<nt:=fun t ht=>hs.dst i oi t hoi ht
 have hcl:∀k j,lg ops k j->(listed.setIfInBounds i true).getD k false=true->(listed.setIfInBounds i true).getD j false=true:=by
  intro k j ha hk;rw[aW hil]at hk ⊢
  by_cases hij:i=j
  ·simp[hij]
  ·simp only[hij,if_false]
   by_cases hik:i=k
   ·subst hik;exact hanc' j ha
   ·simp only[hik,if_false]at hk;exact h.cl k j ha hk
 have hgs1:∀{x:XV},x=(ds i).x->∀(k:Nat) (ok:Oper) (t:Nat),(listed.setIfInBounds i true).getD k false=true->ops[k]? = some ok->ok.dst=some t->(if oi.dst=some t then x else g t)=(ds k).x:=by
  intro x hx k ok t hk hok ht;rw[aW hil]at hk
  by_cases hik:i=k
  ·subst hik;rw[hoi]at hok;cases hok;rw[if_pos ht,hx]
  ·simp only[hik,if_false]at hk;have:oi.dst≠some t:=fun e=>hik (hs.uniq i k oi ok t hoi hok e ht)
   rw[if_neg this];exact hg1 k ok t hk hok ht
 have hgs2:∀{x:XV}(t:Nat),(∀(k:Nat) (ok:Oper),(listed.setIfInBounds i true).getD k false=true->ops[k]? = some ok->ok.dst≠some t)->(if oi.dst=some t then x else g t)=(rs 0).get .undef t:=by
  intro x t ht;have hi':(listed.setIfInBounds i true).getD i false=true:=by rw[aW hil];simp
  rw[if_neg (ht i oi hi' hoi)];refine hg2 t (fun k ok hk hok=>ht k ok ?_ hok);rw[aW hil];split
  ·rfl
  ·exact hk
 cases he:(ds i).eff with
 | false =>
   have hobj:∀fp,(ds i).fp=some fp->(ms q).get fp=(ms i).get fp:=by
    intro fp hfp
    rcases Nat.le_total q i with hqi|hqi
    ·have:=nS hO hT h0 fp q (i-q) (by omega) (fun e he1 he2 he3=>by
      have hne:i≠e:=by omega
      refine hd.ver i e fp hilt (by omega) hfp he3 hne (fun ha=>?_) (fun ha=>?_)
      ·have:=(heff e (by omega) he3).1 (hanc' e ha);omega
      ·have:=lg.lt hs ha
       omega)
     rw[show q+(i-q)=i by omega]at this;exact this.symm
    ·have:=nS hO hT h0 fp i (q-i) (by omega) (fun e he1 he2 he3=>by
      have hne:i≠e:=fun e'=>by subst e';rw[he]at he3;cases he3
      refine hd.ver i e fp hilt (by omega) hfp he3 hne (fun ha=>?_) (fun ha=>?_)
      ·have:=lg.lt hs ha;omega
      ·have h1:=hno e ha;have h2:=(heff e (by omega) he3).2 (by omega)
       rw[h1]at h2;cases h2)
     rw[show i+(q-i)=q by omega]at this;exact this
   have hago:=xL hdo (g':=g) hlook he (m':=ms q) hobj;refine vL hO hoi hago hm hr fun u β' w' hu hs'=>hK _ _ ?_
   refine⟨by simp[h.size],hcl,⟨β',q,fun t=>if oi.dst=some t then(ds i).x else g t,hq,?_,hs'.rel,gB.put (hr.ext hs'.ext hs'.le) oi.dst hu hdstlt,hgs1 rfl,hgs2,hst.trans hs'⟩,?_⟩
   ·intro e hel hee;rw[aW hil];have hie:i≠e:=fun x=>by subst x;rw[he]at hee;cases hee
    simp only[hie,if_false];exact heff e hel hee
   ·rw[dM,h.dfs]
 | true =>
   have hqi:q<=i:=by
    rcases Nat.lt_or_ge i q with hlt|hge
    ·have:=(heff i hilt he).2 hlt;rw[hun']at this;cases this
    ·exact hge
   have hmq:ms i=ms q:=by
    have:=oU hT q (i-q) (by omega) (fun e he1 he2=>by
     cases hx:(ds e).eff
     ·rfl
     ·have h1:=hd.ord i e hilt (by omega) he hx (by omega);have h2:=(heff e (by omega) hx).1 (hanc' e h1)
      omega)
    rw[show q+(i-q)=i by omega]at this;exact this
   have hago:=jj hdo (g':=g) hlook;rw[hmq]at hago;refine vL hO hoi hago hm hr fun u β' w' hu hs'=>hK _ _ ?_
   rw[<-hms]at hu hs';refine⟨by simp[h.size],hcl,⟨β',i+1,fun t=>if oi.dst=some t then(ds i).x else g t,by omega,?_,hs'.rel,gB.put (hr.ext hs'.ext hs'.le) oi.dst hu hdstlt,hgs1 rfl,hgs2,hst.trans hs'⟩,?_⟩
   ·intro e hel hee;rw[aW hil]
    by_cases hie:i=e
    ·subst hie;simp
    ·simp only[hie,if_false];constructor
     ·intro hle
      rcases Nat.lt_or_ge i e with hlt|hge
      ·have:=hd.ord e i hel hilt hee he hlt;have:=hno e this;rw[this]at hle;cases hle
      ·omega
     ·intro hlt;have:e<i:=by omega
      exact hanc' e (hd.ord i e hilt hel he hee this)
   ·rw[dM,h.dfs]
theorem Inv.any(hO:aS P O)(hs:d_ ops nt)(hnt:nt<1000000)(hT:Trace O P ops nt ops.toList tr rs ms ds)(hd:G8 ops ms ds)(h0:(ms 0).cg){β0:Env}{w0:World}{dfs:List Deferred}{Q:Exit->Act->World->Prop}
 (hQ:zr β0 (ms 0) w0 nt dfs (rs ops.size) (ms ops.size) (Q .normal)):∀(fuel:Nat) (listed:Array Bool) (a:Act) (w:World),Inv O P ops nt rs ms ds β0 w0 dfs listed a w ->
 (List.range ops.size).countP (fun i=>listed.getD i false==false)<=fuel->wpAny P .any ops Q fuel listed a w:=by
 have fin:∀(listed:Array Bool) (a:Act) (w:World),Inv O P ops nt rs ms ds β0 w0 dfs listed a w->(∀i,i<ops.size->listed.getD i false=true)->Q .normal a w:=by
  intro listed a w h hall;obtain⟨β,q,g,hq,heff,hm,hr,hg1,hg2,hst⟩:=h.st
  have hmq:ms ops.size=ms q:=by
   have:=oU hT q (ops.size-q) (by omega) (fun e he1 he2=>by
    cases hx:(ds e).eff
    ·rfl
    ·have:=(heff e (by omega) hx).1 (hall e (by omega))
     omega)
   rw[show q+(ops.size-q)=ops.size by omega]at this;exact this
  obtain⟨hr1,hr2⟩:=oX hs hnt hT ops.size (Nat.le_refl _)
  have hge:g=(rs ops.size).get .undef:=by
   funext t
   by_cases hw:∃(j:Nat) (oj:Oper),ops[j]? = some oj/\oj.dst=some t
   ·obtain⟨j,oj,hj,hdj⟩:=hw;have hjl:j<ops.size:=(Array.getElem?_eq_some_iff.1 hj).1;rw[hg1 j oj t (hall j hjl) hj hdj,hr1 j oj t hjl hj hdj]
   ·have hnone:∀(k:Nat) (ok:Oper),ops[k]? = some ok->ok.dst≠some t:=fun k ok hok e=>hw ⟨k,ok,hok,e⟩
    rw[hg2 t (fun k ok _ hok=>hnone k ok hok),hr2 t (fun k ok _ hok=>hnone k ok hok)]
  subst hge;rw[<-hmq]at hr hst;exact hQ a β w hr h.dfs hst
 intro fuel
 induction fuel with
 | zero=>
   intro listed a w h hc
   have hall:∀i,i<ops.size->listed.getD i false=true:=fun i hi=>by
    cases hx:listed.getD i false
    ·have:0<(List.range ops.size).countP (fun i=>listed.getD i false==false):=List.countP_pos_iff.2 ⟨i,List.mem_range.2 hi,by simp[hx]⟩;omega
    ·rfl
   refine⟨?_,fin listed a w h hall⟩;apply List.eq_nil_iff_forall_not_mem.2;intro i hi;obtain⟨hun,oi,hoi,_⟩:=mem_ready.1 hi;have hilt:i<ops.size:=(Array.getElem?_eq_some_iff.1 hoi).1;rw[dQ (by rw[h.size];exact hilt),hall i hilt]at hun;cases hun
 | succ fuel ih=>
   intro listed a w h hc;refine⟨fun hnil=>fin listed a w h (fun i hi=>?_),fun i hi=>?_⟩
   ·induction i using Nat.strongRecOn with
    | _ i ihi=>
      cases hx:listed.getD i false
      ·exfalso;have ho:ops[i]? = some ops[i]:=by simp[hi]
       have:i∈Region.ready .any ops listed:=mem_ready.2 ⟨by rw[dQ (by rw[h.size];exact hi)];exact hx,ops[i],ho,fun e he hb=>by
        have hlt:=hs.back i ops[i] ho e he hb
        exact ihi e.on hlt (by omega)⟩
       rw[hnil]at this;cases this
      ·rfl
   ·refine h.step hO hs hnt hT hd h0 hi fun a' w' h'=>ih _ a' w' h' ?_
    obtain⟨hun,oi,hoi,_⟩:=mem_ready.1 hi;have hilt:i<ops.size:=(Array.getElem?_eq_some_iff.1 hoi).1;have hil:i<listed.size:=by rw[h.size];exact hilt
    have:=kp (p:=fun j=>(listed.setIfInBounds i true).getD j false==false) (q:=fun j=>listed.getD j false==false) (i:=i) (fun j hj=>by
     rw[aW hil]at hj;split at hj
     ·simp at hj
     ·exact hj) (by rw[<-dQ hil,hun];rfl) (by rw[aW hil];simp) (List.range ops.size) (List.mem_range.2 hilt)
    omega
end
theorem C_{O:dm}{P:Program}(hO:aS P O)(hP:P.follows .mixedOrders=true){ops:Array Oper}{nt id:Nat}{r r':T XV}{m m':Mem}(h:iN O P ops nt r m=some (r',m')){β : Env}{w:World}{a:Act}(hr:lV β m.n nt r a.tmps)(hm:Rel β m w)
 {Q:Exit->Act->World->Prop}(hq:zr β m w nt a.defers r' m' (Q .normal)):(Code.region id ops true).wp P Q a w:=by
 unfold iN at h;split at h
 ·rename_i hst;have hs:=ku hst;split at h
  ·rename_i tr r1 m1 htr;split at h
   ·rename_i hdy;simp only[Option.some.injEq,Prod.mk.injEq]at h;obtain⟨rfl,rfl⟩:=h;obtain⟨rs,ms,ds,hT,h1,h2,h3,h4⟩:=oK htr;subst h1;subst h2;have hd:=Oh hT hdy;have hdr:=Step.drew hm;refine wp_region_any hP ?_;have hsz:ops.toList.length=ops.size:=by simp
    rw[hsz]at h3 h4;refine Inv.any hO hs hr.small hT hd hm.fresh (β0 := β) (w0:=w) (dfs:=a.defers) (Q:=Q) (by rw[h3,h4];exact hq) _ _ a _ ?_ ?_
    ·refine⟨by simp,fun i j ha hi=>?_,⟨β,0,(rs 0).get .undef,by omega,fun e he _=>?_,hdr.rel,hr,fun i o t hi=>?_,fun t _=>rfl,hdr⟩,rfl⟩
     ·exfalso
      by_cases hlt:i<ops.size<;>simp[Array.getD_eq_getD_getElem?,hlt]at hi
     ·simp[Array.getD_eq_getD_getElem?,he]
     ·exfalso
      by_cases hlt:i<ops.size<;>simp[Array.getD_eq_getD_getElem?,hlt]at hi
    ·exact Nat.le_trans List.countP_le_length (by simp)
   ·cases h
  ·cases h
 ·cases h
theorem Bn{O:dm}{P:Program}(hO:aS P O){ops:Array Oper}{nt:Nat}{r r':T XV}{m m':Mem}(h:iN O P ops nt r m=some (r',m')):rC m m':=by
 have key:∀{l:List Oper} {r r':T XV} {m m':Mem} {tr:List (Mem×Out)},jc O P ops nt l r m=some (tr,r',m')->rC m m':=by
  intro l
  induction l with
  | nil=>
    intro r r' m m' tr h;simp only[jc,Option.some.injEq,Prod.mk.injEq]at h;obtain⟨_,_,rfl⟩:=h;exact .same _
  | cons o l ih=>
    intro r r' m m' tr h;unfold jc at h;split at h
    ·rename_i d hd;split at h
     ·rename_i tr1 r1 m1 ht;simp only[Option.some.injEq,Prod.mk.injEq]at h;obtain⟨_,_,rfl⟩:=h;exact(lD hO hd).trans (ih ht)
     ·cases h
    ·cases h
 unfold iN at h;split at h
 ·split at h
  ·rename_i tr r1 m1 htr;split at h
   ·simp only[Option.some.injEq,Prod.mk.injEq]at h;obtain⟨_,rfl⟩:=h;exact key htr
   ·cases h
  ·cases h
 ·cases h
end Go.Xm
namespace Go.Xm
variable [aq]
def XC.jK(p:Nat->Prop):XC->Prop
 | .ptr i _=>p i
 | .slice i _ _ _=>p i
 | .map i=>p i
 | .bind g c=>g.jK p/\c.jK p
 | .lsl g _ _ _ _ _=>p g
 | .lpt g _ _=>p g
 | _=>True
def X1.jK(p:Nat->Prop):X1->Prop
 | .one c=>c.jK p
 | .agg cs=>∀c∈cs,c.jK p
def XV.jK(p:Nat->Prop):XV->Prop
 | .undef=>True
 | .one c=>c.jK p
 | .agg cs=>∀c∈cs,c.jK p
 | .tup xs=>∀x∈xs,x.jK p
def ak.jK(p:Nat->Prop):ak->Prop
 | .dead=>True
 | .late _=>True
 | .cells vs _ _ _=>∀c∈vs,c.jK p
 | .map es=>∀q∈es,q.1.jK p/\q.2.jK p
def XC.okB(p:Nat->Bool):XC->Bool
 | .ptr i _=>p i
 | .slice i _ _ _=>p i
 | .map i=>p i
 | .bind g c=>g.okB p&&c.okB p
 | .lsl g _ _ _ _ _=>p g
 | .lpt g _ _=>p g
 | _=>true
def X1.okB(p:Nat->Bool):X1->Bool
 | .one c=>c.okB p
 | .agg cs=>cs.all (·.okB p)
def XV.okB(p:Nat->Bool):XV->Bool
 | .undef=>true
 | .one c=>c.okB p
 | .agg cs=>cs.all (·.okB p)
 | .tup xs=>xs.all (·.okB p)
def ak.okB(p:Nat->Bool):ak->Bool
 | .dead=>true
 | .late _=>true
 | .cells vs _ _ _=>vs.all (·.okB p)
 | .map es=>es.all fun q=>q.1.okB p&&q.2.okB p
section names
variable {p q:Nat->Prop}
theorem XC.iD{b:Nat->Bool}(h:∀i,b i=true->p i):∀{c:XC},c.okB b=true->c.jK p:=by
 intro c
 induction c with
 | ptr i off=>exact h i
 | slice i off len cap=>exact h i
 | map i=>exact h i
 | lsl g k off len fl cut=>exact h g
 | lpt g k off=>exact h g
 | bind g c ih1 ih2=>intro h';simp only[okB,Bool.and_eq_true]at h';exact⟨ih1 h'.1,ih2 h'.2⟩
 | _=>intro _;trivial
theorem X1.iD{b:Nat->Bool}(h:∀i,b i=true->p i):∀{x:X1},x.okB b=true->x.jK p
 | .one _,h'=>XC.iD h h'
 | .agg cs,h'=>fun c hc=>XC.iD h (List.all_eq_true.1 h' c hc)
theorem XV.iD{b:Nat->Bool}(h:∀i,b i=true->p i):∀{x:XV},x.okB b=true->x.jK p
 | .undef,_=>trivial
 | .one _,h'=>XC.iD h h'
 | .agg cs,h'=>fun c hc=>XC.iD h (List.all_eq_true.1 h' c hc)
 | .tup cs,h'=>fun c hc=>X1.iD h (List.all_eq_true.1 h' c hc)
theorem ak.iD{b:Nat->Bool}(h:∀i,b i=true->p i):∀{x:ak},x.okB b=true->x.jK p
 | .dead,_=>trivial
 | .late _,_=>trivial
 | .cells vs _ _ _,h'=>fun c hc=>XC.iD h (List.all_eq_true.1 h' c hc)
 | .map es,h'=>fun c hc=>by
   have:=List.all_eq_true.1 h' c hc;simp only[Bool.and_eq_true]at this;exact⟨X1.iD h this.1,X1.iD h this.2⟩
theorem XC.bP(h:∀i,p i->q i):∀{c:XC},c.jK p->c.jK q:=by
 intro c
 induction c with
 | ptr i off=>exact h i
 | slice i off len cap=>exact h i
 | map i=>exact h i
 | lsl g k off len fl cut=>exact h g
 | lpt g k off=>exact h g
 | bind g c ih1 ih2=>intro h';exact⟨ih1 h'.1,ih2 h'.2⟩
 | _=>intro _;trivial
theorem X1.bP(h:∀i,p i->q i):∀{x:X1},x.jK p->x.jK q
 | .one _,h'=>XC.bP h h'
 | .agg cs,h'=>fun c hc=>XC.bP h (h' c hc)
theorem XV.bP(h:∀i,p i->q i):∀{x:XV},x.jK p->x.jK q
 | .undef,_=>trivial
 | .one _,h'=>XC.bP h h'
 | .agg cs,h'=>fun c hc=>XC.bP h (h' c hc)
 | .tup cs,h'=>fun c hc=>X1.bP h (h' c hc)
theorem ak.bP(h:∀i,p i->q i):∀{x:ak},x.jK p->x.jK q
 | .dead,_=>trivial
 | .late _,_=>trivial
 | .cells vs _ _ _,h'=>fun c hc=>XC.bP h (h' c hc)
 | .map es,h'=>fun c hc=>⟨X1.bP h (h' c hc).1,X1.bP h (h' c hc).2⟩
theorem XC.gE{n:Nat}:∀{c:XC},c.jK (· < n)↔c.ok n:=by
 intro c
 induction c with
 | bind g c ih1 ih2=>exact and_congr ih1 ih2
 | _=>exact Iff.rfl
theorem X1.gE{n:Nat}:∀{x:X1},x.jK (· < n)↔x.ok n
 | .one _=>XC.gE
 | .agg cs=>⟨fun h c hc=>XC.gE.1 (h c hc),fun h c hc=>XC.gE.2 (h c hc)⟩
def EU(p:Nat->Prop)(β β':Env):Prop:=∀i,p i -> β'.bG i = β.bG i /\ β'.size i = β.size i /\ β'.base i = β.base i
theorem XC.kr{β β':Env}(h:EU p β β'):∀{c:XC},c.jK p->c.den β'=c.den β:=by
 intro c
 induction c with
 | ptr i off=>intro h';simp only[den,(h i h').1,(h i h').2.2]
 | slice i off len cap=>intro h';cases cap<;>simp only[den,(h i h').1,(h i h').2.1,(h i h').2.2]
 | map i=>intro h';simp only[den,(h i h').1]
 | lsl g k off len fl cut=>intro h';simp only[den,(h g h').1]
 | lpt g k off=>intro h';simp only[den,(h g h').1]
 | bind g c ih1 ih2=>intro h';simp only[den,ih1 h'.1,ih2 h'.2]
 | _=>intro _;rfl
theorem mS{β β':Env}(h:EU p β β'){cs:List XC}(hc:∀c∈cs,c.jK p):cs.map (·.den β')=cs.map (·.den β):=
 List.map_congr_left fun c hm=>XC.kr h (hc c hm)
theorem X1.kr{β β':Env}(h:EU p β β'):∀{x:X1},x.jK p->x.den β'=x.den β
 | .one _,h'=>XC.kr h h'
 | .agg cs,h'=>by simp only[den,mS h h']
theorem aL.KU{β β':Env}{n n':Nat}{x:XV}{v:Value}(h:aL β n x v)(hp:x.jK p)(he:EU p β β')(hn:∀i,p i->i<n'):aL β' n' x v:=by
 cases x with
 | undef=>trivial
 | one c=>exact⟨XC.gE.1 (XC.bP hn hp),h.2.trans (XC.kr he hp).symm⟩
 | agg cs=>exact⟨fun c hc=>XC.gE.1 (XC.bP hn (hp c hc)),h.2.trans (by rw[mS he hp])⟩
 | tup xs=>
   refine⟨fun c hc=>X1.gE.1 (X1.bP hn (hp c hc)),h.2.trans ?_⟩;have:xs.map (·.den β')=xs.map (·.den β):=List.map_congr_left fun c hm=>X1.kr he (hp c hm)
   rw[this]
theorem fb.KU{β β':Env}{n n' lo sz:Nat}{x:ak}{o:Option Obj}(h:fb β n lo sz x o)(hp:x.jK p)(he:EU p β β')(hn:∀i,p i->i<n'):fb β' n' lo sz x o:=by
 cases x with
 | dead=>trivial
 | late L=>trivial
 | cells vs elem opn ro=>
   obtain⟨cs,fr,h1,h2,h3,h4,h5,h6⟩:=h;exact⟨cs,fr,h1,h2,h3,h4,fun c hc=>XC.gE.1 (XC.bP hn (hp c hc)),by rw[h6,mS he hp]⟩
 | map es=>
   obtain⟨en,clock,h1,h2,h3⟩:=h;refine⟨en,clock,h1,fun c hc=>⟨X1.gE.1 (X1.bP hn (hp c hc).1),X1.gE.1 (X1.bP hn (hp c hc).2)⟩,h3.trans ?_⟩;exact List.map_congr_left fun c hc=>by rw[X1.kr he (hp c hc).1,X1.kr he (hp c hc).2]
theorem aL.jK{β : Env}{n:Nat}{x:XV}{v:Value}(h:aL β n x v):x.jK (· < n):=by
 cases x with
 | undef=>trivial
 | one c=>exact XC.gE.2 h.1
 | agg cs=>exact fun c hc=>XC.gE.2 (h.1 c hc)
 | tup xs=>exact fun c hc=>X1.gE.2 (h.1 c hc)
theorem fb.jK{β : Env}{n lo sz:Nat}{x:ak}{o:Option Obj}(h:fb β n lo sz x o):x.jK (· < n):=by
 cases x with
 | dead=>trivial
 | late L=>trivial
 | cells vs elem opn ro=>
   obtain⟨cs,fr,h1,h2,h3,h4,h5,h6⟩:=h;exact fun c hc=>XC.gE.2 (h5 c hc)
 | map es=>
   obtain⟨en,clock,h1,h2,h3⟩:=h
   exact fun c hc=>⟨X1.gE.2 (h2 c hc).1,X1.gE.2 (h2 c hc).2⟩
theorem fb.lt{β : Env}{n lo sz b:Nat}{x:ak}{w:World}(h:fb β n lo sz x w.heap[b]?)(hl:x.live=true):b<w.heap.size:=by
 cases x with
 | dead=>cases hl
 | late L=>cases hl
 | cells vs elem opn ro=>
   obtain⟨cs,fr,h2,_⟩:=h;exact(Array.getElem?_eq_some_iff.1 h2).1
 | map es=>
   obtain⟨en,clock,h2,_⟩:=h;exact(Array.getElem?_eq_some_iff.1 h2).1
end names
def eo(bs:List Nat)(made:List (Nat×Nat))(e:Nat)(m:Mem):Mem:=
 match made with
 | []=>m
 | p::l=>if bit bs e p.1 then eo bs l e m else(eo bs l e m).put p.2 .dead
def Nm(bs:List Nat)(made:List (Nat×Nat))(n0 e i:Nat):Bool:=Nat.blt i n0||made.any fun p=>p.2==i&&(p.1==e||bit bs e p.1)
def Eh(m m':Mem)(n:Nat):Bool:=(List.range n).all fun j=>(m'.f4 j).ver==(m.f4 j).ver
def sm(bs:List Nat)(n0 e:Nat)(m m0:Mem)(made:List (Nat×Nat))(d:Out):Option (Mem×List (Nat×Nat)):=
 if Eh m0 d.m m.n then
  if d.m.n=m.n then
   if d.x.okB (Nm bs made n0 e)then some (m,made)else .none
  else
   if d.m.n=m.n+1 then
    if(d.m.get m.n).own&&(d.x.okB (Nm bs ((e,m.n)::made) n0 e)&&(d.m.get m.n).okB (Nm bs ((e,m.n)::made) n0 e))then
     match m.push (d.m.get m.n)with
     | some m'=>some (m',(e,m.n)::made)
     | .none => .none
    else .none
   else .none
 else .none
def jk(O:dm)(P:Program)(ops:Array Oper)(nt:Nat)(bs:List Nat)(n0:Nat):List Oper->Nat->List (Nat×Nat)->T XV->Mem->Option (T XV×Mem)
 | [],_,_,r,m=>some (r,m)
 | o :: l,e,made,r,m=>match ji O P ops (r.get .undef) o (eo bs made e m)with
   | some d=>match sm bs n0 e m (eo bs made e m) made d with
     | some (m',made')=>jk O P ops nt bs n0 l (e+1) made' (nE nt r o.dst d.x) m'
     | .none => .none
   | .none => .none
def rl(O:dm)(P:Program)(ops:Array Oper)(nt:Nat)(r:T XV)(m:Mem):Option (T XV×Mem):=
 if da ops nt (iQ ops.toList)then jk O P ops nt (iQ ops.toList) m.n ops.toList 0 [] r m else .none
theorem sP{O:dm}{P:Program}{ops:Array Oper}{nt:Nat}{bs:List Nat}{n0:Nat}:∀{l:List Oper} {e:Nat} {made:List (Nat×Nat)} {r r':T XV} {m m':Mem},jk O P ops nt bs n0 l e made r m=some (r',m')->rC m m'
 | [],e,made,r,r',m,m',h=>by simp only[jk,Option.some.injEq,Prod.mk.injEq]at h;obtain⟨_,rfl⟩:=h;exact .same _
 | o :: l,e,made,r,r',m,m',h=>by
   unfold jk at h;split at h
   ·rename_i d hd;split at h
    ·rename_i m1 made1 hs;refine .trans ?_ (sP h);unfold sm at hs
     (repeat' split at hs)<;>first
       | (cases hs;done)
       | (cases hs;exact .same _)
       | (cases hs;exact .push ‹_›)
    ·cases h
   ·cases h
def Mk(ms:Nat->Mem)(e i:Nat):Prop:=(ms e).n<=i/\i<(ms (e+1)).n
def Al(bs:List Nat)(ms:Nat->Mem)(n0 e i:Nat):Prop:=i<n0\/∃j,j<e/\bit bs e j=true/\Mk ms j i
def KY(bs:List Nat)(ms:Nat->Mem)(n0 e i:Nat):Prop:=Al bs ms n0 e i\/Mk ms e i
structure Qp(O:dm)(P:Program)(ops:Array Oper)(nt:Nat)(bs:List Nat)(n0:Nat)(rs:Nat->T XV)(ms:Nat->Mem)(xs:Nat->XV)(e:Nat)(o:Oper)(m0:Mem)(d:Out):Prop where
 run:ji O P ops ((rs e).get .undef) o m0=some d
 rs:rs (e+1)=nE nt (rs e) o.dst d.x
 xs:xs e=d.x
 n:m0.n=(ms e).n
 fresh:(ms e).cg->m0.cg
 yes:∀j,j<(ms e).n->Al bs ms n0 e j->m0.get j=(ms e).get j
 no:∀j,j<(ms e).n->¬Al bs ms n0 e j->m0.get j = .dead
 ver:∀j,j<(ms e).n->(d.m.f4 j).ver=(m0.f4 j).ver
 dn:d.m.n=(ms (e+1)).n
 ok:d.x.jK (KY bs ms n0 e)
 nx:ms (e+1)=ms e\/((ms e).push (d.m.get (ms e).n)=some (ms (e+1))/\(d.m.get (ms e).n).own=true/\(d.m.get (ms e).n).jK (KY bs ms n0 e))
theorem qP(bs:List Nat)(e:Nat)(m:Mem):∀made,(eo bs made e m).n=m.n
 | []=>rfl
 | p::l=>by
   unfold eo;split
   ·exact qP bs e m l
   ·rw[Mem.dZ];exact qP bs e m l
theorem mT(bs:List Nat)(e:Nat){m:Mem}(h:m.cg):∀made,(eo bs made e m).cg
 | []=>h
 | p::l=>by
   unfold eo;split
   ·exact mT bs e h l
   ·exact cg.put (mT bs e h l) _
theorem uO(bs:List Nat)(e:Nat)(m:Mem)(hb:m.n<=Mem.bound):∀made j,j<m.n->(eo bs made e m).get j=if made.any (fun p=>p.2==j&&!bit bs e p.1)then .dead else m.get j
 | [],j,_=>by simp[eo]
 | p :: l,j,hj=>by
   unfold eo;have ih:=uO bs e m hb l j hj;cases hbit:bit bs e p.1
   ·simp only[Bool.false_eq_true,if_false,List.any_cons,hbit,Bool.not_false,Bool.and_true]
    by_cases hpj:p.2=j
    ·subst hpj;rw[Mem.ff _ _ (by rw[qP];exact hj) (by omega)];simp
    ·rw[Mem.ek _ _ (fun e=>hpj e.symm),ih];have:(p.2==j)=false:=by simpa using hpj
     rw[this,Bool.false_or]
   ·simp only[if_true,List.any_cons,hbit,Bool.not_true,Bool.and_false,Bool.false_or];exact ih
theorem rp{O : dm}{P:Program}{ops:Array Oper}{nt:Nat}{bs:List Nat}{n0:Nat}:∀{l:List Oper} {e:Nat} {made:List (Nat×Nat)} {r r':T XV} {m m':Mem}(rs0:Nat->T XV) (ms0:Nat->Mem) (xs0:Nat->XV),jk O P ops nt bs n0 l e made r m=some (r',m') ->
 rs0 e=r->ms0 e=m->m.n<=Mem.bound->(∀k,k<e->(ms0 k).n<=(ms0 (k+1)).n)->n0<=(ms0 0).n->(∀j i,(j,i)∈made↔(j<e/\Mk ms0 j i))->(∀k,k<e->(ms0 (k+1)).n<=(ms0 k).n+1)->(∀i,i<m.n->i<n0\/∃j,j<e/\Mk ms0 j i) ->
 ∃ rs ms xs,(∀k,k<=e->rs k=rs0 k/\ms k=ms0 k)/\(∀k,k<e->xs k=xs0 k)/\rs (e+l.length)=r'/\ms (e+l.length)=m'/\m'.n<=Mem.bound/\(∀k,k<e+l.length->(ms k).n<=(ms (k+1)).n) /\
   (∀i,i<m'.n->i<n0\/∃j,j<e+l.length/\Mk ms j i)/\∀k o,l[k]? = some o->∃m0 d,Qp O P ops nt bs n0 rs ms xs (e+k) o m0 d
 | [],e,made,r,r',m,m',rs0,ms0,xs0,h,hr,hm,hb,hle,h0,_,_,hcov=>by
   simp only[jk,Option.some.injEq,Prod.mk.injEq]at h;obtain⟨rfl,rfl⟩:=h;exact⟨rs0,ms0,xs0,fun k _=>⟨rfl,rfl⟩,fun k _=>rfl,hr,hm,hb,hle,hcov,fun k o h=>by simp at h⟩
 | o :: l, e, made,r,r',m,m',rs0,ms0,xs0,h,hr,hm,hb,hle,h0,hmade,hone,hcov=>by
   unfold jk at h;split at h
   ·rename_i d hd;split at h
    ·rename_i m1 made1 hs
     let rs1:Nat->T XV:=fun k=>if k<=e then rs0 k else nE nt r o.dst d.x
     let ms1:Nat->Mem:=fun k=>if k<=e then ms0 k else m1
     let xs1:Nat->XV:=fun k=>if k<e then xs0 k else d.x
     have e1:rs1 (e+1)=nE nt r o.dst d.x:=if_neg (by omega);have e2:ms1 (e+1)=m1:=if_neg (by omega);have e3:∀k,k<=e->ms1 k=ms0 k:=fun k hk=>by simp[ms1,hk]
     have e4:∀k,k<=e->rs1 k=rs0 k:=fun k hk=>by simp[rs1,hk]
     have hmk:∀j i,j<e->(Mk ms1 j i↔Mk ms0 j i):=fun j i hj=>by unfold Mk;rw[e3 j (by omega),e3 (j+1) (by omega)]
     have hst : Eh (eo bs made e m) d.m m.n=true/\((d.m.n=m.n/\d.x.okB (Nm bs made n0 e)=true/\m1=m/\made1=made) \/
      (d.m.n=m.n+1/\(d.m.get m.n).own=true/\d.x.okB (Nm bs ((e,m.n)::made) n0 e)=true/\(d.m.get m.n).okB (Nm bs ((e,m.n)::made) n0 e)=true/\m.push (d.m.get m.n)=some m1/\made1=(e,m.n)::made)):=by
      unfold sm at hs;split at hs
      ·rename_i hv;refine⟨hv,?_⟩;split at hs
       ·rename_i hn;split at hs
        ·rename_i hk;cases hs;exact .inl ⟨hn,hk,rfl,rfl⟩
        ·cases hs
       ·split at hs
        ·rename_i hn;split at hs
         ·rename_i hk;simp only[Bool.and_eq_true]at hk;split at hs
          ·rename_i mm hp;cases hs;exact .inr ⟨hn,hk.1,hk.2.1,hk.2.2,hp,rfl⟩
          ·cases hs
         ·cases hs
        ·cases hs
      ·cases hs
     obtain⟨hver,hcase⟩:=hst
     have hver':∀j,j<m.n->(d.m.f4 j).ver=((eo bs made e m).f4 j).ver:=fun j hj=>by
      have:=List.all_eq_true.1 hver j (List.mem_range.2 hj);simpa using this
     have hn1:d.m.n=m1.n:=by
      rcases hcase with⟨h1,_,h2,_⟩|⟨h1,_,_,_,h2,_⟩
      ·rw[h2];exact h1
      ·rw[(Mem.bu h2).2.1];exact h1
     have hb1:m1.n<=Mem.bound:=by
      rcases hcase with⟨h1,_,h2,_⟩|⟨h1,_,_,_,h2,_⟩
      ·rw[h2];exact hb
      ·have:=Mem.bu h2;omega
     have hle1:m.n<=m1.n/\m1.n<=m.n+1:=by
      rcases hcase with⟨h1,_,h2,_⟩|⟨h1,_,_,_,h2,_⟩
      ·rw[h2];omega
      ·have:=Mem.bu h2;omega
     have hmade1:∀j i,(j,i)∈made1↔(j<e+1/\Mk ms1 j i):=by
      intro j i
      have yB:(j,i)∈made↔(j<e/\Mk ms1 j i):=by
       rw[hmade j i];exact⟨fun h=>⟨h.1,(hmk j i h.1).2 h.2⟩,fun h=>⟨h.1,(hmk j i h.1).1 h.2⟩⟩
      have here:Mk ms1 e i↔(m.n<=i/\i<m1.n):=by unfold Mk;rw[e3 e (Nat.le_refl _),e2,hm]
      rcases hcase with⟨h1,_,h2,h3⟩|⟨h1,_,_,_,h2,h3⟩
      ·rw [h3,yB];constructor
       ·intro h;exact⟨by omega,h.2⟩
       ·rintro ⟨h4,h5⟩
        by_cases hje:j=e
        ·subst hje;rw[here,h2]at h5;omega
        ·exact⟨by omega,h5⟩
      ·have hnn:=(Mem.bu h2).2.1;rw[h3,List.mem_cons,yB,Prod.mk.injEq];constructor
       ·rintro (⟨h4,h5⟩|h4)
        ·rw[h4];exact⟨by omega,here.2 ⟨by omega,by omega⟩⟩
        ·exact⟨by omega,h4.2⟩
       ·rintro ⟨h4,h5⟩
        by_cases hje:j=e
        ·rw[hje]at h5;have:=here.1 h5;exact .inl ⟨hje,by omega⟩
        ·exact .inr ⟨by omega,h5⟩
     have hsub:∀i,Nm bs made1 n0 e i=true->KY bs ms1 n0 e i:=by
      intro i hi;unfold Nm at hi;simp only[Bool.or_eq_true,List.any_eq_true,Bool.and_eq_true]at hi
      rcases hi with h1|⟨q,hq,hqi,hqe⟩
      ·exact .inl (.inl (by simpa [Nat.blt_eq]using h1))
      ·have hqi':q.2=i:=by simpa using hqi
       have hmem:(q.1,i)∈made1:=by rw[<-hqi'];exact hq
       have:=(hmade1 q.1 i).1 hmem
       by_cases hq1:q.1=e
       ·rw[hq1]at this;exact .inr this.2
       ·refine .inl (.inr ⟨q.1,by omega,?_,this.2⟩)
        rcases hqe with h2|h2
        ·exact absurd (by simpa using h2) hq1
        ·exact h2
     obtain⟨rs,ms,xs,k1,k2,k3,k4,k5,k6,k7,k8⟩:=rp (l:=l) rs1 ms1 xs1 h e1 e2 hb1 (fun k hk=>by
      by_cases hke:k=e
      ·subst hke;rw[e3 k (Nat.le_refl _),e2,hm];exact hle1.1
      ·rw[e3 k (by omega),e3 (k+1) (by omega)];exact hle k (by omega)) (by rw[e3 0 (by omega)];exact h0) hmade1 (fun k hk=>by
      by_cases hke:k=e
      ·subst hke;rw[e3 k (Nat.le_refl _),e2,hm];exact hle1.2
      ·rw[e3 k (by omega),e3 (k+1) (by omega)];exact hone k (by omega)) (fun i hi=>by
      by_cases him:i<m.n
      ·rcases hcov i him with h1|⟨j,h1,h2⟩
       ·exact .inl h1
       ·exact .inr ⟨j,by omega,(hmk j i h1).2 h2⟩
      ·exact .inr ⟨e,by omega,by unfold Mk;rw[e3 e (Nat.le_refl _),e2,hm];omega⟩)
     have hlen:e+(o::l).length=e+1+l.length:=by simp;omega
     refine⟨rs,ms,xs,fun k hk=>⟨(k1 k (by omega)).1.trans (e4 k hk),(k1 k (by omega)).2.trans (e3 k hk)⟩,fun k hk=>(k2 k (by omega)).trans (by simp[xs1,hk]),by rw[hlen];exact k3,by rw[hlen];exact k4,k5,by rw[hlen];exact k6,by rw[hlen];exact k7,fun k o' hk=>?_⟩;have hmse:ms e=m:=by rw[(k1 e (by omega)).2,e3 e (Nat.le_refl _),hm]
     have hmse1:ms (e+1)=m1:=by rw[(k1 (e+1) (Nat.le_refl _)).2,e2]
     have hmk2:∀j i,j<e+1->(Mk ms j i↔Mk ms1 j i):=fun j i hj=>by unfold Mk;rw[(k1 j (by omega)).2,(k1 (j+1) (by omega)).2]
     have hAl':∀i,KY bs ms1 n0 e i->KY bs ms n0 e i:=by
      rintro i ((h1|⟨j,h1,h2,h3⟩)|h1)
      ·exact .inl (.inl h1)
      ·exact .inl (.inr ⟨j,h1,h2,(hmk2 j i (by omega)).2 h3⟩)
      ·exact .inr ((hmk2 e i (by omega)).2 h1)
     cases k with
     | zero =>
       simp only[List.getElem?_cons_zero,Option.some.injEq]at hk;subst hk;have hget:=uO bs e m hb made;refine⟨eo bs made e m,d,?_⟩;show Qp O P ops nt bs n0 rs ms xs e o (eo bs made e m) d;refine {run:=?_,rs:=?_,xs:=?_,n:=?_,fresh:=?_,yes:=?_,no:=?_,ver:=?_,dn:=?_,ok:=?_,nx:=?_}
       ·rw[(k1 e (by omega)).1,e4 e (Nat.le_refl _),hr];exact hd
       ·rw[(k1 e (by omega)).1,e4 e (Nat.le_refl _),hr,(k1 (e+1) (Nat.le_refl _)).1,e1]
       ·rw[k2 e (by omega)];simp[xs1]
       ·rw[hmse,qP]
       ·rw[hmse];exact fun hf=>mT bs e hf made
       ·rw [hmse];intro j hj hal;rw[hget j hj];split
        ·rename_i hany;exfalso;obtain⟨q,hq,hq2⟩:=List.any_eq_true.1 hany;simp only[Bool.and_eq_true,Bool.not_eq_true']at hq2;have hqj:q.2=j:=by simpa using hq2.1
         have hm1:=(hmade q.1 j).1 (by rw[<-hqj];exact hq)
         rcases hal with h1|⟨j',h1,h2,h3⟩
         ·have:∀k,k<=e->(ms0 0).n<=(ms0 k).n:=by
           intro k
           induction k with
           | zero=>intro _;exact Nat.le_refl _
           | succ k ih=>intro hk;have:=ih (by omega);have:=hle k (by omega);omega
          have:=this q.1 (by omega);have:=hm1.2.1;omega
         ·have h3':=(hmk j' j h1).1 ((hmk2 j' j (by omega)).1 h3)
          have mono:∀a b,a<=b->b<=e->(ms0 a).n<=(ms0 b).n:=by
           intro a b hab
           induction b with
           | zero=>intro _;rw[show a=0 by omega];exact Nat.le_refl _
           | succ b ih=>
             intro hk
             by_cases h':a=b+1
             ·rw[h'];exact Nat.le_refl _
             ·have h1':=ih (by omega) (by omega);have h2':=hle b (by omega);omega
          have:j'=q.1:=by
           rcases Nat.lt_trichotomy j' q.1 with hh|hh|hh
           ·have:=mono (j'+1) q.1 (by omega) (by omega);have h4:=h3'.2;have h5:=hm1.2.1;omega
           ·exact hh
           ·have:=mono (q.1+1) j' (by omega) (by omega);have h4:=h3'.1;have h5:=hm1.2.2;omega
          rw[this,hq2.2]at h2;cases h2
        ·rfl
       ·rw[hmse];intro j hj hal;rw[hget j hj];rw[if_pos]
        rcases hcov j hj with h1|⟨j',h1,h2⟩
        ·exact absurd (Or.inl h1) hal
        ·have hmem:=(hmade j' j).2 ⟨h1,h2⟩;refine List.any_eq_true.2 ⟨(j',j),hmem,?_⟩;simp only[beq_self_eq_true,Bool.true_and,Bool.not_eq_true']
         cases hbit:bit bs e j' with
         | false=>rfl
         | true=>exact absurd (Or.inr ⟨j',h1,hbit,(hmk2 j' j (by omega)).2 ((hmk j' j h1).2 h2)⟩) hal
       ·rw[hmse];exact hver'
       ·rw[hmse1];exact hn1
       ·rcases hcase with⟨_,h1,_,h2⟩|⟨_,_,h1,_,_,h2⟩
        ·exact XV.iD (fun i hi=>hAl' i (hsub i (by rw[h2];exact hi))) h1
        ·exact XV.iD (fun i hi=>hAl' i (hsub i (by rw[h2];exact hi))) h1
       ·rw[hmse,hmse1]
        rcases hcase with⟨_,_,h1,_⟩|⟨_,h1,_,h2,h3,h4⟩
        ·exact .inl h1
        ·exact .inr ⟨h3,h1,ak.iD (fun i hi=>hAl' i (hsub i (by rw[h4];exact hi))) h2⟩
     | succ k=>
       simp only[List.getElem?_cons_succ]at hk;have:=k8 k o' hk;rw[show e+1+k=e+(k+1) by omega]at this;exact this
    ·cases h
   ·cases h
end Go.Xm
