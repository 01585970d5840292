/-
  A part of the proof: XwStep, XwOps, XwCall, XwK, XvBase, XvCall, XvInst, XvRule, XvMore, XvArg, XvFlow.
-/
import Derived.Test.YtnkodcmkpfefhaaGreatEeC
set_option maxRecDepth 10000
set_option maxHeartbeats 8000000
set_option linter.unusedVariables false
set_option linter.unusedSectionVars false
set_option linter.unusedSimpArgs false
namespace Go.Xm
variable [aw]
structure Ab where
 eff:Bool
 fp:Option Nat
 ws:List Nat
def sY(d:Option Nat)(x:XV)(al:bc):bc:=
 match d with
 | some d=>(d,x)::al
 | .none=>al
theorem fk.sY{β : Env}{n nt:Nat}{al:bc}{a:Act}(h:fk β n nt (rg al) a.tmps)(d:Option Nat){x:XV}{v:Value}(hv:aN β n x v)(hd:∀t,d=some t->t<nt):fk β n nt (rg (Xm.sY d x al)) (a.put d v).tmps:=by
 have:=h.put d hv hd
 cases d with
 | none=>exact this
 | some d=>
   have e:(fun t=>if some d=some t then x else rg al t)=rg (Xm.sY (some d) x al):=by
    funext t
    simp only[Xm.sY,rg,Option.some.injEq,eq_comm (a:=d)]
   rw[e]at this
   exact this
def aH(O:cJ)(P:Program)(ops:Array Oper)(al:bc)(hs:ai)(o:Oper)(x:XV)(hs':ai)(b:Ab):Prop:=
 ∀m,bj m hs->∃m',iP O P ops (rg al) o m=some ⟨x,m',b.eff,b.fp⟩/\bj m' hs'/\∀j,j∉b.ws->(m'.eL j).ver=(m.eL j).ver
inductive kN(O:cJ)(P:Program)(ops:Array Oper)(nt:Nat):List Oper->bc->ai->List Ab->bc->ai->Prop where
 | nil {al:bc} {hs:ai}:kN O P ops nt [] al hs [] al hs
 | cons {o:Oper} {l:List Oper} {al al':bc} {hs hs1 hs':ai} {x:XV} {b:Ab} {bs:List Ab}:aH O P ops al hs o x hs1 b->(∀d,o.dst=some d->d<nt)->kN O P ops nt l (sY o.dst x al) hs1 bs al' hs'->kN O P ops nt (o::l) al hs (b::bs) al' hs'
section
variable {O:cJ} {P:Program} {ops:Array Oper} {nt nI:Nat}
theorem CG(hO:aP P O){Q:Exit->Act->World->Prop}{l:List Oper}{al al':bc}{hs hs':ai}{bs:List Ab}(h:kN O P ops nt l al hs bs al' hs'):∀{m:Mem} {β : Env} {w:World} {a:Act},bj m hs->fk β m.n nt (rg al) a.tmps->Rel β m w ->
 (∀m' a' β' w',bj m' hs'->fk β' m'.n nt (rg al') a'.tmps->a'.defers=a.defers->Step β m w β' m' w'->Q .normal a' w')->wpList P ops Q l a w:=by
 induction h with
 | nil=>
   intro m β w a hm hr hw hq
   exact hq m a β w hm hr rfl (Step.refl hw)
 | cons ho hd _ ih=>
   rename_i o l al al' hs hs1 hs' x b bs _
   intro m β w a hm hr hw hq
   obtain⟨m1,h1,h2,_⟩:=ho m hm
   unfold iP at h1
   unfold wpList
   split at h1
   ·rename_i hwt
    rw[if_pos (ey hwt hr)]
    refine .inl (pz hO h1 hw (fun x=>hr.eval x) a _ Q rfl fun u β' w' hu hst=>?_)
    refine ih h2 ((hr.ext hst.ext hst.le).sY o.dst hu hd) hst.rel fun m' a'' β'' w'' k1 k2 k3 k4=>?_
    exact hq m' a'' β'' w'' k1 k2 (by rw[k3,dj]) (hst.trans k4)
   ·rename_i hwt
    simp only[Option.some.injEq,Out.mk.injEq]at h1
    obtain⟨rfl,rfl,_,_⟩:=h1
    have:=ey hwt hr
    rw[if_neg (by simp[this])]
    refine ih h2 (hr.sY o.dst aN.skip hd) hw fun m' a'' β'' w'' k1 k2 k3 k4=>?_
    exact hq m' a'' β'' w'' k1 k2 (by rw[k3,dj]) k4
   ·cases h1
theorem WX.plain(hO:aP P O){id:Nat}{al al':bc}{hs hs':ai}{bs:List Ab}{K:cR}(h:kN O P ops nt ops.toList al hs bs al' hs')(hk:K .normal al' hs'):WX P nt nI (.code (.region id ops false)) al hs K:=
 fun _ _ _ _ _ hm _ _ _ _ hr hw hq=>wp_region_list (CG hO h hm hr hw.rel fun m' a' β' w' k1 k2 k3 k4=>hq .normal al' hs' m' hk k1 a' β' w' k2 k3 (hw.trans k4))
theorem pK(g:Nat->XV)(nt:Nat)(hn:nt<1000000)(ho:∀t,nt<=t->g t = .undef):∃r:T XV,∀t,r.get .undef t=g t:=by
 have : ∀k,k<=nt->∃r:T XV,∀t,r.get .undef t=if t<k then g t else .undef:=by
  intro k
  induction k with
  | zero=>intro _;exact⟨.leaf,fun t=>by simp[T.dR]⟩
  | succ k ih=>
    intro hk
    obtain⟨r,hr⟩:=ih (by omega)
    refine⟨r.set .undef 31 k (g k),fun t=>?_⟩
    by_cases ht:t=k
    ·subst ht
     rw[T.eP _ _ _ _ _ (by omega)]
     simp
    ·rw[T.dZ _ _ _ _ _ _ ht,hr t]
     by_cases h1:t<k
     ·rw[if_pos h1,if_pos (by omega)]
     ·rw[if_neg h1,if_neg (by omega)]
 obtain⟨r,hr⟩:=this nt (Nat.le_refl _)
 refine⟨r,fun t=>?_⟩
 rw[hr t]
 split
 ·rfl
 ·exact(ho t (by omega)).symm
def EP(bs:List Nat)(i:Nat)(di:Ab)(e:Nat)(de:Ab):Bool:=
 !de.eff||i==e||((!(di.eff&&decide (e<i))||bit bs i e)&&
  (match di.fp with
    | .none=>true
    | some fp=>bit bs i e||bit bs e i||!(de.ws.contains fp)))
def tm(bs:List Nat)(tr:List Ab):Bool:=
 (List.range tr.length).all fun i=>match tr[i]? with
   | .none=>true
   | some di=>(!di.eff&&di.fp.isNone)||(List.range tr.length).all fun e=>match tr[e]? with
     | .none=>true
     | some de=>EP bs i di e de
def IQ:List (Mem×Out)->List Ab->Prop:=cE fun p b=>p.2.eff=b.eff/\p.2.fp=b.fp/\∀j,j∉b.ws->(p.2.m.eL j).ver=(p.1.eL j).ver
theorem cE.get?{α γ : Type}{R : α -> γ->Prop}:∀{l:List α} {k:List γ},cE R l k->∀(i:Nat) (a : α),l[i]? = some a->∃b,k[i]? = some b/\R a b
 | _,_,.nil,i,a,h=>by simp at h
 | _,_,.cons h t,0,a,h1=>by simp at h1;subst h1;exact⟨_,rfl,h⟩
 | _,_,.cons h t,i+1,a,h1=>by simp at h1;exact t.get? i a h1
theorem Bq{bs:List Nat}{tr:List (Mem×Out)}{ab:List Ab}(ht:IQ tr ab)(h:tm bs ab=true):iw bs tr=true:=by
 have hl:tr.length=ab.length:=cE.length ht
 unfold tm at h
 unfold iw
 rw[List.all_eq_true]at h ⊢
 intro i hi
 have hi':=h i (by rw[<-hl];exact hi)
 split
 ·rfl
 ·rename_i mi di hdi
  obtain⟨bi,hb,h1,h2,_⟩:=cE.get? ht i _ hdi
  simp only at h1 h2
  rw[hb]at hi'
  simp only[Bool.or_eq_true]at hi' ⊢
  rw[h1,h2]
  rcases hi' with hi'|hi'
  ·exact .inl hi'
  ·refine .inr (List.all_eq_true.2 fun e he=>?_)
   have he':=List.all_eq_true.1 hi' e (by rw[<-hl];exact he)
   split
   ·rfl
   ·rename_i me de hde
    obtain⟨be,hbe,k1,k2,k3⟩:=cE.get? ht e _ hde
    simp only at k1 k2 k3
    rw[hbe]at he'
    unfold gA
    unfold EP at he'
    rw[h1,h2,k1]
    simp only[Bool.or_eq_true,Bool.and_eq_true]at he' ⊢
    rcases he' with he'|⟨ha,hb'⟩
    ·exact .inl he'
    ·refine .inr ⟨ha,?_⟩
     cases hf:bi.fp with
     | none=>rfl
     | some fp=>
       rw[hf]at hb'
       simp only[Bool.or_eq_true]at hb' ⊢
       rcases hb' with hb'|hb'
       ·exact .inl hb'
       ·refine .inr ?_
        have:fp∉be.ws:=by simpa using hb'
        rw[k3 fp this]
        simp
theorem Ia{r:T XV}{al:bc}(hr:∀t,r.get .undef t=rg al t)(hn:nt<1000000)(d:Option Nat)(x:XV)(hd:∀t,d=some t->t<nt):∀t,(lN nt r d x).get .undef t=rg (sY d x al) t:=by
 intro t
 cases d with
 | none=>exact hr t
 | some d=>
   have:=hd d rfl
   simp only[lN,this,if_true,sY,rg]
   by_cases ht:t=d
   ·subst ht
    rw[T.eP _ _ _ _ _ (by omega),if_pos rfl]
   ·rw[T.dZ _ _ _ _ _ _ ht,if_neg ht]
    exact hr t
theorem oF(hn:nt<1000000){l:List Oper}{al al':bc}{hs hs':ai}{bs:List Ab}(h:kN O P ops nt l al hs bs al' hs'):∀{m:Mem} {r:T XV},bj m hs->(∀t,r.get .undef t=rg al t) ->
 ∃tr r' m',hZ O P ops nt l r m=some (tr,r',m')/\(∀t,r'.get .undef t=rg al' t)/\bj m' hs'/\IQ tr bs:=by
 induction h with
 | nil=>
   intro m r hm hr
   exact⟨[],r,m,rfl,hr,hm,.nil⟩
 | cons ho hd _ ih=>
   rename_i o l al al' hs hs1 hs' x b bs _
   intro m r hm hr
   obtain⟨m1,h1,h2,h3⟩:=ho m hm
   have e:(fun t=>r.get .undef t)=rg al:=funext hr
   obtain⟨tr,r',m',k1,k2,k3,k4⟩:=ih h2 (Ia hr hn o.dst x hd)
   refine⟨(m,⟨x,m1,b.eff,b.fp⟩)::tr,r',m',?_,k2,k3,.cons ⟨rfl,rfl,h3⟩ k4⟩
   unfold hZ
   have h1':iP O P ops (r.get .undef) o m=some ⟨x,m1,b.eff,b.fp⟩:=by rw[show(r.get .undef)=rg al from e];exact h1
   rw[h1']
   simp only[k1]
theorem WX.drawn(hO:aP P O)(hP:P.follows .mixedOrders=true){id:Nat}{al al':bc}{hs hs':ai}{bs:List Ab}{K:cR}(hst:cA ops nt (gT ops.toList)=true)(h:kN O P ops nt ops.toList al hs bs al' hs')(hdy:tm (gT ops.toList) bs=true)
 (hk:K .normal al' hs'):WX P nt nI (.code (.region id ops true)) al hs K:=by
 intro βI mI wI hn m hm β w a Q hr hw hq
 obtain⟨r,hrr⟩:=pK (rg al) nt hr.small hr.out
 obtain⟨tr,r',m',h1,h2,h3,h4⟩:=oF hr.small h hm hrr
 have hx:jo O P ops nt r m=some (r',m'):=by
  refine ss ?_
  unfold gJ
  rw[if_pos hst,h1]
  simp only[]
  rw[if_pos (Bq h4 hdy)]
 have e:(r.get .undef)=rg al:=funext hrr
 have e':(r'.get .undef)=rg al':=funext h2
 refine tW hO hP hx (by unfold j7;rw[e];exact hr) hw.rel fun a' β' w' k1 k2 k3=>?_
 unfold j7 at k1
 rw[e']at k1
 exact hq .normal al' hs' m' hk h3 a' β' w' k1 k2 (hw.trans k3)
end
end Go.Xm
namespace Go.Xm
variable [aw]
theorem bj.at{m:Mem}{hs:ai}(h:bj m hs){i:Nat}{o:ah}(ho:hs[i]? = some o):m.get i=o:=by
 have hi:i<m.n:=by
  have:=(List.getElem?_eq_some_iff.1 ho).1
  rw[h.n];exact this
 rw[h.get i hi,List.getD_eq_getElem?_getD,ho];rfl
theorem bj.lt{m:Mem}{hs:ai}(h:bj m hs){i:Nat}{o:ah}(ho:hs[i]? = some o):i<m.n/\i<Mem.bound:=by
 have:=(List.getElem?_eq_some_iff.1 ho).1
 have h1:=h.n
 have h2:=h.bnd
 omega
theorem bj.put{m:Mem}{hs:ai}(h:bj m hs){i:Nat}{o:ah}(ho:hs[i]? = some o)(o':ah):bj (m.put i o') (hs.set i o'):=by
 obtain⟨h1,h2⟩:=h.lt ho
 refine⟨by rw[Mem.eh,List.length_set];exact h.n,by rw[Mem.eh];exact h.bnd,bW.put h.fresh o',fun j hj=>?_⟩
 rw[Mem.eh]at hj
 by_cases hji:j=i
 ·subst hji
  rw[Mem.fU m o' h1 h2]
  have:j<hs.length:=by rw[<-h.n];exact hj
  simp[List.getD_eq_getElem?_getD,this]
 ·rw[Mem.eO m o' hji,h.get j hj]
  simp[List.getD_eq_getElem?_getD,List.getElem?_set_ne (Ne.symm hji)]
theorem uN{m:Mem}{i:Nat}{o:ah}:∀j,j∉[i]->((m.put i o).eL j).ver=(m.eL j).ver:=by
 intro j hj
 rw[Mem.fT m o (by simpa using hj)]
theorem bj.push{m:Mem}{hs:ai}(h:bj m hs)(o:ah)(hb:hs.length<Mem.bound):∃m',m.push o=some m'/\bj m' (hs++[o])/\∀j,j∉[hs.length]->(m'.eL j).ver=(m.eL j).ver:=by
 have hn:=h.n
 obtain⟨m',hp⟩:∃m',m.push o=some m':=by
  unfold Mem.push
  rw[if_pos (by omega)]
  exact⟨_,rfl⟩
 obtain⟨_,h2,h3,h4⟩:=Mem.br hp
 refine⟨m',hp,⟨by rw[h2,hn];simp,by omega,bW.push h.fresh hp,fun j hj=>?_⟩,fun j hj=>?_⟩
 ·by_cases hjn:j=m.n
  ·subst hjn
   unfold Mem.get
   rw[h3,hn]
   simp[List.getD_eq_getElem?_getD]
  ·have:m'.get j=m.get j:=by unfold Mem.get;rw[h4 j hjn]
   rw[this,h.get j (by omega),List.getD_eq_getElem?_getD,List.getD_eq_getElem?_getD,List.getElem?_append_left (by omega)]
 ·rw[h4 j (by rw[hn];simpa using hj)]
section
variable {O:cJ} {P:Program} {ops:Array Oper} {al:bc} {hs:ai} {o:Oper}
abbrev quiet:Ab:=⟨false,.none,[]⟩
theorem aH.skip(hw:av ops (rg al) o=some false):aH O P ops al hs o (.tup []) hs quiet:=
 fun m hm=>⟨m,by unfold iP;rw[hw],hm,fun _ _=>rfl⟩
theorem aH.pure(hw:av ops (rg al) o=some true){x:XV}(h:ba P (ag (rg al)) o.op=some x):aH O P ops al hs o x hs quiet:=
 fun m hm=>⟨m,by unfold iP;rw[hw];simp only[df,dg,h],hm,fun _ _=>rfl⟩
theorem tR(hop:ba P (ag (rg al)) o.op = .none)(hx:nT O (ag (rg al)) o.op = .none){i:Nat}{f:ah->Option XV}(hr:fb P (ag (rg al)) o.op=some (i,f)){x:XV}{m:Mem}(hf:f (m.get i)=some x) :
 df O P (ag (rg al)) o.op m=some ⟨x,m,false,some i⟩:=by
 simp only[df,dg,hop,hx,hr,hf]
theorem aH.load(hw:av ops (rg al) o=some true){t:TypeId}{a:Operand}(ho:o.op = .load t a){i off:Nat}(ha:ag (rg al) a = .one (.ptr i off)){vs:List XC}{e:TypeId}{opn ro:Bool}(hi:hs[i]? = some (.cells vs e opn ro)){x:X1}(hl:dN P t vs off=some x) :
 aH O P ops al hs o x.pw hs ⟨false,some i,[]⟩:=by
 intro m hm
 refine⟨m,?_,hm,fun _ _=>rfl⟩
 unfold iP
 rw[hw]
 obtain⟨f,hf1,hf2⟩:∃f,fb P (ag (rg al)) o.op=some (i,f)/\∀vs' e' o' r',f (.cells vs' e' o' r')=(dN P t vs' off).map X1.pw:=by
  rw[ho]
  simp only[fb,ha]
  exact⟨_,rfl,fun _ _ _ _=>rfl⟩
 refine tR (by rw[ho];rfl) (by rw[ho];rfl) hf1 ?_
 rw[hm.at hi,hf2,hl]
 rfl
theorem EB{t:TypeId}{vs:List XC}{off:Nat}{c:XC}(h:jr P t=some false)(hc:vs[off]? = some c):dN P t vs off=some (.one c):=by
 unfold dN;rw[h,hc]
theorem wz{t:TypeId}{vs:List XC}(h:jr P t=some true)(hs:b5 P t=some vs.length):dN P t vs 0=some (.agg vs):=by
 unfold dN;rw[h,hs];simp
theorem cj(hop:ba P (ag (rg al)) o.op = .none)(hx:nT O (ag (rg al)) o.op = .none)(hr:fb P (ag (rg al)) o.op = .none){x:XV}{m m':Mem}(hf:bV P (ag (rg al)) o.op m=some (x,m')) :
 df O P (ag (rg al)) o.op m=some ⟨x,m',true,.none⟩:=by
 simp only[df,dg,hop,hx,hr,hf]
theorem aH.store(hw:av ops (rg al) o=some true){t:TypeId}{a y:Operand}(ho:o.op = .store t a y){i off:Nat}(ha:ag (rg al) a = .one (.ptr i off)){cs:List XC}(hy:cu (ag (rg al) y)=some cs)(hsz:b5 P t=some cs.length)
 {vs:List XC} {e:TypeId} {opn:Bool}(hi:hs[i]? = some (.cells vs e opn false)) (hle:off+cs.length<=vs.length) {vs':List XC}(hv:vs.take off++cs++vs.drop (off+cs.length)=vs') :
 aH O P ops al hs o (.tup []) (hs.set i (.cells vs' e opn false)) ⟨true,.none,[i]⟩:=by
 intro m hm
 refine⟨m.put i (.cells vs' e opn false),?_,hm.put hi _,uN⟩
 unfold iP
 rw[hw]
 refine cj (by rw[ho];rfl) (by rw[ho];rfl) (by rw[ho];rfl) ?_
 rw[ho]
 simp only[bV,jv,ha,hy,hsz,if_true,hm.at hi,if_pos hle,hv]
theorem CJ{vs:List XC}{off:Nat}{c:XC}(h:off<vs.length):vs.take off++[c]++vs.drop (off + [c].length)=vs.set off c:=by
 rw[List.set_eq_take_append_cons_drop,if_pos h];simp
theorem CI{vs cs:List XC}(h:cs.length=vs.length):vs.take 0++cs++vs.drop (0+cs.length)=cs:=by simp[h]
theorem aH.alloc(hw:av ops (rg al) o=some true){t:TypeId}(ho:o.op = .alloc t){zs:List XC}(hz:nq P t=some zs)(hb:Nat.blt hs.length Mem.bound=true) :
 aH O P ops al hs o (.one (.ptr hs.length 0)) (hs++[.cells zs t false false]) ⟨true,.none,[hs.length]⟩:=by
 intro m hm
 obtain⟨m',h1,h2,h3⟩:=hm.push (.cells zs t false false) (by simpa [Nat.blt_eq]using hb)
 refine⟨m',?_,h2,h3⟩
 unfold iP
 rw[hw]
 refine cj (by rw[ho];rfl) (by rw[ho];rfl) (by rw[ho];rfl) ?_
 rw[ho]
 simp only[bV,lB,hz,u_,h1,hm.n]
theorem aH.box(hw:av ops (rg al) o=some true){t:TypeId}{y:Operand}(ho:o.op = .box t y){cs:List XC}(hy:cu (ag (rg al) y)=some cs)(hb:Nat.blt hs.length Mem.bound=true) :
 aH O P ops al hs o (.one (.ptr hs.length 0)) (hs++[.cells cs t false false]) ⟨true,.none,[hs.length]⟩:=by
 intro m hm
 obtain⟨m',h1,h2,h3⟩:=hm.push (.cells cs t false false) (by simpa [Nat.blt_eq]using hb)
 refine⟨m',?_,h2,h3⟩
 unfold iP
 rw[hw]
 refine cj (by rw[ho];rfl) (by rw[ho];rfl) (by rw[ho];rfl) ?_
 rw[ho]
 simp only[bV,C1,hy,u_,h1,hm.n]
theorem aH.bin(hw:av ops (rg al) o=some true){op:BinOp}{t t':TypeId}{a b:Operand}(ho:o.op = .binOp op t a b t'){k k':IntKind}{x y:Int}(ha:ag (rg al) a = .one (.int k x))(hb:ag (rg al) b = .one (.int k' y)){c:XC}(hc:bU op k k' x y=some c) :
 aH O P ops al hs o (.one c) hs quiet:=
 aH.pure hw (by rw[ho];simp only[ba,qn,ha,hb,hc,Option.map_some])
theorem aH.index(hw:av ops (rg al) o=some true){t:TypeId}{a b:Operand}(ho:o.op = .indexAddr t a b){i off s len j:Nat}{elem:TypeId}(ha:ag (rg al) a = .one (.ptr i off)){k:IntKind}(hb:ag (rg al) b = .one (.int k (j:Nat)))
 (ht:P.underlying t=some (.array len elem)) (hsz:b5 P elem=some s) (hj:j<len) {p:Nat}(hp:off+j*s=p):aH O P ops al hs o (.one (.ptr i p)) hs quiet:=
 aH.pure hw (by
  rw[ho]
  have h1:(0:Int)<=(j:Int)/\(j:Int)<(len:Int):=by omega
  simp only[ba,bY,ha,hb,ht,hsz,if_pos h1,Option.map_some,Int.toNat_natCast,hp])
theorem aH.elem(hw:av ops (rg al) o=some true){t:TypeId}{a b:Operand}(ho:o.op = .index t a b){len j:Nat}{elem:TypeId}{cs:List XC}(ha:ag (rg al) a = .agg cs){k:IntKind}(hb:ag (rg al) b = .one (.int k (j:Nat)))
 (ht:P.underlying t=some (.array len elem)) (hsz:b5 P elem=some 1) (hg:jr P elem=some false) (hj:j<len) {c:XC}(hc:cs[j]? = some c):aH O P ops al hs o (.one c) hs quiet:=
 aH.pure hw (by
  rw[ho]
  have h1:(0:Int)<=(j:Int)/\(j:Int)<(len:Int):=by omega
  simp only[ba,nS,ha,hb,ht,hsz,if_pos h1,Int.toNat_natCast,Nat.mul_one,kH,hg,hc,Option.map_some,X1.pw])
theorem aH.call(hw:av ops (rg al) o=some true){g:Operand}{args:Array Operand}{ts:Array TypeId}(ho:o.op = .call ⟨.value g,args,ts⟩){f:FuncId}(hg:ag (rg al) g = .one (.fn f))(hcb:dX P f=true){vs:List XV}(ha:args.toList.map (ag (rg al))=vs)
 {x:XV} {hs':ai} {ws:List Nat}(hc:∀m,bj m hs->∃m',O.call f vs m=some (x,m')/\bj m' hs'/\∀j,j∉ws->(m'.eL j).ver=(m.eL j).ver):aH O P ops al hs o x hs' ⟨true,.none,ws⟩:=by
 intro m hm
 obtain⟨m',h1,h2,h3⟩:=hc m hm
 refine⟨m',?_,h2,h3⟩
 unfold iP
 rw[hw]
 have e:ct O P (ag (rg al)) o.op m=some (x,m'):=by
  rw[ho]
  simp only[ct,hg,vw,hcb,if_true,List.map_nil,List.append_nil,ha,h1]
 have n1:ba P (ag (rg al)) o.op = .none:=by rw[ho];rfl
 have n2:nT O (ag (rg al)) o.op = .none:=by rw[ho];rfl
 have n3:fb P (ag (rg al)) o.op = .none:=by rw[ho];rfl
 have n4:bV P (ag (rg al)) o.op m = .none:=by rw[ho];rfl
 simp only[df,dg,n1,n2,n3,n4,e]
end
end Go.Xm
namespace Go.Xm
variable [aw]
def kP:List XV->Nat->bc
 | [],_=>[]
 | x::l,i=>(i,x)::kP l (i+1)
theorem rZ:∀(l:List XV) (i j:Nat),rg (kP l i) j=if i<=j/\j<i+l.length then l.getD (j-i) .undef else .undef
 | [],i,j=>by simp[kP,rg]
 | x :: l,i,j=>by
   simp only[kP,rg,List.length_cons]
   by_cases h:j=i
   ·subst h
    rw[if_pos rfl,if_pos (by omega)]
    simp
   ·rw[if_neg h,rZ l (i+1) j]
    by_cases h1:i+1<=j/\j<i+1+l.length
    ·rw[if_pos h1,if_pos (by omega)]
     obtain⟨k,hk⟩:∃k,j-i=k+1:=⟨j-i-1,by omega⟩
     rw[hk,show j-(i+1)=k by omega]
     rfl
    ·rw[if_neg h1,if_neg (by omega)]
def qc(P:Program)(fn:Func)(al:bc)(hs:ai)(v:XV):Prop:=∀m,bj m hs->cY P fn (rg al) m=some v
theorem wi:bj Mem.empty []:=⟨rfl,Nat.zero_le _,pL,fun i hi=>absurd hi (Nat.not_lt_zero i)⟩
def kr:ai->Mem
 | hs=>hs.foldl (fun m o=>(m.push o).getD m) Mem.empty
theorem f7(hs:ai)(hb:hs.length<Mem.bound):bj (kr hs) hs:=by
 have:∀(l k:ai) (m:Mem),bj m k->k.length+l.length<Mem.bound->bj (l.foldl (fun m o=>(m.push o).getD m) m) (k++l):=by
  intro l
  induction l with
  | nil=>intro k m hm _;simpa using hm
  | cons o l ih=>
    intro k m hm hlen
    simp only[List.length_cons]at hlen
    obtain⟨m',h1,h2,_⟩:=hm.push o (by omega)
    simp only[List.foldl_cons,h1,Option.getD_some]
    have:=ih (k++[o]) m' h2 (by simp;omega)
    simpa using this
 have h:=this hs [] Mem.empty wi (by simpa using hb)
 simpa [kr]using h
def MZ(P:Program)(f:FuncId)(args:List XV)(v:XV):Prop:=∀m,dz P f args m v m
theorem kY{P:Program}{r:uc}(h:r.M3 P):MZ P r.f r.args r.v:=by
 obtain⟨h1,m',h2⟩:=h
 simp only[uc.Fk,Bool.and_eq_true,List.all_eq_true]at h1
 exact fun m=>forget h2 h1.1 h1.2 m
end Go.Xm
namespace Go.Xm
variable [aw]
def lR(O:cJ)(P:Program)(ops:Array Oper)(nt:Nat)(l:List Oper)(al:bc)(hs:ai)(K:List Ab->bc->ai->Prop):Prop:=
 ∃bs al' hs',kN O P ops nt l al hs bs al' hs'/\K bs al' hs'
section
variable {O:cJ} {P:Program} {ops:Array Oper} {nt nI:Nat} {al:bc} {hs:ai} {o:Oper}
theorem lR.nil{K:List Ab->bc->ai->Prop}(h:K [] al hs):lR O P ops nt [] al hs K:=⟨[],al,hs,.nil,h⟩
theorem lR.cons{o:Oper}{l:List Oper}{x:XV}{hs1:ai}{b:Ab}{K:List Ab->bc->ai->Prop}(h:aH O P ops al hs o x hs1 b)(hd:(match o.dst with | .none=>true|some d=>decide (d<nt))=true)
 (hk:lR O P ops nt l (sY o.dst x al) hs1 fun bs=>K (b::bs)):lR O P ops nt (o::l) al hs K:=by
 obtain⟨bs,al',hs',h1,h2⟩:=hk
 exact⟨b::bs,al',hs',.cons h (fun d hd'=>by rw[hd']at hd;exact of_decide_eq_true hd) h1,h2⟩
theorem WX.Me(hO:aP P O){id:Nat}{K:cR}(h:lR O P ops nt ops.toList al hs fun _ al' hs'=>K .normal al' hs'):WX P nt nI (.code (.region id ops false)) al hs K:=by
 obtain⟨bs,al',hs',h1,h2⟩:=h
 exact WX.plain hO h1 h2
theorem WX.K1(hO:aP P O)(hP:P.follows .mixedOrders=true){id:Nat}{K:cR}(hst:cA ops nt (gT ops.toList)=true)(h:lR O P ops nt ops.toList al hs fun bs al' hs'=>tm (gT ops.toList) bs=true/\K .normal al' hs'):WX P nt nI (.code (.region id ops true)) al hs K:=by
 obtain⟨bs,al',hs',h1,h2,h3⟩:=h
 exact WX.drawn hO hP hst h1 h2 h3
theorem WX.at{c:s_}{al':bc}{hs':ai}{K:cR}(hl:vA al' al)(hh:hs=hs')(h:WX P nt nI c al' hs' K):WX P nt nI c al hs K:=by
 subst hh
 exact WX.less hl h
theorem WX.count{c:Code}{K:cR}(R:Nat->bc)(H:Nat->ai)(I:Nat->Prop)(N:Nat)(h0:I 0)
 (step:∀i,i<=N->I i->(i<N->I (i+1)->WX P nt nI (.round c) (R (i+1)) (H (i+1)) K)->WX P nt nI (.round c) (R i) (H i) K):WX P nt nI (.round c) (R 0) (H 0) K:=by
 have:∀d i,i+d=N->I i->WX P nt nI (.round c) (R i) (H i) K:=by
  intro d
  induction d with
  | zero=>intro i hi h;exact step i (by omega) h fun hlt=>absurd hlt (by omega)
  | succ d ih=>intro i hi h;exact step i (by omega) h fun hlt h'=>ih (i+1) (by omega) h'
 exact this N 0 (by omega) h0
theorem aH.conv(hw:av ops (rg al) o=some true){s d:TypeId}{y:Operand}(ho:o.op = .convert s d y){k k':IntKind}{x z:Int}(hy:ag (rg al) y = .one (.int k x))(hc:jn P s d (.one (.int k x))=some (.one (.int k' (gR k' x))))(hz:k'.wrap x=z) :
 aH O P ops al hs o (.one (.int k' z)) hs quiet:=
 aH.pure hw (by rw[ho];simp only[ba,hy,hc,cz,hz])
theorem qc.tmp{fn:Func}{a:Nat}{y:X1}(hr:fn.results.toList = [.tmp a])(ha:nP (rg al a)=some y):qc P fn al hs y.pw:=by
 intro m hm
 unfold cY
 rw[hr]
 simp only[fc,sB,ha]
end
end Go.Xm
namespace Go.Xm
class aO (P:Program) (t:TypeId) (s:outParam Nat):Prop where out:b5 P t=some s
class dE (P:Program) (t:TypeId):Prop where out:jr P t=some false
class c9 (P:Program) (t:TypeId):Prop where out:jr P t=some true
class aX (P:Program) (t:TypeId) (zs:outParam (List XC)):Prop where out:nq P t=some zs
class aZ (P:Program) (t:TypeId) (d:outParam TypeDesc):Prop where out:P.underlying t=some d
class cn (P:Program) (t:TypeId) (l:outParam (List (Nat×Nat))):Prop where out:∃fs,P.underlying t=some (.struct fs)/\mP P fs.toList=some l
class bP (P:Program) (s:TypeId) (f:Nat) (ft:outParam TypeId) (off:outParam Nat):Prop where out:(iH P s f).map (fun fd=>(fd.type,fd.offset))=some (ft,off)
theorem bP.ex{P:Program}{s:TypeId}{f:Nat}{ft:TypeId}{off:Nat}[h:bP P s f ft off]:∃fd,iH P s f=some fd/\fd.type=ft/\fd.offset=off:=by
 obtain⟨fd,h1,h2⟩:=Option.map_eq_some_iff.1 h.out
 cases h2
 exact⟨fd,h1,rfl,rfl⟩
def ti(k:IntKind)(n:Nat)(f:Nat->Int):List XC:=(List.range n).map fun i => .int k (f i)
def gM(f:Nat->Int)(j:Nat)(x:Int)(i:Nat):Int:=if i=j then x else f i
theorem aL(k:IntKind)(n:Nat)(f:Nat->Int):(ti k n f).length=n:=by simp[ti]
theorem eY{k:IntKind}{n:Nat}{f:Nat->Int}{j:Nat}(h:j<n):(ti k n f)[j]? = some (.int k (f j)):=by simp[ti,h]
theorem uX(k:IntKind)(n:Nat)(f:Nat->Int)(j:Nat)(x:Int):(ti k n f).set j (.int k x)=ti k n (gM f j x):=by
 apply List.ext_getElem?
 intro i
 rw[List.getElem?_set]
 by_cases hj:j=i
 ·subst hj
  by_cases hn:j<n
  ·rw[if_pos rfl,if_pos (by rw[aL];exact hn),eY hn];simp[gM]
  ·rw[if_pos rfl,if_neg (by rw[aL];exact hn),List.getElem?_eq_none (by rw[aL];omega)]
 ·rw[if_neg hj]
  by_cases hn:i<n
  ·rw[eY hn,eY hn];simp[gM,Ne.symm hj]
  ·rw[List.getElem?_eq_none (by rw[aL];omega),List.getElem?_eq_none (by rw[aL];omega)]
theorem bJ{k:IntKind}{n:Nat}{f g:Nat->Int}(h:∀i,i<n->f i=g i):ti k n f=ti k n g:=by
 unfold ti
 exact List.map_congr_left fun i hi=>by rw[h i (List.mem_range.1 hi)]
end Go.Xm
namespace Go.Xm
def XC.ax(τ : Nat->Nat):XC->XC
 | .ptr i off => .ptr (τ i) off
 | .slice i off len cap => .slice (τ i) off len cap
 | .map i => .map (τ i)
 | .bind g c => .bind (g.ax τ) (c.ax τ)
 | c=>c
def X1.ax(τ : Nat->Nat):X1->X1
 | .one c => .one (c.ax τ)
 | .agg cs => .agg (cs.map (·.ax τ))
def XV.ax(τ : Nat->Nat):XV->XV
 | .undef => .undef
 | .one c => .one (c.ax τ)
 | .agg cs => .agg (cs.map (·.ax τ))
 | .tup xs => .tup (xs.map (·.ax τ))
def ah.ax(τ : Nat->Nat):ah->ah
 | .dead => .dead
 | .cells vs e opn ro => .cells (vs.map (·.ax τ)) e opn ro
 | .map es => .map (es.map fun p=>(p.1.ax τ,p.2.ax τ))
def XV.bl(n:Nat):XV->Prop
 | .undef=>True
 | .one c=>c.ok n
 | .agg cs=>∀c∈cs,c.ok n
 | .tup xs=>∀x∈xs,x.ok n
def ah.bl(n:Nat):ah->Prop
 | .dead=>True
 | .cells vs _ _ _=>∀c∈vs,c.ok n
 | .map es=>∀p∈es,p.1.ok n/\p.2.ok n
theorem XC.ln{τ : Nat->Nat}{n N:Nat}(h:∀i,i<n -> τ i<N):∀{c:XC},c.ok n->(c.ax τ).ok N:=by
 intro c
 induction c with
 | ptr i off=>exact fun h'=>h i h'
 | slice i off len cap=>exact fun h'=>h i h'
 | map i=>exact fun h'=>h i h'
 | bind g c ih1 ih2=>exact fun h'=>⟨ih1 h'.1,ih2 h'.2⟩
 | _=>intro _;trivial
theorem X1.ln{τ : Nat->Nat}{n N:Nat}(h:∀i,i<n -> τ i<N):∀{x:X1},x.ok n->(x.ax τ).ok N
 | .one _,h'=>XC.ln h h'
 | .agg cs,h'=>fun c hc=>by
   obtain⟨d,hd,rfl⟩:=List.mem_map.1 hc
   exact XC.ln h (h' d hd)
variable [aw]
def xX(β β':Env)(τ : Nat->Nat)(n:Nat):Prop:=∀i,i<n -> β'.cx (τ i) = β.cx i /\ β'.size (τ i) = β.size i /\ β'.base (τ i) = β.base i
theorem XC.gp{β β':Env}{τ : Nat->Nat}{n:Nat}(h:xX β β' τ n):∀{c:XC},c.ok n->(c.ax τ).den β'=c.den β:=by
 intro c
 induction c with
 | ptr i off=>intro h';simp only[XC.ax,XC.den,(h i h').1,(h i h').2.2]
 | slice i off len cap=>intro h';cases cap<;>simp only[XC.ax,XC.den,(h i h').1,(h i h').2.1,(h i h').2.2]
 | map i=>intro h';simp only[XC.ax,XC.den,(h i h').1]
 | bind g c ih1 ih2=>intro h';simp only[XC.ax,XC.den,ih1 h'.1,ih2 h'.2]
 | _=>intro _;rfl
theorem fC{β β':Env}{τ : Nat->Nat}{n:Nat}(h:xX β β' τ n){cs:List XC}(hc:∀c∈cs,c.ok n):(cs.map (·.ax τ)).map (·.den β')=cs.map (·.den β):=by
 rw[List.map_map]
 exact List.map_congr_left fun c hm=>XC.gp h (hc c hm)
theorem X1.gp{β β':Env}{τ : Nat->Nat}{n:Nat}(h:xX β β' τ n):∀{x:X1},x.ok n->(x.ax τ).den β'=x.den β
 | .one _,h'=>XC.gp h h'
 | .agg cs,h'=>by simp only[X1.ax,X1.den,fC h h']
theorem aN.ax{β β':Env}{τ : Nat->Nat}{n N:Nat}(h:xX β β' τ n)(hb:∀i,i<n -> τ i<N){x:XV}{v:Value}(hr:aN β n x v):aN β' N (x.ax τ) v:=by
 cases x with
 | undef=>trivial
 | one c=>exact⟨XC.ln hb hr.1,hr.2.trans (XC.gp h hr.1).symm⟩
 | agg cs=>
   refine⟨fun c hc=>?_,hr.2.trans (by rw[fC h hr.1])⟩
   obtain⟨d,hd,rfl⟩:=List.mem_map.1 hc
   exact XC.ln hb (hr.1 d hd)
 | tup xs=>
   refine⟨fun c hc=>?_,hr.2.trans ?_⟩
   ·obtain⟨d,hd,rfl⟩:=List.mem_map.1 hc
    exact X1.ln hb (hr.1 d hd)
   ·rw[List.map_map]
    exact congrArg (fun l=>Value.tuple (List.toArray l)) (List.map_congr_left fun c hm=>(X1.gp h (hr.1 c hm)).symm)
theorem aN.tO{β β':Env}{τ : Nat->Nat}{n N:Nat}(h:xX β β' τ n){x:XV}(hx:x.bl n){v:Value}(hr:aN β' N (x.ax τ) v):aN β n x v:=by
 cases x with
 | undef=>trivial
 | one c=>exact⟨hx,hr.2.trans (XC.gp h hx)⟩
 | agg cs=>exact⟨hx,hr.2.trans (by rw[fC h hx])⟩
 | tup xs=>
   refine⟨hx,hr.2.trans ?_⟩
   rw[List.map_map]
   exact congrArg (fun l=>Value.tuple (List.toArray l)) (List.map_congr_left fun c hm=>X1.gp h (hx c hm))
theorem eI.ax{β β':Env}{τ : Nat->Nat}{n N lo sz:Nat}(h:xX β β' τ n)(hb:∀i,i<n -> τ i<N){x:ah}{o:Option Obj}(hr:eI β n lo sz x o):eI β' N lo sz (x.ax τ) o:=by
 cases x with
 | dead=>trivial
 | cells vs e opn ro=>
   obtain⟨cs,fr,h1,h2,h3,h4,h5,h6⟩:=hr
   refine⟨cs,fr,h1,h2,by rw[List.length_map];exact h3,h4,fun c hc=>?_,?_⟩
   ·obtain⟨d,hd,rfl⟩:=List.mem_map.1 hc
    exact XC.ln hb (h5 d hd)
   ·rw[List.length_map,h6,fC h h5]
 | map es=>
   obtain⟨en,clock,h1,h2,h3⟩:=hr
   refine⟨en,clock,h1,fun p hp=>?_,h3.trans ?_⟩
   ·obtain⟨d,hd,rfl⟩:=List.mem_map.1 hp
    exact⟨X1.ln hb (h2 d hd).1,X1.ln hb (h2 d hd).2⟩
   ·rw[List.map_map]
    exact List.map_congr_left fun p hp=>by simp only[Function.comp,X1.gp h (h2 p hp).1,X1.gp h (h2 p hp).2]
theorem eI.tO{β β':Env}{τ : Nat->Nat}{n N lo sz:Nat}(h:xX β β' τ n){x:ah}(hx:x.bl n){o:Option Obj}(hr:eI β' N lo sz (x.ax τ) o):eI β n lo sz x o:=by
 cases x with
 | dead=>trivial
 | cells vs e opn ro=>
   obtain⟨cs,fr,h1,h2,h3,h4,h5,h6⟩:=hr
   rw[List.length_map]at h3 h6
   exact⟨cs,fr,h1,h2,h3,h4,hx,by rw[h6,fC h hx]⟩
 | map es=>
   obtain⟨en,clock,h1,h2,h3⟩:=hr
   refine⟨en,clock,h1,hx,h3.trans ?_⟩
   rw[List.map_map]
   exact List.map_congr_left fun p hp=>by simp only[Function.comp,X1.gp h (hx p hp).1,X1.gp h (hx p hp).2]
theorem ov{τ : Nat->Nat}{x:ah}:(x.ax τ).live=x.live:=by cases x<;>rfl
theorem mF{τ : Nat->Nat}{x:ah}:(x.ax τ).own=x.own:=by cases x<;>rfl
structure View(τ : Nat->Nat)(hs1 hs2:ai):Prop where
 lt:∀j,j<hs2.length -> τ j<hs1.length
 inj:∀(i j:Nat) (a b:ah),hs2[i]? = some a->hs2[j]? = some b->a ≠ .dead->b ≠ .dead -> τ i = τ j->i=j
 ok:∀(j:Nat) (o:ah),hs2[j]? = some o->o.bl hs2.length
 obj:∀(j:Nat) (o:ah),hs2[j]? = some o->o = .dead\/hs1[τ j]? = some (o.ax τ)
theorem bj.get?{m:Mem}{hs:ai}(h:bj m hs){i:Nat}(hi:i<m.n):hs[i]? = some (m.get i):=by
 have:=h.n
 rw[h.get i hi,List.getD_eq_getElem?_getD,List.getElem?_eq_getElem (by omega)]
 rfl
theorem Rel.view{β : Env}{m m2:Mem}{w:World}{hs1 hs2:ai}{τ : Nat->Nat}(h:Rel β m w)(h1:bj m hs1)(h2:bj m2 hs2)(v:View τ hs1 hs2){β2:Env}(hv:xX β2 β τ hs2.length):Rel β2 m2 w:=by
 have n1:=h1.n
 have n2:=h2.n
 have key:∀i,i<m2.n->m2.get i = .dead\/(m2.get i).bl hs2.length /\ τ i<m.n/\m.get (τ i)=(m2.get i).ax τ:=fun i hi=>by
  have g:=h2.get? hi
  have lt:=v.lt i (by omega)
  rcases v.obj i _ g with e|e
  ·exact .inl e
  ·refine .inr ⟨v.ok i _ g,by omega,?_⟩
   exact h1.at e
 refine⟨h2.bnd,h2.fresh,fun i hi=>?_,fun i j hi hj li lj hb=>?_⟩
 ·rcases key i hi with e|⟨e1,e2,e3⟩
  ·rw[e];trivial
  ·have:=h.obj (τ i) e2
   rw[e3,(hv i (by omega)).1,(hv i (by omega)).2.1,(hv i (by omega)).2.2]at this
   rw[n2]
   exact this.tO hv e1
 ·rcases key i hi with e|⟨_,e2,e3⟩
  ·rw[e]at li;cases li
  rcases key j hj with e|⟨_,e2',e3'⟩
  ·rw[e]at lj;cases lj
  refine v.inj i j _ _ (h2.get? hi) (h2.get? hj) (fun e=>by rw[e]at li;cases li) (fun e=>by rw[e]at lj;cases lj) (h.inj (τ i) (τ j) e2 e2' (by rw[e3,mF];exact li) (by rw[e3',ov];exact lj) ?_)
  rw[(hv i (by omega)).1,(hv j (by omega)).1]
  exact hb
theorem Rel.u1{β : Env}{m m2:Mem}{hs1 hs2:ai}{τ : Nat->Nat}(h1:bj m hs1)(h2:bj m2 hs2)(v:View τ hs1 hs2){β2:Env}(hv:xX β2 β τ hs2.length){k:Nat}(hi:Gl β2 m2 k):Gl β m k:=by
 obtain⟨i,hi,hl,rfl⟩:=hi
 have n1:=h1.n
 have n2:=h2.n
 have g:=h2.get? hi
 have lt:=v.lt i (by omega)
 rcases v.obj i _ g with e|e
 ·rw[e]at hl;cases hl
 ·refine⟨τ i,by omega,?_,(hv i (by omega)).1⟩
  rw[h1.at e,mF]
  exact hl
def aW(P:Program)(f:FuncId)(args:List XV)(hs:ai)(v:XV)(hs':ai):Prop:=
 ∀ (m:Mem),bj m hs->∀(β : Env) (w:World) (vs:List Value),cE (aN β m.n) args vs->Rel β m w ->
   Calls P f vs.toArray w fun e w'=>∃u β' m',e = .returned u/\bj m' hs'/\aN β' m'.n v u/\Step β m w β' m' w'
def aD(P:Program)(fn:Func)(n:Nat)(v:XV)(hs':ai):cR:=fun e al hs1=>(e = .normal\/e = .ret)/\∃(v1:XV) (τ : Nat->Nat),qc P fn al hs1 v1/\v1=v.ax τ/\v.bl hs'.length/\View τ hs1 hs'/\∀j,j<n -> τ j=j
theorem WX.view{P:Program}{nt nI:Nat}{c:s_}{al al2:bc}{hs hs2:ai}{K:cR}(τ : Nat->Nat)(hv:View τ hs hs2)(hid:∀j,j<nI -> τ j=j)(hle:nI<=hs2.length)(hb:Nat.blt hs2.length Mem.bound=true)(hok:∀t,(rg al2 t).bl hs2.length)(hr:∀t,rg al2 t = .undef\/rg al t=(rg al2 t).ax τ)
 (h:WX P nt nI c al2 hs2 K):WX P nt nI c al hs K:=by
 intro βI mI wI hn m hm β w a Q hrel hst hq
 have hm2:=f7 hs2 (by simpa [Nat.blt_eq]using hb)
 have n1:=hm.n
 have n2:=hm2.n
 let β2:Env:=⟨fun i => β.cx (τ i),fun i => β.base (τ i),fun i => β.size (τ i)⟩
 have hvia:xX β2 β τ hs2.length:=fun i _=>⟨rfl,rfl,rfl⟩
 have hst2:Step βI mI wI β2 (kr hs2) w:=by
  refine⟨by omega,fun i hi=>?_,hst.rel.view hm hm2 hv hvia,hst.os,hst.tape,hst.output,hst.size,hst.frame,fun k hk hi=>hst.sU k hk (Rel.u1 hm hm2 hv hvia hi)⟩
  have:=hst.ext i hi
  show β.cx (τ i) = βI.cx i /\ β.size (τ i) = βI.size i /\ β.base (τ i) = βI.base i
  rw[hid i (by omega)]
  exact this
 refine h βI mI wI hn (kr hs2) hm2 β2 w a Q ⟨hrel.size,hrel.small,fun t ht=>?_,fun t ht=>?_⟩ hst2 hq
 ·rcases hr t with e|e
  ·rw[e];trivial
  ·have:=hrel.rel t ht
   rw[e]at this
   rw[n2]
   exact this.tO hvia (hok t)
 ·rcases hr t with e|e
  ·exact e
  ·have:=hrel.out t ht
   rw[e]at this
   cases hx:rg al2 t<;>rw[hx]at this<;>first|rfl|cases this
theorem Bo{P:Program}{f:FuncId}{fn:Func}{c:Code}{args:List XV}{hs hs':ai}{v:XV}(hf:P.funcs[f]? = some fn)(hb:fn.body=some c)(hn:fn.ntmps<1000000)(hl:args.length<=fn.ntmps)(hle:hs.length<=hs'.length)(hbd:hs'.length<Mem.bound)
 (h:WX P fn.ntmps hs.length (.code c) (kP args 0) hs (aD P fn hs.length v hs')):aW P f args hs v hs':=by
 intro m hm β w vs hall hw
 refine calls_of_wp hf hb ?_
 have hr0:=om hall hn hl
 have e:(eQ args 0 .leaf).get .undef=rg (kP args 0):=by
  funext j
  rw[k9 args 0 .leaf (by omega) j,rZ,T.dR]
 unfold j7 at hr0
 rw[e]at hr0
 have nm:=hm.n
 refine h β m w nm m hm β w _ _ hr0 (Step.refl hw) fun x al' hs1 m1 hk hm1 a' β' w' h1 h2 h3=>?_
 obtain⟨hx,v1,τ,hres,rfl,hok,hview,hid⟩:=hk
 obtain⟨u,hu1,hu2⟩:=mn (hres m1 hm1) h3.rel h1
 have hm2:=f7 hs' hbd
 have n2:=hm2.n
 let β2:Env:=⟨fun i => β'.cx (τ i),fun i => β'.base (τ i),fun i => β'.size (τ i)⟩
 have hv:xX β2 β' τ hs'.length:=fun i _=>⟨rfl,rfl,rfl⟩
 have hst:Step β m w β2 (kr hs') w':=by
  refine⟨by omega,fun i hi=>?_,h3.rel.view hm1 hm2 hview hv,h3.os,h3.tape,h3.output,h3.size,h3.frame,fun k hk hi=>h3.sU k hk (Rel.u1 hm1 hm2 hview hv hi)⟩
  have:=h3.ext i hi
  show β'.cx (τ i) = β.cx i /\ β'.size (τ i) = β.size i /\ β'.base (τ i) = β.base i
  rw[hid i (by omega)]
  exact this
 have hu3:aN β2 (kr hs').n v u:=by rw[n2];exact hu2.tO hv hok
 rcases hx with rfl|rfl<;>exact⟨h2,u,hu1,u,β2,kr hs',rfl,hm2,hu3,hst⟩
def beyond(ρ : Nat->Nat)(n N:Nat)(j:Nat):Nat:=if j<n then ρ j else N+(j-n)
structure Ik(ρ : Nat->Nat)(n:Nat)(HS:ai)(hs':ai)(HS':ai):Prop where
 len:HS'.length=HS.length+(hs'.length-n)
 obj:∀(j:Nat) (o:ah),hs'[j]? = some o->HS'[beyond ρ n HS.length j]? = some (o.ax (beyond ρ n HS.length))
 old:∀i,i<HS.length->(∀j,j<n -> ρ j≠i)->HS'[i]? = HS[i]?
theorem qV{β0 β : Env}{ρ : Nat->Nat}{n N:Nat}(hvia:xX β0 β ρ n):∀{args:List XV} {vs:List Value},(∀x∈args,x.bl n)->cE (aN β N) (args.map (·.ax ρ)) vs->cE (aN β0 n) args vs
 | [],_,_,h=>by cases h;exact .nil
 | x::l,_,ha,h=>by
   cases h with
   | cons h1 h2=>exact .cons (h1.tO hvia (ha x (List.mem_cons_self ..))) (qV hvia (fun y hy=>ha y (List.mem_cons_of_mem _ hy)) h2)
theorem yg{P:Program}{f:FuncId}{args:List XV}{hs hs' HS HS':ai}{v:XV}(hc:aW P f args hs v hs')(hle:hs.length<=hs'.length)(hbd:hs.length<Mem.bound){ρ : Nat->Nat}(hv:View ρ HS hs)(ha:∀x∈args,x.bl hs.length)(haf:Ik ρ hs.length HS hs' HS')(hro:∀(j:Nat) (o:ah),hs'[j]? = some o->o.live=true->o.own=false->∃o0,hs[j]? = some o0/\o0.live=true)
 {M M':Mem}(hM:bj M HS) (hM':bj M' HS'):dz P f (args.map (·.ax ρ)) M (v.ax (beyond ρ hs.length HS.length)) M':=by
 intro β w vs hall hw
 have hm0:=f7 hs hbd
 have n0:=hm0.n
 have N0:=hM.n
 have N1:=hM'.n
 have hlen:=haf.len
 let β0:Env:=⟨fun i => β.cx (ρ i),fun i => β.base (ρ i),fun i => β.size (ρ i)⟩
 have hvia:xX β0 β ρ hs.length:=fun i _=>⟨rfl,rfl,rfl⟩
 have hrel0:Rel β0 (kr hs) w:=hw.view hM hm0 hv hvia
 have hargs:cE (aN β0 (kr hs).n) args vs:=by
  rw[n0]
  exact qV hvia ha hall
 refine(hc _ hm0 β0 w vs hargs hrel0).mono fun e w' ⟨u,β1,m1,he,hm1,hu,hst⟩=>?_
 have n1:=hm1.n
 have hsle:=hst.le
 let ρ':=beyond ρ hs.length HS.length
 let β':Env:=⟨fun i=>if i<HS.length then β.cx i else β1.cx (i-HS.length+hs.length),fun i=>if i<HS.length then β.base i else β1.base (i-HS.length+hs.length),fun i=>if i<HS.length then β.size i else β1.size (i-HS.length+hs.length)⟩
 have hvia':xX β1 β' ρ' hs'.length:=by
  intro j hj
  show(if ρ' j<HS.length then β.cx (ρ' j)else β1.cx (ρ' j-HS.length+hs.length)) = β1.cx j/\(if ρ' j<HS.length then β.size (ρ' j)else β1.size (ρ' j-HS.length+hs.length)) = β1.size j/\(if ρ' j<HS.length then β.base (ρ' j)else β1.base (ρ' j-HS.length+hs.length)) = β1.base j
  by_cases h:j<hs.length
  ·have e1 : ρ' j = ρ j:=if_pos h
   have e2:=hv.lt j h
   rw[e1,if_pos e2,if_pos e2,if_pos e2]
   have:=hst.ext j (by omega)
   exact⟨this.1.symm,this.2.1.symm,this.2.2.symm⟩
  ·have e1 : ρ' j=HS.length+(j-hs.length):=if_neg h
   rw[e1,if_neg (by omega),if_neg (by omega),if_neg (by omega),show HS.length+(j-hs.length)-HS.length+hs.length=j by omega]
   exact⟨rfl,rfl,rfl⟩
 have hlt':∀j,j<hs'.length -> ρ' j<HS'.length:=by
  intro j hj
  by_cases h:j<hs.length
  ·have e1 : ρ' j = ρ j:=if_pos h
   have e2:=hv.lt j h
   omega
  ·have e1 : ρ' j=HS.length+(j-hs.length):=if_neg h
   omega
 refine⟨u,β',he,by rw[N1];rw[n1]at hu;exact hu.ax hvia' hlt',?_⟩
 have kinds:∀i,i<M'.n->(∃j,j<m1.n /\ ρ' j=i/\M'.get i=(m1.get j).ax ρ')\/(i<HS.length/\(∀j,j<hs.length -> ρ j≠i)/\M'.get i=M.get i/\i<M.n):=by
  intro i hi
  by_cases h:i<HS.length
  ·by_cases h2:∃j,j<hs.length /\ ρ j=i
   ·obtain⟨j,hj,rfl⟩:=h2
    refine .inl ⟨j,by omega,if_pos hj,?_⟩
    have g:=hm1.get? (i:=j) (by omega)
    have:=haf.obj j _ g
    have e1:beyond ρ hs.length HS.length j = ρ j:=if_pos hj
    rw[e1]at this
    exact hM'.at this
   ·have h3:∀j,j<hs.length -> ρ j≠i:=fun j hj e=>h2 ⟨j,hj,e⟩
    refine .inr ⟨h,h3,?_,by omega⟩
    have e1:=haf.old i h h3
    rw[hM'.get? hi,hM.get? (i:=i) (by omega)]at e1
    exact Option.some.inj e1
  ·refine .inl ⟨i-HS.length+hs.length,by omega,?_,?_⟩
   ·show beyond ρ hs.length HS.length _=i
    unfold beyond
    rw[if_neg (by omega)];omega
   ·have g:=hm1.get? (i:=i-HS.length+hs.length) (by omega)
    have:=haf.obj _ _ g
    have e1:beyond ρ hs.length HS.length (i-HS.length+hs.length)=i:=by unfold beyond;rw[if_neg (by omega)];omega
    rw[e1]at this
    exact hM'.at this
 have imgs:∀j,j<m1.n->(m1.get j).own=true -> β1.cx j<w.heap.size->∃j2,j2<hs.length/\((kr hs).get j2).own=true /\ β.cx (ρ j2) = β1.cx j:=by
  intro j hj hl hlt
  obtain⟨j2,h1,h2,h3⟩:=hst.sU _ hlt ⟨j,hj,hl,rfl⟩
  exact⟨j2,by omega,h2,h3⟩
 have liveρ : ∀j2,j2<hs.length->((kr hs).get j2).own=true -> ρ j2<M.n/\(M.get (ρ j2)).own=true:=by
  intro j2 h1 h2
  have g:=hm0.get? (i:=j2) (by omega)
  have lt:=hv.lt j2 h1
  refine⟨by omega,?_⟩
  rcases hv.obj j2 _ g with e|e
  ·rw[e]at h2;cases h2
  ·rw[hM.at e,mF];exact h2
 have bold:∀i,i<HS.length -> β'.cx i = β.cx i /\ β'.size i = β.size i /\ β'.base i = β.base i:=fun i h=>⟨if_pos h,if_pos h,if_pos h⟩
 refine⟨by omega,fun i hi=>bold i (by omega),⟨hM'.bnd,hM'.fresh,fun i hi=>?_,fun i i2 hi hi2 hl hl2 hbb=>?_⟩,hst.os,hst.tape,hst.output,hst.size,fun k hk hn=>?_,fun k hk hi=>?_⟩
 ·rcases kinds i hi with⟨j,hj,rfl,hg⟩|⟨h1,h2,hg,h3⟩
  ·rw[hg,N1,(hvia' j (by omega)).1,(hvia' j (by omega)).2.1,(hvia' j (by omega)).2.2]
   have:=hst.rel.obj j hj
   rw[n1]at this
   exact this.ax hvia' hlt'
  ·rw [hg,(bold i h1).1,(bold i h1).2.1,(bold i h1).2.2]
   cases hgm:M.get i with
   | dead=>trivial
   | cells a b c d=>
     have hli:(M.get i).live=true:=by rw[hgm];rfl
     have hlt:=hw.lt h3 hli
     have hfr:w'.heap[β.cx i]? = w.heap[β.cx i]?:=by
      refine hst.frame _ hlt fun⟨j2,q1,q2,q3⟩=>?_
      have q4:=liveρ j2 (by omega) q2
      exact h2 j2 (by omega) (hw.inj (ρ j2) i q4.1 h3 q4.2 hli q3)
     rw[hfr,<-hgm]
     exact(hw.obj i h3).ext (fun i hi=>bold i (by omega)) (by omega)
   | map es=>
     have hli:(M.get i).live=true:=by rw[hgm];rfl
     have hlt:=hw.lt h3 hli
     have hfr:w'.heap[β.cx i]? = w.heap[β.cx i]?:=by
      refine hst.frame _ hlt fun⟨j2,q1,q2,q3⟩=>?_
      have q4:=liveρ j2 (by omega) q2
      exact h2 j2 (by omega) (hw.inj (ρ j2) i q4.1 h3 q4.2 hli q3)
     rw[hfr,<-hgm]
     exact(hw.obj i h3).ext (fun i hi=>bold i (by omega)) (by omega)
 ·rcases kinds i hi with⟨j,hj,rfl,hg⟩|⟨h1,h2,hg,h3⟩
  ·rcases kinds i2 hi2 with⟨j',hj',rfl,hg'⟩|⟨h1',h2',hg',h3'⟩
   ·rw[(hvia' j (by omega)).1,(hvia' j' (by omega)).1]at hbb
    rw[hg,mF]at hl
    rw[hg',ov]at hl2
    rw[hst.rel.inj j j' hj hj' hl hl2 hbb]
   ·rw[(hvia' j (by omega)).1,(bold i2 h1').1]at hbb
    rw[hg,mF]at hl
    rw[hg']at hl2
    have hlt:=hw.lt h3' hl2
    obtain⟨j2,q1,q2,q3⟩:=imgs j hj hl (by rw[hbb];exact hlt)
    have q4:=liveρ j2 q1 q2
    exact absurd (hw.inj (ρ j2) i2 q4.1 h3' q4.2 hl2 (q3.trans hbb)) (h2' j2 q1)
  ·rcases kinds i2 hi2 with⟨j',hj',rfl,hg'⟩|⟨h1',h2',hg',h3'⟩
   ·rw [(hvia' j' (by omega)).1,(bold i h1).1]at hbb
    rw[hg',ov]at hl2
    rw[hg]at hl
    have hlt:=hw.lt h3 (ah.cB hl)
    cases hown:(m1.get j').own with
    | true=>
      obtain⟨j2,q1,q2,q3⟩:=imgs j' hj' hown (by rw[<-hbb];exact hlt)
      have q4:=liveρ j2 q1 q2
      exact absurd (hw.inj (ρ j2) i q4.1 h3 q4.2 (ah.cB hl) (q3.trans hbb.symm)) (h2 j2 q1)
    | false=>
      obtain⟨o0,q1,q2⟩:=hro j' _ (hm1.get? hj') hl2 hown
      have q3:j'<hs.length:=(List.getElem?_eq_some_iff.1 q1).1
      have q4:=hv.lt j' q3
      have q5:(M.get (ρ j')).live=true:=by
       rcases hv.obj j' o0 q1 with e|e
       ·rw[e]at q2;cases q2
       ·rw[hM.at e,ov];exact q2
      have q6 : β1.cx j' = β.cx (ρ j'):=(hst.ext j' (by omega)).1
      exact absurd (hw.inj i (ρ j') h3 (by omega) hl q5 (hbb.trans q6)).symm (h2 j' q3)
   ·rw[(bold i h1).1,(bold i2 h1').1]at hbb
    rw[hg]at hl
    rw[hg']at hl2
    exact hw.inj i i2 h3 h3' hl hl2 hbb
 ·refine hst.frame k hk fun⟨j2,q1,q2,q3⟩=>hn ?_
  have q4:=liveρ j2 (by omega) q2
  exact⟨ρ j2,q4.1,q4.2,q3⟩
 ·obtain⟨i,hi,hl,rfl⟩:=hi
  rcases kinds i hi with⟨j,hj,rfl,hg⟩|⟨h1,h2,hg,h3⟩
  ·rw[hg,mF]at hl
   rw[(hvia' j (by omega)).1]at hk ⊢
   obtain⟨j2,q1,q2,q3⟩:=imgs j hj hl hk
   have q4:=liveρ j2 q1 q2
   exact⟨ρ j2,q4.1,q4.2,q3⟩
  ·rw[hg]at hl
   rw[(bold i h1).1]
   exact⟨i,h3,hl,rfl⟩
end Go.Xm
namespace Go.Xm
variable [aw]
theorem XC.cV{c:XC}(h:c.shut=true)(τ : Nat->Nat):c.ax τ = c:=by
 induction c with
 | bind g c ih1 ih2=>
   simp only[XC.shut,Bool.and_eq_true]at h
   simp only[XC.ax,ih1 h.1,ih2 h.2]
 | ptr i off=>cases h
 | slice i off len cap=>cases h
 | map i=>cases h
 | _=>rfl
theorem eK{cs:List XC}(h:cs.all XC.shut=true)(τ : Nat->Nat):cs.map (·.ax τ)=cs:=by
 rw[List.all_eq_true]at h
 exact(List.map_congr_left fun c hc=>XC.cV (h c hc) τ).trans (by simp)
theorem X1.cV{x:X1}(h:x.shut=true)(τ : Nat->Nat):x.ax τ = x:=by
 cases x with
 | one c=>simp only[X1.ax,XC.cV h]
 | agg cs=>simp only[X1.ax,eK h]
theorem XV.cV{x:XV}(h:x.shut=true)(τ : Nat->Nat):x.ax τ = x:=by
 cases x with
 | undef=>rfl
 | one c=>simp only[XV.ax,XC.cV h]
 | agg cs=>simp only[XV.ax,eK h]
 | tup xs=>
   have h':=List.all_eq_true.1 h
   simp only[XV.ax]
   rw[(List.map_congr_left fun c hc=>X1.cV (h' c hc) τ : xs.map (·.ax τ)=xs.map id),List.map_id]
theorem jT{l:List XV}(h:∀x∈l,x.shut=true)(τ : Nat->Nat):l.map (·.ax τ)=l:=
 (List.map_congr_left fun c hc=>XV.cV (h c hc) τ).trans (by simp)
theorem XV.dS{x:XV}(h:x.shut=true)(n:Nat):x.bl n:=by
 cases x with
 | undef=>trivial
 | one c=>exact XC.bm h n
 | agg cs=>exact fun c hc=>XC.bm (List.all_eq_true.1 h c hc) n
 | tup xs=>exact fun c hc=>X1.bm (List.all_eq_true.1 h c hc) n
structure aC where
 f:FuncId
 args:List XV
 hs:ai
 v:XV
 hs':ai
 ws:List Nat
def ll(n m:Nat):List Nat:=List.range' n (m-n)
structure aC.Sound(P:Program)(e:aC):Prop where
 le:e.hs.length<=e.hs'.length
 bnd:e.hs'.length<Mem.bound
 same:∀i,i<e.hs.length->i∉e.ws->e.hs'[i]? = e.hs[i]?
 call:∀M M',bj M e.hs->bj M' e.hs'->dz P e.f e.args M e.v M'
def lu(m:Mem)(hs':ai):List Nat->Mem
 | []=>m
 | i::l=>lu (m.put i (hs'.getD i .dead)) hs' l
def ia(m:Mem):List ah->Mem
 | []=>m
 | o::l=>ia ((m.push o).getD m) l
def aC.mem(e:aC)(m:Mem):Mem:=ia (lu m e.hs' (e.ws.filter fun i=>decide (i<e.hs.length))) (e.hs'.drop e.hs.length)
theorem pR(hs':ai):∀(l:List Nat) (m:Mem),oW m (lu m hs' l)
 | [],m => .same m
 | i::l,m => .trans (.put m i _) (pR hs' l _)
theorem l8:∀(l:List ah) (m:Mem),oW m (ia m l)
 | [],m => .same m
 | o::l,m=>by
   unfold ia
   cases h:m.push o with
   | none=>exact l8 l m
   | some m'=>exact .trans (.push h) (l8 l m')
theorem nc(hs':ai):∀(l:List Nat) (m:Mem) (hs:ai),bj m hs->(∀i∈l,i<hs.length) ->
 ∃hs2,bj (lu m hs' l) hs2/\hs2.length=hs.length/\(∀i,i∈l->hs2[i]? = some (hs'.getD i .dead))/\(∀i,i∉l->hs2[i]? = hs[i]?)/\∀j,j∉l->((lu m hs' l).eL j).ver=(m.eL j).ver
 | [],m,hs,h,_=>⟨hs,h,rfl,(fun i hi=>by cases hi),fun _ _=>rfl,fun _ _=>rfl⟩
 | i :: l,m,hs,h,hl=>by
   have hi:=hl i (List.mem_cons_self ..)
   have hg:hs[i]? = some hs[i]:=List.getElem?_eq_getElem hi
   obtain⟨hs2,h1,h2,h3,h4,h5⟩:=nc hs' l (m.put i (hs'.getD i .dead)) (hs.set i (hs'.getD i .dead)) (h.put hg _) (fun j hj=>by rw[List.length_set];exact hl j (List.mem_cons_of_mem _ hj))
   refine⟨hs2,h1,by rw[h2,List.length_set],fun j hj=>?_,fun j hj=>?_,fun j hj=>?_⟩
   ·by_cases hjl:j∈l
    ·exact h3 j hjl
    ·rw[h4 j hjl]
     rcases List.mem_cons.1 hj with rfl|hj
     ·simp[hi]
     ·exact absurd hj hjl
   ·simp only[List.mem_cons,not_or]at hj
    rw[h4 j hj.2,List.getElem?_set_ne (Ne.symm hj.1)]
   ·simp only[List.mem_cons,not_or]at hj
    show((lu (m.put i (hs'.getD i .dead)) hs' l).eL j).ver=_
    rw[h5 j hj.2,Mem.fT m _ hj.1]
theorem nb:∀(l:List ah) (m:Mem) (hs:ai),bj m hs->hs.length+l.length<Mem.bound->bj (ia m l) (hs++l)/\∀j,j<hs.length->((ia m l).eL j).ver=(m.eL j).ver
 | [],m,hs,h,_=>⟨by simpa [ia]using h,fun _ _=>rfl⟩
 | o::l,m,hs,h,hb=>by
   simp only[List.length_cons]at hb
   obtain⟨m',h1,h2,h3⟩:=h.push o (by omega)
   have ih:=nb l m' (hs++[o]) h2 (by simp;omega)
   unfold ia
   rw[h1]
   simp only[Option.getD_some]
   refine⟨by simpa using ih.1,fun j hj=>?_⟩
   rw[ih.2 j (by simp;omega),h3 j (by simp;omega)]
theorem pQ:∀(l:List ah) (m:Mem) (hs:ai),bj m hs->hs.length+l.length<Mem.bound->∀j,hs.length+l.length<=j->((ia m l).eL j).ver=(m.eL j).ver
 | [],m,hs,_,_,j,_=>rfl
 | o::l,m,hs,h,hb,j,hj=>by
   simp only[List.length_cons]at hb hj
   obtain⟨m',h1,h2,h3⟩:=h.push o (by omega)
   unfold ia
   rw[h1]
   simp only[Option.getD_some]
   rw[pQ l m' (hs++[o]) h2 (by simp;omega) j (by simp;omega),h3 j (by simp;omega)]
theorem aC.Sound.holds{P:Program}{e:aC}(h:e.Sound P){m:Mem}(hm:bj m e.hs):bj (e.mem m) e.hs'/\oW m (e.mem m)/\∀j,j∉e.ws++ll e.hs.length e.hs'.length->((e.mem m).eL j).ver=(m.eL j).ver:=by
 obtain⟨hs2,h1,h2,h3,h4,h5⟩:=nc e.hs' (e.ws.filter fun i=>decide (i<e.hs.length)) m e.hs hm (fun i hi=>by simpa using (List.mem_filter.1 hi).2)
 have hlen:(e.hs'.drop e.hs.length).length=e.hs'.length-e.hs.length:=List.length_drop ..
 have hle:=h.le
 have hb:=h.bnd
 have h6:=nb (e.hs'.drop e.hs.length) _ hs2 h1 (by rw[h2,hlen];omega)
 have e1:hs2=e.hs'.take e.hs.length:=by
  apply List.ext_getElem?
  intro i
  by_cases hi:i<e.hs.length
  ·rw[List.getElem?_take,if_pos hi]
   by_cases hw:i∈e.ws.filter fun i=>decide (i<e.hs.length)
   ·rw[h3 i hw,List.getD_eq_getElem?_getD,List.getElem?_eq_getElem (by omega)];rfl
   ·rw[h4 i hw,h.same i hi (fun hh=>hw (List.mem_filter.2 ⟨hh,by simpa using hi⟩))]
  ·rw[List.getElem?_eq_none (by omega),List.getElem?_eq_none (by simp;omega)]
 refine⟨?_,.trans (pR _ _ _) (l8 _ _),fun j hj=>?_⟩
 ·have:=h6.1
  rw[e1,List.take_append_drop]at this
  exact this
 ·simp only[List.mem_append,not_or]at hj
  have hv:∀j,j∉e.ws->((lu m e.hs' (e.ws.filter fun i=>decide (i<e.hs.length))).eL j).ver=(m.eL j).ver:=fun j hj=>h5 j fun hh=>hj (List.mem_filter.1 hh).1
  unfold aC.mem
  by_cases hjn:j<e.hs.length
  ·rw[h6.2 j (by omega),hv j hj.1]
  ·rw[pQ _ _ hs2 h1 (by rw[h2,hlen];omega) j (by
    rw[h2,hlen]
    have:¬j<e.hs'.length:=fun hlt=>hj.2 (by unfold ll;rw[List.mem_range'_1];omega)
    omega),hv j hj.1]
open Classical in
noncomputable def rP(f:FuncId)(args:List XV)(m:Mem):List aC->Option aC
 | [] => .none
 | e::L=>if e.f=f/\e.args=args/\bj m e.hs then some e else rP f args m L
theorem lq{f:FuncId}{args:List XV}{m:Mem}{e:aC}:∀{L:List aC},rP f args m L=some e->e∈L/\e.f=f/\e.args=args/\bj m e.hs
 | [],h=>by cases h
 | e'::L,h=>by
   unfold rP at h
   split at h
   ·rename_i hc
    cases h
    exact⟨List.mem_cons_self ..,hc⟩
   ·obtain⟨h1,h2⟩:=lq h
    exact⟨List.mem_cons_of_mem _ h1,h2⟩
theorem tE{f:FuncId}{args:List XV}{m:Mem}{e:aC}(hc:e.f=f/\e.args=args/\bj m e.hs):∀{L:List aC},e∈L->∃e',rP f args m L=some e'
 | e'::L,h=>by
   unfold rP
   split
   ·exact⟨_,rfl⟩
   ·rename_i hn
    rcases List.mem_cons.1 h with rfl|h
    ·exact absurd hc hn
    ·exact tE hc h
theorem bj.uniq{m:Mem}{hs hs2:ai}(h:bj m hs)(h2:bj m hs2):hs=hs2:=by
 have n1:=h.n
 have n2:=h2.n
 apply List.ext_getElem?
 intro i
 by_cases hi:i<m.n
 ·rw[h.get? hi,h2.get? hi]
 ·rw[List.getElem?_eq_none (by omega),List.getElem?_eq_none (by omega)]
def Compat(e e':aC):Prop:=e.f=e'.f->e.args=e'.args->e.hs=e'.hs->e.v=e'.v/\e.hs'=e'.hs'/\e.ws=e'.ws
def af(L:List aC):Prop:=∀e∈L,∀e'∈L,Compat e e'
theorem af.nil:af []:=fun _ h=>by cases h
theorem Compat.refl(e:aC):Compat e e:=fun _ _ _=>⟨rfl,rfl,rfl⟩
theorem Compat.symm{e e':aC}(h:Compat e e'):Compat e' e:=fun h1 h2 h3=>by
 obtain⟨k1,k2,k3⟩:=h h1.symm h2.symm h3.symm
 exact⟨k1.symm,k2.symm,k3.symm⟩
theorem af.cons{e:aC}{L:List aC}(h:∀e'∈L,Compat e e')(hL:af L):af (e::L):=by
 intro a ha b hb
 rcases List.mem_cons.1 ha with e1|h1
 ·rcases List.mem_cons.1 hb with e2|h2
  ·rw[e1,e2];exact Compat.refl _
  ·rw[e1];exact h b h2
 ·rcases List.mem_cons.1 hb with e2|h2
  ·rw[e2];exact(h a h1).symm
  ·exact hL a h1 b h2
theorem af.one(e:aC):af [e]:=af.cons (fun _ h=>by cases h) af.nil
theorem Compat.ne{e e':aC}(h:Nat.beq e.f e'.f=false):Compat e e':=fun h1=>by
 rw[h1]at h
 have:Nat.beq e'.f e'.f=true:=Nat.beq_refl _
 rw[this]at h;cases h
theorem af.two{e e':aC}(h:Compat e e'):af [e,e']:=af.cons (fun x hx=>by simp only[List.mem_singleton]at hx;subst hx;exact h) (af.one e')
def qv(e:aC):List aC->Prop
 | []=>True
 | e'::L=>Compat e e'/\qv e L
def Il:List aC->Prop
 | []=>True
 | e::L=>qv e L/\Il L
theorem qv.all{e:aC}:∀{L:List aC},qv e L->∀e'∈L,Compat e e'
 | [],_,e',h=>by cases h
 | a::L,h,e',h'=>by
   rcases List.mem_cons.1 h' with rfl|h'
   ·exact h.1
   ·exact h.2.all e' h'
theorem af.i3:∀{L:List aC},Il L->af L
 | [],_=>af.nil
 | _::_,h=>af.cons h.1.all (af.i3 h.2)
noncomputable def qm(L:List aC):cJ:=⟨fun f args m=>(rP f args m L).map fun e=>(e.v,e.mem m),fun _ _ => .none⟩
theorem nO{P:Program}{L:List aC}(h:∀e∈L,e.Sound P):aP P (qm L):=by
 refine⟨fun f args m v m' hc=>?_,fun f args m v m' hc=>?_,fun _ _ _ he=>by cases he⟩
 ·obtain⟨e,h1,h2⟩:=Option.map_eq_some_iff.1 hc
  cases h2
  obtain⟨hm,rfl,rfl,hh⟩:=lq h1
  exact(h e hm).call m _ hh ((h e hm).holds hh).1
 ·obtain⟨e,h1,h2⟩:=Option.map_eq_some_iff.1 hc
  cases h2
  obtain⟨hm,rfl,rfl,hh⟩:=lq h1
  exact((h e hm).holds hh).2.1
theorem CM{L:List aC}(hc:af L){e:aC}(he:e∈L){m:Mem}(hm:bj m e.hs):(qm L).call e.f e.args m=some (e.v,e.mem m):=by
 obtain⟨e',h1⟩:=tE (f:=e.f) (args:=e.args) (m:=m) ⟨rfl,rfl,hm⟩ he
 obtain⟨h2,h3,h4,h5⟩:=lq h1
 obtain⟨k1,k2,k3⟩:=hc e' h2 e he h3 h4 (h5.uniq hm)
 show(rP e.f e.args m L).map _=_
 rw[h1]
 have k4:e'.hs=e.hs:=h5.uniq hm
 simp only[Option.map_some,k1]
 unfold aC.mem
 rw[k2,k3,k4]
def SK(P:Program)(ops:Array Oper)(nt:Nat)(L:List aC)(l:List Oper)(al:bc)(hs:ai)(K:List Ab->bc->ai->Prop):Prop:=
 ∃Lf,(∀e∈L,e∈Lf)/\(∀e∈Lf,e∈L\/e.Sound P)/\af Lf/\lR (qm Lf) P ops nt l al hs K
variable {P:Program} {ops:Array Oper} {nt nI:Nat} {al:bc} {hs:ai} {o:Oper} {l:List Oper} {L:List aC} {K:List Ab->bc->ai->Prop}
theorem SK.nil(hc:af L)(h:K [] al hs):SK P ops nt L [] al hs K:=⟨L,fun _ h=>h,fun _ h => .inl h,hc,.nil h⟩
theorem SK.lift{x:XV}{hs1:ai}{b:Ab}{d:Nat}(hd:o.dst=some d)(hlt:Nat.blt d nt=true)(h:∀O,aH O P ops al hs o x hs1 b)(hk:SK P ops nt L l ((d,x)::al) hs1 fun bs=>K (b::bs)):SK P ops nt L (o::l) al hs K:=by
 obtain⟨Lf,h1,h2,h3,h4⟩:=hk
 exact⟨Lf,h1,h2,h3,.cons (h _) (by rw[hd];simpa [Nat.blt_eq]using hlt) (by rw[hd];exact h4)⟩
theorem SK.Ah{x:XV}{hs1:ai}{b:Ab}(hd:o.dst = .none)(h:∀O,aH O P ops al hs o x hs1 b)(hk:SK P ops nt L l al hs1 fun bs=>K (b::bs)):SK P ops nt L (o::l) al hs K:=by
 obtain⟨Lf,h1,h2,h3,h4⟩:=hk
 exact⟨Lf,h1,h2,h3,.cons (h _) (by rw[hd]) (by rw[hd];exact h4)⟩
theorem tf{Lf:List aC}(hc:af Lf){e:aC}(he:e∈Lf)(hs0:e.hs=hs)(hsd:e.Sound P){g:Operand}{args:Array Operand}{ts:Array TypeId}(ho:o.op = .call ⟨.value g,args,ts⟩)(hw:av ops (rg al) o=some true)
 {c:XC}(hg:ag (rg al) g = .one c) {caps:List XC}(hx:vw c=some (e.f,caps)) (hcb:dX P e.f=true) (ha:args.toList.map (ag (rg al))++caps.map .one=e.args) :
 aH (qm Lf) P ops al hs o e.v e.hs' ⟨true,.none,e.ws++ll e.hs.length e.hs'.length⟩:=by
 intro m hm
 subst hs0
 obtain⟨h1,_,h2⟩:=hsd.holds hm
 refine⟨e.mem m,?_,h1,h2⟩
 unfold iP
 rw[hw]
 have e1:ct (qm Lf) P (ag (rg al)) o.op m=some (e.v,e.mem m):=by
  rw[ho]
  simp only[ct,hg,hx,hcb,if_true,ha,CM hc he hm]
 have n1:ba P (ag (rg al)) o.op = .none:=by rw[ho];rfl
 have n2:nT (qm Lf) (ag (rg al)) o.op = .none:=by rw[ho];rfl
 have n3:fb P (ag (rg al)) o.op = .none:=by rw[ho];rfl
 have n4:bV P (ag (rg al)) o.op m = .none:=by rw[ho];rfl
 simp only[df,dg,n1,n2,n3,n4,e1]
theorem aA{f:FuncId}{vs:List XV}{v:XV}{hs':ai}{ws:List Nat}(hi:aC.Sound P ⟨f,vs,hs,v,hs',ws⟩){g:Operand}{args:Array Operand}{ts:Array TypeId}(ho:o.op = .call ⟨.value g,args,ts⟩)(hw:av ops (rg al) o=some true)
 {d:Nat}(hd:o.dst=some d) (hlt:Nat.blt d nt=true) {c:XC}(hg:ag (rg al) g = .one c) {caps:List XC}(hx:vw c=some (f,caps)) (hcb:dX P f=true) (ha:args.toList.map (ag (rg al))++caps.map .one=vs)
 (hk:SK P ops nt (⟨f,vs,hs,v,hs',ws⟩::L) l ((d,v)::al) hs' fun bs=>K (⟨true,.none,ws++ll hs.length hs'.length⟩::bs)):SK P ops nt L (o::l) al hs K:=by
 obtain⟨Lf,h1,h2,h3,h4⟩:=hk
 refine⟨Lf,fun e he=>h1 e (List.mem_cons_of_mem _ he),fun e he=>?_,h3,.cons (tf h3 (h1 _ (List.mem_cons_self ..)) rfl hi ho hw hg hx hcb ha) (by rw[hd];simpa [Nat.blt_eq]using hlt) (by rw[hd];exact h4)⟩
 rcases h2 e he with h|h
 ·rcases List.mem_cons.1 h with rfl|h
  ·exact .inr hi
  ·exact .inl h
 ·exact .inr h
theorem Fm{f:FuncId}{vs:List XV}{v:XV}{hs':ai}{ws:List Nat}(hi:aC.Sound P ⟨f,vs,hs,v,hs',ws⟩){g:Operand}{args:Array Operand}{ts:Array TypeId}(ho:o.op = .call ⟨.value g,args,ts⟩)(hw:av ops (rg al) o=some true)
 (hd:o.dst = .none) {c:XC}(hg:ag (rg al) g = .one c) {caps:List XC}(hx:vw c=some (f,caps)) (hcb:dX P f=true) (ha:args.toList.map (ag (rg al))++caps.map .one=vs)
 (hk:SK P ops nt (⟨f,vs,hs,v,hs',ws⟩::L) l al hs' fun bs=>K (⟨true,.none,ws++ll hs.length hs'.length⟩::bs)):SK P ops nt L (o::l) al hs K:=by
 obtain⟨Lf,h1,h2,h3,h4⟩:=hk
 refine⟨Lf,fun e he=>h1 e (List.mem_cons_of_mem _ he),fun e he=>?_,h3,.cons (tf h3 (h1 _ (List.mem_cons_self ..)) rfl hi ho hw hg hx hcb ha) (by rw[hd]) (by rw[hd];exact h4)⟩
 rcases h2 e he with h|h
 ·rcases List.mem_cons.1 h with rfl|h
  ·exact .inr hi
  ·exact .inl h
 ·exact .inr h
theorem si(τ : Nat->Nat)(hs:ai):View τ hs []:=⟨fun _ h=>absurd h (Nat.not_lt_zero _),fun _ _ _ _ h=>by simp at h,fun _ _ h=>by simp at h,fun _ _ h=>by simp at h⟩
theorem au{f:FuncId}{args:List XV}{v:XV}(hc:aW P f args [] v [])(ha:(args.all XV.shut)=true)(hv:v.shut=true)(hb:Nat.blt hs.length Mem.bound=true):aC.Sound P ⟨f,args,hs,v,hs,[]⟩:=by
 have ha':∀x∈args,x.shut=true:=List.all_eq_true.1 ha
 refine⟨Nat.le_refl _,by simpa [Nat.blt_eq]using hb,fun _ _ _=>rfl,fun M M' hM hM'=>?_⟩
 have:=yg hc (Nat.le_refl _) (by decide) (ρ:=id) (HS:=hs) (HS':=hs) (si _ _) (fun x hx=>XV.dS (ha' x hx) _) ⟨by simp,fun _ _ h=>by simp at h,fun _ _ _=>rfl⟩ (fun _ _ h=>by simp at h) hM hM'
 rw[jT ha',XV.cV hv]at this
 exact this
theorem BK{f:FuncId}{args args':List XV}{hs0:ai}{v v':XV}(hc:aW P f args hs0 v hs0){ρ : Nat->Nat}(hview:View ρ hs hs0)(hlive:∀o∈hs0,o.live=true)(ha:∀x∈args,x.bl hs0.length)(e1:args.map (·.ax ρ)=args')(hv:v.bl hs0.length)(e2:v.ax ρ = v')(hb:Nat.blt hs.length Mem.bound=true)(hb0:Nat.blt hs0.length Mem.bound=true) :
 aC.Sound P ⟨f,args',hs,v',hs,[]⟩:=by
 refine⟨Nat.le_refl _,by simpa [Nat.blt_eq]using hb,fun _ _ _=>rfl,fun M M' hM hM'=>?_⟩
 have key:∀j,j<hs0.length->beyond ρ hs0.length hs.length j = ρ j:=fun j hj=>if_pos hj
 have kc:∀c:XC,c.ok hs0.length->c.ax (beyond ρ hs0.length hs.length)=c.ax ρ:=by
  intro c
  induction c with
  | ptr i off=>exact fun h=>by simp only[XC.ax,key i h]
  | slice i off len cap=>exact fun h=>by simp only[XC.ax,key i h]
  | map i=>exact fun h=>by simp only[XC.ax,key i h]
  | bind g c ih1 ih2=>exact fun h=>by simp only[XC.ax,ih1 h.1,ih2 h.2]
  | _=>intro _;rfl
 have kcs:∀cs:List XC,(∀c∈cs,c.ok hs0.length)->cs.map (·.ax (beyond ρ hs0.length hs.length))=cs.map (·.ax ρ):=fun cs h=>List.map_congr_left fun c hc=>kc c (h c hc)
 have k1:∀x:X1,x.ok hs0.length->x.ax (beyond ρ hs0.length hs.length)=x.ax ρ:=fun x h=>by
  cases x with
  | one c=>simp only[X1.ax,kc c h]
  | agg cs=>simp only[X1.ax,kcs cs h]
 have kv:∀x:XV,x.bl hs0.length->x.ax (beyond ρ hs0.length hs.length)=x.ax ρ:=fun x h=>by
  cases x with
  | undef=>rfl
  | one c=>simp only[XV.ax,kc c h]
  | agg cs=>simp only[XV.ax,kcs cs h]
  | tup xs=>simp only[XV.ax];rw[List.map_congr_left fun c hc=>k1 c (h c hc)]
 have ko:∀x:ah,x.bl hs0.length->x.ax (beyond ρ hs0.length hs.length)=x.ax ρ:=fun x h=>by
  cases x with
  | dead=>rfl
  | cells vs e a b=>simp only[ah.ax,kcs vs h]
  | map es=>simp only[ah.ax];rw[List.map_congr_left fun p hp=>by rw[k1 _ (h p hp).1,k1 _ (h p hp).2]]
 have:=yg hc (Nat.le_refl _) (by simpa [Nat.blt_eq]using hb0) (HS:=hs) (HS':=hs) hview ha ⟨by simp,fun j o h=>?_,fun _ _ _=>rfl⟩ (fun j o h hl _=>⟨o,h,hl⟩) hM hM'
 ·rw[e1,kv v hv,e2]at this
  exact this
 ·have hj:j<hs0.length:=(List.getElem?_eq_some_iff.1 h).1
  rw[key j hj,ko o (hview.ok j o h)]
  rcases hview.obj j o h with e|e
  ·have:=hlive o (List.mem_of_getElem? h)
   rw[e]at this;cases this
  ·exact e
theorem oo{f:FuncId}{args args':List XV}{hs0 hs0' hs':ai}{v v':XV}{ws:List Nat}(hc:aW P f args hs0 v hs0'){ρ : Nat->Nat}(hle:hs0.length<=hs0'.length)(hview:View ρ hs hs0)(ha:∀x∈args,x.bl hs0.length)(e1:args.map (·.ax ρ)=args')(e2:v.ax (beyond ρ hs0.length hs.length)=v')(haf:Ik ρ hs0.length hs hs0' hs')(hro:∀(j:Nat) (o:ah),hs0'[j]? = some o->o.live=true->o.own=false->∃o0,hs0[j]? = some o0/\o0.live=true)
 (hsame:∀i,i<hs.length->i∉ws->hs'[i]? = hs[i]?) (hb:Nat.blt hs'.length Mem.bound=true) (hb0:Nat.blt hs0.length Mem.bound=true):aC.Sound P ⟨f,args',hs,v',hs',ws⟩:=by
 have hl:=haf.len
 refine⟨by show hs.length<=hs'.length;omega,by simpa [Nat.blt_eq]using hb,hsame,fun M M' hM hM'=>?_⟩
 have:=yg hc hle (by simpa [Nat.blt_eq]using hb0) hview ha haf hro hM hM'
 rw[e1,e2]at this
 exact this
section
variable {K:cR}
theorem WX.KL{id:Nat}(h:SK P ops nt [] ops.toList al hs fun _ al' hs'=>K .normal al' hs'):WX P nt nI (.code (.region id ops false)) al hs K:=by
 obtain⟨Lf,h1,h2,h3,h4⟩:=h
 exact WX.Me (nO fun e he=>(h2 e he).resolve_left (by simp)) h4
theorem WX.IY(hP:P.follows .mixedOrders=true){id:Nat}(hst:cA ops nt (gT ops.toList)=true)(h:SK P ops nt [] ops.toList al hs fun bs al' hs'=>tm (gT ops.toList) bs=true/\K .normal al' hs'):WX P nt nI (.code (.region id ops true)) al hs K:=by
 obtain⟨Lf,h1,h2,h3,h4⟩:=h
 exact WX.K1 (nO fun e he=>(h2 e he).resolve_left (by simp)) hP hst h4
end
end Go.Xm
namespace Go.Xm
variable [aw]
def gl(m m':Mem):Prop:=m.n<=Mem.bound->m'.n<=Mem.bound/\m.n<=m'.n/\∀j,j<m'.n->(m'.get j).live=true->(m'.get j).own=true\/(j<m.n/\m.get j=m'.get j)
theorem gl.same(m:Mem):gl m m:=fun hb=>⟨hb,Nat.le_refl _,fun j hj _ => .inr ⟨hj,rfl⟩⟩
theorem gl.trans{a b c:Mem}(h1:gl a b)(h2:gl b c):gl a c:=fun hb=>by
 obtain⟨k1,k2,k3⟩:=h1 hb
 obtain⟨l1,l2,l3⟩:=h2 k1
 refine⟨l1,Nat.le_trans k2 l2,fun j hj hl=>?_⟩
 rcases l3 j hj hl with h|⟨h,he⟩
 ·exact .inl h
 ·rcases k3 j h (by rw[he];exact hl)with h'|⟨h',he'⟩
  ·exact .inl (by rw[<-he];exact h')
  ·exact .inr ⟨h',he'.trans he⟩
theorem gl.put(m:Mem)(i:Nat){o:ah}(ho:o.own=true\/o.live=false):gl m (m.put i o):=fun hb=>by
 refine⟨by rw[Mem.eh];exact hb,by rw[Mem.eh];exact Nat.le_refl _,fun j hj hl=>?_⟩
 rw[Mem.eh]at hj
 by_cases hji:j=i
 ·subst hji
  rw[Mem.fU m o hj (by omega)]at hl ⊢
  rcases ho with h|h
  ·exact .inl h
  ·rw[h]at hl;cases hl
 ·have:(m.put i o).get j=m.get j:=by
   show((m.put i o).eL j).obj=(m.eL j).obj
   rw[Mem.fT m o hji]
  exact .inr ⟨hj,this.symm⟩
theorem gl.push{m m':Mem}{o:ah}(ho:o.own=true\/o.live=false)(h:m.push o=some m'):gl m m':=fun hb=>by
 obtain⟨h1,h2,h3,h4⟩:=Mem.br h
 refine⟨by omega,by omega,fun j hj hl=>?_⟩
 by_cases hjn:j=m.n
 ·subst hjn
  have:m'.get m.n=o:=by show(m'.eL m.n).obj=o;rw[h3]
  rw[this]at hl ⊢
  rcases ho with h|h
  ·exact .inl h
  ·rw[h]at hl;cases hl
 ·have:m'.get j=m.get j:=by
   show(m'.eL j).obj=(m.eL j).obj
   rw[h4 j hjn]
  exact .inr ⟨by omega,this.symm⟩
theorem C4{P:Program}{ρ : Operand->XV}{op:Op}{m m':Mem}{r:XV}(h:bV P ρ op m=some (r,m')):gl m m':=by
 unfold bV lB C1 u_ jv dH kE fY fX iY xu at h
 (repeat' split at h)<;>first
   | (cases h;done)
   | (cases h;exact .same _)
   | (cases h;exact .put _ _ (.inl rfl))
   | (cases h;exact .push (.inl rfl) ‹_›)
   | (cases h;exact .trans (.put _ _ (.inr rfl)) (.push (.inl rfl) ‹_›))
def uH(o:Oper):Bool:=match o.op with
 | .call ⟨.value _,_,_⟩=>false
 | _=>true
theorem Kf{O : cJ}{P:Program}{ops:Array Oper}{g:Nat->XV}{o:Oper}{m:Mem}{d:Out}(hn:uH o=true)(h:iP O P ops g o m=some d):gl m d.m:=by
 unfold iP at h
 split at h
 ·unfold df at h
  split at h
  ·cases h;exact .same _
  ·split at h
   ·split at h
    ·cases h;exact .same _
    ·cases h
   ·split at h
    ·rename_i x m' hx
     cases h
     exact C4 hx
    ·split at h
     ·rename_i x m' hx
      exfalso
      unfold ct at hx
      split at hx
      ·rename_i hop
       unfold uH at hn
       rw[hop]at hn
       cases hn
      ·cases hx
     ·cases h
 ·cases h;exact .same _
 ·cases h
end Go.Xm
namespace Go.Xm
variable [aw]
variable {P:Program} {ops:Array Oper} {nt nI:Nat} {al:bc} {hs:ai} {o:Oper} {l:List Oper} {L:List aC} {K:List Ab->bc->ai->Prop} {d:Nat}
theorem AF{a:Operand}(ho:o.op = .move a)(hw:av ops (rg al) o=some true)(hd:o.dst=some d)(hlt:Nat.blt d nt=true){c:XV}(ha:ag (rg al) a=c)
 (hk:SK P ops nt L l ((d,c)::al) hs fun bs=>K (quiet::bs)):SK P ops nt L (o::l) al hs K:=
 SK.lift hd hlt (fun _=>aH.pure hw (by rw[ho];simp only[ba,ha])) hk
theorem Cv{a:Operand}(ho:o.op = .assign a)(hw:av ops (rg al) o=some true)(hd:o.dst=some d)(hlt:Nat.blt d nt=true){c:XV}(ha:ag (rg al) a=c)
 (hk:SK P ops nt L l ((d,c)::al) hs fun bs=>K (quiet::bs)):SK P ops nt L (o::l) al hs K:=
 SK.lift hd hlt (fun _=>aH.pure hw (by rw[ho];simp only[ba,ha])) hk
theorem Ft{a b c:Operand}(ho:o.op = .pick c a b)(hw:av ops (rg al) o=some true)(hd:o.dst=some d)(hlt:Nat.blt d nt=true)(hc:ag (rg al) c = .one (.bool true)){x:Bool}(ha:ag (rg al) a = .one (.bool x))
 (hk:SK P ops nt L l ((d,.one (.bool x))::al) hs fun bs=>K (quiet::bs)):SK P ops nt L (o::l) al hs K:=
 SK.lift hd hlt (fun _=>aH.pure hw (by rw[ho];simp only[ba,hc,if_true,ha])) hk
theorem Fs{a b c:Operand}(ho:o.op = .pick c a b)(hw:av ops (rg al) o=some true)(hd:o.dst=some d)(hlt:Nat.blt d nt=true)(hc:ag (rg al) c = .one (.bool false)){x:Bool}(ha:ag (rg al) b = .one (.bool x))
 (hk:SK P ops nt L l ((d,.one (.bool x))::al) hs fun bs=>K (quiet::bs)):SK P ops nt L (o::l) al hs K:=
 SK.lift hd hlt (fun _=>aH.pure hw (by rw[ho];simp only[ba,hc,Bool.false_eq_true,if_false,ha])) hk
theorem JV{a:Operand}{t:TypeId}(ho:o.op = .unOp .not t a)(hw:av ops (rg al) o=some true)(hd:o.dst=some d)(hlt:Nat.blt d nt=true){x y:Bool}(ha:ag (rg al) a = .one (.bool x))(hy:(!x)=y)
 (hk:SK P ops nt L l ((d,.one (.bool y))::al) hs fun bs=>K (quiet::bs)):SK P ops nt L (o::l) al hs K:=
 SK.lift hd hlt (fun _=>aH.pure hw (by rw[ho];simp only[ba,ha,LM,hy])) hk
section
variable {t t':TypeId} {a b:Operand} {k k' k'':IntKind} {x y z:Int}
theorem iM{op:BinOp}(ho:o.op = .binOp op t a b t')(hw:av ops (rg al) o=some true)(hd:o.dst=some d)(hlt:Nat.blt d nt=true)(ha:ag (rg al) a = .one (.int k x))(hb:ag (rg al) b = .one (.int k' y))
 (hc:bU op k k' x y=some (.int k'' z)) (hk:SK P ops nt L l ((d,.one (.int k'' z))::al) hs fun bs=>K (quiet::bs)):SK P ops nt L (o::l) al hs K:=
 SK.lift hd hlt (fun _=>aH.bin hw ho ha hb hc) hk
theorem JW(ho:o.op = .binOp .rem t a b t')(hw:av ops (rg al) o=some true)(hd:o.dst=some d)(hlt:Nat.blt d nt=true)(ha:ag (rg al) a = .one (.int k x))(hb:ag (rg al) b = .one (.int k y))
 (hx:0<=x) (hy:y≠0) (hk:SK P ops nt L l ((d,.one (.int k (x%y)))::al) hs fun bs=>K (quiet::bs)):SK P ops nt L (o::l) al hs K:=
 iM ho hw hd hlt ha hb (by simp only[bU,dL,if_true,hy,if_false,Int.tmod_eq_emod_of_nonneg hx]) hk
theorem Fq{ts:Array TypeId}(ho:o.op = .call ⟨.builtin .max,#[a,b],ts⟩)(hw:av ops (rg al) o=some true)(hd:o.dst=some d)(hlt:Nat.blt d nt=true)(ha:ag (rg al) a = .one (.int k x))(hb:ag (rg al) b = .one (.int k' y))(hz:max x y=z)
 (hk:SK P ops nt L l ((d,.one (.int k z))::al) hs fun bs=>K (quiet::bs)):SK P ops nt L (o::l) al hs K:=
 SK.lift hd hlt (fun _=>aH.pure hw (by
  have e:(if y>x then y else x)=z:=by rw[<-hz,Int.max_def];by_cases h:y>x<;>by_cases h':x<=y<;>simp[h,h']<;>omega
  rw[ho];simp only[ba,dW,List.map_cons,List.map_nil,ha,hb,jt,e,Option.map_some])) hk
theorem y_{ts:Array TypeId}(ho:o.op = .call ⟨.builtin .min,#[a,b],ts⟩)(hw:av ops (rg al) o=some true)(hd:o.dst=some d)(hlt:Nat.blt d nt=true)(ha:ag (rg al) a = .one (.int k x))(hb:ag (rg al) b = .one (.int k' y))(hz:min x y=z)
 (hk:SK P ops nt L l ((d,.one (.int k z))::al) hs fun bs=>K (quiet::bs)):SK P ops nt L (o::l) al hs K:=
 SK.lift hd hlt (fun _=>aH.pure hw (by
  have e:(if y<x then y else x)=z:=by rw[<-hz,Int.min_def];by_cases h:y<x<;>by_cases h':x<=y<;>simp[h,h']<;>omega
  rw[ho];simp only[ba,dW,List.map_cons,List.map_nil,ha,hb,ju,e,Option.map_some])) hk
end
theorem HM{s t:TypeId}{y:Operand}{u:TypeDesc}(ho:o.op = .convert s t y)(hw:av ops (rg al) o=some true)(hd:o.dst=some d)(hlt:Nat.blt d nt=true){k k':IntKind}{x z:Int}(hy:ag (rg al) y = .one (.int k x))[aZ P s u][h:aZ P t (.int k')](hz:k'.wrap x=z)
 (hk:SK P ops nt L l ((d,.one (.int k' z))::al) hs fun bs=>K (quiet::bs)):SK P ops nt L (o::l) al hs K:=
 SK.lift hd hlt (fun _=>aH.conv hw ho hy (by simp only[jn,aZ.out (P:=P) (t:=s),aZ.out (P:=P) (t:=t)]) hz) hk
theorem JU{a:Operand}(ho:o.op = .nilCheck a)(hw:av ops (rg al) o=some true)(hd:o.dst=some d)(hlt:Nat.blt d nt=true){i off:Nat}(ha:ag (rg al) a = .one (.ptr i off))
 (hk:SK P ops nt L l ((d,.one (.ptr i off))::al) hs fun bs=>K (quiet::bs)):SK P ops nt L (o::l) al hs K:=
 SK.lift hd hlt (fun _=>aH.pure hw (by rw[ho];simp only[ba,ha,kG])) hk
theorem JR{s:TypeId}{a:Operand}{f:Nat}(ho:o.op = .fieldAddr s a f)(hw:av ops (rg al) o=some true)(hd:o.dst=some d)(hlt:Nat.blt d nt=true){i off:Nat}(ha:ag (rg al) a = .one (.ptr i off)){ft:TypeId}{fo z:Nat}[hf:bP P s f ft fo][hz:aO P ft (z+1)]
 {p:Nat}(hp:off+fo=p) (hk:SK P ops nt L l ((d,.one (.ptr i p))::al) hs fun bs=>K (quiet::bs)):SK P ops nt L (o::l) al hs K:=by
 obtain⟨fd,h1,h2,h3⟩:=hf.ex
 exact SK.lift hd hlt (fun _=>aH.pure hw (by rw[ho];simp only[ba,ec,h1,ha,h2,hz.out,h3,hp])) hk
theorem HP{t:TypeId}{a b:Operand}{len:Nat}{elem:TypeId}{s:Nat}(ho:o.op = .indexAddr t a b)(hw:av ops (rg al) o=some true)(hd:o.dst=some d)(hlt:Nat.blt d nt=true){i off:Nat}(ha:ag (rg al) a = .one (.ptr i off)){k:IntKind}{z:Int}(hb:ag (rg al) b = .one (.int k z))[hu:aZ P t (.array len elem)][hs':aO P elem s](hz:0<=z/\z<len)
 {p:Nat}(hp:off+z.toNat*s=p) (hk:SK P ops nt L l ((d,.one (.ptr i p))::al) hs fun bs=>K (quiet::bs)):SK P ops nt L (o::l) al hs K:=
 SK.lift hd hlt (fun _=>aH.pure hw (by rw[ho];simp only[ba,bY,ha,hb,hu.out,hs'.out,if_pos hz,Option.map_some,hp])) hk
theorem AD{t:TypeId}{a b:Operand}{elem:TypeId}{s:Nat}(ho:o.op = .indexAddr t a b)(hw:av ops (rg al) o=some true)(hd:o.dst=some d)(hlt:Nat.blt d nt=true){i off len:Nat}{cap:vy}(ha:ag (rg al) a = .one (.slice i off len cap)){k:IntKind}{z:Int}(hb:ag (rg al) b = .one (.int k z))[hu:aZ P t (.slice elem)][hs':aO P elem s](hz:0<=z/\z<len)
 {p:Nat}(hp:off+z.toNat*s=p) (hk:SK P ops nt L l ((d,.one (.ptr i p))::al) hs fun bs=>K (quiet::bs)):SK P ops nt L (o::l) al hs K:=
 SK.lift hd hlt (fun _=>aH.pure hw (by rw[ho];simp only[ba,bY,ha,hb,hu.out,hs'.out,if_pos hz,Option.map_some,hp])) hk
theorem Fo{s:TypeId}{a:Operand}{f:Nat}(ho:o.op = .field s a f)(hw:av ops (rg al) o=some true)(hd:o.dst=some d)(hlt:Nat.blt d nt=true){cs:List XC}(ha:ag (rg al) a = .agg cs){ft:TypeId}{fo:Nat}[hf:bP P s f ft fo][hz:dE P ft]{c:XC}(hc:cs[fo]? = some c)
 (hk:SK P ops nt L l ((d,.one c)::al) hs fun bs=>K (quiet::bs)):SK P ops nt L (o::l) al hs K:=by
 obtain⟨fd,h1,h2,h3⟩:=hf.ex
 exact SK.lift hd hlt (fun _=>aH.pure hw (by rw[ho];simp only[ba,u6,h1,ha,h2,h3,kH,hz.out,hc,Option.map_some,X1.pw])) hk
theorem JQ{a:Operand}{i:Nat}(ho:o.op = .extract a i)(hw:av ops (rg al) o=some true)(hd:o.dst=some d)(hlt:Nat.blt d nt=true){vs:List X1}(ha:ag (rg al) a = .tup vs){c:XC}(hc:vs[i]? = some (.one c))
 (hk:SK P ops nt L l ((d,.one c)::al) hs fun bs=>K (quiet::bs)):SK P ops nt L (o::l) al hs K:=
 SK.lift hd hlt (fun _=>aH.pure hw (by rw[ho];simp only[ba,ha,iG,hc,Option.map_some,X1.pw])) hk
theorem HN{a:Operand}{i:Nat}(ho:o.op = .extract a i)(hw:av ops (rg al) o=some true)(hd:o.dst=some d)(hlt:Nat.blt d nt=true){vs:List X1}(ha:ag (rg al) a = .tup vs){c:List XC}(hc:vs[i]? = some (.agg c))
 (hk:SK P ops nt L l ((d,.agg c)::al) hs fun bs=>K (quiet::bs)):SK P ops nt L (o::l) al hs K:=
 SK.lift hd hlt (fun _=>aH.pure hw (by rw[ho];simp only[ba,ha,iG,hc,Option.map_some,X1.pw])) hk
theorem HT{a:Operand}{t:TypeId}{elem:TypeId}(ho:o.op = .call ⟨.builtin .len,#[a],#[t]⟩)(hw:av ops (rg al) o=some true)(hd:o.dst=some d)(hlt:Nat.blt d nt=true){i off len:Nat}{cap:vy}(ha:ag (rg al) a = .one (.slice i off len cap))[hu:aZ P t (.slice elem)]
 (hk:SK P ops nt L l ((d,.one (.int .i64 (len:Nat)))::al) hs fun bs=>K (quiet::bs)):SK P ops nt L (o::l) al hs K:=
 SK.lift hd hlt (fun _=>aH.pure hw (by rw[ho];simp[ba,dW,ha,xy,hu.out])) hk
theorem fh{t:TypeId}{a:Operand}(ho:o.op = .load t a)[ht:dE P t](hw:av ops (rg al) o=some true)(hd:o.dst=some d)(hlt:Nat.blt d nt=true){i off:Nat}(ha:ag (rg al) a = .one (.ptr i off)){vs:List XC}{e:TypeId}{opn ro:Bool}(hi:hs[i]? = some (.cells vs e opn ro)){c:XC}(hc:vs[off]? = some c)
 (hk:SK P ops nt L l ((d,.one c)::al) hs fun bs=>K (⟨false,some i,[]⟩::bs)):SK P ops nt L (o::l) al hs K:=
 SK.lift hd hlt (fun _=>aH.load hw ho ha hi (EB ht.out hc)) hk
theorem y8{t:TypeId}{a:Operand}{s:Nat}(ho:o.op = .load t a)[ht:c9 P t][hs':aO P t s](hw:av ops (rg al) o=some true)(hd:o.dst=some d)(hlt:Nat.blt d nt=true){i:Nat}(ha:ag (rg al) a = .one (.ptr i 0)){vs:List XC}{e:TypeId}{opn ro:Bool}(hi:hs[i]? = some (.cells vs e opn ro))(hle:s=vs.length)
 (hk:SK P ops nt L l ((d,.agg vs)::al) hs fun bs=>K (⟨false,some i,[]⟩::bs)):SK P ops nt L (o::l) al hs K:=
 SK.lift hd hlt (fun _=>aH.load (x := .agg vs) hw ho ha hi (wz ht.out (by rw[hs'.out,hle]))) hk
theorem sa{t:TypeId}{a:Operand}{s:Nat}(ho:o.op = .load t a)[ht:c9 P t][hs':aO P t s](hw:av ops (rg al) o=some true)(hd:o.dst=some d)(hlt:Nat.blt d nt=true){i off:Nat}(ha:ag (rg al) a = .one (.ptr i off)){vs:List XC}{e:TypeId}{opn ro:Bool}(hi:hs[i]? = some (.cells vs e opn ro))(hle:off+s<=vs.length){cs:List XC}(hc:(vs.drop off).take s=cs)
 (hk:SK P ops nt L l ((d,.agg cs)::al) hs fun bs=>K (⟨false,some i,[]⟩::bs)):SK P ops nt L (o::l) al hs K:=
 SK.lift hd hlt (fun _=>aH.load (x := .agg cs) hw ho ha hi (by simp only[dN,ht.out,hs'.out,if_pos hle,hc])) hk
theorem Fl{t:TypeId}{zs:List XC}(ho:o.op = .alloc t)[hz:aX P t zs](hw:av ops (rg al) o=some true)(hd:o.dst=some d)(hlt:Nat.blt d nt=true){n:Nat}(hn:hs.length=n)(hb:Nat.blt n Mem.bound=true){hs':ai}(hh:hs++[.cells zs t false false]=hs')
 (hk:SK P ops nt L l ((d,.one (.ptr n 0))::al) hs' fun bs=>K (⟨true,.none,[n]⟩::bs)):SK P ops nt L (o::l) al hs K:=by
 subst hn hh
 exact SK.lift hd hlt (fun _=>aH.alloc hw ho hz.out hb) hk
theorem JO{t:TypeId}{y:Operand}(ho:o.op = .box t y)(hw:av ops (rg al) o=some true)(hd:o.dst=some d)(hlt:Nat.blt d nt=true){cs:List XC}(hy:cu (ag (rg al) y)=some cs){n:Nat}(hn:hs.length=n)(hb:Nat.blt n Mem.bound=true){hs':ai}(hh:hs++[.cells cs t false false]=hs')
 (hk:SK P ops nt L l ((d,.one (.ptr n 0))::al) hs' fun bs=>K (⟨true,.none,[n]⟩::bs)):SK P ops nt L (o::l) al hs K:=by
 subst hn hh
 exact SK.lift hd hlt (fun _=>aH.box hw ho hy hb) hk
theorem jk{t:TypeId}{a y:Operand}(ho:o.op = .store t a y)[ht:aO P t 1](hw:av ops (rg al) o=some true)(hd:o.dst = .none){i off:Nat}(ha:ag (rg al) a = .one (.ptr i off)){c:XC}(hy:cu (ag (rg al) y)=some [c]){vs:List XC}{e:TypeId}{opn:Bool}(hi:hs[i]? = some (.cells vs e opn false))(hle:off<vs.length)
 {vs':List XC}(hv:vs.set off c=vs') {hs':ai}(hh:hs.set i (.cells vs' e opn false)=hs') (hk:SK P ops nt L l al hs' fun bs=>K (⟨true,.none,[i]⟩::bs)):SK P ops nt L (o::l) al hs K:=by
 subst hv hh
 exact SK.Ah hd (fun _=>aH.store hw ho ha hy ht.out hi (by simp only[List.length_cons,List.length_nil];omega) (CJ hle)) hk
theorem CC{t:TypeId}{a y:Operand}{s:Nat}(ho:o.op = .store t a y)[ht:aO P t s](hw:av ops (rg al) o=some true)(hd:o.dst = .none){i:Nat}(ha:ag (rg al) a = .one (.ptr i 0)){cs:List XC}(hy:cu (ag (rg al) y)=some cs){vs:List XC}{e:TypeId}{opn:Bool}(hi:hs[i]? = some (.cells vs e opn false))(hs1:s=cs.length)(hs2:s=vs.length)
 {hs':ai}(hh:hs.set i (.cells cs e opn false)=hs') (hk:SK P ops nt L l al hs' fun bs=>K (⟨true,.none,[i]⟩::bs)):SK P ops nt L (o::l) al hs K:=by
 subst hh
 exact SK.Ah hd (fun _=>aH.store hw ho ha hy (by rw[ht.out,hs1]) hi (by omega) (CI (by omega))) hk
theorem CD{t:TypeId}{a y:Operand}{s:Nat}(ho:o.op = .store t a y)[ht:aO P t s](hw:av ops (rg al) o=some true)(hd:o.dst = .none){i off:Nat}(ha:ag (rg al) a = .one (.ptr i off)){cs:List XC}(hy:cu (ag (rg al) y)=some cs){vs:List XC}{e:TypeId}{opn:Bool}(hi:hs[i]? = some (.cells vs e opn false))(hs1:s=cs.length)(hs2:off+s<=vs.length)
 {vs':List XC}(hv:vs.take off++cs++vs.drop (off+s)=vs') {hs':ai}(hh:hs.set i (.cells vs' e opn false)=hs') (hk:SK P ops nt L l al hs' fun bs=>K (⟨true,.none,[i]⟩::bs)):SK P ops nt L (o::l) al hs K:=by
 subst hh
 exact SK.Ah hd (fun _=>aH.store hw ho ha hy (by rw[ht.out,hs1]) hi (by omega) (by rw[<-hs1];exact hv)) hk
theorem HU(hw:av ops (rg al) o=some false)(hd:o.dst=some d)(hlt:Nat.blt d nt=true)(hk:SK P ops nt L l ((d,.tup [])::al) hs fun bs=>K (quiet::bs)):SK P ops nt L (o::l) al hs K:=
 SK.lift hd hlt (fun _=>aH.skip hw) hk
theorem gG(hw:av ops (rg al) o=some true)(hd:o.dst=some d)(hlt:Nat.blt d nt=true){x:XV}(h:ba P (ag (rg al)) o.op=some x)(hk:SK P ops nt L l ((d,x)::al) hs fun bs=>K (quiet::bs)):SK P ops nt L (o::l) al hs K:=
 SK.lift hd hlt (fun _=>aH.pure hw h) hk
theorem aS(hc:af L)(h:K [] al hs):SK P ops nt L [] al hs K:=SK.nil hc h
theorem XC.eA:∀c:XC,c.ax id=c:=by
 intro c
 induction c with
 | bind g c ih1 ih2=>simp only[XC.ax,ih1,ih2]
 | _=>rfl
theorem X1.eA(x:X1):x.ax id=x:=by
 cases x with
 | one c=>simp only[X1.ax,XC.eA]
 | agg cs=>simp only[X1.ax];rw[show(fun c:XC=>c.ax id)=id from funext XC.eA,List.map_id]
theorem ah.eA(x:ah):x.ax id=x:=by
 cases x with
 | dead=>rfl
 | cells vs e a b=>simp only[ah.ax];rw[show(fun c:XC=>c.ax id)=id from funext XC.eA,List.map_id]
 | map es=>simp only[ah.ax,X1.eA];simp
theorem XV.eA(x:XV):x.ax id=x:=by
 cases x with
 | undef=>rfl
 | one c=>simp only[XV.ax,XC.eA]
 | agg cs=>simp only[XV.ax];rw[show(fun c:XC=>c.ax id)=id from funext XC.eA,List.map_id]
 | tup xs=>simp only[XV.ax];rw[show(fun c:X1=>c.ax id)=id from funext X1.eA,List.map_id]
section
variable {K:cR}
theorem WX.KZ{c:Operand}{x y:Code}(hc:ag (rg al) c = .one (.bool true))(h:WX P nt nI (.code x) al hs K):WX P nt nI (.code (.cond c x y)) al hs K:=
 WX.cond hc (fun _=>h) (fun h=>by cases h)
theorem WX.KY{c:Operand}{x y:Code}(hc:ag (rg al) c = .one (.bool false))(h:WX P nt nI (.code y) al hs K):WX P nt nI (.code (.cond c x y)) al hs K:=
 WX.cond hc (fun h=>by cases h) (fun _=>h)
theorem Af{fn:Func}{n:Nat}{e:XE}{v1 v:XV}{hs':ai}(τ : Nat->Nat)(he:e = .normal\/e = .ret)(hr:qc P fn al hs v1)(hv:v1=v.ax τ)(hok:v.bl hs'.length)(hview:View τ hs hs')(hid:∀j,j<n -> τ j=j):aD P fn n v hs' e al hs:=
 ⟨he,v1,τ,hr,hv,hok,hview,hid⟩
theorem kj{fn:Func}{e:XE}{v1 v:XV}(he:e = .normal\/e = .ret)(hr:qc P fn al hs v1)(hv:v1=v)(hs':v.shut=true):aD P fn 0 v [] e al hs:=
 ⟨he,v1,id,hr,by rw[XV.cV hs'];exact hv,XV.dS hs' _,si _ _,fun _ h=>absurd h (Nat.not_lt_zero _)⟩
theorem bD{fn:Func}{e:XE}{v1 v:XV}{hs0 junk:ai}(he:e = .normal\/e = .ret)(hr:qc P fn al hs v1)(hv:v1=v)(hs':v.bl hs0.length)(hh:hs=hs0++junk)(hok:∀o∈hs0,o.bl hs0.length){n:Nat}:aD P fn n v hs0 e al hs:=by
 subst hh
 refine⟨he,v1,id,hr,by rw[XV.eA];exact hv,hs',⟨fun j hj=>by simp;omega,fun _ _ _ _ _ _ _ _ h=>h,fun j o h=>hok o (List.mem_of_getElem? h),fun j o h => .inr ?_⟩,fun _ _=>rfl⟩
 have hj:j<hs0.length:=(List.getElem?_eq_some_iff.1 h).1
 show(hs0++junk)[j]? = _
 rw[ah.eA,List.getElem?_append_left hj]
 exact h
end
end Go.Xm
namespace Go.Xm
variable [aw]
variable {P:Program} {ops:Array Oper} {nt nI:Nat} {al:bc} {hs:ai} {o:Oper} {l:List Oper} {L:List aC} {K:List Ab->bc->ai->Prop} {d:Nat}
section
variable {α γ : Type} [DecidableEq α]
def jw(kc : α->X1)(vc : γ->X1)(M:List (α×γ)):List (X1×X1):=M.map fun p=>(kc p.1,vc p.2)
def fW(k : α):List (α×γ)->Option (Nat×γ)
 | [] => .none
 | p::M=>if k=p.1 then some (0,p.2)else(fW k M).map fun q=>(q.1+1,q.2)
def eF(M:List (α×γ))(k : α):Option γ:=(fW k M).map (·.2)
def sX(M:List (α×γ))(k : α)(v : γ):List (α×γ):=match fW k M with
 | some (j,_)=>M.set j (k,v)
 | .none=>M++[(k,v)]
theorem BU(k : α):eF ([]:List (α×γ)) k = .none:=rfl
theorem lh(p : α×γ)(M:List (α×γ))(k : α):eF (p::M) k=if k=p.1 then some p.2 else eF M k:=by
 by_cases h:k=p.1
 ·simp[eF,fW,h]
 ·simp[eF,fW,h,Function.comp_def]
theorem rI{k : α}:∀{M:List (α×γ)} {j:Nat} {v : γ},fW k M=some (j,v)->M[j]? = some (k,v)
 | [],j,v,h=>by cases h
 | p :: M,j,v,h=>by
   unfold fW at h
   by_cases hk:k=p.1
   ·rw[if_pos hk]at h
    cases h
    simp[hk]
   ·rw[if_neg hk]at h
    obtain⟨q,h1,h2⟩:=Option.map_eq_some_iff.1 h
    cases h2
    simpa using rI (M:=M) (j:=q.1) (v:=q.2) h1
theorem pN{k : α}:∀{M:List (α×γ)},fW k M = .none->∀p∈M,p.1≠k
 | [],_,p,hp=>by cases hp
 | q :: M,h,p,hp=>by
   unfold fW at h
   by_cases hk:k=q.1
   ·rw[if_pos hk]at h;cases h
   ·rw[if_neg hk]at h
    rcases List.mem_cons.1 hp with rfl|hp
    ·exact fun e=>hk e.symm
    ·exact pN (by simpa using h) p hp
theorem ku(k : α)(v : γ)(k' : α):∀{M:List (α×γ)},(∀p∈M,p.1≠k)->eF (M++[(k,v)]) k'=if k'=k then some v else eF M k'
 | [],_=>by simp[lh,BU]
 | p::M,h=>by
   have ih:=ku k v k' (M:=M) fun q hq=>h q (List.mem_cons_of_mem _ hq)
   simp only[List.cons_append,lh,ih]
   have hp:=h p (List.mem_cons_self ..)
   by_cases h1:k'=p.1
   ·rw[if_pos h1,if_neg (fun e=>hp (by rw[<-h1,e])),if_pos h1]
   ·rw[if_neg h1,if_neg h1]
theorem tB(k : α)(v : γ)(k' : α):∀{M:List (α×γ)} {j:Nat} {u : γ},fW k M=some (j,u)->eF (M.set j (k,v)) k'=if k'=k then some v else eF M k'
 | [],j,u,h=>by cases h
 | p :: M,j,u,h=>by
   unfold fW at h
   by_cases hk:k=p.1
   ·rw[if_pos hk]at h
    cases h
    simp only[List.set_cons_zero,lh]
    by_cases h1:k'=k
    ·simp[h1]
    ·simp only[show p.1=k from hk.symm,h1,if_false]
   ·rw[if_neg hk]at h
    obtain⟨q,h1,h2⟩:=Option.map_eq_some_iff.1 h
    cases h2
    simp only[List.set_cons_succ,lh,tB k v k' (M:=M) (j:=q.1) (u:=q.2) h1]
    by_cases h1:k'=p.1
    ·rw[if_pos h1,if_neg (fun e=>hk (by rw[<-h1,e])),if_pos h1]
    ·rw[if_neg h1,if_neg h1]
theorem tA(M:List (α×γ))(k : α)(v : γ)(k' : α):eF (sX M k v) k'=if k'=k then some v else eF M k':=by
 unfold sX
 split
 ·rename_i j u h;exact tB k v k' h
 ·rename_i h;exact ku k v k' (pN h)
theorem vX(kc : α->X1)(vc : γ->X1)(M:List (α×γ))(p : α×γ):jw kc vc (M++[p])=jw kc vc M++[(kc p.1,vc p.2)]:=by simp[jw]
theorem D1(kc : α->X1)(vc : γ->X1)(M:List (α×γ))(j:Nat)(p : α×γ):jw kc vc (M.set j p)=(jw kc vc M).set j (kc p.1,vc p.2):=by simp[jw,List.map_set]
structure qT(P:Program)(kt:TypeId)(kc : α->X1):Prop where
 und:∃ds,P.underlying kt=some ds
 eq:∀a b,du P 40 kt (kc a) (kc b)=some (decide (a=b))
 check:∀a,f_ P 40 kt (kc a)=true
 plain:∀a,qO (kc a)=true
theorem nR{kt:TypeId}{kc : α->X1}(hk:qT P kt kc)(vc : γ->X1)(k : α):∀(M:List (α×γ)) (i:Nat),jq P kt (kc k) (jw kc vc M) i=some ((fW k M).map fun q=>(i+q.1,vc q.2))
 | [],i=>rfl
 | p :: M,i=>by
   have ih:=nR hk vc k M (i+1)
   show(match du P 40 kt (kc k) (kc p.1)with
    | some true=>some (some (i,vc p.2))
    | some false=>jq P kt (kc k) (jw kc vc M) (i+1)
    | .none => .none)=_
   rw[hk.eq]
   unfold fW
   by_cases h:k=p.1
   ·simp[h]
   ·simp only[h,decide_false,ih,if_false,Option.map_map]
    congr 2
    funext q
    simp only[Function.comp]
    congr 1
    omega
theorem aH.lookup{O:cJ}(hw:av ops (rg al) o=some true){t:TypeId}{x ix:Operand}{ok:Bool}(ho:o.op = .lookup t x ix ok){kt et:TypeId}(hu:P.underlying t=some (.map kt et)){i:Nat}(hx:ag (rg al) x = .one (.map i)){key:X1}(hk:nP (ag (rg al) ix)=some key)
 {es:List (X1×X1)}(hi:hs[i]? = some (.map es)) {v:XV}(hv:lE P kt et key ok es=some v):aH O P ops al hs o v hs ⟨false,some i,[]⟩:=by
 intro m hm
 refine⟨m,?_,hm,fun _ _=>rfl⟩
 unfold iP
 rw[hw]
 obtain⟨f,hf1,hf2⟩:∃f,fb P (ag (rg al)) o.op=some (i,f)/\∀es',f (.map es')=lE P kt et key ok es':=by
  rw[ho]
  simp only[fb,hu,hx,hk]
  exact⟨_,rfl,fun _=>rfl⟩
 refine tR (by rw[ho];rfl) (by rw[ho];rfl) hf1 ?_
 rw[hm.at hi,hf2,hv]
theorem zw{kt et:TypeId}{kc : α->X1}(hk:qT P kt kc){vc : γ->X1}{z : γ}(hz:mq P et=some (vc z))(k : α)(M:List (α×γ)) :
 lE P kt et (kc k) true (jw kc vc M)=some (.tup [vc ((eF M k).getD z),.one (.bool (eF M k).isSome)]):=by
 obtain⟨ds,hu⟩:=hk.und
 unfold lE
 rw[if_pos (hk.check k),hu,nR hk]
 unfold eF
 cases h:fW k M with
 | none=>simp[hz]
 | some q=>simp
theorem AE{t:TypeId}{x ix:Operand}(ho:o.op = .lookup t x ix true){kt et:TypeId}[hu:aZ P t (.map kt et)](hw:av ops (rg al) o=some true)(hd:o.dst=some d)(hlt:Nat.blt d nt=true){kc : α->X1}(hko:qT P kt kc){vc : γ->X1}{z : γ}(hz:mq P et=some (vc z)){i:Nat}(hx:ag (rg al) x = .one (.map i)){k : α}(hk:nP (ag (rg al) ix)=some (kc k))
 {M:List (α×γ)}(hi:hs[i]? = some (.map (jw kc vc M))) (hn:SK P ops nt L l ((d,.tup [vc ((eF M k).getD z),.one (.bool (eF M k).isSome)])::al) hs fun bs=>K (⟨false,some i,[]⟩::bs)):SK P ops nt L (o::l) al hs K:=
 SK.lift hd hlt (fun _=>aH.lookup hw ho hu.out hx hk hi (zw hko hz k M)) hn
theorem aH.Ll{O:cJ}(hw:av ops (rg al) o=some true){t:TypeId}{x ix y:Operand}(ho:o.op = .mapUpdate t x ix y){kt et:TypeId}(hu:P.underlying t=some (.map kt et)){kc : α->X1}(hko:qT P kt kc){vc : γ->X1}{i:Nat}(hx:ag (rg al) x = .one (.map i)){k : α}(hk:nP (ag (rg al) ix)=some (kc k)){v : γ}(hv:nP (ag (rg al) y)=some (vc v))
 {M:List (α×γ)}(hi:hs[i]? = some (.map (jw kc vc M))):aH O P ops al hs o (.tup []) (hs.set i (.map (jw kc vc (sX M k v)))) ⟨true,.none,[i]⟩:=by
 intro m hm
 refine⟨m.put i (.map (jw kc vc (sX M k v))),?_,hm.put hi _,uN⟩
 unfold iP
 rw[hw]
 refine cj (by rw[ho];rfl) (by rw[ho];rfl) (by rw[ho];rfl) ?_
 rw[ho]
 obtain⟨ds,hd⟩:=hko.und
 simp only[bV,fY,hu,hx,hk,hv,hm.at hi,hko.check k,if_true,hd,nR hko]
 unfold sX
 cases hl:fW k M with
 | none=>simp[vX]
 | some q=>
   have hg:=rI (j:=q.1) (v:=q.2) hl
   have e:(jw kc vc M)[q.1]? = some (kc k,vc q.2):=by simp[jw,hg]
   simp only[Option.map_some,Nat.zero_add,e,hko.plain k,and_self,if_true,D1]
theorem w9{t:TypeId}{x ix y:Operand}(ho:o.op = .mapUpdate t x ix y){kt et:TypeId}[hu:aZ P t (.map kt et)](hw:av ops (rg al) o=some true)(hd:o.dst = .none){kc : α->X1}(hko:qT P kt kc){vc : γ->X1}{i:Nat}(hx:ag (rg al) x = .one (.map i)){k : α}(hk:nP (ag (rg al) ix)=some (kc k)){v : γ}(hv:nP (ag (rg al) y)=some (vc v))
 {M:List (α×γ)}(hi:hs[i]? = some (.map (jw kc vc M))) {hs':ai}(hh:hs.set i (.map (jw kc vc (sX M k v)))=hs') (hn:SK P ops nt L l al hs' fun bs=>K (⟨true,.none,[i]⟩::bs)):SK P ops nt L (o::l) al hs K:=by
 subst hh
 exact SK.Ah hd (fun _=>aH.Ll hw ho hu.out hko hx hk hv hi) hn
end
theorem aH.makeMap{O:cJ}(hw:av ops (rg al) o=some true){t:TypeId}(ho:o.op = .makeMap t .none)(hb:Nat.blt hs.length Mem.bound=true):aH O P ops al hs o (.one (.map hs.length)) (hs++[.map []]) ⟨true,.none,[hs.length]⟩:=by
 intro m hm
 obtain⟨m',h1,h2,h3⟩:=hm.push (.map []) (by simpa [Nat.blt_eq]using hb)
 refine⟨m',?_,h2,h3⟩
 unfold iP
 rw[hw]
 refine cj (by rw[ho];rfl) (by rw[ho];rfl) (by rw[ho];rfl) ?_
 rw[ho]
 simp only[bV,kE,h1,hm.n]
theorem y9{t:TypeId}(ho:o.op = .makeMap t .none)(hw:av ops (rg al) o=some true)(hd:o.dst=some d)(hlt:Nat.blt d nt=true){n:Nat}(hn:hs.length=n)(hb:Nat.blt n Mem.bound=true){hs':ai}(hh:hs++[.map []]=hs')
 (hk:SK P ops nt L l ((d,.one (.map n))::al) hs' fun bs=>K (⟨true,.none,[n]⟩::bs)):SK P ops nt L (o::l) al hs K:=by
 subst hn hh
 exact SK.lift hd hlt (fun _=>aH.makeMap hw ho hb) hk
theorem Jk{kt:TypeId}{k:IntKind}[hu:aZ P kt (.int k)]:qT P kt (fun z:Int => .one (.int k z)):=by
 refine⟨⟨_,hu.out⟩,fun a b=>?_,fun a=>?_,fun a=>rfl⟩
 ·simp only[du,hu.out,zq,if_true]
  congr 1
 ·simp only[f_,hu.out]
def iq:List (Nat×XV)->Option (List XC)
 | []=>some []
 | p::r=>match cu p.2,iq r with
   | some cs,some ds=>some (cs++ds)
   | _,_ => .none
def l0(place:Nat->Option (Nat×Nat))(total:Nat):Nat->List (Nat×XV)->Bool
 | off,[]=>off==total
 | off,p::r=>match place p.1,cu p.2 with
   | some (a,s),some cs=>a==off&&s==cs.length&&l0 place total (off+s) r
   | _,_=>false
theorem pB{place:Nat->Option (Nat×Nat)}:∀(parts:List (Nat×XV)) (zs:List XC) (off:Nat) (out:List XC),l0 place zs.length off parts=true->iq parts=some out->fL place zs parts=some (zs.take off++out)
 | [],zs,off,out,h,hc=>by
   simp only[l0,beq_iff_eq]at h
   simp only[iq,Option.some.injEq]at hc
   subst hc
   simp[fL,h]
 | p :: r, zs,off,out,h,hc=>by
   obtain⟨i,v⟩:=p
   unfold l0 at h
   simp only at h
   split at h
   ·rename_i a s cs h1 h2
    simp only[Bool.and_eq_true,beq_iff_eq]at h
    obtain⟨⟨rfl,rfl⟩,h3⟩:=h
    unfold iq at hc
    simp only[h2]at hc
    split at hc
    ·rename_i cs' ds hcs hr
     cases hcs
     cases hc
     have hle:∀(r:List (Nat×XV)) (off:Nat),l0 place zs.length off r=true->off<=zs.length:=by
      intro r
      induction r with
      | nil=>intro off h;simp only[l0,beq_iff_eq]at h;omega
      | cons q r ih=>
        intro off h
        unfold l0 at h
        split at h
        ·simp only[Bool.and_eq_true]at h
         have:=ih _ h.2
         omega
        ·cases h
     have hl:=hle r _ h3
     unfold fL
     simp only[h1,h2]
     rw[if_pos ⟨trivial,hl⟩]
     have hlen:(zs.take a++cs++zs.drop (a+cs.length)).length=zs.length:=by simp;omega
     rw[pB r _ (a+cs.length) ds (by rw[hlen];exact h3) hr]
     have e:(zs.take a++cs++zs.drop (a+cs.length)).take (a+cs.length)=zs.take a++cs:=by
      rw[List.take_append_of_le_length (by simp;omega),List.take_of_length_le (by simp;omega)]
     rw[e,List.append_assoc]
    ·cases hc
   ·cases h
theorem Cx{t:TypeId}{parts:Array (Nat×Operand)}(ho:o.op = .build t parts){zs:List XC}[hz:aX P t zs]{n:Nat}{e:TypeId}[hu:aZ P t (.array n e)]{s:Nat}[hs':aO P e s](hw:av ops (rg al) o=some true)(hd:o.dst=some d)(hlt:Nat.blt d nt=true)
 (hr:l0 (fun i=>some (i*s,s)) zs.length 0 (parts.toList.map fun p=>(p.1,ag (rg al) p.2))=true) {out:List XC}(hc:iq (parts.toList.map fun p=>(p.1,ag (rg al) p.2))=some out) {out':List XC}(hn:out=out')
 (hk:SK P ops nt L l ((d,.agg out')::al) hs fun bs=>K (quiet::bs)):SK P ops nt L (o::l) al hs K:=by
 subst hn
 exact SK.lift hd hlt (fun _=>aH.pure hw (by rw[ho];simp only[ba,mg,hz.out,hu.out,hs'.out,pB _ zs 0 out hr hc,Option.map_some,List.take_zero,List.nil_append])) hk
theorem Cz{t:TypeId}{parts:Array (Nat×Operand)}(ho:o.op = .build t parts){zs:List XC}[hz:aX P t zs]{pl:List (Nat×Nat)}[hp:cn P t pl](hw:av ops (rg al) o=some true)(hd:o.dst=some d)(hlt:Nat.blt d nt=true)
 (hr:l0 (fun i=>pl[i]?) zs.length 0 (parts.toList.map fun p=>(p.1,ag (rg al) p.2))=true) {out:List XC}(hc:iq (parts.toList.map fun p=>(p.1,ag (rg al) p.2))=some out) {out':List XC}(hn:out=out')
 (hk:SK P ops nt L l ((d,.agg out')::al) hs fun bs=>K (quiet::bs)):SK P ops nt L (o::l) al hs K:=by
 subst hn
 obtain⟨fs,h1,h2⟩:=hp.out
 exact SK.lift hd hlt (fun _=>aH.pure hw (by rw[ho];simp only[ba,mg,hz.out,h1,h2,pB _ zs 0 out hr hc,Option.map_some,List.take_zero,List.nil_append])) hk
theorem Cw{t:TypeId}(ho:o.op = .build t #[]){zs:List XC}[hz:aX P t zs]{pl:List (Nat×Nat)}[hp:cn P t pl](hw:av ops (rg al) o=some true)(hd:o.dst=some d)(hlt:Nat.blt d nt=true)
 (hk:SK P ops nt L l ((d,.agg zs)::al) hs fun bs=>K (quiet::bs)):SK P ops nt L (o::l) al hs K:=by
 obtain⟨fs,h1,h2⟩:=hp.out
 exact SK.lift hd hlt (fun _=>aH.pure hw (by rw[ho];simp only[ba,mg,hz.out,h1,h2,List.map_nil,fL,Option.map_some])) hk
theorem y6{t:TypeId}(ho:o.op = .build t #[]){zs:List XC}[hz:aX P t zs]{n:Nat}{e:TypeId}[hu:aZ P t (.array n e)]{s:Nat}[hs':aO P e s](hw:av ops (rg al) o=some true)(hd:o.dst=some d)(hlt:Nat.blt d nt=true)
 (hk:SK P ops nt L l ((d,.agg zs)::al) hs fun bs=>K (quiet::bs)):SK P ops nt L (o::l) al hs K:=
 SK.lift hd hlt (fun _=>aH.pure hw (by rw[ho];simp only[ba,mg,hz.out,hu.out,hs'.out,List.map_nil,fL,Option.map_some])) hk
inductive ez(P:Program)(al:bc)(hs:ai):List ResultVar->List X1->Prop where
 | nil:ez P al hs [] []
 | tmp {t:Nat} {x:X1} {l:List ResultVar} {xs:List X1}:nP (rg al t)=some x->ez P al hs l xs->ez P al hs (.tmp t::l) (x::xs)
 | cell {a i off:Nat} {t:TypeId} {vs:List XC} {e:TypeId} {opn ro:Bool} {x:X1} {l:List ResultVar} {xs:List X1}:rg al a = .one (.ptr i off)->hs[i]? = some (.cells vs e opn ro)->dN P t vs off=some x->ez P al hs l xs->ez P al hs (.cell a t::l) (x::xs)
theorem ez.run{l:List ResultVar}{xs:List X1}(h:ez P al hs l xs){m:Mem}(hm:bj m hs):fc P (rg al) m l=some xs:=by
 induction h with
 | nil=>rfl
 | tmp h1 _ ih=>simp only[fc,sB,h1,ih]
 | cell h1 h2 h3 _ ih=>simp only[fc,sB,h1,hm.at h2,h3,ih]
theorem ez.one{fn:Func}{l:List ResultVar}{x:X1}(hl:fn.results.toList=l)(h:ez P al hs l [x]):qc P fn al hs x.pw:=fun m hm=>by
 unfold cY;rw[hl,h.run hm]
theorem ez.two{fn:Func}{l:List ResultVar}{x y:X1}{r:List X1}(hl:fn.results.toList=l)(h:ez P al hs l (x::y::r)):qc P fn al hs (.tup (x::y::r)):=fun m hm=>by
 unfold cY;rw[hl,h.run hm]
theorem ez.zero{fn:Func}{l:List ResultVar}(hl:fn.results.toList=l)(h:ez P al hs l []):qc P fn al hs (.tup []):=fun m hm=>by
 unfold cY;rw[hl,h.run hm]
theorem bq{t:TypeId}{s:Nat}[ht:c9 P t][hs':aO P t s]{vs:List XC}(h:s=vs.length):dN P t vs 0=some (.agg vs):=wz ht.out (by rw[hs'.out,h])
def nth(l:List Nat)(j:Nat):Nat:=l.getD j 0
theorem IH{HS hs:ai}(l:List Nat)(hlen:hs.length=l.length)(hd:l.Nodup)(hok:∀o∈hs,o.bl hs.length)(h:∀(j:Nat) (o:ah),hs[j]? = some o->HS[nth l j]? = some (o.ax (nth l))):View (nth l) HS hs:=by
 refine⟨fun j hj=>?_,fun a b _ _ ha hb _ _ hab=>?_,fun j o hj=>hok o (List.mem_of_getElem? hj),fun j o hj => .inr (h j o hj)⟩
 ·have:=h j _ (List.getElem?_eq_getElem hj)
  exact(List.getElem?_eq_some_iff.1 this).1
 ·have ha:=(List.getElem?_eq_some_iff.1 ha).1
  have hb:=(List.getElem?_eq_some_iff.1 hb).1
  unfold nth at hab
  have ha':a<l.length:=by omega
  have hb':b<l.length:=by omega
  rw[List.getD_eq_getElem?_getD,List.getD_eq_getElem?_getD,List.getElem?_eq_getElem ha',List.getElem?_eq_getElem hb']at hab
  exact(List.getElem_inj hd).1 hab
end Go.Xm
namespace Go.Xm
open Go.RowKit (Below)
variable [aw]
variable {P:Program} {ops:Array Oper} {nt nI:Nat} {al:bc} {hs:ai} {o:Oper} {l:List Oper} {L:List aC} {K:List Ab->bc->ai->Prop} {d:Nat}
def IN(c:XC)(i n:Nat):Prop:=(c = .nils/\n=0)\/∃cap,c = .slice i 0 n (.exact cap)
theorem Ad{α : Type}(f : α->List XC)(s:Nat):∀(l:List α),(∀a∈l,(f a).length=s)->∀(i:Nat) (a : α),l[i]? = some a->i*s+s<=(l.flatMap f).length/\((l.flatMap f).drop (i*s)).take s=f a
 | [],_,i,a,h=>by simp at h
 | x::l,hl,0,a,h=>by
   simp at h;subst h
   have:=hl x (List.mem_cons_self ..)
   simp only[List.flatMap_cons,List.length_append,Nat.zero_mul,List.drop_zero]
   exact⟨by omega,by rw[<-this,List.take_left'];rfl⟩
 | x::l,hl,i+1,a,h=>by
   have hx:=hl x (List.mem_cons_self ..)
   obtain⟨h1,h2⟩:=Ad f s l (fun b hb=>hl b (List.mem_cons_of_mem _ hb)) i a (by simpa using h)
   simp only[List.flatMap_cons,List.length_append,Nat.add_mul,Nat.one_mul]
   refine⟨by omega,?_⟩
   rw[show i*s+s=(f x).length+i*s by omega,<-List.drop_drop,List.drop_left]
   exact h2
theorem Jz{al:bc}{n:Nat}(h:∀p∈al,p.2.bl n)(t:Nat):(rg al t).bl n:=by
 induction al with
 | nil=>trivial
 | cons p al ih=>
   obtain⟨d,v⟩:=p
   unfold rg
   split
   ·exact h _ (List.mem_cons_self ..)
   ·exact ih fun q hq=>h q (List.mem_cons_of_mem _ hq)
theorem WX.drop{c:s_}{al al2:bc}{hs hs2 junk:ai}{K:cR}(hl:vA al2 al)(hh:hs=hs2++junk)(hle:nI<=hs2.length)(hb:Nat.blt hs2.length Mem.bound=true)(hok:∀o∈hs2,o.bl hs2.length)(hr:∀p∈al2,p.2.bl hs2.length)
 (h:WX P nt nI c al2 hs2 K):WX P nt nI c al hs K:=by
 subst hh
 refine WX.view id ⟨fun j hj=>by simp;omega,fun _ _ _ _ _ _ _ _ h=>h,fun j o h=>hok o (List.mem_of_getElem? h),fun j o h => .inr ?_⟩ (fun _ _=>rfl) hle hb (Jz hr) (fun t=>?_) h
 ·have hj:j<hs2.length:=(List.getElem?_eq_some_iff.1 h).1
  show(hs2++junk)[j]? = _
  rw[ah.eA,List.getElem?_append_left hj]
  exact h
 ·rcases hl t with e|e
  ·exact .inl e
  ·exact .inr (by rw[XV.eA,e])
section
variable {K:cR}
end
theorem kU{f:FuncId}{args:List XV}{v:XV}(h:MZ P f args v):aW P f args [] v []:=
 fun m hm β w vs hall hw=>(h m β w vs hall hw).mono fun e w' ⟨u,β',he,hu,hst⟩=>⟨u,β',m,he,hm,hu,hst⟩
def nG(m:Mem):ai:=(List.range m.n).map m.get
theorem yh{O:cJ}(hO:aP P O)(hP:P.follows .mixedOrders=true){F k:Nat}{f:FuncId}{args:List XV}{v:XV}{hs':ai}(h:((nr O P F k).call f args Mem.empty).map (fun p=>(p.1,nG p.2))=some (v,hs')):aW P f args [] v hs':=by
 obtain⟨⟨v1,m1⟩,h1,h2⟩:=Option.map_eq_some_iff.1 h
 simp only[Prod.mk.injEq]at h2
 obtain⟨rfl,rfl⟩:=h2
 have hs:=p9 hO hP F k
 have hc:=hs.call _ _ _ _ _ h1
 have hg:=hs.Gn _ _ _ _ _ h1
 intro m hm β w vs hall hw
 have hn:m.n=0:=hm.n
 have hfr:Mem.empty.bW:=fun i _=>by
  show(T.get De.none .leaf i).ver=0
  rw[T.dR];rfl
 have hr:Rel β Mem.empty w:=⟨Nat.zero_le _,hfr,fun i hi=>absurd hi (Nat.not_lt_zero _),fun i j hi=>absurd hi (Nat.not_lt_zero _)⟩
 have ni:∀m0:Mem,m0.n=0->∀k,¬Gl β m0 k:=fun m0 h0 k ⟨i,hi,_⟩=>by omega
 refine(hc β w vs (by rw[hn]at hall;exact hall) hr).mono fun e w' ⟨u,β',he,hu,hst⟩=>⟨u,β',m1,he,?_,hu,?_⟩
 ·exact⟨by simp[nG],hst.rel.bnd,(hg.mono hfr).2,fun i hi=>by
   show _=(nG m1).getD i .dead
   simp[nG,List.getD_eq_getElem?_getD,hi]⟩
 ·exact⟨by omega,by rw[hn];exact hst.ext,hst.rel,hst.os,hst.tape,hst.output,hst.size,fun k hk _=>hst.frame k hk (ni _ rfl k),fun k hk hi=>absurd (hst.sU k hk hi) (ni _ rfl k)⟩
theorem Cn{β : Env}{n:Nat}{W:World}{b lo:Nat}{vs:List XC}(hne:0<vs.length)(h:∀(j:Nat) (c:XC),vs[j]? = some c->W.cell? ⟨b,lo+j,none⟩=some (c.den β))(hok:∀c∈vs,c.ok n) :
 ∃e sz,eI β n lo sz (.cells vs e true true) W.heap[b]?:=by
 have hc:∀j,j<vs.length->∃cs e fr,W.heap[b]? = some (.cells cs e fr)/\cs[lo+j]? = some ((vs.getD j .nili).den β):=fun j hj=>by
  have h1:=h j vs[j] (List.getElem?_eq_getElem hj)
  have e1:vs.getD j .nili=vs[j]:=by simp[List.getD_eq_getElem?_getD,hj]
  unfold World.cell? at h1
  split at h1
  ·rename_i cs e fr hg
   exact⟨cs,e,fr,hg,by rw[e1];simpa using h1⟩
  ·cases h1
 obtain⟨cs,e,fr,hg,h0⟩:=hc 0 hne
 have hall:∀j,j<vs.length->cs[lo+j]? = some ((vs.getD j .nili).den β):=fun j hj=>by
  obtain⟨cs',e',fr',hg',h1⟩:=hc j hj
  rw[hg]at hg'
  cases hg'
  exact h1
 have hl0:lo+0<cs.size:=(Array.getElem?_eq_some_iff.1 h0).1
 have hll:lo+(vs.length-1)<cs.size:=(Array.getElem?_eq_some_iff.1 (hall (vs.length-1) (by omega))).1
 refine⟨e,cs.size-lo,cs,fr,hg,by omega,by simp only[if_true];omega,fun h=>(by cases h),hok,?_⟩
 apply List.ext_getElem?
 intro j
 rw[List.getElem?_take,List.getElem?_drop,List.getElem?_map]
 by_cases hj:j<vs.length
 ·rw[if_pos hj,Array.getElem?_toList,hall j hj,List.getElem?_eq_getElem hj]
  simp[List.getD_eq_getElem?_getD,hj]
 ·rw[if_neg hj,List.getElem?_eq_none (by omega)]
  rfl
theorem Fa{β : Env}{W:World}{hs:ai}(hb:hs.length<Mem.bound)(h:∀(i:Nat) (o:ah),hs[i]? = some o->eI β hs.length (β.base i) (β.size i) o W.heap[β.cx i]?)(hown:∀o∈hs,o.own=false):Rel β (kr hs) W:=by
 have hm:=f7 hs hb
 have hn:=hm.n
 refine⟨hm.bnd,hm.fresh,fun i hi=>?_,fun i j hi hj hoi _ _=>?_⟩
 ·rw[hn]
  exact h i _ (hm.get? hi)
 ·have:=hown _ (List.mem_of_getElem? (hm.get? hi))
  rw[this]at hoi;cases hoi
theorem DP{f:FuncId}{args:List XV}{hs hs':ai}(hc:aW P f args hs (.one (.bool true)) hs'){β : Env}{W:World}(hb:hs.length<Mem.bound)(h:∀(i:Nat) (o:ah),hs[i]? = some o->eI β hs.length (β.base i) (β.size i) o W.heap[β.cx i]?)(hown:∀o∈hs,o.own=false)
 {vs:List Value}(hv:cE (aN β hs.length) args vs):Calls P f vs.toArray W fun e w'=>e = .returned (.bool true)/\Below W.heap.size W w':=by
 have hm:=f7 hs hb
 have hn:=hm.n
 refine(hc _ hm β W vs (by rw[hn];exact hv) (Fa hb h hown)).mono fun e w' ⟨u,β',m',he,_,hu,hst⟩=>?_
 refine⟨?_,hst.os,hst.tape,hst.output,hst.size,fun k hk=>hst.frame k hk fun⟨i,hi,ho,_⟩=>?_⟩
 ·rw[he,hu.2];rfl
 ·have:=hown _ (List.mem_of_getElem? (hm.get? hi))
  rw[this]at ho;cases ho
end Go.Xm
namespace Go.Xm
variable [aw]
variable {P:Program} {ops:Array Oper} {nt nI:Nat} {al:bc} {hs:ai} {o:Oper} {l:List Oper} {L:List aC} {K:List Ab->bc->ai->Prop} {d:Nat}
def il(k:IntKind)(l:List Int):List XC:=l.map (.int k)
theorem d7(k:IntKind)(l:List Int):(il k l).length=l.length:=by simp[il]
theorem Eh{k:IntKind}{l:List Int}{j:Nat}(h:j<l.length):(il k l)[j]? = some (.int k (l.getD j 0)):=by
 simp[il,h,List.getD_eq_getElem?_getD]
theorem Ei(k:IntKind)(l:List Int)(j:Nat)(x:Int):(il k l).set j (.int k x)=il k (l.set j x):=by simp[il,List.map_set]
theorem tt(k:IntKind)(l m:List Int):il k l++il k m=il k (l++m):=by simp[il]
theorem Je(k:IntKind)(l:List Int)(τ : Nat->Nat):(il k l).map (·.ax τ)=il k l:=by simp[il,XC.ax]
theorem Le(k:IntKind)(l:List Int)(n:Nat):∀c∈il k l,c.ok n:=by
 intro c hc
 obtain⟨x,_,rfl⟩:=List.mem_map.1 hc
 trivial
class aR (o:ah):Prop where
 ax:∀τ,o.ax τ = o
 ok:∀n,o.bl n
class bh (v:XV):Prop where
 ax:∀τ,v.ax τ = v
 ok:∀n,v.bl n
instance:aR .dead:=⟨fun _=>rfl,fun _=>trivial⟩
instance {k:IntKind} {l:List Int} {e:TypeId} {a b:Bool}:aR (.cells (il k l) e a b):=⟨fun τ=>by simp only[ah.ax,Je],fun n=>Le k l n⟩
instance {k:IntKind} {n:Nat} {f:Nat->Int} {e:TypeId} {a b:Bool}:aR (.cells (ti k n f) e a b):=⟨fun τ=>by simp[ah.ax,ti,XC.ax],fun n c hc=>by
 obtain⟨x,_,rfl⟩:=List.mem_map.1 hc
 trivial⟩
instance {k:IntKind} {z:Int}:bh (.one (.int k z)):=⟨fun _=>rfl,fun _=>trivial⟩
instance {b:Bool}:bh (.one (.bool b)):=⟨fun _=>rfl,fun _=>trivial⟩
instance {k:IntKind} {n:Nat} {f:Nat->Int}:bh (.agg (ti k n f)):=⟨fun τ=>by simp[XV.ax,ti,XC.ax],fun n c hc=>by
 obtain⟨x,_,rfl⟩:=List.mem_map.1 hc
 trivial⟩
theorem fF{vs:List XC}{e:TypeId}{a b:Bool}(h:vs.all XC.shut=true):aR (.cells vs e a b):=
 ⟨fun τ=>by simp only[ah.ax,eK h],fun n c hc=>XC.bm (List.all_eq_true.1 h c hc) n⟩
theorem ef{v:XV}(h:v.shut=true):bh v:=⟨fun τ=>XV.cV h τ,fun n=>XV.dS h n⟩
def jx(k n sz:Nat):XC:=if n=0 then .nils else .slice k 0 n (.toEnd sz)
def kA(k n sz:Nat):XV := .one (jx k n sz)
def dG(e:TypeId)(cs:List XC):ah:=match cs with
 | [] => .dead
 | c::r => .cells (c::r) e true false
theorem aB(k n sz:Nat)(τ : Nat->Nat):(jx k n sz).ax τ = jx (τ k) n sz:=by unfold jx;split<;>rfl
theorem ic(k n sz:Nat)(τ : Nat->Nat):(kA k n sz).ax τ = kA (τ k) n sz:=congrArg XV.one (aB k n sz τ)
theorem aE{k n sz m:Nat}(h:k<m):(jx k n sz).ok m:=by
 unfold jx
 split
 ·exact trivial
 ·exact h
theorem ma{k n sz m:Nat}(h:k<m):(kA k n sz).bl m:=aE h
theorem MK{a b:X1}{n:Nat}(h:a.ok n)(h':b.ok n):(XV.tup [a,b]).bl n:=fun x hx=>by
 simp only[List.mem_cons,List.not_mem_nil,or_false]at hx
 rcases hx with rfl|rfl
 ·exact h
 ·exact h'
theorem iW{e:TypeId}{cs:List XC}(h:cs≠[]):dG e cs = .cells cs e true false:=by
 cases cs with
 | nil=>exact absurd rfl h
 | cons c r=>rfl
theorem oC{k n sz:Nat}(h:n≠0):kA k n sz = .one (.slice k 0 n (.toEnd sz)):=congrArg XV.one (if_neg h)
theorem xa{e:TypeId}{cs:List XC}(h:cs.all XC.shut=true):aR (dG e cs):=by
 cases cs with
 | nil=>exact⟨fun _=>rfl,fun _=>trivial⟩
 | cons c r=>exact fF h
theorem Hc(k:IntKind)(l:List Int):(il k l).all XC.shut=true:=by
 rw[List.all_eq_true]
 intro c hc
 obtain⟨x,_,rfl⟩:=List.mem_map.1 hc
 rfl
instance {e:TypeId} {k:IntKind} {l:List Int}:aR (dG e (il k l)):=xa (Hc k l)
inductive fj:List Nat->ai->List Nat->Prop where
 | nil:fj [] [] []
 | dead {i:Nat} {l q:List Nat} {hs:ai}:fj l hs q->fj (i::l) (.dead::hs) q
 | cons {i:Nat} {o:ah} {l q:List Nat} {hs:ai}:fj l hs q->fj (i::l) (o::hs) (i::q)
theorem fj.mem{l q:List Nat}{hs:ai}(h:fj l hs q):∀(i:Nat) (o:ah),hs[i]? = some o->o ≠ .dead->nth l i∈q:=by
 induction h with
 | nil=>intro i o h;simp at h
 | dead _ ih=>
   intro i o h ho
   cases i with
   | zero=>simp at h;exact absurd h.symm ho
   | succ i=>exact ih i o (by simpa using h) ho
 | cons _ ih=>
   intro i o h ho
   cases i with
   | zero=>exact List.mem_cons_self ..
   | succ i=>exact List.mem_cons_of_mem _ (ih i o (by simpa using h) ho)
theorem fj.inj{l q:List Nat}{hs:ai}(h:fj l hs q)(nd:q.Nodup):∀(i j:Nat) (a b:ah),hs[i]? = some a->hs[j]? = some b->a ≠ .dead->b ≠ .dead->nth l i=nth l j->i=j:=by
 induction h with
 | nil=>intro i j a b h;simp at h
 | dead _ ih=>
   intro i j a b hi hj ha hb he
   cases i with
   | zero=>simp at hi;exact absurd hi.symm ha
   | succ i=>
     cases j with
     | zero=>simp at hj;exact absurd hj.symm hb
     | succ j=>rw[ih nd i j a b (by simpa using hi) (by simpa using hj) ha hb he]
 | @cons k o l q hs hl ih=>
   intro i j a b hi hj ha hb he
   rw[List.nodup_cons]at nd
   cases i with
   | zero=>
     cases j with
     | zero=>rfl
     | succ j=>
       have:=hl.mem j b (by simpa using hj) hb
       rw[show nth l j=k from he.symm]at this
       exact absurd this nd.1
   | succ i=>
     cases j with
     | zero=>
       have:=hl.mem i a (by simpa using hi) ha
       rw[show nth l i=k from he]at this
       exact absurd this nd.1
     | succ j=>rw[ih nd.2 i j a b (by simpa using hi) (by simpa using hj) ha hb he]
def Nd(l:List Nat)(hs:ai):Prop:=l.Nodup\/∃q,fj l hs q/\q.Nodup
theorem Nd.inj{l:List Nat}{hs:ai}(h:Nd l hs)(hlen:hs.length=l.length):∀(i j:Nat) (a b:ah),hs[i]? = some a->hs[j]? = some b->a ≠ .dead->b ≠ .dead->nth l i=nth l j->i=j:=by
 rcases h with h|⟨q,h,hq⟩
 ·intro i j a b hi hj _ _ hij
  have hi:=(List.getElem?_eq_some_iff.1 hi).1
  have hj:=(List.getElem?_eq_some_iff.1 hj).1
  unfold nth at hij
  have ha':i<l.length:=by omega
  have hb':j<l.length:=by omega
  rw[List.getD_eq_getElem?_getD,List.getD_eq_getElem?_getD,List.getElem?_eq_getElem ha',List.getElem?_eq_getElem hb']at hij
  exact(List.getElem_inj h).1 hij
 ·exact h.inj hq
inductive ae(τ : Nat->Nat)(HS:ai):List Nat->ai->Prop where
 | nil:ae τ HS [] []
 | flat {i:Nat} {o:ah} {l:List Nat} {hs:ai} [aR o]:HS[i]? = some o->ae τ HS l hs->ae τ HS (i::l) (o::hs)
 | cons {i:Nat} {o:ah} {l:List Nat} {hs:ai}:HS[i]? = some (o.ax τ)->ae τ HS l hs->ae τ HS (i::l) (o::hs)
 | dead {i:Nat} {l:List Nat} {hs:ai}:Nat.blt i HS.length=true->ae τ HS l hs->ae τ HS (i::l) (.dead::hs)
theorem ae.at{τ : Nat->Nat}{HS:ai}{l:List Nat}{hs:ai}(h:ae τ HS l hs):hs.length=l.length/\∀(j:Nat) (o:ah),hs[j]? = some o->nth l j<HS.length/\(o = .dead\/HS[nth l j]? = some (o.ax τ)):=by
 induction h with
 | nil=>exact⟨rfl,fun j o h=>by simp at h⟩
 | @flat i o l hs inst h1 _ ih=>
   refine⟨by simp[ih.1],fun j o' hj=>?_⟩
   cases j with
   | zero=>simp at hj;subst hj;exact⟨(List.getElem?_eq_some_iff.1 h1).1,.inr (by rw[inst.ax];exact h1)⟩
   | succ j=>exact ih.2 j o' (by simpa using hj)
 | cons h1 _ ih=>
   refine⟨by simp[ih.1],fun j o' hj=>?_⟩
   cases j with
   | zero=>simp at hj;subst hj;exact⟨(List.getElem?_eq_some_iff.1 h1).1,.inr h1⟩
   | succ j=>exact ih.2 j o' (by simpa using hj)
 | dead h1 _ ih=>
   refine⟨by simp[ih.1],fun j o' hj=>?_⟩
   cases j with
   | zero=>simp at hj;subst hj;exact⟨by show _<_;rw[Nat.blt_eq]at h1;exact h1,.inl rfl⟩
   | succ j=>exact ih.2 j o' (by simpa using hj)
inductive ak(τ : Nat->Nat)(al:bc):bc->Prop where
 | nil:ak τ al []
 | flat {t:Nat} {v:XV} {r:bc} [bh v]:rg al t=v->ak τ al r->ak τ al ((t,v)::r)
 | cons {t:Nat} {v:XV} {r:bc}:rg al t=v.ax τ->ak τ al r->ak τ al ((t,v)::r)
theorem ak.at{τ : Nat->Nat}{al al2:bc}(h:ak τ al al2)(t:Nat):rg al2 t = .undef\/rg al t=(rg al2 t).ax τ:=by
 induction h with
 | nil=>exact .inl rfl
 | @flat u v r inst h1 _ ih=>
   by_cases ht:t=u
   ·subst ht;right;simp only[rg,if_true];rw[inst.ax];exact h1
   ·simp only[rg,ht,if_false];exact ih
 | @cons u v r h1 _ ih=>
   by_cases ht:t=u
   ·subst ht;right;simp only[rg,if_true];exact h1
   ·simp only[rg,ht,if_false];exact ih
inductive ay(n:Nat):ai->Prop where
 | nil:ay n []
 | flat {o:ah} {hs:ai} [aR o]:ay n hs->ay n (o::hs)
 | cons {o:ah} {hs:ai}:o.bl n->ay n hs->ay n (o::hs)
theorem ay.at{n:Nat}{hs:ai}(h:ay n hs):∀o∈hs,o.bl n:=by
 induction h with
 | nil=>intro o h;cases h
 | @flat o hs inst _ ih=>
   intro x hx
   rcases List.mem_cons.1 hx with rfl|hx
   ·exact inst.ok n
   ·exact ih x hx
 | cons h1 _ ih=>
   intro x hx
   rcases List.mem_cons.1 hx with rfl|hx
   ·exact h1
   ·exact ih x hx
inductive lF(n:Nat):bc->Prop where
 | nil:lF n []
 | flat {t:Nat} {v:XV} {r:bc} [bh v]:lF n r->lF n ((t,v)::r)
 | cons {t:Nat} {v:XV} {r:bc}:v.bl n->lF n r->lF n ((t,v)::r)
theorem lF.at{n:Nat}{al:bc}(h:lF n al)(t:Nat):(rg al t).bl n:=by
 induction h with
 | nil=>trivial
 | @flat u v r inst _ ih=>
   unfold rg
   split
   ·exact inst.ok n
   ·exact ih
 | cons h1 _ ih=>
   unfold rg
   split
   ·exact h1
   ·exact ih
structure vE(nI:Nat)(al:bc)(hs:ai):Prop where
 le:Nat.ble nI hs.length=true
 bnd:Nat.blt hs.length Mem.bound=true
 objs:ay hs.length hs
 g_:lF hs.length al
structure GoTo(nI:Nat)(al:bc)(hs:ai)(al2:bc)(hs2:ai)(τl:List Nat):Prop where
 nd:Nd τl hs2
 hid:(List.range nI).all (fun j=>nth τl j==j)=true
 obj:ae (nth τl) hs τl hs2
 reg:ak (nth τl) al al2
theorem WX.via{c:s_}{al2:bc}{hs2:ai}{K:cR}{τl:List Nat}(g:GoTo nI al hs al2 hs2 τl)(hk:vE nI al2 hs2)(h:WX P nt nI c al2 hs2 K):WX P nt nI c al hs K:=by
 obtain⟨hlen,hobj⟩:=g.obj.at
 have hle:nI<=hs2.length:=Nat.le_of_ble_eq_true hk.le
 refine WX.view (nth τl) ⟨fun j hj=>?_,fun i j a b hi hj ha hb hij=>g.nd.inj hlen i j a b hi hj ha hb hij,fun j o hj=>hk.objs.at o (List.mem_of_getElem? hj),fun j o hj=>(hobj j o hj).2⟩ (fun j hj=>?_) hle hk.bnd hk.g_.at g.reg.at h
 ·exact(hobj j _ (List.getElem?_eq_getElem hj)).1
 ·have:=List.all_eq_true.1 g.hid j (List.mem_range.2 hj)
  simpa using this
theorem WX.bZ{σ : Type}{c:Code}{K:cR}(R : σ->bc)(H : σ->ai)(I : σ->Prop)(μ : σ->Nat)(s0 : σ)(h0:I s0)(hok:∀s,I s->vE nI (R s) (H s)){τl:List Nat}(hin:GoTo nI al hs (R s0) (H s0) τl)
 (step:∀s,I s->(∀s' τl al' hs',GoTo nI al' hs' (R s') (H s') τl->I s' -> μ s' < μ s->WX P nt nI (.round c) al' hs' K)->WX P nt nI (.code c) (R s) (H s) (Dh P nt nI c K)):WX P nt nI (.code (.loop c)) al hs K:=by
 refine WX.loop (WX.via hin (hok s0 h0) ?_)
 have:∀n s,μ s<=n->I s->WX P nt nI (.round c) (R s) (H s) K:=by
  intro n
  induction n with
  | zero=>intro s hs hI;exact WX.round (step s hI fun s' τl al' hs' _ _ h=>absurd h (by omega))
  | succ n ih=>intro s hs hI;exact WX.round (step s hI fun s' τl al' hs' g h' hlt=>WX.via g (hok s' h') (ih s' (by omega) h'))
 exact this (μ s0) s0 (Nat.le_refl _) h0
theorem WX.Ds{σ : Type}{c:s_}{K:cR}(R : σ->bc)(H : σ->ai)(I : σ->Prop)(μ : σ->Nat)(s0 : σ)(h0:I s0)(hok:∀s,I s->vE nI (R s) (H s)){τl:List Nat}(hin:GoTo nI al hs (R s0) (H s0) τl)
 (step:∀s,I s->(∀s' τl al' hs',GoTo nI al' hs' (R s') (H s') τl->I s' -> μ s' < μ s->WX P nt nI c al' hs' K)->WX P nt nI c (R s) (H s) K):WX P nt nI c al hs K:=by
 refine WX.via hin (hok s0 h0) ?_
 have:∀n s,μ s<=n->I s->WX P nt nI c (R s) (H s) K:=by
  intro n
  induction n with
  | zero=>intro s hs hI;exact step s hI fun s' τl al' hs' _ _ h=>absurd h (by omega)
  | succ n ih=>intro s hs hI;exact step s hI fun s' τl al' hs' g h' hlt=>WX.via g (hok s' h') (ih s' (by omega) h')
 exact this (μ s0) s0 (Nat.le_refl _) h0
theorem WX.meet{σ : Type}{a b:Code}{K:cR}(R : σ->bc)(H : σ->ai)(I : σ->Prop)(hok:∀s,I s->vE nI (R s) (H s))(h1:WX P nt nI (.code a) al hs fun e al1 hs1=>e = .normal/\∃s τl,I s/\GoTo nI al1 hs1 (R s) (H s) τl)
 (h2:∀s,I s->WX P nt nI (.code b) (R s) (H s) K):WX P nt nI (.code (.seq a b)) al hs K:=
 WX.seq (h1.mono fun e al1 hs1 ⟨he,s,τl,hi,hg⟩=>by
  subst he
  exact WX.via hg (hok s hi) (h2 s hi))
theorem WX.Lm(id:Nat){σ : Type}{ops:Array Oper}{dr:Bool}{b:Code}{K:cR}(R : σ->bc)(H : σ->ai)(I : σ->Prop)(hok:∀s,I s->vE nI (R s) (H s))(h1:WX P nt nI (.code (.region id ops dr)) al hs fun e al1 hs1=>e = .normal/\∃s τl,I s/\GoTo nI al1 hs1 (R s) (H s) τl)
 (h2:∀s,I s->WX P nt nI (.code b) (R s) (H s) K):WX P nt nI (.code (.seq (.region id ops dr) b)) al hs K:=WX.meet R H I hok h1 h2
theorem WX.EF(id:Nat){σ : Type}{ops:Array Oper}{dr:Bool}{x b:Code}{K:cR}(R : σ->bc)(H : σ->ai)(I : σ->Prop)(hok:∀s,I s->vE nI (R s) (H s))(h1:WX P nt nI (.code (.seq (.region id ops dr) x)) al hs fun e al1 hs1=>e = .normal/\∃s τl,I s/\GoTo nI al1 hs1 (R s) (H s) τl)
 (h2:∀s,I s->WX P nt nI (.code b) (R s) (H s) K):WX P nt nI (.code (.seq (.seq (.region id ops dr) x) b)) al hs K:=WX.meet R H I hok h1 h2
theorem WX.Iy(id:Nat){σ : Type}{x b:Code}{K:cR}(R : σ->bc)(H : σ->ai)(I : σ->Prop)(hok:∀s,I s->vE nI (R s) (H s))(h1:WX P nt nI (.code (.block id x)) al hs fun e al1 hs1=>e = .normal/\∃s τl,I s/\GoTo nI al1 hs1 (R s) (H s) τl)
 (h2:∀s,I s->WX P nt nI (.code b) (R s) (H s) K):WX P nt nI (.code (.seq (.block id x) b)) al hs K:=WX.meet R H I hok h1 h2
theorem ae.fu{τ : Nat->Nat}{HS:ai}{i k k' n n' s:Nat}{rest:List XC}{e:TypeId}{a b:Bool}{l:List Nat}{hs:ai}(h:HS[i]? = some (.cells (jx k' n' s::rest) e a b))(hk : τ k=k')(hn:n'=n)(hr:rest.all XC.shut=true)(r:ae τ HS l hs):ae τ HS (i::l) (.cells (jx k n s::rest) e a b::hs):=by
 refine ae.cons ?_ r
 simp only[ah.ax,List.map_cons,aB,hk,<-hn,eK hr]
 exact h
theorem WX.c6{c:s_}{K:cR}(hb:Nat.blt hs.length Mem.bound=true)(h:WX P nt nI c al (hs++[.dead]) K):WX P nt nI c al hs K:=by
 intro βI mI wI hn m hm β w a Q hr hst hq
 obtain⟨m',hp,hh,_⟩:=hm.push .dead (by simpa [Nat.blt_eq]using hb)
 obtain⟨p1,p2,p3,p4⟩:=Mem.br hp
 have hnn:m'.get m.n = .dead:=by unfold Mem.get;rw[p3]
 have hold:∀i,i≠m.n->m'.get i=m.get i:=fun i hi=>by unfold Mem.get;rw[p4 i hi]
 have hb2:=hh.bnd
 have hrel:Rel β m' w:=by
  refine⟨hb2,hh.fresh,fun i hi=>?_,fun i j hi hj li lj hbb=>?_⟩
  ·by_cases e:i=m.n
   ·subst e;rw[hnn];trivial
   ·rw[hold i e]
    exact(hst.rel.obj i (by omega)).ext (fun _ _=>⟨rfl,rfl,rfl⟩) (by omega)
  ·have e1:i≠m.n:=fun e=>by subst e;rw[hnn]at li;cases li
   have e2:j≠m.n:=fun e=>by subst e;rw[hnn]at lj;cases lj
   rw[hold i e1]at li
   rw[hold j e2]at lj
   exact hst.rel.inj i j (by omega) (by omega) li lj hbb
 refine h βI mI wI hn m' hh β w a Q ?_ ?_ hq
 ·exact⟨hr.size,hr.small,fun t ht=>(hr.rel t ht).ext (fun _ _=>⟨rfl,rfl,rfl⟩) (by omega),hr.out⟩
 ·refine⟨by have:=hst.le;omega,hst.ext,hrel,hst.os,hst.tape,hst.output,hst.size,hst.frame,fun k hk hi=>hst.sU k hk ?_⟩
  obtain⟨i,hi,hl,hb⟩:=hi
  have e1:i≠m.n:=fun e=>by subst e;rw[hnn]at hl;cases hl
  exact⟨i,by omega,by rw[hold i e1]at hl;exact hl,hb⟩
end Go.Xm
