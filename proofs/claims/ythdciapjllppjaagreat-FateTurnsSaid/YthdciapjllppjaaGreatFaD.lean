/-
  A part of the proof: XwStep, XwOps, XwCall, XwK, XvBase, XvCall, XvInst, XvRule, XvMore, XvArg, XvFlow.
-/
import Derived.Test.YthdciapjllppjaaGreatFaC
set_option maxRecDepth 10000
set_option maxHeartbeats 8000000
set_option linter.unusedVariables false
set_option linter.unusedSectionVars false
set_option linter.unusedSimpArgs false
namespace Go.Xm
variable [av]
structure Ab where
 eff:Bool
 fp:Option Nat
 ws:List Nat
def w4(d:Option Nat)(x:XV)(al:aL):aL:=
 match d with
 | some d=>(d,x)::al
 | .none=>al
theorem gp.w4{β : Env}{n nt:Nat}{al:aL}{a:Act}(h:gp β n nt (rg al) a.tmps)(d:Option Nat){x:XV}{v:Value}(hv:aM β n x v)(hd:∀t,d=some t->t<nt):gp β n nt (rg (Xm.w4 d x al)) (a.put d v).tmps:=by
 have:=h.put d hv hd
 cases d with
 | none=>exact this
 | some d=>
   have e:(fun t=>if some d=some t then x else rg al t)=rg (Xm.w4 (some d) x al):=by
    funext t
    simp only[Xm.w4,rg,Option.some.injEq,eq_comm (a:=d)]
   rw[e]at this;exact this
def az(O:db)(P:Program)(ops:Array Oper)(al:aL)(hs:ah)(o:Oper)(x:XV)(hs':ah)(b:Ab):Prop:=
 ∀m,aZ m hs->∃m',iT O P ops (rg al) o m=some ⟨x,m',b.eff,b.fp⟩/\aZ m' hs'/\∀j,j∉b.ws->(m'.fP j).ver=(m.fP j).ver
inductive mF(O:db)(P:Program)(ops:Array Oper)(nt:Nat):List Oper->aL->ah->List Ab->aL->ah->Prop where
 | nil {al:aL} {hs:ah}:mF O P ops nt [] al hs [] al hs
 | cons {o:Oper} {l:List Oper} {al al':aL} {hs hs1 hs':ah} {x:XV} {b:Ab} {bs:List Ab}:az O P ops al hs o x hs1 b->(∀d,o.dst=some d->d<nt)->mF O P ops nt l (w4 o.dst x al) hs1 bs al' hs'->mF O P ops nt (o::l) al hs (b::bs) al' hs'
section
variable {O:db} {P:Program} {ops:Array Oper} {nt nI:Nat}
theorem Ha(hO:aQ P O){Q:Exit->Act->World->Prop}{l:List Oper}{al al':aL}{hs hs':ah}{bs:List Ab}(h:mF O P ops nt l al hs bs al' hs'):∀{m:Mem} {β : Env} {w:World} {a:Act},aZ m hs->gp β m.n nt (rg al) a.tmps->Rel β m w ->
 (∀m' a' β' w',aZ m' hs'->gp β' m'.n nt (rg al') a'.tmps->a'.defers=a.defers->Step β m w β' m' w'->Q .normal a' w')->wpList P ops Q l a w:=by
 induction h with
 | nil=>
   intro m β w a hm hr hw hq;exact hq m a β w hm hr rfl (Step.refl hw)
 | cons ho hd _ ih=>
   rename_i o l al al' hs hs1 hs' x b bs _;intro m β w a hm hr hw hq;obtain⟨m1,h1,h2,_⟩:=ho m hm;unfold iT at h1;unfold wpList;split at h1
   ·rename_i hwt;rw[if_pos (fF hwt hr)];refine .inl (sA hO h1 hw (fun x=>hr.eval x) a _ Q rfl fun u β' w' hu hst=>?_);refine ih h2 ((hr.ext hst.ext hst.le).w4 o.dst hu hd) hst.rel fun m' a'' β'' w'' k1 k2 k3 k4=>?_
    exact hq m' a'' β'' w'' k1 k2 (by rw[k3,dJ]) (hst.trans k4)
   ·rename_i hwt;simp only[Option.some.injEq,Out.mk.injEq]at h1;obtain⟨rfl,rfl,_,_⟩:=h1;have:=fF hwt hr;rw[if_neg (by simp[this])];refine ih h2 (hr.w4 o.dst aM.skip hd) hw fun m' a'' β'' w'' k1 k2 k3 k4=>?_
    exact hq m' a'' β'' w'' k1 k2 (by rw[k3,dJ]) k4
   ·cases h1
theorem WX.plain(hO:aQ P O){id:Nat}{al al':aL}{hs hs':ah}{bs:List Ab}{K:ca}(h:mF O P ops nt ops.toList al hs bs al' hs')(hk:K .normal al' hs'):WX P nt nI (.code (.region id ops false)) al hs K:=
 fun _ _ _ _ _ hm _ _ _ _ hr hw hq=>wp_region_list (Ha hO h hm hr hw.rel fun m' a' β' w' k1 k2 k3 k4=>hq .normal al' hs' m' hk k1 a' β' w' k2 k3 (hw.trans k4))
theorem sN(g:Nat->XV)(nt:Nat)(hn:nt<1000000)(ho:∀t,nt<=t->g t = .undef):∃r:T XV,∀t,r.get .undef t=g t:=by
 have : ∀k,k<=nt->∃r:T XV,∀t,r.get .undef t=if t<k then g t else .undef:=by
  intro k
  induction k with
  | zero=>intro _;exact⟨.leaf,fun t=>by simp[T.eL]⟩
  | succ k ih=>
    intro hk;obtain⟨r,hr⟩:=ih (by omega);refine⟨r.set .undef 31 k (g k),fun t=>?_⟩
    by_cases ht:t=k
    ·subst ht;rw[T.fR _ _ _ _ _ (by omega)];simp
    ·rw[T.fg _ _ _ _ _ _ ht,hr t]
     by_cases h1:t<k
     ·rw[if_pos h1,if_pos (by omega)]
     ·rw[if_neg h1,if_neg (by omega)]
 obtain⟨r,hr⟩:=this nt (Nat.le_refl _);refine⟨r,fun t=>?_⟩;rw[hr t];split
 ·rfl
 ·exact(ho t (by omega)).symm
def JW(bs:List Nat)(i:Nat)(di:Ab)(e:Nat)(de:Ab):Bool:=
 !de.eff||i==e||((!(di.eff&&decide (e<i))||bit bs i e)&&
  (match di.fp with
    | .none=>true
    | some fp=>bit bs i e||bit bs e i||!(de.ws.contains fp)))
def xl(bs:List Nat)(tr:List Ab):Bool:=
 (List.range tr.length).all fun i=>match tr[i]? with
   | .none=>true
   | some di=>(!di.eff&&di.fp.isNone)||(List.range tr.length).all fun e=>match tr[e]? with
     | .none=>true
     | some de=>JW bs i di e de
def OJ:List (Mem×Out)->List Ab->Prop:=df fun p b=>p.2.eff=b.eff/\p.2.fp=b.fp/\∀j,j∉b.ws->(p.2.m.fP j).ver=(p.1.fP j).ver
theorem df.get?{α γ : Type}{R : α -> γ->Prop}:∀{l:List α} {k:List γ},df R l k->∀(i:Nat) (a : α),l[i]? = some a->∃b,k[i]? = some b/\R a b
 | _,_,.nil,i,a,h=>by simp at h
 | _,_,.cons h t,0,a,h1=>by simp at h1;subst h1;exact⟨_,rfl,h⟩
 | _,_,.cons h t,i+1,a,h1=>by simp at h1;exact t.get? i a h1
theorem FO{bs:List Nat}{tr:List (Mem×Out)}{ab:List Ab}(ht:OJ tr ab)(h:xl bs ab=true):jh bs tr=true:=by
 have hl:tr.length=ab.length:=df.length ht;unfold xl at h;unfold jh;rw[List.all_eq_true]at h ⊢;intro i hi;have hi':=h i (by rw[<-hl];exact hi);split
 ·rfl
 ·rename_i mi di hdi;obtain⟨bi,hb,h1,h2,_⟩:=df.get? ht i _ hdi;simp only at h1 h2;rw[hb]at hi';simp only[Bool.or_eq_true]at hi' ⊢;rw[h1,h2]
  rcases hi' with hi'|hi'
  ·exact .inl hi'
  ·refine .inr (List.all_eq_true.2 fun e he=>?_);have he':=List.all_eq_true.1 hi' e (by rw[<-hl];exact he);split
   ·rfl
   ·rename_i me de hde;obtain⟨be,hbe,k1,k2,k3⟩:=df.get? ht e _ hde;simp only at k1 k2 k3;rw[hbe]at he';unfold iC;unfold JW at he';rw[h1,h2,k1];simp only[Bool.or_eq_true,Bool.and_eq_true]at he' ⊢
    rcases he' with he'|⟨ha,hb'⟩
    ·exact .inl he'
    ·refine .inr ⟨ha,?_⟩
     cases hf:bi.fp with
     | none=>rfl
     | some fp=>
       rw[hf]at hb';simp only[Bool.or_eq_true]at hb' ⊢
       rcases hb' with hb'|hb'
       ·exact .inl hb'
       ·refine .inr ?_;have:fp∉be.ws:=by simpa using hb'
        rw[k3 fp this];simp
theorem NO{r:T XV}{al:aL}(hr:∀t,r.get .undef t=rg al t)(hn:nt<1000000)(d:Option Nat)(x:XV)(hd:∀t,d=some t->t<nt):∀t,(nM nt r d x).get .undef t=rg (w4 d x al) t:=by
 intro t
 cases d with
 | none=>exact hr t
 | some d=>
   have:=hd d rfl;simp only[nM,this,if_true,w4,rg]
   by_cases ht:t=d
   ·subst ht;rw[T.fR _ _ _ _ _ (by omega),if_pos rfl]
   ·rw[T.fg _ _ _ _ _ _ ht,if_neg ht];exact hr t
theorem ry(hn:nt<1000000){l:List Oper}{al al':aL}{hs hs':ah}{bs:List Ab}(h:mF O P ops nt l al hs bs al' hs'):∀{m:Mem} {r:T XV},aZ m hs->(∀t,r.get .undef t=rg al t) ->
 ∃tr r' m',i4 O P ops nt l r m=some (tr,r',m')/\(∀t,r'.get .undef t=rg al' t)/\aZ m' hs'/\OJ tr bs:=by
 induction h with
 | nil=>
   intro m r hm hr;exact⟨[],r,m,rfl,hr,hm,.nil⟩
 | cons ho hd _ ih=>
   rename_i o l al al' hs hs1 hs' x b bs _;intro m r hm hr;obtain⟨m1,h1,h2,h3⟩:=ho m hm;have e:(fun t=>r.get .undef t)=rg al:=funext hr;obtain⟨tr,r',m',k1,k2,k3,k4⟩:=ih h2 (NO hr hn o.dst x hd);refine⟨(m,⟨x,m1,b.eff,b.fp⟩)::tr,r',m',?_,k2,k3,.cons ⟨rfl,rfl,h3⟩ k4⟩;unfold i4;have h1':iT O P ops (r.get .undef) o m=some ⟨x,m1,b.eff,b.fp⟩:=by rw[show(r.get .undef)=rg al from e];exact h1
   rw[h1'];simp only[k1]
theorem WX.drawn(hO:aQ P O)(hP:P.follows .mixedOrders=true){id:Nat}{al al':aL}{hs hs':ah}{bs:List Ab}{K:ca}(hst:cS ops nt (iM ops.toList)=true)(h:mF O P ops nt ops.toList al hs bs al' hs')(hdy:xl (iM ops.toList) bs=true)
 (hk:K .normal al' hs'):WX P nt nI (.code (.region id ops true)) al hs K:=by
 intro βI mI wI hn m hm β w a Q hr hw hq;obtain⟨r,hrr⟩:=sN (rg al) nt hr.small hr.out;obtain⟨tr,r',m',h1,h2,h3,h4⟩:=ry hr.small h hm hrr
 have hx:kK O P ops nt r m=some (r',m'):=by
  refine v9 ?_;unfold iJ;rw[if_pos hst,h1];simp only[];rw[if_pos (FO h4 hdy)]
 have e:(r.get .undef)=rg al:=funext hrr;have e':(r'.get .undef)=rg al':=funext h2;refine yd hO hP hx (by unfold lS;rw[e];exact hr) hw.rel fun a' β' w' k1 k2 k3=>?_
 unfold lS at k1;rw[e']at k1;exact hq .normal al' hs' m' hk h3 a' β' w' k1 k2 (hw.trans k3)
end
end Go.Xm
namespace Go.Xm
variable [av]
theorem aZ.at{m:Mem}{hs:ah}(h:aZ m hs){i:Nat}{o:aj}(ho:hs[i]? = some o):m.get i=o:=by
 have hi:i<m.n:=by
  have:=(List.getElem?_eq_some_iff.1 ho).1;rw[h.n];exact this
 rw[h.get i hi,List.getD_eq_getElem?_getD,ho];rfl
theorem aZ.lt{m:Mem}{hs:ah}(h:aZ m hs){i:Nat}{o:aj}(ho:hs[i]? = some o):i<m.n/\i<Mem.bound:=by
 have:=(List.getElem?_eq_some_iff.1 ho).1;have h1:=h.n;have h2:=h.bnd;omega
theorem aZ.put{m:Mem}{hs:ah}(h:aZ m hs){i:Nat}{o:aj}(ho:hs[i]? = some o)(o':aj):aZ (m.put i o') (hs.set i o'):=by
 obtain⟨h1,h2⟩:=h.lt ho;refine⟨by rw[Mem.ej,List.length_set];exact h.n,by rw[Mem.ej];exact h.bnd,ch.put h.fresh o',fun j hj=>?_⟩;rw[Mem.ej]at hj
 by_cases hji:j=i
 ·subst hji;rw[Mem.ff m o' h1 h2];have:j<hs.length:=by rw[<-h.n];exact hj
  simp[List.getD_eq_getElem?_getD,this]
 ·rw[Mem.ez m o' hji,h.get j hj];simp[List.getD_eq_getElem?_getD,List.getElem?_set_ne (Ne.symm hji)]
theorem tT{m:Mem}{i:Nat}{o:aj}:∀j,j∉[i]->((m.put i o).fP j).ver=(m.fP j).ver:=by
 intro j hj;rw[Mem.gR m o (by simpa using hj)]
theorem aZ.push{m:Mem}{hs:ah}(h:aZ m hs)(o:aj)(hb:hs.length<Mem.bound):∃m',m.push o=some m'/\aZ m' (hs++[o])/\∀j,j∉[hs.length]->(m'.fP j).ver=(m.fP j).ver:=by
 have hn:=h.n
 obtain⟨m',hp⟩:∃m',m.push o=some m':=by
  unfold Mem.push;rw[if_pos (by omega)];exact⟨_,rfl⟩
 obtain⟨_,h2,h3,h4⟩:=Mem.bK hp;refine⟨m',hp,⟨by rw[h2,hn];simp,by omega,ch.push h.fresh hp,fun j hj=>?_⟩,fun j hj=>?_⟩
 ·by_cases hjn:j=m.n
  ·subst hjn;unfold Mem.get;rw[h3,hn];simp[List.getD_eq_getElem?_getD]
  ·have:m'.get j=m.get j:=by unfold Mem.get;rw[h4 j hjn]
   rw[this,h.get j (by omega),List.getD_eq_getElem?_getD,List.getD_eq_getElem?_getD,List.getElem?_append_left (by omega)]
 ·rw[h4 j (by rw[hn];simpa using hj)]
section
variable {O:db} {P:Program} {ops:Array Oper} {al:aL} {hs:ah} {o:Oper}
abbrev quiet:Ab:=⟨false,.none,[]⟩
theorem az.skip(hw:aw ops (rg al) o=some false):az O P ops al hs o (.tup []) hs quiet:=
 fun m hm=>⟨m,by unfold iT;rw[hw],hm,fun _ _=>rfl⟩
theorem az.pure(hw:aw ops (rg al) o=some true){x:XV}(h:aT P (ag (rg al)) o.op=some x):az O P ops al hs o x hs quiet:=
 fun m hm=>⟨m,by unfold iT;rw[hw];simp only[dE,dS,h],hm,fun _ _=>rfl⟩
theorem mn(hop:aT P (ag (rg al)) o.op = .none)(hx:pk O (ag (rg al)) o.op = .none){i:Nat}{f:aj->Option XV}(hr:eV P (ag (rg al)) o.op=some (i,f)){x:XV}{m:Mem}(hf:f (m.get i)=some x) :
 dE O P (ag (rg al)) o.op m=some ⟨x,m,false,some i⟩:=by
 simp only[dE,dS,hop,hx,hr,hf]
theorem az.load(hw:aw ops (rg al) o=some true){t:TypeId}{a:Operand}(ho:o.op = .load t a){i off:Nat}(ha:ag (rg al) a = .one (.ptr i off)){vs:List XC}{e:TypeId}{opn ro:Bool}(hi:hs[i]? = some (.cells vs e opn ro)){x:X1}(hl:dC P t vs off=some x) :
 az O P ops al hs o x.pj hs ⟨false,some i,[]⟩:=by
 intro m hm;refine⟨m,?_,hm,fun _ _=>rfl⟩;unfold iT;rw[hw]
 obtain⟨f,hf1,hf2⟩:∃f,eV P (ag (rg al)) o.op=some (i,f)/\∀vs' e' o' r',f (.cells vs' e' o' r')=(dC P t vs' off).map X1.pj:=by
  rw[ho];simp only[eV,ha];exact⟨_,rfl,fun _ _ _ _=>rfl⟩
 refine mn (by rw[ho];rfl) (by rw[ho];rfl) hf1 ?_;rw[hm.at hi,hf2,hl];rfl
theorem AJ{t:TypeId}{vs:List XC}{off:Nat}{c:XC}(h:kN P t=some false)(hc:vs[off]? = some c):dC P t vs off=some (.one c):=by
 unfold dC;rw[h,hc]
theorem AI{t:TypeId}{vs:List XC}(h:kN P t=some true)(hs:bY P t=some vs.length):dC P t vs 0=some (.agg vs):=by
 unfold dC;rw[h,hs];simp
theorem bW(hop:aT P (ag (rg al)) o.op = .none)(hx:pk O (ag (rg al)) o.op = .none)(hr:eV P (ag (rg al)) o.op = .none){x:XV}{m m':Mem}(hf:bX P (ag (rg al)) o.op m=some (x,m')) :
 dE O P (ag (rg al)) o.op m=some ⟨x,m',true,.none⟩:=by
 simp only[dE,dS,hop,hx,hr,hf]
theorem az.store(hw:aw ops (rg al) o=some true){t:TypeId}{a y:Operand}(ho:o.op = .store t a y){i off:Nat}(ha:ag (rg al) a = .one (.ptr i off)){cs:List XC}(hy:cJ (ag (rg al) y)=some cs)(hsz:bY P t=some cs.length)
 {vs:List XC} {e:TypeId} {opn:Bool}(hi:hs[i]? = some (.cells vs e opn false)) (hle:off+cs.length<=vs.length) {vs':List XC}(hv:vs.take off++cs++vs.drop (off+cs.length)=vs') :
 az O P ops al hs o (.tup []) (hs.set i (.cells vs' e opn false)) ⟨true,.none,[i]⟩:=by
 intro m hm;refine⟨m.put i (.cells vs' e opn false),?_,hm.put hi _,tT⟩;unfold iT;rw[hw];refine bW (by rw[ho];rfl) (by rw[ho];rfl) (by rw[ho];rfl) ?_;rw[ho];simp only[bX,kR,ha,hy,hsz,if_true,hm.at hi,if_pos hle,hv]
theorem He{vs:List XC}{off:Nat}{c:XC}(h:off<vs.length):vs.take off++[c]++vs.drop (off + [c].length)=vs.set off c:=by
 rw[List.set_eq_take_append_cons_drop,if_pos h];simp
theorem Hc{vs cs:List XC}(h:cs.length=vs.length):vs.take 0++cs++vs.drop (0+cs.length)=cs:=by simp[h]
theorem az.alloc(hw:aw ops (rg al) o=some true){t:TypeId}(ho:o.op = .alloc t){zs:List XC}(hz:pK P t=some zs)(hb:Nat.blt hs.length Mem.bound=true) :
 az O P ops al hs o (.one (.ptr hs.length 0)) (hs++[.cells zs t false false]) ⟨true,.none,[hs.length]⟩:=by
 intro m hm;obtain⟨m',h1,h2,h3⟩:=hm.push (.cells zs t false false) (by simpa [Nat.blt_eq]using hb);refine⟨m',?_,h2,h3⟩;unfold iT;rw[hw];refine bW (by rw[ho];rfl) (by rw[ho];rfl) (by rw[ho];rfl) ?_;rw[ho];simp only[bX,nc,hz,zw,h1,hm.n]
theorem az.box(hw:aw ops (rg al) o=some true){t:TypeId}{y:Operand}(ho:o.op = .box t y){cs:List XC}(hy:cJ (ag (rg al) y)=some cs)(hb:Nat.blt hs.length Mem.bound=true) :
 az O P ops al hs o (.one (.ptr hs.length 0)) (hs++[.cells cs t false false]) ⟨true,.none,[hs.length]⟩:=by
 intro m hm;obtain⟨m',h1,h2,h3⟩:=hm.push (.cells cs t false false) (by simpa [Nat.blt_eq]using hb);refine⟨m',?_,h2,h3⟩;unfold iT;rw[hw];refine bW (by rw[ho];rfl) (by rw[ho];rfl) (by rw[ho];rfl) ?_;rw[ho];simp only[bX,HB,hy,zw,h1,hm.n]
theorem az.bin(hw:aw ops (rg al) o=some true){op:BinOp}{t t':TypeId}{a b:Operand}(ho:o.op = .binOp op t a b t'){k k':IntKind}{x y:Int}(ha:ag (rg al) a = .one (.int k x))(hb:ag (rg al) b = .one (.int k' y)){c:XC}(hc:bE op k k' x y=some c) :
 az O P ops al hs o (.one c) hs quiet:=
 az.pure hw (by rw[ho];simp only[aT,vY,ha,hb,hc,Option.map_some])
theorem DZ{k:IntKind}{x y z:Int}(hy:y≠0)(h:x.tmod y=z):bE .rem k k x y=some (.int k z):=by simp only[bE,dT,if_true,hy,if_false,h]
theorem az.index(hw:aw ops (rg al) o=some true){t:TypeId}{a b:Operand}(ho:o.op = .indexAddr t a b){i off s len j:Nat}{elem:TypeId}(ha:ag (rg al) a = .one (.ptr i off)){k:IntKind}(hb:ag (rg al) b = .one (.int k (j:Nat)))
 (ht:P.underlying t=some (.array len elem)) (hsz:bY P elem=some s) (hj:j<len) {p:Nat}(hp:off+j*s=p):az O P ops al hs o (.one (.ptr i p)) hs quiet:=
 az.pure hw (by
  rw[ho];have h1:(0:Int)<=(j:Int)/\(j:Int)<(len:Int):=by omega
  simp only[aT,b9,ha,hb,ht,hsz,if_pos h1,Option.map_some,Int.toNat_natCast,hp])
theorem az.elem(hw:aw ops (rg al) o=some true){t:TypeId}{a b:Operand}(ho:o.op = .index t a b){len j:Nat}{elem:TypeId}{cs:List XC}(ha:ag (rg al) a = .agg cs){k:IntKind}(hb:ag (rg al) b = .one (.int k (j:Nat)))
 (ht:P.underlying t=some (.array len elem)) (hsz:bY P elem=some 1) (hg:kN P elem=some false) (hj:j<len) {c:XC}(hc:cs[j]? = some c):az O P ops al hs o (.one c) hs quiet:=
 az.pure hw (by
  rw[ho];have h1:(0:Int)<=(j:Int)/\(j:Int)<(len:Int):=by omega
  simp only[aT,qd,ha,hb,ht,hsz,if_pos h1,Int.toNat_natCast,Nat.mul_one,mw,hg,hc,Option.map_some,X1.pj])
theorem az.call(hw:aw ops (rg al) o=some true){g:Operand}{args:Array Operand}{ts:Array TypeId}(ho:o.op = .call ⟨.value g,args,ts⟩){f:FuncId}(hg:ag (rg al) g = .one (.fn f))(hcb:eU P f=true){vs:List XV}(ha:args.toList.map (ag (rg al))=vs)
 {x:XV} {hs':ah} {ws:List Nat}(hc:∀m,aZ m hs->∃m',O.call f vs m=some (x,m')/\aZ m' hs'/\∀j,j∉ws->(m'.fP j).ver=(m.fP j).ver):az O P ops al hs o x hs' ⟨true,.none,ws⟩:=by
 intro m hm;obtain⟨m',h1,h2,h3⟩:=hc m hm;refine⟨m',?_,h2,h3⟩;unfold iT;rw[hw]
 have e:cN O P (ag (rg al)) o.op m=some (x,m'):=by
  rw[ho];simp only[cN,hg,zS,hcb,if_true,List.map_nil,List.append_nil,ha,h1]
 have n1:aT P (ag (rg al)) o.op = .none:=by rw[ho];rfl
 have n2:pk O (ag (rg al)) o.op = .none:=by rw[ho];rfl
 have n3:eV P (ag (rg al)) o.op = .none:=by rw[ho];rfl
 have n4:bX P (ag (rg al)) o.op m = .none:=by rw[ho];rfl
 simp only[dE,dS,n1,n2,n3,n4,e]
end
end Go.Xm
namespace Go.Xm
variable [av]
def mH:List XV->Nat->aL
 | [],_=>[]
 | x::l,i=>(i,x)::mH l (i+1)
theorem vC:∀(l:List XV) (i j:Nat),rg (mH l i) j=if i<=j/\j<i+l.length then l.getD (j-i) .undef else .undef
 | [],i,j=>by simp[mH,rg]
 | x :: l,i,j=>by
   simp only[mH,rg,List.length_cons]
   by_cases h:j=i
   ·subst h;rw[if_pos rfl,if_pos (by omega)];simp
   ·rw[if_neg h,vC l (i+1) j]
    by_cases h1:i+1<=j/\j<i+1+l.length
    ·rw[if_pos h1,if_pos (by omega)]
     obtain⟨k,hk⟩:∃k,j-i=k+1:=⟨j-i-1,by omega⟩
     rw[hk,show j-(i+1)=k by omega];rfl
    ·rw[if_neg h1,if_neg (by omega)]
def th(P:Program)(fn:Func)(al:aL)(hs:ah)(v:XV):Prop:=∀m,aZ m hs->dw P fn (rg al) m=some v
theorem Au:aZ Mem.empty []:=⟨rfl,Nat.zero_le _,sO,fun i hi=>absurd hi (Nat.not_lt_zero i)⟩
def iR:ah->Mem
 | hs=>hs.foldl (fun m o=>(m.push o).getD m) Mem.empty
theorem eZ(hs:ah)(hb:hs.length<Mem.bound):aZ (iR hs) hs:=by
 have:∀(l k:ah) (m:Mem),aZ m k->k.length+l.length<Mem.bound->aZ (l.foldl (fun m o=>(m.push o).getD m) m) (k++l):=by
  intro l
  induction l with
  | nil=>intro k m hm _;simpa using hm
  | cons o l ih=>
    intro k m hm hlen;simp only[List.length_cons]at hlen;obtain⟨m',h1,h2,_⟩:=hm.push o (by omega);simp only[List.foldl_cons,h1,Option.getD_some];have:=ih (k++[o]) m' h2 (by simp;omega);simpa using this
 have h:=this hs [] Mem.empty Au (by simpa using hb);simpa [iR]using h
def Tz(P:Program)(f:FuncId)(args:List XV)(v:XV):Prop:=∀m,dZ P f args m v m
theorem mM{P:Program}{r:yr}(h:r.TD P):Tz P r.f r.args r.v:=by
 obtain⟨h1,m',h2⟩:=h;simp only[yr.Ks,Bool.and_eq_true,List.all_eq_true]at h1;exact fun m=>forget h2 h1.1 h1.2 m
end Go.Xm
namespace Go.Xm
variable [av]
def nV(O:db)(P:Program)(ops:Array Oper)(nt:Nat)(l:List Oper)(al:aL)(hs:ah)(K:List Ab->aL->ah->Prop):Prop:=
 ∃bs al' hs',mF O P ops nt l al hs bs al' hs'/\K bs al' hs'
section
variable {O:db} {P:Program} {ops:Array Oper} {nt nI:Nat} {al:aL} {hs:ah} {o:Oper}
theorem nV.nil{K:List Ab->aL->ah->Prop}(h:K [] al hs):nV O P ops nt [] al hs K:=⟨[],al,hs,.nil,h⟩
theorem nV.cons{o:Oper}{l:List Oper}{x:XV}{hs1:ah}{b:Ab}{K:List Ab->aL->ah->Prop}(h:az O P ops al hs o x hs1 b)(hd:(match o.dst with | .none=>true|some d=>decide (d<nt))=true)
 (hk:nV O P ops nt l (w4 o.dst x al) hs1 fun bs=>K (b::bs)):nV O P ops nt (o::l) al hs K:=by
 obtain⟨bs,al',hs',h1,h2⟩:=hk;exact⟨b::bs,al',hs',.cons h (fun d hd'=>by rw[hd']at hd;exact of_decide_eq_true hd) h1,h2⟩
theorem WX.SU(hO:aQ P O){id:Nat}{K:ca}(h:nV O P ops nt ops.toList al hs fun _ al' hs'=>K .normal al' hs'):WX P nt nI (.code (.region id ops false)) al hs K:=by
 obtain⟨bs,al',hs',h1,h2⟩:=h;exact WX.plain hO h1 h2
theorem WX.Rt(hO:aQ P O)(hP:P.follows .mixedOrders=true){id:Nat}{K:ca}(hst:cS ops nt (iM ops.toList)=true)(h:nV O P ops nt ops.toList al hs fun bs al' hs'=>xl (iM ops.toList) bs=true/\K .normal al' hs'):WX P nt nI (.code (.region id ops true)) al hs K:=by
 obtain⟨bs,al',hs',h1,h2,h3⟩:=h;exact WX.drawn hO hP hst h1 h2 h3
theorem WX.at{c:rM}{al':aL}{hs':ah}{K:ca}(hl:zU al' al)(hh:hs=hs')(h:WX P nt nI c al' hs' K):WX P nt nI c al hs K:=by
 subst hh;exact WX.less hl h
theorem WX.count{c:Code}{K:ca}(R:Nat->aL)(H:Nat->ah)(I:Nat->Prop)(N:Nat)(h0:I 0)
 (step:∀i,i<=N->I i->(i<N->I (i+1)->WX P nt nI (.round c) (R (i+1)) (H (i+1)) K)->WX P nt nI (.round c) (R i) (H i) K):WX P nt nI (.round c) (R 0) (H 0) K:=by
 have:∀d i,i+d=N->I i->WX P nt nI (.round c) (R i) (H i) K:=by
  intro d
  induction d with
  | zero=>intro i hi h;exact step i (by omega) h fun hlt=>absurd hlt (by omega)
  | succ d ih=>intro i hi h;exact step i (by omega) h fun hlt h'=>ih (i+1) (by omega) h'
 exact this N 0 (by omega) h0
theorem az.conv(hw:aw ops (rg al) o=some true){s d:TypeId}{y:Operand}(ho:o.op = .convert s d y){k k':IntKind}{x z:Int}(hy:ag (rg al) y = .one (.int k x))(hc:jx P s d (.one (.int k x))=some (.one (.int k' (iU k' x))))(hz:k'.wrap x=z) :
 az O P ops al hs o (.one (.int k' z)) hs quiet:=
 az.pure hw (by rw[ho];simp only[aT,hy,hc,cj,hz])
theorem th.tmp{fn:Func}{a:Nat}{y:X1}(hr:fn.results.toList = [.tmp a])(ha:mg (rg al a)=some y):th P fn al hs y.pj:=by
 intro m hm;unfold dw;rw[hr];simp only[f4,wi,ha]
end
end Go.Xm
namespace Go.Xm
class aF (P:Program) (t:TypeId) (s:outParam Nat):Prop where out:bY P t=some s
class cE (P:Program) (t:TypeId):Prop where out:kN P t=some false
class da (P:Program) (t:TypeId):Prop where out:kN P t=some true
class aK (P:Program) (t:TypeId) (zs:outParam (List XC)):Prop where out:pK P t=some zs
class aG (P:Program) (t:TypeId) (d:outParam TypeDesc):Prop where out:P.underlying t=some d
class cH (P:Program) (t:TypeId) (l:outParam (List (Nat×Nat))):Prop where out:∃fs,P.underlying t=some (.struct fs)/\oZ P fs.toList=some l
class bH (P:Program) (s:TypeId) (f:Nat) (ft:outParam TypeId) (off:outParam Nat):Prop where out:(iK P s f).map (fun fd=>(fd.type,fd.offset))=some (ft,off)
theorem bH.ex{P:Program}{s:TypeId}{f:Nat}{ft:TypeId}{off:Nat}[h:bH P s f ft off]:∃fd,iK P s f=some fd/\fd.type=ft/\fd.offset=off:=by
 obtain⟨fd,h1,h2⟩:=Option.map_eq_some_iff.1 h.out;cases h2;exact⟨fd,h1,rfl,rfl⟩
def ti(k:IntKind)(n:Nat)(f:Nat->Int):List XC:=(List.range n).map fun i => .int k (f i)
def gX(f:Nat->Int)(j:Nat)(x:Int)(i:Nat):Int:=if i=j then x else f i
theorem aU(k:IntKind)(n:Nat)(f:Nat->Int):(ti k n f).length=n:=by simp[ti]
theorem lO{k:IntKind}{n:Nat}{f:Nat->Int}{j:Nat}(h:j<n):(ti k n f)[j]? = some (.int k (f j)):=by simp[ti,h]
theorem vR(k:IntKind)(n:Nat)(f:Nat->Int)(j:Nat)(x:Int):(ti k n f).set j (.int k x)=ti k n (gX f j x):=by
 apply List.ext_getElem?;intro i;rw[List.getElem?_set]
 by_cases hj:j=i
 ·subst hj
  by_cases hn:j<n
  ·rw[if_pos rfl,if_pos (by rw[aU];exact hn),lO hn];simp[gX]
  ·rw[if_pos rfl,if_neg (by rw[aU];exact hn),List.getElem?_eq_none (by rw[aU];omega)]
 ·rw[if_neg hj]
  by_cases hn:i<n
  ·rw[lO hn,lO hn];simp[gX,Ne.symm hj]
  ·rw[List.getElem?_eq_none (by rw[aU];omega),List.getElem?_eq_none (by rw[aU];omega)]
theorem vP{k:IntKind}{n:Nat}{f g:Nat->Int}(h:∀i,i<n->f i=g i):ti k n f=ti k n g:=by
 unfold ti;exact List.map_congr_left fun i hi=>by rw[h i (List.mem_range.1 hi)]
end Go.Xm
namespace Go.Xm
def XC.aC(τ : Nat->Nat):XC->XC
 | .ptr i off => .ptr (τ i) off
 | .slice i off len cap => .slice (τ i) off len cap
 | .map i => .map (τ i)
 | .lsl g k off len fl cut => .lsl (τ g) k off len fl cut
 | .lpt g k off => .lpt (τ g) k off
 | .bind g c => .bind (g.aC τ) (c.aC τ)
 | c=>c
def X1.aC(τ : Nat->Nat):X1->X1
 | .one c => .one (c.aC τ)
 | .agg cs => .agg (cs.map (·.aC τ))
def XV.aC(τ : Nat->Nat):XV->XV
 | .undef => .undef
 | .one c => .one (c.aC τ)
 | .agg cs => .agg (cs.map (·.aC τ))
 | .tup xs => .tup (xs.map (·.aC τ))
def aj.aC(τ : Nat->Nat):aj->aj
 | .dead => .dead
 | .late L => .late L
 | .cells vs e opn ro => .cells (vs.map (·.aC τ)) e opn ro
 | .map es => .map (es.map fun p=>(p.1.aC τ,p.2.aC τ))
def XV.bt(n:Nat):XV->Prop
 | .undef=>True
 | .one c=>c.ok n
 | .agg cs=>∀c∈cs,c.ok n
 | .tup xs=>∀x∈xs,x.ok n
def aj.bt(n:Nat):aj->Prop
 | .dead=>True
 | .late _=>True
 | .cells vs _ _ _=>∀c∈vs,c.ok n
 | .map es=>∀p∈es,p.1.ok n/\p.2.ok n
theorem XC.mT{τ : Nat->Nat}{n N:Nat}(h:∀i,i<n -> τ i<N):∀{c:XC},c.ok n->(c.aC τ).ok N:=by
 intro c
 induction c with
 | ptr i off=>exact fun h'=>h i h'
 | slice i off len cap=>exact fun h'=>h i h'
 | map i=>exact fun h'=>h i h'
 | lsl g k off len fl cut=>exact fun h'=>h g h'
 | lpt g k off=>exact fun h'=>h g h'
 | bind g c ih1 ih2=>exact fun h'=>⟨ih1 h'.1,ih2 h'.2⟩
 | _=>intro _;trivial
theorem X1.mT{τ : Nat->Nat}{n N:Nat}(h:∀i,i<n -> τ i<N):∀{x:X1},x.ok n->(x.aC τ).ok N
 | .one _,h'=>XC.mT h h'
 | .agg cs,h'=>fun c hc=>by
   obtain⟨d,hd,rfl⟩:=List.mem_map.1 hc;exact XC.mT h (h' d hd)
variable [av]
def BY(β β':Env)(τ : Nat->Nat)(n:Nat):Prop:=∀i,i<n -> β'.bp (τ i) = β.bp i /\ β'.size (τ i) = β.size i /\ β'.base (τ i) = β.base i
theorem XC.ir{β β':Env}{τ : Nat->Nat}{n:Nat}(h:BY β β' τ n):∀{c:XC},c.ok n->(c.aC τ).den β'=c.den β:=by
 intro c
 induction c with
 | ptr i off=>intro h';simp only[XC.aC,XC.den,(h i h').1,(h i h').2.2]
 | slice i off len cap=>intro h';cases cap<;>simp only[XC.aC,XC.den,(h i h').1,(h i h').2.1,(h i h').2.2]
 | map i=>intro h';simp only[XC.aC,XC.den,(h i h').1]
 | lsl g k off len fl cut=>intro h';simp only[XC.aC,XC.den,(h g h').1]
 | lpt g k off=>intro h';simp only[XC.aC,XC.den,(h g h').1]
 | bind g c ih1 ih2=>intro h';simp only[XC.aC,XC.den,ih1 h'.1,ih2 h'.2]
 | _=>intro _;rfl
theorem gD{β β':Env}{τ : Nat->Nat}{n:Nat}(h:BY β β' τ n){cs:List XC}(hc:∀c∈cs,c.ok n):(cs.map (·.aC τ)).map (·.den β')=cs.map (·.den β):=by
 rw[List.map_map];exact List.map_congr_left fun c hm=>XC.ir h (hc c hm)
theorem X1.ir{β β':Env}{τ : Nat->Nat}{n:Nat}(h:BY β β' τ n):∀{x:X1},x.ok n->(x.aC τ).den β'=x.den β
 | .one _,h'=>XC.ir h h'
 | .agg cs,h'=>by simp only[X1.aC,X1.den,gD h h']
theorem aM.aC{β β':Env}{τ : Nat->Nat}{n N:Nat}(h:BY β β' τ n)(hb:∀i,i<n -> τ i<N){x:XV}{v:Value}(hr:aM β n x v):aM β' N (x.aC τ) v:=by
 cases x with
 | undef=>trivial
 | one c=>exact⟨XC.mT hb hr.1,hr.2.trans (XC.ir h hr.1).symm⟩
 | agg cs=>
   refine⟨fun c hc=>?_,hr.2.trans (by rw[gD h hr.1])⟩;obtain⟨d,hd,rfl⟩:=List.mem_map.1 hc;exact XC.mT hb (hr.1 d hd)
 | tup xs=>
   refine⟨fun c hc=>?_,hr.2.trans ?_⟩
   ·obtain⟨d,hd,rfl⟩:=List.mem_map.1 hc;exact X1.mT hb (hr.1 d hd)
   ·rw[List.map_map];exact congrArg (fun l=>Value.tuple (List.toArray l)) (List.map_congr_left fun c hm=>(X1.ir h (hr.1 c hm)).symm)
theorem aM.x6{β β':Env}{τ : Nat->Nat}{n N:Nat}(h:BY β β' τ n){x:XV}(hx:x.bt n){v:Value}(hr:aM β' N (x.aC τ) v):aM β n x v:=by
 cases x with
 | undef=>trivial
 | one c=>exact⟨hx,hr.2.trans (XC.ir h hx)⟩
 | agg cs=>exact⟨hx,hr.2.trans (by rw[gD h hx])⟩
 | tup xs=>
   refine⟨hx,hr.2.trans ?_⟩;rw[List.map_map];exact congrArg (fun l=>Value.tuple (List.toArray l)) (List.map_congr_left fun c hm=>X1.ir h (hx c hm))
theorem fw.aC{β β':Env}{τ : Nat->Nat}{n N lo sz:Nat}(h:BY β β' τ n)(hb:∀i,i<n -> τ i<N){x:aj}{o:Option Obj}(hr:fw β n lo sz x o):fw β' N lo sz (x.aC τ) o:=by
 cases x with
 | dead=>trivial
 | late L=>trivial
 | cells vs e opn ro=>
   obtain⟨cs,fr,h1,h2,h3,h4,h5,h6⟩:=hr;refine⟨cs,fr,h1,h2,by rw[List.length_map];exact h3,h4,fun c hc=>?_,?_⟩
   ·obtain⟨d,hd,rfl⟩:=List.mem_map.1 hc;exact XC.mT hb (h5 d hd)
   ·rw[List.length_map,h6,gD h h5]
 | map es=>
   obtain⟨en,clock,h1,h2,h3⟩:=hr;refine⟨en,clock,h1,fun p hp=>?_,h3.trans ?_⟩
   ·obtain⟨d,hd,rfl⟩:=List.mem_map.1 hp;exact⟨X1.mT hb (h2 d hd).1,X1.mT hb (h2 d hd).2⟩
   ·rw[List.map_map];exact List.map_congr_left fun p hp=>by simp only[Function.comp,X1.ir h (h2 p hp).1,X1.ir h (h2 p hp).2]
theorem fw.x6{β β':Env}{τ : Nat->Nat}{n N lo sz:Nat}(h:BY β β' τ n){x:aj}(hx:x.bt n){o:Option Obj}(hr:fw β' N lo sz (x.aC τ) o):fw β n lo sz x o:=by
 cases x with
 | dead=>trivial
 | late L=>trivial
 | cells vs e opn ro=>
   obtain⟨cs,fr,h1,h2,h3,h4,h5,h6⟩:=hr;rw[List.length_map]at h3 h6;exact⟨cs,fr,h1,h2,h3,h4,hx,by rw[h6,gD h hx]⟩
 | map es=>
   obtain⟨en,clock,h1,h2,h3⟩:=hr;refine⟨en,clock,h1,hx,h3.trans ?_⟩;rw[List.map_map];exact List.map_congr_left fun p hp=>by simp only[Function.comp,X1.ir h (hx p hp).1,X1.ir h (hx p hp).2]
theorem qS{τ : Nat->Nat}{x:aj}:(x.aC τ).live=x.live:=by cases x<;>rfl
theorem mU{τ : Nat->Nat}{x:aj}:(x.aC τ).own=x.own:=by cases x<;>rfl
structure View(τ : Nat->Nat)(hs1 hs2:ah):Prop where
 lt:∀j,j<hs2.length -> τ j<hs1.length
 inj:∀(i j:Nat) (a b:aj),hs2[i]? = some a->hs2[j]? = some b->a ≠ .dead->b ≠ .dead -> τ i = τ j->i=j
 ok:∀(j:Nat) (o:aj),hs2[j]? = some o->o.bt hs2.length
 obj:∀(j:Nat) (o:aj),hs2[j]? = some o->o = .dead\/hs1[τ j]? = some (o.aC τ)
theorem aZ.get?{m:Mem}{hs:ah}(h:aZ m hs){i:Nat}(hi:i<m.n):hs[i]? = some (m.get i):=by
 have:=h.n;rw[h.get i hi,List.getD_eq_getElem?_getD,List.getElem?_eq_getElem (by omega)];rfl
theorem Rel.tZ{β : Env}{m m2:Mem}{hs1 hs2:ah}{τ : Nat->Nat}(h1:aZ m hs1)(h2:aZ m2 hs2)(v:View τ hs1 hs2){β2:Env}(hv:BY β2 β τ hs2.length){k:Nat}(hi:kT β2 m2 k):kT β m k:=by
 obtain⟨i,hi,hl,rfl⟩:=hi;have n1:=h1.n;have n2:=h2.n;have g:=h2.get? hi;have lt:=v.lt i (by omega)
 rcases v.obj i _ g with e|e
 ·rw[e]at hl;cases hl
 ·refine⟨τ i,by omega,?_,(hv i (by omega)).1⟩;rw[h1.at e,mU];exact hl
theorem Rel.t5{β : Env}{m m2:Mem}{hs1 hs2:ah}{τ : Nat->Nat}(h1:aZ m hs1)(h2:aZ m2 hs2)(v:View τ hs1 hs2){β2:Env}(hv:BY β2 β τ hs2.length){k:Nat}(hi:DM β2 m2 k):DM β m k:=by
 obtain⟨i,hi,L,q,cs,e1,e2,e3,e4⟩:=hi;have n1:=h1.n;have n2:=h2.n;have g:=h2.get? hi;have lt:=v.lt i (by omega)
 rcases v.obj i _ g with e|e
 ·rw[e]at e1;cases e1
 ·refine⟨τ i,by omega,L,q,cs,?_,e2,e3,by rw[(hv i (by omega)).1];exact e4⟩;rw[h1.at e,e1];rfl
theorem Rel.view{β : Env}{m m2:Mem}{w:World}{hs1 hs2:ah}{τ : Nat->Nat}(h:Rel β m w)(h1:aZ m hs1)(h2:aZ m2 hs2)(v:View τ hs1 hs2){β2:Env}(hv:BY β2 β τ hs2.length):Rel β2 m2 w:=by
 have n1:=h1.n;have n2:=h2.n
 have key:∀i,i<m2.n->m2.get i = .dead\/(m2.get i).bt hs2.length /\ τ i<m.n/\m.get (τ i)=(m2.get i).aC τ:=fun i hi=>by
  have g:=h2.get? hi;have lt:=v.lt i (by omega)
  rcases v.obj i _ g with e|e
  ·exact .inl e
  ·refine .inr ⟨v.ok i _ g,by omega,?_⟩;exact h1.at e
 refine⟨h2.bnd,h2.fresh,fun i hi=>?_,fun i j hi hj li lj hb=>?_,fun i hi L hL=>?_⟩
 ·rcases key i hi with e|⟨e1,e2,e3⟩
  ·rw[e];trivial
  ·have:=h.obj (τ i) e2;rw[e3,(hv i (by omega)).1,(hv i (by omega)).2.1,(hv i (by omega)).2.2]at this;rw[n2];exact this.x6 hv e1
 ·rcases key i hi with e|⟨_,e2,e3⟩
  ·rw[e]at li;cases li
  rcases key j hj with e|⟨_,e2',e3'⟩
  ·rw[e]at lj;cases lj
  refine v.inj i j _ _ (h2.get? hi) (h2.get? hj) (fun e=>by rw[e]at li;cases li) (fun e=>by rw[e]at lj;cases lj) (h.inj (τ i) (τ j) e2 e2' (by rw[e3,mU];exact li) (by rw[e3',qS];exact lj) ?_);rw[(hv i (by omega)).1,(hv j (by omega)).1];exact hb
 ·rcases key i hi with e|⟨_,e2,e3⟩
  ·rw[e]at hL;cases hL
  rw[hL]at e3;intro k cs hk;obtain⟨k1,k2⟩:=h.late (τ i) e2 L e3 k cs hk;have hb:=(hv i (by omega)).1;refine⟨k1,fun hne=>?_⟩;obtain⟨k3,all,e,fr,k4,k5⟩:=k2 hne;rw[hb]at k3 k4 k5;refine⟨fun hi=>k3 (Rel.tZ h1 h2 v hv hi),all,e,fr,k4,k5.trans ?_⟩;exact List.map_congr_left fun c hc=>XC.ov (k1 c hc) hb
def bm(P:Program)(f:FuncId)(args:List XV)(hs:ah)(v:XV)(hs':ah):Prop:=
 ∀ (m:Mem),aZ m hs->∀(β : Env) (w:World) (vs:List Value),df (aM β m.n) args vs->Rel β m w ->
   Calls P f vs.toArray w fun e w'=>∃u β' m',e = .returned u/\aZ m' hs'/\aM β' m'.n v u/\Step β m w β' m' w'
def aE(P:Program)(fn:Func)(n:Nat)(v:XV)(hs':ah):ca:=fun e al hs1=>(e = .normal\/e = .ret)/\∃(v1:XV) (τ : Nat->Nat),th P fn al hs1 v1/\v1=v.aC τ/\v.bt hs'.length/\View τ hs1 hs'/\∀j,j<n -> τ j=j
theorem WX.view{P:Program}{nt nI:Nat}{c:rM}{al al2:aL}{hs hs2:ah}{K:ca}(τ : Nat->Nat)(hv:View τ hs hs2)(hid:∀j,j<nI -> τ j=j)(hle:nI<=hs2.length)(hb:Nat.blt hs2.length Mem.bound=true)(hok:∀t,(rg al2 t).bt hs2.length)(hr:∀t,rg al2 t = .undef\/rg al t=(rg al2 t).aC τ)
 (h:WX P nt nI c al2 hs2 K):WX P nt nI c al hs K:=by
 intro βI mI wI hn m hm β w a Q hrel hst hq;have hm2:=eZ hs2 (by simpa [Nat.blt_eq]using hb);have n1:=hm.n;have n2:=hm2.n
 let β2:Env:=⟨fun i => β.bp (τ i),fun i => β.base (τ i),fun i => β.size (τ i)⟩
 have hvia:BY β2 β τ hs2.length:=fun i _=>⟨rfl,rfl,rfl⟩
 have hst2:Step βI mI wI β2 (iR hs2) w:=by
  refine⟨by omega,fun i hi=>?_,hst.rel.view hm hm2 hv hvia,hst.os,hst.tape,hst.output,hst.size,hst.frame,fun k hk hi=>hst.qe k hk (Rel.tZ hm hm2 hv hvia hi),fun k hk hl=>hst.wL k hk (Rel.t5 hm hm2 hv hvia hl)⟩;have:=hst.ext i hi;show β.bp (τ i) = βI.bp i /\ β.size (τ i) = βI.size i /\ β.base (τ i) = βI.base i;rw[hid i (by omega)];exact this
 refine h βI mI wI hn (iR hs2) hm2 β2 w a Q ⟨hrel.size,hrel.small,fun t ht=>?_,fun t ht=>?_⟩ hst2 hq
 ·rcases hr t with e|e
  ·rw[e];trivial
  ·have:=hrel.rel t ht;rw[e]at this;rw[n2];exact this.x6 hvia (hok t)
 ·rcases hr t with e|e
  ·exact e
  ·have:=hrel.out t ht;rw[e]at this;cases hx:rg al2 t<;>rw[hx]at this<;>first|rfl|cases this
theorem FJ{P:Program}{f:FuncId}{fn:Func}{c:Code}{args:List XV}{hs hs':ah}{v:XV}(hf:P.funcs[f]? = some fn)(hb:fn.body=some c)(hn:fn.ntmps<1000000)(hl:args.length<=fn.ntmps)(hle:hs.length<=hs'.length)(hbd:hs'.length<Mem.bound)
 (h:WX P fn.ntmps hs.length (.code c) (mH args 0) hs (aE P fn hs.length v hs')):bm P f args hs v hs':=by
 intro m hm β w vs hall hw;refine calls_of_wp hf hb ?_;have hr0:=qM hall hn hl
 have e:(fS args 0 .leaf).get .undef=rg (mH args 0):=by
  funext j
  rw[mO args 0 .leaf (by omega) j,vC,T.eL]
 unfold lS at hr0;rw[e]at hr0;have nm:=hm.n;refine h β m w nm m hm β w _ _ hr0 (Step.refl hw) fun x al' hs1 m1 hk hm1 a' β' w' h1 h2 h3=>?_
 obtain⟨hx,v1,τ,hres,rfl,hok,hview,hid⟩:=hk;obtain⟨u,hu1,hu2⟩:=oJ (hres m1 hm1) h3.rel h1;have hm2:=eZ hs' hbd;have n2:=hm2.n
 let β2:Env:=⟨fun i => β'.bp (τ i),fun i => β'.base (τ i),fun i => β'.size (τ i)⟩
 have hv:BY β2 β' τ hs'.length:=fun i _=>⟨rfl,rfl,rfl⟩
 have hst:Step β m w β2 (iR hs') w':=by
  refine⟨by omega,fun i hi=>?_,h3.rel.view hm1 hm2 hview hv,h3.os,h3.tape,h3.output,h3.size,h3.frame,fun k hk hi=>h3.qe k hk (Rel.tZ hm1 hm2 hview hv hi),fun k hk hl=>h3.wL k hk (Rel.t5 hm1 hm2 hview hv hl)⟩;have:=h3.ext i hi;show β'.bp (τ i) = β.bp i /\ β'.size (τ i) = β.size i /\ β'.base (τ i) = β.base i;rw[hid i (by omega)];exact this
 have hu3:aM β2 (iR hs').n v u:=by rw[n2];exact hu2.x6 hv hok
 rcases hx with rfl|rfl<;>exact⟨h2,u,hu1,u,β2,iR hs',rfl,hm2,hu3,hst⟩
def beyond(ρ : Nat->Nat)(n N:Nat)(j:Nat):Nat:=if j<n then ρ j else N+(j-n)
structure NY(ρ : Nat->Nat)(n:Nat)(HS:ah)(hs':ah)(HS':ah):Prop where
 len:HS'.length=HS.length+(hs'.length-n)
 obj:∀(j:Nat) (o:aj),hs'[j]? = some o->HS'[beyond ρ n HS.length j]? = some (o.aC (beyond ρ n HS.length))
 i6:∀i,i<HS.length->(∀j,j<n -> ρ j≠i)->HS'[i]? = HS[i]?
theorem uc{β0 β : Env}{ρ : Nat->Nat}{n N:Nat}(hvia:BY β0 β ρ n):∀{args:List XV} {vs:List Value},(∀x∈args,x.bt n)->df (aM β N) (args.map (·.aC ρ)) vs->df (aM β0 n) args vs
 | [],_,_,h=>by cases h;exact .nil
 | x::l,_,ha,h=>by
   cases h with
   | cons h1 h2=>exact .cons (h1.x6 hvia (ha x (List.mem_cons_self ..))) (uc hvia (fun y hy=>ha y (List.mem_cons_of_mem _ hy)) h2)
theorem Cl{P:Program}{f:FuncId}{args:List XV}{hs hs' HS HS':ah}{v:XV}(hc:bm P f args hs v hs')(hle:hs.length<=hs'.length)(hbd:hs.length<Mem.bound){ρ : Nat->Nat}(hv:View ρ HS hs)(ha:∀x∈args,x.bt hs.length)(haf:NY ρ hs.length HS hs' HS')(hro:∀(j:Nat) (o:aj),hs'[j]? = some o->o.live=true->o.own=false->∃o0,hs[j]? = some o0/\o0.live=true)
 {M M':Mem}(hM:aZ M HS) (hM':aZ M' HS'):dZ P f (args.map (·.aC ρ)) M (v.aC (beyond ρ hs.length HS.length)) M':=by
 intro β w vs hall hw;have hm0:=eZ hs hbd;have n0:=hm0.n;have N0:=hM.n;have N1:=hM'.n;have hlen:=haf.len
 let β0:Env:=⟨fun i => β.bp (ρ i),fun i => β.base (ρ i),fun i => β.size (ρ i)⟩
 have hvia:BY β0 β ρ hs.length:=fun i _=>⟨rfl,rfl,rfl⟩
 have hrel0:Rel β0 (iR hs) w:=hw.view hM hm0 hv hvia
 have hargs:df (aM β0 (iR hs).n) args vs:=by
  rw[n0];exact uc hvia ha hall
 refine(hc _ hm0 β0 w vs hargs hrel0).mono fun e w' ⟨u,β1,m1,he,hm1,hu,hst⟩=>?_
 have n1:=hm1.n;have hsle:=hst.le
 let ρ':=beyond ρ hs.length HS.length
 let β':Env:=⟨fun i=>if i<HS.length then β.bp i else β1.bp (i-HS.length+hs.length),fun i=>if i<HS.length then β.base i else β1.base (i-HS.length+hs.length),fun i=>if i<HS.length then β.size i else β1.size (i-HS.length+hs.length)⟩
 have hvia':BY β1 β' ρ' hs'.length:=by
  intro j hj;show(if ρ' j<HS.length then β.bp (ρ' j)else β1.bp (ρ' j-HS.length+hs.length)) = β1.bp j/\(if ρ' j<HS.length then β.size (ρ' j)else β1.size (ρ' j-HS.length+hs.length)) = β1.size j/\(if ρ' j<HS.length then β.base (ρ' j)else β1.base (ρ' j-HS.length+hs.length)) = β1.base j
  by_cases h:j<hs.length
  ·have e1 : ρ' j = ρ j:=if_pos h;have e2:=hv.lt j h;rw[e1,if_pos e2,if_pos e2,if_pos e2];have:=hst.ext j (by omega);exact⟨this.1.symm,this.2.1.symm,this.2.2.symm⟩
  ·have e1 : ρ' j=HS.length+(j-hs.length):=if_neg h;rw[e1,if_neg (by omega),if_neg (by omega),if_neg (by omega),show HS.length+(j-hs.length)-HS.length+hs.length=j by omega];exact⟨rfl,rfl,rfl⟩
 have hlt':∀j,j<hs'.length -> ρ' j<HS'.length:=by
  intro j hj
  by_cases h:j<hs.length
  ·have e1 : ρ' j = ρ j:=if_pos h;have e2:=hv.lt j h;omega
  ·have e1 : ρ' j=HS.length+(j-hs.length):=if_neg h;omega
 refine⟨u,β',he,by rw[N1];rw[n1]at hu;exact hu.aC hvia' hlt',?_⟩
 have kinds:∀i,i<M'.n->(∃j,j<m1.n /\ ρ' j=i/\M'.get i=(m1.get j).aC ρ')\/(i<HS.length/\(∀j,j<hs.length -> ρ j≠i)/\M'.get i=M.get i/\i<M.n):=by
  intro i hi
  by_cases h:i<HS.length
  ·by_cases h2:∃j,j<hs.length /\ ρ j=i
   ·obtain⟨j,hj,rfl⟩:=h2;refine .inl ⟨j,by omega,if_pos hj,?_⟩;have g:=hm1.get? (i:=j) (by omega);have:=haf.obj j _ g;have e1:beyond ρ hs.length HS.length j = ρ j:=if_pos hj;rw[e1]at this;exact hM'.at this
   ·have h3:∀j,j<hs.length -> ρ j≠i:=fun j hj e=>h2 ⟨j,hj,e⟩
    refine .inr ⟨h,h3,?_,by omega⟩;have e1:=haf.i6 i h h3;rw[hM'.get? hi,hM.get? (i:=i) (by omega)]at e1;exact Option.some.inj e1
  ·refine .inl ⟨i-HS.length+hs.length,by omega,?_,?_⟩
   ·show beyond ρ hs.length HS.length _=i;unfold beyond;rw[if_neg (by omega)];omega
   ·have g:=hm1.get? (i:=i-HS.length+hs.length) (by omega);have:=haf.obj _ _ g;have e1:beyond ρ hs.length HS.length (i-HS.length+hs.length)=i:=by unfold beyond;rw[if_neg (by omega)];omega
    rw[e1]at this;exact hM'.at this
 have imgs:∀j,j<m1.n->(m1.get j).own=true -> β1.bp j<w.heap.size->∃j2,j2<hs.length/\((iR hs).get j2).own=true /\ β.bp (ρ j2) = β1.bp j:=by
  intro j hj hl hlt;obtain⟨j2,h1,h2,h3⟩:=hst.qe _ hlt ⟨j,hj,hl,rfl⟩;exact⟨j2,by omega,h2,h3⟩
 have liveρ : ∀j2,j2<hs.length->((iR hs).get j2).own=true -> ρ j2<M.n/\(M.get (ρ j2)).own=true:=by
  intro j2 h1 h2;have g:=hm0.get? (i:=j2) (by omega);have lt:=hv.lt j2 h1;refine⟨by omega,?_⟩
  rcases hv.obj j2 _ g with e|e
  ·rw[e]at h2;cases h2
  ·rw[hM.at e,mU];exact h2
 have bold:∀i,i<HS.length -> β'.bp i = β.bp i /\ β'.size i = β.size i /\ β'.base i = β.base i:=fun i h=>⟨if_pos h,if_pos h,if_pos h⟩
 have hframe:∀k,k<w.heap.size->¬kT β M k->w'.heap[k]? = w.heap[k]?:=fun k hk hn=>by
  refine hst.frame k hk fun⟨j2,q1,q2,q3⟩=>hn ?_
  have q4:=liveρ j2 (by omega) q2;exact⟨ρ j2,q4.1,q4.2,q3⟩
 have himg:∀k,k<w.heap.size->kT β' M' k->kT β M k:=fun k hk hi=>by
  obtain⟨i,hi,hl,rfl⟩:=hi
  rcases kinds i hi with⟨j,hj,rfl,hg⟩|⟨h1,h2,hg,h3⟩
  ·rw[hg,mU]at hl;rw[(hvia' j (by omega)).1]at hk ⊢;obtain⟨j2,q1,q2,q3⟩:=imgs j hj hl hk;have q4:=liveρ j2 q1 q2;exact⟨ρ j2,q4.1,q4.2,q3⟩
  ·rw[hg]at hl;rw[(bold i h1).1];exact⟨i,h3,hl,rfl⟩
 have late_ren:∀(x:aj) L,x.aC ρ' = .late L->x = .late L:=fun x L h=>by cases x<;>first|exact h|cases h
 have vis:∀k,k<w.heap.size->DM β1 m1 k->(∃j2,j2<hs.length/\(M.get (ρ j2)).own=true /\ ρ j2<M.n /\ β.bp (ρ j2)=k)\/DM β M k:=fun k hk hl=>by
  rcases hst.wL k hk hl with⟨j2,q1,q2,q3⟩|hl
  ·have q4:=liveρ j2 (by omega) q2;exact .inl ⟨j2,by omega,q4.2,q4.1,q3⟩
  ·exact .inr (Rel.t5 hM hm0 hv hvia hl)
 refine⟨by omega,fun i hi=>bold i (by omega),⟨hM'.bnd,hM'.fresh,fun i hi=>?_,fun i i2 hi hi2 hl hl2 hbb=>?_,fun i hi L hL=>?_⟩,hst.os,hst.tape,hst.output,hst.size,hframe,himg,fun k hk ⟨i,hi,L,q,cs,e1,e2,e3,e4⟩=>?_⟩
 ·rcases kinds i hi with⟨j,hj,rfl,hg⟩|⟨h1,h2,hg,h3⟩
  ·rw[hg,N1,(hvia' j (by omega)).1,(hvia' j (by omega)).2.1,(hvia' j (by omega)).2.2];have:=hst.rel.obj j hj;rw[n1]at this;exact this.aC hvia' hlt'
  ·rw [hg,(bold i h1).1,(bold i h1).2.1,(bold i h1).2.2]
   cases hgm:M.get i with
   | dead=>trivial
   | late L=>trivial
   | cells a b c d=>
     have hli:(M.get i).live=true:=by rw[hgm];rfl
     have hlt:=hw.lt h3 hli
     have hfr:w'.heap[β.bp i]? = w.heap[β.bp i]?:=by
      refine hst.frame _ hlt fun⟨j2,q1,q2,q3⟩=>?_
      have q4:=liveρ j2 (by omega) q2;exact h2 j2 (by omega) (hw.inj (ρ j2) i q4.1 h3 q4.2 hli q3)
     rw[hfr,<-hgm];exact(hw.obj i h3).ext (fun i hi=>bold i (by omega)) (by omega)
   | map es=>
     have hli:(M.get i).live=true:=by rw[hgm];rfl
     have hlt:=hw.lt h3 hli
     have hfr:w'.heap[β.bp i]? = w.heap[β.bp i]?:=by
      refine hst.frame _ hlt fun⟨j2,q1,q2,q3⟩=>?_
      have q4:=liveρ j2 (by omega) q2;exact h2 j2 (by omega) (hw.inj (ρ j2) i q4.1 h3 q4.2 hli q3)
     rw[hfr,<-hgm];exact(hw.obj i h3).ext (fun i hi=>bold i (by omega)) (by omega)
 ·rcases kinds i hi with⟨j,hj,rfl,hg⟩|⟨h1,h2,hg,h3⟩
  ·rcases kinds i2 hi2 with⟨j',hj',rfl,hg'⟩|⟨h1',h2',hg',h3'⟩
   ·rw[(hvia' j (by omega)).1,(hvia' j' (by omega)).1]at hbb;rw[hg,mU]at hl;rw[hg',qS]at hl2;rw[hst.rel.inj j j' hj hj' hl hl2 hbb]
   ·rw[(hvia' j (by omega)).1,(bold i2 h1').1]at hbb;rw[hg,mU]at hl;rw[hg']at hl2;have hlt:=hw.lt h3' hl2;obtain⟨j2,q1,q2,q3⟩:=imgs j hj hl (by rw[hbb];exact hlt);have q4:=liveρ j2 q1 q2;exact absurd (hw.inj (ρ j2) i2 q4.1 h3' q4.2 hl2 (q3.trans hbb)) (h2' j2 q1)
  ·rcases kinds i2 hi2 with⟨j',hj',rfl,hg'⟩|⟨h1',h2',hg',h3'⟩
   ·rw [(hvia' j' (by omega)).1,(bold i h1).1]at hbb;rw[hg',qS]at hl2;rw[hg]at hl;have hlt:=hw.lt h3 (aj.bQ hl)
    cases hown:(m1.get j').own with
    | true=>
      obtain⟨j2,q1,q2,q3⟩:=imgs j' hj' hown (by rw[<-hbb];exact hlt);have q4:=liveρ j2 q1 q2;exact absurd (hw.inj (ρ j2) i q4.1 h3 q4.2 (aj.bQ hl) (q3.trans hbb.symm)) (h2 j2 q1)
    | false=>
      obtain⟨o0,q1,q2⟩:=hro j' _ (hm1.get? hj') hl2 hown;have q3:j'<hs.length:=(List.getElem?_eq_some_iff.1 q1).1;have q4:=hv.lt j' q3
      have q5:(M.get (ρ j')).live=true:=by
       rcases hv.obj j' o0 q1 with e|e
       ·rw[e]at q2;cases q2
       ·rw[hM.at e,qS];exact q2
      have q6 : β1.bp j' = β.bp (ρ j'):=(hst.ext j' (by omega)).1;exact absurd (hw.inj i (ρ j') h3 (by omega) hl q5 (hbb.trans q6)).symm (h2 j' q3)
   ·rw[(bold i h1).1,(bold i2 h1').1]at hbb;rw[hg]at hl;rw[hg']at hl2;exact hw.inj i i2 h3 h3' hl hl2 hbb
 ·rcases kinds i hi with⟨j,hj,rfl,hg⟩|⟨h1,h2,hg,h3⟩
  ·have hg1:=late_ren _ L (by rw[<-hg];exact hL);have hb:=(hvia' j (by omega)).1;intro k cs hk;obtain⟨k1,k2⟩:=hst.rel.late j hj L hg1 k cs hk;refine⟨k1,fun hne=>?_⟩;obtain⟨k3,all,e,fr,k4,k5⟩:=k2 hne;rw[hb];refine⟨fun⟨i,hi,hown,hbi⟩=>?_,all,e,fr,k4,k5.trans (List.map_congr_left fun c hc=>(XC.ov (k1 c hc) hb).symm)⟩
   rcases kinds i hi with⟨j',hj',rfl,hg'⟩|⟨h1,h2,hg',h3⟩
   ·rw[hg',mU]at hown;rw[(hvia' j' (by omega)).1]at hbi;exact k3 ⟨j',hj',hown,hbi⟩
   ·rw[hg']at hown;rw[(bold i h1).1]at hbi;have hlt:=hw.lt h3 (aj.bQ hown);rw[hbi]at hlt
    rcases vis _ hlt ⟨j,hj,L,k,cs,hg1,hk,hne,rfl⟩with⟨j2,q1,q2,q3,q4⟩|⟨i2,q1,L2,q,cs2,q2,q3,q5,q6⟩
    ·exact h2 j2 q1 (hw.inj (ρ j2) i q3 h3 q2 (aj.bQ hown) (q4.trans hbi.symm))
    ·exact((hw.late i2 q1 L2 q2 q cs2 q3).2 q5).1 ⟨i,h3,hown,hbi.trans q6.symm⟩
  ·exact(hw.late i h3 L (by rw[<-hg];exact hL)).ic h3 (by omega) (fun i hi=>bold i (by omega)) hframe himg
 ·rcases kinds i hi with⟨j,hj,rfl,hg⟩|⟨h1,h2,hg,h3⟩
  ·have hg1:=late_ren _ L (by rw[<-hg];exact e1);rw[(hvia' j (by omega)).1]at e4
   rcases vis k hk ⟨j,hj,L,q,cs,hg1,e2,e3,e4⟩with⟨j2,q1,q2,q3,q4⟩|h
   ·exact .inl ⟨ρ j2,q3,q2,q4⟩
   ·exact .inr h
  ·exact .inr ⟨i,h3,L,q,cs,by rw[<-hg];exact e1,e2,e3,by rw[<-e4,(bold i h1).1]⟩
end Go.Xm
namespace Go.Xm
variable [av]
theorem XC.dO{c:XC}(h:c.shut=true)(τ : Nat->Nat):c.aC τ = c:=by
 induction c with
 | bind g c ih1 ih2=>
   simp only[XC.shut,Bool.and_eq_true]at h;simp only[XC.aC,ih1 h.1,ih2 h.2]
 | ptr i off=>cases h
 | slice i off len cap=>cases h
 | map i=>cases h
 | lsl g k off len fl cut=>cases h
 | lpt g k off=>cases h
 | _=>rfl
theorem fN{cs:List XC}(h:cs.all XC.shut=true)(τ : Nat->Nat):cs.map (·.aC τ)=cs:=by
 rw[List.all_eq_true]at h;exact(List.map_congr_left fun c hc=>XC.dO (h c hc) τ).trans (by simp)
theorem X1.dO{x:X1}(h:x.shut=true)(τ : Nat->Nat):x.aC τ = x:=by
 cases x with
 | one c=>simp only[X1.aC,XC.dO h]
 | agg cs=>simp only[X1.aC,fN h]
theorem XV.dO{x:XV}(h:x.shut=true)(τ : Nat->Nat):x.aC τ = x:=by
 cases x with
 | undef=>rfl
 | one c=>simp only[XV.aC,XC.dO h]
 | agg cs=>simp only[XV.aC,fN h]
 | tup xs=>
   have h':=List.all_eq_true.1 h;simp only[XV.aC];rw[(List.map_congr_left fun c hc=>X1.dO (h' c hc) τ : xs.map (·.aC τ)=xs.map id),List.map_id]
theorem lG{l:List XV}(h:∀x∈l,x.shut=true)(τ : Nat->Nat):l.map (·.aC τ)=l:=
 (List.map_congr_left fun c hc=>XV.dO (h c hc) τ).trans (by simp)
theorem XV.kr{x:XV}(h:x.shut=true)(n:Nat):x.bt n:=by
 cases x with
 | undef=>trivial
 | one c=>exact XC.bj h n
 | agg cs=>exact fun c hc=>XC.bj (List.all_eq_true.1 h c hc) n
 | tup xs=>exact fun c hc=>X1.bj (List.all_eq_true.1 h c hc) n
structure aA where
 f:FuncId
 args:List XV
 hs:ah
 v:XV
 hs':ah
 ws:List Nat
def mS(n m:Nat):List Nat:=List.range' n (m-n)
structure aA.Sound(P:Program)(e:aA):Prop where
 le:e.hs.length<=e.hs'.length
 bnd:e.hs'.length<Mem.bound
 same:∀i,i<e.hs.length->i∉e.ws->e.hs'[i]? = e.hs[i]?
 call:∀M M',aZ M e.hs->aZ M' e.hs'->dZ P e.f e.args M e.v M'
def mX(m:Mem)(hs':ah):List Nat->Mem
 | []=>m
 | i::l=>mX (m.put i (hs'.getD i .dead)) hs' l
def i7(m:Mem):List aj->Mem
 | []=>m
 | o::l=>i7 ((m.push o).getD m) l
def aA.mem(e:aA)(m:Mem):Mem:=i7 (mX m e.hs' (e.ws.filter fun i=>decide (i<e.hs.length))) (e.hs'.drop e.hs.length)
theorem sV(hs':ah):∀(l:List Nat) (m:Mem),rQ m (mX m hs' l)
 | [],m => .same m
 | i::l,m => .trans (.put m i _) (sV hs' l _)
theorem oq:∀(l:List aj) (m:Mem),rQ m (i7 m l)
 | [],m => .same m
 | o::l,m=>by
   unfold i7
   cases h:m.push o with
   | none=>exact oq l m
   | some m'=>exact .trans (.push h) (oq l m')
theorem pE(hs':ah):∀(l:List Nat) (m:Mem) (hs:ah),aZ m hs->(∀i∈l,i<hs.length) ->
 ∃hs2,aZ (mX m hs' l) hs2/\hs2.length=hs.length/\(∀i,i∈l->hs2[i]? = some (hs'.getD i .dead))/\(∀i,i∉l->hs2[i]? = hs[i]?)/\∀j,j∉l->((mX m hs' l).fP j).ver=(m.fP j).ver
 | [],m,hs,h,_=>⟨hs,h,rfl,(fun i hi=>by cases hi),fun _ _=>rfl,fun _ _=>rfl⟩
 | i :: l,m,hs,h,hl=>by
   have hi:=hl i (List.mem_cons_self ..);have hg:hs[i]? = some hs[i]:=List.getElem?_eq_getElem hi;obtain⟨hs2,h1,h2,h3,h4,h5⟩:=pE hs' l (m.put i (hs'.getD i .dead)) (hs.set i (hs'.getD i .dead)) (h.put hg _) (fun j hj=>by rw[List.length_set];exact hl j (List.mem_cons_of_mem _ hj));refine⟨hs2,h1,by rw[h2,List.length_set],fun j hj=>?_,fun j hj=>?_,fun j hj=>?_⟩
   ·by_cases hjl:j∈l
    ·exact h3 j hjl
    ·rw[h4 j hjl]
     rcases List.mem_cons.1 hj with rfl|hj
     ·simp[hi]
     ·exact absurd hj hjl
   ·simp only[List.mem_cons,not_or]at hj;rw[h4 j hj.2,List.getElem?_set_ne (Ne.symm hj.1)]
   ·simp only[List.mem_cons,not_or]at hj;show((mX (m.put i (hs'.getD i .dead)) hs' l).fP j).ver=_;rw[h5 j hj.2,Mem.gR m _ hj.1]
theorem pD:∀(l:List aj) (m:Mem) (hs:ah),aZ m hs->hs.length+l.length<Mem.bound->aZ (i7 m l) (hs++l)/\∀j,j<hs.length->((i7 m l).fP j).ver=(m.fP j).ver
 | [],m,hs,h,_=>⟨by simpa [i7]using h,fun _ _=>rfl⟩
 | o::l,m,hs,h,hb=>by
   simp only[List.length_cons]at hb;obtain⟨m',h1,h2,h3⟩:=h.push o (by omega);have ih:=pD l m' (hs++[o]) h2 (by simp;omega);unfold i7;rw[h1];simp only[Option.getD_some];refine⟨by simpa using ih.1,fun j hj=>?_⟩;rw[ih.2 j (by simp;omega),h3 j (by simp;omega)]
theorem sU:∀(l:List aj) (m:Mem) (hs:ah),aZ m hs->hs.length+l.length<Mem.bound->∀j,hs.length+l.length<=j->((i7 m l).fP j).ver=(m.fP j).ver
 | [],m,hs,_,_,j,_=>rfl
 | o::l,m,hs,h,hb,j,hj=>by
   simp only[List.length_cons]at hb hj;obtain⟨m',h1,h2,h3⟩:=h.push o (by omega);unfold i7;rw[h1];simp only[Option.getD_some];rw[sU l m' (hs++[o]) h2 (by simp;omega) j (by simp;omega),h3 j (by simp;omega)]
theorem aA.Sound.holds{P:Program}{e:aA}(h:e.Sound P){m:Mem}(hm:aZ m e.hs):aZ (e.mem m) e.hs'/\rQ m (e.mem m)/\∀j,j∉e.ws++mS e.hs.length e.hs'.length->((e.mem m).fP j).ver=(m.fP j).ver:=by
 obtain⟨hs2,h1,h2,h3,h4,h5⟩:=pE e.hs' (e.ws.filter fun i=>decide (i<e.hs.length)) m e.hs hm (fun i hi=>by simpa using (List.mem_filter.1 hi).2);have hlen:(e.hs'.drop e.hs.length).length=e.hs'.length-e.hs.length:=List.length_drop ..;have hle:=h.le;have hb:=h.bnd;have h6:=pD (e.hs'.drop e.hs.length) _ hs2 h1 (by rw[h2,hlen];omega)
 have e1:hs2=e.hs'.take e.hs.length:=by
  apply List.ext_getElem?;intro i
  by_cases hi:i<e.hs.length
  ·rw[List.getElem?_take,if_pos hi]
   by_cases hw:i∈e.ws.filter fun i=>decide (i<e.hs.length)
   ·rw[h3 i hw,List.getD_eq_getElem?_getD,List.getElem?_eq_getElem (by omega)];rfl
   ·rw[h4 i hw,h.same i hi (fun hh=>hw (List.mem_filter.2 ⟨hh,by simpa using hi⟩))]
  ·rw[List.getElem?_eq_none (by omega),List.getElem?_eq_none (by simp;omega)]
 refine⟨?_,.trans (sV _ _ _) (oq _ _),fun j hj=>?_⟩
 ·have:=h6.1;rw[e1,List.take_append_drop]at this;exact this
 ·simp only[List.mem_append,not_or]at hj;have hv:∀j,j∉e.ws->((mX m e.hs' (e.ws.filter fun i=>decide (i<e.hs.length))).fP j).ver=(m.fP j).ver:=fun j hj=>h5 j fun hh=>hj (List.mem_filter.1 hh).1
  unfold aA.mem
  by_cases hjn:j<e.hs.length
  ·rw[h6.2 j (by omega),hv j hj.1]
  ·rw[sU _ _ hs2 h1 (by rw[h2,hlen];omega) j (by
    rw[h2,hlen];have:¬j<e.hs'.length:=fun hlt=>hj.2 (by unfold mS;rw[List.mem_range'_1];omega)
    omega),hv j hj.1]
open Classical in
noncomputable def vg(f:FuncId)(args:List XV)(m:Mem):List aA->Option aA
 | [] => .none
 | e::L=>if e.f=f/\e.args=args/\aZ m e.hs then some e else vg f args m L
theorem mV{f:FuncId}{args:List XV}{m:Mem}{e:aA}:∀{L:List aA},vg f args m L=some e->e∈L/\e.f=f/\e.args=args/\aZ m e.hs
 | [],h=>by cases h
 | e'::L,h=>by
   unfold vg at h;split at h
   ·rename_i hc;cases h;exact⟨List.mem_cons_self ..,hc⟩
   ·obtain⟨h1,h2⟩:=mV h;exact⟨List.mem_cons_of_mem _ h1,h2⟩
theorem xL{f:FuncId}{args:List XV}{m:Mem}{e:aA}(hc:e.f=f/\e.args=args/\aZ m e.hs):∀{L:List aA},e∈L->∃e',vg f args m L=some e'
 | e'::L,h=>by
   unfold vg;split
   ·exact⟨_,rfl⟩
   ·rename_i hn
    rcases List.mem_cons.1 h with rfl|h
    ·exact absurd hc hn
    ·exact xL hc h
theorem aZ.uniq{m:Mem}{hs hs2:ah}(h:aZ m hs)(h2:aZ m hs2):hs=hs2:=by
 have n1:=h.n;have n2:=h2.n;apply List.ext_getElem?;intro i
 by_cases hi:i<m.n
 ·rw[h.get? hi,h2.get? hi]
 ·rw[List.getElem?_eq_none (by omega),List.getElem?_eq_none (by omega)]
def Compat(e e':aA):Prop:=e.f=e'.f->e.args=e'.args->e.hs=e'.hs->e.v=e'.v/\e.hs'=e'.hs'/\e.ws=e'.ws
def ai(L:List aA):Prop:=∀e∈L,∀e'∈L,Compat e e'
theorem ai.nil:ai []:=fun _ h=>by cases h
theorem Compat.refl(e:aA):Compat e e:=fun _ _ _=>⟨rfl,rfl,rfl⟩
theorem Compat.symm{e e':aA}(h:Compat e e'):Compat e' e:=fun h1 h2 h3=>by
 obtain⟨k1,k2,k3⟩:=h h1.symm h2.symm h3.symm;exact⟨k1.symm,k2.symm,k3.symm⟩
theorem ai.cons{e:aA}{L:List aA}(h:∀e'∈L,Compat e e')(hL:ai L):ai (e::L):=by
 intro a ha b hb
 rcases List.mem_cons.1 ha with e1|h1
 ·rcases List.mem_cons.1 hb with e2|h2
  ·rw[e1,e2];exact Compat.refl _
  ·rw[e1];exact h b h2
 ·rcases List.mem_cons.1 hb with e2|h2
  ·rw[e2];exact(h a h1).symm
  ·exact hL a h1 b h2
theorem ai.one(e:aA):ai [e]:=ai.cons (fun _ h=>by cases h) ai.nil
theorem Compat.ne{e e':aA}(h:Nat.beq e.f e'.f=false):Compat e e':=fun h1=>by
 rw[h1]at h;have:Nat.beq e'.f e'.f=true:=Nat.beq_refl _;rw[this]at h;cases h
theorem ai.two{e e':aA}(h:Compat e e'):ai [e,e']:=ai.cons (fun x hx=>by simp only[List.mem_singleton]at hx;subst hx;exact h) (ai.one e')
def tC(e:aA):List aA->Prop
 | []=>True
 | e'::L=>Compat e e'/\tC e L
def NZ:List aA->Prop
 | []=>True
 | e::L=>tC e L/\NZ L
theorem tC.all{e:aA}:∀{L:List aA},tC e L->∀e'∈L,Compat e e'
 | [],_,e',h=>by cases h
 | a::L,h,e',h'=>by
   rcases List.mem_cons.1 h' with rfl|h'
   ·exact h.1
   ·exact h.2.all e' h'
theorem ai.pC:∀{L:List aA},NZ L->ai L
 | [],_=>ai.nil
 | _::_,h=>ai.cons h.1.all (ai.pC h.2)
noncomputable def Hh(L:List aA):db:=⟨fun f args m=>(vg f args m L).map fun e=>(e.v,e.mem m),fun _ _ => .none⟩
theorem qa{P:Program}{L:List aA}(h:∀e∈L,e.Sound P):aQ P (Hh L):=by
 refine⟨fun f args m v m' hc=>?_,fun f args m v m' hc=>?_,fun _ _ _ he=>by cases he⟩
 ·obtain⟨e,h1,h2⟩:=Option.map_eq_some_iff.1 hc;cases h2;obtain⟨hm,rfl,rfl,hh⟩:=mV h1;exact(h e hm).call m _ hh ((h e hm).holds hh).1
 ·obtain⟨e,h1,h2⟩:=Option.map_eq_some_iff.1 hc;cases h2;obtain⟨hm,rfl,rfl,hh⟩:=mV h1;exact((h e hm).holds hh).2.1
theorem Hi{L:List aA}(hc:ai L){e:aA}(he:e∈L){m:Mem}(hm:aZ m e.hs):(Hh L).call e.f e.args m=some (e.v,e.mem m):=by
 obtain⟨e',h1⟩:=xL (f:=e.f) (args:=e.args) (m:=m) ⟨rfl,rfl,hm⟩ he;obtain⟨h2,h3,h4,h5⟩:=mV h1;obtain⟨k1,k2,k3⟩:=hc e' h2 e he h3 h4 (h5.uniq hm);show(vg e.f e.args m L).map _=_;rw[h1];have k4:e'.hs=e.hs:=h5.uniq hm;simp only[Option.map_some,k1];unfold aA.mem;rw[k2,k3,k4]
def SK(P:Program)(ops:Array Oper)(nt:Nat)(L:List aA)(l:List Oper)(al:aL)(hs:ah)(K:List Ab->aL->ah->Prop):Prop:=
 ∃Lf,(∀e∈L,e∈Lf)/\(∀e∈Lf,e∈L\/e.Sound P)/\ai Lf/\nV (Hh Lf) P ops nt l al hs K
variable {P:Program} {ops:Array Oper} {nt nI:Nat} {al:aL} {hs:ah} {o:Oper} {l:List Oper} {L:List aA} {K:List Ab->aL->ah->Prop}
theorem SK.nil(hc:ai L)(h:K [] al hs):SK P ops nt L [] al hs K:=⟨L,fun _ h=>h,fun _ h => .inl h,hc,.nil h⟩
theorem SK.lift{x:XV}{hs1:ah}{b:Ab}{d:Nat}(hd:o.dst=some d)(hlt:Nat.blt d nt=true)(h:∀O,az O P ops al hs o x hs1 b)(hk:SK P ops nt L l ((d,x)::al) hs1 fun bs=>K (b::bs)):SK P ops nt L (o::l) al hs K:=by
 obtain⟨Lf,h1,h2,h3,h4⟩:=hk;exact⟨Lf,h1,h2,h3,.cons (h _) (by rw[hd];simpa [Nat.blt_eq]using hlt) (by rw[hd];exact h4)⟩
theorem SK.Eu{x:XV}{hs1:ah}{b:Ab}(hd:o.dst = .none)(h:∀O,az O P ops al hs o x hs1 b)(hk:SK P ops nt L l al hs1 fun bs=>K (b::bs)):SK P ops nt L (o::l) al hs K:=by
 obtain⟨Lf,h1,h2,h3,h4⟩:=hk;exact⟨Lf,h1,h2,h3,.cons (h _) (by rw[hd]) (by rw[hd];exact h4)⟩
theorem xj{Lf:List aA}(hc:ai Lf){e:aA}(he:e∈Lf)(hs0:e.hs=hs)(hsd:e.Sound P){g:Operand}{args:Array Operand}{ts:Array TypeId}(ho:o.op = .call ⟨.value g,args,ts⟩)(hw:aw ops (rg al) o=some true)
 {c:XC}(hg:ag (rg al) g = .one c) {caps:List XC}(hx:zS c=some (e.f,caps)) (hcb:eU P e.f=true) (ha:args.toList.map (ag (rg al))++caps.map .one=e.args) :
 az (Hh Lf) P ops al hs o e.v e.hs' ⟨true,.none,e.ws++mS e.hs.length e.hs'.length⟩:=by
 intro m hm;subst hs0;obtain⟨h1,_,h2⟩:=hsd.holds hm;refine⟨e.mem m,?_,h1,h2⟩;unfold iT;rw[hw]
 have e1:cN (Hh Lf) P (ag (rg al)) o.op m=some (e.v,e.mem m):=by
  rw[ho];simp only[cN,hg,hx,hcb,if_true,ha,Hi hc he hm]
 have n1:aT P (ag (rg al)) o.op = .none:=by rw[ho];rfl
 have n2:pk (Hh Lf) (ag (rg al)) o.op = .none:=by rw[ho];rfl
 have n3:eV P (ag (rg al)) o.op = .none:=by rw[ho];rfl
 have n4:bX P (ag (rg al)) o.op m = .none:=by rw[ho];rfl
 simp only[dE,dS,n1,n2,n3,n4,e1]
theorem ax{f:FuncId}{vs:List XV}{v:XV}{hs':ah}{ws:List Nat}(hi:aA.Sound P ⟨f,vs,hs,v,hs',ws⟩){g:Operand}{args:Array Operand}{ts:Array TypeId}(ho:o.op = .call ⟨.value g,args,ts⟩)(hw:aw ops (rg al) o=some true)
 {d:Nat}(hd:o.dst=some d) (hlt:Nat.blt d nt=true) {c:XC}(hg:ag (rg al) g = .one c) {caps:List XC}(hx:zS c=some (f,caps)) (hcb:eU P f=true) (ha:args.toList.map (ag (rg al))++caps.map .one=vs)
 (hk:SK P ops nt (⟨f,vs,hs,v,hs',ws⟩::L) l ((d,v)::al) hs' fun bs=>K (⟨true,.none,ws++mS hs.length hs'.length⟩::bs)):SK P ops nt L (o::l) al hs K:=by
 obtain⟨Lf,h1,h2,h3,h4⟩:=hk;refine⟨Lf,fun e he=>h1 e (List.mem_cons_of_mem _ he),fun e he=>?_,h3,.cons (xj h3 (h1 _ (List.mem_cons_self ..)) rfl hi ho hw hg hx hcb ha) (by rw[hd];simpa [Nat.blt_eq]using hlt) (by rw[hd];exact h4)⟩
 rcases h2 e he with h|h
 ·rcases List.mem_cons.1 h with rfl|h
  ·exact .inr hi
  ·exact .inl h
 ·exact .inr h
theorem Kv{f:FuncId}{vs:List XV}{v:XV}{hs':ah}{ws:List Nat}(hi:aA.Sound P ⟨f,vs,hs,v,hs',ws⟩){g:Operand}{args:Array Operand}{ts:Array TypeId}(ho:o.op = .call ⟨.value g,args,ts⟩)(hw:aw ops (rg al) o=some true)
 (hd:o.dst = .none) {c:XC}(hg:ag (rg al) g = .one c) {caps:List XC}(hx:zS c=some (f,caps)) (hcb:eU P f=true) (ha:args.toList.map (ag (rg al))++caps.map .one=vs)
 (hk:SK P ops nt (⟨f,vs,hs,v,hs',ws⟩::L) l al hs' fun bs=>K (⟨true,.none,ws++mS hs.length hs'.length⟩::bs)):SK P ops nt L (o::l) al hs K:=by
 obtain⟨Lf,h1,h2,h3,h4⟩:=hk;refine⟨Lf,fun e he=>h1 e (List.mem_cons_of_mem _ he),fun e he=>?_,h3,.cons (xj h3 (h1 _ (List.mem_cons_self ..)) rfl hi ho hw hg hx hcb ha) (by rw[hd]) (by rw[hd];exact h4)⟩
 rcases h2 e he with h|h
 ·rcases List.mem_cons.1 h with rfl|h
  ·exact .inr hi
  ·exact .inl h
 ·exact .inr h
theorem vV(τ : Nat->Nat)(hs:ah):View τ hs []:=⟨fun _ h=>absurd h (Nat.not_lt_zero _),fun _ _ _ _ h=>by simp at h,fun _ _ h=>by simp at h,fun _ _ h=>by simp at h⟩
theorem ay{f:FuncId}{args:List XV}{v:XV}(hc:bm P f args [] v [])(ha:(args.all XV.shut)=true)(hv:v.shut=true)(hb:Nat.blt hs.length Mem.bound=true):aA.Sound P ⟨f,args,hs,v,hs,[]⟩:=by
 have ha':∀x∈args,x.shut=true:=List.all_eq_true.1 ha;refine⟨Nat.le_refl _,by simpa [Nat.blt_eq]using hb,fun _ _ _=>rfl,fun M M' hM hM'=>?_⟩;have:=Cl hc (Nat.le_refl _) (by decide) (ρ:=id) (HS:=hs) (HS':=hs) (vV _ _) (fun x hx=>XV.kr (ha' x hx) _) ⟨by simp,fun _ _ h=>by simp at h,fun _ _ _=>rfl⟩ (fun _ _ h=>by simp at h) hM hM';rw[lG ha',XV.dO hv]at this;exact this
theorem F_{f:FuncId}{args args':List XV}{hs0:ah}{v v':XV}(hc:bm P f args hs0 v hs0){ρ : Nat->Nat}(hview:View ρ hs hs0)(hlive:∀o∈hs0,o.live=true)(ha:∀x∈args,x.bt hs0.length)(e1:args.map (·.aC ρ)=args')(hv:v.bt hs0.length)(e2:v.aC ρ = v')(hb:Nat.blt hs.length Mem.bound=true)(hb0:Nat.blt hs0.length Mem.bound=true) :
 aA.Sound P ⟨f,args',hs,v',hs,[]⟩:=by
 refine⟨Nat.le_refl _,by simpa [Nat.blt_eq]using hb,fun _ _ _=>rfl,fun M M' hM hM'=>?_⟩;have key:∀j,j<hs0.length->beyond ρ hs0.length hs.length j = ρ j:=fun j hj=>if_pos hj
 have kc:∀c:XC,c.ok hs0.length->c.aC (beyond ρ hs0.length hs.length)=c.aC ρ:=by
  intro c
  induction c with
  | ptr i off=>exact fun h=>by simp only[XC.aC,key i h]
  | slice i off len cap=>exact fun h=>by simp only[XC.aC,key i h]
  | map i=>exact fun h=>by simp only[XC.aC,key i h]
  | lsl g k off len fl cut=>exact fun h=>by simp only[XC.aC,key g h]
  | lpt g k off=>exact fun h=>by simp only[XC.aC,key g h]
  | bind g c ih1 ih2=>exact fun h=>by simp only[XC.aC,ih1 h.1,ih2 h.2]
  | _=>intro _;rfl
 have kcs:∀cs:List XC,(∀c∈cs,c.ok hs0.length)->cs.map (·.aC (beyond ρ hs0.length hs.length))=cs.map (·.aC ρ):=fun cs h=>List.map_congr_left fun c hc=>kc c (h c hc)
 have k1:∀x:X1,x.ok hs0.length->x.aC (beyond ρ hs0.length hs.length)=x.aC ρ:=fun x h=>by
  cases x with
  | one c=>simp only[X1.aC,kc c h]
  | agg cs=>simp only[X1.aC,kcs cs h]
 have kv:∀x:XV,x.bt hs0.length->x.aC (beyond ρ hs0.length hs.length)=x.aC ρ:=fun x h=>by
  cases x with
  | undef=>rfl
  | one c=>simp only[XV.aC,kc c h]
  | agg cs=>simp only[XV.aC,kcs cs h]
  | tup xs=>simp only[XV.aC];rw[List.map_congr_left fun c hc=>k1 c (h c hc)]
 have ko:∀x:aj,x.bt hs0.length->x.aC (beyond ρ hs0.length hs.length)=x.aC ρ:=fun x h=>by
  cases x with
  | dead=>rfl
  | late L=>rfl
  | cells vs e a b=>simp only[aj.aC,kcs vs h]
  | map es=>simp only[aj.aC];rw[List.map_congr_left fun p hp=>by rw[k1 _ (h p hp).1,k1 _ (h p hp).2]]
 have:=Cl hc (Nat.le_refl _) (by simpa [Nat.blt_eq]using hb0) (HS:=hs) (HS':=hs) hview ha ⟨by simp,fun j o h=>?_,fun _ _ _=>rfl⟩ (fun j o h hl _=>⟨o,h,hl⟩) hM hM'
 ·rw[e1,kv v hv,e2]at this;exact this
 ·have hj:j<hs0.length:=(List.getElem?_eq_some_iff.1 h).1;rw[key j hj,ko o (hview.ok j o h)]
  rcases hview.obj j o h with e|e
  ·have:=hlive o (List.mem_of_getElem? h);rw[e]at this;cases this
  ·exact e
theorem tK{f:FuncId}{args args':List XV}{hs0 hs0' hs':ah}{v v':XV}{ws:List Nat}(hc:bm P f args hs0 v hs0'){ρ : Nat->Nat}(hle:hs0.length<=hs0'.length)(hview:View ρ hs hs0)(ha:∀x∈args,x.bt hs0.length)(e1:args.map (·.aC ρ)=args')(e2:v.aC (beyond ρ hs0.length hs.length)=v')(haf:NY ρ hs0.length hs hs0' hs')(hro:∀(j:Nat) (o:aj),hs0'[j]? = some o->o.live=true->o.own=false->∃o0,hs0[j]? = some o0/\o0.live=true)
 (hsame:∀i,i<hs.length->i∉ws->hs'[i]? = hs[i]?) (hb:Nat.blt hs'.length Mem.bound=true) (hb0:Nat.blt hs0.length Mem.bound=true):aA.Sound P ⟨f,args',hs,v',hs',ws⟩:=by
 have hl:=haf.len;refine⟨by show hs.length<=hs'.length;omega,by simpa [Nat.blt_eq]using hb,hsame,fun M M' hM hM'=>?_⟩;have:=Cl hc hle (by simpa [Nat.blt_eq]using hb0) hview ha haf hro hM hM';rw[e1,e2]at this;exact this
section
variable {K:ca}
theorem WX.Ra{id:Nat}(h:SK P ops nt [] ops.toList al hs fun _ al' hs'=>K .normal al' hs'):WX P nt nI (.code (.region id ops false)) al hs K:=by
 obtain⟨Lf,h1,h2,h3,h4⟩:=h;exact WX.SU (qa fun e he=>(h2 e he).resolve_left (by simp)) h4
theorem WX.OV(hP:P.follows .mixedOrders=true){id:Nat}(hst:cS ops nt (iM ops.toList)=true)(h:SK P ops nt [] ops.toList al hs fun bs al' hs'=>xl (iM ops.toList) bs=true/\K .normal al' hs'):WX P nt nI (.code (.region id ops true)) al hs K:=by
 obtain⟨Lf,h1,h2,h3,h4⟩:=h;exact WX.Rt (qa fun e he=>(h2 e he).resolve_left (by simp)) hP hst h4
end
end Go.Xm
namespace Go.Xm
variable [av]
def iq(m m':Mem):Prop:=m.n<=Mem.bound->m'.n<=Mem.bound/\m.n<=m'.n/\∀j,j<m'.n->(m'.get j).live=true->(m'.get j).own=true\/(j<m.n/\m.get j=m'.get j)
theorem iq.same(m:Mem):iq m m:=fun hb=>⟨hb,Nat.le_refl _,fun j hj _ => .inr ⟨hj,rfl⟩⟩
theorem iq.trans{a b c:Mem}(h1:iq a b)(h2:iq b c):iq a c:=fun hb=>by
 obtain⟨k1,k2,k3⟩:=h1 hb;obtain⟨l1,l2,l3⟩:=h2 k1;refine⟨l1,Nat.le_trans k2 l2,fun j hj hl=>?_⟩
 rcases l3 j hj hl with h|⟨h,he⟩
 ·exact .inl h
 ·rcases k3 j h (by rw[he];exact hl)with h'|⟨h',he'⟩
  ·exact .inl (by rw[<-he];exact h')
  ·exact .inr ⟨h',he'.trans he⟩
theorem iq.put(m:Mem)(i:Nat){o:aj}(ho:o.own=true\/o.live=false):iq m (m.put i o):=fun hb=>by
 refine⟨by rw[Mem.ej];exact hb,by rw[Mem.ej];exact Nat.le_refl _,fun j hj hl=>?_⟩;rw[Mem.ej]at hj
 by_cases hji:j=i
 ·subst hji;rw[Mem.ff m o hj (by omega)]at hl ⊢
  rcases ho with h|h
  ·exact .inl h
  ·rw[h]at hl;cases hl
 ·have:(m.put i o).get j=m.get j:=by
   show((m.put i o).fP j).obj=(m.fP j).obj;rw[Mem.gR m o hji]
  exact .inr ⟨hj,this.symm⟩
theorem iq.push{m m':Mem}{o:aj}(ho:o.own=true\/o.live=false)(h:m.push o=some m'):iq m m':=fun hb=>by
 obtain⟨h1,h2,h3,h4⟩:=Mem.bK h;refine⟨by omega,by omega,fun j hj hl=>?_⟩
 by_cases hjn:j=m.n
 ·subst hjn;have:m'.get m.n=o:=by show(m'.fP m.n).obj=o;rw[h3]
  rw[this]at hl ⊢
  rcases ho with h|h
  ·exact .inl h
  ·rw[h]at hl;cases hl
 ·have:m'.get j=m.get j:=by
   show(m'.fP j).obj=(m.fP j).obj;rw[h4 j hjn]
  exact .inr ⟨by omega,this.symm⟩
theorem HD{P:Program}{ρ : Operand->XV}{op:Op}{m m':Mem}{r:XV}(h:bX P ρ op m=some (r,m')):iq m m':=by
 unfold bX nc HB zw kR eo mo gZ gY gP v7 at h
 (repeat' split at h)<;>first
   | (cases h;done)
   | (cases h;exact .same _)
   | (cases h;exact .put _ _ (.inl rfl))
   | (cases h;exact .push (.inl rfl) ‹_›)
   | (cases h;exact .trans (.put _ _ (.inr rfl)) (.push (.inl rfl) ‹_›))
def yT(o:Oper):Bool:=match o.op with
 | .call ⟨.value _,_,_⟩=>false
 | _=>true
theorem QE{O : db}{P:Program}{ops:Array Oper}{g:Nat->XV}{o:Oper}{m:Mem}{d:Out}(hn:yT o=true)(h:iT O P ops g o m=some d):iq m d.m:=by
 unfold iT at h;split at h
 ·unfold dE at h;split at h
  ·cases h;exact .same _
  ·split at h
   ·split at h
    ·cases h;exact .same _
    ·cases h
   ·split at h
    ·rename_i x m' hx;cases h;exact HD hx
    ·split at h
     ·rename_i x m' hx;exfalso;unfold cN at hx;split at hx
      ·rename_i hop;unfold yT at hn;rw[hop]at hn;cases hn
      ·cases hx
     ·cases h
 ·cases h;exact .same _
 ·cases h
end Go.Xm
namespace Go.Xm
variable [av]
variable {P:Program} {ops:Array Oper} {nt nI:Nat} {al:aL} {hs:ah} {o:Oper} {l:List Oper} {L:List aA} {K:List Ab->aL->ah->Prop} {d:Nat}
theorem E2{a:Operand}(ho:o.op = .move a)(hw:aw ops (rg al) o=some true)(hd:o.dst=some d)(hlt:Nat.blt d nt=true){c:XV}(ha:ag (rg al) a=c)
 (hk:SK P ops nt L l ((d,c)::al) hs fun bs=>K (quiet::bs)):SK P ops nt L (o::l) al hs K:=
 SK.lift hd hlt (fun _=>az.pure hw (by rw[ho];simp only[aT,ha])) hk
theorem GY{a:Operand}(ho:o.op = .assign a)(hw:aw ops (rg al) o=some true)(hd:o.dst=some d)(hlt:Nat.blt d nt=true){c:XV}(ha:ag (rg al) a=c)
 (hk:SK P ops nt L l ((d,c)::al) hs fun bs=>K (quiet::bs)):SK P ops nt L (o::l) al hs K:=
 SK.lift hd hlt (fun _=>az.pure hw (by rw[ho];simp only[aT,ha])) hk
theorem KE{a b c:Operand}(ho:o.op = .pick c a b)(hw:aw ops (rg al) o=some true)(hd:o.dst=some d)(hlt:Nat.blt d nt=true)(hc:ag (rg al) c = .one (.bool true)){x:Bool}(ha:ag (rg al) a = .one (.bool x))
 (hk:SK P ops nt L l ((d,.one (.bool x))::al) hs fun bs=>K (quiet::bs)):SK P ops nt L (o::l) al hs K:=
 SK.lift hd hlt (fun _=>az.pure hw (by rw[ho];simp only[aT,hc,if_true,ha])) hk
theorem KD{a b c:Operand}(ho:o.op = .pick c a b)(hw:aw ops (rg al) o=some true)(hd:o.dst=some d)(hlt:Nat.blt d nt=true)(hc:ag (rg al) c = .one (.bool false)){x:Bool}(ha:ag (rg al) b = .one (.bool x))
 (hk:SK P ops nt L l ((d,.one (.bool x))::al) hs fun bs=>K (quiet::bs)):SK P ops nt L (o::l) al hs K:=
 SK.lift hd hlt (fun _=>az.pure hw (by rw[ho];simp only[aT,hc,Bool.false_eq_true,if_false,ha])) hk
theorem Qd{a:Operand}{t:TypeId}(ho:o.op = .unOp .not t a)(hw:aw ops (rg al) o=some true)(hd:o.dst=some d)(hlt:Nat.blt d nt=true){x y:Bool}(ha:ag (rg al) a = .one (.bool x))(hy:(!x)=y)
 (hk:SK P ops nt L l ((d,.one (.bool y))::al) hs fun bs=>K (quiet::bs)):SK P ops nt L (o::l) al hs K:=
 SK.lift hd hlt (fun _=>az.pure hw (by rw[ho];simp only[aT,ha,Sn,hy])) hk
section
variable {t t':TypeId} {a b:Operand} {k k' k'':IntKind} {x y z:Int}
theorem gz{op:BinOp}(ho:o.op = .binOp op t a b t')(hw:aw ops (rg al) o=some true)(hd:o.dst=some d)(hlt:Nat.blt d nt=true)(ha:ag (rg al) a = .one (.int k x))(hb:ag (rg al) b = .one (.int k' y))
 (hc:bE op k k' x y=some (.int k'' z)) (hk:SK P ops nt L l ((d,.one (.int k'' z))::al) hs fun bs=>K (quiet::bs)):SK P ops nt L (o::l) al hs K:=
 SK.lift hd hlt (fun _=>az.bin hw ho ha hb hc) hk
theorem Qe(ho:o.op = .binOp .rem t a b t')(hw:aw ops (rg al) o=some true)(hd:o.dst=some d)(hlt:Nat.blt d nt=true)(ha:ag (rg al) a = .one (.int k x))(hb:ag (rg al) b = .one (.int k y))
 (hx:0<=x) (hy:y≠0) (hk:SK P ops nt L l ((d,.one (.int k (x%y)))::al) hs fun bs=>K (quiet::bs)):SK P ops nt L (o::l) al hs K:=
 gz ho hw hd hlt ha hb (by simp only[bE,dT,if_true,hy,if_false,Int.tmod_eq_emod_of_nonneg hx]) hk
theorem KB{ts:Array TypeId}(ho:o.op = .call ⟨.builtin .max,#[a,b],ts⟩)(hw:aw ops (rg al) o=some true)(hd:o.dst=some d)(hlt:Nat.blt d nt=true)(ha:ag (rg al) a = .one (.int k x))(hb:ag (rg al) b = .one (.int k' y))(hz:max x y=z)
 (hk:SK P ops nt L l ((d,.one (.int k z))::al) hs fun bs=>K (quiet::bs)):SK P ops nt L (o::l) al hs K:=
 SK.lift hd hlt (fun _=>az.pure hw (by
  have e:(if y>x then y else x)=z:=by rw[<-hz,Int.max_def];by_cases h:y>x<;>by_cases h':x<=y<;>simp[h,h']<;>omega
  rw[ho];simp only[aT,dv,List.map_cons,List.map_nil,ha,hb,kO,e,Option.map_some])) hk
theorem KC{ts:Array TypeId}(ho:o.op = .call ⟨.builtin .min,#[a,b],ts⟩)(hw:aw ops (rg al) o=some true)(hd:o.dst=some d)(hlt:Nat.blt d nt=true)(ha:ag (rg al) a = .one (.int k x))(hb:ag (rg al) b = .one (.int k' y))(hz:min x y=z)
 (hk:SK P ops nt L l ((d,.one (.int k z))::al) hs fun bs=>K (quiet::bs)):SK P ops nt L (o::l) al hs K:=
 SK.lift hd hlt (fun _=>az.pure hw (by
  have e:(if y<x then y else x)=z:=by rw[<-hz,Int.min_def];by_cases h:y<x<;>by_cases h':x<=y<;>simp[h,h']<;>omega
  rw[ho];simp only[aT,dv,List.map_cons,List.map_nil,ha,hb,kP,e,Option.map_some])) hk
end
theorem EZ{s t:TypeId}{y:Operand}{u:TypeDesc}(ho:o.op = .convert s t y)(hw:aw ops (rg al) o=some true)(hd:o.dst=some d)(hlt:Nat.blt d nt=true){k k':IntKind}{x z:Int}(hy:ag (rg al) y = .one (.int k x))[aG P s u][h:aG P t (.int k')](hz:k'.wrap x=z)
 (hk:SK P ops nt L l ((d,.one (.int k' z))::al) hs fun bs=>K (quiet::bs)):SK P ops nt L (o::l) al hs K:=
 SK.lift hd hlt (fun _=>az.conv hw ho hy (by simp only[jx,aG.out (P:=P) (t:=s),aG.out (P:=P) (t:=t)]) hz) hk
theorem Qc{a:Operand}(ho:o.op = .nilCheck a)(hw:aw ops (rg al) o=some true)(hd:o.dst=some d)(hlt:Nat.blt d nt=true){i off:Nat}(ha:ag (rg al) a = .one (.ptr i off))
 (hk:SK P ops nt L l ((d,.one (.ptr i off))::al) hs fun bs=>K (quiet::bs)):SK P ops nt L (o::l) al hs K:=
 SK.lift hd hlt (fun _=>az.pure hw (by rw[ho];simp only[aT,ha,mu])) hk
theorem P_{s:TypeId}{a:Operand}{f:Nat}(ho:o.op = .fieldAddr s a f)(hw:aw ops (rg al) o=some true)(hd:o.dst=some d)(hlt:Nat.blt d nt=true){i off:Nat}(ha:ag (rg al) a = .one (.ptr i off)){ft:TypeId}{fo z:Nat}[hf:bH P s f ft fo][hz:aF P ft (z+1)]
 {p:Nat}(hp:off+fo=p) (hk:SK P ops nt L l ((d,.one (.ptr i p))::al) hs fun bs=>K (quiet::bs)):SK P ops nt L (o::l) al hs K:=by
 obtain⟨fd,h1,h2,h3⟩:=hf.ex;exact SK.lift hd hlt (fun _=>az.pure hw (by rw[ho];simp only[aT,eD,h1,ha,h2,hz.out,h3,hp])) hk
theorem Nl{t:TypeId}{a b:Operand}{len:Nat}{elem:TypeId}{s:Nat}(ho:o.op = .indexAddr t a b)(hw:aw ops (rg al) o=some true)(hd:o.dst=some d)(hlt:Nat.blt d nt=true){i off:Nat}(ha:ag (rg al) a = .one (.ptr i off)){k:IntKind}{z:Int}(hb:ag (rg al) b = .one (.int k z))[hu:aG P t (.array len elem)][hs':aF P elem s](hz:0<=z/\z<len)
 {p:Nat}(hp:off+z.toNat*s=p) (hk:SK P ops nt L l ((d,.one (.ptr i p))::al) hs fun bs=>K (quiet::bs)):SK P ops nt L (o::l) al hs K:=
 SK.lift hd hlt (fun _=>az.pure hw (by rw[ho];simp only[aT,b9,ha,hb,hu.out,hs'.out,if_pos hz,Option.map_some,hp])) hk
theorem E0{t:TypeId}{a b:Operand}{elem:TypeId}{s:Nat}(ho:o.op = .indexAddr t a b)(hw:aw ops (rg al) o=some true)(hd:o.dst=some d)(hlt:Nat.blt d nt=true){i off len:Nat}{cap:nQ}(ha:ag (rg al) a = .one (.slice i off len cap)){k:IntKind}{z:Int}(hb:ag (rg al) b = .one (.int k z))[hu:aG P t (.slice elem)][hs':aF P elem s](hz:0<=z/\z<len)
 {p:Nat}(hp:off+z.toNat*s=p) (hk:SK P ops nt L l ((d,.one (.ptr i p))::al) hs fun bs=>K (quiet::bs)):SK P ops nt L (o::l) al hs K:=
 SK.lift hd hlt (fun _=>az.pure hw (by rw[ho];simp only[aT,b9,ha,hb,hu.out,hs'.out,if_pos hz,Option.map_some,hp])) hk
theorem Kw{s:TypeId}{a:Operand}{f:Nat}(ho:o.op = .field s a f)(hw:aw ops (rg al) o=some true)(hd:o.dst=some d)(hlt:Nat.blt d nt=true){cs:List XC}(ha:ag (rg al) a = .agg cs){ft:TypeId}{fo:Nat}[hf:bH P s f ft fo][hz:cE P ft]{c:XC}(hc:cs[fo]? = some c)
 (hk:SK P ops nt L l ((d,.one c)::al) hs fun bs=>K (quiet::bs)):SK P ops nt L (o::l) al hs K:=by
 obtain⟨fd,h1,h2,h3⟩:=hf.ex;exact SK.lift hd hlt (fun _=>az.pure hw (by rw[ho];simp only[aT,zt,h1,ha,h2,h3,mw,hz.out,hc,Option.map_some,X1.pj])) hk
theorem P9{a:Operand}{i:Nat}(ho:o.op = .extract a i)(hw:aw ops (rg al) o=some true)(hd:o.dst=some d)(hlt:Nat.blt d nt=true){vs:List X1}(ha:ag (rg al) a = .tup vs){c:XC}(hc:vs[i]? = some (.one c))
 (hk:SK P ops nt L l ((d,.one c)::al) hs fun bs=>K (quiet::bs)):SK P ops nt L (o::l) al hs K:=
 SK.lift hd hlt (fun _=>az.pure hw (by rw[ho];simp only[aT,ha,jy,hc,Option.map_some,X1.pj])) hk
theorem Nj{a:Operand}{i:Nat}(ho:o.op = .extract a i)(hw:aw ops (rg al) o=some true)(hd:o.dst=some d)(hlt:Nat.blt d nt=true){vs:List X1}(ha:ag (rg al) a = .tup vs){c:List XC}(hc:vs[i]? = some (.agg c))
 (hk:SK P ops nt L l ((d,.agg c)::al) hs fun bs=>K (quiet::bs)):SK P ops nt L (o::l) al hs K:=
 SK.lift hd hlt (fun _=>az.pure hw (by rw[ho];simp only[aT,ha,jy,hc,Option.map_some,X1.pj])) hk
theorem No{a:Operand}{t:TypeId}{elem:TypeId}(ho:o.op = .call ⟨.builtin .len,#[a],#[t]⟩)(hw:aw ops (rg al) o=some true)(hd:o.dst=some d)(hlt:Nat.blt d nt=true){i off len:Nat}{cap:nQ}(ha:ag (rg al) a = .one (.slice i off len cap))[hu:aG P t (.slice elem)]
 (hk:SK P ops nt L l ((d,.one (.int .i64 (len:Nat)))::al) hs fun bs=>K (quiet::bs)):SK P ops nt L (o::l) al hs K:=
 SK.lift hd hlt (fun _=>az.pure hw (by rw[ho];simp[aT,dv,ha,tv,hu.out])) hk
theorem fJ{t:TypeId}{a:Operand}(ho:o.op = .load t a)[ht:cE P t](hw:aw ops (rg al) o=some true)(hd:o.dst=some d)(hlt:Nat.blt d nt=true){i off:Nat}(ha:ag (rg al) a = .one (.ptr i off)){vs:List XC}{e:TypeId}{opn ro:Bool}(hi:hs[i]? = some (.cells vs e opn ro)){c:XC}(hc:vs[off]? = some c)
 (hk:SK P ops nt L l ((d,.one c)::al) hs fun bs=>K (⟨false,some i,[]⟩::bs)):SK P ops nt L (o::l) al hs K:=
 SK.lift hd hlt (fun _=>az.load hw ho ha hi (AJ ht.out hc)) hk
theorem Db{t:TypeId}{a:Operand}{s:Nat}(ho:o.op = .load t a)[ht:da P t][hs':aF P t s](hw:aw ops (rg al) o=some true)(hd:o.dst=some d)(hlt:Nat.blt d nt=true){i:Nat}(ha:ag (rg al) a = .one (.ptr i 0)){vs:List XC}{e:TypeId}{opn ro:Bool}(hi:hs[i]? = some (.cells vs e opn ro))(hle:s=vs.length)
 (hk:SK P ops nt L l ((d,.agg vs)::al) hs fun bs=>K (⟨false,some i,[]⟩::bs)):SK P ops nt L (o::l) al hs K:=
 SK.lift hd hlt (fun _=>az.load (x := .agg vs) hw ho ha hi (AI ht.out (by rw[hs'.out,hle]))) hk
theorem vI{t:TypeId}{a:Operand}{s:Nat}(ho:o.op = .load t a)[ht:da P t][hs':aF P t s](hw:aw ops (rg al) o=some true)(hd:o.dst=some d)(hlt:Nat.blt d nt=true){i off:Nat}(ha:ag (rg al) a = .one (.ptr i off)){vs:List XC}{e:TypeId}{opn ro:Bool}(hi:hs[i]? = some (.cells vs e opn ro))(hle:off+s<=vs.length){cs:List XC}(hc:(vs.drop off).take s=cs)
 (hk:SK P ops nt L l ((d,.agg cs)::al) hs fun bs=>K (⟨false,some i,[]⟩::bs)):SK P ops nt L (o::l) al hs K:=
 SK.lift hd hlt (fun _=>az.load (x := .agg cs) hw ho ha hi (by simp only[dC,ht.out,hs'.out,if_pos hle,hc])) hk
theorem Ku{t:TypeId}{zs:List XC}(ho:o.op = .alloc t)[hz:aK P t zs](hw:aw ops (rg al) o=some true)(hd:o.dst=some d)(hlt:Nat.blt d nt=true){n:Nat}(hn:hs.length=n)(hb:Nat.blt n Mem.bound=true){hs':ah}(hh:hs++[.cells zs t false false]=hs')
 (hk:SK P ops nt L l ((d,.one (.ptr n 0))::al) hs' fun bs=>K (⟨true,.none,[n]⟩::bs)):SK P ops nt L (o::l) al hs K:=by
 subst hn hh;exact SK.lift hd hlt (fun _=>az.alloc hw ho hz.out hb) hk
theorem P6{t:TypeId}{y:Operand}(ho:o.op = .box t y)(hw:aw ops (rg al) o=some true)(hd:o.dst=some d)(hlt:Nat.blt d nt=true){cs:List XC}(hy:cJ (ag (rg al) y)=some cs){n:Nat}(hn:hs.length=n)(hb:Nat.blt n Mem.bound=true){hs':ah}(hh:hs++[.cells cs t false false]=hs')
 (hk:SK P ops nt L l ((d,.one (.ptr n 0))::al) hs' fun bs=>K (⟨true,.none,[n]⟩::bs)):SK P ops nt L (o::l) al hs K:=by
 subst hn hh;exact SK.lift hd hlt (fun _=>az.box hw ho hy hb) hk
theorem kD{t:TypeId}{a y:Operand}(ho:o.op = .store t a y)[ht:aF P t 1](hw:aw ops (rg al) o=some true)(hd:o.dst = .none){i off:Nat}(ha:ag (rg al) a = .one (.ptr i off)){c:XC}(hy:cJ (ag (rg al) y)=some [c]){vs:List XC}{e:TypeId}{opn:Bool}(hi:hs[i]? = some (.cells vs e opn false))(hle:off<vs.length)
 {vs':List XC}(hv:vs.set off c=vs') {hs':ah}(hh:hs.set i (.cells vs' e opn false)=hs') (hk:SK P ops nt L l al hs' fun bs=>K (⟨true,.none,[i]⟩::bs)):SK P ops nt L (o::l) al hs K:=by
 subst hv hh;exact SK.Eu hd (fun _=>az.store hw ho ha hy ht.out hi (by simp only[List.length_cons,List.length_nil];omega) (He hle)) hk
theorem G7{t:TypeId}{a y:Operand}{s:Nat}(ho:o.op = .store t a y)[ht:aF P t s](hw:aw ops (rg al) o=some true)(hd:o.dst = .none){i:Nat}(ha:ag (rg al) a = .one (.ptr i 0)){cs:List XC}(hy:cJ (ag (rg al) y)=some cs){vs:List XC}{e:TypeId}{opn:Bool}(hi:hs[i]? = some (.cells vs e opn false))(hs1:s=cs.length)(hs2:s=vs.length)
 {hs':ah}(hh:hs.set i (.cells cs e opn false)=hs') (hk:SK P ops nt L l al hs' fun bs=>K (⟨true,.none,[i]⟩::bs)):SK P ops nt L (o::l) al hs K:=by
 subst hh;exact SK.Eu hd (fun _=>az.store hw ho ha hy (by rw[ht.out,hs1]) hi (by omega) (Hc (by omega))) hk
theorem G8{t:TypeId}{a y:Operand}{s:Nat}(ho:o.op = .store t a y)[ht:aF P t s](hw:aw ops (rg al) o=some true)(hd:o.dst = .none){i off:Nat}(ha:ag (rg al) a = .one (.ptr i off)){cs:List XC}(hy:cJ (ag (rg al) y)=some cs){vs:List XC}{e:TypeId}{opn:Bool}(hi:hs[i]? = some (.cells vs e opn false))(hs1:s=cs.length)(hs2:off+s<=vs.length)
 {vs':List XC}(hv:vs.take off++cs++vs.drop (off+s)=vs') {hs':ah}(hh:hs.set i (.cells vs' e opn false)=hs') (hk:SK P ops nt L l al hs' fun bs=>K (⟨true,.none,[i]⟩::bs)):SK P ops nt L (o::l) al hs K:=by
 subst hh;exact SK.Eu hd (fun _=>az.store hw ho ha hy (by rw[ht.out,hs1]) hi (by omega) (by rw[<-hs1];exact hv)) hk
theorem Np(hw:aw ops (rg al) o=some false)(hd:o.dst=some d)(hlt:Nat.blt d nt=true)(hk:SK P ops nt L l ((d,.tup [])::al) hs fun bs=>K (quiet::bs)):SK P ops nt L (o::l) al hs K:=
 SK.lift hd hlt (fun _=>az.skip hw) hk
theorem lr(hw:aw ops (rg al) o=some true)(hd:o.dst=some d)(hlt:Nat.blt d nt=true){x:XV}(h:aT P (ag (rg al)) o.op=some x)(hk:SK P ops nt L l ((d,x)::al) hs fun bs=>K (quiet::bs)):SK P ops nt L (o::l) al hs K:=
 SK.lift hd hlt (fun _=>az.pure hw h) hk
theorem bP(hc:ai L)(h:K [] al hs):SK P ops nt L [] al hs K:=SK.nil hc h
theorem XC.iE:∀c:XC,c.aC id=c:=by
 intro c
 induction c with
 | bind g c ih1 ih2=>simp only[XC.aC,ih1,ih2]
 | _=>rfl
theorem X1.iE(x:X1):x.aC id=x:=by
 cases x with
 | one c=>simp only[X1.aC,XC.iE]
 | agg cs=>simp only[X1.aC];rw[show(fun c:XC=>c.aC id)=id from funext XC.iE,List.map_id]
theorem aj.iE(x:aj):x.aC id=x:=by
 cases x with
 | dead=>rfl
 | late L=>rfl
 | cells vs e a b=>simp only[aj.aC];rw[show(fun c:XC=>c.aC id)=id from funext XC.iE,List.map_id]
 | map es=>simp only[aj.aC,X1.iE];simp
theorem XV.iE(x:XV):x.aC id=x:=by
 cases x with
 | undef=>rfl
 | one c=>simp only[XV.aC,XC.iE]
 | agg cs=>simp only[XV.aC];rw[show(fun c:XC=>c.aC id)=id from funext XC.iE,List.map_id]
 | tup xs=>simp only[XV.aC];rw[show(fun c:X1=>c.aC id)=id from funext X1.iE,List.map_id]
section
variable {K:ca}
theorem WX.Rq{c:Operand}{x y:Code}(hc:ag (rg al) c = .one (.bool true))(h:WX P nt nI (.code x) al hs K):WX P nt nI (.code (.cond c x y)) al hs K:=
 WX.cond hc (fun _=>h) (fun h=>by cases h)
theorem WX.Rp{c:Operand}{x y:Code}(hc:ag (rg al) c = .one (.bool false))(h:WX P nt nI (.code y) al hs K):WX P nt nI (.code (.cond c x y)) al hs K:=
 WX.cond hc (fun h=>by cases h) (fun _=>h)
theorem Er{fn:Func}{n:Nat}{e:XE}{v1 v:XV}{hs':ah}(τ : Nat->Nat)(he:e = .normal\/e = .ret)(hr:th P fn al hs v1)(hv:v1=v.aC τ)(hok:v.bt hs'.length)(hview:View τ hs hs')(hid:∀j,j<n -> τ j=j):aE P fn n v hs' e al hs:=
 ⟨he,v1,τ,hr,hv,hok,hview,hid⟩
theorem lX{fn:Func}{e:XE}{v1 v:XV}(he:e = .normal\/e = .ret)(hr:th P fn al hs v1)(hv:v1=v)(hs':v.shut=true):aE P fn 0 v [] e al hs:=
 ⟨he,v1,id,hr,by rw[XV.dO hs'];exact hv,XV.kr hs' _,vV _ _,fun _ h=>absurd h (Nat.not_lt_zero _)⟩
theorem bT{fn:Func}{e:XE}{v1 v:XV}{hs0 junk:ah}(he:e = .normal\/e = .ret)(hr:th P fn al hs v1)(hv:v1=v)(hs':v.bt hs0.length)(hh:hs=hs0++junk)(hok:∀o∈hs0,o.bt hs0.length){n:Nat}:aE P fn n v hs0 e al hs:=by
 subst hh;refine⟨he,v1,id,hr,by rw[XV.iE];exact hv,hs',⟨fun j hj=>by simp;omega,fun _ _ _ _ _ _ _ _ h=>h,fun j o h=>hok o (List.mem_of_getElem? h),fun j o h => .inr ?_⟩,fun _ _=>rfl⟩;have hj:j<hs0.length:=(List.getElem?_eq_some_iff.1 h).1;show(hs0++junk)[j]? = _;rw[aj.iE,List.getElem?_append_left hj];exact h
end
end Go.Xm
namespace Go.Xm
variable [av]
variable {P:Program} {ops:Array Oper} {nt nI:Nat} {al:aL} {hs:ah} {o:Oper} {l:List Oper} {L:List aA} {K:List Ab->aL->ah->Prop} {d:Nat}
section
variable {α γ : Type} [DecidableEq α]
def gS(kc : α->X1)(vc : γ->X1)(M:List (α×γ)):List (X1×X1):=M.map fun p=>(kc p.1,vc p.2)
def gw(k : α):List (α×γ)->Option (Nat×γ)
 | [] => .none
 | p::M=>if k=p.1 then some (0,p.2)else(gw k M).map fun q=>(q.1+1,q.2)
def dz(M:List (α×γ))(k : α):Option γ:=(gw k M).map (·.2)
def sq(M:List (α×γ))(k : α)(v : γ):List (α×γ):=match gw k M with
 | some (j,_)=>M.set j (k,v)
 | .none=>M++[(k,v)]
theorem Gj(k : α):dz ([]:List (α×γ)) k = .none:=rfl
theorem mR(p : α×γ)(M:List (α×γ))(k : α):dz (p::M) k=if k=p.1 then some p.2 else dz M k:=by
 by_cases h:k=p.1
 ·simp[dz,gw,h]
 ·simp[dz,gw,h,Function.comp_def]
theorem uS{k : α}:∀{M:List (α×γ)} {j:Nat} {v : γ},gw k M=some (j,v)->M[j]? = some (k,v)
 | [],j,v,h=>by cases h
 | p :: M,j,v,h=>by
   unfold gw at h
   by_cases hk:k=p.1
   ·rw[if_pos hk]at h;cases h;simp[hk]
   ·rw[if_neg hk]at h;obtain⟨q,h1,h2⟩:=Option.map_eq_some_iff.1 h;cases h2;simpa using uS (M:=M) (j:=q.1) (v:=q.2) h1
theorem sQ{k : α}:∀{M:List (α×γ)},gw k M = .none->∀p∈M,p.1≠k
 | [],_,p,hp=>by cases hp
 | q :: M,h,p,hp=>by
   unfold gw at h
   by_cases hk:k=q.1
   ·rw[if_pos hk]at h;cases h
   ·rw[if_neg hk]at h
    rcases List.mem_cons.1 hp with rfl|hp
    ·exact fun e=>hk e.symm
    ·exact sQ (by simpa using h) p hp
theorem l5(k : α)(v : γ)(k' : α):∀{M:List (α×γ)},(∀p∈M,p.1≠k)->dz (M++[(k,v)]) k'=if k'=k then some v else dz M k'
 | [],_=>by simp[mR,Gj]
 | p::M,h=>by
   have ih:=l5 k v k' (M:=M) fun q hq=>h q (List.mem_cons_of_mem _ hq)
   simp only[List.cons_append,mR,ih];have hp:=h p (List.mem_cons_self ..)
   by_cases h1:k'=p.1
   ·rw[if_pos h1,if_neg (fun e=>hp (by rw[<-h1,e])),if_pos h1]
   ·rw[if_neg h1,if_neg h1]
theorem xG(k : α)(v : γ)(k' : α):∀{M:List (α×γ)} {j:Nat} {u : γ},gw k M=some (j,u)->dz (M.set j (k,v)) k'=if k'=k then some v else dz M k'
 | [],j,u,h=>by cases h
 | p :: M,j,u,h=>by
   unfold gw at h
   by_cases hk:k=p.1
   ·rw[if_pos hk]at h;cases h;simp only[List.set_cons_zero,mR]
    by_cases h1:k'=k
    ·simp[h1]
    ·simp only[show p.1=k from hk.symm,h1,if_false]
   ·rw[if_neg hk]at h;obtain⟨q,h1,h2⟩:=Option.map_eq_some_iff.1 h;cases h2;simp only[List.set_cons_succ,mR,xG k v k' (M:=M) (j:=q.1) (u:=q.2) h1]
    by_cases h1:k'=p.1
    ·rw[if_pos h1,if_neg (fun e=>hk (by rw[<-h1,e])),if_pos h1]
    ·rw[if_neg h1,if_neg h1]
theorem si(M:List (α×γ))(k : α)(v : γ)(k' : α):dz (sq M k v) k'=if k'=k then some v else dz M k':=by
 unfold sq;split
 ·rename_i j u h;exact xG k v k' h
 ·rename_i h;exact l5 k v k' (sQ h)
theorem Ai(kc : α->X1)(vc : γ->X1)(M:List (α×γ))(p : α×γ):gS kc vc (M++[p])=gS kc vc M++[(kc p.1,vc p.2)]:=by simp[gS]
theorem IJ(kc : α->X1)(vc : γ->X1)(M:List (α×γ))(j:Nat)(p : α×γ):gS kc vc (M.set j p)=(gS kc vc M).set j (kc p.1,vc p.2):=by simp[gS,List.map_set]
structure ql(P:Program)(kt:TypeId)(kc : α->X1):Prop where
 und:∃ds,P.underlying kt=some ds
 eq:∀a b,dR P 40 kt (kc a) (kc b)=some (decide (a=b))
 check:∀a,ia P 40 kt (kc a)=true
 plain:∀a,t6 (kc a)=true
theorem nj{kt:TypeId}{kc : α->X1}(hk:ql P kt kc)(vc : γ->X1)(k : α):∀(M:List (α×γ)) (i:Nat),kL P kt (kc k) (gS kc vc M) i=some ((gw k M).map fun q=>(i+q.1,vc q.2))
 | [],i=>rfl
 | p :: M,i=>by
   have ih:=nj hk vc k M (i+1)
   show(match dR P 40 kt (kc k) (kc p.1)with
    | some true=>some (some (i,vc p.2))
    | some false=>kL P kt (kc k) (gS kc vc M) (i+1)
    | .none => .none)=_
   rw[hk.eq];unfold gw
   by_cases h:k=p.1
   ·simp[h]
   ·simp only[h,decide_false,ih,if_false,Option.map_map]
    congr 2
    funext q
    simp only[Function.comp]
    congr 1
    omega
theorem az.lookup{O:db}(hw:aw ops (rg al) o=some true){t:TypeId}{x ix:Operand}{ok:Bool}(ho:o.op = .lookup t x ix ok){kt et:TypeId}(hu:P.underlying t=some (.map kt et)){i:Nat}(hx:ag (rg al) x = .one (.map i)){key:X1}(hk:mg (ag (rg al) ix)=some key)
 {es:List (X1×X1)}(hi:hs[i]? = some (.map es)) {v:XV}(hv:lB P kt et key ok es=some v):az O P ops al hs o v hs ⟨false,some i,[]⟩:=by
 intro m hm;refine⟨m,?_,hm,fun _ _=>rfl⟩;unfold iT;rw[hw]
 obtain⟨f,hf1,hf2⟩:∃f,eV P (ag (rg al)) o.op=some (i,f)/\∀es',f (.map es')=lB P kt et key ok es':=by
  rw[ho];simp only[eV,hu,hx,hk];exact⟨_,rfl,fun _=>rfl⟩
 refine mn (by rw[ho];rfl) (by rw[ho];rfl) hf1 ?_;rw[hm.at hi,hf2,hv]
theorem DB{kt et:TypeId}{kc : α->X1}(hk:ql P kt kc){vc : γ->X1}{z : γ}(hz:kS P et=some (vc z))(k : α)(M:List (α×γ)) :
 lB P kt et (kc k) true (gS kc vc M)=some (.tup [vc ((dz M k).getD z),.one (.bool (dz M k).isSome)]):=by
 obtain⟨ds,hu⟩:=hk.und;unfold lB;rw[if_pos (hk.check k),hu,nj hk];unfold dz
 cases h:gw k M with
 | none=>simp[hz]
 | some q=>simp
theorem E1{t:TypeId}{x ix:Operand}(ho:o.op = .lookup t x ix true){kt et:TypeId}[hu:aG P t (.map kt et)](hw:aw ops (rg al) o=some true)(hd:o.dst=some d)(hlt:Nat.blt d nt=true){kc : α->X1}(hko:ql P kt kc){vc : γ->X1}{z : γ}(hz:kS P et=some (vc z)){i:Nat}(hx:ag (rg al) x = .one (.map i)){k : α}(hk:mg (ag (rg al) ix)=some (kc k))
 {M:List (α×γ)}(hi:hs[i]? = some (.map (gS kc vc M))) (hn:SK P ops nt L l ((d,.tup [vc ((dz M k).getD z),.one (.bool (dz M k).isSome)])::al) hs fun bs=>K (⟨false,some i,[]⟩::bs)):SK P ops nt L (o::l) al hs K:=
 SK.lift hd hlt (fun _=>az.lookup hw ho hu.out hx hk hi (DB hko hz k M)) hn
theorem az.RW{O:db}(hw:aw ops (rg al) o=some true){t:TypeId}{x ix y:Operand}(ho:o.op = .mapUpdate t x ix y){kt et:TypeId}(hu:P.underlying t=some (.map kt et)){kc : α->X1}(hko:ql P kt kc){vc : γ->X1}{i:Nat}(hx:ag (rg al) x = .one (.map i)){k : α}(hk:mg (ag (rg al) ix)=some (kc k)){v : γ}(hv:mg (ag (rg al) y)=some (vc v))
 {M:List (α×γ)}(hi:hs[i]? = some (.map (gS kc vc M))):az O P ops al hs o (.tup []) (hs.set i (.map (gS kc vc (sq M k v)))) ⟨true,.none,[i]⟩:=by
 intro m hm;refine⟨m.put i (.map (gS kc vc (sq M k v))),?_,hm.put hi _,tT⟩;unfold iT;rw[hw];refine bW (by rw[ho];rfl) (by rw[ho];rfl) (by rw[ho];rfl) ?_;rw[ho];obtain⟨ds,hd⟩:=hko.und;simp only[bX,gZ,hu,hx,hk,hv,hm.at hi,hko.check k,if_true,hd,nj hko];unfold sq
 cases hl:gw k M with
 | none=>simp[Ai]
 | some q=>
   have hg:=uS (j:=q.1) (v:=q.2) hl;have e:(gS kc vc M)[q.1]? = some (kc k,vc q.2):=by simp[gS,hg]
   simp only[Option.map_some,Nat.zero_add,e,hko.plain k,and_self,if_true,IJ]
theorem vJ{t:TypeId}{x ix y:Operand}(ho:o.op = .mapUpdate t x ix y){kt et:TypeId}[hu:aG P t (.map kt et)](hw:aw ops (rg al) o=some true)(hd:o.dst = .none){kc : α->X1}(hko:ql P kt kc){vc : γ->X1}{i:Nat}(hx:ag (rg al) x = .one (.map i)){k : α}(hk:mg (ag (rg al) ix)=some (kc k)){v : γ}(hv:mg (ag (rg al) y)=some (vc v))
 {M:List (α×γ)}(hi:hs[i]? = some (.map (gS kc vc M))) {hs':ah}(hh:hs.set i (.map (gS kc vc (sq M k v)))=hs') (hn:SK P ops nt L l al hs' fun bs=>K (⟨true,.none,[i]⟩::bs)):SK P ops nt L (o::l) al hs K:=by
 subst hh;exact SK.Eu hd (fun _=>az.RW hw ho hu.out hko hx hk hv hi) hn
end
theorem az.makeMap{O:db}(hw:aw ops (rg al) o=some true){t:TypeId}(ho:o.op = .makeMap t .none)(hb:Nat.blt hs.length Mem.bound=true):az O P ops al hs o (.one (.map hs.length)) (hs++[.map []]) ⟨true,.none,[hs.length]⟩:=by
 intro m hm;obtain⟨m',h1,h2,h3⟩:=hm.push (.map []) (by simpa [Nat.blt_eq]using hb);refine⟨m',?_,h2,h3⟩;unfold iT;rw[hw];refine bW (by rw[ho];rfl) (by rw[ho];rfl) (by rw[ho];rfl) ?_;rw[ho];simp only[bX,mo,h1,hm.n]
theorem Dc{t:TypeId}(ho:o.op = .makeMap t .none)(hw:aw ops (rg al) o=some true)(hd:o.dst=some d)(hlt:Nat.blt d nt=true){n:Nat}(hn:hs.length=n)(hb:Nat.blt n Mem.bound=true){hs':ah}(hh:hs++[.map []]=hs')
 (hk:SK P ops nt L l ((d,.one (.map n))::al) hs' fun bs=>K (⟨true,.none,[n]⟩::bs)):SK P ops nt L (o::l) al hs K:=by
 subst hn hh;exact SK.lift hd hlt (fun _=>az.makeMap hw ho hb) hk
theorem Jf{kt:TypeId}{k:IntKind}[hu:aG P kt (.int k)]:ql P kt (fun z:Int => .one (.int k z)):=by
 refine⟨⟨_,hu.out⟩,fun a b=>?_,fun a=>?_,fun a=>rfl⟩
 ·simp only[dR,hu.out,Dw,if_true]
  congr 1
 ·simp only[ia,hu.out]
def je:List (Nat×XV)->Option (List XC)
 | []=>some []
 | p::r=>match cJ p.2,je r with
   | some cs,some ds=>some (cs++ds)
   | _,_ => .none
def n9(place:Nat->Option (Nat×Nat))(total:Nat):Nat->List (Nat×XV)->Bool
 | off,[]=>off==total
 | off,p::r=>match place p.1,cJ p.2 with
   | some (a,s),some cs=>a==off&&s==cs.length&&n9 place total (off+s) r
   | _,_=>false
theorem sD{place:Nat->Option (Nat×Nat)}:∀(parts:List (Nat×XV)) (zs:List XC) (off:Nat) (out:List XC),n9 place zs.length off parts=true->je parts=some out->gI place zs parts=some (zs.take off++out)
 | [],zs,off,out,h,hc=>by
   simp only[n9,beq_iff_eq]at h;simp only[je,Option.some.injEq]at hc;subst hc;simp[gI,h]
 | p :: r, zs,off,out,h,hc=>by
   obtain⟨i,v⟩:=p;unfold n9 at h;simp only at h;split at h
   ·rename_i a s cs h1 h2;simp only[Bool.and_eq_true,beq_iff_eq]at h;obtain⟨⟨rfl,rfl⟩,h3⟩:=h;unfold je at hc;simp only[h2]at hc;split at hc
    ·rename_i cs' ds hcs hr;cases hcs;cases hc
     have hle:∀(r:List (Nat×XV)) (off:Nat),n9 place zs.length off r=true->off<=zs.length:=by
      intro r
      induction r with
      | nil=>intro off h;simp only[n9,beq_iff_eq]at h;omega
      | cons q r ih=>
        intro off h;unfold n9 at h;split at h
        ·simp only[Bool.and_eq_true]at h;have:=ih _ h.2;omega
        ·cases h
     have hl:=hle r _ h3;unfold gI;simp only[h1,h2];rw[if_pos ⟨trivial,hl⟩];have hlen:(zs.take a++cs++zs.drop (a+cs.length)).length=zs.length:=by simp;omega
     rw[sD r _ (a+cs.length) ds (by rw[hlen];exact h3) hr]
     have e:(zs.take a++cs++zs.drop (a+cs.length)).take (a+cs.length)=zs.take a++cs:=by
      rw[List.take_append_of_le_length (by simp;omega),List.take_of_length_le (by simp;omega)]
     rw[e,List.append_assoc]
    ·cases hc
   ·cases h
theorem G0{t:TypeId}{parts:Array (Nat×Operand)}(ho:o.op = .build t parts){zs:List XC}[hz:aK P t zs]{n:Nat}{e:TypeId}[hu:aG P t (.array n e)]{s:Nat}[hs':aF P e s](hw:aw ops (rg al) o=some true)(hd:o.dst=some d)(hlt:Nat.blt d nt=true)
 (hr:n9 (fun i=>some (i*s,s)) zs.length 0 (parts.toList.map fun p=>(p.1,ag (rg al) p.2))=true) {out:List XC}(hc:je (parts.toList.map fun p=>(p.1,ag (rg al) p.2))=some out) {out':List XC}(hn:out=out')
 (hk:SK P ops nt L l ((d,.agg out')::al) hs fun bs=>K (quiet::bs)):SK P ops nt L (o::l) al hs K:=by
 subst hn;exact SK.lift hd hlt (fun _=>az.pure hw (by rw[ho];simp only[aT,oF,hz.out,hu.out,hs'.out,sD _ zs 0 out hr hc,Option.map_some,List.take_zero,List.nil_append])) hk
theorem G4{t:TypeId}{parts:Array (Nat×Operand)}(ho:o.op = .build t parts){zs:List XC}[hz:aK P t zs]{pl:List (Nat×Nat)}[hp:cH P t pl](hw:aw ops (rg al) o=some true)(hd:o.dst=some d)(hlt:Nat.blt d nt=true)
 (hr:n9 (fun i=>pl[i]?) zs.length 0 (parts.toList.map fun p=>(p.1,ag (rg al) p.2))=true) {out:List XC}(hc:je (parts.toList.map fun p=>(p.1,ag (rg al) p.2))=some out) {out':List XC}(hn:out=out')
 (hk:SK P ops nt L l ((d,.agg out')::al) hs fun bs=>K (quiet::bs)):SK P ops nt L (o::l) al hs K:=by
 subst hn;obtain⟨fs,h1,h2⟩:=hp.out;exact SK.lift hd hlt (fun _=>az.pure hw (by rw[ho];simp only[aT,oF,hz.out,h1,h2,sD _ zs 0 out hr hc,Option.map_some,List.take_zero,List.nil_append])) hk
theorem GZ{t:TypeId}(ho:o.op = .build t #[]){zs:List XC}[hz:aK P t zs]{pl:List (Nat×Nat)}[hp:cH P t pl](hw:aw ops (rg al) o=some true)(hd:o.dst=some d)(hlt:Nat.blt d nt=true)
 (hk:SK P ops nt L l ((d,.agg zs)::al) hs fun bs=>K (quiet::bs)):SK P ops nt L (o::l) al hs K:=by
 obtain⟨fs,h1,h2⟩:=hp.out;exact SK.lift hd hlt (fun _=>az.pure hw (by rw[ho];simp only[aT,oF,hz.out,h1,h2,List.map_nil,gI,Option.map_some])) hk
theorem C_{t:TypeId}(ho:o.op = .build t #[]){zs:List XC}[hz:aK P t zs]{n:Nat}{e:TypeId}[hu:aG P t (.array n e)]{s:Nat}[hs':aF P e s](hw:aw ops (rg al) o=some true)(hd:o.dst=some d)(hlt:Nat.blt d nt=true)
 (hk:SK P ops nt L l ((d,.agg zs)::al) hs fun bs=>K (quiet::bs)):SK P ops nt L (o::l) al hs K:=
 SK.lift hd hlt (fun _=>az.pure hw (by rw[ho];simp only[aT,oF,hz.out,hu.out,hs'.out,List.map_nil,gI,Option.map_some])) hk
inductive gq(P:Program)(al:aL)(hs:ah):List ResultVar->List X1->Prop where
 | nil:gq P al hs [] []
 | tmp {t:Nat} {x:X1} {l:List ResultVar} {xs:List X1}:mg (rg al t)=some x->gq P al hs l xs->gq P al hs (.tmp t::l) (x::xs)
 | cell {a i off:Nat} {t:TypeId} {vs:List XC} {e:TypeId} {opn ro:Bool} {x:X1} {l:List ResultVar} {xs:List X1}:rg al a = .one (.ptr i off)->hs[i]? = some (.cells vs e opn ro)->dC P t vs off=some x->gq P al hs l xs->gq P al hs (.cell a t::l) (x::xs)
theorem gq.run{l:List ResultVar}{xs:List X1}(h:gq P al hs l xs){m:Mem}(hm:aZ m hs):f4 P (rg al) m l=some xs:=by
 induction h with
 | nil=>rfl
 | tmp h1 _ ih=>simp only[f4,wi,h1,ih]
 | cell h1 h2 h3 _ ih=>simp only[f4,wi,h1,hm.at h2,h3,ih]
theorem gq.one{fn:Func}{l:List ResultVar}{x:X1}(hl:fn.results.toList=l)(h:gq P al hs l [x]):th P fn al hs x.pj:=fun m hm=>by
 unfold dw;rw[hl,h.run hm]
theorem gq.two{fn:Func}{l:List ResultVar}{x y:X1}{r:List X1}(hl:fn.results.toList=l)(h:gq P al hs l (x::y::r)):th P fn al hs (.tup (x::y::r)):=fun m hm=>by
 unfold dw;rw[hl,h.run hm]
theorem gq.zero{fn:Func}{l:List ResultVar}(hl:fn.results.toList=l)(h:gq P al hs l []):th P fn al hs (.tup []):=fun m hm=>by
 unfold dw;rw[hl,h.run hm]
theorem cC{t:TypeId}{s:Nat}[ht:da P t][hs':aF P t s]{vs:List XC}(h:s=vs.length):dC P t vs 0=some (.agg vs):=AI ht.out (by rw[hs'.out,h])
def nth(l:List Nat)(j:Nat):Nat:=l.getD j 0
theorem OD{HS hs:ah}(l:List Nat)(hlen:hs.length=l.length)(hd:l.Nodup)(hok:∀o∈hs,o.bt hs.length)(h:∀(j:Nat) (o:aj),hs[j]? = some o->HS[nth l j]? = some (o.aC (nth l))):View (nth l) HS hs:=by
 refine⟨fun j hj=>?_,fun a b _ _ ha hb _ _ hab=>?_,fun j o hj=>hok o (List.mem_of_getElem? hj),fun j o hj => .inr (h j o hj)⟩
 ·have:=h j _ (List.getElem?_eq_getElem hj);exact(List.getElem?_eq_some_iff.1 this).1
 ·have ha:=(List.getElem?_eq_some_iff.1 ha).1;have hb:=(List.getElem?_eq_some_iff.1 hb).1;unfold nth at hab;have ha':a<l.length:=by omega
  have hb':b<l.length:=by omega
  rw[List.getD_eq_getElem?_getD,List.getD_eq_getElem?_getD,List.getElem?_eq_getElem ha',List.getElem?_eq_getElem hb']at hab;exact(List.getElem_inj hd).1 hab
end Go.Xm
namespace Go.Xm
open Go.RowKit (Below)
variable [av]
variable {P:Program} {ops:Array Oper} {nt nI:Nat} {al:aL} {hs:ah} {o:Oper} {l:List Oper} {L:List aA} {K:List Ab->aL->ah->Prop} {d:Nat}
def OH(c:XC)(i n:Nat):Prop:=(c = .nils/\n=0)\/∃cap,c = .slice i 0 n (.exact cap)
theorem yK{α : Type}(f : α->List XC)(s:Nat):∀(l:List α),(∀a∈l,(f a).length=s)->∀(i:Nat) (a : α),l[i]? = some a->i*s+s<=(l.flatMap f).length/\((l.flatMap f).drop (i*s)).take s=f a
 | [],_,i,a,h=>by simp at h
 | x::l,hl,0,a,h=>by
   simp at h;subst h;have:=hl x (List.mem_cons_self ..);simp only[List.flatMap_cons,List.length_append,Nat.zero_mul,List.drop_zero];exact⟨by omega,by rw[<-this,List.take_left'];rfl⟩
 | x::l,hl,i+1,a,h=>by
   have hx:=hl x (List.mem_cons_self ..);obtain⟨h1,h2⟩:=yK f s l (fun b hb=>hl b (List.mem_cons_of_mem _ hb)) i a (by simpa using h);simp only[List.flatMap_cons,List.length_append,Nat.add_mul,Nat.one_mul];refine⟨by omega,?_⟩;rw[show i*s+s=(f x).length+i*s by omega,<-List.drop_drop,List.drop_left];exact h2
theorem PN{al:aL}{n:Nat}(h:∀p∈al,p.2.bt n)(t:Nat):(rg al t).bt n:=by
 induction al with
 | nil=>trivial
 | cons p al ih=>
   obtain⟨d,v⟩:=p;unfold rg;split
   ·exact h _ (List.mem_cons_self ..)
   ·exact ih fun q hq=>h q (List.mem_cons_of_mem _ hq)
theorem WX.drop{c:rM}{al al2:aL}{hs hs2 junk:ah}{K:ca}(hl:zU al2 al)(hh:hs=hs2++junk)(hle:nI<=hs2.length)(hb:Nat.blt hs2.length Mem.bound=true)(hok:∀o∈hs2,o.bt hs2.length)(hr:∀p∈al2,p.2.bt hs2.length)
 (h:WX P nt nI c al2 hs2 K):WX P nt nI c al hs K:=by
 subst hh;refine WX.view id ⟨fun j hj=>by simp;omega,fun _ _ _ _ _ _ _ _ h=>h,fun j o h=>hok o (List.mem_of_getElem? h),fun j o h => .inr ?_⟩ (fun _ _=>rfl) hle hb (PN hr) (fun t=>?_) h
 ·have hj:j<hs2.length:=(List.getElem?_eq_some_iff.1 h).1;show(hs2++junk)[j]? = _;rw[aj.iE,List.getElem?_append_left hj];exact h
 ·rcases hl t with e|e
  ·exact .inl e
  ·exact .inr (by rw[XV.iE,e])
section
variable {K:ca}
end
theorem mJ{f:FuncId}{args:List XV}{v:XV}(h:Tz P f args v):bm P f args [] v []:=
 fun m hm β w vs hall hw=>(h m β w vs hall hw).mono fun e w' ⟨u,β',he,hu,hst⟩=>⟨u,β',m,he,hm,hu,hst⟩
def pW(m:Mem):ah:=(List.range m.n).map m.get
theorem Cm{O:db}(hO:aQ P O)(hP:P.follows .mixedOrders=true){F k:Nat}{f:FuncId}{args:List XV}{v:XV}{hs':ah}(h:((pL O P F k).call f args Mem.empty).map (fun p=>(p.1,pW p.2))=some (v,hs')):bm P f args [] v hs':=by
 obtain⟨⟨v1,m1⟩,h1,h2⟩:=Option.map_eq_some_iff.1 h;simp only[Prod.mk.injEq]at h2;obtain⟨rfl,rfl⟩:=h2;have hs:=tc hO hP F k;have hc:=hs.call _ _ _ _ _ h1;have hg:=hs.LC _ _ _ _ _ h1;intro m hm β w vs hall hw;have hn:m.n=0:=hm.n
 have hfr:Mem.empty.ch:=fun i _=>by
  show(T.get HP.none .leaf i).ver=0;rw[T.eL];rfl
 have hr:Rel β Mem.empty w:=⟨Nat.zero_le _,hfr,fun i hi=>absurd hi (Nat.not_lt_zero _),fun i j hi=>absurd hi (Nat.not_lt_zero _),fun i hi=>absurd hi (Nat.not_lt_zero _)⟩
 have ni:∀m0:Mem,m0.n=0->∀k,¬kT β m0 k:=fun m0 h0 k ⟨i,hi,_⟩=>by omega
 refine(hc β w vs (by rw[hn]at hall;exact hall) hr).mono fun e w' ⟨u,β',he,hu,hst⟩=>⟨u,β',m1,he,?_,hu,?_⟩
 ·exact⟨by simp[pW],hst.rel.bnd,(hg.mono hfr).2,fun i hi=>by
   show _=(pW m1).getD i .dead
   simp[pW,List.getD_eq_getElem?_getD,hi]⟩
 ·exact⟨by omega,by rw[hn];exact hst.ext,hst.rel,hst.os,hst.tape,hst.output,hst.size,fun k hk _=>hst.frame k hk (ni _ rfl k),fun k hk hi=>absurd (hst.qe k hk hi) (ni _ rfl k),fun k hk hl=>(hst.wL k hk hl).elim (fun h=>absurd h (ni _ rfl k)) (fun⟨i,hi,_⟩=>absurd hi (Nat.not_lt_zero _))⟩
theorem xS{β : Env}{n:Nat}{W:World}{b lo:Nat}{vs:List XC}(hne:0<vs.length)(h:∀(j:Nat) (c:XC),vs[j]? = some c->W.cell? ⟨b,lo+j,none⟩=some (c.den β))(hok:∀c∈vs,c.ok n) :
 ∃e sz,fw β n lo sz (.cells vs e true true) W.heap[b]?:=by
 have hc:∀j,j<vs.length->∃cs e fr,W.heap[b]? = some (.cells cs e fr)/\cs[lo+j]? = some ((vs.getD j .nili).den β):=fun j hj=>by
  have h1:=h j vs[j] (List.getElem?_eq_getElem hj);have e1:vs.getD j .nili=vs[j]:=by simp[List.getD_eq_getElem?_getD,hj]
  unfold World.cell? at h1;split at h1
  ·rename_i cs e fr hg;exact⟨cs,e,fr,hg,by rw[e1];simpa using h1⟩
  ·cases h1
 obtain⟨cs,e,fr,hg,h0⟩:=hc 0 hne
 have hall:∀j,j<vs.length->cs[lo+j]? = some ((vs.getD j .nili).den β):=fun j hj=>by
  obtain⟨cs',e',fr',hg',h1⟩:=hc j hj;rw[hg]at hg';cases hg';exact h1
 have hl0:lo+0<cs.size:=(Array.getElem?_eq_some_iff.1 h0).1;have hll:lo+(vs.length-1)<cs.size:=(Array.getElem?_eq_some_iff.1 (hall (vs.length-1) (by omega))).1;refine⟨e,cs.size-lo,cs,fr,hg,by omega,by simp only[if_true];omega,fun h=>(by cases h),hok,?_⟩;apply List.ext_getElem?;intro j;rw[List.getElem?_take,List.getElem?_drop,List.getElem?_map]
 by_cases hj:j<vs.length
 ·rw[if_pos hj,Array.getElem?_toList,hall j hj,List.getElem?_eq_getElem hj];simp[List.getD_eq_getElem?_getD,hj]
 ·rw[if_neg hj,List.getElem?_eq_none (by omega)];rfl
def aj.LZ:aj->Bool
 | .dead=>true
 | .cells _ _ _ ro=>ro
 | _=>false
theorem aj.MT{o:aj}(h:o.LZ=true):o.own=false:=by
 cases o with
 | dead=>rfl
 | cells vs e a ro=>cases ro<;>first|rfl|cases h
 | map es=>cases h
 | late L=>cases h
def DN(β : Env)(w:World)(i:Nat)(L:List (List XC)):Prop:=
 ∀ (k:Nat) (cs:List XC),L[k]? = some cs->(∀c∈cs,c.f7 L.length=true)/\(cs≠[] ->
   ∃all e fr,w.heap[(gV (β.bp i) k)]? = some (.cells all e fr)/\(all.toList.drop (dX (β.bp i) k)).take cs.length=cs.map fun c=>(c.self i).den β)
theorem GL{β : Env}{W:World}{hs:ah}(hb:hs.length<Mem.bound)(h:∀(i:Nat) (o:aj),hs[i]? = some o->fw β hs.length (β.base i) (β.size i) o W.heap[β.bp i]?)(ha:∀(i:Nat) (o:aj),hs[i]? = some o->o.LZ=true\/∃L,o = .late L/\DN β W i L):Rel β (iR hs) W/\∀k,¬kT β (iR hs) k:=by
 have hm:=eZ hs hb;have hn:=hm.n
 have no:∀i,i<(iR hs).n->((iR hs).get i).own=false:=fun i hi=>by
  rcases ha i _ (hm.get? hi)with e|⟨L,e,_⟩
  ·exact aj.MT e
  ·rw[e];rfl
 have hi:∀k,¬kT β (iR hs) k:=fun k ⟨i,hi,ho,_⟩=>by rw[no i hi]at ho;cases ho
 refine⟨⟨hm.bnd,hm.fresh,fun i hi=>?_,fun i j hi hj hoi _ _=>?_,fun i hi' L hL k cs hk=>?_⟩,hi⟩
 ·rw[hn];exact h i _ (hm.get? hi)
 ·rw[no i hi]at hoi;cases hoi
 ·rcases ha i _ (hm.get? hi')with e|⟨L',e,hl⟩
  ·rw[hL]at e;cases e
  ·rw[hL]at e;cases e;obtain⟨h1,h2⟩:=hl k cs hk;exact⟨h1,fun hne=>⟨hi _,h2 hne⟩⟩
theorem FK{f:FuncId}{args:List XV}{hs hs':ah}(hc:bm P f args hs (.one (.bool true)) hs'){β : Env}{W:World}(hb:hs.length<Mem.bound)(h:∀(i:Nat) (o:aj),hs[i]? = some o->fw β hs.length (β.base i) (β.size i) o W.heap[β.bp i]?)(ha:∀(i:Nat) (o:aj),hs[i]? = some o->o.LZ=true\/∃L,o = .late L/\DN β W i L)
 {vs:List Value}(hv:df (aM β hs.length) args vs):Calls P f vs.toArray W fun e w'=>e = .returned (.bool true)/\Below W.heap.size W w':=by
 have hm:=eZ hs hb;have hn:=hm.n;obtain⟨hr,hi⟩:=GL hb h ha;refine(hc _ hm β W vs (by rw[hn];exact hv) hr).mono fun e w' ⟨u,β',m',he,_,hu,hst⟩=>?_
 refine⟨?_,hst.os,hst.tape,hst.output,hst.size,fun k hk=>hst.frame k hk (hi k)⟩;rw[he,hu.2];rfl
end Go.Xm
namespace Go.Xm
variable [av]
variable {P:Program} {ops:Array Oper} {nt nI:Nat} {al:aL} {hs:ah} {o:Oper} {l:List Oper} {L:List aA} {K:List Ab->aL->ah->Prop} {d:Nat}
def il(k:IntKind)(l:List Int):List XC:=l.map (.int k)
theorem br(k:IntKind)(l:List Int):(il k l).length=l.length:=by simp[il]
theorem CA{k:IntKind}{l:List Int}{j:Nat}(h:j<l.length):(il k l)[j]? = some (.int k (l.getD j 0)):=by
 simp[il,h,List.getD_eq_getElem?_getD]
theorem I7(k:IntKind)(l:List Int)(j:Nat)(x:Int):(il k l).set j (.int k x)=il k (l.set j x):=by simp[il,List.map_set]
theorem r_(k:IntKind)(l m:List Int):il k l++il k m=il k (l++m):=by simp[il]
theorem Pd(k:IntKind)(l:List Int)(τ : Nat->Nat):(il k l).map (·.aC τ)=il k l:=by simp[il,XC.aC]
theorem RI(k:IntKind)(l:List Int)(n:Nat):∀c∈il k l,c.ok n:=by
 intro c hc;obtain⟨x,_,rfl⟩:=List.mem_map.1 hc;trivial
class cf (o:aj):Prop where
 aC:∀τ,o.aC τ = o
 ok:∀n,o.bt n
class b_ (v:XV):Prop where
 aC:∀τ,v.aC τ = v
 ok:∀n,v.bt n
instance:cf .dead:=⟨fun _=>rfl,fun _=>trivial⟩
instance {k:IntKind} {l:List Int} {e:TypeId} {a b:Bool}:cf (.cells (il k l) e a b):=⟨fun τ=>by simp only[aj.aC,Pd],fun n=>RI k l n⟩
instance {k:IntKind} {n:Nat} {f:Nat->Int} {e:TypeId} {a b:Bool}:cf (.cells (ti k n f) e a b):=⟨fun τ=>by simp[aj.aC,ti,XC.aC],fun n c hc=>by
 obtain⟨x,_,rfl⟩:=List.mem_map.1 hc
 trivial⟩
instance {k:IntKind} {z:Int}:b_ (.one (.int k z)):=⟨fun _=>rfl,fun _=>trivial⟩
instance {b:Bool}:b_ (.one (.bool b)):=⟨fun _=>rfl,fun _=>trivial⟩
instance {k:IntKind} {n:Nat} {f:Nat->Int}:b_ (.agg (ti k n f)):=⟨fun τ=>by simp[XV.aC,ti,XC.aC],fun n c hc=>by
 obtain⟨x,_,rfl⟩:=List.mem_map.1 hc
 trivial⟩
theorem gG{vs:List XC}{e:TypeId}{a b:Bool}(h:vs.all XC.shut=true):cf (.cells vs e a b):=
 ⟨fun τ=>by simp only[aj.aC,fN h],fun n c hc=>XC.bj (List.all_eq_true.1 h c hc) n⟩
theorem jj{v:XV}(h:v.shut=true):b_ v:=⟨fun τ=>XV.dO h τ,fun n=>XV.kr h n⟩
def fk(k n sz:Nat):XC:=if n=0 then .nils else .slice k 0 n (.toEnd sz)
def dV(k n sz:Nat):XV := .one (fk k n sz)
def bu(e:TypeId)(cs:List XC):aj:=match cs with
 | [] => .dead
 | c::r => .cells (c::r) e true false
theorem aX(k n sz:Nat)(τ : Nat->Nat):(fk k n sz).aC τ = fk (τ k) n sz:=by unfold fk;split<;>rfl
theorem dB(k n sz:Nat)(τ : Nat->Nat):(dV k n sz).aC τ = dV (τ k) n sz:=congrArg XV.one (aX k n sz τ)
theorem aJ{k n sz m:Nat}(h:k<m):(fk k n sz).ok m:=by
 unfold fk;split
 ·exact trivial
 ·exact h
theorem iF{k n sz m:Nat}(h:k<m):(dV k n sz).bt m:=aJ h
theorem Uu{a:X1}{n:Nat}(h:a.ok n):(XV.tup [a]).bt n:=fun x hx=>by
 simp only[List.mem_cons,List.not_mem_nil,or_false]at hx;subst hx;exact h
theorem JQ{a b:X1}{n:Nat}(h:a.ok n)(h':b.ok n):(XV.tup [a,b]).bt n:=fun x hx=>by
 simp only[List.mem_cons,List.not_mem_nil,or_false]at hx
 rcases hx with rfl|rfl
 ·exact h
 ·exact h'
theorem bJ{e:TypeId}{cs:List XC}(h:cs≠[]):bu e cs = .cells cs e true false:=by
 cases cs with
 | nil=>exact absurd rfl h
 | cons c r=>rfl
theorem c_{k n sz:Nat}(h:n≠0):dV k n sz = .one (.slice k 0 n (.toEnd sz)):=congrArg XV.one (if_neg h)
theorem Bi{e:TypeId}{cs:List XC}(h:cs.all XC.shut=true):cf (bu e cs):=by
 cases cs with
 | nil=>exact⟨fun _=>rfl,fun _=>trivial⟩
 | cons c r=>exact gG h
theorem Mx(k:IntKind)(l:List Int):(il k l).all XC.shut=true:=by
 rw[List.all_eq_true];intro c hc;obtain⟨x,_,rfl⟩:=List.mem_map.1 hc;rfl
instance {e:TypeId} {k:IntKind} {l:List Int}:cf (bu e (il k l)):=Bi (Mx k l)
inductive gn:List Nat->ah->List Nat->Prop where
 | nil:gn [] [] []
 | dead {i:Nat} {l q:List Nat} {hs:ah}:gn l hs q->gn (i::l) (.dead::hs) q
 | cons {i:Nat} {o:aj} {l q:List Nat} {hs:ah}:gn l hs q->gn (i::l) (o::hs) (i::q)
theorem gn.mem{l q:List Nat}{hs:ah}(h:gn l hs q):∀(i:Nat) (o:aj),hs[i]? = some o->o ≠ .dead->nth l i∈q:=by
 induction h with
 | nil=>intro i o h;simp at h
 | dead _ ih=>
   intro i o h ho
   cases i with
   | zero=>simp at h;exact absurd h.symm ho
   | succ i=>exact ih i o (by simpa using h) ho
 | cons _ ih=>
   intro i o h ho
   cases i with
   | zero=>exact List.mem_cons_self ..
   | succ i=>exact List.mem_cons_of_mem _ (ih i o (by simpa using h) ho)
theorem gn.inj{l q:List Nat}{hs:ah}(h:gn l hs q)(nd:q.Nodup):∀(i j:Nat) (a b:aj),hs[i]? = some a->hs[j]? = some b->a ≠ .dead->b ≠ .dead->nth l i=nth l j->i=j:=by
 induction h with
 | nil=>intro i j a b h;simp at h
 | dead _ ih=>
   intro i j a b hi hj ha hb he
   cases i with
   | zero=>simp at hi;exact absurd hi.symm ha
   | succ i=>
     cases j with
     | zero=>simp at hj;exact absurd hj.symm hb
     | succ j=>rw[ih nd i j a b (by simpa using hi) (by simpa using hj) ha hb he]
 | @cons k o l q hs hl ih=>
   intro i j a b hi hj ha hb he;rw[List.nodup_cons]at nd
   cases i with
   | zero=>
     cases j with
     | zero=>rfl
     | succ j=>
       have:=hl.mem j b (by simpa using hj) hb;rw[show nth l j=k from he.symm]at this;exact absurd this nd.1
   | succ i=>
     cases j with
     | zero=>
       have:=hl.mem i a (by simpa using hi) ha;rw[show nth l i=k from he]at this;exact absurd this nd.1
     | succ j=>rw[ih nd.2 i j a b (by simpa using hi) (by simpa using hj) ha hb he]
def Nd(l:List Nat)(hs:ah):Prop:=l.Nodup\/∃q,gn l hs q/\q.Nodup
theorem Nd.inj{l:List Nat}{hs:ah}(h:Nd l hs)(hlen:hs.length=l.length):∀(i j:Nat) (a b:aj),hs[i]? = some a->hs[j]? = some b->a ≠ .dead->b ≠ .dead->nth l i=nth l j->i=j:=by
 rcases h with h|⟨q,h,hq⟩
 ·intro i j a b hi hj _ _ hij;have hi:=(List.getElem?_eq_some_iff.1 hi).1;have hj:=(List.getElem?_eq_some_iff.1 hj).1;unfold nth at hij;have ha':i<l.length:=by omega
  have hb':j<l.length:=by omega
  rw[List.getD_eq_getElem?_getD,List.getD_eq_getElem?_getD,List.getElem?_eq_getElem ha',List.getElem?_eq_getElem hb']at hij;exact(List.getElem_inj h).1 hij
 ·exact h.inj hq
inductive af(τ : Nat->Nat)(HS:ah):List Nat->ah->Prop where
 | nil:af τ HS [] []
 | flat {i:Nat} {o:aj} {l:List Nat} {hs:ah} [cf o]:HS[i]? = some o->af τ HS l hs->af τ HS (i::l) (o::hs)
 | cons {i:Nat} {o:aj} {l:List Nat} {hs:ah}:HS[i]? = some (o.aC τ)->af τ HS l hs->af τ HS (i::l) (o::hs)
 | dead {i:Nat} {l:List Nat} {hs:ah}:Nat.blt i HS.length=true->af τ HS l hs->af τ HS (i::l) (.dead::hs)
theorem af.at{τ : Nat->Nat}{HS:ah}{l:List Nat}{hs:ah}(h:af τ HS l hs):hs.length=l.length/\∀(j:Nat) (o:aj),hs[j]? = some o->nth l j<HS.length/\(o = .dead\/HS[nth l j]? = some (o.aC τ)):=by
 induction h with
 | nil=>exact⟨rfl,fun j o h=>by simp at h⟩
 | @flat i o l hs inst h1 _ ih=>
   refine⟨by simp[ih.1],fun j o' hj=>?_⟩
   cases j with
   | zero=>simp at hj;subst hj;exact⟨(List.getElem?_eq_some_iff.1 h1).1,.inr (by rw[inst.aC];exact h1)⟩
   | succ j=>exact ih.2 j o' (by simpa using hj)
 | cons h1 _ ih=>
   refine⟨by simp[ih.1],fun j o' hj=>?_⟩
   cases j with
   | zero=>simp at hj;subst hj;exact⟨(List.getElem?_eq_some_iff.1 h1).1,.inr h1⟩
   | succ j=>exact ih.2 j o' (by simpa using hj)
 | dead h1 _ ih=>
   refine⟨by simp[ih.1],fun j o' hj=>?_⟩
   cases j with
   | zero=>simp at hj;subst hj;exact⟨by show _<_;rw[Nat.blt_eq]at h1;exact h1,.inl rfl⟩
   | succ j=>exact ih.2 j o' (by simpa using hj)
inductive ae(τ : Nat->Nat)(al:aL):aL->Prop where
 | nil:ae τ al []
 | flat {t:Nat} {v:XV} {r:aL} [b_ v]:rg al t=v->ae τ al r->ae τ al ((t,v)::r)
 | cons {t:Nat} {v:XV} {r:aL}:rg al t=v.aC τ->ae τ al r->ae τ al ((t,v)::r)
theorem ae.at{τ : Nat->Nat}{al al2:aL}(h:ae τ al al2)(t:Nat):rg al2 t = .undef\/rg al t=(rg al2 t).aC τ:=by
 induction h with
 | nil=>exact .inl rfl
 | @flat u v r inst h1 _ ih=>
   by_cases ht:t=u
   ·subst ht;right;simp only[rg,if_true];rw[inst.aC];exact h1
   ·simp only[rg,ht,if_false];exact ih
 | @cons u v r h1 _ ih=>
   by_cases ht:t=u
   ·subst ht;right;simp only[rg,if_true];exact h1
   ·simp only[rg,ht,if_false];exact ih
inductive ak(n:Nat):ah->Prop where
 | nil:ak n []
 | flat {o:aj} {hs:ah} [cf o]:ak n hs->ak n (o::hs)
 | cons {o:aj} {hs:ah}:o.bt n->ak n hs->ak n (o::hs)
theorem ak.at{n:Nat}{hs:ah}(h:ak n hs):∀o∈hs,o.bt n:=by
 induction h with
 | nil=>intro o h;cases h
 | @flat o hs inst _ ih=>
   intro x hx
   rcases List.mem_cons.1 hx with rfl|hx
   ·exact inst.ok n
   ·exact ih x hx
 | cons h1 _ ih=>
   intro x hx
   rcases List.mem_cons.1 hx with rfl|hx
   ·exact h1
   ·exact ih x hx
inductive jJ(n:Nat):aL->Prop where
 | nil:jJ n []
 | flat {t:Nat} {v:XV} {r:aL} [b_ v]:jJ n r->jJ n ((t,v)::r)
 | cons {t:Nat} {v:XV} {r:aL}:v.bt n->jJ n r->jJ n ((t,v)::r)
theorem jJ.at{n:Nat}{al:aL}(h:jJ n al)(t:Nat):(rg al t).bt n:=by
 induction h with
 | nil=>trivial
 | @flat u v r inst _ ih=>
   unfold rg;split
   ·exact inst.ok n
   ·exact ih
 | cons h1 _ ih=>
   unfold rg;split
   ·exact h1
   ·exact ih
structure qq(nI:Nat)(al:aL)(hs:ah):Prop where
 le:Nat.ble nI hs.length=true
 bnd:Nat.blt hs.length Mem.bound=true
 objs:ak hs.length hs
 ie:jJ hs.length al
structure GoTo(nI:Nat)(al:aL)(hs:ah)(al2:aL)(hs2:ah)(τl:List Nat):Prop where
 nd:Nd τl hs2
 hid:(List.range nI).all (fun j=>nth τl j==j)=true
 obj:af (nth τl) hs τl hs2
 reg:ae (nth τl) al al2
theorem WX.via{c:rM}{al2:aL}{hs2:ah}{K:ca}{τl:List Nat}(g:GoTo nI al hs al2 hs2 τl)(hk:qq nI al2 hs2)(h:WX P nt nI c al2 hs2 K):WX P nt nI c al hs K:=by
 obtain⟨hlen,hobj⟩:=g.obj.at
 have hle:nI<=hs2.length:=Nat.le_of_ble_eq_true hk.le;refine WX.view (nth τl) ⟨fun j hj=>?_,fun i j a b hi hj ha hb hij=>g.nd.inj hlen i j a b hi hj ha hb hij,fun j o hj=>hk.objs.at o (List.mem_of_getElem? hj),fun j o hj=>(hobj j o hj).2⟩ (fun j hj=>?_) hle hk.bnd hk.ie.at g.reg.at h
 ·exact(hobj j _ (List.getElem?_eq_getElem hj)).1
 ·have:=List.all_eq_true.1 g.hid j (List.mem_range.2 hj);simpa using this
theorem WX.bN{σ : Type}{c:Code}{K:ca}(R : σ->aL)(H : σ->ah)(I : σ->Prop)(μ : σ->Nat)(s0 : σ)(h0:I s0)(hok:∀s,I s->qq nI (R s) (H s)){τl:List Nat}(hin:GoTo nI al hs (R s0) (H s0) τl)
 (step:∀s,I s->(∀s' τl al' hs',GoTo nI al' hs' (R s') (H s') τl->I s' -> μ s' < μ s->WX P nt nI (.round c) al' hs' K)->WX P nt nI (.code c) (R s) (H s) (HV P nt nI c K)):WX P nt nI (.code (.loop c)) al hs K:=by
 refine WX.loop (WX.via hin (hok s0 h0) ?_)
 have:∀n s,μ s<=n->I s->WX P nt nI (.round c) (R s) (H s) K:=by
  intro n
  induction n with
  | zero=>intro s hs hI;exact WX.round (step s hI fun s' τl al' hs' _ _ h=>absurd h (by omega))
  | succ n ih=>intro s hs hI;exact WX.round (step s hI fun s' τl al' hs' g h' hlt=>WX.via g (hok s' h') (ih s' (by omega) h'))
 exact this (μ s0) s0 (Nat.le_refl _) h0
theorem WX.meet{σ : Type}{a b:Code}{K:ca}(R : σ->aL)(H : σ->ah)(I : σ->Prop)(hok:∀s,I s->qq nI (R s) (H s))(h1:WX P nt nI (.code a) al hs fun e al1 hs1=>e = .normal/\∃s τl,I s/\GoTo nI al1 hs1 (R s) (H s) τl)
 (h2:∀s,I s->WX P nt nI (.code b) (R s) (H s) K):WX P nt nI (.code (.seq a b)) al hs K:=
 WX.seq (h1.mono fun e al1 hs1 ⟨he,s,τl,hi,hg⟩=>by
  subst he
  exact WX.via hg (hok s hi) (h2 s hi))
theorem WX.xE(id:Nat){σ : Type}{ops:Array Oper}{dr:Bool}{b:Code}{K:ca}(R : σ->aL)(H : σ->ah)(I : σ->Prop)(hok:∀s,I s->qq nI (R s) (H s))(h1:WX P nt nI (.code (.region id ops dr)) al hs fun e al1 hs1=>e = .normal/\∃s τl,I s/\GoTo nI al1 hs1 (R s) (H s) τl)
 (h2:∀s,I s->WX P nt nI (.code b) (R s) (H s) K):WX P nt nI (.code (.seq (.region id ops dr) b)) al hs K:=WX.meet R H I hok h1 h2
theorem WX.xF(id:Nat){σ : Type}{ops:Array Oper}{dr:Bool}{x b:Code}{K:ca}(R : σ->aL)(H : σ->ah)(I : σ->Prop)(hok:∀s,I s->qq nI (R s) (H s))(h1:WX P nt nI (.code (.seq (.region id ops dr) x)) al hs fun e al1 hs1=>e = .normal/\∃s τl,I s/\GoTo nI al1 hs1 (R s) (H s) τl)
 (h2:∀s,I s->WX P nt nI (.code b) (R s) (H s) K):WX P nt nI (.code (.seq (.seq (.region id ops dr) x) b)) al hs K:=WX.meet R H I hok h1 h2
theorem af.ig{τ : Nat->Nat}{HS:ah}{i k k' n n' s:Nat}{rest:List XC}{e:TypeId}{a b:Bool}{l:List Nat}{hs:ah}(h:HS[i]? = some (.cells (fk k' n' s::rest) e a b))(hk : τ k=k')(hn:n'=n)(hr:rest.all XC.shut=true)(r:af τ HS l hs):af τ HS (i::l) (.cells (fk k n s::rest) e a b::hs):=by
 refine af.cons ?_ r;simp only[aj.aC,List.map_cons,aX,hk,<-hn,fN hr];exact h
theorem WX.fresh{c:rM}{K:ca}{o:aj}(ho:o = .dead\/o = .late [])(hb:Nat.blt hs.length Mem.bound=true)(h:WX P nt nI c al (hs++[o]) K):WX P nt nI c al hs K:=by
 intro βI mI wI hn m hm β w a Q hr hst hq;obtain⟨m',hp,hh,_⟩:=hm.push o (by simpa [Nat.blt_eq]using hb);obtain⟨p1,p2,p3,p4⟩:=Mem.bK hp;have hnn:m'.get m.n=o:=by unfold Mem.get;rw[p3]
 have hold:∀i,i≠m.n->m'.get i=m.get i:=fun i hi=>by unfold Mem.get;rw[p4 i hi]
 have hb2:=hh.bnd
 have hno:o.own=false/\o.live=false:=by rcases ho with rfl|rfl<;>exact⟨rfl,rfl⟩
 have himg:∀k,kT β m' k->kT β m k:=fun k ⟨i,hi,hl,hb⟩=>by
  have e1:i≠m.n:=fun e=>by subst e;rw[hnn,hno.1]at hl;cases hl
  exact⟨i,by omega,by rw[hold i e1]at hl;exact hl,hb⟩
 have hrel:Rel β m' w:=by
  refine⟨hb2,hh.fresh,fun i hi=>?_,fun i j hi hj li lj hbb=>?_,fun i hi L hL=>?_⟩
  ·by_cases e:i=m.n
   ·subst e;rw[hnn];rcases ho with rfl|rfl<;>trivial
   ·rw[hold i e];exact(hst.rel.obj i (by omega)).ext (fun _ _=>⟨rfl,rfl,rfl⟩) (by omega)
  ·have e1:i≠m.n:=fun e=>by subst e;rw[hnn,hno.1]at li;cases li
   have e2:j≠m.n:=fun e=>by subst e;rw[hnn,hno.2]at lj;cases lj
   rw[hold i e1]at li;rw[hold j e2]at lj;exact hst.rel.inj i j (by omega) (by omega) li lj hbb
  ·by_cases e:i=m.n
   ·subst e;rw[hnn]at hL
    rcases ho with rfl|rfl
    ·cases hL
    ·cases hL;intro k cs hk;cases hk
   ·rw[hold i e]at hL;exact(hst.rel.late i (by omega) L hL).ic (by omega) (by omega) (Ext.refl _ _) (fun _ _ _=>rfl) fun k _=>himg k
 refine h βI mI wI hn m' hh β w a Q ?_ ?_ hq
 ·exact⟨hr.size,hr.small,fun t ht=>(hr.rel t ht).ext (fun _ _=>⟨rfl,rfl,rfl⟩) (by omega),hr.out⟩
 ·refine⟨by have:=hst.le;omega,hst.ext,hrel,hst.os,hst.tape,hst.output,hst.size,hst.frame,fun k hk hi=>hst.qe k hk (himg k hi),fun k hk ⟨i,hi,L,q,cs,e1,e2,e3⟩=>hst.wL k hk ?_⟩
  by_cases e:i=m.n
  ·subst e;rw[hnn]at e1
   rcases ho with rfl|rfl
   ·cases e1
   ·cases e1;cases e2
  ·exact⟨i,by omega,L,q,cs,by rw[<-hold i e];exact e1,e2,e3⟩
theorem WX.bU{c:rM}{K:ca}(hb:Nat.blt hs.length Mem.bound=true)(h:WX P nt nI c al (hs++[.dead]) K):WX P nt nI c al hs K:=WX.fresh (.inl rfl) hb h
theorem WX.ghost{c:rM}{K:ca}(hb:Nat.blt hs.length Mem.bound=true)(h:WX P nt nI c al (hs++[.late []]) K):WX P nt nI c al hs K:=WX.fresh (.inr rfl) hb h
end Go.Xm
