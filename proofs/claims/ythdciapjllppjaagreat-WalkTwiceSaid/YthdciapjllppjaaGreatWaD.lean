/-
  A part of the proof: XwStep, XwOps, XwCall, XwK, XvBase, XvCall, XvInst, XvRule, XvMore, XvArg, XvFlow.
-/
import Derived.Test.YthdciapjllppjaaGreatWaC
set_option maxRecDepth 10000
set_option maxHeartbeats 8000000
set_option linter.unusedVariables false
set_option linter.unusedSectionVars false
set_option linter.unusedSimpArgs false
namespace Go.Xm
variable [ak]
structure Ab where
 eff:Bool
 fp:Option Nat
 ws:List Nat
def wa(d:Option Nat)(x:XV)(al:aN):aN:=
 match d with
 | some d=>(d,x)::al
 | .none=>al
theorem gz.wa{β : Env}{n nt:Nat}{al:aN}{a:Act}(h:gz β n nt (rg al) a.tmps)(d:Option Nat){x:XV}{v:Value}(hv:aK β n x v)(hd:∀t,d=some t->t<nt):gz β n nt (rg (Xm.wa d x al)) (a.put d v).tmps:=by
 have:=h.put d hv hd
 cases d with
 | none=>exact this
 | some d=>
   have e:(fun t=>if some d=some t then x else rg al t)=rg (Xm.wa (some d) x al):=by
    funext t
    simp only[Xm.wa,rg,Option.some.injEq,eq_comm (a:=d)]
   rw[e]at this;exact this
def aA(O:dc)(P:Program)(ops:Array Oper)(al:aN)(hs:ah)(o:Oper)(x:XV)(hs':ah)(b:Ab):Prop:=
 ∀m,aZ m hs->∃m',jg O P ops (rg al) o m=some ⟨x,m',b.eff,b.fp⟩/\aZ m' hs'/\∀j,j∉b.ws->(m'.fX j).ver=(m.fX j).ver
inductive mo(O:dc)(P:Program)(ops:Array Oper)(nt:Nat):List Oper->aN->ah->List Ab->aN->ah->Prop where
 | nil {al:aN} {hs:ah}:mo O P ops nt [] al hs [] al hs
 | cons {o:Oper} {l:List Oper} {al al':aN} {hs hs1 hs':ah} {x:XV} {b:Ab} {bs:List Ab}:aA O P ops al hs o x hs1 b->(∀d,o.dst=some d->d<nt)->mo O P ops nt l (wa o.dst x al) hs1 bs al' hs'->mo O P ops nt (o::l) al hs (b::bs) al' hs'
section
variable {O:dc} {P:Program} {ops:Array Oper} {nt nI:Nat}
theorem F5(hO:aR P O){Q:Exit->Act->World->Prop}{l:List Oper}{al al':aN}{hs hs':ah}{bs:List Ab}(h:mo O P ops nt l al hs bs al' hs'):∀{m:Mem} {β : Env} {w:World} {a:Act},aZ m hs->gz β m.n nt (rg al) a.tmps->Rel β m w ->
 (∀m' a' β' w',aZ m' hs'->gz β' m'.n nt (rg al') a'.tmps->a'.defers=a.defers->Step β m w β' m' w'->Q .normal a' w')->wpList P ops Q l a w:=by
 induction h with
 | nil=>
   intro m β w a hm hr hw hq;exact hq m a β w hm hr rfl (Step.refl hw)
 | cons ho hd _ ih=>
   rename_i o l al al' hs hs1 hs' x b bs _;intro m β w a hm hr hw hq;obtain⟨m1,h1,h2,_⟩:=ho m hm;unfold jg at h1;unfold wpList;split at h1
   ·rename_i hwt;rw[if_pos (fD hwt hr)];refine .inl (r5 hO h1 hw (fun x=>hr.eval x) a _ Q rfl fun u β' w' hu hst=>?_);refine ih h2 ((hr.ext hst.ext hst.le).wa o.dst hu hd) hst.rel fun m' a'' β'' w'' k1 k2 k3 k4=>?_
    exact hq m' a'' β'' w'' k1 k2 (by rw[k3,dI]) (hst.trans k4)
   ·rename_i hwt;simp only[Option.some.injEq,Out.mk.injEq]at h1;obtain⟨rfl,rfl,_,_⟩:=h1;have:=fD hwt hr;rw[if_neg (by simp[this])];refine ih h2 (hr.wa o.dst aK.skip hd) hw fun m' a'' β'' w'' k1 k2 k3 k4=>?_
    exact hq m' a'' β'' w'' k1 k2 (by rw[k3,dI]) k4
   ·cases h1
theorem WX.plain(hO:aR P O){id:Nat}{al al':aN}{hs hs':ah}{bs:List Ab}{K:ch}(h:mo O P ops nt ops.toList al hs bs al' hs')(hk:K .normal al' hs'):WX P nt nI (.code (.region id ops false)) al hs K:=
 fun _ _ _ _ _ hm _ _ _ _ hr hw hq=>wp_region_list (F5 hO h hm hr hw.rel fun m' a' β' w' k1 k2 k3 k4=>hq .normal al' hs' m' hk k1 a' β' w' k2 k3 (hw.trans k4))
theorem sh(g:Nat->XV)(nt:Nat)(hn:nt<1000000)(ho:∀t,nt<=t->g t = .undef):∃r:T XV,∀t,r.get .undef t=g t:=by
 have : ∀k,k<=nt->∃r:T XV,∀t,r.get .undef t=if t<k then g t else .undef:=by
  intro k
  induction k with
  | zero=>intro _;exact⟨.leaf,fun t=>by simp[T.eJ]⟩
  | succ k ih=>
    intro hk;obtain⟨r,hr⟩:=ih (by omega);refine⟨r.set .undef 31 k (g k),fun t=>?_⟩
    by_cases ht:t=k
    ·subst ht;rw[T.fY _ _ _ _ _ (by omega)];simp
    ·rw[T.fc _ _ _ _ _ _ ht,hr t]
     by_cases h1:t<k
     ·rw[if_pos h1,if_pos (by omega)]
     ·rw[if_neg h1,if_neg (by omega)]
 obtain⟨r,hr⟩:=this nt (Nat.le_refl _);refine⟨r,fun t=>?_⟩;rw[hr t];split
 ·rfl
 ·exact(ho t (by omega)).symm
def IE(bs:List Nat)(i:Nat)(di:Ab)(e:Nat)(de:Ab):Bool:=
 !de.eff||i==e||((!(di.eff&&decide (e<i))||bit bs i e)&&
  (match di.fp with
    | .none=>true
    | some fp=>bit bs i e||bit bs e i||!(de.ws.contains fp)))
def wH(bs:List Nat)(tr:List Ab):Bool:=
 (List.range tr.length).all fun i=>match tr[i]? with
   | .none=>true
   | some di=>(!di.eff&&di.fp.isNone)||(List.range tr.length).all fun e=>match tr[e]? with
     | .none=>true
     | some de=>IE bs i di e de
def NB:List (Mem×Out)->List Ab->Prop:=da fun p b=>p.2.eff=b.eff/\p.2.fp=b.fp/\∀j,j∉b.ws->(p.2.m.fX j).ver=(p.1.fX j).ver
theorem da.get?{α γ : Type}{R : α -> γ->Prop}:∀{l:List α} {k:List γ},da R l k->∀(i:Nat) (a : α),l[i]? = some a->∃b,k[i]? = some b/\R a b
 | _,_,.nil,i,a,h=>by simp at h
 | _,_,.cons h t,0,a,h1=>by simp at h1;subst h1;exact⟨_,rfl,h⟩
 | _,_,.cons h t,i+1,a,h1=>by simp at h1;exact t.get? i a h1
theorem ET{bs:List Nat}{tr:List (Mem×Out)}{ab:List Ab}(ht:NB tr ab)(h:wH bs ab=true):jn bs tr=true:=by
 have hl:tr.length=ab.length:=da.length ht;unfold wH at h;unfold jn;rw[List.all_eq_true]at h ⊢;intro i hi;have hi':=h i (by rw[<-hl];exact hi);split
 ·rfl
 ·rename_i mi di hdi;obtain⟨bi,hb,h1,h2,_⟩:=da.get? ht i _ hdi;simp only at h1 h2;rw[hb]at hi';simp only[Bool.or_eq_true]at hi' ⊢;rw[h1,h2]
  rcases hi' with hi'|hi'
  ·exact .inl hi'
  ·refine .inr (List.all_eq_true.2 fun e he=>?_);have he':=List.all_eq_true.1 hi' e (by rw[<-hl];exact he);split
   ·rfl
   ·rename_i me de hde;obtain⟨be,hbe,k1,k2,k3⟩:=da.get? ht e _ hde;simp only at k1 k2 k3;rw[hbe]at he';unfold iC;unfold IE at he';rw[h1,h2,k1];simp only[Bool.or_eq_true,Bool.and_eq_true]at he' ⊢
    rcases he' with he'|⟨ha,hb'⟩
    ·exact .inl he'
    ·refine .inr ⟨ha,?_⟩
     cases hf:bi.fp with
     | none=>rfl
     | some fp=>
       rw[hf]at hb';simp only[Bool.or_eq_true]at hb' ⊢
       rcases hb' with hb'|hb'
       ·exact .inl hb'
       ·refine .inr ?_;have:fp∉be.ws:=by simpa using hb'
        rw[k3 fp this];simp
theorem MI{r:T XV}{al:aN}(hr:∀t,r.get .undef t=rg al t)(hn:nt<1000000)(d:Option Nat)(x:XV)(hd:∀t,d=some t->t<nt):∀t,(nk nt r d x).get .undef t=rg (wa d x al) t:=by
 intro t
 cases d with
 | none=>exact hr t
 | some d=>
   have:=hd d rfl;simp only[nk,this,if_true,wa,rg]
   by_cases ht:t=d
   ·subst ht;rw[T.fY _ _ _ _ _ (by omega),if_pos rfl]
   ·rw[T.fc _ _ _ _ _ _ ht,if_neg ht];exact hr t
theorem qK(hn:nt<1000000){l:List Oper}{al al':aN}{hs hs':ah}{bs:List Ab}(h:mo O P ops nt l al hs bs al' hs'):∀{m:Mem} {r:T XV},aZ m hs->(∀t,r.get .undef t=rg al t) ->
 ∃tr r' m',ja O P ops nt l r m=some (tr,r',m')/\(∀t,r'.get .undef t=rg al' t)/\aZ m' hs'/\NB tr bs:=by
 induction h with
 | nil=>
   intro m r hm hr;exact⟨[],r,m,rfl,hr,hm,.nil⟩
 | cons ho hd _ ih=>
   rename_i o l al al' hs hs1 hs' x b bs _;intro m r hm hr;obtain⟨m1,h1,h2,h3⟩:=ho m hm;have e:(fun t=>r.get .undef t)=rg al:=funext hr;obtain⟨tr,r',m',k1,k2,k3,k4⟩:=ih h2 (MI hr hn o.dst x hd);refine⟨(m,⟨x,m1,b.eff,b.fp⟩)::tr,r',m',?_,k2,k3,.cons ⟨rfl,rfl,h3⟩ k4⟩;unfold ja;have h1':jg O P ops (r.get .undef) o m=some ⟨x,m1,b.eff,b.fp⟩:=by rw[show(r.get .undef)=rg al from e];exact h1
   rw[h1'];simp only[k1]
theorem WX.drawn(hO:aR P O)(hP:P.follows .mixedOrders=true){id:Nat}{al al':aN}{hs hs':ah}{bs:List Ab}{K:ch}(hst:cW ops nt (iO ops.toList)=true)(h:mo O P ops nt ops.toList al hs bs al' hs')(hdy:wH (iO ops.toList) bs=true)
 (hk:K .normal al' hs'):WX P nt nI (.code (.region id ops true)) al hs K:=by
 intro βI mI wI hn m hm β w a Q hr hw hq;obtain⟨r,hrr⟩:=sh (rg al) nt hr.small hr.out;obtain⟨tr,r',m',h1,h2,h3,h4⟩:=qK hr.small h hm hrr
 have hx:kL O P ops nt r m=some (r',m'):=by
  refine vB ?_;unfold iL;rw[if_pos hst,h1];simp only[];rw[if_pos (ET h4 hdy)]
 have e:(r.get .undef)=rg al:=funext hrr;have e':(r'.get .undef)=rg al':=funext h2;refine xv hO hP hx (by unfold lQ;rw[e];exact hr) hw.rel fun a' β' w' k1 k2 k3=>?_
 unfold lQ at k1;rw[e']at k1;exact hq .normal al' hs' m' hk h3 a' β' w' k1 k2 (hw.trans k3)
end
end Go.Xm
namespace Go.Xm
variable [ak]
theorem aZ.at{m:Mem}{hs:ah}(h:aZ m hs){i:Nat}{o:aj}(ho:hs[i]? = some o):m.get i=o:=by
 have hi:i<m.n:=by
  have:=(List.getElem?_eq_some_iff.1 ho).1;rw[h.n];exact this
 rw[h.get i hi,List.getD_eq_getElem?_getD,ho];rfl
theorem aZ.lt{m:Mem}{hs:ah}(h:aZ m hs){i:Nat}{o:aj}(ho:hs[i]? = some o):i<m.n/\i<Mem.bound:=by
 have:=(List.getElem?_eq_some_iff.1 ho).1;have h1:=h.n;have h2:=h.bnd;omega
theorem aZ.put{m:Mem}{hs:ah}(h:aZ m hs){i:Nat}{o:aj}(ho:hs[i]? = some o)(o':aj):aZ (m.put i o') (hs.set i o'):=by
 obtain⟨h1,h2⟩:=h.lt ho;refine⟨by rw[Mem.dV,List.length_set];exact h.n,by rw[Mem.dV];exact h.bnd,b_.put h.fresh o',fun j hj=>?_⟩;rw[Mem.dV]at hj
 by_cases hji:j=i
 ·subst hji;rw[Mem.fb m o' h1 h2];have:j<hs.length:=by rw[<-h.n];exact hj
  simp[List.getD_eq_getElem?_getD,this]
 ·rw[Mem.ee m o' hji,h.get j hj];simp[List.getD_eq_getElem?_getD,List.getElem?_set_ne (Ne.symm hji)]
theorem tc{m:Mem}{i:Nat}{o:aj}:∀j,j∉[i]->((m.put i o).fX j).ver=(m.fX j).ver:=by
 intro j hj;rw[Mem.gT m o (by simpa using hj)]
theorem aZ.push{m:Mem}{hs:ah}(h:aZ m hs)(o:aj)(hb:hs.length<Mem.bound):∃m',m.push o=some m'/\aZ m' (hs++[o])/\∀j,j∉[hs.length]->(m'.fX j).ver=(m.fX j).ver:=by
 have hn:=h.n
 obtain⟨m',hp⟩:∃m',m.push o=some m':=by
  unfold Mem.push;rw[if_pos (by omega)];exact⟨_,rfl⟩
 obtain⟨_,h2,h3,h4⟩:=Mem.br hp;refine⟨m',hp,⟨by rw[h2,hn];simp,by omega,b_.push h.fresh hp,fun j hj=>?_⟩,fun j hj=>?_⟩
 ·by_cases hjn:j=m.n
  ·subst hjn;unfold Mem.get;rw[h3,hn];simp[List.getD_eq_getElem?_getD]
  ·have:m'.get j=m.get j:=by unfold Mem.get;rw[h4 j hjn]
   rw[this,h.get j (by omega),List.getD_eq_getElem?_getD,List.getD_eq_getElem?_getD,List.getElem?_append_left (by omega)]
 ·rw[h4 j (by rw[hn];simpa using hj)]
section
variable {O:dc} {P:Program} {ops:Array Oper} {al:aN} {hs:ah} {o:Oper}
abbrev quiet:Ab:=⟨false,.none,[]⟩
theorem aA.skip(hw:av ops (rg al) o=some false):aA O P ops al hs o (.tup []) hs quiet:=
 fun m hm=>⟨m,by unfold jg;rw[hw],hm,fun _ _=>rfl⟩
theorem aA.pure(hw:av ops (rg al) o=some true){x:XV}(h:aY P (ae (rg al)) o.op=some x):aA O P ops al hs o x hs quiet:=
 fun m hm=>⟨m,by unfold jg;rw[hw];simp only[dC,dF,h],hm,fun _ _=>rfl⟩
theorem l6(hop:aY P (ae (rg al)) o.op = .none)(hx:pW O (ae (rg al)) o.op = .none){i:Nat}{f:aj->Option XV}(hr:eS P (ae (rg al)) o.op=some (i,f)){x:XV}{m:Mem}(hf:f (m.get i)=some x) :
 dC O P (ae (rg al)) o.op m=some ⟨x,m,false,some i⟩:=by
 simp only[dC,dF,hop,hx,hr,hf]
theorem aA.load(hw:av ops (rg al) o=some true){t:TypeId}{a:Operand}(ho:o.op = .load t a){i off:Nat}(ha:ae (rg al) a = .one (.ptr i off)){vs:List XC}{e:TypeId}{opn ro:Bool}(hi:hs[i]? = some (.cells vs e opn ro)){x:X1}(hl:dv P t vs off=some x) :
 aA O P ops al hs o x.pP hs ⟨false,some i,[]⟩:=by
 intro m hm;refine⟨m,?_,hm,fun _ _=>rfl⟩;unfold jg;rw[hw]
 obtain⟨f,hf1,hf2⟩:∃f,eS P (ae (rg al)) o.op=some (i,f)/\∀vs' e' o' r',f (.cells vs' e' o' r')=(dv P t vs' off).map X1.pP:=by
  rw[ho];simp only[eS,ha];exact⟨_,rfl,fun _ _ _ _=>rfl⟩
 refine l6 (by rw[ho];rfl) (by rw[ho];rfl) hf1 ?_;rw[hm.at hi,hf2,hl];rfl
theorem zR{t:TypeId}{vs:List XC}{off:Nat}{c:XC}(h:fG P t=some false)(hc:vs[off]? = some c):dv P t vs off=some (.one c):=by
 unfold dv;rw[h,hc]
theorem zQ{t:TypeId}{vs:List XC}(h:fG P t=some true)(hs:bP P t=some vs.length):dv P t vs 0=some (.agg vs):=by
 unfold dv;rw[h,hs];simp
theorem cg(hop:aY P (ae (rg al)) o.op = .none)(hx:pW O (ae (rg al)) o.op = .none)(hr:eS P (ae (rg al)) o.op = .none){x:XV}{m m':Mem}(hf:b9 P (ae (rg al)) o.op m=some (x,m')) :
 dC O P (ae (rg al)) o.op m=some ⟨x,m',true,.none⟩:=by
 simp only[dC,dF,hop,hx,hr,hf]
theorem aA.store(hw:av ops (rg al) o=some true){t:TypeId}{a y:Operand}(ho:o.op = .store t a y){i off:Nat}(ha:ae (rg al) a = .one (.ptr i off)){cs:List XC}(hy:cJ (ae (rg al) y)=some cs)(hsz:bP P t=some cs.length)
 {vs:List XC} {e:TypeId} {opn:Bool}(hi:hs[i]? = some (.cells vs e opn false)) (hle:off+cs.length<=vs.length) {vs':List XC}(hv:vs.take off++cs++vs.drop (off+cs.length)=vs') :
 aA O P ops al hs o (.tup []) (hs.set i (.cells vs' e opn false)) ⟨true,.none,[i]⟩:=by
 intro m hm;refine⟨m.put i (.cells vs' e opn false),?_,hm.put hi _,tc⟩;unfold jg;rw[hw];refine cg (by rw[ho];rfl) (by rw[ho];rfl) (by rw[ho];rfl) ?_;rw[ho];simp only[b9,kS,ha,hy,hsz,if_true,hm.at hi,if_pos hle,hv]
theorem F8{vs:List XC}{off:Nat}{c:XC}(h:off<vs.length):vs.take off++[c]++vs.drop (off + [c].length)=vs.set off c:=by
 rw[List.set_eq_take_append_cons_drop,if_pos h];simp
theorem F7{vs cs:List XC}(h:cs.length=vs.length):vs.take 0++cs++vs.drop (0+cs.length)=cs:=by simp[h]
theorem aA.alloc(hw:av ops (rg al) o=some true){t:TypeId}(ho:o.op = .alloc t){zs:List XC}(hz:q9 P t=some zs)(hb:Nat.blt hs.length Mem.bound=true) :
 aA O P ops al hs o (.one (.ptr hs.length 0)) (hs++[.cells zs t false false]) ⟨true,.none,[hs.length]⟩:=by
 intro m hm;obtain⟨m',h1,h2,h3⟩:=hm.push (.cells zs t false false) (by simpa [Nat.blt_eq]using hb);refine⟨m',?_,h2,h3⟩;unfold jg;rw[hw];refine cg (by rw[ho];rfl) (by rw[ho];rfl) (by rw[ho];rfl) ?_;rw[ho];simp only[b9,og,hz,yO,h1,hm.n]
theorem aA.box(hw:av ops (rg al) o=some true){t:TypeId}{y:Operand}(ho:o.op = .box t y){cs:List XC}(hy:cJ (ae (rg al) y)=some cs)(hb:Nat.blt hs.length Mem.bound=true) :
 aA O P ops al hs o (.one (.ptr hs.length 0)) (hs++[.cells cs t false false]) ⟨true,.none,[hs.length]⟩:=by
 intro m hm;obtain⟨m',h1,h2,h3⟩:=hm.push (.cells cs t false false) (by simpa [Nat.blt_eq]using hb);refine⟨m',?_,h2,h3⟩;unfold jg;rw[hw];refine cg (by rw[ho];rfl) (by rw[ho];rfl) (by rw[ho];rfl) ?_;rw[ho];simp only[b9,Gw,hy,yO,h1,hm.n]
theorem aA.bin(hw:av ops (rg al) o=some true){op:BinOp}{t t':TypeId}{a b:Operand}(ho:o.op = .binOp op t a b t'){k k':IntKind}{x y:Int}(ha:ae (rg al) a = .one (.int k x))(hb:ae (rg al) b = .one (.int k' y)){c:XC}(hc:bB op k k' x y=some c) :
 aA O P ops al hs o (.one c) hs quiet:=
 aA.pure hw (by rw[ho];simp only[aY,vv,ha,hb,hc,Option.map_some])
theorem De{k:IntKind}{x y z:Int}(hy:y≠0)(h:x.tmod y=z):bB .rem k k x y=some (.int k z):=by simp only[bB,dS,if_true,hy,if_false,h]
theorem aA.index(hw:av ops (rg al) o=some true){t:TypeId}{a b:Operand}(ho:o.op = .indexAddr t a b){i off s len j:Nat}{elem:TypeId}(ha:ae (rg al) a = .one (.ptr i off)){k:IntKind}(hb:ae (rg al) b = .one (.int k (j:Nat)))
 (ht:P.underlying t=some (.array len elem)) (hsz:bP P elem=some s) (hj:j<len) {p:Nat}(hp:off+j*s=p):aA O P ops al hs o (.one (.ptr i p)) hs quiet:=
 aA.pure hw (by
  rw[ho];have h1:(0:Int)<=(j:Int)/\(j:Int)<(len:Int):=by omega
  simp only[aY,b6,ha,hb,ht,hsz,if_pos h1,Option.map_some,Int.toNat_natCast,hp])
theorem aA.elem(hw:av ops (rg al) o=some true){t:TypeId}{a b:Operand}(ho:o.op = .index t a b){len j:Nat}{elem:TypeId}{cs:List XC}(ha:ae (rg al) a = .agg cs){k:IntKind}(hb:ae (rg al) b = .one (.int k (j:Nat)))
 (ht:P.underlying t=some (.array len elem)) (hsz:bP P elem=some 1) (hg:fG P elem=some false) (hj:j<len) {c:XC}(hc:cs[j]? = some c):aA O P ops al hs o (.one c) hs quiet:=
 aA.pure hw (by
  rw[ho];have h1:(0:Int)<=(j:Int)/\(j:Int)<(len:Int):=by omega
  simp only[aY,pV,ha,hb,ht,hsz,if_pos h1,Int.toNat_natCast,Nat.mul_one,gx,hg,hc,Option.map_some,X1.pP])
theorem aA.call(hw:av ops (rg al) o=some true){g:Operand}{args:Array Operand}{ts:Array TypeId}(ho:o.op = .call ⟨.value g,args,ts⟩){f:FuncId}(hg:ae (rg al) g = .one (.fn f))(hcb:eR P f=true){vs:List XV}(ha:args.toList.map (ae (rg al))=vs)
 {x:XV} {hs':ah} {ws:List Nat}(hc:∀m,aZ m hs->∃m',O.call f vs m=some (x,m')/\aZ m' hs'/\∀j,j∉ws->(m'.fX j).ver=(m.fX j).ver):aA O P ops al hs o x hs' ⟨true,.none,ws⟩:=by
 intro m hm;obtain⟨m',h1,h2,h3⟩:=hc m hm;refine⟨m',?_,h2,h3⟩;unfold jg;rw[hw]
 have e:cR O P (ae (rg al)) o.op m=some (x,m'):=by
  rw[ho];simp only[cR,hg,y9,hcb,if_true,List.map_nil,List.append_nil,ha,h1]
 have n1:aY P (ae (rg al)) o.op = .none:=by rw[ho];rfl
 have n2:pW O (ae (rg al)) o.op = .none:=by rw[ho];rfl
 have n3:eS P (ae (rg al)) o.op = .none:=by rw[ho];rfl
 have n4:b9 P (ae (rg al)) o.op m = .none:=by rw[ho];rfl
 simp only[dC,dF,n1,n2,n3,n4,e]
end
end Go.Xm
namespace Go.Xm
variable [ak]
def mu:List XV->Nat->aN
 | [],_=>[]
 | x::l,i=>(i,x)::mu l (i+1)
theorem u2:∀(l:List XV) (i j:Nat),rg (mu l i) j=if i<=j/\j<i+l.length then l.getD (j-i) .undef else .undef
 | [],i,j=>by simp[mu,rg]
 | x :: l,i,j=>by
   simp only[mu,rg,List.length_cons]
   by_cases h:j=i
   ·subst h;rw[if_pos rfl,if_pos (by omega)];simp
   ·rw[if_neg h,u2 l (i+1) j]
    by_cases h1:i+1<=j/\j<i+1+l.length
    ·rw[if_pos h1,if_pos (by omega)]
     obtain⟨k,hk⟩:∃k,j-i=k+1:=⟨j-i-1,by omega⟩
     rw[hk,show j-(i+1)=k by omega];rfl
    ·rw[if_neg h1,if_neg (by omega)]
def sI(P:Program)(fn:Func)(al:aN)(hs:ah)(v:XV):Prop:=∀m,aZ m hs->dq P fn (rg al) m=some v
theorem zD:aZ Mem.empty []:=⟨rfl,Nat.zero_le _,si,fun i hi=>absurd hi (Nat.not_lt_zero i)⟩
def iT:ah->Mem
 | hs=>hs.foldl (fun m o=>(m.push o).getD m) Mem.empty
theorem eU(hs:ah)(hb:hs.length<Mem.bound):aZ (iT hs) hs:=by
 have:∀(l k:ah) (m:Mem),aZ m k->k.length+l.length<Mem.bound->aZ (l.foldl (fun m o=>(m.push o).getD m) m) (k++l):=by
  intro l
  induction l with
  | nil=>intro k m hm _;simpa using hm
  | cons o l ih=>
    intro k m hm hlen;simp only[List.length_cons]at hlen;obtain⟨m',h1,h2,_⟩:=hm.push o (by omega);simp only[List.foldl_cons,h1,Option.getD_some];have:=ih (k++[o]) m' h2 (by simp;omega);simpa using this
 have h:=this hs [] Mem.empty zD (by simpa using hb);simpa [iT]using h
def SM(P:Program)(f:FuncId)(args:List XV)(v:XV):Prop:=∀m,dW P f args m v m
theorem mB{P:Program}{r:xJ}(h:r.SP P):SM P r.f r.args r.v:=by
 obtain⟨h1,m',h2⟩:=h;simp only[xJ.Jj,Bool.and_eq_true,List.all_eq_true]at h1;exact fun m=>forget h2 h1.1 h1.2 m
end Go.Xm
namespace Go.Xm
variable [ak]
def nB(O:dc)(P:Program)(ops:Array Oper)(nt:Nat)(l:List Oper)(al:aN)(hs:ah)(K:List Ab->aN->ah->Prop):Prop:=
 ∃bs al' hs',mo O P ops nt l al hs bs al' hs'/\K bs al' hs'
section
variable {O:dc} {P:Program} {ops:Array Oper} {nt nI:Nat} {al:aN} {hs:ah} {o:Oper}
theorem nB.nil{K:List Ab->aN->ah->Prop}(h:K [] al hs):nB O P ops nt [] al hs K:=⟨[],al,hs,.nil,h⟩
theorem nB.cons{o:Oper}{l:List Oper}{x:XV}{hs1:ah}{b:Ab}{K:List Ab->aN->ah->Prop}(h:aA O P ops al hs o x hs1 b)(hd:(match o.dst with | .none=>true|some d=>decide (d<nt))=true)
 (hk:nB O P ops nt l (wa o.dst x al) hs1 fun bs=>K (b::bs)):nB O P ops nt (o::l) al hs K:=by
 obtain⟨bs,al',hs',h1,h2⟩:=hk;exact⟨b::bs,al',hs',.cons h (fun d hd'=>by rw[hd']at hd;exact of_decide_eq_true hd) h1,h2⟩
theorem WX.R5(hO:aR P O){id:Nat}{K:ch}(h:nB O P ops nt ops.toList al hs fun _ al' hs'=>K .normal al' hs'):WX P nt nI (.code (.region id ops false)) al hs K:=by
 obtain⟨bs,al',hs',h1,h2⟩:=h;exact WX.plain hO h1 h2
theorem WX.Qy(hO:aR P O)(hP:P.follows .mixedOrders=true){id:Nat}{K:ch}(hst:cW ops nt (iO ops.toList)=true)(h:nB O P ops nt ops.toList al hs fun bs al' hs'=>wH (iO ops.toList) bs=true/\K .normal al' hs'):WX P nt nI (.code (.region id ops true)) al hs K:=by
 obtain⟨bs,al',hs',h1,h2,h3⟩:=h;exact WX.drawn hO hP hst h1 h2 h3
theorem WX.at{c:sd}{al':aN}{hs':ah}{K:ch}(hl:y_ al' al)(hh:hs=hs')(h:WX P nt nI c al' hs' K):WX P nt nI c al hs K:=by
 subst hh;exact WX.less hl h
theorem WX.count{c:Code}{K:ch}(R:Nat->aN)(H:Nat->ah)(I:Nat->Prop)(N:Nat)(h0:I 0)
 (step:∀i,i<=N->I i->(i<N->I (i+1)->WX P nt nI (.round c) (R (i+1)) (H (i+1)) K)->WX P nt nI (.round c) (R i) (H i) K):WX P nt nI (.round c) (R 0) (H 0) K:=by
 have:∀d i,i+d=N->I i->WX P nt nI (.round c) (R i) (H i) K:=by
  intro d
  induction d with
  | zero=>intro i hi h;exact step i (by omega) h fun hlt=>absurd hlt (by omega)
  | succ d ih=>intro i hi h;exact step i (by omega) h fun hlt h'=>ih (i+1) (by omega) h'
 exact this N 0 (by omega) h0
theorem aA.conv(hw:av ops (rg al) o=some true){s d:TypeId}{y:Operand}(ho:o.op = .convert s d y){k k':IntKind}{x z:Int}(hy:ae (rg al) y = .one (.int k x))(hc:kK P s d (.one (.int k x))=some (.one (.int k' (iV k' x))))(hz:k'.wrap x=z) :
 aA O P ops al hs o (.one (.int k' z)) hs quiet:=
 aA.pure hw (by rw[ho];simp only[aY,hy,hc,cc,hz])
theorem sI.tmp{fn:Func}{a:Nat}{y:X1}(hr:fn.results.toList = [.tmp a])(ha:pQ (rg al a)=some y):sI P fn al hs y.pP:=by
 intro m hm;unfold dq;rw[hr];simp only[gh,vI,ha]
end
end Go.Xm
namespace Go.Xm
class aG (P:Program) (t:TypeId) (s:outParam Nat):Prop where out:bP P t=some s
class cK (P:Program) (t:TypeId):Prop where out:fG P t=some false
class db (P:Program) (t:TypeId):Prop where out:fG P t=some true
class aL (P:Program) (t:TypeId) (zs:outParam (List XC)):Prop where out:q9 P t=some zs
class aP (P:Program) (t:TypeId) (d:outParam TypeDesc):Prop where out:P.underlying t=some d
class cx (P:Program) (t:TypeId) (l:outParam (List (Nat×Nat))):Prop where out:∃fs,P.underlying t=some (.struct fs)/\oU P fs.toList=some l
class bC (P:Program) (s:TypeId) (f:Nat) (ft:outParam TypeId) (off:outParam Nat):Prop where out:(iM P s f).map (fun fd=>(fd.type,fd.offset))=some (ft,off)
theorem bC.ex{P:Program}{s:TypeId}{f:Nat}{ft:TypeId}{off:Nat}[h:bC P s f ft off]:∃fd,iM P s f=some fd/\fd.type=ft/\fd.offset=off:=by
 obtain⟨fd,h1,h2⟩:=Option.map_eq_some_iff.1 h.out;cases h2;exact⟨fd,h1,rfl,rfl⟩
def ti(k:IntKind)(n:Nat)(f:Nat->Int):List XC:=(List.range n).map fun i => .int k (f i)
def fV(f:Nat->Int)(j:Nat)(x:Int)(i:Nat):Int:=if i=j then x else f i
theorem aT(k:IntKind)(n:Nat)(f:Nat->Int):(ti k n f).length=n:=by simp[ti]
theorem jK{k:IntKind}{n:Nat}{f:Nat->Int}{j:Nat}(h:j<n):(ti k n f)[j]? = some (.int k (f j)):=by simp[ti,h]
theorem rX(k:IntKind)(n:Nat)(f:Nat->Int)(j:Nat)(x:Int):(ti k n f).set j (.int k x)=ti k n (fV f j x):=by
 apply List.ext_getElem?;intro i;rw[List.getElem?_set]
 by_cases hj:j=i
 ·subst hj
  by_cases hn:j<n
  ·rw[if_pos rfl,if_pos (by rw[aT];exact hn),jK hn];simp[fV]
  ·rw[if_pos rfl,if_neg (by rw[aT];exact hn),List.getElem?_eq_none (by rw[aT];omega)]
 ·rw[if_neg hj]
  by_cases hn:i<n
  ·rw[jK hn,jK hn];simp[fV,Ne.symm hj]
  ·rw[List.getElem?_eq_none (by rw[aT];omega),List.getElem?_eq_none (by rw[aT];omega)]
theorem kG{k:IntKind}{n:Nat}{f g:Nat->Int}(h:∀i,i<n->f i=g i):ti k n f=ti k n g:=by
 unfold ti;exact List.map_congr_left fun i hi=>by rw[h i (List.mem_range.1 hi)]
end Go.Xm
namespace Go.Xm
def XC.aB(τ : Nat->Nat):XC->XC
 | .ptr i off => .ptr (τ i) off
 | .slice i off len cap => .slice (τ i) off len cap
 | .map i => .map (τ i)
 | .lsl g k off len fl cut => .lsl (τ g) k off len fl cut
 | .lpt g k off => .lpt (τ g) k off
 | .bind g c => .bind (g.aB τ) (c.aB τ)
 | c=>c
def X1.aB(τ : Nat->Nat):X1->X1
 | .one c => .one (c.aB τ)
 | .agg cs => .agg (cs.map (·.aB τ))
def XV.aB(τ : Nat->Nat):XV->XV
 | .undef => .undef
 | .one c => .one (c.aB τ)
 | .agg cs => .agg (cs.map (·.aB τ))
 | .tup xs => .tup (xs.map (·.aB τ))
def aj.aB(τ : Nat->Nat):aj->aj
 | .dead => .dead
 | .late L => .late L
 | .cells vs e opn ro => .cells (vs.map (·.aB τ)) e opn ro
 | .map es => .map (es.map fun p=>(p.1.aB τ,p.2.aB τ))
def XV.bH(n:Nat):XV->Prop
 | .undef=>True
 | .one c=>c.ok n
 | .agg cs=>∀c∈cs,c.ok n
 | .tup xs=>∀x∈xs,x.ok n
def aj.bH(n:Nat):aj->Prop
 | .dead=>True
 | .late _=>True
 | .cells vs _ _ _=>∀c∈vs,c.ok n
 | .map es=>∀p∈es,p.1.ok n/\p.2.ok n
theorem XC.mN{τ : Nat->Nat}{n N:Nat}(h:∀i,i<n -> τ i<N):∀{c:XC},c.ok n->(c.aB τ).ok N:=by
 intro c
 induction c with
 | ptr i off=>exact fun h'=>h i h'
 | slice i off len cap=>exact fun h'=>h i h'
 | map i=>exact fun h'=>h i h'
 | lsl g k off len fl cut=>exact fun h'=>h g h'
 | lpt g k off=>exact fun h'=>h g h'
 | bind g c ih1 ih2=>exact fun h'=>⟨ih1 h'.1,ih2 h'.2⟩
 | _=>intro _;trivial
theorem X1.mN{τ : Nat->Nat}{n N:Nat}(h:∀i,i<n -> τ i<N):∀{x:X1},x.ok n->(x.aB τ).ok N
 | .one _,h'=>XC.mN h h'
 | .agg cs,h'=>fun c hc=>by
   obtain⟨d,hd,rfl⟩:=List.mem_map.1 hc;exact XC.mN h (h' d hd)
variable [ak]
def Bk(β β':Env)(τ : Nat->Nat)(n:Nat):Prop:=∀i,i<n -> β'.bD (τ i) = β.bD i /\ β'.size (τ i) = β.size i /\ β'.base (τ i) = β.base i
theorem XC.iw{β β':Env}{τ : Nat->Nat}{n:Nat}(h:Bk β β' τ n):∀{c:XC},c.ok n->(c.aB τ).den β'=c.den β:=by
 intro c
 induction c with
 | ptr i off=>intro h';simp only[XC.aB,XC.den,(h i h').1,(h i h').2.2]
 | slice i off len cap=>intro h';cases cap<;>simp only[XC.aB,XC.den,(h i h').1,(h i h').2.1,(h i h').2.2]
 | map i=>intro h';simp only[XC.aB,XC.den,(h i h').1]
 | lsl g k off len fl cut=>intro h';simp only[XC.aB,XC.den,(h g h').1]
 | lpt g k off=>intro h';simp only[XC.aB,XC.den,(h g h').1]
 | bind g c ih1 ih2=>intro h';simp only[XC.aB,XC.den,ih1 h'.1,ih2 h'.2]
 | _=>intro _;rfl
theorem gH{β β':Env}{τ : Nat->Nat}{n:Nat}(h:Bk β β' τ n){cs:List XC}(hc:∀c∈cs,c.ok n):(cs.map (·.aB τ)).map (·.den β')=cs.map (·.den β):=by
 rw[List.map_map];exact List.map_congr_left fun c hm=>XC.iw h (hc c hm)
theorem X1.iw{β β':Env}{τ : Nat->Nat}{n:Nat}(h:Bk β β' τ n):∀{x:X1},x.ok n->(x.aB τ).den β'=x.den β
 | .one _,h'=>XC.iw h h'
 | .agg cs,h'=>by simp only[X1.aB,X1.den,gH h h']
theorem aK.aB{β β':Env}{τ : Nat->Nat}{n N:Nat}(h:Bk β β' τ n)(hb:∀i,i<n -> τ i<N){x:XV}{v:Value}(hr:aK β n x v):aK β' N (x.aB τ) v:=by
 cases x with
 | undef=>trivial
 | one c=>exact⟨XC.mN hb hr.1,hr.2.trans (XC.iw h hr.1).symm⟩
 | agg cs=>
   refine⟨fun c hc=>?_,hr.2.trans (by rw[gH h hr.1])⟩;obtain⟨d,hd,rfl⟩:=List.mem_map.1 hc;exact XC.mN hb (hr.1 d hd)
 | tup xs=>
   refine⟨fun c hc=>?_,hr.2.trans ?_⟩
   ·obtain⟨d,hd,rfl⟩:=List.mem_map.1 hc;exact X1.mN hb (hr.1 d hd)
   ·rw[List.map_map];exact congrArg (fun l=>Value.tuple (List.toArray l)) (List.map_congr_left fun c hm=>(X1.iw h (hr.1 c hm)).symm)
theorem aK.xl{β β':Env}{τ : Nat->Nat}{n N:Nat}(h:Bk β β' τ n){x:XV}(hx:x.bH n){v:Value}(hr:aK β' N (x.aB τ) v):aK β n x v:=by
 cases x with
 | undef=>trivial
 | one c=>exact⟨hx,hr.2.trans (XC.iw h hx)⟩
 | agg cs=>exact⟨hx,hr.2.trans (by rw[gH h hx])⟩
 | tup xs=>
   refine⟨hx,hr.2.trans ?_⟩;rw[List.map_map];exact congrArg (fun l=>Value.tuple (List.toArray l)) (List.map_congr_left fun c hm=>X1.iw h (hx c hm))
theorem eY.aB{β β':Env}{τ : Nat->Nat}{n N lo sz:Nat}(h:Bk β β' τ n)(hb:∀i,i<n -> τ i<N){x:aj}{o:Option Obj}(hr:eY β n lo sz x o):eY β' N lo sz (x.aB τ) o:=by
 cases x with
 | dead=>trivial
 | late L=>trivial
 | cells vs e opn ro=>
   obtain⟨cs,fr,h1,h2,h3,h4,h5,h6⟩:=hr;refine⟨cs,fr,h1,h2,by rw[List.length_map];exact h3,h4,fun c hc=>?_,?_⟩
   ·obtain⟨d,hd,rfl⟩:=List.mem_map.1 hc;exact XC.mN hb (h5 d hd)
   ·rw[List.length_map,h6,gH h h5]
 | map es=>
   obtain⟨en,clock,h1,h2,h3⟩:=hr;refine⟨en,clock,h1,fun p hp=>?_,h3.trans ?_⟩
   ·obtain⟨d,hd,rfl⟩:=List.mem_map.1 hp;exact⟨X1.mN hb (h2 d hd).1,X1.mN hb (h2 d hd).2⟩
   ·rw[List.map_map];exact List.map_congr_left fun p hp=>by simp only[Function.comp,X1.iw h (h2 p hp).1,X1.iw h (h2 p hp).2]
theorem eY.xl{β β':Env}{τ : Nat->Nat}{n N lo sz:Nat}(h:Bk β β' τ n){x:aj}(hx:x.bH n){o:Option Obj}(hr:eY β' N lo sz (x.aB τ) o):eY β n lo sz x o:=by
 cases x with
 | dead=>trivial
 | late L=>trivial
 | cells vs e opn ro=>
   obtain⟨cs,fr,h1,h2,h3,h4,h5,h6⟩:=hr;rw[List.length_map]at h3 h6;exact⟨cs,fr,h1,h2,h3,h4,hx,by rw[h6,gH h hx]⟩
 | map es=>
   obtain⟨en,clock,h1,h2,h3⟩:=hr;refine⟨en,clock,h1,hx,h3.trans ?_⟩;rw[List.map_map];exact List.map_congr_left fun p hp=>by simp only[Function.comp,X1.iw h (hx p hp).1,X1.iw h (hx p hp).2]
theorem qw{τ : Nat->Nat}{x:aj}:(x.aB τ).live=x.live:=by cases x<;>rfl
theorem mO{τ : Nat->Nat}{x:aj}:(x.aB τ).own=x.own:=by cases x<;>rfl
structure View(τ : Nat->Nat)(hs1 hs2:ah):Prop where
 lt:∀j,j<hs2.length -> τ j<hs1.length
 inj:∀(i j:Nat) (a b:aj),hs2[i]? = some a->hs2[j]? = some b->a ≠ .dead->b ≠ .dead -> τ i = τ j->i=j
 ok:∀(j:Nat) (o:aj),hs2[j]? = some o->o.bH hs2.length
 obj:∀(j:Nat) (o:aj),hs2[j]? = some o->o = .dead\/hs1[τ j]? = some (o.aB τ)
theorem aZ.get?{m:Mem}{hs:ah}(h:aZ m hs){i:Nat}(hi:i<m.n):hs[i]? = some (m.get i):=by
 have:=h.n;rw[h.get i hi,List.getD_eq_getElem?_getD,List.getElem?_eq_getElem (by omega)];rfl
theorem Rel.tm{β : Env}{m m2:Mem}{hs1 hs2:ah}{τ : Nat->Nat}(h1:aZ m hs1)(h2:aZ m2 hs2)(v:View τ hs1 hs2){β2:Env}(hv:Bk β2 β τ hs2.length){k:Nat}(hi:kT β2 m2 k):kT β m k:=by
 obtain⟨i,hi,hl,rfl⟩:=hi;have n1:=h1.n;have n2:=h2.n;have g:=h2.get? hi;have lt:=v.lt i (by omega)
 rcases v.obj i _ g with e|e
 ·rw[e]at hl;cases hl
 ·refine⟨τ i,by omega,?_,(hv i (by omega)).1⟩;rw[h1.at e,mO];exact hl
theorem Rel.tn{β : Env}{m m2:Mem}{hs1 hs2:ah}{τ : Nat->Nat}(h1:aZ m hs1)(h2:aZ m2 hs2)(v:View τ hs1 hs2){β2:Env}(hv:Bk β2 β τ hs2.length){k:Nat}(hi:C3 β2 m2 k):C3 β m k:=by
 obtain⟨i,hi,L,q,cs,e1,e2,e3,e4⟩:=hi;have n1:=h1.n;have n2:=h2.n;have g:=h2.get? hi;have lt:=v.lt i (by omega)
 rcases v.obj i _ g with e|e
 ·rw[e]at e1;cases e1
 ·refine⟨τ i,by omega,L,q,cs,?_,e2,e3,by rw[(hv i (by omega)).1];exact e4⟩;rw[h1.at e,e1];rfl
theorem Rel.view{β : Env}{m m2:Mem}{w:World}{hs1 hs2:ah}{τ : Nat->Nat}(h:Rel β m w)(h1:aZ m hs1)(h2:aZ m2 hs2)(v:View τ hs1 hs2){β2:Env}(hv:Bk β2 β τ hs2.length):Rel β2 m2 w:=by
 have n1:=h1.n;have n2:=h2.n
 have key:∀i,i<m2.n->m2.get i = .dead\/(m2.get i).bH hs2.length /\ τ i<m.n/\m.get (τ i)=(m2.get i).aB τ:=fun i hi=>by
  have g:=h2.get? hi;have lt:=v.lt i (by omega)
  rcases v.obj i _ g with e|e
  ·exact .inl e
  ·refine .inr ⟨v.ok i _ g,by omega,?_⟩;exact h1.at e
 refine⟨h2.bnd,h2.fresh,fun i hi=>?_,fun i j hi hj li lj hb=>?_,fun i hi L hL=>?_⟩
 ·rcases key i hi with e|⟨e1,e2,e3⟩
  ·rw[e];trivial
  ·have:=h.obj (τ i) e2;rw[e3,(hv i (by omega)).1,(hv i (by omega)).2.1,(hv i (by omega)).2.2]at this;rw[n2];exact this.xl hv e1
 ·rcases key i hi with e|⟨_,e2,e3⟩
  ·rw[e]at li;cases li
  rcases key j hj with e|⟨_,e2',e3'⟩
  ·rw[e]at lj;cases lj
  refine v.inj i j _ _ (h2.get? hi) (h2.get? hj) (fun e=>by rw[e]at li;cases li) (fun e=>by rw[e]at lj;cases lj) (h.inj (τ i) (τ j) e2 e2' (by rw[e3,mO];exact li) (by rw[e3',qw];exact lj) ?_);rw[(hv i (by omega)).1,(hv j (by omega)).1];exact hb
 ·rcases key i hi with e|⟨_,e2,e3⟩
  ·rw[e]at hL;cases hL
  rw[hL]at e3;intro k cs hk;obtain⟨k1,k2⟩:=h.late (τ i) e2 L e3 k cs hk;have hb:=(hv i (by omega)).1;refine⟨k1,fun hne=>?_⟩;obtain⟨k3,all,e,fr,k4,k5⟩:=k2 hne;rw[hb]at k3 k4 k5;refine⟨fun hi=>k3 (Rel.tm h1 h2 v hv hi),all,e,fr,k4,k5.trans ?_⟩;exact List.map_congr_left fun c hc=>XC.n6 (k1 c hc) hb
def bq(P:Program)(f:FuncId)(args:List XV)(hs:ah)(v:XV)(hs':ah):Prop:=
 ∀ (m:Mem),aZ m hs->∀(β : Env) (w:World) (vs:List Value),da (aK β m.n) args vs->Rel β m w ->
   Calls P f vs.toArray w fun e w'=>∃u β' m',e = .returned u/\aZ m' hs'/\aK β' m'.n v u/\Step β m w β' m' w'
def aE(P:Program)(fn:Func)(n:Nat)(v:XV)(hs':ah):ch:=fun e al hs1=>(e = .normal\/e = .ret)/\∃(v1:XV) (τ : Nat->Nat),sI P fn al hs1 v1/\v1=v.aB τ/\v.bH hs'.length/\View τ hs1 hs'/\∀j,j<n -> τ j=j
theorem WX.view{P:Program}{nt nI:Nat}{c:sd}{al al2:aN}{hs hs2:ah}{K:ch}(τ : Nat->Nat)(hv:View τ hs hs2)(hid:∀j,j<nI -> τ j=j)(hle:nI<=hs2.length)(hb:Nat.blt hs2.length Mem.bound=true)(hok:∀t,(rg al2 t).bH hs2.length)(hr:∀t,rg al2 t = .undef\/rg al t=(rg al2 t).aB τ)
 (h:WX P nt nI c al2 hs2 K):WX P nt nI c al hs K:=by
 intro βI mI wI hn m hm β w a Q hrel hst hq;have hm2:=eU hs2 (by simpa [Nat.blt_eq]using hb);have n1:=hm.n;have n2:=hm2.n
 let β2:Env:=⟨fun i => β.bD (τ i),fun i => β.base (τ i),fun i => β.size (τ i)⟩
 have hvia:Bk β2 β τ hs2.length:=fun i _=>⟨rfl,rfl,rfl⟩
 have hst2:Step βI mI wI β2 (iT hs2) w:=by
  refine⟨by omega,fun i hi=>?_,hst.rel.view hm hm2 hv hvia,hst.os,hst.tape,hst.output,hst.size,hst.frame,fun k hk hi=>hst.pY k hk (Rel.tm hm hm2 hv hvia hi),fun k hk hl=>hst.vU k hk (Rel.tn hm hm2 hv hvia hl)⟩;have:=hst.ext i hi;show β.bD (τ i) = βI.bD i /\ β.size (τ i) = βI.size i /\ β.base (τ i) = βI.base i;rw[hid i (by omega)];exact this
 refine h βI mI wI hn (iT hs2) hm2 β2 w a Q ⟨hrel.size,hrel.small,fun t ht=>?_,fun t ht=>?_⟩ hst2 hq
 ·rcases hr t with e|e
  ·rw[e];trivial
  ·have:=hrel.rel t ht;rw[e]at this;rw[n2];exact this.xl hvia (hok t)
 ·rcases hr t with e|e
  ·exact e
  ·have:=hrel.out t ht;rw[e]at this;cases hx:rg al2 t<;>rw[hx]at this<;>first|rfl|cases this
theorem EP{P:Program}{f:FuncId}{fn:Func}{c:Code}{args:List XV}{hs hs':ah}{v:XV}(hf:P.funcs[f]? = some fn)(hb:fn.body=some c)(hn:fn.ntmps<1000000)(hl:args.length<=fn.ntmps)(hle:hs.length<=hs'.length)(hbd:hs'.length<Mem.bound)
 (h:WX P fn.ntmps hs.length (.code c) (mu args 0) hs (aE P fn hs.length v hs')):bq P f args hs v hs':=by
 intro m hm β w vs hall hw;refine calls_of_wp hf hb ?_;have hr0:=qn hall hn hl
 have e:(f3 args 0 .leaf).get .undef=rg (mu args 0):=by
  funext j
  rw[mG args 0 .leaf (by omega) j,u2,T.eJ]
 unfold lQ at hr0;rw[e]at hr0;have nm:=hm.n;refine h β m w nm m hm β w _ _ hr0 (Step.refl hw) fun x al' hs1 m1 hk hm1 a' β' w' h1 h2 h3=>?_
 obtain⟨hx,v1,τ,hres,rfl,hok,hview,hid⟩:=hk;obtain⟨u,hu1,hu2⟩:=ot (hres m1 hm1) h3.rel h1;have hm2:=eU hs' hbd;have n2:=hm2.n
 let β2:Env:=⟨fun i => β'.bD (τ i),fun i => β'.base (τ i),fun i => β'.size (τ i)⟩
 have hv:Bk β2 β' τ hs'.length:=fun i _=>⟨rfl,rfl,rfl⟩
 have hst:Step β m w β2 (iT hs') w':=by
  refine⟨by omega,fun i hi=>?_,h3.rel.view hm1 hm2 hview hv,h3.os,h3.tape,h3.output,h3.size,h3.frame,fun k hk hi=>h3.pY k hk (Rel.tm hm1 hm2 hview hv hi),fun k hk hl=>h3.vU k hk (Rel.tn hm1 hm2 hview hv hl)⟩;have:=h3.ext i hi;show β'.bD (τ i) = β.bD i /\ β'.size (τ i) = β.size i /\ β'.base (τ i) = β.base i;rw[hid i (by omega)];exact this
 have hu3:aK β2 (iT hs').n v u:=by rw[n2];exact hu2.xl hv hok
 rcases hx with rfl|rfl<;>exact⟨h2,u,hu1,u,β2,iT hs',rfl,hm2,hu3,hst⟩
def beyond(ρ : Nat->Nat)(n N:Nat)(j:Nat):Nat:=if j<n then ρ j else N+(j-n)
structure MR(ρ : Nat->Nat)(n:Nat)(HS:ah)(hs':ah)(HS':ah):Prop where
 len:HS'.length=HS.length+(hs'.length-n)
 obj:∀(j:Nat) (o:aj),hs'[j]? = some o->HS'[beyond ρ n HS.length j]? = some (o.aB (beyond ρ n HS.length))
 yh:∀i,i<HS.length->(∀j,j<n -> ρ j≠i)->HS'[i]? = HS[i]?
theorem tF{β0 β : Env}{ρ : Nat->Nat}{n N:Nat}(hvia:Bk β0 β ρ n):∀{args:List XV} {vs:List Value},(∀x∈args,x.bH n)->da (aK β N) (args.map (·.aB ρ)) vs->da (aK β0 n) args vs
 | [],_,_,h=>by cases h;exact .nil
 | x::l,_,ha,h=>by
   cases h with
   | cons h1 h2=>exact .cons (h1.xl hvia (ha x (List.mem_cons_self ..))) (tF hvia (fun y hy=>ha y (List.mem_cons_of_mem _ hy)) h2)
theorem BF{P:Program}{f:FuncId}{args:List XV}{hs hs' HS HS':ah}{v:XV}(hc:bq P f args hs v hs')(hle:hs.length<=hs'.length)(hbd:hs.length<Mem.bound){ρ : Nat->Nat}(hv:View ρ HS hs)(ha:∀x∈args,x.bH hs.length)(haf:MR ρ hs.length HS hs' HS')(hro:∀(j:Nat) (o:aj),hs'[j]? = some o->o.live=true->o.own=false->∃o0,hs[j]? = some o0/\o0.live=true)
 {M M':Mem}(hM:aZ M HS) (hM':aZ M' HS'):dW P f (args.map (·.aB ρ)) M (v.aB (beyond ρ hs.length HS.length)) M':=by
 intro β w vs hall hw;have hm0:=eU hs hbd;have n0:=hm0.n;have N0:=hM.n;have N1:=hM'.n;have hlen:=haf.len
 let β0:Env:=⟨fun i => β.bD (ρ i),fun i => β.base (ρ i),fun i => β.size (ρ i)⟩
 have hvia:Bk β0 β ρ hs.length:=fun i _=>⟨rfl,rfl,rfl⟩
 have hrel0:Rel β0 (iT hs) w:=hw.view hM hm0 hv hvia
 have hargs:da (aK β0 (iT hs).n) args vs:=by
  rw[n0];exact tF hvia ha hall
 refine(hc _ hm0 β0 w vs hargs hrel0).mono fun e w' ⟨u,β1,m1,he,hm1,hu,hst⟩=>?_
 have n1:=hm1.n;have hsle:=hst.le
 let ρ':=beyond ρ hs.length HS.length
 let β':Env:=⟨fun i=>if i<HS.length then β.bD i else β1.bD (i-HS.length+hs.length),fun i=>if i<HS.length then β.base i else β1.base (i-HS.length+hs.length),fun i=>if i<HS.length then β.size i else β1.size (i-HS.length+hs.length)⟩
 have hvia':Bk β1 β' ρ' hs'.length:=by
  intro j hj;show(if ρ' j<HS.length then β.bD (ρ' j)else β1.bD (ρ' j-HS.length+hs.length)) = β1.bD j/\(if ρ' j<HS.length then β.size (ρ' j)else β1.size (ρ' j-HS.length+hs.length)) = β1.size j/\(if ρ' j<HS.length then β.base (ρ' j)else β1.base (ρ' j-HS.length+hs.length)) = β1.base j
  by_cases h:j<hs.length
  ·have e1 : ρ' j = ρ j:=if_pos h;have e2:=hv.lt j h;rw[e1,if_pos e2,if_pos e2,if_pos e2];have:=hst.ext j (by omega);exact⟨this.1.symm,this.2.1.symm,this.2.2.symm⟩
  ·have e1 : ρ' j=HS.length+(j-hs.length):=if_neg h;rw[e1,if_neg (by omega),if_neg (by omega),if_neg (by omega),show HS.length+(j-hs.length)-HS.length+hs.length=j by omega];exact⟨rfl,rfl,rfl⟩
 have hlt':∀j,j<hs'.length -> ρ' j<HS'.length:=by
  intro j hj
  by_cases h:j<hs.length
  ·have e1 : ρ' j = ρ j:=if_pos h;have e2:=hv.lt j h;omega
  ·have e1 : ρ' j=HS.length+(j-hs.length):=if_neg h;omega
 refine⟨u,β',he,by rw[N1];rw[n1]at hu;exact hu.aB hvia' hlt',?_⟩
 have kinds:∀i,i<M'.n->(∃j,j<m1.n /\ ρ' j=i/\M'.get i=(m1.get j).aB ρ')\/(i<HS.length/\(∀j,j<hs.length -> ρ j≠i)/\M'.get i=M.get i/\i<M.n):=by
  intro i hi
  by_cases h:i<HS.length
  ·by_cases h2:∃j,j<hs.length /\ ρ j=i
   ·obtain⟨j,hj,rfl⟩:=h2;refine .inl ⟨j,by omega,if_pos hj,?_⟩;have g:=hm1.get? (i:=j) (by omega);have:=haf.obj j _ g;have e1:beyond ρ hs.length HS.length j = ρ j:=if_pos hj;rw[e1]at this;exact hM'.at this
   ·have h3:∀j,j<hs.length -> ρ j≠i:=fun j hj e=>h2 ⟨j,hj,e⟩
    refine .inr ⟨h,h3,?_,by omega⟩;have e1:=haf.yh i h h3;rw[hM'.get? hi,hM.get? (i:=i) (by omega)]at e1;exact Option.some.inj e1
  ·refine .inl ⟨i-HS.length+hs.length,by omega,?_,?_⟩
   ·show beyond ρ hs.length HS.length _=i;unfold beyond;rw[if_neg (by omega)];omega
   ·have g:=hm1.get? (i:=i-HS.length+hs.length) (by omega);have:=haf.obj _ _ g;have e1:beyond ρ hs.length HS.length (i-HS.length+hs.length)=i:=by unfold beyond;rw[if_neg (by omega)];omega
    rw[e1]at this;exact hM'.at this
 have imgs:∀j,j<m1.n->(m1.get j).own=true -> β1.bD j<w.heap.size->∃j2,j2<hs.length/\((iT hs).get j2).own=true /\ β.bD (ρ j2) = β1.bD j:=by
  intro j hj hl hlt;obtain⟨j2,h1,h2,h3⟩:=hst.pY _ hlt ⟨j,hj,hl,rfl⟩;exact⟨j2,by omega,h2,h3⟩
 have liveρ : ∀j2,j2<hs.length->((iT hs).get j2).own=true -> ρ j2<M.n/\(M.get (ρ j2)).own=true:=by
  intro j2 h1 h2;have g:=hm0.get? (i:=j2) (by omega);have lt:=hv.lt j2 h1;refine⟨by omega,?_⟩
  rcases hv.obj j2 _ g with e|e
  ·rw[e]at h2;cases h2
  ·rw[hM.at e,mO];exact h2
 have bold:∀i,i<HS.length -> β'.bD i = β.bD i /\ β'.size i = β.size i /\ β'.base i = β.base i:=fun i h=>⟨if_pos h,if_pos h,if_pos h⟩
 have hframe:∀k,k<w.heap.size->¬kT β M k->w'.heap[k]? = w.heap[k]?:=fun k hk hn=>by
  refine hst.frame k hk fun⟨j2,q1,q2,q3⟩=>hn ?_
  have q4:=liveρ j2 (by omega) q2;exact⟨ρ j2,q4.1,q4.2,q3⟩
 have himg:∀k,k<w.heap.size->kT β' M' k->kT β M k:=fun k hk hi=>by
  obtain⟨i,hi,hl,rfl⟩:=hi
  rcases kinds i hi with⟨j,hj,rfl,hg⟩|⟨h1,h2,hg,h3⟩
  ·rw[hg,mO]at hl;rw[(hvia' j (by omega)).1]at hk ⊢;obtain⟨j2,q1,q2,q3⟩:=imgs j hj hl hk;have q4:=liveρ j2 q1 q2;exact⟨ρ j2,q4.1,q4.2,q3⟩
  ·rw[hg]at hl;rw[(bold i h1).1];exact⟨i,h3,hl,rfl⟩
 have late_ren:∀(x:aj) L,x.aB ρ' = .late L->x = .late L:=fun x L h=>by cases x<;>first|exact h|cases h
 have vis:∀k,k<w.heap.size->C3 β1 m1 k->(∃j2,j2<hs.length/\(M.get (ρ j2)).own=true /\ ρ j2<M.n /\ β.bD (ρ j2)=k)\/C3 β M k:=fun k hk hl=>by
  rcases hst.vU k hk hl with⟨j2,q1,q2,q3⟩|hl
  ·have q4:=liveρ j2 (by omega) q2;exact .inl ⟨j2,by omega,q4.2,q4.1,q3⟩
  ·exact .inr (Rel.tn hM hm0 hv hvia hl)
 refine⟨by omega,fun i hi=>bold i (by omega),⟨hM'.bnd,hM'.fresh,fun i hi=>?_,fun i i2 hi hi2 hl hl2 hbb=>?_,fun i hi L hL=>?_⟩,hst.os,hst.tape,hst.output,hst.size,hframe,himg,fun k hk ⟨i,hi,L,q,cs,e1,e2,e3,e4⟩=>?_⟩
 ·rcases kinds i hi with⟨j,hj,rfl,hg⟩|⟨h1,h2,hg,h3⟩
  ·rw[hg,N1,(hvia' j (by omega)).1,(hvia' j (by omega)).2.1,(hvia' j (by omega)).2.2];have:=hst.rel.obj j hj;rw[n1]at this;exact this.aB hvia' hlt'
  ·rw [hg,(bold i h1).1,(bold i h1).2.1,(bold i h1).2.2]
   cases hgm:M.get i with
   | dead=>trivial
   | late L=>trivial
   | cells a b c d=>
     have hli:(M.get i).live=true:=by rw[hgm];rfl
     have hlt:=hw.lt h3 hli
     have hfr:w'.heap[β.bD i]? = w.heap[β.bD i]?:=by
      refine hst.frame _ hlt fun⟨j2,q1,q2,q3⟩=>?_
      have q4:=liveρ j2 (by omega) q2;exact h2 j2 (by omega) (hw.inj (ρ j2) i q4.1 h3 q4.2 hli q3)
     rw[hfr,<-hgm];exact(hw.obj i h3).ext (fun i hi=>bold i (by omega)) (by omega)
   | map es=>
     have hli:(M.get i).live=true:=by rw[hgm];rfl
     have hlt:=hw.lt h3 hli
     have hfr:w'.heap[β.bD i]? = w.heap[β.bD i]?:=by
      refine hst.frame _ hlt fun⟨j2,q1,q2,q3⟩=>?_
      have q4:=liveρ j2 (by omega) q2;exact h2 j2 (by omega) (hw.inj (ρ j2) i q4.1 h3 q4.2 hli q3)
     rw[hfr,<-hgm];exact(hw.obj i h3).ext (fun i hi=>bold i (by omega)) (by omega)
 ·rcases kinds i hi with⟨j,hj,rfl,hg⟩|⟨h1,h2,hg,h3⟩
  ·rcases kinds i2 hi2 with⟨j',hj',rfl,hg'⟩|⟨h1',h2',hg',h3'⟩
   ·rw[(hvia' j (by omega)).1,(hvia' j' (by omega)).1]at hbb;rw[hg,mO]at hl;rw[hg',qw]at hl2;rw[hst.rel.inj j j' hj hj' hl hl2 hbb]
   ·rw[(hvia' j (by omega)).1,(bold i2 h1').1]at hbb;rw[hg,mO]at hl;rw[hg']at hl2;have hlt:=hw.lt h3' hl2;obtain⟨j2,q1,q2,q3⟩:=imgs j hj hl (by rw[hbb];exact hlt);have q4:=liveρ j2 q1 q2;exact absurd (hw.inj (ρ j2) i2 q4.1 h3' q4.2 hl2 (q3.trans hbb)) (h2' j2 q1)
  ·rcases kinds i2 hi2 with⟨j',hj',rfl,hg'⟩|⟨h1',h2',hg',h3'⟩
   ·rw [(hvia' j' (by omega)).1,(bold i h1).1]at hbb;rw[hg',qw]at hl2;rw[hg]at hl;have hlt:=hw.lt h3 (aj.bL hl)
    cases hown:(m1.get j').own with
    | true=>
      obtain⟨j2,q1,q2,q3⟩:=imgs j' hj' hown (by rw[<-hbb];exact hlt);have q4:=liveρ j2 q1 q2;exact absurd (hw.inj (ρ j2) i q4.1 h3 q4.2 (aj.bL hl) (q3.trans hbb.symm)) (h2 j2 q1)
    | false=>
      obtain⟨o0,q1,q2⟩:=hro j' _ (hm1.get? hj') hl2 hown;have q3:j'<hs.length:=(List.getElem?_eq_some_iff.1 q1).1;have q4:=hv.lt j' q3
      have q5:(M.get (ρ j')).live=true:=by
       rcases hv.obj j' o0 q1 with e|e
       ·rw[e]at q2;cases q2
       ·rw[hM.at e,qw];exact q2
      have q6 : β1.bD j' = β.bD (ρ j'):=(hst.ext j' (by omega)).1;exact absurd (hw.inj i (ρ j') h3 (by omega) hl q5 (hbb.trans q6)).symm (h2 j' q3)
   ·rw[(bold i h1).1,(bold i2 h1').1]at hbb;rw[hg]at hl;rw[hg']at hl2;exact hw.inj i i2 h3 h3' hl hl2 hbb
 ·rcases kinds i hi with⟨j,hj,rfl,hg⟩|⟨h1,h2,hg,h3⟩
  ·have hg1:=late_ren _ L (by rw[<-hg];exact hL);have hb:=(hvia' j (by omega)).1;intro k cs hk;obtain⟨k1,k2⟩:=hst.rel.late j hj L hg1 k cs hk;refine⟨k1,fun hne=>?_⟩;obtain⟨k3,all,e,fr,k4,k5⟩:=k2 hne;rw[hb];refine⟨fun⟨i,hi,hown,hbi⟩=>?_,all,e,fr,k4,k5.trans (List.map_congr_left fun c hc=>(XC.n6 (k1 c hc) hb).symm)⟩
   rcases kinds i hi with⟨j',hj',rfl,hg'⟩|⟨h1,h2,hg',h3⟩
   ·rw[hg',mO]at hown;rw[(hvia' j' (by omega)).1]at hbi;exact k3 ⟨j',hj',hown,hbi⟩
   ·rw[hg']at hown;rw[(bold i h1).1]at hbi;have hlt:=hw.lt h3 (aj.bL hown);rw[hbi]at hlt
    rcases vis _ hlt ⟨j,hj,L,k,cs,hg1,hk,hne,rfl⟩with⟨j2,q1,q2,q3,q4⟩|⟨i2,q1,L2,q,cs2,q2,q3,q5,q6⟩
    ·exact h2 j2 q1 (hw.inj (ρ j2) i q3 h3 q2 (aj.bL hown) (q4.trans hbi.symm))
    ·exact((hw.late i2 q1 L2 q2 q cs2 q3).2 q5).1 ⟨i,h3,hown,hbi.trans q6.symm⟩
  ·exact(hw.late i h3 L (by rw[<-hg];exact hL)).ig h3 (by omega) (fun i hi=>bold i (by omega)) hframe himg
 ·rcases kinds i hi with⟨j,hj,rfl,hg⟩|⟨h1,h2,hg,h3⟩
  ·have hg1:=late_ren _ L (by rw[<-hg];exact e1);rw[(hvia' j (by omega)).1]at e4
   rcases vis k hk ⟨j,hj,L,q,cs,hg1,e2,e3,e4⟩with⟨j2,q1,q2,q3,q4⟩|h
   ·exact .inl ⟨ρ j2,q3,q2,q4⟩
   ·exact .inr h
  ·exact .inr ⟨i,h3,L,q,cs,by rw[<-hg];exact e1,e2,e3,by rw[<-e4,(bold i h1).1]⟩
end Go.Xm
namespace Go.Xm
variable [ak]
theorem XC.dQ{c:XC}(h:c.shut=true)(τ : Nat->Nat):c.aB τ = c:=by
 induction c with
 | bind g c ih1 ih2=>
   simp only[XC.shut,Bool.and_eq_true]at h;simp only[XC.aB,ih1 h.1,ih2 h.2]
 | ptr i off=>cases h
 | slice i off len cap=>cases h
 | map i=>cases h
 | lsl g k off len fl cut=>cases h
 | lpt g k off=>cases h
 | _=>rfl
theorem fW{cs:List XC}(h:cs.all XC.shut=true)(τ : Nat->Nat):cs.map (·.aB τ)=cs:=by
 rw[List.all_eq_true]at h;exact(List.map_congr_left fun c hc=>XC.dQ (h c hc) τ).trans (by simp)
theorem X1.dQ{x:X1}(h:x.shut=true)(τ : Nat->Nat):x.aB τ = x:=by
 cases x with
 | one c=>simp only[X1.aB,XC.dQ h]
 | agg cs=>simp only[X1.aB,fW h]
theorem XV.dQ{x:XV}(h:x.shut=true)(τ : Nat->Nat):x.aB τ = x:=by
 cases x with
 | undef=>rfl
 | one c=>simp only[XV.aB,XC.dQ h]
 | agg cs=>simp only[XV.aB,fW h]
 | tup xs=>
   have h':=List.all_eq_true.1 h;simp only[XV.aB];rw[(List.map_congr_left fun c hc=>X1.dQ (h' c hc) τ : xs.map (·.aB τ)=xs.map id),List.map_id]
theorem lD{l:List XV}(h:∀x∈l,x.shut=true)(τ : Nat->Nat):l.map (·.aB τ)=l:=
 (List.map_congr_left fun c hc=>XV.dQ (h c hc) τ).trans (by simp)
theorem XV.ky{x:XV}(h:x.shut=true)(n:Nat):x.bH n:=by
 cases x with
 | undef=>trivial
 | one c=>exact XC.aX h n
 | agg cs=>exact fun c hc=>XC.aX (List.all_eq_true.1 h c hc) n
 | tup xs=>exact fun c hc=>X1.aX (List.all_eq_true.1 h c hc) n
structure az where
 f:FuncId
 args:List XV
 hs:ah
 v:XV
 hs':ah
 ws:List Nat
def mM(n m:Nat):List Nat:=List.range' n (m-n)
structure az.Sound(P:Program)(e:az):Prop where
 le:e.hs.length<=e.hs'.length
 bnd:e.hs'.length<Mem.bound
 same:∀i,i<e.hs.length->i∉e.ws->e.hs'[i]? = e.hs[i]?
 call:∀M M',aZ M e.hs->aZ M' e.hs'->dW P e.f e.args M e.v M'
def mS(m:Mem)(hs':ah):List Nat->Mem
 | []=>m
 | i::l=>mS (m.put i (hs'.getD i .dead)) hs' l
def jb(m:Mem):List aj->Mem
 | []=>m
 | o::l=>jb ((m.push o).getD m) l
def az.mem(e:az)(m:Mem):Mem:=jb (mS m e.hs' (e.ws.filter fun i=>decide (i<e.hs.length))) (e.hs'.drop e.hs.length)
theorem ss(hs':ah):∀(l:List Nat) (m:Mem),rj m (mS m hs' l)
 | [],m => .same m
 | i::l,m => .trans (.put m i _) (ss hs' l _)
theorem nY:∀(l:List aj) (m:Mem),rj m (jb m l)
 | [],m => .same m
 | o::l,m=>by
   unfold jb
   cases h:m.push o with
   | none=>exact nY l m
   | some m'=>exact .trans (.push h) (nY l m')
theorem pj(hs':ah):∀(l:List Nat) (m:Mem) (hs:ah),aZ m hs->(∀i∈l,i<hs.length) ->
 ∃hs2,aZ (mS m hs' l) hs2/\hs2.length=hs.length/\(∀i,i∈l->hs2[i]? = some (hs'.getD i .dead))/\(∀i,i∉l->hs2[i]? = hs[i]?)/\∀j,j∉l->((mS m hs' l).fX j).ver=(m.fX j).ver
 | [],m,hs,h,_=>⟨hs,h,rfl,(fun i hi=>by cases hi),fun _ _=>rfl,fun _ _=>rfl⟩
 | i :: l,m,hs,h,hl=>by
   have hi:=hl i (List.mem_cons_self ..);have hg:hs[i]? = some hs[i]:=List.getElem?_eq_getElem hi;obtain⟨hs2,h1,h2,h3,h4,h5⟩:=pj hs' l (m.put i (hs'.getD i .dead)) (hs.set i (hs'.getD i .dead)) (h.put hg _) (fun j hj=>by rw[List.length_set];exact hl j (List.mem_cons_of_mem _ hj));refine⟨hs2,h1,by rw[h2,List.length_set],fun j hj=>?_,fun j hj=>?_,fun j hj=>?_⟩
   ·by_cases hjl:j∈l
    ·exact h3 j hjl
    ·rw[h4 j hjl]
     rcases List.mem_cons.1 hj with rfl|hj
     ·simp[hi]
     ·exact absurd hj hjl
   ·simp only[List.mem_cons,not_or]at hj;rw[h4 j hj.2,List.getElem?_set_ne (Ne.symm hj.1)]
   ·simp only[List.mem_cons,not_or]at hj;show((mS (m.put i (hs'.getD i .dead)) hs' l).fX j).ver=_;rw[h5 j hj.2,Mem.gT m _ hj.1]
theorem pg:∀(l:List aj) (m:Mem) (hs:ah),aZ m hs->hs.length+l.length<Mem.bound->aZ (jb m l) (hs++l)/\∀j,j<hs.length->((jb m l).fX j).ver=(m.fX j).ver
 | [],m,hs,h,_=>⟨by simpa [jb]using h,fun _ _=>rfl⟩
 | o::l,m,hs,h,hb=>by
   simp only[List.length_cons]at hb;obtain⟨m',h1,h2,h3⟩:=h.push o (by omega);have ih:=pg l m' (hs++[o]) h2 (by simp;omega);unfold jb;rw[h1];simp only[Option.getD_some];refine⟨by simpa using ih.1,fun j hj=>?_⟩;rw[ih.2 j (by simp;omega),h3 j (by simp;omega)]
theorem sq:∀(l:List aj) (m:Mem) (hs:ah),aZ m hs->hs.length+l.length<Mem.bound->∀j,hs.length+l.length<=j->((jb m l).fX j).ver=(m.fX j).ver
 | [],m,hs,_,_,j,_=>rfl
 | o::l,m,hs,h,hb,j,hj=>by
   simp only[List.length_cons]at hb hj;obtain⟨m',h1,h2,h3⟩:=h.push o (by omega);unfold jb;rw[h1];simp only[Option.getD_some];rw[sq l m' (hs++[o]) h2 (by simp;omega) j (by simp;omega),h3 j (by simp;omega)]
theorem az.Sound.holds{P:Program}{e:az}(h:e.Sound P){m:Mem}(hm:aZ m e.hs):aZ (e.mem m) e.hs'/\rj m (e.mem m)/\∀j,j∉e.ws++mM e.hs.length e.hs'.length->((e.mem m).fX j).ver=(m.fX j).ver:=by
 obtain⟨hs2,h1,h2,h3,h4,h5⟩:=pj e.hs' (e.ws.filter fun i=>decide (i<e.hs.length)) m e.hs hm (fun i hi=>by simpa using (List.mem_filter.1 hi).2);have hlen:(e.hs'.drop e.hs.length).length=e.hs'.length-e.hs.length:=List.length_drop ..;have hle:=h.le;have hb:=h.bnd;have h6:=pg (e.hs'.drop e.hs.length) _ hs2 h1 (by rw[h2,hlen];omega)
 have e1:hs2=e.hs'.take e.hs.length:=by
  apply List.ext_getElem?;intro i
  by_cases hi:i<e.hs.length
  ·rw[List.getElem?_take,if_pos hi]
   by_cases hw:i∈e.ws.filter fun i=>decide (i<e.hs.length)
   ·rw[h3 i hw,List.getD_eq_getElem?_getD,List.getElem?_eq_getElem (by omega)];rfl
   ·rw[h4 i hw,h.same i hi (fun hh=>hw (List.mem_filter.2 ⟨hh,by simpa using hi⟩))]
  ·rw[List.getElem?_eq_none (by omega),List.getElem?_eq_none (by simp;omega)]
 refine⟨?_,.trans (ss _ _ _) (nY _ _),fun j hj=>?_⟩
 ·have:=h6.1;rw[e1,List.take_append_drop]at this;exact this
 ·simp only[List.mem_append,not_or]at hj;have hv:∀j,j∉e.ws->((mS m e.hs' (e.ws.filter fun i=>decide (i<e.hs.length))).fX j).ver=(m.fX j).ver:=fun j hj=>h5 j fun hh=>hj (List.mem_filter.1 hh).1
  unfold az.mem
  by_cases hjn:j<e.hs.length
  ·rw[h6.2 j (by omega),hv j hj.1]
  ·rw[sq _ _ hs2 h1 (by rw[h2,hlen];omega) j (by
    rw[h2,hlen];have:¬j<e.hs'.length:=fun hlt=>hj.2 (by unfold mM;rw[List.mem_range'_1];omega)
    omega),hv j hj.1]
open Classical in
noncomputable def uK(f:FuncId)(args:List XV)(m:Mem):List az->Option az
 | [] => .none
 | e::L=>if e.f=f/\e.args=args/\aZ m e.hs then some e else uK f args m L
theorem mQ{f:FuncId}{args:List XV}{m:Mem}{e:az}:∀{L:List az},uK f args m L=some e->e∈L/\e.f=f/\e.args=args/\aZ m e.hs
 | [],h=>by cases h
 | e'::L,h=>by
   unfold uK at h;split at h
   ·rename_i hc;cases h;exact⟨List.mem_cons_self ..,hc⟩
   ·obtain⟨h1,h2⟩:=mQ h;exact⟨List.mem_cons_of_mem _ h1,h2⟩
theorem w5{f:FuncId}{args:List XV}{m:Mem}{e:az}(hc:e.f=f/\e.args=args/\aZ m e.hs):∀{L:List az},e∈L->∃e',uK f args m L=some e'
 | e'::L,h=>by
   unfold uK;split
   ·exact⟨_,rfl⟩
   ·rename_i hn
    rcases List.mem_cons.1 h with rfl|h
    ·exact absurd hc hn
    ·exact w5 hc h
theorem aZ.uniq{m:Mem}{hs hs2:ah}(h:aZ m hs)(h2:aZ m hs2):hs=hs2:=by
 have n1:=h.n;have n2:=h2.n;apply List.ext_getElem?;intro i
 by_cases hi:i<m.n
 ·rw[h.get? hi,h2.get? hi]
 ·rw[List.getElem?_eq_none (by omega),List.getElem?_eq_none (by omega)]
def Compat(e e':az):Prop:=e.f=e'.f->e.args=e'.args->e.hs=e'.hs->e.v=e'.v/\e.hs'=e'.hs'/\e.ws=e'.ws
def ag(L:List az):Prop:=∀e∈L,∀e'∈L,Compat e e'
theorem ag.nil:ag []:=fun _ h=>by cases h
theorem Compat.refl(e:az):Compat e e:=fun _ _ _=>⟨rfl,rfl,rfl⟩
theorem Compat.symm{e e':az}(h:Compat e e'):Compat e' e:=fun h1 h2 h3=>by
 obtain⟨k1,k2,k3⟩:=h h1.symm h2.symm h3.symm;exact⟨k1.symm,k2.symm,k3.symm⟩
theorem ag.cons{e:az}{L:List az}(h:∀e'∈L,Compat e e')(hL:ag L):ag (e::L):=by
 intro a ha b hb
 rcases List.mem_cons.1 ha with e1|h1
 ·rcases List.mem_cons.1 hb with e2|h2
  ·rw[e1,e2];exact Compat.refl _
  ·rw[e1];exact h b h2
 ·rcases List.mem_cons.1 hb with e2|h2
  ·rw[e2];exact(h a h1).symm
  ·exact hL a h1 b h2
theorem ag.one(e:az):ag [e]:=ag.cons (fun _ h=>by cases h) ag.nil
theorem Compat.ne{e e':az}(h:Nat.beq e.f e'.f=false):Compat e e':=fun h1=>by
 rw[h1]at h;have:Nat.beq e'.f e'.f=true:=Nat.beq_refl _;rw[this]at h;cases h
theorem ag.two{e e':az}(h:Compat e e'):ag [e,e']:=ag.cons (fun x hx=>by simp only[List.mem_singleton]at hx;subst hx;exact h) (ag.one e')
def sU(e:az):List az->Prop
 | []=>True
 | e'::L=>Compat e e'/\sU e L
def MS:List az->Prop
 | []=>True
 | e::L=>sU e L/\MS L
theorem sU.all{e:az}:∀{L:List az},sU e L->∀e'∈L,Compat e e'
 | [],_,e',h=>by cases h
 | a::L,h,e',h'=>by
   rcases List.mem_cons.1 h' with rfl|h'
   ·exact h.1
   ·exact h.2.all e' h'
theorem ag.mh:∀{L:List az},MS L->ag L
 | [],_=>ag.nil
 | _::_,h=>ag.cons h.1.all (ag.mh h.2)
noncomputable def Ga(L:List az):dc:=⟨fun f args m=>(uK f args m L).map fun e=>(e.v,e.mem m),fun _ _ => .none⟩
theorem pO{P:Program}{L:List az}(h:∀e∈L,e.Sound P):aR P (Ga L):=by
 refine⟨fun f args m v m' hc=>?_,fun f args m v m' hc=>?_,fun _ _ _ he=>by cases he⟩
 ·obtain⟨e,h1,h2⟩:=Option.map_eq_some_iff.1 hc;cases h2;obtain⟨hm,rfl,rfl,hh⟩:=mQ h1;exact(h e hm).call m _ hh ((h e hm).holds hh).1
 ·obtain⟨e,h1,h2⟩:=Option.map_eq_some_iff.1 hc;cases h2;obtain⟨hm,rfl,rfl,hh⟩:=mQ h1;exact((h e hm).holds hh).2.1
theorem Gb{L:List az}(hc:ag L){e:az}(he:e∈L){m:Mem}(hm:aZ m e.hs):(Ga L).call e.f e.args m=some (e.v,e.mem m):=by
 obtain⟨e',h1⟩:=w5 (f:=e.f) (args:=e.args) (m:=m) ⟨rfl,rfl,hm⟩ he;obtain⟨h2,h3,h4,h5⟩:=mQ h1;obtain⟨k1,k2,k3⟩:=hc e' h2 e he h3 h4 (h5.uniq hm);show(uK e.f e.args m L).map _=_;rw[h1];have k4:e'.hs=e.hs:=h5.uniq hm;simp only[Option.map_some,k1];unfold az.mem;rw[k2,k3,k4]
def SK(P:Program)(ops:Array Oper)(nt:Nat)(L:List az)(l:List Oper)(al:aN)(hs:ah)(K:List Ab->aN->ah->Prop):Prop:=
 ∃Lf,(∀e∈L,e∈Lf)/\(∀e∈Lf,e∈L\/e.Sound P)/\ag Lf/\nB (Ga Lf) P ops nt l al hs K
variable {P:Program} {ops:Array Oper} {nt nI:Nat} {al:aN} {hs:ah} {o:Oper} {l:List Oper} {L:List az} {K:List Ab->aN->ah->Prop}
theorem SK.nil(hc:ag L)(h:K [] al hs):SK P ops nt L [] al hs K:=⟨L,fun _ h=>h,fun _ h => .inl h,hc,.nil h⟩
theorem SK.lift{x:XV}{hs1:ah}{b:Ab}{d:Nat}(hd:o.dst=some d)(hlt:Nat.blt d nt=true)(h:∀O,aA O P ops al hs o x hs1 b)(hk:SK P ops nt L l ((d,x)::al) hs1 fun bs=>K (b::bs)):SK P ops nt L (o::l) al hs K:=by
 obtain⟨Lf,h1,h2,h3,h4⟩:=hk;exact⟨Lf,h1,h2,h3,.cons (h _) (by rw[hd];simpa [Nat.blt_eq]using hlt) (by rw[hd];exact h4)⟩
theorem SK.DD{x:XV}{hs1:ah}{b:Ab}(hd:o.dst = .none)(h:∀O,aA O P ops al hs o x hs1 b)(hk:SK P ops nt L l al hs1 fun bs=>K (b::bs)):SK P ops nt L (o::l) al hs K:=by
 obtain⟨Lf,h1,h2,h3,h4⟩:=hk;exact⟨Lf,h1,h2,h3,.cons (h _) (by rw[hd]) (by rw[hd];exact h4)⟩
theorem wC{Lf:List az}(hc:ag Lf){e:az}(he:e∈Lf)(hs0:e.hs=hs)(hsd:e.Sound P){g:Operand}{args:Array Operand}{ts:Array TypeId}(ho:o.op = .call ⟨.value g,args,ts⟩)(hw:av ops (rg al) o=some true)
 {c:XC}(hg:ae (rg al) g = .one c) {caps:List XC}(hx:y9 c=some (e.f,caps)) (hcb:eR P e.f=true) (ha:args.toList.map (ae (rg al))++caps.map .one=e.args) :
 aA (Ga Lf) P ops al hs o e.v e.hs' ⟨true,.none,e.ws++mM e.hs.length e.hs'.length⟩:=by
 intro m hm;subst hs0;obtain⟨h1,_,h2⟩:=hsd.holds hm;refine⟨e.mem m,?_,h1,h2⟩;unfold jg;rw[hw]
 have e1:cR (Ga Lf) P (ae (rg al)) o.op m=some (e.v,e.mem m):=by
  rw[ho];simp only[cR,hg,hx,hcb,if_true,ha,Gb hc he hm]
 have n1:aY P (ae (rg al)) o.op = .none:=by rw[ho];rfl
 have n2:pW (Ga Lf) (ae (rg al)) o.op = .none:=by rw[ho];rfl
 have n3:eS P (ae (rg al)) o.op = .none:=by rw[ho];rfl
 have n4:b9 P (ae (rg al)) o.op m = .none:=by rw[ho];rfl
 simp only[dC,dF,n1,n2,n3,n4,e1]
theorem ax{f:FuncId}{vs:List XV}{v:XV}{hs':ah}{ws:List Nat}(hi:az.Sound P ⟨f,vs,hs,v,hs',ws⟩){g:Operand}{args:Array Operand}{ts:Array TypeId}(ho:o.op = .call ⟨.value g,args,ts⟩)(hw:av ops (rg al) o=some true)
 {d:Nat}(hd:o.dst=some d) (hlt:Nat.blt d nt=true) {c:XC}(hg:ae (rg al) g = .one c) {caps:List XC}(hx:y9 c=some (f,caps)) (hcb:eR P f=true) (ha:args.toList.map (ae (rg al))++caps.map .one=vs)
 (hk:SK P ops nt (⟨f,vs,hs,v,hs',ws⟩::L) l ((d,v)::al) hs' fun bs=>K (⟨true,.none,ws++mM hs.length hs'.length⟩::bs)):SK P ops nt L (o::l) al hs K:=by
 obtain⟨Lf,h1,h2,h3,h4⟩:=hk;refine⟨Lf,fun e he=>h1 e (List.mem_cons_of_mem _ he),fun e he=>?_,h3,.cons (wC h3 (h1 _ (List.mem_cons_self ..)) rfl hi ho hw hg hx hcb ha) (by rw[hd];simpa [Nat.blt_eq]using hlt) (by rw[hd];exact h4)⟩
 rcases h2 e he with h|h
 ·rcases List.mem_cons.1 h with rfl|h
  ·exact .inr hi
  ·exact .inl h
 ·exact .inr h
theorem Jm{f:FuncId}{vs:List XV}{v:XV}{hs':ah}{ws:List Nat}(hi:az.Sound P ⟨f,vs,hs,v,hs',ws⟩){g:Operand}{args:Array Operand}{ts:Array TypeId}(ho:o.op = .call ⟨.value g,args,ts⟩)(hw:av ops (rg al) o=some true)
 (hd:o.dst = .none) {c:XC}(hg:ae (rg al) g = .one c) {caps:List XC}(hx:y9 c=some (f,caps)) (hcb:eR P f=true) (ha:args.toList.map (ae (rg al))++caps.map .one=vs)
 (hk:SK P ops nt (⟨f,vs,hs,v,hs',ws⟩::L) l al hs' fun bs=>K (⟨true,.none,ws++mM hs.length hs'.length⟩::bs)):SK P ops nt L (o::l) al hs K:=by
 obtain⟨Lf,h1,h2,h3,h4⟩:=hk;refine⟨Lf,fun e he=>h1 e (List.mem_cons_of_mem _ he),fun e he=>?_,h3,.cons (wC h3 (h1 _ (List.mem_cons_self ..)) rfl hi ho hw hg hx hcb ha) (by rw[hd]) (by rw[hd];exact h4)⟩
 rcases h2 e he with h|h
 ·rcases List.mem_cons.1 h with rfl|h
  ·exact .inr hi
  ·exact .inl h
 ·exact .inr h
theorem vq(τ : Nat->Nat)(hs:ah):View τ hs []:=⟨fun _ h=>absurd h (Nat.not_lt_zero _),fun _ _ _ _ h=>by simp at h,fun _ _ h=>by simp at h,fun _ _ h=>by simp at h⟩
theorem ay{f:FuncId}{args:List XV}{v:XV}(hc:bq P f args [] v [])(ha:(args.all XV.shut)=true)(hv:v.shut=true)(hb:Nat.blt hs.length Mem.bound=true):az.Sound P ⟨f,args,hs,v,hs,[]⟩:=by
 have ha':∀x∈args,x.shut=true:=List.all_eq_true.1 ha;refine⟨Nat.le_refl _,by simpa [Nat.blt_eq]using hb,fun _ _ _=>rfl,fun M M' hM hM'=>?_⟩;have:=BF hc (Nat.le_refl _) (by decide) (ρ:=id) (HS:=hs) (HS':=hs) (vq _ _) (fun x hx=>XV.ky (ha' x hx) _) ⟨by simp,fun _ _ h=>by simp at h,fun _ _ _=>rfl⟩ (fun _ _ h=>by simp at h) hM hM';rw[lD ha',XV.dQ hv]at this;exact this
theorem E5{f:FuncId}{args args':List XV}{hs0:ah}{v v':XV}(hc:bq P f args hs0 v hs0){ρ : Nat->Nat}(hview:View ρ hs hs0)(hlive:∀o∈hs0,o.live=true)(ha:∀x∈args,x.bH hs0.length)(e1:args.map (·.aB ρ)=args')(hv:v.bH hs0.length)(e2:v.aB ρ = v')(hb:Nat.blt hs.length Mem.bound=true)(hb0:Nat.blt hs0.length Mem.bound=true) :
 az.Sound P ⟨f,args',hs,v',hs,[]⟩:=by
 refine⟨Nat.le_refl _,by simpa [Nat.blt_eq]using hb,fun _ _ _=>rfl,fun M M' hM hM'=>?_⟩;have key:∀j,j<hs0.length->beyond ρ hs0.length hs.length j = ρ j:=fun j hj=>if_pos hj
 have kc:∀c:XC,c.ok hs0.length->c.aB (beyond ρ hs0.length hs.length)=c.aB ρ:=by
  intro c
  induction c with
  | ptr i off=>exact fun h=>by simp only[XC.aB,key i h]
  | slice i off len cap=>exact fun h=>by simp only[XC.aB,key i h]
  | map i=>exact fun h=>by simp only[XC.aB,key i h]
  | lsl g k off len fl cut=>exact fun h=>by simp only[XC.aB,key g h]
  | lpt g k off=>exact fun h=>by simp only[XC.aB,key g h]
  | bind g c ih1 ih2=>exact fun h=>by simp only[XC.aB,ih1 h.1,ih2 h.2]
  | _=>intro _;rfl
 have kcs:∀cs:List XC,(∀c∈cs,c.ok hs0.length)->cs.map (·.aB (beyond ρ hs0.length hs.length))=cs.map (·.aB ρ):=fun cs h=>List.map_congr_left fun c hc=>kc c (h c hc)
 have k1:∀x:X1,x.ok hs0.length->x.aB (beyond ρ hs0.length hs.length)=x.aB ρ:=fun x h=>by
  cases x with
  | one c=>simp only[X1.aB,kc c h]
  | agg cs=>simp only[X1.aB,kcs cs h]
 have kv:∀x:XV,x.bH hs0.length->x.aB (beyond ρ hs0.length hs.length)=x.aB ρ:=fun x h=>by
  cases x with
  | undef=>rfl
  | one c=>simp only[XV.aB,kc c h]
  | agg cs=>simp only[XV.aB,kcs cs h]
  | tup xs=>simp only[XV.aB];rw[List.map_congr_left fun c hc=>k1 c (h c hc)]
 have ko:∀x:aj,x.bH hs0.length->x.aB (beyond ρ hs0.length hs.length)=x.aB ρ:=fun x h=>by
  cases x with
  | dead=>rfl
  | late L=>rfl
  | cells vs e a b=>simp only[aj.aB,kcs vs h]
  | map es=>simp only[aj.aB];rw[List.map_congr_left fun p hp=>by rw[k1 _ (h p hp).1,k1 _ (h p hp).2]]
 have:=BF hc (Nat.le_refl _) (by simpa [Nat.blt_eq]using hb0) (HS:=hs) (HS':=hs) hview ha ⟨by simp,fun j o h=>?_,fun _ _ _=>rfl⟩ (fun j o h hl _=>⟨o,h,hl⟩) hM hM'
 ·rw[e1,kv v hv,e2]at this;exact this
 ·have hj:j<hs0.length:=(List.getElem?_eq_some_iff.1 h).1;rw[key j hj,ko o (hview.ok j o h)]
  rcases hview.obj j o h with e|e
  ·have:=hlive o (List.mem_of_getElem? h);rw[e]at this;cases this
  ·exact e
theorem s7{f:FuncId}{args args':List XV}{hs0 hs0' hs':ah}{v v':XV}{ws:List Nat}(hc:bq P f args hs0 v hs0'){ρ : Nat->Nat}(hle:hs0.length<=hs0'.length)(hview:View ρ hs hs0)(ha:∀x∈args,x.bH hs0.length)(e1:args.map (·.aB ρ)=args')(e2:v.aB (beyond ρ hs0.length hs.length)=v')(haf:MR ρ hs0.length hs hs0' hs')(hro:∀(j:Nat) (o:aj),hs0'[j]? = some o->o.live=true->o.own=false->∃o0,hs0[j]? = some o0/\o0.live=true)
 (hsame:∀i,i<hs.length->i∉ws->hs'[i]? = hs[i]?) (hb:Nat.blt hs'.length Mem.bound=true) (hb0:Nat.blt hs0.length Mem.bound=true):az.Sound P ⟨f,args',hs,v',hs',ws⟩:=by
 have hl:=haf.len;refine⟨by show hs.length<=hs'.length;omega,by simpa [Nat.blt_eq]using hb,hsame,fun M M' hM hM'=>?_⟩;have:=BF hc hle (by simpa [Nat.blt_eq]using hb0) hview ha haf hro hM hM';rw[e1,e2]at this;exact this
section
variable {K:ch}
theorem WX.Qe{id:Nat}(h:SK P ops nt [] ops.toList al hs fun _ al' hs'=>K .normal al' hs'):WX P nt nI (.code (.region id ops false)) al hs K:=by
 obtain⟨Lf,h1,h2,h3,h4⟩:=h;exact WX.R5 (pO fun e he=>(h2 e he).resolve_left (by simp)) h4
theorem WX.NO(hP:P.follows .mixedOrders=true){id:Nat}(hst:cW ops nt (iO ops.toList)=true)(h:SK P ops nt [] ops.toList al hs fun bs al' hs'=>wH (iO ops.toList) bs=true/\K .normal al' hs'):WX P nt nI (.code (.region id ops true)) al hs K:=by
 obtain⟨Lf,h1,h2,h3,h4⟩:=h;exact WX.Qy (pO fun e he=>(h2 e he).resolve_left (by simp)) hP hst h4
end
end Go.Xm
namespace Go.Xm
variable [ak]
def iu(m m':Mem):Prop:=m.n<=Mem.bound->m'.n<=Mem.bound/\m.n<=m'.n/\∀j,j<m'.n->(m'.get j).live=true->(m'.get j).own=true\/(j<m.n/\m.get j=m'.get j)
theorem iu.same(m:Mem):iu m m:=fun hb=>⟨hb,Nat.le_refl _,fun j hj _ => .inr ⟨hj,rfl⟩⟩
theorem iu.trans{a b c:Mem}(h1:iu a b)(h2:iu b c):iu a c:=fun hb=>by
 obtain⟨k1,k2,k3⟩:=h1 hb;obtain⟨l1,l2,l3⟩:=h2 k1;refine⟨l1,Nat.le_trans k2 l2,fun j hj hl=>?_⟩
 rcases l3 j hj hl with h|⟨h,he⟩
 ·exact .inl h
 ·rcases k3 j h (by rw[he];exact hl)with h'|⟨h',he'⟩
  ·exact .inl (by rw[<-he];exact h')
  ·exact .inr ⟨h',he'.trans he⟩
theorem iu.put(m:Mem)(i:Nat){o:aj}(ho:o.own=true\/o.live=false):iu m (m.put i o):=fun hb=>by
 refine⟨by rw[Mem.dV];exact hb,by rw[Mem.dV];exact Nat.le_refl _,fun j hj hl=>?_⟩;rw[Mem.dV]at hj
 by_cases hji:j=i
 ·subst hji;rw[Mem.fb m o hj (by omega)]at hl ⊢
  rcases ho with h|h
  ·exact .inl h
  ·rw[h]at hl;cases hl
 ·have:(m.put i o).get j=m.get j:=by
   show((m.put i o).fX j).obj=(m.fX j).obj;rw[Mem.gT m o hji]
  exact .inr ⟨hj,this.symm⟩
theorem iu.push{m m':Mem}{o:aj}(ho:o.own=true\/o.live=false)(h:m.push o=some m'):iu m m':=fun hb=>by
 obtain⟨h1,h2,h3,h4⟩:=Mem.br h;refine⟨by omega,by omega,fun j hj hl=>?_⟩
 by_cases hjn:j=m.n
 ·subst hjn;have:m'.get m.n=o:=by show(m'.fX m.n).obj=o;rw[h3]
  rw[this]at hl ⊢
  rcases ho with h|h
  ·exact .inl h
  ·rw[h]at hl;cases hl
 ·have:m'.get j=m.get j:=by
   show(m'.fX j).obj=(m.fX j).obj;rw[h4 j hjn]
  exact .inr ⟨by omega,this.symm⟩
theorem Gy{P:Program}{ρ : Operand->XV}{op:Op}{m m':Mem}{r:XV}(h:b9 P ρ op m=some (r,m')):iu m m':=by
 unfold b9 og Gw yO kS dp l7 gX i_ jf vz at h
 (repeat' split at h)<;>first
   | (cases h;done)
   | (cases h;exact .same _)
   | (cases h;exact .put _ _ (.inl rfl))
   | (cases h;exact .push (.inl rfl) ‹_›)
   | (cases h;exact .trans (.put _ _ (.inr rfl)) (.push (.inl rfl) ‹_›))
def ye(o:Oper):Bool:=match o.op with
 | .call ⟨.value _,_,_⟩=>false
 | _=>true
theorem Pw{O : dc}{P:Program}{ops:Array Oper}{g:Nat->XV}{o:Oper}{m:Mem}{d:Out}(hn:ye o=true)(h:jg O P ops g o m=some d):iu m d.m:=by
 unfold jg at h;split at h
 ·unfold dC at h;split at h
  ·cases h;exact .same _
  ·split at h
   ·split at h
    ·cases h;exact .same _
    ·cases h
   ·split at h
    ·rename_i x m' hx;cases h;exact Gy hx
    ·split at h
     ·rename_i x m' hx;exfalso;unfold cR at hx;split at hx
      ·rename_i hop;unfold ye at hn;rw[hop]at hn;cases hn
      ·cases hx
     ·cases h
 ·cases h;exact .same _
 ·cases h
end Go.Xm
namespace Go.Xm
variable [ak]
variable {P:Program} {ops:Array Oper} {nt nI:Nat} {al:aN} {hs:ah} {o:Oper} {l:List Oper} {L:List az} {K:List Ab->aN->ah->Prop} {d:Nat}
theorem D2{a:Operand}(ho:o.op = .move a)(hw:av ops (rg al) o=some true)(hd:o.dst=some d)(hlt:Nat.blt d nt=true){c:XV}(ha:ae (rg al) a=c)
 (hk:SK P ops nt L l ((d,c)::al) hs fun bs=>K (quiet::bs)):SK P ops nt L (o::l) al hs K:=
 SK.lift hd hlt (fun _=>aA.pure hw (by rw[ho];simp only[aY,ha])) hk
theorem FU{a:Operand}(ho:o.op = .assign a)(hw:av ops (rg al) o=some true)(hd:o.dst=some d)(hlt:Nat.blt d nt=true){c:XV}(ha:ae (rg al) a=c)
 (hk:SK P ops nt L l ((d,c)::al) hs fun bs=>K (quiet::bs)):SK P ops nt L (o::l) al hs K:=
 SK.lift hd hlt (fun _=>aA.pure hw (by rw[ho];simp only[aY,ha])) hk
theorem Js{a b c:Operand}(ho:o.op = .pick c a b)(hw:av ops (rg al) o=some true)(hd:o.dst=some d)(hlt:Nat.blt d nt=true)(hc:ae (rg al) c = .one (.bool true)){x:Bool}(ha:ae (rg al) a = .one (.bool x))
 (hk:SK P ops nt L l ((d,.one (.bool x))::al) hs fun bs=>K (quiet::bs)):SK P ops nt L (o::l) al hs K:=
 SK.lift hd hlt (fun _=>aA.pure hw (by rw[ho];simp only[aY,hc,if_true,ha])) hk
theorem Jr{a b c:Operand}(ho:o.op = .pick c a b)(hw:av ops (rg al) o=some true)(hd:o.dst=some d)(hlt:Nat.blt d nt=true)(hc:ae (rg al) c = .one (.bool false)){x:Bool}(ha:ae (rg al) b = .one (.bool x))
 (hk:SK P ops nt L l ((d,.one (.bool x))::al) hs fun bs=>K (quiet::bs)):SK P ops nt L (o::l) al hs K:=
 SK.lift hd hlt (fun _=>aA.pure hw (by rw[ho];simp only[aY,hc,Bool.false_eq_true,if_false,ha])) hk
theorem O1{a:Operand}{t:TypeId}(ho:o.op = .unOp .not t a)(hw:av ops (rg al) o=some true)(hd:o.dst=some d)(hlt:Nat.blt d nt=true){x y:Bool}(ha:ae (rg al) a = .one (.bool x))(hy:(!x)=y)
 (hk:SK P ops nt L l ((d,.one (.bool y))::al) hs fun bs=>K (quiet::bs)):SK P ops nt L (o::l) al hs K:=
 SK.lift hd hlt (fun _=>aA.pure hw (by rw[ho];simp only[aY,ha,RA,hy])) hk
section
variable {t t':TypeId} {a b:Operand} {k k' k'':IntKind} {x y z:Int}
theorem gE{op:BinOp}(ho:o.op = .binOp op t a b t')(hw:av ops (rg al) o=some true)(hd:o.dst=some d)(hlt:Nat.blt d nt=true)(ha:ae (rg al) a = .one (.int k x))(hb:ae (rg al) b = .one (.int k' y))
 (hc:bB op k k' x y=some (.int k'' z)) (hk:SK P ops nt L l ((d,.one (.int k'' z))::al) hs fun bs=>K (quiet::bs)):SK P ops nt L (o::l) al hs K:=
 SK.lift hd hlt (fun _=>aA.bin hw ho ha hb hc) hk
theorem O2(ho:o.op = .binOp .rem t a b t')(hw:av ops (rg al) o=some true)(hd:o.dst=some d)(hlt:Nat.blt d nt=true)(ha:ae (rg al) a = .one (.int k x))(hb:ae (rg al) b = .one (.int k y))
 (hx:0<=x) (hy:y≠0) (hk:SK P ops nt L l ((d,.one (.int k (x%y)))::al) hs fun bs=>K (quiet::bs)):SK P ops nt L (o::l) al hs K:=
 gE ho hw hd hlt ha hb (by simp only[bB,dS,if_true,hy,if_false,Int.tmod_eq_emod_of_nonneg hx]) hk
theorem Jq{ts:Array TypeId}(ho:o.op = .call ⟨.builtin .max,#[a,b],ts⟩)(hw:av ops (rg al) o=some true)(hd:o.dst=some d)(hlt:Nat.blt d nt=true)(ha:ae (rg al) a = .one (.int k x))(hb:ae (rg al) b = .one (.int k' y))(hz:max x y=z)
 (hk:SK P ops nt L l ((d,.one (.int k z))::al) hs fun bs=>K (quiet::bs)):SK P ops nt L (o::l) al hs K:=
 SK.lift hd hlt (fun _=>aA.pure hw (by
  have e:(if y>x then y else x)=z:=by rw[<-hz,Int.max_def];by_cases h:y>x<;>by_cases h':x<=y<;>simp[h,h']<;>omega
  rw[ho];simp only[aY,ec,List.map_cons,List.map_nil,ha,hb,kP,e,Option.map_some])) hk
theorem Cv{ts:Array TypeId}(ho:o.op = .call ⟨.builtin .min,#[a,b],ts⟩)(hw:av ops (rg al) o=some true)(hd:o.dst=some d)(hlt:Nat.blt d nt=true)(ha:ae (rg al) a = .one (.int k x))(hb:ae (rg al) b = .one (.int k' y))(hz:min x y=z)
 (hk:SK P ops nt L l ((d,.one (.int k z))::al) hs fun bs=>K (quiet::bs)):SK P ops nt L (o::l) al hs K:=
 SK.lift hd hlt (fun _=>aA.pure hw (by
  have e:(if y<x then y else x)=z:=by rw[<-hz,Int.min_def];by_cases h:y<x<;>by_cases h':x<=y<;>simp[h,h']<;>omega
  rw[ho];simp only[aY,ec,List.map_cons,List.map_nil,ha,hb,kQ,e,Option.map_some])) hk
end
theorem DZ{s t:TypeId}{y:Operand}{u:TypeDesc}(ho:o.op = .convert s t y)(hw:av ops (rg al) o=some true)(hd:o.dst=some d)(hlt:Nat.blt d nt=true){k k':IntKind}{x z:Int}(hy:ae (rg al) y = .one (.int k x))[aP P s u][h:aP P t (.int k')](hz:k'.wrap x=z)
 (hk:SK P ops nt L l ((d,.one (.int k' z))::al) hs fun bs=>K (quiet::bs)):SK P ops nt L (o::l) al hs K:=
 SK.lift hd hlt (fun _=>aA.conv hw ho hy (by simp only[kK,aP.out (P:=P) (t:=s),aP.out (P:=P) (t:=t)]) hz) hk
theorem O0{a:Operand}(ho:o.op = .nilCheck a)(hw:av ops (rg al) o=some true)(hd:o.dst=some d)(hlt:Nat.blt d nt=true){i off:Nat}(ha:ae (rg al) a = .one (.ptr i off))
 (hk:SK P ops nt L l ((d,.one (.ptr i off))::al) hs fun bs=>K (quiet::bs)):SK P ops nt L (o::l) al hs K:=
 SK.lift hd hlt (fun _=>aA.pure hw (by rw[ho];simp only[aY,ha,l9])) hk
theorem OX{s:TypeId}{a:Operand}{f:Nat}(ho:o.op = .fieldAddr s a f)(hw:av ops (rg al) o=some true)(hd:o.dst=some d)(hlt:Nat.blt d nt=true){i off:Nat}(ha:ae (rg al) a = .one (.ptr i off)){ft:TypeId}{fo z:Nat}[hf:bC P s f ft fo][hz:aG P ft (z+1)]
 {p:Nat}(hp:off+fo=p) (hk:SK P ops nt L l ((d,.one (.ptr i p))::al) hs fun bs=>K (quiet::bs)):SK P ops nt L (o::l) al hs K:=by
 obtain⟨fd,h1,h2,h3⟩:=hf.ex;exact SK.lift hd hlt (fun _=>aA.pure hw (by rw[ho];simp only[aY,fq,h1,ha,h2,hz.out,h3,hp])) hk
theorem Mf{t:TypeId}{a b:Operand}{len:Nat}{elem:TypeId}{s:Nat}(ho:o.op = .indexAddr t a b)(hw:av ops (rg al) o=some true)(hd:o.dst=some d)(hlt:Nat.blt d nt=true){i off:Nat}(ha:ae (rg al) a = .one (.ptr i off)){k:IntKind}{z:Int}(hb:ae (rg al) b = .one (.int k z))[hu:aP P t (.array len elem)][hs':aG P elem s](hz:0<=z/\z<len)
 {p:Nat}(hp:off+z.toNat*s=p) (hk:SK P ops nt L l ((d,.one (.ptr i p))::al) hs fun bs=>K (quiet::bs)):SK P ops nt L (o::l) al hs K:=
 SK.lift hd hlt (fun _=>aA.pure hw (by rw[ho];simp only[aY,b6,ha,hb,hu.out,hs'.out,if_pos hz,Option.map_some,hp])) hk
theorem D0{t:TypeId}{a b:Operand}{elem:TypeId}{s:Nat}(ho:o.op = .indexAddr t a b)(hw:av ops (rg al) o=some true)(hd:o.dst=some d)(hlt:Nat.blt d nt=true){i off len:Nat}{cap:py}(ha:ae (rg al) a = .one (.slice i off len cap)){k:IntKind}{z:Int}(hb:ae (rg al) b = .one (.int k z))[hu:aP P t (.slice elem)][hs':aG P elem s](hz:0<=z/\z<len)
 {p:Nat}(hp:off+z.toNat*s=p) (hk:SK P ops nt L l ((d,.one (.ptr i p))::al) hs fun bs=>K (quiet::bs)):SK P ops nt L (o::l) al hs K:=
 SK.lift hd hlt (fun _=>aA.pure hw (by rw[ho];simp only[aY,b6,ha,hb,hu.out,hs'.out,if_pos hz,Option.map_some,hp])) hk
theorem Jn{s:TypeId}{a:Operand}{f:Nat}(ho:o.op = .field s a f)(hw:av ops (rg al) o=some true)(hd:o.dst=some d)(hlt:Nat.blt d nt=true){cs:List XC}(ha:ae (rg al) a = .agg cs){ft:TypeId}{fo:Nat}[hf:bC P s f ft fo][hz:cK P ft]{c:XC}(hc:cs[fo]? = some c)
 (hk:SK P ops nt L l ((d,.one c)::al) hs fun bs=>K (quiet::bs)):SK P ops nt L (o::l) al hs K:=by
 obtain⟨fd,h1,h2,h3⟩:=hf.ex;exact SK.lift hd hlt (fun _=>aA.pure hw (by rw[ho];simp only[aY,yK,h1,ha,h2,h3,gx,hz.out,hc,Option.map_some,X1.pP])) hk
theorem OW{a:Operand}{i:Nat}(ho:o.op = .extract a i)(hw:av ops (rg al) o=some true)(hd:o.dst=some d)(hlt:Nat.blt d nt=true){vs:List X1}(ha:ae (rg al) a = .tup vs){c:XC}(hc:vs[i]? = some (.one c))
 (hk:SK P ops nt L l ((d,.one c)::al) hs fun bs=>K (quiet::bs)):SK P ops nt L (o::l) al hs K:=
 SK.lift hd hlt (fun _=>aA.pure hw (by rw[ho];simp only[aY,ha,jC,hc,Option.map_some,X1.pP])) hk
theorem Md{a:Operand}{i:Nat}(ho:o.op = .extract a i)(hw:av ops (rg al) o=some true)(hd:o.dst=some d)(hlt:Nat.blt d nt=true){vs:List X1}(ha:ae (rg al) a = .tup vs){c:List XC}(hc:vs[i]? = some (.agg c))
 (hk:SK P ops nt L l ((d,.agg c)::al) hs fun bs=>K (quiet::bs)):SK P ops nt L (o::l) al hs K:=
 SK.lift hd hlt (fun _=>aA.pure hw (by rw[ho];simp only[aY,ha,jC,hc,Option.map_some,X1.pP])) hk
theorem Mi{a:Operand}{t:TypeId}{elem:TypeId}(ho:o.op = .call ⟨.builtin .len,#[a],#[t]⟩)(hw:av ops (rg al) o=some true)(hd:o.dst=some d)(hlt:Nat.blt d nt=true){i off len:Nat}{cap:py}(ha:ae (rg al) a = .one (.slice i off len cap))[hu:aP P t (.slice elem)]
 (hk:SK P ops nt L l ((d,.one (.int .i64 (len:Nat)))::al) hs fun bs=>K (quiet::bs)):SK P ops nt L (o::l) al hs K:=
 SK.lift hd hlt (fun _=>aA.pure hw (by rw[ho];simp[aY,ec,ha,yN,hu.out])) hk
theorem fQ{t:TypeId}{a:Operand}(ho:o.op = .load t a)[ht:cK P t](hw:av ops (rg al) o=some true)(hd:o.dst=some d)(hlt:Nat.blt d nt=true){i off:Nat}(ha:ae (rg al) a = .one (.ptr i off)){vs:List XC}{e:TypeId}{opn ro:Bool}(hi:hs[i]? = some (.cells vs e opn ro)){c:XC}(hc:vs[off]? = some c)
 (hk:SK P ops nt L l ((d,.one c)::al) hs fun bs=>K (⟨false,some i,[]⟩::bs)):SK P ops nt L (o::l) al hs K:=
 SK.lift hd hlt (fun _=>aA.load hw ho ha hi (zR ht.out hc)) hk
theorem Ct{t:TypeId}{a:Operand}{s:Nat}(ho:o.op = .load t a)[ht:db P t][hs':aG P t s](hw:av ops (rg al) o=some true)(hd:o.dst=some d)(hlt:Nat.blt d nt=true){i:Nat}(ha:ae (rg al) a = .one (.ptr i 0)){vs:List XC}{e:TypeId}{opn ro:Bool}(hi:hs[i]? = some (.cells vs e opn ro))(hle:s=vs.length)
 (hk:SK P ops nt L l ((d,.agg vs)::al) hs fun bs=>K (⟨false,some i,[]⟩::bs)):SK P ops nt L (o::l) al hs K:=
 SK.lift hd hlt (fun _=>aA.load (x := .agg vs) hw ho ha hi (zQ ht.out (by rw[hs'.out,hle]))) hk
theorem u9{t:TypeId}{a:Operand}{s:Nat}(ho:o.op = .load t a)[ht:db P t][hs':aG P t s](hw:av ops (rg al) o=some true)(hd:o.dst=some d)(hlt:Nat.blt d nt=true){i off:Nat}(ha:ae (rg al) a = .one (.ptr i off)){vs:List XC}{e:TypeId}{opn ro:Bool}(hi:hs[i]? = some (.cells vs e opn ro))(hle:off+s<=vs.length){cs:List XC}(hc:(vs.drop off).take s=cs)
 (hk:SK P ops nt L l ((d,.agg cs)::al) hs fun bs=>K (⟨false,some i,[]⟩::bs)):SK P ops nt L (o::l) al hs K:=
 SK.lift hd hlt (fun _=>aA.load (x := .agg cs) hw ho ha hi (by simp only[dv,ht.out,hs'.out,if_pos hle,hc])) hk
theorem Jl{t:TypeId}{zs:List XC}(ho:o.op = .alloc t)[hz:aL P t zs](hw:av ops (rg al) o=some true)(hd:o.dst=some d)(hlt:Nat.blt d nt=true){n:Nat}(hn:hs.length=n)(hb:Nat.blt n Mem.bound=true){hs':ah}(hh:hs++[.cells zs t false false]=hs')
 (hk:SK P ops nt L l ((d,.one (.ptr n 0))::al) hs' fun bs=>K (⟨true,.none,[n]⟩::bs)):SK P ops nt L (o::l) al hs K:=by
 subst hn hh;exact SK.lift hd hlt (fun _=>aA.alloc hw ho hz.out hb) hk
theorem OT{t:TypeId}{y:Operand}(ho:o.op = .box t y)(hw:av ops (rg al) o=some true)(hd:o.dst=some d)(hlt:Nat.blt d nt=true){cs:List XC}(hy:cJ (ae (rg al) y)=some cs){n:Nat}(hn:hs.length=n)(hb:Nat.blt n Mem.bound=true){hs':ah}(hh:hs++[.cells cs t false false]=hs')
 (hk:SK P ops nt L l ((d,.one (.ptr n 0))::al) hs' fun bs=>K (⟨true,.none,[n]⟩::bs)):SK P ops nt L (o::l) al hs K:=by
 subst hn hh;exact SK.lift hd hlt (fun _=>aA.box hw ho hy hb) hk
theorem kC{t:TypeId}{a y:Operand}(ho:o.op = .store t a y)[ht:aG P t 1](hw:av ops (rg al) o=some true)(hd:o.dst = .none){i off:Nat}(ha:ae (rg al) a = .one (.ptr i off)){c:XC}(hy:cJ (ae (rg al) y)=some [c]){vs:List XC}{e:TypeId}{opn:Bool}(hi:hs[i]? = some (.cells vs e opn false))(hle:off<vs.length)
 {vs':List XC}(hv:vs.set off c=vs') {hs':ah}(hh:hs.set i (.cells vs' e opn false)=hs') (hk:SK P ops nt L l al hs' fun bs=>K (⟨true,.none,[i]⟩::bs)):SK P ops nt L (o::l) al hs K:=by
 subst hv hh;exact SK.DD hd (fun _=>aA.store hw ho ha hy ht.out hi (by simp only[List.length_cons,List.length_nil];omega) (F8 hle)) hk
theorem F1{t:TypeId}{a y:Operand}{s:Nat}(ho:o.op = .store t a y)[ht:aG P t s](hw:av ops (rg al) o=some true)(hd:o.dst = .none){i:Nat}(ha:ae (rg al) a = .one (.ptr i 0)){cs:List XC}(hy:cJ (ae (rg al) y)=some cs){vs:List XC}{e:TypeId}{opn:Bool}(hi:hs[i]? = some (.cells vs e opn false))(hs1:s=cs.length)(hs2:s=vs.length)
 {hs':ah}(hh:hs.set i (.cells cs e opn false)=hs') (hk:SK P ops nt L l al hs' fun bs=>K (⟨true,.none,[i]⟩::bs)):SK P ops nt L (o::l) al hs K:=by
 subst hh;exact SK.DD hd (fun _=>aA.store hw ho ha hy (by rw[ht.out,hs1]) hi (by omega) (F7 (by omega))) hk
theorem F2{t:TypeId}{a y:Operand}{s:Nat}(ho:o.op = .store t a y)[ht:aG P t s](hw:av ops (rg al) o=some true)(hd:o.dst = .none){i off:Nat}(ha:ae (rg al) a = .one (.ptr i off)){cs:List XC}(hy:cJ (ae (rg al) y)=some cs){vs:List XC}{e:TypeId}{opn:Bool}(hi:hs[i]? = some (.cells vs e opn false))(hs1:s=cs.length)(hs2:off+s<=vs.length)
 {vs':List XC}(hv:vs.take off++cs++vs.drop (off+s)=vs') {hs':ah}(hh:hs.set i (.cells vs' e opn false)=hs') (hk:SK P ops nt L l al hs' fun bs=>K (⟨true,.none,[i]⟩::bs)):SK P ops nt L (o::l) al hs K:=by
 subst hh;exact SK.DD hd (fun _=>aA.store hw ho ha hy (by rw[ht.out,hs1]) hi (by omega) (by rw[<-hs1];exact hv)) hk
theorem Mj(hw:av ops (rg al) o=some false)(hd:o.dst=some d)(hlt:Nat.blt d nt=true)(hk:SK P ops nt L l ((d,.tup [])::al) hs fun bs=>K (quiet::bs)):SK P ops nt L (o::l) al hs K:=
 SK.lift hd hlt (fun _=>aA.skip hw) hk
theorem lq(hw:av ops (rg al) o=some true)(hd:o.dst=some d)(hlt:Nat.blt d nt=true){x:XV}(h:aY P (ae (rg al)) o.op=some x)(hk:SK P ops nt L l ((d,x)::al) hs fun bs=>K (quiet::bs)):SK P ops nt L (o::l) al hs K:=
 SK.lift hd hlt (fun _=>aA.pure hw h) hk
theorem bm(hc:ag L)(h:K [] al hs):SK P ops nt L [] al hs K:=SK.nil hc h
theorem XC.iE:∀c:XC,c.aB id=c:=by
 intro c
 induction c with
 | bind g c ih1 ih2=>simp only[XC.aB,ih1,ih2]
 | _=>rfl
theorem X1.iE(x:X1):x.aB id=x:=by
 cases x with
 | one c=>simp only[X1.aB,XC.iE]
 | agg cs=>simp only[X1.aB];rw[show(fun c:XC=>c.aB id)=id from funext XC.iE,List.map_id]
theorem aj.iE(x:aj):x.aB id=x:=by
 cases x with
 | dead=>rfl
 | late L=>rfl
 | cells vs e a b=>simp only[aj.aB];rw[show(fun c:XC=>c.aB id)=id from funext XC.iE,List.map_id]
 | map es=>simp only[aj.aB,X1.iE];simp
theorem XV.iE(x:XV):x.aB id=x:=by
 cases x with
 | undef=>rfl
 | one c=>simp only[XV.aB,XC.iE]
 | agg cs=>simp only[XV.aB];rw[show(fun c:XC=>c.aB id)=id from funext XC.iE,List.map_id]
 | tup xs=>simp only[XV.aB];rw[show(fun c:X1=>c.aB id)=id from funext X1.iE,List.map_id]
section
variable {K:ch}
theorem WX.Qw{c:Operand}{x y:Code}(hc:ae (rg al) c = .one (.bool true))(h:WX P nt nI (.code x) al hs K):WX P nt nI (.code (.cond c x y)) al hs K:=
 WX.cond hc (fun _=>h) (fun h=>by cases h)
theorem WX.Qv{c:Operand}{x y:Code}(hc:ae (rg al) c = .one (.bool false))(h:WX P nt nI (.code y) al hs K):WX P nt nI (.code (.cond c x y)) al hs K:=
 WX.cond hc (fun h=>by cases h) (fun _=>h)
theorem DB{fn:Func}{n:Nat}{e:XE}{v1 v:XV}{hs':ah}(τ : Nat->Nat)(he:e = .normal\/e = .ret)(hr:sI P fn al hs v1)(hv:v1=v.aB τ)(hok:v.bH hs'.length)(hview:View τ hs hs')(hid:∀j,j<n -> τ j=j):aE P fn n v hs' e al hs:=
 ⟨he,v1,τ,hr,hv,hok,hview,hid⟩
theorem lT{fn:Func}{e:XE}{v1 v:XV}(he:e = .normal\/e = .ret)(hr:sI P fn al hs v1)(hv:v1=v)(hs':v.shut=true):aE P fn 0 v [] e al hs:=
 ⟨he,v1,id,hr,by rw[XV.dQ hs'];exact hv,XV.ky hs' _,vq _ _,fun _ h=>absurd h (Nat.not_lt_zero _)⟩
theorem bN{fn:Func}{e:XE}{v1 v:XV}{hs0 junk:ah}(he:e = .normal\/e = .ret)(hr:sI P fn al hs v1)(hv:v1=v)(hs':v.bH hs0.length)(hh:hs=hs0++junk)(hok:∀o∈hs0,o.bH hs0.length){n:Nat}:aE P fn n v hs0 e al hs:=by
 subst hh;refine⟨he,v1,id,hr,by rw[XV.iE];exact hv,hs',⟨fun j hj=>by simp;omega,fun _ _ _ _ _ _ _ _ h=>h,fun j o h=>hok o (List.mem_of_getElem? h),fun j o h => .inr ?_⟩,fun _ _=>rfl⟩;have hj:j<hs0.length:=(List.getElem?_eq_some_iff.1 h).1;show(hs0++junk)[j]? = _;rw[aj.iE,List.getElem?_append_left hj];exact h
end
end Go.Xm
namespace Go.Xm
variable [ak]
variable {P:Program} {ops:Array Oper} {nt nI:Nat} {al:aN} {hs:ah} {o:Oper} {l:List Oper} {L:List az} {K:List Ab->aN->ah->Prop} {d:Nat}
section
variable {α γ : Type} [DecidableEq α]
def kX(kc : α->X1)(vc : γ->X1)(M:List (α×γ)):List (X1×X1):=M.map fun p=>(kc p.1,vc p.2)
def gU(k : α):List (α×γ)->Option (Nat×γ)
 | [] => .none
 | p::M=>if k=p.1 then some (0,p.2)else(gU k M).map fun q=>(q.1+1,q.2)
def eK(M:List (α×γ))(k : α):Option γ:=(gU k M).map (·.2)
def v_(M:List (α×γ))(k : α)(v : γ):List (α×γ):=match gU k M with
 | some (j,_)=>M.set j (k,v)
 | .none=>M++[(k,v)]
theorem Fe(k : α):eK ([]:List (α×γ)) k = .none:=rfl
theorem mL(p : α×γ)(M:List (α×γ))(k : α):eK (p::M) k=if k=p.1 then some p.2 else eK M k:=by
 by_cases h:k=p.1
 ·simp[eK,gU,h]
 ·simp[eK,gU,h,Function.comp_def]
theorem ux{k : α}:∀{M:List (α×γ)} {j:Nat} {v : γ},gU k M=some (j,v)->M[j]? = some (k,v)
 | [],j,v,h=>by cases h
 | p :: M,j,v,h=>by
   unfold gU at h
   by_cases hk:k=p.1
   ·rw[if_pos hk]at h;cases h;simp[hk]
   ·rw[if_neg hk]at h;obtain⟨q,h1,h2⟩:=Option.map_eq_some_iff.1 h;cases h2;simpa using ux (M:=M) (j:=q.1) (v:=q.2) h1
theorem sj{k : α}:∀{M:List (α×γ)},gU k M = .none->∀p∈M,p.1≠k
 | [],_,p,hp=>by cases hp
 | q :: M,h,p,hp=>by
   unfold gU at h
   by_cases hk:k=q.1
   ·rw[if_pos hk]at h;cases h
   ·rw[if_neg hk]at h
    rcases List.mem_cons.1 hp with rfl|hp
    ·exact fun e=>hk e.symm
    ·exact sj (by simpa using h) p hp
theorem lW(k : α)(v : γ)(k' : α):∀{M:List (α×γ)},(∀p∈M,p.1≠k)->eK (M++[(k,v)]) k'=if k'=k then some v else eK M k'
 | [],_=>by simp[mL,Fe]
 | p::M,h=>by
   have ih:=lW k v k' (M:=M) fun q hq=>h q (List.mem_cons_of_mem _ hq)
   simp only[List.cons_append,mL,ih];have hp:=h p (List.mem_cons_self ..)
   by_cases h1:k'=p.1
   ·rw[if_pos h1,if_neg (fun e=>hp (by rw[<-h1,e])),if_pos h1]
   ·rw[if_neg h1,if_neg h1]
theorem wY(k : α)(v : γ)(k' : α):∀{M:List (α×γ)} {j:Nat} {u : γ},gU k M=some (j,u)->eK (M.set j (k,v)) k'=if k'=k then some v else eK M k'
 | [],j,u,h=>by cases h
 | p :: M,j,u,h=>by
   unfold gU at h
   by_cases hk:k=p.1
   ·rw[if_pos hk]at h;cases h;simp only[List.set_cons_zero,mL]
    by_cases h1:k'=k
    ·simp[h1]
    ·simp only[show p.1=k from hk.symm,h1,if_false]
   ·rw[if_neg hk]at h;obtain⟨q,h1,h2⟩:=Option.map_eq_some_iff.1 h;cases h2;simp only[List.set_cons_succ,mL,wY k v k' (M:=M) (j:=q.1) (u:=q.2) h1]
    by_cases h1:k'=p.1
    ·rw[if_pos h1,if_neg (fun e=>hk (by rw[<-h1,e])),if_pos h1]
    ·rw[if_neg h1,if_neg h1]
theorem rK(M:List (α×γ))(k : α)(v : γ)(k' : α):eK (v_ M k v) k'=if k'=k then some v else eK M k':=by
 unfold v_;split
 ·rename_i j u h;exact wY k v k' h
 ·rename_i h;exact lW k v k' (sj h)
theorem zn(kc : α->X1)(vc : γ->X1)(M:List (α×γ))(p : α×γ):kX kc vc (M++[p])=kX kc vc M++[(kc p.1,vc p.2)]:=by simp[kX]
theorem Hv(kc : α->X1)(vc : γ->X1)(M:List (α×γ))(j:Nat)(p : α×γ):kX kc vc (M.set j p)=(kX kc vc M).set j (kc p.1,vc p.2):=by simp[kX,List.map_set]
structure tB(P:Program)(kt:TypeId)(kc : α->X1):Prop where
 und:∃ds,P.underlying kt=some ds
 eq:∀a b,bU P 40 kt (kc a) (kc b)=some (decide (a=b))
 check:∀a,hZ P 40 kt (kc a)=true
 plain:∀a,tt (kc a)=true
theorem pU{kt:TypeId}{kc : α->X1}(hk:tB P kt kc)(vc : γ->X1)(k : α):∀(M:List (α×γ)) (i:Nat),kO P kt (kc k) (kX kc vc M) i=some ((gU k M).map fun q=>(i+q.1,vc q.2))
 | [],i=>rfl
 | p :: M,i=>by
   have ih:=pU hk vc k M (i+1)
   show(match bU P 40 kt (kc k) (kc p.1)with
    | some true=>some (some (i,vc p.2))
    | some false=>kO P kt (kc k) (kX kc vc M) (i+1)
    | .none => .none)=_
   rw[hk.eq];unfold gU
   by_cases h:k=p.1
   ·simp[h]
   ·simp only[h,decide_false,ih,if_false,Option.map_map]
    congr 2
    funext q
    simp only[Function.comp]
    congr 1
    omega
theorem aA.lookup{O:dc}(hw:av ops (rg al) o=some true){t:TypeId}{x ix:Operand}{ok:Bool}(ho:o.op = .lookup t x ix ok){kt et:TypeId}(hu:P.underlying t=some (.map kt et)){i:Nat}(hx:ae (rg al) x = .one (.map i)){key:X1}(hk:pQ (ae (rg al) ix)=some key)
 {es:List (X1×X1)}(hi:hs[i]? = some (.map es)) {v:XV}(hv:mY P kt et key ok es=some v):aA O P ops al hs o v hs ⟨false,some i,[]⟩:=by
 intro m hm;refine⟨m,?_,hm,fun _ _=>rfl⟩;unfold jg;rw[hw]
 obtain⟨f,hf1,hf2⟩:∃f,eS P (ae (rg al)) o.op=some (i,f)/\∀es',f (.map es')=mY P kt et key ok es':=by
  rw[ho];simp only[eS,hu,hx,hk];exact⟨_,rfl,fun _=>rfl⟩
 refine l6 (by rw[ho];rfl) (by rw[ho];rfl) hf1 ?_;rw[hm.at hi,hf2,hv]
theorem CT{kt et:TypeId}{kc : α->X1}(hk:tB P kt kc){vc : γ->X1}{z : γ}(hz:ow P et=some (vc z))(k : α)(M:List (α×γ)) :
 mY P kt et (kc k) true (kX kc vc M)=some (.tup [vc ((eK M k).getD z),.one (.bool (eK M k).isSome)]):=by
 obtain⟨ds,hu⟩:=hk.und;unfold mY;rw[if_pos (hk.check k),hu,pU hk];unfold eK
 cases h:gU k M with
 | none=>simp[hz]
 | some q=>simp
theorem D1{t:TypeId}{x ix:Operand}(ho:o.op = .lookup t x ix true){kt et:TypeId}[hu:aP P t (.map kt et)](hw:av ops (rg al) o=some true)(hd:o.dst=some d)(hlt:Nat.blt d nt=true){kc : α->X1}(hko:tB P kt kc){vc : γ->X1}{z : γ}(hz:ow P et=some (vc z)){i:Nat}(hx:ae (rg al) x = .one (.map i)){k : α}(hk:pQ (ae (rg al) ix)=some (kc k))
 {M:List (α×γ)}(hi:hs[i]? = some (.map (kX kc vc M))) (hn:SK P ops nt L l ((d,.tup [vc ((eK M k).getD z),.one (.bool (eK M k).isSome)])::al) hs fun bs=>K (⟨false,some i,[]⟩::bs)):SK P ops nt L (o::l) al hs K:=
 SK.lift hd hlt (fun _=>aA.lookup hw ho hu.out hx hk hi (CT hko hz k M)) hn
theorem aA.Q4{O:dc}(hw:av ops (rg al) o=some true){t:TypeId}{x ix y:Operand}(ho:o.op = .mapUpdate t x ix y){kt et:TypeId}(hu:P.underlying t=some (.map kt et)){kc : α->X1}(hko:tB P kt kc){vc : γ->X1}{i:Nat}(hx:ae (rg al) x = .one (.map i)){k : α}(hk:pQ (ae (rg al) ix)=some (kc k)){v : γ}(hv:pQ (ae (rg al) y)=some (vc v))
 {M:List (α×γ)}(hi:hs[i]? = some (.map (kX kc vc M))):aA O P ops al hs o (.tup []) (hs.set i (.map (kX kc vc (v_ M k v)))) ⟨true,.none,[i]⟩:=by
 intro m hm;refine⟨m.put i (.map (kX kc vc (v_ M k v))),?_,hm.put hi _,tc⟩;unfold jg;rw[hw];refine cg (by rw[ho];rfl) (by rw[ho];rfl) (by rw[ho];rfl) ?_;rw[ho];obtain⟨ds,hd⟩:=hko.und;simp only[b9,gX,hu,hx,hk,hv,hm.at hi,hko.check k,if_true,hd,pU hko];unfold v_
 cases hl:gU k M with
 | none=>simp[zn]
 | some q=>
   have hg:=ux (j:=q.1) (v:=q.2) hl;have e:(kX kc vc M)[q.1]? = some (kc k,vc q.2):=by simp[kX,hg]
   simp only[Option.map_some,Nat.zero_add,e,hko.plain k,and_self,if_true,Hv]
theorem Ay{t:TypeId}{x ix y:Operand}(ho:o.op = .mapUpdate t x ix y){kt et:TypeId}[hu:aP P t (.map kt et)](hw:av ops (rg al) o=some true)(hd:o.dst = .none){kc : α->X1}(hko:tB P kt kc){vc : γ->X1}{i:Nat}(hx:ae (rg al) x = .one (.map i)){k : α}(hk:pQ (ae (rg al) ix)=some (kc k)){v : γ}(hv:pQ (ae (rg al) y)=some (vc v))
 {M:List (α×γ)}(hi:hs[i]? = some (.map (kX kc vc M))) {hs':ah}(hh:hs.set i (.map (kX kc vc (v_ M k v)))=hs') (hn:SK P ops nt L l al hs' fun bs=>K (⟨true,.none,[i]⟩::bs)):SK P ops nt L (o::l) al hs K:=by
 subst hh;exact SK.DD hd (fun _=>aA.Q4 hw ho hu.out hko hx hk hv hi) hn
end
theorem aA.makeMap{O:dc}(hw:av ops (rg al) o=some true){t:TypeId}(ho:o.op = .makeMap t .none)(hb:Nat.blt hs.length Mem.bound=true):aA O P ops al hs o (.one (.map hs.length)) (hs++[.map []]) ⟨true,.none,[hs.length]⟩:=by
 intro m hm;obtain⟨m',h1,h2,h3⟩:=hm.push (.map []) (by simpa [Nat.blt_eq]using hb);refine⟨m',?_,h2,h3⟩;unfold jg;rw[hw];refine cg (by rw[ho];rfl) (by rw[ho];rfl) (by rw[ho];rfl) ?_;rw[ho];simp only[b9,l7,h1,hm.n]
theorem Cu{t:TypeId}(ho:o.op = .makeMap t .none)(hw:av ops (rg al) o=some true)(hd:o.dst=some d)(hlt:Nat.blt d nt=true){n:Nat}(hn:hs.length=n)(hb:Nat.blt n Mem.bound=true){hs':ah}(hh:hs++[.map []]=hs')
 (hk:SK P ops nt L l ((d,.one (.map n))::al) hs' fun bs=>K (⟨true,.none,[n]⟩::bs)):SK P ops nt L (o::l) al hs K:=by
 subst hn hh;exact SK.lift hd hlt (fun _=>aA.makeMap hw ho hb) hk
theorem N_{kt:TypeId}{k:IntKind}[hu:aP P kt (.int k)]:tB P kt (fun z:Int => .one (.int k z)):=by
 refine⟨⟨_,hu.out⟩,fun a b=>?_,fun a=>?_,fun a=>rfl⟩
 ·simp only[bU,hu.out,wj,if_true]
  congr 1
 ·simp only[hZ,hu.out]
def jk:List (Nat×XV)->Option (List XC)
 | []=>some []
 | p::r=>match cJ p.2,jk r with
   | some cs,some ds=>some (cs++ds)
   | _,_ => .none
def nP(place:Nat->Option (Nat×Nat))(total:Nat):Nat->List (Nat×XV)->Bool
 | off,[]=>off==total
 | off,p::r=>match place p.1,cJ p.2 with
   | some (a,s),some cs=>a==off&&s==cs.length&&nP place total (off+s) r
   | _,_=>false
theorem r7{place:Nat->Option (Nat×Nat)}:∀(parts:List (Nat×XV)) (zs:List XC) (off:Nat) (out:List XC),nP place zs.length off parts=true->jk parts=some out->gN place zs parts=some (zs.take off++out)
 | [],zs,off,out,h,hc=>by
   simp only[nP,beq_iff_eq]at h;simp only[jk,Option.some.injEq]at hc;subst hc;simp[gN,h]
 | p :: r, zs,off,out,h,hc=>by
   obtain⟨i,v⟩:=p;unfold nP at h;simp only at h;split at h
   ·rename_i a s cs h1 h2;simp only[Bool.and_eq_true,beq_iff_eq]at h;obtain⟨⟨rfl,rfl⟩,h3⟩:=h;unfold jk at hc;simp only[h2]at hc;split at hc
    ·rename_i cs' ds hcs hr;cases hcs;cases hc
     have hle:∀(r:List (Nat×XV)) (off:Nat),nP place zs.length off r=true->off<=zs.length:=by
      intro r
      induction r with
      | nil=>intro off h;simp only[nP,beq_iff_eq]at h;omega
      | cons q r ih=>
        intro off h;unfold nP at h;split at h
        ·simp only[Bool.and_eq_true]at h;have:=ih _ h.2;omega
        ·cases h
     have hl:=hle r _ h3;unfold gN;simp only[h1,h2];rw[if_pos ⟨trivial,hl⟩];have hlen:(zs.take a++cs++zs.drop (a+cs.length)).length=zs.length:=by simp;omega
     rw[r7 r _ (a+cs.length) ds (by rw[hlen];exact h3) hr]
     have e:(zs.take a++cs++zs.drop (a+cs.length)).take (a+cs.length)=zs.take a++cs:=by
      rw[List.take_append_of_le_length (by simp;omega),List.take_of_length_le (by simp;omega)]
     rw[e,List.append_assoc]
    ·cases hc
   ·cases h
theorem FW{t:TypeId}{parts:Array (Nat×Operand)}(ho:o.op = .build t parts){zs:List XC}[hz:aL P t zs]{n:Nat}{e:TypeId}[hu:aP P t (.array n e)]{s:Nat}[hs':aG P e s](hw:av ops (rg al) o=some true)(hd:o.dst=some d)(hlt:Nat.blt d nt=true)
 (hr:nP (fun i=>some (i*s,s)) zs.length 0 (parts.toList.map fun p=>(p.1,ae (rg al) p.2))=true) {out:List XC}(hc:jk (parts.toList.map fun p=>(p.1,ae (rg al) p.2))=some out) {out':List XC}(hn:out=out')
 (hk:SK P ops nt L l ((d,.agg out')::al) hs fun bs=>K (quiet::bs)):SK P ops nt L (o::l) al hs K:=by
 subst hn;exact SK.lift hd hlt (fun _=>aA.pure hw (by rw[ho];simp only[aY,om,hz.out,hu.out,hs'.out,r7 _ zs 0 out hr hc,Option.map_some,List.take_zero,List.nil_append])) hk
theorem FY{t:TypeId}{parts:Array (Nat×Operand)}(ho:o.op = .build t parts){zs:List XC}[hz:aL P t zs]{pl:List (Nat×Nat)}[hp:cx P t pl](hw:av ops (rg al) o=some true)(hd:o.dst=some d)(hlt:Nat.blt d nt=true)
 (hr:nP (fun i=>pl[i]?) zs.length 0 (parts.toList.map fun p=>(p.1,ae (rg al) p.2))=true) {out:List XC}(hc:jk (parts.toList.map fun p=>(p.1,ae (rg al) p.2))=some out) {out':List XC}(hn:out=out')
 (hk:SK P ops nt L l ((d,.agg out')::al) hs fun bs=>K (quiet::bs)):SK P ops nt L (o::l) al hs K:=by
 subst hn;obtain⟨fs,h1,h2⟩:=hp.out;exact SK.lift hd hlt (fun _=>aA.pure hw (by rw[ho];simp only[aY,om,hz.out,h1,h2,r7 _ zs 0 out hr hc,Option.map_some,List.take_zero,List.nil_append])) hk
theorem FV{t:TypeId}(ho:o.op = .build t #[]){zs:List XC}[hz:aL P t zs]{pl:List (Nat×Nat)}[hp:cx P t pl](hw:av ops (rg al) o=some true)(hd:o.dst=some d)(hlt:Nat.blt d nt=true)
 (hk:SK P ops nt L l ((d,.agg zs)::al) hs fun bs=>K (quiet::bs)):SK P ops nt L (o::l) al hs K:=by
 obtain⟨fs,h1,h2⟩:=hp.out;exact SK.lift hd hlt (fun _=>aA.pure hw (by rw[ho];simp only[aY,om,hz.out,h1,h2,List.map_nil,gN,Option.map_some])) hk
theorem Cr{t:TypeId}(ho:o.op = .build t #[]){zs:List XC}[hz:aL P t zs]{n:Nat}{e:TypeId}[hu:aP P t (.array n e)]{s:Nat}[hs':aG P e s](hw:av ops (rg al) o=some true)(hd:o.dst=some d)(hlt:Nat.blt d nt=true)
 (hk:SK P ops nt L l ((d,.agg zs)::al) hs fun bs=>K (quiet::bs)):SK P ops nt L (o::l) al hs K:=
 SK.lift hd hlt (fun _=>aA.pure hw (by rw[ho];simp only[aY,om,hz.out,hu.out,hs'.out,List.map_nil,gN,Option.map_some])) hk
inductive fE(P:Program)(al:aN)(hs:ah):List ResultVar->List X1->Prop where
 | nil:fE P al hs [] []
 | tmp {t:Nat} {x:X1} {l:List ResultVar} {xs:List X1}:pQ (rg al t)=some x->fE P al hs l xs->fE P al hs (.tmp t::l) (x::xs)
 | cell {a i off:Nat} {t:TypeId} {vs:List XC} {e:TypeId} {opn ro:Bool} {x:X1} {l:List ResultVar} {xs:List X1}:rg al a = .one (.ptr i off)->hs[i]? = some (.cells vs e opn ro)->dv P t vs off=some x->fE P al hs l xs->fE P al hs (.cell a t::l) (x::xs)
theorem fE.run{l:List ResultVar}{xs:List X1}(h:fE P al hs l xs){m:Mem}(hm:aZ m hs):gh P (rg al) m l=some xs:=by
 induction h with
 | nil=>rfl
 | tmp h1 _ ih=>simp only[gh,vI,h1,ih]
 | cell h1 h2 h3 _ ih=>simp only[gh,vI,h1,hm.at h2,h3,ih]
theorem fE.one{fn:Func}{l:List ResultVar}{x:X1}(hl:fn.results.toList=l)(h:fE P al hs l [x]):sI P fn al hs x.pP:=fun m hm=>by
 unfold dq;rw[hl,h.run hm]
theorem fE.two{fn:Func}{l:List ResultVar}{x y:X1}{r:List X1}(hl:fn.results.toList=l)(h:fE P al hs l (x::y::r)):sI P fn al hs (.tup (x::y::r)):=fun m hm=>by
 unfold dq;rw[hl,h.run hm]
theorem fE.zero{fn:Func}{l:List ResultVar}(hl:fn.results.toList=l)(h:fE P al hs l []):sI P fn al hs (.tup []):=fun m hm=>by
 unfold dq;rw[hl,h.run hm]
theorem bO{t:TypeId}{s:Nat}[ht:db P t][hs':aG P t s]{vs:List XC}(h:s=vs.length):dv P t vs 0=some (.agg vs):=zQ ht.out (by rw[hs'.out,h])
def nth(l:List Nat)(j:Nat):Nat:=l.getD j 0
theorem Nt{HS hs:ah}(l:List Nat)(hlen:hs.length=l.length)(hd:l.Nodup)(hok:∀o∈hs,o.bH hs.length)(h:∀(j:Nat) (o:aj),hs[j]? = some o->HS[nth l j]? = some (o.aB (nth l))):View (nth l) HS hs:=by
 refine⟨fun j hj=>?_,fun a b _ _ ha hb _ _ hab=>?_,fun j o hj=>hok o (List.mem_of_getElem? hj),fun j o hj => .inr (h j o hj)⟩
 ·have:=h j _ (List.getElem?_eq_getElem hj);exact(List.getElem?_eq_some_iff.1 this).1
 ·have ha:=(List.getElem?_eq_some_iff.1 ha).1;have hb:=(List.getElem?_eq_some_iff.1 hb).1;unfold nth at hab;have ha':a<l.length:=by omega
  have hb':b<l.length:=by omega
  rw[List.getD_eq_getElem?_getD,List.getD_eq_getElem?_getD,List.getElem?_eq_getElem ha',List.getElem?_eq_getElem hb']at hab;exact(List.getElem_inj hd).1 hab
end Go.Xm
namespace Go.Xm
open Go.RowKit (Below)
variable [ak]
variable {P:Program} {ops:Array Oper} {nt nI:Nat} {al:aN} {hs:ah} {o:Oper} {l:List Oper} {L:List az} {K:List Ab->aN->ah->Prop} {d:Nat}
def Ny(c:XC)(i n:Nat):Prop:=(c = .nils/\n=0)\/∃cap,c = .slice i 0 n (.exact cap)
theorem xZ{α : Type}(f : α->List XC)(s:Nat):∀(l:List α),(∀a∈l,(f a).length=s)->∀(i:Nat) (a : α),l[i]? = some a->i*s+s<=(l.flatMap f).length/\((l.flatMap f).drop (i*s)).take s=f a
 | [],_,i,a,h=>by simp at h
 | x::l,hl,0,a,h=>by
   simp at h;subst h;have:=hl x (List.mem_cons_self ..);simp only[List.flatMap_cons,List.length_append,Nat.zero_mul,List.drop_zero];exact⟨by omega,by rw[<-this,List.take_left'];rfl⟩
 | x::l,hl,i+1,a,h=>by
   have hx:=hl x (List.mem_cons_self ..);obtain⟨h1,h2⟩:=xZ f s l (fun b hb=>hl b (List.mem_cons_of_mem _ hb)) i a (by simpa using h);simp only[List.flatMap_cons,List.length_append,Nat.add_mul,Nat.one_mul];refine⟨by omega,?_⟩;rw[show i*s+s=(f x).length+i*s by omega,<-List.drop_drop,List.drop_left];exact h2
theorem OD{al:aN}{n:Nat}(h:∀p∈al,p.2.bH n)(t:Nat):(rg al t).bH n:=by
 induction al with
 | nil=>trivial
 | cons p al ih=>
   obtain⟨d,v⟩:=p;unfold rg;split
   ·exact h _ (List.mem_cons_self ..)
   ·exact ih fun q hq=>h q (List.mem_cons_of_mem _ hq)
theorem WX.drop{c:sd}{al al2:aN}{hs hs2 junk:ah}{K:ch}(hl:y_ al2 al)(hh:hs=hs2++junk)(hle:nI<=hs2.length)(hb:Nat.blt hs2.length Mem.bound=true)(hok:∀o∈hs2,o.bH hs2.length)(hr:∀p∈al2,p.2.bH hs2.length)
 (h:WX P nt nI c al2 hs2 K):WX P nt nI c al hs K:=by
 subst hh;refine WX.view id ⟨fun j hj=>by simp;omega,fun _ _ _ _ _ _ _ _ h=>h,fun j o h=>hok o (List.mem_of_getElem? h),fun j o h => .inr ?_⟩ (fun _ _=>rfl) hle hb (OD hr) (fun t=>?_) h
 ·have hj:j<hs2.length:=(List.getElem?_eq_some_iff.1 h).1;show(hs2++junk)[j]? = _;rw[aj.iE,List.getElem?_append_left hj];exact h
 ·rcases hl t with e|e
  ·exact .inl e
  ·exact .inr (by rw[XV.iE,e])
section
variable {K:ch}
end
theorem my{f:FuncId}{args:List XV}{v:XV}(h:SM P f args v):bq P f args [] v []:=
 fun m hm β w vs hall hw=>(h m β w vs hall hw).mono fun e w' ⟨u,β',he,hu,hst⟩=>⟨u,β',m,he,hm,hu,hst⟩
def pH(m:Mem):ah:=(List.range m.n).map m.get
theorem BG{O:dc}(hO:aR P O)(hP:P.follows .mixedOrders=true){F k:Nat}{f:FuncId}{args:List XV}{v:XV}{hs':ah}(h:((pv O P F k).call f args Mem.empty).map (fun p=>(p.1,pH p.2))=some (v,hs')):bq P f args [] v hs':=by
 obtain⟨⟨v1,m1⟩,h1,h2⟩:=Option.map_eq_some_iff.1 h;simp only[Prod.mk.injEq]at h2;obtain⟨rfl,rfl⟩:=h2;have hs:=sF hO hP F k;have hc:=hs.call _ _ _ _ _ h1;have hg:=hs.Kx _ _ _ _ _ h1;intro m hm β w vs hall hw;have hn:m.n=0:=hm.n
 have hfr:Mem.empty.b_:=fun i _=>by
  show(T.get GL.none .leaf i).ver=0;rw[T.eJ];rfl
 have hr:Rel β Mem.empty w:=⟨Nat.zero_le _,hfr,fun i hi=>absurd hi (Nat.not_lt_zero _),fun i j hi=>absurd hi (Nat.not_lt_zero _),fun i hi=>absurd hi (Nat.not_lt_zero _)⟩
 have ni:∀m0:Mem,m0.n=0->∀k,¬kT β m0 k:=fun m0 h0 k ⟨i,hi,_⟩=>by omega
 refine(hc β w vs (by rw[hn]at hall;exact hall) hr).mono fun e w' ⟨u,β',he,hu,hst⟩=>⟨u,β',m1,he,?_,hu,?_⟩
 ·exact⟨by simp[pH],hst.rel.bnd,(hg.mono hfr).2,fun i hi=>by
   show _=(pH m1).getD i .dead
   simp[pH,List.getD_eq_getElem?_getD,hi]⟩
 ·exact⟨by omega,by rw[hn];exact hst.ext,hst.rel,hst.os,hst.tape,hst.output,hst.size,fun k hk _=>hst.frame k hk (ni _ rfl k),fun k hk hi=>absurd (hst.pY k hk hi) (ni _ rfl k),fun k hk hl=>(hst.vU k hk hl).elim (fun h=>absurd h (ni _ rfl k)) (fun⟨i,hi,_⟩=>absurd hi (Nat.not_lt_zero _))⟩
theorem FI{β : Env}{n:Nat}{W:World}{b lo:Nat}{vs:List XC}(hne:0<vs.length)(h:∀(j:Nat) (c:XC),vs[j]? = some c->W.cell? ⟨b,lo+j,none⟩=some (c.den β))(hok:∀c∈vs,c.ok n) :
 ∃e sz,eY β n lo sz (.cells vs e true true) W.heap[b]?:=by
 have hc:∀j,j<vs.length->∃cs e fr,W.heap[b]? = some (.cells cs e fr)/\cs[lo+j]? = some ((vs.getD j .nili).den β):=fun j hj=>by
  have h1:=h j vs[j] (List.getElem?_eq_getElem hj);have e1:vs.getD j .nili=vs[j]:=by simp[List.getD_eq_getElem?_getD,hj]
  unfold World.cell? at h1;split at h1
  ·rename_i cs e fr hg;exact⟨cs,e,fr,hg,by rw[e1];simpa using h1⟩
  ·cases h1
 obtain⟨cs,e,fr,hg,h0⟩:=hc 0 hne
 have hall:∀j,j<vs.length->cs[lo+j]? = some ((vs.getD j .nili).den β):=fun j hj=>by
  obtain⟨cs',e',fr',hg',h1⟩:=hc j hj;rw[hg]at hg';cases hg';exact h1
 have hl0:lo+0<cs.size:=(Array.getElem?_eq_some_iff.1 h0).1;have hll:lo+(vs.length-1)<cs.size:=(Array.getElem?_eq_some_iff.1 (hall (vs.length-1) (by omega))).1;refine⟨e,cs.size-lo,cs,fr,hg,by omega,by simp only[if_true];omega,fun h=>(by cases h),hok,?_⟩;apply List.ext_getElem?;intro j;rw[List.getElem?_take,List.getElem?_drop,List.getElem?_map]
 by_cases hj:j<vs.length
 ·rw[if_pos hj,Array.getElem?_toList,hall j hj,List.getElem?_eq_getElem hj];simp[List.getD_eq_getElem?_getD,hj]
 ·rw[if_neg hj,List.getElem?_eq_none (by omega)];rfl
def aj.G5:aj->Bool
 | .dead=>true
 | .cells _ _ _ ro=>ro
 | _=>false
theorem aj.LI{o:aj}(h:o.G5=true):o.own=false:=by
 cases o with
 | dead=>rfl
 | cells vs e a ro=>cases ro<;>first|rfl|cases h
 | map es=>cases h
 | late L=>cases h
def MU(β : Env)(w:World)(i:Nat)(L:List (List XC)):Prop:=
 ∀ (k:Nat) (cs:List XC),L[k]? = some cs->(∀c∈cs,c.lI L.length=true)/\(cs≠[] ->
   ∃all e fr,w.heap[(lM (β.bD i) k)]? = some (.cells all e fr)/\(all.toList.drop (iU (β.bD i) k)).take cs.length=cs.map fun c=>(c.self i).den β)
theorem FJ{β : Env}{W:World}{hs:ah}(hb:hs.length<Mem.bound)(h:∀(i:Nat) (o:aj),hs[i]? = some o->eY β hs.length (β.base i) (β.size i) o W.heap[β.bD i]?)(ha:∀(i:Nat) (o:aj),hs[i]? = some o->o.G5=true\/∃L,o = .late L/\MU β W i L):Rel β (iT hs) W/\∀k,¬kT β (iT hs) k:=by
 have hm:=eU hs hb;have hn:=hm.n
 have no:∀i,i<(iT hs).n->((iT hs).get i).own=false:=fun i hi=>by
  rcases ha i _ (hm.get? hi)with e|⟨L,e,_⟩
  ·exact aj.LI e
  ·rw[e];rfl
 have hi:∀k,¬kT β (iT hs) k:=fun k ⟨i,hi,ho,_⟩=>by rw[no i hi]at ho;cases ho
 refine⟨⟨hm.bnd,hm.fresh,fun i hi=>?_,fun i j hi hj hoi _ _=>?_,fun i hi' L hL k cs hk=>?_⟩,hi⟩
 ·rw[hn];exact h i _ (hm.get? hi)
 ·rw[no i hi]at hoi;cases hoi
 ·rcases ha i _ (hm.get? hi')with e|⟨L',e,hl⟩
  ·rw[hL]at e;cases e
  ·rw[hL]at e;cases e;obtain⟨h1,h2⟩:=hl k cs hk;exact⟨h1,fun hne=>⟨hi _,h2 hne⟩⟩
theorem ER{f:FuncId}{args:List XV}{hs hs':ah}(hc:bq P f args hs (.one (.bool true)) hs'){β : Env}{W:World}(hb:hs.length<Mem.bound)(h:∀(i:Nat) (o:aj),hs[i]? = some o->eY β hs.length (β.base i) (β.size i) o W.heap[β.bD i]?)(ha:∀(i:Nat) (o:aj),hs[i]? = some o->o.G5=true\/∃L,o = .late L/\MU β W i L)
 {vs:List Value}(hv:da (aK β hs.length) args vs):Calls P f vs.toArray W fun e w'=>e = .returned (.bool true)/\Below W.heap.size W w':=by
 have hm:=eU hs hb;have hn:=hm.n;obtain⟨hr,hi⟩:=FJ hb h ha;refine(hc _ hm β W vs (by rw[hn];exact hv) hr).mono fun e w' ⟨u,β',m',he,_,hu,hst⟩=>?_
 refine⟨?_,hst.os,hst.tape,hst.output,hst.size,fun k hk=>hst.frame k hk (hi k)⟩;rw[he,hu.2];rfl
theorem Hn{f:FuncId}{args:List XV}{hs hs':ah}(hc:bq P f args hs (.one (.bool true)) hs'){β : Env}{W:World}(hb:hs.length<Mem.bound)(h:∀(i:Nat) (o:aj),hs[i]? = some o->eY β hs.length (β.base i) (β.size i) o W.heap[β.bD i]?)(hown:∀o∈hs,o.G5=true)
 {vs:List Value}(hv:da (aK β hs.length) args vs):Calls P f vs.toArray W fun e w'=>e = .returned (.bool true)/\Below W.heap.size W w':=
 ER hc hb h (fun i o ho => .inl (hown o (List.mem_of_getElem? ho))) hv
end Go.Xm
namespace Go.Xm
variable [ak]
variable {P:Program} {ops:Array Oper} {nt nI:Nat} {al:aN} {hs:ah} {o:Oper} {l:List Oper} {L:List az} {K:List Ab->aN->ah->Prop} {d:Nat}
def il(k:IntKind)(l:List Int):List XC:=l.map (.int k)
theorem bu(k:IntKind)(l:List Int):(il k l).length=l.length:=by simp[il]
theorem BU{k:IntKind}{l:List Int}{j:Nat}(h:j<l.length):(il k l)[j]? = some (.int k (l.getD j 0)):=by
 simp[il,h,List.getD_eq_getElem?_getD]
theorem HO(k:IntKind)(l:List Int)(j:Nat)(x:Int):(il k l).set j (.int k x)=il k (l.set j x):=by simp[il,List.map_set]
theorem rF(k:IntKind)(l m:List Int):il k l++il k m=il k (l++m):=by simp[il]
theorem N6(k:IntKind)(l:List Int)(τ : Nat->Nat):(il k l).map (·.aB τ)=il k l:=by simp[il,XC.aB]
theorem QS(k:IntKind)(l:List Int)(n:Nat):∀c∈il k l,c.ok n:=by
 intro c hc;obtain⟨x,_,rfl⟩:=List.mem_map.1 hc;trivial
class cu (o:aj):Prop where
 aB:∀τ,o.aB τ = o
 ok:∀n,o.bH n
class bZ (v:XV):Prop where
 aB:∀τ,v.aB τ = v
 ok:∀n,v.bH n
instance:cu .dead:=⟨fun _=>rfl,fun _=>trivial⟩
instance {k:IntKind} {l:List Int} {e:TypeId} {a b:Bool}:cu (.cells (il k l) e a b):=⟨fun τ=>by simp only[aj.aB,N6],fun n=>QS k l n⟩
instance {k:IntKind} {n:Nat} {f:Nat->Int} {e:TypeId} {a b:Bool}:cu (.cells (ti k n f) e a b):=⟨fun τ=>by simp[aj.aB,ti,XC.aB],fun n c hc=>by
 obtain⟨x,_,rfl⟩:=List.mem_map.1 hc
 trivial⟩
instance {k:IntKind} {z:Int}:bZ (.one (.int k z)):=⟨fun _=>rfl,fun _=>trivial⟩
instance {b:Bool}:bZ (.one (.bool b)):=⟨fun _=>rfl,fun _=>trivial⟩
instance {k:IntKind} {n:Nat} {f:Nat->Int}:bZ (.agg (ti k n f)):=⟨fun τ=>by simp[XV.aB,ti,XC.aB],fun n c hc=>by
 obtain⟨x,_,rfl⟩:=List.mem_map.1 hc
 trivial⟩
theorem iz{vs:List XC}{e:TypeId}{a b:Bool}(h:vs.all XC.shut=true):cu (.cells vs e a b):=
 ⟨fun τ=>by simp only[aj.aB,fW h],fun n c hc=>XC.aX (List.all_eq_true.1 h c hc) n⟩
theorem eI{v:XV}(h:v.shut=true):bZ v:=⟨fun τ=>XV.dQ h τ,fun n=>XV.ky h n⟩
def eg(k n sz:Nat):XC:=if n=0 then .nils else .slice k 0 n (.toEnd sz)
def iq(k n sz:Nat):XV := .one (eg k n sz)
def bR(e:TypeId)(cs:List XC):aj:=match cs with
 | [] => .dead
 | c::r => .cells (c::r) e true false
theorem aU(k n sz:Nat)(τ : Nat->Nat):(eg k n sz).aB τ = eg (τ k) n sz:=by unfold eg;split<;>rfl
theorem fR(k n sz:Nat)(τ : Nat->Nat):(iq k n sz).aB τ = iq (τ k) n sz:=congrArg XV.one (aU k n sz τ)
theorem aJ{k n sz m:Nat}(h:k<m):(eg k n sz).ok m:=by
 unfold eg;split
 ·exact trivial
 ·exact h
theorem jJ{k n sz m:Nat}(h:k<m):(iq k n sz).bH m:=aJ h
theorem TQ{a:X1}{n:Nat}(h:a.ok n):(XV.tup [a]).bH n:=fun x hx=>by
 simp only[List.mem_cons,List.not_mem_nil,or_false]at hx;subst hx;exact h
theorem LG{a b:X1}{n:Nat}(h:a.ok n)(h':b.ok n):(XV.tup [a,b]).bH n:=fun x hx=>by
 simp only[List.mem_cons,List.not_mem_nil,or_false]at hx
 rcases hx with rfl|rfl
 ·exact h
 ·exact h'
theorem cz{e:TypeId}{cs:List XC}(h:cs≠[]):bR e cs = .cells cs e true false:=by
 cases cs with
 | nil=>exact absurd rfl h
 | cons c r=>rfl
theorem fi{k n sz:Nat}(h:n≠0):iq k n sz = .one (.slice k 0 n (.toEnd sz)):=congrArg XV.one (if_neg h)
theorem AA{e:TypeId}{cs:List XC}(h:cs.all XC.shut=true):cu (bR e cs):=by
 cases cs with
 | nil=>exact⟨fun _=>rfl,fun _=>trivial⟩
 | cons c r=>exact iz h
theorem Lj(k:IntKind)(l:List Int):(il k l).all XC.shut=true:=by
 rw[List.all_eq_true];intro c hc;obtain⟨x,_,rfl⟩:=List.mem_map.1 hc;rfl
instance {e:TypeId} {k:IntKind} {l:List Int}:cu (bR e (il k l)):=AA (Lj k l)
inductive gy:List Nat->ah->List Nat->Prop where
 | nil:gy [] [] []
 | dead {i:Nat} {l q:List Nat} {hs:ah}:gy l hs q->gy (i::l) (.dead::hs) q
 | cons {i:Nat} {o:aj} {l q:List Nat} {hs:ah}:gy l hs q->gy (i::l) (o::hs) (i::q)
theorem gy.mem{l q:List Nat}{hs:ah}(h:gy l hs q):∀(i:Nat) (o:aj),hs[i]? = some o->o ≠ .dead->nth l i∈q:=by
 induction h with
 | nil=>intro i o h;simp at h
 | dead _ ih=>
   intro i o h ho
   cases i with
   | zero=>simp at h;exact absurd h.symm ho
   | succ i=>exact ih i o (by simpa using h) ho
 | cons _ ih=>
   intro i o h ho
   cases i with
   | zero=>exact List.mem_cons_self ..
   | succ i=>exact List.mem_cons_of_mem _ (ih i o (by simpa using h) ho)
theorem gy.inj{l q:List Nat}{hs:ah}(h:gy l hs q)(nd:q.Nodup):∀(i j:Nat) (a b:aj),hs[i]? = some a->hs[j]? = some b->a ≠ .dead->b ≠ .dead->nth l i=nth l j->i=j:=by
 induction h with
 | nil=>intro i j a b h;simp at h
 | dead _ ih=>
   intro i j a b hi hj ha hb he
   cases i with
   | zero=>simp at hi;exact absurd hi.symm ha
   | succ i=>
     cases j with
     | zero=>simp at hj;exact absurd hj.symm hb
     | succ j=>rw[ih nd i j a b (by simpa using hi) (by simpa using hj) ha hb he]
 | @cons k o l q hs hl ih=>
   intro i j a b hi hj ha hb he;rw[List.nodup_cons]at nd
   cases i with
   | zero=>
     cases j with
     | zero=>rfl
     | succ j=>
       have:=hl.mem j b (by simpa using hj) hb;rw[show nth l j=k from he.symm]at this;exact absurd this nd.1
   | succ i=>
     cases j with
     | zero=>
       have:=hl.mem i a (by simpa using hi) ha;rw[show nth l i=k from he]at this;exact absurd this nd.1
     | succ j=>rw[ih nd.2 i j a b (by simpa using hi) (by simpa using hj) ha hb he]
def Nd(l:List Nat)(hs:ah):Prop:=l.Nodup\/∃q,gy l hs q/\q.Nodup
theorem Nd.inj{l:List Nat}{hs:ah}(h:Nd l hs)(hlen:hs.length=l.length):∀(i j:Nat) (a b:aj),hs[i]? = some a->hs[j]? = some b->a ≠ .dead->b ≠ .dead->nth l i=nth l j->i=j:=by
 rcases h with h|⟨q,h,hq⟩
 ·intro i j a b hi hj _ _ hij;have hi:=(List.getElem?_eq_some_iff.1 hi).1;have hj:=(List.getElem?_eq_some_iff.1 hj).1;unfold nth at hij;have ha':i<l.length:=by omega
  have hb':j<l.length:=by omega
  rw[List.getD_eq_getElem?_getD,List.getD_eq_getElem?_getD,List.getElem?_eq_getElem ha',List.getElem?_eq_getElem hb']at hij;exact(List.getElem_inj h).1 hij
 ·exact h.inj hq
inductive af(τ : Nat->Nat)(HS:ah):List Nat->ah->Prop where
 | nil:af τ HS [] []
 | flat {i:Nat} {o:aj} {l:List Nat} {hs:ah} [cu o]:HS[i]? = some o->af τ HS l hs->af τ HS (i::l) (o::hs)
 | cons {i:Nat} {o:aj} {l:List Nat} {hs:ah}:HS[i]? = some (o.aB τ)->af τ HS l hs->af τ HS (i::l) (o::hs)
 | dead {i:Nat} {l:List Nat} {hs:ah}:Nat.blt i HS.length=true->af τ HS l hs->af τ HS (i::l) (.dead::hs)
theorem af.at{τ : Nat->Nat}{HS:ah}{l:List Nat}{hs:ah}(h:af τ HS l hs):hs.length=l.length/\∀(j:Nat) (o:aj),hs[j]? = some o->nth l j<HS.length/\(o = .dead\/HS[nth l j]? = some (o.aB τ)):=by
 induction h with
 | nil=>exact⟨rfl,fun j o h=>by simp at h⟩
 | @flat i o l hs inst h1 _ ih=>
   refine⟨by simp[ih.1],fun j o' hj=>?_⟩
   cases j with
   | zero=>simp at hj;subst hj;exact⟨(List.getElem?_eq_some_iff.1 h1).1,.inr (by rw[inst.aB];exact h1)⟩
   | succ j=>exact ih.2 j o' (by simpa using hj)
 | cons h1 _ ih=>
   refine⟨by simp[ih.1],fun j o' hj=>?_⟩
   cases j with
   | zero=>simp at hj;subst hj;exact⟨(List.getElem?_eq_some_iff.1 h1).1,.inr h1⟩
   | succ j=>exact ih.2 j o' (by simpa using hj)
 | dead h1 _ ih=>
   refine⟨by simp[ih.1],fun j o' hj=>?_⟩
   cases j with
   | zero=>simp at hj;subst hj;exact⟨by show _<_;rw[Nat.blt_eq]at h1;exact h1,.inl rfl⟩
   | succ j=>exact ih.2 j o' (by simpa using hj)
inductive ai(τ : Nat->Nat)(al:aN):aN->Prop where
 | nil:ai τ al []
 | flat {t:Nat} {v:XV} {r:aN} [bZ v]:rg al t=v->ai τ al r->ai τ al ((t,v)::r)
 | cons {t:Nat} {v:XV} {r:aN}:rg al t=v.aB τ->ai τ al r->ai τ al ((t,v)::r)
theorem ai.at{τ : Nat->Nat}{al al2:aN}(h:ai τ al al2)(t:Nat):rg al2 t = .undef\/rg al t=(rg al2 t).aB τ:=by
 induction h with
 | nil=>exact .inl rfl
 | @flat u v r inst h1 _ ih=>
   by_cases ht:t=u
   ·subst ht;right;simp only[rg,if_true];rw[inst.aB];exact h1
   ·simp only[rg,ht,if_false];exact ih
 | @cons u v r h1 _ ih=>
   by_cases ht:t=u
   ·subst ht;right;simp only[rg,if_true];exact h1
   ·simp only[rg,ht,if_false];exact ih
inductive aw(n:Nat):ah->Prop where
 | nil:aw n []
 | flat {o:aj} {hs:ah} [cu o]:aw n hs->aw n (o::hs)
 | cons {o:aj} {hs:ah}:o.bH n->aw n hs->aw n (o::hs)
theorem aw.at{n:Nat}{hs:ah}(h:aw n hs):∀o∈hs,o.bH n:=by
 induction h with
 | nil=>intro o h;cases h
 | @flat o hs inst _ ih=>
   intro x hx
   rcases List.mem_cons.1 hx with rfl|hx
   ·exact inst.ok n
   ·exact ih x hx
 | cons h1 _ ih=>
   intro x hx
   rcases List.mem_cons.1 hx with rfl|hx
   ·exact h1
   ·exact ih x hx
inductive jO(n:Nat):aN->Prop where
 | nil:jO n []
 | flat {t:Nat} {v:XV} {r:aN} [bZ v]:jO n r->jO n ((t,v)::r)
 | cons {t:Nat} {v:XV} {r:aN}:v.bH n->jO n r->jO n ((t,v)::r)
theorem jO.at{n:Nat}{al:aN}(h:jO n al)(t:Nat):(rg al t).bH n:=by
 induction h with
 | nil=>trivial
 | @flat u v r inst _ ih=>
   unfold rg;split
   ·exact inst.ok n
   ·exact ih
 | cons h1 _ ih=>
   unfold rg;split
   ·exact h1
   ·exact ih
structure sJ(nI:Nat)(al:aN)(hs:ah):Prop where
 le:Nat.ble nI hs.length=true
 bnd:Nat.blt hs.length Mem.bound=true
 objs:aw hs.length hs
 ij:jO hs.length al
structure GoTo(nI:Nat)(al:aN)(hs:ah)(al2:aN)(hs2:ah)(τl:List Nat):Prop where
 nd:Nd τl hs2
 hid:(List.range nI).all (fun j=>nth τl j==j)=true
 obj:af (nth τl) hs τl hs2
 reg:ai (nth τl) al al2
theorem WX.via{c:sd}{al2:aN}{hs2:ah}{K:ch}{τl:List Nat}(g:GoTo nI al hs al2 hs2 τl)(hk:sJ nI al2 hs2)(h:WX P nt nI c al2 hs2 K):WX P nt nI c al hs K:=by
 obtain⟨hlen,hobj⟩:=g.obj.at
 have hle:nI<=hs2.length:=Nat.le_of_ble_eq_true hk.le;refine WX.view (nth τl) ⟨fun j hj=>?_,fun i j a b hi hj ha hb hij=>g.nd.inj hlen i j a b hi hj ha hb hij,fun j o hj=>hk.objs.at o (List.mem_of_getElem? hj),fun j o hj=>(hobj j o hj).2⟩ (fun j hj=>?_) hle hk.bnd hk.ij.at g.reg.at h
 ·exact(hobj j _ (List.getElem?_eq_getElem hj)).1
 ·have:=List.all_eq_true.1 g.hid j (List.mem_range.2 hj);simpa using this
theorem WX.cj{σ : Type}{c:Code}{K:ch}(R : σ->aN)(H : σ->ah)(I : σ->Prop)(μ : σ->Nat)(s0 : σ)(h0:I s0)(hok:∀s,I s->sJ nI (R s) (H s)){τl:List Nat}(hin:GoTo nI al hs (R s0) (H s0) τl)
 (step:∀s,I s->(∀s' τl al' hs',GoTo nI al' hs' (R s') (H s') τl->I s' -> μ s' < μ s->WX P nt nI (.round c) al' hs' K)->WX P nt nI (.code c) (R s) (H s) (GN P nt nI c K)):WX P nt nI (.code (.loop c)) al hs K:=by
 refine WX.loop (WX.via hin (hok s0 h0) ?_)
 have:∀n s,μ s<=n->I s->WX P nt nI (.round c) (R s) (H s) K:=by
  intro n
  induction n with
  | zero=>intro s hs hI;exact WX.round (step s hI fun s' τl al' hs' _ _ h=>absurd h (by omega))
  | succ n ih=>intro s hs hI;exact WX.round (step s hI fun s' τl al' hs' g h' hlt=>WX.via g (hok s' h') (ih s' (by omega) h'))
 exact this (μ s0) s0 (Nat.le_refl _) h0
theorem WX.G4{σ : Type}{c:sd}{K:ch}(R : σ->aN)(H : σ->ah)(I : σ->Prop)(μ : σ->Nat)(s0 : σ)(h0:I s0)(hok:∀s,I s->sJ nI (R s) (H s)){τl:List Nat}(hin:GoTo nI al hs (R s0) (H s0) τl)
 (step:∀s,I s->(∀s' τl al' hs',GoTo nI al' hs' (R s') (H s') τl->I s' -> μ s' < μ s->WX P nt nI c al' hs' K)->WX P nt nI c (R s) (H s) K):WX P nt nI c al hs K:=by
 refine WX.via hin (hok s0 h0) ?_
 have:∀n s,μ s<=n->I s->WX P nt nI c (R s) (H s) K:=by
  intro n
  induction n with
  | zero=>intro s hs hI;exact step s hI fun s' τl al' hs' _ _ h=>absurd h (by omega)
  | succ n ih=>intro s hs hI;exact step s hI fun s' τl al' hs' g h' hlt=>WX.via g (hok s' h') (ih s' (by omega) h')
 exact this (μ s0) s0 (Nat.le_refl _) h0
theorem WX.meet{σ : Type}{a b:Code}{K:ch}(R : σ->aN)(H : σ->ah)(I : σ->Prop)(hok:∀s,I s->sJ nI (R s) (H s))(h1:WX P nt nI (.code a) al hs fun e al1 hs1=>e = .normal/\∃s τl,I s/\GoTo nI al1 hs1 (R s) (H s) τl)
 (h2:∀s,I s->WX P nt nI (.code b) (R s) (H s) K):WX P nt nI (.code (.seq a b)) al hs K:=
 WX.seq (h1.mono fun e al1 hs1 ⟨he,s,τl,hi,hg⟩=>by
  subst he
  exact WX.via hg (hok s hi) (h2 s hi))
theorem WX.Iq(id:Nat){σ : Type}{ops:Array Oper}{dr:Bool}{b:Code}{K:ch}(R : σ->aN)(H : σ->ah)(I : σ->Prop)(hok:∀s,I s->sJ nI (R s) (H s))(h1:WX P nt nI (.code (.region id ops dr)) al hs fun e al1 hs1=>e = .normal/\∃s τl,I s/\GoTo nI al1 hs1 (R s) (H s) τl)
 (h2:∀s,I s->WX P nt nI (.code b) (R s) (H s) K):WX P nt nI (.code (.seq (.region id ops dr) b)) al hs K:=WX.meet R H I hok h1 h2
theorem WX.Nf(id:Nat){σ : Type}{ops:Array Oper}{dr:Bool}{x b:Code}{K:ch}(R : σ->aN)(H : σ->ah)(I : σ->Prop)(hok:∀s,I s->sJ nI (R s) (H s))(h1:WX P nt nI (.code (.seq (.region id ops dr) x)) al hs fun e al1 hs1=>e = .normal/\∃s τl,I s/\GoTo nI al1 hs1 (R s) (H s) τl)
 (h2:∀s,I s->WX P nt nI (.code b) (R s) (H s) K):WX P nt nI (.code (.seq (.seq (.region id ops dr) x) b)) al hs K:=WX.meet R H I hok h1 h2
theorem af.ik{τ : Nat->Nat}{HS:ah}{i k k' n n' s:Nat}{rest:List XC}{e:TypeId}{a b:Bool}{l:List Nat}{hs:ah}(h:HS[i]? = some (.cells (eg k' n' s::rest) e a b))(hk : τ k=k')(hn:n'=n)(hr:rest.all XC.shut=true)(r:af τ HS l hs):af τ HS (i::l) (.cells (eg k n s::rest) e a b::hs):=by
 refine af.cons ?_ r;simp only[aj.aB,List.map_cons,aU,hk,<-hn,fW hr];exact h
theorem WX.fresh{c:sd}{K:ch}{o:aj}(ho:o = .dead\/o = .late [])(hb:Nat.blt hs.length Mem.bound=true)(h:WX P nt nI c al (hs++[o]) K):WX P nt nI c al hs K:=by
 intro βI mI wI hn m hm β w a Q hr hst hq;obtain⟨m',hp,hh,_⟩:=hm.push o (by simpa [Nat.blt_eq]using hb);obtain⟨p1,p2,p3,p4⟩:=Mem.br hp;have hnn:m'.get m.n=o:=by unfold Mem.get;rw[p3]
 have hold:∀i,i≠m.n->m'.get i=m.get i:=fun i hi=>by unfold Mem.get;rw[p4 i hi]
 have hb2:=hh.bnd
 have hno:o.own=false/\o.live=false:=by rcases ho with rfl|rfl<;>exact⟨rfl,rfl⟩
 have himg:∀k,kT β m' k->kT β m k:=fun k ⟨i,hi,hl,hb⟩=>by
  have e1:i≠m.n:=fun e=>by subst e;rw[hnn,hno.1]at hl;cases hl
  exact⟨i,by omega,by rw[hold i e1]at hl;exact hl,hb⟩
 have hrel:Rel β m' w:=by
  refine⟨hb2,hh.fresh,fun i hi=>?_,fun i j hi hj li lj hbb=>?_,fun i hi L hL=>?_⟩
  ·by_cases e:i=m.n
   ·subst e;rw[hnn];rcases ho with rfl|rfl<;>trivial
   ·rw[hold i e];exact(hst.rel.obj i (by omega)).ext (fun _ _=>⟨rfl,rfl,rfl⟩) (by omega)
  ·have e1:i≠m.n:=fun e=>by subst e;rw[hnn,hno.1]at li;cases li
   have e2:j≠m.n:=fun e=>by subst e;rw[hnn,hno.2]at lj;cases lj
   rw[hold i e1]at li;rw[hold j e2]at lj;exact hst.rel.inj i j (by omega) (by omega) li lj hbb
  ·by_cases e:i=m.n
   ·subst e;rw[hnn]at hL
    rcases ho with rfl|rfl
    ·cases hL
    ·cases hL;intro k cs hk;cases hk
   ·rw[hold i e]at hL;exact(hst.rel.late i (by omega) L hL).ig (by omega) (by omega) (Ext.refl _ _) (fun _ _ _=>rfl) fun k _=>himg k
 refine h βI mI wI hn m' hh β w a Q ?_ ?_ hq
 ·exact⟨hr.size,hr.small,fun t ht=>(hr.rel t ht).ext (fun _ _=>⟨rfl,rfl,rfl⟩) (by omega),hr.out⟩
 ·refine⟨by have:=hst.le;omega,hst.ext,hrel,hst.os,hst.tape,hst.output,hst.size,hst.frame,fun k hk hi=>hst.pY k hk (himg k hi),fun k hk ⟨i,hi,L,q,cs,e1,e2,e3⟩=>hst.vU k hk ?_⟩
  by_cases e:i=m.n
  ·subst e;rw[hnn]at e1
   rcases ho with rfl|rfl
   ·cases e1
   ·cases e1;cases e2
  ·exact⟨i,by omega,L,q,cs,by rw[<-hold i e];exact e1,e2,e3⟩
theorem WX.cq{c:sd}{K:ch}(hb:Nat.blt hs.length Mem.bound=true)(h:WX P nt nI c al (hs++[.dead]) K):WX P nt nI c al hs K:=WX.fresh (.inl rfl) hb h
theorem WX.ghost{c:sd}{K:ch}(hb:Nat.blt hs.length Mem.bound=true)(h:WX P nt nI c al (hs++[.late []]) K):WX P nt nI c al hs K:=WX.fresh (.inr rfl) hb h
end Go.Xm
