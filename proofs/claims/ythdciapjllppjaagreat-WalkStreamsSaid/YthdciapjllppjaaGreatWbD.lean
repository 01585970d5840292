/-
  A part of the proof: XwStep, XwOps, XwCall, XwK, XvBase, XvCall, XvInst, XvRule, XvMore, XvArg, XvFlow.
-/
import Derived.Test.YthdciapjllppjaaGreatWbC
set_option maxRecDepth 10000
set_option maxHeartbeats 8000000
set_option linter.unusedVariables false
set_option linter.unusedSectionVars false
set_option linter.unusedSimpArgs false
namespace Go.Xm
variable [aq]
structure Ab where
 eff:Bool
 fp:Option Nat
 ws:List Nat
def wv(d:Option Nat)(x:XV)(al:aO):aO:=
 match d with
 | some d=>(d,x)::al
 | .none=>al
theorem gB.wv{β : Env}{n nt:Nat}{al:aO}{a:Act}(h:gB β n nt (rg al) a.tmps)(d:Option Nat){x:XV}{v:Value}(hv:aL β n x v)(hd:∀t,d=some t->t<nt):gB β n nt (rg (Xm.wv d x al)) (a.put d v).tmps:=by
 have:=h.put d hv hd
 cases d with
 | none=>exact this
 | some d=>
   have e:(fun t=>if some d=some t then x else rg al t)=rg (Xm.wv (some d) x al):=by
    funext t
    simp only[Xm.wv,rg,Option.some.injEq,eq_comm (a:=d)]
   rw[e]at this;exact this
def aB(O:dm)(P:Program)(ops:Array Oper)(al:aO)(hs:aj)(o:Oper)(x:XV)(hs':aj)(b:Ab):Prop:=
 ∀m,a_ m hs->∃m',ji O P ops (rg al) o m=some ⟨x,m',b.eff,b.fp⟩/\a_ m' hs'/\∀j,j∉b.ws->(m'.f4 j).ver=(m.f4 j).ver
inductive mB(O:dm)(P:Program)(ops:Array Oper)(nt:Nat):List Oper->aO->aj->List Ab->aO->aj->Prop where
 | nil {al:aO} {hs:aj}:mB O P ops nt [] al hs [] al hs
 | cons {o:Oper} {l:List Oper} {al al':aO} {hs hs1 hs':aj} {x:XV} {b:Ab} {bs:List Ab}:aB O P ops al hs o x hs1 b->(∀d,o.dst=some d->d<nt)->mB O P ops nt l (wv o.dst x al) hs1 bs al' hs'->mB O P ops nt (o::l) al hs (b::bs) al' hs'
section
variable {O:dm} {P:Program} {ops:Array Oper} {nt nI:Nat}
theorem Gs(hO:aS P O){Q:Exit->Act->World->Prop}{l:List Oper}{al al':aO}{hs hs':aj}{bs:List Ab}(h:mB O P ops nt l al hs bs al' hs'):∀{m:Mem} {β : Env} {w:World} {a:Act},a_ m hs->gB β m.n nt (rg al) a.tmps->Rel β m w ->
 (∀m' a' β' w',a_ m' hs'->gB β' m'.n nt (rg al') a'.tmps->a'.defers=a.defers->Step β m w β' m' w'->Q .normal a' w')->wpList P ops Q l a w:=by
 induction h with
 | nil=>
   intro m β w a hm hr hw hq;exact hq m a β w hm hr rfl (Step.refl hw)
 | cons ho hd _ ih=>
   rename_i o l al al' hs hs1 hs' x b bs _;intro m β w a hm hr hw hq;obtain⟨m1,h1,h2,_⟩:=ho m hm;unfold ji at h1;unfold wpList;split at h1
   ·rename_i hwt;rw[if_pos (fG hwt hr)];refine .inl (sf hO h1 hw (fun x=>hr.eval x) a _ Q rfl fun u β' w' hu hst=>?_);refine ih h2 ((hr.ext hst.ext hst.le).wv o.dst hu hd) hst.rel fun m' a'' β'' w'' k1 k2 k3 k4=>?_
    exact hq m' a'' β'' w'' k1 k2 (by rw[k3,dM]) (hst.trans k4)
   ·rename_i hwt;simp only[Option.some.injEq,Out.mk.injEq]at h1;obtain⟨rfl,rfl,_,_⟩:=h1;have:=fG hwt hr;rw[if_neg (by simp[this])];refine ih h2 (hr.wv o.dst aL.skip hd) hw fun m' a'' β'' w'' k1 k2 k3 k4=>?_
    exact hq m' a'' β'' w'' k1 k2 (by rw[k3,dM]) k4
   ·cases h1
theorem WX.plain(hO:aS P O){id:Nat}{al al':aO}{hs hs':aj}{bs:List Ab}{K:cu}(h:mB O P ops nt ops.toList al hs bs al' hs')(hk:K .normal al' hs'):WX P nt nI (.code (.region id ops false)) al hs K:=
 fun _ _ _ _ _ hm _ _ _ _ hr hw hq=>wp_region_list (Gs hO h hm hr hw.rel fun m' a' β' w' k1 k2 k3 k4=>hq .normal al' hs' m' hk k1 a' β' w' k2 k3 (hw.trans k4))
theorem sw(g:Nat->XV)(nt:Nat)(hn:nt<1000000)(ho:∀t,nt<=t->g t = .undef):∃r:T XV,∀t,r.get .undef t=g t:=by
 have : ∀k,k<=nt->∃r:T XV,∀t,r.get .undef t=if t<k then g t else .undef:=by
  intro k
  induction k with
  | zero=>intro _;exact⟨.leaf,fun t=>by simp[T.eO]⟩
  | succ k ih=>
    intro hk;obtain⟨r,hr⟩:=ih (by omega);refine⟨r.set .undef 31 k (g k),fun t=>?_⟩
    by_cases ht:t=k
    ·subst ht;rw[T.f5 _ _ _ _ _ (by omega)];simp
    ·rw[T.fg _ _ _ _ _ _ ht,hr t]
     by_cases h1:t<k
     ·rw[if_pos h1,if_pos (by omega)]
     ·rw[if_neg h1,if_neg (by omega)]
 obtain⟨r,hr⟩:=this nt (Nat.le_refl _);refine⟨r,fun t=>?_⟩;rw[hr t];split
 ·rfl
 ·exact(ho t (by omega)).symm
def I4(bs:List Nat)(i:Nat)(di:Ab)(e:Nat)(de:Ab):Bool:=
 !de.eff||i==e||((!(di.eff&&decide (e<i))||bit bs i e)&&
  (match di.fp with
    | .none=>true
    | some fp=>bit bs i e||bit bs e i||!(de.ws.contains fp)))
def wY(bs:List Nat)(tr:List Ab):Bool:=
 (List.range tr.length).all fun i=>match tr[i]? with
   | .none=>true
   | some di=>(!di.eff&&di.fp.isNone)||(List.range tr.length).all fun e=>match tr[e]? with
     | .none=>true
     | some de=>I4 bs i di e de
def N3:List (Mem×Out)->List Ab->Prop:=dj fun p b=>p.2.eff=b.eff/\p.2.fp=b.fp/\∀j,j∉b.ws->(p.2.m.f4 j).ver=(p.1.f4 j).ver
theorem dj.get?{α γ : Type}{R : α -> γ->Prop}:∀{l:List α} {k:List γ},dj R l k->∀(i:Nat) (a : α),l[i]? = some a->∃b,k[i]? = some b/\R a b
 | _,_,.nil,i,a,h=>by simp at h
 | _,_,.cons h t,0,a,h1=>by simp at h1;subst h1;exact⟨_,rfl,h⟩
 | _,_,.cons h t,i+1,a,h1=>by simp at h1;exact t.get? i a h1
theorem Fh{bs:List Nat}{tr:List (Mem×Out)}{ab:List Ab}(ht:N3 tr ab)(h:wY bs ab=true):jq bs tr=true:=by
 have hl:tr.length=ab.length:=dj.length ht;unfold wY at h;unfold jq;rw[List.all_eq_true]at h ⊢;intro i hi;have hi':=h i (by rw[<-hl];exact hi);split
 ·rfl
 ·rename_i mi di hdi;obtain⟨bi,hb,h1,h2,_⟩:=dj.get? ht i _ hdi;simp only at h1 h2;rw[hb]at hi';simp only[Bool.or_eq_true]at hi' ⊢;rw[h1,h2]
  rcases hi' with hi'|hi'
  ·exact .inl hi'
  ·refine .inr (List.all_eq_true.2 fun e he=>?_);have he':=List.all_eq_true.1 hi' e (by rw[<-hl];exact he);split
   ·rfl
   ·rename_i me de hde;obtain⟨be,hbe,k1,k2,k3⟩:=dj.get? ht e _ hde;simp only at k1 k2 k3;rw[hbe]at he';unfold iE;unfold I4 at he';rw[h1,h2,k1];simp only[Bool.or_eq_true,Bool.and_eq_true]at he' ⊢
    rcases he' with he'|⟨ha,hb'⟩
    ·exact .inl he'
    ·refine .inr ⟨ha,?_⟩
     cases hf:bi.fp with
     | none=>rfl
     | some fp=>
       rw[hf]at hb';simp only[Bool.or_eq_true]at hb' ⊢
       rcases hb' with hb'|hb'
       ·exact .inl hb'
       ·refine .inr ?_;have:fp∉be.ws:=by simpa using hb'
        rw[k3 fp this];simp
theorem M6{r:T XV}{al:aO}(hr:∀t,r.get .undef t=rg al t)(hn:nt<1000000)(d:Option Nat)(x:XV)(hd:∀t,d=some t->t<nt):∀t,(nE nt r d x).get .undef t=rg (wv d x al) t:=by
 intro t
 cases d with
 | none=>exact hr t
 | some d=>
   have:=hd d rfl;simp only[nE,this,if_true,wv,rg]
   by_cases ht:t=d
   ·subst ht;rw[T.f5 _ _ _ _ _ (by omega),if_pos rfl]
   ·rw[T.fg _ _ _ _ _ _ ht,if_neg ht];exact hr t
theorem qX(hn:nt<1000000){l:List Oper}{al al':aO}{hs hs':aj}{bs:List Ab}(h:mB O P ops nt l al hs bs al' hs'):∀{m:Mem} {r:T XV},a_ m hs->(∀t,r.get .undef t=rg al t) ->
 ∃tr r' m',jc O P ops nt l r m=some (tr,r',m')/\(∀t,r'.get .undef t=rg al' t)/\a_ m' hs'/\N3 tr bs:=by
 induction h with
 | nil=>
   intro m r hm hr;exact⟨[],r,m,rfl,hr,hm,.nil⟩
 | cons ho hd _ ih=>
   rename_i o l al al' hs hs1 hs' x b bs _;intro m r hm hr;obtain⟨m1,h1,h2,h3⟩:=ho m hm;have e:(fun t=>r.get .undef t)=rg al:=funext hr;obtain⟨tr,r',m',k1,k2,k3,k4⟩:=ih h2 (M6 hr hn o.dst x hd);refine⟨(m,⟨x,m1,b.eff,b.fp⟩)::tr,r',m',?_,k2,k3,.cons ⟨rfl,rfl,h3⟩ k4⟩;unfold jc;have h1':ji O P ops (r.get .undef) o m=some ⟨x,m1,b.eff,b.fp⟩:=by rw[show(r.get .undef)=rg al from e];exact h1
   rw[h1'];simp only[k1]
theorem WX.drawn(hO:aS P O)(hP:P.follows .mixedOrders=true){id:Nat}{al al':aO}{hs hs':aj}{bs:List Ab}{K:cu}(hst:da ops nt (iQ ops.toList)=true)(h:mB O P ops nt ops.toList al hs bs al' hs')(hdy:wY (iQ ops.toList) bs=true)
 (hk:K .normal al' hs'):WX P nt nI (.code (.region id ops true)) al hs K:=by
 intro βI mI wI hn m hm β w a Q hr hw hq;obtain⟨r,hrr⟩:=sw (rg al) nt hr.small hr.out;obtain⟨tr,r',m',h1,h2,h3,h4⟩:=qX hr.small h hm hrr
 have hx:kQ O P ops nt r m=some (r',m'):=by
  refine vM ?_;unfold iN;rw[if_pos hst,h1];simp only[];rw[if_pos (Fh h4 hdy)]
 have e:(r.get .undef)=rg al:=funext hrr;have e':(r'.get .undef)=rg al':=funext h2;refine xN hO hP hx (by unfold lV;rw[e];exact hr) hw.rel fun a' β' w' k1 k2 k3=>?_
 unfold lV at k1;rw[e']at k1;exact hq .normal al' hs' m' hk h3 a' β' w' k1 k2 (hw.trans k3)
end
end Go.Xm
namespace Go.Xm
variable [aq]
theorem a_.at{m:Mem}{hs:aj}(h:a_ m hs){i:Nat}{o:ak}(ho:hs[i]? = some o):m.get i=o:=by
 have hi:i<m.n:=by
  have:=(List.getElem?_eq_some_iff.1 ho).1;rw[h.n];exact this
 rw[h.get i hi,List.getD_eq_getElem?_getD,ho];rfl
theorem a_.lt{m:Mem}{hs:aj}(h:a_ m hs){i:Nat}{o:ak}(ho:hs[i]? = some o):i<m.n/\i<Mem.bound:=by
 have:=(List.getElem?_eq_some_iff.1 ho).1;have h1:=h.n;have h2:=h.bnd;omega
theorem a_.put{m:Mem}{hs:aj}(h:a_ m hs){i:Nat}{o:ak}(ho:hs[i]? = some o)(o':ak):a_ (m.put i o') (hs.set i o'):=by
 obtain⟨h1,h2⟩:=h.lt ho;refine⟨by rw[Mem.dZ,List.length_set];exact h.n,by rw[Mem.dZ];exact h.bnd,cg.put h.fresh o',fun j hj=>?_⟩;rw[Mem.dZ]at hj
 by_cases hji:j=i
 ·subst hji;rw[Mem.ff m o' h1 h2];have:j<hs.length:=by rw[<-h.n];exact hj
  simp[List.getD_eq_getElem?_getD,this]
 ·rw[Mem.ek m o' hji,h.get j hj];simp[List.getD_eq_getElem?_getD,List.getElem?_set_ne (Ne.symm hji)]
theorem tv{m:Mem}{i:Nat}{o:ak}:∀j,j∉[i]->((m.put i o).f4 j).ver=(m.f4 j).ver:=by
 intro j hj;rw[Mem.gY m o (by simpa using hj)]
theorem a_.push{m:Mem}{hs:aj}(h:a_ m hs)(o:ak)(hb:hs.length<Mem.bound):∃m',m.push o=some m'/\a_ m' (hs++[o])/\∀j,j∉[hs.length]->(m'.f4 j).ver=(m.f4 j).ver:=by
 have hn:=h.n
 obtain⟨m',hp⟩:∃m',m.push o=some m':=by
  unfold Mem.push;rw[if_pos (by omega)];exact⟨_,rfl⟩
 obtain⟨_,h2,h3,h4⟩:=Mem.bu hp;refine⟨m',hp,⟨by rw[h2,hn];simp,by omega,cg.push h.fresh hp,fun j hj=>?_⟩,fun j hj=>?_⟩
 ·by_cases hjn:j=m.n
  ·subst hjn;unfold Mem.get;rw[h3,hn];simp[List.getD_eq_getElem?_getD]
  ·have:m'.get j=m.get j:=by unfold Mem.get;rw[h4 j hjn]
   rw[this,h.get j (by omega),List.getD_eq_getElem?_getD,List.getD_eq_getElem?_getD,List.getElem?_append_left (by omega)]
 ·rw[h4 j (by rw[hn];simpa using hj)]
section
variable {O:dm} {P:Program} {ops:Array Oper} {al:aO} {hs:aj} {o:Oper}
abbrev quiet:Ab:=⟨false,.none,[]⟩
theorem aB.skip(hw:aw ops (rg al) o=some false):aB O P ops al hs o (.tup []) hs quiet:=
 fun m hm=>⟨m,by unfold ji;rw[hw],hm,fun _ _=>rfl⟩
theorem aB.pure(hw:aw ops (rg al) o=some true){x:XV}(h:aZ P (af (rg al)) o.op=some x):aB O P ops al hs o x hs quiet:=
 fun m hm=>⟨m,by unfold ji;rw[hw];simp only[dG,dJ,h],hm,fun _ _=>rfl⟩
theorem mh(hop:aZ P (af (rg al)) o.op = .none)(hx:qf O (af (rg al)) o.op = .none){i:Nat}{f:ak->Option XV}(hr:eX P (af (rg al)) o.op=some (i,f)){x:XV}{m:Mem}(hf:f (m.get i)=some x) :
 dG O P (af (rg al)) o.op m=some ⟨x,m,false,some i⟩:=by
 simp only[dG,dJ,hop,hx,hr,hf]
theorem aB.load(hw:aw ops (rg al) o=some true){t:TypeId}{a:Operand}(ho:o.op = .load t a){i off:Nat}(ha:af (rg al) a = .one (.ptr i off)){vs:List XC}{e:TypeId}{opn ro:Bool}(hi:hs[i]? = some (.cells vs e opn ro)){x:X1}(hl:dC P t vs off=some x) :
 aB O P ops al hs o x.p6 hs ⟨false,some i,[]⟩:=by
 intro m hm;refine⟨m,?_,hm,fun _ _=>rfl⟩;unfold ji;rw[hw]
 obtain⟨f,hf1,hf2⟩:∃f,eX P (af (rg al)) o.op=some (i,f)/\∀vs' e' o' r',f (.cells vs' e' o' r')=(dC P t vs' off).map X1.p6:=by
  rw[ho];simp only[eX,ha];exact⟨_,rfl,fun _ _ _ _=>rfl⟩
 refine mh (by rw[ho];rfl) (by rw[ho];rfl) hf1 ?_;rw[hm.at hi,hf2,hl];rfl
theorem Ac{t:TypeId}{vs:List XC}{off:Nat}{c:XC}(h:fM P t=some false)(hc:vs[off]? = some c):dC P t vs off=some (.one c):=by
 unfold dC;rw[h,hc]
theorem Aa{t:TypeId}{vs:List XC}(h:fM P t=some true)(hs:bT P t=some vs.length):dC P t vs 0=some (.agg vs):=by
 unfold dC;rw[h,hs];simp
theorem ct(hop:aZ P (af (rg al)) o.op = .none)(hx:qf O (af (rg al)) o.op = .none)(hr:eX P (af (rg al)) o.op = .none){x:XV}{m m':Mem}(hf:cf P (af (rg al)) o.op m=some (x,m')) :
 dG O P (af (rg al)) o.op m=some ⟨x,m',true,.none⟩:=by
 simp only[dG,dJ,hop,hx,hr,hf]
theorem aB.store(hw:aw ops (rg al) o=some true){t:TypeId}{a y:Operand}(ho:o.op = .store t a y){i off:Nat}(ha:af (rg al) a = .one (.ptr i off)){cs:List XC}(hy:cQ (af (rg al) y)=some cs)(hsz:bT P t=some cs.length)
 {vs:List XC} {e:TypeId} {opn:Bool}(hi:hs[i]? = some (.cells vs e opn false)) (hle:off+cs.length<=vs.length) {vs':List XC}(hv:vs.take off++cs++vs.drop (off+cs.length)=vs') :
 aB O P ops al hs o (.tup []) (hs.set i (.cells vs' e opn false)) ⟨true,.none,[i]⟩:=by
 intro m hm;refine⟨m.put i (.cells vs' e opn false),?_,hm.put hi _,tv⟩;unfold ji;rw[hw];refine ct (by rw[ho];rfl) (by rw[ho];rfl) (by rw[ho];rfl) ?_;rw[ho];simp only[cf,kX,ha,hy,hsz,if_true,hm.at hi,if_pos hle,hv]
theorem Gv{vs:List XC}{off:Nat}{c:XC}(h:off<vs.length):vs.take off++[c]++vs.drop (off + [c].length)=vs.set off c:=by
 rw[List.set_eq_take_append_cons_drop,if_pos h];simp
theorem Gu{vs cs:List XC}(h:cs.length=vs.length):vs.take 0++cs++vs.drop (0+cs.length)=cs:=by simp[h]
theorem aB.alloc(hw:aw ops (rg al) o=some true){t:TypeId}(ho:o.op = .alloc t){zs:List XC}(hz:rq P t=some zs)(hb:Nat.blt hs.length Mem.bound=true) :
 aB O P ops al hs o (.one (.ptr hs.length 0)) (hs++[.cells zs t false false]) ⟨true,.none,[hs.length]⟩:=by
 intro m hm;obtain⟨m',h1,h2,h3⟩:=hm.push (.cells zs t false false) (by simpa [Nat.blt_eq]using hb);refine⟨m',?_,h2,h3⟩;unfold ji;rw[hw];refine ct (by rw[ho];rfl) (by rw[ho];rfl) (by rw[ho];rfl) ?_;rw[ho];simp only[cf,oD,hz,y8,h1,hm.n]
theorem aB.box(hw:aw ops (rg al) o=some true){t:TypeId}{y:Operand}(ho:o.op = .box t y){cs:List XC}(hy:cQ (af (rg al) y)=some cs)(hb:Nat.blt hs.length Mem.bound=true) :
 aB O P ops al hs o (.one (.ptr hs.length 0)) (hs++[.cells cs t false false]) ⟨true,.none,[hs.length]⟩:=by
 intro m hm;obtain⟨m',h1,h2,h3⟩:=hm.push (.cells cs t false false) (by simpa [Nat.blt_eq]using hb);refine⟨m',?_,h2,h3⟩;unfold ji;rw[hw];refine ct (by rw[ho];rfl) (by rw[ho];rfl) (by rw[ho];rfl) ?_;rw[ho];simp only[cf,GS,hy,y8,h1,hm.n]
theorem aB.bin(hw:aw ops (rg al) o=some true){op:BinOp}{t t':TypeId}{a b:Operand}(ho:o.op = .binOp op t a b t'){k k':IntKind}{x y:Int}(ha:af (rg al) a = .one (.int k x))(hb:af (rg al) b = .one (.int k' y)){c:XC}(hc:bE op k k' x y=some c) :
 aB O P ops al hs o (.one c) hs quiet:=
 aB.pure hw (by rw[ho];simp only[aZ,s5,ha,hb,hc,Option.map_some])
theorem DB{k:IntKind}{x y z:Int}(hy:y≠0)(h:x.tmod y=z):bE .rem k k x y=some (.int k z):=by simp only[bE,dW,if_true,hy,if_false,h]
theorem aB.index(hw:aw ops (rg al) o=some true){t:TypeId}{a b:Operand}(ho:o.op = .indexAddr t a b){i off s len j:Nat}{elem:TypeId}(ha:af (rg al) a = .one (.ptr i off)){k:IntKind}(hb:af (rg al) b = .one (.int k (j:Nat)))
 (ht:P.underlying t=some (.array len elem)) (hsz:bT P elem=some s) (hj:j<len) {p:Nat}(hp:off+j*s=p):aB O P ops al hs o (.one (.ptr i p)) hs quiet:=
 aB.pure hw (by
  rw[ho];have h1:(0:Int)<=(j:Int)/\(j:Int)<(len:Int):=by omega
  simp only[aZ,b_,ha,hb,ht,hsz,if_pos h1,Option.map_some,Int.toNat_natCast,hp])
theorem aB.elem(hw:aw ops (rg al) o=some true){t:TypeId}{a b:Operand}(ho:o.op = .index t a b){len j:Nat}{elem:TypeId}{cs:List XC}(ha:af (rg al) a = .agg cs){k:IntKind}(hb:af (rg al) b = .one (.int k (j:Nat)))
 (ht:P.underlying t=some (.array len elem)) (hsz:bT P elem=some 1) (hg:fM P elem=some false) (hj:j<len) {c:XC}(hc:cs[j]? = some c):aB O P ops al hs o (.one c) hs quiet:=
 aB.pure hw (by
  rw[ho];have h1:(0:Int)<=(j:Int)/\(j:Int)<(len:Int):=by omega
  simp only[aZ,qe,ha,hb,ht,hsz,if_pos h1,Int.toNat_natCast,Nat.mul_one,gz,hg,hc,Option.map_some,X1.p6])
theorem aB.call(hw:aw ops (rg al) o=some true){g:Operand}{args:Array Operand}{ts:Array TypeId}(ho:o.op = .call ⟨.value g,args,ts⟩){f:FuncId}(hg:af (rg al) g = .one (.fn f))(hcb:eV P f=true){vs:List XV}(ha:args.toList.map (af (rg al))=vs)
 {x:XV} {hs':aj} {ws:List Nat}(hc:∀m,a_ m hs->∃m',O.call f vs m=some (x,m')/\a_ m' hs'/\∀j,j∉ws->(m'.f4 j).ver=(m.f4 j).ver):aB O P ops al hs o x hs' ⟨true,.none,ws⟩:=by
 intro m hm;obtain⟨m',h1,h2,h3⟩:=hc m hm;refine⟨m',?_,h2,h3⟩;unfold ji;rw[hw]
 have e:c6 O P (af (rg al)) o.op m=some (x,m'):=by
  rw[ho];simp only[c6,hg,zo,hcb,if_true,List.map_nil,List.append_nil,ha,h1]
 have n1:aZ P (af (rg al)) o.op = .none:=by rw[ho];rfl
 have n2:qf O (af (rg al)) o.op = .none:=by rw[ho];rfl
 have n3:eX P (af (rg al)) o.op = .none:=by rw[ho];rfl
 have n4:cf P (af (rg al)) o.op m = .none:=by rw[ho];rfl
 simp only[dG,dJ,n1,n2,n3,n4,e]
end
end Go.Xm
namespace Go.Xm
variable [aq]
def mE:List XV->Nat->aO
 | [],_=>[]
 | x::l,i=>(i,x)::mE l (i+1)
theorem vf:∀(l:List XV) (i j:Nat),rg (mE l i) j=if i<=j/\j<i+l.length then l.getD (j-i) .undef else .undef
 | [],i,j=>by simp[mE,rg]
 | x :: l,i,j=>by
   simp only[mE,rg,List.length_cons]
   by_cases h:j=i
   ·subst h;rw[if_pos rfl,if_pos (by omega)];simp
   ·rw[if_neg h,vf l (i+1) j]
    by_cases h1:i+1<=j/\j<i+1+l.length
    ·rw[if_pos h1,if_pos (by omega)]
     obtain⟨k,hk⟩:∃k,j-i=k+1:=⟨j-i-1,by omega⟩
     rw[hk,show j-(i+1)=k by omega];rfl
    ·rw[if_neg h1,if_neg (by omega)]
def sU(P:Program)(fn:Func)(al:aO)(hs:aj)(v:XV):Prop:=∀m,a_ m hs->dA P fn (rg al) m=some v
theorem zV:a_ Mem.empty []:=⟨rfl,Nat.zero_le _,sA,fun i hi=>absurd hi (Nat.not_lt_zero i)⟩
def iU:aj->Mem
 | hs=>hs.foldl (fun m o=>(m.push o).getD m) Mem.empty
theorem eZ(hs:aj)(hb:hs.length<Mem.bound):a_ (iU hs) hs:=by
 have:∀(l k:aj) (m:Mem),a_ m k->k.length+l.length<Mem.bound->a_ (l.foldl (fun m o=>(m.push o).getD m) m) (k++l):=by
  intro l
  induction l with
  | nil=>intro k m hm _;simpa using hm
  | cons o l ih=>
    intro k m hm hlen;simp only[List.length_cons]at hlen;obtain⟨m',h1,h2,_⟩:=hm.push o (by omega);simp only[List.foldl_cons,h1,Option.getD_some];have:=ih (k++[o]) m' h2 (by simp;omega);simpa using this
 have h:=this hs [] Mem.empty zV (by simpa using hb);simpa [iU]using h
def Tb(P:Program)(f:FuncId)(args:List XV)(v:XV):Prop:=∀m,d8 P f args m v m
theorem mL{P:Program}{r:x4}(h:r.Te P):Tb P r.f r.args r.v:=by
 obtain⟨h1,m',h2⟩:=h;simp only[x4.JE,Bool.and_eq_true,List.all_eq_true]at h1;exact fun m=>forget h2 h1.1 h1.2 m
end Go.Xm
namespace Go.Xm
variable [aq]
def nO(O:dm)(P:Program)(ops:Array Oper)(nt:Nat)(l:List Oper)(al:aO)(hs:aj)(K:List Ab->aO->aj->Prop):Prop:=
 ∃bs al' hs',mB O P ops nt l al hs bs al' hs'/\K bs al' hs'
section
variable {O:dm} {P:Program} {ops:Array Oper} {nt nI:Nat} {al:aO} {hs:aj} {o:Oper}
theorem nO.nil{K:List Ab->aO->aj->Prop}(h:K [] al hs):nO O P ops nt [] al hs K:=⟨[],al,hs,.nil,h⟩
theorem nO.cons{o:Oper}{l:List Oper}{x:XV}{hs1:aj}{b:Ab}{K:List Ab->aO->aj->Prop}(h:aB O P ops al hs o x hs1 b)(hd:(match o.dst with | .none=>true|some d=>decide (d<nt))=true)
 (hk:nO O P ops nt l (wv o.dst x al) hs1 fun bs=>K (b::bs)):nO O P ops nt (o::l) al hs K:=by
 obtain⟨bs,al',hs',h1,h2⟩:=hk;exact⟨b::bs,al',hs',.cons h (fun d hd'=>by rw[hd']at hd;exact of_decide_eq_true hd) h1,h2⟩
theorem WX.Ss(hO:aS P O){id:Nat}{K:cu}(h:nO O P ops nt ops.toList al hs fun _ al' hs'=>K .normal al' hs'):WX P nt nI (.code (.region id ops false)) al hs K:=by
 obtain⟨bs,al',hs',h1,h2⟩:=h;exact WX.plain hO h1 h2
theorem WX.QS(hO:aS P O)(hP:P.follows .mixedOrders=true){id:Nat}{K:cu}(hst:da ops nt (iQ ops.toList)=true)(h:nO O P ops nt ops.toList al hs fun bs al' hs'=>wY (iQ ops.toList) bs=true/\K .normal al' hs'):WX P nt nI (.code (.region id ops true)) al hs K:=by
 obtain⟨bs,al',hs',h1,h2,h3⟩:=h;exact WX.drawn hO hP hst h1 h2 h3
theorem WX.at{c:sn}{al':aO}{hs':aj}{K:cu}(hl:zp al' al)(hh:hs=hs')(h:WX P nt nI c al' hs' K):WX P nt nI c al hs K:=by
 subst hh;exact WX.less hl h
theorem WX.count{c:Code}{K:cu}(R:Nat->aO)(H:Nat->aj)(I:Nat->Prop)(N:Nat)(h0:I 0)
 (step:∀i,i<=N->I i->(i<N->I (i+1)->WX P nt nI (.round c) (R (i+1)) (H (i+1)) K)->WX P nt nI (.round c) (R i) (H i) K):WX P nt nI (.round c) (R 0) (H 0) K:=by
 have:∀d i,i+d=N->I i->WX P nt nI (.round c) (R i) (H i) K:=by
  intro d
  induction d with
  | zero=>intro i hi h;exact step i (by omega) h fun hlt=>absurd hlt (by omega)
  | succ d ih=>intro i hi h;exact step i (by omega) h fun hlt h'=>ih (i+1) (by omega) h'
 exact this N 0 (by omega) h0
theorem aB.conv(hw:aw ops (rg al) o=some true){s d:TypeId}{y:Operand}(ho:o.op = .convert s d y){k k':IntKind}{x z:Int}(hy:af (rg al) y = .one (.int k x))(hc:kP P s d (.one (.int k x))=some (.one (.int k' (iW k' x))))(hz:k'.wrap x=z) :
 aB O P ops al hs o (.one (.int k' z)) hs quiet:=
 aB.pure hw (by rw[ho];simp only[aZ,hy,hc,cj,hz])
theorem sU.tmp{fn:Func}{a:Nat}{y:X1}(hr:fn.results.toList = [.tmp a])(ha:p9 (rg al a)=some y):sU P fn al hs y.p6:=by
 intro m hm;unfold dA;rw[hr];simp only[gk,vT,ha]
end
end Go.Xm
namespace Go.Xm
class aH (P:Program) (t:TypeId) (s:outParam Nat):Prop where out:bT P t=some s
class cR (P:Program) (t:TypeId):Prop where out:fM P t=some false
class dk (P:Program) (t:TypeId):Prop where out:fM P t=some true
class aM (P:Program) (t:TypeId) (zs:outParam (List XC)):Prop where out:rq P t=some zs
class aQ (P:Program) (t:TypeId) (d:outParam TypeDesc):Prop where out:P.underlying t=some d
class cC (P:Program) (t:TypeId) (l:outParam (List (Nat×Nat))):Prop where out:∃fs,P.underlying t=some (.struct fs)/\pc P fs.toList=some l
class bD (P:Program) (s:TypeId) (f:Nat) (ft:outParam TypeId) (off:outParam Nat):Prop where out:(iO P s f).map (fun fd=>(fd.type,fd.offset))=some (ft,off)
theorem bD.ex{P:Program}{s:TypeId}{f:Nat}{ft:TypeId}{off:Nat}[h:bD P s f ft off]:∃fd,iO P s f=some fd/\fd.type=ft/\fd.offset=off:=by
 obtain⟨fd,h1,h2⟩:=Option.map_eq_some_iff.1 h.out;cases h2;exact⟨fd,h1,rfl,rfl⟩
def ti(k:IntKind)(n:Nat)(f:Nat->Int):List XC:=(List.range n).map fun i => .int k (f i)
def fY(f:Nat->Int)(j:Nat)(x:Int)(i:Nat):Int:=if i=j then x else f i
theorem aU(k:IntKind)(n:Nat)(f:Nat->Int):(ti k n f).length=n:=by simp[ti]
theorem jM{k:IntKind}{n:Nat}{f:Nat->Int}{j:Nat}(h:j<n):(ti k n f)[j]? = some (.int k (f j)):=by simp[ti,h]
theorem r9(k:IntKind)(n:Nat)(f:Nat->Int)(j:Nat)(x:Int):(ti k n f).set j (.int k x)=ti k n (fY f j x):=by
 apply List.ext_getElem?;intro i;rw[List.getElem?_set]
 by_cases hj:j=i
 ·subst hj
  by_cases hn:j<n
  ·rw[if_pos rfl,if_pos (by rw[aU];exact hn),jM hn];simp[fY]
  ·rw[if_pos rfl,if_neg (by rw[aU];exact hn),List.getElem?_eq_none (by rw[aU];omega)]
 ·rw[if_neg hj]
  by_cases hn:i<n
  ·rw[jM hn,jM hn];simp[fY,Ne.symm hj]
  ·rw[List.getElem?_eq_none (by rw[aU];omega),List.getElem?_eq_none (by rw[aU];omega)]
theorem kL{k:IntKind}{n:Nat}{f g:Nat->Int}(h:∀i,i<n->f i=g i):ti k n f=ti k n g:=by
 unfold ti;exact List.map_congr_left fun i hi=>by rw[h i (List.mem_range.1 hi)]
end Go.Xm
namespace Go.Xm
def XC.aC(τ : Nat->Nat):XC->XC
 | .ptr i off => .ptr (τ i) off
 | .slice i off len cap => .slice (τ i) off len cap
 | .map i => .map (τ i)
 | .lsl g k off len fl cut => .lsl (τ g) k off len fl cut
 | .lpt g k off => .lpt (τ g) k off
 | .bind g c => .bind (g.aC τ) (c.aC τ)
 | c=>c
def X1.aC(τ : Nat->Nat):X1->X1
 | .one c => .one (c.aC τ)
 | .agg cs => .agg (cs.map (·.aC τ))
def XV.aC(τ : Nat->Nat):XV->XV
 | .undef => .undef
 | .one c => .one (c.aC τ)
 | .agg cs => .agg (cs.map (·.aC τ))
 | .tup xs => .tup (xs.map (·.aC τ))
def ak.aC(τ : Nat->Nat):ak->ak
 | .dead => .dead
 | .late L => .late L
 | .cells vs e opn ro => .cells (vs.map (·.aC τ)) e opn ro
 | .map es => .map (es.map fun p=>(p.1.aC τ,p.2.aC τ))
def XV.bK(n:Nat):XV->Prop
 | .undef=>True
 | .one c=>c.ok n
 | .agg cs=>∀c∈cs,c.ok n
 | .tup xs=>∀x∈xs,x.ok n
def ak.bK(n:Nat):ak->Prop
 | .dead=>True
 | .late _=>True
 | .cells vs _ _ _=>∀c∈vs,c.ok n
 | .map es=>∀p∈es,p.1.ok n/\p.2.ok n
theorem XC.mW{τ : Nat->Nat}{n N:Nat}(h:∀i,i<n -> τ i<N):∀{c:XC},c.ok n->(c.aC τ).ok N:=by
 intro c
 induction c with
 | ptr i off=>exact fun h'=>h i h'
 | slice i off len cap=>exact fun h'=>h i h'
 | map i=>exact fun h'=>h i h'
 | lsl g k off len fl cut=>exact fun h'=>h g h'
 | lpt g k off=>exact fun h'=>h g h'
 | bind g c ih1 ih2=>exact fun h'=>⟨ih1 h'.1,ih2 h'.2⟩
 | _=>intro _;trivial
theorem X1.mW{τ : Nat->Nat}{n N:Nat}(h:∀i,i<n -> τ i<N):∀{x:X1},x.ok n->(x.aC τ).ok N
 | .one _,h'=>XC.mW h h'
 | .agg cs,h'=>fun c hc=>by
   obtain⟨d,hd,rfl⟩:=List.mem_map.1 hc;exact XC.mW h (h' d hd)
variable [aq]
def BE(β β':Env)(τ : Nat->Nat)(n:Nat):Prop:=∀i,i<n -> β'.bG (τ i) = β.bG i /\ β'.size (τ i) = β.size i /\ β'.base (τ i) = β.base i
theorem XC.iy{β β':Env}{τ : Nat->Nat}{n:Nat}(h:BE β β' τ n):∀{c:XC},c.ok n->(c.aC τ).den β'=c.den β:=by
 intro c
 induction c with
 | ptr i off=>intro h';simp only[XC.aC,XC.den,(h i h').1,(h i h').2.2]
 | slice i off len cap=>intro h';cases cap<;>simp only[XC.aC,XC.den,(h i h').1,(h i h').2.1,(h i h').2.2]
 | map i=>intro h';simp only[XC.aC,XC.den,(h i h').1]
 | lsl g k off len fl cut=>intro h';simp only[XC.aC,XC.den,(h g h').1]
 | lpt g k off=>intro h';simp only[XC.aC,XC.den,(h g h').1]
 | bind g c ih1 ih2=>intro h';simp only[XC.aC,XC.den,ih1 h'.1,ih2 h'.2]
 | _=>intro _;rfl
theorem gK{β β':Env}{τ : Nat->Nat}{n:Nat}(h:BE β β' τ n){cs:List XC}(hc:∀c∈cs,c.ok n):(cs.map (·.aC τ)).map (·.den β')=cs.map (·.den β):=by
 rw[List.map_map];exact List.map_congr_left fun c hm=>XC.iy h (hc c hm)
theorem X1.iy{β β':Env}{τ : Nat->Nat}{n:Nat}(h:BE β β' τ n):∀{x:X1},x.ok n->(x.aC τ).den β'=x.den β
 | .one _,h'=>XC.iy h h'
 | .agg cs,h'=>by simp only[X1.aC,X1.den,gK h h']
theorem aL.aC{β β':Env}{τ : Nat->Nat}{n N:Nat}(h:BE β β' τ n)(hb:∀i,i<n -> τ i<N){x:XV}{v:Value}(hr:aL β n x v):aL β' N (x.aC τ) v:=by
 cases x with
 | undef=>trivial
 | one c=>exact⟨XC.mW hb hr.1,hr.2.trans (XC.iy h hr.1).symm⟩
 | agg cs=>
   refine⟨fun c hc=>?_,hr.2.trans (by rw[gK h hr.1])⟩;obtain⟨d,hd,rfl⟩:=List.mem_map.1 hc;exact XC.mW hb (hr.1 d hd)
 | tup xs=>
   refine⟨fun c hc=>?_,hr.2.trans ?_⟩
   ·obtain⟨d,hd,rfl⟩:=List.mem_map.1 hc;exact X1.mW hb (hr.1 d hd)
   ·rw[List.map_map];exact congrArg (fun l=>Value.tuple (List.toArray l)) (List.map_congr_left fun c hm=>(X1.iy h (hr.1 c hm)).symm)
theorem aL.xH{β β':Env}{τ : Nat->Nat}{n N:Nat}(h:BE β β' τ n){x:XV}(hx:x.bK n){v:Value}(hr:aL β' N (x.aC τ) v):aL β n x v:=by
 cases x with
 | undef=>trivial
 | one c=>exact⟨hx,hr.2.trans (XC.iy h hx)⟩
 | agg cs=>exact⟨hx,hr.2.trans (by rw[gK h hx])⟩
 | tup xs=>
   refine⟨hx,hr.2.trans ?_⟩;rw[List.map_map];exact congrArg (fun l=>Value.tuple (List.toArray l)) (List.map_congr_left fun c hm=>X1.iy h (hx c hm))
theorem fb.aC{β β':Env}{τ : Nat->Nat}{n N lo sz:Nat}(h:BE β β' τ n)(hb:∀i,i<n -> τ i<N){x:ak}{o:Option Obj}(hr:fb β n lo sz x o):fb β' N lo sz (x.aC τ) o:=by
 cases x with
 | dead=>trivial
 | late L=>trivial
 | cells vs e opn ro=>
   obtain⟨cs,fr,h1,h2,h3,h4,h5,h6⟩:=hr;refine⟨cs,fr,h1,h2,by rw[List.length_map];exact h3,h4,fun c hc=>?_,?_⟩
   ·obtain⟨d,hd,rfl⟩:=List.mem_map.1 hc;exact XC.mW hb (h5 d hd)
   ·rw[List.length_map,h6,gK h h5]
 | map es=>
   obtain⟨en,clock,h1,h2,h3⟩:=hr;refine⟨en,clock,h1,fun p hp=>?_,h3.trans ?_⟩
   ·obtain⟨d,hd,rfl⟩:=List.mem_map.1 hp;exact⟨X1.mW hb (h2 d hd).1,X1.mW hb (h2 d hd).2⟩
   ·rw[List.map_map];exact List.map_congr_left fun p hp=>by simp only[Function.comp,X1.iy h (h2 p hp).1,X1.iy h (h2 p hp).2]
theorem fb.xH{β β':Env}{τ : Nat->Nat}{n N lo sz:Nat}(h:BE β β' τ n){x:ak}(hx:x.bK n){o:Option Obj}(hr:fb β' N lo sz (x.aC τ) o):fb β n lo sz x o:=by
 cases x with
 | dead=>trivial
 | late L=>trivial
 | cells vs e opn ro=>
   obtain⟨cs,fr,h1,h2,h3,h4,h5,h6⟩:=hr;rw[List.length_map]at h3 h6;exact⟨cs,fr,h1,h2,h3,h4,hx,by rw[h6,gK h hx]⟩
 | map es=>
   obtain⟨en,clock,h1,h2,h3⟩:=hr;refine⟨en,clock,h1,hx,h3.trans ?_⟩;rw[List.map_map];exact List.map_congr_left fun p hp=>by simp only[Function.comp,X1.iy h (hx p hp).1,X1.iy h (hx p hp).2]
theorem qM{τ : Nat->Nat}{x:ak}:(x.aC τ).live=x.live:=by cases x<;>rfl
theorem mX{τ : Nat->Nat}{x:ak}:(x.aC τ).own=x.own:=by cases x<;>rfl
structure View(τ : Nat->Nat)(hs1 hs2:aj):Prop where
 lt:∀j,j<hs2.length -> τ j<hs1.length
 inj:∀(i j:Nat) (a b:ak),hs2[i]? = some a->hs2[j]? = some b->a ≠ .dead->b ≠ .dead -> τ i = τ j->i=j
 ok:∀(j:Nat) (o:ak),hs2[j]? = some o->o.bK hs2.length
 obj:∀(j:Nat) (o:ak),hs2[j]? = some o->o = .dead\/hs1[τ j]? = some (o.aC τ)
theorem a_.get?{m:Mem}{hs:aj}(h:a_ m hs){i:Nat}(hi:i<m.n):hs[i]? = some (m.get i):=by
 have:=h.n;rw[h.get i hi,List.getD_eq_getElem?_getD,List.getElem?_eq_getElem (by omega)];rfl
theorem Rel.tF{β : Env}{m m2:Mem}{hs1 hs2:aj}{τ : Nat->Nat}(h1:a_ m hs1)(h2:a_ m2 hs2)(v:View τ hs1 hs2){β2:Env}(hv:BE β2 β τ hs2.length){k:Nat}(hi:kY β2 m2 k):kY β m k:=by
 obtain⟨i,hi,hl,rfl⟩:=hi;have n1:=h1.n;have n2:=h2.n;have g:=h2.get? hi;have lt:=v.lt i (by omega)
 rcases v.obj i _ g with e|e
 ·rw[e]at hl;cases hl
 ·refine⟨τ i,by omega,?_,(hv i (by omega)).1⟩;rw[h1.at e,mX];exact hl
theorem Rel.tG{β : Env}{m m2:Mem}{hs1 hs2:aj}{τ : Nat->Nat}(h1:a_ m hs1)(h2:a_ m2 hs2)(v:View τ hs1 hs2){β2:Env}(hv:BE β2 β τ hs2.length){k:Nat}(hi:Dp β2 m2 k):Dp β m k:=by
 obtain⟨i,hi,L,q,cs,e1,e2,e3,e4⟩:=hi;have n1:=h1.n;have n2:=h2.n;have g:=h2.get? hi;have lt:=v.lt i (by omega)
 rcases v.obj i _ g with e|e
 ·rw[e]at e1;cases e1
 ·refine⟨τ i,by omega,L,q,cs,?_,e2,e3,by rw[(hv i (by omega)).1];exact e4⟩;rw[h1.at e,e1];rfl
theorem Rel.view{β : Env}{m m2:Mem}{w:World}{hs1 hs2:aj}{τ : Nat->Nat}(h:Rel β m w)(h1:a_ m hs1)(h2:a_ m2 hs2)(v:View τ hs1 hs2){β2:Env}(hv:BE β2 β τ hs2.length):Rel β2 m2 w:=by
 have n1:=h1.n;have n2:=h2.n
 have key:∀i,i<m2.n->m2.get i = .dead\/(m2.get i).bK hs2.length /\ τ i<m.n/\m.get (τ i)=(m2.get i).aC τ:=fun i hi=>by
  have g:=h2.get? hi;have lt:=v.lt i (by omega)
  rcases v.obj i _ g with e|e
  ·exact .inl e
  ·refine .inr ⟨v.ok i _ g,by omega,?_⟩;exact h1.at e
 refine⟨h2.bnd,h2.fresh,fun i hi=>?_,fun i j hi hj li lj hb=>?_,fun i hi L hL=>?_⟩
 ·rcases key i hi with e|⟨e1,e2,e3⟩
  ·rw[e];trivial
  ·have:=h.obj (τ i) e2;rw[e3,(hv i (by omega)).1,(hv i (by omega)).2.1,(hv i (by omega)).2.2]at this;rw[n2];exact this.xH hv e1
 ·rcases key i hi with e|⟨_,e2,e3⟩
  ·rw[e]at li;cases li
  rcases key j hj with e|⟨_,e2',e3'⟩
  ·rw[e]at lj;cases lj
  refine v.inj i j _ _ (h2.get? hi) (h2.get? hj) (fun e=>by rw[e]at li;cases li) (fun e=>by rw[e]at lj;cases lj) (h.inj (τ i) (τ j) e2 e2' (by rw[e3,mX];exact li) (by rw[e3',qM];exact lj) ?_);rw[(hv i (by omega)).1,(hv j (by omega)).1];exact hb
 ·rcases key i hi with e|⟨_,e2,e3⟩
  ·rw[e]at hL;cases hL
  rw[hL]at e3;intro k cs hk;obtain⟨k1,k2⟩:=h.late (τ i) e2 L e3 k cs hk;have hb:=(hv i (by omega)).1;refine⟨k1,fun hne=>?_⟩;obtain⟨k3,all,e,fr,k4,k5⟩:=k2 hne;rw[hb]at k3 k4 k5;refine⟨fun hi=>k3 (Rel.tF h1 h2 v hv hi),all,e,fr,k4,k5.trans ?_⟩;exact List.map_congr_left fun c hc=>XC.oq (k1 c hc) hb
def bt(P:Program)(f:FuncId)(args:List XV)(hs:aj)(v:XV)(hs':aj):Prop:=
 ∀ (m:Mem),a_ m hs->∀(β : Env) (w:World) (vs:List Value),dj (aL β m.n) args vs->Rel β m w ->
   Calls P f vs.toArray w fun e w'=>∃u β' m',e = .returned u/\a_ m' hs'/\aL β' m'.n v u/\Step β m w β' m' w'
def aE(P:Program)(fn:Func)(n:Nat)(v:XV)(hs':aj):cu:=fun e al hs1=>(e = .normal\/e = .ret)/\∃(v1:XV) (τ : Nat->Nat),sU P fn al hs1 v1/\v1=v.aC τ/\v.bK hs'.length/\View τ hs1 hs'/\∀j,j<n -> τ j=j
theorem WX.view{P:Program}{nt nI:Nat}{c:sn}{al al2:aO}{hs hs2:aj}{K:cu}(τ : Nat->Nat)(hv:View τ hs hs2)(hid:∀j,j<nI -> τ j=j)(hle:nI<=hs2.length)(hb:Nat.blt hs2.length Mem.bound=true)(hok:∀t,(rg al2 t).bK hs2.length)(hr:∀t,rg al2 t = .undef\/rg al t=(rg al2 t).aC τ)
 (h:WX P nt nI c al2 hs2 K):WX P nt nI c al hs K:=by
 intro βI mI wI hn m hm β w a Q hrel hst hq;have hm2:=eZ hs2 (by simpa [Nat.blt_eq]using hb);have n1:=hm.n;have n2:=hm2.n
 let β2:Env:=⟨fun i => β.bG (τ i),fun i => β.base (τ i),fun i => β.size (τ i)⟩
 have hvia:BE β2 β τ hs2.length:=fun i _=>⟨rfl,rfl,rfl⟩
 have hst2:Step βI mI wI β2 (iU hs2) w:=by
  refine⟨by omega,fun i hi=>?_,hst.rel.view hm hm2 hv hvia,hst.os,hst.tape,hst.output,hst.size,hst.frame,fun k hk hi=>hst.qj k hk (Rel.tF hm hm2 hv hvia hi),fun k hk hl=>hst.wa k hk (Rel.tG hm hm2 hv hvia hl)⟩;have:=hst.ext i hi;show β.bG (τ i) = βI.bG i /\ β.size (τ i) = βI.size i /\ β.base (τ i) = βI.base i;rw[hid i (by omega)];exact this
 refine h βI mI wI hn (iU hs2) hm2 β2 w a Q ⟨hrel.size,hrel.small,fun t ht=>?_,fun t ht=>?_⟩ hst2 hq
 ·rcases hr t with e|e
  ·rw[e];trivial
  ·have:=hrel.rel t ht;rw[e]at this;rw[n2];exact this.xH hvia (hok t)
 ·rcases hr t with e|e
  ·exact e
  ·have:=hrel.out t ht;rw[e]at this;cases hx:rg al2 t<;>rw[hx]at this<;>first|rfl|cases this
theorem Fe{P:Program}{f:FuncId}{fn:Func}{c:Code}{args:List XV}{hs hs':aj}{v:XV}(hf:P.funcs[f]? = some fn)(hb:fn.body=some c)(hn:fn.ntmps<1000000)(hl:args.length<=fn.ntmps)(hle:hs.length<=hs'.length)(hbd:hs'.length<Mem.bound)
 (h:WX P fn.ntmps hs.length (.code c) (mE args 0) hs (aE P fn hs.length v hs')):bt P f args hs v hs':=by
 intro m hm β w vs hall hw;refine calls_of_wp hf hb ?_;have hr0:=qE hall hn hl
 have e:(f7 args 0 .leaf).get .undef=rg (mE args 0):=by
  funext j
  rw[mP args 0 .leaf (by omega) j,vf,T.eO]
 unfold lV at hr0;rw[e]at hr0;have nm:=hm.n;refine h β m w nm m hm β w _ _ hr0 (Step.refl hw) fun x al' hs1 m1 hk hm1 a' β' w' h1 h2 h3=>?_
 obtain⟨hx,v1,τ,hres,rfl,hok,hview,hid⟩:=hk;obtain⟨u,hu1,hu2⟩:=oI (hres m1 hm1) h3.rel h1;have hm2:=eZ hs' hbd;have n2:=hm2.n
 let β2:Env:=⟨fun i => β'.bG (τ i),fun i => β'.base (τ i),fun i => β'.size (τ i)⟩
 have hv:BE β2 β' τ hs'.length:=fun i _=>⟨rfl,rfl,rfl⟩
 have hst:Step β m w β2 (iU hs') w':=by
  refine⟨by omega,fun i hi=>?_,h3.rel.view hm1 hm2 hview hv,h3.os,h3.tape,h3.output,h3.size,h3.frame,fun k hk hi=>h3.qj k hk (Rel.tF hm1 hm2 hview hv hi),fun k hk hl=>h3.wa k hk (Rel.tG hm1 hm2 hview hv hl)⟩;have:=h3.ext i hi;show β'.bG (τ i) = β.bG i /\ β'.size (τ i) = β.size i /\ β'.base (τ i) = β.base i;rw[hid i (by omega)];exact this
 have hu3:aL β2 (iU hs').n v u:=by rw[n2];exact hu2.xH hv hok
 rcases hx with rfl|rfl<;>exact⟨h2,u,hu1,u,β2,iU hs',rfl,hm2,hu3,hst⟩
def beyond(ρ : Nat->Nat)(n N:Nat)(j:Nat):Nat:=if j<n then ρ j else N+(j-n)
structure Ng(ρ : Nat->Nat)(n:Nat)(HS:aj)(hs':aj)(HS':aj):Prop where
 len:HS'.length=HS.length+(hs'.length-n)
 obj:∀(j:Nat) (o:ak),hs'[j]? = some o->HS'[beyond ρ n HS.length j]? = some (o.aC (beyond ρ n HS.length))
 yB:∀i,i<HS.length->(∀j,j<n -> ρ j≠i)->HS'[i]? = HS[i]?
theorem tT{β0 β : Env}{ρ : Nat->Nat}{n N:Nat}(hvia:BE β0 β ρ n):∀{args:List XV} {vs:List Value},(∀x∈args,x.bK n)->dj (aL β N) (args.map (·.aC ρ)) vs->dj (aL β0 n) args vs
 | [],_,_,h=>by cases h;exact .nil
 | x::l,_,ha,h=>by
   cases h with
   | cons h1 h2=>exact .cons (h1.xH hvia (ha x (List.mem_cons_self ..))) (tT hvia (fun y hy=>ha y (List.mem_cons_of_mem _ hy)) h2)
theorem B1{P:Program}{f:FuncId}{args:List XV}{hs hs' HS HS':aj}{v:XV}(hc:bt P f args hs v hs')(hle:hs.length<=hs'.length)(hbd:hs.length<Mem.bound){ρ : Nat->Nat}(hv:View ρ HS hs)(ha:∀x∈args,x.bK hs.length)(haf:Ng ρ hs.length HS hs' HS')(hro:∀(j:Nat) (o:ak),hs'[j]? = some o->o.live=true->o.own=false->∃o0,hs[j]? = some o0/\o0.live=true)
 {M M':Mem}(hM:a_ M HS) (hM':a_ M' HS'):d8 P f (args.map (·.aC ρ)) M (v.aC (beyond ρ hs.length HS.length)) M':=by
 intro β w vs hall hw;have hm0:=eZ hs hbd;have n0:=hm0.n;have N0:=hM.n;have N1:=hM'.n;have hlen:=haf.len
 let β0:Env:=⟨fun i => β.bG (ρ i),fun i => β.base (ρ i),fun i => β.size (ρ i)⟩
 have hvia:BE β0 β ρ hs.length:=fun i _=>⟨rfl,rfl,rfl⟩
 have hrel0:Rel β0 (iU hs) w:=hw.view hM hm0 hv hvia
 have hargs:dj (aL β0 (iU hs).n) args vs:=by
  rw[n0];exact tT hvia ha hall
 refine(hc _ hm0 β0 w vs hargs hrel0).mono fun e w' ⟨u,β1,m1,he,hm1,hu,hst⟩=>?_
 have n1:=hm1.n;have hsle:=hst.le
 let ρ':=beyond ρ hs.length HS.length
 let β':Env:=⟨fun i=>if i<HS.length then β.bG i else β1.bG (i-HS.length+hs.length),fun i=>if i<HS.length then β.base i else β1.base (i-HS.length+hs.length),fun i=>if i<HS.length then β.size i else β1.size (i-HS.length+hs.length)⟩
 have hvia':BE β1 β' ρ' hs'.length:=by
  intro j hj;show(if ρ' j<HS.length then β.bG (ρ' j)else β1.bG (ρ' j-HS.length+hs.length)) = β1.bG j/\(if ρ' j<HS.length then β.size (ρ' j)else β1.size (ρ' j-HS.length+hs.length)) = β1.size j/\(if ρ' j<HS.length then β.base (ρ' j)else β1.base (ρ' j-HS.length+hs.length)) = β1.base j
  by_cases h:j<hs.length
  ·have e1 : ρ' j = ρ j:=if_pos h;have e2:=hv.lt j h;rw[e1,if_pos e2,if_pos e2,if_pos e2];have:=hst.ext j (by omega);exact⟨this.1.symm,this.2.1.symm,this.2.2.symm⟩
  ·have e1 : ρ' j=HS.length+(j-hs.length):=if_neg h;rw[e1,if_neg (by omega),if_neg (by omega),if_neg (by omega),show HS.length+(j-hs.length)-HS.length+hs.length=j by omega];exact⟨rfl,rfl,rfl⟩
 have hlt':∀j,j<hs'.length -> ρ' j<HS'.length:=by
  intro j hj
  by_cases h:j<hs.length
  ·have e1 : ρ' j = ρ j:=if_pos h;have e2:=hv.lt j h;omega
  ·have e1 : ρ' j=HS.length+(j-hs.length):=if_neg h;omega
 refine⟨u,β',he,by rw[N1];rw[n1]at hu;exact hu.aC hvia' hlt',?_⟩
 have kinds:∀i,i<M'.n->(∃j,j<m1.n /\ ρ' j=i/\M'.get i=(m1.get j).aC ρ')\/(i<HS.length/\(∀j,j<hs.length -> ρ j≠i)/\M'.get i=M.get i/\i<M.n):=by
  intro i hi
  by_cases h:i<HS.length
  ·by_cases h2:∃j,j<hs.length /\ ρ j=i
   ·obtain⟨j,hj,rfl⟩:=h2;refine .inl ⟨j,by omega,if_pos hj,?_⟩;have g:=hm1.get? (i:=j) (by omega);have:=haf.obj j _ g;have e1:beyond ρ hs.length HS.length j = ρ j:=if_pos hj;rw[e1]at this;exact hM'.at this
   ·have h3:∀j,j<hs.length -> ρ j≠i:=fun j hj e=>h2 ⟨j,hj,e⟩
    refine .inr ⟨h,h3,?_,by omega⟩;have e1:=haf.yB i h h3;rw[hM'.get? hi,hM.get? (i:=i) (by omega)]at e1;exact Option.some.inj e1
  ·refine .inl ⟨i-HS.length+hs.length,by omega,?_,?_⟩
   ·show beyond ρ hs.length HS.length _=i;unfold beyond;rw[if_neg (by omega)];omega
   ·have g:=hm1.get? (i:=i-HS.length+hs.length) (by omega);have:=haf.obj _ _ g;have e1:beyond ρ hs.length HS.length (i-HS.length+hs.length)=i:=by unfold beyond;rw[if_neg (by omega)];omega
    rw[e1]at this;exact hM'.at this
 have imgs:∀j,j<m1.n->(m1.get j).own=true -> β1.bG j<w.heap.size->∃j2,j2<hs.length/\((iU hs).get j2).own=true /\ β.bG (ρ j2) = β1.bG j:=by
  intro j hj hl hlt;obtain⟨j2,h1,h2,h3⟩:=hst.qj _ hlt ⟨j,hj,hl,rfl⟩;exact⟨j2,by omega,h2,h3⟩
 have liveρ : ∀j2,j2<hs.length->((iU hs).get j2).own=true -> ρ j2<M.n/\(M.get (ρ j2)).own=true:=by
  intro j2 h1 h2;have g:=hm0.get? (i:=j2) (by omega);have lt:=hv.lt j2 h1;refine⟨by omega,?_⟩
  rcases hv.obj j2 _ g with e|e
  ·rw[e]at h2;cases h2
  ·rw[hM.at e,mX];exact h2
 have bold:∀i,i<HS.length -> β'.bG i = β.bG i /\ β'.size i = β.size i /\ β'.base i = β.base i:=fun i h=>⟨if_pos h,if_pos h,if_pos h⟩
 have hframe:∀k,k<w.heap.size->¬kY β M k->w'.heap[k]? = w.heap[k]?:=fun k hk hn=>by
  refine hst.frame k hk fun⟨j2,q1,q2,q3⟩=>hn ?_
  have q4:=liveρ j2 (by omega) q2;exact⟨ρ j2,q4.1,q4.2,q3⟩
 have himg:∀k,k<w.heap.size->kY β' M' k->kY β M k:=fun k hk hi=>by
  obtain⟨i,hi,hl,rfl⟩:=hi
  rcases kinds i hi with⟨j,hj,rfl,hg⟩|⟨h1,h2,hg,h3⟩
  ·rw[hg,mX]at hl;rw[(hvia' j (by omega)).1]at hk ⊢;obtain⟨j2,q1,q2,q3⟩:=imgs j hj hl hk;have q4:=liveρ j2 q1 q2;exact⟨ρ j2,q4.1,q4.2,q3⟩
  ·rw[hg]at hl;rw[(bold i h1).1];exact⟨i,h3,hl,rfl⟩
 have late_ren:∀(x:ak) L,x.aC ρ' = .late L->x = .late L:=fun x L h=>by cases x<;>first|exact h|cases h
 have vis:∀k,k<w.heap.size->Dp β1 m1 k->(∃j2,j2<hs.length/\(M.get (ρ j2)).own=true /\ ρ j2<M.n /\ β.bG (ρ j2)=k)\/Dp β M k:=fun k hk hl=>by
  rcases hst.wa k hk hl with⟨j2,q1,q2,q3⟩|hl
  ·have q4:=liveρ j2 (by omega) q2;exact .inl ⟨j2,by omega,q4.2,q4.1,q3⟩
  ·exact .inr (Rel.tG hM hm0 hv hvia hl)
 refine⟨by omega,fun i hi=>bold i (by omega),⟨hM'.bnd,hM'.fresh,fun i hi=>?_,fun i i2 hi hi2 hl hl2 hbb=>?_,fun i hi L hL=>?_⟩,hst.os,hst.tape,hst.output,hst.size,hframe,himg,fun k hk ⟨i,hi,L,q,cs,e1,e2,e3,e4⟩=>?_⟩
 ·rcases kinds i hi with⟨j,hj,rfl,hg⟩|⟨h1,h2,hg,h3⟩
  ·rw[hg,N1,(hvia' j (by omega)).1,(hvia' j (by omega)).2.1,(hvia' j (by omega)).2.2];have:=hst.rel.obj j hj;rw[n1]at this;exact this.aC hvia' hlt'
  ·rw [hg,(bold i h1).1,(bold i h1).2.1,(bold i h1).2.2]
   cases hgm:M.get i with
   | dead=>trivial
   | late L=>trivial
   | cells a b c d=>
     have hli:(M.get i).live=true:=by rw[hgm];rfl
     have hlt:=hw.lt h3 hli
     have hfr:w'.heap[β.bG i]? = w.heap[β.bG i]?:=by
      refine hst.frame _ hlt fun⟨j2,q1,q2,q3⟩=>?_
      have q4:=liveρ j2 (by omega) q2;exact h2 j2 (by omega) (hw.inj (ρ j2) i q4.1 h3 q4.2 hli q3)
     rw[hfr,<-hgm];exact(hw.obj i h3).ext (fun i hi=>bold i (by omega)) (by omega)
   | map es=>
     have hli:(M.get i).live=true:=by rw[hgm];rfl
     have hlt:=hw.lt h3 hli
     have hfr:w'.heap[β.bG i]? = w.heap[β.bG i]?:=by
      refine hst.frame _ hlt fun⟨j2,q1,q2,q3⟩=>?_
      have q4:=liveρ j2 (by omega) q2;exact h2 j2 (by omega) (hw.inj (ρ j2) i q4.1 h3 q4.2 hli q3)
     rw[hfr,<-hgm];exact(hw.obj i h3).ext (fun i hi=>bold i (by omega)) (by omega)
 ·rcases kinds i hi with⟨j,hj,rfl,hg⟩|⟨h1,h2,hg,h3⟩
  ·rcases kinds i2 hi2 with⟨j',hj',rfl,hg'⟩|⟨h1',h2',hg',h3'⟩
   ·rw[(hvia' j (by omega)).1,(hvia' j' (by omega)).1]at hbb;rw[hg,mX]at hl;rw[hg',qM]at hl2;rw[hst.rel.inj j j' hj hj' hl hl2 hbb]
   ·rw[(hvia' j (by omega)).1,(bold i2 h1').1]at hbb;rw[hg,mX]at hl;rw[hg']at hl2;have hlt:=hw.lt h3' hl2;obtain⟨j2,q1,q2,q3⟩:=imgs j hj hl (by rw[hbb];exact hlt);have q4:=liveρ j2 q1 q2;exact absurd (hw.inj (ρ j2) i2 q4.1 h3' q4.2 hl2 (q3.trans hbb)) (h2' j2 q1)
  ·rcases kinds i2 hi2 with⟨j',hj',rfl,hg'⟩|⟨h1',h2',hg',h3'⟩
   ·rw [(hvia' j' (by omega)).1,(bold i h1).1]at hbb;rw[hg',qM]at hl2;rw[hg]at hl;have hlt:=hw.lt h3 (ak.bO hl)
    cases hown:(m1.get j').own with
    | true=>
      obtain⟨j2,q1,q2,q3⟩:=imgs j' hj' hown (by rw[<-hbb];exact hlt);have q4:=liveρ j2 q1 q2;exact absurd (hw.inj (ρ j2) i q4.1 h3 q4.2 (ak.bO hl) (q3.trans hbb.symm)) (h2 j2 q1)
    | false=>
      obtain⟨o0,q1,q2⟩:=hro j' _ (hm1.get? hj') hl2 hown;have q3:j'<hs.length:=(List.getElem?_eq_some_iff.1 q1).1;have q4:=hv.lt j' q3
      have q5:(M.get (ρ j')).live=true:=by
       rcases hv.obj j' o0 q1 with e|e
       ·rw[e]at q2;cases q2
       ·rw[hM.at e,qM];exact q2
      have q6 : β1.bG j' = β.bG (ρ j'):=(hst.ext j' (by omega)).1;exact absurd (hw.inj i (ρ j') h3 (by omega) hl q5 (hbb.trans q6)).symm (h2 j' q3)
   ·rw[(bold i h1).1,(bold i2 h1').1]at hbb;rw[hg]at hl;rw[hg']at hl2;exact hw.inj i i2 h3 h3' hl hl2 hbb
 ·rcases kinds i hi with⟨j,hj,rfl,hg⟩|⟨h1,h2,hg,h3⟩
  ·have hg1:=late_ren _ L (by rw[<-hg];exact hL);have hb:=(hvia' j (by omega)).1;intro k cs hk;obtain⟨k1,k2⟩:=hst.rel.late j hj L hg1 k cs hk;refine⟨k1,fun hne=>?_⟩;obtain⟨k3,all,e,fr,k4,k5⟩:=k2 hne;rw[hb];refine⟨fun⟨i,hi,hown,hbi⟩=>?_,all,e,fr,k4,k5.trans (List.map_congr_left fun c hc=>(XC.oq (k1 c hc) hb).symm)⟩
   rcases kinds i hi with⟨j',hj',rfl,hg'⟩|⟨h1,h2,hg',h3⟩
   ·rw[hg',mX]at hown;rw[(hvia' j' (by omega)).1]at hbi;exact k3 ⟨j',hj',hown,hbi⟩
   ·rw[hg']at hown;rw[(bold i h1).1]at hbi;have hlt:=hw.lt h3 (ak.bO hown);rw[hbi]at hlt
    rcases vis _ hlt ⟨j,hj,L,k,cs,hg1,hk,hne,rfl⟩with⟨j2,q1,q2,q3,q4⟩|⟨i2,q1,L2,q,cs2,q2,q3,q5,q6⟩
    ·exact h2 j2 q1 (hw.inj (ρ j2) i q3 h3 q2 (ak.bO hown) (q4.trans hbi.symm))
    ·exact((hw.late i2 q1 L2 q2 q cs2 q3).2 q5).1 ⟨i,h3,hown,hbi.trans q6.symm⟩
  ·exact(hw.late i h3 L (by rw[<-hg];exact hL)).iq h3 (by omega) (fun i hi=>bold i (by omega)) hframe himg
 ·rcases kinds i hi with⟨j,hj,rfl,hg⟩|⟨h1,h2,hg,h3⟩
  ·have hg1:=late_ren _ L (by rw[<-hg];exact e1);rw[(hvia' j (by omega)).1]at e4
   rcases vis k hk ⟨j,hj,L,q,cs,hg1,e2,e3,e4⟩with⟨j2,q1,q2,q3,q4⟩|h
   ·exact .inl ⟨ρ j2,q3,q2,q4⟩
   ·exact .inr h
  ·exact .inr ⟨i,h3,L,q,cs,by rw[<-hg];exact e1,e2,e3,by rw[<-e4,(bold i h1).1]⟩
end Go.Xm
namespace Go.Xm
variable [aq]
theorem XC.dU{c:XC}(h:c.shut=true)(τ : Nat->Nat):c.aC τ = c:=by
 induction c with
 | bind g c ih1 ih2=>
   simp only[XC.shut,Bool.and_eq_true]at h;simp only[XC.aC,ih1 h.1,ih2 h.2]
 | ptr i off=>cases h
 | slice i off len cap=>cases h
 | map i=>cases h
 | lsl g k off len fl cut=>cases h
 | lpt g k off=>cases h
 | _=>rfl
theorem fZ{cs:List XC}(h:cs.all XC.shut=true)(τ : Nat->Nat):cs.map (·.aC τ)=cs:=by
 rw[List.all_eq_true]at h;exact(List.map_congr_left fun c hc=>XC.dU (h c hc) τ).trans (by simp)
theorem X1.dU{x:X1}(h:x.shut=true)(τ : Nat->Nat):x.aC τ = x:=by
 cases x with
 | one c=>simp only[X1.aC,XC.dU h]
 | agg cs=>simp only[X1.aC,fZ h]
theorem XV.dU{x:XV}(h:x.shut=true)(τ : Nat->Nat):x.aC τ = x:=by
 cases x with
 | undef=>rfl
 | one c=>simp only[XV.aC,XC.dU h]
 | agg cs=>simp only[XV.aC,fZ h]
 | tup xs=>
   have h':=List.all_eq_true.1 h;simp only[XV.aC];rw[(List.map_congr_left fun c hc=>X1.dU (h' c hc) τ : xs.map (·.aC τ)=xs.map id),List.map_id]
theorem lH{l:List XV}(h:∀x∈l,x.shut=true)(τ : Nat->Nat):l.map (·.aC τ)=l:=
 (List.map_congr_left fun c hc=>XV.dU (h c hc) τ).trans (by simp)
theorem XV.kE{x:XV}(h:x.shut=true)(n:Nat):x.bK n:=by
 cases x with
 | undef=>trivial
 | one c=>exact XC.aY h n
 | agg cs=>exact fun c hc=>XC.aY (List.all_eq_true.1 h c hc) n
 | tup xs=>exact fun c hc=>X1.aY (List.all_eq_true.1 h c hc) n
structure aA where
 f:FuncId
 args:List XV
 hs:aj
 v:XV
 hs':aj
 ws:List Nat
def mV(n m:Nat):List Nat:=List.range' n (m-n)
structure aA.Sound(P:Program)(e:aA):Prop where
 le:e.hs.length<=e.hs'.length
 bnd:e.hs'.length<Mem.bound
 same:∀i,i<e.hs.length->i∉e.ws->e.hs'[i]? = e.hs[i]?
 call:∀M M',a_ M e.hs->a_ M' e.hs'->d8 P e.f e.args M e.v M'
def m7(m:Mem)(hs':aj):List Nat->Mem
 | []=>m
 | i::l=>m7 (m.put i (hs'.getD i .dead)) hs' l
def jd(m:Mem):List ak->Mem
 | []=>m
 | o::l=>jd ((m.push o).getD m) l
def aA.mem(e:aA)(m:Mem):Mem:=jd (m7 m e.hs' (e.ws.filter fun i=>decide (i<e.hs.length))) (e.hs'.drop e.hs.length)
theorem sG(hs':aj):∀(l:List Nat) (m:Mem),rC m (m7 m hs' l)
 | [],m => .same m
 | i::l,m => .trans (.put m i _) (sG hs' l _)
theorem oh:∀(l:List ak) (m:Mem),rC m (jd m l)
 | [],m => .same m
 | o::l,m=>by
   unfold jd
   cases h:m.push o with
   | none=>exact oh l m
   | some m'=>exact .trans (.push h) (oh l m')
theorem pD(hs':aj):∀(l:List Nat) (m:Mem) (hs:aj),a_ m hs->(∀i∈l,i<hs.length) ->
 ∃hs2,a_ (m7 m hs' l) hs2/\hs2.length=hs.length/\(∀i,i∈l->hs2[i]? = some (hs'.getD i .dead))/\(∀i,i∉l->hs2[i]? = hs[i]?)/\∀j,j∉l->((m7 m hs' l).f4 j).ver=(m.f4 j).ver
 | [],m,hs,h,_=>⟨hs,h,rfl,(fun i hi=>by cases hi),fun _ _=>rfl,fun _ _=>rfl⟩
 | i :: l,m,hs,h,hl=>by
   have hi:=hl i (List.mem_cons_self ..);have hg:hs[i]? = some hs[i]:=List.getElem?_eq_getElem hi;obtain⟨hs2,h1,h2,h3,h4,h5⟩:=pD hs' l (m.put i (hs'.getD i .dead)) (hs.set i (hs'.getD i .dead)) (h.put hg _) (fun j hj=>by rw[List.length_set];exact hl j (List.mem_cons_of_mem _ hj));refine⟨hs2,h1,by rw[h2,List.length_set],fun j hj=>?_,fun j hj=>?_,fun j hj=>?_⟩
   ·by_cases hjl:j∈l
    ·exact h3 j hjl
    ·rw[h4 j hjl]
     rcases List.mem_cons.1 hj with rfl|hj
     ·simp[hi]
     ·exact absurd hj hjl
   ·simp only[List.mem_cons,not_or]at hj;rw[h4 j hj.2,List.getElem?_set_ne (Ne.symm hj.1)]
   ·simp only[List.mem_cons,not_or]at hj;show((m7 (m.put i (hs'.getD i .dead)) hs' l).f4 j).ver=_;rw[h5 j hj.2,Mem.gY m _ hj.1]
theorem pC:∀(l:List ak) (m:Mem) (hs:aj),a_ m hs->hs.length+l.length<Mem.bound->a_ (jd m l) (hs++l)/\∀j,j<hs.length->((jd m l).f4 j).ver=(m.f4 j).ver
 | [],m,hs,h,_=>⟨by simpa [jd]using h,fun _ _=>rfl⟩
 | o::l,m,hs,h,hb=>by
   simp only[List.length_cons]at hb;obtain⟨m',h1,h2,h3⟩:=h.push o (by omega);have ih:=pC l m' (hs++[o]) h2 (by simp;omega);unfold jd;rw[h1];simp only[Option.getD_some];refine⟨by simpa using ih.1,fun j hj=>?_⟩;rw[ih.2 j (by simp;omega),h3 j (by simp;omega)]
theorem sF:∀(l:List ak) (m:Mem) (hs:aj),a_ m hs->hs.length+l.length<Mem.bound->∀j,hs.length+l.length<=j->((jd m l).f4 j).ver=(m.f4 j).ver
 | [],m,hs,_,_,j,_=>rfl
 | o::l,m,hs,h,hb,j,hj=>by
   simp only[List.length_cons]at hb hj;obtain⟨m',h1,h2,h3⟩:=h.push o (by omega);unfold jd;rw[h1];simp only[Option.getD_some];rw[sF l m' (hs++[o]) h2 (by simp;omega) j (by simp;omega),h3 j (by simp;omega)]
theorem aA.Sound.holds{P:Program}{e:aA}(h:e.Sound P){m:Mem}(hm:a_ m e.hs):a_ (e.mem m) e.hs'/\rC m (e.mem m)/\∀j,j∉e.ws++mV e.hs.length e.hs'.length->((e.mem m).f4 j).ver=(m.f4 j).ver:=by
 obtain⟨hs2,h1,h2,h3,h4,h5⟩:=pD e.hs' (e.ws.filter fun i=>decide (i<e.hs.length)) m e.hs hm (fun i hi=>by simpa using (List.mem_filter.1 hi).2);have hlen:(e.hs'.drop e.hs.length).length=e.hs'.length-e.hs.length:=List.length_drop ..;have hle:=h.le;have hb:=h.bnd;have h6:=pC (e.hs'.drop e.hs.length) _ hs2 h1 (by rw[h2,hlen];omega)
 have e1:hs2=e.hs'.take e.hs.length:=by
  apply List.ext_getElem?;intro i
  by_cases hi:i<e.hs.length
  ·rw[List.getElem?_take,if_pos hi]
   by_cases hw:i∈e.ws.filter fun i=>decide (i<e.hs.length)
   ·rw[h3 i hw,List.getD_eq_getElem?_getD,List.getElem?_eq_getElem (by omega)];rfl
   ·rw[h4 i hw,h.same i hi (fun hh=>hw (List.mem_filter.2 ⟨hh,by simpa using hi⟩))]
  ·rw[List.getElem?_eq_none (by omega),List.getElem?_eq_none (by simp;omega)]
 refine⟨?_,.trans (sG _ _ _) (oh _ _),fun j hj=>?_⟩
 ·have:=h6.1;rw[e1,List.take_append_drop]at this;exact this
 ·simp only[List.mem_append,not_or]at hj;have hv:∀j,j∉e.ws->((m7 m e.hs' (e.ws.filter fun i=>decide (i<e.hs.length))).f4 j).ver=(m.f4 j).ver:=fun j hj=>h5 j fun hh=>hj (List.mem_filter.1 hh).1
  unfold aA.mem
  by_cases hjn:j<e.hs.length
  ·rw[h6.2 j (by omega),hv j hj.1]
  ·rw[sF _ _ hs2 h1 (by rw[h2,hlen];omega) j (by
    rw[h2,hlen];have:¬j<e.hs'.length:=fun hlt=>hj.2 (by unfold mV;rw[List.mem_range'_1];omega)
    omega),hv j hj.1]
open Classical in
noncomputable def uV(f:FuncId)(args:List XV)(m:Mem):List aA->Option aA
 | [] => .none
 | e::L=>if e.f=f/\e.args=args/\a_ m e.hs then some e else uV f args m L
theorem mZ{f:FuncId}{args:List XV}{m:Mem}{e:aA}:∀{L:List aA},uV f args m L=some e->e∈L/\e.f=f/\e.args=args/\a_ m e.hs
 | [],h=>by cases h
 | e'::L,h=>by
   unfold uV at h;split at h
   ·rename_i hc;cases h;exact⟨List.mem_cons_self ..,hc⟩
   ·obtain⟨h1,h2⟩:=mZ h;exact⟨List.mem_cons_of_mem _ h1,h2⟩
theorem xp{f:FuncId}{args:List XV}{m:Mem}{e:aA}(hc:e.f=f/\e.args=args/\a_ m e.hs):∀{L:List aA},e∈L->∃e',uV f args m L=some e'
 | e'::L,h=>by
   unfold uV;split
   ·exact⟨_,rfl⟩
   ·rename_i hn
    rcases List.mem_cons.1 h with rfl|h
    ·exact absurd hc hn
    ·exact xp hc h
theorem a_.uniq{m:Mem}{hs hs2:aj}(h:a_ m hs)(h2:a_ m hs2):hs=hs2:=by
 have n1:=h.n;have n2:=h2.n;apply List.ext_getElem?;intro i
 by_cases hi:i<m.n
 ·rw[h.get? hi,h2.get? hi]
 ·rw[List.getElem?_eq_none (by omega),List.getElem?_eq_none (by omega)]
def Compat(e e':aA):Prop:=e.f=e'.f->e.args=e'.args->e.hs=e'.hs->e.v=e'.v/\e.hs'=e'.hs'/\e.ws=e'.ws
def ag(L:List aA):Prop:=∀e∈L,∀e'∈L,Compat e e'
theorem ag.nil:ag []:=fun _ h=>by cases h
theorem Compat.refl(e:aA):Compat e e:=fun _ _ _=>⟨rfl,rfl,rfl⟩
theorem Compat.symm{e e':aA}(h:Compat e e'):Compat e' e:=fun h1 h2 h3=>by
 obtain⟨k1,k2,k3⟩:=h h1.symm h2.symm h3.symm;exact⟨k1.symm,k2.symm,k3.symm⟩
theorem ag.cons{e:aA}{L:List aA}(h:∀e'∈L,Compat e e')(hL:ag L):ag (e::L):=by
 intro a ha b hb
 rcases List.mem_cons.1 ha with e1|h1
 ·rcases List.mem_cons.1 hb with e2|h2
  ·rw[e1,e2];exact Compat.refl _
  ·rw[e1];exact h b h2
 ·rcases List.mem_cons.1 hb with e2|h2
  ·rw[e2];exact(h a h1).symm
  ·exact hL a h1 b h2
theorem ag.one(e:aA):ag [e]:=ag.cons (fun _ h=>by cases h) ag.nil
theorem Compat.ne{e e':aA}(h:Nat.beq e.f e'.f=false):Compat e e':=fun h1=>by
 rw[h1]at h;have:Nat.beq e'.f e'.f=true:=Nat.beq_refl _;rw[this]at h;cases h
theorem ag.two{e e':aA}(h:Compat e e'):ag [e,e']:=ag.cons (fun x hx=>by simp only[List.mem_singleton]at hx;subst hx;exact h) (ag.one e')
def s_(e:aA):List aA->Prop
 | []=>True
 | e'::L=>Compat e e'/\s_ e L
def Nh:List aA->Prop
 | []=>True
 | e::L=>s_ e L/\Nh L
theorem s_.all{e:aA}:∀{L:List aA},s_ e L->∀e'∈L,Compat e e'
 | [],_,e',h=>by cases h
 | a::L,h,e',h'=>by
   rcases List.mem_cons.1 h' with rfl|h'
   ·exact h.1
   ·exact h.2.all e' h'
theorem ag.my:∀{L:List aA},Nh L->ag L
 | [],_=>ag.nil
 | _::_,h=>ag.cons h.1.all (ag.my h.2)
noncomputable def Gy(L:List aA):dm:=⟨fun f args m=>(uV f args m L).map fun e=>(e.v,e.mem m),fun _ _ => .none⟩
theorem p5{P:Program}{L:List aA}(h:∀e∈L,e.Sound P):aS P (Gy L):=by
 refine⟨fun f args m v m' hc=>?_,fun f args m v m' hc=>?_,fun _ _ _ he=>by cases he⟩
 ·obtain⟨e,h1,h2⟩:=Option.map_eq_some_iff.1 hc;cases h2;obtain⟨hm,rfl,rfl,hh⟩:=mZ h1;exact(h e hm).call m _ hh ((h e hm).holds hh).1
 ·obtain⟨e,h1,h2⟩:=Option.map_eq_some_iff.1 hc;cases h2;obtain⟨hm,rfl,rfl,hh⟩:=mZ h1;exact((h e hm).holds hh).2.1
theorem Gz{L:List aA}(hc:ag L){e:aA}(he:e∈L){m:Mem}(hm:a_ m e.hs):(Gy L).call e.f e.args m=some (e.v,e.mem m):=by
 obtain⟨e',h1⟩:=xp (f:=e.f) (args:=e.args) (m:=m) ⟨rfl,rfl,hm⟩ he;obtain⟨h2,h3,h4,h5⟩:=mZ h1;obtain⟨k1,k2,k3⟩:=hc e' h2 e he h3 h4 (h5.uniq hm);show(uV e.f e.args m L).map _=_;rw[h1];have k4:e'.hs=e.hs:=h5.uniq hm;simp only[Option.map_some,k1];unfold aA.mem;rw[k2,k3,k4]
def SK(P:Program)(ops:Array Oper)(nt:Nat)(L:List aA)(l:List Oper)(al:aO)(hs:aj)(K:List Ab->aO->aj->Prop):Prop:=
 ∃Lf,(∀e∈L,e∈Lf)/\(∀e∈Lf,e∈L\/e.Sound P)/\ag Lf/\nO (Gy Lf) P ops nt l al hs K
variable {P:Program} {ops:Array Oper} {nt nI:Nat} {al:aO} {hs:aj} {o:Oper} {l:List Oper} {L:List aA} {K:List Ab->aO->aj->Prop}
theorem SK.nil(hc:ag L)(h:K [] al hs):SK P ops nt L [] al hs K:=⟨L,fun _ h=>h,fun _ h => .inl h,hc,.nil h⟩
theorem SK.lift{x:XV}{hs1:aj}{b:Ab}{d:Nat}(hd:o.dst=some d)(hlt:Nat.blt d nt=true)(h:∀O,aB O P ops al hs o x hs1 b)(hk:SK P ops nt L l ((d,x)::al) hs1 fun bs=>K (b::bs)):SK P ops nt L (o::l) al hs K:=by
 obtain⟨Lf,h1,h2,h3,h4⟩:=hk;exact⟨Lf,h1,h2,h3,.cons (h _) (by rw[hd];simpa [Nat.blt_eq]using hlt) (by rw[hd];exact h4)⟩
theorem SK.DZ{x:XV}{hs1:aj}{b:Ab}(hd:o.dst = .none)(h:∀O,aB O P ops al hs o x hs1 b)(hk:SK P ops nt L l al hs1 fun bs=>K (b::bs)):SK P ops nt L (o::l) al hs K:=by
 obtain⟨Lf,h1,h2,h3,h4⟩:=hk;exact⟨Lf,h1,h2,h3,.cons (h _) (by rw[hd]) (by rw[hd];exact h4)⟩
theorem wW{Lf:List aA}(hc:ag Lf){e:aA}(he:e∈Lf)(hs0:e.hs=hs)(hsd:e.Sound P){g:Operand}{args:Array Operand}{ts:Array TypeId}(ho:o.op = .call ⟨.value g,args,ts⟩)(hw:aw ops (rg al) o=some true)
 {c:XC}(hg:af (rg al) g = .one c) {caps:List XC}(hx:zo c=some (e.f,caps)) (hcb:eV P e.f=true) (ha:args.toList.map (af (rg al))++caps.map .one=e.args) :
 aB (Gy Lf) P ops al hs o e.v e.hs' ⟨true,.none,e.ws++mV e.hs.length e.hs'.length⟩:=by
 intro m hm;subst hs0;obtain⟨h1,_,h2⟩:=hsd.holds hm;refine⟨e.mem m,?_,h1,h2⟩;unfold ji;rw[hw]
 have e1:c6 (Gy Lf) P (af (rg al)) o.op m=some (e.v,e.mem m):=by
  rw[ho];simp only[c6,hg,hx,hcb,if_true,ha,Gz hc he hm]
 have n1:aZ P (af (rg al)) o.op = .none:=by rw[ho];rfl
 have n2:qf (Gy Lf) (af (rg al)) o.op = .none:=by rw[ho];rfl
 have n3:eX P (af (rg al)) o.op = .none:=by rw[ho];rfl
 have n4:cf P (af (rg al)) o.op m = .none:=by rw[ho];rfl
 simp only[dG,dJ,n1,n2,n3,n4,e1]
theorem ay{f:FuncId}{vs:List XV}{v:XV}{hs':aj}{ws:List Nat}(hi:aA.Sound P ⟨f,vs,hs,v,hs',ws⟩){g:Operand}{args:Array Operand}{ts:Array TypeId}(ho:o.op = .call ⟨.value g,args,ts⟩)(hw:aw ops (rg al) o=some true)
 {d:Nat}(hd:o.dst=some d) (hlt:Nat.blt d nt=true) {c:XC}(hg:af (rg al) g = .one c) {caps:List XC}(hx:zo c=some (f,caps)) (hcb:eV P f=true) (ha:args.toList.map (af (rg al))++caps.map .one=vs)
 (hk:SK P ops nt (⟨f,vs,hs,v,hs',ws⟩::L) l ((d,v)::al) hs' fun bs=>K (⟨true,.none,ws++mV hs.length hs'.length⟩::bs)):SK P ops nt L (o::l) al hs K:=by
 obtain⟨Lf,h1,h2,h3,h4⟩:=hk;refine⟨Lf,fun e he=>h1 e (List.mem_cons_of_mem _ he),fun e he=>?_,h3,.cons (wW h3 (h1 _ (List.mem_cons_self ..)) rfl hi ho hw hg hx hcb ha) (by rw[hd];simpa [Nat.blt_eq]using hlt) (by rw[hd];exact h4)⟩
 rcases h2 e he with h|h
 ·rcases List.mem_cons.1 h with rfl|h
  ·exact .inr hi
  ·exact .inl h
 ·exact .inr h
theorem JH{f:FuncId}{vs:List XV}{v:XV}{hs':aj}{ws:List Nat}(hi:aA.Sound P ⟨f,vs,hs,v,hs',ws⟩){g:Operand}{args:Array Operand}{ts:Array TypeId}(ho:o.op = .call ⟨.value g,args,ts⟩)(hw:aw ops (rg al) o=some true)
 (hd:o.dst = .none) {c:XC}(hg:af (rg al) g = .one c) {caps:List XC}(hx:zo c=some (f,caps)) (hcb:eV P f=true) (ha:args.toList.map (af (rg al))++caps.map .one=vs)
 (hk:SK P ops nt (⟨f,vs,hs,v,hs',ws⟩::L) l al hs' fun bs=>K (⟨true,.none,ws++mV hs.length hs'.length⟩::bs)):SK P ops nt L (o::l) al hs K:=by
 obtain⟨Lf,h1,h2,h3,h4⟩:=hk;refine⟨Lf,fun e he=>h1 e (List.mem_cons_of_mem _ he),fun e he=>?_,h3,.cons (wW h3 (h1 _ (List.mem_cons_self ..)) rfl hi ho hw hg hx hcb ha) (by rw[hd]) (by rw[hd];exact h4)⟩
 rcases h2 e he with h|h
 ·rcases List.mem_cons.1 h with rfl|h
  ·exact .inr hi
  ·exact .inl h
 ·exact .inr h
theorem vF(τ : Nat->Nat)(hs:aj):View τ hs []:=⟨fun _ h=>absurd h (Nat.not_lt_zero _),fun _ _ _ _ h=>by simp at h,fun _ _ h=>by simp at h,fun _ _ h=>by simp at h⟩
theorem az{f:FuncId}{args:List XV}{v:XV}(hc:bt P f args [] v [])(ha:(args.all XV.shut)=true)(hv:v.shut=true)(hb:Nat.blt hs.length Mem.bound=true):aA.Sound P ⟨f,args,hs,v,hs,[]⟩:=by
 have ha':∀x∈args,x.shut=true:=List.all_eq_true.1 ha;refine⟨Nat.le_refl _,by simpa [Nat.blt_eq]using hb,fun _ _ _=>rfl,fun M M' hM hM'=>?_⟩;have:=B1 hc (Nat.le_refl _) (by decide) (ρ:=id) (HS:=hs) (HS':=hs) (vF _ _) (fun x hx=>XV.kE (ha' x hx) _) ⟨by simp,fun _ _ h=>by simp at h,fun _ _ _=>rfl⟩ (fun _ _ h=>by simp at h) hM hM';rw[lH ha',XV.dU hv]at this;exact this
theorem Fu{f:FuncId}{args args':List XV}{hs0:aj}{v v':XV}(hc:bt P f args hs0 v hs0){ρ : Nat->Nat}(hview:View ρ hs hs0)(hlive:∀o∈hs0,o.live=true)(ha:∀x∈args,x.bK hs0.length)(e1:args.map (·.aC ρ)=args')(hv:v.bK hs0.length)(e2:v.aC ρ = v')(hb:Nat.blt hs.length Mem.bound=true)(hb0:Nat.blt hs0.length Mem.bound=true) :
 aA.Sound P ⟨f,args',hs,v',hs,[]⟩:=by
 refine⟨Nat.le_refl _,by simpa [Nat.blt_eq]using hb,fun _ _ _=>rfl,fun M M' hM hM'=>?_⟩;have key:∀j,j<hs0.length->beyond ρ hs0.length hs.length j = ρ j:=fun j hj=>if_pos hj
 have kc:∀c:XC,c.ok hs0.length->c.aC (beyond ρ hs0.length hs.length)=c.aC ρ:=by
  intro c
  induction c with
  | ptr i off=>exact fun h=>by simp only[XC.aC,key i h]
  | slice i off len cap=>exact fun h=>by simp only[XC.aC,key i h]
  | map i=>exact fun h=>by simp only[XC.aC,key i h]
  | lsl g k off len fl cut=>exact fun h=>by simp only[XC.aC,key g h]
  | lpt g k off=>exact fun h=>by simp only[XC.aC,key g h]
  | bind g c ih1 ih2=>exact fun h=>by simp only[XC.aC,ih1 h.1,ih2 h.2]
  | _=>intro _;rfl
 have kcs:∀cs:List XC,(∀c∈cs,c.ok hs0.length)->cs.map (·.aC (beyond ρ hs0.length hs.length))=cs.map (·.aC ρ):=fun cs h=>List.map_congr_left fun c hc=>kc c (h c hc)
 have k1:∀x:X1,x.ok hs0.length->x.aC (beyond ρ hs0.length hs.length)=x.aC ρ:=fun x h=>by
  cases x with
  | one c=>simp only[X1.aC,kc c h]
  | agg cs=>simp only[X1.aC,kcs cs h]
 have kv:∀x:XV,x.bK hs0.length->x.aC (beyond ρ hs0.length hs.length)=x.aC ρ:=fun x h=>by
  cases x with
  | undef=>rfl
  | one c=>simp only[XV.aC,kc c h]
  | agg cs=>simp only[XV.aC,kcs cs h]
  | tup xs=>simp only[XV.aC];rw[List.map_congr_left fun c hc=>k1 c (h c hc)]
 have ko:∀x:ak,x.bK hs0.length->x.aC (beyond ρ hs0.length hs.length)=x.aC ρ:=fun x h=>by
  cases x with
  | dead=>rfl
  | late L=>rfl
  | cells vs e a b=>simp only[ak.aC,kcs vs h]
  | map es=>simp only[ak.aC];rw[List.map_congr_left fun p hp=>by rw[k1 _ (h p hp).1,k1 _ (h p hp).2]]
 have:=B1 hc (Nat.le_refl _) (by simpa [Nat.blt_eq]using hb0) (HS:=hs) (HS':=hs) hview ha ⟨by simp,fun j o h=>?_,fun _ _ _=>rfl⟩ (fun j o h hl _=>⟨o,h,hl⟩) hM hM'
 ·rw[e1,kv v hv,e2]at this;exact this
 ·have hj:j<hs0.length:=(List.getElem?_eq_some_iff.1 h).1;rw[key j hj,ko o (hview.ok j o h)]
  rcases hview.obj j o h with e|e
  ·have:=hlive o (List.mem_of_getElem? h);rw[e]at this;cases this
  ·exact e
theorem tk{f:FuncId}{args args':List XV}{hs0 hs0' hs':aj}{v v':XV}{ws:List Nat}(hc:bt P f args hs0 v hs0'){ρ : Nat->Nat}(hle:hs0.length<=hs0'.length)(hview:View ρ hs hs0)(ha:∀x∈args,x.bK hs0.length)(e1:args.map (·.aC ρ)=args')(e2:v.aC (beyond ρ hs0.length hs.length)=v')(haf:Ng ρ hs0.length hs hs0' hs')(hro:∀(j:Nat) (o:ak),hs0'[j]? = some o->o.live=true->o.own=false->∃o0,hs0[j]? = some o0/\o0.live=true)
 (hsame:∀i,i<hs.length->i∉ws->hs'[i]? = hs[i]?) (hb:Nat.blt hs'.length Mem.bound=true) (hb0:Nat.blt hs0.length Mem.bound=true):aA.Sound P ⟨f,args',hs,v',hs',ws⟩:=by
 have hl:=haf.len;refine⟨by show hs.length<=hs'.length;omega,by simpa [Nat.blt_eq]using hb,hsame,fun M M' hM hM'=>?_⟩;have:=B1 hc hle (by simpa [Nat.blt_eq]using hb0) hview ha haf hro hM hM';rw[e1,e2]at this;exact this
section
variable {K:cu}
theorem WX.Qz{id:Nat}(h:SK P ops nt [] ops.toList al hs fun _ al' hs'=>K .normal al' hs'):WX P nt nI (.code (.region id ops false)) al hs K:=by
 obtain⟨Lf,h1,h2,h3,h4⟩:=h;exact WX.Ss (p5 fun e he=>(h2 e he).resolve_left (by simp)) h4
theorem WX.Of(hP:P.follows .mixedOrders=true){id:Nat}(hst:da ops nt (iQ ops.toList)=true)(h:SK P ops nt [] ops.toList al hs fun bs al' hs'=>wY (iQ ops.toList) bs=true/\K .normal al' hs'):WX P nt nI (.code (.region id ops true)) al hs K:=by
 obtain⟨Lf,h1,h2,h3,h4⟩:=h;exact WX.QS (p5 fun e he=>(h2 e he).resolve_left (by simp)) hP hst h4
end
end Go.Xm
namespace Go.Xm
variable [aq]
def iw(m m':Mem):Prop:=m.n<=Mem.bound->m'.n<=Mem.bound/\m.n<=m'.n/\∀j,j<m'.n->(m'.get j).live=true->(m'.get j).own=true\/(j<m.n/\m.get j=m'.get j)
theorem iw.same(m:Mem):iw m m:=fun hb=>⟨hb,Nat.le_refl _,fun j hj _ => .inr ⟨hj,rfl⟩⟩
theorem iw.trans{a b c:Mem}(h1:iw a b)(h2:iw b c):iw a c:=fun hb=>by
 obtain⟨k1,k2,k3⟩:=h1 hb;obtain⟨l1,l2,l3⟩:=h2 k1;refine⟨l1,Nat.le_trans k2 l2,fun j hj hl=>?_⟩
 rcases l3 j hj hl with h|⟨h,he⟩
 ·exact .inl h
 ·rcases k3 j h (by rw[he];exact hl)with h'|⟨h',he'⟩
  ·exact .inl (by rw[<-he];exact h')
  ·exact .inr ⟨h',he'.trans he⟩
theorem iw.put(m:Mem)(i:Nat){o:ak}(ho:o.own=true\/o.live=false):iw m (m.put i o):=fun hb=>by
 refine⟨by rw[Mem.dZ];exact hb,by rw[Mem.dZ];exact Nat.le_refl _,fun j hj hl=>?_⟩;rw[Mem.dZ]at hj
 by_cases hji:j=i
 ·subst hji;rw[Mem.ff m o hj (by omega)]at hl ⊢
  rcases ho with h|h
  ·exact .inl h
  ·rw[h]at hl;cases hl
 ·have:(m.put i o).get j=m.get j:=by
   show((m.put i o).f4 j).obj=(m.f4 j).obj;rw[Mem.gY m o hji]
  exact .inr ⟨hj,this.symm⟩
theorem iw.push{m m':Mem}{o:ak}(ho:o.own=true\/o.live=false)(h:m.push o=some m'):iw m m':=fun hb=>by
 obtain⟨h1,h2,h3,h4⟩:=Mem.bu h;refine⟨by omega,by omega,fun j hj hl=>?_⟩
 by_cases hjn:j=m.n
 ·subst hjn;have:m'.get m.n=o:=by show(m'.f4 m.n).obj=o;rw[h3]
  rw[this]at hl ⊢
  rcases ho with h|h
  ·exact .inl h
  ·rw[h]at hl;cases hl
 ·have:m'.get j=m.get j:=by
   show(m'.f4 j).obj=(m.f4 j).obj;rw[h4 j hjn]
  exact .inr ⟨by omega,this.symm⟩
theorem GV{P:Program}{ρ : Operand->XV}{op:Op}{m m':Mem}{r:XV}(h:cf P ρ op m=some (r,m')):iw m m':=by
 unfold cf oD GS y8 kX dz mj hJ jb jh vK at h
 (repeat' split at h)<;>first
   | (cases h;done)
   | (cases h;exact .same _)
   | (cases h;exact .put _ _ (.inl rfl))
   | (cases h;exact .push (.inl rfl) ‹_›)
   | (cases h;exact .trans (.put _ _ (.inr rfl)) (.push (.inl rfl) ‹_›))
def yx(o:Oper):Bool:=match o.op with
 | .call ⟨.value _,_,_⟩=>false
 | _=>true
theorem PV{O : dm}{P:Program}{ops:Array Oper}{g:Nat->XV}{o:Oper}{m:Mem}{d:Out}(hn:yx o=true)(h:ji O P ops g o m=some d):iw m d.m:=by
 unfold ji at h;split at h
 ·unfold dG at h;split at h
  ·cases h;exact .same _
  ·split at h
   ·split at h
    ·cases h;exact .same _
    ·cases h
   ·split at h
    ·rename_i x m' hx;cases h;exact GV hx
    ·split at h
     ·rename_i x m' hx;exfalso;unfold c6 at hx;split at hx
      ·rename_i hop;unfold yx at hn;rw[hop]at hn;cases hn
      ·cases hx
     ·cases h
 ·cases h;exact .same _
 ·cases h
end Go.Xm
namespace Go.Xm
variable [aq]
variable {P:Program} {ops:Array Oper} {nt nI:Nat} {al:aO} {hs:aj} {o:Oper} {l:List Oper} {L:List aA} {K:List Ab->aO->aj->Prop} {d:Nat}
theorem En{a:Operand}(ho:o.op = .move a)(hw:aw ops (rg al) o=some true)(hd:o.dst=some d)(hlt:Nat.blt d nt=true){c:XV}(ha:af (rg al) a=c)
 (hk:SK P ops nt L l ((d,c)::al) hs fun bs=>K (quiet::bs)):SK P ops nt L (o::l) al hs K:=
 SK.lift hd hlt (fun _=>aB.pure hw (by rw[ho];simp only[aZ,ha])) hk
theorem Gf{a:Operand}(ho:o.op = .assign a)(hw:aw ops (rg al) o=some true)(hd:o.dst=some d)(hlt:Nat.blt d nt=true){c:XV}(ha:af (rg al) a=c)
 (hk:SK P ops nt L l ((d,c)::al) hs fun bs=>K (quiet::bs)):SK P ops nt L (o::l) al hs K:=
 SK.lift hd hlt (fun _=>aB.pure hw (by rw[ho];simp only[aZ,ha])) hk
theorem JN{a b c:Operand}(ho:o.op = .pick c a b)(hw:aw ops (rg al) o=some true)(hd:o.dst=some d)(hlt:Nat.blt d nt=true)(hc:af (rg al) c = .one (.bool true)){x:Bool}(ha:af (rg al) a = .one (.bool x))
 (hk:SK P ops nt L l ((d,.one (.bool x))::al) hs fun bs=>K (quiet::bs)):SK P ops nt L (o::l) al hs K:=
 SK.lift hd hlt (fun _=>aB.pure hw (by rw[ho];simp only[aZ,hc,if_true,ha])) hk
theorem JM{a b c:Operand}(ho:o.op = .pick c a b)(hw:aw ops (rg al) o=some true)(hd:o.dst=some d)(hlt:Nat.blt d nt=true)(hc:af (rg al) c = .one (.bool false)){x:Bool}(ha:af (rg al) b = .one (.bool x))
 (hk:SK P ops nt L l ((d,.one (.bool x))::al) hs fun bs=>K (quiet::bs)):SK P ops nt L (o::l) al hs K:=
 SK.lift hd hlt (fun _=>aB.pure hw (by rw[ho];simp only[aZ,hc,Bool.false_eq_true,if_false,ha])) hk
theorem Pt{a:Operand}{t:TypeId}(ho:o.op = .unOp .not t a)(hw:aw ops (rg al) o=some true)(hd:o.dst=some d)(hlt:Nat.blt d nt=true){x y:Bool}(ha:af (rg al) a = .one (.bool x))(hy:(!x)=y)
 (hk:SK P ops nt L l ((d,.one (.bool y))::al) hs fun bs=>K (quiet::bs)):SK P ops nt L (o::l) al hs K:=
 SK.lift hd hlt (fun _=>aB.pure hw (by rw[ho];simp only[aZ,ha,RV,hy])) hk
section
variable {t t':TypeId} {a b:Operand} {k k' k'':IntKind} {x y z:Int}
theorem gG{op:BinOp}(ho:o.op = .binOp op t a b t')(hw:aw ops (rg al) o=some true)(hd:o.dst=some d)(hlt:Nat.blt d nt=true)(ha:af (rg al) a = .one (.int k x))(hb:af (rg al) b = .one (.int k' y))
 (hc:bE op k k' x y=some (.int k'' z)) (hk:SK P ops nt L l ((d,.one (.int k'' z))::al) hs fun bs=>K (quiet::bs)):SK P ops nt L (o::l) al hs K:=
 SK.lift hd hlt (fun _=>aB.bin hw ho ha hb hc) hk
theorem Pu(ho:o.op = .binOp .rem t a b t')(hw:aw ops (rg al) o=some true)(hd:o.dst=some d)(hlt:Nat.blt d nt=true)(ha:af (rg al) a = .one (.int k x))(hb:af (rg al) b = .one (.int k y))
 (hx:0<=x) (hy:y≠0) (hk:SK P ops nt L l ((d,.one (.int k (x%y)))::al) hs fun bs=>K (quiet::bs)):SK P ops nt L (o::l) al hs K:=
 gG ho hw hd hlt ha hb (by simp only[bE,dW,if_true,hy,if_false,Int.tmod_eq_emod_of_nonneg hx]) hk
theorem JL{ts:Array TypeId}(ho:o.op = .call ⟨.builtin .max,#[a,b],ts⟩)(hw:aw ops (rg al) o=some true)(hd:o.dst=some d)(hlt:Nat.blt d nt=true)(ha:af (rg al) a = .one (.int k x))(hb:af (rg al) b = .one (.int k' y))(hz:max x y=z)
 (hk:SK P ops nt L l ((d,.one (.int k z))::al) hs fun bs=>K (quiet::bs)):SK P ops nt L (o::l) al hs K:=
 SK.lift hd hlt (fun _=>aB.pure hw (by
  have e:(if y>x then y else x)=z:=by rw[<-hz,Int.max_def];by_cases h:y>x<;>by_cases h':x<=y<;>simp[h,h']<;>omega
  rw[ho];simp only[aZ,ej,List.map_cons,List.map_nil,ha,hb,kT,e,Option.map_some])) hk
theorem CR{ts:Array TypeId}(ho:o.op = .call ⟨.builtin .min,#[a,b],ts⟩)(hw:aw ops (rg al) o=some true)(hd:o.dst=some d)(hlt:Nat.blt d nt=true)(ha:af (rg al) a = .one (.int k x))(hb:af (rg al) b = .one (.int k' y))(hz:min x y=z)
 (hk:SK P ops nt L l ((d,.one (.int k z))::al) hs fun bs=>K (quiet::bs)):SK P ops nt L (o::l) al hs K:=
 SK.lift hd hlt (fun _=>aB.pure hw (by
  have e:(if y<x then y else x)=z:=by rw[<-hz,Int.min_def];by_cases h:y<x<;>by_cases h':x<=y<;>simp[h,h']<;>omega
  rw[ho];simp only[aZ,ej,List.map_cons,List.map_nil,ha,hb,kU,e,Option.map_some])) hk
end
theorem Ek{s t:TypeId}{y:Operand}{u:TypeDesc}(ho:o.op = .convert s t y)(hw:aw ops (rg al) o=some true)(hd:o.dst=some d)(hlt:Nat.blt d nt=true){k k':IntKind}{x z:Int}(hy:af (rg al) y = .one (.int k x))[aQ P s u][h:aQ P t (.int k')](hz:k'.wrap x=z)
 (hk:SK P ops nt L l ((d,.one (.int k' z))::al) hs fun bs=>K (quiet::bs)):SK P ops nt L (o::l) al hs K:=
 SK.lift hd hlt (fun _=>aB.conv hw ho hy (by simp only[kP,aQ.out (P:=P) (t:=s),aQ.out (P:=P) (t:=t)]) hz) hk
theorem Ps{a:Operand}(ho:o.op = .nilCheck a)(hw:aw ops (rg al) o=some true)(hd:o.dst=some d)(hlt:Nat.blt d nt=true){i off:Nat}(ha:af (rg al) a = .one (.ptr i off))
 (hk:SK P ops nt L l ((d,.one (.ptr i off))::al) hs fun bs=>K (quiet::bs)):SK P ops nt L (o::l) al hs K:=
 SK.lift hd hlt (fun _=>aB.pure hw (by rw[ho];simp only[aZ,ha,mo])) hk
theorem Pp{s:TypeId}{a:Operand}{f:Nat}(ho:o.op = .fieldAddr s a f)(hw:aw ops (rg al) o=some true)(hd:o.dst=some d)(hlt:Nat.blt d nt=true){i off:Nat}(ha:af (rg al) a = .one (.ptr i off)){ft:TypeId}{fo z:Nat}[hf:bD P s f ft fo][hz:aH P ft (z+1)]
 {p:Nat}(hp:off+fo=p) (hk:SK P ops nt L l ((d,.one (.ptr i p))::al) hs fun bs=>K (quiet::bs)):SK P ops nt L (o::l) al hs K:=by
 obtain⟨fd,h1,h2,h3⟩:=hf.ex;exact SK.lift hd hlt (fun _=>aB.pure hw (by rw[ho];simp only[aZ,fw,h1,ha,h2,hz.out,h3,hp])) hk
theorem MC{t:TypeId}{a b:Operand}{len:Nat}{elem:TypeId}{s:Nat}(ho:o.op = .indexAddr t a b)(hw:aw ops (rg al) o=some true)(hd:o.dst=some d)(hlt:Nat.blt d nt=true){i off:Nat}(ha:af (rg al) a = .one (.ptr i off)){k:IntKind}{z:Int}(hb:af (rg al) b = .one (.int k z))[hu:aQ P t (.array len elem)][hs':aH P elem s](hz:0<=z/\z<len)
 {p:Nat}(hp:off+z.toNat*s=p) (hk:SK P ops nt L l ((d,.one (.ptr i p))::al) hs fun bs=>K (quiet::bs)):SK P ops nt L (o::l) al hs K:=
 SK.lift hd hlt (fun _=>aB.pure hw (by rw[ho];simp only[aZ,b_,ha,hb,hu.out,hs'.out,if_pos hz,Option.map_some,hp])) hk
theorem El{t:TypeId}{a b:Operand}{elem:TypeId}{s:Nat}(ho:o.op = .indexAddr t a b)(hw:aw ops (rg al) o=some true)(hd:o.dst=some d)(hlt:Nat.blt d nt=true){i off len:Nat}{cap:pr}(ha:af (rg al) a = .one (.slice i off len cap)){k:IntKind}{z:Int}(hb:af (rg al) b = .one (.int k z))[hu:aQ P t (.slice elem)][hs':aH P elem s](hz:0<=z/\z<len)
 {p:Nat}(hp:off+z.toNat*s=p) (hk:SK P ops nt L l ((d,.one (.ptr i p))::al) hs fun bs=>K (quiet::bs)):SK P ops nt L (o::l) al hs K:=
 SK.lift hd hlt (fun _=>aB.pure hw (by rw[ho];simp only[aZ,b_,ha,hb,hu.out,hs'.out,if_pos hz,Option.map_some,hp])) hk
theorem JI{s:TypeId}{a:Operand}{f:Nat}(ho:o.op = .field s a f)(hw:aw ops (rg al) o=some true)(hd:o.dst=some d)(hlt:Nat.blt d nt=true){cs:List XC}(ha:af (rg al) a = .agg cs){ft:TypeId}{fo:Nat}[hf:bD P s f ft fo][hz:cR P ft]{c:XC}(hc:cs[fo]? = some c)
 (hk:SK P ops nt L l ((d,.one c)::al) hs fun bs=>K (quiet::bs)):SK P ops nt L (o::l) al hs K:=by
 obtain⟨fd,h1,h2,h3⟩:=hf.ex;exact SK.lift hd hlt (fun _=>aB.pure hw (by rw[ho];simp only[aZ,y4,h1,ha,h2,h3,gz,hz.out,hc,Option.map_some,X1.p6])) hk
theorem Po{a:Operand}{i:Nat}(ho:o.op = .extract a i)(hw:aw ops (rg al) o=some true)(hd:o.dst=some d)(hlt:Nat.blt d nt=true){vs:List X1}(ha:af (rg al) a = .tup vs){c:XC}(hc:vs[i]? = some (.one c))
 (hk:SK P ops nt L l ((d,.one c)::al) hs fun bs=>K (quiet::bs)):SK P ops nt L (o::l) al hs K:=
 SK.lift hd hlt (fun _=>aB.pure hw (by rw[ho];simp only[aZ,ha,jE,hc,Option.map_some,X1.p6])) hk
theorem MA{a:Operand}{i:Nat}(ho:o.op = .extract a i)(hw:aw ops (rg al) o=some true)(hd:o.dst=some d)(hlt:Nat.blt d nt=true){vs:List X1}(ha:af (rg al) a = .tup vs){c:List XC}(hc:vs[i]? = some (.agg c))
 (hk:SK P ops nt L l ((d,.agg c)::al) hs fun bs=>K (quiet::bs)):SK P ops nt L (o::l) al hs K:=
 SK.lift hd hlt (fun _=>aB.pure hw (by rw[ho];simp only[aZ,ha,jE,hc,Option.map_some,X1.p6])) hk
theorem MF{a:Operand}{t:TypeId}{elem:TypeId}(ho:o.op = .call ⟨.builtin .len,#[a],#[t]⟩)(hw:aw ops (rg al) o=some true)(hd:o.dst=some d)(hlt:Nat.blt d nt=true){i off len:Nat}{cap:pr}(ha:af (rg al) a = .one (.slice i off len cap))[hu:aQ P t (.slice elem)]
 (hk:SK P ops nt L l ((d,.one (.int .i64 (len:Nat)))::al) hs fun bs=>K (quiet::bs)):SK P ops nt L (o::l) al hs K:=
 SK.lift hd hlt (fun _=>aB.pure hw (by rw[ho];simp[aZ,ej,ha,y7,hu.out])) hk
theorem fU{t:TypeId}{a:Operand}(ho:o.op = .load t a)[ht:cR P t](hw:aw ops (rg al) o=some true)(hd:o.dst=some d)(hlt:Nat.blt d nt=true){i off:Nat}(ha:af (rg al) a = .one (.ptr i off)){vs:List XC}{e:TypeId}{opn ro:Bool}(hi:hs[i]? = some (.cells vs e opn ro)){c:XC}(hc:vs[off]? = some c)
 (hk:SK P ops nt L l ((d,.one c)::al) hs fun bs=>K (⟨false,some i,[]⟩::bs)):SK P ops nt L (o::l) al hs K:=
 SK.lift hd hlt (fun _=>aB.load hw ho ha hi (Ac ht.out hc)) hk
theorem CP{t:TypeId}{a:Operand}{s:Nat}(ho:o.op = .load t a)[ht:dk P t][hs':aH P t s](hw:aw ops (rg al) o=some true)(hd:o.dst=some d)(hlt:Nat.blt d nt=true){i:Nat}(ha:af (rg al) a = .one (.ptr i 0)){vs:List XC}{e:TypeId}{opn ro:Bool}(hi:hs[i]? = some (.cells vs e opn ro))(hle:s=vs.length)
 (hk:SK P ops nt L l ((d,.agg vs)::al) hs fun bs=>K (⟨false,some i,[]⟩::bs)):SK P ops nt L (o::l) al hs K:=
 SK.lift hd hlt (fun _=>aB.load (x := .agg vs) hw ho ha hi (Aa ht.out (by rw[hs'.out,hle]))) hk
theorem vp{t:TypeId}{a:Operand}{s:Nat}(ho:o.op = .load t a)[ht:dk P t][hs':aH P t s](hw:aw ops (rg al) o=some true)(hd:o.dst=some d)(hlt:Nat.blt d nt=true){i off:Nat}(ha:af (rg al) a = .one (.ptr i off)){vs:List XC}{e:TypeId}{opn ro:Bool}(hi:hs[i]? = some (.cells vs e opn ro))(hle:off+s<=vs.length){cs:List XC}(hc:(vs.drop off).take s=cs)
 (hk:SK P ops nt L l ((d,.agg cs)::al) hs fun bs=>K (⟨false,some i,[]⟩::bs)):SK P ops nt L (o::l) al hs K:=
 SK.lift hd hlt (fun _=>aB.load (x := .agg cs) hw ho ha hi (by simp only[dC,ht.out,hs'.out,if_pos hle,hc])) hk
theorem JG{t:TypeId}{zs:List XC}(ho:o.op = .alloc t)[hz:aM P t zs](hw:aw ops (rg al) o=some true)(hd:o.dst=some d)(hlt:Nat.blt d nt=true){n:Nat}(hn:hs.length=n)(hb:Nat.blt n Mem.bound=true){hs':aj}(hh:hs++[.cells zs t false false]=hs')
 (hk:SK P ops nt L l ((d,.one (.ptr n 0))::al) hs' fun bs=>K (⟨true,.none,[n]⟩::bs)):SK P ops nt L (o::l) al hs K:=by
 subst hn hh;exact SK.lift hd hlt (fun _=>aB.alloc hw ho hz.out hb) hk
theorem Pj{t:TypeId}{y:Operand}(ho:o.op = .box t y)(hw:aw ops (rg al) o=some true)(hd:o.dst=some d)(hlt:Nat.blt d nt=true){cs:List XC}(hy:cQ (af (rg al) y)=some cs){n:Nat}(hn:hs.length=n)(hb:Nat.blt n Mem.bound=true){hs':aj}(hh:hs++[.cells cs t false false]=hs')
 (hk:SK P ops nt L l ((d,.one (.ptr n 0))::al) hs' fun bs=>K (⟨true,.none,[n]⟩::bs)):SK P ops nt L (o::l) al hs K:=by
 subst hn hh;exact SK.lift hd hlt (fun _=>aB.box hw ho hy hb) hk
theorem kH{t:TypeId}{a y:Operand}(ho:o.op = .store t a y)[ht:aH P t 1](hw:aw ops (rg al) o=some true)(hd:o.dst = .none){i off:Nat}(ha:af (rg al) a = .one (.ptr i off)){c:XC}(hy:cQ (af (rg al) y)=some [c]){vs:List XC}{e:TypeId}{opn:Bool}(hi:hs[i]? = some (.cells vs e opn false))(hle:off<vs.length)
 {vs':List XC}(hv:vs.set off c=vs') {hs':aj}(hh:hs.set i (.cells vs' e opn false)=hs') (hk:SK P ops nt L l al hs' fun bs=>K (⟨true,.none,[i]⟩::bs)):SK P ops nt L (o::l) al hs K:=by
 subst hv hh;exact SK.DZ hd (fun _=>aB.store hw ho ha hy ht.out hi (by simp only[List.length_cons,List.length_nil];omega) (Gv hle)) hk
theorem Gm{t:TypeId}{a y:Operand}{s:Nat}(ho:o.op = .store t a y)[ht:aH P t s](hw:aw ops (rg al) o=some true)(hd:o.dst = .none){i:Nat}(ha:af (rg al) a = .one (.ptr i 0)){cs:List XC}(hy:cQ (af (rg al) y)=some cs){vs:List XC}{e:TypeId}{opn:Bool}(hi:hs[i]? = some (.cells vs e opn false))(hs1:s=cs.length)(hs2:s=vs.length)
 {hs':aj}(hh:hs.set i (.cells cs e opn false)=hs') (hk:SK P ops nt L l al hs' fun bs=>K (⟨true,.none,[i]⟩::bs)):SK P ops nt L (o::l) al hs K:=by
 subst hh;exact SK.DZ hd (fun _=>aB.store hw ho ha hy (by rw[ht.out,hs1]) hi (by omega) (Gu (by omega))) hk
theorem Gn{t:TypeId}{a y:Operand}{s:Nat}(ho:o.op = .store t a y)[ht:aH P t s](hw:aw ops (rg al) o=some true)(hd:o.dst = .none){i off:Nat}(ha:af (rg al) a = .one (.ptr i off)){cs:List XC}(hy:cQ (af (rg al) y)=some cs){vs:List XC}{e:TypeId}{opn:Bool}(hi:hs[i]? = some (.cells vs e opn false))(hs1:s=cs.length)(hs2:off+s<=vs.length)
 {vs':List XC}(hv:vs.take off++cs++vs.drop (off+s)=vs') {hs':aj}(hh:hs.set i (.cells vs' e opn false)=hs') (hk:SK P ops nt L l al hs' fun bs=>K (⟨true,.none,[i]⟩::bs)):SK P ops nt L (o::l) al hs K:=by
 subst hh;exact SK.DZ hd (fun _=>aB.store hw ho ha hy (by rw[ht.out,hs1]) hi (by omega) (by rw[<-hs1];exact hv)) hk
theorem MG(hw:aw ops (rg al) o=some false)(hd:o.dst=some d)(hlt:Nat.blt d nt=true)(hk:SK P ops nt L l ((d,.tup [])::al) hs fun bs=>K (quiet::bs)):SK P ops nt L (o::l) al hs K:=
 SK.lift hd hlt (fun _=>aB.skip hw) hk
theorem lz(hw:aw ops (rg al) o=some true)(hd:o.dst=some d)(hlt:Nat.blt d nt=true){x:XV}(h:aZ P (af (rg al)) o.op=some x)(hk:SK P ops nt L l ((d,x)::al) hs fun bs=>K (quiet::bs)):SK P ops nt L (o::l) al hs K:=
 SK.lift hd hlt (fun _=>aB.pure hw h) hk
theorem bp(hc:ag L)(h:K [] al hs):SK P ops nt L [] al hs K:=SK.nil hc h
theorem XC.iH:∀c:XC,c.aC id=c:=by
 intro c
 induction c with
 | bind g c ih1 ih2=>simp only[XC.aC,ih1,ih2]
 | _=>rfl
theorem X1.iH(x:X1):x.aC id=x:=by
 cases x with
 | one c=>simp only[X1.aC,XC.iH]
 | agg cs=>simp only[X1.aC];rw[show(fun c:XC=>c.aC id)=id from funext XC.iH,List.map_id]
theorem ak.iH(x:ak):x.aC id=x:=by
 cases x with
 | dead=>rfl
 | late L=>rfl
 | cells vs e a b=>simp only[ak.aC];rw[show(fun c:XC=>c.aC id)=id from funext XC.iH,List.map_id]
 | map es=>simp only[ak.aC,X1.iH];simp
theorem XV.iH(x:XV):x.aC id=x:=by
 cases x with
 | undef=>rfl
 | one c=>simp only[XV.aC,XC.iH]
 | agg cs=>simp only[XV.aC];rw[show(fun c:XC=>c.aC id)=id from funext XC.iH,List.map_id]
 | tup xs=>simp only[XV.aC];rw[show(fun c:X1=>c.aC id)=id from funext X1.iH,List.map_id]
section
variable {K:cu}
theorem WX.QQ{c:Operand}{x y:Code}(hc:af (rg al) c = .one (.bool true))(h:WX P nt nI (.code x) al hs K):WX P nt nI (.code (.cond c x y)) al hs K:=
 WX.cond hc (fun _=>h) (fun h=>by cases h)
theorem WX.QP{c:Operand}{x y:Code}(hc:af (rg al) c = .one (.bool false))(h:WX P nt nI (.code y) al hs K):WX P nt nI (.code (.cond c x y)) al hs K:=
 WX.cond hc (fun h=>by cases h) (fun _=>h)
theorem DX{fn:Func}{n:Nat}{e:XE}{v1 v:XV}{hs':aj}(τ : Nat->Nat)(he:e = .normal\/e = .ret)(hr:sU P fn al hs v1)(hv:v1=v.aC τ)(hok:v.bK hs'.length)(hview:View τ hs hs')(hid:∀j,j<n -> τ j=j):aE P fn n v hs' e al hs:=
 ⟨he,v1,τ,hr,hv,hok,hview,hid⟩
theorem l6{fn:Func}{e:XE}{v1 v:XV}(he:e = .normal\/e = .ret)(hr:sU P fn al hs v1)(hv:v1=v)(hs':v.shut=true):aE P fn 0 v [] e al hs:=
 ⟨he,v1,id,hr,by rw[XV.dU hs'];exact hv,XV.kE hs' _,vF _ _,fun _ h=>absurd h (Nat.not_lt_zero _)⟩
theorem bQ{fn:Func}{e:XE}{v1 v:XV}{hs0 junk:aj}(he:e = .normal\/e = .ret)(hr:sU P fn al hs v1)(hv:v1=v)(hs':v.bK hs0.length)(hh:hs=hs0++junk)(hok:∀o∈hs0,o.bK hs0.length){n:Nat}:aE P fn n v hs0 e al hs:=by
 subst hh;refine⟨he,v1,id,hr,by rw[XV.iH];exact hv,hs',⟨fun j hj=>by simp;omega,fun _ _ _ _ _ _ _ _ h=>h,fun j o h=>hok o (List.mem_of_getElem? h),fun j o h => .inr ?_⟩,fun _ _=>rfl⟩;have hj:j<hs0.length:=(List.getElem?_eq_some_iff.1 h).1;show(hs0++junk)[j]? = _;rw[ak.iH,List.getElem?_append_left hj];exact h
end
end Go.Xm
namespace Go.Xm
variable [aq]
variable {P:Program} {ops:Array Oper} {nt nI:Nat} {al:aO} {hs:aj} {o:Oper} {l:List Oper} {L:List aA} {K:List Ab->aO->aj->Prop} {d:Nat}
section
variable {α γ : Type} [DecidableEq α]
def k_(kc : α->X1)(vc : γ->X1)(M:List (α×γ)):List (X1×X1):=M.map fun p=>(kc p.1,vc p.2)
def gZ(k : α):List (α×γ)->Option (Nat×γ)
 | [] => .none
 | p::M=>if k=p.1 then some (0,p.2)else(gZ k M).map fun q=>(q.1+1,q.2)
def eP(M:List (α×γ))(k : α):Option γ:=(gZ k M).map (·.2)
def wu(M:List (α×γ))(k : α)(v : γ):List (α×γ):=match gZ k M with
 | some (j,_)=>M.set j (k,v)
 | .none=>M++[(k,v)]
theorem FE(k : α):eP ([]:List (α×γ)) k = .none:=rfl
theorem mU(p : α×γ)(M:List (α×γ))(k : α):eP (p::M) k=if k=p.1 then some p.2 else eP M k:=by
 by_cases h:k=p.1
 ·simp[eP,gZ,h]
 ·simp[eP,gZ,h,Function.comp_def]
theorem uG{k : α}:∀{M:List (α×γ)} {j:Nat} {v : γ},gZ k M=some (j,v)->M[j]? = some (k,v)
 | [],j,v,h=>by cases h
 | p :: M,j,v,h=>by
   unfold gZ at h
   by_cases hk:k=p.1
   ·rw[if_pos hk]at h;cases h;simp[hk]
   ·rw[if_neg hk]at h;obtain⟨q,h1,h2⟩:=Option.map_eq_some_iff.1 h;cases h2;simpa using uG (M:=M) (j:=q.1) (v:=q.2) h1
theorem sC{k : α}:∀{M:List (α×γ)},gZ k M = .none->∀p∈M,p.1≠k
 | [],_,p,hp=>by cases hp
 | q :: M,h,p,hp=>by
   unfold gZ at h
   by_cases hk:k=q.1
   ·rw[if_pos hk]at h;cases h
   ·rw[if_neg hk]at h
    rcases List.mem_cons.1 hp with rfl|hp
    ·exact fun e=>hk e.symm
    ·exact sC (by simpa using h) p hp
theorem l9(k : α)(v : γ)(k' : α):∀{M:List (α×γ)},(∀p∈M,p.1≠k)->eP (M++[(k,v)]) k'=if k'=k then some v else eP M k'
 | [],_=>by simp[mU,FE]
 | p::M,h=>by
   have ih:=l9 k v k' (M:=M) fun q hq=>h q (List.mem_cons_of_mem _ hq)
   simp only[List.cons_append,mU,ih];have hp:=h p (List.mem_cons_self ..)
   by_cases h1:k'=p.1
   ·rw[if_pos h1,if_neg (fun e=>hp (by rw[<-h1,e])),if_pos h1]
   ·rw[if_neg h1,if_neg h1]
theorem xk(k : α)(v : γ)(k' : α):∀{M:List (α×γ)} {j:Nat} {u : γ},gZ k M=some (j,u)->eP (M.set j (k,v)) k'=if k'=k then some v else eP M k'
 | [],j,u,h=>by cases h
 | p :: M,j,u,h=>by
   unfold gZ at h
   by_cases hk:k=p.1
   ·rw[if_pos hk]at h;cases h;simp only[List.set_cons_zero,mU]
    by_cases h1:k'=k
    ·simp[h1]
    ·simp only[show p.1=k from hk.symm,h1,if_false]
   ·rw[if_neg hk]at h;obtain⟨q,h1,h2⟩:=Option.map_eq_some_iff.1 h;cases h2;simp only[List.set_cons_succ,mU,xk k v k' (M:=M) (j:=q.1) (u:=q.2) h1]
    by_cases h1:k'=p.1
    ·rw[if_pos h1,if_neg (fun e=>hk (by rw[<-h1,e])),if_pos h1]
    ·rw[if_neg h1,if_neg h1]
theorem rR(M:List (α×γ))(k : α)(v : γ)(k' : α):eP (wu M k v) k'=if k'=k then some v else eP M k':=by
 unfold wu;split
 ·rename_i j u h;exact xk k v k' h
 ·rename_i h;exact l9 k v k' (sC h)
theorem zJ(kc : α->X1)(vc : γ->X1)(M:List (α×γ))(p : α×γ):k_ kc vc (M++[p])=k_ kc vc M++[(kc p.1,vc p.2)]:=by simp[k_]
theorem HT(kc : α->X1)(vc : γ->X1)(M:List (α×γ))(j:Nat)(p : α×γ):k_ kc vc (M.set j p)=(k_ kc vc M).set j (kc p.1,vc p.2):=by simp[k_,List.map_set]
structure tO(P:Program)(kt:TypeId)(kc : α->X1):Prop where
 und:∃ds,P.underlying kt=some ds
 eq:∀a b,bY P 40 kt (kc a) (kc b)=some (decide (a=b))
 check:∀a,ie P 40 kt (kc a)=true
 plain:∀a,tJ (kc a)=true
theorem qd{kt:TypeId}{kc : α->X1}(hk:tO P kt kc)(vc : γ->X1)(k : α):∀(M:List (α×γ)) (i:Nat),kS P kt (kc k) (k_ kc vc M) i=some ((gZ k M).map fun q=>(i+q.1,vc q.2))
 | [],i=>rfl
 | p :: M,i=>by
   have ih:=qd hk vc k M (i+1)
   show(match bY P 40 kt (kc k) (kc p.1)with
    | some true=>some (some (i,vc p.2))
    | some false=>kS P kt (kc k) (k_ kc vc M) (i+1)
    | .none => .none)=_
   rw[hk.eq];unfold gZ
   by_cases h:k=p.1
   ·simp[h]
   ·simp only[h,decide_false,ih,if_false,Option.map_map]
    congr 2
    funext q
    simp only[Function.comp]
    congr 1
    omega
theorem aB.lookup{O:dm}(hw:aw ops (rg al) o=some true){t:TypeId}{x ix:Operand}{ok:Bool}(ho:o.op = .lookup t x ix ok){kt et:TypeId}(hu:P.underlying t=some (.map kt et)){i:Nat}(hx:af (rg al) x = .one (.map i)){key:X1}(hk:p9 (af (rg al) ix)=some key)
 {es:List (X1×X1)}(hi:hs[i]? = some (.map es)) {v:XV}(hv:nf P kt et key ok es=some v):aB O P ops al hs o v hs ⟨false,some i,[]⟩:=by
 intro m hm;refine⟨m,?_,hm,fun _ _=>rfl⟩;unfold ji;rw[hw]
 obtain⟨f,hf1,hf2⟩:∃f,eX P (af (rg al)) o.op=some (i,f)/\∀es',f (.map es')=nf P kt et key ok es':=by
  rw[ho];simp only[eX,hu,hx,hk];exact⟨_,rfl,fun _=>rfl⟩
 refine mh (by rw[ho];rfl) (by rw[ho];rfl) hf1 ?_;rw[hm.at hi,hf2,hv]
theorem Df{kt et:TypeId}{kc : α->X1}(hk:tO P kt kc){vc : γ->X1}{z : γ}(hz:oL P et=some (vc z))(k : α)(M:List (α×γ)) :
 nf P kt et (kc k) true (k_ kc vc M)=some (.tup [vc ((eP M k).getD z),.one (.bool (eP M k).isSome)]):=by
 obtain⟨ds,hu⟩:=hk.und;unfold nf;rw[if_pos (hk.check k),hu,qd hk];unfold eP
 cases h:gZ k M with
 | none=>simp[hz]
 | some q=>simp
theorem Em{t:TypeId}{x ix:Operand}(ho:o.op = .lookup t x ix true){kt et:TypeId}[hu:aQ P t (.map kt et)](hw:aw ops (rg al) o=some true)(hd:o.dst=some d)(hlt:Nat.blt d nt=true){kc : α->X1}(hko:tO P kt kc){vc : γ->X1}{z : γ}(hz:oL P et=some (vc z)){i:Nat}(hx:af (rg al) x = .one (.map i)){k : α}(hk:p9 (af (rg al) ix)=some (kc k))
 {M:List (α×γ)}(hi:hs[i]? = some (.map (k_ kc vc M))) (hn:SK P ops nt L l ((d,.tup [vc ((eP M k).getD z),.one (.bool (eP M k).isSome)])::al) hs fun bs=>K (⟨false,some i,[]⟩::bs)):SK P ops nt L (o::l) al hs K:=
 SK.lift hd hlt (fun _=>aB.lookup hw ho hu.out hx hk hi (Df hko hz k M)) hn
theorem aB.Rn{O:dm}(hw:aw ops (rg al) o=some true){t:TypeId}{x ix y:Operand}(ho:o.op = .mapUpdate t x ix y){kt et:TypeId}(hu:P.underlying t=some (.map kt et)){kc : α->X1}(hko:tO P kt kc){vc : γ->X1}{i:Nat}(hx:af (rg al) x = .one (.map i)){k : α}(hk:p9 (af (rg al) ix)=some (kc k)){v : γ}(hv:p9 (af (rg al) y)=some (vc v))
 {M:List (α×γ)}(hi:hs[i]? = some (.map (k_ kc vc M))):aB O P ops al hs o (.tup []) (hs.set i (.map (k_ kc vc (wu M k v)))) ⟨true,.none,[i]⟩:=by
 intro m hm;refine⟨m.put i (.map (k_ kc vc (wu M k v))),?_,hm.put hi _,tv⟩;unfold ji;rw[hw];refine ct (by rw[ho];rfl) (by rw[ho];rfl) (by rw[ho];rfl) ?_;rw[ho];obtain⟨ds,hd⟩:=hko.und;simp only[cf,hJ,hu,hx,hk,hv,hm.at hi,hko.check k,if_true,hd,qd hko];unfold wu
 cases hl:gZ k M with
 | none=>simp[zJ]
 | some q=>
   have hg:=uG (j:=q.1) (v:=q.2) hl;have e:(k_ kc vc M)[q.1]? = some (kc k,vc q.2):=by simp[k_,hg]
   simp only[Option.map_some,Nat.zero_add,e,hko.plain k,and_self,if_true,HT]
theorem AR{t:TypeId}{x ix y:Operand}(ho:o.op = .mapUpdate t x ix y){kt et:TypeId}[hu:aQ P t (.map kt et)](hw:aw ops (rg al) o=some true)(hd:o.dst = .none){kc : α->X1}(hko:tO P kt kc){vc : γ->X1}{i:Nat}(hx:af (rg al) x = .one (.map i)){k : α}(hk:p9 (af (rg al) ix)=some (kc k)){v : γ}(hv:p9 (af (rg al) y)=some (vc v))
 {M:List (α×γ)}(hi:hs[i]? = some (.map (k_ kc vc M))) {hs':aj}(hh:hs.set i (.map (k_ kc vc (wu M k v)))=hs') (hn:SK P ops nt L l al hs' fun bs=>K (⟨true,.none,[i]⟩::bs)):SK P ops nt L (o::l) al hs K:=by
 subst hh;exact SK.DZ hd (fun _=>aB.Rn hw ho hu.out hko hx hk hv hi) hn
end
theorem aB.makeMap{O:dm}(hw:aw ops (rg al) o=some true){t:TypeId}(ho:o.op = .makeMap t .none)(hb:Nat.blt hs.length Mem.bound=true):aB O P ops al hs o (.one (.map hs.length)) (hs++[.map []]) ⟨true,.none,[hs.length]⟩:=by
 intro m hm;obtain⟨m',h1,h2,h3⟩:=hm.push (.map []) (by simpa [Nat.blt_eq]using hb);refine⟨m',?_,h2,h3⟩;unfold ji;rw[hw];refine ct (by rw[ho];rfl) (by rw[ho];rfl) (by rw[ho];rfl) ?_;rw[ho];simp only[cf,mj,h1,hm.n]
theorem CQ{t:TypeId}(ho:o.op = .makeMap t .none)(hw:aw ops (rg al) o=some true)(hd:o.dst=some d)(hlt:Nat.blt d nt=true){n:Nat}(hn:hs.length=n)(hb:Nat.blt n Mem.bound=true){hs':aj}(hh:hs++[.map []]=hs')
 (hk:SK P ops nt L l ((d,.one (.map n))::al) hs' fun bs=>K (⟨true,.none,[n]⟩::bs)):SK P ops nt L (o::l) al hs K:=by
 subst hn hh;exact SK.lift hd hlt (fun _=>aB.makeMap hw ho hb) hk
theorem OC{kt:TypeId}{k:IntKind}[hu:aQ P kt (.int k)]:tO P kt (fun z:Int => .one (.int k z)):=by
 refine⟨⟨_,hu.out⟩,fun a b=>?_,fun a=>?_,fun a=>rfl⟩
 ·simp only[bY,hu.out,wJ,if_true]
  congr 1
 ·simp only[ie,hu.out]
def jm:List (Nat×XV)->Option (List XC)
 | []=>some []
 | p::r=>match cQ p.2,jm r with
   | some cs,some ds=>some (cs++ds)
   | _,_ => .none
def n5(place:Nat->Option (Nat×Nat))(total:Nat):Nat->List (Nat×XV)->Bool
 | off,[]=>off==total
 | off,p::r=>match place p.1,cQ p.2 with
   | some (a,s),some cs=>a==off&&s==cs.length&&n5 place total (off+s) r
   | _,_=>false
theorem sh{place:Nat->Option (Nat×Nat)}:∀(parts:List (Nat×XV)) (zs:List XC) (off:Nat) (out:List XC),n5 place zs.length off parts=true->jm parts=some out->gQ place zs parts=some (zs.take off++out)
 | [],zs,off,out,h,hc=>by
   simp only[n5,beq_iff_eq]at h;simp only[jm,Option.some.injEq]at hc;subst hc;simp[gQ,h]
 | p :: r, zs,off,out,h,hc=>by
   obtain⟨i,v⟩:=p;unfold n5 at h;simp only at h;split at h
   ·rename_i a s cs h1 h2;simp only[Bool.and_eq_true,beq_iff_eq]at h;obtain⟨⟨rfl,rfl⟩,h3⟩:=h;unfold jm at hc;simp only[h2]at hc;split at hc
    ·rename_i cs' ds hcs hr;cases hcs;cases hc
     have hle:∀(r:List (Nat×XV)) (off:Nat),n5 place zs.length off r=true->off<=zs.length:=by
      intro r
      induction r with
      | nil=>intro off h;simp only[n5,beq_iff_eq]at h;omega
      | cons q r ih=>
        intro off h;unfold n5 at h;split at h
        ·simp only[Bool.and_eq_true]at h;have:=ih _ h.2;omega
        ·cases h
     have hl:=hle r _ h3;unfold gQ;simp only[h1,h2];rw[if_pos ⟨trivial,hl⟩];have hlen:(zs.take a++cs++zs.drop (a+cs.length)).length=zs.length:=by simp;omega
     rw[sh r _ (a+cs.length) ds (by rw[hlen];exact h3) hr]
     have e:(zs.take a++cs++zs.drop (a+cs.length)).take (a+cs.length)=zs.take a++cs:=by
      rw[List.take_append_of_le_length (by simp;omega),List.take_of_length_le (by simp;omega)]
     rw[e,List.append_assoc]
    ·cases hc
   ·cases h
theorem Gh{t:TypeId}{parts:Array (Nat×Operand)}(ho:o.op = .build t parts){zs:List XC}[hz:aM P t zs]{n:Nat}{e:TypeId}[hu:aQ P t (.array n e)]{s:Nat}[hs':aH P e s](hw:aw ops (rg al) o=some true)(hd:o.dst=some d)(hlt:Nat.blt d nt=true)
 (hr:n5 (fun i=>some (i*s,s)) zs.length 0 (parts.toList.map fun p=>(p.1,af (rg al) p.2))=true) {out:List XC}(hc:jm (parts.toList.map fun p=>(p.1,af (rg al) p.2))=some out) {out':List XC}(hn:out=out')
 (hk:SK P ops nt L l ((d,.agg out')::al) hs fun bs=>K (quiet::bs)):SK P ops nt L (o::l) al hs K:=by
 subst hn;exact SK.lift hd hlt (fun _=>aB.pure hw (by rw[ho];simp only[aZ,oF,hz.out,hu.out,hs'.out,sh _ zs 0 out hr hc,Option.map_some,List.take_zero,List.nil_append])) hk
theorem Gj{t:TypeId}{parts:Array (Nat×Operand)}(ho:o.op = .build t parts){zs:List XC}[hz:aM P t zs]{pl:List (Nat×Nat)}[hp:cC P t pl](hw:aw ops (rg al) o=some true)(hd:o.dst=some d)(hlt:Nat.blt d nt=true)
 (hr:n5 (fun i=>pl[i]?) zs.length 0 (parts.toList.map fun p=>(p.1,af (rg al) p.2))=true) {out:List XC}(hc:jm (parts.toList.map fun p=>(p.1,af (rg al) p.2))=some out) {out':List XC}(hn:out=out')
 (hk:SK P ops nt L l ((d,.agg out')::al) hs fun bs=>K (quiet::bs)):SK P ops nt L (o::l) al hs K:=by
 subst hn;obtain⟨fs,h1,h2⟩:=hp.out;exact SK.lift hd hlt (fun _=>aB.pure hw (by rw[ho];simp only[aZ,oF,hz.out,h1,h2,sh _ zs 0 out hr hc,Option.map_some,List.take_zero,List.nil_append])) hk
theorem Gg{t:TypeId}(ho:o.op = .build t #[]){zs:List XC}[hz:aM P t zs]{pl:List (Nat×Nat)}[hp:cC P t pl](hw:aw ops (rg al) o=some true)(hd:o.dst=some d)(hlt:Nat.blt d nt=true)
 (hk:SK P ops nt L l ((d,.agg zs)::al) hs fun bs=>K (quiet::bs)):SK P ops nt L (o::l) al hs K:=by
 obtain⟨fs,h1,h2⟩:=hp.out;exact SK.lift hd hlt (fun _=>aB.pure hw (by rw[ho];simp only[aZ,oF,hz.out,h1,h2,List.map_nil,gQ,Option.map_some])) hk
theorem CN{t:TypeId}(ho:o.op = .build t #[]){zs:List XC}[hz:aM P t zs]{n:Nat}{e:TypeId}[hu:aQ P t (.array n e)]{s:Nat}[hs':aH P e s](hw:aw ops (rg al) o=some true)(hd:o.dst=some d)(hlt:Nat.blt d nt=true)
 (hk:SK P ops nt L l ((d,.agg zs)::al) hs fun bs=>K (quiet::bs)):SK P ops nt L (o::l) al hs K:=
 SK.lift hd hlt (fun _=>aB.pure hw (by rw[ho];simp only[aZ,oF,hz.out,hu.out,hs'.out,List.map_nil,gQ,Option.map_some])) hk
inductive fH(P:Program)(al:aO)(hs:aj):List ResultVar->List X1->Prop where
 | nil:fH P al hs [] []
 | tmp {t:Nat} {x:X1} {l:List ResultVar} {xs:List X1}:p9 (rg al t)=some x->fH P al hs l xs->fH P al hs (.tmp t::l) (x::xs)
 | cell {a i off:Nat} {t:TypeId} {vs:List XC} {e:TypeId} {opn ro:Bool} {x:X1} {l:List ResultVar} {xs:List X1}:rg al a = .one (.ptr i off)->hs[i]? = some (.cells vs e opn ro)->dC P t vs off=some x->fH P al hs l xs->fH P al hs (.cell a t::l) (x::xs)
theorem fH.run{l:List ResultVar}{xs:List X1}(h:fH P al hs l xs){m:Mem}(hm:a_ m hs):gk P (rg al) m l=some xs:=by
 induction h with
 | nil=>rfl
 | tmp h1 _ ih=>simp only[gk,vT,h1,ih]
 | cell h1 h2 h3 _ ih=>simp only[gk,vT,h1,hm.at h2,h3,ih]
theorem fH.one{fn:Func}{l:List ResultVar}{x:X1}(hl:fn.results.toList=l)(h:fH P al hs l [x]):sU P fn al hs x.p6:=fun m hm=>by
 unfold dA;rw[hl,h.run hm]
theorem fH.two{fn:Func}{l:List ResultVar}{x y:X1}{r:List X1}(hl:fn.results.toList=l)(h:fH P al hs l (x::y::r)):sU P fn al hs (.tup (x::y::r)):=fun m hm=>by
 unfold dA;rw[hl,h.run hm]
theorem fH.zero{fn:Func}{l:List ResultVar}(hl:fn.results.toList=l)(h:fH P al hs l []):sU P fn al hs (.tup []):=fun m hm=>by
 unfold dA;rw[hl,h.run hm]
theorem bR{t:TypeId}{s:Nat}[ht:dk P t][hs':aH P t s]{vs:List XC}(h:s=vs.length):dC P t vs 0=some (.agg vs):=Aa ht.out (by rw[hs'.out,h])
def nth(l:List Nat)(j:Nat):Nat:=l.getD j 0
theorem NR{HS hs:aj}(l:List Nat)(hlen:hs.length=l.length)(hd:l.Nodup)(hok:∀o∈hs,o.bK hs.length)(h:∀(j:Nat) (o:ak),hs[j]? = some o->HS[nth l j]? = some (o.aC (nth l))):View (nth l) HS hs:=by
 refine⟨fun j hj=>?_,fun a b _ _ ha hb _ _ hab=>?_,fun j o hj=>hok o (List.mem_of_getElem? hj),fun j o hj => .inr (h j o hj)⟩
 ·have:=h j _ (List.getElem?_eq_getElem hj);exact(List.getElem?_eq_some_iff.1 this).1
 ·have ha:=(List.getElem?_eq_some_iff.1 ha).1;have hb:=(List.getElem?_eq_some_iff.1 hb).1;unfold nth at hab;have ha':a<l.length:=by omega
  have hb':b<l.length:=by omega
  rw[List.getD_eq_getElem?_getD,List.getD_eq_getElem?_getD,List.getElem?_eq_getElem ha',List.getElem?_eq_getElem hb']at hab;exact(List.getElem_inj hd).1 hab
end Go.Xm
namespace Go.Xm
open Go.RowKit (Below)
variable [aq]
variable {P:Program} {ops:Array Oper} {nt nI:Nat} {al:aO} {hs:aj} {o:Oper} {l:List Oper} {L:List aA} {K:List Ab->aO->aj->Prop} {d:Nat}
def NX(c:XC)(i n:Nat):Prop:=(c = .nils/\n=0)\/∃cap,c = .slice i 0 n (.exact cap)
theorem yj{α : Type}(f : α->List XC)(s:Nat):∀(l:List α),(∀a∈l,(f a).length=s)->∀(i:Nat) (a : α),l[i]? = some a->i*s+s<=(l.flatMap f).length/\((l.flatMap f).drop (i*s)).take s=f a
 | [],_,i,a,h=>by simp at h
 | x::l,hl,0,a,h=>by
   simp at h;subst h;have:=hl x (List.mem_cons_self ..);simp only[List.flatMap_cons,List.length_append,Nat.zero_mul,List.drop_zero];exact⟨by omega,by rw[<-this,List.take_left'];rfl⟩
 | x::l,hl,i+1,a,h=>by
   have hx:=hl x (List.mem_cons_self ..);obtain⟨h1,h2⟩:=yj f s l (fun b hb=>hl b (List.mem_cons_of_mem _ hb)) i a (by simpa using h);simp only[List.flatMap_cons,List.length_append,Nat.add_mul,Nat.one_mul];refine⟨by omega,?_⟩;rw[show i*s+s=(f x).length+i*s by omega,<-List.drop_drop,List.drop_left];exact h2
theorem O1{al:aO}{n:Nat}(h:∀p∈al,p.2.bK n)(t:Nat):(rg al t).bK n:=by
 induction al with
 | nil=>trivial
 | cons p al ih=>
   obtain⟨d,v⟩:=p;unfold rg;split
   ·exact h _ (List.mem_cons_self ..)
   ·exact ih fun q hq=>h q (List.mem_cons_of_mem _ hq)
theorem WX.drop{c:sn}{al al2:aO}{hs hs2 junk:aj}{K:cu}(hl:zp al2 al)(hh:hs=hs2++junk)(hle:nI<=hs2.length)(hb:Nat.blt hs2.length Mem.bound=true)(hok:∀o∈hs2,o.bK hs2.length)(hr:∀p∈al2,p.2.bK hs2.length)
 (h:WX P nt nI c al2 hs2 K):WX P nt nI c al hs K:=by
 subst hh;refine WX.view id ⟨fun j hj=>by simp;omega,fun _ _ _ _ _ _ _ _ h=>h,fun j o h=>hok o (List.mem_of_getElem? h),fun j o h => .inr ?_⟩ (fun _ _=>rfl) hle hb (O1 hr) (fun t=>?_) h
 ·have hj:j<hs2.length:=(List.getElem?_eq_some_iff.1 h).1;show(hs2++junk)[j]? = _;rw[ak.iH,List.getElem?_append_left hj];exact h
 ·rcases hl t with e|e
  ·exact .inl e
  ·exact .inr (by rw[XV.iH,e])
section
variable {K:cu}
end
theorem mH{f:FuncId}{args:List XV}{v:XV}(h:Tb P f args v):bt P f args [] v []:=
 fun m hm β w vs hall hw=>(h m β w vs hall hw).mono fun e w' ⟨u,β',he,hu,hst⟩=>⟨u,β',m,he,hm,hu,hst⟩
def pR(m:Mem):aj:=(List.range m.n).map m.get
theorem B3{O:dm}(hO:aS P O)(hP:P.follows .mixedOrders=true){F k:Nat}{f:FuncId}{args:List XV}{v:XV}{hs':aj}(h:((pH O P F k).call f args Mem.empty).map (fun p=>(p.1,pR p.2))=some (v,hs')):bt P f args [] v hs':=by
 obtain⟨⟨v1,m1⟩,h1,h2⟩:=Option.map_eq_some_iff.1 h;simp only[Prod.mk.injEq]at h2;obtain⟨rfl,rfl⟩:=h2;have hs:=sQ hO hP F k;have hc:=hs.call _ _ _ _ _ h1;have hg:=hs.KU _ _ _ _ _ h1;intro m hm β w vs hall hw;have hn:m.n=0:=hm.n
 have hfr:Mem.empty.cg:=fun i _=>by
  show(T.get G9.none .leaf i).ver=0;rw[T.eO];rfl
 have hr:Rel β Mem.empty w:=⟨Nat.zero_le _,hfr,fun i hi=>absurd hi (Nat.not_lt_zero _),fun i j hi=>absurd hi (Nat.not_lt_zero _),fun i hi=>absurd hi (Nat.not_lt_zero _)⟩
 have ni:∀m0:Mem,m0.n=0->∀k,¬kY β m0 k:=fun m0 h0 k ⟨i,hi,_⟩=>by omega
 refine(hc β w vs (by rw[hn]at hall;exact hall) hr).mono fun e w' ⟨u,β',he,hu,hst⟩=>⟨u,β',m1,he,?_,hu,?_⟩
 ·exact⟨by simp[pR],hst.rel.bnd,(hg.mono hfr).2,fun i hi=>by
   show _=(pR m1).getD i .dead
   simp[pR,List.getD_eq_getElem?_getD,hi]⟩
 ·exact⟨by omega,by rw[hn];exact hst.ext,hst.rel,hst.os,hst.tape,hst.output,hst.size,fun k hk _=>hst.frame k hk (ni _ rfl k),fun k hk hi=>absurd (hst.qj k hk hi) (ni _ rfl k),fun k hk hl=>(hst.wa k hk hl).elim (fun h=>absurd h (ni _ rfl k)) (fun⟨i,hi,_⟩=>absurd hi (Nat.not_lt_zero _))⟩
theorem F6{β : Env}{n:Nat}{W:World}{b lo:Nat}{vs:List XC}(hne:0<vs.length)(h:∀(j:Nat) (c:XC),vs[j]? = some c->W.cell? ⟨b,lo+j,none⟩=some (c.den β))(hok:∀c∈vs,c.ok n) :
 ∃e sz,fb β n lo sz (.cells vs e true true) W.heap[b]?:=by
 have hc:∀j,j<vs.length->∃cs e fr,W.heap[b]? = some (.cells cs e fr)/\cs[lo+j]? = some ((vs.getD j .nili).den β):=fun j hj=>by
  have h1:=h j vs[j] (List.getElem?_eq_getElem hj);have e1:vs.getD j .nili=vs[j]:=by simp[List.getD_eq_getElem?_getD,hj]
  unfold World.cell? at h1;split at h1
  ·rename_i cs e fr hg;exact⟨cs,e,fr,hg,by rw[e1];simpa using h1⟩
  ·cases h1
 obtain⟨cs,e,fr,hg,h0⟩:=hc 0 hne
 have hall:∀j,j<vs.length->cs[lo+j]? = some ((vs.getD j .nili).den β):=fun j hj=>by
  obtain⟨cs',e',fr',hg',h1⟩:=hc j hj;rw[hg]at hg';cases hg';exact h1
 have hl0:lo+0<cs.size:=(Array.getElem?_eq_some_iff.1 h0).1;have hll:lo+(vs.length-1)<cs.size:=(Array.getElem?_eq_some_iff.1 (hall (vs.length-1) (by omega))).1;refine⟨e,cs.size-lo,cs,fr,hg,by omega,by simp only[if_true];omega,fun h=>(by cases h),hok,?_⟩;apply List.ext_getElem?;intro j;rw[List.getElem?_take,List.getElem?_drop,List.getElem?_map]
 by_cases hj:j<vs.length
 ·rw[if_pos hj,Array.getElem?_toList,hall j hj,List.getElem?_eq_getElem hj];simp[List.getD_eq_getElem?_getD,hj]
 ·rw[if_neg hj,List.getElem?_eq_none (by omega)];rfl
def ak.Hr:ak->Bool
 | .dead=>true
 | .cells _ _ _ ro=>ro
 | _=>false
theorem ak.L7{o:ak}(h:o.Hr=true):o.own=false:=by
 cases o with
 | dead=>rfl
 | cells vs e a ro=>cases ro<;>first|rfl|cases h
 | map es=>cases h
 | late L=>cases h
def Nj(β : Env)(w:World)(i:Nat)(L:List (List XC)):Prop:=
 ∀ (k:Nat) (cs:List XC),L[k]? = some cs->(∀c∈cs,c.lL L.length=true)/\(cs≠[] ->
   ∃all e fr,w.heap[(lQ (β.bG i) k)]? = some (.cells all e fr)/\(all.toList.drop (iV (β.bG i) k)).take cs.length=cs.map fun c=>(c.self i).den β)
theorem F7{β : Env}{W:World}{hs:aj}(hb:hs.length<Mem.bound)(h:∀(i:Nat) (o:ak),hs[i]? = some o->fb β hs.length (β.base i) (β.size i) o W.heap[β.bG i]?)(ha:∀(i:Nat) (o:ak),hs[i]? = some o->o.Hr=true\/∃L,o = .late L/\Nj β W i L):Rel β (iU hs) W/\∀k,¬kY β (iU hs) k:=by
 have hm:=eZ hs hb;have hn:=hm.n
 have no:∀i,i<(iU hs).n->((iU hs).get i).own=false:=fun i hi=>by
  rcases ha i _ (hm.get? hi)with e|⟨L,e,_⟩
  ·exact ak.L7 e
  ·rw[e];rfl
 have hi:∀k,¬kY β (iU hs) k:=fun k ⟨i,hi,ho,_⟩=>by rw[no i hi]at ho;cases ho
 refine⟨⟨hm.bnd,hm.fresh,fun i hi=>?_,fun i j hi hj hoi _ _=>?_,fun i hi' L hL k cs hk=>?_⟩,hi⟩
 ·rw[hn];exact h i _ (hm.get? hi)
 ·rw[no i hi]at hoi;cases hoi
 ·rcases ha i _ (hm.get? hi')with e|⟨L',e,hl⟩
  ·rw[hL]at e;cases e
  ·rw[hL]at e;cases e;obtain⟨h1,h2⟩:=hl k cs hk;exact⟨h1,fun hne=>⟨hi _,h2 hne⟩⟩
theorem Ff{f:FuncId}{args:List XV}{hs hs':aj}(hc:bt P f args hs (.one (.bool true)) hs'){β : Env}{W:World}(hb:hs.length<Mem.bound)(h:∀(i:Nat) (o:ak),hs[i]? = some o->fb β hs.length (β.base i) (β.size i) o W.heap[β.bG i]?)(ha:∀(i:Nat) (o:ak),hs[i]? = some o->o.Hr=true\/∃L,o = .late L/\Nj β W i L)
 {vs:List Value}(hv:dj (aL β hs.length) args vs):Calls P f vs.toArray W fun e w'=>e = .returned (.bool true)/\Below W.heap.size W w':=by
 have hm:=eZ hs hb;have hn:=hm.n;obtain⟨hr,hi⟩:=F7 hb h ha;refine(hc _ hm β W vs (by rw[hn];exact hv) hr).mono fun e w' ⟨u,β',m',he,_,hu,hst⟩=>?_
 refine⟨?_,hst.os,hst.tape,hst.output,hst.size,fun k hk=>hst.frame k hk (hi k)⟩;rw[he,hu.2];rfl
theorem HK{f:FuncId}{args:List XV}{hs hs':aj}(hc:bt P f args hs (.one (.bool true)) hs'){β : Env}{W:World}(hb:hs.length<Mem.bound)(h:∀(i:Nat) (o:ak),hs[i]? = some o->fb β hs.length (β.base i) (β.size i) o W.heap[β.bG i]?)(hown:∀o∈hs,o.Hr=true)
 {vs:List Value}(hv:dj (aL β hs.length) args vs):Calls P f vs.toArray W fun e w'=>e = .returned (.bool true)/\Below W.heap.size W w':=
 Ff hc hb h (fun i o ho => .inl (hown o (List.mem_of_getElem? ho))) hv
end Go.Xm
namespace Go.Xm
variable [aq]
variable {P:Program} {ops:Array Oper} {nt nI:Nat} {al:aO} {hs:aj} {o:Oper} {l:List Oper} {L:List aA} {K:List Ab->aO->aj->Prop} {d:Nat}
def il(k:IntKind)(l:List Int):List XC:=l.map (.int k)
theorem bz(k:IntKind)(l:List Int):(il k l).length=l.length:=by simp[il]
theorem Ci{k:IntKind}{l:List Int}{j:Nat}(h:j<l.length):(il k l)[j]? = some (.int k (l.getD j 0)):=by
 simp[il,h,List.getD_eq_getElem?_getD]
theorem Ig(k:IntKind)(l:List Int)(j:Nat)(x:Int):(il k l).set j (.int k x)=il k (l.set j x):=by simp[il,List.map_set]
theorem oS(k:IntKind)(l m:List Int):il k l++il k m=il k (l++m):=by simp[il]
theorem Oy(k:IntKind)(l:List Int)(τ : Nat->Nat):(il k l).map (·.aC τ)=il k l:=by simp[il,XC.aC]
theorem Q_(k:IntKind)(l:List Int)(n:Nat):∀c∈il k l,c.ok n:=by
 intro c hc;obtain⟨x,_,rfl⟩:=List.mem_map.1 hc;trivial
class cA (o:ak):Prop where
 aC:∀τ,o.aC τ = o
 ok:∀n,o.bK n
class b8 (v:XV):Prop where
 aC:∀τ,v.aC τ = v
 ok:∀n,v.bK n
instance:cA .dead:=⟨fun _=>rfl,fun _=>trivial⟩
instance {k:IntKind} {l:List Int} {e:TypeId} {a b:Bool}:cA (.cells (il k l) e a b):=⟨fun τ=>by simp only[ak.aC,Oy],fun n=>Q_ k l n⟩
instance {k:IntKind} {n:Nat} {f:Nat->Int} {e:TypeId} {a b:Bool}:cA (.cells (ti k n f) e a b):=⟨fun τ=>by simp[ak.aC,ti,XC.aC],fun n c hc=>by
 obtain⟨x,_,rfl⟩:=List.mem_map.1 hc
 trivial⟩
instance {k:IntKind} {z:Int}:b8 (.one (.int k z)):=⟨fun _=>rfl,fun _=>trivial⟩
instance {b:Bool}:b8 (.one (.bool b)):=⟨fun _=>rfl,fun _=>trivial⟩
instance {k:IntKind} {n:Nat} {f:Nat->Int}:b8 (.agg (ti k n f)):=⟨fun τ=>by simp[XV.aC,ti,XC.aC],fun n c hc=>by
 obtain⟨x,_,rfl⟩:=List.mem_map.1 hc
 trivial⟩
theorem iA{vs:List XC}{e:TypeId}{a b:Bool}(h:vs.all XC.shut=true):cA (.cells vs e a b):=
 ⟨fun τ=>by simp only[ak.aC,fZ h],fun n c hc=>XC.aY (List.all_eq_true.1 h c hc) n⟩
theorem eL{v:XV}(h:v.shut=true):b8 v:=⟨fun τ=>XV.dU h τ,fun n=>XV.kE h n⟩
def eE(k n sz:Nat):XC:=if n=0 then .nils else .slice k 0 n (.toEnd sz)
def gJ(k n sz:Nat):XV := .one (eE k n sz)
def bU(e:TypeId)(cs:List XC):ak:=match cs with
 | [] => .dead
 | c::r => .cells (c::r) e true false
theorem aV(k n sz:Nat)(τ : Nat->Nat):(eE k n sz).aC τ = eE (τ k) n sz:=by unfold eE;split<;>rfl
theorem fV(k n sz:Nat)(τ : Nat->Nat):(gJ k n sz).aC τ = gJ (τ k) n sz:=congrArg XV.one (aV k n sz τ)
theorem aK{k n sz m:Nat}(h:k<m):(eE k n sz).ok m:=by
 unfold eE;split
 ·exact trivial
 ·exact h
theorem jL{k n sz m:Nat}(h:k<m):(gJ k n sz).bK m:=aK h
theorem Uc{a:X1}{n:Nat}(h:a.ok n):(XV.tup [a]).bK n:=fun x hx=>by
 simp only[List.mem_cons,List.not_mem_nil,or_false]at hx;subst hx;exact h
theorem L5{a b:X1}{n:Nat}(h:a.ok n)(h':b.ok n):(XV.tup [a,b]).bK n:=fun x hx=>by
 simp only[List.mem_cons,List.not_mem_nil,or_false]at hx
 rcases hx with rfl|rfl
 ·exact h
 ·exact h'
theorem cK{e:TypeId}{cs:List XC}(h:cs≠[]):bU e cs = .cells cs e true false:=by
 cases cs with
 | nil=>exact absurd rfl h
 | cons c r=>rfl
theorem fm{k n sz:Nat}(h:n≠0):gJ k n sz = .one (.slice k 0 n (.toEnd sz)):=congrArg XV.one (if_neg h)
theorem AT{e:TypeId}{cs:List XC}(h:cs.all XC.shut=true):cA (bU e cs):=by
 cases cs with
 | nil=>exact⟨fun _=>rfl,fun _=>trivial⟩
 | cons c r=>exact iA h
theorem yr(k:IntKind)(l:List Int):(il k l).all XC.shut=true:=by
 rw[List.all_eq_true];intro c hc;obtain⟨x,_,rfl⟩:=List.mem_map.1 hc;rfl
instance {e:TypeId} {k:IntKind} {l:List Int}:cA (bU e (il k l)):=AT (yr k l)
inductive gA:List Nat->aj->List Nat->Prop where
 | nil:gA [] [] []
 | dead {i:Nat} {l q:List Nat} {hs:aj}:gA l hs q->gA (i::l) (.dead::hs) q
 | cons {i:Nat} {o:ak} {l q:List Nat} {hs:aj}:gA l hs q->gA (i::l) (o::hs) (i::q)
theorem gA.mem{l q:List Nat}{hs:aj}(h:gA l hs q):∀(i:Nat) (o:ak),hs[i]? = some o->o ≠ .dead->nth l i∈q:=by
 induction h with
 | nil=>intro i o h;simp at h
 | dead _ ih=>
   intro i o h ho
   cases i with
   | zero=>simp at h;exact absurd h.symm ho
   | succ i=>exact ih i o (by simpa using h) ho
 | cons _ ih=>
   intro i o h ho
   cases i with
   | zero=>exact List.mem_cons_self ..
   | succ i=>exact List.mem_cons_of_mem _ (ih i o (by simpa using h) ho)
theorem gA.inj{l q:List Nat}{hs:aj}(h:gA l hs q)(nd:q.Nodup):∀(i j:Nat) (a b:ak),hs[i]? = some a->hs[j]? = some b->a ≠ .dead->b ≠ .dead->nth l i=nth l j->i=j:=by
 induction h with
 | nil=>intro i j a b h;simp at h
 | dead _ ih=>
   intro i j a b hi hj ha hb he
   cases i with
   | zero=>simp at hi;exact absurd hi.symm ha
   | succ i=>
     cases j with
     | zero=>simp at hj;exact absurd hj.symm hb
     | succ j=>rw[ih nd i j a b (by simpa using hi) (by simpa using hj) ha hb he]
 | @cons k o l q hs hl ih=>
   intro i j a b hi hj ha hb he;rw[List.nodup_cons]at nd
   cases i with
   | zero=>
     cases j with
     | zero=>rfl
     | succ j=>
       have:=hl.mem j b (by simpa using hj) hb;rw[show nth l j=k from he.symm]at this;exact absurd this nd.1
   | succ i=>
     cases j with
     | zero=>
       have:=hl.mem i a (by simpa using hi) ha;rw[show nth l i=k from he]at this;exact absurd this nd.1
     | succ j=>rw[ih nd.2 i j a b (by simpa using hi) (by simpa using hj) ha hb he]
def Nd(l:List Nat)(hs:aj):Prop:=l.Nodup\/∃q,gA l hs q/\q.Nodup
theorem Nd.inj{l:List Nat}{hs:aj}(h:Nd l hs)(hlen:hs.length=l.length):∀(i j:Nat) (a b:ak),hs[i]? = some a->hs[j]? = some b->a ≠ .dead->b ≠ .dead->nth l i=nth l j->i=j:=by
 rcases h with h|⟨q,h,hq⟩
 ·intro i j a b hi hj _ _ hij;have hi:=(List.getElem?_eq_some_iff.1 hi).1;have hj:=(List.getElem?_eq_some_iff.1 hj).1;unfold nth at hij;have ha':i<l.length:=by omega
  have hb':j<l.length:=by omega
  rw[List.getD_eq_getElem?_getD,List.getD_eq_getElem?_getD,List.getElem?_eq_getElem ha',List.getElem?_eq_getElem hb']at hij;exact(List.getElem_inj h).1 hij
 ·exact h.inj hq
inductive ae(τ : Nat->Nat)(HS:aj):List Nat->aj->Prop where
 | nil:ae τ HS [] []
 | flat {i:Nat} {o:ak} {l:List Nat} {hs:aj} [cA o]:HS[i]? = some o->ae τ HS l hs->ae τ HS (i::l) (o::hs)
 | cons {i:Nat} {o:ak} {l:List Nat} {hs:aj}:HS[i]? = some (o.aC τ)->ae τ HS l hs->ae τ HS (i::l) (o::hs)
 | dead {i:Nat} {l:List Nat} {hs:aj}:Nat.blt i HS.length=true->ae τ HS l hs->ae τ HS (i::l) (.dead::hs)
theorem ae.at{τ : Nat->Nat}{HS:aj}{l:List Nat}{hs:aj}(h:ae τ HS l hs):hs.length=l.length/\∀(j:Nat) (o:ak),hs[j]? = some o->nth l j<HS.length/\(o = .dead\/HS[nth l j]? = some (o.aC τ)):=by
 induction h with
 | nil=>exact⟨rfl,fun j o h=>by simp at h⟩
 | @flat i o l hs inst h1 _ ih=>
   refine⟨by simp[ih.1],fun j o' hj=>?_⟩
   cases j with
   | zero=>simp at hj;subst hj;exact⟨(List.getElem?_eq_some_iff.1 h1).1,.inr (by rw[inst.aC];exact h1)⟩
   | succ j=>exact ih.2 j o' (by simpa using hj)
 | cons h1 _ ih=>
   refine⟨by simp[ih.1],fun j o' hj=>?_⟩
   cases j with
   | zero=>simp at hj;subst hj;exact⟨(List.getElem?_eq_some_iff.1 h1).1,.inr h1⟩
   | succ j=>exact ih.2 j o' (by simpa using hj)
 | dead h1 _ ih=>
   refine⟨by simp[ih.1],fun j o' hj=>?_⟩
   cases j with
   | zero=>simp at hj;subst hj;exact⟨by show _<_;rw[Nat.blt_eq]at h1;exact h1,.inl rfl⟩
   | succ j=>exact ih.2 j o' (by simpa using hj)
inductive ai(τ : Nat->Nat)(al:aO):aO->Prop where
 | nil:ai τ al []
 | flat {t:Nat} {v:XV} {r:aO} [b8 v]:rg al t=v->ai τ al r->ai τ al ((t,v)::r)
 | cons {t:Nat} {v:XV} {r:aO}:rg al t=v.aC τ->ai τ al r->ai τ al ((t,v)::r)
theorem ai.at{τ : Nat->Nat}{al al2:aO}(h:ai τ al al2)(t:Nat):rg al2 t = .undef\/rg al t=(rg al2 t).aC τ:=by
 induction h with
 | nil=>exact .inl rfl
 | @flat u v r inst h1 _ ih=>
   by_cases ht:t=u
   ·subst ht;right;simp only[rg,if_true];rw[inst.aC];exact h1
   ·simp only[rg,ht,if_false];exact ih
 | @cons u v r h1 _ ih=>
   by_cases ht:t=u
   ·subst ht;right;simp only[rg,if_true];exact h1
   ·simp only[rg,ht,if_false];exact ih
inductive ax(n:Nat):aj->Prop where
 | nil:ax n []
 | flat {o:ak} {hs:aj} [cA o]:ax n hs->ax n (o::hs)
 | cons {o:ak} {hs:aj}:o.bK n->ax n hs->ax n (o::hs)
theorem ax.at{n:Nat}{hs:aj}(h:ax n hs):∀o∈hs,o.bK n:=by
 induction h with
 | nil=>intro o h;cases h
 | @flat o hs inst _ ih=>
   intro x hx
   rcases List.mem_cons.1 hx with rfl|hx
   ·exact inst.ok n
   ·exact ih x hx
 | cons h1 _ ih=>
   intro x hx
   rcases List.mem_cons.1 hx with rfl|hx
   ·exact h1
   ·exact ih x hx
inductive jQ(n:Nat):aO->Prop where
 | nil:jQ n []
 | flat {t:Nat} {v:XV} {r:aO} [b8 v]:jQ n r->jQ n ((t,v)::r)
 | cons {t:Nat} {v:XV} {r:aO}:v.bK n->jQ n r->jQ n ((t,v)::r)
theorem jQ.at{n:Nat}{al:aO}(h:jQ n al)(t:Nat):(rg al t).bK n:=by
 induction h with
 | nil=>trivial
 | @flat u v r inst _ ih=>
   unfold rg;split
   ·exact inst.ok n
   ·exact ih
 | cons h1 _ ih=>
   unfold rg;split
   ·exact h1
   ·exact ih
structure sV(nI:Nat)(al:aO)(hs:aj):Prop where
 le:Nat.ble nI hs.length=true
 bnd:Nat.blt hs.length Mem.bound=true
 objs:ax hs.length hs
 ir:jQ hs.length al
structure GoTo(nI:Nat)(al:aO)(hs:aj)(al2:aO)(hs2:aj)(τl:List Nat):Prop where
 nd:Nd τl hs2
 hid:(List.range nI).all (fun j=>nth τl j==j)=true
 obj:ae (nth τl) hs τl hs2
 reg:ai (nth τl) al al2
theorem WX.via{c:sn}{al2:aO}{hs2:aj}{K:cu}{τl:List Nat}(g:GoTo nI al hs al2 hs2 τl)(hk:sV nI al2 hs2)(h:WX P nt nI c al2 hs2 K):WX P nt nI c al hs K:=by
 obtain⟨hlen,hobj⟩:=g.obj.at
 have hle:nI<=hs2.length:=Nat.le_of_ble_eq_true hk.le;refine WX.view (nth τl) ⟨fun j hj=>?_,fun i j a b hi hj ha hb hij=>g.nd.inj hlen i j a b hi hj ha hb hij,fun j o hj=>hk.objs.at o (List.mem_of_getElem? hj),fun j o hj=>(hobj j o hj).2⟩ (fun j hj=>?_) hle hk.bnd hk.ir.at g.reg.at h
 ·exact(hobj j _ (List.getElem?_eq_getElem hj)).1
 ·have:=List.all_eq_true.1 g.hid j (List.mem_range.2 hj);simpa using this
theorem WX.cw{σ : Type}{c:Code}{K:cu}(R : σ->aO)(H : σ->aj)(I : σ->Prop)(μ : σ->Nat)(s0 : σ)(h0:I s0)(hok:∀s,I s->sV nI (R s) (H s)){τl:List Nat}(hin:GoTo nI al hs (R s0) (H s0) τl)
 (step:∀s,I s->(∀s' τl al' hs',GoTo nI al' hs' (R s') (H s') τl->I s' -> μ s' < μ s->WX P nt nI (.round c) al' hs' K)->WX P nt nI (.code c) (R s) (H s) (Hb P nt nI c K)):WX P nt nI (.code (.loop c)) al hs K:=by
 refine WX.loop (WX.via hin (hok s0 h0) ?_)
 have:∀n s,μ s<=n->I s->WX P nt nI (.round c) (R s) (H s) K:=by
  intro n
  induction n with
  | zero=>intro s hs hI;exact WX.round (step s hI fun s' τl al' hs' _ _ h=>absurd h (by omega))
  | succ n ih=>intro s hs hI;exact WX.round (step s hI fun s' τl al' hs' g h' hlt=>WX.via g (hok s' h') (ih s' (by omega) h'))
 exact this (μ s0) s0 (Nat.le_refl _) h0
theorem WX.Hp{σ : Type}{c:sn}{K:cu}(R : σ->aO)(H : σ->aj)(I : σ->Prop)(μ : σ->Nat)(s0 : σ)(h0:I s0)(hok:∀s,I s->sV nI (R s) (H s)){τl:List Nat}(hin:GoTo nI al hs (R s0) (H s0) τl)
 (step:∀s,I s->(∀s' τl al' hs',GoTo nI al' hs' (R s') (H s') τl->I s' -> μ s' < μ s->WX P nt nI c al' hs' K)->WX P nt nI c (R s) (H s) K):WX P nt nI c al hs K:=by
 refine WX.via hin (hok s0 h0) ?_
 have:∀n s,μ s<=n->I s->WX P nt nI c (R s) (H s) K:=by
  intro n
  induction n with
  | zero=>intro s hs hI;exact step s hI fun s' τl al' hs' _ _ h=>absurd h (by omega)
  | succ n ih=>intro s hs hI;exact step s hI fun s' τl al' hs' g h' hlt=>WX.via g (hok s' h') (ih s' (by omega) h')
 exact this (μ s0) s0 (Nat.le_refl _) h0
theorem WX.meet{σ : Type}{a b:Code}{K:cu}(R : σ->aO)(H : σ->aj)(I : σ->Prop)(hok:∀s,I s->sV nI (R s) (H s))(h1:WX P nt nI (.code a) al hs fun e al1 hs1=>e = .normal/\∃s τl,I s/\GoTo nI al1 hs1 (R s) (H s) τl)
 (h2:∀s,I s->WX P nt nI (.code b) (R s) (H s) K):WX P nt nI (.code (.seq a b)) al hs K:=
 WX.seq (h1.mono fun e al1 hs1 ⟨he,s,τl,hi,hg⟩=>by
  subst he
  exact WX.via hg (hok s hi) (h2 s hi))
theorem WX.IQ(id:Nat){σ : Type}{ops:Array Oper}{dr:Bool}{b:Code}{K:cu}(R : σ->aO)(H : σ->aj)(I : σ->Prop)(hok:∀s,I s->sV nI (R s) (H s))(h1:WX P nt nI (.code (.region id ops dr)) al hs fun e al1 hs1=>e = .normal/\∃s τl,I s/\GoTo nI al1 hs1 (R s) (H s) τl)
 (h2:∀s,I s->WX P nt nI (.code b) (R s) (H s) K):WX P nt nI (.code (.seq (.region id ops dr) b)) al hs K:=WX.meet R H I hok h1 h2
theorem WX.NB(id:Nat){σ : Type}{ops:Array Oper}{dr:Bool}{x b:Code}{K:cu}(R : σ->aO)(H : σ->aj)(I : σ->Prop)(hok:∀s,I s->sV nI (R s) (H s))(h1:WX P nt nI (.code (.seq (.region id ops dr) x)) al hs fun e al1 hs1=>e = .normal/\∃s τl,I s/\GoTo nI al1 hs1 (R s) (H s) τl)
 (h2:∀s,I s->WX P nt nI (.code b) (R s) (H s) K):WX P nt nI (.code (.seq (.seq (.region id ops dr) x) b)) al hs K:=WX.meet R H I hok h1 h2
theorem ae.iu{τ : Nat->Nat}{HS:aj}{i k k' n n' s:Nat}{rest:List XC}{e:TypeId}{a b:Bool}{l:List Nat}{hs:aj}(h:HS[i]? = some (.cells (eE k' n' s::rest) e a b))(hk : τ k=k')(hn:n'=n)(hr:rest.all XC.shut=true)(r:ae τ HS l hs):ae τ HS (i::l) (.cells (eE k n s::rest) e a b::hs):=by
 refine ae.cons ?_ r;simp only[ak.aC,List.map_cons,aV,hk,<-hn,fZ hr];exact h
theorem WX.fresh{c:sn}{K:cu}{o:ak}(ho:o = .dead\/o = .late [])(hb:Nat.blt hs.length Mem.bound=true)(h:WX P nt nI c al (hs++[o]) K):WX P nt nI c al hs K:=by
 intro βI mI wI hn m hm β w a Q hr hst hq;obtain⟨m',hp,hh,_⟩:=hm.push o (by simpa [Nat.blt_eq]using hb);obtain⟨p1,p2,p3,p4⟩:=Mem.bu hp;have hnn:m'.get m.n=o:=by unfold Mem.get;rw[p3]
 have hold:∀i,i≠m.n->m'.get i=m.get i:=fun i hi=>by unfold Mem.get;rw[p4 i hi]
 have hb2:=hh.bnd
 have hno:o.own=false/\o.live=false:=by rcases ho with rfl|rfl<;>exact⟨rfl,rfl⟩
 have himg:∀k,kY β m' k->kY β m k:=fun k ⟨i,hi,hl,hb⟩=>by
  have e1:i≠m.n:=fun e=>by subst e;rw[hnn,hno.1]at hl;cases hl
  exact⟨i,by omega,by rw[hold i e1]at hl;exact hl,hb⟩
 have hrel:Rel β m' w:=by
  refine⟨hb2,hh.fresh,fun i hi=>?_,fun i j hi hj li lj hbb=>?_,fun i hi L hL=>?_⟩
  ·by_cases e:i=m.n
   ·subst e;rw[hnn];rcases ho with rfl|rfl<;>trivial
   ·rw[hold i e];exact(hst.rel.obj i (by omega)).ext (fun _ _=>⟨rfl,rfl,rfl⟩) (by omega)
  ·have e1:i≠m.n:=fun e=>by subst e;rw[hnn,hno.1]at li;cases li
   have e2:j≠m.n:=fun e=>by subst e;rw[hnn,hno.2]at lj;cases lj
   rw[hold i e1]at li;rw[hold j e2]at lj;exact hst.rel.inj i j (by omega) (by omega) li lj hbb
  ·by_cases e:i=m.n
   ·subst e;rw[hnn]at hL
    rcases ho with rfl|rfl
    ·cases hL
    ·cases hL;intro k cs hk;cases hk
   ·rw[hold i e]at hL;exact(hst.rel.late i (by omega) L hL).iq (by omega) (by omega) (Ext.refl _ _) (fun _ _ _=>rfl) fun k _=>himg k
 refine h βI mI wI hn m' hh β w a Q ?_ ?_ hq
 ·exact⟨hr.size,hr.small,fun t ht=>(hr.rel t ht).ext (fun _ _=>⟨rfl,rfl,rfl⟩) (by omega),hr.out⟩
 ·refine⟨by have:=hst.le;omega,hst.ext,hrel,hst.os,hst.tape,hst.output,hst.size,hst.frame,fun k hk hi=>hst.qj k hk (himg k hi),fun k hk ⟨i,hi,L,q,cs,e1,e2,e3⟩=>hst.wa k hk ?_⟩
  by_cases e:i=m.n
  ·subst e;rw[hnn]at e1
   rcases ho with rfl|rfl
   ·cases e1
   ·cases e1;cases e2
  ·exact⟨i,by omega,L,q,cs,by rw[<-hold i e];exact e1,e2,e3⟩
theorem WX.cc{c:sn}{K:cu}(hb:Nat.blt hs.length Mem.bound=true)(h:WX P nt nI c al (hs++[.dead]) K):WX P nt nI c al hs K:=WX.fresh (.inl rfl) hb h
theorem WX.ghost{c:sn}{K:cu}(hb:Nat.blt hs.length Mem.bound=true)(h:WX P nt nI c al (hs++[.late []]) K):WX P nt nI c al hs K:=WX.fresh (.inr rfl) hb h
end Go.Xm
