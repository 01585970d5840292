/-
  A part of the proof: XwStep, XwOps, XwCall, XwK, XvBase, XvCall, XvInst, XvRule, XvMore, XvArg, XvFlow.
-/
import Derived.Test.YtagpkhindehcbaaGreatKfC
set_option maxRecDepth 10000
set_option maxHeartbeats 8000000
set_option linter.unusedVariables false
set_option linter.unusedSectionVars false
set_option linter.unusedSimpArgs false
namespace Go.Xm
variable [ax]
structure Ab where
 eff:Bool
 fp:Option Nat
 ws:List Nat
def xf(d:Option Nat)(x:XV)(al:bl):bl:=
 match d with
 | some d=>(d,x)::al
 | .none=>al
theorem ia.xf{β : Env}{n nt:Nat}{al:bl}{a:Act}(h:ia β n nt (rg al) a.tmps)(d:Option Nat){x:XV}{v:Value}(hv:aO β n x v)(hd:∀t,d=some t->t<nt):ia β n nt (rg (Xm.xf d x al)) (a.put d v).tmps:=by
 have:=h.put d hv hd
 cases d with
 | none=>exact this
 | some d=>
   have e:(fun t=>if some d=some t then x else rg al t)=rg (Xm.xf (some d) x al):=by
    funext t
    simp only[Xm.xf,rg,Option.some.injEq,eq_comm (a:=d)]
   rw[e]at this
   exact this
def aH(O:dI)(P:Program)(ops:Array Oper)(al:bl)(hs:aj)(o:Oper)(x:XV)(hs':aj)(b:Ab):Prop:=
 ∀m,bH m hs->∃m',kC O P ops (rg al) o m=some ⟨x,m',b.eff,b.fp⟩/\bH m' hs'/\∀j,j∉b.ws->(m'.gy j).ver=(m.gy j).ver
inductive nk(O:dI)(P:Program)(ops:Array Oper)(nt:Nat):List Oper->bl->aj->List Ab->bl->aj->Prop where
 | nil {al:bl} {hs:aj}:nk O P ops nt [] al hs [] al hs
 | cons {o:Oper} {l:List Oper} {al al':bl} {hs hs1 hs':aj} {x:XV} {b:Ab} {bs:List Ab}:aH O P ops al hs o x hs1 b->(∀d,o.dst=some d->d<nt)->nk O P ops nt l (xf o.dst x al) hs1 bs al' hs'->nk O P ops nt (o::l) al hs (b::bs) al' hs'
section
variable {O:dI} {P:Program} {ops:Array Oper} {nt nI:Nat}
theorem GF(hO:aU P O){Q:Exit->Act->World->Prop}{l:List Oper}{al al':bl}{hs hs':aj}{bs:List Ab}(h:nk O P ops nt l al hs bs al' hs'):∀{m:Mem} {β : Env} {w:World} {a:Act},bH m hs->ia β m.n nt (rg al) a.tmps->Rel β m w ->
 (∀m' a' β' w',bH m' hs'->ia β' m'.n nt (rg al') a'.tmps->a'.defers=a.defers->Step β m w β' m' w'->Q .normal a' w')->wpList P ops Q l a w:=by
 induction h with
 | nil=>
   intro m β w a hm hr hw hq
   exact hq m a β w hm hr rfl (Step.refl hw)
 | cons ho hd _ ih=>
   rename_i o l al al' hs hs1 hs' x b bs _
   intro m β w a hm hr hw hq
   obtain⟨m1,h1,h2,_⟩:=ho m hm
   unfold kC at h1
   unfold wpList
   split at h1
   ·rename_i hwt
    rw[if_pos (f_ hwt hr)]
    refine .inl (s8 hO h1 hw (fun x=>hr.eval x) a _ Q rfl fun u β' w' hu hst=>?_)
    refine ih h2 ((hr.ext hst.ext hst.le).xf o.dst hu hd) hst.rel fun m' a'' β'' w'' k1 k2 k3 k4=>?_
    exact hq m' a'' β'' w'' k1 k2 (by rw[k3,eg]) (hst.trans k4)
   ·rename_i hwt
    simp only[Option.some.injEq,Out.mk.injEq]at h1
    obtain⟨rfl,rfl,_,_⟩:=h1
    have:=f_ hwt hr
    rw[if_neg (by simp[this])]
    refine ih h2 (hr.xf o.dst aO.skip hd) hw fun m' a'' β'' w'' k1 k2 k3 k4=>?_
    exact hq m' a'' β'' w'' k1 k2 (by rw[k3,eg]) k4
   ·cases h1
theorem WX.plain(hO:aU P O){id:Nat}{al al':bl}{hs hs':aj}{bs:List Ab}{K:dM}(h:nk O P ops nt ops.toList al hs bs al' hs')(hk:K .normal al' hs'):WX P nt nI (.code (.region id ops false)) al hs K:=
 fun _ _ _ _ _ hm _ _ _ _ hr hw hq=>wp_region_list (GF hO h hm hr hw.rel fun m' a' β' w' k1 k2 k3 k4=>hq .normal al' hs' m' hk k1 a' β' w' k2 k3 (hw.trans k4))
theorem tp(g:Nat->XV)(nt:Nat)(hn:nt<1000000)(ho:∀t,nt<=t->g t = .undef):∃r:T XV,∀t,r.get .undef t=g t:=by
 have : ∀k,k<=nt->∃r:T XV,∀t,r.get .undef t=if t<k then g t else .undef:=by
  intro k
  induction k with
  | zero=>intro _;exact⟨.leaf,fun t=>by simp[T.fx]⟩
  | succ k ih=>
    intro hk
    obtain⟨r,hr⟩:=ih (by omega)
    refine⟨r.set .undef 31 k (g k),fun t=>?_⟩
    by_cases ht:t=k
    ·subst ht
     rw[T.gA _ _ _ _ _ (by omega)]
     simp
    ·rw[T.fL _ _ _ _ _ _ ht,hr t]
     by_cases h1:t<k
     ·rw[if_pos h1,if_pos (by omega)]
     ·rw[if_neg h1,if_neg (by omega)]
 obtain⟨r,hr⟩:=this nt (Nat.le_refl _)
 refine⟨r,fun t=>?_⟩
 rw[hr t]
 split
 ·rfl
 ·exact(ho t (by omega)).symm
def Ji(bs:List Nat)(i:Nat)(di:Ab)(e:Nat)(de:Ab):Bool:=
 !de.eff||i==e||((!(di.eff&&decide (e<i))||bit bs i e)&&
  (match di.fp with
    | .none=>true
    | some fp=>bit bs i e||bit bs e i||!(de.ws.contains fp)))
def xC(bs:List Nat)(tr:List Ab):Bool:=
 (List.range tr.length).all fun i=>match tr[i]? with
   | .none=>true
   | some di=>(!di.eff&&di.fp.isNone)||(List.range tr.length).all fun e=>match tr[e]? with
     | .none=>true
     | some de=>Ji bs i di e de
def N8:List (Mem×Out)->List Ab->Prop:=du fun p b=>p.2.eff=b.eff/\p.2.fp=b.fp/\∀j,j∉b.ws->(p.2.m.gy j).ver=(p.1.gy j).ver
theorem du.get?{α γ : Type}{R : α -> γ->Prop}:∀{l:List α} {k:List γ},du R l k->∀(i:Nat) (a : α),l[i]? = some a->∃b,k[i]? = some b/\R a b
 | _,_,.nil,i,a,h=>by simp at h
 | _,_,.cons h t,0,a,h1=>by simp at h1;subst h1;exact⟨_,rfl,h⟩
 | _,_,.cons h t,i+1,a,h1=>by simp at h1;exact t.get? i a h1
theorem FD{bs:List Nat}{tr:List (Mem×Out)}{ab:List Ab}(ht:N8 tr ab)(h:xC bs ab=true):j4 bs tr=true:=by
 have hl:tr.length=ab.length:=du.length ht
 unfold xC at h
 unfold j4
 rw[List.all_eq_true]at h ⊢
 intro i hi
 have hi':=h i (by rw[<-hl];exact hi)
 split
 ·rfl
 ·rename_i mi di hdi
  obtain⟨bi,hb,h1,h2,_⟩:=du.get? ht i _ hdi
  simp only at h1 h2
  rw[hb]at hi'
  simp only[Bool.or_eq_true]at hi' ⊢
  rw[h1,h2]
  rcases hi' with hi'|hi'
  ·exact .inl hi'
  ·refine .inr (List.all_eq_true.2 fun e he=>?_)
   have he':=List.all_eq_true.1 hi' e (by rw[<-hl];exact he)
   split
   ·rfl
   ·rename_i me de hde
    obtain⟨be,hbe,k1,k2,k3⟩:=du.get? ht e _ hde
    simp only at k1 k2 k3
    rw[hbe]at he'
    unfold jo
    unfold Ji at he'
    rw[h1,h2,k1]
    simp only[Bool.or_eq_true,Bool.and_eq_true]at he' ⊢
    rcases he' with he'|⟨ha,hb'⟩
    ·exact .inl he'
    ·refine .inr ⟨ha,?_⟩
     cases hf:bi.fp with
     | none=>rfl
     | some fp=>
       rw[hf]at hb'
       simp only[Bool.or_eq_true]at hb' ⊢
       rcases hb' with hb'|hb'
       ·exact .inl hb'
       ·refine .inr ?_
        have:fp∉be.ws:=by simpa using hb'
        rw[k3 fp this]
        simp
theorem No{r:T XV}{al:bl}(hr:∀t,r.get .undef t=rg al t)(hn:nt<1000000)(d:Option Nat)(x:XV)(hd:∀t,d=some t->t<nt):∀t,(oI nt r d x).get .undef t=rg (xf d x al) t:=by
 intro t
 cases d with
 | none=>exact hr t
 | some d=>
   have:=hd d rfl
   simp only[oI,this,if_true,xf,rg]
   by_cases ht:t=d
   ·subst ht
    rw[T.gA _ _ _ _ _ (by omega),if_pos rfl]
   ·rw[T.fL _ _ _ _ _ _ ht,if_neg ht]
    exact hr t
theorem sc(hn:nt<1000000){l:List Oper}{al al':bl}{hs hs':aj}{bs:List Ab}(h:nk O P ops nt l al hs bs al' hs'):∀{m:Mem} {r:T XV},bH m hs->(∀t,r.get .undef t=rg al t) ->
 ∃tr r' m',jO O P ops nt l r m=some (tr,r',m')/\(∀t,r'.get .undef t=rg al' t)/\bH m' hs'/\N8 tr bs:=by
 induction h with
 | nil=>
   intro m r hm hr
   exact⟨[],r,m,rfl,hr,hm,.nil⟩
 | cons ho hd _ ih=>
   rename_i o l al al' hs hs1 hs' x b bs _
   intro m r hm hr
   obtain⟨m1,h1,h2,h3⟩:=ho m hm
   have e:(fun t=>r.get .undef t)=rg al:=funext hr
   obtain⟨tr,r',m',k1,k2,k3,k4⟩:=ih h2 (No hr hn o.dst x hd)
   refine⟨(m,⟨x,m1,b.eff,b.fp⟩)::tr,r',m',?_,k2,k3,.cons ⟨rfl,rfl,h3⟩ k4⟩
   unfold jO
   have h1':kC O P ops (r.get .undef) o m=some ⟨x,m1,b.eff,b.fp⟩:=by rw[show(r.get .undef)=rg al from e];exact h1
   rw[h1']
   simp only[k1]
theorem WX.drawn(hO:aU P O)(hP:P.follows .mixedOrders=true){id:Nat}{al al':bl}{hs hs':aj}{bs:List Ab}{K:dM}(hst:dA ops nt (jF ops.toList)=true)(h:nk O P ops nt ops.toList al hs bs al' hs')(hdy:xC (jF ops.toList) bs=true)
 (hk:K .normal al' hs'):WX P nt nI (.code (.region id ops true)) al hs K:=by
 intro βI mI wI hn m hm β w a Q hr hw hq
 obtain⟨r,hrr⟩:=tp (rg al) nt hr.small hr.out
 obtain⟨tr,r',m',h1,h2,h3,h4⟩:=sc hr.small h hm hrr
 have hx:lK O P ops nt r m=some (r',m'):=by
  refine wx ?_
  unfold jx
  rw[if_pos hst,h1]
  simp only[]
  rw[if_pos (FD h4 hdy)]
 have e:(r.get .undef)=rg al:=funext hrr
 have e':(r'.get .undef)=rg al':=funext h2
 refine yD hO hP hx (by unfold mF;rw[e];exact hr) hw.rel fun a' β' w' k1 k2 k3=>?_
 unfold mF at k1
 rw[e']at k1
 exact hq .normal al' hs' m' hk h3 a' β' w' k1 k2 (hw.trans k3)
end
end Go.Xm
namespace Go.Xm
variable [ax]
theorem bH.at{m:Mem}{hs:aj}(h:bH m hs){i:Nat}{o:ak}(ho:hs[i]? = some o):m.get i=o:=by
 have hi:i<m.n:=by
  have:=(List.getElem?_eq_some_iff.1 ho).1
  rw[h.n];exact this
 rw[h.get i hi,List.getD_eq_getElem?_getD,ho];rfl
theorem bH.lt{m:Mem}{hs:aj}(h:bH m hs){i:Nat}{o:ak}(ho:hs[i]? = some o):i<m.n/\i<Mem.bound:=by
 have:=(List.getElem?_eq_some_iff.1 ho).1
 have h1:=h.n
 have h2:=h.bnd
 omega
theorem bH.put{m:Mem}{hs:aj}(h:bH m hs){i:Nat}{o:ak}(ho:hs[i]? = some o)(o':ak):bH (m.put i o') (hs.set i o'):=by
 obtain⟨h1,h2⟩:=h.lt ho
 refine⟨by rw[Mem.fY,List.length_set];exact h.n,by rw[Mem.fY];exact h.bnd,cL.put h.fresh o',fun j hj=>?_⟩
 rw[Mem.fY]at hj
 by_cases hji:j=i
 ·subst hji
  rw[Mem.iO m o' h1 h2]
  have:j<hs.length:=by rw[<-h.n];exact hj
  simp[List.getD_eq_getElem?_getD,this]
 ·rw[Mem.gz m o' hji,h.get j hj]
  simp[List.getD_eq_getElem?_getD,List.getElem?_set_ne (Ne.symm hji)]
theorem uf{m:Mem}{i:Nat}{o:ak}:∀j,j∉[i]->((m.put i o).gy j).ver=(m.gy j).ver:=by
 intro j hj
 rw[Mem.iN m o (by simpa using hj)]
theorem bH.push{m:Mem}{hs:aj}(h:bH m hs)(o:ak)(hb:hs.length<Mem.bound):∃m',m.push o=some m'/\bH m' (hs++[o])/\∀j,j∉[hs.length]->(m'.gy j).ver=(m.gy j).ver:=by
 have hn:=h.n
 obtain⟨m',hp⟩:∃m',m.push o=some m':=by
  unfold Mem.push
  rw[if_pos (by omega)]
  exact⟨_,rfl⟩
 obtain⟨_,h2,h3,h4⟩:=Mem.bW hp
 refine⟨m',hp,⟨by rw[h2,hn];simp,by omega,cL.push h.fresh hp,fun j hj=>?_⟩,fun j hj=>?_⟩
 ·by_cases hjn:j=m.n
  ·subst hjn
   unfold Mem.get
   rw[h3,hn]
   simp[List.getD_eq_getElem?_getD]
  ·have:m'.get j=m.get j:=by unfold Mem.get;rw[h4 j hjn]
   rw[this,h.get j (by omega),List.getD_eq_getElem?_getD,List.getD_eq_getElem?_getD,List.getElem?_append_left (by omega)]
 ·rw[h4 j (by rw[hn];simpa using hj)]
section
variable {O:dI} {P:Program} {ops:Array Oper} {al:bl} {hs:aj} {o:Oper}
abbrev quiet:Ab:=⟨false,.none,[]⟩
theorem aH.skip(hw:av ops (rg al) o=some false):aH O P ops al hs o (.tup []) hs quiet:=
 fun m hm=>⟨m,by unfold kC;rw[hw],hm,fun _ _=>rfl⟩
theorem aH.pure(hw:av ops (rg al) o=some true){x:XV}(h:bj P (ai (rg al)) o.op=some x):aH O P ops al hs o x hs quiet:=
 fun m hm=>⟨m,by unfold kC;rw[hw];simp only[ed,ee,h],hm,fun _ _=>rfl⟩
theorem s9(hop:bj P (ai (rg al)) o.op = .none)(hx:qh O (ai (rg al)) o.op = .none){i:Nat}{f:ak->Option XV}(hr:f4 P (ai (rg al)) o.op=some (i,f)){x:XV}{m:Mem}(hf:f (m.get i)=some x) :
 ed O P (ai (rg al)) o.op m=some ⟨x,m,false,some i⟩:=by
 simp only[ed,ee,hop,hx,hr,hf]
theorem aH.load(hw:av ops (rg al) o=some true){t:TypeId}{a:Operand}(ho:o.op = .load t a){i off:Nat}(ha:ai (rg al) a = .one (.ptr i off)){vs:List XC}{e:TypeId}{opn ro:Bool}(hi:hs[i]? = some (.cells vs e opn ro)){x:X1}(hl:fm P t vs off=some x) :
 aH O P ops al hs o x.s6 hs ⟨false,some i,[]⟩:=by
 intro m hm
 refine⟨m,?_,hm,fun _ _=>rfl⟩
 unfold kC
 rw[hw]
 obtain⟨f,hf1,hf2⟩:∃f,f4 P (ai (rg al)) o.op=some (i,f)/\∀vs' e' o' r',f (.cells vs' e' o' r')=(fm P t vs' off).map X1.s6:=by
  rw[ho]
  simp only[f4,ha]
  exact⟨_,rfl,fun _ _ _ _=>rfl⟩
 refine s9 (by rw[ho];rfl) (by rw[ho];rfl) hf1 ?_
 rw[hm.at hi,hf2,hl]
 rfl
theorem I1{t:TypeId}{vs:List XC}{off:Nat}{c:XC}(h:lM P t=some false)(hc:vs[off]? = some c):fm P t vs off=some (.one c):=by
 unfold fm;rw[h,hc]
theorem Bd{t:TypeId}{vs:List XC}(h:lM P t=some true)(hs:cW P t=some vs.length):fm P t vs 0=some (.agg vs):=by
 unfold fm;rw[h,hs];simp
theorem dg(hop:bj P (ai (rg al)) o.op = .none)(hx:qh O (ai (rg al)) o.op = .none)(hr:f4 P (ai (rg al)) o.op = .none){x:XV}{m m':Mem}(hf:cK P (ai (rg al)) o.op m=some (x,m')) :
 ed O P (ai (rg al)) o.op m=some ⟨x,m',true,.none⟩:=by
 simp only[ed,ee,hop,hx,hr,hf]
theorem aH.store(hw:av ops (rg al) o=some true){t:TypeId}{a y:Operand}(ho:o.op = .store t a y){i off:Nat}(ha:ai (rg al) a = .one (.ptr i off)){cs:List XC}(hy:dh (ai (rg al) y)=some cs)(hsz:cW P t=some cs.length)
 {vs:List XC} {e:TypeId} {opn:Bool}(hi:hs[i]? = some (.cells vs e opn false)) (hle:off+cs.length<=vs.length) {vs':List XC}(hv:vs.take off++cs++vs.drop (off+cs.length)=vs') :
 aH O P ops al hs o (.tup []) (hs.set i (.cells vs' e opn false)) ⟨true,.none,[i]⟩:=by
 intro m hm
 refine⟨m.put i (.cells vs' e opn false),?_,hm.put hi _,uf⟩
 unfold kC
 rw[hw]
 refine dg (by rw[ho];rfl) (by rw[ho];rfl) (by rw[ho];rfl) ?_
 rw[ho]
 simp only[cK,lP,ha,hy,hsz,if_true,hm.at hi,if_pos hle,hv]
theorem GI{vs:List XC}{off:Nat}{c:XC}(h:off<vs.length):vs.take off++[c]++vs.drop (off + [c].length)=vs.set off c:=by
 rw[List.set_eq_take_append_cons_drop,if_pos h];simp
theorem GH{vs cs:List XC}(h:cs.length=vs.length):vs.take 0++cs++vs.drop (0+cs.length)=cs:=by simp[h]
theorem aH.alloc(hw:av ops (rg al) o=some true){t:TypeId}(ho:o.op = .alloc t){zs:List XC}(hz:qA P t=some zs)(hb:Nat.blt hs.length Mem.bound=true) :
 aH O P ops al hs o (.one (.ptr hs.length 0)) (hs++[.cells zs t false false]) ⟨true,.none,[hs.length]⟩:=by
 intro m hm
 obtain⟨m',h1,h2,h3⟩:=hm.push (.cells zs t false false) (by simpa [Nat.blt_eq]using hb)
 refine⟨m',?_,h2,h3⟩
 unfold kC
 rw[hw]
 refine dg (by rw[ho];rfl) (by rw[ho];rfl) (by rw[ho];rfl) ?_
 rw[ho]
 simp only[cK,n8,hz,zW,h1,hm.n]
theorem aH.box(hw:av ops (rg al) o=some true){t:TypeId}{y:Operand}(ho:o.op = .box t y){cs:List XC}(hy:dh (ai (rg al) y)=some cs)(hb:Nat.blt hs.length Mem.bound=true) :
 aH O P ops al hs o (.one (.ptr hs.length 0)) (hs++[.cells cs t false false]) ⟨true,.none,[hs.length]⟩:=by
 intro m hm
 obtain⟨m',h1,h2,h3⟩:=hm.push (.cells cs t false false) (by simpa [Nat.blt_eq]using hb)
 refine⟨m',?_,h2,h3⟩
 unfold kC
 rw[hw]
 refine dg (by rw[ho];rfl) (by rw[ho];rfl) (by rw[ho];rfl) ?_
 rw[ho]
 simp only[cK,Hn,hy,zW,h1,hm.n]
theorem aH.bin(hw:av ops (rg al) o=some true){op:BinOp}{t t':TypeId}{a b:Operand}(ho:o.op = .binOp op t a b t'){k k':IntKind}{x y:Int}(ha:ai (rg al) a = .one (.int k x))(hb:ai (rg al) b = .one (.int k' y)){c:XC}(hc:bP op k k' x y=some c) :
 aH O P ops al hs o (.one c) hs quiet:=
 aH.pure hw (by rw[ho];simp only[bj,tV,ha,hb,hc,Option.map_some])
theorem Ea{k:IntKind}{x y z:Int}(hy:y≠0)(h:x.tmod y=z):bP .rem k k x y=some (.int k z):=by simp only[bP,ej,if_true,hy,if_false,h]
theorem aH.index(hw:av ops (rg al) o=some true){t:TypeId}{a b:Operand}(ho:o.op = .indexAddr t a b){i off s len j:Nat}{elem:TypeId}(ha:ai (rg al) a = .one (.ptr i off)){k:IntKind}(hb:ai (rg al) b = .one (.int k (j:Nat)))
 (ht:P.underlying t=some (.array len elem)) (hsz:cW P elem=some s) (hj:j<len) {p:Nat}(hp:off+j*s=p):aH O P ops al hs o (.one (.ptr i p)) hs quiet:=
 aH.pure hw (by
  rw[ho]
  have h1:(0:Int)<=(j:Int)/\(j:Int)<(len:Int):=by omega
  simp only[bj,cS,ha,hb,ht,hsz,if_pos h1,Option.map_some,Int.toNat_natCast,hp])
theorem aH.elem(hw:av ops (rg al) o=some true){t:TypeId}{a b:Operand}(ho:o.op = .index t a b){len j:Nat}{elem:TypeId}{cs:List XC}(ha:ai (rg al) a = .agg cs){k:IntKind}(hb:ai (rg al) b = .one (.int k (j:Nat)))
 (ht:P.underlying t=some (.array len elem)) (hsz:cW P elem=some 1) (hg:lM P elem=some false) (hj:j<len) {c:XC}(hc:cs[j]? = some c):aH O P ops al hs o (.one c) hs quiet:=
 aH.pure hw (by
  rw[ho]
  have h1:(0:Int)<=(j:Int)/\(j:Int)<(len:Int):=by omega
  simp only[bj,rb,ha,hb,ht,hsz,if_pos h1,Int.toNat_natCast,Nat.mul_one,nc,hg,hc,Option.map_some,X1.s6])
theorem aH.call(hw:av ops (rg al) o=some true){g:Operand}{args:Array Operand}{ts:Array TypeId}(ho:o.op = .call ⟨.value g,args,ts⟩){f:FuncId}(hg:ai (rg al) g = .one (.fn f))(hcb:fC P f=true){vs:List XV}(ha:args.toList.map (ai (rg al))=vs)
 {x:XV} {hs':aj} {ws:List Nat}(hc:∀m,bH m hs->∃m',O.call f vs m=some (x,m')/\bH m' hs'/\∀j,j∉ws->(m'.gy j).ver=(m.gy j).ver):aH O P ops al hs o x hs' ⟨true,.none,ws⟩:=by
 intro m hm
 obtain⟨m',h1,h2,h3⟩:=hc m hm
 refine⟨m',?_,h2,h3⟩
 unfold kC
 rw[hw]
 have e:dm O P (ai (rg al)) o.op m=some (x,m'):=by
  rw[ho]
  simp only[dm,hg,Aj,hcb,if_true,List.map_nil,List.append_nil,ha,h1]
 have n1:bj P (ai (rg al)) o.op = .none:=by rw[ho];rfl
 have n2:qh O (ai (rg al)) o.op = .none:=by rw[ho];rfl
 have n3:f4 P (ai (rg al)) o.op = .none:=by rw[ho];rfl
 have n4:cK P (ai (rg al)) o.op m = .none:=by rw[ho];rfl
 simp only[ed,ee,n1,n2,n3,n4,e]
end
end Go.Xm
namespace Go.Xm
variable [ax]
def nq:List XV->Nat->bl
 | [],_=>[]
 | x::l,i=>(i,x)::nq l (i+1)
theorem vL:∀(l:List XV) (i j:Nat),rg (nq l i) j=if i<=j/\j<i+l.length then l.getD (j-i) .undef else .undef
 | [],i,j=>by simp[nq,rg]
 | x :: l,i,j=>by
   simp only[nq,rg,List.length_cons]
   by_cases h:j=i
   ·subst h
    rw[if_pos rfl,if_pos (by omega)]
    simp
   ·rw[if_neg h,vL l (i+1) j]
    by_cases h1:i+1<=j/\j<i+1+l.length
    ·rw[if_pos h1,if_pos (by omega)]
     obtain⟨k,hk⟩:∃k,j-i=k+1:=⟨j-i-1,by omega⟩
     rw[hk,show j-(i+1)=k by omega]
     rfl
    ·rw[if_neg h1,if_neg (by omega)]
def tQ(P:Program)(fn:Func)(al:bl)(hs:aj)(v:XV):Prop:=∀m,bH m hs->dP P fn (rg al) m=some v
theorem A0:bH Mem.empty []:=⟨rfl,Nat.zero_le _,tq,fun i hi=>absurd hi (Nat.not_lt_zero i)⟩
def mR:aj->Mem
 | hs=>hs.foldl (fun m o=>(m.push o).getD m) Mem.empty
theorem iZ(hs:aj)(hb:hs.length<Mem.bound):bH (mR hs) hs:=by
 have:∀(l k:aj) (m:Mem),bH m k->k.length+l.length<Mem.bound->bH (l.foldl (fun m o=>(m.push o).getD m) m) (k++l):=by
  intro l
  induction l with
  | nil=>intro k m hm _;simpa using hm
  | cons o l ih=>
    intro k m hm hlen
    simp only[List.length_cons]at hlen
    obtain⟨m',h1,h2,_⟩:=hm.push o (by omega)
    simp only[List.foldl_cons,h1,Option.getD_some]
    have:=ih (k++[o]) m' h2 (by simp;omega)
    simpa using this
 have h:=this hs [] Mem.empty A0 (by simpa using hb)
 simpa [mR]using h
def RL(P:Program)(f:FuncId)(args:List XV)(v:XV):Prop:=∀m,eQ P f args m v m
theorem nJ{P:Program}{r:yO}(h:r.RM P):RL P r.f r.args r.v:=by
 obtain⟨h1,m',h2⟩:=h
 simp only[yO.JS,Bool.and_eq_true,List.all_eq_true]at h1
 exact fun m=>forget h2 h1.1 h1.2 m
end Go.Xm
namespace Go.Xm
variable [ax]
def oN(O:dI)(P:Program)(ops:Array Oper)(nt:Nat)(l:List Oper)(al:bl)(hs:aj)(K:List Ab->bl->aj->Prop):Prop:=
 ∃bs al' hs',nk O P ops nt l al hs bs al' hs'/\K bs al' hs'
section
variable {O:dI} {P:Program} {ops:Array Oper} {nt nI:Nat} {al:bl} {hs:aj} {o:Oper}
theorem oN.nil{K:List Ab->bl->aj->Prop}(h:K [] al hs):oN O P ops nt [] al hs K:=⟨[],al,hs,.nil,h⟩
theorem oN.cons{o:Oper}{l:List Oper}{x:XV}{hs1:aj}{b:Ab}{K:List Ab->bl->aj->Prop}(h:aH O P ops al hs o x hs1 b)(hd:(match o.dst with | .none=>true|some d=>decide (d<nt))=true)
 (hk:oN O P ops nt l (xf o.dst x al) hs1 fun bs=>K (b::bs)):oN O P ops nt (o::l) al hs K:=by
 obtain⟨bs,al',hs',h1,h2⟩:=hk
 exact⟨b::bs,al',hs',.cons h (fun d hd'=>by rw[hd']at hd;exact of_decide_eq_true hd) h1,h2⟩
theorem WX.Rc(hO:aU P O){id:Nat}{K:dM}(h:oN O P ops nt ops.toList al hs fun _ al' hs'=>K .normal al' hs'):WX P nt nI (.code (.region id ops false)) al hs K:=by
 obtain⟨bs,al',hs',h1,h2⟩:=h
 exact WX.plain hO h1 h2
theorem WX.Qg(hO:aU P O)(hP:P.follows .mixedOrders=true){id:Nat}{K:dM}(hst:dA ops nt (jF ops.toList)=true)(h:oN O P ops nt ops.toList al hs fun bs al' hs'=>xC (jF ops.toList) bs=true/\K .normal al' hs'):WX P nt nI (.code (.region id ops true)) al hs K:=by
 obtain⟨bs,al',hs',h1,h2,h3⟩:=h
 exact WX.drawn hO hP hst h1 h2 h3
theorem WX.at{c:w5}{al':bl}{hs':aj}{K:dM}(hl:Am al' al)(hh:hs=hs')(h:WX P nt nI c al' hs' K):WX P nt nI c al hs K:=by
 subst hh
 exact WX.less hl h
theorem WX.count{c:Code}{K:dM}(R:Nat->bl)(H:Nat->aj)(I:Nat->Prop)(N:Nat)(h0:I 0)
 (step:∀i,i<=N->I i->(i<N->I (i+1)->WX P nt nI (.round c) (R (i+1)) (H (i+1)) K)->WX P nt nI (.round c) (R i) (H i) K):WX P nt nI (.round c) (R 0) (H 0) K:=by
 have:∀d i,i+d=N->I i->WX P nt nI (.round c) (R i) (H i) K:=by
  intro d
  induction d with
  | zero=>intro i hi h;exact step i (by omega) h fun hlt=>absurd hlt (by omega)
  | succ d ih=>intro i hi h;exact step i (by omega) h fun hlt h'=>ih (i+1) (by omega) h'
 exact this N 0 (by omega) h0
theorem aH.conv(hw:av ops (rg al) o=some true){s d:TypeId}{y:Operand}(ho:o.op = .convert s d y){k k':IntKind}{x z:Int}(hy:ai (rg al) y = .one (.int k x))(hc:lJ P s d (.one (.int k x))=some (.one (.int k' (jD k' x))))(hz:k'.wrap x=z) :
 aH O P ops al hs o (.one (.int k' z)) hs quiet:=
 aH.pure hw (by rw[ho];simp only[bj,hy,hc,cR,hz])
theorem tQ.tmp{fn:Func}{a:Nat}{y:X1}(hr:fn.results.toList = [.tmp a])(ha:q9 (rg al a)=some y):tQ P fn al hs y.s6:=by
 intro m hm
 unfold dP
 rw[hr]
 simp only[gQ,wM,ha]
end
end Go.Xm
namespace Go.Xm
class aP (P:Program) (t:TypeId) (s:outParam Nat):Prop where out:cW P t=some s
class ef (P:Program) (t:TypeId):Prop where out:lM P t=some false
class eV (P:Program) (t:TypeId):Prop where out:lM P t=some true
class bz (P:Program) (t:TypeId) (zs:outParam (List XC)):Prop where out:qA P t=some zs
class aW (P:Program) (t:TypeId) (d:outParam TypeDesc):Prop where out:P.underlying t=some d
class dY (P:Program) (t:TypeId) (l:outParam (List (Nat×Nat))):Prop where out:∃fs,P.underlying t=some (.struct fs)/\p9 P fs.toList=some l
class c6 (P:Program) (s:TypeId) (f:Nat) (ft:outParam TypeId) (off:outParam Nat):Prop where out:(kr P s f).map (fun fd=>(fd.type,fd.offset))=some (ft,off)
theorem c6.ex{P:Program}{s:TypeId}{f:Nat}{ft:TypeId}{off:Nat}[h:c6 P s f ft off]:∃fd,kr P s f=some fd/\fd.type=ft/\fd.offset=off:=by
 obtain⟨fd,h1,h2⟩:=Option.map_eq_some_iff.1 h.out
 cases h2
 exact⟨fd,h1,rfl,rfl⟩
def ti(k:IntKind)(n:Nat)(f:Nat->Int):List XC:=(List.range n).map fun i => .int k (f i)
def cw(f:Nat->Int)(j:Nat)(x:Int)(i:Nat):Int:=if i=j then x else f i
theorem aE(k:IntKind)(n:Nat)(f:Nat->Int):(ti k n f).length=n:=by simp[ti]
theorem iV{k:IntKind}{n:Nat}{f:Nat->Int}{j:Nat}(h:j<n):(ti k n f)[j]? = some (.int k (f j)):=by simp[ti,h]
theorem s4(k:IntKind)(n:Nat)(f:Nat->Int)(j:Nat)(x:Int):(ti k n f).set j (.int k x)=ti k n (cw f j x):=by
 apply List.ext_getElem?
 intro i
 rw[List.getElem?_set]
 by_cases hj:j=i
 ·subst hj
  by_cases hn:j<n
  ·rw[if_pos rfl,if_pos (by rw[aE];exact hn),iV hn];simp[cw]
  ·rw[if_pos rfl,if_neg (by rw[aE];exact hn),List.getElem?_eq_none (by rw[aE];omega)]
 ·rw[if_neg hj]
  by_cases hn:i<n
  ·rw[iV hn,iV hn];simp[cw,Ne.symm hj]
  ·rw[List.getElem?_eq_none (by rw[aE];omega),List.getElem?_eq_none (by rw[aE];omega)]
theorem sf{k:IntKind}{n:Nat}{f g:Nat->Int}(h:∀i,i<n->f i=g i):ti k n f=ti k n g:=by
 unfold ti
 exact List.map_congr_left fun i hi=>by rw[h i (List.mem_range.1 hi)]
end Go.Xm
namespace Go.Xm
def XC.ay(τ : Nat->Nat):XC->XC
 | .ptr i off => .ptr (τ i) off
 | .slice i off len cap => .slice (τ i) off len cap
 | .map i => .map (τ i)
 | .bind g c => .bind (g.ay τ) (c.ay τ)
 | c=>c
def X1.ay(τ : Nat->Nat):X1->X1
 | .one c => .one (c.ay τ)
 | .agg cs => .agg (cs.map (·.ay τ))
def XV.ay(τ : Nat->Nat):XV->XV
 | .undef => .undef
 | .one c => .one (c.ay τ)
 | .agg cs => .agg (cs.map (·.ay τ))
 | .tup xs => .tup (xs.map (·.ay τ))
def ak.ay(τ : Nat->Nat):ak->ak
 | .dead => .dead
 | .cells vs e opn ro => .cells (vs.map (·.ay τ)) e opn ro
 | .map es => .map (es.map fun p=>(p.1.ay τ,p.2.ay τ))
def XV.b7(n:Nat):XV->Prop
 | .undef=>True
 | .one c=>c.ok n
 | .agg cs=>∀c∈cs,c.ok n
 | .tup xs=>∀x∈xs,x.ok n
def ak.b7(n:Nat):ak->Prop
 | .dead=>True
 | .cells vs _ _ _=>∀c∈vs,c.ok n
 | .map es=>∀p∈es,p.1.ok n/\p.2.ok n
theorem XC.nT{τ : Nat->Nat}{n N:Nat}(h:∀i,i<n -> τ i<N):∀{c:XC},c.ok n->(c.ay τ).ok N:=by
 intro c
 induction c with
 | ptr i off=>exact fun h'=>h i h'
 | slice i off len cap=>exact fun h'=>h i h'
 | map i=>exact fun h'=>h i h'
 | bind g c ih1 ih2=>exact fun h'=>⟨ih1 h'.1,ih2 h'.2⟩
 | _=>intro _;trivial
theorem X1.nT{τ : Nat->Nat}{n N:Nat}(h:∀i,i<n -> τ i<N):∀{x:X1},x.ok n->(x.ay τ).ok N
 | .one _,h'=>XC.nT h h'
 | .agg cs,h'=>fun c hc=>by
   obtain⟨d,hd,rfl⟩:=List.mem_map.1 hc
   exact XC.nT h (h' d hd)
variable [ax]
def Cx(β β':Env)(τ : Nat->Nat)(n:Nat):Prop:=∀i,i<n -> β'.dt (τ i) = β.dt i /\ β'.size (τ i) = β.size i /\ β'.base (τ i) = β.base i
theorem XC.jf{β β':Env}{τ : Nat->Nat}{n:Nat}(h:Cx β β' τ n):∀{c:XC},c.ok n->(c.ay τ).den β'=c.den β:=by
 intro c
 induction c with
 | ptr i off=>intro h';simp only[XC.ay,XC.den,(h i h').1,(h i h').2.2]
 | slice i off len cap=>intro h';cases cap<;>simp only[XC.ay,XC.den,(h i h').1,(h i h').2.1,(h i h').2.2]
 | map i=>intro h';simp only[XC.ay,XC.den,(h i h').1]
 | bind g c ih1 ih2=>intro h';simp only[XC.ay,XC.den,ih1 h'.1,ih2 h'.2]
 | _=>intro _;rfl
theorem iu{β β':Env}{τ : Nat->Nat}{n:Nat}(h:Cx β β' τ n){cs:List XC}(hc:∀c∈cs,c.ok n):(cs.map (·.ay τ)).map (·.den β')=cs.map (·.den β):=by
 rw[List.map_map]
 exact List.map_congr_left fun c hm=>XC.jf h (hc c hm)
theorem X1.jf{β β':Env}{τ : Nat->Nat}{n:Nat}(h:Cx β β' τ n):∀{x:X1},x.ok n->(x.ay τ).den β'=x.den β
 | .one _,h'=>XC.jf h h'
 | .agg cs,h'=>by simp only[X1.ay,X1.den,iu h h']
theorem aO.ay{β β':Env}{τ : Nat->Nat}{n N:Nat}(h:Cx β β' τ n)(hb:∀i,i<n -> τ i<N){x:XV}{v:Value}(hr:aO β n x v):aO β' N (x.ay τ) v:=by
 cases x with
 | undef=>trivial
 | one c=>exact⟨XC.nT hb hr.1,hr.2.trans (XC.jf h hr.1).symm⟩
 | agg cs=>
   refine⟨fun c hc=>?_,hr.2.trans (by rw[iu h hr.1])⟩
   obtain⟨d,hd,rfl⟩:=List.mem_map.1 hc
   exact XC.nT hb (hr.1 d hd)
 | tup xs=>
   refine⟨fun c hc=>?_,hr.2.trans ?_⟩
   ·obtain⟨d,hd,rfl⟩:=List.mem_map.1 hc
    exact X1.nT hb (hr.1 d hd)
   ·rw[List.map_map]
    exact congrArg (fun l=>Value.tuple (List.toArray l)) (List.map_congr_left fun c hm=>(X1.jf h (hr.1 c hm)).symm)
theorem aO.yr{β β':Env}{τ : Nat->Nat}{n N:Nat}(h:Cx β β' τ n){x:XV}(hx:x.b7 n){v:Value}(hr:aO β' N (x.ay τ) v):aO β n x v:=by
 cases x with
 | undef=>trivial
 | one c=>exact⟨hx,hr.2.trans (XC.jf h hx)⟩
 | agg cs=>exact⟨hx,hr.2.trans (by rw[iu h hx])⟩
 | tup xs=>
   refine⟨hx,hr.2.trans ?_⟩
   rw[List.map_map]
   exact congrArg (fun l=>Value.tuple (List.toArray l)) (List.map_congr_left fun c hm=>X1.jf h (hx c hm))
theorem gq.ay{β β':Env}{τ : Nat->Nat}{n N lo sz:Nat}(h:Cx β β' τ n)(hb:∀i,i<n -> τ i<N){x:ak}{o:Option Obj}(hr:gq β n lo sz x o):gq β' N lo sz (x.ay τ) o:=by
 cases x with
 | dead=>trivial
 | cells vs e opn ro=>
   obtain⟨cs,fr,h1,h2,h3,h4,h5,h6⟩:=hr
   refine⟨cs,fr,h1,h2,by rw[List.length_map];exact h3,h4,fun c hc=>?_,?_⟩
   ·obtain⟨d,hd,rfl⟩:=List.mem_map.1 hc
    exact XC.nT hb (h5 d hd)
   ·rw[List.length_map,h6,iu h h5]
 | map es=>
   obtain⟨en,clock,h1,h2,h3⟩:=hr
   refine⟨en,clock,h1,fun p hp=>?_,h3.trans ?_⟩
   ·obtain⟨d,hd,rfl⟩:=List.mem_map.1 hp
    exact⟨X1.nT hb (h2 d hd).1,X1.nT hb (h2 d hd).2⟩
   ·rw[List.map_map]
    exact List.map_congr_left fun p hp=>by simp only[Function.comp,X1.jf h (h2 p hp).1,X1.jf h (h2 p hp).2]
theorem gq.yr{β β':Env}{τ : Nat->Nat}{n N lo sz:Nat}(h:Cx β β' τ n){x:ak}(hx:x.b7 n){o:Option Obj}(hr:gq β' N lo sz (x.ay τ) o):gq β n lo sz x o:=by
 cases x with
 | dead=>trivial
 | cells vs e opn ro=>
   obtain⟨cs,fr,h1,h2,h3,h4,h5,h6⟩:=hr
   rw[List.length_map]at h3 h6
   exact⟨cs,fr,h1,h2,h3,h4,hx,by rw[h6,iu h hx]⟩
 | map es=>
   obtain⟨en,clock,h1,h2,h3⟩:=hr
   refine⟨en,clock,h1,hx,h3.trans ?_⟩
   rw[List.map_map]
   exact List.map_congr_left fun p hp=>by simp only[Function.comp,X1.jf h (hx p hp).1,X1.jf h (hx p hp).2]
theorem rL{τ : Nat->Nat}{x:ak}:(x.ay τ).live=x.live:=by cases x<;>rfl
theorem pP{τ : Nat->Nat}{x:ak}:(x.ay τ).own=x.own:=by cases x<;>rfl
structure View(τ : Nat->Nat)(hs1 hs2:aj):Prop where
 lt:∀j,j<hs2.length -> τ j<hs1.length
 inj:∀(i j:Nat) (a b:ak),hs2[i]? = some a->hs2[j]? = some b->a ≠ .dead->b ≠ .dead -> τ i = τ j->i=j
 ok:∀(j:Nat) (o:ak),hs2[j]? = some o->o.b7 hs2.length
 obj:∀(j:Nat) (o:ak),hs2[j]? = some o->o = .dead\/hs1[τ j]? = some (o.ay τ)
theorem bH.get?{m:Mem}{hs:aj}(h:bH m hs){i:Nat}(hi:i<m.n):hs[i]? = some (m.get i):=by
 have:=h.n
 rw[h.get i hi,List.getD_eq_getElem?_getD,List.getElem?_eq_getElem (by omega)]
 rfl
theorem Rel.view{β : Env}{m m2:Mem}{w:World}{hs1 hs2:aj}{τ : Nat->Nat}(h:Rel β m w)(h1:bH m hs1)(h2:bH m2 hs2)(v:View τ hs1 hs2){β2:Env}(hv:Cx β2 β τ hs2.length):Rel β2 m2 w:=by
 have n1:=h1.n
 have n2:=h2.n
 have key:∀i,i<m2.n->m2.get i = .dead\/(m2.get i).b7 hs2.length /\ τ i<m.n/\m.get (τ i)=(m2.get i).ay τ:=fun i hi=>by
  have g:=h2.get? hi
  have lt:=v.lt i (by omega)
  rcases v.obj i _ g with e|e
  ·exact .inl e
  ·refine .inr ⟨v.ok i _ g,by omega,?_⟩
   exact h1.at e
 refine⟨h2.bnd,h2.fresh,fun i hi=>?_,fun i j hi hj li lj hb=>?_⟩
 ·rcases key i hi with e|⟨e1,e2,e3⟩
  ·rw[e];trivial
  ·have:=h.obj (τ i) e2
   rw[e3,(hv i (by omega)).1,(hv i (by omega)).2.1,(hv i (by omega)).2.2]at this
   rw[n2]
   exact this.yr hv e1
 ·rcases key i hi with e|⟨_,e2,e3⟩
  ·rw[e]at li;cases li
  rcases key j hj with e|⟨_,e2',e3'⟩
  ·rw[e]at lj;cases lj
  refine v.inj i j _ _ (h2.get? hi) (h2.get? hj) (fun e=>by rw[e]at li;cases li) (fun e=>by rw[e]at lj;cases lj) (h.inj (τ i) (τ j) e2 e2' (by rw[e3,pP];exact li) (by rw[e3',rL];exact lj) ?_)
  rw[(hv i (by omega)).1,(hv j (by omega)).1]
  exact hb
theorem Rel.zN{β : Env}{m m2:Mem}{hs1 hs2:aj}{τ : Nat->Nat}(h1:bH m hs1)(h2:bH m2 hs2)(v:View τ hs1 hs2){β2:Env}(hv:Cx β2 β τ hs2.length){k:Nat}(hi:K6 β2 m2 k):K6 β m k:=by
 obtain⟨i,hi,hl,rfl⟩:=hi
 have n1:=h1.n
 have n2:=h2.n
 have g:=h2.get? hi
 have lt:=v.lt i (by omega)
 rcases v.obj i _ g with e|e
 ·rw[e]at hl;cases hl
 ·refine⟨τ i,by omega,?_,(hv i (by omega)).1⟩
  rw[h1.at e,pP]
  exact hl
def bh(P:Program)(f:FuncId)(args:List XV)(hs:aj)(v:XV)(hs':aj):Prop:=
 ∀ (m:Mem),bH m hs->∀(β : Env) (w:World) (vs:List Value),du (aO β m.n) args vs->Rel β m w ->
   Calls P f vs.toArray w fun e w'=>∃u β' m',e = .returned u/\bH m' hs'/\aO β' m'.n v u/\Step β m w β' m' w'
def aC(P:Program)(fn:Func)(n:Nat)(v:XV)(hs':aj):dM:=fun e al hs1=>(e = .normal\/e = .ret)/\∃(v1:XV) (τ : Nat->Nat),tQ P fn al hs1 v1/\v1=v.ay τ/\v.b7 hs'.length/\View τ hs1 hs'/\∀j,j<n -> τ j=j
theorem WX.view{P:Program}{nt nI:Nat}{c:w5}{al al2:bl}{hs hs2:aj}{K:dM}(τ : Nat->Nat)(hv:View τ hs hs2)(hid:∀j,j<nI -> τ j=j)(hle:nI<=hs2.length)(hb:Nat.blt hs2.length Mem.bound=true)(hok:∀t,(rg al2 t).b7 hs2.length)(hr:∀t,rg al2 t = .undef\/rg al t=(rg al2 t).ay τ)
 (h:WX P nt nI c al2 hs2 K):WX P nt nI c al hs K:=by
 intro βI mI wI hn m hm β w a Q hrel hst hq
 have hm2:=iZ hs2 (by simpa [Nat.blt_eq]using hb)
 have n1:=hm.n
 have n2:=hm2.n
 let β2:Env:=⟨fun i => β.dt (τ i),fun i => β.base (τ i),fun i => β.size (τ i)⟩
 have hvia:Cx β2 β τ hs2.length:=fun i _=>⟨rfl,rfl,rfl⟩
 have hst2:Step βI mI wI β2 (mR hs2) w:=by
  refine⟨by omega,fun i hi=>?_,hst.rel.view hm hm2 hv hvia,hst.os,hst.tape,hst.output,hst.size,hst.frame,fun k hk hi=>hst.xa k hk (Rel.zN hm hm2 hv hvia hi)⟩
  have:=hst.ext i hi
  show β.dt (τ i) = βI.dt i /\ β.size (τ i) = βI.size i /\ β.base (τ i) = βI.base i
  rw[hid i (by omega)]
  exact this
 refine h βI mI wI hn (mR hs2) hm2 β2 w a Q ⟨hrel.size,hrel.small,fun t ht=>?_,fun t ht=>?_⟩ hst2 hq
 ·rcases hr t with e|e
  ·rw[e];trivial
  ·have:=hrel.rel t ht
   rw[e]at this
   rw[n2]
   exact this.yr hvia (hok t)
 ·rcases hr t with e|e
  ·exact e
  ·have:=hrel.out t ht
   rw[e]at this
   cases hx:rg al2 t<;>rw[hx]at this<;>first|rfl|cases this
theorem Fy{P:Program}{f:FuncId}{fn:Func}{c:Code}{args:List XV}{hs hs':aj}{v:XV}(hf:P.funcs[f]? = some fn)(hb:fn.body=some c)(hn:fn.ntmps<1000000)(hl:args.length<=fn.ntmps)(hle:hs.length<=hs'.length)(hbd:hs'.length<Mem.bound)
 (h:WX P fn.ntmps hs.length (.code c) (nq args 0) hs (aC P fn hs.length v hs')):bh P f args hs v hs':=by
 intro m hm β w vs hall hw
 refine calls_of_wp hf hb ?_
 have hr0:=rI hall hn hl
 have e:(gC args 0 .leaf).get .undef=rg (nq args 0):=by
  funext j
  rw[nM args 0 .leaf (by omega) j,vL,T.fx]
 unfold mF at hr0
 rw[e]at hr0
 have nm:=hm.n
 refine h β m w nm m hm β w _ _ hr0 (Step.refl hw) fun x al' hs1 m1 hk hm1 a' β' w' h1 h2 h3=>?_
 obtain⟨hx,v1,τ,hres,rfl,hok,hview,hid⟩:=hk
 obtain⟨u,hu1,hu2⟩:=pC (hres m1 hm1) h3.rel h1
 have hm2:=iZ hs' hbd
 have n2:=hm2.n
 let β2:Env:=⟨fun i => β'.dt (τ i),fun i => β'.base (τ i),fun i => β'.size (τ i)⟩
 have hv:Cx β2 β' τ hs'.length:=fun i _=>⟨rfl,rfl,rfl⟩
 have hst:Step β m w β2 (mR hs') w':=by
  refine⟨by omega,fun i hi=>?_,h3.rel.view hm1 hm2 hview hv,h3.os,h3.tape,h3.output,h3.size,h3.frame,fun k hk hi=>h3.xa k hk (Rel.zN hm1 hm2 hview hv hi)⟩
  have:=h3.ext i hi
  show β'.dt (τ i) = β.dt i /\ β'.size (τ i) = β.size i /\ β'.base (τ i) = β.base i
  rw[hid i (by omega)]
  exact this
 have hu3:aO β2 (mR hs').n v u:=by rw[n2];exact hu2.yr hv hok
 rcases hx with rfl|rfl<;>exact⟨h2,u,hu1,u,β2,mR hs',rfl,hm2,hu3,hst⟩
def beyond(ρ : Nat->Nat)(n N:Nat)(j:Nat):Nat:=if j<n then ρ j else N+(j-n)
structure Nw(ρ : Nat->Nat)(n:Nat)(HS:aj)(hs':aj)(HS':aj):Prop where
 len:HS'.length=HS.length+(hs'.length-n)
 obj:∀(j:Nat) (o:ak),hs'[j]? = some o->HS'[beyond ρ n HS.length j]? = some (o.ay (beyond ρ n HS.length))
 old:∀i,i<HS.length->(∀j,j<n -> ρ j≠i)->HS'[i]? = HS[i]?
theorem uB{β0 β : Env}{ρ : Nat->Nat}{n N:Nat}(hvia:Cx β0 β ρ n):∀{args:List XV} {vs:List Value},(∀x∈args,x.b7 n)->du (aO β N) (args.map (·.ay ρ)) vs->du (aO β0 n) args vs
 | [],_,_,h=>by cases h;exact .nil
 | x::l,_,ha,h=>by
   cases h with
   | cons h1 h2=>exact .cons (h1.yr hvia (ha x (List.mem_cons_self ..))) (uB hvia (fun y hy=>ha y (List.mem_cons_of_mem _ hy)) h2)
theorem CJ{P:Program}{f:FuncId}{args:List XV}{hs hs' HS HS':aj}{v:XV}(hc:bh P f args hs v hs')(hle:hs.length<=hs'.length)(hbd:hs.length<Mem.bound){ρ : Nat->Nat}(hv:View ρ HS hs)(ha:∀x∈args,x.b7 hs.length)(haf:Nw ρ hs.length HS hs' HS')(hro:∀(j:Nat) (o:ak),hs'[j]? = some o->o.live=true->o.own=false->∃o0,hs[j]? = some o0/\o0.live=true)
 {M M':Mem}(hM:bH M HS) (hM':bH M' HS'):eQ P f (args.map (·.ay ρ)) M (v.ay (beyond ρ hs.length HS.length)) M':=by
 intro β w vs hall hw
 have hm0:=iZ hs hbd
 have n0:=hm0.n
 have N0:=hM.n
 have N1:=hM'.n
 have hlen:=haf.len
 let β0:Env:=⟨fun i => β.dt (ρ i),fun i => β.base (ρ i),fun i => β.size (ρ i)⟩
 have hvia:Cx β0 β ρ hs.length:=fun i _=>⟨rfl,rfl,rfl⟩
 have hrel0:Rel β0 (mR hs) w:=hw.view hM hm0 hv hvia
 have hargs:du (aO β0 (mR hs).n) args vs:=by
  rw[n0]
  exact uB hvia ha hall
 refine(hc _ hm0 β0 w vs hargs hrel0).mono fun e w' ⟨u,β1,m1,he,hm1,hu,hst⟩=>?_
 have n1:=hm1.n
 have hsle:=hst.le
 let ρ':=beyond ρ hs.length HS.length
 let β':Env:=⟨fun i=>if i<HS.length then β.dt i else β1.dt (i-HS.length+hs.length),fun i=>if i<HS.length then β.base i else β1.base (i-HS.length+hs.length),fun i=>if i<HS.length then β.size i else β1.size (i-HS.length+hs.length)⟩
 have hvia':Cx β1 β' ρ' hs'.length:=by
  intro j hj
  show(if ρ' j<HS.length then β.dt (ρ' j)else β1.dt (ρ' j-HS.length+hs.length)) = β1.dt j/\(if ρ' j<HS.length then β.size (ρ' j)else β1.size (ρ' j-HS.length+hs.length)) = β1.size j/\(if ρ' j<HS.length then β.base (ρ' j)else β1.base (ρ' j-HS.length+hs.length)) = β1.base j
  by_cases h:j<hs.length
  ·have e1 : ρ' j = ρ j:=if_pos h
   have e2:=hv.lt j h
   rw[e1,if_pos e2,if_pos e2,if_pos e2]
   have:=hst.ext j (by omega)
   exact⟨this.1.symm,this.2.1.symm,this.2.2.symm⟩
  ·have e1 : ρ' j=HS.length+(j-hs.length):=if_neg h
   rw[e1,if_neg (by omega),if_neg (by omega),if_neg (by omega),show HS.length+(j-hs.length)-HS.length+hs.length=j by omega]
   exact⟨rfl,rfl,rfl⟩
 have hlt':∀j,j<hs'.length -> ρ' j<HS'.length:=by
  intro j hj
  by_cases h:j<hs.length
  ·have e1 : ρ' j = ρ j:=if_pos h
   have e2:=hv.lt j h
   omega
  ·have e1 : ρ' j=HS.length+(j-hs.length):=if_neg h
   omega
 refine⟨u,β',he,by rw[N1];rw[n1]at hu;exact hu.ay hvia' hlt',?_⟩
 have kinds:∀i,i<M'.n->(∃j,j<m1.n /\ ρ' j=i/\M'.get i=(m1.get j).ay ρ')\/(i<HS.length/\(∀j,j<hs.length -> ρ j≠i)/\M'.get i=M.get i/\i<M.n):=by
  intro i hi
  by_cases h:i<HS.length
  ·by_cases h2:∃j,j<hs.length /\ ρ j=i
   ·obtain⟨j,hj,rfl⟩:=h2
    refine .inl ⟨j,by omega,if_pos hj,?_⟩
    have g:=hm1.get? (i:=j) (by omega)
    have:=haf.obj j _ g
    have e1:beyond ρ hs.length HS.length j = ρ j:=if_pos hj
    rw[e1]at this
    exact hM'.at this
   ·have h3:∀j,j<hs.length -> ρ j≠i:=fun j hj e=>h2 ⟨j,hj,e⟩
    refine .inr ⟨h,h3,?_,by omega⟩
    have e1:=haf.old i h h3
    rw[hM'.get? hi,hM.get? (i:=i) (by omega)]at e1
    exact Option.some.inj e1
  ·refine .inl ⟨i-HS.length+hs.length,by omega,?_,?_⟩
   ·show beyond ρ hs.length HS.length _=i
    unfold beyond
    rw[if_neg (by omega)];omega
   ·have g:=hm1.get? (i:=i-HS.length+hs.length) (by omega)
    have:=haf.obj _ _ g
    have e1:beyond ρ hs.length HS.length (i-HS.length+hs.length)=i:=by unfold beyond;rw[if_neg (by omega)];omega
    rw[e1]at this
    exact hM'.at this
 have imgs:∀j,j<m1.n->(m1.get j).own=true -> β1.dt j<w.heap.size->∃j2,j2<hs.length/\((mR hs).get j2).own=true /\ β.dt (ρ j2) = β1.dt j:=by
  intro j hj hl hlt
  obtain⟨j2,h1,h2,h3⟩:=hst.xa _ hlt ⟨j,hj,hl,rfl⟩
  exact⟨j2,by omega,h2,h3⟩
 have liveρ : ∀j2,j2<hs.length->((mR hs).get j2).own=true -> ρ j2<M.n/\(M.get (ρ j2)).own=true:=by
  intro j2 h1 h2
  have g:=hm0.get? (i:=j2) (by omega)
  have lt:=hv.lt j2 h1
  refine⟨by omega,?_⟩
  rcases hv.obj j2 _ g with e|e
  ·rw[e]at h2;cases h2
  ·rw[hM.at e,pP];exact h2
 have bold:∀i,i<HS.length -> β'.dt i = β.dt i /\ β'.size i = β.size i /\ β'.base i = β.base i:=fun i h=>⟨if_pos h,if_pos h,if_pos h⟩
 refine⟨by omega,fun i hi=>bold i (by omega),⟨hM'.bnd,hM'.fresh,fun i hi=>?_,fun i i2 hi hi2 hl hl2 hbb=>?_⟩,hst.os,hst.tape,hst.output,hst.size,fun k hk hn=>?_,fun k hk hi=>?_⟩
 ·rcases kinds i hi with⟨j,hj,rfl,hg⟩|⟨h1,h2,hg,h3⟩
  ·rw[hg,N1,(hvia' j (by omega)).1,(hvia' j (by omega)).2.1,(hvia' j (by omega)).2.2]
   have:=hst.rel.obj j hj
   rw[n1]at this
   exact this.ay hvia' hlt'
  ·rw [hg,(bold i h1).1,(bold i h1).2.1,(bold i h1).2.2]
   cases hgm:M.get i with
   | dead=>trivial
   | cells a b c d=>
     have hli:(M.get i).live=true:=by rw[hgm];rfl
     have hlt:=hw.lt h3 hli
     have hfr:w'.heap[β.dt i]? = w.heap[β.dt i]?:=by
      refine hst.frame _ hlt fun⟨j2,q1,q2,q3⟩=>?_
      have q4:=liveρ j2 (by omega) q2
      exact h2 j2 (by omega) (hw.inj (ρ j2) i q4.1 h3 q4.2 hli q3)
     rw[hfr,<-hgm]
     exact(hw.obj i h3).ext (fun i hi=>bold i (by omega)) (by omega)
   | map es=>
     have hli:(M.get i).live=true:=by rw[hgm];rfl
     have hlt:=hw.lt h3 hli
     have hfr:w'.heap[β.dt i]? = w.heap[β.dt i]?:=by
      refine hst.frame _ hlt fun⟨j2,q1,q2,q3⟩=>?_
      have q4:=liveρ j2 (by omega) q2
      exact h2 j2 (by omega) (hw.inj (ρ j2) i q4.1 h3 q4.2 hli q3)
     rw[hfr,<-hgm]
     exact(hw.obj i h3).ext (fun i hi=>bold i (by omega)) (by omega)
 ·rcases kinds i hi with⟨j,hj,rfl,hg⟩|⟨h1,h2,hg,h3⟩
  ·rcases kinds i2 hi2 with⟨j',hj',rfl,hg'⟩|⟨h1',h2',hg',h3'⟩
   ·rw[(hvia' j (by omega)).1,(hvia' j' (by omega)).1]at hbb
    rw[hg,pP]at hl
    rw[hg',rL]at hl2
    rw[hst.rel.inj j j' hj hj' hl hl2 hbb]
   ·rw[(hvia' j (by omega)).1,(bold i2 h1').1]at hbb
    rw[hg,pP]at hl
    rw[hg']at hl2
    have hlt:=hw.lt h3' hl2
    obtain⟨j2,q1,q2,q3⟩:=imgs j hj hl (by rw[hbb];exact hlt)
    have q4:=liveρ j2 q1 q2
    exact absurd (hw.inj (ρ j2) i2 q4.1 h3' q4.2 hl2 (q3.trans hbb)) (h2' j2 q1)
  ·rcases kinds i2 hi2 with⟨j',hj',rfl,hg'⟩|⟨h1',h2',hg',h3'⟩
   ·rw [(hvia' j' (by omega)).1,(bold i h1).1]at hbb
    rw[hg',rL]at hl2
    rw[hg]at hl
    have hlt:=hw.lt h3 (ak.dB hl)
    cases hown:(m1.get j').own with
    | true=>
      obtain⟨j2,q1,q2,q3⟩:=imgs j' hj' hown (by rw[<-hbb];exact hlt)
      have q4:=liveρ j2 q1 q2
      exact absurd (hw.inj (ρ j2) i q4.1 h3 q4.2 (ak.dB hl) (q3.trans hbb.symm)) (h2 j2 q1)
    | false=>
      obtain⟨o0,q1,q2⟩:=hro j' _ (hm1.get? hj') hl2 hown
      have q3:j'<hs.length:=(List.getElem?_eq_some_iff.1 q1).1
      have q4:=hv.lt j' q3
      have q5:(M.get (ρ j')).live=true:=by
       rcases hv.obj j' o0 q1 with e|e
       ·rw[e]at q2;cases q2
       ·rw[hM.at e,rL];exact q2
      have q6 : β1.dt j' = β.dt (ρ j'):=(hst.ext j' (by omega)).1
      exact absurd (hw.inj i (ρ j') h3 (by omega) hl q5 (hbb.trans q6)).symm (h2 j' q3)
   ·rw[(bold i h1).1,(bold i2 h1').1]at hbb
    rw[hg]at hl
    rw[hg']at hl2
    exact hw.inj i i2 h3 h3' hl hl2 hbb
 ·refine hst.frame k hk fun⟨j2,q1,q2,q3⟩=>hn ?_
  have q4:=liveρ j2 (by omega) q2
  exact⟨ρ j2,q4.1,q4.2,q3⟩
 ·obtain⟨i,hi,hl,rfl⟩:=hi
  rcases kinds i hi with⟨j,hj,rfl,hg⟩|⟨h1,h2,hg,h3⟩
  ·rw[hg,pP]at hl
   rw[(hvia' j (by omega)).1]at hk ⊢
   obtain⟨j2,q1,q2,q3⟩:=imgs j hj hl hk
   have q4:=liveρ j2 q1 q2
   exact⟨ρ j2,q4.1,q4.2,q3⟩
  ·rw[hg]at hl
   rw[(bold i h1).1]
   exact⟨i,h3,hl,rfl⟩
end Go.Xm
namespace Go.Xm
variable [ax]
theorem XC.eC{c:XC}(h:c.shut=true)(τ : Nat->Nat):c.ay τ = c:=by
 induction c with
 | bind g c ih1 ih2=>
   simp only[XC.shut,Bool.and_eq_true]at h
   simp only[XC.ay,ih1 h.1,ih2 h.2]
 | ptr i off=>cases h
 | slice i off len cap=>cases h
 | map i=>cases h
 | _=>rfl
theorem fu{cs:List XC}(h:cs.all XC.shut=true)(τ : Nat->Nat):cs.map (·.ay τ)=cs:=by
 rw[List.all_eq_true]at h
 exact(List.map_congr_left fun c hc=>XC.eC (h c hc) τ).trans (by simp)
theorem X1.eC{x:X1}(h:x.shut=true)(τ : Nat->Nat):x.ay τ = x:=by
 cases x with
 | one c=>simp only[X1.ay,XC.eC h]
 | agg cs=>simp only[X1.ay,fu h]
theorem XV.eC{x:XV}(h:x.shut=true)(τ : Nat->Nat):x.ay τ = x:=by
 cases x with
 | undef=>rfl
 | one c=>simp only[XV.ay,XC.eC h]
 | agg cs=>simp only[XV.ay,fu h]
 | tup xs=>
   have h':=List.all_eq_true.1 h
   simp only[XV.ay]
   rw[(List.map_congr_left fun c hc=>X1.eC (h' c hc) τ : xs.map (·.ay τ)=xs.map id),List.map_id]
theorem mn{l:List XV}(h:∀x∈l,x.shut=true)(τ : Nat->Nat):l.map (·.ay τ)=l:=
 (List.map_congr_left fun c hc=>XV.eC (h c hc) τ).trans (by simp)
theorem XV.e9{x:XV}(h:x.shut=true)(n:Nat):x.b7 n:=by
 cases x with
 | undef=>trivial
 | one c=>exact XC.bV h n
 | agg cs=>exact fun c hc=>XC.bV (List.all_eq_true.1 h c hc) n
 | tup xs=>exact fun c hc=>X1.bV (List.all_eq_true.1 h c hc) n
structure aG where
 f:FuncId
 args:List XV
 hs:aj
 v:XV
 hs':aj
 ws:List Nat
def nR(n m:Nat):List Nat:=List.range' n (m-n)
structure aG.Sound(P:Program)(e:aG):Prop where
 le:e.hs.length<=e.hs'.length
 bnd:e.hs'.length<Mem.bound
 same:∀i,i<e.hs.length->i∉e.ws->e.hs'[i]? = e.hs[i]?
 call:∀M M',bH M e.hs->bH M' e.hs'->eQ P e.f e.args M e.v M'
def nW(m:Mem)(hs':aj):List Nat->Mem
 | []=>m
 | i::l=>nW (m.put i (hs'.getD i .dead)) hs' l
def jQ(m:Mem):List ak->Mem
 | []=>m
 | o::l=>jQ ((m.push o).getD m) l
def aG.mem(e:aG)(m:Mem):Mem:=jQ (nW m e.hs' (e.ws.filter fun i=>decide (i<e.hs.length))) (e.hs'.drop e.hs.length)
theorem tA(hs':aj):∀(l:List Nat) (m:Mem),sv m (nW m hs' l)
 | [],m => .same m
 | i::l,m => .trans (.put m i _) (tA hs' l _)
theorem pe:∀(l:List ak) (m:Mem),sv m (jQ m l)
 | [],m => .same m
 | o::l,m=>by
   unfold jQ
   cases h:m.push o with
   | none=>exact pe l m
   | some m'=>exact .trans (.push h) (pe l m')
theorem qo(hs':aj):∀(l:List Nat) (m:Mem) (hs:aj),bH m hs->(∀i∈l,i<hs.length) ->
 ∃hs2,bH (nW m hs' l) hs2/\hs2.length=hs.length/\(∀i,i∈l->hs2[i]? = some (hs'.getD i .dead))/\(∀i,i∉l->hs2[i]? = hs[i]?)/\∀j,j∉l->((nW m hs' l).gy j).ver=(m.gy j).ver
 | [],m,hs,h,_=>⟨hs,h,rfl,(fun i hi=>by cases hi),fun _ _=>rfl,fun _ _=>rfl⟩
 | i :: l,m,hs,h,hl=>by
   have hi:=hl i (List.mem_cons_self ..)
   have hg:hs[i]? = some hs[i]:=List.getElem?_eq_getElem hi
   obtain⟨hs2,h1,h2,h3,h4,h5⟩:=qo hs' l (m.put i (hs'.getD i .dead)) (hs.set i (hs'.getD i .dead)) (h.put hg _) (fun j hj=>by rw[List.length_set];exact hl j (List.mem_cons_of_mem _ hj))
   refine⟨hs2,h1,by rw[h2,List.length_set],fun j hj=>?_,fun j hj=>?_,fun j hj=>?_⟩
   ·by_cases hjl:j∈l
    ·exact h3 j hjl
    ·rw[h4 j hjl]
     rcases List.mem_cons.1 hj with rfl|hj
     ·simp[hi]
     ·exact absurd hj hjl
   ·simp only[List.mem_cons,not_or]at hj
    rw[h4 j hj.2,List.getElem?_set_ne (Ne.symm hj.1)]
   ·simp only[List.mem_cons,not_or]at hj
    show((nW (m.put i (hs'.getD i .dead)) hs' l).gy j).ver=_
    rw[h5 j hj.2,Mem.iN m _ hj.1]
theorem qn:∀(l:List ak) (m:Mem) (hs:aj),bH m hs->hs.length+l.length<Mem.bound->bH (jQ m l) (hs++l)/\∀j,j<hs.length->((jQ m l).gy j).ver=(m.gy j).ver
 | [],m,hs,h,_=>⟨by simpa [jQ]using h,fun _ _=>rfl⟩
 | o::l,m,hs,h,hb=>by
   simp only[List.length_cons]at hb
   obtain⟨m',h1,h2,h3⟩:=h.push o (by omega)
   have ih:=qn l m' (hs++[o]) h2 (by simp;omega)
   unfold jQ
   rw[h1]
   simp only[Option.getD_some]
   refine⟨by simpa using ih.1,fun j hj=>?_⟩
   rw[ih.2 j (by simp;omega),h3 j (by simp;omega)]
theorem tx:∀(l:List ak) (m:Mem) (hs:aj),bH m hs->hs.length+l.length<Mem.bound->∀j,hs.length+l.length<=j->((jQ m l).gy j).ver=(m.gy j).ver
 | [],m,hs,_,_,j,_=>rfl
 | o::l,m,hs,h,hb,j,hj=>by
   simp only[List.length_cons]at hb hj
   obtain⟨m',h1,h2,h3⟩:=h.push o (by omega)
   unfold jQ
   rw[h1]
   simp only[Option.getD_some]
   rw[tx l m' (hs++[o]) h2 (by simp;omega) j (by simp;omega),h3 j (by simp;omega)]
theorem aG.Sound.holds{P:Program}{e:aG}(h:e.Sound P){m:Mem}(hm:bH m e.hs):bH (e.mem m) e.hs'/\sv m (e.mem m)/\∀j,j∉e.ws++nR e.hs.length e.hs'.length->((e.mem m).gy j).ver=(m.gy j).ver:=by
 obtain⟨hs2,h1,h2,h3,h4,h5⟩:=qo e.hs' (e.ws.filter fun i=>decide (i<e.hs.length)) m e.hs hm (fun i hi=>by simpa using (List.mem_filter.1 hi).2)
 have hlen:(e.hs'.drop e.hs.length).length=e.hs'.length-e.hs.length:=List.length_drop ..
 have hle:=h.le
 have hb:=h.bnd
 have h6:=qn (e.hs'.drop e.hs.length) _ hs2 h1 (by rw[h2,hlen];omega)
 have e1:hs2=e.hs'.take e.hs.length:=by
  apply List.ext_getElem?
  intro i
  by_cases hi:i<e.hs.length
  ·rw[List.getElem?_take,if_pos hi]
   by_cases hw:i∈e.ws.filter fun i=>decide (i<e.hs.length)
   ·rw[h3 i hw,List.getD_eq_getElem?_getD,List.getElem?_eq_getElem (by omega)];rfl
   ·rw[h4 i hw,h.same i hi (fun hh=>hw (List.mem_filter.2 ⟨hh,by simpa using hi⟩))]
  ·rw[List.getElem?_eq_none (by omega),List.getElem?_eq_none (by simp;omega)]
 refine⟨?_,.trans (tA _ _ _) (pe _ _),fun j hj=>?_⟩
 ·have:=h6.1
  rw[e1,List.take_append_drop]at this
  exact this
 ·simp only[List.mem_append,not_or]at hj
  have hv:∀j,j∉e.ws->((nW m e.hs' (e.ws.filter fun i=>decide (i<e.hs.length))).gy j).ver=(m.gy j).ver:=fun j hj=>h5 j fun hh=>hj (List.mem_filter.1 hh).1
  unfold aG.mem
  by_cases hjn:j<e.hs.length
  ·rw[h6.2 j (by omega),hv j hj.1]
  ·rw[tx _ _ hs2 h1 (by rw[h2,hlen];omega) j (by
    rw[h2,hlen]
    have:¬j<e.hs'.length:=fun hlt=>hj.2 (by unfold nR;rw[List.mem_range'_1];omega)
    omega),hv j hj.1]
open Classical in
noncomputable def vC(f:FuncId)(args:List XV)(m:Mem):List aG->Option aG
 | [] => .none
 | e::L=>if e.f=f/\e.args=args/\bH m e.hs then some e else vC f args m L
theorem nU{f:FuncId}{args:List XV}{m:Mem}{e:aG}:∀{L:List aG},vC f args m L=some e->e∈L/\e.f=f/\e.args=args/\bH m e.hs
 | [],h=>by cases h
 | e'::L,h=>by
   unfold vC at h
   split at h
   ·rename_i hc
    cases h
    exact⟨List.mem_cons_self ..,hc⟩
   ·obtain⟨h1,h2⟩:=nU h
    exact⟨List.mem_cons_of_mem _ h1,h2⟩
theorem xX{f:FuncId}{args:List XV}{m:Mem}{e:aG}(hc:e.f=f/\e.args=args/\bH m e.hs):∀{L:List aG},e∈L->∃e',vC f args m L=some e'
 | e'::L,h=>by
   unfold vC
   split
   ·exact⟨_,rfl⟩
   ·rename_i hn
    rcases List.mem_cons.1 h with rfl|h
    ·exact absurd hc hn
    ·exact xX hc h
theorem bH.uniq{m:Mem}{hs hs2:aj}(h:bH m hs)(h2:bH m hs2):hs=hs2:=by
 have n1:=h.n
 have n2:=h2.n
 apply List.ext_getElem?
 intro i
 by_cases hi:i<m.n
 ·rw[h.get? hi,h2.get? hi]
 ·rw[List.getElem?_eq_none (by omega),List.getElem?_eq_none (by omega)]
def Compat(e e':aG):Prop:=e.f=e'.f->e.args=e'.args->e.hs=e'.hs->e.v=e'.v/\e.hs'=e'.hs'/\e.ws=e'.ws
def af(L:List aG):Prop:=∀e∈L,∀e'∈L,Compat e e'
theorem af.nil:af []:=fun _ h=>by cases h
theorem Compat.refl(e:aG):Compat e e:=fun _ _ _=>⟨rfl,rfl,rfl⟩
theorem Compat.symm{e e':aG}(h:Compat e e'):Compat e' e:=fun h1 h2 h3=>by
 obtain⟨k1,k2,k3⟩:=h h1.symm h2.symm h3.symm
 exact⟨k1.symm,k2.symm,k3.symm⟩
theorem af.cons{e:aG}{L:List aG}(h:∀e'∈L,Compat e e')(hL:af L):af (e::L):=by
 intro a ha b hb
 rcases List.mem_cons.1 ha with e1|h1
 ·rcases List.mem_cons.1 hb with e2|h2
  ·rw[e1,e2];exact Compat.refl _
  ·rw[e1];exact h b h2
 ·rcases List.mem_cons.1 hb with e2|h2
  ·rw[e2];exact(h a h1).symm
  ·exact hL a h1 b h2
theorem af.one(e:aG):af [e]:=af.cons (fun _ h=>by cases h) af.nil
theorem Compat.ne{e e':aG}(h:Nat.beq e.f e'.f=false):Compat e e':=fun h1=>by
 rw[h1]at h
 have:Nat.beq e'.f e'.f=true:=Nat.beq_refl _
 rw[this]at h;cases h
theorem af.two{e e':aG}(h:Compat e e'):af [e,e']:=af.cons (fun x hx=>by simp only[List.mem_singleton]at hx;subst hx;exact h) (af.one e')
def tZ(e:aG):List aG->Prop
 | []=>True
 | e'::L=>Compat e e'/\tZ e L
def Nx:List aG->Prop
 | []=>True
 | e::L=>tZ e L/\Nx L
theorem tZ.all{e:aG}:∀{L:List aG},tZ e L->∀e'∈L,Compat e e'
 | [],_,e',h=>by cases h
 | a::L,h,e',h'=>by
   rcases List.mem_cons.1 h' with rfl|h'
   ·exact h.1
   ·exact h.2.all e' h'
theorem af.mD:∀{L:List aG},Nx L->af L
 | [],_=>af.nil
 | _::_,h=>af.cons h.1.all (af.mD h.2)
noncomputable def GL(L:List aG):dI:=⟨fun f args m=>(vC f args m L).map fun e=>(e.v,e.mem m),fun _ _ => .none⟩
theorem q8{P:Program}{L:List aG}(h:∀e∈L,e.Sound P):aU P (GL L):=by
 refine⟨fun f args m v m' hc=>?_,fun f args m v m' hc=>?_,fun _ _ _ he=>by cases he⟩
 ·obtain⟨e,h1,h2⟩:=Option.map_eq_some_iff.1 hc
  cases h2
  obtain⟨hm,rfl,rfl,hh⟩:=nU h1
  exact(h e hm).call m _ hh ((h e hm).holds hh).1
 ·obtain⟨e,h1,h2⟩:=Option.map_eq_some_iff.1 hc
  cases h2
  obtain⟨hm,rfl,rfl,hh⟩:=nU h1
  exact((h e hm).holds hh).2.1
theorem GM{L:List aG}(hc:af L){e:aG}(he:e∈L){m:Mem}(hm:bH m e.hs):(GL L).call e.f e.args m=some (e.v,e.mem m):=by
 obtain⟨e',h1⟩:=xX (f:=e.f) (args:=e.args) (m:=m) ⟨rfl,rfl,hm⟩ he
 obtain⟨h2,h3,h4,h5⟩:=nU h1
 obtain⟨k1,k2,k3⟩:=hc e' h2 e he h3 h4 (h5.uniq hm)
 show(vC e.f e.args m L).map _=_
 rw[h1]
 have k4:e'.hs=e.hs:=h5.uniq hm
 simp only[Option.map_some,k1]
 unfold aG.mem
 rw[k2,k3,k4]
def SK(P:Program)(ops:Array Oper)(nt:Nat)(L:List aG)(l:List Oper)(al:bl)(hs:aj)(K:List Ab->bl->aj->Prop):Prop:=
 ∃Lf,(∀e∈L,e∈Lf)/\(∀e∈Lf,e∈L\/e.Sound P)/\af Lf/\oN (GL Lf) P ops nt l al hs K
variable {P:Program} {ops:Array Oper} {nt nI:Nat} {al:bl} {hs:aj} {o:Oper} {l:List Oper} {L:List aG} {K:List Ab->bl->aj->Prop}
theorem SK.nil(hc:af L)(h:K [] al hs):SK P ops nt L [] al hs K:=⟨L,fun _ h=>h,fun _ h => .inl h,hc,.nil h⟩
theorem SK.lift{x:XV}{hs1:aj}{b:Ab}{d:Nat}(hd:o.dst=some d)(hlt:Nat.blt d nt=true)(h:∀O,aH O P ops al hs o x hs1 b)(hk:SK P ops nt L l ((d,x)::al) hs1 fun bs=>K (b::bs)):SK P ops nt L (o::l) al hs K:=by
 obtain⟨Lf,h1,h2,h3,h4⟩:=hk
 exact⟨Lf,h1,h2,h3,.cons (h _) (by rw[hd];simpa [Nat.blt_eq]using hlt) (by rw[hd];exact h4)⟩
theorem SK.Ew{x:XV}{hs1:aj}{b:Ab}(hd:o.dst = .none)(h:∀O,aH O P ops al hs o x hs1 b)(hk:SK P ops nt L l al hs1 fun bs=>K (b::bs)):SK P ops nt L (o::l) al hs K:=by
 obtain⟨Lf,h1,h2,h3,h4⟩:=hk
 exact⟨Lf,h1,h2,h3,.cons (h _) (by rw[hd]) (by rw[hd];exact h4)⟩
theorem xz{Lf:List aG}(hc:af Lf){e:aG}(he:e∈Lf)(hs0:e.hs=hs)(hsd:e.Sound P){g:Operand}{args:Array Operand}{ts:Array TypeId}(ho:o.op = .call ⟨.value g,args,ts⟩)(hw:av ops (rg al) o=some true)
 {c:XC}(hg:ai (rg al) g = .one c) {caps:List XC}(hx:Aj c=some (e.f,caps)) (hcb:fC P e.f=true) (ha:args.toList.map (ai (rg al))++caps.map .one=e.args) :
 aH (GL Lf) P ops al hs o e.v e.hs' ⟨true,.none,e.ws++nR e.hs.length e.hs'.length⟩:=by
 intro m hm
 subst hs0
 obtain⟨h1,_,h2⟩:=hsd.holds hm
 refine⟨e.mem m,?_,h1,h2⟩
 unfold kC
 rw[hw]
 have e1:dm (GL Lf) P (ai (rg al)) o.op m=some (e.v,e.mem m):=by
  rw[ho]
  simp only[dm,hg,hx,hcb,if_true,ha,GM hc he hm]
 have n1:bj P (ai (rg al)) o.op = .none:=by rw[ho];rfl
 have n2:qh (GL Lf) (ai (rg al)) o.op = .none:=by rw[ho];rfl
 have n3:f4 P (ai (rg al)) o.op = .none:=by rw[ho];rfl
 have n4:cK P (ai (rg al)) o.op m = .none:=by rw[ho];rfl
 simp only[ed,ee,n1,n2,n3,n4,e1]
theorem aD{f:FuncId}{vs:List XV}{v:XV}{hs':aj}{ws:List Nat}(hi:aG.Sound P ⟨f,vs,hs,v,hs',ws⟩){g:Operand}{args:Array Operand}{ts:Array TypeId}(ho:o.op = .call ⟨.value g,args,ts⟩)(hw:av ops (rg al) o=some true)
 {d:Nat}(hd:o.dst=some d) (hlt:Nat.blt d nt=true) {c:XC}(hg:ai (rg al) g = .one c) {caps:List XC}(hx:Aj c=some (f,caps)) (hcb:fC P f=true) (ha:args.toList.map (ai (rg al))++caps.map .one=vs)
 (hk:SK P ops nt (⟨f,vs,hs,v,hs',ws⟩::L) l ((d,v)::al) hs' fun bs=>K (⟨true,.none,ws++nR hs.length hs'.length⟩::bs)):SK P ops nt L (o::l) al hs K:=by
 obtain⟨Lf,h1,h2,h3,h4⟩:=hk
 refine⟨Lf,fun e he=>h1 e (List.mem_cons_of_mem _ he),fun e he=>?_,h3,.cons (xz h3 (h1 _ (List.mem_cons_self ..)) rfl hi ho hw hg hx hcb ha) (by rw[hd];simpa [Nat.blt_eq]using hlt) (by rw[hd];exact h4)⟩
 rcases h2 e he with h|h
 ·rcases List.mem_cons.1 h with rfl|h
  ·exact .inr hi
  ·exact .inl h
 ·exact .inr h
theorem JW{f:FuncId}{vs:List XV}{v:XV}{hs':aj}{ws:List Nat}(hi:aG.Sound P ⟨f,vs,hs,v,hs',ws⟩){g:Operand}{args:Array Operand}{ts:Array TypeId}(ho:o.op = .call ⟨.value g,args,ts⟩)(hw:av ops (rg al) o=some true)
 (hd:o.dst = .none) {c:XC}(hg:ai (rg al) g = .one c) {caps:List XC}(hx:Aj c=some (f,caps)) (hcb:fC P f=true) (ha:args.toList.map (ai (rg al))++caps.map .one=vs)
 (hk:SK P ops nt (⟨f,vs,hs,v,hs',ws⟩::L) l al hs' fun bs=>K (⟨true,.none,ws++nR hs.length hs'.length⟩::bs)):SK P ops nt L (o::l) al hs K:=by
 obtain⟨Lf,h1,h2,h3,h4⟩:=hk
 refine⟨Lf,fun e he=>h1 e (List.mem_cons_of_mem _ he),fun e he=>?_,h3,.cons (xz h3 (h1 _ (List.mem_cons_self ..)) rfl hi ho hw hg hx hcb ha) (by rw[hd]) (by rw[hd];exact h4)⟩
 rcases h2 e he with h|h
 ·rcases List.mem_cons.1 h with rfl|h
  ·exact .inr hi
  ·exact .inl h
 ·exact .inr h
theorem wh(τ : Nat->Nat)(hs:aj):View τ hs []:=⟨fun _ h=>absurd h (Nat.not_lt_zero _),fun _ _ _ _ h=>by simp at h,fun _ _ h=>by simp at h,fun _ _ h=>by simp at h⟩
theorem aA{f:FuncId}{args:List XV}{v:XV}(hc:bh P f args [] v [])(ha:(args.all XV.shut)=true)(hv:v.shut=true)(hb:Nat.blt hs.length Mem.bound=true):aG.Sound P ⟨f,args,hs,v,hs,[]⟩:=by
 have ha':∀x∈args,x.shut=true:=List.all_eq_true.1 ha
 refine⟨Nat.le_refl _,by simpa [Nat.blt_eq]using hb,fun _ _ _=>rfl,fun M M' hM hM'=>?_⟩
 have:=CJ hc (Nat.le_refl _) (by decide) (ρ:=id) (HS:=hs) (HS':=hs) (wh _ _) (fun x hx=>XV.e9 (ha' x hx) _) ⟨by simp,fun _ _ h=>by simp at h,fun _ _ _=>rfl⟩ (fun _ _ h=>by simp at h) hM hM'
 rw[mn ha',XV.eC hv]at this
 exact this
theorem FW{f:FuncId}{args args':List XV}{hs0:aj}{v v':XV}(hc:bh P f args hs0 v hs0){ρ : Nat->Nat}(hview:View ρ hs hs0)(hlive:∀o∈hs0,o.live=true)(ha:∀x∈args,x.b7 hs0.length)(e1:args.map (·.ay ρ)=args')(hv:v.b7 hs0.length)(e2:v.ay ρ = v')(hb:Nat.blt hs.length Mem.bound=true)(hb0:Nat.blt hs0.length Mem.bound=true) :
 aG.Sound P ⟨f,args',hs,v',hs,[]⟩:=by
 refine⟨Nat.le_refl _,by simpa [Nat.blt_eq]using hb,fun _ _ _=>rfl,fun M M' hM hM'=>?_⟩
 have key:∀j,j<hs0.length->beyond ρ hs0.length hs.length j = ρ j:=fun j hj=>if_pos hj
 have kc:∀c:XC,c.ok hs0.length->c.ay (beyond ρ hs0.length hs.length)=c.ay ρ:=by
  intro c
  induction c with
  | ptr i off=>exact fun h=>by simp only[XC.ay,key i h]
  | slice i off len cap=>exact fun h=>by simp only[XC.ay,key i h]
  | map i=>exact fun h=>by simp only[XC.ay,key i h]
  | bind g c ih1 ih2=>exact fun h=>by simp only[XC.ay,ih1 h.1,ih2 h.2]
  | _=>intro _;rfl
 have kcs:∀cs:List XC,(∀c∈cs,c.ok hs0.length)->cs.map (·.ay (beyond ρ hs0.length hs.length))=cs.map (·.ay ρ):=fun cs h=>List.map_congr_left fun c hc=>kc c (h c hc)
 have k1:∀x:X1,x.ok hs0.length->x.ay (beyond ρ hs0.length hs.length)=x.ay ρ:=fun x h=>by
  cases x with
  | one c=>simp only[X1.ay,kc c h]
  | agg cs=>simp only[X1.ay,kcs cs h]
 have kv:∀x:XV,x.b7 hs0.length->x.ay (beyond ρ hs0.length hs.length)=x.ay ρ:=fun x h=>by
  cases x with
  | undef=>rfl
  | one c=>simp only[XV.ay,kc c h]
  | agg cs=>simp only[XV.ay,kcs cs h]
  | tup xs=>simp only[XV.ay];rw[List.map_congr_left fun c hc=>k1 c (h c hc)]
 have ko:∀x:ak,x.b7 hs0.length->x.ay (beyond ρ hs0.length hs.length)=x.ay ρ:=fun x h=>by
  cases x with
  | dead=>rfl
  | cells vs e a b=>simp only[ak.ay,kcs vs h]
  | map es=>simp only[ak.ay];rw[List.map_congr_left fun p hp=>by rw[k1 _ (h p hp).1,k1 _ (h p hp).2]]
 have:=CJ hc (Nat.le_refl _) (by simpa [Nat.blt_eq]using hb0) (HS:=hs) (HS':=hs) hview ha ⟨by simp,fun j o h=>?_,fun _ _ _=>rfl⟩ (fun j o h hl _=>⟨o,h,hl⟩) hM hM'
 ·rw[e1,kv v hv,e2]at this
  exact this
 ·have hj:j<hs0.length:=(List.getElem?_eq_some_iff.1 h).1
  rw[key j hj,ko o (hview.ok j o h)]
  rcases hview.obj j o h with e|e
  ·have:=hlive o (List.mem_of_getElem? h)
   rw[e]at this;cases this
  ·exact e
theorem t8{f:FuncId}{args args':List XV}{hs0 hs0' hs':aj}{v v':XV}{ws:List Nat}(hc:bh P f args hs0 v hs0'){ρ : Nat->Nat}(hle:hs0.length<=hs0'.length)(hview:View ρ hs hs0)(ha:∀x∈args,x.b7 hs0.length)(e1:args.map (·.ay ρ)=args')(e2:v.ay (beyond ρ hs0.length hs.length)=v')(haf:Nw ρ hs0.length hs hs0' hs')(hro:∀(j:Nat) (o:ak),hs0'[j]? = some o->o.live=true->o.own=false->∃o0,hs0[j]? = some o0/\o0.live=true)
 (hsame:∀i,i<hs.length->i∉ws->hs'[i]? = hs[i]?) (hb:Nat.blt hs'.length Mem.bound=true) (hb0:Nat.blt hs0.length Mem.bound=true):aG.Sound P ⟨f,args',hs,v',hs',ws⟩:=by
 have hl:=haf.len
 refine⟨by show hs.length<=hs'.length;omega,by simpa [Nat.blt_eq]using hb,hsame,fun M M' hM hM'=>?_⟩
 have:=CJ hc hle (by simpa [Nat.blt_eq]using hb0) hview ha haf hro hM hM'
 rw[e1,e2]at this
 exact this
section
variable {K:dM}
theorem WX.P2{id:Nat}(h:SK P ops nt [] ops.toList al hs fun _ al' hs'=>K .normal al' hs'):WX P nt nI (.code (.region id ops false)) al hs K:=by
 obtain⟨Lf,h1,h2,h3,h4⟩:=h
 exact WX.Rc (q8 fun e he=>(h2 e he).resolve_left (by simp)) h4
theorem WX.Oh(hP:P.follows .mixedOrders=true){id:Nat}(hst:dA ops nt (jF ops.toList)=true)(h:SK P ops nt [] ops.toList al hs fun bs al' hs'=>xC (jF ops.toList) bs=true/\K .normal al' hs'):WX P nt nI (.code (.region id ops true)) al hs K:=by
 obtain⟨Lf,h1,h2,h3,h4⟩:=h
 exact WX.Qg (q8 fun e he=>(h2 e he).resolve_left (by simp)) hP hst h4
end
end Go.Xm
namespace Go.Xm
variable [ax]
def je(m m':Mem):Prop:=m.n<=Mem.bound->m'.n<=Mem.bound/\m.n<=m'.n/\∀j,j<m'.n->(m'.get j).live=true->(m'.get j).own=true\/(j<m.n/\m.get j=m'.get j)
theorem je.same(m:Mem):je m m:=fun hb=>⟨hb,Nat.le_refl _,fun j hj _ => .inr ⟨hj,rfl⟩⟩
theorem je.trans{a b c:Mem}(h1:je a b)(h2:je b c):je a c:=fun hb=>by
 obtain⟨k1,k2,k3⟩:=h1 hb
 obtain⟨l1,l2,l3⟩:=h2 k1
 refine⟨l1,Nat.le_trans k2 l2,fun j hj hl=>?_⟩
 rcases l3 j hj hl with h|⟨h,he⟩
 ·exact .inl h
 ·rcases k3 j h (by rw[he];exact hl)with h'|⟨h',he'⟩
  ·exact .inl (by rw[<-he];exact h')
  ·exact .inr ⟨h',he'.trans he⟩
theorem je.put(m:Mem)(i:Nat){o:ak}(ho:o.own=true\/o.live=false):je m (m.put i o):=fun hb=>by
 refine⟨by rw[Mem.fY];exact hb,by rw[Mem.fY];exact Nat.le_refl _,fun j hj hl=>?_⟩
 rw[Mem.fY]at hj
 by_cases hji:j=i
 ·subst hji
  rw[Mem.iO m o hj (by omega)]at hl ⊢
  rcases ho with h|h
  ·exact .inl h
  ·rw[h]at hl;cases hl
 ·have:(m.put i o).get j=m.get j:=by
   show((m.put i o).gy j).obj=(m.gy j).obj
   rw[Mem.iN m o hji]
  exact .inr ⟨hj,this.symm⟩
theorem je.push{m m':Mem}{o:ak}(ho:o.own=true\/o.live=false)(h:m.push o=some m'):je m m':=fun hb=>by
 obtain⟨h1,h2,h3,h4⟩:=Mem.bW h
 refine⟨by omega,by omega,fun j hj hl=>?_⟩
 by_cases hjn:j=m.n
 ·subst hjn
  have:m'.get m.n=o:=by show(m'.gy m.n).obj=o;rw[h3]
  rw[this]at hl ⊢
  rcases ho with h|h
  ·exact .inl h
  ·rw[h]at hl;cases hl
 ·have:m'.get j=m.get j:=by
   show(m'.gy j).obj=(m.gy j).obj
   rw[h4 j hjn]
  exact .inr ⟨by omega,this.symm⟩
theorem Hp{P:Program}{ρ : Operand->XV}{op:Op}{m m':Mem}{r:XV}(h:cK P ρ op m=some (r,m')):je m m':=by
 unfold cK n8 Hn zW lP fc m8 iW jN kQ wu at h
 (repeat' split at h)<;>first
   | (cases h;done)
   | (cases h;exact .same _)
   | (cases h;exact .put _ _ (.inl rfl))
   | (cases h;exact .push (.inl rfl) ‹_›)
   | (cases h;exact .trans (.put _ _ (.inr rfl)) (.push (.inl rfl) ‹_›))
def zj(o:Oper):Bool:=match o.op with
 | .call ⟨.value _,_,_⟩=>false
 | _=>true
theorem Px{O : dI}{P:Program}{ops:Array Oper}{g:Nat->XV}{o:Oper}{m:Mem}{d:Out}(hn:zj o=true)(h:kC O P ops g o m=some d):je m d.m:=by
 unfold kC at h
 split at h
 ·unfold ed at h
  split at h
  ·cases h;exact .same _
  ·split at h
   ·split at h
    ·cases h;exact .same _
    ·cases h
   ·split at h
    ·rename_i x m' hx
     cases h
     exact Hp hx
    ·split at h
     ·rename_i x m' hx
      exfalso
      unfold dm at hx
      split at hx
      ·rename_i hop
       unfold zj at hn
       rw[hop]at hn
       cases hn
      ·cases hx
     ·cases h
 ·cases h;exact .same _
 ·cases h
end Go.Xm
namespace Go.Xm
variable [ax]
variable {P:Program} {ops:Array Oper} {nt nI:Nat} {al:bl} {hs:aj} {o:Oper} {l:List Oper} {L:List aG} {K:List Ab->bl->aj->Prop} {d:Nat}
theorem ES{a:Operand}(ho:o.op = .move a)(hw:av ops (rg al) o=some true)(hd:o.dst=some d)(hlt:Nat.blt d nt=true){c:XV}(ha:ai (rg al) a=c)
 (hk:SK P ops nt L l ((d,c)::al) hs fun bs=>K (quiet::bs)):SK P ops nt L (o::l) al hs K:=
 SK.lift hd hlt (fun _=>aH.pure hw (by rw[ho];simp only[bj,ha])) hk
theorem Gq{a:Operand}(ho:o.op = .assign a)(hw:av ops (rg al) o=some true)(hd:o.dst=some d)(hlt:Nat.blt d nt=true){c:XV}(ha:ai (rg al) a=c)
 (hk:SK P ops nt L l ((d,c)::al) hs fun bs=>K (quiet::bs)):SK P ops nt L (o::l) al hs K:=
 SK.lift hd hlt (fun _=>aH.pure hw (by rw[ho];simp only[bj,ha])) hk
theorem J3{a b c:Operand}(ho:o.op = .pick c a b)(hw:av ops (rg al) o=some true)(hd:o.dst=some d)(hlt:Nat.blt d nt=true)(hc:ai (rg al) c = .one (.bool true)){x:Bool}(ha:ai (rg al) a = .one (.bool x))
 (hk:SK P ops nt L l ((d,.one (.bool x))::al) hs fun bs=>K (quiet::bs)):SK P ops nt L (o::l) al hs K:=
 SK.lift hd hlt (fun _=>aH.pure hw (by rw[ho];simp only[bj,hc,if_true,ha])) hk
theorem J2{a b c:Operand}(ho:o.op = .pick c a b)(hw:av ops (rg al) o=some true)(hd:o.dst=some d)(hlt:Nat.blt d nt=true)(hc:ai (rg al) c = .one (.bool false)){x:Bool}(ha:ai (rg al) b = .one (.bool x))
 (hk:SK P ops nt L l ((d,.one (.bool x))::al) hs fun bs=>K (quiet::bs)):SK P ops nt L (o::l) al hs K:=
 SK.lift hd hlt (fun _=>aH.pure hw (by rw[ho];simp only[bj,hc,Bool.false_eq_true,if_false,ha])) hk
theorem Pf{a:Operand}{t:TypeId}(ho:o.op = .unOp .not t a)(hw:av ops (rg al) o=some true)(hd:o.dst=some d)(hlt:Nat.blt d nt=true){x y:Bool}(ha:ai (rg al) a = .one (.bool x))(hy:(!x)=y)
 (hk:SK P ops nt L l ((d,.one (.bool y))::al) hs fun bs=>K (quiet::bs)):SK P ops nt L (o::l) al hs K:=
 SK.lift hd hlt (fun _=>aH.pure hw (by rw[ho];simp only[bj,ha,QS,hy])) hk
section
variable {t t':TypeId} {a b:Operand} {k k' k'':IntKind} {x y z:Int}
theorem ig{op:BinOp}(ho:o.op = .binOp op t a b t')(hw:av ops (rg al) o=some true)(hd:o.dst=some d)(hlt:Nat.blt d nt=true)(ha:ai (rg al) a = .one (.int k x))(hb:ai (rg al) b = .one (.int k' y))
 (hc:bP op k k' x y=some (.int k'' z)) (hk:SK P ops nt L l ((d,.one (.int k'' z))::al) hs fun bs=>K (quiet::bs)):SK P ops nt L (o::l) al hs K:=
 SK.lift hd hlt (fun _=>aH.bin hw ho ha hb hc) hk
theorem Pg(ho:o.op = .binOp .rem t a b t')(hw:av ops (rg al) o=some true)(hd:o.dst=some d)(hlt:Nat.blt d nt=true)(ha:ai (rg al) a = .one (.int k x))(hb:ai (rg al) b = .one (.int k y))
 (hx:0<=x) (hy:y≠0) (hk:SK P ops nt L l ((d,.one (.int k (x%y)))::al) hs fun bs=>K (quiet::bs)):SK P ops nt L (o::l) al hs K:=
 ig ho hw hd hlt ha hb (by simp only[bP,ej,if_true,hy,if_false,Int.tmod_eq_emod_of_nonneg hx]) hk
theorem J0{ts:Array TypeId}(ho:o.op = .call ⟨.builtin .max,#[a,b],ts⟩)(hw:av ops (rg al) o=some true)(hd:o.dst=some d)(hlt:Nat.blt d nt=true)(ha:ai (rg al) a = .one (.int k x))(hb:ai (rg al) b = .one (.int k' y))(hz:max x y=z)
 (hk:SK P ops nt L l ((d,.one (.int k z))::al) hs fun bs=>K (quiet::bs)):SK P ops nt L (o::l) al hs K:=
 SK.lift hd hlt (fun _=>aH.pure hw (by
  have e:(if y>x then y else x)=z:=by rw[<-hz,Int.max_def];by_cases h:y>x<;>by_cases h':x<=y<;>simp[h,h']<;>omega
  rw[ho];simp only[bj,fB,List.map_cons,List.map_nil,ha,hb,lN,e,Option.map_some])) hk
theorem J1{ts:Array TypeId}(ho:o.op = .call ⟨.builtin .min,#[a,b],ts⟩)(hw:av ops (rg al) o=some true)(hd:o.dst=some d)(hlt:Nat.blt d nt=true)(ha:ai (rg al) a = .one (.int k x))(hb:ai (rg al) b = .one (.int k' y))(hz:min x y=z)
 (hk:SK P ops nt L l ((d,.one (.int k z))::al) hs fun bs=>K (quiet::bs)):SK P ops nt L (o::l) al hs K:=
 SK.lift hd hlt (fun _=>aH.pure hw (by
  have e:(if y<x then y else x)=z:=by rw[<-hz,Int.min_def];by_cases h:y<x<;>by_cases h':x<=y<;>simp[h,h']<;>omega
  rw[ho];simp only[bj,fB,List.map_cons,List.map_nil,ha,hb,lO,e,Option.map_some])) hk
end
theorem MP{s t:TypeId}{y:Operand}{u:TypeDesc}(ho:o.op = .convert s t y)(hw:av ops (rg al) o=some true)(hd:o.dst=some d)(hlt:Nat.blt d nt=true){k k':IntKind}{x z:Int}(hy:ai (rg al) y = .one (.int k x))[aW P s u][h:aW P t (.int k')](hz:k'.wrap x=z)
 (hk:SK P ops nt L l ((d,.one (.int k' z))::al) hs fun bs=>K (quiet::bs)):SK P ops nt L (o::l) al hs K:=
 SK.lift hd hlt (fun _=>aH.conv hw ho hy (by simp only[lJ,aW.out (P:=P) (t:=s),aW.out (P:=P) (t:=t)]) hz) hk
theorem Pe{a:Operand}(ho:o.op = .nilCheck a)(hw:av ops (rg al) o=some true)(hd:o.dst=some d)(hlt:Nat.blt d nt=true){i off:Nat}(ha:ai (rg al) a = .one (.ptr i off))
 (hk:SK P ops nt L l ((d,.one (.ptr i off))::al) hs fun bs=>K (quiet::bs)):SK P ops nt L (o::l) al hs K:=
 SK.lift hd hlt (fun _=>aH.pure hw (by rw[ho];simp only[bj,ha,m_])) hk
theorem Pb{s:TypeId}{a:Operand}{f:Nat}(ho:o.op = .fieldAddr s a f)(hw:av ops (rg al) o=some true)(hd:o.dst=some d)(hlt:Nat.blt d nt=true){i off:Nat}(ha:ai (rg al) a = .one (.ptr i off)){ft:TypeId}{fo z:Nat}[hf:c6 P s f ft fo][hz:aP P ft (z+1)]
 {p:Nat}(hp:off+fo=p) (hk:SK P ops nt L l ((d,.one (.ptr i p))::al) hs fun bs=>K (quiet::bs)):SK P ops nt L (o::l) al hs K:=by
 obtain⟨fd,h1,h2,h3⟩:=hf.ex
 exact SK.lift hd hlt (fun _=>aH.pure hw (by rw[ho];simp only[bj,fS,h1,ha,h2,hz.out,h3,hp])) hk
theorem MS{t:TypeId}{a b:Operand}{len:Nat}{elem:TypeId}{s:Nat}(ho:o.op = .indexAddr t a b)(hw:av ops (rg al) o=some true)(hd:o.dst=some d)(hlt:Nat.blt d nt=true){i off:Nat}(ha:ai (rg al) a = .one (.ptr i off)){k:IntKind}{z:Int}(hb:ai (rg al) b = .one (.int k z))[hu:aW P t (.array len elem)][hs':aP P elem s](hz:0<=z/\z<len)
 {p:Nat}(hp:off+z.toNat*s=p) (hk:SK P ops nt L l ((d,.one (.ptr i p))::al) hs fun bs=>K (quiet::bs)):SK P ops nt L (o::l) al hs K:=
 SK.lift hd hlt (fun _=>aH.pure hw (by rw[ho];simp only[bj,cS,ha,hb,hu.out,hs'.out,if_pos hz,Option.map_some,hp])) hk
theorem EP{t:TypeId}{a b:Operand}{elem:TypeId}{s:Nat}(ho:o.op = .indexAddr t a b)(hw:av ops (rg al) o=some true)(hd:o.dst=some d)(hlt:Nat.blt d nt=true){i off len:Nat}{cap:tO}(ha:ai (rg al) a = .one (.slice i off len cap)){k:IntKind}{z:Int}(hb:ai (rg al) b = .one (.int k z))[hu:aW P t (.slice elem)][hs':aP P elem s](hz:0<=z/\z<len)
 {p:Nat}(hp:off+z.toNat*s=p) (hk:SK P ops nt L l ((d,.one (.ptr i p))::al) hs fun bs=>K (quiet::bs)):SK P ops nt L (o::l) al hs K:=
 SK.lift hd hlt (fun _=>aH.pure hw (by rw[ho];simp only[bj,cS,ha,hb,hu.out,hs'.out,if_pos hz,Option.map_some,hp])) hk
theorem JX{s:TypeId}{a:Operand}{f:Nat}(ho:o.op = .field s a f)(hw:av ops (rg al) o=some true)(hd:o.dst=some d)(hlt:Nat.blt d nt=true){cs:List XC}(ha:ai (rg al) a = .agg cs){ft:TypeId}{fo:Nat}[hf:c6 P s f ft fo][hz:ef P ft]{c:XC}(hc:cs[fo]? = some c)
 (hk:SK P ops nt L l ((d,.one c)::al) hs fun bs=>K (quiet::bs)):SK P ops nt L (o::l) al hs K:=by
 obtain⟨fd,h1,h2,h3⟩:=hf.ex
 exact SK.lift hd hlt (fun _=>aH.pure hw (by rw[ho];simp only[bj,zT,h1,ha,h2,h3,nc,hz.out,hc,Option.map_some,X1.s6])) hk
theorem Pa{a:Operand}{i:Nat}(ho:o.op = .extract a i)(hw:av ops (rg al) o=some true)(hd:o.dst=some d)(hlt:Nat.blt d nt=true){vs:List X1}(ha:ai (rg al) a = .tup vs){c:XC}(hc:vs[i]? = some (.one c))
 (hk:SK P ops nt L l ((d,.one c)::al) hs fun bs=>K (quiet::bs)):SK P ops nt L (o::l) al hs K:=
 SK.lift hd hlt (fun _=>aH.pure hw (by rw[ho];simp only[bj,ha,kp,hc,Option.map_some,X1.s6])) hk
theorem MQ{a:Operand}{i:Nat}(ho:o.op = .extract a i)(hw:av ops (rg al) o=some true)(hd:o.dst=some d)(hlt:Nat.blt d nt=true){vs:List X1}(ha:ai (rg al) a = .tup vs){c:List XC}(hc:vs[i]? = some (.agg c))
 (hk:SK P ops nt L l ((d,.agg c)::al) hs fun bs=>K (quiet::bs)):SK P ops nt L (o::l) al hs K:=
 SK.lift hd hlt (fun _=>aH.pure hw (by rw[ho];simp only[bj,ha,kp,hc,Option.map_some,X1.s6])) hk
theorem MV{a:Operand}{t:TypeId}{elem:TypeId}(ho:o.op = .call ⟨.builtin .len,#[a],#[t]⟩)(hw:av ops (rg al) o=some true)(hd:o.dst=some d)(hlt:Nat.blt d nt=true){i off len:Nat}{cap:tO}(ha:ai (rg al) a = .one (.slice i off len cap))[hu:aW P t (.slice elem)]
 (hk:SK P ops nt L l ((d,.one (.int .i64 (len:Nat)))::al) hs fun bs=>K (quiet::bs)):SK P ops nt L (o::l) al hs K:=
 SK.lift hd hlt (fun _=>aH.pure hw (by rw[ho];simp[bj,fB,ha,B9,hu.out])) hk
theorem gk{t:TypeId}{a:Operand}(ho:o.op = .load t a)[ht:ef P t](hw:av ops (rg al) o=some true)(hd:o.dst=some d)(hlt:Nat.blt d nt=true){i off:Nat}(ha:ai (rg al) a = .one (.ptr i off)){vs:List XC}{e:TypeId}{opn ro:Bool}(hi:hs[i]? = some (.cells vs e opn ro)){c:XC}(hc:vs[off]? = some c)
 (hk:SK P ops nt L l ((d,.one c)::al) hs fun bs=>K (⟨false,some i,[]⟩::bs)):SK P ops nt L (o::l) al hs K:=
 SK.lift hd hlt (fun _=>aH.load hw ho ha hi (I1 ht.out hc)) hk
theorem Dt{t:TypeId}{a:Operand}{s:Nat}(ho:o.op = .load t a)[ht:eV P t][hs':aP P t s](hw:av ops (rg al) o=some true)(hd:o.dst=some d)(hlt:Nat.blt d nt=true){i:Nat}(ha:ai (rg al) a = .one (.ptr i 0)){vs:List XC}{e:TypeId}{opn ro:Bool}(hi:hs[i]? = some (.cells vs e opn ro))(hle:s=vs.length)
 (hk:SK P ops nt L l ((d,.agg vs)::al) hs fun bs=>K (⟨false,some i,[]⟩::bs)):SK P ops nt L (o::l) al hs K:=
 SK.lift hd hlt (fun _=>aH.load (x := .agg vs) hw ho ha hi (Bd ht.out (by rw[hs'.out,hle]))) hk
theorem vS{t:TypeId}{a:Operand}{s:Nat}(ho:o.op = .load t a)[ht:eV P t][hs':aP P t s](hw:av ops (rg al) o=some true)(hd:o.dst=some d)(hlt:Nat.blt d nt=true){i off:Nat}(ha:ai (rg al) a = .one (.ptr i off)){vs:List XC}{e:TypeId}{opn ro:Bool}(hi:hs[i]? = some (.cells vs e opn ro))(hle:off+s<=vs.length){cs:List XC}(hc:(vs.drop off).take s=cs)
 (hk:SK P ops nt L l ((d,.agg cs)::al) hs fun bs=>K (⟨false,some i,[]⟩::bs)):SK P ops nt L (o::l) al hs K:=
 SK.lift hd hlt (fun _=>aH.load (x := .agg cs) hw ho ha hi (by simp only[fm,ht.out,hs'.out,if_pos hle,hc])) hk
theorem JU{t:TypeId}{zs:List XC}(ho:o.op = .alloc t)[hz:bz P t zs](hw:av ops (rg al) o=some true)(hd:o.dst=some d)(hlt:Nat.blt d nt=true){n:Nat}(hn:hs.length=n)(hb:Nat.blt n Mem.bound=true){hs':aj}(hh:hs++[.cells zs t false false]=hs')
 (hk:SK P ops nt L l ((d,.one (.ptr n 0))::al) hs' fun bs=>K (⟨true,.none,[n]⟩::bs)):SK P ops nt L (o::l) al hs K:=by
 subst hn hh
 exact SK.lift hd hlt (fun _=>aH.alloc hw ho hz.out hb) hk
theorem O9{t:TypeId}{y:Operand}(ho:o.op = .box t y)(hw:av ops (rg al) o=some true)(hd:o.dst=some d)(hlt:Nat.blt d nt=true){cs:List XC}(hy:dh (ai (rg al) y)=some cs){n:Nat}(hn:hs.length=n)(hb:Nat.blt n Mem.bound=true){hs':aj}(hh:hs++[.cells cs t false false]=hs')
 (hk:SK P ops nt L l ((d,.one (.ptr n 0))::al) hs' fun bs=>K (⟨true,.none,[n]⟩::bs)):SK P ops nt L (o::l) al hs K:=by
 subst hn hh
 exact SK.lift hd hlt (fun _=>aH.box hw ho hy hb) hk
theorem lC{t:TypeId}{a y:Operand}(ho:o.op = .store t a y)[ht:aP P t 1](hw:av ops (rg al) o=some true)(hd:o.dst = .none){i off:Nat}(ha:ai (rg al) a = .one (.ptr i off)){c:XC}(hy:dh (ai (rg al) y)=some [c]){vs:List XC}{e:TypeId}{opn:Bool}(hi:hs[i]? = some (.cells vs e opn false))(hle:off<vs.length)
 {vs':List XC}(hv:vs.set off c=vs') {hs':aj}(hh:hs.set i (.cells vs' e opn false)=hs') (hk:SK P ops nt L l al hs' fun bs=>K (⟨true,.none,[i]⟩::bs)):SK P ops nt L (o::l) al hs K:=by
 subst hv hh
 exact SK.Ew hd (fun _=>aH.store hw ho ha hy ht.out hi (by simp only[List.length_cons,List.length_nil];omega) (GI hle)) hk
theorem Gx{t:TypeId}{a y:Operand}{s:Nat}(ho:o.op = .store t a y)[ht:aP P t s](hw:av ops (rg al) o=some true)(hd:o.dst = .none){i:Nat}(ha:ai (rg al) a = .one (.ptr i 0)){cs:List XC}(hy:dh (ai (rg al) y)=some cs){vs:List XC}{e:TypeId}{opn:Bool}(hi:hs[i]? = some (.cells vs e opn false))(hs1:s=cs.length)(hs2:s=vs.length)
 {hs':aj}(hh:hs.set i (.cells cs e opn false)=hs') (hk:SK P ops nt L l al hs' fun bs=>K (⟨true,.none,[i]⟩::bs)):SK P ops nt L (o::l) al hs K:=by
 subst hh
 exact SK.Ew hd (fun _=>aH.store hw ho ha hy (by rw[ht.out,hs1]) hi (by omega) (GH (by omega))) hk
theorem Gy{t:TypeId}{a y:Operand}{s:Nat}(ho:o.op = .store t a y)[ht:aP P t s](hw:av ops (rg al) o=some true)(hd:o.dst = .none){i off:Nat}(ha:ai (rg al) a = .one (.ptr i off)){cs:List XC}(hy:dh (ai (rg al) y)=some cs){vs:List XC}{e:TypeId}{opn:Bool}(hi:hs[i]? = some (.cells vs e opn false))(hs1:s=cs.length)(hs2:off+s<=vs.length)
 {vs':List XC}(hv:vs.take off++cs++vs.drop (off+s)=vs') {hs':aj}(hh:hs.set i (.cells vs' e opn false)=hs') (hk:SK P ops nt L l al hs' fun bs=>K (⟨true,.none,[i]⟩::bs)):SK P ops nt L (o::l) al hs K:=by
 subst hh
 exact SK.Ew hd (fun _=>aH.store hw ho ha hy (by rw[ht.out,hs1]) hi (by omega) (by rw[<-hs1];exact hv)) hk
theorem MW(hw:av ops (rg al) o=some false)(hd:o.dst=some d)(hlt:Nat.blt d nt=true)(hk:SK P ops nt L l ((d,.tup [])::al) hs fun bs=>K (quiet::bs)):SK P ops nt L (o::l) al hs K:=
 SK.lift hd hlt (fun _=>aH.skip hw) hk
theorem l5(hw:av ops (rg al) o=some true)(hd:o.dst=some d)(hlt:Nat.blt d nt=true){x:XV}(h:bj P (ai (rg al)) o.op=some x)(hk:SK P ops nt L l ((d,x)::al) hs fun bs=>K (quiet::bs)):SK P ops nt L (o::l) al hs K:=
 SK.lift hd hlt (fun _=>aH.pure hw h) hk
theorem bp(hc:af L)(h:K [] al hs):SK P ops nt L [] al hs K:=SK.nil hc h
theorem XC.jr:∀c:XC,c.ay id=c:=by
 intro c
 induction c with
 | bind g c ih1 ih2=>simp only[XC.ay,ih1,ih2]
 | _=>rfl
theorem X1.jr(x:X1):x.ay id=x:=by
 cases x with
 | one c=>simp only[X1.ay,XC.jr]
 | agg cs=>simp only[X1.ay];rw[show(fun c:XC=>c.ay id)=id from funext XC.jr,List.map_id]
theorem ak.jr(x:ak):x.ay id=x:=by
 cases x with
 | dead=>rfl
 | cells vs e a b=>simp only[ak.ay];rw[show(fun c:XC=>c.ay id)=id from funext XC.jr,List.map_id]
 | map es=>simp only[ak.ay,X1.jr];simp
theorem XV.jr(x:XV):x.ay id=x:=by
 cases x with
 | undef=>rfl
 | one c=>simp only[XV.ay,XC.jr]
 | agg cs=>simp only[XV.ay];rw[show(fun c:XC=>c.ay id)=id from funext XC.jr,List.map_id]
 | tup xs=>simp only[XV.ay];rw[show(fun c:X1=>c.ay id)=id from funext X1.jr,List.map_id]
section
variable {K:dM}
theorem WX.Qf{c:Operand}{x y:Code}(hc:ai (rg al) c = .one (.bool true))(h:WX P nt nI (.code x) al hs K):WX P nt nI (.code (.cond c x y)) al hs K:=
 WX.cond hc (fun _=>h) (fun h=>by cases h)
theorem WX.Qe{c:Operand}{x y:Code}(hc:ai (rg al) c = .one (.bool false))(h:WX P nt nI (.code y) al hs K):WX P nt nI (.code (.cond c x y)) al hs K:=
 WX.cond hc (fun h=>by cases h) (fun _=>h)
theorem Et{fn:Func}{n:Nat}{e:XE}{v1 v:XV}{hs':aj}(τ : Nat->Nat)(he:e = .normal\/e = .ret)(hr:tQ P fn al hs v1)(hv:v1=v.ay τ)(hok:v.b7 hs'.length)(hview:View τ hs hs')(hid:∀j,j<n -> τ j=j):aC P fn n v hs' e al hs:=
 ⟨he,v1,τ,hr,hv,hok,hview,hid⟩
theorem mM{fn:Func}{e:XE}{v1 v:XV}(he:e = .normal\/e = .ret)(hr:tQ P fn al hs v1)(hv:v1=v)(hs':v.shut=true):aC P fn 0 v [] e al hs:=
 ⟨he,v1,id,hr,by rw[XV.eC hs'];exact hv,XV.e9 hs' _,wh _ _,fun _ h=>absurd h (Nat.not_lt_zero _)⟩
theorem b8{fn:Func}{e:XE}{v1 v:XV}{hs0 junk:aj}(he:e = .normal\/e = .ret)(hr:tQ P fn al hs v1)(hv:v1=v)(hs':v.b7 hs0.length)(hh:hs=hs0++junk)(hok:∀o∈hs0,o.b7 hs0.length){n:Nat}:aC P fn n v hs0 e al hs:=by
 subst hh
 refine⟨he,v1,id,hr,by rw[XV.jr];exact hv,hs',⟨fun j hj=>by simp;omega,fun _ _ _ _ _ _ _ _ h=>h,fun j o h=>hok o (List.mem_of_getElem? h),fun j o h => .inr ?_⟩,fun _ _=>rfl⟩
 have hj:j<hs0.length:=(List.getElem?_eq_some_iff.1 h).1
 show(hs0++junk)[j]? = _
 rw[ak.jr,List.getElem?_append_left hj]
 exact h
end
end Go.Xm
namespace Go.Xm
variable [ax]
variable {P:Program} {ops:Array Oper} {nt nI:Nat} {al:bl} {hs:aj} {o:Oper} {l:List Oper} {L:List aG} {K:List Ab->bl->aj->Prop} {d:Nat}
section
variable {α γ : Type} [DecidableEq α]
def lQ(kc : α->X1)(vc : γ->X1)(M:List (α×γ)):List (X1×X1):=M.map fun p=>(kc p.1,vc p.2)
def iR(k : α):List (α×γ)->Option (Nat×γ)
 | [] => .none
 | p::M=>if k=p.1 then some (0,p.2)else(iR k M).map fun q=>(q.1+1,q.2)
def cH(M:List (α×γ))(k : α):Option γ:=(iR k M).map (·.2)
def oH(M:List (α×γ))(k : α)(v : γ):List (α×γ):=match iR k M with
 | some (j,_)=>M.set j (k,v)
 | .none=>M++[(k,v)]
theorem F2(k : α):cH ([]:List (α×γ)) k = .none:=rfl
theorem nQ(p : α×γ)(M:List (α×γ))(k : α):cH (p::M) k=if k=p.1 then some p.2 else cH M k:=by
 by_cases h:k=p.1
 ·simp[cH,iR,h]
 ·simp[cH,iR,h,Function.comp_def]
theorem ve{k : α}:∀{M:List (α×γ)} {j:Nat} {v : γ},iR k M=some (j,v)->M[j]? = some (k,v)
 | [],j,v,h=>by cases h
 | p :: M,j,v,h=>by
   unfold iR at h
   by_cases hk:k=p.1
   ·rw[if_pos hk]at h
    cases h
    simp[hk]
   ·rw[if_neg hk]at h
    obtain⟨q,h1,h2⟩:=Option.map_eq_some_iff.1 h
    cases h2
    simpa using ve (M:=M) (j:=q.1) (v:=q.2) h1
theorem tt{k : α}:∀{M:List (α×γ)},iR k M = .none->∀p∈M,p.1≠k
 | [],_,p,hp=>by cases hp
 | q :: M,h,p,hp=>by
   unfold iR at h
   by_cases hk:k=q.1
   ·rw[if_pos hk]at h;cases h
   ·rw[if_neg hk]at h
    rcases List.mem_cons.1 hp with rfl|hp
    ·exact fun e=>hk e.symm
    ·exact tt (by simpa using h) p hp
theorem mS(k : α)(v : γ)(k' : α):∀{M:List (α×γ)},(∀p∈M,p.1≠k)->cH (M++[(k,v)]) k'=if k'=k then some v else cH M k'
 | [],_=>by simp[nQ,F2]
 | p::M,h=>by
   have ih:=mS k v k' (M:=M) fun q hq=>h q (List.mem_cons_of_mem _ hq)
   simp only[List.cons_append,nQ,ih]
   have hp:=h p (List.mem_cons_self ..)
   by_cases h1:k'=p.1
   ·rw[if_pos h1,if_neg (fun e=>hp (by rw[<-h1,e])),if_pos h1]
   ·rw[if_neg h1,if_neg h1]
theorem xS(k : α)(v : γ)(k' : α):∀{M:List (α×γ)} {j:Nat} {u : γ},iR k M=some (j,u)->cH (M.set j (k,v)) k'=if k'=k then some v else cH M k'
 | [],j,u,h=>by cases h
 | p :: M,j,u,h=>by
   unfold iR at h
   by_cases hk:k=p.1
   ·rw[if_pos hk]at h
    cases h
    simp only[List.set_cons_zero,nQ]
    by_cases h1:k'=k
    ·simp[h1]
    ·simp only[show p.1=k from hk.symm,h1,if_false]
   ·rw[if_neg hk]at h
    obtain⟨q,h1,h2⟩:=Option.map_eq_some_iff.1 h
    cases h2
    simp only[List.set_cons_succ,nQ,xS k v k' (M:=M) (j:=q.1) (u:=q.2) h1]
    by_cases h1:k'=p.1
    ·rw[if_pos h1,if_neg (fun e=>hk (by rw[<-h1,e])),if_pos h1]
    ·rw[if_neg h1,if_neg h1]
theorem f9(M:List (α×γ))(k : α)(v : γ)(k' : α):cH (oH M k v) k'=if k'=k then some v else cH M k':=by
 unfold oH
 split
 ·rename_i j u h;exact xS k v k' h
 ·rename_i h;exact mS k v k' (tt h)
theorem AJ(kc : α->X1)(vc : γ->X1)(M:List (α×γ))(p : α×γ):lQ kc vc (M++[p])=lQ kc vc M++[(kc p.1,vc p.2)]:=by simp[lQ]
theorem Io(kc : α->X1)(vc : γ->X1)(M:List (α×γ))(j:Nat)(p : α×γ):lQ kc vc (M.set j p)=(lQ kc vc M).set j (kc p.1,vc p.2):=by simp[lQ,List.map_set]
structure uw(P:Program)(kt:TypeId)(kc : α->X1):Prop where
 und:∃ds,P.underlying kt=some ds
 eq:∀a b,eE P 40 kt (kc a) (kc b)=some (decide (a=b))
 check:∀a,i9 P 40 kt (kc a)=true
 plain:∀a,uo (kc a)=true
theorem ra{kt:TypeId}{kc : α->X1}(hk:uw P kt kc)(vc : γ->X1)(k : α):∀(M:List (α×γ)) (i:Nat),lL P kt (kc k) (lQ kc vc M) i=some ((iR k M).map fun q=>(i+q.1,vc q.2))
 | [],i=>rfl
 | p :: M,i=>by
   have ih:=ra hk vc k M (i+1)
   show(match eE P 40 kt (kc k) (kc p.1)with
    | some true=>some (some (i,vc p.2))
    | some false=>lL P kt (kc k) (lQ kc vc M) (i+1)
    | .none => .none)=_
   rw[hk.eq]
   unfold iR
   by_cases h:k=p.1
   ·simp[h]
   ·simp only[h,decide_false,ih,if_false,Option.map_map]
    congr 2
    funext q
    simp only[Function.comp]
    congr 1
    omega
theorem aH.lookup{O:dI}(hw:av ops (rg al) o=some true){t:TypeId}{x ix:Operand}{ok:Bool}(ho:o.op = .lookup t x ix ok){kt et:TypeId}(hu:P.underlying t=some (.map kt et)){i:Nat}(hx:ai (rg al) x = .one (.map i)){key:X1}(hk:q9 (ai (rg al) ix)=some key)
 {es:List (X1×X1)}(hi:hs[i]? = some (.map es)) {v:XV}(hv:n_ P kt et key ok es=some v):aH O P ops al hs o v hs ⟨false,some i,[]⟩:=by
 intro m hm
 refine⟨m,?_,hm,fun _ _=>rfl⟩
 unfold kC
 rw[hw]
 obtain⟨f,hf1,hf2⟩:∃f,f4 P (ai (rg al)) o.op=some (i,f)/\∀es',f (.map es')=n_ P kt et key ok es':=by
  rw[ho]
  simp only[f4,hu,hx,hk]
  exact⟨_,rfl,fun _=>rfl⟩
 refine s9 (by rw[ho];rfl) (by rw[ho];rfl) hf1 ?_
 rw[hm.at hi,hf2,hv]
theorem DR{kt et:TypeId}{kc : α->X1}(hk:uw P kt kc){vc : γ->X1}{z : γ}(hz:pE P et=some (vc z))(k : α)(M:List (α×γ)) :
 n_ P kt et (kc k) true (lQ kc vc M)=some (.tup [vc ((cH M k).getD z),.one (.bool (cH M k).isSome)]):=by
 obtain⟨ds,hu⟩:=hk.und
 unfold n_
 rw[if_pos (hk.check k),hu,ra hk]
 unfold cH
 cases h:iR k M with
 | none=>simp[hz]
 | some q=>simp
theorem ER{t:TypeId}{x ix:Operand}(ho:o.op = .lookup t x ix true){kt et:TypeId}[hu:aW P t (.map kt et)](hw:av ops (rg al) o=some true)(hd:o.dst=some d)(hlt:Nat.blt d nt=true){kc : α->X1}(hko:uw P kt kc){vc : γ->X1}{z : γ}(hz:pE P et=some (vc z)){i:Nat}(hx:ai (rg al) x = .one (.map i)){k : α}(hk:q9 (ai (rg al) ix)=some (kc k))
 {M:List (α×γ)}(hi:hs[i]? = some (.map (lQ kc vc M))) (hn:SK P ops nt L l ((d,.tup [vc ((cH M k).getD z),.one (.bool (cH M k).isSome)])::al) hs fun bs=>K (⟨false,some i,[]⟩::bs)):SK P ops nt L (o::l) al hs K:=
 SK.lift hd hlt (fun _=>aH.lookup hw ho hu.out hx hk hi (DR hko hz k M)) hn
theorem aH.QB{O:dI}(hw:av ops (rg al) o=some true){t:TypeId}{x ix y:Operand}(ho:o.op = .mapUpdate t x ix y){kt et:TypeId}(hu:P.underlying t=some (.map kt et)){kc : α->X1}(hko:uw P kt kc){vc : γ->X1}{i:Nat}(hx:ai (rg al) x = .one (.map i)){k : α}(hk:q9 (ai (rg al) ix)=some (kc k)){v : γ}(hv:q9 (ai (rg al) y)=some (vc v))
 {M:List (α×γ)}(hi:hs[i]? = some (.map (lQ kc vc M))):aH O P ops al hs o (.tup []) (hs.set i (.map (lQ kc vc (oH M k v)))) ⟨true,.none,[i]⟩:=by
 intro m hm
 refine⟨m.put i (.map (lQ kc vc (oH M k v))),?_,hm.put hi _,uf⟩
 unfold kC
 rw[hw]
 refine dg (by rw[ho];rfl) (by rw[ho];rfl) (by rw[ho];rfl) ?_
 rw[ho]
 obtain⟨ds,hd⟩:=hko.und
 simp only[cK,iW,hu,hx,hk,hv,hm.at hi,hko.check k,if_true,hd,ra hko]
 unfold oH
 cases hl:iR k M with
 | none=>simp[AJ]
 | some q=>
   have hg:=ve (j:=q.1) (v:=q.2) hl
   have e:(lQ kc vc M)[q.1]? = some (kc k,vc q.2):=by simp[lQ,hg]
   simp only[Option.map_some,Nat.zero_add,e,hko.plain k,and_self,if_true,Io]
theorem BI{t:TypeId}{x ix y:Operand}(ho:o.op = .mapUpdate t x ix y){kt et:TypeId}[hu:aW P t (.map kt et)](hw:av ops (rg al) o=some true)(hd:o.dst = .none){kc : α->X1}(hko:uw P kt kc){vc : γ->X1}{i:Nat}(hx:ai (rg al) x = .one (.map i)){k : α}(hk:q9 (ai (rg al) ix)=some (kc k)){v : γ}(hv:q9 (ai (rg al) y)=some (vc v))
 {M:List (α×γ)}(hi:hs[i]? = some (.map (lQ kc vc M))) {hs':aj}(hh:hs.set i (.map (lQ kc vc (oH M k v)))=hs') (hn:SK P ops nt L l al hs' fun bs=>K (⟨true,.none,[i]⟩::bs)):SK P ops nt L (o::l) al hs K:=by
 subst hh
 exact SK.Ew hd (fun _=>aH.QB hw ho hu.out hko hx hk hv hi) hn
end
theorem aH.makeMap{O:dI}(hw:av ops (rg al) o=some true){t:TypeId}(ho:o.op = .makeMap t .none)(hb:Nat.blt hs.length Mem.bound=true):aH O P ops al hs o (.one (.map hs.length)) (hs++[.map []]) ⟨true,.none,[hs.length]⟩:=by
 intro m hm
 obtain⟨m',h1,h2,h3⟩:=hm.push (.map []) (by simpa [Nat.blt_eq]using hb)
 refine⟨m',?_,h2,h3⟩
 unfold kC
 rw[hw]
 refine dg (by rw[ho];rfl) (by rw[ho];rfl) (by rw[ho];rfl) ?_
 rw[ho]
 simp only[cK,m8,h1,hm.n]
theorem Du{t:TypeId}(ho:o.op = .makeMap t .none)(hw:av ops (rg al) o=some true)(hd:o.dst=some d)(hlt:Nat.blt d nt=true){n:Nat}(hn:hs.length=n)(hb:Nat.blt n Mem.bound=true){hs':aj}(hh:hs++[.map []]=hs')
 (hk:SK P ops nt L l ((d,.one (.map n))::al) hs' fun bs=>K (⟨true,.none,[n]⟩::bs)):SK P ops nt L (o::l) al hs K:=by
 subst hn hh
 exact SK.lift hd hlt (fun _=>aH.makeMap hw ho hb) hk
theorem OD{kt:TypeId}{k:IntKind}[hu:aW P kt (.int k)]:uw P kt (fun z:Int => .one (.int k z)):=by
 refine⟨⟨_,hu.out⟩,fun a b=>?_,fun a=>?_,fun a=>rfl⟩
 ·simp only[eE,hu.out,DM,if_true]
  congr 1
 ·simp only[i9,hu.out]
def jZ:List (Nat×XV)->Option (List XC)
 | []=>some []
 | p::r=>match dh p.2,jZ r with
   | some cs,some ds=>some (cs++ds)
   | _,_ => .none
def o8(place:Nat->Option (Nat×Nat))(total:Nat):Nat->List (Nat×XV)->Bool
 | off,[]=>off==total
 | off,p::r=>match place p.1,dh p.2 with
   | some (a,s),some cs=>a==off&&s==cs.length&&o8 place total (off+s) r
   | _,_=>false
theorem tc{place:Nat->Option (Nat×Nat)}:∀(parts:List (Nat×XV)) (zs:List XC) (off:Nat) (out:List XC),o8 place zs.length off parts=true->jZ parts=some out->iD place zs parts=some (zs.take off++out)
 | [],zs,off,out,h,hc=>by
   simp only[o8,beq_iff_eq]at h
   simp only[jZ,Option.some.injEq]at hc
   subst hc
   simp[iD,h]
 | p :: r, zs,off,out,h,hc=>by
   obtain⟨i,v⟩:=p
   unfold o8 at h
   simp only at h
   split at h
   ·rename_i a s cs h1 h2
    simp only[Bool.and_eq_true,beq_iff_eq]at h
    obtain⟨⟨rfl,rfl⟩,h3⟩:=h
    unfold jZ at hc
    simp only[h2]at hc
    split at hc
    ·rename_i cs' ds hcs hr
     cases hcs
     cases hc
     have hle:∀(r:List (Nat×XV)) (off:Nat),o8 place zs.length off r=true->off<=zs.length:=by
      intro r
      induction r with
      | nil=>intro off h;simp only[o8,beq_iff_eq]at h;omega
      | cons q r ih=>
        intro off h
        unfold o8 at h
        split at h
        ·simp only[Bool.and_eq_true]at h
         have:=ih _ h.2
         omega
        ·cases h
     have hl:=hle r _ h3
     unfold iD
     simp only[h1,h2]
     rw[if_pos ⟨trivial,hl⟩]
     have hlen:(zs.take a++cs++zs.drop (a+cs.length)).length=zs.length:=by simp;omega
     rw[tc r _ (a+cs.length) ds (by rw[hlen];exact h3) hr]
     have e:(zs.take a++cs++zs.drop (a+cs.length)).take (a+cs.length)=zs.take a++cs:=by
      rw[List.take_append_of_le_length (by simp;omega),List.take_of_length_le (by simp;omega)]
     rw[e,List.append_assoc]
    ·cases hc
   ·cases h
theorem Gs{t:TypeId}{parts:Array (Nat×Operand)}(ho:o.op = .build t parts){zs:List XC}[hz:bz P t zs]{n:Nat}{e:TypeId}[hu:aW P t (.array n e)]{s:Nat}[hs':aP P e s](hw:av ops (rg al) o=some true)(hd:o.dst=some d)(hlt:Nat.blt d nt=true)
 (hr:o8 (fun i=>some (i*s,s)) zs.length 0 (parts.toList.map fun p=>(p.1,ai (rg al) p.2))=true) {out:List XC}(hc:jZ (parts.toList.map fun p=>(p.1,ai (rg al) p.2))=some out) {out':List XC}(hn:out=out')
 (hk:SK P ops nt L l ((d,.agg out')::al) hs fun bs=>K (quiet::bs)):SK P ops nt L (o::l) al hs K:=by
 subst hn
 exact SK.lift hd hlt (fun _=>aH.pure hw (by rw[ho];simp only[bj,px,hz.out,hu.out,hs'.out,tc _ zs 0 out hr hc,Option.map_some,List.take_zero,List.nil_append])) hk
theorem Gu{t:TypeId}{parts:Array (Nat×Operand)}(ho:o.op = .build t parts){zs:List XC}[hz:bz P t zs]{pl:List (Nat×Nat)}[hp:dY P t pl](hw:av ops (rg al) o=some true)(hd:o.dst=some d)(hlt:Nat.blt d nt=true)
 (hr:o8 (fun i=>pl[i]?) zs.length 0 (parts.toList.map fun p=>(p.1,ai (rg al) p.2))=true) {out:List XC}(hc:jZ (parts.toList.map fun p=>(p.1,ai (rg al) p.2))=some out) {out':List XC}(hn:out=out')
 (hk:SK P ops nt L l ((d,.agg out')::al) hs fun bs=>K (quiet::bs)):SK P ops nt L (o::l) al hs K:=by
 subst hn
 obtain⟨fs,h1,h2⟩:=hp.out
 exact SK.lift hd hlt (fun _=>aH.pure hw (by rw[ho];simp only[bj,px,hz.out,h1,h2,tc _ zs 0 out hr hc,Option.map_some,List.take_zero,List.nil_append])) hk
theorem Gr{t:TypeId}(ho:o.op = .build t #[]){zs:List XC}[hz:bz P t zs]{pl:List (Nat×Nat)}[hp:dY P t pl](hw:av ops (rg al) o=some true)(hd:o.dst=some d)(hlt:Nat.blt d nt=true)
 (hk:SK P ops nt L l ((d,.agg zs)::al) hs fun bs=>K (quiet::bs)):SK P ops nt L (o::l) al hs K:=by
 obtain⟨fs,h1,h2⟩:=hp.out
 exact SK.lift hd hlt (fun _=>aH.pure hw (by rw[ho];simp only[bj,px,hz.out,h1,h2,List.map_nil,iD,Option.map_some])) hk
theorem Ds{t:TypeId}(ho:o.op = .build t #[]){zs:List XC}[hz:bz P t zs]{n:Nat}{e:TypeId}[hu:aW P t (.array n e)]{s:Nat}[hs':aP P e s](hw:av ops (rg al) o=some true)(hd:o.dst=some d)(hlt:Nat.blt d nt=true)
 (hk:SK P ops nt L l ((d,.agg zs)::al) hs fun bs=>K (quiet::bs)):SK P ops nt L (o::l) al hs K:=
 SK.lift hd hlt (fun _=>aH.pure hw (by rw[ho];simp only[bj,px,hz.out,hu.out,hs'.out,List.map_nil,iD,Option.map_some])) hk
inductive ib(P:Program)(al:bl)(hs:aj):List ResultVar->List X1->Prop where
 | nil:ib P al hs [] []
 | tmp {t:Nat} {x:X1} {l:List ResultVar} {xs:List X1}:q9 (rg al t)=some x->ib P al hs l xs->ib P al hs (.tmp t::l) (x::xs)
 | cell {a i off:Nat} {t:TypeId} {vs:List XC} {e:TypeId} {opn ro:Bool} {x:X1} {l:List ResultVar} {xs:List X1}:rg al a = .one (.ptr i off)->hs[i]? = some (.cells vs e opn ro)->fm P t vs off=some x->ib P al hs l xs->ib P al hs (.cell a t::l) (x::xs)
theorem ib.run{l:List ResultVar}{xs:List X1}(h:ib P al hs l xs){m:Mem}(hm:bH m hs):gQ P (rg al) m l=some xs:=by
 induction h with
 | nil=>rfl
 | tmp h1 _ ih=>simp only[gQ,wM,h1,ih]
 | cell h1 h2 h3 _ ih=>simp only[gQ,wM,h1,hm.at h2,h3,ih]
theorem ib.one{fn:Func}{l:List ResultVar}{x:X1}(hl:fn.results.toList=l)(h:ib P al hs l [x]):tQ P fn al hs x.s6:=fun m hm=>by
 unfold dP;rw[hl,h.run hm]
theorem ib.two{fn:Func}{l:List ResultVar}{x y:X1}{r:List X1}(hl:fn.results.toList=l)(h:ib P al hs l (x::y::r)):tQ P fn al hs (.tup (x::y::r)):=fun m hm=>by
 unfold dP;rw[hl,h.run hm]
theorem ib.zero{fn:Func}{l:List ResultVar}(hl:fn.results.toList=l)(h:ib P al hs l []):tQ P fn al hs (.tup []):=fun m hm=>by
 unfold dP;rw[hl,h.run hm]
theorem cg{t:TypeId}{s:Nat}[ht:eV P t][hs':aP P t s]{vs:List XC}(h:s=vs.length):fm P t vs 0=some (.agg vs):=Bd ht.out (by rw[hs'.out,h])
def nth(l:List Nat)(j:Nat):Nat:=l.getD j 0
theorem NV{HS hs:aj}(l:List Nat)(hlen:hs.length=l.length)(hd:l.Nodup)(hok:∀o∈hs,o.b7 hs.length)(h:∀(j:Nat) (o:ak),hs[j]? = some o->HS[nth l j]? = some (o.ay (nth l))):View (nth l) HS hs:=by
 refine⟨fun j hj=>?_,fun a b _ _ ha hb _ _ hab=>?_,fun j o hj=>hok o (List.mem_of_getElem? hj),fun j o hj => .inr (h j o hj)⟩
 ·have:=h j _ (List.getElem?_eq_getElem hj)
  exact(List.getElem?_eq_some_iff.1 this).1
 ·have ha:=(List.getElem?_eq_some_iff.1 ha).1
  have hb:=(List.getElem?_eq_some_iff.1 hb).1
  unfold nth at hab
  have ha':a<l.length:=by omega
  have hb':b<l.length:=by omega
  rw[List.getD_eq_getElem?_getD,List.getD_eq_getElem?_getD,List.getElem?_eq_getElem ha',List.getElem?_eq_getElem hb']at hab
  exact(List.getElem_inj hd).1 hab
end Go.Xm
namespace Go.Xm
open Go.RowKit (Below)
variable [ax]
variable {P:Program} {ops:Array Oper} {nt nI:Nat} {al:bl} {hs:aj} {o:Oper} {l:List Oper} {L:List aG} {K:List Ab->bl->aj->Prop} {d:Nat}
def N7(c:XC)(i n:Nat):Prop:=(c = .nils/\n=0)\/∃cap,c = .slice i 0 n (.exact cap)
theorem y9{α : Type}(f : α->List XC)(s:Nat):∀(l:List α),(∀a∈l,(f a).length=s)->∀(i:Nat) (a : α),l[i]? = some a->i*s+s<=(l.flatMap f).length/\((l.flatMap f).drop (i*s)).take s=f a
 | [],_,i,a,h=>by simp at h
 | x::l,hl,0,a,h=>by
   simp at h;subst h
   have:=hl x (List.mem_cons_self ..)
   simp only[List.flatMap_cons,List.length_append,Nat.zero_mul,List.drop_zero]
   exact⟨by omega,by rw[<-this,List.take_left'];rfl⟩
 | x::l,hl,i+1,a,h=>by
   have hx:=hl x (List.mem_cons_self ..)
   obtain⟨h1,h2⟩:=y9 f s l (fun b hb=>hl b (List.mem_cons_of_mem _ hb)) i a (by simpa using h)
   simp only[List.flatMap_cons,List.length_append,Nat.add_mul,Nat.one_mul]
   refine⟨by omega,?_⟩
   rw[show i*s+s=(f x).length+i*s by omega,<-List.drop_drop,List.drop_left]
   exact h2
theorem OU{al:bl}{n:Nat}(h:∀p∈al,p.2.b7 n)(t:Nat):(rg al t).b7 n:=by
 induction al with
 | nil=>trivial
 | cons p al ih=>
   obtain⟨d,v⟩:=p
   unfold rg
   split
   ·exact h _ (List.mem_cons_self ..)
   ·exact ih fun q hq=>h q (List.mem_cons_of_mem _ hq)
theorem WX.drop{c:w5}{al al2:bl}{hs hs2 junk:aj}{K:dM}(hl:Am al2 al)(hh:hs=hs2++junk)(hle:nI<=hs2.length)(hb:Nat.blt hs2.length Mem.bound=true)(hok:∀o∈hs2,o.b7 hs2.length)(hr:∀p∈al2,p.2.b7 hs2.length)
 (h:WX P nt nI c al2 hs2 K):WX P nt nI c al hs K:=by
 subst hh
 refine WX.view id ⟨fun j hj=>by simp;omega,fun _ _ _ _ _ _ _ _ h=>h,fun j o h=>hok o (List.mem_of_getElem? h),fun j o h => .inr ?_⟩ (fun _ _=>rfl) hle hb (OU hr) (fun t=>?_) h
 ·have hj:j<hs2.length:=(List.getElem?_eq_some_iff.1 h).1
  show(hs2++junk)[j]? = _
  rw[ak.jr,List.getElem?_append_left hj]
  exact h
 ·rcases hl t with e|e
  ·exact .inl e
  ·exact .inr (by rw[XV.jr,e])
section
variable {K:dM}
end
theorem nC{f:FuncId}{args:List XV}{v:XV}(h:RL P f args v):bh P f args [] v []:=
 fun m hm β w vs hall hw=>(h m β w vs hall hw).mono fun e w' ⟨u,β',he,hu,hst⟩=>⟨u,β',m,he,hm,hu,hst⟩
def qO(m:Mem):aj:=(List.range m.n).map m.get
theorem CK{O:dI}(hO:aU P O)(hP:P.follows .mixedOrders=true){F k:Nat}{f:FuncId}{args:List XV}{v:XV}{hs':aj}(h:((qB O P F k).call f args Mem.empty).map (fun p=>(p.1,qO p.2))=some (v,hs')):bh P f args [] v hs':=by
 obtain⟨⟨v1,m1⟩,h1,h2⟩:=Option.map_eq_some_iff.1 h
 simp only[Prod.mk.injEq]at h2
 obtain⟨rfl,rfl⟩:=h2
 have hs:=tL hO hP F k
 have hc:=hs.call _ _ _ _ _ h1
 have hg:=hs.K8 _ _ _ _ _ h1
 intro m hm β w vs hall hw
 have hn:m.n=0:=hm.n
 have hfr:Mem.empty.cL:=fun i _=>by
  show(T.get HC.none .leaf i).ver=0
  rw[T.fx];rfl
 have hr:Rel β Mem.empty w:=⟨Nat.zero_le _,hfr,fun i hi=>absurd hi (Nat.not_lt_zero _),fun i j hi=>absurd hi (Nat.not_lt_zero _)⟩
 have ni:∀m0:Mem,m0.n=0->∀k,¬K6 β m0 k:=fun m0 h0 k ⟨i,hi,_⟩=>by omega
 refine(hc β w vs (by rw[hn]at hall;exact hall) hr).mono fun e w' ⟨u,β',he,hu,hst⟩=>⟨u,β',m1,he,?_,hu,?_⟩
 ·exact⟨by simp[qO],hst.rel.bnd,(hg.mono hfr).2,fun i hi=>by
   show _=(qO m1).getD i .dead
   simp[qO,List.getD_eq_getElem?_getD,hi]⟩
 ·exact⟨by omega,by rw[hn];exact hst.ext,hst.rel,hst.os,hst.tape,hst.output,hst.size,fun k hk _=>hst.frame k hk (ni _ rfl k),fun k hk hi=>absurd (hst.xa k hk hi) (ni _ rfl k)⟩
theorem Gg{β : Env}{n:Nat}{W:World}{b lo:Nat}{vs:List XC}(hne:0<vs.length)(h:∀(j:Nat) (c:XC),vs[j]? = some c->W.cell? ⟨b,lo+j,none⟩=some (c.den β))(hok:∀c∈vs,c.ok n) :
 ∃e sz,gq β n lo sz (.cells vs e true true) W.heap[b]?:=by
 have hc:∀j,j<vs.length->∃cs e fr,W.heap[b]? = some (.cells cs e fr)/\cs[lo+j]? = some ((vs.getD j .nili).den β):=fun j hj=>by
  have h1:=h j vs[j] (List.getElem?_eq_getElem hj)
  have e1:vs.getD j .nili=vs[j]:=by simp[List.getD_eq_getElem?_getD,hj]
  unfold World.cell? at h1
  split at h1
  ·rename_i cs e fr hg
   exact⟨cs,e,fr,hg,by rw[e1];simpa using h1⟩
  ·cases h1
 obtain⟨cs,e,fr,hg,h0⟩:=hc 0 hne
 have hall:∀j,j<vs.length->cs[lo+j]? = some ((vs.getD j .nili).den β):=fun j hj=>by
  obtain⟨cs',e',fr',hg',h1⟩:=hc j hj
  rw[hg]at hg'
  cases hg'
  exact h1
 have hl0:lo+0<cs.size:=(Array.getElem?_eq_some_iff.1 h0).1
 have hll:lo+(vs.length-1)<cs.size:=(Array.getElem?_eq_some_iff.1 (hall (vs.length-1) (by omega))).1
 refine⟨e,cs.size-lo,cs,fr,hg,by omega,by simp only[if_true];omega,fun h=>(by cases h),hok,?_⟩
 apply List.ext_getElem?
 intro j
 rw[List.getElem?_take,List.getElem?_drop,List.getElem?_map]
 by_cases hj:j<vs.length
 ·rw[if_pos hj,Array.getElem?_toList,hall j hj,List.getElem?_eq_getElem hj]
  simp[List.getD_eq_getElem?_getD,hj]
 ·rw[if_neg hj,List.getElem?_eq_none (by omega)]
  rfl
theorem JI{β : Env}{W:World}{hs:aj}(hb:hs.length<Mem.bound)(h:∀(i:Nat) (o:ak),hs[i]? = some o->gq β hs.length (β.base i) (β.size i) o W.heap[β.dt i]?)(hown:∀o∈hs,o.own=false):Rel β (mR hs) W:=by
 have hm:=iZ hs hb
 have hn:=hm.n
 refine⟨hm.bnd,hm.fresh,fun i hi=>?_,fun i j hi hj hoi _ _=>?_⟩
 ·rw[hn]
  exact h i _ (hm.get? hi)
 ·have:=hown _ (List.mem_of_getElem? (hm.get? hi))
  rw[this]at hoi;cases hoi
theorem Ie{f:FuncId}{args:List XV}{hs hs':aj}(hc:bh P f args hs (.one (.bool true)) hs'){β : Env}{W:World}(hb:hs.length<Mem.bound)(h:∀(i:Nat) (o:ak),hs[i]? = some o->gq β hs.length (β.base i) (β.size i) o W.heap[β.dt i]?)(hown:∀o∈hs,o.own=false)
 {vs:List Value}(hv:du (aO β hs.length) args vs):Calls P f vs.toArray W fun e w'=>e = .returned (.bool true)/\Below W.heap.size W w':=by
 have hm:=iZ hs hb
 have hn:=hm.n
 refine(hc _ hm β W vs (by rw[hn];exact hv) (JI hb h hown)).mono fun e w' ⟨u,β',m',he,_,hu,hst⟩=>?_
 refine⟨?_,hst.os,hst.tape,hst.output,hst.size,fun k hk=>hst.frame k hk fun⟨i,hi,ho,_⟩=>?_⟩
 ·rw[he,hu.2];rfl
 ·have:=hown _ (List.mem_of_getElem? (hm.get? hi))
  rw[this]at ho;cases ho
end Go.Xm
namespace Go.Xm
variable [ax]
variable {P:Program} {ops:Array Oper} {nt nI:Nat} {al:bl} {hs:aj} {o:Oper} {l:List Oper} {L:List aG} {K:List Ab->bl->aj->Prop} {d:Nat}
def il(k:IntKind)(l:List Int):List XC:=l.map (.int k)
theorem dZ(k:IntKind)(l:List Int):(il k l).length=l.length:=by simp[il]
theorem CY{k:IntKind}{l:List Int}{j:Nat}(h:j<l.length):(il k l)[j]? = some (.int k (l.getD j 0)):=by
 simp[il,h,List.getD_eq_getElem?_getD]
theorem IG(k:IntKind)(l:List Int)(j:Nat)(x:Int):(il k l).set j (.int k x)=il k (l.set j x):=by simp[il,List.map_set]
theorem xJ(k:IntKind)(l m:List Int):il k l++il k m=il k (l++m):=by simp[il]
theorem Oz(k:IntKind)(l:List Int)(τ : Nat->Nat):(il k l).map (·.ay τ)=il k l:=by simp[il,XC.ay]
theorem Qt(k:IntKind)(l:List Int)(n:Nat):∀c∈il k l,c.ok n:=by
 intro c hc
 obtain⟨x,_,rfl⟩:=List.mem_map.1 hc
 trivial
class c8 (o:ak):Prop where
 ay:∀τ,o.ay τ = o
 ok:∀n,o.b7 n
class bE (v:XV):Prop where
 ay:∀τ,v.ay τ = v
 ok:∀n,v.b7 n
instance:c8 .dead:=⟨fun _=>rfl,fun _=>trivial⟩
instance {k:IntKind} {l:List Int} {e:TypeId} {a b:Bool}:c8 (.cells (il k l) e a b):=⟨fun τ=>by simp only[ak.ay,Oz],fun n=>Qt k l n⟩
instance {k:IntKind} {n:Nat} {f:Nat->Int} {e:TypeId} {a b:Bool}:c8 (.cells (ti k n f) e a b):=⟨fun τ=>by simp[ak.ay,ti,XC.ay],fun n c hc=>by
 obtain⟨x,_,rfl⟩:=List.mem_map.1 hc
 trivial⟩
instance {k:IntKind} {z:Int}:bE (.one (.int k z)):=⟨fun _=>rfl,fun _=>trivial⟩
instance {b:Bool}:bE (.one (.bool b)):=⟨fun _=>rfl,fun _=>trivial⟩
instance {k:IntKind} {n:Nat} {f:Nat->Int}:bE (.agg (ti k n f)):=⟨fun τ=>by simp[XV.ay,ti,XC.ay],fun n c hc=>by
 obtain⟨x,_,rfl⟩:=List.mem_map.1 hc
 trivial⟩
theorem jj{vs:List XC}{e:TypeId}{a b:Bool}(h:vs.all XC.shut=true):c8 (.cells vs e a b):=
 ⟨fun τ=>by simp only[ak.ay,fu h],fun n c hc=>XC.bV (List.all_eq_true.1 h c hc) n⟩
theorem fw{v:XV}(h:v.shut=true):bE v:=⟨fun τ=>XV.eC h τ,fun n=>XV.e9 h n⟩
def fD(k n sz:Nat):XC:=if n=0 then .nils else .slice k 0 n (.toEnd sz)
def hZ(k n sz:Nat):XV := .one (fD k n sz)
def cE(e:TypeId)(cs:List XC):ak:=match cs with
 | [] => .dead
 | c::r => .cells (c::r) e true false
theorem aB(k n sz:Nat)(τ : Nat->Nat):(fD k n sz).ay τ = fD (τ k) n sz:=by unfold fD;split<;>rfl
theorem dT(k n sz:Nat)(τ : Nat->Nat):(hZ k n sz).ay τ = hZ (τ k) n sz:=congrArg XV.one (aB k n sz τ)
theorem aZ{k n sz m:Nat}(h:k<m):(fD k n sz).ok m:=by
 unfold fD
 split
 ·exact trivial
 ·exact h
theorem iT{k n sz m:Nat}(h:k<m):(hZ k n sz).b7 m:=aZ h
theorem Sz{a:X1}{n:Nat}(h:a.ok n):(XV.tup [a]).b7 n:=fun x hx=>by
 simp only[List.mem_cons,List.not_mem_nil,or_false]at hx
 subst hx;exact h
theorem F6{a b:X1}{n:Nat}(h:a.ok n)(h':b.ok n):(XV.tup [a,b]).b7 n:=fun x hx=>by
 simp only[List.mem_cons,List.not_mem_nil,or_false]at hx
 rcases hx with rfl|rfl
 ·exact h
 ·exact h'
theorem fb{e:TypeId}{cs:List XC}(h:cs≠[]):cE e cs = .cells cs e true false:=by
 cases cs with
 | nil=>exact absurd rfl h
 | cons c r=>rfl
theorem l6{k n sz:Nat}(h:n≠0):hZ k n sz = .one (.slice k 0 n (.toEnd sz)):=congrArg XV.one (if_neg h)
theorem BJ{e:TypeId}{cs:List XC}(h:cs.all XC.shut=true):c8 (cE e cs):=by
 cases cs with
 | nil=>exact⟨fun _=>rfl,fun _=>trivial⟩
 | cons c r=>exact jj h
theorem t7(k:IntKind)(l:List Int):(il k l).all XC.shut=true:=by
 rw[List.all_eq_true]
 intro c hc
 obtain⟨x,_,rfl⟩:=List.mem_map.1 hc
 rfl
instance {e:TypeId} {k:IntKind} {l:List Int}:c8 (cE e (il k l)):=BJ (t7 k l)
inductive h_:List Nat->aj->List Nat->Prop where
 | nil:h_ [] [] []
 | dead {i:Nat} {l q:List Nat} {hs:aj}:h_ l hs q->h_ (i::l) (.dead::hs) q
 | cons {i:Nat} {o:ak} {l q:List Nat} {hs:aj}:h_ l hs q->h_ (i::l) (o::hs) (i::q)
theorem h_.mem{l q:List Nat}{hs:aj}(h:h_ l hs q):∀(i:Nat) (o:ak),hs[i]? = some o->o ≠ .dead->nth l i∈q:=by
 induction h with
 | nil=>intro i o h;simp at h
 | dead _ ih=>
   intro i o h ho
   cases i with
   | zero=>simp at h;exact absurd h.symm ho
   | succ i=>exact ih i o (by simpa using h) ho
 | cons _ ih=>
   intro i o h ho
   cases i with
   | zero=>exact List.mem_cons_self ..
   | succ i=>exact List.mem_cons_of_mem _ (ih i o (by simpa using h) ho)
theorem h_.inj{l q:List Nat}{hs:aj}(h:h_ l hs q)(nd:q.Nodup):∀(i j:Nat) (a b:ak),hs[i]? = some a->hs[j]? = some b->a ≠ .dead->b ≠ .dead->nth l i=nth l j->i=j:=by
 induction h with
 | nil=>intro i j a b h;simp at h
 | dead _ ih=>
   intro i j a b hi hj ha hb he
   cases i with
   | zero=>simp at hi;exact absurd hi.symm ha
   | succ i=>
     cases j with
     | zero=>simp at hj;exact absurd hj.symm hb
     | succ j=>rw[ih nd i j a b (by simpa using hi) (by simpa using hj) ha hb he]
 | @cons k o l q hs hl ih=>
   intro i j a b hi hj ha hb he
   rw[List.nodup_cons]at nd
   cases i with
   | zero=>
     cases j with
     | zero=>rfl
     | succ j=>
       have:=hl.mem j b (by simpa using hj) hb
       rw[show nth l j=k from he.symm]at this
       exact absurd this nd.1
   | succ i=>
     cases j with
     | zero=>
       have:=hl.mem i a (by simpa using hi) ha
       rw[show nth l i=k from he]at this
       exact absurd this nd.1
     | succ j=>rw[ih nd.2 i j a b (by simpa using hi) (by simpa using hj) ha hb he]
def Nd(l:List Nat)(hs:aj):Prop:=l.Nodup\/∃q,h_ l hs q/\q.Nodup
theorem Nd.inj{l:List Nat}{hs:aj}(h:Nd l hs)(hlen:hs.length=l.length):∀(i j:Nat) (a b:ak),hs[i]? = some a->hs[j]? = some b->a ≠ .dead->b ≠ .dead->nth l i=nth l j->i=j:=by
 rcases h with h|⟨q,h,hq⟩
 ·intro i j a b hi hj _ _ hij
  have hi:=(List.getElem?_eq_some_iff.1 hi).1
  have hj:=(List.getElem?_eq_some_iff.1 hj).1
  unfold nth at hij
  have ha':i<l.length:=by omega
  have hb':j<l.length:=by omega
  rw[List.getD_eq_getElem?_getD,List.getD_eq_getElem?_getD,List.getElem?_eq_getElem ha',List.getElem?_eq_getElem hb']at hij
  exact(List.getElem_inj h).1 hij
 ·exact h.inj hq
inductive ae(τ : Nat->Nat)(HS:aj):List Nat->aj->Prop where
 | nil:ae τ HS [] []
 | flat {i:Nat} {o:ak} {l:List Nat} {hs:aj} [c8 o]:HS[i]? = some o->ae τ HS l hs->ae τ HS (i::l) (o::hs)
 | cons {i:Nat} {o:ak} {l:List Nat} {hs:aj}:HS[i]? = some (o.ay τ)->ae τ HS l hs->ae τ HS (i::l) (o::hs)
 | dead {i:Nat} {l:List Nat} {hs:aj}:Nat.blt i HS.length=true->ae τ HS l hs->ae τ HS (i::l) (.dead::hs)
theorem ae.at{τ : Nat->Nat}{HS:aj}{l:List Nat}{hs:aj}(h:ae τ HS l hs):hs.length=l.length/\∀(j:Nat) (o:ak),hs[j]? = some o->nth l j<HS.length/\(o = .dead\/HS[nth l j]? = some (o.ay τ)):=by
 induction h with
 | nil=>exact⟨rfl,fun j o h=>by simp at h⟩
 | @flat i o l hs inst h1 _ ih=>
   refine⟨by simp[ih.1],fun j o' hj=>?_⟩
   cases j with
   | zero=>simp at hj;subst hj;exact⟨(List.getElem?_eq_some_iff.1 h1).1,.inr (by rw[inst.ay];exact h1)⟩
   | succ j=>exact ih.2 j o' (by simpa using hj)
 | cons h1 _ ih=>
   refine⟨by simp[ih.1],fun j o' hj=>?_⟩
   cases j with
   | zero=>simp at hj;subst hj;exact⟨(List.getElem?_eq_some_iff.1 h1).1,.inr h1⟩
   | succ j=>exact ih.2 j o' (by simpa using hj)
 | dead h1 _ ih=>
   refine⟨by simp[ih.1],fun j o' hj=>?_⟩
   cases j with
   | zero=>simp at hj;subst hj;exact⟨by show _<_;rw[Nat.blt_eq]at h1;exact h1,.inl rfl⟩
   | succ j=>exact ih.2 j o' (by simpa using hj)
inductive ah(τ : Nat->Nat)(al:bl):bl->Prop where
 | nil:ah τ al []
 | flat {t:Nat} {v:XV} {r:bl} [bE v]:rg al t=v->ah τ al r->ah τ al ((t,v)::r)
 | cons {t:Nat} {v:XV} {r:bl}:rg al t=v.ay τ->ah τ al r->ah τ al ((t,v)::r)
theorem ah.at{τ : Nat->Nat}{al al2:bl}(h:ah τ al al2)(t:Nat):rg al2 t = .undef\/rg al t=(rg al2 t).ay τ:=by
 induction h with
 | nil=>exact .inl rfl
 | @flat u v r inst h1 _ ih=>
   by_cases ht:t=u
   ·subst ht;right;simp only[rg,if_true];rw[inst.ay];exact h1
   ·simp only[rg,ht,if_false];exact ih
 | @cons u v r h1 _ ih=>
   by_cases ht:t=u
   ·subst ht;right;simp only[rg,if_true];exact h1
   ·simp only[rg,ht,if_false];exact ih
inductive bc(n:Nat):aj->Prop where
 | nil:bc n []
 | flat {o:ak} {hs:aj} [c8 o]:bc n hs->bc n (o::hs)
 | cons {o:ak} {hs:aj}:o.b7 n->bc n hs->bc n (o::hs)
theorem bc.at{n:Nat}{hs:aj}(h:bc n hs):∀o∈hs,o.b7 n:=by
 induction h with
 | nil=>intro o h;cases h
 | @flat o hs inst _ ih=>
   intro x hx
   rcases List.mem_cons.1 hx with rfl|hx
   ·exact inst.ok n
   ·exact ih x hx
 | cons h1 _ ih=>
   intro x hx
   rcases List.mem_cons.1 hx with rfl|hx
   ·exact h1
   ·exact ih x hx
inductive oe(n:Nat):bl->Prop where
 | nil:oe n []
 | flat {t:Nat} {v:XV} {r:bl} [bE v]:oe n r->oe n ((t,v)::r)
 | cons {t:Nat} {v:XV} {r:bl}:v.b7 n->oe n r->oe n ((t,v)::r)
theorem oe.at{n:Nat}{al:bl}(h:oe n al)(t:Nat):(rg al t).b7 n:=by
 induction h with
 | nil=>trivial
 | @flat u v r inst _ ih=>
   unfold rg
   split
   ·exact inst.ok n
   ·exact ih
 | cons h1 _ ih=>
   unfold rg
   split
   ·exact h1
   ·exact ih
structure Cw(nI:Nat)(al:bl)(hs:aj):Prop where
 le:Nat.ble nI hs.length=true
 bnd:Nat.blt hs.length Mem.bound=true
 objs:bc hs.length hs
 jH:oe hs.length al
structure GoTo(nI:Nat)(al:bl)(hs:aj)(al2:bl)(hs2:aj)(τl:List Nat):Prop where
 nd:Nd τl hs2
 hid:(List.range nI).all (fun j=>nth τl j==j)=true
 obj:ae (nth τl) hs τl hs2
 reg:ah (nth τl) al al2
theorem WX.via{c:w5}{al2:bl}{hs2:aj}{K:dM}{τl:List Nat}(g:GoTo nI al hs al2 hs2 τl)(hk:Cw nI al2 hs2)(h:WX P nt nI c al2 hs2 K):WX P nt nI c al hs K:=by
 obtain⟨hlen,hobj⟩:=g.obj.at
 have hle:nI<=hs2.length:=Nat.le_of_ble_eq_true hk.le
 refine WX.view (nth τl) ⟨fun j hj=>?_,fun i j a b hi hj ha hb hij=>g.nd.inj hlen i j a b hi hj ha hb hij,fun j o hj=>hk.objs.at o (List.mem_of_getElem? hj),fun j o hj=>(hobj j o hj).2⟩ (fun j hj=>?_) hle hk.bnd hk.jH.at g.reg.at h
 ·exact(hobj j _ (List.getElem?_eq_getElem hj)).1
 ·have:=List.all_eq_true.1 g.hid j (List.mem_range.2 hj)
  simpa using this
theorem WX.dw{σ : Type}{c:Code}{K:dM}(R : σ->bl)(H : σ->aj)(I : σ->Prop)(μ : σ->Nat)(s0 : σ)(h0:I s0)(hok:∀s,I s->Cw nI (R s) (H s)){τl:List Nat}(hin:GoTo nI al hs (R s0) (H s0) τl)
 (step:∀s,I s->(∀s' τl al' hs',GoTo nI al' hs' (R s') (H s') τl->I s' -> μ s' < μ s->WX P nt nI (.round c) al' hs' K)->WX P nt nI (.code c) (R s) (H s) (HG P nt nI c K)):WX P nt nI (.code (.loop c)) al hs K:=by
 refine WX.loop (WX.via hin (hok s0 h0) ?_)
 have:∀n s,μ s<=n->I s->WX P nt nI (.round c) (R s) (H s) K:=by
  intro n
  induction n with
  | zero=>intro s hs hI;exact WX.round (step s hI fun s' τl al' hs' _ _ h=>absurd h (by omega))
  | succ n ih=>intro s hs hI;exact WX.round (step s hI fun s' τl al' hs' g h' hlt=>WX.via g (hok s' h') (ih s' (by omega) h'))
 exact this (μ s0) s0 (Nat.le_refl _) h0
theorem WX.Oa{σ : Type}{c:w5}{K:dM}(R : σ->bl)(H : σ->aj)(I : σ->Prop)(μ : σ->Nat)(s0 : σ)(h0:I s0)(hok:∀s,I s->Cw nI (R s) (H s)){τl:List Nat}(hin:GoTo nI al hs (R s0) (H s0) τl)
 (step:∀s,I s->(∀s' τl al' hs',GoTo nI al' hs' (R s') (H s') τl->I s' -> μ s' < μ s->WX P nt nI c al' hs' K)->WX P nt nI c (R s) (H s) K):WX P nt nI c al hs K:=by
 refine WX.via hin (hok s0 h0) ?_
 have:∀n s,μ s<=n->I s->WX P nt nI c (R s) (H s) K:=by
  intro n
  induction n with
  | zero=>intro s hs hI;exact step s hI fun s' τl al' hs' _ _ h=>absurd h (by omega)
  | succ n ih=>intro s hs hI;exact step s hI fun s' τl al' hs' g h' hlt=>WX.via g (hok s' h') (ih s' (by omega) h')
 exact this (μ s0) s0 (Nat.le_refl _) h0
theorem WX.meet{σ : Type}{a b:Code}{K:dM}(R : σ->bl)(H : σ->aj)(I : σ->Prop)(hok:∀s,I s->Cw nI (R s) (H s))(h1:WX P nt nI (.code a) al hs fun e al1 hs1=>e = .normal/\∃s τl,I s/\GoTo nI al1 hs1 (R s) (H s) τl)
 (h2:∀s,I s->WX P nt nI (.code b) (R s) (H s) K):WX P nt nI (.code (.seq a b)) al hs K:=
 WX.seq (h1.mono fun e al1 hs1 ⟨he,s,τl,hi,hg⟩=>by
  subst he
  exact WX.via hg (hok s hi) (h2 s hi))
theorem WX.I9(id:Nat){σ : Type}{ops:Array Oper}{dr:Bool}{x b:Code}{K:dM}(R : σ->bl)(H : σ->aj)(I : σ->Prop)(hok:∀s,I s->Cw nI (R s) (H s))(h1:WX P nt nI (.code (.seq (.region id ops dr) x)) al hs fun e al1 hs1=>e = .normal/\∃s τl,I s/\GoTo nI al1 hs1 (R s) (H s) τl)
 (h2:∀s,I s->WX P nt nI (.code b) (R s) (H s) K):WX P nt nI (.code (.seq (.seq (.region id ops dr) x) b)) al hs K:=WX.meet R H I hok h1 h2
theorem ae.ij{τ : Nat->Nat}{HS:aj}{i k k' n n' s:Nat}{rest:List XC}{e:TypeId}{a b:Bool}{l:List Nat}{hs:aj}(h:HS[i]? = some (.cells (fD k' n' s::rest) e a b))(hk : τ k=k')(hn:n'=n)(hr:rest.all XC.shut=true)(r:ae τ HS l hs):ae τ HS (i::l) (.cells (fD k n s::rest) e a b::hs):=by
 refine ae.cons ?_ r
 simp only[ak.ay,List.map_cons,aB,hk,<-hn,fu hr]
 exact h
theorem WX.cU{c:w5}{K:dM}(hb:Nat.blt hs.length Mem.bound=true)(h:WX P nt nI c al (hs++[.dead]) K):WX P nt nI c al hs K:=by
 intro βI mI wI hn m hm β w a Q hr hst hq
 obtain⟨m',hp,hh,_⟩:=hm.push .dead (by simpa [Nat.blt_eq]using hb)
 obtain⟨p1,p2,p3,p4⟩:=Mem.bW hp
 have hnn:m'.get m.n = .dead:=by unfold Mem.get;rw[p3]
 have hold:∀i,i≠m.n->m'.get i=m.get i:=fun i hi=>by unfold Mem.get;rw[p4 i hi]
 have hb2:=hh.bnd
 have hrel:Rel β m' w:=by
  refine⟨hb2,hh.fresh,fun i hi=>?_,fun i j hi hj li lj hbb=>?_⟩
  ·by_cases e:i=m.n
   ·subst e;rw[hnn];trivial
   ·rw[hold i e]
    exact(hst.rel.obj i (by omega)).ext (fun _ _=>⟨rfl,rfl,rfl⟩) (by omega)
  ·have e1:i≠m.n:=fun e=>by subst e;rw[hnn]at li;cases li
   have e2:j≠m.n:=fun e=>by subst e;rw[hnn]at lj;cases lj
   rw[hold i e1]at li
   rw[hold j e2]at lj
   exact hst.rel.inj i j (by omega) (by omega) li lj hbb
 refine h βI mI wI hn m' hh β w a Q ?_ ?_ hq
 ·exact⟨hr.size,hr.small,fun t ht=>(hr.rel t ht).ext (fun _ _=>⟨rfl,rfl,rfl⟩) (by omega),hr.out⟩
 ·refine⟨by have:=hst.le;omega,hst.ext,hrel,hst.os,hst.tape,hst.output,hst.size,hst.frame,fun k hk hi=>hst.xa k hk ?_⟩
  obtain⟨i,hi,hl,hb⟩:=hi
  have e1:i≠m.n:=fun e=>by subst e;rw[hnn]at hl;cases hl
  exact⟨i,by omega,by rw[hold i e1]at hl;exact hl,hb⟩
end Go.Xm
