/-
  A part of the proof: XmFloat, XmMany, XmMany2, XmCode, XmCall, XmFast.
-/
import Derived.Test.YtagpkhindehcbaaGreatKcB
set_option maxRecDepth 10000
set_option maxHeartbeats 8000000
set_option linter.unusedVariables false
set_option linter.unusedSectionVars false
set_option linter.unusedSimpArgs false
namespace Go.Xm
variable [az]
def oF (bs:List Nat) (f i:Nat) (di:Out) (e:Nat) (me:Mem) (de:Out):Bool:=
 !de.eff || i == e || ((!(di.eff && decide (e<i) && i != f) || bit bs i e) &&
  (match di.fp with
    | .none=>true
    | some fp=>bit bs i e || bit bs e i || (de.m.fV fp).ver == (me.fV fp).ver))
def qV (bs:List Nat) (f:Nat) (tr:List (Mem × Out)):Bool:=
 (List.range tr.length).all fun i=>match tr[i]? with
   | .none=>true
   | some (_,di)=>(!di.eff && di.fp.isNone) || (List.range tr.length).all fun e=>match tr[e]? with
     | .none=>true
     | some (me,de)=>oF bs f i di e me de
def LK (m0 m:Mem):Bool:=(List.range m.n).all fun j => !(m.get j).live || (m.get j).own || (decide (j<m0.n) && (m0.get j).live)
def lh (ops:Array Oper) (bs:List Nat) (tr:List (Mem × Out)) (f:Nat):Bool:=
 match ops[f]?,tr[0]?,tr[f]? with
 | some o,some (m0,_),some (mf,_)=>match o.op,o.guard,o.dst with
   | .alloc _,.none,some d=>LK m0 mf && (List.range ops.size).all (fun i=>i == f || (match ops[i]? with
      | .none=>true
      | some oi => !((oi.looksAt ops).contains d || (match tr[i]? with | .none=>false|some (_,di)=>decide (di.fp=some mf.n))) || (List.range f).all fun e=>match tr[e]? with
        | .none=>true
        | some (_,de) => !de.eff || bit bs i e)) && qV bs f tr
   | _,_,_=>false
 | _,_,_=>false
def lu (O:df) (P:Program) (ops:Array Oper) (nt:Nat) (r:T XV) (m:Mem):Option (T XV × Mem):=
 if bK ops nt (fx ops.toList)then
  match gv O P ops nt ops.toList r m with
  | some (tr,r',m')=>if(List.range ops.size).any (lh ops (fx ops.toList) tr)then some (r',m')else .none
  | .none => .none
 else .none
section
variable {O:df} {P:Program} {ops:Array Oper} {nt:Nat} {tr:List (Mem × Out)} {rs:Nat→T XV} {ms:Nat→Mem} {ds:Nat→Out}
structure ET (ops:Array Oper) (ms:Nat→Mem) (ds:Nat→Out) (f d:Nat) (t:TypeId):Prop where
 ord:∀ i e,i<ops.size→e<ops.size→(ds i).eff=true→(ds e).eff=true→e<i→i≠f→i6 ops i e
 ver:∀ i e fp,i<ops.size→e<ops.size→(ds i).fp=some fp→(ds e).eff=true→i≠e→¬i6 ops i e→¬i6 ops e i→((ds e).m.fV fp).ver=((ms e).fV fp).ver
 look:∀(i:Nat) (oi:Oper),ops[i]? = some oi→i≠f→d∈oi.looksAt ops→∀ e,e<f→(ds e).eff=true→i6 ops i e
 rd:∀(i:Nat),i<ops.size→i≠f→(ds i).fp=some (ms f).n→∀ e,e<f→(ds e).eff=true→i6 ops i e
 ro:∀ j,j<(ms f).n→((ms f).get j).live=true→((ms f).get j).own=true∨(j<(ms 0).n∧((ms 0).get j).live=true)
 lt:f<ops.size
 op:∃ o,ops[f]? = some o∧o.op = .alloc t∧o.guard = .none∧o.dst=some d
theorem IV (hT:Trace O P ops nt ops.toList tr rs ms ds) {f:Nat}(hf:f<ops.size) (h:lh ops (fx ops.toList) tr f=true):∃ d t,ET ops ms ds f d t:=by
 obtain⟨o,ho,h1,_⟩:=aV hT hf
 obtain⟨_,_,h0,_⟩:=aV hT (show 0<ops.size by omega)
 unfold lh at h
 rw [ho,h0,h1]at h
 simp only at h
 split at h
 · rename_i t d hop hg hd
   simp only [Bool.and_eq_true]at h
   obtain⟨⟨hro,hlk⟩,hdy⟩:=h
   have pair:∀ i e,i<ops.size→e<ops.size→((!(ds i).eff && (ds i).fp.isNone) || oF (fx ops.toList) f i (ds i) e (ms e) (ds e))=true:=by
    intro i e hi he
    obtain⟨_,_,h1,_⟩:=aV hT hi
    obtain⟨_,_,h2,_⟩:=aV hT he
    have hil:i<tr.length:=(List.getElem?_eq_some_iff.1 h1).1
    have hel:e<tr.length:=(List.getElem?_eq_some_iff.1 h2).1
    have h3:=List.all_eq_true.1 hdy i (List.mem_range.2 hil)
    rw [h1]at h3
    simp only [Bool.or_eq_true]at h3 ⊢
    rcases h3 with h3|h3
    · exact .inl h3
    · have h4:=List.all_eq_true.1 h3 e (List.mem_range.2 hel)
      rw [h2]at h4
      exact .inr h4
   refine⟨d,t,fun i e hi he h1 h2 hlt hif=>?_,fun i e fp hi he h1 h2 hne ha hb=>?_,fun i oi hoi hif hl e he heff=>?_,fun i hil hif hfp e he heff=>?_,fun j hj hlv=>?_,hf,o,ho,hop,hg,hd⟩
   · have hp:=pair i e hi he
     have hb:(i == e)=false:=by simp;omega
     have hq:(i != f)=true:=by simpa using hif
     simp [oF,h1,h2,hb,hlt,hq]at hp
     exact dK ops i e hp.1
   · have hp:=pair i e hi he
     have hq:(i == e)=false:=by simpa using hne
     have n1:bit (fx ops.toList) i e=false:=by
      cases hx:bit (fx ops.toList) i e
      · rfl
      · exact absurd (dK ops i e hx) ha
     have n2:bit (fx ops.toList) e i=false:=by
      cases hx:bit (fx ops.toList) e i
      · rfl
      · exact absurd (dK ops e i hx) hb
     simp [oF,h1,h2,hq,n1,n2]at hp
     exact hp.2
   · have hil:i<ops.size:=(Array.getElem?_eq_some_iff.1 hoi).1
     have h3:=List.all_eq_true.1 hlk i (List.mem_range.2 hil)
     have hq:(i == f)=false:=by simpa using hif
     rw [hoi,hq]at h3
     have hc:(oi.looksAt ops).contains d=true:=by simpa using hl
     simp only [Bool.false_or,hc,Bool.true_or,Bool.not_true]at h3
     have h4:=List.all_eq_true.1 h3 e (List.mem_range.2 he)
     obtain⟨_,_,h5,_⟩:=aV hT (show e<ops.size by omega)
     rw [h5]at h4
     simp only [heff,Bool.not_true,Bool.false_or]at h4
     exact dK ops i e h4
   · obtain⟨oi,hoi,h6,_⟩:=aV hT hil
     have h3:=List.all_eq_true.1 hlk i (List.mem_range.2 hil)
     have hq:(i == f)=false:=by simpa using hif
     rw [hoi,hq,h6]at h3
     simp only [Bool.false_or,hfp,decide_true,Bool.or_true,Bool.not_true]at h3
     have h4:=List.all_eq_true.1 h3 e (List.mem_range.2 he)
     obtain⟨_,_,h5,_⟩:=aV hT (show e<ops.size by omega)
     rw [h5]at h4
     simp only [heff,Bool.not_true,Bool.false_or]at h4
     exact dK ops i e h4
   · have h3:=List.all_eq_true.1 hro j (List.mem_range.2 hj)
     simp only [hlv,Bool.not_true,Bool.false_or,Bool.or_eq_true,Bool.and_eq_true,decide_eq_true_eq]at h3
     exact h3
 · cases h
structure ou (P:Program) (ops:Array Oper) (ms:Nat→Mem) (ds:Nat→Out) (w0:World) (f d:Nat) (t:TypeId) (b:Nat) (β : Env) (q:Nat) (g:Nat→XV) (listed:Array Bool) (a:Act) (w:World):Prop where
 le:q≤f
 l:listed.getD f false=true
 un:g d = .undef
 ge:w0.heap.size≤b
 lt:b<w.heap.size
 c6:∃ ti v,P.info? t=some ti∧ti.zero=some v∧w.heap[b]? = some (.cells v.cells t (0,0))
 rR:¬Iu β (ms q) b
 tmp:a.tmps.getD d undef = .pointer (some ⟨b,0,none⟩)
structure sN (O:df) (P:Program) (ops:Array Oper) (nt:Nat) (rs:Nat→T XV) (ms:Nat→Mem) (ds:Nat→Out) (f d:Nat) (t:TypeId) (β0:Env) (w0:World) (dfs:List Deferred) (er:Option Nat) (listed:Array Bool) (a:Act) (w:World):Prop where
 size:listed.size=ops.size
 cl:∀ i j,i6 ops i j→listed.getD i false=true→listed.getD j false=true
 st:∃(β : Env) (q:Nat) (g:Nat→XV),q≤ops.size∧(∀ e,e<ops.size→(ds e).eff=true→(er.isSome=true→e≠f)→(listed.getD e false=true↔e<q))∧Rel β (ms q) w∧fP β (ms q).n nt g a.tmps ∧
  (∀(i:Nat) (o:Oper) (t:Nat),listed.getD i false=true→(er.isSome=true→i≠f)→ops[i]? = some o→o.dst=some t→g t=(ds i).x) ∧
  (∀ t:Nat,(er.isSome=true→t≠d)→(∀(i:Nat) (o:Oper),listed.getD i false=true→ops[i]? = some o→o.dst≠some t)→g t=(rs 0).get .undef t)∧Step β0 (ms 0) w0 β (ms q) w ∧
  (∀ b,er=some b→ou P ops ms ds w0 f d t b β q g listed a w∧∃ e,e<f∧(ds e).eff=true∧listed.getD e false=false)
 dfs:a.defers=dfs
theorem Rel.KC {β : Env} {m m':Mem} {w:World}(h:Rel β m w) {o:aj}(hp:m.push o=some m') {b sz:Nat}(ho:∀ β',Ext m.n β β'→f3 β' m'.n 0 sz o w.heap[b]?) (hn:∀ j,j<m.n→(m.get j).live=true → β.c6 j≠b) :
 ∃ β',Ext m.n β β'∧Rel β' m' w ∧ β'.c6 m.n=b ∧ β'.base m.n=0∧m'.n=m.n+1∧m'.get m.n=o∧∀ j,j<m.n→m'.get j=m.get j:=by
 obtain⟨h1,h2,h3,h4⟩:=Mem.bD hp
 let β':Env:=⟨fun j=>if j=m.n then b else β.c6 j,fun j=>if j=m.n then 0 else β.base j,fun j=>if j=m.n then sz else β.size j⟩
 have hext:Ext m.n β β':=fun j hj=>⟨by simp only [β'];rw [if_neg (by omega)],by simp only [β'];rw [if_neg (by omega)],by simp only [β'];rw [if_neg (by omega)]⟩
 have hgn:m'.get m.n=o:=by unfold Mem.get;rw [h3]
 have hgo:∀ j,j<m.n→m'.get j=m.get j:=fun j hj=>by unfold Mem.get;rw [h4 j (by omega)]
 have e1 : β'.c6 m.n=b:=by simp [β']
 have e2 : β'.base m.n=0:=by simp [β']
 have e3 : β'.size m.n=sz:=by simp [β']
 refine⟨β',hext,⟨by omega,b_.push h.fresh hp,fun i hi=>?_,fun i j hi hj li lj hbb=>?_⟩,e1,e2,h2,hgn,hgo⟩
 · by_cases hin:i=m.n
   · subst hin
     rw [hgn,e1,e2,e3]
     exact ho β' hext
   · have hil:i<m.n:=by omega
     rw [hgo i hil,(hext i hil).1,(hext i hil).2.1,(hext i hil).2.2]
     exact(h.obj i hil).ext hext (by omega)
 · by_cases hin:i=m.n
   · by_cases hjn:j=m.n
     · omega
     · have hjl:j<m.n:=by omega
       rw [hgo j hjl]at lj
       rw [hin,e1,(hext j hjl).1]at hbb
       exact absurd hbb.symm (hn j hjl lj)
   · have hil:i<m.n:=by omega
     rw [hgo i hil]at li
     by_cases hjn:j=m.n
     · rw [hjn,e1,(hext i hil).1]at hbb
       exact absurd hbb (hn i hil (aj.cS li))
     · have hjl:j<m.n:=by omega
       rw [hgo j hjl]at lj
       rw [(hext i hil).1,(hext j hjl).1]at hbb
       exact h.inj i j hil hjl li lj hbb
theorem gD {P:Program} {O:df} {g:Nat→XV} {o:Oper} {t:TypeId} {m:Mem} {dd:Out}(hop:o.op = .alloc t) (hg:o.guard = .none) (h:jS O P ops g o m=some dd):∃ zs,pn P t=some zs∧m.push (.cells zs t false false)=some dd.m∧dd.x = .one (.ptr m.n 0)∧dd.eff=true∧dd.fp = .none:=by
 have hw:aw ops g o=some true:=by unfold aw;rw [hg]
 unfold jS at h
 rw [hw]at h
 simp only at h
 have n1:dU O P (ai g) o.op = .none:=by unfold dU;rw [hop];rfl
 have n2:fG P (ai g) o.op = .none:=by rw [hop];rfl
 have n3:cw P (ai g) o.op m=mY P t m:=by rw [hop];rfl
 have n4:c_ O P (ai g) o.op m = .none:=by rw [hop];rfl
 simp only [dT,n1,n2,n3]at h
 cases ha:mY P t m with
 | none=>rw [ha]at h;simp only [n4]at h;cases h
 | some p=>
   obtain⟨x,m'⟩:=p
   rw [ha]at h
   cases h
   unfold mY xD at ha
   split at ha
   · rename_i zs hz
     split at ha
     · rename_i m1 hp
       cases ha
       exact⟨zs,hz,hp,rfl,rfl,rfl⟩
     · cases ha
   · cases ha
theorem Ah (hs:dm ops nt) (hT:Trace O P ops nt ops.toList tr rs ms ds) {f d:Nat} {t:TypeId}(hd:ET ops ms ds f d t) {β0:Env} {w0:World}(hR0:Rel β0 (ms 0) w0) {dfs:List Deferred} {listed:Array Bool} {a:Act} {w:World} {b:Nat}
 (hsz:listed.size=ops.size) (hcl:∀ i j,i6 ops i j→listed.getD i false=true→listed.getD j false=true) (hdf:a.defers=dfs) {β : Env} {q:Nat} {g:Nat→XV}(heff:∀ e,e<ops.size→(ds e).eff=true→e≠f→(listed.getD e false=true↔e<q)) (hm:Rel β (ms q) w) (hr:fP β (ms q).n nt g a.tmps)
 (hg1:∀(i:Nat) (o:Oper) (t:Nat),listed.getD i false=true→i≠f→ops[i]? = some o→o.dst=some t→g t=(ds i).x) (hg2:∀ t:Nat,t≠d→(∀(i:Nat) (o:Oper),listed.getD i false=true→ops[i]? = some o→o.dst≠some t)→g t=(rs 0).get .undef t) (hst:Step β0 (ms 0) w0 β (ms q) w)
 (he:ou P ops ms ds w0 f d t b β q g listed a w) (hall:∀ e,e<f→(ds e).eff=true→listed.getD e false=true) :
 sN O P ops nt rs ms ds f d t β0 w0 dfs .none listed a w:=by
 obtain⟨o,ho,hop,hgd,hdst⟩:=hd.op
 obtain⟨o',ho',_,hdo,hrs,hms⟩:=aV hT hd.lt
 rw [ho]at ho'
 cases ho'
 obtain⟨zs,hz,hp,hx,hef,_⟩:=gD hop hgd hdo
 rw [←hms]at hp
 have hlt:=hd.lt
 have hqf:=he.le
 have hmq:ms f=ms q:=by
  have:=jY hT q (f-q) (by omega) (fun e he1 he2=>by
   cases hxe:(ds e).eff
   · rfl
   · have h1:=hall e (by omega) hxe
     have:=(heff e (by omega) hxe (by omega)).1 h1
     omega)
  rw [show q+(f-q)=f by omega]at this
  exact this
 rw [←hmq]at hm hr hst
 have himg:=he.rR
 rw [←hmq]at himg
 obtain⟨ti,v,v1,v2,v3⟩:=he.c6
 have hnl:∀ j,j<(ms f).n→((ms f).get j).live=true → β.c6 j≠b:=fun j hj hl hb=>by
  rcases hd.ro j hj hl with h1|⟨h1,h2⟩
  · exact himg ⟨j,hj,h1,hb⟩
  · have h3:=hR0.lt h1 h2
    have h4:=(hst.ext j h1).1
    have:=he.ge
    omega
 obtain⟨β',k1,k2,k3,k4,k5,k6,k7⟩:=hm.KC hp (b:=b) (sz:=zs.length) (fun β' hext=>by
  obtain⟨ti',v',z1,z2,z3,z4⟩:=fN hz β' (ms f).n
  rw [v1]at z1
  cases z1
  rw [v2]at z2
  cases z2
  have hn':=(Mem.bD hp).2.1
  refine⟨v.cells,(0,0),v3,?_,by simp,fun _=>⟨rfl,rfl⟩,fun c hc=>XC.fj (by omega) (z4 c hc),?_⟩
  · rw [z3];simp
  · rw [z3];simp [List.take_of_length_le]) hnl
 have hdlt:d<nt:=hs.dst f o d ho hdst
 refine⟨hsz,hcl,⟨β',f+1,fun t'=>if t'=d then .one (.ptr (ms f).n 0)else g t',by omega,fun e he1 he2 _=>?_,k2,⟨hr.size,hr.small,fun t' ht'=>?_,fun t' ht'=>?_⟩,fun i oi t' hl _ hoi hdi=>?_,fun t' _ ht'=>?_,?_,fun b h=>by cases h⟩,hdf⟩
 · by_cases hef:e=f
   · subst hef
     exact⟨fun _=>by omega,fun _=>he.l⟩
   · have:=heff e he1 he2 hef
     constructor
     · intro h;have:=this.1 h;omega
     · intro h;exact hall e (by omega) he2
 · by_cases htd:t'=d
   · subst htd
     simp only [if_true]
     rw [he.tmp]
     exact⟨by show(ms f).n<(ms (f+1)).n;omega,by simp only [XC.den,k3,k4,Nat.add_zero]⟩
   · simp only [htd,if_false]
     exact(hr.rel t' ht').ext k1 (by omega)
 · have htd:t'≠d:=by omega
   simp only [htd,if_false]
   exact hr.out t' ht'
 · by_cases hif:i=f
   · subst hif
     rw [ho]at hoi
     cases hoi
     rw [hdst]at hdi
     cases hdi
     simp only [if_true]
     exact hx.symm
   · have htd:t'≠d:=fun e=>hif (hs.uniq i f oi o t' hoi ho hdi (by rw [hdst,e]))
     simp only [htd,if_false]
     exact hg1 i oi t' hl hif hoi hdi
 · have htd:t'≠d:=fun e=>ht' f o he.l ho (by rw [hdst,e])
   simp only [htd,if_false]
   exact hg2 t' htd ht'
 · refine⟨by have:=hst.le;omega,fun j hj=>?_,k2,hst.os,hst.tape,hst.output,hst.size,hst.frame,fun k hk hi=>?_⟩
   · have h1:=hst.ext j hj
     have h2:=k1 j (by have:=hst.le;omega)
     exact⟨h2.1.trans h1.1,h2.2.1.trans h1.2.1,h2.2.2.trans h1.2.2⟩
   · obtain⟨j,hj,hl,hb⟩:=hi
     by_cases hjn:j=(ms f).n
     · rw [hjn,k3]at hb
       have:=he.ge
       omega
     · have hjl:j<(ms f).n:=by omega
       rw [k7 j hjl]at hl
       rw [(k1 j hjl).1]at hb
       exact hst.rR k hk ⟨j,hjl,hl,hb⟩
theorem sN.step (hO:aN P O) (hs:dm ops nt) (hnt:nt<1000000) (hT:Trace O P ops nt ops.toList tr rs ms ds) {f d:Nat} {t0:TypeId}(hd:ET ops ms ds f d t0) (h0:(ms 0).b_) {β0:Env} {w0:World}(hR0:Rel β0 (ms 0) w0) {dfs:List Deferred} {er:Option Nat} {listed:Array Bool} {a:Act} {w:World}
 (h:sN O P ops nt rs ms ds f d t0 β0 w0 dfs er listed a w) {i:Nat}(hi:i∈Region.ready .any ops listed) (hif:i=f→∀ e,e<f→(ds e).eff=true→listed.getD e false=true) {K:Act→World→Prop} {Q:Exit→Act→World→Prop}
 (hK:∀ a' w' er',sN O P ops nt rs ms ds f d t0 β0 w0 dfs er' (listed.setIfInBounds i true) a' w'→K a' w'):wpOp P ops Q i K a w:=by
 obtain⟨hun,oi,hoi,hedges⟩:=mem_ready.1 hi
 have hilt:i<ops.size:=(Array.getElem?_eq_some_iff.1 hoi).1
 have hil:i<listed.size:=by rw [h.size];exact hilt
 have hun':listed.getD i false=false:=by rw [←ct hil];exact hun
 obtain⟨β,q,g,hq,heff,hm,hr,hg1,hg2,hst,hear⟩:=h.st
 obtain⟨of,hof,hofop,hofg,hofd⟩:=hd.op
 have hanc:∀ i' j,i6 ops i' j→i'=i→listed.getD j false=true:=by
  intro i' j ha
  induction ha with
  | edge ho he hb=>
    intro e
    subst e
    rw [hoi]at ho
    cases ho
    exact hedges _ he hb
  | trans h1 h2 ih1 _=>intro e;exact h.cl _ _ h2 (ih1 e)
 have hanc':∀ j,i6 ops i j→listed.getD j false=true:=fun j ha=>hanc i j ha rfl
 have hno:∀ j,i6 ops j i→listed.getD j false=false:=fun j ha=>by
  cases hx:listed.getD j false
  · rfl
  · have:=h.cl j i ha hx
    rw [hun']at this;cases this
 have early:er.isSome=true→i≠f∧listed.getD f false=true∧d∉oi.looksAt ops∧q≤f∧∃ e,e<f∧(ds e).eff=true∧listed.getD e false=false:=fun he=>by
  obtain⟨b,hb⟩:=Option.isSome_iff_exists.1 he
  obtain⟨h1,e,e1,e2,e3⟩:=hear b hb
  have hne:i≠f:=fun e'=>by rw [e',h1.l]at hun';cases hun'
  refine⟨hne,h1.l,fun hlk=>?_,h1.le,e,e1,e2,e3⟩
  have:=hanc' e (hd.look i oi hoi hne hlk e e1 e2)
  rw [e3]at this;cases this
 obtain⟨o',ho',_,hdo,hrs,hms⟩:=aV hT hilt
 rw [hoi]at ho'
 cases ho'
 obtain⟨hr1,hr2⟩:=mV hs hnt hT i (by omega)
 have hlook:∀ t∈oi.looksAt ops,g t=(rs i).get .undef t:=by
  intro t ht
  have hsee:er.isSome=true→t≠d:=fun he e=>(early he).2.2.1 (e ▸ ht)
  by_cases hw:∃(j:Nat) (oj:Oper),ops[j]? = some oj∧oj.dst=some t
  · obtain⟨j,oj,hj,hdj⟩:=hw
    have hjf:er.isSome=true→j≠f:=fun he e=>hsee he (by
     subst e
     rw [hof]at hj
     cases hj
     rw [hofd]at hdj
     exact(Option.some.inj hdj).symm)
    have nolisted:listed.getD j false=false→g t=(rs 0).get .undef t:=fun hlj=>hg2 t hsee (fun k ok hk hok e=>by
     have:=hs.uniq k j ok oj t hok hj e hdj
     subst this
     rw [hlj]at hk;cases hk)
    have nobefore:¬j<i→(rs i).get .undef t=(rs 0).get .undef t:=fun hji=>hr2 t (fun k ok hk hok e=>by
     have:=hs.uniq k j ok oj t hok hj e hdj
     omega)
    rcases Nat.lt_trichotomy j i with hji|hji|hji
    · have:=(hs.look i j oi oj t hoi hj hdj ht (by omega)).1 hji
      rw [hg1 j oj t (hanc' j this) hjf hj hdj,hr1 j oj t hji hj hdj]
    · subst hji
      rw [nolisted hun',nobefore (by omega)]
    · have:=(hs.look i j oi oj t hoi hj hdj ht (by omega)).2 hji
      rw [nolisted (hno j this),nobefore (by omega)]
  · have hnone:∀(k:Nat) (ok:Oper),ops[k]? = some ok→ok.dst≠some t:=fun k ok hok e=>hw ⟨k,ok,hok,e⟩
    rw [hg2 t hsee (fun k ok _ hok=>hnone k ok hok),hr2 t (fun k ok _ hok=>hnone k ok hok)]
 have hdstlt:∀ t,oi.dst=some t→t<nt:=fun t ht=>hs.dst i oi t hoi ht
 have hcl:∀ k j,i6 ops k j→(listed.setIfInBounds i true).getD k false=true→(listed.setIfInBounds i true).getD j false=true:=by
  intro k j ha hk
  rw [aM hil]at hk ⊢
  by_cases hij:i=j
  · simp [hij]
  · simp only [hij,if_false]
    by_cases hik:i=k
    · subst hik;exact hanc' j ha
    · simp only [hik,if_false]at hk
      exact h.cl k j ha hk
 have hgs1:∀ {x:XV},x=(ds i).x→∀(k:Nat) (ok:Oper) (t:Nat),(listed.setIfInBounds i true).getD k false=true→(er.isSome=true→k≠f)→ops[k]? = some ok→ok.dst=some t→(if oi.dst=some t then x else g t)=(ds k).x:=by
  intro x hx k ok t hk hkf hok ht
  rw [aM hil]at hk
  by_cases hik:i=k
  · subst hik
    rw [hoi]at hok
    cases hok
    rw [if_pos ht,hx]
  · simp only [hik,if_false]at hk
    have:oi.dst≠some t:=fun e=>hik (hs.uniq i k oi ok t hoi hok e ht)
    rw [if_neg this]
    exact hg1 k ok t hk hkf hok ht
 have hgs2:∀ {x:XV}(t:Nat),(er.isSome=true→t≠d)→(∀(k:Nat) (ok:Oper),(listed.setIfInBounds i true).getD k false=true→ops[k]? = some ok→ok.dst≠some t)→(if oi.dst=some t then x else g t)=(rs 0).get .undef t:=by
  intro x t htd ht
  have hi':(listed.setIfInBounds i true).getD i false=true:=by rw [aM hil];simp
  rw [if_neg (ht i oi hi' hoi)]
  refine hg2 t htd (fun k ok hk hok=>ht k ok ?_ hok)
  rw [aM hil]
  split
  · rfl
  · exact hk
 have keep:∀ {b:Nat} {β':Env} {m':Mem} {w':World} {u:Value} {q':Nat} {x:XV},er=some b→Step β (ms q) w β' m' w'→m'=ms q'→q'≤f→ou P ops ms ds w0 f d t0 b β' q' (fun t=>if oi.dst=some t then x else g t) (listed.setIfInBounds i true) (a.put oi.dst u) w':=by
  intro b β' m' w' u q' x hb hs' hq' hle
  obtain⟨h1,_⟩:=hear b hb
  have he:er.isSome=true:=by rw [hb];rfl
  have hne:=(early he).1
  have hnd:oi.dst≠some d:=fun e=>hne (hs.uniq i f oi of d hoi hof e hofd)
  subst hq'
  refine⟨hle,?_,?_,h1.ge,Nat.lt_of_lt_of_le h1.lt hs'.size,?_,fun hi=>h1.rR (hs'.rR b h1.lt hi),?_⟩
  · rw [aM hil];simp [h1.l]
  · simp only [hnd,if_false];exact h1.un
  · obtain⟨ti,v,v1,v2,v3⟩:=h1.c6
    exact⟨ti,v,v1,v2,by rw [hs'.frame b h1.lt h1.rR];exact v3⟩
  · rw [←h1.tmp]
    cases hod:oi.dst with
    | none=>rfl
    | some d'=>
      have:d'≠d:=fun e=>hnd (by rw [hod,e])
      simp [Act.put,Array.getD_eq_getD_getElem?,Array.getElem?_setIfInBounds_ne this]
 cases he:(ds i).eff with
 | false =>
   have hobj : ∀ fp,(ds i).fp=some fp→(ms q).get fp=(ms i).get fp:=by
    intro fp hfp
    have verF:er.isSome=true→((ds f).m.fV fp).ver=((ms f).fV fp).ver:=fun hes=>by
     obtain⟨hne,_,_,_,e,e1,e2,e3⟩:=early hes
     obtain⟨o',ho',_,hdo',_,_⟩:=aV hT hd.lt
     rw [hof]at ho'
     cases ho'
     obtain⟨zs,_,hp,_⟩:=gD hofop hofg hdo'
     obtain⟨_,_,_,h4⟩:=Mem.bD hp
     rw [h4 fp (fun e'=>by
      have:=hanc' e (hd.rd i hilt hne (by rw [hfp,e']) e e1 e2)
      rw [e3]at this;cases this)]
    rcases Nat.le_total q i with hqi|hqi
    · have := ki hO hT h0 fp q (i-q) (by omega) (fun e he1 he2 he3=>by
       by_cases hef:er.isSome=true∧e=f
       · rw [hef.2];exact verF hef.1
       · have hne:i≠e:=by omega
         refine hd.ver i e fp hilt (by omega) hfp he3 hne (fun ha=>?_) (fun ha=>?_)
         · have:=(heff e (by omega) he3 (fun h1 h2=>hef ⟨h1,h2⟩)).1 (hanc' e ha)
           omega
         · have:=i6.lt hs ha
           omega)
      rw [show q+(i-q)=i by omega]at this
      exact this.symm
    · have:=ki hO hT h0 fp i (q-i) (by omega) (fun e he1 he2 he3=>by
       have hne:i≠e:=fun e'=>by subst e';rw [he]at he3;cases he3
       refine hd.ver i e fp hilt (by omega) hfp he3 hne (fun ha=>?_) (fun ha=>?_)
       · have:=i6.lt hs ha
         omega
       · have h1:=hno e ha
         have h2:=(heff e (by omega) he3 (fun h1 h2=>by have:=(early h1).2.2.2.1;omega)).2 (by omega)
         rw [h1]at h2;cases h2)
      rw [show i+(q-i)=q by omega]at this
      exact this
   have hago:=rB hdo (g':=g) hlook he (m':=ms q) hobj
   refine pU hO hoi hago hm hr fun u β' w' hu hs'=>hK _ _ er ?_
   refine⟨by simp [h.size],hcl,⟨β',q,fun t=>if oi.dst=some t then(ds i).x else g t,hq,?_,hs'.rel,fP.put (hr.ext hs'.ext hs'.le) oi.dst hu hdstlt,hgs1 rfl,hgs2,hst.trans hs',fun b hb=>⟨keep hb hs' rfl (early (by rw [hb];rfl)).2.2.2.1,?_⟩⟩,?_⟩
   · intro e hel hee hef
     rw [aM hil]
     have hie:i≠e:=fun x=>by subst x;rw [he]at hee;cases hee
     simp only [hie,if_false]
     exact heff e hel hee hef
   · obtain⟨_,_,_,_,e,e1,e2,e3⟩:=early (by rw [hb];rfl)
     refine⟨e,e1,e2,?_⟩
     rw [aM hil]
     have hie:i≠e:=fun x=>by subst x;rw [he]at e2;cases e2
     simp only [hie,if_false]
     exact e3
   · rw [cV,h.dfs]
 | true =>
   have hilf:er.isSome=true→i<f:=fun hes=>by
    obtain⟨hne,_,_,_,e,e1,e2,e3⟩:=early hes
    rcases Nat.lt_or_ge i f with h1|h1
    · exact h1
    · have:=hanc' e (hd.ord i e hilt (by omega) he e2 (by omega) hne)
      rw [e3]at this;cases this
   have hqi:q≤i:=by
    rcases Nat.lt_or_ge i q with hlt|hge
    · have:=(heff i hilt he (fun h1=>(early h1).1)).2 hlt
      rw [hun']at this;cases this
    · exact hge
   have hbefore:∀ e,e<i→(ds e).eff=true→listed.getD e false=true:=fun e hlt hee=>by
    by_cases hii:i=f
    · exact hif hii e (by omega) hee
    · exact hanc' e (hd.ord i e hilt (by omega) he hee hlt hii)
   have hmq:ms i=ms q:=by
    have:=jY hT q (i-q) (by omega) (fun e he1 he2=>by
     cases hx:(ds e).eff
     · rfl
     · have h2:=(heff e (by omega) hx (fun h1=>by have:=hilf h1;omega)).1 (hbefore e (by omega) hx)
       omega)
    rw [show q+(i-q)=i by omega]at this
    exact this
   have hago:=jv hdo (g':=g) hlook
   rw [hmq]at hago
   have heff' : ∀ e,e<ops.size→(ds e).eff=true→(er.isSome=true→e≠f)→((listed.setIfInBounds i true).getD e false=true↔e<i+1):=by
    intro e hel hee hef
    rw [aM hil]
    by_cases hie:i=e
    · subst hie;simp
    · simp only [hie,if_false]
      constructor
      · intro hle
        rcases Nat.lt_or_ge i e with hlt|hge
        · by_cases hefq:e=f
          · cases her:er with
            | none=>
              have:=(heff e hel hee (fun h=>by rw [her]at h;cases h)).1 hle
              omega
            | some b=>exact absurd hefq (hef (by rw [her];rfl))
          · have:=hd.ord e i hel hilt hee he hlt hefq
            have:=hno e this
            rw [this]at hle;cases hle
        · omega
      · intro hlt
        exact hbefore e (by omega) hee
   refine pU hO hoi hago hm hr fun u β' w' hu hs'=>?_
   rw [←hms]at hu hs'
   have hput:(a.put oi.dst u).defers=dfs:=by rw [cV,h.dfs]
   have hsz:(listed.setIfInBounds i true).size=ops.size:=by simp [h.size]
   have hr':=fP.put (hr.ext hs'.ext hs'.le) oi.dst hu hdstlt
   by_cases hmore:∀ b,er=some b→∃ e,e<f∧(ds e).eff=true∧(listed.setIfInBounds i true).getD e false=false
   · refine hK _ _ er ⟨hsz,hcl,⟨β',i+1,fun t=>if oi.dst=some t then(ds i).x else g t,by omega,heff',hs'.rel,hr',hgs1 rfl,hgs2,hst.trans hs',fun b hb=>⟨keep hb hs' rfl (by have:=hilf (by rw [hb];rfl);omega),hmore b hb⟩⟩,hput⟩
   · cases her:er with
     | none=>exact absurd (fun b hb=>by rw [her]at hb;cases hb) hmore
     | some b=>
       have hes:er.isSome=true:=by rw [her];rfl
       have hall:∀ e,e<f→(ds e).eff=true→(listed.setIfInBounds i true).getD e false=true:=fun e e1 e2=>by
        cases hx:(listed.setIfInBounds i true).getD e false with
        | true=>rfl
        | false=>exact absurd (fun b' hb'=>⟨e,e1,e2,hx⟩) hmore
       exact hK _ _ .none (Ah hs hT hd hR0 hsz hcl hput (fun e e1 e2 e3=>heff' e e1 e2 (fun _=>e3)) hs'.rel hr' (fun k ok t hk hkf=>hgs1 rfl k ok t hk (fun _=>hkf)) (fun t htd=>hgs2 t (fun _=>htd)) (hst.trans hs') (keep her hs' rfl (by have:=hilf hes;omega)) hall)
theorem sN.early (hs:dm ops nt) (hT:Trace O P ops nt ops.toList tr rs ms ds) {f d:Nat} {t0:TypeId}(hd:ET ops ms ds f d t0) {β0:Env} {w0:World} {dfs:List Deferred} {listed:Array Bool} {a:Act} {w:World}
 (h:sN O P ops nt rs ms ds f d t0 β0 w0 dfs .none listed a w) (hi:f∈Region.ready .any ops listed) (hmore:∃ e,e<f∧(ds e).eff=true∧listed.getD e false=false) {K:Act→World→Prop} {Q:Exit→Act→World→Prop}
 (hK:∀ a' w' er',sN O P ops nt rs ms ds f d t0 β0 w0 dfs er' (listed.setIfInBounds f true) a' w'→K a' w'):wpOp P ops Q f K a w:=by
 obtain⟨hun,oi,hoi,hedges⟩:=mem_ready.1 hi
 have hflt:=hd.lt
 have hil:f<listed.size:=by rw [h.size];exact hflt
 have hun':listed.getD f false=false:=by rw [←ct hil];exact hun
 obtain⟨β,q,g,hq,heff,hm,hr,hg1,hg2,hst,_⟩:=h.st
 obtain⟨of,hof,hofop,hofg,hofd⟩:=hd.op
 obtain rfl:oi=of:=by rw [hof]at hoi;exact(Option.some.inj hoi).symm
 obtain⟨o',ho',_,hdo,_,_⟩:=aV hT hflt
 obtain rfl:oi=o':=by rw [hof]at ho';exact Option.some.inj ho'
 obtain⟨zs,hz,hp,hx,hfe,_⟩:=gD hofop hofg hdo
 have hanc':∀ j,i6 ops f j→listed.getD j false=true:=fun j ha=>by
  have key:∀ i' j,i6 ops i' j→i'=f→listed.getD j false=true:=by
   intro i' j ha
   induction ha with
   | edge ho he hb=>
     intro e
     subst e
     rw [hof]at ho
     cases ho
     exact hedges _ he hb
   | trans h1 h2 ih1 _=>intro e;exact h.cl _ _ h2 (ih1 e)
  exact key f j ha rfl
 have hqf:q≤f:=by
  rcases Nat.lt_or_ge f q with hlt|hge
  · have:=(heff f hflt hfe (fun h=>by cases h)).2 hlt
    rw [hun']at this;cases this
  · exact hge
 have hdlt:d<nt:=hs.dst f oi d hof hofd
 obtain⟨ti,v,z1,z2,z3,z4⟩:=fN hz β (ms q).n
 have hrun:∀ ev:Operand→Value,(execOp ev oi).run P w = .ok (.value (.pointer (some ⟨w.heap.size,0,none⟩))) (w.alloc (.cells v.cells t0)):=fun ev=>by
  simp only [execOp,hofop,Instr.alloc,Sem.run_bind,dg z1 z2,Result.andThen_ok,mN,Sem.run_pure]
 have hheap:(w.alloc (.cells v.cells t0)).heap=w.heap.push (.cells v.cells t0 (0,0)):=rfl
 have hb0:∀ k,k<w.heap.size→(w.alloc (.cells v.cells t0)).heap[k]? = w.heap[k]?:=fun k hk=>by
  rw [hheap,Array.getElem?_push,if_neg (Nat.ne_of_lt hk)]
 have hrel:Rel β (ms q) (w.alloc (.cells v.cells t0)):=by
  refine⟨hm.bnd,hm.fresh,fun j hj=>?_,hm.inj⟩
  have:=hm.obj j hj
  cases hg:(ms q).get j with
  | dead=>trivial
  | cells c1 c2 c3 c4=>
    rw [hb0 _ (hm.lt hj (by rw [hg];rfl)),←hg];exact this
  | map es=>
    rw [hb0 _ (hm.lt hj (by rw [hg];rfl)),←hg];exact this
 have hstep:Step β (ms q) w β (ms q) (w.alloc (.cells v.cells t0)):=
  ⟨Nat.le_refl _,Ext.refl _ _,hrel,rfl,rfl,rfl,by rw [hheap];simp,fun k hk _=>hb0 k hk,fun _ _ h=>h⟩
 have hst':=hst.trans hstep
 have hsz':(w.alloc (.cells v.cells t0)).heap.size=w.heap.size+1:=by rw [hheap];simp
 unfold wpOp
 rw [hof]
 simp only []
 have hwant:Region.wanted oi (yielded ops a.tmps)=true:=by unfold Region.wanted;rw [hofg]
 rw [if_pos hwant]
 refine .inl ?_
 unfold Oper.wp
 rw [hrun]
 refine hK _ _ (some w.heap.size) ⟨by simp [h.size],fun k j ha hk=>?_,⟨β,q,fun t=>if t=d then .undef else g t,hq,fun e hel hee hef=>?_,hrel,⟨?_,hr.small,fun t ht=>?_,fun t ht=>?_⟩,fun k ok t hk hkf hok ht=>?_,fun t htd ht=>?_,hst',fun b hb=>?_⟩,?_⟩
 · rw [aM hil]at hk ⊢
   by_cases hij:f=j
   · simp [hij]
   · simp only [hij,if_false]
     by_cases hik:f=k
     · subst hik;exact hanc' j ha
     · simp only [hik,if_false]at hk
       exact h.cl k j ha hk
 · rw [aM hil]
   have:f≠e:=fun e'=>hef rfl e'.symm
   simp only [this,if_false]
   exact heff e hel hee (fun h=>by cases h)
 · rw [hofd];simpa [Act.put]using hr.size
 · by_cases htd:t=d
   · simp only [htd,if_true];trivial
   · simp only [htd,if_false]
     have:(a.put oi.dst (.pointer (some ⟨w.heap.size,0,none⟩))).tmps.getD t undef=a.tmps.getD t undef:=by
      rw [hofd]
      simp [Act.put,Array.getD_eq_getD_getElem?,Array.getElem?_setIfInBounds_ne (Ne.symm htd)]
     rw [this]
     exact hr.rel t ht
 · by_cases htd:t=d
   · simp [htd]
   · simp only [htd,if_false];exact hr.out t ht
 · have hkf':=hkf rfl
   rw [aM hil]at hk
   simp only [Ne.symm hkf',if_false]at hk
   have htd:t≠d:=fun e=>hkf' (hs.uniq k f ok oi t hok hof ht (by rw [hofd,e]))
   simp only [htd,if_false]
   exact hg1 k ok t hk (fun h=>by cases h) hok ht
 · have htd':=htd rfl
   simp only [htd',if_false]
   refine hg2 t (fun h=>by cases h) (fun k ok hk hok=>ht k ok ?_ hok)
   rw [aM hil]
   split
   · rfl
   · exact hk
 · cases hb
   refine⟨⟨hqf,by rw [aM hil];simp,by simp,by have:=hst.size;omega,by omega,⟨ti,v,z1,z2,?_⟩,fun hi=>?_,?_⟩,?_⟩
   · rw [hheap];simp
   · obtain⟨j,hj,hl,hb⟩:=hi
     have:=hm.lt hj (aj.cS hl)
     omega
   · rw [hofd]
     simp [Act.put,Array.getD_eq_getD_getElem?,hr.size,hdlt]
   · obtain⟨e,e1,e2,e3⟩:=hmore
     refine⟨e,e1,e2,?_⟩
     rw [aM hil]
     have:f≠e:=by omega
     simp only [this,if_false]
     exact e3
 · rw [cV,h.dfs]
theorem sN.any (hO:aN P O) (hs:dm ops nt) (hnt:nt<1000000) (hT:Trace O P ops nt ops.toList tr rs ms ds) {f d:Nat} {t0:TypeId}(hd:ET ops ms ds f d t0) (h0:(ms 0).b_) {β0:Env} {w0:World}(hR0:Rel β0 (ms 0) w0) {dfs:List Deferred} {Q:Exit→Act→World→Prop}
 (hQ:sR β0 (ms 0) w0 nt dfs (rs ops.size) (ms ops.size) (Q .normal)):∀(fuel:Nat) (er:Option Nat) (listed:Array Bool) (a:Act) (w:World),sN O P ops nt rs ms ds f d t0 β0 w0 dfs er listed a w →
 (List.range ops.size).countP (fun i=>listed.getD i false == false)≤fuel→wpAny P .any ops Q fuel listed a w:=by
 have fin : ∀(er:Option Nat) (listed:Array Bool) (a:Act) (w:World),sN O P ops nt rs ms ds f d t0 β0 w0 dfs er listed a w→(∀ i,i<ops.size→listed.getD i false=true)→Q .normal a w:=by
  intro er listed a w h hall
  obtain⟨β,q,g,hq,heff,hm,hr,hg1,hg2,hst,hear⟩:=h.st
  cases er with
  | some b=>
    obtain⟨_,e,e1,e2,e3⟩:=hear b rfl
    have:=hall e (by have:=hd.lt;omega)
    rw [e3]at this;cases this
  | none =>
    have nn:∀ {p:Prop},(Option.none:Option Nat).isSome=true→p:=fun h=>by cases h
    have hmq:ms ops.size=ms q:=by
     have:=jY hT q (ops.size-q) (by omega) (fun e he1 he2=>by
      cases hx:(ds e).eff
      · rfl
      · have:=(heff e (by omega) hx nn).1 (hall e (by omega))
        omega)
     rw [show q+(ops.size-q)=ops.size by omega]at this
     exact this
    obtain⟨hr1,hr2⟩:=mV hs hnt hT ops.size (Nat.le_refl _)
    have hge:g=(rs ops.size).get .undef:=by
     funext t
     by_cases hw:∃(j:Nat) (oj:Oper),ops[j]? = some oj∧oj.dst=some t
     · obtain⟨j,oj,hj,hdj⟩:=hw
       have hjl:j<ops.size:=(Array.getElem?_eq_some_iff.1 hj).1
       rw [hg1 j oj t (hall j hjl) nn hj hdj,hr1 j oj t hjl hj hdj]
     · have hnone:∀(k:Nat) (ok:Oper),ops[k]? = some ok→ok.dst≠some t:=fun k ok hok e=>hw ⟨k,ok,hok,e⟩
       rw [hg2 t nn (fun k ok _ hok=>hnone k ok hok),hr2 t (fun k ok _ hok=>hnone k ok hok)]
    subst hge
    rw [←hmq]at hr hst
    exact hQ a β w hr h.dfs hst
 intro fuel
 induction fuel with
 | zero=>
   intro er listed a w h hc
   have hall:∀ i,i<ops.size→listed.getD i false=true:=fun i hi=>by
    cases hx:listed.getD i false
    · have:0<(List.range ops.size).countP (fun i=>listed.getD i false == false):=List.countP_pos_iff.2 ⟨i,List.mem_range.2 hi,by simp [hx]⟩
      omega
    · rfl
   refine⟨?_,fin er listed a w h hall⟩
   apply List.eq_nil_iff_forall_not_mem.2
   intro i hi
   obtain⟨hun,oi,hoi,_⟩:=mem_ready.1 hi
   have hilt:i<ops.size:=(Array.getElem?_eq_some_iff.1 hoi).1
   rw [ct (by rw [h.size];exact hilt),hall i hilt]at hun
   cases hun
 | succ fuel ih=>
   intro er listed a w h hc
   refine⟨fun hnil=>fin er listed a w h (fun i hi=>?_),fun i hi=>?_⟩
   · induction i using Nat.strongRecOn with
     | _ i ihi=>
       cases hx:listed.getD i false
       · exfalso
         have ho:ops[i]? = some ops[i]:=by simp [hi]
         have:i∈Region.ready .any ops listed:=mem_ready.2 ⟨by rw [ct (by rw [h.size];exact hi)];exact hx,ops[i],ho,fun e he hb=>by
          have hlt:=hs.back i ops[i] ho e he hb
          exact ihi e.on hlt (by omega)⟩
         rw [hnil]at this
         cases this
       · rfl
   · obtain⟨hun,oi,hoi,_⟩:=mem_ready.1 hi
     have hilt:i<ops.size:=(Array.getElem?_eq_some_iff.1 hoi).1
     have hil:i<listed.size:=by rw [h.size];exact hilt
     have hcnt:=je (p:=fun j=>(listed.setIfInBounds i true).getD j false == false) (q:=fun j=>listed.getD j false == false) (i:=i) (fun j hj=>by
      rw [aM hil]at hj
      split at hj
      · simp at hj
      · exact hj) (by rw [←ct hil,hun];rfl) (by rw [aM hil];simp) (List.range ops.size) (List.mem_range.2 hilt)
     by_cases hmore:∃ e,e<f∧(ds e).eff=true∧listed.getD e false=false
     · by_cases hif:i=f
       · subst hif
         cases er with
         | none=>exact h.early hs hT hd hi hmore fun a' w' er' h'=>ih er' _ a' w' h' (by omega)
         | some b=>
           obtain⟨_,_,_,_,_,_,_,_,_,_,hear⟩:=h.st
           have:=(hear b rfl).1.l
           rw [←ct hil,hun]at this;cases this
       · exact h.step hO hs hnt hT hd h0 hR0 hi (fun e=>absurd e hif) fun a' w' er' h'=>ih er' _ a' w' h' (by omega)
     · refine h.step hO hs hnt hT hd h0 hR0 hi (fun _ e e1 e2=>?_) fun a' w' er' h'=>ih er' _ a' w' h' (by omega)
       cases hx:listed.getD e false with
       | true=>rfl
       | false=>exact absurd ⟨e,e1,e2,hx⟩ hmore
end
theorem Bn {O:df} {P:Program}(hO:aN P O) (hP:P.follows .mixedOrders=true) {ops:Array Oper} {nt id:Nat} {r r':T XV} {m m':Mem}(h:lu O P ops nt r m=some (r',m')) {β : Env} {w:World} {a:Act}(hr:jz β m.n nt r a.tmps) (hm:Rel β m w)
 {Q:Exit→Act→World→Prop}(hq:sR β m w nt a.defers r' m' (Q .normal)):(Code.region id ops true).wp P Q a w:=by
 unfold lu at h
 split at h
 · rename_i hst
   have hs:=iN hst
   split at h
   · rename_i tr r1 m1 htr
     split at h
     · rename_i hdy
       simp only [Option.some.injEq,Prod.mk.injEq]at h
       obtain⟨rfl,rfl⟩:=h
       obtain⟨rs,ms,ds,hT,h1,h2,h3,h4⟩:=iH htr
       subst h1
       subst h2
       obtain⟨f,hf,hfl⟩:=List.any_eq_true.1 hdy
       obtain⟨d,t,hd⟩:=IV hT (List.mem_range.1 hf) hfl
       have hdr:=Step.drew hm
       refine wp_region_any hP ?_
       have hsz:ops.toList.length=ops.size:=by simp
       rw [hsz]at h3 h4
       refine sN.any hO hs hr.small hT hd hm.fresh hm (β0 := β) (w0:=w) (dfs:=a.defers) (Q:=Q) (by rw [h3,h4];exact hq) _ .none _ a _ ?_ ?_
       · refine⟨by simp,fun i j ha hi=>?_,⟨β,0,(rs 0).get .undef,by omega,fun e he _ _=>?_,hdr.rel,hr,fun i o t hi=>?_,fun t _ _=>rfl,hdr,fun b hb=>by cases hb⟩,rfl⟩
         · exfalso
           by_cases hlt:i<ops.size <;> simp [Array.getD_eq_getD_getElem?,hlt]at hi
         · simp [Array.getD_eq_getD_getElem?,he]
         · exfalso
           by_cases hlt:i<ops.size <;> simp [Array.getD_eq_getD_getElem?,hlt]at hi
       · exact Nat.le_trans List.countP_le_length (by simp)
     · cases h
   · cases h
 · cases h
def gE (O:df) (P:Program) (ops:Array Oper) (nt:Nat) (r:T XV) (m:Mem):Option (T XV × Mem):=
 match h_ O P ops nt r m with
 | some x=>some x
 | .none=>lu O P ops nt r m
theorem Bm {O:df} {P:Program}(hO:aN P O) (hP:P.follows .mixedOrders=true) {ops:Array Oper} {nt id:Nat} {r r':T XV} {m m':Mem}(h:gE O P ops nt r m=some (r',m')) {β : Env} {w:World} {a:Act}(hr:jz β m.n nt r a.tmps) (hm:Rel β m w)
 {Q:Exit→Act→World→Prop}(hq:sR β m w nt a.defers r' m' (Q .normal)):(Code.region id ops true).wp P Q a w:=by
 unfold gE at h
 split at h
 · rename_i x hx
   cases h
   exact Bl hO hP hx hr hm hq
 · exact Bn hO hP h hr hm hq
theorem zI {O:df} {P:Program}(hO:aN P O) {ops:Array Oper} {nt:Nat} {r r':T XV} {m m':Mem}(h:gE O P ops nt r m=some (r',m')):pZ m m':=by
 unfold gE at h
 split at h
 · rename_i x hx
   cases h
   exact zH hO hx
 · unfold lu at h
   split at h
   · split at h
     · rename_i tr r1 m1 htr
       split at h
       · simp only [Option.some.injEq,Prod.mk.injEq]at h
         obtain⟨_,rfl⟩:=h
         exact Bv hO htr
       · cases h
     · cases h
   · cases h
end Go.Xm
namespace Go.Xm
variable [az]
def XC.jO (p:Nat→Prop):XC→Prop
 | .ptr i _=>p i
 | .slice i _ _ _=>p i
 | .map i=>p i
 | .bind g c=>g.jO p∧c.jO p
 | _=>True
def X1.jO (p:Nat→Prop):X1→Prop
 | .one c=>c.jO p
 | .agg cs=>∀ c∈cs,c.jO p
def XV.jO (p:Nat→Prop):XV→Prop
 | .undef=>True
 | .one c=>c.jO p
 | .agg cs=>∀ c∈cs,c.jO p
 | .tup xs=>∀ x∈xs,x.jO p
def aj.jO (p:Nat→Prop):aj→Prop
 | .dead=>True
 | .cells vs _ _ _=>∀ c∈vs,c.jO p
 | .map es=>∀ q∈es,q.1.jO p∧q.2.jO p
def XC.okB (p:Nat→Bool):XC→Bool
 | .ptr i _=>p i
 | .slice i _ _ _=>p i
 | .map i=>p i
 | .bind g c=>g.okB p && c.okB p
 | _=>true
def X1.okB (p:Nat→Bool):X1→Bool
 | .one c=>c.okB p
 | .agg cs=>cs.all (·.okB p)
def XV.okB (p:Nat→Bool):XV→Bool
 | .undef=>true
 | .one c=>c.okB p
 | .agg cs=>cs.all (·.okB p)
 | .tup xs=>xs.all (·.okB p)
def aj.okB (p:Nat→Bool):aj→Bool
 | .dead=>true
 | .cells vs _ _ _=>vs.all (·.okB p)
 | .map es=>es.all fun q=>q.1.okB p && q.2.okB p
section names
variable {p q:Nat→Prop}
theorem XC.iR {b:Nat→Bool}(h:∀ i,b i=true→p i):∀ {c:XC},c.okB b=true→c.jO p:=by
 intro c
 induction c with
 | ptr i off=>exact h i
 | slice i off len cap=>exact h i
 | map i=>exact h i
 | bind g c ih1 ih2=>intro h';simp only [okB,Bool.and_eq_true]at h';exact⟨ih1 h'.1,ih2 h'.2⟩
 | _=>intro _;trivial
theorem X1.iR {b:Nat→Bool}(h:∀ i,b i=true→p i):∀ {x:X1},x.okB b=true→x.jO p
 | .one _,h'=>XC.iR h h'
 | .agg cs,h'=>fun c hc=>XC.iR h (List.all_eq_true.1 h' c hc)
theorem XV.iR {b:Nat→Bool}(h:∀ i,b i=true→p i):∀ {x:XV},x.okB b=true→x.jO p
 | .undef,_=>trivial
 | .one _,h'=>XC.iR h h'
 | .agg cs,h'=>fun c hc=>XC.iR h (List.all_eq_true.1 h' c hc)
 | .tup cs,h'=>fun c hc=>X1.iR h (List.all_eq_true.1 h' c hc)
theorem aj.iR {b:Nat→Bool}(h:∀ i,b i=true→p i):∀ {x:aj},x.okB b=true→x.jO p
 | .dead,_=>trivial
 | .cells vs _ _ _,h'=>fun c hc=>XC.iR h (List.all_eq_true.1 h' c hc)
 | .map es,h'=>fun c hc=>by
   have:=List.all_eq_true.1 h' c hc
   simp only [Bool.and_eq_true]at this
   exact⟨X1.iR h this.1,X1.iR h this.2⟩
theorem XC.bX (h:∀ i,p i→q i):∀ {c:XC},c.jO p→c.jO q:=by
 intro c
 induction c with
 | ptr i off=>exact h i
 | slice i off len cap=>exact h i
 | map i=>exact h i
 | bind g c ih1 ih2=>intro h';exact⟨ih1 h'.1,ih2 h'.2⟩
 | _=>intro _;trivial
theorem X1.bX (h:∀ i,p i→q i):∀ {x:X1},x.jO p→x.jO q
 | .one _,h'=>XC.bX h h'
 | .agg cs,h'=>fun c hc=>XC.bX h (h' c hc)
theorem XV.bX (h:∀ i,p i→q i):∀ {x:XV},x.jO p→x.jO q
 | .undef,_=>trivial
 | .one _,h'=>XC.bX h h'
 | .agg cs,h'=>fun c hc=>XC.bX h (h' c hc)
 | .tup cs,h'=>fun c hc=>X1.bX h (h' c hc)
theorem aj.bX (h:∀ i,p i→q i):∀ {x:aj},x.jO p→x.jO q
 | .dead,_=>trivial
 | .cells vs _ _ _,h'=>fun c hc=>XC.bX h (h' c hc)
 | .map es,h'=>fun c hc=>⟨X1.bX h (h' c hc).1,X1.bX h (h' c hc).2⟩
theorem XC.gN {n:Nat}:∀ {c:XC},c.jO (· < n)↔c.ok n:=by
 intro c
 induction c with
 | bind g c ih1 ih2=>exact and_congr ih1 ih2
 | _=>exact Iff.rfl
theorem X1.gN {n:Nat}:∀ {x:X1},x.jO (· < n)↔x.ok n
 | .one _=>XC.gN
 | .agg cs=>⟨fun h c hc=>XC.gN.1 (h c hc),fun h c hc=>XC.gN.2 (h c hc)⟩
def CY (p:Nat→Prop) (β β':Env):Prop:=∀ i,p i → β'.c6 i = β.c6 i ∧ β'.size i = β.size i ∧ β'.base i = β.base i
theorem XC.kg {β β':Env}(h:CY p β β'):∀ {c:XC},c.jO p→c.den β'=c.den β:=by
 intro c
 induction c with
 | ptr i off=>intro h';simp only [den,(h i h').1,(h i h').2.2]
 | slice i off len cap=>intro h';cases cap <;> simp only [den,(h i h').1,(h i h').2.1,(h i h').2.2]
 | map i=>intro h';simp only [den,(h i h').1]
 | bind g c ih1 ih2=>intro h';simp only [den,ih1 h'.1,ih2 h'.2]
 | _=>intro _;rfl
theorem mJ {β β':Env}(h:CY p β β') {cs:List XC}(hc:∀ c∈cs,c.jO p):cs.map (·.den β')=cs.map (·.den β):=
 List.map_congr_left fun c hm=>XC.kg h (hc c hm)
theorem X1.kg {β β':Env}(h:CY p β β'):∀ {x:X1},x.jO p→x.den β'=x.den β
 | .one _,h'=>XC.kg h h'
 | .agg cs,h'=>by simp only [den,mJ h h']
theorem aS.Iw {β β':Env} {n n':Nat} {x:XV} {v:Value}(h:aS β n x v) (hp:x.jO p) (he:CY p β β') (hn:∀ i,p i→i<n'):aS β' n' x v:=by
 cases x with
 | undef=>trivial
 | one c=>exact⟨XC.gN.1 (XC.bX hn hp),h.2.trans (XC.kg he hp).symm⟩
 | agg cs=>exact⟨fun c hc=>XC.gN.1 (XC.bX hn (hp c hc)),h.2.trans (by rw [mJ he hp])⟩
 | tup xs=>
   refine⟨fun c hc=>X1.gN.1 (X1.bX hn (hp c hc)),h.2.trans ?_⟩
   have:xs.map (·.den β')=xs.map (·.den β):=List.map_congr_left fun c hm=>X1.kg he (hp c hm)
   rw [this]
theorem f3.Iw {β β':Env} {n n' lo sz:Nat} {x:aj} {o:Option Obj}(h:f3 β n lo sz x o) (hp:x.jO p) (he:CY p β β') (hn:∀ i,p i→i<n'):f3 β' n' lo sz x o:=by
 cases x with
 | dead=>trivial
 | cells vs elem opn ro=>
   obtain⟨cs,fr,h1,h2,h3,h4,h5,h6⟩:=h
   exact⟨cs,fr,h1,h2,h3,h4,fun c hc=>XC.gN.1 (XC.bX hn (hp c hc)),by rw [h6,mJ he hp]⟩
 | map es=>
   obtain⟨en,clock,h1,h2,h3⟩:=h
   refine⟨en,clock,h1,fun c hc=>⟨X1.gN.1 (X1.bX hn (hp c hc).1),X1.gN.1 (X1.bX hn (hp c hc).2)⟩,h3.trans ?_⟩
   exact List.map_congr_left fun c hc=>by rw [X1.kg he (hp c hc).1,X1.kg he (hp c hc).2]
theorem aS.jO {β : Env} {n:Nat} {x:XV} {v:Value}(h:aS β n x v):x.jO (· < n):=by
 cases x with
 | undef=>trivial
 | one c=>exact XC.gN.2 h.1
 | agg cs=>exact fun c hc=>XC.gN.2 (h.1 c hc)
 | tup xs=>exact fun c hc=>X1.gN.2 (h.1 c hc)
theorem f3.jO {β : Env} {n lo sz:Nat} {x:aj} {o:Option Obj}(h:f3 β n lo sz x o):x.jO (· < n):=by
 cases x with
 | dead=>trivial
 | cells vs elem opn ro=>
   obtain⟨cs,fr,h1,h2,h3,h4,h5,h6⟩:=h
   exact fun c hc=>XC.gN.2 (h5 c hc)
 | map es=>
   obtain⟨en,clock,h1,h2,h3⟩:=h
   exact fun c hc=>⟨X1.gN.2 (h2 c hc).1,X1.gN.2 (h2 c hc).2⟩
theorem f3.lt {β : Env} {n lo sz b:Nat} {x:aj} {w:World}(h:f3 β n lo sz x w.heap[b]?) (hl:x.live=true):b<w.heap.size:=by
 cases x with
 | dead=>cases hl
 | cells vs elem opn ro=>
   obtain⟨cs,fr,h2,_⟩:=h
   exact(Array.getElem?_eq_some_iff.1 h2).1
 | map es=>
   obtain⟨en,clock,h2,_⟩:=h
   exact(Array.getElem?_eq_some_iff.1 h2).1
end names
def eE (bs:List Nat) (made:List (Nat × Nat)) (e:Nat) (m:Mem):Mem:=
 match made with
 | []=>m
 | p::l=>if bit bs e p.1 then eE bs l e m else(eE bs l e m).put p.2 .dead
def KD (bs:List Nat) (made:List (Nat × Nat)) (n0 e i:Nat):Bool:=Nat.blt i n0 || made.any fun p=>p.2 == i && (p.1 == e || bit bs e p.1)
def Cv (m m':Mem) (n:Nat):Bool:=(List.range n).all fun j=>(m'.fV j).ver == (m.fV j).ver
def rJ (bs:List Nat) (n0 e:Nat) (m m0:Mem) (made:List (Nat × Nat)) (d:Out):Option (Mem × List (Nat × Nat)):=
 if Cv m0 d.m m.n then
  if d.m.n=m.n then
   if d.x.okB (KD bs made n0 e)then some (m,made)else .none
  else
   if d.m.n=m.n+1 then
    if(d.m.get m.n).own && (d.x.okB (KD bs ((e,m.n)::made) n0 e) && (d.m.get m.n).okB (KD bs ((e,m.n)::made) n0 e))then
     match m.push (d.m.get m.n)with
     | some m'=>some (m',(e,m.n)::made)
     | .none => .none
    else .none
   else .none
 else .none
def jx (O:df) (P:Program) (ops:Array Oper) (nt:Nat) (bs:List Nat) (n0:Nat):List Oper→Nat→List (Nat × Nat)→T XV→Mem→Option (T XV × Mem)
 | [],_,_,r,m=>some (r,m)
 | o :: l,e,made,r,m=>match jS O P ops (r.get .undef) o (eE bs made e m)with
   | some d=>match rJ bs n0 e m (eE bs made e m) made d with
     | some (m',made')=>jx O P ops nt bs n0 l (e+1) made' (np nt r o.dst d.x) m'
     | .none => .none
   | .none => .none
def qL (O:df) (P:Program) (ops:Array Oper) (nt:Nat) (r:T XV) (m:Mem):Option (T XV × Mem):=
 if bK ops nt (fx ops.toList)then jx O P ops nt (fx ops.toList) m.n ops.toList 0 [] r m else .none
theorem se {O:df} {P:Program} {ops:Array Oper} {nt:Nat} {bs:List Nat} {n0:Nat}:∀ {l:List Oper} {e:Nat} {made:List (Nat × Nat)} {r r':T XV} {m m':Mem},jx O P ops nt bs n0 l e made r m=some (r',m')→pZ m m'
 | [],e,made,r,r',m,m',h=>by simp only [jx,Option.some.injEq,Prod.mk.injEq]at h;obtain⟨_,rfl⟩:=h;exact .same _
 | o :: l,e,made,r,r',m,m',h=>by
   unfold jx at h
   split at h
   · rename_i d hd
     split at h
     · rename_i m1 made1 hs
       refine .trans ?_ (se h)
       unfold rJ at hs
       (repeat' split at hs) <;> first
         | (cases hs;done)
         | (cases hs;exact .same _)
         | (cases hs;exact .push ‹_›)
     · cases h
   · cases h
def Mk (ms:Nat→Mem) (e i:Nat):Prop:=(ms e).n≤i∧i<(ms (e+1)).n
def Al (bs:List Nat) (ms:Nat→Mem) (n0 e i:Nat):Prop:=i<n0∨∃ j,j<e∧bit bs e j=true∧Mk ms j i
def IA (bs:List Nat) (ms:Nat→Mem) (n0 e i:Nat):Prop:=Al bs ms n0 e i∨Mk ms e i
structure MP (O:df) (P:Program) (ops:Array Oper) (nt:Nat) (bs:List Nat) (n0:Nat) (rs:Nat→T XV) (ms:Nat→Mem) (xs:Nat→XV) (e:Nat) (o:Oper) (m0:Mem) (d:Out):Prop where
 run:jS O P ops ((rs e).get .undef) o m0=some d
 rs:rs (e+1)=np nt (rs e) o.dst d.x
 xs:xs e=d.x
 n:m0.n=(ms e).n
 fresh:(ms e).b_→m0.b_
 yes:∀ j,j<(ms e).n→Al bs ms n0 e j→m0.get j=(ms e).get j
 no:∀ j,j<(ms e).n→¬Al bs ms n0 e j→m0.get j = .dead
 ver:∀ j,j<(ms e).n→(d.m.fV j).ver=(m0.fV j).ver
 dn:d.m.n=(ms (e+1)).n
 ok:d.x.jO (IA bs ms n0 e)
 nx:ms (e+1)=ms e∨((ms e).push (d.m.get (ms e).n)=some (ms (e+1))∧(d.m.get (ms e).n).own=true∧(d.m.get (ms e).n).jO (IA bs ms n0 e))
theorem qm (bs:List Nat) (e:Nat) (m:Mem):∀ made,(eE bs made e m).n=m.n
 | []=>rfl
 | p::l=>by
   unfold eE
   split
   · exact qm bs e m l
   · rw [Mem.fE];exact qm bs e m l
theorem mK (bs:List Nat) (e:Nat) {m:Mem}(h:m.b_):∀ made,(eE bs made e m).b_
 | []=>h
 | p::l=>by
   unfold eE
   split
   · exact mK bs e h l
   · exact b_.put (mK bs e h l) _
theorem tF (bs:List Nat) (e:Nat) (m:Mem) (hb:m.n≤Mem.bound):∀ made j,j<m.n→(eE bs made e m).get j=if made.any (fun p=>p.2 == j && !bit bs e p.1)then .dead else m.get j
 | [],j,_=>by simp [eE]
 | p :: l,j,hj=>by
   unfold eE
   have ih:=tF bs e m hb l j hj
   cases hbit:bit bs e p.1
   · simp only [Bool.false_eq_true,if_false,List.any_cons,hbit,Bool.not_false,Bool.and_true]
     by_cases hpj:p.2=j
     · subst hpj
       rw [Mem.ig _ _ (by rw [qm];exact hj) (by omega)]
       simp
     · rw [Mem.f5 _ _ (fun e=>hpj e.symm),ih]
       have:(p.2 == j)=false:=by simpa using hpj
       rw [this,Bool.false_or]
   · simp only [if_true,List.any_cons,hbit,Bool.not_true,Bool.and_false,Bool.false_or]
     exact ih
theorem qO {O : df} {P:Program} {ops:Array Oper} {nt:Nat} {bs:List Nat} {n0:Nat}:∀ {l:List Oper} {e:Nat} {made:List (Nat × Nat)} {r r':T XV} {m m':Mem}(rs0:Nat→T XV) (ms0:Nat→Mem) (xs0:Nat→XV),jx O P ops nt bs n0 l e made r m=some (r',m') →
 rs0 e=r→ms0 e=m→m.n≤Mem.bound→(∀ k,k<e→(ms0 k).n≤(ms0 (k+1)).n)→n0≤(ms0 0).n→(∀ j i,(j,i)∈made↔(j<e∧Mk ms0 j i))→(∀ k,k<e→(ms0 (k+1)).n≤(ms0 k).n+1)→(∀ i,i<m.n→i<n0∨∃ j,j<e∧Mk ms0 j i) →
 ∃ rs ms xs,(∀ k,k≤e→rs k=rs0 k∧ms k=ms0 k)∧(∀ k,k<e→xs k=xs0 k)∧rs (e+l.length)=r'∧ms (e+l.length)=m'∧m'.n≤Mem.bound∧(∀ k,k<e+l.length→(ms k).n≤(ms (k+1)).n) ∧
   (∀ i,i<m'.n→i<n0∨∃ j,j<e+l.length∧Mk ms j i)∧∀ k o,l[k]? = some o→∃ m0 d,MP O P ops nt bs n0 rs ms xs (e+k) o m0 d
 | [],e,made,r,r',m,m',rs0,ms0,xs0,h,hr,hm,hb,hle,h0,_,_,hcov=>by
   simp only [jx,Option.some.injEq,Prod.mk.injEq]at h
   obtain⟨rfl,rfl⟩:=h
   exact⟨rs0,ms0,xs0,fun k _=>⟨rfl,rfl⟩,fun k _=>rfl,hr,hm,hb,hle,hcov,fun k o h=>by simp at h⟩
 | o :: l, e, made,r,r',m,m',rs0,ms0,xs0,h,hr,hm,hb,hle,h0,hmade,hone,hcov=>by
   unfold jx at h
   split at h
   · rename_i d hd
     split at h
     · rename_i m1 made1 hs
       let rs1:Nat→T XV:=fun k=>if k≤e then rs0 k else np nt r o.dst d.x
       let ms1:Nat→Mem:=fun k=>if k≤e then ms0 k else m1
       let xs1:Nat→XV:=fun k=>if k<e then xs0 k else d.x
       have e1:rs1 (e+1)=np nt r o.dst d.x:=if_neg (by omega)
       have e2:ms1 (e+1)=m1:=if_neg (by omega)
       have e3:∀ k,k≤e→ms1 k=ms0 k:=fun k hk=>by simp [ms1,hk]
       have e4:∀ k,k≤e→rs1 k=rs0 k:=fun k hk=>by simp [rs1,hk]
       have hmk:∀ j i,j<e→(Mk ms1 j i↔Mk ms0 j i):=fun j i hj=>by unfold Mk;rw [e3 j (by omega),e3 (j+1) (by omega)]
       have hst : Cv (eE bs made e m) d.m m.n=true∧((d.m.n=m.n∧d.x.okB (KD bs made n0 e)=true∧m1=m∧made1=made) ∨
        (d.m.n=m.n+1∧(d.m.get m.n).own=true∧d.x.okB (KD bs ((e,m.n)::made) n0 e)=true∧(d.m.get m.n).okB (KD bs ((e,m.n)::made) n0 e)=true∧m.push (d.m.get m.n)=some m1∧made1=(e,m.n)::made)):=by
        unfold rJ at hs
        split at hs
        · rename_i hv
          refine⟨hv,?_⟩
          split at hs
          · rename_i hn
            split at hs
            · rename_i hk
              cases hs
              exact .inl ⟨hn,hk,rfl,rfl⟩
            · cases hs
          · split at hs
            · rename_i hn
              split at hs
              · rename_i hk
                simp only [Bool.and_eq_true]at hk
                split at hs
                · rename_i mm hp
                  cases hs
                  exact .inr ⟨hn,hk.1,hk.2.1,hk.2.2,hp,rfl⟩
                · cases hs
              · cases hs
            · cases hs
        · cases hs
       obtain⟨hver,hcase⟩:=hst
       have hver':∀ j,j<m.n→(d.m.fV j).ver=((eE bs made e m).fV j).ver:=fun j hj=>by
        have:=List.all_eq_true.1 hver j (List.mem_range.2 hj)
        simpa using this
       have hn1:d.m.n=m1.n:=by
        rcases hcase with⟨h1,_,h2,_⟩|⟨h1,_,_,_,h2,_⟩
        · rw [h2];exact h1
        · rw [(Mem.bD h2).2.1];exact h1
       have hb1:m1.n≤Mem.bound:=by
        rcases hcase with⟨h1,_,h2,_⟩|⟨h1,_,_,_,h2,_⟩
        · rw [h2];exact hb
        · have:=Mem.bD h2;omega
       have hle1:m.n≤m1.n∧m1.n≤m.n+1:=by
        rcases hcase with⟨h1,_,h2,_⟩|⟨h1,_,_,_,h2,_⟩
        · rw [h2];omega
        · have:=Mem.bD h2;omega
       have hmade1:∀ j i,(j,i)∈made1↔(j<e+1∧Mk ms1 j i):=by
        intro j i
        have old:(j,i)∈made↔(j<e∧Mk ms1 j i):=by
         rw [hmade j i]
         exact⟨fun h=>⟨h.1,(hmk j i h.1).2 h.2⟩,fun h=>⟨h.1,(hmk j i h.1).1 h.2⟩⟩
        have here:Mk ms1 e i↔(m.n≤i∧i<m1.n):=by unfold Mk;rw [e3 e (Nat.le_refl _),e2,hm]
        rcases hcase with⟨h1,_,h2,h3⟩|⟨h1,_,_,_,h2,h3⟩
        · rw [h3,old]
          constructor
          · intro h;exact⟨by omega,h.2⟩
          · rintro ⟨h4,h5⟩
            by_cases hje:j=e
            · subst hje
              rw [here,h2]at h5
              omega
            · exact⟨by omega,h5⟩
        · have hnn:=(Mem.bD h2).2.1
          rw [h3,List.mem_cons,old,Prod.mk.injEq]
          constructor
          · rintro (⟨h4,h5⟩|h4)
            · rw [h4];exact⟨by omega,here.2 ⟨by omega,by omega⟩⟩
            · exact⟨by omega,h4.2⟩
          · rintro ⟨h4,h5⟩
            by_cases hje:j=e
            · rw [hje]at h5
              have:=here.1 h5
              exact .inl ⟨hje,by omega⟩
            · exact .inr ⟨by omega,h5⟩
       have hsub:∀ i,KD bs made1 n0 e i=true→IA bs ms1 n0 e i:=by
        intro i hi
        unfold KD at hi
        simp only [Bool.or_eq_true,List.any_eq_true,Bool.and_eq_true]at hi
        rcases hi with h1|⟨q,hq,hqi,hqe⟩
        · exact .inl (.inl (by simpa [Nat.blt_eq]using h1))
        · have hqi':q.2=i:=by simpa using hqi
          have hmem:(q.1,i)∈made1:=by rw [←hqi'];exact hq
          have:=(hmade1 q.1 i).1 hmem
          by_cases hq1:q.1=e
          · rw [hq1]at this;exact .inr this.2
          · refine .inl (.inr ⟨q.1,by omega,?_,this.2⟩)
            rcases hqe with h2|h2
            · exact absurd (by simpa using h2) hq1
            · exact h2
       obtain⟨rs,ms,xs,k1,k2,k3,k4,k5,k6,k7,k8⟩:=qO (l:=l) rs1 ms1 xs1 h e1 e2 hb1 (fun k hk=>by
        by_cases hke:k=e
        · subst hke
          rw [e3 k (Nat.le_refl _),e2,hm];exact hle1.1
        · rw [e3 k (by omega),e3 (k+1) (by omega)];exact hle k (by omega)) (by rw [e3 0 (by omega)];exact h0) hmade1 (fun k hk=>by
        by_cases hke:k=e
        · subst hke
          rw [e3 k (Nat.le_refl _),e2,hm];exact hle1.2
        · rw [e3 k (by omega),e3 (k+1) (by omega)];exact hone k (by omega)) (fun i hi=>by
        by_cases him:i<m.n
        · rcases hcov i him with h1|⟨j,h1,h2⟩
          · exact .inl h1
          · exact .inr ⟨j,by omega,(hmk j i h1).2 h2⟩
        · exact .inr ⟨e,by omega,by unfold Mk;rw [e3 e (Nat.le_refl _),e2,hm];omega⟩)
       have hlen:e+(o::l).length=e+1+l.length:=by simp;omega
       refine⟨rs,ms,xs,fun k hk=>⟨(k1 k (by omega)).1.trans (e4 k hk),(k1 k (by omega)).2.trans (e3 k hk)⟩,fun k hk=>(k2 k (by omega)).trans (by simp [xs1,hk]),by rw [hlen];exact k3,by rw [hlen];exact k4,k5,by rw [hlen];exact k6,by rw [hlen];exact k7,fun k o' hk=>?_⟩
       have hmse:ms e=m:=by rw [(k1 e (by omega)).2,e3 e (Nat.le_refl _),hm]
       have hmse1:ms (e+1)=m1:=by rw [(k1 (e+1) (Nat.le_refl _)).2,e2]
       have hmk2:∀ j i,j<e+1→(Mk ms j i↔Mk ms1 j i):=fun j i hj=>by unfold Mk;rw [(k1 j (by omega)).2,(k1 (j+1) (by omega)).2]
       have hAl':∀ i,IA bs ms1 n0 e i→IA bs ms n0 e i:=by
        rintro i ((h1|⟨j,h1,h2,h3⟩)|h1)
        · exact .inl (.inl h1)
        · exact .inl (.inr ⟨j,h1,h2,(hmk2 j i (by omega)).2 h3⟩)
        · exact .inr ((hmk2 e i (by omega)).2 h1)
       cases k with
       | zero =>
         simp only [List.getElem?_cons_zero,Option.some.injEq]at hk
         subst hk
         have hget:=tF bs e m hb made
         refine⟨eE bs made e m,d,?_⟩
         show MP O P ops nt bs n0 rs ms xs e o (eE bs made e m) d
         refine {run:=?_,rs:=?_,xs:=?_,n:=?_,fresh:=?_,yes:=?_,no:=?_,ver:=?_,dn:=?_,ok:=?_,nx:=?_}
         · rw [(k1 e (by omega)).1,e4 e (Nat.le_refl _),hr];exact hd
         · rw [(k1 e (by omega)).1,e4 e (Nat.le_refl _),hr,(k1 (e+1) (Nat.le_refl _)).1,e1]
         · rw [k2 e (by omega)];simp [xs1]
         · rw [hmse,qm]
         · rw [hmse];exact fun hf=>mK bs e hf made
         · rw [hmse]
           intro j hj hal
           rw [hget j hj]
           split
           · rename_i hany
             exfalso
             obtain⟨q,hq,hq2⟩:=List.any_eq_true.1 hany
             simp only [Bool.and_eq_true,Bool.not_eq_true']at hq2
             have hqj:q.2=j:=by simpa using hq2.1
             have hm1:=(hmade q.1 j).1 (by rw [←hqj];exact hq)
             rcases hal with h1|⟨j',h1,h2,h3⟩
             · have:∀ k,k≤e→(ms0 0).n≤(ms0 k).n:=by
                intro k
                induction k with
                | zero=>intro _;exact Nat.le_refl _
                | succ k ih=>intro hk;have:=ih (by omega);have:=hle k (by omega);omega
               have:=this q.1 (by omega)
               have:=hm1.2.1
               omega
             · have h3':=(hmk j' j h1).1 ((hmk2 j' j (by omega)).1 h3)
               have mono:∀ a b,a≤b→b≤e→(ms0 a).n≤(ms0 b).n:=by
                intro a b hab
                induction b with
                | zero=>intro _;rw [show a=0 by omega];exact Nat.le_refl _
                | succ b ih=>
                  intro hk
                  by_cases h':a=b+1
                  · rw [h'];exact Nat.le_refl _
                  · have h1':=ih (by omega) (by omega);have h2':=hle b (by omega);omega
               have:j'=q.1:=by
                rcases Nat.lt_trichotomy j' q.1 with hh|hh|hh
                · have:=mono (j'+1) q.1 (by omega) (by omega)
                  have h4:=h3'.2
                  have h5:=hm1.2.1
                  omega
                · exact hh
                · have:=mono (q.1+1) j' (by omega) (by omega)
                  have h4:=h3'.1
                  have h5:=hm1.2.2
                  omega
               rw [this,hq2.2]at h2
               cases h2
           · rfl
         · rw [hmse]
           intro j hj hal
           rw [hget j hj]
           rw [if_pos]
           rcases hcov j hj with h1|⟨j',h1,h2⟩
           · exact absurd (Or.inl h1) hal
           · have hmem:=(hmade j' j).2 ⟨h1,h2⟩
             refine List.any_eq_true.2 ⟨(j',j),hmem,?_⟩
             simp only [beq_self_eq_true,Bool.true_and,Bool.not_eq_true']
             cases hbit:bit bs e j' with
             | false=>rfl
             | true=>exact absurd (Or.inr ⟨j',h1,hbit,(hmk2 j' j (by omega)).2 ((hmk j' j h1).2 h2)⟩) hal
         · rw [hmse];exact hver'
         · rw [hmse1];exact hn1
         · rcases hcase with⟨_,h1,_,h2⟩|⟨_,_,h1,_,_,h2⟩
           · exact XV.iR (fun i hi=>hAl' i (hsub i (by rw [h2];exact hi))) h1
           · exact XV.iR (fun i hi=>hAl' i (hsub i (by rw [h2];exact hi))) h1
         · rw [hmse,hmse1]
           rcases hcase with⟨_,_,h1,_⟩|⟨_,h1,_,h2,h3,h4⟩
           · exact .inl h1
           · exact .inr ⟨h3,h1,aj.iR (fun i hi=>hAl' i (hsub i (by rw [h4];exact hi))) h2⟩
       | succ k=>
         simp only [List.getElem?_cons_succ]at hk
         have:=k8 k o' hk
         rw [show e+1+k=e+(k+1) by omega]at this
         exact this
     · cases h
   · cases h
end Go.Xm
namespace Go.Xm
variable [az]
section
variable {O:df} {P:Program} {ops:Array Oper} {nt:Nat} {bs:List Nat} {n0:Nat} {rs:Nat→T XV} {ms:Nat→Mem} {xs:Nat→XV}
structure lL (O:df) (P:Program) (ops:Array Oper) (nt:Nat) (n0:Nat) (rs:Nat→T XV) (ms:Nat→Mem) (xs:Nat→XV):Prop where
 z:n0=(ms 0).n
 le:∀ k,k<ops.size→(ms k).n≤(ms (k+1)).n
 bnd:(ms ops.size).n≤Mem.bound
 cov:∀ i,i<(ms ops.size).n→i<n0∨∃ j,j<ops.size∧Mk ms j i
 at_:∀ k o,ops[k]? = some o→∃ m0 d,MP O P ops nt (fx ops.toList) n0 rs ms xs k o m0 d
theorem lL.B_ (h:lL O P ops nt n0 rs ms xs):∀ a b,a≤b→b≤ops.size→(ms a).n≤(ms b).n:=by
 intro a b hab
 induction b with
 | zero=>intro _;rw [show a=0 by omega];exact Nat.le_refl _
 | succ b ih=>
   intro hk
   by_cases h':a=b+1
   · rw [h'];exact Nat.le_refl _
   · have h1:=ih (by omega) (by omega);have h2:=h.le b (by omega);omega
theorem lL.get (h:lL O P ops nt n0 rs ms xs):∀ k,k<ops.size→∃ o m0 d,ops[k]? = some o∧MP O P ops nt (fx ops.toList) n0 rs ms xs k o m0 d:=fun k hk=>by
 have ho:ops[k]? = some ops[k]:=by simp [hk]
 obtain⟨m0,d,h1⟩:=h.at_ k _ ho
 exact⟨_,m0,d,ho,h1⟩
theorem lL.same (h:lL O P ops nt n0 rs ms xs) (j:Nat):∀ b a,a≤b→b≤ops.size→j<(ms a).n→(ms b).get j=(ms a).get j:=by
 intro b
 induction b with
 | zero=>intro a hab _ _;rw [show a=0 by omega]
 | succ b ih=>
   intro a hab hb hj
   by_cases h':a=b+1
   · rw [h']
   · rw [←ih a (by omega) (by omega) hj]
     obtain⟨o,m0,d,_,hA⟩:=h.get b (by omega)
     rcases hA.nx with h1|⟨h1,_⟩
     · rw [h1]
     · have:=h.B_ a b (by omega) (by omega)
       unfold Mem.get
       rw [(Mem.bD h1).2.2.2 j (by omega)]
theorem lL.Jt (h:lL O P ops nt n0 rs ms xs) {a b i:Nat}(ha:a<ops.size) (hb:b<ops.size) (h1:Mk ms a i) (h2:Mk ms b i):a=b:=by
 obtain⟨h3,h4⟩:=h1
 obtain⟨h5,h6⟩:=h2
 rcases Nat.lt_trichotomy a b with hh|hh|hh
 · have:=h.B_ (a+1) b (by omega) (by omega);omega
 · exact hh
 · have:=h.B_ (b+1) a (by omega) (by omega);omega
theorem lL.OP (h:lL O P ops nt n0 rs ms xs) {a i:Nat}(ha:a<ops.size) (h1:Mk ms a i):n0≤i:=by
 have:=h.B_ 0 a (by omega) (by omega)
 have h2:=h1.1
 rw [h.z];omega
theorem lL.mk_one (h:lL O P ops nt n0 rs ms xs) {a i:Nat}(ha:a<ops.size) (h1:Mk ms a i):i=(ms a).n∧∃ m0 d o,ops[a]? = some o∧MP O P ops nt (fx ops.toList) n0 rs ms xs a o m0 d∧(ms ops.size).get i=d.m.get i∧(d.m.get i).own=true∧(d.m.get i).jO (IA (fx ops.toList) ms n0 a):=by
 obtain⟨o,m0,d,ho,hA⟩:=h.get a ha
 rcases hA.nx with h2|⟨h2,h3,h4⟩
 · obtain⟨h5,h6⟩:=h1;rw [h2]at h6;omega
 · have h7:=Mem.bD h2
   have hi:i=(ms a).n:=by obtain⟨h5,h6⟩:=h1;omega
   refine⟨hi,m0,d,o,ho,hA,?_,by rw [hi];exact h3,by rw [hi];exact h4⟩
   rw [h.same i ops.size (a+1) (by omega) (Nat.le_refl _) h1.2,hi]
   show((ms (a+1)).fV (ms a).n).obj=_
   rw [h7.2.2.1]
theorem lL.jj (hs:dm ops nt) (hnt:nt<1000000) (hT:lL O P ops nt n0 rs ms xs):∀ k,k≤ops.size →
 (∀(j:Nat) (o:Oper) (t:Nat),j<k→ops[j]? = some o→o.dst=some t→(rs k).get .undef t=xs j) ∧
 (∀ t:Nat,(∀(j:Nat) (o:Oper),j<k→ops[j]? = some o→o.dst≠some t)→(rs k).get .undef t=(rs 0).get .undef t)
 | 0,_=>⟨fun j o t hj=>by omega,fun t _=>rfl⟩
 | k + 1,hk=>by
   obtain⟨o,m0,d,ho,hA⟩:=hT.get k (by omega)
   obtain⟨ih1,ih2⟩:=lL.jj hs hnt hT k (by omega)
   have h3:=hA.rs
   have other:∀ t,o.dst≠some t→(rs (k+1)).get .undef t=(rs k).get .undef t:=fun t ht=>by
    rw [h3]
    unfold np
    split
    · rename_i d hd
      split
      · exact T.fh _ _ _ _ _ _ (fun e=>ht (by rw [hd,e]))
      · rfl
    · rfl
   refine⟨fun j o' t hj ho' ht=>?_,fun t ht=>?_⟩
   · rcases Nat.lt_or_ge j k with hjk|hjk
     · rw [other t (fun e=>by have:=hs.uniq k j o o' t ho ho' e ht;omega)]
       exact ih1 j o' t hjk ho' ht
     · have:j=k:=by omega
       subst this
       rw [ho]at ho'
       cases ho'
       have hd:=hs.dst j o t ho ht
       rw [h3,ht,hA.xs]
       simp only [np,hd,if_true]
       exact T.f6 _ _ _ _ _ (by omega)
   · rw [other t (ht k o (by omega) ho)]
     exact ih2 t (fun j o' hj=>ht j o' (by omega))
def zZ (ops:Array Oper) (ms:Nat→Mem) (n0:Nat) (listed:Array Bool) (j:Nat):Prop:=j<n0∨∃ e,e<ops.size∧listed.getD e false=true∧Mk ms e j
structure z8 (ops:Array Oper) (nt n0:Nat) (rs:Nat→T XV) (ms:Nat→Mem) (xs:Nat→XV) (β0:Env) (w0:World) (dfs:List Deferred) (listed:Array Bool) (a:Act) (w:World) (β : Env) (g:Nat→XV):Prop where
 size:listed.size=ops.size
 cl:∀ i j,i6 ops i j→listed.getD i false=true→listed.getD j false=true
 dfs:a.defers=dfs
 ext:Ext n0 β0 β
 obj:∀ j,zZ ops ms n0 listed j→f3 β (ms ops.size).n (β.base j) (β.size j) ((ms ops.size).get j) w.heap[β.c6 j]?
 inj:∀ i j,zZ ops ms n0 listed i→zZ ops ms n0 listed j→((ms ops.size).get i).own=true→((ms ops.size).get j).live=true → β.c6 i = β.c6 j→i=j
 jj:fP β (ms ops.size).n nt g a.tmps
 gok:∀ t,(g t).jO (zZ ops ms n0 listed)
 g1:∀(i:Nat) (o:Oper) (t:Nat),listed.getD i false=true→ops[i]? = some o→o.dst=some t→g t=xs i
 g2:∀ t:Nat,(∀(i:Nat) (o:Oper),listed.getD i false=true→ops[i]? = some o→o.dst≠some t)→g t=(rs 0).get .undef t
 os:w.os=w0.os
 tape:w.tape=w0.tape
 output:w.output=w0.output
 heap:w0.heap.size≤w.heap.size
 frame:∀ k,k<w0.heap.size→¬Iu β0 (ms 0) k→w.heap[k]? = w0.heap[k]?
 new:∀ e j,e<ops.size→listed.getD e false=true→Mk ms e j→w0.heap.size ≤ β.c6 j
theorem z8.step (hO:aN P O) (hs:dm ops nt) (hnt:nt<1000000) (hT:lL O P ops nt n0 rs ms xs) {β0:Env} {w0:World}(hR0:Rel β0 (ms 0) w0) {dfs:List Deferred} {listed:Array Bool} {a:Act} {w:World}(hr0:∀ t,((rs 0).get .undef t).jO (· < n0)) {β : Env} {g:Nat→XV}
 (h:z8 ops nt n0 rs ms xs β0 w0 dfs listed a w β g) {i:Nat}(hi:i∈Region.ready .any ops listed) {K:Act→World→Prop} {Q:Exit→Act→World→Prop}
 (hK:∀ a' w' β' g',z8 ops nt n0 rs ms xs β0 w0 dfs (listed.setIfInBounds i true) a' w' β' g'→K a' w'):wpOp P ops Q i K a w:=by
 obtain⟨hun,oi,hoi,hedges⟩:=mem_ready.1 hi
 have hilt:i<ops.size:=(Array.getElem?_eq_some_iff.1 hoi).1
 have hil:i<listed.size:=by rw [h.size];exact hilt
 have hun':listed.getD i false=false:=by rw [←ct hil];exact hun
 have hanc:∀ i' j,i6 ops i' j→i'=i→listed.getD j false=true:=by
  intro i' j ha
  induction ha with
  | edge ho he hb=>
    intro e
    subst e
    rw [hoi]at ho
    cases ho
    exact hedges _ he hb
  | trans h1 h2 ih1 _=>intro e;exact h.cl _ _ h2 (ih1 e)
 have hanc':∀ j,i6 ops i j→listed.getD j false=true:=fun j ha=>hanc i j ha rfl
 have hno:∀ j,i6 ops j i→listed.getD j false=false:=fun j ha=>by
  cases hx:listed.getD j false
  · rfl
  · have:=h.cl j i ha hx
    rw [hun']at this;cases this
 obtain⟨m0,d,hA⟩:=hT.at_ i oi hoi
 obtain⟨hr1,hr2⟩:=lL.jj hs hnt hT i (by omega)
 have hz:=hT.z
 have hmi:n0≤(ms i).n:=by rw [hz];exact hT.B_ 0 i (by omega) (by omega)
 have hmf:(ms (i+1)).n≤(ms ops.size).n:=hT.B_ (i+1) ops.size (by omega) (Nat.le_refl _)
 have hmii:=hT.le i hilt
 have okx:∀ j,j<ops.size→(xs j).jO (IA (fx ops.toList) ms n0 j):=fun j hj=>by
  obtain⟨o,m0,d,_,hA⟩:=hT.get j hj
  rw [hA.xs];exact hA.ok
 have al_lt:∀ j k,j<ops.size→IA (fx ops.toList) ms n0 j k→k<(ms (j+1)).n:=by
  rintro j k hj ((h1|⟨j',h1,_,h2⟩)|h1)
  · have:=hT.B_ 0 (j+1) (by omega) (by omega);omega
  · have:=hT.B_ (j'+1) (j+1) (by omega) (by omega);have:=h2.2;omega
  · exact h1.2
 have al_liv:∀ j k,j<ops.size→listed.getD j false=true→IA (fx ops.toList) ms n0 j k→zZ ops ms n0 listed k:=by
  rintro j k hj hl ((h1|⟨j',h1,hb,h2⟩)|h1)
  · exact .inl h1
  · exact .inr ⟨j',by omega,h.cl j j' (dK ops j j' hb) hl,h2⟩
  · exact .inr ⟨j,hj,hl,h1⟩
 have al_i:∀ k,Al (fx ops.toList) ms n0 i k→zZ ops ms n0 listed k:=by
  rintro k (h1|⟨j',h1,hb,h2⟩)
  · exact .inl h1
  · exact .inr ⟨j',by omega,hanc' j' (dK ops i j' hb),h2⟩
 have al_ilt:∀ k,Al (fx ops.toList) ms n0 i k→k<(ms i).n:=by
  rintro k (h1|⟨j',h1,hb,h2⟩)
  · omega
  · have:=hT.B_ (j'+1) i (by omega) (by omega);have:=h2.2;omega
 have liv_lt:∀ k,zZ ops ms n0 listed k→k<(ms ops.size).n:=by
  rintro k (h1|⟨e,h1,_,h2⟩)
  · omega
  · have:=hT.B_ (e+1) ops.size (by omega) (Nat.le_refl _);have:=h2.2;omega
 have okObj:∀ k,zZ ops ms n0 listed k→((ms ops.size).get k).jO (zZ ops ms n0 listed):=by
  rintro k (h1|⟨e,h1,hl,h2⟩)
  · rw [hT.same k ops.size 0 (by omega) (Nat.le_refl _) (by omega)]
    refine aj.bX (fun j hj => .inl (by rw [hz];exact hj)) (hR0.obj k (by omega)).jO
  · obtain⟨_,_,_,_,_,_,e1,_,e3⟩:=hT.mk_one h1 h2
    rw [e1]
    exact aj.bX (fun j hj=>al_liv e j h1 hl hj) e3
 have okObjLt:∀ k,Al (fx ops.toList) ms n0 i k→((ms ops.size).get k).jO (· < (ms i).n):=by
  rintro k (h1|⟨e,h1,hb,h2⟩)
  · rw [hT.same k ops.size 0 (by omega) (Nat.le_refl _) (by omega)]
    refine aj.bX (fun j hj=>?_) (hR0.obj k (by omega)).jO
    rw [←hz]at hj
    exact Nat.lt_of_lt_of_le hj hmi
  · obtain⟨_,_,_,_,_,_,e1,_,e3⟩:=hT.mk_one (by omega) h2
    rw [e1]
    refine aj.bX (fun j hj=>?_) e3
    have:=al_lt e j (by omega) hj
    have:=hT.B_ (e+1) i (by omega) (by omega)
    omega
 have hlook:∀ t∈oi.looksAt ops,g t=(rs i).get .undef t∧(g t).jO (· < (ms i).n):=by
  intro t ht
  have ok0:g t=(rs 0).get .undef t→(g t).jO (· < (ms i).n):=fun e=>by
   rw [e];exact XV.bX (fun j hj=>Nat.lt_of_lt_of_le hj hmi) (hr0 t)
  by_cases hw:∃(j:Nat) (oj:Oper),ops[j]? = some oj∧oj.dst=some t
  · obtain⟨j,oj,hj,hdj⟩:=hw
    have hjl:j<ops.size:=(Array.getElem?_eq_some_iff.1 hj).1
    have nolisted:listed.getD j false=false→g t=(rs 0).get .undef t:=fun hlj=>h.g2 t (fun k ok hk hok e=>by
     have:=hs.uniq k j ok oj t hok hj e hdj
     subst this
     rw [hlj]at hk;cases hk)
    have nobefore:¬j<i→(rs i).get .undef t=(rs 0).get .undef t:=fun hji=>hr2 t (fun k ok hk hok e=>by
     have:=hs.uniq k j ok oj t hok hj e hdj
     omega)
    rcases Nat.lt_trichotomy j i with hji|hji|hji
    · have:=(hs.look i j oi oj t hoi hj hdj ht (by omega)).1 hji
      have e1:=h.g1 j oj t (hanc' j this) hj hdj
      refine⟨by rw [e1,hr1 j oj t hji hj hdj],?_⟩
      rw [e1]
      refine XV.bX (fun k hk=>?_) (okx j hjl)
      have:=al_lt j k hjl hk
      have:=hT.B_ (j+1) i (by omega) (by omega)
      omega
    · subst hji
      have e1:=nolisted hun'
      exact⟨by rw [e1,nobefore (by omega)],ok0 e1⟩
    · have:=(hs.look i j oi oj t hoi hj hdj ht (by omega)).2 hji
      have e1:=nolisted (hno j this)
      exact⟨by rw [e1,nobefore (by omega)],ok0 e1⟩
  · have hnone:∀(k:Nat) (ok:Oper),ops[k]? = some ok→ok.dst≠some t:=fun k ok hok e=>hw ⟨k,ok,hok,e⟩
    have e1:=h.g2 t (fun k ok _ hok=>hnone k ok hok)
    exact⟨by rw [e1,hr2 t (fun k ok _ hok=>hnone k ok hok)],ok0 e1⟩
 classical
 let g':Nat→XV:=fun t=>if t∈oi.looksAt ops then(rs i).get .undef t else .undef
 have hago:=jv hA.run (g':=g') (fun t ht=>by simp only [g'];rw [if_pos ht])
 have hfr:∀ k,k≤ops.size→(ms k).b_:=by
  intro k
  induction k with
  | zero=>intro _;exact hR0.fresh
  | succ k ih=>
    intro hk
    obtain⟨o,m0,d,_,hA⟩:=hT.get k (by omega)
    rcases hA.nx with h1|⟨h1,_⟩
    · rw [h1];exact ih (by omega)
    · exact b_.push (ih (by omega)) h1
 have hm0n:=hA.n
 have hf0:=hA.fresh (hfr i (by omega))
 have alive0:∀ j,j<(ms i).n→(m0.get j).live=true→Al (fx ops.toList) ms n0 i j:=fun j hj hl=>by
  rcases Classical.em (Al (fx ops.toList) ms n0 i j)with h1|h1
  · exact h1
  · rw [hA.no j hj h1]at hl;cases hl
 have get0:∀ j,j<(ms i).n→Al (fx ops.toList) ms n0 i j→m0.get j=(ms ops.size).get j:=fun j hj hl=>by
  rw [hA.yes j hj hl,hT.same j ops.size i (by omega) (Nat.le_refl _) hj]
 have hm:Rel β m0 w:=by
  have hb:=hT.bnd
  refine⟨by omega,hf0,fun j hj=>?_,fun j k hj hk lj lk hbb=>?_⟩
  · rw [hm0n]at hj ⊢
    rcases Classical.em (Al (fx ops.toList) ms n0 i j)with h1|h1
    · rw [get0 j hj h1]
      exact(h.obj j (al_i j h1)).Iw (okObjLt j h1) (fun _ _=>⟨rfl,rfl,rfl⟩) (fun k hk=>hk)
    · rw [hA.no j hj h1];trivial
  · rw [hm0n]at hj hk
    have a1:=alive0 j hj (aj.cS lj)
    have a2:=alive0 k hk lk
    rw [get0 j hj a1]at lj
    rw [get0 k hk a2]at lk
    exact h.inj j k (al_i j a1) (al_i k a2) lj lk hbb
 have hr:fP β m0.n nt g' a.tmps:=by
  refine⟨h.jj.size,h.jj.small,fun t ht=>?_,fun t ht=>?_⟩
  · simp only [g']
    split
    · rename_i hl
      obtain⟨e1,e2⟩:=hlook t hl
      rw [←e1,hm0n]
      exact(h.jj.rel t ht).Iw e2 (fun _ _=>⟨rfl,rfl,rfl⟩) (fun k hk=>hk)
    · trivial
  · simp only [g']
    split
    · rename_i hl
      rw [←(hlook t hl).1];exact h.jj.out t ht
    · rfl
 refine pU hO hoi hago hm hr fun u β' w' hu hst=>?_
 have hdn:=hA.dn
 have dget:∀ j,j<(ms i).n→d.m.get j=m0.get j:=fun j hj=>by
  have:=((jw hO hA.run).mono hf0).1.2 j
  unfold Mem.get
  rw [this.2 (hA.ver j hj)]
 let β2:Env:=⟨fun k=>if Mk ms i k then β'.c6 k else β.c6 k,fun k=>if Mk ms i k then β'.base k else β.base k,fun k=>if Mk ms i k then β'.size k else β.size k⟩
 have b2new:∀ k,Mk ms i k → β2.c6 k = β'.c6 k ∧ β2.size k = β'.size k ∧ β2.base k = β'.base k:=fun k hk=>⟨if_pos hk,if_pos hk,if_pos hk⟩
 have b2old:∀ k,¬Mk ms i k → β2.c6 k = β.c6 k ∧ β2.size k = β.size k ∧ β2.base k = β.base k:=fun k hk=>⟨if_neg hk,if_neg hk,if_neg hk⟩
 have notmk:∀ k,zZ ops ms n0 listed k→¬Mk ms i k:=by
  rintro k (h1|⟨e,h1,hl,h2⟩) hk
  · have:=hk.1;omega
  · have:=hT.Jt h1 hilt h2 hk
    subst this
    rw [hun']at hl;cases hl
 have extL:CY (zZ ops ms n0 listed) β β2:=fun k hk=>b2old k (notmk k hk)
 have extN:Ext d.m.n β' β2:=fun k hk=>by
  rw [hdn]at hk
  by_cases hmk:Mk ms i k
  · exact b2new k hmk
  · have hki:k<(ms i).n:=Nat.lt_of_not_le fun hge=>hmk ⟨hge,hk⟩
    have h1:=hst.ext k (by rw [hm0n];exact hki)
    have h2:=b2old k hmk
    exact⟨h2.1.trans h1.1.symm,h2.2.1.trans h1.2.1.symm,h2.2.2.trans h1.2.2.symm⟩
 have liv':∀ k,zZ ops ms n0 (listed.setIfInBounds i true) k↔(zZ ops ms n0 listed k∨Mk ms i k):=by
  intro k
  constructor
  · rintro (h1|⟨e,h1,hl,h2⟩)
    · exact .inl (.inl h1)
    · rw [aM hil]at hl
      by_cases hie:i=e
      · subst hie;exact .inr h2
      · simp only [hie,if_false]at hl
        exact .inl (.inr ⟨e,h1,hl,h2⟩)
  · rintro ((h1|⟨e,h1,hl,h2⟩)|h1)
    · exact .inl h1
    · refine .inr ⟨e,h1,?_,h2⟩
      rw [aM hil]
      split
      · rfl
      · exact hl
    · refine .inr ⟨i,hilt,?_,h1⟩
      rw [aM hil];simp
 have newBlk:∀ k,Mk ms i k→w.heap.size ≤ β'.c6 k:=by
  intro k hk
  obtain⟨_,m0',d',o',ho',hA',e1,e2,_⟩:=hT.mk_one hilt hk
  have hown:(d.m.get k).own=true:=by
   obtain⟨hkn,_⟩:=hT.mk_one hilt hk
   rcases hA.nx with h2|⟨h2,h3,h4⟩
   · obtain⟨h5,h6⟩:=hk;rw [h2]at h6;omega
   · rw [hkn];exact h3
  rcases Nat.lt_or_ge (β'.c6 k) w.heap.size with hlt|hge
  · exfalso
    have hkd:k<d.m.n:=by rw [hdn];exact hk.2
    obtain⟨j,hj,lj,hbj⟩:=hst.rR (β'.c6 k) hlt ⟨k,hkd,hown,rfl⟩
    rw [hm0n]at hj
    have hj':j<d.m.n:=by rw [hdn];omega
    have hbe : β'.c6 k = β'.c6 j:=by rw [(hst.ext j (by rw [hm0n];exact hj)).1,hbj]
    have:=hst.rel.inj k j hkd hj' hown (by rw [dget j hj];exact aj.cS lj) hbe
    have:=hk.1
    omega
  · exact hge
 have newGet:∀ k,Mk ms i k→d.m.get k=(ms ops.size).get k∧(d.m.get k).own=true:=by
  intro k hk
  rcases hA.nx with h2|⟨h2,h3,h4⟩
  · obtain⟨h5,h6⟩:=hk;rw [h2]at h6;omega
  · have h7:=Mem.bD h2
    have hki:k=(ms i).n:=by obtain⟨h5,h6⟩:=hk;omega
    refine⟨?_,by rw [hki];exact h3⟩
    rw [hT.same k ops.size (i+1) (by omega) (Nat.le_refl _) hk.2,hki]
    show _=((ms (i+1)).fV (ms i).n).obj
    rw [h7.2.2.1]
 have liveBlk:∀ k,zZ ops ms n0 listed k→((ms ops.size).get k).live=true → β.c6 k<w.heap.size:=fun k hk hl=>(h.obj k hk).lt hl
 refine hK _ _ β2 (fun t=>if oi.dst=some t then d.x else g t) ?_
 refine {size:=by simp [h.size],cl:=?_,dfs:=by rw [cV,h.dfs],ext:=fun k hk=>?_,obj:=fun k hk=>?_,inj:=fun j k hj hk lj lk hbb=>?_,jj:=?_,gok:=fun t=>?_,g1:=fun k ok t hk hok ht=>?_,g2:=fun t ht=>?_,os:=hst.os.trans h.os,tape:=hst.tape.trans h.tape,output:=hst.output.trans h.output,heap:=by have:=hst.size;have:=h.heap;omega,frame:=fun k hk hi=>?_,new:=fun e k he hl hk=>?_}
 · intro k j ha hk
   rw [aM hil]at hk ⊢
   by_cases hij:i=j
   · simp [hij]
   · simp only [hij,if_false]
     by_cases hik:i=k
     · subst hik;exact hanc' j ha
     · simp only [hik,if_false]at hk
       exact h.cl k j ha hk
 · have h1:=h.ext k hk
   have h2:=extL k (.inl hk)
   exact⟨h2.1.trans h1.1,h2.2.1.trans h1.2.1,h2.2.2.trans h1.2.2⟩
 · rcases(liv' k).1 hk with hk|hk
   · have e2:=extL k hk
     rw [e2.1,e2.2.1,e2.2.2]
     rcases Classical.em (Al (fx ops.toList) ms n0 i k)with h1|h1
     · have hki:=al_ilt k h1
       have h2:=hst.rel.obj k (by rw [hdn];omega)
       have h3:=hst.ext k (by rw [hm0n];exact hki)
       rw [dget k hki,get0 k hki h1,h3.1,h3.2.1,h3.2.2]at h2
       exact h2.ext extN (by rw [hdn];exact hmf)
     · have hold:=(h.obj k hk).Iw (okObj k hk) extL liv_lt
       cases hlv:((ms ops.size).get k).live with
       | false=>
         cases hg:(ms ops.size).get k with
         | dead=>trivial
         | cells vs elem opn ro=>rw [hg]at hlv;simp [aj.live]at hlv
         | map es=>rw [hg]at hlv;simp [aj.live]at hlv
       | true=>
         rw [hst.frame (β.c6 k) (liveBlk k hk hlv) ?_]
         · exact hold
         · rintro ⟨j,hj,lj,hbj⟩
           rw [hm0n]at hj
           have a1:=alive0 j hj (aj.cS lj)
           rw [get0 j hj a1]at lj
           have:=h.inj j k (al_i j a1) hk lj hlv hbj
           rw [this]at a1
           exact h1 a1
   · have e2:=b2new k hk
     rw [e2.1,e2.2.1,e2.2.2,←(newGet k hk).1]
     exact(hst.rel.obj k (by rw [hdn];exact hk.2)).ext extN (by rw [hdn];exact hmf)
 · rcases(liv' j).1 hj with hj|hj <;> rcases(liv' k).1 hk with hk|hk
   · rw [(extL j hj).1,(extL k hk).1]at hbb
     exact h.inj j k hj hk lj lk hbb
   · rw [(extL j hj).1,(b2new k hk).1]at hbb
     have:=liveBlk j hj (aj.cS lj)
     have:=newBlk k hk
     omega
   · rw [(b2new j hj).1,(extL k hk).1]at hbb
     have:=liveBlk k hk lk
     have:=newBlk j hj
     omega
   · rw [(hT.mk_one hilt hj).1,(hT.mk_one hilt hk).1]
 · refine fP.put ⟨h.jj.size,h.jj.small,fun t ht=>(h.jj.rel t ht).Iw (h.gok t) extL liv_lt,h.jj.out⟩ oi.dst (hu.ext extN (by rw [hdn];exact hmf)) (fun t ht=>hs.dst i oi t hoi ht)
 · by_cases hd:oi.dst=some t
   · simp only [hd,if_true]
     refine XV.bX (fun k hk=>(liv' k).2 ?_) hA.ok
     rcases hk with hk|hk
     · exact .inl (al_i k hk)
     · exact .inr hk
   · simp only [hd,if_false]
     exact XV.bX (fun k hk=>(liv' k).2 (.inl hk)) (h.gok t)
 · rw [aM hil]at hk
   by_cases hik:i=k
   · subst hik
     rw [hoi]at hok
     cases hok
     rw [if_pos ht,hA.xs]
   · simp only [hik,if_false]at hk
     have:oi.dst≠some t:=fun e=>hik (hs.uniq i k oi ok t hoi hok e ht)
     rw [if_neg this]
     exact h.g1 k ok t hk hok ht
 · have hi':(listed.setIfInBounds i true).getD i false=true:=by rw [aM hil];simp
   rw [if_neg (ht i oi hi' hoi)]
   refine h.g2 t (fun k ok hk hok=>ht k ok ?_ hok)
   rw [aM hil]
   split
   · rfl
   · exact hk
 · rw [hst.frame k (by have:=h.heap;omega) ?_]
   · exact h.frame k hk hi
   · rintro ⟨j,hj,lj,hbj⟩
     rw [hm0n]at hj
     have a1:=alive0 j hj (aj.cS lj)
     rw [get0 j hj a1]at lj
     rcases al_i j a1 with h1|⟨e,h1,hl,h2⟩
     · refine hi ⟨j,by omega,?_,?_⟩
       · rw [←hT.same j ops.size 0 (by omega) (Nat.le_refl _) (by omega)];exact lj
       · rw [←hbj,(h.ext j h1).1]
     · have:=h.new e j h1 hl h2
       omega
 · rw [aM hil]at hl
   by_cases hie:i=e
   · subst hie
     rw [(b2new k hk).1]
     have:=newBlk k hk
     have:=h.heap
     omega
   · simp only [hie,if_false]at hl
     rw [(extL k (.inr ⟨e,he,hl,hk⟩)).1]
     exact h.new e k he hl hk
theorem z8.any (hO:aN P O) (hs:dm ops nt) (hnt:nt<1000000) (hT:lL O P ops nt n0 rs ms xs) {β0:Env} {w0:World}(hR0:Rel β0 (ms 0) w0) (hr0:∀ t,((rs 0).get .undef t).jO (· < n0)) {dfs:List Deferred} {Q:Exit→Act→World→Prop}
 (hQ:sR β0 (ms 0) w0 nt dfs (rs ops.size) (ms ops.size) (Q .normal)):∀(fuel:Nat) (listed:Array Bool) (a:Act) (w:World) (β : Env) (g:Nat→XV),z8 ops nt n0 rs ms xs β0 w0 dfs listed a w β g →
 (List.range ops.size).countP (fun i=>listed.getD i false == false)≤fuel→wpAny P .any ops Q fuel listed a w:=by
 have fin:∀(listed:Array Bool) (a:Act) (w:World) (β : Env) (g:Nat→XV),z8 ops nt n0 rs ms xs β0 w0 dfs listed a w β g→(∀ i,i<ops.size→listed.getD i false=true)→Q .normal a w:=by
  intro listed a w β g h hall
  have hz:=hT.z
  have hle:=hT.B_ 0 ops.size (by omega) (Nat.le_refl _)
  have liv:∀ j,j<(ms ops.size).n→zZ ops ms n0 listed j:=fun j hj=>by
   rcases hT.cov j hj with h1|⟨e,h1,h2⟩
   · exact .inl h1
   · exact .inr ⟨e,h1,hall e h1,h2⟩
  obtain⟨hr1,hr2⟩:=lL.jj hs hnt hT ops.size (Nat.le_refl _)
  have hge:g=(rs ops.size).get .undef:=by
   funext t
   by_cases hw:∃(j:Nat) (oj:Oper),ops[j]? = some oj∧oj.dst=some t
   · obtain⟨j,oj,hj,hdj⟩:=hw
     have hjl:j<ops.size:=(Array.getElem?_eq_some_iff.1 hj).1
     rw [h.g1 j oj t (hall j hjl) hj hdj,hr1 j oj t hjl hj hdj]
   · have hnone:∀(k:Nat) (ok:Oper),ops[k]? = some ok→ok.dst≠some t:=fun k ok hok e=>hw ⟨k,ok,hok,e⟩
     rw [h.g2 t (fun k ok _ hok=>hnone k ok hok),hr2 t (fun k ok _ hok=>hnone k ok hok)]
  have hfr:∀ k,k≤ops.size→(ms k).b_:=by
   intro k
   induction k with
   | zero=>intro _;exact hR0.fresh
   | succ k ih=>
     intro hk
     obtain⟨o,m0,d,_,hA⟩:=hT.get k (by omega)
     rcases hA.nx with h1|⟨h1,_⟩
     · rw [h1];exact ih (by omega)
     · exact b_.push (ih (by omega)) h1
  refine hQ a β w ?_ h.dfs ⟨hle,fun j hj=>h.ext j (by omega),⟨hT.bnd,hfr _ (Nat.le_refl _),fun j hj=>h.obj j (liv j hj),fun i j hi hj=>h.inj i j (liv i hi) (liv j hj)⟩,h.os,h.tape,h.output,h.heap,h.frame,fun k hk hi=>?_⟩
  · have:=h.jj;rw [hge]at this;exact this
  · obtain⟨j,hj,lj,hbj⟩:=hi
    rcases hT.cov j hj with h1|⟨e,h1,h2⟩
    · refine⟨j,by omega,?_,?_⟩
      · rw [←hT.same j ops.size 0 (by omega) (Nat.le_refl _) (by omega)];exact lj
      · rw [←hbj,(h.ext j h1).1]
    · have:=h.new e j h1 (hall e h1) h2
      omega
 intro fuel
 induction fuel with
 | zero=>
   intro listed a w β g h hc
   have hall:∀ i,i<ops.size→listed.getD i false=true:=fun i hi=>by
    cases hx:listed.getD i false
    · have:0<(List.range ops.size).countP (fun i=>listed.getD i false == false):=List.countP_pos_iff.2 ⟨i,List.mem_range.2 hi,by simp [hx]⟩
      omega
    · rfl
   refine⟨?_,fin listed a w β g h hall⟩
   apply List.eq_nil_iff_forall_not_mem.2
   intro i hi
   obtain⟨hun,oi,hoi,_⟩:=mem_ready.1 hi
   have hilt:i<ops.size:=(Array.getElem?_eq_some_iff.1 hoi).1
   rw [ct (by rw [h.size];exact hilt),hall i hilt]at hun
   cases hun
 | succ fuel ih=>
   intro listed a w β g h hc
   refine⟨fun hnil=>fin listed a w β g h (fun i hi=>?_),fun i hi=>?_⟩
   · induction i using Nat.strongRecOn with
     | _ i ihi=>
       cases hx:listed.getD i false
       · exfalso
         have ho:ops[i]? = some ops[i]:=by simp [hi]
         have:i∈Region.ready .any ops listed:=mem_ready.2 ⟨by rw [ct (by rw [h.size];exact hi)];exact hx,ops[i],ho,fun e he hb=>by
          have hlt:=hs.back i ops[i] ho e he hb
          exact ihi e.on hlt (by omega)⟩
         rw [hnil]at this
         cases this
       · rfl
   · obtain⟨hun,oi,hoi,_⟩:=mem_ready.1 hi
     have hilt:i<ops.size:=(Array.getElem?_eq_some_iff.1 hoi).1
     have hil:i<listed.size:=by rw [h.size];exact hilt
     have hcnt:=je (p:=fun j=>(listed.setIfInBounds i true).getD j false == false) (q:=fun j=>listed.getD j false == false) (i:=i) (fun j hj=>by
      rw [aM hil]at hj
      split at hj
      · simp at hj
      · exact hj) (by rw [←ct hil,hun];rfl) (by rw [aM hil];simp) (List.range ops.size) (List.mem_range.2 hilt)
     exact h.step hO hs hnt hT hR0 hr0 hi fun a' w' β' g' h'=>ih _ a' w' β' g' h' (by omega)
end
theorem Bo {O:df} {P:Program}(hO:aN P O) (hP:P.follows .mixedOrders=true) {ops:Array Oper} {nt id:Nat} {r r':T XV} {m m':Mem}(h:qL O P ops nt r m=some (r',m')) {β : Env} {w:World} {a:Act}(hr:jz β m.n nt r a.tmps) (hm:Rel β m w)
 {Q:Exit→Act→World→Prop}(hq:sR β m w nt a.defers r' m' (Q .normal)):(Code.region id ops true).wp P Q a w:=by
 unfold qL at h
 split at h
 · rename_i hst
   have hs:=iN hst
   obtain⟨rs,ms,xs,h1,_,h3,h4,h5,h6,h7,h8⟩:=qO (fun _=>r) (fun _=>m) (fun _ => .undef) h rfl rfl hm.bnd (fun k hk=>by omega) (Nat.le_refl _) (fun j i=>by simp) (fun k hk=>by omega) (fun i hi => .inl hi)
   have e1:rs 0=r:=(h1 0 (Nat.le_refl _)).1
   have e2:ms 0=m:=(h1 0 (Nat.le_refl _)).2
   have hsz:ops.toList.length=ops.size:=by simp
   rw [hsz,Nat.zero_add]at h3 h4 h6 h7
   have hT:lL O P ops nt m.n rs ms xs:=⟨by rw [e2],h6,by rw [h4];exact h5,by rw [h4];exact h7,fun k o ho=>by
    have:=h8 k o (by simpa using ho)
    rw [Nat.zero_add]at this
    exact this⟩
   have hr0:∀ t,((rs 0).get .undef t).jO (· < m.n):=fun t=>by
    rw [e1]
    by_cases ht:t<nt
    · exact(hr.rel t ht).jO
    · rw [hr.out t (by omega)];trivial
   have liv0:∀ k,zZ ops ms m.n (Array.replicate ops.size false) k→k<m.n:=by
    rintro k (h1|⟨e,h1,hl,_⟩)
    · exact h1
    · exfalso
      by_cases hlt:e<ops.size <;> simp [Array.getD_eq_getD_getElem?,hlt]at hl
   have hle:=hT.B_ 0 ops.size (by omega) (Nat.le_refl _)
   rw [e2]at hle
   have hg0:∀ k,k<m.n→(ms ops.size).get k=m.get k:=fun k hk=>by
    rw [hT.same k ops.size 0 (by omega) (Nat.le_refl _) (by rw [e2];exact hk),e2]
   refine wp_region_any hP ?_
   refine z8.any hO hs hr.small hT (by rw [e2];exact hm) hr0 (β0 := β) (w0:=w) (dfs:=a.defers) (Q:=Q) (by rw [h3,h4,e2];exact hq) _ _ a _ β ((rs 0).get .undef) ?_ ?_
   · refine {size:=by simp,cl:=fun i j ha hi=>?_,dfs:=rfl,ext:=Ext.refl _ _,obj:=fun k hk=>?_,inj:=fun i j hi hj li lj hb=>?_,jj:=?_,gok:=fun t=>XV.bX (fun k hk => .inl hk) (hr0 t),g1:=fun i o t hi=>?_,g2:=fun _ _=>rfl,os:=rfl,tape:=rfl,output:=rfl,heap:=Nat.le_refl _,frame:=fun _ _ _=>rfl,new:=fun e j he hl _=>?_}
     · exfalso
       by_cases hlt:i<ops.size <;> simp [Array.getD_eq_getD_getElem?,hlt]at hi
     · have hk':=liv0 k hk
       rw [hg0 k hk']
       exact(hm.obj k hk').ext (Ext.refl _ _) hle
     · have hi':=liv0 i hi
       have hj':=liv0 j hj
       rw [hg0 i hi']at li
       rw [hg0 j hj']at lj
       exact hm.inj i j hi' hj' li lj hb
     · rw [e1];exact fP.ext hr (Ext.refl _ _) hle
     · exfalso
       by_cases hlt:i<ops.size <;> simp [Array.getD_eq_getD_getElem?,hlt]at hi
     · exfalso
       by_cases hlt:e<ops.size <;> simp [Array.getD_eq_getD_getElem?,hlt]at hl
   · exact Nat.le_trans List.countP_le_length (by simp)
 · cases h
def jn (O:df) (P:Program) (ops:Array Oper) (nt:Nat) (r:T XV) (m:Mem):Option (T XV × Mem):=
 match gE O P ops nt r m with
 | some x=>some x
 | .none=>qL O P ops nt r m
theorem oU {O:df} {P:Program}(hO:aN P O) (hP:P.follows .mixedOrders=true) {ops:Array Oper} {nt id:Nat} {r r':T XV} {m m':Mem}(h:jn O P ops nt r m=some (r',m')) {β : Env} {w:World} {a:Act}(hr:jz β m.n nt r a.tmps) (hm:Rel β m w)
 {Q:Exit→Act→World→Prop}(hq:sR β m w nt a.defers r' m' (Q .normal)):(Code.region id ops true).wp P Q a w:=by
 unfold jn at h
 split at h
 · rename_i x hx
   cases h
   exact Bm hO hP hx hr hm hq
 · exact Bo hO hP h hr hm hq
theorem Bp {O:df} {P:Program}(hO:aN P O) {ops:Array Oper} {nt:Nat} {r r':T XV} {m m':Mem}(h:jn O P ops nt r m=some (r',m')):pZ m m':=by
 unfold jn at h
 split at h
 · rename_i x hx
   cases h
   exact zI hO hx
 · unfold qL at h
   split at h
   · exact se h
   · cases h
theorem kJ {O:df} {P:Program} {ops:Array Oper} {nt:Nat} {r:T XV} {m:Mem} {x:T XV × Mem}(h:gE O P ops nt r m=some x):jn O P ops nt r m=some x:=by unfold jn;rw [h]
end Go.Xm
namespace Go.Xm
variable [az]
inductive XR where
 | norm (r:T XV) (m:Mem)
 | exit (id:Nat) (r:T XV) (m:Mem)
 | goto (l:Nat) (r:T XV) (m:Mem)
 | ret (r:T XV) (m:Mem)
inductive uY where
 | code (c:Code)
 | jump (c rest:Code)
 | round (c:Code)
def jU (O:df) (P:Program) (nt:Nat) (self:uY→T XV→Mem→Option XR):uY→T XV→Mem→Option XR
 | .jump c rest,r,m=>match self (.code rest) r m with
   | some (.goto l r m)=>match findLabel c l with
     | some rest'=>self (.jump c rest') r m
     | .none=>some (.goto l r m)
   | x=>x
 | .code .skip,r,m=>some (.norm r m)
 | .code (.label _),r,m=>some (.norm r m)
 | .code (.region _ ops false),r,m=>match pj O P ops nt ops.toList r m with
   | some (r,m)=>some (.norm r m)
   | .none => .none
 | .code (.region _ ops true),r,m=>match jn O P ops nt r m with
   | some (r,m)=>some (.norm r m)
   | .none => .none
 | .code (.seq a b),r,m=>match self (.code a) r m with
   | some (.norm r m)=>self (.code b) r m
   | x=>x
 | .code (.cond c a b),r,m=>match ai (r.get .undef) c with
   | .one (.bool true)=>self (.code a) r m
   | .one (.bool false)=>self (.code b) r m
   | _ => .none
 | .code (.block id c),r,m=>match self (.code c) r m with
   | some (.exit id' r m)=>if id'=id then some (.norm r m)else some (.exit id' r m)
   | x=>x
 | .code (.loop c),r,m=>self (.round c) r m
 | .round c,r,m=>match self (.code c) r m with
   | some (.norm r m)=>self (.round c) r m
   | x=>x
 | .code (.exit id),r,m=>some (.exit id r m)
 | .code (.goto l),r,m=>some (.goto l r m)
 | .code (.scope c),r,m=>self (.jump c c) r m
 | .code .ret,r,m=>some (.ret r m)
 | .code _,_,_ => .none
def Ig (O:df) (P:Program) (nt:Nat):Nat→uY→T XV→Mem→Option XR
 | 0=>fun _ _ _ => .none
 | n+1=>jU O P nt (Ig O P nt n)
def XR.mem:XR→Mem
 | .norm _ m=>m
 | .exit _ _ m=>m
 | .goto _ _ m=>m
 | .ret _ m=>m
def XR.jj:XR→T XV
 | .norm r _=>r
 | .exit _ r _=>r
 | .goto _ r _=>r
 | .ret r _=>r
def XR.ex:XR→Exit
 | .norm _ _ => .normal
 | .exit id _ _ => .exit id
 | .goto l _ _ => .goto l
 | .ret _ _ => .ret
def BJ (β : Env) (m:Mem) (w:World) (nt:Nat) (dfs:List Deferred) (x:XR) (Q:Exit→Act→World→Prop):Prop:=
 ∀ a' β' w',jz β' x.mem.n nt x.jj a'.tmps→a'.defers=dfs→Step β m w β' x.mem w'→Q x.ex a' w'
theorem BJ.after {β β':Env} {m m':Mem} {w w':World} {nt:Nat} {dfs:List Deferred} {x:XR} {Q:Exit→Act→World→Prop}(h:BJ β m w nt dfs x Q) (hs:Step β m w β' m' w'):BJ β' m' w' nt dfs x Q:=
 fun a' β'' w'' h1 h2 h3=>h a' β'' w'' h1 h2 (hs.trans h3)
def u0 (P:Program) (c:uY) (Q:Exit→Act→World→Prop) (a:Act) (w:World):Prop:=
 match c with
 | .code c=>c.wp P Q a w
 | .jump c rest=>∀(b:Frame) (k:List Item) (cs:List Frame),∃ e a' w',Q e a' w'∧Arrives P (lone (b.at a (.code rest :: .inScope c::k)) cs w) b k cs e a' w'
 | .round c=>∀(b:Frame) (k:List Item) (cs:List Frame),∃ e a' w',Q e a' w'∧Arrives P (lone (b.at a (.code c :: .inLoop c::k)) cs w) b k cs e a' w'
def Ac (P:Program) (nt:Nat) (self:uY→T XV→Mem→Option XR):Prop:=
 ∀(c:uY) (r:T XV) (m:Mem) (x:XR),self c r m=some x→pZ m x.mem∧∀(β : Env) (w:World) (a:Act) (Q:Exit→Act→World→Prop),jz β m.n nt r a.tmps→Rel β m w→BJ β m w nt a.defers x Q→u0 P c Q a w
theorem Ih {O:df} {P:Program}(hO:aN P O) (hP:P.follows .mixedOrders=true) {nt:Nat} {self:uY→T XV→Mem→Option XR}(hself:Ac P nt self):Ac P nt (jU O P nt self):=by
 intro c r m x h
 unfold jU at h
 split at h
 · -- jump
   rename_i c rest
   split at h
   · rename_i l r1 m1 h1
     obtain⟨hc1,hw1⟩:=hself _ _ _ _ h1
     split at h
     · rename_i rest' hf
       obtain⟨hc2,hw2⟩:=hself _ _ _ _ h
       refine⟨hc1.trans hc2,fun β w a Q hr hm hq=>?_⟩
       intro b k cs
       have:=hw1 β w a (fun e a' w'=>e = .goto l∧u0 P (.jump c rest') Q a' w') hr hm (fun a' β' w' h1 h2 h3=>⟨rfl,hw2 β' w' a' Q h1 h3.rel (by rw [h2];exact hq.after h3)⟩) b (.inScope c::k) cs
       obtain⟨e,a₁,w₁,⟨rfl,hmn⟩,harr⟩:=this
       obtain⟨e₂,a₂,w₂,hq₂,harr₂⟩:=hmn b k cs
       have hg:gotoIn l (.inScope c::k)=some (.code rest' :: .inScope c::k):=by simp [gotoIn,hf]
       exact⟨e₂,a₂,w₂,hq₂,.of_steps (harr _ hg) harr₂⟩
     · rename_i hf
       cases h
       refine⟨hc1,fun β w a Q hr hm hq=>?_⟩
       intro b k cs
       obtain⟨e,a₁,w₁,⟨rfl,hq1⟩,harr⟩:=hw1 β w a (fun e a' w'=>e = .goto l∧Q (.goto l) a' w') hr hm (fun a' β' w' h1 h2 h3=>⟨rfl,hq a' β' w' h1 h2 h3⟩) b (.inScope c::k) cs
       exact⟨.goto l,a₁,w₁,hq1,fun k' hk=>harr k' (by simp [gotoIn,hf,hk])⟩
   · rename_i hno
     obtain⟨hc1,hw1⟩:=hself _ _ _ _ h
     refine⟨hc1,fun β w a Q hr hm hq=>?_⟩
     intro b k cs
     have hng:∀ l,x.ex ≠ .goto l:=fun l he=>by
      cases x with
      | goto l' r' m'=>exact hno l' r' m' h
      | _=>cases he
     obtain⟨e,a₁,w₁,⟨rfl,hq1⟩,harr⟩:=hw1 β w a (fun e a' w'=>e=x.ex∧Q e a' w') hr hm (fun a' β' w' h1 h2 h3=>⟨rfl,hq a' β' w' h1 h2 h3⟩) b (.inScope c::k) cs
     cases x with
     | norm r' m'=>exact⟨.normal,a₁,w₁,hq1,Steps.trans harr (.one step_inScope)⟩
     | exit id r' m'=>exact⟨.exit id,a₁,w₁,hq1,fun k' hk=>harr k' (by simp [exitTo,hk])⟩
     | goto l r' m'=>exact absurd rfl (hng l)
     | ret r' m'=>exact⟨.ret,a₁,w₁,hq1,harr⟩
 · cases h
   exact⟨.same _,fun β w a Q hr hm hq=>wp_skip (hq a β w hr rfl (Step.refl hm))⟩
 · cases h
   exact⟨.same _,fun β w a Q hr hm hq=>wp_label (hq a β w hr rfl (Step.refl hm))⟩
 · rename_i id ops
   split at h
   · rename_i r1 m1 h1
     cases h
     exact⟨v_ hO h1,fun β w a Q hr hm hq=>wp_region_list (uo hO h1 hr hm hq)⟩
   · cases h
 · rename_i id ops
   split at h
   · rename_i r1 m1 h1
     cases h
     exact⟨Bp hO h1,fun β w a Q hr hm hq=>oU hO hP h1 hr hm hq⟩
   · cases h
 · rename_i c1 c2
   split at h
   · rename_i r1 m1 h1
     obtain⟨hc1,hw1⟩:=hself _ _ _ _ h1
     obtain⟨hc2,hw2⟩:=hself _ _ _ _ h
     refine⟨hc1.trans hc2,fun β w a Q hr hm hq=>wp_seq ?_⟩
     exact hw1 β w a _ hr hm (fun a' β' w' k1 k2 k3=>hw2 β' w' a' Q k1 k3.rel (by rw [k2];exact hq.after k3))
   · rename_i hno
     obtain⟨hc1,hw1⟩:=hself _ _ _ _ h
     refine⟨hc1,fun β w a Q hr hm hq=>wp_seq ?_⟩
     refine hw1 β w a _ hr hm (fun a' β' w' k1 k2 k3=>?_)
     cases x with
     | norm r' m'=>exact(hno r' m' h).elim
     | exit id r' m'=>exact hq a' β' w' k1 k2 k3
     | goto l r' m'=>exact hq a' β' w' k1 k2 k3
     | ret r' m'=>exact hq a' β' w' k1 k2 k3
 · rename_i cd c1 c2
   split at h
   · rename_i hcd
     obtain⟨hc1,hw1⟩:=hself _ _ _ _ h
     refine⟨hc1,fun β w a Q hr hm hq=>?_⟩
     have he:=hr.eval cd
     rw [hcd]at he
     exact wp_cond_true he.2 (hw1 β w a Q hr hm hq)
   · rename_i hcd
     obtain⟨hc1,hw1⟩:=hself _ _ _ _ h
     refine⟨hc1,fun β w a Q hr hm hq=>?_⟩
     have he:=hr.eval cd
     rw [hcd]at he
     exact wp_cond_false he.2 (hw1 β w a Q hr hm hq)
   · cases h
 · rename_i id c
   split at h
   · rename_i id' r1 m1 h1
     obtain⟨hc1,hw1⟩:=hself _ _ _ _ h1
     split at h
     · rename_i hid
       cases h
       refine⟨hc1,fun β w a Q hr hm hq=>wp_block ?_⟩
       exact hw1 β w a _ hr hm (fun a' β' w' k1 k2 k3=>by
        show(if id'=id then Q .normal a' w' else Q (.exit id') a' w')
        rw [if_pos hid]
        exact hq a' β' w' k1 k2 k3)
     · rename_i hid
       cases h
       refine⟨hc1,fun β w a Q hr hm hq=>wp_block ?_⟩
       exact hw1 β w a _ hr hm (fun a' β' w' k1 k2 k3=>by
        show(if id'=id then Q .normal a' w' else Q (.exit id') a' w')
        rw [if_neg hid]
        exact hq a' β' w' k1 k2 k3)
   · rename_i hno
     obtain⟨hc1,hw1⟩:=hself _ _ _ _ h
     refine⟨hc1,fun β w a Q hr hm hq=>wp_block ?_⟩
     refine hw1 β w a _ hr hm (fun a' β' w' k1 k2 k3=>?_)
     cases x with
     | norm r' m'=>exact hq a' β' w' k1 k2 k3
     | exit id r' m'=>exact(hno id r' m' h).elim
     | goto l r' m'=>exact hq a' β' w' k1 k2 k3
     | ret r' m'=>exact hq a' β' w' k1 k2 k3
 · rename_i c
   obtain⟨hc1,hw1⟩:=hself _ _ _ _ h
   refine⟨hc1,fun β w a Q hr hm hq=>?_⟩
   intro b k cs
   obtain⟨e,a₁,w₁,hq1,harr⟩:=hw1 β w a Q hr hm hq b k cs
   exact⟨e,a₁,w₁,hq1,.of_steps (.one step_loop) harr⟩
 · rename_i c
   split at h
   · rename_i r1 m1 h1
     obtain⟨hc1,hw1⟩:=hself _ _ _ _ h1
     obtain⟨hc2,hw2⟩:=hself _ _ _ _ h
     refine⟨hc1.trans hc2,fun β w a Q hr hm hq=>?_⟩
     intro b k cs
     have:=hw1 β w a (fun e a' w'=>e = .normal∧u0 P (.round c) Q a' w') hr hm (fun a' β' w' k1 k2 k3=>⟨rfl,hw2 β' w' a' Q k1 k3.rel (by rw [k2];exact hq.after k3)⟩)
     obtain⟨e,a₁,w₁,⟨rfl,hlp⟩,harr⟩:=this b (.inLoop c::k) cs
     obtain⟨e₂,a₂,w₂,hq₂,harr₂⟩:=hlp b k cs
     exact⟨e₂,a₂,w₂,hq₂,.of_steps (Steps.trans harr (.one step_inLoop)) harr₂⟩
   · rename_i hno
     obtain⟨hc1,hw1⟩:=hself _ _ _ _ h
     refine⟨hc1,fun β w a Q hr hm hq=>?_⟩
     intro b k cs
     have:=hw1 β w a (fun e a' w'=>e=x.ex∧Q e a' w') hr hm (fun a' β' w' h1 h2 h3=>⟨rfl,hq a' β' w' h1 h2 h3⟩)
     obtain⟨e,a₁,w₁,⟨rfl,hq1⟩,harr⟩:=this b (.inLoop c::k) cs
     cases x with
     | norm r' m'=>exact(hno r' m' h).elim
     | exit id r' m'=>exact⟨_,a₁,w₁,hq1,.pass (x := .inLoop c) rfl (fun _ _ => .inl (by simp [XR.ex])) harr⟩
     | goto l r' m'=>exact⟨_,a₁,w₁,hq1,.pass (x := .inLoop c) rfl (fun _ _ => .inl (by simp [XR.ex])) harr⟩
     | ret r' m'=>exact⟨_,a₁,w₁,hq1,.pass (x := .inLoop c) rfl (fun _ _ => .inl (by simp [XR.ex])) harr⟩
 · cases h
   exact⟨.same _,fun β w a Q hr hm hq=>wp_exit (hq a β w hr rfl (Step.refl hm))⟩
 · cases h
   exact⟨.same _,fun β w a Q hr hm hq=>wp_goto (hq a β w hr rfl (Step.refl hm))⟩
 · rename_i c
   obtain⟨hc1,hw1⟩:=hself _ _ _ _ h
   refine⟨hc1,fun β w a Q hr hm hq=>?_⟩
   intro b k cs
   obtain⟨e,a₁,w₁,hq1,harr⟩:=hw1 β w a Q hr hm hq b k cs
   exact⟨e,a₁,w₁,hq1,.of_steps (.one step_scope) harr⟩
 · cases h
   exact⟨.same _,fun β w a Q hr hm hq=>wp_ret (hq a β w hr rfl (Step.refl hm))⟩
 · cases h
end Go.Xm
namespace Go.Xm
variable [az]
def uv (P:Program) (g:Nat→XV) (m:Mem):ResultVar→Option X1
 | .tmp t=>pS (g t)
 | .cell a t=>match g a with
   | .one (.ptr i off)=>match m.get i with
     | .cells vs _ _ _=>eR P t vs off
     | _ => .none
   | _ => .none
def gu (P:Program) (g:Nat→XV) (m:Mem):List ResultVar→Option (List X1)
 | []=>some []
 | v :: l=>match uv P g m v with
   | some x=>match gu P g m l with
     | some xs=>some (x::xs)
     | .none => .none
   | .none => .none
def dD (P:Program) (fn:Func) (g:Nat→XV) (m:Mem):Option XV:=
 match gu P g m fn.results.toList with
 | some [x]=>some x.rr
 | some xs=>some (.tup xs)
 | .none => .none
def JN (tmps:Array Value):ResultVar→Sem Value
 | .tmp t=>pure (tmps.getD t undef)
 | .cell a t=>do loadVar t (←asAddr (tmps.getD a undef))
theorem zN {P:Program} {g:Nat→XV} {m:Mem} {v:ResultVar} {x:X1}(h:uv P g m v=some x) {β : Env} {w:World} {nt:Nat} {tmps:Array Value}(hm:Rel β m w) (hr:fP β m.n nt g tmps) :
 (JN tmps v).run P w = .ok (x.den β) w∧x.ok m.n:=by
 have hget:∀ t,g t ≠ .undef→aS β m.n (g t) (tmps.getD t undef):=fun t hne=>by
  rcases Nat.lt_or_ge t nt with h'|h'
  · exact hr.rel t h'
  · exact absurd (hr.out t h') hne
 unfold uv at h
 split at h
 · rename_i t
   obtain⟨h1,h2⟩:=qH h (hget t (fun e=>by rw [e]at h;cases h))
   refine⟨?_,h1⟩
   simp only [JN,h2,Sem.run_pure]
 · rename_i a t
   split at h
   · rename_i i off ha
     obtain⟨h1,h2⟩:=(by rw [←ha];exact hget a (fun e=>by rw [e]at ha;cases ha):aS β m.n (.one (.ptr i off)) (tmps.getD a undef))
     split at h
     · rename_i vs e opn ro hg
       have hob:=hm.obj i h1
       rw [hg]at hob
       obtain⟨h3,h4⟩:=pk (P:=P) h hob
       refine⟨?_,h4⟩
       simp only [JN,h2,XC.den,asAddr,Sem.run_bind,Sem.run_pure,Result.andThen_ok,h3]
     · cases h
   · cases h
theorem i5 {P:Program} {g:Nat→XV} {m:Mem} {β : Env} {w:World} {nt:Nat} {tmps:Array Value}(hm:Rel β m w) (hr:fP β m.n nt g tmps):∀ {l:List ResultVar} {xs:List X1},gu P g m l=some xs →
 (l.mapM (JN tmps)).run P w = .ok (xs.map (·.den β)) w∧∀ x∈xs,x.ok m.n
 | [],xs,h=>by simp only [gu,Option.some.injEq]at h;subst h;exact⟨rfl,by simp⟩
 | v :: l,xs,h=>by
   unfold gu at h
   split at h
   · rename_i x hx
     split at h
     · rename_i xs' hxs
       cases h
       obtain⟨h1,h2⟩:=zN hx hm hr
       obtain⟨h3,h4⟩:=i5 hm hr hxs
       refine⟨by simp only [List.mapM_cons,Sem.run_bind,h1,Result.andThen_ok,h3,Sem.run_pure,List.map_cons],fun y hy=>?_⟩
       rcases List.mem_cons.1 hy with rfl|hy
       · exact h2
       · exact h4 y hy
     · cases h
   · cases h
theorem oo {P:Program} {fn:Func} {g:Nat→XV} {m:Mem} {x:XV}(h:dD P fn g m=some x) {β : Env} {w:World} {nt:Nat} {tmps:Array Value}(hm:Rel β m w) (hr:fP β m.n nt g tmps) :
 ∃ v,(results fn tmps).run P w = .ok v w∧aS β m.n x v:=by
 have hrun:∀ xs,gu P g m fn.results.toList=some xs→(results fn tmps).run P w = .ok (if h:(xs.map (·.den β)).toArray.size=1 then(xs.map (·.den β)).toArray[0]else .tuple (xs.map (·.den β)).toArray) w:=by
  intro xs hxs
  obtain⟨h1,_⟩:=i5 hm hr hxs
  unfold results
  simp only [Sem.run_bind]
  rw [Array.mapM_eq_mapM_toList]
  simp only [Sem.run_map]
  exact congrArg (fun(q:Result (List Value))=>(q.andThen fun a w'=>Result.ok a.toArray w').andThen fun a w'=>Sem.run P (pure (if h:a.size=1 then a[0]else Value.tuple a)) w') h1
 unfold dD at h
 split at h
 · rename_i y hy
   cases h
   obtain⟨_,h2⟩:=i5 hm hr hy
   exact⟨_,hrun _ hy,aS.rr.2 ⟨h2 y (by simp),rfl⟩⟩
 · rename_i xs hne hxs
   cases h
   obtain⟨_,h2⟩:=i5 hm hr hxs
   refine⟨_,hrun _ hxs,h2,?_⟩
   rw [dif_neg]
   intro hl
   have hl':xs.length=1:=by simpa using hl
   match xs,hl' with
   | [y],_=>exact hne y rfl
 · cases h
def f8:List XV→Nat→T XV→T XV
 | [],_,t=>t
 | x::l,i,t=>f8 l (i+1) (t.set .undef 31 i x)
theorem mG:∀(l:List XV) (i:Nat) (t:T XV),i+l.length<1000000→∀ j,(f8 l i t).get .undef j=if i≤j∧j<i+l.length then l.getD (j-i) .undef else t.get .undef j
 | [],i,t,_,j=>by simp [f8];omega
 | x :: l,i,t,h,j=>by
   simp only [List.length_cons]at h
   rw [f8,mG l (i+1) _ (by omega) j]
   by_cases h1:i+1≤j∧j<i+1+l.length
   · rw [if_pos h1,if_pos (by simp only [List.length_cons];omega)]
     obtain⟨k,hk⟩:∃ k,j-i=k+1:=⟨j-i-1,by omega⟩
     rw [hk,show j-(i+1)=k by omega]
     rfl
   · rw [if_neg h1]
     by_cases h2:j=i
     · subst h2
       rw [T.f6 _ _ _ _ _ (by omega),if_pos (by simp only [List.length_cons];omega)]
       simp
     · rw [T.fh _ _ _ _ _ _ h2,if_neg (by simp only [List.length_cons];omega)]
theorem cz.get {α γ : Type} {R : α → γ→Prop}:∀ {l:List α} {k:List γ},cz R l k→∀(i:Nat) (a : α) (b : γ),l[i]? = some a→k[i]? = some b→R a b
 | _,_,.nil,i,a,b,h,_=>by simp at h
 | _,_,.cons h t,0,a,b,h1,h2=>by simp at h1 h2;subst h1;subst h2;exact h
 | _,_,.cons h t,i+1,a,b,h1,h2=>by simp at h1 h2;exact t.get i a b h1 h2
theorem qe {β : Env} {n nt:Nat} {args:List XV} {vs:List Value}(h:cz (aS β n) args vs) (hnt:nt<1000000) (hl:args.length≤nt) :
 jz β n nt (f8 args 0 .leaf) (vs.toArray++Array.replicate (nt-vs.toArray.size) undef):=by
 have hlen:=h.length
 have hg:=mG args 0 .leaf (by omega)
 refine⟨by simp;omega,hnt,fun t ht=>?_,fun t ht=>?_⟩
 · rw [hg t]
   by_cases htl:t<args.length
   · rw [if_pos (by omega)]
     have htv:t<vs.length:=by omega
     have e1:(vs.toArray++Array.replicate (nt-vs.toArray.size) undef).getD t undef=vs[t]:=by
      simp [Array.getD_eq_getD_getElem?,Array.getElem?_append,htv]
     have e2:args.getD (t-0) .undef=args[t]:=by simp [List.getD_eq_getElem?_getD,htl]
     rw [e1,e2]
     exact h.get t _ _ (by simp [htl]) (by simp [htv])
   · rw [if_neg (by omega),T.eZ]
     trivial
 · rw [hg t,if_neg (by omega),T.eZ]
def v7 (O : df) (P:Program) (F:Nat) (f:FuncId) (args:List XV) (m:Mem):Option (XV × Mem):=
 match P.funcs[f]? with
 | some fn=>match fn.body with
   | some c=>
     if fn.ntmps<1000000∧args.length≤fn.ntmps then
      match Ig O P fn.ntmps F (.code c) (f8 args 0 .leaf) m with
      | some (.norm r m')=>match dD P fn (r.get .undef) m' with
        | some x=>some (x,m')
        | .none => .none
      | some (.ret r m')=>match dD P fn (r.get .undef) m' with
        | some x=>some (x,m')
        | .none => .none
      | _ => .none
     else .none
   | .none => .none
 | .none => .none
theorem CP {O:df} {P:Program}(hO:aN P O) (hP:P.follows .mixedOrders=true) (nt:Nat):∀ F,Ac P nt (Ig O P nt F)
 | 0=>fun c r m x h=>by cases h
 | F+1=>Ih hO hP (CP hO hP nt F)
theorem zC {O : df} {P:Program}(hO:aN P O) (hP:P.follows .mixedOrders=true) (F:Nat):∀ f args m v m',v7 O P F f args m=some (v,m')→dW P f args m v m'∧pZ m m':=by
 have main : ∀ f args m v m',v7 O P F f args m=some (v,m')→dW P f args m v m'∧pZ m m':=by
  intro f args m v m' h
  unfold v7 at h
  split at h
  · rename_i fn hf
    split at h
    · rename_i c hb
      split at h
      · rename_i hc
        have fin:∀(r:T XV) (x:XR),Ig O P fn.ntmps F (.code c) (f8 args 0 .leaf) m=some x→x.jj=r→x.mem=m'→(x.ex = .normal∨x.ex = .ret)→dD P fn (r.get .undef) m'=some v→dW P f args m v m'∧pZ m m':=by
         intro r x hrun hxr hxm hxe hres
         subst hxr
         subst hxm
         obtain⟨hchg,hw⟩:=CP hO hP fn.ntmps F _ _ _ _ hrun
         refine⟨fun β w vs hall hm=>?_,hchg⟩
         refine calls_of_wp hf hb ?_
         refine hw β w _ _ (qe hall hc.1 hc.2) hm (fun a' β' w' h1 h2 h3=>?_)
         obtain⟨u,hu1,hu2⟩:=oo hres h3.rel h1
         rcases hxe with hxe|hxe <;> rw [hxe] <;> exact⟨h2,u,hu1,u,β',rfl,hu2,h3⟩
        split at h
        · rename_i r m1 hrun
          split at h
          · rename_i x hres
            cases h
            exact fin r (.norm r m') hrun rfl rfl (.inl rfl) hres
          · cases h
        · rename_i r m1 hrun
          split at h
          · rename_i x hres
            cases h
            exact fin r (.ret r m') hrun rfl rfl (.inr rfl) hres
          · cases h
        · cases h
      · cases h
    · cases h
  · cases h
 exact main
def v8 (O:df) (P:Program) (F:Nat):Nat→df
 | 0=>O
 | k+1=>⟨fun f args m=>match O.call f args m with
   | some r=>some r
   | .none=>v7 (v8 O P F k) P F f args m,O.op⟩
theorem r_ {O:df} {P:Program}(hO:aN P O) (hP:P.follows .mixedOrders=true) (F:Nat):∀ k,aN P (v8 O P F k)
 | 0=>hO
 | k + 1=>by
   have ih:=zC (r_ hO hP F k) hP F
   have main:∀ f args m v m',(v8 O P F (k+1)).call f args m=some (v,m')→dW P f args m v m'∧pZ m m':=by
    intro f args m v m' h
    unfold v8 at h
    simp only []at h
    split at h
    · rename_i r hr
      cases h
      exact⟨hO.call _ _ _ _ _ hr,hO.Iw _ _ _ _ _ hr⟩
    · exact ih _ _ _ _ _ h
   exact⟨fun f args m v m' h=>(main f args m v m' h).1,fun f args m v m' h=>(main f args m v m' h).2,hO.op⟩
def tH:df:=⟨fun _ _ _ => .none,fun _ _ => .none⟩
theorem iC (P:Program):aN P tH:=⟨fun _ _ _ _ _ h=>(by cases h),fun _ _ _ _ _ h=>(by cases h),fun _ _ _ h=>(by cases h)⟩
end Go.Xm
namespace Go.Xm
noncomputable section
section
variable {α : Type}
def zR (l:List α) (n:Nat):Option α:=
 @List.rec α (fun _=>Nat→Option α) (fun _ => .none) (fun a _ ih n => @Nat.rec (fun _=>Option α) (some a) (fun k _=>ih k) n) l n
theorem qP:∀(l:List α) (n:Nat),zR l n=l[n]?
 | [],n=>rfl
 | a::l,0=>rfl
 | a::l,n+1=>by
   show zR l n=(a::l)[n+1]?
   rw [qP l n];rfl
def zQ (n:Nat) (l:List α):List α:=
 @List.rec α (fun _=>Nat→List α) (fun _=>[]) (fun a t ih n => @Nat.rec (fun _=>List α) (a::t) (fun k _=>ih k) n) l n
theorem uy:∀(n:Nat) (l:List α),zQ n l=l.drop n
 | n,[]=>by show([]:List α) = [].drop n;simp
 | 0,a::l=>rfl
 | n+1,a::l=>by show zQ n l=l.drop n;exact uy n l
def zW (n:Nat) (l:List α):List α:=
 @List.rec α (fun _=>Nat→List α) (fun _=>[]) (fun a _ ih n => @Nat.rec (fun _=>List α) [] (fun k _=>a::ih k) n) l n
theorem uC:∀(n:Nat) (l:List α),zW n l=l.take n
 | n,[]=>by show([]:List α) = [].take n;simp
 | 0,a::l=>rfl
 | n+1,a::l=>by show a::zW n l=a::l.take n;rw [uC n l]
def EL (l k:List α):List α := @List.rec α (fun _=>List α) k (fun a _ ih=>a::ih) l
theorem xL:∀(l k:List α),EL l k=l++k
 | [],k=>rfl
 | a::l,k=>by show a::EL l k=a::(l++k);rw [xL l k]
def ss (l:List α):Nat := @List.rec α (fun _=>Nat) 0 (fun _ _ ih=>Nat.add ih 1) l
theorem oX:∀(l:List α),ss l=l.length
 | []=>rfl
 | a::l=>by show Nat.add (ss l) 1=l.length+1;rw [oX l]
def CU (l:List α) (n:Nat) (x : α):List α:=
 @List.rec α (fun _=>Nat→List α) (fun _=>[]) (fun a t ih n => @Nat.rec (fun _=>List α) (x::t) (fun k _=>a::ih k) n) l n
theorem zT:∀(l:List α) (n:Nat) (x : α),CU l n x=l.set n x
 | [],n,x=>by show([]:List α) = [].set n x;simp
 | a::l,0,x=>rfl
 | a::l,n+1,x=>by show a::CU l n x=a::l.set n x;rw [zT l n x]
def sg (d : α) (t:T α) (n:Nat) : α:=
 @T.rec α (fun _=>Nat → α) (fun _=>d) (fun v _ _ ihl ihr n => @Nat.rec (fun _ => α) v (fun k _ => @Nat.rec (fun _ => α) (ihl (Nat.div k 2)) (fun _ _=>ihr (Nat.div k 2)) (Nat.mod k 2)) n) t n
theorem mn (d : α):∀(t:T α) (n:Nat),sg d t n=t.get d n
 | .leaf,n=>by rw [T.eZ];rfl
 | .node v l r,0=>rfl
 | .node v l r,n+1=>by
   rw [T.ek]
   show @Nat.rec (fun _ => α) (sg d l (n/2)) (fun _ _=>sg d r (n/2)) (n%2)=_
   rw [mn d l,mn d r]
   rcases Nat.mod_two_eq_zero_or_one n with h|h <;> rw [h] <;> rfl
def po (d : α) (f:Nat) (t:T α) (n:Nat) (x : α):T α:=
 @Nat.rec (fun _=>T α→Nat→T α) (fun t _=>t) (fun _ ih t n=>
  @T.rec α (fun _=>T α)
   (@Nat.rec (fun _=>T α) (.node x .leaf .leaf) (fun k _ => @Nat.rec (fun _=>T α) (.node d (ih .leaf (Nat.div k 2)) .leaf) (fun _ _ => .node d .leaf (ih .leaf (Nat.div k 2))) (Nat.mod k 2)) n)
   (fun v l r _ _ => @Nat.rec (fun _=>T α) (.node x l r) (fun k _ => @Nat.rec (fun _=>T α) (.node v (ih l (Nat.div k 2)) r) (fun _ _ => .node v l (ih r (Nat.div k 2))) (Nat.mod k 2)) n) t) f t n
theorem mo (d : α) (x : α):∀(f:Nat) (t:T α) (n:Nat),po d f t n x=T.set d f t n x
 | 0,t,n=>by cases t <;> rfl
 | f+1,.leaf,0=>rfl
 | f+1,.leaf,n+1=>by
   rw [T.lG]
   show @Nat.rec (fun _=>T α) (T.node d (po d f .leaf (n/2) x) .leaf) (fun _ _=>T.node d .leaf (po d f .leaf (n/2) x)) (n%2)=_
   rw [mo d x f]
   rcases Nat.mod_two_eq_zero_or_one n with h|h <;> rw [h] <;> rfl
 | f+1,.node v l r,0=>rfl
 | f+1,.node v l r,n+1=>by
   rw [T.lH]
   show @Nat.rec (fun _=>T α) (T.node v (po d f l (n/2) x) r) (fun _ _=>T.node v l (po d f r (n/2) x)) (n%2)=_
   rw [mo d x f,mo d x f]
   rcases Nat.mod_two_eq_zero_or_one n with h|h <;> rw [h] <;> rfl
end
def iL {α : Type}(b:Bool) (x y : α) : α := @Bool.rec (fun _ => α) y x b
theorem eH {α : Type}(b:Bool) (x y : α):iL b x y=if b=true then x else y:=by cases b <;> rfl
def Mt (v:Value):XV:=match nX v with
 | some c => .one c
 | .none => .undef
def Mw (t:Nat) (r:T XV):XV:=sg .undef r t
def Im (v:Value) (_:T XV):XV:=Mt v
def EN (_:Nat) (_:T XV):XV := .undef
def Ks (f:FuncId) (_:T XV):XV := .one (.fn f)
def mr (x:Operand):T XV→XV := @Operand.rec (fun _=>T XV→XV) Mw Im EN Ks x
theorem fT (x:Operand) (r:T XV):mr x r=ai (r.get .undef) x:=by
 cases x with
 | tmp t=>exact mn _ _ _
 | const v=>rfl
 | global g=>rfl
 | func f=>rfl
def Ir (d:Nat) (nt:Nat) (r:T XV) (v:XV):T XV:=iL (Nat.blt d nt) (po .undef 31 r d v) r
def Iq (_:Nat) (r:T XV) (_:XV):T XV:=r
def BA (d:Option Nat):Nat→T XV→XV→T XV := @Option.rec Nat (fun _=>Nat→T XV→XV→T XV) Iq Ir d
theorem xO (nt:Nat) (r:T XV) (d:Option Nat) (v:XV):BA d nt r v=np nt r d v:=by
 cases d with
 | none=>rfl
 | some d=>
   show iL (Nat.blt d nt) (po .undef 31 r d v) r=if d<nt then T.set .undef 31 r d v else r
   rw [eH,mo]
   simp [Nat.blt_eq]
def Mz (n:Nat):Int := @Nat.rec (fun _=>Int) (Int.ofNat 0) (fun k _=>Int.negSucc k) n
theorem CV (n:Nat):Mz n = -(n:Int):=by cases n <;> rfl
def oY (m n:Nat):Int:=iL (Nat.ble n m) (Int.ofNat (Nat.sub m n)) (Mz (Nat.sub n m))
theorem uB (m n:Nat):oY m n=(m:Int)-n:=by
 unfold oY
 rw [eH]
 split
 · rename_i h
   have:n≤m:=Nat.le_of_ble_eq_true h
   show((m-n:Nat):Int)=_
   omega
 · rename_i h
   have:¬n≤m:=fun h'=>h (Nat.ble_eq_true_of_le h')
   rw [CV]
   show -((n-m:Nat):Int)=_
   omega
def Mr (a b:Int):Int:=
 @Int.rec (fun _=>Int) (fun m => @Int.rec (fun _=>Int) (fun n=>Int.ofNat (Nat.add m n)) (fun n=>oY m (Nat.succ n)) b) (fun m => @Int.rec (fun _=>Int) (fun n=>oY n (Nat.succ m)) (fun n=>Int.negSucc (Nat.succ (Nat.add m n))) b) a
theorem CQ (a b:Int):Mr a b=a+b:=by
 cases a with
 | ofNat m=>cases b with
   | ofNat n=>rfl
   | negSucc n=>
     show oY m (n+1)=_
     rw [uB,Int.negSucc_eq]
     show(m:Int)-((n+1:Nat):Int)=(m:Int)+_
     omega
 | negSucc m=>cases b with
   | ofNat n=>
     show oY n (m+1)=_
     rw [uB,Int.negSucc_eq]
     show(n:Int)-((m+1:Nat):Int)=_+(n:Int)
     omega
   | negSucc n=>rfl
def KZ (a:Int):Int := @Int.rec (fun _=>Int) (fun m=>Mz m) (fun m=>Int.ofNat (Nat.succ m)) a
theorem Ip (a:Int):KZ a = -a:=by cases a with
 | ofNat m=>exact CV m
 | negSucc m=>rfl
def MB (a b:Int):Int:=Mr a (KZ b)
theorem Kw (a b:Int):MB a b=a-b:=by unfold MB;rw [CQ,Ip];omega
def NO (a b:Int):Bool:=
 @Int.rec (fun _=>Bool) (fun m => @Int.rec (fun _=>Bool) (fun n=>Nat.blt m n) (fun _=>false) b) (fun m => @Int.rec (fun _=>Bool) (fun _=>true) (fun n=>Nat.blt n m) b) a
theorem My (a b:Int):NO a b=decide (a<b):=by
 cases a with
 | ofNat m=>cases b with
   | ofNat n=>
     show Nat.blt m n=_
     rw [Bool.eq_iff_iff]
     simp [Nat.blt_eq]
   | negSucc n=>
     show false=_
     symm
     rw [decide_eq_false_iff_not]
     have:(0:Int)≤Int.ofNat m:=Int.natCast_nonneg m
     omega
 | negSucc m=>cases b with
   | ofNat n=>
     show true=_
     symm
     rw [decide_eq_true_iff]
     have:(0:Int)≤Int.ofNat n:=Int.natCast_nonneg n
     omega
   | negSucc n=>
     show Nat.blt n m=_
     rw [Bool.eq_iff_iff]
     simp [Nat.blt_eq]
     omega
def Mx (a b:Int):Bool:=
 @Int.rec (fun _=>Bool) (fun m => @Int.rec (fun _=>Bool) (fun n=>Nat.beq m n) (fun _=>false) b) (fun m => @Int.rec (fun _=>Bool) (fun _=>false) (fun n=>Nat.beq m n) b) a
theorem Kt (a b:Int):Mx a b=(a == b):=by
 rw [Bool.eq_iff_iff,beq_iff_eq]
 cases a with
 | ofNat m=>cases b with
   | ofNat n=>show Nat.beq m n=true↔_;rw [Nat.beq_eq];exact⟨fun h=>by rw [h],fun h=>Int.ofNat.inj h⟩
   | negSucc n=>show false=true↔_;simp
 | negSucc m=>cases b with
   | ofNat n=>show false=true↔_;simp
   | negSucc n=>show Nat.beq m n=true↔_;simp
end
end Go.Xm
