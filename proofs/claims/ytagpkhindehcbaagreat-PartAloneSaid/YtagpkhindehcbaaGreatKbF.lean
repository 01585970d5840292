/-
  A part of the proof: XvPut, XvAuto, XvTac, Facts, Small.
-/
import Derived.Test.YtagpkhindehcbaaGreatKbE
import Derived.KernelRfl
import Derived.Test.YtagpkhindehcbaaGreatProg
set_option linter.unusedVariables false
set_option linter.unusedSectionVars false
set_option linter.unusedSimpArgs false
namespace Go.Xm
variable [aC]
variable {P:Program}
theorem ae.view {ls:List Nat}{HS hs:aq}(nd:Nd ls hs) (ho:ae (nth ls) HS ls hs) (hk:dL hs.length hs):View (nth ls) HS hs:=by
 obtain⟨hlen,hobj⟩:=ho.at
 refine⟨fun j hj=>?_,fun i j a b hi hj ha hb hij=>nd.inj hlen i j a b hi hj ha hb hij,fun j o hj=>hk.at o (List.mem_of_getElem? hj),fun j o hj=>(hobj j o hj).2⟩
 exact(hobj j _ (List.getElem?_eq_getElem hj)).1
inductive fz (n:Nat):List XV→Prop where
 | nil:fz n []
 | flat {v:XV}{l:List XV} [bG v]:fz n l→fz n (v::l)
 | cons {v:XV}{l:List XV}:v.cB n→fz n l→fz n (v::l)
theorem fz.at {n:Nat}{l:List XV}(h:fz n l):∀ x∈l,x.cB n:=by
 induction h with
 | nil=>intro o h;cases h
 | @flat o hs inst _ ih=>
   intro x hx
   rcases List.mem_cons.1 hx with rfl|hx
   · exact inst.ok n
   · exact ih x hx
 | cons h1 _ ih=>
   intro x hx
   rcases List.mem_cons.1 hx with rfl|hx
   · exact h1
   · exact ih x hx
inductive dQ (τ : Nat→Nat):List XV→List XV→Prop where
 | nil:dQ τ [] []
 | flat {v:XV}{l m:List XV} [bG v]:dQ τ l m→dQ τ (v::l) (v::m)
 | cons {v w:XV}{l m:List XV}:v.aw τ = w→dQ τ l m→dQ τ (v::l) (w::m)
theorem dQ.eq {τ : Nat→Nat}{l m:List XV}(h:dQ τ l m):l.map (·.aw τ)=m:=by
 induction h with
 | nil=>rfl
 | @flat v l m inst _ ih=>simp only [List.map_cons,ih,inst.aw]
 | cons h _ ih=>simp only [List.map_cons,ih,h]
inductive kF (τ : Nat→Nat) (HS:aq):List Nat→aq→Prop where
 | nil:kF τ HS [] []
 | flat {i:Nat}{o:ak}{l:List Nat}{hs:aq} [dT o]:HS[i]? = some o→kF τ HS l hs→kF τ HS (i::l) (o::hs)
 | cons {i:Nat}{o:ak}{l:List Nat}{hs:aq}:HS[i]? = some (o.aw τ)→kF τ HS l hs→kF τ HS (i::l) (o::hs)
theorem kF.via {τ : Nat→Nat}{HS:aq}{l:List Nat}{hs:aq}(h:kF τ HS l hs):ae τ HS l hs:=by
 induction h with
 | nil=>exact .nil
 | flat h1 _ ih=>exact .flat h1 ih
 | cons h1 _ ih=>exact .cons h1 ih
theorem kF.at {τ : Nat→Nat}{HS:aq}{l:List Nat}{hs:aq}(h:kF τ HS l hs):∀(j:Nat) (o:ak),hs[j]? = some o→HS[nth l j]? = some (o.aw τ):=by
 induction h with
 | nil=>intro j o h;simp at h
 | @flat i o l hs inst h1 _ ih=>
   intro j o' hj
   cases j with
   | zero=>simp at hj;subst hj;rw [inst.aw];exact h1
   | succ j=>exact ih j o' (by simpa using hj)
 | cons h1 _ ih=>
   intro j o' hj
   cases j with
   | zero=>simp at hj;subst hj;exact h1
   | succ j=>exact ih j o' (by simpa using hj)
theorem GJ {f:FuncId}{args0 args:List XV}{hs0 HS:aq}{v v':XV}(ls:List Nat) (hc:bq P f args0 hs0 v hs0) (nd:ls.Nodup) (ho:kF (nth ls) HS ls hs0) (hk:dL hs0.length hs0) (ha:fz hs0.length args0) (e1:dQ (nth ls) args0 args) (hv:v.cB hs0.length) (e2:v.aw (nth ls)=v') (hb:Nat.blt HS.length Mem.bound=true) (hb0:Nat.blt hs0.length Mem.bound=true) :
 aG.Sound P ⟨f,args,HS,v',HS,[]⟩:=by
 obtain⟨hlen,_⟩:=ho.via.at
 have hat:=ho.at
 have kc:∀ c:XC,c.ok hs0.length→c.aw (beyond (nth ls) hs0.length HS.length)=c.aw (nth ls):=by
  intro c
  induction c with
  | ptr i off=>exact fun h=>by simp only [XC.aw,beyond];rw [if_pos (show i<hs0.length from h)]
  | slice i off len cap=>exact fun h=>by simp only [XC.aw,beyond];rw [if_pos (show i<hs0.length from h)]
  | map i=>exact fun h=>by simp only [XC.aw,beyond];rw [if_pos (show i<hs0.length from h)]
  | bind g c ih1 ih2=>exact fun h=>by simp only [XC.aw,ih1 h.1,ih2 h.2]
  | _=>intro _;rfl
 have kcs:∀ cs:List XC,(∀ c∈cs,c.ok hs0.length)→cs.map (·.aw (beyond (nth ls) hs0.length HS.length))=cs.map (·.aw (nth ls)):=fun cs h=>List.map_congr_left fun c hc=>kc c (h c hc)
 have k1:∀ x:X1,x.ok hs0.length→x.aw (beyond (nth ls) hs0.length HS.length)=x.aw (nth ls):=fun x h=>by
  cases x with
  | one c=>simp only [X1.aw,kc c h]
  | agg cs=>simp only [X1.aw,kcs cs h]
 have kv:∀ x:XV,x.cB hs0.length→x.aw (beyond (nth ls) hs0.length HS.length)=x.aw (nth ls):=fun x h=>by
  cases x with
  | undef=>rfl
  | one c=>simp only [XV.aw,kc c h]
  | agg cs=>simp only [XV.aw,kcs cs h]
  | tup xs=>simp only [XV.aw];rw [List.map_congr_left fun c hc=>k1 c (h c hc)]
 have ko:∀ x:ak,x.cB hs0.length→x.aw (beyond (nth ls) hs0.length HS.length)=x.aw (nth ls):=fun x h=>by
  cases x with
  | dead=>rfl
  | cells vs e a b=>simp only [ak.aw,kcs vs h]
  | map es=>simp only [ak.aw];rw [List.map_congr_left fun p hp=>by rw [k1 _ (h p hp).1,k1 _ (h p hp).2]]
 refine rj hc (Nat.le_refl _) (ho.via.view (.inl nd) hk) ha.at e1.eq ((kv v hv).trans e2) ⟨by simp,fun j o h=>?_,fun i hi _=>rfl⟩ (fun j o h hl _=>⟨o,h,hl⟩) (fun i hi _=>rfl) hb hb0
 have hj:j<hs0.length:=(List.getElem?_eq_some_iff.1 h).1
 rw [ko o (hk.at o (List.mem_of_getElem? h)),show beyond (nth ls) hs0.length HS.length j=nth ls j from if_pos hj]
 exact hat j o h
structure RO (o:ak) (k:IntKind) (l:List Int):Prop where
 get:0<l.length→∃ e opn ro,o = .cells (il k l) e opn ro
 flat:dT o
theorem RO.of (k:IntKind) (l:List Int) (e:TypeId) (opn ro:Bool):RO (.cells (il k l) e opn ro) k l:=⟨fun _=>⟨e,opn,ro,rfl⟩,inferInstance⟩
def bM (HS:aq):List Nat→aq→aq
 | i::ls,o::os=>bM (HS.set i o) ls os
 | [],os=>HS++os
 | _::_,[]=>HS
theorem pz:∀(ls:List Nat) (HS os:aq),ls.length≤os.length→(bM HS ls os).length=HS.length+(os.length-ls.length)
 | [],HS,os,_=>by simp [bM]
 | i::ls,HS,o::os,h=>by
   simp only [bM,List.length_cons]at h ⊢
   rw [pz ls _ os (by omega),List.length_set];omega
 | _::_,_,[],h=>by simp at h
theorem ln:∀(ls:List Nat) (HS os:aq) (i:Nat),i<HS.length→i∉ls→(bM HS ls os)[i]? = HS[i]?
 | [],HS,os,i,hi,_=>by simp only [bM];exact List.getElem?_append_left hi
 | k::ls,HS,o::os,i,hi,h=>by
   simp only [List.mem_cons,not_or]at h
   simp only [bM]
   rw [ln ls _ os i (by rw [List.length_set];exact hi) h.2,List.getElem?_set_ne (Ne.symm h.1)]
 | _::_,_,[],i,hi,_=>rfl
theorem xh:∀(ls:List Nat) (HS os:aq) (j:Nat),ls.length≤j→j<os.length→(bM HS ls os)[HS.length+(j-ls.length)]? = os[j]?
 | [],HS,os,j,_,hj=>by
   simp only [bM,List.length_nil,Nat.sub_zero]
   rw [List.getElem?_append_right (by omega)];congr 1;omega
 | k :: ls,HS,o::os,j,h,hj=>by
   cases j with
   | zero=>simp at h
   | succ j=>
     simp only [List.length_cons]at h hj
     have:=xh ls (HS.set k o) os j (by omega) (by omega)
     rw [List.length_set]at this
     simp only [bM,List.length_cons,List.getElem?_cons_succ]
     rw [←this];congr 1;omega
 | _::_,_,[],j,_,hj=>by simp at hj
theorem As:∀(ls:List Nat) (HS os:aq),ls.Nodup→(∀ i∈ls,i<HS.length)→∀(j:Nat),j<ls.length→j<os.length→(bM HS ls os)[nth ls j]? = os[j]?
 | [],_,_,_,_,j,hj,_=>by simp at hj
 | k :: ls,HS,o::os,nd,hi,j,hj,ho=>by
   have hk:k∉ls:=(List.nodup_cons.1 nd).1
   have nd':=(List.nodup_cons.1 nd).2
   have hi':∀ i∈ls,i<(HS.set k o).length:=fun i h=>by rw [List.length_set];exact hi i (List.mem_cons_of_mem _ h)
   simp only [bM]
   cases j with
   | zero=>
     show(bM (HS.set k o) ls os)[k]? = some o
     rw [ln ls _ os k (by rw [List.length_set];exact hi k (List.mem_cons_self ..)) hk,List.getElem?_set_self (hi k (List.mem_cons_self ..))]
   | succ j=>
     simp only [List.length_cons]at hj ho
     exact As ls _ os nd' hi' j (by omega) (by omega)
 | _::_,_,[],_,_,j,_,ho=>by simp at ho
inductive dR (τ : Nat→Nat):aq→aq→Prop where
 | nil:dR τ [] []
 | flat {o:ak}{l m:aq} [dT o]:dR τ l m→dR τ (o::l) (o::m)
 | cons {o w:ak}{l m:aq}:o.aw τ = w→dR τ l m→dR τ (o::l) (w::m)
theorem dR.eq {τ : Nat→Nat}{l m:aq}(h:dR τ l m):l.map (·.aw τ)=m:=by
 induction h with
 | nil=>rfl
 | @flat v l m inst _ ih=>simp only [List.map_cons,ih,inst.aw]
 | cons h _ ih=>simp only [List.map_cons,ih,h]
def eI:aq→aq→Bool
 | _,[]=>true
 | o0::hs0,o::hs=>(o0.live || !o.live || o.own) && eI hs0 hs
 | [],o::hs=>(!o.live || o.own) && eI [] hs
theorem vg:∀ {hs0 hs:aq},eI hs0 hs=true→∀(j:Nat) (o:ak),hs[j]? = some o→o.live=true→o.own=false→∃ o0,hs0[j]? = some o0∧o0.live=true
 | _,[],_,j,o,h,_,_=>by simp at h
 | o0::hs0,o::hs,hr,j,x,h,hl,ho=>by
   simp only [eI,Bool.and_eq_true]at hr
   cases j with
   | zero=>
     simp only [List.getElem?_cons_zero,Option.some.injEq]at h
     subst h
     refine⟨o0,rfl,?_⟩
     rw [hl,ho]at hr
     simpa using hr.1
   | succ j=>exact vg hr.2 j x (by simpa using h) hl ho
 | [],o::hs,hr,j,x,h,hl,ho=>by
   simp only [eI,Bool.and_eq_true]at hr
   cases j with
   | zero=>
     simp only [List.getElem?_cons_zero,Option.some.injEq]at h
     subst h
     rw [hl,ho]at hr
     simp at hr
   | succ j=>
     obtain⟨o0,h1,_⟩:=vg hr.2 j x (by simpa using h) hl ho
     simp at h1
theorem yn {ls:List Nat}{N k:Nat}(j:Nat) (hj:j<ls.length+k):beyond (nth ls) ls.length N j=nth (ls++List.range' N k) j:=by
 unfold beyond nth
 by_cases h:j<ls.length
 · rw [if_pos h,List.getD_eq_getElem?_getD,List.getD_eq_getElem?_getD,List.getElem?_append_left h]
 · rw [if_neg h,List.getD_eq_getElem?_getD,List.getElem?_append_right (by omega),List.getElem?_range' (by omega)]
   simp
theorem cj {f:FuncId}{args0 args:List XV}{hs0 hs0' HS HS' os:aq}{v v':XV}(ls ws:List Nat) (k:Nat) (hc:bq P f args0 hs0 v hs0') (nd:ls.Nodup) (ho:ae (nth ls) HS ls hs0) (hk:dL hs0.length hs0) (hk':dL hs0'.length hs0') (hn:ls.length+k=hs0'.length) (ha:fz hs0.length args0) (e1:dQ (nth ls) args0 args) (hv:v.cB hs0'.length)
 (e2:v.aw (nth (ls++List.range' HS.length k))=v') (hr:dR (nth (ls++List.range' HS.length k)) hs0' os) (hro:eI hs0 hs0'=true) (hb0:Nat.blt hs0.length Mem.bound=true) (hh:bM HS ls os=HS') (hb:Nat.blt HS'.length Mem.bound=true) (hws:ws=ls∨∀ i,i<HS.length→i∉ws→HS'[i]? = HS[i]?) :
 aG.Sound P ⟨f,args,HS,v',HS',ws⟩:=by
 subst hh
 obtain⟨hlen,hobj⟩:=ho.at
 have eos:=hr.eq
 have los:os.length=hs0'.length:=by rw [←eos];simp
 have hin:∀ i∈ls,i<HS.length:=by
  intro i hi
  obtain⟨j,hj,rfl⟩:=List.mem_iff_getElem.1 hi
  have:=(hobj j _ (List.getElem?_eq_getElem (by omega:j<hs0.length))).1
  unfold nth at this
  rwa [List.getD_eq_getElem?_getD,List.getElem?_eq_getElem hj]at this
 have kc:∀ n (c:XC),c.ok n→n≤hs0'.length→c.aw (beyond (nth ls) hs0.length HS.length)=c.aw (nth (ls++List.range' HS.length k)):=by
  intro n c
  have e:∀ i,i<n→n≤hs0'.length→beyond (nth ls) hs0.length HS.length i=nth (ls++List.range' HS.length k) i:=fun i hi hl=>by
   rw [hlen];exact yn i (by omega)
  induction c with
  | ptr i off=>exact fun h hl=>by simp only [XC.aw,e i h hl]
  | slice i off len cap=>exact fun h hl=>by simp only [XC.aw,e i h hl]
  | map i=>exact fun h hl=>by simp only [XC.aw,e i h hl]
  | bind g c ih1 ih2=>exact fun h hl=>by simp only [XC.aw,ih1 h.1 hl,ih2 h.2 hl]
  | _=>intro _ _;rfl
 have kcs:∀ cs:List XC,(∀ c∈cs,c.ok hs0'.length)→cs.map (·.aw (beyond (nth ls) hs0.length HS.length))=cs.map (·.aw (nth (ls++List.range' HS.length k))):=fun cs h=>List.map_congr_left fun c hc=>kc _ c (h c hc) (Nat.le_refl _)
 have k1:∀ x:X1,x.ok hs0'.length→x.aw (beyond (nth ls) hs0.length HS.length)=x.aw (nth (ls++List.range' HS.length k)):=fun x h=>by
  cases x with
  | one c=>simp only [X1.aw,kc _ c h (Nat.le_refl _)]
  | agg cs=>simp only [X1.aw,kcs cs h]
 have kv:∀ x:XV,x.cB hs0'.length→x.aw (beyond (nth ls) hs0.length HS.length)=x.aw (nth (ls++List.range' HS.length k)):=fun x h=>by
  cases x with
  | undef=>rfl
  | one c=>simp only [XV.aw,kc _ c h (Nat.le_refl _)]
  | agg cs=>simp only [XV.aw,kcs cs h]
  | tup xs=>simp only [XV.aw];rw [List.map_congr_left fun c hc=>k1 c (h c hc)]
 have ko:∀ x:ak,x.cB hs0'.length→x.aw (beyond (nth ls) hs0.length HS.length)=x.aw (nth (ls++List.range' HS.length k)):=fun x h=>by
  cases x with
  | dead=>rfl
  | cells vs e a b=>simp only [ak.aw,kcs vs h]
  | map es=>simp only [ak.aw];rw [List.map_congr_left fun p hp=>by rw [k1 _ (h p hp).1,k1 _ (h p hp).2]]
 refine rj hc (by omega) (ho.view (.inl nd) hk) ha.at e1.eq ((kv v hv).trans e2) ⟨?_,fun j o hj=>?_,fun i hi hne=>?_⟩ (vg hro) (fun i hi hne=>?_) hb hb0
 · rw [pz ls HS os (by omega)];omega
 · have hjl:j<hs0'.length:=(List.getElem?_eq_some_iff.1 hj).1
   have hoj:os[j]? = some (o.aw (nth (ls++List.range' HS.length k))):=by rw [←eos,List.getElem?_map,hj];rfl
   rw [ko o (hk'.at o (List.mem_of_getElem? hj)),hlen]
   unfold beyond
   by_cases h:j<ls.length
   · rw [if_pos h,As ls HS os nd hin j h (by omega)];exact hoj
   · rw [if_neg h,xh ls HS os j (by omega) (by omega)];exact hoj
 · refine ln ls HS os i hi fun hm=>?_
   obtain⟨j,hj,e⟩:=List.mem_iff_getElem.1 hm
   refine hne j (by omega) ?_
   unfold nth
   rw [List.getD_eq_getElem?_getD,List.getElem?_eq_getElem hj]
   exact e
 · rcases hws with e|h
   · subst e;exact ln ws HS os i hi hne
   · exact h i hi hne
theorem F6.of {c:XC}{i n:Nat}(h:F6 c i n) (hn:∀ cap,c = .slice i 0 n (.exact cap)→n≤cap):gl c i 0 n:=by
 rcases h with⟨rfl,rfl⟩|⟨cap,rfl⟩
 · exact .nil
 · exact .mk (hn cap rfl)
theorem gl.back {c:XC}{i off n:Nat}(h:gl c i off n):∃ c0,gl c0 0 off n∧c0.aw (fun _=>i)=c:=by
 rcases h with⟨rfl,rfl|⟨o,cap,rfl⟩⟩|⟨cap,h1,rfl⟩
 · exact⟨.nils,.nil,rfl⟩
 · exact⟨.slice 0 o 0 (.exact cap),.inl ⟨rfl,.inr ⟨_,_,rfl⟩⟩,rfl⟩
 · exact⟨.slice 0 off n (.exact cap),.inr ⟨_,h1,rfl⟩,rfl⟩
theorem gl.Ko {c:XC}{i off n:Nat}(h:gl c i off n) (j:Nat) (τ : Nat→Nat) (ht : τ j=i):∃ c0,gl c0 j off n∧c0.aw τ = c:=by
 subst ht
 rcases h with⟨rfl,rfl|⟨o,cap,rfl⟩⟩|⟨cap,h1,rfl⟩
 · exact⟨.nils,.nil,rfl⟩
 · exact⟨.slice j o 0 (.exact cap),.inl ⟨rfl,.inr ⟨_,_,rfl⟩⟩,rfl⟩
 · exact⟨.slice j off n (.exact cap),.inr ⟨_,h1,rfl⟩,rfl⟩
theorem DH {fn:Func}{n:Nat}{e:XE}{al:bm}{hs hs':aq}{v1 v:XV}(τl:List Nat) (he:e = .normal∨e = .ret) (hr:qZ P fn al hs v1) (hv:v1=v.aw (nth τl)) (hok:v.cB hs'.length) (nd:Nd τl hs') (hid:(List.range n).all (fun j=>nth τl j == j)=true) (ho:ae (nth τl) hs τl hs') (hk:dL hs'.length hs'):aF P fn n v hs' e al hs:=
 Af (nth τl) he hr hv hok (ho.view nd hk) fun j hj=>by
  have:=List.all_eq_true.1 hid j (List.mem_range.2 hj)
  simpa using this
variable {ops:Array Oper}{nt nI:Nat}{al:bm}{hs:aq}{o:Oper}{l:List Oper}{L:List aG}{K:List Ab→bm→aq→Prop}{d:Nat}
theorem CG (k:IntKind) (n:Nat):fD [.int k 0] n=il k (List.replicate n 0):=by
 unfold fD il
 apply List.ext_getElem?
 intro i
 by_cases h:i<n
 · simp [h,Nat.mod_one]
 · simp [h]
theorem Jx {t e:TypeId}{a b:Operand}{k:IntKind}(ho:o.op = .makeSlice t a b) [hu:aY P t (.slice e)] [hz:bz P e [.int k 0]] [hI:TI P e 1] (hw:aj ops (rg al) o=some true) (hd:o.dst=some d) (hlt:Nat.blt d nt=true) {kl kc:IntKind}{x y:Int}(ha:ag (rg al) a = .one (.int kl x)) (hb:ag (rg al) b = .one (.int kc y)) {n:Nat}(hx:x=(n:Nat)) (hy:y=(n:Nat)) (hn:n≤2000000000)
 {N:Nat}(hN:hs.length=N) (hbd:Nat.blt N Mem.bound=true) {hs':aq}(hh:hs++[.cells (il k (List.replicate n 0)) e false false]=hs') (hk:SK P ops nt L l ((d,.one (.slice N 0 n (.exact n)))::al) hs' fun bs=>K (⟨true,.none,[N]⟩::bs)):SK P ops nt L (o::l) al hs K:=by
 subst hN hh hx hy
 refine SK.lift hd hlt (fun _=>?_) hk
 intro m hm
 obtain⟨m',h1,h2,h3⟩:=hm.push (.cells (il k (List.replicate n 0)) e false false) (by simpa [Nat.blt_eq]using hbd)
 refine⟨m',?_,h2,h3⟩
 unfold jr
 rw [hw]
 refine c9 (by rw [ho];rfl) (by rw [ho];rfl) (by rw [ho];rfl) ?_
 rw [ho]
 obtain⟨ti,hti,hs1,hby⟩:=hI.get
 have hbb:(ti.bytes:Int)*(n:Nat)≤281474976710656:=by
  have:(ti.bytes:Int)*(n:Nat)≤65536*(n:Nat):=Int.mul_le_mul_of_nonneg_right (by omega) (by omega)
  omega
 simp only [cx,iW,eD,hu.out,ha,hb,hti,hz.out,hs1,Int.toNat_natCast,Nat.mul_one,CG,h1,hm.n]
 rw [if_pos ⟨by omega,by omega,by omega,hbb,by simp⟩]
theorem Hq {t e:TypeId}{y:Operand}{k:IntKind}(ho:o.op = .buildSlice t 1 #[(0,y)]) [hu:aY P t (.slice e)] [hz:bz P e [.int k 0]] [hse:aT P e 1] (hw:aj ops (rg al) o=some true) (hd:o.dst=some d) (hlt:Nat.blt d nt=true) {z:Int}(hy:cW (ag (rg al) y)=some [.int k z]) {n:Nat}(hn:hs.length=n) (hb:Nat.blt n Mem.bound=true) {hs':aq}(hh:hs++[.cells (il k [z]) e false false]=hs')
 (hk:SK P ops nt L l ((d,.one (.slice n 0 1 (.exact 1)))::al) hs' fun bs=>K (⟨true,.none,[n]⟩::bs)):SK P ops nt L (o::l) al hs K:=
 Js ho rfl hw hd hlt hy hn hb hh hk
theorem Ho {t e:TypeId}{k:IntKind}(ho:o.op = .buildSlice t 0 #[]) [hu:aY P t (.slice e)] [hz:bz P e [.int k 0]] [hse:aT P e 1] (hw:aj ops (rg al) o=some true) (hd:o.dst=some d) (hlt:Nat.blt d nt=true) {n:Nat}(hn:hs.length=n) (hb:Nat.blt n Mem.bound=true) {hs':aq}(hh:hs++[.cells (il k []) e false false]=hs')
 (hk:SK P ops nt L l ((d,.one (.slice n 0 0 (.exact 0)))::al) hs' fun bs=>K (⟨true,.none,[n]⟩::bs)):SK P ops nt L (o::l) al hs K:=by
 subst hn hh
 refine SK.lift hd hlt (fun _=>?_) hk
 intro m hm
 obtain⟨m',h1,h2,h3⟩:=hm.push (.cells (il k []) e false false) (by simpa [Nat.blt_eq]using hb)
 refine⟨m',?_,h2,h3⟩
 unfold jr
 rw [hw]
 refine c9 (by rw [ho];rfl) (by rw [ho];rfl) (by rw [ho];rfl) ?_
 rw [ho]
 have hf:gW (fun i=>some (i*1,1)) (fD [.int k 0] (0*1)) []=some (il k []):=by
  simp [gW,fD,il]
 simp only [cx,eR,eD,hu.out,hse.out,hz.out,List.map_nil,h1,hm.n,hf]
 simp
theorem ru {t1 e:TypeId} [hu:aY P t1 (.slice e)] {x:XV}{j len sz:Nat}{cap:rE}{vs:List XC}{et:TypeId}{opn ro:Bool}(hx:x = .one (.slice j 0 len cap)) (hj:hs[j]? = some (.cells vs et opn ro)) (hl:vs.length=len*sz):∀ M,bu M hs→mN P t1 sz x M=some (len,vs):=by
 intro M hM
 subst hx
 have:=hM.at hj
 by_cases h0:len=0
 · subst h0
   have:vs = []:=List.length_eq_zero_iff.1 (by simpa using hl)
   subst this
   cases cap <;> simp only [mN,hu.out,if_true]
 · cases cap <;> simp only [mN,hu.out,this,Nat.zero_add,List.drop_zero,h0,if_false] <;> rw [if_pos (by omega),List.take_of_length_le (by omega)]
theorem Jp {t t1 e e1:TypeId}{a b:Operand}{k:IntKind}(ho:o.op = .call ⟨.builtin .append,#[a,b],#[t,t1]⟩) [hu:aY P t (.slice e)] [hu1:aY P t1 (.slice e1)] [hz:bz P e [.int k 0]] [hI:TI P e 1] (hw:aj ops (rg al) o=some true) (hd:o.dst=some d) (hlt:Nat.blt d nt=true)
 {i n j len:Nat}{cap:rE}{q r:List Int}{et:TypeId}{opn ro:Bool}(ha:ag (rg al) a=iT i n 1) (hi:hs[i]? = some (c8 e (il k q))) (hb:ag (rg al) b = .one (.slice j 0 len cap)) (hj:hs[j]? = some (.cells (il k r) et opn ro)) (hn:q.length=n) (hr:r.length=len) (hm:0<len∧n+len≤2000000000)
 {N:Nat}(hN:hs.length=N) (hbd:Nat.blt N Mem.bound=true) {hs':aq}(hh:hs.set i .dead++[c8 e (il k (q++r))]=hs')
 (hk:SK P ops nt L l ((d,iT N (n+len) 1)::al) hs' fun bs=>K (⟨true,.none,[i,N]⟩::bs)):SK P ops nt L (o::l) al hs K:=by
 have hne:il k (q++r)≠[]:=by
  intro h
  have:(il k (q++r)).length=0:=by rw [h];rfl
  rw [ed,List.length_append]at this
  omega
 rw [nU (by omega)]at hk
 exact EJ ho hw hd hlt (sz:=1) ⟨rfl,by omega⟩ ha hi (by rw [ed];omega) (ru hb hj (by rw [ed];omega)) ⟨hm.1,by omega⟩ hN hbd (by rw [t8,←iu hne];exact hh) hk
theorem AG {t1 e1:TypeId} [hu1:aY P t1 (.slice e1)] {x:XV}{i n:Nat}{k:IntKind}{r:List Int}{e:TypeId}(hx:x=iT i n 1) (hi:hs[i]? = some (c8 e (il k r))) (hr:r.length=n):∀ M,bu M hs→mN P t1 1 x M=some (n,il k r):=by
 cases r with
 | nil=>
   intro M _
   subst hr
   rw [hx]
   show mN P t1 1 (.one .nils) M=_
   simp only [mN,hu1.out];rfl
 | cons a r=>exact ru (hx.trans (nU (by rw [←hr];exact Nat.succ_ne_zero _))) hi (by rw [ed];omega)
theorem Jt {t t1 e e1:TypeId}{a b:Operand}{k:IntKind}(ho:o.op = .call ⟨.builtin .copy,#[a,b],#[t,t1]⟩) [hu:aY P t (.slice e)] [hu1:aY P t1 (.slice e1)] [hse:aT P e 1] (hw:aj ops (rg al) o=some true) (hd:o.dst=some d) (hlt:Nat.blt d nt=true)
 {j len:Nat}{cap:rE}{q r:List Int}{et:TypeId}{opn:Bool}(ha:ag (rg al) a = .one (.slice j 0 len cap)) (hj:hs[j]? = some (.cells (il k q) et opn false)) (hq:q.length=len) (hr:r.length=len) (hsrc:∀ M,bu M hs→mN P t1 1 (ag (rg al) b) M=some (len,il k r))
 {hs':aq}(hh:hs.set j (.cells (il k r) et opn false)=hs') (hk:SK P ops nt L l ((d,.one (.int .i64 (len:Nat)))::al) hs' fun bs=>K (⟨true,.none,[j]⟩::bs)):SK P ops nt L (o::l) al hs K:=by
 subst hh
 refine SK.lift hd hlt (fun _=>?_) hk
 intro m hm
 refine⟨m.put j (.cells (il k r) et opn false),?_,hm.put hj _,rq⟩
 unfold jr
 rw [hw]
 refine c9 (by rw [ho];rfl) (by rw [ho];rfl) (by rw [ho];rfl) ?_
 rw [ho]
 have ht:(il k r).take (len*1)=il k r:=List.take_of_length_le (by rw [ed];omega)
 have hdr:(il k q).drop (0+(il k r).length) = []:=List.drop_of_length_le (by rw [ed,ed];omega)
 have he:eD P t=some e:=by simp only [eD,hu.out]
 show s6 P t t1 (ag (rg al) a) (ag (rg al) b) m=_
 unfold s6
 rw [he,ha]
 simp only [hse.out,hsrc m hm,hm.at hj,show Nat.min len len=len from Nat.min_self len,ht,hdr]
 rw [if_pos (by rw [ed];omega)]
 simp
def kI (k:IntKind) (z:Int):X1 := .one (.int k z)
def vB (b:Bool):X1 := .one (.bool b)
def vI (k:IntKind) (z:Int):X1 := .one (.int k z)
theorem KB {kt:TypeId}{k:IntKind} [hu:aY P kt (.int k)]:o6 P kt (kI k):=DJ
theorem si {α γ : Type}{kc : α→X1}{vc : γ→X1}(hk:∀ a,(kc a).shut=true) (hv:∀ c,(vc c).shut=true) (M:List (α × γ)):dT (.map (jb kc vc M)):=by
 refine⟨fun τ=>?_,fun n p hp=>?_⟩
 · simp only [ak.aw,jb,List.map_map]
   congr 1
   refine List.map_congr_left fun p _=>?_
   simp only [Function.comp,X1.dN (hk p.1),X1.dN (hv p.2)]
 · obtain⟨q,_,rfl⟩:=List.mem_map.1 hp
   exact⟨X1.bO (hk q.1) n,X1.bO (hv q.2) n⟩
instance {k k':IntKind}{M:List (Int × Int)}:dT (.map (jb (kI k) (vI k') M)):=si (fun _=>rfl) (fun _=>rfl) M
theorem Jw (T:Nat→Int) {t:TypeId}{x ix:Operand}(ho:o.op = .index t x ix) [hu:aY P t .string] (hw:aj ops (rg al) o=some true) (hd:o.dst=some d) (hlt:Nat.blt d nt=true) {s:List UInt8}(ha:ag (rg al) x = .one (.str s)) {k:IntKind}{z:Int}(hb:ag (rg al) ix = .one (.int k z)) (hz:0≤z∧z<256) (hT:∀ i:Fin 256,s[i.val]?.map (fun b=>(b.toNat:Int))=some (T i.val))
 (hk:SK P ops nt L l ((d,.one (.int .u8 (T z.toNat)))::al) hs fun bs=>K (quiet::bs)):SK P ops nt L (o::l) al hs K:=by
 refine SK.lift hd hlt (fun _=>aE.pure hw ?_) hk
 have h:=hT ⟨z.toNat,by omega⟩
 obtain⟨b,h1,h2⟩:=Option.map_eq_some_iff.1 h
 rw [ho]
 simp only [bk,oZ,hu.out,ha,hb,hz.1,if_true]
 simp only []at h1
 rw [h1,Option.map_some,h2]
theorem BY {t:TypeId}{a y:Operand}(ho:o.op = .store t a y) [ht:aT P t 1] (hw:aj ops (rg al) o=some true) (hd:o.dst = .none) {i off:Nat}(ha:ag (rg al) a = .one (.ptr i off)) {k:IntKind}{z:Int}(hy:cW (ag (rg al) y)=some [.int k z]) {q:List Int}{e:TypeId}(hi:hs[i]? = some (c8 e (il k q))) (hle:off<q.length)
 {hs':aq}(hh:hs.set i (c8 e (il k (q.set off z)))=hs') (hk:SK P ops nt L l al hs' fun bs=>K (⟨true,.none,[i]⟩::bs)):SK P ops nt L (o::l) al hs K:=by
 cases q with
 | nil=>exact absurd hle (Nat.not_lt_zero _)
 | cons b r=>
   have h:c8 e (il k ((b::r).set off z)) = .cells (il k ((b::r).set off z)) e true false:=by cases off <;> rfl
   rw [h]at hh
   exact jU ho hw hd ha hy (vs:=il k (b::r)) hi (by rw [ed];exact hle) (DD ..) hh hk
theorem Jo {t t1 e e1:TypeId}{a b:Operand}{k:IntKind}(ho:o.op = .call ⟨.builtin .append,#[a,b],#[t,t1]⟩) [hu:aY P t (.slice e)] [hu1:aY P t1 (.slice e1)] [hz:bz P e [.int k 0]] [hI:TI P e 1] (hw:aj ops (rg al) o=some true) (hd:o.dst=some d) (hlt:Nat.blt d nt=true)
 {i len n:Nat}{q r:List Int}{et:TypeId}{opn ro:Bool}(ha:ag (rg al) a = .one (.slice i 0 len (.exact len))) (hi:hs[i]? = some (.cells (il k q) et opn ro)) (hq:q.length=len) (hr:r.length=n) (hsrc:∀ M,bu M hs→mN P t1 1 (ag (rg al) b) M=some (n,il k r)) (hm:len+n≤2000000000)
 {N:Nat}(hN:hs.length=N) (hbd:Nat.blt N Mem.bound=true) {hs':aq}(hh:hs++[.cells (il k (q++r)) e true false]=hs')
 (h1:n=0→SK P ops nt L l ((d,.one (.slice i 0 len (.exact len)))::al) hs fun bs=>K (⟨true,.none,[]⟩::bs)) (h2:0<n→SK P ops nt L l ((d,.one (.slice N 0 (len+n) (.toEnd 1)))::al) hs' fun bs=>K (⟨true,.none,[N]⟩::bs)):SK P ops nt L (o::l) al hs K:=by
 subst hN hh
 obtain⟨ti,hti,hs1,hby⟩:=hI.get
 have hbytes:(len+n)*ti.bytes≤140737488355328:=Nat.le_trans (Nat.mul_le_mul_left _ hby) (by omega)
 by_cases h0:n=0
 · refine SK.lift hd hlt (fun _=>?_) (h1 h0)
   subst h0
   intro M hM
   refine⟨M,?_,hM,fun _ _=>rfl⟩
   unfold jr
   rw [hw]
   refine c9 (by rw [ho];rfl) (by rw [ho];rfl) (by rw [ho];rfl) ?_
   rw [ho]
   simp only [cx,jz,eD,hu.out,hti,hz.out,ha,hs1,hsrc M hM,List.getElem?_toArray,List.getElem?_cons_zero,List.getElem?_cons_succ]
   simp
 · refine SK.lift hd hlt (fun _=>?_) (h2 (by omega))
   intro M hM
   obtain⟨m',p1,p2,p3⟩:=hM.push (.cells (il k (q++r)) e true false) (by simpa [Nat.blt_eq]using hbd)
   refine⟨m',?_,p2,p3⟩
   unfold jr
   rw [hw]
   refine c9 (by rw [ho];rfl) (by rw [ho];rfl) (by rw [ho];rfl) ?_
   rw [ho]
   have e1:¬len+n≤len:=by omega
   have e2:0+len*1≤(il k q).length:=by rw [ed];omega
   have e3:((il k q).drop 0).take (len*1)++il k r=il k (q++r):=by
    rw [List.drop_zero,List.take_of_length_le (by rw [ed];omega),t8]
   simp only [cx,jz,eD,hu.out,hti,hz.out,ha,hs1,hsrc M hM,List.getElem?_toArray,List.getElem?_cons_zero,List.getElem?_cons_succ,e1,if_false,hM.at hi,e2,if_true,e3,p1,hM.n]
   rw [if_pos ⟨rfl,by omega⟩,if_pos ⟨by omega,hbytes⟩]
theorem LU {t1 e1:TypeId} [hu1:aY P t1 (.slice e1)] {c:XC}{i n:Nat}{k:IntKind}{r:List Int}{ob:ak}{x:XV}(hx:x = .one c) (hc:F6 c i n) (hi:hs[i]? = some ob) (hr:r.length=n) (hro:RO ob k r):∀ M,bu M hs→mN P t1 1 x M=some (n,il k r):=by
 intro M hM
 subst hx
 by_cases h0:n=0
 · subst h0
   have:r = []:=List.length_eq_zero_iff.1 hr
   subst this
   rcases hc with⟨rfl,_⟩|⟨cap,rfl⟩ <;> simp only [mN,hu1.out,if_true] <;> rfl
 · rcases hc with⟨rfl,rfl⟩|⟨cap,rfl⟩
   · exact absurd rfl h0
   · obtain⟨e,opn,ro,rfl⟩:=hro.get (by omega)
     simp only [mN,hu1.out,hM.at hi,h0,if_false]
     rw [if_pos (by rw [ed];omega),List.drop_zero,List.take_of_length_le (by rw [ed];omega)]
class pU {α : Type}(enc : α→List XC) (s:outParam Nat):Prop where
 len:∀ a,(enc a).length=s
 shut:∀ a,(enc a).all XC.shut=true
 pos:0<s
def fl {α : Type}(enc : α→List XC) (l:List α):List XC:=l.flatMap enc
section
variable {α : Type}{enc : α→List XC}{s:Nat} [hE:pU enc s]
theorem r6 (l:List α):(fl enc l).length=l.length*s:=by
 induction l with
 | nil=>simp [fl]
 | cons a l ih=>simp only [fl,List.flatMap_cons,List.length_append,hE.len,List.length_cons]at ih ⊢;rw [ih,Nat.add_mul];omega
theorem Bu (l m:List α):fl enc (l++m)=fl enc l++fl enc m:=by simp [fl]
theorem IP (a : α):fl enc [a]=enc a:=by simp [fl]
theorem rh {α : Type}{enc : α→List XC}{s:Nat} [hE:pU enc s] (l:List α):(fl enc l).all XC.shut=true:=by
 rw [List.all_eq_true]
 intro c hc
 obtain⟨a,_,ha⟩:=List.mem_flatMap.1 hc
 exact List.all_eq_true.1 (hE.shut a) c ha
theorem Ib (l:List α) (j:Nat) (hj:j<l.length) (dflt : α):j*s+s≤(fl enc l).length∧((fl enc l).drop (j*s)).take s=enc (l.getD j dflt):=
 Aa enc s l (fun a _=>hE.len a) j _ (by simp [List.getD_eq_getElem?_getD,hj])
theorem Dy {α : Type}{enc : α→List XC}{s:Nat} [hE:pU enc s] {l:List α}(h:l≠[]):fl enc l≠[]:=fun e=>by
 have:=r6 (enc:=enc) l
 rw [e]at this
 have hp:=hE.pos
 cases l with
 | nil=>exact h rfl
 | cons a l=>simp only [List.length_cons,List.length_nil,Nat.add_mul]at this;omega
instance {e:TypeId}{a b:Bool}{l:List α}:dT (.cells (fl enc l) e a b):=hZ (rh l)
instance {e:TypeId}{l:List α}:dT (c8 e (fl enc l)):=xv (rh l)
instance {a : α}{e:TypeId}{x y:Bool}:dT (.cells (enc a) e x y):=hZ (hE.shut a)
structure v_ (o:ak) (enc : α→List XC) (l:List α):Prop where
 get:0<l.length→∃ e opn ro,o = .cells (fl enc l) e opn ro
 flat:dT o
theorem EM [Inhabited α] {t:TypeId}{a:Operand}(ho:o.op = .load t a) [ht:eE P t] [hs':aT P t s] (hw:aj ops (rg al) o=some true) (hd:o.dst=some d) (hlt:Nat.blt d nt=true) {i off:Nat}(ha:ag (rg al) a = .one (.ptr i off)) {e:TypeId}{q:List α}(hi:hs[i]? = some (c8 e (fl enc q))) {j:Nat}(hj:off=j*s) (hc:j<q.length)
 (hk:SK P ops nt L l ((d,.agg (enc (q.getD j default)))::al) hs fun bs=>K (⟨false,some i,[]⟩::bs)):SK P ops nt L (o::l) al hs K:=by
 obtain⟨h1,h2⟩:=Ib (enc:=enc) q j hc default
 subst hj
 exact sO ho hw hd hlt ha (hi.trans (congrArg some (iu (Dy (fun e=>by rw [e]at hc;exact absurd hc (Nat.not_lt_zero _)))))) h1 h2 hk
theorem BX [Inhabited α] {t:TypeId}{a:Operand}(ho:o.op = .load t a) [ht:eE P t] [hs':aT P t s] (hw:aj ops (rg al) o=some true) (hd:o.dst=some d) (hlt:Nat.blt d nt=true) {i off:Nat}(ha:ag (rg al) a = .one (.ptr i off)) {ob:ak}{q:List α}(hi:hs[i]? = some ob) (hro:v_ ob enc q) {j:Nat}(hj:off=j*s) (hc:j<q.length)
 (hk:SK P ops nt L l ((d,.agg (enc (q.getD j default)))::al) hs fun bs=>K (⟨false,some i,[]⟩::bs)):SK P ops nt L (o::l) al hs K:=by
 obtain⟨h1,h2⟩:=Ib (enc:=enc) q j hc default
 obtain⟨e,opn,ro,rfl⟩:=hro.get (by omega)
 subst hj
 exact sO ho hw hd hlt ha hi h1 h2 hk
theorem Hp {t e:TypeId}{y:Operand}{zs:List XC}(ho:o.op = .buildSlice t 1 #[(0,y)]) [hu:aY P t (.slice e)] [hz:bz P e zs] [hse:aT P e s] (hzl:zs.length=s) (hsm:s≤16777216) (hw:aj ops (rg al) o=some true) (hd:o.dst=some d) (hlt:Nat.blt d nt=true) {a : α}(hy:cW (ag (rg al) y)=some (enc a)) {n:Nat}(hn:hs.length=n) (hb:Nat.blt n Mem.bound=true) {hs':aq}(hh:hs++[.cells (fl enc [a]) e false false]=hs')
 (hk:SK P ops nt L l ((d,.one (.slice n 0 1 (.exact 1)))::al) hs' fun bs=>K (⟨true,.none,[n]⟩::bs)):SK P ops nt L (o::l) al hs K:=by
 subst hn hh
 refine SK.lift hd hlt (fun _=>?_) hk
 intro m hm
 obtain⟨m',h1,h2,h3⟩:=hm.push (.cells (fl enc [a]) e false false) (by simpa [Nat.blt_eq]using hb)
 refine⟨m',?_,h2,h3⟩
 unfold jr
 rw [hw]
 refine c9 (by rw [ho];rfl) (by rw [ho];rfl) (by rw [ho];rfl) ?_
 rw [ho]
 have hp:=hE.pos
 have hlen:=hE.len a
 have hzz:(fD zs (1*s)).length=s:=by simp [fD]
 have hf:gW (fun i=>some (i*s,s)) (fD zs (1*s)) [(0,ag (rg al) y)]=some (fl enc [a]):=by
  simp only [gW,hy,hlen,Nat.zero_mul]
  rw [if_pos ⟨trivial,by rw [hzz];omega⟩,IP]
  simp only [List.take_zero,List.nil_append,Nat.zero_add]
  rw [List.drop_of_length_le (by rw [hzz];omega),List.append_nil]
 simp only [cx,eR,eD,hu.out,hse.out,hz.out,List.map_cons,List.map_nil,h1,hm.n,hf]
 rw [if_pos ⟨by omega,by omega⟩]
theorem Jq {t t1 e e1:TypeId}{a b:Operand}{zs:List XC}(ho:o.op = .call ⟨.builtin .append,#[a,b],#[t,t1]⟩) [hu:aY P t (.slice e)] [hu1:aY P t1 (.slice e1)] [hz:bz P e zs] [hI:TI P e s] (hzl:zs.length=s) (hw:aj ops (rg al) o=some true) (hd:o.dst=some d) (hlt:Nat.blt d nt=true)
 {i n j len:Nat}{cap:rE}{q r:List α}{et:TypeId}{opn ro:Bool}(ha:ag (rg al) a=iT i n s) (hi:hs[i]? = some (c8 e (fl enc q))) (hb:ag (rg al) b = .one (.slice j 0 len cap)) (hj:hs[j]? = some (.cells (fl enc r) et opn ro)) (hn:q.length=n) (hr:r.length=len) (hm:0<len∧n+len≤2000000000)
 {N:Nat}(hN:hs.length=N) (hbd:Nat.blt N Mem.bound=true) {hs':aq}(hh:hs.set i .dead++[c8 e (fl enc (q++r))]=hs')
 (hk:SK P ops nt L l ((d,iT N (n+len) s)::al) hs' fun bs=>K (⟨true,.none,[i,N]⟩::bs)):SK P ops nt L (o::l) al hs K:=by
 have hne:fl enc (q++r)≠[]:=Dy (fun h=>by
  have:(q++r).length=0:=by rw [h];rfl
  rw [List.length_append]at this
  omega)
 rw [nU (by omega)]at hk
 exact EJ ho hw hd hlt (sz:=s) ⟨hzl,hE.pos⟩ ha hi (by rw [r6,hn]) (ru hb hj (by rw [r6,hr])) ⟨hm.1,by omega⟩ hN hbd (by rw [←Bu,←iu hne];exact hh) hk
end
theorem EN {α γ : Type} [DecidableEq α] {t:TypeId}{x ix:Operand}(ho:o.op = .lookup t x ix false) {kt et:TypeId} [hu:aY P t (.map kt et)] (hw:aj ops (rg al) o=some true) (hd:o.dst=some d) (hlt:Nat.blt d nt=true) {kc : α→X1}(hko:o6 P kt kc) {vc : γ→X1}{z : γ}(hz:kb P et=some (vc z)) {i:Nat}(hx:ag (rg al) x = .one (.map i)) {k : α}(hk:mL (ag (rg al) ix)=some (kc k))
 {M:List (α × γ)}(hi:hs[i]? = some (.map (jb kc vc M))) (hn:SK P ops nt L l ((d,(vc ((bW M k).getD z)).pK)::al) hs fun bs=>K (⟨false,some i,[]⟩::bs)):SK P ops nt L (o::l) al hs K:=by
 refine SK.lift hd hlt (fun _=>aE.lookup hw ho hu.out hx hk hi (v:=(vc ((bW M k).getD z)).pK) ?_) hn
 obtain⟨ds,hu⟩:=hko.und
 unfold kC
 rw [if_pos (hko.check k),hu,mr hko]
 unfold bW
 cases h:gi k M with
 | none=>simp [hz]
 | some q=>simp
theorem EO {kk:IntKind}{t:TypeId}{x ix:Operand}(ho:o.op = .lookup t x ix false) {kt et:TypeId} [hu:aY P t (.map kt et)] [hku:aY P kt (.int kk)] (hz:kb P et=some (.one (.bool false))) (hw:aj ops (rg al) o=some true) (hd:o.dst=some d) (hlt:Nat.blt d nt=true) {i:Nat}(hx:ag (rg al) x = .one (.map i)) {z:Int}(hk:mL (ag (rg al) ix)=some (.one (.int kk z)))
 {M:List (Int × Bool)}(hi:hs[i]? = some (.map (jb (kI kk) vB M))) (h1:(bW M z).getD false=true→SK P ops nt L l ((d,.one (.bool true))::al) hs fun bs=>K (⟨false,some i,[]⟩::bs)) (h2:(bW M z).getD false=false→SK P ops nt L l ((d,.one (.bool false))::al) hs fun bs=>K (⟨false,some i,[]⟩::bs)):SK P ops nt L (o::l) al hs K:=by
 refine EN ho hw hd hlt (kc:=kI kk) (vc:=vB) (z:=false) KB hz hx hk hi ?_
 · cases h:(bW M z).getD false with
   | true=>exact h1 h
   | false=>exact h2 h
end Go.Xm
namespace Go.Xm
variable [aC]
variable {P:Program}{ops:Array Oper}{nt nI:Nat}{al:bm}{hs:aq}{o:Oper}{l:List Oper}{L:List aG}{K:List Ab→bm→aq→Prop}{d:Nat}
def sv (o:Oper):Nat:=match o.op with
 | .move _=>0 | .assign _=>0 | .load _ _=>1 | .store _ _ _=>2 | .indexAddr _ _ _=>3 | .fieldAddr _ _ _=>4
 | .binOp op _ _ _ _=>match op with
   | .add=>5 | .sub=>6 | .mul=>7 | .quo=>8 | .rem=>9 | .and=>10 | .or=>11 | .xor=>12 | .shl=>13 | .shr=>14 | .andNot=>15
   | .eql=>16 | .neq=>17 | .lss=>18 | .leq=>19 | .gtr=>20 | .geq=>21
 | .pick _ _ _=>22 | .unOp _ _ _=>23 | .convert _ _ _=>24 | .extract _ _=>25 | .nilCheck _=>26 | .field _ _ _=>27 | .index _ _ _=>28
 | .call ⟨.value _,_,_⟩=>29 | .call ⟨.builtin .len,_,_⟩=>30 | .call ⟨.builtin .append,_,_⟩=>31 | .call ⟨.builtin _,_,_⟩=>32 | .call _=>33
 | .build _ _=>34 | .buildSlice _ _ _=>35 | .alloc _=>36 | .box _ _=>37 | .makeSlice _ _ _=>38 | .makeMap _ _=>39 | .slice _ _ _ _ _=>40 | .lookup _ _ _ _=>41 | .mapUpdate _ _ _ _=>42 | .makeFunc _ _ _=>43
 | _=>44
theorem q4 (hk:SK P ops nt L (o::l) al hs K) (h:Nat.ble (sv o) 4=true:=by exact rfl):SK P ops nt L (o::l) al hs K:=hk
theorem MP (hk:SK P ops nt L (o::l) al hs K) (h:Nat.ble (sv o) 15=true:=by exact rfl):SK P ops nt L (o::l) al hs K:=hk
theorem MQ (hk:SK P ops nt L (o::l) al hs K) (h:Nat.ble (sv o) 21=true:=by exact rfl):SK P ops nt L (o::l) al hs K:=hk
theorem MR (hk:SK P ops nt L (o::l) al hs K) (h:Nat.ble (sv o) 28=true:=by exact rfl):SK P ops nt L (o::l) al hs K:=hk
theorem MS (hk:SK P ops nt L (o::l) al hs K) (h:Nat.ble (sv o) 33=true:=by exact rfl):SK P ops nt L (o::l) al hs K:=hk
theorem qz (hk:SK P ops nt L (o::l) al hs K):SK P ops nt L (o::l) al hs K:=hk
theorem qg (hk:SK P ops nt L (o::l) al hs K) (h:o.guard.isSome=true:=by exact rfl):SK P ops nt L (o::l) al hs K:=hk
theorem t0 (hk:SK P ops nt L (o::l) al hs K) (h:sv o=0:=by exact rfl):SK P ops nt L (o::l) al hs K:=hk
theorem t1 (hk:SK P ops nt L (o::l) al hs K) (h:sv o=1:=by exact rfl):SK P ops nt L (o::l) al hs K:=hk
theorem t2 (hk:SK P ops nt L (o::l) al hs K) (h:sv o=2:=by exact rfl):SK P ops nt L (o::l) al hs K:=hk
theorem t3 (hk:SK P ops nt L (o::l) al hs K) (h:sv o=3:=by exact rfl):SK P ops nt L (o::l) al hs K:=hk
theorem t4 (hk:SK P ops nt L (o::l) al hs K) (h:sv o=4:=by exact rfl):SK P ops nt L (o::l) al hs K:=hk
theorem MZ (hk:SK P ops nt L (o::l) al hs K) (h:sv o=30:=by exact rfl):SK P ops nt L (o::l) al hs K:=hk
theorem MF {a:Operand}{c:XC}(hk:SK P ops nt L l ((d,.one c)::al) hs fun bs=>K (quiet::bs)) (ho:o.op = .move a:=by exact rfl) (hw:aj ops (rg al) o=some true:=by exact rfl) (hd:o.dst=some d:=by exact rfl) (hlt:Nat.blt d nt=true:=by exact rfl) (ha:ag (rg al) a = .one c:=by exact rfl):SK P ops nt L (o::l) al hs K:=
 AE ho hw hd hlt ha hk
theorem Mi {a:Operand}{c:XC}(hk:SK P ops nt L l ((d,.one c)::al) hs fun bs=>K (quiet::bs)) (ho:o.op = .assign a:=by exact rfl) (hw:aj ops (rg al) o=some true:=by exact rfl) (hd:o.dst=some d:=by exact rfl) (hlt:Nat.blt d nt=true:=by exact rfl) (ha:ag (rg al) a = .one c:=by exact rfl):SK P ops nt L (o::l) al hs K:=
 BS ho hw hd hlt ha hk
theorem MG {a:Operand}{c:List X1}(hk:SK P ops nt L l ((d,.tup c)::al) hs fun bs=>K (quiet::bs)) (ho:o.op = .move a:=by exact rfl) (hw:aj ops (rg al) o=some true:=by exact rfl) (hd:o.dst=some d:=by exact rfl) (hlt:Nat.blt d nt=true:=by exact rfl) (ha:ag (rg al) a = .tup c:=by exact rfl):SK P ops nt L (o::l) al hs K:=
 AE ho hw hd hlt ha hk
theorem MV (hk:SK P ops nt L l ((d,.tup [])::al) hs fun bs=>K (quiet::bs)) (hw:aj ops (rg al) o=some false:=by exact rfl) (hd:o.dst=some d:=by exact rfl) (hlt:Nat.blt d nt=true:=by exact rfl):SK P ops nt L (o::l) al hs K:=
 Hz hw hd hlt hk
theorem MN {a b c:Operand}{x:Bool}(hk:SK P ops nt L l ((d,.one (.bool x))::al) hs fun bs=>K (quiet::bs)) (ho:o.op = .pick c a b:=by exact rfl) (hw:aj ops (rg al) o=some true:=by exact rfl) (hd:o.dst=some d:=by exact rfl) (hlt:Nat.blt d nt=true:=by exact rfl) (hc:ag (rg al) c = .one (.bool true):=by exact rfl) (ha:ag (rg al) a = .one (.bool x):=by exact rfl):SK P ops nt L (o::l) al hs K:=
 ET ho hw hd hlt hc ha hk
theorem MM {a b c:Operand}{x:Bool}(hk:SK P ops nt L l ((d,.one (.bool x))::al) hs fun bs=>K (quiet::bs)) (ho:o.op = .pick c a b:=by exact rfl) (hw:aj ops (rg al) o=some true:=by exact rfl) (hd:o.dst=some d:=by exact rfl) (hlt:Nat.blt d nt=true:=by exact rfl) (hc:ag (rg al) c = .one (.bool false):=by exact rfl) (ha:ag (rg al) b = .one (.bool x):=by exact rfl):SK P ops nt L (o::l) al hs K:=
 ES ho hw hd hlt hc ha hk
theorem ng {a:Operand}{t:TypeId}{k:IntKind}{x:Int}(hk:SK P ops nt L l ((d,.one (.int k (0-x)))::al) hs fun bs=>K (quiet::bs)) (ho:o.op = .unOp .neg t a:=by exact rfl) (hw:aj ops (rg al) o=some true:=by exact rfl) (hd:o.dst=some d:=by exact rfl) (hlt:Nat.blt d nt=true:=by exact rfl) (ha:ag (rg al) a = .one (.int k x):=by exact rfl) (h:tH k (0-x):=by(show _∧_;omega)):SK P ops nt L (o::l) al hs K:=
 SK.lift hd hlt (fun _=>aE.pure hw (by rw [ho];simp only [bk,ha,K2,bY,fN h])) hk
theorem MJ {a:Operand}{t:TypeId}{x:Bool}(hk:SK P ops nt L l ((d,.one (.bool (!x)))::al) hs fun bs=>K (quiet::bs)) (ho:o.op = .unOp .not t a:=by exact rfl) (hw:aj ops (rg al) o=some true:=by exact rfl) (hd:o.dst=some d:=by exact rfl) (hlt:Nat.blt d nt=true:=by exact rfl) (ha:ag (rg al) a = .one (.bool x):=by exact rfl):SK P ops nt L (o::l) al hs K:=
 JA ho hw hd hlt ha rfl hk
theorem ad {t t':TypeId}{a b:Operand}{k:IntKind}{x y:Int}(hk:SK P ops nt L l ((d,.one (.int k (x+y)))::al) hs fun bs=>K (quiet::bs)) (ho:o.op = .binOp .add t a b t':=by exact rfl) (hw:aj ops (rg al) o=some true:=by exact rfl) (hd:o.dst=some d:=by exact rfl) (hlt:Nat.blt d nt=true:=by exact rfl) (ha:ag (rg al) a = .one (.int k x):=by exact rfl) (hb:ag (rg al) b = .one (.int k y):=by exact rfl) (h:tH k (x+y):=by(show _∧_;omega)):SK P ops nt L (o::l) al hs K:=
 eY ho hw hd hlt ha hb (by simp only [a_,da,if_true,bY,fN h]) hk
theorem Ll {t t':TypeId}{a b:Operand}{k:IntKind}{x y:Int}(hk:SK P ops nt L l ((d,.one (.int k (k.wrap (x+y))))::al) hs fun bs=>K (quiet::bs)) (ho:o.op = .binOp .add t a b t':=by exact rfl) (hw:aj ops (rg al) o=some true:=by exact rfl) (hd:o.dst=some d:=by exact rfl) (hlt:Nat.blt d nt=true:=by exact rfl) (ha:ag (rg al) a = .one (.int k x):=by exact rfl) (hb:ag (rg al) b = .one (.int k y):=by exact rfl):SK P ops nt L (o::l) al hs K:=
 eY ho hw hd hlt ha hb (by simp only [a_,da,if_true,bY]) hk
theorem sb {t t':TypeId}{a b:Operand}{k:IntKind}{x y:Int}(hk:SK P ops nt L l ((d,.one (.int k (x-y)))::al) hs fun bs=>K (quiet::bs)) (ho:o.op = .binOp .sub t a b t':=by exact rfl) (hw:aj ops (rg al) o=some true:=by exact rfl) (hd:o.dst=some d:=by exact rfl) (hlt:Nat.blt d nt=true:=by exact rfl) (ha:ag (rg al) a = .one (.int k x):=by exact rfl) (hb:ag (rg al) b = .one (.int k y):=by exact rfl) (h:tH k (x-y):=by(show _∧_;omega)):SK P ops nt L (o::l) al hs K:=
 eY ho hw hd hlt ha hb (by simp only [a_,da,if_true,bY,fN h]) hk
theorem ml {t t':TypeId}{a b:Operand}{k:IntKind}{x y:Int}(hk:SK P ops nt L l ((d,.one (.int k (x*y)))::al) hs fun bs=>K (quiet::bs)) (ho:o.op = .binOp .mul t a b t':=by exact rfl) (hw:aj ops (rg al) o=some true:=by exact rfl) (hd:o.dst=some d:=by exact rfl) (hlt:Nat.blt d nt=true:=by exact rfl) (ha:ag (rg al) a = .one (.int k x):=by exact rfl) (hb:ag (rg al) b = .one (.int k y):=by exact rfl) (h:tH k (x*y):=by(show _∧_;omega)):SK P ops nt L (o::l) al hs K:=
 eY ho hw hd hlt ha hb (by simp only [a_,da,if_true,bY,fN h]) hk
theorem LF {t t':TypeId}{a b:Operand}{k:IntKind}{x y:Int}(hk:SK P ops nt L l ((d,.one (.int k (k.wrap (x*y))))::al) hs fun bs=>K (quiet::bs)) (ho:o.op = .binOp .mul t a b t':=by exact rfl) (hw:aj ops (rg al) o=some true:=by exact rfl) (hd:o.dst=some d:=by exact rfl) (hlt:Nat.blt d nt=true:=by exact rfl) (ha:ag (rg al) a = .one (.int k x):=by exact rfl) (hb:ag (rg al) b = .one (.int k y):=by exact rfl):SK P ops nt L (o::l) al hs K:=
 eY ho hw hd hlt ha hb (by simp only [a_,da,if_true,bY]) hk
theorem qu {t t':TypeId}{a b:Operand}{k:IntKind}{x y:Int}(hk:SK P ops nt L l ((d,.one (.int k (x/y)))::al) hs fun bs=>K (quiet::bs)) (ho:o.op = .binOp .quo t a b t':=by exact rfl) (hw:aj ops (rg al) o=some true:=by exact rfl) (hd:o.dst=some d:=by exact rfl) (hlt:Nat.blt d nt=true:=by exact rfl) (ha:ag (rg al) a = .one (.int k x):=by exact rfl) (hb:ag (rg al) b = .one (.int k y):=by exact rfl) (h:tH k x∧0≤x∧0<y:=by exact⟨by show _∧_;omega,by omega⟩):SK P ops nt L (o::l) al hs K:=
 eY ho hw hd hlt ha hb (LH h.1 h.2.1 h.2.2) hk
theorem qt {t t':TypeId}{a b:Operand}{k:IntKind}{x y:Int}(hk:SK P ops nt L l ((d,.one (.int k (x.tdiv y)))::al) hs fun bs=>K (quiet::bs)) (ho:o.op = .binOp .quo t a b t':=by exact rfl) (hw:aj ops (rg al) o=some true:=by exact rfl) (hd:o.dst=some d:=by exact rfl) (hlt:Nat.blt d nt=true:=by exact rfl) (ha:ag (rg al) a = .one (.int k x):=by exact rfl) (hb:ag (rg al) b = .one (.int k y):=by exact rfl) (h:y≠0∧tH k (x.tdiv y):=by exact⟨by omega,by show _∧_;omega⟩):SK P ops nt L (o::l) al hs K:=
 eY ho hw hd hlt ha hb (by simp only [a_,da,if_true,if_neg h.1,bY,fN h.2]) hk
theorem re {t t':TypeId}{a b:Operand}{k:IntKind}{x y:Int}(hk:SK P ops nt L l ((d,.one (.int k (x%y)))::al) hs fun bs=>K (quiet::bs)) (ho:o.op = .binOp .rem t a b t':=by exact rfl) (hw:aj ops (rg al) o=some true:=by exact rfl) (hd:o.dst=some d:=by exact rfl) (hlt:Nat.blt d nt=true:=by exact rfl) (ha:ag (rg al) a = .one (.int k x):=by exact rfl) (hb:ag (rg al) b = .one (.int k y):=by exact rfl) (h:0≤x∧y≠0:=by omega):SK P ops nt L (o::l) al hs K:=
 JB ho hw hd hlt ha hb h.1 h.2 hk
theorem sr {t t':TypeId}{a b:Operand}{k k':IntKind}{x y:Int}(hk:SK P ops nt L l ((d,.one (.int k (x/2^y.toNat)))::al) hs fun bs=>K (quiet::bs)) (ho:o.op = .binOp .shr t a b t':=by exact rfl) (hw:aj ops (rg al) o=some true:=by exact rfl) (hd:o.dst=some d:=by exact rfl) (hlt:Nat.blt d nt=true:=by exact rfl) (ha:ag (rg al) a = .one (.int k x):=by exact rfl) (hb:ag (rg al) b = .one (.int k' y):=by exact rfl) (h:tH k x∧0≤x∧0≤y:=by exact⟨by show _∧_;omega,by omega⟩):SK P ops nt L (o::l) al hs K:=
 eY ho hw hd hlt ha hb (LM h.1 h.2.1 h.2.2) hk
theorem yb {t t':TypeId}{a b:Operand}{k k':IntKind}{x y:Int}{n:Nat}(hk:SK P ops nt L l ((d,.one (.int k (x*2^n)))::al) hs fun bs=>K (quiet::bs)) (ho:o.op = .binOp .shl t a b t':=by exact rfl) (hw:aj ops (rg al) o=some true:=by exact rfl) (hd:o.dst=some d:=by exact rfl) (hlt:Nat.blt d nt=true:=by exact rfl) (ha:ag (rg al) a = .one (.int k x):=by exact rfl) (hb:ag (rg al) b = .one (.int k' y):=by exact rfl) (hn:y=(n:Nat):=by exact rfl) (h:n≤k.bits∧tH k (x*2^n):=by exact⟨by decide,by show _∧_;omega⟩):SK P ops nt L (o::l) al hs K:=
 eY ho hw hd hlt ha hb (LL hn h.1 h.2) hk
theorem an {t t':TypeId}{a b:Operand}{k:IntKind}{x y:Int}(n:Nat) (hk:SK P ops nt L l ((d,.one (.int k (x%2^n)))::al) hs fun bs=>K (quiet::bs)) (ho:o.op = .binOp .and t a b t':=by exact rfl) (hw:aj ops (rg al) o=some true:=by exact rfl) (hd:o.dst=some d:=by exact rfl) (hlt:Nat.blt d nt=true:=by exact rfl) (ha:ag (rg al) a = .one (.int k x):=by exact rfl) (hb:ag (rg al) b = .one (.int k y):=by exact rfl) (h:y=2^n-1∧n<k.bits:=by(refine⟨by decide,by decide⟩)):SK P ops nt L (o::l) al hs K:=
 eY ho hw hd hlt ha hb (Lm n h.1 h.2) hk
theorem ML {t t':TypeId}{a b:Operand}{k:IntKind}{x y:Int}(hk:SK P ops nt L l ((d,.one (.int k (Ae k x y)))::al) hs fun bs=>K (quiet::bs)) (ho:o.op = .binOp .or t a b t':=by exact rfl) (hw:aj ops (rg al) o=some true:=by exact rfl) (hd:o.dst=some d:=by exact rfl) (hlt:Nat.blt d nt=true:=by exact rfl) (ha:ag (rg al) a = .one (.int k x):=by exact rfl) (hb:ag (rg al) b = .one (.int k y):=by exact rfl):SK P ops nt L (o::l) al hs K:=
 eY ho hw hd hlt ha hb (by simp only [a_,da,if_true,bY,Ae]) hk
theorem Mh {t t':TypeId}{a b:Operand}{k:IntKind}{x y:Int}(hk:SK P ops nt L l ((d,.one (.int k (tG k x y)))::al) hs fun bs=>K (quiet::bs)) (ho:o.op = .binOp .and t a b t':=by exact rfl) (hw:aj ops (rg al) o=some true:=by exact rfl) (hd:o.dst=some d:=by exact rfl) (hlt:Nat.blt d nt=true:=by exact rfl) (ha:ag (rg al) a = .one (.int k x):=by exact rfl) (hb:ag (rg al) b = .one (.int k y):=by exact rfl):SK P ops nt L (o::l) al hs K:=
 eY ho hw hd hlt ha hb (by simp only [a_,da,if_true,bY,tG]) hk
theorem cT {t t':TypeId}{a b:Operand}{op:BinOp}{k:IntKind}{x y:Int}{p:Prop}(hk:SK P ops nt L l ((d,.one (.bool true))::al) hs fun bs=>K (quiet::bs)) (ho:o.op = .binOp op t a b t':=by exact rfl) (hw:aj ops (rg al) o=some true:=by exact rfl) (hd:o.dst=some d:=by exact rfl) (hlt:Nat.blt d nt=true:=by exact rfl) (ha:ag (rg al) a = .one (.int k x):=by exact rfl) (hb:ag (rg al) b = .one (.int k y):=by exact rfl) (hp:yu op x y=some p:=by exact rfl) (h:p:=by(show(_:Prop);first|omega|exact of_decide_eq_true rfl)):SK P ops nt L (o::l) al hs K:=
 vn ho hw hd hlt ha hb hp (fun _=>hk) (fun n=>absurd h n)
theorem cF {t t':TypeId}{a b:Operand}{op:BinOp}{k:IntKind}{x y:Int}{p:Prop}(hk:SK P ops nt L l ((d,.one (.bool false))::al) hs fun bs=>K (quiet::bs)) (ho:o.op = .binOp op t a b t':=by exact rfl) (hw:aj ops (rg al) o=some true:=by exact rfl) (hd:o.dst=some d:=by exact rfl) (hlt:Nat.blt d nt=true:=by exact rfl) (ha:ag (rg al) a = .one (.int k x):=by exact rfl) (hb:ag (rg al) b = .one (.int k y):=by exact rfl) (hp:yu op x y=some p:=by exact rfl) (h:¬p:=by(show¬(_:Prop);first|omega|exact of_decide_eq_false rfl)):SK P ops nt L (o::l) al hs K:=
 vn ho hw hd hlt ha hb hp (fun n=>absurd n h) (fun _=>hk)
theorem cX {t t':TypeId}{a b:Operand}{op:BinOp}{k:IntKind}{x y:Int}{p:Prop}(h1:p→SK P ops nt L l ((d,.one (.bool true))::al) hs fun bs=>K (quiet::bs)) (h2:¬p→SK P ops nt L l ((d,.one (.bool false))::al) hs fun bs=>K (quiet::bs)) (ho:o.op = .binOp op t a b t':=by exact rfl) (hw:aj ops (rg al) o=some true:=by exact rfl) (hd:o.dst=some d:=by exact rfl) (hlt:Nat.blt d nt=true:=by exact rfl) (ha:ag (rg al) a = .one (.int k x):=by exact rfl) (hb:ag (rg al) b = .one (.int k y):=by exact rfl) (hp:yu op x y=some p:=by exact rfl):SK P ops nt L (o::l) al hs K:=
 vn ho hw hd hlt ha hb hp h1 h2
theorem Ln {t t':TypeId}{a b:Operand}{x y:Bool}(hk:SK P ops nt L l ((d,.one (.bool (!(x == y))))::al) hs fun bs=>K (quiet::bs)) (ho:o.op = .binOp .neq t a b t':=by exact rfl) (hw:aj ops (rg al) o=some true:=by exact rfl) (hd:o.dst=some d:=by exact rfl) (hlt:Nat.blt d nt=true:=by exact rfl) (hu:aY P t .bool:=by infer_instance) (hg:P.eqGuardType P.depth t=false:=by kernel_rfl) (ha:ag (rg al) a = .one (.bool x):=by exact rfl) (hb:ag (rg al) b = .one (.bool y):=by exact rfl):SK P ops nt L (o::l) al hs K:=
 SK.lift hd hlt (fun _=>aE.pure hw (by rw [ho];simp only [bk,ha,hb,qm,vG,hg,Bool.false_eq_true,if_false,c_,hu.out,vF,Option.map_some])) hk
theorem Mp {t t' e:TypeId}{a b:Operand}{i off:Nat}(hk:SK P ops nt L l ((d,.one (.bool false))::al) hs fun bs=>K (quiet::bs)) (ho:o.op = .binOp .eql t a b t':=by exact rfl) (hw:aj ops (rg al) o=some true:=by exact rfl) (hd:o.dst=some d:=by exact rfl) (hlt:Nat.blt d nt=true:=by exact rfl) (hu:aY P t (.pointer e):=by infer_instance) (ha:ag (rg al) a = .one (.ptr i off):=by exact rfl) (hb:ag (rg al) b = .one .nilp:=by exact rfl):SK P ops nt L (o::l) al hs K:=
 SK.lift hd hlt (fun _=>aE.pure hw (by rw [ho];simp only [bk,ha,hb,qm,vG,c_,hu.out,vF,Option.map_some])) hk
theorem MI {t t' e:TypeId}{a b:Operand}{i off:Nat}(hk:SK P ops nt L l ((d,.one (.bool true))::al) hs fun bs=>K (quiet::bs)) (ho:o.op = .binOp .neq t a b t':=by exact rfl) (hw:aj ops (rg al) o=some true:=by exact rfl) (hd:o.dst=some d:=by exact rfl) (hlt:Nat.blt d nt=true:=by exact rfl) (hu:aY P t (.pointer e):=by infer_instance) (ha:ag (rg al) a = .one (.ptr i off):=by exact rfl) (hb:ag (rg al) b = .one .nilp:=by exact rfl):SK P ops nt L (o::l) al hs K:=
 SK.lift hd hlt (fun _=>aE.pure hw (by rw [ho];simp only [bk,ha,hb,qm,vG,c_,hu.out,vF,Option.map_some,Bool.not_false])) hk
theorem MH {a b:Operand}{ts:Array TypeId}{k k':IntKind}{x y:Int}(hk:SK P ops nt L l ((d,.one (.int k x))::al) hs fun bs=>K (quiet::bs)) (ho:o.op = .call ⟨.builtin .max,#[a,b],ts⟩:=by exact rfl) (hw:aj ops (rg al) o=some true:=by exact rfl) (hd:o.dst=some d:=by exact rfl) (hlt:Nat.blt d nt=true:=by exact rfl) (ha:ag (rg al) a = .one (.int k x):=by exact rfl) (hb:ag (rg al) b = .one (.int k' y):=by exact rfl) (h:max x y=x:=by first|exact Int.max_eq_left (by omega)):SK P ops nt L (o::l) al hs K:=
 EP ho hw hd hlt ha hb h hk
theorem Le {a b:Operand}{ts:Array TypeId}{k k':IntKind}{x y:Int}(hk:SK P ops nt L l ((d,.one (.int k (max x y)))::al) hs fun bs=>K (quiet::bs)) (ho:o.op = .call ⟨.builtin .max,#[a,b],ts⟩:=by exact rfl) (hw:aj ops (rg al) o=some true:=by exact rfl) (hd:o.dst=some d:=by exact rfl) (hlt:Nat.blt d nt=true:=by exact rfl) (ha:ag (rg al) a = .one (.int k x):=by exact rfl) (hb:ag (rg al) b = .one (.int k' y):=by exact rfl):SK P ops nt L (o::l) al hs K:=
 EP ho hw hd hlt ha hb rfl hk
theorem MD {a b:Operand}{ts:Array TypeId}{k k':IntKind}{x y:Int}(hk:SK P ops nt L l ((d,.one (.int k x))::al) hs fun bs=>K (quiet::bs)) (ho:o.op = .call ⟨.builtin .min,#[a,b],ts⟩:=by exact rfl) (hw:aj ops (rg al) o=some true:=by exact rfl) (hd:o.dst=some d:=by exact rfl) (hlt:Nat.blt d nt=true:=by exact rfl) (ha:ag (rg al) a = .one (.int k x):=by exact rfl) (hb:ag (rg al) b = .one (.int k' y):=by exact rfl) (h:min x y=x:=by first|exact Int.min_eq_left (by omega)):SK P ops nt L (o::l) al hs K:=
 ER ho hw hd hlt ha hb h hk
theorem Mc {a b:Operand}{ts:Array TypeId}{k k':IntKind}{x y:Int}(hk:SK P ops nt L l ((d,.one (.int k (min x y)))::al) hs fun bs=>K (quiet::bs)) (ho:o.op = .call ⟨.builtin .min,#[a,b],ts⟩:=by exact rfl) (hw:aj ops (rg al) o=some true:=by exact rfl) (hd:o.dst=some d:=by exact rfl) (hlt:Nat.blt d nt=true:=by exact rfl) (ha:ag (rg al) a = .one (.int k x):=by exact rfl) (hb:ag (rg al) b = .one (.int k' y):=by exact rfl):SK P ops nt L (o::l) al hs K:=
 ER ho hw hd hlt ha hb rfl hk
theorem cv {s t:TypeId}{y:Operand}{u:TypeDesc}{k k':IntKind}{x:Int}(hk:SK P ops nt L l ((d,.one (.int k' x))::al) hs fun bs=>K (quiet::bs)) (ho:o.op = .convert s t y:=by exact rfl) (hw:aj ops (rg al) o=some true:=by exact rfl) (hd:o.dst=some d:=by exact rfl) (hlt:Nat.blt d nt=true:=by exact rfl) (hy:ag (rg al) y = .one (.int k x):=by exact rfl) (h1:aY P s u:=by infer_instance) (h2:aY P t (.int k'):=by infer_instance) (h:tH k' x:=by(show _∧_;omega)):SK P ops nt L (o::l) al hs K:=
 Hr ho hw hd hlt hy (fN h) hk
theorem nl {a:Operand}{i off:Nat}(hk:SK P ops nt L l ((d,.one (.ptr i off))::al) hs fun bs=>K (quiet::bs)) (ho:o.op = .nilCheck a:=by exact rfl) (hw:aj ops (rg al) o=some true:=by exact rfl) (hd:o.dst=some d:=by exact rfl) (hlt:Nat.blt d nt=true:=by exact rfl) (ha:ag (rg al) a = .one (.ptr i off):=by exact rfl):SK P ops nt L (o::l) al hs K:=
 Jz ho hw hd hlt ha hk
theorem fa {s:TypeId}{a:Operand}{f:Nat}{i off:Nat}{ft:TypeId}{fo z:Nat}{p:Nat}(hk:SK P ops nt L l ((d,.one (.ptr i p))::al) hs fun bs=>K (quiet::bs)) (ho:o.op = .fieldAddr s a f:=by exact rfl) (hw:aj ops (rg al) o=some true:=by exact rfl) (hd:o.dst=some d:=by exact rfl) (hlt:Nat.blt d nt=true:=by exact rfl) (ha:ag (rg al) a = .one (.ptr i off):=by exact rfl) (hf:cA P s f ft fo:=by infer_instance) (hz:aT P ft (z+1):=by infer_instance) (hp:off+fo=p:=by first|(simp only [Nat.zero_add,Nat.mul_one,Nat.reduceAdd,Nat.reduceMul,Int.reduceSub,Int.reduceAdd,Int.reduceMul,Int.reduceDiv,Int.reduceMod,Int.reduceToNat,Nat.add_zero,Int.toNat_natCast];exact rfl)|exact rfl):SK P ops nt L (o::l) al hs K:=
 Jv ho hw hd hlt ha hp hk
theorem Mt {t:TypeId}{a b:Operand}{elem:TypeId}{s:Nat}{k:IntKind}{z:Int}{i off len:Nat}{p:Nat}(hk:SK P ops nt L l ((d,.one (.ptr i p))::al) hs fun bs=>K (quiet::bs)) (ho:o.op = .indexAddr t a b:=by exact rfl) (hw:aj ops (rg al) o=some true:=by exact rfl) (hd:o.dst=some d:=by exact rfl) (hlt:Nat.blt d nt=true:=by exact rfl) (hb:ag (rg al) b = .one (.int k z):=by exact rfl) (ha:ag (rg al) a = .one (.ptr i off):=by exact rfl) (hu:aY P t (.array len elem):=by infer_instance) (hs':aT P elem s:=by infer_instance) (hz:0≤z∧z<(len:Nat):=by first|omega|decide) (hp:off+z.toNat*s=p:=by first|(simp only [Nat.zero_add,Nat.mul_one,Nat.reduceAdd,Nat.reduceMul,Int.reduceSub,Int.reduceAdd,Int.reduceMul,Int.reduceDiv,Int.reduceMod,Int.reduceToNat,Nat.add_zero,Int.toNat_natCast];exact rfl)|exact rfl):SK P ops nt L (o::l) al hs K:=
 Hv ho hw hd hlt ha hb hz hp hk
theorem Mu {t:TypeId}{a b:Operand}{elem:TypeId}{s:Nat}{k:IntKind}{z:Int}{i off len:Nat}{cap:rE}{p:Nat}(hk:SK P ops nt L l ((d,.one (.ptr i p))::al) hs fun bs=>K (quiet::bs)) (ho:o.op = .indexAddr t a b:=by exact rfl) (hw:aj ops (rg al) o=some true:=by exact rfl) (hd:o.dst=some d:=by exact rfl) (hlt:Nat.blt d nt=true:=by exact rfl) (hb:ag (rg al) b = .one (.int k z):=by exact rfl) (ha:ag (rg al) a = .one (.slice i off len cap):=by exact rfl) (hu:aY P t (.slice elem):=by infer_instance) (hs':aT P elem s:=by infer_instance) (hz:0≤z∧z<(len:Nat):=by first|omega|decide) (hp:off+z.toNat*s=p:=by first|(simp only [Nat.zero_add,Nat.mul_one,Nat.reduceAdd,Nat.reduceMul,Int.reduceSub,Int.reduceAdd,Int.reduceMul,Int.reduceDiv,Int.reduceMod,Int.reduceToNat,Nat.add_zero,Int.toNat_natCast];exact rfl)|exact rfl):SK P ops nt L (o::l) al hs K:=
 AB ho hw hd hlt ha hb hz hp hk
theorem Mr {t:TypeId}{a b:Operand}{elem:TypeId}{s:Nat}{k:IntKind}{z:Int}{i off len:Nat}{c:XC}{p:Nat}(hk:SK P ops nt L l ((d,.one (.ptr i p))::al) hs fun bs=>K (quiet::bs)) (ho:o.op = .indexAddr t a b:=by exact rfl) (hw:aj ops (rg al) o=some true:=by exact rfl) (hd:o.dst=some d:=by exact rfl) (hlt:Nat.blt d nt=true:=by exact rfl) (hb:ag (rg al) b = .one (.int k z):=by exact rfl) (ha:ag (rg al) a = .one c:=by exact rfl) (hc:gl c i off len:=by assumption) (hu:aY P t (.slice elem):=by infer_instance) (hs':aT P elem s:=by infer_instance) (hz:0≤z∧z<(len:Nat):=by first|omega|decide) (hp:off+z.toNat*s=p:=by first|(simp only [Nat.zero_add,Nat.mul_one,Nat.reduceAdd,Nat.reduceMul,Int.reduceSub,Int.reduceAdd,Int.reduceMul,Int.reduceDiv,Int.reduceMod,Int.reduceToNat,Nat.add_zero,Int.toNat_natCast];exact rfl)|exact rfl):SK P ops nt L (o::l) al hs K:=
 Hu ho hw hd hlt ha hb hc hz hp hk
theorem Ms {t:TypeId}{a b:Operand}{elem:TypeId}{s:Nat}{k:IntKind}{z:Int}{i n sz:Nat}{p:Nat}(hk:SK P ops nt L l ((d,.one (.ptr i p))::al) hs fun bs=>K (quiet::bs)) (ho:o.op = .indexAddr t a b:=by exact rfl) (hw:aj ops (rg al) o=some true:=by exact rfl) (hd:o.dst=some d:=by exact rfl) (hlt:Nat.blt d nt=true:=by exact rfl) (hb:ag (rg al) b = .one (.int k z):=by exact rfl) (ha:ag (rg al) a=iT i n sz:=by exact rfl) (hu:aY P t (.slice elem):=by infer_instance) (hs':aT P elem s:=by infer_instance) (hz:0≤z∧z<(n:Nat):=by omega) (hp:0+z.toNat*s=p:=by first|(simp only [Nat.zero_add,Nat.mul_one,Nat.reduceAdd,Nat.reduceMul,Int.reduceSub,Int.reduceAdd,Int.reduceMul,Int.reduceDiv,Int.reduceMod,Int.reduceToNat,Nat.add_zero,Int.toNat_natCast];exact rfl)|exact rfl):SK P ops nt L (o::l) al hs K:=
 AB ho hw hd hlt (ha.trans (nU (by omega))) hb hz hp hk
theorem MB {a:Operand}{t elem:TypeId}{i off len:Nat}{cap:rE}(hk:SK P ops nt L l ((d,.one (.int .i64 (len:Nat)))::al) hs fun bs=>K (quiet::bs)) (ho:o.op = .call ⟨.builtin .len,#[a],#[t]⟩:=by exact rfl) (hw:aj ops (rg al) o=some true:=by exact rfl) (hd:o.dst=some d:=by exact rfl) (hlt:Nat.blt d nt=true:=by exact rfl) (ha:ag (rg al) a = .one (.slice i off len cap):=by exact rfl) (hu:aY P t (.slice elem):=by infer_instance):SK P ops nt L (o::l) al hs K:=
 Hy ho hw hd hlt ha hk
theorem MA {a:Operand}{t elem:TypeId}(hk:SK P ops nt L l ((d,.one (.int .i64 0))::al) hs fun bs=>K (quiet::bs)) (ho:o.op = .call ⟨.builtin .len,#[a],#[t]⟩:=by exact rfl) (hw:aj ops (rg al) o=some true:=by exact rfl) (hd:o.dst=some d:=by exact rfl) (hlt:Nat.blt d nt=true:=by exact rfl) (ha:ag (rg al) a = .one .nils:=by exact rfl) (hu:aY P t (.slice elem):=by infer_instance):SK P ops nt L (o::l) al hs K:=
 SK.lift hd hlt (fun _=>aE.pure hw (by rw [ho];simp [bk,eO,ha,xR,hu.out])) hk
theorem My {a:Operand}{t elem:TypeId}{i off len:Nat}{c:XC}(hk:SK P ops nt L l ((d,.one (.int .i64 (len:Nat)))::al) hs fun bs=>K (quiet::bs)) (ho:o.op = .call ⟨.builtin .len,#[a],#[t]⟩:=by exact rfl) (hw:aj ops (rg al) o=some true:=by exact rfl) (hd:o.dst=some d:=by exact rfl) (hlt:Nat.blt d nt=true:=by exact rfl) (ha:ag (rg al) a = .one c:=by exact rfl) (hc:gl c i off len:=by assumption) (hu:aY P t (.slice elem):=by infer_instance):SK P ops nt L (o::l) al hs K:=
 Hw ho hw hd hlt ha hc hk
theorem Mz {a:Operand}{t elem:TypeId}{i n sz:Nat}(hk:SK P ops nt L l ((d,.one (.int .i64 (n:Nat)))::al) hs fun bs=>K (quiet::bs)) (ho:o.op = .call ⟨.builtin .len,#[a],#[t]⟩:=by exact rfl) (hw:aj ops (rg al) o=some true:=by exact rfl) (hd:o.dst=some d:=by exact rfl) (hlt:Nat.blt d nt=true:=by exact rfl) (ha:ag (rg al) a=iT i n sz:=by exact rfl) (hu:aY P t (.slice elem):=by infer_instance):SK P ops nt L (o::l) al hs K:=
 Hx ho hw hd hlt ha hk
theorem fd {s:TypeId}{a:Operand}{f:Nat}{cs:List XC}{ft:TypeId}{fo:Nat}{c:XC}(hk:SK P ops nt L l ((d,.one c)::al) hs fun bs=>K (quiet::bs)) (ho:o.op = .field s a f:=by exact rfl) (hw:aj ops (rg al) o=some true:=by exact rfl) (hd:o.dst=some d:=by exact rfl) (hlt:Nat.blt d nt=true:=by exact rfl) (ha:ag (rg al) a = .agg cs:=by exact rfl) (hf:cA P s f ft fo:=by infer_instance) (hz:dw P ft:=by infer_instance) (hc:cs[fo]? = some c:=by exact rfl):SK P ops nt L (o::l) al hs K:=
 EL ho hw hd hlt ha hc hk
theorem M3 {a:Operand}{i:Nat}{vs:List X1}{c:XC}(hk:SK P ops nt L l ((d,.one c)::al) hs fun bs=>K (quiet::bs)) (ho:o.op = .extract a i:=by exact rfl) (hw:aj ops (rg al) o=some true:=by exact rfl) (hd:o.dst=some d:=by exact rfl) (hlt:Nat.blt d nt=true:=by exact rfl) (ha:ag (rg al) a = .tup vs:=by exact rfl) (hc:vs[i]? = some (.one c):=by exact rfl):SK P ops nt L (o::l) al hs K:=
 Ju ho hw hd hlt ha hc hk
theorem M4 {a:Operand}{i:Nat}{vs:List X1}{c:List XC}(hk:SK P ops nt L l ((d,.agg c)::al) hs fun bs=>K (quiet::bs)) (ho:o.op = .extract a i:=by exact rfl) (hw:aj ops (rg al) o=some true:=by exact rfl) (hd:o.dst=some d:=by exact rfl) (hlt:Nat.blt d nt=true:=by exact rfl) (ha:ag (rg al) a = .tup vs:=by exact rfl) (hc:vs[i]? = some (.agg c):=by exact rfl):SK P ops nt L (o::l) al hs K:=
 Hs ho hw hd hlt ha hc hk
theorem L9 (T:Nat→Int) {t:TypeId}{x ix:Operand}{s:List UInt8}{k:IntKind}{z:Int}(hk:SK P ops nt L l ((d,.one (.int .u8 (T z.toNat)))::al) hs fun bs=>K (quiet::bs)) (ho:o.op = .index t x ix:=by exact rfl) (hw:aj ops (rg al) o=some true:=by exact rfl) (hd:o.dst=some d:=by exact rfl) (hlt:Nat.blt d nt=true:=by exact rfl) (hu:aY P t .string:=by infer_instance) (ha:ag (rg al) x = .one (.str s):=by exact rfl) (hb:ag (rg al) ix = .one (.int k z):=by exact rfl) (hz:0≤z∧z<256:=by omega) (hT:∀ i:Fin 256,s[i.val]?.map (fun b=>(b.toNat:Int))=some (T i.val):=by decide +kernel):SK P ops nt L (o::l) al hs K:=
 Jw T ho hw hd hlt ha hb hz hT hk
theorem ld {t:TypeId}{a:Operand}{i off:Nat}{vs:List XC}{e:TypeId}{opn ro:Bool}{c:XC}(hk:SK P ops nt L l ((d,.one c)::al) hs fun bs=>K (⟨false,some i,[]⟩::bs)) (ho:o.op = .load t a:=by exact rfl) (ht:dw P t:=by infer_instance) (hw:aj ops (rg al) o=some true:=by exact rfl) (hd:o.dst=some d:=by exact rfl) (hlt:Nat.blt d nt=true:=by exact rfl) (ha:ag (rg al) a = .one (.ptr i off):=by exact rfl) (hi:hs[i]? = some (.cells vs e opn ro):=by exact rfl) (hc:vs[off]? = some c:=by exact rfl):SK P ops nt L (o::l) al hs K:=
 f6 ho hw hd hlt ha hi hc hk
theorem Mv {t:TypeId}{a:Operand}{i off:Nat}{k:IntKind}{q:List Int}{e:TypeId}{opn ro:Bool}(hk:SK P ops nt L l ((d,.one (.int k (q.getD off 0)))::al) hs fun bs=>K (⟨false,some i,[]⟩::bs)) (ho:o.op = .load t a:=by exact rfl) (ht:dw P t:=by infer_instance) (hw:aj ops (rg al) o=some true:=by exact rfl) (hd:o.dst=some d:=by exact rfl) (hlt:Nat.blt d nt=true:=by exact rfl) (ha:ag (rg al) a = .one (.ptr i off):=by exact rfl) (hi:hs[i]? = some (.cells (il k q) e opn ro):=by exact rfl) (hc:off<q.length:=by first|omega|decide|(simp only [ed,bc,List.length_cons,List.length_nil,List.length_set,List.length_append,List.length_replicate];first|omega|decide)):SK P ops nt L (o::l) al hs K:=
 f6 ho hw hd hlt ha hi (DC hc) hk
theorem Mx {t:TypeId}{a:Operand}{i off:Nat}{k:IntKind}{q:List Int}{e:TypeId}(hk:SK P ops nt L l ((d,.one (.int k (q.getD off 0)))::al) hs fun bs=>K (⟨false,some i,[]⟩::bs)) (ho:o.op = .load t a:=by exact rfl) (ht:dw P t:=by infer_instance) (hw:aj ops (rg al) o=some true:=by exact rfl) (hd:o.dst=some d:=by exact rfl) (hlt:Nat.blt d nt=true:=by exact rfl) (ha:ag (rg al) a = .one (.ptr i off):=by exact rfl) (hi:hs[i]? = some (c8 e (il k q)):=by exact rfl) (hc:off<q.length:=by first|omega|decide|(simp only [ed,bc,List.length_cons,List.length_nil,List.length_set,List.length_append,List.length_replicate];first|omega|decide)):SK P ops nt L (o::l) al hs K:=
 f6 ho hw hd hlt ha (hi.trans (congrArg some (iu (fun hn=>by rw [show q = [] by simpa [il]using hn]at hc;exact absurd hc (Nat.not_lt_zero _))))) (DC hc) hk
theorem Mw {t:TypeId}{a:Operand}{i off:Nat}{k:IntKind}{n:Nat}{q:Nat→Int}{e:TypeId}{opn ro:Bool}(hk:SK P ops nt L l ((d,.one (.int k (q off)))::al) hs fun bs=>K (⟨false,some i,[]⟩::bs)) (ho:o.op = .load t a:=by exact rfl) (ht:dw P t:=by infer_instance) (hw:aj ops (rg al) o=some true:=by exact rfl) (hd:o.dst=some d:=by exact rfl) (hlt:Nat.blt d nt=true:=by exact rfl) (ha:ag (rg al) a = .one (.ptr i off):=by exact rfl) (hi:hs[i]? = some (.cells (ti k n q) e opn ro):=by exact rfl) (hc:off<n:=by omega):SK P ops nt L (o::l) al hs K:=
 f6 ho hw hd hlt ha hi (jW hc) hk
theorem jq {t:TypeId}{a:Operand}{s:Nat}{i:Nat}{vs:List XC}{e:TypeId}{opn ro:Bool}(hk:SK P ops nt L l ((d,.agg vs)::al) hs fun bs=>K (⟨false,some i,[]⟩::bs)) (ho:o.op = .load t a:=by exact rfl) (ht:eE P t:=by infer_instance) (hs':aT P t s:=by infer_instance) (hw:aj ops (rg al) o=some true:=by exact rfl) (hd:o.dst=some d:=by exact rfl) (hlt:Nat.blt d nt=true:=by exact rfl) (ha:ag (rg al) a = .one (.ptr i 0):=by exact rfl) (hi:hs[i]? = some (.cells vs e opn ro):=by exact rfl) (hle:s=vs.length:=by exact rfl):SK P ops nt L (o::l) al hs K:=
 zd ho hw hd hlt ha hi hle hk
theorem t9 {t:TypeId}{a:Operand}{s:Nat}{i off:Nat}{vs:List XC}{e:TypeId}{opn ro:Bool}{cs:List XC}(hk:SK P ops nt L l ((d,.agg cs)::al) hs fun bs=>K (⟨false,some i,[]⟩::bs)) (ho:o.op = .load t a:=by exact rfl) (ht:eE P t:=by infer_instance) (hs':aT P t s:=by infer_instance) (hw:aj ops (rg al) o=some true:=by exact rfl) (hd:o.dst=some d:=by exact rfl) (hlt:Nat.blt d nt=true:=by exact rfl) (ha:ag (rg al) a = .one (.ptr i off):=by exact rfl) (hi:hs[i]? = some (.cells vs e opn ro):=by exact rfl) (hle:off+s≤vs.length:=by first|exact Nat.le_of_ble_eq_true rfl|decide) (hc:(vs.drop off).take s=cs:=by exact rfl):SK P ops nt L (o::l) al hs K:=
 sO ho hw hd hlt ha hi hle hc hk
theorem qA {t:TypeId}{zs:List XC}{n:Nat}{hs':aq}(hk:SK P ops nt L l ((d,.one (.ptr n 0))::al) hs' fun bs=>K (⟨true,.none,[n]⟩::bs)) (ho:o.op = .alloc t:=by exact rfl) (hz:bz P t zs:=by infer_instance) (hw:aj ops (rg al) o=some true:=by exact rfl) (hd:o.dst=some d:=by exact rfl) (hlt:Nat.blt d nt=true:=by exact rfl) (hn:hs.length=n:=by first|(simp only [List.length_cons,List.length_nil,List.length_append,Nat.reduceAdd,Nat.zero_add,List.length_set];exact rfl)|exact rfl) (hb:Nat.blt n Mem.bound=true:=by exact rfl) (hh:hs++[.cells zs t false false]=hs':=by first|(simp only [List.cons_append,List.nil_append];exact rfl)|exact rfl):SK P ops nt L (o::l) al hs K:=
 EI ho hw hd hlt hn hb hh hk
theorem bx {t:TypeId}{y:Operand}{cs:List XC}{n:Nat}{hs':aq}(hk:SK P ops nt L l ((d,.one (.ptr n 0))::al) hs' fun bs=>K (⟨true,.none,[n]⟩::bs)) (ho:o.op = .box t y:=by exact rfl) (hw:aj ops (rg al) o=some true:=by exact rfl) (hd:o.dst=some d:=by exact rfl) (hlt:Nat.blt d nt=true:=by exact rfl) (hy:cW (ag (rg al) y)=some cs:=by exact rfl) (hn:hs.length=n:=by first|(simp only [List.length_cons,List.length_nil,List.length_append,Nat.reduceAdd,Nat.zero_add,List.length_set];exact rfl)|exact rfl) (hb:Nat.blt n Mem.bound=true:=by exact rfl) (hh:hs++[.cells cs t false false]=hs':=by first|(simp only [List.cons_append,List.nil_append];exact rfl)|exact rfl):SK P ops nt L (o::l) al hs K:=
 Jr ho hw hd hlt hy hn hb hh hk
theorem mm {t:TypeId}{n:Nat}{hs':aq}(hk:SK P ops nt L l ((d,.one (.map n))::al) hs' fun bs=>K (⟨true,.none,[n]⟩::bs)) (ho:o.op = .makeMap t .none:=by exact rfl) (hw:aj ops (rg al) o=some true:=by exact rfl) (hd:o.dst=some d:=by exact rfl) (hlt:Nat.blt d nt=true:=by exact rfl) (hn:hs.length=n:=by first|(simp only [List.length_cons,List.length_nil,List.length_append,Nat.reduceAdd,Nat.zero_add,List.length_set];exact rfl)|exact rfl) (hb:Nat.blt n Mem.bound=true:=by exact rfl) (hh:hs++[.map []]=hs':=by first|(simp only [List.cons_append,List.nil_append];exact rfl)|exact rfl):SK P ops nt L (o::l) al hs K:=
 ze ho hw hd hlt hn hb hh hk
theorem st {t:TypeId}{a y:Operand}{i off:Nat}{c:XC}{vs:List XC}{e:TypeId}{opn:Bool}{vs':List XC}{hs':aq}(hk:SK P ops nt L l al hs' fun bs=>K (⟨true,.none,[i]⟩::bs)) (ho:o.op = .store t a y:=by exact rfl) (ht:aT P t 1:=by infer_instance) (hw:aj ops (rg al) o=some true:=by exact rfl) (hd:o.dst = .none:=by exact rfl) (ha:ag (rg al) a = .one (.ptr i off):=by exact rfl) (hy:cW (ag (rg al) y)=some [c]:=by exact rfl) (hi:hs[i]? = some (.cells vs e opn false):=by exact rfl) (hle:off<vs.length:=by first|exact Nat.le_of_ble_eq_true rfl|decide) (hv:vs.set off c=vs':=by first|(simp only [List.set_cons_succ,List.set_cons_zero];exact rfl)|exact rfl) (hh:hs.set i (.cells vs' e opn false)=hs':=by first|(simp only [List.set_cons_succ,List.set_cons_zero];exact rfl)|exact rfl):SK P ops nt L (o::l) al hs K:=
 jU ho hw hd ha hy hi hle hv hh hk
theorem MW {t:TypeId}{a y:Operand}{i off:Nat}{k:IntKind}{z:Int}{q:List Int}{e:TypeId}{opn:Bool}{hs':aq}(hk:SK P ops nt L l al hs' fun bs=>K (⟨true,.none,[i]⟩::bs)) (ho:o.op = .store t a y:=by exact rfl) (ht:aT P t 1:=by infer_instance) (hw:aj ops (rg al) o=some true:=by exact rfl) (hd:o.dst = .none:=by exact rfl) (ha:ag (rg al) a = .one (.ptr i off):=by exact rfl) (hy:cW (ag (rg al) y)=some [.int k z]:=by exact rfl) (hi:hs[i]? = some (.cells (il k q) e opn false):=by exact rfl) (hle:off<q.length:=by first|omega|decide|(simp only [ed,bc,List.length_cons,List.length_nil,List.length_set,List.length_append,List.length_replicate];first|omega|decide)) (hh:hs.set i (.cells (il k (q.set off z)) e opn false)=hs':=by first|(simp only [List.set_cons_succ,List.set_cons_zero];exact rfl)|exact rfl):SK P ops nt L (o::l) al hs K:=
 jU ho hw hd ha hy hi (by rw [ed];exact hle) (DD ..) hh hk
theorem MY {t:TypeId}{a y:Operand}{i off:Nat}{k:IntKind}{z:Int}{q:List Int}{e:TypeId}{hs':aq}(hk:SK P ops nt L l al hs' fun bs=>K (⟨true,.none,[i]⟩::bs)) (ho:o.op = .store t a y:=by exact rfl) (ht:aT P t 1:=by infer_instance) (hw:aj ops (rg al) o=some true:=by exact rfl) (hd:o.dst = .none:=by exact rfl) (ha:ag (rg al) a = .one (.ptr i off):=by exact rfl) (hy:cW (ag (rg al) y)=some [.int k z]:=by exact rfl) (hi:hs[i]? = some (c8 e (il k q)):=by exact rfl) (hle:off<q.length:=by first|omega|decide|(simp only [ed,bc,List.length_cons,List.length_nil,List.length_set,List.length_append,List.length_replicate];first|omega|decide)) (hh:hs.set i (c8 e (il k (q.set off z)))=hs':=by first|(simp only [List.set_cons_succ,List.set_cons_zero];exact rfl)|exact rfl):SK P ops nt L (o::l) al hs K:=
 BY ho hw hd ha hy hi hle hh hk
theorem MX {t:TypeId}{a y:Operand}{i off:Nat}{k:IntKind}{z:Int}{n:Nat}{q:Nat→Int}{e:TypeId}{opn:Bool}{hs':aq}(hk:SK P ops nt L l al hs' fun bs=>K (⟨true,.none,[i]⟩::bs)) (ho:o.op = .store t a y:=by exact rfl) (ht:aT P t 1:=by infer_instance) (hw:aj ops (rg al) o=some true:=by exact rfl) (hd:o.dst = .none:=by exact rfl) (ha:ag (rg al) a = .one (.ptr i off):=by exact rfl) (hy:cW (ag (rg al) y)=some [.int k z]:=by exact rfl) (hi:hs[i]? = some (.cells (ti k n q) e opn false):=by exact rfl) (hle:off<n:=by omega) (hh:hs.set i (.cells (ti k n (fw q off z)) e opn false)=hs':=by first|(simp only [List.set_cons_succ,List.set_cons_zero];exact rfl)|exact rfl):SK P ops nt L (o::l) al hs K:=
 jU ho hw hd ha hy hi (by rw [bc];exact hle) (qi ..) hh hk
theorem jC {t:TypeId}{a y:Operand}{s:Nat}{i:Nat}{cs:List XC}{vs:List XC}{e:TypeId}{opn:Bool}{hs':aq}(hk:SK P ops nt L l al hs' fun bs=>K (⟨true,.none,[i]⟩::bs)) (ho:o.op = .store t a y:=by exact rfl) (ht:aT P t s:=by infer_instance) (hw:aj ops (rg al) o=some true:=by exact rfl) (hd:o.dst = .none:=by exact rfl) (ha:ag (rg al) a = .one (.ptr i 0):=by exact rfl) (hy:cW (ag (rg al) y)=some cs:=by exact rfl) (hi:hs[i]? = some (.cells vs e opn false):=by exact rfl) (hs1:s=cs.length:=by exact rfl) (hs2:s=vs.length:=by exact rfl) (hh:hs.set i (.cells cs e opn false)=hs':=by first|(simp only [List.set_cons_succ,List.set_cons_zero];exact rfl)|exact rfl):SK P ops nt L (o::l) al hs K:=
 BZ ho hw hd ha hy hi hs1 hs2 hh hk
theorem KD {α : Type}{enc : α→List XC}{s:Nat} [hE:pU enc s] [Inhabited α] {t:TypeId}{a:Operand}{i off:Nat}{e:TypeId}{q:List α}{j:Nat}(hk:SK P ops nt L l ((d,.agg (enc (q.getD j default)))::al) hs fun bs=>K (⟨false,some i,[]⟩::bs)) (ho:o.op = .load t a:=by exact rfl) (ht:eE P t:=by infer_instance) (hs':aT P t s:=by infer_instance) (hw:aj ops (rg al) o=some true:=by exact rfl) (hd:o.dst=some d:=by exact rfl) (hlt:Nat.blt d nt=true:=by exact rfl) (ha:ag (rg al) a = .one (.ptr i off):=by exact rfl) (hi:hs[i]? = some (c8 e (fl enc q)):=by exact rfl) (hj:off=j*s:=by exact rfl) (hc:j<q.length:=by omega):SK P ops nt L (o::l) al hs K:=
 EM ho hw hd hlt ha hi hj hc hk
theorem wV {α : Type}{enc : α→List XC}{s:Nat} [hE:pU enc s] [Inhabited α] {t:TypeId}{a:Operand}{i off:Nat}{ob:ak}{q:List α}{j:Nat}(hk:SK P ops nt L l ((d,.agg (enc (q.getD j default)))::al) hs fun bs=>K (⟨false,some i,[]⟩::bs)) (ho:o.op = .load t a:=by exact rfl) (ht:eE P t:=by infer_instance) (hs':aT P t s:=by infer_instance) (hw:aj ops (rg al) o=some true:=by exact rfl) (hd:o.dst=some d:=by exact rfl) (hlt:Nat.blt d nt=true:=by exact rfl) (ha:ag (rg al) a = .one (.ptr i off):=by exact rfl) (hi:hs[i]? = some ob:=by exact rfl) (hro:v_ ob enc q:=by assumption) (hj:off=j*s:=by exact rfl) (hc:j<q.length:=by omega):SK P ops nt L (o::l) al hs K:=
 BX ho hw hd hlt ha hi hro hj hc hk
theorem b0 {t:TypeId}{zs:List XC}{pl:List (Nat × Nat)}(hk:SK P ops nt L l ((d,.agg zs)::al) hs fun bs=>K (quiet::bs)) (ho:o.op = .build t #[]:=by exact rfl) (hz:bz P t zs:=by infer_instance) (hp:dD P t pl:=by infer_instance) (hw:aj ops (rg al) o=some true:=by exact rfl) (hd:o.dst=some d:=by exact rfl) (hlt:Nat.blt d nt=true:=by exact rfl):SK P ops nt L (o::l) al hs K:=
 BT ho hw hd hlt hk
theorem Mj {t:TypeId}{zs:List XC}{n:Nat}{e:TypeId}{s:Nat}(hk:SK P ops nt L l ((d,.agg zs)::al) hs fun bs=>K (quiet::bs)) (ho:o.op = .build t #[]:=by exact rfl) (hz:bz P t zs:=by infer_instance) (hu:aY P t (.array n e):=by infer_instance) (hs':aT P e s:=by infer_instance) (hw:aj ops (rg al) o=some true:=by exact rfl) (hd:o.dst=some d:=by exact rfl) (hlt:Nat.blt d nt=true:=by exact rfl):SK P ops nt L (o::l) al hs K:=
 zc ho hw hd hlt hk
theorem bA {t:TypeId}{parts:Array (Nat × Operand)}{zs:List XC}{n:Nat}{e:TypeId}{s:Nat}{out:List XC}{out':List XC}(hk:SK P ops nt L l ((d,.agg out')::al) hs fun bs=>K (quiet::bs)) (ho:o.op = .build t parts:=by exact rfl) (hz:bz P t zs:=by infer_instance) (hu:aY P t (.array n e):=by infer_instance) (hs':aT P e s:=by infer_instance) (hw:aj ops (rg al) o=some true:=by exact rfl) (hd:o.dst=some d:=by exact rfl) (hlt:Nat.blt d nt=true:=by exact rfl) (hr:mZ (fun i=>some (i*s,s)) zs.length 0 (parts.toList.map fun p=>(p.1,ag (rg al) p.2))=true:=by exact rfl) (hc:i_ (parts.toList.map fun p=>(p.1,ag (rg al) p.2))=some out:=by exact rfl) (hn:out=out':=by first|(simp only [List.cons_append,List.nil_append,List.append_nil];exact rfl)|exact rfl):SK P ops nt L (o::l) al hs K:=
 BU ho hw hd hlt hr hc hn hk
theorem bS {t:TypeId}{parts:Array (Nat × Operand)}{zs:List XC}{pl:List (Nat × Nat)}{out:List XC}{out':List XC}(hk:SK P ops nt L l ((d,.agg out')::al) hs fun bs=>K (quiet::bs)) (ho:o.op = .build t parts:=by exact rfl) (hz:bz P t zs:=by infer_instance) (hp:dD P t pl:=by infer_instance) (hw:aj ops (rg al) o=some true:=by exact rfl) (hd:o.dst=some d:=by exact rfl) (hlt:Nat.blt d nt=true:=by exact rfl) (hr:mZ (fun i=>pl[i]?) zs.length 0 (parts.toList.map fun p=>(p.1,ag (rg al) p.2))=true:=by exact rfl) (hc:i_ (parts.toList.map fun p=>(p.1,ag (rg al) p.2))=some out:=by exact rfl) (hn:out=out':=by first|(simp only [List.cons_append,List.nil_append,List.append_nil];exact rfl)|exact rfl):SK P ops nt L (o::l) al hs K:=
 BW ho hw hd hlt hr hc hn hk
theorem bF {t:TypeId}{parts:Array (Nat × Operand)}{zs:List XC}{pl:List (Nat × Nat)}{out:List XC}(hk:SK P ops nt L l ((d,.agg out)::al) hs fun bs=>K (quiet::bs)) (ho:o.op = .build t parts:=by exact rfl) (hz:bz P t zs:=by infer_instance) (hp:dD P t pl:=by infer_instance) (hw:aj ops (rg al) o=some true:=by exact rfl) (hd:o.dst=some d:=by exact rfl) (hlt:Nat.blt d nt=true:=by exact rfl) (hc:gW (fun i=>pl[i]?) zs (parts.toList.map fun p=>(p.1,ag (rg al) p.2))=some out:=by exact rfl):SK P ops nt L (o::l) al hs K:=
 BV ho hw hd hlt hc hk
theorem L5 {t t1 e e1:TypeId}{a b:Operand}{k:IntKind}{i n j len:Nat}{cap:rE}{q r:List Int}{et:TypeId}{opn ro:Bool}{N:Nat}{hs':aq}(hk:SK P ops nt L l ((d,iT N (n+len) 1)::al) hs' fun bs=>K (⟨true,.none,[i,N]⟩::bs)) (ho:o.op = .call ⟨.builtin .append,#[a,b],#[t,t1]⟩:=by exact rfl) (hu:aY P t (.slice e):=by infer_instance) (hu1:aY P t1 (.slice e1):=by infer_instance) (hz:bz P e [.int k 0]:=by infer_instance) (hI:TI P e 1:=by infer_instance) (hw:aj ops (rg al) o=some true:=by exact rfl) (hd:o.dst=some d:=by exact rfl) (hlt:Nat.blt d nt=true:=by exact rfl) (ha:ag (rg al) a=iT i n 1:=by exact rfl) (hi:hs[i]? = some (c8 e (il k q)):=by exact rfl) (hb:ag (rg al) b = .one (.slice j 0 len cap):=by exact rfl) (hj:hs[j]? = some (.cells (il k r) et opn ro):=by exact rfl) (hn:q.length=n:=by first|assumption|exact rfl|(simp only [List.length_append,List.length_cons,List.length_nil];done)|(simp only [List.length_append,List.length_cons,List.length_nil];omega)) (hr:r.length=len:=by first|assumption|exact rfl|(simp only [List.length_append,List.length_cons,List.length_nil];done)|(simp only [List.length_append,List.length_cons,List.length_nil];omega)) (hm:0<len∧n+len≤2000000000:=by omega) (hN:hs.length=N:=by first|(simp only [List.length_cons,List.length_nil,List.length_append,Nat.reduceAdd,Nat.zero_add,List.length_set];exact rfl)|exact rfl) (hbd:Nat.blt N Mem.bound=true:=by exact rfl) (hh:hs.set i .dead++[c8 e (il k (q++r))]=hs':=by first|(simp only [List.set_cons_succ,List.set_cons_zero,List.cons_append,List.nil_append];exact rfl)|exact rfl):SK P ops nt L (o::l) al hs K:=
 Jp ho hw hd hlt ha hi hb hj hn hr hm hN hbd hh hk
theorem L4 {t t1 e e1:TypeId}{a b:Operand}{k:IntKind}{i len n:Nat}{q r:List Int}{et:TypeId}{opn ro:Bool}{N:Nat}{hs':aq}(hr:r.length=n) (hsrc:∀ M,bu M hs→mN P t1 1 (ag (rg al) b) M=some (n,il k r)) (h1:n=0→SK P ops nt L l ((d,.one (.slice i 0 len (.exact len)))::al) hs fun bs=>K (⟨true,.none,[]⟩::bs)) (h2:0<n→SK P ops nt L l ((d,.one (.slice N 0 (len+n) (.toEnd 1)))::al) hs' fun bs=>K (⟨true,.none,[N]⟩::bs)) (ho:o.op = .call ⟨.builtin .append,#[a,b],#[t,t1]⟩:=by exact rfl) (hu:aY P t (.slice e):=by infer_instance) (hu1:aY P t1 (.slice e1):=by infer_instance) (hz:bz P e [.int k 0]:=by infer_instance) (hI:TI P e 1:=by infer_instance) (hw:aj ops (rg al) o=some true:=by exact rfl) (hd:o.dst=some d:=by exact rfl) (hlt:Nat.blt d nt=true:=by exact rfl) (ha:ag (rg al) a = .one (.slice i 0 len (.exact len)):=by exact rfl) (hi:hs[i]? = some (.cells (il k q) et opn ro):=by exact rfl) (hq:q.length=len:=by first|assumption|exact rfl) (hm:len+n≤2000000000:=by omega) (hN:hs.length=N:=by first|(simp only [List.length_cons,List.length_nil,List.length_append,Nat.reduceAdd,Nat.zero_add,List.length_set];exact rfl)|exact rfl) (hbd:Nat.blt N Mem.bound=true:=by exact rfl) (hh:hs++[.cells (il k (q++r)) e true false]=hs':=by first|(simp only [List.cons_append,List.nil_append];exact rfl)|exact rfl):SK P ops nt L (o::l) al hs K:=
 Jo ho hw hd hlt ha hi hq hr hsrc hm hN hbd hh h1 h2
theorem Mm {t t1 e e1:TypeId}{a b:Operand}{k:IntKind}{j len:Nat}{cap:rE}{q r:List Int}{et:TypeId}{opn:Bool}{hs':aq}(hsrc:∀ M,bu M hs→mN P t1 1 (ag (rg al) b) M=some (len,il k r)) (hk:SK P ops nt L l ((d,.one (.int .i64 (len:Nat)))::al) hs' fun bs=>K (⟨true,.none,[j]⟩::bs)) (ho:o.op = .call ⟨.builtin .copy,#[a,b],#[t,t1]⟩:=by exact rfl) (hu:aY P t (.slice e):=by infer_instance) (hu1:aY P t1 (.slice e1):=by infer_instance) (hse:aT P e 1:=by infer_instance) (hw:aj ops (rg al) o=some true:=by exact rfl) (hd:o.dst=some d:=by exact rfl) (hlt:Nat.blt d nt=true:=by exact rfl) (ha:ag (rg al) a = .one (.slice j 0 len cap):=by exact rfl) (hj:hs[j]? = some (.cells (il k q) et opn false):=by exact rfl) (hq:q.length=len:=by first|exact List.length_replicate|assumption|exact rfl) (hr:r.length=len:=by first|assumption|exact rfl) (hh:hs.set j (.cells (il k r) et opn false)=hs':=by first|(simp only [List.set_cons_succ,List.set_cons_zero];exact rfl)|exact rfl):SK P ops nt L (o::l) al hs K:=
 Jt ho hw hd hlt ha hj hq hr hsrc hh hk
theorem ME {t e:TypeId}{a b:Operand}{k:IntKind}{kl kc:IntKind}{x y:Int}{n:Nat}{N:Nat}{hs':aq}(hk:SK P ops nt L l ((d,.one (.slice N 0 n (.exact n)))::al) hs' fun bs=>K (⟨true,.none,[N]⟩::bs)) (ho:o.op = .makeSlice t a b:=by exact rfl) (hu:aY P t (.slice e):=by infer_instance) (hz:bz P e [.int k 0]:=by infer_instance) (hI:TI P e 1:=by infer_instance) (hw:aj ops (rg al) o=some true:=by exact rfl) (hd:o.dst=some d:=by exact rfl) (hlt:Nat.blt d nt=true:=by exact rfl) (ha:ag (rg al) a = .one (.int kl x):=by exact rfl) (hb:ag (rg al) b = .one (.int kc y):=by exact rfl) (hx:x=(n:Nat):=by exact rfl) (hy:y=(n:Nat):=by exact rfl) (hn:n≤2000000000:=by first|omega|exact Nat.le_of_ble_eq_true rfl) (hN:hs.length=N:=by first|(simp only [List.length_cons,List.length_nil,List.length_append,Nat.reduceAdd,Nat.zero_add,List.length_set];exact rfl)|exact rfl) (hbd:Nat.blt N Mem.bound=true:=by exact rfl) (hh:hs++[.cells (il k (List.replicate n 0)) e false false]=hs':=by first|(simp only [List.cons_append,List.nil_append];exact rfl)|exact rfl):SK P ops nt L (o::l) al hs K:=
 Jx ho hw hd hlt ha hb hx hy hn hN hbd hh hk
theorem Lo {t e:TypeId}{k:IntKind}{n:Nat}{hs':aq}(hk:SK P ops nt L l ((d,.one (.slice n 0 0 (.exact 0)))::al) hs' fun bs=>K (⟨true,.none,[n]⟩::bs)) (ho:o.op = .buildSlice t 0 #[]:=by exact rfl) (hu:aY P t (.slice e):=by infer_instance) (hz:bz P e [.int k 0]:=by infer_instance) (hse:aT P e 1:=by infer_instance) (hw:aj ops (rg al) o=some true:=by exact rfl) (hd:o.dst=some d:=by exact rfl) (hlt:Nat.blt d nt=true:=by exact rfl) (hn:hs.length=n:=by first|(simp only [List.length_cons,List.length_nil,List.length_append,Nat.reduceAdd,Nat.zero_add,List.length_set];exact rfl)|exact rfl) (hb:Nat.blt n Mem.bound=true:=by exact rfl) (hh:hs++[.cells (il k []) e false false]=hs':=by first|(simp only [List.cons_append,List.nil_append];exact rfl)|exact rfl):SK P ops nt L (o::l) al hs K:=
 Ho ho hw hd hlt hn hb hh hk
theorem Lp {t e:TypeId}{y:Operand}{k:IntKind}{z:Int}{n:Nat}{hs':aq}(hk:SK P ops nt L l ((d,.one (.slice n 0 1 (.exact 1)))::al) hs' fun bs=>K (⟨true,.none,[n]⟩::bs)) (ho:o.op = .buildSlice t 1 #[(0,y)]:=by exact rfl) (hu:aY P t (.slice e):=by infer_instance) (hz:bz P e [.int k 0]:=by infer_instance) (hse:aT P e 1:=by infer_instance) (hw:aj ops (rg al) o=some true:=by exact rfl) (hd:o.dst=some d:=by exact rfl) (hlt:Nat.blt d nt=true:=by exact rfl) (hy:cW (ag (rg al) y)=some [.int k z]:=by exact rfl) (hn:hs.length=n:=by first|(simp only [List.length_cons,List.length_nil,List.length_append,Nat.reduceAdd,Nat.zero_add,List.length_set];exact rfl)|exact rfl) (hb:Nat.blt n Mem.bound=true:=by exact rfl) (hh:hs++[.cells (il k [z]) e false false]=hs':=by first|(simp only [List.cons_append,List.nil_append];exact rfl)|exact rfl):SK P ops nt L (o::l) al hs K:=
 Hq ho hw hd hlt hy hn hb hh hk
theorem pX {α : Type}{enc : α→List XC}{s:Nat} [hE:pU enc s] {t e:TypeId}{y:Operand}{zs:List XC}{a : α}{n:Nat}{hs':aq}(hk:SK P ops nt L l ((d,.one (.slice n 0 1 (.exact 1)))::al) hs' fun bs=>K (⟨true,.none,[n]⟩::bs)) (ho:o.op = .buildSlice t 1 #[(0,y)]:=by exact rfl) (hu:aY P t (.slice e):=by infer_instance) (hz:bz P e zs:=by infer_instance) (hse:aT P e s:=by infer_instance) (hzl:zs.length=s:=by exact rfl) (hsm:s≤16777216:=by exact Nat.le_of_ble_eq_true rfl) (hw:aj ops (rg al) o=some true:=by exact rfl) (hd:o.dst=some d:=by exact rfl) (hlt:Nat.blt d nt=true:=by exact rfl) (hy:cW (ag (rg al) y)=some (enc a):=by exact rfl) (hn:hs.length=n:=by first|(simp only [List.length_cons,List.length_nil,List.length_append,Nat.reduceAdd,Nat.zero_add,List.length_set];exact rfl)|exact rfl) (hb:Nat.blt n Mem.bound=true:=by exact rfl) (hh:hs++[.cells (fl enc [a]) e false false]=hs':=by first|(simp only [List.cons_append,List.nil_append];exact rfl)|exact rfl):SK P ops nt L (o::l) al hs K:=
 Hp ho hzl hsm hw hd hlt hy hn hb hh hk
theorem tD {α : Type}{enc : α→List XC}{s:Nat} [hE:pU enc s] {t t1 e e1:TypeId}{a b:Operand}{zs:List XC}{i n j len:Nat}{cap:rE}{q r:List α}{et:TypeId}{opn ro:Bool}{N:Nat}{hs':aq}(hk:SK P ops nt L l ((d,iT N (n+len) s)::al) hs' fun bs=>K (⟨true,.none,[i,N]⟩::bs)) (ho:o.op = .call ⟨.builtin .append,#[a,b],#[t,t1]⟩:=by exact rfl) (hu:aY P t (.slice e):=by infer_instance) (hu1:aY P t1 (.slice e1):=by infer_instance) (hz:bz P e zs:=by infer_instance) (hI:TI P e s:=by infer_instance) (hzl:zs.length=s:=by exact rfl) (hw:aj ops (rg al) o=some true:=by exact rfl) (hd:o.dst=some d:=by exact rfl) (hlt:Nat.blt d nt=true:=by exact rfl) (ha:ag (rg al) a=iT i n s:=by exact rfl) (hi:hs[i]? = some (c8 e (fl enc q)):=by exact rfl) (hb:ag (rg al) b = .one (.slice j 0 len cap):=by exact rfl) (hj:hs[j]? = some (.cells (fl enc r) et opn ro):=by exact rfl) (hn:q.length=n:=by first|assumption|exact rfl|(simp only [List.length_append,List.length_cons,List.length_nil];done)|(simp only [List.length_append,List.length_cons,List.length_nil];omega)) (hr:r.length=len:=by first|assumption|exact rfl) (hm:0<len∧n+len≤2000000000:=by omega) (hN:hs.length=N:=by first|(simp only [List.length_cons,List.length_nil,List.length_append,Nat.reduceAdd,Nat.zero_add,List.length_set];exact rfl)|exact rfl) (hbd:Nat.blt N Mem.bound=true:=by exact rfl) (hh:hs.set i .dead++[c8 e (fl enc (q++r))]=hs':=by first|(simp only [List.set_cons_succ,List.set_cons_zero,List.cons_append,List.nil_append];exact rfl)|exact rfl):SK P ops nt L (o::l) al hs K:=
 Jq ho hzl hw hd hlt ha hi hb hj hn hr hm hN hbd hh hk
theorem cl {f:FuncId}{vs:List XV}{v:XV}{hs':aq}{ws:List Nat}{g:Operand}{args:Array Operand}{ts:Array TypeId}{c:XC}{caps:List XC}(hk:SK P ops nt (⟨f,vs,hs,v,hs',ws⟩::L) l ((d,v)::al) hs' fun bs=>K (⟨true,.none,ws++lZ hs.length hs'.length⟩::bs)) (ho:o.op = .call ⟨.value g,args,ts⟩:=by exact rfl) (hw:aj ops (rg al) o=some true:=by exact rfl) (hd:o.dst=some d:=by exact rfl) (hlt:Nat.blt d nt=true:=by exact rfl) (hg:ag (rg al) g = .one c:=by exact rfl) (hx:v7 c=some (f,caps):=by exact rfl) (hcb:eP P f=true:=by kernel_rfl) (ha:args.toList.map (ag (rg al))++caps.map .one=vs:=by exact rfl) (hi:aG.Sound P ⟨f,vs,hs,v,hs',ws⟩):SK P ops nt L (o::l) al hs K:=
 aB hi ho hw hd hlt hg hx hcb ha hk
theorem K6 {f:FuncId}{vs:List XV}{v:XV}{hs':aq}{ws:List Nat}{g:Operand}{args:Array Operand}{ts:Array TypeId}{c:XC}{caps:List XC}(hk:SK P ops nt (⟨f,vs,hs,v,hs',ws⟩::L) l al hs' fun bs=>K (⟨true,.none,ws++lZ hs.length hs'.length⟩::bs)) (ho:o.op = .call ⟨.value g,args,ts⟩:=by exact rfl) (hw:aj ops (rg al) o=some true:=by exact rfl) (hd:o.dst = .none:=by exact rfl) (hg:ag (rg al) g = .one c:=by exact rfl) (hx:v7 c=some (f,caps):=by exact rfl) (hcb:eP P f=true:=by kernel_rfl) (ha:args.toList.map (ag (rg al))++caps.map .one=vs:=by exact rfl) (hi:aG.Sound P ⟨f,vs,hs,v,hs',ws⟩):SK P ops nt L (o::l) al hs K:=
 EK hi ho hw hd hg hx hcb ha hk
theorem rP {f:FuncId}{vs:List XV}{b:Bool}{hs':aq}{ws:List Nat}{g:Operand}{args:Array Operand}{ts:Array TypeId}{c:XC}{caps:List XC}(h1:b=true→SK P ops nt (⟨f,vs,hs,.one (.bool b),hs',ws⟩::L) l ((d,.one (.bool true))::al) hs' fun bs=>K (⟨true,.none,ws++lZ hs.length hs'.length⟩::bs)) (h2:b=false→SK P ops nt (⟨f,vs,hs,.one (.bool b),hs',ws⟩::L) l ((d,.one (.bool false))::al) hs' fun bs=>K (⟨true,.none,ws++lZ hs.length hs'.length⟩::bs)) (ho:o.op = .call ⟨.value g,args,ts⟩:=by exact rfl) (hw:aj ops (rg al) o=some true:=by exact rfl) (hd:o.dst=some d:=by exact rfl) (hlt:Nat.blt d nt=true:=by exact rfl) (hg:ag (rg al) g = .one c:=by exact rfl) (hx:v7 c=some (f,caps):=by exact rfl) (hcb:eP P f=true:=by kernel_rfl) (ha:args.toList.map (ag (rg al))++caps.map .one=vs:=by exact rfl) (hi:aG.Sound P ⟨f,vs,hs,.one (.bool b),hs',ws⟩):SK P ops nt L (o::l) al hs K:=by
 refine aB hi ho hw hd hlt hg hx hcb ha ?_
 cases hb:b with
 | true=>rw [hb]at h1;exact h1 rfl
 | false=>rw [hb]at h2;exact h2 rfl
theorem aS {kk:IntKind}{t:TypeId}{x ix:Operand}{kt et:TypeId}{i:Nat}{z:Int}{M:List (Int × Bool)}(h1:(bW M z).getD false=true→SK P ops nt L l ((d,.one (.bool true))::al) hs fun bs=>K (⟨false,some i,[]⟩::bs)) (h2:(bW M z).getD false=false→SK P ops nt L l ((d,.one (.bool false))::al) hs fun bs=>K (⟨false,some i,[]⟩::bs)) (ho:o.op = .lookup t x ix false:=by exact rfl) (hu:aY P t (.map kt et):=by infer_instance) (hku:aY P kt (.int kk):=by infer_instance) (hz:kb P et=some (.one (.bool false)):=by kernel_rfl) (hw:aj ops (rg al) o=some true:=by exact rfl) (hd:o.dst=some d:=by exact rfl) (hlt:Nat.blt d nt=true:=by exact rfl) (hx:ag (rg al) x = .one (.map i):=by exact rfl) (hk:mL (ag (rg al) ix)=some (.one (.int kk z)):=by exact rfl) (hi:hs[i]? = some (.map (jb (kI kk) vB M)):=by exact rfl):SK P ops nt L (o::l) al hs K:=
 EO ho hz hw hd hlt hx hk hi h1 h2
section
variable {K:cJ}
theorem wS {a b:Code}(h:WX P nt nI (.code a) al hs (J_ P nt nI b K)):WX P nt nI (.code (.seq a b)) al hs K:=
 WX.seq h
theorem wA {id:Nat}(h:SK P ops nt [] ops.toList al hs fun _ al' hs'=>K .normal al' hs'):WX P nt nI (.code (.region id ops false)) al hs K:=
 WX.Kc h
theorem wD {id:Nat}(h:SK P ops nt [] ops.toList al hs fun bs al' hs'=>tZ (e_ ops.toList) bs=true∧K .normal al' hs') (hP:P.follows .mixedOrders=true:=by kernel_rfl) (hst:bH ops nt (e_ ops.toList)=true:=by kernel_rfl):WX P nt nI (.code (.region id ops true)) al hs K:=
 WX.IH hP hst h
theorem M0 {id:Nat}(f:Nat) (h:SK P ops nt [] ops.toList al hs fun bs al' hs'=>kJ ops (e_ ops.toList) bs f=true∧K .normal al' hs') (hno:ops.toList.all l4=true:=by kernel_rfl) (hP:P.follows .mixedOrders=true:=by kernel_rfl) (hst:bH ops nt (e_ ops.toList)=true:=by kernel_rfl):WX P nt nI (.code (.region id ops true)) al hs K:=
 WX.II f hno hP hst h
theorem wT {c:Operand}{x y:Code}(h:WX P nt nI (.code x) al hs K) (hc:ag (rg al) c = .one (.bool true):=by exact rfl):WX P nt nI (.code (.cond c x y)) al hs K:=
 WX.Kr hc h
theorem wF {c:Operand}{x y:Code}(h:WX P nt nI (.code y) al hs K) (hc:ag (rg al) c = .one (.bool false):=by exact rfl):WX P nt nI (.code (.cond c x y)) al hs K:=
 WX.Kq hc h
theorem wK (h:K .normal al hs):WX P nt nI (.code .skip) al hs K:=
 WX.skip h
theorem wB {id:Nat}{c:Code}(h:WX P nt nI (.code c) al hs (uR id K)):WX P nt nI (.code (.block id c)) al hs K:=
 WX.block h
theorem wE {id:Nat}(h:K (.exit id) al hs):WX P nt nI (.code (.exit id)) al hs K:=
 WX.exit h
theorem wR (h:K .ret al hs):WX P nt nI (.code .ret) al hs K:=
 WX.ret h
end
end Go.Xm
namespace Go.Xm
variable [aC]
theorem nL {α : Type}{a b : α}(h:a=b:=by first|(simp only [List.length_cons,List.length_nil,List.length_append,List.length_set,Nat.reduceAdd,Nat.zero_add];exact rfl)|exact rfl|fail):a=b:=h
theorem nA {α : Type}{a b : α}(h:a=b:=by first|(simp only [bM,List.set_cons_succ,List.set_cons_zero,List.cons_append,List.nil_append];exact rfl)|exact rfl|fail):a=b:=h
theorem hS {α : Type}{a b : α}(h:a=b:=by first|(simp only [List.set_cons_succ,List.set_cons_zero];exact rfl)|exact rfl|fail):a=b:=h
theorem zG {G G':Prop}(k:G') (h:G'→G:=by intro k;refine qz (qg ?_);first|exact MV k|fail):G:=h k
theorem zA {G G':Prop}(k:G') (h:G'→G:=by intro k;refine qz ?_;first
 |(refine q4 ?_;first|(refine t0 ?_;first|exact MF k|exact Mi k|exact MG k|fail)|(refine t1 ?_;first|exact Mv k|exact Mw k|exact Mx k|exact ld k|exact KD k|exact wV k|exact jq k|exact t9 k|fail)|(refine t2 ?_;first|exact MW k|exact MX k|exact MY k|exact st k|exact jC k|fail)|(refine t3 ?_;first|exact Mu k|exact Mt k|exact Mr k|exact Ms k|fail)|exact fa k|fail)
 |(refine MP ?_;first|exact ad k|exact sb k|exact ml k|exact qu k|exact re k|exact sr k|exact qt k|exact yb (n:=1) k|exact yb (n:=2) k|exact yb (n:=3) k|exact yb (n:=4) k|exact yb (n:=5) k|exact yb (n:=6) k|exact yb (n:=7) k|exact yb (n:=8) k|exact yb k|exact an 1 k|exact an 2 k|exact an 3 k|exact an 4 k|exact an 5 k|exact an 6 k|exact an 8 k|exact an 7 k|exact ML k|exact Mh k|fail)
 |(refine MQ ?_;first|exact cT k|exact cF k|exact Ln k|exact Mp k|exact MI k|fail)
 |(refine MR ?_;first|exact MN k|exact MM k|exact MJ k|exact ng k|exact cv k|exact M3 k|exact M4 k|exact nl k|fail)
 |(refine MS ?_;first|(refine MZ ?_;first|exact MB k|exact My k|exact Mz k|exact MA k|fail)|exact MH k|exact Le k|exact MD k|exact Mc k|exact L5 k|exact tD k|fail)
 |exact b0 k|exact Mj k|exact bS k|exact bA k|exact bF k|exact Lo k|exact Lp k|exact qA k|exact bx k|exact mm k|exact ME k|fail):G:=h k
theorem L6 {L:List aG}(h:ai L:=by first|exact ai.nil|exact ai.one _|exact ai.nN (by repeat' (first|exact True.intro|refine And.intro ?_ ?_|exact Compat.ne rfl))|fail):ai L:=h
theorem zL {G G':Prop}(k:G') (h:G'→G:=by intro k;first|exact bL L6 ⟨by kernel_rfl,k⟩|exact bL L6 k|fail):G:=h k
theorem zF {G G':Prop}(k:G') (h:G'→G:=by intro k;first|exact wS k|exact wA k|exact wD k|exact wT k|exact wF k|exact wK k|exact wB k|exact wE k|exact wR k|fail):G:=h k
theorem br {nI:Nat}{al al2:bm}{hs hs2:aq}(τl:List Nat) (nd:Nd τl hs2:=by exact(by first|exact Or.inl (by decide)|exact Or.inr ⟨_,(by repeat' (first|exact gg.nil|apply gg.dead|apply gg.cons)),(by decide)⟩)) (hid:(List.range nI).all (fun j=>nth τl j == j)=true:=by exact rfl) (obj:ae (nth τl) hs τl hs2:=by(repeat' (first|exact ae.nil|refine ae.flat rfl ?_|refine ae.cons rfl ?_|refine ae.dead rfl ?_|refine ae.cons (by simp only [ak.aw,List.map_cons,List.map_nil,XC.aw,au];exact rfl) ?_));first|done|fail) (reg:af (nth τl) al al2:=by(repeat' (first|exact af.nil|refine af.flat rfl ?_|refine af.cons rfl ?_|refine af.sl rfl (by assumption) rfl ?_|refine af.dX rfl rfl (by first|rfl|omega|(simp;done)|(simp;omega)) ?_));first|done|fail):GoTo nI al hs al2 hs2 τl:=⟨nd,hid,obj,reg⟩
theorem mO {nI:Nat}{al:bm}{hs:aq}(le:Nat.ble nI hs.length=true:=by exact rfl) (bnd:Nat.blt hs.length Mem.bound=true:=by exact rfl) (objs:dL hs.length hs:=by repeat' (first|exact dL.nil|refine dL.flat ?_|refine dL.cons (by first|(simp [ak.cB,XC.ok,ca];done)|simp [ak.cB,XC.ok,ca, *]) ?_)) (iQ:mz hs.length al:=by repeat' (first|exact mz.nil|refine mz.flat ?_|refine mz.cons (by first|exact trivial|exact iv (Nat.le_of_ble_eq_true rfl)|exact gl.ok ‹_› (Nat.le_of_ble_eq_true rfl)|(simp [XV.cB,XC.ok,X1.ok];done)|simp [XV.cB,XC.ok,X1.ok,ca]) ?_)):wa nI al hs:=⟨le,bnd,objs,iQ⟩
variable {P:Program}{fn:Func}{n:Nat}{e:XE}{al:bm}{hs hs':aq}{v1 v:XV}
theorem kV (τl:List Nat) (hv:v1=v.aw (nth τl)) (he:e = .normal∨e = .ret:=by first|exact .inr rfl|exact .inl rfl|fail) (hr:qZ P fn al hs v1:=by first|exact fun m hm=>rfl|exact gh.one rfl (.cell rfl rfl (b_ rfl) .nil)|exact gh.two rfl (.cell rfl rfl (b_ rfl) (.tmp rfl .nil))|exact gh.zero rfl .nil|exact gh.two rfl (by repeat' (first|exact gh.nil|refine gh.tmp rfl ?_|refine gh.cell rfl rfl (b_ (by first|rfl|assumption)) ?_))|fail) (hok:v.cB hs'.length:=by first|exact trivial|exact iv (Nat.le_of_ble_eq_true rfl)|exact GZ (ca (Nat.le_of_ble_eq_true rfl)) trivial|exact XV.ie rfl _|(simp [XV.cB,X1.ok,XC.ok];done)|(simp [XV.cB,X1.ok,XC.ok,ca];done)|fail) (nd:Nd τl hs':=by exact(by first|exact Or.inl (by decide)|exact Or.inr ⟨_,(by repeat' (first|exact gg.nil|apply gg.dead|apply gg.cons)),(by decide)⟩)) (hid:(List.range n).all (fun j=>nth τl j == j)=true:=by exact rfl) (ho:ae (nth τl) hs τl hs':=by repeat' (first|exact ae.nil|refine ae.flat rfl ?_|refine ae.cons rfl ?_|refine ae.dead rfl ?_|refine ae.cons (by simp only [ak.aw,List.map_cons,List.map_nil,XC.aw,au];exact rfl) ?_)) (hk:dL hs'.length hs':=by repeat' (first|exact dL.nil|refine dL.flat ?_|refine dL.cons (by first|(simp [ak.cB,XC.ok,ca];done)|simp [ak.cB,XC.ok,ca, *]) ?_)):aF P fn n v hs' e al hs:=DH τl he hr hv hok nd hid ho hk
theorem kM {junk:aq}(hv:v1=v) (hk:∀ o∈hs',o.cB hs'.length) (he:e = .normal∨e = .ret:=by first|exact .inr rfl|exact .inl rfl|fail) (hr:qZ P fn al hs v1:=by first|exact fun m hm=>rfl|exact gh.one rfl (.cell rfl rfl (b_ rfl) .nil)|exact gh.two rfl (.cell rfl rfl (b_ rfl) (.tmp rfl .nil))|fail) (hok:v.cB hs'.length:=by first|exact trivial|exact iv (Nat.le_of_ble_eq_true rfl)|(simp [XV.cB,X1.ok,XC.ok];done)|fail) (hh:hs=hs'++junk:=by exact rfl):aF P fn n v hs' e al hs:=bV (junk:=junk) he hr hv hok hh hk
theorem cO {P:Program}{f:FuncId}{fn:Func}{c:Code}{args:List XV}{hs hs':aq}{v:XV}(hf:P.funcs[f]? = some fn) (h:WX P fn.ntmps hs.length (.code c) (lN args 0) hs (aF P fn hs.length v hs')) (hb:fn.body=some c:=by exact rfl) (hn:Nat.ble (fn.ntmps+1) 1000000=true:=by exact rfl) (hl:Nat.ble args.length fn.ntmps=true:=by exact rfl) (hle:Nat.ble hs.length hs'.length=true:=by exact rfl) (hbd:Nat.ble (hs'.length+1) Mem.bound=true:=by exact rfl):bq P f args hs v hs':=
 Bj hf hb (Nat.le_of_ble_eq_true hn) (Nat.le_of_ble_eq_true hl) (Nat.le_of_ble_eq_true hle) (Nat.le_of_ble_eq_true hbd) h
end Go.Xm
namespace Go.Proofs.YtagpkhindehcbaaGreat
open Go.Xm
instance:aY Tryz.prog 3 (.int .i64):=⟨Tryz.underlying3⟩
instance:aT Tryz.prog 3 1:=⟨by kernel_rfl⟩
instance:dw Tryz.prog 3:=⟨by kernel_rfl⟩
instance:aY Tryz.prog 4 (.bool):=⟨Tryz.underlying4⟩
instance:aT Tryz.prog 4 1:=⟨by kernel_rfl⟩
instance:dw Tryz.prog 4:=⟨by kernel_rfl⟩
instance:aY Tryz.prog 5 (.int .u8):=⟨Tryz.underlying5⟩
instance:aT Tryz.prog 5 1:=⟨by kernel_rfl⟩
instance:TI Tryz.prog 5 1:=⟨by kernel_rfl⟩
instance:dw Tryz.prog 5:=⟨by kernel_rfl⟩
instance:bz Tryz.prog 5 ([.int .u8 0]):=⟨by kernel_rfl⟩
instance:aY Tryz.prog 9 (.string):=⟨Tryz.underlying9⟩
instance:aY Tryz.prog 22 (.array 64 5):=⟨Tryz.underlying22⟩
instance:aT Tryz.prog 22 64:=⟨by kernel_rfl⟩
instance:dD Tryz.prog 24 [(0,1),(1,64),(65,64)]:=⟨_,Tryz.underlying24,by kernel_rfl⟩
instance:aT Tryz.prog 24 129:=⟨by kernel_rfl⟩
instance:eE Tryz.prog 24:=⟨by kernel_rfl⟩
instance:bz Tryz.prog 24 ([.bool false]++(ti .u8 64 fun _=>0)++(ti .u8 64 fun _=>0)):=⟨by kernel_rfl⟩
instance:cA Tryz.prog 24 0 4 0:=⟨by kernel_rfl⟩
instance:cA Tryz.prog 24 1 22 1:=⟨by kernel_rfl⟩
instance:cA Tryz.prog 24 2 22 65:=⟨by kernel_rfl⟩
instance:dD Tryz.prog 26 [(0,1),(1,1),(2,129)]:=⟨_,Tryz.underlying26,by kernel_rfl⟩
instance:aT Tryz.prog 26 131:=⟨by kernel_rfl⟩
instance:eE Tryz.prog 26:=⟨by kernel_rfl⟩
instance:bz Tryz.prog 26 ([.int .i64 0,.int .i64 0,.bool false]++(ti .u8 64 fun _=>0)++(ti .u8 64 fun _=>0)):=⟨by kernel_rfl⟩
instance:cA Tryz.prog 26 0 3 0:=⟨by kernel_rfl⟩
instance:cA Tryz.prog 26 1 3 1:=⟨by kernel_rfl⟩
instance:cA Tryz.prog 26 2 24 2:=⟨by kernel_rfl⟩
instance:dD Tryz.prog 28 [(0,1),(1,1),(2,1),(3,1)]:=⟨_,Tryz.underlying28,by kernel_rfl⟩
instance:aT Tryz.prog 28 4:=⟨by kernel_rfl⟩
instance:eE Tryz.prog 28:=⟨by kernel_rfl⟩
instance:bz Tryz.prog 28 ([.int .i64 0,.bool false,.bool false,.int .i64 0]):=⟨by kernel_rfl⟩
instance:cA Tryz.prog 28 0 3 0:=⟨by kernel_rfl⟩
instance:cA Tryz.prog 28 1 4 1:=⟨by kernel_rfl⟩
instance:cA Tryz.prog 28 2 4 2:=⟨by kernel_rfl⟩
instance:cA Tryz.prog 28 3 3 3:=⟨by kernel_rfl⟩
instance:aY Tryz.prog 29 (.slice 81):=⟨Tryz.underlying29⟩
instance:aT Tryz.prog 29 1:=⟨by kernel_rfl⟩
instance:dw Tryz.prog 29:=⟨by kernel_rfl⟩
instance:aT Tryz.prog 31 137:=⟨by kernel_rfl⟩
instance:eE Tryz.prog 31:=⟨by kernel_rfl⟩
instance:cA Tryz.prog 31 0 26 0:=⟨by kernel_rfl⟩
instance:cA Tryz.prog 31 1 28 131:=⟨by kernel_rfl⟩
instance:cA Tryz.prog 31 2 5 135:=⟨by kernel_rfl⟩
instance:cA Tryz.prog 31 3 29 136:=⟨by kernel_rfl⟩
instance:aY Tryz.prog 33 (.slice 53):=⟨Tryz.underlying33⟩
instance:aY Tryz.prog 36 (.pointer 86):=⟨Tryz.underlying36⟩
instance:aT Tryz.prog 36 1:=⟨by kernel_rfl⟩
instance:dw Tryz.prog 36:=⟨by kernel_rfl⟩
instance:aY Tryz.prog 38 (.slice 5):=⟨Tryz.underlying38⟩
instance:aT Tryz.prog 38 1:=⟨by kernel_rfl⟩
instance:dw Tryz.prog 38:=⟨by kernel_rfl⟩
instance:aY Tryz.prog 42 (.slice 56):=⟨Tryz.underlying42⟩
instance:aY Tryz.prog 46 (.int .u8):=⟨Tryz.underlying46⟩
instance:aT Tryz.prog 46 1:=⟨by kernel_rfl⟩
instance:dw Tryz.prog 46:=⟨by kernel_rfl⟩
instance:aT Tryz.prog 47 1:=⟨by kernel_rfl⟩
instance:TI Tryz.prog 47 1:=⟨by kernel_rfl⟩
instance:dw Tryz.prog 47:=⟨by kernel_rfl⟩
instance:bz Tryz.prog 47 ([.cplx .f64 0 0]):=⟨by kernel_rfl⟩
instance:aY Tryz.prog 48 (.array 4 47):=⟨Tryz.underlying48⟩
instance:bz Tryz.prog 48 ([.cplx .f64 0 0,.cplx .f64 0 0,.cplx .f64 0 0,.cplx .f64 0 0]):=⟨by kernel_rfl⟩
instance:aY Tryz.prog 49 (.array 4 47):=⟨Tryz.underlying49⟩
instance:aT Tryz.prog 49 4:=⟨by kernel_rfl⟩
instance:eE Tryz.prog 49:=⟨by kernel_rfl⟩
instance:bz Tryz.prog 49 ([.cplx .f64 0 0,.cplx .f64 0 0,.cplx .f64 0 0,.cplx .f64 0 0]):=⟨by kernel_rfl⟩
instance:aY Tryz.prog 50 (.array 64 3):=⟨Tryz.underlying50⟩
instance:aT Tryz.prog 50 64:=⟨by kernel_rfl⟩
instance:eE Tryz.prog 50:=⟨by kernel_rfl⟩
instance:bz Tryz.prog 50 ((ti .i64 64 fun _=>0)):=⟨by kernel_rfl⟩
instance:aY Tryz.prog 51 (.array 6 50):=⟨Tryz.underlying51⟩
instance:aT Tryz.prog 51 384:=⟨by kernel_rfl⟩
instance:eE Tryz.prog 51:=⟨by kernel_rfl⟩
instance:dD Tryz.prog 53 [(0,1),(1,1),(2,4),(6,1),(7,384)]:=⟨_,Tryz.underlying53,by kernel_rfl⟩
instance:aT Tryz.prog 53 391:=⟨by kernel_rfl⟩
instance:TI Tryz.prog 53 391:=⟨by kernel_rfl⟩
instance:eE Tryz.prog 53:=⟨by kernel_rfl⟩
instance:bz Tryz.prog 53 ([.int .u8 0,.int .i64 0,.cplx .f64 0 0,.cplx .f64 0 0,.cplx .f64 0 0,.cplx .f64 0 0,.bool false]++(ti .i64 384 fun _=>0)):=⟨by kernel_rfl⟩
instance:cA Tryz.prog 53 0 46 0:=⟨by kernel_rfl⟩
instance:cA Tryz.prog 53 1 3 1:=⟨by kernel_rfl⟩
instance:cA Tryz.prog 53 2 49 2:=⟨by kernel_rfl⟩
instance:cA Tryz.prog 53 3 4 6:=⟨by kernel_rfl⟩
instance:cA Tryz.prog 53 4 51 7:=⟨by kernel_rfl⟩
instance:aY Tryz.prog 54 (.array 6 4):=⟨Tryz.underlying54⟩
instance:aT Tryz.prog 54 6:=⟨by kernel_rfl⟩
instance:dD Tryz.prog 56 [(0,391),(391,6)]:=⟨_,Tryz.underlying56,by kernel_rfl⟩
instance:aT Tryz.prog 56 397:=⟨by kernel_rfl⟩
instance:TI Tryz.prog 56 397:=⟨by kernel_rfl⟩
instance:eE Tryz.prog 56:=⟨by kernel_rfl⟩
instance:bz Tryz.prog 56 ([.int .u8 0,.int .i64 0,.cplx .f64 0 0,.cplx .f64 0 0,.cplx .f64 0 0,.cplx .f64 0 0,.bool false]++(ti .i64 384 fun _=>0)++[.bool false,.bool false,.bool false,.bool false,.bool false,.bool false]):=⟨by kernel_rfl⟩
instance:cA Tryz.prog 56 0 53 0:=⟨by kernel_rfl⟩
instance:cA Tryz.prog 56 1 54 391:=⟨by kernel_rfl⟩
instance:aY Tryz.prog 73 (.int .i8):=⟨Tryz.underlying73⟩
instance:aT Tryz.prog 73 1:=⟨by kernel_rfl⟩
instance:dw Tryz.prog 73:=⟨by kernel_rfl⟩
instance:aY Tryz.prog 74 (.array 4 73):=⟨Tryz.underlying74⟩
instance:aT Tryz.prog 74 4:=⟨by kernel_rfl⟩
instance:aT Tryz.prog 76 9:=⟨by kernel_rfl⟩
instance:eE Tryz.prog 76:=⟨by kernel_rfl⟩
instance:cA Tryz.prog 76 0 74 0:=⟨by kernel_rfl⟩
instance:cA Tryz.prog 76 1 74 4:=⟨by kernel_rfl⟩
instance:cA Tryz.prog 76 2 4 8:=⟨by kernel_rfl⟩
instance:aY Tryz.prog 77 (.int .u64):=⟨Tryz.underlying77⟩
instance:aT Tryz.prog 77 1:=⟨by kernel_rfl⟩
instance:dw Tryz.prog 77:=⟨by kernel_rfl⟩
instance:aY Tryz.prog 78 (.array 6 77):=⟨Tryz.underlying78⟩
instance:aT Tryz.prog 78 6:=⟨by kernel_rfl⟩
instance:aY Tryz.prog 79 (.int .u32):=⟨Tryz.underlying79⟩
instance:aT Tryz.prog 79 1:=⟨by kernel_rfl⟩
instance:dw Tryz.prog 79:=⟨by kernel_rfl⟩
instance:dD Tryz.prog 81 [(0,1),(1,1),(2,9),(11,1),(12,6),(18,1),(19,1)]:=⟨_,Tryz.underlying81,by kernel_rfl⟩
instance:aT Tryz.prog 81 20:=⟨by kernel_rfl⟩
instance:eE Tryz.prog 81:=⟨by kernel_rfl⟩
instance:bz Tryz.prog 81 ([.int .u8 0,.int .u8 0,.int .i8 0,.int .i8 0,.int .i8 0,.int .i8 0,.int .i8 0,.int .i8 0,.int .i8 0,.int .i8 0,.bool false,.bool false,.int .u64 0,.int .u64 0,.int .u64 0,.int .u64 0,.int .u64 0,.int .u64 0,.int .u32 0,.bool false]):=⟨by kernel_rfl⟩
instance:cA Tryz.prog 81 0 5 0:=⟨by kernel_rfl⟩
instance:cA Tryz.prog 81 1 5 1:=⟨by kernel_rfl⟩
instance:cA Tryz.prog 81 2 76 2:=⟨by kernel_rfl⟩
instance:cA Tryz.prog 81 3 4 11:=⟨by kernel_rfl⟩
instance:cA Tryz.prog 81 4 78 12:=⟨by kernel_rfl⟩
instance:cA Tryz.prog 81 5 79 18:=⟨by kernel_rfl⟩
instance:cA Tryz.prog 81 6 4 19:=⟨by kernel_rfl⟩
instance:aY Tryz.prog 83 (.pointer 163):=⟨Tryz.underlying83⟩
instance:aT Tryz.prog 83 1:=⟨by kernel_rfl⟩
instance:dw Tryz.prog 83:=⟨by kernel_rfl⟩
instance:cA Tryz.prog 86 0 83 0:=⟨by kernel_rfl⟩
instance:cA Tryz.prog 86 1 83 1:=⟨by kernel_rfl⟩
instance:cA Tryz.prog 86 2 83 2:=⟨by kernel_rfl⟩
instance:aY Tryz.prog 90 (.pointer 92):=⟨Tryz.underlying90⟩
instance:dD Tryz.prog 92 [(0,1),(1,1)]:=⟨_,Tryz.underlying92,by kernel_rfl⟩
instance:aT Tryz.prog 92 2:=⟨by kernel_rfl⟩
instance:bz Tryz.prog 92 ([.nils,.int .i64 0]):=⟨by kernel_rfl⟩
instance:cA Tryz.prog 92 0 38 0:=⟨by kernel_rfl⟩
instance:cA Tryz.prog 92 1 3 1:=⟨by kernel_rfl⟩
instance:aY Tryz.prog 94 (.pointer 167):=⟨Tryz.underlying94⟩
instance:aT Tryz.prog 94 1:=⟨by kernel_rfl⟩
instance:dw Tryz.prog 94:=⟨by kernel_rfl⟩
instance:aY Tryz.prog 95 (.pointer 171):=⟨Tryz.underlying95⟩
instance:aT Tryz.prog 95 1:=⟨by kernel_rfl⟩
instance:dw Tryz.prog 95:=⟨by kernel_rfl⟩
instance:dD Tryz.prog 97 [(0,1),(1,4),(5,1),(6,1),(7,1)]:=⟨_,Tryz.underlying97,by kernel_rfl⟩
instance:bz Tryz.prog 97 ([.nilp,.int .i64 0,.bool false,.bool false,.int .i64 0,.int .i64 0,.nilp,.nilp]):=⟨by kernel_rfl⟩
instance:cA Tryz.prog 97 0 36 0:=⟨by kernel_rfl⟩
instance:cA Tryz.prog 97 1 28 1:=⟨by kernel_rfl⟩
instance:cA Tryz.prog 97 2 3 5:=⟨by kernel_rfl⟩
instance:cA Tryz.prog 97 3 94 6:=⟨by kernel_rfl⟩
instance:cA Tryz.prog 97 4 95 7:=⟨by kernel_rfl⟩
instance:aY Tryz.prog 100 (.pointer 137):=⟨Tryz.underlying100⟩
instance:aY Tryz.prog 106 (.slice 144):=⟨Tryz.underlying106⟩
instance:aT Tryz.prog 106 1:=⟨by kernel_rfl⟩
instance:dw Tryz.prog 106:=⟨by kernel_rfl⟩
instance:aY Tryz.prog 113 (.array 4 3):=⟨Tryz.underlying113⟩
instance:aT Tryz.prog 113 4:=⟨by kernel_rfl⟩
instance:eE Tryz.prog 113:=⟨by kernel_rfl⟩
instance:bz Tryz.prog 113 ([.int .i64 0,.int .i64 0,.int .i64 0,.int .i64 0]):=⟨by kernel_rfl⟩
instance:aY Tryz.prog 117 (.int .u64):=⟨Tryz.underlying117⟩
instance:aY Tryz.prog 120 (.slice 3):=⟨Tryz.underlying120⟩
instance:aT Tryz.prog 120 1:=⟨by kernel_rfl⟩
instance:dw Tryz.prog 120:=⟨by kernel_rfl⟩
instance:dD Tryz.prog 137 [(0,1),(1,1),(2,1),(3,1)]:=⟨_,Tryz.underlying137,by kernel_rfl⟩
instance:bz Tryz.prog 137 ([.nils,.int .i64 0,.int .i64 0,.bool false]):=⟨by kernel_rfl⟩
instance:cA Tryz.prog 137 0 38 0:=⟨by kernel_rfl⟩
instance:cA Tryz.prog 137 1 3 1:=⟨by kernel_rfl⟩
instance:cA Tryz.prog 137 2 3 2:=⟨by kernel_rfl⟩
instance:cA Tryz.prog 137 3 4 3:=⟨by kernel_rfl⟩
instance:dD Tryz.prog 144 [(0,1),(1,1),(2,1)]:=⟨_,Tryz.underlying144,by kernel_rfl⟩
instance:aT Tryz.prog 144 3:=⟨by kernel_rfl⟩
instance:TI Tryz.prog 144 3:=⟨by kernel_rfl⟩
instance:eE Tryz.prog 144:=⟨by kernel_rfl⟩
instance:bz Tryz.prog 144 ([.int .i64 0,.int .i64 0,.bool false]):=⟨by kernel_rfl⟩
instance:cA Tryz.prog 144 0 3 0:=⟨by kernel_rfl⟩
instance:cA Tryz.prog 144 1 3 1:=⟨by kernel_rfl⟩
instance:cA Tryz.prog 144 2 4 2:=⟨by kernel_rfl⟩
instance:dD Tryz.prog 156 [(0,64),(64,1)]:=⟨_,Tryz.underlying156,by kernel_rfl⟩
instance:aT Tryz.prog 156 65:=⟨by kernel_rfl⟩
instance:eE Tryz.prog 156:=⟨by kernel_rfl⟩
instance:bz Tryz.prog 156 ((ti .i64 64 fun _=>0)++[.int .i64 0]):=⟨by kernel_rfl⟩
instance:cA Tryz.prog 156 0 50 0:=⟨by kernel_rfl⟩
instance:cA Tryz.prog 156 1 3 64:=⟨by kernel_rfl⟩
instance:aY Tryz.prog 160 (.slice 77):=⟨Tryz.underlying160⟩
instance:aT Tryz.prog 160 1:=⟨by kernel_rfl⟩
instance:dw Tryz.prog 160:=⟨by kernel_rfl⟩
instance:aY Tryz.prog 161 (.slice 190):=⟨Tryz.underlying161⟩
instance:aT Tryz.prog 161 1:=⟨by kernel_rfl⟩
instance:dw Tryz.prog 161:=⟨by kernel_rfl⟩
instance:cA Tryz.prog 163 0 120 0:=⟨by kernel_rfl⟩
instance:cA Tryz.prog 163 1 160 1:=⟨by kernel_rfl⟩
instance:cA Tryz.prog 163 2 161 2:=⟨by kernel_rfl⟩
instance:aY Tryz.prog 165 (.map 3 47):=⟨Tryz.underlying165⟩
instance:aT Tryz.prog 165 1:=⟨by kernel_rfl⟩
instance:dw Tryz.prog 165:=⟨by kernel_rfl⟩
instance:dD Tryz.prog 167 [(0,1),(1,1),(2,1)]:=⟨_,Tryz.underlying167,by kernel_rfl⟩
instance:bz Tryz.prog 167 ([.int .i64 0,.int .i64 0,.nilm]):=⟨by kernel_rfl⟩
instance:cA Tryz.prog 167 0 3 0:=⟨by kernel_rfl⟩
instance:cA Tryz.prog 167 1 3 1:=⟨by kernel_rfl⟩
instance:cA Tryz.prog 167 2 165 2:=⟨by kernel_rfl⟩
instance:aY Tryz.prog 168 (.map 3 156):=⟨Tryz.underlying168⟩
instance:aT Tryz.prog 168 1:=⟨by kernel_rfl⟩
instance:dw Tryz.prog 168:=⟨by kernel_rfl⟩
instance:aY Tryz.prog 169 (.array 3 168):=⟨Tryz.underlying169⟩
instance:aT Tryz.prog 169 3:=⟨by kernel_rfl⟩
instance:bz Tryz.prog 169 ([.nilm,.nilm,.nilm]):=⟨by kernel_rfl⟩
instance:dD Tryz.prog 171 [(0,1),(1,1),(2,3)]:=⟨_,Tryz.underlying171,by kernel_rfl⟩
instance:bz Tryz.prog 171 ([.int .i64 0,.int .i64 0,.nilm,.nilm,.nilm]):=⟨by kernel_rfl⟩
instance:cA Tryz.prog 171 0 3 0:=⟨by kernel_rfl⟩
instance:cA Tryz.prog 171 1 3 1:=⟨by kernel_rfl⟩
instance:cA Tryz.prog 171 2 169 2:=⟨by kernel_rfl⟩
instance:aY Tryz.prog 179 (.slice 47):=⟨Tryz.underlying179⟩
instance:aY Tryz.prog 180 (.array 2 3):=⟨Tryz.underlying180⟩
instance:aT Tryz.prog 180 2:=⟨by kernel_rfl⟩
instance:eE Tryz.prog 180:=⟨by kernel_rfl⟩
instance:bz Tryz.prog 180 ([.int .i64 0,.int .i64 0]):=⟨by kernel_rfl⟩
instance:aY Tryz.prog 181 (.array 3 180):=⟨Tryz.underlying181⟩
instance:bz Tryz.prog 181 ([.int .i64 0,.int .i64 0,.int .i64 0,.int .i64 0,.int .i64 0,.int .i64 0]):=⟨by kernel_rfl⟩
instance:aY Tryz.prog 185 (.array 6 106):=⟨Tryz.underlying185⟩
instance:aT Tryz.prog 185 6:=⟨by kernel_rfl⟩
instance:eE Tryz.prog 185:=⟨by kernel_rfl⟩
instance:bz Tryz.prog 185 ([.nils,.nils,.nils,.nils,.nils,.nils]):=⟨by kernel_rfl⟩
instance:aT Tryz.prog 190 2:=⟨by kernel_rfl⟩
instance:cA Tryz.prog 190 0 180 0:=⟨by kernel_rfl⟩
instance:aY Tryz.prog 202 (.float .f64):=⟨Tryz.underlying202⟩
end Go.Proofs.YtagpkhindehcbaaGreat
namespace Go.Proofs.YtagpkhindehcbaaGreat
open Go.Xm
variable [aC]
def bd (x:Int):Int:=if 0<x then 2*x-1 else -2*x
def dK (n:Int):Int:=if n%2=1 then(n+1)/2 else -(n/2)
theorem qO (x:Int):dK (bd x)=x:=by
 unfold dK bd
 split <;> split <;> omega
theorem za (x:Int) (hx : -1000000≤x∧x≤1000000):bq Tryz.prog 83 [.one (.int .i64 x)] [] (.one (.int .i64 (bd x))) []:=by
 refine cO Tryz.func83 ?_
 by_cases h:0<x
 · repeat' (first|refine zG ?_|refine zA ?_|refine cX (fun _=>?_) (fun _=>?_)|refine aS (fun _=>?_) (fun _=>?_)|refine zL ?_|refine zF ?_|fail)
   show aF _ _ _ _ _ _ _ _;refine kV [] ?_
   rw [bd,if_pos h];rfl
 · repeat' (first|refine zG ?_|refine zA ?_|refine cX (fun _=>?_) (fun _=>?_)|refine aS (fun _=>?_) (fun _=>?_)|refine zL ?_|refine zF ?_|fail)
   show aF _ _ _ _ _ _ _ _;refine kV [] ?_
   rw [bd,if_neg h];rfl
theorem qh {x:Int}(hx : -1000000≤x∧x≤1000000) {HS:aq}(hb:Nat.blt HS.length Mem.bound=true):aG.Sound Tryz.prog ⟨83,[.one (.int .i64 x)],HS,.one (.int .i64 (bd x)),HS,[]⟩:=
 az (za x hx) rfl rfl hb
theorem vr (n:Int) (hn:0≤n∧n≤1000000):bq Tryz.prog 94 [.one (.int .i64 n)] [] (.one (.int .i64 (dK n))) []:=by
 refine cO Tryz.func94 ?_
 by_cases h:n%2=1
 · have h':n%2^1=1:=h
   repeat' (first|refine zG ?_|refine zA ?_|refine cX (fun _=>?_) (fun _=>?_)|refine aS (fun _=>?_) (fun _=>?_)|refine zL ?_|refine zF ?_|fail)
   show aF _ _ _ _ _ _ _ _;refine kV [] ?_
   rw [dK,if_pos h];rfl
 · have h':n%2^1=0:=by show n%2=0;omega
   have ht:(0-n).tdiv 2 = -(n/2):=by
    rw [show(0-n) = -n by omega,Int.neg_tdiv,Int.tdiv_eq_ediv_of_nonneg hn.1]
   repeat' (first|refine zG ?_|refine zA ?_|refine cX (fun _=>?_) (fun _=>?_)|refine aS (fun _=>?_) (fun _=>?_)|refine zL ?_|refine zF ?_|fail)
   show aF _ _ _ _ _ _ _ _;refine kV [] ?_
   rw [dK,if_neg h,←ht];rfl
theorem qP {n:Int}(hn:0≤n∧n≤1000000) {HS:aq}(hb:Nat.blt HS.length Mem.bound=true):aG.Sound Tryz.prog ⟨94,[.one (.int .i64 n)],HS,.one (.int .i64 (dK n)),HS,[]⟩:=
 az (vr n hn) rfl rfl hb
end Go.Proofs.YtagpkhindehcbaaGreat
