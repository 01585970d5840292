/-
  A part of the proof: XvPut, XvAuto, XvTac, Facts, Small, Flt.
-/
import Derived.Test.YtagpkhindehcbaaGreatKcE
import Derived.KernelRfl
import Derived.Test.YtagpkhindehcbaaGreatProg
set_option maxRecDepth 10000
set_option maxHeartbeats 8000000
set_option linter.unusedVariables false
set_option linter.unusedSectionVars false
set_option linter.unusedSimpArgs false
namespace Go.Xm
variable [az]
variable {P:Program}
theorem ae.view {ls:List Nat} {HS hs:ak}(nd:Nd ls hs) (ho:ae (nth ls) HS ls hs) (hk:bE hs.length hs):View (nth ls) HS hs:=by
 obtain⟨hlen,hobj⟩:=ho.at
 refine⟨fun j hj=>?_,fun i j a b hi hj ha hb hij=>nd.inj hlen i j a b hi hj ha hb hij,fun j o hj=>hk.at o (List.mem_of_getElem? hj),fun j o hj=>(hobj j o hj).2⟩
 exact(hobj j _ (List.getElem?_eq_getElem hj)).1
inductive eT (n:Nat):List XV→Prop where
 | nil:eT n []
 | flat {v:XV} {l:List XV} [bB v]:eT n l→eT n (v::l)
 | cons {v:XV} {l:List XV}:v.cc n→eT n l→eT n (v::l)
theorem eT.at {n:Nat} {l:List XV}(h:eT n l):∀ x∈l,x.cc n:=by
 induction h with
 | nil=>intro o h;cases h
 | @flat o hs inst _ ih=>
   intro x hx
   rcases List.mem_cons.1 hx with rfl|hx
   · exact inst.ok n
   · exact ih x hx
 | cons h1 _ ih=>
   intro x hx
   rcases List.mem_cons.1 hx with rfl|hx
   · exact h1
   · exact ih x hx
inductive dE (τ : Nat→Nat):List XV→List XV→Prop where
 | nil:dE τ [] []
 | flat {v:XV} {l m:List XV} [bB v]:dE τ l m→dE τ (v::l) (v::m)
 | cons {v w:XV} {l m:List XV}:v.au τ = w→dE τ l m→dE τ (v::l) (w::m)
theorem dE.eq {τ : Nat→Nat} {l m:List XV}(h:dE τ l m):l.map (·.au τ)=m:=by
 induction h with
 | nil=>rfl
 | @flat v l m inst _ ih=>simp only [List.map_cons,ih,inst.au]
 | cons h _ ih=>simp only [List.map_cons,ih,h]
inductive lA (τ : Nat→Nat) (HS:ak):List Nat→ak→Prop where
 | nil:lA τ HS [] []
 | flat {i:Nat} {o:aj} {l:List Nat} {hs:ak} [dc o]:HS[i]? = some o→lA τ HS l hs→lA τ HS (i::l) (o::hs)
 | cons {i:Nat} {o:aj} {l:List Nat} {hs:ak}:HS[i]? = some (o.au τ)→lA τ HS l hs→lA τ HS (i::l) (o::hs)
theorem lA.via {τ : Nat→Nat} {HS:ak} {l:List Nat} {hs:ak}(h:lA τ HS l hs):ae τ HS l hs:=by
 induction h with
 | nil=>exact .nil
 | flat h1 _ ih=>exact .flat h1 ih
 | cons h1 _ ih=>exact .cons h1 ih
theorem lA.at {τ : Nat→Nat} {HS:ak} {l:List Nat} {hs:ak}(h:lA τ HS l hs):∀(j:Nat) (o:aj),hs[j]? = some o→HS[nth l j]? = some (o.au τ):=by
 induction h with
 | nil=>intro j o h;simp at h
 | @flat i o l hs inst h1 _ ih=>
   intro j o' hj
   cases j with
   | zero=>simp at hj;subst hj;rw [inst.au];exact h1
   | succ j=>exact ih j o' (by simpa using hj)
 | cons h1 _ ih=>
   intro j o' hj
   cases j with
   | zero=>simp at hj;subst hj;exact h1
   | succ j=>exact ih j o' (by simpa using hj)
theorem wQ {f:FuncId} {args0 args:List XV} {hs0 HS:ak} {v v':XV}(ls:List Nat) (hc:bt P f args0 hs0 v hs0) (nd:ls.Nodup) (ho:lA (nth ls) HS ls hs0) (hk:bE hs0.length hs0) (ha:eT hs0.length args0) (e1:dE (nth ls) args0 args) (hv:v.cc hs0.length) (e2:v.au (nth ls)=v') (hb:Nat.blt HS.length Mem.bound=true) (hb0:Nat.blt hs0.length Mem.bound=true) :
 aI.Sound P ⟨f,args,HS,v',HS,[]⟩:=by
 obtain⟨hlen,_⟩:=ho.via.at
 have hat:=ho.at
 have kc:∀ c:XC,c.ok hs0.length→c.au (beyond (nth ls) hs0.length HS.length)=c.au (nth ls):=by
  intro c
  induction c with
  | ptr i off=>exact fun h=>by simp only [XC.au,beyond];rw [if_pos (show i<hs0.length from h)]
  | slice i off len cap=>exact fun h=>by simp only [XC.au,beyond];rw [if_pos (show i<hs0.length from h)]
  | map i=>exact fun h=>by simp only [XC.au,beyond];rw [if_pos (show i<hs0.length from h)]
  | bind g c ih1 ih2=>exact fun h=>by simp only [XC.au,ih1 h.1,ih2 h.2]
  | _=>intro _;rfl
 have kcs:∀ cs:List XC,(∀ c∈cs,c.ok hs0.length)→cs.map (·.au (beyond (nth ls) hs0.length HS.length))=cs.map (·.au (nth ls)):=fun cs h=>List.map_congr_left fun c hc=>kc c (h c hc)
 have k1:∀ x:X1,x.ok hs0.length→x.au (beyond (nth ls) hs0.length HS.length)=x.au (nth ls):=fun x h=>by
  cases x with
  | one c=>simp only [X1.au,kc c h]
  | agg cs=>simp only [X1.au,kcs cs h]
 have kv:∀ x:XV,x.cc hs0.length→x.au (beyond (nth ls) hs0.length HS.length)=x.au (nth ls):=fun x h=>by
  cases x with
  | undef=>rfl
  | one c=>simp only [XV.au,kc c h]
  | agg cs=>simp only [XV.au,kcs cs h]
  | tup xs=>simp only [XV.au];rw [List.map_congr_left fun c hc=>k1 c (h c hc)]
 have ko:∀ x:aj,x.cc hs0.length→x.au (beyond (nth ls) hs0.length HS.length)=x.au (nth ls):=fun x h=>by
  cases x with
  | dead=>rfl
  | cells vs e a b=>simp only [aj.au,kcs vs h]
  | map es=>simp only [aj.au];rw [List.map_congr_left fun p hp=>by rw [k1 _ (h p hp).1,k1 _ (h p hp).2]]
 refine sx hc (Nat.le_refl _) (ho.via.view (.inl nd) hk) ha.at e1.eq ((kv v hv).trans e2) ⟨by simp,fun j o h=>?_,fun i hi _=>rfl⟩ (fun j o h hl _=>⟨o,h,hl⟩) (fun i hi _=>rfl) hb hb0
 have hj:j<hs0.length:=(List.getElem?_eq_some_iff.1 h).1
 rw [ko o (hk.at o (List.mem_of_getElem? h)),show beyond (nth ls) hs0.length HS.length j=nth ls j from if_pos hj]
 exact hat j o h
structure RO (o:aj) (k:IntKind) (l:List Int):Prop where
 get:0<l.length→∃ e opn ro,o = .cells (il k l) e opn ro
 flat:dc o
theorem RO.of (k:IntKind) (l:List Int) (e:TypeId) (opn ro:Bool):RO (.cells (il k l) e opn ro) k l:=⟨fun _=>⟨e,opn,ro,rfl⟩,inferInstance⟩
def bN (HS:ak):List Nat→ak→ak
 | i::ls,o::os=>bN (HS.set i o) ls os
 | [],os=>HS++os
 | _::_,[]=>HS
theorem qq:∀(ls:List Nat) (HS os:ak),ls.length≤os.length→(bN HS ls os).length=HS.length+(os.length-ls.length)
 | [],HS,os,_=>by simp [bN]
 | i::ls,HS,o::os,h=>by
   simp only [bN,List.length_cons]at h ⊢
   rw [qq ls _ os (by omega),List.length_set];omega
 | _::_,_,[],h=>by simp at h
theorem lX:∀(ls:List Nat) (HS os:ak) (i:Nat),i<HS.length→i∉ls→(bN HS ls os)[i]? = HS[i]?
 | [],HS,os,i,hi,_=>by simp only [bN];exact List.getElem?_append_left hi
 | k::ls,HS,o::os,i,hi,h=>by
   simp only [List.mem_cons,not_or]at h
   simp only [bN]
   rw [lX ls _ os i (by rw [List.length_set];exact hi) h.2,List.getElem?_set_ne (Ne.symm h.1)]
 | _::_,_,[],i,hi,_=>rfl
theorem y6:∀(ls:List Nat) (HS os:ak) (j:Nat),ls.length≤j→j<os.length→(bN HS ls os)[HS.length+(j-ls.length)]? = os[j]?
 | [],HS,os,j,_,hj=>by
   simp only [bN,List.length_nil,Nat.sub_zero]
   rw [List.getElem?_append_right (by omega)];congr 1;omega
 | k :: ls,HS,o::os,j,h,hj=>by
   cases j with
   | zero=>simp at h
   | succ j=>
     simp only [List.length_cons]at h hj
     have:=y6 ls (HS.set k o) os j (by omega) (by omega)
     rw [List.length_set]at this
     simp only [bN,List.length_cons,List.getElem?_cons_succ]
     rw [←this];congr 1;omega
 | _::_,_,[],j,_,hj=>by simp at hj
theorem Cn:∀(ls:List Nat) (HS os:ak),ls.Nodup→(∀ i∈ls,i<HS.length)→∀(j:Nat),j<ls.length→j<os.length→(bN HS ls os)[nth ls j]? = os[j]?
 | [],_,_,_,_,j,hj,_=>by simp at hj
 | k :: ls,HS,o::os,nd,hi,j,hj,ho=>by
   have hk:k∉ls:=(List.nodup_cons.1 nd).1
   have nd':=(List.nodup_cons.1 nd).2
   have hi':∀ i∈ls,i<(HS.set k o).length:=fun i h=>by rw [List.length_set];exact hi i (List.mem_cons_of_mem _ h)
   simp only [bN]
   cases j with
   | zero=>
     show(bN (HS.set k o) ls os)[k]? = some o
     rw [lX ls _ os k (by rw [List.length_set];exact hi k (List.mem_cons_self ..)) hk,List.getElem?_set_self (hi k (List.mem_cons_self ..))]
   | succ j=>
     simp only [List.length_cons]at hj ho
     exact Cn ls _ os nd' hi' j (by omega) (by omega)
 | _::_,_,[],_,_,j,_,ho=>by simp at ho
inductive dO (τ : Nat→Nat):ak→ak→Prop where
 | nil:dO τ [] []
 | flat {o:aj} {l m:ak} [dc o]:dO τ l m→dO τ (o::l) (o::m)
 | cons {o w:aj} {l m:ak}:o.au τ = w→dO τ l m→dO τ (o::l) (w::m)
theorem dO.eq {τ : Nat→Nat} {l m:ak}(h:dO τ l m):l.map (·.au τ)=m:=by
 induction h with
 | nil=>rfl
 | @flat v l m inst _ ih=>simp only [List.map_cons,ih,inst.au]
 | cons h _ ih=>simp only [List.map_cons,ih,h]
def eg:ak→ak→Bool
 | _,[]=>true
 | o0::hs0,o::hs=>(o0.live || !o.live || o.own) && eg hs0 hs
 | [],o::hs=>(!o.live || o.own) && eg [] hs
theorem xc:∀ {hs0 hs:ak},eg hs0 hs=true→∀(j:Nat) (o:aj),hs[j]? = some o→o.live=true→o.own=false→∃ o0,hs0[j]? = some o0∧o0.live=true
 | _,[],_,j,o,h,_,_=>by simp at h
 | o0::hs0,o::hs,hr,j,x,h,hl,ho=>by
   simp only [eg,Bool.and_eq_true]at hr
   cases j with
   | zero=>
     simp only [List.getElem?_cons_zero,Option.some.injEq]at h
     subst h
     refine⟨o0,rfl,?_⟩
     rw [hl,ho]at hr
     simpa using hr.1
   | succ j=>exact xc hr.2 j x (by simpa using h) hl ho
 | [],o::hs,hr,j,x,h,hl,ho=>by
   simp only [eg,Bool.and_eq_true]at hr
   cases j with
   | zero=>
     simp only [List.getElem?_cons_zero,Option.some.injEq]at h
     subst h
     rw [hl,ho]at hr
     simp at hr
   | succ j=>
     obtain⟨o0,h1,_⟩:=xc hr.2 j x (by simpa using h) hl ho
     simp at h1
theorem Aj {ls:List Nat} {N k:Nat}(j:Nat) (hj:j<ls.length+k):beyond (nth ls) ls.length N j=nth (ls++List.range' N k) j:=by
 unfold beyond nth
 by_cases h:j<ls.length
 · rw [if_pos h,List.getD_eq_getElem?_getD,List.getD_eq_getElem?_getD,List.getElem?_append_left h]
 · rw [if_neg h,List.getD_eq_getElem?_getD,List.getElem?_append_right (by omega),List.getElem?_range' (by omega)]
   simp
theorem b8 {f:FuncId} {args0 args:List XV} {hs0 hs0' HS HS' os:ak} {v v':XV}(ls ws:List Nat) (k:Nat) (hc:bt P f args0 hs0 v hs0') (nd:ls.Nodup) (ho:ae (nth ls) HS ls hs0) (hk:bE hs0.length hs0) (hk':bE hs0'.length hs0') (hn:ls.length+k=hs0'.length) (ha:eT hs0.length args0) (e1:dE (nth ls) args0 args) (hv:v.cc hs0'.length)
 (e2:v.au (nth (ls++List.range' HS.length k))=v') (hr:dO (nth (ls++List.range' HS.length k)) hs0' os) (hro:eg hs0 hs0'=true) (hb0:Nat.blt hs0.length Mem.bound=true) (hh:bN HS ls os=HS') (hb:Nat.blt HS'.length Mem.bound=true) (hws:ws=ls∨∀ i,i<HS.length→i∉ws→HS'[i]? = HS[i]?) :
 aI.Sound P ⟨f,args,HS,v',HS',ws⟩:=by
 subst hh
 obtain⟨hlen,hobj⟩:=ho.at
 have eos:=hr.eq
 have los:os.length=hs0'.length:=by rw [←eos];simp
 have hin:∀ i∈ls,i<HS.length:=by
  intro i hi
  obtain⟨j,hj,rfl⟩:=List.mem_iff_getElem.1 hi
  have:=(hobj j _ (List.getElem?_eq_getElem (by omega:j<hs0.length))).1
  unfold nth at this
  rwa [List.getD_eq_getElem?_getD,List.getElem?_eq_getElem hj]at this
 have kc:∀ n (c:XC),c.ok n→n≤hs0'.length→c.au (beyond (nth ls) hs0.length HS.length)=c.au (nth (ls++List.range' HS.length k)):=by
  intro n c
  have e:∀ i,i<n→n≤hs0'.length→beyond (nth ls) hs0.length HS.length i=nth (ls++List.range' HS.length k) i:=fun i hi hl=>by
   rw [hlen];exact Aj i (by omega)
  induction c with
  | ptr i off=>exact fun h hl=>by simp only [XC.au,e i h hl]
  | slice i off len cap=>exact fun h hl=>by simp only [XC.au,e i h hl]
  | map i=>exact fun h hl=>by simp only [XC.au,e i h hl]
  | bind g c ih1 ih2=>exact fun h hl=>by simp only [XC.au,ih1 h.1 hl,ih2 h.2 hl]
  | _=>intro _ _;rfl
 have kcs:∀ cs:List XC,(∀ c∈cs,c.ok hs0'.length)→cs.map (·.au (beyond (nth ls) hs0.length HS.length))=cs.map (·.au (nth (ls++List.range' HS.length k))):=fun cs h=>List.map_congr_left fun c hc=>kc _ c (h c hc) (Nat.le_refl _)
 have k1:∀ x:X1,x.ok hs0'.length→x.au (beyond (nth ls) hs0.length HS.length)=x.au (nth (ls++List.range' HS.length k)):=fun x h=>by
  cases x with
  | one c=>simp only [X1.au,kc _ c h (Nat.le_refl _)]
  | agg cs=>simp only [X1.au,kcs cs h]
 have kv:∀ x:XV,x.cc hs0'.length→x.au (beyond (nth ls) hs0.length HS.length)=x.au (nth (ls++List.range' HS.length k)):=fun x h=>by
  cases x with
  | undef=>rfl
  | one c=>simp only [XV.au,kc _ c h (Nat.le_refl _)]
  | agg cs=>simp only [XV.au,kcs cs h]
  | tup xs=>simp only [XV.au];rw [List.map_congr_left fun c hc=>k1 c (h c hc)]
 have ko:∀ x:aj,x.cc hs0'.length→x.au (beyond (nth ls) hs0.length HS.length)=x.au (nth (ls++List.range' HS.length k)):=fun x h=>by
  cases x with
  | dead=>rfl
  | cells vs e a b=>simp only [aj.au,kcs vs h]
  | map es=>simp only [aj.au];rw [List.map_congr_left fun p hp=>by rw [k1 _ (h p hp).1,k1 _ (h p hp).2]]
 refine sx hc (by omega) (ho.view (.inl nd) hk) ha.at e1.eq ((kv v hv).trans e2) ⟨?_,fun j o hj=>?_,fun i hi hne=>?_⟩ (xc hro) (fun i hi hne=>?_) hb hb0
 · rw [qq ls HS os (by omega)];omega
 · have hjl:j<hs0'.length:=(List.getElem?_eq_some_iff.1 hj).1
   have hoj:os[j]? = some (o.au (nth (ls++List.range' HS.length k))):=by rw [←eos,List.getElem?_map,hj];rfl
   rw [ko o (hk'.at o (List.mem_of_getElem? hj)),hlen]
   unfold beyond
   by_cases h:j<ls.length
   · rw [if_pos h,Cn ls HS os nd hin j h (by omega)];exact hoj
   · rw [if_neg h,y6 ls HS os j (by omega) (by omega)];exact hoj
 · refine lX ls HS os i hi fun hm=>?_
   obtain⟨j,hj,e⟩:=List.mem_iff_getElem.1 hm
   refine hne j (by omega) ?_
   unfold nth
   rw [List.getD_eq_getElem?_getD,List.getElem?_eq_getElem hj]
   exact e
 · rcases hws with e|h
   · subst e;exact lX ws HS os i hi hne
   · exact h i hi hne
theorem IE.of {c:XC} {i n:Nat}(h:IE c i n) (hn:∀ cap,c = .slice i 0 n (.exact cap)→n≤cap):ed c i 0 n:=by
 rcases h with⟨rfl,rfl⟩|⟨cap,rfl⟩
 · exact .nil
 · exact .mk (hn cap rfl)
theorem ed.back {c:XC} {i off n:Nat}(h:ed c i off n):∃ c0,ed c0 0 off n∧c0.au (fun _=>i)=c:=by
 rcases h with⟨rfl,rfl|⟨o,cap,rfl⟩⟩|⟨cap,h1,rfl⟩
 · exact⟨.nils,.nil,rfl⟩
 · exact⟨.slice 0 o 0 (.exact cap),.inl ⟨rfl,.inr ⟨_,_,rfl⟩⟩,rfl⟩
 · exact⟨.slice 0 off n (.exact cap),.inr ⟨_,h1,rfl⟩,rfl⟩
theorem ed.ya {c:XC} {i off n:Nat}(h:ed c i off n) (j:Nat) (τ : Nat→Nat) (ht : τ j=i):∃ c0,ed c0 j off n∧c0.au τ = c:=by
 subst ht
 rcases h with⟨rfl,rfl|⟨o,cap,rfl⟩⟩|⟨cap,h1,rfl⟩
 · exact⟨.nils,.nil,rfl⟩
 · exact⟨.slice j o 0 (.exact cap),.inl ⟨rfl,.inr ⟨_,_,rfl⟩⟩,rfl⟩
 · exact⟨.slice j off n (.exact cap),.inr ⟨_,h1,rfl⟩,rfl⟩
theorem F4 {fn:Func} {n:Nat} {e:XE} {al:bn} {hs hs':ak} {v1 v:XV}(τl:List Nat) (he:e = .normal∨e = .ret) (hr:si P fn al hs v1) (hv:v1=v.au (nth τl)) (hok:v.cc hs'.length) (nd:Nd τl hs') (hid:(List.range n).all (fun j=>nth τl j == j)=true) (ho:ae (nth τl) hs τl hs') (hk:bE hs'.length hs'):aH P fn n v hs' e al hs:=
 B8 (nth τl) he hr hv hok (ho.view nd hk) fun j hj=>by
  have:=List.all_eq_true.1 hid j (List.mem_range.2 hj)
  simpa using this
variable {ops:Array Oper} {nt nI:Nat} {al:bn} {hs:ak} {o:Oper} {l:List Oper} {L:List aI} {K:List Ab→bn→ak→Prop} {d:Nat}
theorem EK (k:IntKind) (n:Nat):ff [.int k 0] n=il k (List.replicate n 0):=by
 unfold ff il
 apply List.ext_getElem?
 intro i
 by_cases h:i<n
 · simp [h,Nat.mod_one]
 · simp [h]
theorem L7 {t e:TypeId} {a b:Operand} {k:IntKind}(ho:o.op = .makeSlice t a b) [hu:bh P t (.slice e)] [hz:bC P e [.int k 0]] [hI:TI P e 1] (hw:aw ops (rg al) o=some true) (hd:o.dst=some d) (hlt:Nat.blt d nt=true) {kl kc:IntKind} {x y:Int}(ha:ai (rg al) a = .one (.int kl x)) (hb:ai (rg al) b = .one (.int kc y)) {n:Nat}(hx:x=(n:Nat)) (hy:y=(n:Nat)) (hn:n≤2000000000)
 {N:Nat}(hN:hs.length=N) (hbd:Nat.blt N Mem.bound=true) {hs':ak}(hh:hs++[.cells (il k (List.replicate n 0)) e false false]=hs') (hk:SK P ops nt L l ((d,.one (.slice N 0 n (.exact n)))::al) hs' fun bs=>K (⟨true,.none,[N]⟩::bs)):SK P ops nt L (o::l) al hs K:=by
 subst hN hh hx hy
 refine SK.lift hd hlt (fun _=>?_) hk
 intro m hm
 obtain⟨m',h1,h2,h3⟩:=hm.push (.cells (il k (List.replicate n 0)) e false false) (by simpa [Nat.blt_eq]using hbd)
 refine⟨m',?_,h2,h3⟩
 unfold jS
 rw [hw]
 refine cQ (by rw [ho];rfl) (by rw [ho];rfl) (by rw [ho];rfl) ?_
 rw [ho]
 obtain⟨ti,hti,hs1,hby⟩:=hI.get
 have hbb:(ti.bytes:Int)*(n:Nat)≤281474976710656:=by
  have:(ti.bytes:Int)*(n:Nat)≤65536*(n:Nat):=Int.mul_le_mul_of_nonneg_right (by omega) (by omega)
  omega
 simp only [cw,iv,eC,hu.out,ha,hb,hti,hz.out,hs1,Int.toNat_natCast,Nat.mul_one,EK,h1,hm.n]
 rw [if_pos ⟨by omega,by omega,by omega,hbb,by simp⟩]
theorem JY {t e:TypeId} {y:Operand} {k:IntKind}(ho:o.op = .buildSlice t 1 #[(0,y)]) [hu:bh P t (.slice e)] [hz:bC P e [.int k 0]] [hse:aU P e 1] (hw:aw ops (rg al) o=some true) (hd:o.dst=some d) (hlt:Nat.blt d nt=true) {z:Int}(hy:db (ai (rg al) y)=some [.int k z]) {n:Nat}(hn:hs.length=n) (hb:Nat.blt n Mem.bound=true) {hs':ak}(hh:hs++[.cells (il k [z]) e false false]=hs')
 (hk:SK P ops nt L l ((d,.one (.slice n 0 1 (.exact 1)))::al) hs' fun bs=>K (⟨true,.none,[n]⟩::bs)):SK P ops nt L (o::l) al hs K:=
 L2 ho rfl hw hd hlt hy hn hb hh hk
theorem JW {t e:TypeId} {k:IntKind}(ho:o.op = .buildSlice t 0 #[]) [hu:bh P t (.slice e)] [hz:bC P e [.int k 0]] [hse:aU P e 1] (hw:aw ops (rg al) o=some true) (hd:o.dst=some d) (hlt:Nat.blt d nt=true) {n:Nat}(hn:hs.length=n) (hb:Nat.blt n Mem.bound=true) {hs':ak}(hh:hs++[.cells (il k []) e false false]=hs')
 (hk:SK P ops nt L l ((d,.one (.slice n 0 0 (.exact 0)))::al) hs' fun bs=>K (⟨true,.none,[n]⟩::bs)):SK P ops nt L (o::l) al hs K:=by
 subst hn hh
 refine SK.lift hd hlt (fun _=>?_) hk
 intro m hm
 obtain⟨m',h1,h2,h3⟩:=hm.push (.cells (il k []) e false false) (by simpa [Nat.blt_eq]using hb)
 refine⟨m',?_,h2,h3⟩
 unfold jS
 rw [hw]
 refine cQ (by rw [ho];rfl) (by rw [ho];rfl) (by rw [ho];rfl) ?_
 rw [ho]
 have hf:iG (fun i=>some (i*1,1)) (ff [.int k 0] (0*1)) []=some (il k []):=by
  simp [iG,ff,il]
 simp only [cw,fg,eC,hu.out,hse.out,hz.out,List.map_nil,h1,hm.n,hf]
 simp
theorem sE {t1 e:TypeId} [hu:bh P t1 (.slice e)] {x:XV} {j len sz:Nat} {cap:sL} {vs:List XC} {et:TypeId} {opn ro:Bool}(hx:x = .one (.slice j 0 len cap)) (hj:hs[j]? = some (.cells vs et opn ro)) (hl:vs.length=len*sz):∀ M,bG M hs→nq P t1 sz x M=some (len,vs):=by
 intro M hM
 subst hx
 have:=hM.at hj
 by_cases h0:len=0
 · subst h0
   have:vs = []:=List.length_eq_zero_iff.1 (by simpa using hl)
   subst this
   cases cap <;> simp only [nq,hu.out,if_true]
 · cases cap <;> simp only [nq,hu.out,this,Nat.zero_add,List.drop_zero,h0,if_false] <;> rw [if_pos (by omega),List.take_of_length_le (by omega)]
theorem LY {t t1 e e1:TypeId} {a b:Operand} {k:IntKind}(ho:o.op = .call ⟨.builtin .append,#[a,b],#[t,t1]⟩) [hu:bh P t (.slice e)] [hu1:bh P t1 (.slice e1)] [hz:bC P e [.int k 0]] [hI:TI P e 1] (hw:aw ops (rg al) o=some true) (hd:o.dst=some d) (hlt:Nat.blt d nt=true)
 {i n j len:Nat} {cap:sL} {q r:List Int} {et:TypeId} {opn ro:Bool}(ha:ai (rg al) a=iK i n 1) (hi:hs[i]? = some (cK e (il k q))) (hb:ai (rg al) b = .one (.slice j 0 len cap)) (hj:hs[j]? = some (.cells (il k r) et opn ro)) (hn:q.length=n) (hr:r.length=len) (hm:0<len∧n+len≤2000000000)
 {N:Nat}(hN:hs.length=N) (hbd:Nat.blt N Mem.bound=true) {hs':ak}(hh:hs.set i .dead++[cK e (il k (q++r))]=hs')
 (hk:SK P ops nt L l ((d,iK N (n+len) 1)::al) hs' fun bs=>K (⟨true,.none,[i,N]⟩::bs)):SK P ops nt L (o::l) al hs K:=by
 have hne:il k (q++r)≠[]:=by
  intro h
  have:(il k (q++r)).length=0:=by rw [h];rfl
  rw [e8,List.length_append]at this
  omega
 rw [oL (by omega)]at hk
 exact Hi ho hw hd hlt (sz:=1) ⟨rfl,by omega⟩ ha hi (by rw [e8];omega) (sE hb hj (by rw [e8];omega)) ⟨hm.1,by omega⟩ hN hbd (by rw [vj,←js hne];exact hh) hk
theorem CA {t1 e1:TypeId} [hu1:bh P t1 (.slice e1)] {x:XV} {i n:Nat} {k:IntKind} {r:List Int} {e:TypeId}(hx:x=iK i n 1) (hi:hs[i]? = some (cK e (il k r))) (hr:r.length=n):∀ M,bG M hs→nq P t1 1 x M=some (n,il k r):=by
 cases r with
 | nil=>
   intro M _
   subst hr
   rw [hx]
   show nq P t1 1 (.one .nils) M=_
   simp only [nq,hu1.out];rfl
 | cons a r=>exact sE (hx.trans (oL (by rw [←hr];exact Nat.succ_ne_zero _))) hi (by rw [e8];omega)
theorem L3 {t t1 e e1:TypeId} {a b:Operand} {k:IntKind}(ho:o.op = .call ⟨.builtin .copy,#[a,b],#[t,t1]⟩) [hu:bh P t (.slice e)] [hu1:bh P t1 (.slice e1)] [hse:aU P e 1] (hw:aw ops (rg al) o=some true) (hd:o.dst=some d) (hlt:Nat.blt d nt=true)
 {j len:Nat} {cap:sL} {q r:List Int} {et:TypeId} {opn:Bool}(ha:ai (rg al) a = .one (.slice j 0 len cap)) (hj:hs[j]? = some (.cells (il k q) et opn false)) (hq:q.length=len) (hr:r.length=len) (hsrc:∀ M,bG M hs→nq P t1 1 (ai (rg al) b) M=some (len,il k r))
 {hs':ak}(hh:hs.set j (.cells (il k r) et opn false)=hs') (hk:SK P ops nt L l ((d,.one (.int .i64 (len:Nat)))::al) hs' fun bs=>K (⟨true,.none,[j]⟩::bs)):SK P ops nt L (o::l) al hs K:=by
 subst hh
 refine SK.lift hd hlt (fun _=>?_) hk
 intro m hm
 refine⟨m.put j (.cells (il k r) et opn false),?_,hm.put hj _,sD⟩
 unfold jS
 rw [hw]
 refine cQ (by rw [ho];rfl) (by rw [ho];rfl) (by rw [ho];rfl) ?_
 rw [ho]
 have ht:(il k r).take (len*1)=il k r:=List.take_of_length_le (by rw [e8];omega)
 have hdr:(il k q).drop (0+(il k r).length) = []:=List.drop_of_length_le (by rw [e8,e8];omega)
 have he:eC P t=some e:=by simp only [eC,hu.out]
 show uj P t t1 (ai (rg al) a) (ai (rg al) b) m=_
 unfold uj
 rw [he,ha]
 simp only [hse.out,hsrc m hm,hm.at hj,show Nat.min len len=len from Nat.min_self len,ht,hdr]
 rw [if_pos (by rw [e8];omega)]
 simp
def kI (k:IntKind) (z:Int):X1 := .one (.int k z)
def vI (k:IntKind) (z:Int):X1 := .one (.int k z)
theorem tC {α γ : Type} {kc : α→X1} {vc : γ→X1}(hk:∀ a,(kc a).shut=true) (hv:∀ c,(vc c).shut=true) (M:List (α × γ)):dc (.map (kj kc vc M)):=by
 refine⟨fun τ=>?_,fun n p hp=>?_⟩
 · simp only [aj.au,kj,List.map_map]
   congr 1
   refine List.map_congr_left fun p _=>?_
   simp only [Function.comp,X1.dZ (hk p.1),X1.dZ (hv p.2)]
 · obtain⟨q,_,rfl⟩:=List.mem_map.1 hp
   exact⟨X1.bV (hk q.1) n,X1.bV (hv q.2) n⟩
instance {k k':IntKind} {M:List (Int × Int)}:dc (.map (kj (kI k) (vI k') M)):=tC (fun _=>rfl) (fun _=>rfl) M
theorem L6 (T:Nat→Int) {t:TypeId} {x ix:Operand}(ho:o.op = .index t x ix) [hu:bh P t .string] (hw:aw ops (rg al) o=some true) (hd:o.dst=some d) (hlt:Nat.blt d nt=true) {s:List UInt8}(ha:ai (rg al) x = .one (.str s)) {k:IntKind} {z:Int}(hb:ai (rg al) ix = .one (.int k z)) (hz:0≤z∧z<256) (hT:∀ i:Fin 256,s[i.val]?.map (fun b=>(b.toNat:Int))=some (T i.val))
 (hk:SK P ops nt L l ((d,.one (.int .u8 (T z.toNat)))::al) hs fun bs=>K (quiet::bs)):SK P ops nt L (o::l) al hs K:=by
 refine SK.lift hd hlt (fun _=>aJ.pure hw ?_) hk
 have h:=hT ⟨z.toNat,by omega⟩
 obtain⟨b,h1,h2⟩:=Option.map_eq_some_iff.1 h
 rw [ho]
 simp only [bj,pW,hu.out,ha,hb,hz.1,if_true]
 simp only []at h1
 rw [h1,Option.map_some,h2]
theorem D1 {t:TypeId} {a y:Operand}(ho:o.op = .store t a y) [ht:aU P t 1] (hw:aw ops (rg al) o=some true) (hd:o.dst = .none) {i off:Nat}(ha:ai (rg al) a = .one (.ptr i off)) {k:IntKind} {z:Int}(hy:db (ai (rg al) y)=some [.int k z]) {q:List Int} {e:TypeId}(hi:hs[i]? = some (cK e (il k q))) (hle:off<q.length)
 {hs':ak}(hh:hs.set i (cK e (il k (q.set off z)))=hs') (hk:SK P ops nt L l al hs' fun bs=>K (⟨true,.none,[i]⟩::bs)):SK P ops nt L (o::l) al hs K:=by
 cases q with
 | nil=>exact absurd hle (Nat.not_lt_zero _)
 | cons b r=>
   have h:cK e (il k ((b::r).set off z)) = .cells (il k ((b::r).set off z)) e true false:=by cases off <;> rfl
   rw [h]at hh
   exact kB ho hw hd ha hy (vs:=il k (b::r)) hi (by rw [e8];exact hle) (F0 ..) hh hk
theorem LX {t t1 e e1:TypeId} {a b:Operand} {k:IntKind}(ho:o.op = .call ⟨.builtin .append,#[a,b],#[t,t1]⟩) [hu:bh P t (.slice e)] [hu1:bh P t1 (.slice e1)] [hz:bC P e [.int k 0]] [hI:TI P e 1] (hw:aw ops (rg al) o=some true) (hd:o.dst=some d) (hlt:Nat.blt d nt=true)
 {i len n:Nat} {q r:List Int} {et:TypeId} {opn ro:Bool}(ha:ai (rg al) a = .one (.slice i 0 len (.exact len))) (hi:hs[i]? = some (.cells (il k q) et opn ro)) (hq:q.length=len) (hr:r.length=n) (hsrc:∀ M,bG M hs→nq P t1 1 (ai (rg al) b) M=some (n,il k r)) (hm:len+n≤2000000000)
 {N:Nat}(hN:hs.length=N) (hbd:Nat.blt N Mem.bound=true) {hs':ak}(hh:hs++[.cells (il k (q++r)) e true false]=hs')
 (h1:n=0→SK P ops nt L l ((d,.one (.slice i 0 len (.exact len)))::al) hs fun bs=>K (⟨true,.none,[]⟩::bs)) (h2:0<n→SK P ops nt L l ((d,.one (.slice N 0 (len+n) (.toEnd 1)))::al) hs' fun bs=>K (⟨true,.none,[N]⟩::bs)):SK P ops nt L (o::l) al hs K:=by
 subst hN hh
 obtain⟨ti,hti,hs1,hby⟩:=hI.get
 have hbytes:(len+n)*ti.bytes≤140737488355328:=Nat.le_trans (Nat.mul_le_mul_left _ hby) (by omega)
 by_cases h0:n=0
 · refine SK.lift hd hlt (fun _=>?_) (h1 h0)
   subst h0
   intro M hM
   refine⟨M,?_,hM,fun _ _=>rfl⟩
   unfold jS
   rw [hw]
   refine cQ (by rw [ho];rfl) (by rw [ho];rfl) (by rw [ho];rfl) ?_
   rw [ho]
   simp only [cw,j0,eC,hu.out,hti,hz.out,ha,hs1,hsrc M hM,List.getElem?_toArray,List.getElem?_cons_zero,List.getElem?_cons_succ]
   simp
 · refine SK.lift hd hlt (fun _=>?_) (h2 (by omega))
   intro M hM
   obtain⟨m',p1,p2,p3⟩:=hM.push (.cells (il k (q++r)) e true false) (by simpa [Nat.blt_eq]using hbd)
   refine⟨m',?_,p2,p3⟩
   unfold jS
   rw [hw]
   refine cQ (by rw [ho];rfl) (by rw [ho];rfl) (by rw [ho];rfl) ?_
   rw [ho]
   have e1:¬len+n≤len:=by omega
   have e2:0+len*1≤(il k q).length:=by rw [e8];omega
   have e3:((il k q).drop 0).take (len*1)++il k r=il k (q++r):=by
    rw [List.drop_zero,List.take_of_length_le (by rw [e8];omega),vj]
   simp only [cw,j0,eC,hu.out,hti,hz.out,ha,hs1,hsrc M hM,List.getElem?_toArray,List.getElem?_cons_zero,List.getElem?_cons_succ,e1,if_false,hM.at hi,e2,if_true,e3,p1,hM.n]
   rw [if_pos ⟨rfl,by omega⟩,if_pos ⟨by omega,hbytes⟩]
theorem OB {t1 e1:TypeId} [hu1:bh P t1 (.slice e1)] {c:XC} {i n:Nat} {k:IntKind} {r:List Int} {ob:aj} {x:XV}(hx:x = .one c) (hc:IE c i n) (hi:hs[i]? = some ob) (hr:r.length=n) (hro:RO ob k r):∀ M,bG M hs→nq P t1 1 x M=some (n,il k r):=by
 intro M hM
 subst hx
 by_cases h0:n=0
 · subst h0
   have:r = []:=List.length_eq_zero_iff.1 hr
   subst this
   rcases hc with⟨rfl,_⟩|⟨cap,rfl⟩ <;> simp only [nq,hu1.out,if_true] <;> rfl
 · rcases hc with⟨rfl,rfl⟩|⟨cap,rfl⟩
   · exact absurd rfl h0
   · obtain⟨e,opn,ro,rfl⟩:=hro.get (by omega)
     simp only [nq,hu1.out,hM.at hi,h0,if_false]
     rw [if_pos (by rw [e8];omega),List.drop_zero,List.take_of_length_le (by rw [e8];omega)]
class qQ {α : Type}(enc : α→List XC) (s:outParam Nat):Prop where
 len:∀ a,(enc a).length=s
 shut:∀ a,(enc a).all XC.shut=true
 pos:0<s
def fl {α : Type}(enc : α→List XC) (l:List α):List XC:=l.flatMap enc
section
variable {α : Type} {enc : α→List XC} {s:Nat} [hE:qQ enc s]
theorem tj (l:List α):(fl enc l).length=l.length*s:=by
 induction l with
 | nil=>simp [fl]
 | cons a l ih=>simp only [fl,List.flatMap_cons,List.length_append,hE.len,List.length_cons]at ih ⊢;rw [ih,Nat.add_mul];omega
theorem Dr (l m:List α):fl enc (l++m)=fl enc l++fl enc m:=by simp [fl]
theorem Lk (a : α):fl enc [a]=enc a:=by simp [fl]
theorem wM {α : Type} {enc : α→List XC} {s:Nat} [hE:qQ enc s] (l:List α):(fl enc l).all XC.shut=true:=by
 rw [List.all_eq_true]
 intro c hc
 obtain⟨a,_,ha⟩:=List.mem_flatMap.1 hc
 exact List.all_eq_true.1 (hE.shut a) c ha
theorem KG (l:List α) (j:Nat) (hj:j<l.length) (dflt : α):j*s+s≤(fl enc l).length∧((fl enc l).drop (j*s)).take s=enc (l.getD j dflt):=
 B3 enc s l (fun a _=>hE.len a) j _ (by simp [List.getD_eq_getElem?_getD,hj])
theorem FV {α : Type} {enc : α→List XC} {s:Nat} [hE:qQ enc s] {l:List α}(h:l≠[]):fl enc l≠[]:=fun e=>by
 have:=tj (enc:=enc) l
 rw [e]at this
 have hp:=hE.pos
 cases l with
 | nil=>exact h rfl
 | cons a l=>simp only [List.length_cons,List.length_nil,Nat.add_mul]at this;omega
instance {e:TypeId} {a b:Bool} {l:List α}:dc (.cells (fl enc l) e a b):=gW (wM l)
instance {e:TypeId} {l:List α}:dc (cK e (fl enc l)):=zh (wM l)
instance {a : α} {e:TypeId} {x y:Bool}:dc (.cells (enc a) e x y):=gW (hE.shut a)
structure wo (o:aj) (enc : α→List XC) (l:List α):Prop where
 get:0<l.length→∃ e opn ro,o = .cells (fl enc l) e opn ro
 flat:dc o
theorem Hl [Inhabited α] {t:TypeId} {a:Operand}(ho:o.op = .load t a) [ht:eJ P t] [hs':aU P t s] (hw:aw ops (rg al) o=some true) (hd:o.dst=some d) (hlt:Nat.blt d nt=true) {i off:Nat}(ha:ai (rg al) a = .one (.ptr i off)) {e:TypeId} {q:List α}(hi:hs[i]? = some (cK e (fl enc q))) {j:Nat}(hj:off=j*s) (hc:j<q.length)
 (hk:SK P ops nt L l ((d,.agg (enc (q.getD j default)))::al) hs fun bs=>K (⟨false,some i,[]⟩::bs)):SK P ops nt L (o::l) al hs K:=by
 obtain⟨h1,h2⟩:=KG (enc:=enc) q j hc default
 subst hj
 exact t7 ho hw hd hlt ha (hi.trans (congrArg some (js (FV (fun e=>by rw [e]at hc;exact absurd hc (Nat.not_lt_zero _)))))) h1 h2 hk
theorem D0 [Inhabited α] {t:TypeId} {a:Operand}(ho:o.op = .load t a) [ht:eJ P t] [hs':aU P t s] (hw:aw ops (rg al) o=some true) (hd:o.dst=some d) (hlt:Nat.blt d nt=true) {i off:Nat}(ha:ai (rg al) a = .one (.ptr i off)) {ob:aj} {q:List α}(hi:hs[i]? = some ob) (hro:wo ob enc q) {j:Nat}(hj:off=j*s) (hc:j<q.length)
 (hk:SK P ops nt L l ((d,.agg (enc (q.getD j default)))::al) hs fun bs=>K (⟨false,some i,[]⟩::bs)):SK P ops nt L (o::l) al hs K:=by
 obtain⟨h1,h2⟩:=KG (enc:=enc) q j hc default
 obtain⟨e,opn,ro,rfl⟩:=hro.get (by omega)
 subst hj
 exact t7 ho hw hd hlt ha hi h1 h2 hk
theorem JX {t e:TypeId} {y:Operand} {zs:List XC}(ho:o.op = .buildSlice t 1 #[(0,y)]) [hu:bh P t (.slice e)] [hz:bC P e zs] [hse:aU P e s] (hzl:zs.length=s) (hsm:s≤16777216) (hw:aw ops (rg al) o=some true) (hd:o.dst=some d) (hlt:Nat.blt d nt=true) {a : α}(hy:db (ai (rg al) y)=some (enc a)) {n:Nat}(hn:hs.length=n) (hb:Nat.blt n Mem.bound=true) {hs':ak}(hh:hs++[.cells (fl enc [a]) e false false]=hs')
 (hk:SK P ops nt L l ((d,.one (.slice n 0 1 (.exact 1)))::al) hs' fun bs=>K (⟨true,.none,[n]⟩::bs)):SK P ops nt L (o::l) al hs K:=by
 subst hn hh
 refine SK.lift hd hlt (fun _=>?_) hk
 intro m hm
 obtain⟨m',h1,h2,h3⟩:=hm.push (.cells (fl enc [a]) e false false) (by simpa [Nat.blt_eq]using hb)
 refine⟨m',?_,h2,h3⟩
 unfold jS
 rw [hw]
 refine cQ (by rw [ho];rfl) (by rw [ho];rfl) (by rw [ho];rfl) ?_
 rw [ho]
 have hp:=hE.pos
 have hlen:=hE.len a
 have hzz:(ff zs (1*s)).length=s:=by simp [ff]
 have hf:iG (fun i=>some (i*s,s)) (ff zs (1*s)) [(0,ai (rg al) y)]=some (fl enc [a]):=by
  simp only [iG,hy,hlen,Nat.zero_mul]
  rw [if_pos ⟨trivial,by rw [hzz];omega⟩,Lk]
  simp only [List.take_zero,List.nil_append,Nat.zero_add]
  rw [List.drop_of_length_le (by rw [hzz];omega),List.append_nil]
 simp only [cw,fg,eC,hu.out,hse.out,hz.out,List.map_cons,List.map_nil,h1,hm.n,hf]
 rw [if_pos ⟨by omega,by omega⟩]
theorem LZ {t t1 e e1:TypeId} {a b:Operand} {zs:List XC}(ho:o.op = .call ⟨.builtin .append,#[a,b],#[t,t1]⟩) [hu:bh P t (.slice e)] [hu1:bh P t1 (.slice e1)] [hz:bC P e zs] [hI:TI P e s] (hzl:zs.length=s) (hw:aw ops (rg al) o=some true) (hd:o.dst=some d) (hlt:Nat.blt d nt=true)
 {i n j len:Nat} {cap:sL} {q r:List α} {et:TypeId} {opn ro:Bool}(ha:ai (rg al) a=iK i n s) (hi:hs[i]? = some (cK e (fl enc q))) (hb:ai (rg al) b = .one (.slice j 0 len cap)) (hj:hs[j]? = some (.cells (fl enc r) et opn ro)) (hn:q.length=n) (hr:r.length=len) (hm:0<len∧n+len≤2000000000)
 {N:Nat}(hN:hs.length=N) (hbd:Nat.blt N Mem.bound=true) {hs':ak}(hh:hs.set i .dead++[cK e (fl enc (q++r))]=hs')
 (hk:SK P ops nt L l ((d,iK N (n+len) s)::al) hs' fun bs=>K (⟨true,.none,[i,N]⟩::bs)):SK P ops nt L (o::l) al hs K:=by
 have hne:fl enc (q++r)≠[]:=FV (fun h=>by
  have:(q++r).length=0:=by rw [h];rfl
  rw [List.length_append]at this
  omega)
 rw [oL (by omega)]at hk
 exact Hi ho hw hd hlt (sz:=s) ⟨hzl,hE.pos⟩ ha hi (by rw [tj,hn]) (sE hb hj (by rw [tj,hr])) ⟨hm.1,by omega⟩ hN hbd (by rw [←Dr,←js hne];exact hh) hk
end
end Go.Xm
namespace Go.Xm
variable [az]
variable {P:Program} {ops:Array Oper} {nt nI:Nat} {al:bn} {hs:ak} {o:Oper} {l:List Oper} {L:List aI} {K:List Ab→bn→ak→Prop} {d:Nat}
structure Wn (ops:Array Oper) (nt:Nat) (al:bn) (o:Oper) (d:Nat):Prop where
 w:aw ops (rg al) o=some true
 e:o.dst=some d
 l:Nat.blt d nt=true
theorem n1 {α : Type} {a b : α}(h:a=b:=by first|(simp only [Nat.zero_add,Nat.mul_one,Nat.reduceAdd,Nat.reduceMul,Int.reduceSub,Int.reduceAdd,Int.reduceMul,Int.reduceDiv,Int.reduceMod,Int.reduceToNat,Nat.add_zero,Int.toNat_natCast];exact rfl)|exact rfl|fail):a=b:=h
theorem n2 {α : Type} {a b : α}(h:a=b:=by first|(simp only [List.length_cons,List.length_nil,List.length_append,Nat.reduceAdd,Nat.zero_add,List.length_set];exact rfl)|exact rfl|fail):a=b:=h
theorem n3 {α : Type} {a b : α}(h:a=b:=by first|(simp only [List.cons_append,List.nil_append];exact rfl)|exact rfl|fail):a=b:=h
theorem n4 {α : Type} {a b : α}(h:a=b:=by first|(simp only [List.set_cons_succ,List.set_cons_zero];exact rfl)|exact rfl|fail):a=b:=h
def tM (o:Oper):Nat:=match o.op with
 | .move _=>0 | .assign _=>0 | .load _ _=>1 | .store _ _ _=>2 | .indexAddr _ _ _=>3 | .fieldAddr _ _ _=>4
 | .binOp op _ _ _ _=>match op with
   | .add=>5 | .sub=>6 | .mul=>7 | .quo=>8 | .rem=>9 | .and=>10 | .or=>11 | .xor=>12 | .shl=>13 | .shr=>14 | .andNot=>15
   | .eql=>16 | .neq=>17 | .lss=>18 | .leq=>19 | .gtr=>20 | .geq=>21
 | .pick _ _ _=>22 | .unOp _ _ _=>23 | .convert _ _ _=>24 | .extract _ _=>25 | .nilCheck _=>26 | .field _ _ _=>27 | .index _ _ _=>28
 | .call ⟨.value _,_,_⟩=>29 | .call ⟨.builtin .len,_,_⟩=>30 | .call ⟨.builtin .append,_,_⟩=>31 | .call ⟨.builtin _,_,_⟩=>32 | .call _=>33
 | .build _ _=>34 | .buildSlice _ _ _=>35 | .alloc _=>36 | .box _ _=>37 | .makeSlice _ _ _=>38 | .makeMap _ _=>39 | .slice _ _ _ _ _=>40 | .lookup _ _ _ _=>41 | .mapUpdate _ _ _ _=>42 | .makeFunc _ _ _=>43
 | _=>44
theorem q4 (hk:SK P ops nt L (o::l) al hs K) (h:Nat.ble (tM o) 4=true:=by exact rfl):SK P ops nt L (o::l) al hs K:=hk
theorem Pu (hk:SK P ops nt L (o::l) al hs K) (h:Nat.ble (tM o) 15=true:=by exact rfl):SK P ops nt L (o::l) al hs K:=hk
theorem Pv (hk:SK P ops nt L (o::l) al hs K) (h:Nat.ble (tM o) 21=true:=by exact rfl):SK P ops nt L (o::l) al hs K:=hk
theorem Pw (hk:SK P ops nt L (o::l) al hs K) (h:Nat.ble (tM o) 28=true:=by exact rfl):SK P ops nt L (o::l) al hs K:=hk
theorem Px (hk:SK P ops nt L (o::l) al hs K) (h:Nat.ble (tM o) 33=true:=by exact rfl):SK P ops nt L (o::l) al hs K:=hk
theorem qz (hk:SK P ops nt L (o::l) al hs K):SK P ops nt L (o::l) al hs K:=hk
theorem qg (hk:SK P ops nt L (o::l) al hs K) (h:o.guard.isSome=true:=by exact rfl):SK P ops nt L (o::l) al hs K:=hk
theorem t0 (hk:SK P ops nt L (o::l) al hs K) (h:tM o=0:=by exact rfl):SK P ops nt L (o::l) al hs K:=hk
theorem t1 (hk:SK P ops nt L (o::l) al hs K) (h:tM o=1:=by exact rfl):SK P ops nt L (o::l) al hs K:=hk
theorem t2 (hk:SK P ops nt L (o::l) al hs K) (h:tM o=2:=by exact rfl):SK P ops nt L (o::l) al hs K:=hk
theorem t3 (hk:SK P ops nt L (o::l) al hs K) (h:tM o=3:=by exact rfl):SK P ops nt L (o::l) al hs K:=hk
theorem t4 (hk:SK P ops nt L (o::l) al hs K) (h:tM o=4:=by exact rfl):SK P ops nt L (o::l) al hs K:=hk
theorem PE (hk:SK P ops nt L (o::l) al hs K) (h:tM o=30:=by exact rfl):SK P ops nt L (o::l) al hs K:=hk
theorem Pj {a:Operand} {c:XC}(hk:SK P ops nt L l ((d,.one c)::al) hs fun bs=>K (quiet::bs)) (ho:o.op = .move a:=by exact rfl) (wn:Wn ops nt al o d:=by exact⟨rfl,rfl,rfl⟩) (ha:ai (rg al) a = .one c:=by exact rfl):SK P ops nt L (o::l) al hs K:=
 Cy ho wn.w wn.e wn.l ha hk
theorem OW {a:Operand} {c:XC}(hk:SK P ops nt L l ((d,.one c)::al) hs fun bs=>K (quiet::bs)) (ho:o.op = .assign a:=by exact rfl) (wn:Wn ops nt al o d:=by exact⟨rfl,rfl,rfl⟩) (ha:ai (rg al) a = .one c:=by exact rfl):SK P ops nt L (o::l) al hs K:=
 DV ho wn.w wn.e wn.l ha hk
theorem Pk {a:Operand} {c:List X1}(hk:SK P ops nt L l ((d,.tup c)::al) hs fun bs=>K (quiet::bs)) (ho:o.op = .move a:=by exact rfl) (wn:Wn ops nt al o d:=by exact⟨rfl,rfl,rfl⟩) (ha:ai (rg al) a = .tup c:=by exact rfl):SK P ops nt L (o::l) al hs K:=
 Cy ho wn.w wn.e wn.l ha hk
theorem PA (hk:SK P ops nt L l ((d,.tup [])::al) hs fun bs=>K (quiet::bs)) (hw:aw ops (rg al) o=some false:=by exact rfl) (hd:o.dst=some d:=by exact rfl) (hlt:Nat.blt d nt=true:=by exact rfl):SK P ops nt L (o::l) al hs K:=
 J6 hw hd hlt hk
theorem Ps {a b c:Operand} {x:Bool}(hk:SK P ops nt L l ((d,.one (.bool x))::al) hs fun bs=>K (quiet::bs)) (ho:o.op = .pick c a b:=by exact rfl) (wn:Wn ops nt al o d:=by exact⟨rfl,rfl,rfl⟩) (hc:ai (rg al) c = .one (.bool true):=by exact rfl) (ha:ai (rg al) a = .one (.bool x):=by exact rfl):SK P ops nt L (o::l) al hs K:=
 Hp ho wn.w wn.e wn.l hc ha hk
theorem Pr {a b c:Operand} {x:Bool}(hk:SK P ops nt L l ((d,.one (.bool x))::al) hs fun bs=>K (quiet::bs)) (ho:o.op = .pick c a b:=by exact rfl) (wn:Wn ops nt al o d:=by exact⟨rfl,rfl,rfl⟩) (hc:ai (rg al) c = .one (.bool false):=by exact rfl) (ha:ai (rg al) b = .one (.bool x):=by exact rfl):SK P ops nt L (o::l) al hs K:=
 Ho ho wn.w wn.e wn.l hc ha hk
theorem ng {a:Operand} {t:TypeId} {k:IntKind} {x:Int}(hk:SK P ops nt L l ((d,.one (.int k (0-x)))::al) hs fun bs=>K (quiet::bs)) (ho:o.op = .unOp .neg t a:=by exact rfl) (wn:Wn ops nt al o d:=by exact⟨rfl,rfl,rfl⟩) (ha:ai (rg al) a = .one (.int k x):=by exact rfl) (h:uP k (0-x):=by(show _∧_;omega)):SK P ops nt L (o::l) al hs K:=
 SK.lift wn.e wn.l (fun _=>aJ.pure wn.w (by rw [ho];simp only [bj,ha,NL,cI,f7 h])) hk
theorem Po {a:Operand} {t:TypeId} {x:Bool}(hk:SK P ops nt L l ((d,.one (.bool (!x)))::al) hs fun bs=>K (quiet::bs)) (ho:o.op = .unOp .not t a:=by exact rfl) (wn:Wn ops nt al o d:=by exact⟨rfl,rfl,rfl⟩) (ha:ai (rg al) a = .one (.bool x):=by exact rfl):SK P ops nt L (o::l) al hs K:=
 L9 ho wn.w wn.e wn.l ha rfl hk
theorem ad {t t':TypeId} {a b:Operand} {k:IntKind} {x y:Int}(hk:SK P ops nt L l ((d,.one (.int k (x+y)))::al) hs fun bs=>K (quiet::bs)) (ho:o.op = .binOp .add t a b t':=by exact rfl) (wn:Wn ops nt al o d:=by exact⟨rfl,rfl,rfl⟩) (ha:ai (rg al) a = .one (.int k x):=by exact rfl) (hb:ai (rg al) b = .one (.int k y):=by exact rfl) (h:uP k (x+y):=by(show _∧_;omega)):SK P ops nt L (o::l) al hs K:=
 ir ho wn.w wn.e wn.l ha hb (by simp only [bO,dN,if_true,cI,f7 h]) hk
theorem N4 {t t':TypeId} {a b:Operand} {k:IntKind} {x y:Int}(hk:SK P ops nt L l ((d,.one (.int k (k.wrap (x+y))))::al) hs fun bs=>K (quiet::bs)) (ho:o.op = .binOp .add t a b t':=by exact rfl) (wn:Wn ops nt al o d:=by exact⟨rfl,rfl,rfl⟩) (ha:ai (rg al) a = .one (.int k x):=by exact rfl) (hb:ai (rg al) b = .one (.int k y):=by exact rfl):SK P ops nt L (o::l) al hs K:=
 ir ho wn.w wn.e wn.l ha hb (by simp only [bO,dN,if_true,cI]) hk
theorem sb {t t':TypeId} {a b:Operand} {k:IntKind} {x y:Int}(hk:SK P ops nt L l ((d,.one (.int k (x-y)))::al) hs fun bs=>K (quiet::bs)) (ho:o.op = .binOp .sub t a b t':=by exact rfl) (wn:Wn ops nt al o d:=by exact⟨rfl,rfl,rfl⟩) (ha:ai (rg al) a = .one (.int k x):=by exact rfl) (hb:ai (rg al) b = .one (.int k y):=by exact rfl) (h:uP k (x-y):=by(show _∧_;omega)):SK P ops nt L (o::l) al hs K:=
 ir ho wn.w wn.e wn.l ha hb (by simp only [bO,dN,if_true,cI,f7 h]) hk
theorem ml {t t':TypeId} {a b:Operand} {k:IntKind} {x y:Int}(hk:SK P ops nt L l ((d,.one (.int k (x*y)))::al) hs fun bs=>K (quiet::bs)) (ho:o.op = .binOp .mul t a b t':=by exact rfl) (wn:Wn ops nt al o d:=by exact⟨rfl,rfl,rfl⟩) (ha:ai (rg al) a = .one (.int k x):=by exact rfl) (hb:ai (rg al) b = .one (.int k y):=by exact rfl) (h:uP k (x*y):=by(show _∧_;omega)):SK P ops nt L (o::l) al hs K:=
 ir ho wn.w wn.e wn.l ha hb (by simp only [bO,dN,if_true,cI,f7 h]) hk
theorem Oo {t t':TypeId} {a b:Operand} {k:IntKind} {x y:Int}(hk:SK P ops nt L l ((d,.one (.int k (k.wrap (x*y))))::al) hs fun bs=>K (quiet::bs)) (ho:o.op = .binOp .mul t a b t':=by exact rfl) (wn:Wn ops nt al o d:=by exact⟨rfl,rfl,rfl⟩) (ha:ai (rg al) a = .one (.int k x):=by exact rfl) (hb:ai (rg al) b = .one (.int k y):=by exact rfl):SK P ops nt L (o::l) al hs K:=
 ir ho wn.w wn.e wn.l ha hb (by simp only [bO,dN,if_true,cI]) hk
theorem qu {t t':TypeId} {a b:Operand} {k:IntKind} {x y:Int}(hk:SK P ops nt L l ((d,.one (.int k (x/y)))::al) hs fun bs=>K (quiet::bs)) (ho:o.op = .binOp .quo t a b t':=by exact rfl) (wn:Wn ops nt al o d:=by exact⟨rfl,rfl,rfl⟩) (ha:ai (rg al) a = .one (.int k x):=by exact rfl) (hb:ai (rg al) b = .one (.int k y):=by exact rfl) (h:uP k x∧0≤x∧0<y:=by exact⟨by show _∧_;omega,by omega⟩):SK P ops nt L (o::l) al hs K:=
 ir ho wn.w wn.e wn.l ha hb (Ot h.1 h.2.1 h.2.2) hk
theorem qt {t t':TypeId} {a b:Operand} {k:IntKind} {x y:Int}(hk:SK P ops nt L l ((d,.one (.int k (x.tdiv y)))::al) hs fun bs=>K (quiet::bs)) (ho:o.op = .binOp .quo t a b t':=by exact rfl) (wn:Wn ops nt al o d:=by exact⟨rfl,rfl,rfl⟩) (ha:ai (rg al) a = .one (.int k x):=by exact rfl) (hb:ai (rg al) b = .one (.int k y):=by exact rfl) (h:y≠0∧uP k (x.tdiv y):=by exact⟨by omega,by show _∧_;omega⟩):SK P ops nt L (o::l) al hs K:=
 ir ho wn.w wn.e wn.l ha hb (by simp only [bO,dN,if_true,if_neg h.1,cI,f7 h.2]) hk
theorem re {t t':TypeId} {a b:Operand} {k:IntKind} {x y:Int}(hk:SK P ops nt L l ((d,.one (.int k (x%y)))::al) hs fun bs=>K (quiet::bs)) (ho:o.op = .binOp .rem t a b t':=by exact rfl) (wn:Wn ops nt al o d:=by exact⟨rfl,rfl,rfl⟩) (ha:ai (rg al) a = .one (.int k x):=by exact rfl) (hb:ai (rg al) b = .one (.int k y):=by exact rfl) (h:0≤x∧y≠0:=by omega):SK P ops nt L (o::l) al hs K:=
 L_ ho wn.w wn.e wn.l ha hb h.1 h.2 hk
theorem sr {t t':TypeId} {a b:Operand} {k k':IntKind} {x y:Int}(hk:SK P ops nt L l ((d,.one (.int k (x/2^y.toNat)))::al) hs fun bs=>K (quiet::bs)) (ho:o.op = .binOp .shr t a b t':=by exact rfl) (wn:Wn ops nt al o d:=by exact⟨rfl,rfl,rfl⟩) (ha:ai (rg al) a = .one (.int k x):=by exact rfl) (hb:ai (rg al) b = .one (.int k' y):=by exact rfl) (h:uP k x∧0≤x∧0≤y:=by exact⟨by show _∧_;omega,by omega⟩):SK P ops nt L (o::l) al hs K:=
 ir ho wn.w wn.e wn.l ha hb (Oy h.1 h.2.1 h.2.2) hk
theorem z5 {t t':TypeId} {a b:Operand} {k k':IntKind} {x y:Int} {n:Nat}(hk:SK P ops nt L l ((d,.one (.int k (x*2^n)))::al) hs fun bs=>K (quiet::bs)) (ho:o.op = .binOp .shl t a b t':=by exact rfl) (wn:Wn ops nt al o d:=by exact⟨rfl,rfl,rfl⟩) (ha:ai (rg al) a = .one (.int k x):=by exact rfl) (hb:ai (rg al) b = .one (.int k' y):=by exact rfl) (hn:y=(n:Nat):=by exact rfl) (h:n≤k.bits∧uP k (x*2^n):=by exact⟨by decide,by show _∧_;omega⟩):SK P ops nt L (o::l) al hs K:=
 ir ho wn.w wn.e wn.l ha hb (Ox hn h.1 h.2) hk
theorem an {t t':TypeId} {a b:Operand} {k:IntKind} {x y:Int}(n:Nat) (hk:SK P ops nt L l ((d,.one (.int k (x%2^n)))::al) hs fun bs=>K (quiet::bs)) (ho:o.op = .binOp .and t a b t':=by exact rfl) (wn:Wn ops nt al o d:=by exact⟨rfl,rfl,rfl⟩) (ha:ai (rg al) a = .one (.int k x):=by exact rfl) (hb:ai (rg al) b = .one (.int k y):=by exact rfl) (h:y=2^n-1∧n<k.bits:=by(refine⟨by decide,by decide⟩)):SK P ops nt L (o::l) al hs K:=
 ir ho wn.w wn.e wn.l ha hb (N5 n h.1 h.2) hk
theorem Pq {t t':TypeId} {a b:Operand} {k:IntKind} {x y:Int}(hk:SK P ops nt L l ((d,.one (.int k (B7 k x y)))::al) hs fun bs=>K (quiet::bs)) (ho:o.op = .binOp .or t a b t':=by exact rfl) (wn:Wn ops nt al o d:=by exact⟨rfl,rfl,rfl⟩) (ha:ai (rg al) a = .one (.int k x):=by exact rfl) (hb:ai (rg al) b = .one (.int k y):=by exact rfl):SK P ops nt L (o::l) al hs K:=
 ir ho wn.w wn.e wn.l ha hb (by simp only [bO,dN,if_true,cI,B7]) hk
theorem OV {t t':TypeId} {a b:Operand} {k:IntKind} {x y:Int}(hk:SK P ops nt L l ((d,.one (.int k (uO k x y)))::al) hs fun bs=>K (quiet::bs)) (ho:o.op = .binOp .and t a b t':=by exact rfl) (wn:Wn ops nt al o d:=by exact⟨rfl,rfl,rfl⟩) (ha:ai (rg al) a = .one (.int k x):=by exact rfl) (hb:ai (rg al) b = .one (.int k y):=by exact rfl):SK P ops nt L (o::l) al hs K:=
 ir ho wn.w wn.e wn.l ha hb (by simp only [bO,dN,if_true,cI,uO]) hk
theorem cT {t t':TypeId} {a b:Operand} {op:BinOp} {k:IntKind} {x y:Int} {p:Prop}(hk:SK P ops nt L l ((d,.one (.bool true))::al) hs fun bs=>K (quiet::bs)) (ho:o.op = .binOp op t a b t':=by exact rfl) (wn:Wn ops nt al o d:=by exact⟨rfl,rfl,rfl⟩) (ha:ai (rg al) a = .one (.int k x):=by exact rfl) (hb:ai (rg al) b = .one (.int k y):=by exact rfl) (hp:Ap op x y=some p:=by exact rfl) (h:p:=by(show(_:Prop);first|omega|exact of_decide_eq_true rfl)):SK P ops nt L (o::l) al hs K:=
 xh ho wn.w wn.e wn.l ha hb hp (fun _=>hk) (fun n=>absurd h n)
theorem cF {t t':TypeId} {a b:Operand} {op:BinOp} {k:IntKind} {x y:Int} {p:Prop}(hk:SK P ops nt L l ((d,.one (.bool false))::al) hs fun bs=>K (quiet::bs)) (ho:o.op = .binOp op t a b t':=by exact rfl) (wn:Wn ops nt al o d:=by exact⟨rfl,rfl,rfl⟩) (ha:ai (rg al) a = .one (.int k x):=by exact rfl) (hb:ai (rg al) b = .one (.int k y):=by exact rfl) (hp:Ap op x y=some p:=by exact rfl) (h:¬p:=by(show¬(_:Prop);first|omega|exact of_decide_eq_false rfl)):SK P ops nt L (o::l) al hs K:=
 xh ho wn.w wn.e wn.l ha hb hp (fun n=>absurd n h) (fun _=>hk)
theorem cX {t t':TypeId} {a b:Operand} {op:BinOp} {k:IntKind} {x y:Int} {p:Prop}(h1:p→SK P ops nt L l ((d,.one (.bool true))::al) hs fun bs=>K (quiet::bs)) (h2:¬p→SK P ops nt L l ((d,.one (.bool false))::al) hs fun bs=>K (quiet::bs)) (ho:o.op = .binOp op t a b t':=by exact rfl) (wn:Wn ops nt al o d:=by exact⟨rfl,rfl,rfl⟩) (ha:ai (rg al) a = .one (.int k x):=by exact rfl) (hb:ai (rg al) b = .one (.int k y):=by exact rfl) (hp:Ap op x y=some p:=by exact rfl):SK P ops nt L (o::l) al hs K:=
 xh ho wn.w wn.e wn.l ha hb hp h1 h2
theorem N6 {t t':TypeId} {a b:Operand} {x y:Bool}(hk:SK P ops nt L l ((d,.one (.bool (x == y)))::al) hs fun bs=>K (quiet::bs)) (ho:o.op = .binOp .eql t a b t':=by exact rfl) (wn:Wn ops nt al o d:=by exact⟨rfl,rfl,rfl⟩) (hu:bh P t .bool:=by infer_instance) (hg:P.eqGuardType P.depth t=false:=by kernel_rfl) (ha:ai (rg al) a = .one (.bool x):=by exact rfl) (hb:ai (rg al) b = .one (.bool y):=by exact rfl):SK P ops nt L (o::l) al hs K:=
 SK.lift wn.e wn.l (fun _=>aJ.pure wn.w (by rw [ho];simp only [bj,ha,hb,rz,rC,hg,Bool.false_eq_true,if_false,cB,hu.out,uW,Option.map_some])) hk
theorem N7 {t t':TypeId} {a b:Operand} {x y:Bool}(hk:SK P ops nt L l ((d,.one (.bool (!(x == y))))::al) hs fun bs=>K (quiet::bs)) (ho:o.op = .binOp .neq t a b t':=by exact rfl) (wn:Wn ops nt al o d:=by exact⟨rfl,rfl,rfl⟩) (hu:bh P t .bool:=by infer_instance) (hg:P.eqGuardType P.depth t=false:=by kernel_rfl) (ha:ai (rg al) a = .one (.bool x):=by exact rfl) (hb:ai (rg al) b = .one (.bool y):=by exact rfl):SK P ops nt L (o::l) al hs K:=
 SK.lift wn.e wn.l (fun _=>aJ.pure wn.w (by rw [ho];simp only [bj,ha,hb,rz,rC,hg,Bool.false_eq_true,if_false,cB,hu.out,uW,Option.map_some])) hk
theorem O2 {t t' e:TypeId} {a b:Operand} {i off:Nat}(hk:SK P ops nt L l ((d,.one (.bool false))::al) hs fun bs=>K (quiet::bs)) (ho:o.op = .binOp .eql t a b t':=by exact rfl) (wn:Wn ops nt al o d:=by exact⟨rfl,rfl,rfl⟩) (hu:bh P t (.pointer e):=by infer_instance) (ha:ai (rg al) a = .one (.ptr i off):=by exact rfl) (hb:ai (rg al) b = .one .nilp:=by exact rfl):SK P ops nt L (o::l) al hs K:=
 SK.lift wn.e wn.l (fun _=>aJ.pure wn.w (by rw [ho];simp only [bj,ha,hb,rz,rC,cB,hu.out,uW,Option.map_some])) hk
theorem Pn {t t' e:TypeId} {a b:Operand} {i off:Nat}(hk:SK P ops nt L l ((d,.one (.bool true))::al) hs fun bs=>K (quiet::bs)) (ho:o.op = .binOp .neq t a b t':=by exact rfl) (wn:Wn ops nt al o d:=by exact⟨rfl,rfl,rfl⟩) (hu:bh P t (.pointer e):=by infer_instance) (ha:ai (rg al) a = .one (.ptr i off):=by exact rfl) (hb:ai (rg al) b = .one .nilp:=by exact rfl):SK P ops nt L (o::l) al hs K:=
 SK.lift wn.e wn.l (fun _=>aJ.pure wn.w (by rw [ho];simp only [bj,ha,hb,rz,rC,cB,hu.out,uW,Option.map_some,Bool.not_false])) hk
theorem Pm {a b:Operand} {ts:Array TypeId} {k k':IntKind} {x y:Int}(hk:SK P ops nt L l ((d,.one (.int k x))::al) hs fun bs=>K (quiet::bs)) (ho:o.op = .call ⟨.builtin .max,#[a,b],ts⟩:=by exact rfl) (wn:Wn ops nt al o d:=by exact⟨rfl,rfl,rfl⟩) (ha:ai (rg al) a = .one (.int k x):=by exact rfl) (hb:ai (rg al) b = .one (.int k' y):=by exact rfl) (h:max x y=x:=by first|exact Int.max_eq_left (by omega)):SK P ops nt L (o::l) al hs K:=
 Hm ho wn.w wn.e wn.l ha hb h hk
theorem NW {a b:Operand} {ts:Array TypeId} {k k':IntKind} {x y:Int}(hk:SK P ops nt L l ((d,.one (.int k (max x y)))::al) hs fun bs=>K (quiet::bs)) (ho:o.op = .call ⟨.builtin .max,#[a,b],ts⟩:=by exact rfl) (wn:Wn ops nt al o d:=by exact⟨rfl,rfl,rfl⟩) (ha:ai (rg al) a = .one (.int k x):=by exact rfl) (hb:ai (rg al) b = .one (.int k' y):=by exact rfl):SK P ops nt L (o::l) al hs K:=
 Hm ho wn.w wn.e wn.l ha hb rfl hk
theorem Pf {a b:Operand} {ts:Array TypeId} {k k':IntKind} {x y:Int}(hk:SK P ops nt L l ((d,.one (.int k x))::al) hs fun bs=>K (quiet::bs)) (ho:o.op = .call ⟨.builtin .min,#[a,b],ts⟩:=by exact rfl) (wn:Wn ops nt al o d:=by exact⟨rfl,rfl,rfl⟩) (ha:ai (rg al) a = .one (.int k x):=by exact rfl) (hb:ai (rg al) b = .one (.int k' y):=by exact rfl) (h:min x y=x:=by first|exact Int.min_eq_left (by omega)):SK P ops nt L (o::l) al hs K:=
 Hn ho wn.w wn.e wn.l ha hb h hk
theorem OQ {a b:Operand} {ts:Array TypeId} {k k':IntKind} {x y:Int}(hk:SK P ops nt L l ((d,.one (.int k (min x y)))::al) hs fun bs=>K (quiet::bs)) (ho:o.op = .call ⟨.builtin .min,#[a,b],ts⟩:=by exact rfl) (wn:Wn ops nt al o d:=by exact⟨rfl,rfl,rfl⟩) (ha:ai (rg al) a = .one (.int k x):=by exact rfl) (hb:ai (rg al) b = .one (.int k' y):=by exact rfl):SK P ops nt L (o::l) al hs K:=
 Hn ho wn.w wn.e wn.l ha hb rfl hk
theorem cv {s t:TypeId} {y:Operand} {u:TypeDesc} {k k':IntKind} {x:Int}(hk:SK P ops nt L l ((d,.one (.int k' x))::al) hs fun bs=>K (quiet::bs)) (ho:o.op = .convert s t y:=by exact rfl) (wn:Wn ops nt al o d:=by exact⟨rfl,rfl,rfl⟩) (hy:ai (rg al) y = .one (.int k x):=by exact rfl) (h1:bh P s u:=by infer_instance) (h2:bh P t (.int k'):=by infer_instance) (h:uP k' x:=by(show _∧_;omega)):SK P ops nt L (o::l) al hs K:=
 JZ ho wn.w wn.e wn.l hy (f7 h) hk
theorem nl {a:Operand} {i off:Nat}(hk:SK P ops nt L l ((d,.one (.ptr i off))::al) hs fun bs=>K (quiet::bs)) (ho:o.op = .nilCheck a:=by exact rfl) (wn:Wn ops nt al o d:=by exact⟨rfl,rfl,rfl⟩) (ha:ai (rg al) a = .one (.ptr i off):=by exact rfl):SK P ops nt L (o::l) al hs K:=
 L8 ho wn.w wn.e wn.l ha hk
theorem fa {s:TypeId} {a:Operand} {f:Nat} {i off:Nat} {ft:TypeId} {fo z:Nat} {p:Nat}(hk:SK P ops nt L l ((d,.one (.ptr i p))::al) hs fun bs=>K (quiet::bs)) (ho:o.op = .fieldAddr s a f:=by exact rfl) (wn:Wn ops nt al o d:=by exact⟨rfl,rfl,rfl⟩) (ha:ai (rg al) a = .one (.ptr i off):=by exact rfl) (hf:cE P s f ft fo:=by infer_instance) (hz:aU P ft (z+1):=by infer_instance) (hp:off+fo=p:=by exact n1):SK P ops nt L (o::l) al hs K:=
 L5 ho wn.w wn.e wn.l ha hp hk
theorem O6 {t:TypeId} {a b:Operand} {elem:TypeId} {s:Nat} {k:IntKind} {z:Int} {i off len:Nat} {p:Nat}(hk:SK P ops nt L l ((d,.one (.ptr i p))::al) hs fun bs=>K (quiet::bs)) (ho:o.op = .indexAddr t a b:=by exact rfl) (wn:Wn ops nt al o d:=by exact⟨rfl,rfl,rfl⟩) (hb:ai (rg al) b = .one (.int k z):=by exact rfl) (ha:ai (rg al) a = .one (.ptr i off):=by exact rfl) (hu:bh P t (.array len elem):=by infer_instance) (hs':aU P elem s:=by infer_instance) (hz:0≤z∧z<(len:Nat):=by first|omega|decide) (hp:off+z.toNat*s=p:=by exact n1):SK P ops nt L (o::l) al hs K:=
 J2 ho wn.w wn.e wn.l ha hb hz hp hk
theorem O7 {t:TypeId} {a b:Operand} {elem:TypeId} {s:Nat} {k:IntKind} {z:Int} {i off len:Nat} {cap:sL} {p:Nat}(hk:SK P ops nt L l ((d,.one (.ptr i p))::al) hs fun bs=>K (quiet::bs)) (ho:o.op = .indexAddr t a b:=by exact rfl) (wn:Wn ops nt al o d:=by exact⟨rfl,rfl,rfl⟩) (hb:ai (rg al) b = .one (.int k z):=by exact rfl) (ha:ai (rg al) a = .one (.slice i off len cap):=by exact rfl) (hu:bh P t (.slice elem):=by infer_instance) (hs':aU P elem s:=by infer_instance) (hz:0≤z∧z<(len:Nat):=by first|omega|decide) (hp:off+z.toNat*s=p:=by exact n1):SK P ops nt L (o::l) al hs K:=
 Cw ho wn.w wn.e wn.l ha hb hz hp hk
theorem O4 {t:TypeId} {a b:Operand} {elem:TypeId} {s:Nat} {k:IntKind} {z:Int} {i off len:Nat} {c:XC} {p:Nat}(hk:SK P ops nt L l ((d,.one (.ptr i p))::al) hs fun bs=>K (quiet::bs)) (ho:o.op = .indexAddr t a b:=by exact rfl) (wn:Wn ops nt al o d:=by exact⟨rfl,rfl,rfl⟩) (hb:ai (rg al) b = .one (.int k z):=by exact rfl) (ha:ai (rg al) a = .one c:=by exact rfl) (hc:ed c i off len:=by assumption) (hu:bh P t (.slice elem):=by infer_instance) (hs':aU P elem s:=by infer_instance) (hz:0≤z∧z<(len:Nat):=by first|omega|decide) (hp:off+z.toNat*s=p:=by exact n1):SK P ops nt L (o::l) al hs K:=
 J1 ho wn.w wn.e wn.l ha hb hc hz hp hk
theorem O5 {t:TypeId} {a b:Operand} {elem:TypeId} {s:Nat} {k:IntKind} {z:Int} {i n sz:Nat} {p:Nat}(hk:SK P ops nt L l ((d,.one (.ptr i p))::al) hs fun bs=>K (quiet::bs)) (ho:o.op = .indexAddr t a b:=by exact rfl) (wn:Wn ops nt al o d:=by exact⟨rfl,rfl,rfl⟩) (hb:ai (rg al) b = .one (.int k z):=by exact rfl) (ha:ai (rg al) a=iK i n sz:=by exact rfl) (hu:bh P t (.slice elem):=by infer_instance) (hs':aU P elem s:=by infer_instance) (hz:0≤z∧z<(n:Nat):=by omega) (hp:0+z.toNat*s=p:=by exact n1):SK P ops nt L (o::l) al hs K:=
 Cw ho wn.w wn.e wn.l (ha.trans (oL (by omega))) hb hz hp hk
theorem Pd {a:Operand} {t elem:TypeId} {i off len:Nat} {cap:sL}(hk:SK P ops nt L l ((d,.one (.int .i64 (len:Nat)))::al) hs fun bs=>K (quiet::bs)) (ho:o.op = .call ⟨.builtin .len,#[a],#[t]⟩:=by exact rfl) (wn:Wn ops nt al o d:=by exact⟨rfl,rfl,rfl⟩) (ha:ai (rg al) a = .one (.slice i off len cap):=by exact rfl) (hu:bh P t (.slice elem):=by infer_instance):SK P ops nt L (o::l) al hs K:=
 J5 ho wn.w wn.e wn.l ha hk
theorem Pc {a:Operand} {t elem:TypeId}(hk:SK P ops nt L l ((d,.one (.int .i64 0))::al) hs fun bs=>K (quiet::bs)) (ho:o.op = .call ⟨.builtin .len,#[a],#[t]⟩:=by exact rfl) (wn:Wn ops nt al o d:=by exact⟨rfl,rfl,rfl⟩) (ha:ai (rg al) a = .one .nils:=by exact rfl) (hu:bh P t (.slice elem):=by infer_instance):SK P ops nt L (o::l) al hs K:=
 SK.lift wn.e wn.l (fun _=>aJ.pure wn.w (by rw [ho];simp [bj,fc,ha,zJ,hu.out])) hk
theorem Pa {a:Operand} {t elem:TypeId} {i off len:Nat} {c:XC}(hk:SK P ops nt L l ((d,.one (.int .i64 (len:Nat)))::al) hs fun bs=>K (quiet::bs)) (ho:o.op = .call ⟨.builtin .len,#[a],#[t]⟩:=by exact rfl) (wn:Wn ops nt al o d:=by exact⟨rfl,rfl,rfl⟩) (ha:ai (rg al) a = .one c:=by exact rfl) (hc:ed c i off len:=by assumption) (hu:bh P t (.slice elem):=by infer_instance):SK P ops nt L (o::l) al hs K:=
 J3 ho wn.w wn.e wn.l ha hc hk
theorem Pb {a:Operand} {t elem:TypeId} {i n sz:Nat}(hk:SK P ops nt L l ((d,.one (.int .i64 (n:Nat)))::al) hs fun bs=>K (quiet::bs)) (ho:o.op = .call ⟨.builtin .len,#[a],#[t]⟩:=by exact rfl) (wn:Wn ops nt al o d:=by exact⟨rfl,rfl,rfl⟩) (ha:ai (rg al) a=iK i n sz:=by exact rfl) (hu:bh P t (.slice elem):=by infer_instance):SK P ops nt L (o::l) al hs K:=
 J4 ho wn.w wn.e wn.l ha hk
theorem fd {s:TypeId} {a:Operand} {f:Nat} {cs:List XC} {ft:TypeId} {fo:Nat} {c:XC}(hk:SK P ops nt L l ((d,.one c)::al) hs fun bs=>K (quiet::bs)) (ho:o.op = .field s a f:=by exact rfl) (wn:Wn ops nt al o d:=by exact⟨rfl,rfl,rfl⟩) (ha:ai (rg al) a = .agg cs:=by exact rfl) (hf:cE P s f ft fo:=by infer_instance) (hz:dJ P ft:=by infer_instance) (hc:cs[fo]? = some c:=by exact rfl):SK P ops nt L (o::l) al hs K:=
 Hk ho wn.w wn.e wn.l ha hc hk
theorem PH {a:Operand} {i:Nat} {vs:List X1} {c:XC}(hk:SK P ops nt L l ((d,.one c)::al) hs fun bs=>K (quiet::bs)) (ho:o.op = .extract a i:=by exact rfl) (wn:Wn ops nt al o d:=by exact⟨rfl,rfl,rfl⟩) (ha:ai (rg al) a = .tup vs:=by exact rfl) (hc:vs[i]? = some (.one c):=by exact rfl):SK P ops nt L (o::l) al hs K:=
 L4 ho wn.w wn.e wn.l ha hc hk
theorem PI {a:Operand} {i:Nat} {vs:List X1} {c:List XC}(hk:SK P ops nt L l ((d,.agg c)::al) hs fun bs=>K (quiet::bs)) (ho:o.op = .extract a i:=by exact rfl) (wn:Wn ops nt al o d:=by exact⟨rfl,rfl,rfl⟩) (ha:ai (rg al) a = .tup vs:=by exact rfl) (hc:vs[i]? = some (.agg c):=by exact rfl):SK P ops nt L (o::l) al hs K:=
 J0 ho wn.w wn.e wn.l ha hc hk
theorem ON (T:Nat→Int) {t:TypeId} {x ix:Operand} {s:List UInt8} {k:IntKind} {z:Int}(hk:SK P ops nt L l ((d,.one (.int .u8 (T z.toNat)))::al) hs fun bs=>K (quiet::bs)) (ho:o.op = .index t x ix:=by exact rfl) (wn:Wn ops nt al o d:=by exact⟨rfl,rfl,rfl⟩) (hu:bh P t .string:=by infer_instance) (ha:ai (rg al) x = .one (.str s):=by exact rfl) (hb:ai (rg al) ix = .one (.int k z):=by exact rfl) (hz:0≤z∧z<256:=by omega) (hT:∀ i:Fin 256,s[i.val]?.map (fun b=>(b.toNat:Int))=some (T i.val):=by decide +kernel):SK P ops nt L (o::l) al hs K:=
 L6 T ho wn.w wn.e wn.l ha hb hz hT hk
theorem ld {t:TypeId} {a:Operand} {i off:Nat} {vs:List XC} {e:TypeId} {opn ro:Bool} {c:XC}(hk:SK P ops nt L l ((d,.one c)::al) hs fun bs=>K (⟨false,some i,[]⟩::bs)) (ho:o.op = .load t a:=by exact rfl) (ht:dJ P t:=by infer_instance) (wn:Wn ops nt al o d:=by exact⟨rfl,rfl,rfl⟩) (ha:ai (rg al) a = .one (.ptr i off):=by exact rfl) (hi:hs[i]? = some (.cells vs e opn ro):=by exact rfl) (hc:vs[off]? = some c:=by exact rfl):SK P ops nt L (o::l) al hs K:=
 gA ho wn.w wn.e wn.l ha hi hc hk
theorem O8 {t:TypeId} {a:Operand} {i off:Nat} {k:IntKind} {q:List Int} {e:TypeId} {opn ro:Bool}(hk:SK P ops nt L l ((d,.one (.int k (q.getD off 0)))::al) hs fun bs=>K (⟨false,some i,[]⟩::bs)) (ho:o.op = .load t a:=by exact rfl) (ht:dJ P t:=by infer_instance) (wn:Wn ops nt al o d:=by exact⟨rfl,rfl,rfl⟩) (ha:ai (rg al) a = .one (.ptr i off):=by exact rfl) (hi:hs[i]? = some (.cells (il k q) e opn ro):=by exact rfl) (hc:off<q.length:=by first|omega|decide|(simp only [e8,aE,List.length_cons,List.length_nil,List.length_set,List.length_append,List.length_replicate];first|omega|decide)):SK P ops nt L (o::l) al hs K:=
 gA ho wn.w wn.e wn.l ha hi (FZ hc) hk
theorem O_ {t:TypeId} {a:Operand} {i off:Nat} {k:IntKind} {q:List Int} {e:TypeId}(hk:SK P ops nt L l ((d,.one (.int k (q.getD off 0)))::al) hs fun bs=>K (⟨false,some i,[]⟩::bs)) (ho:o.op = .load t a:=by exact rfl) (ht:dJ P t:=by infer_instance) (wn:Wn ops nt al o d:=by exact⟨rfl,rfl,rfl⟩) (ha:ai (rg al) a = .one (.ptr i off):=by exact rfl) (hi:hs[i]? = some (cK e (il k q)):=by exact rfl) (hc:off<q.length:=by first|omega|decide|(simp only [e8,aE,List.length_cons,List.length_nil,List.length_set,List.length_append,List.length_replicate];first|omega|decide)):SK P ops nt L (o::l) al hs K:=
 gA ho wn.w wn.e wn.l ha (hi.trans (congrArg some (js (fun hn=>by rw [show q = [] by simpa [il]using hn]at hc;exact absurd hc (Nat.not_lt_zero _))))) (FZ hc) hk
theorem O9 {t:TypeId} {a:Operand} {i off:Nat} {k:IntKind} {n:Nat} {q:Nat→Int} {e:TypeId} {opn ro:Bool}(hk:SK P ops nt L l ((d,.one (.int k (q off)))::al) hs fun bs=>K (⟨false,some i,[]⟩::bs)) (ho:o.op = .load t a:=by exact rfl) (ht:dJ P t:=by infer_instance) (wn:Wn ops nt al o d:=by exact⟨rfl,rfl,rfl⟩) (ha:ai (rg al) a = .one (.ptr i off):=by exact rfl) (hi:hs[i]? = some (.cells (ti k n q) e opn ro):=by exact rfl) (hc:off<n:=by omega):SK P ops nt L (o::l) al hs K:=
 gA ho wn.w wn.e wn.l ha hi (gP hc) hk
theorem fy {t:TypeId} {a:Operand} {s:Nat} {i:Nat} {vs:List XC} {e:TypeId} {opn ro:Bool}(hk:SK P ops nt L l ((d,.agg vs)::al) hs fun bs=>K (⟨false,some i,[]⟩::bs)) (ho:o.op = .load t a:=by exact rfl) (ht:eJ P t:=by infer_instance) (hs':aU P t s:=by infer_instance) (wn:Wn ops nt al o d:=by exact⟨rfl,rfl,rfl⟩) (ha:ai (rg al) a = .one (.ptr i 0):=by exact rfl) (hi:hs[i]? = some (.cells vs e opn ro):=by exact rfl) (hle:s=vs.length:=by exact rfl):SK P ops nt L (o::l) al hs K:=
 A6 ho wn.w wn.e wn.l ha hi hle hk
theorem rS {t:TypeId} {a:Operand} {s:Nat} {i off:Nat} {vs:List XC} {e:TypeId} {opn ro:Bool} {cs:List XC}(hk:SK P ops nt L l ((d,.agg cs)::al) hs fun bs=>K (⟨false,some i,[]⟩::bs)) (ho:o.op = .load t a:=by exact rfl) (ht:eJ P t:=by infer_instance) (hs':aU P t s:=by infer_instance) (wn:Wn ops nt al o d:=by exact⟨rfl,rfl,rfl⟩) (ha:ai (rg al) a = .one (.ptr i off):=by exact rfl) (hi:hs[i]? = some (.cells vs e opn ro):=by exact rfl) (hle:off+s≤vs.length:=by first|exact Nat.le_of_ble_eq_true rfl|decide) (hc:(vs.drop off).take s=cs:=by exact rfl):SK P ops nt L (o::l) al hs K:=
 t7 ho wn.w wn.e wn.l ha hi hle hc hk
theorem p7 {t:TypeId} {zs:List XC} {n:Nat} {hs':ak}(hk:SK P ops nt L l ((d,.one (.ptr n 0))::al) hs' fun bs=>K (⟨true,.none,[n]⟩::bs)) (ho:o.op = .alloc t:=by exact rfl) (hz:bC P t zs:=by infer_instance) (wn:Wn ops nt al o d:=by exact⟨rfl,rfl,rfl⟩) (hn:hs.length=n:=by exact n2) (hb:Nat.blt n Mem.bound=true:=by exact rfl) (hh:hs++[.cells zs t false false]=hs':=by exact n3):SK P ops nt L (o::l) al hs K:=
 Hh ho wn.w wn.e wn.l hn hb hh hk
theorem bx {t:TypeId} {y:Operand} {cs:List XC} {n:Nat} {hs':ak}(hk:SK P ops nt L l ((d,.one (.ptr n 0))::al) hs' fun bs=>K (⟨true,.none,[n]⟩::bs)) (ho:o.op = .box t y:=by exact rfl) (wn:Wn ops nt al o d:=by exact⟨rfl,rfl,rfl⟩) (hy:db (ai (rg al) y)=some cs:=by exact rfl) (hn:hs.length=n:=by exact n2) (hb:Nat.blt n Mem.bound=true:=by exact rfl) (hh:hs++[.cells cs t false false]=hs':=by exact n3):SK P ops nt L (o::l) al hs K:=
 L0 ho wn.w wn.e wn.l hy hn hb hh hk
theorem mm {t:TypeId} {n:Nat} {hs':ak}(hk:SK P ops nt L l ((d,.one (.map n))::al) hs' fun bs=>K (⟨true,.none,[n]⟩::bs)) (ho:o.op = .makeMap t .none:=by exact rfl) (wn:Wn ops nt al o d:=by exact⟨rfl,rfl,rfl⟩) (hn:hs.length=n:=by exact n2) (hb:Nat.blt n Mem.bound=true:=by exact rfl) (hh:hs++[.map []]=hs':=by exact n3):SK P ops nt L (o::l) al hs K:=
 A7 ho wn.w wn.e wn.l hn hb hh hk
theorem st {t:TypeId} {a y:Operand} {i off:Nat} {c:XC} {vs:List XC} {e:TypeId} {opn:Bool} {vs':List XC} {hs':ak}(hk:SK P ops nt L l al hs' fun bs=>K (⟨true,.none,[i]⟩::bs)) (ho:o.op = .store t a y:=by exact rfl) (ht:aU P t 1:=by infer_instance) (hw:aw ops (rg al) o=some true:=by exact rfl) (hd:o.dst = .none:=by exact rfl) (ha:ai (rg al) a = .one (.ptr i off):=by exact rfl) (hy:db (ai (rg al) y)=some [c]:=by exact rfl) (hi:hs[i]? = some (.cells vs e opn false):=by exact rfl) (hle:off<vs.length:=by first|exact Nat.le_of_ble_eq_true rfl|decide) (hv:vs.set off c=vs':=by exact n4) (hh:hs.set i (.cells vs' e opn false)=hs':=by exact n4):SK P ops nt L (o::l) al hs K:=
 kB ho hw hd ha hy hi hle hv hh hk
theorem PB {t:TypeId} {a y:Operand} {i off:Nat} {k:IntKind} {z:Int} {q:List Int} {e:TypeId} {opn:Bool} {hs':ak}(hk:SK P ops nt L l al hs' fun bs=>K (⟨true,.none,[i]⟩::bs)) (ho:o.op = .store t a y:=by exact rfl) (ht:aU P t 1:=by infer_instance) (hw:aw ops (rg al) o=some true:=by exact rfl) (hd:o.dst = .none:=by exact rfl) (ha:ai (rg al) a = .one (.ptr i off):=by exact rfl) (hy:db (ai (rg al) y)=some [.int k z]:=by exact rfl) (hi:hs[i]? = some (.cells (il k q) e opn false):=by exact rfl) (hle:off<q.length:=by first|omega|decide|(simp only [e8,aE,List.length_cons,List.length_nil,List.length_set,List.length_append,List.length_replicate];first|omega|decide)) (hh:hs.set i (.cells (il k (q.set off z)) e opn false)=hs':=by exact n4):SK P ops nt L (o::l) al hs K:=
 kB ho hw hd ha hy hi (by rw [e8];exact hle) (F0 ..) hh hk
theorem PD {t:TypeId} {a y:Operand} {i off:Nat} {k:IntKind} {z:Int} {q:List Int} {e:TypeId} {hs':ak}(hk:SK P ops nt L l al hs' fun bs=>K (⟨true,.none,[i]⟩::bs)) (ho:o.op = .store t a y:=by exact rfl) (ht:aU P t 1:=by infer_instance) (hw:aw ops (rg al) o=some true:=by exact rfl) (hd:o.dst = .none:=by exact rfl) (ha:ai (rg al) a = .one (.ptr i off):=by exact rfl) (hy:db (ai (rg al) y)=some [.int k z]:=by exact rfl) (hi:hs[i]? = some (cK e (il k q)):=by exact rfl) (hle:off<q.length:=by first|omega|decide|(simp only [e8,aE,List.length_cons,List.length_nil,List.length_set,List.length_append,List.length_replicate];first|omega|decide)) (hh:hs.set i (cK e (il k (q.set off z)))=hs':=by exact n4):SK P ops nt L (o::l) al hs K:=
 D1 ho hw hd ha hy hi hle hh hk
theorem PC {t:TypeId} {a y:Operand} {i off:Nat} {k:IntKind} {z:Int} {n:Nat} {q:Nat→Int} {e:TypeId} {opn:Bool} {hs':ak}(hk:SK P ops nt L l al hs' fun bs=>K (⟨true,.none,[i]⟩::bs)) (ho:o.op = .store t a y:=by exact rfl) (ht:aU P t 1:=by infer_instance) (hw:aw ops (rg al) o=some true:=by exact rfl) (hd:o.dst = .none:=by exact rfl) (ha:ai (rg al) a = .one (.ptr i off):=by exact rfl) (hy:db (ai (rg al) y)=some [.int k z]:=by exact rfl) (hi:hs[i]? = some (.cells (ti k n q) e opn false):=by exact rfl) (hle:off<n:=by omega) (hh:hs.set i (.cells (ti k n (cW q off z)) e opn false)=hs':=by exact n4):SK P ops nt L (o::l) al hs K:=
 kB ho hw hd ha hy hi (by rw [aE];exact hle) (rq ..) hh hk
theorem i9 {t:TypeId} {a y:Operand} {s:Nat} {i:Nat} {cs:List XC} {vs:List XC} {e:TypeId} {opn:Bool} {hs':ak}(hk:SK P ops nt L l al hs' fun bs=>K (⟨true,.none,[i]⟩::bs)) (ho:o.op = .store t a y:=by exact rfl) (ht:aU P t s:=by infer_instance) (hw:aw ops (rg al) o=some true:=by exact rfl) (hd:o.dst = .none:=by exact rfl) (ha:ai (rg al) a = .one (.ptr i 0):=by exact rfl) (hy:db (ai (rg al) y)=some cs:=by exact rfl) (hi:hs[i]? = some (.cells vs e opn false):=by exact rfl) (hs1:s=cs.length:=by exact rfl) (hs2:s=vs.length:=by exact rfl) (hh:hs.set i (.cells cs e opn false)=hs':=by exact n4):SK P ops nt L (o::l) al hs K:=
 D2 ho hw hd ha hy hi hs1 hs2 hh hk
theorem Nn {α : Type} {enc : α→List XC} {s:Nat} [hE:qQ enc s] [Inhabited α] {t:TypeId} {a:Operand} {i off:Nat} {e:TypeId} {q:List α} {j:Nat}(hk:SK P ops nt L l ((d,.agg (enc (q.getD j default)))::al) hs fun bs=>K (⟨false,some i,[]⟩::bs)) (ho:o.op = .load t a:=by exact rfl) (ht:eJ P t:=by infer_instance) (hs':aU P t s:=by infer_instance) (wn:Wn ops nt al o d:=by exact⟨rfl,rfl,rfl⟩) (ha:ai (rg al) a = .one (.ptr i off):=by exact rfl) (hi:hs[i]? = some (cK e (fl enc q)):=by exact rfl) (hj:off=j*s:=by exact rfl) (hc:j<q.length:=by omega):SK P ops nt L (o::l) al hs K:=
 Hl ho wn.w wn.e wn.l ha hi hj hc hk
theorem pI {α : Type} {enc : α→List XC} {s:Nat} [hE:qQ enc s] [Inhabited α] {t:TypeId} {a:Operand} {i off:Nat} {ob:aj} {q:List α} {j:Nat}(hk:SK P ops nt L l ((d,.agg (enc (q.getD j default)))::al) hs fun bs=>K (⟨false,some i,[]⟩::bs)) (ho:o.op = .load t a:=by exact rfl) (ht:eJ P t:=by infer_instance) (hs':aU P t s:=by infer_instance) (wn:Wn ops nt al o d:=by exact⟨rfl,rfl,rfl⟩) (ha:ai (rg al) a = .one (.ptr i off):=by exact rfl) (hi:hs[i]? = some ob:=by exact rfl) (hro:wo ob enc q:=by assumption) (hj:off=j*s:=by exact rfl) (hc:j<q.length:=by omega):SK P ops nt L (o::l) al hs K:=
 D0 ho wn.w wn.e wn.l ha hi hro hj hc hk
theorem b0 {t:TypeId} {zs:List XC} {pl:List (Nat × Nat)}(hk:SK P ops nt L l ((d,.agg zs)::al) hs fun bs=>K (quiet::bs)) (ho:o.op = .build t #[]:=by exact rfl) (hz:bC P t zs:=by infer_instance) (hp:dP P t pl:=by infer_instance) (wn:Wn ops nt al o d:=by exact⟨rfl,rfl,rfl⟩):SK P ops nt L (o::l) al hs K:=
 DW ho wn.w wn.e wn.l hk
theorem OX {t:TypeId} {zs:List XC} {n:Nat} {e:TypeId} {s:Nat}(hk:SK P ops nt L l ((d,.agg zs)::al) hs fun bs=>K (quiet::bs)) (ho:o.op = .build t #[]:=by exact rfl) (hz:bC P t zs:=by infer_instance) (hu:bh P t (.array n e):=by infer_instance) (hs':aU P e s:=by infer_instance) (wn:Wn ops nt al o d:=by exact⟨rfl,rfl,rfl⟩):SK P ops nt L (o::l) al hs K:=
 A5 ho wn.w wn.e wn.l hk
theorem bA {t:TypeId} {parts:Array (Nat × Operand)} {zs:List XC} {n:Nat} {e:TypeId} {s:Nat} {out:List XC} {out':List XC}(hk:SK P ops nt L l ((d,.agg out')::al) hs fun bs=>K (quiet::bs)) (ho:o.op = .build t parts:=by exact rfl) (hz:bC P t zs:=by infer_instance) (hu:bh P t (.array n e):=by infer_instance) (hs':aU P e s:=by infer_instance) (wn:Wn ops nt al o d:=by exact⟨rfl,rfl,rfl⟩) (hr:nR (fun i=>some (i*s,s)) zs.length 0 (parts.toList.map fun p=>(p.1,ai (rg al) p.2))=true:=by exact rfl) (hc:jC (parts.toList.map fun p=>(p.1,ai (rg al) p.2))=some out:=by exact rfl) (hn:out=out':=by first|(simp only [List.cons_append,List.nil_append,List.append_nil];exact rfl)|exact rfl):SK P ops nt L (o::l) al hs K:=
 DX ho wn.w wn.e wn.l hr hc hn hk
theorem bS {t:TypeId} {parts:Array (Nat × Operand)} {zs:List XC} {pl:List (Nat × Nat)} {out:List XC} {out':List XC}(hk:SK P ops nt L l ((d,.agg out')::al) hs fun bs=>K (quiet::bs)) (ho:o.op = .build t parts:=by exact rfl) (hz:bC P t zs:=by infer_instance) (hp:dP P t pl:=by infer_instance) (wn:Wn ops nt al o d:=by exact⟨rfl,rfl,rfl⟩) (hr:nR (fun i=>pl[i]?) zs.length 0 (parts.toList.map fun p=>(p.1,ai (rg al) p.2))=true:=by exact rfl) (hc:jC (parts.toList.map fun p=>(p.1,ai (rg al) p.2))=some out:=by exact rfl) (hn:out=out':=by first|(simp only [List.cons_append,List.nil_append,List.append_nil];exact rfl)|exact rfl):SK P ops nt L (o::l) al hs K:=
 DZ ho wn.w wn.e wn.l hr hc hn hk
theorem bF {t:TypeId} {parts:Array (Nat × Operand)} {zs:List XC} {pl:List (Nat × Nat)} {out:List XC}(hk:SK P ops nt L l ((d,.agg out)::al) hs fun bs=>K (quiet::bs)) (ho:o.op = .build t parts:=by exact rfl) (hz:bC P t zs:=by infer_instance) (hp:dP P t pl:=by infer_instance) (wn:Wn ops nt al o d:=by exact⟨rfl,rfl,rfl⟩) (hc:iG (fun i=>pl[i]?) zs (parts.toList.map fun p=>(p.1,ai (rg al) p.2))=some out:=by exact rfl):SK P ops nt L (o::l) al hs K:=
 DY ho wn.w wn.e wn.l hc hk
theorem OJ {t t1 e e1:TypeId} {a b:Operand} {k:IntKind} {i n j len:Nat} {cap:sL} {q r:List Int} {et:TypeId} {opn ro:Bool} {N:Nat} {hs':ak}(hk:SK P ops nt L l ((d,iK N (n+len) 1)::al) hs' fun bs=>K (⟨true,.none,[i,N]⟩::bs)) (ho:o.op = .call ⟨.builtin .append,#[a,b],#[t,t1]⟩:=by exact rfl) (hu:bh P t (.slice e):=by infer_instance) (hu1:bh P t1 (.slice e1):=by infer_instance) (hz:bC P e [.int k 0]:=by infer_instance) (hI:TI P e 1:=by infer_instance) (wn:Wn ops nt al o d:=by exact⟨rfl,rfl,rfl⟩) (ha:ai (rg al) a=iK i n 1:=by exact rfl) (hi:hs[i]? = some (cK e (il k q)):=by exact rfl) (hb:ai (rg al) b = .one (.slice j 0 len cap):=by exact rfl) (hj:hs[j]? = some (.cells (il k r) et opn ro):=by exact rfl) (hn:q.length=n:=by first|assumption|exact rfl|(simp only [List.length_append,List.length_cons,List.length_nil];done)|(simp only [List.length_append,List.length_cons,List.length_nil];omega)) (hr:r.length=len:=by first|assumption|exact rfl|(simp only [List.length_append,List.length_cons,List.length_nil];done)|(simp only [List.length_append,List.length_cons,List.length_nil];omega)) (hm:0<len∧n+len≤2000000000:=by omega) (hN:hs.length=N:=by exact n2) (hbd:Nat.blt N Mem.bound=true:=by exact rfl) (hh:hs.set i .dead++[cK e (il k (q++r))]=hs':=by first|(simp only [List.set_cons_succ,List.set_cons_zero,List.cons_append,List.nil_append];exact rfl)|exact rfl):SK P ops nt L (o::l) al hs K:=
 LY ho wn.w wn.e wn.l ha hi hb hj hn hr hm hN hbd hh hk
theorem OI {t t1 e e1:TypeId} {a b:Operand} {k:IntKind} {i len n:Nat} {q r:List Int} {et:TypeId} {opn ro:Bool} {N:Nat} {hs':ak}(hr:r.length=n) (hsrc:∀ M,bG M hs→nq P t1 1 (ai (rg al) b) M=some (n,il k r)) (h1:n=0→SK P ops nt L l ((d,.one (.slice i 0 len (.exact len)))::al) hs fun bs=>K (⟨true,.none,[]⟩::bs)) (h2:0<n→SK P ops nt L l ((d,.one (.slice N 0 (len+n) (.toEnd 1)))::al) hs' fun bs=>K (⟨true,.none,[N]⟩::bs)) (ho:o.op = .call ⟨.builtin .append,#[a,b],#[t,t1]⟩:=by exact rfl) (hu:bh P t (.slice e):=by infer_instance) (hu1:bh P t1 (.slice e1):=by infer_instance) (hz:bC P e [.int k 0]:=by infer_instance) (hI:TI P e 1:=by infer_instance) (wn:Wn ops nt al o d:=by exact⟨rfl,rfl,rfl⟩) (ha:ai (rg al) a = .one (.slice i 0 len (.exact len)):=by exact rfl) (hi:hs[i]? = some (.cells (il k q) et opn ro):=by exact rfl) (hq:q.length=len:=by first|assumption|exact rfl) (hm:len+n≤2000000000:=by omega) (hN:hs.length=N:=by exact n2) (hbd:Nat.blt N Mem.bound=true:=by exact rfl) (hh:hs++[.cells (il k (q++r)) e true false]=hs':=by exact n3):SK P ops nt L (o::l) al hs K:=
 LX ho wn.w wn.e wn.l ha hi hq hr hsrc hm hN hbd hh h1 h2
theorem OZ {t t1 e e1:TypeId} {a b:Operand} {k:IntKind} {j len:Nat} {cap:sL} {q r:List Int} {et:TypeId} {opn:Bool} {hs':ak}(hsrc:∀ M,bG M hs→nq P t1 1 (ai (rg al) b) M=some (len,il k r)) (hk:SK P ops nt L l ((d,.one (.int .i64 (len:Nat)))::al) hs' fun bs=>K (⟨true,.none,[j]⟩::bs)) (ho:o.op = .call ⟨.builtin .copy,#[a,b],#[t,t1]⟩:=by exact rfl) (hu:bh P t (.slice e):=by infer_instance) (hu1:bh P t1 (.slice e1):=by infer_instance) (hse:aU P e 1:=by infer_instance) (wn:Wn ops nt al o d:=by exact⟨rfl,rfl,rfl⟩) (ha:ai (rg al) a = .one (.slice j 0 len cap):=by exact rfl) (hj:hs[j]? = some (.cells (il k q) et opn false):=by exact rfl) (hq:q.length=len:=by first|exact List.length_replicate|assumption|exact rfl) (hr:r.length=len:=by first|assumption|exact rfl) (hh:hs.set j (.cells (il k r) et opn false)=hs':=by exact n4):SK P ops nt L (o::l) al hs K:=
 L3 ho wn.w wn.e wn.l ha hj hq hr hsrc hh hk
theorem Pg {t e:TypeId} {a b:Operand} {k:IntKind} {kl kc:IntKind} {x y:Int} {n:Nat} {N:Nat} {hs':ak}(hk:SK P ops nt L l ((d,.one (.slice N 0 n (.exact n)))::al) hs' fun bs=>K (⟨true,.none,[N]⟩::bs)) (ho:o.op = .makeSlice t a b:=by exact rfl) (hu:bh P t (.slice e):=by infer_instance) (hz:bC P e [.int k 0]:=by infer_instance) (hI:TI P e 1:=by infer_instance) (wn:Wn ops nt al o d:=by exact⟨rfl,rfl,rfl⟩) (ha:ai (rg al) a = .one (.int kl x):=by exact rfl) (hb:ai (rg al) b = .one (.int kc y):=by exact rfl) (hx:x=(n:Nat):=by exact rfl) (hy:y=(n:Nat):=by exact rfl) (hn:n≤2000000000:=by first|omega|exact Nat.le_of_ble_eq_true rfl) (hN:hs.length=N:=by exact n2) (hbd:Nat.blt N Mem.bound=true:=by exact rfl) (hh:hs++[.cells (il k (List.replicate n 0)) e false false]=hs':=by exact n3):SK P ops nt L (o::l) al hs K:=
 L7 ho wn.w wn.e wn.l ha hb hx hy hn hN hbd hh hk
theorem N8 {t e:TypeId} {k:IntKind} {n:Nat} {hs':ak}(hk:SK P ops nt L l ((d,.one (.slice n 0 0 (.exact 0)))::al) hs' fun bs=>K (⟨true,.none,[n]⟩::bs)) (ho:o.op = .buildSlice t 0 #[]:=by exact rfl) (hu:bh P t (.slice e):=by infer_instance) (hz:bC P e [.int k 0]:=by infer_instance) (hse:aU P e 1:=by infer_instance) (wn:Wn ops nt al o d:=by exact⟨rfl,rfl,rfl⟩) (hn:hs.length=n:=by exact n2) (hb:Nat.blt n Mem.bound=true:=by exact rfl) (hh:hs++[.cells (il k []) e false false]=hs':=by exact n3):SK P ops nt L (o::l) al hs K:=
 JW ho wn.w wn.e wn.l hn hb hh hk
theorem N9 {t e:TypeId} {y:Operand} {k:IntKind} {z:Int} {n:Nat} {hs':ak}(hk:SK P ops nt L l ((d,.one (.slice n 0 1 (.exact 1)))::al) hs' fun bs=>K (⟨true,.none,[n]⟩::bs)) (ho:o.op = .buildSlice t 1 #[(0,y)]:=by exact rfl) (hu:bh P t (.slice e):=by infer_instance) (hz:bC P e [.int k 0]:=by infer_instance) (hse:aU P e 1:=by infer_instance) (wn:Wn ops nt al o d:=by exact⟨rfl,rfl,rfl⟩) (hy:db (ai (rg al) y)=some [.int k z]:=by exact rfl) (hn:hs.length=n:=by exact n2) (hb:Nat.blt n Mem.bound=true:=by exact rfl) (hh:hs++[.cells (il k [z]) e false false]=hs':=by exact n3):SK P ops nt L (o::l) al hs K:=
 JY ho wn.w wn.e wn.l hy hn hb hh hk
theorem qU {α : Type} {enc : α→List XC} {s:Nat} [hE:qQ enc s] {t e:TypeId} {y:Operand} {zs:List XC} {a : α} {n:Nat} {hs':ak}(hk:SK P ops nt L l ((d,.one (.slice n 0 1 (.exact 1)))::al) hs' fun bs=>K (⟨true,.none,[n]⟩::bs)) (ho:o.op = .buildSlice t 1 #[(0,y)]:=by exact rfl) (hu:bh P t (.slice e):=by infer_instance) (hz:bC P e zs:=by infer_instance) (hse:aU P e s:=by infer_instance) (hzl:zs.length=s:=by exact rfl) (hsm:s≤16777216:=by exact Nat.le_of_ble_eq_true rfl) (wn:Wn ops nt al o d:=by exact⟨rfl,rfl,rfl⟩) (hy:db (ai (rg al) y)=some (enc a):=by exact rfl) (hn:hs.length=n:=by exact n2) (hb:Nat.blt n Mem.bound=true:=by exact rfl) (hh:hs++[.cells (fl enc [a]) e false false]=hs':=by exact n3):SK P ops nt L (o::l) al hs K:=
 JX ho hzl hsm wn.w wn.e wn.l hy hn hb hh hk
theorem uL {α : Type} {enc : α→List XC} {s:Nat} [hE:qQ enc s] {t t1 e e1:TypeId} {a b:Operand} {zs:List XC} {i n j len:Nat} {cap:sL} {q r:List α} {et:TypeId} {opn ro:Bool} {N:Nat} {hs':ak}(hk:SK P ops nt L l ((d,iK N (n+len) s)::al) hs' fun bs=>K (⟨true,.none,[i,N]⟩::bs)) (ho:o.op = .call ⟨.builtin .append,#[a,b],#[t,t1]⟩:=by exact rfl) (hu:bh P t (.slice e):=by infer_instance) (hu1:bh P t1 (.slice e1):=by infer_instance) (hz:bC P e zs:=by infer_instance) (hI:TI P e s:=by infer_instance) (hzl:zs.length=s:=by exact rfl) (wn:Wn ops nt al o d:=by exact⟨rfl,rfl,rfl⟩) (ha:ai (rg al) a=iK i n s:=by exact rfl) (hi:hs[i]? = some (cK e (fl enc q)):=by exact rfl) (hb:ai (rg al) b = .one (.slice j 0 len cap):=by exact rfl) (hj:hs[j]? = some (.cells (fl enc r) et opn ro):=by exact rfl) (hn:q.length=n:=by first|assumption|exact rfl|(simp only [List.length_append,List.length_cons,List.length_nil];done)|(simp only [List.length_append,List.length_cons,List.length_nil];omega)) (hr:r.length=len:=by first|assumption|exact rfl) (hm:0<len∧n+len≤2000000000:=by omega) (hN:hs.length=N:=by exact n2) (hbd:Nat.blt N Mem.bound=true:=by exact rfl) (hh:hs.set i .dead++[cK e (fl enc (q++r))]=hs':=by first|(simp only [List.set_cons_succ,List.set_cons_zero,List.cons_append,List.nil_append];exact rfl)|exact rfl):SK P ops nt L (o::l) al hs K:=
 LZ ho hzl wn.w wn.e wn.l ha hi hb hj hn hr hm hN hbd hh hk
theorem cl {f:FuncId} {vs:List XV} {v:XV} {hs':ak} {ws:List Nat} {g:Operand} {args:Array Operand} {ts:Array TypeId} {c:XC} {caps:List XC}(hk:SK P ops nt (⟨f,vs,hs,v,hs',ws⟩::L) l ((d,v)::al) hs' fun bs=>K (⟨true,.none,ws++mM hs.length hs'.length⟩::bs)) (ho:o.op = .call ⟨.value g,args,ts⟩:=by exact rfl) (wn:Wn ops nt al o d:=by exact⟨rfl,rfl,rfl⟩) (hg:ai (rg al) g = .one c:=by exact rfl) (hx:xU c=some (f,caps):=by exact rfl) (hcb:fe P f=true:=by kernel_rfl) (ha:args.toList.map (ai (rg al))++caps.map .one=vs:=by exact rfl) (hi:aI.Sound P ⟨f,vs,hs,v,hs',ws⟩):SK P ops nt L (o::l) al hs K:=
 aD hi ho wn.w wn.e wn.l hg hx hcb ha hk
theorem NP {f:FuncId} {vs:List XV} {v:XV} {hs':ak} {ws:List Nat} {g:Operand} {args:Array Operand} {ts:Array TypeId} {c:XC} {caps:List XC}(hk:SK P ops nt (⟨f,vs,hs,v,hs',ws⟩::L) l al hs' fun bs=>K (⟨true,.none,ws++mM hs.length hs'.length⟩::bs)) (ho:o.op = .call ⟨.value g,args,ts⟩:=by exact rfl) (hw:aw ops (rg al) o=some true:=by exact rfl) (hd:o.dst = .none:=by exact rfl) (hg:ai (rg al) g = .one c:=by exact rfl) (hx:xU c=some (f,caps):=by exact rfl) (hcb:fe P f=true:=by kernel_rfl) (ha:args.toList.map (ai (rg al))++caps.map .one=vs:=by exact rfl) (hi:aI.Sound P ⟨f,vs,hs,v,hs',ws⟩):SK P ops nt L (o::l) al hs K:=
 Hj hi ho hw hd hg hx hcb ha hk
theorem sZ {f:FuncId} {vs:List XV} {b:Bool} {hs':ak} {ws:List Nat} {g:Operand} {args:Array Operand} {ts:Array TypeId} {c:XC} {caps:List XC}(h1:b=true→SK P ops nt (⟨f,vs,hs,.one (.bool b),hs',ws⟩::L) l ((d,.one (.bool true))::al) hs' fun bs=>K (⟨true,.none,ws++mM hs.length hs'.length⟩::bs)) (h2:b=false→SK P ops nt (⟨f,vs,hs,.one (.bool b),hs',ws⟩::L) l ((d,.one (.bool false))::al) hs' fun bs=>K (⟨true,.none,ws++mM hs.length hs'.length⟩::bs)) (ho:o.op = .call ⟨.value g,args,ts⟩:=by exact rfl) (wn:Wn ops nt al o d:=by exact⟨rfl,rfl,rfl⟩) (hg:ai (rg al) g = .one c:=by exact rfl) (hx:xU c=some (f,caps):=by exact rfl) (hcb:fe P f=true:=by kernel_rfl) (ha:args.toList.map (ai (rg al))++caps.map .one=vs:=by exact rfl) (hi:aI.Sound P ⟨f,vs,hs,.one (.bool b),hs',ws⟩):SK P ops nt L (o::l) al hs K:=by
 refine aD hi ho wn.w wn.e wn.l hg hx hcb ha ?_
 cases hb:b with
 | true=>rw [hb]at h1;exact h1 rfl
 | false=>rw [hb]at h2;exact h2 rfl
theorem OS {t e:TypeId} {a:Operand} {lo hi:Option Operand} {s:Nat} {i off n p q:Nat} {c:XC} {z w:Int}(hk:∀ c',ed c' i (off+p*s) (q-p)→SK P ops nt L l ((d,.one c')::al) hs fun bs=>K (quiet::bs)) (ho:o.op = .slice t a lo hi .none:=by exact rfl) (hu:bh P t (.slice e):=by infer_instance) (hs':aU P e s:=by infer_instance) (wn:Wn ops nt al o d:=by exact⟨rfl,rfl,rfl⟩) (ha:ai (rg al) a = .one c:=by exact rfl) (hc:ed c i off n:=by assumption) (hl:zf (lo.map (ai (rg al))) 0=some z:=by exact rfl) (hh:zf (hi.map (ai (rg al))) (n:Nat)=some w:=by exact rfl) (hp:z=(p:Nat):=by first|exact rfl|omega) (hq:w=(q:Nat):=by first|exact rfl|omega) (hb:p≤q∧q≤n:=by omega):SK P ops nt L (o::l) al hs K:=
 Ma ho wn.w wn.e wn.l ha hc hl hh hp hq hb hk
section
variable {K:cR}
theorem wS {a b:Code}(h:WX P nt nI (.code a) al hs (MO P nt nI b K)):WX P nt nI (.code (.seq a b)) al hs K:=
 WX.seq h
theorem wA {id:Nat}(h:SK P ops nt [] ops.toList al hs fun _ al' hs'=>K .normal al' hs'):WX P nt nI (.code (.region id ops false)) al hs K:=
 WX.MR h
theorem wD {id:Nat}(h:SK P ops nt [] ops.toList al hs fun bs al' hs'=>u_ (fx ops.toList) bs=true∧K .normal al' hs') (hP:P.follows .mixedOrders=true:=by kernel_rfl) (hst:bK ops nt (fx ops.toList)=true:=by kernel_rfl):WX P nt nI (.code (.region id ops true)) al hs K:=
 WX.La hP hst h
theorem PF {id:Nat}(f:Nat) (h:SK P ops nt [] ops.toList al hs fun bs al' hs'=>lD ops (fx ops.toList) bs f=true∧K .normal al' hs') (hno:ops.toList.all mO=true:=by kernel_rfl) (hP:P.follows .mixedOrders=true:=by kernel_rfl) (hst:bK ops nt (fx ops.toList)=true:=by kernel_rfl):WX P nt nI (.code (.region id ops true)) al hs K:=
 WX.Lb f hno hP hst h
theorem wT {c:Operand} {x y:Code}(h:WX P nt nI (.code x) al hs K) (hc:ai (rg al) c = .one (.bool true):=by exact rfl):WX P nt nI (.code (.cond c x y)) al hs K:=
 WX.M5 hc h
theorem wF {c:Operand} {x y:Code}(h:WX P nt nI (.code y) al hs K) (hc:ai (rg al) c = .one (.bool false):=by exact rfl):WX P nt nI (.code (.cond c x y)) al hs K:=
 WX.M4 hc h
theorem wK (h:K .normal al hs):WX P nt nI (.code .skip) al hs K:=
 WX.skip h
theorem wB {id:Nat} {c:Code}(h:WX P nt nI (.code c) al hs (wm id K)):WX P nt nI (.code (.block id c)) al hs K:=
 WX.block h
theorem wE {id:Nat}(h:K (.exit id) al hs):WX P nt nI (.code (.exit id)) al hs K:=
 WX.exit h
theorem wR (h:K .ret al hs):WX P nt nI (.code .ret) al hs K:=
 WX.ret h
end
end Go.Xm
namespace Go.Xm
variable [az]
theorem nL {α : Type} {a b : α}(h:a=b:=by first|(simp only [List.length_cons,List.length_nil,List.length_append,List.length_set,Nat.reduceAdd,Nat.zero_add];exact rfl)|exact rfl|fail):a=b:=h
theorem nA {α : Type} {a b : α}(h:a=b:=by first|(simp only [bN,List.set_cons_succ,List.set_cons_zero,List.cons_append,List.nil_append];exact rfl)|exact rfl|fail):a=b:=h
theorem hS {α : Type} {a b : α}(h:a=b:=by first|(simp only [List.set_cons_succ,List.set_cons_zero];exact rfl)|exact rfl|fail):a=b:=h
theorem zG {G G':Prop}(k:G') (h:G'→G:=by intro k;refine qz (qg ?_);first|exact PA k|fail):G:=h k
theorem zA {G G':Prop}(k:G') (h:G'→G:=by intro k;refine qz ?_;first
 |(refine q4 ?_;first|(refine t0 ?_;first|exact Pj k|exact OW k|exact Pk k|fail)|(refine t1 ?_;first|exact O8 k|exact O9 k|exact O_ k|exact ld k|exact Nn k|exact pI k|exact fy k|exact rS k|fail)|(refine t2 ?_;first|exact PB k|exact PC k|exact PD k|exact st k|exact i9 k|fail)|(refine t3 ?_;first|exact O7 k|exact O6 k|exact O4 k|exact O5 k|fail)|exact fa k|fail)
 |(refine Pu ?_;first|exact ad k|exact sb k|exact ml k|exact qu k|exact re k|exact sr k|exact qt k|exact z5 (n:=1) k|exact z5 (n:=2) k|exact z5 (n:=3) k|exact z5 (n:=4) k|exact z5 (n:=5) k|exact z5 (n:=6) k|exact z5 (n:=7) k|exact z5 (n:=8) k|exact z5 k|exact an 1 k|exact an 2 k|exact an 3 k|exact an 4 k|exact an 5 k|exact an 6 k|exact an 8 k|exact an 7 k|exact Pq k|exact OV k|fail)
 |(refine Pv ?_;first|exact cT k|exact cF k|exact N6 k|exact N7 k|exact O2 k|exact Pn k|fail)
 |(refine Pw ?_;first|exact Ps k|exact Pr k|exact Po k|exact ng k|exact cv k|exact PH k|exact PI k|exact nl k|fail)
 |(refine Px ?_;first|(refine PE ?_;first|exact Pd k|exact Pa k|exact Pb k|exact Pc k|fail)|exact Pm k|exact NW k|exact Pf k|exact OQ k|exact OJ k|exact uL k|fail)
 |exact b0 k|exact OX k|exact bS k|exact bA k|exact bF k|exact N8 k|exact N9 k|exact p7 k|exact bx k|exact mm k|exact Pg k|fail):G:=h k
theorem OK {L:List aI}(h:ag L:=by first|exact ag.nil|exact ag.one _|(refine ag.lK ?_;(repeat' (first|exact True.intro|refine And.intro ?_ ?_|exact Compat.ne rfl));done)|fail):ag L:=h
theorem zz {G G':Prop}(k:G') (h:G'→G:=by intro k;first|exact zG k|exact zA k|exact br OK ⟨by kernel_rfl,k⟩|exact br OK k|exact wS k|exact wA k|exact wD k|exact wT k|exact wF k|exact wK k|exact wB k|exact wE k|exact wR k|fail):G:=h k
theorem zx {G:Prop} {A B:Prop} {G1:A→Prop} {G2:B→Prop}(k1:∀ a,G1 a) (k2:∀ b,G2 b) (h:(∀ a,G1 a)→(∀ b,G2 b)→G:=by intro k1 k2;first|exact cX k1 k2|fail):G:=h k1 k2
theorem bm {nI:Nat} {al al2:bn} {hs hs2:ak}(τl:List Nat) (nd:Nd τl hs2:=by exact(by first|exact Or.inl (by decide)|exact Or.inr ⟨_,(by repeat' (first|exact gK.nil|apply gK.dead|apply gK.cons)),(by decide)⟩)) (hid:(List.range nI).all (fun j=>nth τl j == j)=true:=by exact rfl) (obj:ae (nth τl) hs τl hs2:=by(repeat' (first|exact ae.nil|refine ae.flat rfl ?_|refine ae.cons rfl ?_|refine ae.dead rfl ?_|refine ae.a_ rfl rfl rfl rfl ?_|refine ae.cons (by simp only [aj.au,List.map_cons,List.map_nil,XC.au,aq];exact rfl) ?_));first|done|fail) (reg:af (nth τl) al al2:=by(repeat' (first|exact af.nil|refine af.flat rfl ?_|refine af.cons rfl ?_|refine af.sl rfl (by assumption) rfl ?_|refine af.du rfl rfl (by first|rfl|omega|(simp;done)|(simp;omega)) ?_|refine af.cons (by simp only [XV.au,List.map_cons,List.map_nil,aq];rfl) ?_));first|done|fail):GoTo nI al hs al2 hs2 τl:=⟨nd,hid,obj,reg⟩
theorem kS {nI:Nat} {al:bn} {hs:ak}(le:Nat.ble nI hs.length=true:=by exact rfl) (bnd:Nat.blt hs.length Mem.bound=true:=by exact rfl) (objs:bE hs.length hs:=by repeat' (first|exact bE.nil|refine bE.flat ?_|refine bE.cons (by first|(simp [aj.cc,XC.ok,bp];done)|simp [aj.cc,XC.ok,bp, *]) ?_)) (jj:m7 hs.length al:=by repeat' (first|exact m7.nil|refine m7.flat ?_|refine m7.cons (by first|exact trivial|exact gO (Nat.le_of_ble_eq_true rfl)|exact ed.ok ‹_› (Nat.le_of_ble_eq_true rfl)|(simp [XV.cc,XC.ok,X1.ok];done)|simp [XV.cc,XC.ok,X1.ok,bp]) ?_)):xZ nI al hs:=⟨le,bnd,objs,jj⟩
variable {P:Program} {fn:Func} {n:Nat} {e:XE} {al:bn} {hs hs':ak} {v1 v:XV}
theorem kV (τl:List Nat) (hv:v1=v.au (nth τl)) (he:e = .normal∨e = .ret:=by first|exact .inr rfl|exact .inl rfl|fail) (hr:si P fn al hs v1:=by first|exact fun m hm=>rfl|exact gL.one rfl (.cell rfl rfl (cf rfl) .nil)|exact gL.two rfl (.cell rfl rfl (cf rfl) (.tmp rfl .nil))|exact gL.zero rfl .nil|exact gL.two rfl (by repeat' (first|exact gL.nil|refine gL.tmp rfl ?_|refine gL.cell rfl rfl (cf (by first|rfl|assumption)) ?_))|fail) (hok:v.cc hs'.length:=by first|exact trivial|exact gO (Nat.le_of_ble_eq_true rfl)|exact Gx (bp (Nat.le_of_ble_eq_true rfl)) trivial|exact XV.gX rfl _|(simp [XV.cc,X1.ok,XC.ok];done)|(simp [XV.cc,X1.ok,XC.ok,bp];done)|fail) (nd:Nd τl hs':=by exact(by first|exact Or.inl (by decide)|exact Or.inr ⟨_,(by repeat' (first|exact gK.nil|apply gK.dead|apply gK.cons)),(by decide)⟩)) (hid:(List.range n).all (fun j=>nth τl j == j)=true:=by exact rfl) (ho:ae (nth τl) hs τl hs':=by repeat' (first|exact ae.nil|refine ae.flat rfl ?_|refine ae.cons rfl ?_|refine ae.dead rfl ?_|refine ae.cons (by simp only [aj.au,List.map_cons,List.map_nil,XC.au,aq];exact rfl) ?_)) (hk:bE hs'.length hs':=by repeat' (first|exact bE.nil|refine bE.flat ?_|refine bE.cons (by first|(simp [aj.cc,XC.ok,bp];done)|simp [aj.cc,XC.ok,bp, *]) ?_)):aH P fn n v hs' e al hs:=F4 τl he hr hv hok nd hid ho hk
theorem kM {junk:ak}(hv:v1=v) (hk:∀ o∈hs',o.cc hs'.length) (he:e = .normal∨e = .ret:=by first|exact .inr rfl|exact .inl rfl|fail) (hr:si P fn al hs v1:=by first|exact fun m hm=>rfl|exact gL.one rfl (.cell rfl rfl (cf rfl) .nil)|exact gL.two rfl (.cell rfl rfl (cf rfl) (.tmp rfl .nil))|fail) (hok:v.cc hs'.length:=by first|exact trivial|exact gO (Nat.le_of_ble_eq_true rfl)|(simp [XV.cc,X1.ok,XC.ok];done)|fail) (hh:hs=hs'++junk:=by exact rfl):aH P fn n v hs' e al hs:=b6 (junk:=junk) he hr hv hok hh hk
theorem cO {P:Program} {f:FuncId} {fn:Func} {c:Code} {args:List XV} {hs hs':ak} {v:XV}(hf:P.funcs[f]? = some fn) (h:WX P fn.ntmps hs.length (.code c) (mw args 0) hs (aH P fn hs.length v hs')) (hb:fn.body=some c:=by exact rfl) (hn:Nat.ble (fn.ntmps+1) 1000000=true:=by exact rfl) (hl:Nat.ble args.length fn.ntmps=true:=by exact rfl) (hle:Nat.ble hs.length hs'.length=true:=by exact rfl) (hbd:Nat.ble (hs'.length+1) Mem.bound=true:=by exact rfl):bt P f args hs v hs':=
 Db hf hb (Nat.le_of_ble_eq_true hn) (Nat.le_of_ble_eq_true hl) (Nat.le_of_ble_eq_true hle) (Nat.le_of_ble_eq_true hbd) h
end Go.Xm
namespace Go.Proofs.YtagpkhindehcbaaGreat
open Go.Xm
instance:bh Tryz.prog 3 (.int .i64):=⟨Tryz.underlying3⟩
instance:aU Tryz.prog 3 1:=⟨by kernel_rfl⟩
instance:dJ Tryz.prog 3:=⟨by kernel_rfl⟩
instance:bh Tryz.prog 4 (.bool):=⟨Tryz.underlying4⟩
instance:aU Tryz.prog 4 1:=⟨by kernel_rfl⟩
instance:dJ Tryz.prog 4:=⟨by kernel_rfl⟩
instance:bh Tryz.prog 5 (.int .u8):=⟨Tryz.underlying5⟩
instance:aU Tryz.prog 5 1:=⟨by kernel_rfl⟩
instance:TI Tryz.prog 5 1:=⟨by kernel_rfl⟩
instance:dJ Tryz.prog 5:=⟨by kernel_rfl⟩
instance:bC Tryz.prog 5 ([.int .u8 0]):=⟨by kernel_rfl⟩
instance:bh Tryz.prog 9 (.string):=⟨Tryz.underlying9⟩
instance:bh Tryz.prog 22 (.array 64 5):=⟨Tryz.underlying22⟩
instance:aU Tryz.prog 22 64:=⟨by kernel_rfl⟩
instance:dP Tryz.prog 24 [(0,1),(1,64),(65,64)]:=⟨_,Tryz.underlying24,by kernel_rfl⟩
instance:aU Tryz.prog 24 129:=⟨by kernel_rfl⟩
instance:eJ Tryz.prog 24:=⟨by kernel_rfl⟩
instance:bC Tryz.prog 24 ([.bool false]++(ti .u8 64 fun _=>0)++(ti .u8 64 fun _=>0)):=⟨by kernel_rfl⟩
instance:cE Tryz.prog 24 0 4 0:=⟨by kernel_rfl⟩
instance:cE Tryz.prog 24 1 22 1:=⟨by kernel_rfl⟩
instance:cE Tryz.prog 24 2 22 65:=⟨by kernel_rfl⟩
instance:dP Tryz.prog 26 [(0,1),(1,1),(2,129)]:=⟨_,Tryz.underlying26,by kernel_rfl⟩
instance:aU Tryz.prog 26 131:=⟨by kernel_rfl⟩
instance:eJ Tryz.prog 26:=⟨by kernel_rfl⟩
instance:bC Tryz.prog 26 ([.int .i64 0,.int .i64 0,.bool false]++(ti .u8 64 fun _=>0)++(ti .u8 64 fun _=>0)):=⟨by kernel_rfl⟩
instance:cE Tryz.prog 26 0 3 0:=⟨by kernel_rfl⟩
instance:cE Tryz.prog 26 1 3 1:=⟨by kernel_rfl⟩
instance:cE Tryz.prog 26 2 24 2:=⟨by kernel_rfl⟩
instance:dP Tryz.prog 28 [(0,1),(1,1),(2,1),(3,1)]:=⟨_,Tryz.underlying28,by kernel_rfl⟩
instance:aU Tryz.prog 28 4:=⟨by kernel_rfl⟩
instance:eJ Tryz.prog 28:=⟨by kernel_rfl⟩
instance:bC Tryz.prog 28 ([.int .i64 0,.bool false,.bool false,.int .i64 0]):=⟨by kernel_rfl⟩
instance:cE Tryz.prog 28 0 3 0:=⟨by kernel_rfl⟩
instance:cE Tryz.prog 28 1 4 1:=⟨by kernel_rfl⟩
instance:cE Tryz.prog 28 2 4 2:=⟨by kernel_rfl⟩
instance:cE Tryz.prog 28 3 3 3:=⟨by kernel_rfl⟩
instance:bh Tryz.prog 29 (.slice 81):=⟨Tryz.underlying29⟩
instance:aU Tryz.prog 29 1:=⟨by kernel_rfl⟩
instance:dJ Tryz.prog 29:=⟨by kernel_rfl⟩
instance:aU Tryz.prog 31 137:=⟨by kernel_rfl⟩
instance:eJ Tryz.prog 31:=⟨by kernel_rfl⟩
instance:cE Tryz.prog 31 0 26 0:=⟨by kernel_rfl⟩
instance:cE Tryz.prog 31 1 28 131:=⟨by kernel_rfl⟩
instance:cE Tryz.prog 31 2 5 135:=⟨by kernel_rfl⟩
instance:cE Tryz.prog 31 3 29 136:=⟨by kernel_rfl⟩
instance:bh Tryz.prog 33 (.slice 53):=⟨Tryz.underlying33⟩
instance:bh Tryz.prog 36 (.pointer 86):=⟨Tryz.underlying36⟩
instance:aU Tryz.prog 36 1:=⟨by kernel_rfl⟩
instance:dJ Tryz.prog 36:=⟨by kernel_rfl⟩
instance:bh Tryz.prog 38 (.slice 5):=⟨Tryz.underlying38⟩
instance:aU Tryz.prog 38 1:=⟨by kernel_rfl⟩
instance:dJ Tryz.prog 38:=⟨by kernel_rfl⟩
instance:bh Tryz.prog 42 (.slice 56):=⟨Tryz.underlying42⟩
instance:bh Tryz.prog 46 (.int .u8):=⟨Tryz.underlying46⟩
instance:aU Tryz.prog 46 1:=⟨by kernel_rfl⟩
instance:dJ Tryz.prog 46:=⟨by kernel_rfl⟩
instance:aU Tryz.prog 47 1:=⟨by kernel_rfl⟩
instance:TI Tryz.prog 47 1:=⟨by kernel_rfl⟩
instance:dJ Tryz.prog 47:=⟨by kernel_rfl⟩
instance:bC Tryz.prog 47 ([.cplx .f64 0 0]):=⟨by kernel_rfl⟩
instance:bh Tryz.prog 48 (.array 4 47):=⟨Tryz.underlying48⟩
instance:bC Tryz.prog 48 ([.cplx .f64 0 0,.cplx .f64 0 0,.cplx .f64 0 0,.cplx .f64 0 0]):=⟨by kernel_rfl⟩
instance:bh Tryz.prog 49 (.array 4 47):=⟨Tryz.underlying49⟩
instance:aU Tryz.prog 49 4:=⟨by kernel_rfl⟩
instance:eJ Tryz.prog 49:=⟨by kernel_rfl⟩
instance:bC Tryz.prog 49 ([.cplx .f64 0 0,.cplx .f64 0 0,.cplx .f64 0 0,.cplx .f64 0 0]):=⟨by kernel_rfl⟩
instance:bh Tryz.prog 50 (.array 64 3):=⟨Tryz.underlying50⟩
instance:aU Tryz.prog 50 64:=⟨by kernel_rfl⟩
instance:eJ Tryz.prog 50:=⟨by kernel_rfl⟩
instance:bC Tryz.prog 50 ((ti .i64 64 fun _=>0)):=⟨by kernel_rfl⟩
instance:bh Tryz.prog 51 (.array 6 50):=⟨Tryz.underlying51⟩
instance:aU Tryz.prog 51 384:=⟨by kernel_rfl⟩
instance:eJ Tryz.prog 51:=⟨by kernel_rfl⟩
instance:dP Tryz.prog 53 [(0,1),(1,1),(2,4),(6,1),(7,384)]:=⟨_,Tryz.underlying53,by kernel_rfl⟩
instance:aU Tryz.prog 53 391:=⟨by kernel_rfl⟩
instance:TI Tryz.prog 53 391:=⟨by kernel_rfl⟩
instance:eJ Tryz.prog 53:=⟨by kernel_rfl⟩
instance:bC Tryz.prog 53 ([.int .u8 0,.int .i64 0,.cplx .f64 0 0,.cplx .f64 0 0,.cplx .f64 0 0,.cplx .f64 0 0,.bool false]++(ti .i64 384 fun _=>0)):=⟨by kernel_rfl⟩
instance:cE Tryz.prog 53 0 46 0:=⟨by kernel_rfl⟩
instance:cE Tryz.prog 53 1 3 1:=⟨by kernel_rfl⟩
instance:cE Tryz.prog 53 2 49 2:=⟨by kernel_rfl⟩
instance:cE Tryz.prog 53 3 4 6:=⟨by kernel_rfl⟩
instance:cE Tryz.prog 53 4 51 7:=⟨by kernel_rfl⟩
instance:bh Tryz.prog 54 (.array 6 4):=⟨Tryz.underlying54⟩
instance:aU Tryz.prog 54 6:=⟨by kernel_rfl⟩
instance:eJ Tryz.prog 54:=⟨by kernel_rfl⟩
instance:dP Tryz.prog 56 [(0,391),(391,6)]:=⟨_,Tryz.underlying56,by kernel_rfl⟩
instance:aU Tryz.prog 56 397:=⟨by kernel_rfl⟩
instance:TI Tryz.prog 56 397:=⟨by kernel_rfl⟩
instance:eJ Tryz.prog 56:=⟨by kernel_rfl⟩
instance:bC Tryz.prog 56 ([.int .u8 0,.int .i64 0,.cplx .f64 0 0,.cplx .f64 0 0,.cplx .f64 0 0,.cplx .f64 0 0,.bool false]++(ti .i64 384 fun _=>0)++[.bool false,.bool false,.bool false,.bool false,.bool false,.bool false]):=⟨by kernel_rfl⟩
instance:cE Tryz.prog 56 0 53 0:=⟨by kernel_rfl⟩
instance:cE Tryz.prog 56 1 54 391:=⟨by kernel_rfl⟩
instance:bh Tryz.prog 60 (.slice 106):=⟨Tryz.underlying60⟩
instance:bh Tryz.prog 73 (.int .i8):=⟨Tryz.underlying73⟩
instance:aU Tryz.prog 73 1:=⟨by kernel_rfl⟩
instance:dJ Tryz.prog 73:=⟨by kernel_rfl⟩
instance:bh Tryz.prog 74 (.array 4 73):=⟨Tryz.underlying74⟩
instance:aU Tryz.prog 74 4:=⟨by kernel_rfl⟩
instance:aU Tryz.prog 76 9:=⟨by kernel_rfl⟩
instance:eJ Tryz.prog 76:=⟨by kernel_rfl⟩
instance:cE Tryz.prog 76 0 74 0:=⟨by kernel_rfl⟩
instance:cE Tryz.prog 76 1 74 4:=⟨by kernel_rfl⟩
instance:cE Tryz.prog 76 2 4 8:=⟨by kernel_rfl⟩
instance:bh Tryz.prog 77 (.int .u64):=⟨Tryz.underlying77⟩
instance:aU Tryz.prog 77 1:=⟨by kernel_rfl⟩
instance:dJ Tryz.prog 77:=⟨by kernel_rfl⟩
instance:bh Tryz.prog 78 (.array 6 77):=⟨Tryz.underlying78⟩
instance:aU Tryz.prog 78 6:=⟨by kernel_rfl⟩
instance:bh Tryz.prog 79 (.int .u32):=⟨Tryz.underlying79⟩
instance:aU Tryz.prog 79 1:=⟨by kernel_rfl⟩
instance:dJ Tryz.prog 79:=⟨by kernel_rfl⟩
instance:dP Tryz.prog 81 [(0,1),(1,1),(2,9),(11,1),(12,6),(18,1),(19,1)]:=⟨_,Tryz.underlying81,by kernel_rfl⟩
instance:aU Tryz.prog 81 20:=⟨by kernel_rfl⟩
instance:eJ Tryz.prog 81:=⟨by kernel_rfl⟩
instance:bC Tryz.prog 81 ([.int .u8 0,.int .u8 0,.int .i8 0,.int .i8 0,.int .i8 0,.int .i8 0,.int .i8 0,.int .i8 0,.int .i8 0,.int .i8 0,.bool false,.bool false,.int .u64 0,.int .u64 0,.int .u64 0,.int .u64 0,.int .u64 0,.int .u64 0,.int .u32 0,.bool false]):=⟨by kernel_rfl⟩
instance:cE Tryz.prog 81 0 5 0:=⟨by kernel_rfl⟩
instance:cE Tryz.prog 81 1 5 1:=⟨by kernel_rfl⟩
instance:cE Tryz.prog 81 2 76 2:=⟨by kernel_rfl⟩
instance:cE Tryz.prog 81 3 4 11:=⟨by kernel_rfl⟩
instance:cE Tryz.prog 81 4 78 12:=⟨by kernel_rfl⟩
instance:cE Tryz.prog 81 5 79 18:=⟨by kernel_rfl⟩
instance:cE Tryz.prog 81 6 4 19:=⟨by kernel_rfl⟩
instance:bh Tryz.prog 83 (.pointer 163):=⟨Tryz.underlying83⟩
instance:aU Tryz.prog 83 1:=⟨by kernel_rfl⟩
instance:dJ Tryz.prog 83:=⟨by kernel_rfl⟩
instance:cE Tryz.prog 86 0 83 0:=⟨by kernel_rfl⟩
instance:cE Tryz.prog 86 1 83 1:=⟨by kernel_rfl⟩
instance:cE Tryz.prog 86 2 83 2:=⟨by kernel_rfl⟩
instance:bh Tryz.prog 90 (.pointer 92):=⟨Tryz.underlying90⟩
instance:dP Tryz.prog 92 [(0,1),(1,1)]:=⟨_,Tryz.underlying92,by kernel_rfl⟩
instance:aU Tryz.prog 92 2:=⟨by kernel_rfl⟩
instance:bC Tryz.prog 92 ([.nils,.int .i64 0]):=⟨by kernel_rfl⟩
instance:cE Tryz.prog 92 0 38 0:=⟨by kernel_rfl⟩
instance:cE Tryz.prog 92 1 3 1:=⟨by kernel_rfl⟩
instance:bh Tryz.prog 94 (.pointer 167):=⟨Tryz.underlying94⟩
instance:aU Tryz.prog 94 1:=⟨by kernel_rfl⟩
instance:dJ Tryz.prog 94:=⟨by kernel_rfl⟩
instance:bh Tryz.prog 95 (.pointer 171):=⟨Tryz.underlying95⟩
instance:aU Tryz.prog 95 1:=⟨by kernel_rfl⟩
instance:dJ Tryz.prog 95:=⟨by kernel_rfl⟩
instance:dP Tryz.prog 97 [(0,1),(1,4),(5,1),(6,1),(7,1)]:=⟨_,Tryz.underlying97,by kernel_rfl⟩
instance:bC Tryz.prog 97 ([.nilp,.int .i64 0,.bool false,.bool false,.int .i64 0,.int .i64 0,.nilp,.nilp]):=⟨by kernel_rfl⟩
instance:cE Tryz.prog 97 0 36 0:=⟨by kernel_rfl⟩
instance:cE Tryz.prog 97 1 28 1:=⟨by kernel_rfl⟩
instance:cE Tryz.prog 97 2 3 5:=⟨by kernel_rfl⟩
instance:cE Tryz.prog 97 3 94 6:=⟨by kernel_rfl⟩
instance:cE Tryz.prog 97 4 95 7:=⟨by kernel_rfl⟩
instance:bh Tryz.prog 100 (.pointer 137):=⟨Tryz.underlying100⟩
instance:bh Tryz.prog 106 (.slice 144):=⟨Tryz.underlying106⟩
instance:aU Tryz.prog 106 1:=⟨by kernel_rfl⟩
instance:TI Tryz.prog 106 1:=⟨by kernel_rfl⟩
instance:dJ Tryz.prog 106:=⟨by kernel_rfl⟩
instance:bC Tryz.prog 106 ([.nils]):=⟨by kernel_rfl⟩
instance:bh Tryz.prog 113 (.array 4 3):=⟨Tryz.underlying113⟩
instance:aU Tryz.prog 113 4:=⟨by kernel_rfl⟩
instance:eJ Tryz.prog 113:=⟨by kernel_rfl⟩
instance:bC Tryz.prog 113 ([.int .i64 0,.int .i64 0,.int .i64 0,.int .i64 0]):=⟨by kernel_rfl⟩
instance:bh Tryz.prog 117 (.int .u64):=⟨Tryz.underlying117⟩
instance:bh Tryz.prog 120 (.slice 3):=⟨Tryz.underlying120⟩
instance:aU Tryz.prog 120 1:=⟨by kernel_rfl⟩
instance:dJ Tryz.prog 120:=⟨by kernel_rfl⟩
instance:dP Tryz.prog 137 [(0,1),(1,1),(2,1),(3,1)]:=⟨_,Tryz.underlying137,by kernel_rfl⟩
instance:bC Tryz.prog 137 ([.nils,.int .i64 0,.int .i64 0,.bool false]):=⟨by kernel_rfl⟩
instance:cE Tryz.prog 137 0 38 0:=⟨by kernel_rfl⟩
instance:cE Tryz.prog 137 1 3 1:=⟨by kernel_rfl⟩
instance:cE Tryz.prog 137 2 3 2:=⟨by kernel_rfl⟩
instance:cE Tryz.prog 137 3 4 3:=⟨by kernel_rfl⟩
instance:dP Tryz.prog 144 [(0,1),(1,1),(2,1)]:=⟨_,Tryz.underlying144,by kernel_rfl⟩
instance:aU Tryz.prog 144 3:=⟨by kernel_rfl⟩
instance:TI Tryz.prog 144 3:=⟨by kernel_rfl⟩
instance:eJ Tryz.prog 144:=⟨by kernel_rfl⟩
instance:bC Tryz.prog 144 ([.int .i64 0,.int .i64 0,.bool false]):=⟨by kernel_rfl⟩
instance:cE Tryz.prog 144 0 3 0:=⟨by kernel_rfl⟩
instance:cE Tryz.prog 144 1 3 1:=⟨by kernel_rfl⟩
instance:cE Tryz.prog 144 2 4 2:=⟨by kernel_rfl⟩
instance:dP Tryz.prog 156 [(0,64),(64,1)]:=⟨_,Tryz.underlying156,by kernel_rfl⟩
instance:aU Tryz.prog 156 65:=⟨by kernel_rfl⟩
instance:eJ Tryz.prog 156:=⟨by kernel_rfl⟩
instance:bC Tryz.prog 156 ((ti .i64 64 fun _=>0)++[.int .i64 0]):=⟨by kernel_rfl⟩
instance:cE Tryz.prog 156 0 50 0:=⟨by kernel_rfl⟩
instance:cE Tryz.prog 156 1 3 64:=⟨by kernel_rfl⟩
instance:bh Tryz.prog 160 (.slice 77):=⟨Tryz.underlying160⟩
instance:aU Tryz.prog 160 1:=⟨by kernel_rfl⟩
instance:dJ Tryz.prog 160:=⟨by kernel_rfl⟩
instance:bh Tryz.prog 161 (.slice 190):=⟨Tryz.underlying161⟩
instance:aU Tryz.prog 161 1:=⟨by kernel_rfl⟩
instance:dJ Tryz.prog 161:=⟨by kernel_rfl⟩
instance:cE Tryz.prog 163 0 120 0:=⟨by kernel_rfl⟩
instance:cE Tryz.prog 163 1 160 1:=⟨by kernel_rfl⟩
instance:cE Tryz.prog 163 2 161 2:=⟨by kernel_rfl⟩
instance:bh Tryz.prog 165 (.map 3 47):=⟨Tryz.underlying165⟩
instance:aU Tryz.prog 165 1:=⟨by kernel_rfl⟩
instance:dJ Tryz.prog 165:=⟨by kernel_rfl⟩
instance:dP Tryz.prog 167 [(0,1),(1,1),(2,1)]:=⟨_,Tryz.underlying167,by kernel_rfl⟩
instance:bC Tryz.prog 167 ([.int .i64 0,.int .i64 0,.nilm]):=⟨by kernel_rfl⟩
instance:cE Tryz.prog 167 0 3 0:=⟨by kernel_rfl⟩
instance:cE Tryz.prog 167 1 3 1:=⟨by kernel_rfl⟩
instance:cE Tryz.prog 167 2 165 2:=⟨by kernel_rfl⟩
instance:bh Tryz.prog 168 (.map 3 156):=⟨Tryz.underlying168⟩
instance:aU Tryz.prog 168 1:=⟨by kernel_rfl⟩
instance:dJ Tryz.prog 168:=⟨by kernel_rfl⟩
instance:bh Tryz.prog 169 (.array 3 168):=⟨Tryz.underlying169⟩
instance:aU Tryz.prog 169 3:=⟨by kernel_rfl⟩
instance:bC Tryz.prog 169 ([.nilm,.nilm,.nilm]):=⟨by kernel_rfl⟩
instance:dP Tryz.prog 171 [(0,1),(1,1),(2,3)]:=⟨_,Tryz.underlying171,by kernel_rfl⟩
instance:bC Tryz.prog 171 ([.int .i64 0,.int .i64 0,.nilm,.nilm,.nilm]):=⟨by kernel_rfl⟩
instance:cE Tryz.prog 171 0 3 0:=⟨by kernel_rfl⟩
instance:cE Tryz.prog 171 1 3 1:=⟨by kernel_rfl⟩
instance:cE Tryz.prog 171 2 169 2:=⟨by kernel_rfl⟩
instance:bh Tryz.prog 179 (.slice 47):=⟨Tryz.underlying179⟩
instance:bh Tryz.prog 180 (.array 2 3):=⟨Tryz.underlying180⟩
instance:aU Tryz.prog 180 2:=⟨by kernel_rfl⟩
instance:eJ Tryz.prog 180:=⟨by kernel_rfl⟩
instance:bC Tryz.prog 180 ([.int .i64 0,.int .i64 0]):=⟨by kernel_rfl⟩
instance:bh Tryz.prog 181 (.array 3 180):=⟨Tryz.underlying181⟩
instance:bC Tryz.prog 181 ([.int .i64 0,.int .i64 0,.int .i64 0,.int .i64 0,.int .i64 0,.int .i64 0]):=⟨by kernel_rfl⟩
instance:bh Tryz.prog 185 (.array 6 106):=⟨Tryz.underlying185⟩
instance:aU Tryz.prog 185 6:=⟨by kernel_rfl⟩
instance:eJ Tryz.prog 185:=⟨by kernel_rfl⟩
instance:bC Tryz.prog 185 ([.nils,.nils,.nils,.nils,.nils,.nils]):=⟨by kernel_rfl⟩
instance:aU Tryz.prog 190 2:=⟨by kernel_rfl⟩
instance:cE Tryz.prog 190 0 180 0:=⟨by kernel_rfl⟩
instance:bh Tryz.prog 202 (.float .f64):=⟨Tryz.underlying202⟩
end Go.Proofs.YtagpkhindehcbaaGreat
namespace Go.Proofs.YtagpkhindehcbaaGreat
open Go.Xm
variable [az]
def bd (x:Int):Int:=if 0<x then 2*x-1 else -2*x
def dX (n:Int):Int:=if n%2=1 then(n+1)/2 else -(n/2)
theorem r7 (x:Int):dX (bd x)=x:=by
 unfold dX bd
 split <;> split <;> omega
theorem A3 (x:Int) (hx : -1000000≤x∧x≤1000000):bt Tryz.prog 83 [.one (.int .i64 x)] [] (.one (.int .i64 (bd x))) []:=by
 refine cO Tryz.func83 ?_
 by_cases h:0<x
 · repeat' (first|refine zz ?_|refine zx (fun _=>?_) (fun _=>?_)|fail)
   show aH _ _ _ _ _ _ _ _;refine kV [] ?_
   rw [bd,if_pos h];rfl
 · repeat' (first|refine zz ?_|refine zx (fun _=>?_) (fun _=>?_)|fail)
   show aH _ _ _ _ _ _ _ _;refine kV [] ?_
   rw [bd,if_neg h];rfl
theorem rp {x:Int}(hx : -1000000≤x∧x≤1000000) {HS:ak}(hb:Nat.blt HS.length Mem.bound=true):aI.Sound Tryz.prog ⟨83,[.one (.int .i64 x)],HS,.one (.int .i64 (bd x)),HS,[]⟩:=
 aB (A3 x hx) rfl rfl hb
theorem xp (n:Int) (hn:0≤n∧n≤1000000):bt Tryz.prog 94 [.one (.int .i64 n)] [] (.one (.int .i64 (dX n))) []:=by
 refine cO Tryz.func94 ?_
 by_cases h:n%2=1
 · have h':n%2^1=1:=h
   repeat' (first|refine zz ?_|refine zx (fun _=>?_) (fun _=>?_)|fail)
   show aH _ _ _ _ _ _ _ _;refine kV [] ?_
   rw [dX,if_pos h];rfl
 · have h':n%2^1=0:=by show n%2=0;omega
   have ht:(0-n).tdiv 2 = -(n/2):=by
    rw [show(0-n) = -n by omega,Int.neg_tdiv,Int.tdiv_eq_ediv_of_nonneg hn.1]
   repeat' (first|refine zz ?_|refine zx (fun _=>?_) (fun _=>?_)|fail)
   show aH _ _ _ _ _ _ _ _;refine kV [] ?_
   rw [dX,if_neg h,←ht];rfl
theorem r8 {n:Int}(hn:0≤n∧n≤1000000) {HS:ak}(hb:Nat.blt HS.length Mem.bound=true):aI.Sound Tryz.prog ⟨94,[.one (.int .i64 n)],HS,.one (.int .i64 (dX n)),HS,[]⟩:=
 aB (xp n hn) rfl rfl hb
end Go.Proofs.YtagpkhindehcbaaGreat
namespace Go.Xm
variable [az]
variable {P:Program} {ops:Array Oper} {nt nI:Nat} {al:bn} {hs:ak} {o:Oper} {l:List Oper} {L:List aI} {K:List Ab→bn→ak→Prop} {d:Nat}
def fO (n:Int):Nat:=FloatKind.nearest .f64 n
def cn (p:Int × Int):XC := .cplx .f64 (fO p.1) (fO p.2)
def fA (n:Int):Prop := -32≤n∧n≤32
def Lm:List (Int × Nat):=(List.range 65).map fun(i:Nat)=>((i:Int)-32,fO ((i:Int)-32))
def Ob (l:List (Int × Nat)):Bool:=l.all fun p=>l.all fun q=>FloatKind.f64.format.order p.2 q.2 == some (compare p.1 q.1)
set_option maxRecDepth 100000 in
theorem I8:Ob Lm=true:=by decide +kernel
theorem zq {n:Int}(h:fA n):(n,fO n)∈Lm:=by
 unfold Lm
 refine List.mem_map.2 ⟨(n+32).toNat,List.mem_range.2 (by have:=h.1;have:=h.2;omega),?_⟩
 have e:(((n+32).toNat:Nat):Int)-32=n:=by have:=h.1;omega
 rw [e]
theorem FJ {x y:Int}(hx:fA x) (hy:fA y):FloatKind.f64.format.order (fO x) (fO y)=some (compare x y):=by
 have h:=I8
 have h1:=List.all_eq_true.1 h _ (zq hx)
 have h2:=List.all_eq_true.1 h1 _ (zq hy)
 simpa using h2
theorem rO {x y:Int}(hx:fA x) (hy:fA y):(FloatKind.f64.format.order (fO x) (fO y) == some .eq)=decide (x=y):=by
 rw [FJ hx hy]
 by_cases h:x=y
 · subst h
   have:compare x x = .eq:=by simp
   rw [this];simp
 · have:compare x y ≠ .eq:=by simpa [Int.compare_eq_eq]using h
   simp only [h,decide_false]
   cases hc:compare x y <;> first|(exact absurd hc this)|rfl
theorem I6:fO 0=0:=by decide +kernel
theorem dM:cn (0,0) = .cplx .f64 0 0:=by unfold cn;rw [I6]
theorem Pz {a:Operand} {ts:Array TypeId} {k:FloatKind} {p q:Nat}(hk:SK P ops nt L l ((d,.one (.flt k p))::al) hs fun bs=>K (quiet::bs)) (ho:o.op = .call ⟨.builtin .real,#[a],ts⟩:=by exact rfl) (hw:aw ops (rg al) o=some true:=by exact rfl) (hd:o.dst=some d:=by exact rfl) (hlt:Nat.blt d nt=true:=by exact rfl)
 (ha:ai (rg al) a = .one (.cplx k p q):=by exact rfl):SK P ops nt L (o::l) al hs K:=lp hw hd hlt (by rw [ho];simp [bj,fc,ha]) hk
theorem O3 {a:Operand} {ts:Array TypeId} {k:FloatKind} {p q:Nat}(hk:SK P ops nt L l ((d,.one (.flt k q))::al) hs fun bs=>K (quiet::bs)) (ho:o.op = .call ⟨.builtin .imag,#[a],ts⟩:=by exact rfl) (hw:aw ops (rg al) o=some true:=by exact rfl) (hd:o.dst=some d:=by exact rfl) (hlt:Nat.blt d nt=true:=by exact rfl)
 (ha:ai (rg al) a = .one (.cplx k p q):=by exact rfl):SK P ops nt L (o::l) al hs K:=lp hw hd hlt (by rw [ho];simp [bj,fc,ha]) hk
theorem O1 {a b:Operand} {ts:Array TypeId} {k:FloatKind} {p q:Nat}(hk:SK P ops nt L l ((d,.one (.cplx k p q))::al) hs fun bs=>K (quiet::bs)) (ho:o.op = .call ⟨.builtin .complex,#[a,b],ts⟩:=by exact rfl) (hw:aw ops (rg al) o=some true:=by exact rfl) (hd:o.dst=some d:=by exact rfl) (hlt:Nat.blt d nt=true:=by exact rfl)
 (ha:ai (rg al) a = .one (.flt k p):=by exact rfl) (hb:ai (rg al) b = .one (.flt k q):=by exact rfl):SK P ops nt L (o::l) al hs K:=lp hw hd hlt (by rw [ho];simp [bj,fc,ha,hb]) hk
theorem O0 {s t:TypeId} {y:Operand} {u:TypeDesc} {k:IntKind} {x:Int}(hk:SK P ops nt L l ((d,.one (.flt .f64 (fO x)))::al) hs fun bs=>K (quiet::bs)) (ho:o.op = .convert s t y:=by exact rfl) (hw:aw ops (rg al) o=some true:=by exact rfl) (hd:o.dst=some d:=by exact rfl) (hlt:Nat.blt d nt=true:=by exact rfl)
 (hy:ai (rg al) y = .one (.int k x):=by exact rfl) (h1:bh P s u:=by infer_instance) (h2:bh P t (.float .f64):=by infer_instance):SK P ops nt L (o::l) al hs K:=lp hw hd hlt (by rw [ho];simp only [bj,kH,hy,h1.out,h2.out];rfl) hk
theorem Oa {t t':TypeId} {a b:Operand} {x y:Int × Int}(h1:x=y→SK P ops nt L l ((d,.one (.bool true))::al) hs fun bs=>K (quiet::bs)) (h2:x≠y→SK P ops nt L l ((d,.one (.bool false))::al) hs fun bs=>K (quiet::bs)) (hx:fA x.1∧fA x.2) (hy:fA y.1∧fA y.2) (ho:o.op = .binOp .eql t a b t':=by exact rfl) (hw:aw ops (rg al) o=some true:=by exact rfl) (hd:o.dst=some d:=by exact rfl) (hlt:Nat.blt d nt=true:=by exact rfl)
 (ha:ai (rg al) a = .one (cn x):=by exact rfl) (hb:ai (rg al) b = .one (cn y):=by exact rfl):SK P ops nt L (o::l) al hs K:=by
 obtain⟨x1,x2⟩:=x
 obtain⟨y1,y2⟩:=y
 have key:bj P (ai (rg al)) o.op=some (.one (.bool (decide (x1=y1) && decide (x2=y2)))):=by
  rw [ho]
  simp only [bj,ha,hb,cn,rz,zE,if_true,rO hx.1 hy.1,rO hx.2 hy.2,Option.map_some]
 refine lp hw hd hlt key ?_
 by_cases h:x1=y1∧x2=y2
 · simp only [h.1,h.2,decide_true,Bool.and_self]
   exact h1 (by rw [h.1,h.2])
 · have:(decide (x1=y1) && decide (x2=y2))=false:=by
    simp only [Bool.and_eq_false_iff,decide_eq_false_iff_not]
    rcases Classical.em (x1=y1)with h3|h3
    · exact .inr fun h4=>h ⟨h3,h4⟩
    · exact .inl h3
   rw [this]
   exact h2 fun e=>h (by cases e;exact⟨rfl,rfl⟩)
theorem ER {t t':TypeId} {a b:Operand} {x y:Int × Int}(h1:x≠y→SK P ops nt L l ((d,.one (.bool true))::al) hs fun bs=>K (quiet::bs)) (h2:x=y→SK P ops nt L l ((d,.one (.bool false))::al) hs fun bs=>K (quiet::bs)) (hx:fA x.1∧fA x.2) (hy:fA y.1∧fA y.2) {cb:XC}(hcb:cb=cn y) (ho:o.op = .binOp .neq t a b t':=by exact rfl) (hw:aw ops (rg al) o=some true:=by exact rfl) (hd:o.dst=some d:=by exact rfl) (hlt:Nat.blt d nt=true:=by exact rfl)
 (ha:ai (rg al) a = .one (cn x):=by exact rfl) (hb:ai (rg al) b = .one cb:=by exact rfl):SK P ops nt L (o::l) al hs K:=by
 obtain⟨x1,x2⟩:=x
 obtain⟨y1,y2⟩:=y
 subst hcb
 have key:bj P (ai (rg al)) o.op=some (.one (.bool (!(decide (x1=y1) && decide (x2=y2))))):=by
  rw [ho]
  simp only [bj,ha,hb,cn,rz,zE,if_true,rO hx.1 hy.1,rO hx.2 hy.2,Option.map_some]
 refine lp hw hd hlt key ?_
 by_cases h:x1=y1∧x2=y2
 · simp only [h.1,h.2,decide_true,Bool.and_self,Bool.not_true]
   exact h2 (by rw [h.1,h.2])
 · have:(decide (x1=y1) && decide (x2=y2))=false:=by
    simp only [Bool.and_eq_false_iff,decide_eq_false_iff_not]
    rcases Classical.em (x1=y1)with h3|h3
    · exact .inr fun h4=>h ⟨h3,h4⟩
    · exact .inl h3
   rw [this,Bool.not_false]
   exact h1 fun e=>h (by cases e;exact⟨rfl,rfl⟩)
end Go.Xm
namespace Go.Proofs.YtagpkhindehcbaaGreat
open Go.Xm
theorem mixed:Tryz.prog.follows .mixedOrders=true:=by kernel_rfl
def n5 (i:Nat):uI:=⟨105,[.one (.flt .f64 (fO ((i:Int)-32)))],.one (.int .i64 ((i:Int)-32))⟩
noncomputable def Fp:Bool:=(List.range 65).all fun i=>decide (((ot tH Tryz.prog 1000 10).call (n5 i).f (n5 i).args Mem.empty).map (·.1)=some (n5 i).v)
theorem yg:Fp=true:=by kernel_rfl
variable [az]
theorem ED (n:Int) (h:fA n):bt Tryz.prog 105 [.one (.flt .f64 (fO n))] [] (.one (.int .i64 n)) []:=by
 have e:(((n+32).toNat:Nat):Int)-32=n:=by have:=h.1;omega
 have h1:=List.all_eq_true.1 yg (n+32).toNat (List.mem_range.2 (by have:=h.1;have:=h.2;omega))
 have h2:=of_decide_eq_true h1
 have:=kd (kn (r:=n5 (n+32).toNat) (Nt (iC _) mixed h2 rfl))
 unfold n5 at this
 rw [e]at this
 exact this
theorem zw {n:Int}(h:fA n) {HS:ak}(hb:Nat.blt HS.length Mem.bound=true):aI.Sound Tryz.prog ⟨105,[.one (.flt .f64 (fO n))],HS,.one (.int .i64 n),HS,[]⟩:=
 aB (ED n h) rfl rfl hb
theorem p_ {a b:Int}(ha:fA a) (hb:fA b) {HS:ak}:Compat ⟨105,[.one (.flt .f64 (fO a))],HS,.one (.int .i64 a),HS,[]⟩ ⟨105,[.one (.flt .f64 (fO b))],HS,.one (.int .i64 b),HS,[]⟩:=fun _ h _=>by
 simp only [List.cons.injEq,XV.one.injEq,XC.flt.injEq,true_and,and_true]at h
 have h1:=rO ha ha
 have h2:=rO ha hb
 rw [←h,h1]at h2
 have:a=b:=by simpa using h2
 subst this
 exact⟨rfl,rfl,rfl⟩
theorem DI (p:Int × Int) (h:fA p.1∧fA p.2):bt Tryz.prog 81 [.one (cn p)] [] (.tup [.one (.int .i64 p.1),.one (.int .i64 p.2)]) []:=by
 refine cO Tryz.func81 ?_
 repeat' (first
  |(refine qz ?_;first
   |refine Pz ?_
   |refine O3 ?_
   |refine cl ?_ (hi:=by exact zw h.1 rfl)
   |refine cl ?_ (hi:=by exact zw h.2 rfl))
  |refine zz ?_|refine zx (fun _=>?_) (fun _=>?_)|refine br (by first|exact ag.nil|exact ag.one _|exact ag.lK (by repeat' (first|exact True.intro|refine And.intro ?_ ?_|exact Compat.ne rfl|exact p_ h.2 h.1))) ⟨by kernel_rfl,?_⟩|refine br (by first|exact ag.nil|exact ag.one _|exact ag.lK (by repeat' (first|exact True.intro|refine And.intro ?_ ?_|exact Compat.ne rfl|exact p_ h.2 h.1))) ?_|fail)
 show aH _ _ _ _ _ _ _ _;refine kV [] ?_
 rfl
theorem iT {p:Int × Int}(h:fA p.1∧fA p.2) {HS:ak}(hb:Nat.blt HS.length Mem.bound=true):aI.Sound Tryz.prog ⟨81,[.one (cn p)],HS,.tup [.one (.int .i64 p.1),.one (.int .i64 p.2)],HS,[]⟩:=
 aB (DI p h) rfl rfl hb
theorem LC (x y:Int):bt Tryz.prog 95 [.one (.int .i64 x),.one (.int .i64 y)] [] (.one (cn (x,y))) []:=by
 refine cO Tryz.func95 ?_
 repeat' (first
  |(refine qz ?_;first
   |refine O0 ?_
   |refine O1 ?_)
  |refine zz ?_|refine zx (fun _=>?_) (fun _=>?_)|fail)
 show aH _ _ _ _ _ _ _ _;refine kV [] ?_
 rfl
theorem vz {x y:Int} {HS:ak}(hb:Nat.blt HS.length Mem.bound=true):aI.Sound Tryz.prog ⟨95,[.one (.int .i64 x),.one (.int .i64 y)],HS,.one (cn (x,y)),HS,[]⟩:=
 aB (LC x y) rfl rfl hb
def cq (n:Int):Int:=(n+32)%64-32
theorem gp (n:Int) : -32≤cq n∧cq n≤31:=by unfold cq;omega
theorem Ic (n:Int) (h : -1000000≤n∧n≤1000000):bt Tryz.prog 84 [.one (.int .i64 n)] [] (.one (.int .i64 (cq n))) []:=by
 refine cO Tryz.func84 ?_
 have h1:=Int.emod_nonneg (n+32) (show(2:Int)^6≠0 by decide)
 have h2:(n+32)%(2:Int)^6<64:=Int.emod_lt_of_pos (n+32) (show(0:Int)<2^6 by decide)
 have h3:=Int.emod_nonneg ((n+32)%2^6+64) (show(2:Int)^6≠0 by decide)
 have h4:((n+32)%2^6+64)%(2:Int)^6<64:=Int.emod_lt_of_pos _ (show(0:Int)<2^6 by decide)
 repeat' (first
  |(refine qz ?_;first
   |refine an (n:=6) ?_)
  |refine zz ?_|refine zx (fun _=>?_) (fun _=>?_)|fail)
 show aH _ _ _ _ _ _ _ _;refine kV [] ?_
 have:((n+32)%2^6+64)%(2:Int)^6-32=cq n:=by
  unfold cq
  show((n+32)%64+64)%64-32=_
  omega
 rw [←this];rfl
theorem CO {n:Int}(h : -1000000≤n∧n≤1000000) {HS:ak}(hb:Nat.blt HS.length Mem.bound=true):aI.Sound Tryz.prog ⟨84,[.one (.int .i64 n)],HS,.one (.int .i64 (cq n)),HS,[]⟩:=
 aB (Ic n h) rfl rfl hb
def d7 (p:Int × Int):Bool:=decide (-31≤p.1∧p.1≤31 ∧ -31≤p.2∧p.2≤31)
theorem DR (p:Int × Int) (h:fA p.1∧fA p.2):bt Tryz.prog 79 [.one (cn p)] [] (.one (.bool (d7 p))) []:=by
 have hx1:=h.1.1
 have hx2:=h.1.2
 have hy1:=h.2.1
 have hy2:=h.2.2
 refine cO Tryz.func79 ?_
 by_cases ha : -31≤p.1∧p.1≤31
 · by_cases hb : -31≤p.2∧p.2≤31
   · have e:d7 p=true:=decide_eq_true ⟨ha.1,ha.2,hb⟩
     rw [e]
     repeat' (first
      |(refine qz ?_;first
       |refine cl ?_ (hi:=by exact iT h rfl)
       |refine cl ?_ (hi:=by exact vz rfl)
       |refine Oa (x:=(p.1,p.2)) (y:=p) (fun _=>?_) (fun hn=>absurd rfl hn) h h)
      |refine zz ?_|refine zx (fun _=>?_) (fun _=>?_)|fail)
     show aH _ _ _ _ _ _ _ _;refine kV [] ?_
     rfl
   · have e:d7 p=false:=decide_eq_false fun hh=>hb hh.2.2
     rw [e]
     repeat' (first
      |(refine qz ?_;first
       |refine cl ?_ (hi:=by exact iT h rfl)
       |refine cl ?_ (hi:=by exact vz rfl)
       |refine Oa (x:=(p.1,p.2)) (y:=p) (fun _=>?_) (fun hn=>absurd rfl hn) h h)
      |refine zz ?_|refine zx (fun _=>?_) (fun _=>?_)|fail)
     show aH _ _ _ _ _ _ _ _;refine kV [] ?_
     rfl
 · have e:d7 p=false:=decide_eq_false fun hh=>ha ⟨hh.1,hh.2.1⟩
   rw [e]
   repeat' (first
    |(refine qz ?_;first
     |refine cl ?_ (hi:=by exact iT h rfl)
     |refine cl ?_ (hi:=by exact vz rfl)
     |refine Oa (x:=(p.1,p.2)) (y:=p) (fun _=>?_) (fun hn=>absurd rfl hn) h h)
    |refine zz ?_|refine zx (fun _=>?_) (fun _=>?_)|fail)
   show aH _ _ _ _ _ _ _ _;refine kV [] ?_
   rfl
theorem eA {p:Int × Int}(h:fA p.1∧fA p.2) {HS:ak}(hb:Nat.blt HS.length Mem.bound=true):aI.Sound Tryz.prog ⟨79,[.one (cn p)],HS,.one (.bool (d7 p)),HS,[]⟩:=
 aB (DR p h) rfl rfl hb
def yQ (a b c:Int):Int:=max (min a b) (min (max a b) c)
theorem Js (a b c:Int):bt Tryz.prog 107 [.one (.int .i64 a),.one (.int .i64 b),.one (.int .i64 c)] [] (.one (.int .i64 (yQ a b c))) []:=by
 refine cO Tryz.func107 ?_
 repeat' (first
  |(refine qz ?_;first
   |refine NW ?_
   |refine OQ ?_)
  |refine zz ?_|refine zx (fun _=>?_) (fun _=>?_)|fail)
 show aH _ _ _ _ _ _ _ _;refine kV [] ?_
 rfl
theorem Ly {a b c:Int} {HS:ak}(hb:Nat.blt HS.length Mem.bound=true):aI.Sound Tryz.prog ⟨107,[.one (.int .i64 a),.one (.int .i64 b),.one (.int .i64 c)],HS,.one (.int .i64 (yQ a b c)),HS,[]⟩:=
 aB (Js a b c) rfl rfl hb
theorem s4 {a b c a' b' c':Int} {HS:ak}:Compat ⟨107,[.one (.int .i64 a),.one (.int .i64 b),.one (.int .i64 c)],HS,.one (.int .i64 (yQ a b c)),HS,[]⟩ ⟨107,[.one (.int .i64 a'),.one (.int .i64 b'),.one (.int .i64 c')],HS,.one (.int .i64 (yQ a' b' c')),HS,[]⟩:=fun _ h _=>by
 simp only [List.cons.injEq,XV.one.injEq,XC.int.injEq,true_and,and_true]at h
 obtain⟨rfl,rfl,rfl⟩:=h
 exact⟨rfl,rfl,rfl⟩
def Lx (a b c:Int × Int):Int × Int:=(yQ a.1 b.1 c.1,yQ a.2 b.2 c.2)
def bu (p:Int × Int):Prop:=fA p.1∧fA p.2
theorem vu {a b c:Int}(ha:fA a) (hb:fA b) (hc:fA c):fA (yQ a b c):=by
 unfold yQ fA at *
 omega
theorem AP (a b c:Int × Int) (ha:bu a) (hb:bu b) (hc:bu c):bt Tryz.prog 87 [.one (cn a),.one (cn b),.one (cn c)] [] (.one (cn (Lx a b c))) []:=by
 refine cO Tryz.func87 ?_
 repeat' (first
  |(refine qz ?_;first
   |refine cl ?_ (hi:=by exact iT ha rfl)
   |refine cl ?_ (hi:=by exact iT hb rfl)
   |refine cl ?_ (hi:=by exact iT hc rfl)
   |refine cl ?_ (hi:=by exact Ly rfl)
   |refine cl ?_ (hi:=by exact vz rfl))
  |refine zz ?_|refine zx (fun _=>?_) (fun _=>?_)|refine br (by first|exact ag.nil|exact ag.one _|exact ag.lK (by repeat' (first|exact True.intro|refine And.intro ?_ ?_|exact Compat.ne rfl|exact s4))) ⟨by kernel_rfl,?_⟩|refine br (by first|exact ag.nil|exact ag.one _|exact ag.lK (by repeat' (first|exact True.intro|refine And.intro ?_ ?_|exact Compat.ne rfl|exact s4))) ?_|fail)
 show aH _ _ _ _ _ _ _ _;refine kV [] ?_
 rfl
theorem iB {a b c:Int × Int}(ha:bu a) (hb:bu b) (hc:bu c) {HS:ak}(hbd:Nat.blt HS.length Mem.bound=true):aI.Sound Tryz.prog ⟨87,[.one (cn a),.one (cn b),.one (cn c)],HS,.one (cn (Lx a b c)),HS,[]⟩:=
 aB (AP a b c ha hb hc) rfl rfl hbd
def vt (v:Nat→Int × Int):List XC:=[cn (v 0),cn (v 1),cn (v 2),cn (v 3)]
theorem zk (x y:Int) (hx : -128≤x∧x<128) (hy : -128≤y∧y<128):bt Tryz.prog 77 [.one (.int .i8 x),.one (.int .i8 y)] [] (.one (cn (x.tmod 32,y.tmod 32))) []:=by
 have ex:bO .rem .i64 .i64 x 32=some (.int .i64 (x.tmod 32)):=BS (by decide) rfl
 have ey:bO .rem .i64 .i64 y 32=some (.int .i64 (y.tmod 32)):=BS (by decide) rfl
 refine cO Tryz.func77 ?_
 repeat' (first
  |(refine qz ?_;first
   |refine ir rfl rfl rfl rfl rfl rfl ex ?_
   |refine ir rfl rfl rfl rfl rfl rfl ey ?_
   |refine cl ?_ (hi:=by exact vz rfl))
  |refine zz ?_|refine zx (fun _=>?_) (fun _=>?_)|fail)
 show aH _ _ _ _ _ _ _ _;refine kV [] ?_
 rfl
theorem A8 {x y:Int}(hx : -128≤x∧x<128) (hy : -128≤y∧y<128) {HS:ak}(hb:Nat.blt HS.length Mem.bound=true):aI.Sound Tryz.prog ⟨77,[.one (.int .i8 x),.one (.int .i8 y)],HS,.one (cn (x.tmod 32,y.tmod 32)),HS,[]⟩:=
 aB (zk x y hx hy) rfl rfl hb
theorem IH (p:Int × Int):bt Tryz.prog 44 [.one (cn p)] [] (.agg (vt fun _=>p)) []:=by
 refine cO Tryz.func44 ?_
 repeat' (first|refine zz ?_|refine zx (fun _=>?_) (fun _=>?_)|fail)
 show aH _ _ _ _ _ _ _ _;refine kV [] ?_
 rfl
theorem K5 {p:Int × Int} {HS:ak}(hb:Nat.blt HS.length Mem.bound=true):aI.Sound Tryz.prog ⟨44,[.one (cn p)],HS,.agg (vt fun _=>p),HS,[]⟩:=
 aB (IH p) rfl rfl hb
end Go.Proofs.YtagpkhindehcbaaGreat
