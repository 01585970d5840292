/-
  A part of the proof: XvInst, XvRule, XvMore, XvArg, XvFlow, XvOps.
-/
import Derived.Test.YtagpkhindehcbaaGreatKcD
set_option maxRecDepth 10000
set_option maxHeartbeats 8000000
set_option linter.unusedVariables false
set_option linter.unusedSectionVars false
set_option linter.unusedSimpArgs false
namespace Go.Xm
variable [az]
theorem XC.dZ {c:XC}(h:c.shut=true) (τ : Nat→Nat):c.au τ = c:=by
 induction c with
 | bind g c ih1 ih2=>
   simp only [XC.shut,Bool.and_eq_true]at h
   simp only [XC.au,ih1 h.1,ih2 h.2]
 | ptr i off=>cases h
 | slice i off len cap=>cases h
 | map i=>cases h
 | _=>rfl
theorem eV {cs:List XC}(h:cs.all XC.shut=true) (τ : Nat→Nat):cs.map (·.au τ)=cs:=by
 rw [List.all_eq_true]at h
 exact(List.map_congr_left fun c hc=>XC.dZ (h c hc) τ).trans (by simp)
theorem X1.dZ {x:X1}(h:x.shut=true) (τ : Nat→Nat):x.au τ = x:=by
 cases x with
 | one c=>simp only [X1.au,XC.dZ h]
 | agg cs=>simp only [X1.au,eV h]
theorem XV.dZ {x:XV}(h:x.shut=true) (τ : Nat→Nat):x.au τ = x:=by
 cases x with
 | undef=>rfl
 | one c=>simp only [XV.au,XC.dZ h]
 | agg cs=>simp only [XV.au,eV h]
 | tup xs=>
   have h':=List.all_eq_true.1 h
   simp only [XV.au]
   rw [(List.map_congr_left fun c hc=>X1.dZ (h' c hc) τ : xs.map (·.au τ)=xs.map id),List.map_id]
theorem lB {l:List XV}(h:∀ x∈l,x.shut=true) (τ : Nat→Nat):l.map (·.au τ)=l:=
 (List.map_congr_left fun c hc=>XV.dZ (h c hc) τ).trans (by simp)
theorem XV.gX {x:XV}(h:x.shut=true) (n:Nat):x.cc n:=by
 cases x with
 | undef=>trivial
 | one c=>exact XC.bV h n
 | agg cs=>exact fun c hc=>XC.bV (List.all_eq_true.1 h c hc) n
 | tup xs=>exact fun c hc=>X1.bV (List.all_eq_true.1 h c hc) n
structure aI where
 f:FuncId
 args:List XV
 hs:ak
 v:XV
 hs':ak
 ws:List Nat
def mM (n m:Nat):List Nat:=List.range' n (m-n)
structure aI.Sound (P:Program) (e:aI):Prop where
 le:e.hs.length≤e.hs'.length
 bnd:e.hs'.length<Mem.bound
 same:∀ i,i<e.hs.length→i∉e.ws→e.hs'[i]? = e.hs[i]?
 call:∀ M M',bG M e.hs→bG M' e.hs'→dW P e.f e.args M e.v M'
def mU (m:Mem) (hs':ak):List Nat→Mem
 | []=>m
 | i::l=>mU (m.put i (hs'.getD i .dead)) hs' l
def jq (m:Mem):List aj→Mem
 | []=>m
 | o::l=>jq ((m.push o).getD m) l
def aI.mem (e:aI) (m:Mem):Mem:=jq (mU m e.hs' (e.ws.filter fun i=>decide (i<e.hs.length))) (e.hs'.drop e.hs.length)
theorem rY (hs':ak):∀(l:List Nat) (m:Mem),pZ m (mU m hs' l)
 | [],m => .same m
 | i::l,m => .trans (.put m i _) (rY hs' l _)
theorem nZ:∀(l:List aj) (m:Mem),pZ m (jq m l)
 | [],m => .same m
 | o::l,m=>by
   unfold jq
   cases h:m.push o with
   | none=>exact nZ l m
   | some m'=>exact .trans (.push h) (nZ l m')
theorem pa (hs':ak):∀(l:List Nat) (m:Mem) (hs:ak),bG m hs→(∀ i∈l,i<hs.length) →
 ∃ hs2,bG (mU m hs' l) hs2∧hs2.length=hs.length∧(∀ i,i∈l→hs2[i]? = some (hs'.getD i .dead))∧(∀ i,i∉l→hs2[i]? = hs[i]?)∧∀ j,j∉l→((mU m hs' l).fV j).ver=(m.fV j).ver
 | [],m,hs,h,_=>⟨hs,h,rfl,(fun i hi=>by cases hi),fun _ _=>rfl,fun _ _=>rfl⟩
 | i :: l,m,hs,h,hl=>by
   have hi:=hl i (List.mem_cons_self ..)
   have hg:hs[i]? = some hs[i]:=List.getElem?_eq_getElem hi
   obtain⟨hs2,h1,h2,h3,h4,h5⟩:=pa hs' l (m.put i (hs'.getD i .dead)) (hs.set i (hs'.getD i .dead)) (h.put hg _) (fun j hj=>by rw [List.length_set];exact hl j (List.mem_cons_of_mem _ hj))
   refine⟨hs2,h1,by rw [h2,List.length_set],fun j hj=>?_,fun j hj=>?_,fun j hj=>?_⟩
   · by_cases hjl:j∈l
     · exact h3 j hjl
     · rw [h4 j hjl]
       rcases List.mem_cons.1 hj with rfl|hj
       · simp [hi]
       · exact absurd hj hjl
   · simp only [List.mem_cons,not_or]at hj
     rw [h4 j hj.2,List.getElem?_set_ne (Ne.symm hj.1)]
   · simp only [List.mem_cons,not_or]at hj
     show((mU (m.put i (hs'.getD i .dead)) hs' l).fV j).ver=_
     rw [h5 j hj.2,Mem.ic m _ hj.1]
theorem o_:∀(l:List aj) (m:Mem) (hs:ak),bG m hs→hs.length+l.length<Mem.bound→bG (jq m l) (hs++l)∧∀ j,j<hs.length→((jq m l).fV j).ver=(m.fV j).ver
 | [],m,hs,h,_=>⟨by simpa [jq]using h,fun _ _=>rfl⟩
 | o::l,m,hs,h,hb=>by
   simp only [List.length_cons]at hb
   obtain⟨m',h1,h2,h3⟩:=h.push o (by omega)
   have ih:=o_ l m' (hs++[o]) h2 (by simp;omega)
   unfold jq
   rw [h1]
   simp only [Option.getD_some]
   refine⟨by simpa using ih.1,fun j hj=>?_⟩
   rw [ih.2 j (by simp;omega),h3 j (by simp;omega)]
theorem rX:∀(l:List aj) (m:Mem) (hs:ak),bG m hs→hs.length+l.length<Mem.bound→∀ j,hs.length+l.length≤j→((jq m l).fV j).ver=(m.fV j).ver
 | [],m,hs,_,_,j,_=>rfl
 | o::l,m,hs,h,hb,j,hj=>by
   simp only [List.length_cons]at hb hj
   obtain⟨m',h1,h2,h3⟩:=h.push o (by omega)
   unfold jq
   rw [h1]
   simp only [Option.getD_some]
   rw [rX l m' (hs++[o]) h2 (by simp;omega) j (by simp;omega),h3 j (by simp;omega)]
theorem aI.Sound.holds {P:Program} {e:aI}(h:e.Sound P) {m:Mem}(hm:bG m e.hs):bG (e.mem m) e.hs'∧pZ m (e.mem m)∧∀ j,j∉e.ws++mM e.hs.length e.hs'.length→((e.mem m).fV j).ver=(m.fV j).ver:=by
 obtain⟨hs2,h1,h2,h3,h4,h5⟩:=pa e.hs' (e.ws.filter fun i=>decide (i<e.hs.length)) m e.hs hm (fun i hi=>by simpa using (List.mem_filter.1 hi).2)
 have hlen:(e.hs'.drop e.hs.length).length=e.hs'.length-e.hs.length:=List.length_drop ..
 have hle:=h.le
 have hb:=h.bnd
 have h6:=o_ (e.hs'.drop e.hs.length) _ hs2 h1 (by rw [h2,hlen];omega)
 have e1:hs2=e.hs'.take e.hs.length:=by
  apply List.ext_getElem?
  intro i
  by_cases hi:i<e.hs.length
  · rw [List.getElem?_take,if_pos hi]
    by_cases hw:i∈e.ws.filter fun i=>decide (i<e.hs.length)
    · rw [h3 i hw,List.getD_eq_getElem?_getD,List.getElem?_eq_getElem (by omega)];rfl
    · rw [h4 i hw,h.same i hi (fun hh=>hw (List.mem_filter.2 ⟨hh,by simpa using hi⟩))]
  · rw [List.getElem?_eq_none (by omega),List.getElem?_eq_none (by simp;omega)]
 refine⟨?_,.trans (rY _ _ _) (nZ _ _),fun j hj=>?_⟩
 · have:=h6.1
   rw [e1,List.take_append_drop]at this
   exact this
 · simp only [List.mem_append,not_or]at hj
   have hv:∀ j,j∉e.ws→((mU m e.hs' (e.ws.filter fun i=>decide (i<e.hs.length))).fV j).ver=(m.fV j).ver:=fun j hj=>h5 j fun hh=>hj (List.mem_filter.1 hh).1
   unfold aI.mem
   by_cases hjn:j<e.hs.length
   · rw [h6.2 j (by omega),hv j hj.1]
   · rw [rX _ _ hs2 h1 (by rw [h2,hlen];omega) j (by
      rw [h2,hlen]
      have:¬j<e.hs'.length:=fun hlt=>hj.2 (by unfold mM;rw [List.mem_range'_1];omega)
      omega),hv j hj.1]
open Classical in
noncomputable def tN (f:FuncId) (args:List XV) (m:Mem):List aI→Option aI
 | [] => .none
 | e::L=>if e.f=f∧e.args=args∧bG m e.hs then some e else tN f args m L
theorem mR {f:FuncId} {args:List XV} {m:Mem} {e:aI}:∀ {L:List aI},tN f args m L=some e→e∈L∧e.f=f∧e.args=args∧bG m e.hs
 | [],h=>by cases h
 | e'::L,h=>by
   unfold tN at h
   split at h
   · rename_i hc
     cases h
     exact⟨List.mem_cons_self ..,hc⟩
   · obtain⟨h1,h2⟩:=mR h
     exact⟨List.mem_cons_of_mem _ h1,h2⟩
theorem vA {f:FuncId} {args:List XV} {m:Mem} {e:aI}(hc:e.f=f∧e.args=args∧bG m e.hs):∀ {L:List aI},e∈L→∃ e',tN f args m L=some e'
 | e'::L,h=>by
   unfold tN
   split
   · exact⟨_,rfl⟩
   · rename_i hn
     rcases List.mem_cons.1 h with rfl|h
     · exact absurd hc hn
     · exact vA hc h
theorem bG.uniq {m:Mem} {hs hs2:ak}(h:bG m hs) (h2:bG m hs2):hs=hs2:=by
 have n1:=h.n
 have n2:=h2.n
 apply List.ext_getElem?
 intro i
 by_cases hi:i<m.n
 · rw [h.get? hi,h2.get? hi]
 · rw [List.getElem?_eq_none (by omega),List.getElem?_eq_none (by omega)]
def Compat (e e':aI):Prop:=e.f=e'.f→e.args=e'.args→e.hs=e'.hs→e.v=e'.v∧e.hs'=e'.hs'∧e.ws=e'.ws
def ag (L:List aI):Prop:=∀ e∈L,∀ e'∈L,Compat e e'
theorem ag.nil:ag []:=fun _ h=>by cases h
theorem Compat.refl (e:aI):Compat e e:=fun _ _ _=>⟨rfl,rfl,rfl⟩
theorem Compat.symm {e e':aI}(h:Compat e e'):Compat e' e:=fun h1 h2 h3=>by
 obtain⟨k1,k2,k3⟩:=h h1.symm h2.symm h3.symm
 exact⟨k1.symm,k2.symm,k3.symm⟩
theorem ag.cons {e:aI} {L:List aI}(h:∀ e'∈L,Compat e e') (hL:ag L):ag (e::L):=by
 intro a ha b hb
 rcases List.mem_cons.1 ha with e1|h1
 · rcases List.mem_cons.1 hb with e2|h2
   · rw [e1,e2];exact Compat.refl _
   · rw [e1];exact h b h2
 · rcases List.mem_cons.1 hb with e2|h2
   · rw [e2];exact(h a h1).symm
   · exact hL a h1 b h2
theorem ag.one (e:aI):ag [e]:=ag.cons (fun _ h=>by cases h) ag.nil
theorem Compat.ne {e e':aI}(h:Nat.beq e.f e'.f=false):Compat e e':=fun h1=>by
 rw [h1]at h
 have:Nat.beq e'.f e'.f=true:=Nat.beq_refl _
 rw [this]at h;cases h
theorem ag.two {e e':aI}(h:Compat e e'):ag [e,e']:=ag.cons (fun x hx=>by simp only [List.mem_singleton]at hx;subst hx;exact h) (ag.one e')
def su (e:aI):List aI→Prop
 | []=>True
 | e'::L=>Compat e e'∧su e L
def Kz:List aI→Prop
 | []=>True
 | e::L=>su e L∧Kz L
theorem su.all {e:aI}:∀ {L:List aI},su e L→∀ e'∈L,Compat e e'
 | [],_,e',h=>by cases h
 | a::L,h,e',h'=>by
   rcases List.mem_cons.1 h' with rfl|h'
   · exact h.1
   · exact h.2.all e' h'
theorem ag.lK:∀ {L:List aI},Kz L→ag L
 | [],_=>ag.nil
 | _::_,h=>ag.cons h.1.all (ag.lK h.2)
noncomputable def Ed (L:List aI):df:=⟨fun f args m=>(tN f args m L).map fun e=>(e.v,e.mem m),fun _ _ => .none⟩
theorem kD {P:Program} {L:List aI}(h:∀ e∈L,e.Sound P):aN P (Ed L):=by
 refine⟨fun f args m v m' hc=>?_,fun f args m v m' hc=>?_,fun _ _ _ he=>by cases he⟩
 · obtain⟨e,h1,h2⟩:=Option.map_eq_some_iff.1 hc
   cases h2
   obtain⟨hm,rfl,rfl,hh⟩:=mR h1
   exact(h e hm).call m _ hh ((h e hm).holds hh).1
 · obtain⟨e,h1,h2⟩:=Option.map_eq_some_iff.1 hc
   cases h2
   obtain⟨hm,rfl,rfl,hh⟩:=mR h1
   exact((h e hm).holds hh).2.1
theorem Ee {L:List aI}(hc:ag L) {e:aI}(he:e∈L) {m:Mem}(hm:bG m e.hs):(Ed L).call e.f e.args m=some (e.v,e.mem m):=by
 obtain⟨e',h1⟩:=vA (f:=e.f) (args:=e.args) (m:=m) ⟨rfl,rfl,hm⟩ he
 obtain⟨h2,h3,h4,h5⟩:=mR h1
 obtain⟨k1,k2,k3⟩:=hc e' h2 e he h3 h4 (h5.uniq hm)
 show(tN e.f e.args m L).map _=_
 rw [h1]
 have k4:e'.hs=e.hs:=h5.uniq hm
 simp only [Option.map_some,k1]
 unfold aI.mem
 rw [k2,k3,k4]
def SK (P:Program) (ops:Array Oper) (nt:Nat) (L:List aI) (l:List Oper) (al:bn) (hs:ak) (K:List Ab→bn→ak→Prop):Prop:=
 ∃ Lf,(∀ e∈L,e∈Lf)∧(∀ e∈Lf,e∈L∨e.Sound P)∧ag Lf∧ny (Ed Lf) P ops nt l al hs K
variable {P:Program} {ops:Array Oper} {nt nI:Nat} {al:bn} {hs:ak} {o:Oper} {l:List Oper} {L:List aI} {K:List Ab→bn→ak→Prop}
theorem SK.nil (hc:ag L) (h:K [] al hs):SK P ops nt L [] al hs K:=⟨L,fun _ h=>h,fun _ h => .inl h,hc,.nil h⟩
theorem SK.lift {x:XV} {hs1:ak} {b:Ab} {d:Nat}(hd:o.dst=some d) (hlt:Nat.blt d nt=true) (h:∀ O,aJ O P ops al hs o x hs1 b) (hk:SK P ops nt L l ((d,x)::al) hs1 fun bs=>K (b::bs)):SK P ops nt L (o::l) al hs K:=by
 obtain⟨Lf,h1,h2,h3,h4⟩:=hk
 exact⟨Lf,h1,h2,h3,.cons (h _) (by rw [hd];simpa [Nat.blt_eq]using hlt) (by rw [hd];exact h4)⟩
theorem SK.Ca {x:XV} {hs1:ak} {b:Ab}(hd:o.dst = .none) (h:∀ O,aJ O P ops al hs o x hs1 b) (hk:SK P ops nt L l al hs1 fun bs=>K (b::bs)):SK P ops nt L (o::l) al hs K:=by
 obtain⟨Lf,h1,h2,h3,h4⟩:=hk
 exact⟨Lf,h1,h2,h3,.cons (h _) (by rw [hd]) (by rw [hd];exact h4)⟩
theorem u6 {Lf:List aI}(hc:ag Lf) {e:aI}(he:e∈Lf) (hs0:e.hs=hs) (hsd:e.Sound P) {g:Operand} {args:Array Operand} {ts:Array TypeId}(ho:o.op = .call ⟨.value g,args,ts⟩) (hw:aw ops (rg al) o=some true)
 {c:XC}(hg:ai (rg al) g = .one c) {caps:List XC}(hx:xU c=some (e.f,caps)) (hcb:fe P e.f=true) (ha:args.toList.map (ai (rg al))++caps.map .one=e.args) :
 aJ (Ed Lf) P ops al hs o e.v e.hs' ⟨true,.none,e.ws++mM e.hs.length e.hs'.length⟩:=by
 intro m hm
 subst hs0
 obtain⟨h1,_,h2⟩:=hsd.holds hm
 refine⟨e.mem m,?_,h1,h2⟩
 unfold jS
 rw [hw]
 have e1:c_ (Ed Lf) P (ai (rg al)) o.op m=some (e.v,e.mem m):=by
  rw [ho]
  simp only [c_,hg,hx,hcb,if_true,ha,Ee hc he hm]
 have n1:bj P (ai (rg al)) o.op = .none:=by rw [ho];rfl
 have n2:o4 (Ed Lf) (ai (rg al)) o.op = .none:=by rw [ho];rfl
 have n3:fG P (ai (rg al)) o.op = .none:=by rw [ho];rfl
 have n4:cw P (ai (rg al)) o.op m = .none:=by rw [ho];rfl
 simp only [dT,dU,n1,n2,n3,n4,e1]
theorem aD {f:FuncId} {vs:List XV} {v:XV} {hs':ak} {ws:List Nat}(hi:aI.Sound P ⟨f,vs,hs,v,hs',ws⟩) {g:Operand} {args:Array Operand} {ts:Array TypeId}(ho:o.op = .call ⟨.value g,args,ts⟩) (hw:aw ops (rg al) o=some true)
 {d:Nat}(hd:o.dst=some d) (hlt:Nat.blt d nt=true) {c:XC}(hg:ai (rg al) g = .one c) {caps:List XC}(hx:xU c=some (f,caps)) (hcb:fe P f=true) (ha:args.toList.map (ai (rg al))++caps.map .one=vs)
 (hk:SK P ops nt (⟨f,vs,hs,v,hs',ws⟩::L) l ((d,v)::al) hs' fun bs=>K (⟨true,.none,ws++mM hs.length hs'.length⟩::bs)):SK P ops nt L (o::l) al hs K:=by
 obtain⟨Lf,h1,h2,h3,h4⟩:=hk
 refine⟨Lf,fun e he=>h1 e (List.mem_cons_of_mem _ he),fun e he=>?_,h3,.cons (u6 h3 (h1 _ (List.mem_cons_self ..)) rfl hi ho hw hg hx hcb ha) (by rw [hd];simpa [Nat.blt_eq]using hlt) (by rw [hd];exact h4)⟩
 rcases h2 e he with h|h
 · rcases List.mem_cons.1 h with rfl|h
   · exact .inr hi
   · exact .inl h
 · exact .inr h
theorem Hj {f:FuncId} {vs:List XV} {v:XV} {hs':ak} {ws:List Nat}(hi:aI.Sound P ⟨f,vs,hs,v,hs',ws⟩) {g:Operand} {args:Array Operand} {ts:Array TypeId}(ho:o.op = .call ⟨.value g,args,ts⟩) (hw:aw ops (rg al) o=some true)
 (hd:o.dst = .none) {c:XC}(hg:ai (rg al) g = .one c) {caps:List XC}(hx:xU c=some (f,caps)) (hcb:fe P f=true) (ha:args.toList.map (ai (rg al))++caps.map .one=vs)
 (hk:SK P ops nt (⟨f,vs,hs,v,hs',ws⟩::L) l al hs' fun bs=>K (⟨true,.none,ws++mM hs.length hs'.length⟩::bs)):SK P ops nt L (o::l) al hs K:=by
 obtain⟨Lf,h1,h2,h3,h4⟩:=hk
 refine⟨Lf,fun e he=>h1 e (List.mem_cons_of_mem _ he),fun e he=>?_,h3,.cons (u6 h3 (h1 _ (List.mem_cons_self ..)) rfl hi ho hw hg hx hcb ha) (by rw [hd]) (by rw [hd];exact h4)⟩
 rcases h2 e he with h|h
 · rcases List.mem_cons.1 h with rfl|h
   · exact .inr hi
   · exact .inl h
 · exact .inr h
theorem ue (τ : Nat→Nat) (hs:ak):View τ hs []:=⟨fun _ h=>absurd h (Nat.not_lt_zero _),fun _ _ _ _ h=>by simp at h,fun _ _ h=>by simp at h,fun _ _ h=>by simp at h⟩
theorem aB {f:FuncId} {args:List XV} {v:XV}(hc:bt P f args [] v []) (ha:(args.all XV.shut)=true) (hv:v.shut=true) (hb:Nat.blt hs.length Mem.bound=true):aI.Sound P ⟨f,args,hs,v,hs,[]⟩:=by
 have ha':∀ x∈args,x.shut=true:=List.all_eq_true.1 ha
 refine⟨Nat.le_refl _,by simpa [Nat.blt_eq]using hb,fun _ _ _=>rfl,fun M M' hM hM'=>?_⟩
 have:=Aq hc (Nat.le_refl _) (by decide) (ρ:=id) (HS:=hs) (HS':=hs) (ue _ _) (fun x hx=>XV.gX (ha' x hx) _) ⟨by simp,fun _ _ h=>by simp at h,fun _ _ _=>rfl⟩ (fun _ _ h=>by simp at h) hM hM'
 rw [lB ha',XV.dZ hv]at this
 exact this
theorem Dw {f:FuncId} {args args':List XV} {hs0:ak} {v v':XV}(hc:bt P f args hs0 v hs0) {ρ : Nat→Nat}(hview:View ρ hs hs0) (hlive:∀ o∈hs0,o.live=true) (ha:∀ x∈args,x.cc hs0.length) (e1:args.map (·.au ρ)=args') (hv:v.cc hs0.length) (e2:v.au ρ = v') (hb:Nat.blt hs.length Mem.bound=true) (hb0:Nat.blt hs0.length Mem.bound=true) :
 aI.Sound P ⟨f,args',hs,v',hs,[]⟩:=by
 refine⟨Nat.le_refl _,by simpa [Nat.blt_eq]using hb,fun _ _ _=>rfl,fun M M' hM hM'=>?_⟩
 have key:∀ j,j<hs0.length→beyond ρ hs0.length hs.length j = ρ j:=fun j hj=>if_pos hj
 have kc:∀ c:XC,c.ok hs0.length→c.au (beyond ρ hs0.length hs.length)=c.au ρ:=by
  intro c
  induction c with
  | ptr i off=>exact fun h=>by simp only [XC.au,key i h]
  | slice i off len cap=>exact fun h=>by simp only [XC.au,key i h]
  | map i=>exact fun h=>by simp only [XC.au,key i h]
  | bind g c ih1 ih2=>exact fun h=>by simp only [XC.au,ih1 h.1,ih2 h.2]
  | _=>intro _;rfl
 have kcs:∀ cs:List XC,(∀ c∈cs,c.ok hs0.length)→cs.map (·.au (beyond ρ hs0.length hs.length))=cs.map (·.au ρ):=fun cs h=>List.map_congr_left fun c hc=>kc c (h c hc)
 have k1:∀ x:X1,x.ok hs0.length→x.au (beyond ρ hs0.length hs.length)=x.au ρ:=fun x h=>by
  cases x with
  | one c=>simp only [X1.au,kc c h]
  | agg cs=>simp only [X1.au,kcs cs h]
 have kv:∀ x:XV,x.cc hs0.length→x.au (beyond ρ hs0.length hs.length)=x.au ρ:=fun x h=>by
  cases x with
  | undef=>rfl
  | one c=>simp only [XV.au,kc c h]
  | agg cs=>simp only [XV.au,kcs cs h]
  | tup xs=>simp only [XV.au];rw [List.map_congr_left fun c hc=>k1 c (h c hc)]
 have ko:∀ x:aj,x.cc hs0.length→x.au (beyond ρ hs0.length hs.length)=x.au ρ:=fun x h=>by
  cases x with
  | dead=>rfl
  | cells vs e a b=>simp only [aj.au,kcs vs h]
  | map es=>simp only [aj.au];rw [List.map_congr_left fun p hp=>by rw [k1 _ (h p hp).1,k1 _ (h p hp).2]]
 have:=Aq hc (Nat.le_refl _) (by simpa [Nat.blt_eq]using hb0) (HS:=hs) (HS':=hs) hview ha ⟨by simp,fun j o h=>?_,fun _ _ _=>rfl⟩ (fun j o h hl _=>⟨o,h,hl⟩) hM hM'
 · rw [e1,kv v hv,e2]at this
   exact this
 · have hj:j<hs0.length:=(List.getElem?_eq_some_iff.1 h).1
   rw [key j hj,ko o (hview.ok j o h)]
   rcases hview.obj j o h with e|e
   · have:=hlive o (List.mem_of_getElem? h)
     rw [e]at this;cases this
   · exact e
theorem sx {f:FuncId} {args args':List XV} {hs0 hs0' hs':ak} {v v':XV} {ws:List Nat}(hc:bt P f args hs0 v hs0') {ρ : Nat→Nat}(hle:hs0.length≤hs0'.length) (hview:View ρ hs hs0) (ha:∀ x∈args,x.cc hs0.length) (e1:args.map (·.au ρ)=args') (e2:v.au (beyond ρ hs0.length hs.length)=v') (haf:Ky ρ hs0.length hs hs0' hs') (hro:∀(j:Nat) (o:aj),hs0'[j]? = some o→o.live=true→o.own=false→∃ o0,hs0[j]? = some o0∧o0.live=true)
 (hsame:∀ i,i<hs.length→i∉ws→hs'[i]? = hs[i]?) (hb:Nat.blt hs'.length Mem.bound=true) (hb0:Nat.blt hs0.length Mem.bound=true):aI.Sound P ⟨f,args',hs,v',hs',ws⟩:=by
 have hl:=haf.len
 refine⟨by show hs.length≤hs'.length;omega,by simpa [Nat.blt_eq]using hb,hsame,fun M M' hM hM'=>?_⟩
 have:=Aq hc hle (by simpa [Nat.blt_eq]using hb0) hview ha haf hro hM hM'
 rw [e1,e2]at this
 exact this
section
variable {K:cR}
theorem WX.MR {id:Nat}(h:SK P ops nt [] ops.toList al hs fun _ al' hs'=>K .normal al' hs'):WX P nt nI (.code (.region id ops false)) al hs K:=by
 obtain⟨Lf,h1,h2,h3,h4⟩:=h
 exact WX.N3 (kD fun e he=>(h2 e he).resolve_left (by simp)) h4
theorem WX.La (hP:P.follows .mixedOrders=true) {id:Nat}(hst:bK ops nt (fx ops.toList)=true) (h:SK P ops nt [] ops.toList al hs fun bs al' hs'=>u_ (fx ops.toList) bs=true∧K .normal al' hs'):WX P nt nI (.code (.region id ops true)) al hs K:=by
 obtain⟨Lf,h1,h2,h3,h4⟩:=h
 exact WX.M6 (kD fun e he=>(h2 e he).resolve_left (by simp)) hP hst h4
end
end Go.Xm
namespace Go.Xm
variable [az]
def gJ (m m':Mem):Prop:=m.n≤Mem.bound→m'.n≤Mem.bound∧m.n≤m'.n∧∀ j,j<m'.n→(m'.get j).live=true→(m'.get j).own=true∨(j<m.n∧m.get j=m'.get j)
theorem gJ.same (m:Mem):gJ m m:=fun hb=>⟨hb,Nat.le_refl _,fun j hj _ => .inr ⟨hj,rfl⟩⟩
theorem gJ.trans {a b c:Mem}(h1:gJ a b) (h2:gJ b c):gJ a c:=fun hb=>by
 obtain⟨k1,k2,k3⟩:=h1 hb
 obtain⟨l1,l2,l3⟩:=h2 k1
 refine⟨l1,Nat.le_trans k2 l2,fun j hj hl=>?_⟩
 rcases l3 j hj hl with h|⟨h,he⟩
 · exact .inl h
 · rcases k3 j h (by rw [he];exact hl)with h'|⟨h',he'⟩
   · exact .inl (by rw [←he];exact h')
   · exact .inr ⟨h',he'.trans he⟩
theorem gJ.put (m:Mem) (i:Nat) {o:aj}(ho:o.own=true∨o.live=false):gJ m (m.put i o):=fun hb=>by
 refine⟨by rw [Mem.fE];exact hb,by rw [Mem.fE];exact Nat.le_refl _,fun j hj hl=>?_⟩
 rw [Mem.fE]at hj
 by_cases hji:j=i
 · subst hji
   rw [Mem.ig m o hj (by omega)]at hl ⊢
   rcases ho with h|h
   · exact .inl h
   · rw [h]at hl;cases hl
 · have:(m.put i o).get j=m.get j:=by
    show((m.put i o).fV j).obj=(m.fV j).obj
    rw [Mem.ic m o hji]
   exact .inr ⟨hj,this.symm⟩
theorem gJ.push {m m':Mem} {o:aj}(ho:o.own=true∨o.live=false) (h:m.push o=some m'):gJ m m':=fun hb=>by
 obtain⟨h1,h2,h3,h4⟩:=Mem.bD h
 refine⟨by omega,by omega,fun j hj hl=>?_⟩
 by_cases hjn:j=m.n
 · subst hjn
   have:m'.get m.n=o:=by show(m'.fV m.n).obj=o;rw [h3]
   rw [this]at hl ⊢
   rcases ho with h|h
   · exact .inl h
   · rw [h]at hl;cases hl
 · have:m'.get j=m.get j:=by
    show(m'.fV j).obj=(m.fV j).obj
    rw [h4 j hjn]
   exact .inr ⟨by omega,this.symm⟩
theorem EJ {P:Program} {ρ : Operand→XV} {op:Op} {m m':Mem} {r:XV}(h:cw P ρ op m=some (r,m')):gJ m m':=by
 unfold cw mY EH xD kO fg mg iw iv j0 uj at h
 (repeat' split at h) <;> first
   | (cases h;done)
   | (cases h;exact .same _)
   | (cases h;exact .put _ _ (.inl rfl))
   | (cases h;exact .push (.inl rfl) ‹_›)
   | (cases h;exact .trans (.put _ _ (.inr rfl)) (.push (.inl rfl) ‹_›))
def mO (o:Oper):Bool:=match o.op with
 | .call ⟨.value _,_,_⟩=>false
 | _=>true
theorem Bk {O : df} {P:Program} {ops:Array Oper} {g:Nat→XV} {o:Oper} {m:Mem} {d:Out}(hn:mO o=true) (h:jS O P ops g o m=some d):gJ m d.m:=by
 unfold jS at h
 split at h
 · unfold dT at h
   split at h
   · cases h;exact .same _
   · split at h
     · split at h
       · cases h;exact .same _
       · cases h
     · split at h
       · rename_i x m' hx
         cases h
         exact EJ hx
       · split at h
         · rename_i x m' hx
           exfalso
           unfold c_ at hx
           split at hx
           · rename_i hop
             unfold mO at hn
             rw [hop]at hn
             cases hn
           · cases hx
         · cases h
 · cases h;exact .same _
 · cases h
def w8 (bs:List Nat) (f i:Nat) (di:Ab) (e:Nat) (de:Ab):Bool:=
 !de.eff || i == e || ((!(di.eff && decide (e<i) && i != f) || bit bs i e) &&
  (match di.fp with
    | .none=>true
    | some fp=>bit bs i e || bit bs e i || !(de.ws.contains fp)))
def lD (ops : Array Oper) (bs:List Nat) (tr:List Ab) (f:Nat):Bool:=
 match ops[f]?,tr[f]? with
 | some o, some bf=>match o.op,o.guard,o.dst with
   | .alloc _,.none,some d=>(List.range ops.size).all (fun i=>i == f || (match ops[i]? with
      | .none=>true
      | some oi => !((oi.looksAt ops).contains d || (match tr[i]? with | .none=>false|some di=>(match di.fp with | .none=>false|some p=>bf.ws.contains p))) || (List.range f).all fun e=>match tr[e]? with
        | .none=>true
        | some de => !de.eff || bit bs i e)) && (List.range tr.length).all fun i=>match tr[i]? with
          | .none=>true
          | some di=>(!di.eff && di.fp.isNone) || (List.range tr.length).all fun e=>match tr[e]? with
            | .none=>true
            | some de=>w8 bs f i di e de
   | _,_,_=>false
 | _,_=>false
section
variable {O:df} {P:Program} {ops:Array Oper} {nt nI:Nat} {tr:List (Mem × Out)} {rs:Nat→T XV} {ms:Nat→Mem} {ds:Nat→Out}
theorem yv (hO : aN P O) (hT:Trace O P ops nt ops.toList tr rs ms ds) (h0f:(ms 0).b_) (hb:(ms 0).n≤Mem.bound) (hno:ops.toList.all mO=true) {ab:List Ab}(ht:E3 tr ab) {bs:List Nat} {f:Nat}(h:lD ops bs ab f=true):f<ops.size∧lh ops bs tr f=true:=by
 have key:∀ i,i≤ops.size→gJ (ms 0) (ms i)∧(ms i).b_:=by
  intro i
  induction i with
  | zero=>exact fun _=>⟨.same _,h0f⟩
  | succ i ih=>
    intro hi
    obtain⟨h1,h2⟩:=ih (by omega)
    obtain⟨o,ho,_,hx,_,hm⟩:=aV hT (show i<ops.size by omega)
    have hn:mO o=true:=List.all_eq_true.1 hno o (by rw [Array.mem_toList_iff];exact Array.mem_of_getElem? ho)
    rw [hm]
    exact⟨h1.trans (Bk hn hx),((jw hO hx).mono h2).2⟩
 unfold lD at h
 split at h
 · rename_i o bf hof hbf
   split at h
   · rename_i t d hop hg hd
     have hf:f<ops.size:=(Array.getElem?_eq_some_iff.1 hof).1
     obtain⟨o',ho',htf,hxf,_,_⟩:=aV hT hf
     obtain rfl:o=o':=by rw [hof]at ho';exact Option.some.inj ho'
     obtain⟨_,_,ht0,_⟩:=aV hT (show 0<ops.size by omega)
     obtain⟨hkr,hfr⟩:=key f (by omega)
     obtain⟨bf',hbf',k1,k2,k3⟩:=cz.get? ht f _ htf
     obtain rfl:bf=bf':=by rw [hbf]at hbf';exact Option.some.inj hbf'
     obtain⟨zs,_,hp,_⟩:=gD hop hg hxf
     have hn:(ms f).n∈bf.ws:=by
      refine Classical.byContradiction fun hn=>?_
      have e1:=k3 _ hn
      simp only at e1
      obtain⟨_,_,e2,_⟩:=Mem.bD hp
      rw [e2,hfr _ (Nat.le_refl _)]at e1
      cases e1
     have hl:tr.length=ab.length:=cz.length ht
     simp only [Bool.and_eq_true]at h
     obtain⟨hlk,hdy⟩:=h
     refine⟨hf,?_⟩
     unfold lh
     rw [hof,ht0,htf]
     simp only [hop,hg,hd,Bool.and_eq_true]
     refine⟨⟨?_,?_⟩,?_⟩
     · refine List.all_eq_true.2 fun j hj=>?_
       obtain⟨_,_,k⟩:=hkr hb
       have hj':=List.mem_range.1 hj
       cases hlv:((ms f).get j).live with
       | false=>rfl
       | true=>
         rcases k j hj' hlv with k|⟨k,ke⟩
         · simp [k]
         · simp [k,ke,hlv]
     · refine List.all_eq_true.2 fun i hi=>?_
       have h1:=List.all_eq_true.1 hlk i hi
       have hi':=List.mem_range.1 hi
       obtain⟨oi,hoi,hti,_⟩:=aV hT hi'
       obtain⟨bi,hbi,j1,j2,_⟩:=cz.get? ht i _ hti
       rw [hoi,hbi]at h1
       rw [hoi,hti]
       simp only [Bool.or_eq_true,Bool.not_eq_true']at h1 ⊢
       rcases h1 with h1|h1|h1
       · exact .inl h1
       · refine .inr (.inl ?_)
         simp only [Bool.or_eq_false_iff]at h1 ⊢
         refine⟨h1.1,?_⟩
         refine decide_eq_false fun hc=>?_
         simp only at j2
         rw [hc]at j2
         have:=h1.2
         rw [←j2]at this
         simp only at this
         rw [List.contains_iff_mem.2 hn]at this
         cases this
       · refine .inr (.inr (List.all_eq_true.2 fun e he=>?_))
         have h2:=List.all_eq_true.1 h1 e he
         have he':=List.mem_range.1 he
         obtain⟨_,_,hte,_⟩:=aV hT (show e<ops.size by omega)
         obtain⟨be,hbe,q1,_,_⟩:=cz.get? ht e _ hte
         rw [hbe]at h2
         rw [hte]
         simp only at q1 h2 ⊢
         rw [q1];exact h2
     · unfold qV
       rw [List.all_eq_true]at hdy ⊢
       intro i hi
       have hi':=hdy i (by rw [←hl];exact hi)
       split
       · rfl
       · rename_i mi di hdi
         obtain⟨bi,hb',h1,h2,_⟩:=cz.get? ht i _ hdi
         simp only at h1 h2
         rw [hb']at hi'
         simp only [Bool.or_eq_true]at hi' ⊢
         rw [h1,h2]
         rcases hi' with hi'|hi'
         · exact .inl hi'
         · refine .inr (List.all_eq_true.2 fun e he=>?_)
           have he':=List.all_eq_true.1 hi' e (by rw [←hl];exact he)
           split
           · rfl
           · rename_i me de hde
             obtain⟨be,hbe,q1,q2,q3⟩:=cz.get? ht e _ hde
             simp only at q1 q2 q3
             rw [hbe]at he'
             unfold oF
             unfold w8 at he'
             rw [h1,h2,q1]
             simp only [Bool.or_eq_true,Bool.and_eq_true]at he' ⊢
             rcases he' with he'|⟨ha,hb'⟩
             · exact .inl he'
             · refine .inr ⟨ha,?_⟩
               cases hf:bi.fp with
               | none=>rfl
               | some fp=>
                 rw [hf]at hb'
                 simp only [Bool.or_eq_true]at hb' ⊢
                 rcases hb' with hb'|hb'
                 · exact .inl hb'
                 · refine .inr ?_
                   have:fp∉be.ws:=by simpa using hb'
                   rw [q3 fp this]
                   simp
   · cases h
 · cases h
theorem WX.K9 (hO:aN P O) (hP:P.follows .mixedOrders=true) {id f:Nat} {al al':bn} {hs hs':ak} {bs:List Ab} {K:cR}(hst:bK ops nt (fx ops.toList)=true) (hno:ops.toList.all mO=true) (h:kb O P ops nt ops.toList al hs bs al' hs') (hdy:lD ops (fx ops.toList) bs f=true)
 (hk:K .normal al' hs'):WX P nt nI (.code (.region id ops true)) al hs K:=by
 intro βI mI wI hn m hm β w a Q hr hw hq
 obtain⟨r,hrr⟩:=k_ (rg al) nt hr.small hr.out
 obtain⟨tr,r',m',h1,h2,h3,h4⟩:=jZ hr.small h hm hrr
 obtain⟨rs,ms,ds,hT,t1,t2,_,_⟩:=iH h1
 have hfl:=yv hO hT (by rw [t2];exact hm.fresh) (by rw [t2];exact hm.bnd) hno h4 hdy
 have hx:jn O P ops nt r m=some (r',m'):=by
  refine kJ ?_
  unfold gE h_
  rw [if_pos hst,h1]
  simp only []
  by_cases hd:gU (fx ops.toList) tr=true
  · rw [if_pos hd]
  · rw [if_neg hd]
    simp only []
    unfold lu
    rw [if_pos hst,h1]
    simp only []
    rw [if_pos (List.any_eq_true.2 ⟨f,List.mem_range.2 hfl.1,hfl.2⟩)]
 have e:(r.get .undef)=rg al:=funext hrr
 have e':(r'.get .undef)=rg al':=funext h2
 refine oU hO hP hx (by unfold jz;rw [e];exact hr) hw.rel fun a' β' w' k1 k2 k3=>?_
 unfold jz at k1
 rw [e']at k1
 exact hq .normal al' hs' m' hk h3 a' β' w' k1 k2 (hw.trans k3)
theorem WX.Lb (f:Nat) {K:cR} {al:bn} {hs:ak} {id:Nat}(hno:ops.toList.all mO=true) (hP:P.follows .mixedOrders=true) (hst:bK ops nt (fx ops.toList)=true) (h:SK P ops nt [] ops.toList al hs fun bs al' hs'=>lD ops (fx ops.toList) bs f=true∧K .normal al' hs'):WX P nt nI (.code (.region id ops true)) al hs K:=by
 obtain⟨Lf,h1,h2,h3,bs,al',hs',h4,h5,h6⟩:=h
 exact WX.K9 (kD fun e he=>(h2 e he).resolve_left (by simp)) hP hst hno h4 h5 h6
end
end Go.Xm
namespace Go.Xm
variable [az]
variable {P:Program} {ops:Array Oper} {nt nI:Nat} {al:bn} {hs:ak} {o:Oper} {l:List Oper} {L:List aI} {K:List Ab→bn→ak→Prop} {d:Nat}
theorem Cy {a:Operand}(ho:o.op = .move a) (hw:aw ops (rg al) o=some true) (hd:o.dst=some d) (hlt:Nat.blt d nt=true) {c:XV}(ha:ai (rg al) a=c)
 (hk:SK P ops nt L l ((d,c)::al) hs fun bs=>K (quiet::bs)):SK P ops nt L (o::l) al hs K:=
 SK.lift hd hlt (fun _=>aJ.pure hw (by rw [ho];simp only [bj,ha])) hk
theorem DV {a:Operand}(ho:o.op = .assign a) (hw:aw ops (rg al) o=some true) (hd:o.dst=some d) (hlt:Nat.blt d nt=true) {c:XV}(ha:ai (rg al) a=c)
 (hk:SK P ops nt L l ((d,c)::al) hs fun bs=>K (quiet::bs)):SK P ops nt L (o::l) al hs K:=
 SK.lift hd hlt (fun _=>aJ.pure hw (by rw [ho];simp only [bj,ha])) hk
theorem Hp {a b c:Operand}(ho:o.op = .pick c a b) (hw:aw ops (rg al) o=some true) (hd:o.dst=some d) (hlt:Nat.blt d nt=true) (hc:ai (rg al) c = .one (.bool true)) {x:Bool}(ha:ai (rg al) a = .one (.bool x))
 (hk:SK P ops nt L l ((d,.one (.bool x))::al) hs fun bs=>K (quiet::bs)):SK P ops nt L (o::l) al hs K:=
 SK.lift hd hlt (fun _=>aJ.pure hw (by rw [ho];simp only [bj,hc,if_true,ha])) hk
theorem Ho {a b c:Operand}(ho:o.op = .pick c a b) (hw:aw ops (rg al) o=some true) (hd:o.dst=some d) (hlt:Nat.blt d nt=true) (hc:ai (rg al) c = .one (.bool false)) {x:Bool}(ha:ai (rg al) b = .one (.bool x))
 (hk:SK P ops nt L l ((d,.one (.bool x))::al) hs fun bs=>K (quiet::bs)):SK P ops nt L (o::l) al hs K:=
 SK.lift hd hlt (fun _=>aJ.pure hw (by rw [ho];simp only [bj,hc,Bool.false_eq_true,if_false,ha])) hk
theorem L9 {a:Operand} {t:TypeId}(ho:o.op = .unOp .not t a) (hw:aw ops (rg al) o=some true) (hd:o.dst=some d) (hlt:Nat.blt d nt=true) {x y:Bool}(ha:ai (rg al) a = .one (.bool x)) (hy:(!x)=y)
 (hk:SK P ops nt L l ((d,.one (.bool y))::al) hs fun bs=>K (quiet::bs)):SK P ops nt L (o::l) al hs K:=
 SK.lift hd hlt (fun _=>aJ.pure hw (by rw [ho];simp only [bj,ha,NL,hy])) hk
section
variable {t t':TypeId} {a b:Operand} {k k' k'':IntKind} {x y z:Int}
theorem ir {op:BinOp}(ho:o.op = .binOp op t a b t') (hw:aw ops (rg al) o=some true) (hd:o.dst=some d) (hlt:Nat.blt d nt=true) (ha:ai (rg al) a = .one (.int k x)) (hb:ai (rg al) b = .one (.int k' y))
 (hc:bO op k k' x y=some (.int k'' z)) (hk:SK P ops nt L l ((d,.one (.int k'' z))::al) hs fun bs=>K (quiet::bs)):SK P ops nt L (o::l) al hs K:=
 SK.lift hd hlt (fun _=>aJ.bin hw ho ha hb hc) hk
theorem L_ (ho:o.op = .binOp .rem t a b t') (hw:aw ops (rg al) o=some true) (hd:o.dst=some d) (hlt:Nat.blt d nt=true) (ha:ai (rg al) a = .one (.int k x)) (hb:ai (rg al) b = .one (.int k y))
 (hx:0≤x) (hy:y≠0) (hk:SK P ops nt L l ((d,.one (.int k (x%y)))::al) hs fun bs=>K (quiet::bs)):SK P ops nt L (o::l) al hs K:=
 ir ho hw hd hlt ha hb (by simp only [bO,dN,if_true,hy,if_false,Int.tmod_eq_emod_of_nonneg hx]) hk
theorem Hm {ts:Array TypeId}(ho:o.op = .call ⟨.builtin .max,#[a,b],ts⟩) (hw:aw ops (rg al) o=some true) (hd:o.dst=some d) (hlt:Nat.blt d nt=true) (ha:ai (rg al) a = .one (.int k x)) (hb:ai (rg al) b = .one (.int k' y)) (hz:max x y=z)
 (hk:SK P ops nt L l ((d,.one (.int k z))::al) hs fun bs=>K (quiet::bs)):SK P ops nt L (o::l) al hs K:=
 SK.lift hd hlt (fun _=>aJ.pure hw (by
  have e:(if y>x then y else x)=z:=by rw [←hz,Int.max_def];by_cases h:y>x <;> by_cases h':x≤y <;> simp [h,h'] <;> omega
  rw [ho];simp only [bj,fc,List.map_cons,List.map_nil,ha,hb,kL,e,Option.map_some])) hk
theorem Hn {ts:Array TypeId}(ho:o.op = .call ⟨.builtin .min,#[a,b],ts⟩) (hw:aw ops (rg al) o=some true) (hd:o.dst=some d) (hlt:Nat.blt d nt=true) (ha:ai (rg al) a = .one (.int k x)) (hb:ai (rg al) b = .one (.int k' y)) (hz:min x y=z)
 (hk:SK P ops nt L l ((d,.one (.int k z))::al) hs fun bs=>K (quiet::bs)):SK P ops nt L (o::l) al hs K:=
 SK.lift hd hlt (fun _=>aJ.pure hw (by
  have e:(if y<x then y else x)=z:=by rw [←hz,Int.min_def];by_cases h:y<x <;> by_cases h':x≤y <;> simp [h,h'] <;> omega
  rw [ho];simp only [bj,fc,List.map_cons,List.map_nil,ha,hb,kN,e,Option.map_some])) hk
end
theorem JZ {s t:TypeId} {y:Operand} {u:TypeDesc}(ho:o.op = .convert s t y) (hw:aw ops (rg al) o=some true) (hd:o.dst=some d) (hlt:Nat.blt d nt=true) {k k':IntKind} {x z:Int}(hy:ai (rg al) y = .one (.int k x)) [bh P s u] [h:bh P t (.int k')] (hz:k'.wrap x=z)
 (hk:SK P ops nt L l ((d,.one (.int k' z))::al) hs fun bs=>K (quiet::bs)):SK P ops nt L (o::l) al hs K:=
 SK.lift hd hlt (fun _=>aJ.conv hw ho hy (by simp only [kH,bh.out (P:=P) (t:=s),bh.out (P:=P) (t:=t)]) hz) hk
theorem L8 {a:Operand}(ho:o.op = .nilCheck a) (hw:aw ops (rg al) o=some true) (hd:o.dst=some d) (hlt:Nat.blt d nt=true) {i off:Nat}(ha:ai (rg al) a = .one (.ptr i off))
 (hk:SK P ops nt L l ((d,.one (.ptr i off))::al) hs fun bs=>K (quiet::bs)):SK P ops nt L (o::l) al hs K:=
 SK.lift hd hlt (fun _=>aJ.pure hw (by rw [ho];simp only [bj,ha,mj])) hk
theorem L5 {s:TypeId} {a:Operand} {f:Nat}(ho:o.op = .fieldAddr s a f) (hw:aw ops (rg al) o=some true) (hd:o.dst=some d) (hlt:Nat.blt d nt=true) {i off:Nat}(ha:ai (rg al) a = .one (.ptr i off)) {ft:TypeId} {fo z:Nat} [hf:cE P s f ft fo] [hz:aU P ft (z+1)]
 {p:Nat}(hp:off+fo=p) (hk:SK P ops nt L l ((d,.one (.ptr i p))::al) hs fun bs=>K (quiet::bs)):SK P ops nt L (o::l) al hs K:=by
 obtain⟨fd,h1,h2,h3⟩:=hf.ex
 exact SK.lift hd hlt (fun _=>aJ.pure hw (by rw [ho];simp only [bj,fw,h1,ha,h2,hz.out,h3,hp])) hk
theorem J2 {t:TypeId} {a b:Operand} {len:Nat} {elem:TypeId} {s:Nat}(ho:o.op = .indexAddr t a b) (hw:aw ops (rg al) o=some true) (hd:o.dst=some d) (hlt:Nat.blt d nt=true) {i off:Nat}(ha:ai (rg al) a = .one (.ptr i off)) {k:IntKind} {z:Int}(hb:ai (rg al) b = .one (.int k z)) [hu:bh P t (.array len elem)] [hs':aU P elem s] (hz:0≤z∧z<len)
 {p:Nat}(hp:off+z.toNat*s=p) (hk:SK P ops nt L l ((d,.one (.ptr i p))::al) hs fun bs=>K (quiet::bs)):SK P ops nt L (o::l) al hs K:=
 SK.lift hd hlt (fun _=>aJ.pure hw (by rw [ho];simp only [bj,cC,ha,hb,hu.out,hs'.out,if_pos hz,Option.map_some,hp])) hk
theorem Cw {t:TypeId} {a b:Operand} {elem:TypeId} {s:Nat}(ho:o.op = .indexAddr t a b) (hw:aw ops (rg al) o=some true) (hd:o.dst=some d) (hlt:Nat.blt d nt=true) {i off len:Nat} {cap:sL}(ha:ai (rg al) a = .one (.slice i off len cap)) {k:IntKind} {z:Int}(hb:ai (rg al) b = .one (.int k z)) [hu:bh P t (.slice elem)] [hs':aU P elem s] (hz:0≤z∧z<len)
 {p:Nat}(hp:off+z.toNat*s=p) (hk:SK P ops nt L l ((d,.one (.ptr i p))::al) hs fun bs=>K (quiet::bs)):SK P ops nt L (o::l) al hs K:=
 SK.lift hd hlt (fun _=>aJ.pure hw (by rw [ho];simp only [bj,cC,ha,hb,hu.out,hs'.out,if_pos hz,Option.map_some,hp])) hk
theorem Hk {s:TypeId} {a:Operand} {f:Nat}(ho:o.op = .field s a f) (hw:aw ops (rg al) o=some true) (hd:o.dst=some d) (hlt:Nat.blt d nt=true) {cs:List XC}(ha:ai (rg al) a = .agg cs) {ft:TypeId} {fo:Nat} [hf:cE P s f ft fo] [hz:dJ P ft] {c:XC}(hc:cs[fo]? = some c)
 (hk:SK P ops nt L l ((d,.one c)::al) hs fun bs=>K (quiet::bs)):SK P ops nt L (o::l) al hs K:=by
 obtain⟨fd,h1,h2,h3⟩:=hf.ex
 exact SK.lift hd hlt (fun _=>aJ.pure hw (by rw [ho];simp only [bj,xA,h1,ha,h2,h3,i4,hz.out,hc,Option.map_some,X1.rr])) hk
theorem L4 {a:Operand} {i:Nat}(ho:o.op = .extract a i) (hw:aw ops (rg al) o=some true) (hd:o.dst=some d) (hlt:Nat.blt d nt=true) {vs:List X1}(ha:ai (rg al) a = .tup vs) {c:XC}(hc:vs[i]? = some (.one c))
 (hk:SK P ops nt L l ((d,.one c)::al) hs fun bs=>K (quiet::bs)):SK P ops nt L (o::l) al hs K:=
 SK.lift hd hlt (fun _=>aJ.pure hw (by rw [ho];simp only [bj,ha,jL,hc,Option.map_some,X1.rr])) hk
theorem J0 {a:Operand} {i:Nat}(ho:o.op = .extract a i) (hw:aw ops (rg al) o=some true) (hd:o.dst=some d) (hlt:Nat.blt d nt=true) {vs:List X1}(ha:ai (rg al) a = .tup vs) {c:List XC}(hc:vs[i]? = some (.agg c))
 (hk:SK P ops nt L l ((d,.agg c)::al) hs fun bs=>K (quiet::bs)):SK P ops nt L (o::l) al hs K:=
 SK.lift hd hlt (fun _=>aJ.pure hw (by rw [ho];simp only [bj,ha,jL,hc,Option.map_some,X1.rr])) hk
theorem J5 {a:Operand} {t:TypeId} {elem:TypeId}(ho:o.op = .call ⟨.builtin .len,#[a],#[t]⟩) (hw:aw ops (rg al) o=some true) (hd:o.dst=some d) (hlt:Nat.blt d nt=true) {i off len:Nat} {cap:sL}(ha:ai (rg al) a = .one (.slice i off len cap)) [hu:bh P t (.slice elem)]
 (hk:SK P ops nt L l ((d,.one (.int .i64 (len:Nat)))::al) hs fun bs=>K (quiet::bs)):SK P ops nt L (o::l) al hs K:=
 SK.lift hd hlt (fun _=>aJ.pure hw (by rw [ho];simp [bj,fc,ha,zJ,hu.out])) hk
theorem gA {t:TypeId} {a:Operand}(ho:o.op = .load t a) [ht:dJ P t] (hw:aw ops (rg al) o=some true) (hd:o.dst=some d) (hlt:Nat.blt d nt=true) {i off:Nat}(ha:ai (rg al) a = .one (.ptr i off)) {vs:List XC} {e:TypeId} {opn ro:Bool}(hi:hs[i]? = some (.cells vs e opn ro)) {c:XC}(hc:vs[off]? = some c)
 (hk:SK P ops nt L l ((d,.one c)::al) hs fun bs=>K (⟨false,some i,[]⟩::bs)):SK P ops nt L (o::l) al hs K:=
 SK.lift hd hlt (fun _=>aJ.load hw ho ha hi (Gi ht.out hc)) hk
theorem A6 {t:TypeId} {a:Operand} {s:Nat}(ho:o.op = .load t a) [ht:eJ P t] [hs':aU P t s] (hw:aw ops (rg al) o=some true) (hd:o.dst=some d) (hlt:Nat.blt d nt=true) {i:Nat}(ha:ai (rg al) a = .one (.ptr i 0)) {vs:List XC} {e:TypeId} {opn ro:Bool}(hi:hs[i]? = some (.cells vs e opn ro)) (hle:s=vs.length)
 (hk:SK P ops nt L l ((d,.agg vs)::al) hs fun bs=>K (⟨false,some i,[]⟩::bs)):SK P ops nt L (o::l) al hs K:=
 SK.lift hd hlt (fun _=>aJ.load (x := .agg vs) hw ho ha hi (yL ht.out (by rw [hs'.out,hle]))) hk
theorem t7 {t:TypeId} {a:Operand} {s:Nat}(ho:o.op = .load t a) [ht:eJ P t] [hs':aU P t s] (hw:aw ops (rg al) o=some true) (hd:o.dst=some d) (hlt:Nat.blt d nt=true) {i off:Nat}(ha:ai (rg al) a = .one (.ptr i off)) {vs:List XC} {e:TypeId} {opn ro:Bool}(hi:hs[i]? = some (.cells vs e opn ro)) (hle:off+s≤vs.length) {cs:List XC}(hc:(vs.drop off).take s=cs)
 (hk:SK P ops nt L l ((d,.agg cs)::al) hs fun bs=>K (⟨false,some i,[]⟩::bs)):SK P ops nt L (o::l) al hs K:=
 SK.lift hd hlt (fun _=>aJ.load (x := .agg cs) hw ho ha hi (by simp only [eR,ht.out,hs'.out,if_pos hle,hc])) hk
theorem Hh {t:TypeId} {zs:List XC}(ho:o.op = .alloc t) [hz:bC P t zs] (hw:aw ops (rg al) o=some true) (hd:o.dst=some d) (hlt:Nat.blt d nt=true) {n:Nat}(hn:hs.length=n) (hb:Nat.blt n Mem.bound=true) {hs':ak}(hh:hs++[.cells zs t false false]=hs')
 (hk:SK P ops nt L l ((d,.one (.ptr n 0))::al) hs' fun bs=>K (⟨true,.none,[n]⟩::bs)):SK P ops nt L (o::l) al hs K:=by
 subst hn hh
 exact SK.lift hd hlt (fun _=>aJ.alloc hw ho hz.out hb) hk
theorem L0 {t:TypeId} {y:Operand}(ho:o.op = .box t y) (hw:aw ops (rg al) o=some true) (hd:o.dst=some d) (hlt:Nat.blt d nt=true) {cs:List XC}(hy:db (ai (rg al) y)=some cs) {n:Nat}(hn:hs.length=n) (hb:Nat.blt n Mem.bound=true) {hs':ak}(hh:hs++[.cells cs t false false]=hs')
 (hk:SK P ops nt L l ((d,.one (.ptr n 0))::al) hs' fun bs=>K (⟨true,.none,[n]⟩::bs)):SK P ops nt L (o::l) al hs K:=by
 subst hn hh
 exact SK.lift hd hlt (fun _=>aJ.box hw ho hy hb) hk
theorem kB {t:TypeId} {a y:Operand}(ho:o.op = .store t a y) [ht:aU P t 1] (hw:aw ops (rg al) o=some true) (hd:o.dst = .none) {i off:Nat}(ha:ai (rg al) a = .one (.ptr i off)) {c:XC}(hy:db (ai (rg al) y)=some [c]) {vs:List XC} {e:TypeId} {opn:Bool}(hi:hs[i]? = some (.cells vs e opn false)) (hle:off<vs.length)
 {vs':List XC}(hv:vs.set off c=vs') {hs':ak}(hh:hs.set i (.cells vs' e opn false)=hs') (hk:SK P ops nt L l al hs' fun bs=>K (⟨true,.none,[i]⟩::bs)):SK P ops nt L (o::l) al hs K:=by
 subst hv hh
 exact SK.Ca hd (fun _=>aJ.store hw ho ha hy ht.out hi (by simp only [List.length_cons,List.length_nil];omega) (Ea hle)) hk
theorem D2 {t:TypeId} {a y:Operand} {s:Nat}(ho:o.op = .store t a y) [ht:aU P t s] (hw:aw ops (rg al) o=some true) (hd:o.dst = .none) {i:Nat}(ha:ai (rg al) a = .one (.ptr i 0)) {cs:List XC}(hy:db (ai (rg al) y)=some cs) {vs:List XC} {e:TypeId} {opn:Bool}(hi:hs[i]? = some (.cells vs e opn false)) (hs1:s=cs.length) (hs2:s=vs.length)
 {hs':ak}(hh:hs.set i (.cells cs e opn false)=hs') (hk:SK P ops nt L l al hs' fun bs=>K (⟨true,.none,[i]⟩::bs)):SK P ops nt L (o::l) al hs K:=by
 subst hh
 exact SK.Ca hd (fun _=>aJ.store hw ho ha hy (by rw [ht.out,hs1]) hi (by omega) (D_ (by omega))) hk
theorem D3 {t:TypeId} {a y:Operand} {s:Nat}(ho:o.op = .store t a y) [ht:aU P t s] (hw:aw ops (rg al) o=some true) (hd:o.dst = .none) {i off:Nat}(ha:ai (rg al) a = .one (.ptr i off)) {cs:List XC}(hy:db (ai (rg al) y)=some cs) {vs:List XC} {e:TypeId} {opn:Bool}(hi:hs[i]? = some (.cells vs e opn false)) (hs1:s=cs.length) (hs2:off+s≤vs.length)
 {vs':List XC}(hv:vs.take off++cs++vs.drop (off+s)=vs') {hs':ak}(hh:hs.set i (.cells vs' e opn false)=hs') (hk:SK P ops nt L l al hs' fun bs=>K (⟨true,.none,[i]⟩::bs)):SK P ops nt L (o::l) al hs K:=by
 subst hh
 exact SK.Ca hd (fun _=>aJ.store hw ho ha hy (by rw [ht.out,hs1]) hi (by omega) (by rw [←hs1];exact hv)) hk
theorem J6 (hw:aw ops (rg al) o=some false) (hd:o.dst=some d) (hlt:Nat.blt d nt=true) (hk:SK P ops nt L l ((d,.tup [])::al) hs fun bs=>K (quiet::bs)):SK P ops nt L (o::l) al hs K:=
 SK.lift hd hlt (fun _=>aJ.skip hw) hk
theorem lp (hw:aw ops (rg al) o=some true) (hd:o.dst=some d) (hlt:Nat.blt d nt=true) {x:XV}(h:bj P (ai (rg al)) o.op=some x) (hk:SK P ops nt L l ((d,x)::al) hs fun bs=>K (quiet::bs)):SK P ops nt L (o::l) al hs K:=
 SK.lift hd hlt (fun _=>aJ.pure hw h) hk
theorem br (hc:ag L) (h:K [] al hs):SK P ops nt L [] al hs K:=SK.nil hc h
theorem XC.iU:∀ c:XC,c.au id=c:=by
 intro c
 induction c with
 | bind g c ih1 ih2=>simp only [XC.au,ih1,ih2]
 | _=>rfl
theorem X1.iU (x:X1):x.au id=x:=by
 cases x with
 | one c=>simp only [X1.au,XC.iU]
 | agg cs=>simp only [X1.au];rw [show(fun c:XC=>c.au id)=id from funext XC.iU,List.map_id]
theorem aj.iU (x:aj):x.au id=x:=by
 cases x with
 | dead=>rfl
 | cells vs e a b=>simp only [aj.au];rw [show(fun c:XC=>c.au id)=id from funext XC.iU,List.map_id]
 | map es=>simp only [aj.au,X1.iU];simp
theorem XV.iU (x:XV):x.au id=x:=by
 cases x with
 | undef=>rfl
 | one c=>simp only [XV.au,XC.iU]
 | agg cs=>simp only [XV.au];rw [show(fun c:XC=>c.au id)=id from funext XC.iU,List.map_id]
 | tup xs=>simp only [XV.au];rw [show(fun c:X1=>c.au id)=id from funext X1.iU,List.map_id]
section
variable {K:cR}
theorem WX.M5 {c:Operand} {x y:Code}(hc:ai (rg al) c = .one (.bool true)) (h:WX P nt nI (.code x) al hs K):WX P nt nI (.code (.cond c x y)) al hs K:=
 WX.cond hc (fun _=>h) (fun h=>by cases h)
theorem WX.M4 {c:Operand} {x y:Code}(hc:ai (rg al) c = .one (.bool false)) (h:WX P nt nI (.code y) al hs K):WX P nt nI (.code (.cond c x y)) al hs K:=
 WX.cond hc (fun h=>by cases h) (fun _=>h)
theorem B8 {fn:Func} {n:Nat} {e:XE} {v1 v:XV} {hs':ak}(τ : Nat→Nat) (he:e = .normal∨e = .ret) (hr:si P fn al hs v1) (hv:v1=v.au τ) (hok:v.cc hs'.length) (hview:View τ hs hs') (hid:∀ j,j<n → τ j=j):aH P fn n v hs' e al hs:=
 ⟨he,v1,τ,hr,hv,hok,hview,hid⟩
theorem lO {fn:Func} {e:XE} {v1 v:XV}(he:e = .normal∨e = .ret) (hr:si P fn al hs v1) (hv:v1=v) (hs':v.shut=true):aH P fn 0 v [] e al hs:=
 ⟨he,v1,id,hr,by rw [XV.dZ hs'];exact hv,XV.gX hs' _,ue _ _,fun _ h=>absurd h (Nat.not_lt_zero _)⟩
theorem b6 {fn:Func} {e:XE} {v1 v:XV} {hs0 junk:ak}(he:e = .normal∨e = .ret) (hr:si P fn al hs v1) (hv:v1=v) (hs':v.cc hs0.length) (hh:hs=hs0++junk) (hok:∀ o∈hs0,o.cc hs0.length) {n:Nat}:aH P fn n v hs0 e al hs:=by
 subst hh
 refine⟨he,v1,id,hr,by rw [XV.iU];exact hv,hs',⟨fun j hj=>by simp;omega,fun _ _ _ _ _ _ _ _ h=>h,fun j o h=>hok o (List.mem_of_getElem? h),fun j o h => .inr ?_⟩,fun _ _=>rfl⟩
 have hj:j<hs0.length:=(List.getElem?_eq_some_iff.1 h).1
 show(hs0++junk)[j]? = _
 rw [aj.iU,List.getElem?_append_left hj]
 exact h
end
end Go.Xm
namespace Go.Xm
variable [az]
variable {P:Program} {ops:Array Oper} {nt nI:Nat} {al:bn} {hs:ak} {o:Oper} {l:List Oper} {L:List aI} {K:List Ab→bn→ak→Prop} {d:Nat}
section
variable {α γ : Type} [DecidableEq α]
def kj (kc : α→X1) (vc : γ→X1) (M:List (α × γ)):List (X1 × X1):=M.map fun p=>(kc p.1,vc p.2)
def ik (k : α):List (α × γ)→Option (Nat × γ)
 | [] => .none
 | p::M=>if k=p.1 then some (0,p.2)else(ik k M).map fun q=>(q.1+1,q.2)
def cp (M:List (α × γ)) (k : α):Option γ:=(ik k M).map (·.2)
def nk (M:List (α × γ)) (k : α) (v : γ):List (α × γ):=match ik k M with
 | some (j,_)=>M.set j (k,v)
 | .none=>M++[(k,v)]
theorem DA (k : α):cp ([]:List (α × γ)) k = .none:=rfl
theorem mL (p : α × γ) (M:List (α × γ)) (k : α):cp (p::M) k=if k=p.1 then some p.2 else cp M k:=by
 by_cases h:k=p.1
 · simp [cp,ik,h]
 · simp [cp,ik,h,Function.comp_def]
theorem tx {k : α}:∀ {M:List (α × γ)} {j:Nat} {v : γ},ik k M=some (j,v)→M[j]? = some (k,v)
 | [],j,v,h=>by cases h
 | p :: M,j,v,h=>by
   unfold ik at h
   by_cases hk:k=p.1
   · rw [if_pos hk]at h
     cases h
     simp [hk]
   · rw [if_neg hk]at h
     obtain⟨q,h1,h2⟩:=Option.map_eq_some_iff.1 h
     cases h2
     simpa using tx (M:=M) (j:=q.1) (v:=q.2) h1
theorem rT {k : α}:∀ {M:List (α × γ)},ik k M = .none→∀ p∈M,p.1≠k
 | [],_,p,hp=>by cases hp
 | q :: M,h,p,hp=>by
   unfold ik at h
   by_cases hk:k=q.1
   · rw [if_pos hk]at h;cases h
   · rw [if_neg hk]at h
     rcases List.mem_cons.1 hp with rfl|hp
     · exact fun e=>hk e.symm
     · exact rT (by simpa using h) p hp
theorem lU (k : α) (v : γ) (k' : α):∀ {M:List (α × γ)},(∀ p∈M,p.1≠k)→cp (M++[(k,v)]) k'=if k'=k then some v else cp M k'
 | [],_=>by simp [mL,DA]
 | p::M,h=>by
   have ih:=lU k v k' (M:=M) fun q hq=>h q (List.mem_cons_of_mem _ hq)
   simp only [List.cons_append,mL,ih]
   have hp:=h p (List.mem_cons_self ..)
   by_cases h1:k'=p.1
   · rw [if_pos h1,if_neg (fun e=>hp (by rw [←h1,e])),if_pos h1]
   · rw [if_neg h1,if_neg h1]
theorem vv (k : α) (v : γ) (k' : α):∀ {M:List (α × γ)} {j:Nat} {u : γ},ik k M=some (j,u)→cp (M.set j (k,v)) k'=if k'=k then some v else cp M k'
 | [],j,u,h=>by cases h
 | p :: M,j,u,h=>by
   unfold ik at h
   by_cases hk:k=p.1
   · rw [if_pos hk]at h
     cases h
     simp only [List.set_cons_zero,mL]
     by_cases h1:k'=k
     · simp [h1]
     · simp only [show p.1=k from hk.symm,h1,if_false]
   · rw [if_neg hk]at h
     obtain⟨q,h1,h2⟩:=Option.map_eq_some_iff.1 h
     cases h2
     simp only [List.set_cons_succ,mL,vv k v k' (M:=M) (j:=q.1) (u:=q.2) h1]
     by_cases h1:k'=p.1
     · rw [if_pos h1,if_neg (fun e=>hk (by rw [←h1,e])),if_pos h1]
     · rw [if_neg h1,if_neg h1]
theorem fL (M:List (α × γ)) (k : α) (v : γ) (k' : α):cp (nk M k v) k'=if k'=k then some v else cp M k':=by
 unfold nk
 split
 · rename_i j u h;exact vv k v k' h
 · rename_i h;exact lU k v k' (rT h)
theorem yj (kc : α→X1) (vc : γ→X1) (M:List (α × γ)) (p : α × γ):kj kc vc (M++[p])=kj kc vc M++[(kc p.1,vc p.2)]:=by simp [kj]
theorem FC (kc : α→X1) (vc : γ→X1) (M:List (α × γ)) (j:Nat) (p : α × γ):kj kc vc (M.set j p)=(kj kc vc M).set j (kc p.1,vc p.2):=by simp [kj,List.map_set]
structure sP (P:Program) (kt:TypeId) (kc : α→X1):Prop where
 und:∃ ds,P.underlying kt=some ds
 eq:∀ a b,cB P 40 kt (kc a) (kc b)=some (decide (a=b))
 check:∀ a,iF P 40 kt (kc a)=true
 plain:∀ a,sI (kc a)=true
theorem pV {kt:TypeId} {kc : α→X1}(hk:sP P kt kc) (vc : γ→X1) (k : α):∀(M:List (α × γ)) (i:Nat),kK P kt (kc k) (kj kc vc M) i=some ((ik k M).map fun q=>(i+q.1,vc q.2))
 | [],i=>rfl
 | p :: M,i=>by
   have ih:=pV hk vc k M (i+1)
   show(match cB P 40 kt (kc k) (kc p.1)with
    | some true=>some (some (i,vc p.2))
    | some false=>kK P kt (kc k) (kj kc vc M) (i+1)
    | .none => .none)=_
   rw [hk.eq]
   unfold ik
   by_cases h:k=p.1
   · simp [h]
   · simp only [h,decide_false,ih,if_false,Option.map_map]
     congr 2
     funext q
     simp only [Function.comp]
     congr 1
     omega
theorem aJ.lookup {O:df}(hw:aw ops (rg al) o=some true) {t:TypeId} {x ix:Operand} {ok:Bool}(ho:o.op = .lookup t x ix ok) {kt et:TypeId}(hu:P.underlying t=some (.map kt et)) {i:Nat}(hx:ai (rg al) x = .one (.map i)) {key:X1}(hk:pS (ai (rg al) ix)=some key)
 {es:List (X1 × X1)}(hi:hs[i]? = some (.map es)) {v:XV}(hv:m5 P kt et key ok es=some v):aJ O P ops al hs o v hs ⟨false,some i,[]⟩:=by
 intro m hm
 refine⟨m,?_,hm,fun _ _=>rfl⟩
 unfold jS
 rw [hw]
 obtain⟨f,hf1,hf2⟩:∃ f,fG P (ai (rg al)) o.op=some (i,f)∧∀ es',f (.map es')=m5 P kt et key ok es':=by
  rw [ho]
  simp only [fG,hu,hx,hk]
  exact⟨_,rfl,fun _=>rfl⟩
 refine ry (by rw [ho];rfl) (by rw [ho];rfl) hf1 ?_
 rw [hm.at hi,hf2,hv]
theorem Bt {kt et:TypeId} {kc : α→X1}(hk:sP P kt kc) {vc : γ→X1} {z : γ}(hz:oq P et=some (vc z)) (k : α) (M:List (α × γ)) :
 m5 P kt et (kc k) true (kj kc vc M)=some (.tup [vc ((cp M k).getD z),.one (.bool (cp M k).isSome)]):=by
 obtain⟨ds,hu⟩:=hk.und
 unfold m5
 rw [if_pos (hk.check k),hu,pV hk]
 unfold cp
 cases h:ik k M with
 | none=>simp [hz]
 | some q=>simp
theorem Cx {t:TypeId} {x ix:Operand}(ho:o.op = .lookup t x ix true) {kt et:TypeId} [hu:bh P t (.map kt et)] (hw:aw ops (rg al) o=some true) (hd:o.dst=some d) (hlt:Nat.blt d nt=true) {kc : α→X1}(hko:sP P kt kc) {vc : γ→X1} {z : γ}(hz:oq P et=some (vc z)) {i:Nat}(hx:ai (rg al) x = .one (.map i)) {k : α}(hk:pS (ai (rg al) ix)=some (kc k))
 {M:List (α × γ)}(hi:hs[i]? = some (.map (kj kc vc M))) (hn:SK P ops nt L l ((d,.tup [vc ((cp M k).getD z),.one (.bool (cp M k).isSome)])::al) hs fun bs=>K (⟨false,some i,[]⟩::bs)):SK P ops nt L (o::l) al hs K:=
 SK.lift hd hlt (fun _=>aJ.lookup hw ho hu.out hx hk hi (Bt hko hz k M)) hn
theorem aJ.Ns {O:df}(hw:aw ops (rg al) o=some true) {t:TypeId} {x ix y:Operand}(ho:o.op = .mapUpdate t x ix y) {kt et:TypeId}(hu:P.underlying t=some (.map kt et)) {kc : α→X1}(hko:sP P kt kc) {vc : γ→X1} {i:Nat}(hx:ai (rg al) x = .one (.map i)) {k : α}(hk:pS (ai (rg al) ix)=some (kc k)) {v : γ}(hv:pS (ai (rg al) y)=some (vc v))
 {M:List (α × γ)}(hi:hs[i]? = some (.map (kj kc vc M))):aJ O P ops al hs o (.tup []) (hs.set i (.map (kj kc vc (nk M k v)))) ⟨true,.none,[i]⟩:=by
 intro m hm
 refine⟨m.put i (.map (kj kc vc (nk M k v))),?_,hm.put hi _,sD⟩
 unfold jS
 rw [hw]
 refine cQ (by rw [ho];rfl) (by rw [ho];rfl) (by rw [ho];rfl) ?_
 rw [ho]
 obtain⟨ds,hd⟩:=hko.und
 simp only [cw,iw,hu,hx,hk,hv,hm.at hi,hko.check k,if_true,hd,pV hko]
 unfold nk
 cases hl:ik k M with
 | none=>simp [yj]
 | some q=>
   have hg:=tx (j:=q.1) (v:=q.2) hl
   have e:(kj kc vc M)[q.1]? = some (kc k,vc q.2):=by simp [kj,hg]
   simp only [Option.map_some,Nat.zero_add,e,hko.plain k,and_self,if_true,FC]
theorem zg {t:TypeId} {x ix y:Operand}(ho:o.op = .mapUpdate t x ix y) {kt et:TypeId} [hu:bh P t (.map kt et)] (hw:aw ops (rg al) o=some true) (hd:o.dst = .none) {kc : α→X1}(hko:sP P kt kc) {vc : γ→X1} {i:Nat}(hx:ai (rg al) x = .one (.map i)) {k : α}(hk:pS (ai (rg al) ix)=some (kc k)) {v : γ}(hv:pS (ai (rg al) y)=some (vc v))
 {M:List (α × γ)}(hi:hs[i]? = some (.map (kj kc vc M))) {hs':ak}(hh:hs.set i (.map (kj kc vc (nk M k v)))=hs') (hn:SK P ops nt L l al hs' fun bs=>K (⟨true,.none,[i]⟩::bs)):SK P ops nt L (o::l) al hs K:=by
 subst hh
 exact SK.Ca hd (fun _=>aJ.Ns hw ho hu.out hko hx hk hv hi) hn
end
theorem aJ.makeMap {O:df}(hw:aw ops (rg al) o=some true) {t:TypeId}(ho:o.op = .makeMap t .none) (hb:Nat.blt hs.length Mem.bound=true):aJ O P ops al hs o (.one (.map hs.length)) (hs++[.map []]) ⟨true,.none,[hs.length]⟩:=by
 intro m hm
 obtain⟨m',h1,h2,h3⟩:=hm.push (.map []) (by simpa [Nat.blt_eq]using hb)
 refine⟨m',?_,h2,h3⟩
 unfold jS
 rw [hw]
 refine cQ (by rw [ho];rfl) (by rw [ho];rfl) (by rw [ho];rfl) ?_
 rw [ho]
 simp only [cw,mg,h1,hm.n]
theorem A7 {t:TypeId}(ho:o.op = .makeMap t .none) (hw:aw ops (rg al) o=some true) (hd:o.dst=some d) (hlt:Nat.blt d nt=true) {n:Nat}(hn:hs.length=n) (hb:Nat.blt n Mem.bound=true) {hs':ak}(hh:hs++[.map []]=hs')
 (hk:SK P ops nt L l ((d,.one (.map n))::al) hs' fun bs=>K (⟨true,.none,[n]⟩::bs)):SK P ops nt L (o::l) al hs K:=by
 subst hn hh
 exact SK.lift hd hlt (fun _=>aJ.makeMap hw ho hb) hk
theorem Ls {kt:TypeId} {k:IntKind} [hu:bh P kt (.int k)]:sP P kt (fun z:Int => .one (.int k z)):=by
 refine⟨⟨_,hu.out⟩,fun a b=>?_,fun a=>?_,fun a=>rfl⟩
 · simp only [cB,hu.out,uW,if_true]
   congr 1
 · simp only [iF,hu.out]
def jC:List (Nat × XV)→Option (List XC)
 | []=>some []
 | p::r=>match db p.2,jC r with
   | some cs,some ds=>some (cs++ds)
   | _,_ => .none
def nR (place:Nat→Option (Nat × Nat)) (total:Nat):Nat→List (Nat × XV)→Bool
 | off,[]=>off == total
 | off,p::r=>match place p.1,db p.2 with
   | some (a,s),some cs=>a == off && s == cs.length && nR place total (off+s) r
   | _,_=>false
theorem rE {place:Nat→Option (Nat × Nat)}:∀(parts:List (Nat × XV)) (zs:List XC) (off:Nat) (out:List XC),nR place zs.length off parts=true→jC parts=some out→iG place zs parts=some (zs.take off++out)
 | [],zs,off,out,h,hc=>by
   simp only [nR,beq_iff_eq]at h
   simp only [jC,Option.some.injEq]at hc
   subst hc
   simp [iG,h]
 | p :: r, zs,off,out,h,hc=>by
   obtain⟨i,v⟩:=p
   unfold nR at h
   simp only at h
   split at h
   · rename_i a s cs h1 h2
     simp only [Bool.and_eq_true,beq_iff_eq]at h
     obtain⟨⟨rfl,rfl⟩,h3⟩:=h
     unfold jC at hc
     simp only [h2]at hc
     split at hc
     · rename_i cs' ds hcs hr
       cases hcs
       cases hc
       have hle:∀(r:List (Nat × XV)) (off:Nat),nR place zs.length off r=true→off≤zs.length:=by
        intro r
        induction r with
        | nil=>intro off h;simp only [nR,beq_iff_eq]at h;omega
        | cons q r ih=>
          intro off h
          unfold nR at h
          split at h
          · simp only [Bool.and_eq_true]at h
            have:=ih _ h.2
            omega
          · cases h
       have hl:=hle r _ h3
       unfold iG
       simp only [h1,h2]
       rw [if_pos ⟨trivial,hl⟩]
       have hlen:(zs.take a++cs++zs.drop (a+cs.length)).length=zs.length:=by simp;omega
       rw [rE r _ (a+cs.length) ds (by rw [hlen];exact h3) hr]
       have e:(zs.take a++cs++zs.drop (a+cs.length)).take (a+cs.length)=zs.take a++cs:=by
        rw [List.take_append_of_le_length (by simp;omega),List.take_of_length_le (by simp;omega)]
       rw [e,List.append_assoc]
     · cases hc
   · cases h
theorem DX {t:TypeId} {parts:Array (Nat × Operand)}(ho:o.op = .build t parts) {zs:List XC} [hz:bC P t zs] {n:Nat} {e:TypeId} [hu:bh P t (.array n e)] {s:Nat} [hs':aU P e s] (hw:aw ops (rg al) o=some true) (hd:o.dst=some d) (hlt:Nat.blt d nt=true)
 (hr:nR (fun i=>some (i*s,s)) zs.length 0 (parts.toList.map fun p=>(p.1,ai (rg al) p.2))=true) {out:List XC}(hc:jC (parts.toList.map fun p=>(p.1,ai (rg al) p.2))=some out) {out':List XC}(hn:out=out')
 (hk:SK P ops nt L l ((d,.agg out')::al) hs fun bs=>K (quiet::bs)):SK P ops nt L (o::l) al hs K:=by
 subst hn
 exact SK.lift hd hlt (fun _=>aJ.pure hw (by rw [ho];simp only [bj,oh,hz.out,hu.out,hs'.out,rE _ zs 0 out hr hc,Option.map_some,List.take_zero,List.nil_append])) hk
theorem DZ {t:TypeId} {parts:Array (Nat × Operand)}(ho:o.op = .build t parts) {zs:List XC} [hz:bC P t zs] {pl:List (Nat × Nat)} [hp:dP P t pl] (hw:aw ops (rg al) o=some true) (hd:o.dst=some d) (hlt:Nat.blt d nt=true)
 (hr:nR (fun i=>pl[i]?) zs.length 0 (parts.toList.map fun p=>(p.1,ai (rg al) p.2))=true) {out:List XC}(hc:jC (parts.toList.map fun p=>(p.1,ai (rg al) p.2))=some out) {out':List XC}(hn:out=out')
 (hk:SK P ops nt L l ((d,.agg out')::al) hs fun bs=>K (quiet::bs)):SK P ops nt L (o::l) al hs K:=by
 subst hn
 obtain⟨fs,h1,h2⟩:=hp.out
 exact SK.lift hd hlt (fun _=>aJ.pure hw (by rw [ho];simp only [bj,oh,hz.out,h1,h2,rE _ zs 0 out hr hc,Option.map_some,List.take_zero,List.nil_append])) hk
theorem DW {t:TypeId}(ho:o.op = .build t #[]) {zs:List XC} [hz:bC P t zs] {pl:List (Nat × Nat)} [hp:dP P t pl] (hw:aw ops (rg al) o=some true) (hd:o.dst=some d) (hlt:Nat.blt d nt=true)
 (hk:SK P ops nt L l ((d,.agg zs)::al) hs fun bs=>K (quiet::bs)):SK P ops nt L (o::l) al hs K:=by
 obtain⟨fs,h1,h2⟩:=hp.out
 exact SK.lift hd hlt (fun _=>aJ.pure hw (by rw [ho];simp only [bj,oh,hz.out,h1,h2,List.map_nil,iG,Option.map_some])) hk
theorem A5 {t:TypeId}(ho:o.op = .build t #[]) {zs:List XC} [hz:bC P t zs] {n:Nat} {e:TypeId} [hu:bh P t (.array n e)] {s:Nat} [hs':aU P e s] (hw:aw ops (rg al) o=some true) (hd:o.dst=some d) (hlt:Nat.blt d nt=true)
 (hk:SK P ops nt L l ((d,.agg zs)::al) hs fun bs=>K (quiet::bs)):SK P ops nt L (o::l) al hs K:=
 SK.lift hd hlt (fun _=>aJ.pure hw (by rw [ho];simp only [bj,oh,hz.out,hu.out,hs'.out,List.map_nil,iG,Option.map_some])) hk
def qW (f g:Nat→Int):Nat→Nat→Bool
 | _,0=>true
 | i,m+1=>f i == g i && qW f g (i+1) m
theorem ta (f g:Nat→Int):∀(m i:Nat),qW f g i m=true↔∀ j,i≤j→j<i+m→f j=g j
 | 0,i=>⟨fun _ j h1 h2=>by omega,fun _=>rfl⟩
 | m + 1,i=>by
   unfold qW
   rw [Bool.and_eq_true,ta f g m (i+1),beq_iff_eq]
   constructor
   · rintro ⟨h0,h⟩ j h1 h2
     by_cases hj:j=i
     · rw [hj];exact h0
     · exact h j (by omega) (by omega)
   · exact fun h=>⟨h i (Nat.le_refl _) (by omega),fun j h1 h2=>h j (by omega) (by omega)⟩
theorem sa {e:TypeId} {k:IntKind} [hv:bh P e (.int k)] [dJ P e] (n:Nat) (f g:Nat→Int) (dd:Nat):∀(m i:Nat),i+m=n→iZ P (cB P (dd+1)) e 1 (ti k n f) (ti k n g) i m=some (qW f g i m)
 | 0,i,h=>rfl
 | m + 1,i,h=>by
   have ih:=sa (e:=e) (k:=k) n f g dd m (i+1) (by omega)
   have e1:∀ f:Nat→Int,i4 P e (ti k n f) (i*1)=some (.one (.int k (f i))):=fun f=>by
    simp only [i4,dJ.out (P:=P) (t:=e),Nat.mul_one,gP (show i<n by omega)]
   have e2:∀ a b:Int,cB P (dd+1) e (.one (.int k a)) (.one (.int k b))=some (a == b):=fun a b=>by
    simp only [cB,hv.out,uW,if_true]
   unfold iZ qW
   rw [e1,e1]
   simp only [e2]
   cases hf:f i == g i with
   | true=>simp only [ih,Bool.true_and]
   | false=>rfl
inductive gL (P:Program) (al:bn) (hs:ak):List ResultVar→List X1→Prop where
 | nil:gL P al hs [] []
 | tmp {t:Nat} {x:X1} {l:List ResultVar} {xs:List X1}:pS (rg al t)=some x→gL P al hs l xs→gL P al hs (.tmp t::l) (x::xs)
 | cell {a i off:Nat} {t:TypeId} {vs:List XC} {e:TypeId} {opn ro:Bool} {x:X1} {l:List ResultVar} {xs:List X1}:rg al a = .one (.ptr i off)→hs[i]? = some (.cells vs e opn ro)→eR P t vs off=some x→gL P al hs l xs→gL P al hs (.cell a t::l) (x::xs)
theorem gL.run {l:List ResultVar} {xs:List X1}(h:gL P al hs l xs) {m:Mem}(hm:bG m hs):gu P (rg al) m l=some xs:=by
 induction h with
 | nil=>rfl
 | tmp h1 _ ih=>simp only [gu,uv,h1,ih]
 | cell h1 h2 h3 _ ih=>simp only [gu,uv,h1,hm.at h2,h3,ih]
theorem gL.one {fn:Func} {l:List ResultVar} {x:X1}(hl:fn.results.toList=l) (h:gL P al hs l [x]):si P fn al hs x.rr:=fun m hm=>by
 unfold dD;rw [hl,h.run hm]
theorem gL.two {fn:Func} {l:List ResultVar} {x y:X1} {r:List X1}(hl:fn.results.toList=l) (h:gL P al hs l (x::y::r)):si P fn al hs (.tup (x::y::r)):=fun m hm=>by
 unfold dD;rw [hl,h.run hm]
theorem gL.zero {fn:Func} {l:List ResultVar}(hl:fn.results.toList=l) (h:gL P al hs l []):si P fn al hs (.tup []):=fun m hm=>by
 unfold dD;rw [hl,h.run hm]
theorem cf {t:TypeId} {s:Nat} [ht:eJ P t] [hs':aU P t s] {vs:List XC}(h:s=vs.length):eR P t vs 0=some (.agg vs):=yL ht.out (by rw [hs'.out,h])
theorem OT {HS:ak} {o:aj}(i:Nat) (h:HS[i]? = some (o.au fun _=>i)) (ho:o.cc 1):View (fun _=>i) HS [o]:=by
 have hl:i<HS.length:=(List.getElem?_eq_some_iff.1 h).1
 refine⟨fun _ _=>hl,fun a b _ _ ha hb _ _ _=>?_,fun j o' hj=>?_,fun j o' hj=>?_⟩
 · have ha:=(List.getElem?_eq_some_iff.1 ha).1
   have hb:=(List.getElem?_eq_some_iff.1 hb).1
   simp only [List.length_cons,List.length_nil]at ha hb;omega
 · have:o'∈[o]:=List.mem_of_getElem? hj
   simp only [List.mem_singleton]at this
   subst this;exact ho
 · have:o'∈[o]:=List.mem_of_getElem? hj
   simp only [List.mem_singleton]at this
   subst this;exact .inr h
def nth (l:List Nat) (j:Nat):Nat:=l.getD j 0
theorem KV {HS hs:ak}(l:List Nat) (hlen:hs.length=l.length) (hd:l.Nodup) (hok:∀ o∈hs,o.cc hs.length) (h:∀(j:Nat) (o:aj),hs[j]? = some o→HS[nth l j]? = some (o.au (nth l))):View (nth l) HS hs:=by
 refine⟨fun j hj=>?_,fun a b _ _ ha hb _ _ hab=>?_,fun j o hj=>hok o (List.mem_of_getElem? hj),fun j o hj => .inr (h j o hj)⟩
 · have:=h j _ (List.getElem?_eq_getElem hj)
   exact(List.getElem?_eq_some_iff.1 this).1
 · have ha:=(List.getElem?_eq_some_iff.1 ha).1
   have hb:=(List.getElem?_eq_some_iff.1 hb).1
   unfold nth at hab
   have ha':a<l.length:=by omega
   have hb':b<l.length:=by omega
   rw [List.getD_eq_getElem?_getD,List.getD_eq_getElem?_getD,List.getElem?_eq_getElem ha',List.getElem?_eq_getElem hb']at hab
   exact(List.getElem_inj hd).1 hab
end Go.Xm
namespace Go.Xm
open Go.RowKit (Below)
variable [az]
variable {P:Program} {ops:Array Oper} {nt nI:Nat} {al:bn} {hs:ak} {o:Oper} {l:List Oper} {L:List aI} {K:List Ab→bn→ak→Prop} {d:Nat}
def IE (c:XC) (i n:Nat):Prop:=(c = .nils∧n=0)∨∃ cap,c = .slice i 0 n (.exact cap)
theorem NX {t t' e:TypeId} {a b:Operand} {n:Nat} {k:IntKind}(ho:o.op = .binOp .eql t a b t') [hu:bh P t (.array n e)] [hv:bh P e (.int k)] [hs':aU P e 1] [hsc:dJ P e] (hg:P.eqGuardType P.depth t=false) (hw:aw ops (rg al) o=some true) (hd:o.dst=some d) (hlt:Nat.blt d nt=true) {f g:Nat→Int}(ha:ai (rg al) a = .agg (ti k n f)) (hb:ai (rg al) b = .agg (ti k n g)) (he:∀ j,j<n→f j=g j)
 (h1:SK P ops nt L l ((d,.one (.bool true))::al) hs fun bs=>K (quiet::bs)):SK P ops nt L (o::l) al hs K:=by
 have hx:cB P 40 t (.agg (ti k n f)) (.agg (ti k n g))=some (qW f g 0 n):=by
  unfold cB
  simp only [hu.out,hs'.out]
  exact sa n f g 38 n 0 (by omega)
 have hi:=ta f g n 0
 exact SK.lift hd hlt (fun _=>aJ.pure hw (by
  rw [ho]
  simp only [bj,ha,hb,rz,rC,hg,Bool.false_eq_true,if_false,hx,Option.map_some,hi.2 fun j _ hj=>he j (by omega)])) h1
theorem B3 {α : Type}(f : α→List XC) (s:Nat):∀(l:List α),(∀ a∈l,(f a).length=s)→∀(i:Nat) (a : α),l[i]? = some a→i*s+s≤(l.flatMap f).length∧((l.flatMap f).drop (i*s)).take s=f a
 | [],_,i,a,h=>by simp at h
 | x::l,hl,0,a,h=>by
   simp at h;subst h
   have:=hl x (List.mem_cons_self ..)
   simp only [List.flatMap_cons,List.length_append,Nat.zero_mul,List.drop_zero]
   exact⟨by omega,by rw [←this,List.take_left'];rfl⟩
 | x::l,hl,i+1,a,h=>by
   have hx:=hl x (List.mem_cons_self ..)
   obtain⟨h1,h2⟩:=B3 f s l (fun b hb=>hl b (List.mem_cons_of_mem _ hb)) i a (by simpa using h)
   simp only [List.flatMap_cons,List.length_append,Nat.add_mul,Nat.one_mul]
   refine⟨by omega,?_⟩
   rw [show i*s+s=(f x).length+i*s by omega,←List.drop_drop,List.drop_left]
   exact h2
theorem LJ {al:bn} {n:Nat}(h:∀ p∈al,p.2.cc n) (t:Nat):(rg al t).cc n:=by
 induction al with
 | nil=>trivial
 | cons p al ih=>
   obtain⟨d,v⟩:=p
   unfold rg
   split
   · exact h _ (List.mem_cons_self ..)
   · exact ih fun q hq=>h q (List.mem_cons_of_mem _ hq)
theorem WX.drop {c:uY} {al al2:bn} {hs hs2 junk:ak} {K:cR}(hl:uH al2 al) (hh:hs=hs2++junk) (hle:nI≤hs2.length) (hb:Nat.blt hs2.length Mem.bound=true) (hok:∀ o∈hs2,o.cc hs2.length) (hr:∀ p∈al2,p.2.cc hs2.length)
 (h:WX P nt nI c al2 hs2 K):WX P nt nI c al hs K:=by
 subst hh
 refine WX.view id ⟨fun j hj=>by simp;omega,fun _ _ _ _ _ _ _ _ h=>h,fun j o h=>hok o (List.mem_of_getElem? h),fun j o h => .inr ?_⟩ (fun _ _=>rfl) hle hb (LJ hr) (fun t=>?_) h
 · have hj:j<hs2.length:=(List.getElem?_eq_some_iff.1 h).1
   show(hs2++junk)[j]? = _
   rw [aj.iU,List.getElem?_append_left hj]
   exact h
 · rcases hl t with e|e
   · exact .inl e
   · exact .inr (by rw [XV.iU,e])
section
variable {K:cR}
end
theorem kd {f:FuncId} {args:List XV} {v:XV}(h:OG P f args v):bt P f args [] v []:=
 fun m hm β w vs hall hw=>(h m β w vs hall hw).mono fun e w' ⟨u,β',he,hu,hst⟩=>⟨u,β',m,he,hm,hu,hst⟩
def pG (m:Mem):ak:=(List.range m.n).map m.get
theorem As {O:df}(hO:aN P O) (hP:P.follows .mixedOrders=true) {F k:Nat} {f:FuncId} {args:List XV} {v:XV} {hs':ak}(h:((ot O P F k).call f args Mem.empty).map (fun p=>(p.1,pG p.2))=some (v,hs')):bt P f args [] v hs':=by
 obtain⟨⟨v1,m1⟩,h1,h2⟩:=Option.map_eq_some_iff.1 h
 simp only [Prod.mk.injEq]at h2
 obtain⟨rfl,rfl⟩:=h2
 have hs:=sf hO hP F k
 have hc:=hs.call _ _ _ _ _ h1
 have hg:=hs.Iw _ _ _ _ _ h1
 intro m hm β w vs hall hw
 have hn:m.n=0:=hm.n
 have hfr:Mem.empty.b_:=fun i _=>by
  show(T.get EW.none .leaf i).ver=0
  rw [T.eZ];rfl
 have hr:Rel β Mem.empty w:=⟨Nat.zero_le _,hfr,fun i hi=>absurd hi (Nat.not_lt_zero _),fun i j hi=>absurd hi (Nat.not_lt_zero _)⟩
 have ni:∀ m0:Mem,m0.n=0→∀ k,¬Iu β m0 k:=fun m0 h0 k ⟨i,hi,_⟩=>by omega
 refine(hc β w vs (by rw [hn]at hall;exact hall) hr).mono fun e w' ⟨u,β',he,hu,hst⟩=>⟨u,β',m1,he,?_,hu,?_⟩
 · exact⟨by simp [pG],hst.rel.bnd,(hg.mono hfr).2,fun i hi=>by
    show _=(pG m1).getD i .dead
    simp [pG,List.getD_eq_getElem?_getD,hi]⟩
 · exact⟨by omega,by rw [hn];exact hst.ext,hst.rel,hst.os,hst.tape,hst.output,hst.size,fun k hk _=>hst.frame k hk (ni _ rfl k),fun k hk hi=>absurd (hst.rR k hk hi) (ni _ rfl k)⟩
theorem DN {β : Env} {n:Nat} {W:World} {b lo:Nat} {vs:List XC}(hne:0<vs.length) (h:∀(j:Nat) (c:XC),vs[j]? = some c→W.cell? ⟨b,lo+j,none⟩=some (c.den β)) (hok:∀ c∈vs,c.ok n) :
 ∃ e sz,f3 β n lo sz (.cells vs e true true) W.heap[b]?:=by
 have hc:∀ j,j<vs.length→∃ cs e fr,W.heap[b]? = some (.cells cs e fr)∧cs[lo+j]? = some ((vs.getD j .nili).den β):=fun j hj=>by
  have h1:=h j vs[j] (List.getElem?_eq_getElem hj)
  have e1:vs.getD j .nili=vs[j]:=by simp [List.getD_eq_getElem?_getD,hj]
  unfold World.cell? at h1
  split at h1
  · rename_i cs e fr hg
    exact⟨cs,e,fr,hg,by rw [e1];simpa using h1⟩
  · cases h1
 obtain⟨cs,e,fr,hg,h0⟩:=hc 0 hne
 have hall:∀ j,j<vs.length→cs[lo+j]? = some ((vs.getD j .nili).den β):=fun j hj=>by
  obtain⟨cs',e',fr',hg',h1⟩:=hc j hj
  rw [hg]at hg'
  cases hg'
  exact h1
 have hl0:lo+0<cs.size:=(Array.getElem?_eq_some_iff.1 h0).1
 have hll:lo+(vs.length-1)<cs.size:=(Array.getElem?_eq_some_iff.1 (hall (vs.length-1) (by omega))).1
 refine⟨e,cs.size-lo,cs,fr,hg,by omega,by simp only [if_true];omega,fun h=>(by cases h),hok,?_⟩
 apply List.ext_getElem?
 intro j
 rw [List.getElem?_take,List.getElem?_drop,List.getElem?_map]
 by_cases hj:j<vs.length
 · rw [if_pos hj,Array.getElem?_toList,hall j hj,List.getElem?_eq_getElem hj]
   simp [List.getD_eq_getElem?_getD,hj]
 · rw [if_neg hj,List.getElem?_eq_none (by omega)]
   rfl
theorem G4 {β : Env} {W:World} {hs:ak}(hb:hs.length<Mem.bound) (h:∀(i:Nat) (o:aj),hs[i]? = some o→f3 β hs.length (β.base i) (β.size i) o W.heap[β.c6 i]?) (hown:∀ o∈hs,o.own=false):Rel β (lT hs) W:=by
 have hm:=iA hs hb
 have hn:=hm.n
 refine⟨hm.bnd,hm.fresh,fun i hi=>?_,fun i j hi hj hoi _ _=>?_⟩
 · rw [hn]
   exact h i _ (hm.get? hi)
 · have:=hown _ (List.mem_of_getElem? (hm.get? hi))
   rw [this]at hoi;cases hoi
theorem Ft {f:FuncId} {args:List XV} {hs hs':ak}(hc:bt P f args hs (.one (.bool true)) hs') {β : Env} {W:World}(hb:hs.length<Mem.bound) (h:∀(i:Nat) (o:aj),hs[i]? = some o→f3 β hs.length (β.base i) (β.size i) o W.heap[β.c6 i]?) (hown:∀ o∈hs,o.own=false)
 {vs:List Value}(hv:cz (aS β hs.length) args vs):Calls P f vs.toArray W fun e w'=>e = .returned (.bool true)∧Below W.heap.size W w':=by
 have hm:=iA hs hb
 have hn:=hm.n
 refine(hc _ hm β W vs (by rw [hn];exact hv) (G4 hb h hown)).mono fun e w' ⟨u,β',m',he,_,hu,hst⟩=>?_
 refine⟨?_,hst.os,hst.tape,hst.output,hst.size,fun k hk=>hst.frame k hk fun⟨i,hi,ho,_⟩=>?_⟩
 · rw [he,hu.2];rfl
 · have:=hown _ (List.mem_of_getElem? (hm.get? hi))
   rw [this]at ho;cases ho
end Go.Xm
namespace Go.Xm
variable [az]
variable {P:Program} {ops:Array Oper} {nt nI:Nat} {al:bn} {hs:ak} {o:Oper} {l:List Oper} {L:List aI} {K:List Ab→bn→ak→Prop} {d:Nat}
def il (k:IntKind) (l:List Int):List XC:=l.map (.int k)
theorem e8 (k:IntKind) (l:List Int):(il k l).length=l.length:=by simp [il]
theorem FZ {k:IntKind} {l:List Int} {j:Nat}(h:j<l.length):(il k l)[j]? = some (.int k (l.getD j 0)):=by
 simp [il,h,List.getD_eq_getElem?_getD]
theorem F0 (k:IntKind) (l:List Int) (j:Nat) (x:Int):(il k l).set j (.int k x)=il k (l.set j x):=by simp [il,List.map_set]
theorem vj (k:IntKind) (l m:List Int):il k l++il k m=il k (l++m):=by simp [il]
theorem Lp (k:IntKind) (l:List Int) (τ : Nat→Nat):(il k l).map (·.au τ)=il k l:=by simp [il,XC.au]
theorem Nk (k:IntKind) (l:List Int) (n:Nat):∀ c∈il k l,c.ok n:=by
 intro c hc
 obtain⟨x,_,rfl⟩:=List.mem_map.1 hc
 trivial
class dc (o:aj):Prop where
 au:∀ τ,o.au τ = o
 ok:∀ n,o.cc n
class bB (v:XV):Prop where
 au:∀ τ,v.au τ = v
 ok:∀ n,v.cc n
instance:dc .dead:=⟨fun _=>rfl,fun _=>trivial⟩
instance {k:IntKind} {l:List Int} {e:TypeId} {a b:Bool}:dc (.cells (il k l) e a b):=⟨fun τ=>by simp only [aj.au,Lp],fun n=>Nk k l n⟩
instance {k:IntKind} {n:Nat} {f:Nat→Int} {e:TypeId} {a b:Bool}:dc (.cells (ti k n f) e a b):=⟨fun τ=>by simp [aj.au,ti,XC.au],fun n c hc=>by
 obtain⟨x,_,rfl⟩:=List.mem_map.1 hc
 trivial⟩
instance {k:IntKind} {z:Int}:bB (.one (.int k z)):=⟨fun _=>rfl,fun _=>trivial⟩
instance {b:Bool}:bB (.one (.bool b)):=⟨fun _=>rfl,fun _=>trivial⟩
instance {k:IntKind} {n:Nat} {f:Nat→Int}:bB (.agg (ti k n f)):=⟨fun τ=>by simp [XV.au,ti,XC.au],fun n c hc=>by
 obtain⟨x,_,rfl⟩:=List.mem_map.1 hc
 trivial⟩
theorem gW {vs:List XC} {e:TypeId} {a b:Bool}(h:vs.all XC.shut=true):dc (.cells vs e a b):=
 ⟨fun τ=>by simp only [aj.au,eV h],fun n c hc=>XC.bV (List.all_eq_true.1 h c hc) n⟩
theorem eY {v:XV}(h:v.shut=true):bB v:=⟨fun τ=>XV.dZ h τ,fun n=>XV.gX h n⟩
def kC (k n sz:Nat):XC:=if n=0 then .nils else .slice k 0 n (.toEnd sz)
def iK (k n sz:Nat):XV := .one (kC k n sz)
def cK (e:TypeId) (cs:List XC):aj:=match cs with
 | [] => .dead
 | c::r => .cells (c::r) e true false
theorem aq (k n sz:Nat) (τ : Nat→Nat):(kC k n sz).au τ = kC (τ k) n sz:=by unfold kC;split <;> rfl
theorem d_ (k n sz:Nat) (τ : Nat→Nat):(iK k n sz).au τ = iK (τ k) n sz:=congrArg XV.one (aq k n sz τ)
theorem bp {k n sz m:Nat}(h:k<m):(kC k n sz).ok m:=by
 unfold kC
 split
 · exact trivial
 · exact h
theorem gO {k n sz m:Nat}(h:k<m):(iK k n sz).cc m:=bp h
theorem Pp {a:X1} {n:Nat}(h:a.ok n):(XV.tup [a]).cc n:=fun x hx=>by
 simp only [List.mem_cons,List.not_mem_nil,or_false]at hx
 subst hx;exact h
theorem Gx {a b:X1} {n:Nat}(h:a.ok n) (h':b.ok n):(XV.tup [a,b]).cc n:=fun x hx=>by
 simp only [List.mem_cons,List.not_mem_nil,or_false]at hx
 rcases hx with rfl|rfl
 · exact h
 · exact h'
theorem js {e:TypeId} {cs:List XC}(h:cs≠[]):cK e cs = .cells cs e true false:=by
 cases cs with
 | nil=>exact absurd rfl h
 | cons c r=>rfl
theorem oL {k n sz:Nat}(h:n≠0):iK k n sz = .one (.slice k 0 n (.toEnd sz)):=congrArg XV.one (if_neg h)
theorem zh {e:TypeId} {cs:List XC}(h:cs.all XC.shut=true):dc (cK e cs):=by
 cases cs with
 | nil=>exact⟨fun _=>rfl,fun _=>trivial⟩
 | cons c r=>exact gW h
theorem Jh (k:IntKind) (l:List Int):(il k l).all XC.shut=true:=by
 rw [List.all_eq_true]
 intro c hc
 obtain⟨x,_,rfl⟩:=List.mem_map.1 hc
 rfl
instance {e:TypeId} {k:IntKind} {l:List Int}:dc (cK e (il k l)):=zh (Jh k l)
inductive gK:List Nat→ak→List Nat→Prop where
 | nil:gK [] [] []
 | dead {i:Nat} {l q:List Nat} {hs:ak}:gK l hs q→gK (i::l) (.dead::hs) q
 | cons {i:Nat} {o:aj} {l q:List Nat} {hs:ak}:gK l hs q→gK (i::l) (o::hs) (i::q)
theorem gK.mem {l q:List Nat} {hs:ak}(h:gK l hs q):∀(i:Nat) (o:aj),hs[i]? = some o→o ≠ .dead→nth l i∈q:=by
 induction h with
 | nil=>intro i o h;simp at h
 | dead _ ih=>
   intro i o h ho
   cases i with
   | zero=>simp at h;exact absurd h.symm ho
   | succ i=>exact ih i o (by simpa using h) ho
 | cons _ ih=>
   intro i o h ho
   cases i with
   | zero=>exact List.mem_cons_self ..
   | succ i=>exact List.mem_cons_of_mem _ (ih i o (by simpa using h) ho)
theorem gK.inj {l q:List Nat} {hs:ak}(h:gK l hs q) (nd:q.Nodup):∀(i j:Nat) (a b:aj),hs[i]? = some a→hs[j]? = some b→a ≠ .dead→b ≠ .dead→nth l i=nth l j→i=j:=by
 induction h with
 | nil=>intro i j a b h;simp at h
 | dead _ ih=>
   intro i j a b hi hj ha hb he
   cases i with
   | zero=>simp at hi;exact absurd hi.symm ha
   | succ i=>
     cases j with
     | zero=>simp at hj;exact absurd hj.symm hb
     | succ j=>rw [ih nd i j a b (by simpa using hi) (by simpa using hj) ha hb he]
 | @cons k o l q hs hl ih=>
   intro i j a b hi hj ha hb he
   rw [List.nodup_cons]at nd
   cases i with
   | zero=>
     cases j with
     | zero=>rfl
     | succ j=>
       have:=hl.mem j b (by simpa using hj) hb
       rw [show nth l j=k from he.symm]at this
       exact absurd this nd.1
   | succ i=>
     cases j with
     | zero=>
       have:=hl.mem i a (by simpa using hi) ha
       rw [show nth l i=k from he]at this
       exact absurd this nd.1
     | succ j=>rw [ih nd.2 i j a b (by simpa using hi) (by simpa using hj) ha hb he]
def Nd (l:List Nat) (hs:ak):Prop:=l.Nodup∨∃ q,gK l hs q∧q.Nodup
theorem Nd.inj {l:List Nat} {hs:ak}(h:Nd l hs) (hlen:hs.length=l.length):∀(i j:Nat) (a b:aj),hs[i]? = some a→hs[j]? = some b→a ≠ .dead→b ≠ .dead→nth l i=nth l j→i=j:=by
 rcases h with h|⟨q,h,hq⟩
 · intro i j a b hi hj _ _ hij
   have hi:=(List.getElem?_eq_some_iff.1 hi).1
   have hj:=(List.getElem?_eq_some_iff.1 hj).1
   unfold nth at hij
   have ha':i<l.length:=by omega
   have hb':j<l.length:=by omega
   rw [List.getD_eq_getElem?_getD,List.getD_eq_getElem?_getD,List.getElem?_eq_getElem ha',List.getElem?_eq_getElem hb']at hij
   exact(List.getElem_inj h).1 hij
 · exact h.inj hq
inductive ae (τ : Nat→Nat) (HS:ak):List Nat→ak→Prop where
 | nil:ae τ HS [] []
 | flat {i:Nat} {o:aj} {l:List Nat} {hs:ak} [dc o]:HS[i]? = some o→ae τ HS l hs→ae τ HS (i::l) (o::hs)
 | cons {i:Nat} {o:aj} {l:List Nat} {hs:ak}:HS[i]? = some (o.au τ)→ae τ HS l hs→ae τ HS (i::l) (o::hs)
 | dead {i:Nat} {l:List Nat} {hs:ak}:Nat.blt i HS.length=true→ae τ HS l hs→ae τ HS (i::l) (.dead::hs)
theorem ae.at {τ : Nat→Nat} {HS:ak} {l:List Nat} {hs:ak}(h:ae τ HS l hs):hs.length=l.length∧∀(j:Nat) (o:aj),hs[j]? = some o→nth l j<HS.length∧(o = .dead∨HS[nth l j]? = some (o.au τ)):=by
 induction h with
 | nil=>exact⟨rfl,fun j o h=>by simp at h⟩
 | @flat i o l hs inst h1 _ ih=>
   refine⟨by simp [ih.1],fun j o' hj=>?_⟩
   cases j with
   | zero=>simp at hj;subst hj;exact⟨(List.getElem?_eq_some_iff.1 h1).1,.inr (by rw [inst.au];exact h1)⟩
   | succ j=>exact ih.2 j o' (by simpa using hj)
 | cons h1 _ ih=>
   refine⟨by simp [ih.1],fun j o' hj=>?_⟩
   cases j with
   | zero=>simp at hj;subst hj;exact⟨(List.getElem?_eq_some_iff.1 h1).1,.inr h1⟩
   | succ j=>exact ih.2 j o' (by simpa using hj)
 | dead h1 _ ih=>
   refine⟨by simp [ih.1],fun j o' hj=>?_⟩
   cases j with
   | zero=>simp at hj;subst hj;exact⟨by show _<_;rw [Nat.blt_eq]at h1;exact h1,.inl rfl⟩
   | succ j=>exact ih.2 j o' (by simpa using hj)
inductive af (τ : Nat→Nat) (al:bn):bn→Prop where
 | nil:af τ al []
 | flat {t:Nat} {v:XV} {r:bn} [bB v]:rg al t=v→af τ al r→af τ al ((t,v)::r)
 | cons {t:Nat} {v:XV} {r:bn}:rg al t=v.au τ→af τ al r→af τ al ((t,v)::r)
theorem af.at {τ : Nat→Nat} {al al2:bn}(h:af τ al al2) (t:Nat):rg al2 t = .undef∨rg al t=(rg al2 t).au τ:=by
 induction h with
 | nil=>exact .inl rfl
 | @flat u v r inst h1 _ ih=>
   by_cases ht:t=u
   · subst ht;right;simp only [rg,if_true];rw [inst.au];exact h1
   · simp only [rg,ht,if_false];exact ih
 | @cons u v r h1 _ ih=>
   by_cases ht:t=u
   · subst ht;right;simp only [rg,if_true];exact h1
   · simp only [rg,ht,if_false];exact ih
inductive bE (n:Nat):ak→Prop where
 | nil:bE n []
 | flat {o:aj} {hs:ak} [dc o]:bE n hs→bE n (o::hs)
 | cons {o:aj} {hs:ak}:o.cc n→bE n hs→bE n (o::hs)
theorem bE.at {n:Nat} {hs:ak}(h:bE n hs):∀ o∈hs,o.cc n:=by
 induction h with
 | nil=>intro o h;cases h
 | @flat o hs inst _ ih=>
   intro x hx
   rcases List.mem_cons.1 hx with rfl|hx
   · exact inst.ok n
   · exact ih x hx
 | cons h1 _ ih=>
   intro x hx
   rcases List.mem_cons.1 hx with rfl|hx
   · exact h1
   · exact ih x hx
inductive m7 (n:Nat):bn→Prop where
 | nil:m7 n []
 | flat {t:Nat} {v:XV} {r:bn} [bB v]:m7 n r→m7 n ((t,v)::r)
 | cons {t:Nat} {v:XV} {r:bn}:v.cc n→m7 n r→m7 n ((t,v)::r)
theorem m7.at {n:Nat} {al:bn}(h:m7 n al) (t:Nat):(rg al t).cc n:=by
 induction h with
 | nil=>trivial
 | @flat u v r inst _ ih=>
   unfold rg
   split
   · exact inst.ok n
   · exact ih
 | cons h1 _ ih=>
   unfold rg
   split
   · exact h1
   · exact ih
structure xZ (nI:Nat) (al:bn) (hs:ak):Prop where
 le:Nat.ble nI hs.length=true
 bnd:Nat.blt hs.length Mem.bound=true
 objs:bE hs.length hs
 jj:m7 hs.length al
structure GoTo (nI:Nat) (al:bn) (hs:ak) (al2:bn) (hs2:ak) (τl:List Nat):Prop where
 nd:Nd τl hs2
 hid:(List.range nI).all (fun j=>nth τl j == j)=true
 obj:ae (nth τl) hs τl hs2
 reg:af (nth τl) al al2
theorem WX.via {c:uY} {al2:bn} {hs2:ak} {K:cR} {τl:List Nat}(g:GoTo nI al hs al2 hs2 τl) (hk:xZ nI al2 hs2) (h:WX P nt nI c al2 hs2 K):WX P nt nI c al hs K:=by
 obtain⟨hlen,hobj⟩:=g.obj.at
 have hle:nI≤hs2.length:=Nat.le_of_ble_eq_true hk.le
 refine WX.view (nth τl) ⟨fun j hj=>?_,fun i j a b hi hj ha hb hij=>g.nd.inj hlen i j a b hi hj ha hb hij,fun j o hj=>hk.objs.at o (List.mem_of_getElem? hj),fun j o hj=>(hobj j o hj).2⟩ (fun j hj=>?_) hle hk.bnd hk.jj.at g.reg.at h
 · exact(hobj j _ (List.getElem?_eq_getElem hj)).1
 · have:=List.all_eq_true.1 g.hid j (List.mem_range.2 hj)
   simpa using this
theorem WX.dp {σ : Type} {c:Code} {K:cR}(R : σ→bn) (H : σ→ak) (I : σ→Prop) (μ : σ→Nat) (s0 : σ) (h0:I s0) (hok:∀ s,I s→xZ nI (R s) (H s)) {τl:List Nat}(hin:GoTo nI al hs (R s0) (H s0) τl)
 (step:∀ s,I s→(∀ s' τl al' hs',GoTo nI al' hs' (R s') (H s') τl→I s' → μ s' < μ s→WX P nt nI (.round c) al' hs' K)→WX P nt nI (.code c) (R s) (H s) (EZ P nt nI c K)):WX P nt nI (.code (.loop c)) al hs K:=by
 refine WX.loop (WX.via hin (hok s0 h0) ?_)
 have:∀ n s,μ s≤n→I s→WX P nt nI (.round c) (R s) (H s) K:=by
  intro n
  induction n with
  | zero=>intro s hs hI;exact WX.round (step s hI fun s' τl al' hs' _ _ h=>absurd h (by omega))
  | succ n ih=>intro s hs hI;exact WX.round (step s hI fun s' τl al' hs' g h' hlt=>WX.via g (hok s' h') (ih s' (by omega) h'))
 exact this (μ s0) s0 (Nat.le_refl _) h0
theorem WX.K4 {σ : Type} {c:uY} {K:cR}(R : σ→bn) (H : σ→ak) (I : σ→Prop) (μ : σ→Nat) (s0 : σ) (h0:I s0) (hok:∀ s,I s→xZ nI (R s) (H s)) {τl:List Nat}(hin:GoTo nI al hs (R s0) (H s0) τl)
 (step:∀ s,I s→(∀ s' τl al' hs',GoTo nI al' hs' (R s') (H s') τl→I s' → μ s' < μ s→WX P nt nI c al' hs' K)→WX P nt nI c (R s) (H s) K):WX P nt nI c al hs K:=by
 refine WX.via hin (hok s0 h0) ?_
 have:∀ n s,μ s≤n→I s→WX P nt nI c (R s) (H s) K:=by
  intro n
  induction n with
  | zero=>intro s hs hI;exact step s hI fun s' τl al' hs' _ _ h=>absurd h (by omega)
  | succ n ih=>intro s hs hI;exact step s hI fun s' τl al' hs' g h' hlt=>WX.via g (hok s' h') (ih s' (by omega) h')
 exact this (μ s0) s0 (Nat.le_refl _) h0
theorem WX.meet {σ : Type} {a b:Code} {K:cR}(R : σ→bn) (H : σ→ak) (I : σ→Prop) (hok:∀ s,I s→xZ nI (R s) (H s)) (h1:WX P nt nI (.code a) al hs fun e al1 hs1=>e = .normal∧∃ s τl,I s∧GoTo nI al1 hs1 (R s) (H s) τl)
 (h2:∀ s,I s→WX P nt nI (.code b) (R s) (H s) K):WX P nt nI (.code (.seq a b)) al hs K:=
 WX.seq (h1.mono fun e al1 hs1 ⟨he,s,τl,hi,hg⟩=>by
  subst he
  exact WX.via hg (hok s hi) (h2 s hi))
theorem WX.Gt (id:Nat) {σ : Type} {ops:Array Oper} {dr:Bool} {x b:Code} {K:cR}(R : σ→bn) (H : σ→ak) (I : σ→Prop) (hok:∀ s,I s→xZ nI (R s) (H s)) (h1:WX P nt nI (.code (.seq (.region id ops dr) x)) al hs fun e al1 hs1=>e = .normal∧∃ s τl,I s∧GoTo nI al1 hs1 (R s) (H s) τl)
 (h2:∀ s,I s→WX P nt nI (.code b) (R s) (H s) K):WX P nt nI (.code (.seq (.seq (.region id ops dr) x) b)) al hs K:=WX.meet R H I hok h1 h2
theorem WX.OO (id:Nat) {σ : Type} {x b:Code} {K:cR}(R : σ→bn) (H : σ→ak) (I : σ→Prop) (hok:∀ s,I s→xZ nI (R s) (H s)) (h1:WX P nt nI (.code (.block id x)) al hs fun e al1 hs1=>e = .normal∧∃ s τl,I s∧GoTo nI al1 hs1 (R s) (H s) τl)
 (h2:∀ s,I s→WX P nt nI (.code b) (R s) (H s) K):WX P nt nI (.code (.seq (.block id x) b)) al hs K:=WX.meet R H I hok h1 h2
theorem ae.a_ {τ : Nat→Nat} {HS:ak} {i k k' n n' s:Nat} {rest:List XC} {e:TypeId} {a b:Bool} {l:List Nat} {hs:ak}(h:HS[i]? = some (.cells (kC k' n' s::rest) e a b)) (hk : τ k=k') (hn:n'=n) (hr:rest.all XC.shut=true) (r:ae τ HS l hs):ae τ HS (i::l) (.cells (kC k n s::rest) e a b::hs):=by
 refine ae.cons ?_ r
 simp only [aj.au,List.map_cons,aq,hk,←hn,eV hr]
 exact h
theorem WX.dv {c:uY} {K:cR}(hb:Nat.blt hs.length Mem.bound=true) (h:WX P nt nI c al (hs++[.dead]) K):WX P nt nI c al hs K:=by
 intro βI mI wI hn m hm β w a Q hr hst hq
 obtain⟨m',hp,hh,_⟩:=hm.push .dead (by simpa [Nat.blt_eq]using hb)
 obtain⟨p1,p2,p3,p4⟩:=Mem.bD hp
 have hnn:m'.get m.n = .dead:=by unfold Mem.get;rw [p3]
 have hold:∀ i,i≠m.n→m'.get i=m.get i:=fun i hi=>by unfold Mem.get;rw [p4 i hi]
 have hb2:=hh.bnd
 have hrel:Rel β m' w:=by
  refine⟨hb2,hh.fresh,fun i hi=>?_,fun i j hi hj li lj hbb=>?_⟩
  · by_cases e:i=m.n
    · subst e;rw [hnn];trivial
    · rw [hold i e]
      exact(hst.rel.obj i (by omega)).ext (fun _ _=>⟨rfl,rfl,rfl⟩) (by omega)
  · have e1:i≠m.n:=fun e=>by subst e;rw [hnn]at li;cases li
    have e2:j≠m.n:=fun e=>by subst e;rw [hnn]at lj;cases lj
    rw [hold i e1]at li
    rw [hold j e2]at lj
    exact hst.rel.inj i j (by omega) (by omega) li lj hbb
 refine h βI mI wI hn m' hh β w a Q ?_ ?_ hq
 · exact⟨hr.size,hr.small,fun t ht=>(hr.rel t ht).ext (fun _ _=>⟨rfl,rfl,rfl⟩) (by omega),hr.out⟩
 · refine⟨by have:=hst.le;omega,hst.ext,hrel,hst.os,hst.tape,hst.output,hst.size,hst.frame,fun k hk hi=>hst.rR k hk ?_⟩
   obtain⟨i,hi,hl,hb⟩:=hi
   have e1:i≠m.n:=fun e=>by subst e;rw [hnn]at hl;cases hl
   exact⟨i,by omega,by rw [hold i e1]at hl;exact hl,hb⟩
end Go.Xm
namespace Go.Xm
variable [az]
variable {P:Program} {ops:Array Oper} {nt nI:Nat} {al:bn} {hs:ak} {o:Oper} {l:List Oper} {L:List aI} {K:List Ab→bn→ak→Prop} {d:Nat}
class TI (P:Program) (t:TypeId) (s:outParam Nat):Prop where out:(P.info? t).elim false (fun i=>Nat.beq i.size s && Nat.ble i.bytes 65536)=true
theorem TI.get {P:Program} {t:TypeId} {s:Nat} [h:TI P t s]:∃ ti,P.info? t=some ti∧ti.size=s∧ti.bytes≤65536:=by
 have h:=h.out
 cases hi:P.info? t with
 | none=>rw [hi]at h;cases h
 | some ti=>
   rw [hi]at h
   simp only [Option.elim,Bool.and_eq_true]at h
   exact⟨ti,rfl,Nat.eq_of_beq_eq_true h.1,Nat.le_of_ble_eq_true h.2⟩
def uP (k:IntKind) (z:Int):Prop:=match k with
 | .i8 => -128≤z∧z<128
 | .i16 => -32768≤z∧z<32768
 | .i32 => -2147483648≤z∧z<2147483648
 | .i64 => -9223372036854775808≤z∧z<9223372036854775808
 | .u8=>0≤z∧z<256
 | .u16=>0≤z∧z<65536
 | .u32=>0≤z∧z<4294967296
 | .u64=>0≤z∧z<18446744073709551616
theorem f7 {k:IntKind} {z:Int}(h:uP k z):k.wrap z=z:=by
 cases k <;> simp only [uP]at h <;> simp only [IntKind.wrap,IntKind.bits,IntKind.signed] <;> simp <;> omega
theorem Lq {k:IntKind} {z:Int}(h:uP k z):z<2^k.bits:=by
 cases k <;> simp only [uP]at h <;> simp only [IntKind.bits] <;> omega
theorem Ji {k:IntKind} {z w:Int}(h:uP k z) (h0:0≤w) (h1:w≤z):uP k w:=by
 cases k <;> simp only [uP]at h ⊢ <;> omega
theorem Dv {k:IntKind} {z:Int}(h0:0≤z) (h1:z<2^(k.bits-1)):uP k z:=by
 cases k <;> simp only [uP,IntKind.bits]at h1 ⊢ <;> omega
theorem Ot {k:IntKind} {x y:Int}(hk:uP k x) (hx:0≤x) (hy:0<y):bO .quo k k x y=some (.int k (x/y)):=by
 have h0:y≠0:=by omega
 have h1:x.tdiv y=x/y:=Int.tdiv_eq_ediv_of_nonneg hx
 have h2:0≤x/y:=Int.ediv_nonneg hx (by omega)
 have h3:x/y≤x:=Int.ediv_le_self _ hx
 simp only [bO,dN,if_true,h0,if_false,cI,h1,f7 (Ji hk h2 h3)]
theorem Oy {k k':IntKind} {x y:Int}(hk:uP k x) (hx:0≤x) (hy:0≤y):bO .shr k k' x y=some (.int k (x/2^y.toNat)):=by
 have h0:¬y<0:=by omega
 simp only [bO,h0,if_false,y4]
 have hp:∀ n:Nat,(0:Int)<2^n:=fun n=>Int.pow_pos (by omega)
 rw [Int.fdiv_eq_ediv_of_nonneg _ (Int.le_of_lt (hp _))]
 by_cases h:y.toNat≤k.bits
 · rw [Nat.min_eq_left h]
 · have h':k.bits≤y.toNat:=by omega
   rw [Nat.min_eq_right h']
   have hlt:=Lq hk
   have e1:x/2^k.bits=0:=Int.ediv_eq_zero_of_lt hx hlt
   have e2:x/2^y.toNat=0:=by
    refine Int.ediv_eq_zero_of_lt hx (Int.lt_of_lt_of_le hlt ?_)
    exact_mod_cast Nat.pow_le_pow_right (by omega) h'
   rw [e1,e2]
theorem Ox {k k':IntKind} {x y:Int} {n:Nat}(hn:y=(n:Nat)) (hb:n≤k.bits) (h:uP k (x*2^n)):bO .shl k k' x y=some (.int k (x*2^n)):=by
 subst hn
 have h0:¬((n:Nat):Int)<0:=by omega
 simp only [bO,h0,if_false,y4,Int.toNat_natCast,Nat.min_eq_left hb,cI,f7 h]
theorem N5 {k:IntKind} {x y:Int}(n:Nat) (hy:y=2^n-1) (hn:n<k.bits):bO .and k k x y=some (.int k (x%2^n)):=by
 have hp:(0:Int)<2^n:=Int.pow_pos (by omega)
 have hle:(2:Int)^n≤2^k.bits:=by exact_mod_cast Nat.pow_le_pow_right (by omega) (by omega)
 have hle1:(2:Int)^n≤2^(k.bits-1):=by exact_mod_cast Nat.pow_le_pow_right (by omega) (by omega)
 have hm0:=Int.emod_nonneg x (show(2:Int)^n≠0 by omega)
 have hm1:=Int.emod_lt_of_pos x hp
 have key:(((BitVec.ofInt k.bits x &&& BitVec.ofInt k.bits y).toNat:Nat):Int)=x%2^n:=by
  rw [BitVec.toNat_and,BitVec.toNat_ofInt,BitVec.toNat_ofInt]
  have e1:(y%((2^k.bits:Nat):Int)).toNat=2^n-1:=by
   have e:y%((2^k.bits:Nat):Int)=y:=Int.emod_eq_of_lt (by omega) (by push_cast;omega)
   rw [e,hy]
   have:((2^n:Nat):Int)=2^n:=by push_cast;rfl
   omega
  rw [e1,Nat.and_two_pow_sub_one_eq_mod]
  push_cast
  rw [Int.toNat_of_nonneg (Int.emod_nonneg _ (by have:(0:Int)<2^k.bits:=Int.pow_pos (by omega);omega))]
  exact Int.emod_emod_of_dvd x ⟨2^(k.bits-n),by rw [←Int.pow_add];congr 1;omega⟩
 simp only [bO,dN,if_true,cI]
 rw [key,f7 (Dv hm0 (by omega))]
def B7 (k:IntKind) (x y:Int):Int:=k.wrap ((BitVec.ofInt k.bits x ||| BitVec.ofInt k.bits y).toNat)
def uO (k:IntKind) (x y:Int):Int:=k.wrap ((BitVec.ofInt k.bits x &&& BitVec.ofInt k.bits y).toNat)
def Ap (op:BinOp) (x y:Int):Option Prop:=match op with
 | .eql=>some (x=y)
 | .neq=>some (x≠y)
 | .lss=>some (x<y)
 | .leq=>some (x≤y)
 | .gtr=>some (y<x)
 | .geq=>some (y≤x)
 | _ => .none
theorem BV {op:BinOp} {k:IntKind} {x y:Int} {p:Prop}(hp:Ap op x y=some p):(p→bO op k k x y=some (.bool true))∧(¬p→bO op k k x y=some (.bool false)):=by
 cases op <;> simp only [Ap]at hp <;> first|(cases hp;done)|(cases hp;constructor <;> intro h <;> simp_all [bO,dN])
theorem xh {t t':TypeId} {a b:Operand} {op:BinOp} {k:IntKind} {x y:Int} {p:Prop}(ho:o.op = .binOp op t a b t') (hw:aw ops (rg al) o=some true) (hd:o.dst=some d) (hlt:Nat.blt d nt=true) (ha:ai (rg al) a = .one (.int k x)) (hb:ai (rg al) b = .one (.int k y)) (hp:Ap op x y=some p)
 (h1:p→SK P ops nt L l ((d,.one (.bool true))::al) hs fun bs=>K (quiet::bs)) (h2:¬p→SK P ops nt L l ((d,.one (.bool false))::al) hs fun bs=>K (quiet::bs)):SK P ops nt L (o::l) al hs K:=by
 by_cases h:p
 · exact SK.lift hd hlt (fun _=>aJ.bin hw ho ha hb ((BV hp).1 h)) (h1 h)
 · exact SK.lift hd hlt (fun _=>aJ.bin hw ho ha hb ((BV hp).2 h)) (h2 h)
def ed (c:XC) (i off n:Nat):Prop:=(n=0∧(c = .nils∨∃ o cap,c = .slice i o 0 (.exact cap)))∨∃ cap,n≤cap∧c = .slice i off n (.exact cap)
theorem ed.nil {i off:Nat}:ed .nils i off 0 := .inl ⟨rfl,.inl rfl⟩
theorem ed.mk {i off n cap:Nat}(h:n≤cap):ed (.slice i off n (.exact cap)) i off n := .inr ⟨cap,h,rfl⟩
theorem ed.same {c:XC} {i off n i' off' n':Nat}(h:ed c i off n) (h':ed c i' off' n'):n=n'∧(n=0∨(off=off'∧i=i')):=by
 rcases h with⟨rfl,rfl|⟨o,cap,rfl⟩⟩|⟨cap,h1,rfl⟩
 · rcases h' with⟨rfl,_⟩|⟨cap,h1,e⟩
   · exact⟨rfl,.inl rfl⟩
   · cases e
 · rcases h' with⟨rfl,_⟩|⟨cap',h1,e⟩
   · exact⟨rfl,.inl rfl⟩
   · cases e;exact⟨rfl,.inl rfl⟩
 · rcases h' with⟨rfl,e|⟨o,cap,e⟩⟩|⟨cap',h1,e⟩
   · cases e
   · cases e;exact⟨rfl,.inl rfl⟩
   · cases e;exact⟨rfl,.inr ⟨rfl,rfl⟩⟩
theorem ed.ok {c:XC} {i off n m:Nat}(h:ed c i off n) (hi:i<m):c.ok m:=by
 rcases h with⟨_,rfl|⟨o,cap,rfl⟩⟩|⟨cap,_,rfl⟩
 · trivial
 · exact hi
 · exact hi
theorem ed.au {c:XC} {i off n:Nat}(h:ed c i off n) (τ : Nat→Nat):ed (c.au τ) (τ i) off n:=by
 rcases h with⟨rfl,rfl|⟨o,cap,rfl⟩⟩|⟨cap,h1,rfl⟩
 · exact .inl ⟨rfl,.inl rfl⟩
 · exact .inl ⟨rfl,.inr ⟨o,cap,rfl⟩⟩
 · exact .inr ⟨cap,h1,rfl⟩
theorem ed.id {c:XC} {i off n:Nat}(h:ed c i off n) {τ : Nat→Nat}(hi : τ i=i):c.au τ = c:=by
 rcases h with⟨rfl,rfl|⟨o,cap,rfl⟩⟩|⟨cap,h1,rfl⟩
 · rfl
 · simp only [XC.au,hi]
 · simp only [XC.au,hi]
theorem af.sl {τ : Nat→Nat} {al:bn} {t:Nat} {c:XC} {r:bn} {i off n:Nat}(h:rg al t = .one c) (hs:ed c i off n) (hi : τ i=i) (hr:af τ al r):af τ al ((t,.one c)::r):=
 .cons (by simp only [XV.au,hs.id hi];exact h) hr
theorem af.du {τ : Nat→Nat} {al:bn} {t k k' n n' sz:Nat} {r:bn}(h:rg al t=iK k' n' sz) (hk : τ k=k') (hn:n'=n) (hr:af τ al r):af τ al ((t,iK k n sz)::r):=
 .cons (by rw [d_,hk,←hn];exact h) hr
theorem J3 {a:Operand} {t elem:TypeId}(ho:o.op = .call ⟨.builtin .len,#[a],#[t]⟩) (hw:aw ops (rg al) o=some true) (hd:o.dst=some d) (hlt:Nat.blt d nt=true) {c:XC}(ha:ai (rg al) a = .one c) [hu:bh P t (.slice elem)] {i off n:Nat}(hc:ed c i off n)
 (hk:SK P ops nt L l ((d,.one (.int .i64 (n:Nat)))::al) hs fun bs=>K (quiet::bs)):SK P ops nt L (o::l) al hs K:=by
 rcases hc with⟨rfl,rfl|⟨o,cap,rfl⟩⟩|⟨cap,_,rfl⟩
 all_goals exact SK.lift hd hlt (fun _=>aJ.pure hw (by rw [ho];simp [bj,fc,ha,zJ,hu.out])) hk
theorem J4 {a:Operand} {t elem:TypeId}(ho:o.op = .call ⟨.builtin .len,#[a],#[t]⟩) (hw:aw ops (rg al) o=some true) (hd:o.dst=some d) (hlt:Nat.blt d nt=true) {i n sz:Nat}(ha:ai (rg al) a=iK i n sz) [hu:bh P t (.slice elem)]
 (hk:SK P ops nt L l ((d,.one (.int .i64 (n:Nat)))::al) hs fun bs=>K (quiet::bs)):SK P ops nt L (o::l) al hs K:=by
 unfold iK kC at ha
 split at ha
 · rename_i h
   subst h
   exact SK.lift hd hlt (fun _=>aJ.pure hw (by rw [ho];simp [bj,fc,ha,zJ,hu.out])) hk
 · exact SK.lift hd hlt (fun _=>aJ.pure hw (by rw [ho];simp [bj,fc,ha,zJ,hu.out])) hk
theorem J1 {t:TypeId} {a b:Operand} {elem:TypeId} {s:Nat}(ho:o.op = .indexAddr t a b) (hw:aw ops (rg al) o=some true) (hd:o.dst=some d) (hlt:Nat.blt d nt=true) {c:XC}(ha:ai (rg al) a = .one c) {k:IntKind} {z:Int}(hb:ai (rg al) b = .one (.int k z)) [hu:bh P t (.slice elem)] [hs':aU P elem s] {i off n:Nat}(hc:ed c i off n) (hz:0≤z∧z<n)
 {p:Nat}(hp:off+z.toNat*s=p) (hk:SK P ops nt L l ((d,.one (.ptr i p))::al) hs fun bs=>K (quiet::bs)):SK P ops nt L (o::l) al hs K:=by
 rcases hc with⟨rfl,_⟩|⟨cap,_,rfl⟩
 · omega
 · exact SK.lift hd hlt (fun _=>aJ.pure hw (by rw [ho];simp only [bj,cC,ha,hb,hu.out,hs'.out,if_pos hz,Option.map_some,hp])) hk
def zf (x:Option XV) (dflt:Int):Option Int:=match x with
 | .none=>some dflt
 | some (.one (.int _ z))=>some z
 | _ => .none
theorem xg {x:Option XV} {y p:Nat}(h:zf x 0=some (p:Int)) (hle:p≤y):mc x 0 y=some p:=by
 unfold zf at h
 unfold mc
 split at h
 · injection h with h
   have:p=0:=by omega
   rw [this]
 · rename_i k z
   cases h
   simp only []
   rw [if_pos ⟨by omega,by omega⟩]
   simp
 · cases h
theorem xf {x:Option XV} {n y q:Nat}(h:zf x (n:Nat)=some (q:Int)) (hle:q≤y):mc x n y=some q:=by
 unfold zf at h
 unfold mc
 split at h
 · injection h with h
   have:q=n:=by omega
   rw [this]
 · rename_i k z
   cases h
   simp only []
   rw [if_pos ⟨by omega,by omega⟩]
   simp
 · cases h
theorem Ma {t e:TypeId} {a:Operand} {lo hi:Option Operand} {s:Nat}(ho:o.op = .slice t a lo hi .none) [hu:bh P t (.slice e)] [hs':aU P e s] (hw:aw ops (rg al) o=some true) (hd:o.dst=some d) (hlt:Nat.blt d nt=true) {i off n p q:Nat} {c:XC}(ha:ai (rg al) a = .one c) (hc:ed c i off n)
 {z w:Int}(hl:zf (lo.map (ai (rg al))) 0=some z) (hh:zf (hi.map (ai (rg al))) (n:Nat)=some w) (hp:z=(p:Nat)) (hq:w=(q:Nat)) (hb:p≤q∧q≤n) (hk:∀ c',ed c' i (off+p*s) (q-p)→SK P ops nt L l ((d,.one c')::al) hs fun bs=>K (quiet::bs)):SK P ops nt L (o::l) al hs K:=by
 subst hp hq
 rcases hc with⟨rfl,rfl|⟨o',cap,rfl⟩⟩|⟨cap,hcap,rfl⟩
 · obtain⟨rfl,rfl⟩:p=0∧q=0:=by omega
   have e1:=xg (y:=0) hl (by omega)
   have e2:=xf (y:=0) hh (by omega)
   exact SK.lift hd hlt (x := .one .nils) (fun _=>aJ.pure hw (by rw [ho];simp only [bj,rH,hu.out,ha,ju,Option.map_none,e1,e2,hs'.out])) (hk _ (.inl ⟨rfl,.inl rfl⟩))
 · obtain⟨rfl,rfl⟩:p=0∧q=0:=by omega
   have e1:=xg (y:=0) hl (by omega)
   have e2:=xf (y:=cap) hh (by omega)
   refine SK.lift hd hlt (x := .one (.slice i (if cap=0 then o' else o'+0*s) (0-0) (.exact (cap-0)))) (fun _=>aJ.pure hw (by rw [ho];simp only [bj,rH,hu.out,ha,ju,Option.map_none,e1,e2,hs'.out])) (hk _ (.inl ⟨rfl,.inr ⟨_,_,rfl⟩⟩))
 · have e1:=xg (y:=q) hl (by omega)
   have e2:=xf (y:=cap) hh (by omega)
   refine SK.lift hd hlt (x := .one (.slice i (if cap=p then off else off+p*s) (q-p) (.exact (cap-p)))) (fun _=>aJ.pure hw (by rw [ho];simp only [bj,rH,hu.out,ha,ju,Option.map_none,e1,e2,hs'.out])) (hk _ ?_)
   by_cases hm:cap=p
   · have hz:q-p=0:=by omega
     rw [hz]
     exact .inl ⟨rfl,.inr ⟨_,_,rfl⟩⟩
   · rw [if_neg hm]
     exact .inr ⟨cap-p,by omega,rfl⟩
theorem L2 {zs:List XC} {t e:TypeId} {y:Operand}(ho:o.op = .buildSlice t 1 #[(0,y)]) [hu:bh P t (.slice e)] [hz:bC P e zs] [hse:aU P e 1] (hzl:zs.length=1) (hw:aw ops (rg al) o=some true) (hd:o.dst=some d) (hlt:Nat.blt d nt=true) {c:XC}(hy:db (ai (rg al) y)=some [c]) {n:Nat}(hn:hs.length=n) (hb:Nat.blt n Mem.bound=true) {hs':ak}(hh:hs++[.cells [c] e false false]=hs')
 (hk:SK P ops nt L l ((d,.one (.slice n 0 1 (.exact 1)))::al) hs' fun bs=>K (⟨true,.none,[n]⟩::bs)):SK P ops nt L (o::l) al hs K:=by
 subst hn hh
 refine SK.lift hd hlt (fun _=>?_) hk
 intro m hm
 obtain⟨m',h1,h2,h3⟩:=hm.push (.cells [c] e false false) (by simpa [Nat.blt_eq]using hb)
 refine⟨m',?_,h2,h3⟩
 unfold jS
 rw [hw]
 refine cQ (by rw [ho];rfl) (by rw [ho];rfl) (by rw [ho];rfl) ?_
 rw [ho]
 have hf:iG (fun i=>some (i*1,1)) (ff zs (1*1)) [(0,ai (rg al) y)]=some [c]:=by
  simp [iG,hy,ff]
 simp only [cw,fg,eC,hu.out,hse.out,hz.out,List.map_cons,List.map_nil,hzl,h1,hm.n,hf]
 simp
theorem DY {t:TypeId} {parts:Array (Nat × Operand)}(ho:o.op = .build t parts) {zs:List XC} [hz:bC P t zs] {pl:List (Nat × Nat)} [hp:dP P t pl] (hw:aw ops (rg al) o=some true) (hd:o.dst=some d) (hlt:Nat.blt d nt=true)
 {out:List XC}(hc:iG (fun i=>pl[i]?) zs (parts.toList.map fun p=>(p.1,ai (rg al) p.2))=some out)
 (hk:SK P ops nt L l ((d,.agg out)::al) hs fun bs=>K (quiet::bs)):SK P ops nt L (o::l) al hs K:=by
 obtain⟨fs,h1,h2⟩:=hp.out
 exact SK.lift hd hlt (fun _=>aJ.pure hw (by rw [ho];simp only [bj,oh,hz.out,h1,h2,hc,Option.map_some])) hk
theorem Hi {t t1 e:TypeId} {sz m:Nat} {a b:Operand}(ho:o.op = .call ⟨.builtin .append,#[a,b],#[t,t1]⟩) {zs:List XC} [hu:bh P t (.slice e)] [hz:bC P e zs] [hI:TI P e sz] (hw:aw ops (rg al) o=some true) (hd:o.dst=some d) (hlt:Nat.blt d nt=true)
 (hsz:zs.length=sz∧0<sz) {i n:Nat} {cs ds:List XC}(ha:ai (rg al) a=iK i n sz) (hi:hs[i]? = some (cK e cs)) (hn:cs.length=n*sz) (hsrc:∀ M,bG M hs→nq P t1 sz (ai (rg al) b) M=some (m,ds)) (hm:0<m∧n+m≤2000000000)
 {N:Nat}(hN:hs.length=N) (hb:Nat.blt N Mem.bound=true) {hs':ak}(hh:hs.set i .dead++[.cells (cs++ds) e true false]=hs')
 (hk:SK P ops nt L l ((d,.one (.slice N 0 (n+m) (.toEnd sz)))::al) hs' fun bs=>K (⟨true,.none,[i,N]⟩::bs)):SK P ops nt L (o::l) al hs K:=by
 subst hN hh
 obtain⟨ti,hti,rfl,hby⟩:=hI.get
 obtain⟨z1,z2⟩:=hsz
 have hbytes:(n+m)*ti.bytes≤140737488355328:=Nat.le_trans (Nat.mul_le_mul_left _ hby) (by omega)
 have hsmall:hs.length<Mem.bound:=by simpa [Nat.blt_eq]using hb
 refine SK.lift hd hlt (fun _=>?_) hk
 intro M hM
 have hx:=hsrc M hM
 by_cases h0:n=0
 · subst h0
   have hcs:cs = []:=List.length_eq_zero_iff.1 (by simpa using hn)
   subst hcs
   have hdead:hs.set i .dead=hs:=by
    apply List.ext_getElem?
    intro j
    by_cases hj:i=j
    · subst hj
      rw [hi,List.getElem?_set_self (List.getElem?_eq_some_iff.1 hi).1]
      rfl
    · rw [List.getElem?_set_ne hj]
   rw [hdead]
   obtain⟨m',h1,h2,h3⟩:=hM.push (.cells ds e true false) hsmall
   refine⟨m',?_,by simpa using h2,fun j hj=>h3 j (by simp at hj ⊢;exact hj.2)⟩
   unfold jS
   rw [hw]
   refine cQ (by rw [ho];rfl) (by rw [ho];rfl) (by rw [ho];rfl) ?_
   rw [ho]
   have hm0:¬m=0:=by omega
   have hb1:m≤9223372036854775807∧m*ti.bytes≤140737488355328:=⟨by omega,by simpa using hbytes⟩
   have ha':ai (rg al) a = .one .nils:=ha
   simp only [cw,j0,eC,hu.out,hti,hz.out,ha',hx,hm0,if_false,List.getElem?_toArray,List.getElem?_cons_zero,List.getElem?_cons_succ]
   rw [if_pos ⟨z1,z2⟩]
   simp only [hb1,and_self,if_true,h1,hM.n,Nat.zero_add]
 · have hcs:cs≠[]:=fun h=>by
    subst h
    have:n*ti.size=0:=by simpa using hn.symm
    rcases Nat.mul_eq_zero.1 this with h|h <;> omega
   rw [js hcs]at hi
   rw [oL h0]at ha
   have hput:=hM.put hi .dead
   obtain⟨m',h1,h2,h3⟩:=hput.push (.cells (cs++ds) e true false) (by rw [List.length_set];exact hsmall)
   refine⟨m',?_,h2,fun j hj=>?_⟩
   · unfold jS
     rw [hw]
     refine cQ (by rw [ho];rfl) (by rw [ho];rfl) (by rw [ho];rfl) ?_
     rw [ho]
     have hm0:¬m=0:=by omega
     have hb1:True∧n+m≤9223372036854775807∧(n+m)*ti.bytes≤140737488355328:=⟨trivial,by omega,hbytes⟩
     simp only [cw,j0,eC,hu.out,hti,hz.out,ha,hx,hm0,if_false,List.getElem?_toArray,List.getElem?_cons_zero,List.getElem?_cons_succ]
     rw [if_pos ⟨z1,z2⟩]
     simp only [hM.at hi]
     rw [if_pos hb1,if_pos ⟨trivial,hn,trivial,trivial⟩]
     simp only [h1,hM.n]
   · simp only [List.mem_cons,List.not_mem_nil,or_false,not_or]at hj
     rw [h3 j (by rw [List.length_set];simpa using hj.2),sD j (by simpa using hj.1)]
end Go.Xm
