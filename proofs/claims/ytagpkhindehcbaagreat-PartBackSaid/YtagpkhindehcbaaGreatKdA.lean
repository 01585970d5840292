/-
  A part of the proof: XmBase, XmPure, XmOpA, XmOpB, XmOpC, XmOpD, XmOpE, XmOpF, XmRead, XmWrite.
-/
import Derived.Laws.BytesString
import Derived.WalkKit
set_option maxRecDepth 10000
set_option maxHeartbeats 8000000
set_option linter.unusedVariables false
set_option linter.unusedSectionVars false
set_option linter.unusedSimpArgs false
namespace Go.Xm
inductive T (α : Type) where
 | leaf
 | node (v : α) (l r:T α)
namespace T
variable {α : Type}
def get (d : α):T α→Nat → α
 | leaf,_=>d
 | node v _ _,0=>v
 | node _ l r,n+1=>match n%2 with
   | 0=>l.get d (n/2)
   | _=>r.get d (n/2)
def set (d : α):Nat→T α→Nat → α→T α
 | 0,t,_,_=>t
 | _+1,leaf,0,x=>node x leaf leaf
 | f+1,leaf,n+1,x=>match n%2 with
   | 0=>node d (set d f leaf (n/2) x) leaf
   | _=>node d leaf (set d f leaf (n/2) x)
 | _+1,node _ l r,0,x=>node x l r
 | f+1,node v l r,n+1,x=>match n%2 with
   | 0=>node v (set d f l (n/2) x) r
   | _=>node v l (set d f r (n/2) x)
theorem fb (d : α) (n:Nat):(leaf:T α).get d n=d:=by cases n <;> rfl
theorem eA (d : α) (v : α) (l r:T α) (n:Nat):(node v l r).get d (n+1)=if n%2=0 then l.get d (n/2)else r.get d (n/2):=by
 simp only [get]
 split
 · rename_i h;simp [h]
 · rename_i h;rw [if_neg];intro e;exact h e
theorem lD (d : α) (f:Nat) (n:Nat) (x : α):set d (f+1) leaf (n+1) x=if n%2=0 then node d (set d f leaf (n/2) x) leaf else node d leaf (set d f leaf (n/2) x):=by
 simp only [set]
 split
 · rename_i h;simp [h]
 · rename_i h;rw [if_neg];intro e;exact h e
theorem lE (d : α) (f:Nat) (v : α) (l r:T α) (n:Nat) (x : α):set d (f+1) (node v l r) (n+1) x=if n%2=0 then node v (set d f l (n/2) x) r else node v l (set d f r (n/2) x):=by
 simp only [set]
 split
 · rename_i h;simp [h]
 · rename_i h;rw [if_neg];intro e;exact h e
theorem fu (d : α) (f:Nat):∀(t:T α) (n j:Nat) (x : α),j≠n→(set d f t n x).get d j=t.get d j:=by
 induction f with
 | zero=>intro t n j x _;rfl
 | succ f ih=>
   intro t n j x hne
   cases t with
   | leaf =>
     cases n with
     | zero=>
       cases j with
       | zero=>exact absurd rfl hne
       | succ j=>simp only [set];rw [eA];simp [fb]
     | succ n=>
       rw [lD]
       cases j with
       | zero=>split <;> simp [get]
       | succ j=>
         split
         · rw [eA,fb,fb]
           split
           · rw [ih _ _ _ _ (by omega),fb]
           · rfl
         · rw [eA,fb,fb]
           split
           · rfl
           · rw [ih _ _ _ _ (by omega),fb]
   | node v l r=>
     cases n with
     | zero=>
       cases j with
       | zero=>exact absurd rfl hne
       | succ j=>simp only [set];rw [eA,eA]
     | succ n=>
       rw [lE]
       cases j with
       | zero=>split <;> simp [get]
       | succ j=>
         split
         · rw [eA,eA]
           split
           · rw [ih _ _ _ _ (by omega)]
           · rfl
         · rw [eA,eA]
           split
           · rfl
           · rw [ih _ _ _ _ (by omega)]
theorem f9 (d : α) (f:Nat):∀(t:T α) (n:Nat) (x : α),n+1<2^f→(set d f t n x).get d n=x:=by
 induction f with
 | zero=>intro t n x h;simp at h
 | succ f ih=>
   intro t n x h
   have hp:2^(f+1)=2*2^f:=by rw [Nat.pow_succ];omega
   cases t with
   | leaf=>
     cases n with
     | zero=>simp [set,get]
     | succ n=>
       rw [lD]
       split
       · rename_i hh;rw [eA,if_pos hh];exact ih _ _ _ (by omega)
       · rename_i hh;rw [eA,if_neg hh];exact ih _ _ _ (by omega)
   | node v l r=>
     cases n with
     | zero=>simp [set,get]
     | succ n=>
       rw [lE]
       split
       · rename_i hh;rw [eA,if_pos hh];exact ih _ _ _ (by omega)
       · rename_i hh;rw [eA,if_neg hh];exact ih _ _ _ (by omega)
end T
inductive r_ where
 | exact(n:Nat)
 | toEnd (sz:Nat)
 deriving DecidableEq
inductive XC where
 | bool (b:Bool)
 | int (k:IntKind) (n:Int)
 | flt (k:FloatKind) (b:Nat)
 | cplx (k:FloatKind) (re im:Nat)
 | str (s:List UInt8)
 | nilp
 | ptr (i off:Nat)
 | nils
 | slice (i off len:Nat) (cap:r_)
 | nilm
 | map (i:Nat)
 | fn (f:FuncId)
 | bind (g c:XC)
 | nilf
 | nili
 | atom (i:Nat)
 deriving DecidableEq
inductive X1 where
 | one (c:XC)
 | agg (cs:List XC)
 deriving DecidableEq
inductive XV where
 | undef
 | one (c:XC)
 | agg (cs:List XC)
 | tup (vs:List X1)
 deriving DecidableEq
def X1.rW:X1→XV
 | .one c => .one c
 | .agg cs => .agg cs
inductive ak where
 | dead
 | cells (vs:List XC) (elem:TypeId) (opn ro:Bool)
 | map (es:List (X1 × X1))
def ak.live:ak→Bool
 | .dead=>false
 | _=>true
def ak.own:ak→Bool
 | .dead=>false
 | .cells _ _ _ ro => !ro
 | .map _=>true
theorem ak.dg {o:ak}(h:o.own=true):o.live=true:=by cases o <;> first|rfl|(cases h)
structure FV where
 ver:Nat
 obj:ak
def FV.none:FV:=⟨0,.dead⟩
structure Mem where
 n:Nat
 t:T FV
namespace Mem
def empty:Mem:=⟨0,.leaf⟩
def gH (m:Mem) (i:Nat):FV:=m.t.get FV.none i
def get (m:Mem) (i:Nat):ak:=(m.gH i).obj
def bound:Nat:=2147483646
def put (m:Mem) (i:Nat) (o:ak):Mem:=
 match Nat.blt i m.n,Nat.blt i bound with
 | true,true=>⟨m.n,m.t.set FV.none 31 i ⟨(m.gH i).ver+1,o⟩⟩
 | _,_=>m
def push (m:Mem) (o:ak):Option Mem:=if m.n<bound then some ⟨m.n+1,m.t.set FV.none 31 m.n ⟨1,o⟩⟩else none
theorem ig (m:Mem) {i j:Nat}(o:ak) (h:j≠i):(m.put i o).gH j=m.gH j:=by
 unfold put
 split
 · exact T.fu _ _ _ _ _ _ h
 · rfl
theorem f8 (m:Mem) {i j:Nat}(o:ak) (h:j≠i):(m.put i o).get j=m.get j:=by unfold get;rw [ig m o h]
theorem pO (m:Mem) {i:Nat}(o:ak) (hn:i<m.n) (h:i<bound):(m.put i o).gH i=⟨(m.gH i).ver+1,o⟩:=by
 unfold put
 have h1:Nat.blt i m.n=true:=by simpa [Nat.blt_eq]using hn
 have h2:Nat.blt i bound=true:=by simpa [Nat.blt_eq]using h
 rw [h1,h2]
 exact T.f9 _ _ _ _ _ (by unfold bound at h;omega)
theorem ij (m:Mem) {i:Nat}(o:ak) (hn:i<m.n) (h:i<bound):(m.put i o).get i=o:=by unfold get;rw [pO m o hn h]
theorem fG (m:Mem) (i:Nat) (o:ak):(m.put i o).n=m.n:=by unfold put;split <;> rfl
theorem bR {m m':Mem} {o:ak}(h:m.push o=some m'):m.n<bound∧m'.n=m.n+1∧m'.gH m.n=⟨1,o⟩∧∀ j,j≠m.n→m'.gH j=m.gH j:=by
 unfold push at h
 split at h
 · rename_i hb
   cases h
   refine⟨hb,rfl,T.f9 _ _ _ _ _ (by unfold bound at hb;omega),fun j hj=>T.fu _ _ _ _ _ _ hj⟩
 · cases h
end Mem
def qe (m m':Mem):Prop:=m.n≤m'.n∧∀ i,(m.gH i).ver≤(m'.gH i).ver∧((m'.gH i).ver=(m.gH i).ver→m'.gH i=m.gH i)
theorem qe.refl (m:Mem):qe m m:=⟨Nat.le_refl _,fun _=>⟨Nat.le_refl _,fun _=>rfl⟩⟩
theorem qe.trans {a b c:Mem}(h:qe a b) (k:qe b c):qe a c:=
 ⟨Nat.le_trans h.1 k.1,fun i=>⟨Nat.le_trans (h.2 i).1 (k.2 i).1,fun e=>by
  have h1:=(h.2 i).1
  have h2:=(k.2 i).1
  rw [(k.2 i).2 (by omega),(h.2 i).2 (by omega)]⟩⟩
theorem qe.put (m:Mem) (i:Nat) (o:ak):qe m (m.put i o):=by
 refine⟨by rw [Mem.fG];exact Nat.le_refl _,fun j=>?_⟩
 by_cases hj:j=i
 · subst hj
   by_cases h:j<m.n∧j<Mem.bound
   · rw [Mem.pO m o h.1 h.2]
     exact⟨by simp,fun e=>by simp at e⟩
   · have:m.put j o=m:=by
      unfold Mem.put
      split
      · rename_i h1 h2
        exact(h ⟨by simpa [Nat.blt_eq]using h1,by simpa [Nat.blt_eq]using h2⟩).elim
      · rfl
     rw [this]
     exact⟨Nat.le_refl _,fun _=>rfl⟩
 · rw [Mem.ig m o hj]
   exact⟨Nat.le_refl _,fun _=>rfl⟩
def Mem.cC (m:Mem):Prop:=∀ i,m.n≤i→(m.gH i).ver=0
theorem qe.push {m m':Mem} {o:ak}(hf:m.cC) (h:m.push o=some m'):qe m m':=by
 obtain⟨_,h2,h3,h4⟩:=Mem.bR h
 refine⟨by omega,fun j=>?_⟩
 by_cases hj:j=m.n
 · subst hj
   rw [h3,hf _ (Nat.le_refl _)]
   exact⟨by simp,fun e=>by simp at e⟩
 · rw [h4 j hj]
   exact⟨Nat.le_refl _,fun _=>rfl⟩
theorem cC.put {m:Mem}(hf:m.cC) {i:Nat}(o:ak):(m.put i o).cC:=fun j hj=>by
 rw [Mem.fG]at hj
 by_cases hji:j=i
 · subst hji
   have:m.put j o=m:=by
    unfold Mem.put
    split
    · rename_i h1 h2
      have:j<m.n:=by simpa [Nat.blt_eq]using h1
      omega
    · rfl
   rw [this]
   exact hf j hj
 · rw [Mem.ig m o hji]
   exact hf j hj
theorem cC.push {m m':Mem}(hf:m.cC) {o:ak}(h:m.push o=some m'):m'.cC:=fun j hj=>by
 obtain⟨_,h2,h3,h4⟩:=Mem.bR h
 rw [h4 j (by omega)]
 exact hf j (by omega)
structure Env where
 c9:Nat→Nat
 base:Nat→Nat
 size:Nat→Nat
class az where
 kind:Nat→IntKind
 num:Nat→Int
variable [az]
def XC.den (β : Env):XC→Value
 | .bool b => .bool b
 | .int k n => .int k n
 | .flt k b => .float k b
 | .cplx k re im => .complex k re im
 | .str s => .string ⟨s.toArray⟩
 | .nilp => .pointer .none
 | .ptr i off => .pointer (some ⟨β.c9 i,β.base i+off,.none⟩)
 | .nils => .slice .none 0 0
 | .slice i off len (.exact c) => .slice (some ⟨β.c9 i,β.base i+off,.none⟩) len c
 | .slice i off len (.toEnd sz) => .slice (some ⟨β.c9 i,β.base i+off,.none⟩) len ((β.size i-off)/sz)
 | .nilm => .map .none
 | .map i => .map (some (β.c9 i))
 | .fn f => .func (.func f) #[] #[]
 | .bind g c=>match g.den β with
   | .func f a cs => .func f a (cs.push (c.den β))
   | v=>v
 | .nilf => .nilFunc
 | .nili => .nilIface
 | .atom i => .int (az.kind i) (az.num i)
def XC.ok (n:Nat):XC→Prop
 | .ptr i _=>i<n
 | .slice i _ _ _=>i<n
 | .map i=>i<n
 | .bind g c=>g.ok n∧c.ok n
 | _=>True
def X1.den (β : Env):X1→Value
 | .one c=>c.den β
 | .agg cs => .agg (cs.map (·.den β)).toArray
def X1.ok (n:Nat):X1→Prop
 | .one c=>c.ok n
 | .agg cs=>∀ c∈cs,c.ok n
def aQ (β : Env) (n:Nat):XV→Value→Prop
 | .undef,_=>True
 | .one c,v=>c.ok n∧v=c.den β
 | .agg cs,v=>(∀ c∈cs,c.ok n)∧v = .agg (cs.map (·.den β)).toArray
 | .tup xs,v=>(∀ x∈xs,x.ok n)∧v = .tuple (xs.map (·.den β)).toArray
def Ext (n:Nat) (β β':Env):Prop:=∀ i,i<n → β'.c9 i = β.c9 i ∧ β'.size i = β.size i ∧ β'.base i = β.base i
theorem Ext.refl (n:Nat) (β : Env):Ext n β β:=fun _ _=>⟨rfl,rfl,rfl⟩
theorem Ext.trans {n n':Nat} {β β' β'':Env}(h:Ext n β β') (h':Ext n' β' β'') (hn:n≤n'):Ext n β β'':=fun i hi=>
 ⟨(h' i (by omega)).1.trans (h i hi).1,(h' i (by omega)).2.1.trans (h i hi).2.1,(h' i (by omega)).2.2.trans (h i hi).2.2⟩
theorem XC.fY {n n':Nat}(h:n≤n'):∀ {c:XC},c.ok n→c.ok n':=by
 intro c
 induction c with
 | ptr i off=>intro h';exact Nat.lt_of_lt_of_le h' h
 | slice i off len cap=>intro h';exact Nat.lt_of_lt_of_le h' h
 | map i=>intro h';exact Nat.lt_of_lt_of_le h' h
 | bind g c ih1 ih2=>intro h';exact⟨ih1 h'.1,ih2 h'.2⟩
 | _=>intro _;trivial
theorem XC.jZ {n:Nat} {β β':Env}(h:Ext n β β'):∀ {c:XC},c.ok n→c.den β'=c.den β:=by
 intro c
 induction c with
 | ptr i off=>intro h';simp only [den,(h i h').1,(h i h').2.2]
 | slice i off len cap=>intro h';cases cap <;> simp only [den,(h i h').1,(h i h').2.1,(h i h').2.2]
 | map i=>intro h';simp only [den,(h i h').1]
 | bind g c ih1 ih2=>intro h';simp only [den,ih1 h'.1,ih2 h'.2]
 | _=>intro _;rfl
theorem gg {n:Nat} {β β':Env}(h:Ext n β β') {cs:List XC}(hc:∀ c∈cs,c.ok n):cs.map (·.den β')=cs.map (·.den β):=
 List.map_congr_left fun c hm=>XC.jZ h (hc c hm)
theorem X1.fY {n n':Nat}(h:n≤n'):∀ {x:X1},x.ok n→x.ok n'
 | .one _,h'=>XC.fY h h'
 | .agg _,h'=>fun c hc=>XC.fY h (h' c hc)
theorem X1.jZ {n:Nat} {β β':Env}(h:Ext n β β'):∀ {x:X1},x.ok n→x.den β'=x.den β
 | .one _,h'=>XC.jZ h h'
 | .agg cs,h'=>by simp only [den,gg h h']
theorem aQ.ext {β β':Env} {n n':Nat} {x:XV} {v:Value}(h:aQ β n x v) (he:Ext n β β') (hn:n≤n'):aQ β' n' x v:=by
 cases x with
 | undef=>trivial
 | one c=>exact⟨XC.fY hn h.1,h.2.trans (XC.jZ he h.1).symm⟩
 | agg cs=>exact⟨fun c hc=>XC.fY hn (h.1 c hc),h.2.trans (by rw [gg he h.1])⟩
 | tup xs=>
   refine⟨fun c hc=>X1.fY hn (h.1 c hc),h.2.trans ?_⟩
   have:xs.map (·.den β')=xs.map (·.den β):=List.map_congr_left fun c hm=>X1.jZ he (h.1 c hm)
   rw [this]
theorem aQ.rW {β : Env} {n:Nat} {x:X1} {v:Value}:aQ β n x.rW v↔x.ok n∧v=x.den β:=by
 cases x <;> exact Iff.rfl
def f4 (β : Env) (n lo sz:Nat):ak→Option Obj→Prop
 | .dead,_=>True
 | .cells vs elem opn ro,o=>∃ cs fr,o=some (.cells cs elem fr)∧cs.size=lo+sz∧(if opn then vs.length≤sz else vs.length=sz) ∧
    (ro=false→fr=(0,0)∧lo=0)∧(∀ c∈vs,c.ok n)∧(cs.toList.drop lo).take vs.length=vs.map (·.den β)
 | .map es,o=>∃(en:Array MapEntry) (clock:Nat),o=some (.map en clock)∧(∀ p∈es,p.1.ok n∧p.2.ok n)∧en.toList.map (fun e=>(e.key,e.val))=es.map fun p=>(p.1.den β,p.2.den β)
theorem f4.ext {β β':Env} {n n' lo sz:Nat} {x:ak} {o:Option Obj}(h:f4 β n lo sz x o) (he:Ext n β β') (hn:n≤n'):f4 β' n' lo sz x o:=by
 cases x with
 | dead=>trivial
 | cells vs elem opn ro=>
   obtain⟨cs,fr,h1,h2,h3,h4,h5,h6⟩:=h
   exact⟨cs,fr,h1,h2,h3,h4,fun c hc=>XC.fY hn (h5 c hc),by rw [h6,gg he h5]⟩
 | map es=>
   obtain⟨en,clock,h1,h2,h3⟩:=h
   refine⟨en,clock,h1,fun p hp=>⟨X1.fY hn (h2 p hp).1,X1.fY hn (h2 p hp).2⟩,h3.trans ?_⟩
   exact List.map_congr_left fun p hp=>by rw [X1.jZ he (h2 p hp).1,X1.jZ he (h2 p hp).2]
structure Rel (β : Env) (m:Mem) (w:World):Prop where
 bnd:m.n≤Mem.bound
 fresh:m.cC
 obj:∀ i,i<m.n→f4 β m.n (β.base i) (β.size i) (m.get i) w.heap[β.c9 i]?
 inj:∀ i j,i<m.n→j<m.n→(m.get i).own=true→(m.get j).live=true → β.c9 i = β.c9 j→i=j
def Jl (β : Env) (m:Mem) (k:Nat):Prop:=∃ i,i<m.n∧(m.get i).own=true ∧ β.c9 i=k
theorem Rel.lt {β : Env} {m:Mem} {w:World}(h:Rel β m w) {i:Nat}(hi:i<m.n) (hl:(m.get i).live=true) : β.c9 i<w.heap.size:=by
 have h1:=h.obj i hi
 cases hg:m.get i with
 | dead=>rw [hg]at hl;cases hl
 | cells vs elem opn ro=>
   rw [hg]at h1
   obtain⟨cs,fr,h2,_⟩:=h1
   exact(Array.getElem?_eq_some_iff.1 h2).1
 | map es=>
   rw [hg]at h1
   obtain⟨en,clock,h2,_⟩:=h1
   exact(Array.getElem?_eq_some_iff.1 h2).1
structure Step (β : Env) (m:Mem) (w:World) (β':Env) (m':Mem) (w':World):Prop where
 le:m.n≤m'.n
 ext:Ext m.n β β'
 rel:Rel β' m' w'
 os:w'.os=w.os
 tape:w'.tape=w.tape
 output:w'.output=w.output
 size:w.heap.size≤w'.heap.size
 frame:∀ k,k<w.heap.size→¬Jl β m k→w'.heap[k]? = w.heap[k]?
 vn:∀ k,k<w.heap.size→Jl β' m' k→Jl β m k
theorem Step.refl {β : Env} {m:Mem} {w:World}(h:Rel β m w):Step β m w β m w:=
 ⟨Nat.le_refl _,Ext.refl _ _,h,rfl,rfl,rfl,Nat.le_refl _,fun _ _ _=>rfl,fun _ _ h=>h⟩
theorem Step.trans {β β' β'':Env} {m m' m'':Mem} {w w' w'':World}(h:Step β m w β' m' w') (g:Step β' m' w' β'' m'' w''):Step β m w β'' m'' w'':=
 ⟨Nat.le_trans h.le g.le,h.ext.trans g.ext h.le,g.rel,g.os.trans h.os,g.tape.trans h.tape,g.output.trans h.output,Nat.le_trans h.size g.size,
  fun k hk hn=>(g.frame k (Nat.lt_of_lt_of_le hk h.size) (fun hi=>hn (h.vn k hk hi))).trans (h.frame k hk hn),
  fun k hk hi=>h.vn k hk (g.vn k (Nat.lt_of_lt_of_le hk h.size) hi)⟩
theorem Step.QM {β β':Env} {m m':Mem} {w w':World}(h:Step β m w β' m' w') {x:XV} {v:Value}(hv:aQ β m.n x v):aQ β' m'.n x v:=
 hv.ext h.ext h.le
theorem Step.drew {β : Env} {m:Mem} {w:World}(h:Rel β m w):Step β m w β m {w with drawn:=w.drawn+1}:=
 ⟨Nat.le_refl _,Ext.refl _ _,⟨h.bnd,h.fresh,h.obj,h.inj⟩,rfl,rfl,rfl,Nat.le_refl _,fun _ _ _=>rfl,fun _ _ h=>h⟩
theorem Step.push {β : Env} {m m':Mem} {w:World}(h:Rel β m w) {o:ak}(hp:m.push o=some m') {ob:Obj} {sz:Nat}
 (ho:∀ β',Ext m.n β β'→f4 β' m'.n 0 sz o (some ob)) :
 ∃ β',Step β m w β' m' (w.alloc ob) ∧ β'.c9 m.n=w.heap.size ∧ β'.size m.n=sz ∧ β'.base m.n=0:=by
 obtain⟨h1,h2,h3,h4⟩:=Mem.bR hp
 let β':Env:=⟨fun i=>if i=m.n then w.heap.size else β.c9 i,fun i=>if i=m.n then 0 else β.base i,fun i=>if i=m.n then sz else β.size i⟩
 have hext:Ext m.n β β':=fun i hi=>⟨by simp only [β'];rw [if_neg (by omega)],by simp only [β'];rw [if_neg (by omega)],by simp only [β'];rw [if_neg (by omega)]⟩
 have hblk : β'.c9 m.n=w.heap.size:=by simp [β']
 have hsz : β'.size m.n=sz:=by simp [β']
 have hba : β'.base m.n=0:=by simp [β']
 have hget:∀ j,j≠m.n→m'.get j=m.get j:=fun j hj=>by unfold Mem.get;rw [h4 j hj]
 have hgn:m'.get m.n=o:=by unfold Mem.get;rw [h3]
 have hheap:(w.alloc ob).heap=w.heap.push ob:=rfl
 refine⟨β',⟨by omega,hext,⟨by omega,cC.push h.fresh hp,?_,?_⟩,rfl,rfl,rfl,by simp [hheap],?_,?_⟩,hblk,hsz,hba⟩
 · intro i hi
   by_cases hin:i=m.n
   · subst hin
     rw [hgn,hblk,hsz,hba,hheap,Array.getElem?_push,if_pos rfl]
     exact ho β' hext
   · rw [hget i hin,(hext i (by omega)).1,(hext i (by omega)).2.1,(hext i (by omega)).2.2]
     by_cases hlv:(m.get i).live=true
     · have hlt:=h.lt (i:=i) (by omega) hlv
       rw [hheap,Array.getElem?_push,if_neg (by omega)]
       exact(h.obj i (by omega)).ext hext (by omega)
     · cases hg:m.get i with
       | dead=>trivial
       | cells vs elem opn ro=>rw [hg]at hlv;simp [ak.live]at hlv
       | map es=>rw [hg]at hlv;simp [ak.live]at hlv
 · intro i j hi hj hli hlj he
   by_cases hin:i=m.n
   · by_cases hjn:j=m.n
     · omega
     · rw [hget j hjn]at hlj
       have hlt:=h.lt (i:=j) (by omega) hlj
       rw [hin,hblk,(hext j (by omega)).1]at he
       omega
   · by_cases hjn:j=m.n
     · rw [hget i hin]at hli
       have hlt:=h.lt (i:=i) (by omega) (ak.dg hli)
       rw [hjn,hblk,(hext i (by omega)).1]at he
       omega
     · rw [hget i hin]at hli
       rw [hget j hjn]at hlj
       rw [(hext i (by omega)).1,(hext j (by omega)).1]at he
       exact h.inj i j (by omega) (by omega) hli hlj he
 · intro k hk _
   rw [hheap,Array.getElem?_push,if_neg (by omega)]
 · intro k hk ⟨i,hi,hli,hbi⟩
   by_cases hin:i=m.n
   · rw [hin,hblk]at hbi;omega
   · rw [hget i hin]at hli
     rw [(hext i (by omega)).1]at hbi
     exact⟨i,by omega,hli,hbi⟩
theorem Step.put {β : Env} {m:Mem} {w w':World}(h:Rel β m w) {i:Nat}(hi:i<m.n) (hl:(m.get i).own=true) {o:ak}
 (hos:w'.os=w.os) (htape:w'.tape=w.tape) (hout:w'.output=w.output) (hsz:w'.heap.size=w.heap.size)
 (hother:∀ k,k ≠ β.c9 i→w'.heap[k]? = w.heap[k]?) (ho:f4 β m.n (β.base i) (β.size i) o w'.heap[β.c9 i]?):Step β m w β (m.put i o) w':=by
 have hib:i<Mem.bound:=Nat.lt_of_lt_of_le hi h.bnd
 have hlive:∀ j,((m.put i o).get j).live=true→(m.get j).live=true:=fun j hj=>by
  by_cases hji:j=i
  · subst hji;exact ak.dg hl
  · rwa [Mem.f8 m o hji]at hj
 have hown:∀ j,((m.put i o).get j).own=true→(m.get j).own=true:=fun j hj=>by
  by_cases hji:j=i
  · subst hji;exact hl
  · rwa [Mem.f8 m o hji]at hj
 refine⟨by rw [Mem.fG];exact Nat.le_refl _,Ext.refl _ _,⟨by rw [Mem.fG];exact h.bnd,cC.put h.fresh _,?_,?_⟩,hos,htape,hout,by omega,?_,?_⟩
 · intro j hj
   rw [Mem.fG]at hj ⊢
   by_cases hji:j=i
   · subst hji;rw [Mem.ij m o hi hib];exact ho
   · rw [Mem.f8 m o hji]
     by_cases hlv:(m.get j).live=true
     · rw [hother _ (fun e=>hji (h.inj i j hi hj hl hlv e.symm).symm)]
       exact h.obj j hj
     · cases hg:m.get j with
       | dead=>trivial
       | cells vs elem opn ro=>rw [hg]at hlv;simp [ak.live]at hlv
       | map es=>rw [hg]at hlv;simp [ak.live]at hlv
 · intro a b ha hb hla hlb he
   rw [Mem.fG]at ha hb
   exact h.inj a b ha hb (hown a hla) (hlive b hlb) he
 · intro k hk hn
   exact hother k (fun e=>hn ⟨i,hi,hl,e.symm⟩)
 · intro k _ ⟨j,hj,hlj,hb⟩
   rw [Mem.fG]at hj
   exact⟨j,hj,hown j hlj,hb⟩
theorem Step.kill {β : Env} {m:Mem} {w:World}(h:Rel β m w) {i:Nat}(hi:i<m.n):Step β m w β (m.put i .dead) w:=by
 have hib:i<Mem.bound:=Nat.lt_of_lt_of_le hi h.bnd
 have hlive:∀ j,((m.put i .dead).get j).live=true→(m.get j).live=true∧j≠i:=fun j hj=>by
  by_cases hji:j=i
  · subst hji;rw [Mem.ij m _ hi hib]at hj;cases hj
  · rw [Mem.f8 m _ hji]at hj;exact⟨hj,hji⟩
 have hown:∀ j,((m.put i .dead).get j).own=true→(m.get j).own=true:=fun j hj=>by
  by_cases hji:j=i
  · subst hji;rw [Mem.ij m _ hi hib]at hj;cases hj
  · rwa [Mem.f8 m _ hji]at hj
 refine⟨by rw [Mem.fG];exact Nat.le_refl _,Ext.refl _ _,⟨by rw [Mem.fG];exact h.bnd,cC.put h.fresh _,?_,?_⟩,rfl,rfl,rfl,Nat.le_refl _,fun _ _ _=>rfl,?_⟩
 · intro j hj
   rw [Mem.fG]at hj ⊢
   by_cases hji:j=i
   · subst hji;rw [Mem.ij m _ hi hib];trivial
   · rw [Mem.f8 m _ hji];exact h.obj j hj
 · intro a b ha hb hla hlb he
   rw [Mem.fG]at ha hb
   exact h.inj a b ha hb (hown a hla) (hlive b hlb).1 he
 · intro k _ ⟨j,hj,hlj,hb⟩
   rw [Mem.fG]at hj
   exact⟨j,hj,hown j hlj,hb⟩
end Go.Xm
namespace Go.Xm
variable [az]
inductive c_ {α γ : Type}(R : α → γ→Prop):List α→List γ→Prop where
 | nil:c_ R [] []
 | cons {a : α} {b : γ} {l:List α} {k:List γ}:R a b→c_ R l k→c_ R (a::l) (b::k)
theorem c_.mono {α γ : Type} {R S : α → γ→Prop}(hRS:∀ a b,R a b→S a b):∀ {l:List α} {k:List γ},c_ R l k→c_ S l k
 | _,_,.nil => .nil
 | _,_,.cons h t => .cons (hRS _ _ h) (t.mono hRS)
theorem c_.length {α γ : Type} {R : α → γ→Prop}:∀ {l:List α} {k:List γ},c_ R l k→l.length=k.length
 | _,_,.nil=>rfl
 | _,_,.cons _ t=>by simp [t.length]
theorem c_.append {α γ : Type} {R : α → γ→Prop}:∀ {l l':List α} {k k':List γ},c_ R l k→c_ R l' k'→c_ R (l++l') (k++k')
 | _,_,_,_,.nil,h'=>h'
 | _,_,_,_,.cons h t,h' => .cons h (t.append h')
theorem c_.qH {α γ δ : Type} {R : α → γ→Prop}(f : δ → α) (g : δ → γ):∀(l:List δ),(∀ x∈l,R (f x) (g x))→c_ R (l.map f) (l.map g)
 | [],_ => .nil
 | x::l,h => .cons (h x (List.mem_cons_self ..)) (c_.qH f g l fun y hy=>h y (List.mem_cons_of_mem _ hy))
def n_:Value→Option XC
 | .bool b=>some (.bool b)
 | .int k n=>some (.int k n)
 | .float k b=>some (.flt k b)
 | .complex k a b=>some (.cplx k a b)
 | .string s=>some (.str s.data.toList)
 | .pointer .none=>some .nilp
 | .slice .none 0 0=>some .nils
 | .map .none=>some .nilm
 | .nilFunc=>some .nilf
 | .nilIface=>some .nili
 | _ => .none
theorem pV {v:Value} {c:XC}(h:n_ v=some c) (β : Env) (n:Nat):c.ok n∧v=c.den β:=by
 unfold n_ at h
 split at h <;> first
  | (cases h;exact⟨trivial,rfl⟩)
  | (cases h)
theorem oa:∀ {vs:List Value} {cs:List XC},vs.mapM n_=some cs→∀(β : Env) (n:Nat),(∀ c∈cs,c.ok n)∧vs=cs.map (·.den β)
 | [],cs,h,β,n=>by simp at h;subst h;simp
 | v::vs,cs,h,β,n=>by
   simp only [List.mapM_cons,Option.bind_eq_bind,Option.pure_def,Option.bind_eq_some_iff,Option.some.injEq]at h
   obtain⟨c,h1,cs',h2,rfl⟩:=h
   obtain⟨h3,h4⟩:=oa h2 β n
   obtain⟨h5,h6⟩:=pV h1 β n
   refine⟨fun x hx=>?_,by simp [h6.symm,h4.symm]⟩
   rcases List.mem_cons.1 hx with rfl|hx
   · exact h5
   · exact h3 x hx
def pH (P:Program) (t:TypeId):Option (List XC):=
 match P.info? t with
 | some i=>match i.zero with
   | some v=>v.cells.toList.mapM n_
   | .none => .none
 | .none => .none
def cn (P:Program) (t:TypeId):Option Nat:=(P.info? t).map (·.size)
def fT (P:Program) (t:TypeId):Option Bool:=
 match P.underlying t with
 | some (.struct _)=>some true
 | some (.array _ _)=>some true
 | some _=>some false
 | .none => .none
def cA:XV→Option (List XC)
 | .one c=>some [c]
 | .agg cs=>some cs
 | _ => .none
theorem XC.vJ (β : Env) (c:XC):(c.den β).cells = #[c.den β]∧(c.den β).oneCell'=true:=by
 induction c with
 | slice i off len cap=>cases cap <;> exact⟨rfl,rfl⟩
 | bind g c ih1 _=>
   unfold XC.den
   cases hg:g.den β <;> simp only <;> first
    | exact⟨rfl,rfl⟩
    | (rw [hg]at ih1;exact ih1)
 | _=>exact⟨rfl,rfl⟩
theorem p_ {β : Env} {n:Nat} {x:XV} {v:Value} {cs:List XC}(h:cA x=some cs) (hr:aQ β n x v) :
 v.cells=(cs.map (·.den β)).toArray∧∀ c∈cs,c.ok n:=by
 cases x with
 | one c=>
   simp only [cA,Option.some.injEq]at h
   subst h
   obtain⟨h1,rfl⟩:=hr
   exact⟨by simp [(XC.vJ β c).1],by simpa using h1⟩
 | agg cs'=>
   simp only [cA,Option.some.injEq]at h
   subst h
   obtain⟨h1,rfl⟩:=hr
   exact⟨rfl,h1⟩
 | undef=>cases h
 | tup vs=>cases h
def ai (g:Nat→XV):Operand→XV
 | .tmp t=>g t
 | .const v=>match n_ v with
   | some c => .one c
   | .none => .undef
 | .func f => .one (.fn f)
 | .global _ => .undef
structure gM (β : Env) (n nt:Nat) (g:Nat→XV) (a:Array Value):Prop where
 size:a.size=nt
 small:nt<1000000
 rel:∀ t,t<nt→aQ β n (g t) (a.getD t undef)
 out:∀ t,nt≤t→g t = .undef
abbrev lL (β : Env) (n nt:Nat) (r:T XV) (a:Array Value):Prop:=gM β n nt (r.get .undef) a
theorem gM.eval {β : Env} {n nt:Nat} {g:Nat→XV} {a:Act}(h:gM β n nt g a.tmps) (x:Operand):aQ β n (ai g x) (a.eval x):=by
 cases x with
 | tmp t=>
   by_cases ht:t<nt
   · exact h.rel t ht
   · simp only [ai,h.out t (Nat.le_of_not_lt ht)];trivial
 | const v=>
   simp only [ai,Act.eval]
   split
   · rename_i c hc;exact pV hc β n
   · trivial
 | func f=>exact⟨trivial,rfl⟩
 | global g=>trivial
theorem gM.ext {β β':Env} {n n' nt:Nat} {g:Nat→XV} {a:Array Value}(h:gM β n nt g a) (he:Ext n β β') (hn:n≤n'):gM β' n' nt g a:=
 ⟨h.size,h.small,fun t ht=>(h.rel t ht).ext he hn,h.out⟩
def nD (nt:Nat) (r:T XV) (d:Option Nat) (v:XV):T XV:=
 match d with
 | some d=>if d<nt then r.set .undef 31 d v else r
 | .none=>r
theorem lL.set {β : Env} {n nt:Nat} {r:T XV} {a:Act}(h:lL β n nt r a.tmps) (d:Option Nat) {x:XV} {v:Value}(hv:aQ β n x v) :
 lL β n nt (nD nt r d x) (a.put d v).tmps:=by
 cases d with
 | none=>exact h
 | some d =>
   simp only [nD,Act.put]
   split
   · rename_i hd
     have hs:=h.small
     refine⟨by simpa using h.size,h.small,fun t ht=>?_,fun t ht=>?_⟩
     · by_cases htd:t=d
       · subst htd
         rw [T.f9 _ _ _ _ _ (by omega)]
         have:(a.tmps.setIfInBounds t v).getD t undef=v:=by simp [Array.getD_eq_getD_getElem?,h.size,hd]
         rw [this];exact hv
       · rw [T.fu _ _ _ _ _ _ htd]
         have:(a.tmps.setIfInBounds d v).getD t undef=a.tmps.getD t undef:=by
          simp [Array.getD_eq_getD_getElem?,Array.getElem?_setIfInBounds_ne (Ne.symm htd)]
         rw [this];exact h.rel t ht
     · rw [T.fu _ _ _ _ _ _ (by omega)];exact h.out t ht
   · rename_i hd
     refine⟨by simpa using h.size,h.small,fun t ht=>?_,h.out⟩
     have:(a.tmps.setIfInBounds d v).getD t undef=a.tmps.getD t undef:=by
      simp [Array.getD_eq_getD_getElem?,Array.getElem?_setIfInBounds_ne (show d≠t by omega)]
     rw [this];exact h.rel t ht
def je (k:IntKind) (n:Int):Int:=
 match k,n with
 | .i64,.ofNat m=>if Nat.blt m 9223372036854775808 then .ofNat m else IntKind.wrap .i64 n
 | .i64,.negSucc m=>if Nat.blt m 9223372036854775808 then .negSucc m else IntKind.wrap .i64 n
 | .u8,.ofNat m => .ofNat (m%256)
 | .u64,.ofNat m => .ofNat (m%18446744073709551616)
 | .u16,.ofNat m => .ofNat (m%65536)
 | .u32,.ofNat m => .ofNat (m%4294967296)
 | k,n=>k.wrap n
theorem cH (k:IntKind) (n:Int):je k n=k.wrap n:=by
 unfold je
 split
 · rename_i m
   split
   · rename_i h
     have h':m<9223372036854775808:=by simpa [Nat.blt_eq]using h
     exact(IntWalk.i64_in (Int.ofNat m) ⟨by have:(0:Int)≤Int.ofNat m:=Int.natCast_nonneg m;omega,by have:Int.ofNat m=(m:Int):=rfl;omega⟩).symm
   · rfl
 · rename_i m
   split
   · rename_i h
     have h':m<9223372036854775808:=by simpa [Nat.blt_eq]using h
     exact(IntWalk.i64_in (Int.negSucc m) ⟨by omega,by omega⟩).symm
   · rfl
 · rw [IntKind.wrap_u8];rfl
 · rw [IntKind.wrap_u64];rfl
 · rw [IntKind.wrap_u16];rfl
 · rw [IntKind.wrap_u32];rfl
 · rfl
end Go.Xm
namespace Go.Xm
variable [az]
def dN (k k':IntKind) (x:Option XC):Option XC:=if k=k' then x else .none
def bJ (op:BinOp) (k k':IntKind) (a b:Int):Option XC:=
 match op with
 | .shl=>if b<0 then .none else some (.int k (je k (a*Int.ofNat (2^(min b.toNat k.bits)))))
 | .shr=>if b<0 then .none else some (.int k (a.fdiv (Int.ofNat (2^(min b.toNat k.bits)))))
 | .add=>dN k k' (some (.int k (je k (a+b))))
 | .sub=>dN k k' (some (.int k (je k (a-b))))
 | .mul=>dN k k' (some (.int k (je k (a*b))))
 | .quo=>dN k k' (if b=0 then .none else some (.int k (je k (a.tdiv b))))
 | .rem=>dN k k' (if b=0 then .none else some (.int k (a.tmod b)))
 | .and=>dN k k' (some (.int k (je k ((BitVec.ofInt k.bits a &&& BitVec.ofInt k.bits b).toNat))))
 | .or=>dN k k' (some (.int k (je k ((BitVec.ofInt k.bits a ||| BitVec.ofInt k.bits b).toNat))))
 | .xor=>dN k k' (some (.int k (je k ((BitVec.ofInt k.bits a ^^^ BitVec.ofInt k.bits b).toNat))))
 | .andNot=>dN k k' (some (.int k (je k ((BitVec.ofInt k.bits a &&& ~~~(BitVec.ofInt k.bits b)).toNat))))
 | .eql=>dN k k' (some (.bool (a == b)))
 | .neq=>dN k k' (some (.bool (a != b)))
 | .lss=>dN k k' (some (.bool (decide (a<b))))
 | .leq=>dN k k' (some (.bool (decide (a≤b))))
 | .gtr=>dN k k' (some (.bool (decide (b<a))))
 | .geq=>dN k k' (some (.bool (decide (b≤a))))
theorem zE (n:Nat):Int.ofNat (2^n)=(2:Int)^n:=by simp
theorem lG {P:Program} {op:BinOp} {t:TypeId} {k k':IntKind} {a b:Int} {c:XC}(h:bJ op k k' a b=some c) (β : Env) (n:Nat) (w:World) :
 (binOp op t (.int k a) (.int k' b)).run P w = .ok (c.den β) w∧c.ok n:=by
 cases op <;> simp only [bJ,dN]at h
 case shl=>
  split at h
  · cases h
  · rename_i hb
    cases h
    simp [binOp,Op.shift,hb,XC.den,XC.ok,cH]
 case shr=>
  split at h
  · cases h
  · rename_i hb
    cases h
    simp [binOp,Op.shift,hb,XC.den,XC.ok]
 case quo=>
  split at h
  · rename_i hk
    subst hk
    split at h
    · cases h
    · rename_i hb
      cases h
      simp [binOp,Op.intDiv,hb,XC.den,XC.ok,cH]
  · cases h
 case rem=>
  split at h
  · rename_i hk
    subst hk
    split at h
    · cases h
    · rename_i hb
      cases h
      simp [binOp,Op.intDiv,hb,XC.den,XC.ok]
  · cases h
 all_goals
  split at h
  · rename_i hk
    subst hk
    cases h
    simp [binOp,Op.intArith,Op.intBits,Op.intCmp,XC.den,XC.ok,cH]
  · cases h
def uP (d:TypeDesc) (x y:XC):Option Bool:=
 match x,y with
 | .bool a,.bool b=>(match d with | .bool=>some (a == b)|_ => .none)
 | .int k a,.int k' b=>(match d with | .int _=>if k=k' then some (a == b)else .none|_ => .none)
 | .flt k a,.flt k' b=>(match d with | .float _=>if k=k' then some (Op.floatEq k a b)else .none|_ => .none)
 | .cplx k a b,.cplx k' a' b'=>(match d with | .complex _=>if k=k' then some (Op.floatEq k a a' && Op.floatEq k b b')else .none|_ => .none)
 | .str a,.str b=>(match d with | .string=>some (a == b)|_ => .none)
 | .nilp,.nilp=>(match d with | .pointer _=>some true|_ => .none)
 | .nilp,.ptr _ _=>(match d with | .pointer _=>some false|_ => .none)
 | .ptr _ _,.nilp=>(match d with | .pointer _=>some false|_ => .none)
 | .nils,.nils=>(match d with | .slice _=>some true|_ => .none)
 | .nils,.slice _ _ _ _=>(match d with | .slice _=>some false|_ => .none)
 | .slice _ _ _ _,.nils=>(match d with | .slice _=>some false|_ => .none)
 | .nilm,.nilm=>(match d with | .map _ _=>some true|_ => .none)
 | .nilm,.map _=>(match d with | .map _ _=>some false|_ => .none)
 | .map _,.nilm=>(match d with | .map _ _=>some false|_ => .none)
 | .nilf,.nilf=>(match d with | .func _ _ _=>some true|_ => .none)
 | .atom i,.atom j=>(match d with | .int _=>if i=j then some true else .none|_ => .none)
 | _,_ => .none
theorem vE (a b:List UInt8):((⟨a.toArray⟩:ByteArray) == ⟨b.toArray⟩)=(a == b):=by
 rw [beq_toListBytes,ByteArray.toList_eq,ByteArray.toList_eq]
theorem B4 {P:Program} {d:TypeDesc} {t:TypeId} {x y:XC} {r:Bool}(hd:P.underlying t=some d) (h:uP d x y=some r) (β : Env) (w:World) (f:Nat) :
 (Op.equalIn (f+1) t (x.den β) (y.den β)).run P w = .ok r w:=by
 rw [Op.equalIn]
 simp only [Sem.run_bind,run_underlying hd,Result.andThen_ok]
 unfold uP at h
 split at h
 all_goals try (cases h;done)
 case h_1=>split at h <;> cases h;rfl
 case h_2=>
  split at h
  · split at h <;> cases h
    rename_i hk;subst hk
    simp only [XC.den,if_true,Sem.run_pure]
  · cases h
 case h_3=>
  split at h
  · split at h <;> cases h
    rename_i hk;subst hk
    simp only [XC.den,if_true,Sem.run_pure]
  · cases h
 case h_4=>
  split at h
  · split at h <;> cases h
    rename_i hk;subst hk
    simp only [XC.den,if_true,Sem.run_pure]
  · cases h
 case h_5=>split at h <;> cases h;simp only [XC.den,Sem.run_pure,vE]
 case h_6=>split at h <;> cases h;rfl
 case h_7=>split at h <;> cases h;rfl
 case h_8=>split at h <;> cases h;rfl
 case h_9=>split at h <;> cases h;rfl
 case h_10 i o l cap=>split at h <;> cases h;cases cap <;> rfl
 case h_11 i o l cap=>split at h <;> cases h;cases cap <;> rfl
 case h_12=>split at h <;> cases h;rfl
 case h_13=>split at h <;> cases h;rfl
 case h_14=>split at h <;> cases h;rfl
 case h_15=>split at h <;> cases h;rfl
 case h_16=>
  split at h
  · split at h <;> cases h
    rename_i hk;subst hk
    simp only [XC.den,if_true,Sem.run_pure,BEq.rfl]
  · cases h
def g_ (P:Program) (t:TypeId) (cs:List XC) (off:Nat):Option X1:=
 match fT P t with
 | some true=>match cn P t with
   | some s=>some (.agg ((cs.drop off).take s))
   | .none => .none
 | some false=>match cs[off]? with
   | some c=>some (.one c)
   | .none => .none
 | .none => .none
theorem nf {P:Program} {t:TypeId} {b:Bool}(h:fT P t=some b) (w:World):(isAgg t).run P w = .ok b w:=by
 unfold fT at h
 split at h
 · rename_i hu;cases h;simp [isAgg,run_underlying hu]
 · rename_i hu;cases h;simp [isAgg,run_underlying hu]
 · rename_i d h1 h2 hu
   cases h
   simp only [isAgg,Sem.run_bind,run_underlying hu,Result.andThen_ok]
   cases d <;> first|rfl|(exact(h1 _ rfl).elim)|(exact(h2 _ _ rfl).elim)
 · cases h
theorem b_ {P:Program} {t:TypeId} {s:Nat}(h:cn P t=some s) (w:World):(sizeOf t).run P w = .ok s w:=by
 unfold cn at h
 cases hi:P.info? t with
 | none=>rw [hi]at h;cases h
 | some i=>
   rw [hi]at h
   simp only [Option.map_some,Option.some.injEq]at h
   simp [sizeOf,typeInfo,hi,h]
theorem vu {α γ : Type}(f : α → γ) (cs:List α) (off s:Nat):(cs.map f).toArray.extract off (off+s)=(((cs.drop off).take s).map f).toArray:=by
 simp [List.map_take,List.map_drop]
theorem gw {P:Program} {t:TypeId} {cs:List XC} {off:Nat} {x:X1}(h:g_ P t cs off=some x) {n:Nat}(hc:∀ c∈cs,c.ok n) (β : Env) (w:World) :
 (part t (cs.map (·.den β)).toArray off).run P w = .ok (x.den β) w∧x.ok n:=by
 unfold g_ at h
 split at h
 · rename_i ha
   split at h
   · rename_i s hs
     cases h
     refine⟨?_,fun c hm=>hc c (List.mem_of_mem_drop (List.mem_of_mem_take hm))⟩
     simp only [part,Sem.run_bind,nf ha,Result.andThen_ok,if_true,b_ hs,Sem.run_pure,X1.den,vu]
   · cases h
 · rename_i ha
   split at h
   · rename_i c hg
     cases h
     refine⟨?_,hc c (List.mem_of_getElem? hg)⟩
     have hg':(cs.map (·.den β)).toArray[off]? = some (c.den β):=by simp [hg]
     simp only [part,Sem.run_bind,nf ha,Result.andThen_ok,Bool.false_eq_true,if_false,hg',Sem.run_pure,X1.den]
   · cases h
 · cases h
def ka (P:Program) (eq:TypeId→X1→X1→Option Bool) (xs ys:List XC):List Field→Option Bool
 | []=>some true
 | f :: fs=>
   if f.name ≠ "_" then
    match g_ P f.type xs f.offset,g_ P f.type ys f.offset with
    | some a,some b=>match eq f.type a b with
      | some true=>ka P eq xs ys fs
      | some false=>some false
      | .none => .none
    | _,_ => .none
   else ka P eq xs ys fs
def i7 (P:Program) (eq:TypeId→X1→X1→Option Bool) (elem:TypeId) (n:Nat) (xs ys:List XC):Nat→Nat→Option Bool
 | _,0=>some true
 | i,k+1=>
   match g_ P elem xs (i*n),g_ P elem ys (i*n)with
   | some a,some b=>match eq elem a b with
     | some true=>i7 P eq elem n xs ys (i+1) k
     | some false=>some false
     | .none => .none
   | _,_ => .none
def bW (P:Program):Nat→TypeId→X1→X1→Option Bool
 | 0,_,_,_ => .none
 | d + 1,t,x,y=>
   match P.underlying t with
   | some (.struct fs)=>match x,y with
     | .agg xs,.agg ys=>if P.stoodInHeld t then .none else ka P (bW P d) xs ys fs.toList
     | _,_ => .none
   | some (.array len elem)=>match x,y,cn P elem with
     | .agg xs,.agg ys,some n=>i7 P (bW P d) elem n xs ys 0 len
     | _,_,_ => .none
   | some ds=>match x,y with
     | .one a,.one b=>uP ds a b
     | _,_ => .none
   | .none => .none
def w8 (P:Program) (d:Nat):Prop:=∀ t x y r,bW P d t x y=some r→∀(β : Env) (n:Nat),x.ok n→y.ok n→∀(w:World) (f:Nat),d≤f→(Op.equalIn f t (x.den β) (y.den β)).run P w = .ok r w
theorem jW {P:Program} {d:Nat}(he:w8 P d) {xs ys:List XC} {n:Nat}(hx:∀ c∈xs,c.ok n) (hy:∀ c∈ys,c.ok n) (β : Env) (w:World) (f:Nat) (hf:d≤f) :
 ∀(fs:List Field) (r:Bool),ka P (bW P d) xs ys fs=some r→(Op.eqFields f (xs.map (·.den β)).toArray (ys.map (·.den β)).toArray fs).run P w = .ok r w
 | [],r,h=>by simp only [ka,Option.some.injEq]at h;subst h;rfl
 | fd :: fs,r,h=>by
   unfold ka at h
   unfold Op.eqFields
   by_cases hn:fd.name ≠ "_"
   · rw [if_pos hn]at h ⊢
     split at h
     · rename_i a b ha hb
       obtain⟨ha1,ha2⟩:=gw ha hx β w
       obtain⟨hb1,hb2⟩:=gw hb hy β w
       split at h
       · rename_i hr
         simp only [Sem.run_bind,ha1,hb1,Result.andThen_ok,he _ _ _ _ hr β n ha2 hb2 w f hf,Sem.run_ite,Bool.not_true,Bool.false_eq_true,if_false]
         exact jW he hx hy β w f hf fs r h
       · rename_i hr
         cases h
         simp only [Sem.run_bind,ha1,hb1,Result.andThen_ok,he _ _ _ _ hr β n ha2 hb2 w f hf,Sem.run_ite,Bool.not_false,if_true,Sem.run_pure]
       · cases h
     · cases h
   · rw [if_neg hn]at h ⊢
     exact jW he hx hy β w f hf fs r h
def mM (elem:TypeId) (n d:Nat) (xs ys:Array Value):Nat→Nat→Sem Bool
 | _,0=>pure true
 | i,k+1=>do
   let a ←part elem xs (i*n)
   let b ←part elem ys (i*n)
   let r ←Op.equalIn d elem a b
   if(!r)=true then pure false else mM elem n d xs ys (i+1) k
theorem run_equalIn_array {P:Program}(w:World) (d:Nat) (t:TypeId) (len:Nat) (elem:TypeId) (n:Nat) (xs ys:Array Value) (ht:P.underlying t=some (.array len elem)) (hs:cn P elem=some n) :
 (Op.equalIn (d+1) t (.agg xs) (.agg ys)).run P w=(mM elem n d xs ys 0 len).run P w:=by
 simp only [Op.equalIn,Sem.run_bind,run_underlying ht,Result.andThen_ok,b_ hs]
 rw [Std.Legacy.Range.forIn_eq_forIn_range']
 simp only [Std.Legacy.Range.size,Nat.sub_zero,Nat.add_sub_cancel,Nat.div_one]
 have key : ∀(K:Option Bool × PUnit→World→Result Bool) (_:∀ b w,K (some b,()) w = .ok b w) (_:∀ w,K (.none,()) w = .ok true w) (k i:Nat) (w:World),
  ((forIn (List.range' i k) ((.none,()):Option Bool × PUnit) fun i (_:Option Bool × PUnit)=>do
     let a ←part elem xs (i*n)
     let b ←part elem ys (i*n)
     let r ←Op.equalIn d elem a b
     if(!r)=true then pure (ForInStep.done (some false,()))else pure (ForInStep.yield (.none,())):Sem _).run P w).andThen K =
  (mM elem n d xs ys i k).run P w:=by
  intro K hK1 hK2 k
  induction k with
  | zero=>intro i w;simp [mM,hK2]
  | succ k ih=>
    intro i w
    simp only [List.range'_succ,List.forIn_cons,mM,Sem.run_bind]
    generalize (part elem xs (i*n)).run P w=r1
    cases r1 with
    | halt x w1=>simp [Result.andThen]
    | ok a w1=>
      simp only [Result.andThen_ok]
      generalize (part elem ys (i*n)).run P w1=r2
      cases r2 with
      | halt x w1=>simp [Result.andThen]
      | ok b w2=>
        simp only [Result.andThen_ok]
        generalize (Op.equalIn d elem a b).run P w2=r3
        cases r3 with
        | halt x w1=>simp [Result.andThen]
        | ok r w3=>
          cases r
          · simp [hK1]
          · simp only [Result.andThen_ok,Bool.not_true,Bool.false_eq_true,if_false,Sem.run_pure]
            exact ih (i+1) w3
 exact key _ (fun _ _=>rfl) (fun _=>rfl) len 0 w
theorem oB {P:Program} {d:Nat}(he:w8 P d) {elem:TypeId} {s:Nat} {xs ys:List XC} {n:Nat}(hx:∀ c∈xs,c.ok n) (hy:∀ c∈ys,c.ok n) (β : Env) (w:World) (f:Nat) (hf:d≤f) :
 ∀(k i:Nat) (r:Bool),i7 P (bW P d) elem s xs ys i k=some r→(mM elem s f (xs.map (·.den β)).toArray (ys.map (·.den β)).toArray i k).run P w = .ok r w
 | 0,i,r,h=>by simp only [i7,Option.some.injEq]at h;subst h;rfl
 | k + 1,i,r,h=>by
   unfold i7 at h
   unfold mM
   split at h
   · rename_i a b ha hb
     obtain⟨ha1,ha2⟩:=gw ha hx β w
     obtain⟨hb1,hb2⟩:=gw hb hy β w
     split at h
     · rename_i hr
       simp only [Sem.run_bind,ha1,hb1,Result.andThen_ok,he _ _ _ _ hr β n ha2 hb2 w f hf,Sem.run_ite,Bool.not_true,Bool.false_eq_true,if_false]
       exact oB he hx hy β w f hf k (i+1) r h
     · rename_i hr
       cases h
       simp only [Sem.run_bind,ha1,hb1,Result.andThen_ok,he _ _ _ _ hr β n ha2 hb2 w f hf,Sem.run_ite,Bool.not_false,if_true,Sem.run_pure]
     · cases h
   · cases h
theorem fA (P:Program):∀ d,w8 P d
 | 0=>fun t x y r h=>by simp [bW]at h
 | d + 1 => fun t x y r h β n hx hy w f hf=>by
   obtain⟨g,rfl⟩:∃ g,f=g+1:=⟨f-1,by omega⟩
   have ih:=fA P d
   unfold bW at h
   split at h
   · rename_i fs hu
     split at h
     · rename_i xs ys
       split at h
       · cases h
       · rename_i hp
         have hfo:P.fieldsOf t=fs:=by simp only [Program.fieldsOf,hu]
         have:=run_equalIn_struct w g t (xs.map (·.den β)).toArray (ys.map (·.den β)).toArray (by rw [hfo];exact hu) (by simpa using hp)
         simp only [X1.den]
         rw [this,hfo]
         exact jW ih hx hy β w g (by omega) _ _ h
     · cases h
   · rename_i len elem hu
     split at h
     · rename_i xs ys s hs
       simp only [X1.den]
       rw [run_equalIn_array w g t len elem s _ _ hu hs]
       exact oB ih hx hy β w g (by omega) _ _ _ h
     · cases h
   · rename_i ds _ _ hu
     split at h
     · exact B4 hu h β w g
     · cases h
   · cases h
end Go.Xm
namespace Go.Xm
variable [az]
def gK (place:Nat→Option (Nat × Nat)) (cells:List XC):List (Nat × XV)→Option (List XC)
 | []=>some cells
 | (i,v)::rest=>
   match place i,cA v with
   | some (off,size),some cs=>
     if cs.length=size∧off+cs.length≤cells.length then gK place (cells.take off++cs++cells.drop (off+cs.length)) rest else .none
   | _,_ => .none
theorem y6 (off:Nat):∀(cs:List Value) (k:Nat) (cells:Array Value),off+k+cs.length≤cells.size →
 ((cs.zipIdx k).foldl (fun acc (p:Value × Nat)=>acc.setIfInBounds (off+p.2) p.1) cells).toList=cells.toList.take (off+k)++cs++cells.toList.drop (off+k+cs.length)
 | [],k,cells,_=>by simp
 | c :: cs,k,cells,h=>by
   simp only [List.length_cons]at h
   rw [List.zipIdx_cons,List.foldl_cons,y6 off cs (k+1) _ (by simp;omega)]
   simp only [Array.toList_setIfInBounds,List.length_cons]
   have hlt:off+k<cells.toList.length:=by simp;omega
   have e1:(cells.toList.set (off+k) c).take (off+(k+1))=cells.toList.take (off+k)++[c]:=by
    rw [show off+(k+1)=off+k+1 by omega,List.take_succ_eq_append_getElem (by simpa using hlt),List.take_set_of_le (Nat.le_refl _)]
    simp
   have e2:(cells.toList.set (off+k) c).drop (off+(k+1)+cs.length)=cells.toList.drop (off+k+(cs.length+1)):=by
    rw [List.drop_set_of_lt (by omega),show off+(k+1)+cs.length=off+k+(cs.length+1) by omega]
   rw [e1,e2]
   simp
theorem AE (off:Nat) (cs cells:Array Value) (h:off+cs.size≤cells.size) :
 (cs.zipIdx.foldl (fun acc (c,j)=>acc.setIfInBounds (off+j) c) cells)=(cells.toList.take off++cs.toList++cells.toList.drop (off+cs.size)).toArray:=by
 have h1:=y6 off cs.toList 0 cells (by simpa using h)
 simp only [Nat.add_zero]at h1
 apply Array.toList_inj.1
 rw [←Array.foldl_toList]
 simpa [Array.toList_zipIdx]using h1
theorem t8 {cells cs:List XC} {off k:Nat} {p:XC→Prop}(h1:∀ c∈cells,p c) (h2:∀ c∈cs,p c):∀ c∈cells.take off++cs++cells.drop k,p c:=by
 intro c hc
 simp only [List.mem_append]at hc
 rcases hc with(hc|hc)|hc
 · exact h1 c (List.mem_of_mem_take hc)
 · exact h2 c hc
 · exact h1 c (List.mem_of_mem_drop hc)
theorem t7 (f:XC→Value) (cells cs:List XC) (off k:Nat):((cells.map f).take off++cs.map f++(cells.map f).drop k)=(cells.take off++cs++cells.drop k).map f:=by
 simp [List.map_take,List.map_drop]
theorem lp {β : Env} {n:Nat} {place:Nat→Option (Nat × Nat)}:∀ {parts:List (Nat × XV)} {vs:List (Nat × Value)} {cells out:List XC},gK place cells parts=some out→(∀ c∈cells,c.ok n) →
 c_ (fun p q=>p.1=q.1∧aQ β n p.2 q.2) parts vs →
 Instr.fill place (cells.map (·.den β)).toArray vs=some (out.map (·.den β)).toArray∧∀ c∈out,c.ok n
 | [],vs,cells,out,h,hc,hr=>by
   cases hr
   simp only [gK,Option.some.injEq]at h
   subst h
   exact⟨rfl,hc⟩
 | (i, v)::rest,vs,cells,out,h,hc,hr=>by
   cases hr with
   | cons h1 h2=>
     rename_i q vs
     obtain⟨j,u⟩:=q
     obtain⟨rfl,hv⟩:=h1
     unfold gK at h
     split at h
     · rename_i off size cs hp hx
       split at h
       · rename_i hl
         obtain⟨e1,e2⟩:=p_ hx hv
         unfold Instr.fill
         simp only [hp]
         have hsz:u.cells.size=cs.length:=by rw [e1];simp
         rw [if_neg (by rw [hsz];simp [hl.1];omega)]
         have hz:=AE off u.cells (cells.map (·.den β)).toArray (by rw [hsz];simpa using hl.2)
         rw [hz,hsz,e1]
         have:=lp h (t8 hc e2) h2
         rw [←t7]at this
         exact this
       · cases h
     · cases h
def yu:XC→Option (FuncId × List XC)
 | .fn f=>some (f,[])
 | .bind g c=>match yu g with
   | some (f,cs)=>some (f,cs++[c])
   | .none => .none
 | _ => .none
theorem o_ {n:Nat}(β : Env):∀ {c:XC} {f:FuncId} {cs:List XC},yu c=some (f,cs)→c.ok n→c.den β = .func (.func f) #[] (cs.map (·.den β)).toArray∧∀ x∈cs,x.ok n
 | .fn f,_,_,h,_=>by simp only [yu,Option.some.injEq,Prod.mk.injEq]at h;obtain⟨rfl,rfl⟩:=h;exact⟨rfl,by simp⟩
 | .bind g c,f,cs,h,hok=>by
   unfold yu at h
   split at h
   · rename_i f' cs' hg
     simp only [Option.some.injEq,Prod.mk.injEq]at h
     obtain⟨rfl,rfl⟩:=h
     obtain⟨h1,h2⟩:=o_ β hg hok.1
     refine⟨by simp [XC.den,h1],fun x hx=>?_⟩
     rcases List.mem_append.1 hx with hx|hx
     · exact h2 x hx
     · simp only [List.mem_singleton]at hx;subst hx;exact hok.2
   · cases h
def kF (g:XC):List XV→Option XC
 | []=>some g
 | .one c::rest=>kF (.bind g c) rest
 | _::_ => .none
theorem oy {β : Env} {n:Nat}:∀ {l:List XV} {vs:List Value} {g out:XC} {f:FuncId} {cs:List XC},kF g l=some out→yu g=some (f,cs)→g.ok n→c_ (aQ β n) l vs →
 out.ok n∧out.den β = .func (.func f) #[] ((cs.map (·.den β))++vs).toArray
 | [],vs,g,out,f,cs,h,hg,hok,hr=>by
   cases hr
   simp only [kF,Option.some.injEq]at h
   subst h
   exact⟨hok,by simpa using (o_ β hg hok).1⟩
 | .one c::rest,vs,g,out,f,cs,h,hg,hok,hr=>by
   cases hr with
   | cons h1 h2=>
     rename_i v vs
     have:=oy (g := .bind g c) (f:=f) (cs:=cs++[c]) h (by simp [yu,hg]) ⟨hok,h1.1⟩ h2
     rw [h1.2]
     simpa using this
 | .undef::_,_,_,_,_,_,h,_,_,_=>by simp [kF]at h
 | .agg _::_,_,_,_,_,_,h,_,_,_=>by simp [kF]at h
 | .tup _::_,_,_,_,_,_,h,_,_,_=>by simp [kF]at h
end Go.Xm
namespace Go.Xm
variable [az]
def Nz (op:BinOp) (k k':FloatKind) (a b:Nat):Option XC:=
 if k=k' then
  match op with
  | .eql=>some (.bool (k.format.order a b == some .eq))
  | .neq=>some (.bool (k.format.order a b != some .eq))
  | .lss=>some (.bool (k.format.order a b == some .lt))
  | .leq=>some (.bool (k.format.order a b == some .lt || k.format.order a b == some .eq))
  | .gtr=>some (.bool (k.format.order a b == some .gt))
  | .geq=>some (.bool (k.format.order a b == some .gt || k.format.order a b == some .eq))
  | .add=>(k.format.add a b).map (.flt k)
  | .sub=>(k.format.sub a b).map (.flt k)
  | .mul=>(k.format.mul a b).map (.flt k)
  | .quo=>(k.format.div a b).map (.flt k)
  | _ => .none
 else .none
theorem B5 {P:Program} {op:BinOp} {t:TypeId} {k k':FloatKind} {a b:Nat} {c:XC}(h:Nz op k k' a b=some c) (β : Env) (n:Nat) (w:World) :
 (binOp op t (.float k a) (.float k' b)).run P w = .ok (c.den β) w∧c.ok n:=by
 unfold Nz at h
 split at h
 · rename_i hk
   subst hk
   cases op <;> simp only at h <;> first
    | (cases h;done)
    | (cases h;simp [binOp,Op.floatCmp,XC.den,XC.ok];done)
    | (obtain⟨r,hr,rfl⟩:=Option.map_eq_some_iff.1 h;simp [binOp,Op.floatArith,hr,XC.den,XC.ok];done)
 · cases h
def Aj (op:BinOp) (k k':FloatKind) (a b c d:Nat):Option XC:=
 if k=k' then
  match op with
  | .eql=>some (.bool (k.format.order a c == some .eq && k.format.order b d == some .eq))
  | .neq=>some (.bool (!(k.format.order a c == some .eq && k.format.order b d == some .eq)))
  | .add=>match k.format.add a c,k.format.add b d with
    | some x,some y=>some (.cplx k x y)
    | _,_ => .none
  | .sub=>match k.format.sub a c,k.format.sub b d with
    | some x,some y=>some (.cplx k x y)
    | _,_ => .none
  | _ => .none
 else .none
theorem Ak {P:Program} {op:BinOp} {t:TypeId} {k k':FloatKind} {a b c d:Nat} {x:XC}(h:Aj op k k' a b c d=some x) (β : Env) (n:Nat) (w:World) :
 (binOp op t (.complex k a b) (.complex k' c d)).run P w = .ok (x.den β) w∧x.ok n:=by
 unfold Aj at h
 split at h
 · rename_i hk
   subst hk
   cases op <;> simp only at h <;> first
    | (cases h;done)
    | (cases h;simp [binOp,Op.complexOp,Op.Complex.cmp,Op.floatCmp,asBool,XC.den,XC.ok];done)
    | (split at h <;> cases h;rename_i h1 h2;simp [binOp,Op.complexOp,Op.Complex.arith,Op.floatArith,h1,h2,XC.den,XC.ok];done)
 · cases h
def Ln (op:BinOp) (a b:List UInt8):Option XC:=
 match op with
 | .eql=>some (.bool (a == b))
 | .neq=>some (.bool (!(a == b)))
 | .add=>if a.length+b.length≤9223372036854775807 then some (.str (a++b))else .none
 | .lss=>some (.bool (Op.bytesLess a b))
 | .leq=>some (.bool (Op.bytesLess a b || a == b))
 | .gtr=>some (.bool (!(Op.bytesLess a b || a == b)))
 | .geq=>some (.bool (!Op.bytesLess a b))
 | _ => .none
theorem xe (a b:List UInt8):((⟨a.toArray⟩:ByteArray)++⟨b.toArray⟩)=⟨(a++b).toArray⟩:=by
 apply ByteArray.ext
 simp
theorem B8 {P:Program} {op:BinOp} {t:TypeId} {a b:List UInt8} {x:XC}(h:Ln op a b=some x) (β : Env) (n:Nat) (w:World) :
 (binOp op t (.string ⟨a.toArray⟩) (.string ⟨b.toArray⟩)).run P w = .ok (x.den β) w∧x.ok n:=by
 cases op <;> simp only [Ln]at h <;> first
  | (cases h;done)
  | (cases h;simp [binOp,Op.stringOp,ByteArray.toList_eq,XC.den,XC.ok];done)
  | skip
 split at h
 · rename_i hl
   cases h
   have hm:IntKind.i64.max=9223372036854775807:=by decide
   refine⟨?_,trivial⟩
   simp only [binOp,Op.stringOp,hm]
   rw [if_neg (by show¬(((a.toArray.size+b.toArray.size:Nat):Int)>9223372036854775807);simp;omega)]
   simp [XC.den,xe]
 · cases h
def p9:XV→Option X1
 | .one c=>some (.one c)
 | .agg cs=>some (.agg cs)
 | _ => .none
theorem ra {β : Env} {n:Nat} {x:XV} {y:X1} {v:Value}(h:p9 x=some y) (hr:aQ β n x v):y.ok n∧v=y.den β:=by
 cases x with
 | one c=>simp only [p9,Option.some.injEq]at h;subst h;exact hr
 | agg cs=>simp only [p9,Option.some.injEq]at h;subst h;exact hr
 | undef=>cases h
 | tup vs=>cases h
def rk (P:Program) (t:TypeId) (x y:XV):Option Bool:=
 match x,y with
 | .one (.bool a),.one (.bool b)=>bW P 1 t (.one (.bool a)) (.one (.bool b))
 | .one .nilp,.one y=>bW P 1 t (.one .nilp) (.one y)
 | .one (.ptr i o),.one y=>bW P 1 t (.one (.ptr i o)) (.one y)
 | .one .nils,.one y=>bW P 1 t (.one .nils) (.one y)
 | .one (.slice i o l c),.one y=>bW P 1 t (.one (.slice i o l c)) (.one y)
 | .one .nilm,.one y=>bW P 1 t (.one .nilm) (.one y)
 | .one (.map i),.one y=>bW P 1 t (.one (.map i)) (.one y)
 | .agg xs,.agg ys=>if P.eqGuardType P.depth t then .none else bW P 40 t (.agg xs) (.agg ys)
 | .one (.atom i),.one (.atom j)=>if i=j then some true else .none
 | _,_ => .none
theorem py {P:Program} {t:TypeId} {x y:Value} {r:Bool}(w:World) (h:(Op.equal t x y).run P w = .ok r w)
 (hx:match x with | .bool _ | .pointer _ | .slice .. | .map _ | .agg _=>True|_=>False) :
 (binOp .eql t x y).run P w = .ok (.bool r) w∧(binOp .neq t x y).run P w = .ok (.bool (!r)) w:=by
 cases x <;> first
  | (exact hx.elim)
  | (unfold binOp;cases y <;> simp [h])
theorem fM {P:Program} {op:BinOp} {t:TypeId} {xo yo:Operand} {u v:Value}(w:World) (h:match u with | .nilIface | .agg _=>False|_=>True) :
 (eqGuard op t xo yo u v).run P w = .ok () w:=by
 unfold eqGuard
 cases u <;> first
  | (exact h.elim)
  | (simp only [];split <;> rfl)
theorem uQ {P:Program} {t:TypeId} {x y:XV} {r:Bool}(h:rk P t x y=some r) {β : Env} {n:Nat} {u v:Value}(hu:aQ β n x u) (hv:aQ β n y v) (op:BinOp) (xo yo:Operand) (w:World) :
 (eqGuard op t xo yo u v).run P w = .ok () w∧(binOp .eql t u v).run P w = .ok (.bool r) w∧(binOp .neq t u v).run P w = .ok (.bool (!r)) w:=by
 have one:∀ a b:XC,bW P 1 t (.one a) (.one b)=some r→a.ok n→b.ok n→u=a.den β→v=b.den β →
  (match a with | .bool _ | .nilp | .ptr .. | .nils | .slice .. | .nilm | .map _=>True|_=>False) →
  (eqGuard op t xo yo u v).run P w = .ok () w∧(binOp .eql t u v).run P w = .ok (.bool r) w∧(binOp .neq t u v).run P w = .ok (.bool (!r)) w:=by
  intro a b h hao hbo ha hb hs
  have he:=fA P 1 t (.one a) (.one b) r h β n hao hbo w Op.maxDepth (by decide)
  subst ha;subst hb
  refine⟨fM w ?_,py w he ?_⟩
  · cases a <;> first
     | (exact hs.elim)
     | trivial
     | (rename_i cap;cases cap <;> trivial)
  · cases a <;> first
     | (exact hs.elim)
     | trivial
     | (rename_i cap;cases cap <;> trivial)
 unfold rk at h
 split at h
 · exact one _ _ h hu.1 hv.1 hu.2 hv.2 trivial
 · exact one _ _ h hu.1 hv.1 hu.2 hv.2 trivial
 · exact one _ _ h hu.1 hv.1 hu.2 hv.2 trivial
 · exact one _ _ h hu.1 hv.1 hu.2 hv.2 trivial
 · exact one _ _ h hu.1 hv.1 hu.2 hv.2 trivial
 · exact one _ _ h hu.1 hv.1 hu.2 hv.2 trivial
 · exact one _ _ h hu.1 hv.1 hu.2 hv.2 trivial
 · rename_i xs ys
   split at h
   · cases h
   · rename_i hg
     have he:=fA P 40 t (.agg xs) (.agg ys) r h β n hu.1 hv.1 w Op.maxDepth (by decide)
     obtain⟨_,rfl⟩:=hu
     obtain⟨_,rfl⟩:=hv
     exact⟨run_eqGuard_agg w op t xo yo _ _ (by simpa using hg),py w he trivial⟩
 · rename_i i j
   split at h
   · rename_i hij
     subst hij
     cases h
     obtain⟨_,rfl⟩:=hu
     obtain⟨_,rfl⟩:=hv
     have h1:=(lG (P:=P) (op := .eql) (t:=t) (k:=az.kind i) (k':=az.kind i) (a:=az.num i) (b:=az.num i) (c := .bool true) (by simp [bJ,dN]) β n w).1
     have h2:=(lG (P:=P) (op := .neq) (t:=t) (k:=az.kind i) (k':=az.kind i) (a:=az.num i) (b:=az.num i) (c := .bool false) (by simp [bJ,dN]) β n w).1
     exact⟨fM w trivial,h1,h2⟩
   · cases h
 · cases h
def rh (P:Program) (op:BinOp) (t:TypeId) (x y:XV):Option XV:=
 match x,y with
 | .one (.int k a),.one (.int k' b)=>(bJ op k k' a b).map .one
 | .one (.flt k a),.one (.flt k' b)=>(Nz op k k' a b).map .one
 | .one (.cplx k a b),.one (.cplx k' c d)=>(Aj op k k' a b c d).map .one
 | .one (.str a),.one (.str b)=>(Ln op a b).map .one
 | x,y=>match op with
   | .eql=>(rk P t x y).map fun r => .one (.bool r)
   | .neq=>(rk P t x y).map fun r => .one (.bool (!r))
   | _ => .none
theorem BY {P:Program} {op:BinOp} {t:TypeId} {x y r:XV}(h:rh P op t x y=some r) {β : Env} {n:Nat} {u v:Value}(hu:aQ β n x u) (hv:aQ β n y v) (xo yo:Operand) (w:World) :
 (eqGuard op t xo yo u v).run P w = .ok () w∧∃ z,(binOp op t u v).run P w = .ok z w∧aQ β n r z:=by
 unfold rh at h
 split at h
 · obtain⟨c,hc,rfl⟩:=Option.map_eq_some_iff.1 h
   obtain⟨_,rfl⟩:=hu
   obtain⟨_,rfl⟩:=hv
   obtain⟨h1,h2⟩:=lG (P:=P) (t:=t) hc β n w
   exact⟨fM w trivial,_,h1,h2,rfl⟩
 · obtain⟨c,hc,rfl⟩:=Option.map_eq_some_iff.1 h
   obtain⟨_,rfl⟩:=hu
   obtain⟨_,rfl⟩:=hv
   obtain⟨h1,h2⟩:=B5 (P:=P) (t:=t) hc β n w
   exact⟨fM w trivial,_,h1,h2,rfl⟩
 · obtain⟨c,hc,rfl⟩:=Option.map_eq_some_iff.1 h
   obtain⟨_,rfl⟩:=hu
   obtain⟨_,rfl⟩:=hv
   obtain⟨h1,h2⟩:=Ak (P:=P) (t:=t) hc β n w
   exact⟨fM w trivial,_,h1,h2,rfl⟩
 · obtain⟨c,hc,rfl⟩:=Option.map_eq_some_iff.1 h
   obtain⟨_,rfl⟩:=hu
   obtain⟨_,rfl⟩:=hv
   obtain⟨h1,h2⟩:=B8 (P:=P) (t:=t) hc β n w
   exact⟨fM w trivial,_,h1,h2,rfl⟩
 · split at h
   · obtain⟨b,hb,rfl⟩:=Option.map_eq_some_iff.1 h
     obtain⟨h1,h2,_⟩:=uQ hb hu hv .eql xo yo w
     exact⟨h1,_,h2,trivial,rfl⟩
   · obtain⟨b,hb,rfl⟩:=Option.map_eq_some_iff.1 h
     obtain⟨h1,_,h2⟩:=uQ hb hu hv .neq xo yo w
     exact⟨h1,_,h2,trivial,rfl⟩
   · cases h
end Go.Xm
namespace Go.Xm
variable [az]
def OW (op:UnOp) (x:XV):Option XV:=
 match op,x with
 | .neg,.one (.int k a)=>some (.one (.int k (je k (0-a))))
 | .xor,.one (.int k a)=>some (.one (.int k (je k ((BitVec.ofInt k.bits (if k.signed then -1 else k.max) ^^^ BitVec.ofInt k.bits a).toNat))))
 | .neg,.one (.flt k a)=>some (.one (.flt k (Op.negFloat k a)))
 | .neg,.one (.cplx k a b)=>some (.one (.cplx k (Op.negFloat k a) (Op.negFloat k b)))
 | .not,.one (.bool b)=>some (.one (.bool (!b)))
 | _,_ => .none
theorem FG {P:Program} {op:UnOp} {x r:XV}(h:OW op x=some r) {β : Env} {n:Nat} {u:Value}(hu:aQ β n x u) (w:World) :
 ∃ z,(Op.unary op u).run P w = .ok z w∧aQ β n r z:=by
 unfold OW at h
 split at h <;> first
  | (cases h;done)
  | (cases h;obtain⟨_,rfl⟩:=hu;refine⟨_,?_,trivial,rfl⟩;simp only [Op.unary,XC.den,Op.intArith,Op.intBits,Sem.run_pure,cH])
def kG (P:Program) (src dst:TypeId) (x:XV):Option XV:=
 match P.underlying src,P.underlying dst,x with
 | some _,some (.int k),.one (.int _ n)=>some (.one (.int k (je k n)))
 | some _,some (.float k),.one (.int _ n)=>some (.one (.flt k (k.nearest n)))
 | some _,some (.int k),.one (.flt s b)=>match (s.decode b).toInt .zero with
   | some n=>if k.min≤n∧n≤k.max then some (.one (.int k n))else .none
   | .none => .none
 | some _,some (.float k),.one (.flt s b)=>if s=k then some (.one (.flt k b))else .none
 | some _,some .string,.one (.str s)=>some (.one (.str s))
 | _,_,_ => .none
theorem uL {P:Program} {src dst:TypeId} {x r:XV}(h:kG P src dst x=some r) {β : Env} {n:Nat} {u:Value}(hu:aQ β n x u) (w:World) :
 ∃ z,(convert src dst u).run P w = .ok z w∧aQ β n r z:=by
 unfold kG at h
 split at h
 · rename_i h1 h2
   cases h
   obtain⟨_,rfl⟩:=hu
   refine⟨_,?_,trivial,rfl⟩
   simp only [convert,Sem.run_bind,run_underlying h1,run_underlying h2,Result.andThen_ok,XC.den]
   simp [Conv.intToInt,cH]
 · rename_i h1 h2
   cases h
   obtain⟨_,rfl⟩:=hu
   refine⟨_,?_,trivial,rfl⟩
   simp only [convert,Sem.run_bind,run_underlying h1,run_underlying h2,Result.andThen_ok,XC.den]
   simp [Conv.intToFloat]
 · rename_i h1 h2
   split at h
   · rename_i m hm
     split at h
     · rename_i hr
       cases h
       obtain⟨_,rfl⟩:=hu
       refine⟨_,?_,trivial,rfl⟩
       simp only [convert,Sem.run_bind,run_underlying h1,run_underlying h2,Result.andThen_ok,XC.den]
       simp [Conv.floatToInt,hm,hr]
     · cases h
   · cases h
 · rename_i h1 h2
   split at h
   · rename_i hk
     subst hk
     cases h
     obtain⟨_,rfl⟩:=hu
     refine⟨_,?_,trivial,rfl⟩
     simp only [convert,Sem.run_bind,run_underlying h1,run_underlying h2,Result.andThen_ok,XC.den]
     simp [Conv.floatToFloat]
   · cases h
 · rename_i h1 h2
   cases h
   obtain⟨_,rfl⟩:=hu
   refine⟨_,?_,trivial,rfl⟩
   simp only [convert,Sem.run_bind,run_underlying h1,run_underlying h2,Result.andThen_ok,XC.den,Sem.run_pure]
 · cases h
def jO (x:XV) (i:Nat):Option XV:=
 match x with
 | .tup vs=>(vs[i]?).map X1.rW
 | _ => .none
theorem uR {P:Program} {i:Nat} {x r:XV}(h:jO x i=some r) {β : Env} {n:Nat} {u:Value}(hu:aQ β n x u) (w:World) :
 ∃ z,(Instr.extract u i).run P w = .ok z w∧aQ β n r z:=by
 unfold jO at h
 split at h
 · rename_i vs
   obtain⟨y,hy,rfl⟩:=Option.map_eq_some_iff.1 h
   obtain⟨h1,rfl⟩:=hu
   have hg:(vs.map (·.den β)).toArray[i]? = some (y.den β):=by simp [hy]
   exact⟨_,by simp only [Instr.extract,hg,Sem.run_pure],aQ.rW.2 ⟨h1 y (List.mem_of_getElem? hy),rfl⟩⟩
 · cases h
def mn (x:XV):Option XV:=
 match x with
 | .one (.ptr i o)=>some (.one (.ptr i o))
 | .one (.fn f)=>some (.one (.fn f))
 | .one (.bind g c)=>match yu (.bind g c)with
   | some _=>some (.one (.bind g c))
   | .none => .none
 | _ => .none
theorem sJ {P:Program} {x r:XV}(h:mn x=some r) {β : Env} {n:Nat} {o:Oper} {xo:Operand}(ho:o.op = .nilCheck xo) {ev:Operand→Value}(hu:aQ β n x (ev xo)) (w:World) :
 ∃ z,(execOp ev o).run P w = .ok (.value z) w∧aQ β n r z:=by
 unfold mn at h
 unfold execOp
 simp only [ho]
 split at h
 · cases h
   obtain⟨h1,h2⟩:=hu
   exact⟨_,by rw [h2];rfl,h1,rfl⟩
 · cases h
   obtain⟨h1,h2⟩:=hu
   exact⟨_,by rw [h2];rfl,h1,rfl⟩
 · rename_i g c
   split at h
   · rename_i p hp
     obtain⟨f,cs⟩:=p
     cases h
     obtain⟨h1,h2⟩:=hu
     obtain⟨h3,_⟩:=o_ β hp h1
     exact⟨_,by rw [h2,h3];rfl,h1,h3.symm⟩
   · cases h
 · cases h
def jP (P:Program) (s:TypeId) (f:Nat):Option Field:=
 match P.underlying s with
 | some (.struct fs)=>fs[f]?
 | _ => .none
def fB (P:Program) (s:TypeId) (x:XV) (f:Nat):Option XV:=
 match jP P s f,x with
 | some fd,.one (.ptr i o)=>match cn P fd.type with
   | some (_+1)=>some (.one (.ptr i (o+fd.offset)))
   | _ => .none
 | _,_ => .none
theorem Addr.gT (b o k:Nat):(⟨b,o,none⟩:Addr).add k=⟨b,o+k,none⟩:=by
 unfold Addr.add
 split
 · rename_i h;subst h;rfl
 · rfl
theorem rZ {P:Program} {s:TypeId} {f:Nat} {x r:XV}(h:fB P s x f=some r) {β : Env} {n:Nat} {u:Value}(hu:aQ β n x u) (w:World) :
 ∃ z,(Instr.fieldAt s u f).run P w = .ok z w∧aQ β n r z:=by
 unfold fB at h
 split at h
 · rename_i fd i o hf
   split at h
   · rename_i k hk
     cases h
     obtain⟨h1,rfl⟩:=hu
     unfold jP at hf
     split at hf
     · rename_i fs hs
       refine⟨_,?_,h1,rfl⟩
       simp only [Instr.fieldAt,Sem.run_bind,run_underlying hs,Result.andThen_ok,hf,XC.den,Instr.sureAddr,Sem.run_pure,fieldPlace,b_ hk,Nat.add_one_ne_zero,if_false,Addr.gT,Nat.add_assoc]
     · cases hf
   · cases h
 · cases h
def x8 (P:Program) (s:TypeId) (x:XV) (f:Nat):Option XV:=
 match jP P s f,x with
 | some fd,.agg cs=>(g_ P fd.type cs fd.offset).map X1.rW
 | _,_ => .none
theorem x9 {P:Program} {s:TypeId} {f:Nat} {x r:XV}(h:x8 P s x f=some r) {β : Env} {n:Nat} {u:Value}(hu:aQ β n x u) (w:World) :
 ∃ z,(Instr.field s u f).run P w = .ok z w∧aQ β n r z:=by
 unfold x8 at h
 split at h
 · rename_i fd cs hf
   obtain⟨y,hy,rfl⟩:=Option.map_eq_some_iff.1 h
   obtain⟨h1,rfl⟩:=hu
   obtain⟨h2,h3⟩:=gw hy h1 β w
   unfold jP at hf
   split at hf
   · rename_i fs hs
     refine⟨_,?_,aQ.rW.2 ⟨h3,rfl⟩⟩
     simp only [Instr.field,Sem.run_bind,run_underlying hs,Result.andThen_ok,hf,asAgg,Sem.run_pure]
     exact h2
   · cases hf
 · cases h
def cB (P:Program) (t:TypeId) (x ix:XV):Option XV:=
 match P.underlying t,x,ix with
 | some (.array len elem),.one (.ptr i o),.one (.int _ j)=>
   if 0≤j∧j<len then(cn P elem).map fun s => .one (.ptr i (o+j.toNat*s))else .none
 | some (.slice elem),.one (.slice i o len _),.one (.int _ j)=>
   if 0≤j∧j<len then(cn P elem).map fun s => .one (.ptr i (o+j.toNat*s))else .none
 | _,_,_ => .none
theorem r5 {P:Program} {t:TypeId} {x ix r:XV}(h:cB P t x ix=some r) {β : Env} {n:Nat} {u v:Value}(hu:aQ β n x u) (hv:aQ β n ix v) (w:World) :
 ∃ z,(Instr.indexAt t u v).run P w = .ok z w∧aQ β n r z:=by
 unfold cB at h
 split at h
 · rename_i len elem i o k j ht
   split at h
   · rename_i hj
     obtain⟨s,hs,rfl⟩:=Option.map_eq_some_iff.1 h
     obtain⟨h1,rfl⟩:=hu
     obtain⟨_,rfl⟩:=hv
     refine⟨_,?_,h1,rfl⟩
     simp only [Instr.indexAt,XC.den,asIntOf,Sem.run_bind,Sem.run_pure,Result.andThen_ok,run_underlying ht,Instr.sureAddr,hj,and_self,if_true,b_ hs,Addr.gT,Nat.add_assoc]
   · cases h
 · rename_i elem i o len cap k j ht
   split at h
   · rename_i hj
     obtain⟨s,hs,rfl⟩:=Option.map_eq_some_iff.1 h
     obtain⟨h1,rfl⟩:=hu
     obtain⟨_,rfl⟩:=hv
     refine⟨_,?_,h1,rfl⟩
     cases cap <;> simp only [Instr.indexAt,XC.den,asIntOf,Sem.run_bind,Sem.run_pure,Result.andThen_ok,run_underlying ht,hj,and_self,if_true,b_ hs,Addr.gT,Nat.add_assoc]
   · cases h
 · cases h
def qc (P:Program) (t:TypeId) (x ix:XV):Option XV:=
 match P.underlying t,x,ix with
 | some (.array len elem),.agg cs,.one (.int _ j)=>
   if 0≤j∧j<len then match cn P elem with
    | some s=>(g_ P elem cs (j.toNat*s)).map X1.rW
    | .none => .none
   else .none
 | some .string,.one (.str s),.one (.int _ j)=>
   if 0≤j then(s[j.toNat]?).map fun b => .one (.int .u8 b.toNat)else .none
 | _,_,_ => .none
theorem x_ {P:Program} {t:TypeId} {x ix r:XV}(h:qc P t x ix=some r) {β : Env} {n:Nat} {u v:Value}(hu:aQ β n x u) (hv:aQ β n ix v) (w:World) :
 ∃ z,(Instr.index t u v).run P w = .ok z w∧aQ β n r z:=by
 unfold qc at h
 split at h
 · rename_i len elem cs k j ht
   split at h
   · rename_i hj
     split at h
     · rename_i s hs
       obtain⟨y,hy,rfl⟩:=Option.map_eq_some_iff.1 h
       obtain⟨h1,rfl⟩:=hu
       obtain⟨_,rfl⟩:=hv
       obtain⟨h2,h3⟩:=gw hy h1 β w
       refine⟨_,?_,aQ.rW.2 ⟨h3,rfl⟩⟩
       simp only [Instr.index,XC.den,asIntOf,Sem.run_bind,Sem.run_pure,Result.andThen_ok,run_underlying ht,hj,and_self,if_true,b_ hs,h2]
     · cases h
   · cases h
 · rename_i s k j ht
   split at h
   · rename_i hj
     obtain⟨b,hb,rfl⟩:=Option.map_eq_some_iff.1 h
     obtain⟨_,rfl⟩:=hu
     obtain⟨_,rfl⟩:=hv
     refine⟨_,?_,trivial,rfl⟩
     have hg:(⟨s.toArray⟩:ByteArray)[j.toNat]? = some b:=by
      obtain⟨hl,he⟩:=List.getElem?_eq_some_iff.1 hb
      have hlt:j.toNat<(⟨s.toArray⟩:ByteArray).size:=by show j.toNat<s.toArray.size;simpa using hl
      rw [getElem?_pos (⟨s.toArray⟩:ByteArray) j.toNat hlt]
      exact congrArg some he
     simp only [Instr.index,XC.den,asIntOf,Sem.run_bind,Sem.run_pure,Result.andThen_ok,run_underlying ht,hj,if_true,hg]
   · cases h
 · cases h
end Go.Xm
namespace Go.Xm
variable [az]
def pb (P:Program):List Field→Option (List (Nat × Nat))
 | []=>some []
 | f::fs=>match cn P f.type,pb P fs with
   | some s,some l=>some ((f.offset,s)::l)
   | _,_ => .none
theorem sA {P:Program}(w:World):∀ {fs:List Field} {l:List (Nat × Nat)},pb P fs=some l→(fs.mapM fun f=>do pure (f.offset,←sizeOf f.type):Sem (List (Nat × Nat))).run P w = .ok l w
 | [],l,h=>by simp only [pb,Option.some.injEq]at h;subst h;rfl
 | f :: fs,l,h=>by
   unfold pb at h
   split at h
   · rename_i s l' hs hl
     cases h
     have:=sA w hl
     simp only [List.mapM_cons,Sem.run_bind,b_ hs,Result.andThen_ok,Sem.run_pure,this]
   · cases h
def oz (P:Program) (t:TypeId) (parts:List (Nat × XV)):Option XV:=
 match pH P t,P.underlying t with
 | some zs,some (.struct fs)=>match pb P fs.toList with
   | some l=>(gK (fun i=>l[i]?) zs parts).map .agg
   | .none => .none
 | some zs,some (.array _ elem)=>match cn P elem with
   | some s=>(gK (fun i=>some (i*s,s)) zs parts).map .agg
   | .none => .none
 | _,_ => .none
theorem iG {P:Program} {t:TypeId} {zs:List XC}(h:pH P t=some zs) (β : Env) (n:Nat) :
 ∃ i v,P.info? t=some i∧i.zero=some v∧v.cells=(zs.map (·.den β)).toArray∧∀ c∈zs,c.ok n:=by
 unfold pH at h
 split at h
 · rename_i i hi
   split at h
   · rename_i v hv
     obtain⟨h1,h2⟩:=oa h β n
     exact⟨i,v,hi,hv,by rw [←h2],h1⟩
   · cases h
 · cases h
theorem dz {P:Program} {t:TypeId} {i:TypeInfo} {v:Value}(hi:P.info? t=some i) (hv:i.zero=some v) (w:World):(zeroValue t).run P w = .ok v w:=by
 simp [zeroValue,typeInfo,hi,hv]
theorem x5 {P:Program} {t:TypeId} {parts:List (Nat × XV)} {r:XV}(h:oz P t parts=some r) {β : Env} {n:Nat} {vs:Array (Nat × Value)}(hp:c_ (fun p q=>p.1=q.1∧aQ β n p.2 q.2) parts vs.toList) (w:World) :
 ∃ z,(Instr.build t vs).run P w = .ok z w∧aQ β n r z:=by
 unfold oz at h
 split at h
 · rename_i zs fs hz hu
   split at h
   · rename_i l hl
     obtain⟨cs,hc,rfl⟩:=Option.map_eq_some_iff.1 h
     obtain⟨i,v,h1,h2,h3,h4⟩:=iG hz β n
     obtain⟨h5,h6⟩:=lp hc h4 hp
     have hpl:=sA w hl
     refine⟨_,?_,h6,rfl⟩
     simp only [Instr.build,Sem.run_bind,dz h1 h2,Result.andThen_ok,run_underlying hu]
     rw [Array.mapM_eq_mapM_toList]
     simp only [Sem.run_map,hpl,Result.andThen_ok]
     have:(fun(x:Nat)=>l.toArray[x]?)=fun(i:Nat)=>l[i]?:=by funext i;simp
     simp only [h3,this,h5,Sem.run_pure]
   · cases h
 · rename_i zs len elem hz hu
   split at h
   · rename_i s hs
     obtain⟨cs,hc,rfl⟩:=Option.map_eq_some_iff.1 h
     obtain⟨i,v,h1,h2,h3,h4⟩:=iG hz β n
     obtain⟨h5,h6⟩:=lp hc h4 hp
     refine⟨_,?_,h6,rfl⟩
     simp only [Instr.build,Sem.run_bind,dz h1 h2,Result.andThen_ok,run_underlying hu,b_ hs,h3,h5,Sem.run_pure]
   · cases h
 · cases h
def mg (x:Option XV) (d y:Nat):Option Nat:=
 match x with
 | .none=>some d
 | some (.one (.int _ i))=>if 0≤i∧i≤y then some i.toNat else .none
 | some _ => .none
theorem j_ {P:Program} {x:XV} {d y i:Nat}(h:mg (some x) d y=some i) {β : Env} {n:Nat} {u:Value}(hu:aQ β n x u) (code:BoundsCode) (w:World) :
 (Instr.sliceBound u y code).run P w = .ok i w:=by
 unfold mg at h
 split at h
 · rename_i he;cases he
 · rename_i k j he
   cases he
   split at h
   · rename_i hj
     cases h
     obtain⟨_,rfl⟩:=hu
     simp only [Instr.sliceBound,XC.den,asIntOf,Sem.run_bind,Sem.run_pure,Result.andThen_ok,hj,and_self,if_true]
   · cases h
 · cases h
def jw (len cap:Nat) (lo hi mx:Option XV):Option (Nat × Nat × Nat):=
 match mx with
 | .none=>match mg hi len cap with
   | some h=>match mg lo 0 h with
     | some l=>some (l,h,cap)
     | .none => .none
   | .none => .none
 | some m=>match mg (some m) 0 cap,hi with
   | some m,some hi=>match mg (some hi) 0 m with
     | some h=>match mg lo 0 h with
       | some l=>some (l,h,m)
       | .none => .none
     | .none => .none
   | _,_ => .none
inductive kd (β : Env) (n:Nat):Option XV→Option Value→Prop where
 | none:kd β n .none .none
 | some {x:XV} {v:Value}:aQ β n x v→kd β n (some x) (some v)
theorem gZ {P : Program} {isSlice:Bool} {len cap:Nat} {lo hi mx:Option XV} {r:Nat × Nat × Nat}(h:jw len cap lo hi mx=some r) {β : Env} {n:Nat} {vl vh vm:Option Value}
 (h1:kd β n lo vl) (h2:kd β n hi vh) (h3:kd β n mx vm) (w:World):(Instr.sliceBounds isSlice len cap vl vh vm).run P w = .ok r w:=by
 unfold jw at h
 cases h3 with
 | none =>
   simp only []at h
   cases h2 with
   | none=>
     simp only [mg]at h
     cases h1 with
     | none=>simp only [Option.some.injEq]at h;subst h;rfl
     | some hl=>
       split at h
       · rename_i l he
         cases h
         have:=j_ (P:=P) he hl (if(none:Option Value).isSome then .slice3C else .sliceB) w
         simp only [Instr.sliceBounds,Sem.run_bind,Sem.run_pure,Result.andThen_ok,this]
       · cases h
   | some hh=>
     split at h
     · rename_i hv hh'
       have e2:=j_ (P:=P) hh' hh (if isSlice then .sliceAcap else .sliceAlen) w
       cases h1 with
       | none=>
         simp only [mg,Option.some.injEq]at h
         subst h
         simp only [Instr.sliceBounds,Sem.run_bind,Sem.run_pure,Result.andThen_ok,e2]
       | some hl=>
         split at h
         · rename_i l he
           cases h
           have e1:=j_ (P:=P) he hl (if(none:Option Value).isSome then .slice3C else .sliceB) w
           simp only [Instr.sliceBounds,Sem.run_bind,Sem.run_pure,Result.andThen_ok,e2,e1]
         · cases h
     · cases h
 | some hm =>
   rename_i xm vm
   simp only []at h
   split at h
   · rename_i m hi' he3
     cases h2 with
     | some hh=>
       rename_i vh
       have e3:=j_ (P:=P) he3 hm (if isSlice then .slice3Acap else .slice3Alen) w
       split at h
       · rename_i hv he2
         have e2:=j_ (P:=P) he2 hh .slice3B w
         cases h1 with
         | none=>
           simp only [mg,Option.some.injEq]at h
           subst h
           simp only [Instr.sliceBounds,Sem.run_bind,Sem.run_pure,Result.andThen_ok,e2,e3]
         | some hl=>
           split at h
           · rename_i l he
             cases h
             have e1:=j_ (P:=P) he hl (if(some vm).isSome then .slice3C else .sliceB) w
             simp only [Instr.sliceBounds,Sem.run_bind,Sem.run_pure,Result.andThen_ok,e2,e1,e3]
           · cases h
       · cases h
   · cases h
def r7 (P:Program) (t:TypeId) (x:XV) (lo hi mx:Option XV):Option XV:=
 match P.underlying t,x with
 | some (.array k elem),.one (.ptr i o)=>match jw k k lo hi mx,cn P elem with
   | some (l,h,m),some s=>some (.one (.slice i (if m=l then o else o+l*s) (h-l) (.exact (m-l))))
   | _,_ => .none
 | some (.slice elem),.one (.slice i o len (.exact cap))=>match jw len cap lo hi mx,cn P elem with
   | some (l,h,m),some s=>some (.one (.slice i (if m=l then o else o+l*s) (h-l) (.exact (m-l))))
   | _,_ => .none
 | some (.slice elem),.one .nils=>match jw 0 0 lo hi mx,cn P elem with
   | some (0,0,0),some _=>some (.one .nils)
   | _,_ => .none
 | some .string,.one (.str b)=>match mx,jw b.length b.length lo hi .none with
   | .none,some (l,h,_)=>some (.one (.str ((b.drop l).take (h-l))))
   | _,_ => .none
 | _,_ => .none
theorem lz (b:List UInt8) (l h:Nat):(⟨b.toArray⟩:ByteArray).extract l h=⟨((b.drop l).take (h-l)).toArray⟩:=by
 apply ByteArray.ext
 rw [ByteArray.data_extract]
 apply Array.toList_inj.1
 simp [List.extract_eq_take_drop]
theorem yc {P:Program} {t:TypeId} {x r:XV} {lo hi mx:Option XV}(h:r7 P t x lo hi mx=some r) {β : Env} {n:Nat} {u:Value} {vl vh vm:Option Value}(hu:aQ β n x u)
 (h1:kd β n lo vl) (h2:kd β n hi vh) (h3:kd β n mx vm) (w:World):∃ z,(Instr.sliceAt t u vl vh vm).run P w = .ok z w∧aQ β n r z:=by
 unfold r7 at h
 split at h
 · rename_i k elem i o ht
   split at h
   · rename_i l hh m s hb hs
     cases h
     obtain⟨hok,rfl⟩:=hu
     have hbd:=gZ (P:=P) (isSlice:=false) hb h1 h2 h3 w
     refine⟨_,?_,hok,rfl⟩
     simp only [Instr.sliceAt,Sem.run_bind,run_underlying ht,Result.andThen_ok,XC.den,Instr.sureAddr,Sem.run_pure,hbd,b_ hs]
     split <;> simp [Addr.gT,Nat.add_assoc]
   · cases h
 · rename_i elem i o len cap ht
   split at h
   · rename_i l hh m s hb hs
     cases h
     obtain⟨hok,rfl⟩:=hu
     have hbd:=gZ (P:=P) (isSlice:=true) hb h1 h2 h3 w
     refine⟨_,?_,hok,rfl⟩
     simp only [Instr.sliceAt,Instr.slice,Sem.run_bind,run_underlying ht,Result.andThen_ok,XC.den,Sem.run_pure,hbd,b_ hs]
     split <;> simp [Addr.gT,Nat.add_assoc]
   · cases h
 · rename_i elem ht
   split at h
   · rename_i s hb hs
     cases h
     obtain⟨hok,rfl⟩:=hu
     have hbd:=gZ (P:=P) (isSlice:=true) hb h1 h2 h3 w
     refine⟨_,?_,trivial,rfl⟩
     simp only [Instr.sliceAt,Instr.slice,Sem.run_bind,run_underlying ht,Result.andThen_ok,XC.den,Sem.run_pure,hbd,b_ hs]
     rfl
   · cases h
 · rename_i b ht
   split at h
   · rename_i l hh m hb
     cases h
     cases h3
     obtain⟨hok,rfl⟩:=hu
     have hbd:=gZ (P:=P) (isSlice:=false) hb h1 h2 .none w
     refine⟨_,?_,trivial,rfl⟩
     have hsz:ByteArray.size (⟨b.toArray⟩:ByteArray)=b.length:=by show b.toArray.size=b.length;simp
     simp only [Instr.sliceAt,Instr.slice,Sem.run_bind,run_underlying ht,Result.andThen_ok,XC.den,Option.isSome_none,Bool.false_eq_true,if_false,Sem.run_pure,hsz,hbd,lz]
   · cases h
 · cases h
end Go.Xm
namespace Go.Xm
variable [az]
def kL:XC→List XV→Option XC
 | c,[]=>some c
 | .int k x,.one (.int _ y)::rest=>kL (.int k (if y<x then y else x)) rest
 | _,_::_ => .none
def kK:XC→List XV→Option XC
 | c,[]=>some c
 | .int k x,.one (.int _ y)::rest=>kK (.int k (if y>x then y else x)) rest
 | _,_::_ => .none
theorem uV {P:Program} {β : Env} {n:Nat}(w:World):∀ {l:List XV} {vs:List Value} {k:IntKind} {x:Int} {r:XC},kL (.int k x) l=some r→c_ (aQ β n) l vs →
 (vs.foldlM Builtin.min2 (.int k x)).run P w = .ok (r.den β) w∧r.ok n
 | [],_,k,x,r,h,.nil=>by simp only [kL,Option.some.injEq]at h;subst h;exact⟨rfl,trivial⟩
 | .one (.int k' y)::l,_,k,x,r,h,.cons h1 h2=>by
   obtain⟨_,rfl⟩:=h1
   unfold kL at h
   have:=uV (P:=P) w h h2
   simp only [List.foldlM_cons,XC.den,Builtin.min2,Sem.run_bind,Sem.run_pure,Result.andThen_ok]
   exact this
 | .undef::_,_,k,x,r,h,_=>by simp [kL]at h
 | .agg _::_,_,k,x,r,h,_=>by simp [kL]at h
 | .tup _::_,_,k,x,r,h,_=>by simp [kL]at h
 | .one (.bool _)::_,_,k,x,r,h,_=>by simp [kL]at h
 | .one (.flt _ _)::_,_,k,x,r,h,_=>by simp [kL]at h
 | .one (.cplx _ _ _)::_,_,k,x,r,h,_=>by simp [kL]at h
 | .one (.str _)::_,_,k,x,r,h,_=>by simp [kL]at h
 | .one .nilp::_,_,k,x,r,h,_=>by simp [kL]at h
 | .one (.ptr _ _)::_,_,k,x,r,h,_=>by simp [kL]at h
 | .one .nils::_,_,k,x,r,h,_=>by simp [kL]at h
 | .one (.slice _ _ _ _)::_,_,k,x,r,h,_=>by simp [kL]at h
 | .one .nilm::_,_,k,x,r,h,_=>by simp [kL]at h
 | .one (.map _)::_,_,k,x,r,h,_=>by simp [kL]at h
 | .one (.fn _)::_,_,k,x,r,h,_=>by simp [kL]at h
 | .one (.bind _ _)::_,_,k,x,r,h,_=>by simp [kL]at h
 | .one .nilf::_,_,k,x,r,h,_=>by simp [kL]at h
 | .one .nili::_,_,k,x,r,h,_=>by simp [kL]at h
theorem uU {P:Program} {β : Env} {n:Nat}(w:World):∀ {l:List XV} {vs:List Value} {k:IntKind} {x:Int} {r:XC},kK (.int k x) l=some r→c_ (aQ β n) l vs →
 (vs.foldlM Builtin.max2 (.int k x)).run P w = .ok (r.den β) w∧r.ok n
 | [],_,k,x,r,h,.nil=>by simp only [kK,Option.some.injEq]at h;subst h;exact⟨rfl,trivial⟩
 | .one (.int k' y)::l,_,k,x,r,h,.cons h1 h2=>by
   obtain⟨_,rfl⟩:=h1
   unfold kK at h
   have:=uU (P:=P) w h h2
   simp only [List.foldlM_cons,XC.den,Builtin.max2,Sem.run_bind,Sem.run_pure,Result.andThen_ok]
   exact this
 | .undef::_,_,k,x,r,h,_=>by simp [kK]at h
 | .agg _::_,_,k,x,r,h,_=>by simp [kK]at h
 | .tup _::_,_,k,x,r,h,_=>by simp [kK]at h
 | .one (.bool _)::_,_,k,x,r,h,_=>by simp [kK]at h
 | .one (.flt _ _)::_,_,k,x,r,h,_=>by simp [kK]at h
 | .one (.cplx _ _ _)::_,_,k,x,r,h,_=>by simp [kK]at h
 | .one (.str _)::_,_,k,x,r,h,_=>by simp [kK]at h
 | .one .nilp::_,_,k,x,r,h,_=>by simp [kK]at h
 | .one (.ptr _ _)::_,_,k,x,r,h,_=>by simp [kK]at h
 | .one .nils::_,_,k,x,r,h,_=>by simp [kK]at h
 | .one (.slice _ _ _ _)::_,_,k,x,r,h,_=>by simp [kK]at h
 | .one .nilm::_,_,k,x,r,h,_=>by simp [kK]at h
 | .one (.map _)::_,_,k,x,r,h,_=>by simp [kK]at h
 | .one (.fn _)::_,_,k,x,r,h,_=>by simp [kK]at h
 | .one (.bind _ _)::_,_,k,x,r,h,_=>by simp [kK]at h
 | .one .nilf::_,_,k,x,r,h,_=>by simp [kK]at h
 | .one .nili::_,_,k,x,r,h,_=>by simp [kK]at h
def Ao (P:Program) (t:TypeId) (x:XV):Option Nat:=
 match P.underlying t,x with
 | some .string,.one (.str s)=>some s.length
 | some (.array n _),.agg _=>some n
 | some (.pointer arr),.one (.ptr _ _)=>match P.underlying arr with
   | some (.array n _)=>some n
   | _ => .none
 | some (.slice _),.one .nils=>some 0
 | some (.slice _),.one (.slice _ _ n _)=>some n
 | some (.map _ _),.one .nilm=>some 0
 | _,_ => .none
theorem B6 {P:Program} {t:TypeId} {x:XV} {r:Nat}(h:Ao P t x=some r) {β : Env} {n:Nat} {u:Value}(hu:aQ β n x u) {ts:Array TypeId} {args:Array Value}(ht:ts[0]? = some t) (ha:args[0]? = some u) (ty:TypeId) (w:World) :
 (Builtin.len_ ts ty args).run P w = .ok (.int .i64 r) w:=by
 unfold Ao at h
 simp only [Builtin.len_,ht,ha]
 split at h
 · rename_i s hs
   cases h
   obtain⟨_,rfl⟩:=hu
   simp only [Sem.run_bind,run_underlying hs,Result.andThen_ok,XC.den,Sem.run_pure,goInt]
   rfl
 · rename_i k e cs hs
   cases h
   obtain⟨_,rfl⟩:=hu
   simp only [Sem.run_bind,run_underlying hs,Result.andThen_ok,Sem.run_pure,goInt]
 · rename_i arr i o hs
   split at h
   · rename_i k e hk
     cases h
     obtain⟨_,rfl⟩:=hu
     simp only [Sem.run_bind,run_underlying hs,Result.andThen_ok,XC.den,Sem.run_pure,goInt,run_underlying hk]
   · cases h
 · rename_i e hs
   cases h
   obtain⟨_,rfl⟩:=hu
   simp only [Sem.run_bind,run_underlying hs,Result.andThen_ok,XC.den,Sem.run_pure,goInt]
 · rename_i e i o k cap hs
   cases h
   obtain⟨_,rfl⟩:=hu
   cases cap <;> simp only [Sem.run_bind,run_underlying hs,Result.andThen_ok,XC.den,Sem.run_pure,goInt]
 · rename_i k e hs
   cases h
   obtain⟨_,rfl⟩:=hu
   simp only [Sem.run_bind,run_underlying hs,Result.andThen_ok,XC.den,Sem.run_pure,goInt]
   rfl
 · cases h
def fi (P:Program) (b:Builtin) (ts:Array TypeId) (args:List XV):Option XV:=
 match b,args with
 | .len,x::_=>match ts[0]? with
   | some t=>(Ao P t x).map fun(n:Nat)=>XV.one (.int .i64 (n:Int))
   | .none => .none
 | .min,.one (.int k x)::rest=>(kL (.int k x) rest).map .one
 | .max,.one (.int k x)::rest=>(kK (.int k x) rest).map .one
 | .complex,[.one (.flt k a),.one (.flt k' b)]=>if k=k' then some (.one (.cplx k a b))else .none
 | .real,[.one (.cplx k a _)]=>some (.one (.flt k a))
 | .imag,[.one (.cplx k _ b)]=>some (.one (.flt k b))
 | _,_ => .none
theorem c_.head {α γ : Type} {R : α → γ→Prop} {a : α} {l:List α} {vs:List γ}(h:c_ R (a::l) vs):∃ b k,vs=b::k∧R a b∧c_ R l k:=by
 cases h with
 | cons h1 h2=>exact⟨_,_,rfl,h1,h2⟩
theorem uK {P:Program} {b:Builtin} {ts:Array TypeId} {args:List XV} {r:XV}(h:fi P b ts args=some r) {β : Env} {n:Nat} {vs:Array Value}(hv:c_ (aQ β n) args vs.toList) (ty:TypeId) (cs:Array Bool) (w:World) :
 ∃ z,(builtin b ts ty cs vs).run P w = .ok (.value z) w∧aQ β n r z:=by
 obtain⟨vs⟩:=vs
 simp only at hv
 unfold fi at h
 split at h
 · obtain⟨u,k,rfl,h1,h2⟩:=hv.head
   split at h
   · rename_i t ht
     obtain⟨m,hm,rfl⟩:=Option.map_eq_some_iff.1 h
     have:=B6 hm h1 (args:=(u::k).toArray) ht (by simp) ty w
     exact⟨_,by simp only [builtin,Sem.run_bind,this,Result.andThen_ok,Sem.run_pure];rfl,trivial,rfl⟩
   · cases h
 · obtain⟨u,k,rfl,h1,h2⟩:=hv.head
   obtain⟨c,hc,rfl⟩:=Option.map_eq_some_iff.1 h
   obtain⟨_,rfl⟩:=h1
   obtain⟨h3,h4⟩:=uV (P:=P) w hc h2
   exact⟨_,by simp only [builtin,Builtin.min_,XC.den,Sem.run_bind,h3,Result.andThen_ok,Sem.run_pure],h4,rfl⟩
 · obtain⟨u,k,rfl,h1,h2⟩:=hv.head
   obtain⟨c,hc,rfl⟩:=Option.map_eq_some_iff.1 h
   obtain⟨_,rfl⟩:=h1
   obtain⟨h3,h4⟩:=uU (P:=P) w hc h2
   exact⟨_,by simp only [builtin,Builtin.max_,XC.den,Sem.run_bind,h3,Result.andThen_ok,Sem.run_pure],h4,rfl⟩
 · rename_i kk aa kk' bb
   obtain⟨u,k,rfl,h1,h2⟩:=hv.head
   obtain⟨u',k',rfl,h3,h4⟩:=h2.head
   cases h4
   split at h
   · rename_i hk
     subst hk
     cases h
     obtain⟨_,rfl⟩:=h1
     obtain⟨_,rfl⟩:=h3
     have e:Builtin.complex_ ts ty [XC.den β (.flt kk aa),XC.den β (.flt kk bb)].toArray=pure (.complex kk aa bb):=by show(if _=_ then _ else _)=_;rw [if_pos rfl]
     exact⟨_,by simp only [builtin,e,Sem.run_bind,Result.andThen_ok,Sem.run_pure];rfl,trivial,rfl⟩
   · cases h
 · obtain⟨u,k,rfl,h1,h2⟩:=hv.head
   cases h2
   cases h
   obtain⟨_,rfl⟩:=h1
   exact⟨_,rfl,trivial,rfl⟩
 · obtain⟨u,k,rfl,h1,h2⟩:=hv.head
   cases h2
   cases h
   obtain⟨_,rfl⟩:=h1
   exact⟨_,rfl,trivial,rfl⟩
 · cases h
def bj (P:Program) (ρ : Operand→XV) (op:Op):Option XV:=
 match op with
 | .move x=>some (ρ x)
 | .assign x=>some (ρ x)
 | .pick c a b=>match ρ c with
   | .one (.bool t)=>some (if t then ρ a else ρ b)
   | _ => .none
 | .build t parts=>oz P t (parts.toList.map fun p=>(p.1,ρ p.2))
 | .nilCheck x=>mn (ρ x)
 | .binOp op t x y _=>rh P op t (ρ x) (ρ y)
 | .unOp op _ x=>OW op (ρ x)
 | .convert s d x=>kG P s d (ρ x)
 | .makeFunc (.func f) first caps=>if first.isEmpty then(kF (.fn f) (caps.toList.map ρ)).map .one else .none
 | .slice t x lo hi mx=>r7 P t (ρ x) (lo.map ρ) (hi.map ρ) (mx.map ρ)
 | .fieldAddr s x f=>fB P s (ρ x) f
 | .field s x f=>x8 P s (ρ x) f
 | .indexAddr t x i=>cB P t (ρ x) (ρ i)
 | .index t x i=>qc P t (ρ x) (ρ i)
 | .extract x i=>jO (ρ x) i
 | .call ⟨.builtin b,args,ts⟩=>fi P b ts (args.toList.map ρ)
 | _ => .none
theorem kx {β : Env} {n:Nat} {ρ : Operand→XV} {ev:Operand→Value}(hr:∀ x,aQ β n (ρ x) (ev x)):∀ o:Option Operand,kd β n (o.map ρ) (o.map ev)
 | .none => .none
 | some x => .some (hr x)
theorem qj {β : Env} {n:Nat} {ρ : Operand→XV} {ev:Operand→Value}(hr:∀ x,aQ β n (ρ x) (ev x)):∀ l:List Operand,c_ (aQ β n) (l.map ρ) (l.map ev)
 | [] => .nil
 | x::l => .cons (hr x) (qj hr l)
theorem Aq {P:Program} {ρ : Operand→XV} {o:Oper} {r:XV}(h:bj P ρ o.op=some r) {β : Env} {n:Nat} {ev:Operand→Value}(hr:∀ x,aQ β n (ρ x) (ev x)) (w:World) :
 ∃ z,(execOp ev o).run P w = .ok (.value z) w∧aQ β n r z:=by
 unfold bj at h
 split at h
 · rename_i x ho
   cases h
   exact⟨_,by simp only [execOp,ho,Sem.run_pure],hr x⟩
 · rename_i x ho
   cases h
   exact⟨_,by simp only [execOp,ho,Sem.run_pure],hr x⟩
 · rename_i c a b ho
   split at h
   · rename_i t hc
     cases h
     have:=hr c
     rw [hc]at this
     obtain⟨_,h2⟩:=this
     refine⟨if t then ev a else ev b,by simp only [execOp,ho,h2,XC.den,asBool,Sem.run_bind,Sem.run_pure,Result.andThen_ok],?_⟩
     cases t
     · exact hr b
     · exact hr a
   · cases h
 · rename_i t parts ho
   obtain⟨z,hz,hz2⟩:=x5 h (vs:=parts.map fun(i,x)=>(i,ev x)) (by
    rw [Array.toList_map]
    exact c_.qH _ _ _ fun p _=>⟨rfl,hr p.2⟩) w
   exact⟨z,by simp only [execOp,ho,Sem.run_bind,hz,Result.andThen_ok,Sem.run_pure],hz2⟩
 · rename_i x ho
   exact sJ h ho (hr x) w
 · rename_i op t x y t' ho
   obtain⟨h1,z,hz,hz2⟩:=BY h (hr x) (hr y) x y w
   exact⟨z,by simp only [execOp,ho,Sem.run_bind,h1,hz,Result.andThen_ok,Sem.run_pure],hz2⟩
 · rename_i op t x ho
   obtain⟨z,hz,hz2⟩:=FG (P:=P) h (hr x) w
   exact⟨z,by simp only [execOp,ho,Sem.run_bind,hz,Result.andThen_ok,Sem.run_pure],hz2⟩
 · rename_i s d x ho
   obtain⟨z,hz,hz2⟩:=uL h (hr x) w
   exact⟨z,by simp only [execOp,ho,Sem.run_bind,hz,Result.andThen_ok,Sem.run_pure],hz2⟩
 · rename_i f first caps ho
   split at h
   · rename_i hf
     obtain⟨c,hc,rfl⟩:=Option.map_eq_some_iff.1 h
     have hl:c_ (aQ β n) (caps.toList.map ρ) (caps.toList.map ev):=qj hr _
     obtain⟨h1,h2⟩:=oy hc (f:=f) (cs:=[]) rfl trivial hl
     have hfe:first = #[]:=by simpa using hf
     refine⟨c.den β,?_,h1,rfl⟩
     rw [h2]
     have e:caps.map ev=(List.map ev caps.toList).toArray:=by apply Array.toList_inj.1;simp
     simp [execOp,ho,Instr.makeFunc,hfe,e]
   · cases h
 · rename_i t x lo hi mx ho
   obtain⟨z,hz,hz2⟩:=yc h (hr x) (kx hr lo) (kx hr hi) (kx hr mx) w
   exact⟨z,by simp only [execOp,ho,Sem.run_bind,hz,Result.andThen_ok,Sem.run_pure],hz2⟩
 · rename_i s x f ho
   obtain⟨z,hz,hz2⟩:=rZ h (hr x) w
   exact⟨z,by simp only [execOp,ho,Sem.run_bind,hz,Result.andThen_ok,Sem.run_pure],hz2⟩
 · rename_i s x f ho
   obtain⟨z,hz,hz2⟩:=x9 h (hr x) w
   exact⟨z,by simp only [execOp,ho,Sem.run_bind,hz,Result.andThen_ok,Sem.run_pure],hz2⟩
 · rename_i t x i ho
   obtain⟨z,hz,hz2⟩:=r5 h (hr x) (hr i) w
   exact⟨z,by simp only [execOp,ho,Sem.run_bind,hz,Result.andThen_ok,Sem.run_pure],hz2⟩
 · rename_i t x i ho
   obtain⟨z,hz,hz2⟩:=x_ h (hr x) (hr i) w
   exact⟨z,by simp only [execOp,ho,Sem.run_bind,hz,Result.andThen_ok,Sem.run_pure],hz2⟩
 · rename_i x i ho
   obtain⟨z,hz,hz2⟩:=uR (P:=P) h (hr x) w
   exact⟨z,by simp only [execOp,ho,Sem.run_bind,hz,Result.andThen_ok,Sem.run_pure],hz2⟩
 · rename_i b args ts ho
   obtain⟨z,hz,hz2⟩:=uK h (vs:=args.map ev) (by rw [Array.toList_map];exact qj hr _) o.type (args.map fun | .const _=>true|_=>false) w
   refine⟨z,?_,hz2⟩
   simp only [execOp,ho,resolve,invoke,Sem.run_bind,Sem.run_pure,Result.andThen_ok]
   exact hz
 · cases h
end Go.Xm
namespace Go.Xm
variable [az]
theorem f4.cell {β : Env} {n lo sz:Nat} {vs:List XC} {e:TypeId} {opn ro:Bool} {w:World} {b:Nat}(h:f4 β n lo sz (.cells vs e opn ro) w.heap[b]?) (j:Nat) (c:XC) (hj:vs[j]? = some c) :
 w.cell? ⟨b,lo+j,none⟩=some (c.den β):=by
 obtain⟨cs,fr,h1,_,_,_,_,h6⟩:=h
 rw [cell_of_row w b (lo+j) cs e fr h1]
 have h7:((cs.toList.drop lo).take vs.length)[j]? = some (c.den β):=by rw [h6];simp [hj]
 rw [List.getElem?_take]at h7
 split at h7
 · rw [List.getElem?_drop]at h7;simpa using h7
 · cases h7
theorem f4.Hq {β : Env} {n lo sz:Nat} {vs:List XC} {e:TypeId} {opn ro:Bool} {o:Option Obj}(h:f4 β n lo sz (.cells vs e opn ro) o):∀ c∈vs,c.ok n:=by
 obtain⟨cs,fr,h1,h2,h3,h4,h5,h6⟩:=h
 exact h5
theorem fP {P:Program} {β : Env} {n lo sz:Nat} {vs:List XC} {e:TypeId} {opn ro:Bool} {w:World} {b:Nat}(h:f4 β n lo sz (.cells vs e opn ro) w.heap[b]?) (off s:Nat) (hl:off+s≤vs.length) :
 (loadCells ⟨b,lo+off,none⟩ s).run P w = .ok (((vs.drop off).take s).map (·.den β)).toArray w:=by
 have hlen:(((vs.drop off).take s).map (·.den β)).length=s:=by simp;omega
 have:=run_loadCells_list (P:=P) w ⟨b,lo+off,none⟩ (((vs.drop off).take s).map (·.den β)) (fun j v hv=>by
  rw [Addr.gT,Nat.add_assoc]
  rw [List.getElem?_map]at hv
  obtain⟨c,hc,rfl⟩:=Option.map_eq_some_iff.1 hv
  rw [List.getElem?_take]at hc
  split at hc
  · rw [List.getElem?_drop]at hc
    exact h.cell _ _ hc
  · cases hc)
 rwa [hlen]at this
def eU (P:Program) (t:TypeId) (vs:List XC) (off:Nat):Option X1:=
 match fT P t with
 | some true=>match cn P t with
   | some s=>if off+s≤vs.length then some (.agg ((vs.drop off).take s))else .none
   | .none => .none
 | some false=>match vs[off]? with
   | some c=>some (.one c)
   | .none => .none
 | .none => .none
theorem pG {P:Program} {t:TypeId} {vs:List XC} {off:Nat} {x:X1}(h:eU P t vs off=some x) {β : Env} {n lo sz:Nat} {e:TypeId} {opn ro:Bool} {w:World} {b:Nat}(hr:f4 β n lo sz (.cells vs e opn ro) w.heap[b]?) :
 (loadVar t ⟨b,lo+off,none⟩).run P w = .ok (x.den β) w∧x.ok n:=by
 unfold eU at h
 split at h
 · rename_i ha
   split at h
   · rename_i s hs
     split at h
     · rename_i hl
       cases h
       refine⟨?_,fun c hc=>hr.Hq c (List.mem_of_mem_drop (List.mem_of_mem_take hc))⟩
       simp only [loadVar,Sem.run_bind,nf ha,Result.andThen_ok,if_true,b_ hs,fP hr off s hl,Sem.run_pure,X1.den]
     · cases h
   · cases h
 · rename_i ha
   split at h
   · rename_i c hc
     cases h
     refine⟨?_,hr.Hq c (List.mem_of_getElem? hc)⟩
     simp only [loadVar,Sem.run_bind,nf ha,Result.andThen_ok,Bool.false_eq_true,if_false,run_load,hr.cell _ _ hc,X1.den]
   · cases h
 · cases h
def ln (P:Program) (ck:TypeId→X1→Bool) (elem:TypeId) (s:Nat) (cs:List XC):Nat→Nat→Bool
 | _,0=>true
 | i,k+1=>match g_ P elem cs (i*s)with
   | some y=>ck elem y && ln P ck elem s cs (i+1) k
   | .none=>false
def iF (P:Program):Nat→TypeId→X1→Bool
 | 0,_,_=>false
 | d + 1,t,x=>
   match P.underlying t with
   | some (.array len elem)=>match x,cn P elem with
     | .agg cs,some s=>ln P (iF P d) elem s cs 0 len
     | _,_=>false
   | some (.struct _)=>false
   | some (.interface _)=>false
   | some _=>true
   | .none=>false
theorem nR {P:Program} {ck:TypeId→X1→Bool} {elem:TypeId} {s:Nat} {cs:List XC} {n:Nat}(hc:∀ c∈cs,c.ok n) (β : Env) (w:World) (f:TypeId→Value→Sem Unit) (hs:cn P elem=some s)
 (hf:∀ y:X1,y.ok n→ck elem y=true→(f elem (y.den β)).run P w = .ok () w) :
 ∀ (k i:Nat),ln P ck elem s cs i k=true →
   ((forIn (List.range' i k) PUnit.unit fun i (_:PUnit)=>do
      let s' ←sizeOf elem
      let y ←part elem (cs.map (·.den β)).toArray (i*s')
      f elem y
      pure (ForInStep.yield PUnit.unit):Sem PUnit).run P w) = .ok PUnit.unit w
 | 0,i,_=>by simp
 | k + 1,i,h=>by
   unfold ln at h
   split at h
   · rename_i y hy
     simp only [Bool.and_eq_true]at h
     obtain⟨h1,h2⟩:=gw hy hc β w
     simp only [List.range'_succ,List.forIn_cons,Sem.run_bind,b_ hs,h1,Result.andThen_ok,hf y h2 h.1,Sem.run_pure]
     exact nR hc β w f hs hf k (i+1) h.2
   · cases h
theorem jU {P:Program}(e:Bool) {n:Nat}(β : Env) (w:World):∀(d:Nat) (t:TypeId) (x:X1),iF P d t x=true→x.ok n→∀ f,d≤f→(Instr.checkKey e f t (x.den β)).run P w = .ok () w
 | 0,t,x,h,_,_,_=>by simp [iF]at h
 | d + 1,t,x,h,hx,f,hf=>by
   obtain⟨g,rfl⟩:∃ g,f=g+1:=⟨f-1,by omega⟩
   unfold iF at h
   unfold Instr.checkKey
   split at h
   · rename_i len elem hu
     split at h
     · rename_i cs s hs
       simp only [Sem.run_bind,run_underlying hu,Result.andThen_ok,X1.den]
       rw [Std.Legacy.Range.forIn_eq_forIn_range']
       simp only [Std.Legacy.Range.size,Nat.sub_zero,Nat.add_sub_cancel,Nat.div_one]
       have:=nR (P:=P) hx β w (fun t v=>Instr.checkKey e g t v) hs (fun y hy hck=>jU e β w d elem y hck hy g (by omega)) len 0 h
       rw [this]
       rfl
     · cases h
   · cases h
   · cases h
   · rename_i ds h1 h2 h3 hu
     simp only [Sem.run_bind,run_underlying hu,Result.andThen_ok]
     cases ds <;> first
      | rfl
      | (exact(h1 _ _ rfl).elim)
      | (exact(h2 _ rfl).elim)
      | (exact(h3 _ rfl).elim)
   · cases h
def kJ (P:Program) (kt:TypeId) (key:X1):List (X1 × X1)→Nat→Option (Option (Nat × X1))
 | [],_=>some .none
 | (k,v)::es,i=>match bW P 40 kt key k with
   | some true=>some (some (i,v))
   | some false=>kJ P kt key es (i+1)
   | .none => .none
def mL (en:List MapEntry):List (Value × Value):=en.map fun e=>(e.key,e.val)
theorem nW {P:Program} {kt:TypeId} {key:X1} {n:Nat}(hk:key.ok n) (β : Env) (w:World):∀(es:List (X1 × X1)) (en:List MapEntry) (i:Nat) (r:Option (Nat × X1)),kJ P kt key es i=some r →
 (∀ p∈es,p.1.ok n∧p.2.ok n)→mL en=es.map (fun p=>(p.1.den β,p.2.den β)) →
 (Instr.findAsking kt (key.den β) en i).run P w = .ok (r.map fun p=>(p.1,p.2.den β)) w
 | [],[],i,r,h,_,_=>by simp only [kJ,Option.some.injEq]at h;subst h;rfl
 | [],_::_,i,r,h,_,he=>by simp [mL]at he
 | _::_,[],i,r,h,_,he=>by simp [mL]at he
 | (k,v)::es,e::en,i,r,h,hok,he=>by
   simp only [mL,List.map_cons,List.cons.injEq,Prod.mk.injEq]at he
   obtain⟨⟨e1,e2⟩,e3⟩:=he
   have hko:=(hok (k,v) (by simp)).1
   unfold kJ at h
   unfold Instr.findAsking
   split at h
   · rename_i hq
     cases h
     have:=fA P 40 _ _ _ _ hq β n hk hko w Op.maxDepth (by decide)
     simp only [Sem.run_bind,e1,Op.equal,this,Result.andThen_ok,if_true,Sem.run_pure,e2]
     rfl
   · rename_i hq
     have:=fA P 40 _ _ _ _ hq β n hk hko w Op.maxDepth (by decide)
     simp only [Sem.run_bind,e1,Op.equal,this,Result.andThen_ok,Bool.false_eq_true,if_false]
     exact nW hk β w es en (i+1) r h (fun p hp=>hok p (by simp [hp])) e3
   · cases h
theorem uw {P:Program} {kt:TypeId} {d:TypeDesc}(hd:P.underlying kt=some d) {a b:Value} {r s:Bool}(h:Instr.sameNow d a b=some r) (w:World) (f:Nat) (hs:(Op.equalIn (f+1) kt a b).run P w = .ok s w):r=s:=by
 rw [Op.equalIn]at hs
 simp only [Sem.run_bind,run_underlying hd,Result.andThen_ok]at hs
 unfold Instr.sameNow at h
 split at h
 · split at h
   · rename_i hk
     subst hk
     cases h
     simpa using hs
   · cases h
 · cases h
   simpa using hs
 · cases h
   simpa using hs
 · cases h
theorem tM {P:Program} {kt:TypeId} {d:TypeDesc}(hd:P.underlying kt=some d) {key:X1} {n:Nat}(hk:key.ok n) (β : Env) (w:World):∀(es:List (X1 × X1)) (en:List MapEntry) (i:Nat) (r:Option (Nat × X1)) (q:Option (Nat × Value)),kJ P kt key es i=some r →
 (∀ p∈es,p.1.ok n∧p.2.ok n)→mL en=es.map (fun p=>(p.1.den β,p.2.den β))→Instr.findNow d (key.den β) en i=some q→q=r.map fun p=>(p.1,p.2.den β)
 | [],[],i,r,q,h,_,_,hq=>by
   simp only [kJ,Option.some.injEq]at h
   simp only [Instr.findNow,Option.some.injEq]at hq
   subst h;subst hq;rfl
 | [],_::_,i,r,q,h,_,he,_=>by simp [mL]at he
 | _::_,[],i,r,q,h,_,he,_=>by simp [mL]at he
 | (k, v)::es,e::en,i,r,q,h,hok,he,hq=>by
   simp only [mL,List.map_cons,List.cons.injEq,Prod.mk.injEq]at he
   obtain⟨⟨e1,e2⟩,e3⟩:=he
   have hko:=(hok (k,v) (by simp)).1
   unfold kJ at h
   unfold Instr.findNow at hq
   split at h
   · rename_i hx
     cases h
     have:=fA P 40 _ _ _ _ hx β n hk hko w 40 (by decide)
     rw [e1]at hq
     split at hq
     · cases hq;rw [e2];rfl
     · rename_i hs
       have:=uw hd hs w 39 this
       cases this
     · cases hq
   · rename_i hx
     have:=fA P 40 _ _ _ _ hx β n hk hko w 40 (by decide)
     rw [e1]at hq
     split at hq
     · rename_i hs
       have:=uw hd hs w 39 this
       cases this
     · exact tM hd hk β w es en (i+1) r q h (fun p hp=>hok p (by simp [hp])) e3 hq
     · cases hq
   · cases h
theorem kW {P:Program} {kt:TypeId} {d:TypeDesc}(hd:P.underlying kt=some d) {key:X1} {n:Nat}(hk:key.ok n) (β : Env) (w:World) {es:List (X1 × X1)} {en:List MapEntry} {r:Option (Nat × X1)}(h:kJ P kt key es 0=some r)
 (hok:∀ p∈es,p.1.ok n∧p.2.ok n) (he:mL en=es.map (fun p=>(p.1.den β,p.2.den β))) :
 (Instr.findKey kt (key.den β) en).run P w = .ok (r.map fun p=>(p.1,p.2.den β)) w:=by
 unfold Instr.findKey
 simp only [Sem.run_bind,run_underlying hd,Result.andThen_ok]
 split
 · rename_i q hq
   rw [tM hd hk β w es en 0 r q h hok he hq]
   rfl
 · exact nW hk β w es en 0 r h hok he
def oF (P:Program) (t:TypeId):Option X1:=
 match P.info? t with
 | some i=>match i.zero with
   | some (.agg cs)=>(cs.toList.mapM n_).map .agg
   | some v=>(n_ v).map .one
   | .none => .none
 | .none => .none
theorem yg {P:Program} {t:TypeId} {x:X1}(h:oF P t=some x) (β : Env) (n:Nat) (w:World):(zeroValue t).run P w = .ok (x.den β) w∧x.ok n:=by
 unfold oF at h
 split at h
 · rename_i i hi
   split at h
   · rename_i cs hv
     obtain⟨l,hl,rfl⟩:=Option.map_eq_some_iff.1 h
     obtain⟨h1,h2⟩:=oa hl β n
     refine⟨?_,h1⟩
     rw [dz hi hv]
     simp only [X1.den,←h2]
   · rename_i v _ hv
     obtain⟨c,hc,rfl⟩:=Option.map_eq_some_iff.1 h
     obtain⟨h1,h2⟩:=pV hc β n
     refine⟨?_,h1⟩
     rw [dz hi hv,h2]
     rfl
   · cases h
 · cases h
def nh (P:Program) (kt et:TypeId) (key:X1) (ok:Bool) (es:List (X1 × X1)):Option XV:=
 if iF P 40 kt key then
  match P.underlying kt,kJ P kt key es 0 with
  | some _,some (some (_,v))=>some (if ok then .tup [v,.one (.bool true)]else v.rW)
  | some _,some .none=>match oF P et with
    | some z=>some (if ok then .tup [z,.one (.bool false)]else z.rW)
    | .none => .none
  | _,_ => .none
 else .none
theorem vz {P : Program} {kt et:TypeId} {key:X1} {ok:Bool} {es:List (X1 × X1)} {r:XV}(h:nh P kt et key ok es=some r) {β : Env} {n:Nat}(hk:key.ok n) {en:Array MapEntry}
 (hok:∀ p∈es,p.1.ok n∧p.2.ok n) (he:en.toList.map (fun e=>(e.key,e.val))=es.map (fun p=>(p.1.den β,p.2.den β))) (emp:Bool) (w:World) :
 ∃ z,(do
   Instr.checkKey emp 10000 kt (key.den β)
   let (v,ok') ←match ←Instr.findKey kt (key.den β) en.toList with
    | some (_,v)=>pure (v,true)
    | none=>pure (←zeroValue et,false)
   pure (if ok then Value.tuple #[v,.bool ok']else v):Sem Value).run P w = .ok z w∧aQ β n r z:=by
 unfold nh at h
 split at h
 · rename_i hc
   have hck:=jU (P:=P) emp β w 40 kt key hc hk 10000 (by decide)
   split at h
   · rename_i d i v hd hf
     cases h
     have hfk:=kW hd hk β w hf hok he
     have hv : v.ok n:=by
      have key:∀(es:List (X1 × X1)) (i j:Nat),kJ P kt key es i=some (some (j,v))→∃ p∈es,p.2=v:=by
       intro es
       induction es with
       | nil=>intro i j h;simp [kJ]at h
       | cons p es ih=>
         intro i j h
         obtain⟨k,u⟩:=p
         unfold kJ at h
         split at h
         · cases h;exact⟨_,List.mem_cons_self ..,rfl⟩
         · obtain⟨p,hp,e⟩:=ih _ _ h
           exact⟨p,List.mem_cons_of_mem _ hp,e⟩
         · cases h
      obtain⟨p,hp,rfl⟩:=key es 0 i hf
      exact(hok p hp).2
     cases ok
     · exact⟨v.den β,by simp [hck,hfk],aQ.rW.2 ⟨hv,rfl⟩⟩
     · refine⟨_,by simp [hck,hfk];rfl,fun x hx=>?_,rfl⟩
       rcases List.mem_cons.1 hx with rfl|hx
       · exact hv
       · simp only [List.mem_singleton]at hx;subst hx;trivial
   · rename_i d hd hf
     split at h
     · rename_i z hz
       cases h
       have hfk:=kW hd hk β w hf hok he
       obtain⟨h1,h2⟩:=yg hz β n w
       cases ok
       · exact⟨z.den β,by simp [hck,hfk,h1],aQ.rW.2 ⟨h2,rfl⟩⟩
       · refine⟨_,by simp [hck,hfk,h1];rfl,fun x hx=>?_,rfl⟩
         rcases List.mem_cons.1 hx with rfl|hx
         · exact h2
         · simp only [List.mem_singleton]at hx;subst hx;trivial
     · cases h
   · cases h
 · cases h
def r8 (P:Program) (t:TypeId) (i o len sz:Nat) (lo hi:Option XV) (vs:List XC):Option XV:=
 match P.underlying t with
 | some (.slice elem)=>match cn P elem,mg hi len ((vs.length-o)/sz)with
   | some s,some h=>match mg lo 0 h with
     | some l=>if s=sz∧0<sz∧l<h∧o+h*sz≤vs.length then some (.one (.slice i (o+l*sz) (h-l) (.toEnd sz)))else .none
     | .none => .none
   | _,_ => .none
 | _ => .none
theorem sH {x:XV} {d y y' i:Nat}(h:mg (some x) d y=some i) (hy:y≤y'):mg (some x) d y'=some i:=by
 unfold mg at h ⊢
 split at h
 · rename_i he;cases he
 · rename_i k j he
   cases he
   split at h
   · rename_i hj
     cases h
     rw [if_pos ⟨hj.1,by omega⟩]
   · cases h
 · cases h
theorem sK {P : Program} {t:TypeId} {i o len sz:Nat} {lo hi:Option XV} {vs:List XC} {r:XV}(h:r8 P t i o len sz lo hi vs=some r) {β : Env} {n:Nat}(hin:i<n) {e:TypeId} {opn ro:Bool} {w:World}
 (hr:f4 β n (β.base i) (β.size i) (.cells vs e opn ro) w.heap[β.c9 i]?) {vl vh:Option Value}(h1:kd β n lo vl) (h2:kd β n hi vh) :
 ∃ z,(Instr.sliceAt t (XC.den β (.slice i o len (.toEnd sz))) vl vh .none).run P w = .ok z w∧aQ β n r z:=by
 unfold r8 at h
 split at h
 · rename_i elem ht
   split at h
   · rename_i s hv hs hb
     split at h
     · rename_i l hl
       split at h
       · rename_i hc
         obtain⟨rfl,hpos,hlh,hfit⟩:=hc
         cases h
         have hlen:vs.length ≤ β.size i:=by
          obtain⟨cs,fr,g1,g2,g3,_⟩:=hr
          split at g3 <;> omega
         have hcap:hv≤(β.size i-o)/s:=by
          rw [Nat.le_div_iff_mul_le hpos];omega
         have hcap':(vs.length-o)/s≤(β.size i-o)/s:=Nat.div_le_div_right (by omega)
         have hbd:(Instr.sliceBounds true len ((β.size i-o)/s) vl vh .none).run P w = .ok (l,hv,(β.size i-o)/s) w:=by
          refine gZ (P:=P) (isSlice:=true) (lo:=lo) (hi:=hi) (mx := .none) ?_ h1 h2 .none w
          unfold jw
          simp only []
          have hb':mg hi len ((β.size i-o)/s)=some hv:=by
           cases hi with
           | none=>exact hb
           | some x=>exact sH hb hcap'
          rw [hb']
          simp only [hl]
         refine⟨_,?_,hin,rfl⟩
         simp only [Instr.sliceAt,Instr.slice,Sem.run_bind,run_underlying ht,Result.andThen_ok,XC.den,Sem.run_pure,hbd,b_ hs]
         rw [if_neg (by omega)]
         simp only [Option.map_some,Addr.gT,Nat.add_assoc]
         have e1:(β.size i-(o+l*s))/s=(β.size i-o)/s-l:=by
          rw [Nat.sub_add_eq,Nat.mul_comm l s,Nat.sub_mul_div]
         rw [e1]
       · cases h
     · cases h
   · cases h
 · cases h
theorem zi {P:Program} {t ty kt et:TypeId} {ts:Array TypeId} {args:Array Value} {b:Nat} {en:Array MapEntry} {clock:Nat} {w:World}(ht:ts[0]? = some t) (hu:P.underlying t=some (.map kt et))
 (ha:args[0]? = some (.map (some b))) (hg:w.heap[b]? = some (.map en clock)):(Builtin.len_ ts ty args).run P w = .ok (.int .i64 en.size) w:=by
 have hgo:(getObj b).run P w = .ok (.map en clock) w:=by simp only [getObj,Sem.run,hg]
 simp only [Builtin.len_,ht,ha,Sem.run_bind,run_underlying hu,hgo,Result.andThen_ok,Sem.run_pure,goInt]
def oA:List XC→Option (List Int)
 | []=>some []
 | .int .u8 z::l=>(oA l).map (z :: ·)
 | _ => .none
theorem sw:∀ {cs:List XC} {ns:List Int},oA cs=some ns→cs=ns.map (XC.int .u8)
 | [],ns,h=>by cases h;rfl
 | c :: l,ns,h=>by
   unfold oA at h
   split at h
   · rename_i he;cases he
   · rename_i z l' he
     cases he
     obtain⟨q,hq,rfl⟩:=Option.map_eq_some_iff.1 h
     rw [sw hq];rfl
   · cases h
def oD (ns:List Int):List UInt8:=ns.map fun z=>UInt8.ofNat z.toNat
theorem zF:∀(ns:List Int) (l:List UInt8),ns.foldl (fun(r:ByteArray) n=>r.push (UInt8.ofNat n.toNat)) ⟨l.toArray⟩=⟨(l++oD ns).toArray⟩
 | [],l=>by simp [oD]
 | n::ns,l=>by
   have h:=zF ns (l++[UInt8.ofNat n.toNat])
   have e:(⟨l.toArray⟩:ByteArray).push (UInt8.ofNat n.toNat)=⟨(l++[UInt8.ofNat n.toNat]).toArray⟩:=by simp [ByteArray.push]
   rw [List.foldl_cons,e,h]
   simp [oD]
def fL (P : Program) (ρ : Operand→XV) (op:Op):Option (Nat × (ak→Option XV)):=
 match op with
 | .load t a=>match ρ a with
   | .one (.ptr i off)=>some (i,fun o=>match o with
     | .cells vs _ _ _=>(eU P t vs off).map X1.rW
     | _ => .none)
   | _ => .none
 | .lookup t x ix ok=>match P.underlying t,ρ x,p9 (ρ ix)with
   | some (.map kt et),.one (.map i),some key=>some (i,fun o=>match o with
     | .map es=>nh P kt et key ok es
     | _ => .none)
   | _,_,_ => .none
 | .call ⟨.builtin .len,args,ts⟩=>match args.toList with
   | [x] => match ts[0]?,ρ x with
     | some t,.one (.map i)=>match P.underlying t with
       | some (.map _ _)=>some (i,fun o=>match o with
         | .map es=>some (.one (.int .i64 (es.length:Nat)))
         | _ => .none)
       | _ => .none
     | _,_ => .none
   | _ => .none
 | .slice t x lo hi .none=>match ρ x with
   | .one (.slice i o len (.toEnd sz))=>some (i,fun b=>match b with
     | .cells vs _ _ _=>r8 P t i o len sz (lo.map ρ) (hi.map ρ) vs
     | _ => .none)
   | _ => .none
 | .convert s d x=>match P.underlying s,P.underlying d,ρ x with
   | some (.slice e),some .string,.one (.slice i off len _)=>match P.underlying e with
     | some (.int .u8)=>some (i,fun o=>match o with
       | .cells vs _ _ _=>if off+len≤vs.length then(oA ((vs.drop off).take len)).map fun ns => .one (.str (oD ns))else .none
       | _ => .none)
     | _ => .none
   | _,_,_ => .none
 | _ => .none
theorem As {P : Program} {ρ : Operand→XV} {o:Oper} {i:Nat} {f:ak→Option XV}(h:fL P ρ o.op=some (i,f)) {β : Env} {m:Mem} {ev:Operand→Value}(hr:∀ x,aQ β m.n (ρ x) (ev x)) {w:World}(hm:Rel β m w)
 {r:XV}(hf:f (m.get i)=some r):∃ z,(execOp ev o).run P w = .ok (.value z) w∧aQ β m.n r z:=by
 unfold fL at h
 split at h
 · rename_i t a ho
   split at h
   · rename_i j off ha
     cases h
     have hra:=hr a
     rw [ha]at hra
     obtain⟨h1,h2⟩:=hra
     have hob:=hm.obj i h1
     simp only at hf
     split at hf
     · rename_i vs e opn ro hg
       rw [hg]at hob
       obtain⟨x,hx,rfl⟩:=Option.map_eq_some_iff.1 hf
       obtain⟨h3,h4⟩:=pG (P:=P) hx hob
       refine⟨x.den β,?_,aQ.rW.2 ⟨h4,rfl⟩⟩
       simp only [execOp,ho,h2,XC.den,Instr.loadAt,Instr.sureAddr,Sem.run_bind,Sem.run_pure,Result.andThen_ok,h3]
     · cases hf
   · cases h
 · rename_i t x ix ok ho
   split at h
   · rename_i kt et j key hu hx hk
     cases h
     have hrx:=hr x
     rw [hx]at hrx
     obtain⟨h1,h2⟩:=hrx
     obtain⟨h3,h4⟩:=ra hk (hr ix)
     have hob:=hm.obj i h1
     simp only at hf
     split at hf
     · rename_i es hg
       rw [hg]at hob
       obtain⟨en,clock,h5,h6,h7⟩:=hob
       obtain⟨z,hz,hz2⟩:=vz hf h3 h6 h7 en.isEmpty w
       refine⟨z,?_,hz2⟩
       have hgo:(getObj (β.c9 i)).run P w = .ok (.map en clock) w:=by simp only [getObj,Sem.run,h5]
       simp only [execOp,ho,h2,h4,XC.den,Instr.lookup,Sem.run_bind,run_underlying hu,hgo,Sem.run_pure,Result.andThen_ok]
       simp only [Sem.run_bind]at hz
       exact congrArg (fun(q:Result Value)=>q.andThen fun a w'=>Result.ok (Next.value a) w') hz
     · cases hf
   · cases h
 · rename_i args ts ho
   split at h
   · rename_i x hargs
     split at h
     · rename_i t j ht hx
       split at h
       · rename_i kt et hu
         cases h
         have hrx:=hr x
         rw [hx]at hrx
         obtain⟨h1,h2⟩:=hrx
         have hob:=hm.obj i h1
         simp only at hf
         split at hf
         · rename_i es hg
           cases hf
           rw [hg]at hob
           obtain⟨en,clock,h5,h6,h7⟩:=hob
           refine⟨_,?_,trivial,rfl⟩
           have ha:(args.map ev)[0]? = some (.map (some (β.c9 i))):=by
            have:args.map ev = #[ev x]:=by apply Array.toList_inj.1;simp [hargs]
            rw [this,h2];rfl
           have hlen:en.size=es.length:=by
            have:=congrArg List.length h7
            simpa using this
           have hl:=zi (P:=P) (ty:=o.type) ht hu ha h5
           rw [hlen]at hl
           simp only [execOp,ho,resolve,invoke,builtin,Sem.run_bind,Sem.run_pure,Result.andThen_ok,hl]
           rfl
         · cases hf
       · cases h
     · cases h
   · cases h
 · rename_i t x lo hi ho
   split at h
   · rename_i j off len sz hx
     cases h
     have hrx:=hr x
     rw [hx]at hrx
     obtain⟨h1,h2⟩:=hrx
     have hob:=hm.obj i h1
     simp only at hf
     split at hf
     · rename_i vs e opn ro hg
       rw [hg]at hob
       obtain⟨z,hz,hz2⟩:=sK hf h1 hob (kx hr lo) (kx hr hi)
       exact⟨z,by simp only [execOp,ho,h2,Option.map_none,Sem.run_bind,hz,Result.andThen_ok,Sem.run_pure],hz2⟩
     · cases hf
   · cases h
 · rename_i sr d x ho
   split at h
   · rename_i e j off len cap hs hd hx
     split at h
     · rename_i he
       cases h
       have hrx:=hr x
       rw [hx]at hrx
       obtain⟨h1,h2⟩:=hrx
       have hob:=hm.obj i h1
       simp only at hf
       split at hf
       · rename_i vs et opn ro hg
         rw [hg]at hob
         split at hf
         · rename_i hfit
           obtain⟨ns,hns,rfl⟩:=Option.map_eq_some_iff.1 hf
           have hl:=fP (P:=P) hob off len hfit
           rw [sw hns,List.map_map]at hl
           have e0:((XC.den β) ∘ XC.int IntKind.u8)=Value.int IntKind.u8:=rfl
           rw [e0]at hl
           have hev:∃ c,ev x = .slice (some ⟨β.c9 i,β.base i+off,.none⟩) len c:=by
            rw [h2]
            cases cap <;> exact⟨_,rfl⟩
           obtain⟨c,hc⟩:=hev
           refine⟨.string ⟨(oD ns).toArray⟩,?_,trivial,rfl⟩
           have hb:=run_bytesToString (P:=P) w ⟨β.c9 i,β.base i+off,.none⟩ len c ns hl
           have hp:=zF ns []
           have e1:(ByteArray.empty)=(⟨([]:List UInt8).toArray⟩:ByteArray):=rfl
           rw [e1,hp,List.nil_append]at hb
           have hcv:=run_convert_bytes_string (P:=P) w sr d e (some ⟨β.c9 i,β.base i+off,.none⟩) len c hs he hd
           simp only [execOp,ho,hc,Sem.run_bind,hcv,hb,Result.andThen_ok,Sem.run_pure]
         · cases hf
       · cases hf
     · cases h
   · cases h
 · cases h
end Go.Xm
namespace Go.Xm
variable [az]
def LQ:Next→Option Value
 | .value v=>some v
 | .skip=>some undef
 | _ => .none
def DF (P:Program) (s:Sem Next) (β : Env) (m:Mem) (w:World) (x:XV) (m':Mem):Prop:=
 ∃ nx v β' w',s.run P w = .ok nx w'∧LQ nx=some v∧aQ β' m'.n x v∧Step β m w β' m' w'
theorem aQ.skip {β : Env} {n:Nat}:aQ β n (.tup []) undef:=⟨by simp,rfl⟩
theorem m6 {β : Env} {m m':Mem} {w:World}(h:Rel β m w) {cs:List XC} {t:TypeId}(hc:∀ c∈cs,c.ok m.n) (hp:m.push (.cells cs t false false)=some m') :
 ∃ β',Step β m w β' m' (w.alloc (.cells (cs.map (·.den β)).toArray t))∧(β'.c9 m.n=w.heap.size ∧ β'.base m.n=0)∧m'.n=m.n+1:=by
 have hn:=(Mem.bR hp).2.1
 obtain⟨β',h1,h2,_,h3⟩:=Step.push h hp (ob := .cells (cs.map (·.den β)).toArray t) (sz:=cs.length) (fun β' he=>
  ⟨(cs.map (·.den β)).toArray,(0,0),rfl,by simp,by simp,fun _=>⟨rfl,rfl⟩,fun c hm=>XC.fY (by omega) (hc c hm),by
    rw [gg he hc]
    have hl:cs.length=(cs.map (·.den β)).length:=by simp
    show(cs.map (·.den β)).take cs.length=_
    rw [hl,List.take_length]⟩)
 exact⟨β',h1,⟨h2,h3⟩,hn⟩
theorem pU {P:Program}(t:TypeId) (v:Value) (w:World):(newVar t v).run P w = .ok ⟨w.heap.size,0,none⟩ (w.alloc (.cells v.cells t)):=rfl
def ya (m:Mem) (cs:List XC) (t:TypeId):Option (XV × Mem):=
 match m.push (.cells cs t false false)with
 | some m'=>some (.one (.ptr m.n 0),m')
 | .none => .none
def nc (P:Program) (t:TypeId) (m:Mem):Option (XV × Mem):=
 match pH P t with
 | some zs=>ya m zs t
 | .none => .none
theorem x4 {P:Program} {t:TypeId} {m m':Mem} {x:XV}(h:nc P t m=some (x,m')) {β : Env} {w:World}(hm:Rel β m w) {ev:Operand→Value} {o:Oper}(ho:o.op = .alloc t) :
 DF P (execOp ev o) β m w x m':=by
 unfold nc ya at h
 split at h
 · rename_i zs hz
   split at h
   · rename_i m1 hp
     cases h
     obtain⟨i,v,h1,h2,h3,h4⟩:=iG hz β m.n
     obtain⟨β',g1,g2,g3⟩:=m6 hm h4 hp
     refine⟨.value (.pointer (some ⟨w.heap.size,0,none⟩)),_,β',_,?_,rfl,?_,g1⟩
     · simp only [execOp,ho,Instr.alloc,Sem.run_bind,dz h1 h2,Result.andThen_ok,pU,Sem.run_pure,h3]
     · exact⟨by show m.n<m'.n;omega,by simp only [XC.den,g2.1,g2.2,Nat.add_zero]⟩
   · cases h
 · cases h
def FF (t:TypeId) (x:XV) (m:Mem):Option (XV × Mem):=
 match cA x with
 | some cs=>ya m cs t
 | .none => .none
theorem BZ {P:Program} {t:TypeId} {m m':Mem} {x r:XV}(h:FF t x m=some (r,m')) {β : Env} {w:World}(hm:Rel β m w) {ev:Operand→Value} {o:Oper} {xo:Operand}(ho:o.op = .box t xo) (hx:aQ β m.n x (ev xo)) :
 DF P (execOp ev o) β m w r m':=by
 unfold FF ya at h
 split at h
 · rename_i cs hc
   split at h
   · rename_i m1 hp
     cases h
     obtain⟨h1,h2⟩:=p_ hc hx
     obtain⟨β',g1,g2,g3⟩:=m6 hm h2 hp
     refine⟨.value (.pointer (some ⟨w.heap.size,0,none⟩)),_,β',_,?_,rfl,?_,g1⟩
     · simp only [execOp,ho,Instr.box,Sem.run_bind,Result.andThen_ok,pU,Sem.run_pure,h1]
     · exact⟨by show m.n<m'.n;omega,by simp only [XC.den,g2.1,g2.2,Nat.add_zero]⟩
   · cases h
 · cases h
theorem pz (w:World) (g:Nat) (cs:Array Value) (k:Nat) (h:k≠g):(w.setRow g cs).heap[k]? = w.heap[k]?:=by
 simp only [World.setRow,Array.getElem?_modify]
 rw [if_neg (by omega)]
theorem z7 {α : Type}(cur new:List α) (L off:Nat) (h:off+new.length≤L) (hL:L≤cur.length) :
 (cur.take off++new++cur.drop (off+new.length)).take L=(cur.take L).take off++new++(cur.take L).drop (off+new.length):=by
 apply List.ext_getElem?
 intro j
 simp only [List.getElem?_take,List.getElem?_append,List.length_append,List.length_take,List.getElem?_drop]
 rw [show min off cur.length=off by omega,show min off (min L cur.length)=off by omega]
 split
 · split
   · split
     · rfl
     · rfl
   · rw [if_pos (by omega)]
 · rename_i hj
   split
   · omega
   · rw [if_neg (by omega)]
theorem zJ {β : Env} {n lo sz:Nat} {vs cs:List XC} {e:TypeId} {opn:Bool} {w:World} {b off:Nat}(h:f4 β n lo sz (.cells vs e opn false) w.heap[b]?) (hc:∀ c∈cs,c.ok n) (hl:off+cs.length≤vs.length) :
 lo=0∧∃ cur,w.heap[b]? = some (.cells cur e (0,0))∧off+cs.length≤cur.size ∧
  f4 β n lo sz (.cells (vs.take off++cs++vs.drop (off+cs.length)) e opn false) (w.setRow b (cur.toList.take off++cs.map (·.den β)++cur.toList.drop (off+cs.length)).toArray).heap[b]?:=by
 obtain⟨cur,fr,h1,h2,h3,h4,h5,h6⟩:=h
 obtain⟨hf,hlo⟩:=h4 rfl
 subst hf hlo
 rw [List.drop_zero]at h6
 have hvl:vs.length≤cur.size:=by split at h3 <;> omega
 refine⟨rfl,cur,h1,by omega,_,(0,0),setRow_heap w b cur _ e (0,0) h1,?_,?_,fun _=>⟨rfl,rfl⟩,t8 h5 hc,?_⟩
 · simp;omega
 · have:(vs.take off++cs++vs.drop (off+cs.length)).length=vs.length:=by simp;omega
   rw [this];exact h3
 · have e1:(vs.take off++cs++vs.drop (off+cs.length)).length=vs.length:=by simp;omega
   rw [e1,List.drop_zero]
   have e2:=z7 cur.toList (cs.map (·.den β)) vs.length off (by simpa using hl) (by simpa using hvl)
   simp only [List.length_map]at e2
   simp only [e2,h6]
   rw [t7]
def kN (P:Program) (t:TypeId) (a x:XV) (m:Mem):Option (XV × Mem):=
 match a,cA x,cn P t with
 | .one (.ptr i off),some cs,some s=>
   if cs.length=s then
    match m.get i with
    | .cells vs e opn false=>if off+cs.length≤vs.length then some (.tup [],m.put i (.cells (vs.take off++cs++vs.drop (off+cs.length)) e opn false))else .none
    | _ => .none
   else .none
 | _,_,_ => .none
theorem sn {β : Env} {cs:List XC}:∀ v∈cs.map (·.den β),v.oneCell'=true:=by
 intro v hv
 obtain⟨c,_,rfl⟩:=List.mem_map.1 hv
 exact(XC.vJ β c).2
theorem p6 {β : Env} {m:Mem} {w:World}(hm:Rel β m w) {i off:Nat}(hi:i<m.n) {vs cs:List XC} {e:TypeId} {opn:Bool}(hg:m.get i = .cells vs e opn false) (hc:∀ c∈cs,c.ok m.n) (hl:off+cs.length≤vs.length) :
 ∃ w',(∀ P:Program,(storeCells ⟨β.c9 i,β.base i+off,none⟩ (cs.map (·.den β)) 0).run P w = .ok () w')∧Step β m w β (m.put i (.cells (vs.take off++cs++vs.drop (off+cs.length)) e opn false)) w':=by
 have hob:=hm.obj i hi
 rw [hg]at hob
 obtain⟨hlo,cur,g1,g2,g3⟩:=zJ hob hc hl
 rw [hlo,Nat.zero_add]
 refine⟨_,fun P=>run_storeCells_at P (β.c9 i) off e (cs.map (·.den β)) 0 cur w g1 (by simpa using g2) sn,?_⟩
 simp only [Nat.add_zero,List.length_map]
 exact Step.put hm hi (by rw [hg];rfl) rfl rfl rfl (by simp) (fun k hk=>pz w _ _ k hk) g3
theorem yd {P:Program} {t:TypeId} {m m':Mem} {a x r:XV}(h:kN P t a x m=some (r,m')) {β : Env} {w:World}(hm:Rel β m w) {ev:Operand→Value} {o:Oper} {ao xo:Operand}(ho:o.op = .store t ao xo)
 (ha:aQ β m.n a (ev ao)) (hx:aQ β m.n x (ev xo)):DF P (execOp ev o) β m w r m':=by
 unfold kN at h
 split at h
 · rename_i i off cs s hc hs
   split at h
   · rename_i hl
     split at h
     · rename_i vs e opn hg
       split at h
       · rename_i hfit
         cases h
         obtain⟨h1,h2⟩:=ha
         obtain⟨h3,h4⟩:=p_ hc hx
         obtain⟨w',g1,g2⟩:=p6 hm h1 hg h4 hfit
         refine⟨.skip,undef,β,w',?_,rfl,aQ.skip,g2⟩
         have hsz:(ev xo).cells.size=s:=by rw [h3];simpa using hl
         simp only [execOp,ho,Instr.storeAt,h2,XC.den,Instr.sureAddr,Sem.run_bind,Sem.run_pure,Result.andThen_ok,storeVar,b_ hs,hsz,ne_eq,not_true_eq_false,if_false]
         have:=g1 P
         rw [h3]
         simp only [Result.andThen_ok,this]
       · cases h
     · cases h
   · cases h
 · cases h
end Go.Xm
