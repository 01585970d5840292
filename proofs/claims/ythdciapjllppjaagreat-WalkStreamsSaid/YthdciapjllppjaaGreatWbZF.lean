/-
  A part of the proof: Fill1, Fill2, ManyF, FillLaw, BlkLaw, Bytes, Awake.
-/
import Derived.Test.YthdciapjllppjaaGreatWbE
import Derived.Test.YthdciapjllppjaaGreatWbF
import Derived.Test.YthdciapjllppjaaGreatWbW
import Derived.Test.YthdciapjllppjaaGreatWbX
import Derived.Test.YthdciapjllppjaaGreatWbY
import Derived.Test.YthdciapjllppjaaGreatWbZ
import Derived.Test.YthdciapjllppjaaGreatWbZE
set_option maxRecDepth 10000
set_option maxHeartbeats 8000000
set_option linter.unusedVariables false
set_option linter.unusedSectionVars false
set_option linter.unusedSimpArgs false
namespace Go.Proofs.YthdciapjllppjaaGreat
open Go.Xm
variable [aq]
def JC(m:Mb)(k:Nat)(l:Nat->Int):Mb:={m with lev:=fun i=>if k*64<=i/\i<k*64+64 then l (i-k*64)else m.lev i}
noncomputable def QZ(S:cH)(mb:Int)(k:Nat)(m:Mb)(rest:Nat->Int):Option (cH×Mb):=
 if alone m=true then
  (if m.edge=true then Rq (xB (i7 m.edge (dF S mb k m.qp).1) rest) (iJ S mb k m.qp)else some (xB (i7 m.edge (dF S mb k m.qp).1) rest)).map fun l=>
    (eG S mb k ⟨fY l 0 (m.lev (k*64)),m.qp⟩,JC m k (fY l 0 (m.lev (k*64))))
 else some (S,JC m k (xB 0 rest))
section
variable {S:cH} {mb:Int} {k:Nat} {m:Mb} {rest:Nat->Int}
end
end Go.Proofs.YthdciapjllppjaaGreat
namespace Go.Xm
variable [aq]
end Go.Xm
namespace Go.Proofs.YthdciapjllppjaaGreat
open Go.Xm
variable [aq]
abbrev FK:=cH×Mb×Nat
noncomputable def Tq(mb:Int)(x:FK)(k:Nat)(u:Nat)(rest:Nat->Int):Int ⊕ FK:=
 match QZ x.1 mb k x.2.1 rest with
 | none => .inl 2
 | some y => .inr (y.1,y.2,u)
noncomputable def fK(evs:List (List Ev))(mb:Int)(has:Nat->Bool)(x:FK)(k:Nat):Int ⊕ FK:=
 if has k=true then
  if evs.length<=x.2.2 then .inl 3 else
   match QM (evs.getD x.2.2 []) (yQ x.2.1)with
   | none => .inl 2
   | some rest=>Tq mb x k (x.2.2+1) rest
 else Tq mb x k x.2.2 fun _=>0
noncomputable def QV(evs:List (List Ev))(mb:Int)(has:Nat->Bool)(x0:FK):Nat->Int ⊕ FK
 | 0 => .inr x0
 | k+1=>match QV evs mb has x0 k with
   | .inl e => .inl e
   | .inr x=>fK evs mb has x k
structure FA where
 S:cH
 out:List Mb
 u:Nat
noncomputable def QU(evs:List (List Ev))(first:Int)(l:List Ol)(S0:cH):Nat->Int ⊕ FA
 | 0 => .inr ⟨S0,[],0⟩
 | i + 1=>match QU evs first l S0 i with
   | .inl e => .inl e
   | .inr x=>match QV evs (first+(i:Nat)) (l.getD i default).2 (x.S,(l.getD i default).1,x.u) 6 with
     | .inl e => .inl e
     | .inr y => .inr ⟨y.1,x.out++[y.2.1],y.2.2⟩
noncomputable def QY(evs:List (List Ev))(first:Int)(l:List Ol)(S0:cH):Int ⊕ List Mb:=
 match QU evs first l S0 l.length with
 | .inl e => .inl e
 | .inr x=>if x.u<evs.length then .inl 13 else .inr x.out
def Hg(f:Nat->Int):Prop:=∀i,-2047<=f i/\f i<=2047
theorem Eu{o:Int}{f:Nat->Int}(h:Hg f):∀n,Hg (RM o f n)
 | 0=>fun i=>by show -2047<=(0:Int)/\(0:Int)<=2047;omega
 | n+1=>fun i=>by
   show -2047<=fY (RM o f n) _ _ i/\fY (RM o f n) _ _ i<=2047;unfold fY;split
   ·exact h n
   ·exact Eu h n i
theorem Gc{o:Int}{f:Nat->Int}(h:Hg f):Hg (xB o f):=Eu h 64
structure xW(S:cH)(mb:Int)(k:Nat)(m:Mb)(rest:Nat->Int):Prop where
 dims:lU S.cols S.rows
 mb:0<=mb/\mb<S.cols*S.rows
 k:k<6
 lev:Hc S
 rest:Hg rest
theorem xW.b1{S:cH}{mb:Int}{k:Nat}{m:Mb}{rest:Nat->Int}(h:xW S mb k m rest)(o:Int):∀i,-1000000<=xB o rest i/\xB o rest i<=1000000:=fun i=>by
 have:=Gc (o:=o) h.rest i;omega
theorem xW.b2{S:cH}{mb:Int}{k:Nat}{m:Mb}{rest:Nat->Int}(h:xW S mb k m rest)(q:Int):∀i,-1000000<=iJ S mb k q i/\iJ S mb k q i<=1000000:=vA fun dx dy b hb=>IV h.lev hb
def QO(h:Nat->Bool):Nat->Nat
 | 0=>0
 | k+1=>QO h k+if h k then 1 else 0
def manyN(l:List Ol):Nat->Nat
 | 0=>0
 | i+1=>manyN l i+QO (l.getD i default).2 6
def Rm(l:List Ol):Nat:=manyN l l.length
end Go.Proofs.YthdciapjllppjaaGreat
namespace Go.Proofs.YthdciapjllppjaaGreat
open Go.Xm
def bk:List Ev->Int->(Nat->Int)->Option (Nat->Int)
 | [],_,g=>some g
 | e::l,at_,g=>if 63<at_+e.1 then none else bk l (at_+e.1+1) (fY g (at_+e.1).toNat e.2.1)
variable [aq]
def kf(b:Kn):Int×(Nat->Int):=(b.qp,fun i=>if i<64 then b.lv i else 0)
def NY(T U:nF):Prop:=∀k,(eP U k).map kf=(eP T k).map kf
structure TC(S R:cH):Prop where
 cols:R.cols=S.cols
 rows:R.rows=S.rows
 a:NY S.A R.A
 b:NY S.B R.B
 c:NY S.C R.C
structure Qm(m o o':Mb)(k:Nat):Prop where
 kind:o'.kind=m.kind
 qp:o'.qp=m.qp
 edge:o'.edge=m.edge
 v:o'.v=o.v
 lo:∀i,i<k*64->o'.lev i=m.lev i
 hi:∀i,k*64<=i->o'.lev i=o.lev i
structure NW(m o:Mb):Prop where
 kind:o.kind=m.kind
 qp:o.qp=m.qp
 edge:o.edge=m.edge
 v:∀k,k<4->o.v k=m.v k
 lev:∀i,i<384->o.lev i=m.lev i
structure TD(l:List Mb)(first:Int)(x0:PS)(outs:List Ol):Prop where
 len:outs.length=l.length
 at_:∀i,i<l.length->Nk (l.getD i default) (outs.getD i default).1/\∀j,j<6->(outs.getD i default).2 j=decide (0<(Tx l first x0 i j).length)
end Go.Proofs.YthdciapjllppjaaGreat
namespace Go.Proofs.YthdciapjllppjaaGreat
open Go.Xm
variable [aq]
def No(B:List Bool):Nat->List (List Ev)×(Nat×Bool)->List (List Ev)×(Nat×Bool)
 | 0,x=>x
 | k+1,x=>if(zy B x.2).2.2=true then(x.1++[(zy B x.2).1],(zy B x.2).2)else No B k (x.1++[(zy B x.2).1],(zy B x.2).2)
end Go.Proofs.YthdciapjllppjaaGreat
namespace Go.Xm
variable [aq]
variable {P:Program} {ops:Array Oper} {nt nI:Nat} {al:aO} {hs:aj} {o:Oper} {l:List Oper} {L:List aA} {K:List Ab->aO->aj->Prop} {d:Nat}
theorem aB.bytes{O:dm}(hw:aw ops (rg al) o=some true){s t:TypeId}{x:Operand}(ho:o.op = .convert s t x){e:TypeId}(hs1:P.underlying s=some (.slice e))(he:P.underlying e=some (.int .u8))(hd:P.underlying t=some .string){i off len:Nat}{cap:pr}(hx:af (rg al) x = .one (.slice i off len cap)){vs:List XC}{et:TypeId}{opn ro:Bool}(hi:hs[i]? = some (.cells vs et opn ro))(hfit:off+len<=vs.length){ns:List Int}(hb:p_ ((vs.drop off).take len)=some ns) :
 aB O P ops al hs o (.one (.str (nh ns))) hs ⟨false,some i,[]⟩:=by
 intro m hm;refine⟨m,?_,hm,fun _ _=>rfl⟩;unfold ji;rw[hw]
 obtain⟨f,hf1,hf2⟩:∃f,eX P (af (rg al)) o.op=some (i,f)/\∀vs' e' o' r',f (.cells vs' e' o' r')=if off+len<=vs'.length then(p_ ((vs'.drop off).take len)).map fun ns=>XV.one (.str (nh ns))else .none:=by
  rw[ho];simp only[eX,hs1,hd,hx,he];exact⟨_,rfl,fun _ _ _ _=>rfl⟩
 refine mh (by rw[ho];simp only[aZ,kP,hs1,hd,hx]) (by rw[ho];simp only[qf,hx]) hf1 ?_;rw[hm.at hi,hf2,if_pos hfit,hb];rfl
end Go.Xm
namespace Go.Xm
variable [aq]
variable {P:Program} {ops:Array Oper} {nt nI:Nat} {al:aO} {hs:aj} {o:Oper} {l:List Oper} {L:List aA} {K:List Ab->aO->aj->Prop} {d:Nat}
end Go.Xm
namespace Go.Proofs.YthdciapjllppjaaGreat
open Go.Xm
variable [aq]
def hA:Hd:=⟨1,1,false,fun _=>0,fun _=>0⟩
end Go.Proofs.YthdciapjllppjaaGreat
