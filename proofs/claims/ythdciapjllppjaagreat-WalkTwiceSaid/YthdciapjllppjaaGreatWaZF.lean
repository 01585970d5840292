/-
  A part of the proof: Fill1, Fill2, ManyF, FillLaw, BlkLaw, Bytes, Awake.
-/
import Derived.Test.YthdciapjllppjaaGreatWaE
import Derived.Test.YthdciapjllppjaaGreatWaF
import Derived.Test.YthdciapjllppjaaGreatWaX
import Derived.Test.YthdciapjllppjaaGreatWaY
import Derived.Test.YthdciapjllppjaaGreatWaZ
import Derived.Test.YthdciapjllppjaaGreatWaZA
import Derived.Test.YthdciapjllppjaaGreatWaZE
set_option maxRecDepth 10000
set_option maxHeartbeats 8000000
set_option linter.unusedVariables false
set_option linter.unusedSectionVars false
set_option linter.unusedSimpArgs false
namespace Go.Proofs.YthdciapjllppjaaGreat
open Go.Xm
variable [ak]
def Jh(m:Mb)(k:Nat)(l:Nat->Int):Mb:={m with lev:=fun i=>if k*64<=i/\i<k*64+64 then l (i-k*64)else m.lev i}
noncomputable def QH(S:cD)(mb:Int)(k:Nat)(m:Mb)(rest:Nat->Int):Option (cD×Mb):=
 if alone m=true then
  (if m.edge=true then Q7 (xf (iZ m.edge (dB S mb k m.qp).1) rest) (iG S mb k m.qp)else some (xf (iZ m.edge (dB S mb k m.qp).1) rest)).map fun l=>
    (eC S mb k ⟨fV l 0 (m.lev (k*64)),m.qp⟩,Jh m k (fV l 0 (m.lev (k*64))))
 else some (S,Jh m k (xf 0 rest))
section
variable {S:cD} {mb:Int} {k:Nat} {m:Mb} {rest:Nat->Int}
end
end Go.Proofs.YthdciapjllppjaaGreat
namespace Go.Xm
variable [ak]
end Go.Xm
namespace Go.Proofs.YthdciapjllppjaaGreat
open Go.Xm
variable [ak]
abbrev FK:=cD×Mb×Nat
noncomputable def S3(mb:Int)(x:FK)(k:Nat)(u:Nat)(rest:Nat->Int):Int ⊕ FK:=
 match QH x.1 mb k x.2.1 rest with
 | none => .inl 2
 | some y => .inr (y.1,y.2,u)
noncomputable def fK(evs:List (List Ev))(mb:Int)(has:Nat->Bool)(x:FK)(k:Nat):Int ⊕ FK:=
 if has k=true then
  if evs.length<=x.2.2 then .inl 3 else
   match Qr (evs.getD x.2.2 []) (yA x.2.1)with
   | none => .inl 2
   | some rest=>S3 mb x k (x.2.2+1) rest
 else S3 mb x k x.2.2 fun _=>0
noncomputable def QD(evs:List (List Ev))(mb:Int)(has:Nat->Bool)(x0:FK):Nat->Int ⊕ FK
 | 0 => .inr x0
 | k+1=>match QD evs mb has x0 k with
   | .inl e => .inl e
   | .inr x=>fK evs mb has x k
structure FA where
 S:cD
 out:List Mb
 u:Nat
noncomputable def QC(evs:List (List Ev))(first:Int)(l:List Ol)(S0:cD):Nat->Int ⊕ FA
 | 0 => .inr ⟨S0,[],0⟩
 | i + 1=>match QC evs first l S0 i with
   | .inl e => .inl e
   | .inr x=>match QD evs (first+(i:Nat)) (l.getD i default).2 (x.S,(l.getD i default).1,x.u) 6 with
     | .inl e => .inl e
     | .inr y => .inr ⟨y.1,x.out++[y.2.1],y.2.2⟩
noncomputable def QG(evs:List (List Ev))(first:Int)(l:List Ol)(S0:cD):Int ⊕ List Mb:=
 match QC evs first l S0 l.length with
 | .inl e => .inl e
 | .inr x=>if x.u<evs.length then .inl 13 else .inr x.out
def GS(f:Nat->Int):Prop:=∀i,-2047<=f i/\f i<=2047
theorem D8{o:Int}{f:Nat->Int}(h:GS f):∀n,GS (Rq o f n)
 | 0=>fun i=>by show -2047<=(0:Int)/\(0:Int)<=2047;omega
 | n+1=>fun i=>by
   show -2047<=fV (Rq o f n) _ _ i/\fV (Rq o f n) _ _ i<=2047;unfold fV;split
   ·exact h n
   ·exact D8 h n i
theorem FQ{o:Int}{f:Nat->Int}(h:GS f):GS (xf o f):=D8 h 64
structure xE(S:cD)(mb:Int)(k:Nat)(m:Mb)(rest:Nat->Int):Prop where
 dims:lP S.cols S.rows
 mb:0<=mb/\mb<S.cols*S.rows
 k:k<6
 lev:GO S
 rest:GS rest
theorem xE.b1{S:cD}{mb:Int}{k:Nat}{m:Mb}{rest:Nat->Int}(h:xE S mb k m rest)(o:Int):∀i,-1000000<=xf o rest i/\xf o rest i<=1000000:=fun i=>by
 have:=FQ (o:=o) h.rest i;omega
theorem xE.b2{S:cD}{mb:Int}{k:Nat}{m:Mb}{rest:Nat->Int}(h:xE S mb k m rest)(q:Int):∀i,-1000000<=iG S mb k q i/\iG S mb k q i<=1000000:=vg fun dx dy b hb=>Iv h.lev hb
def Qu(h:Nat->Bool):Nat->Nat
 | 0=>0
 | k+1=>Qu h k+if h k then 1 else 0
def manyN(l:List Ol):Nat->Nat
 | 0=>0
 | i+1=>manyN l i+Qu (l.getD i default).2 6
def Q3(l:List Ol):Nat:=manyN l l.length
end Go.Proofs.YthdciapjllppjaaGreat
namespace Go.Proofs.YthdciapjllppjaaGreat
open Go.Xm
def bk:List Ev->Int->(Nat->Int)->Option (Nat->Int)
 | [],_,g=>some g
 | e::l,at_,g=>if 63<at_+e.1 then none else bk l (at_+e.1+1) (fV g (at_+e.1).toNat e.2.1)
variable [ak]
def kf(b:Kn):Int×(Nat->Int):=(b.qp,fun i=>if i<64 then b.lv i else 0)
def Nz(T U:nq):Prop:=∀k,(eK U k).map kf=(eK T k).map kf
structure Td(S R:cD):Prop where
 cols:R.cols=S.cols
 rows:R.rows=S.rows
 a:Nz S.A R.A
 b:Nz S.B R.B
 c:Nz S.C R.C
structure P3(m o o':Mb)(k:Nat):Prop where
 kind:o'.kind=m.kind
 qp:o'.qp=m.qp
 edge:o'.edge=m.edge
 v:o'.v=o.v
 lo:∀i,i<k*64->o'.lev i=m.lev i
 hi:∀i,k*64<=i->o'.lev i=o.lev i
structure Nx(m o:Mb):Prop where
 kind:o.kind=m.kind
 qp:o.qp=m.qp
 edge:o.edge=m.edge
 v:∀k,k<4->o.v k=m.v k
 lev:∀i,i<384->o.lev i=m.lev i
structure Te(l:List Mb)(first:Int)(x0:PS)(outs:List Ol):Prop where
 len:outs.length=l.length
 at_:∀i,i<l.length->MV (l.getD i default) (outs.getD i default).1/\∀j,j<6->(outs.getD i default).2 j=decide (0<(S_ l first x0 i j).length)
end Go.Proofs.YthdciapjllppjaaGreat
namespace Go.Proofs.YthdciapjllppjaaGreat
open Go.Xm
variable [ak]
def MZ(B:List Bool):Nat->List (List Ev)×(Nat×Bool)->List (List Ev)×(Nat×Bool)
 | 0,x=>x
 | k+1,x=>if(zg B x.2).2.2=true then(x.1++[(zg B x.2).1],(zg B x.2).2)else MZ B k (x.1++[(zg B x.2).1],(zg B x.2).2)
end Go.Proofs.YthdciapjllppjaaGreat
namespace Go.Xm
variable [ak]
variable {P:Program} {ops:Array Oper} {nt nI:Nat} {al:aN} {hs:ah} {o:Oper} {l:List Oper} {L:List az} {K:List Ab->aN->ah->Prop} {d:Nat}
theorem aA.bytes{O:dc}(hw:av ops (rg al) o=some true){s t:TypeId}{x:Operand}(ho:o.op = .convert s t x){e:TypeId}(hs1:P.underlying s=some (.slice e))(he:P.underlying e=some (.int .u8))(hd:P.underlying t=some .string){i off len:Nat}{cap:py}(hx:ae (rg al) x = .one (.slice i off len cap)){vs:List XC}{et:TypeId}{opn ro:Bool}(hi:hs[i]? = some (.cells vs et opn ro))(hfit:off+len<=vs.length){ns:List Int}(hb:pS ((vs.drop off).take len)=some ns) :
 aA O P ops al hs o (.one (.str (mZ ns))) hs ⟨false,some i,[]⟩:=by
 intro m hm;refine⟨m,?_,hm,fun _ _=>rfl⟩;unfold jg;rw[hw]
 obtain⟨f,hf1,hf2⟩:∃f,eS P (ae (rg al)) o.op=some (i,f)/\∀vs' e' o' r',f (.cells vs' e' o' r')=if off+len<=vs'.length then(pS ((vs'.drop off).take len)).map fun ns=>XV.one (.str (mZ ns))else .none:=by
  rw[ho];simp only[eS,hs1,hd,hx,he];exact⟨_,rfl,fun _ _ _ _=>rfl⟩
 refine l6 (by rw[ho];simp only[aY,kK,hs1,hd,hx]) (by rw[ho];simp only[pW,hx]) hf1 ?_;rw[hm.at hi,hf2,if_pos hfit,hb];rfl
end Go.Xm
namespace Go.Xm
variable [ak]
variable {P:Program} {ops:Array Oper} {nt nI:Nat} {al:aN} {hs:ah} {o:Oper} {l:List Oper} {L:List az} {K:List Ab->aN->ah->Prop} {d:Nat}
end Go.Xm
namespace Go.Proofs.YthdciapjllppjaaGreat
open Go.Xm
variable [ak]
def hA:Hd:=⟨1,1,false,fun _=>0,fun _=>0⟩
end Go.Proofs.YthdciapjllppjaaGreat
