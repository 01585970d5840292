/-
  A part of the proof: Take1, Take2, TakeA.
-/
import Derived.Test.YthdciapjllppjaaGreatWbW
set_option maxRecDepth 10000
set_option maxHeartbeats 8000000
set_option linter.unusedVariables false
set_option linter.unusedSectionVars false
set_option linter.unusedSimpArgs false
namespace Go.Xm
variable [aq]
variable {P:Program} {ops:Array Oper} {nt nI:Nat} {al:aO} {hs:aj} {o:Oper} {l:List Oper} {L:List aA} {K:List Ab->aO->aj->Prop} {d:Nat}
theorem WX.Cr(id:Nat){σ : Type}{ops:Array Oper}{dr:Bool}{x b:Code}{K:cu}(R : σ->aO)(H : σ->aj)(I : σ->Prop)(hok:∀s,I s->sV nI (R s) (H s))(h1:True->WX P nt nI (.code (.seq (.region id ops dr) x)) al hs fun e al1 hs1=>e = .normal/\∃s τl,I s/\GoTo nI al1 hs1 (R s) (H s) τl)
 (h2:∀s,I s->WX P nt nI (.code b) (R s) (H s) K):WX P nt nI (.code (.seq (.seq (.region id ops dr) x) b)) al hs K:=WX.meet R H I hok (h1 trivial) h2
end Go.Xm
namespace Go.Proofs.YthdciapjllppjaaGreat
open Go.Xm
variable [aq]
structure TE(x:rA)(c r:Int):Prop where
 cols:x.S.cols=c
 rows:x.S.rows=r
 tiny:fN x.S.M
 qp : -1000000<=x.S.qp/\x.S.qp<=1000000
 v:∀k,bM (x.m.v k)
theorem NP:bM (0,0):=⟨by unfold fX;omega,by unfold fX;omega⟩
abbrev Ol:=Mb×(Nat->Bool)
structure TA where
 S:cH
 r:Nat×Bool
 out:List Ol
def PC(B:List Bool)(first:Int)(x:TA):TA:=
 ⟨(Es x.S B (first+(x.out.length:Nat)) x.r).1.S,(Es x.S B (first+(x.out.length:Nat)) x.r).1.r,x.out++[((Es x.S B (first+(x.out.length:Nat)) x.r).1.m,(Es x.S B (first+(x.out.length:Nat)) x.r).2)]⟩
def JW(B:List Bool)(first:Int):Nat->TA->TA
 | 0,x=>x
 | k+1,x=>if x.r.2=true then x else JW B first k (PC B first x)
def PA(h:Hd)(p:Ph):cH:=⟨p.id,p.inter,p.down,p.qp,p.qp,h.cols,h.rows,[],[],[],[]⟩
structure Th(B:List Bool)(first:Int)(n:Nat)(c r:Int)(x s:TA):Prop where
 le:s.out.length<=n
 run:JW B first (n-s.out.length) s=x
 cols:s.S.cols=c
 rows:s.S.rows=r
 tiny:fN s.S.M
 qp : -1000000<=s.S.qp/\s.S.qp<=1000000
def SE(B:List Bool)(r:Nat×Bool):Int:=if r.2 then 3 else if r.1<B.length then 13 else 0
structure K5(h:Hd)(p:Ph)(a q:List Int)(B:List Bool)(first:Int)(n:Nat):Prop where
 hd:lE h
 ph:pK p
 byt:bj a
 len:a.length<=30000
 esc:nU a a.length [] 0 0=some q
 size:fk q=(B.length,true)
 fits:B.length<=8*q.length
 bits:e_ q B
 pos:0<=first
 many:1<=n
 all:first+(n:Nat)<=h.cols*h.rows
theorem HO{c r:Int}(h:lU c r):1<=c*r/\c*r<=64:=by
 have h1:=h.c0;have h2:=h.c1;have h3:=h.r0;have h4:=h.r1;constructor
 ·have:=Int.mul_le_mul h1 h3 (by omega) (by omega);omega
 ·have:=Int.mul_le_mul h2 h4 (by omega) (by omega);omega
end Go.Proofs.YthdciapjllppjaaGreat
