/-
  A part of the proof: TakeF, Take1, Take2, Heads, Begin, InPlace.
-/
import Derived.Test.YtagpkhindehcbaaGreatKeM
import Derived.Test.YtagpkhindehcbaaGreatKeP
import Derived.Test.YtagpkhindehcbaaGreatKeQ
import Derived.Test.YtagpkhindehcbaaGreatKeS
set_option maxRecDepth 10000
set_option maxHeartbeats 8000000
set_option linter.unusedVariables false
set_option linter.unusedSectionVars false
set_option linter.unusedSimpArgs false
namespace Go.Proofs.YtagpkhindehcbaaGreat
open Go.Xm
variable [ax]
def jx(S:bm)(B:List Bool)(r:Nat×Bool):Int×(Nat×Bool):=if S.inter=true then kO cM B r else(if cp B r=true then 4 else 3,bd B r)
def n8(n:Int):Int:=([-2,-1,1,2]:List Int).getD n.toNat 0
def CB(S:bm)(B:List Bool)(k:Int×(Nat×Bool)):Int×(Nat×Bool):=
 if k.1=4 then(if S.qp+n8 (bH B 2 k.2).1<1\/31<S.qp+n8 (bH B 2 k.2).1 then(1,((bH B 2 k.2).2.1,true))else(S.qp+n8 (bH B 2 k.2).1,(bH B 2 k.2).2))else(S.qp,k.2)
def eP(S:bm)(B:List Bool)(r:Nat×Bool):f9:=
 ⟨{lC with kind:=(jx S B r).1,qp:=(CB S B (jx S B r)).1},{S with qp:=(CB S B (jx S B r)).1},(CB S B (jx S B r)).2⟩
def rk(B:List Bool)(mb:Int)(x:f9)(k:Nat):f9:=
 ⟨{x.m with v:=ku x.m.v k (oz B (b_ x.S.M x.S.cols x.S.rows mb k) x.r).1},{x.S with M:=aW x.S.M x.S.cols mb k (oz B (b_ x.S.M x.S.cols x.S.rows mb k) x.r).1},(oz B (b_ x.S.M x.S.cols x.S.rows mb k) x.r).2⟩
def cm(B:List Bool)(mb:Int)(x:f9):f9:=
 if x.m.kind=1 then⟨{x.m with v:=fun _=>(oz B (b_ x.S.M x.S.cols x.S.rows mb 0) x.r).1},x.S,(oz B (b_ x.S.M x.S.cols x.S.rows mb 0) x.r).2⟩
 else if x.m.kind=2 then rk B mb (rk B mb (rk B mb (rk B mb x 0) 1) 2) 3
 else⟨{x.m with edge:=cp B x.r},x.S,bd B x.r⟩
def bG(mb:Int)(x:f9):f9:=⟨x.m,aY x.S mb x.m.v,x.r⟩
def b8(B:List Bool)(mb:Int)(x:f9):f9:=if alone x.m=true then cY B mb x 6 else x
def kd(p c:Int)(k:Nat):Bool:=if k<4 then decide (xl .i64 p (8/2^k)≠0)else decide (xl .u64 c (2/2^(k-4))≠0)
def wo(B:List Bool)(x:f9):f9×(Nat->Bool):=(⟨x.m,x.S,(bH B 2 (kO cP B x.r).2).2⟩,kd (kO cP B x.r).1 (bH B 2 (kO cP B x.r).2).1)
def KC(B:List Bool)(mb:Int)(x:f9):f9×(Nat->Bool):=if x.m.kind=0 then(bG mb x,pR)else wo B (b8 B mb (bG mb (cm B mb x)))
def bY(S:bm)(B:List Bool)(mb:Int)(r:Nat×Bool):f9×(Nat->Bool):=KC B mb (eP S B r)
abbrev v5(S:bm)(q:Int):bm:={S with qp:=q}
theorem E8{x:Int}(h:0<=x/\x<4):([.int .i64 (-2),.int .i64 (-1),.int .i64 1,.int .i64 2]:List XC)[(x%2^2).toNat]? = some (.int .i64 (n8 x)):=by
 have:x=0\/x=1\/x=2\/x=3:=by omega
 rcases this with rfl|rfl|rfl|rfl<;>rfl
theorem E9(x:Int) : -2<=n8 x/\n8 x<=2:=j_ (p:=fun x => -2<=x/\x<=2) (by decide) (by decide) x.toNat
theorem DM(S:bm)(B:List Bool)(r:Nat×Bool):0<=(jx S B r).1/\(jx S B r).1<=4:=by
 unfold jx
 split
 ·exact oS (K:=4) (by decide) Ox B (cM.T.length/2) 0 r
 ·show 0<=(if cp B r=true then(4:Int)else 3)/\_<=(4:Int)
  split<;>omega
theorem Fg(S:bm)(B:List Bool)(k:Int×(Nat×Bool))(hq : -1000000<=S.qp/\S.qp<=1000000) : -1000000<=(CB S B k).1/\(CB S B k).1<=1000000:=by
 unfold CB
 split
 ·split
  ·show(-1000000:Int)<=1/\(1:Int)<=1000000;decide
  ·simp only[];omega
 ·exact hq
structure Oj(x z:f9):Prop where
 cols:z.S.cols=x.S.cols
 rows:z.S.rows=x.S.rows
 qp:z.m.qp=x.m.qp
 kind:z.m.kind=x.m.kind
theorem G_(B:List Bool)(mb:Int)(x:f9):Oj x (cm B mb x):=by
 unfold cm
 split
 ·exact⟨rfl,rfl,rfl,rfl⟩
 ·split
  ·exact⟨rfl,rfl,rfl,rfl⟩
  ·exact⟨rfl,rfl,rfl,rfl⟩
theorem pz{L:List Int}{B:List Bool}(h:c_ L B){r:Nat×Bool}{e:Int×Int}{t:(Int×Int)×(Nat×Bool)}(ht:oz B e r=t)(he:bz e){HS:aj}{i k:Nat}(hi:HS[i]? = some (bp k L B r.1 r.2))(hk:HS[k]? = some (aK L))(hd:i≠k){HS':aj}(hh:HS.set i (bp k L B t.2.1 t.2.2)=HS')(hbd:Nat.blt HS'.length Mem.bound=true) :
 aG.Sound Tryz.prog ⟨67,[.one (.ptr i 0),.one (cy e)],HS,.one (cy t.1),HS',[i]⟩:=by
 subst ht
 exact KZ h r he hi hk hd hh hbd
theorem rR(m:Mb)(h:Nat->Bool){k:Nat}(hk:k<4)(x:Int×Int):(fL {m with v:=ku m.v k x} h)[2+k]? = some (cy x):=by
 rw[Jt _ _ hk]
 exact congrArg (fun z=>some (cy z)) (if_pos rfl)
theorem Nm{B:List Bool}{mb:Int}{X:f9}(hk:X.m.kind=1){t:(Int×Int)×(Nat×Bool)}(ht:oz B (b_ X.S.M X.S.cols X.S.rows mb 0) X.r=t):cm B mb X=⟨{X.m with v:=fun _=>t.1},X.S,t.2⟩:=by
 subst ht
 exact if_pos hk
abbrev RZ(S:bm)(M:gp):bm:={S with M:=M}
abbrev V1(X:f9)(mb:Int)(t0:(Int×Int)×(Nat×Bool)):gp:=aW X.S.M X.S.cols mb 0 t0.1
abbrev V2(X:f9)(mb:Int)(t0 t1:(Int×Int)×(Nat×Bool)):gp:=aW (V1 X mb t0) X.S.cols mb 1 t1.1
abbrev V3(X:f9)(mb:Int)(t0 t1 t2:(Int×Int)×(Nat×Bool)):gp:=aW (V2 X mb t0 t1) X.S.cols mb 2 t2.1
abbrev V4(X:f9)(mb:Int)(t0 t1 t2 t3:(Int×Int)×(Nat×Bool)):gp:=aW (V3 X mb t0 t1 t2) X.S.cols mb 3 t3.1
abbrev X1(X:f9)(t0:(Int×Int)×(Nat×Bool)):Mb:={X.m with v:=ku X.m.v 0 t0.1}
abbrev X2(X:f9)(t0 t1:(Int×Int)×(Nat×Bool)):Mb:={X.m with v:=ku (ku X.m.v 0 t0.1) 1 t1.1}
abbrev X3(X:f9)(t0 t1 t2:(Int×Int)×(Nat×Bool)):Mb:={X.m with v:=ku (ku (ku X.m.v 0 t0.1) 1 t1.1) 2 t2.1}
abbrev X4(X:f9)(t0 t1 t2 t3:(Int×Int)×(Nat×Bool)):Mb:={X.m with v:=ku (ku (ku (ku X.m.v 0 t0.1) 1 t1.1) 2 t2.1) 3 t3.1}
theorem Nn{B:List Bool}{mb:Int}{X:f9}(hk:X.m.kind=2){t0 t1 t2 t3:(Int×Int)×(Nat×Bool)}(h0:oz B (b_ X.S.M X.S.cols X.S.rows mb 0) X.r=t0)(h1:oz B (b_ (V1 X mb t0) X.S.cols X.S.rows mb 1) t0.2=t1)(h2:oz B (b_ (V2 X mb t0 t1) X.S.cols X.S.rows mb 2) t1.2=t2)(h3:oz B (b_ (V3 X mb t0 t1 t2) X.S.cols X.S.rows mb 3) t2.2=t3) :
 cm B mb X=⟨X4 X t0 t1 t2 t3,RZ X.S (V4 X mb t0 t1 t2 t3),t3.2⟩:=by
 subst h3 h2 h1 h0
 unfold cm
 rw[if_neg (by rw[hk];decide),if_pos hk]
 rfl
theorem Fe{B:List Bool}{mb:Int}{X:f9}(h1:X.m.kind≠1)(h2:X.m.kind≠2):cm B mb X=⟨{X.m with edge:=cp B X.r},X.S,bd B X.r⟩:=by
 unfold cm
 rw[if_neg h1,if_neg h2]
end Go.Proofs.YtagpkhindehcbaaGreat
namespace Go.Xm
variable [ax]
variable {P:Program} {ops:Array Oper} {nt nI:Nat} {al:bn} {hs:aj} {o:Oper} {l:List Oper} {L:List aG} {K:List Ab->bn->aj->Prop} {d:Nat}
theorem cN{t t':TypeId}{a b:Operand}{k:IntKind}{x y:Int}(hk:∀z,decide (x≠y)=z->SK P ops nt L l ((d,.one (.bool z))::al) hs fun bs=>K (quiet::bs))(ho:o.op = .binOp .neq t a b t':=by exact rfl)(hw:av ops (rg al) o=some true:=by exact rfl)(hd:o.dst=some d:=by exact rfl)(hlt:Nat.blt d nt=true:=by exact rfl)(ha:ai (rg al) a = .one (.int k x):=by exact rfl)(hb:ai (rg al) b = .one (.int k y):=by exact rfl):SK P ops nt L (o::l) al hs K:=
 zL ho hw hd hlt ha hb (show CS .neq x y=some (x≠y)from rfl) (fun h=>hk true (decide_eq_true h)) (fun h=>hk false (decide_eq_false h))
theorem WX.zt(id:Nat){σ : Type}{ops:Array Oper}{dr:Bool}{x b:Code}{K:dF}(R : σ->bn)(H : σ->aj)(I : σ->Prop)(hok:∀s,I s->Ax nI (R s) (H s))(h1:True->WX P nt nI (.code (.seq (.region id ops dr) x)) al hs fun e al1 hs1=>e = .normal/\∃s τl,I s/\GoTo nI al1 hs1 (R s) (H s) τl)
 (h2:∀s,I s->WX P nt nI (.code b) (R s) (H s) K):WX P nt nI (.code (.seq (.seq (.region id ops dr) x) b)) al hs K:=WX.meet R H I hok (h1 trivial) h2
end Go.Xm
namespace Go.Proofs.YtagpkhindehcbaaGreat
open Go.Xm
variable [ax]
theorem ME(m:Mb)(h:Nat->Bool){b0 b1 b2 b3 b4 b5:Bool}(e0:h 0=b0)(e1:h 1=b1)(e2:h 2=b2)(e3:h 3=b3)(e4:h 4=b4)(e5:h 5=b5):((((((fL m pR).set 391 (.bool b0)).set 392 (.bool b1)).set 393 (.bool b2)).set 394 (.bool b3)).set 395 (.bool b4)).set 396 (.bool b5)=fL m h:=by
 subst e0 e1 e2 e3 e4 e5
 rw[<-Js m h,pS m h (j:=0) (by decide),pS m h (j:=1) (by decide),pS m h (j:=2) (by decide),pS m h (j:=3) (by decide),pS m h (j:=4) (by decide),pS m h (j:=5) (by decide),MD]
theorem Ms:∀a:Fin 16,decide (xl .i64 (a.val:Int) (8/2^3)≠0)=decide ((a.val:Int)%2^1≠0):=by decide +kernel
theorem Mr:∀a:Fin 4,decide (xl .u64 (a.val:Int) (2/2^1)≠0)=decide ((a.val:Int)%2^1≠0):=by decide +kernel
theorem RM{p c:Int}(h:0<=p/\p<=15):kd p c 3=decide (p%2^1≠0):=by
 have:=Ms ⟨p.toNat,by omega⟩
 simp only[Int.toNat_of_nonneg h.1]at this
 exact this
theorem RN{p c:Int}(h:0<=c/\c<2^2):kd p c 5=decide (c%2^1≠0):=by
 have:=Mr ⟨c.toNat,by omega⟩
 simp only[Int.toNat_of_nonneg h.1]at this
 exact this
theorem Iu{C:Cd}(hC:xe C){L:List Int}{B:List Bool}(h:c_ L B){r:Nat×Bool}{q:Int×(Nat×Bool)}(hq:kO C B r=q){HS:aj}{i k c a b t:Nat}(hi:HS[i]? = some (bp k L B r.1 r.2))(hk:HS[k]? = some (aK L))(hc:HS[c]? = some (aw a b t C))(ha:HS[a]? = some (aR C))(hb:HS[b]? = some (aT C))(ht:HS[t]? = some (aS C))(hd : [i,k,c,a,b,t].Nodup){HS':aj}(hh:HS.set i (bp k L B q.2.1 q.2.2)=HS')(hbd:Nat.blt HS'.length Mem.bound=true) :
 aG.Sound Tryz.prog ⟨63,[.one (.ptr c 0),.one (.ptr i 0)],HS,.one (.int .i64 q.1),HS',[i]⟩:=by
 subst hq
 exact uR hC h r hi hk hc ha hb ht hd hh hbd
theorem JS{L:List Int}{B:List Bool}(h:c_ L B){r:Nat×Bool}{n:Nat}{q:Int×(Nat×Bool)}(hq:bH B n r=q){z:Int}(hz:z=(n:Nat))(hn:n<=32){HS:aj}{i k:Nat}(hi:HS[i]? = some (bp k L B r.1 r.2))(hk:HS[k]? = some (aK L))(hd:i≠k){HS':aj}(hh:HS.set i (bp k L B q.2.1 q.2.2)=HS')(hbd:Nat.blt HS'.length Mem.bound=true) :
 aG.Sound Tryz.prog ⟨65,[.one (.ptr i 0),.one (.int .i64 z)],HS,.one (.int .u64 q.1),HS',[i]⟩:=by
 subst hq
 exact rU h r hz hn hi hk hd hh hbd
theorem B3{L : List Int}{B:List Bool}(hB:c_ L B)(S:bm)(r:Nat×Bool)(mb:Int)(hD:gq S.cols S.rows)(hT:cg S.M)(hmb:0<=mb/\mb<S.cols*S.rows)(hq : -1000000<=S.qp/\S.qp<=1000000) :
 bh Tryz.prog 34 [.one (.ptr 2 0),.one (.ptr 0 0),.one (.int .i64 mb)] [bp 1 L B r.1 r.2,aK L,dK (S),bO 4 8 12,aw 5 6 7 cM,aR cM,aT cM,aS cM,aw 9 10 11 cZ,aR cZ,aT cZ,aS cZ,aw 13 14 15 cP,aR cP,aT cP,aS cP,cq 17 (S).cols (S).rows,.map (a_ (S).M),.cells [.int .i64 (S).cols,.int .i64 (S).rows,.map 19,.map 20,.map 21] 171 false false,.map (ag (S).A),.map (ag (S).B),.map (ag (S).C)] (.agg (fL (bY S B mb r).1.m (bY S B mb r).2)) [bp 1 L B (bY S B mb r).1.r.1 (bY S B mb r).1.r.2,aK L,dK ((bY S B mb r).1.S),bO 4 8 12,aw 5 6 7 cM,aR cM,aT cM,aS cM,aw 9 10 11 cZ,aR cZ,aT cZ,aS cZ,aw 13 14 15 cP,aR cP,aT cP,aS cP,cq 17 ((bY S B mb r).1.S).cols ((bY S B mb r).1.S).rows,.map (a_ ((bY S B mb r).1.S).M),.cells [.int .i64 ((bY S B mb r).1.S).cols,.int .i64 ((bY S B mb r).1.S).rows,.map 19,.map 20,.map 21] 171 false false,.map (ag ((bY S B mb r).1.S).A),.map (ag ((bY S B mb r).1.S).B),.map (ag ((bY S B mb r).1.S).C)]:=by
 obtain⟨y,hy⟩:∃y,bY S B mb r=y:=⟨_,rfl⟩
 rw[hy]
 have hkr:=DM S B r
 obtain⟨b,hin⟩:∃b,S.inter=b:=⟨_,rfl⟩
 have hl2:=rZ hin
 refine cO Tryz.func34 ?_
 repeat' (first
  |(refine qz ?_;first
   |refine ld (hc:=hl2) ?_
   |refine tY (zs:=fL lC pR) (hz:=Aq) ?_
   |refine b0 (zs:=fL lC pR) (hz:=Aq) ?_
   |refine kr (cs:=fL lC pR) ?_ (hs1:=by rw[cc]) (hs2:=by rw[cc]))
  |refine WX.Jm 2 (σ:=Int×(Nat×Bool)) (fun s=>[(0,.one (.ptr 2 0)),(1,.one (.ptr 0 0)),(2,.one (.int .i64 mb)),(6,.one (.ptr 22 0)),(7,.one (.ptr 23 0))]) (fun s=>[bp 1 L B s.2.1 s.2.2,aK L,dK (S),bO 4 8 12,aw 5 6 7 cM,aR cM,aT cM,aS cM,aw 9 10 11 cZ,aR cZ,aT cZ,aS cZ,aw 13 14 15 cP,aR cP,aT cP,aS cP,cq 17 (S).cols (S).rows,.map (a_ (S).M),.cells [.int .i64 (S).cols,.int .i64 (S).rows,.map 19,.map 20,.map 21] 171 false false,.map (ag (S).A),.map (ag (S).B),.map (ag (S).C),.cells (fL lC pR) 56 false false,.cells (fL {lC with kind:=s.1} pR) 56 false false]) (fun s=>jx S B r=s) (fun s _=>lS) ?_ ?_|refine zz ?_|refine zx (fun _=>?_) (fun _=>?_)|fail)
 ·cases b
  ·have e0:jx S B r=(if cp B r=true then 4 else 3,bd B r):=if_neg (by rw[hin];decide)
   repeat' (first
    |(refine qz ?_;first
     |refine uO (fun gb=>?_) (fun gb=>?_) (hi:=by exact rV hB r rfl rfl (by decide) nL rfl)
     |refine st ?_ (hle:=by rw[cc];omega) (hv:=Bv _ _ _))
    |refine zz ?_|refine zx (fun _=>?_) (fun _=>?_)|fail)
   ·rename_i gb
    rw[if_pos gb]at e0
    first|exact⟨(4,bd B r),_,e0,(cG [0,1,2,3,4,5,6,7,8,9,10,11,12,13,14,15,16,17,18,19,20,21,22,23])⟩|exact⟨rfl,(4,bd B r),_,e0,(cG [0,1,2,3,4,5,6,7,8,9,10,11,12,13,14,15,16,17,18,19,20,21,22,23])⟩
   ·rename_i gb
    rw[if_neg (by rw[gb];decide)]at e0
    first|exact⟨(3,bd B r),_,e0,(cG [0,1,2,3,4,5,6,7,8,9,10,11,12,13,14,15,16,17,18,19,20,21,22,23])⟩|exact⟨rfl,(3,bd B r),_,e0,(cG [0,1,2,3,4,5,6,7,8,9,10,11,12,13,14,15,16,17,18,19,20,21,22,23])⟩
  ·have e0:jx S B r=kO cM B r:=if_pos hin
   rw[e0]at hkr
   repeat' (first
    |(refine qz ?_;first
     |refine cl ?_ (hi:=by exact uR AN hB r (i:=0) (k:=1) (c:=4) (a:=5) (b:=6) (t:=7) rfl rfl rfl rfl rfl rfl (by decide) nL rfl)
     |refine st ?_ (hle:=by rw[cc];omega) (hv:=Bv _ _ _))
    |refine zz ?_|refine zx (fun _=>?_) (fun _=>?_)|fail)
   first|exact⟨kO cM B r,_,e0,(cG [0,1,2,3,4,5,6,7,8,9,10,11,12,13,14,15,16,17,18,19,20,21,22,23])⟩|exact⟨rfl,kO cM B r,_,e0,(cG [0,1,2,3,4,5,6,7,8,9,10,11,12,13,14,15,16,17,18,19,20,21,22,23])⟩
 ·intro s hs
  rw[hs]at hkr
  have hn:=iM B 2 s.2
  have hst:=E9 (bH B 2 s.2).1
  refine WX.Jm 7 (σ:=Int×(Nat×Bool)) (fun x=>[(0,.one (.ptr 2 0)),(1,.one (.ptr 0 0)),(2,.one (.int .i64 mb)),(6,.one (.ptr 22 0)),(7,.one (.ptr 23 0))]) (fun x=>[bp 1 L B x.2.1 x.2.2,aK L,dK (v5 S x.1),bO 4 8 12,aw 5 6 7 cM,aR cM,aT cM,aS cM,aw 9 10 11 cZ,aR cZ,aT cZ,aS cZ,aw 13 14 15 cP,aR cP,aT cP,aS cP,cq 17 (v5 S x.1).cols (v5 S x.1).rows,.map (a_ (v5 S x.1).M),.cells [.int .i64 (v5 S x.1).cols,.int .i64 (v5 S x.1).rows,.map 19,.map 20,.map 21] 171 false false,.map (ag (v5 S x.1).A),.map (ag (v5 S x.1).B),.map (ag (v5 S x.1).C),.cells (fL lC pR) 56 false false,.cells (fL {lC with kind:=s.1} pR) 56 false false]) (fun x=>CB S B s=x) (fun x _=>lS) ?_ ?_
  ·by_cases h4:s.1=4
   ·by_cases hb:S.qp+n8 (bH B 2 s.2).1<1\/31<S.qp+n8 (bH B 2 s.2).1
    ·have e0:CB S B s=(1,((bH B 2 s.2).2.1,true)):=by unfold CB;rw[if_pos h4,if_pos hb]
     repeat' (first
      |(refine qz ?_;first
       |refine ld (c := .int .u8 s.1) ?_ (hc:=fD _ _)
       |refine cl ?_ (hi:=by exact pw rfl)
       |refine cl ?_ (hi:=by exact rU hB s.2 (n:=2) rfl (by decide) rfl rfl (by decide) nL rfl)
       |refine an 2 ?_
       |refine xp ?_ (hc:=E8 hn)
       |refine cl ?_ (hi:=by exact gH (p:=(bH B 2 s.2).2.1) (e:=(bH B 2 s.2).2.2) rfl rfl (by decide) nL rfl))
      |refine zz ?_|refine zx (fun _=>?_) (fun _=>?_)|fail)
     all_goals first|exact⟨(1,((bH B 2 s.2).2.1,true)),_,e0,(cG [0,1,2,3,4,5,6,7,8,9,10,11,12,13,14,15,16,17,18,19,20,21,22,23])⟩|exact⟨rfl,(1,((bH B 2 s.2).2.1,true)),_,e0,(cG [0,1,2,3,4,5,6,7,8,9,10,11,12,13,14,15,16,17,18,19,20,21,22,23])⟩
    ·have e0:CB S B s=(S.qp+n8 (bH B 2 s.2).1,(bH B 2 s.2).2):=by unfold CB;rw[if_pos h4,if_neg hb]
     repeat' (first
      |(refine qz ?_;first
       |refine ld (c := .int .u8 s.1) ?_ (hc:=fD _ _)
       |refine cl ?_ (hi:=by exact pw rfl)
       |refine cl ?_ (hi:=by exact rU hB s.2 (n:=2) rfl (by decide) rfl rfl (by decide) nL rfl)
       |refine an 2 ?_
       |refine xp ?_ (hc:=E8 hn))
      |refine zz ?_|refine zx (fun _=>?_) (fun _=>?_)|fail)
     all_goals first|exact⟨(S.qp+n8 (bH B 2 s.2).1,(bH B 2 s.2).2),_,e0,(cG [0,1,2,3,4,5,6,7,8,9,10,11,12,13,14,15,16,17,18,19,20,21,22,23])⟩|exact⟨rfl,(S.qp+n8 (bH B 2 s.2).1,(bH B 2 s.2).2),_,e0,(cG [0,1,2,3,4,5,6,7,8,9,10,11,12,13,14,15,16,17,18,19,20,21,22,23])⟩
   ·have e0:CB S B s=(S.qp,s.2):=if_neg h4
    repeat' (first
     |(refine qz ?_;first
      |refine ld (c := .int .u8 s.1) ?_ (hc:=fD _ _))
     |refine zz ?_|refine zx (fun _=>?_) (fun _=>?_)|fail)
    all_goals first|exact⟨(S.qp,s.2),_,e0,(cG [0,1,2,3,4,5,6,7,8,9,10,11,12,13,14,15,16,17,18,19,20,21,22,23])⟩|exact⟨rfl,(S.qp,s.2),_,e0,(cG [0,1,2,3,4,5,6,7,8,9,10,11,12,13,14,15,16,17,18,19,20,21,22,23])⟩
  ·intro x hx
   obtain⟨X,hX⟩:∃X:f9,X=⟨{lC with kind:=s.1,qp:=x.1},v5 S x.1,x.2⟩:=⟨_,rfl⟩
   have hH:eP S B r=X:=by rw[hX];unfold eP;rw[hs,hx]
   have hF:KC B mb X=y:=by rw[<-hH];exact hy
   have hDX:gq X.S.cols X.S.rows:=by rw[hX];exact hD
   have hmX:0<=mb/\mb<X.S.cols*X.S.rows:=by rw[hX];exact hmb
   have hTX:cg X.S.M:=by rw[hX];exact hT
   have hkX:X.m.kind=s.1:=by rw[hX]
   have hvq:(fL {lC with kind:=s.1} pR).set 1 (.int .i64 x.1)=fL X.m pR:=by rw[hX];exact O7 _ _ _
   have hS0:v5 S x.1=X.S:=by rw[hX]
   have hr0:x.2=X.r:=by rw[hX]
   rw[hS0,hr0]
   have hl3:(J4 X.S)[5]? = some (.int .i64 x.1):=by rw[hX];rfl
   have hqX : -1000000<=X.m.qp/\X.m.qp<=1000000:=by rw[hX];show -1000000<=x.1/\x.1<=1000000;rw[<-hx];exact Fg S B s hq
   clear hX
   by_cases h0:s.1=0
   ·have e1:KC B mb X=(bG mb X,pR):=if_pos (hkX.trans h0)
    rw[<-hF,e1]
    repeat' (first
     |(refine qz ?_;first
      |refine ld ?_ (hc:=hl3)
      |refine st ?_ (hle:=by rw[cc];omega) (hv:=hvq)
      |refine ld (c := .int .u8 s.1) ?_ (hc:=by rw[<-hkX];exact fD _ _)
      |refine sO (cs:=mC X.m) ?_ (hle:=by rw[cc];omega) (hc:=ui _ _)
      |refine cl ?_ (hi:=by exact BN (S:=X.S) (mb:=mb) (m:=X.m) hDX hmX rfl rfl rfl nA rfl)
      |refine fC ?_ (hle:=by rw[cc])
      |refine kr (cs:=fL X.m pR) ?_ (hs1:=by rw[cc]) (hs2:=by rw[cc]))
     |refine zz ?_|refine zx (fun _=>?_) (fun _=>?_)|fail)
    show aB _ _ _ _ _ _ _ _;refine kV [0,1,2,3,4,5,6,7,8,9,10,11,12,13,14,15,16,17,18,19,20,21] ?_
    rfl
   ·have e1 : KC B mb X=wo B (b8 B mb (bG mb (cm B mb X))):=if_neg (by rw[hkX];exact h0)
    repeat' (first
     |(refine qz ?_;first
      |refine ld ?_ (hc:=hl3)
      |refine st ?_ (hle:=by rw[cc];omega) (hv:=hvq)
      |refine ld (c := .int .u8 s.1) ?_ (hc:=by rw[<-hkX];exact fD _ _))
     |refine WX.zt 13 (σ:=f9) (fun z=>[(0,.one (.ptr 2 0)),(1,.one (.ptr 0 0)),(2,.one (.int .i64 mb)),(6,.one (.ptr 22 0)),(7,.one (.ptr 23 0))]) (fun z=>[bp 1 L B z.r.1 z.r.2,aK L,dK (z.S),bO 4 8 12,aw 5 6 7 cM,aR cM,aT cM,aS cM,aw 9 10 11 cZ,aR cZ,aT cZ,aS cZ,aw 13 14 15 cP,aR cP,aT cP,aS cP,cq 17 (z.S).cols (z.S).rows,.map (a_ (z.S).M),.cells [.int .i64 (z.S).cols,.int .i64 (z.S).rows,.map 19,.map 20,.map 21] 171 false false,.map (ag (z.S).A),.map (ag (z.S).B),.map (ag (z.S).C),.cells (fL lC pR) 56 false false,.cells (fL z.m pR) 56 false false]) (fun z=>cm B mb X=z) (fun z _=>lS) ?_ ?_|refine zz ?_|refine zx (fun _=>?_) (fun _=>?_)|fail)
    ·intro _
     by_cases h1:s.1=1
     ·obtain⟨t,ht⟩:∃t,oz B (b_ X.S.M X.S.cols X.S.rows mb 0) X.r=t:=⟨_,rfl⟩
      have e2:=Nm (hkX.trans h1) ht
      repeat' (first
       |(refine qz ?_;first
        |refine ld (c := .int .u8 s.1) ?_ (hc:=by rw[<-hkX];exact fD _ _)
        |refine cl ?_ (hi:=by exact fN (M:=X.S.M) (k:=0) hTX hDX hmX (by decide) (i:=16) (j:=17) rfl rfl (by decide) rfl)
        |refine cl ?_ (hi:=by exact pz hB (r:=X.r) ht (dg hTX) rfl rfl (by decide) nL rfl)
        |refine Qc (off:=2) (s:=4) ?_ (hs2:=by rw[cc];omega) (hv:=O8 X.m pR t.1))
       |refine zz ?_|refine zx (fun _=>?_) (fun _=>?_)|fail)
      first|exact⟨_,_,e2,(cG [0,1,2,3,4,5,6,7,8,9,10,11,12,13,14,15,16,17,18,19,20,21,22,23])⟩|exact⟨rfl,_,_,e2,(cG [0,1,2,3,4,5,6,7,8,9,10,11,12,13,14,15,16,17,18,19,20,21,22,23])⟩
     ·by_cases h2:s.1=2
      ·obtain⟨uu0,e0⟩:∃t,oz B (b_ X.S.M X.S.cols X.S.rows mb 0) X.r=t:=⟨_,rfl⟩
       obtain⟨uu1,e1⟩:∃t,oz B (b_ (V1 X mb uu0) X.S.cols X.S.rows mb 1) uu0.2=t:=⟨_,rfl⟩
       obtain⟨uu2,e2⟩:∃t,oz B (b_ (V2 X mb uu0 uu1) X.S.cols X.S.rows mb 2) uu1.2=t:=⟨_,rfl⟩
       obtain⟨uu3,e3⟩:∃t,oz B (b_ (V3 X mb uu0 uu1 uu2) X.S.cols X.S.rows mb 3) uu2.2=t:=⟨_,rfl⟩
       have ez:=Nn (hkX.trans h2) e0 e1 e2 e3
       have T0:=hTX
       have T1:cg (V1 X mb uu0):=bM T0 (e0▸nf _ _ _)
       have T2:cg (V2 X mb uu0 uu1):=bM T1 (e1▸nf _ _ _)
       have T3:cg (V3 X mb uu0 uu1 uu2):=bM T2 (e2▸nf _ _ _)
       repeat' (first
        |(refine qz ?_;first
         |refine ld (c := .int .u8 s.1) ?_ (hc:=by rw[<-hkX];exact fD _ _)
         |refine cl ?_ (hi:=by exact fN (M:=X.S.M) (k:=0) T0 hDX hmX (by decide) (i:=16) (j:=17) rfl rfl (by decide) rfl)
         |refine cl ?_ (hi:=by exact pz hB (r:=X.r) e0 (dg T0) rfl rfl (by decide) nL rfl)
         |refine st ?_ (hle:=by rw[cc];omega) (hv:=EM X.m pR (k:=0) (by decide) uu0.1)
         |refine ld ?_ (hc:=rR X.m pR (k:=0) (by decide) uu0.1)
         |refine cl ?_ (hi:=by exact dE (M:=X.S.M) (k:=0) (v:=uu0.1) hDX hmX (by decide) (i:=16) (j:=17) rfl rfl (by decide) nA rfl)
         |refine cl ?_ (hi:=by exact fN (M:=V1 X mb uu0) (k:=1) T1 hDX hmX (by decide) (i:=16) (j:=17) rfl rfl (by decide) rfl)
         |refine cl ?_ (hi:=by exact pz hB (r:=uu0.2) e1 (dg T1) rfl rfl (by decide) nL rfl)
         |refine st ?_ (hle:=by rw[cc];omega) (hv:=EM (X1 X uu0) pR (k:=1) (by decide) uu1.1)
         |refine ld ?_ (hc:=rR (X1 X uu0) pR (k:=1) (by decide) uu1.1)
         |refine cl ?_ (hi:=by exact dE (M:=V1 X mb uu0) (k:=1) (v:=uu1.1) hDX hmX (by decide) (i:=16) (j:=17) rfl rfl (by decide) nA rfl)
         |refine cl ?_ (hi:=by exact fN (M:=V2 X mb uu0 uu1) (k:=2) T2 hDX hmX (by decide) (i:=16) (j:=17) rfl rfl (by decide) rfl)
         |refine cl ?_ (hi:=by exact pz hB (r:=uu1.2) e2 (dg T2) rfl rfl (by decide) nL rfl)
         |refine st ?_ (hle:=by rw[cc];omega) (hv:=EM (X2 X uu0 uu1) pR (k:=2) (by decide) uu2.1)
         |refine ld ?_ (hc:=rR (X2 X uu0 uu1) pR (k:=2) (by decide) uu2.1)
         |refine cl ?_ (hi:=by exact dE (M:=V2 X mb uu0 uu1) (k:=2) (v:=uu2.1) hDX hmX (by decide) (i:=16) (j:=17) rfl rfl (by decide) nA rfl)
         |refine cl ?_ (hi:=by exact fN (M:=V3 X mb uu0 uu1 uu2) (k:=3) T3 hDX hmX (by decide) (i:=16) (j:=17) rfl rfl (by decide) rfl)
         |refine cl ?_ (hi:=by exact pz hB (r:=uu2.2) e3 (dg T3) rfl rfl (by decide) nL rfl)
         |refine st ?_ (hle:=by rw[cc];omega) (hv:=EM (X3 X uu0 uu1 uu2) pR (k:=3) (by decide) uu3.1)
         |refine ld ?_ (hc:=rR (X3 X uu0 uu1 uu2) pR (k:=3) (by decide) uu3.1)
         |refine cl ?_ (hi:=by exact dE (M:=V3 X mb uu0 uu1 uu2) (k:=3) (v:=uu3.1) hDX hmX (by decide) (i:=16) (j:=17) rfl rfl (by decide) nA rfl))
        |refine WX.loop ?_|refine WX.round ?_|refine zz ?_|refine zx (fun _=>?_) (fun _=>?_)|fail)
       first|exact⟨_,_,ez,(cG [0,1,2,3,4,5,6,7,8,9,10,11,12,13,14,15,16,17,18,19,20,21,22,23])⟩|exact⟨rfl,_,_,ez,(cG [0,1,2,3,4,5,6,7,8,9,10,11,12,13,14,15,16,17,18,19,20,21,22,23])⟩
      ·have ez:=Fe (B:=B) (mb:=mb) (show X.m.kind≠1 from fun h=>h1 (hkX.symm.trans h)) (show X.m.kind≠2 from fun h=>h2 (hkX.symm.trans h))
       repeat' (first
        |(refine qz ?_;first
         |refine ld (c := .int .u8 s.1) ?_ (hc:=by rw[<-hkX];exact fD _ _)
         |refine cl ?_ (hi:=by exact rV hB X.r rfl rfl (by decide) nL rfl)
         |refine st ?_ (hle:=by rw[cc];omega) (hv:=Jr _ _ _))
        |refine zz ?_|refine zx (fun _=>?_) (fun _=>?_)|fail)
       first|exact⟨_,_,ez,(cG [0,1,2,3,4,5,6,7,8,9,10,11,12,13,14,15,16,17,18,19,20,21,22,23])⟩|exact⟨rfl,_,_,ez,(cG [0,1,2,3,4,5,6,7,8,9,10,11,12,13,14,15,16,17,18,19,20,21,22,23])⟩
    ·intro z hz
     have hz0:=G_ B mb X
     rw[hz]at hz0
     have hDz:gq z.S.cols z.S.rows:=by rw[hz0.cols,hz0.rows];exact hDX
     have hmz:0<=mb/\mb<z.S.cols*z.S.rows:=by rw[hz0.cols,hz0.rows];exact hmX
     have hqz : -1000000<=z.m.qp/\z.m.qp<=1000000:=by rw[hz0.qp];exact hqX
     repeat' (first
      |(refine qz ?_;first
       |refine sO (cs:=mC z.m) ?_ (hle:=by rw[cc];omega) (hc:=ui _ _))
      |refine zz ?_|refine zx (fun _=>?_) (fun _=>?_)|fail)
     refine cl ?_ (hi:=by exact BN (S:=z.S) (mb:=mb) (m:=z.m) (r:=z.r) hDz hmz rfl rfl rfl nA rfl)
     repeat' (first|refine WX.Jm 29 (σ:=f9) (fun w=>[(0,.one (.ptr 2 0)),(1,.one (.ptr 0 0)),(2,.one (.int .i64 mb)),(6,.one (.ptr 22 0)),(7,.one (.ptr 23 0))]) (fun w=>[bp 1 L B w.r.1 w.r.2,aK L,dK (w.S),bO 4 8 12,aw 5 6 7 cM,aR cM,aT cM,aS cM,aw 9 10 11 cZ,aR cZ,aT cZ,aS cZ,aw 13 14 15 cP,aR cP,aT cP,aS cP,cq 17 (w.S).cols (w.S).rows,.map (a_ (w.S).M),.cells [.int .i64 (w.S).cols,.int .i64 (w.S).rows,.map 19,.map 20,.map 21] 171 false false,.map (ag (w.S).A),.map (ag (w.S).B),.map (ag (w.S).C),.cells (fL lC pR) 56 false false,.cells (fL w.m pR) 56 false false]) (fun w=>b8 B mb (bG mb z)=w) (fun w _=>lS) ?_ ?_|refine zz ?_|refine zx (fun _=>?_) (fun _=>?_)|fail)
     ·repeat' (first
       |(refine qz ?_;first
        |refine sO (cs:=mC z.m) ?_ (hle:=by rw[cc];omega) (hc:=ui _ _)
        |refine uO (fun ga=>?_) (fun ga=>?_) (hi:=by exact oN (m:=z.m) rfl)
        |refine cl ?_ (hi:=by exact F1 hB (x:=bG mb z) (hs:=pR) (mb:=mb) hDz hmz hqz rfl rfl rfl rfl nA rfl))
       |refine zz ?_|refine zx (fun _=>?_) (fun _=>?_)|fail)
      ·rename_i ga
       have e3:b8 B mb (bG mb z)=cY B mb (bG mb z) 6:=if_pos ga
       first|exact⟨cY B mb (bG mb z) 6,_,e3,(cG [0,1,2,3,4,5,6,7,8,9,10,11,12,13,14,15,16,17,18,19,20,21,22,23])⟩|exact⟨rfl,cY B mb (bG mb z) 6,_,e3,(cG [0,1,2,3,4,5,6,7,8,9,10,11,12,13,14,15,16,17,18,19,20,21,22,23])⟩
      ·rename_i ga
       have e3:b8 B mb (bG mb z)=bG mb z:=if_neg (by show¬alone z.m=true;rw[ga];decide)
       first|exact⟨bG mb z,_,e3,(cG [0,1,2,3,4,5,6,7,8,9,10,11,12,13,14,15,16,17,18,19,20,21,22,23])⟩|exact⟨rfl,bG mb z,_,e3,(cG [0,1,2,3,4,5,6,7,8,9,10,11,12,13,14,15,16,17,18,19,20,21,22,23])⟩
     ·intro w hw
      have e4:y=wo B w:=by rw[<-hF,e1,hz,hw]
      have hp:0<=(kO cP B w.r).1/\(kO cP B w.r).1<=15:=oS (K:=15) (by decide) Oy B (cP.T.length/2) 0 w.r
      have hc:=iM B 2 (kO cP B w.r).2
      have e5:wo B w=(⟨w.m,w.S,(bH B 2 (kO cP B w.r).2).2⟩,kd (kO cP B w.r).1 (bH B 2 (kO cP B w.r).2).1):=rfl
      obtain⟨p,hpp⟩:∃p,kO cP B w.r=p:=⟨_,rfl⟩
      rw[hpp]at hp hc e5
      obtain⟨c,hcc⟩:∃c,bH B 2 p.2=c:=⟨_,rfl⟩
      rw[hcc]at hc e5
      repeat' (first
       |(refine qz ?_;first
        |refine cl ?_ (hi:=by exact Iu Eo hB hpp (i:=0) (k:=1) (c:=12) (a:=13) (b:=14) (t:=15) rfl rfl rfl rfl rfl rfl (by decide) nL rfl)
        |refine cl ?_ (hi:=by exact JS hB hcc rfl (by decide) rfl rfl (by decide) nL rfl)
        |refine st ?_ (hle:=by simp only[List.length_set,cc];omega) (hv:=rfl)
        |refine fC ?_ (hle:=by simp only[List.length_set,cc])
        |refine kr ?_ (hs1:=by simp only[List.length_set,cc]) (hs2:=by rw[cc])
        |refine cN (fun bb hbb=>?_))
       |refine WX.loop ?_|refine WX.round ?_|refine zz ?_|refine zx (fun _=>?_) (fun _=>?_)|fail)
      rw[e4,e5]
      rename_i b0 g0 b1 g1 b2 g2 b3 g3 b4 g4
      have h0':kd p.1 c.1 0=b0:=g0
      have h1':kd p.1 c.1 1=b1:=g1
      have h2':kd p.1 c.1 2=b2:=g2
      have h3':kd p.1 c.1 3=b3:=(RM hp).trans g3
      have h4':kd p.1 c.1 4=b4:=g4
      have h5':kd p.1 c.1 5=bb:=(RN hc).trans hbb
      rw[ME w.m (kd p.1 c.1) h0' h1' h2' h3' h4' h5']
      show aB _ _ _ _ _ _ _ _;refine kV [0,1,2,3,4,5,6,7,8,9,10,11,12,13,14,15,16,17,18,19,20,21] ?_
      all_goals rfl
end Go.Proofs.YtagpkhindehcbaaGreat
namespace Go.Proofs.YtagpkhindehcbaaGreat
open Go.Xm
variable [ax]
instance RI (m:Mb) (h:Nat->Bool):bC (.agg (fL m h)):=fu (vC m h)
theorem Rs{L:List Int}{B:List Bool}(hB:c_ L B){S:bm}{r:Nat×Bool}{mb:Int}(hD:gq S.cols S.rows)(hT:cg S.M)(hmb:0<=mb/\mb<S.cols*S.rows)(hq : -1000000<=S.qp/\S.qp<=1000000){y:f9×(Nat->Bool)}(hy:bY S B mb r=y)
 {HS:aj}(hi:HS[0]? = some (bp 1 L B r.1 r.2)) (hk:HS[1]? = some (aK L)) (hS:(HS.drop 2).take 20=dY S) {HS':aj}(hh:bK HS (0::1::bQ) (bp 1 L B y.1.r.1 y.1.r.2::aK L::dY y.1.S)=HS') (hbd:Nat.blt HS'.length Mem.bound=true) :
 aG.Sound Tryz.prog ⟨34,[.one (.ptr 2 0),.one (.ptr 0 0),.one (.int .i64 mb)],HS,.agg (fL y.1.m y.2),HS',0::1::bQ⟩:=by
 subst hy
 have hc:=B3 hB S r mb hD hT hmb hq
 obtain⟨y,hy⟩:∃y,bY S B mb r=y:=⟨_,rfl⟩
 rw[hy]at hc hh ⊢
 have hc':bh Tryz.prog 34 [.one (.ptr 2 0),.one (.ptr 0 0),.one (.int .i64 mb)] (bp 1 L B r.1 r.2::aK L::(dY S++[])) (.agg (fL y.1.m y.2)) (bp 1 L B y.1.r.1 y.1.r.2::aK L::(dY y.1.S++[])):=by
  rw[List.append_nil,List.append_nil];exact hc
 have h:=Dy (S:=S) (S':=y.1.S) (l:=[]) (l':=[]) (args':=[.one (.ptr 2 0),.one (.ptr 0 0),.one (.int .i64 mb)]) [] hc' hi hk hS (by decide) .nil rfl rfl .nil .nil .nil rfl (by decide) (.cons (by show 2<22;omega) (.cons (by show 0<22;omega) (.flat .nil))) (.cons rfl (.cons rfl (.flat .nil))) (HS':=HS') (by rw[List.append_nil];exact hh) hbd
 rw[List.append_nil]at h
 exact h
structure uF(x:f9)(c r:Int):Prop where
 cols:x.S.cols=c
 rows:x.S.rows=r
 tiny:cg x.S.M
 qp : -1000000<=x.S.qp/\x.S.qp<=1000000
 v:∀k,bz (x.m.v k)
theorem Fc:bz (0,0):=⟨by unfold fT;omega,by unfold fT;omega⟩
theorem Hb{S:bm}{B:List Bool}{r:Nat×Bool}(hT:cg S.M)(hq : -1000000<=S.qp/\S.qp<=1000000):uF (eP S B r) S.cols S.rows:=
 ⟨rfl,rfl,hT,Fg S B _ hq,fun _=>Fc⟩
theorem zS{x:f9}{c r:Int}(h:uF x c r)(B:List Bool)(mb:Int)(k:Nat):uF (rk B mb x k) c r:=
 ⟨h.cols,h.rows,bM h.tiny (nf _ _ _),h.qp,fun j=>by
  show bz (if j=k then _ else x.m.v j)
  split
  ·exact nf _ _ _
  ·exact h.v j⟩
theorem Ha{x:f9}{c r:Int}(h:uF x c r)(B:List Bool)(mb:Int):uF (cm B mb x) c r:=by
 unfold cm
 split
 ·exact⟨h.cols,h.rows,h.tiny,h.qp,fun j=>nf _ _ _⟩
 ·split
  ·exact zS (zS (zS (zS h B mb 0) B mb 1) B mb 2) B mb 3
  ·exact⟨h.cols,h.rows,h.tiny,h.qp,h.v⟩
theorem yE{x:f9}{c r:Int}(h:uF x c r)(mb:Int):uF (bG mb x) c r:=
 ⟨h.cols,h.rows,fc h.tiny h.v,h.qp,h.v⟩
theorem KF{x:f9}{c r:Int}(h:uF x c r)(B:List Bool)(mb:Int):∀k,uF (cY B mb x k) c r:=by
 intro k
 induction k with
 | zero=>exact h
 | succ k ih=>exact⟨ih.cols,ih.rows,ih.tiny,ih.qp,ih.v⟩
theorem Ra{S:bm}{B:List Bool}{r:Nat×Bool}{mb:Int}(hT:cg S.M)(hq : -1000000<=S.qp/\S.qp<=1000000):uF (bY S B mb r).1 S.cols S.rows:=by
 have h:=Hb (B:=B) (r:=r) hT hq
 unfold bY KC
 split
 ·exact yE h mb
 ·have h2:=yE (Ha h B mb) mb
  have h3:uF (b8 B mb (bG mb (cm B mb (eP S B r)))) S.cols S.rows:=by
   unfold b8
   split
   ·exact KF h2 B mb 6
   ·exact h2
  exact⟨h3.cols,h3.rows,h3.tiny,h3.qp,h3.v⟩
end Go.Proofs.YtagpkhindehcbaaGreat
namespace Go.Proofs.YtagpkhindehcbaaGreat
open Go.Xm
variable [ax]
structure Hd where
 cols:Int
 rows:Int
 w:Bool
 a:Nat->Int
 b:Nat->Int
def eO(h:Hd):List XC := .bool h.w::(ti .u8 64 h.a++ti .u8 64 h.b)
def f_(h:Hd):List XC := .int .i64 h.cols :: .int .i64 h.rows::eO h
theorem jw(h:Hd):(eO h).length=129:=by simp[eO,aD]
theorem bt(h:Hd):(f_ h).length=131:=by simp[f_,jw]
theorem p5(h:Hd):(eO h).all XC.shut=true:=by simp[eO,ti,XC.shut]
theorem ji(h:Hd):(f_ h).all XC.shut=true:=by simp[f_,eO,ti,XC.shut]
theorem Ku(h:Hd){i:Nat}(hi:i<64):(eO h)[1+i]? = some (.int .u8 (h.a i)):=by
 unfold eO
 rw[Nat.add_comm,List.getElem?_cons_succ,List.getElem?_append_left (by rw[aD];exact hi),fz hi]
theorem Kv(h:Hd){i:Nat}(hi:i<64):(eO h)[65+i]? = some (.int .u8 (h.b i)):=by
 unfold eO
 rw[show 65+i=(64+i)+1 by omega,List.getElem?_cons_succ,List.getElem?_append_right (by rw[aD];omega),aD,show 64+i-64=i by omega,fz hi]
instance Mf (h:Hd):bC (.agg (f_ h)):=fu (ji h)
instance QI (h:Hd) (e:TypeId) (a b:Bool):cL (.cells (eO h) e a b):=jh (p5 h)
instance Rj (h:Hd) (e:TypeId) (a b:Bool):cL (.cells (f_ h) e a b):=jh (ji h)
structure qk(h:Hd):Prop where
 dims:gq h.cols h.rows
 yes:h.w=true->∀i,i<64->8<=h.a i/\8<=h.b i
 no:h.w=false->∀i,i<64->h.a i=0/\h.b i=0
theorem DL(h:Hd)(ho:qk h):bh Tryz.prog 46 [.agg (eO h)] [] (.one (.int .i64 0)) []:=by
 obtain⟨w,hw⟩:∃w,h.w=w:=⟨_,rfl⟩
 have h0:(eO h)[0]? = some (.bool w):=by rw[<-hw];rfl
 refine cO Tryz.func46 ?_
 repeat' (first|refine zz ?_|refine zx (fun _=>?_) (fun _=>?_)|fail)
 refine WX.dA (σ:=Nat) (fun j=>[(4,.one (.int .i64 (j:Nat))),(1,.one (.ptr 0 0))]) (fun _=>[.cells (eO h) 24 false false]) (fun j=>j<=64) (fun j=>64-j) 0 (by omega) (fun s _=>lS) (cG [0]) ?_
 intro j hj ih
 by_cases hj64:j<64
 ·have ga:=Ku h hj64
  have gb:=Kv h hj64
  cases w
  ·have hn:=ho.no hw j hj64
   repeat' (first
    |(refine qz ?_;first
     |refine ld (hc:=h0) ?_
     |refine ld (hc:=ga) ?_
     |refine ld (hc:=gb) ?_)
    |refine zz ?_|refine zx (fun _=>?_) (fun _=>?_)|fail)
   refine ih (j+1) _ _ _ (cG [0]) (by omega) (by omega)
  ·have hn:=ho.yes hw j hj64
   repeat' (first
    |(refine qz ?_;first
     |refine ld (hc:=h0) ?_
     |refine ld (hc:=ga) ?_
     |refine ld (hc:=gb) ?_)
    |refine zz ?_|refine zx (fun _=>?_) (fun _=>?_)|fail)
   refine ih (j+1) _ _ _ (cG [0]) (by omega) (by omega)
 ·repeat' (first|refine zz ?_|refine zx (fun _=>?_) (fun _=>?_)|fail)
  show aB _ _ _ _ _ _ _ _;refine kV [] ?_
  rfl
theorem G6{h:Hd}(ho:qk h){HS:aj}(hb:Nat.blt HS.length Mem.bound=true):aG.Sound Tryz.prog ⟨46,[.agg (eO h)],HS,.one (.int .i64 0),HS,[]⟩:=
 az (DL h ho) (by simp only[List.all_cons,List.all_nil,Bool.and_true];exact p5 h) rfl hb
theorem EC(h:Hd):((f_ h).drop 2).take 129=eO h:=by
 show(eO h).take 129=_
 rw[List.take_of_length_le (by rw[jw];omega)]
theorem C8(h:Hd)(ho:qk h):bh Tryz.prog 25 [.agg (f_ h)] [] (.one (.int .i64 0)) []:=by
 have h1:=ho.dims.c0
 have h2:=ho.dims.c1
 have h3:=ho.dims.r0
 have h4:=ho.dims.r1
 refine cO Tryz.func25 ?_
 repeat' (first
  |(refine qz ?_;first
   |refine sO (cs:=eO h) ?_ (hle:=by rw[bt];decide) (hc:=EC h)
   |refine cl ?_ (hi:=by exact G6 ho rfl))
  |refine zz ?_|refine zx (fun _=>?_) (fun _=>?_)|fail)
 show aB _ _ _ _ _ _ _ _;refine kV [] ?_
 rfl
theorem kW{h:Hd}(ho:qk h){HS:aj}(hb:Nat.blt HS.length Mem.bound=true):aG.Sound Tryz.prog ⟨25,[.agg (f_ h)],HS,.one (.int .i64 0),HS,[]⟩:=
 az (C8 h ho) (by simp only[List.all_cons,List.all_nil,Bool.and_true];exact ji h) rfl hb
structure Ph where
 id:Int
 inter:Bool
 down:Bool
 qp:Int
def hU(p:Ph):List XC:=[.int .i64 p.id,.bool p.inter,.bool p.down,.int .i64 p.qp]
structure tW(p:Ph):Prop where
 id:0<=p.id/\p.id<=65535
 qp:1<=p.qp/\p.qp<=31
 down:p.down=true->p.inter=true
instance Rl (p:Ph):bC (.agg (hU p)):=fu rfl
theorem Ds(p:Ph)(ho:tW p):bh Tryz.prog 26 [.agg (hU p)] [] (.one (.int .i64 0)) []:=by
 have h1:=ho.id
 have h2:=ho.qp
 obtain⟨d,hd⟩:∃d,p.down=d:=⟨_,rfl⟩
 have hl:(hU p)[2]? = some (.bool d):=by rw[<-hd];rfl
 cases d
 ·refine cO Tryz.func26 ?_
  repeat' (first
   |(refine qz ?_;first
    |refine ld (hc:=hl) ?_)
   |refine zz ?_|refine zx (fun _=>?_) (fun _=>?_)|fail)
  show aB _ _ _ _ _ _ _ _;refine kV [] ?_
  rfl
 ·have hi:=ho.down hd
  have hl2:(hU p)[1]? = some (.bool true):=by rw[<-hi];rfl
  refine cO Tryz.func26 ?_
  repeat' (first
   |(refine qz ?_;first
    |refine ld (hc:=hl) ?_
    |refine ld (hc:=hl2) ?_)
   |refine zz ?_|refine zx (fun _=>?_) (fun _=>?_)|fail)
  show aB _ _ _ _ _ _ _ _;refine kV [] ?_
  rfl
theorem k_{p:Ph}(ho:tW p){HS:aj}(hb:Nat.blt HS.length Mem.bound=true):aG.Sound Tryz.prog ⟨26,[.agg (hU p)],HS,.one (.int .i64 0),HS,[]⟩:=
 az (Ds p ho) rfl rfl hb
theorem Nv{cols rows:Int}(h:gq cols rows){HS:aj}{N:Nat}(hN:HS.length=N){HS':aj}(hh:HS++[cq (N+1) cols rows,.map (a_ [])]=HS')(hbd:Nat.blt HS'.length Mem.bound=true) :
 aG.Sound Tryz.prog ⟨47,[.one (.int .i64 cols),.one (.int .i64 rows)],HS,.one (.ptr N 0),HS',[]⟩:=by
 subst hN
 refine bT (os:=[cq (HS.length+1) cols rows,.map (a_ [])]) [] [] 2 (KW cols rows h) (by simp) .nil .nil ?_ rfl (.flat (.flat .nil)) (.flat (.flat .nil)) (by show 0<2;omega) rfl ?_ rfl rfl hh hbd (.inl rfl)
 ·exact .cons (by simp[ak.ca,XC.ok]) (.flat .nil)
 ·exact .cons rfl (.flat .nil)
abbrev H7(h:Hd)(p:Ph):aj:=[.cells [.ptr 0 0,.int .i64 p.id,.bool p.inter,.bool p.down,.int .i64 p.qp,.int .i64 p.qp,.ptr 14 0,.ptr 16 0] 97 false false,cq 15 h.cols h.rows,.map (a_ []),.cells [.int .i64 h.cols,.int .i64 h.rows,.map 17,.map 18,.map 19] 171 false false,.map (ag []),.map (ag []),.map (ag [])]
theorem FI(h:Hd)(p:Ph)(ho:qk h):bh Tryz.prog 27 [.one (.ptr 0 0),.agg (f_ h),.agg (hU p)] [bO 1 5 9,aw 2 3 4 cM,aR cM,aT cM,aS cM,aw 6 7 8 cZ,aR cZ,aT cZ,aS cZ,aw 10 11 12 cP,aR cP,aT cP,aS cP] (.one (.ptr 13 0)) ([bO 1 5 9,aw 2 3 4 cM,aR cM,aT cM,aS cM,aw 6 7 8 cZ,aR cZ,aT cZ,aS cZ,aw 10 11 12 cP,aR cP,aT cP,aS cP]++H7 h p):=by
 have h1:=ho.dims.c0
 have h2:=ho.dims.c1
 have h3:=ho.dims.r0
 have h4:=ho.dims.r1
 refine cO Tryz.func27 ?_
 repeat' (first
  |(refine qz ?_;first
   |refine fC ?_ (hle:=by rfl)
   |refine cl ?_ (hi:=by exact Nv (cols:=h.cols) (rows:=h.rows) ho.dims nL (by first|(simp only[List.cons_append,List.nil_append];exact rfl)|exact rfl) rfl)
   |refine cl ?_ (hi:=by exact IV (cols:=h.cols) (rows:=h.rows) (by omega) (by omega) nL (by first|(simp only[List.cons_append,List.nil_append];exact rfl)|exact rfl) rfl))
  |refine zz ?_|refine zx (fun _=>?_) (fun _=>?_)|fail)
 show aB _ _ _ _ _ _ _ _;refine kV [0,1,2,3,4,5,6,7,8,9,10,11,12,21,15,16,17,18,19,20] ?_
 rfl
end Go.Proofs.YtagpkhindehcbaaGreat
namespace Go.Proofs.YtagpkhindehcbaaGreat
open Go.Xm
variable [ax]
abbrev Lj:List Nat:=[0,1,2,3,4,5,6,7,8,9,10,11,12]
abbrev Ej(h:Hd)(p:Ph)(N:Nat):aj:=[.cells [.ptr 0 0,.int .i64 p.id,.bool p.inter,.bool p.down,.int .i64 p.qp,.int .i64 p.qp,.ptr (N+1) 0,.ptr (N+3) 0] 97 false false,cq (N+2) h.cols h.rows,.map (a_ []),.cells [.int .i64 h.cols,.int .i64 h.rows,.map (N+4),.map (N+5),.map (N+6)] 171 false false,.map (ag []),.map (ag []),.map (ag [])]
abbrev dZ:aj:=[bO 1 5 9,aw 2 3 4 cM,aR cM,aT cM,aS cM,aw 6 7 8 cZ,aR cZ,aT cZ,aS cZ,aw 10 11 12 cP,aR cP,aT cP,aS cP]
theorem LL{HS:aj}(hS:HS.take 13=dZ){τ : Nat->Nat}(h:∀j,j<13 -> τ j=j):ae τ HS Lj dZ:=by
 have g:∀j,j<13->HS[j]? = dZ[j]?:=fun j hj=>by rw[<-hS,List.getElem?_take_of_lt hj]
 have h1:=h 1 (by decide)
 have h2:=h 2 (by decide)
 have h3:=h 3 (by decide)
 have h4:=h 4 (by decide)
 have h5:=h 5 (by decide)
 have h6:=h 6 (by decide)
 have h7:=h 7 (by decide)
 have h8:=h 8 (by decide)
 have h9:=h 9 (by decide)
 have h10:=h 10 (by decide)
 have h11:=h 11 (by decide)
 have h12:=h 12 (by decide)
 refine .cons ?_ (.cons ?_ (.flat (g 2 (by decide)) (.flat (g 3 (by decide)) (.flat (g 4 (by decide)) (.cons ?_ (.flat (g 6 (by decide)) (.flat (g 7 (by decide)) (.flat (g 8 (by decide)) (.cons ?_ (.flat (g 10 (by decide)) (.flat (g 11 (by decide)) (.flat (g 12 (by decide)) .nil))))))))))))
 ·rw[g 0 (by decide)]
  simp only[ak.ay,List.map_cons,List.map_nil,XC.ay,h1,h5,h9];rfl
 ·rw[g 1 (by decide)]
  simp only[ak.ay,List.map_cons,List.map_nil,XC.ay,h2,h3,h4];rfl
 ·rw[g 5 (by decide)]
  simp only[ak.ay,List.map_cons,List.map_nil,XC.ay,h6,h7,h8];rfl
 ·rw[g 9 (by decide)]
  simp only[ak.ay,List.map_cons,List.map_nil,XC.ay,h10,h11,h12];rfl
theorem nF{n:Nat}(hn:13<=n){l:aj}(hl:bl n l):bl n (dZ++l):=by
 refine .cons ?_ (.cons ?_ (.flat (.flat (.flat (.cons ?_ (.flat (.flat (.flat (.cons ?_ (.flat (.flat (.flat hl))))))))))))
 all_goals simp[ak.ca,XC.ok];omega
theorem LK{τ : Nat->Nat}(h:∀j,j<13 -> τ j=j){l l':aj}(hl:dq τ l l'):dq τ (dZ++l) (dZ++l'):=by
 have h1:=h 1 (by decide)
 have h2:=h 2 (by decide)
 have h3:=h 3 (by decide)
 have h4:=h 4 (by decide)
 have h5:=h 5 (by decide)
 have h6:=h 6 (by decide)
 have h7:=h 7 (by decide)
 have h8:=h 8 (by decide)
 have h9:=h 9 (by decide)
 have h10:=h 10 (by decide)
 have h11:=h 11 (by decide)
 have h12:=h 12 (by decide)
 refine .cons ?_ (.cons ?_ (.flat (.flat (.flat (.cons ?_ (.flat (.flat (.flat (.cons ?_ (.flat (.flat (.flat hl))))))))))))
 ·simp only[ak.ay,List.map_cons,List.map_nil,XC.ay,h1,h5,h9]
 ·simp only[ak.ay,List.map_cons,List.map_nil,XC.ay,h2,h3,h4]
 ·simp only[ak.ay,List.map_cons,List.map_nil,XC.ay,h6,h7,h8]
 ·simp only[ak.ay,List.map_cons,List.map_nil,XC.ay,h10,h11,h12]
theorem Ik{HS:aj}(hS:HS.take 13=dZ){os:aj}:bK HS Lj (dZ++os)=HS++os:=by
 have g:∀j,j<13->HS[j]? = dZ[j]?:=fun j hj=>by rw[<-hS,List.getElem?_take_of_lt hj]
 simp only[bK,dZ,List.cons_append,List.nil_append]
 rw[aF (g 0 (by decide)),aF (g 1 (by decide)),aF (g 2 (by decide)),aF (g 3 (by decide)),aF (g 4 (by decide)),aF (g 5 (by decide)),aF (g 6 (by decide)),aF (g 7 (by decide)),aF (g 8 (by decide)),aF (g 9 (by decide)),aF (g 10 (by decide)),aF (g 11 (by decide)),aF (g 12 (by decide))]
theorem EJ(r:List Nat):∀j,j<13->nth (Lj++r) j=j:=fun j hj=>by
 have hq:∀q:Fin 13,Lj[q.val]? = some q.val:=by decide
 have:=hq ⟨j,hj⟩
 unfold nth
 rw[List.getD_eq_getElem?_getD,List.getElem?_append_left (by exact hj),this]
 rfl
theorem mJ{h:Hd}{p:Ph}(ho:qk h){HS:aj}(hS:HS.take 13=dZ){N:Nat}(hN:HS.length=N){HS':aj}(hh:HS++Ej h p N=HS')(hbd:Nat.blt HS'.length Mem.bound=true) :
 aG.Sound Tryz.prog ⟨27,[.one (.ptr 0 0),.agg (f_ h),.agg (hU p)],HS,.one (.ptr N 0),HS',Lj⟩:=by
 subst hN
 have e0:∀j,j<13->nth Lj j=j:=fun j hj=>by
  have:=EJ [] j hj
  rw[List.append_nil]at this
  exact this
 refine bT (os:=dZ++Ej h p HS.length) Lj Lj 7 (FI h p ho) (by decide) (LL hS e0) (nF (l:=[]) (Nat.le_refl _) .nil) (nF (l:=H7 h p) (by show 13<=20;omega) ?_) rfl (.cons (by show 0<13;omega) (.flat (.flat .nil))) (.cons rfl (.flat (.flat .nil))) (by show 13<20;omega) rfl (LK (EJ _) ?_) ?_ rfl (by rw[Ik hS];exact hh) hbd (.inl rfl)
 ·refine .cons ?_ (.cons ?_ (.flat (.cons ?_ (.flat (.flat (.flat .nil))))))
  all_goals simp[ak.ca,XC.ok]
 ·exact .cons rfl (.cons rfl (.flat (.cons rfl (.flat (.flat (.flat .nil))))))
 ·rfl
end Go.Proofs.YtagpkhindehcbaaGreat
namespace Go.Proofs.YtagpkhindehcbaaGreat
open Go.Xm
variable [ax]
abbrev HE(S:bm)(N:Nat):ak := .cells [.ptr 0 0,.int .i64 S.id,.bool S.inter,.bool S.down,.int .i64 S.hqp,.int .i64 S.qp,.ptr (N+1) 0,.ptr (N+3) 0] 97 false false
abbrev HF(S:bm)(N:Nat):ak := .cells [.int .i64 S.cols,.int .i64 S.rows,.map (N+4),.map (N+5),.map (N+6)] 171 false false
abbrev zM(S:bm)(N:Nat):aj:=[HE S N,cq (N+2) S.cols S.rows,.map (a_ S.M),HF S N,.map (ag S.A),.map (ag S.B),.map (ag S.C)]
abbrev lF(N:Nat)(r:List Nat):List Nat:=N::0::1::2::3::4::5::6::7::8::9::10::11::12::(N+1)::(N+2)::(N+3)::(N+4)::(N+5)::(N+6)::r
abbrev Ni(S:bm)(N:Nat)(l:aj):aj:=HE S N::bO 1 5 9::aw 2 3 4 cM::aR cM::aT cM::aS cM::aw 6 7 8 cZ::aR cZ::aT cZ::aS cZ::aw 10 11 12 cP::aR cP::aT cP::aS cP::cq (N+2) S.cols S.rows :: .map (a_ S.M)::HF S N :: .map (ag S.A) :: .map (ag S.B) :: .map (ag S.C)::l
theorem zO{HS:aj}{S:bm}{N:Nat}{τ : Nat->Nat}(hS:HS.take 13=dZ)(hN:(HS.drop N).take 7=zM S N)(h3:∀j,j<13 -> τ (3+j)=j)(h16:∀j,j<6 -> τ (16+j)=N+1+j){ls:List Nat}{l:aj}(hl:ae τ HS ls l):ae τ HS (lF N ls) (dY S++l):=by
 have g:∀j,j<13->HS[j]? = dZ[j]?:=fun j hj=>by rw[<-hS,List.getElem?_take_of_lt hj]
 have k:∀j,j<7->HS[N+j]? = (zM S N)[j]?:=fun j hj=>by rw[<-hN,List.getElem?_take_of_lt hj,List.getElem?_drop]
 have a1 : τ 4=1:=h3 1 (by decide)
 have a2 : τ 5=2:=h3 2 (by decide)
 have a3 : τ 6=3:=h3 3 (by decide)
 have a4 : τ 7=4:=h3 4 (by decide)
 have a5 : τ 8=5:=h3 5 (by decide)
 have a6 : τ 9=6:=h3 6 (by decide)
 have a7 : τ 10=7:=h3 7 (by decide)
 have a8 : τ 11=8:=h3 8 (by decide)
 have a9 : τ 12=9:=h3 9 (by decide)
 have b0 : τ 13=10:=h3 10 (by decide)
 have b1 : τ 14=11:=h3 11 (by decide)
 have b2 : τ 15=12:=h3 12 (by decide)
 have a0 : τ 3=0:=h3 0 (by decide)
 have d0 : τ 16=N+1:=h16 0 (by decide)
 have d1 : τ 17=N+2:=h16 1 (by decide)
 have d2 : τ 18=N+3:=h16 2 (by decide)
 have d3 : τ 19=N+4:=h16 3 (by decide)
 have d4 : τ 20=N+5:=h16 4 (by decide)
 have d5 : τ 21=N+6:=h16 5 (by decide)
 refine .cons ?_ (.cons ?_ (.cons ?_ (.flat (g 2 (by decide)) (.flat (g 3 (by decide)) (.flat (g 4 (by decide)) (.cons ?_ (.flat (g 6 (by decide)) (.flat (g 7 (by decide)) (.flat (g 8 (by decide)) (.cons ?_ (.flat (g 10 (by decide)) (.flat (g 11 (by decide)) (.flat (g 12 (by decide)) (.cons ?_ (.flat (k 2 (by decide)) (.cons ?_ (.flat (k 4 (by decide)) (.flat (k 5 (by decide)) (.flat (k 6 (by decide)) hl)))))))))))))))))))
 ·have:=k 0 (by decide)
  rw[Nat.add_zero]at this
  rw[this]
  simp only[ak.ay,List.map_cons,List.map_nil,XC.ay,a0,d0,d2];rfl
 ·rw[g 0 (by decide)]
  simp only[ak.ay,List.map_cons,List.map_nil,XC.ay,a1,a5,a9];rfl
 ·rw[g 1 (by decide)]
  simp only[ak.ay,List.map_cons,List.map_nil,XC.ay,a2,a3,a4];rfl
 ·rw[g 5 (by decide)]
  simp only[ak.ay,List.map_cons,List.map_nil,XC.ay,a6,a7,a8];rfl
 ·rw[g 9 (by decide)]
  simp only[ak.ay,List.map_cons,List.map_nil,XC.ay,b0,b1,b2];rfl
 ·rw[k 1 (by decide)]
  simp only[ak.ay,List.map_cons,List.map_nil,XC.ay,d1];rfl
 ·rw[k 3 (by decide)]
  simp only[ak.ay,List.map_cons,List.map_nil,XC.ay,d3,d4,d5];rfl
theorem DH{S:bm}{N:Nat}{τ : Nat->Nat}(h3:∀j,j<13 -> τ (3+j)=j)(h16:∀j,j<6 -> τ (16+j)=N+1+j){l l':aj}(hl:dq τ l l'):dq τ (dY S++l) (Ni S N l'):=by
 have a1 : τ 4=1:=h3 1 (by decide)
 have a2 : τ 5=2:=h3 2 (by decide)
 have a3 : τ 6=3:=h3 3 (by decide)
 have a4 : τ 7=4:=h3 4 (by decide)
 have a5 : τ 8=5:=h3 5 (by decide)
 have a6 : τ 9=6:=h3 6 (by decide)
 have a7 : τ 10=7:=h3 7 (by decide)
 have a8 : τ 11=8:=h3 8 (by decide)
 have a9 : τ 12=9:=h3 9 (by decide)
 have b0 : τ 13=10:=h3 10 (by decide)
 have b1 : τ 14=11:=h3 11 (by decide)
 have b2 : τ 15=12:=h3 12 (by decide)
 have a0 : τ 3=0:=h3 0 (by decide)
 have d0 : τ 16=N+1:=h16 0 (by decide)
 have d1 : τ 17=N+2:=h16 1 (by decide)
 have d2 : τ 18=N+3:=h16 2 (by decide)
 have d3 : τ 19=N+4:=h16 3 (by decide)
 have d4 : τ 20=N+5:=h16 4 (by decide)
 have d5 : τ 21=N+6:=h16 5 (by decide)
 refine .cons ?_ (.cons ?_ (.cons ?_ (.flat (.flat (.flat (.cons ?_ (.flat (.flat (.flat (.cons ?_ (.flat (.flat (.flat (.cons ?_ (.flat (.cons ?_ (.flat (.flat (.flat hl)))))))))))))))))))
 all_goals simp only[ak.ay,List.map_cons,List.map_nil,XC.ay, *]
theorem vB(a b N:Nat)(r:List Nat):∀j,j<13->nth (a::b::lF N r) (3+j)=j:=fun j hj=>by
 have hq:∀q:Fin 13,Lj[q.val]? = some q.val:=by decide
 have:=hq ⟨j,hj⟩
 unfold nth
 rw[List.getD_eq_getElem?_getD,Nat.add_comm]
 show((Lj++((N+1)::(N+2)::(N+3)::(N+4)::(N+5)::(N+6)::r))[j]?).getD 0=j
 rw[List.getElem?_append_left (by exact hj),this]
 rfl
theorem rQ(a b N:Nat)(r:List Nat):∀j,j<6->nth (a::b::lF N r) (16+j)=N+1+j:=fun j hj=>by
 match j,hj with
 | 0,_=>rfl
 | 1,_=>rfl
 | 2,_=>rfl
 | 3,_=>rfl
 | 4,_=>rfl
 | 5,_=>rfl
theorem QY{f:FuncId}{args args':List XV}{v:XV}[bC v]{L:List Int}{B:List Bool}{p p':Nat}{e e':Bool}{S S':bm}{i k N:Nat}(hc:bh Tryz.prog f args (bp 1 L B p e::aK L::dY S) v (bp 1 L B p' e'::aK L::dY S'))
 {HS:aj}(hi:HS[i]? = some (bp k L B p e)) (hk:HS[k]? = some (aK L)) (hS:HS.take 13=dZ) (hN:(HS.drop N).take 7=zM S N) (hnd:(i::k::lF N []).Nodup) (ha:fk 22 args) (hr:dT (nth (i::k::lF N [])) args args')
 {HS':aj}(hh:bK HS (i::k::lF N []) (bp k L B p' e'::aK L::Ni S' N [])=HS') (hbd:Nat.blt HS'.length Mem.bound=true) :
 aG.Sound Tryz.prog ⟨f,args',HS,v,HS',i::k::lF N []⟩:=by
 have h3:=vB i k N []
 have h16:=rQ i k N []
 have hc':bh Tryz.prog f args (bp 1 L B p e::aK L::(dY S++[])) v (bp 1 L B p' e'::aK L::(dY S'++[])):=by
  rw[List.append_nil,List.append_nil];exact hc
 have ht2:nth ((i::k::lF N [])++List.range' HS.length 0)=nth (i::k::lF N []):=by
  rw[List.range'_zero,List.append_nil]
 refine bT (i::k::lF N []) (i::k::lF N []) 0 hc' hnd (.cons hi (.flat hk (zO hS hN h3 h16 .nil))) (.cons (by simp[ak.ca,XC.ok]) (.flat (gM S _ (Nat.le_refl _) .nil))) (.cons (by simp[ak.ca,XC.ok]) (.flat (gM S' _ (Nat.le_refl _) .nil))) rfl ha hr (bC.ok _) (bC.ay _) ?_ rfl rfl hh hbd (.inl rfl)
 rw[ht2]
 exact .cons rfl (.flat (DH h3 h16 .nil))
end Go.Proofs.YtagpkhindehcbaaGreat
