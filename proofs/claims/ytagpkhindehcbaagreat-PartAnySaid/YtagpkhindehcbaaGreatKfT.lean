/-
  A part of the proof: TakeF, Take1, Take2, Heads, Begin, InPlace.
-/
import Derived.Test.YtagpkhindehcbaaGreatKfM
import Derived.Test.YtagpkhindehcbaaGreatKfP
import Derived.Test.YtagpkhindehcbaaGreatKfQ
import Derived.Test.YtagpkhindehcbaaGreatKfS
set_option maxRecDepth 10000
set_option maxHeartbeats 8000000
set_option linter.unusedVariables false
set_option linter.unusedSectionVars false
set_option linter.unusedSimpArgs false
namespace Go.Proofs.YtagpkhindehcbaaGreat
open Go.Xm
variable [ax]
def jw(S:bm)(B:List Bool)(r:Nat×Bool):Int×(Nat×Bool):=if S.inter=true then kK cM B r else(if cm B r=true then 4 else 3,bg B r)
def n5(n:Int):Int:=([-2,-1,1,2]:List Int).getD n.toNat 0
def Cq(S:bm)(B:List Bool)(k:Int×(Nat×Bool)):Int×(Nat×Bool):=
 if k.1=4 then(if S.qp+n5 (bG B 2 k.2).1<1\/31<S.qp+n5 (bG B 2 k.2).1 then(1,((bG B 2 k.2).2.1,true))else(S.qp+n5 (bG B 2 k.2).1,(bG B 2 k.2).2))else(S.qp,k.2)
def eP(S:bm)(B:List Bool)(r:Nat×Bool):gh:=
 ⟨{ly with kind:=(jw S B r).1,qp:=(Cq S B (jw S B r)).1},{S with qp:=(Cq S B (jw S B r)).1},(Cq S B (jw S B r)).2⟩
def rj(B:List Bool)(mb:Int)(x:gh)(k:Nat):gh:=
 ⟨{x.m with v:=km x.m.v k (oC B (b9 x.S.M x.S.cols x.S.rows mb k) x.r).1},{x.S with M:=aV x.S.M x.S.cols mb k (oC B (b9 x.S.M x.S.cols x.S.rows mb k) x.r).1},(oC B (b9 x.S.M x.S.cols x.S.rows mb k) x.r).2⟩
def ch(B:List Bool)(mb:Int)(x:gh):gh:=
 if x.m.kind=1 then⟨{x.m with v:=fun _=>(oC B (b9 x.S.M x.S.cols x.S.rows mb 0) x.r).1},x.S,(oC B (b9 x.S.M x.S.cols x.S.rows mb 0) x.r).2⟩
 else if x.m.kind=2 then rj B mb (rj B mb (rj B mb (rj B mb x 0) 1) 2) 3
 else⟨{x.m with edge:=cm B x.r},x.S,bg B x.r⟩
def bD(mb:Int)(x:gh):gh:=⟨x.m,aX x.S mb x.m.v,x.r⟩
def b6(B:List Bool)(mb:Int)(x:gh):gh:=if alone x.m=true then da B mb x 6 else x
def j6(p c:Int)(k:Nat):Bool:=if k<4 then decide (w_ .i64 p (8/2^k)≠0)else decide (w_ .u64 c (2/2^(k-4))≠0)
def v9(B:List Bool)(x:gh):gh×(Nat->Bool):=(⟨x.m,x.S,(bG B 2 (kK cP B x.r).2).2⟩,j6 (kK cP B x.r).1 (bG B 2 (kK cP B x.r).2).1)
def Kp(B:List Bool)(mb:Int)(x:gh):gh×(Nat->Bool):=if x.m.kind=0 then(bD mb x,pN)else v9 B (b6 B mb (bD mb (ch B mb x)))
def b_(S:bm)(B:List Bool)(mb:Int)(r:Nat×Bool):gh×(Nat->Bool):=Kp B mb (eP S B r)
abbrev vR(S:bm)(q:Int):bm:={S with qp:=q}
theorem EW{x:Int}(h:0<=x/\x<4):([.int .i64 (-2),.int .i64 (-1),.int .i64 1,.int .i64 2]:List XC)[(x%2^2).toNat]? = some (.int .i64 (n5 x)):=by
 have:x=0\/x=1\/x=2\/x=3:=by omega
 rcases this with rfl|rfl|rfl|rfl<;>rfl
theorem EX(x:Int) : -2<=n5 x/\n5 x<=2:=iy (p:=fun x => -2<=x/\x<=2) (by decide) (by decide) x.toNat
theorem DB(S:bm)(B:List Bool)(r:Nat×Bool):0<=(jw S B r).1/\(jw S B r).1<=4:=by
 unfold jw
 split
 ·exact oU (K:=4) (by decide) Oe B (cM.T.length/2) 0 r
 ·show 0<=(if cm B r=true then(4:Int)else 3)/\_<=(4:Int)
  split<;>omega
theorem E2(S:bm)(B:List Bool)(k:Int×(Nat×Bool))(hq : -1000000<=S.qp/\S.qp<=1000000) : -1000000<=(Cq S B k).1/\(Cq S B k).1<=1000000:=by
 unfold Cq
 split
 ·split
  ·show(-1000000:Int)<=1/\(1:Int)<=1000000;decide
  ·simp only[];omega
 ·exact hq
structure N5(x z:gh):Prop where
 cols:z.S.cols=x.S.cols
 rows:z.S.rows=x.S.rows
 qp:z.m.qp=x.m.qp
 kind:z.m.kind=x.m.kind
theorem G3(B:List Bool)(mb:Int)(x:gh):N5 x (ch B mb x):=by
 unfold ch
 split
 ·exact⟨rfl,rfl,rfl,rfl⟩
 ·split
  ·exact⟨rfl,rfl,rfl,rfl⟩
  ·exact⟨rfl,rfl,rfl,rfl⟩
theorem pv{L:List Int}{B:List Bool}(h:dp L B){r:Nat×Bool}{e:Int×Int}{t:(Int×Int)×(Nat×Bool)}(ht:oC B e r=t)(he:bI e){HS:aj}{i k:Nat}(hi:HS[i]? = some (bt k L B r.1 r.2))(hk:HS[k]? = some (aL L))(hd:i≠k){HS':aj}(hh:HS.set i (bt k L B t.2.1 t.2.2)=HS')(hbd:Nat.blt HS'.length Mem.bound=true) :
 aG.Sound Tryz.prog ⟨67,[.one (.ptr i 0),.one (cD e)],HS,.one (cD t.1),HS',[i]⟩:=by
 subst ht
 exact KM h r he hi hk hd hh hbd
theorem rQ(m:Mb)(h:Nat->Bool){k:Nat}(hk:k<4)(x:Int×Int):(fZ {m with v:=km m.v k x} h)[2+k]? = some (cD x):=by
 rw[Jf _ _ hk]
 exact congrArg (fun z=>some (cD z)) (if_pos rfl)
theorem M9{B:List Bool}{mb:Int}{X:gh}(hk:X.m.kind=1){t:(Int×Int)×(Nat×Bool)}(ht:oC B (b9 X.S.M X.S.cols X.S.rows mb 0) X.r=t):ch B mb X=⟨{X.m with v:=fun _=>t.1},X.S,t.2⟩:=by
 subst ht
 exact if_pos hk
abbrev RB(S:bm)(M:gm):bm:={S with M:=M}
abbrev V1(X:gh)(mb:Int)(t0:(Int×Int)×(Nat×Bool)):gm:=aV X.S.M X.S.cols mb 0 t0.1
abbrev V2(X:gh)(mb:Int)(t0 t1:(Int×Int)×(Nat×Bool)):gm:=aV (V1 X mb t0) X.S.cols mb 1 t1.1
abbrev V3(X:gh)(mb:Int)(t0 t1 t2:(Int×Int)×(Nat×Bool)):gm:=aV (V2 X mb t0 t1) X.S.cols mb 2 t2.1
abbrev V4(X:gh)(mb:Int)(t0 t1 t2 t3:(Int×Int)×(Nat×Bool)):gm:=aV (V3 X mb t0 t1 t2) X.S.cols mb 3 t3.1
abbrev X1(X:gh)(t0:(Int×Int)×(Nat×Bool)):Mb:={X.m with v:=km X.m.v 0 t0.1}
abbrev X2(X:gh)(t0 t1:(Int×Int)×(Nat×Bool)):Mb:={X.m with v:=km (km X.m.v 0 t0.1) 1 t1.1}
abbrev X3(X:gh)(t0 t1 t2:(Int×Int)×(Nat×Bool)):Mb:={X.m with v:=km (km (km X.m.v 0 t0.1) 1 t1.1) 2 t2.1}
abbrev X4(X:gh)(t0 t1 t2 t3:(Int×Int)×(Nat×Bool)):Mb:={X.m with v:=km (km (km (km X.m.v 0 t0.1) 1 t1.1) 2 t2.1) 3 t3.1}
theorem M_{B:List Bool}{mb:Int}{X:gh}(hk:X.m.kind=2){t0 t1 t2 t3:(Int×Int)×(Nat×Bool)}(h0:oC B (b9 X.S.M X.S.cols X.S.rows mb 0) X.r=t0)(h1:oC B (b9 (V1 X mb t0) X.S.cols X.S.rows mb 1) t0.2=t1)(h2:oC B (b9 (V2 X mb t0 t1) X.S.cols X.S.rows mb 2) t1.2=t2)(h3:oC B (b9 (V3 X mb t0 t1 t2) X.S.cols X.S.rows mb 3) t2.2=t3) :
 ch B mb X=⟨X4 X t0 t1 t2 t3,RB X.S (V4 X mb t0 t1 t2 t3),t3.2⟩:=by
 subst h3 h2 h1 h0
 unfold ch
 rw[if_neg (by rw[hk];decide),if_pos hk]
 rfl
theorem E0{B:List Bool}{mb:Int}{X:gh}(h1:X.m.kind≠1)(h2:X.m.kind≠2):ch B mb X=⟨{X.m with edge:=cm B X.r},X.S,bg B X.r⟩:=by
 unfold ch
 rw[if_neg h1,if_neg h2]
end Go.Proofs.YtagpkhindehcbaaGreat
namespace Go.Xm
variable [ax]
variable {P:Program} {ops:Array Oper} {nt nI:Nat} {al:bl} {hs:aj} {o:Oper} {l:List Oper} {L:List aG} {K:List Ab->bl->aj->Prop} {d:Nat}
theorem cN{t t':TypeId}{a b:Operand}{k:IntKind}{x y:Int}(hk:∀z,decide (x≠y)=z->SK P ops nt L l ((d,.one (.bool z))::al) hs fun bs=>K (quiet::bs))(ho:o.op = .binOp .neq t a b t':=by exact rfl)(hw:av ops (rg al) o=some true:=by exact rfl)(hd:o.dst=some d:=by exact rfl)(hlt:Nat.blt d nt=true:=by exact rfl)(ha:ai (rg al) a = .one (.int k x):=by exact rfl)(hb:ai (rg al) b = .one (.int k y):=by exact rfl):SK P ops nt L (o::l) al hs K:=
 zB ho hw hd hlt ha hb (show CI .neq x y=some (x≠y)from rfl) (fun h=>hk true (decide_eq_true h)) (fun h=>hk false (decide_eq_false h))
theorem WX.zg(id:Nat){σ : Type}{ops:Array Oper}{dr:Bool}{x b:Code}{K:dM}(R : σ->bl)(H : σ->aj)(I : σ->Prop)(hok:∀s,I s->Cw nI (R s) (H s))(h1:True->WX P nt nI (.code (.seq (.region id ops dr) x)) al hs fun e al1 hs1=>e = .normal/\∃s τl,I s/\GoTo nI al1 hs1 (R s) (H s) τl)
 (h2:∀s,I s->WX P nt nI (.code b) (R s) (H s) K):WX P nt nI (.code (.seq (.seq (.region id ops dr) x) b)) al hs K:=WX.meet R H I hok (h1 trivial) h2
end Go.Xm
namespace Go.Proofs.YtagpkhindehcbaaGreat
open Go.Xm
variable [ax]
theorem Mp(m:Mb)(h:Nat->Bool){b0 b1 b2 b3 b4 b5:Bool}(e0:h 0=b0)(e1:h 1=b1)(e2:h 2=b2)(e3:h 3=b3)(e4:h 4=b4)(e5:h 5=b5):((((((fZ m pN).set 391 (.bool b0)).set 392 (.bool b1)).set 393 (.bool b2)).set 394 (.bool b3)).set 395 (.bool b4)).set 396 (.bool b5)=fZ m h:=by
 subst e0 e1 e2 e3 e4 e5
 rw[<-Je m h,pO m h (j:=0) (by decide),pO m h (j:=1) (by decide),pO m h (j:=2) (by decide),pO m h (j:=3) (by decide),pO m h (j:=4) (by decide),pO m h (j:=5) (by decide),Mo]
theorem Md:∀a:Fin 16,decide (w_ .i64 (a.val:Int) (8/2^3)≠0)=decide ((a.val:Int)%2^1≠0):=by decide +kernel
theorem Mc:∀a:Fin 4,decide (w_ .u64 (a.val:Int) (2/2^1)≠0)=decide ((a.val:Int)%2^1≠0):=by decide +kernel
theorem Rq{p c:Int}(h:0<=p/\p<=15):j6 p c 3=decide (p%2^1≠0):=by
 have:=Md ⟨p.toNat,by omega⟩
 simp only[Int.toNat_of_nonneg h.1]at this
 exact this
theorem Rr{p c:Int}(h:0<=c/\c<2^2):j6 p c 5=decide (c%2^1≠0):=by
 have:=Mc ⟨c.toNat,by omega⟩
 simp only[Int.toNat_of_nonneg h.1]at this
 exact this
theorem Ij{C:Cd}(hC:w4 C){L:List Int}{B:List Bool}(h:dp L B){r:Nat×Bool}{q:Int×(Nat×Bool)}(hq:kK C B r=q){HS:aj}{i k c a b t:Nat}(hi:HS[i]? = some (bt k L B r.1 r.2))(hk:HS[k]? = some (aL L))(hc:HS[c]? = some (aw a b t C))(ha:HS[a]? = some (aR C))(hb:HS[b]? = some (aT C))(ht:HS[t]? = some (aS C))(hd : [i,k,c,a,b,t].Nodup){HS':aj}(hh:HS.set i (bt k L B q.2.1 q.2.2)=HS')(hbd:Nat.blt HS'.length Mem.bound=true) :
 aG.Sound Tryz.prog ⟨63,[.one (.ptr c 0),.one (.ptr i 0)],HS,.one (.int .i64 q.1),HS',[i]⟩:=by
 subst hq
 exact uN hC h r hi hk hc ha hb ht hd hh hbd
theorem JE{L:List Int}{B:List Bool}(h:dp L B){r:Nat×Bool}{n:Nat}{q:Int×(Nat×Bool)}(hq:bG B n r=q){z:Int}(hz:z=(n:Nat))(hn:n<=32){HS:aj}{i k:Nat}(hi:HS[i]? = some (bt k L B r.1 r.2))(hk:HS[k]? = some (aL L))(hd:i≠k){HS':aj}(hh:HS.set i (bt k L B q.2.1 q.2.2)=HS')(hbd:Nat.blt HS'.length Mem.bound=true) :
 aG.Sound Tryz.prog ⟨65,[.one (.ptr i 0),.one (.int .i64 z)],HS,.one (.int .u64 q.1),HS',[i]⟩:=by
 subst hq
 exact rT h r hz hn hi hk hd hh hbd
theorem Kj{L : List Int}{B:List Bool}(hB:dp L B)(S:bm)(r:Nat×Bool)(mb:Int)(hD:gR S.cols S.rows)(hT:cj S.M)(hmb:0<=mb/\mb<S.cols*S.rows)(hq : -1000000<=S.qp/\S.qp<=1000000) :
 bh Tryz.prog 34 [.one (.ptr 2 0),.one (.ptr 0 0),.one (.int .i64 mb)] [bt 1 L B r.1 r.2,aL L,dJ (S),bM 4 8 12,aw 5 6 7 cM,aR cM,aT cM,aS cM,aw 9 10 11 cZ,aR cZ,aT cZ,aS cZ,aw 13 14 15 cP,aR cP,aT cP,aS cP,cn 17 (S).cols (S).rows,.map (ba (S).M),.cells [.int .i64 (S).cols,.int .i64 (S).rows,.map 19,.map 20,.map 21] 171 false false,.map (ag (S).A),.map (ag (S).B),.map (ag (S).C)] (.agg (fZ (b_ S B mb r).1.m (b_ S B mb r).2)) [bt 1 L B (b_ S B mb r).1.r.1 (b_ S B mb r).1.r.2,aL L,dJ ((b_ S B mb r).1.S),bM 4 8 12,aw 5 6 7 cM,aR cM,aT cM,aS cM,aw 9 10 11 cZ,aR cZ,aT cZ,aS cZ,aw 13 14 15 cP,aR cP,aT cP,aS cP,cn 17 ((b_ S B mb r).1.S).cols ((b_ S B mb r).1.S).rows,.map (ba ((b_ S B mb r).1.S).M),.cells [.int .i64 ((b_ S B mb r).1.S).cols,.int .i64 ((b_ S B mb r).1.S).rows,.map 19,.map 20,.map 21] 171 false false,.map (ag ((b_ S B mb r).1.S).A),.map (ag ((b_ S B mb r).1.S).B),.map (ag ((b_ S B mb r).1.S).C)]:=by
 obtain⟨y,hy⟩:∃y,b_ S B mb r=y:=⟨_,rfl⟩
 rw[hy]
 have hkr:=DB S B r
 obtain⟨b,hin⟩:∃b,S.inter=b:=⟨_,rfl⟩
 have hl2:=rY hin
 refine cO Tryz.func34 ?_
 repeat' (first
  |(refine qz ?_;first
   |refine ld (hc:=hl2) ?_
   |refine tR (zs:=fZ ly pN) (hz:=Ag) ?_
   |refine b0 (zs:=fZ ly pN) (hz:=Ag) ?_
   |refine kj (cs:=fZ ly pN) ?_ (hs1:=by rw[ca]) (hs2:=by rw[ca]))
  |refine WX.I9 2 (σ:=Int×(Nat×Bool)) (fun s=>[(0,.one (.ptr 2 0)),(1,.one (.ptr 0 0)),(2,.one (.int .i64 mb)),(6,.one (.ptr 22 0)),(7,.one (.ptr 23 0))]) (fun s=>[bt 1 L B s.2.1 s.2.2,aL L,dJ (S),bM 4 8 12,aw 5 6 7 cM,aR cM,aT cM,aS cM,aw 9 10 11 cZ,aR cZ,aT cZ,aS cZ,aw 13 14 15 cP,aR cP,aT cP,aS cP,cn 17 (S).cols (S).rows,.map (ba (S).M),.cells [.int .i64 (S).cols,.int .i64 (S).rows,.map 19,.map 20,.map 21] 171 false false,.map (ag (S).A),.map (ag (S).B),.map (ag (S).C),.cells (fZ ly pN) 56 false false,.cells (fZ {ly with kind:=s.1} pN) 56 false false]) (fun s=>jw S B r=s) (fun s _=>lD) ?_ ?_|refine zz ?_|refine zx (fun _=>?_) (fun _=>?_)|fail)
 ·cases b
  ·have e0:jw S B r=(if cm B r=true then 4 else 3,bg B r):=if_neg (by rw[hin];decide)
   repeat' (first
    |(refine qz ?_;first
     |refine uK (fun gb=>?_) (fun gb=>?_) (hi:=by exact rU hB r rfl rfl (by decide) nL rfl)
     |refine st ?_ (hle:=by rw[ca];omega) (hv:=Bk _ _ _))
    |refine zz ?_|refine zx (fun _=>?_) (fun _=>?_)|fail)
   ·rename_i gb
    rw[if_pos gb]at e0
    first|exact⟨(4,bg B r),_,e0,(cG [0,1,2,3,4,5,6,7,8,9,10,11,12,13,14,15,16,17,18,19,20,21,22,23])⟩|exact⟨rfl,(4,bg B r),_,e0,(cG [0,1,2,3,4,5,6,7,8,9,10,11,12,13,14,15,16,17,18,19,20,21,22,23])⟩
   ·rename_i gb
    rw[if_neg (by rw[gb];decide)]at e0
    first|exact⟨(3,bg B r),_,e0,(cG [0,1,2,3,4,5,6,7,8,9,10,11,12,13,14,15,16,17,18,19,20,21,22,23])⟩|exact⟨rfl,(3,bg B r),_,e0,(cG [0,1,2,3,4,5,6,7,8,9,10,11,12,13,14,15,16,17,18,19,20,21,22,23])⟩
  ·have e0:jw S B r=kK cM B r:=if_pos hin
   rw[e0]at hkr
   repeat' (first
    |(refine qz ?_;first
     |refine cl ?_ (hi:=by exact uN AD hB r (i:=0) (k:=1) (c:=4) (a:=5) (b:=6) (t:=7) rfl rfl rfl rfl rfl rfl (by decide) nL rfl)
     |refine st ?_ (hle:=by rw[ca];omega) (hv:=Bk _ _ _))
    |refine zz ?_|refine zx (fun _=>?_) (fun _=>?_)|fail)
   first|exact⟨kK cM B r,_,e0,(cG [0,1,2,3,4,5,6,7,8,9,10,11,12,13,14,15,16,17,18,19,20,21,22,23])⟩|exact⟨rfl,kK cM B r,_,e0,(cG [0,1,2,3,4,5,6,7,8,9,10,11,12,13,14,15,16,17,18,19,20,21,22,23])⟩
 ·intro s hs
  rw[hs]at hkr
  have hn:=iL B 2 s.2
  have hst:=EX (bG B 2 s.2).1
  refine WX.I9 7 (σ:=Int×(Nat×Bool)) (fun x=>[(0,.one (.ptr 2 0)),(1,.one (.ptr 0 0)),(2,.one (.int .i64 mb)),(6,.one (.ptr 22 0)),(7,.one (.ptr 23 0))]) (fun x=>[bt 1 L B x.2.1 x.2.2,aL L,dJ (vR S x.1),bM 4 8 12,aw 5 6 7 cM,aR cM,aT cM,aS cM,aw 9 10 11 cZ,aR cZ,aT cZ,aS cZ,aw 13 14 15 cP,aR cP,aT cP,aS cP,cn 17 (vR S x.1).cols (vR S x.1).rows,.map (ba (vR S x.1).M),.cells [.int .i64 (vR S x.1).cols,.int .i64 (vR S x.1).rows,.map 19,.map 20,.map 21] 171 false false,.map (ag (vR S x.1).A),.map (ag (vR S x.1).B),.map (ag (vR S x.1).C),.cells (fZ ly pN) 56 false false,.cells (fZ {ly with kind:=s.1} pN) 56 false false]) (fun x=>Cq S B s=x) (fun x _=>lD) ?_ ?_
  ·by_cases h4:s.1=4
   ·by_cases hb:S.qp+n5 (bG B 2 s.2).1<1\/31<S.qp+n5 (bG B 2 s.2).1
    ·have e0:Cq S B s=(1,((bG B 2 s.2).2.1,true)):=by unfold Cq;rw[if_pos h4,if_pos hb]
     repeat' (first
      |(refine qz ?_;first
       |refine ld (c := .int .u8 s.1) ?_ (hc:=fH _ _)
       |refine cl ?_ (hi:=by exact po rfl)
       |refine cl ?_ (hi:=by exact rT hB s.2 (n:=2) rfl (by decide) rfl rfl (by decide) nL rfl)
       |refine an 2 ?_
       |refine xc ?_ (hc:=EW hn)
       |refine cl ?_ (hi:=by exact gG (p:=(bG B 2 s.2).2.1) (e:=(bG B 2 s.2).2.2) rfl rfl (by decide) nL rfl))
      |refine zz ?_|refine zx (fun _=>?_) (fun _=>?_)|fail)
     all_goals first|exact⟨(1,((bG B 2 s.2).2.1,true)),_,e0,(cG [0,1,2,3,4,5,6,7,8,9,10,11,12,13,14,15,16,17,18,19,20,21,22,23])⟩|exact⟨rfl,(1,((bG B 2 s.2).2.1,true)),_,e0,(cG [0,1,2,3,4,5,6,7,8,9,10,11,12,13,14,15,16,17,18,19,20,21,22,23])⟩
    ·have e0:Cq S B s=(S.qp+n5 (bG B 2 s.2).1,(bG B 2 s.2).2):=by unfold Cq;rw[if_pos h4,if_neg hb]
     repeat' (first
      |(refine qz ?_;first
       |refine ld (c := .int .u8 s.1) ?_ (hc:=fH _ _)
       |refine cl ?_ (hi:=by exact po rfl)
       |refine cl ?_ (hi:=by exact rT hB s.2 (n:=2) rfl (by decide) rfl rfl (by decide) nL rfl)
       |refine an 2 ?_
       |refine xc ?_ (hc:=EW hn))
      |refine zz ?_|refine zx (fun _=>?_) (fun _=>?_)|fail)
     all_goals first|exact⟨(S.qp+n5 (bG B 2 s.2).1,(bG B 2 s.2).2),_,e0,(cG [0,1,2,3,4,5,6,7,8,9,10,11,12,13,14,15,16,17,18,19,20,21,22,23])⟩|exact⟨rfl,(S.qp+n5 (bG B 2 s.2).1,(bG B 2 s.2).2),_,e0,(cG [0,1,2,3,4,5,6,7,8,9,10,11,12,13,14,15,16,17,18,19,20,21,22,23])⟩
   ·have e0:Cq S B s=(S.qp,s.2):=if_neg h4
    repeat' (first
     |(refine qz ?_;first
      |refine ld (c := .int .u8 s.1) ?_ (hc:=fH _ _))
     |refine zz ?_|refine zx (fun _=>?_) (fun _=>?_)|fail)
    all_goals first|exact⟨(S.qp,s.2),_,e0,(cG [0,1,2,3,4,5,6,7,8,9,10,11,12,13,14,15,16,17,18,19,20,21,22,23])⟩|exact⟨rfl,(S.qp,s.2),_,e0,(cG [0,1,2,3,4,5,6,7,8,9,10,11,12,13,14,15,16,17,18,19,20,21,22,23])⟩
  ·intro x hx
   obtain⟨X,hX⟩:∃X:gh,X=⟨{ly with kind:=s.1,qp:=x.1},vR S x.1,x.2⟩:=⟨_,rfl⟩
   have hH:eP S B r=X:=by rw[hX];unfold eP;rw[hs,hx]
   have hF:Kp B mb X=y:=by rw[<-hH];exact hy
   have hDX:gR X.S.cols X.S.rows:=by rw[hX];exact hD
   have hmX:0<=mb/\mb<X.S.cols*X.S.rows:=by rw[hX];exact hmb
   have hTX:cj X.S.M:=by rw[hX];exact hT
   have hkX:X.m.kind=s.1:=by rw[hX]
   have hvq:(fZ {ly with kind:=s.1} pN).set 1 (.int .i64 x.1)=fZ X.m pN:=by rw[hX];exact ON _ _ _
   have hS0:vR S x.1=X.S:=by rw[hX]
   have hr0:x.2=X.r:=by rw[hX]
   rw[hS0,hr0]
   have hl3:(JP X.S)[5]? = some (.int .i64 x.1):=by rw[hX];rfl
   have hqX : -1000000<=X.m.qp/\X.m.qp<=1000000:=by rw[hX];show -1000000<=x.1/\x.1<=1000000;rw[<-hx];exact E2 S B s hq
   clear hX
   by_cases h0:s.1=0
   ·have e1:Kp B mb X=(bD mb X,pN):=if_pos (hkX.trans h0)
    rw[<-hF,e1]
    repeat' (first
     |(refine qz ?_;first
      |refine ld ?_ (hc:=hl3)
      |refine st ?_ (hle:=by rw[ca];omega) (hv:=hvq)
      |refine ld (c := .int .u8 s.1) ?_ (hc:=by rw[<-hkX];exact fH _ _)
      |refine t_ (cs:=mC X.m) ?_ (hle:=by rw[ca];omega) (hc:=uc _ _)
      |refine cl ?_ (hi:=by exact BE (S:=X.S) (mb:=mb) (m:=X.m) hDX hmX rfl rfl rfl nA rfl)
      |refine fG ?_ (hle:=by rw[ca])
      |refine kj (cs:=fZ X.m pN) ?_ (hs1:=by rw[ca]) (hs2:=by rw[ca]))
     |refine zz ?_|refine zx (fun _=>?_) (fun _=>?_)|fail)
    show aC _ _ _ _ _ _ _ _;refine kV [0,1,2,3,4,5,6,7,8,9,10,11,12,13,14,15,16,17,18,19,20,21] ?_
    rfl
   ·have e1 : Kp B mb X=v9 B (b6 B mb (bD mb (ch B mb X))):=if_neg (by rw[hkX];exact h0)
    repeat' (first
     |(refine qz ?_;first
      |refine ld ?_ (hc:=hl3)
      |refine st ?_ (hle:=by rw[ca];omega) (hv:=hvq)
      |refine ld (c := .int .u8 s.1) ?_ (hc:=by rw[<-hkX];exact fH _ _))
     |refine WX.zg 13 (σ:=gh) (fun z=>[(0,.one (.ptr 2 0)),(1,.one (.ptr 0 0)),(2,.one (.int .i64 mb)),(6,.one (.ptr 22 0)),(7,.one (.ptr 23 0))]) (fun z=>[bt 1 L B z.r.1 z.r.2,aL L,dJ (z.S),bM 4 8 12,aw 5 6 7 cM,aR cM,aT cM,aS cM,aw 9 10 11 cZ,aR cZ,aT cZ,aS cZ,aw 13 14 15 cP,aR cP,aT cP,aS cP,cn 17 (z.S).cols (z.S).rows,.map (ba (z.S).M),.cells [.int .i64 (z.S).cols,.int .i64 (z.S).rows,.map 19,.map 20,.map 21] 171 false false,.map (ag (z.S).A),.map (ag (z.S).B),.map (ag (z.S).C),.cells (fZ ly pN) 56 false false,.cells (fZ z.m pN) 56 false false]) (fun z=>ch B mb X=z) (fun z _=>lD) ?_ ?_|refine zz ?_|refine zx (fun _=>?_) (fun _=>?_)|fail)
    ·intro _
     by_cases h1:s.1=1
     ·obtain⟨t,ht⟩:∃t,oC B (b9 X.S.M X.S.cols X.S.rows mb 0) X.r=t:=⟨_,rfl⟩
      have e2:=M9 (hkX.trans h1) ht
      repeat' (first
       |(refine qz ?_;first
        |refine ld (c := .int .u8 s.1) ?_ (hc:=by rw[<-hkX];exact fH _ _)
        |refine cl ?_ (hi:=by exact fP (M:=X.S.M) (k:=0) hTX hDX hmX (by decide) (i:=16) (j:=17) rfl rfl (by decide) rfl)
        |refine cl ?_ (hi:=by exact pv hB (r:=X.r) ht (dk hTX) rfl rfl (by decide) nL rfl)
        |refine PR (off:=2) (s:=4) ?_ (hs2:=by rw[ca];omega) (hv:=OO X.m pN t.1))
       |refine zz ?_|refine zx (fun _=>?_) (fun _=>?_)|fail)
      first|exact⟨_,_,e2,(cG [0,1,2,3,4,5,6,7,8,9,10,11,12,13,14,15,16,17,18,19,20,21,22,23])⟩|exact⟨rfl,_,_,e2,(cG [0,1,2,3,4,5,6,7,8,9,10,11,12,13,14,15,16,17,18,19,20,21,22,23])⟩
     ·by_cases h2:s.1=2
      ·obtain⟨uu0,e0⟩:∃t,oC B (b9 X.S.M X.S.cols X.S.rows mb 0) X.r=t:=⟨_,rfl⟩
       obtain⟨uu1,e1⟩:∃t,oC B (b9 (V1 X mb uu0) X.S.cols X.S.rows mb 1) uu0.2=t:=⟨_,rfl⟩
       obtain⟨uu2,e2⟩:∃t,oC B (b9 (V2 X mb uu0 uu1) X.S.cols X.S.rows mb 2) uu1.2=t:=⟨_,rfl⟩
       obtain⟨uu3,e3⟩:∃t,oC B (b9 (V3 X mb uu0 uu1 uu2) X.S.cols X.S.rows mb 3) uu2.2=t:=⟨_,rfl⟩
       have ez:=M_ (hkX.trans h2) e0 e1 e2 e3
       have T0:=hTX
       have T1:cj (V1 X mb uu0):=bL T0 (e0▸m6 _ _ _)
       have T2:cj (V2 X mb uu0 uu1):=bL T1 (e1▸m6 _ _ _)
       have T3:cj (V3 X mb uu0 uu1 uu2):=bL T2 (e2▸m6 _ _ _)
       repeat' (first
        |(refine qz ?_;first
         |refine ld (c := .int .u8 s.1) ?_ (hc:=by rw[<-hkX];exact fH _ _)
         |refine cl ?_ (hi:=by exact fP (M:=X.S.M) (k:=0) T0 hDX hmX (by decide) (i:=16) (j:=17) rfl rfl (by decide) rfl)
         |refine cl ?_ (hi:=by exact pv hB (r:=X.r) e0 (dk T0) rfl rfl (by decide) nL rfl)
         |refine st ?_ (hle:=by rw[ca];omega) (hv:=EB X.m pN (k:=0) (by decide) uu0.1)
         |refine ld ?_ (hc:=rQ X.m pN (k:=0) (by decide) uu0.1)
         |refine cl ?_ (hi:=by exact dF (M:=X.S.M) (k:=0) (v:=uu0.1) hDX hmX (by decide) (i:=16) (j:=17) rfl rfl (by decide) nA rfl)
         |refine cl ?_ (hi:=by exact fP (M:=V1 X mb uu0) (k:=1) T1 hDX hmX (by decide) (i:=16) (j:=17) rfl rfl (by decide) rfl)
         |refine cl ?_ (hi:=by exact pv hB (r:=uu0.2) e1 (dk T1) rfl rfl (by decide) nL rfl)
         |refine st ?_ (hle:=by rw[ca];omega) (hv:=EB (X1 X uu0) pN (k:=1) (by decide) uu1.1)
         |refine ld ?_ (hc:=rQ (X1 X uu0) pN (k:=1) (by decide) uu1.1)
         |refine cl ?_ (hi:=by exact dF (M:=V1 X mb uu0) (k:=1) (v:=uu1.1) hDX hmX (by decide) (i:=16) (j:=17) rfl rfl (by decide) nA rfl)
         |refine cl ?_ (hi:=by exact fP (M:=V2 X mb uu0 uu1) (k:=2) T2 hDX hmX (by decide) (i:=16) (j:=17) rfl rfl (by decide) rfl)
         |refine cl ?_ (hi:=by exact pv hB (r:=uu1.2) e2 (dk T2) rfl rfl (by decide) nL rfl)
         |refine st ?_ (hle:=by rw[ca];omega) (hv:=EB (X2 X uu0 uu1) pN (k:=2) (by decide) uu2.1)
         |refine ld ?_ (hc:=rQ (X2 X uu0 uu1) pN (k:=2) (by decide) uu2.1)
         |refine cl ?_ (hi:=by exact dF (M:=V2 X mb uu0 uu1) (k:=2) (v:=uu2.1) hDX hmX (by decide) (i:=16) (j:=17) rfl rfl (by decide) nA rfl)
         |refine cl ?_ (hi:=by exact fP (M:=V3 X mb uu0 uu1 uu2) (k:=3) T3 hDX hmX (by decide) (i:=16) (j:=17) rfl rfl (by decide) rfl)
         |refine cl ?_ (hi:=by exact pv hB (r:=uu2.2) e3 (dk T3) rfl rfl (by decide) nL rfl)
         |refine st ?_ (hle:=by rw[ca];omega) (hv:=EB (X3 X uu0 uu1 uu2) pN (k:=3) (by decide) uu3.1)
         |refine ld ?_ (hc:=rQ (X3 X uu0 uu1 uu2) pN (k:=3) (by decide) uu3.1)
         |refine cl ?_ (hi:=by exact dF (M:=V3 X mb uu0 uu1 uu2) (k:=3) (v:=uu3.1) hDX hmX (by decide) (i:=16) (j:=17) rfl rfl (by decide) nA rfl))
        |refine WX.loop ?_|refine WX.round ?_|refine zz ?_|refine zx (fun _=>?_) (fun _=>?_)|fail)
       first|exact⟨_,_,ez,(cG [0,1,2,3,4,5,6,7,8,9,10,11,12,13,14,15,16,17,18,19,20,21,22,23])⟩|exact⟨rfl,_,_,ez,(cG [0,1,2,3,4,5,6,7,8,9,10,11,12,13,14,15,16,17,18,19,20,21,22,23])⟩
      ·have ez:=E0 (B:=B) (mb:=mb) (show X.m.kind≠1 from fun h=>h1 (hkX.symm.trans h)) (show X.m.kind≠2 from fun h=>h2 (hkX.symm.trans h))
       repeat' (first
        |(refine qz ?_;first
         |refine ld (c := .int .u8 s.1) ?_ (hc:=by rw[<-hkX];exact fH _ _)
         |refine cl ?_ (hi:=by exact rU hB X.r rfl rfl (by decide) nL rfl)
         |refine st ?_ (hle:=by rw[ca];omega) (hv:=Jd _ _ _))
        |refine zz ?_|refine zx (fun _=>?_) (fun _=>?_)|fail)
       first|exact⟨_,_,ez,(cG [0,1,2,3,4,5,6,7,8,9,10,11,12,13,14,15,16,17,18,19,20,21,22,23])⟩|exact⟨rfl,_,_,ez,(cG [0,1,2,3,4,5,6,7,8,9,10,11,12,13,14,15,16,17,18,19,20,21,22,23])⟩
    ·intro z hz
     have hz0:=G3 B mb X
     rw[hz]at hz0
     have hDz:gR z.S.cols z.S.rows:=by rw[hz0.cols,hz0.rows];exact hDX
     have hmz:0<=mb/\mb<z.S.cols*z.S.rows:=by rw[hz0.cols,hz0.rows];exact hmX
     have hqz : -1000000<=z.m.qp/\z.m.qp<=1000000:=by rw[hz0.qp];exact hqX
     repeat' (first
      |(refine qz ?_;first
       |refine t_ (cs:=mC z.m) ?_ (hle:=by rw[ca];omega) (hc:=uc _ _))
      |refine zz ?_|refine zx (fun _=>?_) (fun _=>?_)|fail)
     refine cl ?_ (hi:=by exact BE (S:=z.S) (mb:=mb) (m:=z.m) (r:=z.r) hDz hmz rfl rfl rfl nA rfl)
     repeat' (first|refine WX.I9 29 (σ:=gh) (fun w=>[(0,.one (.ptr 2 0)),(1,.one (.ptr 0 0)),(2,.one (.int .i64 mb)),(6,.one (.ptr 22 0)),(7,.one (.ptr 23 0))]) (fun w=>[bt 1 L B w.r.1 w.r.2,aL L,dJ (w.S),bM 4 8 12,aw 5 6 7 cM,aR cM,aT cM,aS cM,aw 9 10 11 cZ,aR cZ,aT cZ,aS cZ,aw 13 14 15 cP,aR cP,aT cP,aS cP,cn 17 (w.S).cols (w.S).rows,.map (ba (w.S).M),.cells [.int .i64 (w.S).cols,.int .i64 (w.S).rows,.map 19,.map 20,.map 21] 171 false false,.map (ag (w.S).A),.map (ag (w.S).B),.map (ag (w.S).C),.cells (fZ ly pN) 56 false false,.cells (fZ w.m pN) 56 false false]) (fun w=>b6 B mb (bD mb z)=w) (fun w _=>lD) ?_ ?_|refine zz ?_|refine zx (fun _=>?_) (fun _=>?_)|fail)
     ·repeat' (first
       |(refine qz ?_;first
        |refine t_ (cs:=mC z.m) ?_ (hle:=by rw[ca];omega) (hc:=uc _ _)
        |refine uK (fun ga=>?_) (fun ga=>?_) (hi:=by exact oO (m:=z.m) rfl)
        |refine cl ?_ (hi:=by exact FM hB (x:=bD mb z) (hs:=pN) (mb:=mb) hDz hmz hqz rfl rfl rfl rfl nA rfl))
       |refine zz ?_|refine zx (fun _=>?_) (fun _=>?_)|fail)
      ·rename_i ga
       have e3:b6 B mb (bD mb z)=da B mb (bD mb z) 6:=if_pos ga
       first|exact⟨da B mb (bD mb z) 6,_,e3,(cG [0,1,2,3,4,5,6,7,8,9,10,11,12,13,14,15,16,17,18,19,20,21,22,23])⟩|exact⟨rfl,da B mb (bD mb z) 6,_,e3,(cG [0,1,2,3,4,5,6,7,8,9,10,11,12,13,14,15,16,17,18,19,20,21,22,23])⟩
      ·rename_i ga
       have e3:b6 B mb (bD mb z)=bD mb z:=if_neg (by show¬alone z.m=true;rw[ga];decide)
       first|exact⟨bD mb z,_,e3,(cG [0,1,2,3,4,5,6,7,8,9,10,11,12,13,14,15,16,17,18,19,20,21,22,23])⟩|exact⟨rfl,bD mb z,_,e3,(cG [0,1,2,3,4,5,6,7,8,9,10,11,12,13,14,15,16,17,18,19,20,21,22,23])⟩
     ·intro w hw
      have e4:y=v9 B w:=by rw[<-hF,e1,hz,hw]
      have hp:0<=(kK cP B w.r).1/\(kK cP B w.r).1<=15:=oU (K:=15) (by decide) Of B (cP.T.length/2) 0 w.r
      have hc:=iL B 2 (kK cP B w.r).2
      have e5:v9 B w=(⟨w.m,w.S,(bG B 2 (kK cP B w.r).2).2⟩,j6 (kK cP B w.r).1 (bG B 2 (kK cP B w.r).2).1):=rfl
      obtain⟨p,hpp⟩:∃p,kK cP B w.r=p:=⟨_,rfl⟩
      rw[hpp]at hp hc e5
      obtain⟨c,hcc⟩:∃c,bG B 2 p.2=c:=⟨_,rfl⟩
      rw[hcc]at hc e5
      repeat' (first
       |(refine qz ?_;first
        |refine cl ?_ (hi:=by exact Ij Ef hB hpp (i:=0) (k:=1) (c:=12) (a:=13) (b:=14) (t:=15) rfl rfl rfl rfl rfl rfl (by decide) nL rfl)
        |refine cl ?_ (hi:=by exact JE hB hcc rfl (by decide) rfl rfl (by decide) nL rfl)
        |refine st ?_ (hle:=by simp only[List.length_set,ca];omega) (hv:=rfl)
        |refine fG ?_ (hle:=by simp only[List.length_set,ca])
        |refine kj ?_ (hs1:=by simp only[List.length_set,ca]) (hs2:=by rw[ca])
        |refine cN (fun bb hbb=>?_))
       |refine WX.loop ?_|refine WX.round ?_|refine zz ?_|refine zx (fun _=>?_) (fun _=>?_)|fail)
      rw[e4,e5]
      rename_i b0 g0 b1 g1 b2 g2 b3 g3 b4 g4
      have h0':j6 p.1 c.1 0=b0:=g0
      have h1':j6 p.1 c.1 1=b1:=g1
      have h2':j6 p.1 c.1 2=b2:=g2
      have h3':j6 p.1 c.1 3=b3:=(Rq hp).trans g3
      have h4':j6 p.1 c.1 4=b4:=g4
      have h5':j6 p.1 c.1 5=bb:=(Rr hc).trans hbb
      rw[Mp w.m (j6 p.1 c.1) h0' h1' h2' h3' h4' h5']
      show aC _ _ _ _ _ _ _ _;refine kV [0,1,2,3,4,5,6,7,8,9,10,11,12,13,14,15,16,17,18,19,20,21] ?_
      all_goals rfl
instance Rm (m:Mb) (h:Nat->Bool):bE (.agg (fZ m h)):=fw (vq m h)
structure uz(x:gh)(c r:Int):Prop where
 cols:x.S.cols=c
 rows:x.S.rows=r
 tiny:cj x.S.M
 qp : -1000000<=x.S.qp/\x.S.qp<=1000000
 v:∀k,bI (x.m.v k)
theorem Ko:bI (0,0):=⟨by unfold fV;omega,by unfold fV;omega⟩
theorem G5{S:bm}{B:List Bool}{r:Nat×Bool}(hT:cj S.M)(hq : -1000000<=S.qp/\S.qp<=1000000):uz (eP S B r) S.cols S.rows:=
 ⟨rfl,rfl,hT,E2 S B _ hq,fun _=>Ko⟩
theorem zJ{x:gh}{c r:Int}(h:uz x c r)(B:List Bool)(mb:Int)(k:Nat):uz (rj B mb x k) c r:=
 ⟨h.cols,h.rows,bL h.tiny (m6 _ _ _),h.qp,fun j=>by
  show bI (if j=k then _ else x.m.v j)
  split
  ·exact m6 _ _ _
  ·exact h.v j⟩
theorem G4{x:gh}{c r:Int}(h:uz x c r)(B:List Bool)(mb:Int):uz (ch B mb x) c r:=by
 unfold ch
 split
 ·exact⟨h.cols,h.rows,h.tiny,h.qp,fun j=>m6 _ _ _⟩
 ·split
  ·exact zJ (zJ (zJ (zJ h B mb 0) B mb 1) B mb 2) B mb 3
  ·exact⟨h.cols,h.rows,h.tiny,h.qp,h.v⟩
theorem yq{x:gh}{c r:Int}(h:uz x c r)(mb:Int):uz (bD mb x) c r:=
 ⟨h.cols,h.rows,fh h.tiny h.v,h.qp,h.v⟩
theorem Ks{x:gh}{c r:Int}(h:uz x c r)(B:List Bool)(mb:Int):∀k,uz (da B mb x k) c r:=by
 intro k
 induction k with
 | zero=>exact h
 | succ k ih=>exact⟨ih.cols,ih.rows,ih.tiny,ih.qp,ih.v⟩
theorem QQ{S:bm}{B:List Bool}{r:Nat×Bool}{mb:Int}(hT:cj S.M)(hq : -1000000<=S.qp/\S.qp<=1000000):uz (b_ S B mb r).1 S.cols S.rows:=by
 have h:=G5 (B:=B) (r:=r) hT hq
 unfold b_ Kp
 split
 ·exact yq h mb
 ·have h2:=yq (G4 h B mb) mb
  have h3:uz (b6 B mb (bD mb (ch B mb (eP S B r)))) S.cols S.rows:=by
   unfold b6
   split
   ·exact Ks h2 B mb 6
   ·exact h2
  exact⟨h3.cols,h3.rows,h3.tiny,h3.qp,h3.v⟩
structure Hd where
 cols:Int
 rows:Int
 w:Bool
 a:Nat->Int
 b:Nat->Int
def eO(h:Hd):List XC := .bool h.w::(ti .u8 64 h.a++ti .u8 64 h.b)
def f6(h:Hd):List XC := .int .i64 h.cols :: .int .i64 h.rows::eO h
theorem jv(h:Hd):(eO h).length=129:=by simp[eO,aE]
theorem br(h:Hd):(f6 h).length=131:=by simp[f6,jv]
theorem pV(h:Hd):(eO h).all XC.shut=true:=by simp[eO,ti,XC.shut]
theorem jk(h:Hd):(f6 h).all XC.shut=true:=by simp[f6,eO,ti,XC.shut]
theorem Ke(h:Hd){i:Nat}(hi:i<64):(eO h)[1+i]? = some (.int .u8 (h.a i)):=by
 unfold eO
 rw[Nat.add_comm,List.getElem?_cons_succ,List.getElem?_append_left (by rw[aE];exact hi),iV hi]
theorem Kf(h:Hd){i:Nat}(hi:i<64):(eO h)[65+i]? = some (.int .u8 (h.b i)):=by
 unfold eO
 rw[show 65+i=(64+i)+1 by omega,List.getElem?_cons_succ,List.getElem?_append_right (by rw[aE];omega),aE,show 64+i-64=i by omega,iV hi]
instance L2 (h:Hd):bE (.agg (f6 h)):=fw (jk h)
instance Qn (h:Hd) (e:TypeId) (a b:Bool):c8 (.cells (eO h) e a b):=jj (pV h)
instance Q0 (h:Hd) (e:TypeId) (a b:Bool):c8 (.cells (f6 h) e a b):=jj (jk h)
structure qd(h:Hd):Prop where
 dims:gR h.cols h.rows
 yes:h.w=true->∀i,i<64->8<=h.a i/\8<=h.b i
 no:h.w=false->∀i,i<64->h.a i=0/\h.b i=0
theorem DA(h:Hd)(ho:qd h):bh Tryz.prog 46 [.agg (eO h)] [] (.one (.int .i64 0)) []:=by
 obtain⟨w,hw⟩:∃w,h.w=w:=⟨_,rfl⟩
 have h0:(eO h)[0]? = some (.bool w):=by rw[<-hw];rfl
 refine cO Tryz.func46 ?_
 repeat' (first|refine zz ?_|refine zx (fun _=>?_) (fun _=>?_)|fail)
 refine WX.dw (σ:=Nat) (fun j=>[(4,.one (.int .i64 (j:Nat))),(1,.one (.ptr 0 0))]) (fun _=>[.cells (eO h) 24 false false]) (fun j=>j<=64) (fun j=>64-j) 0 (by omega) (fun s _=>lD) (cG [0]) ?_
 intro j hj ih
 by_cases hj64:j<64
 ·have ga:=Ke h hj64
  have gb:=Kf h hj64
  cases w
  ·have hn:=ho.no hw j hj64
   repeat' (first
    |(refine qz ?_;first
     |refine ld (hc:=h0) ?_
     |refine ld (hc:=ga) ?_
     |refine ld (hc:=gb) ?_)
    |refine zz ?_|refine zx (fun _=>?_) (fun _=>?_)|fail)
   refine ih (j+1) _ _ _ (cG [0]) (by omega) (by omega)
  ·have hn:=ho.yes hw j hj64
   repeat' (first
    |(refine qz ?_;first
     |refine ld (hc:=h0) ?_
     |refine ld (hc:=ga) ?_
     |refine ld (hc:=gb) ?_)
    |refine zz ?_|refine zx (fun _=>?_) (fun _=>?_)|fail)
   refine ih (j+1) _ _ _ (cG [0]) (by omega) (by omega)
 ·repeat' (first|refine zz ?_|refine zx (fun _=>?_) (fun _=>?_)|fail)
  show aC _ _ _ _ _ _ _ _;refine kV [] ?_
  rfl
theorem GX{h:Hd}(ho:qd h){HS:aj}(hb:Nat.blt HS.length Mem.bound=true):aG.Sound Tryz.prog ⟨46,[.agg (eO h)],HS,.one (.int .i64 0),HS,[]⟩:=
 aA (DA h ho) (by simp only[List.all_cons,List.all_nil,Bool.and_true];exact pV h) rfl hb
theorem Er(h:Hd):((f6 h).drop 2).take 129=eO h:=by
 show(eO h).take 129=_
 rw[List.take_of_length_le (by rw[jv];omega)]
theorem CW(h:Hd)(ho:qd h):bh Tryz.prog 25 [.agg (f6 h)] [] (.one (.int .i64 0)) []:=by
 have h1:=ho.dims.c0
 have h2:=ho.dims.c1
 have h3:=ho.dims.r0
 have h4:=ho.dims.r1
 refine cO Tryz.func25 ?_
 repeat' (first
  |(refine qz ?_;first
   |refine t_ (cs:=eO h) ?_ (hle:=by rw[br];decide) (hc:=Er h)
   |refine cl ?_ (hi:=by exact GX ho rfl))
  |refine zz ?_|refine zx (fun _=>?_) (fun _=>?_)|fail)
 show aC _ _ _ _ _ _ _ _;refine kV [] ?_
 rfl
theorem kT{h:Hd}(ho:qd h){HS:aj}(hb:Nat.blt HS.length Mem.bound=true):aG.Sound Tryz.prog ⟨25,[.agg (f6 h)],HS,.one (.int .i64 0),HS,[]⟩:=
 aA (CW h ho) (by simp only[List.all_cons,List.all_nil,Bool.and_true];exact jk h) rfl hb
structure Ph where
 id:Int
 inter:Bool
 down:Bool
 qp:Int
def gV(p:Ph):List XC:=[.int .i64 p.id,.bool p.inter,.bool p.down,.int .i64 p.qp]
structure tP(p:Ph):Prop where
 id:0<=p.id/\p.id<=65535
 qp:1<=p.qp/\p.qp<=31
 down:p.down=true->p.inter=true
instance Q2 (p:Ph):bE (.agg (gV p)):=fw rfl
theorem Dh(p:Ph)(ho:tP p):bh Tryz.prog 26 [.agg (gV p)] [] (.one (.int .i64 0)) []:=by
 have h1:=ho.id
 have h2:=ho.qp
 obtain⟨d,hd⟩:∃d,p.down=d:=⟨_,rfl⟩
 have hl:(gV p)[2]? = some (.bool d):=by rw[<-hd];rfl
 cases d
 ·refine cO Tryz.func26 ?_
  repeat' (first
   |(refine qz ?_;first
    |refine ld (hc:=hl) ?_)
   |refine zz ?_|refine zx (fun _=>?_) (fun _=>?_)|fail)
  show aC _ _ _ _ _ _ _ _;refine kV [] ?_
  rfl
 ·have hi:=ho.down hd
  have hl2:(gV p)[1]? = some (.bool true):=by rw[<-hi];rfl
  refine cO Tryz.func26 ?_
  repeat' (first
   |(refine qz ?_;first
    |refine ld (hc:=hl) ?_
    |refine ld (hc:=hl2) ?_)
   |refine zz ?_|refine zx (fun _=>?_) (fun _=>?_)|fail)
  show aC _ _ _ _ _ _ _ _;refine kV [] ?_
  rfl
theorem k9{p:Ph}(ho:tP p){HS:aj}(hb:Nat.blt HS.length Mem.bound=true):aG.Sound Tryz.prog ⟨26,[.agg (gV p)],HS,.one (.int .i64 0),HS,[]⟩:=
 aA (Dh p ho) rfl rfl hb
theorem Nj{cols rows:Int}(h:gR cols rows){HS:aj}{N:Nat}(hN:HS.length=N){HS':aj}(hh:HS++[cn (N+1) cols rows,.map (ba [])]=HS')(hbd:Nat.blt HS'.length Mem.bound=true) :
 aG.Sound Tryz.prog ⟨47,[.one (.int .i64 cols),.one (.int .i64 rows)],HS,.one (.ptr N 0),HS',[]⟩:=by
 subst hN
 refine bO (os:=[cn (HS.length+1) cols rows,.map (ba [])]) [] [] 2 (KJ cols rows h) (by simp) .nil .nil ?_ rfl (.flat (.flat .nil)) (.flat (.flat .nil)) (by show 0<2;omega) rfl ?_ rfl rfl hh hbd (.inl rfl)
 ·exact .cons (by simp[ak.b7,XC.ok]) (.flat .nil)
 ·exact .cons rfl (.flat .nil)
abbrev HX(h:Hd)(p:Ph):aj:=[.cells [.ptr 0 0,.int .i64 p.id,.bool p.inter,.bool p.down,.int .i64 p.qp,.int .i64 p.qp,.ptr 14 0,.ptr 16 0] 97 false false,cn 15 h.cols h.rows,.map (ba []),.cells [.int .i64 h.cols,.int .i64 h.rows,.map 17,.map 18,.map 19] 171 false false,.map (ag []),.map (ag []),.map (ag [])]
theorem Ft(h:Hd)(p:Ph)(ho:qd h):bh Tryz.prog 27 [.one (.ptr 0 0),.agg (f6 h),.agg (gV p)] [bM 1 5 9,aw 2 3 4 cM,aR cM,aT cM,aS cM,aw 6 7 8 cZ,aR cZ,aT cZ,aS cZ,aw 10 11 12 cP,aR cP,aT cP,aS cP] (.one (.ptr 13 0)) ([bM 1 5 9,aw 2 3 4 cM,aR cM,aT cM,aS cM,aw 6 7 8 cZ,aR cZ,aT cZ,aS cZ,aw 10 11 12 cP,aR cP,aT cP,aS cP]++HX h p):=by
 have h1:=ho.dims.c0
 have h2:=ho.dims.c1
 have h3:=ho.dims.r0
 have h4:=ho.dims.r1
 refine cO Tryz.func27 ?_
 repeat' (first
  |(refine qz ?_;first
   |refine fG ?_ (hle:=by rfl)
   |refine cl ?_ (hi:=by exact Nj (cols:=h.cols) (rows:=h.rows) ho.dims nL (by first|(simp only[List.cons_append,List.nil_append];exact rfl)|exact rfl) rfl)
   |refine cl ?_ (hi:=by exact II (cols:=h.cols) (rows:=h.rows) (by omega) (by omega) nL (by first|(simp only[List.cons_append,List.nil_append];exact rfl)|exact rfl) rfl))
  |refine zz ?_|refine zx (fun _=>?_) (fun _=>?_)|fail)
 show aC _ _ _ _ _ _ _ _;refine kV [0,1,2,3,4,5,6,7,8,9,10,11,12,21,15,16,17,18,19,20] ?_
 rfl
abbrev K7:List Nat:=[0,1,2,3,4,5,6,7,8,9,10,11,12]
abbrev D_(h:Hd)(p:Ph)(N:Nat):aj:=[.cells [.ptr 0 0,.int .i64 p.id,.bool p.inter,.bool p.down,.int .i64 p.qp,.int .i64 p.qp,.ptr (N+1) 0,.ptr (N+3) 0] 97 false false,cn (N+2) h.cols h.rows,.map (ba []),.cells [.int .i64 h.cols,.int .i64 h.rows,.map (N+4),.map (N+5),.map (N+6)] 171 false false,.map (ag []),.map (ag []),.map (ag [])]
abbrev dU:aj:=[bM 1 5 9,aw 2 3 4 cM,aR cM,aT cM,aS cM,aw 6 7 8 cZ,aR cZ,aT cZ,aS cZ,aw 10 11 12 cP,aR cP,aT cP,aS cP]
theorem Ly{HS:aj}(hS:HS.take 13=dU){τ : Nat->Nat}(h:∀j,j<13 -> τ j=j):ae τ HS K7 dU:=by
 have g:∀j,j<13->HS[j]? = dU[j]?:=fun j hj=>by rw[<-hS,List.getElem?_take_of_lt hj]
 have h1:=h 1 (by decide)
 have h2:=h 2 (by decide)
 have h3:=h 3 (by decide)
 have h4:=h 4 (by decide)
 have h5:=h 5 (by decide)
 have h6:=h 6 (by decide)
 have h7:=h 7 (by decide)
 have h8:=h 8 (by decide)
 have h9:=h 9 (by decide)
 have h10:=h 10 (by decide)
 have h11:=h 11 (by decide)
 have h12:=h 12 (by decide)
 refine .cons ?_ (.cons ?_ (.flat (g 2 (by decide)) (.flat (g 3 (by decide)) (.flat (g 4 (by decide)) (.cons ?_ (.flat (g 6 (by decide)) (.flat (g 7 (by decide)) (.flat (g 8 (by decide)) (.cons ?_ (.flat (g 10 (by decide)) (.flat (g 11 (by decide)) (.flat (g 12 (by decide)) .nil))))))))))))
 ·rw[g 0 (by decide)]
  simp only[ak.ay,List.map_cons,List.map_nil,XC.ay,h1,h5,h9];rfl
 ·rw[g 1 (by decide)]
  simp only[ak.ay,List.map_cons,List.map_nil,XC.ay,h2,h3,h4];rfl
 ·rw[g 5 (by decide)]
  simp only[ak.ay,List.map_cons,List.map_nil,XC.ay,h6,h7,h8];rfl
 ·rw[g 9 (by decide)]
  simp only[ak.ay,List.map_cons,List.map_nil,XC.ay,h10,h11,h12];rfl
theorem nB{n:Nat}(hn:13<=n){l:aj}(hl:bc n l):bc n (dU++l):=by
 refine .cons ?_ (.cons ?_ (.flat (.flat (.flat (.cons ?_ (.flat (.flat (.flat (.cons ?_ (.flat (.flat (.flat hl))))))))))))
 all_goals simp[ak.b7,XC.ok];omega
theorem Lx{τ : Nat->Nat}(h:∀j,j<13 -> τ j=j){l l':aj}(hl:dv τ l l'):dv τ (dU++l) (dU++l'):=by
 have h1:=h 1 (by decide)
 have h2:=h 2 (by decide)
 have h3:=h 3 (by decide)
 have h4:=h 4 (by decide)
 have h5:=h 5 (by decide)
 have h6:=h 6 (by decide)
 have h7:=h 7 (by decide)
 have h8:=h 8 (by decide)
 have h9:=h 9 (by decide)
 have h10:=h 10 (by decide)
 have h11:=h 11 (by decide)
 have h12:=h 12 (by decide)
 refine .cons ?_ (.cons ?_ (.flat (.flat (.flat (.cons ?_ (.flat (.flat (.flat (.cons ?_ (.flat (.flat (.flat hl))))))))))))
 ·simp only[ak.ay,List.map_cons,List.map_nil,XC.ay,h1,h5,h9]
 ·simp only[ak.ay,List.map_cons,List.map_nil,XC.ay,h2,h3,h4]
 ·simp only[ak.ay,List.map_cons,List.map_nil,XC.ay,h6,h7,h8]
 ·simp only[ak.ay,List.map_cons,List.map_nil,XC.ay,h10,h11,h12]
theorem H9{HS:aj}(hS:HS.take 13=dU){os:aj}:bK HS K7 (dU++os)=HS++os:=by
 have g:∀j,j<13->HS[j]? = dU[j]?:=fun j hj=>by rw[<-hS,List.getElem?_take_of_lt hj]
 simp only[bK,dU,List.cons_append,List.nil_append]
 rw[aF (g 0 (by decide)),aF (g 1 (by decide)),aF (g 2 (by decide)),aF (g 3 (by decide)),aF (g 4 (by decide)),aF (g 5 (by decide)),aF (g 6 (by decide)),aF (g 7 (by decide)),aF (g 8 (by decide)),aF (g 9 (by decide)),aF (g 10 (by decide)),aF (g 11 (by decide)),aF (g 12 (by decide))]
theorem Ey(r:List Nat):∀j,j<13->nth (K7++r) j=j:=fun j hj=>by
 have hq:∀q:Fin 13,K7[q.val]? = some q.val:=by decide
 have:=hq ⟨j,hj⟩
 unfold nth
 rw[List.getD_eq_getElem?_getD,List.getElem?_append_left (by exact hj),this]
 rfl
theorem mG{h:Hd}{p:Ph}(ho:qd h){HS:aj}(hS:HS.take 13=dU){N:Nat}(hN:HS.length=N){HS':aj}(hh:HS++D_ h p N=HS')(hbd:Nat.blt HS'.length Mem.bound=true) :
 aG.Sound Tryz.prog ⟨27,[.one (.ptr 0 0),.agg (f6 h),.agg (gV p)],HS,.one (.ptr N 0),HS',K7⟩:=by
 subst hN
 have e0:∀j,j<13->nth K7 j=j:=fun j hj=>by
  have:=Ey [] j hj
  rw[List.append_nil]at this
  exact this
 refine bO (os:=dU++D_ h p HS.length) K7 K7 7 (Ft h p ho) (by decide) (Ly hS e0) (nB (l:=[]) (Nat.le_refl _) .nil) (nB (l:=HX h p) (by show 13<=20;omega) ?_) rfl (.cons (by show 0<13;omega) (.flat (.flat .nil))) (.cons rfl (.flat (.flat .nil))) (by show 13<20;omega) rfl (Lx (Ey _) ?_) ?_ rfl (by rw[H9 hS];exact hh) hbd (.inl rfl)
 ·refine .cons ?_ (.cons ?_ (.flat (.cons ?_ (.flat (.flat (.flat .nil))))))
  all_goals simp[ak.b7,XC.ok]
 ·exact .cons rfl (.cons rfl (.flat (.cons rfl (.flat (.flat (.flat .nil))))))
 ·rfl
abbrev Hx(S:bm)(N:Nat):ak := .cells [.ptr 0 0,.int .i64 S.id,.bool S.inter,.bool S.down,.int .i64 S.hqp,.int .i64 S.qp,.ptr (N+1) 0,.ptr (N+3) 0] 97 false false
abbrev Hy(S:bm)(N:Nat):ak := .cells [.int .i64 S.cols,.int .i64 S.rows,.map (N+4),.map (N+5),.map (N+6)] 171 false false
abbrev zC(S:bm)(N:Nat):aj:=[Hx S N,cn (N+2) S.cols S.rows,.map (ba S.M),Hy S N,.map (ag S.A),.map (ag S.B),.map (ag S.C)]
abbrev lB(N:Nat)(r:List Nat):List Nat:=N::0::1::2::3::4::5::6::7::8::9::10::11::12::(N+1)::(N+2)::(N+3)::(N+4)::(N+5)::(N+6)::r
abbrev M5(S:bm)(N:Nat)(l:aj):aj:=Hx S N::bM 1 5 9::aw 2 3 4 cM::aR cM::aT cM::aS cM::aw 6 7 8 cZ::aR cZ::aT cZ::aS cZ::aw 10 11 12 cP::aR cP::aT cP::aS cP::cn (N+2) S.cols S.rows :: .map (ba S.M)::Hy S N :: .map (ag S.A) :: .map (ag S.B) :: .map (ag S.C)::l
theorem zE{HS:aj}{S:bm}{N:Nat}{τ : Nat->Nat}(hS:HS.take 13=dU)(hN:(HS.drop N).take 7=zC S N)(h3:∀j,j<13 -> τ (3+j)=j)(h16:∀j,j<6 -> τ (16+j)=N+1+j){ls:List Nat}{l:aj}(hl:ae τ HS ls l):ae τ HS (lB N ls) (ep S++l):=by
 have g:∀j,j<13->HS[j]? = dU[j]?:=fun j hj=>by rw[<-hS,List.getElem?_take_of_lt hj]
 have k:∀j,j<7->HS[N+j]? = (zC S N)[j]?:=fun j hj=>by rw[<-hN,List.getElem?_take_of_lt hj,List.getElem?_drop]
 have a1 : τ 4=1:=h3 1 (by decide)
 have a2 : τ 5=2:=h3 2 (by decide)
 have a3 : τ 6=3:=h3 3 (by decide)
 have a4 : τ 7=4:=h3 4 (by decide)
 have a5 : τ 8=5:=h3 5 (by decide)
 have a6 : τ 9=6:=h3 6 (by decide)
 have a7 : τ 10=7:=h3 7 (by decide)
 have a8 : τ 11=8:=h3 8 (by decide)
 have a9 : τ 12=9:=h3 9 (by decide)
 have b0 : τ 13=10:=h3 10 (by decide)
 have b1 : τ 14=11:=h3 11 (by decide)
 have b2 : τ 15=12:=h3 12 (by decide)
 have a0 : τ 3=0:=h3 0 (by decide)
 have d0 : τ 16=N+1:=h16 0 (by decide)
 have d1 : τ 17=N+2:=h16 1 (by decide)
 have d2 : τ 18=N+3:=h16 2 (by decide)
 have d3 : τ 19=N+4:=h16 3 (by decide)
 have d4 : τ 20=N+5:=h16 4 (by decide)
 have d5 : τ 21=N+6:=h16 5 (by decide)
 refine .cons ?_ (.cons ?_ (.cons ?_ (.flat (g 2 (by decide)) (.flat (g 3 (by decide)) (.flat (g 4 (by decide)) (.cons ?_ (.flat (g 6 (by decide)) (.flat (g 7 (by decide)) (.flat (g 8 (by decide)) (.cons ?_ (.flat (g 10 (by decide)) (.flat (g 11 (by decide)) (.flat (g 12 (by decide)) (.cons ?_ (.flat (k 2 (by decide)) (.cons ?_ (.flat (k 4 (by decide)) (.flat (k 5 (by decide)) (.flat (k 6 (by decide)) hl)))))))))))))))))))
 ·have:=k 0 (by decide)
  rw[Nat.add_zero]at this
  rw[this]
  simp only[ak.ay,List.map_cons,List.map_nil,XC.ay,a0,d0,d2];rfl
 ·rw[g 0 (by decide)]
  simp only[ak.ay,List.map_cons,List.map_nil,XC.ay,a1,a5,a9];rfl
 ·rw[g 1 (by decide)]
  simp only[ak.ay,List.map_cons,List.map_nil,XC.ay,a2,a3,a4];rfl
 ·rw[g 5 (by decide)]
  simp only[ak.ay,List.map_cons,List.map_nil,XC.ay,a6,a7,a8];rfl
 ·rw[g 9 (by decide)]
  simp only[ak.ay,List.map_cons,List.map_nil,XC.ay,b0,b1,b2];rfl
 ·rw[k 1 (by decide)]
  simp only[ak.ay,List.map_cons,List.map_nil,XC.ay,d1];rfl
 ·rw[k 3 (by decide)]
  simp only[ak.ay,List.map_cons,List.map_nil,XC.ay,d3,d4,d5];rfl
theorem Dw{S:bm}{N:Nat}{τ : Nat->Nat}(h3:∀j,j<13 -> τ (3+j)=j)(h16:∀j,j<6 -> τ (16+j)=N+1+j){l l':aj}(hl:dv τ l l'):dv τ (ep S++l) (M5 S N l'):=by
 have a1 : τ 4=1:=h3 1 (by decide)
 have a2 : τ 5=2:=h3 2 (by decide)
 have a3 : τ 6=3:=h3 3 (by decide)
 have a4 : τ 7=4:=h3 4 (by decide)
 have a5 : τ 8=5:=h3 5 (by decide)
 have a6 : τ 9=6:=h3 6 (by decide)
 have a7 : τ 10=7:=h3 7 (by decide)
 have a8 : τ 11=8:=h3 8 (by decide)
 have a9 : τ 12=9:=h3 9 (by decide)
 have b0 : τ 13=10:=h3 10 (by decide)
 have b1 : τ 14=11:=h3 11 (by decide)
 have b2 : τ 15=12:=h3 12 (by decide)
 have a0 : τ 3=0:=h3 0 (by decide)
 have d0 : τ 16=N+1:=h16 0 (by decide)
 have d1 : τ 17=N+2:=h16 1 (by decide)
 have d2 : τ 18=N+3:=h16 2 (by decide)
 have d3 : τ 19=N+4:=h16 3 (by decide)
 have d4 : τ 20=N+5:=h16 4 (by decide)
 have d5 : τ 21=N+6:=h16 5 (by decide)
 refine .cons ?_ (.cons ?_ (.cons ?_ (.flat (.flat (.flat (.cons ?_ (.flat (.flat (.flat (.cons ?_ (.flat (.flat (.flat (.cons ?_ (.flat (.cons ?_ (.flat (.flat (.flat hl)))))))))))))))))))
 all_goals simp only[ak.ay,List.map_cons,List.map_nil,XC.ay, *]
theorem vp(a b N:Nat)(r:List Nat):∀j,j<13->nth (a::b::lB N r) (3+j)=j:=fun j hj=>by
 have hq:∀q:Fin 13,K7[q.val]? = some q.val:=by decide
 have:=hq ⟨j,hj⟩
 unfold nth
 rw[List.getD_eq_getElem?_getD,Nat.add_comm]
 show((K7++((N+1)::(N+2)::(N+3)::(N+4)::(N+5)::(N+6)::r))[j]?).getD 0=j
 rw[List.getElem?_append_left (by exact hj),this]
 rfl
theorem rP(a b N:Nat)(r:List Nat):∀j,j<6->nth (a::b::lB N r) (16+j)=N+1+j:=fun j hj=>by
 match j,hj with
 | 0,_=>rfl
 | 1,_=>rfl
 | 2,_=>rfl
 | 3,_=>rfl
 | 4,_=>rfl
 | 5,_=>rfl
theorem QD{f:FuncId}{args args':List XV}{v:XV}[bE v]{L:List Int}{B:List Bool}{p p':Nat}{e e':Bool}{S S':bm}{i k N:Nat}(hc:bh Tryz.prog f args (bt 1 L B p e::aL L::ep S) v (bt 1 L B p' e'::aL L::ep S'))
 {HS:aj}(hi:HS[i]? = some (bt k L B p e)) (hk:HS[k]? = some (aL L)) (hS:HS.take 13=dU) (hN:(HS.drop N).take 7=zC S N) (hnd:(i::k::lB N []).Nodup) (ha:fq 22 args) (hr:dR (nth (i::k::lB N [])) args args')
 {HS':aj}(hh:bK HS (i::k::lB N []) (bt k L B p' e'::aL L::M5 S' N [])=HS') (hbd:Nat.blt HS'.length Mem.bound=true) :
 aG.Sound Tryz.prog ⟨f,args',HS,v,HS',i::k::lB N []⟩:=by
 have h3:=vp i k N []
 have h16:=rP i k N []
 have hc':bh Tryz.prog f args (bt 1 L B p e::aL L::(ep S++[])) v (bt 1 L B p' e'::aL L::(ep S'++[])):=by
  rw[List.append_nil,List.append_nil];exact hc
 have ht2:nth ((i::k::lB N [])++List.range' HS.length 0)=nth (i::k::lB N []):=by
  rw[List.range'_zero,List.append_nil]
 refine bO (i::k::lB N []) (i::k::lB N []) 0 hc' hnd (.cons hi (.flat hk (zE hS hN h3 h16 .nil))) (.cons (by simp[ak.b7,XC.ok]) (.flat (gK S _ (Nat.le_refl _) .nil))) (.cons (by simp[ak.b7,XC.ok]) (.flat (gK S' _ (Nat.le_refl _) .nil))) rfl ha hr (bE.ok _) (bE.ay _) ?_ rfl rfl hh hbd (.inl rfl)
 rw[ht2]
 exact .cons rfl (.flat (Dw h3 h16 .nil))
end Go.Proofs.YtagpkhindehcbaaGreat
