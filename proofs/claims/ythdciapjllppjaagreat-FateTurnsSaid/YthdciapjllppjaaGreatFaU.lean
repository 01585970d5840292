/-
  A part of the proof: Put3, Undiff, Undiff2, Firsts, StP, OutL, TakeF, MbLaw, Heads, Begin, InPlace, Put4.
-/
import Derived.Test.YthdciapjllppjaaGreatFaE
import Derived.Test.YthdciapjllppjaaGreatFaH
import Derived.Test.YthdciapjllppjaaGreatFaN
import Derived.Test.YthdciapjllppjaaGreatFaP
import Derived.Test.YthdciapjllppjaaGreatFaQ
import Derived.Test.YthdciapjllppjaaGreatFaS
import Derived.Test.YthdciapjllppjaaGreatFaT
set_option maxRecDepth 10000
set_option maxHeartbeats 8000000
set_option linter.unusedVariables false
set_option linter.unusedSectionVars false
set_option linter.unusedSimpArgs false
open Go.Proofs.Tryz (prog)
namespace Go.Proofs.YthdciapjllppjaaGreat
open Go.Xm
variable [av]
theorem Sd{S:c6}{B bw:List Bool}{m:Mb}{mb:Int}(hP:sK S B bw m mb)(hk:m.kind=3)(x:rP)(hx:j_ m mb ⟨b6 S mb m.v,((B++bc S m)++[m.edge]),0,0,fun _=>[]⟩ 6=some x) :
 bm prog 63 [.one (.ptr 2 0),.one (.ptr 0 0),.one (.ptr 22 0),.one (.int .i64 mb),.agg (mC m)] [aP 1 B,au B,jr (S),fc 4 8 12,aW 5 6 7 cM,cV cM,cY cM,cW cM,aW 9 10 11 cZ,cV cZ,cY cZ,cW cZ,aW 13 14 15 cP,cV cP,cY cP,cW cP,fD 17 (S).cols (S).rows,.map (cB (S).M),.cells [.int .i64 (S).cols,.int .i64 (S).rows,.map 19,.map 20,.map 21] 220 false false,.map (aq (S).A),.map (aq (S).B),.map (aq (S).C),aP 23 bw,au bw] (.one (.int .i64 0)) [aP 24 (eJ x),.dead,jr (x.S),fc 4 8 12,aW 5 6 7 cM,cV cM,cY cM,cW cM,aW 9 10 11 cZ,cV cZ,cY cZ,cW cZ,aW 13 14 15 cP,cV cP,cY cP,cW cP,fD 17 (x.S).cols (x.S).rows,.map (cB (x.S).M),.cells [.int .i64 (x.S).cols,.int .i64 (x.S).rows,.map 19,.map 20,.map 21] 220 false false,.map (aq (x.S).A),.map (aq (x.S).B),.map (aq (x.S).C),aP 25 (cR bw x 6),.dead,au (eJ x),au (cR bw x 6)]:=by
 have hg:=hP.good;have hm:=hg.ok;have hD:=hP.st.dims;have hmb:=hP.mb;have hlen:=hP.len;have hkl:=jX S m;have hK:=n_ B S m hm hg.kind hP.qp (by omega);rw[jl (by omega)]at hK;have htE:fG S.M:=hP.st.tiny
 have hS2:j9 (b6 S mb m.v):=⟨hD,hP.st.lev,kG htE hm.v⟩
 have hB2:(((B++bc S m)++[m.edge])).length<=700000:=by
  show(((B++bc S m)++[m.edge])).length<=700000;simp only[List.length_append,List.length_cons,List.length_nil];omega
 refine cO Tryz.func63 ?_
 repeat' (first
  |(refine qz ?_;first
   |refine lg ?_ (hle:=by rw[aY])
   |refine cl ?_ (hi:=by exact Bq (S:=S) (S':=S) (bs:=B) (bs':=B++bc S m) (fun _ => .flat .nil) (.flat .nil) rfl hK rfl rfl rfl rfl nL nA rfl)
   |refine cl ?_ (hi:=by exact jv (b:=m.edge) (bs:=(B++bc S m)) (by simp only[List.length_append];omega) rfl rfl (by decide) nL nA rfl)
   |refine cl ?_ (hi:=by exact oy (S:=S) (bs:=((B++bc S m)++[m.edge])) hD hmb rfl rfl rfl rfl nA rfl)
   |refine cl ?_ (hi:=by exact oM (B:=((B++bc S m)++[m.edge])) (S:=b6 S mb m.v) (oN (((B++bc S m)++[m.edge])) bw (b6 S mb m.v) m mb hg hS2 hmb hB2 (by have:=hP.lenw;omega) x hx) rfl rfl rfl rfl rfl rfl nL nA rfl))
  |refine zz ?_|refine zx (fun _=>?_) (fun _=>?_)|fail)
 show aE _ _ _ _ _ _ _ _;refine kV [0,1,2,3,4,5,6,7,8,9,10,11,12,13,14,15,16,17,18,19,20,21,22,23,27,28] ?_;rfl
theorem Se{S:c6}{B bw:List Bool}{m:Mb}{mb:Int}(hP:sK S B bw m mb)(hk:m.kind=4)(x:rP)(hx:j_ m mb ⟨b6 ({S with qp:=m.qp}:c6) mb m.v,((B++bc S m)++[m.edge]),0,0,fun _=>[]⟩ 6=some x) :
 bm prog 63 [.one (.ptr 2 0),.one (.ptr 0 0),.one (.ptr 22 0),.one (.int .i64 mb),.agg (mC m)] [aP 1 B,au B,jr (S),fc 4 8 12,aW 5 6 7 cM,cV cM,cY cM,cW cM,aW 9 10 11 cZ,cV cZ,cY cZ,cW cZ,aW 13 14 15 cP,cV cP,cY cP,cW cP,fD 17 (S).cols (S).rows,.map (cB (S).M),.cells [.int .i64 (S).cols,.int .i64 (S).rows,.map 19,.map 20,.map 21] 220 false false,.map (aq (S).A),.map (aq (S).B),.map (aq (S).C),aP 23 bw,au bw] (.one (.int .i64 0)) [aP 24 (eJ x),.dead,jr (x.S),fc 4 8 12,aW 5 6 7 cM,cV cM,cY cM,cW cM,aW 9 10 11 cZ,cV cZ,cY cZ,cW cZ,aW 13 14 15 cP,cV cP,cY cP,cW cP,fD 17 (x.S).cols (x.S).rows,.map (cB (x.S).M),.cells [.int .i64 (x.S).cols,.int .i64 (x.S).rows,.map 19,.map 20,.map 21] 220 false false,.map (aq (x.S).A),.map (aq (x.S).B),.map (aq (x.S).C),aP 25 (cR bw x 6),.dead,au (eJ x),au (cR bw x 6)]:=by
 have hg:=hP.good;have hm:=hg.ok;have hD:=hP.st.dims;have hmb:=hP.mb;have hlen:=hP.len;have hkl:=jX S m;have hK:=n_ B S m hm hg.kind hP.qp (by omega);rw[Ax hk]at hK;have htE:fG S.M:=hP.st.tiny
 have hS2:j9 (b6 ({S with qp:=m.qp}:c6) mb m.v):=⟨hD,hP.st.lev,kG htE hm.v⟩
 have hB2:(((B++bc S m)++[m.edge])).length<=700000:=by
  show(((B++bc S m)++[m.edge])).length<=700000;simp only[List.length_append,List.length_cons,List.length_nil];omega
 refine cO Tryz.func63 ?_
 repeat' (first
  |(refine qz ?_;first
   |refine lg ?_ (hle:=by rw[aY])
   |refine cl ?_ (hi:=by exact Bq (S:=S) (S':={S with qp:=m.qp}) (bs:=B) (bs':=B++bc S m) (fun _ => .flat .nil) (.flat .nil) rfl hK rfl rfl rfl rfl nL nA rfl)
   |refine cl ?_ (hi:=by exact jv (b:=m.edge) (bs:=(B++bc S m)) (by simp only[List.length_append];omega) rfl rfl (by decide) nL nA rfl)
   |refine cl ?_ (hi:=by exact oy (S:=({S with qp:=m.qp}:c6)) (bs:=((B++bc S m)++[m.edge])) hD hmb rfl rfl rfl rfl nA rfl)
   |refine cl ?_ (hi:=by exact oM (B:=((B++bc S m)++[m.edge])) (S:=b6 ({S with qp:=m.qp}:c6) mb m.v) (oN (((B++bc S m)++[m.edge])) bw (b6 ({S with qp:=m.qp}:c6) mb m.v) m mb hg hS2 hmb hB2 (by have:=hP.lenw;omega) x hx) rfl rfl rfl rfl rfl rfl nL nA rfl))
  |refine zz ?_|refine zx (fun _=>?_) (fun _=>?_)|fail)
 show aE _ _ _ _ _ _ _ _;refine kV [0,1,2,3,4,5,6,7,8,9,10,11,12,13,14,15,16,17,18,19,20,21,22,23,27,28] ?_;rfl
def nE(B:List Bool):Nat->Int->Nat×Bool->Int×(Nat×Bool)
 | 0,x,r=>(x,r)
 | n+1,x,r=>nE B n (2*x+b2 (jD B r)) (dW B r)
def e_(B:List Bool)(n:Nat)(r:Nat×Bool):Int×(Nat×Bool):=(if(nE B n 0 r).2.2=true then 0 else(nE B n 0 r).1,(nE B n 0 r).2)
theorem J7{j:Nat}(h:j<=32):(2:Int)^j<=4294967296:=by
 have h1:=Nat.pow_le_pow_right (show 0<2 by decide) h;have h2:((2^j:Nat):Int)<=((2^32:Nat):Int):=Int.ofNat_le.2 h1;rw[Int.natCast_pow]at h2;exact h2
theorem GK{L:List Int}{B:List Bool}(h:nP L B)(r:Nat×Bool)(n:Nat)(hn:n<=32) :
 bm prog 69 [.one (.ptr 0 0),.one (.int .i64 (n:Nat))] (RH L B r.1 r.2) (.one (.int .u64 (e_ B n r).1)) (RH L B (e_ B n r).2.1 (e_ B n r).2.2):=by
 obtain⟨q,hq⟩:∃q,nE B n 0 r=q:=⟨_,rfl⟩
 unfold e_;rw[hq];refine cO Tryz.func69 ?_
 repeat' (first|refine zz ?_|refine zx (fun _=>?_) (fun _=>?_)|fail)
 refine WX.bN (σ:=Nat×Int×(Nat×Bool)) (fun s=>[(8,.one (.int .i64 (s.1:Nat))),(5,.one (.int .u64 s.2.1)),(0,.one (.ptr 0 0)),(7,.one (.int .i64 (n:Nat)))]) (fun s=>RH L B s.2.2.1 s.2.2.2) (fun s=>s.1<=n/\0<=s.2.1/\s.2.1<2^s.1/\nE B (n-s.1) s.2.1 s.2.2=q) (fun s=>n-s.1) (0,0,r) ⟨by show 0<=n;omega,by show(0:Int)<=0;omega,by show(0:Int)<2^0;decide,by show nE B (n-0) 0 r=q;rw[Nat.sub_zero];exact hq⟩ (fun s _=>mZ) (bq [0,1]) ?_;intro s ⟨h1,h2,h3,h4⟩ ih;have hp:=J7 (j:=s.1) (by omega)
 by_cases hlt:s.1<n
 ·have hb:=Rm (jD B s.2.2);have hio:CB .u64 (s.2.1*2^1) (b2 (jD B s.2.2))=2*s.2.1+b2 (jD B s.2.2):=Ja .u64 rfl h2 (by omega) hb (fun y g0 g1=>iw (k := .u64) ⟨by show 0<=y;omega,by show y<18446744073709551616;omega⟩)
  obtain⟨k,hk⟩:∃k,n-s.1=k+1:=⟨n-s.1-1,by omega⟩
  rw[hk,nE]at h4
  repeat' (first
   |(refine qz ?_;first
    |refine KF (n:=1) ?_
    |refine cl ?_ (hi:=by exact M6 h s.2.2 rfl rfl rfl (by decide) nL rfl))
   |refine zz ?_|refine zx (fun _=>?_) (fun _=>?_)|fail)
  refine ih (s.1+1,2*s.2.1+b2 (jD B s.2.2),dW B s.2.2) _ _ _ (bq [0,1] (reg:=by(repeat' (first|exact ae.nil|refine ae.flat (by rw[<-hio];rfl) ?_|refine rz ?_|refine ae.sl rfl (by assumption) rfl ?_));first|done|fail)) ⟨by show s.1+1<=n;omega,by show 0<=2*s.2.1+b2 (jD B s.2.2);omega,?_,?_⟩ (by show n-(s.1+1)<n-s.1;omega)
  ·show 2*s.2.1+b2 (jD B s.2.2)<2^(s.1+1);rw[Int.pow_succ];omega
  ·show nE B (n-(s.1+1)) (2*s.2.1+b2 (jD B s.2.2)) (dW B s.2.2)=q;rw[show n-(s.1+1)=k by omega];exact h4
 ·have e0:n-s.1=0:=by omega
  rw[e0,nE]at h4;subst h4
  repeat' (first
   |(refine qz ?_;first
    |refine Ci (fun ge=>?_) (fun ge=>?_) (hi:=by exact GN rfl rfl (by decide) rfl))
   |refine zz ?_|refine zx (fun _=>?_) (fun _=>?_)|fail)
  ·rw[if_pos ge];show aE _ _ _ _ _ _ _ _;refine kV [0,1] ?_;rfl
  ·rw[if_neg (by rw[ge];decide)];show aE _ _ _ _ _ _ _ _;refine kV [0,1] ?_;rfl
theorem Kg{L:List Int}{B:List Bool}(h:nP L B)(r:Nat×Bool){n:Nat}{z:Int}(hz:z=(n:Nat))(hn:n<=32){HS:ah}{i k:Nat}(hi:HS[i]? = some (rf k L B r.1 r.2))(hk:HS[k]? = some (lL L))(hd:i≠k){HS':ah}(hh:HS.set i (rf k L B (e_ B n r).2.1 (e_ B n r).2.2)=HS')(hbd:Nat.blt HS'.length Mem.bound=true) :
 aA.Sound prog ⟨69,[.one (.ptr i 0),.one (.int .i64 z)],HS,.one (.int .u64 (e_ B n r).1),HS',[i]⟩:=by
 subst hz;exact PK (fun _ => .flat .nil) (.flat .nil) (GK h r n hn) hi hk hd hh hbd
def Bw(B:List Bool)(r:Nat×Bool):Nat:=(QY cZ B r).1.toNat
def Hp(B:List Bool)(r:Nat×Bool):Int×(Nat×Bool):=e_ B (Bw B r) (QY cZ B r).2
def KZ(B:List Bool)(r:Nat×Bool):Int×(Nat×Bool):=
 if 0<Bw B r/\(Hp B r).1<1*2^(Bw B r-1)then
  ((Hp B r).1-(1*2^Bw B r-1),if(Hp B r).1-(1*2^Bw B r-1)=0 then((Hp B r).2.1,true)else(Hp B r).2)
 else Hp B r
structure rN where
 m:Mb
 S:c6
 r:Nat×Bool
def O2(B:List Bool)(mb:Int)(x:rN)(k:Nat):Int:=(dQ x.S mb k x.m.qp).2+(KZ B x.r).1
def Mo(B:List Bool)(mb:Int)(x:rN)(k:Nat):Prop:=O2 B mb x k<0\/127<O2 B mb x k
instance (B:List Bool) (mb:Int) (x:rN) (k:Nat):Decidable (Mo B mb x k):=by unfold Mo;infer_instance
def S9(B:List Bool)(mb:Int)(x:rN)(k:Nat):Int:=if Mo B mb x k then 0 else O2 B mb x k
def S_(B:List Bool)(mb:Int)(x:rN)(k:Nat):Mb:={x.m with lev:=gX x.m.lev (k*64) (S9 B mb x k)}
def Rv(B:List Bool)(mb:Int)(x:rN)(k:Nat):rN:=
 ⟨S_ B mb x k,eT x.S mb k ⟨cA (S_ B mb x k) k,(S_ B mb x k).qp⟩,if Mo B mb x k then((KZ B x.r).2.1,true)else(KZ B x.r).2⟩
def Ru(B:List Bool)(mb:Int)(x:rN):Nat->rN
 | 0=>x
 | k+1=>Rv B mb (Ru B mb x k) k
end Go.Proofs.YthdciapjllppjaaGreat
namespace Go.Xm
variable [av]
variable {P:Program} {ops:Array Oper} {nt nI:Nat} {al:aL} {hs:ah} {o:Oper} {l:List Oper} {L:List aA} {K:List Ab->aL->ah->Prop} {d:Nat}
theorem TR{t:TypeId}{a y:Operand}{s i off:Nat}{cs vs vs':List XC}{e:TypeId}{opn:Bool}{hs':ah}(hk:SK P ops nt L l al hs' fun bs=>K (⟨true,.none,[i]⟩::bs))(hs2:off+s<=vs.length)(hv:vs.take off++cs++vs.drop (off+s)=vs')(ho:o.op = .store t a y:=by exact rfl)(ht:aF P t s:=by infer_instance)(hw:aw ops (rg al) o=some true:=by exact rfl)(hd:o.dst = .none:=by exact rfl)
 (ha:ag (rg al) a = .one (.ptr i off):=by exact rfl) (hy:cJ (ag (rg al) y)=some cs:=by exact rfl) (hi:hs[i]? = some (.cells vs e opn false):=by exact rfl) (hs1:s=cs.length:=by exact rfl) (hh:hs.set i (.cells vs' e opn false)=hs':=by first|(simp only[List.set_cons_succ,List.set_cons_zero];exact rfl)|exact rfl):SK P ops nt L (o::l) al hs K:=
 G8 ho hw hd ha hy hi hs1 hs2 hv hh hk
end Go.Xm
namespace Go.Proofs.YthdciapjllppjaaGreat
open Go.Xm
variable [av]
def zR:Mb:=⟨0,0,fun _=>(0,0),false,fun _=>0⟩
def Ur:Nat->Bool:=fun _=>false
def Si(v:Nat->Int×Int)(k:Nat)(x:Int×Int):Nat->Int×Int:=fun j=>if j=k then x else v j
def zn(S:c6)(B:List Bool)(r:Nat×Bool):Int×(Nat×Bool):=if S.inter=true then QY cM B r else(if jD B r=true then 4 else 3,dW B r)
def tX(n:Int):Int:=([-2,-1,1,2]:List Int).getD n.toNat 0
def Tx(S:c6)(B:List Bool)(k:Int×(Nat×Bool)):Int×(Nat×Bool):=
 if k.1=4 then(if S.qp+tX (e_ B 2 k.2).1<1\/31<S.qp+tX (e_ B 2 k.2).1 then(1,((e_ B 2 k.2).2.1,true))else(S.qp+tX (e_ B 2 k.2).1,(e_ B 2 k.2).2))else(S.qp,k.2)
def Qq(S:c6)(B:List Bool)(r:Nat×Bool):rN:=
 ⟨{zR with kind:=(zn S B r).1,qp:=(Tx S B (zn S B r)).1},{S with qp:=(Tx S B (zn S B r)).1},(Tx S B (zn S B r)).2⟩
def SJ(B:List Bool)(mb:Int)(x:rN)(k:Nat):rN:=
 ⟨{x.m with v:=Si x.m.v k (Sj B (gB x.S.M x.S.cols x.S.rows mb k) x.r).1},{x.S with M:=cI x.S.M x.S.cols mb k (Sj B (gB x.S.M x.S.cols x.S.rows mb k) x.r).1},(Sj B (gB x.S.M x.S.cols x.S.rows mb k) x.r).2⟩
def Qp(B:List Bool)(mb:Int)(x:rN):rN:=
 if x.m.kind=1 then⟨{x.m with v:=fun _=>(Sj B (gB x.S.M x.S.cols x.S.rows mb 0) x.r).1},x.S,(Sj B (gB x.S.M x.S.cols x.S.rows mb 0) x.r).2⟩
 else if x.m.kind=2 then SJ B mb (SJ B mb (SJ B mb (SJ B mb x 0) 1) 2) 3
 else⟨{x.m with edge:=jD B x.r},x.S,dW B x.r⟩
def KU(mb:Int)(x:rN):rN:=⟨x.m,b6 x.S mb x.m.v,x.r⟩
def KT(B:List Bool)(mb:Int)(x:rN):rN:=if alone x.m=true then Ru B mb x 6 else x
def RE(p c:Int)(k:Nat):Bool:=if k<4 then decide (I6 .i64 p (8/2^k)≠0)else decide (I6 .u64 c (2/2^(k-4))≠0)
def Sh(B:List Bool)(x:rN):rN×(Nat->Bool):=(⟨x.m,x.S,(e_ B 2 (QY cP B x.r).2).2⟩,RE (QY cP B x.r).1 (e_ B 2 (QY cP B x.r).2).1)
def UN(B:List Bool)(mb:Int)(x:rN):rN×(Nat->Bool):=if x.m.kind=0 then(KU mb x,Ur)else Sh B (KT B mb (KU mb (Qp B mb x)))
def E4(S:c6)(B:List Bool)(mb:Int)(r:Nat×Bool):rN×(Nat->Bool):=UN B mb (Qq S B r)
theorem Nw(x:Int) : -2<=tX x/\tX x<=2:=n7 (p:=fun x => -2<=x/\x<=2) (by decide) (by decide) x.toNat
structure SN(x z:rN):Prop where
 cols:z.S.cols=x.S.cols
 rows:z.S.rows=x.S.rows
 qp:z.m.qp=x.m.qp
 kind:z.m.kind=x.m.kind
abbrev X1(X:rN)(t0:(Int×Int)×(Nat×Bool)):Mb:={X.m with v:=Si X.m.v 0 t0.1}
def kq(b:Kn):Int×Int:=(b.lv 0,b.qp)
def OI(T U:nW):Prop:=∀k,(dz U k).map kq=(dz T k).map kq
structure Rel(S R:c6):Prop where
 inter:R.inter=S.inter
 qp:R.qp=S.qp
 cols:R.cols=S.cols
 rows:R.rows=S.rows
 M:∀k,dz R.M k=dz S.M k
 a:OI S.A R.A
 b:OI S.B R.B
 c:OI S.C R.C
structure Q6(m o:Mb):Prop where
 kind:o.kind=m.kind
 qp:o.qp=m.qp
 v:∀k,k<4->o.v k=m.v k
 edge:o.edge=m.edge
 lev:∀i,o.lev i=if alone m=true/\i%64=0/\i<384 then m.lev i else 0
structure DO(S:c6)(m:Mb):Prop where
 kind:0<=m.kind/\m.kind<=4
 alo:S.inter=false->alone m=true
 edge:alone m=false->m.edge=false
 st:m.kind=4->(eG S.qp m.qp).2=true
 qp:m.kind≠4->m.qp=S.qp
 vecs:∀k,k<4->s7 m k
 lev:∀i,i<384->Az m i
theorem rZ{S:c6}{m:Mb}(hm:jc m)(h:dp m S.inter S.qp=0):DO S m:=by
 have hk:=hm.kind;unfold dp at h;split at h
 ·cases h
 rename_i h1;split at h
 ·cases h
 rename_i h2;split at h
 ·cases h
 rename_i h3;split at h
 ·cases h
 rename_i h4;split at h
 ·rename_i h5;exact absurd h h5
 rename_i h5;have hv:fK m=0:=Decidable.byContradiction fun g=>h5 g
 refine⟨⟨hk.1,?_⟩,?_,?_,?_,?_,?_,?_⟩
 ·exact Decidable.byContradiction fun g=>h1 (.inl (by omega))
 ·intro g
  cases ha:alone m with
  | true=>rfl
  | false=>exact absurd (.inr ⟨g,ha⟩) h1
 ·intro g
  cases he:m.edge with
  | false=>rfl
  | true=>exact absurd ⟨he,g⟩ h2
 ·intro g
  cases hs:(eG S.qp m.qp).2 with
  | true=>rfl
  | false=>exact absurd ⟨g,hs⟩ h3
 ·intro g;exact Decidable.byContradiction fun e=>h4 ⟨g,e⟩
 ·unfold fK at hv;split at hv
  ·rename_i g;intro k hk
   match k,hk with
   | 0,_=>exact g.1
   | 1,_=>exact g.2.1
   | 2,_=>exact g.2.2.1
   | 3,_=>exact g.2.2.2
  ·cases hv
 ·unfold uQ at h;split at h
  ·assumption
  ·cases h
structure SO(S:c6)(Y:List Bool)(m:Mb)(z:rN):Prop where
 rel:Rel S z.S
 r:z.r=(Y.length,false)
 kind:z.m.kind=m.kind
 qp:z.m.qp=m.qp
 v:∀k,k<4->z.m.v k=m.v k
 edge:z.m.edge=m.edge
 lev:∀i,z.m.lev i=0
theorem ug{m:Mb}{mb:Int}{x0:rP}{k:Nat}{x:rP}(h:j_ m mb x0 (k+1)=some x):∃y r,j_ m mb x0 k=some y/\nv m y.S mb k=some r/\x=gk m mb k y (Fy m y.S mb k r):=by
 rw[j_]at h;obtain⟨y,hy,h2⟩:=Option.bind_eq_some_iff.1 h;obtain⟨r,hr,h3⟩:=Option.map_eq_some_iff.1 h2;exact⟨y,r,hy,hr,h3.symm⟩
structure TE(m:Mb)(k:Nat)(x:rP)(z:rN):Prop where
 rel:Rel x.S z.S
 r:z.r=(x.B.length,false)
 kind:z.m.kind=m.kind
 qp:z.m.qp=m.qp
 v:∀j,j<4->z.m.v j=m.v j
 edge:z.m.edge=m.edge
 lev:∀i,z.m.lev i=if i%64=0/\i<64*k then m.lev i else 0
structure TB(x:rP):Prop where
 pat:0<=x.pat/\x.pat<16
 col:0<=x.col/\x.col<4
 has:∀j,j<6->RE x.pat x.col j=decide (0<(x.ev j).length)
noncomputable def nD(S:c6)(X bw:List Bool)(m:Mb)(mb:Int):Option (c6×List Bool×List Bool):=
 if m.kind=0 then some (b6 S mb m.v,X++bc S m,bw)else(j_ m mb ⟨(fI S X m mb).1,(fI S X m mb).2,0,0,fun _=>[]⟩ 6).map fun x=>(x.S,eJ x,cR bw x 6)
noncomputable def S8(S:c6)(X:List Bool)(m:Mb)(mb:Int)(k:Nat):List Ev:=
 if m.kind=0 then []else match j_ m mb ⟨(fI S X m mb).1,(fI S X m mb).2,0,0,fun _=>[]⟩ 6 with
  | some x=>x.ev k
  | none=>[]
structure rR(h:Hd):Prop where
 dims:mB h.cols h.rows
 yes:h.w=true->∀i,i<64->8<=h.a i/\8<=h.b i
 no:h.w=false->∀i,i<64->h.a i=0/\h.b i=0
theorem Dj(h:Hd)(ho:rR h):bm prog 79 [.agg (dY h)] [] (.one (.int .i64 0)) []:=by
 obtain⟨w,hw⟩:∃w,h.w=w:=⟨_,rfl⟩
 have h0:(dY h)[0]? = some (.bool w):=by rw[<-hw];rfl
 refine cO Tryz.func79 ?_
 repeat' (first|refine zz ?_|refine zx (fun _=>?_) (fun _=>?_)|fail)
 refine WX.bN (σ:=Nat) (fun j=>[(4,.one (.int .i64 (j:Nat))),(1,.one (.ptr 0 0))]) (fun _=>[.cells (dY h) 24 false false]) (fun j=>j<=64) (fun j=>64-j) 0 (by omega) (fun s _=>mZ) (bq [0]) ?_;intro j hj ih
 by_cases hj64:j<64
 ·have ga:=KN h hj64;have gb:=KO h hj64;cases w
  ·have hn:=ho.no hw j hj64
   repeat' (first
    |(refine qz ?_;first
     |refine ld (hc:=h0) ?_
     |refine ld (hc:=ga) ?_
     |refine ld (hc:=gb) ?_)
    |refine zz ?_|refine zx (fun _=>?_) (fun _=>?_)|fail)
   refine ih (j+1) _ _ _ (bq [0]) (by omega) (by omega)
  ·have hn:=ho.yes hw j hj64
   repeat' (first
    |(refine qz ?_;first
     |refine ld (hc:=h0) ?_
     |refine ld (hc:=ga) ?_
     |refine ld (hc:=gb) ?_)
    |refine zz ?_|refine zx (fun _=>?_) (fun _=>?_)|fail)
   refine ih (j+1) _ _ _ (bq [0]) (by omega) (by omega)
 ·repeat' (first|refine zz ?_|refine zx (fun _=>?_) (fun _=>?_)|fail)
  show aE _ _ _ _ _ _ _ _;refine kV [] ?_;rfl
theorem Hk{h:Hd}(ho:rR h){HS:ah}(hb:Nat.blt HS.length Mem.bound=true):aA.Sound prog ⟨79,[.agg (dY h)],HS,.one (.int .i64 0),HS,[]⟩:=
 ay (Dj h ho) (by simp only[List.all_cons,List.all_nil,Bool.and_true];exact oV h) rfl hb
theorem Cy(h:Hd)(ho:rR h):bm prog 45 [.agg (ij h)] [] (.one (.int .i64 0)) []:=by
 have h1:=ho.dims.c0;have h2:=ho.dims.c1;have h3:=ho.dims.r0;have h4:=ho.dims.r1;refine cO Tryz.func45 ?_
 repeat' (first
  |(refine qz ?_;first
   |refine uN (cs:=dY h) ?_ (hle:=by rw[cz];decide) (hc:=El h)
   |refine cl ?_ (hi:=by exact Hk ho rfl))
  |refine zz ?_|refine zx (fun _=>?_) (fun _=>?_)|fail)
 show aE _ _ _ _ _ _ _ _;refine kV [] ?_;rfl
theorem oP{h:Hd}(ho:rR h){HS:ah}(hb:Nat.blt HS.length Mem.bound=true):aA.Sound prog ⟨45,[.agg (ij h)],HS,.one (.int .i64 0),HS,[]⟩:=
 ay (Cy h ho) (by simp only[List.all_cons,List.all_nil,Bool.and_true];exact eO h) rfl hb
structure Ph where
 id:Int
 inter:Bool
 down:Bool
 qp:Int
def xK(p:Ph):List XC:=[.int .i64 p.id,.bool p.inter,.bool p.down,.int .i64 p.qp]
structure tg(p:Ph):Prop where
 id:0<=p.id/\p.id<=65535
 qp:1<=p.qp/\p.qp<=31
 down:p.down=true->p.inter=true
instance Sy (p:Ph):b_ (.agg (xK p)):=jj rfl
theorem CV(p:Ph)(ho:tg p):bm prog 56 [.agg (xK p)] [] (.one (.int .i64 0)) []:=by
 have h1:=ho.id;have h2:=ho.qp
 obtain⟨d,hd⟩:∃d,p.down=d:=⟨_,rfl⟩
 have hl:(xK p)[2]? = some (.bool d):=by rw[<-hd];rfl
 cases d
 ·refine cO Tryz.func56 ?_
  repeat' (first
   |(refine qz ?_;first
    |refine ld (hc:=hl) ?_)
   |refine zz ?_|refine zx (fun _=>?_) (fun _=>?_)|fail)
  show aE _ _ _ _ _ _ _ _;refine kV [] ?_;rfl
 ·have hi:=ho.down hd;have hl2:(xK p)[1]? = some (.bool true):=by rw[<-hi];rfl
  refine cO Tryz.func56 ?_
  repeat' (first
   |(refine qz ?_;first
    |refine ld (hc:=hl) ?_
    |refine ld (hc:=hl2) ?_)
   |refine zz ?_|refine zx (fun _=>?_) (fun _=>?_)|fail)
  show aE _ _ _ _ _ _ _ _;refine kV [] ?_;rfl
theorem l6{p:Ph}(ho:tg p){HS:ah}(hb:Nat.blt HS.length Mem.bound=true):aA.Sound prog ⟨56,[.agg (xK p)],HS,.one (.int .i64 0),HS,[]⟩:=
 ay (CV p ho) rfl rfl hb
theorem NF{cols rows:Int}(h:mB cols rows){HS:ah}{N:Nat}(hN:HS.length=N){HS':ah}(hh:HS++[fD (N+1) cols rows,.map (cB [])]=HS')(hbd:Nat.blt HS'.length Mem.bound=true) :
 aA.Sound prog ⟨83,[.one (.int .i64 cols),.one (.int .i64 rows)],HS,.one (.ptr N 0),HS',[]⟩:=by
 subst hN;refine bh (os:=[fD (HS.length+1) cols rows,.map (cB [])]) [] [] 2 (La cols rows h) (by simp) .nil .nil ?_ rfl (.flat (.flat .nil)) (.flat (.flat .nil)) (by show 0<2;omega) rfl ?_ rfl rfl hh hbd (.inl rfl)
 ·exact .cons (by simp[aj.bt,XC.ok]) (.flat .nil)
 ·exact .cons rfl (.flat .nil)
abbrev Ig(h:Hd)(p:Ph):ah:=[.cells [.ptr 0 0,.int .i64 p.id,.bool p.inter,.bool p.down,.int .i64 p.qp,.int .i64 p.qp,.ptr 14 0,.ptr 16 0] 157 false false,fD 15 h.cols h.rows,.map (cB []),.cells [.int .i64 h.cols,.int .i64 h.rows,.map 17,.map 18,.map 19] 220 false false,.map (aq []),.map (aq []),.map (aq [])]
theorem FB(h:Hd)(p:Ph)(ho:rR h):bm prog 61 [.one (.ptr 0 0),.agg (ij h),.agg (xK p)] [fc 1 5 9,aW 2 3 4 cM,cV cM,cY cM,cW cM,aW 6 7 8 cZ,cV cZ,cY cZ,cW cZ,aW 10 11 12 cP,cV cP,cY cP,cW cP] (.one (.ptr 13 0)) ([fc 1 5 9,aW 2 3 4 cM,cV cM,cY cM,cW cM,aW 6 7 8 cZ,cV cZ,cY cZ,cW cZ,aW 10 11 12 cP,cV cP,cY cP,cW cP]++Ig h p):=by
 have h1:=ho.dims.c0;have h2:=ho.dims.c1;have h3:=ho.dims.r0;have h4:=ho.dims.r1;refine cO Tryz.func61 ?_
 repeat' (first
  |(refine qz ?_;first
   |refine lg ?_ (hle:=by rfl)
   |refine cl ?_ (hi:=by exact NF (cols:=h.cols) (rows:=h.rows) ho.dims nL (by first|(simp only[List.cons_append,List.nil_append];exact rfl)|exact rfl) rfl)
   |refine cl ?_ (hi:=by exact I9 (cols:=h.cols) (rows:=h.rows) (by omega) (by omega) nL (by first|(simp only[List.cons_append,List.nil_append];exact rfl)|exact rfl) rfl))
  |refine zz ?_|refine zx (fun _=>?_) (fun _=>?_)|fail)
 show aE _ _ _ _ _ _ _ _;refine kV [0,1,2,3,4,5,6,7,8,9,10,11,12,21,15,16,17,18,19,20] ?_;rfl
abbrev LB:List Nat:=[0,1,2,3,4,5,6,7,8,9,10,11,12]
abbrev DY(h:Hd)(p:Ph)(N:Nat):ah:=[.cells [.ptr 0 0,.int .i64 p.id,.bool p.inter,.bool p.down,.int .i64 p.qp,.int .i64 p.qp,.ptr (N+1) 0,.ptr (N+3) 0] 157 false false,fD (N+2) h.cols h.rows,.map (cB []),.cells [.int .i64 h.cols,.int .i64 h.rows,.map (N+4),.map (N+5),.map (N+6)] 220 false false,.map (aq []),.map (aq []),.map (aq [])]
abbrev kW:ah:=[fc 1 5 9,aW 2 3 4 cM,cV cM,cY cM,cW cM,aW 6 7 8 cZ,cV cZ,cY cZ,cW cZ,aW 10 11 12 cP,cV cP,cY cP,cW cP]
theorem L8{HS:ah}(hS:HS.take 13=kW){τ : Nat->Nat}(h:∀j,j<13 -> τ j=j):af τ HS LB kW:=by
 have g:∀j,j<13->HS[j]? = kW[j]?:=fun j hj=>by rw[<-hS,List.getElem?_take_of_lt hj]
 have h1:=h 1 (by decide);have h2:=h 2 (by decide);have h3:=h 3 (by decide);have h4:=h 4 (by decide);have h5:=h 5 (by decide);have h6:=h 6 (by decide);have h7:=h 7 (by decide);have h8:=h 8 (by decide);have h9:=h 9 (by decide);have h10:=h 10 (by decide);have h11:=h 11 (by decide);have h12:=h 12 (by decide);refine .cons ?_ (.cons ?_ (.flat (g 2 (by decide)) (.flat (g 3 (by decide)) (.flat (g 4 (by decide)) (.cons ?_ (.flat (g 6 (by decide)) (.flat (g 7 (by decide)) (.flat (g 8 (by decide)) (.cons ?_ (.flat (g 10 (by decide)) (.flat (g 11 (by decide)) (.flat (g 12 (by decide)) .nil))))))))))))
 ·rw[g 0 (by decide)];simp only[aj.aC,List.map_cons,List.map_nil,XC.aC,h1,h5,h9];rfl
 ·rw[g 1 (by decide)];simp only[aj.aC,List.map_cons,List.map_nil,XC.aC,h2,h3,h4];rfl
 ·rw[g 5 (by decide)];simp only[aj.aC,List.map_cons,List.map_nil,XC.aC,h6,h7,h8];rfl
 ·rw[g 9 (by decide)];simp only[aj.aC,List.map_cons,List.map_nil,XC.aC,h10,h11,h12];rfl
theorem ui{n:Nat}(hn:13<=n){l:ah}(hl:ak n l):ak n (kW++l):=by
 refine .cons ?_ (.cons ?_ (.flat (.flat (.flat (.cons ?_ (.flat (.flat (.flat (.cons ?_ (.flat (.flat (.flat hl))))))))))))
 all_goals simp[aj.bt,XC.ok];omega
theorem L7{τ : Nat->Nat}(h:∀j,j<13 -> τ j=j){l l':ah}(hl:d_ τ l l'):d_ τ (kW++l) (kW++l'):=by
 have h1:=h 1 (by decide);have h2:=h 2 (by decide);have h3:=h 3 (by decide);have h4:=h 4 (by decide);have h5:=h 5 (by decide);have h6:=h 6 (by decide);have h7:=h 7 (by decide);have h8:=h 8 (by decide);have h9:=h 9 (by decide);have h10:=h 10 (by decide);have h11:=h 11 (by decide);have h12:=h 12 (by decide);refine .cons ?_ (.cons ?_ (.flat (.flat (.flat (.cons ?_ (.flat (.flat (.flat (.cons ?_ (.flat (.flat (.flat hl))))))))))))
 ·simp only[aj.aC,List.map_cons,List.map_nil,XC.aC,h1,h5,h9]
 ·simp only[aj.aC,List.map_cons,List.map_nil,XC.aC,h2,h3,h4]
 ·simp only[aj.aC,List.map_cons,List.map_nil,XC.aC,h6,h7,h8]
 ·simp only[aj.aC,List.map_cons,List.map_nil,XC.aC,h10,h11,h12]
theorem Iu{HS:ah}(hS:HS.take 13=kW){os:ah}:bD HS LB (kW++os)=HS++os:=by
 have g:∀j,j<13->HS[j]? = kW[j]?:=fun j hj=>by rw[<-hS,List.getElem?_take_of_lt hj]
 simp only[bD,kW,List.cons_append,List.nil_append];rw[aB (g 0 (by decide)),aB (g 1 (by decide)),aB (g 2 (by decide)),aB (g 3 (by decide)),aB (g 4 (by decide)),aB (g 5 (by decide)),aB (g 6 (by decide)),aB (g 7 (by decide)),aB (g 8 (by decide)),aB (g 9 (by decide)),aB (g 10 (by decide)),aB (g 11 (by decide)),aB (g 12 (by decide))]
theorem EA(r:List Nat):∀j,j<13->nth (LB++r) j=j:=fun j hj=>by
 have hq:∀q:Fin 13,LB[q.val]? = some q.val:=by decide
 have:=hq ⟨j,hj⟩;unfold nth;rw[List.getD_eq_getElem?_getD,List.getElem?_append_left (by exact hj),this];rfl
theorem Ih{h:Hd}{p:Ph}(ho:rR h){HS:ah}(hS:HS.take 13=kW){N:Nat}(hN:HS.length=N){HS':ah}(hh:HS++DY h p N=HS')(hbd:Nat.blt HS'.length Mem.bound=true) :
 aA.Sound prog ⟨61,[.one (.ptr 0 0),.agg (ij h),.agg (xK p)],HS,.one (.ptr N 0),HS',LB⟩:=by
 subst hN
 have e0:∀j,j<13->nth LB j=j:=fun j hj=>by
  have:=EA [] j hj;rw[List.append_nil]at this;exact this
 refine bh (os:=kW++DY h p HS.length) LB LB 7 (FB h p ho) (by decide) (L8 hS e0) (ui (l:=[]) (Nat.le_refl _) .nil) (ui (l:=Ig h p) (by show 13<=20;omega) ?_) rfl (.cons (by show 0<13;omega) (.flat (.flat .nil))) (.cons rfl (.flat (.flat .nil))) (by show 13<20;omega) rfl (L7 (EA _) ?_) ?_ rfl (by rw[Iu hS];exact hh) hbd (.inl rfl)
 ·refine .cons ?_ (.cons ?_ (.flat (.cons ?_ (.flat (.flat (.flat .nil))))))
  all_goals simp[aj.bt,XC.ok]
 ·exact .cons rfl (.cons rfl (.flat (.cons rfl (.flat (.flat (.flat .nil))))))
 ·rfl
abbrev SG(S:c6)(N:Nat):aj := .cells [.ptr 0 0,.int .i64 S.id,.bool S.inter,.bool S.down,.int .i64 S.hqp,.int .i64 S.qp,.ptr (N+1) 0,.ptr (N+3) 0] 157 false false
abbrev SI(S:c6)(N:Nat):aj := .cells [.int .i64 S.cols,.int .i64 S.rows,.map (N+4),.map (N+5),.map (N+6)] 220 false false
abbrev Qi(S:c6)(N:Nat):ah:=[SG S N,fD (N+2) S.cols S.rows,.map (cB S.M),SI S N,.map (aq S.A),.map (aq S.B),.map (aq S.C)]
abbrev P0(N:Nat)(r:List Nat):List Nat:=N::0::1::2::3::4::5::6::7::8::9::10::11::12::(N+1)::(N+2)::(N+3)::(N+4)::(N+5)::(N+6)::r
abbrev Sf(S:c6)(N:Nat)(l:ah):ah:=SG S N::fc 1 5 9::aW 2 3 4 cM::cV cM::cY cM::cW cM::aW 6 7 8 cZ::cV cZ::cY cZ::cW cZ::aW 10 11 12 cP::cV cP::cY cP::cW cP::fD (N+2) S.cols S.rows :: .map (cB S.M)::SI S N :: .map (aq S.A) :: .map (aq S.B) :: .map (aq S.C)::l
theorem Qk{HS:ah}{S:c6}{N:Nat}{τ : Nat->Nat}(hS:HS.take 13=kW)(hN:(HS.drop N).take 7=Qi S N)(h3:∀j,j<13 -> τ (3+j)=j)(h16:∀j,j<6 -> τ (16+j)=N+1+j){ls:List Nat}{l:ah}(hl:af τ HS ls l):af τ HS (P0 N ls) (iQ S++l):=by
 have g:∀j,j<13->HS[j]? = kW[j]?:=fun j hj=>by rw[<-hS,List.getElem?_take_of_lt hj]
 have k:∀j,j<7->HS[N+j]? = (Qi S N)[j]?:=fun j hj=>by rw[<-hN,List.getElem?_take_of_lt hj,List.getElem?_drop]
 have a1 : τ 4=1:=h3 1 (by decide);have a2 : τ 5=2:=h3 2 (by decide);have a3 : τ 6=3:=h3 3 (by decide);have a4 : τ 7=4:=h3 4 (by decide);have a5 : τ 8=5:=h3 5 (by decide);have a6 : τ 9=6:=h3 6 (by decide);have a7 : τ 10=7:=h3 7 (by decide);have a8 : τ 11=8:=h3 8 (by decide);have a9 : τ 12=9:=h3 9 (by decide);have b0 : τ 13=10:=h3 10 (by decide);have b1 : τ 14=11:=h3 11 (by decide);have b2 : τ 15=12:=h3 12 (by decide);have a0 : τ 3=0:=h3 0 (by decide);have d0 : τ 16=N+1:=h16 0 (by decide);have d1 : τ 17=N+2:=h16 1 (by decide);have d2 : τ 18=N+3:=h16 2 (by decide);have d3 : τ 19=N+4:=h16 3 (by decide);have d4 : τ 20=N+5:=h16 4 (by decide);have d5 : τ 21=N+6:=h16 5 (by decide);refine .cons ?_ (.cons ?_ (.cons ?_ (.flat (g 2 (by decide)) (.flat (g 3 (by decide)) (.flat (g 4 (by decide)) (.cons ?_ (.flat (g 6 (by decide)) (.flat (g 7 (by decide)) (.flat (g 8 (by decide)) (.cons ?_ (.flat (g 10 (by decide)) (.flat (g 11 (by decide)) (.flat (g 12 (by decide)) (.cons ?_ (.flat (k 2 (by decide)) (.cons ?_ (.flat (k 4 (by decide)) (.flat (k 5 (by decide)) (.flat (k 6 (by decide)) hl)))))))))))))))))))
 ·have:=k 0 (by decide);rw[Nat.add_zero]at this;rw[this];simp only[aj.aC,List.map_cons,List.map_nil,XC.aC,a0,d0,d2];rfl
 ·rw[g 0 (by decide)];simp only[aj.aC,List.map_cons,List.map_nil,XC.aC,a1,a5,a9];rfl
 ·rw[g 1 (by decide)];simp only[aj.aC,List.map_cons,List.map_nil,XC.aC,a2,a3,a4];rfl
 ·rw[g 5 (by decide)];simp only[aj.aC,List.map_cons,List.map_nil,XC.aC,a6,a7,a8];rfl
 ·rw[g 9 (by decide)];simp only[aj.aC,List.map_cons,List.map_nil,XC.aC,b0,b1,b2];rfl
 ·rw[k 1 (by decide)];simp only[aj.aC,List.map_cons,List.map_nil,XC.aC,d1];rfl
 ·rw[k 3 (by decide)];simp only[aj.aC,List.map_cons,List.map_nil,XC.aC,d3,d4,d5];rfl
theorem Qj{S:c6}{N:Nat}{τ : Nat->Nat}(h3:∀j,j<13 -> τ (3+j)=j)(h16:∀j,j<6 -> τ (16+j)=N+1+j){l l':ah}(hl:d_ τ l l'):d_ τ (iQ S++l) (Sf S N l'):=by
 have a1 : τ 4=1:=h3 1 (by decide);have a2 : τ 5=2:=h3 2 (by decide);have a3 : τ 6=3:=h3 3 (by decide);have a4 : τ 7=4:=h3 4 (by decide);have a5 : τ 8=5:=h3 5 (by decide);have a6 : τ 9=6:=h3 6 (by decide);have a7 : τ 10=7:=h3 7 (by decide);have a8 : τ 11=8:=h3 8 (by decide);have a9 : τ 12=9:=h3 9 (by decide);have b0 : τ 13=10:=h3 10 (by decide);have b1 : τ 14=11:=h3 11 (by decide);have b2 : τ 15=12:=h3 12 (by decide);have a0 : τ 3=0:=h3 0 (by decide);have d0 : τ 16=N+1:=h16 0 (by decide);have d1 : τ 17=N+2:=h16 1 (by decide);have d2 : τ 18=N+3:=h16 2 (by decide);have d3 : τ 19=N+4:=h16 3 (by decide);have d4 : τ 20=N+5:=h16 4 (by decide);have d5 : τ 21=N+6:=h16 5 (by decide);refine .cons ?_ (.cons ?_ (.cons ?_ (.flat (.flat (.flat (.cons ?_ (.flat (.flat (.flat (.cons ?_ (.flat (.flat (.flat (.cons ?_ (.flat (.cons ?_ (.flat (.flat (.flat hl)))))))))))))))))))
 all_goals simp only[aj.aC,List.map_cons,List.map_nil,XC.aC, *]
theorem JO(a b N:Nat)(r:List Nat):∀j,j<13->nth (a::b::P0 N r) (3+j)=j:=fun j hj=>by
 have hq:∀q:Fin 13,LB[q.val]? = some q.val:=by decide
 have:=hq ⟨j,hj⟩;unfold nth;rw[List.getD_eq_getElem?_getD,Nat.add_comm];show((LB++((N+1)::(N+2)::(N+3)::(N+4)::(N+5)::(N+6)::r))[j]?).getD 0=j;rw[List.getElem?_append_left (by exact hj),this];rfl
theorem EB(a b N:Nat)(r:List Nat):∀j,j<6->nth (a::b::P0 N r) (16+j)=N+1+j:=fun j hj=>by
 match j,hj with
 | 0,_=>rfl
 | 1,_=>rfl
 | 2,_=>rfl
 | 3,_=>rfl
 | 4,_=>rfl
 | 5,_=>rfl
theorem Nr{S:c6}{B bw:List Bool}{m:Mb}{mb:Int}(hP:sK S B bw m mb){S':c6}{B' bw':List Bool}(h:nD S B bw m mb=some (S',B',bw')) :
 bm prog 63 [.one (.ptr 2 0),.one (.ptr 0 0),.one (.ptr 22 0),.one (.int .i64 mb),.agg (mC m)] (aP 1 B::au B::(iQ S++[aP 23 bw,au bw])) (.one (.int .i64 0)) (aP 24 B' :: .dead::(iQ S'++[aP 25 bw',.dead,au B',au bw'])):=by
 have hk:=hP.good.kind;have hk0:=hP.good.ok.kind;unfold nD at h
 by_cases h0:m.kind=0
 ·rw[if_pos h0]at h;cases Option.some.inj h;exact Sa hP h0
 ·rw [if_neg h0]at h;obtain⟨x,hx,e⟩:=Option.map_eq_some_iff.1 h;cases e;unfold fI at hx
  by_cases h1:m.kind=1
  ·rw[if_neg h0,if_pos h1]at hx;exact Sb hP h1 x hx
  ·by_cases h2:m.kind=2
   ·rw[if_neg h0,if_neg h1,if_pos h2]at hx;exact Sc hP h2 x hx
   ·rw[if_neg h0,if_neg h1,if_neg h2]at hx
    by_cases h3:m.kind=3
    ·rw[jl (by omega)]at hx;exact Sd hP h3 x hx
    ·have h4:m.kind=4:=by omega
     rw[Ax h4]at hx;exact Se hP h4 x hx
theorem PH{S:c6}{B bw:List Bool}{m:Mb}{mb:Int}(hP:sK S B bw m mb){S':c6}{B' bw':List Bool}(h:nD S B bw m mb=some (S',B',bw')){HS:ah}{i k j g N:Nat}(hi:HS[i]? = some (aP k B))(hk:HS[k]? = some (au B))(hS:HS.take 13=kW)(hN:(HS.drop N).take 7=Qi S N)(hj:HS[j]? = some (aP g bw))(hg:HS[g]? = some (au bw))
 (hnd:(i::k::P0 N [j,g]).Nodup) {M:Nat}(hM:HS.length=M) {HS':ah}(hh:bD HS [i,k,N,0,1,2,3,4,5,6,7,8,9,10,11,12,N+1,N+2,N+3,N+4,N+5,N+6,j,g] [aP M B',.dead,SG S' N,fc 1 5 9,aW 2 3 4 cM,cV cM,cY cM,cW cM,aW 6 7 8 cZ,cV cZ,cY cZ,cW cZ,aW 10 11 12 cP,cV cP,cY cP,cW cP,fD (N+2) S'.cols S'.rows,.map (cB S'.M),SI S' N,.map (aq S'.A),.map (aq S'.B),.map (aq S'.C),aP (M+1) bw',.dead,au B',au bw']=HS') (hbd:Nat.blt HS'.length Mem.bound=true) :
 aA.Sound prog ⟨63,[.one (.ptr N 0),.one (.ptr i 0),.one (.ptr j 0),.one (.int .i64 mb),.agg (mC m)],HS,.one (.int .i64 0),HS',i::k::P0 N [j,g]⟩:=by
 subst hM;have h3:=JO i k N [j,g];have h16:=EB i k N [j,g];have h3':=JO i k N ([j,g]++List.range' HS.length 2);have h16':=EB i k N ([j,g]++List.range' HS.length 2);have hv:=Qk (S:=S) hS hN h3 h16 (ls:=[j,g]) (l:=[aP 23 bw,au bw]) (af.ig hj rfl rfl rfl (.flat hg .nil));have ho:=ow S 24 (by omega) (l:=[aP 23 bw,au bw]) (.cons (by simp[aj.bt,XC.ok,aJ]) (.flat .nil));have ho':=ow S' 26 (by omega) (l:=[aP 25 bw',.dead,au B',au bw']) (.cons (by simp[aj.bt,XC.ok,aJ]) (.flat (.flat (.flat .nil))));have hr:=Qj (S:=S') (N:=N) h3' h16' (l:=[aP 25 bw',.dead,au B',au bw']) (l':=[aP (HS.length+1) bw',.dead,au B',au bw']) (.cons (by simp only[aj.aC,List.map_cons,List.map_nil,XC.aC,aX];rfl) (.flat (.flat (.flat .nil))));refine bh (os:=aP HS.length B' :: .dead::Sf S' N [aP (HS.length+1) bw',.dead,au B',au bw']) (i::k::P0 N [j,g]) (i::k::P0 N [j,g]) 2 (Nr hP h) hnd (af.ig hi rfl rfl rfl (.flat hk hv)) (.cons (by simp[aj.bt,XC.ok,aJ]) (.flat ho)) (.cons (by simp[aj.bt,XC.ok,aJ]) (.flat ho')) rfl (.cons (by show 2<24;omega) (.cons (by show 0<24;omega) (.cons (by show 22<24;omega) (.flat (.flat .nil))))) (.cons rfl (.cons rfl (.cons rfl (.flat (.flat .nil))))) (b_.ok _) (b_.aC _) ?_ (ET ..) rfl hh hbd (.inl rfl);exact .cons (by simp only[aj.aC,List.map_cons,List.map_nil,XC.aC,aX];rfl) (.flat hr)
end Go.Proofs.YthdciapjllppjaaGreat
