/-
  A part of the proof: Put3, Undiff, Undiff2, Firsts, StP, OutL, TakeF, MbLaw, Heads, Begin, InPlace, Put4.
-/
import Derived.Test.YthdciapjllppjaaGreatFbF
import Derived.Test.YthdciapjllppjaaGreatFbI
import Derived.Test.YthdciapjllppjaaGreatFbN
import Derived.Test.YthdciapjllppjaaGreatFbP
import Derived.Test.YthdciapjllppjaaGreatFbQ
import Derived.Test.YthdciapjllppjaaGreatFbS
import Derived.Test.YthdciapjllppjaaGreatFbT
set_option maxRecDepth 10000
set_option maxHeartbeats 8000000
set_option linter.unusedVariables false
set_option linter.unusedSectionVars false
set_option linter.unusedSimpArgs false
open Go.Proofs.Tryz (prog)
namespace Go.Proofs.YthdciapjllppjaaGreat
open Go.Xm
variable [av]
theorem Q4{S:cR}{B bw:List Bool}{m:Mb}{mb:Int}(hP:r7 S B bw m mb)(hk:m.kind=3)(x:qX)(hx:jS m mb ⟨bY S mb m.v,((B++bc S m)++[m.edge]),0,0,fun _=>[]⟩ 6=some x) :
 bm prog 63 [.one (.ptr 2 0),.one (.ptr 0 0),.one (.ptr 22 0),.one (.int .i64 mb),.agg (mC m)] [aO 1 B,au B,jg (S),eP 4 8 12,aU 5 6 7 cM,cL cM,cQ cM,cN cM,aU 9 10 11 cZ,cL cZ,cQ cZ,cN cZ,aU 13 14 15 cP,cL cP,cQ cP,cN cP,fi 17 (S).cols (S).rows,.map (cx (S).M),.cells [.int .i64 (S).cols,.int .i64 (S).rows,.map 19,.map 20,.map 21] 220 false false,.map (ak (S).A),.map (ak (S).B),.map (ak (S).C),aO 23 bw,au bw] (.one (.int .i64 0)) [aO 24 (ep x),.dead,jg (x.S),eP 4 8 12,aU 5 6 7 cM,cL cM,cQ cM,cN cM,aU 9 10 11 cZ,cL cZ,cQ cZ,cN cZ,aU 13 14 15 cP,cL cP,cQ cP,cN cP,fi 17 (x.S).cols (x.S).rows,.map (cx (x.S).M),.cells [.int .i64 (x.S).cols,.int .i64 (x.S).rows,.map 19,.map 20,.map 21] 220 false false,.map (ak (x.S).A),.map (ak (x.S).B),.map (ak (x.S).C),aO 25 (cJ bw x 6),.dead,au (ep x),au (cJ bw x 6)]:=by
 have hg:=hP.good;have hm:=hg.ok;have hD:=hP.st.dims;have hmb:=hP.mb;have hlen:=hP.len;have hkl:=jL S m;have hK:=nO B S m hm hg.kind hP.qp (by omega);rw[i9 (by omega)]at hK;have htE:fv S.M:=hP.st.tiny
 have hS2:jQ (bY S mb m.v):=⟨hD,hP.st.lev,kg htE hm.v⟩
 have hB2:(((B++bc S m)++[m.edge])).length<=700000:=by
  show(((B++bc S m)++[m.edge])).length<=700000;simp only[List.length_append,List.length_cons,List.length_nil];omega
 refine cO Tryz.func63 ?_
 repeat' (first
  |(refine qz ?_;first
   |refine lI ?_ (hle:=by rw[aY])
   |refine cl ?_ (hi:=by exact AN (S:=S) (S':=S) (bs:=B) (bs':=B++bc S m) (fun _ => .flat .nil) (.flat .nil) rfl hK rfl rfl rfl rfl nL nA rfl)
   |refine cl ?_ (hi:=by exact jj (b:=m.edge) (bs:=(B++bc S m)) (by simp only[List.length_append];omega) rfl rfl (by decide) nL nA rfl)
   |refine cl ?_ (hi:=by exact n6 (S:=S) (bs:=((B++bc S m)++[m.edge])) hD hmb rfl rfl rfl rfl nA rfl)
   |refine cl ?_ (hi:=by exact ou (B:=((B++bc S m)++[m.edge])) (S:=bY S mb m.v) (ov (((B++bc S m)++[m.edge])) bw (bY S mb m.v) m mb hg hS2 hmb hB2 (by have:=hP.lenw;omega) x hx) rfl rfl rfl rfl rfl rfl nL nA rfl))
  |refine zz ?_|refine zx (fun _=>?_) (fun _=>?_)|fail)
 show aE _ _ _ _ _ _ _ _;refine kV [0,1,2,3,4,5,6,7,8,9,10,11,12,13,14,15,16,17,18,19,20,21,22,23,27,28] ?_;rfl
theorem Q5{S:cR}{B bw:List Bool}{m:Mb}{mb:Int}(hP:r7 S B bw m mb)(hk:m.kind=4)(x:qX)(hx:jS m mb ⟨bY ({S with qp:=m.qp}:cR) mb m.v,((B++bc S m)++[m.edge]),0,0,fun _=>[]⟩ 6=some x) :
 bm prog 63 [.one (.ptr 2 0),.one (.ptr 0 0),.one (.ptr 22 0),.one (.int .i64 mb),.agg (mC m)] [aO 1 B,au B,jg (S),eP 4 8 12,aU 5 6 7 cM,cL cM,cQ cM,cN cM,aU 9 10 11 cZ,cL cZ,cQ cZ,cN cZ,aU 13 14 15 cP,cL cP,cQ cP,cN cP,fi 17 (S).cols (S).rows,.map (cx (S).M),.cells [.int .i64 (S).cols,.int .i64 (S).rows,.map 19,.map 20,.map 21] 220 false false,.map (ak (S).A),.map (ak (S).B),.map (ak (S).C),aO 23 bw,au bw] (.one (.int .i64 0)) [aO 24 (ep x),.dead,jg (x.S),eP 4 8 12,aU 5 6 7 cM,cL cM,cQ cM,cN cM,aU 9 10 11 cZ,cL cZ,cQ cZ,cN cZ,aU 13 14 15 cP,cL cP,cQ cP,cN cP,fi 17 (x.S).cols (x.S).rows,.map (cx (x.S).M),.cells [.int .i64 (x.S).cols,.int .i64 (x.S).rows,.map 19,.map 20,.map 21] 220 false false,.map (ak (x.S).A),.map (ak (x.S).B),.map (ak (x.S).C),aO 25 (cJ bw x 6),.dead,au (ep x),au (cJ bw x 6)]:=by
 have hg:=hP.good;have hm:=hg.ok;have hD:=hP.st.dims;have hmb:=hP.mb;have hlen:=hP.len;have hkl:=jL S m;have hK:=nO B S m hm hg.kind hP.qp (by omega);rw[zN hk]at hK;have htE:fv S.M:=hP.st.tiny
 have hS2:jQ (bY ({S with qp:=m.qp}:cR) mb m.v):=⟨hD,hP.st.lev,kg htE hm.v⟩
 have hB2:(((B++bc S m)++[m.edge])).length<=700000:=by
  show(((B++bc S m)++[m.edge])).length<=700000;simp only[List.length_append,List.length_cons,List.length_nil];omega
 refine cO Tryz.func63 ?_
 repeat' (first
  |(refine qz ?_;first
   |refine lI ?_ (hle:=by rw[aY])
   |refine cl ?_ (hi:=by exact AN (S:=S) (S':={S with qp:=m.qp}) (bs:=B) (bs':=B++bc S m) (fun _ => .flat .nil) (.flat .nil) rfl hK rfl rfl rfl rfl nL nA rfl)
   |refine cl ?_ (hi:=by exact jj (b:=m.edge) (bs:=(B++bc S m)) (by simp only[List.length_append];omega) rfl rfl (by decide) nL nA rfl)
   |refine cl ?_ (hi:=by exact n6 (S:=({S with qp:=m.qp}:cR)) (bs:=((B++bc S m)++[m.edge])) hD hmb rfl rfl rfl rfl nA rfl)
   |refine cl ?_ (hi:=by exact ou (B:=((B++bc S m)++[m.edge])) (S:=bY ({S with qp:=m.qp}:cR) mb m.v) (ov (((B++bc S m)++[m.edge])) bw (bY ({S with qp:=m.qp}:cR) mb m.v) m mb hg hS2 hmb hB2 (by have:=hP.lenw;omega) x hx) rfl rfl rfl rfl rfl rfl nL nA rfl))
  |refine zz ?_|refine zx (fun _=>?_) (fun _=>?_)|fail)
 show aE _ _ _ _ _ _ _ _;refine kV [0,1,2,3,4,5,6,7,8,9,10,11,12,13,14,15,16,17,18,19,20,21,22,23,27,28] ?_;rfl
def mX(B:List Bool):Nat->Int->Nat×Bool->Int×(Nat×Bool)
 | 0,x,r=>(x,r)
 | n+1,x,r=>mX B n (2*x+b2 (jq B r)) (dO B r)
def eO(B:List Bool)(n:Nat)(r:Nat×Bool):Int×(Nat×Bool):=(if(mX B n 0 r).2.2=true then 0 else(mX B n 0 r).1,(mX B n 0 r).2)
theorem I8{j:Nat}(h:j<=32):(2:Int)^j<=4294967296:=by
 have h1:=Nat.pow_le_pow_right (show 0<2 by decide) h;have h2:((2^j:Nat):Int)<=((2^32:Nat):Int):=Int.ofNat_le.2 h1;rw[Int.natCast_pow]at h2;exact h2
theorem FP{L:List Int}{B:List Bool}(h:nj L B)(r:Nat×Bool)(n:Nat)(hn:n<=32) :
 bm prog 69 [.one (.ptr 0 0),.one (.int .i64 (n:Nat))] (RH L B r.1 r.2) (.one (.int .u64 (eO B n r).1)) (RH L B (eO B n r).2.1 (eO B n r).2.2):=by
 obtain⟨q,hq⟩:∃q,mX B n 0 r=q:=⟨_,rfl⟩
 unfold eO;rw[hq];refine cO Tryz.func69 ?_
 repeat' (first|refine zz ?_|refine zx (fun _=>?_) (fun _=>?_)|fail)
 refine WX.bQ (σ:=Nat×Int×(Nat×Bool)) (fun s=>[(8,.one (.int .i64 (s.1:Nat))),(5,.one (.int .u64 s.2.1)),(0,.one (.ptr 0 0)),(7,.one (.int .i64 (n:Nat)))]) (fun s=>RH L B s.2.2.1 s.2.2.2) (fun s=>s.1<=n/\0<=s.2.1/\s.2.1<2^s.1/\mX B (n-s.1) s.2.1 s.2.2=q) (fun s=>n-s.1) (0,0,r) ⟨by show 0<=n;omega,by show(0:Int)<=0;omega,by show(0:Int)<2^0;decide,by show mX B (n-0) 0 r=q;rw[Nat.sub_zero];exact hq⟩ (fun s _=>mE) (bq [0,1]) ?_;intro s ⟨h1,h2,h3,h4⟩ ih;have hp:=I8 (j:=s.1) (by omega)
 by_cases hlt:s.1<n
 ·have hb:=Qg (jq B s.2.2);have hio:BW .u64 (s.2.1*2^1) (b2 (jq B s.2.2))=2*s.2.1+b2 (jq B s.2.2):=Ic .u64 rfl h2 (by omega) hb (fun y g0 g1=>hJ (k := .u64) ⟨by show 0<=y;omega,by show y<18446744073709551616;omega⟩)
  obtain⟨k,hk⟩:∃k,n-s.1=k+1:=⟨n-s.1-1,by omega⟩
  rw[hk,mX]at h4
  repeat' (first
   |(refine qz ?_;first
    |refine JF (n:=1) ?_
    |refine cl ?_ (hi:=by exact L4 h s.2.2 rfl rfl rfl (by decide) nL rfl))
   |refine zz ?_|refine zx (fun _=>?_) (fun _=>?_)|fail)
  refine ih (s.1+1,2*s.2.1+b2 (jq B s.2.2),dO B s.2.2) _ _ _ (bq [0,1] (reg:=by(repeat' (first|exact ae.nil|refine ae.flat (by rw[<-hio];rfl) ?_|refine rz ?_|refine ae.sl rfl (by assumption) rfl ?_));first|done|fail)) ⟨by show s.1+1<=n;omega,by show 0<=2*s.2.1+b2 (jq B s.2.2);omega,?_,?_⟩ (by show n-(s.1+1)<n-s.1;omega)
  ·show 2*s.2.1+b2 (jq B s.2.2)<2^(s.1+1);rw[Int.pow_succ];omega
  ·show mX B (n-(s.1+1)) (2*s.2.1+b2 (jq B s.2.2)) (dO B s.2.2)=q;rw[show n-(s.1+1)=k by omega];exact h4
 ·have e0:n-s.1=0:=by omega
  rw[e0,mX]at h4;subst h4
  repeat' (first
   |(refine qz ?_;first
    |refine BD (fun ge=>?_) (fun ge=>?_) (hi:=by exact FT rfl rfl (by decide) rfl))
   |refine zz ?_|refine zx (fun _=>?_) (fun _=>?_)|fail)
  ·rw[if_pos ge];show aE _ _ _ _ _ _ _ _;refine kV [0,1] ?_;rfl
  ·rw[if_neg (by rw[ge];decide)];show aE _ _ _ _ _ _ _ _;refine kV [0,1] ?_;rfl
theorem Jh{L:List Int}{B:List Bool}(h:nj L B)(r:Nat×Bool){n:Nat}{z:Int}(hz:z=(n:Nat))(hn:n<=32){HS:ah}{i k:Nat}(hi:HS[i]? = some (qE k L B r.1 r.2))(hk:HS[k]? = some (ln L))(hd:i≠k){HS':ah}(hh:HS.set i (qE k L B (eO B n r).2.1 (eO B n r).2.2)=HS')(hbd:Nat.blt HS'.length Mem.bound=true) :
 aA.Sound prog ⟨69,[.one (.ptr i 0),.one (.int .i64 z)],HS,.one (.int .u64 (eO B n r).1),HS',[i]⟩:=by
 subst hz;exact OD (fun _ => .flat .nil) (.flat .nil) (FP h r n hn) hi hk hd hh hbd
def AT(B:List Bool)(r:Nat×Bool):Nat:=(PT cZ B r).1.toNat
def Gq(B:List Bool)(r:Nat×Bool):Int×(Nat×Bool):=eO B (AT B r) (PT cZ B r).2
def JZ(B:List Bool)(r:Nat×Bool):Int×(Nat×Bool):=
 if 0<AT B r/\(Gq B r).1<1*2^(AT B r-1)then
  ((Gq B r).1-(1*2^AT B r-1),if(Gq B r).1-(1*2^AT B r-1)=0 then((Gq B r).2.1,true)else(Gq B r).2)
 else Gq B r
structure qW where
 m:Mb
 S:cR
 r:Nat×Bool
def NW(B:List Bool)(mb:Int)(x:qW)(k:Nat):Int:=(dI x.S mb k x.m.qp).2+(JZ B x.r).1
def Lg(B:List Bool)(mb:Int)(x:qW)(k:Nat):Prop:=NW B mb x k<0\/127<NW B mb x k
instance (B:List Bool) (mb:Int) (x:qW) (k:Nat):Decidable (Lg B mb x k):=by unfold Lg;infer_instance
def RU(B:List Bool)(mb:Int)(x:qW)(k:Nat):Int:=if Lg B mb x k then 0 else NW B mb x k
def RV(B:List Bool)(mb:Int)(x:qW)(k:Nat):Mb:={x.m with lev:=gG x.m.lev (k*64) (RU B mb x k)}
def Qp(B:List Bool)(mb:Int)(x:qW)(k:Nat):qW:=
 ⟨RV B mb x k,eH x.S mb k ⟨cw (RV B mb x k) k,(RV B mb x k).qp⟩,if Lg B mb x k then((JZ B x.r).2.1,true)else(JZ B x.r).2⟩
def Qo(B:List Bool)(mb:Int)(x:qW):Nat->qW
 | 0=>x
 | k+1=>Qp B mb (Qo B mb x k) k
end Go.Proofs.YthdciapjllppjaaGreat
namespace Go.Xm
variable [av]
variable {P:Program} {ops:Array Oper} {nt nI:Nat} {al:aL} {hs:ah} {o:Oper} {l:List Oper} {L:List aA} {K:List Ab->aL->ah->Prop} {d:Nat}
theorem SG{t:TypeId}{a y:Operand}{s i off:Nat}{cs vs vs':List XC}{e:TypeId}{opn:Bool}{hs':ah}(hk:SK P ops nt L l al hs' fun bs=>K (⟨true,.none,[i]⟩::bs))(hs2:off+s<=vs.length)(hv:vs.take off++cs++vs.drop (off+s)=vs')(ho:o.op = .store t a y:=by exact rfl)(ht:aF P t s:=by infer_instance)(hw:aw ops (rg al) o=some true:=by exact rfl)(hd:o.dst = .none:=by exact rfl)
 (ha:ag (rg al) a = .one (.ptr i off):=by exact rfl) (hy:cE (ag (rg al) y)=some cs:=by exact rfl) (hi:hs[i]? = some (.cells vs e opn false):=by exact rfl) (hs1:s=cs.length:=by exact rfl) (hh:hs.set i (.cells vs' e opn false)=hs':=by first|(simp only[List.set_cons_succ,List.set_cons_zero];exact rfl)|exact rfl):SK P ops nt L (o::l) al hs K:=
 F_ ho hw hd ha hy hi hs1 hs2 hv hh hk
end Go.Xm
namespace Go.Proofs.YthdciapjllppjaaGreat
open Go.Xm
variable [av]
def y_:Mb:=⟨0,0,fun _=>(0,0),false,fun _=>0⟩
def Ti:Nat->Bool:=fun _=>false
def Q9(v:Nat->Int×Int)(k:Nat)(x:Int×Int):Nat->Int×Int:=fun j=>if j=k then x else v j
def yI(S:cR)(B:List Bool)(r:Nat×Bool):Int×(Nat×Bool):=if S.inter=true then PT cM B r else(if jq B r=true then 4 else 3,dO B r)
def tm(n:Int):Int:=([-2,-1,1,2]:List Int).getD n.toNat 0
def Sj(S:cR)(B:List Bool)(k:Int×(Nat×Bool)):Int×(Nat×Bool):=
 if k.1=4 then(if S.qp+tm (eO B 2 k.2).1<1\/31<S.qp+tm (eO B 2 k.2).1 then(1,((eO B 2 k.2).2.1,true))else(S.qp+tm (eO B 2 k.2).1,(eO B 2 k.2).2))else(S.qp,k.2)
def Pf(S:cR)(B:List Bool)(r:Nat×Bool):qW:=
 ⟨{y_ with kind:=(yI S B r).1,qp:=(Sj S B (yI S B r)).1},{S with qp:=(Sj S B (yI S B r)).1},(Sj S B (yI S B r)).2⟩
def Rx(B:List Bool)(mb:Int)(x:qW)(k:Nat):qW:=
 ⟨{x.m with v:=Q9 x.m.v k (Q_ B (gk x.S.M x.S.cols x.S.rows mb k) x.r).1},{x.S with M:=cD x.S.M x.S.cols mb k (Q_ B (gk x.S.M x.S.cols x.S.rows mb k) x.r).1},(Q_ B (gk x.S.M x.S.cols x.S.rows mb k) x.r).2⟩
def Pe(B:List Bool)(mb:Int)(x:qW):qW:=
 if x.m.kind=1 then⟨{x.m with v:=fun _=>(Q_ B (gk x.S.M x.S.cols x.S.rows mb 0) x.r).1},x.S,(Q_ B (gk x.S.M x.S.cols x.S.rows mb 0) x.r).2⟩
 else if x.m.kind=2 then Rx B mb (Rx B mb (Rx B mb (Rx B mb x 0) 1) 2) 3
 else⟨{x.m with edge:=jq B x.r},x.S,dO B x.r⟩
def JU(mb:Int)(x:qW):qW:=⟨x.m,bY x.S mb x.m.v,x.r⟩
def JT(B:List Bool)(mb:Int)(x:qW):qW:=if alone x.m=true then Qo B mb x 6 else x
def Qy(p c:Int)(k:Nat):Bool:=if k<4 then decide (H8 .i64 p (8/2^k)≠0)else decide (H8 .u64 c (2/2^(k-4))≠0)
def Q8(B:List Bool)(x:qW):qW×(Nat->Bool):=(⟨x.m,x.S,(eO B 2 (PT cP B x.r).2).2⟩,Qy (PT cP B x.r).1 (eO B 2 (PT cP B x.r).2).1)
def TF(B:List Bool)(mb:Int)(x:qW):qW×(Nat->Bool):=if x.m.kind=0 then(JU mb x,Ti)else Q8 B (JT B mb (JU mb (Pe B mb x)))
def D7(S:cR)(B:List Bool)(mb:Int)(r:Nat×Bool):qW×(Nat->Bool):=TF B mb (Pf S B r)
theorem Mv(x:Int) : -2<=tm x/\tm x<=2:=nK (p:=fun x => -2<=x/\x<=2) (by decide) (by decide) x.toNat
structure RA(x z:qW):Prop where
 cols:z.S.cols=x.S.cols
 rows:z.S.rows=x.S.rows
 qp:z.m.qp=x.m.qp
 kind:z.m.kind=x.m.kind
abbrev X1(X:qW)(t0:(Int×Int)×(Nat×Bool)):Mb:={X.m with v:=Q9 X.m.v 0 t0.1}
def kq(b:Kn):Int×Int:=(b.lv 0,b.qp)
def NB(T U:nB):Prop:=∀k,(dk U k).map kq=(dk T k).map kq
structure Rel(S R:cR):Prop where
 inter:R.inter=S.inter
 qp:R.qp=S.qp
 cols:R.cols=S.cols
 rows:R.rows=S.rows
 M:∀k,dk R.M k=dk S.M k
 a:NB S.A R.A
 b:NB S.B R.B
 c:NB S.C R.C
structure P0(m o:Mb):Prop where
 kind:o.kind=m.kind
 qp:o.qp=m.qp
 v:∀k,k<4->o.v k=m.v k
 edge:o.edge=m.edge
 lev:∀i,o.lev i=if alone m=true/\i%64=0/\i<384 then m.lev i else 0
structure C3(S:cR)(m:Mb):Prop where
 kind:0<=m.kind/\m.kind<=4
 alo:S.inter=false->alone m=true
 edge:alone m=false->m.edge=false
 st:m.kind=4->(ei S.qp m.qp).2=true
 qp:m.kind≠4->m.qp=S.qp
 vecs:∀k,k<4->sq m k
 lev:∀i,i<384->zP m i
theorem rk{S:cR}{m:Mb}(hm:iU m)(h:db m S.inter S.qp=0):C3 S m:=by
 have hk:=hm.kind;unfold db at h;split at h
 ·cases h
 rename_i h1;split at h
 ·cases h
 rename_i h2;split at h
 ·cases h
 rename_i h3;split at h
 ·cases h
 rename_i h4;split at h
 ·rename_i h5;exact absurd h h5
 rename_i h5;have hv:fA m=0:=Decidable.byContradiction fun g=>h5 g
 refine⟨⟨hk.1,?_⟩,?_,?_,?_,?_,?_,?_⟩
 ·exact Decidable.byContradiction fun g=>h1 (.inl (by omega))
 ·intro g
  cases ha:alone m with
  | true=>rfl
  | false=>exact absurd (.inr ⟨g,ha⟩) h1
 ·intro g
  cases he:m.edge with
  | false=>rfl
  | true=>exact absurd ⟨he,g⟩ h2
 ·intro g
  cases hs:(ei S.qp m.qp).2 with
  | true=>rfl
  | false=>exact absurd ⟨g,hs⟩ h3
 ·intro g;exact Decidable.byContradiction fun e=>h4 ⟨g,e⟩
 ·unfold fA at hv;split at hv
  ·rename_i g;intro k hk
   match k,hk with
   | 0,_=>exact g.1
   | 1,_=>exact g.2.1
   | 2,_=>exact g.2.2.1
   | 3,_=>exact g.2.2.2
  ·cases hv
 ·unfold uc at h;split at h
  ·assumption
  ·cases h
structure RB(S:cR)(Y:List Bool)(m:Mb)(z:qW):Prop where
 rel:Rel S z.S
 r:z.r=(Y.length,false)
 kind:z.m.kind=m.kind
 qp:z.m.qp=m.qp
 v:∀k,k<4->z.m.v k=m.v k
 edge:z.m.edge=m.edge
 lev:∀i,z.m.lev i=0
theorem tG{m:Mb}{mb:Int}{x0:qX}{k:Nat}{x:qX}(h:jS m mb x0 (k+1)=some x):∃y r,jS m mb x0 k=some y/\mQ m y.S mb k=some r/\x=fY m mb k y (EC m y.S mb k r):=by
 rw[jS]at h;obtain⟨y,hy,h2⟩:=Option.bind_eq_some_iff.1 h;obtain⟨r,hr,h3⟩:=Option.map_eq_some_iff.1 h2;exact⟨y,r,hy,hr,h3.symm⟩
structure Sq(m:Mb)(k:Nat)(x:qX)(z:qW):Prop where
 rel:Rel x.S z.S
 r:z.r=(x.B.length,false)
 kind:z.m.kind=m.kind
 qp:z.m.qp=m.qp
 v:∀j,j<4->z.m.v j=m.v j
 edge:z.m.edge=m.edge
 lev:∀i,z.m.lev i=if i%64=0/\i<64*k then m.lev i else 0
structure Sn(x:qX):Prop where
 pat:0<=x.pat/\x.pat<16
 col:0<=x.col/\x.col<4
 has:∀j,j<6->Qy x.pat x.col j=decide (0<(x.ev j).length)
noncomputable def mW(S:cR)(X bw:List Bool)(m:Mb)(mb:Int):Option (cR×List Bool×List Bool):=
 if m.kind=0 then some (bY S mb m.v,X++bc S m,bw)else(jS m mb ⟨(fy S X m mb).1,(fy S X m mb).2,0,0,fun _=>[]⟩ 6).map fun x=>(x.S,ep x,cJ bw x 6)
noncomputable def RT(S:cR)(X:List Bool)(m:Mb)(mb:Int)(k:Nat):List Ev:=
 if m.kind=0 then []else match jS m mb ⟨(fy S X m mb).1,(fy S X m mb).2,0,0,fun _=>[]⟩ 6 with
  | some x=>x.ev k
  | none=>[]
structure qZ(h:Hd):Prop where
 dims:lY h.cols h.rows
 yes:h.w=true->∀i,i<64->8<=h.a i/\8<=h.b i
 no:h.w=false->∀i,i<64->h.a i=0/\h.b i=0
theorem Cy(h:Hd)(ho:qZ h):bm prog 79 [.agg (dP h)] [] (.one (.int .i64 0)) []:=by
 obtain⟨w,hw⟩:∃w,h.w=w:=⟨_,rfl⟩
 have h0:(dP h)[0]? = some (.bool w):=by rw[<-hw];rfl
 refine cO Tryz.func79 ?_
 repeat' (first|refine zz ?_|refine zx (fun _=>?_) (fun _=>?_)|fail)
 refine WX.bQ (σ:=Nat) (fun j=>[(4,.one (.int .i64 (j:Nat))),(1,.one (.ptr 0 0))]) (fun _=>[.cells (dP h) 24 false false]) (fun j=>j<=64) (fun j=>64-j) 0 (by omega) (fun s _=>mE) (bq [0]) ?_;intro j hj ih
 by_cases hj64:j<64
 ·have ga:=JN h hj64;have gb:=JO h hj64;cases w
  ·have hn:=ho.no hw j hj64
   repeat' (first
    |(refine qz ?_;first
     |refine ld (hc:=h0) ?_
     |refine ld (hc:=ga) ?_
     |refine ld (hc:=gb) ?_)
    |refine zz ?_|refine zx (fun _=>?_) (fun _=>?_)|fail)
   refine ih (j+1) _ _ _ (bq [0]) (by omega) (by omega)
  ·have hn:=ho.yes hw j hj64
   repeat' (first
    |(refine qz ?_;first
     |refine ld (hc:=h0) ?_
     |refine ld (hc:=ga) ?_
     |refine ld (hc:=gb) ?_)
    |refine zz ?_|refine zx (fun _=>?_) (fun _=>?_)|fail)
   refine ih (j+1) _ _ _ (bq [0]) (by omega) (by omega)
 ·repeat' (first|refine zz ?_|refine zx (fun _=>?_) (fun _=>?_)|fail)
  show aE _ _ _ _ _ _ _ _;refine kV [] ?_;rfl
theorem Gl{h:Hd}(ho:qZ h){HS:ah}(hb:Nat.blt HS.length Mem.bound=true):aA.Sound prog ⟨79,[.agg (dP h)],HS,.one (.int .i64 0),HS,[]⟩:=
 ay (Cy h ho) (by simp only[List.all_cons,List.all_nil,Bool.and_true];exact oF h) rfl hb
theorem BT(h:Hd)(ho:qZ h):bm prog 45 [.agg (gV h)] [] (.one (.int .i64 0)) []:=by
 have h1:=ho.dims.c0;have h2:=ho.dims.c1;have h3:=ho.dims.r0;have h4:=ho.dims.r1;refine cO Tryz.func45 ?_
 repeat' (first
  |(refine qz ?_;first
   |refine t_ (cs:=dP h) ?_ (hle:=by rw[cu];decide) (hc:=Dy h)
   |refine cl ?_ (hi:=by exact Gl ho rfl))
  |refine zz ?_|refine zx (fun _=>?_) (fun _=>?_)|fail)
 show aE _ _ _ _ _ _ _ _;refine kV [] ?_;rfl
theorem ox{h:Hd}(ho:qZ h){HS:ah}(hb:Nat.blt HS.length Mem.bound=true):aA.Sound prog ⟨45,[.agg (gV h)],HS,.one (.int .i64 0),HS,[]⟩:=
 ay (BT h ho) (by simp only[List.all_cons,List.all_nil,Bool.and_true];exact eC h) rfl hb
structure Ph where
 id:Int
 inter:Bool
 down:Bool
 qp:Int
def wY(p:Ph):List XC:=[.int .i64 p.id,.bool p.inter,.bool p.down,.int .i64 p.qp]
structure sD(p:Ph):Prop where
 id:0<=p.id/\p.id<=65535
 qp:1<=p.qp/\p.qp<=31
 down:p.down=true->p.inter=true
instance Rl (p:Ph):b7 (.agg (wY p)):=i5 rfl
theorem Cc(p:Ph)(ho:sD p):bm prog 56 [.agg (wY p)] [] (.one (.int .i64 0)) []:=by
 have h1:=ho.id;have h2:=ho.qp
 obtain⟨d,hd⟩:∃d,p.down=d:=⟨_,rfl⟩
 have hl:(wY p)[2]? = some (.bool d):=by rw[<-hd];rfl
 cases d
 ·refine cO Tryz.func56 ?_
  repeat' (first
   |(refine qz ?_;first
    |refine ld (hc:=hl) ?_)
   |refine zz ?_|refine zx (fun _=>?_) (fun _=>?_)|fail)
  show aE _ _ _ _ _ _ _ _;refine kV [] ?_;rfl
 ·have hi:=ho.down hd;have hl2:(wY p)[1]? = some (.bool true):=by rw[<-hi];rfl
  refine cO Tryz.func56 ?_
  repeat' (first
   |(refine qz ?_;first
    |refine ld (hc:=hl) ?_
    |refine ld (hc:=hl2) ?_)
   |refine zz ?_|refine zx (fun _=>?_) (fun _=>?_)|fail)
  show aE _ _ _ _ _ _ _ _;refine kV [] ?_;rfl
theorem lL{p:Ph}(ho:sD p){HS:ah}(hb:Nat.blt HS.length Mem.bound=true):aA.Sound prog ⟨56,[.agg (wY p)],HS,.one (.int .i64 0),HS,[]⟩:=
 ay (Cc p ho) rfl rfl hb
theorem MD{cols rows:Int}(h:lY cols rows){HS:ah}{N:Nat}(hN:HS.length=N){HS':ah}(hh:HS++[fi (N+1) cols rows,.map (cx [])]=HS')(hbd:Nat.blt HS'.length Mem.bound=true) :
 aA.Sound prog ⟨83,[.one (.int .i64 cols),.one (.int .i64 rows)],HS,.one (.ptr N 0),HS',[]⟩:=by
 subst hN;refine bp (os:=[fi (HS.length+1) cols rows,.map (cx [])]) [] [] 2 (Ka cols rows h) (by simp) .nil .nil ?_ rfl (.flat (.flat .nil)) (.flat (.flat .nil)) (by show 0<2;omega) rfl ?_ rfl rfl hh hbd (.inl rfl)
 ·exact .cons (by simp[aj.br,XC.ok]) (.flat .nil)
 ·exact .cons rfl (.flat .nil)
abbrev Hj(h:Hd)(p:Ph):ah:=[.cells [.ptr 0 0,.int .i64 p.id,.bool p.inter,.bool p.down,.int .i64 p.qp,.int .i64 p.qp,.ptr 14 0,.ptr 16 0] 157 false false,fi 15 h.cols h.rows,.map (cx []),.cells [.int .i64 h.cols,.int .i64 h.rows,.map 17,.map 18,.map 19] 220 false false,.map (ak []),.map (ak []),.map (ak [])]
theorem EF(h:Hd)(p:Ph)(ho:qZ h):bm prog 61 [.one (.ptr 0 0),.agg (gV h),.agg (wY p)] [eP 1 5 9,aU 2 3 4 cM,cL cM,cQ cM,cN cM,aU 6 7 8 cZ,cL cZ,cQ cZ,cN cZ,aU 10 11 12 cP,cL cP,cQ cP,cN cP] (.one (.ptr 13 0)) ([eP 1 5 9,aU 2 3 4 cM,cL cM,cQ cM,cN cM,aU 6 7 8 cZ,cL cZ,cQ cZ,cN cZ,aU 10 11 12 cP,cL cP,cQ cP,cN cP]++Hj h p):=by
 have h1:=ho.dims.c0;have h2:=ho.dims.c1;have h3:=ho.dims.r0;have h4:=ho.dims.r1;refine cO Tryz.func61 ?_
 repeat' (first
  |(refine qz ?_;first
   |refine lI ?_ (hle:=by rfl)
   |refine cl ?_ (hi:=by exact MD (cols:=h.cols) (rows:=h.rows) ho.dims nL (by first|(simp only[List.cons_append,List.nil_append];exact rfl)|exact rfl) rfl)
   |refine cl ?_ (hi:=by exact Ia (cols:=h.cols) (rows:=h.rows) (by omega) (by omega) nL (by first|(simp only[List.cons_append,List.nil_append];exact rfl)|exact rfl) rfl))
  |refine zz ?_|refine zx (fun _=>?_) (fun _=>?_)|fail)
 show aE _ _ _ _ _ _ _ _;refine kV [0,1,2,3,4,5,6,7,8,9,10,11,12,21,15,16,17,18,19,20] ?_;rfl
abbrev KA:List Nat:=[0,1,2,3,4,5,6,7,8,9,10,11,12]
abbrev Db(h:Hd)(p:Ph)(N:Nat):ah:=[.cells [.ptr 0 0,.int .i64 p.id,.bool p.inter,.bool p.down,.int .i64 p.qp,.int .i64 p.qp,.ptr (N+1) 0,.ptr (N+3) 0] 157 false false,fi (N+2) h.cols h.rows,.map (cx []),.cells [.int .i64 h.cols,.int .i64 h.rows,.map (N+4),.map (N+5),.map (N+6)] 220 false false,.map (ak []),.map (ak []),.map (ak [])]
abbrev kC:ah:=[eP 1 5 9,aU 2 3 4 cM,cL cM,cQ cM,cN cM,aU 6 7 8 cZ,cL cZ,cQ cZ,cN cZ,aU 10 11 12 cP,cL cP,cQ cP,cN cP]
theorem K1{HS:ah}(hS:HS.take 13=kC){τ : Nat->Nat}(h:∀j,j<13 -> τ j=j):af τ HS KA kC:=by
 have g:∀j,j<13->HS[j]? = kC[j]?:=fun j hj=>by rw[<-hS,List.getElem?_take_of_lt hj]
 have h1:=h 1 (by decide);have h2:=h 2 (by decide);have h3:=h 3 (by decide);have h4:=h 4 (by decide);have h5:=h 5 (by decide);have h6:=h 6 (by decide);have h7:=h 7 (by decide);have h8:=h 8 (by decide);have h9:=h 9 (by decide);have h10:=h 10 (by decide);have h11:=h 11 (by decide);have h12:=h 12 (by decide);refine .cons ?_ (.cons ?_ (.flat (g 2 (by decide)) (.flat (g 3 (by decide)) (.flat (g 4 (by decide)) (.cons ?_ (.flat (g 6 (by decide)) (.flat (g 7 (by decide)) (.flat (g 8 (by decide)) (.cons ?_ (.flat (g 10 (by decide)) (.flat (g 11 (by decide)) (.flat (g 12 (by decide)) .nil))))))))))))
 ·rw[g 0 (by decide)];simp only[aj.aB,List.map_cons,List.map_nil,XC.aB,h1,h5,h9];rfl
 ·rw[g 1 (by decide)];simp only[aj.aB,List.map_cons,List.map_nil,XC.aB,h2,h3,h4];rfl
 ·rw[g 5 (by decide)];simp only[aj.aB,List.map_cons,List.map_nil,XC.aB,h6,h7,h8];rfl
 ·rw[g 9 (by decide)];simp only[aj.aB,List.map_cons,List.map_nil,XC.aB,h10,h11,h12];rfl
theorem tI{n:Nat}(hn:13<=n){l:ah}(hl:aq n l):aq n (kC++l):=by
 refine .cons ?_ (.cons ?_ (.flat (.flat (.flat (.cons ?_ (.flat (.flat (.flat (.cons ?_ (.flat (.flat (.flat hl))))))))))))
 all_goals simp[aj.br,XC.ok];omega
theorem K0{τ : Nat->Nat}(h:∀j,j<13 -> τ j=j){l l':ah}(hl:dS τ l l'):dS τ (kC++l) (kC++l'):=by
 have h1:=h 1 (by decide);have h2:=h 2 (by decide);have h3:=h 3 (by decide);have h4:=h 4 (by decide);have h5:=h 5 (by decide);have h6:=h 6 (by decide);have h7:=h 7 (by decide);have h8:=h 8 (by decide);have h9:=h 9 (by decide);have h10:=h 10 (by decide);have h11:=h 11 (by decide);have h12:=h 12 (by decide);refine .cons ?_ (.cons ?_ (.flat (.flat (.flat (.cons ?_ (.flat (.flat (.flat (.cons ?_ (.flat (.flat (.flat hl))))))))))))
 ·simp only[aj.aB,List.map_cons,List.map_nil,XC.aB,h1,h5,h9]
 ·simp only[aj.aB,List.map_cons,List.map_nil,XC.aB,h2,h3,h4]
 ·simp only[aj.aB,List.map_cons,List.map_nil,XC.aB,h6,h7,h8]
 ·simp only[aj.aB,List.map_cons,List.map_nil,XC.aB,h10,h11,h12]
theorem Hx{HS:ah}(hS:HS.take 13=kC){os:ah}:bC HS KA (kC++os)=HS++os:=by
 have g:∀j,j<13->HS[j]? = kC[j]?:=fun j hj=>by rw[<-hS,List.getElem?_take_of_lt hj]
 simp only[bC,kC,List.cons_append,List.nil_append];rw[aC (g 0 (by decide)),aC (g 1 (by decide)),aC (g 2 (by decide)),aC (g 3 (by decide)),aC (g 4 (by decide)),aC (g 5 (by decide)),aC (g 6 (by decide)),aC (g 7 (by decide)),aC (g 8 (by decide)),aC (g 9 (by decide)),aC (g 10 (by decide)),aC (g 11 (by decide)),aC (g 12 (by decide))]
theorem DJ(r:List Nat):∀j,j<13->nth (KA++r) j=j:=fun j hj=>by
 have hq:∀q:Fin 13,KA[q.val]? = some q.val:=by decide
 have:=hq ⟨j,hj⟩;unfold nth;rw[List.getD_eq_getElem?_getD,List.getElem?_append_left (by exact hj),this];rfl
theorem Hk{h:Hd}{p:Ph}(ho:qZ h){HS:ah}(hS:HS.take 13=kC){N:Nat}(hN:HS.length=N){HS':ah}(hh:HS++Db h p N=HS')(hbd:Nat.blt HS'.length Mem.bound=true) :
 aA.Sound prog ⟨61,[.one (.ptr 0 0),.agg (gV h),.agg (wY p)],HS,.one (.ptr N 0),HS',KA⟩:=by
 subst hN
 have e0:∀j,j<13->nth KA j=j:=fun j hj=>by
  have:=DJ [] j hj;rw[List.append_nil]at this;exact this
 refine bp (os:=kC++Db h p HS.length) KA KA 7 (EF h p ho) (by decide) (K1 hS e0) (tI (l:=[]) (Nat.le_refl _) .nil) (tI (l:=Hj h p) (by show 13<=20;omega) ?_) rfl (.cons (by show 0<13;omega) (.flat (.flat .nil))) (.cons rfl (.flat (.flat .nil))) (by show 13<20;omega) rfl (K0 (DJ _) ?_) ?_ rfl (by rw[Hx hS];exact hh) hbd (.inl rfl)
 ·refine .cons ?_ (.cons ?_ (.flat (.cons ?_ (.flat (.flat (.flat .nil))))))
  all_goals simp[aj.br,XC.ok]
 ·exact .cons rfl (.cons rfl (.flat (.cons rfl (.flat (.flat (.flat .nil))))))
 ·rfl
abbrev Rt(S:cR)(N:Nat):aj := .cells [.ptr 0 0,.int .i64 S.id,.bool S.inter,.bool S.down,.int .i64 S.hqp,.int .i64 S.qp,.ptr (N+1) 0,.ptr (N+3) 0] 157 false false
abbrev Rw(S:cR)(N:Nat):aj := .cells [.int .i64 S.cols,.int .i64 S.rows,.map (N+4),.map (N+5),.map (N+6)] 220 false false
abbrev O7(S:cR)(N:Nat):ah:=[Rt S N,fi (N+2) S.cols S.rows,.map (cx S.M),Rw S N,.map (ak S.A),.map (ak S.B),.map (ak S.C)]
abbrev OP(N:Nat)(r:List Nat):List Nat:=N::0::1::2::3::4::5::6::7::8::9::10::11::12::(N+1)::(N+2)::(N+3)::(N+4)::(N+5)::(N+6)::r
abbrev Q6(S:cR)(N:Nat)(l:ah):ah:=Rt S N::eP 1 5 9::aU 2 3 4 cM::cL cM::cQ cM::cN cM::aU 6 7 8 cZ::cL cZ::cQ cZ::cN cZ::aU 10 11 12 cP::cL cP::cQ cP::cN cP::fi (N+2) S.cols S.rows :: .map (cx S.M)::Rw S N :: .map (ak S.A) :: .map (ak S.B) :: .map (ak S.C)::l
theorem O9{HS:ah}{S:cR}{N:Nat}{τ : Nat->Nat}(hS:HS.take 13=kC)(hN:(HS.drop N).take 7=O7 S N)(h3:∀j,j<13 -> τ (3+j)=j)(h16:∀j,j<6 -> τ (16+j)=N+1+j){ls:List Nat}{l:ah}(hl:af τ HS ls l):af τ HS (OP N ls) (iz S++l):=by
 have g:∀j,j<13->HS[j]? = kC[j]?:=fun j hj=>by rw[<-hS,List.getElem?_take_of_lt hj]
 have k:∀j,j<7->HS[N+j]? = (O7 S N)[j]?:=fun j hj=>by rw[<-hN,List.getElem?_take_of_lt hj,List.getElem?_drop]
 have a1 : τ 4=1:=h3 1 (by decide);have a2 : τ 5=2:=h3 2 (by decide);have a3 : τ 6=3:=h3 3 (by decide);have a4 : τ 7=4:=h3 4 (by decide);have a5 : τ 8=5:=h3 5 (by decide);have a6 : τ 9=6:=h3 6 (by decide);have a7 : τ 10=7:=h3 7 (by decide);have a8 : τ 11=8:=h3 8 (by decide);have a9 : τ 12=9:=h3 9 (by decide);have b0 : τ 13=10:=h3 10 (by decide);have b1 : τ 14=11:=h3 11 (by decide);have b2 : τ 15=12:=h3 12 (by decide);have a0 : τ 3=0:=h3 0 (by decide);have d0 : τ 16=N+1:=h16 0 (by decide);have d1 : τ 17=N+2:=h16 1 (by decide);have d2 : τ 18=N+3:=h16 2 (by decide);have d3 : τ 19=N+4:=h16 3 (by decide);have d4 : τ 20=N+5:=h16 4 (by decide);have d5 : τ 21=N+6:=h16 5 (by decide);refine .cons ?_ (.cons ?_ (.cons ?_ (.flat (g 2 (by decide)) (.flat (g 3 (by decide)) (.flat (g 4 (by decide)) (.cons ?_ (.flat (g 6 (by decide)) (.flat (g 7 (by decide)) (.flat (g 8 (by decide)) (.cons ?_ (.flat (g 10 (by decide)) (.flat (g 11 (by decide)) (.flat (g 12 (by decide)) (.cons ?_ (.flat (k 2 (by decide)) (.cons ?_ (.flat (k 4 (by decide)) (.flat (k 5 (by decide)) (.flat (k 6 (by decide)) hl)))))))))))))))))))
 ·have:=k 0 (by decide);rw[Nat.add_zero]at this;rw[this];simp only[aj.aB,List.map_cons,List.map_nil,XC.aB,a0,d0,d2];rfl
 ·rw[g 0 (by decide)];simp only[aj.aB,List.map_cons,List.map_nil,XC.aB,a1,a5,a9];rfl
 ·rw[g 1 (by decide)];simp only[aj.aB,List.map_cons,List.map_nil,XC.aB,a2,a3,a4];rfl
 ·rw[g 5 (by decide)];simp only[aj.aB,List.map_cons,List.map_nil,XC.aB,a6,a7,a8];rfl
 ·rw[g 9 (by decide)];simp only[aj.aB,List.map_cons,List.map_nil,XC.aB,b0,b1,b2];rfl
 ·rw[k 1 (by decide)];simp only[aj.aB,List.map_cons,List.map_nil,XC.aB,d1];rfl
 ·rw[k 3 (by decide)];simp only[aj.aB,List.map_cons,List.map_nil,XC.aB,d3,d4,d5];rfl
theorem O8{S:cR}{N:Nat}{τ : Nat->Nat}(h3:∀j,j<13 -> τ (3+j)=j)(h16:∀j,j<6 -> τ (16+j)=N+1+j){l l':ah}(hl:dS τ l l'):dS τ (iz S++l) (Q6 S N l'):=by
 have a1 : τ 4=1:=h3 1 (by decide);have a2 : τ 5=2:=h3 2 (by decide);have a3 : τ 6=3:=h3 3 (by decide);have a4 : τ 7=4:=h3 4 (by decide);have a5 : τ 8=5:=h3 5 (by decide);have a6 : τ 9=6:=h3 6 (by decide);have a7 : τ 10=7:=h3 7 (by decide);have a8 : τ 11=8:=h3 8 (by decide);have a9 : τ 12=9:=h3 9 (by decide);have b0 : τ 13=10:=h3 10 (by decide);have b1 : τ 14=11:=h3 11 (by decide);have b2 : τ 15=12:=h3 12 (by decide);have a0 : τ 3=0:=h3 0 (by decide);have d0 : τ 16=N+1:=h16 0 (by decide);have d1 : τ 17=N+2:=h16 1 (by decide);have d2 : τ 18=N+3:=h16 2 (by decide);have d3 : τ 19=N+4:=h16 3 (by decide);have d4 : τ 20=N+5:=h16 4 (by decide);have d5 : τ 21=N+6:=h16 5 (by decide);refine .cons ?_ (.cons ?_ (.cons ?_ (.flat (.flat (.flat (.cons ?_ (.flat (.flat (.flat (.cons ?_ (.flat (.flat (.flat (.cons ?_ (.flat (.cons ?_ (.flat (.flat (.flat hl)))))))))))))))))))
 all_goals simp only[aj.aB,List.map_cons,List.map_nil,XC.aB, *]
theorem IS(a b N:Nat)(r:List Nat):∀j,j<13->nth (a::b::OP N r) (3+j)=j:=fun j hj=>by
 have hq:∀q:Fin 13,KA[q.val]? = some q.val:=by decide
 have:=hq ⟨j,hj⟩;unfold nth;rw[List.getD_eq_getElem?_getD,Nat.add_comm];show((KA++((N+1)::(N+2)::(N+3)::(N+4)::(N+5)::(N+6)::r))[j]?).getD 0=j;rw[List.getElem?_append_left (by exact hj),this];rfl
theorem DK(a b N:Nat)(r:List Nat):∀j,j<6->nth (a::b::OP N r) (16+j)=N+1+j:=fun j hj=>by
 match j,hj with
 | 0,_=>rfl
 | 1,_=>rfl
 | 2,_=>rfl
 | 3,_=>rfl
 | 4,_=>rfl
 | 5,_=>rfl
theorem Mq{S:cR}{B bw:List Bool}{m:Mb}{mb:Int}(hP:r7 S B bw m mb){S':cR}{B' bw':List Bool}(h:mW S B bw m mb=some (S',B',bw')) :
 bm prog 63 [.one (.ptr 2 0),.one (.ptr 0 0),.one (.ptr 22 0),.one (.int .i64 mb),.agg (mC m)] (aO 1 B::au B::(iz S++[aO 23 bw,au bw])) (.one (.int .i64 0)) (aO 24 B' :: .dead::(iz S'++[aO 25 bw',.dead,au B',au bw'])):=by
 have hk:=hP.good.kind;have hk0:=hP.good.ok.kind;unfold mW at h
 by_cases h0:m.kind=0
 ·rw[if_pos h0]at h;cases Option.some.inj h;exact Q1 hP h0
 ·rw [if_neg h0]at h;obtain⟨x,hx,e⟩:=Option.map_eq_some_iff.1 h;cases e;unfold fy at hx
  by_cases h1:m.kind=1
  ·rw[if_neg h0,if_pos h1]at hx;exact Q2 hP h1 x hx
  ·by_cases h2:m.kind=2
   ·rw[if_neg h0,if_neg h1,if_pos h2]at hx;exact Q3 hP h2 x hx
   ·rw[if_neg h0,if_neg h1,if_neg h2]at hx
    by_cases h3:m.kind=3
    ·rw[i9 (by omega)]at hx;exact Q4 hP h3 x hx
    ·have h4:m.kind=4:=by omega
     rw[zN h4]at hx;exact Q5 hP h4 x hx
theorem OA{S:cR}{B bw:List Bool}{m:Mb}{mb:Int}(hP:r7 S B bw m mb){S':cR}{B' bw':List Bool}(h:mW S B bw m mb=some (S',B',bw')){HS:ah}{i k j g N:Nat}(hi:HS[i]? = some (aO k B))(hk:HS[k]? = some (au B))(hS:HS.take 13=kC)(hN:(HS.drop N).take 7=O7 S N)(hj:HS[j]? = some (aO g bw))(hg:HS[g]? = some (au bw))
 (hnd:(i::k::OP N [j,g]).Nodup) {M:Nat}(hM:HS.length=M) {HS':ah}(hh:bC HS [i,k,N,0,1,2,3,4,5,6,7,8,9,10,11,12,N+1,N+2,N+3,N+4,N+5,N+6,j,g] [aO M B',.dead,Rt S' N,eP 1 5 9,aU 2 3 4 cM,cL cM,cQ cM,cN cM,aU 6 7 8 cZ,cL cZ,cQ cZ,cN cZ,aU 10 11 12 cP,cL cP,cQ cP,cN cP,fi (N+2) S'.cols S'.rows,.map (cx S'.M),Rw S' N,.map (ak S'.A),.map (ak S'.B),.map (ak S'.C),aO (M+1) bw',.dead,au B',au bw']=HS') (hbd:Nat.blt HS'.length Mem.bound=true) :
 aA.Sound prog ⟨63,[.one (.ptr N 0),.one (.ptr i 0),.one (.ptr j 0),.one (.int .i64 mb),.agg (mC m)],HS,.one (.int .i64 0),HS',i::k::OP N [j,g]⟩:=by
 subst hM;have h3:=IS i k N [j,g];have h16:=DK i k N [j,g];have h3':=IS i k N ([j,g]++List.range' HS.length 2);have h16':=DK i k N ([j,g]++List.range' HS.length 2);have hv:=O9 (S:=S) hS hN h3 h16 (ls:=[j,g]) (l:=[aO 23 bw,au bw]) (af.gT hj rfl rfl rfl (.flat hg .nil));have ho:=nZ S 24 (by omega) (l:=[aO 23 bw,au bw]) (.cons (by simp[aj.br,XC.ok,aJ]) (.flat .nil));have ho':=nZ S' 26 (by omega) (l:=[aO 25 bw',.dead,au B',au bw']) (.cons (by simp[aj.br,XC.ok,aJ]) (.flat (.flat (.flat .nil))));have hr:=O8 (S:=S') (N:=N) h3' h16' (l:=[aO 25 bw',.dead,au B',au bw']) (l':=[aO (HS.length+1) bw',.dead,au B',au bw']) (.cons (by simp only[aj.aB,List.map_cons,List.map_nil,XC.aB,aX];rfl) (.flat (.flat (.flat .nil))));refine bp (os:=aO HS.length B' :: .dead::Q6 S' N [aO (HS.length+1) bw',.dead,au B',au bw']) (i::k::OP N [j,g]) (i::k::OP N [j,g]) 2 (Mq hP h) hnd (af.gT hi rfl rfl rfl (.flat hk hv)) (.cons (by simp[aj.br,XC.ok,aJ]) (.flat ho)) (.cons (by simp[aj.br,XC.ok,aJ]) (.flat ho')) rfl (.cons (by show 2<24;omega) (.cons (by show 0<24;omega) (.cons (by show 22<24;omega) (.flat (.flat .nil))))) (.cons rfl (.cons rfl (.cons rfl (.flat (.flat .nil))))) (b7.ok _) (b7.aB _) ?_ (DX ..) rfl hh hbd (.inl rfl);exact .cons (by simp only[aj.aB,List.map_cons,List.map_nil,XC.aB,aX];rfl) (.flat hr)
end Go.Proofs.YthdciapjllppjaaGreat
