/-
  A part of the proof: Put3, Undiff2, Firsts, StP, OutL, TakeF, MbLaw, Begin, InPlace, Put4, PutLaw.
-/
import Derived.Test.YthdciapjllppjaaGreatWaF
import Derived.Test.YthdciapjllppjaaGreatWaN
import Derived.Test.YthdciapjllppjaaGreatWaQ
import Derived.Test.YthdciapjllppjaaGreatWaT
import Derived.Test.YthdciapjllppjaaGreatWaV
import Derived.Test.YthdciapjllppjaaGreatWaW
set_option maxRecDepth 10000
set_option maxHeartbeats 8000000
set_option linter.unusedVariables false
set_option linter.unusedSectionVars false
set_option linter.unusedSimpArgs false
open Go.Proofs.Tryz (prog)
namespace Go.Proofs.YthdciapjllppjaaGreat
open Go.Xm
variable [ak]
theorem Rl{S:cD}{B bw:List Bool}{m:Mb}{mb:Int}(hP:sf S B bw m mb)(hk:m.kind=3)(x:ri)(hx:kh m mb ⟨bX S mb m.v,((B++bj S m)++[m.edge]),0,0,fun _=>[]⟩ 6=some x) :
 bq prog 63 [.one (.ptr 2 0),.one (.ptr 0 0),.one (.ptr 22 0),.one (.int .i64 mb),.agg (mC m)] [aO 1 B,au B,jz (S),eZ 4 8 12,aW 5 6 7 cM,c6 cM,c9 cM,c7 cM,aW 9 10 11 cZ,c6 cZ,c9 cZ,c7 cZ,aW 13 14 15 cP,c6 cP,c9 cP,c7 cP,fA 17 (S).cols (S).rows,.map (cB (S).M),.cells [.int .i64 (S).cols,.int .i64 (S).rows,.map 19,.map 20,.map 21] 220 false false,.map (aq (S).A),.map (aq (S).B),.map (aq (S).C),aO 23 bw,au bw] (.one (.int .i64 0)) [aO 24 (eG x),.dead,jz (x.S),eZ 4 8 12,aW 5 6 7 cM,c6 cM,c9 cM,c7 cM,aW 9 10 11 cZ,c6 cZ,c9 cZ,c7 cZ,aW 13 14 15 cP,c6 cP,c9 cP,c7 cP,fA 17 (x.S).cols (x.S).rows,.map (cB (x.S).M),.cells [.int .i64 (x.S).cols,.int .i64 (x.S).rows,.map 19,.map 20,.map 21] 220 false false,.map (aq (x.S).A),.map (aq (x.S).B),.map (aq (x.S).C),aO 25 (cV bw x 6),.dead,au (eG x),au (cV bw x 6)]:=by
 have hg:=hP.good;have hm:=hg.ok;have hD:=hP.st.dims;have hmb:=hP.mb;have hlen:=hP.len;have hkl:=j8 S m;have hK:=nQ B S m hm hg.kind hP.qp (by omega);rw[ju (by omega)]at hK;have htE:fH S.M:=hP.st.tiny
 have hS2:kg (bX S mb m.v):=⟨hD,hP.st.lev,kH htE hm.v⟩
 have hB2:(((B++bj S m)++[m.edge])).length<=700000:=by
  show(((B++bj S m)++[m.edge])).length<=700000;simp only[List.length_append,List.length_cons,List.length_nil];omega
 refine cO Tryz.func63 ?_
 repeat' (first
  |(refine qz ?_;first
   |refine jV ?_ (hle:=by rw[bl])
   |refine cl ?_ (hi:=by exact AK (S:=S) (S':=S) (bs:=B) (bs':=B++bj S m) (fun _ => .flat .nil) (.flat .nil) rfl hK rfl rfl rfl rfl nL nA rfl)
   |refine cl ?_ (hi:=by exact jB (b:=m.edge) (bs:=(B++bj S m)) (by simp only[List.length_append];omega) rfl rfl (by decide) nL nA rfl)
   |refine cl ?_ (hi:=by exact n_ (S:=S) (bs:=((B++bj S m)++[m.edge])) hD hmb rfl rfl rfl rfl nA rfl)
   |refine cl ?_ (hi:=by exact oB (B:=((B++bj S m)++[m.edge])) (S:=bX S mb m.v) (oC (((B++bj S m)++[m.edge])) bw (bX S mb m.v) m mb hg hS2 hmb hB2 (by have:=hP.lenw;omega) x hx) rfl rfl rfl rfl rfl rfl nL nA rfl))
  |refine zz ?_|refine zx (fun _=>?_) (fun _=>?_)|fail)
 show aE _ _ _ _ _ _ _ _;refine kV [0,1,2,3,4,5,6,7,8,9,10,11,12,13,14,15,16,17,18,19,20,21,22,23,27,28] ?_;rfl
theorem Rm{S:cD}{B bw:List Bool}{m:Mb}{mb:Int}(hP:sf S B bw m mb)(hk:m.kind=4)(x:ri)(hx:kh m mb ⟨bX ({S with qp:=m.qp}:cD) mb m.v,((B++bj S m)++[m.edge]),0,0,fun _=>[]⟩ 6=some x) :
 bq prog 63 [.one (.ptr 2 0),.one (.ptr 0 0),.one (.ptr 22 0),.one (.int .i64 mb),.agg (mC m)] [aO 1 B,au B,jz (S),eZ 4 8 12,aW 5 6 7 cM,c6 cM,c9 cM,c7 cM,aW 9 10 11 cZ,c6 cZ,c9 cZ,c7 cZ,aW 13 14 15 cP,c6 cP,c9 cP,c7 cP,fA 17 (S).cols (S).rows,.map (cB (S).M),.cells [.int .i64 (S).cols,.int .i64 (S).rows,.map 19,.map 20,.map 21] 220 false false,.map (aq (S).A),.map (aq (S).B),.map (aq (S).C),aO 23 bw,au bw] (.one (.int .i64 0)) [aO 24 (eG x),.dead,jz (x.S),eZ 4 8 12,aW 5 6 7 cM,c6 cM,c9 cM,c7 cM,aW 9 10 11 cZ,c6 cZ,c9 cZ,c7 cZ,aW 13 14 15 cP,c6 cP,c9 cP,c7 cP,fA 17 (x.S).cols (x.S).rows,.map (cB (x.S).M),.cells [.int .i64 (x.S).cols,.int .i64 (x.S).rows,.map 19,.map 20,.map 21] 220 false false,.map (aq (x.S).A),.map (aq (x.S).B),.map (aq (x.S).C),aO 25 (cV bw x 6),.dead,au (eG x),au (cV bw x 6)]:=by
 have hg:=hP.good;have hm:=hg.ok;have hD:=hP.st.dims;have hmb:=hP.mb;have hlen:=hP.len;have hkl:=j8 S m;have hK:=nQ B S m hm hg.kind hP.qp (by omega);rw[zH hk]at hK;have htE:fH S.M:=hP.st.tiny
 have hS2:kg (bX ({S with qp:=m.qp}:cD) mb m.v):=⟨hD,hP.st.lev,kH htE hm.v⟩
 have hB2:(((B++bj S m)++[m.edge])).length<=700000:=by
  show(((B++bj S m)++[m.edge])).length<=700000;simp only[List.length_append,List.length_cons,List.length_nil];omega
 refine cO Tryz.func63 ?_
 repeat' (first
  |(refine qz ?_;first
   |refine jV ?_ (hle:=by rw[bl])
   |refine cl ?_ (hi:=by exact AK (S:=S) (S':={S with qp:=m.qp}) (bs:=B) (bs':=B++bj S m) (fun _ => .flat .nil) (.flat .nil) rfl hK rfl rfl rfl rfl nL nA rfl)
   |refine cl ?_ (hi:=by exact jB (b:=m.edge) (bs:=(B++bj S m)) (by simp only[List.length_append];omega) rfl rfl (by decide) nL nA rfl)
   |refine cl ?_ (hi:=by exact n_ (S:=({S with qp:=m.qp}:cD)) (bs:=((B++bj S m)++[m.edge])) hD hmb rfl rfl rfl rfl nA rfl)
   |refine cl ?_ (hi:=by exact oB (B:=((B++bj S m)++[m.edge])) (S:=bX ({S with qp:=m.qp}:cD) mb m.v) (oC (((B++bj S m)++[m.edge])) bw (bX ({S with qp:=m.qp}:cD) mb m.v) m mb hg hS2 hmb hB2 (by have:=hP.lenw;omega) x hx) rfl rfl rfl rfl rfl rfl nL nA rfl))
  |refine zz ?_|refine zx (fun _=>?_) (fun _=>?_)|fail)
 show aE _ _ _ _ _ _ _ _;refine kV [0,1,2,3,4,5,6,7,8,9,10,11,12,13,14,15,16,17,18,19,20,21,22,23,27,28] ?_;rfl
def AR(B:List Bool)(r:Nat×Bool):Nat:=(PW cZ B r).1.toNat
def Gi(B:List Bool)(r:Nat×Bool):Int×(Nat×Bool):=bT B (AR B r) (PW cZ B r).2
def JQ(B:List Bool)(r:Nat×Bool):Int×(Nat×Bool):=
 if 0<AR B r/\(Gi B r).1<1*2^(AR B r-1)then
  ((Gi B r).1-(1*2^AR B r-1),if(Gi B r).1-(1*2^AR B r-1)=0 then((Gi B r).2.1,true)else(Gi B r).2)
 else Gi B r
structure rh where
 m:Mb
 S:cD
 r:Nat×Bool
def NV(B:List Bool)(mb:Int)(x:rh)(k:Nat):Int:=(dB x.S mb k x.m.qp).2+(JQ B x.r).1
def K8(B:List Bool)(mb:Int)(x:rh)(k:Nat):Prop:=NV B mb x k<0\/127<NV B mb x k
instance (B:List Bool) (mb:Int) (x:rh) (k:Nat):Decidable (K8 B mb x k):=by unfold K8;infer_instance
def Sh(B:List Bool)(mb:Int)(x:rh)(k:Nat):Int:=if K8 B mb x k then 0 else NV B mb x k
def Si(B:List Bool)(mb:Int)(x:rh)(k:Nat):Mb:={x.m with lev:=fV x.m.lev (k*64) (Sh B mb x k)}
def QF(B:List Bool)(mb:Int)(x:rh)(k:Nat):rh:=
 ⟨Si B mb x k,eC x.S mb k ⟨cy (Si B mb x k) k,(Si B mb x k).qp⟩,if K8 B mb x k then((JQ B x.r).2.1,true)else(JQ B x.r).2⟩
def QE(B:List Bool)(mb:Int)(x:rh):Nat->rh
 | 0=>x
 | k+1=>QF B mb (QE B mb x k) k
end Go.Proofs.YthdciapjllppjaaGreat
namespace Go.Xm
variable [ak]
variable {P:Program} {ops:Array Oper} {nt nI:Nat} {al:aN} {hs:ah} {o:Oper} {l:List Oper} {L:List az} {K:List Ab->aN->ah->Prop} {d:Nat}
theorem RU{t:TypeId}{a y:Operand}{s i off:Nat}{cs vs vs':List XC}{e:TypeId}{opn:Bool}{hs':ah}(hk:SK P ops nt L l al hs' fun bs=>K (⟨true,.none,[i]⟩::bs))(hs2:off+s<=vs.length)(hv:vs.take off++cs++vs.drop (off+s)=vs')(ho:o.op = .store t a y:=by exact rfl)(ht:aG P t s:=by infer_instance)(hw:av ops (rg al) o=some true:=by exact rfl)(hd:o.dst = .none:=by exact rfl)
 (ha:ae (rg al) a = .one (.ptr i off):=by exact rfl) (hy:cJ (ae (rg al) y)=some cs:=by exact rfl) (hi:hs[i]? = some (.cells vs e opn false):=by exact rfl) (hs1:s=cs.length:=by exact rfl) (hh:hs.set i (.cells vs' e opn false)=hs':=by first|(simp only[List.set_cons_succ,List.set_cons_zero];exact rfl)|exact rfl):SK P ops nt L (o::l) al hs K:=
 F2 ho hw hd ha hy hi hs1 hs2 hv hh hk
end Go.Xm
namespace Go.Proofs.YthdciapjllppjaaGreat
open Go.Xm
variable [ak]
def zV:Mb:=⟨0,0,fun _=>(0,0),false,fun _=>0⟩
def TN:Nat->Bool:=fun _=>false
def Rt(v:Nat->Int×Int)(k:Nat)(x:Int×Int):Nat->Int×Int:=fun j=>if j=k then x else v j
def yE(S:cD)(B:List Bool)(r:Nat×Bool):Int×(Nat×Bool):=if S.inter=true then PW cM B r else(if fF B r=true then 4 else 3,ca B r)
def tj(n:Int):Int:=([-2,-1,1,2]:List Int).getD n.toNat 0
def SG(S:cD)(B:List Bool)(k:Int×(Nat×Bool)):Int×(Nat×Bool):=
 if k.1=4 then(if S.qp+tj (bT B 2 k.2).1<1\/31<S.qp+tj (bT B 2 k.2).1 then(1,((bT B 2 k.2).2.1,true))else(S.qp+tj (bT B 2 k.2).1,(bT B 2 k.2).2))else(S.qp,k.2)
def Pd(S:cD)(B:List Bool)(r:Nat×Bool):rh:=
 ⟨{zV with kind:=(yE S B r).1,qp:=(SG S B (yE S B r)).1},{S with qp:=(SG S B (yE S B r)).1},(SG S B (yE S B r)).2⟩
def RW(B:List Bool)(mb:Int)(x:rh)(k:Nat):rh:=
 ⟨{x.m with v:=Rt x.m.v k (Ru B (gG x.S.M x.S.cols x.S.rows mb k) x.r).1},{x.S with M:=cH x.S.M x.S.cols mb k (Ru B (gG x.S.M x.S.cols x.S.rows mb k) x.r).1},(Ru B (gG x.S.M x.S.cols x.S.rows mb k) x.r).2⟩
def Pb(B:List Bool)(mb:Int)(x:rh):rh:=
 if x.m.kind=1 then⟨{x.m with v:=fun _=>(Ru B (gG x.S.M x.S.cols x.S.rows mb 0) x.r).1},x.S,(Ru B (gG x.S.M x.S.cols x.S.rows mb 0) x.r).2⟩
 else if x.m.kind=2 then RW B mb (RW B mb (RW B mb (RW B mb x 0) 1) 2) 3
 else⟨{x.m with edge:=fF B x.r},x.S,ca B x.r⟩
def JL(mb:Int)(x:rh):rh:=⟨x.m,bX x.S mb x.m.v,x.r⟩
def JJ(B:List Bool)(mb:Int)(x:rh):rh:=if alone x.m=true then QE B mb x 6 else x
def QO(p c:Int)(k:Nat):Bool:=if k<4 then decide (BT .i64 p (8/2^k)≠0)else decide (BT .u64 c (2/2^(k-4))≠0)
def Rp(B:List Bool)(x:rh):rh×(Nat->Bool):=(⟨x.m,x.S,(bT B 2 (PW cP B x.r).2).2⟩,QO (PW cP B x.r).1 (bT B 2 (PW cP B x.r).2).1)
def T7(B:List Bool)(mb:Int)(x:rh):rh×(Nat->Bool):=if x.m.kind=0 then(JL mb x,TN)else Rp B (JJ B mb (JL mb (Pb B mb x)))
def D6(S:cD)(B:List Bool)(mb:Int)(r:Nat×Bool):rh×(Nat->Bool):=T7 B mb (Pd S B r)
theorem Mr(x:Int) : -2<=tj x/\tj x<=2:=nN (p:=fun x => -2<=x/\x<=2) (by decide) (by decide) x.toNat
structure RY(x z:rh):Prop where
 cols:z.S.cols=x.S.cols
 rows:z.S.rows=x.S.rows
 qp:z.m.qp=x.m.qp
 kind:z.m.kind=x.m.kind
abbrev X1(X:rh)(t0:(Int×Int)×(Nat×Bool)):Mb:={X.m with v:=Rt X.m.v 0 t0.1}
def kq(b:Kn):Int×Int:=(b.lv 0,b.qp)
def NA(T U:nq):Prop:=∀k,(eK U k).map kq=(eK T k).map kq
structure Rel(S R:cD):Prop where
 inter:R.inter=S.inter
 qp:R.qp=S.qp
 cols:R.cols=S.cols
 rows:R.rows=S.rows
 M:∀k,eK R.M k=eK S.M k
 a:NA S.A R.A
 b:NA S.B R.B
 c:NA S.C R.C
structure MV(m o:Mb):Prop where
 kind:o.kind=m.kind
 qp:o.qp=m.qp
 v:∀k,k<4->o.v k=m.v k
 edge:o.edge=m.edge
 lev:∀i,o.lev i=if alone m=true/\i%64=0/\i<384 then m.lev i else 0
structure C4(S:cD)(m:Mb):Prop where
 kind:0<=m.kind/\m.kind<=4
 alo:S.inter=false->alone m=true
 edge:alone m=false->m.edge=false
 st:m.kind=4->(ep S.qp m.qp).2=true
 qp:m.kind≠4->m.qp=S.qp
 vecs:∀k,k<4->sA m k
 lev:∀i,i<384->zJ m i
theorem rp{S:cD}{m:Mb}(hm:jR m)(h:dD m S.inter S.qp=0):C4 S m:=by
 have hk:=hm.kind;unfold dD at h;split at h
 ·cases h
 rename_i h1;split at h
 ·cases h
 rename_i h2;split at h
 ·cases h
 rename_i h3;split at h
 ·cases h
 rename_i h4;split at h
 ·rename_i h5;exact absurd h h5
 rename_i h5;have hv:fS m=0:=Decidable.byContradiction fun g=>h5 g
 refine⟨⟨hk.1,?_⟩,?_,?_,?_,?_,?_,?_⟩
 ·exact Decidable.byContradiction fun g=>h1 (.inl (by omega))
 ·intro g
  cases ha:alone m with
  | true=>rfl
  | false=>exact absurd (.inr ⟨g,ha⟩) h1
 ·intro g
  cases he:m.edge with
  | false=>rfl
  | true=>exact absurd ⟨he,g⟩ h2
 ·intro g
  cases hs:(ep S.qp m.qp).2 with
  | true=>rfl
  | false=>exact absurd ⟨g,hs⟩ h3
 ·intro g;exact Decidable.byContradiction fun e=>h4 ⟨g,e⟩
 ·unfold fS at hv;split at hv
  ·rename_i g;intro k hk
   match k,hk with
   | 0,_=>exact g.1
   | 1,_=>exact g.2.1
   | 2,_=>exact g.2.2.1
   | 3,_=>exact g.2.2.2
  ·cases hv
 ·unfold uv at h;split at h
  ·assumption
  ·cases h
structure R1(S:cD)(Y:List Bool)(m:Mb)(z:rh):Prop where
 rel:Rel S z.S
 r:z.r=(Y.length,false)
 kind:z.m.kind=m.kind
 qp:z.m.qp=m.qp
 v:∀k,k<4->z.m.v k=m.v k
 edge:z.m.edge=m.edge
 lev:∀i,z.m.lev i=0
theorem tM{m:Mb}{mb:Int}{x0:ri}{k:Nat}{x:ri}(h:kh m mb x0 (k+1)=some x):∃y r,kh m mb x0 k=some y/\m7 m y.S mb k=some r/\x=gw m mb k y (EE m y.S mb k r):=by
 rw[kh]at h;obtain⟨y,hy,h2⟩:=Option.bind_eq_some_iff.1 h;obtain⟨r,hr,h3⟩:=Option.map_eq_some_iff.1 h2;exact⟨y,r,hy,hr,h3.symm⟩
structure SQ(m:Mb)(k:Nat)(x:ri)(z:rh):Prop where
 rel:Rel x.S z.S
 r:z.r=(x.B.length,false)
 kind:z.m.kind=m.kind
 qp:z.m.qp=m.qp
 v:∀j,j<4->z.m.v j=m.v j
 edge:z.m.edge=m.edge
 lev:∀i,z.m.lev i=if i%64=0/\i<64*k then m.lev i else 0
structure SN(x:ri):Prop where
 pat:0<=x.pat/\x.pat<16
 col:0<=x.col/\x.col<4
 has:∀j,j<6->QO x.pat x.col j=decide (0<(x.ev j).length)
noncomputable def m_(S:cD)(X bw:List Bool)(m:Mb)(mb:Int):Option (cD×List Bool×List Bool):=
 if m.kind=0 then some (bX S mb m.v,X++bj S m,bw)else(kh m mb ⟨(fN S X m mb).1,(fN S X m mb).2,0,0,fun _=>[]⟩ 6).map fun x=>(x.S,eG x,cV bw x 6)
noncomputable def Sg(S:cD)(X:List Bool)(m:Mb)(mb:Int)(k:Nat):List Ev:=
 if m.kind=0 then []else match kh m mb ⟨(fN S X m mb).1,(fN S X m mb).2,0,0,fun _=>[]⟩ 6 with
  | some x=>x.ev k
  | none=>[]
abbrev Kw:List Nat:=[0,1,2,3,4,5,6,7,8,9,10,11,12]
abbrev Dd(h:Hd)(p:Ph)(N:Nat):ah:=[.cells [.ptr 0 0,.int .i64 p.id,.bool p.inter,.bool p.down,.int .i64 p.qp,.int .i64 p.qp,.ptr (N+1) 0,.ptr (N+3) 0] 157 false false,fA (N+2) h.cols h.rows,.map (cB []),.cells [.int .i64 h.cols,.int .i64 h.rows,.map (N+4),.map (N+5),.map (N+6)] 220 false false,.map (aq []),.map (aq []),.map (aq [])]
abbrev kW:ah:=[eZ 1 5 9,aW 2 3 4 cM,c6 cM,c9 cM,c7 cM,aW 6 7 8 cZ,c6 cZ,c9 cZ,c7 cZ,aW 10 11 12 cP,c6 cP,c9 cP,c7 cP]
theorem KV{HS:ah}(hS:HS.take 13=kW){τ : Nat->Nat}(h:∀j,j<13 -> τ j=j):af τ HS Kw kW:=by
 have g:∀j,j<13->HS[j]? = kW[j]?:=fun j hj=>by rw[<-hS,List.getElem?_take_of_lt hj]
 have h1:=h 1 (by decide);have h2:=h 2 (by decide);have h3:=h 3 (by decide);have h4:=h 4 (by decide);have h5:=h 5 (by decide);have h6:=h 6 (by decide);have h7:=h 7 (by decide);have h8:=h 8 (by decide);have h9:=h 9 (by decide);have h10:=h 10 (by decide);have h11:=h 11 (by decide);have h12:=h 12 (by decide);refine .cons ?_ (.cons ?_ (.flat (g 2 (by decide)) (.flat (g 3 (by decide)) (.flat (g 4 (by decide)) (.cons ?_ (.flat (g 6 (by decide)) (.flat (g 7 (by decide)) (.flat (g 8 (by decide)) (.cons ?_ (.flat (g 10 (by decide)) (.flat (g 11 (by decide)) (.flat (g 12 (by decide)) .nil))))))))))))
 ·rw[g 0 (by decide)];simp only[aj.aB,List.map_cons,List.map_nil,XC.aB,h1,h5,h9];rfl
 ·rw[g 1 (by decide)];simp only[aj.aB,List.map_cons,List.map_nil,XC.aB,h2,h3,h4];rfl
 ·rw[g 5 (by decide)];simp only[aj.aB,List.map_cons,List.map_nil,XC.aB,h6,h7,h8];rfl
 ·rw[g 9 (by decide)];simp only[aj.aB,List.map_cons,List.map_nil,XC.aB,h10,h11,h12];rfl
theorem tN{n:Nat}(hn:13<=n){l:ah}(hl:aw n l):aw n (kW++l):=by
 refine .cons ?_ (.cons ?_ (.flat (.flat (.flat (.cons ?_ (.flat (.flat (.flat (.cons ?_ (.flat (.flat (.flat hl))))))))))))
 all_goals simp[aj.bH,XC.ok];omega
theorem KU{τ : Nat->Nat}(h:∀j,j<13 -> τ j=j){l l':ah}(hl:dX τ l l'):dX τ (kW++l) (kW++l'):=by
 have h1:=h 1 (by decide);have h2:=h 2 (by decide);have h3:=h 3 (by decide);have h4:=h 4 (by decide);have h5:=h 5 (by decide);have h6:=h 6 (by decide);have h7:=h 7 (by decide);have h8:=h 8 (by decide);have h9:=h 9 (by decide);have h10:=h 10 (by decide);have h11:=h 11 (by decide);have h12:=h 12 (by decide);refine .cons ?_ (.cons ?_ (.flat (.flat (.flat (.cons ?_ (.flat (.flat (.flat (.cons ?_ (.flat (.flat (.flat hl))))))))))))
 ·simp only[aj.aB,List.map_cons,List.map_nil,XC.aB,h1,h5,h9]
 ·simp only[aj.aB,List.map_cons,List.map_nil,XC.aB,h2,h3,h4]
 ·simp only[aj.aB,List.map_cons,List.map_nil,XC.aB,h6,h7,h8]
 ·simp only[aj.aB,List.map_cons,List.map_nil,XC.aB,h10,h11,h12]
theorem Hg{HS:ah}(hS:HS.take 13=kW){os:ah}:bE HS Kw (kW++os)=HS++os:=by
 have g:∀j,j<13->HS[j]? = kW[j]?:=fun j hj=>by rw[<-hS,List.getElem?_take_of_lt hj]
 simp only[bE,kW,List.cons_append,List.nil_append];rw[aF (g 0 (by decide)),aF (g 1 (by decide)),aF (g 2 (by decide)),aF (g 3 (by decide)),aF (g 4 (by decide)),aF (g 5 (by decide)),aF (g 6 (by decide)),aF (g 7 (by decide)),aF (g 8 (by decide)),aF (g 9 (by decide)),aF (g 10 (by decide)),aF (g 11 (by decide)),aF (g 12 (by decide))]
theorem DE(r:List Nat):∀j,j<13->nth (Kw++r) j=j:=fun j hj=>by
 have hq:∀q:Fin 13,Kw[q.val]? = some q.val:=by decide
 have:=hq ⟨j,hj⟩;unfold nth;rw[List.getD_eq_getElem?_getD,List.getElem?_append_left (by exact hj),this];rfl
theorem G9{h:Hd}{p:Ph}(ho:lB h){HS:ah}(hS:HS.take 13=kW){N:Nat}(hN:HS.length=N){HS':ah}(hh:HS++Dd h p N=HS')(hbd:Nat.blt HS'.length Mem.bound=true) :
 az.Sound prog ⟨61,[.one (.ptr 0 0),.agg (b7 h),.agg (sn p)],HS,.one (.ptr N 0),HS',Kw⟩:=by
 subst hN
 have e0:∀j,j<13->nth Kw j=j:=fun j hj=>by
  have:=DE [] j hj;rw[List.append_nil]at this;exact this
 refine bz (os:=kW++Dd h p HS.length) Kw Kw 7 (EH h p ho) (by decide) (KV hS e0) (tN (l:=[]) (Nat.le_refl _) .nil) (tN (l:=G8 h p) (by show 13<=20;omega) ?_) rfl (.cons (by show 0<13;omega) (.flat (.flat .nil))) (.cons rfl (.flat (.flat .nil))) (by show 13<20;omega) rfl (KU (DE _) ?_) ?_ rfl (by rw[Hg hS];exact hh) hbd (.inl rfl)
 ·refine .cons ?_ (.cons ?_ (.flat (.cons ?_ (.flat (.flat (.flat .nil))))))
  all_goals simp[aj.bH,XC.ok]
 ·exact .cons rfl (.cons rfl (.flat (.cons rfl (.flat (.flat (.flat .nil))))))
 ·rfl
abbrev RS(S:cD)(N:Nat):aj := .cells [.ptr 0 0,.int .i64 S.id,.bool S.inter,.bool S.down,.int .i64 S.hqp,.int .i64 S.qp,.ptr (N+1) 0,.ptr (N+3) 0] 157 false false
abbrev RV(S:cD)(N:Nat):aj := .cells [.int .i64 S.cols,.int .i64 S.rows,.map (N+4),.map (N+5),.map (N+6)] 220 false false
abbrev O5(S:cD)(N:Nat):ah:=[RS S N,fA (N+2) S.cols S.rows,.map (cB S.M),RV S N,.map (aq S.A),.map (aq S.B),.map (aq S.C)]
abbrev OM(N:Nat)(r:List Nat):List Nat:=N::0::1::2::3::4::5::6::7::8::9::10::11::12::(N+1)::(N+2)::(N+3)::(N+4)::(N+5)::(N+6)::r
abbrev Rn(S:cD)(N:Nat)(l:ah):ah:=RS S N::eZ 1 5 9::aW 2 3 4 cM::c6 cM::c9 cM::c7 cM::aW 6 7 8 cZ::c6 cZ::c9 cZ::c7 cZ::aW 10 11 12 cP::c6 cP::c9 cP::c7 cP::fA (N+2) S.cols S.rows :: .map (cB S.M)::RV S N :: .map (aq S.A) :: .map (aq S.B) :: .map (aq S.C)::l
theorem O7{HS:ah}{S:cD}{N:Nat}{τ : Nat->Nat}(hS:HS.take 13=kW)(hN:(HS.drop N).take 7=O5 S N)(h3:∀j,j<13 -> τ (3+j)=j)(h16:∀j,j<6 -> τ (16+j)=N+1+j){ls:List Nat}{l:ah}(hl:af τ HS ls l):af τ HS (OM N ls) (iR S++l):=by
 have g:∀j,j<13->HS[j]? = kW[j]?:=fun j hj=>by rw[<-hS,List.getElem?_take_of_lt hj]
 have k:∀j,j<7->HS[N+j]? = (O5 S N)[j]?:=fun j hj=>by rw[<-hN,List.getElem?_take_of_lt hj,List.getElem?_drop]
 have a1 : τ 4=1:=h3 1 (by decide);have a2 : τ 5=2:=h3 2 (by decide);have a3 : τ 6=3:=h3 3 (by decide);have a4 : τ 7=4:=h3 4 (by decide);have a5 : τ 8=5:=h3 5 (by decide);have a6 : τ 9=6:=h3 6 (by decide);have a7 : τ 10=7:=h3 7 (by decide);have a8 : τ 11=8:=h3 8 (by decide);have a9 : τ 12=9:=h3 9 (by decide);have b0 : τ 13=10:=h3 10 (by decide);have b1 : τ 14=11:=h3 11 (by decide);have b2 : τ 15=12:=h3 12 (by decide);have a0 : τ 3=0:=h3 0 (by decide);have d0 : τ 16=N+1:=h16 0 (by decide);have d1 : τ 17=N+2:=h16 1 (by decide);have d2 : τ 18=N+3:=h16 2 (by decide);have d3 : τ 19=N+4:=h16 3 (by decide);have d4 : τ 20=N+5:=h16 4 (by decide);have d5 : τ 21=N+6:=h16 5 (by decide);refine .cons ?_ (.cons ?_ (.cons ?_ (.flat (g 2 (by decide)) (.flat (g 3 (by decide)) (.flat (g 4 (by decide)) (.cons ?_ (.flat (g 6 (by decide)) (.flat (g 7 (by decide)) (.flat (g 8 (by decide)) (.cons ?_ (.flat (g 10 (by decide)) (.flat (g 11 (by decide)) (.flat (g 12 (by decide)) (.cons ?_ (.flat (k 2 (by decide)) (.cons ?_ (.flat (k 4 (by decide)) (.flat (k 5 (by decide)) (.flat (k 6 (by decide)) hl)))))))))))))))))))
 ·have:=k 0 (by decide);rw[Nat.add_zero]at this;rw[this];simp only[aj.aB,List.map_cons,List.map_nil,XC.aB,a0,d0,d2];rfl
 ·rw[g 0 (by decide)];simp only[aj.aB,List.map_cons,List.map_nil,XC.aB,a1,a5,a9];rfl
 ·rw[g 1 (by decide)];simp only[aj.aB,List.map_cons,List.map_nil,XC.aB,a2,a3,a4];rfl
 ·rw[g 5 (by decide)];simp only[aj.aB,List.map_cons,List.map_nil,XC.aB,a6,a7,a8];rfl
 ·rw[g 9 (by decide)];simp only[aj.aB,List.map_cons,List.map_nil,XC.aB,b0,b1,b2];rfl
 ·rw[k 1 (by decide)];simp only[aj.aB,List.map_cons,List.map_nil,XC.aB,d1];rfl
 ·rw[k 3 (by decide)];simp only[aj.aB,List.map_cons,List.map_nil,XC.aB,d3,d4,d5];rfl
theorem O6{S:cD}{N:Nat}{τ : Nat->Nat}(h3:∀j,j<13 -> τ (3+j)=j)(h16:∀j,j<6 -> τ (16+j)=N+1+j){l l':ah}(hl:dX τ l l'):dX τ (iR S++l) (Rn S N l'):=by
 have a1 : τ 4=1:=h3 1 (by decide);have a2 : τ 5=2:=h3 2 (by decide);have a3 : τ 6=3:=h3 3 (by decide);have a4 : τ 7=4:=h3 4 (by decide);have a5 : τ 8=5:=h3 5 (by decide);have a6 : τ 9=6:=h3 6 (by decide);have a7 : τ 10=7:=h3 7 (by decide);have a8 : τ 11=8:=h3 8 (by decide);have a9 : τ 12=9:=h3 9 (by decide);have b0 : τ 13=10:=h3 10 (by decide);have b1 : τ 14=11:=h3 11 (by decide);have b2 : τ 15=12:=h3 12 (by decide);have a0 : τ 3=0:=h3 0 (by decide);have d0 : τ 16=N+1:=h16 0 (by decide);have d1 : τ 17=N+2:=h16 1 (by decide);have d2 : τ 18=N+3:=h16 2 (by decide);have d3 : τ 19=N+4:=h16 3 (by decide);have d4 : τ 20=N+5:=h16 4 (by decide);have d5 : τ 21=N+6:=h16 5 (by decide);refine .cons ?_ (.cons ?_ (.cons ?_ (.flat (.flat (.flat (.cons ?_ (.flat (.flat (.flat (.cons ?_ (.flat (.flat (.flat (.cons ?_ (.flat (.cons ?_ (.flat (.flat (.flat hl)))))))))))))))))))
 all_goals simp only[aj.aB,List.map_cons,List.map_nil,XC.aB, *]
theorem Iz(a b N:Nat)(r:List Nat):∀j,j<13->nth (a::b::OM N r) (3+j)=j:=fun j hj=>by
 have hq:∀q:Fin 13,Kw[q.val]? = some q.val:=by decide
 have:=hq ⟨j,hj⟩;unfold nth;rw[List.getD_eq_getElem?_getD,Nat.add_comm];show((Kw++((N+1)::(N+2)::(N+3)::(N+4)::(N+5)::(N+6)::r))[j]?).getD 0=j;rw[List.getElem?_append_left (by exact hj),this];rfl
theorem DF(a b N:Nat)(r:List Nat):∀j,j<6->nth (a::b::OM N r) (16+j)=N+1+j:=fun j hj=>by
 match j,hj with
 | 0,_=>rfl
 | 1,_=>rfl
 | 2,_=>rfl
 | 3,_=>rfl
 | 4,_=>rfl
 | 5,_=>rfl
theorem Mm{S:cD}{B bw:List Bool}{m:Mb}{mb:Int}(hP:sf S B bw m mb){S':cD}{B' bw':List Bool}(h:m_ S B bw m mb=some (S',B',bw')) :
 bq prog 63 [.one (.ptr 2 0),.one (.ptr 0 0),.one (.ptr 22 0),.one (.int .i64 mb),.agg (mC m)] (aO 1 B::au B::(iR S++[aO 23 bw,au bw])) (.one (.int .i64 0)) (aO 24 B' :: .dead::(iR S'++[aO 25 bw',.dead,au B',au bw'])):=by
 have hk:=hP.good.kind;have hk0:=hP.good.ok.kind;unfold m_ at h
 by_cases h0:m.kind=0
 ·rw[if_pos h0]at h;cases Option.some.inj h;exact Ri hP h0
 ·rw [if_neg h0]at h;obtain⟨x,hx,e⟩:=Option.map_eq_some_iff.1 h;cases e;unfold fN at hx
  by_cases h1:m.kind=1
  ·rw[if_neg h0,if_pos h1]at hx;exact Rj hP h1 x hx
  ·by_cases h2:m.kind=2
   ·rw[if_neg h0,if_neg h1,if_pos h2]at hx;exact Rk hP h2 x hx
   ·rw[if_neg h0,if_neg h1,if_neg h2]at hx
    by_cases h3:m.kind=3
    ·rw[ju (by omega)]at hx;exact Rl hP h3 x hx
    ·have h4:m.kind=4:=by omega
     rw[zH h4]at hx;exact Rm hP h4 x hx
theorem OB{S:cD}{B bw:List Bool}{m:Mb}{mb:Int}(hP:sf S B bw m mb){S':cD}{B' bw':List Bool}(h:m_ S B bw m mb=some (S',B',bw')){HS:ah}{i k j g N:Nat}(hi:HS[i]? = some (aO k B))(hk:HS[k]? = some (au B))(hS:HS.take 13=kW)(hN:(HS.drop N).take 7=O5 S N)(hj:HS[j]? = some (aO g bw))(hg:HS[g]? = some (au bw))
 (hnd:(i::k::OM N [j,g]).Nodup) {M:Nat}(hM:HS.length=M) {HS':ah}(hh:bE HS [i,k,N,0,1,2,3,4,5,6,7,8,9,10,11,12,N+1,N+2,N+3,N+4,N+5,N+6,j,g] [aO M B',.dead,RS S' N,eZ 1 5 9,aW 2 3 4 cM,c6 cM,c9 cM,c7 cM,aW 6 7 8 cZ,c6 cZ,c9 cZ,c7 cZ,aW 10 11 12 cP,c6 cP,c9 cP,c7 cP,fA (N+2) S'.cols S'.rows,.map (cB S'.M),RV S' N,.map (aq S'.A),.map (aq S'.B),.map (aq S'.C),aO (M+1) bw',.dead,au B',au bw']=HS') (hbd:Nat.blt HS'.length Mem.bound=true) :
 az.Sound prog ⟨63,[.one (.ptr N 0),.one (.ptr i 0),.one (.ptr j 0),.one (.int .i64 mb),.agg (mC m)],HS,.one (.int .i64 0),HS',i::k::OM N [j,g]⟩:=by
 subst hM;have h3:=Iz i k N [j,g];have h16:=DF i k N [j,g];have h3':=Iz i k N ([j,g]++List.range' HS.length 2);have h16':=DF i k N ([j,g]++List.range' HS.length 2);have hv:=O7 (S:=S) hS hN h3 h16 (ls:=[j,g]) (l:=[aO 23 bw,au bw]) (af.ik hj rfl rfl rfl (.flat hg .nil));have ho:=n8 S 24 (by omega) (l:=[aO 23 bw,au bw]) (.cons (by simp[aj.bH,XC.ok,aJ]) (.flat .nil));have ho':=n8 S' 26 (by omega) (l:=[aO 25 bw',.dead,au B',au bw']) (.cons (by simp[aj.bH,XC.ok,aJ]) (.flat (.flat (.flat .nil))));have hr:=O6 (S:=S') (N:=N) h3' h16' (l:=[aO 25 bw',.dead,au B',au bw']) (l':=[aO (HS.length+1) bw',.dead,au B',au bw']) (.cons (by simp only[aj.aB,List.map_cons,List.map_nil,XC.aB,aU];rfl) (.flat (.flat (.flat .nil))));refine bz (os:=aO HS.length B' :: .dead::Rn S' N [aO (HS.length+1) bw',.dead,au B',au bw']) (i::k::OM N [j,g]) (i::k::OM N [j,g]) 2 (Mm hP h) hnd (af.ik hi rfl rfl rfl (.flat hk hv)) (.cons (by simp[aj.bH,XC.ok,aJ]) (.flat ho)) (.cons (by simp[aj.bH,XC.ok,aJ]) (.flat ho')) rfl (.cons (by show 2<24;omega) (.cons (by show 0<24;omega) (.cons (by show 22<24;omega) (.flat (.flat .nil))))) (.cons rfl (.cons rfl (.cons rfl (.flat (.flat .nil))))) (bZ.ok _) (bZ.aB _) ?_ (DU ..) rfl hh hbd (.inl rfl);exact .cons (by simp only[aj.aB,List.map_cons,List.map_nil,XC.aB,aU];rfl) (.flat hr)
theorem zo{S:cD}{m:Mb}(hm:jR m)(hf:C4 S m):nw m:=
 ⟨hm,hf.kind.2,fun i hi=>(hf.lev i hi).2.1,fun ha k hk=>(hf.lev (k*64) (by omega)).2.2 (by omega) ha⟩
theorem EZ{S:cD}{m:Mb}(hf:C4 S m):∀k,k<4->fg (m.v k)=true:=fun k hk=>(hf.vecs k hk).1
theorem Hb{m:Mb}(hg:nw m){mb:Int}{x0:ri}(h0:Er m mb x0 (0,x0)):∀k,k<=6->∀x,kh m mb x0 k=some x->Er m mb x0 (k,x):=by
 intro k
 induction k with
 | zero=>
   intro _ x hx;cases hx;exact h0
 | succ k ih=>
   intro hk x hx;obtain⟨y,r,hy,hr,rfl⟩:=tM hx;exact wx hg (ih (by omega) y hy) (by show k<6;omega) hr
theorem EL{m:Mb}{mb:Int}{x0:ri}:∀k x,kh m mb x0 k=some x->x.S.inter=x0.S.inter/\x.S.qp=x0.S.qp/\x0.B <+: x.B:=by
 intro k
 induction k with
 | zero=>intro x hx;cases hx;exact⟨rfl,rfl,List.prefix_refl _⟩
 | succ k ih=>
   intro x hx;obtain⟨y,r,hy,hr,rfl⟩:=tM hx;obtain⟨h1,h2,h3⟩:=ih y hy;refine⟨?_,?_,?_⟩
   ·show(if alone m=true then eC y.S mb k ⟨cy m k,m.qp⟩else y.S).inter=_;split<;>exact h1
   ·show(if alone m=true then eC y.S mb k ⟨cy m k,m.qp⟩else y.S).qp=_;split<;>exact h2
   ·show x0.B <+: (if alone m=true then y.B++_ else y.B);split
    ·exact h3.trans (List.prefix_append _ _)
    ·exact h3
structure se(S:cD)(X:List Bool)(n:Nat)(z:cD×List Bool):Prop where
 st:kg z.1
 cols:z.1.cols=S.cols
 rows:z.1.rows=S.rows
 inter:z.1.inter=S.inter
 qp:z.1.qp=S.qp
 pre:X <+: z.2
 len:z.2.length<=X.length+n
theorem nO{S:cD}{X:List Bool}{n:Nat}{z:cD×List Bool}(h:se S X n z){m:Mb}(hm:jR m)(mb:Int)(k:Nat):se S X (n+54) (aS m mb z k):=by
 refine⟨⟨h.st.dims,h.st.lev,eh h.st.tiny (hm.v k)⟩,h.cols,h.rows,h.inter,h.qp,h.pre.trans (List.prefix_append _ _),?_⟩;have:=l5 (m.v k) (gG z.1.M z.1.cols z.1.rows mb k);have:=h.len;show(z.2++hJ (m.v k) (gG z.1.M z.1.cols z.1.rows mb k)).length<=_;rw[List.length_append];omega
theorem mE{S:cD}{X:List Bool}{n:Nat}{z:cD×List Bool}(h:se S X n z){m:Mb}(hm:jR m)(mb:Int):se S X n (bX z.1 mb m.v,z.2):=
 ⟨⟨h.st.dims,h.st.lev,kH h.st.tiny hm.v⟩,h.cols,h.rows,h.inter,h.qp,h.pre,h.len⟩
theorem pG{S:cD}{X:List Bool}{n k:Nat}{z:cD×List Bool}(h:se S X n z)(hk:n<=k):se S X k z:=
 ⟨h.st,h.cols,h.rows,h.inter,h.qp,h.pre,by have:=h.len;omega⟩
theorem zI{S:cD}(hS:kg S)(m:Mb):kg (fx S m)/\(fx S m).cols=S.cols/\(fx S m).rows=S.rows/\(fx S m).inter=S.inter/\(fx S m).qp=if m.kind=4 then m.qp else S.qp:=by
 unfold fx;split
 ·exact⟨⟨hS.dims,hS.lev,hS.tiny⟩,rfl,rfl,rfl,rfl⟩
 ·exact⟨hS,rfl,rfl,rfl,rfl⟩
theorem BS{S:cD}(hS:kg S){m:Mb}(hm:jR m){X:List Bool}{mb:Int}:se (fx S m) (X++bj S m) 216 (fN S X m mb):=by
 have hk:=(zI hS m).1
 have h0:se (fx S m) (X++bj S m) 0 (fx S m,X++bj S m):=⟨hk,rfl,rfl,rfl,rfl,List.prefix_refl _,Nat.le_refl _⟩
 unfold fN;split
 ·rename_i g;rw[ju (by omega)]at h0 ⊢;exact pG (mE h0 hm mb) (by omega)
 ·split
  ·rename_i g;rw[ju (by omega)]at h0 ⊢;exact pG (mE (nO h0 hm mb 0) hm mb) (by omega)
  ·split
   ·rename_i g;rw[ju (by omega)]at h0 ⊢;exact pG (mE (nO (nO (nO (nO h0 hm mb 0) hm mb 1) hm mb 2) hm mb 3) hm mb) (by omega)
   ·have h1:=mE h0 hm mb;exact⟨h1.st,h1.cols,h1.rows,h1.inter,h1.qp,List.prefix_append _ _,by simp only[List.length_append,List.length_cons,List.length_nil];omega⟩
structure R4(S:cD)(X bw:List Bool)(m:Mb)(z:cD×List Bool×List Bool):Prop where
 st:kg z.1
 cols:z.1.cols=S.cols
 rows:z.1.rows=S.rows
 inter:z.1.inter=S.inter
 qp:z.1.qp=m.qp
 pre:X++bj S m <+: z.2.1
 len:z.2.1.length<=X.length+1000
 lenw:z.2.2.length<=bw.length+20736
theorem xa{S:cD}(hS:kg S){m:Mb}(hm:jR m)(hf:C4 S m){X bw:List Bool}{mb:Int}{z:cD×List Bool×List Bool}(h:m_ S X bw m mb=some z):R4 S X bw m z:=by
 have hg:=zo hm hf;have hh:=BS hS hm (X:=X) (mb:=mb);obtain⟨_,k1,k2,k3,k4⟩:=zI hS m;have hkl:=j8 S m
 have hq:(if m.kind=4 then m.qp else S.qp)=m.qp:=by
  split
  ·rfl
  ·rename_i h4;exact(hf.qp h4).symm
 rw[hq]at k4;have hlx:(X++bj S m).length<=X.length+66:=by rw[List.length_append];omega
 have hhl:=hh.len;unfold m_ at h
 by_cases h0:m.kind=0
 ·rw[if_pos h0]at h;have e:fN S X m mb=(bX S mb m.v,X++bj S m):=by unfold fN;rw[if_pos h0]
  rw[e]at hh;cases Option.some.inj h;exact⟨hh.st,hh.cols.trans k1,hh.rows.trans k2,hh.inter.trans k3,hh.qp.trans k4,hh.pre,by show(X++bj S m).length<=_;omega,Nat.le_add_right _ _⟩
 ·rw[if_neg h0]at h;obtain⟨x,hx,e⟩:=Option.map_eq_some_iff.1 h;cases e
  obtain⟨z0,hz0⟩:∃z0,fN S X m mb=z0:=⟨_,rfl⟩
  rw[hz0]at hh hx hhl
  have hi:Er m mb ⟨z0.1,z0.2,0,0,fun _=>[]⟩ (0,⟨z0.1,z0.2,0,0,fun _=>[]⟩):=⟨Nat.zero_le _,rfl,hh.st,⟨rfl,rfl⟩,Nat.le_refl _,fun _ _=>rfl,fun _ => .inl rfl,by show(0:Int)<=0/\(0:Int)<16;decide,by show(0:Int)<=0/\(0:Int)<4;decide⟩
  have hb:=Hb hg hi 6 (Nat.le_refl _) x hx;have hr:=EL 6 x hx;have hlen:x.B.length<=z0.2.length+76*6:=hb.len;have hcl:=j0 Hf x.pat.toNat;refine⟨hb.st,hb.cr.1.trans (hh.cols.trans k1),hb.cr.2.trans (hh.rows.trans k2),hr.1.trans (hh.inter.trans k3),hr.2.1.trans (hh.qp.trans k4),?_,?_,?_⟩
  ·exact hh.pre.trans (hr.2.2.trans ((List.prefix_append _ _).trans (List.prefix_append _ _)))
  ·show((x.B++jl cP x.pat.toNat)++aI x.col 2).length<=_;simp only[List.length_append,aQ];rw[List.length_append]at hlx hhl;omega
  ·have:=rl (bw:=bw) hb.evs 6;show(cV bw x 6).length<=_;omega
structure PS where
 S:cD
 B:List Bool
 w:List Bool
noncomputable def m9(first:Int)(k:Nat)(m:Mb)(x:PS):Int ⊕ PS:=
 if dD m x.S.inter x.S.qp≠0 then .inl (dD m x.S.inter x.S.qp)else match m_ x.S x.B x.w m (first+(k:Nat))with
  | none => .inl 2
  | some z => .inr ⟨z.1,z.2.1,z.2.2⟩
noncomputable def mP(l:List Mb)(first:Int)(x0:PS):Nat->Int ⊕ PS
 | 0 => .inr x0
 | k+1=>match mP l first x0 k with
   | .inl e => .inl e
   | .inr x=>m9 first k (l.getD k zV) x
theorem An{l:List Mb}{first:Int}{x0:PS}{k:Nat}{e:Int}(h:mP l first x0 k = .inl e):∀j,k<=j->mP l first x0 j = .inl e:=by
 intro j hj
 induction hj with
 | refl=>exact h
 | step _ ih=>rw[mP,ih]
structure Ez(p:Bool)(c r:Int)(j:Nat)(x:PS):Prop where
 st:kg x.S
 cols:x.S.cols=c
 rows:x.S.rows=r
 inter:x.S.inter=p
 qp : -1000000<=x.S.qp/\x.S.qp<=1000000
 len:x.B.length<=1000*j
 lenw:x.w.length<=20736*j
theorem w6{p:Bool}{c r:Int}{j:Nat}{x y:PS}(h:Ez p c r j x){m:Mb}(hm:jR m){first:Int}{k:Nat}(hy:m9 first k m x = .inr y):Ez p c r (j+1) y:=by
 unfold m9 at hy;split at hy
 ·cases hy
 ·rename_i hc;have hc0:dD m x.S.inter x.S.qp=0:=Decidable.byContradiction fun g=>hc g
  have hf:=rp hm hc0;split at hy
  ·cases hy
  ·rename_i z hz;cases hy;have hk:=xa h.st hm hf hz;have a:=hk.len;have b:=hk.lenw;have a':=h.len;have b':=h.lenw;exact⟨hk.st,hk.cols.trans h.cols,hk.rows.trans h.rows,hk.inter.trans h.inter,by rw[hk.qp];exact hm.qp,by show z.2.1.length<=_;omega,by show z.2.2.length<=_;omega⟩
theorem IW{p:Bool}{c r:Int}{j:Nat}{x:PS}(h:Ez p c r j x)(hj:j<=20){m:Mb}(hm:jR m){mb:Int}(hmb:0<=mb/\mb<c*r)(hc:dD m x.S.inter x.S.qp=0):sf x.S x.B x.w m mb:=by
 have hf:=rp hm hc;have a:=h.len;have b:=h.lenw;exact⟨h.st,by rw[h.cols,h.rows];exact hmb,h.qp,zo hm hf,EZ hf,by omega,by omega⟩
end Go.Proofs.YthdciapjllppjaaGreat
