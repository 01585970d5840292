/-
  A part of the proof: Put3, Undiff2, Firsts, StP, OutL, TakeF, MbLaw, Begin, InPlace, Put4, PutLaw.
-/
import Derived.Test.YthdciapjllppjaaGreatWbF
import Derived.Test.YthdciapjllppjaaGreatWbN
import Derived.Test.YthdciapjllppjaaGreatWbQ
import Derived.Test.YthdciapjllppjaaGreatWbS
import Derived.Test.YthdciapjllppjaaGreatWbU
import Derived.Test.YthdciapjllppjaaGreatWbV
set_option maxRecDepth 10000
set_option maxHeartbeats 8000000
set_option linter.unusedVariables false
set_option linter.unusedSectionVars false
set_option linter.unusedSimpArgs false
open Go.Proofs.Tryz (prog)
namespace Go.Proofs.YthdciapjllppjaaGreat
open Go.Xm
variable [aq]
theorem RG{S:cH}{B bw:List Bool}{m:Mb}{mb:Int}(hP:ss S B bw m mb)(hk:m.kind=3)(x:rB)(hx:kn m mb ⟨b6 S mb m.v,((B++bm S m)++[m.edge]),0,0,fun _=>[]⟩ 6=some x) :
 bt prog 63 [.one (.ptr 2 0),.one (.ptr 0 0),.one (.ptr 22 0),.one (.int .i64 mb),.agg (mC m)] [aP 1 B,av B,jB (S),fc 4 8 12,aX 5 6 7 cM,db cM,df cM,dc cM,aX 9 10 11 cZ,db cZ,df cZ,dc cZ,aX 13 14 15 cP,db cP,df cP,dc cP,fD 17 (S).cols (S).rows,.map (cE (S).M),.cells [.int .i64 (S).cols,.int .i64 (S).rows,.map 19,.map 20,.map 21] 220 false false,.map (au (S).A),.map (au (S).B),.map (au (S).C),aP 23 bw,av bw] (.one (.int .i64 0)) [aP 24 (eJ x),.dead,jB (x.S),fc 4 8 12,aX 5 6 7 cM,db cM,df cM,dc cM,aX 9 10 11 cZ,db cZ,df cZ,dc cZ,aX 13 14 15 cP,db cP,df cP,dc cP,fD 17 (x.S).cols (x.S).rows,.map (cE (x.S).M),.cells [.int .i64 (x.S).cols,.int .i64 (x.S).rows,.map 19,.map 20,.map 21] 220 false false,.map (au (x.S).A),.map (au (x.S).B),.map (au (x.S).C),aP 25 (c_ bw x 6),.dead,av (eJ x),av (c_ bw x 6)]:=by
 have hg:=hP.good;have hm:=hg.ok;have hD:=hP.st.dims;have hmb:=hP.mb;have hlen:=hP.len;have hkl:=ka S m;have hK:=n6 B S m hm hg.kind hP.qp (by omega);rw[jw (by omega)]at hK;have htE:fN S.M:=hP.st.tiny
 have hS2:km (b6 S mb m.v):=⟨hD,hP.st.lev,kN htE hm.v⟩
 have hB2:(((B++bm S m)++[m.edge])).length<=700000:=by
  show(((B++bm S m)++[m.edge])).length<=700000;simp only[List.length_append,List.length_cons,List.length_nil];omega
 refine cO Tryz.func63 ?_
 repeat' (first
  |(refine qz ?_;first
   |refine jI ?_ (hle:=by rw[bn])
   |refine cl ?_ (hi:=by exact A4 (S:=S) (S':=S) (bs:=B) (bs':=B++bm S m) (fun _ => .flat .nil) (.flat .nil) rfl hK rfl rfl rfl rfl nL nA rfl)
   |refine cl ?_ (hi:=by exact jD (b:=m.edge) (bs:=(B++bm S m)) (by simp only[List.length_append];omega) rfl rfl (by decide) nL nA rfl)
   |refine cl ?_ (hi:=by exact ov (S:=S) (bs:=((B++bm S m)++[m.edge])) hD hmb rfl rfl rfl rfl nA rfl)
   |refine cl ?_ (hi:=by exact oN (B:=((B++bm S m)++[m.edge])) (S:=b6 S mb m.v) (oO (((B++bm S m)++[m.edge])) bw (b6 S mb m.v) m mb hg hS2 hmb hB2 (by have:=hP.lenw;omega) x hx) rfl rfl rfl rfl rfl rfl nL nA rfl))
  |refine zz ?_|refine zx (fun _=>?_) (fun _=>?_)|fail)
 show aE _ _ _ _ _ _ _ _;refine kV [0,1,2,3,4,5,6,7,8,9,10,11,12,13,14,15,16,17,18,19,20,21,22,23,27,28] ?_;rfl
theorem RI{S:cH}{B bw:List Bool}{m:Mb}{mb:Int}(hP:ss S B bw m mb)(hk:m.kind=4)(x:rB)(hx:kn m mb ⟨b6 ({S with qp:=m.qp}:cH) mb m.v,((B++bm S m)++[m.edge]),0,0,fun _=>[]⟩ 6=some x) :
 bt prog 63 [.one (.ptr 2 0),.one (.ptr 0 0),.one (.ptr 22 0),.one (.int .i64 mb),.agg (mC m)] [aP 1 B,av B,jB (S),fc 4 8 12,aX 5 6 7 cM,db cM,df cM,dc cM,aX 9 10 11 cZ,db cZ,df cZ,dc cZ,aX 13 14 15 cP,db cP,df cP,dc cP,fD 17 (S).cols (S).rows,.map (cE (S).M),.cells [.int .i64 (S).cols,.int .i64 (S).rows,.map 19,.map 20,.map 21] 220 false false,.map (au (S).A),.map (au (S).B),.map (au (S).C),aP 23 bw,av bw] (.one (.int .i64 0)) [aP 24 (eJ x),.dead,jB (x.S),fc 4 8 12,aX 5 6 7 cM,db cM,df cM,dc cM,aX 9 10 11 cZ,db cZ,df cZ,dc cZ,aX 13 14 15 cP,db cP,df cP,dc cP,fD 17 (x.S).cols (x.S).rows,.map (cE (x.S).M),.cells [.int .i64 (x.S).cols,.int .i64 (x.S).rows,.map 19,.map 20,.map 21] 220 false false,.map (au (x.S).A),.map (au (x.S).B),.map (au (x.S).C),aP 25 (c_ bw x 6),.dead,av (eJ x),av (c_ bw x 6)]:=by
 have hg:=hP.good;have hm:=hg.ok;have hD:=hP.st.dims;have hmb:=hP.mb;have hlen:=hP.len;have hkl:=ka S m;have hK:=n6 B S m hm hg.kind hP.qp (by omega);rw[zX hk]at hK;have htE:fN S.M:=hP.st.tiny
 have hS2:km (b6 ({S with qp:=m.qp}:cH) mb m.v):=⟨hD,hP.st.lev,kN htE hm.v⟩
 have hB2:(((B++bm S m)++[m.edge])).length<=700000:=by
  show(((B++bm S m)++[m.edge])).length<=700000;simp only[List.length_append,List.length_cons,List.length_nil];omega
 refine cO Tryz.func63 ?_
 repeat' (first
  |(refine qz ?_;first
   |refine jI ?_ (hle:=by rw[bn])
   |refine cl ?_ (hi:=by exact A4 (S:=S) (S':={S with qp:=m.qp}) (bs:=B) (bs':=B++bm S m) (fun _ => .flat .nil) (.flat .nil) rfl hK rfl rfl rfl rfl nL nA rfl)
   |refine cl ?_ (hi:=by exact jD (b:=m.edge) (bs:=(B++bm S m)) (by simp only[List.length_append];omega) rfl rfl (by decide) nL nA rfl)
   |refine cl ?_ (hi:=by exact ov (S:=({S with qp:=m.qp}:cH)) (bs:=((B++bm S m)++[m.edge])) hD hmb rfl rfl rfl rfl nA rfl)
   |refine cl ?_ (hi:=by exact oN (B:=((B++bm S m)++[m.edge])) (S:=b6 ({S with qp:=m.qp}:cH) mb m.v) (oO (((B++bm S m)++[m.edge])) bw (b6 ({S with qp:=m.qp}:cH) mb m.v) m mb hg hS2 hmb hB2 (by have:=hP.lenw;omega) x hx) rfl rfl rfl rfl rfl rfl nL nA rfl))
  |refine zz ?_|refine zx (fun _=>?_) (fun _=>?_)|fail)
 show aE _ _ _ _ _ _ _ _;refine kV [0,1,2,3,4,5,6,7,8,9,10,11,12,13,14,15,16,17,18,19,20,21,22,23,27,28] ?_;rfl
def Bc(B:List Bool)(r:Nat×Bool):Nat:=(Qg cZ B r).1.toNat
def GG(B:List Bool)(r:Nat×Bool):Int×(Nat×Bool):=bX B (Bc B r) (Qg cZ B r).2
def J_(B:List Bool)(r:Nat×Bool):Int×(Nat×Bool):=
 if 0<Bc B r/\(GG B r).1<1*2^(Bc B r-1)then
  ((GG B r).1-(1*2^Bc B r-1),if(GG B r).1-(1*2^Bc B r-1)=0 then((GG B r).2.1,true)else(GG B r).2)
 else GG B r
structure rA where
 m:Mb
 S:cH
 r:Nat×Bool
def On(B:List Bool)(mb:Int)(x:rA)(k:Nat):Int:=(dF x.S mb k x.m.qp).2+(J_ B x.r).1
def Lu(B:List Bool)(mb:Int)(x:rA)(k:Nat):Prop:=On B mb x k<0\/127<On B mb x k
instance (B:List Bool) (mb:Int) (x:rA) (k:Nat):Decidable (Lu B mb x k):=by unfold Lu;infer_instance
def SG(B:List Bool)(mb:Int)(x:rA)(k:Nat):Int:=if Lu B mb x k then 0 else On B mb x k
def SH(B:List Bool)(mb:Int)(x:rA)(k:Nat):Mb:={x.m with lev:=fY x.m.lev (k*64) (SG B mb x k)}
def QX(B:List Bool)(mb:Int)(x:rA)(k:Nat):rA:=
 ⟨SH B mb x k,eG x.S mb k ⟨cD (SH B mb x k) k,(SH B mb x k).qp⟩,if Lu B mb x k then((J_ B x.r).2.1,true)else(J_ B x.r).2⟩
def QW(B:List Bool)(mb:Int)(x:rA):Nat->rA
 | 0=>x
 | k+1=>QX B mb (QW B mb x k) k
end Go.Proofs.YthdciapjllppjaaGreat
namespace Go.Xm
variable [aq]
variable {P:Program} {ops:Array Oper} {nt nI:Nat} {al:aO} {hs:aj} {o:Oper} {l:List Oper} {L:List aA} {K:List Ab->aO->aj->Prop} {d:Nat}
theorem Sc{t:TypeId}{a y:Operand}{s i off:Nat}{cs vs vs':List XC}{e:TypeId}{opn:Bool}{hs':aj}(hk:SK P ops nt L l al hs' fun bs=>K (⟨true,.none,[i]⟩::bs))(hs2:off+s<=vs.length)(hv:vs.take off++cs++vs.drop (off+s)=vs')(ho:o.op = .store t a y:=by exact rfl)(ht:aH P t s:=by infer_instance)(hw:aw ops (rg al) o=some true:=by exact rfl)(hd:o.dst = .none:=by exact rfl)
 (ha:af (rg al) a = .one (.ptr i off):=by exact rfl) (hy:cQ (af (rg al) y)=some cs:=by exact rfl) (hi:hs[i]? = some (.cells vs e opn false):=by exact rfl) (hs1:s=cs.length:=by exact rfl) (hh:hs.set i (.cells vs' e opn false)=hs':=by first|(simp only[List.set_cons_succ,List.set_cons_zero];exact rfl)|exact rfl):SK P ops nt L (o::l) al hs K:=
 Gn ho hw hd ha hy hi hs1 hs2 hv hh hk
end Go.Xm
namespace Go.Proofs.YthdciapjllppjaaGreat
open Go.Xm
variable [aq]
def Ag:Mb:=⟨0,0,fun _=>(0,0),false,fun _=>0⟩
def T_:Nat->Bool:=fun _=>false
def RP(v:Nat->Int×Int)(k:Nat)(x:Int×Int):Nat->Int×Int:=fun j=>if j=k then x else v j
def yU(S:cH)(B:List Bool)(r:Nat×Bool):Int×(Nat×Bool):=if S.inter=true then Qg cM B r else(if fI B r=true then 4 else 3,ch B r)
def tD(n:Int):Int:=([-2,-1,1,2]:List Int).getD n.toNat 0
def S8(S:cH)(B:List Bool)(k:Int×(Nat×Bool)):Int×(Nat×Bool):=
 if k.1=4 then(if S.qp+tD (bX B 2 k.2).1<1\/31<S.qp+tD (bX B 2 k.2).1 then(1,((bX B 2 k.2).2.1,true))else(S.qp+tD (bX B 2 k.2).1,(bX B 2 k.2).2))else(S.qp,k.2)
def PF(S:cH)(B:List Bool)(r:Nat×Bool):rA:=
 ⟨{Ag with kind:=(yU S B r).1,qp:=(S8 S B (yU S B r)).1},{S with qp:=(S8 S B (yU S B r)).1},(S8 S B (yU S B r)).2⟩
def Se(B:List Bool)(mb:Int)(x:rA)(k:Nat):rA:=
 ⟨{x.m with v:=RP x.m.v k (RQ B (gI x.S.M x.S.cols x.S.rows mb k) x.r).1},{x.S with M:=cL x.S.M x.S.cols mb k (RQ B (gI x.S.M x.S.cols x.S.rows mb k) x.r).1},(RQ B (gI x.S.M x.S.cols x.S.rows mb k) x.r).2⟩
def PE(B:List Bool)(mb:Int)(x:rA):rA:=
 if x.m.kind=1 then⟨{x.m with v:=fun _=>(RQ B (gI x.S.M x.S.cols x.S.rows mb 0) x.r).1},x.S,(RQ B (gI x.S.M x.S.cols x.S.rows mb 0) x.r).2⟩
 else if x.m.kind=2 then Se B mb (Se B mb (Se B mb (Se B mb x 0) 1) 2) 3
 else⟨{x.m with edge:=fI B x.r},x.S,ch B x.r⟩
def J6(mb:Int)(x:rA):rA:=⟨x.m,b6 x.S mb x.m.v,x.r⟩
def J4(B:List Bool)(mb:Int)(x:rA):rA:=if alone x.m=true then QW B mb x 6 else x
def Q6(p c:Int)(k:Nat):Bool:=if k<4 then decide (Ch .i64 p (8/2^k)≠0)else decide (Ch .u64 c (2/2^(k-4))≠0)
def RL(B:List Bool)(x:rA):rA×(Nat->Bool):=(⟨x.m,x.S,(bX B 2 (Qg cP B x.r).2).2⟩,Q6 (Qg cP B x.r).1 (bX B 2 (Qg cP B x.r).2).1)
def Us(B:List Bool)(mb:Int)(x:rA):rA×(Nat->Bool):=if x.m.kind=0 then(J6 mb x,T_)else RL B (J4 B mb (J6 mb (PE B mb x)))
def Es(S:cH)(B:List Bool)(mb:Int)(r:Nat×Bool):rA×(Nat->Bool):=Us B mb (PF S B r)
theorem MN(x:Int) : -2<=tD x/\tD x<=2:=lY (p:=fun x => -2<=x/\x<=2) (by decide) (by decide) x.toNat
structure Sg(x z:rA):Prop where
 cols:z.S.cols=x.S.cols
 rows:z.S.rows=x.S.rows
 qp:z.m.qp=x.m.qp
 kind:z.m.kind=x.m.kind
abbrev X1(X:rA)(t0:(Int×Int)×(Nat×Bool)):Mb:={X.m with v:=RP X.m.v 0 t0.1}
def kq(b:Kn):Int×Int:=(b.lv 0,b.qp)
def NZ(T U:nF):Prop:=∀k,(eP U k).map kq=(eP T k).map kq
structure Rel(S R:cH):Prop where
 inter:R.inter=S.inter
 qp:R.qp=S.qp
 cols:R.cols=S.cols
 rows:R.rows=S.rows
 M:∀k,eP R.M k=eP S.M k
 a:NZ S.A R.A
 b:NZ S.B R.B
 c:NZ S.C R.C
structure Nk(m o:Mb):Prop where
 kind:o.kind=m.kind
 qp:o.qp=m.qp
 v:∀k,k<4->o.v k=m.v k
 edge:o.edge=m.edge
 lev:∀i,o.lev i=if alone m=true/\i%64=0/\i<384 then m.lev i else 0
structure Dq(S:cH)(m:Mb):Prop where
 kind:0<=m.kind/\m.kind<=4
 alo:S.inter=false->alone m=true
 edge:alone m=false->m.edge=false
 st:m.kind=4->(eF S.qp m.qp).2=true
 qp:m.kind≠4->m.qp=S.qp
 vecs:∀k,k<4->sL m k
 lev:∀i,i<384->zZ m i
theorem rI{S:cH}{m:Mb}(hm:jT m)(h:dH m S.inter S.qp=0):Dq S m:=by
 have hk:=hm.kind;unfold dH at h;split at h
 ·cases h
 rename_i h1;split at h
 ·cases h
 rename_i h2;split at h
 ·cases h
 rename_i h3;split at h
 ·cases h
 rename_i h4;split at h
 ·rename_i h5;exact absurd h h5
 rename_i h5;have hv:fW m=0:=Decidable.byContradiction fun g=>h5 g
 refine⟨⟨hk.1,?_⟩,?_,?_,?_,?_,?_,?_⟩
 ·exact Decidable.byContradiction fun g=>h1 (.inl (by omega))
 ·intro g
  cases ha:alone m with
  | true=>rfl
  | false=>exact absurd (.inr ⟨g,ha⟩) h1
 ·intro g
  cases he:m.edge with
  | false=>rfl
  | true=>exact absurd ⟨he,g⟩ h2
 ·intro g
  cases hs:(eF S.qp m.qp).2 with
  | true=>rfl
  | false=>exact absurd ⟨g,hs⟩ h3
 ·intro g;exact Decidable.byContradiction fun e=>h4 ⟨g,e⟩
 ·unfold fW at hv;split at hv
  ·rename_i g;intro k hk
   match k,hk with
   | 0,_=>exact g.1
   | 1,_=>exact g.2.1
   | 2,_=>exact g.2.2.1
   | 3,_=>exact g.2.2.2
  ·cases hv
 ·unfold uF at h;split at h
  ·assumption
  ·cases h
structure Sk(S:cH)(Y:List Bool)(m:Mb)(z:rA):Prop where
 rel:Rel S z.S
 r:z.r=(Y.length,false)
 kind:z.m.kind=m.kind
 qp:z.m.qp=m.qp
 v:∀k,k<4->z.m.v k=m.v k
 edge:z.m.edge=m.edge
 lev:∀i,z.m.lev i=0
theorem tZ{m:Mb}{mb:Int}{x0:rB}{k:Nat}{x:rB}(h:kn m mb x0 (k+1)=some x):∃y r,kn m mb x0 k=some y/\nk m y.S mb k=some r/\x=gy m mb k y (E2 m y.S mb k r):=by
 rw[kn]at h;obtain⟨y,hy,h2⟩:=Option.bind_eq_some_iff.1 h;obtain⟨r,hr,h3⟩:=Option.map_eq_some_iff.1 h2;exact⟨y,r,hy,hr,h3.symm⟩
structure Tf(m:Mb)(k:Nat)(x:rB)(z:rA):Prop where
 rel:Rel x.S z.S
 r:z.r=(x.B.length,false)
 kind:z.m.kind=m.kind
 qp:z.m.qp=m.qp
 v:∀j,j<4->z.m.v j=m.v j
 edge:z.m.edge=m.edge
 lev:∀i,z.m.lev i=if i%64=0/\i<64*k then m.lev i else 0
structure Tc(x:rB):Prop where
 pat:0<=x.pat/\x.pat<16
 col:0<=x.col/\x.col<4
 has:∀j,j<6->Q6 x.pat x.col j=decide (0<(x.ev j).length)
noncomputable def nv(S:cH)(X bw:List Bool)(m:Mb)(mb:Int):Option (cH×List Bool×List Bool):=
 if m.kind=0 then some (b6 S mb m.v,X++bm S m,bw)else(kn m mb ⟨(fS S X m mb).1,(fS S X m mb).2,0,0,fun _=>[]⟩ 6).map fun x=>(x.S,eJ x,c_ bw x 6)
noncomputable def SF(S:cH)(X:List Bool)(m:Mb)(mb:Int)(k:Nat):List Ev:=
 if m.kind=0 then []else match kn m mb ⟨(fS S X m mb).1,(fS S X m mb).2,0,0,fun _=>[]⟩ 6 with
  | some x=>x.ev k
  | none=>[]
abbrev KT:List Nat:=[0,1,2,3,4,5,6,7,8,9,10,11,12]
abbrev DA(h:Hd)(p:Ph)(N:Nat):aj:=[.cells [.ptr 0 0,.int .i64 p.id,.bool p.inter,.bool p.down,.int .i64 p.qp,.int .i64 p.qp,.ptr (N+1) 0,.ptr (N+3) 0] 157 false false,fD (N+2) h.cols h.rows,.map (cE []),.cells [.int .i64 h.cols,.int .i64 h.rows,.map (N+4),.map (N+5),.map (N+6)] 220 false false,.map (au []),.map (au []),.map (au [])]
abbrev k9:aj:=[fc 1 5 9,aX 2 3 4 cM,db cM,df cM,dc cM,aX 6 7 8 cZ,db cZ,df cZ,dc cZ,aX 10 11 12 cP,db cP,df cP,dc cP]
theorem Lh{HS:aj}(hS:HS.take 13=k9){τ : Nat->Nat}(h:∀j,j<13 -> τ j=j):ae τ HS KT k9:=by
 have g:∀j,j<13->HS[j]? = k9[j]?:=fun j hj=>by rw[<-hS,List.getElem?_take_of_lt hj]
 have h1:=h 1 (by decide);have h2:=h 2 (by decide);have h3:=h 3 (by decide);have h4:=h 4 (by decide);have h5:=h 5 (by decide);have h6:=h 6 (by decide);have h7:=h 7 (by decide);have h8:=h 8 (by decide);have h9:=h 9 (by decide);have h10:=h 10 (by decide);have h11:=h 11 (by decide);have h12:=h 12 (by decide);refine .cons ?_ (.cons ?_ (.flat (g 2 (by decide)) (.flat (g 3 (by decide)) (.flat (g 4 (by decide)) (.cons ?_ (.flat (g 6 (by decide)) (.flat (g 7 (by decide)) (.flat (g 8 (by decide)) (.cons ?_ (.flat (g 10 (by decide)) (.flat (g 11 (by decide)) (.flat (g 12 (by decide)) .nil))))))))))))
 ·rw[g 0 (by decide)];simp only[ak.aC,List.map_cons,List.map_nil,XC.aC,h1,h5,h9];rfl
 ·rw[g 1 (by decide)];simp only[ak.aC,List.map_cons,List.map_nil,XC.aC,h2,h3,h4];rfl
 ·rw[g 5 (by decide)];simp only[ak.aC,List.map_cons,List.map_nil,XC.aC,h6,h7,h8];rfl
 ·rw[g 9 (by decide)];simp only[ak.aC,List.map_cons,List.map_nil,XC.aC,h10,h11,h12];rfl
theorem t6{n:Nat}(hn:13<=n){l:aj}(hl:ax n l):ax n (k9++l):=by
 refine .cons ?_ (.cons ?_ (.flat (.flat (.flat (.cons ?_ (.flat (.flat (.flat (.cons ?_ (.flat (.flat (.flat hl))))))))))))
 all_goals simp[ak.bK,XC.ok];omega
theorem Lg{τ : Nat->Nat}(h:∀j,j<13 -> τ j=j){l l':aj}(hl:d9 τ l l'):d9 τ (k9++l) (k9++l'):=by
 have h1:=h 1 (by decide);have h2:=h 2 (by decide);have h3:=h 3 (by decide);have h4:=h 4 (by decide);have h5:=h 5 (by decide);have h6:=h 6 (by decide);have h7:=h 7 (by decide);have h8:=h 8 (by decide);have h9:=h 9 (by decide);have h10:=h 10 (by decide);have h11:=h 11 (by decide);have h12:=h 12 (by decide);refine .cons ?_ (.cons ?_ (.flat (.flat (.flat (.cons ?_ (.flat (.flat (.flat (.cons ?_ (.flat (.flat (.flat hl))))))))))))
 ·simp only[ak.aC,List.map_cons,List.map_nil,XC.aC,h1,h5,h9]
 ·simp only[ak.aC,List.map_cons,List.map_nil,XC.aC,h2,h3,h4]
 ·simp only[ak.aC,List.map_cons,List.map_nil,XC.aC,h6,h7,h8]
 ·simp only[ak.aC,List.map_cons,List.map_nil,XC.aC,h10,h11,h12]
theorem HE{HS:aj}(hS:HS.take 13=k9){os:aj}:bJ HS KT (k9++os)=HS++os:=by
 have g:∀j,j<13->HS[j]? = k9[j]?:=fun j hj=>by rw[<-hS,List.getElem?_take_of_lt hj]
 simp only[bJ,k9,List.cons_append,List.nil_append];rw[aG (g 0 (by decide)),aG (g 1 (by decide)),aG (g 2 (by decide)),aG (g 3 (by decide)),aG (g 4 (by decide)),aG (g 5 (by decide)),aG (g 6 (by decide)),aG (g 7 (by decide)),aG (g 8 (by decide)),aG (g 9 (by decide)),aG (g 10 (by decide)),aG (g 11 (by decide)),aG (g 12 (by decide))]
theorem D0(r:List Nat):∀j,j<13->nth (KT++r) j=j:=fun j hj=>by
 have hq:∀q:Fin 13,KT[q.val]? = some q.val:=by decide
 have:=hq ⟨j,hj⟩;unfold nth;rw[List.getD_eq_getElem?_getD,List.getElem?_append_left (by exact hj),this];rfl
theorem Hv{h:Hd}{p:Ph}(ho:lE h){HS:aj}(hS:HS.take 13=k9){N:Nat}(hN:HS.length=N){HS':aj}(hh:HS++DA h p N=HS')(hbd:Nat.blt HS'.length Mem.bound=true) :
 aA.Sound prog ⟨61,[.one (.ptr 0 0),.agg (b9 h),.agg (tu p)],HS,.one (.ptr N 0),HS',KT⟩:=by
 subst hN
 have e0:∀j,j<13->nth KT j=j:=fun j hj=>by
  have:=D0 [] j hj;rw[List.append_nil]at this;exact this
 refine bI (os:=k9++DA h p HS.length) KT KT 7 (E5 h p ho) (by decide) (Lh hS e0) (t6 (l:=[]) (Nat.le_refl _) .nil) (t6 (l:=Hu h p) (by show 13<=20;omega) ?_) rfl (.cons (by show 0<13;omega) (.flat (.flat .nil))) (.cons rfl (.flat (.flat .nil))) (by show 13<20;omega) rfl (Lg (D0 _) ?_) ?_ rfl (by rw[HE hS];exact hh) hbd (.inl rfl)
 ·refine .cons ?_ (.cons ?_ (.flat (.cons ?_ (.flat (.flat (.flat .nil))))))
  all_goals simp[ak.bK,XC.ok]
 ·exact .cons rfl (.cons rfl (.flat (.cons rfl (.flat (.flat (.flat .nil))))))
 ·rfl
abbrev Sa(S:cH)(N:Nat):ak := .cells [.ptr 0 0,.int .i64 S.id,.bool S.inter,.bool S.down,.int .i64 S.hqp,.int .i64 S.qp,.ptr (N+1) 0,.ptr (N+3) 0] 157 false false
abbrev Sd(S:cH)(N:Nat):ak := .cells [.int .i64 S.cols,.int .i64 S.rows,.map (N+4),.map (N+5),.map (N+6)] 220 false false
abbrev Px(S:cH)(N:Nat):aj:=[Sa S N,fD (N+2) S.cols S.rows,.map (cE S.M),Sd S N,.map (au S.A),.map (au S.B),.map (au S.C)]
abbrev O_(N:Nat)(r:List Nat):List Nat:=N::0::1::2::3::4::5::6::7::8::9::10::11::12::(N+1)::(N+2)::(N+3)::(N+4)::(N+5)::(N+6)::r
abbrev RJ(S:cH)(N:Nat)(l:aj):aj:=Sa S N::fc 1 5 9::aX 2 3 4 cM::db cM::df cM::dc cM::aX 6 7 8 cZ::db cZ::df cZ::dc cZ::aX 10 11 12 cP::db cP::df cP::dc cP::fD (N+2) S.cols S.rows :: .map (cE S.M)::Sd S N :: .map (au S.A) :: .map (au S.B) :: .map (au S.C)::l
theorem Pz{HS:aj}{S:cH}{N:Nat}{τ : Nat->Nat}(hS:HS.take 13=k9)(hN:(HS.drop N).take 7=Px S N)(h3:∀j,j<13 -> τ (3+j)=j)(h16:∀j,j<6 -> τ (16+j)=N+1+j){ls:List Nat}{l:aj}(hl:ae τ HS ls l):ae τ HS (O_ N ls) (iT S++l):=by
 have g:∀j,j<13->HS[j]? = k9[j]?:=fun j hj=>by rw[<-hS,List.getElem?_take_of_lt hj]
 have k:∀j,j<7->HS[N+j]? = (Px S N)[j]?:=fun j hj=>by rw[<-hN,List.getElem?_take_of_lt hj,List.getElem?_drop]
 have a1 : τ 4=1:=h3 1 (by decide);have a2 : τ 5=2:=h3 2 (by decide);have a3 : τ 6=3:=h3 3 (by decide);have a4 : τ 7=4:=h3 4 (by decide);have a5 : τ 8=5:=h3 5 (by decide);have a6 : τ 9=6:=h3 6 (by decide);have a7 : τ 10=7:=h3 7 (by decide);have a8 : τ 11=8:=h3 8 (by decide);have a9 : τ 12=9:=h3 9 (by decide);have b0 : τ 13=10:=h3 10 (by decide);have b1 : τ 14=11:=h3 11 (by decide);have b2 : τ 15=12:=h3 12 (by decide);have a0 : τ 3=0:=h3 0 (by decide);have d0 : τ 16=N+1:=h16 0 (by decide);have d1 : τ 17=N+2:=h16 1 (by decide);have d2 : τ 18=N+3:=h16 2 (by decide);have d3 : τ 19=N+4:=h16 3 (by decide);have d4 : τ 20=N+5:=h16 4 (by decide);have d5 : τ 21=N+6:=h16 5 (by decide);refine .cons ?_ (.cons ?_ (.cons ?_ (.flat (g 2 (by decide)) (.flat (g 3 (by decide)) (.flat (g 4 (by decide)) (.cons ?_ (.flat (g 6 (by decide)) (.flat (g 7 (by decide)) (.flat (g 8 (by decide)) (.cons ?_ (.flat (g 10 (by decide)) (.flat (g 11 (by decide)) (.flat (g 12 (by decide)) (.cons ?_ (.flat (k 2 (by decide)) (.cons ?_ (.flat (k 4 (by decide)) (.flat (k 5 (by decide)) (.flat (k 6 (by decide)) hl)))))))))))))))))))
 ·have:=k 0 (by decide);rw[Nat.add_zero]at this;rw[this];simp only[ak.aC,List.map_cons,List.map_nil,XC.aC,a0,d0,d2];rfl
 ·rw[g 0 (by decide)];simp only[ak.aC,List.map_cons,List.map_nil,XC.aC,a1,a5,a9];rfl
 ·rw[g 1 (by decide)];simp only[ak.aC,List.map_cons,List.map_nil,XC.aC,a2,a3,a4];rfl
 ·rw[g 5 (by decide)];simp only[ak.aC,List.map_cons,List.map_nil,XC.aC,a6,a7,a8];rfl
 ·rw[g 9 (by decide)];simp only[ak.aC,List.map_cons,List.map_nil,XC.aC,b0,b1,b2];rfl
 ·rw[k 1 (by decide)];simp only[ak.aC,List.map_cons,List.map_nil,XC.aC,d1];rfl
 ·rw[k 3 (by decide)];simp only[ak.aC,List.map_cons,List.map_nil,XC.aC,d3,d4,d5];rfl
theorem Py{S:cH}{N:Nat}{τ : Nat->Nat}(h3:∀j,j<13 -> τ (3+j)=j)(h16:∀j,j<6 -> τ (16+j)=N+1+j){l l':aj}(hl:d9 τ l l'):d9 τ (iT S++l) (RJ S N l'):=by
 have a1 : τ 4=1:=h3 1 (by decide);have a2 : τ 5=2:=h3 2 (by decide);have a3 : τ 6=3:=h3 3 (by decide);have a4 : τ 7=4:=h3 4 (by decide);have a5 : τ 8=5:=h3 5 (by decide);have a6 : τ 9=6:=h3 6 (by decide);have a7 : τ 10=7:=h3 7 (by decide);have a8 : τ 11=8:=h3 8 (by decide);have a9 : τ 12=9:=h3 9 (by decide);have b0 : τ 13=10:=h3 10 (by decide);have b1 : τ 14=11:=h3 11 (by decide);have b2 : τ 15=12:=h3 12 (by decide);have a0 : τ 3=0:=h3 0 (by decide);have d0 : τ 16=N+1:=h16 0 (by decide);have d1 : τ 17=N+2:=h16 1 (by decide);have d2 : τ 18=N+3:=h16 2 (by decide);have d3 : τ 19=N+4:=h16 3 (by decide);have d4 : τ 20=N+5:=h16 4 (by decide);have d5 : τ 21=N+6:=h16 5 (by decide);refine .cons ?_ (.cons ?_ (.cons ?_ (.flat (.flat (.flat (.cons ?_ (.flat (.flat (.flat (.cons ?_ (.flat (.flat (.flat (.cons ?_ (.flat (.cons ?_ (.flat (.flat (.flat hl)))))))))))))))))))
 all_goals simp only[ak.aC,List.map_cons,List.map_nil,XC.aC, *]
theorem I0(a b N:Nat)(r:List Nat):∀j,j<13->nth (a::b::O_ N r) (3+j)=j:=fun j hj=>by
 have hq:∀q:Fin 13,KT[q.val]? = some q.val:=by decide
 have:=hq ⟨j,hj⟩;unfold nth;rw[List.getD_eq_getElem?_getD,Nat.add_comm];show((KT++((N+1)::(N+2)::(N+3)::(N+4)::(N+5)::(N+6)::r))[j]?).getD 0=j;rw[List.getElem?_append_left (by exact hj),this];rfl
theorem D1(a b N:Nat)(r:List Nat):∀j,j<6->nth (a::b::O_ N r) (16+j)=N+1+j:=fun j hj=>by
 match j,hj with
 | 0,_=>rfl
 | 1,_=>rfl
 | 2,_=>rfl
 | 3,_=>rfl
 | 4,_=>rfl
 | 5,_=>rfl
theorem MI{S:cH}{B bw:List Bool}{m:Mb}{mb:Int}(hP:ss S B bw m mb){S':cH}{B' bw':List Bool}(h:nv S B bw m mb=some (S',B',bw')) :
 bt prog 63 [.one (.ptr 2 0),.one (.ptr 0 0),.one (.ptr 22 0),.one (.int .i64 mb),.agg (mC m)] (aP 1 B::av B::(iT S++[aP 23 bw,av bw])) (.one (.int .i64 0)) (aP 24 B' :: .dead::(iT S'++[aP 25 bw',.dead,av B',av bw'])):=by
 have hk:=hP.good.kind;have hk0:=hP.good.ok.kind;unfold nv at h
 by_cases h0:m.kind=0
 ·rw[if_pos h0]at h;cases Option.some.inj h;exact RD hP h0
 ·rw [if_neg h0]at h;obtain⟨x,hx,e⟩:=Option.map_eq_some_iff.1 h;cases e;unfold fS at hx
  by_cases h1:m.kind=1
  ·rw[if_neg h0,if_pos h1]at hx;exact RE hP h1 x hx
  ·by_cases h2:m.kind=2
   ·rw[if_neg h0,if_neg h1,if_pos h2]at hx;exact RF hP h2 x hx
   ·rw[if_neg h0,if_neg h1,if_neg h2]at hx
    by_cases h3:m.kind=3
    ·rw[jw (by omega)]at hx;exact RG hP h3 x hx
    ·have h4:m.kind=4:=by omega
     rw[zX h4]at hx;exact RI hP h4 x hx
theorem OZ{S:cH}{B bw:List Bool}{m:Mb}{mb:Int}(hP:ss S B bw m mb){S':cH}{B' bw':List Bool}(h:nv S B bw m mb=some (S',B',bw')){HS:aj}{i k j g N:Nat}(hi:HS[i]? = some (aP k B))(hk:HS[k]? = some (av B))(hS:HS.take 13=k9)(hN:(HS.drop N).take 7=Px S N)(hj:HS[j]? = some (aP g bw))(hg:HS[g]? = some (av bw))
 (hnd:(i::k::O_ N [j,g]).Nodup) {M:Nat}(hM:HS.length=M) {HS':aj}(hh:bJ HS [i,k,N,0,1,2,3,4,5,6,7,8,9,10,11,12,N+1,N+2,N+3,N+4,N+5,N+6,j,g] [aP M B',.dead,Sa S' N,fc 1 5 9,aX 2 3 4 cM,db cM,df cM,dc cM,aX 6 7 8 cZ,db cZ,df cZ,dc cZ,aX 10 11 12 cP,db cP,df cP,dc cP,fD (N+2) S'.cols S'.rows,.map (cE S'.M),Sd S' N,.map (au S'.A),.map (au S'.B),.map (au S'.C),aP (M+1) bw',.dead,av B',av bw']=HS') (hbd:Nat.blt HS'.length Mem.bound=true) :
 aA.Sound prog ⟨63,[.one (.ptr N 0),.one (.ptr i 0),.one (.ptr j 0),.one (.int .i64 mb),.agg (mC m)],HS,.one (.int .i64 0),HS',i::k::O_ N [j,g]⟩:=by
 subst hM;have h3:=I0 i k N [j,g];have h16:=D1 i k N [j,g];have h3':=I0 i k N ([j,g]++List.range' HS.length 2);have h16':=D1 i k N ([j,g]++List.range' HS.length 2);have hv:=Pz (S:=S) hS hN h3 h16 (ls:=[j,g]) (l:=[aP 23 bw,av bw]) (ae.iu hj rfl rfl rfl (.flat hg .nil));have ho:=ot S 24 (by omega) (l:=[aP 23 bw,av bw]) (.cons (by simp[ak.bK,XC.ok,aK]) (.flat .nil));have ho':=ot S' 26 (by omega) (l:=[aP 25 bw',.dead,av B',av bw']) (.cons (by simp[ak.bK,XC.ok,aK]) (.flat (.flat (.flat .nil))));have hr:=Py (S:=S') (N:=N) h3' h16' (l:=[aP 25 bw',.dead,av B',av bw']) (l':=[aP (HS.length+1) bw',.dead,av B',av bw']) (.cons (by simp only[ak.aC,List.map_cons,List.map_nil,XC.aC,aV];rfl) (.flat (.flat (.flat .nil))));refine bI (os:=aP HS.length B' :: .dead::RJ S' N [aP (HS.length+1) bw',.dead,av B',av bw']) (i::k::O_ N [j,g]) (i::k::O_ N [j,g]) 2 (MI hP h) hnd (ae.iu hi rfl rfl rfl (.flat hk hv)) (.cons (by simp[ak.bK,XC.ok,aK]) (.flat ho)) (.cons (by simp[ak.bK,XC.ok,aK]) (.flat ho')) rfl (.cons (by show 2<24;omega) (.cons (by show 0<24;omega) (.cons (by show 22<24;omega) (.flat (.flat .nil))))) (.cons rfl (.cons rfl (.cons rfl (.flat (.flat .nil))))) (b8.ok _) (b8.aC _) ?_ (Ef ..) rfl hh hbd (.inl rfl);exact .cons (by simp only[ak.aC,List.map_cons,List.map_nil,XC.aC,aV];rfl) (.flat hr)
theorem zK{S:cH}{m:Mb}(hm:jT m)(hf:Dq S m):nM m:=
 ⟨hm,hf.kind.2,fun i hi=>(hf.lev i hi).2.1,fun ha k hk=>(hf.lev (k*64) (by omega)).2.2 (by omega) ha⟩
theorem Fm{S:cH}{m:Mb}(hf:Dq S m):∀k,k<4->fj (m.v k)=true:=fun k hk=>(hf.vecs k hk).1
theorem HA{m:Mb}(hg:nM m){mb:Int}{x0:rB}(h0:ER m mb x0 (0,x0)):∀k,k<=6->∀x,kn m mb x0 k=some x->ER m mb x0 (k,x):=by
 intro k
 induction k with
 | zero=>
   intro _ x hx;cases hx;exact h0
 | succ k ih=>
   intro hk x hx;obtain⟨y,r,hy,hr,rfl⟩:=tZ hx;exact wU hg (ih (by omega) y hy) (by show k<6;omega) hr
theorem E9{m:Mb}{mb:Int}{x0:rB}:∀k x,kn m mb x0 k=some x->x.S.inter=x0.S.inter/\x.S.qp=x0.S.qp/\x0.B <+: x.B:=by
 intro k
 induction k with
 | zero=>intro x hx;cases hx;exact⟨rfl,rfl,List.prefix_refl _⟩
 | succ k ih=>
   intro x hx;obtain⟨y,r,hy,hr,rfl⟩:=tZ hx;obtain⟨h1,h2,h3⟩:=ih y hy;refine⟨?_,?_,?_⟩
   ·show(if alone m=true then eG y.S mb k ⟨cD m k,m.qp⟩else y.S).inter=_;split<;>exact h1
   ·show(if alone m=true then eG y.S mb k ⟨cD m k,m.qp⟩else y.S).qp=_;split<;>exact h2
   ·show x0.B <+: (if alone m=true then y.B++_ else y.B);split
    ·exact h3.trans (List.prefix_append _ _)
    ·exact h3
structure sq(S:cH)(X:List Bool)(n:Nat)(z:cH×List Bool):Prop where
 st:km z.1
 cols:z.1.cols=S.cols
 rows:z.1.rows=S.rows
 inter:z.1.inter=S.inter
 qp:z.1.qp=S.qp
 pre:X <+: z.2
 len:z.2.length<=X.length+n
theorem nZ{S:cH}{X:List Bool}{n:Nat}{z:cH×List Bool}(h:sq S X n z){m:Mb}(hm:jT m)(mb:Int)(k:Nat):sq S X (n+54) (aT m mb z k):=by
 refine⟨⟨h.st.dims,h.st.lev,ep h.st.tiny (hm.v k)⟩,h.cols,h.rows,h.inter,h.qp,h.pre.trans (List.prefix_append _ _),?_⟩;have:=mg (m.v k) (gI z.1.M z.1.cols z.1.rows mb k);have:=h.len;show(z.2++ia (m.v k) (gI z.1.M z.1.cols z.1.rows mb k)).length<=_;rw[List.length_append];omega
theorem mN{S:cH}{X:List Bool}{n:Nat}{z:cH×List Bool}(h:sq S X n z){m:Mb}(hm:jT m)(mb:Int):sq S X n (b6 z.1 mb m.v,z.2):=
 ⟨⟨h.st.dims,h.st.lev,kN h.st.tiny hm.v⟩,h.cols,h.rows,h.inter,h.qp,h.pre,h.len⟩
theorem pQ{S:cH}{X:List Bool}{n k:Nat}{z:cH×List Bool}(h:sq S X n z)(hk:n<=k):sq S X k z:=
 ⟨h.st,h.cols,h.rows,h.inter,h.qp,h.pre,by have:=h.len;omega⟩
theorem zY{S:cH}(hS:km S)(m:Mb):km (fA S m)/\(fA S m).cols=S.cols/\(fA S m).rows=S.rows/\(fA S m).inter=S.inter/\(fA S m).qp=if m.kind=4 then m.qp else S.qp:=by
 unfold fA;split
 ·exact⟨⟨hS.dims,hS.lev,hS.tiny⟩,rfl,rfl,rfl,rfl⟩
 ·exact⟨hS,rfl,rfl,rfl,rfl⟩
theorem Cg{S:cH}(hS:km S){m:Mb}(hm:jT m){X:List Bool}{mb:Int}:sq (fA S m) (X++bm S m) 216 (fS S X m mb):=by
 have hk:=(zY hS m).1
 have h0:sq (fA S m) (X++bm S m) 0 (fA S m,X++bm S m):=⟨hk,rfl,rfl,rfl,rfl,List.prefix_refl _,Nat.le_refl _⟩
 unfold fS;split
 ·rename_i g;rw[jw (by omega)]at h0 ⊢;exact pQ (mN h0 hm mb) (by omega)
 ·split
  ·rename_i g;rw[jw (by omega)]at h0 ⊢;exact pQ (mN (nZ h0 hm mb 0) hm mb) (by omega)
  ·split
   ·rename_i g;rw[jw (by omega)]at h0 ⊢;exact pQ (mN (nZ (nZ (nZ (nZ h0 hm mb 0) hm mb 1) hm mb 2) hm mb 3) hm mb) (by omega)
   ·have h1:=mN h0 hm mb;exact⟨h1.st,h1.cols,h1.rows,h1.inter,h1.qp,List.prefix_append _ _,by simp only[List.length_append,List.length_cons,List.length_nil];omega⟩
structure So(S:cH)(X bw:List Bool)(m:Mb)(z:cH×List Bool×List Bool):Prop where
 st:km z.1
 cols:z.1.cols=S.cols
 rows:z.1.rows=S.rows
 inter:z.1.inter=S.inter
 qp:z.1.qp=m.qp
 pre:X++bm S m <+: z.2.1
 len:z.2.1.length<=X.length+1000
 lenw:z.2.2.length<=bw.length+20736
theorem xw{S:cH}(hS:km S){m:Mb}(hm:jT m)(hf:Dq S m){X bw:List Bool}{mb:Int}{z:cH×List Bool×List Bool}(h:nv S X bw m mb=some z):So S X bw m z:=by
 have hg:=zK hm hf;have hh:=Cg hS hm (X:=X) (mb:=mb);obtain⟨_,k1,k2,k3,k4⟩:=zY hS m;have hkl:=ka S m
 have hq:(if m.kind=4 then m.qp else S.qp)=m.qp:=by
  split
  ·rfl
  ·rename_i h4;exact(hf.qp h4).symm
 rw[hq]at k4;have hlx:(X++bm S m).length<=X.length+66:=by rw[List.length_append];omega
 have hhl:=hh.len;unfold nv at h
 by_cases h0:m.kind=0
 ·rw[if_pos h0]at h;have e:fS S X m mb=(b6 S mb m.v,X++bm S m):=by unfold fS;rw[if_pos h0]
  rw[e]at hh;cases Option.some.inj h;exact⟨hh.st,hh.cols.trans k1,hh.rows.trans k2,hh.inter.trans k3,hh.qp.trans k4,hh.pre,by show(X++bm S m).length<=_;omega,Nat.le_add_right _ _⟩
 ·rw[if_neg h0]at h;obtain⟨x,hx,e⟩:=Option.map_eq_some_iff.1 h;cases e
  obtain⟨z0,hz0⟩:∃z0,fS S X m mb=z0:=⟨_,rfl⟩
  rw[hz0]at hh hx hhl
  have hi:ER m mb ⟨z0.1,z0.2,0,0,fun _=>[]⟩ (0,⟨z0.1,z0.2,0,0,fun _=>[]⟩):=⟨Nat.zero_le _,rfl,hh.st,⟨rfl,rfl⟩,Nat.le_refl _,fun _ _=>rfl,fun _ => .inl rfl,by show(0:Int)<=0/\(0:Int)<16;decide,by show(0:Int)<=0/\(0:Int)<4;decide⟩
  have hb:=HA hg hi 6 (Nat.le_refl _) x hx;have hr:=E9 6 x hx;have hlen:x.B.length<=z0.2.length+76*6:=hb.len;have hcl:=j9 HD x.pat.toNat;refine⟨hb.st,hb.cr.1.trans (hh.cols.trans k1),hb.cr.2.trans (hh.rows.trans k2),hr.1.trans (hh.inter.trans k3),hr.2.1.trans (hh.qp.trans k4),?_,?_,?_⟩
  ·exact hh.pre.trans (hr.2.2.trans ((List.prefix_append _ _).trans (List.prefix_append _ _)))
  ·show((x.B++jn cP x.pat.toNat)++aJ x.col 2).length<=_;simp only[List.length_append,aR];rw[List.length_append]at hlx hhl;omega
  ·have:=rF (bw:=bw) hb.evs 6;show(c_ bw x 6).length<=_;omega
structure PS where
 S:cH
 B:List Bool
 w:List Bool
noncomputable def nu(first:Int)(k:Nat)(m:Mb)(x:PS):Int ⊕ PS:=
 if dH m x.S.inter x.S.qp≠0 then .inl (dH m x.S.inter x.S.qp)else match nv x.S x.B x.w m (first+(k:Nat))with
  | none => .inl 2
  | some z => .inr ⟨z.1,z.2.1,z.2.2⟩
noncomputable def mY(l:List Mb)(first:Int)(x0:PS):Nat->Int ⊕ PS
 | 0 => .inr x0
 | k+1=>match mY l first x0 k with
   | .inl e => .inl e
   | .inr x=>nu first k (l.getD k Ag) x
theorem AI{l:List Mb}{first:Int}{x0:PS}{k:Nat}{e:Int}(h:mY l first x0 k = .inl e):∀j,k<=j->mY l first x0 j = .inl e:=by
 intro j hj
 induction hj with
 | refl=>exact h
 | step _ ih=>rw[mY,ih]
structure EZ(p:Bool)(c r:Int)(j:Nat)(x:PS):Prop where
 st:km x.S
 cols:x.S.cols=c
 rows:x.S.rows=r
 inter:x.S.inter=p
 qp : -1000000<=x.S.qp/\x.S.qp<=1000000
 len:x.B.length<=1000*j
 lenw:x.w.length<=20736*j
theorem xq{p:Bool}{c r:Int}{j:Nat}{x y:PS}(h:EZ p c r j x){m:Mb}(hm:jT m){first:Int}{k:Nat}(hy:nu first k m x = .inr y):EZ p c r (j+1) y:=by
 unfold nu at hy;split at hy
 ·cases hy
 ·rename_i hc;have hc0:dH m x.S.inter x.S.qp=0:=Decidable.byContradiction fun g=>hc g
  have hf:=rI hm hc0;split at hy
  ·cases hy
  ·rename_i z hz;cases hy;have hk:=xw h.st hm hf hz;have a:=hk.len;have b:=hk.lenw;have a':=h.len;have b':=h.lenw;exact⟨hk.st,hk.cols.trans h.cols,hk.rows.trans h.rows,hk.inter.trans h.inter,by rw[hk.qp];exact hm.qp,by show z.2.1.length<=_;omega,by show z.2.2.length<=_;omega⟩
theorem Jh{p:Bool}{c r:Int}{j:Nat}{x:PS}(h:EZ p c r j x)(hj:j<=20){m:Mb}(hm:jT m){mb:Int}(hmb:0<=mb/\mb<c*r)(hc:dH m x.S.inter x.S.qp=0):ss x.S x.B x.w m mb:=by
 have hf:=rI hm hc;have a:=h.len;have b:=h.lenw;exact⟨h.st,by rw[h.cols,h.rows];exact hmb,h.qp,zK hm hf,Fm hf,by omega,by omega⟩
end Go.Proofs.YthdciapjllppjaaGreat
