/-
  A part of the proof: Put3, Undiff, Undiff2, Firsts, StP, OutL, TakeF, MbLaw, Heads, Begin, InPlace, Put4, PutLaw, Take2.
-/
import Derived.Test.YtnkodcmkpfefhaaGreatEeE
import Derived.Test.YtnkodcmkpfefhaaGreatEeH
import Derived.Test.YtnkodcmkpfefhaaGreatEeN
import Derived.Test.YtnkodcmkpfefhaaGreatEeP
import Derived.Test.YtnkodcmkpfefhaaGreatEeQ
import Derived.Test.YtnkodcmkpfefhaaGreatEeS
import Derived.Test.YtnkodcmkpfefhaaGreatEeT
import Derived.Test.YtnkodcmkpfefhaaGreatEeU
set_option maxRecDepth 10000
set_option maxHeartbeats 8000000
set_option linter.unusedVariables false
set_option linter.unusedSectionVars false
set_option linter.unusedSimpArgs false
namespace Go.Proofs.YtnkodcmkpfefhaaGreat
open Go.Xm
variable [aw]
theorem LB{S:bO}{B bw:List Bool}{m:Mb}{mb:Int}(hP:jA S B bw m mb)(hk:m.kind=3)(x:oT)(hx:gm m mb ⟨bk S mb m.v,((B++aG S m)++[m.edge]),0,0,fun _=>[]⟩ 6=some x) :
 aW Tryz.prog 83 [.one (.ptr 2 0),.one (.ptr 0 0),.one (.ptr 22 0),.one (.int .i64 mb),.agg (mC m)] [aK 1 B,aq B,fv (S),cK 4 8 12,aI 5 6 7 cM,bz cM,bC cM,bB cM,aI 9 10 11 cZ,bz cZ,bC cZ,bB cZ,aI 13 14 15 cP,bz cP,bC cP,bB cP,dq 17 (S).cols (S).rows,.map (bK (S).M),.cells [.int .i64 (S).cols,.int .i64 (S).rows,.map 19,.map 20,.map 21] 142 false false,.map (aj (S).A),.map (aj (S).B),.map (aj (S).C),aK 23 bw,aq bw] (.one (.int .i64 0)) [aK 24 (dY x),.dead,fv (x.S),cK 4 8 12,aI 5 6 7 cM,bz cM,bC cM,bB cM,aI 9 10 11 cZ,bz cZ,bC cZ,bB cZ,aI 13 14 15 cP,bz cP,bC cP,bB cP,dq 17 (x.S).cols (x.S).rows,.map (bK (x.S).M),.cells [.int .i64 (x.S).cols,.int .i64 (x.S).rows,.map 19,.map 20,.map 21] 142 false false,.map (aj (x.S).A),.map (aj (x.S).B),.map (aj (x.S).C),aK 25 (cC bw x 6),.dead,aq (dY x),aq (cC bw x 6)]:=by
 have hg:=hP.good
 have hm:=hg.ok
 have hD:=hP.st.dims
 have hmb:=hP.mb
 have hlen:=hP.len
 have hkl:=ej S m
 have hK:=gx B S m hm hg.kind hP.qp (by omega)
 rw[eg (by omega)]at hK
 have htE:c_ S.M:=hP.st.tiny
 have hS2:f4 (bk S mb m.v):=⟨hD,hP.st.lev,d9 htE hm.v⟩
 have hB2:(((B++aG S m)++[m.edge])).length<=700000:=by
  show(((B++aG S m)++[m.edge])).length<=700000
  simp only[List.length_append,List.length_cons,List.length_nil]
  omega
 refine cO Tryz.func83 ?_
 repeat' (first
  |(refine qz ?_;first
   |refine fV ?_ (hle:=by rw[aQ])
   |refine cl ?_ (hi:=by exact oI (S:=S) (S':=S) (bs:=B) (bs':=B++aG S m) (fun _ => .flat .nil) (.flat .nil) rfl hK rfl rfl rfl rfl nL nA rfl)
   |refine cl ?_ (hi:=by exact jl (b:=m.edge) (bs:=(B++aG S m)) (by simp only[List.length_append];omega) rfl rfl (by decide) nL nA rfl)
   |refine cl ?_ (hi:=by exact gH (S:=S) (bs:=((B++aG S m)++[m.edge])) hD hmb rfl rfl rfl rfl nA rfl)
   |refine cl ?_ (hi:=by exact mr (B:=((B++aG S m)++[m.edge])) (S:=bk S mb m.v) (mu (((B++aG S m)++[m.edge])) bw (bk S mb m.v) m mb hg hS2 hmb hB2 (by have:=hP.lenw;omega) x hx) rfl rfl rfl rfl rfl rfl nL nA rfl))
  |refine zz ?_|refine zx (fun _=>?_) (fun _=>?_)|fail)
 show aD _ _ _ _ _ _ _ _;refine kV [0,1,2,3,4,5,6,7,8,9,10,11,12,13,14,15,16,17,18,19,20,21,22,23,27,28] ?_
 rfl
theorem JZ{S:bO}{B bw:List Bool}{m:Mb}{mb:Int}(hP:jA S B bw m mb)(hk:m.kind=3)(hx:gm m mb ⟨bk S mb m.v,((B++aG S m)++[m.edge]),0,0,fun _=>[]⟩ 6=none) :
 aW Tryz.prog 83 [.one (.ptr 2 0),.one (.ptr 0 0),.one (.ptr 22 0),.one (.int .i64 mb),.agg (mC m)] [aK 1 B,aq B,fv (S),cK 4 8 12,aI 5 6 7 cM,bz cM,bC cM,bB cM,aI 9 10 11 cZ,bz cZ,bC cZ,bB cZ,aI 13 14 15 cP,bz cP,bC cP,bB cP,dq 17 (S).cols (S).rows,.map (bK (S).M),.cells [.int .i64 (S).cols,.int .i64 (S).rows,.map 19,.map 20,.map 21] 142 false false,.map (aj (S).A),.map (aj (S).B),.map (aj (S).C),aK 23 bw,aq bw] (.one (.int .i64 2)) lH:=by
 have hg:=hP.good
 have hm:=hg.ok
 have hD:=hP.st.dims
 have hmb:=hP.mb
 have hlen:=hP.len
 have hkl:=ej S m
 have hK:=gx B S m hm hg.kind hP.qp (by omega)
 rw[eg (by omega)]at hK
 have htE:c_ S.M:=hP.st.tiny
 have hS2:f4 (bk S mb m.v):=⟨hD,hP.st.lev,d9 htE hm.v⟩
 have hB2:(((B++aG S m)++[m.edge])).length<=700000:=by
  show(((B++aG S m)++[m.edge])).length<=700000
  simp only[List.length_append,List.length_cons,List.length_nil]
  omega
 refine cO Tryz.func83 ?_
 repeat' (first
  |(refine qz ?_;first
   |refine fV ?_ (hle:=by rw[aQ])
   |refine cl ?_ (hi:=by exact oI (S:=S) (S':=S) (bs:=B) (bs':=B++aG S m) (fun _ => .flat .nil) (.flat .nil) rfl hK rfl rfl rfl rfl nL nA rfl)
   |refine cl ?_ (hi:=by exact jl (b:=m.edge) (bs:=(B++aG S m)) (by simp only[List.length_append];omega) rfl rfl (by decide) nL nA rfl)
   |refine cl ?_ (hi:=by exact gH (S:=S) (bs:=((B++aG S m)++[m.edge])) hD hmb rfl rfl rfl rfl nA rfl)
   |refine cl ?_ (hi:=by exact kR (B:=((B++aG S m)++[m.edge])) (S:=bk S mb m.v) (kS (((B++aG S m)++[m.edge])) bw (bk S mb m.v) m mb hg hS2 hmb hB2 (by have:=hP.lenw;omega) hx) rfl rfl rfl rfl rfl rfl nL nA rfl))
  |refine zz ?_|refine zx (fun _=>?_) (fun _=>?_)|fail)
 show aD _ _ _ _ _ _ _ _;refine kV [0,1,2,3,4,5,6,7,8,9,10,11,12,13,14,15,16,17,18,19,20,21,22,23] ?_
 rfl
theorem LC{S:bO}{B bw:List Bool}{m:Mb}{mb:Int}(hP:jA S B bw m mb)(hk:m.kind=4)(x:oT)(hx:gm m mb ⟨bk ({S with qp:=m.qp}:bO) mb m.v,((B++aG S m)++[m.edge]),0,0,fun _=>[]⟩ 6=some x) :
 aW Tryz.prog 83 [.one (.ptr 2 0),.one (.ptr 0 0),.one (.ptr 22 0),.one (.int .i64 mb),.agg (mC m)] [aK 1 B,aq B,fv (S),cK 4 8 12,aI 5 6 7 cM,bz cM,bC cM,bB cM,aI 9 10 11 cZ,bz cZ,bC cZ,bB cZ,aI 13 14 15 cP,bz cP,bC cP,bB cP,dq 17 (S).cols (S).rows,.map (bK (S).M),.cells [.int .i64 (S).cols,.int .i64 (S).rows,.map 19,.map 20,.map 21] 142 false false,.map (aj (S).A),.map (aj (S).B),.map (aj (S).C),aK 23 bw,aq bw] (.one (.int .i64 0)) [aK 24 (dY x),.dead,fv (x.S),cK 4 8 12,aI 5 6 7 cM,bz cM,bC cM,bB cM,aI 9 10 11 cZ,bz cZ,bC cZ,bB cZ,aI 13 14 15 cP,bz cP,bC cP,bB cP,dq 17 (x.S).cols (x.S).rows,.map (bK (x.S).M),.cells [.int .i64 (x.S).cols,.int .i64 (x.S).rows,.map 19,.map 20,.map 21] 142 false false,.map (aj (x.S).A),.map (aj (x.S).B),.map (aj (x.S).C),aK 25 (cC bw x 6),.dead,aq (dY x),aq (cC bw x 6)]:=by
 have hg:=hP.good
 have hm:=hg.ok
 have hD:=hP.st.dims
 have hmb:=hP.mb
 have hlen:=hP.len
 have hkl:=ej S m
 have hK:=gx B S m hm hg.kind hP.qp (by omega)
 rw[oq hk]at hK
 have htE:c_ S.M:=hP.st.tiny
 have hS2:f4 (bk ({S with qp:=m.qp}:bO) mb m.v):=⟨hD,hP.st.lev,d9 htE hm.v⟩
 have hB2:(((B++aG S m)++[m.edge])).length<=700000:=by
  show(((B++aG S m)++[m.edge])).length<=700000
  simp only[List.length_append,List.length_cons,List.length_nil]
  omega
 refine cO Tryz.func83 ?_
 repeat' (first
  |(refine qz ?_;first
   |refine fV ?_ (hle:=by rw[aQ])
   |refine cl ?_ (hi:=by exact oI (S:=S) (S':={S with qp:=m.qp}) (bs:=B) (bs':=B++aG S m) (fun _ => .flat .nil) (.flat .nil) rfl hK rfl rfl rfl rfl nL nA rfl)
   |refine cl ?_ (hi:=by exact jl (b:=m.edge) (bs:=(B++aG S m)) (by simp only[List.length_append];omega) rfl rfl (by decide) nL nA rfl)
   |refine cl ?_ (hi:=by exact gH (S:=({S with qp:=m.qp}:bO)) (bs:=((B++aG S m)++[m.edge])) hD hmb rfl rfl rfl rfl nA rfl)
   |refine cl ?_ (hi:=by exact mr (B:=((B++aG S m)++[m.edge])) (S:=bk ({S with qp:=m.qp}:bO) mb m.v) (mu (((B++aG S m)++[m.edge])) bw (bk ({S with qp:=m.qp}:bO) mb m.v) m mb hg hS2 hmb hB2 (by have:=hP.lenw;omega) x hx) rfl rfl rfl rfl rfl rfl nL nA rfl))
  |refine zz ?_|refine zx (fun _=>?_) (fun _=>?_)|fail)
 show aD _ _ _ _ _ _ _ _;refine kV [0,1,2,3,4,5,6,7,8,9,10,11,12,13,14,15,16,17,18,19,20,21,22,23,27,28] ?_
 rfl
theorem J0{S:bO}{B bw:List Bool}{m:Mb}{mb:Int}(hP:jA S B bw m mb)(hk:m.kind=4)(hx:gm m mb ⟨bk ({S with qp:=m.qp}:bO) mb m.v,((B++aG S m)++[m.edge]),0,0,fun _=>[]⟩ 6=none) :
 aW Tryz.prog 83 [.one (.ptr 2 0),.one (.ptr 0 0),.one (.ptr 22 0),.one (.int .i64 mb),.agg (mC m)] [aK 1 B,aq B,fv (S),cK 4 8 12,aI 5 6 7 cM,bz cM,bC cM,bB cM,aI 9 10 11 cZ,bz cZ,bC cZ,bB cZ,aI 13 14 15 cP,bz cP,bC cP,bB cP,dq 17 (S).cols (S).rows,.map (bK (S).M),.cells [.int .i64 (S).cols,.int .i64 (S).rows,.map 19,.map 20,.map 21] 142 false false,.map (aj (S).A),.map (aj (S).B),.map (aj (S).C),aK 23 bw,aq bw] (.one (.int .i64 2)) lH:=by
 have hg:=hP.good
 have hm:=hg.ok
 have hD:=hP.st.dims
 have hmb:=hP.mb
 have hlen:=hP.len
 have hkl:=ej S m
 have hK:=gx B S m hm hg.kind hP.qp (by omega)
 rw[oq hk]at hK
 have htE:c_ S.M:=hP.st.tiny
 have hS2:f4 (bk ({S with qp:=m.qp}:bO) mb m.v):=⟨hD,hP.st.lev,d9 htE hm.v⟩
 have hB2:(((B++aG S m)++[m.edge])).length<=700000:=by
  show(((B++aG S m)++[m.edge])).length<=700000
  simp only[List.length_append,List.length_cons,List.length_nil]
  omega
 refine cO Tryz.func83 ?_
 repeat' (first
  |(refine qz ?_;first
   |refine fV ?_ (hle:=by rw[aQ])
   |refine cl ?_ (hi:=by exact oI (S:=S) (S':={S with qp:=m.qp}) (bs:=B) (bs':=B++aG S m) (fun _ => .flat .nil) (.flat .nil) rfl hK rfl rfl rfl rfl nL nA rfl)
   |refine cl ?_ (hi:=by exact jl (b:=m.edge) (bs:=(B++aG S m)) (by simp only[List.length_append];omega) rfl rfl (by decide) nL nA rfl)
   |refine cl ?_ (hi:=by exact gH (S:=({S with qp:=m.qp}:bO)) (bs:=((B++aG S m)++[m.edge])) hD hmb rfl rfl rfl rfl nA rfl)
   |refine cl ?_ (hi:=by exact kR (B:=((B++aG S m)++[m.edge])) (S:=bk ({S with qp:=m.qp}:bO) mb m.v) (kS (((B++aG S m)++[m.edge])) bw (bk ({S with qp:=m.qp}:bO) mb m.v) m mb hg hS2 hmb hB2 (by have:=hP.lenw;omega) hx) rfl rfl rfl rfl rfl rfl nL nA rfl))
  |refine zz ?_|refine zx (fun _=>?_) (fun _=>?_)|fail)
 show aD _ _ _ _ _ _ _ _;refine kV [0,1,2,3,4,5,6,7,8,9,10,11,12,13,14,15,16,17,18,19,20,21,22,23] ?_
 rfl
def Av(B:List Bool):Nat->Int->Nat×Bool->Int×(Nat×Bool)
 | 0,x,r=>(x,r)
 | n+1,x,r=>Av B n (2*x+b2 (qj B r)) (gP B r)
def lT(B:List Bool)(n:Nat)(r:Nat×Bool):Int×(Nat×Bool):=(if(Av B n 0 r).2.2=true then 0 else(Av B n 0 r).1,(Av B n 0 r).2)
def xk(B:List Bool)(r:Nat×Bool):Nat:=(Kz cZ B r).1.toNat
def CR(B:List Bool)(r:Nat×Bool):Int×(Nat×Bool):=lT B (xk B r) (Kz cZ B r).2
def FM(B:List Bool)(r:Nat×Bool):Int×(Nat×Bool):=
 if 0<xk B r/\(CR B r).1<1*2^(xk B r-1)then
  ((CR B r).1-(1*2^xk B r-1),if(CR B r).1-(1*2^xk B r-1)=0 then((CR B r).2.1,true)else(CR B r).2)
 else CR B r
structure oU where
 m:Mb
 S:bO
 r:Nat×Bool
def I5(B:List Bool)(mb:Int)(x:oU)(k:Nat):Int:=(bN x.S mb k x.m.qp).2+(FM B x.r).1
def G0(B:List Bool)(mb:Int)(x:oU)(k:Nat):Prop:=I5 B mb x k<0\/127<I5 B mb x k
instance (B:List Bool) (mb:Int) (x:oU) (k:Nat):Decidable (G0 B mb x k):=by unfold G0;infer_instance
def Mu(B:List Bool)(mb:Int)(x:oU)(k:Nat):Int:=if G0 B mb x k then 0 else I5 B mb x k
def Mv(B:List Bool)(mb:Int)(x:oU)(k:Nat):Mb:={x.m with lev:=gM x.m.lev (k*64) (Mu B mb x k)}
def K4(B:List Bool)(mb:Int)(x:oU)(k:Nat):oU:=
 ⟨Mv B mb x k,cc x.S mb k ⟨bg (Mv B mb x k) k,(Mv B mb x k).qp⟩,if G0 B mb x k then((FM B x.r).2.1,true)else(FM B x.r).2⟩
def K3(B:List Bool)(mb:Int)(x:oU):Nat->oU
 | 0=>x
 | k+1=>K4 B mb (K3 B mb x k) k
end Go.Proofs.YtnkodcmkpfefhaaGreat
namespace Go.Xm
variable [aw]
variable {P:Program} {ops:Array Oper} {nt nI:Nat} {al:bc} {hs:ai} {o:Oper} {l:List Oper} {L:List aC} {K:List Ab->bc->ai->Prop} {d:Nat}
theorem MS{t:TypeId}{a y:Operand}{s i off:Nat}{cs vs vs':List XC}{e:TypeId}{opn:Bool}{hs':ai}(hk:SK P ops nt L l al hs' fun bs=>K (⟨true,.none,[i]⟩::bs))(hs2:off+s<=vs.length)(hv:vs.take off++cs++vs.drop (off+s)=vs')(ho:o.op = .store t a y:=by exact rfl)(ht:aO P t s:=by infer_instance)(hw:av ops (rg al) o=some true:=by exact rfl)(hd:o.dst = .none:=by exact rfl)
 (ha:ag (rg al) a = .one (.ptr i off):=by exact rfl) (hy:cu (ag (rg al) y)=some cs:=by exact rfl) (hi:hs[i]? = some (.cells vs e opn false):=by exact rfl) (hs1:s=cs.length:=by exact rfl) (hh:hs.set i (.cells vs' e opn false)=hs':=by first|(simp only[List.set_cons_succ,List.set_cons_zero];exact rfl)|exact rfl):SK P ops nt L (o::l) al hs K:=
 CD ho hw hd ha hy hi hs1 hs2 hv hh hk
theorem FH{k:IntKind}{n s a:Nat}(f g:Nat->Int)(h:a+s<=n):(ti k n f).take a++ti k s g++(ti k n f).drop (a+s)=ti k n (fun i=>if a<=i/\i<a+s then g (i-a)else f i):=by
 apply List.ext_getElem?
 intro i
 have h1:((ti k n f).take a).length=a:=by rw[List.length_take,aL];omega
 by_cases hn:i<n
 ·rw[eY hn]
  by_cases ha:i<a
  ·rw[List.append_assoc,List.getElem?_append_left (by omega),List.getElem?_take_of_lt ha,eY hn,if_neg (by omega)]
  ·by_cases hb:i<a+s
   ·rw[List.append_assoc,List.getElem?_append_right (by omega),h1,List.getElem?_append_left (by rw[aL];omega),eY (by omega),if_pos (by omega)]
   ·rw[List.getElem?_append_right (by rw[List.length_append,h1,aL];omega),List.length_append,h1,aL,List.getElem?_drop,show a+s+(i-(a+s))=i by omega,eY hn,if_neg (by omega)]
 ·rw[List.getElem?_eq_none (by simp only[List.length_append,h1,aL,List.length_drop];omega),List.getElem?_eq_none (by rw[aL];omega)]
end Go.Xm
namespace Go.Proofs.YtnkodcmkpfefhaaGreat
open Go.Xm
variable [aw]
def sW:Mb:=⟨0,0,fun _=>(0,0),false,fun _=>0⟩
def NL:Nat->Bool:=fun _=>false
def LI(v:Nat->Int×Int)(k:Nat)(x:Int×Int):Nat->Int×Int:=fun j=>if j=k then x else v j
def uZ(S:bO)(B:List Bool)(r:Nat×Bool):Int×(Nat×Bool):=if S.inter=true then Kz cM B r else(if qj B r=true then 4 else 3,gP B r)
def MV(n:Int):Int:=([-2,-1,1,2]:List Int).getD n.toNat 0
def MX(S:bO)(B:List Bool)(k:Int×(Nat×Bool)):Int×(Nat×Bool):=
 if k.1=4 then(if S.qp+MV (lT B 2 k.2).1<1\/31<S.qp+MV (lT B 2 k.2).1 then(1,((lT B 2 k.2).2.1,true))else(S.qp+MV (lT B 2 k.2).1,(lT B 2 k.2).2))else(S.qp,k.2)
def J6(S:bO)(B:List Bool)(r:Nat×Bool):oU:=
 ⟨{sW with kind:=(uZ S B r).1,qp:=(MX S B (uZ S B r)).1},{S with qp:=(MX S B (uZ S B r)).1},(MX S B (uZ S B r)).2⟩
def L8(B:List Bool)(mb:Int)(x:oU)(k:Nat):oU:=
 ⟨{x.m with v:=LI x.m.v k (LK B (cN x.S.M x.S.cols x.S.rows mb k) x.r).1},{x.S with M:=a_ x.S.M x.S.cols mb k (LK B (cN x.S.M x.S.cols x.S.rows mb k) x.r).1},(LK B (cN x.S.M x.S.cols x.S.rows mb k) x.r).2⟩
def J5(B:List Bool)(mb:Int)(x:oU):oU:=
 if x.m.kind=1 then⟨{x.m with v:=fun _=>(LK B (cN x.S.M x.S.cols x.S.rows mb 0) x.r).1},x.S,(LK B (cN x.S.M x.S.cols x.S.rows mb 0) x.r).2⟩
 else if x.m.kind=2 then L8 B mb (L8 B mb (L8 B mb (L8 B mb x 0) 1) 2) 3
 else⟨{x.m with edge:=qj B x.r},x.S,gP B x.r⟩
def FK(mb:Int)(x:oU):oU:=⟨x.m,bk x.S mb x.m.v,x.r⟩
def FJ(B:List Bool)(mb:Int)(x:oU):oU:=if alone x.m=true then K3 B mb x 6 else x
def Lc(p c:Int)(k:Nat):Bool:=if k<4 then decide (G_ .i64 p (8/2^k)≠0)else decide (G_ .u64 c (2/2^(k-4))≠0)
def LG(B:List Bool)(x:oU):oU×(Nat->Bool):=(⟨x.m,x.S,(lT B 2 (Kz cP B x.r).2).2⟩,Lc (Kz cP B x.r).1 (lT B 2 (Kz cP B x.r).2).1)
def N4(B:List Bool)(mb:Int)(x:oU):oU×(Nat->Bool):=if x.m.kind=0 then(FK mb x,NL)else LG B (FJ B mb (FK mb (J5 B mb x)))
def AH(S:bO)(B:List Bool)(mb:Int)(r:Nat×Bool):oU×(Nat->Bool):=N4 B mb (J6 S B r)
structure Ma(x z:oU):Prop where
 cols:z.S.cols=x.S.cols
 rows:z.S.rows=x.S.rows
 qp:z.m.qp=x.m.qp
 kind:z.m.kind=x.m.kind
abbrev X1(X:oU)(t0:(Int×Int)×(Nat×Bool)):Mb:={X.m with v:=LI X.m.v 0 t0.1}
def kq(b:Kn):Int×Int:=(b.lv 0,b.qp)
def IP(T U:mS):Prop:=∀k,(eF U k).map kq=(eF T k).map kq
structure Rel(S R:bO):Prop where
 inter:R.inter=S.inter
 qp:R.qp=S.qp
 cols:R.cols=S.cols
 rows:R.rows=S.rows
 M:∀k,eF R.M k=eF S.M k
 a:IP S.A R.A
 b:IP S.B R.B
 c:IP S.C R.C
structure KI(m o:Mb):Prop where
 kind:o.kind=m.kind
 qp:o.qp=m.qp
 v:∀k,k<4->o.v k=m.v k
 edge:o.edge=m.edge
 lev:∀i,o.lev i=if alone m=true/\i%64=0/\i<384 then m.lev i else 0
structure zK(S:bO)(m:Mb):Prop where
 kind:0<=m.kind/\m.kind<=4
 alo:S.inter=false->alone m=true
 edge:alone m=false->m.edge=false
 st:m.kind=4->(dV S.qp m.qp).2=true
 qp:m.kind≠4->m.qp=S.qp
 vecs:∀k,k<4->pX m k
 lev:∀i,i<384->wt m i
theorem o6{S:bO}{m:Mb}(hm:iR m)(h:c7 m S.inter S.qp=0):zK S m:=by
 have hk:=hm.kind
 unfold c7 at h
 split at h
 ·cases h
 rename_i h1
 split at h
 ·cases h
 rename_i h2
 split at h
 ·cases h
 rename_i h3
 split at h
 ·cases h
 rename_i h4
 split at h
 ·rename_i h5;exact absurd h h5
 rename_i h5
 have hv:eZ m=0:=Decidable.byContradiction fun g=>h5 g
 refine⟨⟨hk.1,?_⟩,?_,?_,?_,?_,?_,?_⟩
 ·exact Decidable.byContradiction fun g=>h1 (.inl (by omega))
 ·intro g
  cases ha:alone m with
  | true=>rfl
  | false=>exact absurd (.inr ⟨g,ha⟩) h1
 ·intro g
  cases he:m.edge with
  | false=>rfl
  | true=>exact absurd ⟨he,g⟩ h2
 ·intro g
  cases hs:(dV S.qp m.qp).2 with
  | true=>rfl
  | false=>exact absurd ⟨g,hs⟩ h3
 ·intro g
  exact Decidable.byContradiction fun e=>h4 ⟨g,e⟩
 ·unfold eZ at hv
  split at hv
  ·rename_i g
   intro k hk
   match k,hk with
   | 0,_=>exact g.1
   | 1,_=>exact g.2.1
   | 2,_=>exact g.2.2.1
   | 3,_=>exact g.2.2.2
  ·cases hv
 ·unfold pM at h
  split at h
  ·assumption
  ·cases h
structure Mc(S:bO)(Y:List Bool)(m:Mb)(z:oU):Prop where
 rel:Rel S z.S
 r:z.r=(Y.length,false)
 kind:z.m.kind=m.kind
 qp:z.m.qp=m.qp
 v:∀k,k<4->z.m.v k=m.v k
 edge:z.m.edge=m.edge
 lev:∀i,z.m.lev i=0
theorem q7{m:Mb}{mb:Int}{x0:oT}{k:Nat}{x:oT}(h:gm m mb x0 (k+1)=some x):∃y r,gm m mb x0 k=some y/\f5 m y.S mb k=some r/\x=cw m mb k y (vu m y.S mb k r):=by
 rw[gm]at h
 obtain⟨y,hy,h2⟩:=Option.bind_eq_some_iff.1 h
 obtain⟨r,hr,h3⟩:=Option.map_eq_some_iff.1 h2
 exact⟨y,r,hy,hr,h3.symm⟩
structure M4(m:Mb)(k:Nat)(x:oT)(z:oU):Prop where
 rel:Rel x.S z.S
 r:z.r=(x.B.length,false)
 kind:z.m.kind=m.kind
 qp:z.m.qp=m.qp
 v:∀j,j<4->z.m.v j=m.v j
 edge:z.m.edge=m.edge
 lev:∀i,z.m.lev i=if i%64=0/\i<64*k then m.lev i else 0
structure M0(x:oT):Prop where
 pat:0<=x.pat/\x.pat<16
 col:0<=x.col/\x.col<4
 has:∀j,j<6->Lc x.pat x.col j=decide (0<(x.ev j).length)
noncomputable def iB(S:bO)(X bw:List Bool)(m:Mb)(mb:Int):Option (bO×List Bool×List Bool):=
 if m.kind=0 then some (bk S mb m.v,X++aG S m,bw)else(gm m mb ⟨(gC S X m mb).1,(gC S X m mb).2,0,0,fun _=>[]⟩ 6).map fun x=>(x.S,dY x,cC bw x 6)
noncomputable def Mt(S:bO)(X:List Bool)(m:Mb)(mb:Int)(k:Nat):List Ev:=
 if m.kind=0 then []else match gm m mb ⟨(gC S X m mb).1,(gC S X m mb).2,0,0,fun _=>[]⟩ 6 with
  | some x=>x.ev k
  | none=>[]
structure ua(h:Hd):Prop where
 dims:j6 h.cols h.rows
 yes:h.w=true->∀i,i<64->8<=h.a i/\8<=h.b i
 no:h.w=false->∀i,i<64->h.a i=0/\h.b i=0
theorem zg(h:Hd)(ho:ua h):aW Tryz.prog 30 [.agg (bG h)] [] (.one (.int .i64 0)) []:=by
 obtain⟨w,hw⟩:∃w,h.w=w:=⟨_,rfl⟩
 have h0:(bG h)[0]? = some (.bool w):=by rw[<-hw];rfl
 refine cO Tryz.func30 ?_
 repeat' (first|refine zz ?_|refine zx (fun _=>?_) (fun _=>?_)|fail)
 refine WX.bZ (σ:=Nat) (fun j=>[(4,.one (.int .i64 (j:Nat))),(1,.one (.ptr 0 0))]) (fun _=>[.cells (bG h) 24 false false]) (fun j=>j<=64) (fun j=>64-j) 0 (by omega) (fun s _=>hX) (b_ [0]) ?_
 intro j hj ih
 by_cases hj64:j<64
 ·have ga:=uV h hj64
  have gb:=uW h hj64
  cases w
  ·have hn:=ho.no hw j hj64
   repeat' (first
    |(refine qz ?_;first
     |refine ld (hc:=h0) ?_
     |refine ld (hc:=ga) ?_
     |refine ld (hc:=gb) ?_)
    |refine zz ?_|refine zx (fun _=>?_) (fun _=>?_)|fail)
   refine ih (j+1) _ _ _ (b_ [0]) (by omega) (by omega)
  ·have hn:=ho.yes hw j hj64
   repeat' (first
    |(refine qz ?_;first
     |refine ld (hc:=h0) ?_
     |refine ld (hc:=ga) ?_
     |refine ld (hc:=gb) ?_)
    |refine zz ?_|refine zx (fun _=>?_) (fun _=>?_)|fail)
   refine ih (j+1) _ _ _ (b_ [0]) (by omega) (by omega)
 ·repeat' (first|refine zz ?_|refine zx (fun _=>?_) (fun _=>?_)|fail)
  show aD _ _ _ _ _ _ _ _;refine kV [] ?_
  rfl
theorem CO{h:Hd}(ho:ua h){HS:ai}(hb:Nat.blt HS.length Mem.bound=true):aC.Sound Tryz.prog ⟨30,[.agg (bG h)],HS,.one (.int .i64 0),HS,[]⟩:=
 au (zg h ho) (by simp only[List.all_cons,List.all_nil,Bool.and_true];exact el h) rfl hb
theorem yA(h:Hd)(ho:ua h):aW Tryz.prog 9 [.agg (j5 h)] [] (.one (.int .i64 0)) []:=by
 have h1:=ho.dims.c0
 have h2:=ho.dims.c1
 have h3:=ho.dims.r0
 have h4:=ho.dims.r1
 refine cO Tryz.func9 ?_
 repeat' (first
  |(refine qz ?_;first
   |refine mU (cs:=bG h) ?_ (hle:=by rw[db];decide) (hc:=qB h)
   |refine cl ?_ (hi:=by exact CO ho rfl))
  |refine zz ?_|refine zx (fun _=>?_) (fun _=>?_)|fail)
 show aD _ _ _ _ _ _ _ _;refine kV [] ?_
 rfl
theorem o_{h:Hd}(ho:ua h){HS:ai}(hb:Nat.blt HS.length Mem.bound=true):aC.Sound Tryz.prog ⟨9,[.agg (j5 h)],HS,.one (.int .i64 0),HS,[]⟩:=
 au (yA h ho) (by simp only[List.all_cons,List.all_nil,Bool.and_true];exact fG h) rfl hb
structure Ph where
 id:Int
 inter:Bool
 down:Bool
 qp:Int
def uL(p:Ph):List XC:=[.int .i64 p.id,.bool p.inter,.bool p.down,.int .i64 p.qp]
structure Dj(p:Ph):Prop where
 id:0<=p.id/\p.id<=65535
 qp:1<=p.qp/\p.qp<=31
 down:p.down=true->p.inter=true
instance LW (p:Ph):bh (.agg (uL p)):=ef rfl
theorem yS(p:Ph)(ho:Dj p):aW Tryz.prog 46 [.agg (uL p)] [] (.one (.int .i64 0)) []:=by
 have h1:=ho.id
 have h2:=ho.qp
 obtain⟨d,hd⟩:∃d,p.down=d:=⟨_,rfl⟩
 have hl:(uL p)[2]? = some (.bool d):=by rw[<-hd];rfl
 cases d
 ·refine cO Tryz.func46 ?_
  repeat' (first
   |(refine qz ?_;first
    |refine ld (hc:=hl) ?_)
   |refine zz ?_|refine zx (fun _=>?_) (fun _=>?_)|fail)
  show aD _ _ _ _ _ _ _ _;refine kV [] ?_
  rfl
 ·have hi:=ho.down hd
  have hl2:(uL p)[1]? = some (.bool true):=by rw[<-hi];rfl
  refine cO Tryz.func46 ?_
  repeat' (first
   |(refine qz ?_;first
    |refine ld (hc:=hl) ?_
    |refine ld (hc:=hl2) ?_)
   |refine zz ?_|refine zx (fun _=>?_) (fun _=>?_)|fail)
  show aD _ _ _ _ _ _ _ _;refine kV [] ?_
  rfl
theorem pf{p:Ph}(ho:Dj p){HS:ai}(hb:Nat.blt HS.length Mem.bound=true):aC.Sound Tryz.prog ⟨46,[.agg (uL p)],HS,.one (.int .i64 0),HS,[]⟩:=
 au (yS p ho) rfl rfl hb
theorem H5{cols rows:Int}(h:j6 cols rows){HS:ai}{N:Nat}(hN:HS.length=N){HS':ai}(hh:HS++[dq (N+1) cols rows,.map (bK [])]=HS')(hbd:Nat.blt HS'.length Mem.bound=true) :
 aC.Sound Tryz.prog ⟨108,[.one (.int .i64 cols),.one (.int .i64 rows)],HS,.one (.ptr N 0),HS',[]⟩:=by
 subst hN
 refine ca (os:=[dq (HS.length+1) cols rows,.map (bK [])]) [] [] 2 (F1 cols rows h) (by simp) .nil .nil ?_ rfl (.flat (.flat .nil)) (.flat (.flat .nil)) (by show 0<2;omega) rfl ?_ rfl rfl hh hbd (.inl rfl)
 ·exact .cons (by simp[ah.bl,XC.ok]) (.flat .nil)
 ·exact .cons rfl (.flat .nil)
abbrev Dz(h:Hd)(p:Ph):ai:=[.cells [.ptr 0 0,.int .i64 p.id,.bool p.inter,.bool p.down,.int .i64 p.qp,.int .i64 p.qp,.ptr 14 0,.ptr 16 0] 159 false false,dq 15 h.cols h.rows,.map (bK []),.cells [.int .i64 h.cols,.int .i64 h.rows,.map 17,.map 18,.map 19] 142 false false,.map (aj []),.map (aj []),.map (aj [])]
theorem Ba(h:Hd)(p:Ph)(ho:ua h):aW Tryz.prog 82 [.one (.ptr 0 0),.agg (j5 h),.agg (uL p)] [cK 1 5 9,aI 2 3 4 cM,bz cM,bC cM,bB cM,aI 6 7 8 cZ,bz cZ,bC cZ,bB cZ,aI 10 11 12 cP,bz cP,bC cP,bB cP] (.one (.ptr 13 0)) ([cK 1 5 9,aI 2 3 4 cM,bz cM,bC cM,bB cM,aI 6 7 8 cZ,bz cZ,bC cZ,bB cZ,aI 10 11 12 cP,bz cP,bC cP,bB cP]++Dz h p):=by
 have h1:=ho.dims.c0
 have h2:=ho.dims.c1
 have h3:=ho.dims.r0
 have h4:=ho.dims.r1
 refine cO Tryz.func82 ?_
 repeat' (first
  |(refine qz ?_;first
   |refine fV ?_ (hle:=by rfl)
   |refine cl ?_ (hi:=by exact H5 (cols:=h.cols) (rows:=h.rows) ho.dims nL (by first|(simp only[List.cons_append,List.nil_append];exact rfl)|exact rfl) rfl)
   |refine cl ?_ (hi:=by exact wj (cols:=h.cols) (rows:=h.rows) (by omega) (by omega) nL (by first|(simp only[List.cons_append,List.nil_append];exact rfl)|exact rfl) rfl))
  |refine zz ?_|refine zx (fun _=>?_) (fun _=>?_)|fail)
 show aD _ _ _ _ _ _ _ _;refine kV [0,1,2,3,4,5,6,7,8,9,10,11,12,21,15,16,17,18,19,20] ?_
 rfl
abbrev Gm:List Nat:=[0,1,2,3,4,5,6,7,8,9,10,11,12]
abbrev zT(h:Hd)(p:Ph)(N:Nat):ai:=[.cells [.ptr 0 0,.int .i64 p.id,.bool p.inter,.bool p.down,.int .i64 p.qp,.int .i64 p.qp,.ptr (N+1) 0,.ptr (N+3) 0] 159 false false,dq (N+2) h.cols h.rows,.map (bK []),.cells [.int .i64 h.cols,.int .i64 h.rows,.map (N+4),.map (N+5),.map (N+6)] 142 false false,.map (aj []),.map (aj []),.map (aj [])]
abbrev fe:ai:=[cK 1 5 9,aI 2 3 4 cM,bz cM,bC cM,bB cM,aI 6 7 8 cZ,bz cZ,bC cZ,bB cZ,aI 10 11 12 cP,bz cP,bC cP,bB cP]
theorem GJ{HS:ai}(hS:HS.take 13=fe){τ : Nat->Nat}(h:∀j,j<13 -> τ j=j):ae τ HS Gm fe:=by
 have g:∀j,j<13->HS[j]? = fe[j]?:=fun j hj=>by rw[<-hS,List.getElem?_take_of_lt hj]
 have h1:=h 1 (by decide)
 have h2:=h 2 (by decide)
 have h3:=h 3 (by decide)
 have h4:=h 4 (by decide)
 have h5:=h 5 (by decide)
 have h6:=h 6 (by decide)
 have h7:=h 7 (by decide)
 have h8:=h 8 (by decide)
 have h9:=h 9 (by decide)
 have h10:=h 10 (by decide)
 have h11:=h 11 (by decide)
 have h12:=h 12 (by decide)
 refine .cons ?_ (.cons ?_ (.flat (g 2 (by decide)) (.flat (g 3 (by decide)) (.flat (g 4 (by decide)) (.cons ?_ (.flat (g 6 (by decide)) (.flat (g 7 (by decide)) (.flat (g 8 (by decide)) (.cons ?_ (.flat (g 10 (by decide)) (.flat (g 11 (by decide)) (.flat (g 12 (by decide)) .nil))))))))))))
 ·rw[g 0 (by decide)]
  simp only[ah.ax,List.map_cons,List.map_nil,XC.ax,h1,h5,h9];rfl
 ·rw[g 1 (by decide)]
  simp only[ah.ax,List.map_cons,List.map_nil,XC.ax,h2,h3,h4];rfl
 ·rw[g 5 (by decide)]
  simp only[ah.ax,List.map_cons,List.map_nil,XC.ax,h6,h7,h8];rfl
 ·rw[g 9 (by decide)]
  simp only[ah.ax,List.map_cons,List.map_nil,XC.ax,h10,h11,h12];rfl
theorem nD{n:Nat}(hn:13<=n){l:ai}(hl:ay n l):ay n (fe++l):=by
 refine .cons ?_ (.cons ?_ (.flat (.flat (.flat (.cons ?_ (.flat (.flat (.flat (.cons ?_ (.flat (.flat (.flat hl))))))))))))
 all_goals simp[ah.bl,XC.ok];omega
theorem GI{τ : Nat->Nat}(h:∀j,j<13 -> τ j=j){l l':ai}(hl:dC τ l l'):dC τ (fe++l) (fe++l'):=by
 have h1:=h 1 (by decide)
 have h2:=h 2 (by decide)
 have h3:=h 3 (by decide)
 have h4:=h 4 (by decide)
 have h5:=h 5 (by decide)
 have h6:=h 6 (by decide)
 have h7:=h 7 (by decide)
 have h8:=h 8 (by decide)
 have h9:=h 9 (by decide)
 have h10:=h 10 (by decide)
 have h11:=h 11 (by decide)
 have h12:=h 12 (by decide)
 refine .cons ?_ (.cons ?_ (.flat (.flat (.flat (.cons ?_ (.flat (.flat (.flat (.cons ?_ (.flat (.flat (.flat hl))))))))))))
 ·simp only[ah.ax,List.map_cons,List.map_nil,XC.ax,h1,h5,h9]
 ·simp only[ah.ax,List.map_cons,List.map_nil,XC.ax,h2,h3,h4]
 ·simp only[ah.ax,List.map_cons,List.map_nil,XC.ax,h6,h7,h8]
 ·simp only[ah.ax,List.map_cons,List.map_nil,XC.ax,h10,h11,h12]
theorem DI{HS:ai}(hS:HS.take 13=fe){os:ai}:bQ HS Gm (fe++os)=HS++os:=by
 have g:∀j,j<13->HS[j]? = fe[j]?:=fun j hj=>by rw[<-hS,List.getElem?_take_of_lt hj]
 simp only[bQ,fe,List.cons_append,List.nil_append]
 rw[aV (g 0 (by decide)),aV (g 1 (by decide)),aV (g 2 (by decide)),aV (g 3 (by decide)),aV (g 4 (by decide)),aV (g 5 (by decide)),aV (g 6 (by decide)),aV (g 7 (by decide)),aV (g 8 (by decide)),aV (g 9 (by decide)),aV (g 10 (by decide)),aV (g 11 (by decide)),aV (g 12 (by decide))]
theorem Ak(r:List Nat):∀j,j<13->nth (Gm++r) j=j:=fun j hj=>by
 have hq:∀q:Fin 13,Gm[q.val]? = some q.val:=by decide
 have:=hq ⟨j,hj⟩
 unfold nth
 rw[List.getD_eq_getElem?_getD,List.getElem?_append_left (by exact hj),this]
 rfl
theorem qZ{h:Hd}{p:Ph}(ho:ua h){HS:ai}(hS:HS.take 13=fe){N:Nat}(hN:HS.length=N){HS':ai}(hh:HS++zT h p N=HS')(hbd:Nat.blt HS'.length Mem.bound=true) :
 aC.Sound Tryz.prog ⟨82,[.one (.ptr 0 0),.agg (j5 h),.agg (uL p)],HS,.one (.ptr N 0),HS',Gm⟩:=by
 subst hN
 have e0:∀j,j<13->nth Gm j=j:=fun j hj=>by
  have:=Ak [] j hj
  rw[List.append_nil]at this
  exact this
 refine ca (os:=fe++zT h p HS.length) Gm Gm 7 (Ba h p ho) (by decide) (GJ hS e0) (nD (l:=[]) (Nat.le_refl _) .nil) (nD (l:=Dz h p) (by show 13<=20;omega) ?_) rfl (.cons (by show 0<13;omega) (.flat (.flat .nil))) (.cons rfl (.flat (.flat .nil))) (by show 13<20;omega) rfl (GI (Ak _) ?_) ?_ rfl (by rw[DI hS];exact hh) hbd (.inl rfl)
 ·refine .cons ?_ (.cons ?_ (.flat (.cons ?_ (.flat (.flat (.flat .nil))))))
  all_goals simp[ah.bl,XC.ok]
 ·exact .cons rfl (.cons rfl (.flat (.cons rfl (.flat (.flat (.flat .nil))))))
 ·rfl
abbrev KC(S:bO)(N:Nat):ah := .cells [.ptr 0 0,.int .i64 S.id,.bool S.inter,.bool S.down,.int .i64 S.hqp,.int .i64 S.qp,.ptr (N+1) 0,.ptr (N+3) 0] 159 false false
abbrev KD(S:bO)(N:Nat):ah := .cells [.int .i64 S.cols,.int .i64 S.rows,.map (N+4),.map (N+5),.map (N+6)] 142 false false
abbrev HX(S:bO)(N:Nat):ai:=[KC S N,dq (N+2) S.cols S.rows,.map (bK S.M),KD S N,.map (aj S.A),.map (aj S.B),.map (aj S.C)]
abbrev qk(N:Nat)(r:List Nat):List Nat:=N::0::1::2::3::4::5::6::7::8::9::10::11::12::(N+1)::(N+2)::(N+3)::(N+4)::(N+5)::(N+6)::r
abbrev LD(S:bO)(N:Nat)(l:ai):ai:=KC S N::cK 1 5 9::aI 2 3 4 cM::bz cM::bC cM::bB cM::aI 6 7 8 cZ::bz cZ::bC cZ::bB cZ::aI 10 11 12 cP::bz cP::bC cP::bB cP::dq (N+2) S.cols S.rows :: .map (bK S.M)::KD S N :: .map (aj S.A) :: .map (aj S.B) :: .map (aj S.C)::l
theorem Fw{HS:ai}{S:bO}{N:Nat}{τ : Nat->Nat}(hS:HS.take 13=fe)(hN:(HS.drop N).take 7=HX S N)(h3:∀j,j<13 -> τ (3+j)=j)(h16:∀j,j<6 -> τ (16+j)=N+1+j){ls:List Nat}{l:ai}(hl:ae τ HS ls l):ae τ HS (qk N ls) (gh S++l):=by
 have g:∀j,j<13->HS[j]? = fe[j]?:=fun j hj=>by rw[<-hS,List.getElem?_take_of_lt hj]
 have k:∀j,j<7->HS[N+j]? = (HX S N)[j]?:=fun j hj=>by rw[<-hN,List.getElem?_take_of_lt hj,List.getElem?_drop]
 have a1 : τ 4=1:=h3 1 (by decide)
 have a2 : τ 5=2:=h3 2 (by decide)
 have a3 : τ 6=3:=h3 3 (by decide)
 have a4 : τ 7=4:=h3 4 (by decide)
 have a5 : τ 8=5:=h3 5 (by decide)
 have a6 : τ 9=6:=h3 6 (by decide)
 have a7 : τ 10=7:=h3 7 (by decide)
 have a8 : τ 11=8:=h3 8 (by decide)
 have a9 : τ 12=9:=h3 9 (by decide)
 have b0 : τ 13=10:=h3 10 (by decide)
 have b1 : τ 14=11:=h3 11 (by decide)
 have b2 : τ 15=12:=h3 12 (by decide)
 have a0 : τ 3=0:=h3 0 (by decide)
 have d0 : τ 16=N+1:=h16 0 (by decide)
 have d1 : τ 17=N+2:=h16 1 (by decide)
 have d2 : τ 18=N+3:=h16 2 (by decide)
 have d3 : τ 19=N+4:=h16 3 (by decide)
 have d4 : τ 20=N+5:=h16 4 (by decide)
 have d5 : τ 21=N+6:=h16 5 (by decide)
 refine .cons ?_ (.cons ?_ (.cons ?_ (.flat (g 2 (by decide)) (.flat (g 3 (by decide)) (.flat (g 4 (by decide)) (.cons ?_ (.flat (g 6 (by decide)) (.flat (g 7 (by decide)) (.flat (g 8 (by decide)) (.cons ?_ (.flat (g 10 (by decide)) (.flat (g 11 (by decide)) (.flat (g 12 (by decide)) (.cons ?_ (.flat (k 2 (by decide)) (.cons ?_ (.flat (k 4 (by decide)) (.flat (k 5 (by decide)) (.flat (k 6 (by decide)) hl)))))))))))))))))))
 ·have:=k 0 (by decide)
  rw[Nat.add_zero]at this
  rw[this]
  simp only[ah.ax,List.map_cons,List.map_nil,XC.ax,a0,d0,d2];rfl
 ·rw[g 0 (by decide)]
  simp only[ah.ax,List.map_cons,List.map_nil,XC.ax,a1,a5,a9];rfl
 ·rw[g 1 (by decide)]
  simp only[ah.ax,List.map_cons,List.map_nil,XC.ax,a2,a3,a4];rfl
 ·rw[g 5 (by decide)]
  simp only[ah.ax,List.map_cons,List.map_nil,XC.ax,a6,a7,a8];rfl
 ·rw[g 9 (by decide)]
  simp only[ah.ax,List.map_cons,List.map_nil,XC.ax,b0,b1,b2];rfl
 ·rw[k 1 (by decide)]
  simp only[ah.ax,List.map_cons,List.map_nil,XC.ax,d1];rfl
 ·rw[k 3 (by decide)]
  simp only[ah.ax,List.map_cons,List.map_nil,XC.ax,d3,d4,d5];rfl
theorem J1{S:bO}{N:Nat}{τ : Nat->Nat}(h3:∀j,j<13 -> τ (3+j)=j)(h16:∀j,j<6 -> τ (16+j)=N+1+j){l l':ai}(hl:dC τ l l'):dC τ (gh S++l) (LD S N l'):=by
 have a1 : τ 4=1:=h3 1 (by decide)
 have a2 : τ 5=2:=h3 2 (by decide)
 have a3 : τ 6=3:=h3 3 (by decide)
 have a4 : τ 7=4:=h3 4 (by decide)
 have a5 : τ 8=5:=h3 5 (by decide)
 have a6 : τ 9=6:=h3 6 (by decide)
 have a7 : τ 10=7:=h3 7 (by decide)
 have a8 : τ 11=8:=h3 8 (by decide)
 have a9 : τ 12=9:=h3 9 (by decide)
 have b0 : τ 13=10:=h3 10 (by decide)
 have b1 : τ 14=11:=h3 11 (by decide)
 have b2 : τ 15=12:=h3 12 (by decide)
 have a0 : τ 3=0:=h3 0 (by decide)
 have d0 : τ 16=N+1:=h16 0 (by decide)
 have d1 : τ 17=N+2:=h16 1 (by decide)
 have d2 : τ 18=N+3:=h16 2 (by decide)
 have d3 : τ 19=N+4:=h16 3 (by decide)
 have d4 : τ 20=N+5:=h16 4 (by decide)
 have d5 : τ 21=N+6:=h16 5 (by decide)
 refine .cons ?_ (.cons ?_ (.cons ?_ (.flat (.flat (.flat (.cons ?_ (.flat (.flat (.flat (.cons ?_ (.flat (.flat (.flat (.cons ?_ (.flat (.cons ?_ (.flat (.flat (.flat hl)))))))))))))))))))
 all_goals simp only[ah.ax,List.map_cons,List.map_nil,XC.ax, *]
theorem yN(a b N:Nat)(r:List Nat):∀j,j<13->nth (a::b::qk N r) (3+j)=j:=fun j hj=>by
 have hq:∀q:Fin 13,Gm[q.val]? = some q.val:=by decide
 have:=hq ⟨j,hj⟩
 unfold nth
 rw[List.getD_eq_getElem?_getD,Nat.add_comm]
 show((Gm++((N+1)::(N+2)::(N+3)::(N+4)::(N+5)::(N+6)::r))[j]?).getD 0=j
 rw[List.getElem?_append_left (by exact hj),this]
 rfl
theorem uI(a b N:Nat)(r:List Nat):∀j,j<6->nth (a::b::qk N r) (16+j)=N+1+j:=fun j hj=>by
 match j,hj with
 | 0,_=>rfl
 | 1,_=>rfl
 | 2,_=>rfl
 | 3,_=>rfl
 | 4,_=>rfl
 | 5,_=>rfl
theorem HV{S:bO}{B bw:List Bool}{m:Mb}{mb:Int}(hP:jA S B bw m mb){S':bO}{B' bw':List Bool}(h:iB S B bw m mb=some (S',B',bw')) :
 aW Tryz.prog 83 [.one (.ptr 2 0),.one (.ptr 0 0),.one (.ptr 22 0),.one (.int .i64 mb),.agg (mC m)] (aK 1 B::aq B::(gh S++[aK 23 bw,aq bw])) (.one (.int .i64 0)) (aK 24 B' :: .dead::(gh S'++[aK 25 bw',.dead,aq B',aq bw'])):=by
 have hk:=hP.good.kind
 have hk0:=hP.good.ok.kind
 unfold iB at h
 by_cases h0:m.kind=0
 ·rw[if_pos h0]at h
  cases Option.some.inj h
  exact Ly hP h0
 ·rw [if_neg h0]at h
  obtain⟨x,hx,e⟩:=Option.map_eq_some_iff.1 h
  cases e
  unfold gC at hx
  by_cases h1:m.kind=1
  ·rw[if_neg h0,if_pos h1]at hx
   exact Lz hP h1 x hx
  ·by_cases h2:m.kind=2
   ·rw[if_neg h0,if_neg h1,if_pos h2]at hx
    exact LA hP h2 x hx
   ·rw[if_neg h0,if_neg h1,if_neg h2]at hx
    by_cases h3:m.kind=3
    ·rw[eg (by omega)]at hx
     exact LB hP h3 x hx
    ·have h4:m.kind=4:=by omega
     rw[oq h4]at hx
     exact LC hP h4 x hx
theorem Fu{S:bO}{B bw:List Bool}{m:Mb}{mb:Int}(hP:jA S B bw m mb)(h:iB S B bw m mb=none) :
 aW Tryz.prog 83 [.one (.ptr 2 0),.one (.ptr 0 0),.one (.ptr 22 0),.one (.int .i64 mb),.agg (mC m)] (aK 1 B::aq B::(gh S++[aK 23 bw,aq bw])) (.one (.int .i64 2)) lH:=by
 have hk:=hP.good.kind
 have hk0:=hP.good.ok.kind
 unfold iB at h
 by_cases h0:m.kind=0
 ·rw[if_pos h0]at h
  cases h
 ·rw [if_neg h0]at h
  have hx:=Option.map_eq_none_iff.1 h
  unfold gC at hx
  by_cases h1:m.kind=1
  ·rw[if_neg h0,if_pos h1]at hx
   exact JX hP h1 hx
  ·by_cases h2:m.kind=2
   ·rw[if_neg h0,if_neg h1,if_pos h2]at hx
    exact JY hP h2 hx
   ·rw[if_neg h0,if_neg h1,if_neg h2]at hx
    by_cases h3:m.kind=3
    ·rw[eg (by omega)]at hx
     exact JZ hP h3 hx
    ·have h4:m.kind=4:=by omega
     rw[oq h4]at hx
     exact J0 hP h4 hx
theorem yX{S:bO}{B bw:List Bool}{m:Mb}{mb:Int}(hP:jA S B bw m mb){S':bO}{B' bw':List Bool}(h:iB S B bw m mb=some (S',B',bw')){HS:ai}{i k j g N:Nat}(hi:HS[i]? = some (aK k B))(hk:HS[k]? = some (aq B))(hS:HS.take 13=fe)(hN:(HS.drop N).take 7=HX S N)(hj:HS[j]? = some (aK g bw))(hg:HS[g]? = some (aq bw))
 (hnd:(i::k::qk N [j,g]).Nodup) {M:Nat}(hM:HS.length=M) {HS':ai}(hh:bQ HS [i,k,N,0,1,2,3,4,5,6,7,8,9,10,11,12,N+1,N+2,N+3,N+4,N+5,N+6,j,g] [aK M B',.dead,KC S' N,cK 1 5 9,aI 2 3 4 cM,bz cM,bC cM,bB cM,aI 6 7 8 cZ,bz cZ,bC cZ,bB cZ,aI 10 11 12 cP,bz cP,bC cP,bB cP,dq (N+2) S'.cols S'.rows,.map (bK S'.M),KD S' N,.map (aj S'.A),.map (aj S'.B),.map (aj S'.C),aK (M+1) bw',.dead,aq B',aq bw']=HS') (hbd:Nat.blt HS'.length Mem.bound=true) :
 aC.Sound Tryz.prog ⟨83,[.one (.ptr N 0),.one (.ptr i 0),.one (.ptr j 0),.one (.int .i64 mb),.agg (mC m)],HS,.one (.int .i64 0),HS',i::k::qk N [j,g]⟩:=by
 subst hM
 have h3:=yN i k N [j,g]
 have h16:=uI i k N [j,g]
 have h3':=yN i k N ([j,g]++List.range' HS.length 2)
 have h16':=uI i k N ([j,g]++List.range' HS.length 2)
 have hv:=Fw (S:=S) hS hN h3 h16 (ls:=[j,g]) (l:=[aK 23 bw,aq bw]) (ae.fu hj rfl rfl rfl (.flat hg .nil))
 have ho:=jZ S 24 (by omega) (l:=[aK 23 bw,aq bw]) (.cons (by simp[ah.bl,XC.ok,aE]) (.flat .nil))
 have ho':=jZ S' 26 (by omega) (l:=[aK 25 bw',.dead,aq B',aq bw']) (.cons (by simp[ah.bl,XC.ok,aE]) (.flat (.flat (.flat .nil))))
 have hr:=J1 (S:=S') (N:=N) h3' h16' (l:=[aK 25 bw',.dead,aq B',aq bw']) (l':=[aK (HS.length+1) bw',.dead,aq B',aq bw']) (.cons (by simp only[ah.ax,List.map_cons,List.map_nil,XC.ax,aB];rfl) (.flat (.flat (.flat .nil))))
 refine ca (os:=aK HS.length B' :: .dead::LD S' N [aK (HS.length+1) bw',.dead,aq B',aq bw']) (i::k::qk N [j,g]) (i::k::qk N [j,g]) 2 (HV hP h) hnd (ae.fu hi rfl rfl rfl (.flat hk hv)) (.cons (by simp[ah.bl,XC.ok,aE]) (.flat ho)) (.cons (by simp[ah.bl,XC.ok,aE]) (.flat ho')) rfl (.cons (by show 2<24;omega) (.cons (by show 0<24;omega) (.cons (by show 22<24;omega) (.flat (.flat .nil))))) (.cons rfl (.cons rfl (.cons rfl (.flat (.flat .nil))))) (bh.ok _) (bh.ax _) ?_ (Ay ..) rfl hh hbd (.inl rfl)
 exact .cons (by simp only[ah.ax,List.map_cons,List.map_nil,XC.ax,aB];rfl) (.flat hr)
theorem GH{S:bO}{B bw:List Bool}{m:Mb}{mb:Int}(hP:jA S B bw m mb)(h:iB S B bw m mb=none){HS:ai}{i k j g N:Nat}(hi:HS[i]? = some (aK k B))(hk:HS[k]? = some (aq B))(hS:HS.take 13=fe)(hN:(HS.drop N).take 7=HX S N)(hj:HS[j]? = some (aK g bw))(hg:HS[g]? = some (aq bw))
 (hnd:(i::k::qk N [j,g]).Nodup) {HS':ai}(hh:bQ HS [i,k,N,0,1,2,3,4,5,6,7,8,9,10,11,12,N+1,N+2,N+3,N+4,N+5,N+6,j,g] [.dead,.dead,.dead,cK 1 5 9,aI 2 3 4 cM,bz cM,bC cM,bB cM,aI 6 7 8 cZ,bz cZ,bC cZ,bB cZ,aI 10 11 12 cP,bz cP,bC cP,bB cP,.dead,.dead,.dead,.dead,.dead,.dead,.dead,.dead]=HS') (hbd:Nat.blt HS'.length Mem.bound=true) :
 aC.Sound Tryz.prog ⟨83,[.one (.ptr N 0),.one (.ptr i 0),.one (.ptr j 0),.one (.int .i64 mb),.agg (mC m)],HS,.one (.int .i64 2),HS',i::k::qk N [j,g]⟩:=by
 have h3:=yN i k N [j,g]
 have h16:=uI i k N [j,g]
 have ht2:nth ((i::k::qk N [j,g])++List.range' HS.length 0)=nth (i::k::qk N [j,g]):=by
  rw[List.range'_zero,List.append_nil]
 have hv:=Fw (S:=S) hS hN h3 h16 (ls:=[j,g]) (l:=[aK 23 bw,aq bw]) (ae.fu hj rfl rfl rfl (.flat hg .nil))
 have ho:=jZ S 24 (by omega) (l:=[aK 23 bw,aq bw]) (.cons (by simp[ah.bl,XC.ok,aE]) (.flat .nil))
 have hk':ay 24 lH:=by
  refine .flat (.flat (.flat (.cons ?_ (.cons ?_ (.flat (.flat (.flat (.cons ?_ (.flat (.flat (.flat (.cons ?_ (.flat (.flat (.flat (.flat (.flat (.flat (.flat (.flat (.flat (.flat (.flat .nil)))))))))))))))))))))))
  all_goals simp[ah.bl,XC.ok]
 refine ca (os:=[.dead,.dead,.dead,cK 1 5 9,aI 2 3 4 cM,bz cM,bC cM,bB cM,aI 6 7 8 cZ,bz cZ,bC cZ,bB cZ,aI 10 11 12 cP,bz cP,bC cP,bB cP,.dead,.dead,.dead,.dead,.dead,.dead,.dead,.dead]) (i::k::qk N [j,g]) (i::k::qk N [j,g]) 0 (Fu hP h) hnd (ae.fu hi rfl rfl rfl (.flat hk hv)) (.cons (by simp[ah.bl,XC.ok,aE]) (.flat ho)) hk' rfl (.cons (by show 2<24;omega) (.cons (by show 0<24;omega) (.cons (by show 22<24;omega) (.flat (.flat .nil))))) (.cons rfl (.cons rfl (.cons rfl (.flat (.flat .nil))))) (bh.ok _) (bh.ax _) ?_ (w6 ..) rfl hh hbd (.inl rfl)
 rw[ht2]
 have a1:nth (i::k::qk N [j,g]) 4=1:=h3 1 (by decide)
 have a2:nth (i::k::qk N [j,g]) 5=2:=h3 2 (by decide)
 have a3:nth (i::k::qk N [j,g]) 6=3:=h3 3 (by decide)
 have a4:nth (i::k::qk N [j,g]) 7=4:=h3 4 (by decide)
 have a5:nth (i::k::qk N [j,g]) 8=5:=h3 5 (by decide)
 have a6:nth (i::k::qk N [j,g]) 9=6:=h3 6 (by decide)
 have a7:nth (i::k::qk N [j,g]) 10=7:=h3 7 (by decide)
 have a8:nth (i::k::qk N [j,g]) 11=8:=h3 8 (by decide)
 have a9:nth (i::k::qk N [j,g]) 12=9:=h3 9 (by decide)
 have b0:nth (i::k::qk N [j,g]) 13=10:=h3 10 (by decide)
 have b1:nth (i::k::qk N [j,g]) 14=11:=h3 11 (by decide)
 have b2:nth (i::k::qk N [j,g]) 15=12:=h3 12 (by decide)
 refine .flat (.flat (.flat (.cons ?_ (.cons ?_ (.flat (.flat (.flat (.cons ?_ (.flat (.flat (.flat (.cons ?_ (.flat (.flat (.flat (.flat (.flat (.flat (.flat (.flat (.flat (.flat (.flat .nil)))))))))))))))))))))))
 ·simp only[ah.ax,List.map_cons,List.map_nil,XC.ax,a1,a5,a9]
 ·simp only[ah.ax,List.map_cons,List.map_nil,XC.ax,a2,a3,a4]
 ·simp only[ah.ax,List.map_cons,List.map_nil,XC.ax,a6,a7,a8]
 ·simp only[ah.ax,List.map_cons,List.map_nil,XC.ax,b0,b1,b2]
theorem v_{S:bO}{m:Mb}(hm:iR m)(hf:zK S m):kL m:=
 ⟨hm,hf.kind.2,fun i hi=>(hf.lev i hi).2.1,fun ha k hk=>(hf.lev (k*64) (by omega)).2.2 (by omega) ha⟩
theorem BE{S:bO}{m:Mb}(hf:zK S m):∀k,k<4->iL (m.v k)=true:=fun k hk=>(hf.vecs k hk).1
theorem DF{m:Mb}(hg:kL m){mb:Int}{x0:oT}(h0:xS m mb x0 (0,x0)):∀k,k<=6->∀x,gm m mb x0 k=some x->xS m mb x0 (k,x):=by
 intro k
 induction k with
 | zero=>
   intro _ x hx
   cases hx;exact h0
 | succ k ih=>
   intro hk x hx
   obtain⟨y,r,hy,hr,rfl⟩:=q7 hx
   exact j_ hg (ih (by omega) y hy) (by show k<6;omega) hr
theorem Bg{m:Mb}{mb:Int}{x0:oT}:∀k x,gm m mb x0 k=some x->x.S.inter=x0.S.inter/\x.S.qp=x0.S.qp/\x0.B <+: x.B:=by
 intro k
 induction k with
 | zero=>intro x hx;cases hx;exact⟨rfl,rfl,List.prefix_refl _⟩
 | succ k ih=>
   intro x hx
   obtain⟨y,r,hy,hr,rfl⟩:=q7 hx
   obtain⟨h1,h2,h3⟩:=ih y hy
   refine⟨?_,?_,?_⟩
   ·show(if alone m=true then cc y.S mb k ⟨bg m k,m.qp⟩else y.S).inter=_
    split<;>exact h1
   ·show(if alone m=true then cc y.S mb k ⟨bg m k,m.qp⟩else y.S).qp=_
    split<;>exact h2
   ·show x0.B <+: (if alone m=true then y.B++_ else y.B)
    split
    ·exact h3.trans (List.prefix_append _ _)
    ·exact h3
structure pG(S:bO)(X:List Bool)(n:Nat)(z:bO×List Bool):Prop where
 st:f4 z.1
 cols:z.1.cols=S.cols
 rows:z.1.rows=S.rows
 inter:z.1.inter=S.inter
 qp:z.1.qp=S.qp
 pre:X <+: z.2
 len:z.2.length<=X.length+n
theorem lZ{S:bO}{X:List Bool}{n:Nat}{z:bO×List Bool}(h:pG S X n z){m:Mb}(hm:iR m)(mb:Int)(k:Nat):pG S X (n+54) (az m mb z k):=by
 refine⟨⟨h.st.dims,h.st.lev,cg h.st.tiny (hm.v k)⟩,h.cols,h.rows,h.inter,h.qp,h.pre.trans (List.prefix_append _ _),?_⟩
 have:=e9 (m.v k) (cN z.1.M z.1.cols z.1.rows mb k)
 have:=h.len
 show(z.2++dt (m.v k) (cN z.1.M z.1.cols z.1.rows mb k)).length<=_
 rw[List.length_append];omega
theorem kZ{S:bO}{X:List Bool}{n:Nat}{z:bO×List Bool}(h:pG S X n z){m:Mb}(hm:iR m)(mb:Int):pG S X n (bk z.1 mb m.v,z.2):=
 ⟨⟨h.st.dims,h.st.lev,d9 h.st.tiny hm.v⟩,h.cols,h.rows,h.inter,h.qp,h.pre,h.len⟩
theorem nF{S:bO}{X:List Bool}{n k:Nat}{z:bO×List Bool}(h:pG S X n z)(hk:n<=k):pG S X k z:=
 ⟨h.st,h.cols,h.rows,h.inter,h.qp,h.pre,by have:=h.len;omega⟩
theorem wq{S:bO}(hS:f4 S)(m:Mb):f4 (eR S m)/\(eR S m).cols=S.cols/\(eR S m).rows=S.rows/\(eR S m).inter=S.inter/\(eR S m).qp=if m.kind=4 then m.qp else S.qp:=by
 unfold eR
 split
 ·exact⟨⟨hS.dims,hS.lev,hS.tiny⟩,rfl,rfl,rfl,rfl⟩
 ·exact⟨hS,rfl,rfl,rfl,rfl⟩
theorem yB{S:bO}(hS:f4 S){m:Mb}(hm:iR m){X:List Bool}{mb:Int}:pG (eR S m) (X++aG S m) 216 (gC S X m mb):=by
 have hk:=(wq hS m).1
 have h0:pG (eR S m) (X++aG S m) 0 (eR S m,X++aG S m):=⟨hk,rfl,rfl,rfl,rfl,List.prefix_refl _,Nat.le_refl _⟩
 unfold gC
 split
 ·rename_i g
  rw[eg (by omega)]at h0 ⊢
  exact nF (kZ h0 hm mb) (by omega)
 ·split
  ·rename_i g
   rw[eg (by omega)]at h0 ⊢
   exact nF (kZ (lZ h0 hm mb 0) hm mb) (by omega)
  ·split
   ·rename_i g
    rw[eg (by omega)]at h0 ⊢
    exact nF (kZ (lZ (lZ (lZ (lZ h0 hm mb 0) hm mb 1) hm mb 2) hm mb 3) hm mb) (by omega)
   ·have h1:=kZ h0 hm mb
    exact⟨h1.st,h1.cols,h1.rows,h1.inter,h1.qp,List.prefix_append _ _,by simp only[List.length_append,List.length_cons,List.length_nil];omega⟩
structure Md(S:bO)(X bw:List Bool)(m:Mb)(z:bO×List Bool×List Bool):Prop where
 st:f4 z.1
 cols:z.1.cols=S.cols
 rows:z.1.rows=S.rows
 inter:z.1.inter=S.inter
 qp:z.1.qp=m.qp
 pre:X++aG S m <+: z.2.1
 len:z.2.1.length<=X.length+1000
 lenw:z.2.2.length<=bw.length+20736
theorem tH{S:bO}(hS:f4 S){m:Mb}(hm:iR m)(hf:zK S m){X bw:List Bool}{mb:Int}{z:bO×List Bool×List Bool}(h:iB S X bw m mb=some z):Md S X bw m z:=by
 have hg:=v_ hm hf
 have hh:=yB hS hm (X:=X) (mb:=mb)
 obtain⟨_,k1,k2,k3,k4⟩:=wq hS m
 have hkl:=ej S m
 have hq:(if m.kind=4 then m.qp else S.qp)=m.qp:=by
  split
  ·rfl
  ·rename_i h4;exact(hf.qp h4).symm
 rw[hq]at k4
 have hlx:(X++aG S m).length<=X.length+66:=by rw[List.length_append];omega
 have hhl:=hh.len
 unfold iB at h
 by_cases h0:m.kind=0
 ·rw[if_pos h0]at h
  have e:gC S X m mb=(bk S mb m.v,X++aG S m):=by unfold gC;rw[if_pos h0]
  rw[e]at hh
  cases Option.some.inj h
  exact⟨hh.st,hh.cols.trans k1,hh.rows.trans k2,hh.inter.trans k3,hh.qp.trans k4,hh.pre,by show(X++aG S m).length<=_;omega,Nat.le_add_right _ _⟩
 ·rw[if_neg h0]at h
  obtain⟨x,hx,e⟩:=Option.map_eq_some_iff.1 h
  cases e
  obtain⟨z0,hz0⟩:∃z0,gC S X m mb=z0:=⟨_,rfl⟩
  rw[hz0]at hh hx hhl
  have hi:xS m mb ⟨z0.1,z0.2,0,0,fun _=>[]⟩ (0,⟨z0.1,z0.2,0,0,fun _=>[]⟩):=⟨Nat.zero_le _,rfl,hh.st,⟨rfl,rfl⟩,Nat.le_refl _,fun _ _=>rfl,fun _ => .inl rfl,by show(0:Int)<=0/\(0:Int)<16;decide,by show(0:Int)<=0/\(0:Int)<4;decide⟩
  have hb:=DF hg hi 6 (Nat.le_refl _) x hx
  have hr:=Bg 6 x hx
  have hlen:x.B.length<=z0.2.length+76*6:=hb.len
  have hcl:=i0 DH x.pat.toNat
  refine⟨hb.st,hb.cr.1.trans (hh.cols.trans k1),hb.cr.2.trans (hh.rows.trans k2),hr.1.trans (hh.inter.trans k3),hr.2.1.trans (hh.qp.trans k4),?_,?_,?_⟩
  ·exact hh.pre.trans (hr.2.2.trans ((List.prefix_append _ _).trans (List.prefix_append _ _)))
  ·show((x.B++ir cP x.pat.toNat)++fq x.col 2).length<=_
   simp only[List.length_append,gB]
   rw[List.length_append]at hlx hhl
   omega
  ·have:=o4 (bw:=bw) hb.evs 6
   show(cC bw x 6).length<=_
   omega
structure PS where
 S:bO
 B:List Bool
 w:List Bool
noncomputable def jI(first:Int)(k:Nat)(m:Mb)(x:PS):Int ⊕ PS:=
 if c7 m x.S.inter x.S.qp≠0 then .inl (c7 m x.S.inter x.S.qp)else match iB x.S x.B x.w m (first+(k:Nat))with
  | none => .inl 2
  | some z => .inr ⟨z.1,z.2.1,z.2.2⟩
noncomputable def jg(l:List Mb)(first:Int)(x0:PS):Nat->Int ⊕ PS
 | 0 => .inr x0
 | k+1=>match jg l first x0 k with
   | .inl e => .inl e
   | .inr x=>jI first k (l.getD k sW) x
theorem kx{l:List Mb}{first:Int}{x0:PS}{k:Nat}{e:Int}(h:jg l first x0 k = .inl e):∀j,k<=j->jg l first x0 j = .inl e:=by
 intro j hj
 induction hj with
 | refl=>exact h
 | step _ ih=>rw[jg,ih]
structure vC(p:Bool)(c r:Int)(j:Nat)(x:PS):Prop where
 st:f4 x.S
 cols:x.S.cols=c
 rows:x.S.rows=r
 inter:x.S.inter=p
 qp : -1000000<=x.S.qp/\x.S.qp<=1000000
 len:x.B.length<=1000*j
 lenw:x.w.length<=20736*j
theorem mG{p:Bool}{c r:Int}{j:Nat}{x y:PS}(h:vC p c r j x){m:Mb}(hm:iR m){first:Int}{k:Nat}(hy:jI first k m x = .inr y):vC p c r (j+1) y:=by
 unfold jI at hy
 split at hy
 ·cases hy
 ·rename_i hc
  have hc0:c7 m x.S.inter x.S.qp=0:=Decidable.byContradiction fun g=>hc g
  have hf:=o6 hm hc0
  split at hy
  ·cases hy
  ·rename_i z hz
   cases hy
   have hk:=tH h.st hm hf hz
   have a:=hk.len
   have b:=hk.lenw
   have a':=h.len
   have b':=h.lenw
   exact⟨hk.st,hk.cols.trans h.cols,hk.rows.trans h.rows,hk.inter.trans h.inter,by rw[hk.qp];exact hm.qp,by show z.2.1.length<=_;omega,by show z.2.2.length<=_;omega⟩
theorem rV{p:Bool}{c r:Int}{j:Nat}{x:PS}(h:vC p c r j x)(hj:j<=20){m:Mb}(hm:iR m){mb:Int}(hmb:0<=mb/\mb<c*r)(hc:c7 m x.S.inter x.S.qp=0):jA x.S x.B x.w m mb:=by
 have hf:=o6 hm hc
 have a:=h.len
 have b:=h.lenw
 exact⟨h.st,by rw[h.cols,h.rows];exact hmb,h.qp,v_ hm hf,BE hf,by omega,by omega⟩
structure Nl(x:oU)(c r:Int):Prop where
 cols:x.S.cols=c
 rows:x.S.rows=r
 tiny:c_ x.S.M
 qp : -1000000<=x.S.qp/\x.S.qp<=1000000
 v:∀k,bH (x.m.v k)
end Go.Proofs.YtnkodcmkpfefhaaGreat
