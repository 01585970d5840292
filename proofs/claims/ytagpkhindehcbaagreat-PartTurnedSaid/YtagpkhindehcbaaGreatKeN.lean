/-
  A part of the proof: VecIO, Modes.
-/
import Derived.Test.YtagpkhindehcbaaGreatKeM
set_option maxRecDepth 10000
set_option maxHeartbeats 8000000
set_option linter.unusedVariables false
set_option linter.unusedSectionVars false
set_option linter.unusedSimpArgs false
namespace Go.Proofs.YtagpkhindehcbaaGreat
open Go.Xm
variable [ax]
theorem e_{f f':FuncId}{a a':List XV}{HS HS' K K':aj}{v v':XV}{w w':List Nat}(h:Nat.beq HS.length HS'.length=false):Compat ⟨f,a,HS,v,K,w⟩ ⟨f',a',HS',v',K',w'⟩:=fun _ _ e=>by
 have e':HS.length=HS'.length:=congrArg List.length e
 rw[e']at h
 simp at h
theorem Gy{p:Int×Int}(h:bz p)(hr:dH p=true){HS:aj}(hb:Nat.blt HS.length Mem.bound=true):aG.Sound Tryz.prog ⟨79,[.one (cy p)],HS,.one (.bool true),HS,[]⟩:=by
 have:=e8 h hb
 rw[hr]at this
 exact this
theorem gI{x:Int}(h : -32<=x/\x<=32):0<=aV x/\aV x<=64:=by unfold aV;split<;>omega
def cS(v e:Int×Int):List Bool:=bP (aV (ct (v.1-e.1)))++bP (aV (ct (v.2-e.2)))
theorem jO(v:Int)(h:0<=v/\v<=8190):(bP v).length<=27:=by
 unfold bP
 split
 ·decide
 ·simp only[List.length_cons,sY]
  have:=pJ (n:=(v+1).toNat) (k:=13) (by omega)
  omega
theorem KX(bs:List Bool)(v e:Int×Int)(hv:bz v)(he:bz e)(hr:dH v=true)(hb:bs.length<=800000) :
 bh Tryz.prog 54 [.one (.ptr 0 0),.one (cy v),.one (cy e)] (WH bs) (.one (.bool true)) (NQ (bs++cS v e)):=by
 have hx:=gQ (v.1-e.1)
 have hy:=gQ (v.2-e.2)
 have a1:=hv.1.1
 have a2:=hv.1.2
 have a3:=hv.2.1
 have a4:=hv.2.2
 have b1:=he.1.1
 have b2:=he.1.2
 have b3:=he.2.1
 have b4:=he.2.2
 have hl:=jO (aV (ct (v.1-e.1))) (by have:=gI ⟨hx.1,by omega⟩;omega)
 have e0:bs++cS v e=(bs++bP (aV (ct (v.1-e.1))))++bP (aV (ct (v.2-e.2))):=by rw[cS,List.append_assoc]
 rw[e0]
 refine cO Tryz.func54 ?_
 repeat' (first
  |(refine qz ?_;first
   |refine cl ?_ (hi:=by exact Gy hv hr rfl)
   |refine cl ?_ (hi:=by exact jq hv rfl)
   |refine cl ?_ (hi:=by exact jq he rfl)
   |refine cl ?_ (hi:=by exact Fo (by omega) rfl)
   |refine cl ?_ (hi:=by exact s6 (by omega) rfl)
   |refine cl ?_ (hi:=by exact jP (v:=aV (ct (v.1-e.1))) (bs:=bs) (by have:=gI ⟨hx.1,by omega⟩;omega) (by omega) rfl rfl (by decide) nL nA rfl)
   |refine cl ?_ (hi:=by exact jP (v:=aV (ct (v.2-e.2))) (bs:=bs++bP (aV (ct (v.1-e.1)))) (by have:=gI ⟨hy.1,by omega⟩;omega) (by rw[List.length_append];omega) rfl rfl (by decide) nL nA rfl))
  |refine zz ?_|refine zx (fun _=>?_) (fun _=>?_)|refine bj (by first|exact af.nil|exact af.one _|exact af.l7 (by repeat' (first|exact True.intro|refine And.intro ?_ ?_|exact Compat.ne rfl|exact e_ rfl))) ⟨by kernel_rfl,?_⟩|refine bj (by first|exact af.nil|exact af.one _|exact af.l7 (by repeat' (first|exact True.intro|refine And.intro ?_ ?_|exact Compat.ne rfl|exact e_ rfl))) ?_|fail)
 show aB _ _ _ _ _ _ _ _;refine kV [0,1,3] ?_
 rfl
theorem jX{bs:List Bool}{v e:Int×Int}(hv:bz v)(he:bz e)(hr:dH v=true)(hb:bs.length<=800000){HS:aj}{i k:Nat}(hi:HS[i]? = some (aN k bs))(hk:HS[k]? = some (aq bs))(hd:i≠k){N:Nat}(hN:HS.length=N){HS':aj}(hh:bK HS [i,k] [aN N (bs++cS v e),.dead,aq (bs++cS v e)]=HS')(hbd:Nat.blt HS'.length Mem.bound=true) :
 aG.Sound Tryz.prog ⟨54,[.one (.ptr i 0),.one (cy v),.one (cy e)],HS,.one (.bool true),HS',[i,k]⟩:=
 Nx (fun τ => .flat (.flat .nil)) (.flat (.flat .nil)) (KX bs v e hv he hr hb) hi hk hd hN hh hbd
theorem yr(B:List Bool):∀(k:Nat) (x:Int) (r:Nat×Bool),1<=x->0<=(kp B k x r).1/\(kp B k x r).1<=8190
 | 0,x,r,h=>by simp[kp]
 | k + 1,x,r,h=>by
   have hb:=AE (cp B r)
   unfold kp
   split
   ·simp
   ·rename_i h1
    split
    ·exact yr B k _ _ (by omega)
    ·simp only[]
     have:¬(8190<2*x+b2 (cp B r)-1):=fun g=>h1 (.inr g)
     omega
theorem n6(B:List Bool)(r:Nat×Bool):0<=(br B r).1/\(br B r).1<=8190:=by
 unfold br
 split
 ·simp
 ·exact yr B 13 1 _ (by decide)
theorem qA{n:Int}(h:0<=n/\n<=8190) : -4100<=bB n/\bB n<=4100:=by unfold bB;split<;>omega
theorem oo{a b:Int}{HS HS':aj}:Compat ⟨94,[.one (.int .i64 a)],HS,.one (.int .i64 (bB a)),HS,[]⟩ ⟨94,[.one (.int .i64 b)],HS',.one (.int .i64 (bB b)),HS',[]⟩:=fun _ h h2=>by
 simp only[List.cons.injEq,XV.one.injEq,XC.int.injEq,true_and,and_true]at h
 subst h
 have h2':HS=HS':=h2
 subst h2'
 exact⟨rfl,rfl,rfl⟩
theorem tB{a b:Int}{HS:aj}:Compat ⟨84,[.one (.int .i64 a)],HS,.one (.int .i64 (ct a)),HS,[]⟩ ⟨84,[.one (.int .i64 b)],HS,.one (.int .i64 (ct b)),HS,[]⟩:=fun _ h _=>by
 simp only[List.cons.injEq,XV.one.injEq,XC.int.injEq,true_and,and_true]at h
 subst h
 exact⟨rfl,rfl,rfl⟩
theorem xK{f:FuncId}{a:List XV}{L:List Int}{B:List Bool}(g:Nat×Bool->XV×(Nat×Bool)){r r':Nat×Bool}{i k:Nat}{HS HS' K K':aj}(hi:HS[i]? = some (bp k L B r.1 r.2))(hi':HS'[i]? = some (bp k L B r'.1 r'.2))(hK:HS.set i (bp k L B (g r).2.1 (g r).2.2)=K)(hK':HS'.set i (bp k L B (g r').2.1 (g r').2.2)=K'):Compat ⟨f,a,HS,(g r).1,K,[i]⟩ ⟨f,a,HS',(g r').1,K',[i]⟩:=fun _ _ h=>by
 have h':HS=HS':=h
 subst h'
 rw[hi]at hi'
 simp only[Option.some.injEq,ak.cells.injEq,List.cons.injEq,XC.int.injEq,XC.bool.injEq,true_and,and_true,Int.ofNat_inj]at hi'
 have:r=r':=Prod.ext hi'.1 hi'.2
 subst this
 exact⟨rfl,hK.symm.trans hK',rfl⟩
def wv(B:List Bool)(r:Nat×Bool):Int:=bB (br B r).1
def wx(B:List Bool)(r:Nat×Bool):Int:=bB (br B (br B r).2).1
def zX(B:List Bool)(e:Int×Int)(r:Nat×Bool):Int×Int:=(ct (e.1+wv B r),ct (e.2+wx B r))
def tf(B:List Bool)(r:Nat×Bool):Nat×Bool:=(br B (br B r).2).2
def jS(B:List Bool)(e:Int×Int)(r:Nat×Bool):Prop:=(tf B r).2=true\/wv B r < -32\/31<wv B r\/wx B r < -32\/31<wx B r\/dH (zX B e r)=false
instance (B:List Bool) (e:Int×Int) (r:Nat×Bool):Decidable (jS B e r):=by unfold jS;infer_instance
def oz(B:List Bool)(e:Int×Int)(r:Nat×Bool):(Int×Int)×(Nat×Bool):=if jS B e r then((0,0),((tf B r).1,true))else(zX B e r,tf B r)
theorem yI(B:List Bool)(e:Int×Int)(r:Nat×Bool):bz (zX B e r):=by
 have h1:=gQ (e.1+wv B r)
 have h2:=gQ (e.2+wx B r)
 exact⟨⟨h1.1,by show ct _<=32;omega⟩,⟨h2.1,by show ct _<=32;omega⟩⟩
theorem Hm{L:List Int}{B:List Bool}(h:c_ L B)(r:Nat×Bool)(e:Int×Int)(he:bz e) :
 bh Tryz.prog 67 [.one (.ptr 0 0),.one (cy e)] (RH L B r.1 r.2) (.one (cy (oz B e r).1)) (RH L B (oz B e r).2.1 (oz B e r).2.2):=by
 have b1:=he.1.1
 have b2:=he.1.2
 have b3:=he.2.1
 have b4:=he.2.2
 have r1:=n6 B r
 have r2:=n6 B (br B r).2
 have u1 : -4100<=wv B r/\wv B r<=4100:=qA r1
 have u2 : -4100<=wx B r/\wx B r<=4100:=qA r2
 have hV:=yI B e r
 unfold oz
 refine cO Tryz.func67 ?_
 repeat' (first
  |(refine qz ?_;first
   |refine cl ?_ (hi:=by exact po h r rfl rfl (by decide) nL rfl)
   |refine cl (v := .one (.int .i64 (wv B r))) ?_ (hi:=by exact mc (n:=(br B r).1) (by omega) rfl)
   |refine cl ?_ (hi:=by exact po h (br B r).2 rfl rfl (by decide) nL rfl)
   |refine cl (v := .one (.int .i64 (wx B r))) ?_ (hi:=by exact mc (n:=(br B (br B r).2).1) (by omega) rfl)
   |refine cl ?_ (hi:=by exact jq he rfl)
   |refine cl ?_ (hi:=by exact Fo (by omega) rfl)
   |refine cl (v := .one (cy (zX B e r))) ?_ (hi:=by exact x9 rfl)
   |refine uO (fun ge=>?_) (fun ge=>?_) (hi:=by exact gW (p:=(tf B r).1) (e:=(tf B r).2) rfl rfl (by decide) rfl)
   |refine uO (fun gr=>?_) (fun gr=>?_) (hi:=by exact e8 hV rfl)
   |refine cl ?_ (hi:=by exact gH (p:=(tf B r).1) (e:=(tf B r).2) rfl rfl (by decide) nL rfl))
  |refine zz ?_|refine zx (fun _=>?_) (fun _=>?_)|refine bj (by first|exact af.nil|exact af.one _|exact af.l7 (by repeat' (first|exact True.intro|refine And.intro ?_ ?_|exact Compat.ne rfl|exact oo|exact tB|exact xK (fun r=>(.one (.int .i64 (br B r).1),(br B r).2)) (r:=(br B r).2) (r':=r) rfl rfl rfl rfl))) ⟨by kernel_rfl,?_⟩|refine bj (by first|exact af.nil|exact af.one _|exact af.l7 (by repeat' (first|exact True.intro|refine And.intro ?_ ?_|exact Compat.ne rfl|exact oo|exact tB|exact xK (fun r=>(.one (.int .i64 (br B r).1),(br B r).2)) (r:=(br B r).2) (r':=r) rfl rfl rfl rfl))) ?_|fail)
 ·rw[if_pos (show jS B e r from .inl ge)]
  show aB _ _ _ _ _ _ _ _;refine kV [0,1] ?_
  exact congrArg XV.one d9.symm
 ·rename_i g1
  rw[if_pos (show jS B e r from .inr (.inl g1))]
  show aB _ _ _ _ _ _ _ _;refine kV [0,1] ?_
  exact congrArg XV.one d9.symm
 ·rename_i g1
  rw[if_pos (show jS B e r from .inr (.inr (.inl g1)))]
  show aB _ _ _ _ _ _ _ _;refine kV [0,1] ?_
  exact congrArg XV.one d9.symm
 ·rename_i g1
  rw[if_pos (show jS B e r from .inr (.inr (.inr (.inl g1))))]
  show aB _ _ _ _ _ _ _ _;refine kV [0,1] ?_
  exact congrArg XV.one d9.symm
 ·rename_i g1
  rw[if_pos (show jS B e r from .inr (.inr (.inr (.inr (.inl g1)))))]
  show aB _ _ _ _ _ _ _ _;refine kV [0,1] ?_
  exact congrArg XV.one d9.symm
 ·have hn:¬jS B e r:=by
   rintro (g|g|g|g|g|g)
   ·rw[ge]at g;cases g
   ·omega
   ·omega
   ·omega
   ·omega
   ·rw[gr]at g;cases g
  rw[if_neg hn]
  show aB _ _ _ _ _ _ _ _;refine kV [0,1] ?_
  rfl
 ·rw[if_pos (show jS B e r from .inr (.inr (.inr (.inr (.inr gr)))))]
  show aB _ _ _ _ _ _ _ _;refine kV [0,1] ?_
  exact congrArg XV.one d9.symm
theorem nf(B:List Bool)(e:Int×Int)(r:Nat×Bool):bz (oz B e r).1:=by
 unfold oz
 split
 ·show bz (0,0)
  exact⟨⟨by decide,by decide⟩,⟨by decide,by decide⟩⟩
 ·exact yI B e r
theorem KZ{L:List Int}{B:List Bool}(h:c_ L B)(r:Nat×Bool){e:Int×Int}(he:bz e){HS:aj}{i k:Nat}(hi:HS[i]? = some (bp k L B r.1 r.2))(hk:HS[k]? = some (aK L))(hd:i≠k){HS':aj}(hh:HS.set i (bp k L B (oz B e r).2.1 (oz B e r).2.2)=HS')(hbd:Nat.blt HS'.length Mem.bound=true) :
 aG.Sound Tryz.prog ⟨67,[.one (.ptr i 0),.one (cy e)],HS,.one (cy (oz B e r).1),HS',[i]⟩:=
 BH (fun _ => .flat .nil) (.flat .nil) (Hm h r e he) hi hk hd hh hbd
theorem wC{p x:Int}(hp:fT p)(hx : -31<=x/\x<=31):ct (p+ct (x-p))=x:=by
 unfold fT at hp
 unfold ct
 omega
theorem gP(v e:Int×Int):(cS v e).length<=54:=by
 unfold cS
 have hx:=gQ (v.1-e.1)
 have hy:=gQ (v.2-e.2)
 have h1:=jO (aV (ct (v.1-e.1))) (by have:=gI ⟨hx.1,by omega⟩;omega)
 have h2:=jO (aV (ct (v.2-e.2))) (by have:=gI ⟨hy.1,by omega⟩;omega)
 rw[List.length_append];omega
theorem KK(v e:Int×Int)(he:bz e)(hr:dH v=true)(pre rest:List Bool):oz (pre++(cS v e++rest)) e (pre.length,false)=(v,(pre.length+(cS v e).length,false)):=by
 have hr' : -31<=v.1/\v.1<=31 /\ -31<=v.2/\v.2<=31:=of_decide_eq_true hr
 have hx:=gQ (v.1-e.1)
 have hy:=gQ (v.2-e.2)
 have s1:=gI (x:=ct (v.1-e.1)) ⟨hx.1,by omega⟩
 have s2:=gI (x:=ct (v.2-e.2)) ⟨hy.1,by omega⟩
 have e1:=pX (aV (ct (v.1-e.1))) (by omega) pre (bP (aV (ct (v.2-e.2)))++rest)
 have e2:=pX (aV (ct (v.2-e.2))) (by omega) (pre++bP (aV (ct (v.1-e.1)))) rest
 rw[List.append_assoc]at e2
 rw[List.length_append]at e2
 have eB:pre++(cS v e++rest)=pre++(bP (aV (ct (v.1-e.1)))++(bP (aV (ct (v.2-e.2)))++rest)):=by rw[cS,List.append_assoc]
 rw[eB]
 have kX:wv (pre++(bP (aV (ct (v.1-e.1)))++(bP (aV (ct (v.2-e.2)))++rest))) (pre.length,false)=ct (v.1-e.1):=by rw[wv,e1,pv]
 have kY:wx (pre++(bP (aV (ct (v.1-e.1)))++(bP (aV (ct (v.2-e.2)))++rest))) (pre.length,false)=ct (v.2-e.2):=by rw[wx,e1,e2,pv]
 have kR:tf (pre++(bP (aV (ct (v.1-e.1)))++(bP (aV (ct (v.2-e.2)))++rest))) (pre.length,false)=(pre.length+(cS v e).length,false):=by
  rw[tf,e1,e2,cS,List.length_append,Nat.add_assoc]
 have kV:zX (pre++(bP (aV (ct (v.1-e.1)))++(bP (aV (ct (v.2-e.2)))++rest))) e (pre.length,false)=v:=by
  rw[zX,kX,kY,wC he.1 ⟨hr'.1,hr'.2.1⟩,wC he.2 hr'.2.2]
 unfold oz
 have hn:¬jS (pre++(bP (aV (ct (v.1-e.1)))++(bP (aV (ct (v.2-e.2)))++rest))) e (pre.length,false):=by
  unfold jS
  rw[kX,kY,kR,kV,hr]
  rintro (g|g|g|g|g|g)
  ·cases g
  ·omega
  ·omega
  ·omega
  ·omega
  ·cases g
 rw[if_neg hn,kV,kR]
end Go.Proofs.YtagpkhindehcbaaGreat
namespace Go.Proofs.YtagpkhindehcbaaGreat
open Go.Xm
variable [ax]
structure Mb where
 kind:Int
 qp:Int
 v:Nat->Int×Int
 edge:Bool
 lev:Nat->Int
def mC(m:Mb):List XC := .int .u8 m.kind :: .int .i64 m.qp::cy (m.v 0)::cy (m.v 1)::cy (m.v 2)::cy (m.v 3) :: .bool m.edge::ti .i64 384 m.lev
theorem aI(m:Mb):(mC m).length=391:=by simp[mC,aD]
theorem vp(m:Mb):((mC m).drop 7).take 384=ti .i64 384 m.lev:=by
 show(ti .i64 384 m.lev).take 384=_
 rw[List.take_of_length_le (by rw[aD];omega)]
theorem O0(m:Mb){off s:Nat}(h7:7<=off)(h:off+s<=391):((mC m).drop off).take s=ti .i64 s fun i=>m.lev (off-7+i):=by
 have:(mC m).drop off=(ti .i64 384 m.lev).drop (off-7):=by
  obtain⟨q,rfl⟩:∃q,off=q+7:=⟨off-7,by omega⟩
  rw[Nat.add_sub_cancel]
  rfl
 rw[this,KB (by omega)]
theorem jk(m:Mb):(mC m).all XC.shut=true:=by
 simp[mC,ti,XC.shut,cy]
instance:sC mC 391:=⟨aI,jk,by decide⟩
instance RG (m:Mb):bC (.agg (mC m)):=fu (jk m)
structure iL(m:Mb):Prop where
 kind:0<=m.kind/\m.kind<=255
 qp : -1000000<=m.qp/\m.qp<=1000000
 v:∀k,bz (m.v k)
 lev:∀i,-1000000<=m.lev i/\m.lev i<=1000000
def alone(m:Mb):Bool:=decide (m.kind=3\/m.kind=4)
abbrev mw(m:Mb):ak := .cells (mC m) 53 false false
theorem FD(m:Mb):bh Tryz.prog 13 [.agg (mC m)] [] (.one (.bool (alone m))) []:=by
 refine cO Tryz.func13 ?_
 by_cases h3:m.kind=3
 ·have e:alone m=true:=decide_eq_true (.inl h3)
  rw[e]
  repeat' (first|refine zz ?_|refine zx (fun _=>?_) (fun _=>?_)|fail)
  show aB _ _ _ _ _ _ _ _;refine kV [] ?_
  rfl
 ·by_cases h4:m.kind=4
  ·have e:alone m=true:=decide_eq_true (.inr h4)
   rw[e]
   repeat' (first|refine zz ?_|refine zx (fun _=>?_) (fun _=>?_)|fail)
   show aB _ _ _ _ _ _ _ _;refine kV [] ?_
   rfl
  ·have e:alone m=false:=decide_eq_false fun h=>h.elim h3 h4
   rw[e]
   repeat' (first|refine zz ?_|refine zx (fun _=>?_) (fun _=>?_)|fail)
   show aB _ _ _ _ _ _ _ _;refine kV [] ?_
   rfl
theorem oN{m:Mb}{HS:aj}(hb:Nat.blt HS.length Mem.bound=true):aG.Sound Tryz.prog ⟨13,[.agg (mC m)],HS,.one (.bool (alone m)),HS,[]⟩:=
 az (FD m) (by simp only[List.all_cons,List.all_nil,Bool.and_true];exact jk m) rfl hb
theorem GQ:bh Tryz.prog 42 [] [] (.agg [.int .i64 (-2),.int .i64 (-1),.int .i64 1,.int .i64 2]) []:=by
 refine cO Tryz.func42 ?_
 repeat' (first|refine zz ?_|refine zx (fun _=>?_) (fun _=>?_)|fail)
 show aB _ _ _ _ _ _ _ _;refine kV [] ?_
 rfl
theorem pw{HS:aj}(hb:Nat.blt HS.length Mem.bound=true):aG.Sound Tryz.prog ⟨42,[],HS,.agg [.int .i64 (-2),.int .i64 (-1),.int .i64 1,.int .i64 2],HS,[]⟩:=
 az GQ rfl rfl hb
def dt(was qp:Int):Int×Bool:=if qp<1\/31<qp then(0,false)else if was-2=qp then(0,true)else if was-1=qp then(1,true)else if was+1=qp then(2,true)else if was+2=qp then(3,true)else(0,false)
theorem Kq(was qp:Int)(h1 : -1000000<=was/\was<=1000000)(h2 : -1000000<=qp/\qp<=1000000):bh Tryz.prog 49 [.one (.int .i64 was),.one (.int .i64 qp)] [] (.tup [.one (.int .i64 (dt was qp).1),.one (.bool (dt was qp).2)]) []:=by
 refine cO Tryz.func49 ?_
 repeat' (first
  |(refine qz ?_;first
   |refine cl ?_ (hi:=by exact pw rfl)
   |refine xp ?_)
  |refine WX.loop ?_|refine WX.round ?_|refine zz ?_|refine zx (fun _=>?_) (fun _=>?_)|fail)
 all_goals
  show aB _ _ _ _ _ _ _ _;refine kV [] ?_
  first
   | (rw[show dt was qp=(0,true) by unfold dt;(repeat' split)<;>first|rfl|(exfalso;omega)];rfl)
   | (rw[show dt was qp=(1,true) by unfold dt;(repeat' split)<;>first|rfl|(exfalso;omega)];rfl)
   | (rw[show dt was qp=(2,true) by unfold dt;(repeat' split)<;>first|rfl|(exfalso;omega)];rfl)
   | (rw[show dt was qp=(3,true) by unfold dt;(repeat' split)<;>first|rfl|(exfalso;omega)];rfl)
   | (rw[show dt was qp=(0,false) by unfold dt;(repeat' split)<;>first|rfl|(exfalso;omega)];rfl)
theorem zP{was qp:Int}(h1 : -1000000<=was/\was<=1000000)(h2 : -1000000<=qp/\qp<=1000000){HS:aj}(hb:Nat.blt HS.length Mem.bound=true):aG.Sound Tryz.prog ⟨49,[.one (.int .i64 was),.one (.int .i64 qp)],HS,.tup [.one (.int .i64 (dt was qp).1),.one (.bool (dt was qp).2)],HS,[]⟩:=
 az (Kq was qp h1 h2) rfl rfl hb
def oy(m:Mb)(k:Nat):Prop:=dH (m.v k)=true/\(m.kind≠2->m.v k=m.v 0)/\(m.kind≠1->m.kind≠2->m.v k=(0,0))
instance (m:Mb) (k:Nat):Decidable (oy m k):=by unfold oy;infer_instance
def gN(m:Mb):Int:=if oy m 0/\oy m 1/\oy m 2/\oy m 3 then 0 else 14
theorem KM(m:Mb)(hm:iL m):bh Tryz.prog 50 [.agg (mC m)] [] (.one (.int .i64 (gN m))) []:=by
 have w0:=hm.v 0
 have w1:=hm.v 1
 have w2:=hm.v 2
 have w3:=hm.v 3
 have z0:bz (0,0):=⟨⟨by decide,by decide⟩,⟨by decide,by decide⟩⟩
 by_cases hk2:m.kind=2
 ·refine cO Tryz.func50 ?_
  repeat' (first
   |(refine qz ?_;first
    |refine sO (cs:=vt m.v) ?_ (hle:=by rw[aI];decide)
    |refine xp ?_
    |refine uO (fun g0=>?_) (fun g0=>?_) (hi:=by exact e8 w0 rfl)
    |refine uO (fun g1=>?_) (fun g1=>?_) (hi:=by exact e8 w1 rfl)
    |refine uO (fun g2=>?_) (fun g2=>?_) (hi:=by exact e8 w2 rfl)
    |refine uO (fun g3=>?_) (fun g3=>?_) (hi:=by exact e8 w3 rfl))
   |refine WX.loop ?_|refine WX.round ?_|refine zz ?_|refine zx (fun _=>?_) (fun _=>?_)|fail)
  all_goals
   show aB _ _ _ _ _ _ _ _;refine kV [] ?_
   first
    | (rw[show gN m=0 by(unfold gN;refine if_pos ⟨⟨?_,?_,?_⟩,⟨?_,?_,?_⟩,⟨?_,?_,?_⟩,⟨?_,?_,?_⟩⟩<;>(intros;first|assumption|rfl|(exfalso;omega)))];rfl)
    | (rw[show gN m=14 by(unfold gN;refine if_neg ?_;rintro ⟨⟨a0,b0,c0⟩,⟨a1,b1,c1⟩,⟨a2,b2,c2⟩,⟨a3,b3,c3⟩⟩;first|exact absurd (g0.symm.trans a0) (by decide)|exact absurd (g1.symm.trans a1) (by decide)|exact absurd (g2.symm.trans a2) (by decide)|exact absurd (g3.symm.trans a3) (by decide)|exact d1 (b1 (by omega))|exact d2 (b2 (by omega))|exact d3 (b3 (by omega))|exact e0 (c0 (by omega) (by omega))|exact e1 (c1 (by omega) (by omega))|exact e2 (c2 (by omega) (by omega))|exact e3 (c3 (by omega) (by omega)))];rfl)
 by_cases hk1:m.kind=1
 ·refine cO Tryz.func50 ?_
  repeat' (first
   |(refine qz ?_;first
    |refine sO (cs:=vt m.v) ?_ (hle:=by rw[aI];decide)
    |refine xp ?_
    |refine uO (fun g0=>?_) (fun g0=>?_) (hi:=by exact e8 w0 rfl)
    |refine uO (fun g1=>?_) (fun g1=>?_) (hi:=by exact e8 w1 rfl)
    |refine uO (fun g2=>?_) (fun g2=>?_) (hi:=by exact e8 w2 rfl)
    |refine uO (fun g3=>?_) (fun g3=>?_) (hi:=by exact e8 w3 rfl)
    |refine HD (x:=m.v 0) (y:=m.v 0) (fun hn=>absurd rfl hn) (fun _=>?_) w0 w0 rfl
    |refine HD (x:=m.v 1) (y:=m.v 0) (fun d1=>?_) (fun d1=>?_) w1 w0 rfl
    |refine HD (x:=m.v 2) (y:=m.v 0) (fun d2=>?_) (fun d2=>?_) w2 w0 rfl
    |refine HD (x:=m.v 3) (y:=m.v 0) (fun d3=>?_) (fun d3=>?_) w3 w0 rfl)
   |refine WX.loop ?_|refine WX.round ?_|refine zz ?_|refine zx (fun _=>?_) (fun _=>?_)|fail)
  all_goals
   show aB _ _ _ _ _ _ _ _;refine kV [] ?_
   first
    | (rw[show gN m=0 by(unfold gN;refine if_pos ⟨⟨?_,?_,?_⟩,⟨?_,?_,?_⟩,⟨?_,?_,?_⟩,⟨?_,?_,?_⟩⟩<;>(intros;first|assumption|rfl|(exfalso;omega)))];rfl)
    | (rw[show gN m=14 by(unfold gN;refine if_neg ?_;rintro ⟨⟨a0,b0,c0⟩,⟨a1,b1,c1⟩,⟨a2,b2,c2⟩,⟨a3,b3,c3⟩⟩;first|exact absurd (g0.symm.trans a0) (by decide)|exact absurd (g1.symm.trans a1) (by decide)|exact absurd (g2.symm.trans a2) (by decide)|exact absurd (g3.symm.trans a3) (by decide)|exact d1 (b1 (by omega))|exact d2 (b2 (by omega))|exact d3 (b3 (by omega))|exact e0 (c0 (by omega) (by omega))|exact e1 (c1 (by omega) (by omega))|exact e2 (c2 (by omega) (by omega))|exact e3 (c3 (by omega) (by omega)))];rfl)
 ·refine cO Tryz.func50 ?_
  repeat' (first
   |(refine qz ?_;first
    |refine sO (cs:=vt m.v) ?_ (hle:=by rw[aI];decide)
    |refine xp ?_
    |refine uO (fun g0=>?_) (fun g0=>?_) (hi:=by exact e8 w0 rfl)
    |refine uO (fun g1=>?_) (fun g1=>?_) (hi:=by exact e8 w1 rfl)
    |refine uO (fun g2=>?_) (fun g2=>?_) (hi:=by exact e8 w2 rfl)
    |refine uO (fun g3=>?_) (fun g3=>?_) (hi:=by exact e8 w3 rfl)
    |refine HD (x:=m.v 0) (y:=m.v 0) (fun hn=>absurd rfl hn) (fun _=>?_) w0 w0 rfl
    |refine HD (x:=m.v 0) (y:=(0,0)) (fun e0=>?_) (fun e0=>?_) w0 z0 d9.symm
    |refine HD (x:=m.v 1) (y:=m.v 0) (fun d1=>?_) (fun d1=>?_) w1 w0 rfl
    |refine HD (x:=m.v 2) (y:=m.v 0) (fun d2=>?_) (fun d2=>?_) w2 w0 rfl
    |refine HD (x:=m.v 3) (y:=m.v 0) (fun d3=>?_) (fun d3=>?_) w3 w0 rfl
    |refine HD (x:=m.v 1) (y:=(0,0)) (fun e1=>?_) (fun e1=>?_) w1 z0 d9.symm
    |refine HD (x:=m.v 2) (y:=(0,0)) (fun e2=>?_) (fun e2=>?_) w2 z0 d9.symm
    |refine HD (x:=m.v 3) (y:=(0,0)) (fun e3=>?_) (fun e3=>?_) w3 z0 d9.symm)
   |refine WX.loop ?_|refine WX.round ?_|refine zz ?_|refine zx (fun _=>?_) (fun _=>?_)|fail)
  all_goals
   show aB _ _ _ _ _ _ _ _;refine kV [] ?_
   first
    | (rw[show gN m=0 by(unfold gN;refine if_pos ⟨⟨?_,?_,?_⟩,⟨?_,?_,?_⟩,⟨?_,?_,?_⟩,⟨?_,?_,?_⟩⟩<;>(intros;first|assumption|rfl|(exfalso;omega)))];rfl)
    | (rw[show gN m=14 by(unfold gN;refine if_neg ?_;rintro ⟨⟨a0,b0,c0⟩,⟨a1,b1,c1⟩,⟨a2,b2,c2⟩,⟨a3,b3,c3⟩⟩;first|exact absurd (g0.symm.trans a0) (by decide)|exact absurd (g1.symm.trans a1) (by decide)|exact absurd (g2.symm.trans a2) (by decide)|exact absurd (g3.symm.trans a3) (by decide)|exact d1 (b1 (by omega))|exact d2 (b2 (by omega))|exact d3 (b3 (by omega))|exact e0 (c0 (by omega) (by omega))|exact e1 (c1 (by omega) (by omega))|exact e2 (c2 (by omega) (by omega))|exact e3 (c3 (by omega) (by omega)))];rfl)
theorem Nu{m:Mb}(hm:iL m){HS:aj}(hb:Nat.blt HS.length Mem.bound=true):aG.Sound Tryz.prog ⟨50,[.agg (mC m)],HS,.one (.int .i64 (gN m)),HS,[]⟩:=
 az (KM m hm) (by simp only[List.all_cons,List.all_nil,Bool.and_true];exact jk m) rfl hb
end Go.Proofs.YtagpkhindehcbaaGreat
