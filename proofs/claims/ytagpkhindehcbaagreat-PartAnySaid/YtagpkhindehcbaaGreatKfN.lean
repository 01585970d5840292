/-
  A part of the proof: VecIO, Modes.
-/
import Derived.Test.YtagpkhindehcbaaGreatKfM
set_option maxRecDepth 10000
set_option maxHeartbeats 8000000
set_option linter.unusedVariables false
set_option linter.unusedSectionVars false
set_option linter.unusedSimpArgs false
namespace Go.Proofs.YtagpkhindehcbaaGreat
open Go.Xm
variable [ax]
theorem ff{f f':FuncId}{a a':List XV}{HS HS' K K':aj}{v v':XV}{w w':List Nat}(h:Nat.beq HS.length HS'.length=false):Compat ⟨f,a,HS,v,K,w⟩ ⟨f',a',HS',v',K',w'⟩:=fun _ _ e=>by
 have e':HS.length=HS'.length:=congrArg List.length e
 rw[e']at h
 simp at h
theorem Gl{p:Int×Int}(h:bI p)(hr:dH p=true){HS:aj}(hb:Nat.blt HS.length Mem.bound=true):aG.Sound Tryz.prog ⟨79,[.one (cD p)],HS,.one (.bool true),HS,[]⟩:=by
 have:=e_ h hb
 rw[hr]at this
 exact this
theorem gH{x:Int}(h : -32<=x/\x<=32):0<=aY x/\aY x<=64:=by unfold aY;split<;>omega
def cV(v e:Int×Int):List Bool:=cu (aY (cp (v.1-e.1)))++cu (aY (cp (v.2-e.2)))
theorem jI(v:Int)(h:0<=v/\v<=8190):(cu v).length<=27:=by
 unfold cu
 split
 ·decide
 ·simp only[List.length_cons,sV]
  have:=pF (n:=(v+1).toNat) (k:=13) (by omega)
  omega
theorem KK(bs:List Bool)(v e:Int×Int)(hv:bI v)(he:bI e)(hr:dH v=true)(hb:bs.length<=800000) :
 bh Tryz.prog 54 [.one (.ptr 0 0),.one (cD v),.one (cD e)] (WH bs) (.one (.bool true)) (NA (bs++cV v e)):=by
 have hx:=gO (v.1-e.1)
 have hy:=gO (v.2-e.2)
 have a1:=hv.1.1
 have a2:=hv.1.2
 have a3:=hv.2.1
 have a4:=hv.2.2
 have b1:=he.1.1
 have b2:=he.1.2
 have b3:=he.2.1
 have b4:=he.2.2
 have hl:=jI (aY (cp (v.1-e.1))) (by have:=gH ⟨hx.1,by omega⟩;omega)
 have e0:bs++cV v e=(bs++cu (aY (cp (v.1-e.1))))++cu (aY (cp (v.2-e.2))):=by rw[cV,List.append_assoc]
 rw[e0]
 refine cO Tryz.func54 ?_
 repeat' (first
  |(refine qz ?_;first
   |refine cl ?_ (hi:=by exact Gl hv hr rfl)
   |refine cl ?_ (hi:=by exact jq hv rfl)
   |refine cl ?_ (hi:=by exact jq he rfl)
   |refine cl ?_ (hi:=by exact E9 (by omega) rfl)
   |refine cl ?_ (hi:=by exact sY (by omega) rfl)
   |refine cl ?_ (hi:=by exact jJ (v:=aY (cp (v.1-e.1))) (bs:=bs) (by have:=gH ⟨hx.1,by omega⟩;omega) (by omega) rfl rfl (by decide) nL nA rfl)
   |refine cl ?_ (hi:=by exact jJ (v:=aY (cp (v.2-e.2))) (bs:=bs++cu (aY (cp (v.1-e.1)))) (by have:=gH ⟨hy.1,by omega⟩;omega) (by rw[List.length_append];omega) rfl rfl (by decide) nL nA rfl))
  |refine zz ?_|refine zx (fun _=>?_) (fun _=>?_)|refine bp (by first|exact af.nil|exact af.one _|exact af.mD (by repeat' (first|exact True.intro|refine And.intro ?_ ?_|exact Compat.ne rfl|exact ff rfl))) ⟨by kernel_rfl,?_⟩|refine bp (by first|exact af.nil|exact af.one _|exact af.mD (by repeat' (first|exact True.intro|refine And.intro ?_ ?_|exact Compat.ne rfl|exact ff rfl))) ?_|fail)
 show aC _ _ _ _ _ _ _ _;refine kV [0,1,3] ?_
 rfl
theorem jS{bs:List Bool}{v e:Int×Int}(hv:bI v)(he:bI e)(hr:dH v=true)(hb:bs.length<=800000){HS:aj}{i k:Nat}(hi:HS[i]? = some (aN k bs))(hk:HS[k]? = some (aq bs))(hd:i≠k){N:Nat}(hN:HS.length=N){HS':aj}(hh:bK HS [i,k] [aN N (bs++cV v e),.dead,aq (bs++cV v e)]=HS')(hbd:Nat.blt HS'.length Mem.bound=true) :
 aG.Sound Tryz.prog ⟨54,[.one (.ptr i 0),.one (cD v),.one (cD e)],HS,.one (.bool true),HS',[i,k]⟩:=
 Nl (fun τ => .flat (.flat .nil)) (.flat (.flat .nil)) (KK bs v e hv he hr hb) hi hk hd hN hh hbd
theorem yf(B:List Bool):∀(k:Nat) (x:Int) (r:Nat×Bool),1<=x->0<=(ki B k x r).1/\(ki B k x r).1<=8190
 | 0,x,r,h=>by simp[ki]
 | k + 1,x,r,h=>by
   have hb:=Av (cm B r)
   unfold ki
   split
   ·simp
   ·rename_i h1
    split
    ·exact yf B k _ _ (by omega)
    ·simp only[]
     have:¬(8190<2*x+b2 (cm B r)-1):=fun g=>h1 (.inr g)
     omega
theorem nY(B:List Bool)(r:Nat×Bool):0<=(bq B r).1/\(bq B r).1<=8190:=by
 unfold bq
 split
 ·simp
 ·exact yf B 13 1 _ (by decide)
theorem qw{n:Int}(h:0<=n/\n<=8190) : -4100<=bB n/\bB n<=4100:=by unfold bB;split<;>omega
theorem oh{a b:Int}{HS HS':aj}:Compat ⟨94,[.one (.int .i64 a)],HS,.one (.int .i64 (bB a)),HS,[]⟩ ⟨94,[.one (.int .i64 b)],HS',.one (.int .i64 (bB b)),HS',[]⟩:=fun _ h h2=>by
 simp only[List.cons.injEq,XV.one.injEq,XC.int.injEq,true_and,and_true]at h
 subst h
 have h2':HS=HS':=h2
 subst h2'
 exact⟨rfl,rfl,rfl⟩
theorem tn{a b:Int}{HS:aj}:Compat ⟨84,[.one (.int .i64 a)],HS,.one (.int .i64 (cp a)),HS,[]⟩ ⟨84,[.one (.int .i64 b)],HS,.one (.int .i64 (cp b)),HS,[]⟩:=fun _ h _=>by
 simp only[List.cons.injEq,XV.one.injEq,XC.int.injEq,true_and,and_true]at h
 subst h
 exact⟨rfl,rfl,rfl⟩
theorem xA{f:FuncId}{a:List XV}{L:List Int}{B:List Bool}(g:Nat×Bool->XV×(Nat×Bool)){r r':Nat×Bool}{i k:Nat}{HS HS' K K':aj}(hi:HS[i]? = some (bt k L B r.1 r.2))(hi':HS'[i]? = some (bt k L B r'.1 r'.2))(hK:HS.set i (bt k L B (g r).2.1 (g r).2.2)=K)(hK':HS'.set i (bt k L B (g r').2.1 (g r').2.2)=K'):Compat ⟨f,a,HS,(g r).1,K,[i]⟩ ⟨f,a,HS',(g r').1,K',[i]⟩:=fun _ _ h=>by
 have h':HS=HS':=h
 subst h'
 rw[hi]at hi'
 simp only[Option.some.injEq,ak.cells.injEq,List.cons.injEq,XC.int.injEq,XC.bool.injEq,true_and,and_true,Int.ofNat_inj]at hi'
 have:r=r':=Prod.ext hi'.1 hi'.2
 subst this
 exact⟨rfl,hK.symm.trans hK',rfl⟩
def wi(B:List Bool)(r:Nat×Bool):Int:=bB (bq B r).1
def wj(B:List Bool)(r:Nat×Bool):Int:=bB (bq B (bq B r).2).1
def zO(B:List Bool)(e:Int×Int)(r:Nat×Bool):Int×Int:=(cp (e.1+wi B r),cp (e.2+wj B r))
def s7(B:List Bool)(r:Nat×Bool):Nat×Bool:=(bq B (bq B r).2).2
def jM(B:List Bool)(e:Int×Int)(r:Nat×Bool):Prop:=(s7 B r).2=true\/wi B r < -32\/31<wi B r\/wj B r < -32\/31<wj B r\/dH (zO B e r)=false
instance (B:List Bool) (e:Int×Int) (r:Nat×Bool):Decidable (jM B e r):=by unfold jM;infer_instance
def oC(B:List Bool)(e:Int×Int)(r:Nat×Bool):(Int×Int)×(Nat×Bool):=if jM B e r then((0,0),((s7 B r).1,true))else(zO B e r,s7 B r)
theorem yv(B:List Bool)(e:Int×Int)(r:Nat×Bool):bI (zO B e r):=by
 have h1:=gO (e.1+wi B r)
 have h2:=gO (e.2+wj B r)
 exact⟨⟨h1.1,by show cp _<=32;omega⟩,⟨h2.1,by show cp _<=32;omega⟩⟩
theorem Hf{L:List Int}{B:List Bool}(h:dp L B)(r:Nat×Bool)(e:Int×Int)(he:bI e) :
 bh Tryz.prog 67 [.one (.ptr 0 0),.one (cD e)] (RH L B r.1 r.2) (.one (cD (oC B e r).1)) (RH L B (oC B e r).2.1 (oC B e r).2.2):=by
 have b1:=he.1.1
 have b2:=he.1.2
 have b3:=he.2.1
 have b4:=he.2.2
 have r1:=nY B r
 have r2:=nY B (bq B r).2
 have u1 : -4100<=wi B r/\wi B r<=4100:=qw r1
 have u2 : -4100<=wj B r/\wj B r<=4100:=qw r2
 have hV:=yv B e r
 unfold oC
 refine cO Tryz.func67 ?_
 repeat' (first
  |(refine qz ?_;first
   |refine cl ?_ (hi:=by exact pk h r rfl rfl (by decide) nL rfl)
   |refine cl (v := .one (.int .i64 (wi B r))) ?_ (hi:=by exact l8 (n:=(bq B r).1) (by omega) rfl)
   |refine cl ?_ (hi:=by exact pk h (bq B r).2 rfl rfl (by decide) nL rfl)
   |refine cl (v := .one (.int .i64 (wj B r))) ?_ (hi:=by exact l8 (n:=(bq B (bq B r).2).1) (by omega) rfl)
   |refine cl ?_ (hi:=by exact jq he rfl)
   |refine cl ?_ (hi:=by exact E9 (by omega) rfl)
   |refine cl (v := .one (cD (zO B e r))) ?_ (hi:=by exact xU rfl)
   |refine uK (fun ge=>?_) (fun ge=>?_) (hi:=by exact gW (p:=(s7 B r).1) (e:=(s7 B r).2) rfl rfl (by decide) rfl)
   |refine uK (fun gr=>?_) (fun gr=>?_) (hi:=by exact e_ hV rfl)
   |refine cl ?_ (hi:=by exact gG (p:=(s7 B r).1) (e:=(s7 B r).2) rfl rfl (by decide) nL rfl))
  |refine zz ?_|refine zx (fun _=>?_) (fun _=>?_)|refine bp (by first|exact af.nil|exact af.one _|exact af.mD (by repeat' (first|exact True.intro|refine And.intro ?_ ?_|exact Compat.ne rfl|exact oh|exact tn|exact xA (fun r=>(.one (.int .i64 (bq B r).1),(bq B r).2)) (r:=(bq B r).2) (r':=r) rfl rfl rfl rfl))) ⟨by kernel_rfl,?_⟩|refine bp (by first|exact af.nil|exact af.one _|exact af.mD (by repeat' (first|exact True.intro|refine And.intro ?_ ?_|exact Compat.ne rfl|exact oh|exact tn|exact xA (fun r=>(.one (.int .i64 (bq B r).1),(bq B r).2)) (r:=(bq B r).2) (r':=r) rfl rfl rfl rfl))) ?_|fail)
 ·rw[if_pos (show jM B e r from .inl ge)]
  show aC _ _ _ _ _ _ _ _;refine kV [0,1] ?_
  exact congrArg XV.one dX.symm
 ·rename_i g1
  rw[if_pos (show jM B e r from .inr (.inl g1))]
  show aC _ _ _ _ _ _ _ _;refine kV [0,1] ?_
  exact congrArg XV.one dX.symm
 ·rename_i g1
  rw[if_pos (show jM B e r from .inr (.inr (.inl g1)))]
  show aC _ _ _ _ _ _ _ _;refine kV [0,1] ?_
  exact congrArg XV.one dX.symm
 ·rename_i g1
  rw[if_pos (show jM B e r from .inr (.inr (.inr (.inl g1))))]
  show aC _ _ _ _ _ _ _ _;refine kV [0,1] ?_
  exact congrArg XV.one dX.symm
 ·rename_i g1
  rw[if_pos (show jM B e r from .inr (.inr (.inr (.inr (.inl g1)))))]
  show aC _ _ _ _ _ _ _ _;refine kV [0,1] ?_
  exact congrArg XV.one dX.symm
 ·have hn:¬jM B e r:=by
   rintro (g|g|g|g|g|g)
   ·rw[ge]at g;cases g
   ·omega
   ·omega
   ·omega
   ·omega
   ·rw[gr]at g;cases g
  rw[if_neg hn]
  show aC _ _ _ _ _ _ _ _;refine kV [0,1] ?_
  rfl
 ·rw[if_pos (show jM B e r from .inr (.inr (.inr (.inr (.inr gr)))))]
  show aC _ _ _ _ _ _ _ _;refine kV [0,1] ?_
  exact congrArg XV.one dX.symm
theorem m6(B:List Bool)(e:Int×Int)(r:Nat×Bool):bI (oC B e r).1:=by
 unfold oC
 split
 ·show bI (0,0)
  exact⟨⟨by decide,by decide⟩,⟨by decide,by decide⟩⟩
 ·exact yv B e r
theorem KM{L:List Int}{B:List Bool}(h:dp L B)(r:Nat×Bool){e:Int×Int}(he:bI e){HS:aj}{i k:Nat}(hi:HS[i]? = some (bt k L B r.1 r.2))(hk:HS[k]? = some (aL L))(hd:i≠k){HS':aj}(hh:HS.set i (bt k L B (oC B e r).2.1 (oC B e r).2.2)=HS')(hbd:Nat.blt HS'.length Mem.bound=true) :
 aG.Sound Tryz.prog ⟨67,[.one (.ptr i 0),.one (cD e)],HS,.one (cD (oC B e r).1),HS',[i]⟩:=
 Bx (fun _ => .flat .nil) (.flat .nil) (Hf h r e he) hi hk hd hh hbd
theorem wo{p x:Int}(hp:fV p)(hx : -31<=x/\x<=31):cp (p+cp (x-p))=x:=by
 unfold fV at hp
 unfold cp
 omega
theorem gN(v e:Int×Int):(cV v e).length<=54:=by
 unfold cV
 have hx:=gO (v.1-e.1)
 have hy:=gO (v.2-e.2)
 have h1:=jI (aY (cp (v.1-e.1))) (by have:=gH ⟨hx.1,by omega⟩;omega)
 have h2:=jI (aY (cp (v.2-e.2))) (by have:=gH ⟨hy.1,by omega⟩;omega)
 rw[List.length_append];omega
theorem Kx(v e:Int×Int)(he:bI e)(hr:dH v=true)(pre rest:List Bool):oC (pre++(cV v e++rest)) e (pre.length,false)=(v,(pre.length+(cV v e).length,false)):=by
 have hr' : -31<=v.1/\v.1<=31 /\ -31<=v.2/\v.2<=31:=of_decide_eq_true hr
 have hx:=gO (v.1-e.1)
 have hy:=gO (v.2-e.2)
 have s1:=gH (x:=cp (v.1-e.1)) ⟨hx.1,by omega⟩
 have s2:=gH (x:=cp (v.2-e.2)) ⟨hy.1,by omega⟩
 have e1:=yg (aY (cp (v.1-e.1))) (by omega) pre (cu (aY (cp (v.2-e.2)))++rest)
 have e2:=yg (aY (cp (v.2-e.2))) (by omega) (pre++cu (aY (cp (v.1-e.1)))) rest
 rw[List.append_assoc]at e2
 rw[List.length_append]at e2
 have eB:pre++(cV v e++rest)=pre++(cu (aY (cp (v.1-e.1)))++(cu (aY (cp (v.2-e.2)))++rest)):=by rw[cV,List.append_assoc]
 rw[eB]
 have kX:wi (pre++(cu (aY (cp (v.1-e.1)))++(cu (aY (cp (v.2-e.2)))++rest))) (pre.length,false)=cp (v.1-e.1):=by rw[wi,e1,tF]
 have kY:wj (pre++(cu (aY (cp (v.1-e.1)))++(cu (aY (cp (v.2-e.2)))++rest))) (pre.length,false)=cp (v.2-e.2):=by rw[wj,e1,e2,tF]
 have kR:s7 (pre++(cu (aY (cp (v.1-e.1)))++(cu (aY (cp (v.2-e.2)))++rest))) (pre.length,false)=(pre.length+(cV v e).length,false):=by
  rw[s7,e1,e2,cV,List.length_append,Nat.add_assoc]
 have kV:zO (pre++(cu (aY (cp (v.1-e.1)))++(cu (aY (cp (v.2-e.2)))++rest))) e (pre.length,false)=v:=by
  rw[zO,kX,kY,wo he.1 ⟨hr'.1,hr'.2.1⟩,wo he.2 hr'.2.2]
 unfold oC
 have hn:¬jM (pre++(cu (aY (cp (v.1-e.1)))++(cu (aY (cp (v.2-e.2)))++rest))) e (pre.length,false):=by
  unfold jM
  rw[kX,kY,kR,kV,hr]
  rintro (g|g|g|g|g|g)
  ·cases g
  ·omega
  ·omega
  ·omega
  ·omega
  ·cases g
 rw[if_neg hn,kV,kR]
structure Mb where
 kind:Int
 qp:Int
 v:Nat->Int×Int
 edge:Bool
 lev:Nat->Int
def mC(m:Mb):List XC := .int .u8 m.kind :: .int .i64 m.qp::cD (m.v 0)::cD (m.v 1)::cD (m.v 2)::cD (m.v 3) :: .bool m.edge::ti .i64 384 m.lev
theorem aI(m:Mb):(mC m).length=391:=by simp[mC,aE]
theorem C4(m:Mb):((mC m).drop 7).take 384=ti .i64 384 m.lev:=by
 show(ti .i64 384 m.lev).take 384=_
 rw[List.take_of_length_le (by rw[aE];omega)]
theorem OI(m:Mb){off s:Nat}(h7:7<=off)(h:off+s<=391):((mC m).drop off).take s=ti .i64 s fun i=>m.lev (off-7+i):=by
 have:(mC m).drop off=(ti .i64 384 m.lev).drop (off-7):=by
  obtain⟨q,rfl⟩:∃q,off=q+7:=⟨off-7,by omega⟩
  rw[Nat.add_sub_cancel]
  rfl
 rw[this,Km (by omega)]
theorem kO(m:Mb):(mC m).all XC.shut=true:=by
 simp[mC,ti,XC.shut,cD]
instance:sw mC 391:=⟨aI,kO,by decide⟩
instance Rl (m:Mb):bE (.agg (mC m)):=fw (kO m)
structure iK(m:Mb):Prop where
 kind:0<=m.kind/\m.kind<=255
 qp : -1000000<=m.qp/\m.qp<=1000000
 v:∀k,bI (m.v k)
 lev:∀i,-1000000<=m.lev i/\m.lev i<=1000000
def alone(m:Mb):Bool:=decide (m.kind=3\/m.kind=4)
abbrev mu(m:Mb):ak := .cells (mC m) 53 false false
theorem Fm(m:Mb):bh Tryz.prog 13 [.agg (mC m)] [] (.one (.bool (alone m))) []:=by
 refine cO Tryz.func13 ?_
 by_cases h3:m.kind=3
 ·have e:alone m=true:=decide_eq_true (.inl h3)
  rw[e]
  repeat' (first|refine zz ?_|refine zx (fun _=>?_) (fun _=>?_)|fail)
  show aC _ _ _ _ _ _ _ _;refine kV [] ?_
  rfl
 ·by_cases h4:m.kind=4
  ·have e:alone m=true:=decide_eq_true (.inr h4)
   rw[e]
   repeat' (first|refine zz ?_|refine zx (fun _=>?_) (fun _=>?_)|fail)
   show aC _ _ _ _ _ _ _ _;refine kV [] ?_
   rfl
  ·have e:alone m=false:=decide_eq_false fun h=>h.elim h3 h4
   rw[e]
   repeat' (first|refine zz ?_|refine zx (fun _=>?_) (fun _=>?_)|fail)
   show aC _ _ _ _ _ _ _ _;refine kV [] ?_
   rfl
theorem oO{m:Mb}{HS:aj}(hb:Nat.blt HS.length Mem.bound=true):aG.Sound Tryz.prog ⟨13,[.agg (mC m)],HS,.one (.bool (alone m)),HS,[]⟩:=
 aA (Fm m) (by simp only[List.all_cons,List.all_nil,Bool.and_true];exact kO m) rfl hb
theorem GG:bh Tryz.prog 42 [] [] (.agg [.int .i64 (-2),.int .i64 (-1),.int .i64 1,.int .i64 2]) []:=by
 refine cO Tryz.func42 ?_
 repeat' (first|refine zz ?_|refine zx (fun _=>?_) (fun _=>?_)|fail)
 show aC _ _ _ _ _ _ _ _;refine kV [] ?_
 rfl
theorem po{HS:aj}(hb:Nat.blt HS.length Mem.bound=true):aG.Sound Tryz.prog ⟨42,[],HS,.agg [.int .i64 (-2),.int .i64 (-1),.int .i64 1,.int .i64 2],HS,[]⟩:=
 aA GG rfl rfl hb
def dz(was qp:Int):Int×Bool:=if qp<1\/31<qp then(0,false)else if was-2=qp then(0,true)else if was-1=qp then(1,true)else if was+1=qp then(2,true)else if was+2=qp then(3,true)else(0,false)
theorem Ka(was qp:Int)(h1 : -1000000<=was/\was<=1000000)(h2 : -1000000<=qp/\qp<=1000000):bh Tryz.prog 49 [.one (.int .i64 was),.one (.int .i64 qp)] [] (.tup [.one (.int .i64 (dz was qp).1),.one (.bool (dz was qp).2)]) []:=by
 refine cO Tryz.func49 ?_
 repeat' (first
  |(refine qz ?_;first
   |refine cl ?_ (hi:=by exact po rfl)
   |refine xc ?_)
  |refine WX.loop ?_|refine WX.round ?_|refine zz ?_|refine zx (fun _=>?_) (fun _=>?_)|fail)
 all_goals
  show aC _ _ _ _ _ _ _ _;refine kV [] ?_
  first
   | (rw[show dz was qp=(0,true) by unfold dz;(repeat' split)<;>first|rfl|(exfalso;omega)];rfl)
   | (rw[show dz was qp=(1,true) by unfold dz;(repeat' split)<;>first|rfl|(exfalso;omega)];rfl)
   | (rw[show dz was qp=(2,true) by unfold dz;(repeat' split)<;>first|rfl|(exfalso;omega)];rfl)
   | (rw[show dz was qp=(3,true) by unfold dz;(repeat' split)<;>first|rfl|(exfalso;omega)];rfl)
   | (rw[show dz was qp=(0,false) by unfold dz;(repeat' split)<;>first|rfl|(exfalso;omega)];rfl)
theorem zF{was qp:Int}(h1 : -1000000<=was/\was<=1000000)(h2 : -1000000<=qp/\qp<=1000000){HS:aj}(hb:Nat.blt HS.length Mem.bound=true):aG.Sound Tryz.prog ⟨49,[.one (.int .i64 was),.one (.int .i64 qp)],HS,.tup [.one (.int .i64 (dz was qp).1),.one (.bool (dz was qp).2)],HS,[]⟩:=
 aA (Ka was qp h1 h2) rfl rfl hb
def ow(m:Mb)(k:Nat):Prop:=dH (m.v k)=true/\(m.kind≠2->m.v k=m.v 0)/\(m.kind≠1->m.kind≠2->m.v k=(0,0))
instance (m:Mb) (k:Nat):Decidable (ow m k):=by unfold ow;infer_instance
def gL(m:Mb):Int:=if ow m 0/\ow m 1/\ow m 2/\ow m 3 then 0 else 14
theorem Kz(m:Mb)(hm:iK m):bh Tryz.prog 50 [.agg (mC m)] [] (.one (.int .i64 (gL m))) []:=by
 have w0:=hm.v 0
 have w1:=hm.v 1
 have w2:=hm.v 2
 have w3:=hm.v 3
 have z0:bI (0,0):=⟨⟨by decide,by decide⟩,⟨by decide,by decide⟩⟩
 by_cases hk2:m.kind=2
 ·refine cO Tryz.func50 ?_
  repeat' (first
   |(refine qz ?_;first
    |refine t_ (cs:=vt m.v) ?_ (hle:=by rw[aI];decide)
    |refine xc ?_
    |refine uK (fun g0=>?_) (fun g0=>?_) (hi:=by exact e_ w0 rfl)
    |refine uK (fun g1=>?_) (fun g1=>?_) (hi:=by exact e_ w1 rfl)
    |refine uK (fun g2=>?_) (fun g2=>?_) (hi:=by exact e_ w2 rfl)
    |refine uK (fun g3=>?_) (fun g3=>?_) (hi:=by exact e_ w3 rfl))
   |refine WX.loop ?_|refine WX.round ?_|refine zz ?_|refine zx (fun _=>?_) (fun _=>?_)|fail)
  all_goals
   show aC _ _ _ _ _ _ _ _;refine kV [] ?_
   first
    | (rw[show gL m=0 by(unfold gL;refine if_pos ⟨⟨?_,?_,?_⟩,⟨?_,?_,?_⟩,⟨?_,?_,?_⟩,⟨?_,?_,?_⟩⟩<;>(intros;first|assumption|rfl|(exfalso;omega)))];rfl)
    | (rw[show gL m=14 by(unfold gL;refine if_neg ?_;rintro ⟨⟨a0,b0,c0⟩,⟨a1,b1,c1⟩,⟨a2,b2,c2⟩,⟨a3,b3,c3⟩⟩;first|exact absurd (g0.symm.trans a0) (by decide)|exact absurd (g1.symm.trans a1) (by decide)|exact absurd (g2.symm.trans a2) (by decide)|exact absurd (g3.symm.trans a3) (by decide)|exact d1 (b1 (by omega))|exact d2 (b2 (by omega))|exact d3 (b3 (by omega))|exact e0 (c0 (by omega) (by omega))|exact e1 (c1 (by omega) (by omega))|exact e2 (c2 (by omega) (by omega))|exact e3 (c3 (by omega) (by omega)))];rfl)
 by_cases hk1:m.kind=1
 ·refine cO Tryz.func50 ?_
  repeat' (first
   |(refine qz ?_;first
    |refine t_ (cs:=vt m.v) ?_ (hle:=by rw[aI];decide)
    |refine xc ?_
    |refine uK (fun g0=>?_) (fun g0=>?_) (hi:=by exact e_ w0 rfl)
    |refine uK (fun g1=>?_) (fun g1=>?_) (hi:=by exact e_ w1 rfl)
    |refine uK (fun g2=>?_) (fun g2=>?_) (hi:=by exact e_ w2 rfl)
    |refine uK (fun g3=>?_) (fun g3=>?_) (hi:=by exact e_ w3 rfl)
    |refine Hw (x:=m.v 0) (y:=m.v 0) (fun hn=>absurd rfl hn) (fun _=>?_) w0 w0 rfl
    |refine Hw (x:=m.v 1) (y:=m.v 0) (fun d1=>?_) (fun d1=>?_) w1 w0 rfl
    |refine Hw (x:=m.v 2) (y:=m.v 0) (fun d2=>?_) (fun d2=>?_) w2 w0 rfl
    |refine Hw (x:=m.v 3) (y:=m.v 0) (fun d3=>?_) (fun d3=>?_) w3 w0 rfl)
   |refine WX.loop ?_|refine WX.round ?_|refine zz ?_|refine zx (fun _=>?_) (fun _=>?_)|fail)
  all_goals
   show aC _ _ _ _ _ _ _ _;refine kV [] ?_
   first
    | (rw[show gL m=0 by(unfold gL;refine if_pos ⟨⟨?_,?_,?_⟩,⟨?_,?_,?_⟩,⟨?_,?_,?_⟩,⟨?_,?_,?_⟩⟩<;>(intros;first|assumption|rfl|(exfalso;omega)))];rfl)
    | (rw[show gL m=14 by(unfold gL;refine if_neg ?_;rintro ⟨⟨a0,b0,c0⟩,⟨a1,b1,c1⟩,⟨a2,b2,c2⟩,⟨a3,b3,c3⟩⟩;first|exact absurd (g0.symm.trans a0) (by decide)|exact absurd (g1.symm.trans a1) (by decide)|exact absurd (g2.symm.trans a2) (by decide)|exact absurd (g3.symm.trans a3) (by decide)|exact d1 (b1 (by omega))|exact d2 (b2 (by omega))|exact d3 (b3 (by omega))|exact e0 (c0 (by omega) (by omega))|exact e1 (c1 (by omega) (by omega))|exact e2 (c2 (by omega) (by omega))|exact e3 (c3 (by omega) (by omega)))];rfl)
 ·refine cO Tryz.func50 ?_
  repeat' (first
   |(refine qz ?_;first
    |refine t_ (cs:=vt m.v) ?_ (hle:=by rw[aI];decide)
    |refine xc ?_
    |refine uK (fun g0=>?_) (fun g0=>?_) (hi:=by exact e_ w0 rfl)
    |refine uK (fun g1=>?_) (fun g1=>?_) (hi:=by exact e_ w1 rfl)
    |refine uK (fun g2=>?_) (fun g2=>?_) (hi:=by exact e_ w2 rfl)
    |refine uK (fun g3=>?_) (fun g3=>?_) (hi:=by exact e_ w3 rfl)
    |refine Hw (x:=m.v 0) (y:=m.v 0) (fun hn=>absurd rfl hn) (fun _=>?_) w0 w0 rfl
    |refine Hw (x:=m.v 0) (y:=(0,0)) (fun e0=>?_) (fun e0=>?_) w0 z0 dX.symm
    |refine Hw (x:=m.v 1) (y:=m.v 0) (fun d1=>?_) (fun d1=>?_) w1 w0 rfl
    |refine Hw (x:=m.v 2) (y:=m.v 0) (fun d2=>?_) (fun d2=>?_) w2 w0 rfl
    |refine Hw (x:=m.v 3) (y:=m.v 0) (fun d3=>?_) (fun d3=>?_) w3 w0 rfl
    |refine Hw (x:=m.v 1) (y:=(0,0)) (fun e1=>?_) (fun e1=>?_) w1 z0 dX.symm
    |refine Hw (x:=m.v 2) (y:=(0,0)) (fun e2=>?_) (fun e2=>?_) w2 z0 dX.symm
    |refine Hw (x:=m.v 3) (y:=(0,0)) (fun e3=>?_) (fun e3=>?_) w3 z0 dX.symm)
   |refine WX.loop ?_|refine WX.round ?_|refine zz ?_|refine zx (fun _=>?_) (fun _=>?_)|fail)
  all_goals
   show aC _ _ _ _ _ _ _ _;refine kV [] ?_
   first
    | (rw[show gL m=0 by(unfold gL;refine if_pos ⟨⟨?_,?_,?_⟩,⟨?_,?_,?_⟩,⟨?_,?_,?_⟩,⟨?_,?_,?_⟩⟩<;>(intros;first|assumption|rfl|(exfalso;omega)))];rfl)
    | (rw[show gL m=14 by(unfold gL;refine if_neg ?_;rintro ⟨⟨a0,b0,c0⟩,⟨a1,b1,c1⟩,⟨a2,b2,c2⟩,⟨a3,b3,c3⟩⟩;first|exact absurd (g0.symm.trans a0) (by decide)|exact absurd (g1.symm.trans a1) (by decide)|exact absurd (g2.symm.trans a2) (by decide)|exact absurd (g3.symm.trans a3) (by decide)|exact d1 (b1 (by omega))|exact d2 (b2 (by omega))|exact d3 (b3 (by omega))|exact e0 (c0 (by omega) (by omega))|exact e1 (c1 (by omega) (by omega))|exact e2 (c2 (by omega) (by omega))|exact e3 (c3 (by omega) (by omega)))];rfl)
theorem Ni{m:Mb}(hm:iK m){HS:aj}(hb:Nat.blt HS.length Mem.bound=true):aG.Sound Tryz.prog ⟨50,[.agg (mC m)],HS,.one (.int .i64 (gL m)),HS,[]⟩:=
 aA (Kz m hm) (by simp only[List.all_cons,List.all_nil,Bool.and_true];exact kO m) rfl hb
end Go.Proofs.YtagpkhindehcbaaGreat
