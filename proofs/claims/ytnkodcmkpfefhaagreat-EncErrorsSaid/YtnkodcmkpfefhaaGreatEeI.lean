/-
  A part of the proof: PrAt, PrExp0.
-/
import Derived.Test.YtnkodcmkpfefhaaGreatEeH
set_option maxRecDepth 10000
set_option maxHeartbeats 8000000
set_option linter.unusedVariables false
set_option linter.unusedSectionVars false
set_option linter.unusedSimpArgs false
namespace Go.Proofs.YtnkodcmkpfefhaaGreat
open Go.Xm
variable [aw]
def b8(T:mS)(wide x y:Int):Option Kn:=if x<0\/y<0\/wide<=x then none else eF T (y*wide+x)
def found(o:Option Kn):XV := .tup [yC (o.getD Js),.one (.bool o.isSome)]
theorem we(o:Option Kn)(n:Nat):(found o).bl n:=by
 intro x hx
 simp only[List.mem_cons,List.not_mem_nil,or_false]at hx
 rcases hx with rfl|rfl
 ·exact X1.bm (x:=yC _) (aY _) n
 ·trivial
theorem Dv(cols rows p wide x y:Int)(A B C:mS)(hp:p=0\/p=1\/p=2)(hyw : -10000<=y*wide/\y*wide<=10000)(hx : -10000<=x/\x<=10000) :
 aW Tryz.prog 129 [.one (.ptr 0 0),.one (.int .i64 p),.one (.int .i64 wide),.one (.int .i64 x),.one (.int .i64 y)] (bt cols rows A B C) (found (b8 (bE A B C p) wide x y)) (bt cols rows A B C):=by
 unfold b8
 by_cases hin:x<0\/y<0\/wide<=x
 ·rw[if_pos hin]
  refine cO Tryz.func129 ?_
  repeat' (first|refine zz ?_|refine zx (fun _=>?_) (fun _=>?_)|fail)
  all_goals
   show aD _ _ _ _ _ _ _ _
   refine bD (junk:=_) (.inr rfl) (ez.two rfl (.cell rfl rfl (bq rfl) (.tmp rfl .nil))) ?_ (we _ _) rfl (cL _ _ _ _ _)
   rfl
 ·rw [if_neg hin]
  rcases hp with rfl|rfl|rfl
  all_goals
   refine cO Tryz.func129 ?_
   repeat' (first
    |(refine qz ?_;first
     |refine AE rfl rfl rfl rfl qC Kv rfl rfl rfl ?_)
    |refine zz ?_|refine zx (fun _=>?_) (fun _=>?_)|fail)
   show aD _ _ _ _ _ _ _ _
   refine bD (junk:=_) (.inr rfl) (ez.two rfl (.cell rfl rfl (bq rfl) (.tmp rfl .nil))) ?_ (we _ _) rfl (cL _ _ _ _ _)
   rfl
theorem aF{f:FuncId}{args:List XV}{v:XV}{cols rows:Int}{A B C:mS}{HS:ai}(hc:aW Tryz.prog f (.one (.ptr 0 0)::args) (bt cols rows A B C) v (bt cols rows A B C))(a b c d:Nat)(hd : [a,b,c,d].Nodup)(ha:HS[a]? = some (.cells [.int .i64 cols,.int .i64 rows,.map b,.map c,.map d] 142 false false))(hb:HS[b]? = some (.map (aj A)))(hcc:HS[c]? = some (.map (aj B)))(hdd:HS[d]? = some (.map (aj C)))
 (hs:args.all XV.shut=true) (hv:v.shut=true) (hbd:Nat.blt HS.length Mem.bound=true):aC.Sound Tryz.prog ⟨f,.one (.ptr a 0)::args,HS,v,HS,[]⟩:=by
 have hs':∀x∈args,x.shut=true:=List.all_eq_true.1 hs
 refine BK hc (tM a b c d hd ha hb hcc hdd) (CL _ _ _ _ _) (fun x hx=>?_) ?_ (XV.dS hv _) (XV.cV hv _) hbd rfl
 ·rcases List.mem_cons.1 hx with rfl|hx
  ·show 0<4;omega
  ·exact XV.dS (hs' x hx) _
 ·show XV.ax _ _::args.map _=_
  rw[jT hs']
  rfl
def gU(b:Kn):Int:=fg (b.lv 0) b.qp
theorem ee(b:Kn):0<=gU b/\gU b<=121920:=mZ _ _
def jb(la lb lc:Option Kn)(q:Int):Int×Int:=
 match la,lb with
 | some a,some b=>
   let m:=match lc with
    | some c=>gU c
    | none=>8192
   if max (gU a-m) (m-gU a)<max (m-gU b) (gU b-m)then(2,cG (gU b) q)else(1,cG (gU a) q)
 | some a,none=>(1,cG (gU a) q)
 | none,some b=>(2,cG (gU b) q)
 | none,none=>(0,cG 8192 q)
def iU(e:Int×Int):XV := .tup [.one (.int .u8 e.1),.one (.int .i64 e.2)]
theorem jE(e:Int×Int)(n:Nat):(iU e).bl n:=by simp[iU,XV.bl,X1.ok,XC.ok]
theorem dM{cols rows p wide x y:Int}{A B C:mS}{b:Kn}(h:b8 (bE A B C p) wide x y=some b)(hp:p=0\/p=1\/p=2)(hyw : -10000<=y*wide/\y*wide<=10000)(hx : -10000<=x/\x<=10000) :
 aW Tryz.prog 129 [.one (.ptr 0 0),.one (.int .i64 p),.one (.int .i64 wide),.one (.int .i64 x),.one (.int .i64 y)] (bt cols rows A B C) (.tup [.agg (cU b),.one (.bool true)]) (bt cols rows A B C):=by
 have:=Dv cols rows p wide x y A B C hp hyw hx
 rw[h]at this
 exact this
theorem fN{cols rows p wide x y:Int}{A B C:mS}(h:b8 (bE A B C p) wide x y=none)(hp:p=0\/p=1\/p=2)(hyw : -10000<=y*wide/\y*wide<=10000)(hx : -10000<=x/\x<=10000) :
 aW Tryz.prog 129 [.one (.ptr 0 0),.one (.int .i64 p),.one (.int .i64 wide),.one (.int .i64 x),.one (.int .i64 y)] (bt cols rows A B C) (.tup [.agg (cU Js),.one (.bool false)]) (bt cols rows A B C):=by
 have:=Dv cols rows p wide x y A B C hp hyw hx
 rw[h]at this
 exact this
theorem Jj{a b:Kn}(h:cU a=cU b):(∀i,i<64->a.lv i=b.lv i)/\a.qp=b.qp:=by
 refine⟨fun i hi=>?_,?_⟩
 ·have e:=wm a i hi
  rw[h,wm b i hi]at e
  simpa using e.symm
 ·have e:=rB a
  rw[h,rB b]at e
  simpa using e.symm
theorem bp{a b:Kn}{h h' g g':ai}(e:h=g->h'=g'):Compat ⟨152,[.agg (cU a)],h,.one (.int .i64 (fg (a.lv 0) a.qp)),h',[]⟩ ⟨152,[.agg (cU b)],g,.one (.int .i64 (fg (b.lv 0) b.qp)),g',[]⟩:=by
 intro _ h2 h3
 simp only[List.cons.injEq,XV.agg.injEq,and_true]at h2
 have:=Jj h2
 exact⟨by show XV.one _=XV.one _;rw[this.1 0 (by omega),this.2],e h3,rfl⟩
theorem bM{a b c d:Int}{h h' g g':ai}(e:h=g->h'=g'):Compat ⟨153,[.one (.int .i64 a),.one (.int .i64 b)],h,.one (.int .i64 (max (a-b) (b-a))),h',[]⟩ ⟨153,[.one (.int .i64 c),.one (.int .i64 d)],g,.one (.int .i64 (max (c-d) (d-c))),g',[]⟩:=by
 intro _ h2 h3
 simp only[List.cons.injEq,XV.one.injEq,XC.int.injEq,true_and,and_true]at h2
 obtain⟨rfl,rfl⟩:=h2
 exact⟨rfl,e h3,rfl⟩
end Go.Proofs.YtnkodcmkpfefhaaGreat
