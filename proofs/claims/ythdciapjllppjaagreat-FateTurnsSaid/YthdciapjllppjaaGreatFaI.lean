/-
  A part of the proof: PrTab, PrAt, PrExp0.
-/
import Derived.Test.YthdciapjllppjaaGreatFaH
set_option maxRecDepth 10000
set_option maxHeartbeats 8000000
set_option linter.unusedVariables false
set_option linter.unusedSectionVars false
set_option linter.unusedSimpArgs false
open Go.Proofs.Tryz (prog)
namespace Go.Proofs.YthdciapjllppjaaGreat
open Go.Xm
variable [av]
abbrev nW:=List (Int×Kn)
def Pb(z:Int):X1 := .one (.int .i64 z)
def CC(b:Kn):X1 := .agg (dt b)
theorem tJ:ql prog 3 Pb:=Jf
def PB:Kn:=⟨fun _=>0,0⟩
theorem QS:kS prog 242=some (CC PB):=by kernel_rfl
abbrev aq(M:nW):List (X1×X1):=gS Pb CC M
theorem iu(M:nW)(τ : Nat->Nat):(aq M).map (fun p=>(p.1.aC τ,p.2.aC τ))=aq M:=by
 unfold aq gS;rw[List.map_map];refine List.map_congr_left fun p _=>?_
 simp only[Function.comp,X1.dO (x:=CC p.2) (a_ p.2) τ];rfl
theorem yH(M:nW)(n:Nat):∀p∈aq M,p.1.ok n/\p.2.ok n:=by
 intro p hp;obtain⟨q,_,rfl⟩:=List.mem_map.1 hp;exact⟨trivial,X1.bj (x:=CC q.2) (a_ q.2) n⟩
abbrev Br(cols rows:Int):List XC:=[.int .i64 cols,.int .i64 rows,.map 1,.map 2,.map 3]
abbrev bL(cols rows:Int)(A B C:nW):ah:=[.cells (Br cols rows) 220 false false,.map (aq A),.map (aq B),.map (aq C)]
theorem dj(cols rows:Int)(A B C:nW):∀o∈bL cols rows A B C,o.bt 4:=by
 intro o ho;simp only[bL,List.mem_cons,List.not_mem_nil,or_false]at ho
 rcases ho with rfl|rfl|rfl|rfl
 ·simp[aj.bt,XC.ok,Br]
 ·exact yH A 4
 ·exact yH B 4
 ·exact yH C 4
theorem Hg(cols rows:Int)(A B C:nW):∀o∈bL cols rows A B C,o.live=true:=by
 intro o ho;simp only[bL,List.mem_cons,List.not_mem_nil,or_false]at ho
 rcases ho with rfl|rfl|rfl|rfl<;>rfl
theorem x4{HS:ah}{cols rows:Int}{A B C:nW}(a b c d:Nat)(hd : [a,b,c,d].Nodup)(ha:HS[a]? = some (.cells [.int .i64 cols,.int .i64 rows,.map b,.map c,.map d] 220 false false))(hb:HS[b]? = some (.map (aq A)))(hc:HS[c]? = some (.map (aq B)))(hdd:HS[d]? = some (.map (aq C))) :
 View (nth [a,b,c,d]) HS (bL cols rows A B C):=by
 refine OD [a,b,c,d] rfl hd (dj _ _ _ _ _) fun j o hj=>?_
 match j,hj with
 | 0,hj=>cases hj;exact ha
 | 1,hj=>cases hj;simp only[aj.aC,iu];exact hb
 | 2,hj=>cases hj;simp only[aj.aC,iu];exact hc
 | 3,hj=>cases hj;simp only[aj.aC,iu];exact hdd
 | j+4,hj=>simp[bL]at hj
def bO(A B C:nW)(p:Int):nW:=if p=0 then A else if p=1 then B else C
def sm(cols mb k:Int):XV := .tup [.one (.int .i64 (placeOf cols mb k).1),.one (.int .i64 (if k<4 then 2*cols else cols)),.one (.int .i64 (placeOf cols mb k).2.1),.one (.int .i64 (placeOf cols mb k).2.2)]
theorem xN(cols mb k:Int)(n:Nat):(sm cols mb k).bt n:=by
 simp[sm,XV.bt,X1.ok,XC.ok]
theorem Gy(cols rows mb k:Int)(A B C:nW)(hc:1<=cols/\cols<=8)(hm:0<=mb/\mb<1000000)(hk:0<=k/\k<1000) :
 bm prog 140 [.one (.ptr 0 0),.one (.int .i64 mb),.one (.int .i64 k)] (bL cols rows A B C) (sm cols mb k) (bL cols rows A B C):=by
 have hb:=A7 (rows:=0) hc hm hk;refine cO Tryz.func140 ?_
 repeat' (first|refine zz ?_|refine zx (fun _=>?_) (fun _=>?_)|fail)
 ·show aE _ _ _ _ _ _ _ _;refine bT (junk:=[]) (.inr rfl) (fun m hm=>rfl) ?_ (xN _ _ _ _) rfl (dj _ _ _ _ _);simp only[sm,placeOf,if_pos (show k<4 from ‹_›)]
 ·show aE _ _ _ _ _ _ _ _;refine bT (junk:=[]) (.inr rfl) (fun m hm=>rfl) ?_ (xN _ _ _ _) rfl (dj _ _ _ _ _);simp only[sm,placeOf,if_neg (show¬k<4 from ‹_›)]
def gM(cols rows mb k:Int):Bool:=decide (0<=mb/\mb<cols*rows/\0<=k/\k<6)
theorem fh(cols rows mb k:Int)(A B C:nW)(hcr:0<=cols*rows/\cols*rows<=64) :
 bm prog 138 [.one (.ptr 0 0),.one (.int .i64 mb),.one (.int .i64 k)] (bL cols rows A B C) (.one (.bool (gM cols rows mb k))) (bL cols rows A B C):=by
 refine cO Tryz.func138 ?_
 repeat' (first|refine zz ?_|refine zx (fun _=>?_) (fun _=>?_)|fail)
 all_goals
  show aE _ _ _ _ _ _ _ _;refine kM ?_ (dj _ _ _ _ _);unfold gM
  first
   | rw[decide_eq_true (by omega)];rfl
   | rw[decide_eq_false (by omega)];rfl
def cn(T:nW)(wide x y:Int):Option Kn:=if x<0\/y<0\/wide<=x then none else dz T (y*wide+x)
def found(o:Option Kn):XV := .tup [CC (o.getD PB),.one (.bool o.isSome)]
theorem An(o:Option Kn)(n:Nat):(found o).bt n:=by
 intro x hx;simp only[List.mem_cons,List.not_mem_nil,or_false]at hx
 rcases hx with rfl|rfl
 ·exact X1.bj (x:=CC _) (a_ _) n
 ·trivial
theorem Ia(cols rows p wide x y:Int)(A B C:nW)(hp:p=0\/p=1\/p=2)(hyw : -10000<=y*wide/\y*wide<=10000)(hx : -10000<=x/\x<=10000) :
 bm prog 141 [.one (.ptr 0 0),.one (.int .i64 p),.one (.int .i64 wide),.one (.int .i64 x),.one (.int .i64 y)] (bL cols rows A B C) (found (cn (bO A B C p) wide x y)) (bL cols rows A B C):=by
 unfold cn
 by_cases hin:x<0\/y<0\/wide<=x
 ·rw[if_pos hin];refine cO Tryz.func141 ?_
  repeat' (first|refine zz ?_|refine zx (fun _=>?_) (fun _=>?_)|fail)
  all_goals
   show aE _ _ _ _ _ _ _ _;refine bT (junk:=_) (.inr rfl) (gq.two rfl (.cell rfl rfl (cC rfl) (.tmp rfl .nil))) ?_ (An _ _) rfl (dj _ _ _ _ _);rfl
 ·rw [if_neg hin]
  rcases hp with rfl|rfl|rfl
  all_goals
   refine cO Tryz.func141 ?_
   repeat' (first
    |(refine qz ?_;first
     |refine E1 rfl rfl rfl rfl tJ QS rfl rfl rfl ?_)
    |refine zz ?_|refine zx (fun _=>?_) (fun _=>?_)|fail)
   show aE _ _ _ _ _ _ _ _;refine bT (junk:=_) (.inr rfl) (gq.two rfl (.cell rfl rfl (cC rfl) (.tmp rfl .nil))) ?_ (An _ _) rfl (dj _ _ _ _ _);rfl
theorem aD{f:FuncId}{args:List XV}{v:XV}{cols rows:Int}{A B C:nW}{HS:ah}(hc:bm prog f (.one (.ptr 0 0)::args) (bL cols rows A B C) v (bL cols rows A B C))(a b c d:Nat)(hd : [a,b,c,d].Nodup)(ha:HS[a]? = some (.cells [.int .i64 cols,.int .i64 rows,.map b,.map c,.map d] 220 false false))(hb:HS[b]? = some (.map (aq A)))(hcc:HS[c]? = some (.map (aq B)))(hdd:HS[d]? = some (.map (aq C)))
 (hs:args.all XV.shut=true) (hv:v.shut=true) (hbd:Nat.blt HS.length Mem.bound=true):aA.Sound prog ⟨f,.one (.ptr a 0)::args,HS,v,HS,[]⟩:=by
 have hs':∀x∈args,x.shut=true:=List.all_eq_true.1 hs;refine F_ hc (x4 a b c d hd ha hb hcc hdd) (Hg _ _ _ _ _) (fun x hx=>?_) ?_ (XV.kr hv _) (XV.dO hv _) hbd rfl
 ·rcases List.mem_cons.1 hx with rfl|hx
  ·show 0<4;omega
  ·exact XV.kr (hs' x hx) _
 ·show XV.aC _ _::args.map _=_;rw[lG hs'];rfl
def iV(b:Kn):Int:=f9 (b.lv 0) b.qp
theorem fz(b:Kn):0<=iV b/\iV b<=121920:=pv _ _
def kh(la lb lc:Option Kn)(q:Int):Int×Int:=
 match la,lb with
 | some a,some b=>
   let m:=match lc with
    | some c=>iV c
    | none=>8192
   if max (iV a-m) (m-iV a)<max (m-iV b) (iV b-m)then(2,dc (iV b) q)else(1,dc (iV a) q)
 | some a,none=>(1,dc (iV a) q)
 | none,some b=>(2,dc (iV b) q)
 | none,none=>(0,dc 8192 q)
def jO(e:Int×Int):XV := .tup [.one (.int .u8 e.1),.one (.int .i64 e.2)]
theorem k_(e:Int×Int)(n:Nat):(jO e).bt n:=by simp[jO,XV.bt,X1.ok,XC.ok]
theorem eH{cols rows p wide x y:Int}{A B C:nW}{b:Kn}(h:cn (bO A B C p) wide x y=some b)(hp:p=0\/p=1\/p=2)(hyw : -10000<=y*wide/\y*wide<=10000)(hx : -10000<=x/\x<=10000) :
 bm prog 141 [.one (.ptr 0 0),.one (.int .i64 p),.one (.int .i64 wide),.one (.int .i64 x),.one (.int .i64 y)] (bL cols rows A B C) (.tup [.agg (dt b),.one (.bool true)]) (bL cols rows A B C):=by
 have:=Ia cols rows p wide x y A B C hp hyw hx;rw[h]at this;exact this
theorem gK{cols rows p wide x y:Int}{A B C:nW}(h:cn (bO A B C p) wide x y=none)(hp:p=0\/p=1\/p=2)(hyw : -10000<=y*wide/\y*wide<=10000)(hx : -10000<=x/\x<=10000) :
 bm prog 141 [.one (.ptr 0 0),.one (.int .i64 p),.one (.int .i64 wide),.one (.int .i64 x),.one (.int .i64 y)] (bL cols rows A B C) (.tup [.agg (dt PB),.one (.bool false)]) (bL cols rows A B C):=by
 have:=Ia cols rows p wide x y A B C hp hyw hx;rw[h]at this;exact this
theorem Pf{a b:Kn}(h:dt a=dt b):(∀i,i<64->a.lv i=b.lv i)/\a.qp=b.qp:=by
 refine⟨fun i hi=>?_,?_⟩
 ·have e:=Aw a i hi;rw[h,Aw b i hi]at e;simpa using e.symm
 ·have e:=uI a;rw[h,uI b]at e;simpa using e.symm
theorem bI{a b:Kn}{h h' g g':ah}(e:h=g->h'=g'):Compat ⟨142,[.agg (dt a)],h,.one (.int .i64 (f9 (a.lv 0) a.qp)),h',[]⟩ ⟨142,[.agg (dt b)],g,.one (.int .i64 (f9 (b.lv 0) b.qp)),g',[]⟩:=by
 intro _ h2 h3;simp only[List.cons.injEq,XV.agg.injEq,and_true]at h2;have:=Pf h2;exact⟨by show XV.one _=XV.one _;rw[this.1 0 (by omega),this.2],e h3,rfl⟩
theorem bV{a b c d:Int}{h h' g g':ah}(e:h=g->h'=g'):Compat ⟨143,[.one (.int .i64 a),.one (.int .i64 b)],h,.one (.int .i64 (max (a-b) (b-a))),h',[]⟩ ⟨143,[.one (.int .i64 c),.one (.int .i64 d)],g,.one (.int .i64 (max (c-d) (d-c))),g',[]⟩:=by
 intro _ h2 h3;simp only[List.cons.injEq,XV.one.injEq,XC.int.injEq,true_and,and_true]at h2;obtain⟨rfl,rfl⟩:=h2;exact⟨rfl,e h3,rfl⟩
end Go.Proofs.YthdciapjllppjaaGreat
