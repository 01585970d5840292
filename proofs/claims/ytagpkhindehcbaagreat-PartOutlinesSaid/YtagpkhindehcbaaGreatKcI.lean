/-
  A part of the proof: PrTab, PrAt, PrExp0.
-/
import Derived.Test.YtagpkhindehcbaaGreatKcH
set_option maxRecDepth 10000
set_option maxHeartbeats 8000000
set_option linter.unusedVariables false
set_option linter.unusedSectionVars false
set_option linter.unusedSimpArgs false
namespace Go.Proofs.YtagpkhindehcbaaGreat
open Go.Xm
variable [az]
abbrev nr:=List (Int × Kn)
def Lo (z:Int):X1 := .one (.int .i64 z)
def AK (b:Kn):X1 := .agg (dB b)
theorem sw:sP Tryz.prog 3 Lo:=Ls
def Lz:Kn:=⟨fun _=>0,0⟩
theorem MC:oq Tryz.prog 156=some (AK Lz):=by kernel_rfl
abbrev ah (M:nr):List (X1 × X1):=kj Lo AK M
theorem iO (M:nr) (τ : Nat→Nat):(ah M).map (fun p=>(p.1.au τ,p.2.au τ))=ah M:=by
 unfold ah kj
 rw [List.map_map]
 refine List.map_congr_left fun p _=>?_
 simp only [Function.comp,X1.dZ (x:=AK p.2) (bq p.2) τ]
 rfl
theorem wJ (M:nr) (n:Nat):∀ p∈ah M,p.1.ok n∧p.2.ok n:=by
 intro p hp
 obtain⟨q,_,rfl⟩:=List.mem_map.1 hp
 exact⟨trivial,X1.bV (x:=AK q.2) (bq q.2) n⟩
abbrev zn (cols rows:Int):List XC:=[.int .i64 cols,.int .i64 rows,.map 1,.map 2,.map 3]
abbrev bW (cols rows:Int) (A B C:nr):ak:=[.cells (zn cols rows) 171 false false,.map (ah A),.map (ah B),.map (ah C)]
theorem dz (cols rows:Int) (A B C:nr):∀ o∈bW cols rows A B C,o.cc 4:=by
 intro o ho
 simp only [bW,List.mem_cons,List.not_mem_nil,or_false]at ho
 rcases ho with rfl|rfl|rfl|rfl
 · simp [aj.cc,XC.ok,zn]
 · exact wJ A 4
 · exact wJ B 4
 · exact wJ C 4
theorem Ec (cols rows:Int) (A B C:nr):∀ o∈bW cols rows A B C,o.live=true:=by
 intro o ho
 simp only [bW,List.mem_cons,List.not_mem_nil,or_false]at ho
 rcases ho with rfl|rfl|rfl|rfl <;> rfl
theorem vR {HS:ak} {cols rows:Int} {A B C:nr}(a b c d:Nat) (hd : [a,b,c,d].Nodup) (ha:HS[a]? = some (.cells [.int .i64 cols,.int .i64 rows,.map b,.map c,.map d] 171 false false)) (hb:HS[b]? = some (.map (ah A))) (hc:HS[c]? = some (.map (ah B))) (hdd:HS[d]? = some (.map (ah C))) :
 View (nth [a,b,c,d]) HS (bW cols rows A B C):=by
 refine KV [a,b,c,d] rfl hd (dz _ _ _ _ _) fun j o hj=>?_
 match j,hj with
 | 0,hj=>cases hj;exact ha
 | 1,hj=>cases hj;simp only [aj.au,iO];exact hb
 | 2,hj=>cases hj;simp only [aj.au,iO];exact hc
 | 3,hj=>cases hj;simp only [aj.au,iO];exact hdd
 | j+4,hj=>simp [bW]at hj
def bU (A B C:nr) (p:Int):nr:=if p=0 then A else if p=1 then B else C
def rb (cols mb k:Int):XV := .tup [.one (.int .i64 (placeOf cols mb k).1),.one (.int .i64 (if k<4 then 2*cols else cols)),.one (.int .i64 (placeOf cols mb k).2.1),.one (.int .i64 (placeOf cols mb k).2.2)]
theorem vB (cols mb k:Int) (n:Nat):(rb cols mb k).cc n:=by
 simp [rb,XV.cc,X1.ok,XC.ok]
theorem DJ (cols rows mb k:Int) (A B C:nr) (hc:1≤cols∧cols≤8) (hm:0≤mb∧mb<1000000) (hk:0≤k∧k<1000) :
 bt Tryz.prog 100 [.one (.ptr 0 0),.one (.int .i64 mb),.one (.int .i64 k)] (bW cols rows A B C) (rb cols mb k) (bW cols rows A B C):=by
 have hb:=yZ (rows:=0) hc hm hk
 refine cO Tryz.func100 ?_
 repeat' (first|refine zz ?_|refine zx (fun _=>?_) (fun _=>?_)|fail)
 · show aH _ _ _ _ _ _ _ _;refine b6 (junk:=[]) (.inr rfl) (fun m hm=>rfl) ?_ (vB _ _ _ _) rfl (dz _ _ _ _ _)
   simp only [rb,placeOf,if_pos (show k<4 from ‹_›)]
 · show aH _ _ _ _ _ _ _ _;refine b6 (junk:=[]) (.inr rfl) (fun m hm=>rfl) ?_ (vB _ _ _ _) rfl (dz _ _ _ _ _)
   simp only [rb,placeOf,if_neg (show¬k<4 from ‹_›)]
def hU (cols rows mb k:Int):Bool:=decide (0≤mb∧mb<cols*rows∧0≤k∧k<6)
theorem fi (cols rows mb k:Int) (A B C:nr) (hcr:0≤cols*rows∧cols*rows≤64) :
 bt Tryz.prog 98 [.one (.ptr 0 0),.one (.int .i64 mb),.one (.int .i64 k)] (bW cols rows A B C) (.one (.bool (hU cols rows mb k))) (bW cols rows A B C):=by
 refine cO Tryz.func98 ?_
 repeat' (first|refine zz ?_|refine zx (fun _=>?_) (fun _=>?_)|fail)
 all_goals
  show aH _ _ _ _ _ _ _ _;refine kM ?_ (dz _ _ _ _ _)
  unfold hU
  first
   | rw [decide_eq_true (by omega)];rfl
   | rw [decide_eq_false (by omega)];rfl
end Go.Proofs.YtagpkhindehcbaaGreat
namespace Go.Proofs.YtagpkhindehcbaaGreat
open Go.Xm
variable [az]
def cu (T:nr) (wide x y:Int):Option Kn:=if x<0∨y<0∨wide≤x then none else cp T (y*wide+x)
def found (o:Option Kn):XV := .tup [AK (o.getD Lz),.one (.bool o.isSome)]
theorem yx (o:Option Kn) (n:Nat):(found o).cc n:=by
 intro x hx
 simp only [List.mem_cons,List.not_mem_nil,or_false]at hx
 rcases hx with rfl|rfl
 · exact X1.bV (x:=AK _) (bq _) n
 · trivial
theorem Fa (cols rows p wide x y:Int) (A B C:nr) (hp:p=0∨p=1∨p=2) (hyw : -10000≤y*wide∧y*wide≤10000) (hx : -10000≤x∧x≤10000) :
 bt Tryz.prog 101 [.one (.ptr 0 0),.one (.int .i64 p),.one (.int .i64 wide),.one (.int .i64 x),.one (.int .i64 y)] (bW cols rows A B C) (found (cu (bU A B C p) wide x y)) (bW cols rows A B C):=by
 unfold cu
 by_cases hin:x<0∨y<0∨wide≤x
 · rw [if_pos hin]
   refine cO Tryz.func101 ?_
   repeat' (first|refine zz ?_|refine zx (fun _=>?_) (fun _=>?_)|fail)
   all_goals
    show aH _ _ _ _ _ _ _ _
    refine b6 (junk:=_) (.inr rfl) (gL.two rfl (.cell rfl rfl (cf rfl) (.tmp rfl .nil))) ?_ (yx _ _) rfl (dz _ _ _ _ _)
    rfl
 · rw [if_neg hin]
   rcases hp with rfl|rfl|rfl
   all_goals
    refine cO Tryz.func101 ?_
    repeat' (first
     |(refine qz ?_;first
      |refine Cx rfl rfl rfl rfl sw MC rfl rfl rfl ?_)
     |refine zz ?_|refine zx (fun _=>?_) (fun _=>?_)|fail)
    show aH _ _ _ _ _ _ _ _
    refine b6 (junk:=_) (.inr rfl) (gL.two rfl (.cell rfl rfl (cf rfl) (.tmp rfl .nil))) ?_ (yx _ _) rfl (dz _ _ _ _ _)
    rfl
theorem aK {f:FuncId} {args:List XV} {v:XV} {cols rows:Int} {A B C:nr} {HS:ak}(hc:bt Tryz.prog f (.one (.ptr 0 0)::args) (bW cols rows A B C) v (bW cols rows A B C)) (a b c d:Nat) (hd : [a,b,c,d].Nodup) (ha:HS[a]? = some (.cells [.int .i64 cols,.int .i64 rows,.map b,.map c,.map d] 171 false false)) (hb:HS[b]? = some (.map (ah A))) (hcc:HS[c]? = some (.map (ah B))) (hdd:HS[d]? = some (.map (ah C)))
 (hs:args.all XV.shut=true) (hv:v.shut=true) (hbd:Nat.blt HS.length Mem.bound=true):aI.Sound Tryz.prog ⟨f,.one (.ptr a 0)::args,HS,v,HS,[]⟩:=by
 have hs':∀ x∈args,x.shut=true:=List.all_eq_true.1 hs
 refine Dw hc (vR a b c d hd ha hb hcc hdd) (Ec _ _ _ _ _) (fun x hx=>?_) ?_ (XV.gX hv _) (XV.dZ hv _) hbd rfl
 · rcases List.mem_cons.1 hx with rfl|hx
   · show 0<4;omega
   · exact XV.gX (hs' x hx) _
 · show XV.au _ _::args.map _=_
   rw [lB hs']
   rfl
end Go.Proofs.YtagpkhindehcbaaGreat
namespace Go.Proofs.YtagpkhindehcbaaGreat
open Go.Xm
variable [az]
def gV (b:Kn):Int:=gy (b.lv 0) b.qp
theorem fC (b:Kn):0≤gV b∧gV b≤121920:=o6 _ _
def jE (la lb lc:Option Kn) (q:Int):Int × Int:=
 match la,lb with
 | some a,some b=>
   let m:=match lc with
    | some c=>gV c
    | none=>8192
   if max (gV a-m) (m-gV a)<max (m-gV b) (gV b-m)then(2,dq (gV b) q)else(1,dq (gV a) q)
 | some a,none=>(1,dq (gV a) q)
 | none,some b=>(2,dq (gV b) q)
 | none,none=>(0,dq 8192 q)
def jW (e:Int × Int):XV := .tup [.one (.int .u8 e.1),.one (.int .i64 e.2)]
theorem lf (e:Int × Int) (n:Nat):(jW e).cc n:=by simp [jW,XV.cc,X1.ok,XC.ok]
theorem eQ {cols rows p wide x y:Int} {A B C:nr} {b:Kn}(h:cu (bU A B C p) wide x y=some b) (hp:p=0∨p=1∨p=2) (hyw : -10000≤y*wide∧y*wide≤10000) (hx : -10000≤x∧x≤10000) :
 bt Tryz.prog 101 [.one (.ptr 0 0),.one (.int .i64 p),.one (.int .i64 wide),.one (.int .i64 x),.one (.int .i64 y)] (bW cols rows A B C) (.tup [.agg (dB b),.one (.bool true)]) (bW cols rows A B C):=by
 have:=Fa cols rows p wide x y A B C hp hyw hx
 rw [h]at this
 exact this
theorem hJ {cols rows p wide x y:Int} {A B C:nr}(h:cu (bU A B C p) wide x y=none) (hp:p=0∨p=1∨p=2) (hyw : -10000≤y*wide∧y*wide≤10000) (hx : -10000≤x∧x≤10000) :
 bt Tryz.prog 101 [.one (.ptr 0 0),.one (.int .i64 p),.one (.int .i64 wide),.one (.int .i64 x),.one (.int .i64 y)] (bW cols rows A B C) (.tup [.agg (dB Lz),.one (.bool false)]) (bW cols rows A B C):=by
 have:=Fa cols rows p wide x y A B C hp hyw hx
 rw [h]at this
 exact this
theorem Lr {a b:Kn}(h:dB a=dB b):(∀ i,i<64→a.lv i=b.lv i)∧a.qp=b.qp:=by
 refine⟨fun i hi=>?_,?_⟩
 · have e:=yD a i hi
   rw [h,yD b i hi]at e
   simpa using e.symm
 · have e:=tm a
   rw [h,tm b]at e
   simpa using e.symm
theorem bT {a b:Kn} {h h' g g':ak}(e:h=g→h'=g'):Compat ⟨102,[.agg (dB a)],h,.one (.int .i64 (gy (a.lv 0) a.qp)),h',[]⟩ ⟨102,[.agg (dB b)],g,.one (.int .i64 (gy (b.lv 0) b.qp)),g',[]⟩:=by
 intro _ h2 h3
 simp only [List.cons.injEq,XV.agg.injEq,and_true]at h2
 have:=Lr h2
 exact⟨by show XV.one _=XV.one _;rw [this.1 0 (by omega),this.2],e h3,rfl⟩
theorem ca {a b c d:Int} {h h' g g':ak}(e:h=g→h'=g'):Compat ⟨103,[.one (.int .i64 a),.one (.int .i64 b)],h,.one (.int .i64 (max (a-b) (b-a))),h',[]⟩ ⟨103,[.one (.int .i64 c),.one (.int .i64 d)],g,.one (.int .i64 (max (c-d) (d-c))),g',[]⟩:=by
 intro _ h2 h3
 simp only [List.cons.injEq,XV.one.injEq,XC.int.injEq,true_and,and_true]at h2
 obtain⟨rfl,rfl⟩:=h2
 exact⟨rfl,e h3,rfl⟩
end Go.Proofs.YtagpkhindehcbaaGreat
