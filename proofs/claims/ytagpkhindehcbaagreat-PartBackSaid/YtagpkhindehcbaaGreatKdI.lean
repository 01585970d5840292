/-
  A part of the proof: PrTab, PrAt, PrExp0.
-/
import Derived.Test.YtagpkhindehcbaaGreatKdH
set_option maxRecDepth 10000
set_option maxHeartbeats 8000000
set_option linter.unusedVariables false
set_option linter.unusedSectionVars false
set_option linter.unusedSimpArgs false
namespace Go.Proofs.YtagpkhindehcbaaGreat
open Go.Xm
variable [az]
abbrev nF:=List (Int × Kn)
def Mx (z:Int):X1 := .one (.int .i64 z)
def Bi (b:Kn):X1 := .agg (dB b)
theorem sO:ta Tryz.prog 3 Mx:=MC
def ML:Kn:=⟨fun _=>0,0⟩
theorem NN:oF Tryz.prog 156=some (Bi ML):=by kernel_rfl
abbrev ah (M:nF):List (X1 × X1):=kj Mx Bi M
theorem iN (M:nF) (τ : Nat→Nat):(ah M).map (fun p=>(p.1.ay τ,p.2.ay τ))=ah M:=by
 unfold ah kj
 rw [List.map_map]
 refine List.map_congr_left fun p _=>?_
 simp only [Function.comp,X1.d8 (x:=Bi p.2) (bp p.2) τ]
 rfl
theorem xj (M:nF) (n:Nat):∀ p∈ah M,p.1.ok n∧p.2.ok n:=by
 intro p hp
 obtain⟨q,_,rfl⟩:=List.mem_map.1 hp
 exact⟨trivial,X1.bQ (x:=Bi q.2) (bp q.2) n⟩
abbrev zZ (cols rows:Int):List XC:=[.int .i64 cols,.int .i64 rows,.map 1,.map 2,.map 3]
abbrev bU (cols rows:Int) (A B C:nF):aj:=[.cells (zZ cols rows) 171 false false,.map (ah A),.map (ah B),.map (ah C)]
theorem dw (cols rows:Int) (A B C:nF):∀ o∈bU cols rows A B C,o.b7 4:=by
 intro o ho
 simp only [bU,List.mem_cons,List.not_mem_nil,or_false]at ho
 rcases ho with rfl|rfl|rfl|rfl
 · simp [ak.b7,XC.ok,zZ]
 · exact xj A 4
 · exact xj B 4
 · exact xj C 4
theorem E6 (cols rows:Int) (A B C:nF):∀ o∈bU cols rows A B C,o.live=true:=by
 intro o ho
 simp only [bU,List.mem_cons,List.not_mem_nil,or_false]at ho
 rcases ho with rfl|rfl|rfl|rfl <;> rfl
theorem wu {HS:aj} {cols rows:Int} {A B C:nF}(a b c d:Nat) (hd : [a,b,c,d].Nodup) (ha:HS[a]? = some (.cells [.int .i64 cols,.int .i64 rows,.map b,.map c,.map d] 171 false false)) (hb:HS[b]? = some (.map (ah A))) (hc:HS[c]? = some (.map (ah B))) (hdd:HS[d]? = some (.map (ah C))) :
 View (nth [a,b,c,d]) HS (bU cols rows A B C):=by
 refine LX [a,b,c,d] rfl hd (dw _ _ _ _ _) fun j o hj=>?_
 match j,hj with
 | 0,hj=>cases hj;exact ha
 | 1,hj=>cases hj;simp only [ak.ay,iN];exact hb
 | 2,hj=>cases hj;simp only [ak.ay,iN];exact hc
 | 3,hj=>cases hj;simp only [ak.ay,iN];exact hdd
 | j+4,hj=>simp [bU]at hj
def bP (A B C:nF) (p:Int):nF:=if p=0 then A else if p=1 then B else C
def rL (cols mb k:Int):XV := .tup [.one (.int .i64 (placeOf cols mb k).1),.one (.int .i64 (if k<4 then 2*cols else cols)),.one (.int .i64 (placeOf cols mb k).2.1),.one (.int .i64 (placeOf cols mb k).2.2)]
theorem v8 (cols mb k:Int) (n:Nat):(rL cols mb k).b7 n:=by
 simp [rL,XV.b7,X1.ok,XC.ok]
theorem EA (cols rows mb k:Int) (A B C:nF) (hc:1≤cols∧cols≤8) (hm:0≤mb∧mb<1000000) (hk:0≤k∧k<1000) :
 bn Tryz.prog 100 [.one (.ptr 0 0),.one (.int .i64 mb),.one (.int .i64 k)] (bU cols rows A B C) (rL cols mb k) (bU cols rows A B C):=by
 have hb:=zD (rows:=0) hc hm hk
 refine cO Tryz.func100 ?_
 repeat' (first|refine zz ?_|refine zx (fun _=>?_) (fun _=>?_)|fail)
 · show aC _ _ _ _ _ _ _ _;refine b6 (junk:=[]) (.inr rfl) (fun m hm=>rfl) ?_ (v8 _ _ _ _) rfl (dw _ _ _ _ _)
   simp only [rL,placeOf,if_pos (show k<4 from ‹_›)]
 · show aC _ _ _ _ _ _ _ _;refine b6 (junk:=[]) (.inr rfl) (fun m hm=>rfl) ?_ (v8 _ _ _ _) rfl (dw _ _ _ _ _)
   simp only [rL,placeOf,if_neg (show¬k<4 from ‹_›)]
def hY (cols rows mb k:Int):Bool:=decide (0≤mb∧mb<cols*rows∧0≤k∧k<6)
theorem fv (cols rows mb k:Int) (A B C:nF) (hcr:0≤cols*rows∧cols*rows≤64) :
 bn Tryz.prog 98 [.one (.ptr 0 0),.one (.int .i64 mb),.one (.int .i64 k)] (bU cols rows A B C) (.one (.bool (hY cols rows mb k))) (bU cols rows A B C):=by
 refine cO Tryz.func98 ?_
 repeat' (first|refine zz ?_|refine zx (fun _=>?_) (fun _=>?_)|fail)
 all_goals
  show aC _ _ _ _ _ _ _ _;refine kM ?_ (dw _ _ _ _ _)
  unfold hY
  first
   | rw [decide_eq_true (by omega)];rfl
   | rw [decide_eq_false (by omega)];rfl
end Go.Proofs.YtagpkhindehcbaaGreat
namespace Go.Proofs.YtagpkhindehcbaaGreat
open Go.Xm
variable [az]
def cw (T:nF) (wide x y:Int):Option Kn:=if x<0∨y<0∨wide≤x then none else ct T (y*wide+x)
def found (o:Option Kn):XV := .tup [Bi (o.getD ML),.one (.bool o.isSome)]
theorem y7 (o:Option Kn) (n:Nat):(found o).b7 n:=by
 intro x hx
 simp only [List.mem_cons,List.not_mem_nil,or_false]at hx
 rcases hx with rfl|rfl
 · exact X1.bQ (x:=Bi _) (bp _) n
 · trivial
theorem F7 (cols rows p wide x y:Int) (A B C:nF) (hp:p=0∨p=1∨p=2) (hyw : -10000≤y*wide∧y*wide≤10000) (hx : -10000≤x∧x≤10000) :
 bn Tryz.prog 101 [.one (.ptr 0 0),.one (.int .i64 p),.one (.int .i64 wide),.one (.int .i64 x),.one (.int .i64 y)] (bU cols rows A B C) (found (cw (bP A B C p) wide x y)) (bU cols rows A B C):=by
 unfold cw
 by_cases hin:x<0∨y<0∨wide≤x
 · rw [if_pos hin]
   refine cO Tryz.func101 ?_
   repeat' (first|refine zz ?_|refine zx (fun _=>?_) (fun _=>?_)|fail)
   all_goals
    show aC _ _ _ _ _ _ _ _
    refine b6 (junk:=_) (.inr rfl) (gN.two rfl (.cell rfl rfl (cc rfl) (.tmp rfl .nil))) ?_ (y7 _ _) rfl (dw _ _ _ _ _)
    rfl
 · rw [if_neg hin]
   rcases hp with rfl|rfl|rfl
   all_goals
    refine cO Tryz.func101 ?_
    repeat' (first
     |(refine qz ?_;first
      |refine Da rfl rfl rfl rfl sO NN rfl rfl rfl ?_)
     |refine zz ?_|refine zx (fun _=>?_) (fun _=>?_)|fail)
    show aC _ _ _ _ _ _ _ _
    refine b6 (junk:=_) (.inr rfl) (gN.two rfl (.cell rfl rfl (cc rfl) (.tmp rfl .nil))) ?_ (y7 _ _) rfl (dw _ _ _ _ _)
    rfl
theorem aK {f:FuncId} {args:List XV} {v:XV} {cols rows:Int} {A B C:nF} {HS:aj}(hc:bn Tryz.prog f (.one (.ptr 0 0)::args) (bU cols rows A B C) v (bU cols rows A B C)) (a b c d:Nat) (hd : [a,b,c,d].Nodup) (ha:HS[a]? = some (.cells [.int .i64 cols,.int .i64 rows,.map b,.map c,.map d] 171 false false)) (hb:HS[b]? = some (.map (ah A))) (hcc:HS[c]? = some (.map (ah B))) (hdd:HS[d]? = some (.map (ah C)))
 (hs:args.all XV.shut=true) (hv:v.shut=true) (hbd:Nat.blt HS.length Mem.bound=true):aH.Sound Tryz.prog ⟨f,.one (.ptr a 0)::args,HS,v,HS,[]⟩:=by
 have hs':∀ x∈args,x.shut=true:=List.all_eq_true.1 hs
 refine Ei hc (wu a b c d hd ha hb hcc hdd) (E6 _ _ _ _ _) (fun x hx=>?_) ?_ (XV.gX hv _) (XV.d8 hv _) hbd rfl
 · rcases List.mem_cons.1 hx with rfl|hx
   · show 0<4;omega
   · exact XV.gX (hs' x hx) _
 · show XV.ay _ _::args.map _=_
   rw [ly hs']
   rfl
end Go.Proofs.YtagpkhindehcbaaGreat
namespace Go.Proofs.YtagpkhindehcbaaGreat
open Go.Xm
variable [az]
def gW (b:Kn):Int:=gA (b.lv 0) b.qp
theorem fF (b:Kn):0≤gW b∧gW b≤121920:=pn _ _
def jG (la lb lc:Option Kn) (q:Int):Int × Int:=
 match la,lb with
 | some a,some b=>
   let m:=match lc with
    | some c=>gW c
    | none=>8192
   if max (gW a-m) (m-gW a)<max (m-gW b) (gW b-m)then(2,dm (gW b) q)else(1,dm (gW a) q)
 | some a,none=>(1,dm (gW a) q)
 | none,some b=>(2,dm (gW b) q)
 | none,none=>(0,dm 8192 q)
def j4 (e:Int × Int):XV := .tup [.one (.int .u8 e.1),.one (.int .i64 e.2)]
theorem kU (e:Int × Int) (n:Nat):(j4 e).b7 n:=by simp [j4,XV.b7,X1.ok,XC.ok]
theorem eT {cols rows p wide x y:Int} {A B C:nF} {b:Kn}(h:cw (bP A B C p) wide x y=some b) (hp:p=0∨p=1∨p=2) (hyw : -10000≤y*wide∧y*wide≤10000) (hx : -10000≤x∧x≤10000) :
 bn Tryz.prog 101 [.one (.ptr 0 0),.one (.int .i64 p),.one (.int .i64 wide),.one (.int .i64 x),.one (.int .i64 y)] (bU cols rows A B C) (.tup [.agg (dB b),.one (.bool true)]) (bU cols rows A B C):=by
 have:=F7 cols rows p wide x y A B C hp hyw hx
 rw [h]at this
 exact this
theorem hU {cols rows p wide x y:Int} {A B C:nF}(h:cw (bP A B C p) wide x y=none) (hp:p=0∨p=1∨p=2) (hyw : -10000≤y*wide∧y*wide≤10000) (hx : -10000≤x∧x≤10000) :
 bn Tryz.prog 101 [.one (.ptr 0 0),.one (.int .i64 p),.one (.int .i64 wide),.one (.int .i64 x),.one (.int .i64 y)] (bU cols rows A B C) (.tup [.agg (dB ML),.one (.bool false)]) (bU cols rows A B C):=by
 have:=F7 cols rows p wide x y A B C hp hyw hx
 rw [h]at this
 exact this
theorem MB {a b:Kn}(h:dB a=dB b):(∀ i,i<64→a.lv i=b.lv i)∧a.qp=b.qp:=by
 refine⟨fun i hi=>?_,?_⟩
 · have e:=zd a i hi
   rw [h,zd b i hi]at e
   simpa using e.symm
 · have e:=tR a
   rw [h,tR b]at e
   simpa using e.symm
theorem bO {a b:Kn} {h h' g g':aj}(e:h=g→h'=g'):Compat ⟨102,[.agg (dB a)],h,.one (.int .i64 (gA (a.lv 0) a.qp)),h',[]⟩ ⟨102,[.agg (dB b)],g,.one (.int .i64 (gA (b.lv 0) b.qp)),g',[]⟩:=by
 intro _ h2 h3
 simp only [List.cons.injEq,XV.agg.injEq,and_true]at h2
 have:=MB h2
 exact⟨by show XV.one _=XV.one _;rw [this.1 0 (by omega),this.2],e h3,rfl⟩
theorem ca {a b c d:Int} {h h' g g':aj}(e:h=g→h'=g'):Compat ⟨103,[.one (.int .i64 a),.one (.int .i64 b)],h,.one (.int .i64 (max (a-b) (b-a))),h',[]⟩ ⟨103,[.one (.int .i64 c),.one (.int .i64 d)],g,.one (.int .i64 (max (c-d) (d-c))),g',[]⟩:=by
 intro _ h2 h3
 simp only [List.cons.injEq,XV.one.injEq,XC.int.injEq,true_and,and_true]at h2
 obtain⟨rfl,rfl⟩:=h2
 exact⟨rfl,e h3,rfl⟩
end Go.Proofs.YtagpkhindehcbaaGreat
