/-
  A part of the proof: PrTab, PrAt, PrExp0.
-/
import Derived.Test.YtagpkhindehcbaaGreatKbI
set_option linter.unusedVariables false
set_option linter.unusedSectionVars false
set_option linter.unusedSimpArgs false
namespace Go.Proofs.YtagpkhindehcbaaGreat
open Go.Xm
variable [aC]
abbrev nD:=List (Int × Kn)
def IT (z:Int):X1 := .one (.int .i64 z)
def yM (b:Kn):X1 := .agg (dm b)
theorem ri:o6 Tryz.prog 3 IT:=DJ
def I4:Kn:=⟨fun _=>0,0⟩
theorem J1:kb Tryz.prog 156=some (yM I4):=by kernel_rfl
abbrev ah (M:nD):List (X1 × X1):=jb IT yM M
theorem hY (M:nD) (τ : Nat→Nat):(ah M).map (fun p=>(p.1.aw τ,p.2.aw τ))=ah M:=by
 unfold ah jb
 rw [List.map_map]
 refine List.map_congr_left fun p _=>?_
 simp only [Function.comp,X1.dN (x:=yM p.2) (bl p.2) τ]
 rfl
theorem uZ (M:nD) (n:Nat):∀ p∈ah M,p.1.ok n∧p.2.ok n:=by
 intro p hp
 obtain⟨q,_,rfl⟩:=List.mem_map.1 hp
 exact⟨trivial,X1.bO (x:=yM q.2) (bl q.2) n⟩
abbrev xB (cols rows:Int):List XC:=[.int .i64 cols,.int .i64 rows,.map 1,.map 2,.map 3]
abbrev bP (cols rows:Int) (A B C:nD):aq:=[.cells (xB cols rows) 171 false false,.map (ah A),.map (ah B),.map (ah C)]
theorem dj (cols rows:Int) (A B C:nD):∀ o∈bP cols rows A B C,o.cB 4:=by
 intro o ho
 simp only [bP,List.mem_cons,List.not_mem_nil,or_false]at ho
 rcases ho with rfl|rfl|rfl|rfl
 · simp [ak.cB,XC.ok,xB]
 · exact uZ A 4
 · exact uZ B 4
 · exact uZ C 4
theorem Ca (cols rows:Int) (A B C:nD):∀ o∈bP cols rows A B C,o.live=true:=by
 intro o ho
 simp only [bP,List.mem_cons,List.not_mem_nil,or_false]at ho
 rcases ho with rfl|rfl|rfl|rfl <;> rfl
theorem uy {HS:aq}{cols rows:Int}{A B C:nD}(a b c d:Nat) (hd : [a,b,c,d].Nodup) (ha:HS[a]? = some (.cells [.int .i64 cols,.int .i64 rows,.map b,.map c,.map d] 171 false false)) (hb:HS[b]? = some (.map (ah A))) (hc:HS[c]? = some (.map (ah B))) (hdd:HS[d]? = some (.map (ah C))) :
 View (nth [a,b,c,d]) HS (bP cols rows A B C):=by
 refine Ir [a,b,c,d] rfl hd (dj _ _ _ _ _) fun j o hj=>?_
 match j,hj with
 | 0,hj=>cases hj;exact ha
 | 1,hj=>cases hj;simp only [ak.aw,hY];exact hb
 | 2,hj=>cases hj;simp only [ak.aw,hY];exact hc
 | 3,hj=>cases hj;simp only [ak.aw,hY];exact hdd
 | j+4,hj=>simp [bP]at hj
def bQ (A B C:nD) (p:Int):nD:=if p=0 then A else if p=1 then B else C
def p_ (cols mb k:Int):XV := .tup [.one (.int .i64 (placeOf cols mb k).1),.one (.int .i64 (if k<4 then 2*cols else cols)),.one (.int .i64 (placeOf cols mb k).2.1),.one (.int .i64 (placeOf cols mb k).2.2)]
theorem uh (cols mb k:Int) (n:Nat):(p_ cols mb k).cB n:=by
 simp [p_,XV.cB,X1.ok,XC.ok]
set_option maxRecDepth 10000 in
theorem BG (cols rows mb k:Int) (A B C:nD) (hc:1≤cols∧cols≤8) (hm:0≤mb∧mb<1000000) (hk:0≤k∧k<1000) :
 bq Tryz.prog 100 [.one (.ptr 0 0),.one (.int .i64 mb),.one (.int .i64 k)] (bP cols rows A B C) (p_ cols mb k) (bP cols rows A B C):=by
 have hb:=xe (rows:=0) hc hm hk
 refine cO Tryz.func100 ?_
 repeat' (first|refine zG ?_|refine zA ?_|refine cX (fun _=>?_) (fun _=>?_)|refine aS (fun _=>?_) (fun _=>?_)|refine zL ?_|refine zF ?_|fail)
 · show aF _ _ _ _ _ _ _ _;refine bV (junk:=[]) (.inr rfl) (fun m hm=>rfl) ?_ (uh _ _ _ _) rfl (dj _ _ _ _ _)
   simp only [p_,placeOf,if_pos (show k<4 from ‹_›)]
 · show aF _ _ _ _ _ _ _ _;refine bV (junk:=[]) (.inr rfl) (fun m hm=>rfl) ?_ (uh _ _ _ _) rfl (dj _ _ _ _ _)
   simp only [p_,placeOf,if_neg (show¬k<4 from ‹_›)]
def gD (cols rows mb k:Int):Bool:=decide (0≤mb∧mb<cols*rows∧0≤k∧k<6)
set_option maxRecDepth 10000 in
theorem eU (cols rows mb k:Int) (A B C:nD) (hcr:0≤cols*rows∧cols*rows≤64) :
 bq Tryz.prog 98 [.one (.ptr 0 0),.one (.int .i64 mb),.one (.int .i64 k)] (bP cols rows A B C) (.one (.bool (gD cols rows mb k))) (bP cols rows A B C):=by
 refine cO Tryz.func98 ?_
 repeat' (first|refine zG ?_|refine zA ?_|refine cX (fun _=>?_) (fun _=>?_)|refine aS (fun _=>?_) (fun _=>?_)|refine zL ?_|refine zF ?_|fail)
 all_goals
  show aF _ _ _ _ _ _ _ _;refine kM ?_ (dj _ _ _ _ _)
  unfold gD
  first
   | rw [decide_eq_true (by omega)];rfl
   | rw [decide_eq_false (by omega)];rfl
end Go.Proofs.YtagpkhindehcbaaGreat
namespace Go.Proofs.YtagpkhindehcbaaGreat
open Go.Xm
variable [aC]
def cu (T:nD) (wide x y:Int):Option Kn:=if x<0∨y<0∨wide≤x then none else bW T (y*wide+x)
def found (o:Option Kn):XV := .tup [yM (o.getD I4),.one (.bool o.isSome)]
theorem wJ (o:Option Kn) (n:Nat):(found o).cB n:=by
 intro x hx
 simp only [List.mem_cons,List.not_mem_nil,or_false]at hx
 rcases hx with rfl|rfl
 · exact X1.bO (x:=yM _) (bl _) n
 · trivial
set_option maxRecDepth 10000 in
set_option maxHeartbeats 1000000 in
theorem C5 (cols rows p wide x y:Int) (A B C:nD) (hp:p=0∨p=1∨p=2) (hyw : -10000≤y*wide∧y*wide≤10000) (hx : -10000≤x∧x≤10000) :
 bq Tryz.prog 101 [.one (.ptr 0 0),.one (.int .i64 p),.one (.int .i64 wide),.one (.int .i64 x),.one (.int .i64 y)] (bP cols rows A B C) (found (cu (bQ A B C p) wide x y)) (bP cols rows A B C):=by
 unfold cu
 by_cases hin:x<0∨y<0∨wide≤x
 · rw [if_pos hin]
   refine cO Tryz.func101 ?_
   repeat' (first|refine zG ?_|refine zA ?_|refine cX (fun _=>?_) (fun _=>?_)|refine aS (fun _=>?_) (fun _=>?_)|refine zL ?_|refine zF ?_|fail)
   all_goals
    show aF _ _ _ _ _ _ _ _
    refine bV (junk:=_) (.inr rfl) (gh.two rfl (.cell rfl rfl (b_ rfl) (.tmp rfl .nil))) ?_ (wJ _ _) rfl (dj _ _ _ _ _)
    rfl
 · rw [if_neg hin]
   rcases hp with rfl|rfl|rfl
   all_goals
    refine cO Tryz.func101 ?_
    repeat' (first
     |(refine qz ?_;first
      |refine AD rfl rfl rfl rfl ri J1 rfl rfl rfl ?_)
     |refine zG ?_|refine zA ?_|refine cX (fun _=>?_) (fun _=>?_)|refine aS (fun _=>?_) (fun _=>?_)|refine zL ?_|refine zF ?_|fail)
    show aF _ _ _ _ _ _ _ _
    refine bV (junk:=_) (.inr rfl) (gh.two rfl (.cell rfl rfl (b_ rfl) (.tmp rfl .nil))) ?_ (wJ _ _) rfl (dj _ _ _ _ _)
    rfl
theorem aH {f:FuncId}{args:List XV}{v:XV}{cols rows:Int}{A B C:nD}{HS:aq}(hc:bq Tryz.prog f (.one (.ptr 0 0)::args) (bP cols rows A B C) v (bP cols rows A B C)) (a b c d:Nat) (hd : [a,b,c,d].Nodup) (ha:HS[a]? = some (.cells [.int .i64 cols,.int .i64 rows,.map b,.map c,.map d] 171 false false)) (hb:HS[b]? = some (.map (ah A))) (hcc:HS[c]? = some (.map (ah B))) (hdd:HS[d]? = some (.map (ah C)))
 (hs:args.all XV.shut=true) (hv:v.shut=true) (hbd:Nat.blt HS.length Mem.bound=true):aG.Sound Tryz.prog ⟨f,.one (.ptr a 0)::args,HS,v,HS,[]⟩:=by
 have hs':∀ x∈args,x.shut=true:=List.all_eq_true.1 hs
 refine By hc (uy a b c d hd ha hb hcc hdd) (Ca _ _ _ _ _) (fun x hx=>?_) ?_ (XV.ie hv _) (XV.dN hv _) hbd rfl
 · rcases List.mem_cons.1 hx with rfl|hx
   · show 0<4;omega
   · exact XV.ie (hs' x hx) _
 · show XV.aw _ _::args.map _=_
   rw [kG hs']
   rfl
end Go.Proofs.YtagpkhindehcbaaGreat
namespace Go.Proofs.YtagpkhindehcbaaGreat
open Go.Xm
variable [aC]
def gv (b:Kn):Int:=f5 (b.lv 0) b.qp
theorem fg (b:Kn):0≤gv b∧gv b≤121920:=om _ _
def jc (la lb lc:Option Kn) (q:Int):Int × Int:=
 match la,lb with
 | some a,some b=>
   let m:=match lc with
    | some c=>gv c
    | none=>8192
   if max (gv a-m) (m-gv a)<max (m-gv b) (gv b-m)then(2,dg (gv b) q)else(1,dg (gv a) q)
 | some a,none=>(1,dg (gv a) q)
 | none,some b=>(2,dg (gv b) q)
 | none,none=>(0,dg 8192 q)
def ju (e:Int × Int):XV := .tup [.one (.int .u8 e.1),.one (.int .i64 e.2)]
theorem kn (e:Int × Int) (n:Nat):(ju e).cB n:=by simp [ju,XV.cB,X1.ok,XC.ok]
theorem ep {cols rows p wide x y:Int}{A B C:nD}{b:Kn}(h:cu (bQ A B C p) wide x y=some b) (hp:p=0∨p=1∨p=2) (hyw : -10000≤y*wide∧y*wide≤10000) (hx : -10000≤x∧x≤10000) :
 bq Tryz.prog 101 [.one (.ptr 0 0),.one (.int .i64 p),.one (.int .i64 wide),.one (.int .i64 x),.one (.int .i64 y)] (bP cols rows A B C) (.tup [.agg (dm b),.one (.bool true)]) (bP cols rows A B C):=by
 have:=C5 cols rows p wide x y A B C hp hyw hx
 rw [h]at this
 exact this
theorem gB {cols rows p wide x y:Int}{A B C:nD}(h:cu (bQ A B C p) wide x y=none) (hp:p=0∨p=1∨p=2) (hyw : -10000≤y*wide∧y*wide≤10000) (hx : -10000≤x∧x≤10000) :
 bq Tryz.prog 101 [.one (.ptr 0 0),.one (.int .i64 p),.one (.int .i64 wide),.one (.int .i64 x),.one (.int .i64 y)] (bP cols rows A B C) (.tup [.agg (dm I4),.one (.bool false)]) (bP cols rows A B C):=by
 have:=C5 cols rows p wide x y A B C hp hyw hx
 rw [h]at this
 exact this
theorem IW {a b:Kn}(h:dm a=dm b):(∀ i,i<64→a.lv i=b.lv i)∧a.qp=b.qp:=by
 refine⟨fun i hi=>?_,?_⟩
 · have e:=wP a i hi
   rw [h,wP b i hi]at e
   simpa using e.symm
 · have e:=r9 a
   rw [h,r9 b]at e
   simpa using e.symm
theorem bN {a b:Kn}{h h' g g':aq}(e:h=g→h'=g'):Compat ⟨102,[.agg (dm a)],h,.one (.int .i64 (f5 (a.lv 0) a.qp)),h',[]⟩ ⟨102,[.agg (dm b)],g,.one (.int .i64 (f5 (b.lv 0) b.qp)),g',[]⟩:=by
 intro _ h2 h3
 simp only [List.cons.injEq,XV.agg.injEq,and_true]at h2
 have:=IW h2
 exact⟨by show XV.one _=XV.one _;rw [this.1 0 (by omega),this.2],e h3,rfl⟩
theorem b9 {a b c d:Int}{h h' g g':aq}(e:h=g→h'=g'):Compat ⟨103,[.one (.int .i64 a),.one (.int .i64 b)],h,.one (.int .i64 (max (a-b) (b-a))),h',[]⟩ ⟨103,[.one (.int .i64 c),.one (.int .i64 d)],g,.one (.int .i64 (max (c-d) (d-c))),g',[]⟩:=by
 intro _ h2 h3
 simp only [List.cons.injEq,XV.one.injEq,XC.int.injEq,true_and,and_true]at h2
 obtain⟨rfl,rfl⟩:=h2
 exact⟨rfl,e h3,rfl⟩
end Go.Proofs.YtagpkhindehcbaaGreat
