/-
  A part of the proof: Flt.
-/
import Derived.Test.YtagpkhindehcbaaGreatKdE
set_option maxRecDepth 10000
set_option maxHeartbeats 8000000
set_option linter.unusedVariables false
set_option linter.unusedSectionVars false
set_option linter.unusedSimpArgs false
namespace Go.Xm
variable [az]
variable {P:Program} {ops:Array Oper} {nt nI:Nat} {al:bm} {hs:aj} {o:Oper} {l:List Oper} {L:List aH} {K:List Ab→bm→aj→Prop} {d:Nat}
def fO (n:Int):Nat:=FloatKind.nearest .f64 n
def cq (p:Int × Int):XC := .cplx .f64 (fO p.1) (fO p.2)
def fD (n:Int):Prop := -32≤n∧n≤32
def Mv:List (Int × Nat):=(List.range 65).map fun(i:Nat)=>((i:Int)-32,fO ((i:Int)-32))
def Pp (l:List (Int × Nat)):Bool:=l.all fun p=>l.all fun q=>FloatKind.f64.format.order p.2 q.2 == some (compare p.1 q.1)
set_option maxRecDepth 100000 in
theorem JY:Pp Mv=true:=by decide +kernel
theorem z8 {n:Int}(h:fD n):(n,fO n)∈Mv:=by
 unfold Mv
 refine List.mem_map.2 ⟨(n+32).toNat,List.mem_range.2 (by have:=h.1;have:=h.2;omega),?_⟩
 have e:(((n+32).toNat:Nat):Int)-32=n:=by have:=h.1;omega
 rw [e]
theorem GH {x y:Int}(hx:fD x) (hy:fD y):FloatKind.f64.format.order (fO x) (fO y)=some (compare x y):=by
 have h:=JY
 have h1:=List.all_eq_true.1 h _ (z8 hx)
 have h2:=List.all_eq_true.1 h1 _ (z8 hy)
 simpa using h2
theorem sh {x y:Int}(hx:fD x) (hy:fD y):(FloatKind.f64.format.order (fO x) (fO y) == some .eq)=decide (x=y):=by
 rw [GH hx hy]
 by_cases h:x=y
 · subst h
   have:compare x x = .eq:=by simp
   rw [this];simp
 · have:compare x y ≠ .eq:=by simpa [Int.compare_eq_eq]using h
   simp only [h,decide_false]
   cases hc:compare x y <;> first|(exact absurd hc this)|rfl
theorem JV:fO 0=0:=by decide +kernel
theorem dM:cq (0,0) = .cplx .f64 0 0:=by unfold cq;rw [JV]
theorem QN {a:Operand} {ts:Array TypeId} {k:FloatKind} {p q:Nat}(hk:SK P ops nt L l ((d,.one (.flt k p))::al) hs fun bs=>K (quiet::bs)) (ho:o.op = .call ⟨.builtin .real,#[a],ts⟩:=by exact rfl) (hw:au ops (rg al) o=some true:=by exact rfl) (hd:o.dst=some d:=by exact rfl) (hlt:Nat.blt d nt=true:=by exact rfl)
 (ha:ai (rg al) a = .one (.cplx k p q):=by exact rfl):SK P ops nt L (o::l) al hs K:=lf hw hd hlt (by rw [ho];simp [bj,fi,ha]) hk
theorem Qj {a:Operand} {ts:Array TypeId} {k:FloatKind} {p q:Nat}(hk:SK P ops nt L l ((d,.one (.flt k q))::al) hs fun bs=>K (quiet::bs)) (ho:o.op = .call ⟨.builtin .imag,#[a],ts⟩:=by exact rfl) (hw:au ops (rg al) o=some true:=by exact rfl) (hd:o.dst=some d:=by exact rfl) (hlt:Nat.blt d nt=true:=by exact rfl)
 (ha:ai (rg al) a = .one (.cplx k p q):=by exact rfl):SK P ops nt L (o::l) al hs K:=lf hw hd hlt (by rw [ho];simp [bj,fi,ha]) hk
theorem Qg {a b:Operand} {ts:Array TypeId} {k:FloatKind} {p q:Nat}(hk:SK P ops nt L l ((d,.one (.cplx k p q))::al) hs fun bs=>K (quiet::bs)) (ho:o.op = .call ⟨.builtin .complex,#[a,b],ts⟩:=by exact rfl) (hw:au ops (rg al) o=some true:=by exact rfl) (hd:o.dst=some d:=by exact rfl) (hlt:Nat.blt d nt=true:=by exact rfl)
 (ha:ai (rg al) a = .one (.flt k p):=by exact rfl) (hb:ai (rg al) b = .one (.flt k q):=by exact rfl):SK P ops nt L (o::l) al hs K:=lf hw hd hlt (by rw [ho];simp [bj,fi,ha,hb]) hk
theorem Qf {s t:TypeId} {y:Operand} {u:TypeDesc} {k:IntKind} {x:Int}(hk:SK P ops nt L l ((d,.one (.flt .f64 (fO x)))::al) hs fun bs=>K (quiet::bs)) (ho:o.op = .convert s t y:=by exact rfl) (hw:au ops (rg al) o=some true:=by exact rfl) (hd:o.dst=some d:=by exact rfl) (hlt:Nat.blt d nt=true:=by exact rfl)
 (hy:ai (rg al) y = .one (.int k x):=by exact rfl) (h1:a_ P s u:=by infer_instance) (h2:a_ P t (.float .f64):=by infer_instance):SK P ops nt L (o::l) al hs K:=lf hw hd hlt (by rw [ho];simp only [bj,kG,hy,h1.out,h2.out];rfl) hk
theorem Po {t t':TypeId} {a b:Operand} {x y:Int × Int}(h1:x=y→SK P ops nt L l ((d,.one (.bool true))::al) hs fun bs=>K (quiet::bs)) (h2:x≠y→SK P ops nt L l ((d,.one (.bool false))::al) hs fun bs=>K (quiet::bs)) (hx:fD x.1∧fD x.2) (hy:fD y.1∧fD y.2) (ho:o.op = .binOp .eql t a b t':=by exact rfl) (hw:au ops (rg al) o=some true:=by exact rfl) (hd:o.dst=some d:=by exact rfl) (hlt:Nat.blt d nt=true:=by exact rfl)
 (ha:ai (rg al) a = .one (cq x):=by exact rfl) (hb:ai (rg al) b = .one (cq y):=by exact rfl):SK P ops nt L (o::l) al hs K:=by
 obtain⟨x1,x2⟩:=x
 obtain⟨y1,y2⟩:=y
 have key:bj P (ai (rg al)) o.op=some (.one (.bool (decide (x1=y1) && decide (x2=y2)))):=by
  rw [ho]
  simp only [bj,ha,hb,cq,rh,Aj,if_true,sh hx.1 hy.1,sh hx.2 hy.2,Option.map_some]
 refine lf hw hd hlt key ?_
 by_cases h:x1=y1∧x2=y2
 · simp only [h.1,h.2,decide_true,Bool.and_self]
   exact h1 (by rw [h.1,h.2])
 · have:(decide (x1=y1) && decide (x2=y2))=false:=by
    simp only [Bool.and_eq_false_iff,decide_eq_false_iff_not]
    rcases Classical.em (x1=y1)with h3|h3
    · exact .inr fun h4=>h ⟨h3,h4⟩
    · exact .inl h3
   rw [this]
   exact h2 fun e=>h (by cases e;exact⟨rfl,rfl⟩)
theorem FP {t t':TypeId} {a b:Operand} {x y:Int × Int}(h1:x≠y→SK P ops nt L l ((d,.one (.bool true))::al) hs fun bs=>K (quiet::bs)) (h2:x=y→SK P ops nt L l ((d,.one (.bool false))::al) hs fun bs=>K (quiet::bs)) (hx:fD x.1∧fD x.2) (hy:fD y.1∧fD y.2) {cb:XC}(hcb:cb=cq y) (ho:o.op = .binOp .neq t a b t':=by exact rfl) (hw:au ops (rg al) o=some true:=by exact rfl) (hd:o.dst=some d:=by exact rfl) (hlt:Nat.blt d nt=true:=by exact rfl)
 (ha:ai (rg al) a = .one (cq x):=by exact rfl) (hb:ai (rg al) b = .one cb:=by exact rfl):SK P ops nt L (o::l) al hs K:=by
 obtain⟨x1,x2⟩:=x
 obtain⟨y1,y2⟩:=y
 subst hcb
 have key:bj P (ai (rg al)) o.op=some (.one (.bool (!(decide (x1=y1) && decide (x2=y2))))):=by
  rw [ho]
  simp only [bj,ha,hb,cq,rh,Aj,if_true,sh hx.1 hy.1,sh hx.2 hy.2,Option.map_some]
 refine lf hw hd hlt key ?_
 by_cases h:x1=y1∧x2=y2
 · simp only [h.1,h.2,decide_true,Bool.and_self,Bool.not_true]
   exact h2 (by rw [h.1,h.2])
 · have:(decide (x1=y1) && decide (x2=y2))=false:=by
    simp only [Bool.and_eq_false_iff,decide_eq_false_iff_not]
    rcases Classical.em (x1=y1)with h3|h3
    · exact .inr fun h4=>h ⟨h3,h4⟩
    · exact .inl h3
   rw [this,Bool.not_false]
   exact h1 fun e=>h (by cases e;exact⟨rfl,rfl⟩)
end Go.Xm
namespace Go.Proofs.YtagpkhindehcbaaGreat
open Go.Xm
theorem mixed:Tryz.prog.follows .mixedOrders=true:=by kernel_rfl
def oh (i:Nat):w_:=⟨105,[.one (.flt .f64 (fO ((i:Int)-32)))],.one (.int .i64 ((i:Int)-32))⟩
noncomputable def Gk:Bool:=(List.range 65).all fun i=>decide (((pI vY Tryz.prog 1000 10).call (oh i).f (oh i).args Mem.empty).map (·.1)=some (oh i).v)
theorem yQ:Gk=true:=by kernel_rfl
variable [az]
theorem FB (n:Int) (h:fD n):bn Tryz.prog 105 [.one (.flt .f64 (fO n))] [] (.one (.int .i64 n)) []:=by
 have e:(((n+32).toNat:Nat):Int)-32=n:=by have:=h.1;omega
 have h1:=List.all_eq_true.1 yQ (n+32).toNat (List.mem_range.2 (by have:=h.1;have:=h.2;omega))
 have h2:=of_decide_eq_true h1
 have:=mJ (mO (r:=oh (n+32).toNat) (O9 (jK _) mixed h2 rfl))
 unfold oh at this
 rw [e]at this
 exact this
theorem Ae {n:Int}(h:fD n) {HS:aj}(hb:Nat.blt HS.length Mem.bound=true):aH.Sound Tryz.prog ⟨105,[.one (.flt .f64 (fO n))],HS,.one (.int .i64 n),HS,[]⟩:=
 aA (FB n h) rfl rfl hb
theorem qm {a b:Int}(ha:fD a) (hb:fD b) {HS:aj}:Compat ⟨105,[.one (.flt .f64 (fO a))],HS,.one (.int .i64 a),HS,[]⟩ ⟨105,[.one (.flt .f64 (fO b))],HS,.one (.int .i64 b),HS,[]⟩:=fun _ h _=>by
 simp only [List.cons.injEq,XV.one.injEq,XC.flt.injEq,true_and,and_true]at h
 have h1:=sh ha ha
 have h2:=sh ha hb
 rw [←h,h1]at h2
 have:a=b:=by simpa using h2
 subst this
 exact⟨rfl,rfl,rfl⟩
theorem Ez (p:Int × Int) (h:fD p.1∧fD p.2):bn Tryz.prog 81 [.one (cq p)] [] (.tup [.one (.int .i64 p.1),.one (.int .i64 p.2)]) []:=by
 refine cO Tryz.func81 ?_
 repeat' (first
  |(refine qz ?_;first
   |refine QN ?_
   |refine Qj ?_
   |refine cl ?_ (hi:=by exact Ae h.1 rfl)
   |refine cl ?_ (hi:=by exact Ae h.2 rfl))
  |refine zz ?_|refine zx (fun _=>?_) (fun _=>?_)|refine bq (by first|exact ag.nil|exact ag.one _|exact ag.lI (by repeat' (first|exact True.intro|refine And.intro ?_ ?_|exact Compat.ne rfl|exact qm h.2 h.1))) ⟨by kernel_rfl,?_⟩|refine bq (by first|exact ag.nil|exact ag.one _|exact ag.lI (by repeat' (first|exact True.intro|refine And.intro ?_ ?_|exact Compat.ne rfl|exact qm h.2 h.1))) ?_|fail)
 show aC _ _ _ _ _ _ _ _;refine kV [] ?_
 rfl
theorem iX {p:Int × Int}(h:fD p.1∧fD p.2) {HS:aj}(hb:Nat.blt HS.length Mem.bound=true):aH.Sound Tryz.prog ⟨81,[.one (cq p)],HS,.tup [.one (.int .i64 p.1),.one (.int .i64 p.2)],HS,[]⟩:=
 aA (Ez p h) rfl rfl hb
theorem MO (x y:Int):bn Tryz.prog 95 [.one (.int .i64 x),.one (.int .i64 y)] [] (.one (cq (x,y))) []:=by
 refine cO Tryz.func95 ?_
 repeat' (first
  |(refine qz ?_;first
   |refine Qf ?_
   |refine Qg ?_)
  |refine zz ?_|refine zx (fun _=>?_) (fun _=>?_)|fail)
 show aC _ _ _ _ _ _ _ _;refine kV [] ?_
 rfl
theorem vZ {x y:Int} {HS:aj}(hb:Nat.blt HS.length Mem.bound=true):aH.Sound Tryz.prog ⟨95,[.one (.int .i64 x),.one (.int .i64 y)],HS,.one (cq (x,y)),HS,[]⟩:=
 aA (MO x y) rfl rfl hb
def cu (n:Int):Int:=(n+32)%64-32
theorem gv (n:Int) : -32≤cu n∧cu n≤31:=by unfold cu;omega
theorem I8 (n:Int) (h : -1000000≤n∧n≤1000000):bn Tryz.prog 84 [.one (.int .i64 n)] [] (.one (.int .i64 (cu n))) []:=by
 refine cO Tryz.func84 ?_
 have h1:=Int.emod_nonneg (n+32) (show(2:Int)^6≠0 by decide)
 have h2:(n+32)%(2:Int)^6<64:=Int.emod_lt_of_pos (n+32) (show(0:Int)<2^6 by decide)
 have h3:=Int.emod_nonneg ((n+32)%2^6+64) (show(2:Int)^6≠0 by decide)
 have h4:((n+32)%2^6+64)%(2:Int)^6<64:=Int.emod_lt_of_pos _ (show(0:Int)<2^6 by decide)
 repeat' (first
  |(refine qz ?_;first
   |refine an (n:=6) ?_)
  |refine zz ?_|refine zx (fun _=>?_) (fun _=>?_)|fail)
 show aC _ _ _ _ _ _ _ _;refine kV [] ?_
 have:((n+32)%2^6+64)%(2:Int)^6-32=cu n:=by
  unfold cu
  show((n+32)%64+64)%64-32=_
  omega
 rw [←this];rfl
theorem Dw {n:Int}(h : -1000000≤n∧n≤1000000) {HS:aj}(hb:Nat.blt HS.length Mem.bound=true):aH.Sound Tryz.prog ⟨84,[.one (.int .i64 n)],HS,.one (.int .i64 (cu n)),HS,[]⟩:=
 aA (I8 n h) rfl rfl hb
def d9 (p:Int × Int):Bool:=decide (-31≤p.1∧p.1≤31 ∧ -31≤p.2∧p.2≤31)
theorem EJ (p:Int × Int) (h:fD p.1∧fD p.2):bn Tryz.prog 79 [.one (cq p)] [] (.one (.bool (d9 p))) []:=by
 have hx1:=h.1.1
 have hx2:=h.1.2
 have hy1:=h.2.1
 have hy2:=h.2.2
 refine cO Tryz.func79 ?_
 by_cases ha : -31≤p.1∧p.1≤31
 · by_cases hb : -31≤p.2∧p.2≤31
   · have e:d9 p=true:=decide_eq_true ⟨ha.1,ha.2,hb⟩
     rw [e]
     repeat' (first
      |(refine qz ?_;first
       |refine cl ?_ (hi:=by exact iX h rfl)
       |refine cl ?_ (hi:=by exact vZ rfl)
       |refine Po (x:=(p.1,p.2)) (y:=p) (fun _=>?_) (fun hn=>absurd rfl hn) h h)
      |refine zz ?_|refine zx (fun _=>?_) (fun _=>?_)|fail)
     show aC _ _ _ _ _ _ _ _;refine kV [] ?_
     rfl
   · have e:d9 p=false:=decide_eq_false fun hh=>hb hh.2.2
     rw [e]
     repeat' (first
      |(refine qz ?_;first
       |refine cl ?_ (hi:=by exact iX h rfl)
       |refine cl ?_ (hi:=by exact vZ rfl)
       |refine Po (x:=(p.1,p.2)) (y:=p) (fun _=>?_) (fun hn=>absurd rfl hn) h h)
      |refine zz ?_|refine zx (fun _=>?_) (fun _=>?_)|fail)
     show aC _ _ _ _ _ _ _ _;refine kV [] ?_
     rfl
 · have e:d9 p=false:=decide_eq_false fun hh=>ha ⟨hh.1,hh.2.1⟩
   rw [e]
   repeat' (first
    |(refine qz ?_;first
     |refine cl ?_ (hi:=by exact iX h rfl)
     |refine cl ?_ (hi:=by exact vZ rfl)
     |refine Po (x:=(p.1,p.2)) (y:=p) (fun _=>?_) (fun hn=>absurd rfl hn) h h)
    |refine zz ?_|refine zx (fun _=>?_) (fun _=>?_)|fail)
   show aC _ _ _ _ _ _ _ _;refine kV [] ?_
   rfl
theorem eC {p:Int × Int}(h:fD p.1∧fD p.2) {HS:aj}(hb:Nat.blt HS.length Mem.bound=true):aH.Sound Tryz.prog ⟨79,[.one (cq p)],HS,.one (.bool (d9 p)),HS,[]⟩:=
 aA (EJ p h) rfl rfl hb
def zr (a b c:Int):Int:=max (min a b) (min (max a b) c)
theorem Kk (a b c:Int):bn Tryz.prog 107 [.one (.int .i64 a),.one (.int .i64 b),.one (.int .i64 c)] [] (.one (.int .i64 (zr a b c))) []:=by
 refine cO Tryz.func107 ?_
 repeat' (first
  |(refine qz ?_;first
   |refine O7 ?_
   |refine P6 ?_)
  |refine zz ?_|refine zx (fun _=>?_) (fun _=>?_)|fail)
 show aC _ _ _ _ _ _ _ _;refine kV [] ?_
 rfl
theorem MK {a b c:Int} {HS:aj}(hb:Nat.blt HS.length Mem.bound=true):aH.Sound Tryz.prog ⟨107,[.one (.int .i64 a),.one (.int .i64 b),.one (.int .i64 c)],HS,.one (.int .i64 (zr a b c)),HS,[]⟩:=
 aA (Kk a b c) rfl rfl hb
theorem tp {a b c a' b' c':Int} {HS:aj}:Compat ⟨107,[.one (.int .i64 a),.one (.int .i64 b),.one (.int .i64 c)],HS,.one (.int .i64 (zr a b c)),HS,[]⟩ ⟨107,[.one (.int .i64 a'),.one (.int .i64 b'),.one (.int .i64 c')],HS,.one (.int .i64 (zr a' b' c')),HS,[]⟩:=fun _ h _=>by
 simp only [List.cons.injEq,XV.one.injEq,XC.int.injEq,true_and,and_true]at h
 obtain⟨rfl,rfl,rfl⟩:=h
 exact⟨rfl,rfl,rfl⟩
def MJ (a b c:Int × Int):Int × Int:=(zr a.1 b.1 c.1,zr a.2 b.2 c.2)
def bu (p:Int × Int):Prop:=fD p.1∧fD p.2
theorem vW {a b c:Int}(ha:fD a) (hb:fD b) (hc:fD c):fD (zr a b c):=by
 unfold zr fD at *
 omega
theorem Bo (a b c:Int × Int) (ha:bu a) (hb:bu b) (hc:bu c):bn Tryz.prog 87 [.one (cq a),.one (cq b),.one (cq c)] [] (.one (cq (MJ a b c))) []:=by
 refine cO Tryz.func87 ?_
 repeat' (first
  |(refine qz ?_;first
   |refine cl ?_ (hi:=by exact iX ha rfl)
   |refine cl ?_ (hi:=by exact iX hb rfl)
   |refine cl ?_ (hi:=by exact iX hc rfl)
   |refine cl ?_ (hi:=by exact MK rfl)
   |refine cl ?_ (hi:=by exact vZ rfl))
  |refine zz ?_|refine zx (fun _=>?_) (fun _=>?_)|refine bq (by first|exact ag.nil|exact ag.one _|exact ag.lI (by repeat' (first|exact True.intro|refine And.intro ?_ ?_|exact Compat.ne rfl|exact tp))) ⟨by kernel_rfl,?_⟩|refine bq (by first|exact ag.nil|exact ag.one _|exact ag.lI (by repeat' (first|exact True.intro|refine And.intro ?_ ?_|exact Compat.ne rfl|exact tp))) ?_|fail)
 show aC _ _ _ _ _ _ _ _;refine kV [] ?_
 rfl
theorem iB {a b c:Int × Int}(ha:bu a) (hb:bu b) (hc:bu c) {HS:aj}(hbd:Nat.blt HS.length Mem.bound=true):aH.Sound Tryz.prog ⟨87,[.one (cq a),.one (cq b),.one (cq c)],HS,.one (cq (MJ a b c)),HS,[]⟩:=
 aA (Bo a b c ha hb hc) rfl rfl hbd
def vt (v:Nat→Int × Int):List XC:=[cq (v 0),cq (v 1),cq (v 2),cq (v 3)]
theorem zW (x y:Int) (hx : -128≤x∧x<128) (hy : -128≤y∧y<128):bn Tryz.prog 77 [.one (.int .i8 x),.one (.int .i8 y)] [] (.one (cq (x.tmod 32,y.tmod 32))) []:=by
 have ex:bJ .rem .i64 .i64 x 32=some (.int .i64 (x.tmod 32)):=Cu (by decide) rfl
 have ey:bJ .rem .i64 .i64 y 32=some (.int .i64 (y.tmod 32)):=Cu (by decide) rfl
 refine cO Tryz.func77 ?_
 repeat' (first
  |(refine qz ?_;first
   |refine iu rfl rfl rfl rfl rfl rfl ex ?_
   |refine iu rfl rfl rfl rfl rfl rfl ey ?_
   |refine cl ?_ (hi:=by exact vZ rfl))
  |refine zz ?_|refine zx (fun _=>?_) (fun _=>?_)|fail)
 show aC _ _ _ _ _ _ _ _;refine kV [] ?_
 rfl
theorem BM {x y:Int}(hx : -128≤x∧x<128) (hy : -128≤y∧y<128) {HS:aj}(hb:Nat.blt HS.length Mem.bound=true):aH.Sound Tryz.prog ⟨77,[.one (.int .i8 x),.one (.int .i8 y)],HS,.one (cq (x.tmod 32,y.tmod 32)),HS,[]⟩:=
 aA (zW x y hx hy) rfl rfl hb
theorem Jz (p:Int × Int):bn Tryz.prog 44 [.one (cq p)] [] (.agg (vt fun _=>p)) []:=by
 refine cO Tryz.func44 ?_
 repeat' (first|refine zz ?_|refine zx (fun _=>?_) (fun _=>?_)|fail)
 show aC _ _ _ _ _ _ _ _;refine kV [] ?_
 rfl
theorem L_ {p:Int × Int} {HS:aj}(hb:Nat.blt HS.length Mem.bound=true):aH.Sound Tryz.prog ⟨44,[.one (cq p)],HS,.agg (vt fun _=>p),HS,[]⟩:=
 aA (Jz p) rfl rfl hb
end Go.Proofs.YtagpkhindehcbaaGreat
