/-
  A part of the proof: Flt.
-/
import Derived.Test.YtagpkhindehcbaaGreatKbF
set_option linter.unusedVariables false
set_option linter.unusedSectionVars false
set_option linter.unusedSimpArgs false
namespace Go.Xm
variable [aC]
variable {P:Program}{ops:Array Oper}{nt nI:Nat}{al:bm}{hs:aq}{o:Oper}{l:List Oper}{L:List aG}{K:List Ab→bm→aq→Prop}{d:Nat}
def fO (n:Int):Nat:=FloatKind.nearest .f64 n
def cq (p:Int × Int):XC := .cplx .f64 (fO p.1) (fO p.2)
def fc (n:Int):Prop := -32≤n∧n≤32
def IQ:List (Int × Nat):=(List.range 65).map fun(i:Nat)=>((i:Int)-32,fO ((i:Int)-32))
def Ls (l:List (Int × Nat)):Bool:=l.all fun p=>l.all fun q=>FloatKind.f64.format.order p.2 q.2 == some (compare p.1 q.1)
set_option maxRecDepth 100000 in
theorem Gy:Ls IQ=true:=by decide +kernel
theorem xE {n:Int}(h:fc n):(n,fO n)∈IQ:=by
 unfold IQ
 refine List.mem_map.2 ⟨(n+32).toNat,List.mem_range.2 (by have:=h.1;have:=h.2;omega),?_⟩
 have e:(((n+32).toNat:Nat):Int)-32=n:=by have:=h.1;omega
 rw [e]
theorem Du {x y:Int}(hx:fc x) (hy:fc y):FloatKind.f64.format.order (fO x) (fO y)=some (compare x y):=by
 have h:=Gy
 have h1:=List.all_eq_true.1 h _ (xE hx)
 have h2:=List.all_eq_true.1 h1 _ (xE hy)
 simpa using h2
theorem t5 {x y:Int}(hx:fc x) (hy:fc y):(FloatKind.f64.format.order (fO x) (fO y) == some .eq)=decide (x=y):=by
 rw [Du hx hy]
 by_cases h:x=y
 · subst h
   have:compare x x = .eq:=by simp
   rw [this];simp
 · have:compare x y ≠ .eq:=by simpa [Int.compare_eq_eq]using h
   simp only [h,decide_false]
   cases hc:compare x y <;> first|(exact absurd hc this)|rfl
theorem Gw:fO 0=0:=by decide +kernel
theorem dC:cq (0,0) = .cplx .f64 0 0:=by unfold cq;rw [Gw]
theorem MU {a:Operand}{ts:Array TypeId}{k:FloatKind}{p q:Nat}(hk:SK P ops nt L l ((d,.one (.flt k p))::al) hs fun bs=>K (quiet::bs)) (ho:o.op = .call ⟨.builtin .real,#[a],ts⟩:=by exact rfl) (hw:aj ops (rg al) o=some true:=by exact rfl) (hd:o.dst=some d:=by exact rfl) (hlt:Nat.blt d nt=true:=by exact rfl)
 (ha:ag (rg al) a = .one (.cplx k p q):=by exact rfl):SK P ops nt L (o::l) al hs K:=kx hw hd hlt (by rw [ho];simp [bk,eO,ha]) hk
theorem Mq {a:Operand}{ts:Array TypeId}{k:FloatKind}{p q:Nat}(hk:SK P ops nt L l ((d,.one (.flt k q))::al) hs fun bs=>K (quiet::bs)) (ho:o.op = .call ⟨.builtin .imag,#[a],ts⟩:=by exact rfl) (hw:aj ops (rg al) o=some true:=by exact rfl) (hd:o.dst=some d:=by exact rfl) (hlt:Nat.blt d nt=true:=by exact rfl)
 (ha:ag (rg al) a = .one (.cplx k p q):=by exact rfl):SK P ops nt L (o::l) al hs K:=kx hw hd hlt (by rw [ho];simp [bk,eO,ha]) hk
theorem Mo {a b:Operand}{ts:Array TypeId}{k:FloatKind}{p q:Nat}(hk:SK P ops nt L l ((d,.one (.cplx k p q))::al) hs fun bs=>K (quiet::bs)) (ho:o.op = .call ⟨.builtin .complex,#[a,b],ts⟩:=by exact rfl) (hw:aj ops (rg al) o=some true:=by exact rfl) (hd:o.dst=some d:=by exact rfl) (hlt:Nat.blt d nt=true:=by exact rfl)
 (ha:ag (rg al) a = .one (.flt k p):=by exact rfl) (hb:ag (rg al) b = .one (.flt k q):=by exact rfl):SK P ops nt L (o::l) al hs K:=kx hw hd hlt (by rw [ho];simp [bk,eO,ha,hb]) hk
theorem Mn {s t:TypeId}{y:Operand}{u:TypeDesc}{k:IntKind}{x:Int}(hk:SK P ops nt L l ((d,.one (.flt .f64 (fO x)))::al) hs fun bs=>K (quiet::bs)) (ho:o.op = .convert s t y:=by exact rfl) (hw:aj ops (rg al) o=some true:=by exact rfl) (hd:o.dst=some d:=by exact rfl) (hlt:Nat.blt d nt=true:=by exact rfl)
 (hy:ag (rg al) y = .one (.int k x):=by exact rfl) (h1:aY P s u:=by infer_instance) (h2:aY P t (.float .f64):=by infer_instance):SK P ops nt L (o::l) al hs K:=kx hw hd hlt (by rw [ho];simp only [bk,j0,hy,h1.out,h2.out];rfl) hk
theorem Lr {t t':TypeId}{a b:Operand}{x y:Int × Int}(h1:x=y→SK P ops nt L l ((d,.one (.bool true))::al) hs fun bs=>K (quiet::bs)) (h2:x≠y→SK P ops nt L l ((d,.one (.bool false))::al) hs fun bs=>K (quiet::bs)) (hx:fc x.1∧fc x.2) (hy:fc y.1∧fc y.2) (ho:o.op = .binOp .eql t a b t':=by exact rfl) (hw:aj ops (rg al) o=some true:=by exact rfl) (hd:o.dst=some d:=by exact rfl) (hlt:Nat.blt d nt=true:=by exact rfl)
 (ha:ag (rg al) a = .one (cq x):=by exact rfl) (hb:ag (rg al) b = .one (cq y):=by exact rfl):SK P ops nt L (o::l) al hs K:=by
 obtain⟨x1,x2⟩:=x
 obtain⟨y1,y2⟩:=y
 have key:bk P (ag (rg al)) o.op=some (.one (.bool (decide (x1=y1) && decide (x2=y2)))):=by
  rw [ho]
  simp only [bk,ha,hb,cq,qm,xN,if_true,t5 hx.1 hy.1,t5 hx.2 hy.2,Option.map_some]
 refine kx hw hd hlt key ?_
 by_cases h:x1=y1∧x2=y2
 · simp only [h.1,h.2,decide_true,Bool.and_self]
   exact h1 (by rw [h.1,h.2])
 · have:(decide (x1=y1) && decide (x2=y2))=false:=by
    simp only [Bool.and_eq_false_iff,decide_eq_false_iff_not]
    rcases Classical.em (x1=y1)with h3|h3
    · exact .inr fun h4=>h ⟨h3,h4⟩
    · exact .inl h3
   rw [this]
   exact h2 fun e=>h (by cases e;exact⟨rfl,rfl⟩)
theorem CM {t t':TypeId}{a b:Operand}{x y:Int × Int}(h1:x≠y→SK P ops nt L l ((d,.one (.bool true))::al) hs fun bs=>K (quiet::bs)) (h2:x=y→SK P ops nt L l ((d,.one (.bool false))::al) hs fun bs=>K (quiet::bs)) (hx:fc x.1∧fc x.2) (hy:fc y.1∧fc y.2) {cb:XC}(hcb:cb=cq y) (ho:o.op = .binOp .neq t a b t':=by exact rfl) (hw:aj ops (rg al) o=some true:=by exact rfl) (hd:o.dst=some d:=by exact rfl) (hlt:Nat.blt d nt=true:=by exact rfl)
 (ha:ag (rg al) a = .one (cq x):=by exact rfl) (hb:ag (rg al) b = .one cb:=by exact rfl):SK P ops nt L (o::l) al hs K:=by
 obtain⟨x1,x2⟩:=x
 obtain⟨y1,y2⟩:=y
 subst hcb
 have key:bk P (ag (rg al)) o.op=some (.one (.bool (!(decide (x1=y1) && decide (x2=y2))))):=by
  rw [ho]
  simp only [bk,ha,hb,cq,qm,xN,if_true,t5 hx.1 hy.1,t5 hx.2 hy.2,Option.map_some]
 refine kx hw hd hlt key ?_
 by_cases h:x1=y1∧x2=y2
 · simp only [h.1,h.2,decide_true,Bool.and_self,Bool.not_true]
   exact h2 (by rw [h.1,h.2])
 · have:(decide (x1=y1) && decide (x2=y2))=false:=by
    simp only [Bool.and_eq_false_iff,decide_eq_false_iff_not]
    rcases Classical.em (x1=y1)with h3|h3
    · exact .inr fun h4=>h ⟨h3,h4⟩
    · exact .inl h3
   rw [this,Bool.not_false]
   exact h1 fun e=>h (by cases e;exact⟨rfl,rfl⟩)
end Go.Xm
namespace Go.Proofs.YtagpkhindehcbaaGreat
open Go.Xm
theorem mixed:Tryz.prog.follows .mixedOrders=true:=by kernel_rfl
def m9 (i:Nat):tA:=⟨105,[.one (.flt .f64 (fO ((i:Int)-32)))],.one (.int .i64 ((i:Int)-32))⟩
noncomputable def Dc:Bool:=(List.range 65).all fun i=>decide (((ny sq Tryz.prog 1000 10).call (m9 i).f (m9 i).args Mem.empty).map (·.1)=some (m9 i).v)
theorem wo:Dc=true:=by kernel_rfl
variable [aC]
theorem Cz (n:Int) (h:fc n):bq Tryz.prog 105 [.one (.flt .f64 (fO n))] [] (.one (.int .i64 n)) []:=by
 have e:(((n+32).toNat:Nat):Int)-32=n:=by have:=h.1;omega
 have h1:=List.all_eq_true.1 wo (n+32).toNat (List.mem_range.2 (by have:=h.1;have:=h.2;omega))
 have h2:=of_decide_eq_true h1
 have:=jJ (jN (r:=m9 (n+32).toNat) (KK (gT _) mixed h2 rfl))
 unfold m9 at this
 rw [e]at this
 exact this
theorem xI {n:Int}(h:fc n) {HS:aq}(hb:Nat.blt HS.length Mem.bound=true):aG.Sound Tryz.prog ⟨105,[.one (.flt .f64 (fO n))],HS,.one (.int .i64 n),HS,[]⟩:=
 az (Cz n h) rfl rfl hb
theorem pb {a b:Int}(ha:fc a) (hb:fc b) {HS:aq}:Compat ⟨105,[.one (.flt .f64 (fO a))],HS,.one (.int .i64 a),HS,[]⟩ ⟨105,[.one (.flt .f64 (fO b))],HS,.one (.int .i64 b),HS,[]⟩:=fun _ h _=>by
 simp only [List.cons.injEq,XV.one.injEq,XC.flt.injEq,true_and,and_true]at h
 have h1:=t5 ha ha
 have h2:=t5 ha hb
 rw [←h,h1]at h2
 have:a=b:=by simpa using h2
 subst this
 exact⟨rfl,rfl,rfl⟩
theorem BF (p:Int × Int) (h:fc p.1∧fc p.2):bq Tryz.prog 81 [.one (cq p)] [] (.tup [.one (.int .i64 p.1),.one (.int .i64 p.2)]) []:=by
 refine cO Tryz.func81 ?_
 repeat' (first
  |(refine qz ?_;first
   |refine MU ?_
   |refine Mq ?_
   |refine cl ?_ (hi:=by exact xI h.1 rfl)
   |refine cl ?_ (hi:=by exact xI h.2 rfl))
  |refine zG ?_|refine zA ?_|refine cX (fun _=>?_) (fun _=>?_)|refine aS (fun _=>?_) (fun _=>?_)|refine bL (by first|exact ai.nil|exact ai.one _|exact ai.nN (by repeat' (first|exact True.intro|refine And.intro ?_ ?_|exact Compat.ne rfl|exact pb h.2 h.1))) ⟨by kernel_rfl,?_⟩|refine bL (by first|exact ai.nil|exact ai.one _|exact ai.nN (by repeat' (first|exact True.intro|refine And.intro ?_ ?_|exact Compat.ne rfl|exact pb h.2 h.1))) ?_|refine zF ?_|fail)
 show aF _ _ _ _ _ _ _ _;refine kV [] ?_
 rfl
theorem ik {p:Int × Int}(h:fc p.1∧fc p.2) {HS:aq}(hb:Nat.blt HS.length Mem.bound=true):aG.Sound Tryz.prog ⟨81,[.one (cq p)],HS,.tup [.one (.int .i64 p.1),.one (.int .i64 p.2)],HS,[]⟩:=
 az (BF p h) rfl rfl hb
theorem I6 (x y:Int):bq Tryz.prog 95 [.one (.int .i64 x),.one (.int .i64 y)] [] (.one (cq (x,y))) []:=by
 refine cO Tryz.func95 ?_
 repeat' (first
  |(refine qz ?_;first
   |refine Mn ?_
   |refine Mo ?_)
  |refine zG ?_|refine zA ?_|refine cX (fun _=>?_) (fun _=>?_)|refine aS (fun _=>?_) (fun _=>?_)|refine zL ?_|refine zF ?_|fail)
 show aF _ _ _ _ _ _ _ _;refine kV [] ?_
 rfl
theorem uf {x y:Int}{HS:aq}(hb:Nat.blt HS.length Mem.bound=true):aG.Sound Tryz.prog ⟨95,[.one (.int .i64 x),.one (.int .i64 y)],HS,.one (cq (x,y)),HS,[]⟩:=
 az (I6 x y) rfl rfl hb
def cm (n:Int):Int:=(n+32)%64-32
theorem fX (n:Int) : -32≤cm n∧cm n≤31:=by unfold cm;omega
theorem FH (n:Int) (h : -1000000≤n∧n≤1000000):bq Tryz.prog 84 [.one (.int .i64 n)] [] (.one (.int .i64 (cm n))) []:=by
 refine cO Tryz.func84 ?_
 have h1:=Int.emod_nonneg (n+32) (show(2:Int)^6≠0 by decide)
 have h2:(n+32)%(2:Int)^6<64:=Int.emod_lt_of_pos (n+32) (show(0:Int)<2^6 by decide)
 have h3:=Int.emod_nonneg ((n+32)%2^6+64) (show(2:Int)^6≠0 by decide)
 have h4:((n+32)%2^6+64)%(2:Int)^6<64:=Int.emod_lt_of_pos _ (show(0:Int)<2^6 by decide)
 repeat' (first
  |(refine qz ?_;first
   |refine an (n:=6) ?_)
  |refine zG ?_|refine zA ?_|refine cX (fun _=>?_) (fun _=>?_)|refine aS (fun _=>?_) (fun _=>?_)|refine zL ?_|refine zF ?_|fail)
 show aF _ _ _ _ _ _ _ _;refine kV [] ?_
 have:((n+32)%2^6+64)%(2:Int)^6-32=cm n:=by
  unfold cm
  show((n+32)%64+64)%64-32=_
  omega
 rw [←this];rfl
theorem AT {n:Int}(h : -1000000≤n∧n≤1000000) {HS:aq}(hb:Nat.blt HS.length Mem.bound=true):aG.Sound Tryz.prog ⟨84,[.one (.int .i64 n)],HS,.one (.int .i64 (cm n)),HS,[]⟩:=
 az (FH n h) rfl rfl hb
def dO (p:Int × Int):Bool:=decide (-31≤p.1∧p.1≤31 ∧ -31≤p.2∧p.2≤31)
theorem BP (p:Int × Int) (h:fc p.1∧fc p.2):bq Tryz.prog 79 [.one (cq p)] [] (.one (.bool (dO p))) []:=by
 have hx1:=h.1.1
 have hx2:=h.1.2
 have hy1:=h.2.1
 have hy2:=h.2.2
 refine cO Tryz.func79 ?_
 by_cases ha : -31≤p.1∧p.1≤31
 · by_cases hb : -31≤p.2∧p.2≤31
   · have e:dO p=true:=decide_eq_true ⟨ha.1,ha.2,hb⟩
     rw [e]
     repeat' (first
      |(refine qz ?_;first
       |refine cl ?_ (hi:=by exact ik h rfl)
       |refine cl ?_ (hi:=by exact uf rfl)
       |refine Lr (x:=(p.1,p.2)) (y:=p) (fun _=>?_) (fun hn=>absurd rfl hn) h h)
      |refine zG ?_|refine zA ?_|refine cX (fun _=>?_) (fun _=>?_)|refine aS (fun _=>?_) (fun _=>?_)|refine zL ?_|refine zF ?_|fail)
     show aF _ _ _ _ _ _ _ _;refine kV [] ?_
     rfl
   · have e:dO p=false:=decide_eq_false fun hh=>hb hh.2.2
     rw [e]
     repeat' (first
      |(refine qz ?_;first
       |refine cl ?_ (hi:=by exact ik h rfl)
       |refine cl ?_ (hi:=by exact uf rfl)
       |refine Lr (x:=(p.1,p.2)) (y:=p) (fun _=>?_) (fun hn=>absurd rfl hn) h h)
      |refine zG ?_|refine zA ?_|refine cX (fun _=>?_) (fun _=>?_)|refine aS (fun _=>?_) (fun _=>?_)|refine zL ?_|refine zF ?_|fail)
     show aF _ _ _ _ _ _ _ _;refine kV [] ?_
     rfl
 · have e:dO p=false:=decide_eq_false fun hh=>ha ⟨hh.1,hh.2.1⟩
   rw [e]
   repeat' (first
    |(refine qz ?_;first
     |refine cl ?_ (hi:=by exact ik h rfl)
     |refine cl ?_ (hi:=by exact uf rfl)
     |refine Lr (x:=(p.1,p.2)) (y:=p) (fun _=>?_) (fun hn=>absurd rfl hn) h h)
    |refine zG ?_|refine zA ?_|refine cX (fun _=>?_) (fun _=>?_)|refine aS (fun _=>?_) (fun _=>?_)|refine zL ?_|refine zF ?_|fail)
   show aF _ _ _ _ _ _ _ _;refine kV [] ?_
   rfl
theorem d9 {p:Int × Int}(h:fc p.1∧fc p.2) {HS:aq}(hb:Nat.blt HS.length Mem.bound=true):aG.Sound Tryz.prog ⟨79,[.one (cq p)],HS,.one (.bool (dO p)),HS,[]⟩:=
 az (BP p h) rfl rfl hb
def w9 (a b c:Int):Int:=max (min a b) (min (max a b) c)
theorem GV (a b c:Int):bq Tryz.prog 107 [.one (.int .i64 a),.one (.int .i64 b),.one (.int .i64 c)] [] (.one (.int .i64 (w9 a b c))) []:=by
 refine cO Tryz.func107 ?_
 repeat' (first
  |(refine qz ?_;first
   |refine Le ?_
   |refine Mc ?_)
  |refine zG ?_|refine zA ?_|refine cX (fun _=>?_) (fun _=>?_)|refine aS (fun _=>?_) (fun _=>?_)|refine zL ?_|refine zF ?_|fail)
 show aF _ _ _ _ _ _ _ _;refine kV [] ?_
 rfl
theorem I3 {a b c:Int}{HS:aq}(hb:Nat.blt HS.length Mem.bound=true):aG.Sound Tryz.prog ⟨107,[.one (.int .i64 a),.one (.int .i64 b),.one (.int .i64 c)],HS,.one (.int .i64 (w9 a b c)),HS,[]⟩:=
 az (GV a b c) rfl rfl hb
theorem rQ {a b c a' b' c':Int}{HS:aq}:Compat ⟨107,[.one (.int .i64 a),.one (.int .i64 b),.one (.int .i64 c)],HS,.one (.int .i64 (w9 a b c)),HS,[]⟩ ⟨107,[.one (.int .i64 a'),.one (.int .i64 b'),.one (.int .i64 c')],HS,.one (.int .i64 (w9 a' b' c')),HS,[]⟩:=fun _ h _=>by
 simp only [List.cons.injEq,XV.one.injEq,XC.int.injEq,true_and,and_true]at h
 obtain⟨rfl,rfl,rfl⟩:=h
 exact⟨rfl,rfl,rfl⟩
def I2 (a b c:Int × Int):Int × Int:=(w9 a.1 b.1 c.1,w9 a.2 b.2 c.2)
def bB (p:Int × Int):Prop:=fc p.1∧fc p.2
theorem ud {a b c:Int}(ha:fc a) (hb:fc b) (hc:fc c):fc (w9 a b c):=by
 unfold w9 fc at *
 omega
theorem yQ (a b c:Int × Int) (ha:bB a) (hb:bB b) (hc:bB c):bq Tryz.prog 87 [.one (cq a),.one (cq b),.one (cq c)] [] (.one (cq (I2 a b c))) []:=by
 refine cO Tryz.func87 ?_
 repeat' (first
  |(refine qz ?_;first
   |refine cl ?_ (hi:=by exact ik ha rfl)
   |refine cl ?_ (hi:=by exact ik hb rfl)
   |refine cl ?_ (hi:=by exact ik hc rfl)
   |refine cl ?_ (hi:=by exact I3 rfl)
   |refine cl ?_ (hi:=by exact uf rfl))
  |refine zG ?_|refine zA ?_|refine cX (fun _=>?_) (fun _=>?_)|refine aS (fun _=>?_) (fun _=>?_)|refine bL (by first|exact ai.nil|exact ai.one _|exact ai.nN (by repeat' (first|exact True.intro|refine And.intro ?_ ?_|exact Compat.ne rfl|exact rQ))) ⟨by kernel_rfl,?_⟩|refine bL (by first|exact ai.nil|exact ai.one _|exact ai.nN (by repeat' (first|exact True.intro|refine And.intro ?_ ?_|exact Compat.ne rfl|exact rQ))) ?_|refine zF ?_|fail)
 show aF _ _ _ _ _ _ _ _;refine kV [] ?_
 rfl
theorem gR {a b c:Int × Int}(ha:bB a) (hb:bB b) (hc:bB c) {HS:aq}(hbd:Nat.blt HS.length Mem.bound=true):aG.Sound Tryz.prog ⟨87,[.one (cq a),.one (cq b),.one (cq c)],HS,.one (cq (I2 a b c)),HS,[]⟩:=
 az (yQ a b c ha hb hc) rfl rfl hbd
def vt (v:Nat→Int × Int):List XC:=[cq (v 0),cq (v 1),cq (v 2),cq (v 3)]
theorem xx (x y:Int) (hx : -128≤x∧x<128) (hy : -128≤y∧y<128):bq Tryz.prog 77 [.one (.int .i8 x),.one (.int .i8 y)] [] (.one (cq (x.tmod 32,y.tmod 32))) []:=by
 have ex:a_ .rem .i64 .i64 x 32=some (.int .i64 (x.tmod 32)):=zY (by decide) rfl
 have ey:a_ .rem .i64 .i64 y 32=some (.int .i64 (y.tmod 32)):=zY (by decide) rfl
 refine cO Tryz.func77 ?_
 repeat' (first
  |(refine qz ?_;first
   |refine eY rfl rfl rfl rfl rfl rfl ex ?_
   |refine eY rfl rfl rfl rfl rfl rfl ey ?_
   |refine cl ?_ (hi:=by exact uf rfl))
  |refine zG ?_|refine zA ?_|refine cX (fun _=>?_) (fun _=>?_)|refine aS (fun _=>?_) (fun _=>?_)|refine zL ?_|refine zF ?_|fail)
 show aF _ _ _ _ _ _ _ _;refine kV [] ?_
 rfl
theorem zf {x y:Int}(hx : -128≤x∧x<128) (hy : -128≤y∧y<128) {HS:aq}(hb:Nat.blt HS.length Mem.bound=true):aG.Sound Tryz.prog ⟨77,[.one (.int .i8 x),.one (.int .i8 y)],HS,.one (cq (x.tmod 32,y.tmod 32)),HS,[]⟩:=
 az (xx x y hx hy) rfl rfl hb
theorem F9 (p:Int × Int):bq Tryz.prog 44 [.one (cq p)] [] (.agg (vt fun _=>p)) []:=by
 refine cO Tryz.func44 ?_
 repeat' (first|refine zG ?_|refine zA ?_|refine cX (fun _=>?_) (fun _=>?_)|refine aS (fun _=>?_) (fun _=>?_)|refine zL ?_|refine zF ?_|fail)
 show aF _ _ _ _ _ _ _ _;refine kV [] ?_
 rfl
theorem IB {p:Int × Int}{HS:aq}(hb:Nat.blt HS.length Mem.bound=true):aG.Sound Tryz.prog ⟨44,[.one (cq p)],HS,.agg (vt fun _=>p),HS,[]⟩:=
 az (F9 p) rfl rfl hb
end Go.Proofs.YtagpkhindehcbaaGreat
