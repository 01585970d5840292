/-
  A part of the proof: Flt.
-/
import Derived.Test.YthdciapjllppjaaGreatWaF
set_option maxRecDepth 10000
set_option maxHeartbeats 8000000
set_option linter.unusedVariables false
set_option linter.unusedSectionVars false
set_option linter.unusedSimpArgs false
open Go.Proofs.Tryz (prog)
namespace Go.Xm
variable [ak]
variable {P:Program} {ops:Array Oper} {nt nI:Nat} {al:aN} {hs:ah} {o:Oper} {l:List Oper} {L:List az} {K:List Ab->aN->ah->Prop} {d:Nat}
def fO(n:Int):Nat:=FloatKind.nearest .f64 n
def cS(p:Int×Int):XC := .cplx .f64 (fO p.1) (fO p.2)
def fT(n:Int):Prop := -32<=n/\n<=32
def NY:List (Int×Nat):=(List.range 65).map fun(i:Nat)=>((i:Int)-32,fO ((i:Int)-32))
def Sj(l:List (Int×Nat)):Bool:=l.all fun p=>l.all fun q=>FloatKind.f64.format.order p.2 q.2==some (compare p.1 q.1)
set_option maxRecDepth 100000 in
theorem K_:Sj NY=true:=by decide +kernel
theorem AN{n:Int}(h:fT n):(n,fO n)∈NY:=by
 unfold NY;refine List.mem_map.2 ⟨(n+32).toNat,List.mem_range.2 (by have:=h.1;have:=h.2;omega),?_⟩;have e:(((n+32).toNat:Nat):Int)-32=n:=by have:=h.1;omega
 rw[e]
theorem HB{x y:Int}(hx:fT x)(hy:fT y):FloatKind.f64.format.order (fO x) (fO y)=some (compare x y):=by
 have h:=K_;have h1:=List.all_eq_true.1 h _ (AN hx);have h2:=List.all_eq_true.1 h1 _ (AN hy);simpa using h2
theorem wL{x y:Int}(hx:fT x)(hy:fT y):(FloatKind.f64.format.order (fO x) (fO y)==some .eq)=decide (x=y):=by
 rw[HB hx hy]
 by_cases h:x=y
 ·subst h;have:compare x x = .eq:=by simp
  rw[this];simp
 ·have:compare x y ≠ .eq:=by simpa [Int.compare_eq_eq]using h
  simp only[h,decide_false];cases hc:compare x y<;>first|(exact absurd hc this)|rfl
theorem K9:fO 0=0:=by decide +kernel
theorem iH:cS (0,0) = .cplx .f64 0 0:=by unfold cS;rw[K9]
theorem T0{a:Operand}{ts:Array TypeId}{k:FloatKind}{p q:Nat}(hk:SK P ops nt L l ((d,.one (.flt k p))::al) hs fun bs=>K (quiet::bs))(ho:o.op = .call ⟨.builtin .real,#[a],ts⟩:=by exact rfl)(hw:av ops (rg al) o=some true:=by exact rfl)(hd:o.dst=some d:=by exact rfl)(hlt:Nat.blt d nt=true:=by exact rfl)
 (ha:ae (rg al) a = .one (.cplx k p q):=by exact rfl):SK P ops nt L (o::l) al hs K:=lq hw hd hlt (by rw[ho];simp[aY,ec,ha]) hk
theorem Tq{a:Operand}{ts:Array TypeId}{k:FloatKind}{p q:Nat}(hk:SK P ops nt L l ((d,.one (.flt k q))::al) hs fun bs=>K (quiet::bs))(ho:o.op = .call ⟨.builtin .imag,#[a],ts⟩:=by exact rfl)(hw:av ops (rg al) o=some true:=by exact rfl)(hd:o.dst=some d:=by exact rfl)(hlt:Nat.blt d nt=true:=by exact rfl)
 (ha:ae (rg al) a = .one (.cplx k p q):=by exact rfl):SK P ops nt L (o::l) al hs K:=lq hw hd hlt (by rw[ho];simp[aY,ec,ha]) hk
theorem To{a b:Operand}{ts:Array TypeId}{k:FloatKind}{p q:Nat}(hk:SK P ops nt L l ((d,.one (.cplx k p q))::al) hs fun bs=>K (quiet::bs))(ho:o.op = .call ⟨.builtin .complex,#[a,b],ts⟩:=by exact rfl)(hw:av ops (rg al) o=some true:=by exact rfl)(hd:o.dst=some d:=by exact rfl)(hlt:Nat.blt d nt=true:=by exact rfl)
 (ha:ae (rg al) a = .one (.flt k p):=by exact rfl) (hb:ae (rg al) b = .one (.flt k q):=by exact rfl):SK P ops nt L (o::l) al hs K:=lq hw hd hlt (by rw[ho];simp[aY,ec,ha,hb]) hk
theorem Tn{s t:TypeId}{y:Operand}{u:TypeDesc}{k:IntKind}{x:Int}(hk:SK P ops nt L l ((d,.one (.flt .f64 (fO x)))::al) hs fun bs=>K (quiet::bs))(ho:o.op = .convert s t y:=by exact rfl)(hw:av ops (rg al) o=some true:=by exact rfl)(hd:o.dst=some d:=by exact rfl)(hlt:Nat.blt d nt=true:=by exact rfl)
 (hy:ae (rg al) y = .one (.int k x):=by exact rfl) (h1:aP P s u:=by infer_instance) (h2:aP P t (.float .f64):=by infer_instance):SK P ops nt L (o::l) al hs K:=lq hw hd hlt (by rw[ho];simp only[aY,kK,hy,h1.out,h2.out];rfl) hk
theorem Se{t t':TypeId}{a b:Operand}{x y:Int×Int}(h1:x=y->SK P ops nt L l ((d,.one (.bool true))::al) hs fun bs=>K (quiet::bs))(h2:x≠y->SK P ops nt L l ((d,.one (.bool false))::al) hs fun bs=>K (quiet::bs))(hx:fT x.1/\fT x.2)(hy:fT y.1/\fT y.2)(ho:o.op = .binOp .eql t a b t':=by exact rfl)(hw:av ops (rg al) o=some true:=by exact rfl)(hd:o.dst=some d:=by exact rfl)(hlt:Nat.blt d nt=true:=by exact rfl)
 (ha:ae (rg al) a = .one (cS x):=by exact rfl) (hb:ae (rg al) b = .one (cS y):=by exact rfl):SK P ops nt L (o::l) al hs K:=by
 obtain⟨x1,x2⟩:=x;obtain⟨y1,y2⟩:=y
 have key:aY P (ae (rg al)) o.op=some (.one (.bool (decide (x1=y1)&&decide (x2=y2)))):=by
  rw[ho];simp only[aY,ha,hb,cS,vv,A0,if_true,wL hx.1 hy.1,wL hx.2 hy.2,Option.map_some]
 refine lq hw hd hlt key ?_
 by_cases h:x1=y1/\x2=y2
 ·simp only[h.1,h.2,decide_true,Bool.and_self];exact h1 (by rw[h.1,h.2])
 ·have:(decide (x1=y1)&&decide (x2=y2))=false:=by
   simp only[Bool.and_eq_false_iff,decide_eq_false_iff_not]
   rcases Classical.em (x1=y1)with h3|h3
   ·exact .inr fun h4=>h ⟨h3,h4⟩
   ·exact .inl h3
  rw[this];exact h2 fun e=>h (by cases e;exact⟨rfl,rfl⟩)
theorem GH{t t':TypeId}{a b:Operand}{x y:Int×Int}(h1:x≠y->SK P ops nt L l ((d,.one (.bool true))::al) hs fun bs=>K (quiet::bs))(h2:x=y->SK P ops nt L l ((d,.one (.bool false))::al) hs fun bs=>K (quiet::bs))(hx:fT x.1/\fT x.2)(hy:fT y.1/\fT y.2){cb:XC}(hcb:cb=cS y)(ho:o.op = .binOp .neq t a b t':=by exact rfl)(hw:av ops (rg al) o=some true:=by exact rfl)(hd:o.dst=some d:=by exact rfl)(hlt:Nat.blt d nt=true:=by exact rfl)
 (ha:ae (rg al) a = .one (cS x):=by exact rfl) (hb:ae (rg al) b = .one cb:=by exact rfl):SK P ops nt L (o::l) al hs K:=by
 obtain⟨x1,x2⟩:=x;obtain⟨y1,y2⟩:=y;subst hcb
 have key:aY P (ae (rg al)) o.op=some (.one (.bool (!(decide (x1=y1)&&decide (x2=y2))))):=by
  rw[ho];simp only[aY,ha,hb,cS,vv,A0,if_true,wL hx.1 hy.1,wL hx.2 hy.2,Option.map_some]
 refine lq hw hd hlt key ?_
 by_cases h:x1=y1/\x2=y2
 ·simp only[h.1,h.2,decide_true,Bool.and_self,Bool.not_true];exact h2 (by rw[h.1,h.2])
 ·have:(decide (x1=y1)&&decide (x2=y2))=false:=by
   simp only[Bool.and_eq_false_iff,decide_eq_false_iff_not]
   rcases Classical.em (x1=y1)with h3|h3
   ·exact .inr fun h4=>h ⟨h3,h4⟩
   ·exact .inl h3
  rw[this,Bool.not_false];exact h1 fun e=>h (by cases e;exact⟨rfl,rfl⟩)
end Go.Xm
namespace Go.Proofs.YthdciapjllppjaaGreat
open Go.Xm
theorem mixed:prog.follows .mixedOrders=true:=by kernel_rfl
def nZ(i:Nat):xJ:=⟨132,[.one (.flt .f64 (fO ((i:Int)-32)))],.one (.int .i64 ((i:Int)-32))⟩
noncomputable def Hi:Bool:=(List.range 65).all fun i=>decide (((pv wZ prog 1000 10).call (nZ i).f (nZ i).args Mem.empty).map (·.1)=some (nZ i).v)
theorem zk:Hi=true:=by kernel_rfl
variable [ak]
theorem Gq(n:Int)(h:fT n):bq prog 132 [.one (.flt .f64 (fO n))] [] (.one (.int .i64 n)) []:=by
 have e:(((n+32).toNat:Nat):Int)-32=n:=by have:=h.1;omega
 have h1:=List.all_eq_true.1 zk (n+32).toNat (List.mem_range.2 (by have:=h.1;have:=h.2;omega));have h2:=of_decide_eq_true h1;have:=my (mB (r:=nZ (n+32).toNat) (RR (jw _) mixed h2 rfl));unfold nZ at this;rw[e]at this;exact this
theorem AV{n:Int}(h:fT n){HS:ah}(hb:Nat.blt HS.length Mem.bound=true):az.Sound prog ⟨132,[.one (.flt .f64 (fO n))],HS,.one (.int .i64 n),HS,[]⟩:=
 ay (Gq n h) rfl rfl hb
theorem qc{a b:Int}(ha:fT a)(hb:fT b){HS:ah}:Compat ⟨132,[.one (.flt .f64 (fO a))],HS,.one (.int .i64 a),HS,[]⟩ ⟨132,[.one (.flt .f64 (fO b))],HS,.one (.int .i64 b),HS,[]⟩:=fun _ h _=>by
 simp only[List.cons.injEq,XV.one.injEq,XC.flt.injEq,true_and,and_true]at h;have h1:=wL ha ha;have h2:=wL ha hb;rw[<-h,h1]at h2;have:a=b:=by simpa using h2
 subst this;exact⟨rfl,rfl,rfl⟩
theorem Fl(p:Int×Int)(h:fT p.1/\fT p.2):bq prog 100 [.one (cS p)] [] (.tup [.one (.int .i64 p.1),.one (.int .i64 p.2)]) []:=by
 refine cO Tryz.func100 ?_
 repeat' (first
  |(refine qz ?_;first
   |refine T0 ?_
   |refine Tq ?_
   |refine cl ?_ (hi:=by exact AV h.1 rfl)
   |refine cl ?_ (hi:=by exact AV h.2 rfl))
  |refine zz ?_|refine zx (fun _=>?_) (fun _=>?_)|refine bm (by first|exact ag.nil|exact ag.one _|exact ag.mh (by repeat' (first|exact True.intro|refine And.intro ?_ ?_|exact Compat.ne rfl|exact qc h.2 h.1))) ⟨by kernel_rfl,?_⟩|refine bm (by first|exact ag.nil|exact ag.one _|exact ag.mh (by repeat' (first|exact True.intro|refine And.intro ?_ ?_|exact Compat.ne rfl|exact qc h.2 h.1))) ?_|fail)
 show aE _ _ _ _ _ _ _ _;refine kV [] ?_;rfl
theorem jx{p:Int×Int}(h:fT p.1/\fT p.2){HS:ah}(hb:Nat.blt HS.length Mem.bound=true):az.Sound prog ⟨100,[.one (cS p)],HS,.tup [.one (.int .i64 p.1),.one (.int .i64 p.2)],HS,[]⟩:=
 ay (Fl p h) rfl rfl hb
theorem Ou(x y:Int):bq prog 109 [.one (.int .i64 x),.one (.int .i64 y)] [] (.one (cS (x,y))) []:=by
 refine cO Tryz.func109 ?_
 repeat' (first
  |(refine qz ?_;first
   |refine Tn ?_
   |refine To ?_)
  |refine zz ?_|refine zx (fun _=>?_) (fun _=>?_)|fail)
 show aE _ _ _ _ _ _ _ _;refine kV [] ?_;rfl
theorem zY{x y:Int}{HS:ah}(hb:Nat.blt HS.length Mem.bound=true):az.Sound prog ⟨109,[.one (.int .i64 x),.one (.int .i64 y)],HS,.one (cS (x,y)),HS,[]⟩:=
 ay (Ou x y) rfl rfl hb
def iK(n:Int):Int:=(n+32)%64-32
theorem mW(n:Int) : -32<=iK n/\iK n<=31:=by unfold iK;omega
theorem Ke(n:Int)(h : -1000000<=n/\n<=1000000):bq prog 115 [.one (.int .i64 n)] [] (.one (.int .i64 (iK n))) []:=by
 refine cO Tryz.func115 ?_;have h1:=Int.emod_nonneg (n+32) (show(2:Int)^6≠0 by decide);have h2:(n+32)%(2:Int)^6<64:=Int.emod_lt_of_pos (n+32) (show(0:Int)<2^6 by decide);have h3:=Int.emod_nonneg ((n+32)%2^6+64) (show(2:Int)^6≠0 by decide);have h4:((n+32)%2^6+64)%(2:Int)^6<64:=Int.emod_lt_of_pos _ (show(0:Int)<2^6 by decide)
 repeat' (first
  |(refine qz ?_;first
   |refine an (n:=6) ?_)
  |refine zz ?_|refine zx (fun _=>?_) (fun _=>?_)|fail)
 show aE _ _ _ _ _ _ _ _;refine kV [] ?_
 have:((n+32)%2^6+64)%(2:Int)^6-32=iK n:=by
  unfold iK;show((n+32)%64+64)%64-32=_;omega
 rw[<-this];rfl
theorem MG{n:Int}(h : -1000000<=n/\n<=1000000){HS:ah}(hb:Nat.blt HS.length Mem.bound=true):az.Sound prog ⟨115,[.one (.int .i64 n)],HS,.one (.int .i64 (iK n)),HS,[]⟩:=
 ay (Ke n h) rfl rfl hb
def fg(p:Int×Int):Bool:=decide (-31<=p.1/\p.1<=31 /\ -31<=p.2/\p.2<=31)
theorem FN(p:Int×Int)(h:fT p.1/\fT p.2):bq prog 111 [.one (cS p)] [] (.one (.bool (fg p))) []:=by
 have hx1:=h.1.1;have hx2:=h.1.2;have hy1:=h.2.1;have hy2:=h.2.2;refine cO Tryz.func111 ?_
 by_cases ha : -31<=p.1/\p.1<=31
 ·by_cases hb : -31<=p.2/\p.2<=31
  ·have e:fg p=true:=decide_eq_true ⟨ha.1,ha.2,hb⟩;rw[e]
   repeat' (first
    |(refine qz ?_;first
     |refine cl ?_ (hi:=by exact jx h rfl)
     |refine cl ?_ (hi:=by exact zY rfl)
     |refine Se (x:=(p.1,p.2)) (y:=p) (fun _=>?_) (fun hn=>absurd rfl hn) h h)
    |refine zz ?_|refine zx (fun _=>?_) (fun _=>?_)|fail)
   show aE _ _ _ _ _ _ _ _;refine kV [] ?_;rfl
  ·have e:fg p=false:=decide_eq_false fun hh=>hb hh.2.2
   rw[e]
   repeat' (first
    |(refine qz ?_;first
     |refine cl ?_ (hi:=by exact jx h rfl)
     |refine cl ?_ (hi:=by exact zY rfl)
     |refine Se (x:=(p.1,p.2)) (y:=p) (fun _=>?_) (fun hn=>absurd rfl hn) h h)
    |refine zz ?_|refine zx (fun _=>?_) (fun _=>?_)|fail)
   show aE _ _ _ _ _ _ _ _;refine kV [] ?_;rfl
 ·have e:fg p=false:=decide_eq_false fun hh=>ha ⟨hh.1,hh.2.1⟩
  rw[e]
  repeat' (first
   |(refine qz ?_;first
    |refine cl ?_ (hi:=by exact jx h rfl)
    |refine cl ?_ (hi:=by exact zY rfl)
    |refine Se (x:=(p.1,p.2)) (y:=p) (fun _=>?_) (fun hn=>absurd rfl hn) h h)
   |refine zz ?_|refine zx (fun _=>?_) (fun _=>?_)|fail)
  show aE _ _ _ _ _ _ _ _;refine kV [] ?_;rfl
theorem eO{p:Int×Int}(h:fT p.1/\fT p.2){HS:ah}(hb:Nat.blt HS.length Mem.bound=true):az.Sound prog ⟨111,[.one (cS p)],HS,.one (.bool (fg p)),HS,[]⟩:=
 ay (FN p h) rfl rfl hb
def zW(a b c:Int):Int:=max (min a b) (min (max a b) c)
theorem Lz(a b c:Int):bq prog 137 [.one (.int .i64 a),.one (.int .i64 b),.one (.int .i64 c)] [] (.one (.int .i64 (zW a b c))) []:=by
 refine cO Tryz.func137 ?_
 repeat' (first
  |(refine qz ?_;first
   |refine RP ?_
   |refine S8 ?_)
  |refine zz ?_|refine zx (fun _=>?_) (fun _=>?_)|fail)
 show aE _ _ _ _ _ _ _ _;refine kV [] ?_;rfl
theorem Om{a b c:Int}{HS:ah}(hb:Nat.blt HS.length Mem.bound=true):az.Sound prog ⟨137,[.one (.int .i64 a),.one (.int .i64 b),.one (.int .i64 c)],HS,.one (.int .i64 (zW a b c)),HS,[]⟩:=
 ay (Lz a b c) rfl rfl hb
theorem tO{a b c a' b' c':Int}{HS:ah}:Compat ⟨137,[.one (.int .i64 a),.one (.int .i64 b),.one (.int .i64 c)],HS,.one (.int .i64 (zW a b c)),HS,[]⟩ ⟨137,[.one (.int .i64 a'),.one (.int .i64 b'),.one (.int .i64 c')],HS,.one (.int .i64 (zW a' b' c')),HS,[]⟩:=fun _ h _=>by
 simp only[List.cons.injEq,XV.one.injEq,XC.int.injEq,true_and,and_true]at h;obtain⟨rfl,rfl,rfl⟩:=h;exact⟨rfl,rfl,rfl⟩
def Ok(a b c:Int×Int):Int×Int:=(zW a.1 b.1 c.1,zW a.2 b.2 c.2)
def bJ(p:Int×Int):Prop:=fT p.1/\fT p.2
theorem wX{a b c:Int}(ha:fT a)(hb:fT b)(hc:fT c):fT (zW a b c):=by
 unfold zW fT at *;omega
theorem B3(a b c:Int×Int)(ha:bJ a)(hb:bJ b)(hc:bJ c):bq prog 118 [.one (cS a),.one (cS b),.one (cS c)] [] (.one (cS (Ok a b c))) []:=by
 refine cO Tryz.func118 ?_
 repeat' (first
  |(refine qz ?_;first
   |refine cl ?_ (hi:=by exact jx ha rfl)
   |refine cl ?_ (hi:=by exact jx hb rfl)
   |refine cl ?_ (hi:=by exact jx hc rfl)
   |refine cl ?_ (hi:=by exact Om rfl)
   |refine cl ?_ (hi:=by exact zY rfl))
  |refine zz ?_|refine zx (fun _=>?_) (fun _=>?_)|refine bm (by first|exact ag.nil|exact ag.one _|exact ag.mh (by repeat' (first|exact True.intro|refine And.intro ?_ ?_|exact Compat.ne rfl|exact tO))) ⟨by kernel_rfl,?_⟩|refine bm (by first|exact ag.nil|exact ag.one _|exact ag.mh (by repeat' (first|exact True.intro|refine And.intro ?_ ?_|exact Compat.ne rfl|exact tO))) ?_|fail)
 show aE _ _ _ _ _ _ _ _;refine kV [] ?_;rfl
theorem g_{a b c:Int×Int}(ha:bJ a)(hb:bJ b)(hc:bJ c){HS:ah}(hbd:Nat.blt HS.length Mem.bound=true):az.Sound prog ⟨118,[.one (cS a),.one (cS b),.one (cS c)],HS,.one (cS (Ok a b c)),HS,[]⟩:=
 ay (B3 a b c ha hb hc) rfl rfl hbd
def vt(v:Nat->Int×Int):List XC:=[cS (v 0),cS (v 1),cS (v 2),cS (v 3)]
theorem AD(x y:Int)(hx : -128<=x/\x<128)(hy : -128<=y/\y<128):bq prog 81 [.one (.int .i8 x),.one (.int .i8 y)] [] (.one (cS (x.tmod 32,y.tmod 32))) []:=by
 have ex:bB .rem .i64 .i64 x 32=some (.int .i64 (x.tmod 32)):=De (by decide) rfl;have ey:bB .rem .i64 .i64 y 32=some (.int .i64 (y.tmod 32)):=De (by decide) rfl;refine cO Tryz.func81 ?_
 repeat' (first
  |(refine qz ?_;first
   |refine gE rfl rfl rfl rfl rfl rfl ex ?_
   |refine gE rfl rfl rfl rfl rfl rfl ey ?_
   |refine cl ?_ (hi:=by exact zY rfl))
  |refine zz ?_|refine zx (fun _=>?_) (fun _=>?_)|fail)
 show aE _ _ _ _ _ _ _ _;refine kV [] ?_;rfl
theorem Cx{x y:Int}(hx : -128<=x/\x<128)(hy : -128<=y/\y<128){HS:ah}(hb:Nat.blt HS.length Mem.bound=true):az.Sound prog ⟨81,[.one (.int .i8 x),.one (.int .i8 y)],HS,.one (cS (x.tmod 32,y.tmod 32)),HS,[]⟩:=
 ay (AD x y hx hy) rfl rfl hb
theorem KO(p:Int×Int):bq prog 55 [.one (cS p)] [] (.agg (vt fun _=>p)) []:=by
 refine cO Tryz.func55 ?_
 repeat' (first|refine zz ?_|refine zx (fun _=>?_) (fun _=>?_)|fail)
 show aE _ _ _ _ _ _ _ _;refine kV [] ?_;rfl
theorem NG{p:Int×Int}{HS:ah}(hb:Nat.blt HS.length Mem.bound=true):az.Sound prog ⟨55,[.one (cS p)],HS,.agg (vt fun _=>p),HS,[]⟩:=
 ay (KO p) rfl rfl hb
end Go.Proofs.YthdciapjllppjaaGreat
