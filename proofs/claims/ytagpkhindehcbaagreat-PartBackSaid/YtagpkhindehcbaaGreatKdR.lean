/-
  A part of the proof: StaR, TabS, EvLaw, Blocks0, Firsts, OutL, Fill1.
-/
import Derived.Test.YtagpkhindehcbaaGreatKdM
import Derived.Test.YtagpkhindehcbaaGreatKdQ
set_option maxRecDepth 10000
set_option maxHeartbeats 8000000
set_option linter.unusedVariables false
set_option linter.unusedSectionVars false
set_option linter.unusedSimpArgs false
namespace Go.Proofs.YtagpkhindehcbaaGreat
open Go.Xm
variable [az]
theorem MY (a b c:List XC) (e e':TypeId) (S S':bC):dP (.cells a e false false :: .cells b e' false false::dI S) (.cells c e false false :: .cells b e' false false::dI S')=true:=by
 simp [dP,ak.live,ak.own]
theorem OU {f:FuncId} {more:List XV}(hm:∀ τ,dF τ more more) (hmo:eV 22 more) {v:XV} [bz v] {L:List Int} {B:List Bool} {p p':Nat} {e e':Bool} {S:bC}(hc:bn Tryz.prog f (.one (.ptr 2 0) :: .one (.ptr 0 0)::more) (br 1 L B p e::aM L::dI S) v (br 1 L B p' e'::aM L::dI S))
 {HS:aj}(hi:HS[0]? = some (br 1 L B p e)) (hk:HS[1]? = some (aM L)) (hS:(HS.drop 2).take 20=dI S) {HS':aj}(hh:HS.set 0 (br 1 L B p' e')=HS') (hbd:Nat.blt HS'.length Mem.bound=true) :
 aH.Sound Tryz.prog ⟨f,.one (.ptr 2 0) :: .one (.ptr 0 0)::more,HS,v,HS',[0]⟩:=by
 have nd:=qX (k:=1) (.inl rfl)
 have ht:∀ j,2≤j→j<22→nth (0::1::bL) j=j:=fun j h1 h2=>by
  have:=mY 1 [] j h1 h2
  rwa [List.append_nil]at this
 have ht':∀ j,2≤j→j<22→nth ((0::1::bL)++List.range' HS.length 0) j=j:=mY 1 _
 have hv:=o3 S ht hS (ls:=[]) .nil
 rw [List.append_nil,List.append_nil]at hv
 have ho:=gp S 22 (Nat.le_refl _) (l:=[]) .nil
 rw [List.append_nil]at ho
 have hr:=qW S ht' (l:=[]) (l':=[]) .nil
 rw [List.append_nil]at hr
 have hh':bG HS (0::1::bL) (br 1 L B p' e'::aM L::dI S)=HS':=by
  rw [←hh,bG,bG,aG (i:=1) (by rw [List.getElem?_set_ne (by decide)];exact hk)]
  have:=pZ bL (dI S) (HS.set 0 (br 1 L B p' e')) [] rfl fun j i hj=>by
   obtain⟨h1,rfl⟩:=sZ hj
   have hl:j<(dI S).length:=h1
   exact⟨(dI S)[j],by rw [List.getElem?_set_ne (by omega),xO hS h1,List.getElem?_eq_getElem hl],List.getElem?_eq_getElem hl⟩
  rw [List.append_nil,List.append_nil]at this
  exact this
 refine bV (0::1::bL) [0] 0 hc nd (.cons hi (.flat hk hv)) (.cons (by simp [ak.b7,XC.ok]) (.flat ho)) (.cons (by simp [ak.b7,XC.ok]) (.flat ho)) rfl (.cons (by show 2<22;omega) (.cons (by show 0<22;omega) hmo)) (.cons rfl (.cons rfl (hm _))) (bz.ok _) (bz.ay _) ?_ (MY ..) rfl hh' hbd (.inr fun j hjl hj=>?_)
 · exact .cons rfl (.flat hr)
 · subst hh
   exact List.getElem?_set_ne (fun h=>hj (by rw [←h];exact List.mem_singleton.2 rfl))
theorem IL {L:List Int} {B:List Bool}(h:cK L B) (r:Nat × Bool) {S:bC} {HS:aj}(hi:HS[0]? = some (br 1 L B r.1 r.2)) (hk:HS[1]? = some (aM L)) (hS:(HS.drop 2).take 20=dI S) {HS':aj}(hh:HS.set 0 (br 1 L B (fJ B r).2.1 (fJ B r).2.2)=HS') (hbd:Nat.blt HS'.length Mem.bound=true) :
 aH.Sound Tryz.prog ⟨96,[.one (.ptr 2 0),.one (.ptr 0 0)],HS,.one (.int .i64 (fJ B r).1),HS',[0]⟩:=
 OU (fun _ => .nil) .nil (Ld h r S) hi hk hS hh hbd
end Go.Proofs.YtagpkhindehcbaaGreat
namespace Go.Proofs.YtagpkhindehcbaaGreat
open Go.Xm
variable [az]
def xA (S:bC) (mb k dx dy:Int):Option Kn:=c9 S.A S.B S.C S.cols (placeOf S.cols mb k).1 ((placeOf S.cols mb k).2.1-dx) ((placeOf S.cols mb k).2.2-dy)
def aL (S:bC) (mb k q:Int):Int × Int:=jG (xA S mb k 1 0) (xA S mb k 0 1) (xA S mb k 1 1) q
def cz (S:bC) (mb k q:Int):Nat→Int:=tA (xA S mb k 1 0) (xA S mb k 0 1) (xA S mb k 1 1) q
def lF (S:bC) (mb k:Int):Int:=(placeOf S.cols mb k).2.2*cL S.cols (placeOf S.cols mb k).1+(placeOf S.cols mb k).2.1
def aN (S:bC) (mb k:Int) (b:Kn):bC:={S with A:=i3 (placeOf S.cols mb k).1 0 S.A (lF S mb k) b,B:=i3 (placeOf S.cols mb k).1 1 S.B (lF S mb k) b,C:=i3 (placeOf S.cols mb k).1 2 S.C (lF S mb k) b}
theorem bI (n q:Int):0≤dm n q∧dm n q≤127:=by
 have h:=m9 q
 have:0≤(max n 0+stepOf q/2)/stepOf q:=Int.ediv_nonneg (by omega) (by omega)
 unfold dm
 omega
theorem GF (la lb lc:Option Kn) (q:Int):0≤(jG la lb lc q).2∧(jG la lb lc q).2≤127∧0≤(jG la lb lc q).1∧(jG la lb lc q).1≤2:=by
 unfold jG
 cases la <;> cases lb <;> simp only []
 · exact⟨(bI _ _).1,(bI _ _).2,by simp,by simp⟩
 · exact⟨(bI _ _).1,(bI _ _).2,by simp,by simp⟩
 · exact⟨(bI _ _).1,(bI _ _).2,by simp,by simp⟩
 · cases lc <;> simp only [] <;> split
   · exact⟨(bI _ _).1,(bI _ _).2,by simp,by simp⟩
   · exact⟨(bI _ _).1,(bI _ _).2,by simp,by simp⟩
   · exact⟨(bI _ _).1,(bI _ _).2,by simp,by simp⟩
   · exact⟨(bI _ _).1,(bI _ _).2,by simp,by simp⟩
theorem j9 (S:bC) (mb k q:Int):0≤(aL S mb k q).2∧(aL S mb k q).2≤127∧0≤(aL S mb k q).1∧(aL S mb k q).1≤2:=GF _ _ _ _
section
variable {S:bC} {mb k q:Int}(hD:gz S.cols S.rows) (hmb:0≤mb∧mb<S.cols*S.rows) (hk:0≤k∧k<6)
include hD hmb hk
theorem Py:hY S.cols S.rows mb k=true:=jI.2 ⟨hmb.1,hmb.2,hk⟩
theorem IC:bn Tryz.prog 70 [.one (.ptr 0 0),.one (.int .i64 mb),.one (.int .i64 k),.one (.int .i64 q)] (bU S.cols S.rows S.A S.B S.C) (j4 (aL S mb k q)) (bU S.cols S.rows S.A S.B S.C):=
 qv ⟨hD.c0,hD.c1⟩ ⟨by have:=hD.r0;omega,hD.r1⟩ (Py hD hmb hk) (p:=(placeOf S.cols mb k).1) (x:=(placeOf S.cols mb k).2.1) (y:=(placeOf S.cols mb k).2.2) rfl (by unfold xA;rw [Int.sub_zero]) (by unfold xA;rw [Int.sub_zero]) rfl
theorem Fe:bn Tryz.prog 73 [.one (.ptr 0 0),.one (.int .i64 mb),.one (.int .i64 k),.one (.int .i64 q)] (bU S.cols S.rows S.A S.B S.C) (.agg (ti .i64 64 (cz S mb k q))) (bU S.cols S.rows S.A S.B S.C):=
 Gv ⟨hD.c0,hD.c1⟩ ⟨by have:=hD.r0;omega,hD.r1⟩ (Py hD hmb hk) (p:=(placeOf S.cols mb k).1) (x:=(placeOf S.cols mb k).2.1) (y:=(placeOf S.cols mb k).2.2) rfl (by unfold xA;rw [Int.sub_zero]) (by unfold xA;rw [Int.sub_zero]) rfl
theorem IJ (b:Kn):bn Tryz.prog 74 [.one (.ptr 0 0),.one (.int .i64 mb),.one (.int .i64 k),.agg (dB b)] (bU S.cols S.rows S.A S.B S.C) (.tup []) (bU S.cols S.rows (aN S mb k b).A (aN S mb k b).B (aN S mb k b).C):=
 KN ⟨hD.c0,hD.c1⟩ ⟨by have:=hD.r0;omega,hD.r1⟩ (Py hD hmb hk) (p:=(placeOf S.cols mb k).1) (x:=(placeOf S.cols mb k).2.1) (y:=(placeOf S.cols mb k).2.2) rfl b
theorem hZ {HS:aj}(ha:HS[18]? = some (.cells [.int .i64 S.cols,.int .i64 S.rows,.map 19,.map 20,.map 21] 171 false false)) (hb:HS[19]? = some (.map (ah S.A))) (hc:HS[20]? = some (.map (ah S.B))) (hd:HS[21]? = some (.map (ah S.C))) (hbd:Nat.blt HS.length Mem.bound=true) :
 aH.Sound Tryz.prog ⟨70,[.one (.ptr 18 0),.one (.int .i64 mb),.one (.int .i64 k),.one (.int .i64 q)],HS,j4 (aL S mb k q),HS,[]⟩:=
 aK (IC hD hmb hk) 18 19 20 21 (by decide) ha hb hc hd rfl rfl hbd
theorem ov {HS:aj}(ha:HS[18]? = some (.cells [.int .i64 S.cols,.int .i64 S.rows,.map 19,.map 20,.map 21] 171 false false)) (hb:HS[19]? = some (.map (ah S.A))) (hc:HS[20]? = some (.map (ah S.B))) (hd:HS[21]? = some (.map (ah S.C))) (hbd:Nat.blt HS.length Mem.bound=true) :
 aH.Sound Tryz.prog ⟨73,[.one (.ptr 18 0),.one (.int .i64 mb),.one (.int .i64 k),.one (.int .i64 q)],HS,.agg (ti .i64 64 (cz S mb k q)),HS,[]⟩:=
 aK (Fe hD hmb hk) 18 19 20 21 (by decide) ha hb hc hd rfl (gD _ _ _) hbd
theorem lh {b:Kn} {HS HS':aj}(ha:HS[18]? = some (.cells [.int .i64 S.cols,.int .i64 S.rows,.map 19,.map 20,.map 21] 171 false false)) (hb:HS[19]? = some (.map (ah S.A))) (hc:HS[20]? = some (.map (ah S.B))) (hd:HS[21]? = some (.map (ah S.C))) (hh:((HS.set 19 (.map (ah (aN S mb k b).A))).set 20 (.map (ah (aN S mb k b).B))).set 21 (.map (ah (aN S mb k b).C))=HS') (hbd:Nat.blt HS'.length Mem.bound=true) :
 aH.Sound Tryz.prog ⟨74,[.one (.ptr 18 0),.one (.int .i64 mb),.one (.int .i64 k),.agg (dB b)],HS,.tup [],HS',[19,20,21]⟩:=
 GX (IJ hD hmb hk b) 18 19 20 21 (by decide) ha hb hc hd hh hbd
end
theorem m_ {S:bC} {mb k q:Int}(h:∀ dx dy b,xA S mb k dx dy=some b→∀ i,-1000000≤b.lv i∧b.lv i≤1000000) (i:Nat) : -1000000≤cz S mb k q i∧cz S mb k q i≤1000000:=by
 have hem:∀(b:Kn) (s:Nat),(∀ i,-1000000≤b.lv i∧b.lv i≤1000000)→∀ n i,-1000000≤em b s n i∧em b s n i≤1000000:=by
  intro b s hb n
  induction n with
  | zero=>intro i;simp [em]
  | succ n ih=>
    intro i
    rw [mK]
    unfold c8
    split
    · exact hb _
    · exact ih i
 have ho:∀(o:Option Kn) (s:Nat),(∀ b,o=some b→∀ i,-1000000≤b.lv i∧b.lv i≤1000000) → -1000000≤e9 o s q i∧e9 o s q i≤1000000:=by
  intro o s hb
  cases o with
  | none=>simp [e9,jj]
  | some b=>
    unfold e9
    simp only []
    split
    · exact hem b s (hb b rfl) _ i
    · simp [jj]
 unfold cz tA
 split
 · exact ho _ _ (h 1 0)
 · split
   · exact ho _ _ (h 0 1)
   · simp [jj]
end Go.Proofs.YtagpkhindehcbaaGreat
namespace Go.Proofs.YtagpkhindehcbaaGreat
open Go.Xm
variable [az]
theorem ur {f:Nat→Int}(h:∀ i,i<64 → -2047≤f i∧f i≤2047):∀(n i:Nat) (run:Int),i+n=64→0≤run→run≤i→∀ e∈iD f n i run,mw e∧e.2.2=false
 | 0,i,run,_,_,_,e,he=>by cases he
 | n + 1,i,run,h1,h2,h3,e,he=>by
   unfold iD at he
   by_cases hz:f i=0
   · rw [if_pos hz]at he
     exact ur h n (i+1) (run+1) (by omega) (by omega) (by omega) e he
   · rw [if_neg hz]at he
     rcases List.mem_cons.1 he with rfl|he
     · exact⟨⟨⟨h2,by show run≤63;omega⟩,hz,h i (by omega)⟩,rfl⟩
     · exact ur h n (i+1) 0 (by omega) (by omega) (by omega) e he
theorem tT:∀(l:List Ev) (j:Nat),(∀ e∈l,e.2.2=false)→j<l.length→(ji l).getD j default=((l.getD j default).1,(l.getD j default).2.1,decide (j+1=l.length))
 | [],j,_,hj=>by simp at hj
 | [e],j,_,hj=>by
   have:j=0:=by simpa using hj
   subst this
   rfl
 | e::e2::l,0,hf,_=>by
   have:e.2.2=false:=hf e (List.mem_cons_self ..)
   show e=(e.1,e.2.1,decide (0+1=(e::e2::l).length))
   rw [decide_eq_false (by simp),←this]
 | e :: e2::l,j+1,hf,hj=>by
   have ih:=tT (e2::l) j (fun x hx=>hf x (List.mem_cons_of_mem _ hx)) (by simpa using hj)
   show(ji (e2::l)).getD j default=_
   rw [ih]
   show _=(((e2::l).getD j default).1,((e2::l).getD j default).2.1,decide (j+1+1=(e::e2::l).length))
   have:decide (j+1=(e2::l).length)=decide (j+1+1=(e::e2::l).length):=by
    simp only [List.length_cons]
    rcases Classical.em (j+1=l.length+1)with g|g
    · rw [decide_eq_true g,decide_eq_true (by omega)]
    · rw [decide_eq_false g,decide_eq_false (by omega)]
   rw [this]
theorem KK {f:Nat→Int} {st:Nat}(hst:st≤64) (h:∀ i,i<64 → -2047≤f i∧f i≤2047):fI f st = []∨gG (fI f st):=by
 have hg:=ur h (64-st) st 0 (by omega) (Int.le_refl _) (by omega)
 have hlen:=rR f (64-st) st 0
 unfold fI
 generalize iD f (64-st) st 0=l at hg hlen ⊢
 cases hl:l with
 | nil=>exact .inl rfl
 | cons a t=>
   right
   rw [←hl]
   have hpos:0<l.length:=by rw [hl];simp
   have hget:∀ j,j<l.length→(ji l).getD j default=((l.getD j default).1,(l.getD j default).2.1,decide (j+1=l.length)):=fun j hj=>tT l j (fun e he=>(hg e he).2) hj
   have hmem:∀ j,j<l.length→l.getD j default∈l:=fun j hj=>by
    rw [List.getD_eq_getElem?_getD,List.getElem?_eq_getElem hj]
    exact List.getElem_mem hj
   refine⟨by rw [ik];omega,fun j hj=>?_,fun j hj=>?_⟩
   · rw [ik]at hj
     have:=(hg _ (hmem j hj)).1
     rw [hget j hj]
     exact⟨this.run,this.nz,this.lev⟩
   · rw [ik]at hj
     rw [hget j hj,ik]
theorem H5 {o:Int}(ho:o=0∨o=1∨o=2) {f:Nat→Int}(h:∀ i,i<64 → -2047≤f i∧f i≤2047):∀ i,i<64 → -2047≤iZ o f i∧iZ o f i≤2047:=fun i hi=>by
 have:=qL ho hi
 exact h _ (by omega)
end Go.Proofs.YtagpkhindehcbaaGreat
namespace Go.Proofs.YtagpkhindehcbaaGreat
open Go.Xm
variable [az]
structure pe where
 S:bC
 B:List Bool
 pat:Int
 col:Int
 ev:Nat→List Ev
def aE (m:Mb) (k:Nat) (i:Nat):Int:=m.lev (k*64+i)
noncomputable def fV (m:Mb) (S:bC) (mb:Int) (k:Nat):Option (Nat→Int):=
 if alone m=true then(if m.edge=true then n7 (aE m k) (cz S mb k m.qp)else some (aE m k)).map fun r=>c8 r 0 0 else some (aE m k)
noncomputable def pk (m:Mb) (S:bC) (mb:Int) (k:Nat) (r:Nat→Int):List Ev:=fI (iZ (dC m.edge (aL S mb k m.qp).1) r) (if alone m=true then 1 else 0)
def eI (pat k:Int):Int:=CM .i64 pat (8/2^k.toNat)
def ic (col k:Int):Int:=CM .u64 col (2/2^(k-4).toNat)
noncomputable def cy (m:Mb) (mb:Int) (k:Nat) (x:pe) (ev:List Ev):pe:=
 ⟨if alone m=true then aN x.S mb k ⟨aE m k,m.qp⟩else x.S,if alone m=true then x.B++aX (aE m k 0-(aL x.S mb k m.qp).2)else x.B,if 0<ev.length∧k<4 then eI x.pat k else x.pat,if 0<ev.length∧¬k<4 then ic x.col k else x.col,fun j=>if j=k then ev else x.ev j⟩
noncomputable def fq (m:Mb) (mb:Int) (x0:pe):Nat→Option pe
 | 0=>some x0
 | k+1=>(fq m mb x0 k).bind fun x=>(fV m x.S mb k).map fun r=>cy m mb k x (pk m x.S mb k r)
theorem DN {m:Mb} {mb:Int} {x0:pe} {k:Nat}(h:fq m mb x0 k=none):∀ j,k≤j→fq m mb x0 j=none:=by
 intro j hj
 induction hj with
 | refl=>exact h
 | step _ ih=>rw [fq,ih];rfl
def yw (T:nF):Prop:=∀ key b,ct T key=some b→∀ i,-1000000≤b.lv i∧b.lv i≤1000000
def tb (S:bC):Prop:=yw S.A∧yw S.B∧yw S.C
theorem Ha {T:nF}(h:yw T) {key:Int} {b:Kn}(hb:∀ i,-1000000≤b.lv i∧b.lv i≤1000000):yw (nC T key b):=fun key' b' h'=>by
 rw [fQ]at h'
 split at h'
 · cases h';exact hb
 · exact h key' b' h'
theorem lS {p q:Int} {T:nF}(h:yw T) {key:Int} {b:Kn}(hb:∀ i,-1000000≤b.lv i∧b.lv i≤1000000):yw (i3 p q T key b):=by
 unfold i3
 split
 · exact Ha h hb
 · exact h
theorem lR:yw []:=fun key b h=>by cases h
structure iy (S:bC):Prop where
 dims:gz S.cols S.rows
 lev:tb S
 tiny:ch S.M
theorem xB {S:bC}(h:tb S) {mb k dx dy:Int} {b:Kn}(hb:xA S mb k dx dy=some b):∀ i,-1000000≤b.lv i∧b.lv i≤1000000:=by
 unfold xA c9 cw at hb
 split at hb
 · cases hb
 · unfold bP at hb
   split at hb
   · exact h.1 _ _ hb
   · split at hb
     · exact h.2.1 _ _ hb
     · exact h.2.2 _ _ hb
structure kb (m:Mb):Prop where
 ok:i_ m
 kind:m.kind≤4
 lev:∀ i,i<384 → -2047≤m.lev i∧m.lev i≤2047
 first:alone m=true→∀ k,k<6→0≤m.lev (k*64)∧m.lev (k*64)≤127
structure yv (m:Mb) (mb:Int) (x0:pe) (s:Nat × pe):Prop where
 le:s.1≤6
 run:fq m mb x0 s.1=some s.2
 st:iy s.2.S
 cr:s.2.S.cols=x0.S.cols∧s.2.S.rows=x0.S.rows
 len:s.2.B.length≤x0.B.length+76*s.1
 nil:∀ j,s.1≤j→s.2.ev j = []
 evs:∀ j,s.2.ev j = []∨gG (s.2.ev j)
 pat:0≤s.2.pat∧s.2.pat<16
 col:0≤s.2.col∧s.2.col<4
theorem Hw:∀(a:Fin 16) (k:Fin 4),0≤eI (a.val:Int) (k.val:Int)∧eI (a.val:Int) (k.val:Int)<16:=by decide +kernel
theorem Gm:∀(a:Fin 4) (k:Fin 2),0≤ic (a.val:Int) ((k.val+4:Nat):Int)∧ic (a.val:Int) ((k.val+4:Nat):Int)<4:=by decide +kernel
theorem zC {a:Int} {k:Nat}(h:0≤a∧a<16) (hk:k<4):0≤eI a k∧eI a k<16:=by
 have:=Hw ⟨a.toNat,by omega⟩ ⟨k,hk⟩
 simp only [Int.toNat_of_nonneg h.1]at this
 exact this
theorem yR {a:Int} {k:Nat}(h:0≤a∧a<4) (hk:¬k<4) (hk6:k<6):0≤ic a k∧ic a k<4:=by
 have:=Gm ⟨a.toNat,by omega⟩ ⟨k-4,by omega⟩
 simp only [Int.toNat_of_nonneg h.1,show k-4+4=k by omega]at this
 exact this
theorem lO {m:Mb}(hg:kb m) {S:bC} {mb:Int} {k:Nat}(ha:alone m=true) (hk:k<6) : -4000≤aE m k 0-(aL S mb k m.qp).2∧aE m k 0-(aL S mb k m.qp).2≤4000:=by
 have h1:=hg.first ha k hk
 have h2:=j9 S mb k m.qp
 have e:aE m k 0=m.lev (k*64):=by unfold aE;rw [Nat.add_zero]
 rw [e]
 omega
theorem G_ {m:Mb}(hg:kb m) {k:Nat}(hk:k<6):∀ i,i<64 → -2047≤aE m k i∧aE m k i≤2047:=fun i hi=>hg.lev _ (by omega)
theorem El {l e r:Nat→Int}(h:n7 l e=some r):∀ i,i<64 → -2047≤r i∧r i≤2047:=by
 unfold n7 at h
 split at h
 · cases h
 · rename_i hn
   cases h
   intro i hi
   have:¬mR l e i:=fun hb=>hn ⟨i,hi,hb⟩
   unfold mR at this
   show -2047≤l i-e i∧l i-e i≤2047
   omega
theorem DM {m:Mb}(hg:kb m) {S:bC} {mb:Int} {k:Nat}(hk:k<6) {r:Nat→Int}(h:fV m S mb k=some r):∀ i,i<64 → -2047≤r i∧r i≤2047:=by
 have hl:=G_ hg hk
 have hu:∀ q:Nat→Int,(∀ i,i<64 → -2047≤q i∧q i≤2047)→∀ i,i<64 → -2047≤c8 q 0 0 i∧c8 q 0 0 i≤2047:=fun q hq i hi=>by
  unfold c8
  split
  · omega
  · exact hq i hi
 unfold fV at h
 split at h
 · obtain⟨q,hq,rfl⟩:=Option.map_eq_some_iff.1 h
   split at hq
   · exact hu q (El hq)
   · cases hq;exact hu _ hl
 · cases h;exact hl
theorem lM {m:Mb}(hg:kb m) {mb:Int} {x0:pe} {s:Nat × pe}(h:yv m mb x0 s) (h6:s.1<6) {r:Nat→Int}(hr:fV m s.2.S mb s.1=some r):yv m mb x0 (s.1+1,cy m mb s.1 s.2 (pk m s.2.S mb s.1 r)):=by
 have hrr:=DM hg h6 hr
 have hev:pk m s.2.S mb s.1 r = []∨gG (pk m s.2.S mb s.1 r):=by
  unfold pk
  exact KK (by split <;> omega) (H5 (fe _ _) hrr)
 refine⟨by show s.1+1≤6;omega,?_,?_,?_,?_,?_,?_,?_,?_⟩
 · show fq m mb x0 (s.1+1)=_
   rw [fq,h.run]
   simp only [Option.bind_some,hr,Option.map_some]
 · show iy (if alone m=true then aN s.2.S mb s.1 ⟨aE m s.1,m.qp⟩else s.2.S)
   split
   · have hb:∀ i,-1000000≤(Kn.mk (aE m s.1) m.qp).lv i∧(Kn.mk (aE m s.1) m.qp).lv i≤1000000:=fun i=>hg.ok.lev _
     exact⟨h.st.dims,⟨lS h.st.lev.1 hb,lS h.st.lev.2.1 hb,lS h.st.lev.2.2 hb⟩,h.st.tiny⟩
   · exact h.st
 · show(if alone m=true then aN s.2.S mb s.1 ⟨aE m s.1,m.qp⟩else s.2.S).cols=_∧(if alone m=true then aN s.2.S mb s.1 ⟨aE m s.1,m.qp⟩else s.2.S).rows=_
   split <;> exact h.cr
 · show(if alone m=true then s.2.B++aX (aE m s.1 0-(aL s.2.S mb s.1 m.qp).2)else s.2.B).length≤x0.B.length+76*(s.1+1)
   have:=h.len
   split
   · rename_i ha
     have:=DZ (lO hg (S:=s.2.S) (mb:=mb) ha h6)
     rw [List.length_append];omega
   · omega
 · intro j hj
   show(if j=s.1 then _ else s.2.ev j) = []
   have hj':s.1+1≤j:=hj
   rw [if_neg (by omega)]
   exact h.nil j (by omega)
 · intro j
   show(if j=s.1 then _ else s.2.ev j) = []∨gG (if j=s.1 then _ else s.2.ev j)
   split
   · exact hev
   · exact h.evs j
 · show 0≤(if _ then eI s.2.pat s.1 else s.2.pat)∧(if _ then eI s.2.pat s.1 else s.2.pat)<16
   split
   · rename_i hc
     exact zC h.pat hc.2
   · exact h.pat
 · show 0≤(if _ then ic s.2.col s.1 else s.2.col)∧(if _ then ic s.2.col s.1 else s.2.col)<4
   split
   · rename_i hc
     exact yR h.col hc.2 h6
   · exact h.col
def eY (x:pe):List Bool:=(x.B++db cP x.pat.toNat)++ej x.col 2
def bB (bw:List Bool) (x:pe):Nat→List Bool
 | 0=>bw
 | k+1=>bB bw x k++cR (x.ev k)
theorem rB {bw:List Bool} {x:pe}(h:∀ j,x.ev j = []∨gG (x.ev j)):∀ k,(bB bw x k).length≤bw.length+3456*k
 | 0=>Nat.le_refl _
 | k + 1=>by
   rw [bB,List.length_append]
   have ih:=rB (bw:=bw) h k
   have:(cR (x.ev k)).length≤3456:=by
    rcases h k with e|e
    · rw [e];simp [cR]
    · have h1:=tK e _ (Nat.le_refl _)
      rw [List.take_length]at h1
      have:=e.len
      omega
   omega
theorem l6 {m:Mb} {a:Bool}(ha:alone m=a) {HS:aj}(hb:Nat.blt HS.length Mem.bound=true):aH.Sound Tryz.prog ⟨37,[.agg (mC m)],HS,.one (.int .i64 (if a=true then 1 else 0)),HS,[]⟩:=by
 subst ha
 exact qZ hb
abbrev Oe (ev:Nat→List Ev):ak := .cells [gQ 27 (ev 0).length 3,gQ 28 (ev 1).length 3,gQ 29 (ev 2).length 3,gQ 30 (ev 3).length 3,gQ 31 (ev 4).length 3,gQ 32 (ev 5).length 3] 185 false false
end Go.Proofs.YtagpkhindehcbaaGreat
namespace Go.Proofs.YtagpkhindehcbaaGreat
open Go.Xm
variable [az]
def fw (m:Mb) (h:Nat→Bool):List XC:=mC m++[.bool (h 0),.bool (h 1),.bool (h 2),.bool (h 3),.bool (h 4),.bool (h 5)]
theorem b9 (m:Mb) (h:Nat→Bool):(fw m h).length=397:=by simp [fw,aJ]
theorem ub (m:Mb) (h:Nat→Bool):(fw m h).all XC.shut=true:=by
 unfold fw
 rw [List.all_append,iS];rfl
instance O2 (m:Mb) (h:Nat→Bool) (e:TypeId) (a b:Bool):cI (.cells (fw m h) e a b):=iP (ub m h)
theorem CU (m:Mb) (h:Nat→Bool) {i:Nat}(hi:i<384) (z:Int):(fw m h).set (7+i) (.int .i64 z)=fw {m with lev:=c8 m.lev i z} h:=by
 unfold fw
 rw [List.set_append_left _ _ (by rw [aJ];omega)]
 congr 1
 rw [Nat.add_comm]
 show .int .u8 m.kind :: .int .i64 m.qp::cq (m.v 0)::cq (m.v 1)::cq (m.v 2)::cq (m.v 3) :: .bool m.edge::(ti .i64 384 m.lev).set i (.int .i64 z)=_
 rw [rV];rfl
theorem Kq (m:Mb) (h:Nat→Bool) {off s:Nat}(h7:7≤off) (hs:off+s≤391):((fw m h).drop off).take s=ti .i64 s fun i=>m.lev (off-7+i):=by
 unfold fw
 rw [List.drop_append_of_le_length (by rw [aJ];omega),List.take_append_of_le_length (by rw [List.length_drop,aJ];omega),MI m h7 hs]
theorem sU (m:Mb) (h:Nat→Bool):((fw m h).drop 0).take 391=mC m:=by
 unfold fw
 rw [List.drop_zero,List.take_append_of_le_length (by rw [aJ];omega),List.take_of_length_le (by rw [aJ];omega)]
structure jc where
 m:Mb
 S:bC
 r:Nat × Bool
def Bc (B:List Bool) (mb:Int) (x:jc) (k:Nat):Int:=(aL x.S mb k x.m.qp).2+(fJ B x.r).1
def vg (B:List Bool) (mb:Int) (x:jc) (k:Nat):Prop:=Bc B mb x k<0∨127<Bc B mb x k
instance (B:List Bool) (mb:Int) (x:jc) (k:Nat):Decidable (vg B mb x k):=by unfold vg;infer_instance
def Bb (B:List Bool) (mb:Int) (x:jc) (k:Nat):Int:=if vg B mb x k then 0 else Bc B mb x k
def Jo (B:List Bool) (mb:Int) (x:jc) (k:Nat):Mb:={x.m with lev:=c8 x.m.lev (k*64) (Bb B mb x k)}
def si (B:List Bool) (mb:Int) (x:jc) (k:Nat):jc:=
 ⟨Jo B mb x k,aN x.S mb k ⟨aE (Jo B mb x k) k,(Jo B mb x k).qp⟩,if vg B mb x k then((fJ B x.r).2.1,true)else(fJ B x.r).2⟩
def iH (B:List Bool) (mb:Int) (x:jc):Nat→jc
 | 0=>x
 | k+1=>si B mb (iH B mb x k) k
theorem Fl (B:List Bool) (r:Nat × Bool) : -5000≤(fJ B r).1∧(fJ B r).1≤5000:=by
 have hr:=nT (K:=12) (by decide) Gg B (cZ.T.length/2) 0 r
 have hs:cG B r≤12:=by unfold cG;have:(kS cZ B r).1≤12:=hr.2;omega
 have hn:0≤(l8 B r).1∧(l8 B r).1<2^cG B r:=mF B (cG B r) (kS cZ B r).2
 have hp:(2:Int)^cG B r≤4096:=by
  have:=Nat.pow_le_pow_right (show 0<2 by decide) hs
  have h2:((2^cG B r:Nat):Int)≤((2^12:Nat):Int):=Int.ofNat_le.2 this
  rw [Int.natCast_pow]at h2
  exact h2
 unfold fJ
 split
 · simp only [];omega
 · omega
theorem Be {L:List Int} {B:List Bool}(hB:cK L B) (x:jc) (hs:Nat→Bool) (mb:Int) (hD:gz x.S.cols x.S.rows) (hmb:0≤mb∧mb<x.S.cols*x.S.rows) (hq : -1000000≤x.m.qp∧x.m.qp≤1000000) :
 bn Tryz.prog 68 [.one (.ptr 2 0),.one (.ptr 0 0),.one (.int .i64 mb),.one (.ptr 22 0)] [br 1 L B x.r.1 x.r.2,aM L,du (x.S),bM 4 8 12,ax 5 6 7 cM,aU cM,aW cM,aV cM,ax 9 10 11 cZ,aU cZ,aW cZ,aV cZ,ax 13 14 15 cP,aU cP,aW cP,aV cP,cg 17 (x.S).cols (x.S).rows,.map (bg (x.S).M),.cells [.int .i64 (x.S).cols,.int .i64 (x.S).rows,.map 19,.map 20,.map 21] 171 false false,.map (ah (x.S).A),.map (ah (x.S).B),.map (ah (x.S).C),.cells (fw x.m hs) 56 false false] (.tup []) [br 1 L B (iH B mb x 6).r.1 (iH B mb x 6).r.2,aM L,du ((iH B mb x 6).S),bM 4 8 12,ax 5 6 7 cM,aU cM,aW cM,aV cM,ax 9 10 11 cZ,aU cZ,aW cZ,aV cZ,ax 13 14 15 cP,aU cP,aW cP,aV cP,cg 17 ((iH B mb x 6).S).cols ((iH B mb x 6).S).rows,.map (bg ((iH B mb x 6).S).M),.cells [.int .i64 ((iH B mb x 6).S).cols,.int .i64 ((iH B mb x 6).S).rows,.map 19,.map 20,.map 21] 171 false false,.map (ah ((iH B mb x 6).S).A),.map (ah ((iH B mb x 6).S).B),.map (ah ((iH B mb x 6).S).C),.cells (fw (iH B mb x 6).m hs) 56 false false]:=by
 obtain⟨y,hy⟩:∃ y,iH B mb x 6=y:=⟨_,rfl⟩
 rw [hy]
 refine cO Tryz.func68 ?_
 repeat' (first|refine zz ?_|refine zx (fun _=>?_) (fun _=>?_)|fail)
 refine WX.cS (σ:=Nat × jc) (fun s=>[(12,.one (.int .i64 (s.1:Nat))),(0,.one (.ptr 2 0)),(1,.one (.ptr 0 0)),(2,.one (.int .i64 mb)),(3,.one (.ptr 22 0))]) (fun s=>[br 1 L B s.2.r.1 s.2.r.2,aM L,du (s.2.S),bM 4 8 12,ax 5 6 7 cM,aU cM,aW cM,aV cM,ax 9 10 11 cZ,aU cZ,aW cZ,aV cZ,ax 13 14 15 cP,aU cP,aW cP,aV cP,cg 17 (s.2.S).cols (s.2.S).rows,.map (bg (s.2.S).M),.cells [.int .i64 (s.2.S).cols,.int .i64 (s.2.S).rows,.map 19,.map 20,.map 21] 171 false false,.map (ah (s.2.S).A),.map (ah (s.2.S).B),.map (ah (s.2.S).C),.cells (fw s.2.m hs) 56 false false]) (fun s=>s.1≤6∧iH B mb x s.1=s.2∧s.2.S.cols=x.S.cols∧s.2.S.rows=x.S.rows∧s.2.m.qp=x.m.qp) (fun s=>6-s.1) (0,x) ⟨by show 0≤6;omega,rfl,rfl,rfl,rfl⟩ (fun s _=>j5) (bh [0,1,2,3,4,5,6,7,8,9,10,11,12,13,14,15,16,17,18,19,20,21,22]) ?_
 intro s ⟨g1,g2,g3,g4,g5⟩ ih
 have hD':gz s.2.S.cols s.2.S.rows:=by rw [g3,g4];exact hD
 have hmb':0≤mb∧mb<s.2.S.cols*s.2.S.rows:=by rw [g3,g4];exact hmb
 by_cases h6:s.1<6
 · have hu:=Fl B s.2.r
   have hf:=j9 s.2.S mb s.1 s.2.m.qp
   obtain⟨m',hm'⟩:∃ m',Jo B mb s.2 s.1=m':=⟨_,rfl⟩
   have hw:((fw m' hs).drop (7+s.1*64+0)).take 64=ti .i64 64 (aE m' s.1):=by
    rw [Nat.add_zero,Kq m' hs (by omega) (by omega)]
    refine q9 fun i hi=>?_
    unfold aE
    congr 1
    omega
   have hg0:iH B mb x (s.1+1)=si B mb s.2 s.1:=by show si B mb (iH B mb x s.1) s.1=_;rw [g2]
   have hqp:m'.qp=s.2.m.qp:=by rw [←hm'];rfl
   by_cases hb:vg B mb s.2 s.1
   · have hN:si B mb s.2 s.1=⟨m',aN s.2.S mb s.1 ⟨aE m' s.1,m'.qp⟩,((fJ B s.2.r).2.1,true)⟩:=by
      unfold si
      rw [hm',if_pos hb]
     have hset:(fw s.2.m hs).set (7+s.1*64+0) (.int .i64 0)=fw m' hs:=by
      rw [Nat.add_zero,CU _ _ (by omega),←hm',Jo,Bb,if_pos hb]
     have hb':=hb
     unfold vg Bc at hb'
     repeat' (first
      |(refine qz ?_;first
       |refine cl ?_ (hi:=by exact hZ (S:=s.2.S) (mb:=mb) (k:=(s.1:Nat)) (q:=s.2.m.qp) hD' hmb' (by omega) rfl rfl rfl rfl rfl)
       |refine cl ?_ (hi:=by exact IL hB s.2.r (S:=s.2.S) rfl rfl rfl nL rfl)
       |refine cl ?_ (hi:=by exact gj (p:=(fJ B s.2.r).2.1) (e:=(fJ B s.2.r).2.2) rfl rfl (by decide) nL rfl)
       |refine st ?_ (hle:=by rw [b9];omega) (hv:=hset)
       |refine rH (cs:=ti .i64 64 (aE m' s.1)) ?_ (hle:=by rw [b9];omega) (hc:=hw)
       |refine cl ?_ (hi:=by exact lh (S:=s.2.S) (mb:=mb) (k:=(s.1:Nat)) (b:=⟨aE m' s.1,m'.qp⟩) hD' hmb' (by omega) rfl rfl rfl rfl nA rfl))
      |refine zz ?_|refine zx (fun _=>?_) (fun _=>?_)|fail)
     all_goals exact ih (s.1+1,⟨m',aN s.2.S mb s.1 ⟨aE m' s.1,m'.qp⟩,((fJ B s.2.r).2.1,true)⟩) _ _ _ (bh [0,1,2,3,4,5,6,7,8,9,10,11,12,13,14,15,16,17,18,19,20,21,22]) ⟨by show s.1+1≤6;omega,by show _=_;rw [hg0,hN],g3,g4,by show m'.qp=_;rw [hqp,g5]⟩ (by show 6-(s.1+1)<_;omega)
   · have hN:si B mb s.2 s.1=⟨m',aN s.2.S mb s.1 ⟨aE m' s.1,m'.qp⟩,(fJ B s.2.r).2⟩:=by
      unfold si
      rw [hm',if_neg hb]
     have hset:(fw s.2.m hs).set (7+s.1*64+0) (.int .i64 ((aL s.2.S mb s.1 s.2.m.qp).2+(fJ B s.2.r).1))=fw m' hs:=by
      rw [Nat.add_zero,CU _ _ (by omega),←hm',Jo,Bb,if_neg hb];rfl
     have hb':=hb
     unfold vg Bc at hb'
     repeat' (first
      |(refine qz ?_;first
       |refine cl ?_ (hi:=by exact hZ (S:=s.2.S) (mb:=mb) (k:=(s.1:Nat)) (q:=s.2.m.qp) hD' hmb' (by omega) rfl rfl rfl rfl rfl)
       |refine cl ?_ (hi:=by exact IL hB s.2.r (S:=s.2.S) rfl rfl rfl nL rfl)
       |refine st ?_ (hle:=by rw [b9];omega) (hv:=hset)
       |refine rH (cs:=ti .i64 64 (aE m' s.1)) ?_ (hle:=by rw [b9];omega) (hc:=hw)
       |refine cl ?_ (hi:=by exact lh (S:=s.2.S) (mb:=mb) (k:=(s.1:Nat)) (b:=⟨aE m' s.1,m'.qp⟩) hD' hmb' (by omega) rfl rfl rfl rfl nA rfl))
      |refine zz ?_|refine zx (fun _=>?_) (fun _=>?_)|fail)
     all_goals exact ih (s.1+1,⟨m',aN s.2.S mb s.1 ⟨aE m' s.1,m'.qp⟩,(fJ B s.2.r).2⟩) _ _ _ (bh [0,1,2,3,4,5,6,7,8,9,10,11,12,13,14,15,16,17,18,19,20,21,22]) ⟨by show s.1+1≤6;omega,by show _=_;rw [hg0,hN],g3,g4,by show m'.qp=_;rw [hqp,g5]⟩ (by show 6-(s.1+1)<_;omega)
 · have e6:s.1=6:=by omega
   have ey:s.2=y:=by rw [←g2,e6,hy]
   subst ey
   repeat' (first|refine zz ?_|refine zx (fun _=>?_) (fun _=>?_)|fail)
   show aC _ _ _ _ _ _ _ _;refine kV [0,1,2,3,4,5,6,7,8,9,10,11,12,13,14,15,16,17,18,19,20,21,22] ?_
   all_goals rfl
end Go.Proofs.YtagpkhindehcbaaGreat
namespace Go.Xm
variable [az]
variable {P:Program} {ops:Array Oper} {nt nI:Nat} {al:bm} {hs:aj} {o:Oper} {l:List Oper} {L:List aH} {K:List Ab→bm→aj→Prop} {d:Nat}
theorem NU {t:TypeId} {a y:Operand} {s i off:Nat} {cs vs vs':List XC} {e:TypeId} {opn:Bool} {hs':aj}(hk:SK P ops nt L l al hs' fun bs=>K (⟨true,.none,[i]⟩::bs)) (hs2:off+s≤vs.length) (hv:vs.take off++cs++vs.drop (off+s)=vs') (ho:o.op = .store t a y:=by exact rfl) (ht:aR P t s:=by infer_instance) (hw:au ops (rg al) o=some true:=by exact rfl) (hd:o.dst = .none:=by exact rfl)
 (ha:ai (rg al) a = .one (.ptr i off):=by exact rfl) (hy:cA (ai (rg al) y)=some cs:=by exact rfl) (hi:hs[i]? = some (.cells vs e opn false):=by exact rfl) (hs1:s=cs.length:=by exact rfl) (hh:hs.set i (.cells vs' e opn false)=hs':=by first|(simp only [List.set_cons_succ,List.set_cons_zero];exact rfl)|exact rfl):SK P ops nt L (o::l) al hs K:=
 EW ho hw hd ha hy hi hs1 hs2 hv hh hk
end Go.Xm
namespace Go.Proofs.YtagpkhindehcbaaGreat
open Go.Xm
variable [az]
def kr:Mb:=⟨0,0,fun _=>(0,0),false,fun _=>0⟩
def pv:Nat→Bool:=fun _=>false
theorem yq:bt Tryz.prog 56 (fw kr pv):=by
 have h:([.int .u8 0,.int .i64 0,.cplx .f64 0 0,.cplx .f64 0 0,.cplx .f64 0 0,.cplx .f64 0 0,.bool false]++(ti .i64 384 fun _=>0)++[.bool false,.bool false,.bool false,.bool false,.bool false,.bool false]:List XC)=fw kr pv:=by
  unfold fw mC kr
  simp only [←dM]
  rfl
 rw [←h]
 infer_instance
def rG (h:Nat→Bool):List XC:=[.bool (h 0),.bool (h 1),.bool (h 2),.bool (h 3),.bool (h 4),.bool (h 5)]
theorem dL (m:Mb) (h:Nat→Bool):fw m h = .int .u8 m.kind :: .int .i64 m.qp::cq (m.v 0)::cq (m.v 1)::cq (m.v 2)::cq (m.v 3) :: .bool m.edge::(ti .i64 384 m.lev++rG h):=by
 simp only [fw,mC,List.cons_append,rG]
theorem zu (m:Mb) (h:Nat→Bool) (z:Int):(fw m h).set 0 (.int .u8 z)=fw {m with kind:=z} h:=by
 rw [dL];exact(dL {m with kind:=z} h).symm
theorem MP (m:Mb) (h:Nat→Bool) (z:Int):(fw m h).set 1 (.int .i64 z)=fw {m with qp:=z} h:=by
 rw [dL];exact(dL {m with qp:=z} h).symm
theorem Hr (m:Mb) (h:Nat→Bool) (b:Bool):(fw m h).set 6 (.bool b)=fw {m with edge:=b} h:=by
 rw [dL];exact(dL {m with edge:=b} h).symm
def l9 (v:Nat→Int × Int) (k:Nat) (x:Int × Int):Nat→Int × Int:=fun j=>if j=k then x else v j
theorem CV (m:Mb) (h:Nat→Bool) {k:Nat}(hk:k<4) (x:Int × Int):(fw m h).set (2+k) (cq x)=fw {m with v:=l9 m.v k x} h:=by
 rw [dL]
 refine Eq.trans ?_ (dL {m with v:=l9 m.v k x} h).symm
 match k,hk with
 | 0,_=>rfl
 | 1,_=>rfl
 | 2,_=>rfl
 | 3,_=>rfl
theorem MQ (m:Mb) (h:Nat→Bool) (x:Int × Int):(fw m h).take 2++[cq x,cq x,cq x,cq x]++(fw m h).drop (2+4)=fw {m with v:=fun _=>x} h:=by
 rw [dL]
 exact(dL {m with v:=fun _=>x} h).symm
theorem fm (m:Mb) (h:Nat→Bool):(fw m h)[0]? = some (.int .u8 m.kind):=by rw [dL];rfl
theorem Ht (m:Mb) (h:Nat→Bool) {k:Nat}(hk:k<4):(fw m h)[2+k]? = some (cq (m.v k)):=by
 rw [dL]
 match k,hk with
 | 0,_=>rfl
 | 1,_=>rfl
 | 2,_=>rfl
 | 3,_=>rfl
def Fo (h:Nat→Bool) (j:Nat):Nat→Bool:=fun i=>if i<j then h i else false
theorem oQ (m:Mb) (h:Nat→Bool) {j:Nat}(hj:j<6):(fw m (Fo h j)).set (391+j) (.bool (h j))=fw m (Fo h (j+1)):=by
 unfold fw
 rw [List.set_append_right _ _ (by rw [aJ];omega),aJ]
 rw [Nat.add_sub_cancel_left]
 refine congrArg (mC m ++ ·) ?_
 show(rG (Fo h j)).set j _=rG (Fo h (j+1))
 match j,hj with
 | 0,_=>rfl
 | 1,_=>rfl
 | 2,_=>rfl
 | 3,_=>rfl
 | 4,_=>rfl
 | 5,_=>rfl
theorem Ko (m:Mb) (h:Nat→Bool):fw m (Fo h 6)=fw m h:=by
 rw [dL,dL];rfl
theorem Hs (m:Mb) (h:Nat→Bool):fw m (Fo h 0)=fw m pv:=by
 rw [dL,dL];rfl
theorem BF {f:FuncId} {args args':List XV} {v:XV} [bz v] {L:List Int} {B:List Bool} {p p':Nat} {e e':Bool} {S S':bC} {l l':aj}(ls:List Nat) (hc:bn Tryz.prog f args (br 1 L B p e::aM L::(dI S++l)) v (br 1 L B p' e'::aM L::(dI S'++l')))
 {HS:aj}(hi:HS[0]? = some (br 1 L B p e)) (hk:HS[1]? = some (aM L)) (hS:(HS.drop 2).take 20=dI S) (hnd:(0::1::(bL++ls)).Nodup) (hv:ae (nth (0::1::(bL++ls))) HS ls l) (hl:ls.length=l.length) (hl':l'.length=l.length) (hok:bl (22+l.length) l) (hok':bl (22+l.length) l') (hren:da (nth (0::1::(bL++ls))) l' l') (hro:dP l l'=true) (hle:l.length<100)
 (ha:eV (22+l.length) args) (hr:dF (nth (0::1::(bL++ls))) args args') {HS':aj}(hh:bG HS (0::1::(bL++ls)) (br 1 L B p' e'::aM L::(dI S'++l'))=HS') (hbd:Nat.blt HS'.length Mem.bound=true) :
 aH.Sound Tryz.prog ⟨f,args',HS,v,HS',0::1::(bL++ls)⟩:=by
 have ht:∀ j,2≤j→j<22→nth (0::1::(bL++ls)) j=j:=mY 1 ls
 have ht':∀ j,nth ((0::1::(bL++ls))++List.range' HS.length 0) j=nth (0::1::(bL++ls)) j:=fun j=>by
  rw [List.range'_zero,List.append_nil]
 have ht2:nth ((0::1::(bL++ls))++List.range' HS.length 0)=nth (0::1::(bL++ls)):=funext ht'
 have hln:(br 1 L B p e::aM L::(dI S++l)).length=22+l.length:=by simp;omega
 have hln':(br 1 L B p' e'::aM L::(dI S'++l')).length=22+l.length:=by simp;omega
 refine bV (0::1::(bL++ls)) (0::1::(bL++ls)) 0 hc hnd (.cons hi (.flat hk (o3 S ht hS hv))) (by rw [hln];exact .cons (by simp [ak.b7,XC.ok];omega) (.flat (gp S _ (by omega) hok))) (by rw [hln'];exact .cons (by simp [ak.b7,XC.ok];omega) (.flat (gp S' _ (by omega) hok'))) (by simp;omega) (by rw [hln];exact ha) hr (bz.ok _) (bz.ay _) ?_ ?_ ?_ hh hbd (.inl rfl)
 · rw [ht2]
   exact .cons rfl (.flat (qW S' ht hren))
 · simp only [dP,ak.live,ak.own,List.cons_append,List.nil_append,hro,Bool.and_true,Bool.true_and]
   simp
 · rw [hln]
   have h:122≤Mem.bound:=Nat.le_of_ble_eq_true rfl
   unfold Nat.blt
   rw [Nat.ble_eq]
   omega
theorem EL (L:List Int) (B:List Bool) (p:Nat) (e:Bool) (S:bC) (hD:gz S.cols S.rows) (mb:Int) (hmb:0≤mb∧mb<S.cols*S.rows) (m:Mb) :
 bn Tryz.prog 53 [.one (.ptr 2 0),.one (.int .i64 mb),.agg (mC m)] [br 1 L B p e,aM L,du (S),bM 4 8 12,ax 5 6 7 cM,aU cM,aW cM,aV cM,ax 9 10 11 cZ,aU cZ,aW cZ,aV cZ,ax 13 14 15 cP,aU cP,aW cP,aV cP,cg 17 (S).cols (S).rows,.map (bg (S).M),.cells [.int .i64 (S).cols,.int .i64 (S).rows,.map 19,.map 20,.map 21] 171 false false,.map (ah (S).A),.map (ah (S).B),.map (ah (S).C)] (.tup []) [br 1 L B p e,aM L,du (ba S mb m.v),bM 4 8 12,ax 5 6 7 cM,aU cM,aW cM,aV cM,ax 9 10 11 cZ,aU cZ,aW cZ,aV cZ,ax 13 14 15 cP,aU cP,aW cP,aV cP,cg 17 (ba S mb m.v).cols (ba S mb m.v).rows,.map (bg (ba S mb m.v).M),.cells [.int .i64 (ba S mb m.v).cols,.int .i64 (ba S mb m.v).rows,.map 19,.map 20,.map 21] 171 false false,.map (ah (ba S mb m.v).A),.map (ah (ba S mb m.v).B),.map (ah (ba S mb m.v).C)]:=by
 refine cO Tryz.func53 ?_
 repeat' (first
  |(refine qz ?_;first
   |refine rH (cs:=vt m.v) ?_ (hle:=by rw [aJ];decide)
   |refine pS ?_
   |refine cl ?_ (hi:=by exact dh (M:=S.M) (cols:=S.cols) (rows:=S.rows) (i:=16) (j:=17) (k:=0) (v:=m.v 0) hD hmb (by decide) rfl rfl (by decide) nA rfl)
   |refine cl ?_ (hi:=by exact dh (M:=aZ S.M S.cols mb 0 (m.v 0)) (cols:=S.cols) (rows:=S.rows) (i:=16) (j:=17) (k:=1) (v:=m.v 1) hD hmb (by decide) rfl rfl (by decide) nA rfl)
   |refine cl ?_ (hi:=by exact dh (M:=aZ (aZ S.M S.cols mb 0 (m.v 0)) S.cols mb 1 (m.v 1)) (cols:=S.cols) (rows:=S.rows) (i:=16) (j:=17) (k:=2) (v:=m.v 2) hD hmb (by decide) rfl rfl (by decide) nA rfl)
   |refine cl ?_ (hi:=by exact dh (M:=aZ (aZ (aZ S.M S.cols mb 0 (m.v 0)) S.cols mb 1 (m.v 1)) S.cols mb 2 (m.v 2)) (cols:=S.cols) (rows:=S.rows) (i:=16) (j:=17) (k:=3) (v:=m.v 3) hD hmb (by decide) rfl rfl (by decide) nA rfl))
  |refine WX.loop ?_|refine WX.round ?_|refine zz ?_|refine zx (fun _=>?_) (fun _=>?_)|fail)
 show aC _ _ _ _ _ _ _ _;refine kV [0,1,2,3,4,5,6,7,8,9,10,11,12,13,14,15,16,17,18,19,20,21] ?_
 rfl
theorem zO {L:List Int} {B:List Bool} {r:Nat × Bool} {S:bC}(hD:gz S.cols S.rows) {mb:Int}(hmb:0≤mb∧mb<S.cols*S.rows) {m:Mb} {HS:aj}(hi:HS[0]? = some (br 1 L B r.1 r.2)) (hk:HS[1]? = some (aM L)) (hS:(HS.drop 2).take 20=dI S) {HS':aj}(hh:bG HS (0::1::bL) (br 1 L B r.1 r.2::aM L::dI (ba S mb m.v))=HS') (hbd:Nat.blt HS'.length Mem.bound=true) :
 aH.Sound Tryz.prog ⟨53,[.one (.ptr 2 0),.one (.int .i64 mb),.agg (mC m)],HS,.tup [],HS',0::1::bL⟩:=by
 have hc:=EL L B r.1 r.2 S hD mb hmb m
 have hc':bn Tryz.prog 53 [.one (.ptr 2 0),.one (.int .i64 mb),.agg (mC m)] (br 1 L B r.1 r.2::aM L::(dI S++[])) (.tup []) (br 1 L B r.1 r.2::aM L::(dI (ba S mb m.v)++[])):=by
  rw [List.append_nil,List.append_nil];exact hc
 have h:=BF (S:=S) (S':=ba S mb m.v) (l:=[]) (l':=[]) (args':=[.one (.ptr 2 0),.one (.int .i64 mb),.agg (mC m)]) [] hc' hi hk hS (by decide) .nil rfl rfl .nil .nil .nil rfl (by decide) (.cons (by show 2<22;omega) (.flat (.flat .nil))) (.cons rfl (.flat (.flat .nil))) (HS':=HS') (by rw [List.append_nil,List.append_nil];exact hh) hbd
 rw [List.append_nil]at h
 exact h
theorem D_ {L:List Int} {B:List Bool}(hB:cK L B) {x:jc} {hs:Nat→Bool} {mb:Int}(hD:gz x.S.cols x.S.rows) (hmb:0≤mb∧mb<x.S.cols*x.S.rows) (hq : -1000000≤x.m.qp∧x.m.qp≤1000000) {HS:aj}(hi:HS[0]? = some (br 1 L B x.r.1 x.r.2)) (hk:HS[1]? = some (aM L)) (hS:(HS.drop 2).take 20=dI x.S) (h23:HS[23]? = some (.cells (fw x.m hs) 56 false false)) {HS':aj}(hh:bG HS (0::1::(bL++[23])) (br 1 L B (iH B mb x 6).r.1 (iH B mb x 6).r.2::aM L::(dI (iH B mb x 6).S++[.cells (fw (iH B mb x 6).m hs) 56 false false]))=HS') (hbd:Nat.blt HS'.length Mem.bound=true) :
 aH.Sound Tryz.prog ⟨68,[.one (.ptr 2 0),.one (.ptr 0 0),.one (.int .i64 mb),.one (.ptr 23 0)],HS,.tup [],HS',0::1::(bL++[23])⟩:=by
 obtain⟨y,hy⟩:∃ y,iH B mb x 6=y:=⟨_,rfl⟩
 have hc:=Be hB x hs mb hD hmb hq
 rw [hy]at hc hh
 obtain⟨o1,ho1⟩:∃ o,ak.cells (fw x.m hs) 56 false false=o:=⟨_,rfl⟩
 obtain⟨o2,ho2⟩:∃ o,ak.cells (fw y.m hs) 56 false false=o:=⟨_,rfl⟩
 have f1:cI o1:=ho1 ▸ inferInstance
 have f2:cI o2:=ho2 ▸ inferInstance
 have hro:dP [o1] [o2]=true:=by subst ho1 ho2;simp [dP,ak.live,ak.own]
 rw [ho1,ho2]at hc
 rw [ho2]at hh
 rw [ho1]at h23
 exact BF (S:=x.S) (S':=y.S) (l:=[o1]) (l':=[o2]) [23] hc hi hk hS (by decide) (.flat h23 .nil) rfl rfl (.flat .nil) (.flat .nil) (.flat .nil) hro (show 1<100 by omega) (.cons (by show 2<23;omega) (.cons (by show 0<23;omega) (.flat (.cons (by show 22<23;omega) .nil)))) (.cons rfl (.cons rfl (.flat (.cons rfl .nil)))) hh hbd
end Go.Proofs.YtagpkhindehcbaaGreat
namespace Go.Proofs.YtagpkhindehcbaaGreat
open Go.Xm
variable [az]
theorem qk {m:Mb} {b:Bool}(ha:alone m=b) {HS:aj}(hb:Nat.blt HS.length Mem.bound=true):aH.Sound Tryz.prog ⟨13,[.agg (mC m)],HS,.one (.bool b),HS,[]⟩:=by
 subst ha;exact nN hb
def dQ (m:Mb) (k:Nat) (l:Nat→Int):Mb:={m with lev:=fun i=>if k*64≤i∧i<k*64+64 then l (i-k*64)else m.lev i}
theorem Bl (m:Mb) {k:Nat}(hk:k<6) (l:Nat→Int):(mC m).take (7+k*64)++ti .i64 64 l++(mC m).drop (7+k*64+64)=mC (dQ m k l):=by
 have h1:∀ m:Mb,mC m=(.int .u8 m.kind :: .int .i64 m.qp::cq (m.v 0)::cq (m.v 1)::cq (m.v 2)::cq (m.v 3) :: .bool m.edge::[])++ti .i64 384 m.lev:=fun m=>rfl
 have hm:(dQ m k l).kind=m.kind∧(dQ m k l).qp=m.qp∧(dQ m k l).v=m.v∧(dQ m k l).edge=m.edge:=⟨rfl,rfl,rfl,rfl⟩
 rw [h1 m,h1 (dQ m k l),hm.1,hm.2.1,hm.2.2.1,hm.2.2.2]
 rw [List.take_append,List.drop_append]
 simp only [List.length_cons,List.length_nil]
 rw [List.take_of_length_le (by simp only [List.length_cons,List.length_nil];omega),List.drop_of_length_le (by simp only [List.length_cons,List.length_nil];omega),List.nil_append,List.append_assoc,List.append_assoc]
 congr 1
 apply List.ext_getElem?
 intro i
 rw [show 7+k*64-(0+1+1+1+1+1+1+1)=k*64 by omega,show 7+k*64+64-(0+1+1+1+1+1+1+1)=k*64+64 by omega]
 by_cases hi:i<384
 · rw [fg (f:=(dQ m k l).lev) hi]
   by_cases h1:i<k*64
   · rw [List.getElem?_append_left (by rw [List.length_take,aF];omega),List.getElem?_take_of_lt h1,fg hi]
     show _=some (XC.int .i64 (if k*64≤i∧i<k*64+64 then _ else _))
     rw [if_neg (by omega)]
   · rw [List.getElem?_append_right (by rw [List.length_take,aF];omega),List.length_take,aF,show min (k*64) 384=k*64 by omega]
     by_cases h2:i<k*64+64
     · rw [List.getElem?_append_left (by rw [aF];omega),fg (by omega)]
       show _=some (XC.int .i64 (if k*64≤i∧i<k*64+64 then _ else _))
       rw [if_pos (by omega)]
     · rw [List.getElem?_append_right (by rw [aF];omega),aF,List.getElem?_drop,fg (by omega)]
       show _=some (XC.int .i64 (if k*64≤i∧i<k*64+64 then _ else _))
       rw [if_neg (by omega),show k*64+64+(i-k*64-64)=i by omega]
 · have e1:(ti .i64 384 (dQ m k l).lev)[i]? = none:=List.getElem?_eq_none (by rw [aF];omega)
   rw [e1,List.getElem?_eq_none]
   rw [List.length_append,List.length_append,List.length_take,List.length_drop,aF,aF];omega
theorem Bk (m:Mb) {i:Nat}(hi:i<384):(mC m)[7+i]? = some (.int .i64 (m.lev i)):=by
 rw [Nat.add_comm]
 show(ti .i64 384 m.lev)[i]? = _
 exact fg hi
noncomputable def km (S:bC) (mb:Int) (k:Nat) (m:Mb) (rest:Nat→Int):Option (bC × Mb):=
 if alone m=true then
  (if m.edge=true then ku (d_ (dC m.edge (aL S mb k m.qp).1) rest) (cz S mb k m.qp)else some (d_ (dC m.edge (aL S mb k m.qp).1) rest)).map fun l=>
    (aN S mb k ⟨c8 l 0 (m.lev (k*64)),m.qp⟩,dQ m k (c8 l 0 (m.lev (k*64))))
 else some (S,dQ m k (d_ 0 rest))
theorem ud {edge:Bool} {frm o:Int}(ho:dC edge frm=o) {HS:aj}(hb:Nat.blt HS.length Mem.bound=true):aH.Sound Tryz.prog ⟨71,[.one (.bool edge),.one (.int .u8 frm)],HS,.one (.int .u8 o),HS,[]⟩:=by
 subst ho;exact jL hb
theorem He {m:Mb} {b:Bool}(h:m.edge=b):(mC m)[6]? = some (.bool b):=congrArg (fun b=>some (XC.bool b)) h
section
variable {S:bC} {mb:Int} {k:Nat} {m:Mb} {rest:Nat→Int}
theorem Ok (hk:k<6) (ha:alone m=false) :
 bn Tryz.prog 38 [.one (.ptr 2 0),.one (.int .i64 mb),.one (.int .i64 (k:Nat)),.one (.ptr 0 0),.agg (ti .i64 64 rest)] [lB m,.dead,du (S),bM 4 8 12,ax 5 6 7 cM,aU cM,aW cM,aV cM,ax 9 10 11 cZ,aU cZ,aW cZ,aV cZ,ax 13 14 15 cP,aU cP,aW cP,aV cP,cg 17 (S).cols (S).rows,.map (bg (S).M),.cells [.int .i64 (S).cols,.int .i64 (S).rows,.map 19,.map 20,.map 21] 171 false false,.map (ah (S).A),.map (ah (S).B),.map (ah (S).C)] (.one (.bool true)) [lB (dQ m k (d_ 0 rest)),.dead,du (S),bM 4 8 12,ax 5 6 7 cM,aU cM,aW cM,aV cM,ax 9 10 11 cZ,aU cZ,aW cZ,aV cZ,ax 13 14 15 cP,aU cP,aW cP,aV cP,cg 17 (S).cols (S).rows,.map (bg (S).M),.cells [.int .i64 (S).cols,.int .i64 (S).rows,.map 19,.map 20,.map 21] 171 false false,.map (ah (S).A),.map (ah (S).B),.map (ah (S).C)]:=by
 refine cO Tryz.func38 ?_
 repeat' (first
  |(refine qz ?_;first
   |refine fW ?_ (hle:=by rw [aJ])
   |refine fW ?_ (hle:=by rw [aF])
   |refine cl ?_ (hi:=by exact qk ha rfl)
   |refine cl ?_ (hi:=by exact qY (.inl rfl) rfl)
   |refine NU ?_ (by rw [aJ];omega) (Bl m hk (d_ 0 rest)) (hs1:=by rw [aF]))
  |refine zz ?_|refine zx (fun _=>?_) (fun _=>?_)|fail)
 show aC _ _ _ _ _ _ _ _;refine kV [0,1,2,3,4,5,6,7,8,9,10,11,12,13,14,15,16,17,18,19,20,21] ?_
 rfl
theorem Om (hD:gz S.cols S.rows) (hmb:0≤mb∧mb<S.cols*S.rows) (hk:k<6) (ha:alone m=true) (he:m.edge=false) {o:Int}(ho:dC false (aL S mb k m.qp).1=o) {l:Nat→Int}(hl:c8 (d_ o rest) 0 (m.lev (k*64))=l) :
 bn Tryz.prog 38 [.one (.ptr 2 0),.one (.int .i64 mb),.one (.int .i64 (k:Nat)),.one (.ptr 0 0),.agg (ti .i64 64 rest)] [lB m,.dead,du (S),bM 4 8 12,ax 5 6 7 cM,aU cM,aW cM,aV cM,ax 9 10 11 cZ,aU cZ,aW cZ,aV cZ,ax 13 14 15 cP,aU cP,aW cP,aV cP,cg 17 (S).cols (S).rows,.map (bg (S).M),.cells [.int .i64 (S).cols,.int .i64 (S).rows,.map 19,.map 20,.map 21] 171 false false,.map (ah (S).A),.map (ah (S).B),.map (ah (S).C)] (.one (.bool true)) [lB (dQ m k l),.dead,du ((aN S mb k ⟨l,m.qp⟩)),bM 4 8 12,ax 5 6 7 cM,aU cM,aW cM,aV cM,ax 9 10 11 cZ,aU cZ,aW cZ,aV cZ,ax 13 14 15 cP,aU cP,aW cP,aV cP,cg 17 ((aN S mb k ⟨l,m.qp⟩)).cols ((aN S mb k ⟨l,m.qp⟩)).rows,.map (bg ((aN S mb k ⟨l,m.qp⟩)).M),.cells [.int .i64 ((aN S mb k ⟨l,m.qp⟩)).cols,.int .i64 ((aN S mb k ⟨l,m.qp⟩)).rows,.map 19,.map 20,.map 21] 171 false false,.map (ah ((aN S mb k ⟨l,m.qp⟩)).A),.map (ah ((aN S mb k ⟨l,m.qp⟩)).B),.map (ah ((aN S mb k ⟨l,m.qp⟩)).C)]:=by
 subst hl
 have hor:=fe false (aL S mb k m.qp).1
 rw [ho]at hor
 have hE:=He he
 have hq:(mC m)[1]? = some (.int .i64 m.qp):=rfl
 have hL:=Bk m (i:=k*64) (by omega)
 refine cO Tryz.func38 ?_
 repeat' (first
  |(refine qz ?_;first
   |refine fW ?_ (hle:=by rw [aJ])
   |refine fW ?_ (hle:=by rw [aF])
   |refine ld (hc:=hE) ?_
   |refine ld (hc:=hL) ?_
   |refine cl ?_ (hi:=by exact qk ha rfl)
   |refine cl ?_ (hi:=by exact hZ (S:=S) hD hmb (by omega) rfl rfl rfl rfl rfl)
   |refine cl ?_ (hi:=by exact ud ho rfl)
   |refine cl ?_ (hi:=by exact qY hor rfl)
   |refine NU ?_ (by rw [aJ];omega) (Bl m hk (c8 (d_ o rest) 0 (m.lev (k*64)))) (hs1:=by rw [aF])
   |refine cl ?_ (hi:=by exact lh (S:=S) (b:=⟨c8 (d_ o rest) 0 (m.lev (k*64)),m.qp⟩) hD hmb (by omega) rfl rfl rfl rfl nA rfl))
  |refine Fx (id:=5) [8] ?_|refine zz ?_|refine zx (fun _=>?_) (fun _=>?_)|fail)
 show aC _ _ _ _ _ _ _ _;refine kV [0,1,2,3,4,5,6,7,8,9,10,11,12,13,14,15,16,17,18,19,20,21] ?_
 rfl
theorem On (hD:gz S.cols S.rows) (hmb:0≤mb∧mb<S.cols*S.rows) (hk:k<6) (ha:alone m=true) (he:m.edge=true) {o:Int}(ho:dC true (aL S mb k m.qp).1=o) (hb1:∀ i,-1000000≤d_ o rest i∧d_ o rest i≤1000000) (hb2:∀ i,-1000000≤cz S mb k m.qp i∧cz S mb k m.qp i≤1000000) {l2:Nat→Int}(hm:ku (d_ o rest) (cz S mb k m.qp)=some l2) {l:Nat→Int}(hl:c8 l2 0 (m.lev (k*64))=l) :
 bn Tryz.prog 38 [.one (.ptr 2 0),.one (.int .i64 mb),.one (.int .i64 (k:Nat)),.one (.ptr 0 0),.agg (ti .i64 64 rest)] [lB m,.dead,du (S),bM 4 8 12,ax 5 6 7 cM,aU cM,aW cM,aV cM,ax 9 10 11 cZ,aU cZ,aW cZ,aV cZ,ax 13 14 15 cP,aU cP,aW cP,aV cP,cg 17 (S).cols (S).rows,.map (bg (S).M),.cells [.int .i64 (S).cols,.int .i64 (S).rows,.map 19,.map 20,.map 21] 171 false false,.map (ah (S).A),.map (ah (S).B),.map (ah (S).C)] (.one (.bool true)) [lB (dQ m k l),.dead,du ((aN S mb k ⟨l,m.qp⟩)),bM 4 8 12,ax 5 6 7 cM,aU cM,aW cM,aV cM,ax 9 10 11 cZ,aU cZ,aW cZ,aV cZ,ax 13 14 15 cP,aU cP,aW cP,aV cP,cg 17 ((aN S mb k ⟨l,m.qp⟩)).cols ((aN S mb k ⟨l,m.qp⟩)).rows,.map (bg ((aN S mb k ⟨l,m.qp⟩)).M),.cells [.int .i64 ((aN S mb k ⟨l,m.qp⟩)).cols,.int .i64 ((aN S mb k ⟨l,m.qp⟩)).rows,.map 19,.map 20,.map 21] 171 false false,.map (ah ((aN S mb k ⟨l,m.qp⟩)).A),.map (ah ((aN S mb k ⟨l,m.qp⟩)).B),.map (ah ((aN S mb k ⟨l,m.qp⟩)).C)]:=by
 subst hl
 have hor:=fe true (aL S mb k m.qp).1
 rw [ho]at hor
 have hE:=He he
 have hL:=Bk m (i:=k*64) (by omega)
 refine cO Tryz.func38 ?_
 repeat' (first
  |(refine qz ?_;first
   |refine fW ?_ (hle:=by rw [aJ])
   |refine fW ?_ (hle:=by rw [aF])
   |refine ld (hc:=hE) ?_
   |refine ld (hc:=hL) ?_
   |refine cl ?_ (hi:=by exact qk ha rfl)
   |refine cl ?_ (hi:=by exact hZ (S:=S) hD hmb (by omega) rfl rfl rfl rfl rfl)
   |refine cl ?_ (hi:=by exact ov (S:=S) hD hmb (by omega) rfl rfl rfl rfl rfl)
   |refine cl ?_ (hi:=by exact ud ho rfl)
   |refine cl ?_ (hi:=by exact qY hor rfl)
   |refine cl ?_ (hi:=by exact CR hb1 hb2 hm rfl)
   |refine jb ?_ (hs1:=by rw [aF]) (hs2:=by rw [aF])
   |refine NU ?_ (by rw [aJ];omega) (Bl m hk (c8 l2 0 (m.lev (k*64)))) (hs1:=by rw [aF])
   |refine cl ?_ (hi:=by exact lh (S:=S) (b:=⟨c8 l2 0 (m.lev (k*64)),m.qp⟩) hD hmb (by omega) rfl rfl rfl rfl nA rfl))
  |refine Fx (id:=5) [8] ?_|refine Fx (id:=7) [16] ?_|refine zz ?_|refine zx (fun _=>?_) (fun _=>?_)|fail)
 show aC _ _ _ _ _ _ _ _;refine kV [0,1,2,3,4,5,6,7,8,9,10,11,12,13,14,15,16,17,18,19,20,21] ?_
 rfl
theorem Oo (hD:gz S.cols S.rows) (hmb:0≤mb∧mb<S.cols*S.rows) (hk:k<6) (ha:alone m=true) (he:m.edge=true) {o:Int}(ho:dC true (aL S mb k m.qp).1=o) (hb1:∀ i,-1000000≤d_ o rest i∧d_ o rest i≤1000000) (hb2:∀ i,-1000000≤cz S mb k m.qp i∧cz S mb k m.qp i≤1000000) (hm:ku (d_ o rest) (cz S mb k m.qp)=none) :
 bn Tryz.prog 38 [.one (.ptr 2 0),.one (.int .i64 mb),.one (.int .i64 (k:Nat)),.one (.ptr 0 0),.agg (ti .i64 64 rest)] [lB m,.dead,du (S),bM 4 8 12,ax 5 6 7 cM,aU cM,aW cM,aV cM,ax 9 10 11 cZ,aU cZ,aW cZ,aV cZ,ax 13 14 15 cP,aU cP,aW cP,aV cP,cg 17 (S).cols (S).rows,.map (bg (S).M),.cells [.int .i64 (S).cols,.int .i64 (S).rows,.map 19,.map 20,.map 21] 171 false false,.map (ah (S).A),.map (ah (S).B),.map (ah (S).C)] (.one (.bool false)) [lB m,.dead,du (S),bM 4 8 12,ax 5 6 7 cM,aU cM,aW cM,aV cM,ax 9 10 11 cZ,aU cZ,aW cZ,aV cZ,ax 13 14 15 cP,aU cP,aW cP,aV cP,cg 17 (S).cols (S).rows,.map (bg (S).M),.cells [.int .i64 (S).cols,.int .i64 (S).rows,.map 19,.map 20,.map 21] 171 false false,.map (ah (S).A),.map (ah (S).B),.map (ah (S).C)]:=by
 have hor:=fe true (aL S mb k m.qp).1
 rw [ho]at hor
 have hE:=He he
 have hL:=Bk m (i:=k*64) (by omega)
 refine cO Tryz.func38 ?_
 repeat' (first
  |(refine qz ?_;first
   |refine fW ?_ (hle:=by rw [aJ])
   |refine fW ?_ (hle:=by rw [aF])
   |refine ld (hc:=hE) ?_
   |refine ld (hc:=hL) ?_
   |refine cl ?_ (hi:=by exact qk ha rfl)
   |refine cl ?_ (hi:=by exact hZ (S:=S) hD hmb (by omega) rfl rfl rfl rfl rfl)
   |refine cl ?_ (hi:=by exact ov (S:=S) hD hmb (by omega) rfl rfl rfl rfl rfl)
   |refine cl ?_ (hi:=by exact ud ho rfl)
   |refine cl ?_ (hi:=by exact qY hor rfl)
   |refine cl ?_ (hi:=by exact CR hb1 hb2 hm rfl))
  |refine Fx (id:=5) [8] ?_|refine Fx (id:=7) [16] ?_|refine zz ?_|refine zx (fun _=>?_) (fun _=>?_)|fail)
 show aC _ _ _ _ _ _ _ _;refine kV [0,1,2,3,4,5,6,7,8,9,10,11,12,13,14,15,16,17,18,19,20,21] ?_
 rfl
end
end Go.Proofs.YtagpkhindehcbaaGreat
