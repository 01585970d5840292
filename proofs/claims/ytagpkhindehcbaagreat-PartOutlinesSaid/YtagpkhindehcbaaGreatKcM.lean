/-
  A part of the proof: FieldV, PartIO, Escape.
-/
import Derived.Test.YtagpkhindehcbaaGreatKcH
import Derived.Test.YtagpkhindehcbaaGreatKcL
set_option maxRecDepth 10000
set_option maxHeartbeats 8000000
set_option linter.unusedVariables false
set_option linter.unusedSectionVars false
set_option linter.unusedSimpArgs false
namespace Go.Xm
variable [az]
variable {P:Program} {ops:Array Oper} {nt nI:Nat} {al:bn} {hs:ak} {o:Oper} {l:List Oper} {L:List aI} {K:List Ab→bn→ak→Prop} {d:Nat}
theorem pH {t:TypeId} {x ix:Operand} {len:Nat} {elem:TypeId} {cs:List XC} {k:IntKind} {z:Int} {c:XC}(hk:SK P ops nt L l ((d,.one c)::al) hs fun bs=>K (quiet::bs)) (ho:o.op = .index t x ix:=by exact rfl) (hw:aw ops (rg al) o=some true:=by exact rfl) (hd:o.dst=some d:=by exact rfl) (hlt:Nat.blt d nt=true:=by exact rfl)
 (ha:ai (rg al) x = .agg cs:=by exact rfl) (hb:ai (rg al) ix = .one (.int k z):=by exact rfl) (hu:bh P t (.array len elem):=by infer_instance) (hs':aU P elem 1:=by infer_instance) (hg:dJ P elem:=by infer_instance) (hz:0≤z∧z<(len:Nat):=by omega) (hc:cs[z.toNat]? = some c:=by exact rfl):SK P ops nt L (o::l) al hs K:=
 lp hw hd hlt (by rw [ho];simp only [bj,pW,ha,hb,hu.out,hs'.out,if_pos hz,i4,hg.out,Nat.mul_one,hc,Option.map_some,X1.rr]) hk
theorem Jj {t:TypeId} {x ix:Operand} {len s:Nat} {elem:TypeId} {cs cs':List XC} {k:IntKind} {z:Int}(hk:SK P ops nt L l ((d,.agg cs')::al) hs fun bs=>K (quiet::bs)) (ho:o.op = .index t x ix:=by exact rfl) (hw:aw ops (rg al) o=some true:=by exact rfl) (hd:o.dst=some d:=by exact rfl) (hlt:Nat.blt d nt=true:=by exact rfl)
 (ha:ai (rg al) x = .agg cs:=by exact rfl) (hb:ai (rg al) ix = .one (.int k z):=by exact rfl) (hu:bh P t (.array len elem):=by infer_instance) (hs':aU P elem s:=by infer_instance) (hg:eJ P elem:=by infer_instance) (hz:0≤z∧z<(len:Nat):=by omega) (hc:(cs.drop (z.toNat*s)).take s=cs':=by exact rfl):SK P ops nt L (o::l) al hs K:=
 lp hw hd hlt (by rw [ho];simp only [bj,pW,ha,hb,hu.out,hs'.out,if_pos hz,i4,hg.out,hc,Option.map_some,X1.rr]) hk
theorem HH {k:IntKind} {n:Nat} {q:Nat→Int} {a s:Nat}(h:a+s≤n):((ti k n q).drop a).take s=ti k s (fun i=>q (a+i)):=by
 apply List.ext_getElem?
 intro i
 rw [List.getElem?_take,List.getElem?_drop]
 by_cases hi:i<s
 · rw [if_pos hi,gP (by omega),gP hi]
 · rw [if_neg hi,List.getElem?_eq_none (by rw [aE];omega)]
theorem Dx {t:TypeId} {x ix:Operand} {len n:Nat} {elem:TypeId} {q:Nat→Int} {k k':IntKind} {z:Int}(hk:SK P ops nt L l ((d,.one (.int k' (q z.toNat)))::al) hs fun bs=>K (quiet::bs)) (ho:o.op = .index t x ix:=by exact rfl) (hw:aw ops (rg al) o=some true:=by exact rfl) (hd:o.dst=some d:=by exact rfl) (hlt:Nat.blt d nt=true:=by exact rfl)
 (ha:ai (rg al) x = .agg (ti k' n q):=by exact rfl) (hb:ai (rg al) ix = .one (.int k z):=by exact rfl) (hu:bh P t (.array len elem):=by infer_instance) (hs':aU P elem 1:=by infer_instance) (hg:dJ P elem:=by infer_instance) (hz:0≤z∧z<(len:Nat):=by omega) (hln:len=n:=by exact rfl):SK P ops nt L (o::l) al hs K:=
 pH hk ho hw hd hlt ha hb hu hs' hg hz (gP (by omega))
theorem yC {t:TypeId} {x ix:Operand} {len n s:Nat} {elem:TypeId} {q:Nat→Int} {k k':IntKind} {z:Int}(hk:SK P ops nt L l ((d,.agg (ti k' s fun i=>q (z.toNat*s+i)))::al) hs fun bs=>K (quiet::bs)) (ho:o.op = .index t x ix:=by exact rfl) (hw:aw ops (rg al) o=some true:=by exact rfl) (hd:o.dst=some d:=by exact rfl) (hlt:Nat.blt d nt=true:=by exact rfl)
 (ha:ai (rg al) x = .agg (ti k' n q):=by exact rfl) (hb:ai (rg al) ix = .one (.int k z):=by exact rfl) (hu:bh P t (.array len elem):=by infer_instance) (hs':aU P elem s:=by infer_instance) (hg:eJ P elem:=by infer_instance) (hz:0≤z∧z<(len:Nat):=by omega) (hln:len*s=n:=by exact rfl):SK P ops nt L (o::l) al hs K:=
 Jj hk ho hw hd hlt ha hb hu hs' hg hz (HH (by
  have h1:z.toNat+1≤len:=by omega
  have h2:=Nat.mul_le_mul_right s h1
  rw [Nat.add_mul,Nat.one_mul]at h2
  omega))
theorem B1 {α : Type} {enc : α→List XC} {f : α→XC}(henc:∀ a,enc a = [f a]) (q:List α):fl enc q=q.map f:=by
 unfold fl
 induction q with
 | nil=>rfl
 | cons a q ih=>rw [List.flatMap_cons,ih,henc];rfl
theorem KJ {α : Type} [Inhabited α] {enc : α→List XC} {f : α→XC}(henc:∀ a,enc a = [f a]) {t:TypeId} {a:Operand} {i off:Nat} {e:TypeId} {q:List α}(hk:SK P ops nt L l ((d,.one (f (q.getD off default)))::al) hs fun bs=>K (⟨false,some i,[]⟩::bs)) (ho:o.op = .load t a:=by exact rfl) (ht:dJ P t:=by infer_instance) (hw:aw ops (rg al) o=some true:=by exact rfl) (hd:o.dst=some d:=by exact rfl) (hlt:Nat.blt d nt=true:=by exact rfl)
 (ha:ai (rg al) a = .one (.ptr i off):=by exact rfl) (hi:hs[i]? = some (cK e (fl enc q)):=by exact rfl) (hc:off<q.length:=by first|omega|(simp only [List.length_cons,List.length_nil,List.length_append];first|omega|decide)):SK P ops nt L (o::l) al hs K:=by
 have h1:cK e (fl enc q) = .cells (fl enc q) e true false:=js (fun hn=>by
  have:(fl enc q).length=0:=by rw [hn];rfl
  rw [B1 henc,List.length_map]at this
  omega)
 have h2:(fl enc q)[off]? = some (f (q.getD off default)):=by
  rw [B1 henc,List.getElem?_map,List.getD_eq_getElem?_getD,List.getElem?_eq_getElem hc];rfl
 exact gA ho hw hd hlt ha (hi.trans (congrArg some h1)) h2 hk
end Go.Xm
namespace Go.Proofs.YtagpkhindehcbaaGreat
open Go.Xm
variable [az]
abbrev fX:=List (Int × (Int × Int))
def Kl (p:Int × Int):X1 := .one (cn p)
abbrev bg (M:fX):List (X1 × X1):=kj Lo Kl M
instance Mn (M:fX):dc (.map (bg M)):=tC (fun _=>rfl) (fun _=>rfl) M
abbrev ch (m:Nat) (cols rows:Int):aj := .cells [.int .i64 cols,.int .i64 rows,.map m] 167 false false
abbrev aP (cols rows:Int) (M:fX):ak:=[ch 1 cols rows,.map (bg M)]
theorem Kx:oq Tryz.prog 47=some (.one (.cplx .f64 0 0)):=by kernel_rfl
theorem MD:oq Tryz.prog 47=some (Kl (0,0)):=by
 rw [Kx]
 unfold Kl
 rw [dM]
instance Of (a b:Int):bB (.tup [.one (.int .i64 a),.one (.int .i64 b)]):=eY rfl
structure gw (cols rows:Int):Prop where
 c0:1≤cols
 c1:cols≤8
 r0:1≤rows
 r1:rows≤8
theorem gw.mul {cols rows:Int}(h:gw cols rows):0≤cols*rows∧cols*rows≤64:=wH ⟨h.c0,h.c1⟩ ⟨by have:=h.r0;omega,h.r1⟩
theorem H3 (cols rows:Int) (h:gw cols rows):bt Tryz.prog 47 [.one (.int .i64 cols),.one (.int .i64 rows)] [] (.one (.ptr 0 0)) (aP cols rows []):=by
 have h1:=h.c0
 have h2:=h.c1
 have h3:=h.r0
 have h4:=h.r1
 refine cO Tryz.func47 ?_
 repeat' (first|refine zz ?_|refine zx (fun _=>?_) (fun _=>?_)|fail)
 show aH _ _ _ _ _ _ _ _;refine kV [1,0] ?_
 rfl
def aT (cols mb k:Int):Int × Int:=(2*(mb%cols)+k%2,2*(mb/cols)+k/2)
theorem gl {cols rows mb k:Int}(h:gw cols rows) (hm:0≤mb∧mb<cols*rows) (hk:0≤k∧k<4):0≤mb%cols∧mb%cols<cols∧0≤mb/cols∧mb/cols<rows:=by
 refine⟨Int.emod_nonneg _ (by have:=h.c0;omega),Int.emod_lt_of_pos _ (by have:=h.c0;omega),Int.ediv_nonneg hm.1 (by have:=h.c0;omega),?_⟩
 exact Int.ediv_lt_of_lt_mul (by have:=h.c0;omega) (by rw [Int.mul_comm];exact hm.2)
theorem Bh {cols rows mb k:Int} {M:fX}(h:gw cols rows) (hm:0≤mb∧mb<cols*rows) (hk:0≤k∧k<4):bt Tryz.prog 85 [.one (.ptr 0 0),.one (.int .i64 mb),.one (.int .i64 k)] (aP cols rows M) (.tup [.one (.int .i64 (aT cols mb k).1),.one (.int .i64 (aT cols mb k).2)]) (aP cols rows M):=by
 have h1:=h.c0
 have h2:=h.c1
 have h3:=h.r0
 have h4:=h.r1
 have hb:=gl h hm hk
 have hmm:=h.mul
 refine cO Tryz.func85 ?_
 repeat' (first|refine zz ?_|refine zx (fun _=>?_) (fun _=>?_)|fail)
 show aH _ _ _ _ _ _ _ _;refine kV [0,1] ?_
 rfl
theorem jK {f:FuncId} {more:List XV}(hm:∀ τ,dE τ more more) (hmo:eT 2 more) {v:XV} [bB v] {cols rows:Int} {M:fX}(hc:bt Tryz.prog f (.one (.ptr 0 0)::more) (aP cols rows M) v (aP cols rows M)) {HS:ak} {i k:Nat}(hi:HS[i]? = some (ch k cols rows)) (hk:HS[k]? = some (.map (bg M))) (hd:i≠k) (hbd:Nat.blt HS.length Mem.bound=true) :
 aI.Sound Tryz.prog ⟨f,.one (.ptr i 0)::more,HS,v,HS,[]⟩:=by
 refine wQ [i,k] hc (by simp [hd]) ?_ ?_ (.cons (by simp [XV.cc,XC.ok]) hmo) (.cons rfl (hm _)) (bB.ok _) (bB.au _) hbd rfl
 · exact .cons hi (.flat hk .nil)
 · exact .cons (by simp [aj.cc,XC.ok]) (.flat .nil)
theorem gC {cols rows mb k:Int} {M:fX}(h:gw cols rows) (hm:0≤mb∧mb<cols*rows) (hk:0≤k∧k<4) {HS:ak} {i j:Nat}(hi:HS[i]? = some (ch j cols rows)) (hj:HS[j]? = some (.map (bg M))) (hd:i≠j) (hbd:Nat.blt HS.length Mem.bound=true) :
 aI.Sound Tryz.prog ⟨85,[.one (.ptr i 0),.one (.int .i64 mb),.one (.int .i64 k)],HS,.tup [.one (.int .i64 (aT cols mb k).1),.one (.int .i64 (aT cols mb k).2)],HS,[]⟩:=
 jK (fun _ => .flat (.flat .nil)) (.flat (.flat .nil)) (Bh h hm hk) hi hj hd hbd
def kE (M:fX) (cols rows x y:Int):Option (Int × Int):=if x<0∨y<0∨2*cols≤x∨2*rows≤y then none else cp M (y*2*cols+x)
instance Oe (p:Int × Int) (b:Bool):bB (.tup [.one (cn p),.one (.bool b)]):=eY rfl
theorem xq {cols rows x y:Int} {M:fX}(h:gw cols rows) (hx : -1≤x∧x≤100) (hy : -1≤y∧y≤100):bt Tryz.prog 86 [.one (.ptr 0 0),.one (.int .i64 x),.one (.int .i64 y)] (aP cols rows M) (.tup [.one (cn ((kE M cols rows x y).getD (0,0))),.one (.bool (kE M cols rows x y).isSome)]) (aP cols rows M):=by
 have h1:=h.c0
 have h2:=h.c1
 have h3:=h.r0
 have h4:=h.r1
 unfold kE
 by_cases hin:x<0∨y<0∨2*cols≤x∨2*rows≤y
 · rw [if_pos hin]
   have e:cn ((none:Option (Int × Int)).getD (0,0)) = .cplx .f64 0 0:=dM
   rw [e]
   refine cO Tryz.func86 ?_
   repeat' (first|refine zz ?_|refine zx (fun _=>?_) (fun _=>?_)|fail)
   all_goals
    first
     | (exfalso;omega)
     | (show aH _ _ _ _ _ _ _ _;refine kV [0,1] ?_;rfl)
 · rw [if_neg hin]
   have hp:0≤y*2*cols∧y*2*cols≤1600:=⟨Int.mul_nonneg (by omega) (by omega),by
    have:=Int.mul_le_mul (show y*2≤200 by omega) h2 (by omega) (by decide)
    omega⟩
   refine cO Tryz.func86 ?_
   repeat' (first
    |(refine qz ?_;first
     |refine Cx rfl rfl rfl rfl sw MD rfl rfl rfl ?_)
    |refine zz ?_|refine zx (fun _=>?_) (fun _=>?_)|fail)
   show aH _ _ _ _ _ _ _ _;refine kV [0,1] ?_
   rfl
def ba (M:fX) (cols mb k:Int) (v:Int × Int):fX:=nk M ((aT cols mb k).2*2*cols+(aT cols mb k).1) v
theorem H5 {cols rows mb k:Int} {M:fX}(h:gw cols rows) (hm:0≤mb∧mb<cols*rows) (hk:0≤k∧k<4) (v:Int × Int):bt Tryz.prog 56 [.one (.ptr 0 0),.one (.int .i64 mb),.one (.int .i64 k),.one (cn v)] (aP cols rows M) (.tup []) (aP cols rows (ba M cols mb k v)):=by
 have h1:=h.c0
 have h2:=h.c1
 have h3:=h.r0
 have h4:=h.r1
 have hb:=gl h hm hk
 have hmm:=h.mul
 have hp:0≤(aT cols mb k).2∧(aT cols mb k).2≤17:=by unfold aT;simp only [];omega
 have hq:0≤(aT cols mb k).1∧(aT cols mb k).1≤17:=by unfold aT;simp only [];omega
 have hpp:0≤(aT cols mb k).2*2*cols∧(aT cols mb k).2*2*cols≤1600:=⟨Int.mul_nonneg (by omega) (by omega),by
  have:=Int.mul_le_mul (show(aT cols mb k).2*2≤200 by omega) h2 (by omega) (by decide)
  omega⟩
 refine cO Tryz.func56 ?_
 repeat' (first
  |(refine qz ?_;first
   |refine cl ?_ (hi:=by exact gC (M:=M) h hm hk rfl rfl (by decide) rfl)
   |refine zg (vc:=Kl) rfl rfl rfl sw rfl rfl rfl rfl (by first|(simp only [List.set_cons_succ,List.set_cons_zero];exact rfl)|exact rfl) ?_)
  |refine zz ?_|refine zx (fun _=>?_) (fun _=>?_)|fail)
 show aH _ _ _ _ _ _ _ _;refine kV [0,1] ?_
 rfl
theorem dk {cols rows mb k:Int} {M:fX}(h:gw cols rows) (hm:0≤mb∧mb<cols*rows) (hk:0≤k∧k<4) {v:Int × Int} {HS:ak} {i j:Nat}(hi:HS[i]? = some (ch j cols rows)) (hj:HS[j]? = some (.map (bg M))) (hd:i≠j) {HS':ak}(hh:HS.set j (.map (bg (ba M cols mb k v)))=HS') (hbd:Nat.blt HS'.length Mem.bound=true) :
 aI.Sound Tryz.prog ⟨56,[.one (.ptr i 0),.one (.int .i64 mb),.one (.int .i64 k),.one (cn v)],HS,.tup [],HS',[j]⟩:=by
 have hh':bN HS [i,j] [ch j cols rows,.map (bg (ba M cols mb k v))]=HS':=by
  subst hh
  simp only [bN,List.append_nil]
  rw [aG hi]
 refine b8 [i,j] [j] 0 (H5 (M:=M) h hm hk v) (by simp [hd]) ?_ ?_ ?_ rfl (.cons (by simp [XV.cc,XC.ok]) (.flat (.flat (.cons trivial .nil)))) (.cons rfl (.flat (.flat (.cons rfl .nil)))) (bB.ok _) (bB.au _) ?_ rfl rfl hh' hbd (.inr fun q hq hj=>?_)
 · exact .cons hi (.flat hj .nil)
 · exact .cons (by simp [aj.cc,XC.ok]) (.flat .nil)
 · exact .cons (by simp [aj.cc,XC.ok]) (.flat .nil)
 · exact .cons rfl (.flat .nil)
 · subst hh
   rw [List.getElem?_set,if_neg (fun h=>hj (by rw [h];exact List.mem_singleton.2 rfl))]
def cj (M:fX):Prop:=∀ key v,cp M key=some v→bu v
theorem vS:cj []:=fun key v h=>by cases h
theorem Em {M:fX}(h:cj M) {key:Int} {v:Int × Int}(hv:bu v):cj (nk M key v):=fun key' v' h'=>by
 rw [fL]at h'
 split at h'
 · cases h';exact hv
 · exact h key' v' h'
def oa (la lb lc:Option (Int × Int)):Int × Int:=match la,lb,lc with
 | some a,some b,some c=>Lx a b c
 | some a,_,_=>a
 | none,some b,_=>b
 | none,none,some c=>c
 | none,none,none=>(0,0)
def cg (M:fX) (cols rows mb k:Int):Int × Int:=
 oa (kE M cols rows ((aT cols mb k).1-1) (aT cols mb k).2) (kE M cols rows (aT cols mb k).1 ((aT cols mb k).2-1)) (kE M cols rows ((aT cols mb k).1+1) ((aT cols mb k).2-1))
def gQ (p:Int × Int):List XC:=[cn p]
instance:qQ gQ 1:=⟨fun _=>rfl,fun _=>rfl,by decide⟩
theorem jm {M:fX}(h:cj M) {cols rows x y:Int} {v:Int × Int}(hv:kE M cols rows x y=some v):bu v:=by
 unfold kE at hv
 split at hv
 · cases hv
 · exact h _ _ hv
section
variable {cols rows mb k:Int} {M:fX}(h:gw cols rows) (hm:0≤mb∧mb<cols*rows) (hk:0≤k∧k<4)
include h hm hk
theorem HT (yt1:∀ v,none=some v→bu v) (yt2:∀ v,none=some v→bu v) (yt3:∀ v,none=some v→bu v) (c1:bt Tryz.prog 86 [.one (.ptr 0 0),.one (.int .i64 ((aT cols mb k).1-1)),.one (.int .i64 ((aT cols mb k).2))] (aP cols rows M) (.tup [.one (cn ((none:Option (Int × Int)).getD (0,0))),.one (.bool ((none:Option (Int × Int)).isSome))]) (aP cols rows M)) (c2:bt Tryz.prog 86 [.one (.ptr 0 0),.one (.int .i64 ((aT cols mb k).1)),.one (.int .i64 ((aT cols mb k).2-1))] (aP cols rows M) (.tup [.one (cn ((none:Option (Int × Int)).getD (0,0))),.one (.bool ((none:Option (Int × Int)).isSome))]) (aP cols rows M)) (c3:bt Tryz.prog 86 [.one (.ptr 0 0),.one (.int .i64 ((aT cols mb k).1+1)),.one (.int .i64 ((aT cols mb k).2-1))] (aP cols rows M) (.tup [.one (cn ((none:Option (Int × Int)).getD (0,0))),.one (.bool ((none:Option (Int × Int)).isSome))]) (aP cols rows M)):bt Tryz.prog 55 [.one (.ptr 0 0),.one (.int .i64 mb),.one (.int .i64 k)] (aP cols rows M) (.one (cn (oa none none none))) (aP cols rows M):=by
 have h1:=h.c0
 have h2:=h.c1
 have h3:=h.r0
 have h4:=h.r1
 have hb:=gl h hm hk
 have hmm:=h.mul
 have hp:0≤(aT cols mb k).2∧(aT cols mb k).2≤17:=by unfold aT;simp only [];omega
 have hq:0≤(aT cols mb k).1∧(aT cols mb k).1≤17:=by unfold aT;simp only [];omega
 refine cO Tryz.func55 ?_
 repeat' (first
  |(refine qz ?_;first
   |refine cl ?_ (hi:=by exact gC (M:=M) h hm hk rfl rfl (by decide) rfl))
  |refine zz ?_|refine zx (fun _=>?_) (fun _=>?_)|fail)
 refine WX.dv rfl ?_
 repeat' (first
  |(refine qz ?_;first
   |refine Jj ?_
   |refine cl ?_ (hi:=by exact jK (fun _ => .flat (.flat .nil)) (.flat (.flat .nil)) c1 rfl rfl (by decide) rfl)
   |refine cl ?_ (hi:=by exact jK (fun _ => .flat (.flat .nil)) (.flat (.flat .nil)) c2 rfl rfl (by decide) rfl)
   |refine cl ?_ (hi:=by exact jK (fun _ => .flat (.flat .nil)) (.flat (.flat .nil)) c3 rfl rfl (by decide) rfl)
   |refine qU (enc:=gQ) ?_
   |refine uL (enc:=gQ) (i:=2) (n:=0) (q:=[]) ?_
   |refine uL (enc:=gQ) ?_
   |refine KJ (enc:=gQ) (f:=cn) (fun _=>rfl) ?_
   |refine cl ?_ (hi:=by exact iB (yt1 _ rfl) (yt2 _ rfl) (yt3 _ rfl) rfl))
  |refine WX.loop ?_|refine WX.round ?_|refine zz ?_|refine zx (fun _=>?_) (fun _=>?_)|fail)
 show aH _ _ _ _ _ _ _ _;refine kV [0,1] ?_
 exact congrArg XV.one dM.symm
theorem HU (c:Int × Int) (yt1:∀ v,none=some v→bu v) (yt2:∀ v,none=some v→bu v) (yt3:∀ v,(some c)=some v→bu v) (c1:bt Tryz.prog 86 [.one (.ptr 0 0),.one (.int .i64 ((aT cols mb k).1-1)),.one (.int .i64 ((aT cols mb k).2))] (aP cols rows M) (.tup [.one (cn ((none:Option (Int × Int)).getD (0,0))),.one (.bool ((none:Option (Int × Int)).isSome))]) (aP cols rows M)) (c2:bt Tryz.prog 86 [.one (.ptr 0 0),.one (.int .i64 ((aT cols mb k).1)),.one (.int .i64 ((aT cols mb k).2-1))] (aP cols rows M) (.tup [.one (cn ((none:Option (Int × Int)).getD (0,0))),.one (.bool ((none:Option (Int × Int)).isSome))]) (aP cols rows M)) (c3:bt Tryz.prog 86 [.one (.ptr 0 0),.one (.int .i64 ((aT cols mb k).1+1)),.one (.int .i64 ((aT cols mb k).2-1))] (aP cols rows M) (.tup [.one (cn (((some c):Option (Int × Int)).getD (0,0))),.one (.bool (((some c):Option (Int × Int)).isSome))]) (aP cols rows M)):bt Tryz.prog 55 [.one (.ptr 0 0),.one (.int .i64 mb),.one (.int .i64 k)] (aP cols rows M) (.one (cn (oa none none (some c)))) (aP cols rows M):=by
 have h1:=h.c0
 have h2:=h.c1
 have h3:=h.r0
 have h4:=h.r1
 have hb:=gl h hm hk
 have hmm:=h.mul
 have hp:0≤(aT cols mb k).2∧(aT cols mb k).2≤17:=by unfold aT;simp only [];omega
 have hq:0≤(aT cols mb k).1∧(aT cols mb k).1≤17:=by unfold aT;simp only [];omega
 refine cO Tryz.func55 ?_
 repeat' (first
  |(refine qz ?_;first
   |refine cl ?_ (hi:=by exact gC (M:=M) h hm hk rfl rfl (by decide) rfl))
  |refine zz ?_|refine zx (fun _=>?_) (fun _=>?_)|fail)
 refine WX.dv rfl ?_
 repeat' (first
  |(refine qz ?_;first
   |refine Jj ?_
   |refine cl ?_ (hi:=by exact jK (fun _ => .flat (.flat .nil)) (.flat (.flat .nil)) c1 rfl rfl (by decide) rfl)
   |refine cl ?_ (hi:=by exact jK (fun _ => .flat (.flat .nil)) (.flat (.flat .nil)) c2 rfl rfl (by decide) rfl)
   |refine cl ?_ (hi:=by exact jK (fun _ => .flat (.flat .nil)) (.flat (.flat .nil)) c3 rfl rfl (by decide) rfl)
   |refine qU (enc:=gQ) ?_
   |refine uL (enc:=gQ) (i:=2) (n:=0) (q:=[]) ?_
   |refine uL (enc:=gQ) ?_
   |refine KJ (enc:=gQ) (f:=cn) (fun _=>rfl) ?_
   |refine cl ?_ (hi:=by exact iB (yt1 _ rfl) (yt2 _ rfl) (yt3 _ rfl) rfl))
  |refine WX.loop ?_|refine WX.round ?_|refine zz ?_|refine zx (fun _=>?_) (fun _=>?_)|fail)
 show aH _ _ _ _ _ _ _ _;refine kV [0,1] ?_
 exact congrArg XV.one rfl
theorem HV (b:Int × Int) (yt1:∀ v,none=some v→bu v) (yt2:∀ v,(some b)=some v→bu v) (yt3:∀ v,none=some v→bu v) (c1:bt Tryz.prog 86 [.one (.ptr 0 0),.one (.int .i64 ((aT cols mb k).1-1)),.one (.int .i64 ((aT cols mb k).2))] (aP cols rows M) (.tup [.one (cn ((none:Option (Int × Int)).getD (0,0))),.one (.bool ((none:Option (Int × Int)).isSome))]) (aP cols rows M)) (c2:bt Tryz.prog 86 [.one (.ptr 0 0),.one (.int .i64 ((aT cols mb k).1)),.one (.int .i64 ((aT cols mb k).2-1))] (aP cols rows M) (.tup [.one (cn (((some b):Option (Int × Int)).getD (0,0))),.one (.bool (((some b):Option (Int × Int)).isSome))]) (aP cols rows M)) (c3:bt Tryz.prog 86 [.one (.ptr 0 0),.one (.int .i64 ((aT cols mb k).1+1)),.one (.int .i64 ((aT cols mb k).2-1))] (aP cols rows M) (.tup [.one (cn ((none:Option (Int × Int)).getD (0,0))),.one (.bool ((none:Option (Int × Int)).isSome))]) (aP cols rows M)):bt Tryz.prog 55 [.one (.ptr 0 0),.one (.int .i64 mb),.one (.int .i64 k)] (aP cols rows M) (.one (cn (oa none (some b) none))) (aP cols rows M):=by
 have h1:=h.c0
 have h2:=h.c1
 have h3:=h.r0
 have h4:=h.r1
 have hb:=gl h hm hk
 have hmm:=h.mul
 have hp:0≤(aT cols mb k).2∧(aT cols mb k).2≤17:=by unfold aT;simp only [];omega
 have hq:0≤(aT cols mb k).1∧(aT cols mb k).1≤17:=by unfold aT;simp only [];omega
 refine cO Tryz.func55 ?_
 repeat' (first
  |(refine qz ?_;first
   |refine cl ?_ (hi:=by exact gC (M:=M) h hm hk rfl rfl (by decide) rfl))
  |refine zz ?_|refine zx (fun _=>?_) (fun _=>?_)|fail)
 refine WX.dv rfl ?_
 repeat' (first
  |(refine qz ?_;first
   |refine Jj ?_
   |refine cl ?_ (hi:=by exact jK (fun _ => .flat (.flat .nil)) (.flat (.flat .nil)) c1 rfl rfl (by decide) rfl)
   |refine cl ?_ (hi:=by exact jK (fun _ => .flat (.flat .nil)) (.flat (.flat .nil)) c2 rfl rfl (by decide) rfl)
   |refine cl ?_ (hi:=by exact jK (fun _ => .flat (.flat .nil)) (.flat (.flat .nil)) c3 rfl rfl (by decide) rfl)
   |refine qU (enc:=gQ) ?_
   |refine uL (enc:=gQ) (i:=2) (n:=0) (q:=[]) ?_
   |refine uL (enc:=gQ) ?_
   |refine KJ (enc:=gQ) (f:=cn) (fun _=>rfl) ?_
   |refine cl ?_ (hi:=by exact iB (yt1 _ rfl) (yt2 _ rfl) (yt3 _ rfl) rfl))
  |refine WX.loop ?_|refine WX.round ?_|refine zz ?_|refine zx (fun _=>?_) (fun _=>?_)|fail)
 show aH _ _ _ _ _ _ _ _;refine kV [0,1] ?_
 exact congrArg XV.one rfl
theorem HW (b c:Int × Int) (yt1:∀ v,none=some v→bu v) (yt2:∀ v,(some b)=some v→bu v) (yt3:∀ v,(some c)=some v→bu v) (c1:bt Tryz.prog 86 [.one (.ptr 0 0),.one (.int .i64 ((aT cols mb k).1-1)),.one (.int .i64 ((aT cols mb k).2))] (aP cols rows M) (.tup [.one (cn ((none:Option (Int × Int)).getD (0,0))),.one (.bool ((none:Option (Int × Int)).isSome))]) (aP cols rows M)) (c2:bt Tryz.prog 86 [.one (.ptr 0 0),.one (.int .i64 ((aT cols mb k).1)),.one (.int .i64 ((aT cols mb k).2-1))] (aP cols rows M) (.tup [.one (cn (((some b):Option (Int × Int)).getD (0,0))),.one (.bool (((some b):Option (Int × Int)).isSome))]) (aP cols rows M)) (c3:bt Tryz.prog 86 [.one (.ptr 0 0),.one (.int .i64 ((aT cols mb k).1+1)),.one (.int .i64 ((aT cols mb k).2-1))] (aP cols rows M) (.tup [.one (cn (((some c):Option (Int × Int)).getD (0,0))),.one (.bool (((some c):Option (Int × Int)).isSome))]) (aP cols rows M)):bt Tryz.prog 55 [.one (.ptr 0 0),.one (.int .i64 mb),.one (.int .i64 k)] (aP cols rows M) (.one (cn (oa none (some b) (some c)))) (aP cols rows M):=by
 have h1:=h.c0
 have h2:=h.c1
 have h3:=h.r0
 have h4:=h.r1
 have hb:=gl h hm hk
 have hmm:=h.mul
 have hp:0≤(aT cols mb k).2∧(aT cols mb k).2≤17:=by unfold aT;simp only [];omega
 have hq:0≤(aT cols mb k).1∧(aT cols mb k).1≤17:=by unfold aT;simp only [];omega
 refine cO Tryz.func55 ?_
 repeat' (first
  |(refine qz ?_;first
   |refine cl ?_ (hi:=by exact gC (M:=M) h hm hk rfl rfl (by decide) rfl))
  |refine zz ?_|refine zx (fun _=>?_) (fun _=>?_)|fail)
 refine WX.dv rfl ?_
 repeat' (first
  |(refine qz ?_;first
   |refine Jj ?_
   |refine cl ?_ (hi:=by exact jK (fun _ => .flat (.flat .nil)) (.flat (.flat .nil)) c1 rfl rfl (by decide) rfl)
   |refine cl ?_ (hi:=by exact jK (fun _ => .flat (.flat .nil)) (.flat (.flat .nil)) c2 rfl rfl (by decide) rfl)
   |refine cl ?_ (hi:=by exact jK (fun _ => .flat (.flat .nil)) (.flat (.flat .nil)) c3 rfl rfl (by decide) rfl)
   |refine qU (enc:=gQ) ?_
   |refine uL (enc:=gQ) (i:=2) (n:=0) (q:=[]) ?_
   |refine uL (enc:=gQ) ?_
   |refine KJ (enc:=gQ) (f:=cn) (fun _=>rfl) ?_
   |refine cl ?_ (hi:=by exact iB (yt1 _ rfl) (yt2 _ rfl) (yt3 _ rfl) rfl))
  |refine WX.loop ?_|refine WX.round ?_|refine zz ?_|refine zx (fun _=>?_) (fun _=>?_)|fail)
 show aH _ _ _ _ _ _ _ _;refine kV [0,1] ?_
 exact congrArg XV.one rfl
theorem HX (a:Int × Int) (yt1:∀ v,(some a)=some v→bu v) (yt2:∀ v,none=some v→bu v) (yt3:∀ v,none=some v→bu v) (c1:bt Tryz.prog 86 [.one (.ptr 0 0),.one (.int .i64 ((aT cols mb k).1-1)),.one (.int .i64 ((aT cols mb k).2))] (aP cols rows M) (.tup [.one (cn (((some a):Option (Int × Int)).getD (0,0))),.one (.bool (((some a):Option (Int × Int)).isSome))]) (aP cols rows M)) (c2:bt Tryz.prog 86 [.one (.ptr 0 0),.one (.int .i64 ((aT cols mb k).1)),.one (.int .i64 ((aT cols mb k).2-1))] (aP cols rows M) (.tup [.one (cn ((none:Option (Int × Int)).getD (0,0))),.one (.bool ((none:Option (Int × Int)).isSome))]) (aP cols rows M)) (c3:bt Tryz.prog 86 [.one (.ptr 0 0),.one (.int .i64 ((aT cols mb k).1+1)),.one (.int .i64 ((aT cols mb k).2-1))] (aP cols rows M) (.tup [.one (cn ((none:Option (Int × Int)).getD (0,0))),.one (.bool ((none:Option (Int × Int)).isSome))]) (aP cols rows M)):bt Tryz.prog 55 [.one (.ptr 0 0),.one (.int .i64 mb),.one (.int .i64 k)] (aP cols rows M) (.one (cn (oa (some a) none none))) (aP cols rows M):=by
 have h1:=h.c0
 have h2:=h.c1
 have h3:=h.r0
 have h4:=h.r1
 have hb:=gl h hm hk
 have hmm:=h.mul
 have hp:0≤(aT cols mb k).2∧(aT cols mb k).2≤17:=by unfold aT;simp only [];omega
 have hq:0≤(aT cols mb k).1∧(aT cols mb k).1≤17:=by unfold aT;simp only [];omega
 refine cO Tryz.func55 ?_
 repeat' (first
  |(refine qz ?_;first
   |refine cl ?_ (hi:=by exact gC (M:=M) h hm hk rfl rfl (by decide) rfl))
  |refine zz ?_|refine zx (fun _=>?_) (fun _=>?_)|fail)
 refine WX.dv rfl ?_
 repeat' (first
  |(refine qz ?_;first
   |refine Jj ?_
   |refine cl ?_ (hi:=by exact jK (fun _ => .flat (.flat .nil)) (.flat (.flat .nil)) c1 rfl rfl (by decide) rfl)
   |refine cl ?_ (hi:=by exact jK (fun _ => .flat (.flat .nil)) (.flat (.flat .nil)) c2 rfl rfl (by decide) rfl)
   |refine cl ?_ (hi:=by exact jK (fun _ => .flat (.flat .nil)) (.flat (.flat .nil)) c3 rfl rfl (by decide) rfl)
   |refine qU (enc:=gQ) ?_
   |refine uL (enc:=gQ) (i:=2) (n:=0) (q:=[]) ?_
   |refine uL (enc:=gQ) ?_
   |refine KJ (enc:=gQ) (f:=cn) (fun _=>rfl) ?_
   |refine cl ?_ (hi:=by exact iB (yt1 _ rfl) (yt2 _ rfl) (yt3 _ rfl) rfl))
  |refine WX.loop ?_|refine WX.round ?_|refine zz ?_|refine zx (fun _=>?_) (fun _=>?_)|fail)
 show aH _ _ _ _ _ _ _ _;refine kV [0,1] ?_
 exact congrArg XV.one rfl
theorem HY (a c:Int × Int) (yt1:∀ v,(some a)=some v→bu v) (yt2:∀ v,none=some v→bu v) (yt3:∀ v,(some c)=some v→bu v) (c1:bt Tryz.prog 86 [.one (.ptr 0 0),.one (.int .i64 ((aT cols mb k).1-1)),.one (.int .i64 ((aT cols mb k).2))] (aP cols rows M) (.tup [.one (cn (((some a):Option (Int × Int)).getD (0,0))),.one (.bool (((some a):Option (Int × Int)).isSome))]) (aP cols rows M)) (c2:bt Tryz.prog 86 [.one (.ptr 0 0),.one (.int .i64 ((aT cols mb k).1)),.one (.int .i64 ((aT cols mb k).2-1))] (aP cols rows M) (.tup [.one (cn ((none:Option (Int × Int)).getD (0,0))),.one (.bool ((none:Option (Int × Int)).isSome))]) (aP cols rows M)) (c3:bt Tryz.prog 86 [.one (.ptr 0 0),.one (.int .i64 ((aT cols mb k).1+1)),.one (.int .i64 ((aT cols mb k).2-1))] (aP cols rows M) (.tup [.one (cn (((some c):Option (Int × Int)).getD (0,0))),.one (.bool (((some c):Option (Int × Int)).isSome))]) (aP cols rows M)):bt Tryz.prog 55 [.one (.ptr 0 0),.one (.int .i64 mb),.one (.int .i64 k)] (aP cols rows M) (.one (cn (oa (some a) none (some c)))) (aP cols rows M):=by
 have h1:=h.c0
 have h2:=h.c1
 have h3:=h.r0
 have h4:=h.r1
 have hb:=gl h hm hk
 have hmm:=h.mul
 have hp:0≤(aT cols mb k).2∧(aT cols mb k).2≤17:=by unfold aT;simp only [];omega
 have hq:0≤(aT cols mb k).1∧(aT cols mb k).1≤17:=by unfold aT;simp only [];omega
 refine cO Tryz.func55 ?_
 repeat' (first
  |(refine qz ?_;first
   |refine cl ?_ (hi:=by exact gC (M:=M) h hm hk rfl rfl (by decide) rfl))
  |refine zz ?_|refine zx (fun _=>?_) (fun _=>?_)|fail)
 refine WX.dv rfl ?_
 repeat' (first
  |(refine qz ?_;first
   |refine Jj ?_
   |refine cl ?_ (hi:=by exact jK (fun _ => .flat (.flat .nil)) (.flat (.flat .nil)) c1 rfl rfl (by decide) rfl)
   |refine cl ?_ (hi:=by exact jK (fun _ => .flat (.flat .nil)) (.flat (.flat .nil)) c2 rfl rfl (by decide) rfl)
   |refine cl ?_ (hi:=by exact jK (fun _ => .flat (.flat .nil)) (.flat (.flat .nil)) c3 rfl rfl (by decide) rfl)
   |refine qU (enc:=gQ) ?_
   |refine uL (enc:=gQ) (i:=2) (n:=0) (q:=[]) ?_
   |refine uL (enc:=gQ) ?_
   |refine KJ (enc:=gQ) (f:=cn) (fun _=>rfl) ?_
   |refine cl ?_ (hi:=by exact iB (yt1 _ rfl) (yt2 _ rfl) (yt3 _ rfl) rfl))
  |refine WX.loop ?_|refine WX.round ?_|refine zz ?_|refine zx (fun _=>?_) (fun _=>?_)|fail)
 show aH _ _ _ _ _ _ _ _;refine kV [0,1] ?_
 exact congrArg XV.one rfl
theorem HZ (a b:Int × Int) (yt1:∀ v,(some a)=some v→bu v) (yt2:∀ v,(some b)=some v→bu v) (yt3:∀ v,none=some v→bu v) (c1:bt Tryz.prog 86 [.one (.ptr 0 0),.one (.int .i64 ((aT cols mb k).1-1)),.one (.int .i64 ((aT cols mb k).2))] (aP cols rows M) (.tup [.one (cn (((some a):Option (Int × Int)).getD (0,0))),.one (.bool (((some a):Option (Int × Int)).isSome))]) (aP cols rows M)) (c2:bt Tryz.prog 86 [.one (.ptr 0 0),.one (.int .i64 ((aT cols mb k).1)),.one (.int .i64 ((aT cols mb k).2-1))] (aP cols rows M) (.tup [.one (cn (((some b):Option (Int × Int)).getD (0,0))),.one (.bool (((some b):Option (Int × Int)).isSome))]) (aP cols rows M)) (c3:bt Tryz.prog 86 [.one (.ptr 0 0),.one (.int .i64 ((aT cols mb k).1+1)),.one (.int .i64 ((aT cols mb k).2-1))] (aP cols rows M) (.tup [.one (cn ((none:Option (Int × Int)).getD (0,0))),.one (.bool ((none:Option (Int × Int)).isSome))]) (aP cols rows M)):bt Tryz.prog 55 [.one (.ptr 0 0),.one (.int .i64 mb),.one (.int .i64 k)] (aP cols rows M) (.one (cn (oa (some a) (some b) none))) (aP cols rows M):=by
 have h1:=h.c0
 have h2:=h.c1
 have h3:=h.r0
 have h4:=h.r1
 have hb:=gl h hm hk
 have hmm:=h.mul
 have hp:0≤(aT cols mb k).2∧(aT cols mb k).2≤17:=by unfold aT;simp only [];omega
 have hq:0≤(aT cols mb k).1∧(aT cols mb k).1≤17:=by unfold aT;simp only [];omega
 refine cO Tryz.func55 ?_
 repeat' (first
  |(refine qz ?_;first
   |refine cl ?_ (hi:=by exact gC (M:=M) h hm hk rfl rfl (by decide) rfl))
  |refine zz ?_|refine zx (fun _=>?_) (fun _=>?_)|fail)
 refine WX.dv rfl ?_
 repeat' (first
  |(refine qz ?_;first
   |refine Jj ?_
   |refine cl ?_ (hi:=by exact jK (fun _ => .flat (.flat .nil)) (.flat (.flat .nil)) c1 rfl rfl (by decide) rfl)
   |refine cl ?_ (hi:=by exact jK (fun _ => .flat (.flat .nil)) (.flat (.flat .nil)) c2 rfl rfl (by decide) rfl)
   |refine cl ?_ (hi:=by exact jK (fun _ => .flat (.flat .nil)) (.flat (.flat .nil)) c3 rfl rfl (by decide) rfl)
   |refine qU (enc:=gQ) ?_
   |refine uL (enc:=gQ) (i:=2) (n:=0) (q:=[]) ?_
   |refine uL (enc:=gQ) ?_
   |refine KJ (enc:=gQ) (f:=cn) (fun _=>rfl) ?_
   |refine cl ?_ (hi:=by exact iB (yt1 _ rfl) (yt2 _ rfl) (yt3 _ rfl) rfl))
  |refine WX.loop ?_|refine WX.round ?_|refine zz ?_|refine zx (fun _=>?_) (fun _=>?_)|fail)
 show aH _ _ _ _ _ _ _ _;refine kV [0,1] ?_
 exact congrArg XV.one rfl
theorem H0 (a b c:Int × Int) (yt1:∀ v,(some a)=some v→bu v) (yt2:∀ v,(some b)=some v→bu v) (yt3:∀ v,(some c)=some v→bu v) (c1:bt Tryz.prog 86 [.one (.ptr 0 0),.one (.int .i64 ((aT cols mb k).1-1)),.one (.int .i64 ((aT cols mb k).2))] (aP cols rows M) (.tup [.one (cn (((some a):Option (Int × Int)).getD (0,0))),.one (.bool (((some a):Option (Int × Int)).isSome))]) (aP cols rows M)) (c2:bt Tryz.prog 86 [.one (.ptr 0 0),.one (.int .i64 ((aT cols mb k).1)),.one (.int .i64 ((aT cols mb k).2-1))] (aP cols rows M) (.tup [.one (cn (((some b):Option (Int × Int)).getD (0,0))),.one (.bool (((some b):Option (Int × Int)).isSome))]) (aP cols rows M)) (c3:bt Tryz.prog 86 [.one (.ptr 0 0),.one (.int .i64 ((aT cols mb k).1+1)),.one (.int .i64 ((aT cols mb k).2-1))] (aP cols rows M) (.tup [.one (cn (((some c):Option (Int × Int)).getD (0,0))),.one (.bool (((some c):Option (Int × Int)).isSome))]) (aP cols rows M)):bt Tryz.prog 55 [.one (.ptr 0 0),.one (.int .i64 mb),.one (.int .i64 k)] (aP cols rows M) (.one (cn (oa (some a) (some b) (some c)))) (aP cols rows M):=by
 have h1:=h.c0
 have h2:=h.c1
 have h3:=h.r0
 have h4:=h.r1
 have hb:=gl h hm hk
 have hmm:=h.mul
 have hp:0≤(aT cols mb k).2∧(aT cols mb k).2≤17:=by unfold aT;simp only [];omega
 have hq:0≤(aT cols mb k).1∧(aT cols mb k).1≤17:=by unfold aT;simp only [];omega
 refine cO Tryz.func55 ?_
 repeat' (first
  |(refine qz ?_;first
   |refine cl ?_ (hi:=by exact gC (M:=M) h hm hk rfl rfl (by decide) rfl))
  |refine zz ?_|refine zx (fun _=>?_) (fun _=>?_)|fail)
 refine WX.dv rfl ?_
 repeat' (first
  |(refine qz ?_;first
   |refine Jj ?_
   |refine cl ?_ (hi:=by exact jK (fun _ => .flat (.flat .nil)) (.flat (.flat .nil)) c1 rfl rfl (by decide) rfl)
   |refine cl ?_ (hi:=by exact jK (fun _ => .flat (.flat .nil)) (.flat (.flat .nil)) c2 rfl rfl (by decide) rfl)
   |refine cl ?_ (hi:=by exact jK (fun _ => .flat (.flat .nil)) (.flat (.flat .nil)) c3 rfl rfl (by decide) rfl)
   |refine qU (enc:=gQ) ?_
   |refine uL (enc:=gQ) (i:=2) (n:=0) (q:=[]) ?_
   |refine uL (enc:=gQ) ?_
   |refine KJ (enc:=gQ) (f:=cn) (fun _=>rfl) ?_
   |refine cl ?_ (hi:=by exact iB (yt1 _ rfl) (yt2 _ rfl) (yt3 _ rfl) rfl))
  |refine WX.loop ?_|refine WX.round ?_|refine zz ?_|refine zx (fun _=>?_) (fun _=>?_)|fail)
 show aH _ _ _ _ _ _ _ _;refine kV [0,1] ?_
 exact congrArg XV.one rfl
end
theorem H2 {cols rows mb k:Int} {M:fX}(hM:cj M) (h:gw cols rows) (hm:0≤mb∧mb<cols*rows) (hk:0≤k∧k<4):bt Tryz.prog 55 [.one (.ptr 0 0),.one (.int .i64 mb),.one (.int .i64 k)] (aP cols rows M) (.one (cn (cg M cols rows mb k))) (aP cols rows M):=by
 have h1:=h.c0
 have h2:=h.c1
 have h3:=h.r0
 have h4:=h.r1
 have hb:=gl h hm hk
 have hmm:=h.mul
 have hp:0≤(aT cols mb k).2∧(aT cols mb k).2≤17:=by unfold aT;simp only [];omega
 have hq:0≤(aT cols mb k).1∧(aT cols mb k).1≤17:=by unfold aT;simp only [];omega
 have c1:=xq (M:=M) h (x:=(aT cols mb k).1-1) (y:=(aT cols mb k).2) (by omega) (by omega)
 have c2:=xq (M:=M) h (x:=(aT cols mb k).1) (y:=(aT cols mb k).2-1) (by omega) (by omega)
 have c3:=xq (M:=M) h (x:=(aT cols mb k).1+1) (y:=(aT cols mb k).2-1) (by omega) (by omega)
 have yt1:∀ v,kE M cols rows ((aT cols mb k).1-1) (aT cols mb k).2=some v→bu v:=fun v hv=>jm hM hv
 have yt2:∀ v,kE M cols rows (aT cols mb k).1 ((aT cols mb k).2-1)=some v→bu v:=fun v hv=>jm hM hv
 have yt3:∀ v,kE M cols rows ((aT cols mb k).1+1) ((aT cols mb k).2-1)=some v→bu v:=fun v hv=>jm hM hv
 unfold cg
 generalize kE M cols rows ((aT cols mb k).1-1) (aT cols mb k).2=la at c1 yt1 ⊢
 generalize kE M cols rows (aT cols mb k).1 ((aT cols mb k).2-1)=lb at c2 yt2 ⊢
 generalize kE M cols rows ((aT cols mb k).1+1) ((aT cols mb k).2-1)=lc at c3 yt3 ⊢
 rcases la with _|a <;> rcases lb with _|b <;> rcases lc with _|c
 · exact HT h hm hk yt1 yt2 yt3 c1 c2 c3
 · exact HU h hm hk c yt1 yt2 yt3 c1 c2 c3
 · exact HV h hm hk b yt1 yt2 yt3 c1 c2 c3
 · exact HW h hm hk b c yt1 yt2 yt3 c1 c2 c3
 · exact HX h hm hk a yt1 yt2 yt3 c1 c2 c3
 · exact HY h hm hk a c yt1 yt2 yt3 c1 c2 c3
 · exact HZ h hm hk a b yt1 yt2 yt3 c1 c2 c3
 · exact H0 h hm hk a b c yt1 yt2 yt3 c1 c2 c3
theorem Bg {la lb lc:Option (Int × Int)}(h1:∀ v,la=some v→bu v) (h2:∀ v,lb=some v→bu v) (h3:∀ v,lc=some v→bu v):bu (oa la lb lc):=by
 rcases la with _|a <;> rcases lb with _|b <;> rcases lc with _|c <;> unfold oa <;> simp only []
 · exact⟨⟨by decide,by decide⟩,⟨by decide,by decide⟩⟩
 · exact h3 _ rfl
 · exact h2 _ rfl
 · exact h2 _ rfl
 · exact h1 _ rfl
 · exact h1 _ rfl
 · exact h1 _ rfl
 · exact⟨vu (h1 _ rfl).1 (h2 _ rfl).1 (h3 _ rfl).1,vu (h1 _ rfl).2 (h2 _ rfl).2 (h3 _ rfl).2⟩
theorem cY {cols rows mb k:Int} {M:fX}(hM:cj M):bu (cg M cols rows mb k):=Bg (fun v hv=>jm hM hv) (fun v hv=>jm hM hv) (fun v hv=>jm hM hv)
instance NV (p:Int × Int):bB (.one (cn p)):=eY rfl
theorem fu {cols rows mb k:Int} {M:fX}(hM:cj M) (h:gw cols rows) (hm:0≤mb∧mb<cols*rows) (hk:0≤k∧k<4) {HS:ak} {i j:Nat}(hi:HS[i]? = some (ch j cols rows)) (hj:HS[j]? = some (.map (bg M))) (hd:i≠j) (hbd:Nat.blt HS.length Mem.bound=true) :
 aI.Sound Tryz.prog ⟨55,[.one (.ptr i 0),.one (.int .i64 mb),.one (.int .i64 k)],HS,.one (cn (cg M cols rows mb k)),HS,[]⟩:=
 jK (fun _ => .flat (.flat .nil)) (.flat (.flat .nil)) (H2 hM h hm hk) hi hj hd hbd
end Go.Proofs.YtagpkhindehcbaaGreat
namespace Go.Proofs.YtagpkhindehcbaaGreat
open Go.Xm
variable [az]
theorem EE:bt Tryz.prog 59 [.one (.ptr 0 0),.one (.int .u64 1),.one (.int .i64 1)] [.cells [.slice 1 0 0 (.exact 0),.int .i64 0] 92 false false,.cells (il .u8 []) 5 false false] (.tup []) (KB [true]):=by
 refine cO Tryz.func59 ?_
 repeat' (first|refine zz ?_|refine zx (fun _=>?_) (fun _=>?_)|fail)
 refine WX.loop ?_
 refine WX.round ?_
 repeat' (first
  |(refine qz ?_;first
   |refine OI (n:=1) (r:=[0]) rfl (sE rfl rfl rfl) (fun h=>absurd h (by decide)) (fun _=>?_))
  |refine zz ?_|refine zx (fun _=>?_) (fun _=>?_)|fail)
 refine WX.round ?_
 repeat' (first|refine zz ?_|refine zx (fun _=>?_) (fun _=>?_)|fail)
 show aH _ _ _ _ _ _ _ _;refine kV [0,1,3] ?_
 rfl
theorem H_ {HS:ak} {i k:Nat} {opn:Bool}(hi:HS[i]? = some (.cells [.slice k 0 0 (.exact 0),.int .i64 0] 92 false false)) (hk:HS[k]? = some (.cells (il .u8 []) 5 false false)) (hd:i≠k) {N:Nat}(hN:HS.length=N) {HS':ak}(hh:bN HS [i,k] [aQ N [true],.dead,av [true]]=HS') (hbd:Nat.blt HS'.length Mem.bound=true) :
 aI.Sound Tryz.prog ⟨59,[.one (.ptr i 0),.one (.int .u64 1),.one (.int .i64 1)],HS,.tup [],HS',[i,k]⟩:=by
 subst hN
 refine b8 [i,k] [i,k] 1 EE (by simp [hd]) ?_ ?_ ?_ rfl (.cons (by simp [XV.cc,XC.ok]) (.flat (.flat .nil))) (.cons rfl (.flat (.flat .nil))) (bB.ok _) (bB.au _) ?_ rfl rfl hh hbd (.inl rfl)
 · exact .cons hi (.flat hk .nil)
 · exact .cons (by simp [aj.cc,XC.ok]) (.flat .nil)
 · exact .cons (by simp [aj.cc,XC.ok,bp]) (.flat (.flat .nil))
 · exact .cons (by simp only [aj.au,List.map_cons,List.map_nil,XC.au,aq];rfl) (.flat (.flat .nil))
theorem EB (bs:List Bool) (hb:bs.length≤1000000) :
 bt Tryz.prog 31 [.one (.ptr 0 0)] (WH bs) (iK 2 (((bs++[true]).length+7)/8) 1) [aQ 1 bs,av bs,av (bs++[true])]:=by
 refine cO Tryz.func31 ?_
 have hwl:=fS bs
 repeat' (first
  |(refine qz ?_;first
   |refine OI (n:=(bs.length+7)/8) (r:=wr bs) (fS bs) (CA rfl rfl (fS bs)) (fun h=>?_) (fun h=>?_))
  |refine PF 11 ?_|refine zz ?_|refine zx (fun _=>?_) (fun _=>?_)|fail)
 · obtain rfl:bs = []:=List.length_eq_zero_iff.1 (by omega)
   repeat' (first
    |(refine qz ?_;first
     |refine cl ?_ (hi:=by exact H_ (k:=2) (opn:=false) rfl rfl (by decide) nL nA rfl))
    |refine zz ?_|refine zx (fun _=>?_) (fun _=>?_)|fail)
   show aH _ _ _ _ _ _ _ _;refine kV [0,1,4] ?_
   rw [d_];rfl
 · have hw:aQ 3 bs = .cells [.slice 3 0 (0+(bs.length+7)/8) (.toEnd 1),.int .i64 (bs.length:Nat)] 92 false false:=by
    unfold aQ kC
    rw [if_neg (by omega),Nat.zero_add]
   have hy:av bs = .cells (il .u8 ([]++wr bs)) 5 true false:=by
    refine js fun hn=>?_
    have h2:(il .u8 (wr bs)).length=0:=by rw [hn];rfl
    rw [e8,hwl]at h2
    omega
   repeat' (first
    |(refine qz ?_;first
     |refine cl ?_ (hi:=by exact hZ (i:=4) (k:=3) (size:=1) rfl (bs:=bs) (by decide) (by decide) hb (by rw [hw];rfl) (by rw [hy];rfl) (by decide) nL nA rfl))
    |refine zz ?_|refine zx (fun _=>?_) (fun _=>?_)|fail)
   show aH _ _ _ _ _ _ _ _;refine kV [0,1,5] ?_
   rw [d_];rfl
theorem JP (a b:List XC) (e e' e1 e2 e3:TypeId) (cs ds fs:List XC):eg [.cells a e false false,cK e1 cs] [.cells b e' false false,cK e2 ds,cK e3 fs]=true:=by
 cases cs <;> cases ds <;> cases fs <;> simp [eg,aj.live,aj.own,cK]
theorem qJ {bs:List Bool}(hb:bs.length≤1000000) {HS:ak} {i k:Nat}(hi:HS[i]? = some (aQ k bs)) (hk:HS[k]? = some (av bs)) (hd:i≠k) {N:Nat}(hN:HS.length=N) {HS':ak}(hh:HS++[av (bs++[true])]=HS') (hbd:Nat.blt HS'.length Mem.bound=true) :
 aI.Sound Tryz.prog ⟨31,[.one (.ptr i 0)],HS,iK N (((bs++[true]).length+7)/8) 1,HS',[i,k]⟩:=by
 subst hN
 have hh':bN HS [i,k] [aQ k bs,av bs,av (bs++[true])]=HS':=by
  simp only [bN]
  rw [aG hi,aG hk];exact hh
 refine b8 [i,k] [i,k] 1 (EB bs hb) (by simp [hd]) ?_ ?_ ?_ rfl (.cons (by simp [XV.cc,XC.ok]) .nil) (.cons rfl .nil) (gO (Nat.le_of_ble_eq_true rfl)) (d_ ..) ?_ ?_ rfl hh' hbd (.inl rfl)
 · exact ae.a_ hi rfl rfl rfl (.flat hk .nil)
 · exact .cons (by simp [aj.cc,XC.ok,bp]) (.flat .nil)
 · exact .cons (by simp [aj.cc,XC.ok,bp]) (.flat (.flat .nil))
 · exact .cons (by simp only [aj.au,List.map_cons,List.map_nil,XC.au,aq];rfl) (.flat (.flat .nil))
 · exact JP ..
def tz:Nat→Int→Nat
 | 0,_=>0
 | f+1,x=>if x%2=0 then tz f (x/2)+1 else 0
theorem KU:∀(f:Nat) (x:Int),0<x→x<2^f→tz f x<f
 | 0,x,h,h2=>by simp at h2;omega
 | f + 1,x,h,h2=>by
   unfold tz
   split
   · have:=KU f (x/2) (by omega) (by rw [Int.pow_succ]at h2;omega)
     omega
   · omega
def fm (L:List Int):Nat × Bool:=if L.getD (L.length-1) 0=0 then(0,false)else(8*L.length-1-tz 8 (L.getD (L.length-1) 0),true)
theorem Hg {L:List Int}(hL:eI L) (hn:L.length≤100000) :
 bt Tryz.prog 61 [iK 0 L.length 1] [cK 5 (il .u8 L)] (.tup [.one (.int .i64 ((fm L).1:Nat)),.one (.bool (fm L).2)]) [cK 5 (il .u8 L)]:=by
 refine cO Tryz.func61 ?_
 by_cases h0:L.length=0
 · have e:fm L=(0,false):=by
    rw [List.length_eq_zero_iff.1 h0];rfl
   rw [e]
   repeat' (first|refine zz ?_|refine zx (fun _=>?_) (fun _=>?_)|fail)
   show aH _ _ _ _ _ _ _ _;refine kV [0] ?_
   rfl
 · have hl:=hL ((L.length:Int)-1).toNat
   have ei:((L.length:Int)-1).toNat=L.length-1:=by omega
   by_cases hz:L.getD ((L.length:Int)-1).toNat 0=0
   · have e:fm L=(0,false):=by
      unfold fm
      rw [←ei,if_pos hz]
     rw [e]
     repeat' (first|refine zz ?_|refine zx (fun _=>?_) (fun _=>?_)|fail)
     show aH _ _ _ _ _ _ _ _;refine kV [0] ?_
     rfl
   · have hlt:=KU 8 (L.getD ((L.length:Int)-1).toNat 0) (by omega) (by show _<(256:Int);omega)
     have e:fm L=(8*L.length-1-tz 8 (L.getD ((L.length:Int)-1).toNat 0),true):=by
      unfold fm
      rw [←ei,if_neg hz]
     rw [e]
     repeat' (first|refine zz ?_|refine zx (fun _=>?_) (fun _=>?_)|fail)
     refine WX.dp (σ:=Nat × Int × Int) (fun s=>[(5,.one (.int .u8 s.2.1)),(4,.one (.int .i64 s.2.2))]) (fun s=>[cK 5 (il .u8 L)]) (fun s=>s.1≤8∧0<s.2.1∧s.2.1<256∧s.2.1<2^s.1∧(s.1:Int)-8≤s.2.2∧s.2.2≤1000000∧s.2.2-(tz s.1 s.2.1:Nat)=8*(L.length:Int)-1-(tz 8 (L.getD ((L.length:Int)-1).toNat 0):Nat)) (fun s=>s.1) (8,L.getD ((L.length:Int)-1).toNat 0,(L.length:Int)*8-1) ⟨by show 8≤8;omega,by show 0<L.getD _ 0;omega,hl.2,hl.2,by show((8:Nat):Int)-8≤(L.length:Int)*8-1;omega,by show(L.length:Int)*8-1≤1000000;omega,by show(L.length:Int)*8-1-(tz 8 (L.getD ((L.length:Int)-1).toNat 0):Nat)=_;omega⟩ (fun s _=>kS) (bm [0]) ?_
     intro s ⟨h1,h2,h3,h4,h5,h6,h7⟩ ih
     obtain⟨f,hf⟩:∃ f,s.1=f+1:=by
      cases hs:s.1 with
      | zero=>rw [hs]at h4;simp at h4;omega
      | succ f=>exact⟨f,rfl⟩
     rw [hf,tz]at h7
     by_cases hodd:s.2.1%2=0
     · rw [if_pos hodd]at h7
       have hq:s.2.1%2^1=0:=hodd
       have hd:0≤s.2.1/2^(1:Int).toNat∧s.2.1/2^(1:Int).toNat<256:=by show 0≤s.2.1/2∧s.2.1/2<256;omega
       repeat' (first|refine zz ?_|refine zx (fun _=>?_) (fun _=>?_)|fail)
       refine ih (f,s.2.1/2^(1:Int).toNat,s.2.2-1) _ _ _ (bm [0]) ⟨by show f≤8;omega,by show 0<s.2.1/2;omega,hd.2,?_,by show(f:Int)-8≤s.2.2-1;omega,by show s.2.2-1≤_;omega,?_⟩ (by show f<s.1;omega)
       · show s.2.1/2<2^f
         rw [hf,Int.pow_succ]at h4
         omega
       · show s.2.2-1-(tz f (s.2.1/2):Nat)=_
         omega
     · rw [if_neg hodd]at h7
       have hq:s.2.1%2^1=1:=by show s.2.1%2=1;omega
       have he:s.2.2=((8*L.length-1-tz 8 (L.getD ((L.length:Int)-1).toNat 0):Nat):Int):=by omega
       repeat' (first|refine zz ?_|refine zx (fun _=>?_) (fun _=>?_)|fail)
       show aH _ _ _ _ _ _ _ _;refine kV [0] ?_
       rw [he];rfl
theorem JU {L:List Int}(hL:eI L) (hn:L.length≤100000) {n:Nat}(hln:L.length=n) {HS:ak} {i:Nat}(hi:HS[i]? = some (cK 5 (il .u8 L))) (hb:Nat.blt HS.length Mem.bound=true) :
 aI.Sound Tryz.prog ⟨61,[iK i n 1],HS,.tup [.one (.int .i64 ((fm L).1:Nat)),.one (.bool (fm L).2)],HS,[i]⟩:=by
 subst hln
 refine b8 [i] [i] 0 (Hg hL hn) (by simp) (.flat hi .nil) (.flat .nil) (.flat .nil) rfl (.cons (gO (Nat.le_of_ble_eq_true rfl)) .nil) (.cons (d_ ..) .nil) ((eY rfl).ok _) ((eY rfl).au _) (.flat .nil) ?_ rfl (by simp only [bN,List.append_nil];exact aG hi) hb (.inl rfl)
 cases il .u8 L <;> simp [eg,aj.live,aj.own,cK]
theorem G3 {L:List Int} {B:List Bool}(hB:B.length≤8*L.length) (hn:L.length≤100000) :
 bt Tryz.prog 62 [iK 0 L.length 1,.one (.int .i64 (B.length:Nat))] [cK 5 (il .u8 L)] (.one (.ptr 1 0)) [cK 5 (il .u8 L),bI 2 L B 0 false,aR L]:=by
 refine cO Tryz.func62 ?_
 repeat' (first
  |(refine qz ?_;first
   |refine OZ (r:=L) (CA rfl rfl rfl) ?_)
  |refine zz ?_|refine zx (fun _=>?_) (fun _=>?_)|fail)
 show aH _ _ _ _ _ _ _ _;refine kV [0,2,1] ?_
 rfl
theorem JK {L:List Int} {B:List Bool}(hB:B.length≤8*L.length) (hn:L.length≤100000) {n:Nat}(hln:L.length=n) {z:Int}(hz:z=(B.length:Nat)) {HS:ak} {i:Nat}(hi:HS[i]? = some (cK 5 (il .u8 L))) {N:Nat}(hN:HS.length=N) {HS':ak}(hh:HS++[bI (N+1) L B 0 false,aR L]=HS') (hb:Nat.blt HS'.length Mem.bound=true) :
 aI.Sound Tryz.prog ⟨62,[iK i n 1,.one (.int .i64 z)],HS,.one (.ptr N 0),HS',[i]⟩:=by
 subst hln hz hN
 refine b8 [i] [i] 2 (G3 hB hn) (by simp) (.flat hi .nil) (.flat .nil) (.flat (.cons (by simp [aj.cc,XC.ok]) (.flat .nil))) rfl (.cons (gO (Nat.le_of_ble_eq_true rfl)) (.flat .nil)) (.cons (d_ ..) (.flat .nil)) (by simp [XV.cc,XC.ok]) rfl (.flat (.cons rfl (.flat .nil))) ?_ rfl (by simp only [bN];rw [aG hi];exact hh) hb (.inl rfl)
 cases il .u8 L <;> simp [eg,aj.live,aj.own,cK]
end Go.Proofs.YtagpkhindehcbaaGreat
namespace Go.Proofs.YtagpkhindehcbaaGreat
open Go.Xm
variable [az]
def FD (st:List Int × Int) (b:Int):List Int × Int:=
 if 2≤st.2∧b≤3 then(st.1++[3]++[b],if b=0 then 0+1 else 0)else(st.1++[b],if b=0 then st.2+1 else 0)
def ie (l:List Int):Nat→List Int × Int
 | 0=>([],0)
 | j+1=>FD (ie l j) (l.getD j 0)
theorem ym (l:List Int):∀ j,(ie l j).1.length≤2*j∧0≤(ie l j).2∧(ie l j).2≤j
 | 0=>⟨Nat.le_refl _,by show(0:Int)≤0;omega,by show(0:Int)≤0;omega⟩
 | j + 1=>by
   obtain⟨h1,h2,h3⟩:=ym l j
   unfold ie FD
   split
   · refine⟨by simp;omega,?_⟩
     simp only []
     split <;> omega
   · refine⟨by simp;omega,?_⟩
     simp only []
     split <;> omega
theorem Ay {l:List Int}(hl:eI l) (hn:l.length≤100000) :
 bt Tryz.prog 30 [iK 0 l.length 1] [cK 5 (il .u8 l)] (iK 1 (ie l l.length).1.length 1) [cK 5 (il .u8 l),cK 5 (il .u8 (ie l l.length).1)]:=by
 refine cO Tryz.func30 ?_
 repeat' (first|refine zz ?_|refine zx (fun _=>?_) (fun _=>?_)|fail)
 refine WX.dv rfl ?_
 refine WX.dp (σ:=Nat) (fun j=>[(7,iK 0 l.length 1),(8,.one (.int .i64 (l.length:Nat))),(9,.one (.int .i64 (j:Nat))),(3,iK 1 (ie l j).1.length 1),(4,.one (.int .i64 (ie l j).2))]) (fun j=>[cK 5 (il .u8 l),cK 5 (il .u8 (ie l j).1)]) (fun j=>j≤l.length) (fun j=>l.length-j) 0 (Nat.zero_le _) (fun s _=>kS) (bm [0,1]) ?_
 intro j hj ih
 have hr:=ym l j
 by_cases hlt:j<l.length
 · have hb:=hl j
   have e0:ie l (j+1)=FD (ie l j) (l.getD j 0):=rfl
   unfold FD at e0
   repeat' (first
    |(refine qz ?_;first
     |refine OJ ?_ (hn:=by simp))
    |refine zz ?_|refine zx (fun _=>?_) (fun _=>?_)|fail)
   · rename_i g1 g2 g3
     rw [if_pos ⟨g1,g2⟩,if_pos g3]at e0
     refine ih (j+1) _ _ _ (bm [0,5] (obj:=by(repeat' (first|exact ae.nil|refine ae.flat (by rw [e0];rfl) ?_|refine ae.flat rfl ?_|refine ae.cons rfl ?_|refine ae.dead rfl ?_|refine ae.cons (by simp only [aj.au,List.map_cons,List.map_nil,XC.au,aq];exact rfl) ?_));first|done|fail) (reg:=by(repeat' (first|exact af.nil|refine af.du rfl rfl (by rw [e0];simp) ?_|refine af.flat (by rw [e0];rfl) ?_|refine af.flat rfl ?_|refine af.cons rfl ?_|refine af.sl rfl (by assumption) rfl ?_|refine af.du rfl rfl (by first|rfl|omega|(simp;done)|(simp;omega)) ?_));first|done|fail)) (by show j+1≤_;omega) (by show _-(j+1)<_-j;omega)
   · rename_i g1 g2 g3
     rw [if_pos ⟨g1,g2⟩,if_neg g3]at e0
     refine ih (j+1) _ _ _ (bm [0,5] (obj:=by(repeat' (first|exact ae.nil|refine ae.flat (by rw [e0];rfl) ?_|refine ae.flat rfl ?_|refine ae.cons rfl ?_|refine ae.dead rfl ?_|refine ae.cons (by simp only [aj.au,List.map_cons,List.map_nil,XC.au,aq];exact rfl) ?_));first|done|fail) (reg:=by(repeat' (first|exact af.nil|refine af.du rfl rfl (by rw [e0];simp) ?_|refine af.flat (by rw [e0];rfl) ?_|refine af.flat rfl ?_|refine af.cons rfl ?_|refine af.sl rfl (by assumption) rfl ?_|refine af.du rfl rfl (by first|rfl|omega|(simp;done)|(simp;omega)) ?_));first|done|fail)) (by show j+1≤_;omega) (by show _-(j+1)<_-j;omega)
   · rename_i g1 g2
     rw [if_neg (fun h=>g2 h.2),if_neg (by omega)]at e0
     refine ih (j+1) _ _ _ (bm [0,3] (obj:=by(repeat' (first|exact ae.nil|refine ae.flat (by rw [e0];rfl) ?_|refine ae.flat rfl ?_|refine ae.cons rfl ?_|refine ae.dead rfl ?_|refine ae.cons (by simp only [aj.au,List.map_cons,List.map_nil,XC.au,aq];exact rfl) ?_));first|done|fail) (reg:=by(repeat' (first|exact af.nil|refine af.du rfl rfl (by rw [e0];simp) ?_|refine af.flat (by rw [e0];rfl) ?_|refine af.flat rfl ?_|refine af.cons rfl ?_|refine af.sl rfl (by assumption) rfl ?_|refine af.du rfl rfl (by first|rfl|omega|(simp;done)|(simp;omega)) ?_));first|done|fail)) (by show j+1≤_;omega) (by show _-(j+1)<_-j;omega)
   · rename_i g1 g2
     rw [if_neg (fun h=>g1 h.1),if_pos g2]at e0
     refine ih (j+1) _ _ _ (bm [0,3] (obj:=by(repeat' (first|exact ae.nil|refine ae.flat (by rw [e0];rfl) ?_|refine ae.flat rfl ?_|refine ae.cons rfl ?_|refine ae.dead rfl ?_|refine ae.cons (by simp only [aj.au,List.map_cons,List.map_nil,XC.au,aq];exact rfl) ?_));first|done|fail) (reg:=by(repeat' (first|exact af.nil|refine af.du rfl rfl (by rw [e0];simp) ?_|refine af.flat (by rw [e0];rfl) ?_|refine af.flat rfl ?_|refine af.cons rfl ?_|refine af.sl rfl (by assumption) rfl ?_|refine af.du rfl rfl (by first|rfl|omega|(simp;done)|(simp;omega)) ?_));first|done|fail)) (by show j+1≤_;omega) (by show _-(j+1)<_-j;omega)
   · rename_i g1 g2
     rw [if_neg (fun h=>g1 h.1),if_neg g2]at e0
     refine ih (j+1) _ _ _ (bm [0,3] (obj:=by(repeat' (first|exact ae.nil|refine ae.flat (by rw [e0];rfl) ?_|refine ae.flat rfl ?_|refine ae.cons rfl ?_|refine ae.dead rfl ?_|refine ae.cons (by simp only [aj.au,List.map_cons,List.map_nil,XC.au,aq];exact rfl) ?_));first|done|fail) (reg:=by(repeat' (first|exact af.nil|refine af.du rfl rfl (by rw [e0];simp) ?_|refine af.flat (by rw [e0];rfl) ?_|refine af.flat rfl ?_|refine af.cons rfl ?_|refine af.sl rfl (by assumption) rfl ?_|refine af.du rfl rfl (by first|rfl|omega|(simp;done)|(simp;omega)) ?_));first|done|fail)) (by show j+1≤_;omega) (by show _-(j+1)<_-j;omega)
 · obtain rfl:j=l.length:=by omega
   repeat' (first|refine zz ?_|refine zx (fun _=>?_) (fun _=>?_)|fail)
   show aH _ _ _ _ _ _ _ _;refine kV [0,1] ?_
   rw [d_];rfl
end Go.Proofs.YtagpkhindehcbaaGreat
