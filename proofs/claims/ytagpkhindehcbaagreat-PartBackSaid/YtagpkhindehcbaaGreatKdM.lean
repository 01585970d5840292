/-
  A part of the proof: FieldV, FloatS, PartIO.
-/
import Derived.Test.YtagpkhindehcbaaGreatKdH
import Derived.Test.YtagpkhindehcbaaGreatKdL
set_option maxRecDepth 10000
set_option maxHeartbeats 8000000
set_option linter.unusedVariables false
set_option linter.unusedSectionVars false
set_option linter.unusedSimpArgs false
namespace Go.Xm
variable [az]
variable {P:Program} {ops:Array Oper} {nt nI:Nat} {al:bm} {hs:aj} {o:Oper} {l:List Oper} {L:List aH} {K:List Ab→bm→aj→Prop} {d:Nat}
theorem pS {t:TypeId} {x ix:Operand} {len:Nat} {elem:TypeId} {cs:List XC} {k:IntKind} {z:Int} {c:XC}(hk:SK P ops nt L l ((d,.one c)::al) hs fun bs=>K (quiet::bs)) (ho:o.op = .index t x ix:=by exact rfl) (hw:au ops (rg al) o=some true:=by exact rfl) (hd:o.dst=some d:=by exact rfl) (hlt:Nat.blt d nt=true:=by exact rfl)
 (ha:ai (rg al) x = .agg cs:=by exact rfl) (hb:ai (rg al) ix = .one (.int k z):=by exact rfl) (hu:a_ P t (.array len elem):=by infer_instance) (hs':aR P elem 1:=by infer_instance) (hg:dJ P elem:=by infer_instance) (hz:0≤z∧z<(len:Nat):=by omega) (hc:cs[z.toNat]? = some c:=by exact rfl):SK P ops nt L (o::l) al hs K:=
 lf hw hd hlt (by rw [ho];simp only [bj,qc,ha,hb,hu.out,hs'.out,if_pos hz,g_,hg.out,Nat.mul_one,hc,Option.map_some,X1.rW]) hk
theorem Ka {t:TypeId} {x ix:Operand} {len s:Nat} {elem:TypeId} {cs cs':List XC} {k:IntKind} {z:Int}(hk:SK P ops nt L l ((d,.agg cs')::al) hs fun bs=>K (quiet::bs)) (ho:o.op = .index t x ix:=by exact rfl) (hw:au ops (rg al) o=some true:=by exact rfl) (hd:o.dst=some d:=by exact rfl) (hlt:Nat.blt d nt=true:=by exact rfl)
 (ha:ai (rg al) x = .agg cs:=by exact rfl) (hb:ai (rg al) ix = .one (.int k z):=by exact rfl) (hu:a_ P t (.array len elem):=by infer_instance) (hs':aR P elem s:=by infer_instance) (hg:eR P elem:=by infer_instance) (hz:0≤z∧z<(len:Nat):=by omega) (hc:(cs.drop (z.toNat*s)).take s=cs':=by exact rfl):SK P ops nt L (o::l) al hs K:=
 lf hw hd hlt (by rw [ho];simp only [bj,qc,ha,hb,hu.out,hs'.out,if_pos hz,g_,hg.out,hc,Option.map_some,X1.rW]) hk
theorem IE {k:IntKind} {n:Nat} {q:Nat→Int} {a s:Nat}(h:a+s≤n):((ti k n q).drop a).take s=ti k s (fun i=>q (a+i)):=by
 apply List.ext_getElem?
 intro i
 rw [List.getElem?_take,List.getElem?_drop]
 by_cases hi:i<s
 · rw [if_pos hi,fg (by omega),fg hi]
 · rw [if_neg hi,List.getElem?_eq_none (by rw [aF];omega)]
theorem MA {t:TypeId} {x ix:Operand} {len n:Nat} {elem:TypeId} {q:Nat→Int} {k k':IntKind} {z:Int}(hk:SK P ops nt L l ((d,.one (.int k' (q z.toNat)))::al) hs fun bs=>K (quiet::bs)) (ho:o.op = .index t x ix:=by exact rfl) (hw:au ops (rg al) o=some true:=by exact rfl) (hd:o.dst=some d:=by exact rfl) (hlt:Nat.blt d nt=true:=by exact rfl)
 (ha:ai (rg al) x = .agg (ti k' n q):=by exact rfl) (hb:ai (rg al) ix = .one (.int k z):=by exact rfl) (hu:a_ P t (.array len elem):=by infer_instance) (hs':aR P elem 1:=by infer_instance) (hg:dJ P elem:=by infer_instance) (hz:0≤z∧z<(len:Nat):=by omega) (hln:len=n:=by exact rfl):SK P ops nt L (o::l) al hs K:=
 pS hk ho hw hd hlt ha hb hu hs' hg hz (fg (by omega))
theorem zc {t:TypeId} {x ix:Operand} {len n s:Nat} {elem:TypeId} {q:Nat→Int} {k k':IntKind} {z:Int}(hk:SK P ops nt L l ((d,.agg (ti k' s fun i=>q (z.toNat*s+i)))::al) hs fun bs=>K (quiet::bs)) (ho:o.op = .index t x ix:=by exact rfl) (hw:au ops (rg al) o=some true:=by exact rfl) (hd:o.dst=some d:=by exact rfl) (hlt:Nat.blt d nt=true:=by exact rfl)
 (ha:ai (rg al) x = .agg (ti k' n q):=by exact rfl) (hb:ai (rg al) ix = .one (.int k z):=by exact rfl) (hu:a_ P t (.array len elem):=by infer_instance) (hs':aR P elem s:=by infer_instance) (hg:eR P elem:=by infer_instance) (hz:0≤z∧z<(len:Nat):=by omega) (hln:len*s=n:=by exact rfl):SK P ops nt L (o::l) al hs K:=
 Ka hk ho hw hd hlt ha hb hu hs' hg hz (IE (by
  have h1:z.toNat+1≤len:=by omega
  have h2:=Nat.mul_le_mul_right s h1
  rw [Nat.add_mul,Nat.one_mul]at h2
  omega))
theorem CI {α : Type} {enc : α→List XC} {f : α→XC}(henc:∀ a,enc a = [f a]) (q:List α):fl enc q=q.map f:=by
 unfold fl
 induction q with
 | nil=>rfl
 | cons a q ih=>rw [List.flatMap_cons,ih,henc];rfl
theorem LJ {α : Type} [Inhabited α] {enc : α→List XC} {f : α→XC}(henc:∀ a,enc a = [f a]) {t:TypeId} {a:Operand} {i off:Nat} {e:TypeId} {q:List α}(hk:SK P ops nt L l ((d,.one (f (q.getD off default)))::al) hs fun bs=>K (⟨false,some i,[]⟩::bs)) (ho:o.op = .load t a:=by exact rfl) (ht:dJ P t:=by infer_instance) (hw:au ops (rg al) o=some true:=by exact rfl) (hd:o.dst=some d:=by exact rfl) (hlt:Nat.blt d nt=true:=by exact rfl)
 (ha:ai (rg al) a = .one (.ptr i off):=by exact rfl) (hi:hs[i]? = some (b8 e (fl enc q)):=by exact rfl) (hc:off<q.length:=by first|omega|(simp only [List.length_cons,List.length_nil,List.length_append];first|omega|decide)):SK P ops nt L (o::l) al hs K:=by
 have h1:b8 e (fl enc q) = .cells (fl enc q) e true false:=fx (fun hn=>by
  have:(fl enc q).length=0:=by rw [hn];rfl
  rw [CI henc,List.length_map]at this
  omega)
 have h2:(fl enc q)[off]? = some (f (q.getD off default)):=by
  rw [CI henc,List.getElem?_map,List.getD_eq_getElem?_getD,List.getElem?_eq_getElem hc];rfl
 exact gC ho hw hd hlt ha (hi.trans (congrArg some h1)) h2 hk
end Go.Xm
namespace Go.Proofs.YtagpkhindehcbaaGreat
open Go.Xm
variable [az]
abbrev fZ:=List (Int × (Int × Int))
def Lh (p:Int × Int):X1 := .one (cq p)
abbrev bg (M:fZ):List (X1 × X1):=kj Mx Lh M
instance Nx (M:fZ):cI (.map (bg M)):=t6 (fun _=>rfl) (fun _=>rfl) M
abbrev cg (m:Nat) (cols rows:Int):ak := .cells [.int .i64 cols,.int .i64 rows,.map m] 167 false false
abbrev aO (cols rows:Int) (M:fZ):aj:=[cg 1 cols rows,.map (bg M)]
theorem Lu:oF Tryz.prog 47=some (.one (.cplx .f64 0 0)):=by kernel_rfl
theorem NO:oF Tryz.prog 47=some (Lh (0,0)):=by
 rw [Lu]
 unfold Lh
 rw [dM]
instance Pt (a b:Int):bz (.tup [.one (.int .i64 a),.one (.int .i64 b)]):=e_ rfl
structure gz (cols rows:Int):Prop where
 c0:1≤cols
 c1:cols≤8
 r0:1≤rows
 r1:rows≤8
theorem gz.mul {cols rows:Int}(h:gz cols rows):0≤cols*rows∧cols*rows≤64:=xi ⟨h.c0,h.c1⟩ ⟨by have:=h.r0;omega,h.r1⟩
theorem I0 (cols rows:Int) (h:gz cols rows):bn Tryz.prog 47 [.one (.int .i64 cols),.one (.int .i64 rows)] [] (.one (.ptr 0 0)) (aO cols rows []):=by
 have h1:=h.c0
 have h2:=h.c1
 have h3:=h.r0
 have h4:=h.r1
 refine cO Tryz.func47 ?_
 repeat' (first|refine zz ?_|refine zx (fun _=>?_) (fun _=>?_)|fail)
 show aC _ _ _ _ _ _ _ _;refine kV [1,0] ?_
 rfl
def aS (cols mb k:Int):Int × Int:=(2*(mb%cols)+k%2,2*(mb/cols)+k/2)
theorem gq {cols rows mb k:Int}(h:gz cols rows) (hm:0≤mb∧mb<cols*rows) (hk:0≤k∧k<4):0≤mb%cols∧mb%cols<cols∧0≤mb/cols∧mb/cols<rows:=by
 refine⟨Int.emod_nonneg _ (by have:=h.c0;omega),Int.emod_lt_of_pos _ (by have:=h.c0;omega),Int.ediv_nonneg hm.1 (by have:=h.c0;omega),?_⟩
 exact Int.ediv_lt_of_lt_mul (by have:=h.c0;omega) (by rw [Int.mul_comm];exact hm.2)
theorem BX {cols rows mb k:Int} {M:fZ}(h:gz cols rows) (hm:0≤mb∧mb<cols*rows) (hk:0≤k∧k<4):bn Tryz.prog 85 [.one (.ptr 0 0),.one (.int .i64 mb),.one (.int .i64 k)] (aO cols rows M) (.tup [.one (.int .i64 (aS cols mb k).1),.one (.int .i64 (aS cols mb k).2)]) (aO cols rows M):=by
 have h1:=h.c0
 have h2:=h.c1
 have h3:=h.r0
 have h4:=h.r1
 have hb:=gq h hm hk
 have hmm:=h.mul
 refine cO Tryz.func85 ?_
 repeat' (first|refine zz ?_|refine zx (fun _=>?_) (fun _=>?_)|fail)
 show aC _ _ _ _ _ _ _ _;refine kV [0,1] ?_
 rfl
theorem jN {f:FuncId} {more:List XV}(hm:∀ τ,dF τ more more) (hmo:eV 2 more) {v:XV} [bz v] {cols rows:Int} {M:fZ}(hc:bn Tryz.prog f (.one (.ptr 0 0)::more) (aO cols rows M) v (aO cols rows M)) {HS:aj} {i k:Nat}(hi:HS[i]? = some (cg k cols rows)) (hk:HS[k]? = some (.map (bg M))) (hd:i≠k) (hbd:Nat.blt HS.length Mem.bound=true) :
 aH.Sound Tryz.prog ⟨f,.one (.ptr i 0)::more,HS,v,HS,[]⟩:=by
 refine sQ [i,k] hc (by simp [hd]) ?_ ?_ (.cons (by simp [XV.b7,XC.ok]) hmo) (.cons rfl (hm _)) (bz.ok _) (bz.ay _) hbd rfl
 · exact .cons hi (.flat hk .nil)
 · exact .cons (by simp [ak.b7,XC.ok]) (.flat .nil)
theorem gE {cols rows mb k:Int} {M:fZ}(h:gz cols rows) (hm:0≤mb∧mb<cols*rows) (hk:0≤k∧k<4) {HS:aj} {i j:Nat}(hi:HS[i]? = some (cg j cols rows)) (hj:HS[j]? = some (.map (bg M))) (hd:i≠j) (hbd:Nat.blt HS.length Mem.bound=true) :
 aH.Sound Tryz.prog ⟨85,[.one (.ptr i 0),.one (.int .i64 mb),.one (.int .i64 k)],HS,.tup [.one (.int .i64 (aS cols mb k).1),.one (.int .i64 (aS cols mb k).2)],HS,[]⟩:=
 jN (fun _ => .flat (.flat .nil)) (.flat (.flat .nil)) (BX h hm hk) hi hj hd hbd
def kD (M:fZ) (cols rows x y:Int):Option (Int × Int):=if x<0∨y<0∨2*cols≤x∨2*rows≤y then none else ct M (y*2*cols+x)
instance Ps (p:Int × Int) (b:Bool):bz (.tup [.one (cq p),.one (.bool b)]):=e_ rfl
theorem xT {cols rows x y:Int} {M:fZ}(h:gz cols rows) (hx : -1≤x∧x≤100) (hy : -1≤y∧y≤100):bn Tryz.prog 86 [.one (.ptr 0 0),.one (.int .i64 x),.one (.int .i64 y)] (aO cols rows M) (.tup [.one (cq ((kD M cols rows x y).getD (0,0))),.one (.bool (kD M cols rows x y).isSome)]) (aO cols rows M):=by
 have h1:=h.c0
 have h2:=h.c1
 have h3:=h.r0
 have h4:=h.r1
 unfold kD
 by_cases hin:x<0∨y<0∨2*cols≤x∨2*rows≤y
 · rw [if_pos hin]
   have e:cq ((none:Option (Int × Int)).getD (0,0)) = .cplx .f64 0 0:=dM
   rw [e]
   refine cO Tryz.func86 ?_
   repeat' (first|refine zz ?_|refine zx (fun _=>?_) (fun _=>?_)|fail)
   all_goals
    first
     | (exfalso;omega)
     | (show aC _ _ _ _ _ _ _ _;refine kV [0,1] ?_;rfl)
 · rw [if_neg hin]
   have hp:0≤y*2*cols∧y*2*cols≤1600:=⟨Int.mul_nonneg (by omega) (by omega),by
    have:=Int.mul_le_mul (show y*2≤200 by omega) h2 (by omega) (by decide)
    omega⟩
   refine cO Tryz.func86 ?_
   repeat' (first
    |(refine qz ?_;first
     |refine Da rfl rfl rfl rfl sO NO rfl rfl rfl ?_)
    |refine zz ?_|refine zx (fun _=>?_) (fun _=>?_)|fail)
   show aC _ _ _ _ _ _ _ _;refine kV [0,1] ?_
   rfl
def aZ (M:fZ) (cols mb k:Int) (v:Int × Int):fZ:=nC M ((aS cols mb k).2*2*cols+(aS cols mb k).1) v
theorem I2 {cols rows mb k:Int} {M:fZ}(h:gz cols rows) (hm:0≤mb∧mb<cols*rows) (hk:0≤k∧k<4) (v:Int × Int):bn Tryz.prog 56 [.one (.ptr 0 0),.one (.int .i64 mb),.one (.int .i64 k),.one (cq v)] (aO cols rows M) (.tup []) (aO cols rows (aZ M cols mb k v)):=by
 have h1:=h.c0
 have h2:=h.c1
 have h3:=h.r0
 have h4:=h.r1
 have hb:=gq h hm hk
 have hmm:=h.mul
 have hp:0≤(aS cols mb k).2∧(aS cols mb k).2≤17:=by unfold aS;simp only [];omega
 have hq:0≤(aS cols mb k).1∧(aS cols mb k).1≤17:=by unfold aS;simp only [];omega
 have hpp:0≤(aS cols mb k).2*2*cols∧(aS cols mb k).2*2*cols≤1600:=⟨Int.mul_nonneg (by omega) (by omega),by
  have:=Int.mul_le_mul (show(aS cols mb k).2*2≤200 by omega) h2 (by omega) (by decide)
  omega⟩
 refine cO Tryz.func56 ?_
 repeat' (first
  |(refine qz ?_;first
   |refine cl ?_ (hi:=by exact gE (M:=M) h hm hk rfl rfl (by decide) rfl)
   |refine zS (vc:=Lh) rfl rfl rfl sO rfl rfl rfl rfl (by first|(simp only [List.set_cons_succ,List.set_cons_zero];exact rfl)|exact rfl) ?_)
  |refine zz ?_|refine zx (fun _=>?_) (fun _=>?_)|fail)
 show aC _ _ _ _ _ _ _ _;refine kV [0,1] ?_
 rfl
theorem dh {cols rows mb k:Int} {M:fZ}(h:gz cols rows) (hm:0≤mb∧mb<cols*rows) (hk:0≤k∧k<4) {v:Int × Int} {HS:aj} {i j:Nat}(hi:HS[i]? = some (cg j cols rows)) (hj:HS[j]? = some (.map (bg M))) (hd:i≠j) {HS':aj}(hh:HS.set j (.map (bg (aZ M cols mb k v)))=HS') (hbd:Nat.blt HS'.length Mem.bound=true) :
 aH.Sound Tryz.prog ⟨56,[.one (.ptr i 0),.one (.int .i64 mb),.one (.int .i64 k),.one (cq v)],HS,.tup [],HS',[j]⟩:=by
 have hh':bG HS [i,j] [cg j cols rows,.map (bg (aZ M cols mb k v))]=HS':=by
  subst hh
  simp only [bG,List.append_nil]
  rw [aG hi]
 refine bV [i,j] [j] 0 (I2 (M:=M) h hm hk v) (by simp [hd]) ?_ ?_ ?_ rfl (.cons (by simp [XV.b7,XC.ok]) (.flat (.flat (.cons trivial .nil)))) (.cons rfl (.flat (.flat (.cons rfl .nil)))) (bz.ok _) (bz.ay _) ?_ rfl rfl hh' hbd (.inr fun q hq hj=>?_)
 · exact .cons hi (.flat hj .nil)
 · exact .cons (by simp [ak.b7,XC.ok]) (.flat .nil)
 · exact .cons (by simp [ak.b7,XC.ok]) (.flat .nil)
 · exact .cons rfl (.flat .nil)
 · subst hh
   rw [List.getElem?_set,if_neg (fun h=>hj (by rw [h];exact List.mem_singleton.2 rfl))]
def ch (M:fZ):Prop:=∀ key v,ct M key=some v→bu v
theorem wv:ch []:=fun key v h=>by cases h
theorem Fh {M:fZ}(h:ch M) {key:Int} {v:Int × Int}(hv:bu v):ch (nC M key v):=fun key' v' h'=>by
 rw [fQ]at h'
 split at h'
 · cases h';exact hv
 · exact h key' v' h'
def ow (la lb lc:Option (Int × Int)):Int × Int:=match la,lb,lc with
 | some a,some b,some c=>MJ a b c
 | some a,_,_=>a
 | none,some b,_=>b
 | none,none,some c=>c
 | none,none,none=>(0,0)
def cf (M:fZ) (cols rows mb k:Int):Int × Int:=
 ow (kD M cols rows ((aS cols mb k).1-1) (aS cols mb k).2) (kD M cols rows (aS cols mb k).1 ((aS cols mb k).2-1)) (kD M cols rows ((aS cols mb k).1+1) ((aS cols mb k).2-1))
def gS (p:Int × Int):List XC:=[cq p]
instance:ry gS 1:=⟨fun _=>rfl,fun _=>rfl,by decide⟩
theorem jo {M:fZ}(h:ch M) {cols rows x y:Int} {v:Int × Int}(hv:kD M cols rows x y=some v):bu v:=by
 unfold kD at hv
 split at hv
 · cases hv
 · exact h _ _ hv
section
variable {cols rows mb k:Int} {M:fZ}(h:gz cols rows) (hm:0≤mb∧mb<cols*rows) (hk:0≤k∧k<4)
include h hm hk
theorem IQ (yt1:∀ v,none=some v→bu v) (yt2:∀ v,none=some v→bu v) (yt3:∀ v,none=some v→bu v) (c1:bn Tryz.prog 86 [.one (.ptr 0 0),.one (.int .i64 ((aS cols mb k).1-1)),.one (.int .i64 ((aS cols mb k).2))] (aO cols rows M) (.tup [.one (cq ((none:Option (Int × Int)).getD (0,0))),.one (.bool ((none:Option (Int × Int)).isSome))]) (aO cols rows M)) (c2:bn Tryz.prog 86 [.one (.ptr 0 0),.one (.int .i64 ((aS cols mb k).1)),.one (.int .i64 ((aS cols mb k).2-1))] (aO cols rows M) (.tup [.one (cq ((none:Option (Int × Int)).getD (0,0))),.one (.bool ((none:Option (Int × Int)).isSome))]) (aO cols rows M)) (c3:bn Tryz.prog 86 [.one (.ptr 0 0),.one (.int .i64 ((aS cols mb k).1+1)),.one (.int .i64 ((aS cols mb k).2-1))] (aO cols rows M) (.tup [.one (cq ((none:Option (Int × Int)).getD (0,0))),.one (.bool ((none:Option (Int × Int)).isSome))]) (aO cols rows M)):bn Tryz.prog 55 [.one (.ptr 0 0),.one (.int .i64 mb),.one (.int .i64 k)] (aO cols rows M) (.one (cq (ow none none none))) (aO cols rows M):=by
 have h1:=h.c0
 have h2:=h.c1
 have h3:=h.r0
 have h4:=h.r1
 have hb:=gq h hm hk
 have hmm:=h.mul
 have hp:0≤(aS cols mb k).2∧(aS cols mb k).2≤17:=by unfold aS;simp only [];omega
 have hq:0≤(aS cols mb k).1∧(aS cols mb k).1≤17:=by unfold aS;simp only [];omega
 refine cO Tryz.func55 ?_
 repeat' (first
  |(refine qz ?_;first
   |refine cl ?_ (hi:=by exact gE (M:=M) h hm hk rfl rfl (by decide) rfl))
  |refine zz ?_|refine zx (fun _=>?_) (fun _=>?_)|fail)
 refine WX.cW rfl ?_
 repeat' (first
  |(refine qz ?_;first
   |refine Ka ?_
   |refine cl ?_ (hi:=by exact jN (fun _ => .flat (.flat .nil)) (.flat (.flat .nil)) c1 rfl rfl (by decide) rfl)
   |refine cl ?_ (hi:=by exact jN (fun _ => .flat (.flat .nil)) (.flat (.flat .nil)) c2 rfl rfl (by decide) rfl)
   |refine cl ?_ (hi:=by exact jN (fun _ => .flat (.flat .nil)) (.flat (.flat .nil)) c3 rfl rfl (by decide) rfl)
   |refine pf (enc:=gS) ?_
   |refine tg (enc:=gS) (i:=2) (n:=0) (q:=[]) ?_
   |refine tg (enc:=gS) ?_
   |refine LJ (enc:=gS) (f:=cq) (fun _=>rfl) ?_
   |refine cl ?_ (hi:=by exact iB (yt1 _ rfl) (yt2 _ rfl) (yt3 _ rfl) rfl))
  |refine WX.loop ?_|refine WX.round ?_|refine zz ?_|refine zx (fun _=>?_) (fun _=>?_)|fail)
 show aC _ _ _ _ _ _ _ _;refine kV [0,1] ?_
 exact congrArg XV.one dM.symm
theorem IS (c:Int × Int) (yt1:∀ v,none=some v→bu v) (yt2:∀ v,none=some v→bu v) (yt3:∀ v,(some c)=some v→bu v) (c1:bn Tryz.prog 86 [.one (.ptr 0 0),.one (.int .i64 ((aS cols mb k).1-1)),.one (.int .i64 ((aS cols mb k).2))] (aO cols rows M) (.tup [.one (cq ((none:Option (Int × Int)).getD (0,0))),.one (.bool ((none:Option (Int × Int)).isSome))]) (aO cols rows M)) (c2:bn Tryz.prog 86 [.one (.ptr 0 0),.one (.int .i64 ((aS cols mb k).1)),.one (.int .i64 ((aS cols mb k).2-1))] (aO cols rows M) (.tup [.one (cq ((none:Option (Int × Int)).getD (0,0))),.one (.bool ((none:Option (Int × Int)).isSome))]) (aO cols rows M)) (c3:bn Tryz.prog 86 [.one (.ptr 0 0),.one (.int .i64 ((aS cols mb k).1+1)),.one (.int .i64 ((aS cols mb k).2-1))] (aO cols rows M) (.tup [.one (cq (((some c):Option (Int × Int)).getD (0,0))),.one (.bool (((some c):Option (Int × Int)).isSome))]) (aO cols rows M)):bn Tryz.prog 55 [.one (.ptr 0 0),.one (.int .i64 mb),.one (.int .i64 k)] (aO cols rows M) (.one (cq (ow none none (some c)))) (aO cols rows M):=by
 have h1:=h.c0
 have h2:=h.c1
 have h3:=h.r0
 have h4:=h.r1
 have hb:=gq h hm hk
 have hmm:=h.mul
 have hp:0≤(aS cols mb k).2∧(aS cols mb k).2≤17:=by unfold aS;simp only [];omega
 have hq:0≤(aS cols mb k).1∧(aS cols mb k).1≤17:=by unfold aS;simp only [];omega
 refine cO Tryz.func55 ?_
 repeat' (first
  |(refine qz ?_;first
   |refine cl ?_ (hi:=by exact gE (M:=M) h hm hk rfl rfl (by decide) rfl))
  |refine zz ?_|refine zx (fun _=>?_) (fun _=>?_)|fail)
 refine WX.cW rfl ?_
 repeat' (first
  |(refine qz ?_;first
   |refine Ka ?_
   |refine cl ?_ (hi:=by exact jN (fun _ => .flat (.flat .nil)) (.flat (.flat .nil)) c1 rfl rfl (by decide) rfl)
   |refine cl ?_ (hi:=by exact jN (fun _ => .flat (.flat .nil)) (.flat (.flat .nil)) c2 rfl rfl (by decide) rfl)
   |refine cl ?_ (hi:=by exact jN (fun _ => .flat (.flat .nil)) (.flat (.flat .nil)) c3 rfl rfl (by decide) rfl)
   |refine pf (enc:=gS) ?_
   |refine tg (enc:=gS) (i:=2) (n:=0) (q:=[]) ?_
   |refine tg (enc:=gS) ?_
   |refine LJ (enc:=gS) (f:=cq) (fun _=>rfl) ?_
   |refine cl ?_ (hi:=by exact iB (yt1 _ rfl) (yt2 _ rfl) (yt3 _ rfl) rfl))
  |refine WX.loop ?_|refine WX.round ?_|refine zz ?_|refine zx (fun _=>?_) (fun _=>?_)|fail)
 show aC _ _ _ _ _ _ _ _;refine kV [0,1] ?_
 exact congrArg XV.one rfl
theorem IT (b:Int × Int) (yt1:∀ v,none=some v→bu v) (yt2:∀ v,(some b)=some v→bu v) (yt3:∀ v,none=some v→bu v) (c1:bn Tryz.prog 86 [.one (.ptr 0 0),.one (.int .i64 ((aS cols mb k).1-1)),.one (.int .i64 ((aS cols mb k).2))] (aO cols rows M) (.tup [.one (cq ((none:Option (Int × Int)).getD (0,0))),.one (.bool ((none:Option (Int × Int)).isSome))]) (aO cols rows M)) (c2:bn Tryz.prog 86 [.one (.ptr 0 0),.one (.int .i64 ((aS cols mb k).1)),.one (.int .i64 ((aS cols mb k).2-1))] (aO cols rows M) (.tup [.one (cq (((some b):Option (Int × Int)).getD (0,0))),.one (.bool (((some b):Option (Int × Int)).isSome))]) (aO cols rows M)) (c3:bn Tryz.prog 86 [.one (.ptr 0 0),.one (.int .i64 ((aS cols mb k).1+1)),.one (.int .i64 ((aS cols mb k).2-1))] (aO cols rows M) (.tup [.one (cq ((none:Option (Int × Int)).getD (0,0))),.one (.bool ((none:Option (Int × Int)).isSome))]) (aO cols rows M)):bn Tryz.prog 55 [.one (.ptr 0 0),.one (.int .i64 mb),.one (.int .i64 k)] (aO cols rows M) (.one (cq (ow none (some b) none))) (aO cols rows M):=by
 have h1:=h.c0
 have h2:=h.c1
 have h3:=h.r0
 have h4:=h.r1
 have hb:=gq h hm hk
 have hmm:=h.mul
 have hp:0≤(aS cols mb k).2∧(aS cols mb k).2≤17:=by unfold aS;simp only [];omega
 have hq:0≤(aS cols mb k).1∧(aS cols mb k).1≤17:=by unfold aS;simp only [];omega
 refine cO Tryz.func55 ?_
 repeat' (first
  |(refine qz ?_;first
   |refine cl ?_ (hi:=by exact gE (M:=M) h hm hk rfl rfl (by decide) rfl))
  |refine zz ?_|refine zx (fun _=>?_) (fun _=>?_)|fail)
 refine WX.cW rfl ?_
 repeat' (first
  |(refine qz ?_;first
   |refine Ka ?_
   |refine cl ?_ (hi:=by exact jN (fun _ => .flat (.flat .nil)) (.flat (.flat .nil)) c1 rfl rfl (by decide) rfl)
   |refine cl ?_ (hi:=by exact jN (fun _ => .flat (.flat .nil)) (.flat (.flat .nil)) c2 rfl rfl (by decide) rfl)
   |refine cl ?_ (hi:=by exact jN (fun _ => .flat (.flat .nil)) (.flat (.flat .nil)) c3 rfl rfl (by decide) rfl)
   |refine pf (enc:=gS) ?_
   |refine tg (enc:=gS) (i:=2) (n:=0) (q:=[]) ?_
   |refine tg (enc:=gS) ?_
   |refine LJ (enc:=gS) (f:=cq) (fun _=>rfl) ?_
   |refine cl ?_ (hi:=by exact iB (yt1 _ rfl) (yt2 _ rfl) (yt3 _ rfl) rfl))
  |refine WX.loop ?_|refine WX.round ?_|refine zz ?_|refine zx (fun _=>?_) (fun _=>?_)|fail)
 show aC _ _ _ _ _ _ _ _;refine kV [0,1] ?_
 exact congrArg XV.one rfl
theorem IU (b c:Int × Int) (yt1:∀ v,none=some v→bu v) (yt2:∀ v,(some b)=some v→bu v) (yt3:∀ v,(some c)=some v→bu v) (c1:bn Tryz.prog 86 [.one (.ptr 0 0),.one (.int .i64 ((aS cols mb k).1-1)),.one (.int .i64 ((aS cols mb k).2))] (aO cols rows M) (.tup [.one (cq ((none:Option (Int × Int)).getD (0,0))),.one (.bool ((none:Option (Int × Int)).isSome))]) (aO cols rows M)) (c2:bn Tryz.prog 86 [.one (.ptr 0 0),.one (.int .i64 ((aS cols mb k).1)),.one (.int .i64 ((aS cols mb k).2-1))] (aO cols rows M) (.tup [.one (cq (((some b):Option (Int × Int)).getD (0,0))),.one (.bool (((some b):Option (Int × Int)).isSome))]) (aO cols rows M)) (c3:bn Tryz.prog 86 [.one (.ptr 0 0),.one (.int .i64 ((aS cols mb k).1+1)),.one (.int .i64 ((aS cols mb k).2-1))] (aO cols rows M) (.tup [.one (cq (((some c):Option (Int × Int)).getD (0,0))),.one (.bool (((some c):Option (Int × Int)).isSome))]) (aO cols rows M)):bn Tryz.prog 55 [.one (.ptr 0 0),.one (.int .i64 mb),.one (.int .i64 k)] (aO cols rows M) (.one (cq (ow none (some b) (some c)))) (aO cols rows M):=by
 have h1:=h.c0
 have h2:=h.c1
 have h3:=h.r0
 have h4:=h.r1
 have hb:=gq h hm hk
 have hmm:=h.mul
 have hp:0≤(aS cols mb k).2∧(aS cols mb k).2≤17:=by unfold aS;simp only [];omega
 have hq:0≤(aS cols mb k).1∧(aS cols mb k).1≤17:=by unfold aS;simp only [];omega
 refine cO Tryz.func55 ?_
 repeat' (first
  |(refine qz ?_;first
   |refine cl ?_ (hi:=by exact gE (M:=M) h hm hk rfl rfl (by decide) rfl))
  |refine zz ?_|refine zx (fun _=>?_) (fun _=>?_)|fail)
 refine WX.cW rfl ?_
 repeat' (first
  |(refine qz ?_;first
   |refine Ka ?_
   |refine cl ?_ (hi:=by exact jN (fun _ => .flat (.flat .nil)) (.flat (.flat .nil)) c1 rfl rfl (by decide) rfl)
   |refine cl ?_ (hi:=by exact jN (fun _ => .flat (.flat .nil)) (.flat (.flat .nil)) c2 rfl rfl (by decide) rfl)
   |refine cl ?_ (hi:=by exact jN (fun _ => .flat (.flat .nil)) (.flat (.flat .nil)) c3 rfl rfl (by decide) rfl)
   |refine pf (enc:=gS) ?_
   |refine tg (enc:=gS) (i:=2) (n:=0) (q:=[]) ?_
   |refine tg (enc:=gS) ?_
   |refine LJ (enc:=gS) (f:=cq) (fun _=>rfl) ?_
   |refine cl ?_ (hi:=by exact iB (yt1 _ rfl) (yt2 _ rfl) (yt3 _ rfl) rfl))
  |refine WX.loop ?_|refine WX.round ?_|refine zz ?_|refine zx (fun _=>?_) (fun _=>?_)|fail)
 show aC _ _ _ _ _ _ _ _;refine kV [0,1] ?_
 exact congrArg XV.one rfl
theorem IV (a:Int × Int) (yt1:∀ v,(some a)=some v→bu v) (yt2:∀ v,none=some v→bu v) (yt3:∀ v,none=some v→bu v) (c1:bn Tryz.prog 86 [.one (.ptr 0 0),.one (.int .i64 ((aS cols mb k).1-1)),.one (.int .i64 ((aS cols mb k).2))] (aO cols rows M) (.tup [.one (cq (((some a):Option (Int × Int)).getD (0,0))),.one (.bool (((some a):Option (Int × Int)).isSome))]) (aO cols rows M)) (c2:bn Tryz.prog 86 [.one (.ptr 0 0),.one (.int .i64 ((aS cols mb k).1)),.one (.int .i64 ((aS cols mb k).2-1))] (aO cols rows M) (.tup [.one (cq ((none:Option (Int × Int)).getD (0,0))),.one (.bool ((none:Option (Int × Int)).isSome))]) (aO cols rows M)) (c3:bn Tryz.prog 86 [.one (.ptr 0 0),.one (.int .i64 ((aS cols mb k).1+1)),.one (.int .i64 ((aS cols mb k).2-1))] (aO cols rows M) (.tup [.one (cq ((none:Option (Int × Int)).getD (0,0))),.one (.bool ((none:Option (Int × Int)).isSome))]) (aO cols rows M)):bn Tryz.prog 55 [.one (.ptr 0 0),.one (.int .i64 mb),.one (.int .i64 k)] (aO cols rows M) (.one (cq (ow (some a) none none))) (aO cols rows M):=by
 have h1:=h.c0
 have h2:=h.c1
 have h3:=h.r0
 have h4:=h.r1
 have hb:=gq h hm hk
 have hmm:=h.mul
 have hp:0≤(aS cols mb k).2∧(aS cols mb k).2≤17:=by unfold aS;simp only [];omega
 have hq:0≤(aS cols mb k).1∧(aS cols mb k).1≤17:=by unfold aS;simp only [];omega
 refine cO Tryz.func55 ?_
 repeat' (first
  |(refine qz ?_;first
   |refine cl ?_ (hi:=by exact gE (M:=M) h hm hk rfl rfl (by decide) rfl))
  |refine zz ?_|refine zx (fun _=>?_) (fun _=>?_)|fail)
 refine WX.cW rfl ?_
 repeat' (first
  |(refine qz ?_;first
   |refine Ka ?_
   |refine cl ?_ (hi:=by exact jN (fun _ => .flat (.flat .nil)) (.flat (.flat .nil)) c1 rfl rfl (by decide) rfl)
   |refine cl ?_ (hi:=by exact jN (fun _ => .flat (.flat .nil)) (.flat (.flat .nil)) c2 rfl rfl (by decide) rfl)
   |refine cl ?_ (hi:=by exact jN (fun _ => .flat (.flat .nil)) (.flat (.flat .nil)) c3 rfl rfl (by decide) rfl)
   |refine pf (enc:=gS) ?_
   |refine tg (enc:=gS) (i:=2) (n:=0) (q:=[]) ?_
   |refine tg (enc:=gS) ?_
   |refine LJ (enc:=gS) (f:=cq) (fun _=>rfl) ?_
   |refine cl ?_ (hi:=by exact iB (yt1 _ rfl) (yt2 _ rfl) (yt3 _ rfl) rfl))
  |refine WX.loop ?_|refine WX.round ?_|refine zz ?_|refine zx (fun _=>?_) (fun _=>?_)|fail)
 show aC _ _ _ _ _ _ _ _;refine kV [0,1] ?_
 exact congrArg XV.one rfl
theorem IW (a c:Int × Int) (yt1:∀ v,(some a)=some v→bu v) (yt2:∀ v,none=some v→bu v) (yt3:∀ v,(some c)=some v→bu v) (c1:bn Tryz.prog 86 [.one (.ptr 0 0),.one (.int .i64 ((aS cols mb k).1-1)),.one (.int .i64 ((aS cols mb k).2))] (aO cols rows M) (.tup [.one (cq (((some a):Option (Int × Int)).getD (0,0))),.one (.bool (((some a):Option (Int × Int)).isSome))]) (aO cols rows M)) (c2:bn Tryz.prog 86 [.one (.ptr 0 0),.one (.int .i64 ((aS cols mb k).1)),.one (.int .i64 ((aS cols mb k).2-1))] (aO cols rows M) (.tup [.one (cq ((none:Option (Int × Int)).getD (0,0))),.one (.bool ((none:Option (Int × Int)).isSome))]) (aO cols rows M)) (c3:bn Tryz.prog 86 [.one (.ptr 0 0),.one (.int .i64 ((aS cols mb k).1+1)),.one (.int .i64 ((aS cols mb k).2-1))] (aO cols rows M) (.tup [.one (cq (((some c):Option (Int × Int)).getD (0,0))),.one (.bool (((some c):Option (Int × Int)).isSome))]) (aO cols rows M)):bn Tryz.prog 55 [.one (.ptr 0 0),.one (.int .i64 mb),.one (.int .i64 k)] (aO cols rows M) (.one (cq (ow (some a) none (some c)))) (aO cols rows M):=by
 have h1:=h.c0
 have h2:=h.c1
 have h3:=h.r0
 have h4:=h.r1
 have hb:=gq h hm hk
 have hmm:=h.mul
 have hp:0≤(aS cols mb k).2∧(aS cols mb k).2≤17:=by unfold aS;simp only [];omega
 have hq:0≤(aS cols mb k).1∧(aS cols mb k).1≤17:=by unfold aS;simp only [];omega
 refine cO Tryz.func55 ?_
 repeat' (first
  |(refine qz ?_;first
   |refine cl ?_ (hi:=by exact gE (M:=M) h hm hk rfl rfl (by decide) rfl))
  |refine zz ?_|refine zx (fun _=>?_) (fun _=>?_)|fail)
 refine WX.cW rfl ?_
 repeat' (first
  |(refine qz ?_;first
   |refine Ka ?_
   |refine cl ?_ (hi:=by exact jN (fun _ => .flat (.flat .nil)) (.flat (.flat .nil)) c1 rfl rfl (by decide) rfl)
   |refine cl ?_ (hi:=by exact jN (fun _ => .flat (.flat .nil)) (.flat (.flat .nil)) c2 rfl rfl (by decide) rfl)
   |refine cl ?_ (hi:=by exact jN (fun _ => .flat (.flat .nil)) (.flat (.flat .nil)) c3 rfl rfl (by decide) rfl)
   |refine pf (enc:=gS) ?_
   |refine tg (enc:=gS) (i:=2) (n:=0) (q:=[]) ?_
   |refine tg (enc:=gS) ?_
   |refine LJ (enc:=gS) (f:=cq) (fun _=>rfl) ?_
   |refine cl ?_ (hi:=by exact iB (yt1 _ rfl) (yt2 _ rfl) (yt3 _ rfl) rfl))
  |refine WX.loop ?_|refine WX.round ?_|refine zz ?_|refine zx (fun _=>?_) (fun _=>?_)|fail)
 show aC _ _ _ _ _ _ _ _;refine kV [0,1] ?_
 exact congrArg XV.one rfl
theorem IX (a b:Int × Int) (yt1:∀ v,(some a)=some v→bu v) (yt2:∀ v,(some b)=some v→bu v) (yt3:∀ v,none=some v→bu v) (c1:bn Tryz.prog 86 [.one (.ptr 0 0),.one (.int .i64 ((aS cols mb k).1-1)),.one (.int .i64 ((aS cols mb k).2))] (aO cols rows M) (.tup [.one (cq (((some a):Option (Int × Int)).getD (0,0))),.one (.bool (((some a):Option (Int × Int)).isSome))]) (aO cols rows M)) (c2:bn Tryz.prog 86 [.one (.ptr 0 0),.one (.int .i64 ((aS cols mb k).1)),.one (.int .i64 ((aS cols mb k).2-1))] (aO cols rows M) (.tup [.one (cq (((some b):Option (Int × Int)).getD (0,0))),.one (.bool (((some b):Option (Int × Int)).isSome))]) (aO cols rows M)) (c3:bn Tryz.prog 86 [.one (.ptr 0 0),.one (.int .i64 ((aS cols mb k).1+1)),.one (.int .i64 ((aS cols mb k).2-1))] (aO cols rows M) (.tup [.one (cq ((none:Option (Int × Int)).getD (0,0))),.one (.bool ((none:Option (Int × Int)).isSome))]) (aO cols rows M)):bn Tryz.prog 55 [.one (.ptr 0 0),.one (.int .i64 mb),.one (.int .i64 k)] (aO cols rows M) (.one (cq (ow (some a) (some b) none))) (aO cols rows M):=by
 have h1:=h.c0
 have h2:=h.c1
 have h3:=h.r0
 have h4:=h.r1
 have hb:=gq h hm hk
 have hmm:=h.mul
 have hp:0≤(aS cols mb k).2∧(aS cols mb k).2≤17:=by unfold aS;simp only [];omega
 have hq:0≤(aS cols mb k).1∧(aS cols mb k).1≤17:=by unfold aS;simp only [];omega
 refine cO Tryz.func55 ?_
 repeat' (first
  |(refine qz ?_;first
   |refine cl ?_ (hi:=by exact gE (M:=M) h hm hk rfl rfl (by decide) rfl))
  |refine zz ?_|refine zx (fun _=>?_) (fun _=>?_)|fail)
 refine WX.cW rfl ?_
 repeat' (first
  |(refine qz ?_;first
   |refine Ka ?_
   |refine cl ?_ (hi:=by exact jN (fun _ => .flat (.flat .nil)) (.flat (.flat .nil)) c1 rfl rfl (by decide) rfl)
   |refine cl ?_ (hi:=by exact jN (fun _ => .flat (.flat .nil)) (.flat (.flat .nil)) c2 rfl rfl (by decide) rfl)
   |refine cl ?_ (hi:=by exact jN (fun _ => .flat (.flat .nil)) (.flat (.flat .nil)) c3 rfl rfl (by decide) rfl)
   |refine pf (enc:=gS) ?_
   |refine tg (enc:=gS) (i:=2) (n:=0) (q:=[]) ?_
   |refine tg (enc:=gS) ?_
   |refine LJ (enc:=gS) (f:=cq) (fun _=>rfl) ?_
   |refine cl ?_ (hi:=by exact iB (yt1 _ rfl) (yt2 _ rfl) (yt3 _ rfl) rfl))
  |refine WX.loop ?_|refine WX.round ?_|refine zz ?_|refine zx (fun _=>?_) (fun _=>?_)|fail)
 show aC _ _ _ _ _ _ _ _;refine kV [0,1] ?_
 exact congrArg XV.one rfl
theorem IY (a b c:Int × Int) (yt1:∀ v,(some a)=some v→bu v) (yt2:∀ v,(some b)=some v→bu v) (yt3:∀ v,(some c)=some v→bu v) (c1:bn Tryz.prog 86 [.one (.ptr 0 0),.one (.int .i64 ((aS cols mb k).1-1)),.one (.int .i64 ((aS cols mb k).2))] (aO cols rows M) (.tup [.one (cq (((some a):Option (Int × Int)).getD (0,0))),.one (.bool (((some a):Option (Int × Int)).isSome))]) (aO cols rows M)) (c2:bn Tryz.prog 86 [.one (.ptr 0 0),.one (.int .i64 ((aS cols mb k).1)),.one (.int .i64 ((aS cols mb k).2-1))] (aO cols rows M) (.tup [.one (cq (((some b):Option (Int × Int)).getD (0,0))),.one (.bool (((some b):Option (Int × Int)).isSome))]) (aO cols rows M)) (c3:bn Tryz.prog 86 [.one (.ptr 0 0),.one (.int .i64 ((aS cols mb k).1+1)),.one (.int .i64 ((aS cols mb k).2-1))] (aO cols rows M) (.tup [.one (cq (((some c):Option (Int × Int)).getD (0,0))),.one (.bool (((some c):Option (Int × Int)).isSome))]) (aO cols rows M)):bn Tryz.prog 55 [.one (.ptr 0 0),.one (.int .i64 mb),.one (.int .i64 k)] (aO cols rows M) (.one (cq (ow (some a) (some b) (some c)))) (aO cols rows M):=by
 have h1:=h.c0
 have h2:=h.c1
 have h3:=h.r0
 have h4:=h.r1
 have hb:=gq h hm hk
 have hmm:=h.mul
 have hp:0≤(aS cols mb k).2∧(aS cols mb k).2≤17:=by unfold aS;simp only [];omega
 have hq:0≤(aS cols mb k).1∧(aS cols mb k).1≤17:=by unfold aS;simp only [];omega
 refine cO Tryz.func55 ?_
 repeat' (first
  |(refine qz ?_;first
   |refine cl ?_ (hi:=by exact gE (M:=M) h hm hk rfl rfl (by decide) rfl))
  |refine zz ?_|refine zx (fun _=>?_) (fun _=>?_)|fail)
 refine WX.cW rfl ?_
 repeat' (first
  |(refine qz ?_;first
   |refine Ka ?_
   |refine cl ?_ (hi:=by exact jN (fun _ => .flat (.flat .nil)) (.flat (.flat .nil)) c1 rfl rfl (by decide) rfl)
   |refine cl ?_ (hi:=by exact jN (fun _ => .flat (.flat .nil)) (.flat (.flat .nil)) c2 rfl rfl (by decide) rfl)
   |refine cl ?_ (hi:=by exact jN (fun _ => .flat (.flat .nil)) (.flat (.flat .nil)) c3 rfl rfl (by decide) rfl)
   |refine pf (enc:=gS) ?_
   |refine tg (enc:=gS) (i:=2) (n:=0) (q:=[]) ?_
   |refine tg (enc:=gS) ?_
   |refine LJ (enc:=gS) (f:=cq) (fun _=>rfl) ?_
   |refine cl ?_ (hi:=by exact iB (yt1 _ rfl) (yt2 _ rfl) (yt3 _ rfl) rfl))
  |refine WX.loop ?_|refine WX.round ?_|refine zz ?_|refine zx (fun _=>?_) (fun _=>?_)|fail)
 show aC _ _ _ _ _ _ _ _;refine kV [0,1] ?_
 exact congrArg XV.one rfl
end
theorem IZ {cols rows mb k:Int} {M:fZ}(hM:ch M) (h:gz cols rows) (hm:0≤mb∧mb<cols*rows) (hk:0≤k∧k<4):bn Tryz.prog 55 [.one (.ptr 0 0),.one (.int .i64 mb),.one (.int .i64 k)] (aO cols rows M) (.one (cq (cf M cols rows mb k))) (aO cols rows M):=by
 have h1:=h.c0
 have h2:=h.c1
 have h3:=h.r0
 have h4:=h.r1
 have hb:=gq h hm hk
 have hmm:=h.mul
 have hp:0≤(aS cols mb k).2∧(aS cols mb k).2≤17:=by unfold aS;simp only [];omega
 have hq:0≤(aS cols mb k).1∧(aS cols mb k).1≤17:=by unfold aS;simp only [];omega
 have c1:=xT (M:=M) h (x:=(aS cols mb k).1-1) (y:=(aS cols mb k).2) (by omega) (by omega)
 have c2:=xT (M:=M) h (x:=(aS cols mb k).1) (y:=(aS cols mb k).2-1) (by omega) (by omega)
 have c3:=xT (M:=M) h (x:=(aS cols mb k).1+1) (y:=(aS cols mb k).2-1) (by omega) (by omega)
 have yt1:∀ v,kD M cols rows ((aS cols mb k).1-1) (aS cols mb k).2=some v→bu v:=fun v hv=>jo hM hv
 have yt2:∀ v,kD M cols rows (aS cols mb k).1 ((aS cols mb k).2-1)=some v→bu v:=fun v hv=>jo hM hv
 have yt3:∀ v,kD M cols rows ((aS cols mb k).1+1) ((aS cols mb k).2-1)=some v→bu v:=fun v hv=>jo hM hv
 unfold cf
 generalize kD M cols rows ((aS cols mb k).1-1) (aS cols mb k).2=la at c1 yt1 ⊢
 generalize kD M cols rows (aS cols mb k).1 ((aS cols mb k).2-1)=lb at c2 yt2 ⊢
 generalize kD M cols rows ((aS cols mb k).1+1) ((aS cols mb k).2-1)=lc at c3 yt3 ⊢
 rcases la with _|a <;> rcases lb with _|b <;> rcases lc with _|c
 · exact IQ h hm hk yt1 yt2 yt3 c1 c2 c3
 · exact IS h hm hk c yt1 yt2 yt3 c1 c2 c3
 · exact IT h hm hk b yt1 yt2 yt3 c1 c2 c3
 · exact IU h hm hk b c yt1 yt2 yt3 c1 c2 c3
 · exact IV h hm hk a yt1 yt2 yt3 c1 c2 c3
 · exact IW h hm hk a c yt1 yt2 yt3 c1 c2 c3
 · exact IX h hm hk a b yt1 yt2 yt3 c1 c2 c3
 · exact IY h hm hk a b c yt1 yt2 yt3 c1 c2 c3
theorem BW {la lb lc:Option (Int × Int)}(h1:∀ v,la=some v→bu v) (h2:∀ v,lb=some v→bu v) (h3:∀ v,lc=some v→bu v):bu (ow la lb lc):=by
 rcases la with _|a <;> rcases lb with _|b <;> rcases lc with _|c <;> unfold ow <;> simp only []
 · exact⟨⟨by decide,by decide⟩,⟨by decide,by decide⟩⟩
 · exact h3 _ rfl
 · exact h2 _ rfl
 · exact h2 _ rfl
 · exact h1 _ rfl
 · exact h1 _ rfl
 · exact h1 _ rfl
 · exact⟨vW (h1 _ rfl).1 (h2 _ rfl).1 (h3 _ rfl).1,vW (h1 _ rfl).2 (h2 _ rfl).2 (h3 _ rfl).2⟩
theorem cV {cols rows mb k:Int} {M:fZ}(hM:ch M):bu (cf M cols rows mb k):=BW (fun v hv=>jo hM hv) (fun v hv=>jo hM hv) (fun v hv=>jo hM hv)
instance O6 (p:Int × Int):bz (.one (cq p)):=e_ rfl
theorem fz {cols rows mb k:Int} {M:fZ}(hM:ch M) (h:gz cols rows) (hm:0≤mb∧mb<cols*rows) (hk:0≤k∧k<4) {HS:aj} {i j:Nat}(hi:HS[i]? = some (cg j cols rows)) (hj:HS[j]? = some (.map (bg M))) (hd:i≠j) (hbd:Nat.blt HS.length Mem.bound=true) :
 aH.Sound Tryz.prog ⟨55,[.one (.ptr i 0),.one (.int .i64 mb),.one (.int .i64 k)],HS,.one (cq (cf M cols rows mb k)),HS,[]⟩:=
 jN (fun _ => .flat (.flat .nil)) (.flat (.flat .nil)) (IZ hM h hm hk) hi hj hd hbd
end Go.Proofs.YtagpkhindehcbaaGreat
namespace Go.Xm
variable [az]
structure w7 (P:Program) (ops:Array Oper) (ms:Nat→Mem) (ds:Nat→Out) (w0:World) (f d:Nat) (t:TypeId) (b:Nat) (β : Env) (q:Nat) (g:Nat→XV) (listed:Array Bool) (a:Act) (w:World):Prop where
 le:q≤f
 l:listed.getD f false=true
 un:g d = .undef
 ge:w0.heap.size≤b
 lt:b<w.heap.size
 c9:∃ ti v,P.info? t=some ti∧ti.zero=some v∧w.heap[b]? = some (.cells v.cells t (0,0))
 vn:¬Jl β (ms q) b
 tmp:a.tmps.getD d undef = .pointer (some ⟨b,0,none⟩)
theorem Rel.N5 {β : Env} {m m':Mem} {w:World}(h:Rel β m w) {o:ak}(hp:m.push o=some m') {b sz:Nat}(ho:∀ β',Ext m.n β β'→f4 β' m'.n 0 sz o w.heap[b]?) (hn:∀ j,j<m.n→(m.get j).live=true → β.c9 j≠b) :
 ∃ β',Ext m.n β β'∧Rel β' m' w ∧ β'.c9 m.n=b ∧ β'.base m.n=0∧m'.n=m.n+1∧m'.get m.n=o∧∀ j,j<m.n→m'.get j=m.get j:=by
 obtain⟨h1,h2,h3,h4⟩:=Mem.bR hp
 let β':Env:=⟨fun j=>if j=m.n then b else β.c9 j,fun j=>if j=m.n then 0 else β.base j,fun j=>if j=m.n then sz else β.size j⟩
 have hext:Ext m.n β β':=fun j hj=>⟨by simp only [β'];rw [if_neg (by omega)],by simp only [β'];rw [if_neg (by omega)],by simp only [β'];rw [if_neg (by omega)]⟩
 have hgn:m'.get m.n=o:=by unfold Mem.get;rw [h3]
 have hgo:∀ j,j<m.n→m'.get j=m.get j:=fun j hj=>by unfold Mem.get;rw [h4 j (by omega)]
 have e1 : β'.c9 m.n=b:=by simp [β']
 have e2 : β'.base m.n=0:=by simp [β']
 have e3 : β'.size m.n=sz:=by simp [β']
 refine⟨β',hext,⟨by omega,cC.push h.fresh hp,fun i hi=>?_,fun i j hi hj li lj hbb=>?_⟩,e1,e2,h2,hgn,hgo⟩
 · by_cases hin:i=m.n
   · subst hin
     rw [hgn,e1,e2,e3]
     exact ho β' hext
   · have hil:i<m.n:=by omega
     rw [hgo i hil,(hext i hil).1,(hext i hil).2.1,(hext i hil).2.2]
     exact(h.obj i hil).ext hext (by omega)
 · by_cases hin:i=m.n
   · by_cases hjn:j=m.n
     · omega
     · have hjl:j<m.n:=by omega
       rw [hgo j hjl]at lj
       rw [hin,e1,(hext j hjl).1]at hbb
       exact absurd hbb.symm (hn j hjl lj)
   · have hil:i<m.n:=by omega
     rw [hgo i hil]at li
     by_cases hjn:j=m.n
     · rw [hjn,e1,(hext i hil).1]at hbb
       exact absurd hbb (hn i hil (ak.dg li))
     · have hjl:j<m.n:=by omega
       rw [hgo j hjl]at lj
       rw [(hext i hil).1,(hext j hjl).1]at hbb
       exact h.inj i j hil hjl li lj hbb
theorem o8 {P:Program} {O:dt} {ops:Array Oper} {g:Nat→XV} {o:Oper} {t:TypeId} {m:Mem} {dd:Out}(hop:o.op = .alloc t) (hg:o.guard = .none) (h:jV O P ops g o m=some dd):∃ zs,pH P t=some zs∧m.push (.cells zs t false false)=some dd.m∧dd.x = .one (.ptr m.n 0)∧dd.eff=true∧dd.fp = .none:=by
 have hw:au ops g o=some true:=by unfold au;rw [hg]
 unfold jV at h
 rw [hw]at h
 simp only at h
 have n1:dT O P (ai g) o.op = .none:=by unfold dT;rw [hop];rfl
 have n2:fL P (ai g) o.op = .none:=by rw [hop];rfl
 have n3:cx P (ai g) o.op m=nc P t m:=by rw [hop];rfl
 have n4:c7 O P (ai g) o.op m = .none:=by rw [hop];rfl
 simp only [dS,n1,n2,n3]at h
 cases ha:nc P t m with
 | none=>rw [ha]at h;simp only [n4]at h;cases h
 | some p=>
   obtain⟨x,m'⟩:=p
   rw [ha]at h
   cases h
   unfold nc ya at ha
   split at ha
   · rename_i zs hz
     split at ha
     · rename_i m1 hp
       cases ha
       exact⟨zs,hz,hp,rfl,rfl,rfl⟩
     · cases ha
   · cases ha
theorem JE {m m':Mem}(h:ru m m'):m.cC→∀ j,m.n≤j→j<m'.n→0<(m'.gH j).ver:=by
 induction h with
 | same m=>intro _ j h1 h2;omega
 | put m i o=>intro _ j h1 h2;rw [Mem.fG]at h2;omega
 | @push m m' o hp=>
   intro _ j h1 h2
   obtain⟨_,k2,k3,_⟩:=Mem.bR hp
   obtain rfl:j=m.n:=by omega
   rw [k3]
   exact Nat.one_pos
 | @trans a b c hab hbc ih1 ih2=>
   intro hf j h1 h2
   obtain⟨m1,f1⟩:=hab.mono hf
   obtain⟨m2,_⟩:=hbc.mono f1
   by_cases hj:j<b.n
   · exact Nat.lt_of_lt_of_le (ih1 hf j h1 hj) (m2.2 j).1
   · exact ih2 f1 j (by omega) h2
theorem HM {m m':Mem}(h:ru m m') (hf:m.cC) (hv:∀ j,(m'.gH j).ver=(m.gH j).ver):iL m m':=fun hb=>by
 obtain⟨h1,h2⟩:=h.mono hf
 have hn:¬m.n<m'.n:=fun hlt=>by
  have:=JE h hf m.n (Nat.le_refl _) hlt
  rw [hv,hf _ (Nat.le_refl _)]at this
  omega
 have:=h1.1
 refine⟨by omega,by omega,fun j hj hl => .inr ⟨by omega,?_⟩⟩
 show(m.gH j).obj=(m'.gH j).obj
 rw [(h1.2 j).2 (hv j)]
def jz:List Oper→List Ab→Bool
 | o::l,b::k=>(xC o || b.ws.isEmpty) && jz l k
 | _,_=>true
theorem sd:∀(l:List Oper) (k:List Ab),jz l k=true→∀(i:Nat) (o:Oper) (b:Ab),l[i]? = some o→k[i]? = some b→xC o=true∨b.ws = []
 | o::l,b::k,h,0,o',b',ho,hb=>by
   simp only [List.getElem?_cons_zero,Option.some.injEq]at ho hb
   subst ho hb
   simp only [jz,Bool.and_eq_true,Bool.or_eq_true,List.isEmpty_iff]at h
   exact h.1
 | o::l,b::k,h,i+1,o',b',ho,hb=>by
   simp only [jz,Bool.and_eq_true]at h
   exact sd l k h.2 i o' b' (by simpa using ho) (by simpa using hb)
 | [],_,_,i,_,_,ho,_=>by simp at ho
 | _::_,[],_,i,_,_,_,hb=>by simp at hb
section
variable {O:dt} {P:Program} {ops:Array Oper} {nt:Nat} {tr:List (Mem × Out)} {rs:Nat→T XV} {ms:Nat→Mem} {ds:Nat→Out}
structure NX (ops:Array Oper) (ms:Nat→Mem) (ds:Nat→Out) (f d:Nat) (t:TypeId):Prop where
 look:∀(i:Nat) (oi:Oper),ops[i]? = some oi→i≠f→d∈oi.looksAt ops→∀ e,e<f→(ds e).eff=true→lr ops i e
 rd:∀(i:Nat),i<ops.size→i≠f→(ds i).fp=some (ms f).n→∀ e,e<f→(ds e).eff=true→lr ops i e
 ro:∀ j,j<(ms f).n→((ms f).get j).live=true→((ms f).get j).own=true∨(j<(ms 0).n∧((ms 0).get j).live=true)
 lt:f<ops.size
 op:∃ o,ops[f]? = some o∧o.op = .alloc t∧o.guard = .none∧o.dst=some d
structure Js (ops:Array Oper) (ms:Nat→Mem) (ds:Nat→Out) (F:Nat→Prop):Prop where
 ord:∀ i e,i<ops.size→e<ops.size→(ds i).eff=true→(ds e).eff=true→e<i→¬F i→lr ops i e
 ver:∀ i e fp,i<ops.size→e<ops.size→(ds i).fp=some fp→(ds e).eff=true→i≠e→¬lr ops i e→¬lr ops e i→((ds e).m.gH fp).ver=((ms e).gH fp).ver
 flt:∀ f,F f→∃ d t,NX ops ms ds f d t
structure AK (O:dt) (P:Program) (ops:Array Oper) (nt:Nat) (rs:Nat→T XV) (ms:Nat→Mem) (ds:Nat→Out) (F:Nat→Prop) (β0:Env) (w0:World) (dfs:List Deferred) (er:Nat→Option Nat) (listed:Array Bool) (a:Act) (w:World) (β : Env) (q:Nat) (g:Nat→XV):Prop where
 size:listed.size=ops.size
 cl:∀ i j,lr ops i j→listed.getD i false=true→listed.getD j false=true
 qle:q≤ops.size
 eff:∀ e,e<ops.size→(ds e).eff=true→er e = .none→(listed.getD e false=true↔e<q)
 rel:Rel β (ms q) w
 jl:gM β (ms q).n nt g a.tmps
 g1:∀(i:Nat) (o:Oper) (t:Nat),listed.getD i false=true→er i = .none→ops[i]? = some o→o.dst=some t→g t=(ds i).x
 g2:∀ t:Nat,(∀(i:Nat) (o:Oper),listed.getD i false=true→ops[i]? = some o→o.dst≠some t)→g t=(rs 0).get .undef t
 st:Step β0 (ms 0) w0 β (ms q) w
 ea:∀ f b,er f=some b→F f∧∃ d t,NX ops ms ds f d t∧w7 P ops ms ds w0 f d t b β q g listed a w
 dist:∀ f f' b,er f=some b→er f'=some b→f=f'
 dfs:a.defers=dfs
def Norm (ds:Nat→Out) (er:Nat→Option Nat) (listed:Array Bool):Prop:=∀ f b,er f=some b→∃ e,e<f∧(ds e).eff=true∧listed.getD e false=false
def s_ (O:dt) (P:Program) (ops:Array Oper) (nt:Nat) (rs:Nat→T XV) (ms:Nat→Mem) (ds:Nat→Out) (F:Nat→Prop) (β0:Env) (w0:World) (dfs:List Deferred) (er:Nat→Option Nat) (listed:Array Bool) (a:Act) (w:World):Prop:=
 ∃ β q g,AK O P ops nt rs ms ds F β0 w0 dfs er listed a w β q g∧Norm ds er listed
theorem AK.L8 (hs:ep ops nt) (hT:Trace O P ops nt ops.toList tr rs ms ds) {F:Nat→Prop} {β0:Env} {w0:World}(hR0:Rel β0 (ms 0) w0) {dfs:List Deferred} {er:Nat→Option Nat} {listed:Array Bool} {a:Act} {w:World} {β : Env} {q:Nat} {g:Nat→XV}
 (h:AK O P ops nt rs ms ds F β0 w0 dfs er listed a w β q g) {f b:Nat}(hb:er f=some b) (hmin:∀ f' b',er f'=some b'→f'≠f→f<f') (hall:∀ e,e<f→(ds e).eff=true→listed.getD e false=true) :
 ∃ β' g',AK O P ops nt rs ms ds F β0 w0 dfs (fun j=>if j=f then .none else er j) listed a w β' (f+1) g':=by
 obtain⟨hF,d,t,hd,he⟩:=h.ea f b hb
 obtain⟨o,ho,hop,hgd,hdst⟩:=hd.op
 obtain⟨o',ho',_,hdo,hrs,hms⟩:=dq hT hd.lt
 rw [ho]at ho'
 cases ho'
 obtain⟨zs,hz,hp,hx,hef,_⟩:=o8 hop hgd hdo
 rw [←hms]at hp
 have hlt:=hd.lt
 have hqf:=he.le
 have noer:∀ e,e<f→er e = .none:=fun e hlt=>by
  cases hx:er e with
  | none=>rfl
  | some b'=>exact absurd (hmin e b' hx (by omega)) (by omega)
 have hmq:ms f=ms q:=by
  have:=oP hT q (f-q) (by omega) (fun e he1 he2=>by
   cases hxe:(ds e).eff
   · rfl
   · have h1:=hall e (by omega) hxe
     have:=(h.eff e (by omega) hxe (noer e (by omega))).1 h1
     omega)
  rw [show q+(f-q)=f by omega]at this
  exact this
 have hm:=h.rel
 have hr:=h.jl
 have hst:=h.st
 rw [←hmq]at hm hr hst
 have himg:=he.vn
 rw [←hmq]at himg
 obtain⟨ti,v,v1,v2,v3⟩:=he.c9
 have hnl:∀ j,j<(ms f).n→((ms f).get j).live=true → β.c9 j≠b:=fun j hj hl hb=>by
  rcases hd.ro j hj hl with h1|⟨h1,h2⟩
  · exact himg ⟨j,hj,h1,hb⟩
  · have h3:=hR0.lt h1 h2
    have h4:=(hst.ext j h1).1
    have:=he.ge
    omega
 obtain⟨β',k1,k2,k3,k4,k5,k6,k7⟩:=hm.N5 hp (b:=b) (sz:=zs.length) (fun β' hext=>by
  obtain⟨ti',v',z1,z2,z3,z4⟩:=iG hz β' (ms f).n
  rw [v1]at z1
  cases z1
  rw [v2]at z2
  cases z2
  have hn':=(Mem.bR hp).2.1
  refine⟨v.cells,(0,0),v3,?_,by simp,fun _=>⟨rfl,rfl⟩,fun c hc=>XC.fY (by omega) (z4 c hc),?_⟩
  · rw [z3];simp
  · rw [z3];simp [List.take_of_length_le]) hnl
 have hdlt:d<nt:=hs.dst f o d ho hdst
 refine⟨β',fun t'=>if t'=d then .one (.ptr (ms f).n 0)else g t',h.size,h.cl,by omega,fun e he1 he2 he3=>?_,k2,⟨hr.size,hr.small,fun t' ht'=>?_,fun t' ht'=>?_⟩,fun i oi t' hl hei hoi hdi=>?_,fun t' ht'=>?_,?_,fun f' b' hf'=>?_,fun f1 f2 b' h1 h2=>?_,h.dfs⟩
 · by_cases hef:e=f
   · subst hef
     exact⟨fun _=>by omega,fun _=>he.l⟩
   · rw [if_neg hef]at he3
     have:=h.eff e he1 he2 he3
     constructor
     · intro h;have:=this.1 h;omega
     · intro h;exact hall e (by omega) he2
 · by_cases htd:t'=d
   · subst htd
     simp only [if_true]
     rw [he.tmp]
     exact⟨by show(ms f).n<(ms (f+1)).n;omega,by simp only [XC.den,k3,k4,Nat.add_zero]⟩
   · simp only [htd,if_false]
     exact(hr.rel t' ht').ext k1 (by omega)
 · have htd:t'≠d:=by omega
   simp only [htd,if_false]
   exact hr.out t' ht'
 · by_cases hif:i=f
   · subst hif
     rw [ho]at hoi
     cases hoi
     rw [hdst]at hdi
     cases hdi
     simp only [if_true]
     exact hx.symm
   · have htd:t'≠d:=fun e=>hif (hs.uniq i f oi o t' hoi ho hdi (by rw [hdst,e]))
     simp only [htd,if_false]
     rw [if_neg hif]at hei
     exact h.g1 i oi t' hl hei hoi hdi
 · have htd:t'≠d:=fun e=>ht' f o he.l ho (by rw [hdst,e])
   simp only [htd,if_false]
   exact h.g2 t' ht'
 · refine⟨by have:=hst.le;omega,fun j hj=>?_,k2,hst.os,hst.tape,hst.output,hst.size,hst.frame,fun k hk hi=>?_⟩
   · have h1:=hst.ext j hj
     have h2:=k1 j (by have:=hst.le;omega)
     exact⟨h2.1.trans h1.1,h2.2.1.trans h1.2.1,h2.2.2.trans h1.2.2⟩
   · obtain⟨j,hj,hl,hb⟩:=hi
     by_cases hjn:j=(ms f).n
     · rw [hjn,k3]at hb
       have:=he.ge
       omega
     · have hjl:j<(ms f).n:=by omega
       rw [k7 j hjl]at hl
       rw [(k1 j hjl).1]at hb
       exact hst.vn k hk ⟨j,hjl,hl,hb⟩
 · by_cases hff:f'=f
   · rw [if_pos hff]at hf';cases hf'
   · rw [if_neg hff]at hf'
     obtain⟨hF',d',t',hd',he'⟩:=h.ea f' b' hf'
     obtain⟨o2,ho2,_,_,hdst2⟩:=hd'.op
     have hdd:d'≠d:=fun e=>hff (hs.uniq f' f o2 o d' ho2 ho hdst2 (by rw [hdst,e]))
     refine⟨hF',d',t',hd',⟨hmin f' b' hf' hff,he'.l,?_,he'.ge,he'.lt,he'.c9,fun hi=>?_,he'.tmp⟩⟩
     · simp only [hdd,if_false];exact he'.un
     · obtain⟨j,hj,hl,hbb⟩:=hi
       by_cases hjn:j=(ms f).n
       · rw [hjn,k3]at hbb
         exact hff (h.dist f' f b' hf' (by rw [hb,hbb]))
       · have hjl:j<(ms f).n:=by omega
         rw [k7 j hjl]at hl
         rw [(k1 j hjl).1]at hbb
         exact he'.vn (hmq ▸ ⟨j,hjl,hl,hbb⟩)
 · by_cases h1f:f1=f
   · rw [if_pos h1f]at h1;cases h1
   · by_cases h2f:f2=f
     · rw [if_pos h2f]at h2;cases h2
     · rw [if_neg h1f]at h1
       rw [if_neg h2f]at h2
       exact h.dist f1 f2 b' h1 h2
theorem least {p:Nat→Prop}:∀ n,p n→∃ m,p m∧∀ k,p k→m≤k:=by
 intro n
 induction n using Nat.strongRecOn with
 | _ n ih=>
   intro hp
   by_cases h:∃ k,k<n∧p k
   · obtain⟨k,hk,hpk⟩:=h
     exact ih k hk hpk
   · exact⟨n,hp,fun k hk=>Nat.le_of_not_lt fun hlt=>h ⟨k,hlt,hk⟩⟩
theorem AK.norm (hs:ep ops nt) (hT:Trace O P ops nt ops.toList tr rs ms ds) {F:Nat→Prop} {β0:Env} {w0:World}(hR0:Rel β0 (ms 0) w0) {dfs:List Deferred} {listed:Array Bool} {a:Act} {w:World} :
 ∀(n:Nat) (er:Nat→Option Nat) (β : Env) (q:Nat) (g:Nat→XV),AK O P ops nt rs ms ds F β0 w0 dfs er listed a w β q g→(List.range ops.size).countP (fun j=>(er j).isSome)≤n→∃ er',s_ O P ops nt rs ms ds F β0 w0 dfs er' listed a w:=by
 intro n
 induction n with
 | zero=>
   intro er β q g h hc
   refine⟨er,β,q,g,h,fun f b hf=>?_⟩
   obtain⟨_,d,t,hd,_⟩:=h.ea f b hf
   have:0<(List.range ops.size).countP (fun j=>(er j).isSome):=List.countP_pos_iff.2 ⟨f,List.mem_range.2 hd.lt,by simp [hf]⟩
   omega
 | succ n ih=>
   intro er β q g h hc
   by_cases hN:Norm ds er listed
   · exact⟨er,β,q,g,h,hN⟩
   · obtain⟨f,hf⟩:=Classical.not_forall.1 hN
     obtain⟨b,hb⟩:=Classical.not_forall.1 hf
     have hb1:er f=some b:=Classical.byContradiction fun h'=>hb fun h2=>absurd h2 h'
     have hb2:¬∃ e,e<f∧(ds e).eff=true∧listed.getD e false=false:=fun h'=>hb fun _=>h'
     obtain⟨f0,hf0,hmin⟩:=least (p:=fun j=>∃ b,er j=some b) f ⟨b,hb1⟩
     obtain⟨b0,hb0⟩:=hf0
     have hle:=hmin f ⟨b,hb1⟩
     obtain⟨_,d,t,hd,_⟩:=h.ea f0 b0 hb0
     obtain⟨β',g',h'⟩:=h.L8 hs hT hR0 hb0 (fun f' b' hf' hne=>by have:=hmin f' ⟨b',hf'⟩;omega) (fun e e1 e2=>by
      cases hx:listed.getD e false with
      | true=>rfl
      | false=>exact absurd ⟨e,by omega,e2,hx⟩ hb2)
     refine ih _ β' _ g' h' ?_
     have hcnt:=kg (p:=fun j=>(if j=f0 then Option.none else er j).isSome) (q:=fun j=>(er j).isSome) (i:=f0) (fun j hj=>by
      by_cases hjf:j=f0
      · simp [hjf]at hj
      · simpa [hjf]using hj) (by simp [hb0]) (by simp) (List.range ops.size) (List.mem_range.2 hd.lt)
     omega
theorem s_.step (hO:aT P O) (hs:ep ops nt) (hnt:nt<1000000) (hT:Trace O P ops nt ops.toList tr rs ms ds) {F:Nat→Prop}(hd:Js ops ms ds F) (h0:(ms 0).cC) {β0:Env} {w0:World}(hR0:Rel β0 (ms 0) w0) {dfs:List Deferred} {er:Nat→Option Nat} {listed:Array Bool} {a:Act} {w:World}
 (h:s_ O P ops nt rs ms ds F β0 w0 dfs er listed a w) {i:Nat}(hi:i∈Region.ready .any ops listed) (hif:F i→∀ e,e<i→(ds e).eff=true→listed.getD e false=true) {K:Act→World→Prop} {Q:Exit→Act→World→Prop}
 (hK:∀ a' w' er',s_ O P ops nt rs ms ds F β0 w0 dfs er' (listed.setIfInBounds i true) a' w'→K a' w'):wpOp P ops Q i K a w:=by
 obtain⟨hun,oi,hoi,hedges⟩:=mem_ready.1 hi
 obtain⟨β,q,g,h,hN⟩:=h
 have hilt:i<ops.size:=(Array.getElem?_eq_some_iff.1 hoi).1
 have hil:i<listed.size:=by rw [h.size];exact hilt
 have hun':listed.getD i false=false:=by rw [←dX hil];exact hun
 have hq:=h.qle
 have heff:=h.eff
 have hm:=h.rel
 have hr:=h.jl
 have hg1:=h.g1
 have hg2:=h.g2
 have hst:=h.st
 have hanc:∀ i' j,lr ops i' j→i'=i→listed.getD j false=true:=by
  intro i' j ha
  induction ha with
  | edge ho he hb=>
    intro e
    subst e
    rw [hoi]at ho
    cases ho
    exact hedges _ he hb
  | trans h1 h2 ih1 _=>intro e;exact h.cl _ _ h2 (ih1 e)
 have hanc':∀ j,lr ops i j→listed.getD j false=true:=fun j ha=>hanc i j ha rfl
 have hno:∀ j,lr ops j i→listed.getD j false=false:=fun j ha=>by
  cases hx:listed.getD j false
  · rfl
  · have:=h.cl j i ha hx
    rw [hun']at this;cases this
 have early:∀ f b,er f=some b→∃ d t,NX ops ms ds f d t∧w7 P ops ms ds w0 f d t b β q g listed a w∧i≠f∧d∉oi.looksAt ops∧∃ e,e<f∧(ds e).eff=true∧listed.getD e false=false:=fun f b hb=>by
  obtain⟨hF,d,t,hfl,h1⟩:=h.ea f b hb
  obtain⟨e,e1,e2,e3⟩:=hN f b hb
  have hne:i≠f:=fun e'=>by rw [e',h1.l]at hun';cases hun'
  refine⟨d,t,hfl,h1,hne,fun hlk=>?_,e,e1,e2,e3⟩
  have:=hanc' e (hfl.look i oi hoi hne hlk e e1 e2)
  rw [e3]at this;cases this
 have eri:er i = .none:=by
  cases hx:er i with
  | none=>rfl
  | some b=>obtain⟨_,_,_,_,hne,_⟩:=early i b hx;exact absurd rfl hne
 obtain⟨o',ho',_,hdo,hrs,hms⟩:=dq hT hilt
 rw [hoi]at ho'
 cases ho'
 obtain⟨hr1,hr2⟩:=qS hs hnt hT i (by omega)
 have hlook:∀ t∈oi.looksAt ops,g t=(rs i).get .undef t:=by
  intro t ht
  by_cases hw:∃(j:Nat) (oj:Oper),ops[j]? = some oj∧oj.dst=some t
  · obtain⟨j,oj,hj,hdj⟩:=hw
    have hjf:er j = .none:=by
     cases hx:er j with
     | none=>rfl
     | some b=>
       obtain⟨d,t',hfl,_,_,hdl,_⟩:=early j b hx
       obtain⟨o2,ho2,_,_,hd2⟩:=hfl.op
       rw [hj]at ho2
       cases ho2
       rw [hdj]at hd2
       cases hd2
       exact absurd ht hdl
    have nolisted:listed.getD j false=false→g t=(rs 0).get .undef t:=fun hlj=>hg2 t (fun k ok hk hok e=>by
     have:=hs.uniq k j ok oj t hok hj e hdj
     subst this
     rw [hlj]at hk;cases hk)
    have nobefore:¬j<i→(rs i).get .undef t=(rs 0).get .undef t:=fun hji=>hr2 t (fun k ok hk hok e=>by
     have:=hs.uniq k j ok oj t hok hj e hdj
     omega)
    rcases Nat.lt_trichotomy j i with hji|hji|hji
    · have:=(hs.look i j oi oj t hoi hj hdj ht (by omega)).1 hji
      rw [hg1 j oj t (hanc' j this) hjf hj hdj,hr1 j oj t hji hj hdj]
    · subst hji
      rw [nolisted hun',nobefore (by omega)]
    · have:=(hs.look i j oi oj t hoi hj hdj ht (by omega)).2 hji
      rw [nolisted (hno j this),nobefore (by omega)]
  · have hnone:∀(k:Nat) (ok:Oper),ops[k]? = some ok→ok.dst≠some t:=fun k ok hok e=>hw ⟨k,ok,hok,e⟩
    rw [hg2 t (fun k ok _ hok=>hnone k ok hok),hr2 t (fun k ok _ hok=>hnone k ok hok)]
 have hdstlt:∀ t,oi.dst=some t→t<nt:=fun t ht=>hs.dst i oi t hoi ht
 have hcl:∀ k j,lr ops k j→(listed.setIfInBounds i true).getD k false=true→(listed.setIfInBounds i true).getD j false=true:=by
  intro k j ha hk
  rw [bd hil]at hk ⊢
  by_cases hij:i=j
  · simp [hij]
  · simp only [hij,if_false]
    by_cases hik:i=k
    · subst hik;exact hanc' j ha
    · simp only [hik,if_false]at hk
      exact h.cl k j ha hk
 have hgs1:∀ {x:XV},x=(ds i).x→∀(k:Nat) (ok:Oper) (t:Nat),(listed.setIfInBounds i true).getD k false=true→er k = .none→ops[k]? = some ok→ok.dst=some t→(if oi.dst=some t then x else g t)=(ds k).x:=by
  intro x hx k ok t hk hkf hok ht
  rw [bd hil]at hk
  by_cases hik:i=k
  · subst hik
    rw [hoi]at hok
    cases hok
    rw [if_pos ht,hx]
  · simp only [hik,if_false]at hk
    have:oi.dst≠some t:=fun e=>hik (hs.uniq i k oi ok t hoi hok e ht)
    rw [if_neg this]
    exact hg1 k ok t hk hkf hok ht
 have hgs2:∀ {x:XV}(t:Nat),(∀(k:Nat) (ok:Oper),(listed.setIfInBounds i true).getD k false=true→ops[k]? = some ok→ok.dst≠some t)→(if oi.dst=some t then x else g t)=(rs 0).get .undef t:=by
  intro x t ht
  have hi':(listed.setIfInBounds i true).getD i false=true:=by rw [bd hil];simp
  rw [if_neg (ht i oi hi' hoi)]
  refine hg2 t (fun k ok hk hok=>ht k ok ?_ hok)
  rw [bd hil]
  split
  · rfl
  · exact hk
 have keep:∀ {β':Env} {m':Mem} {w':World} {u:Value} {q':Nat} {x:XV},Step β (ms q) w β' m' w'→m'=ms q'→(∀ f b,er f=some b→q'≤f)→∀ f b,er f=some b→F f∧∃ d t,NX ops ms ds f d t∧w7 P ops ms ds w0 f d t b β' q' (fun t=>if oi.dst=some t then x else g t) (listed.setIfInBounds i true) (a.put oi.dst u) w':=by
  intro β' m' w' u q' x hs' hq' hle f b hb
  obtain⟨d,t0,hfl,h1,hne,_,_⟩:=early f b hb
  obtain⟨of,hof,_,_,hofd⟩:=hfl.op
  have hnd:oi.dst≠some d:=fun e=>hne (hs.uniq i f oi of d hoi hof e hofd)
  subst hq'
  refine⟨(h.ea f b hb).1,d,t0,hfl,hle f b hb,?_,?_,h1.ge,Nat.lt_of_lt_of_le h1.lt hs'.size,?_,fun hi=>h1.vn (hs'.vn b h1.lt hi),?_⟩
  · rw [bd hil];simp [h1.l]
  · simp only [hnd,if_false];exact h1.un
  · obtain⟨ti,v,v1,v2,v3⟩:=h1.c9
    exact⟨ti,v,v1,v2,by rw [hs'.frame b h1.lt h1.vn];exact v3⟩
  · rw [←h1.tmp]
    cases hod:oi.dst with
    | none=>rfl
    | some d'=>
      have:d'≠d:=fun e=>hnd (by rw [hod,e])
      simp [Act.put,Array.getD_eq_getD_getElem?,Array.getElem?_setIfInBounds_ne this]
 have qle:∀ f b,er f=some b→q≤f:=fun f b hb=>by
  obtain⟨_,_,_,h1,_⟩:=early f b hb
  exact h1.le
 have hsz:(listed.setIfInBounds i true).size=ops.size:=by simp [h.size]
 cases he:(ds i).eff with
 | false =>
   have hobj : ∀ fp,(ds i).fp=some fp→(ms q).get fp=(ms i).get fp:=by
    intro fp hfp
    have verF:∀ f b,er f=some b→((ds f).m.gH fp).ver=((ms f).gH fp).ver:=fun f b hb=>by
     obtain⟨d,t,hfl,_,hne,_,e,e1,e2,e3⟩:=early f b hb
     obtain⟨of,hof,hofop,hofg,hofd⟩:=hfl.op
     obtain⟨o',ho',_,hdo',_,_⟩:=dq hT hfl.lt
     rw [hof]at ho'
     cases ho'
     obtain⟨zs,_,hp,_⟩:=o8 hofop hofg hdo'
     obtain⟨_,_,_,h4⟩:=Mem.bR hp
     rw [h4 fp (fun e'=>by
      have:=hanc' e (hfl.rd i hilt hne (by rw [hfp,e']) e e1 e2)
      rw [e3]at this;cases this)]
    rcases Nat.le_total q i with hqi|hqi
    · have := nU hO hT h0 fp q (i-q) (by omega) (fun e he1 he2 he3=>by
       cases hef:er e with
       | some b=>exact verF e b hef
       | none=>
         have hne:i≠e:=by omega
         refine hd.ver i e fp hilt (by omega) hfp he3 hne (fun ha=>?_) (fun ha=>?_)
         · have:=(heff e (by omega) he3 hef).1 (hanc' e ha)
           omega
         · have:=lr.lt hs ha
           omega)
      rw [show q+(i-q)=i by omega]at this
      exact this.symm
    · have := nU hO hT h0 fp i (q-i) (by omega) (fun e he1 he2 he3=>by
       have hne:i≠e:=fun e'=>by subst e';rw [he]at he3;cases he3
       refine hd.ver i e fp hilt (by omega) hfp he3 hne (fun ha=>?_) (fun ha=>?_)
       · have:=lr.lt hs ha
         omega
       · have h1:=hno e ha
         have h3:er e = .none:=by
          cases hx:er e with
          | none=>rfl
          | some b=>have:=qle e b hx;omega
         have h2:=(heff e (by omega) he3 h3).2 (by omega)
         rw [h1]at h2;cases h2)
      rw [show i+(q-i)=q by omega]at this
      exact this
   have hago:=wQ hdo (g':=g) hlook he (m':=ms q) hobj
   refine uN hO hoi hago hm hr fun u β' w' hu hs'=>hK _ _ er ?_
   refine⟨β',q,fun t=>if oi.dst=some t then(ds i).x else g t,⟨hsz,hcl,hq,?_,hs'.rel,gM.put (hr.ext hs'.ext hs'.le) oi.dst hu hdstlt,hgs1 rfl,hgs2,hst.trans hs',keep hs' rfl qle,h.dist,?_⟩,fun f b hb=>?_⟩
   · intro e hel hee hef
     rw [bd hil]
     have hie:i≠e:=fun x=>by subst x;rw [he]at hee;cases hee
     simp only [hie,if_false]
     exact heff e hel hee hef
   · rw [dU,h.dfs]
   · obtain⟨e,e1,e2,e3⟩:=hN f b hb
     refine⟨e,e1,e2,?_⟩
     rw [bd hil]
     have hie:i≠e:=fun x=>by subst x;rw [he]at e2;cases e2
     simp only [hie,if_false]
     exact e3
 | true =>
   have hbefore:∀ e,e<i→(ds e).eff=true→listed.getD e false=true:=fun e hlt hee=>by
    by_cases hii:F i
    · exact hif hii e hlt hee
    · exact hanc' e (hd.ord i e hilt (by omega) he hee hlt hii)
   have hilf:∀ f b,er f=some b→i<f:=fun f b hb=>by
    obtain⟨_,_,_,_,hne,_,e,e1,e2,e3⟩:=early f b hb
    rcases Nat.lt_or_ge i f with h1|h1
    · exact h1
    · have:=hbefore e (by omega) e2
      rw [e3]at this;cases this
   have hqi:q≤i:=by
    rcases Nat.lt_or_ge i q with hlt|hge
    · have:=(heff i hilt he eri).2 hlt
      rw [hun']at this;cases this
    · exact hge
   have hmq:ms i=ms q:=by
    have := oP hT q (i-q) (by omega) (fun e he1 he2=>by
     cases hx:(ds e).eff
     · rfl
     · have h3:er e = .none:=by
        cases hx:er e with
        | none=>rfl
        | some b=>have:=hilf e b hx;omega
       have h2:=(heff e (by omega) hx h3).1 (hbefore e (by omega) hx)
       omega)
    rw [show q+(i-q)=i by omega]at this
    exact this
   have hago:=lH hdo (g':=g) hlook
   rw [hmq]at hago
   have heff':∀ e,e<ops.size→(ds e).eff=true→er e = .none→((listed.setIfInBounds i true).getD e false=true↔e<i+1):=by
    intro e hel hee hef
    rw [bd hil]
    by_cases hie:i=e
    · subst hie;simp
    · simp only [hie,if_false]
      constructor
      · intro hle
        have:=(heff e hel hee hef).1 hle
        omega
      · intro hlt
        exact hbefore e (by omega) hee
   refine uN hO hoi hago hm hr fun u β' w' hu hs'=>?_
   rw [←hms]at hu hs'
   have hput:(a.put oi.dst u).defers=dfs:=by rw [dU,h.dfs]
   have hr':=gM.put (hr.ext hs'.ext hs'.le) oi.dst hu hdstlt
   obtain⟨er',h'⟩:=AK.norm hs hT hR0 _ er β' (i+1) (fun t=>if oi.dst=some t then(ds i).x else g t) ⟨hsz,hcl,by omega,heff',hs'.rel,hr',hgs1 rfl,hgs2,hst.trans hs',keep hs' rfl hilf,h.dist,hput⟩ (Nat.le_refl _)
   exact hK _ _ er' h'
theorem s_.early (hs:ep ops nt) (hT:Trace O P ops nt ops.toList tr rs ms ds) {F:Nat→Prop} {β0:Env} {w0:World} {dfs:List Deferred} {er:Nat→Option Nat} {listed:Array Bool} {a:Act} {w:World}
 (h:s_ O P ops nt rs ms ds F β0 w0 dfs er listed a w) {f d:Nat} {t0:TypeId}(hF:F f) (hd:NX ops ms ds f d t0) (hi:f∈Region.ready .any ops listed) (hmore:∃ e,e<f∧(ds e).eff=true∧listed.getD e false=false) {K:Act→World→Prop} {Q:Exit→Act→World→Prop}
 (hK:∀ a' w' er',s_ O P ops nt rs ms ds F β0 w0 dfs er' (listed.setIfInBounds f true) a' w'→K a' w'):wpOp P ops Q f K a w:=by
 obtain⟨hun,oi,hoi,hedges⟩:=mem_ready.1 hi
 obtain⟨β,q,g,h,hN⟩:=h
 have hflt:=hd.lt
 have hil:f<listed.size:=by rw [h.size];exact hflt
 have hun':listed.getD f false=false:=by rw [←dX hil];exact hun
 have hm:=h.rel
 have hr:=h.jl
 have hst:=h.st
 obtain⟨of,hof,hofop,hofg,hofd⟩:=hd.op
 obtain rfl:oi=of:=by rw [hof]at hoi;exact(Option.some.inj hoi).symm
 obtain⟨o',ho',_,hdo,_,_⟩:=dq hT hflt
 obtain rfl:oi=o':=by rw [hof]at ho';exact Option.some.inj ho'
 obtain⟨zs,hz,hp,hx,hfe,_⟩:=o8 hofop hofg hdo
 have erf:er f = .none:=by
  cases hx:er f with
  | none=>rfl
  | some b=>
    obtain⟨_,_,_,_,h1⟩:=h.ea f b hx
    rw [h1.l]at hun';cases hun'
 have hanc':∀ j,lr ops f j→listed.getD j false=true:=fun j ha=>by
  have key:∀ i' j,lr ops i' j→i'=f→listed.getD j false=true:=by
   intro i' j ha
   induction ha with
   | edge ho he hb=>
     intro e
     subst e
     rw [hof]at ho
     cases ho
     exact hedges _ he hb
   | trans h1 h2 ih1 _=>intro e;exact h.cl _ _ h2 (ih1 e)
  exact key f j ha rfl
 have hqf:q≤f:=by
  rcases Nat.lt_or_ge f q with hlt|hge
  · have:=(h.eff f hflt hfe erf).2 hlt
    rw [hun']at this;cases this
  · exact hge
 have hdlt:d<nt:=hs.dst f oi d hof hofd
 obtain⟨ti,v,z1,z2,z3,z4⟩:=iG hz β (ms q).n
 have hrun:∀ ev:Operand→Value,(execOp ev oi).run P w = .ok (.value (.pointer (some ⟨w.heap.size,0,none⟩))) (w.alloc (.cells v.cells t0)):=fun ev=>by
  simp only [execOp,hofop,Instr.alloc,Sem.run_bind,dz z1 z2,Result.andThen_ok,pU,Sem.run_pure]
 have hheap:(w.alloc (.cells v.cells t0)).heap=w.heap.push (.cells v.cells t0 (0,0)):=rfl
 have hb0:∀ k,k<w.heap.size→(w.alloc (.cells v.cells t0)).heap[k]? = w.heap[k]?:=fun k hk=>by
  rw [hheap,Array.getElem?_push,if_neg (Nat.ne_of_lt hk)]
 have hrel:Rel β (ms q) (w.alloc (.cells v.cells t0)):=by
  refine⟨hm.bnd,hm.fresh,fun j hj=>?_,hm.inj⟩
  have:=hm.obj j hj
  cases hg:(ms q).get j with
  | dead=>trivial
  | cells c1 c2 c3 c4=>
    rw [hb0 _ (hm.lt hj (by rw [hg];rfl)),←hg];exact this
  | map es=>
    rw [hb0 _ (hm.lt hj (by rw [hg];rfl)),←hg];exact this
 have hstep:Step β (ms q) w β (ms q) (w.alloc (.cells v.cells t0)):=
  ⟨Nat.le_refl _,Ext.refl _ _,hrel,rfl,rfl,rfl,by rw [hheap];simp,fun k hk _=>hb0 k hk,fun _ _ h=>h⟩
 have hst':=hst.trans hstep
 have hsz':(w.alloc (.cells v.cells t0)).heap.size=w.heap.size+1:=by rw [hheap];simp
 unfold wpOp
 rw [hof]
 simp only []
 have hwant:Region.wanted oi (yielded ops a.tmps)=true:=by unfold Region.wanted;rw [hofg]
 rw [if_pos hwant]
 refine .inl ?_
 unfold Oper.wp
 rw [hrun]
 refine hK _ _ (fun j=>if j=f then some w.heap.size else er j) ⟨β,q,fun t=>if t=d then .undef else g t,⟨by simp [h.size],fun k j ha hk=>?_,h.qle,fun e hel hee hef=>?_,hrel,⟨?_,hr.small,fun t ht=>?_,fun t ht=>?_⟩,fun k ok t hk hkf hok ht=>?_,fun t ht=>?_,hst',fun f' b hb=>?_,fun f1 f2 b h1 h2=>?_,?_⟩,fun f' b hb=>?_⟩
 · rw [bd hil]at hk ⊢
   by_cases hij:f=j
   · simp [hij]
   · simp only [hij,if_false]
     by_cases hik:f=k
     · subst hik;exact hanc' j ha
     · simp only [hik,if_false]at hk
       exact h.cl k j ha hk
 · rw [bd hil]
   by_cases hfe:e=f
   · rw [if_pos hfe]at hef;cases hef
   · rw [if_neg hfe]at hef
     have:f≠e:=fun e'=>hfe e'.symm
     simp only [this,if_false]
     exact h.eff e hel hee hef
 · rw [hofd];simpa [Act.put]using hr.size
 · by_cases htd:t=d
   · simp only [htd,if_true];trivial
   · simp only [htd,if_false]
     have:(a.put oi.dst (.pointer (some ⟨w.heap.size,0,none⟩))).tmps.getD t undef=a.tmps.getD t undef:=by
      rw [hofd]
      simp [Act.put,Array.getD_eq_getD_getElem?,Array.getElem?_setIfInBounds_ne (Ne.symm htd)]
     rw [this]
     exact hr.rel t ht
 · by_cases htd:t=d
   · simp [htd]
   · simp only [htd,if_false];exact hr.out t ht
 · by_cases hkf':k=f
   · rw [if_pos hkf']at hkf;cases hkf
   · rw [if_neg hkf']at hkf
     rw [bd hil]at hk
     simp only [Ne.symm hkf',if_false]at hk
     have htd:t≠d:=fun e=>hkf' (hs.uniq k f ok oi t hok hof ht (by rw [hofd,e]))
     simp only [htd,if_false]
     exact h.g1 k ok t hk hkf hok ht
 · have htd':t≠d:=fun e=>ht f oi (by rw [bd hil];simp) hof (by rw [hofd,e])
   simp only [htd',if_false]
   refine h.g2 t (fun k ok hk hok=>ht k ok ?_ hok)
   rw [bd hil]
   split
   · rfl
   · exact hk
 · by_cases hff:f'=f
   · subst hff
     rw [if_pos rfl]at hb
     cases hb
     refine⟨hF,d,t0,hd,⟨hqf,by rw [bd hil];simp,by simp,by have:=hst.size;omega,by omega,⟨ti,v,z1,z2,?_⟩,fun hi=>?_,?_⟩⟩
     · rw [hheap];simp
     · obtain⟨j,hj,hl,hb⟩:=hi
       have:=hm.lt hj (ak.dg hl)
       omega
     · rw [hofd]
       simp [Act.put,Array.getD_eq_getD_getElem?,hr.size,hdlt]
   · rw [if_neg hff]at hb
     obtain⟨hF',d',t',hd',he'⟩:=h.ea f' b hb
     obtain⟨o2,ho2,_,_,hdst2⟩:=hd'.op
     have hdd:d'≠d:=fun e=>hff (hs.uniq f' f o2 oi d' ho2 hof hdst2 (by rw [hofd,e]))
     refine⟨hF',d',t',hd',⟨he'.le,?_,?_,he'.ge,by have:=he'.lt;omega,?_,he'.vn,?_⟩⟩
     · rw [bd hil]
       split
       · rfl
       · exact he'.l
     · simp only [hdd,if_false];exact he'.un
     · obtain⟨ti,v,v1,v2,v3⟩:=he'.c9
       exact⟨ti,v,v1,v2,by rw [hb0 _ he'.lt];exact v3⟩
     · rw [←he'.tmp,hofd]
       simp [Act.put,Array.getD_eq_getD_getElem?,Array.getElem?_setIfInBounds_ne (Ne.symm hdd)]
 · by_cases h1f:f1=f
   · by_cases h2f:f2=f
     · rw [h1f,h2f]
     · rw [if_pos h1f]at h1
       rw [if_neg h2f]at h2
       cases h1
       obtain⟨_,_,_,_,he'⟩:=h.ea f2 _ h2
       have:=he'.lt
       omega
   · by_cases h2f:f2=f
     · rw [if_neg h1f]at h1
       rw [if_pos h2f]at h2
       cases h2
       obtain⟨_,_,_,_,he'⟩:=h.ea f1 _ h1
       have:=he'.lt
       omega
     · rw [if_neg h1f]at h1
       rw [if_neg h2f]at h2
       exact h.dist f1 f2 b h1 h2
 · rw [dU,h.dfs]
 · by_cases hff:f'=f
   · obtain⟨e,e1,e2,e3⟩:=hmore
     refine⟨e,by omega,e2,?_⟩
     rw [bd hil]
     have:f≠e:=by omega
     simp only [this,if_false]
     exact e3
   · replace hb:er f'=some b:=(if_neg hff).symm.trans hb
     obtain⟨e,e1,e2,e3⟩:=hN f' b hb
     by_cases hef:e=f
     · obtain⟨e',e1',e2',e3'⟩:=hmore
       refine⟨e',by omega,e2',?_⟩
       rw [bd hil]
       have:f≠e':=by omega
       simp only [this,if_false]
       exact e3'
     · refine⟨e,e1,e2,?_⟩
       rw [bd hil]
       have:f≠e:=fun h=>hef h.symm
       simp only [this,if_false]
       exact e3
theorem s_.any (hO:aT P O) (hs:ep ops nt) (hnt:nt<1000000) (hT:Trace O P ops nt ops.toList tr rs ms ds) {F:Nat→Prop}(hd:Js ops ms ds F) (h0:(ms 0).cC) {β0:Env} {w0:World}(hR0:Rel β0 (ms 0) w0) {dfs:List Deferred} {Q:Exit→Act→World→Prop}
 (hQ:yz β0 (ms 0) w0 nt dfs (rs ops.size) (ms ops.size) (Q .normal)):∀(fuel:Nat) (er:Nat→Option Nat) (listed:Array Bool) (a:Act) (w:World),s_ O P ops nt rs ms ds F β0 w0 dfs er listed a w →
 (List.range ops.size).countP (fun i=>listed.getD i false == false)≤fuel→wpAny P .any ops Q fuel listed a w:=by
 have fin:∀(er:Nat→Option Nat) (listed:Array Bool) (a:Act) (w:World),s_ O P ops nt rs ms ds F β0 w0 dfs er listed a w→(∀ i,i<ops.size→listed.getD i false=true)→Q .normal a w:=by
  intro er listed a w h hall
  obtain⟨β,q,g,h,hN⟩:=h
  have nn:∀ f,er f = .none:=fun f=>by
   cases hx:er f with
   | none=>rfl
   | some b=>
     obtain⟨_,d,t,hfl,_⟩:=h.ea f b hx
     obtain⟨e,e1,e2,e3⟩:=hN f b hx
     have:=hall e (by have:=hfl.lt;omega)
     rw [e3]at this;cases this
  have hq:=h.qle
  have hr:=h.jl
  have hst:=h.st
  have hmq:ms ops.size=ms q:=by
   have:=oP hT q (ops.size-q) (by omega) (fun e he1 he2=>by
    cases hx:(ds e).eff
    · rfl
    · have:=(h.eff e (by omega) hx (nn e)).1 (hall e (by omega))
      omega)
   rw [show q+(ops.size-q)=ops.size by omega]at this
   exact this
  obtain⟨hr1,hr2⟩:=qS hs hnt hT ops.size (Nat.le_refl _)
  have hge:g=(rs ops.size).get .undef:=by
   funext t
   by_cases hw:∃(j:Nat) (oj:Oper),ops[j]? = some oj∧oj.dst=some t
   · obtain⟨j,oj,hj,hdj⟩:=hw
     have hjl:j<ops.size:=(Array.getElem?_eq_some_iff.1 hj).1
     rw [h.g1 j oj t (hall j hjl) (nn j) hj hdj,hr1 j oj t hjl hj hdj]
   · have hnone:∀(k:Nat) (ok:Oper),ops[k]? = some ok→ok.dst≠some t:=fun k ok hok e=>hw ⟨k,ok,hok,e⟩
     rw [h.g2 t (fun k ok _ hok=>hnone k ok hok),hr2 t (fun k ok _ hok=>hnone k ok hok)]
  subst hge
  rw [←hmq]at hr hst
  exact hQ a β w hr h.dfs hst
 intro fuel
 induction fuel with
 | zero=>
   intro er listed a w h hc
   have hall:∀ i,i<ops.size→listed.getD i false=true:=fun i hi=>by
    cases hx:listed.getD i false
    · have:0<(List.range ops.size).countP (fun i=>listed.getD i false == false):=List.countP_pos_iff.2 ⟨i,List.mem_range.2 hi,by simp [hx]⟩
      omega
    · rfl
   refine⟨?_,fin er listed a w h hall⟩
   apply List.eq_nil_iff_forall_not_mem.2
   intro i hi
   obtain⟨hun,oi,hoi,_⟩:=mem_ready.1 hi
   obtain⟨_,_,_,h,_⟩:=h
   have hilt:i<ops.size:=(Array.getElem?_eq_some_iff.1 hoi).1
   rw [dX (by rw [h.size];exact hilt),hall i hilt]at hun
   cases hun
 | succ fuel ih=>
   intro er listed a w h hc
   have hsize:listed.size=ops.size:=by obtain⟨_,_,_,h,_⟩:=h;exact h.size
   refine⟨fun hnil=>fin er listed a w h (fun i hi=>?_),fun i hi=>?_⟩
   · induction i using Nat.strongRecOn with
     | _ i ihi=>
       cases hx:listed.getD i false
       · exfalso
         have ho:ops[i]? = some ops[i]:=by simp [hi]
         have:i∈Region.ready .any ops listed:=mem_ready.2 ⟨by rw [dX (by rw [hsize];exact hi)];exact hx,ops[i],ho,fun e he hb=>by
          have hlt:=hs.back i ops[i] ho e he hb
          exact ihi e.on hlt (by omega)⟩
         rw [hnil]at this
         cases this
       · rfl
   · obtain⟨hun,oi,hoi,_⟩:=mem_ready.1 hi
     have hilt:i<ops.size:=(Array.getElem?_eq_some_iff.1 hoi).1
     have hil:i<listed.size:=by rw [hsize];exact hilt
     have hcnt:=kg (p:=fun j=>(listed.setIfInBounds i true).getD j false == false) (q:=fun j=>listed.getD j false == false) (i:=i) (fun j hj=>by
      rw [bd hil]at hj
      split at hj
      · simp at hj
      · exact hj) (by rw [←dX hil,hun];rfl) (by rw [bd hil];simp) (List.range ops.size) (List.mem_range.2 hilt)
     by_cases hF:F i
     · by_cases hmore:∃ e,e<i∧(ds e).eff=true∧listed.getD e false=false
       · obtain⟨d,t,hfl⟩:=hd.flt i hF
         exact h.early hs hT hF hfl hi hmore fun a' w' er' h'=>ih er' _ a' w' h' (by omega)
       · refine h.step hO hs hnt hT hd h0 hR0 hi (fun _ e e1 e2=>?_) fun a' w' er' h'=>ih er' _ a' w' h' (by omega)
         cases hx:listed.getD e false with
         | true=>rfl
         | false=>exact absurd ⟨e,e1,e2,hx⟩ hmore
     · exact h.step hO hs hnt hT hd h0 hR0 hi (fun e=>absurd e hF) fun a' w' er' h'=>ih er' _ a' w' h' (by omega)
theorem BD (hO:aT P O) (hP:P.follows .mixedOrders=true) (hs:ep ops nt) {id:Nat}(hT:Trace O P ops nt ops.toList tr rs ms ds) {F:Nat→Prop}(hd:Js ops ms ds F) {r:T XV} {m:Mem}(h1:rs 0=r) (h2:ms 0=m) {β : Env} {w:World} {a:Act}(hr:lL β m.n nt r a.tmps) (hm:Rel β m w)
 {Q:Exit→Act→World→Prop}(hq:yz β m w nt a.defers (rs ops.size) (ms ops.size) (Q .normal)):(Code.region id ops true).wp P Q a w:=by
 subst h1
 subst h2
 have hdr:=Step.drew hm
 refine wp_region_any hP ?_
 refine s_.any hO hs hr.small hT hd hm.fresh hm (β0 := β) (w0:=w) (dfs:=a.defers) (Q:=Q) hq _ (fun _ => .none) _ a _ ?_ ?_
 · refine⟨β,0,(rs 0).get .undef,⟨by simp,fun i j ha hi=>?_,by omega,fun e he _ _=>?_,hdr.rel,hr,fun i o t hi=>?_,fun t _=>rfl,hdr,fun f b hb=>(by cases hb),fun f f' b hb=>(by cases hb),rfl⟩,fun f b hb=>(by cases hb)⟩
   · exfalso
     by_cases hlt:i<ops.size <;> simp [Array.getD_eq_getD_getElem?,hlt]at hi
   · simp [Array.getD_eq_getD_getElem?,he]
   · exfalso
     by_cases hlt:i<ops.size <;> simp [Array.getD_eq_getD_getElem?,hlt]at hi
 · exact Nat.le_trans List.countP_le_length (by simp)
def sW (bs:List Nat) (fs:List Nat) (i:Nat) (di:Ab) (e:Nat) (de:Ab):Bool:=
 !de.eff || i == e || ((!(di.eff && decide (e<i) && !fs.contains i) || bit bs i e) &&
  (match di.fp with
    | .none=>true
    | some fp=>bit bs i e || bit bs e i || !(de.ws.contains fp)))
def LH (ops:Array Oper) (bs:List Nat) (tr:List Ab) (f:Nat):Bool:=
 match ops[f]?,tr[f]? with
 | some o,some bf=>match o.op,o.guard,o.dst with
   | .alloc _,.none,some d=>(List.range ops.size).all (fun i=>i == f || (match ops[i]? with
      | .none=>true
      | some oi => !((oi.looksAt ops).contains d || (match tr[i]? with | .none=>false|some di=>(match di.fp with | .none=>false|some p=>bf.ws.contains p))) || (List.range f).all fun e=>match tr[e]? with
        | .none=>true
        | some de => !de.eff || bit bs i e))
   | _,_,_=>false
 | _,_=>false
def tx (ops:Array Oper) (bs:List Nat) (tr:List Ab) (fs:List Nat):Bool:=
 fs.all (LH ops bs tr) && (List.range tr.length).all fun i=>match tr[i]? with
  | .none=>true
  | some di=>(!di.eff && di.fp.isNone) || (List.range tr.length).all fun e=>match tr[e]? with
    | .none=>true
    | some de=>sW bs fs i di e de
theorem A3 (hO : aT P O) (hT:Trace O P ops nt ops.toList tr rs ms ds) (h0f:(ms 0).cC) (hb:(ms 0).n≤Mem.bound) {ab:List Ab}(hno:jz ops.toList ab=true) (ht:L6 tr ab) {fs:List Nat}(h:tx ops (jg ops.toList) ab fs=true):Js ops ms ds (·∈fs):=by
 have key:∀ i,i≤ops.size→iL (ms 0) (ms i)∧(ms i).cC:=by
  intro i
  induction i with
  | zero=>exact fun _=>⟨.same _,h0f⟩
  | succ i ih=>
    intro hi
    obtain⟨h1,h2⟩:=ih (by omega)
    obtain⟨o,ho,_,hx,_,hm⟩:=dq hT (show i<ops.size by omega)
    rw [hm]
    refine⟨h1.trans ?_,((o9 hO hx).mono h2).2⟩
    obtain⟨_,_,hti,_⟩:=dq hT (show i<ops.size by omega)
    obtain⟨b,hbi,_,_,k3⟩:=c_.get? ht i _ hti
    rcases sd ops.toList ab hno i o b (by simpa using ho) hbi with hn|hn
    · exact Ny hn hx
    · exact HM (o9 hO hx) h2 (fun j=>k3 j (by rw [hn];simp))
 unfold tx at h
 simp only [Bool.and_eq_true]at h
 obtain⟨hfl,hdy⟩:=h
 have hl:tr.length=ab.length:=c_.length ht
 have at_:∀ i,i<ops.size→∃ b,ab[i]? = some b∧(ds i).eff=b.eff∧(ds i).fp=b.fp∧∀ j,j∉b.ws→((ds i).m.gH j).ver=((ms i).gH j).ver:=fun i hi=>by
  obtain⟨_,_,hti,_⟩:=dq hT hi
  obtain⟨b,hbi,k1,k2,k3⟩:=c_.get? ht i _ hti
  exact⟨b,hbi,k1,k2,k3⟩
 have pair:∀ i e bi be,ab[i]? = some bi→ab[e]? = some be→((!bi.eff && bi.fp.isNone) || sW (jg ops.toList) fs i bi e be)=true:=fun i e bi be hi he=>by
  have hil:i<ab.length:=(List.getElem?_eq_some_iff.1 hi).1
  have hel:e<ab.length:=(List.getElem?_eq_some_iff.1 he).1
  have h3:=List.all_eq_true.1 hdy i (List.mem_range.2 hil)
  rw [hi]at h3
  simp only [Bool.or_eq_true]at h3 ⊢
  rcases h3 with h3|h3
  · exact .inl h3
  · have h4:=List.all_eq_true.1 h3 e (List.mem_range.2 hel)
    rw [he]at h4
    exact .inr h4
 refine⟨fun i e hi he h1 h2 hlt hF=>?_,fun i e fp hi he h1 h2 hne ha hb=>?_,fun f hf=>?_⟩
 · obtain⟨bi,hbi,k1,k2,k3⟩:=at_ i hi
   obtain⟨be,hbe,j1,j2,j3⟩:=at_ e he
   have hp:=pair i e bi be hbi hbe
   rw [k1]at h1
   rw [j1]at h2
   have hq:(i == e)=false:=by simp;omega
   have hc:fs.contains i=false:=by simpa using hF
   simp [sW,h1,h2,hq,hlt,hc]at hp
   exact f5 ops i e (hp.1.resolve_left hF)
 · obtain⟨bi,hbi,k1,k2,k3⟩:=at_ i hi
   obtain⟨be,hbe,j1,j2,j3⟩:=at_ e he
   have hp:=pair i e bi be hbi hbe
   rw [k2]at h1
   rw [j1]at h2
   have hq:(i == e)=false:=by simpa using hne
   have n1:bit (jg ops.toList) i e=false:=by
    cases hx:bit (jg ops.toList) i e
    · rfl
    · exact absurd (f5 ops i e hx) ha
   have n2:bit (jg ops.toList) e i=false:=by
    cases hx:bit (jg ops.toList) e i
    · rfl
    · exact absurd (f5 ops e i hx) hb
   unfold sW at hp
   rw [h1,h2,hq,n1,n2]at hp
   simp only [Bool.not_true,Bool.false_or,Option.isNone_some,Bool.and_false,Bool.and_eq_true,Bool.or_false,Bool.not_eq_true']at hp
   exact j3 fp (by have:=hp.2;simpa using this)
 · have hf1 := List.all_eq_true.1 hfl f hf
   unfold LH at hf1
   split at hf1
   · rename_i o bf hof hbf
     split at hf1
     · rename_i t d hop hg hd
       have hflt:f<ops.size:=(Array.getElem?_eq_some_iff.1 hof).1
       obtain⟨o',ho',htf,hxf,_,_⟩:=dq hT hflt
       obtain rfl:o=o':=by rw [hof]at ho';exact Option.some.inj ho'
       obtain⟨hkr,hfr⟩:=key f (by omega)
       obtain⟨bf',hbf',k1,k2,k3⟩:=at_ f hflt
       obtain rfl:bf=bf':=by rw [hbf]at hbf';exact Option.some.inj hbf'
       obtain⟨zs,_,hp,_⟩:=o8 hop hg hxf
       have hn:(ms f).n∈bf.ws:=by
        refine Classical.byContradiction fun hn=>?_
        have e1:=k3 _ hn
        obtain⟨_,_,e2,_⟩:=Mem.bR hp
        rw [e2,hfr _ (Nat.le_refl _)]at e1
        cases e1
       have look:∀ i oi,ops[i]? = some oi→i≠f→(d∈oi.looksAt ops∨(ds i).fp=some (ms f).n)→∀ e,e<f→(ds e).eff=true→lr ops i e:=fun i oi hoi hif hor e hef heff=>by
        have hi:i<ops.size:=(Array.getElem?_eq_some_iff.1 hoi).1
        obtain⟨bi,hbi,q1,q2,q3⟩:=at_ i hi
        obtain⟨be,hbe,r1,r2,r3⟩:=at_ e (by omega)
        have h1:=List.all_eq_true.1 hf1 i (List.mem_range.2 hi)
        have hq:(i == f)=false:=by simpa using hif
        rw [hoi,hbi,hq]at h1
        simp only [Bool.false_or,Bool.or_eq_true,Bool.not_eq_true']at h1
        have h2:((List.range f).all fun e=>match ab[e]? with | .none=>true|some de => !de.eff || bit (jg ops.toList) i e)=true:=by
         rcases h1 with h1|h1
         · exfalso
           simp only [Bool.or_eq_false_iff]at h1
           rcases hor with hor|hor
           · have:(oi.looksAt ops).contains d=true:=by simpa using hor
             rw [this]at h1;cases h1.1
           · rw [q2]at hor
             have:=h1.2
             rw [hor]at this
             simp only at this
             rw [List.contains_iff_mem.2 hn]at this
             cases this
         · exact h1
        have h3:=List.all_eq_true.1 h2 e (List.mem_range.2 hef)
        rw [hbe]at h3
        rw [r1]at heff
        simp only [heff,Bool.not_true,Bool.false_or]at h3
        exact f5 ops i e h3
       refine⟨d,t,fun i oi hoi hif hd=>look i oi hoi hif (.inl hd),fun i hi hif hfp=>look i ops[i] (by simp [hi]) hif (.inr hfp),fun j hj hlv=>?_,hflt,o,hof,hop,hg,hd⟩
       obtain⟨_,_,k⟩:=hkr hb
       rcases k j hj hlv with k|⟨k,ke⟩
       · exact .inl k
       · exact .inr ⟨k,by first|(rw [ke];exact hlv)|(rw [←ke];exact hlv)|simp [k,ke,hlv]⟩
     · cases hf1
   · cases hf1
theorem WX.Me (hO:aT P O) (hP:P.follows .mixedOrders=true) {nI id:Nat} {fs:List Nat} {al al':bm} {hs hs':aj} {bs:List Ab} {K:dj}(hst:df ops nt (jg ops.toList)=true) (h:mz O P ops nt ops.toList al hs bs al' hs') (hdy:tx ops (jg ops.toList) bs fs=true) (hno:jz ops.toList bs=true)
 (hk:K .normal al' hs'):WX P nt nI (.code (.region id ops true)) al hs K:=by
 intro βI mI wI hn m hm β w a Q hr hw hq
 obtain⟨r,hrr⟩:=sg (rg al) nt hr.small hr.out
 obtain⟨tr,r',m',h1,h2,h3,h4⟩:=q7 hr.small h hm hrr
 obtain⟨rs,ms,ds,hT,t1,t2,t3,t4⟩:=oE h1
 have hd:=A3 hO hT (by rw [t2];exact hm.fresh) (by rw [t2];exact hm.bnd) hno h4 hdy
 have e:(r.get .undef)=rg al:=funext hrr
 have e':(r'.get .undef)=rg al':=funext h2
 have hsz:ops.toList.length=ops.size:=by simp
 rw [hsz]at t3 t4
 refine BD hO hP (ki hst) hT hd t1 t2 (by unfold lL;rw [e];exact hr) hw.rel ?_
 rw [t3,t4]
 intro a' β' w' k1 k2 k3
 unfold lL at k1
 rw [e']at k1
 exact hq .normal al' hs' m' hk h3 a' β' w' k1 k2 (hw.trans k3)
theorem WX.Mg (fs:List Nat) {K:dj} {al:bm} {hs:aj} {nI id:Nat}(hP:P.follows .mixedOrders=true) (hst:df ops nt (jg ops.toList)=true) (h:SK P ops nt [] ops.toList al hs fun bs al' hs'=>(tx ops (jg ops.toList) bs fs && jz ops.toList bs)=true∧K .normal al' hs'):WX P nt nI (.code (.region id ops true)) al hs K:=by
 obtain⟨Lf,h1,h2,h3,bs,al',hs',h4,h5,h6⟩:=h
 exact WX.Me (p8 fun e he=>(h2 e he).resolve_left (by simp)) hP hst h4 (by simp only [Bool.and_eq_true]at h5;exact h5.1) (by simp only [Bool.and_eq_true]at h5;exact h5.2) h6
theorem Fx {nI id:Nat}(fs:List Nat) {al:bm} {hs:aj} {K:dj}(h:SK P ops nt [] ops.toList al hs fun bs al' hs'=>(tx ops (jg ops.toList) bs fs && jz ops.toList bs)=true∧K .normal al' hs') (hP:P.follows .mixedOrders=true:=by kernel_rfl) (hst:df ops nt (jg ops.toList)=true:=by kernel_rfl):WX P nt nI (.code (.region id ops true)) al hs K:=
 WX.Mg fs hP hst h
end
end Go.Xm
namespace Go.Proofs.YtagpkhindehcbaaGreat
open Go.Xm
variable [az]
theorem FC:bn Tryz.prog 59 [.one (.ptr 0 0),.one (.int .u64 1),.one (.int .i64 1)] [.cells [.slice 1 0 0 (.exact 0),.int .i64 0] 92 false false,.cells (il .u8 []) 5 false false] (.tup []) (LA [true]):=by
 refine cO Tryz.func59 ?_
 repeat' (first|refine zz ?_|refine zx (fun _=>?_) (fun _=>?_)|fail)
 refine WX.loop ?_
 refine WX.round ?_
 repeat' (first
  |(refine qz ?_;first
   |refine PW (n:=1) (r:=[0]) rfl (qV rfl rfl rfl) (fun h=>absurd h (by decide)) (fun _=>?_))
  |refine zz ?_|refine zx (fun _=>?_) (fun _=>?_)|fail)
 refine WX.round ?_
 repeat' (first|refine zz ?_|refine zx (fun _=>?_) (fun _=>?_)|fail)
 show aC _ _ _ _ _ _ _ _;refine kV [0,1,3] ?_
 rfl
theorem I5 {HS:aj} {i k:Nat} {opn:Bool}(hi:HS[i]? = some (.cells [.slice k 0 0 (.exact 0),.int .i64 0] 92 false false)) (hk:HS[k]? = some (.cells (il .u8 []) 5 false false)) (hd:i≠k) {N:Nat}(hN:HS.length=N) {HS':aj}(hh:bG HS [i,k] [aP N [true],.dead,aq [true]]=HS') (hbd:Nat.blt HS'.length Mem.bound=true) :
 aH.Sound Tryz.prog ⟨59,[.one (.ptr i 0),.one (.int .u64 1),.one (.int .i64 1)],HS,.tup [],HS',[i,k]⟩:=by
 subst hN
 refine bV [i,k] [i,k] 1 FC (by simp [hd]) ?_ ?_ ?_ rfl (.cons (by simp [XV.b7,XC.ok]) (.flat (.flat .nil))) (.cons rfl (.flat (.flat .nil))) (bz.ok _) (bz.ay _) ?_ rfl rfl hh hbd (.inl rfl)
 · exact .cons hi (.flat hk .nil)
 · exact .cons (by simp [ak.b7,XC.ok]) (.flat .nil)
 · exact .cons (by simp [ak.b7,XC.ok,bc]) (.flat (.flat .nil))
 · exact .cons (by simp only [ak.ay,List.map_cons,List.map_nil,XC.ay,aw];rfl) (.flat (.flat .nil))
theorem Fy (bs:List Bool) (hb:bs.length≤1000000) :
 bn Tryz.prog 31 [.one (.ptr 0 0)] (WH bs) (fS 2 (((bs++[true]).length+7)/8) 1) [aP 1 bs,aq bs,aq (bs++[true])]:=by
 refine cO Tryz.func31 ?_
 have hwl:=eO bs
 repeat' (first
  |(refine qz ?_;first
   |refine PW (n:=(bs.length+7)/8) (r:=wr bs) (eO bs) (De rfl rfl (eO bs)) (fun h=>?_) (fun h=>?_))
  |refine Fx (id:=3) [11] ?_|refine zz ?_|refine zx (fun _=>?_) (fun _=>?_)|fail)
 · obtain rfl:bs = []:=List.length_eq_zero_iff.1 (by omega)
   repeat' (first
    |(refine qz ?_;first
     |refine cl ?_ (hi:=by exact I5 (k:=2) (opn:=false) rfl rfl (by decide) nL nA rfl))
    |refine zz ?_|refine zx (fun _=>?_) (fun _=>?_)|fail)
   show aC _ _ _ _ _ _ _ _;refine kV [0,1,4] ?_
   rw [cY];rfl
 · have hw:aP 3 bs = .cells [.slice 3 0 (0+(bs.length+7)/8) (.toEnd 1),.int .i64 (bs.length:Nat)] 92 false false:=by
    unfold aP gQ
    rw [if_neg (by omega),Nat.zero_add]
   have hy:aq bs = .cells (il .u8 ([]++wr bs)) 5 true false:=by
    refine fx fun hn=>?_
    have h2:(il .u8 (wr bs)).length=0:=by rw [hn];rfl
    rw [eG,hwl]at h2
    omega
   repeat' (first
    |(refine qz ?_;first
     |refine cl ?_ (hi:=by exact h_ (i:=4) (k:=3) (size:=1) rfl (bs:=bs) (by decide) (by decide) hb (by rw [hw];rfl) (by rw [hy];rfl) (by decide) nL nA rfl))
    |refine zz ?_|refine zx (fun _=>?_) (fun _=>?_)|fail)
   show aC _ _ _ _ _ _ _ _;refine kV [0,1,5] ?_
   rw [cY];rfl
theorem KI (a b:List XC) (e e' e1 e2 e3:TypeId) (cs ds fs:List XC):dP [.cells a e false false,b8 e1 cs] [.cells b e' false false,b8 e2 ds,b8 e3 fs]=true:=by
 cases cs <;> cases ds <;> cases fs <;> simp [dP,ak.live,ak.own,b8]
theorem rf {bs:List Bool}(hb:bs.length≤1000000) {HS:aj} {i k:Nat}(hi:HS[i]? = some (aP k bs)) (hk:HS[k]? = some (aq bs)) (hd:i≠k) {N:Nat}(hN:HS.length=N) {HS':aj}(hh:HS++[aq (bs++[true])]=HS') (hbd:Nat.blt HS'.length Mem.bound=true) :
 aH.Sound Tryz.prog ⟨31,[.one (.ptr i 0)],HS,fS N (((bs++[true]).length+7)/8) 1,HS',[i,k]⟩:=by
 subst hN
 have hh':bG HS [i,k] [aP k bs,aq bs,aq (bs++[true])]=HS':=by
  simp only [bG]
  rw [aG hi,aG hk];exact hh
 refine bV [i,k] [i,k] 1 (Fy bs hb) (by simp [hd]) ?_ ?_ ?_ rfl (.cons (by simp [XV.b7,XC.ok]) .nil) (.cons rfl .nil) (ff (Nat.le_of_ble_eq_true rfl)) (cY ..) ?_ ?_ rfl hh' hbd (.inl rfl)
 · exact ae.ed hi rfl rfl rfl (.flat hk .nil)
 · exact .cons (by simp [ak.b7,XC.ok,bc]) (.flat .nil)
 · exact .cons (by simp [ak.b7,XC.ok,bc]) (.flat (.flat .nil))
 · exact .cons (by simp only [ak.ay,List.map_cons,List.map_nil,XC.ay,aw];rfl) (.flat (.flat .nil))
 · exact KI ..
def tz:Nat→Int→Nat
 | 0,_=>0
 | f+1,x=>if x%2=0 then tz f (x/2)+1 else 0
theorem LW:∀(f:Nat) (x:Int),0<x→x<2^f→tz f x<f
 | 0,x,h,h2=>by simp at h2;omega
 | f + 1,x,h,h2=>by
   unfold tz
   split
   · have:=LW f (x/2) (by omega) (by rw [Int.pow_succ]at h2;omega)
     omega
   · omega
def ef (L:List Int):Nat × Bool:=if L.getD (L.length-1) 0=0 then(0,false)else(8*L.length-1-tz 8 (L.getD (L.length-1) 0),true)
theorem H9 {L:List Int}(hL:dZ L) (hn:L.length≤100000) :
 bn Tryz.prog 61 [fS 0 L.length 1] [b8 5 (il .u8 L)] (.tup [.one (.int .i64 ((ef L).1:Nat)),.one (.bool (ef L).2)]) [b8 5 (il .u8 L)]:=by
 refine cO Tryz.func61 ?_
 by_cases h0:L.length=0
 · have e:ef L=(0,false):=by
    rw [List.length_eq_zero_iff.1 h0];rfl
   rw [e]
   repeat' (first|refine zz ?_|refine zx (fun _=>?_) (fun _=>?_)|fail)
   show aC _ _ _ _ _ _ _ _;refine kV [0] ?_
   rfl
 · have hl:=hL ((L.length:Int)-1).toNat
   have ei:((L.length:Int)-1).toNat=L.length-1:=by omega
   by_cases hz:L.getD ((L.length:Int)-1).toNat 0=0
   · have e:ef L=(0,false):=by
      unfold ef
      rw [←ei,if_pos hz]
     rw [e]
     repeat' (first|refine zz ?_|refine zx (fun _=>?_) (fun _=>?_)|fail)
     show aC _ _ _ _ _ _ _ _;refine kV [0] ?_
     rfl
   · have hlt:=LW 8 (L.getD ((L.length:Int)-1).toNat 0) (by omega) (by show _<(256:Int);omega)
     have e:ef L=(8*L.length-1-tz 8 (L.getD ((L.length:Int)-1).toNat 0),true):=by
      unfold ef
      rw [←ei,if_neg hz]
     rw [e]
     repeat' (first|refine zz ?_|refine zx (fun _=>?_) (fun _=>?_)|fail)
     refine WX.cS (σ:=Nat × Int × Int) (fun s=>[(5,.one (.int .u8 s.2.1)),(4,.one (.int .i64 s.2.2))]) (fun s=>[b8 5 (il .u8 L)]) (fun s=>s.1≤8∧0<s.2.1∧s.2.1<256∧s.2.1<2^s.1∧(s.1:Int)-8≤s.2.2∧s.2.2≤1000000∧s.2.2-(tz s.1 s.2.1:Nat)=8*(L.length:Int)-1-(tz 8 (L.getD ((L.length:Int)-1).toNat 0):Nat)) (fun s=>s.1) (8,L.getD ((L.length:Int)-1).toNat 0,(L.length:Int)*8-1) ⟨by show 8≤8;omega,by show 0<L.getD _ 0;omega,hl.2,hl.2,by show((8:Nat):Int)-8≤(L.length:Int)*8-1;omega,by show(L.length:Int)*8-1≤1000000;omega,by show(L.length:Int)*8-1-(tz 8 (L.getD ((L.length:Int)-1).toNat 0):Nat)=_;omega⟩ (fun s _=>j5) (bh [0]) ?_
     intro s ⟨h1,h2,h3,h4,h5,h6,h7⟩ ih
     obtain⟨f,hf⟩:∃ f,s.1=f+1:=by
      cases hs:s.1 with
      | zero=>rw [hs]at h4;simp at h4;omega
      | succ f=>exact⟨f,rfl⟩
     rw [hf,tz]at h7
     by_cases hodd:s.2.1%2=0
     · rw [if_pos hodd]at h7
       have hq:s.2.1%2^1=0:=hodd
       have hd:0≤s.2.1/2^(1:Int).toNat∧s.2.1/2^(1:Int).toNat<256:=by show 0≤s.2.1/2∧s.2.1/2<256;omega
       repeat' (first|refine zz ?_|refine zx (fun _=>?_) (fun _=>?_)|fail)
       refine ih (f,s.2.1/2^(1:Int).toNat,s.2.2-1) _ _ _ (bh [0]) ⟨by show f≤8;omega,by show 0<s.2.1/2;omega,hd.2,?_,by show(f:Int)-8≤s.2.2-1;omega,by show s.2.2-1≤_;omega,?_⟩ (by show f<s.1;omega)
       · show s.2.1/2<2^f
         rw [hf,Int.pow_succ]at h4
         omega
       · show s.2.2-1-(tz f (s.2.1/2):Nat)=_
         omega
     · rw [if_neg hodd]at h7
       have hq:s.2.1%2^1=1:=by show s.2.1%2=1;omega
       have he:s.2.2=((8*L.length-1-tz 8 (L.getD ((L.length:Int)-1).toNat 0):Nat):Int):=by omega
       repeat' (first|refine zz ?_|refine zx (fun _=>?_) (fun _=>?_)|fail)
       show aC _ _ _ _ _ _ _ _;refine kV [0] ?_
       rw [he];rfl
theorem KO {L:List Int}(hL:dZ L) (hn:L.length≤100000) {n:Nat}(hln:L.length=n) {HS:aj} {i:Nat}(hi:HS[i]? = some (b8 5 (il .u8 L))) (hb:Nat.blt HS.length Mem.bound=true) :
 aH.Sound Tryz.prog ⟨61,[fS i n 1],HS,.tup [.one (.int .i64 ((ef L).1:Nat)),.one (.bool (ef L).2)],HS,[i]⟩:=by
 subst hln
 refine bV [i] [i] 0 (H9 hL hn) (by simp) (.flat hi .nil) (.flat .nil) (.flat .nil) rfl (.cons (ff (Nat.le_of_ble_eq_true rfl)) .nil) (.cons (cY ..) .nil) ((e_ rfl).ok _) ((e_ rfl).ay _) (.flat .nil) ?_ rfl (by simp only [bG,List.append_nil];exact aG hi) hb (.inl rfl)
 cases il .u8 L <;> simp [dP,ak.live,ak.own,b8]
theorem HU {L:List Int} {B:List Bool}(hB:B.length≤8*L.length) (hn:L.length≤100000) :
 bn Tryz.prog 62 [fS 0 L.length 1,.one (.int .i64 (B.length:Nat))] [b8 5 (il .u8 L)] (.one (.ptr 1 0)) [b8 5 (il .u8 L),br 2 L B 0 false,aM L]:=by
 refine cO Tryz.func62 ?_
 repeat' (first
  |(refine qz ?_;first
   |refine Qe (r:=L) (De rfl rfl rfl) ?_)
  |refine zz ?_|refine zx (fun _=>?_) (fun _=>?_)|fail)
 show aC _ _ _ _ _ _ _ _;refine kV [0,2,1] ?_
 rfl
theorem KD {L:List Int} {B:List Bool}(hB:B.length≤8*L.length) (hn:L.length≤100000) {n:Nat}(hln:L.length=n) {z:Int}(hz:z=(B.length:Nat)) {HS:aj} {i:Nat}(hi:HS[i]? = some (b8 5 (il .u8 L))) {N:Nat}(hN:HS.length=N) {HS':aj}(hh:HS++[br (N+1) L B 0 false,aM L]=HS') (hb:Nat.blt HS'.length Mem.bound=true) :
 aH.Sound Tryz.prog ⟨62,[fS i n 1,.one (.int .i64 z)],HS,.one (.ptr N 0),HS',[i]⟩:=by
 subst hln hz hN
 refine bV [i] [i] 2 (HU hB hn) (by simp) (.flat hi .nil) (.flat .nil) (.flat (.cons (by simp [ak.b7,XC.ok]) (.flat .nil))) rfl (.cons (ff (Nat.le_of_ble_eq_true rfl)) (.flat .nil)) (.cons (cY ..) (.flat .nil)) (by simp [XV.b7,XC.ok]) rfl (.flat (.cons rfl (.flat .nil))) ?_ rfl (by simp only [bG];rw [aG hi];exact hh) hb (.inl rfl)
 cases il .u8 L <;> simp [dP,ak.live,ak.own,b8]
end Go.Proofs.YtagpkhindehcbaaGreat
