/-
  A part of the proof: FieldV, PartIO, Escape.
-/
import Derived.Test.YtagpkhindehcbaaGreatKbI
import Derived.Test.YtagpkhindehcbaaGreatKbM
set_option linter.unusedVariables false
set_option linter.unusedSectionVars false
set_option linter.unusedSimpArgs false
namespace Go.Xm
variable [aC]
variable {P:Program}{ops:Array Oper}{nt nI:Nat}{al:bm}{hs:aq}{o:Oper}{l:List Oper}{L:List aG}{K:List Ab→bm→aq→Prop}{d:Nat}
theorem r8 {t:TypeId}{x ix:Operand}{len:Nat}{elem:TypeId}{cs:List XC}{k:IntKind}{z:Int}{c:XC}(hk:SK P ops nt L l ((d,.one c)::al) hs fun bs=>K (quiet::bs)) (ho:o.op = .index t x ix:=by exact rfl) (hw:aj ops (rg al) o=some true:=by exact rfl) (hd:o.dst=some d:=by exact rfl) (hlt:Nat.blt d nt=true:=by exact rfl)
 (ha:ag (rg al) x = .agg cs:=by exact rfl) (hb:ag (rg al) ix = .one (.int k z):=by exact rfl) (hu:aY P t (.array len elem):=by infer_instance) (hs':aT P elem 1:=by infer_instance) (hg:dw P elem:=by infer_instance) (hz:0≤z∧z<(len:Nat):=by omega) (hc:cs[z.toNat]? = some c:=by exact rfl):SK P ops nt L (o::l) al hs K:=
 kx hw hd hlt (by rw [ho];simp only [bk,oZ,ha,hb,hu.out,hs'.out,if_pos hz,j_,hg.out,Nat.mul_one,hc,Option.map_some,X1.pK]) hk
theorem GK {t:TypeId}{x ix:Operand}{len s:Nat}{elem:TypeId}{cs cs':List XC}{k:IntKind}{z:Int}(hk:SK P ops nt L l ((d,.agg cs')::al) hs fun bs=>K (quiet::bs)) (ho:o.op = .index t x ix:=by exact rfl) (hw:aj ops (rg al) o=some true:=by exact rfl) (hd:o.dst=some d:=by exact rfl) (hlt:Nat.blt d nt=true:=by exact rfl)
 (ha:ag (rg al) x = .agg cs:=by exact rfl) (hb:ag (rg al) ix = .one (.int k z):=by exact rfl) (hu:aY P t (.array len elem):=by infer_instance) (hs':aT P elem s:=by infer_instance) (hg:eE P elem:=by infer_instance) (hz:0≤z∧z<(len:Nat):=by omega) (hc:(cs.drop (z.toNat*s)).take s=cs':=by exact rfl):SK P ops nt L (o::l) al hs K:=
 kx hw hd hlt (by rw [ho];simp only [bk,oZ,ha,hb,hu.out,hs'.out,if_pos hz,j_,hg.out,hc,Option.map_some,X1.pK]) hk
theorem Fc {k:IntKind}{n:Nat}{q:Nat→Int}{a s:Nat}(h:a+s≤n):((ti k n q).drop a).take s=ti k s (fun i=>q (a+i)):=by
 apply List.ext_getElem?
 intro i
 rw [List.getElem?_take,List.getElem?_drop]
 by_cases hi:i<s
 · rw [if_pos hi,jW (by omega),jW hi]
 · rw [if_neg hi,List.getElem?_eq_none (by rw [bc];omega)]
theorem Ld {t:TypeId}{x ix:Operand}{len n:Nat}{elem:TypeId}{q:Nat→Int}{k k':IntKind}{z:Int}(hk:SK P ops nt L l ((d,.one (.int k' (q z.toNat)))::al) hs fun bs=>K (quiet::bs)) (ho:o.op = .index t x ix:=by exact rfl) (hw:aj ops (rg al) o=some true:=by exact rfl) (hd:o.dst=some d:=by exact rfl) (hlt:Nat.blt d nt=true:=by exact rfl)
 (ha:ag (rg al) x = .agg (ti k' n q):=by exact rfl) (hb:ag (rg al) ix = .one (.int k z):=by exact rfl) (hu:aY P t (.array len elem):=by infer_instance) (hs':aT P elem 1:=by infer_instance) (hg:dw P elem:=by infer_instance) (hz:0≤z∧z<(len:Nat):=by omega) (hln:len=n:=by exact rfl):SK P ops nt L (o::l) al hs K:=
 r8 hk ho hw hd hlt ha hb hu hs' hg hz (jW (by omega))
theorem wO {t:TypeId}{x ix:Operand}{len n s:Nat}{elem:TypeId}{q:Nat→Int}{k k':IntKind}{z:Int}(hk:SK P ops nt L l ((d,.agg (ti k' s fun i=>q (z.toNat*s+i)))::al) hs fun bs=>K (quiet::bs)) (ho:o.op = .index t x ix:=by exact rfl) (hw:aj ops (rg al) o=some true:=by exact rfl) (hd:o.dst=some d:=by exact rfl) (hlt:Nat.blt d nt=true:=by exact rfl)
 (ha:ag (rg al) x = .agg (ti k' n q):=by exact rfl) (hb:ag (rg al) ix = .one (.int k z):=by exact rfl) (hu:aY P t (.array len elem):=by infer_instance) (hs':aT P elem s:=by infer_instance) (hg:eE P elem:=by infer_instance) (hz:0≤z∧z<(len:Nat):=by omega) (hln:len*s=n:=by exact rfl):SK P ops nt L (o::l) al hs K:=
 GK hk ho hw hd hlt ha hb hu hs' hg hz (Fc (by
  have h1:z.toNat+1≤len:=by omega
  have h2:=Nat.mul_le_mul_right s h1
  rw [Nat.add_mul,Nat.one_mul]at h2
  omega))
theorem z_ {α : Type}{enc : α→List XC}{f : α→XC}(henc:∀ a,enc a = [f a]) (q:List α):fl enc q=q.map f:=by
 unfold fl
 induction q with
 | nil=>rfl
 | cons a q ih=>rw [List.flatMap_cons,ih,henc];rfl
theorem Ie {α : Type} [Inhabited α] {enc : α→List XC}{f : α→XC}(henc:∀ a,enc a = [f a]) {t:TypeId}{a:Operand}{i off:Nat}{e:TypeId}{q:List α}(hk:SK P ops nt L l ((d,.one (f (q.getD off default)))::al) hs fun bs=>K (⟨false,some i,[]⟩::bs)) (ho:o.op = .load t a:=by exact rfl) (ht:dw P t:=by infer_instance) (hw:aj ops (rg al) o=some true:=by exact rfl) (hd:o.dst=some d:=by exact rfl) (hlt:Nat.blt d nt=true:=by exact rfl)
 (ha:ag (rg al) a = .one (.ptr i off):=by exact rfl) (hi:hs[i]? = some (c8 e (fl enc q)):=by exact rfl) (hc:off<q.length:=by first|omega|(simp only [List.length_cons,List.length_nil,List.length_append];first|omega|decide)):SK P ops nt L (o::l) al hs K:=by
 have h1:c8 e (fl enc q) = .cells (fl enc q) e true false:=iu (fun hn=>by
  have:(fl enc q).length=0:=by rw [hn];rfl
  rw [z_ henc,List.length_map]at this
  omega)
 have h2:(fl enc q)[off]? = some (f (q.getD off default)):=by
  rw [z_ henc,List.getElem?_map,List.getD_eq_getElem?_getD,List.getElem?_eq_getElem hc];rfl
 exact f6 ho hw hd hlt ha (hi.trans (congrArg some h1)) h2 hk
end Go.Xm
namespace Go.Proofs.YtagpkhindehcbaaGreat
open Go.Xm
variable [aC]
abbrev fH:=List (Int × (Int × Int))
def HO (p:Int × Int):X1 := .one (cq p)
abbrev bp (M:fH):List (X1 × X1):=jb IT HO M
instance JN (M:fH):dT (.map (bp M)):=si (fun _=>rfl) (fun _=>rfl) M
abbrev cH (m:Nat) (cols rows:Int):ak := .cells [.int .i64 cols,.int .i64 rows,.map m] 167 false false
abbrev aM (cols rows:Int) (M:fH):aq:=[cH 1 cols rows,.map (bp M)]
theorem H2:kb Tryz.prog 47=some (.one (.cplx .f64 0 0)):=by kernel_rfl
theorem J2:kb Tryz.prog 47=some (HO (0,0)):=by
 rw [H2]
 unfold HO
 rw [dC]
instance Lw (a b:Int):bG (.tup [.one (.int .i64 a),.one (.int .i64 b)]):=fK rfl
structure gG (cols rows:Int):Prop where
 c0:1≤cols
 c1:cols≤8
 r0:1≤rows
 r1:rows≤8
theorem gG.mul {cols rows:Int}(h:gG cols rows):0≤cols*rows∧cols*rows≤64:=uX ⟨h.c0,h.c1⟩ ⟨by have:=h.r0;omega,h.r1⟩
theorem Fz (cols rows:Int) (h:gG cols rows):bq Tryz.prog 47 [.one (.int .i64 cols),.one (.int .i64 rows)] [] (.one (.ptr 0 0)) (aM cols rows []):=by
 have h1:=h.c0
 have h2:=h.c1
 have h3:=h.r0
 have h4:=h.r1
 refine cO Tryz.func47 ?_
 repeat' (first|refine zG ?_|refine zA ?_|refine cX (fun _=>?_) (fun _=>?_)|refine aS (fun _=>?_) (fun _=>?_)|refine zL ?_|refine zF ?_|fail)
 show aF _ _ _ _ _ _ _ _;refine kV [1,0] ?_
 rfl
def aQ (cols mb k:Int):Int × Int:=(2*(mb%cols)+k%2,2*(mb/cols)+k/2)
theorem fV {cols rows mb k:Int}(h:gG cols rows) (hm:0≤mb∧mb<cols*rows) (hk:0≤k∧k<4):0≤mb%cols∧mb%cols<cols∧0≤mb/cols∧mb/cols<rows:=by
 refine⟨Int.emod_nonneg _ (by have:=h.c0;omega),Int.emod_lt_of_pos _ (by have:=h.c0;omega),Int.ediv_nonneg hm.1 (by have:=h.c0;omega),?_⟩
 exact Int.ediv_lt_of_lt_mul (by have:=h.c0;omega) (by rw [Int.mul_comm];exact hm.2)
set_option maxRecDepth 10000 in
theorem zn {cols rows mb k:Int}{M:fH}(h:gG cols rows) (hm:0≤mb∧mb<cols*rows) (hk:0≤k∧k<4):bq Tryz.prog 85 [.one (.ptr 0 0),.one (.int .i64 mb),.one (.int .i64 k)] (aM cols rows M) (.tup [.one (.int .i64 (aQ cols mb k).1),.one (.int .i64 (aQ cols mb k).2)]) (aM cols rows M):=by
 have h1:=h.c0
 have h2:=h.c1
 have h3:=h.r0
 have h4:=h.r1
 have hb:=fV h hm hk
 have hmm:=h.mul
 refine cO Tryz.func85 ?_
 repeat' (first|refine zG ?_|refine zA ?_|refine cX (fun _=>?_) (fun _=>?_)|refine aS (fun _=>?_) (fun _=>?_)|refine zL ?_|refine zF ?_|fail)
 show aF _ _ _ _ _ _ _ _;refine kV [0,1] ?_
 rfl
theorem jg {f:FuncId}{more:List XV}(hm:∀ τ,dQ τ more more) (hmo:fz 2 more) {v:XV} [bG v] {cols rows:Int}{M:fH}(hc:bq Tryz.prog f (.one (.ptr 0 0)::more) (aM cols rows M) v (aM cols rows M)) {HS:aq}{i k:Nat}(hi:HS[i]? = some (cH k cols rows)) (hk:HS[k]? = some (.map (bp M))) (hd:i≠k) (hbd:Nat.blt HS.length Mem.bound=true) :
 aG.Sound Tryz.prog ⟨f,.one (.ptr i 0)::more,HS,v,HS,[]⟩:=by
 refine GJ [i,k] hc (by simp [hd]) ?_ ?_ (.cons (by simp [XV.cB,XC.ok]) hmo) (.cons rfl (hm _)) (bG.ok _) (bG.aw _) hbd rfl
 · exact .cons hi (.flat hk .nil)
 · exact .cons (by simp [ak.cB,XC.ok]) (.flat .nil)
theorem f7 {cols rows mb k:Int}{M:fH}(h:gG cols rows) (hm:0≤mb∧mb<cols*rows) (hk:0≤k∧k<4) {HS:aq}{i j:Nat}(hi:HS[i]? = some (cH j cols rows)) (hj:HS[j]? = some (.map (bp M))) (hd:i≠j) (hbd:Nat.blt HS.length Mem.bound=true) :
 aG.Sound Tryz.prog ⟨85,[.one (.ptr i 0),.one (.int .i64 mb),.one (.int .i64 k)],HS,.tup [.one (.int .i64 (aQ cols mb k).1),.one (.int .i64 (aQ cols mb k).2)],HS,[]⟩:=
 jg (fun _ => .flat (.flat .nil)) (.flat (.flat .nil)) (zn h hm hk) hi hj hd hbd
def jX (M:fH) (cols rows x y:Int):Option (Int × Int):=if x<0∨y<0∨2*cols≤x∨2*rows≤y then none else bW M (y*2*cols+x)
instance Lv (p:Int × Int) (b:Bool):bG (.tup [.one (cq p),.one (.bool b)]):=fK rfl
set_option maxRecDepth 10000 in
theorem vu {cols rows x y:Int}{M:fH}(h:gG cols rows) (hx : -1≤x∧x≤100) (hy : -1≤y∧y≤100):bq Tryz.prog 86 [.one (.ptr 0 0),.one (.int .i64 x),.one (.int .i64 y)] (aM cols rows M) (.tup [.one (cq ((jX M cols rows x y).getD (0,0))),.one (.bool (jX M cols rows x y).isSome)]) (aM cols rows M):=by
 have h1:=h.c0
 have h2:=h.c1
 have h3:=h.r0
 have h4:=h.r1
 unfold jX
 by_cases hin:x<0∨y<0∨2*cols≤x∨2*rows≤y
 · rw [if_pos hin]
   have e:cq ((none:Option (Int × Int)).getD (0,0)) = .cplx .f64 0 0:=dC
   rw [e]
   refine cO Tryz.func86 ?_
   repeat' (first|refine zG ?_|refine zA ?_|refine cX (fun _=>?_) (fun _=>?_)|refine aS (fun _=>?_) (fun _=>?_)|refine zL ?_|refine zF ?_|fail)
   all_goals
    first
     | (exfalso;omega)
     | (show aF _ _ _ _ _ _ _ _;refine kV [0,1] ?_;rfl)
 · rw [if_neg hin]
   have hp:0≤y*2*cols∧y*2*cols≤1600:=⟨Int.mul_nonneg (by omega) (by omega),by
    have:=Int.mul_le_mul (show y*2≤200 by omega) h2 (by omega) (by decide)
    omega⟩
   refine cO Tryz.func86 ?_
   repeat' (first
    |(refine qz ?_;first
     |refine AD rfl rfl rfl rfl ri J2 rfl rfl rfl ?_)
    |refine zG ?_|refine zA ?_|refine cX (fun _=>?_) (fun _=>?_)|refine aS (fun _=>?_) (fun _=>?_)|refine zL ?_|refine zF ?_|fail)
   show aF _ _ _ _ _ _ _ _;refine kV [0,1] ?_
   rfl
def aX (M:fH) (cols mb k:Int) (v:Int × Int):fH:=mK M ((aQ cols mb k).2*2*cols+(aQ cols mb k).1) v
set_option maxRecDepth 10000 in
theorem FB {cols rows mb k:Int}{M:fH}(h:gG cols rows) (hm:0≤mb∧mb<cols*rows) (hk:0≤k∧k<4) (v:Int × Int):bq Tryz.prog 56 [.one (.ptr 0 0),.one (.int .i64 mb),.one (.int .i64 k),.one (cq v)] (aM cols rows M) (.tup []) (aM cols rows (aX M cols mb k v)):=by
 have h1:=h.c0
 have h2:=h.c1
 have h3:=h.r0
 have h4:=h.r1
 have hb:=fV h hm hk
 have hmm:=h.mul
 have hp:0≤(aQ cols mb k).2∧(aQ cols mb k).2≤17:=by unfold aQ;simp only [];omega
 have hq:0≤(aQ cols mb k).1∧(aQ cols mb k).1≤17:=by unfold aQ;simp only [];omega
 have hpp:0≤(aQ cols mb k).2*2*cols∧(aQ cols mb k).2*2*cols≤1600:=⟨Int.mul_nonneg (by omega) (by omega),by
  have:=Int.mul_le_mul (show(aQ cols mb k).2*2≤200 by omega) h2 (by omega) (by decide)
  omega⟩
 refine cO Tryz.func56 ?_
 repeat' (first
  |(refine qz ?_;first
   |refine cl ?_ (hi:=by exact f7 (M:=M) h hm hk rfl rfl (by decide) rfl)
   |refine xu (vc:=HO) rfl rfl rfl ri rfl rfl rfl rfl (by first|(simp only [List.set_cons_succ,List.set_cons_zero];exact rfl)|exact rfl) ?_)
  |refine zG ?_|refine zA ?_|refine cX (fun _=>?_) (fun _=>?_)|refine aS (fun _=>?_) (fun _=>?_)|refine zL ?_|refine zF ?_|fail)
 show aF _ _ _ _ _ _ _ _;refine kV [0,1] ?_
 rfl
theorem dc {cols rows mb k:Int}{M:fH}(h:gG cols rows) (hm:0≤mb∧mb<cols*rows) (hk:0≤k∧k<4) {v:Int × Int}{HS:aq}{i j:Nat}(hi:HS[i]? = some (cH j cols rows)) (hj:HS[j]? = some (.map (bp M))) (hd:i≠j) {HS':aq}(hh:HS.set j (.map (bp (aX M cols mb k v)))=HS') (hbd:Nat.blt HS'.length Mem.bound=true) :
 aG.Sound Tryz.prog ⟨56,[.one (.ptr i 0),.one (.int .i64 mb),.one (.int .i64 k),.one (cq v)],HS,.tup [],HS',[j]⟩:=by
 have hh':bM HS [i,j] [cH j cols rows,.map (bp (aX M cols mb k v))]=HS':=by
  subst hh
  simp only [bM,List.append_nil]
  rw [aK hi]
 refine cj [i,j] [j] 0 (FB (M:=M) h hm hk v) (by simp [hd]) ?_ ?_ ?_ rfl (.cons (by simp [XV.cB,XC.ok]) (.flat (.flat (.cons trivial .nil)))) (.cons rfl (.flat (.flat (.cons rfl .nil)))) (bG.ok _) (bG.aw _) ?_ rfl rfl hh' hbd (.inr fun q hq hj=>?_)
 · exact .cons hi (.flat hj .nil)
 · exact .cons (by simp [ak.cB,XC.ok]) (.flat .nil)
 · exact .cons (by simp [ak.cB,XC.ok]) (.flat .nil)
 · exact .cons rfl (.flat .nil)
 · subst hh
   rw [List.getElem?_set,if_neg (fun h=>hj (by rw [h];exact List.mem_singleton.2 rfl))]
def cg (M:fH):Prop:=∀ key v,bW M key=some v→bB v
theorem qj:cg []:=fun key v h=>by cases h
theorem Ck {M:fH}(h:cg M) {key:Int}{v:Int × Int}(hv:bB v):cg (mK M key v):=fun key' v' h'=>by
 rw [gS]at h'
 split at h'
 · cases h';exact hv
 · exact h key' v' h'
def nj (la lb lc:Option (Int × Int)):Int × Int:=match la,lb,lc with
 | some a,some b,some c=>I2 a b c
 | some a,_,_=>a
 | none,some b,_=>b
 | none,none,some c=>c
 | none,none,none=>(0,0)
def cf (M:fH) (cols rows mb k:Int):Int × Int:=
 nj (jX M cols rows ((aQ cols mb k).1-1) (aQ cols mb k).2) (jX M cols rows (aQ cols mb k).1 ((aQ cols mb k).2-1)) (jX M cols rows ((aQ cols mb k).1+1) ((aQ cols mb k).2-1))
def gk (p:Int × Int):List XC:=[cq p]
instance:pU gk 1:=⟨fun _=>rfl,fun _=>rfl,by decide⟩
theorem iU {M:fH}(h:cg M) {cols rows x y:Int}{v:Int × Int}(hv:jX M cols rows x y=some v):bB v:=by
 unfold jX at hv
 split at hv
 · cases hv
 · exact h _ _ hv
section
variable {cols rows mb k:Int}{M:fH}(h:gG cols rows) (hm:0≤mb∧mb<cols*rows) (hk:0≤k∧k<4)
include h hm hk
set_option maxRecDepth 10000 in
set_option maxHeartbeats 4000000 in
theorem Fp (yt1:∀ v,none=some v→bB v) (yt2:∀ v,none=some v→bB v) (yt3:∀ v,none=some v→bB v) (c1:bq Tryz.prog 86 [.one (.ptr 0 0),.one (.int .i64 ((aQ cols mb k).1-1)),.one (.int .i64 ((aQ cols mb k).2))] (aM cols rows M) (.tup [.one (cq ((none:Option (Int × Int)).getD (0,0))),.one (.bool ((none:Option (Int × Int)).isSome))]) (aM cols rows M)) (c2:bq Tryz.prog 86 [.one (.ptr 0 0),.one (.int .i64 ((aQ cols mb k).1)),.one (.int .i64 ((aQ cols mb k).2-1))] (aM cols rows M) (.tup [.one (cq ((none:Option (Int × Int)).getD (0,0))),.one (.bool ((none:Option (Int × Int)).isSome))]) (aM cols rows M)) (c3:bq Tryz.prog 86 [.one (.ptr 0 0),.one (.int .i64 ((aQ cols mb k).1+1)),.one (.int .i64 ((aQ cols mb k).2-1))] (aM cols rows M) (.tup [.one (cq ((none:Option (Int × Int)).getD (0,0))),.one (.bool ((none:Option (Int × Int)).isSome))]) (aM cols rows M)):bq Tryz.prog 55 [.one (.ptr 0 0),.one (.int .i64 mb),.one (.int .i64 k)] (aM cols rows M) (.one (cq (nj none none none))) (aM cols rows M):=by
 have h1:=h.c0
 have h2:=h.c1
 have h3:=h.r0
 have h4:=h.r1
 have hb:=fV h hm hk
 have hmm:=h.mul
 have hp:0≤(aQ cols mb k).2∧(aQ cols mb k).2≤17:=by unfold aQ;simp only [];omega
 have hq:0≤(aQ cols mb k).1∧(aQ cols mb k).1≤17:=by unfold aQ;simp only [];omega
 refine cO Tryz.func55 ?_
 repeat' (first
  |(refine qz ?_;first
   |refine cl ?_ (hi:=by exact f7 (M:=M) h hm hk rfl rfl (by decide) rfl))
  |refine zG ?_|refine zA ?_|refine cX (fun _=>?_) (fun _=>?_)|refine aS (fun _=>?_) (fun _=>?_)|refine zL ?_|refine zF ?_|fail)
 refine WX.dt rfl ?_
 repeat' (first
  |(refine qz ?_;first
   |refine GK ?_
   |refine cl ?_ (hi:=by exact jg (fun _ => .flat (.flat .nil)) (.flat (.flat .nil)) c1 rfl rfl (by decide) rfl)
   |refine cl ?_ (hi:=by exact jg (fun _ => .flat (.flat .nil)) (.flat (.flat .nil)) c2 rfl rfl (by decide) rfl)
   |refine cl ?_ (hi:=by exact jg (fun _ => .flat (.flat .nil)) (.flat (.flat .nil)) c3 rfl rfl (by decide) rfl)
   |refine pX (enc:=gk) ?_
   |refine tD (enc:=gk) (i:=2) (n:=0) (q:=[]) ?_
   |refine tD (enc:=gk) ?_
   |refine Ie (enc:=gk) (f:=cq) (fun _=>rfl) ?_
   |refine cl ?_ (hi:=by exact gR (yt1 _ rfl) (yt2 _ rfl) (yt3 _ rfl) rfl))
  |refine zG ?_|refine zA ?_|refine cX (fun _=>?_) (fun _=>?_)|refine aS (fun _=>?_) (fun _=>?_)|refine WX.loop ?_|refine WX.round ?_|refine zL ?_|refine zF ?_|fail)
 show aF _ _ _ _ _ _ _ _;refine kV [0,1] ?_
 exact congrArg XV.one dC.symm
set_option maxRecDepth 10000 in
set_option maxHeartbeats 4000000 in
theorem Fq (c:Int × Int) (yt1:∀ v,none=some v→bB v) (yt2:∀ v,none=some v→bB v) (yt3:∀ v,(some c)=some v→bB v) (c1:bq Tryz.prog 86 [.one (.ptr 0 0),.one (.int .i64 ((aQ cols mb k).1-1)),.one (.int .i64 ((aQ cols mb k).2))] (aM cols rows M) (.tup [.one (cq ((none:Option (Int × Int)).getD (0,0))),.one (.bool ((none:Option (Int × Int)).isSome))]) (aM cols rows M)) (c2:bq Tryz.prog 86 [.one (.ptr 0 0),.one (.int .i64 ((aQ cols mb k).1)),.one (.int .i64 ((aQ cols mb k).2-1))] (aM cols rows M) (.tup [.one (cq ((none:Option (Int × Int)).getD (0,0))),.one (.bool ((none:Option (Int × Int)).isSome))]) (aM cols rows M)) (c3:bq Tryz.prog 86 [.one (.ptr 0 0),.one (.int .i64 ((aQ cols mb k).1+1)),.one (.int .i64 ((aQ cols mb k).2-1))] (aM cols rows M) (.tup [.one (cq (((some c):Option (Int × Int)).getD (0,0))),.one (.bool (((some c):Option (Int × Int)).isSome))]) (aM cols rows M)):bq Tryz.prog 55 [.one (.ptr 0 0),.one (.int .i64 mb),.one (.int .i64 k)] (aM cols rows M) (.one (cq (nj none none (some c)))) (aM cols rows M):=by
 have h1:=h.c0
 have h2:=h.c1
 have h3:=h.r0
 have h4:=h.r1
 have hb:=fV h hm hk
 have hmm:=h.mul
 have hp:0≤(aQ cols mb k).2∧(aQ cols mb k).2≤17:=by unfold aQ;simp only [];omega
 have hq:0≤(aQ cols mb k).1∧(aQ cols mb k).1≤17:=by unfold aQ;simp only [];omega
 refine cO Tryz.func55 ?_
 repeat' (first
  |(refine qz ?_;first
   |refine cl ?_ (hi:=by exact f7 (M:=M) h hm hk rfl rfl (by decide) rfl))
  |refine zG ?_|refine zA ?_|refine cX (fun _=>?_) (fun _=>?_)|refine aS (fun _=>?_) (fun _=>?_)|refine zL ?_|refine zF ?_|fail)
 refine WX.dt rfl ?_
 repeat' (first
  |(refine qz ?_;first
   |refine GK ?_
   |refine cl ?_ (hi:=by exact jg (fun _ => .flat (.flat .nil)) (.flat (.flat .nil)) c1 rfl rfl (by decide) rfl)
   |refine cl ?_ (hi:=by exact jg (fun _ => .flat (.flat .nil)) (.flat (.flat .nil)) c2 rfl rfl (by decide) rfl)
   |refine cl ?_ (hi:=by exact jg (fun _ => .flat (.flat .nil)) (.flat (.flat .nil)) c3 rfl rfl (by decide) rfl)
   |refine pX (enc:=gk) ?_
   |refine tD (enc:=gk) (i:=2) (n:=0) (q:=[]) ?_
   |refine tD (enc:=gk) ?_
   |refine Ie (enc:=gk) (f:=cq) (fun _=>rfl) ?_
   |refine cl ?_ (hi:=by exact gR (yt1 _ rfl) (yt2 _ rfl) (yt3 _ rfl) rfl))
  |refine zG ?_|refine zA ?_|refine cX (fun _=>?_) (fun _=>?_)|refine aS (fun _=>?_) (fun _=>?_)|refine WX.loop ?_|refine WX.round ?_|refine zL ?_|refine zF ?_|fail)
 show aF _ _ _ _ _ _ _ _;refine kV [0,1] ?_
 exact congrArg XV.one rfl
set_option maxRecDepth 10000 in
set_option maxHeartbeats 4000000 in
theorem Fs (b:Int × Int) (yt1:∀ v,none=some v→bB v) (yt2:∀ v,(some b)=some v→bB v) (yt3:∀ v,none=some v→bB v) (c1:bq Tryz.prog 86 [.one (.ptr 0 0),.one (.int .i64 ((aQ cols mb k).1-1)),.one (.int .i64 ((aQ cols mb k).2))] (aM cols rows M) (.tup [.one (cq ((none:Option (Int × Int)).getD (0,0))),.one (.bool ((none:Option (Int × Int)).isSome))]) (aM cols rows M)) (c2:bq Tryz.prog 86 [.one (.ptr 0 0),.one (.int .i64 ((aQ cols mb k).1)),.one (.int .i64 ((aQ cols mb k).2-1))] (aM cols rows M) (.tup [.one (cq (((some b):Option (Int × Int)).getD (0,0))),.one (.bool (((some b):Option (Int × Int)).isSome))]) (aM cols rows M)) (c3:bq Tryz.prog 86 [.one (.ptr 0 0),.one (.int .i64 ((aQ cols mb k).1+1)),.one (.int .i64 ((aQ cols mb k).2-1))] (aM cols rows M) (.tup [.one (cq ((none:Option (Int × Int)).getD (0,0))),.one (.bool ((none:Option (Int × Int)).isSome))]) (aM cols rows M)):bq Tryz.prog 55 [.one (.ptr 0 0),.one (.int .i64 mb),.one (.int .i64 k)] (aM cols rows M) (.one (cq (nj none (some b) none))) (aM cols rows M):=by
 have h1:=h.c0
 have h2:=h.c1
 have h3:=h.r0
 have h4:=h.r1
 have hb:=fV h hm hk
 have hmm:=h.mul
 have hp:0≤(aQ cols mb k).2∧(aQ cols mb k).2≤17:=by unfold aQ;simp only [];omega
 have hq:0≤(aQ cols mb k).1∧(aQ cols mb k).1≤17:=by unfold aQ;simp only [];omega
 refine cO Tryz.func55 ?_
 repeat' (first
  |(refine qz ?_;first
   |refine cl ?_ (hi:=by exact f7 (M:=M) h hm hk rfl rfl (by decide) rfl))
  |refine zG ?_|refine zA ?_|refine cX (fun _=>?_) (fun _=>?_)|refine aS (fun _=>?_) (fun _=>?_)|refine zL ?_|refine zF ?_|fail)
 refine WX.dt rfl ?_
 repeat' (first
  |(refine qz ?_;first
   |refine GK ?_
   |refine cl ?_ (hi:=by exact jg (fun _ => .flat (.flat .nil)) (.flat (.flat .nil)) c1 rfl rfl (by decide) rfl)
   |refine cl ?_ (hi:=by exact jg (fun _ => .flat (.flat .nil)) (.flat (.flat .nil)) c2 rfl rfl (by decide) rfl)
   |refine cl ?_ (hi:=by exact jg (fun _ => .flat (.flat .nil)) (.flat (.flat .nil)) c3 rfl rfl (by decide) rfl)
   |refine pX (enc:=gk) ?_
   |refine tD (enc:=gk) (i:=2) (n:=0) (q:=[]) ?_
   |refine tD (enc:=gk) ?_
   |refine Ie (enc:=gk) (f:=cq) (fun _=>rfl) ?_
   |refine cl ?_ (hi:=by exact gR (yt1 _ rfl) (yt2 _ rfl) (yt3 _ rfl) rfl))
  |refine zG ?_|refine zA ?_|refine cX (fun _=>?_) (fun _=>?_)|refine aS (fun _=>?_) (fun _=>?_)|refine WX.loop ?_|refine WX.round ?_|refine zL ?_|refine zF ?_|fail)
 show aF _ _ _ _ _ _ _ _;refine kV [0,1] ?_
 exact congrArg XV.one rfl
set_option maxRecDepth 10000 in
set_option maxHeartbeats 4000000 in
theorem Ft (b c:Int × Int) (yt1:∀ v,none=some v→bB v) (yt2:∀ v,(some b)=some v→bB v) (yt3:∀ v,(some c)=some v→bB v) (c1:bq Tryz.prog 86 [.one (.ptr 0 0),.one (.int .i64 ((aQ cols mb k).1-1)),.one (.int .i64 ((aQ cols mb k).2))] (aM cols rows M) (.tup [.one (cq ((none:Option (Int × Int)).getD (0,0))),.one (.bool ((none:Option (Int × Int)).isSome))]) (aM cols rows M)) (c2:bq Tryz.prog 86 [.one (.ptr 0 0),.one (.int .i64 ((aQ cols mb k).1)),.one (.int .i64 ((aQ cols mb k).2-1))] (aM cols rows M) (.tup [.one (cq (((some b):Option (Int × Int)).getD (0,0))),.one (.bool (((some b):Option (Int × Int)).isSome))]) (aM cols rows M)) (c3:bq Tryz.prog 86 [.one (.ptr 0 0),.one (.int .i64 ((aQ cols mb k).1+1)),.one (.int .i64 ((aQ cols mb k).2-1))] (aM cols rows M) (.tup [.one (cq (((some c):Option (Int × Int)).getD (0,0))),.one (.bool (((some c):Option (Int × Int)).isSome))]) (aM cols rows M)):bq Tryz.prog 55 [.one (.ptr 0 0),.one (.int .i64 mb),.one (.int .i64 k)] (aM cols rows M) (.one (cq (nj none (some b) (some c)))) (aM cols rows M):=by
 have h1:=h.c0
 have h2:=h.c1
 have h3:=h.r0
 have h4:=h.r1
 have hb:=fV h hm hk
 have hmm:=h.mul
 have hp:0≤(aQ cols mb k).2∧(aQ cols mb k).2≤17:=by unfold aQ;simp only [];omega
 have hq:0≤(aQ cols mb k).1∧(aQ cols mb k).1≤17:=by unfold aQ;simp only [];omega
 refine cO Tryz.func55 ?_
 repeat' (first
  |(refine qz ?_;first
   |refine cl ?_ (hi:=by exact f7 (M:=M) h hm hk rfl rfl (by decide) rfl))
  |refine zG ?_|refine zA ?_|refine cX (fun _=>?_) (fun _=>?_)|refine aS (fun _=>?_) (fun _=>?_)|refine zL ?_|refine zF ?_|fail)
 refine WX.dt rfl ?_
 repeat' (first
  |(refine qz ?_;first
   |refine GK ?_
   |refine cl ?_ (hi:=by exact jg (fun _ => .flat (.flat .nil)) (.flat (.flat .nil)) c1 rfl rfl (by decide) rfl)
   |refine cl ?_ (hi:=by exact jg (fun _ => .flat (.flat .nil)) (.flat (.flat .nil)) c2 rfl rfl (by decide) rfl)
   |refine cl ?_ (hi:=by exact jg (fun _ => .flat (.flat .nil)) (.flat (.flat .nil)) c3 rfl rfl (by decide) rfl)
   |refine pX (enc:=gk) ?_
   |refine tD (enc:=gk) (i:=2) (n:=0) (q:=[]) ?_
   |refine tD (enc:=gk) ?_
   |refine Ie (enc:=gk) (f:=cq) (fun _=>rfl) ?_
   |refine cl ?_ (hi:=by exact gR (yt1 _ rfl) (yt2 _ rfl) (yt3 _ rfl) rfl))
  |refine zG ?_|refine zA ?_|refine cX (fun _=>?_) (fun _=>?_)|refine aS (fun _=>?_) (fun _=>?_)|refine WX.loop ?_|refine WX.round ?_|refine zL ?_|refine zF ?_|fail)
 show aF _ _ _ _ _ _ _ _;refine kV [0,1] ?_
 exact congrArg XV.one rfl
set_option maxRecDepth 10000 in
set_option maxHeartbeats 4000000 in
theorem Fu (a:Int × Int) (yt1:∀ v,(some a)=some v→bB v) (yt2:∀ v,none=some v→bB v) (yt3:∀ v,none=some v→bB v) (c1:bq Tryz.prog 86 [.one (.ptr 0 0),.one (.int .i64 ((aQ cols mb k).1-1)),.one (.int .i64 ((aQ cols mb k).2))] (aM cols rows M) (.tup [.one (cq (((some a):Option (Int × Int)).getD (0,0))),.one (.bool (((some a):Option (Int × Int)).isSome))]) (aM cols rows M)) (c2:bq Tryz.prog 86 [.one (.ptr 0 0),.one (.int .i64 ((aQ cols mb k).1)),.one (.int .i64 ((aQ cols mb k).2-1))] (aM cols rows M) (.tup [.one (cq ((none:Option (Int × Int)).getD (0,0))),.one (.bool ((none:Option (Int × Int)).isSome))]) (aM cols rows M)) (c3:bq Tryz.prog 86 [.one (.ptr 0 0),.one (.int .i64 ((aQ cols mb k).1+1)),.one (.int .i64 ((aQ cols mb k).2-1))] (aM cols rows M) (.tup [.one (cq ((none:Option (Int × Int)).getD (0,0))),.one (.bool ((none:Option (Int × Int)).isSome))]) (aM cols rows M)):bq Tryz.prog 55 [.one (.ptr 0 0),.one (.int .i64 mb),.one (.int .i64 k)] (aM cols rows M) (.one (cq (nj (some a) none none))) (aM cols rows M):=by
 have h1:=h.c0
 have h2:=h.c1
 have h3:=h.r0
 have h4:=h.r1
 have hb:=fV h hm hk
 have hmm:=h.mul
 have hp:0≤(aQ cols mb k).2∧(aQ cols mb k).2≤17:=by unfold aQ;simp only [];omega
 have hq:0≤(aQ cols mb k).1∧(aQ cols mb k).1≤17:=by unfold aQ;simp only [];omega
 refine cO Tryz.func55 ?_
 repeat' (first
  |(refine qz ?_;first
   |refine cl ?_ (hi:=by exact f7 (M:=M) h hm hk rfl rfl (by decide) rfl))
  |refine zG ?_|refine zA ?_|refine cX (fun _=>?_) (fun _=>?_)|refine aS (fun _=>?_) (fun _=>?_)|refine zL ?_|refine zF ?_|fail)
 refine WX.dt rfl ?_
 repeat' (first
  |(refine qz ?_;first
   |refine GK ?_
   |refine cl ?_ (hi:=by exact jg (fun _ => .flat (.flat .nil)) (.flat (.flat .nil)) c1 rfl rfl (by decide) rfl)
   |refine cl ?_ (hi:=by exact jg (fun _ => .flat (.flat .nil)) (.flat (.flat .nil)) c2 rfl rfl (by decide) rfl)
   |refine cl ?_ (hi:=by exact jg (fun _ => .flat (.flat .nil)) (.flat (.flat .nil)) c3 rfl rfl (by decide) rfl)
   |refine pX (enc:=gk) ?_
   |refine tD (enc:=gk) (i:=2) (n:=0) (q:=[]) ?_
   |refine tD (enc:=gk) ?_
   |refine Ie (enc:=gk) (f:=cq) (fun _=>rfl) ?_
   |refine cl ?_ (hi:=by exact gR (yt1 _ rfl) (yt2 _ rfl) (yt3 _ rfl) rfl))
  |refine zG ?_|refine zA ?_|refine cX (fun _=>?_) (fun _=>?_)|refine aS (fun _=>?_) (fun _=>?_)|refine WX.loop ?_|refine WX.round ?_|refine zL ?_|refine zF ?_|fail)
 show aF _ _ _ _ _ _ _ _;refine kV [0,1] ?_
 exact congrArg XV.one rfl
set_option maxRecDepth 10000 in
set_option maxHeartbeats 4000000 in
theorem Fv (a c:Int × Int) (yt1:∀ v,(some a)=some v→bB v) (yt2:∀ v,none=some v→bB v) (yt3:∀ v,(some c)=some v→bB v) (c1:bq Tryz.prog 86 [.one (.ptr 0 0),.one (.int .i64 ((aQ cols mb k).1-1)),.one (.int .i64 ((aQ cols mb k).2))] (aM cols rows M) (.tup [.one (cq (((some a):Option (Int × Int)).getD (0,0))),.one (.bool (((some a):Option (Int × Int)).isSome))]) (aM cols rows M)) (c2:bq Tryz.prog 86 [.one (.ptr 0 0),.one (.int .i64 ((aQ cols mb k).1)),.one (.int .i64 ((aQ cols mb k).2-1))] (aM cols rows M) (.tup [.one (cq ((none:Option (Int × Int)).getD (0,0))),.one (.bool ((none:Option (Int × Int)).isSome))]) (aM cols rows M)) (c3:bq Tryz.prog 86 [.one (.ptr 0 0),.one (.int .i64 ((aQ cols mb k).1+1)),.one (.int .i64 ((aQ cols mb k).2-1))] (aM cols rows M) (.tup [.one (cq (((some c):Option (Int × Int)).getD (0,0))),.one (.bool (((some c):Option (Int × Int)).isSome))]) (aM cols rows M)):bq Tryz.prog 55 [.one (.ptr 0 0),.one (.int .i64 mb),.one (.int .i64 k)] (aM cols rows M) (.one (cq (nj (some a) none (some c)))) (aM cols rows M):=by
 have h1:=h.c0
 have h2:=h.c1
 have h3:=h.r0
 have h4:=h.r1
 have hb:=fV h hm hk
 have hmm:=h.mul
 have hp:0≤(aQ cols mb k).2∧(aQ cols mb k).2≤17:=by unfold aQ;simp only [];omega
 have hq:0≤(aQ cols mb k).1∧(aQ cols mb k).1≤17:=by unfold aQ;simp only [];omega
 refine cO Tryz.func55 ?_
 repeat' (first
  |(refine qz ?_;first
   |refine cl ?_ (hi:=by exact f7 (M:=M) h hm hk rfl rfl (by decide) rfl))
  |refine zG ?_|refine zA ?_|refine cX (fun _=>?_) (fun _=>?_)|refine aS (fun _=>?_) (fun _=>?_)|refine zL ?_|refine zF ?_|fail)
 refine WX.dt rfl ?_
 repeat' (first
  |(refine qz ?_;first
   |refine GK ?_
   |refine cl ?_ (hi:=by exact jg (fun _ => .flat (.flat .nil)) (.flat (.flat .nil)) c1 rfl rfl (by decide) rfl)
   |refine cl ?_ (hi:=by exact jg (fun _ => .flat (.flat .nil)) (.flat (.flat .nil)) c2 rfl rfl (by decide) rfl)
   |refine cl ?_ (hi:=by exact jg (fun _ => .flat (.flat .nil)) (.flat (.flat .nil)) c3 rfl rfl (by decide) rfl)
   |refine pX (enc:=gk) ?_
   |refine tD (enc:=gk) (i:=2) (n:=0) (q:=[]) ?_
   |refine tD (enc:=gk) ?_
   |refine Ie (enc:=gk) (f:=cq) (fun _=>rfl) ?_
   |refine cl ?_ (hi:=by exact gR (yt1 _ rfl) (yt2 _ rfl) (yt3 _ rfl) rfl))
  |refine zG ?_|refine zA ?_|refine cX (fun _=>?_) (fun _=>?_)|refine aS (fun _=>?_) (fun _=>?_)|refine WX.loop ?_|refine WX.round ?_|refine zL ?_|refine zF ?_|fail)
 show aF _ _ _ _ _ _ _ _;refine kV [0,1] ?_
 exact congrArg XV.one rfl
set_option maxRecDepth 10000 in
set_option maxHeartbeats 4000000 in
theorem Fw (a b:Int × Int) (yt1:∀ v,(some a)=some v→bB v) (yt2:∀ v,(some b)=some v→bB v) (yt3:∀ v,none=some v→bB v) (c1:bq Tryz.prog 86 [.one (.ptr 0 0),.one (.int .i64 ((aQ cols mb k).1-1)),.one (.int .i64 ((aQ cols mb k).2))] (aM cols rows M) (.tup [.one (cq (((some a):Option (Int × Int)).getD (0,0))),.one (.bool (((some a):Option (Int × Int)).isSome))]) (aM cols rows M)) (c2:bq Tryz.prog 86 [.one (.ptr 0 0),.one (.int .i64 ((aQ cols mb k).1)),.one (.int .i64 ((aQ cols mb k).2-1))] (aM cols rows M) (.tup [.one (cq (((some b):Option (Int × Int)).getD (0,0))),.one (.bool (((some b):Option (Int × Int)).isSome))]) (aM cols rows M)) (c3:bq Tryz.prog 86 [.one (.ptr 0 0),.one (.int .i64 ((aQ cols mb k).1+1)),.one (.int .i64 ((aQ cols mb k).2-1))] (aM cols rows M) (.tup [.one (cq ((none:Option (Int × Int)).getD (0,0))),.one (.bool ((none:Option (Int × Int)).isSome))]) (aM cols rows M)):bq Tryz.prog 55 [.one (.ptr 0 0),.one (.int .i64 mb),.one (.int .i64 k)] (aM cols rows M) (.one (cq (nj (some a) (some b) none))) (aM cols rows M):=by
 have h1:=h.c0
 have h2:=h.c1
 have h3:=h.r0
 have h4:=h.r1
 have hb:=fV h hm hk
 have hmm:=h.mul
 have hp:0≤(aQ cols mb k).2∧(aQ cols mb k).2≤17:=by unfold aQ;simp only [];omega
 have hq:0≤(aQ cols mb k).1∧(aQ cols mb k).1≤17:=by unfold aQ;simp only [];omega
 refine cO Tryz.func55 ?_
 repeat' (first
  |(refine qz ?_;first
   |refine cl ?_ (hi:=by exact f7 (M:=M) h hm hk rfl rfl (by decide) rfl))
  |refine zG ?_|refine zA ?_|refine cX (fun _=>?_) (fun _=>?_)|refine aS (fun _=>?_) (fun _=>?_)|refine zL ?_|refine zF ?_|fail)
 refine WX.dt rfl ?_
 repeat' (first
  |(refine qz ?_;first
   |refine GK ?_
   |refine cl ?_ (hi:=by exact jg (fun _ => .flat (.flat .nil)) (.flat (.flat .nil)) c1 rfl rfl (by decide) rfl)
   |refine cl ?_ (hi:=by exact jg (fun _ => .flat (.flat .nil)) (.flat (.flat .nil)) c2 rfl rfl (by decide) rfl)
   |refine cl ?_ (hi:=by exact jg (fun _ => .flat (.flat .nil)) (.flat (.flat .nil)) c3 rfl rfl (by decide) rfl)
   |refine pX (enc:=gk) ?_
   |refine tD (enc:=gk) (i:=2) (n:=0) (q:=[]) ?_
   |refine tD (enc:=gk) ?_
   |refine Ie (enc:=gk) (f:=cq) (fun _=>rfl) ?_
   |refine cl ?_ (hi:=by exact gR (yt1 _ rfl) (yt2 _ rfl) (yt3 _ rfl) rfl))
  |refine zG ?_|refine zA ?_|refine cX (fun _=>?_) (fun _=>?_)|refine aS (fun _=>?_) (fun _=>?_)|refine WX.loop ?_|refine WX.round ?_|refine zL ?_|refine zF ?_|fail)
 show aF _ _ _ _ _ _ _ _;refine kV [0,1] ?_
 exact congrArg XV.one rfl
set_option maxRecDepth 10000 in
set_option maxHeartbeats 4000000 in
theorem Fx (a b c:Int × Int) (yt1:∀ v,(some a)=some v→bB v) (yt2:∀ v,(some b)=some v→bB v) (yt3:∀ v,(some c)=some v→bB v) (c1:bq Tryz.prog 86 [.one (.ptr 0 0),.one (.int .i64 ((aQ cols mb k).1-1)),.one (.int .i64 ((aQ cols mb k).2))] (aM cols rows M) (.tup [.one (cq (((some a):Option (Int × Int)).getD (0,0))),.one (.bool (((some a):Option (Int × Int)).isSome))]) (aM cols rows M)) (c2:bq Tryz.prog 86 [.one (.ptr 0 0),.one (.int .i64 ((aQ cols mb k).1)),.one (.int .i64 ((aQ cols mb k).2-1))] (aM cols rows M) (.tup [.one (cq (((some b):Option (Int × Int)).getD (0,0))),.one (.bool (((some b):Option (Int × Int)).isSome))]) (aM cols rows M)) (c3:bq Tryz.prog 86 [.one (.ptr 0 0),.one (.int .i64 ((aQ cols mb k).1+1)),.one (.int .i64 ((aQ cols mb k).2-1))] (aM cols rows M) (.tup [.one (cq (((some c):Option (Int × Int)).getD (0,0))),.one (.bool (((some c):Option (Int × Int)).isSome))]) (aM cols rows M)):bq Tryz.prog 55 [.one (.ptr 0 0),.one (.int .i64 mb),.one (.int .i64 k)] (aM cols rows M) (.one (cq (nj (some a) (some b) (some c)))) (aM cols rows M):=by
 have h1:=h.c0
 have h2:=h.c1
 have h3:=h.r0
 have h4:=h.r1
 have hb:=fV h hm hk
 have hmm:=h.mul
 have hp:0≤(aQ cols mb k).2∧(aQ cols mb k).2≤17:=by unfold aQ;simp only [];omega
 have hq:0≤(aQ cols mb k).1∧(aQ cols mb k).1≤17:=by unfold aQ;simp only [];omega
 refine cO Tryz.func55 ?_
 repeat' (first
  |(refine qz ?_;first
   |refine cl ?_ (hi:=by exact f7 (M:=M) h hm hk rfl rfl (by decide) rfl))
  |refine zG ?_|refine zA ?_|refine cX (fun _=>?_) (fun _=>?_)|refine aS (fun _=>?_) (fun _=>?_)|refine zL ?_|refine zF ?_|fail)
 refine WX.dt rfl ?_
 repeat' (first
  |(refine qz ?_;first
   |refine GK ?_
   |refine cl ?_ (hi:=by exact jg (fun _ => .flat (.flat .nil)) (.flat (.flat .nil)) c1 rfl rfl (by decide) rfl)
   |refine cl ?_ (hi:=by exact jg (fun _ => .flat (.flat .nil)) (.flat (.flat .nil)) c2 rfl rfl (by decide) rfl)
   |refine cl ?_ (hi:=by exact jg (fun _ => .flat (.flat .nil)) (.flat (.flat .nil)) c3 rfl rfl (by decide) rfl)
   |refine pX (enc:=gk) ?_
   |refine tD (enc:=gk) (i:=2) (n:=0) (q:=[]) ?_
   |refine tD (enc:=gk) ?_
   |refine Ie (enc:=gk) (f:=cq) (fun _=>rfl) ?_
   |refine cl ?_ (hi:=by exact gR (yt1 _ rfl) (yt2 _ rfl) (yt3 _ rfl) rfl))
  |refine zG ?_|refine zA ?_|refine cX (fun _=>?_) (fun _=>?_)|refine aS (fun _=>?_) (fun _=>?_)|refine WX.loop ?_|refine WX.round ?_|refine zL ?_|refine zF ?_|fail)
 show aF _ _ _ _ _ _ _ _;refine kV [0,1] ?_
 exact congrArg XV.one rfl
end
theorem Fy {cols rows mb k:Int}{M:fH}(hM:cg M) (h:gG cols rows) (hm:0≤mb∧mb<cols*rows) (hk:0≤k∧k<4):bq Tryz.prog 55 [.one (.ptr 0 0),.one (.int .i64 mb),.one (.int .i64 k)] (aM cols rows M) (.one (cq (cf M cols rows mb k))) (aM cols rows M):=by
 have h1:=h.c0
 have h2:=h.c1
 have h3:=h.r0
 have h4:=h.r1
 have hb:=fV h hm hk
 have hmm:=h.mul
 have hp:0≤(aQ cols mb k).2∧(aQ cols mb k).2≤17:=by unfold aQ;simp only [];omega
 have hq:0≤(aQ cols mb k).1∧(aQ cols mb k).1≤17:=by unfold aQ;simp only [];omega
 have c1:=vu (M:=M) h (x:=(aQ cols mb k).1-1) (y:=(aQ cols mb k).2) (by omega) (by omega)
 have c2:=vu (M:=M) h (x:=(aQ cols mb k).1) (y:=(aQ cols mb k).2-1) (by omega) (by omega)
 have c3:=vu (M:=M) h (x:=(aQ cols mb k).1+1) (y:=(aQ cols mb k).2-1) (by omega) (by omega)
 have yt1:∀ v,jX M cols rows ((aQ cols mb k).1-1) (aQ cols mb k).2=some v→bB v:=fun v hv=>iU hM hv
 have yt2:∀ v,jX M cols rows (aQ cols mb k).1 ((aQ cols mb k).2-1)=some v→bB v:=fun v hv=>iU hM hv
 have yt3:∀ v,jX M cols rows ((aQ cols mb k).1+1) ((aQ cols mb k).2-1)=some v→bB v:=fun v hv=>iU hM hv
 unfold cf
 generalize jX M cols rows ((aQ cols mb k).1-1) (aQ cols mb k).2=la at c1 yt1 ⊢
 generalize jX M cols rows (aQ cols mb k).1 ((aQ cols mb k).2-1)=lb at c2 yt2 ⊢
 generalize jX M cols rows ((aQ cols mb k).1+1) ((aQ cols mb k).2-1)=lc at c3 yt3 ⊢
 rcases la with _|a <;> rcases lb with _|b <;> rcases lc with _|c
 · exact Fp h hm hk yt1 yt2 yt3 c1 c2 c3
 · exact Fq h hm hk c yt1 yt2 yt3 c1 c2 c3
 · exact Fs h hm hk b yt1 yt2 yt3 c1 c2 c3
 · exact Ft h hm hk b c yt1 yt2 yt3 c1 c2 c3
 · exact Fu h hm hk a yt1 yt2 yt3 c1 c2 c3
 · exact Fv h hm hk a c yt1 yt2 yt3 c1 c2 c3
 · exact Fw h hm hk a b yt1 yt2 yt3 c1 c2 c3
 · exact Fx h hm hk a b c yt1 yt2 yt3 c1 c2 c3
theorem zm {la lb lc:Option (Int × Int)}(h1:∀ v,la=some v→bB v) (h2:∀ v,lb=some v→bB v) (h3:∀ v,lc=some v→bB v):bB (nj la lb lc):=by
 rcases la with _|a <;> rcases lb with _|b <;> rcases lc with _|c <;> unfold nj <;> simp only []
 · exact⟨⟨by decide,by decide⟩,⟨by decide,by decide⟩⟩
 · exact h3 _ rfl
 · exact h2 _ rfl
 · exact h2 _ rfl
 · exact h1 _ rfl
 · exact h1 _ rfl
 · exact h1 _ rfl
 · exact⟨ud (h1 _ rfl).1 (h2 _ rfl).1 (h3 _ rfl).1,ud (h1 _ rfl).2 (h2 _ rfl).2 (h3 _ rfl).2⟩
theorem cR {cols rows mb k:Int}{M:fH}(hM:cg M):bB (cf M cols rows mb k):=zm (fun v hv=>iU hM hv) (fun v hv=>iU hM hv) (fun v hv=>iU hM hv)
instance Lc (p:Int × Int):bG (.one (cq p)):=fK rfl
theorem eZ {cols rows mb k:Int}{M:fH}(hM:cg M) (h:gG cols rows) (hm:0≤mb∧mb<cols*rows) (hk:0≤k∧k<4) {HS:aq}{i j:Nat}(hi:HS[i]? = some (cH j cols rows)) (hj:HS[j]? = some (.map (bp M))) (hd:i≠j) (hbd:Nat.blt HS.length Mem.bound=true) :
 aG.Sound Tryz.prog ⟨55,[.one (.ptr i 0),.one (.int .i64 mb),.one (.int .i64 k)],HS,.one (cq (cf M cols rows mb k)),HS,[]⟩:=
 jg (fun _ => .flat (.flat .nil)) (.flat (.flat .nil)) (Fy hM h hm hk) hi hj hd hbd
end Go.Proofs.YtagpkhindehcbaaGreat
namespace Go.Proofs.YtagpkhindehcbaaGreat
open Go.Xm
variable [aC]
set_option maxRecDepth 10000 in
theorem CA:bq Tryz.prog 59 [.one (.ptr 0 0),.one (.int .u64 1),.one (.int .i64 1)] [.cells [.slice 1 0 0 (.exact 0),.int .i64 0] 92 false false,.cells (il .u8 []) 5 false false] (.tup []) (H7 [true]):=by
 refine cO Tryz.func59 ?_
 repeat' (first|refine zG ?_|refine zA ?_|refine cX (fun _=>?_) (fun _=>?_)|refine aS (fun _=>?_) (fun _=>?_)|refine zL ?_|refine zF ?_|fail)
 refine WX.loop ?_
 refine WX.round ?_
 repeat' (first
  |(refine qz ?_;first
   |refine L4 (n:=1) (r:=[0]) rfl (ru rfl rfl rfl) (fun h=>absurd h (by decide)) (fun _=>?_))
  |refine zG ?_|refine zA ?_|refine cX (fun _=>?_) (fun _=>?_)|refine aS (fun _=>?_) (fun _=>?_)|refine zL ?_|refine zF ?_|fail)
 refine WX.round ?_
 repeat' (first|refine zG ?_|refine zA ?_|refine cX (fun _=>?_) (fun _=>?_)|refine aS (fun _=>?_) (fun _=>?_)|refine zL ?_|refine zF ?_|fail)
 show aF _ _ _ _ _ _ _ _;refine kV [0,1,3] ?_
 rfl
theorem FE {HS:aq}{i k:Nat}{opn:Bool}(hi:HS[i]? = some (.cells [.slice k 0 0 (.exact 0),.int .i64 0] 92 false false)) (hk:HS[k]? = some (.cells (il .u8 []) 5 false false)) (hd:i≠k) {N:Nat}(hN:HS.length=N) {HS':aq}(hh:bM HS [i,k] [aN N [true],.dead,av [true]]=HS') (hbd:Nat.blt HS'.length Mem.bound=true) :
 aG.Sound Tryz.prog ⟨59,[.one (.ptr i 0),.one (.int .u64 1),.one (.int .i64 1)],HS,.tup [],HS',[i,k]⟩:=by
 subst hN
 refine cj [i,k] [i,k] 1 CA (by simp [hd]) ?_ ?_ ?_ rfl (.cons (by simp [XV.cB,XC.ok]) (.flat (.flat .nil))) (.cons rfl (.flat (.flat .nil))) (bG.ok _) (bG.aw _) ?_ rfl rfl hh hbd (.inl rfl)
 · exact .cons hi (.flat hk .nil)
 · exact .cons (by simp [ak.cB,XC.ok]) (.flat .nil)
 · exact .cons (by simp [ak.cB,XC.ok,ca]) (.flat (.flat .nil))
 · exact .cons (by simp only [ak.aw,List.map_cons,List.map_nil,XC.aw,au];rfl) (.flat (.flat .nil))
set_option maxRecDepth 10000 in
theorem Cx (bs:List Bool) (hb:bs.length≤1000000) :
 bq Tryz.prog 31 [.one (.ptr 0 0)] (WH bs) (iT 2 (((bs++[true]).length+7)/8) 1) [aN 1 bs,av bs,av (bs++[true])]:=by
 refine cO Tryz.func31 ?_
 have hwl:=fC bs
 repeat' (first
  |(refine qz ?_;first
   |refine L4 (n:=(bs.length+7)/8) (r:=wr bs) (fC bs) (AG rfl rfl (fC bs)) (fun h=>?_) (fun h=>?_))
  |refine zG ?_|refine zA ?_|refine cX (fun _=>?_) (fun _=>?_)|refine aS (fun _=>?_) (fun _=>?_)|refine M0 11 ?_|refine zL ?_|refine zF ?_|fail)
 · obtain rfl:bs = []:=List.length_eq_zero_iff.1 (by omega)
   repeat' (first
    |(refine qz ?_;first
     |refine cl ?_ (hi:=by exact FE (k:=2) (opn:=false) rfl rfl (by decide) nL nA rfl))
    |refine zG ?_|refine zA ?_|refine cX (fun _=>?_) (fun _=>?_)|refine aS (fun _=>?_) (fun _=>?_)|refine zL ?_|refine zF ?_|fail)
   show aF _ _ _ _ _ _ _ _;refine kV [0,1,4] ?_
   rw [eA];rfl
 · have hw:aN 3 bs = .cells [.slice 3 0 (0+(bs.length+7)/8) (.toEnd 1),.int .i64 (bs.length:Nat)] 92 false false:=by
    unfold aN mc
    rw [if_neg (by omega),Nat.zero_add]
   have hy:av bs = .cells (il .u8 ([]++wr bs)) 5 true false:=by
    refine iu fun hn=>?_
    have h2:(il .u8 (wr bs)).length=0:=by rw [hn];rfl
    rw [ed,hwl]at h2
    omega
   repeat' (first
    |(refine qz ?_;first
     |refine cl ?_ (hi:=by exact gE (i:=4) (k:=3) (size:=1) rfl (bs:=bs) (by decide) (by decide) hb (by rw [hw];rfl) (by rw [hy];rfl) (by decide) nL nA rfl))
    |refine zG ?_|refine zA ?_|refine cX (fun _=>?_) (fun _=>?_)|refine aS (fun _=>?_) (fun _=>?_)|refine zL ?_|refine zF ?_|fail)
   show aF _ _ _ _ _ _ _ _;refine kV [0,1,5] ?_
   rw [eA];rfl
theorem Hg (a b:List XC) (e e' e1 e2 e3:TypeId) (cs ds fs:List XC):eI [.cells a e false false,c8 e1 cs] [.cells b e' false false,c8 e2 ds,c8 e3 fs]=true:=by
 cases cs <;> cases ds <;> cases fs <;> simp [eI,ak.live,ak.own,c8]
theorem pN {bs:List Bool}(hb:bs.length≤1000000) {HS:aq}{i k:Nat}(hi:HS[i]? = some (aN k bs)) (hk:HS[k]? = some (av bs)) (hd:i≠k) {N:Nat}(hN:HS.length=N) {HS':aq}(hh:HS++[av (bs++[true])]=HS') (hbd:Nat.blt HS'.length Mem.bound=true) :
 aG.Sound Tryz.prog ⟨31,[.one (.ptr i 0)],HS,iT N (((bs++[true]).length+7)/8) 1,HS',[i,k]⟩:=by
 subst hN
 have hh':bM HS [i,k] [aN k bs,av bs,av (bs++[true])]=HS':=by
  simp only [bM]
  rw [aK hi,aK hk];exact hh
 refine cj [i,k] [i,k] 1 (Cx bs hb) (by simp [hd]) ?_ ?_ ?_ rfl (.cons (by simp [XV.cB,XC.ok]) .nil) (.cons rfl .nil) (iv (Nat.le_of_ble_eq_true rfl)) (eA ..) ?_ ?_ rfl hh' hbd (.inl rfl)
 · exact ae.aW hi rfl rfl rfl (.flat hk .nil)
 · exact .cons (by simp [ak.cB,XC.ok,ca]) (.flat .nil)
 · exact .cons (by simp [ak.cB,XC.ok,ca]) (.flat (.flat .nil))
 · exact .cons (by simp only [ak.aw,List.map_cons,List.map_nil,XC.aw,au];rfl) (.flat (.flat .nil))
 · exact Hg ..
def tz:Nat→Int→Nat
 | 0,_=>0
 | f+1,x=>if x%2=0 then tz f (x/2)+1 else 0
theorem Iq:∀(f:Nat) (x:Int),0<x→x<2^f→tz f x<f
 | 0,x,h,h2=>by simp at h2;omega
 | f + 1,x,h,h2=>by
   unfold tz
   split
   · have:=Iq f (x/2) (by omega) (by rw [Int.pow_succ]at h2;omega)
     omega
   · omega
def eX (L:List Int):Nat × Bool:=if L.getD (L.length-1) 0=0 then(0,false)else(8*L.length-1-tz 8 (L.getD (L.length-1) 0),true)
set_option maxRecDepth 10000 in
theorem EH {L:List Int}(hL:ej L) (hn:L.length≤100000) :
 bq Tryz.prog 61 [iT 0 L.length 1] [c8 5 (il .u8 L)] (.tup [.one (.int .i64 ((eX L).1:Nat)),.one (.bool (eX L).2)]) [c8 5 (il .u8 L)]:=by
 refine cO Tryz.func61 ?_
 by_cases h0:L.length=0
 · have e:eX L=(0,false):=by
    rw [List.length_eq_zero_iff.1 h0];rfl
   rw [e]
   repeat' (first|refine zG ?_|refine zA ?_|refine cX (fun _=>?_) (fun _=>?_)|refine aS (fun _=>?_) (fun _=>?_)|refine zL ?_|refine zF ?_|fail)
   show aF _ _ _ _ _ _ _ _;refine kV [0] ?_
   rfl
 · have hl:=hL ((L.length:Int)-1).toNat
   have ei:((L.length:Int)-1).toNat=L.length-1:=by omega
   by_cases hz:L.getD ((L.length:Int)-1).toNat 0=0
   · have e:eX L=(0,false):=by
      unfold eX
      rw [←ei,if_pos hz]
     rw [e]
     repeat' (first|refine zG ?_|refine zA ?_|refine cX (fun _=>?_) (fun _=>?_)|refine aS (fun _=>?_) (fun _=>?_)|refine zL ?_|refine zF ?_|fail)
     show aF _ _ _ _ _ _ _ _;refine kV [0] ?_
     rfl
   · have hlt:=Iq 8 (L.getD ((L.length:Int)-1).toNat 0) (by omega) (by show _<(256:Int);omega)
     have e:eX L=(8*L.length-1-tz 8 (L.getD ((L.length:Int)-1).toNat 0),true):=by
      unfold eX
      rw [←ei,if_neg hz]
     rw [e]
     repeat' (first|refine zG ?_|refine zA ?_|refine cX (fun _=>?_) (fun _=>?_)|refine aS (fun _=>?_) (fun _=>?_)|refine zL ?_|refine zF ?_|fail)
     refine WX.ek (σ:=Nat × Int × Int) (fun s=>[(5,.one (.int .u8 s.2.1)),(4,.one (.int .i64 s.2.2))]) (fun s=>[c8 5 (il .u8 L)]) (fun s=>s.1≤8∧0<s.2.1∧s.2.1<256∧s.2.1<2^s.1∧(s.1:Int)-8≤s.2.2∧s.2.2≤1000000∧s.2.2-(tz s.1 s.2.1:Nat)=8*(L.length:Int)-1-(tz 8 (L.getD ((L.length:Int)-1).toNat 0):Nat)) (fun s=>s.1) (8,L.getD ((L.length:Int)-1).toNat 0,(L.length:Int)*8-1) ⟨by show 8≤8;omega,by show 0<L.getD _ 0;omega,hl.2,hl.2,by show((8:Nat):Int)-8≤(L.length:Int)*8-1;omega,by show(L.length:Int)*8-1≤1000000;omega,by show(L.length:Int)*8-1-(tz 8 (L.getD ((L.length:Int)-1).toNat 0):Nat)=_;omega⟩ (fun s _=>mO) (br [0]) ?_
     intro s ⟨h1,h2,h3,h4,h5,h6,h7⟩ ih
     obtain⟨f,hf⟩:∃ f,s.1=f+1:=by
      cases hs:s.1 with
      | zero=>rw [hs]at h4;simp at h4;omega
      | succ f=>exact⟨f,rfl⟩
     rw [hf,tz]at h7
     by_cases hodd:s.2.1%2=0
     · rw [if_pos hodd]at h7
       have hq:s.2.1%2^1=0:=hodd
       have hd:0≤s.2.1/2^(1:Int).toNat∧s.2.1/2^(1:Int).toNat<256:=by show 0≤s.2.1/2∧s.2.1/2<256;omega
       repeat' (first|refine zG ?_|refine zA ?_|refine cX (fun _=>?_) (fun _=>?_)|refine aS (fun _=>?_) (fun _=>?_)|refine zL ?_|refine zF ?_|fail)
       refine ih (f,s.2.1/2^(1:Int).toNat,s.2.2-1) _ _ _ (br [0]) ⟨by show f≤8;omega,by show 0<s.2.1/2;omega,hd.2,?_,by show(f:Int)-8≤s.2.2-1;omega,by show s.2.2-1≤_;omega,?_⟩ (by show f<s.1;omega)
       · show s.2.1/2<2^f
         rw [hf,Int.pow_succ]at h4
         omega
       · show s.2.2-1-(tz f (s.2.1/2):Nat)=_
         omega
     · rw [if_neg hodd]at h7
       have hq:s.2.1%2^1=1:=by show s.2.1%2=1;omega
       have he:s.2.2=((8*L.length-1-tz 8 (L.getD ((L.length:Int)-1).toNat 0):Nat):Int):=by omega
       repeat' (first|refine zG ?_|refine zA ?_|refine cX (fun _=>?_) (fun _=>?_)|refine aS (fun _=>?_) (fun _=>?_)|refine zL ?_|refine zF ?_|fail)
       show aF _ _ _ _ _ _ _ _;refine kV [0] ?_
       rw [he];rfl
theorem Hm {L:List Int}(hL:ej L) (hn:L.length≤100000) {n:Nat}(hln:L.length=n) {HS:aq}{i:Nat}(hi:HS[i]? = some (c8 5 (il .u8 L))) (hb:Nat.blt HS.length Mem.bound=true) :
 aG.Sound Tryz.prog ⟨61,[iT i n 1],HS,.tup [.one (.int .i64 ((eX L).1:Nat)),.one (.bool (eX L).2)],HS,[i]⟩:=by
 subst hln
 refine cj [i] [i] 0 (EH hL hn) (by simp) (.flat hi .nil) (.flat .nil) (.flat .nil) rfl (.cons (iv (Nat.le_of_ble_eq_true rfl)) .nil) (.cons (eA ..) .nil) ((fK rfl).ok _) ((fK rfl).aw _) (.flat .nil) ?_ rfl (by simp only [bM,List.append_nil];exact aK hi) hb (.inl rfl)
 cases il .u8 L <;> simp [eI,ak.live,ak.own,c8]
set_option maxRecDepth 10000 in
theorem Eu {L:List Int}{B:List Bool}(hB:B.length≤8*L.length) (hn:L.length≤100000) :
 bq Tryz.prog 62 [iT 0 L.length 1,.one (.int .i64 (B.length:Nat))] [c8 5 (il .u8 L)] (.one (.ptr 1 0)) [c8 5 (il .u8 L),bD 2 L B 0 false,aO L]:=by
 refine cO Tryz.func62 ?_
 repeat' (first
  |(refine qz ?_;first
   |refine Mm (r:=L) (AG rfl rfl rfl) ?_)
  |refine zG ?_|refine zA ?_|refine cX (fun _=>?_) (fun _=>?_)|refine aS (fun _=>?_) (fun _=>?_)|refine zL ?_|refine zF ?_|fail)
 show aF _ _ _ _ _ _ _ _;refine kV [0,2,1] ?_
 rfl
theorem Ha {L:List Int}{B:List Bool}(hB:B.length≤8*L.length) (hn:L.length≤100000) {n:Nat}(hln:L.length=n) {z:Int}(hz:z=(B.length:Nat)) {HS:aq}{i:Nat}(hi:HS[i]? = some (c8 5 (il .u8 L))) {N:Nat}(hN:HS.length=N) {HS':aq}(hh:HS++[bD (N+1) L B 0 false,aO L]=HS') (hb:Nat.blt HS'.length Mem.bound=true) :
 aG.Sound Tryz.prog ⟨62,[iT i n 1,.one (.int .i64 z)],HS,.one (.ptr N 0),HS',[i]⟩:=by
 subst hln hz hN
 refine cj [i] [i] 2 (Eu hB hn) (by simp) (.flat hi .nil) (.flat .nil) (.flat (.cons (by simp [ak.cB,XC.ok]) (.flat .nil))) rfl (.cons (iv (Nat.le_of_ble_eq_true rfl)) (.flat .nil)) (.cons (eA ..) (.flat .nil)) (by simp [XV.cB,XC.ok]) rfl (.flat (.cons rfl (.flat .nil))) ?_ rfl (by simp only [bM];rw [aK hi];exact hh) hb (.inl rfl)
 cases il .u8 L <;> simp [eI,ak.live,ak.own,c8]
end Go.Proofs.YtagpkhindehcbaaGreat
namespace Go.Proofs.YtagpkhindehcbaaGreat
open Go.Xm
variable [aC]
def Dn (st:List Int × Int) (b:Int):List Int × Int:=
 if 2≤st.2∧b≤3 then(st.1++[3]++[b],if b=0 then 0+1 else 0)else(st.1++[b],if b=0 then st.2+1 else 0)
def gJ (l:List Int):Nat→List Int × Int
 | 0=>([],0)
 | j+1=>Dn (gJ l j) (l.getD j 0)
theorem wv (l:List Int):∀ j,(gJ l j).1.length≤2*j∧0≤(gJ l j).2∧(gJ l j).2≤j
 | 0=>⟨Nat.le_refl _,by show(0:Int)≤0;omega,by show(0:Int)≤0;omega⟩
 | j + 1=>by
   obtain⟨h1,h2,h3⟩:=wv l j
   unfold gJ Dn
   split
   · refine⟨by simp;omega,?_⟩
     simp only []
     split <;> omega
   · refine⟨by simp;omega,?_⟩
     simp only []
     split <;> omega
set_option maxRecDepth 10000 in
theorem yE {l:List Int}(hl:ej l) (hn:l.length≤100000) :
 bq Tryz.prog 30 [iT 0 l.length 1] [c8 5 (il .u8 l)] (iT 1 (gJ l l.length).1.length 1) [c8 5 (il .u8 l),c8 5 (il .u8 (gJ l l.length).1)]:=by
 refine cO Tryz.func30 ?_
 repeat' (first|refine zG ?_|refine zA ?_|refine cX (fun _=>?_) (fun _=>?_)|refine aS (fun _=>?_) (fun _=>?_)|refine zL ?_|refine zF ?_|fail)
 refine WX.dt rfl ?_
 refine WX.ek (σ:=Nat) (fun j=>[(7,iT 0 l.length 1),(8,.one (.int .i64 (l.length:Nat))),(9,.one (.int .i64 (j:Nat))),(3,iT 1 (gJ l j).1.length 1),(4,.one (.int .i64 (gJ l j).2))]) (fun j=>[c8 5 (il .u8 l),c8 5 (il .u8 (gJ l j).1)]) (fun j=>j≤l.length) (fun j=>l.length-j) 0 (Nat.zero_le _) (fun s _=>mO) (br [0,1]) ?_
 intro j hj ih
 have hr:=wv l j
 by_cases hlt:j<l.length
 · have hb:=hl j
   have e0:gJ l (j+1)=Dn (gJ l j) (l.getD j 0):=rfl
   unfold Dn at e0
   repeat' (first
    |(refine qz ?_;first
     |refine L5 ?_ (hn:=by simp))
    |refine zG ?_|refine zA ?_|refine cX (fun _=>?_) (fun _=>?_)|refine aS (fun _=>?_) (fun _=>?_)|refine zL ?_|refine zF ?_|fail)
   · rename_i g1 g2 g3
     rw [if_pos ⟨g1,g2⟩,if_pos g3]at e0
     refine ih (j+1) _ _ _ (br [0,5] (obj:=by(repeat' (first|exact ae.nil|refine ae.flat (by rw [e0];rfl) ?_|refine ae.flat rfl ?_|refine ae.cons rfl ?_|refine ae.dead rfl ?_|refine ae.cons (by simp only [ak.aw,List.map_cons,List.map_nil,XC.aw,au];exact rfl) ?_));first|done|fail) (reg:=by(repeat' (first|exact af.nil|refine af.dX rfl rfl (by rw [e0];simp) ?_|refine af.flat (by rw [e0];rfl) ?_|refine af.flat rfl ?_|refine af.cons rfl ?_|refine af.sl rfl (by assumption) rfl ?_|refine af.dX rfl rfl (by first|rfl|omega|(simp;done)|(simp;omega)) ?_));first|done|fail)) (by show j+1≤_;omega) (by show _-(j+1)<_-j;omega)
   · rename_i g1 g2 g3
     rw [if_pos ⟨g1,g2⟩,if_neg g3]at e0
     refine ih (j+1) _ _ _ (br [0,5] (obj:=by(repeat' (first|exact ae.nil|refine ae.flat (by rw [e0];rfl) ?_|refine ae.flat rfl ?_|refine ae.cons rfl ?_|refine ae.dead rfl ?_|refine ae.cons (by simp only [ak.aw,List.map_cons,List.map_nil,XC.aw,au];exact rfl) ?_));first|done|fail) (reg:=by(repeat' (first|exact af.nil|refine af.dX rfl rfl (by rw [e0];simp) ?_|refine af.flat (by rw [e0];rfl) ?_|refine af.flat rfl ?_|refine af.cons rfl ?_|refine af.sl rfl (by assumption) rfl ?_|refine af.dX rfl rfl (by first|rfl|omega|(simp;done)|(simp;omega)) ?_));first|done|fail)) (by show j+1≤_;omega) (by show _-(j+1)<_-j;omega)
   · rename_i g1 g2
     rw [if_neg (fun h=>g2 h.2),if_neg (by omega)]at e0
     refine ih (j+1) _ _ _ (br [0,3] (obj:=by(repeat' (first|exact ae.nil|refine ae.flat (by rw [e0];rfl) ?_|refine ae.flat rfl ?_|refine ae.cons rfl ?_|refine ae.dead rfl ?_|refine ae.cons (by simp only [ak.aw,List.map_cons,List.map_nil,XC.aw,au];exact rfl) ?_));first|done|fail) (reg:=by(repeat' (first|exact af.nil|refine af.dX rfl rfl (by rw [e0];simp) ?_|refine af.flat (by rw [e0];rfl) ?_|refine af.flat rfl ?_|refine af.cons rfl ?_|refine af.sl rfl (by assumption) rfl ?_|refine af.dX rfl rfl (by first|rfl|omega|(simp;done)|(simp;omega)) ?_));first|done|fail)) (by show j+1≤_;omega) (by show _-(j+1)<_-j;omega)
   · rename_i g1 g2
     rw [if_neg (fun h=>g1 h.1),if_pos g2]at e0
     refine ih (j+1) _ _ _ (br [0,3] (obj:=by(repeat' (first|exact ae.nil|refine ae.flat (by rw [e0];rfl) ?_|refine ae.flat rfl ?_|refine ae.cons rfl ?_|refine ae.dead rfl ?_|refine ae.cons (by simp only [ak.aw,List.map_cons,List.map_nil,XC.aw,au];exact rfl) ?_));first|done|fail) (reg:=by(repeat' (first|exact af.nil|refine af.dX rfl rfl (by rw [e0];simp) ?_|refine af.flat (by rw [e0];rfl) ?_|refine af.flat rfl ?_|refine af.cons rfl ?_|refine af.sl rfl (by assumption) rfl ?_|refine af.dX rfl rfl (by first|rfl|omega|(simp;done)|(simp;omega)) ?_));first|done|fail)) (by show j+1≤_;omega) (by show _-(j+1)<_-j;omega)
   · rename_i g1 g2
     rw [if_neg (fun h=>g1 h.1),if_neg g2]at e0
     refine ih (j+1) _ _ _ (br [0,3] (obj:=by(repeat' (first|exact ae.nil|refine ae.flat (by rw [e0];rfl) ?_|refine ae.flat rfl ?_|refine ae.cons rfl ?_|refine ae.dead rfl ?_|refine ae.cons (by simp only [ak.aw,List.map_cons,List.map_nil,XC.aw,au];exact rfl) ?_));first|done|fail) (reg:=by(repeat' (first|exact af.nil|refine af.dX rfl rfl (by rw [e0];simp) ?_|refine af.flat (by rw [e0];rfl) ?_|refine af.flat rfl ?_|refine af.cons rfl ?_|refine af.sl rfl (by assumption) rfl ?_|refine af.dX rfl rfl (by first|rfl|omega|(simp;done)|(simp;omega)) ?_));first|done|fail)) (by show j+1≤_;omega) (by show _-(j+1)<_-j;omega)
 · obtain rfl:j=l.length:=by omega
   repeat' (first|refine zG ?_|refine zA ?_|refine cX (fun _=>?_) (fun _=>?_)|refine aS (fun _=>?_) (fun _=>?_)|refine zL ?_|refine zF ?_|fail)
   show aF _ _ _ _ _ _ _ _;refine kV [0,1] ?_
   rw [eA];rfl
end Go.Proofs.YtagpkhindehcbaaGreat
