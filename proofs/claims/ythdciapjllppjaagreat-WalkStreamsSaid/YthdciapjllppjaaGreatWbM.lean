/-
  A part of the proof: FieldV.
-/
import Derived.Test.YthdciapjllppjaaGreatWbL
set_option maxRecDepth 10000
set_option maxHeartbeats 8000000
set_option linter.unusedVariables false
set_option linter.unusedSectionVars false
set_option linter.unusedSimpArgs false
open Go.Proofs.Tryz (prog)
namespace Go.Xm
variable [aq]
variable {P:Program} {ops:Array Oper} {nt nI:Nat} {al:aO} {hs:aj} {o:Oper} {l:List Oper} {L:List aA} {K:List Ab->aO->aj->Prop} {d:Nat}
theorem KV{t:TypeId}{x ix:Operand}{len:Nat}{elem:TypeId}{cs:List XC}{k:IntKind}{z:Int}{c:XC}(hk:SK P ops nt L l ((d,.one c)::al) hs fun bs=>K (quiet::bs))(ho:o.op = .index t x ix:=by exact rfl)(hw:aw ops (rg al) o=some true:=by exact rfl)(hd:o.dst=some d:=by exact rfl)(hlt:Nat.blt d nt=true:=by exact rfl)
 (ha:af (rg al) x = .agg cs:=by exact rfl) (hb:af (rg al) ix = .one (.int k z):=by exact rfl) (hu:aQ P t (.array len elem):=by infer_instance) (hs':aH P elem 1:=by infer_instance) (hg:cR P elem:=by infer_instance) (hz:0<=z/\z<(len:Nat):=by omega) (hc:cs[z.toNat]? = some c:=by exact rfl):SK P ops nt L (o::l) al hs K:=
 lz hw hd hlt (by rw[ho];simp only[aZ,qe,ha,hb,hu.out,hs'.out,if_pos hz,gz,hg.out,Nat.mul_one,hc,Option.map_some,X1.p6]) hk
theorem LK{t:TypeId}{x ix:Operand}{len s:Nat}{elem:TypeId}{cs cs':List XC}{k:IntKind}{z:Int}(hk:SK P ops nt L l ((d,.agg cs')::al) hs fun bs=>K (quiet::bs))(ho:o.op = .index t x ix:=by exact rfl)(hw:aw ops (rg al) o=some true:=by exact rfl)(hd:o.dst=some d:=by exact rfl)(hlt:Nat.blt d nt=true:=by exact rfl)
 (ha:af (rg al) x = .agg cs:=by exact rfl) (hb:af (rg al) ix = .one (.int k z):=by exact rfl) (hu:aQ P t (.array len elem):=by infer_instance) (hs':aH P elem s:=by infer_instance) (hg:dk P elem:=by infer_instance) (hz:0<=z/\z<(len:Nat):=by omega) (hc:(cs.drop (z.toNat*s)).take s=cs':=by exact rfl):SK P ops nt L (o::l) al hs K:=
 lz hw hd hlt (by rw[ho];simp only[aZ,qe,ha,hb,hu.out,hs'.out,if_pos hz,gz,hg.out,hc,Option.map_some,X1.p6]) hk
theorem PD{k:IntKind}{n:Nat}{q:Nat->Int}{a s:Nat}(h:a+s<=n):((ti k n q).drop a).take s=ti k s (fun i=>q (a+i)):=by
 apply List.ext_getElem?;intro i;rw[List.getElem?_take,List.getElem?_drop]
 by_cases hi:i<s
 ·rw[if_pos hi,jM (by omega),jM hi]
 ·rw[if_neg hi,List.getElem?_eq_none (by rw[aU];omega)]
theorem Rc{t:TypeId}{x ix:Operand}{len n:Nat}{elem:TypeId}{q:Nat->Int}{k k':IntKind}{z:Int}(hk:SK P ops nt L l ((d,.one (.int k' (q z.toNat)))::al) hs fun bs=>K (quiet::bs))(ho:o.op = .index t x ix:=by exact rfl)(hw:aw ops (rg al) o=some true:=by exact rfl)(hd:o.dst=some d:=by exact rfl)(hlt:Nat.blt d nt=true:=by exact rfl)
 (ha:af (rg al) x = .agg (ti k' n q):=by exact rfl) (hb:af (rg al) ix = .one (.int k z):=by exact rfl) (hu:aQ P t (.array len elem):=by infer_instance) (hs':aH P elem 1:=by infer_instance) (hg:cR P elem:=by infer_instance) (hz:0<=z/\z<(len:Nat):=by omega) (hln:len=n:=by exact rfl):SK P ops nt L (o::l) al hs K:=
 KV hk ho hw hd hlt ha hb hu hs' hg hz (jM (by omega))
theorem LJ{t:TypeId}{x ix:Operand}{len n s:Nat}{elem:TypeId}{q:Nat->Int}{k k':IntKind}{z:Int}(hk:SK P ops nt L l ((d,.agg (ti k' s fun i=>q (z.toNat*s+i)))::al) hs fun bs=>K (quiet::bs))(ho:o.op = .index t x ix:=by exact rfl)(hw:aw ops (rg al) o=some true:=by exact rfl)(hd:o.dst=some d:=by exact rfl)(hlt:Nat.blt d nt=true:=by exact rfl)
 (ha:af (rg al) x = .agg (ti k' n q):=by exact rfl) (hb:af (rg al) ix = .one (.int k z):=by exact rfl) (hu:aQ P t (.array len elem):=by infer_instance) (hs':aH P elem s:=by infer_instance) (hg:dk P elem:=by infer_instance) (hz:0<=z/\z<(len:Nat):=by omega) (hln:len*s=n:=by exact rfl):SK P ops nt L (o::l) al hs K:=
 LK hk ho hw hd hlt ha hb hu hs' hg hz (PD (by
  have h1:z.toNat+1<=len:=by omega
  have h2:=Nat.mul_le_mul_right s h1;rw[Nat.add_mul,Nat.one_mul]at h2
  omega))
theorem DO{α : Type}{enc : α->List XC}{f : α->XC}(henc:∀a,enc a = [f a])(q:List α):fl enc q=q.map f:=by
 unfold fl
 induction q with
 | nil=>rfl
 | cons a q ih=>rw[List.flatMap_cons,ih,henc];rfl
theorem Nw{α : Type}[Inhabited α]{enc : α->List XC}{f : α->XC}(henc:∀a,enc a = [f a]){t:TypeId}{a:Operand}{i off:Nat}{e:TypeId}{q:List α}(hk:SK P ops nt L l ((d,.one (f (q.getD off default)))::al) hs fun bs=>K (⟨false,some i,[]⟩::bs))(ho:o.op = .load t a:=by exact rfl)(ht:cR P t:=by infer_instance)(hw:aw ops (rg al) o=some true:=by exact rfl)(hd:o.dst=some d:=by exact rfl)(hlt:Nat.blt d nt=true:=by exact rfl)
 (ha:af (rg al) a = .one (.ptr i off):=by exact rfl) (hi:hs[i]? = some (bU e (fl enc q)):=by exact rfl) (hc:off<q.length:=by first|omega|(simp only[List.length_cons,List.length_nil,List.length_append];first|omega|decide)):SK P ops nt L (o::l) al hs K:=by
 have h1:bU e (fl enc q) = .cells (fl enc q) e true false:=cK (fun hn=>by
  have:(fl enc q).length=0:=by rw[hn];rfl
  rw[DO henc,List.length_map]at this
  omega)
 have h2:(fl enc q)[off]? = some (f (q.getD off default)):=by
  rw[DO henc,List.getElem?_map,List.getD_eq_getElem?_getD,List.getElem?_eq_getElem hc];rfl
 exact fU ho hw hd hlt ha (hi.trans (congrArg some h1)) h2 hk
end Go.Xm
namespace Go.Proofs.YthdciapjllppjaaGreat
open Go.Xm
variable [aq]
abbrev jH:=List (Int×(Int×Int))
def MW(p:Int×Int):X1 := .one (c7 p)
abbrev cE(M:jH):List (X1×X1):=k_ Ox MW M
instance PM (M:jH):cA (.map (cE M)):=Ae (fun _=>rfl) (fun _=>rfl) M
abbrev fD(m:Nat)(cols rows:Int):ak := .cells [.int .i64 cols,.int .i64 rows,.map m] 216 false false
abbrev aI(cols rows:Int)(M:jH):aj:=[fD 1 cols rows,.map (cE M)]
theorem Nc:oL prog 101=some (.one (.cplx .f64 0 0)):=by kernel_rfl
theorem Qa:oL prog 101=some (MW (0,0)):=by
 rw[Nc];unfold MW;rw[iK]
instance SM (a b:Int):b8 (.tup [.one (.int .i64 a),.one (.int .i64 b)]):=eL rfl
structure lU(cols rows:Int):Prop where
 c0:1<=cols
 c1:cols<=8
 r0:1<=rows
 r1:rows<=8
theorem lU.mul{cols rows:Int}(h:lU cols rows):0<=cols*rows/\cols*rows<=64:=yc ⟨h.c0,h.c1⟩ ⟨by have:=h.r0;omega,h.r1⟩
theorem Km(cols rows:Int)(h:lU cols rows):bt prog 83 [.one (.int .i64 cols),.one (.int .i64 rows)] [] (.one (.ptr 0 0)) (aI cols rows []):=by
 have h1:=h.c0;have h2:=h.c1;have h3:=h.r0;have h4:=h.r1;refine cO Tryz.func83 ?_
 repeat' (first|refine zz ?_|refine zx (fun _=>?_) (fun _=>?_)|fail)
 show aE _ _ _ _ _ _ _ _;refine kV [1,0] ?_;rfl
def aN(cols mb k:Int):Int×Int:=(2*(mb%cols)+k%2,2*(mb/cols)+k/2)
theorem gh{cols rows mb k:Int}(h:lU cols rows)(hm:0<=mb/\mb<cols*rows)(hk:0<=k/\k<4):0<=mb%cols/\mb%cols<cols/\0<=mb/cols/\mb/cols<rows:=by
 refine⟨Int.emod_nonneg _ (by have:=h.c0;omega),Int.emod_lt_of_pos _ (by have:=h.c0;omega),Int.ediv_nonneg hm.1 (by have:=h.c0;omega),?_⟩;exact Int.ediv_lt_of_lt_mul (by have:=h.c0;omega) (by rw[Int.mul_comm];exact hm.2)
theorem C1{cols rows mb k:Int}{M:jH}(h:lU cols rows)(hm:0<=mb/\mb<cols*rows)(hk:0<=k/\k<4):bt prog 116 [.one (.ptr 0 0),.one (.int .i64 mb),.one (.int .i64 k)] (aI cols rows M) (.tup [.one (.int .i64 (aN cols mb k).1),.one (.int .i64 (aN cols mb k).2)]) (aI cols rows M):=by
 have h1:=h.c0;have h2:=h.c1;have h3:=h.r0;have h4:=h.r1;have hb:=gh h hm hk;have hmm:=h.mul;refine cO Tryz.func116 ?_
 repeat' (first|refine zz ?_|refine zx (fun _=>?_) (fun _=>?_)|fail)
 show aE _ _ _ _ _ _ _ _;refine kV [0,1] ?_;rfl
theorem jC{f:FuncId}{more:List XV}(hm:∀τ,e9 τ more more)(hmo:gW 2 more){v:XV}[b8 v]{cols rows:Int}{M:jH}(hc:bt prog f (.one (.ptr 0 0)::more) (aI cols rows M) v (aI cols rows M)){HS:aj}{i k:Nat}(hi:HS[i]? = some (fD k cols rows))(hk:HS[k]? = some (.map (cE M)))(hd:i≠k)(hbd:Nat.blt HS.length Mem.bound=true) :
 aA.Sound prog ⟨f,.one (.ptr i 0)::more,HS,v,HS,[]⟩:=by
 refine fR [i,k] hc (by simp[hd]) ?_ ?_ (.cons (by simp[XV.bK,XC.ok]) hmo) (.cons rfl (hm _)) (b8.ok _) (b8.aC _) hbd rfl
 ·exact .cons hi (.flat hk .nil)
 ·exact .cons (by simp[ak.bK,XC.ok]) (.flat .nil)
theorem gx{cols rows mb k:Int}{M:jH}(h:lU cols rows)(hm:0<=mb/\mb<cols*rows)(hk:0<=k/\k<4){HS:aj}{i j:Nat}(hi:HS[i]? = some (fD j cols rows))(hj:HS[j]? = some (.map (cE M)))(hd:i≠j)(hbd:Nat.blt HS.length Mem.bound=true) :
 aA.Sound prog ⟨116,[.one (.ptr i 0),.one (.int .i64 mb),.one (.int .i64 k)],HS,.tup [.one (.int .i64 (aN cols mb k).1),.one (.int .i64 (aN cols mb k).2)],HS,[]⟩:=
 jC (fun _ => .flat (.flat .nil)) (.flat (.flat .nil)) (C1 h hm hk) hi hj hd hbd
def lB(M:jH)(cols rows x y:Int):Option (Int×Int):=if x<0\/y<0\/2*cols<=x\/2*rows<=y then none else eP M (y*2*cols+x)
instance SL (p:Int×Int) (b:Bool):b8 (.tup [.one (c7 p),.one (.bool b)]):=eL rfl
theorem yV{cols rows x y:Int}{M:jH}(h:lU cols rows)(hx : -1<=x/\x<=100)(hy : -1<=y/\y<=100):bt prog 117 [.one (.ptr 0 0),.one (.int .i64 x),.one (.int .i64 y)] (aI cols rows M) (.tup [.one (c7 ((lB M cols rows x y).getD (0,0))),.one (.bool (lB M cols rows x y).isSome)]) (aI cols rows M):=by
 have h1:=h.c0;have h2:=h.c1;have h3:=h.r0;have h4:=h.r1;unfold lB
 by_cases hin:x<0\/y<0\/2*cols<=x\/2*rows<=y
 ·rw [if_pos hin];have e:c7 ((none:Option (Int×Int)).getD (0,0)) = .cplx .f64 0 0:=iK;rw[e];refine cO Tryz.func117 ?_
  repeat' (first|refine zz ?_|refine zx (fun _=>?_) (fun _=>?_)|fail)
  all_goals
   first
    | (exfalso;omega)
    | (show aE _ _ _ _ _ _ _ _;refine kV [0,1] ?_;rfl)
 ·rw[if_neg hin]
  have hp:0<=y*2*cols/\y*2*cols<=1600:=⟨Int.mul_nonneg (by omega) (by omega),by
   have:=Int.mul_le_mul (show y*2<=200 by omega) h2 (by omega) (by decide)
   omega⟩
  refine cO Tryz.func117 ?_
  repeat' (first
   |(refine qz ?_;first
    |refine Em rfl rfl rfl rfl tj Qa rfl rfl rfl ?_)
   |refine zz ?_|refine zx (fun _=>?_) (fun _=>?_)|fail)
  show aE _ _ _ _ _ _ _ _;refine kV [0,1] ?_;rfl
def cL(M:jH)(cols mb k:Int)(v:Int×Int):jH:=wu M ((aN cols mb k).2*2*cols+(aN cols mb k).1) v
theorem Kp{cols rows mb k:Int}{M:jH}(h:lU cols rows)(hm:0<=mb/\mb<cols*rows)(hk:0<=k/\k<4)(v:Int×Int):bt prog 92 [.one (.ptr 0 0),.one (.int .i64 mb),.one (.int .i64 k),.one (c7 v)] (aI cols rows M) (.tup []) (aI cols rows (cL M cols mb k v)):=by
 have h1:=h.c0;have h2:=h.c1;have h3:=h.r0;have h4:=h.r1;have hb:=gh h hm hk;have hmm:=h.mul;have hp:0<=(aN cols mb k).2/\(aN cols mb k).2<=17:=by unfold aN;simp only[];omega
 have hq:0<=(aN cols mb k).1/\(aN cols mb k).1<=17:=by unfold aN;simp only[];omega
 have hpp:0<=(aN cols mb k).2*2*cols/\(aN cols mb k).2*2*cols<=1600:=⟨Int.mul_nonneg (by omega) (by omega),by
  have:=Int.mul_le_mul (show(aN cols mb k).2*2<=200 by omega) h2 (by omega) (by decide)
  omega⟩
 refine cO Tryz.func92 ?_
 repeat' (first
  |(refine qz ?_;first
   |refine cl ?_ (hi:=by exact gx (M:=M) h hm hk rfl rfl (by decide) rfl)
   |refine AR (vc:=MW) rfl rfl rfl tj rfl rfl rfl rfl (by first|(simp only[List.set_cons_succ,List.set_cons_zero];exact rfl)|exact rfl) ?_)
  |refine zz ?_|refine zx (fun _=>?_) (fun _=>?_)|fail)
 show aE _ _ _ _ _ _ _ _;refine kV [0,1] ?_;rfl
theorem j7{cols rows mb k:Int}{M:jH}(h:lU cols rows)(hm:0<=mb/\mb<cols*rows)(hk:0<=k/\k<4){v:Int×Int}{HS:aj}{i j:Nat}(hi:HS[i]? = some (fD j cols rows))(hj:HS[j]? = some (.map (cE M)))(hd:i≠j){HS':aj}(hh:HS.set j (.map (cE (cL M cols mb k v)))=HS')(hbd:Nat.blt HS'.length Mem.bound=true) :
 aA.Sound prog ⟨92,[.one (.ptr i 0),.one (.int .i64 mb),.one (.int .i64 k),.one (c7 v)],HS,.tup [],HS',[j]⟩:=by
 have hh':bJ HS [i,j] [fD j cols rows,.map (cE (cL M cols mb k v))]=HS':=by
  subst hh;simp only[bJ,List.append_nil];rw[aG hi]
 refine bI [i,j] [j] 0 (Kp (M:=M) h hm hk v) (by simp[hd]) ?_ ?_ ?_ rfl (.cons (by simp[XV.bK,XC.ok]) (.flat (.flat (.cons trivial .nil)))) (.cons rfl (.flat (.flat (.cons rfl .nil)))) (b8.ok _) (b8.aC _) ?_ rfl rfl hh' hbd (.inr fun q hq hj=>?_)
 ·exact .cons hi (.flat hj .nil)
 ·exact .cons (by simp[ak.bK,XC.ok]) (.flat .nil)
 ·exact .cons (by simp[ak.bK,XC.ok]) (.flat .nil)
 ·exact .cons rfl (.flat .nil)
 ·subst hh;rw[List.getElem?_set,if_neg (fun h=>hj (by rw[h];exact List.mem_singleton.2 rfl))]
def fN(M:jH):Prop:=∀key v,eP M key=some v->bM v
theorem GD:fN []:=fun key v h=>by cases h
theorem GF{M:jH}(h:fN M){key:Int}{v:Int×Int}(hv:bM v):fN (wu M key v):=fun key' v' h'=>by
 rw[rR]at h';split at h'
 ·cases h';exact hv
 ·exact h key' v' h'
def ox(la lb lc:Option (Int×Int)):Int×Int:=match la,lb,lc with
 | some a,some b,some c=>ON a b c
 | some a,_,_=>a
 | none,some b,_=>b
 | none,none,some c=>c
 | none,none,none=>(0,0)
def gI(M:jH)(cols rows mb k:Int):Int×Int:=
 ox (lB M cols rows ((aN cols mb k).1-1) (aN cols mb k).2) (lB M cols rows (aN cols mb k).1 ((aN cols mb k).2-1)) (lB M cols rows ((aN cols mb k).1+1) ((aN cols mb k).2-1))
def gH(p:Int×Int):List XC:=[c7 p]
instance:nH gH 1:=⟨fun _=>rfl,fun _=>rfl,by decide⟩
theorem ja{M:jH}(h:fN M){cols rows x y:Int}{v:Int×Int}(hv:lB M cols rows x y=some v):bM v:=by
 unfold lB at hv;split at hv
 ·cases hv
 ·exact h _ _ hv
section
variable {cols rows mb k:Int} {M:jH}(h:lU cols rows) (hm:0<=mb/\mb<cols*rows) (hk:0<=k/\k<4)
include h hm hk
theorem Kd(yt1:∀v,none=some v->bM v)(yt2:∀v,none=some v->bM v)(yt3:∀v,none=some v->bM v)(c1:bt prog 117 [.one (.ptr 0 0),.one (.int .i64 ((aN cols mb k).1-1)),.one (.int .i64 ((aN cols mb k).2))] (aI cols rows M) (.tup [.one (c7 ((none:Option (Int×Int)).getD (0,0))),.one (.bool ((none:Option (Int×Int)).isSome))]) (aI cols rows M))(c2:bt prog 117 [.one (.ptr 0 0),.one (.int .i64 ((aN cols mb k).1)),.one (.int .i64 ((aN cols mb k).2-1))] (aI cols rows M) (.tup [.one (c7 ((none:Option (Int×Int)).getD (0,0))),.one (.bool ((none:Option (Int×Int)).isSome))]) (aI cols rows M))(c3:bt prog 117 [.one (.ptr 0 0),.one (.int .i64 ((aN cols mb k).1+1)),.one (.int .i64 ((aN cols mb k).2-1))] (aI cols rows M) (.tup [.one (c7 ((none:Option (Int×Int)).getD (0,0))),.one (.bool ((none:Option (Int×Int)).isSome))]) (aI cols rows M)):bt prog 91 [.one (.ptr 0 0),.one (.int .i64 mb),.one (.int .i64 k)] (aI cols rows M) (.one (c7 (ox none none none))) (aI cols rows M):=by
 have h1:=h.c0;have h2:=h.c1;have h3:=h.r0;have h4:=h.r1;have hb:=gh h hm hk;have hmm:=h.mul;have hp:0<=(aN cols mb k).2/\(aN cols mb k).2<=17:=by unfold aN;simp only[];omega
 have hq:0<=(aN cols mb k).1/\(aN cols mb k).1<=17:=by unfold aN;simp only[];omega
 refine cO Tryz.func91 ?_
 repeat' (first
  |(refine qz ?_;first
   |refine cl ?_ (hi:=by exact gx (M:=M) h hm hk rfl rfl (by decide) rfl))
  |refine zz ?_|refine zx (fun _=>?_) (fun _=>?_)|fail)
 refine WX.cc rfl ?_
 repeat' (first
  |(refine qz ?_;first
   |refine LK ?_
   |refine cl ?_ (hi:=by exact jC (fun _ => .flat (.flat .nil)) (.flat (.flat .nil)) c1 rfl rfl (by decide) rfl)
   |refine cl ?_ (hi:=by exact jC (fun _ => .flat (.flat .nil)) (.flat (.flat .nil)) c2 rfl rfl (by decide) rfl)
   |refine cl ?_ (hi:=by exact jC (fun _ => .flat (.flat .nil)) (.flat (.flat .nil)) c3 rfl rfl (by decide) rfl)
   |refine wm (enc:=gH) ?_
   |refine x7 (enc:=gH) (i:=2) (n:=0) (q:=[]) ?_
   |refine x7 (enc:=gH) ?_
   |refine Nw (enc:=gH) (f:=c7) (fun _=>rfl) ?_
   |refine cl ?_ (hi:=by exact h_ (yt1 _ rfl) (yt2 _ rfl) (yt3 _ rfl) rfl))
  |refine WX.loop ?_|refine WX.round ?_|refine zz ?_|refine zx (fun _=>?_) (fun _=>?_)|fail)
 show aE _ _ _ _ _ _ _ _;refine kV [0,1] ?_;exact congrArg XV.one iK.symm
theorem Ke(c:Int×Int)(yt1:∀v,none=some v->bM v)(yt2:∀v,none=some v->bM v)(yt3:∀v,(some c)=some v->bM v)(c1:bt prog 117 [.one (.ptr 0 0),.one (.int .i64 ((aN cols mb k).1-1)),.one (.int .i64 ((aN cols mb k).2))] (aI cols rows M) (.tup [.one (c7 ((none:Option (Int×Int)).getD (0,0))),.one (.bool ((none:Option (Int×Int)).isSome))]) (aI cols rows M))(c2:bt prog 117 [.one (.ptr 0 0),.one (.int .i64 ((aN cols mb k).1)),.one (.int .i64 ((aN cols mb k).2-1))] (aI cols rows M) (.tup [.one (c7 ((none:Option (Int×Int)).getD (0,0))),.one (.bool ((none:Option (Int×Int)).isSome))]) (aI cols rows M))(c3:bt prog 117 [.one (.ptr 0 0),.one (.int .i64 ((aN cols mb k).1+1)),.one (.int .i64 ((aN cols mb k).2-1))] (aI cols rows M) (.tup [.one (c7 (((some c):Option (Int×Int)).getD (0,0))),.one (.bool (((some c):Option (Int×Int)).isSome))]) (aI cols rows M)):bt prog 91 [.one (.ptr 0 0),.one (.int .i64 mb),.one (.int .i64 k)] (aI cols rows M) (.one (c7 (ox none none (some c)))) (aI cols rows M):=by
 have h1:=h.c0;have h2:=h.c1;have h3:=h.r0;have h4:=h.r1;have hb:=gh h hm hk;have hmm:=h.mul;have hp:0<=(aN cols mb k).2/\(aN cols mb k).2<=17:=by unfold aN;simp only[];omega
 have hq:0<=(aN cols mb k).1/\(aN cols mb k).1<=17:=by unfold aN;simp only[];omega
 refine cO Tryz.func91 ?_
 repeat' (first
  |(refine qz ?_;first
   |refine cl ?_ (hi:=by exact gx (M:=M) h hm hk rfl rfl (by decide) rfl))
  |refine zz ?_|refine zx (fun _=>?_) (fun _=>?_)|fail)
 refine WX.cc rfl ?_
 repeat' (first
  |(refine qz ?_;first
   |refine LK ?_
   |refine cl ?_ (hi:=by exact jC (fun _ => .flat (.flat .nil)) (.flat (.flat .nil)) c1 rfl rfl (by decide) rfl)
   |refine cl ?_ (hi:=by exact jC (fun _ => .flat (.flat .nil)) (.flat (.flat .nil)) c2 rfl rfl (by decide) rfl)
   |refine cl ?_ (hi:=by exact jC (fun _ => .flat (.flat .nil)) (.flat (.flat .nil)) c3 rfl rfl (by decide) rfl)
   |refine wm (enc:=gH) ?_
   |refine x7 (enc:=gH) (i:=2) (n:=0) (q:=[]) ?_
   |refine x7 (enc:=gH) ?_
   |refine Nw (enc:=gH) (f:=c7) (fun _=>rfl) ?_
   |refine cl ?_ (hi:=by exact h_ (yt1 _ rfl) (yt2 _ rfl) (yt3 _ rfl) rfl))
  |refine WX.loop ?_|refine WX.round ?_|refine zz ?_|refine zx (fun _=>?_) (fun _=>?_)|fail)
 show aE _ _ _ _ _ _ _ _;refine kV [0,1] ?_;exact congrArg XV.one rfl
theorem Kf(b:Int×Int)(yt1:∀v,none=some v->bM v)(yt2:∀v,(some b)=some v->bM v)(yt3:∀v,none=some v->bM v)(c1:bt prog 117 [.one (.ptr 0 0),.one (.int .i64 ((aN cols mb k).1-1)),.one (.int .i64 ((aN cols mb k).2))] (aI cols rows M) (.tup [.one (c7 ((none:Option (Int×Int)).getD (0,0))),.one (.bool ((none:Option (Int×Int)).isSome))]) (aI cols rows M))(c2:bt prog 117 [.one (.ptr 0 0),.one (.int .i64 ((aN cols mb k).1)),.one (.int .i64 ((aN cols mb k).2-1))] (aI cols rows M) (.tup [.one (c7 (((some b):Option (Int×Int)).getD (0,0))),.one (.bool (((some b):Option (Int×Int)).isSome))]) (aI cols rows M))(c3:bt prog 117 [.one (.ptr 0 0),.one (.int .i64 ((aN cols mb k).1+1)),.one (.int .i64 ((aN cols mb k).2-1))] (aI cols rows M) (.tup [.one (c7 ((none:Option (Int×Int)).getD (0,0))),.one (.bool ((none:Option (Int×Int)).isSome))]) (aI cols rows M)):bt prog 91 [.one (.ptr 0 0),.one (.int .i64 mb),.one (.int .i64 k)] (aI cols rows M) (.one (c7 (ox none (some b) none))) (aI cols rows M):=by
 have h1:=h.c0;have h2:=h.c1;have h3:=h.r0;have h4:=h.r1;have hb:=gh h hm hk;have hmm:=h.mul;have hp:0<=(aN cols mb k).2/\(aN cols mb k).2<=17:=by unfold aN;simp only[];omega
 have hq:0<=(aN cols mb k).1/\(aN cols mb k).1<=17:=by unfold aN;simp only[];omega
 refine cO Tryz.func91 ?_
 repeat' (first
  |(refine qz ?_;first
   |refine cl ?_ (hi:=by exact gx (M:=M) h hm hk rfl rfl (by decide) rfl))
  |refine zz ?_|refine zx (fun _=>?_) (fun _=>?_)|fail)
 refine WX.cc rfl ?_
 repeat' (first
  |(refine qz ?_;first
   |refine LK ?_
   |refine cl ?_ (hi:=by exact jC (fun _ => .flat (.flat .nil)) (.flat (.flat .nil)) c1 rfl rfl (by decide) rfl)
   |refine cl ?_ (hi:=by exact jC (fun _ => .flat (.flat .nil)) (.flat (.flat .nil)) c2 rfl rfl (by decide) rfl)
   |refine cl ?_ (hi:=by exact jC (fun _ => .flat (.flat .nil)) (.flat (.flat .nil)) c3 rfl rfl (by decide) rfl)
   |refine wm (enc:=gH) ?_
   |refine x7 (enc:=gH) (i:=2) (n:=0) (q:=[]) ?_
   |refine x7 (enc:=gH) ?_
   |refine Nw (enc:=gH) (f:=c7) (fun _=>rfl) ?_
   |refine cl ?_ (hi:=by exact h_ (yt1 _ rfl) (yt2 _ rfl) (yt3 _ rfl) rfl))
  |refine WX.loop ?_|refine WX.round ?_|refine zz ?_|refine zx (fun _=>?_) (fun _=>?_)|fail)
 show aE _ _ _ _ _ _ _ _;refine kV [0,1] ?_;exact congrArg XV.one rfl
theorem Kg(b c:Int×Int)(yt1:∀v,none=some v->bM v)(yt2:∀v,(some b)=some v->bM v)(yt3:∀v,(some c)=some v->bM v)(c1:bt prog 117 [.one (.ptr 0 0),.one (.int .i64 ((aN cols mb k).1-1)),.one (.int .i64 ((aN cols mb k).2))] (aI cols rows M) (.tup [.one (c7 ((none:Option (Int×Int)).getD (0,0))),.one (.bool ((none:Option (Int×Int)).isSome))]) (aI cols rows M))(c2:bt prog 117 [.one (.ptr 0 0),.one (.int .i64 ((aN cols mb k).1)),.one (.int .i64 ((aN cols mb k).2-1))] (aI cols rows M) (.tup [.one (c7 (((some b):Option (Int×Int)).getD (0,0))),.one (.bool (((some b):Option (Int×Int)).isSome))]) (aI cols rows M))(c3:bt prog 117 [.one (.ptr 0 0),.one (.int .i64 ((aN cols mb k).1+1)),.one (.int .i64 ((aN cols mb k).2-1))] (aI cols rows M) (.tup [.one (c7 (((some c):Option (Int×Int)).getD (0,0))),.one (.bool (((some c):Option (Int×Int)).isSome))]) (aI cols rows M)):bt prog 91 [.one (.ptr 0 0),.one (.int .i64 mb),.one (.int .i64 k)] (aI cols rows M) (.one (c7 (ox none (some b) (some c)))) (aI cols rows M):=by
 have h1:=h.c0;have h2:=h.c1;have h3:=h.r0;have h4:=h.r1;have hb:=gh h hm hk;have hmm:=h.mul;have hp:0<=(aN cols mb k).2/\(aN cols mb k).2<=17:=by unfold aN;simp only[];omega
 have hq:0<=(aN cols mb k).1/\(aN cols mb k).1<=17:=by unfold aN;simp only[];omega
 refine cO Tryz.func91 ?_
 repeat' (first
  |(refine qz ?_;first
   |refine cl ?_ (hi:=by exact gx (M:=M) h hm hk rfl rfl (by decide) rfl))
  |refine zz ?_|refine zx (fun _=>?_) (fun _=>?_)|fail)
 refine WX.cc rfl ?_
 repeat' (first
  |(refine qz ?_;first
   |refine LK ?_
   |refine cl ?_ (hi:=by exact jC (fun _ => .flat (.flat .nil)) (.flat (.flat .nil)) c1 rfl rfl (by decide) rfl)
   |refine cl ?_ (hi:=by exact jC (fun _ => .flat (.flat .nil)) (.flat (.flat .nil)) c2 rfl rfl (by decide) rfl)
   |refine cl ?_ (hi:=by exact jC (fun _ => .flat (.flat .nil)) (.flat (.flat .nil)) c3 rfl rfl (by decide) rfl)
   |refine wm (enc:=gH) ?_
   |refine x7 (enc:=gH) (i:=2) (n:=0) (q:=[]) ?_
   |refine x7 (enc:=gH) ?_
   |refine Nw (enc:=gH) (f:=c7) (fun _=>rfl) ?_
   |refine cl ?_ (hi:=by exact h_ (yt1 _ rfl) (yt2 _ rfl) (yt3 _ rfl) rfl))
  |refine WX.loop ?_|refine WX.round ?_|refine zz ?_|refine zx (fun _=>?_) (fun _=>?_)|fail)
 show aE _ _ _ _ _ _ _ _;refine kV [0,1] ?_;exact congrArg XV.one rfl
theorem Kh(a:Int×Int)(yt1:∀v,(some a)=some v->bM v)(yt2:∀v,none=some v->bM v)(yt3:∀v,none=some v->bM v)(c1:bt prog 117 [.one (.ptr 0 0),.one (.int .i64 ((aN cols mb k).1-1)),.one (.int .i64 ((aN cols mb k).2))] (aI cols rows M) (.tup [.one (c7 (((some a):Option (Int×Int)).getD (0,0))),.one (.bool (((some a):Option (Int×Int)).isSome))]) (aI cols rows M))(c2:bt prog 117 [.one (.ptr 0 0),.one (.int .i64 ((aN cols mb k).1)),.one (.int .i64 ((aN cols mb k).2-1))] (aI cols rows M) (.tup [.one (c7 ((none:Option (Int×Int)).getD (0,0))),.one (.bool ((none:Option (Int×Int)).isSome))]) (aI cols rows M))(c3:bt prog 117 [.one (.ptr 0 0),.one (.int .i64 ((aN cols mb k).1+1)),.one (.int .i64 ((aN cols mb k).2-1))] (aI cols rows M) (.tup [.one (c7 ((none:Option (Int×Int)).getD (0,0))),.one (.bool ((none:Option (Int×Int)).isSome))]) (aI cols rows M)):bt prog 91 [.one (.ptr 0 0),.one (.int .i64 mb),.one (.int .i64 k)] (aI cols rows M) (.one (c7 (ox (some a) none none))) (aI cols rows M):=by
 have h1:=h.c0;have h2:=h.c1;have h3:=h.r0;have h4:=h.r1;have hb:=gh h hm hk;have hmm:=h.mul;have hp:0<=(aN cols mb k).2/\(aN cols mb k).2<=17:=by unfold aN;simp only[];omega
 have hq:0<=(aN cols mb k).1/\(aN cols mb k).1<=17:=by unfold aN;simp only[];omega
 refine cO Tryz.func91 ?_
 repeat' (first
  |(refine qz ?_;first
   |refine cl ?_ (hi:=by exact gx (M:=M) h hm hk rfl rfl (by decide) rfl))
  |refine zz ?_|refine zx (fun _=>?_) (fun _=>?_)|fail)
 refine WX.cc rfl ?_
 repeat' (first
  |(refine qz ?_;first
   |refine LK ?_
   |refine cl ?_ (hi:=by exact jC (fun _ => .flat (.flat .nil)) (.flat (.flat .nil)) c1 rfl rfl (by decide) rfl)
   |refine cl ?_ (hi:=by exact jC (fun _ => .flat (.flat .nil)) (.flat (.flat .nil)) c2 rfl rfl (by decide) rfl)
   |refine cl ?_ (hi:=by exact jC (fun _ => .flat (.flat .nil)) (.flat (.flat .nil)) c3 rfl rfl (by decide) rfl)
   |refine wm (enc:=gH) ?_
   |refine x7 (enc:=gH) (i:=2) (n:=0) (q:=[]) ?_
   |refine x7 (enc:=gH) ?_
   |refine Nw (enc:=gH) (f:=c7) (fun _=>rfl) ?_
   |refine cl ?_ (hi:=by exact h_ (yt1 _ rfl) (yt2 _ rfl) (yt3 _ rfl) rfl))
  |refine WX.loop ?_|refine WX.round ?_|refine zz ?_|refine zx (fun _=>?_) (fun _=>?_)|fail)
 show aE _ _ _ _ _ _ _ _;refine kV [0,1] ?_;exact congrArg XV.one rfl
theorem Ki(a c:Int×Int)(yt1:∀v,(some a)=some v->bM v)(yt2:∀v,none=some v->bM v)(yt3:∀v,(some c)=some v->bM v)(c1:bt prog 117 [.one (.ptr 0 0),.one (.int .i64 ((aN cols mb k).1-1)),.one (.int .i64 ((aN cols mb k).2))] (aI cols rows M) (.tup [.one (c7 (((some a):Option (Int×Int)).getD (0,0))),.one (.bool (((some a):Option (Int×Int)).isSome))]) (aI cols rows M))(c2:bt prog 117 [.one (.ptr 0 0),.one (.int .i64 ((aN cols mb k).1)),.one (.int .i64 ((aN cols mb k).2-1))] (aI cols rows M) (.tup [.one (c7 ((none:Option (Int×Int)).getD (0,0))),.one (.bool ((none:Option (Int×Int)).isSome))]) (aI cols rows M))(c3:bt prog 117 [.one (.ptr 0 0),.one (.int .i64 ((aN cols mb k).1+1)),.one (.int .i64 ((aN cols mb k).2-1))] (aI cols rows M) (.tup [.one (c7 (((some c):Option (Int×Int)).getD (0,0))),.one (.bool (((some c):Option (Int×Int)).isSome))]) (aI cols rows M)):bt prog 91 [.one (.ptr 0 0),.one (.int .i64 mb),.one (.int .i64 k)] (aI cols rows M) (.one (c7 (ox (some a) none (some c)))) (aI cols rows M):=by
 have h1:=h.c0;have h2:=h.c1;have h3:=h.r0;have h4:=h.r1;have hb:=gh h hm hk;have hmm:=h.mul;have hp:0<=(aN cols mb k).2/\(aN cols mb k).2<=17:=by unfold aN;simp only[];omega
 have hq:0<=(aN cols mb k).1/\(aN cols mb k).1<=17:=by unfold aN;simp only[];omega
 refine cO Tryz.func91 ?_
 repeat' (first
  |(refine qz ?_;first
   |refine cl ?_ (hi:=by exact gx (M:=M) h hm hk rfl rfl (by decide) rfl))
  |refine zz ?_|refine zx (fun _=>?_) (fun _=>?_)|fail)
 refine WX.cc rfl ?_
 repeat' (first
  |(refine qz ?_;first
   |refine LK ?_
   |refine cl ?_ (hi:=by exact jC (fun _ => .flat (.flat .nil)) (.flat (.flat .nil)) c1 rfl rfl (by decide) rfl)
   |refine cl ?_ (hi:=by exact jC (fun _ => .flat (.flat .nil)) (.flat (.flat .nil)) c2 rfl rfl (by decide) rfl)
   |refine cl ?_ (hi:=by exact jC (fun _ => .flat (.flat .nil)) (.flat (.flat .nil)) c3 rfl rfl (by decide) rfl)
   |refine wm (enc:=gH) ?_
   |refine x7 (enc:=gH) (i:=2) (n:=0) (q:=[]) ?_
   |refine x7 (enc:=gH) ?_
   |refine Nw (enc:=gH) (f:=c7) (fun _=>rfl) ?_
   |refine cl ?_ (hi:=by exact h_ (yt1 _ rfl) (yt2 _ rfl) (yt3 _ rfl) rfl))
  |refine WX.loop ?_|refine WX.round ?_|refine zz ?_|refine zx (fun _=>?_) (fun _=>?_)|fail)
 show aE _ _ _ _ _ _ _ _;refine kV [0,1] ?_;exact congrArg XV.one rfl
theorem Kj(a b:Int×Int)(yt1:∀v,(some a)=some v->bM v)(yt2:∀v,(some b)=some v->bM v)(yt3:∀v,none=some v->bM v)(c1:bt prog 117 [.one (.ptr 0 0),.one (.int .i64 ((aN cols mb k).1-1)),.one (.int .i64 ((aN cols mb k).2))] (aI cols rows M) (.tup [.one (c7 (((some a):Option (Int×Int)).getD (0,0))),.one (.bool (((some a):Option (Int×Int)).isSome))]) (aI cols rows M))(c2:bt prog 117 [.one (.ptr 0 0),.one (.int .i64 ((aN cols mb k).1)),.one (.int .i64 ((aN cols mb k).2-1))] (aI cols rows M) (.tup [.one (c7 (((some b):Option (Int×Int)).getD (0,0))),.one (.bool (((some b):Option (Int×Int)).isSome))]) (aI cols rows M))(c3:bt prog 117 [.one (.ptr 0 0),.one (.int .i64 ((aN cols mb k).1+1)),.one (.int .i64 ((aN cols mb k).2-1))] (aI cols rows M) (.tup [.one (c7 ((none:Option (Int×Int)).getD (0,0))),.one (.bool ((none:Option (Int×Int)).isSome))]) (aI cols rows M)):bt prog 91 [.one (.ptr 0 0),.one (.int .i64 mb),.one (.int .i64 k)] (aI cols rows M) (.one (c7 (ox (some a) (some b) none))) (aI cols rows M):=by
 have h1:=h.c0;have h2:=h.c1;have h3:=h.r0;have h4:=h.r1;have hb:=gh h hm hk;have hmm:=h.mul;have hp:0<=(aN cols mb k).2/\(aN cols mb k).2<=17:=by unfold aN;simp only[];omega
 have hq:0<=(aN cols mb k).1/\(aN cols mb k).1<=17:=by unfold aN;simp only[];omega
 refine cO Tryz.func91 ?_
 repeat' (first
  |(refine qz ?_;first
   |refine cl ?_ (hi:=by exact gx (M:=M) h hm hk rfl rfl (by decide) rfl))
  |refine zz ?_|refine zx (fun _=>?_) (fun _=>?_)|fail)
 refine WX.cc rfl ?_
 repeat' (first
  |(refine qz ?_;first
   |refine LK ?_
   |refine cl ?_ (hi:=by exact jC (fun _ => .flat (.flat .nil)) (.flat (.flat .nil)) c1 rfl rfl (by decide) rfl)
   |refine cl ?_ (hi:=by exact jC (fun _ => .flat (.flat .nil)) (.flat (.flat .nil)) c2 rfl rfl (by decide) rfl)
   |refine cl ?_ (hi:=by exact jC (fun _ => .flat (.flat .nil)) (.flat (.flat .nil)) c3 rfl rfl (by decide) rfl)
   |refine wm (enc:=gH) ?_
   |refine x7 (enc:=gH) (i:=2) (n:=0) (q:=[]) ?_
   |refine x7 (enc:=gH) ?_
   |refine Nw (enc:=gH) (f:=c7) (fun _=>rfl) ?_
   |refine cl ?_ (hi:=by exact h_ (yt1 _ rfl) (yt2 _ rfl) (yt3 _ rfl) rfl))
  |refine WX.loop ?_|refine WX.round ?_|refine zz ?_|refine zx (fun _=>?_) (fun _=>?_)|fail)
 show aE _ _ _ _ _ _ _ _;refine kV [0,1] ?_;exact congrArg XV.one rfl
theorem Kk(a b c:Int×Int)(yt1:∀v,(some a)=some v->bM v)(yt2:∀v,(some b)=some v->bM v)(yt3:∀v,(some c)=some v->bM v)(c1:bt prog 117 [.one (.ptr 0 0),.one (.int .i64 ((aN cols mb k).1-1)),.one (.int .i64 ((aN cols mb k).2))] (aI cols rows M) (.tup [.one (c7 (((some a):Option (Int×Int)).getD (0,0))),.one (.bool (((some a):Option (Int×Int)).isSome))]) (aI cols rows M))(c2:bt prog 117 [.one (.ptr 0 0),.one (.int .i64 ((aN cols mb k).1)),.one (.int .i64 ((aN cols mb k).2-1))] (aI cols rows M) (.tup [.one (c7 (((some b):Option (Int×Int)).getD (0,0))),.one (.bool (((some b):Option (Int×Int)).isSome))]) (aI cols rows M))(c3:bt prog 117 [.one (.ptr 0 0),.one (.int .i64 ((aN cols mb k).1+1)),.one (.int .i64 ((aN cols mb k).2-1))] (aI cols rows M) (.tup [.one (c7 (((some c):Option (Int×Int)).getD (0,0))),.one (.bool (((some c):Option (Int×Int)).isSome))]) (aI cols rows M)):bt prog 91 [.one (.ptr 0 0),.one (.int .i64 mb),.one (.int .i64 k)] (aI cols rows M) (.one (c7 (ox (some a) (some b) (some c)))) (aI cols rows M):=by
 have h1:=h.c0;have h2:=h.c1;have h3:=h.r0;have h4:=h.r1;have hb:=gh h hm hk;have hmm:=h.mul;have hp:0<=(aN cols mb k).2/\(aN cols mb k).2<=17:=by unfold aN;simp only[];omega
 have hq:0<=(aN cols mb k).1/\(aN cols mb k).1<=17:=by unfold aN;simp only[];omega
 refine cO Tryz.func91 ?_
 repeat' (first
  |(refine qz ?_;first
   |refine cl ?_ (hi:=by exact gx (M:=M) h hm hk rfl rfl (by decide) rfl))
  |refine zz ?_|refine zx (fun _=>?_) (fun _=>?_)|fail)
 refine WX.cc rfl ?_
 repeat' (first
  |(refine qz ?_;first
   |refine LK ?_
   |refine cl ?_ (hi:=by exact jC (fun _ => .flat (.flat .nil)) (.flat (.flat .nil)) c1 rfl rfl (by decide) rfl)
   |refine cl ?_ (hi:=by exact jC (fun _ => .flat (.flat .nil)) (.flat (.flat .nil)) c2 rfl rfl (by decide) rfl)
   |refine cl ?_ (hi:=by exact jC (fun _ => .flat (.flat .nil)) (.flat (.flat .nil)) c3 rfl rfl (by decide) rfl)
   |refine wm (enc:=gH) ?_
   |refine x7 (enc:=gH) (i:=2) (n:=0) (q:=[]) ?_
   |refine x7 (enc:=gH) ?_
   |refine Nw (enc:=gH) (f:=c7) (fun _=>rfl) ?_
   |refine cl ?_ (hi:=by exact h_ (yt1 _ rfl) (yt2 _ rfl) (yt3 _ rfl) rfl))
  |refine WX.loop ?_|refine WX.round ?_|refine zz ?_|refine zx (fun _=>?_) (fun _=>?_)|fail)
 show aE _ _ _ _ _ _ _ _;refine kV [0,1] ?_;exact congrArg XV.one rfl
end
theorem Kl{cols rows mb k:Int}{M:jH}(hM:fN M)(h:lU cols rows)(hm:0<=mb/\mb<cols*rows)(hk:0<=k/\k<4):bt prog 91 [.one (.ptr 0 0),.one (.int .i64 mb),.one (.int .i64 k)] (aI cols rows M) (.one (c7 (gI M cols rows mb k))) (aI cols rows M):=by
 have h1:=h.c0;have h2:=h.c1;have h3:=h.r0;have h4:=h.r1;have hb:=gh h hm hk;have hmm:=h.mul;have hp:0<=(aN cols mb k).2/\(aN cols mb k).2<=17:=by unfold aN;simp only[];omega
 have hq:0<=(aN cols mb k).1/\(aN cols mb k).1<=17:=by unfold aN;simp only[];omega
 have c1:=yV (M:=M) h (x:=(aN cols mb k).1-1) (y:=(aN cols mb k).2) (by omega) (by omega);have c2:=yV (M:=M) h (x:=(aN cols mb k).1) (y:=(aN cols mb k).2-1) (by omega) (by omega);have c3:=yV (M:=M) h (x:=(aN cols mb k).1+1) (y:=(aN cols mb k).2-1) (by omega) (by omega);have yt1:∀v,lB M cols rows ((aN cols mb k).1-1) (aN cols mb k).2=some v->bM v:=fun v hv=>ja hM hv
 have yt2:∀v,lB M cols rows (aN cols mb k).1 ((aN cols mb k).2-1)=some v->bM v:=fun v hv=>ja hM hv
 have yt3:∀v,lB M cols rows ((aN cols mb k).1+1) ((aN cols mb k).2-1)=some v->bM v:=fun v hv=>ja hM hv
 unfold gI;generalize lB M cols rows ((aN cols mb k).1-1) (aN cols mb k).2=la at c1 yt1 ⊢;generalize lB M cols rows (aN cols mb k).1 ((aN cols mb k).2-1)=lb at c2 yt2 ⊢;generalize lB M cols rows ((aN cols mb k).1+1) ((aN cols mb k).2-1)=lc at c3 yt3 ⊢
 rcases la with _|a<;>rcases lb with _|b<;>rcases lc with _|c
 ·exact Kd h hm hk yt1 yt2 yt3 c1 c2 c3
 ·exact Ke h hm hk c yt1 yt2 yt3 c1 c2 c3
 ·exact Kf h hm hk b yt1 yt2 yt3 c1 c2 c3
 ·exact Kg h hm hk b c yt1 yt2 yt3 c1 c2 c3
 ·exact Kh h hm hk a yt1 yt2 yt3 c1 c2 c3
 ·exact Ki h hm hk a c yt1 yt2 yt3 c1 c2 c3
 ·exact Kj h hm hk a b yt1 yt2 yt3 c1 c2 c3
 ·exact Kk h hm hk a b c yt1 yt2 yt3 c1 c2 c3
theorem C0{la lb lc:Option (Int×Int)}(h1:∀v,la=some v->bM v)(h2:∀v,lb=some v->bM v)(h3:∀v,lc=some v->bM v):bM (ox la lb lc):=by
 rcases la with _|a<;>rcases lb with _|b<;>rcases lc with _|c<;>unfold ox<;>simp only[]
 ·exact⟨⟨by decide,by decide⟩,⟨by decide,by decide⟩⟩
 ·exact h3 _ rfl
 ·exact h2 _ rfl
 ·exact h2 _ rfl
 ·exact h1 _ rfl
 ·exact h1 _ rfl
 ·exact h1 _ rfl
 ·exact⟨xj (h1 _ rfl).1 (h2 _ rfl).1 (h3 _ rfl).1,xj (h1 _ rfl).2 (h2 _ rfl).2 (h3 _ rfl).2⟩
theorem mf{cols rows mb k:Int}{M:jH}(hM:fN M):bM (gI M cols rows mb k):=C0 (fun v hv=>ja hM hv) (fun v hv=>ja hM hv) (fun v hv=>ja hM hv)
instance R7 (p:Int×Int):b8 (.one (c7 p)):=eL rfl
theorem q_{cols rows mb k:Int}{M:jH}(hM:fN M)(h:lU cols rows)(hm:0<=mb/\mb<cols*rows)(hk:0<=k/\k<4){HS:aj}{i j:Nat}(hi:HS[i]? = some (fD j cols rows))(hj:HS[j]? = some (.map (cE M)))(hd:i≠j)(hbd:Nat.blt HS.length Mem.bound=true) :
 aA.Sound prog ⟨91,[.one (.ptr i 0),.one (.int .i64 mb),.one (.int .i64 k)],HS,.one (c7 (gI M cols rows mb k)),HS,[]⟩:=
 jC (fun _ => .flat (.flat .nil)) (.flat (.flat .nil)) (Kl hM h hm hk) hi hj hd hbd
end Go.Proofs.YthdciapjllppjaaGreat
