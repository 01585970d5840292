/-
  A part of the proof: FieldV.
-/
import Derived.Test.YthdciapjllppjaaGreatFbL
set_option maxRecDepth 10000
set_option maxHeartbeats 8000000
set_option linter.unusedVariables false
set_option linter.unusedSectionVars false
set_option linter.unusedSimpArgs false
open Go.Proofs.Tryz (prog)
namespace Go.Xm
variable [av]
variable {P:Program} {ops:Array Oper} {nt nI:Nat} {al:aL} {hs:ah} {o:Oper} {l:List Oper} {L:List aA} {K:List Ab->aL->ah->Prop} {d:Nat}
theorem KG{t:TypeId}{x ix:Operand}{len:Nat}{elem:TypeId}{cs:List XC}{k:IntKind}{z:Int}{c:XC}(hk:SK P ops nt L l ((d,.one c)::al) hs fun bs=>K (quiet::bs))(ho:o.op = .index t x ix:=by exact rfl)(hw:aw ops (rg al) o=some true:=by exact rfl)(hd:o.dst=some d:=by exact rfl)(hlt:Nat.blt d nt=true:=by exact rfl)
 (ha:ag (rg al) x = .agg cs:=by exact rfl) (hb:ag (rg al) ix = .one (.int k z):=by exact rfl) (hu:aG P t (.array len elem):=by infer_instance) (hs':aF P elem 1:=by infer_instance) (hg:cA P elem:=by infer_instance) (hz:0<=z/\z<(len:Nat):=by omega) (hc:cs[z.toNat]? = some c:=by exact rfl):SK P ops nt L (o::l) al hs K:=
 kP hw hd hlt (by rw[ho];simp only[aR,pS,ha,hb,hu.out,hs'.out,if_pos hz,lU,hg.out,Nat.mul_one,hc,Option.map_some,X1.oU]) hk
theorem Lt{t:TypeId}{x ix:Operand}{len s:Nat}{elem:TypeId}{cs cs':List XC}{k:IntKind}{z:Int}(hk:SK P ops nt L l ((d,.agg cs')::al) hs fun bs=>K (quiet::bs))(ho:o.op = .index t x ix:=by exact rfl)(hw:aw ops (rg al) o=some true:=by exact rfl)(hd:o.dst=some d:=by exact rfl)(hlt:Nat.blt d nt=true:=by exact rfl)
 (ha:ag (rg al) x = .agg cs:=by exact rfl) (hb:ag (rg al) ix = .one (.int k z):=by exact rfl) (hu:aG P t (.array len elem):=by infer_instance) (hs':aF P elem s:=by infer_instance) (hg:cU P elem:=by infer_instance) (hz:0<=z/\z<(len:Nat):=by omega) (hc:(cs.drop (z.toNat*s)).take s=cs':=by exact rfl):SK P ops nt L (o::l) al hs K:=
 kP hw hd hlt (by rw[ho];simp only[aR,pS,ha,hb,hu.out,hs'.out,if_pos hz,lU,hg.out,hc,Option.map_some,X1.oU]) hk
theorem Pd{k:IntKind}{n:Nat}{q:Nat->Int}{a s:Nat}(h:a+s<=n):((ti k n q).drop a).take s=ti k s (fun i=>q (a+i)):=by
 apply List.ext_getElem?;intro i;rw[List.getElem?_take,List.getElem?_drop]
 by_cases hi:i<s
 ·rw[if_pos hi,lu (by omega),lu hi]
 ·rw[if_neg hi,List.getElem?_eq_none (by rw[aS];omega)]
theorem QC{t:TypeId}{x ix:Operand}{len n:Nat}{elem:TypeId}{q:Nat->Int}{k k':IntKind}{z:Int}(hk:SK P ops nt L l ((d,.one (.int k' (q z.toNat)))::al) hs fun bs=>K (quiet::bs))(ho:o.op = .index t x ix:=by exact rfl)(hw:aw ops (rg al) o=some true:=by exact rfl)(hd:o.dst=some d:=by exact rfl)(hlt:Nat.blt d nt=true:=by exact rfl)
 (ha:ag (rg al) x = .agg (ti k' n q):=by exact rfl) (hb:ag (rg al) ix = .one (.int k z):=by exact rfl) (hu:aG P t (.array len elem):=by infer_instance) (hs':aF P elem 1:=by infer_instance) (hg:cA P elem:=by infer_instance) (hz:0<=z/\z<(len:Nat):=by omega) (hln:len=n:=by exact rfl):SK P ops nt L (o::l) al hs K:=
 KG hk ho hw hd hlt ha hb hu hs' hg hz (lu (by omega))
theorem Ls{t:TypeId}{x ix:Operand}{len n s:Nat}{elem:TypeId}{q:Nat->Int}{k k':IntKind}{z:Int}(hk:SK P ops nt L l ((d,.agg (ti k' s fun i=>q (z.toNat*s+i)))::al) hs fun bs=>K (quiet::bs))(ho:o.op = .index t x ix:=by exact rfl)(hw:aw ops (rg al) o=some true:=by exact rfl)(hd:o.dst=some d:=by exact rfl)(hlt:Nat.blt d nt=true:=by exact rfl)
 (ha:ag (rg al) x = .agg (ti k' n q):=by exact rfl) (hb:ag (rg al) ix = .one (.int k z):=by exact rfl) (hu:aG P t (.array len elem):=by infer_instance) (hs':aF P elem s:=by infer_instance) (hg:cU P elem:=by infer_instance) (hz:0<=z/\z<(len:Nat):=by omega) (hln:len*s=n:=by exact rfl):SK P ops nt L (o::l) al hs K:=
 Lt hk ho hw hd hlt ha hb hu hs' hg hz (Pd (by
  have h1:z.toNat+1<=len:=by omega
  have h2:=Nat.mul_le_mul_right s h1;rw[Nat.add_mul,Nat.one_mul]at h2
  omega))
theorem Dv{α : Type}{enc : α->List XC}{f : α->XC}(henc:∀a,enc a = [f a])(q:List α):fl enc q=q.map f:=by
 unfold fl
 induction q with
 | nil=>rfl
 | cons a q ih=>rw[List.flatMap_cons,ih,henc];rfl
theorem Na{α : Type}[Inhabited α]{enc : α->List XC}{f : α->XC}(henc:∀a,enc a = [f a]){t:TypeId}{a:Operand}{i off:Nat}{e:TypeId}{q:List α}(hk:SK P ops nt L l ((d,.one (f (q.getD off default)))::al) hs fun bs=>K (⟨false,some i,[]⟩::bs))(ho:o.op = .load t a:=by exact rfl)(ht:cA P t:=by infer_instance)(hw:aw ops (rg al) o=some true:=by exact rfl)(hd:o.dst=some d:=by exact rfl)(hlt:Nat.blt d nt=true:=by exact rfl)
 (ha:ag (rg al) a = .one (.ptr i off):=by exact rfl) (hi:hs[i]? = some (bz e (fl enc q)):=by exact rfl) (hc:off<q.length:=by first|omega|(simp only[List.length_cons,List.length_nil,List.length_append];first|omega|decide)):SK P ops nt L (o::l) al hs K:=by
 have h1:bz e (fl enc q) = .cells (fl enc q) e true false:=bG (fun hn=>by
  have:(fl enc q).length=0:=by rw[hn];rfl
  rw[Dv henc,List.length_map]at this
  omega)
 have h2:(fl enc q)[off]? = some (f (q.getD off default)):=by
  rw[Dv henc,List.getElem?_map,List.getD_eq_getElem?_getD,List.getElem?_eq_getElem hc];rfl
 exact fz ho hw hd hlt ha (hi.trans (congrArg some h1)) h2 hk
end Go.Xm
namespace Go.Proofs.YthdciapjllppjaaGreat
open Go.Xm
variable [av]
abbrev jm:=List (Int×(Int×Int))
def ME(p:Int×Int):X1 := .one (cI p)
abbrev cx(M:jm):List (X1×X1):=gD N7 ME M
instance Po (M:jm):b9 (.map (cx M)):=uo (fun _=>rfl) (fun _=>rfl) M
abbrev fi(m:Nat)(cols rows:Int):aj := .cells [.int .i64 cols,.int .i64 rows,.map m] 216 false false
abbrev aH(cols rows:Int)(M:jm):ah:=[fi 1 cols rows,.map (cx M)]
theorem MT:ky prog 101=some (.one (.cplx .f64 0 0)):=by kernel_rfl
theorem PK:ky prog 101=some (ME (0,0)):=by
 rw[MT];unfold ME;rw[ig]
instance R0 (a b:Int):b7 (.tup [.one (.int .i64 a),.one (.int .i64 b)]):=i5 rfl
structure lY(cols rows:Int):Prop where
 c0:1<=cols
 c1:cols<=8
 r0:1<=rows
 r1:rows<=8
theorem lY.mul{cols rows:Int}(h:lY cols rows):0<=cols*rows/\cols*rows<=64:=xU ⟨h.c0,h.c1⟩ ⟨by have:=h.r0;omega,h.r1⟩
theorem Ka(cols rows:Int)(h:lY cols rows):bm prog 83 [.one (.int .i64 cols),.one (.int .i64 rows)] [] (.one (.ptr 0 0)) (aH cols rows []):=by
 have h1:=h.c0;have h2:=h.c1;have h3:=h.r0;have h4:=h.r1;refine cO Tryz.func83 ?_
 repeat' (first|refine zz ?_|refine zx (fun _=>?_) (fun _=>?_)|fail)
 show aE _ _ _ _ _ _ _ _;refine kV [1,0] ?_;rfl
def aM(cols mb k:Int):Int×Int:=(2*(mb%cols)+k%2,2*(mb/cols)+k/2)
theorem fP{cols rows mb k:Int}(h:lY cols rows)(hm:0<=mb/\mb<cols*rows)(hk:0<=k/\k<4):0<=mb%cols/\mb%cols<cols/\0<=mb/cols/\mb/cols<rows:=by
 refine⟨Int.emod_nonneg _ (by have:=h.c0;omega),Int.emod_lt_of_pos _ (by have:=h.c0;omega),Int.ediv_nonneg hm.1 (by have:=h.c0;omega),?_⟩;exact Int.ediv_lt_of_lt_mul (by have:=h.c0;omega) (by rw[Int.mul_comm];exact hm.2)
theorem CC{cols rows mb k:Int}{M:jm}(h:lY cols rows)(hm:0<=mb/\mb<cols*rows)(hk:0<=k/\k<4):bm prog 116 [.one (.ptr 0 0),.one (.int .i64 mb),.one (.int .i64 k)] (aH cols rows M) (.tup [.one (.int .i64 (aM cols mb k).1),.one (.int .i64 (aM cols mb k).2)]) (aH cols rows M):=by
 have h1:=h.c0;have h2:=h.c1;have h3:=h.r0;have h4:=h.r1;have hb:=fP h hm hk;have hmm:=h.mul;refine cO Tryz.func116 ?_
 repeat' (first|refine zz ?_|refine zx (fun _=>?_) (fun _=>?_)|fail)
 show aE _ _ _ _ _ _ _ _;refine kV [0,1] ?_;rfl
theorem ji{f:FuncId}{more:List XV}(hm:∀τ,eL τ more more)(hmo:gB 2 more){v:XV}[b7 v]{cols rows:Int}{M:jm}(hc:bm prog f (.one (.ptr 0 0)::more) (aH cols rows M) v (aH cols rows M)){HS:ah}{i k:Nat}(hi:HS[i]? = some (fi k cols rows))(hk:HS[k]? = some (.map (cx M)))(hd:i≠k)(hbd:Nat.blt HS.length Mem.bound=true) :
 aA.Sound prog ⟨f,.one (.ptr i 0)::more,HS,v,HS,[]⟩:=by
 refine fV [i,k] hc (by simp[hd]) ?_ ?_ (.cons (by simp[XV.br,XC.ok]) hmo) (.cons rfl (hm _)) (b7.ok _) (b7.aB _) hbd rfl
 ·exact .cons hi (.flat hk .nil)
 ·exact .cons (by simp[aj.br,XC.ok]) (.flat .nil)
theorem fW{cols rows mb k:Int}{M:jm}(h:lY cols rows)(hm:0<=mb/\mb<cols*rows)(hk:0<=k/\k<4){HS:ah}{i j:Nat}(hi:HS[i]? = some (fi j cols rows))(hj:HS[j]? = some (.map (cx M)))(hd:i≠j)(hbd:Nat.blt HS.length Mem.bound=true) :
 aA.Sound prog ⟨116,[.one (.ptr i 0),.one (.int .i64 mb),.one (.int .i64 k)],HS,.tup [.one (.int .i64 (aM cols mb k).1),.one (.int .i64 (aM cols mb k).2)],HS,[]⟩:=
 ji (fun _ => .flat (.flat .nil)) (.flat (.flat .nil)) (CC h hm hk) hi hj hd hbd
def kR(M:jm)(cols rows x y:Int):Option (Int×Int):=if x<0\/y<0\/2*cols<=x\/2*rows<=y then none else dk M (y*2*cols+x)
instance RZ (p:Int×Int) (b:Bool):b7 (.tup [.one (cI p),.one (.bool b)]):=i5 rfl
theorem yJ{cols rows x y:Int}{M:jm}(h:lY cols rows)(hx : -1<=x/\x<=100)(hy : -1<=y/\y<=100):bm prog 117 [.one (.ptr 0 0),.one (.int .i64 x),.one (.int .i64 y)] (aH cols rows M) (.tup [.one (cI ((kR M cols rows x y).getD (0,0))),.one (.bool (kR M cols rows x y).isSome)]) (aH cols rows M):=by
 have h1:=h.c0;have h2:=h.c1;have h3:=h.r0;have h4:=h.r1;unfold kR
 by_cases hin:x<0\/y<0\/2*cols<=x\/2*rows<=y
 ·rw [if_pos hin];have e:cI ((none:Option (Int×Int)).getD (0,0)) = .cplx .f64 0 0:=ig;rw[e];refine cO Tryz.func117 ?_
  repeat' (first|refine zz ?_|refine zx (fun _=>?_) (fun _=>?_)|fail)
  all_goals
   first
    | (exfalso;omega)
    | (show aE _ _ _ _ _ _ _ _;refine kV [0,1] ?_;rfl)
 ·rw[if_neg hin]
  have hp:0<=y*2*cols/\y*2*cols<=1600:=⟨Int.mul_nonneg (by omega) (by omega),by
   have:=Int.mul_le_mul (show y*2<=200 by omega) h2 (by omega) (by decide)
   omega⟩
  refine cO Tryz.func117 ?_
  repeat' (first
   |(refine qz ?_;first
    |refine D5 rfl rfl rfl rfl sX PK rfl rfl rfl ?_)
   |refine zz ?_|refine zx (fun _=>?_) (fun _=>?_)|fail)
  show aE _ _ _ _ _ _ _ _;refine kV [0,1] ?_;rfl
def cD(M:jm)(cols mb k:Int)(v:Int×Int):jm:=rL M ((aM cols mb k).2*2*cols+(aM cols mb k).1) v
theorem Kc{cols rows mb k:Int}{M:jm}(h:lY cols rows)(hm:0<=mb/\mb<cols*rows)(hk:0<=k/\k<4)(v:Int×Int):bm prog 92 [.one (.ptr 0 0),.one (.int .i64 mb),.one (.int .i64 k),.one (cI v)] (aH cols rows M) (.tup []) (aH cols rows (cD M cols mb k v)):=by
 have h1:=h.c0;have h2:=h.c1;have h3:=h.r0;have h4:=h.r1;have hb:=fP h hm hk;have hmm:=h.mul;have hp:0<=(aM cols mb k).2/\(aM cols mb k).2<=17:=by unfold aM;simp only[];omega
 have hq:0<=(aM cols mb k).1/\(aM cols mb k).1<=17:=by unfold aM;simp only[];omega
 have hpp:0<=(aM cols mb k).2*2*cols/\(aM cols mb k).2*2*cols<=1600:=⟨Int.mul_nonneg (by omega) (by omega),by
  have:=Int.mul_le_mul (show(aM cols mb k).2*2<=200 by omega) h2 (by omega) (by decide)
  omega⟩
 refine cO Tryz.func92 ?_
 repeat' (first
  |(refine qz ?_;first
   |refine cl ?_ (hi:=by exact fW (M:=M) h hm hk rfl rfl (by decide) rfl)
   |refine u0 (vc:=ME) rfl rfl rfl sX rfl rfl rfl rfl (by first|(simp only[List.set_cons_succ,List.set_cons_zero];exact rfl)|exact rfl) ?_)
  |refine zz ?_|refine zx (fun _=>?_) (fun _=>?_)|fail)
 show aE _ _ _ _ _ _ _ _;refine kV [0,1] ?_;rfl
theorem jF{cols rows mb k:Int}{M:jm}(h:lY cols rows)(hm:0<=mb/\mb<cols*rows)(hk:0<=k/\k<4){v:Int×Int}{HS:ah}{i j:Nat}(hi:HS[i]? = some (fi j cols rows))(hj:HS[j]? = some (.map (cx M)))(hd:i≠j){HS':ah}(hh:HS.set j (.map (cx (cD M cols mb k v)))=HS')(hbd:Nat.blt HS'.length Mem.bound=true) :
 aA.Sound prog ⟨92,[.one (.ptr i 0),.one (.int .i64 mb),.one (.int .i64 k),.one (cI v)],HS,.tup [],HS',[j]⟩:=by
 have hh':bC HS [i,j] [fi j cols rows,.map (cx (cD M cols mb k v))]=HS':=by
  subst hh;simp only[bC,List.append_nil];rw[aC hi]
 refine bp [i,j] [j] 0 (Kc (M:=M) h hm hk v) (by simp[hd]) ?_ ?_ ?_ rfl (.cons (by simp[XV.br,XC.ok]) (.flat (.flat (.cons trivial .nil)))) (.cons rfl (.flat (.flat (.cons rfl .nil)))) (b7.ok _) (b7.aB _) ?_ rfl rfl hh' hbd (.inr fun q hq hj=>?_)
 ·exact .cons hi (.flat hj .nil)
 ·exact .cons (by simp[aj.br,XC.ok]) (.flat .nil)
 ·exact .cons (by simp[aj.br,XC.ok]) (.flat .nil)
 ·exact .cons rfl (.flat .nil)
 ·subst hh;rw[List.getElem?_set,if_neg (fun h=>hj (by rw[h];exact List.mem_singleton.2 rfl))]
def fv(M:jm):Prop:=∀key v,dk M key=some v->bK v
theorem Gn:fv []:=fun key v h=>by cases h
theorem Gp{M:jm}(h:fv M){key:Int}{v:Int×Int}(hv:bK v):fv (rL M key v):=fun key' v' h'=>by
 rw[rH]at h';split at h'
 ·cases h';exact hv
 ·exact h key' v' h'
def n_(la lb lc:Option (Int×Int)):Int×Int:=match la,lb,lc with
 | some a,some b,some c=>Om a b c
 | some a,_,_=>a
 | none,some b,_=>b
 | none,none,some c=>c
 | none,none,none=>(0,0)
def gk(M:jm)(cols rows mb k:Int):Int×Int:=
 n_ (kR M cols rows ((aM cols mb k).1-1) (aM cols mb k).2) (kR M cols rows (aM cols mb k).1 ((aM cols mb k).2-1)) (kR M cols rows ((aM cols mb k).1+1) ((aM cols mb k).2-1))
def gj(p:Int×Int):List XC:=[cI p]
instance:nk gj 1:=⟨fun _=>rfl,fun _=>rfl,by decide⟩
theorem iK{M:jm}(h:fv M){cols rows x y:Int}{v:Int×Int}(hv:kR M cols rows x y=some v):bK v:=by
 unfold kR at hv;split at hv
 ·cases hv
 ·exact h _ _ hv
section
variable {cols rows mb k:Int} {M:jm}(h:lY cols rows) (hm:0<=mb/\mb<cols*rows) (hk:0<=k/\k<4)
include h hm hk
theorem J2(yt1:∀v,none=some v->bK v)(yt2:∀v,none=some v->bK v)(yt3:∀v,none=some v->bK v)(c1:bm prog 117 [.one (.ptr 0 0),.one (.int .i64 ((aM cols mb k).1-1)),.one (.int .i64 ((aM cols mb k).2))] (aH cols rows M) (.tup [.one (cI ((none:Option (Int×Int)).getD (0,0))),.one (.bool ((none:Option (Int×Int)).isSome))]) (aH cols rows M))(c2:bm prog 117 [.one (.ptr 0 0),.one (.int .i64 ((aM cols mb k).1)),.one (.int .i64 ((aM cols mb k).2-1))] (aH cols rows M) (.tup [.one (cI ((none:Option (Int×Int)).getD (0,0))),.one (.bool ((none:Option (Int×Int)).isSome))]) (aH cols rows M))(c3:bm prog 117 [.one (.ptr 0 0),.one (.int .i64 ((aM cols mb k).1+1)),.one (.int .i64 ((aM cols mb k).2-1))] (aH cols rows M) (.tup [.one (cI ((none:Option (Int×Int)).getD (0,0))),.one (.bool ((none:Option (Int×Int)).isSome))]) (aH cols rows M)):bm prog 91 [.one (.ptr 0 0),.one (.int .i64 mb),.one (.int .i64 k)] (aH cols rows M) (.one (cI (n_ none none none))) (aH cols rows M):=by
 have h1:=h.c0;have h2:=h.c1;have h3:=h.r0;have h4:=h.r1;have hb:=fP h hm hk;have hmm:=h.mul;have hp:0<=(aM cols mb k).2/\(aM cols mb k).2<=17:=by unfold aM;simp only[];omega
 have hq:0<=(aM cols mb k).1/\(aM cols mb k).1<=17:=by unfold aM;simp only[];omega
 refine cO Tryz.func91 ?_
 repeat' (first
  |(refine qz ?_;first
   |refine cl ?_ (hi:=by exact fW (M:=M) h hm hk rfl rfl (by decide) rfl))
  |refine zz ?_|refine zx (fun _=>?_) (fun _=>?_)|fail)
 refine WX.cj rfl ?_
 repeat' (first
  |(refine qz ?_;first
   |refine Lt ?_
   |refine cl ?_ (hi:=by exact ji (fun _ => .flat (.flat .nil)) (.flat (.flat .nil)) c1 rfl rfl (by decide) rfl)
   |refine cl ?_ (hi:=by exact ji (fun _ => .flat (.flat .nil)) (.flat (.flat .nil)) c2 rfl rfl (by decide) rfl)
   |refine cl ?_ (hi:=by exact ji (fun _ => .flat (.flat .nil)) (.flat (.flat .nil)) c3 rfl rfl (by decide) rfl)
   |refine tH (enc:=gj) ?_
   |refine wi (enc:=gj) (i:=2) (n:=0) (q:=[]) ?_
   |refine wi (enc:=gj) ?_
   |refine Na (enc:=gj) (f:=cI) (fun _=>rfl) ?_
   |refine cl ?_ (hi:=by exact gK (yt1 _ rfl) (yt2 _ rfl) (yt3 _ rfl) rfl))
  |refine WX.loop ?_|refine WX.round ?_|refine zz ?_|refine zx (fun _=>?_) (fun _=>?_)|fail)
 show aE _ _ _ _ _ _ _ _;refine kV [0,1] ?_;exact congrArg XV.one ig.symm
theorem J3(c:Int×Int)(yt1:∀v,none=some v->bK v)(yt2:∀v,none=some v->bK v)(yt3:∀v,(some c)=some v->bK v)(c1:bm prog 117 [.one (.ptr 0 0),.one (.int .i64 ((aM cols mb k).1-1)),.one (.int .i64 ((aM cols mb k).2))] (aH cols rows M) (.tup [.one (cI ((none:Option (Int×Int)).getD (0,0))),.one (.bool ((none:Option (Int×Int)).isSome))]) (aH cols rows M))(c2:bm prog 117 [.one (.ptr 0 0),.one (.int .i64 ((aM cols mb k).1)),.one (.int .i64 ((aM cols mb k).2-1))] (aH cols rows M) (.tup [.one (cI ((none:Option (Int×Int)).getD (0,0))),.one (.bool ((none:Option (Int×Int)).isSome))]) (aH cols rows M))(c3:bm prog 117 [.one (.ptr 0 0),.one (.int .i64 ((aM cols mb k).1+1)),.one (.int .i64 ((aM cols mb k).2-1))] (aH cols rows M) (.tup [.one (cI (((some c):Option (Int×Int)).getD (0,0))),.one (.bool (((some c):Option (Int×Int)).isSome))]) (aH cols rows M)):bm prog 91 [.one (.ptr 0 0),.one (.int .i64 mb),.one (.int .i64 k)] (aH cols rows M) (.one (cI (n_ none none (some c)))) (aH cols rows M):=by
 have h1:=h.c0;have h2:=h.c1;have h3:=h.r0;have h4:=h.r1;have hb:=fP h hm hk;have hmm:=h.mul;have hp:0<=(aM cols mb k).2/\(aM cols mb k).2<=17:=by unfold aM;simp only[];omega
 have hq:0<=(aM cols mb k).1/\(aM cols mb k).1<=17:=by unfold aM;simp only[];omega
 refine cO Tryz.func91 ?_
 repeat' (first
  |(refine qz ?_;first
   |refine cl ?_ (hi:=by exact fW (M:=M) h hm hk rfl rfl (by decide) rfl))
  |refine zz ?_|refine zx (fun _=>?_) (fun _=>?_)|fail)
 refine WX.cj rfl ?_
 repeat' (first
  |(refine qz ?_;first
   |refine Lt ?_
   |refine cl ?_ (hi:=by exact ji (fun _ => .flat (.flat .nil)) (.flat (.flat .nil)) c1 rfl rfl (by decide) rfl)
   |refine cl ?_ (hi:=by exact ji (fun _ => .flat (.flat .nil)) (.flat (.flat .nil)) c2 rfl rfl (by decide) rfl)
   |refine cl ?_ (hi:=by exact ji (fun _ => .flat (.flat .nil)) (.flat (.flat .nil)) c3 rfl rfl (by decide) rfl)
   |refine tH (enc:=gj) ?_
   |refine wi (enc:=gj) (i:=2) (n:=0) (q:=[]) ?_
   |refine wi (enc:=gj) ?_
   |refine Na (enc:=gj) (f:=cI) (fun _=>rfl) ?_
   |refine cl ?_ (hi:=by exact gK (yt1 _ rfl) (yt2 _ rfl) (yt3 _ rfl) rfl))
  |refine WX.loop ?_|refine WX.round ?_|refine zz ?_|refine zx (fun _=>?_) (fun _=>?_)|fail)
 show aE _ _ _ _ _ _ _ _;refine kV [0,1] ?_;exact congrArg XV.one rfl
theorem J4(b:Int×Int)(yt1:∀v,none=some v->bK v)(yt2:∀v,(some b)=some v->bK v)(yt3:∀v,none=some v->bK v)(c1:bm prog 117 [.one (.ptr 0 0),.one (.int .i64 ((aM cols mb k).1-1)),.one (.int .i64 ((aM cols mb k).2))] (aH cols rows M) (.tup [.one (cI ((none:Option (Int×Int)).getD (0,0))),.one (.bool ((none:Option (Int×Int)).isSome))]) (aH cols rows M))(c2:bm prog 117 [.one (.ptr 0 0),.one (.int .i64 ((aM cols mb k).1)),.one (.int .i64 ((aM cols mb k).2-1))] (aH cols rows M) (.tup [.one (cI (((some b):Option (Int×Int)).getD (0,0))),.one (.bool (((some b):Option (Int×Int)).isSome))]) (aH cols rows M))(c3:bm prog 117 [.one (.ptr 0 0),.one (.int .i64 ((aM cols mb k).1+1)),.one (.int .i64 ((aM cols mb k).2-1))] (aH cols rows M) (.tup [.one (cI ((none:Option (Int×Int)).getD (0,0))),.one (.bool ((none:Option (Int×Int)).isSome))]) (aH cols rows M)):bm prog 91 [.one (.ptr 0 0),.one (.int .i64 mb),.one (.int .i64 k)] (aH cols rows M) (.one (cI (n_ none (some b) none))) (aH cols rows M):=by
 have h1:=h.c0;have h2:=h.c1;have h3:=h.r0;have h4:=h.r1;have hb:=fP h hm hk;have hmm:=h.mul;have hp:0<=(aM cols mb k).2/\(aM cols mb k).2<=17:=by unfold aM;simp only[];omega
 have hq:0<=(aM cols mb k).1/\(aM cols mb k).1<=17:=by unfold aM;simp only[];omega
 refine cO Tryz.func91 ?_
 repeat' (first
  |(refine qz ?_;first
   |refine cl ?_ (hi:=by exact fW (M:=M) h hm hk rfl rfl (by decide) rfl))
  |refine zz ?_|refine zx (fun _=>?_) (fun _=>?_)|fail)
 refine WX.cj rfl ?_
 repeat' (first
  |(refine qz ?_;first
   |refine Lt ?_
   |refine cl ?_ (hi:=by exact ji (fun _ => .flat (.flat .nil)) (.flat (.flat .nil)) c1 rfl rfl (by decide) rfl)
   |refine cl ?_ (hi:=by exact ji (fun _ => .flat (.flat .nil)) (.flat (.flat .nil)) c2 rfl rfl (by decide) rfl)
   |refine cl ?_ (hi:=by exact ji (fun _ => .flat (.flat .nil)) (.flat (.flat .nil)) c3 rfl rfl (by decide) rfl)
   |refine tH (enc:=gj) ?_
   |refine wi (enc:=gj) (i:=2) (n:=0) (q:=[]) ?_
   |refine wi (enc:=gj) ?_
   |refine Na (enc:=gj) (f:=cI) (fun _=>rfl) ?_
   |refine cl ?_ (hi:=by exact gK (yt1 _ rfl) (yt2 _ rfl) (yt3 _ rfl) rfl))
  |refine WX.loop ?_|refine WX.round ?_|refine zz ?_|refine zx (fun _=>?_) (fun _=>?_)|fail)
 show aE _ _ _ _ _ _ _ _;refine kV [0,1] ?_;exact congrArg XV.one rfl
theorem J5(b c:Int×Int)(yt1:∀v,none=some v->bK v)(yt2:∀v,(some b)=some v->bK v)(yt3:∀v,(some c)=some v->bK v)(c1:bm prog 117 [.one (.ptr 0 0),.one (.int .i64 ((aM cols mb k).1-1)),.one (.int .i64 ((aM cols mb k).2))] (aH cols rows M) (.tup [.one (cI ((none:Option (Int×Int)).getD (0,0))),.one (.bool ((none:Option (Int×Int)).isSome))]) (aH cols rows M))(c2:bm prog 117 [.one (.ptr 0 0),.one (.int .i64 ((aM cols mb k).1)),.one (.int .i64 ((aM cols mb k).2-1))] (aH cols rows M) (.tup [.one (cI (((some b):Option (Int×Int)).getD (0,0))),.one (.bool (((some b):Option (Int×Int)).isSome))]) (aH cols rows M))(c3:bm prog 117 [.one (.ptr 0 0),.one (.int .i64 ((aM cols mb k).1+1)),.one (.int .i64 ((aM cols mb k).2-1))] (aH cols rows M) (.tup [.one (cI (((some c):Option (Int×Int)).getD (0,0))),.one (.bool (((some c):Option (Int×Int)).isSome))]) (aH cols rows M)):bm prog 91 [.one (.ptr 0 0),.one (.int .i64 mb),.one (.int .i64 k)] (aH cols rows M) (.one (cI (n_ none (some b) (some c)))) (aH cols rows M):=by
 have h1:=h.c0;have h2:=h.c1;have h3:=h.r0;have h4:=h.r1;have hb:=fP h hm hk;have hmm:=h.mul;have hp:0<=(aM cols mb k).2/\(aM cols mb k).2<=17:=by unfold aM;simp only[];omega
 have hq:0<=(aM cols mb k).1/\(aM cols mb k).1<=17:=by unfold aM;simp only[];omega
 refine cO Tryz.func91 ?_
 repeat' (first
  |(refine qz ?_;first
   |refine cl ?_ (hi:=by exact fW (M:=M) h hm hk rfl rfl (by decide) rfl))
  |refine zz ?_|refine zx (fun _=>?_) (fun _=>?_)|fail)
 refine WX.cj rfl ?_
 repeat' (first
  |(refine qz ?_;first
   |refine Lt ?_
   |refine cl ?_ (hi:=by exact ji (fun _ => .flat (.flat .nil)) (.flat (.flat .nil)) c1 rfl rfl (by decide) rfl)
   |refine cl ?_ (hi:=by exact ji (fun _ => .flat (.flat .nil)) (.flat (.flat .nil)) c2 rfl rfl (by decide) rfl)
   |refine cl ?_ (hi:=by exact ji (fun _ => .flat (.flat .nil)) (.flat (.flat .nil)) c3 rfl rfl (by decide) rfl)
   |refine tH (enc:=gj) ?_
   |refine wi (enc:=gj) (i:=2) (n:=0) (q:=[]) ?_
   |refine wi (enc:=gj) ?_
   |refine Na (enc:=gj) (f:=cI) (fun _=>rfl) ?_
   |refine cl ?_ (hi:=by exact gK (yt1 _ rfl) (yt2 _ rfl) (yt3 _ rfl) rfl))
  |refine WX.loop ?_|refine WX.round ?_|refine zz ?_|refine zx (fun _=>?_) (fun _=>?_)|fail)
 show aE _ _ _ _ _ _ _ _;refine kV [0,1] ?_;exact congrArg XV.one rfl
theorem J6(a:Int×Int)(yt1:∀v,(some a)=some v->bK v)(yt2:∀v,none=some v->bK v)(yt3:∀v,none=some v->bK v)(c1:bm prog 117 [.one (.ptr 0 0),.one (.int .i64 ((aM cols mb k).1-1)),.one (.int .i64 ((aM cols mb k).2))] (aH cols rows M) (.tup [.one (cI (((some a):Option (Int×Int)).getD (0,0))),.one (.bool (((some a):Option (Int×Int)).isSome))]) (aH cols rows M))(c2:bm prog 117 [.one (.ptr 0 0),.one (.int .i64 ((aM cols mb k).1)),.one (.int .i64 ((aM cols mb k).2-1))] (aH cols rows M) (.tup [.one (cI ((none:Option (Int×Int)).getD (0,0))),.one (.bool ((none:Option (Int×Int)).isSome))]) (aH cols rows M))(c3:bm prog 117 [.one (.ptr 0 0),.one (.int .i64 ((aM cols mb k).1+1)),.one (.int .i64 ((aM cols mb k).2-1))] (aH cols rows M) (.tup [.one (cI ((none:Option (Int×Int)).getD (0,0))),.one (.bool ((none:Option (Int×Int)).isSome))]) (aH cols rows M)):bm prog 91 [.one (.ptr 0 0),.one (.int .i64 mb),.one (.int .i64 k)] (aH cols rows M) (.one (cI (n_ (some a) none none))) (aH cols rows M):=by
 have h1:=h.c0;have h2:=h.c1;have h3:=h.r0;have h4:=h.r1;have hb:=fP h hm hk;have hmm:=h.mul;have hp:0<=(aM cols mb k).2/\(aM cols mb k).2<=17:=by unfold aM;simp only[];omega
 have hq:0<=(aM cols mb k).1/\(aM cols mb k).1<=17:=by unfold aM;simp only[];omega
 refine cO Tryz.func91 ?_
 repeat' (first
  |(refine qz ?_;first
   |refine cl ?_ (hi:=by exact fW (M:=M) h hm hk rfl rfl (by decide) rfl))
  |refine zz ?_|refine zx (fun _=>?_) (fun _=>?_)|fail)
 refine WX.cj rfl ?_
 repeat' (first
  |(refine qz ?_;first
   |refine Lt ?_
   |refine cl ?_ (hi:=by exact ji (fun _ => .flat (.flat .nil)) (.flat (.flat .nil)) c1 rfl rfl (by decide) rfl)
   |refine cl ?_ (hi:=by exact ji (fun _ => .flat (.flat .nil)) (.flat (.flat .nil)) c2 rfl rfl (by decide) rfl)
   |refine cl ?_ (hi:=by exact ji (fun _ => .flat (.flat .nil)) (.flat (.flat .nil)) c3 rfl rfl (by decide) rfl)
   |refine tH (enc:=gj) ?_
   |refine wi (enc:=gj) (i:=2) (n:=0) (q:=[]) ?_
   |refine wi (enc:=gj) ?_
   |refine Na (enc:=gj) (f:=cI) (fun _=>rfl) ?_
   |refine cl ?_ (hi:=by exact gK (yt1 _ rfl) (yt2 _ rfl) (yt3 _ rfl) rfl))
  |refine WX.loop ?_|refine WX.round ?_|refine zz ?_|refine zx (fun _=>?_) (fun _=>?_)|fail)
 show aE _ _ _ _ _ _ _ _;refine kV [0,1] ?_;exact congrArg XV.one rfl
theorem J7(a c:Int×Int)(yt1:∀v,(some a)=some v->bK v)(yt2:∀v,none=some v->bK v)(yt3:∀v,(some c)=some v->bK v)(c1:bm prog 117 [.one (.ptr 0 0),.one (.int .i64 ((aM cols mb k).1-1)),.one (.int .i64 ((aM cols mb k).2))] (aH cols rows M) (.tup [.one (cI (((some a):Option (Int×Int)).getD (0,0))),.one (.bool (((some a):Option (Int×Int)).isSome))]) (aH cols rows M))(c2:bm prog 117 [.one (.ptr 0 0),.one (.int .i64 ((aM cols mb k).1)),.one (.int .i64 ((aM cols mb k).2-1))] (aH cols rows M) (.tup [.one (cI ((none:Option (Int×Int)).getD (0,0))),.one (.bool ((none:Option (Int×Int)).isSome))]) (aH cols rows M))(c3:bm prog 117 [.one (.ptr 0 0),.one (.int .i64 ((aM cols mb k).1+1)),.one (.int .i64 ((aM cols mb k).2-1))] (aH cols rows M) (.tup [.one (cI (((some c):Option (Int×Int)).getD (0,0))),.one (.bool (((some c):Option (Int×Int)).isSome))]) (aH cols rows M)):bm prog 91 [.one (.ptr 0 0),.one (.int .i64 mb),.one (.int .i64 k)] (aH cols rows M) (.one (cI (n_ (some a) none (some c)))) (aH cols rows M):=by
 have h1:=h.c0;have h2:=h.c1;have h3:=h.r0;have h4:=h.r1;have hb:=fP h hm hk;have hmm:=h.mul;have hp:0<=(aM cols mb k).2/\(aM cols mb k).2<=17:=by unfold aM;simp only[];omega
 have hq:0<=(aM cols mb k).1/\(aM cols mb k).1<=17:=by unfold aM;simp only[];omega
 refine cO Tryz.func91 ?_
 repeat' (first
  |(refine qz ?_;first
   |refine cl ?_ (hi:=by exact fW (M:=M) h hm hk rfl rfl (by decide) rfl))
  |refine zz ?_|refine zx (fun _=>?_) (fun _=>?_)|fail)
 refine WX.cj rfl ?_
 repeat' (first
  |(refine qz ?_;first
   |refine Lt ?_
   |refine cl ?_ (hi:=by exact ji (fun _ => .flat (.flat .nil)) (.flat (.flat .nil)) c1 rfl rfl (by decide) rfl)
   |refine cl ?_ (hi:=by exact ji (fun _ => .flat (.flat .nil)) (.flat (.flat .nil)) c2 rfl rfl (by decide) rfl)
   |refine cl ?_ (hi:=by exact ji (fun _ => .flat (.flat .nil)) (.flat (.flat .nil)) c3 rfl rfl (by decide) rfl)
   |refine tH (enc:=gj) ?_
   |refine wi (enc:=gj) (i:=2) (n:=0) (q:=[]) ?_
   |refine wi (enc:=gj) ?_
   |refine Na (enc:=gj) (f:=cI) (fun _=>rfl) ?_
   |refine cl ?_ (hi:=by exact gK (yt1 _ rfl) (yt2 _ rfl) (yt3 _ rfl) rfl))
  |refine WX.loop ?_|refine WX.round ?_|refine zz ?_|refine zx (fun _=>?_) (fun _=>?_)|fail)
 show aE _ _ _ _ _ _ _ _;refine kV [0,1] ?_;exact congrArg XV.one rfl
theorem J8(a b:Int×Int)(yt1:∀v,(some a)=some v->bK v)(yt2:∀v,(some b)=some v->bK v)(yt3:∀v,none=some v->bK v)(c1:bm prog 117 [.one (.ptr 0 0),.one (.int .i64 ((aM cols mb k).1-1)),.one (.int .i64 ((aM cols mb k).2))] (aH cols rows M) (.tup [.one (cI (((some a):Option (Int×Int)).getD (0,0))),.one (.bool (((some a):Option (Int×Int)).isSome))]) (aH cols rows M))(c2:bm prog 117 [.one (.ptr 0 0),.one (.int .i64 ((aM cols mb k).1)),.one (.int .i64 ((aM cols mb k).2-1))] (aH cols rows M) (.tup [.one (cI (((some b):Option (Int×Int)).getD (0,0))),.one (.bool (((some b):Option (Int×Int)).isSome))]) (aH cols rows M))(c3:bm prog 117 [.one (.ptr 0 0),.one (.int .i64 ((aM cols mb k).1+1)),.one (.int .i64 ((aM cols mb k).2-1))] (aH cols rows M) (.tup [.one (cI ((none:Option (Int×Int)).getD (0,0))),.one (.bool ((none:Option (Int×Int)).isSome))]) (aH cols rows M)):bm prog 91 [.one (.ptr 0 0),.one (.int .i64 mb),.one (.int .i64 k)] (aH cols rows M) (.one (cI (n_ (some a) (some b) none))) (aH cols rows M):=by
 have h1:=h.c0;have h2:=h.c1;have h3:=h.r0;have h4:=h.r1;have hb:=fP h hm hk;have hmm:=h.mul;have hp:0<=(aM cols mb k).2/\(aM cols mb k).2<=17:=by unfold aM;simp only[];omega
 have hq:0<=(aM cols mb k).1/\(aM cols mb k).1<=17:=by unfold aM;simp only[];omega
 refine cO Tryz.func91 ?_
 repeat' (first
  |(refine qz ?_;first
   |refine cl ?_ (hi:=by exact fW (M:=M) h hm hk rfl rfl (by decide) rfl))
  |refine zz ?_|refine zx (fun _=>?_) (fun _=>?_)|fail)
 refine WX.cj rfl ?_
 repeat' (first
  |(refine qz ?_;first
   |refine Lt ?_
   |refine cl ?_ (hi:=by exact ji (fun _ => .flat (.flat .nil)) (.flat (.flat .nil)) c1 rfl rfl (by decide) rfl)
   |refine cl ?_ (hi:=by exact ji (fun _ => .flat (.flat .nil)) (.flat (.flat .nil)) c2 rfl rfl (by decide) rfl)
   |refine cl ?_ (hi:=by exact ji (fun _ => .flat (.flat .nil)) (.flat (.flat .nil)) c3 rfl rfl (by decide) rfl)
   |refine tH (enc:=gj) ?_
   |refine wi (enc:=gj) (i:=2) (n:=0) (q:=[]) ?_
   |refine wi (enc:=gj) ?_
   |refine Na (enc:=gj) (f:=cI) (fun _=>rfl) ?_
   |refine cl ?_ (hi:=by exact gK (yt1 _ rfl) (yt2 _ rfl) (yt3 _ rfl) rfl))
  |refine WX.loop ?_|refine WX.round ?_|refine zz ?_|refine zx (fun _=>?_) (fun _=>?_)|fail)
 show aE _ _ _ _ _ _ _ _;refine kV [0,1] ?_;exact congrArg XV.one rfl
theorem J9(a b c:Int×Int)(yt1:∀v,(some a)=some v->bK v)(yt2:∀v,(some b)=some v->bK v)(yt3:∀v,(some c)=some v->bK v)(c1:bm prog 117 [.one (.ptr 0 0),.one (.int .i64 ((aM cols mb k).1-1)),.one (.int .i64 ((aM cols mb k).2))] (aH cols rows M) (.tup [.one (cI (((some a):Option (Int×Int)).getD (0,0))),.one (.bool (((some a):Option (Int×Int)).isSome))]) (aH cols rows M))(c2:bm prog 117 [.one (.ptr 0 0),.one (.int .i64 ((aM cols mb k).1)),.one (.int .i64 ((aM cols mb k).2-1))] (aH cols rows M) (.tup [.one (cI (((some b):Option (Int×Int)).getD (0,0))),.one (.bool (((some b):Option (Int×Int)).isSome))]) (aH cols rows M))(c3:bm prog 117 [.one (.ptr 0 0),.one (.int .i64 ((aM cols mb k).1+1)),.one (.int .i64 ((aM cols mb k).2-1))] (aH cols rows M) (.tup [.one (cI (((some c):Option (Int×Int)).getD (0,0))),.one (.bool (((some c):Option (Int×Int)).isSome))]) (aH cols rows M)):bm prog 91 [.one (.ptr 0 0),.one (.int .i64 mb),.one (.int .i64 k)] (aH cols rows M) (.one (cI (n_ (some a) (some b) (some c)))) (aH cols rows M):=by
 have h1:=h.c0;have h2:=h.c1;have h3:=h.r0;have h4:=h.r1;have hb:=fP h hm hk;have hmm:=h.mul;have hp:0<=(aM cols mb k).2/\(aM cols mb k).2<=17:=by unfold aM;simp only[];omega
 have hq:0<=(aM cols mb k).1/\(aM cols mb k).1<=17:=by unfold aM;simp only[];omega
 refine cO Tryz.func91 ?_
 repeat' (first
  |(refine qz ?_;first
   |refine cl ?_ (hi:=by exact fW (M:=M) h hm hk rfl rfl (by decide) rfl))
  |refine zz ?_|refine zx (fun _=>?_) (fun _=>?_)|fail)
 refine WX.cj rfl ?_
 repeat' (first
  |(refine qz ?_;first
   |refine Lt ?_
   |refine cl ?_ (hi:=by exact ji (fun _ => .flat (.flat .nil)) (.flat (.flat .nil)) c1 rfl rfl (by decide) rfl)
   |refine cl ?_ (hi:=by exact ji (fun _ => .flat (.flat .nil)) (.flat (.flat .nil)) c2 rfl rfl (by decide) rfl)
   |refine cl ?_ (hi:=by exact ji (fun _ => .flat (.flat .nil)) (.flat (.flat .nil)) c3 rfl rfl (by decide) rfl)
   |refine tH (enc:=gj) ?_
   |refine wi (enc:=gj) (i:=2) (n:=0) (q:=[]) ?_
   |refine wi (enc:=gj) ?_
   |refine Na (enc:=gj) (f:=cI) (fun _=>rfl) ?_
   |refine cl ?_ (hi:=by exact gK (yt1 _ rfl) (yt2 _ rfl) (yt3 _ rfl) rfl))
  |refine WX.loop ?_|refine WX.round ?_|refine zz ?_|refine zx (fun _=>?_) (fun _=>?_)|fail)
 show aE _ _ _ _ _ _ _ _;refine kV [0,1] ?_;exact congrArg XV.one rfl
end
theorem J_{cols rows mb k:Int}{M:jm}(hM:fv M)(h:lY cols rows)(hm:0<=mb/\mb<cols*rows)(hk:0<=k/\k<4):bm prog 91 [.one (.ptr 0 0),.one (.int .i64 mb),.one (.int .i64 k)] (aH cols rows M) (.one (cI (gk M cols rows mb k))) (aH cols rows M):=by
 have h1:=h.c0;have h2:=h.c1;have h3:=h.r0;have h4:=h.r1;have hb:=fP h hm hk;have hmm:=h.mul;have hp:0<=(aM cols mb k).2/\(aM cols mb k).2<=17:=by unfold aM;simp only[];omega
 have hq:0<=(aM cols mb k).1/\(aM cols mb k).1<=17:=by unfold aM;simp only[];omega
 have c1:=yJ (M:=M) h (x:=(aM cols mb k).1-1) (y:=(aM cols mb k).2) (by omega) (by omega);have c2:=yJ (M:=M) h (x:=(aM cols mb k).1) (y:=(aM cols mb k).2-1) (by omega) (by omega);have c3:=yJ (M:=M) h (x:=(aM cols mb k).1+1) (y:=(aM cols mb k).2-1) (by omega) (by omega);have yt1:∀v,kR M cols rows ((aM cols mb k).1-1) (aM cols mb k).2=some v->bK v:=fun v hv=>iK hM hv
 have yt2:∀v,kR M cols rows (aM cols mb k).1 ((aM cols mb k).2-1)=some v->bK v:=fun v hv=>iK hM hv
 have yt3:∀v,kR M cols rows ((aM cols mb k).1+1) ((aM cols mb k).2-1)=some v->bK v:=fun v hv=>iK hM hv
 unfold gk;generalize kR M cols rows ((aM cols mb k).1-1) (aM cols mb k).2=la at c1 yt1 ⊢;generalize kR M cols rows (aM cols mb k).1 ((aM cols mb k).2-1)=lb at c2 yt2 ⊢;generalize kR M cols rows ((aM cols mb k).1+1) ((aM cols mb k).2-1)=lc at c3 yt3 ⊢
 rcases la with _|a<;>rcases lb with _|b<;>rcases lc with _|c
 ·exact J2 h hm hk yt1 yt2 yt3 c1 c2 c3
 ·exact J3 h hm hk c yt1 yt2 yt3 c1 c2 c3
 ·exact J4 h hm hk b yt1 yt2 yt3 c1 c2 c3
 ·exact J5 h hm hk b c yt1 yt2 yt3 c1 c2 c3
 ·exact J6 h hm hk a yt1 yt2 yt3 c1 c2 c3
 ·exact J7 h hm hk a c yt1 yt2 yt3 c1 c2 c3
 ·exact J8 h hm hk a b yt1 yt2 yt3 c1 c2 c3
 ·exact J9 h hm hk a b c yt1 yt2 yt3 c1 c2 c3
theorem CB{la lb lc:Option (Int×Int)}(h1:∀v,la=some v->bK v)(h2:∀v,lb=some v->bK v)(h3:∀v,lc=some v->bK v):bK (n_ la lb lc):=by
 rcases la with _|a<;>rcases lb with _|b<;>rcases lc with _|c<;>unfold n_<;>simp only[]
 ·exact⟨⟨by decide,by decide⟩,⟨by decide,by decide⟩⟩
 ·exact h3 _ rfl
 ·exact h2 _ rfl
 ·exact h2 _ rfl
 ·exact h1 _ rfl
 ·exact h1 _ rfl
 ·exact h1 _ rfl
 ·exact⟨wQ (h1 _ rfl).1 (h2 _ rfl).1 (h3 _ rfl).1,wQ (h1 _ rfl).2 (h2 _ rfl).2 (h3 _ rfl).2⟩
theorem lP{cols rows mb k:Int}{M:jm}(hM:fv M):bK (gk M cols rows mb k):=CB (fun v hv=>iK hM hv) (fun v hv=>iK hM hv) (fun v hv=>iK hM hv)
instance Rp (p:Int×Int):b7 (.one (cI p)):=i5 rfl
theorem qN{cols rows mb k:Int}{M:jm}(hM:fv M)(h:lY cols rows)(hm:0<=mb/\mb<cols*rows)(hk:0<=k/\k<4){HS:ah}{i j:Nat}(hi:HS[i]? = some (fi j cols rows))(hj:HS[j]? = some (.map (cx M)))(hd:i≠j)(hbd:Nat.blt HS.length Mem.bound=true) :
 aA.Sound prog ⟨91,[.one (.ptr i 0),.one (.int .i64 mb),.one (.int .i64 k)],HS,.one (cI (gk M cols rows mb k)),HS,[]⟩:=
 ji (fun _ => .flat (.flat .nil)) (.flat (.flat .nil)) (J_ hM h hm hk) hi hj hd hbd
end Go.Proofs.YthdciapjllppjaaGreat
