/-
  A part of the proof: FieldV.
-/
import Derived.Test.YthdciapjllppjaaGreatWaL
set_option maxRecDepth 10000
set_option maxHeartbeats 8000000
set_option linter.unusedVariables false
set_option linter.unusedSectionVars false
set_option linter.unusedSimpArgs false
open Go.Proofs.Tryz (prog)
namespace Go.Xm
variable [ak]
variable {P:Program} {ops:Array Oper} {nt nI:Nat} {al:aN} {hs:ah} {o:Oper} {l:List Oper} {L:List az} {K:List Ab->aN->ah->Prop} {d:Nat}
theorem Ky{t:TypeId}{x ix:Operand}{len:Nat}{elem:TypeId}{cs:List XC}{k:IntKind}{z:Int}{c:XC}(hk:SK P ops nt L l ((d,.one c)::al) hs fun bs=>K (quiet::bs))(ho:o.op = .index t x ix:=by exact rfl)(hw:av ops (rg al) o=some true:=by exact rfl)(hd:o.dst=some d:=by exact rfl)(hlt:Nat.blt d nt=true:=by exact rfl)
 (ha:ae (rg al) x = .agg cs:=by exact rfl) (hb:ae (rg al) ix = .one (.int k z):=by exact rfl) (hu:aP P t (.array len elem):=by infer_instance) (hs':aG P elem 1:=by infer_instance) (hg:cK P elem:=by infer_instance) (hz:0<=z/\z<(len:Nat):=by omega) (hc:cs[z.toNat]? = some c:=by exact rfl):SK P ops nt L (o::l) al hs K:=
 lq hw hd hlt (by rw[ho];simp only[aY,pV,ha,hb,hu.out,hs'.out,if_pos hz,gx,hg.out,Nat.mul_one,hc,Option.map_some,X1.pP]) hk
theorem Ln{t:TypeId}{x ix:Operand}{len s:Nat}{elem:TypeId}{cs cs':List XC}{k:IntKind}{z:Int}(hk:SK P ops nt L l ((d,.agg cs')::al) hs fun bs=>K (quiet::bs))(ho:o.op = .index t x ix:=by exact rfl)(hw:av ops (rg al) o=some true:=by exact rfl)(hd:o.dst=some d:=by exact rfl)(hlt:Nat.blt d nt=true:=by exact rfl)
 (ha:ae (rg al) x = .agg cs:=by exact rfl) (hb:ae (rg al) ix = .one (.int k z):=by exact rfl) (hu:aP P t (.array len elem):=by infer_instance) (hs':aG P elem s:=by infer_instance) (hg:db P elem:=by infer_instance) (hz:0<=z/\z<(len:Nat):=by omega) (hc:(cs.drop (z.toNat*s)).take s=cs':=by exact rfl):SK P ops nt L (o::l) al hs K:=
 lq hw hd hlt (by rw[ho];simp only[aY,pV,ha,hb,hu.out,hs'.out,if_pos hz,gx,hg.out,hc,Option.map_some,X1.pP]) hk
theorem Pa{k:IntKind}{n:Nat}{q:Nat->Int}{a s:Nat}(h:a+s<=n):((ti k n q).drop a).take s=ti k s (fun i=>q (a+i)):=by
 apply List.ext_getElem?;intro i;rw[List.getElem?_take,List.getElem?_drop]
 by_cases hi:i<s
 ·rw[if_pos hi,jK (by omega),jK hi]
 ·rw[if_neg hi,List.getElem?_eq_none (by rw[aT];omega)]
theorem QU{t:TypeId}{x ix:Operand}{len n:Nat}{elem:TypeId}{q:Nat->Int}{k k':IntKind}{z:Int}(hk:SK P ops nt L l ((d,.one (.int k' (q z.toNat)))::al) hs fun bs=>K (quiet::bs))(ho:o.op = .index t x ix:=by exact rfl)(hw:av ops (rg al) o=some true:=by exact rfl)(hd:o.dst=some d:=by exact rfl)(hlt:Nat.blt d nt=true:=by exact rfl)
 (ha:ae (rg al) x = .agg (ti k' n q):=by exact rfl) (hb:ae (rg al) ix = .one (.int k z):=by exact rfl) (hu:aP P t (.array len elem):=by infer_instance) (hs':aG P elem 1:=by infer_instance) (hg:cK P elem:=by infer_instance) (hz:0<=z/\z<(len:Nat):=by omega) (hln:len=n:=by exact rfl):SK P ops nt L (o::l) al hs K:=
 Ky hk ho hw hd hlt ha hb hu hs' hg hz (jK (by omega))
theorem Lm{t:TypeId}{x ix:Operand}{len n s:Nat}{elem:TypeId}{q:Nat->Int}{k k':IntKind}{z:Int}(hk:SK P ops nt L l ((d,.agg (ti k' s fun i=>q (z.toNat*s+i)))::al) hs fun bs=>K (quiet::bs))(ho:o.op = .index t x ix:=by exact rfl)(hw:av ops (rg al) o=some true:=by exact rfl)(hd:o.dst=some d:=by exact rfl)(hlt:Nat.blt d nt=true:=by exact rfl)
 (ha:ae (rg al) x = .agg (ti k' n q):=by exact rfl) (hb:ae (rg al) ix = .one (.int k z):=by exact rfl) (hu:aP P t (.array len elem):=by infer_instance) (hs':aG P elem s:=by infer_instance) (hg:db P elem:=by infer_instance) (hz:0<=z/\z<(len:Nat):=by omega) (hln:len*s=n:=by exact rfl):SK P ops nt L (o::l) al hs K:=
 Ln hk ho hw hd hlt ha hb hu hs' hg hz (Pa (by
  have h1:z.toNat+1<=len:=by omega
  have h2:=Nat.mul_le_mul_right s h1;rw[Nat.add_mul,Nat.one_mul]at h2
  omega))
theorem Dt{α : Type}{enc : α->List XC}{f : α->XC}(henc:∀a,enc a = [f a])(q:List α):fl enc q=q.map f:=by
 unfold fl
 induction q with
 | nil=>rfl
 | cons a q ih=>rw[List.flatMap_cons,ih,henc];rfl
theorem M9{α : Type}[Inhabited α]{enc : α->List XC}{f : α->XC}(henc:∀a,enc a = [f a]){t:TypeId}{a:Operand}{i off:Nat}{e:TypeId}{q:List α}(hk:SK P ops nt L l ((d,.one (f (q.getD off default)))::al) hs fun bs=>K (⟨false,some i,[]⟩::bs))(ho:o.op = .load t a:=by exact rfl)(ht:cK P t:=by infer_instance)(hw:av ops (rg al) o=some true:=by exact rfl)(hd:o.dst=some d:=by exact rfl)(hlt:Nat.blt d nt=true:=by exact rfl)
 (ha:ae (rg al) a = .one (.ptr i off):=by exact rfl) (hi:hs[i]? = some (bR e (fl enc q)):=by exact rfl) (hc:off<q.length:=by first|omega|(simp only[List.length_cons,List.length_nil,List.length_append];first|omega|decide)):SK P ops nt L (o::l) al hs K:=by
 have h1:bR e (fl enc q) = .cells (fl enc q) e true false:=cz (fun hn=>by
  have:(fl enc q).length=0:=by rw[hn];rfl
  rw[Dt henc,List.length_map]at this
  omega)
 have h2:(fl enc q)[off]? = some (f (q.getD off default)):=by
  rw[Dt henc,List.getElem?_map,List.getD_eq_getElem?_getD,List.getElem?_eq_getElem hc];rfl
 exact fQ ho hw hd hlt ha (hi.trans (congrArg some h1)) h2 hk
end Go.Xm
namespace Go.Proofs.YthdciapjllppjaaGreat
open Go.Xm
variable [ak]
abbrev jF:=List (Int×(Int×Int))
def MA(p:Int×Int):X1 := .one (cS p)
abbrev cB(M:jF):List (X1×X1):=kX N5 MA M
instance Po (M:jF):cu (.map (cB M)):=zT (fun _=>rfl) (fun _=>rfl) M
abbrev fA(m:Nat)(cols rows:Int):aj := .cells [.int .i64 cols,.int .i64 rows,.map m] 216 false false
abbrev aH(cols rows:Int)(M:jF):ah:=[fA 1 cols rows,.map (cB M)]
theorem MP:ow prog 101=some (.one (.cplx .f64 0 0)):=by kernel_rfl
theorem PN:ow prog 101=some (MA (0,0)):=by
 rw[MP];unfold MA;rw[iH]
instance Sn (a b:Int):bZ (.tup [.one (.int .i64 a),.one (.int .i64 b)]):=eI rfl
structure lP(cols rows:Int):Prop where
 c0:1<=cols
 c1:cols<=8
 r0:1<=rows
 r1:rows<=8
theorem lP.mul{cols rows:Int}(h:lP cols rows):0<=cols*rows/\cols*rows<=64:=xT ⟨h.c0,h.c1⟩ ⟨by have:=h.r0;omega,h.r1⟩
theorem J3(cols rows:Int)(h:lP cols rows):bq prog 83 [.one (.int .i64 cols),.one (.int .i64 rows)] [] (.one (.ptr 0 0)) (aH cols rows []):=by
 have h1:=h.c0;have h2:=h.c1;have h3:=h.r0;have h4:=h.r1;refine cO Tryz.func83 ?_
 repeat' (first|refine zz ?_|refine zx (fun _=>?_) (fun _=>?_)|fail)
 show aE _ _ _ _ _ _ _ _;refine kV [1,0] ?_;rfl
def aM(cols mb k:Int):Int×Int:=(2*(mb%cols)+k%2,2*(mb/cols)+k/2)
theorem gd{cols rows mb k:Int}(h:lP cols rows)(hm:0<=mb/\mb<cols*rows)(hk:0<=k/\k<4):0<=mb%cols/\mb%cols<cols/\0<=mb/cols/\mb/cols<rows:=by
 refine⟨Int.emod_nonneg _ (by have:=h.c0;omega),Int.emod_lt_of_pos _ (by have:=h.c0;omega),Int.ediv_nonneg hm.1 (by have:=h.c0;omega),?_⟩;exact Int.ediv_lt_of_lt_mul (by have:=h.c0;omega) (by rw[Int.mul_comm];exact hm.2)
theorem CG{cols rows mb k:Int}{M:jF}(h:lP cols rows)(hm:0<=mb/\mb<cols*rows)(hk:0<=k/\k<4):bq prog 116 [.one (.ptr 0 0),.one (.int .i64 mb),.one (.int .i64 k)] (aH cols rows M) (.tup [.one (.int .i64 (aM cols mb k).1),.one (.int .i64 (aM cols mb k).2)]) (aH cols rows M):=by
 have h1:=h.c0;have h2:=h.c1;have h3:=h.r0;have h4:=h.r1;have hb:=gd h hm hk;have hmm:=h.mul;refine cO Tryz.func116 ?_
 repeat' (first|refine zz ?_|refine zx (fun _=>?_) (fun _=>?_)|fail)
 show aE _ _ _ _ _ _ _ _;refine kV [0,1] ?_;rfl
theorem jA{f:FuncId}{more:List XV}(hm:∀τ,eV τ more more)(hmo:gS 2 more){v:XV}[bZ v]{cols rows:Int}{M:jF}(hc:bq prog f (.one (.ptr 0 0)::more) (aH cols rows M) v (aH cols rows M)){HS:ah}{i k:Nat}(hi:HS[i]? = some (fA k cols rows))(hk:HS[k]? = some (.map (cB M)))(hd:i≠k)(hbd:Nat.blt HS.length Mem.bound=true) :
 az.Sound prog ⟨f,.one (.ptr i 0)::more,HS,v,HS,[]⟩:=by
 refine fM [i,k] hc (by simp[hd]) ?_ ?_ (.cons (by simp[XV.bH,XC.ok]) hmo) (.cons rfl (hm _)) (bZ.ok _) (bZ.aB _) hbd rfl
 ·exact .cons hi (.flat hk .nil)
 ·exact .cons (by simp[aj.bH,XC.ok]) (.flat .nil)
theorem gv{cols rows mb k:Int}{M:jF}(h:lP cols rows)(hm:0<=mb/\mb<cols*rows)(hk:0<=k/\k<4){HS:ah}{i j:Nat}(hi:HS[i]? = some (fA j cols rows))(hj:HS[j]? = some (.map (cB M)))(hd:i≠j)(hbd:Nat.blt HS.length Mem.bound=true) :
 az.Sound prog ⟨116,[.one (.ptr i 0),.one (.int .i64 mb),.one (.int .i64 k)],HS,.tup [.one (.int .i64 (aM cols mb k).1),.one (.int .i64 (aM cols mb k).2)],HS,[]⟩:=
 jA (fun _ => .flat (.flat .nil)) (.flat (.flat .nil)) (CG h hm hk) hi hj hd hbd
def lx(M:jF)(cols rows x y:Int):Option (Int×Int):=if x<0\/y<0\/2*cols<=x\/2*rows<=y then none else eK M (y*2*cols+x)
instance Sl (p:Int×Int) (b:Bool):bZ (.tup [.one (cS p),.one (.bool b)]):=eI rfl
theorem yF{cols rows x y:Int}{M:jF}(h:lP cols rows)(hx : -1<=x/\x<=100)(hy : -1<=y/\y<=100):bq prog 117 [.one (.ptr 0 0),.one (.int .i64 x),.one (.int .i64 y)] (aH cols rows M) (.tup [.one (cS ((lx M cols rows x y).getD (0,0))),.one (.bool (lx M cols rows x y).isSome)]) (aH cols rows M):=by
 have h1:=h.c0;have h2:=h.c1;have h3:=h.r0;have h4:=h.r1;unfold lx
 by_cases hin:x<0\/y<0\/2*cols<=x\/2*rows<=y
 ·rw [if_pos hin];have e:cS ((none:Option (Int×Int)).getD (0,0)) = .cplx .f64 0 0:=iH;rw[e];refine cO Tryz.func117 ?_
  repeat' (first|refine zz ?_|refine zx (fun _=>?_) (fun _=>?_)|fail)
  all_goals
   first
    | (exfalso;omega)
    | (show aE _ _ _ _ _ _ _ _;refine kV [0,1] ?_;rfl)
 ·rw[if_neg hin]
  have hp:0<=y*2*cols/\y*2*cols<=1600:=⟨Int.mul_nonneg (by omega) (by omega),by
   have:=Int.mul_le_mul (show y*2<=200 by omega) h2 (by omega) (by decide)
   omega⟩
  refine cO Tryz.func117 ?_
  repeat' (first
   |(refine qz ?_;first
    |refine D1 rfl rfl rfl rfl s6 PN rfl rfl rfl ?_)
   |refine zz ?_|refine zx (fun _=>?_) (fun _=>?_)|fail)
  show aE _ _ _ _ _ _ _ _;refine kV [0,1] ?_;rfl
def cH(M:jF)(cols mb k:Int)(v:Int×Int):jF:=v_ M ((aM cols mb k).2*2*cols+(aM cols mb k).1) v
theorem J5{cols rows mb k:Int}{M:jF}(h:lP cols rows)(hm:0<=mb/\mb<cols*rows)(hk:0<=k/\k<4)(v:Int×Int):bq prog 92 [.one (.ptr 0 0),.one (.int .i64 mb),.one (.int .i64 k),.one (cS v)] (aH cols rows M) (.tup []) (aH cols rows (cH M cols mb k v)):=by
 have h1:=h.c0;have h2:=h.c1;have h3:=h.r0;have h4:=h.r1;have hb:=gd h hm hk;have hmm:=h.mul;have hp:0<=(aM cols mb k).2/\(aM cols mb k).2<=17:=by unfold aM;simp only[];omega
 have hq:0<=(aM cols mb k).1/\(aM cols mb k).1<=17:=by unfold aM;simp only[];omega
 have hpp:0<=(aM cols mb k).2*2*cols/\(aM cols mb k).2*2*cols<=1600:=⟨Int.mul_nonneg (by omega) (by omega),by
  have:=Int.mul_le_mul (show(aM cols mb k).2*2<=200 by omega) h2 (by omega) (by decide)
  omega⟩
 refine cO Tryz.func92 ?_
 repeat' (first
  |(refine qz ?_;first
   |refine cl ?_ (hi:=by exact gv (M:=M) h hm hk rfl rfl (by decide) rfl)
   |refine Ay (vc:=MA) rfl rfl rfl s6 rfl rfl rfl rfl (by first|(simp only[List.set_cons_succ,List.set_cons_zero];exact rfl)|exact rfl) ?_)
  |refine zz ?_|refine zx (fun _=>?_) (fun _=>?_)|fail)
 show aE _ _ _ _ _ _ _ _;refine kV [0,1] ?_;rfl
theorem jY{cols rows mb k:Int}{M:jF}(h:lP cols rows)(hm:0<=mb/\mb<cols*rows)(hk:0<=k/\k<4){v:Int×Int}{HS:ah}{i j:Nat}(hi:HS[i]? = some (fA j cols rows))(hj:HS[j]? = some (.map (cB M)))(hd:i≠j){HS':ah}(hh:HS.set j (.map (cB (cH M cols mb k v)))=HS')(hbd:Nat.blt HS'.length Mem.bound=true) :
 az.Sound prog ⟨92,[.one (.ptr i 0),.one (.int .i64 mb),.one (.int .i64 k),.one (cS v)],HS,.tup [],HS',[j]⟩:=by
 have hh':bE HS [i,j] [fA j cols rows,.map (cB (cH M cols mb k v))]=HS':=by
  subst hh;simp only[bE,List.append_nil];rw[aF hi]
 refine bz [i,j] [j] 0 (J5 (M:=M) h hm hk v) (by simp[hd]) ?_ ?_ ?_ rfl (.cons (by simp[XV.bH,XC.ok]) (.flat (.flat (.cons trivial .nil)))) (.cons rfl (.flat (.flat (.cons rfl .nil)))) (bZ.ok _) (bZ.aB _) ?_ rfl rfl hh' hbd (.inr fun q hq hj=>?_)
 ·exact .cons hi (.flat hj .nil)
 ·exact .cons (by simp[aj.bH,XC.ok]) (.flat .nil)
 ·exact .cons (by simp[aj.bH,XC.ok]) (.flat .nil)
 ·exact .cons rfl (.flat .nil)
 ·subst hh;rw[List.getElem?_set,if_neg (fun h=>hj (by rw[h];exact List.mem_singleton.2 rfl))]
def fH(M:jF):Prop:=∀key v,eK M key=some v->bJ v
theorem Gf:fH []:=fun key v h=>by cases h
theorem Gg{M:jF}(h:fH M){key:Int}{v:Int×Int}(hv:bJ v):fH (v_ M key v):=fun key' v' h'=>by
 rw[rK]at h';split at h'
 ·cases h';exact hv
 ·exact h key' v' h'
def od(la lb lc:Option (Int×Int)):Int×Int:=match la,lb,lc with
 | some a,some b,some c=>Ok a b c
 | some a,_,_=>a
 | none,some b,_=>b
 | none,none,some c=>c
 | none,none,none=>(0,0)
def gG(M:jF)(cols rows mb k:Int):Int×Int:=
 od (lx M cols rows ((aM cols mb k).1-1) (aM cols mb k).2) (lx M cols rows (aM cols mb k).1 ((aM cols mb k).2-1)) (lx M cols rows ((aM cols mb k).1+1) ((aM cols mb k).2-1))
def gF(p:Int×Int):List XC:=[cS p]
instance:oY gF 1:=⟨fun _=>rfl,fun _=>rfl,by decide⟩
theorem i9{M:jF}(h:fH M){cols rows x y:Int}{v:Int×Int}(hv:lx M cols rows x y=some v):bJ v:=by
 unfold lx at hv;split at hv
 ·cases hv
 ·exact h _ _ hv
section
variable {cols rows mb k:Int} {M:jF}(h:lP cols rows) (hm:0<=mb/\mb<cols*rows) (hk:0<=k/\k<4)
include h hm hk
theorem JU(yt1:∀v,none=some v->bJ v)(yt2:∀v,none=some v->bJ v)(yt3:∀v,none=some v->bJ v)(c1:bq prog 117 [.one (.ptr 0 0),.one (.int .i64 ((aM cols mb k).1-1)),.one (.int .i64 ((aM cols mb k).2))] (aH cols rows M) (.tup [.one (cS ((none:Option (Int×Int)).getD (0,0))),.one (.bool ((none:Option (Int×Int)).isSome))]) (aH cols rows M))(c2:bq prog 117 [.one (.ptr 0 0),.one (.int .i64 ((aM cols mb k).1)),.one (.int .i64 ((aM cols mb k).2-1))] (aH cols rows M) (.tup [.one (cS ((none:Option (Int×Int)).getD (0,0))),.one (.bool ((none:Option (Int×Int)).isSome))]) (aH cols rows M))(c3:bq prog 117 [.one (.ptr 0 0),.one (.int .i64 ((aM cols mb k).1+1)),.one (.int .i64 ((aM cols mb k).2-1))] (aH cols rows M) (.tup [.one (cS ((none:Option (Int×Int)).getD (0,0))),.one (.bool ((none:Option (Int×Int)).isSome))]) (aH cols rows M)):bq prog 91 [.one (.ptr 0 0),.one (.int .i64 mb),.one (.int .i64 k)] (aH cols rows M) (.one (cS (od none none none))) (aH cols rows M):=by
 have h1:=h.c0;have h2:=h.c1;have h3:=h.r0;have h4:=h.r1;have hb:=gd h hm hk;have hmm:=h.mul;have hp:0<=(aM cols mb k).2/\(aM cols mb k).2<=17:=by unfold aM;simp only[];omega
 have hq:0<=(aM cols mb k).1/\(aM cols mb k).1<=17:=by unfold aM;simp only[];omega
 refine cO Tryz.func91 ?_
 repeat' (first
  |(refine qz ?_;first
   |refine cl ?_ (hi:=by exact gv (M:=M) h hm hk rfl rfl (by decide) rfl))
  |refine zz ?_|refine zx (fun _=>?_) (fun _=>?_)|fail)
 refine WX.cq rfl ?_
 repeat' (first
  |(refine qz ?_;first
   |refine Ln ?_
   |refine cl ?_ (hi:=by exact jA (fun _ => .flat (.flat .nil)) (.flat (.flat .nil)) c1 rfl rfl (by decide) rfl)
   |refine cl ?_ (hi:=by exact jA (fun _ => .flat (.flat .nil)) (.flat (.flat .nil)) c2 rfl rfl (by decide) rfl)
   |refine cl ?_ (hi:=by exact jA (fun _ => .flat (.flat .nil)) (.flat (.flat .nil)) c3 rfl rfl (by decide) rfl)
   |refine vZ (enc:=gF) ?_
   |refine xN (enc:=gF) (i:=2) (n:=0) (q:=[]) ?_
   |refine xN (enc:=gF) ?_
   |refine M9 (enc:=gF) (f:=cS) (fun _=>rfl) ?_
   |refine cl ?_ (hi:=by exact g_ (yt1 _ rfl) (yt2 _ rfl) (yt3 _ rfl) rfl))
  |refine WX.loop ?_|refine WX.round ?_|refine zz ?_|refine zx (fun _=>?_) (fun _=>?_)|fail)
 show aE _ _ _ _ _ _ _ _;refine kV [0,1] ?_;exact congrArg XV.one iH.symm
theorem JV(c:Int×Int)(yt1:∀v,none=some v->bJ v)(yt2:∀v,none=some v->bJ v)(yt3:∀v,(some c)=some v->bJ v)(c1:bq prog 117 [.one (.ptr 0 0),.one (.int .i64 ((aM cols mb k).1-1)),.one (.int .i64 ((aM cols mb k).2))] (aH cols rows M) (.tup [.one (cS ((none:Option (Int×Int)).getD (0,0))),.one (.bool ((none:Option (Int×Int)).isSome))]) (aH cols rows M))(c2:bq prog 117 [.one (.ptr 0 0),.one (.int .i64 ((aM cols mb k).1)),.one (.int .i64 ((aM cols mb k).2-1))] (aH cols rows M) (.tup [.one (cS ((none:Option (Int×Int)).getD (0,0))),.one (.bool ((none:Option (Int×Int)).isSome))]) (aH cols rows M))(c3:bq prog 117 [.one (.ptr 0 0),.one (.int .i64 ((aM cols mb k).1+1)),.one (.int .i64 ((aM cols mb k).2-1))] (aH cols rows M) (.tup [.one (cS (((some c):Option (Int×Int)).getD (0,0))),.one (.bool (((some c):Option (Int×Int)).isSome))]) (aH cols rows M)):bq prog 91 [.one (.ptr 0 0),.one (.int .i64 mb),.one (.int .i64 k)] (aH cols rows M) (.one (cS (od none none (some c)))) (aH cols rows M):=by
 have h1:=h.c0;have h2:=h.c1;have h3:=h.r0;have h4:=h.r1;have hb:=gd h hm hk;have hmm:=h.mul;have hp:0<=(aM cols mb k).2/\(aM cols mb k).2<=17:=by unfold aM;simp only[];omega
 have hq:0<=(aM cols mb k).1/\(aM cols mb k).1<=17:=by unfold aM;simp only[];omega
 refine cO Tryz.func91 ?_
 repeat' (first
  |(refine qz ?_;first
   |refine cl ?_ (hi:=by exact gv (M:=M) h hm hk rfl rfl (by decide) rfl))
  |refine zz ?_|refine zx (fun _=>?_) (fun _=>?_)|fail)
 refine WX.cq rfl ?_
 repeat' (first
  |(refine qz ?_;first
   |refine Ln ?_
   |refine cl ?_ (hi:=by exact jA (fun _ => .flat (.flat .nil)) (.flat (.flat .nil)) c1 rfl rfl (by decide) rfl)
   |refine cl ?_ (hi:=by exact jA (fun _ => .flat (.flat .nil)) (.flat (.flat .nil)) c2 rfl rfl (by decide) rfl)
   |refine cl ?_ (hi:=by exact jA (fun _ => .flat (.flat .nil)) (.flat (.flat .nil)) c3 rfl rfl (by decide) rfl)
   |refine vZ (enc:=gF) ?_
   |refine xN (enc:=gF) (i:=2) (n:=0) (q:=[]) ?_
   |refine xN (enc:=gF) ?_
   |refine M9 (enc:=gF) (f:=cS) (fun _=>rfl) ?_
   |refine cl ?_ (hi:=by exact g_ (yt1 _ rfl) (yt2 _ rfl) (yt3 _ rfl) rfl))
  |refine WX.loop ?_|refine WX.round ?_|refine zz ?_|refine zx (fun _=>?_) (fun _=>?_)|fail)
 show aE _ _ _ _ _ _ _ _;refine kV [0,1] ?_;exact congrArg XV.one rfl
theorem JW(b:Int×Int)(yt1:∀v,none=some v->bJ v)(yt2:∀v,(some b)=some v->bJ v)(yt3:∀v,none=some v->bJ v)(c1:bq prog 117 [.one (.ptr 0 0),.one (.int .i64 ((aM cols mb k).1-1)),.one (.int .i64 ((aM cols mb k).2))] (aH cols rows M) (.tup [.one (cS ((none:Option (Int×Int)).getD (0,0))),.one (.bool ((none:Option (Int×Int)).isSome))]) (aH cols rows M))(c2:bq prog 117 [.one (.ptr 0 0),.one (.int .i64 ((aM cols mb k).1)),.one (.int .i64 ((aM cols mb k).2-1))] (aH cols rows M) (.tup [.one (cS (((some b):Option (Int×Int)).getD (0,0))),.one (.bool (((some b):Option (Int×Int)).isSome))]) (aH cols rows M))(c3:bq prog 117 [.one (.ptr 0 0),.one (.int .i64 ((aM cols mb k).1+1)),.one (.int .i64 ((aM cols mb k).2-1))] (aH cols rows M) (.tup [.one (cS ((none:Option (Int×Int)).getD (0,0))),.one (.bool ((none:Option (Int×Int)).isSome))]) (aH cols rows M)):bq prog 91 [.one (.ptr 0 0),.one (.int .i64 mb),.one (.int .i64 k)] (aH cols rows M) (.one (cS (od none (some b) none))) (aH cols rows M):=by
 have h1:=h.c0;have h2:=h.c1;have h3:=h.r0;have h4:=h.r1;have hb:=gd h hm hk;have hmm:=h.mul;have hp:0<=(aM cols mb k).2/\(aM cols mb k).2<=17:=by unfold aM;simp only[];omega
 have hq:0<=(aM cols mb k).1/\(aM cols mb k).1<=17:=by unfold aM;simp only[];omega
 refine cO Tryz.func91 ?_
 repeat' (first
  |(refine qz ?_;first
   |refine cl ?_ (hi:=by exact gv (M:=M) h hm hk rfl rfl (by decide) rfl))
  |refine zz ?_|refine zx (fun _=>?_) (fun _=>?_)|fail)
 refine WX.cq rfl ?_
 repeat' (first
  |(refine qz ?_;first
   |refine Ln ?_
   |refine cl ?_ (hi:=by exact jA (fun _ => .flat (.flat .nil)) (.flat (.flat .nil)) c1 rfl rfl (by decide) rfl)
   |refine cl ?_ (hi:=by exact jA (fun _ => .flat (.flat .nil)) (.flat (.flat .nil)) c2 rfl rfl (by decide) rfl)
   |refine cl ?_ (hi:=by exact jA (fun _ => .flat (.flat .nil)) (.flat (.flat .nil)) c3 rfl rfl (by decide) rfl)
   |refine vZ (enc:=gF) ?_
   |refine xN (enc:=gF) (i:=2) (n:=0) (q:=[]) ?_
   |refine xN (enc:=gF) ?_
   |refine M9 (enc:=gF) (f:=cS) (fun _=>rfl) ?_
   |refine cl ?_ (hi:=by exact g_ (yt1 _ rfl) (yt2 _ rfl) (yt3 _ rfl) rfl))
  |refine WX.loop ?_|refine WX.round ?_|refine zz ?_|refine zx (fun _=>?_) (fun _=>?_)|fail)
 show aE _ _ _ _ _ _ _ _;refine kV [0,1] ?_;exact congrArg XV.one rfl
theorem JX(b c:Int×Int)(yt1:∀v,none=some v->bJ v)(yt2:∀v,(some b)=some v->bJ v)(yt3:∀v,(some c)=some v->bJ v)(c1:bq prog 117 [.one (.ptr 0 0),.one (.int .i64 ((aM cols mb k).1-1)),.one (.int .i64 ((aM cols mb k).2))] (aH cols rows M) (.tup [.one (cS ((none:Option (Int×Int)).getD (0,0))),.one (.bool ((none:Option (Int×Int)).isSome))]) (aH cols rows M))(c2:bq prog 117 [.one (.ptr 0 0),.one (.int .i64 ((aM cols mb k).1)),.one (.int .i64 ((aM cols mb k).2-1))] (aH cols rows M) (.tup [.one (cS (((some b):Option (Int×Int)).getD (0,0))),.one (.bool (((some b):Option (Int×Int)).isSome))]) (aH cols rows M))(c3:bq prog 117 [.one (.ptr 0 0),.one (.int .i64 ((aM cols mb k).1+1)),.one (.int .i64 ((aM cols mb k).2-1))] (aH cols rows M) (.tup [.one (cS (((some c):Option (Int×Int)).getD (0,0))),.one (.bool (((some c):Option (Int×Int)).isSome))]) (aH cols rows M)):bq prog 91 [.one (.ptr 0 0),.one (.int .i64 mb),.one (.int .i64 k)] (aH cols rows M) (.one (cS (od none (some b) (some c)))) (aH cols rows M):=by
 have h1:=h.c0;have h2:=h.c1;have h3:=h.r0;have h4:=h.r1;have hb:=gd h hm hk;have hmm:=h.mul;have hp:0<=(aM cols mb k).2/\(aM cols mb k).2<=17:=by unfold aM;simp only[];omega
 have hq:0<=(aM cols mb k).1/\(aM cols mb k).1<=17:=by unfold aM;simp only[];omega
 refine cO Tryz.func91 ?_
 repeat' (first
  |(refine qz ?_;first
   |refine cl ?_ (hi:=by exact gv (M:=M) h hm hk rfl rfl (by decide) rfl))
  |refine zz ?_|refine zx (fun _=>?_) (fun _=>?_)|fail)
 refine WX.cq rfl ?_
 repeat' (first
  |(refine qz ?_;first
   |refine Ln ?_
   |refine cl ?_ (hi:=by exact jA (fun _ => .flat (.flat .nil)) (.flat (.flat .nil)) c1 rfl rfl (by decide) rfl)
   |refine cl ?_ (hi:=by exact jA (fun _ => .flat (.flat .nil)) (.flat (.flat .nil)) c2 rfl rfl (by decide) rfl)
   |refine cl ?_ (hi:=by exact jA (fun _ => .flat (.flat .nil)) (.flat (.flat .nil)) c3 rfl rfl (by decide) rfl)
   |refine vZ (enc:=gF) ?_
   |refine xN (enc:=gF) (i:=2) (n:=0) (q:=[]) ?_
   |refine xN (enc:=gF) ?_
   |refine M9 (enc:=gF) (f:=cS) (fun _=>rfl) ?_
   |refine cl ?_ (hi:=by exact g_ (yt1 _ rfl) (yt2 _ rfl) (yt3 _ rfl) rfl))
  |refine WX.loop ?_|refine WX.round ?_|refine zz ?_|refine zx (fun _=>?_) (fun _=>?_)|fail)
 show aE _ _ _ _ _ _ _ _;refine kV [0,1] ?_;exact congrArg XV.one rfl
theorem JY(a:Int×Int)(yt1:∀v,(some a)=some v->bJ v)(yt2:∀v,none=some v->bJ v)(yt3:∀v,none=some v->bJ v)(c1:bq prog 117 [.one (.ptr 0 0),.one (.int .i64 ((aM cols mb k).1-1)),.one (.int .i64 ((aM cols mb k).2))] (aH cols rows M) (.tup [.one (cS (((some a):Option (Int×Int)).getD (0,0))),.one (.bool (((some a):Option (Int×Int)).isSome))]) (aH cols rows M))(c2:bq prog 117 [.one (.ptr 0 0),.one (.int .i64 ((aM cols mb k).1)),.one (.int .i64 ((aM cols mb k).2-1))] (aH cols rows M) (.tup [.one (cS ((none:Option (Int×Int)).getD (0,0))),.one (.bool ((none:Option (Int×Int)).isSome))]) (aH cols rows M))(c3:bq prog 117 [.one (.ptr 0 0),.one (.int .i64 ((aM cols mb k).1+1)),.one (.int .i64 ((aM cols mb k).2-1))] (aH cols rows M) (.tup [.one (cS ((none:Option (Int×Int)).getD (0,0))),.one (.bool ((none:Option (Int×Int)).isSome))]) (aH cols rows M)):bq prog 91 [.one (.ptr 0 0),.one (.int .i64 mb),.one (.int .i64 k)] (aH cols rows M) (.one (cS (od (some a) none none))) (aH cols rows M):=by
 have h1:=h.c0;have h2:=h.c1;have h3:=h.r0;have h4:=h.r1;have hb:=gd h hm hk;have hmm:=h.mul;have hp:0<=(aM cols mb k).2/\(aM cols mb k).2<=17:=by unfold aM;simp only[];omega
 have hq:0<=(aM cols mb k).1/\(aM cols mb k).1<=17:=by unfold aM;simp only[];omega
 refine cO Tryz.func91 ?_
 repeat' (first
  |(refine qz ?_;first
   |refine cl ?_ (hi:=by exact gv (M:=M) h hm hk rfl rfl (by decide) rfl))
  |refine zz ?_|refine zx (fun _=>?_) (fun _=>?_)|fail)
 refine WX.cq rfl ?_
 repeat' (first
  |(refine qz ?_;first
   |refine Ln ?_
   |refine cl ?_ (hi:=by exact jA (fun _ => .flat (.flat .nil)) (.flat (.flat .nil)) c1 rfl rfl (by decide) rfl)
   |refine cl ?_ (hi:=by exact jA (fun _ => .flat (.flat .nil)) (.flat (.flat .nil)) c2 rfl rfl (by decide) rfl)
   |refine cl ?_ (hi:=by exact jA (fun _ => .flat (.flat .nil)) (.flat (.flat .nil)) c3 rfl rfl (by decide) rfl)
   |refine vZ (enc:=gF) ?_
   |refine xN (enc:=gF) (i:=2) (n:=0) (q:=[]) ?_
   |refine xN (enc:=gF) ?_
   |refine M9 (enc:=gF) (f:=cS) (fun _=>rfl) ?_
   |refine cl ?_ (hi:=by exact g_ (yt1 _ rfl) (yt2 _ rfl) (yt3 _ rfl) rfl))
  |refine WX.loop ?_|refine WX.round ?_|refine zz ?_|refine zx (fun _=>?_) (fun _=>?_)|fail)
 show aE _ _ _ _ _ _ _ _;refine kV [0,1] ?_;exact congrArg XV.one rfl
theorem JZ(a c:Int×Int)(yt1:∀v,(some a)=some v->bJ v)(yt2:∀v,none=some v->bJ v)(yt3:∀v,(some c)=some v->bJ v)(c1:bq prog 117 [.one (.ptr 0 0),.one (.int .i64 ((aM cols mb k).1-1)),.one (.int .i64 ((aM cols mb k).2))] (aH cols rows M) (.tup [.one (cS (((some a):Option (Int×Int)).getD (0,0))),.one (.bool (((some a):Option (Int×Int)).isSome))]) (aH cols rows M))(c2:bq prog 117 [.one (.ptr 0 0),.one (.int .i64 ((aM cols mb k).1)),.one (.int .i64 ((aM cols mb k).2-1))] (aH cols rows M) (.tup [.one (cS ((none:Option (Int×Int)).getD (0,0))),.one (.bool ((none:Option (Int×Int)).isSome))]) (aH cols rows M))(c3:bq prog 117 [.one (.ptr 0 0),.one (.int .i64 ((aM cols mb k).1+1)),.one (.int .i64 ((aM cols mb k).2-1))] (aH cols rows M) (.tup [.one (cS (((some c):Option (Int×Int)).getD (0,0))),.one (.bool (((some c):Option (Int×Int)).isSome))]) (aH cols rows M)):bq prog 91 [.one (.ptr 0 0),.one (.int .i64 mb),.one (.int .i64 k)] (aH cols rows M) (.one (cS (od (some a) none (some c)))) (aH cols rows M):=by
 have h1:=h.c0;have h2:=h.c1;have h3:=h.r0;have h4:=h.r1;have hb:=gd h hm hk;have hmm:=h.mul;have hp:0<=(aM cols mb k).2/\(aM cols mb k).2<=17:=by unfold aM;simp only[];omega
 have hq:0<=(aM cols mb k).1/\(aM cols mb k).1<=17:=by unfold aM;simp only[];omega
 refine cO Tryz.func91 ?_
 repeat' (first
  |(refine qz ?_;first
   |refine cl ?_ (hi:=by exact gv (M:=M) h hm hk rfl rfl (by decide) rfl))
  |refine zz ?_|refine zx (fun _=>?_) (fun _=>?_)|fail)
 refine WX.cq rfl ?_
 repeat' (first
  |(refine qz ?_;first
   |refine Ln ?_
   |refine cl ?_ (hi:=by exact jA (fun _ => .flat (.flat .nil)) (.flat (.flat .nil)) c1 rfl rfl (by decide) rfl)
   |refine cl ?_ (hi:=by exact jA (fun _ => .flat (.flat .nil)) (.flat (.flat .nil)) c2 rfl rfl (by decide) rfl)
   |refine cl ?_ (hi:=by exact jA (fun _ => .flat (.flat .nil)) (.flat (.flat .nil)) c3 rfl rfl (by decide) rfl)
   |refine vZ (enc:=gF) ?_
   |refine xN (enc:=gF) (i:=2) (n:=0) (q:=[]) ?_
   |refine xN (enc:=gF) ?_
   |refine M9 (enc:=gF) (f:=cS) (fun _=>rfl) ?_
   |refine cl ?_ (hi:=by exact g_ (yt1 _ rfl) (yt2 _ rfl) (yt3 _ rfl) rfl))
  |refine WX.loop ?_|refine WX.round ?_|refine zz ?_|refine zx (fun _=>?_) (fun _=>?_)|fail)
 show aE _ _ _ _ _ _ _ _;refine kV [0,1] ?_;exact congrArg XV.one rfl
theorem J0(a b:Int×Int)(yt1:∀v,(some a)=some v->bJ v)(yt2:∀v,(some b)=some v->bJ v)(yt3:∀v,none=some v->bJ v)(c1:bq prog 117 [.one (.ptr 0 0),.one (.int .i64 ((aM cols mb k).1-1)),.one (.int .i64 ((aM cols mb k).2))] (aH cols rows M) (.tup [.one (cS (((some a):Option (Int×Int)).getD (0,0))),.one (.bool (((some a):Option (Int×Int)).isSome))]) (aH cols rows M))(c2:bq prog 117 [.one (.ptr 0 0),.one (.int .i64 ((aM cols mb k).1)),.one (.int .i64 ((aM cols mb k).2-1))] (aH cols rows M) (.tup [.one (cS (((some b):Option (Int×Int)).getD (0,0))),.one (.bool (((some b):Option (Int×Int)).isSome))]) (aH cols rows M))(c3:bq prog 117 [.one (.ptr 0 0),.one (.int .i64 ((aM cols mb k).1+1)),.one (.int .i64 ((aM cols mb k).2-1))] (aH cols rows M) (.tup [.one (cS ((none:Option (Int×Int)).getD (0,0))),.one (.bool ((none:Option (Int×Int)).isSome))]) (aH cols rows M)):bq prog 91 [.one (.ptr 0 0),.one (.int .i64 mb),.one (.int .i64 k)] (aH cols rows M) (.one (cS (od (some a) (some b) none))) (aH cols rows M):=by
 have h1:=h.c0;have h2:=h.c1;have h3:=h.r0;have h4:=h.r1;have hb:=gd h hm hk;have hmm:=h.mul;have hp:0<=(aM cols mb k).2/\(aM cols mb k).2<=17:=by unfold aM;simp only[];omega
 have hq:0<=(aM cols mb k).1/\(aM cols mb k).1<=17:=by unfold aM;simp only[];omega
 refine cO Tryz.func91 ?_
 repeat' (first
  |(refine qz ?_;first
   |refine cl ?_ (hi:=by exact gv (M:=M) h hm hk rfl rfl (by decide) rfl))
  |refine zz ?_|refine zx (fun _=>?_) (fun _=>?_)|fail)
 refine WX.cq rfl ?_
 repeat' (first
  |(refine qz ?_;first
   |refine Ln ?_
   |refine cl ?_ (hi:=by exact jA (fun _ => .flat (.flat .nil)) (.flat (.flat .nil)) c1 rfl rfl (by decide) rfl)
   |refine cl ?_ (hi:=by exact jA (fun _ => .flat (.flat .nil)) (.flat (.flat .nil)) c2 rfl rfl (by decide) rfl)
   |refine cl ?_ (hi:=by exact jA (fun _ => .flat (.flat .nil)) (.flat (.flat .nil)) c3 rfl rfl (by decide) rfl)
   |refine vZ (enc:=gF) ?_
   |refine xN (enc:=gF) (i:=2) (n:=0) (q:=[]) ?_
   |refine xN (enc:=gF) ?_
   |refine M9 (enc:=gF) (f:=cS) (fun _=>rfl) ?_
   |refine cl ?_ (hi:=by exact g_ (yt1 _ rfl) (yt2 _ rfl) (yt3 _ rfl) rfl))
  |refine WX.loop ?_|refine WX.round ?_|refine zz ?_|refine zx (fun _=>?_) (fun _=>?_)|fail)
 show aE _ _ _ _ _ _ _ _;refine kV [0,1] ?_;exact congrArg XV.one rfl
theorem J1(a b c:Int×Int)(yt1:∀v,(some a)=some v->bJ v)(yt2:∀v,(some b)=some v->bJ v)(yt3:∀v,(some c)=some v->bJ v)(c1:bq prog 117 [.one (.ptr 0 0),.one (.int .i64 ((aM cols mb k).1-1)),.one (.int .i64 ((aM cols mb k).2))] (aH cols rows M) (.tup [.one (cS (((some a):Option (Int×Int)).getD (0,0))),.one (.bool (((some a):Option (Int×Int)).isSome))]) (aH cols rows M))(c2:bq prog 117 [.one (.ptr 0 0),.one (.int .i64 ((aM cols mb k).1)),.one (.int .i64 ((aM cols mb k).2-1))] (aH cols rows M) (.tup [.one (cS (((some b):Option (Int×Int)).getD (0,0))),.one (.bool (((some b):Option (Int×Int)).isSome))]) (aH cols rows M))(c3:bq prog 117 [.one (.ptr 0 0),.one (.int .i64 ((aM cols mb k).1+1)),.one (.int .i64 ((aM cols mb k).2-1))] (aH cols rows M) (.tup [.one (cS (((some c):Option (Int×Int)).getD (0,0))),.one (.bool (((some c):Option (Int×Int)).isSome))]) (aH cols rows M)):bq prog 91 [.one (.ptr 0 0),.one (.int .i64 mb),.one (.int .i64 k)] (aH cols rows M) (.one (cS (od (some a) (some b) (some c)))) (aH cols rows M):=by
 have h1:=h.c0;have h2:=h.c1;have h3:=h.r0;have h4:=h.r1;have hb:=gd h hm hk;have hmm:=h.mul;have hp:0<=(aM cols mb k).2/\(aM cols mb k).2<=17:=by unfold aM;simp only[];omega
 have hq:0<=(aM cols mb k).1/\(aM cols mb k).1<=17:=by unfold aM;simp only[];omega
 refine cO Tryz.func91 ?_
 repeat' (first
  |(refine qz ?_;first
   |refine cl ?_ (hi:=by exact gv (M:=M) h hm hk rfl rfl (by decide) rfl))
  |refine zz ?_|refine zx (fun _=>?_) (fun _=>?_)|fail)
 refine WX.cq rfl ?_
 repeat' (first
  |(refine qz ?_;first
   |refine Ln ?_
   |refine cl ?_ (hi:=by exact jA (fun _ => .flat (.flat .nil)) (.flat (.flat .nil)) c1 rfl rfl (by decide) rfl)
   |refine cl ?_ (hi:=by exact jA (fun _ => .flat (.flat .nil)) (.flat (.flat .nil)) c2 rfl rfl (by decide) rfl)
   |refine cl ?_ (hi:=by exact jA (fun _ => .flat (.flat .nil)) (.flat (.flat .nil)) c3 rfl rfl (by decide) rfl)
   |refine vZ (enc:=gF) ?_
   |refine xN (enc:=gF) (i:=2) (n:=0) (q:=[]) ?_
   |refine xN (enc:=gF) ?_
   |refine M9 (enc:=gF) (f:=cS) (fun _=>rfl) ?_
   |refine cl ?_ (hi:=by exact g_ (yt1 _ rfl) (yt2 _ rfl) (yt3 _ rfl) rfl))
  |refine WX.loop ?_|refine WX.round ?_|refine zz ?_|refine zx (fun _=>?_) (fun _=>?_)|fail)
 show aE _ _ _ _ _ _ _ _;refine kV [0,1] ?_;exact congrArg XV.one rfl
end
theorem J2{cols rows mb k:Int}{M:jF}(hM:fH M)(h:lP cols rows)(hm:0<=mb/\mb<cols*rows)(hk:0<=k/\k<4):bq prog 91 [.one (.ptr 0 0),.one (.int .i64 mb),.one (.int .i64 k)] (aH cols rows M) (.one (cS (gG M cols rows mb k))) (aH cols rows M):=by
 have h1:=h.c0;have h2:=h.c1;have h3:=h.r0;have h4:=h.r1;have hb:=gd h hm hk;have hmm:=h.mul;have hp:0<=(aM cols mb k).2/\(aM cols mb k).2<=17:=by unfold aM;simp only[];omega
 have hq:0<=(aM cols mb k).1/\(aM cols mb k).1<=17:=by unfold aM;simp only[];omega
 have c1:=yF (M:=M) h (x:=(aM cols mb k).1-1) (y:=(aM cols mb k).2) (by omega) (by omega);have c2:=yF (M:=M) h (x:=(aM cols mb k).1) (y:=(aM cols mb k).2-1) (by omega) (by omega);have c3:=yF (M:=M) h (x:=(aM cols mb k).1+1) (y:=(aM cols mb k).2-1) (by omega) (by omega);have yt1:∀v,lx M cols rows ((aM cols mb k).1-1) (aM cols mb k).2=some v->bJ v:=fun v hv=>i9 hM hv
 have yt2:∀v,lx M cols rows (aM cols mb k).1 ((aM cols mb k).2-1)=some v->bJ v:=fun v hv=>i9 hM hv
 have yt3:∀v,lx M cols rows ((aM cols mb k).1+1) ((aM cols mb k).2-1)=some v->bJ v:=fun v hv=>i9 hM hv
 unfold gG;generalize lx M cols rows ((aM cols mb k).1-1) (aM cols mb k).2=la at c1 yt1 ⊢;generalize lx M cols rows (aM cols mb k).1 ((aM cols mb k).2-1)=lb at c2 yt2 ⊢;generalize lx M cols rows ((aM cols mb k).1+1) ((aM cols mb k).2-1)=lc at c3 yt3 ⊢
 rcases la with _|a<;>rcases lb with _|b<;>rcases lc with _|c
 ·exact JU h hm hk yt1 yt2 yt3 c1 c2 c3
 ·exact JV h hm hk c yt1 yt2 yt3 c1 c2 c3
 ·exact JW h hm hk b yt1 yt2 yt3 c1 c2 c3
 ·exact JX h hm hk b c yt1 yt2 yt3 c1 c2 c3
 ·exact JY h hm hk a yt1 yt2 yt3 c1 c2 c3
 ·exact JZ h hm hk a c yt1 yt2 yt3 c1 c2 c3
 ·exact J0 h hm hk a b yt1 yt2 yt3 c1 c2 c3
 ·exact J1 h hm hk a b c yt1 yt2 yt3 c1 c2 c3
theorem CF{la lb lc:Option (Int×Int)}(h1:∀v,la=some v->bJ v)(h2:∀v,lb=some v->bJ v)(h3:∀v,lc=some v->bJ v):bJ (od la lb lc):=by
 rcases la with _|a<;>rcases lb with _|b<;>rcases lc with _|c<;>unfold od<;>simp only[]
 ·exact⟨⟨by decide,by decide⟩,⟨by decide,by decide⟩⟩
 ·exact h3 _ rfl
 ·exact h2 _ rfl
 ·exact h2 _ rfl
 ·exact h1 _ rfl
 ·exact h1 _ rfl
 ·exact h1 _ rfl
 ·exact⟨wX (h1 _ rfl).1 (h2 _ rfl).1 (h3 _ rfl).1,wX (h1 _ rfl).2 (h2 _ rfl).2 (h3 _ rfl).2⟩
theorem lZ{cols rows mb k:Int}{M:jF}(hM:fH M):bJ (gG M cols rows mb k):=CF (fun v hv=>i9 hM hv) (fun v hv=>i9 hM hv) (fun v hv=>i9 hM hv)
instance RN (p:Int×Int):bZ (.one (cS p)):=eI rfl
theorem qR{cols rows mb k:Int}{M:jF}(hM:fH M)(h:lP cols rows)(hm:0<=mb/\mb<cols*rows)(hk:0<=k/\k<4){HS:ah}{i j:Nat}(hi:HS[i]? = some (fA j cols rows))(hj:HS[j]? = some (.map (cB M)))(hd:i≠j)(hbd:Nat.blt HS.length Mem.bound=true) :
 az.Sound prog ⟨91,[.one (.ptr i 0),.one (.int .i64 mb),.one (.int .i64 k)],HS,.one (cS (gG M cols rows mb k)),HS,[]⟩:=
 jA (fun _ => .flat (.flat .nil)) (.flat (.flat .nil)) (J2 hM h hm hk) hi hj hd hbd
end Go.Proofs.YthdciapjllppjaaGreat
