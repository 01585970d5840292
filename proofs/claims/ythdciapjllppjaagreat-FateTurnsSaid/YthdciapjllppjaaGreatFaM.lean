/-
  A part of the proof: FieldV.
-/
import Derived.Test.YthdciapjllppjaaGreatFaL
set_option maxRecDepth 10000
set_option maxHeartbeats 8000000
set_option linter.unusedVariables false
set_option linter.unusedSectionVars false
set_option linter.unusedSimpArgs false
open Go.Proofs.Tryz (prog)
namespace Go.Xm
variable [av]
variable {P:Program} {ops:Array Oper} {nt nI:Nat} {al:aL} {hs:ah} {o:Oper} {l:List Oper} {L:List aA} {K:List Ab->aL->ah->Prop} {d:Nat}
theorem LI{t:TypeId}{x ix:Operand}{len:Nat}{elem:TypeId}{cs:List XC}{k:IntKind}{z:Int}{c:XC}(hk:SK P ops nt L l ((d,.one c)::al) hs fun bs=>K (quiet::bs))(ho:o.op = .index t x ix:=by exact rfl)(hw:aw ops (rg al) o=some true:=by exact rfl)(hd:o.dst=some d:=by exact rfl)(hlt:Nat.blt d nt=true:=by exact rfl)
 (ha:ag (rg al) x = .agg cs:=by exact rfl) (hb:ag (rg al) ix = .one (.int k z):=by exact rfl) (hu:aG P t (.array len elem):=by infer_instance) (hs':aF P elem 1:=by infer_instance) (hg:cE P elem:=by infer_instance) (hz:0<=z/\z<(len:Nat):=by omega) (hc:cs[z.toNat]? = some c:=by exact rfl):SK P ops nt L (o::l) al hs K:=
 lr hw hd hlt (by rw[ho];simp only[aT,qd,ha,hb,hu.out,hs'.out,if_pos hz,mw,hg.out,Nat.mul_one,hc,Option.map_some,X1.pj]) hk
theorem MA{t:TypeId}{x ix:Operand}{len s:Nat}{elem:TypeId}{cs cs':List XC}{k:IntKind}{z:Int}(hk:SK P ops nt L l ((d,.agg cs')::al) hs fun bs=>K (quiet::bs))(ho:o.op = .index t x ix:=by exact rfl)(hw:aw ops (rg al) o=some true:=by exact rfl)(hd:o.dst=some d:=by exact rfl)(hlt:Nat.blt d nt=true:=by exact rfl)
 (ha:ag (rg al) x = .agg cs:=by exact rfl) (hb:ag (rg al) ix = .one (.int k z):=by exact rfl) (hu:aG P t (.array len elem):=by infer_instance) (hs':aF P elem s:=by infer_instance) (hg:da P elem:=by infer_instance) (hz:0<=z/\z<(len:Nat):=by omega) (hc:(cs.drop (z.toNat*s)).take s=cs':=by exact rfl):SK P ops nt L (o::l) al hs K:=
 lr hw hd hlt (by rw[ho];simp only[aT,qd,ha,hb,hu.out,hs'.out,if_pos hz,mw,hg.out,hc,Option.map_some,X1.pj]) hk
theorem Qo{k:IntKind}{n:Nat}{q:Nat->Int}{a s:Nat}(h:a+s<=n):((ti k n q).drop a).take s=ti k s (fun i=>q (a+i)):=by
 apply List.ext_getElem?;intro i;rw[List.getElem?_take,List.getElem?_drop]
 by_cases hi:i<s
 ·rw[if_pos hi,lO (by omega),lO hi]
 ·rw[if_neg hi,List.getElem?_eq_none (by rw[aU];omega)]
theorem RJ{t:TypeId}{x ix:Operand}{len n:Nat}{elem:TypeId}{q:Nat->Int}{k k':IntKind}{z:Int}(hk:SK P ops nt L l ((d,.one (.int k' (q z.toNat)))::al) hs fun bs=>K (quiet::bs))(ho:o.op = .index t x ix:=by exact rfl)(hw:aw ops (rg al) o=some true:=by exact rfl)(hd:o.dst=some d:=by exact rfl)(hlt:Nat.blt d nt=true:=by exact rfl)
 (ha:ag (rg al) x = .agg (ti k' n q):=by exact rfl) (hb:ag (rg al) ix = .one (.int k z):=by exact rfl) (hu:aG P t (.array len elem):=by infer_instance) (hs':aF P elem 1:=by infer_instance) (hg:cE P elem:=by infer_instance) (hz:0<=z/\z<(len:Nat):=by omega) (hln:len=n:=by exact rfl):SK P ops nt L (o::l) al hs K:=
 LI hk ho hw hd hlt ha hb hu hs' hg hz (lO (by omega))
theorem Mz{t:TypeId}{x ix:Operand}{len n s:Nat}{elem:TypeId}{q:Nat->Int}{k k':IntKind}{z:Int}(hk:SK P ops nt L l ((d,.agg (ti k' s fun i=>q (z.toNat*s+i)))::al) hs fun bs=>K (quiet::bs))(ho:o.op = .index t x ix:=by exact rfl)(hw:aw ops (rg al) o=some true:=by exact rfl)(hd:o.dst=some d:=by exact rfl)(hlt:Nat.blt d nt=true:=by exact rfl)
 (ha:ag (rg al) x = .agg (ti k' n q):=by exact rfl) (hb:ag (rg al) ix = .one (.int k z):=by exact rfl) (hu:aG P t (.array len elem):=by infer_instance) (hs':aF P elem s:=by infer_instance) (hg:da P elem:=by infer_instance) (hz:0<=z/\z<(len:Nat):=by omega) (hln:len*s=n:=by exact rfl):SK P ops nt L (o::l) al hs K:=
 MA hk ho hw hd hlt ha hb hu hs' hg hz (Qo (by
  have h1:z.toNat+1<=len:=by omega
  have h2:=Nat.mul_le_mul_right s h1;rw[Nat.add_mul,Nat.one_mul]at h2
  omega))
theorem Ei{α : Type}{enc : α->List XC}{f : α->XC}(henc:∀a,enc a = [f a])(q:List α):fl enc q=q.map f:=by
 unfold fl
 induction q with
 | nil=>rfl
 | cons a q ih=>rw[List.flatMap_cons,ih,henc];rfl
theorem Oe{α : Type}[Inhabited α]{enc : α->List XC}{f : α->XC}(henc:∀a,enc a = [f a]){t:TypeId}{a:Operand}{i off:Nat}{e:TypeId}{q:List α}(hk:SK P ops nt L l ((d,.one (f (q.getD off default)))::al) hs fun bs=>K (⟨false,some i,[]⟩::bs))(ho:o.op = .load t a:=by exact rfl)(ht:cE P t:=by infer_instance)(hw:aw ops (rg al) o=some true:=by exact rfl)(hd:o.dst=some d:=by exact rfl)(hlt:Nat.blt d nt=true:=by exact rfl)
 (ha:ag (rg al) a = .one (.ptr i off):=by exact rfl) (hi:hs[i]? = some (bu e (fl enc q)):=by exact rfl) (hc:off<q.length:=by first|omega|(simp only[List.length_cons,List.length_nil,List.length_append];first|omega|decide)):SK P ops nt L (o::l) al hs K:=by
 have h1:bu e (fl enc q) = .cells (fl enc q) e true false:=bJ (fun hn=>by
  have:(fl enc q).length=0:=by rw[hn];rfl
  rw[Ei henc,List.length_map]at this
  omega)
 have h2:(fl enc q)[off]? = some (f (q.getD off default)):=by
  rw[Ei henc,List.getElem?_map,List.getD_eq_getElem?_getD,List.getElem?_eq_getElem hc];rfl
 exact fJ ho hw hd hlt ha (hi.trans (congrArg some h1)) h2 hk
end Go.Xm
namespace Go.Proofs.YthdciapjllppjaaGreat
open Go.Xm
variable [av]
abbrev jA:=List (Int×(Int×Int))
def NG(p:Int×Int):X1 := .one (cQ p)
abbrev cB(M:jA):List (X1×X1):=gS Pb NG M
instance Qx (M:jA):cf (.map (cB M)):=uZ (fun _=>rfl) (fun _=>rfl) M
abbrev fD(m:Nat)(cols rows:Int):aj := .cells [.int .i64 cols,.int .i64 rows,.map m] 216 false false
abbrev aI(cols rows:Int)(M:jA):ah:=[fD 1 cols rows,.map (cB M)]
theorem NW:kS prog 101=some (.one (.cplx .f64 0 0)):=by kernel_rfl
theorem QT:kS prog 101=some (NG (0,0)):=by
 rw[NW];unfold NG;rw[iH]
instance Te (a b:Int):b_ (.tup [.one (.int .i64 a),.one (.int .i64 b)]):=jj rfl
structure mB(cols rows:Int):Prop where
 c0:1<=cols
 c1:cols<=8
 r0:1<=rows
 r1:rows<=8
theorem mB.mul{cols rows:Int}(h:mB cols rows):0<=cols*rows/\cols*rows<=64:=yE ⟨h.c0,h.c1⟩ ⟨by have:=h.r0;omega,h.r1⟩
theorem La(cols rows:Int)(h:mB cols rows):bm prog 83 [.one (.int .i64 cols),.one (.int .i64 rows)] [] (.one (.ptr 0 0)) (aI cols rows []):=by
 have h1:=h.c0;have h2:=h.c1;have h3:=h.r0;have h4:=h.r1;refine cO Tryz.func83 ?_
 repeat' (first|refine zz ?_|refine zx (fun _=>?_) (fun _=>?_)|fail)
 show aE _ _ _ _ _ _ _ _;refine kV [1,0] ?_;rfl
def aN(cols mb k:Int):Int×Int:=(2*(mb%cols)+k%2,2*(mb/cols)+k/2)
theorem fZ{cols rows mb k:Int}(h:mB cols rows)(hm:0<=mb/\mb<cols*rows)(hk:0<=k/\k<4):0<=mb%cols/\mb%cols<cols/\0<=mb/cols/\mb/cols<rows:=by
 refine⟨Int.emod_nonneg _ (by have:=h.c0;omega),Int.emod_lt_of_pos _ (by have:=h.c0;omega),Int.ediv_nonneg hm.1 (by have:=h.c0;omega),?_⟩;exact Int.ediv_lt_of_lt_mul (by have:=h.c0;omega) (by rw[Int.mul_comm];exact hm.2)
theorem Dn{cols rows mb k:Int}{M:jA}(h:mB cols rows)(hm:0<=mb/\mb<cols*rows)(hk:0<=k/\k<4):bm prog 116 [.one (.ptr 0 0),.one (.int .i64 mb),.one (.int .i64 k)] (aI cols rows M) (.tup [.one (.int .i64 (aN cols mb k).1),.one (.int .i64 (aN cols mb k).2)]) (aI cols rows M):=by
 have h1:=h.c0;have h2:=h.c1;have h3:=h.r0;have h4:=h.r1;have hb:=fZ h hm hk;have hmm:=h.mul;refine cO Tryz.func116 ?_
 repeat' (first|refine zz ?_|refine zx (fun _=>?_) (fun _=>?_)|fail)
 show aE _ _ _ _ _ _ _ _;refine kV [0,1] ?_;rfl
theorem ju{f:FuncId}{more:List XV}(hm:∀τ,e9 τ more more)(hmo:gQ 2 more){v:XV}[b_ v]{cols rows:Int}{M:jA}(hc:bm prog f (.one (.ptr 0 0)::more) (aI cols rows M) v (aI cols rows M)){HS:ah}{i k:Nat}(hi:HS[i]? = some (fD k cols rows))(hk:HS[k]? = some (.map (cB M)))(hd:i≠k)(hbd:Nat.blt HS.length Mem.bound=true) :
 aA.Sound prog ⟨f,.one (.ptr i 0)::more,HS,v,HS,[]⟩:=by
 refine f_ [i,k] hc (by simp[hd]) ?_ ?_ (.cons (by simp[XV.bt,XC.ok]) hmo) (.cons rfl (hm _)) (b_.ok _) (b_.aC _) hbd rfl
 ·exact .cons hi (.flat hk .nil)
 ·exact .cons (by simp[aj.bt,XC.ok]) (.flat .nil)
theorem gf{cols rows mb k:Int}{M:jA}(h:mB cols rows)(hm:0<=mb/\mb<cols*rows)(hk:0<=k/\k<4){HS:ah}{i j:Nat}(hi:HS[i]? = some (fD j cols rows))(hj:HS[j]? = some (.map (cB M)))(hd:i≠j)(hbd:Nat.blt HS.length Mem.bound=true) :
 aA.Sound prog ⟨116,[.one (.ptr i 0),.one (.int .i64 mb),.one (.int .i64 k)],HS,.tup [.one (.int .i64 (aN cols mb k).1),.one (.int .i64 (aN cols mb k).2)],HS,[]⟩:=
 ju (fun _ => .flat (.flat .nil)) (.flat (.flat .nil)) (Dn h hm hk) hi hj hd hbd
def lx(M:jA)(cols rows x y:Int):Option (Int×Int):=if x<0\/y<0\/2*cols<=x\/2*rows<=y then none else dz M (y*2*cols+x)
instance Td (p:Int×Int) (b:Bool):b_ (.tup [.one (cQ p),.one (.bool b)]):=jj rfl
theorem zo{cols rows x y:Int}{M:jA}(h:mB cols rows)(hx : -1<=x/\x<=100)(hy : -1<=y/\y<=100):bm prog 117 [.one (.ptr 0 0),.one (.int .i64 x),.one (.int .i64 y)] (aI cols rows M) (.tup [.one (cQ ((lx M cols rows x y).getD (0,0))),.one (.bool (lx M cols rows x y).isSome)]) (aI cols rows M):=by
 have h1:=h.c0;have h2:=h.c1;have h3:=h.r0;have h4:=h.r1;unfold lx
 by_cases hin:x<0\/y<0\/2*cols<=x\/2*rows<=y
 ·rw [if_pos hin];have e:cQ ((none:Option (Int×Int)).getD (0,0)) = .cplx .f64 0 0:=iH;rw[e];refine cO Tryz.func117 ?_
  repeat' (first|refine zz ?_|refine zx (fun _=>?_) (fun _=>?_)|fail)
  all_goals
   first
    | (exfalso;omega)
    | (show aE _ _ _ _ _ _ _ _;refine kV [0,1] ?_;rfl)
 ·rw[if_neg hin]
  have hp:0<=y*2*cols/\y*2*cols<=1600:=⟨Int.mul_nonneg (by omega) (by omega),by
   have:=Int.mul_le_mul (show y*2<=200 by omega) h2 (by omega) (by decide)
   omega⟩
  refine cO Tryz.func117 ?_
  repeat' (first
   |(refine qz ?_;first
    |refine E1 rfl rfl rfl rfl tJ QT rfl rfl rfl ?_)
   |refine zz ?_|refine zx (fun _=>?_) (fun _=>?_)|fail)
  show aE _ _ _ _ _ _ _ _;refine kV [0,1] ?_;rfl
def cI(M:jA)(cols mb k:Int)(v:Int×Int):jA:=sq M ((aN cols mb k).2*2*cols+(aN cols mb k).1) v
theorem Lc{cols rows mb k:Int}{M:jA}(h:mB cols rows)(hm:0<=mb/\mb<cols*rows)(hk:0<=k/\k<4)(v:Int×Int):bm prog 92 [.one (.ptr 0 0),.one (.int .i64 mb),.one (.int .i64 k),.one (cQ v)] (aI cols rows M) (.tup []) (aI cols rows (cI M cols mb k v)):=by
 have h1:=h.c0;have h2:=h.c1;have h3:=h.r0;have h4:=h.r1;have hb:=fZ h hm hk;have hmm:=h.mul;have hp:0<=(aN cols mb k).2/\(aN cols mb k).2<=17:=by unfold aN;simp only[];omega
 have hq:0<=(aN cols mb k).1/\(aN cols mb k).1<=17:=by unfold aN;simp only[];omega
 have hpp:0<=(aN cols mb k).2*2*cols/\(aN cols mb k).2*2*cols<=1600:=⟨Int.mul_nonneg (by omega) (by omega),by
  have:=Int.mul_le_mul (show(aN cols mb k).2*2<=200 by omega) h2 (by omega) (by decide)
  omega⟩
 refine cO Tryz.func92 ?_
 repeat' (first
  |(refine qz ?_;first
   |refine cl ?_ (hi:=by exact gf (M:=M) h hm hk rfl rfl (by decide) rfl)
   |refine vJ (vc:=NG) rfl rfl rfl tJ rfl rfl rfl rfl (by first|(simp only[List.set_cons_succ,List.set_cons_zero];exact rfl)|exact rfl) ?_)
  |refine zz ?_|refine zx (fun _=>?_) (fun _=>?_)|fail)
 show aE _ _ _ _ _ _ _ _;refine kV [0,1] ?_;rfl
theorem jR{cols rows mb k:Int}{M:jA}(h:mB cols rows)(hm:0<=mb/\mb<cols*rows)(hk:0<=k/\k<4){v:Int×Int}{HS:ah}{i j:Nat}(hi:HS[i]? = some (fD j cols rows))(hj:HS[j]? = some (.map (cB M)))(hd:i≠j){HS':ah}(hh:HS.set j (.map (cB (cI M cols mb k v)))=HS')(hbd:Nat.blt HS'.length Mem.bound=true) :
 aA.Sound prog ⟨92,[.one (.ptr i 0),.one (.int .i64 mb),.one (.int .i64 k),.one (cQ v)],HS,.tup [],HS',[j]⟩:=by
 have hh':bD HS [i,j] [fD j cols rows,.map (cB (cI M cols mb k v))]=HS':=by
  subst hh;simp only[bD,List.append_nil];rw[aB hi]
 refine bh [i,j] [j] 0 (Lc (M:=M) h hm hk v) (by simp[hd]) ?_ ?_ ?_ rfl (.cons (by simp[XV.bt,XC.ok]) (.flat (.flat (.cons trivial .nil)))) (.cons rfl (.flat (.flat (.cons rfl .nil)))) (b_.ok _) (b_.aC _) ?_ rfl rfl hh' hbd (.inr fun q hq hj=>?_)
 ·exact .cons hi (.flat hj .nil)
 ·exact .cons (by simp[aj.bt,XC.ok]) (.flat .nil)
 ·exact .cons (by simp[aj.bt,XC.ok]) (.flat .nil)
 ·exact .cons rfl (.flat .nil)
 ·subst hh;rw[List.getElem?_set,if_neg (fun h=>hj (by rw[h];exact List.mem_singleton.2 rfl))]
def fG(M:jA):Prop:=∀key v,dz M key=some v->bM v
theorem Hm:fG []:=fun key v h=>by cases h
theorem Hn{M:jA}(h:fG M){key:Int}{v:Int×Int}(hv:bM v):fG (sq M key v):=fun key' v' h'=>by
 rw[si]at h';split at h'
 ·cases h';exact hv
 ·exact h key' v' h'
def oD(la lb lc:Option (Int×Int)):Int×Int:=match la,lb,lc with
 | some a,some b,some c=>Pv a b c
 | some a,_,_=>a
 | none,some b,_=>b
 | none,none,some c=>c
 | none,none,none=>(0,0)
def gB(M:jA)(cols rows mb k:Int):Int×Int:=
 oD (lx M cols rows ((aN cols mb k).1-1) (aN cols mb k).2) (lx M cols rows (aN cols mb k).1 ((aN cols mb k).2-1)) (lx M cols rows ((aN cols mb k).1+1) ((aN cols mb k).2-1))
def gA(p:Int×Int):List XC:=[cQ p]
instance:nR gA 1:=⟨fun _=>rfl,fun _=>rfl,by decide⟩
theorem i3{M:jA}(h:fG M){cols rows x y:Int}{v:Int×Int}(hv:lx M cols rows x y=some v):bM v:=by
 unfold lx at hv;split at hv
 ·cases hv
 ·exact h _ _ hv
section
variable {cols rows mb k:Int} {M:jA}(h:mB cols rows) (hm:0<=mb/\mb<cols*rows) (hk:0<=k/\k<4)
include h hm hk
theorem K2(yt1:∀v,none=some v->bM v)(yt2:∀v,none=some v->bM v)(yt3:∀v,none=some v->bM v)(c1:bm prog 117 [.one (.ptr 0 0),.one (.int .i64 ((aN cols mb k).1-1)),.one (.int .i64 ((aN cols mb k).2))] (aI cols rows M) (.tup [.one (cQ ((none:Option (Int×Int)).getD (0,0))),.one (.bool ((none:Option (Int×Int)).isSome))]) (aI cols rows M))(c2:bm prog 117 [.one (.ptr 0 0),.one (.int .i64 ((aN cols mb k).1)),.one (.int .i64 ((aN cols mb k).2-1))] (aI cols rows M) (.tup [.one (cQ ((none:Option (Int×Int)).getD (0,0))),.one (.bool ((none:Option (Int×Int)).isSome))]) (aI cols rows M))(c3:bm prog 117 [.one (.ptr 0 0),.one (.int .i64 ((aN cols mb k).1+1)),.one (.int .i64 ((aN cols mb k).2-1))] (aI cols rows M) (.tup [.one (cQ ((none:Option (Int×Int)).getD (0,0))),.one (.bool ((none:Option (Int×Int)).isSome))]) (aI cols rows M)):bm prog 91 [.one (.ptr 0 0),.one (.int .i64 mb),.one (.int .i64 k)] (aI cols rows M) (.one (cQ (oD none none none))) (aI cols rows M):=by
 have h1:=h.c0;have h2:=h.c1;have h3:=h.r0;have h4:=h.r1;have hb:=fZ h hm hk;have hmm:=h.mul;have hp:0<=(aN cols mb k).2/\(aN cols mb k).2<=17:=by unfold aN;simp only[];omega
 have hq:0<=(aN cols mb k).1/\(aN cols mb k).1<=17:=by unfold aN;simp only[];omega
 refine cO Tryz.func91 ?_
 repeat' (first
  |(refine qz ?_;first
   |refine cl ?_ (hi:=by exact gf (M:=M) h hm hk rfl rfl (by decide) rfl))
  |refine zz ?_|refine zx (fun _=>?_) (fun _=>?_)|fail)
 refine WX.bU rfl ?_
 repeat' (first
  |(refine qz ?_;first
   |refine MA ?_
   |refine cl ?_ (hi:=by exact ju (fun _ => .flat (.flat .nil)) (.flat (.flat .nil)) c1 rfl rfl (by decide) rfl)
   |refine cl ?_ (hi:=by exact ju (fun _ => .flat (.flat .nil)) (.flat (.flat .nil)) c2 rfl rfl (by decide) rfl)
   |refine cl ?_ (hi:=by exact ju (fun _ => .flat (.flat .nil)) (.flat (.flat .nil)) c3 rfl rfl (by decide) rfl)
   |refine uh (enc:=gA) ?_
   |refine xe (enc:=gA) (i:=2) (n:=0) (q:=[]) ?_
   |refine xe (enc:=gA) ?_
   |refine Oe (enc:=gA) (f:=cQ) (fun _=>rfl) ?_
   |refine cl ?_ (hi:=by exact hJ (yt1 _ rfl) (yt2 _ rfl) (yt3 _ rfl) rfl))
  |refine WX.loop ?_|refine WX.round ?_|refine zz ?_|refine zx (fun _=>?_) (fun _=>?_)|fail)
 show aE _ _ _ _ _ _ _ _;refine kV [0,1] ?_;exact congrArg XV.one iH.symm
theorem K3(c:Int×Int)(yt1:∀v,none=some v->bM v)(yt2:∀v,none=some v->bM v)(yt3:∀v,(some c)=some v->bM v)(c1:bm prog 117 [.one (.ptr 0 0),.one (.int .i64 ((aN cols mb k).1-1)),.one (.int .i64 ((aN cols mb k).2))] (aI cols rows M) (.tup [.one (cQ ((none:Option (Int×Int)).getD (0,0))),.one (.bool ((none:Option (Int×Int)).isSome))]) (aI cols rows M))(c2:bm prog 117 [.one (.ptr 0 0),.one (.int .i64 ((aN cols mb k).1)),.one (.int .i64 ((aN cols mb k).2-1))] (aI cols rows M) (.tup [.one (cQ ((none:Option (Int×Int)).getD (0,0))),.one (.bool ((none:Option (Int×Int)).isSome))]) (aI cols rows M))(c3:bm prog 117 [.one (.ptr 0 0),.one (.int .i64 ((aN cols mb k).1+1)),.one (.int .i64 ((aN cols mb k).2-1))] (aI cols rows M) (.tup [.one (cQ (((some c):Option (Int×Int)).getD (0,0))),.one (.bool (((some c):Option (Int×Int)).isSome))]) (aI cols rows M)):bm prog 91 [.one (.ptr 0 0),.one (.int .i64 mb),.one (.int .i64 k)] (aI cols rows M) (.one (cQ (oD none none (some c)))) (aI cols rows M):=by
 have h1:=h.c0;have h2:=h.c1;have h3:=h.r0;have h4:=h.r1;have hb:=fZ h hm hk;have hmm:=h.mul;have hp:0<=(aN cols mb k).2/\(aN cols mb k).2<=17:=by unfold aN;simp only[];omega
 have hq:0<=(aN cols mb k).1/\(aN cols mb k).1<=17:=by unfold aN;simp only[];omega
 refine cO Tryz.func91 ?_
 repeat' (first
  |(refine qz ?_;first
   |refine cl ?_ (hi:=by exact gf (M:=M) h hm hk rfl rfl (by decide) rfl))
  |refine zz ?_|refine zx (fun _=>?_) (fun _=>?_)|fail)
 refine WX.bU rfl ?_
 repeat' (first
  |(refine qz ?_;first
   |refine MA ?_
   |refine cl ?_ (hi:=by exact ju (fun _ => .flat (.flat .nil)) (.flat (.flat .nil)) c1 rfl rfl (by decide) rfl)
   |refine cl ?_ (hi:=by exact ju (fun _ => .flat (.flat .nil)) (.flat (.flat .nil)) c2 rfl rfl (by decide) rfl)
   |refine cl ?_ (hi:=by exact ju (fun _ => .flat (.flat .nil)) (.flat (.flat .nil)) c3 rfl rfl (by decide) rfl)
   |refine uh (enc:=gA) ?_
   |refine xe (enc:=gA) (i:=2) (n:=0) (q:=[]) ?_
   |refine xe (enc:=gA) ?_
   |refine Oe (enc:=gA) (f:=cQ) (fun _=>rfl) ?_
   |refine cl ?_ (hi:=by exact hJ (yt1 _ rfl) (yt2 _ rfl) (yt3 _ rfl) rfl))
  |refine WX.loop ?_|refine WX.round ?_|refine zz ?_|refine zx (fun _=>?_) (fun _=>?_)|fail)
 show aE _ _ _ _ _ _ _ _;refine kV [0,1] ?_;exact congrArg XV.one rfl
theorem K4(b:Int×Int)(yt1:∀v,none=some v->bM v)(yt2:∀v,(some b)=some v->bM v)(yt3:∀v,none=some v->bM v)(c1:bm prog 117 [.one (.ptr 0 0),.one (.int .i64 ((aN cols mb k).1-1)),.one (.int .i64 ((aN cols mb k).2))] (aI cols rows M) (.tup [.one (cQ ((none:Option (Int×Int)).getD (0,0))),.one (.bool ((none:Option (Int×Int)).isSome))]) (aI cols rows M))(c2:bm prog 117 [.one (.ptr 0 0),.one (.int .i64 ((aN cols mb k).1)),.one (.int .i64 ((aN cols mb k).2-1))] (aI cols rows M) (.tup [.one (cQ (((some b):Option (Int×Int)).getD (0,0))),.one (.bool (((some b):Option (Int×Int)).isSome))]) (aI cols rows M))(c3:bm prog 117 [.one (.ptr 0 0),.one (.int .i64 ((aN cols mb k).1+1)),.one (.int .i64 ((aN cols mb k).2-1))] (aI cols rows M) (.tup [.one (cQ ((none:Option (Int×Int)).getD (0,0))),.one (.bool ((none:Option (Int×Int)).isSome))]) (aI cols rows M)):bm prog 91 [.one (.ptr 0 0),.one (.int .i64 mb),.one (.int .i64 k)] (aI cols rows M) (.one (cQ (oD none (some b) none))) (aI cols rows M):=by
 have h1:=h.c0;have h2:=h.c1;have h3:=h.r0;have h4:=h.r1;have hb:=fZ h hm hk;have hmm:=h.mul;have hp:0<=(aN cols mb k).2/\(aN cols mb k).2<=17:=by unfold aN;simp only[];omega
 have hq:0<=(aN cols mb k).1/\(aN cols mb k).1<=17:=by unfold aN;simp only[];omega
 refine cO Tryz.func91 ?_
 repeat' (first
  |(refine qz ?_;first
   |refine cl ?_ (hi:=by exact gf (M:=M) h hm hk rfl rfl (by decide) rfl))
  |refine zz ?_|refine zx (fun _=>?_) (fun _=>?_)|fail)
 refine WX.bU rfl ?_
 repeat' (first
  |(refine qz ?_;first
   |refine MA ?_
   |refine cl ?_ (hi:=by exact ju (fun _ => .flat (.flat .nil)) (.flat (.flat .nil)) c1 rfl rfl (by decide) rfl)
   |refine cl ?_ (hi:=by exact ju (fun _ => .flat (.flat .nil)) (.flat (.flat .nil)) c2 rfl rfl (by decide) rfl)
   |refine cl ?_ (hi:=by exact ju (fun _ => .flat (.flat .nil)) (.flat (.flat .nil)) c3 rfl rfl (by decide) rfl)
   |refine uh (enc:=gA) ?_
   |refine xe (enc:=gA) (i:=2) (n:=0) (q:=[]) ?_
   |refine xe (enc:=gA) ?_
   |refine Oe (enc:=gA) (f:=cQ) (fun _=>rfl) ?_
   |refine cl ?_ (hi:=by exact hJ (yt1 _ rfl) (yt2 _ rfl) (yt3 _ rfl) rfl))
  |refine WX.loop ?_|refine WX.round ?_|refine zz ?_|refine zx (fun _=>?_) (fun _=>?_)|fail)
 show aE _ _ _ _ _ _ _ _;refine kV [0,1] ?_;exact congrArg XV.one rfl
theorem K5(b c:Int×Int)(yt1:∀v,none=some v->bM v)(yt2:∀v,(some b)=some v->bM v)(yt3:∀v,(some c)=some v->bM v)(c1:bm prog 117 [.one (.ptr 0 0),.one (.int .i64 ((aN cols mb k).1-1)),.one (.int .i64 ((aN cols mb k).2))] (aI cols rows M) (.tup [.one (cQ ((none:Option (Int×Int)).getD (0,0))),.one (.bool ((none:Option (Int×Int)).isSome))]) (aI cols rows M))(c2:bm prog 117 [.one (.ptr 0 0),.one (.int .i64 ((aN cols mb k).1)),.one (.int .i64 ((aN cols mb k).2-1))] (aI cols rows M) (.tup [.one (cQ (((some b):Option (Int×Int)).getD (0,0))),.one (.bool (((some b):Option (Int×Int)).isSome))]) (aI cols rows M))(c3:bm prog 117 [.one (.ptr 0 0),.one (.int .i64 ((aN cols mb k).1+1)),.one (.int .i64 ((aN cols mb k).2-1))] (aI cols rows M) (.tup [.one (cQ (((some c):Option (Int×Int)).getD (0,0))),.one (.bool (((some c):Option (Int×Int)).isSome))]) (aI cols rows M)):bm prog 91 [.one (.ptr 0 0),.one (.int .i64 mb),.one (.int .i64 k)] (aI cols rows M) (.one (cQ (oD none (some b) (some c)))) (aI cols rows M):=by
 have h1:=h.c0;have h2:=h.c1;have h3:=h.r0;have h4:=h.r1;have hb:=fZ h hm hk;have hmm:=h.mul;have hp:0<=(aN cols mb k).2/\(aN cols mb k).2<=17:=by unfold aN;simp only[];omega
 have hq:0<=(aN cols mb k).1/\(aN cols mb k).1<=17:=by unfold aN;simp only[];omega
 refine cO Tryz.func91 ?_
 repeat' (first
  |(refine qz ?_;first
   |refine cl ?_ (hi:=by exact gf (M:=M) h hm hk rfl rfl (by decide) rfl))
  |refine zz ?_|refine zx (fun _=>?_) (fun _=>?_)|fail)
 refine WX.bU rfl ?_
 repeat' (first
  |(refine qz ?_;first
   |refine MA ?_
   |refine cl ?_ (hi:=by exact ju (fun _ => .flat (.flat .nil)) (.flat (.flat .nil)) c1 rfl rfl (by decide) rfl)
   |refine cl ?_ (hi:=by exact ju (fun _ => .flat (.flat .nil)) (.flat (.flat .nil)) c2 rfl rfl (by decide) rfl)
   |refine cl ?_ (hi:=by exact ju (fun _ => .flat (.flat .nil)) (.flat (.flat .nil)) c3 rfl rfl (by decide) rfl)
   |refine uh (enc:=gA) ?_
   |refine xe (enc:=gA) (i:=2) (n:=0) (q:=[]) ?_
   |refine xe (enc:=gA) ?_
   |refine Oe (enc:=gA) (f:=cQ) (fun _=>rfl) ?_
   |refine cl ?_ (hi:=by exact hJ (yt1 _ rfl) (yt2 _ rfl) (yt3 _ rfl) rfl))
  |refine WX.loop ?_|refine WX.round ?_|refine zz ?_|refine zx (fun _=>?_) (fun _=>?_)|fail)
 show aE _ _ _ _ _ _ _ _;refine kV [0,1] ?_;exact congrArg XV.one rfl
theorem K6(a:Int×Int)(yt1:∀v,(some a)=some v->bM v)(yt2:∀v,none=some v->bM v)(yt3:∀v,none=some v->bM v)(c1:bm prog 117 [.one (.ptr 0 0),.one (.int .i64 ((aN cols mb k).1-1)),.one (.int .i64 ((aN cols mb k).2))] (aI cols rows M) (.tup [.one (cQ (((some a):Option (Int×Int)).getD (0,0))),.one (.bool (((some a):Option (Int×Int)).isSome))]) (aI cols rows M))(c2:bm prog 117 [.one (.ptr 0 0),.one (.int .i64 ((aN cols mb k).1)),.one (.int .i64 ((aN cols mb k).2-1))] (aI cols rows M) (.tup [.one (cQ ((none:Option (Int×Int)).getD (0,0))),.one (.bool ((none:Option (Int×Int)).isSome))]) (aI cols rows M))(c3:bm prog 117 [.one (.ptr 0 0),.one (.int .i64 ((aN cols mb k).1+1)),.one (.int .i64 ((aN cols mb k).2-1))] (aI cols rows M) (.tup [.one (cQ ((none:Option (Int×Int)).getD (0,0))),.one (.bool ((none:Option (Int×Int)).isSome))]) (aI cols rows M)):bm prog 91 [.one (.ptr 0 0),.one (.int .i64 mb),.one (.int .i64 k)] (aI cols rows M) (.one (cQ (oD (some a) none none))) (aI cols rows M):=by
 have h1:=h.c0;have h2:=h.c1;have h3:=h.r0;have h4:=h.r1;have hb:=fZ h hm hk;have hmm:=h.mul;have hp:0<=(aN cols mb k).2/\(aN cols mb k).2<=17:=by unfold aN;simp only[];omega
 have hq:0<=(aN cols mb k).1/\(aN cols mb k).1<=17:=by unfold aN;simp only[];omega
 refine cO Tryz.func91 ?_
 repeat' (first
  |(refine qz ?_;first
   |refine cl ?_ (hi:=by exact gf (M:=M) h hm hk rfl rfl (by decide) rfl))
  |refine zz ?_|refine zx (fun _=>?_) (fun _=>?_)|fail)
 refine WX.bU rfl ?_
 repeat' (first
  |(refine qz ?_;first
   |refine MA ?_
   |refine cl ?_ (hi:=by exact ju (fun _ => .flat (.flat .nil)) (.flat (.flat .nil)) c1 rfl rfl (by decide) rfl)
   |refine cl ?_ (hi:=by exact ju (fun _ => .flat (.flat .nil)) (.flat (.flat .nil)) c2 rfl rfl (by decide) rfl)
   |refine cl ?_ (hi:=by exact ju (fun _ => .flat (.flat .nil)) (.flat (.flat .nil)) c3 rfl rfl (by decide) rfl)
   |refine uh (enc:=gA) ?_
   |refine xe (enc:=gA) (i:=2) (n:=0) (q:=[]) ?_
   |refine xe (enc:=gA) ?_
   |refine Oe (enc:=gA) (f:=cQ) (fun _=>rfl) ?_
   |refine cl ?_ (hi:=by exact hJ (yt1 _ rfl) (yt2 _ rfl) (yt3 _ rfl) rfl))
  |refine WX.loop ?_|refine WX.round ?_|refine zz ?_|refine zx (fun _=>?_) (fun _=>?_)|fail)
 show aE _ _ _ _ _ _ _ _;refine kV [0,1] ?_;exact congrArg XV.one rfl
theorem K7(a c:Int×Int)(yt1:∀v,(some a)=some v->bM v)(yt2:∀v,none=some v->bM v)(yt3:∀v,(some c)=some v->bM v)(c1:bm prog 117 [.one (.ptr 0 0),.one (.int .i64 ((aN cols mb k).1-1)),.one (.int .i64 ((aN cols mb k).2))] (aI cols rows M) (.tup [.one (cQ (((some a):Option (Int×Int)).getD (0,0))),.one (.bool (((some a):Option (Int×Int)).isSome))]) (aI cols rows M))(c2:bm prog 117 [.one (.ptr 0 0),.one (.int .i64 ((aN cols mb k).1)),.one (.int .i64 ((aN cols mb k).2-1))] (aI cols rows M) (.tup [.one (cQ ((none:Option (Int×Int)).getD (0,0))),.one (.bool ((none:Option (Int×Int)).isSome))]) (aI cols rows M))(c3:bm prog 117 [.one (.ptr 0 0),.one (.int .i64 ((aN cols mb k).1+1)),.one (.int .i64 ((aN cols mb k).2-1))] (aI cols rows M) (.tup [.one (cQ (((some c):Option (Int×Int)).getD (0,0))),.one (.bool (((some c):Option (Int×Int)).isSome))]) (aI cols rows M)):bm prog 91 [.one (.ptr 0 0),.one (.int .i64 mb),.one (.int .i64 k)] (aI cols rows M) (.one (cQ (oD (some a) none (some c)))) (aI cols rows M):=by
 have h1:=h.c0;have h2:=h.c1;have h3:=h.r0;have h4:=h.r1;have hb:=fZ h hm hk;have hmm:=h.mul;have hp:0<=(aN cols mb k).2/\(aN cols mb k).2<=17:=by unfold aN;simp only[];omega
 have hq:0<=(aN cols mb k).1/\(aN cols mb k).1<=17:=by unfold aN;simp only[];omega
 refine cO Tryz.func91 ?_
 repeat' (first
  |(refine qz ?_;first
   |refine cl ?_ (hi:=by exact gf (M:=M) h hm hk rfl rfl (by decide) rfl))
  |refine zz ?_|refine zx (fun _=>?_) (fun _=>?_)|fail)
 refine WX.bU rfl ?_
 repeat' (first
  |(refine qz ?_;first
   |refine MA ?_
   |refine cl ?_ (hi:=by exact ju (fun _ => .flat (.flat .nil)) (.flat (.flat .nil)) c1 rfl rfl (by decide) rfl)
   |refine cl ?_ (hi:=by exact ju (fun _ => .flat (.flat .nil)) (.flat (.flat .nil)) c2 rfl rfl (by decide) rfl)
   |refine cl ?_ (hi:=by exact ju (fun _ => .flat (.flat .nil)) (.flat (.flat .nil)) c3 rfl rfl (by decide) rfl)
   |refine uh (enc:=gA) ?_
   |refine xe (enc:=gA) (i:=2) (n:=0) (q:=[]) ?_
   |refine xe (enc:=gA) ?_
   |refine Oe (enc:=gA) (f:=cQ) (fun _=>rfl) ?_
   |refine cl ?_ (hi:=by exact hJ (yt1 _ rfl) (yt2 _ rfl) (yt3 _ rfl) rfl))
  |refine WX.loop ?_|refine WX.round ?_|refine zz ?_|refine zx (fun _=>?_) (fun _=>?_)|fail)
 show aE _ _ _ _ _ _ _ _;refine kV [0,1] ?_;exact congrArg XV.one rfl
theorem K8(a b:Int×Int)(yt1:∀v,(some a)=some v->bM v)(yt2:∀v,(some b)=some v->bM v)(yt3:∀v,none=some v->bM v)(c1:bm prog 117 [.one (.ptr 0 0),.one (.int .i64 ((aN cols mb k).1-1)),.one (.int .i64 ((aN cols mb k).2))] (aI cols rows M) (.tup [.one (cQ (((some a):Option (Int×Int)).getD (0,0))),.one (.bool (((some a):Option (Int×Int)).isSome))]) (aI cols rows M))(c2:bm prog 117 [.one (.ptr 0 0),.one (.int .i64 ((aN cols mb k).1)),.one (.int .i64 ((aN cols mb k).2-1))] (aI cols rows M) (.tup [.one (cQ (((some b):Option (Int×Int)).getD (0,0))),.one (.bool (((some b):Option (Int×Int)).isSome))]) (aI cols rows M))(c3:bm prog 117 [.one (.ptr 0 0),.one (.int .i64 ((aN cols mb k).1+1)),.one (.int .i64 ((aN cols mb k).2-1))] (aI cols rows M) (.tup [.one (cQ ((none:Option (Int×Int)).getD (0,0))),.one (.bool ((none:Option (Int×Int)).isSome))]) (aI cols rows M)):bm prog 91 [.one (.ptr 0 0),.one (.int .i64 mb),.one (.int .i64 k)] (aI cols rows M) (.one (cQ (oD (some a) (some b) none))) (aI cols rows M):=by
 have h1:=h.c0;have h2:=h.c1;have h3:=h.r0;have h4:=h.r1;have hb:=fZ h hm hk;have hmm:=h.mul;have hp:0<=(aN cols mb k).2/\(aN cols mb k).2<=17:=by unfold aN;simp only[];omega
 have hq:0<=(aN cols mb k).1/\(aN cols mb k).1<=17:=by unfold aN;simp only[];omega
 refine cO Tryz.func91 ?_
 repeat' (first
  |(refine qz ?_;first
   |refine cl ?_ (hi:=by exact gf (M:=M) h hm hk rfl rfl (by decide) rfl))
  |refine zz ?_|refine zx (fun _=>?_) (fun _=>?_)|fail)
 refine WX.bU rfl ?_
 repeat' (first
  |(refine qz ?_;first
   |refine MA ?_
   |refine cl ?_ (hi:=by exact ju (fun _ => .flat (.flat .nil)) (.flat (.flat .nil)) c1 rfl rfl (by decide) rfl)
   |refine cl ?_ (hi:=by exact ju (fun _ => .flat (.flat .nil)) (.flat (.flat .nil)) c2 rfl rfl (by decide) rfl)
   |refine cl ?_ (hi:=by exact ju (fun _ => .flat (.flat .nil)) (.flat (.flat .nil)) c3 rfl rfl (by decide) rfl)
   |refine uh (enc:=gA) ?_
   |refine xe (enc:=gA) (i:=2) (n:=0) (q:=[]) ?_
   |refine xe (enc:=gA) ?_
   |refine Oe (enc:=gA) (f:=cQ) (fun _=>rfl) ?_
   |refine cl ?_ (hi:=by exact hJ (yt1 _ rfl) (yt2 _ rfl) (yt3 _ rfl) rfl))
  |refine WX.loop ?_|refine WX.round ?_|refine zz ?_|refine zx (fun _=>?_) (fun _=>?_)|fail)
 show aE _ _ _ _ _ _ _ _;refine kV [0,1] ?_;exact congrArg XV.one rfl
theorem K9(a b c:Int×Int)(yt1:∀v,(some a)=some v->bM v)(yt2:∀v,(some b)=some v->bM v)(yt3:∀v,(some c)=some v->bM v)(c1:bm prog 117 [.one (.ptr 0 0),.one (.int .i64 ((aN cols mb k).1-1)),.one (.int .i64 ((aN cols mb k).2))] (aI cols rows M) (.tup [.one (cQ (((some a):Option (Int×Int)).getD (0,0))),.one (.bool (((some a):Option (Int×Int)).isSome))]) (aI cols rows M))(c2:bm prog 117 [.one (.ptr 0 0),.one (.int .i64 ((aN cols mb k).1)),.one (.int .i64 ((aN cols mb k).2-1))] (aI cols rows M) (.tup [.one (cQ (((some b):Option (Int×Int)).getD (0,0))),.one (.bool (((some b):Option (Int×Int)).isSome))]) (aI cols rows M))(c3:bm prog 117 [.one (.ptr 0 0),.one (.int .i64 ((aN cols mb k).1+1)),.one (.int .i64 ((aN cols mb k).2-1))] (aI cols rows M) (.tup [.one (cQ (((some c):Option (Int×Int)).getD (0,0))),.one (.bool (((some c):Option (Int×Int)).isSome))]) (aI cols rows M)):bm prog 91 [.one (.ptr 0 0),.one (.int .i64 mb),.one (.int .i64 k)] (aI cols rows M) (.one (cQ (oD (some a) (some b) (some c)))) (aI cols rows M):=by
 have h1:=h.c0;have h2:=h.c1;have h3:=h.r0;have h4:=h.r1;have hb:=fZ h hm hk;have hmm:=h.mul;have hp:0<=(aN cols mb k).2/\(aN cols mb k).2<=17:=by unfold aN;simp only[];omega
 have hq:0<=(aN cols mb k).1/\(aN cols mb k).1<=17:=by unfold aN;simp only[];omega
 refine cO Tryz.func91 ?_
 repeat' (first
  |(refine qz ?_;first
   |refine cl ?_ (hi:=by exact gf (M:=M) h hm hk rfl rfl (by decide) rfl))
  |refine zz ?_|refine zx (fun _=>?_) (fun _=>?_)|fail)
 refine WX.bU rfl ?_
 repeat' (first
  |(refine qz ?_;first
   |refine MA ?_
   |refine cl ?_ (hi:=by exact ju (fun _ => .flat (.flat .nil)) (.flat (.flat .nil)) c1 rfl rfl (by decide) rfl)
   |refine cl ?_ (hi:=by exact ju (fun _ => .flat (.flat .nil)) (.flat (.flat .nil)) c2 rfl rfl (by decide) rfl)
   |refine cl ?_ (hi:=by exact ju (fun _ => .flat (.flat .nil)) (.flat (.flat .nil)) c3 rfl rfl (by decide) rfl)
   |refine uh (enc:=gA) ?_
   |refine xe (enc:=gA) (i:=2) (n:=0) (q:=[]) ?_
   |refine xe (enc:=gA) ?_
   |refine Oe (enc:=gA) (f:=cQ) (fun _=>rfl) ?_
   |refine cl ?_ (hi:=by exact hJ (yt1 _ rfl) (yt2 _ rfl) (yt3 _ rfl) rfl))
  |refine WX.loop ?_|refine WX.round ?_|refine zz ?_|refine zx (fun _=>?_) (fun _=>?_)|fail)
 show aE _ _ _ _ _ _ _ _;refine kV [0,1] ?_;exact congrArg XV.one rfl
end
theorem K_{cols rows mb k:Int}{M:jA}(hM:fG M)(h:mB cols rows)(hm:0<=mb/\mb<cols*rows)(hk:0<=k/\k<4):bm prog 91 [.one (.ptr 0 0),.one (.int .i64 mb),.one (.int .i64 k)] (aI cols rows M) (.one (cQ (gB M cols rows mb k))) (aI cols rows M):=by
 have h1:=h.c0;have h2:=h.c1;have h3:=h.r0;have h4:=h.r1;have hb:=fZ h hm hk;have hmm:=h.mul;have hp:0<=(aN cols mb k).2/\(aN cols mb k).2<=17:=by unfold aN;simp only[];omega
 have hq:0<=(aN cols mb k).1/\(aN cols mb k).1<=17:=by unfold aN;simp only[];omega
 have c1:=zo (M:=M) h (x:=(aN cols mb k).1-1) (y:=(aN cols mb k).2) (by omega) (by omega);have c2:=zo (M:=M) h (x:=(aN cols mb k).1) (y:=(aN cols mb k).2-1) (by omega) (by omega);have c3:=zo (M:=M) h (x:=(aN cols mb k).1+1) (y:=(aN cols mb k).2-1) (by omega) (by omega);have yt1:∀v,lx M cols rows ((aN cols mb k).1-1) (aN cols mb k).2=some v->bM v:=fun v hv=>i3 hM hv
 have yt2:∀v,lx M cols rows (aN cols mb k).1 ((aN cols mb k).2-1)=some v->bM v:=fun v hv=>i3 hM hv
 have yt3:∀v,lx M cols rows ((aN cols mb k).1+1) ((aN cols mb k).2-1)=some v->bM v:=fun v hv=>i3 hM hv
 unfold gB;generalize lx M cols rows ((aN cols mb k).1-1) (aN cols mb k).2=la at c1 yt1 ⊢;generalize lx M cols rows (aN cols mb k).1 ((aN cols mb k).2-1)=lb at c2 yt2 ⊢;generalize lx M cols rows ((aN cols mb k).1+1) ((aN cols mb k).2-1)=lc at c3 yt3 ⊢
 rcases la with _|a<;>rcases lb with _|b<;>rcases lc with _|c
 ·exact K2 h hm hk yt1 yt2 yt3 c1 c2 c3
 ·exact K3 h hm hk c yt1 yt2 yt3 c1 c2 c3
 ·exact K4 h hm hk b yt1 yt2 yt3 c1 c2 c3
 ·exact K5 h hm hk b c yt1 yt2 yt3 c1 c2 c3
 ·exact K6 h hm hk a yt1 yt2 yt3 c1 c2 c3
 ·exact K7 h hm hk a c yt1 yt2 yt3 c1 c2 c3
 ·exact K8 h hm hk a b yt1 yt2 yt3 c1 c2 c3
 ·exact K9 h hm hk a b c yt1 yt2 yt3 c1 c2 c3
theorem Dm{la lb lc:Option (Int×Int)}(h1:∀v,la=some v->bM v)(h2:∀v,lb=some v->bM v)(h3:∀v,lc=some v->bM v):bM (oD la lb lc):=by
 rcases la with _|a<;>rcases lb with _|b<;>rcases lc with _|c<;>unfold oD<;>simp only[]
 ·exact⟨⟨by decide,by decide⟩,⟨by decide,by decide⟩⟩
 ·exact h3 _ rfl
 ·exact h2 _ rfl
 ·exact h2 _ rfl
 ·exact h1 _ rfl
 ·exact h1 _ rfl
 ·exact h1 _ rfl
 ·exact⟨xD (h1 _ rfl).1 (h2 _ rfl).1 (h3 _ rfl).1,xD (h1 _ rfl).2 (h2 _ rfl).2 (h3 _ rfl).2⟩
theorem mh{cols rows mb k:Int}{M:jA}(hM:fG M):bM (gB M cols rows mb k):=Dm (fun v hv=>i3 hM hv) (fun v hv=>i3 hM hv) (fun v hv=>i3 hM hv)
instance SC (p:Int×Int):b_ (.one (cQ p)):=jj rfl
theorem rD{cols rows mb k:Int}{M:jA}(hM:fG M)(h:mB cols rows)(hm:0<=mb/\mb<cols*rows)(hk:0<=k/\k<4){HS:ah}{i j:Nat}(hi:HS[i]? = some (fD j cols rows))(hj:HS[j]? = some (.map (cB M)))(hd:i≠j)(hbd:Nat.blt HS.length Mem.bound=true) :
 aA.Sound prog ⟨91,[.one (.ptr i 0),.one (.int .i64 mb),.one (.int .i64 k)],HS,.one (cQ (gB M cols rows mb k)),HS,[]⟩:=
 ju (fun _ => .flat (.flat .nil)) (.flat (.flat .nil)) (K_ hM h hm hk) hi hj hd hbd
end Go.Proofs.YthdciapjllppjaaGreat
