/-
  A part of the proof: FieldV, PartOpen, OpenLaw, RvlcLaw.
-/
import Derived.Test.YtagpkhindehcbaaGreatKfF
import Derived.Test.YtagpkhindehcbaaGreatKfL
set_option maxRecDepth 10000
set_option maxHeartbeats 8000000
set_option linter.unusedVariables false
set_option linter.unusedSectionVars false
set_option linter.unusedSimpArgs false
namespace Go.Xm
variable [ax]
variable {P:Program} {ops:Array Oper} {nt nI:Nat} {al:bl} {hs:aj} {o:Oper} {l:List Oper} {L:List aG} {K:List Ab->bl->aj->Prop} {d:Nat}
theorem xc{t:TypeId}{x ix:Operand}{len:Nat}{elem:TypeId}{cs:List XC}{k:IntKind}{z:Int}{c:XC}(hk:SK P ops nt L l ((d,.one c)::al) hs fun bs=>K (quiet::bs))(ho:o.op = .index t x ix:=by exact rfl)(hw:av ops (rg al) o=some true:=by exact rfl)(hd:o.dst=some d:=by exact rfl)(hlt:Nat.blt d nt=true:=by exact rfl)
 (ha:ai (rg al) x = .agg cs:=by exact rfl) (hb:ai (rg al) ix = .one (.int k z):=by exact rfl) (hu:aW P t (.array len elem):=by infer_instance) (hs':aP P elem 1:=by infer_instance) (hg:ef P elem:=by infer_instance) (hz:0<=z/\z<(len:Nat):=by omega) (hc:cs[z.toNat]? = some c:=by exact rfl):SK P ops nt L (o::l) al hs K:=
 l5 hw hd hlt (by rw[ho];simp only[bj,rb,ha,hb,hu.out,hs'.out,if_pos hz,nc,hg.out,Nat.mul_one,hc,Option.map_some,X1.s6]) hk
theorem L8{t:TypeId}{x ix:Operand}{len s:Nat}{elem:TypeId}{cs cs':List XC}{k:IntKind}{z:Int}(hk:SK P ops nt L l ((d,.agg cs')::al) hs fun bs=>K (quiet::bs))(ho:o.op = .index t x ix:=by exact rfl)(hw:av ops (rg al) o=some true:=by exact rfl)(hd:o.dst=some d:=by exact rfl)(hlt:Nat.blt d nt=true:=by exact rfl)
 (ha:ai (rg al) x = .agg cs:=by exact rfl) (hb:ai (rg al) ix = .one (.int k z):=by exact rfl) (hu:aW P t (.array len elem):=by infer_instance) (hs':aP P elem s:=by infer_instance) (hg:eV P elem:=by infer_instance) (hz:0<=z/\z<(len:Nat):=by omega) (hc:(cs.drop (z.toNat*s)).take s=cs':=by exact rfl):SK P ops nt L (o::l) al hs K:=
 l5 hw hd hlt (by rw[ho];simp only[bj,rb,ha,hb,hu.out,hs'.out,if_pos hz,nc,hg.out,hc,Option.map_some,X1.s6]) hk
theorem Km{k:IntKind}{n:Nat}{q:Nat->Int}{a s:Nat}(h:a+s<=n):((ti k n q).drop a).take s=ti k s (fun i=>q (a+i)):=by
 apply List.ext_getElem?
 intro i
 rw[List.getElem?_take,List.getElem?_drop]
 by_cases hi:i<s
 ·rw[if_pos hi,iV (by omega),iV hi]
 ·rw[if_neg hi,List.getElem?_eq_none (by rw[aE];omega)]
theorem OB{t:TypeId}{x ix:Operand}{len n:Nat}{elem:TypeId}{q:Nat->Int}{k k':IntKind}{z:Int}(hk:SK P ops nt L l ((d,.one (.int k' (q z.toNat)))::al) hs fun bs=>K (quiet::bs))(ho:o.op = .index t x ix:=by exact rfl)(hw:av ops (rg al) o=some true:=by exact rfl)(hd:o.dst=some d:=by exact rfl)(hlt:Nat.blt d nt=true:=by exact rfl)
 (ha:ai (rg al) x = .agg (ti k' n q):=by exact rfl) (hb:ai (rg al) ix = .one (.int k z):=by exact rfl) (hu:aW P t (.array len elem):=by infer_instance) (hs':aP P elem 1:=by infer_instance) (hg:ef P elem:=by infer_instance) (hz:0<=z/\z<(len:Nat):=by omega) (hln:len=n:=by exact rfl):SK P ops nt L (o::l) al hs K:=
 xc hk ho hw hd hlt ha hb hu hs' hg hz (iV (by omega))
theorem A3{t:TypeId}{x ix:Operand}{len n s:Nat}{elem:TypeId}{q:Nat->Int}{k k':IntKind}{z:Int}(hk:SK P ops nt L l ((d,.agg (ti k' s fun i=>q (z.toNat*s+i)))::al) hs fun bs=>K (quiet::bs))(ho:o.op = .index t x ix:=by exact rfl)(hw:av ops (rg al) o=some true:=by exact rfl)(hd:o.dst=some d:=by exact rfl)(hlt:Nat.blt d nt=true:=by exact rfl)
 (ha:ai (rg al) x = .agg (ti k' n q):=by exact rfl) (hb:ai (rg al) ix = .one (.int k z):=by exact rfl) (hu:aW P t (.array len elem):=by infer_instance) (hs':aP P elem s:=by infer_instance) (hg:eV P elem:=by infer_instance) (hz:0<=z/\z<(len:Nat):=by omega) (hln:len*s=n:=by exact rfl):SK P ops nt L (o::l) al hs K:=
 L8 hk ho hw hd hlt ha hb hu hs' hg hz (Km (by
  have h1:z.toNat+1<=len:=by omega
  have h2:=Nat.mul_le_mul_right s h1
  rw[Nat.add_mul,Nat.one_mul]at h2
  omega))
theorem Em{α : Type}{enc : α->List XC}{f : α->XC}(henc:∀a,enc a = [f a])(q:List α):fl enc q=q.map f:=by
 unfold fl
 induction q with
 | nil=>rfl
 | cons a q ih=>rw[List.flatMap_cons,ih,henc];rfl
theorem NI{α : Type}[Inhabited α]{enc : α->List XC}{f : α->XC}(henc:∀a,enc a = [f a]){t:TypeId}{a:Operand}{i off:Nat}{e:TypeId}{q:List α}(hk:SK P ops nt L l ((d,.one (f (q.getD off default)))::al) hs fun bs=>K (⟨false,some i,[]⟩::bs))(ho:o.op = .load t a:=by exact rfl)(ht:ef P t:=by infer_instance)(hw:av ops (rg al) o=some true:=by exact rfl)(hd:o.dst=some d:=by exact rfl)(hlt:Nat.blt d nt=true:=by exact rfl)
 (ha:ai (rg al) a = .one (.ptr i off):=by exact rfl) (hi:hs[i]? = some (cE e (fl enc q)):=by exact rfl) (hc:off<q.length:=by first|omega|(simp only[List.length_cons,List.length_nil,List.length_append];first|omega|decide)):SK P ops nt L (o::l) al hs K:=by
 have h1:cE e (fl enc q) = .cells (fl enc q) e true false:=fb (fun hn=>by
  have:(fl enc q).length=0:=by rw[hn];rfl
  rw[Em henc,List.length_map]at this
  omega)
 have h2:(fl enc q)[off]? = some (f (q.getD off default)):=by
  rw[Em henc,List.getElem?_map,List.getD_eq_getElem?_getD,List.getElem?_eq_getElem hc];rfl
 exact gk ho hw hd hlt ha (hi.trans (congrArg some h1)) h2 hk
end Go.Xm
namespace Go.Proofs.YtagpkhindehcbaaGreat
open Go.Xm
variable [ax]
abbrev gm:=List (Int×(Int×Int))
def Nk(p:Int×Int):X1 := .one (cD p)
abbrev ba(M:gm):List (X1×X1):=lQ Oy Nk M
instance Pw (M:gm):c8 (.map (ba M)):=Bg (fun _=>rfl) (fun _=>rfl) M
abbrev cn(m:Nat)(cols rows:Int):ak := .cells [.int .i64 cols,.int .i64 rows,.map m] 167 false false
abbrev aM(cols rows:Int)(M:gm):aj:=[cn 1 cols rows,.map (ba M)]
theorem Nv:pE Tryz.prog 47=some (.one (.cplx .f64 0 0)):=by kernel_rfl
theorem PM:pE Tryz.prog 47=some (Nk (0,0)):=by
 rw[Nv]
 unfold Nk
 rw[dX]
instance Ro (a b:Int):bE (.tup [.one (.int .i64 a),.one (.int .i64 b)]):=fw rfl
structure gR(cols rows:Int):Prop where
 c0:1<=cols
 c1:cols<=8
 r0:1<=rows
 r1:rows<=8
theorem gR.mul{cols rows:Int}(h:gR cols rows):0<=cols*rows/\cols*rows<=64:=yX ⟨h.c0,h.c1⟩ ⟨by have:=h.r0;omega,h.r1⟩
theorem KJ(cols rows:Int)(h:gR cols rows):bh Tryz.prog 47 [.one (.int .i64 cols),.one (.int .i64 rows)] [] (.one (.ptr 0 0)) (aM cols rows []):=by
 have h1:=h.c0
 have h2:=h.c1
 have h3:=h.r0
 have h4:=h.r1
 refine cO Tryz.func47 ?_
 repeat' (first|refine zz ?_|refine zx (fun _=>?_) (fun _=>?_)|fail)
 show aC _ _ _ _ _ _ _ _;refine kV [1,0] ?_
 rfl
def aQ(cols mb k:Int):Int×Int:=(2*(mb%cols)+k%2,2*(mb/cols)+k/2)
theorem gM{cols rows mb k:Int}(h:gR cols rows)(hm:0<=mb/\mb<cols*rows)(hk:0<=k/\k<4):0<=mb%cols/\mb%cols<cols/\0<=mb/cols/\mb/cols<rows:=by
 refine⟨Int.emod_nonneg _ (by have:=h.c0;omega),Int.emod_lt_of_pos _ (by have:=h.c0;omega),Int.ediv_nonneg hm.1 (by have:=h.c0;omega),?_⟩
 exact Int.ediv_lt_of_lt_mul (by have:=h.c0;omega) (by rw[Int.mul_comm];exact hm.2)
theorem DF{cols rows mb k:Int}{M:gm}(h:gR cols rows)(hm:0<=mb/\mb<cols*rows)(hk:0<=k/\k<4):bh Tryz.prog 85 [.one (.ptr 0 0),.one (.int .i64 mb),.one (.int .i64 k)] (aM cols rows M) (.tup [.one (.int .i64 (aQ cols mb k).1),.one (.int .i64 (aQ cols mb k).2)]) (aM cols rows M):=by
 have h1:=h.c0
 have h2:=h.c1
 have h3:=h.r0
 have h4:=h.r1
 have hb:=gM h hm hk
 have hmm:=h.mul
 refine cO Tryz.func85 ?_
 repeat' (first|refine zz ?_|refine zx (fun _=>?_) (fun _=>?_)|fail)
 show aC _ _ _ _ _ _ _ _;refine kV [0,1] ?_
 rfl
theorem kn{f:FuncId}{more:List XV}(hm:∀τ,dR τ more more)(hmo:fq 2 more){v:XV}[bE v]{cols rows:Int}{M:gm}(hc:bh Tryz.prog f (.one (.ptr 0 0)::more) (aM cols rows M) v (aM cols rows M)){HS:aj}{i k:Nat}(hi:HS[i]? = some (cn k cols rows))(hk:HS[k]? = some (.map (ba M)))(hd:i≠k)(hbd:Nat.blt HS.length Mem.bound=true) :
 aG.Sound Tryz.prog ⟨f,.one (.ptr i 0)::more,HS,v,HS,[]⟩:=by
 refine zb [i,k] hc (by simp[hd]) ?_ ?_ (.cons (by simp[XV.b7,XC.ok]) hmo) (.cons rfl (hm _)) (bE.ok _) (bE.ay _) hbd rfl
 ·exact .cons hi (.flat hk .nil)
 ·exact .cons (by simp[ak.b7,XC.ok]) (.flat .nil)
theorem gY{cols rows mb k:Int}{M:gm}(h:gR cols rows)(hm:0<=mb/\mb<cols*rows)(hk:0<=k/\k<4){HS:aj}{i j:Nat}(hi:HS[i]? = some (cn j cols rows))(hj:HS[j]? = some (.map (ba M)))(hd:i≠j)(hbd:Nat.blt HS.length Mem.bound=true) :
 aG.Sound Tryz.prog ⟨85,[.one (.ptr i 0),.one (.int .i64 mb),.one (.int .i64 k)],HS,.tup [.one (.int .i64 (aQ cols mb k).1),.one (.int .i64 (aQ cols mb k).2)],HS,[]⟩:=
 kn (fun _ => .flat (.flat .nil)) (.flat (.flat .nil)) (DF h hm hk) hi hj hd hbd
def lG(M:gm)(cols rows x y:Int):Option (Int×Int):=if x<0\/y<0\/2*cols<=x\/2*rows<=y then none else cH M (y*2*cols+x)
instance Rn (p:Int×Int) (b:Bool):bE (.tup [.one (cD p),.one (.bool b)]):=fw rfl
theorem zL{cols rows x y:Int}{M:gm}(h:gR cols rows)(hx : -1<=x/\x<=100)(hy : -1<=y/\y<=100):bh Tryz.prog 86 [.one (.ptr 0 0),.one (.int .i64 x),.one (.int .i64 y)] (aM cols rows M) (.tup [.one (cD ((lG M cols rows x y).getD (0,0))),.one (.bool (lG M cols rows x y).isSome)]) (aM cols rows M):=by
 have h1:=h.c0
 have h2:=h.c1
 have h3:=h.r0
 have h4:=h.r1
 unfold lG
 by_cases hin:x<0\/y<0\/2*cols<=x\/2*rows<=y
 ·rw [if_pos hin]
  have e:cD ((none:Option (Int×Int)).getD (0,0)) = .cplx .f64 0 0:=dX
  rw[e]
  refine cO Tryz.func86 ?_
  repeat' (first|refine zz ?_|refine zx (fun _=>?_) (fun _=>?_)|fail)
  all_goals
   first
    | (exfalso;omega)
    | (show aC _ _ _ _ _ _ _ _;refine kV [0,1] ?_;rfl)
 ·rw[if_neg hin]
  have hp:0<=y*2*cols/\y*2*cols<=1600:=⟨Int.mul_nonneg (by omega) (by omega),by
   have:=Int.mul_le_mul (show y*2<=200 by omega) h2 (by omega) (by decide)
   omega⟩
  refine cO Tryz.func86 ?_
  repeat' (first
   |(refine qz ?_;first
    |refine ER rfl rfl rfl rfl t6 PM rfl rfl rfl ?_)
   |refine zz ?_|refine zx (fun _=>?_) (fun _=>?_)|fail)
  show aC _ _ _ _ _ _ _ _;refine kV [0,1] ?_
  rfl
def aV(M:gm)(cols mb k:Int)(v:Int×Int):gm:=oH M ((aQ cols mb k).2*2*cols+(aQ cols mb k).1) v
theorem KL{cols rows mb k:Int}{M:gm}(h:gR cols rows)(hm:0<=mb/\mb<cols*rows)(hk:0<=k/\k<4)(v:Int×Int):bh Tryz.prog 56 [.one (.ptr 0 0),.one (.int .i64 mb),.one (.int .i64 k),.one (cD v)] (aM cols rows M) (.tup []) (aM cols rows (aV M cols mb k v)):=by
 have h1:=h.c0
 have h2:=h.c1
 have h3:=h.r0
 have h4:=h.r1
 have hb:=gM h hm hk
 have hmm:=h.mul
 have hp:0<=(aQ cols mb k).2/\(aQ cols mb k).2<=17:=by unfold aQ;simp only[];omega
 have hq:0<=(aQ cols mb k).1/\(aQ cols mb k).1<=17:=by unfold aQ;simp only[];omega
 have hpp:0<=(aQ cols mb k).2*2*cols/\(aQ cols mb k).2*2*cols<=1600:=⟨Int.mul_nonneg (by omega) (by omega),by
  have:=Int.mul_le_mul (show(aQ cols mb k).2*2<=200 by omega) h2 (by omega) (by decide)
  omega⟩
 refine cO Tryz.func56 ?_
 repeat' (first
  |(refine qz ?_;first
   |refine cl ?_ (hi:=by exact gY (M:=M) h hm hk rfl rfl (by decide) rfl)
   |refine BI (vc:=Nk) rfl rfl rfl t6 rfl rfl rfl rfl (by first|(simp only[List.set_cons_succ,List.set_cons_zero];exact rfl)|exact rfl) ?_)
  |refine zz ?_|refine zx (fun _=>?_) (fun _=>?_)|fail)
 show aC _ _ _ _ _ _ _ _;refine kV [0,1] ?_
 rfl
theorem dF{cols rows mb k:Int}{M:gm}(h:gR cols rows)(hm:0<=mb/\mb<cols*rows)(hk:0<=k/\k<4){v:Int×Int}{HS:aj}{i j:Nat}(hi:HS[i]? = some (cn j cols rows))(hj:HS[j]? = some (.map (ba M)))(hd:i≠j){HS':aj}(hh:HS.set j (.map (ba (aV M cols mb k v)))=HS')(hbd:Nat.blt HS'.length Mem.bound=true) :
 aG.Sound Tryz.prog ⟨56,[.one (.ptr i 0),.one (.int .i64 mb),.one (.int .i64 k),.one (cD v)],HS,.tup [],HS',[j]⟩:=by
 have hh':bK HS [i,j] [cn j cols rows,.map (ba (aV M cols mb k v))]=HS':=by
  subst hh
  simp only[bK,List.append_nil]
  rw[aF hi]
 refine bO [i,j] [j] 0 (KL (M:=M) h hm hk v) (by simp[hd]) ?_ ?_ ?_ rfl (.cons (by simp[XV.b7,XC.ok]) (.flat (.flat (.cons trivial .nil)))) (.cons rfl (.flat (.flat (.cons rfl .nil)))) (bE.ok _) (bE.ay _) ?_ rfl rfl hh' hbd (.inr fun q hq hj=>?_)
 ·exact .cons hi (.flat hj .nil)
 ·exact .cons (by simp[ak.b7,XC.ok]) (.flat .nil)
 ·exact .cons (by simp[ak.b7,XC.ok]) (.flat .nil)
 ·exact .cons rfl (.flat .nil)
 ·subst hh
  rw[List.getElem?_set,if_neg (fun h=>hj (by rw[h];exact List.mem_singleton.2 rfl))]
def cj(M:gm):Prop:=∀key v,cH M key=some v->bI v
theorem s5:cj []:=fun key v h=>by cases h
theorem G0{M:gm}(h:cj M){key:Int}{v:Int×Int}(hv:bI v):cj (oH M key v):=fun key' v' h'=>by
 rw[f9]at h'
 split at h'
 ·cases h';exact hv
 ·exact h key' v' h'
def pr(la lb lc:Option (Int×Int)):Int×Int:=match la,lb,lc with
 | some a,some b,some c=>OJ a b c
 | some a,_,_=>a
 | none,some b,_=>b
 | none,none,some c=>c
 | none,none,none=>(0,0)
def b9(M:gm)(cols rows mb k:Int):Int×Int:=
 pr (lG M cols rows ((aQ cols mb k).1-1) (aQ cols mb k).2) (lG M cols rows (aQ cols mb k).1 ((aQ cols mb k).2-1)) (lG M cols rows ((aQ cols mb k).1+1) ((aQ cols mb k).2-1))
def ik(p:Int×Int):List XC:=[cD p]
instance:sw ik 1:=⟨fun _=>rfl,fun _=>rfl,by decide⟩
theorem jL{M:gm}(h:cj M){cols rows x y:Int}{v:Int×Int}(hv:lG M cols rows x y=some v):bI v:=by
 unfold lG at hv
 split at hv
 ·cases hv
 ·exact h _ _ hv
section
variable {cols rows mb k:Int} {M:gm}(h:gR cols rows) (hm:0<=mb/\mb<cols*rows) (hk:0<=k/\k<4)
include h hm hk
theorem KA(yt1:∀v,none=some v->bI v)(yt2:∀v,none=some v->bI v)(yt3:∀v,none=some v->bI v)(c1:bh Tryz.prog 86 [.one (.ptr 0 0),.one (.int .i64 ((aQ cols mb k).1-1)),.one (.int .i64 ((aQ cols mb k).2))] (aM cols rows M) (.tup [.one (cD ((none:Option (Int×Int)).getD (0,0))),.one (.bool ((none:Option (Int×Int)).isSome))]) (aM cols rows M))(c2:bh Tryz.prog 86 [.one (.ptr 0 0),.one (.int .i64 ((aQ cols mb k).1)),.one (.int .i64 ((aQ cols mb k).2-1))] (aM cols rows M) (.tup [.one (cD ((none:Option (Int×Int)).getD (0,0))),.one (.bool ((none:Option (Int×Int)).isSome))]) (aM cols rows M))(c3:bh Tryz.prog 86 [.one (.ptr 0 0),.one (.int .i64 ((aQ cols mb k).1+1)),.one (.int .i64 ((aQ cols mb k).2-1))] (aM cols rows M) (.tup [.one (cD ((none:Option (Int×Int)).getD (0,0))),.one (.bool ((none:Option (Int×Int)).isSome))]) (aM cols rows M)):bh Tryz.prog 55 [.one (.ptr 0 0),.one (.int .i64 mb),.one (.int .i64 k)] (aM cols rows M) (.one (cD (pr none none none))) (aM cols rows M):=by
 have h1:=h.c0
 have h2:=h.c1
 have h3:=h.r0
 have h4:=h.r1
 have hb:=gM h hm hk
 have hmm:=h.mul
 have hp:0<=(aQ cols mb k).2/\(aQ cols mb k).2<=17:=by unfold aQ;simp only[];omega
 have hq:0<=(aQ cols mb k).1/\(aQ cols mb k).1<=17:=by unfold aQ;simp only[];omega
 refine cO Tryz.func55 ?_
 repeat' (first
  |(refine qz ?_;first
   |refine cl ?_ (hi:=by exact gY (M:=M) h hm hk rfl rfl (by decide) rfl))
  |refine zz ?_|refine zx (fun _=>?_) (fun _=>?_)|fail)
 refine WX.cU rfl ?_
 repeat' (first
  |(refine qz ?_;first
   |refine L8 ?_
   |refine cl ?_ (hi:=by exact kn (fun _ => .flat (.flat .nil)) (.flat (.flat .nil)) c1 rfl rfl (by decide) rfl)
   |refine cl ?_ (hi:=by exact kn (fun _ => .flat (.flat .nil)) (.flat (.flat .nil)) c2 rfl rfl (by decide) rfl)
   |refine cl ?_ (hi:=by exact kn (fun _ => .flat (.flat .nil)) (.flat (.flat .nil)) c3 rfl rfl (by decide) rfl)
   |refine oR (enc:=ik) ?_
   |refine t5 (enc:=ik) (i:=2) (n:=0) (q:=[]) ?_
   |refine t5 (enc:=ik) ?_
   |refine NI (enc:=ik) (f:=cD) (fun _=>rfl) ?_
   |refine cl ?_ (hi:=by exact i6 (yt1 _ rfl) (yt2 _ rfl) (yt3 _ rfl) rfl))
  |refine WX.loop ?_|refine WX.round ?_|refine zz ?_|refine zx (fun _=>?_) (fun _=>?_)|fail)
 show aC _ _ _ _ _ _ _ _;refine kV [0,1] ?_
 exact congrArg XV.one dX.symm
theorem KB(c:Int×Int)(yt1:∀v,none=some v->bI v)(yt2:∀v,none=some v->bI v)(yt3:∀v,(some c)=some v->bI v)(c1:bh Tryz.prog 86 [.one (.ptr 0 0),.one (.int .i64 ((aQ cols mb k).1-1)),.one (.int .i64 ((aQ cols mb k).2))] (aM cols rows M) (.tup [.one (cD ((none:Option (Int×Int)).getD (0,0))),.one (.bool ((none:Option (Int×Int)).isSome))]) (aM cols rows M))(c2:bh Tryz.prog 86 [.one (.ptr 0 0),.one (.int .i64 ((aQ cols mb k).1)),.one (.int .i64 ((aQ cols mb k).2-1))] (aM cols rows M) (.tup [.one (cD ((none:Option (Int×Int)).getD (0,0))),.one (.bool ((none:Option (Int×Int)).isSome))]) (aM cols rows M))(c3:bh Tryz.prog 86 [.one (.ptr 0 0),.one (.int .i64 ((aQ cols mb k).1+1)),.one (.int .i64 ((aQ cols mb k).2-1))] (aM cols rows M) (.tup [.one (cD (((some c):Option (Int×Int)).getD (0,0))),.one (.bool (((some c):Option (Int×Int)).isSome))]) (aM cols rows M)):bh Tryz.prog 55 [.one (.ptr 0 0),.one (.int .i64 mb),.one (.int .i64 k)] (aM cols rows M) (.one (cD (pr none none (some c)))) (aM cols rows M):=by
 have h1:=h.c0
 have h2:=h.c1
 have h3:=h.r0
 have h4:=h.r1
 have hb:=gM h hm hk
 have hmm:=h.mul
 have hp:0<=(aQ cols mb k).2/\(aQ cols mb k).2<=17:=by unfold aQ;simp only[];omega
 have hq:0<=(aQ cols mb k).1/\(aQ cols mb k).1<=17:=by unfold aQ;simp only[];omega
 refine cO Tryz.func55 ?_
 repeat' (first
  |(refine qz ?_;first
   |refine cl ?_ (hi:=by exact gY (M:=M) h hm hk rfl rfl (by decide) rfl))
  |refine zz ?_|refine zx (fun _=>?_) (fun _=>?_)|fail)
 refine WX.cU rfl ?_
 repeat' (first
  |(refine qz ?_;first
   |refine L8 ?_
   |refine cl ?_ (hi:=by exact kn (fun _ => .flat (.flat .nil)) (.flat (.flat .nil)) c1 rfl rfl (by decide) rfl)
   |refine cl ?_ (hi:=by exact kn (fun _ => .flat (.flat .nil)) (.flat (.flat .nil)) c2 rfl rfl (by decide) rfl)
   |refine cl ?_ (hi:=by exact kn (fun _ => .flat (.flat .nil)) (.flat (.flat .nil)) c3 rfl rfl (by decide) rfl)
   |refine oR (enc:=ik) ?_
   |refine t5 (enc:=ik) (i:=2) (n:=0) (q:=[]) ?_
   |refine t5 (enc:=ik) ?_
   |refine NI (enc:=ik) (f:=cD) (fun _=>rfl) ?_
   |refine cl ?_ (hi:=by exact i6 (yt1 _ rfl) (yt2 _ rfl) (yt3 _ rfl) rfl))
  |refine WX.loop ?_|refine WX.round ?_|refine zz ?_|refine zx (fun _=>?_) (fun _=>?_)|fail)
 show aC _ _ _ _ _ _ _ _;refine kV [0,1] ?_
 exact congrArg XV.one rfl
theorem KC(b:Int×Int)(yt1:∀v,none=some v->bI v)(yt2:∀v,(some b)=some v->bI v)(yt3:∀v,none=some v->bI v)(c1:bh Tryz.prog 86 [.one (.ptr 0 0),.one (.int .i64 ((aQ cols mb k).1-1)),.one (.int .i64 ((aQ cols mb k).2))] (aM cols rows M) (.tup [.one (cD ((none:Option (Int×Int)).getD (0,0))),.one (.bool ((none:Option (Int×Int)).isSome))]) (aM cols rows M))(c2:bh Tryz.prog 86 [.one (.ptr 0 0),.one (.int .i64 ((aQ cols mb k).1)),.one (.int .i64 ((aQ cols mb k).2-1))] (aM cols rows M) (.tup [.one (cD (((some b):Option (Int×Int)).getD (0,0))),.one (.bool (((some b):Option (Int×Int)).isSome))]) (aM cols rows M))(c3:bh Tryz.prog 86 [.one (.ptr 0 0),.one (.int .i64 ((aQ cols mb k).1+1)),.one (.int .i64 ((aQ cols mb k).2-1))] (aM cols rows M) (.tup [.one (cD ((none:Option (Int×Int)).getD (0,0))),.one (.bool ((none:Option (Int×Int)).isSome))]) (aM cols rows M)):bh Tryz.prog 55 [.one (.ptr 0 0),.one (.int .i64 mb),.one (.int .i64 k)] (aM cols rows M) (.one (cD (pr none (some b) none))) (aM cols rows M):=by
 have h1:=h.c0
 have h2:=h.c1
 have h3:=h.r0
 have h4:=h.r1
 have hb:=gM h hm hk
 have hmm:=h.mul
 have hp:0<=(aQ cols mb k).2/\(aQ cols mb k).2<=17:=by unfold aQ;simp only[];omega
 have hq:0<=(aQ cols mb k).1/\(aQ cols mb k).1<=17:=by unfold aQ;simp only[];omega
 refine cO Tryz.func55 ?_
 repeat' (first
  |(refine qz ?_;first
   |refine cl ?_ (hi:=by exact gY (M:=M) h hm hk rfl rfl (by decide) rfl))
  |refine zz ?_|refine zx (fun _=>?_) (fun _=>?_)|fail)
 refine WX.cU rfl ?_
 repeat' (first
  |(refine qz ?_;first
   |refine L8 ?_
   |refine cl ?_ (hi:=by exact kn (fun _ => .flat (.flat .nil)) (.flat (.flat .nil)) c1 rfl rfl (by decide) rfl)
   |refine cl ?_ (hi:=by exact kn (fun _ => .flat (.flat .nil)) (.flat (.flat .nil)) c2 rfl rfl (by decide) rfl)
   |refine cl ?_ (hi:=by exact kn (fun _ => .flat (.flat .nil)) (.flat (.flat .nil)) c3 rfl rfl (by decide) rfl)
   |refine oR (enc:=ik) ?_
   |refine t5 (enc:=ik) (i:=2) (n:=0) (q:=[]) ?_
   |refine t5 (enc:=ik) ?_
   |refine NI (enc:=ik) (f:=cD) (fun _=>rfl) ?_
   |refine cl ?_ (hi:=by exact i6 (yt1 _ rfl) (yt2 _ rfl) (yt3 _ rfl) rfl))
  |refine WX.loop ?_|refine WX.round ?_|refine zz ?_|refine zx (fun _=>?_) (fun _=>?_)|fail)
 show aC _ _ _ _ _ _ _ _;refine kV [0,1] ?_
 exact congrArg XV.one rfl
theorem KD(b c:Int×Int)(yt1:∀v,none=some v->bI v)(yt2:∀v,(some b)=some v->bI v)(yt3:∀v,(some c)=some v->bI v)(c1:bh Tryz.prog 86 [.one (.ptr 0 0),.one (.int .i64 ((aQ cols mb k).1-1)),.one (.int .i64 ((aQ cols mb k).2))] (aM cols rows M) (.tup [.one (cD ((none:Option (Int×Int)).getD (0,0))),.one (.bool ((none:Option (Int×Int)).isSome))]) (aM cols rows M))(c2:bh Tryz.prog 86 [.one (.ptr 0 0),.one (.int .i64 ((aQ cols mb k).1)),.one (.int .i64 ((aQ cols mb k).2-1))] (aM cols rows M) (.tup [.one (cD (((some b):Option (Int×Int)).getD (0,0))),.one (.bool (((some b):Option (Int×Int)).isSome))]) (aM cols rows M))(c3:bh Tryz.prog 86 [.one (.ptr 0 0),.one (.int .i64 ((aQ cols mb k).1+1)),.one (.int .i64 ((aQ cols mb k).2-1))] (aM cols rows M) (.tup [.one (cD (((some c):Option (Int×Int)).getD (0,0))),.one (.bool (((some c):Option (Int×Int)).isSome))]) (aM cols rows M)):bh Tryz.prog 55 [.one (.ptr 0 0),.one (.int .i64 mb),.one (.int .i64 k)] (aM cols rows M) (.one (cD (pr none (some b) (some c)))) (aM cols rows M):=by
 have h1:=h.c0
 have h2:=h.c1
 have h3:=h.r0
 have h4:=h.r1
 have hb:=gM h hm hk
 have hmm:=h.mul
 have hp:0<=(aQ cols mb k).2/\(aQ cols mb k).2<=17:=by unfold aQ;simp only[];omega
 have hq:0<=(aQ cols mb k).1/\(aQ cols mb k).1<=17:=by unfold aQ;simp only[];omega
 refine cO Tryz.func55 ?_
 repeat' (first
  |(refine qz ?_;first
   |refine cl ?_ (hi:=by exact gY (M:=M) h hm hk rfl rfl (by decide) rfl))
  |refine zz ?_|refine zx (fun _=>?_) (fun _=>?_)|fail)
 refine WX.cU rfl ?_
 repeat' (first
  |(refine qz ?_;first
   |refine L8 ?_
   |refine cl ?_ (hi:=by exact kn (fun _ => .flat (.flat .nil)) (.flat (.flat .nil)) c1 rfl rfl (by decide) rfl)
   |refine cl ?_ (hi:=by exact kn (fun _ => .flat (.flat .nil)) (.flat (.flat .nil)) c2 rfl rfl (by decide) rfl)
   |refine cl ?_ (hi:=by exact kn (fun _ => .flat (.flat .nil)) (.flat (.flat .nil)) c3 rfl rfl (by decide) rfl)
   |refine oR (enc:=ik) ?_
   |refine t5 (enc:=ik) (i:=2) (n:=0) (q:=[]) ?_
   |refine t5 (enc:=ik) ?_
   |refine NI (enc:=ik) (f:=cD) (fun _=>rfl) ?_
   |refine cl ?_ (hi:=by exact i6 (yt1 _ rfl) (yt2 _ rfl) (yt3 _ rfl) rfl))
  |refine WX.loop ?_|refine WX.round ?_|refine zz ?_|refine zx (fun _=>?_) (fun _=>?_)|fail)
 show aC _ _ _ _ _ _ _ _;refine kV [0,1] ?_
 exact congrArg XV.one rfl
theorem KE(a:Int×Int)(yt1:∀v,(some a)=some v->bI v)(yt2:∀v,none=some v->bI v)(yt3:∀v,none=some v->bI v)(c1:bh Tryz.prog 86 [.one (.ptr 0 0),.one (.int .i64 ((aQ cols mb k).1-1)),.one (.int .i64 ((aQ cols mb k).2))] (aM cols rows M) (.tup [.one (cD (((some a):Option (Int×Int)).getD (0,0))),.one (.bool (((some a):Option (Int×Int)).isSome))]) (aM cols rows M))(c2:bh Tryz.prog 86 [.one (.ptr 0 0),.one (.int .i64 ((aQ cols mb k).1)),.one (.int .i64 ((aQ cols mb k).2-1))] (aM cols rows M) (.tup [.one (cD ((none:Option (Int×Int)).getD (0,0))),.one (.bool ((none:Option (Int×Int)).isSome))]) (aM cols rows M))(c3:bh Tryz.prog 86 [.one (.ptr 0 0),.one (.int .i64 ((aQ cols mb k).1+1)),.one (.int .i64 ((aQ cols mb k).2-1))] (aM cols rows M) (.tup [.one (cD ((none:Option (Int×Int)).getD (0,0))),.one (.bool ((none:Option (Int×Int)).isSome))]) (aM cols rows M)):bh Tryz.prog 55 [.one (.ptr 0 0),.one (.int .i64 mb),.one (.int .i64 k)] (aM cols rows M) (.one (cD (pr (some a) none none))) (aM cols rows M):=by
 have h1:=h.c0
 have h2:=h.c1
 have h3:=h.r0
 have h4:=h.r1
 have hb:=gM h hm hk
 have hmm:=h.mul
 have hp:0<=(aQ cols mb k).2/\(aQ cols mb k).2<=17:=by unfold aQ;simp only[];omega
 have hq:0<=(aQ cols mb k).1/\(aQ cols mb k).1<=17:=by unfold aQ;simp only[];omega
 refine cO Tryz.func55 ?_
 repeat' (first
  |(refine qz ?_;first
   |refine cl ?_ (hi:=by exact gY (M:=M) h hm hk rfl rfl (by decide) rfl))
  |refine zz ?_|refine zx (fun _=>?_) (fun _=>?_)|fail)
 refine WX.cU rfl ?_
 repeat' (first
  |(refine qz ?_;first
   |refine L8 ?_
   |refine cl ?_ (hi:=by exact kn (fun _ => .flat (.flat .nil)) (.flat (.flat .nil)) c1 rfl rfl (by decide) rfl)
   |refine cl ?_ (hi:=by exact kn (fun _ => .flat (.flat .nil)) (.flat (.flat .nil)) c2 rfl rfl (by decide) rfl)
   |refine cl ?_ (hi:=by exact kn (fun _ => .flat (.flat .nil)) (.flat (.flat .nil)) c3 rfl rfl (by decide) rfl)
   |refine oR (enc:=ik) ?_
   |refine t5 (enc:=ik) (i:=2) (n:=0) (q:=[]) ?_
   |refine t5 (enc:=ik) ?_
   |refine NI (enc:=ik) (f:=cD) (fun _=>rfl) ?_
   |refine cl ?_ (hi:=by exact i6 (yt1 _ rfl) (yt2 _ rfl) (yt3 _ rfl) rfl))
  |refine WX.loop ?_|refine WX.round ?_|refine zz ?_|refine zx (fun _=>?_) (fun _=>?_)|fail)
 show aC _ _ _ _ _ _ _ _;refine kV [0,1] ?_
 exact congrArg XV.one rfl
theorem KF(a c:Int×Int)(yt1:∀v,(some a)=some v->bI v)(yt2:∀v,none=some v->bI v)(yt3:∀v,(some c)=some v->bI v)(c1:bh Tryz.prog 86 [.one (.ptr 0 0),.one (.int .i64 ((aQ cols mb k).1-1)),.one (.int .i64 ((aQ cols mb k).2))] (aM cols rows M) (.tup [.one (cD (((some a):Option (Int×Int)).getD (0,0))),.one (.bool (((some a):Option (Int×Int)).isSome))]) (aM cols rows M))(c2:bh Tryz.prog 86 [.one (.ptr 0 0),.one (.int .i64 ((aQ cols mb k).1)),.one (.int .i64 ((aQ cols mb k).2-1))] (aM cols rows M) (.tup [.one (cD ((none:Option (Int×Int)).getD (0,0))),.one (.bool ((none:Option (Int×Int)).isSome))]) (aM cols rows M))(c3:bh Tryz.prog 86 [.one (.ptr 0 0),.one (.int .i64 ((aQ cols mb k).1+1)),.one (.int .i64 ((aQ cols mb k).2-1))] (aM cols rows M) (.tup [.one (cD (((some c):Option (Int×Int)).getD (0,0))),.one (.bool (((some c):Option (Int×Int)).isSome))]) (aM cols rows M)):bh Tryz.prog 55 [.one (.ptr 0 0),.one (.int .i64 mb),.one (.int .i64 k)] (aM cols rows M) (.one (cD (pr (some a) none (some c)))) (aM cols rows M):=by
 have h1:=h.c0
 have h2:=h.c1
 have h3:=h.r0
 have h4:=h.r1
 have hb:=gM h hm hk
 have hmm:=h.mul
 have hp:0<=(aQ cols mb k).2/\(aQ cols mb k).2<=17:=by unfold aQ;simp only[];omega
 have hq:0<=(aQ cols mb k).1/\(aQ cols mb k).1<=17:=by unfold aQ;simp only[];omega
 refine cO Tryz.func55 ?_
 repeat' (first
  |(refine qz ?_;first
   |refine cl ?_ (hi:=by exact gY (M:=M) h hm hk rfl rfl (by decide) rfl))
  |refine zz ?_|refine zx (fun _=>?_) (fun _=>?_)|fail)
 refine WX.cU rfl ?_
 repeat' (first
  |(refine qz ?_;first
   |refine L8 ?_
   |refine cl ?_ (hi:=by exact kn (fun _ => .flat (.flat .nil)) (.flat (.flat .nil)) c1 rfl rfl (by decide) rfl)
   |refine cl ?_ (hi:=by exact kn (fun _ => .flat (.flat .nil)) (.flat (.flat .nil)) c2 rfl rfl (by decide) rfl)
   |refine cl ?_ (hi:=by exact kn (fun _ => .flat (.flat .nil)) (.flat (.flat .nil)) c3 rfl rfl (by decide) rfl)
   |refine oR (enc:=ik) ?_
   |refine t5 (enc:=ik) (i:=2) (n:=0) (q:=[]) ?_
   |refine t5 (enc:=ik) ?_
   |refine NI (enc:=ik) (f:=cD) (fun _=>rfl) ?_
   |refine cl ?_ (hi:=by exact i6 (yt1 _ rfl) (yt2 _ rfl) (yt3 _ rfl) rfl))
  |refine WX.loop ?_|refine WX.round ?_|refine zz ?_|refine zx (fun _=>?_) (fun _=>?_)|fail)
 show aC _ _ _ _ _ _ _ _;refine kV [0,1] ?_
 exact congrArg XV.one rfl
theorem KG(a b:Int×Int)(yt1:∀v,(some a)=some v->bI v)(yt2:∀v,(some b)=some v->bI v)(yt3:∀v,none=some v->bI v)(c1:bh Tryz.prog 86 [.one (.ptr 0 0),.one (.int .i64 ((aQ cols mb k).1-1)),.one (.int .i64 ((aQ cols mb k).2))] (aM cols rows M) (.tup [.one (cD (((some a):Option (Int×Int)).getD (0,0))),.one (.bool (((some a):Option (Int×Int)).isSome))]) (aM cols rows M))(c2:bh Tryz.prog 86 [.one (.ptr 0 0),.one (.int .i64 ((aQ cols mb k).1)),.one (.int .i64 ((aQ cols mb k).2-1))] (aM cols rows M) (.tup [.one (cD (((some b):Option (Int×Int)).getD (0,0))),.one (.bool (((some b):Option (Int×Int)).isSome))]) (aM cols rows M))(c3:bh Tryz.prog 86 [.one (.ptr 0 0),.one (.int .i64 ((aQ cols mb k).1+1)),.one (.int .i64 ((aQ cols mb k).2-1))] (aM cols rows M) (.tup [.one (cD ((none:Option (Int×Int)).getD (0,0))),.one (.bool ((none:Option (Int×Int)).isSome))]) (aM cols rows M)):bh Tryz.prog 55 [.one (.ptr 0 0),.one (.int .i64 mb),.one (.int .i64 k)] (aM cols rows M) (.one (cD (pr (some a) (some b) none))) (aM cols rows M):=by
 have h1:=h.c0
 have h2:=h.c1
 have h3:=h.r0
 have h4:=h.r1
 have hb:=gM h hm hk
 have hmm:=h.mul
 have hp:0<=(aQ cols mb k).2/\(aQ cols mb k).2<=17:=by unfold aQ;simp only[];omega
 have hq:0<=(aQ cols mb k).1/\(aQ cols mb k).1<=17:=by unfold aQ;simp only[];omega
 refine cO Tryz.func55 ?_
 repeat' (first
  |(refine qz ?_;first
   |refine cl ?_ (hi:=by exact gY (M:=M) h hm hk rfl rfl (by decide) rfl))
  |refine zz ?_|refine zx (fun _=>?_) (fun _=>?_)|fail)
 refine WX.cU rfl ?_
 repeat' (first
  |(refine qz ?_;first
   |refine L8 ?_
   |refine cl ?_ (hi:=by exact kn (fun _ => .flat (.flat .nil)) (.flat (.flat .nil)) c1 rfl rfl (by decide) rfl)
   |refine cl ?_ (hi:=by exact kn (fun _ => .flat (.flat .nil)) (.flat (.flat .nil)) c2 rfl rfl (by decide) rfl)
   |refine cl ?_ (hi:=by exact kn (fun _ => .flat (.flat .nil)) (.flat (.flat .nil)) c3 rfl rfl (by decide) rfl)
   |refine oR (enc:=ik) ?_
   |refine t5 (enc:=ik) (i:=2) (n:=0) (q:=[]) ?_
   |refine t5 (enc:=ik) ?_
   |refine NI (enc:=ik) (f:=cD) (fun _=>rfl) ?_
   |refine cl ?_ (hi:=by exact i6 (yt1 _ rfl) (yt2 _ rfl) (yt3 _ rfl) rfl))
  |refine WX.loop ?_|refine WX.round ?_|refine zz ?_|refine zx (fun _=>?_) (fun _=>?_)|fail)
 show aC _ _ _ _ _ _ _ _;refine kV [0,1] ?_
 exact congrArg XV.one rfl
theorem KH(a b c:Int×Int)(yt1:∀v,(some a)=some v->bI v)(yt2:∀v,(some b)=some v->bI v)(yt3:∀v,(some c)=some v->bI v)(c1:bh Tryz.prog 86 [.one (.ptr 0 0),.one (.int .i64 ((aQ cols mb k).1-1)),.one (.int .i64 ((aQ cols mb k).2))] (aM cols rows M) (.tup [.one (cD (((some a):Option (Int×Int)).getD (0,0))),.one (.bool (((some a):Option (Int×Int)).isSome))]) (aM cols rows M))(c2:bh Tryz.prog 86 [.one (.ptr 0 0),.one (.int .i64 ((aQ cols mb k).1)),.one (.int .i64 ((aQ cols mb k).2-1))] (aM cols rows M) (.tup [.one (cD (((some b):Option (Int×Int)).getD (0,0))),.one (.bool (((some b):Option (Int×Int)).isSome))]) (aM cols rows M))(c3:bh Tryz.prog 86 [.one (.ptr 0 0),.one (.int .i64 ((aQ cols mb k).1+1)),.one (.int .i64 ((aQ cols mb k).2-1))] (aM cols rows M) (.tup [.one (cD (((some c):Option (Int×Int)).getD (0,0))),.one (.bool (((some c):Option (Int×Int)).isSome))]) (aM cols rows M)):bh Tryz.prog 55 [.one (.ptr 0 0),.one (.int .i64 mb),.one (.int .i64 k)] (aM cols rows M) (.one (cD (pr (some a) (some b) (some c)))) (aM cols rows M):=by
 have h1:=h.c0
 have h2:=h.c1
 have h3:=h.r0
 have h4:=h.r1
 have hb:=gM h hm hk
 have hmm:=h.mul
 have hp:0<=(aQ cols mb k).2/\(aQ cols mb k).2<=17:=by unfold aQ;simp only[];omega
 have hq:0<=(aQ cols mb k).1/\(aQ cols mb k).1<=17:=by unfold aQ;simp only[];omega
 refine cO Tryz.func55 ?_
 repeat' (first
  |(refine qz ?_;first
   |refine cl ?_ (hi:=by exact gY (M:=M) h hm hk rfl rfl (by decide) rfl))
  |refine zz ?_|refine zx (fun _=>?_) (fun _=>?_)|fail)
 refine WX.cU rfl ?_
 repeat' (first
  |(refine qz ?_;first
   |refine L8 ?_
   |refine cl ?_ (hi:=by exact kn (fun _ => .flat (.flat .nil)) (.flat (.flat .nil)) c1 rfl rfl (by decide) rfl)
   |refine cl ?_ (hi:=by exact kn (fun _ => .flat (.flat .nil)) (.flat (.flat .nil)) c2 rfl rfl (by decide) rfl)
   |refine cl ?_ (hi:=by exact kn (fun _ => .flat (.flat .nil)) (.flat (.flat .nil)) c3 rfl rfl (by decide) rfl)
   |refine oR (enc:=ik) ?_
   |refine t5 (enc:=ik) (i:=2) (n:=0) (q:=[]) ?_
   |refine t5 (enc:=ik) ?_
   |refine NI (enc:=ik) (f:=cD) (fun _=>rfl) ?_
   |refine cl ?_ (hi:=by exact i6 (yt1 _ rfl) (yt2 _ rfl) (yt3 _ rfl) rfl))
  |refine WX.loop ?_|refine WX.round ?_|refine zz ?_|refine zx (fun _=>?_) (fun _=>?_)|fail)
 show aC _ _ _ _ _ _ _ _;refine kV [0,1] ?_
 exact congrArg XV.one rfl
end
theorem KI{cols rows mb k:Int}{M:gm}(hM:cj M)(h:gR cols rows)(hm:0<=mb/\mb<cols*rows)(hk:0<=k/\k<4):bh Tryz.prog 55 [.one (.ptr 0 0),.one (.int .i64 mb),.one (.int .i64 k)] (aM cols rows M) (.one (cD (b9 M cols rows mb k))) (aM cols rows M):=by
 have h1:=h.c0
 have h2:=h.c1
 have h3:=h.r0
 have h4:=h.r1
 have hb:=gM h hm hk
 have hmm:=h.mul
 have hp:0<=(aQ cols mb k).2/\(aQ cols mb k).2<=17:=by unfold aQ;simp only[];omega
 have hq:0<=(aQ cols mb k).1/\(aQ cols mb k).1<=17:=by unfold aQ;simp only[];omega
 have c1:=zL (M:=M) h (x:=(aQ cols mb k).1-1) (y:=(aQ cols mb k).2) (by omega) (by omega)
 have c2:=zL (M:=M) h (x:=(aQ cols mb k).1) (y:=(aQ cols mb k).2-1) (by omega) (by omega)
 have c3:=zL (M:=M) h (x:=(aQ cols mb k).1+1) (y:=(aQ cols mb k).2-1) (by omega) (by omega)
 have yt1:∀v,lG M cols rows ((aQ cols mb k).1-1) (aQ cols mb k).2=some v->bI v:=fun v hv=>jL hM hv
 have yt2:∀v,lG M cols rows (aQ cols mb k).1 ((aQ cols mb k).2-1)=some v->bI v:=fun v hv=>jL hM hv
 have yt3:∀v,lG M cols rows ((aQ cols mb k).1+1) ((aQ cols mb k).2-1)=some v->bI v:=fun v hv=>jL hM hv
 unfold b9
 generalize lG M cols rows ((aQ cols mb k).1-1) (aQ cols mb k).2=la at c1 yt1 ⊢
 generalize lG M cols rows (aQ cols mb k).1 ((aQ cols mb k).2-1)=lb at c2 yt2 ⊢
 generalize lG M cols rows ((aQ cols mb k).1+1) ((aQ cols mb k).2-1)=lc at c3 yt3 ⊢
 rcases la with _|a<;>rcases lb with _|b<;>rcases lc with _|c
 ·exact KA h hm hk yt1 yt2 yt3 c1 c2 c3
 ·exact KB h hm hk c yt1 yt2 yt3 c1 c2 c3
 ·exact KC h hm hk b yt1 yt2 yt3 c1 c2 c3
 ·exact KD h hm hk b c yt1 yt2 yt3 c1 c2 c3
 ·exact KE h hm hk a yt1 yt2 yt3 c1 c2 c3
 ·exact KF h hm hk a c yt1 yt2 yt3 c1 c2 c3
 ·exact KG h hm hk a b yt1 yt2 yt3 c1 c2 c3
 ·exact KH h hm hk a b c yt1 yt2 yt3 c1 c2 c3
theorem DE{la lb lc:Option (Int×Int)}(h1:∀v,la=some v->bI v)(h2:∀v,lb=some v->bI v)(h3:∀v,lc=some v->bI v):bI (pr la lb lc):=by
 rcases la with _|a<;>rcases lb with _|b<;>rcases lc with _|c<;>unfold pr<;>simp only[]
 ·exact⟨⟨by decide,by decide⟩,⟨by decide,by decide⟩⟩
 ·exact h3 _ rfl
 ·exact h2 _ rfl
 ·exact h2 _ rfl
 ·exact h1 _ rfl
 ·exact h1 _ rfl
 ·exact h1 _ rfl
 ·exact⟨xR (h1 _ rfl).1 (h2 _ rfl).1 (h3 _ rfl).1,xR (h1 _ rfl).2 (h2 _ rfl).2 (h3 _ rfl).2⟩
theorem dk{cols rows mb k:Int}{M:gm}(hM:cj M):bI (b9 M cols rows mb k):=DE (fun v hv=>jL hM hv) (fun v hv=>jL hM hv) (fun v hv=>jL hM hv)
instance Q5 (p:Int×Int):bE (.one (cD p)):=fw rfl
theorem fP{cols rows mb k:Int}{M:gm}(hM:cj M)(h:gR cols rows)(hm:0<=mb/\mb<cols*rows)(hk:0<=k/\k<4){HS:aj}{i j:Nat}(hi:HS[i]? = some (cn j cols rows))(hj:HS[j]? = some (.map (ba M)))(hd:i≠j)(hbd:Nat.blt HS.length Mem.bound=true) :
 aG.Sound Tryz.prog ⟨55,[.one (.ptr i 0),.one (.int .i64 mb),.one (.int .i64 k)],HS,.one (cD (b9 M cols rows mb k)),HS,[]⟩:=
 kn (fun _ => .flat (.flat .nil)) (.flat (.flat .nil)) (KI hM h hm hk) hi hj hd hbd
end Go.Proofs.YtagpkhindehcbaaGreat
namespace Go.Proofs.YtagpkhindehcbaaGreat
open Go.Xm
variable [ax]
theorem OY(e e' e2:TypeId)(cs ds fs:List XC):d9 [cE e cs] [cE e' ds,cE e2 fs]=true:=by
 cases cs<;>cases ds<;>cases fs<;>simp[d9,ak.live,ak.own,cE]
theorem FF{l:List Int}(hl:bQ l)(hn:l.length<=100000){n:Nat}(hln:l.length=n){HS:aj}{i:Nat}(hi:HS[i]? = some (cE 5 (il .u8 l))){N:Nat}(hN:HS.length=N){HS':aj}(hh:HS++[cE 5 (il .u8 (gS l l.length).1)]=HS')(hb:Nat.blt HS'.length Mem.bound=true) :
 aG.Sound Tryz.prog ⟨30,[hZ i n 1],HS,hZ N (gS l l.length).1.length 1,HS',[i]⟩:=by
 subst hln hN
 exact bO [i] [i] 1 (CR hl hn) (by simp) (.flat hi .nil) (.flat .nil) (.flat (.flat .nil)) rfl (.cons (iT (Nat.le_of_ble_eq_true rfl)) .nil) (.cons (dT ..) .nil) (iT (Nat.le_of_ble_eq_true rfl)) (dT ..) (.flat (.flat .nil)) (OY ..) rfl (by simp only[bK];rw[aF hi];exact hh) hb (.inl rfl)
theorem mL{l:List Int}(hl:bQ l):∀(k:Nat) (out:List Int) (z:Int) (i:Nat) (q:List Int),bQ out->jc l k out z i=some q->bQ q
 | 0,out,z,i,q,ho,h=>by
   simp only[jc,Option.some.injEq]at h
   subst h;exact ho
 | k + 1,out,z,i,q,ho,h=>by
   unfold jc at h
   split at h
   ·cases h
   ·split at h
    ·split at h
     ·cases h
     ·exact mL hl k _ _ _ q ho h
    ·refine mL hl k _ _ _ q ?_ h
     intro p
     rw[List.getD_eq_getElem?_getD]
     by_cases hp:p<out.length
     ·rw[List.getElem?_append_left hp,<-List.getD_eq_getElem?_getD];exact ho p
     ·rw[List.getElem?_append_right (by omega)]
      cases hq:p-out.length with
      | zero=>simpa using hl i
      | succ m=>simp
theorem oW{l:List Int}:∀(k:Nat) (out:List Int) (z:Int) (i:Nat) (q:List Int),jc l k out z i=some q->q.length<=out.length+k
 | 0,out,z,i,q,h=>by
   simp only[jc,Option.some.injEq]at h
   subst h;omega
 | k + 1,out,z,i,q,h=>by
   unfold jc at h
   split at h
   ·cases h
   ·split at h
    ·split at h
     ·cases h
     ·have:=oW k _ _ _ q h;omega
    ·have:=oW k _ _ _ q h
     simp at this;omega
theorem BH{L:List Int}(hL:bQ L)(hn:L.length<=100000){z:Nat}{b:Bool}(hs:cJ L=(z,b)){n:Nat}(hln:L.length=n){HS:aj}{i:Nat}(hi:HS[i]? = some (cE 5 (il .u8 L)))(hb:Nat.blt HS.length Mem.bound=true) :
 aG.Sound Tryz.prog ⟨61,[hZ i n 1],HS,.tup [.one (.int .i64 (z:Nat)),.one (.bool b)],HS,[i]⟩:=by
 have:=MK hL hn hln hi hb
 rw[hs]at this
 exact this
theorem Pv:∀(x:Fin 256) (r:Fin 8),(x.val:Int)/2^(7-r.val)%2=1->(∀j:Fin 8,r<j->¬(x.val:Int)/2^(7-j.val)%2=1)->tz 8 (x.val:Int)=7-r.val/\x.val≠0:=by
 decide +kernel
theorem ML(bs:List Bool):cJ (wr (bs++[true]))=(bs.length,true):=by
 have hlen:=fQ (bs++[true])
 simp only[List.length_append,List.length_cons,List.length_nil]at hlen
 have hi:(wr (bs++[true])).length-1=bs.length/8:=by omega
 have hb:=gl (bs++[true]) (bs.length/8)
 obtain⟨x,hx⟩:∃x:Fin 256,(wr (bs++[true])).getD (bs.length/8) 0=(x.val:Int):=⟨⟨((wr (bs++[true])).getD (bs.length/8) 0).toNat,by omega⟩,by simp only[];omega⟩
 have bit:∀j:Fin 8,decide ((x.val:Int)/2^(7-j.val)%2=1)=(bs++[true]).getD (8*(bs.length/8)+j.val) false:=by
  intro j
  have:=DG (bs++[true]) (8*(bs.length/8)+j.val)
  unfold jA at this
  rw[show(8*(bs.length/8)+j.val)/8=bs.length/8 by omega,show(8*(bs.length/8)+j.val)%8=j.val by omega,hx]at this
  exact this
 have h1:=Pv x ⟨bs.length%8,Nat.mod_lt _ (by omega)⟩ (by
  have:=bit ⟨bs.length%8,Nat.mod_lt _ (by omega)⟩
  simp only at this
  rw[show 8*(bs.length/8)+bs.length%8=bs.length by omega]at this
  simpa using this) (fun j hj=>by
  have:=bit j
  have hj':bs.length%8<j.val:=hj
  rw[List.getD_eq_getElem?_getD,List.getElem?_eq_none (by simp;omega)]at this
  simpa using this)
 unfold cJ
 rw[hi,hx,if_neg (by have:=h1.2;omega),h1.1]
 simp only[Prod.mk.injEq,and_true]
 rw[hlen]
 omega
theorem Lp(bs:List Bool)(hb:bs.length<=1000000):dp (wr (bs++[true])) bs:=by
 have hlen:=fQ (bs++[true])
 simp only[List.length_append,List.length_cons,List.length_nil]at hlen
 refine⟨by omega,gl _,fun j hj=>?_,by omega⟩
 rw[DG,List.getD_eq_getElem?_getD,List.getElem?_append_left hj,<-List.getD_eq_getElem?_getD]
def nG:Int->List Int->List Int
 | _,[]=>[]
 | z,b::t=>if 2<=z/\b<=3 then 3::b::nG (if b=0 then 0+1 else 0) t else b::nG (if b=0 then z+1 else 0) t
theorem Iq(l:List Int):∀j,j<=l.length->(gS l j).1++nG (gS l j).2 (l.drop j)=nG 0 l
 | 0,_=>rfl
 | j + 1,h=>by
   rw[<-Iq l j (by omega)]
   have hd:l.drop j=l.getD j 0::l.drop (j+1):=by
    rw[List.drop_eq_getElem_cons (by omega),List.getD_eq_getElem?_getD,List.getElem?_eq_getElem (by omega)];rfl
   rw[hd,gS,Ip]
   conv=>rhs;rw[nG]
   split
   ·simp
   ·simp
theorem uR(l:List Int):(gS l l.length).1=nG 0 l:=by
 have:=Iq l l.length (Nat.le_refl _)
 rw[List.drop_length]at this
 simpa [nG]using this
theorem CQ(e:List Int):∀(l:List Int) (k:Nat) (out:List Int) (z:Int) (i:Nat),(∀b∈l,0<=b)->0<=z->z<=2->e.drop i=nG z l->k=(nG z l).length->jc e k out z i=some (out++l)
 | [],k,out,z,i,hb,h0,h2,hd,hk=>by
   simp[nG]at hk
   subst hk
   simp[jc]
 | b :: t,k,out,z,i,hb,h0,h2,hd,hk=>by
   have hb0:=hb b (List.mem_cons_self ..)
   have hbt:∀b∈t,0<=b:=fun x hx=>hb x (List.mem_cons_of_mem _ hx)
   have get:∀(i:Nat) (x:Int) (q:List Int),e.drop i=x::q->e.getD i 0=x/\e.drop (i+1)=q/\i<e.length:=fun i x q h=>by
    have hlt:i<e.length:=by
     refine Classical.byContradiction fun hn=>?_
     rw[List.drop_of_length_le (by omega)]at h
     cases h
    rw[List.drop_eq_getElem_cons hlt]at h
    simp only[List.cons.injEq]at h
    refine⟨?_,h.2,hlt⟩
    rw[List.getD_eq_getElem?_getD,List.getElem?_eq_getElem hlt]
    exact h.1
   unfold nG at hd hk
   by_cases hc:2<=z/\b<=3
   ·rw[if_pos hc]at hd hk
    obtain⟨g1,g2,g3⟩:=get _ _ _ hd
    obtain⟨g4,g5,g6⟩:=get _ _ _ g2
    obtain rfl:z=2:=by omega
    simp only[List.length_cons]at hk
    obtain⟨k,rfl⟩:∃k',k=k'+2:=⟨k-2,by omega⟩
    rw[jc,g1,if_neg (by omega),if_pos ⟨rfl,rfl⟩,if_neg (by rw[g4];omega),jc,g4,if_neg (by omega),if_neg (by omega)]
    rw[CQ e t k _ _ _ hbt (by split<;>omega) (by split<;>omega) g5 (by omega)]
    simp
   ·rw[if_neg hc]at hd hk
    obtain⟨g1,g2,g3⟩:=get _ _ _ hd
    simp only[List.length_cons]at hk
    obtain⟨k,rfl⟩:∃k',k=k'+1:=⟨k-1,by omega⟩
    rw[jc,g1,if_neg (by omega),if_neg (by omega)]
    rw[CQ e t k _ _ _ hbt (by split<;>omega) (by split<;>omega) g2 (by omega)]
    simp
theorem AL{l:List Int}(hl:bQ l):jc (gS l l.length).1 (gS l l.length).1.length [] 0 0=some l:=by
 rw[uR]
 have:=CQ (nG 0 l) l (nG 0 l).length [] 0 0 (fun b hb=>by
  obtain⟨j,hj,rfl⟩:=List.mem_iff_getElem.1 hb
  have:=(hl j).1
  rw[List.getD_eq_getElem?_getD,List.getElem?_eq_getElem hj]at this
  exact this) (by omega) (by omega) rfl rfl
 simpa using this
theorem qW(pre:List Bool)(b:Bool)(t:List Bool):cm (pre++b::t) (pre.length,false)=b/\bg (pre++b::t) (pre.length,false)=(pre.length+1,false):=by
 constructor
 ·unfold cm
  rw[List.getD_eq_getElem?_getD,List.getElem?_append_right (Nat.le_refl _)]
  simp
 ·unfold bg
  rw[if_neg (by simp),if_pos (by simp)]
theorem Oc(x:Int)(h:x=0\/x=1):b2 (decide (x=1))=x:=by
 rcases h with rfl|rfl<;>rfl
theorem ye(n:Int)(hn:1<=n/\n<=8191):∀(k fuel:Nat) (x:Int) (pre rest:List Bool),0<k->k<=fuel->x=n/2^k ->
 ki (pre++(jC n k++rest)) fuel x (pre.length,false)=(n-1,(pre.length+2*k,false))
 | 0,fuel,x,pre,rest,h0,hf,hx=>absurd h0 (Nat.lt_irrefl _)
 | k+1,0,x,pre,rest,h0,hf,hx=>absurd hf (by omega)
 | k + 1,fuel+1,x,pre,rest,h0,hf,hx=>by
   have hpos:(0:Int)<2^k:=Int.pow_pos (by decide)
   have hx':2*x+n/2^k%2=n/2^k:=by
    rw[hx,Int.pow_succ,<-Int.ediv_ediv_of_nonneg (Int.le_of_lt hpos)]
    omega
   have hle:n/2^k<=n:=Int.ediv_le_self _ (by omega)
   obtain⟨a1,a2⟩:=qW pre (decide (n/2^k%2=1)) (decide (0<k)::(jC n k++rest))
   obtain⟨c1,c2⟩:=qW (pre++[decide (n/2^k%2=1)]) (decide (0<k)) (jC n k++rest)
   rw[List.append_assoc,List.length_append]at c1 c2
   simp only[List.cons_append,List.nil_append,List.length_cons,List.length_nil,Nat.zero_add]at c1 c2
   have hb:b2 (decide (n/2^k%2=1))=n/2^k%2:=Oc _ (by omega)
   simp only[jC,List.cons_append]
   rw[ki,a1,a2,c1,c2,hb,hx',if_neg (by simp;omega)]
   by_cases hk:0<k
   ·rw[if_pos (by simpa using hk)]
    have:=ye n hn k fuel (n/2^k) (pre++[decide (n/2^k%2=1),decide (0<k)]) rest hk (by omega) rfl
    rw[List.append_assoc,List.length_append]at this
    simp only[List.cons_append,List.nil_append,List.length_cons,List.length_nil]at this
    rw[this]
    simp only[Prod.mk.injEq,and_true,true_and]
    omega
   ·rw[if_neg (by simpa using hk)]
    obtain rfl:k=0:=by omega
    simp
theorem Nc(m:Nat)(h:2<=m):(1:Int)=(m:Int)/2^(bitLen m-1):=by
 have hlog:bitLen m=Nat.log2 m+1:=by unfold bitLen;rw[if_neg (by omega)]
 rw[hlog,Nat.add_sub_cancel]
 have e1:=Nat.log2_self_le (n:=m) (by omega)
 have e2:=Nat.lt_log2_self (n:=m)
 rw[Nat.pow_succ]at e2
 have e3:m/2^Nat.log2 m=1:=by
  apply Nat.div_eq_of_lt_le<;>omega
 have e5:((m/2^Nat.log2 m:Nat):Int)=(m:Int)/2^Nat.log2 m:=by
  rw[Int.natCast_ediv,Int.natCast_pow];rfl
 rw[<-e5,e3];rfl
theorem yg(v:Int)(hv:0<=v/\v<=8190)(pre rest:List Bool):bq (pre++(cu v++rest)) (pre.length,false)=(v,(pre.length+(cu v).length,false)):=by
 unfold bq cu
 by_cases h0:v=0
 ·subst h0
  obtain⟨a1,a2⟩:=qW pre true rest
  simp only[if_true,List.cons_append,List.nil_append]
  rw[a1,a2]
  simp
 ·rw[if_neg h0]
  obtain⟨a1,a2⟩:=qW pre false (jC (v+1) (bitLen (v+1).toNat-1)++rest)
  simp only[List.cons_append]
  rw[a1,a2,if_neg (by decide)]
  have hl1:bitLen (v+1).toNat<=13:=pF (by show _<8192;omega)
  have h2:2<=(v+1).toNat:=by omega
  have hlog:bitLen (v+1).toNat=Nat.log2 (v+1).toNat+1:=by unfold bitLen;rw[if_neg (by omega)]
  have hlp:0<Nat.log2 (v+1).toNat:=by
   have:=(Nat.le_log2 (n:=(v+1).toNat) (k:=1) (by omega)).2 (by omega)
   omega
  have hx:=Nc (v+1).toNat h2
  rw[show((v+1).toNat:Int)=v+1 by omega]at hx
  have:=ye (v+1) (by omega) (bitLen (v+1).toNat-1) 13 1 (pre++[false]) rest (by omega) (by omega) hx
  rw[List.append_assoc,List.length_append]at this
  simp only[List.cons_append,List.nil_append,List.length_cons,List.length_nil]at this
  rw[this]
  simp only[List.length_cons,sV,Prod.mk.injEq,and_true]
  omega
end Go.Proofs.YtagpkhindehcbaaGreat
