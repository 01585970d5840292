/-
  A part of the proof: SameK, Bytes, Awake.
-/
import Derived.Test.YtagpkhindehcbaaGreatKeE
import Derived.Test.YtagpkhindehcbaaGreatKeF
import Derived.Test.YtagpkhindehcbaaGreatKeY
import Derived.Test.YtagpkhindehcbaaGreatKeZ
set_option maxRecDepth 10000
set_option maxHeartbeats 8000000
set_option linter.unusedVariables false
set_option linter.unusedSectionVars false
set_option linter.unusedSimpArgs false
namespace Go.Proofs.YtagpkhindehcbaaGreat
open Go.Xm
variable [ax]
def jK(m:Mb):Prop:=∀k,k<4->bz (m.v k)
noncomputable def yt(m o:Mb):Bool := @decide (uE m o) (Classical.propDecidable _)
theorem yu{m o:Mb}:yt m o=true↔uE m o := @decide_eq_true_iff _ (Classical.propDecidable _)
theorem LQ{m o:Mb}(hm:jK m)(ho:jK o):∃r,sq Tryz.prog 49 (.agg (vt m.v)) (.agg (vt o.v))=some r/\(r=true↔∀k,k<4->o.v k=m.v k):=by
 have h:∀{m:Mb},jK m->∀k,bz (if k<4 then m.v k else(0,0)):=fun h k=>by
  split
  ·exact h k (by assumption)
  ·exact Fc
 obtain⟨r,h1,h2⟩:=OJ (h hm) (h ho)
 refine⟨r,h1,h2.trans ⟨fun g k hk=>?_,fun g k hk=>?_⟩⟩
 ·have:=g k hk
  rw[if_pos hk,if_pos hk]at this;exact this
 ·rw[if_pos hk,if_pos hk];exact g k hk
theorem Gf{m o:Mb}(hm:jK m)(ho:jK o):bh Tryz.prog 40 [.agg (mC m),.agg (mC o)] [] (.one (.bool (yt m o))) []:=by
 obtain⟨rv,v1,v2⟩:=LQ hm ho
 obtain⟨rl,l1,l2⟩:=OH m.lev o.lev
 obtain⟨em,hem⟩:∃e,m.edge=e:=⟨_,rfl⟩
 obtain⟨eo,heo⟩:∃e,o.edge=e:=⟨_,rfl⟩
 have c6:(mC m)[6]? = some (.bool em):=by rw[<-hem];rfl
 have d6:(mC o)[6]? = some (.bool eo):=by rw[<-heo];rfl
 have c0:(mC m)[0]? = some (.int .u8 m.kind):=rfl
 have d0:(mC o)[0]? = some (.int .u8 o.kind):=rfl
 have c1:(mC m)[1]? = some (.int .i64 m.qp):=rfl
 have d1:(mC o)[1]? = some (.int .i64 o.qp):=rfl
 have cv:((mC m).drop 2).take 4=vt m.v:=rfl
 have dv:((mC o).drop 2).take 4=vt o.v:=rfl
 have hval:yt m o=true↔m.kind=o.kind/\m.qp=o.qp/\rv=true/\em=eo/\rl=true:=by
  rw[yu,v2,l2,<-hem,<-heo]
  exact⟨fun h=>⟨h.kind.symm,h.qp.symm,h.v,h.edge.symm,fun j hj=>(h.lev j hj).symm⟩,fun⟨a,b,c,d,e⟩=>⟨a.symm,b.symm,d.symm,c,fun i hi=>(e i hi).symm⟩⟩
 obtain⟨R,hR⟩:∃R,yt m o=R:=⟨_,rfl⟩
 rw[hR]at hval ⊢
 by_cases hk:m.kind=o.kind
 ·by_cases hq:m.qp=o.qp
  ·cases rv<;>cases em<;>cases eo<;>cases rl
   all_goals
    first
    | (have hR1:R=true:=hval.2 ⟨hk,hq,rfl,rfl,rfl⟩
       subst hR1)
    | (have hR1:R=false:=by
        cases R with
        | false=>rfl
        | true=>have:=hval.1 rfl;simp at this
       subst hR1)
    refine cO Tryz.func40 ?_
    repeat' (first
     |(refine qz ?_;first
      |refine ld (hc:=c0) ?_
      |refine ld (hc:=d0) ?_
      |refine ld (hc:=c1) ?_
      |refine ld (hc:=d1) ?_
      |refine ld (hc:=c6) ?_
      |refine ld (hc:=d6) ?_
      |refine sO (cs:=vt m.v) ?_ (hle:=by rw[aI];decide) (hc:=cv)
      |refine sO (cs:=vt o.v) ?_ (hle:=by rw[aI];decide) (hc:=dv)
      |refine sO (cs:=ti .i64 384 m.lev) ?_ (hle:=by rw[aI];decide) (hc:=vp m)
      |refine sO (cs:=ti .i64 384 o.lev) ?_ (hle:=by rw[aI];decide) (hc:=vp o)
      |refine Sc v1 ?_
      |refine Sc l1 ?_)
     |refine zz ?_|refine zx (fun _=>?_) (fun _=>?_)|fail)
    show aB _ _ _ _ _ _ _ _;refine kV [] ?_
    rfl
  ·have hR1:R=false:=by
    cases R with
    | false=>rfl
    | true=>exact absurd (hval.1 rfl).2.1 hq
   subst hR1
   refine cO Tryz.func40 ?_
   repeat' (first
    |(refine qz ?_;first
     |refine ld (hc:=c0) ?_
     |refine ld (hc:=d0) ?_
     |refine ld (hc:=c1) ?_
     |refine ld (hc:=d1) ?_
     |refine ld (hc:=c6) ?_
     |refine ld (hc:=d6) ?_)
    |refine zz ?_|refine zx (fun _=>?_) (fun _=>?_)|fail)
   show aB _ _ _ _ _ _ _ _;refine kV [] ?_
   rfl
 ·have hR1:R=false:=by
   cases R with
   | false=>rfl
   | true=>exact absurd (hval.1 rfl).1 hk
  subst hR1
  refine cO Tryz.func40 ?_
  repeat' (first
   |(refine qz ?_;first
    |refine ld (hc:=c0) ?_
    |refine ld (hc:=d0) ?_)
   |refine zz ?_|refine zx (fun _=>?_) (fun _=>?_)|fail)
  show aB _ _ _ _ _ _ _ _;refine kV [] ?_
  rfl
theorem Bu{m o:Mb}(hm:jK m)(ho:jK o){r:Bool}(hr:yt m o=r){HS:aj}(hb:Nat.blt HS.length Mem.bound=true):aG.Sound Tryz.prog ⟨40,[.agg (mC m),.agg (mC o)],HS,.one (.bool r),HS,[]⟩:=by
 subst hr
 exact az (Gf hm ho) (by show((mC m).all XC.shut&&((mC o).all XC.shut&&true))=true;rw[jk,jk];rfl) rfl hb
def HQ(L O:List Mb):Prop:=L.length=O.length/\∀i,i<L.length->uE (L.getD i default) (O.getD i default)
noncomputable def sZ(L O:List Mb):Bool := @decide (HQ L O) (Classical.propDecidable _)
theorem vX{L O:List Mb}:sZ L O=true↔HQ L O := @decide_eq_true_iff _ (Classical.propDecidable _)
end Go.Proofs.YtagpkhindehcbaaGreat
namespace Go.Xm
variable [ax]
variable {P:Program} {ops:Array Oper} {nt nI:Nat} {al:bn} {hs:aj} {o:Oper} {l:List Oper} {L:List aG} {K:List Ab->bn->aj->Prop} {d:Nat}
theorem aH.bytes{O:dJ}(hw:av ops (rg al) o=some true){s t:TypeId}{x:Operand}(ho:o.op = .convert s t x){e:TypeId}(hs1:P.underlying s=some (.slice e))(he:P.underlying e=some (.int .u8))(hd:P.underlying t=some .string){i off len:Nat}{cap:sx}(hx:ai (rg al) x = .one (.slice i off len cap)){vs:List XC}{et:TypeId}{opn ro:Bool}(hi:hs[i]? = some (.cells vs et opn ro))(hfit:off+len<=vs.length){ns:List Int}(hb:pD ((vs.drop off).take len)=some ns) :
 aH O P ops al hs o (.one (.str (pG ns))) hs ⟨false,some i,[]⟩:=by
 intro m hm
 refine⟨m,?_,hm,fun _ _=>rfl⟩
 unfold kJ
 rw[hw]
 obtain⟨f,hf1,hf2⟩:∃f,fY P (ai (rg al)) o.op=some (i,f)/\∀vs' e' o' r',f (.cells vs' e' o' r')=if off+len<=vs'.length then(pD ((vs'.drop off).take len)).map fun ns=>XV.one (.str (pG ns))else .none:=by
  rw[ho]
  simp only[fY,hs1,hd,hx,he]
  exact⟨_,rfl,fun _ _ _ _=>rfl⟩
 refine th (by rw[ho];simp only[bg,lM,hs1,hd,hx]) (by rw[ho];simp only[ql,hx]) hf1 ?_
 rw[hm.at hi,hf2,if_pos hfit,hb]
 rfl
theorem yM:∀a:List Int,pD (il .u8 a)=some a
 | []=>rfl
 | z::a=>by
   show(pD (il .u8 a)).map (z :: ·)=_
   rw[yM a];rfl
theorem Sg{s t e:TypeId}{x:Operand}{i:Nat}{a:List Int}(hne:a.length≠0)(hk:SK P ops nt L l ((d,.one (.str (pG a)))::al) hs fun bs=>K (⟨false,some i,[]⟩::bs))(ho:o.op = .convert s t x:=by exact rfl)(hu:aX P s (.slice e):=by infer_instance)(he:aX P e (.int .u8):=by infer_instance)(ht:aX P t .string:=by infer_instance)(hw:av ops (rg al) o=some true:=by exact rfl)(hd:o.dst=some d:=by exact rfl)(hlt:Nat.blt d nt=true:=by exact rfl)
 (hx:ai (rg al) x = .one (gJ i a.length 1):=by exact rfl) {et:TypeId}(hi:hs[i]? = some (cR et (il .u8 a)):=by exact rfl):SK P ops nt L (o::l) al hs K:=by
 have hil:(il .u8 a).length=a.length:=dX _ _
 have h1:cR et (il .u8 a) = .cells (il .u8 a) et true false:=e9 (fun h=>hne (by rw[<-hil,h];rfl))
 have h2:gJ i a.length 1 = .slice i 0 a.length (.toEnd 1):=if_neg hne
 refine SK.lift hd hlt (fun _=>aH.bytes hw ho hu.out he.out ht.out (by rw[hx,h2]) (hi.trans (congrArg some h1)) (by omega) (ns:=a) ?_) hk
 rw[List.drop_zero,<-hil,List.take_length]
 exact yM a
end Go.Xm
namespace Go.Xm
variable [ax]
variable {P:Program} {ops:Array Oper} {nt nI:Nat} {al:bn} {hs:aj} {o:Oper} {l:List Oper} {L:List aG} {K:List Ab->bn->aj->Prop} {d:Nat}
theorem SA{t t':TypeId}{a b:Operand}{x:List UInt8}(hk:SK P ops nt L l ((d,.one (.bool true))::al) hs fun bs=>K (quiet::bs))(ho:o.op = .binOp .eql t a b t':=by exact rfl)(hu:aX P t .string:=by infer_instance)(hw:av ops (rg al) o=some true:=by exact rfl)(hd:o.dst=some d:=by exact rfl)(hlt:Nat.blt d nt=true:=by exact rfl)(ha:ai (rg al) a = .one (.str x):=by exact rfl)(hb:ai (rg al) b = .one (.str x):=by exact rfl):SK P ops nt L (o::l) al hs K:=
 SK.lift hd hlt (fun _=>aH.pure hw (by rw[ho];simp[bg,ha,hb,sk,ND])) hk
end Go.Xm
namespace Go.Proofs.YtagpkhindehcbaaGreat
open Go.Xm
variable [ax]
def hA:Hd:=⟨1,1,false,fun _=>0,fun _=>0⟩
def pA:Ph:=⟨0,true,false,1⟩
def mA:Mb:=lB PE true 1
theorem Nb:kH PE:=⟨⟨by decide,by decide⟩,⟨by decide,by decide⟩,⟨fun _ _=>by show -128<=(0:Int)/\(0:Int)<128;decide,fun _ _=>by show -128<=(0:Int)/\(0:Int)<128;decide⟩,fun _ _=>by show(0:Int)<=0/\(0:Int)<18446744073709551616;decide,by decide,by decide⟩
theorem N4:iL mA/\dB mA true 1=0/\1<=mA.qp/\mA.qp<=31:=Dg (inter:=true) (qp:=1) Nb ⟨by decide,by decide⟩
theorem MJ:gu hA pA [mA] 0:=⟨⟨⟨by decide,by decide,by decide,by decide⟩,fun h=>(by cases h),fun _ _ _=>⟨rfl,rfl⟩⟩,⟨by decide,by decide,fun h=>by cases h⟩,fun m hm=>by rw[List.mem_singleton.1 hm];exact N4.1,by decide,by decide,by decide,by decide⟩
theorem QX:pf hA pA [mA] 0 = .inr ([160],[128]):=by
 have h1:gd [mA] 0 (qW hA pA) 1 = .inr ⟨aY (dS hA pA) 0 mA.v,[true,false],[]⟩:=by
  show kn 0 0 mA (qW hA pA)=_
  unfold kn
  have hc:dB mA (qW hA pA).S.inter (qW hA pA).S.qp=0:=N4.2.1
  rw[hc,if_neg (by simp)]
  rfl
 unfold pf
 show(match gd [mA] 0 (qW hA pA) 1 with | .inl e=>_ | .inr x=>_)=_
 rw[h1]
 have e1:gT (wr ([true,false]++[true])) (wr ([true,false]++[true])).length=([160],0):=by decide
 have e2:gT (wr ([]++[true])) (wr ([]++[true])).length=([128],0):=by decide
 dsimp only
 rw[e1,e2]
 rfl
theorem FE:bh Tryz.prog 8 [] [] (.one (.bool true)) []:=by
 have hro:sD (.cells (fl mC [mA]) 53 false false) mC [mA]:=⟨fun _=>⟨_,_,_,rfl⟩,inferInstance⟩
 have hna:([160]:List Int).length≠0:=by decide
 have hnb:([128]:List Int).length≠0:=by decide
 refine cO Tryz.func8 ?_
 repeat' (first
  |(refine qz ?_;first
   |refine cl ?_ (hi:=by exact Jp nL (by simp only[eU,List.cons_append,List.nil_append];exact rfl) rfl)
   |refine bF (out:=f_ hA) ?_ (hz:=Ap) (hc:=by kernel_rfl)
   |refine bF (out:=hU pA) ?_ (hz:=D9) (hc:=by kernel_rfl)
   |refine bF (out:=mC mA) ?_ (hz:=j0) (hc:=by kernel_rfl)
   |refine oP (enc:=mC) (a:=mA) ?_
   |refine cl ?_ (hi:=by exact ES MJ hro QX rfl rfl rfl (by decide) nL (by simp only[eU,List.cons_append,List.nil_append];exact rfl) rfl)
   |refine Sg hna ?_
   |refine Sg hnb ?_
   |refine SA ?_)
  |refine zz ?_|refine zx (fun _=>?_) (fun _=>?_)|fail)
 show aB _ _ _ _ _ _ _ _;refine kV [] ?_
 rfl
theorem H3{HS:aj}(hb:Nat.blt HS.length Mem.bound=true):aG.Sound Tryz.prog ⟨8,[],HS,.one (.bool true),HS,[]⟩:=
 az FE rfl rfl hb
end Go.Proofs.YtagpkhindehcbaaGreat
