/-
  A part of the proof: EncQ, EncL, EncM, AtK, EncO.
-/
import Derived.Test.YtnkodcmkpfefhaaGreatEeM
import Derived.Test.YtnkodcmkpfefhaaGreatEeP
import Derived.Test.YtnkodcmkpfefhaaGreatEeW
import Derived.Test.YtnkodcmkpfefhaaGreatEeX
import Derived.Test.YtnkodcmkpfefhaaGreatEeZ
import Derived.Test.YtnkodcmkpfefhaaGreatEeZA
set_option maxRecDepth 10000
set_option maxHeartbeats 8000000
set_option linter.unusedVariables false
set_option linter.unusedSectionVars false
set_option linter.unusedSimpArgs false
namespace Go.Proofs.YtnkodcmkpfefhaaGreat
open Go.Xm
variable [aw]
theorem uY(k:IntKind)(n:Nat)(f:Nat->Int):(ti k n f).all XC.shut=true:=by simp[ti,XC.shut]
theorem FF(a b:Int) : -(a.natAbs:Int)<=a.tdiv b/\a.tdiv b<=a.natAbs:=by
 have h3:(a.tdiv b).natAbs<=a.natAbs:=by rw[Int.natAbs_tdiv];exact Nat.div_le_self ..
 omega
def BQ(n s:Int):Int:=min (max (n.tdiv s) (-2047)) 2047
theorem BR{n s:Int}(hn : -1000000000<=n/\n<=1000000000)(hs:1<=s/\s<=65536):aW Tryz.prog 124 [.one (.int .i64 n),.one (.int .i64 s)] [] (.one (.int .i64 (BQ n s))) []:=by
 have hd:=FF n s
 have m1:max s 1=s:=by omega
 have hd2 : -1000000000<=n.tdiv s/\n.tdiv s<=1000000000:=by omega
 refine cO Tryz.func124 ?_
 repeat' (first
  |(refine qz ?_;first
   |refine qt ?_)
  |refine zz ?_|refine zx (fun _=>?_) (fun _=>?_)|fail)
 show aD _ _ _ _ _ _ _ _;refine kV [] ?_
 rfl
theorem Ey{n s r:Int}(hn : -1000000000<=n/\n<=1000000000)(hs:1<=s/\s<=65536)(hr:BQ n s=r){HS:ai}(hb:Nat.blt HS.length Mem.bound=true):aC.Sound Tryz.prog ⟨124,[.one (.int .i64 n),.one (.int .i64 s)],HS,.one (.int .i64 r),HS,[]⟩:=by
 subst hr
 exact au (BR hn hs) rfl rfl hb
def lI(l s:Int):Int:=if l>0 then l*s+s/2 else if l<0 then l*s-s/2 else 0
theorem EI{l s:Int}(hl : -2047<=l/\l<=2047)(hs:1<=s/\s<=65536) : -134152192<=l*s/\l*s<=134152192:=by
 have h1:l*s<=2047*s:=Int.mul_le_mul_of_nonneg_right hl.2 (by omega)
 have h2 : -2047*s<=l*s:=Int.mul_le_mul_of_nonneg_right hl.1 (by omega)
 omega
theorem Cg{l s:Int}(hl : -2047<=l/\l<=2047)(hs:1<=s/\s<=65536) : -134200000<=lI l s/\lI l s<=134200000:=by
 have h:=EI hl hs
 unfold lI
 split
 ·omega
 ·split<;>omega
theorem Cf{l s:Int}(hl : -2047<=l/\l<=2047)(hs:1<=s/\s<=65536):aW Tryz.prog 136 [.one (.int .i64 l),.one (.int .i64 s)] [] (.one (.int .i64 (lI l s))) []:=by
 have hm:=EI hl hs
 have m1:max l (-2047)=l:=by omega
 have m2:min l 2047=l:=by omega
 have m3:max s 1=s:=by omega
 have m4:min s 65536=s:=by omega
 refine cO Tryz.func136 ?_
 by_cases h1:l>0
 ·rw[show lI l s=l*s+s/2 from if_pos h1]
  repeat' (first|refine zz ?_|refine zx (fun _=>?_) (fun _=>?_)|fail)
  show aD _ _ _ _ _ _ _ _;refine kV [] ?_
  rfl
 ·by_cases h2:l<0
  ·rw[show lI l s=l*s-s/2 by unfold lI;rw[if_neg h1,if_pos h2]]
   repeat' (first|refine zz ?_|refine zx (fun _=>?_) (fun _=>?_)|fail)
   show aD _ _ _ _ _ _ _ _;refine kV [] ?_
   rfl
  ·rw[show lI l s=0 by unfold lI;rw[if_neg h1,if_neg h2]]
   repeat' (first|refine zz ?_|refine zx (fun _=>?_) (fun _=>?_)|fail)
   show aD _ _ _ _ _ _ _ _;refine kV [] ?_
   rfl
theorem E7{l s r:Int}(hl : -2047<=l/\l<=2047)(hs:1<=s/\s<=65536)(hr:lI l s=r){HS:ai}(hb:Nat.blt HS.length Mem.bound=true):aC.Sound Tryz.prog ⟨136,[.one (.int .i64 l),.one (.int .i64 s)],HS,.one (.int .i64 r),HS,[]⟩:=by
 subst hr
 exact au (Cf hl hs) rfl rfl hb
def m9(n qp:Int):Int:=min ((max n 0+gu qp/2)/gu qp) 127
theorem tp(n qp:Int):0<=m9 n qp/\m9 n qp<=127:=by
 have h:=gV qp
 have h2:0<=(max n 0+gu qp/2)/gu qp:=Int.ediv_nonneg (by omega) (by omega)
 unfold m9
 omega
theorem yx{n qp:Int}(hn : -1000000000<=n/\n<=1000000000):aW Tryz.prog 125 [.one (.int .i64 n),.one (.int .i64 qp)] [] (.one (.int .i64 (m9 n qp))) []:=by
 have hr:=gV qp
 obtain⟨g,hg⟩:∃g,gu qp=g:=⟨_,rfl⟩
 rw[hg]at hr
 rw[show m9 n qp=min ((max n 0+g/2)/g) 127 by unfold m9;rw[hg]]
 have hq:0<=(max n 0+g/2)/g:=Int.ediv_nonneg (by omega) (by omega)
 refine cO Tryz.func125 ?_
 repeat' (first
  |(refine qz ?_;first
   |refine cl ?_ (hi:=by exact rn hg rfl))
  |refine zz ?_|refine zx (fun _=>?_) (fun _=>?_)|fail)
 show aD _ _ _ _ _ _ _ _;refine kV [] ?_
 rfl
theorem BH{n qp r:Int}(hn : -1000000000<=n/\n<=1000000000)(hr:m9 n qp=r){HS:ai}(hb:Nat.blt HS.length Mem.bound=true):aC.Sound Tryz.prog ⟨125,[.one (.int .i64 n),.one (.int .i64 qp)],HS,.one (.int .i64 r),HS,[]⟩:=by
 subst hr
 exact au (yx hn) rfl rfl hb
def oe(l qp:Int):Int:=min (max l 0) 127*gu qp
theorem z9{l g:Int}(hg:128<=g/\g<=960):0<=min (max l 0) 127*g/\min (max l 0) 127*g<=121920:=by
 have h1:min (max l 0) 127*g<=127*g:=Int.mul_le_mul_of_nonneg_right (by omega) (by omega)
 have h2:0<=min (max l 0) 127*g:=Int.mul_nonneg (by omega) (by omega)
 omega
theorem By(l qp:Int):0<=oe l qp/\oe l qp<=121920:=z9 (gV qp)
theorem Bx(l qp:Int):aW Tryz.prog 137 [.one (.int .i64 l),.one (.int .i64 qp)] [] (.one (.int .i64 (oe l qp))) []:=by
 have hr:=gV qp
 obtain⟨g,hg⟩:∃g,gu qp=g:=⟨_,rfl⟩
 rw[hg]at hr
 rw[show oe l qp=min (max l 0) 127*g by unfold oe;rw[hg]]
 have hb:=z9 (l:=l) hr
 refine cO Tryz.func137 ?_
 repeat' (first
  |(refine qz ?_;first
   |refine cl ?_ (hi:=by exact rn hg rfl))
  |refine zz ?_|refine zx (fun _=>?_) (fun _=>?_)|fail)
 show aD _ _ _ _ _ _ _ _;refine kV [] ?_
 rfl
theorem D9{l qp r:Int}(hr:oe l qp=r){HS:ai}(hb:Nat.blt HS.length Mem.bound=true):aC.Sound Tryz.prog ⟨137,[.one (.int .i64 l),.one (.int .i64 qp)],HS,.one (.int .i64 r),HS,[]⟩:=by
 subst hr
 exact au (Bx l qp) rfl rfl hb
def jJ(h:Hd)(c:Nat->Int)(qp:Int)(intra:Bool)(i:Nat):Int:=if i=0/\intra=true then m9 (c 0) qp else BQ (c i) (gQ h qp i intra)
def jh(h:Hd)(c:Nat->Int)(qp:Int)(intra:Bool)(i:Nat):Int:=if i=0/\intra=true then oe (c 0) qp else lI (c i) (gQ h qp i intra)
theorem Ch(h:Hd)(c:Nat->Int)(qp:Int)(intra:Bool)(i:Nat) : -2047<=jJ h c qp intra i/\jJ h c qp intra i<=2047:=by
 have h1:=tp (c 0) qp
 unfold jJ
 split
 ·omega
 ·unfold BQ;omega
theorem Ci{h:Hd}(hr:b7 h){c:Nat->Int}(hc:∀i,i<64 -> -2047<=c i/\c i<=2047)(qp:Int)(intra:Bool)(i:Nat)(hi:i<64) : -134200000<=jh h c qp intra i/\jh h c qp intra i<=134200000:=by
 have h1:=By (c 0) qp
 have h2:=kC hr qp hi intra
 have h3:=Cg (hc i hi) (s:=gQ h qp i intra) (by omega)
 unfold jh
 split<;>omega
theorem LH{f g:Nat->Int}{v:Int}(h0:g 0=v)(h:∀i,i≠0->g i=f i):gM f 0 v=g:=by
 funext i
 unfold gM
 by_cases hi:i=0
 ·rw[if_pos hi,hi,h0]
 ·rw[if_neg hi,h i hi]
theorem E8{h:Hd}(hr:b7 h){c:Nat->Int}(hc:∀i,i<64 -> -1000000000<=c i/\c i<=1000000000)(qp:Int)(intra:Bool):aW Tryz.prog 95 [.agg (bG h),.agg (ti .i64 64 c),.one (.int .i64 qp),.one (.bool intra)] [] (.agg (ti .i64 64 (jJ h c qp intra))) []:=by
 obtain⟨g,hg⟩:∃g:Nat->Int,(fun i=>BQ (c i) (gQ h qp i intra))=g:=⟨_,rfl⟩
 refine cO Tryz.func95 ?_
 repeat' (first|refine zz ?_|refine zx (fun _=>?_) (fun _=>?_)|fail)
 refine WX.bZ (σ:=Nat) (fun j=>[(2,.one (.int .i64 qp)),(3,.one (.bool intra)),(4,.one (.ptr 0 0)),(5,.one (.ptr 1 0)),(8,.one (.ptr 2 0)),(9,.one (.ptr 3 0)),(12,.agg (ti .i64 64 c)),(13,.one (.int .i64 (j:Nat)))]) (fun j=>[.cells (bG h) 24 false false,.cells (ti .i64 64 c) 65 false false,.cells (ti .i64 64 fun _=>0) 65 false false,.cells (ti .i64 64 (iz g (fun _=>0) j)) 65 false false]) (fun j=>j<=64) (fun j=>64-j) 0 (by omega) (fun s _=>hX) (b_ [0,1,2,3] (obj:=by(repeat' (first|exact ae.nil|refine ae.flat (by rw[fI];rfl) ?_|refine ae.flat rfl ?_|refine ae.cons rfl ?_|refine ae.dead rfl ?_|refine ae.cons (by simp only[ah.ax,List.map_cons,List.map_nil,XC.ax,aB];exact rfl) ?_));first|done|fail)) ?_
 intro j hj ih
 by_cases hlt:j<64
 ·have hn:=fH g (fun _=>0) j
  have hs:=kC hr qp hlt intra
  have hcj:=hc (j:Int).toNat (by omega)
  repeat' (first
   |(refine qz ?_;first
    |refine El ?_
    |refine fV ?_ (hle:=by rw[cW])
    |refine cl ?_ (hi:=by exact oA hr hlt rfl rfl)
    |refine cl ?_ (hi:=by exact Ey (r:=g j) hcj (by omega) (by rw[<-hg];rfl) rfl))
   |refine zz ?_|refine zx (fun _=>?_) (fun _=>?_)|fail)
  refine ih (j+1) _ _ _ (b_ [0,1,2,3] (obj:=by(repeat' (first|exact ae.nil|refine ae.flat (by rw[<-hn];rfl) ?_|refine ae.flat rfl ?_|refine ae.cons rfl ?_|refine ae.dead rfl ?_|refine ae.cons (by simp only[ah.ax,List.map_cons,List.map_nil,XC.ax,aB];exact rfl) ?_));first|done|fail)) (by omega) (by omega)
 ·obtain rfl:j=64:=by omega
  have hm:ti .i64 64 (iz g (fun _=>0) 64)=ti .i64 64 g:=bJ fun i hi=>by simp[iz,hi]
  cases intra with
  | true=>
    have e:gM g 0 (m9 (c 0) qp)=jJ h c qp true:=LH (by unfold jJ;rw[if_pos ⟨rfl,rfl⟩]) (fun i hi=>by unfold jJ;rw[if_neg (fun k=>hi k.1),<-hg])
    have e2:ti .i64 64 (gM (iz g (fun _=>0) 64) 0 (m9 (c 0) qp))=ti .i64 64 (jJ h c qp true):=by rw[<-e];exact bJ fun i hi=>by unfold gM iz;rw[if_pos hi]
    have hc0:=hc 0 (by decide)
    repeat' (first
     |(refine qz ?_;first
      |refine cl ?_ (hi:=by exact BH hc0 rfl rfl))
     |refine zz ?_|refine zx (fun _=>?_) (fun _=>?_)|fail)
    show aD _ _ _ _ _ _ _ _;refine kV [] ?_
    rw[<-e2];rfl
  | false=>
    have e:g=jJ h c qp false:=by funext i;unfold jJ;rw[if_neg (fun k=>by cases k.2),<-hg]
    repeat' (first|refine zz ?_|refine zx (fun _=>?_) (fun _=>?_)|fail)
    show aD _ _ _ _ _ _ _ _;refine kV [] ?_
    rw[<-e,<-hm];rfl
theorem Hy{h:Hd}(hr:b7 h){c:Nat->Int}(hc:∀i,i<64 -> -1000000000<=c i/\c i<=1000000000){qp:Int}{intra:Bool}{g:Nat->Int}(hg:jJ h c qp intra=g){HS:ai}(hb:Nat.blt HS.length Mem.bound=true):aC.Sound Tryz.prog ⟨95,[.agg (bG h),.agg (ti .i64 64 c),.one (.int .i64 qp),.one (.bool intra)],HS,.agg (ti .i64 64 g),HS,[]⟩:=by
 subst hg
 exact au (E8 hr hc qp intra) (by simp only[List.all_cons,List.all_nil,Bool.and_true,XV.shut];rw[el,uY];rfl) (uY .i64 64 _) hb
theorem E_{h:Hd}(hr:b7 h){c:Nat->Int}(hc:∀i,i<64 -> -2047<=c i/\c i<=2047)(qp:Int)(intra:Bool):aW Tryz.prog 107 [.agg (bG h),.agg (ti .i64 64 c),.one (.int .i64 qp),.one (.bool intra)] [] (.agg (ti .i64 64 (jh h c qp intra))) []:=by
 obtain⟨g,hg⟩:∃g:Nat->Int,(fun i=>lI (c i) (gQ h qp i intra))=g:=⟨_,rfl⟩
 refine cO Tryz.func107 ?_
 repeat' (first|refine zz ?_|refine zx (fun _=>?_) (fun _=>?_)|fail)
 refine WX.bZ (σ:=Nat) (fun j=>[(2,.one (.int .i64 qp)),(3,.one (.bool intra)),(4,.one (.ptr 0 0)),(5,.one (.ptr 1 0)),(8,.one (.ptr 2 0)),(9,.one (.ptr 3 0)),(12,.agg (ti .i64 64 c)),(13,.one (.int .i64 (j:Nat)))]) (fun j=>[.cells (bG h) 24 false false,.cells (ti .i64 64 c) 65 false false,.cells (ti .i64 64 fun _=>0) 65 false false,.cells (ti .i64 64 (iz g (fun _=>0) j)) 65 false false]) (fun j=>j<=64) (fun j=>64-j) 0 (by omega) (fun s _=>hX) (b_ [0,1,2,3] (obj:=by(repeat' (first|exact ae.nil|refine ae.flat (by rw[fI];rfl) ?_|refine ae.flat rfl ?_|refine ae.cons rfl ?_|refine ae.dead rfl ?_|refine ae.cons (by simp only[ah.ax,List.map_cons,List.map_nil,XC.ax,aB];exact rfl) ?_));first|done|fail)) ?_
 intro j hj ih
 by_cases hlt:j<64
 ·have hn:=fH g (fun _=>0) j
  have hs:=kC hr qp hlt intra
  have hcj:=hc (j:Int).toNat (by omega)
  repeat' (first
   |(refine qz ?_;first
    |refine El ?_
    |refine fV ?_ (hle:=by rw[cW])
    |refine cl ?_ (hi:=by exact oA hr hlt rfl rfl)
    |refine cl ?_ (hi:=by exact E7 (r:=g j) hcj (by omega) (by rw[<-hg];rfl) rfl))
   |refine zz ?_|refine zx (fun _=>?_) (fun _=>?_)|fail)
  refine ih (j+1) _ _ _ (b_ [0,1,2,3] (obj:=by(repeat' (first|exact ae.nil|refine ae.flat (by rw[<-hn];rfl) ?_|refine ae.flat rfl ?_|refine ae.cons rfl ?_|refine ae.dead rfl ?_|refine ae.cons (by simp only[ah.ax,List.map_cons,List.map_nil,XC.ax,aB];exact rfl) ?_));first|done|fail)) (by omega) (by omega)
 ·obtain rfl:j=64:=by omega
  have hm:ti .i64 64 (iz g (fun _=>0) 64)=ti .i64 64 g:=bJ fun i hi=>by simp[iz,hi]
  cases intra with
  | true=>
    have e:gM g 0 (oe (c 0) qp)=jh h c qp true:=LH (by unfold jh;rw[if_pos ⟨rfl,rfl⟩]) (fun i hi=>by unfold jh;rw[if_neg (fun k=>hi k.1),<-hg])
    have e2:ti .i64 64 (gM (iz g (fun _=>0) 64) 0 (oe (c 0) qp))=ti .i64 64 (jh h c qp true):=by rw[<-e];exact bJ fun i hi=>by unfold gM iz;rw[if_pos hi]
    repeat' (first
     |(refine qz ?_;first
      |refine cl ?_ (hi:=by exact D9 rfl rfl))
     |refine zz ?_|refine zx (fun _=>?_) (fun _=>?_)|fail)
    show aD _ _ _ _ _ _ _ _;refine kV [] ?_
    rw[<-e2];rfl
  | false=>
    have e:g=jh h c qp false:=by funext i;unfold jh;rw[if_neg (fun k=>by cases k.2),<-hg]
    repeat' (first|refine zz ?_|refine zx (fun _=>?_) (fun _=>?_)|fail)
    show aD _ _ _ _ _ _ _ _;refine kV [] ?_
    rw[<-e,<-hm];rfl
theorem Hz{h:Hd}(hr:b7 h){c:Nat->Int}(hc:∀i,i<64 -> -2047<=c i/\c i<=2047){qp:Int}{intra:Bool}{g:Nat->Int}(hg:jh h c qp intra=g){HS:ai}(hb:Nat.blt HS.length Mem.bound=true):aC.Sound Tryz.prog ⟨107,[.agg (bG h),.agg (ti .i64 64 c),.one (.int .i64 qp),.one (.bool intra)],HS,.agg (ti .i64 64 g),HS,[]⟩:=by
 subst hg
 exact au (E_ hr hc qp intra) (by simp only[List.all_cons,List.all_nil,Bool.and_true,XV.shut];rw[el,uY];rfl) (uY .i64 64 _) hb
theorem E9{h:Hd}(hr:b7 h){c:Nat->Int}(hc:∀i,i<64 -> -2047<=c i/\c i<=2047){qp:Int}{intra:Bool}{g:Nat->Int}(hg:tr (jh h c qp intra)=g){HS:ai}(hb:Nat.blt HS.length Mem.bound=true):aC.Sound Tryz.prog ⟨107,[.agg (bG h),.agg (ti .i64 64 c),.one (.int .i64 qp),.one (.bool intra)],HS,.agg (ti .i64 64 g),HS,[]⟩:=by
 subst hg
 rw[LF]
 exact Hz hr hc rfl hb
def Cs(h:Hd)(m:Mb)(a:Bool)(k:Nat):Nat->Int:=uy (tr (jh h (fun i=>m.lev (64*k+i)) m.qp a))
def vI(C R:Nat)(F:Fr)(mb:Nat)(m:Mb)(down:Bool)(n:Nat):Int:=if alone m=true then 0 else E3 C R F mb m.v down n
def gD(h:Hd)(C R:Nat)(F:Fr)(mb:Nat)(m:Mb)(down:Bool)(n:Nat):Int:=if m.kind=0 then vI C R F mb m down n else vI C R F mb m down n+Cs h m (alone m) (n/64) (n%64)
structure Im(m:Mb):Prop where
 kind:0<=m.kind/\m.kind<=255
 v:mX m.v
 lev:∀i,i<384 -> -2047<=m.lev i/\m.lev i<=2047
theorem w7{h:Hd}(hr:b7 h){m:Mb}(hm:Im m)(a:Bool){k:Nat}(hk:k<6)(i:Nat) : -134200000<=tr (jh h (fun i=>m.lev (64*k+i)) m.qp a) i/\tr (jh h (fun i=>m.lev (64*k+i)) m.qp a) i<=134200000:=
 J8 (by omega) (fun i hi=>Ci hr (fun j hj=>hm.lev _ (by omega)) m.qp a i hi) i
theorem Fg{h:Hd}(hr:b7 h){m:Mb}(hm:Im m)(a:Bool){k:Nat}(hk:k<6)(n:Nat) : -134200001<=Cs h m a k n/\Cs h m a k n<=134200001:=by
 have:=Ek (N:=134200000) (by omega) (w7 hr hm a hk) n
 unfold Cs
 omega
theorem Dy{C R:Nat}{F:Fr}(hF:oV F)(mb:Nat)(m:Mb)(down:Bool)(n:Nat):0<=vI C R F mb m down n/\vI C R F mb m down n<=255:=by
 unfold vI
 split
 ·omega
 ·exact Ha (hF.pl _) _ _ _ _ _ _
theorem BT{h:Hd}(hr:b7 h){C R:Nat}(hC:1<=C/\C<=8)(hR:1<=R/\R<=8){F:Fr}(hF:oV F){mb:Nat}(hmb:mb<=100){m:Mb}(hm:Im m)(down:Bool):aW Tryz.prog 81 [.agg (bG h),.one (.bool down),.agg (dQ C R 0 1 2),.one (.int .i64 (mb:Nat)),.agg (mC m)] [yO C R F,uO C R F,vO C R F] (.agg (ti .i64 384 (gD h C R F mb m down))) [yO C R F,uO C R F,vO C R F]:=by
 obtain⟨a,ha⟩:∃a,alone m=a:=⟨_,rfl⟩
 obtain⟨B,hB⟩:∃B,vI C R F mb m down=B:=⟨_,rfl⟩
 have hBr:∀n,0<=B n/\B n<=255:=by rw[<-hB];exact Dy hF mb m down
 have hk0:=hm.kind
 have c0:(mC m)[0]? = some (.int .u8 m.kind):=rfl
 have c1:(mC m)[1]? = some (.int .i64 m.qp):=rfl
 have cv:((mC m).drop 2).take 4=vt m.v:=rfl
 obtain⟨G,hG⟩:∃G:Nat->Int,(fun n=>B n+Cs h m a (n/64) (n%64))=G:=⟨_,rfl⟩
 have tail:m.kind≠0->ti .i64 384 (iz G B 384)=ti .i64 384 (gD h C R F mb m down):=fun hk=>bJ fun i hi=>by
  unfold gD iz
  rw[if_pos hi,if_neg hk,hB,ha,<-hG]
 have hk1:m.kind=0->a=false:=fun hk=>by rw[<-ha];unfold alone;exact decide_eq_false (by omega)
 have tz:m.kind=0->ti .i64 384 B=ti .i64 384 (gD h C R F mb m down):=fun hk=>bJ fun i hi=>by
  unfold gD;rw[if_pos hk,hB]
 refine cO Tryz.func81 ?_
 repeat' (first|refine WX.EF 2 (σ:=Unit) (fun _=>[(5,.one (.ptr 3 0)),(9,.one (.ptr 4 0)),(10,.one (.ptr 5 0)),(11,.one (.ptr 6 0))]) (fun _=>[yO C R F,uO C R F,vO C R F,.cells (bG h) 24 false false,.cells (mC m) 68 false false,.cells (ti .i64 384 fun _=>0) 66 false false,.cells (ti .i64 384 B) 66 false false]) (fun _=>True) (fun _ _=>hX) ?_ (fun _ _=>?_)|refine zz ?_|refine zx (fun _=>?_) (fun _=>?_)|fail)
 ·cases a with
  | true=>
    have hz:B=fun _=>0:=by rw[<-hB];funext n;unfold vI;rw[if_pos ha]
    rw[hz]
    repeat' (first
     |(refine qz ?_;first
      |refine cl ?_ (hi:=by exact dP ha rfl))
     |refine zz ?_|refine zx (fun _=>?_) (fun _=>?_)|fail)
    exact⟨rfl,(),_,trivial,(b_ [0,1,2,3,5,6,7])⟩
  | false=>
    have hz:E3 C R F mb m.v down=B:=by rw[<-hB];funext n;unfold vI;rw[if_neg (by rw[ha];decide)]
    repeat' (first
     |(refine qz ?_;first
      |refine cl ?_ (hi:=by exact dP ha rfl)
      |refine mU (cs:=vt m.v) ?_ (hle:=by rw[aQ];decide) (hc:=cv)
      |refine cl ?_ (hi:=by exact yV hC hR hF hmb hm.v hz rfl rfl rfl (by decide) rfl)
      |refine lO (cs:=ti .i64 384 B) ?_ (hs1:=by rw[aL]) (hs2:=by rw[aL]))
     |refine zz ?_|refine zx (fun _=>?_) (fun _=>?_)|fail)
    exact⟨(),_,trivial,(b_ [0,1,2,3,5,6,7])⟩
 ·rename_i hk
  rw[<-tz hk]
  repeat' (first|refine zz ?_|refine zx (fun _=>?_) (fun _=>?_)|fail)
  show aD _ _ _ _ _ _ _ _;refine kV [0,1,2] ?_
  rfl
 ·rename_i hk
  rw[<-tail hk]
  repeat' (first|refine zz ?_|refine zx (fun _=>?_) (fun _=>?_)|fail)
  refine WX.bZ (σ:=Nat) (fun k=>[(5,.one (.ptr 3 0)),(9,.one (.ptr 4 0)),(10,.one (.ptr 5 0)),(11,.one (.ptr 6 0)),(29,.one (.int .i64 (k:Nat)))]) (fun k=>[yO C R F,uO C R F,vO C R F,.cells (bG h) 24 false false,.cells (mC m) 68 false false,.cells (ti .i64 384 fun _=>0) 66 false false,.cells (ti .i64 384 (iz G B (64*k))) 66 false false]) (fun k=>k<=6) (fun k=>6-k) 0 (by omega) (fun s _=>hX) (b_ [0,1,2,3,4,5,6] (obj:=by(repeat' (first|exact ae.nil|refine ae.flat (by rw[show iz G B (64*0)=B from fI G B];rfl) ?_|refine ae.flat rfl ?_|refine ae.cons rfl ?_|refine ae.dead rfl ?_|refine ae.cons (by simp only[ah.ax,List.map_cons,List.map_nil,XC.ax,aB];exact rfl) ?_));first|done|fail)) ?_
  intro k hk6 ih
  by_cases h6:k<6
  ·obtain⟨r,hrf⟩:∃r,Cs h m a k=r:=⟨_,rfl⟩
   have hrr:∀i,-134200001<=r i/\r i<=134200001:=by rw[<-hrf];exact Fg hr hm a h6
   have hwin:((mC m).drop (7+k*64)).take 64=ti .i64 64 fun i=>m.lev (64*k+i):=by
    rw[ED m (by omega) (by omega)]
    exact bJ fun i hi=>congrArg m.lev (by omega)
   repeat' (first
    |(refine qz ?_;first
     |refine mU (cs:=ti .i64 64 fun i=>m.lev (64*k+i)) ?_ (hle:=by rw[aQ];omega) (hc:=hwin)
     |refine ld (hc:=c1) ?_
     |refine fV ?_ (hle:=by first|rw[cW]|rw[aQ])
     |refine cl ?_ (hi:=by exact dP ha rfl)
     |refine cl ?_ (hi:=by exact E9 hr (fun i hi=>hm.lev _ (by omega)) rfl rfl)
     |refine cl ?_ (hi:=by exact Jg (w7 hr hm a h6) (by omega) hrf rfl))
    |refine Gr (id:=9) [11] ?_|refine zz ?_|refine zx (fun _=>?_) (fun _=>?_)|fail)
   refine WX.bZ (σ:=Nat) (fun j=>[(5,.one (.ptr 3 0)),(9,.one (.ptr 4 0)),(10,.one (.ptr 5 0)),(11,.one (.ptr 6 0)),(12,.one (.int .i64 (k:Nat))),(29,.one (.int .i64 (k:Nat))),(43,.agg (ti .i64 64 r)),(44,.one (.int .i64 (j:Nat)))]) (fun j=>[yO C R F,uO C R F,vO C R F,.cells (bG h) 24 false false,.cells (mC m) 68 false false,.cells (ti .i64 384 fun _=>0) 66 false false,.cells (ti .i64 384 (iz G B (64*k+j))) 66 false false]) (fun j=>j<=64) (fun j=>64-j) 0 (by omega) (fun s _=>hX) (b_ [0,1,2,3,4,5,6]) ?_
   intro j hj ih2
   by_cases h8:j<64
   ·have hrj:=hrr (j:Int).toNat
    have hmm:iz G B (64*k+j) (k*64+j)=B (64*k+j):=by rw[show k*64+j=64*k+j by omega];exact if_neg (Nat.lt_irrefl _)
    have hmr:0<=iz G B (64*k+j) (k*64+j)/\iz G B (64*k+j) (k*64+j)<=255:=by rw[hmm];exact hBr _
    have hn:gM (iz G B (64*k+j)) (k*64+j) (iz G B (64*k+j) (k*64+j)+r j)=iz G B (64*k+(j+1)):=by
     rw[hmm,show k*64+j=64*k+j by omega,show B (64*k+j)+r j=G (64*k+j) by rw[<-hG];dsimp only;rw[show(64*k+j)/64=k by omega,show(64*k+j)%64=j by omega,hrf]]
     exact fH G B (64*k+j)
    repeat' (first
     |(refine qz ?_;first
      |refine El ?_)
     |refine zz ?_|refine zx (fun _=>?_) (fun _=>?_)|fail)
    refine ih2 (j+1) _ _ _ (b_ [0,1,2,3,4,5,6] (obj:=by(repeat' (first|exact ae.nil|refine ae.flat (by rw[<-hn];rfl) ?_|refine ae.flat rfl ?_|refine ae.cons rfl ?_|refine ae.dead rfl ?_|refine ae.cons (by simp only[ah.ax,List.map_cons,List.map_nil,XC.ax,aB];exact rfl) ?_));first|done|fail)) (by omega) (by omega)
   ·obtain rfl:j=64:=by omega
    repeat' (first|refine zz ?_|refine zx (fun _=>?_) (fun _=>?_)|fail)
    refine ih (k+1) _ _ _ (b_ [0,1,2,3,4,5,6]) (by omega) (by omega)
  ·obtain rfl:k=6:=by omega
   repeat' (first|refine zz ?_|refine zx (fun _=>?_) (fun _=>?_)|fail)
   show aD _ _ _ _ _ _ _ _;refine kV [0,1,2] ?_
   rfl
theorem EE{h:Hd}(hr:b7 h){C R:Nat}(hC:1<=C/\C<=8)(hR:1<=R/\R<=8){F:Fr}(hF:oV F){mb:Nat}(hmb:mb<=100){m:Mb}(hm:Im m){down:Bool}{g:Nat->Int}(hg:gD h C R F mb m down=g){HS:ai}{a b c:Nat}(ha:HS[a]? = some (yO C R F))(hb:HS[b]? = some (uO C R F))(hc:HS[c]? = some (vO C R F))(nd : [a,b,c].Nodup)(hbd:Nat.blt HS.length Mem.bound=true) :
 aC.Sound Tryz.prog ⟨81,[.agg (bG h),.one (.bool down),.agg (dQ C R a b c),.one (.int .i64 (mb:Nat)),.agg (mC m)],HS,.agg (ti .i64 384 g),HS,[]⟩:=by
 subst hg
 exact eE [a,b,c] (BT hr hC hR hF hmb hm down) nd (.flat ha (.flat hb (.flat hc .nil))) (.flat (.flat (.flat .nil))) (.flat (.flat (.cons (bI (e:=0) (a:=true) (b:=true) (by show 0<3;omega) (by show 1<3;omega) (by show 2<3;omega)) (.flat (.flat .nil))))) (.flat (.flat (.cons rfl (.flat (.flat .nil))))) (bh.ok _) (bh.ax _) hbd rfl
def Fr.set(F:Fr)(k:Nat)(p:Nat->Int):Fr:=if k<4 then {F with y:=p}else if k=4 then {F with u:=p}else {F with v:=p}
def Lo(C R mb:Nat)(g:Nat->Int)(F:Fr)(k:Nat):Fr:=F.set k (uM (qh k*C) (qh k*R) (F.pl k) (Db C mb k) (Dc C mb k) (fun i=>g (k*64+i)) 64)
def gE(C R mb:Nat)(g:Nat->Int)(F:Fr):Nat->Fr
 | 0=>F
 | k+1=>Lo C R mb g (gE C R mb g F k) k
theorem oV.set{F:Fr}(h:oV F)(k:Nat){p:Nat->Int}(hp:jy p):oV (F.set k p):=by
 unfold Fr.set
 split
 ·exact⟨hp,h.u,h.v⟩
 ·split
  ·exact⟨h.y,hp,h.v⟩
  ·exact⟨h.y,h.u,hp⟩
theorem Ff{h:Hd}(hr:b7 h){C R:Nat}(hC:1<=C/\C<=8)(hR:1<=R/\R<=8){W:Fr}(hW:oV W){F:Fr}{mb:Nat}(hmb:mb<C*R){m:Mb}(hm:Im m)(down:Bool):aW Tryz.prog 58 [.agg (bG h),.one (.bool down),.agg (dQ C R 0 1 2),.agg (dQ C R 3 4 5),.one (.int .i64 (mb:Nat)),.agg (mC m)] [yO C R W,uO C R W,vO C R W,yO C R F,uO C R F,vO C R F] (.one (.int .i64 0)) [yO C R W,uO C R W,vO C R W,yO C R (gE C R mb (gD h C R W mb m down) F 6),uO C R (gE C R mb (gD h C R W mb m down) F 6),vO C R (gE C R mb (gD h C R W mb m down) F 6)]:=by
 have hm1:C*R<=8*8:=Nat.mul_le_mul hC.2 hR.2
 have hm2:(C:Int)*(R:Int)=(C*R:Nat):=(Int.natCast_mul ..).symm
 have hm3:(mb:Int)<(C:Int)*(R:Int)/\(C:Int)*(R:Int)<=64:=by omega
 obtain⟨a,ha⟩:∃a,alone m=a:=⟨_,rfl⟩
 obtain⟨g,hg⟩:∃g,gD h C R W mb m down=g:=⟨_,rfl⟩
 rw[hg]
 refine cO Tryz.func58 ?_
 repeat' (first|refine WX.Iy 0 (σ:=Unit) (fun _=>[(1,.one (.bool down)),(4,.one (.int .i64 (mb:Nat))),(6,.one (.ptr 6 0)),(8,.one (.ptr 7 0)),(9,.one (.ptr 8 0)),(11,.one (.ptr 9 0)),(12,.one (.int .i64 0))]) (fun _=>[yO C R W,uO C R W,vO C R W,yO C R F,uO C R F,vO C R F,.cells (bG h) 24 false false,.cells (dQ C R 0 1 2) 44 false false,.cells (dQ C R 3 4 5) 44 false false,.cells (mC m) 68 false false]) (fun _=>True) (fun _ _=>(hX (objs:=by repeat' (first|exact ay.nil|refine ay.cons (bI (by show 0<10;omega) (by show 1<10;omega) (by show 2<10;omega)) ?_|refine ay.cons (bI (by show 3<10;omega) (by show 4<10;omega) (by show 5<10;omega)) ?_|refine ay.flat ?_|refine ay.cons (by first|(simp[ah.bl,XC.ok,aE];done)|simp[ah.bl,XC.ok,aE, *]) ?_)))) ?_ (fun _ _=>?_)|refine zz ?_|refine zx (fun _=>?_) (fun _=>?_)|fail)
 ·cases a with
  | true=>
    repeat' (first
     |(refine qz ?_;first
      |refine fV ?_ (hle:=by first|rw[fP]|rw[aQ])
      |refine cl ?_ (hi:=by exact ki hC hR rfl rfl rfl (by decide) rfl)
      |refine cl ?_ (hi:=by exact dP ha rfl))
     |refine zz ?_|refine zx (fun _=>?_) (fun _=>?_)|fail)
    all_goals exact⟨rfl,(),_,trivial,(b_ [0,1,2,3,4,5,6,7,8,9])⟩
  | false=>
    repeat' (first
     |(refine qz ?_;first
      |refine fV ?_ (hle:=by first|rw[fP]|rw[aQ])
      |refine cl ?_ (hi:=by exact ki hC hR rfl rfl rfl (by decide) rfl)
      |refine cl ?_ (hi:=by exact dP ha rfl))
     |refine zz ?_|refine zx (fun _=>?_) (fun _=>?_)|fail)
    all_goals exact⟨rfl,(),_,trivial,(b_ [0,1,2,3,4,5,6,7,8,9])⟩
 ·repeat' (first
   |(refine qz ?_;first
    |refine fV ?_ (hle:=by first|rw[cW]|rw[aQ]|rw[fP])
    |refine cl ?_ (hi:=by exact EE hr hC hR hW (by omega) hm hg rfl rfl rfl (by decide) rfl))
   |refine zz ?_|refine zx (fun _=>?_) (fun _=>?_)|fail)
  refine WX.bZ (σ:=Nat) (fun k=>[(4,.one (.int .i64 (mb:Nat))),(9,.one (.ptr 6 0)),(63,.agg (ti .i64 384 g)),(64,.one (.int .i64 (k:Nat)))]) (fun k=>[yO C R W,uO C R W,vO C R W,yO C R (gE C R mb g F k),uO C R (gE C R mb g F k),vO C R (gE C R mb g F k),.cells (dQ C R 3 4 5) 44 false false]) (fun k=>k<=6) (fun k=>6-k) 0 (by omega) (fun s _=>(hX (objs:=by repeat' (first|exact ay.nil|refine ay.cons (bI (by show 3<7;omega) (by show 4<7;omega) (by show 5<7;omega)) ?_|refine ay.flat ?_|refine ay.cons (by first|(simp[ah.bl,XC.ok,aE];done)|simp[ah.bl,XC.ok,aE, *]) ?_)))) (b_ [0,1,2,3,4,5,8]) ?_
  intro k hk ih
  by_cases h6:k<6
  ·have ih1:=ih (k+1)
   have hf:=uv hC (mb:=mb) (k:=k) (by omega)
   obtain⟨E,hE⟩:∃E,gE C R mb g F k=E:=⟨_,rfl⟩
   obtain⟨p,hp⟩:∃p,uM (qh k*C) (qh k*R) (E.pl k) (Db C mb k) (Dc C mb k) (fun i=>g (k*64+i)) 64=p:=⟨_,rfl⟩
   have hs:gE C R mb g F (k+1)=E.set k p:=by rw[gE,hE,Lo,hp]
   rw[hE]
   rw[hs]at ih1
   have hc:k=0\/k=1\/k=2\/k=3\/k=4\/k=5:=by omega
   rcases hc with rfl|rfl|rfl|rfl|rfl|rfl
   all_goals
    repeat' (first
     |(refine qz ?_;first
      |refine uz ?_
      |refine fV ?_ (hle:=by first|rw[fP]|rw[aL])
      |refine cl ?_ (hi:=by exact qA hC (by omega) (by omega) rfl rfl rfl rfl rfl (by decide) rfl)
      |refine cl ?_ (hi:=by exact E0 (Hu hC hR _) (by omega) (by omega) hp rfl nA rfl))
     |refine zz ?_|refine zx (fun _=>?_) (fun _=>?_)|fail)
    refine ih1 _ _ _ (b_ [0,1,2,3,4,5,6]) (by omega) (by omega)
  ·obtain rfl:k=6:=by omega
   repeat' (first|refine zz ?_|refine zx (fun _=>?_) (fun _=>?_)|fail)
   show aD _ _ _ _ _ _ _ _;refine kV [0,1,2,3,4,5] ?_
   rfl
theorem HE{h:Hd}(hr:b7 h){C R:Nat}(hC:1<=C/\C<=8)(hR:1<=R/\R<=8){W:Fr}(hW:oV W){F G:Fr}{mb:Nat}(hmb:mb<C*R){m:Mb}(hm:Im m){down:Bool}(hG:gE C R mb (gD h C R W mb m down) F 6=G){HS:ai}{a b c d e f:Nat}(h1:HS[a]? = some (yO C R W))(h2:HS[b]? = some (uO C R W))(h3:HS[c]? = some (vO C R W))(h4:HS[d]? = some (yO C R F))(h5:HS[e]? = some (uO C R F))(h6:HS[f]? = some (vO C R F))(nd : [a,b,c,d,e,f].Nodup){HS':ai}(hh:bQ HS [a,b,c,d,e,f] [yO C R W,uO C R W,vO C R W,yO C R G,uO C R G,vO C R G]=HS')(hbd:Nat.blt HS'.length Mem.bound=true) :
 aC.Sound Tryz.prog ⟨58,[.agg (bG h),.one (.bool down),.agg (dQ C R a b c),.agg (dQ C R d e f),.one (.int .i64 (mb:Nat)),.agg (mC m)],HS,.one (.int .i64 0),HS',[a,b,c,d,e,f]⟩:=by
 subst hG
 exact ca (os:=[yO C R W,uO C R W,vO C R W,yO C R (gE C R mb (gD h C R W mb m down) F 6),uO C R (gE C R mb (gD h C R W mb m down) F 6),vO C R (gE C R mb (gD h C R W mb m down) F 6)]) [a,b,c,d,e,f] [a,b,c,d,e,f] 0 (Ff hr hC hR hW hmb hm down) nd (.flat h1 (.flat h2 (.flat h3 (.flat h4 (.flat h5 (.flat h6 .nil)))))) (.flat (.flat (.flat (.flat (.flat (.flat .nil)))))) (.flat (.flat (.flat (.flat (.flat (.flat .nil)))))) rfl (.flat (.flat (.cons (bI (e:=0) (a:=true) (b:=true) (by show 0<6;omega) (by show 1<6;omega) (by show 2<6;omega)) (.cons (bI (e:=0) (a:=true) (b:=true) (by show 3<6;omega) (by show 4<6;omega) (by show 5<6;omega)) (.flat (.flat .nil)))))) (.flat (.flat (.cons rfl (.cons rfl (.flat (.flat .nil)))))) (by trivial) (bh.ax _) (.flat (.flat (.flat (.flat (.flat (.flat .nil)))))) rfl rfl hh hbd (.inl rfl)
abbrev gn(K:Nat):ai:=[cK (K+1) (K+5) (K+9),aI (K+2) (K+3) (K+4) cM,bz cM,bC cM,bB cM,aI (K+6) (K+7) (K+8) cZ,bz cZ,bC cZ,bB cZ,aI (K+10) (K+11) (K+12) cP,bz cP,bC cP,bB cP]
abbrev rA(K:Nat)(r:List Nat):List Nat:=K::(K+1)::(K+2)::(K+3)::(K+4)::(K+5)::(K+6)::(K+7)::(K+8)::(K+9)::(K+10)::(K+11)::(K+12)::r
theorem wJ(K:Nat)(r:List Nat):∀j,j<13->nth (rA K r) j=K+j:=fun j hj=>by
 match j,hj with
 | 0,_=>rfl
 | 1,_=>rfl
 | 2,_=>rfl
 | 3,_=>rfl
 | 4,_=>rfl
 | 5,_=>rfl
 | 6,_=>rfl
 | 7,_=>rfl
 | 8,_=>rfl
 | 9,_=>rfl
 | 10,_=>rfl
 | 11,_=>rfl
 | 12,_=>rfl
theorem Ag{HS:ai}{K:Nat}(hS:(HS.drop K).take 13=gn K){τ : Nat->Nat}(h:∀j,j<13 -> τ j=K+j){ls:List Nat}{l:ai}(hl:ae τ HS ls l):ae τ HS (rA K ls) (fe++l):=by
 have g:∀j,j<13->HS[K+j]? = (gn K)[j]?:=fun j hj=>by rw[<-hS,List.getElem?_take_of_lt hj,List.getElem?_drop]
 have g0:HS[K]? = some (cK (K+1) (K+5) (K+9)):=g 0 (by decide)
 have h1:=h 1 (by decide)
 have h2:=h 2 (by decide)
 have h3:=h 3 (by decide)
 have h4:=h 4 (by decide)
 have h5:=h 5 (by decide)
 have h6:=h 6 (by decide)
 have h7:=h 7 (by decide)
 have h8:=h 8 (by decide)
 have h9:=h 9 (by decide)
 have h10:=h 10 (by decide)
 have h11:=h 11 (by decide)
 have h12:=h 12 (by decide)
 refine .cons ?_ (.cons ?_ (.flat (g 2 (by decide)) (.flat (g 3 (by decide)) (.flat (g 4 (by decide)) (.cons ?_ (.flat (g 6 (by decide)) (.flat (g 7 (by decide)) (.flat (g 8 (by decide)) (.cons ?_ (.flat (g 10 (by decide)) (.flat (g 11 (by decide)) (.flat (g 12 (by decide)) hl))))))))))))
 ·rw[g0]
  simp only[ah.ax,List.map_cons,List.map_nil,XC.ax,h1,h5,h9]
 ·rw[g 1 (by decide)]
  simp only[ah.ax,List.map_cons,List.map_nil,XC.ax,h2,h3,h4];rfl
 ·rw[g 5 (by decide)]
  simp only[ah.ax,List.map_cons,List.map_nil,XC.ax,h6,h7,h8];rfl
 ·rw[g 9 (by decide)]
  simp only[ah.ax,List.map_cons,List.map_nil,XC.ax,h10,h11,h12];rfl
theorem uA{K:Nat}{τ : Nat->Nat}(h:∀j,j<13 -> τ j=K+j){l l':ai}(hl:dC τ l l'):dC τ (fe++l) (gn K++l'):=by
 have h1:=h 1 (by decide)
 have h2:=h 2 (by decide)
 have h3:=h 3 (by decide)
 have h4:=h 4 (by decide)
 have h5:=h 5 (by decide)
 have h6:=h 6 (by decide)
 have h7:=h 7 (by decide)
 have h8:=h 8 (by decide)
 have h9:=h 9 (by decide)
 have h10:=h 10 (by decide)
 have h11:=h 11 (by decide)
 have h12:=h 12 (by decide)
 refine .cons ?_ (.cons ?_ (.flat (.flat (.flat (.cons ?_ (.flat (.flat (.flat (.cons ?_ (.flat (.flat (.flat hl))))))))))))
 ·simp only[ah.ax,List.map_cons,List.map_nil,XC.ax,h1,h5,h9]
 ·simp only[ah.ax,List.map_cons,List.map_nil,XC.ax,h2,h3,h4]
 ·simp only[ah.ax,List.map_cons,List.map_nil,XC.ax,h6,h7,h8]
 ·simp only[ah.ax,List.map_cons,List.map_nil,XC.ax,h10,h11,h12]
theorem En{HS:ai}{K i:Nat}(hS:(HS.drop K).take 13=gn K){ob:ah}(hi:HS[i]? = some ob){os:ai}:bQ HS (rA K [i]) (gn K++ob::os)=HS++os:=by
 have g:∀j,j<13->HS[K+j]? = (gn K)[j]?:=fun j hj=>by rw[<-hS,List.getElem?_take_of_lt hj,List.getElem?_drop]
 have g0:HS[K]? = some (cK (K+1) (K+5) (K+9)):=g 0 (by decide)
 simp only[bQ,gn,List.cons_append,List.nil_append]
 rw[aV g0,aV (g 1 (by decide)),aV (g 2 (by decide)),aV (g 3 (by decide)),aV (g 4 (by decide)),aV (g 5 (by decide)),aV (g 6 (by decide)),aV (g 7 (by decide)),aV (g 8 (by decide)),aV (g 9 (by decide)),aV (g 10 (by decide)),aV (g 11 (by decide)),aV (g 12 (by decide)),aV hi]
theorem Ax:∀(h1 l l':ai),eV h1 h1=true->eV l l'=true->eV (h1++l) (h1++l')=true
 | [],l,l',_,h=>h
 | o::h1,l,l',h,h2=>by
   simp only[eV,Bool.and_eq_true,List.cons_append]at h ⊢
   exact⟨h.1,Ax h1 l l' h.2 h2⟩
theorem wo{f:FuncId}{args0 args:List XV}{v v':XV}{news news':ai}{ob:ah}[aR ob](n:Nat)(hn:news.length=n)(hc:aW Tryz.prog f args0 (fe++[ob]) v (fe++ob::news)){HS:ai}{K i:Nat}(hS:(HS.drop K).take 13=gn K)(hi:HS[i]? = some ob)(hd:(rA K [i]).Nodup)(ha:gj 14 args0)(e1:eD (nth (rA K [i])) args0 args)(hv:v.bl (14+n))(e2:v.ax (nth (rA K [i]++List.range' HS.length n))=v')
 (hnk:ay (14+n) news) (hr:dC (nth (rA K [i]++List.range' HS.length n)) news news') (hro:eV [] news=true) {HS':ai}(hh:HS++news'=HS') (hbd:Nat.blt HS'.length Mem.bound=true):aC.Sound Tryz.prog ⟨f,args,HS,v',HS',rA K [i]⟩:=by
 have e0:∀j,j<13->nth (rA K [i]) j=K+j:=wJ K [i]
 have e0':∀j,j<13->nth (rA K [i]++List.range' HS.length n) j=K+j:=wJ K (i::List.range' HS.length n)
 have hln:(fe++ob::news).length=14+n:=by rw[List.length_append];show 13+(news.length+1)=_;omega
 refine ca (os:=gn K++ob::news') (rA K [i]) (rA K [i]) n hc hd (Ag hS e0 (.flat hi .nil)) (nD (l:=[ob]) (Nat.le_succ 13) (.flat .nil)) (by rw[hln];exact nD (l:=ob::news) (by omega) (.flat hnk)) (by rw[hln];rfl) ha e1 (by rw[hln];exact hv) e2 (uA e0' (.flat hr)) ?_ rfl (by rw[En hS hi];exact hh) hbd (.inl rfl)
 refine Ax _ _ _ rfl ?_
 simp only[eV,Bool.and_eq_true]
 exact⟨by cases ob.live<;>simp,hro⟩
theorem Jr{HS:ai}{N:Nat}(hN:HS.length=N){HS':ai}(hh:HS++gn N=HS')(hbd:Nat.blt HS'.length Mem.bound=true) :
 aC.Sound Tryz.prog ⟨32,[],HS,.one (.ptr N 0),HS',[]⟩:=by
 subst hN
 have e:List.range' HS.length 13=rA HS.length []:=rfl
 have h:=uA (K:=HS.length) (τ:=nth (rA HS.length [])) (wJ _ []) (l:=[]) (l':=[]) .nil
 refine ca (os:=gn HS.length) [] [] 13 Hq (by simp) .nil .nil (nD (l:=[]) (Nat.le_refl _) .nil) rfl .nil .nil (by show 0<13;omega) rfl (by rw[List.nil_append,e];exact h) rfl rfl hh hbd (.inl rfl)
noncomputable def qi(h:Hd)(p:Ph)(l:List Mb)(first:Int):Int ⊕ (List Int×List Int):=
 match jg l first (yW h p) l.length with
 | .inl e => .inl e
 | .inr x=>if 30000<(gr (wr (x.B++[true])) (wr (x.B++[true])).length).1.length\/30000<(gr (wr (x.w++[true])) (wr (x.w++[true])).length).1.length then .inl 6 else .inr ((gr (wr (x.B++[true])) (wr (x.B++[true])).length).1,(gr (wr (x.w++[true])) (wr (x.w++[true])).length).1)
theorem L4{h:Hd}{p:Ph}{l:List Mb}{first:Int}(hT:fS h p l first){cap:vy}{ob:ah}(ho:A1 ob mC l){e:Int}(hp:qi h p l first = .inl e){n:Nat}(hln:l.length=n){HS:ai}{K i:Nat}(hS:(HS.drop K).take 13=gn K)(hi:HS[i]? = some ob)(hd:(rA K [i]).Nodup)(hbd:Nat.blt HS.length Mem.bound=true) :
 aC.Sound Tryz.prog ⟨59,[.one (.ptr K 0),.agg (j5 h),.agg (uL p),.one (.int .i64 first),.one (.slice i 0 n cap)],HS,.tup [.one .nils,.one .nils,.one (.int .i64 e)],HS,rA K [i]⟩:=by
 subst hln
 have hfo:=ho.flat
 have hc:aW Tryz.prog 59 [.one (.ptr 0 0),.agg (j5 h),.agg (uL p),.one (.int .i64 first),.one (.slice 13 0 l.length cap)] (fe++[ob]) (.tup [.one .nils,.one .nils,.one (.int .i64 e)]) (fe++ob::[]):=by
  unfold qi at hp
  split at hp
  ·rename_i e' he
   cases hp
   exact DS hT ho he
  ·rename_i x hx
   split at hp
   ·rename_i hl
    cases hp
    exact DQ hT ho hx rfl rfl hl
   ·cases hp
 exact wo 0 rfl hc hS hi hd (.cons (by show 0<14;omega) (.flat (.flat (.flat (.cons (by show 13<14;omega) .nil))))) (.cons rfl (.flat (.flat (.flat (.cons rfl .nil))))) (XV.dS rfl _) rfl .nil .nil rfl (List.append_nil HS) hbd
theorem Hx{h:Hd}{p:Ph}{l:List Mb}{first:Int}(hT:fS h p l first){cap:vy}{ob:ah}(ho:A1 ob mC l){a b:List Int}(hp:qi h p l first = .inr (a,b)){n:Nat}(hln:l.length=n){HS:ai}{K i:Nat}(hS:(HS.drop K).take 13=gn K)(hi:HS[i]? = some ob)(hd:(rA K [i]).Nodup){N:Nat}(hN:HS.length=N){HS':ai}(hh:HS++[dG 5 (il .u8 a),dG 5 (il .u8 b)]=HS')(hbd:Nat.blt HS'.length Mem.bound=true) :
 aC.Sound Tryz.prog ⟨59,[.one (.ptr K 0),.agg (j5 h),.agg (uL p),.one (.int .i64 first),.one (.slice i 0 n cap)],HS,.tup [.one (jx N a.length 1),.one (jx (N+1) b.length 1),.one (.int .i64 0)],HS',rA K [i]⟩:=by
 subst hln hN
 have hfo:=ho.flat
 have hc:aW Tryz.prog 59 [.one (.ptr 0 0),.agg (j5 h),.agg (uL p),.one (.int .i64 first),.one (.slice 13 0 l.length cap)] (fe++[ob]) (.tup [.one (jx 14 a.length 1),.one (jx 15 b.length 1),.one (.int .i64 0)]) (fe++ob::[dG 5 (il .u8 a),dG 5 (il .u8 b)]):=by
  unfold qi at hp
  split at hp
  ·cases hp
  ·rename_i x hx
   split at hp
   ·cases hp
   ·rename_i hl
    cases hp
    exact GM hT ho hx rfl rfl (by omega) (by omega)
 refine wo 2 rfl hc hS hi hd (.cons (by show 0<14;omega) (.flat (.flat (.flat (.cons (by show 13<14;omega) .nil))))) (.cons rfl (.flat (.flat (.flat (.cons rfl .nil))))) ?_ ?_ (.flat (.flat .nil)) (.flat (.flat .nil)) ?_ hh hbd
 ·intro x hx
  simp only[List.mem_cons,List.not_mem_nil,or_false]at hx
  rcases hx with rfl|rfl|rfl
  ·exact aE (by omega)
  ·exact aE (by omega)
  ·trivial
 ·simp only[XV.ax,List.map_cons,List.map_nil,X1.ax,aB];rfl
 ·cases il .u8 a<;>cases il .u8 b<;>rfl
def vU(C R K i j k e:Nat)(qp pic:Int)(down inter:Bool):List XC := .ptr K 0::dQ C R i j k++[.int .i64 qp,.int .i64 pic,.ptr e 0,.bool down,.bool inter]
def mT(c:gg)(C R K i j k e:Nat)(qp pic:Int)(down inter:Bool):List XC:=bX c++vU C R K i j k e qp pic down inter
theorem vR(c:gg)(C R K i j k e:Nat)(qp pic:Int)(down inter:Bool):(mT c C R K i j k e qp pic down inter).length=156:=by
 unfold mT
 rw[List.length_append,aT];rfl
theorem mz(c:gg)(C R K i j k e:Nat)(qp pic:Int)(down inter:Bool)(n:Nat):(mT c C R K i j k e qp pic down inter)[139+n]? = (vU C R K i j k e qp pic down inter)[n]?:=by
 unfold mT
 rw[List.getElem?_append_right (by rw[aT];omega),aT,Nat.add_sub_cancel_left]
theorem GO(c:gg)(C R K i j k e:Nat)(qp pic:Int)(down inter:Bool){n s:Nat}(h:n+s<=139):((mT c C R K i j k e qp pic down inter).drop n).take s=((bX c).drop n).take s:=by
 unfold mT
 rw[List.drop_append_of_le_length (by rw[aT];omega),List.take_append_of_le_length (by rw[List.length_drop,aT];omega)]
theorem ff{c:gg}{C R K i j k e m:Nat}{qp pic:Int}{down inter:Bool}(h0:K<m)(h1:i<m)(h2:j<m)(h3:k<m)(h4:e<m){t:TypeId}{a b:Bool}:(ah.cells (mT c C R K i j k e qp pic down inter) t a b).bl m:=fun x hx=>by
 rcases List.mem_append.1 hx with hx|hx
 ·exact XC.bm (List.all_eq_true.1 (dB c) x hx) m
 ·simp only[vU,dQ,nU,List.cons_append,List.nil_append,List.mem_cons,List.not_mem_nil,or_false]at hx
  rcases hx with rfl|rfl|rfl|rfl|rfl|rfl|rfl|rfl|rfl|rfl|rfl|rfl|rfl|rfl|rfl|rfl|rfl<;>first|trivial|assumption
def qG(h:Hd)(C R:Nat)(F:Fr)(mb:Nat)(q:Int)(k:Nat):Nat->Int:=jJ h (rq (I7 C R F mb k)) q true
theorem qH(h:Hd)(C R:Nat)(F:Fr)(mb:Nat)(q:Int)(k i:Nat) : -2047<=qG h C R F mb q k i/\qG h C R F mb q k i<=2047:=Ch h _ q true i
def sP(g:Nat->Int)(j:Nat):Int:=if j=0 then 0 else max (g j) (0-g j)
def vG(g:Nat->Int):Int:=dw (sP g) 64
structure AL where
 S:bO
 pl:Int
 ed:Int
 ok:Bool
noncomputable def Lk(S:bO)(mb:Nat)(q:Int)(L:Nat->Int)(k:Nat):Option (Nat->Int):=jH L (j0 S mb k q)
noncomputable def pI(h:Hd)(C R:Nat)(F:Fr)(mb:Nat)(q:Int)(S:bO):Nat->AL
 | 0=>⟨S,0,0,true⟩
 | k+1=>
   let x:=pI h C R F mb q S k
   let L:=qG h C R F mb q k
   let o:=Lk x.S mb q L k
   ⟨cc x.S mb k ⟨L,q⟩,x.pl+vG L,x.ed+vG (o.getD fun _=>0),x.ok&&o.isSome⟩
def xP(h:Hd)(C R:Nat)(F:Fr)(mb:Nat)(kd q:Int)(k:Nat):Mb:=⟨kd,q,fun _=>(0,0),false,kb (qG h C R F mb q) (fun _=>0) k⟩
theorem pa{l e:Nat->Int}(i:Nat)(hi:i<64) : -2047<=((jH l e).getD fun _=>0) i/\((jH l e).getD fun _=>0) i<=2047:=by
 unfold jH
 split
 ·show -2047<=(0:Int)/\(0:Int)<=2047;omega
 ·rename_i h
  have h2:¬iV l e i:=fun hb=>h ⟨i,hi,hb⟩
  unfold iV at h2
  show -2047<=l i-e i/\l i-e i<=2047
  omega
theorem tJ{g:Nat->Int}{M:Int}{n:Nat}(hg:∀i,i<n->0<=g i/\g i<=M):∀k:Nat,k<=n->0<=dw g k/\dw g k<=M*k
 | 0,_=>by show(0:Int)<=0/\(0:Int)<=M*((0:Nat):Int);omega
 | k+1,hk=>by
   have h1:=tJ hg k (by omega)
   have h2:=hg k (by omega)
   show 0<=dw g k+g k/\dw g k+g k<=M*((k+1:Nat):Int)
   rw[Int.natCast_add,Int.mul_add]
   omega
theorem Gz{g:Nat->Int}(hg:∀i,i<64 -> -2047<=g i/\g i<=2047)(i:Nat)(hi:i<64):0<=sP g i/\sP g i<=2047:=by
 have:=hg i hi
 unfold sP
 split<;>omega
theorem lS{g:Nat->Int}(hg:∀i,i<64 -> -2047<=g i/\g i<=2047){j:Nat}(hj:j<=64):0<=dw (sP g) j/\dw (sP g) j<=131008:=by
 have:=tJ (Gz hg) j hj
 omega
structure KE(S0:bO)(C R:Nat)(x:AL)(k:Nat):Prop where
 cols:x.S.cols=(C:Nat)
 rows:x.S.rows=(R:Nat)
 lev:pH x.S
 pl:0<=x.pl/\x.pl<=131008*k
 ed:0<=x.ed/\x.ed<=131008*k
theorem zP{h:Hd}{C R:Nat}{F:Fr}{mb:Nat}{q:Int}{S:bO}(hc:S.cols=(C:Nat))(hr:S.rows=(R:Nat))(hl:pH S):∀k:Nat,KE S C R (pI h C R F mb q S k) k
 | 0=>⟨hc,hr,hl,by show(0:Int)<=0/\(0:Int)<=131008*((0:Nat):Int);omega,by show(0:Int)<=0/\(0:Int)<=131008*((0:Nat):Int);omega⟩
 | k+1=>by
   have x:=zP (h:=h) (F:=F) (mb:=mb) (q:=q) hc hr hl k
   have hL:=qH h C R F mb q k
   have hL2:∀i,-1000000<=qG h C R F mb q k i/\qG h C R F mb q k i<=1000000:=fun i=>by have:=hL i;omega
   have h1:=lS (g:=qG h C R F mb q k) (fun i _=>hL i) (Nat.le_refl 64)
   have h2:=lS (g:=(Lk (pI h C R F mb q S k).S mb q (qG h C R F mb q k) k).getD fun _=>0) (fun i hi=>pa i hi) (Nat.le_refl 64)
   have h3:=x.pl
   have h4:=x.ed
   refine⟨x.cols,x.rows,⟨kp x.lev.1 hL2,kp x.lev.2.1 hL2,kp x.lev.2.2 hL2⟩,?_,?_⟩
   ·show 0<=_+dw (sP _) 64/\_+dw (sP _) 64<=131008*((k+1:Nat):Int);omega
   ·show 0<=_+dw (sP _) 64/\_+dw (sP _) 64<=131008*((k+1:Nat):Int);omega
end Go.Proofs.YtnkodcmkpfefhaaGreat
