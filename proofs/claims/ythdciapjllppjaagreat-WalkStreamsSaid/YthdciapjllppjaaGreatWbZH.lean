/-
  A part of the proof: WkO, FtN, WkP, WkQ.
-/
import Derived.Test.YthdciapjllppjaaGreatWbF
import Derived.Test.YthdciapjllppjaaGreatWbR
import Derived.Test.YthdciapjllppjaaGreatWbZB
import Derived.Test.YthdciapjllppjaaGreatWbZD
import Derived.Test.YthdciapjllppjaaGreatWbZG
set_option maxRecDepth 10000
set_option maxHeartbeats 8000000
set_option linter.unusedVariables false
set_option linter.unusedSectionVars false
set_option linter.unusedSimpArgs false
open Go.Proofs.Tryz (prog)
namespace Go.Proofs.YthdciapjllppjaaGreat
open Go.Xm
variable [aq]
theorem FG :
 bt prog 13 [.one (.slice 0 0 3 (.exact 3))] [.cells (il .u8 [0,0,1]) 5 false false] (.agg (gV lr false .nils 3 2)) [.dead]:=by
 have hL:([il .u8 [0,0,1]]:List (List XC))[0]? = some (il .u8 [0,0,1]):=rfl;have hf0:od (findF (dB [0,0,1] 0) 3 0)=0/\(findF (dB [0,0,1] 0) 3 0).isSome=true:=by decide
 have hf3:od (findF (dB [0,0,1] 0) 3 3)=0/\(findF (dB [0,0,1] 0) 3 3).isSome=false:=by decide
 have w0:dB [0,0,1] 0 0=0/\dB [0,0,1] 0 1=0/\dB [0,0,1] 0 2=1:=by decide
 refine cO Tryz.func13 ?_;refine WX.ghost rfl ?_;refine WX.sW (L:=[]) (vs:=il .u8 [0,0,1]) (us:=il .u8 [0,0,1]) 0 1 3 (.exact 3) [(0,.one (.lsl 1 0 0 3 3 0))] [.dead,.late [il .u8 [0,0,1]]] (m:=0) (gD .u8 _ _) (.inl ⟨3,rfl,Nat.le_refl _⟩) rfl (hv:=eU (gD .u8 _ 0) 1) (h:=?_)
 repeat' (first
  |(refine qz ?_;first
   |refine jU (zs:=gV lr false .nils 0 0) (hz:=lS) ?_)
  |refine zz ?_|refine zx (fun _=>?_) (fun _=>?_)|fail)
 refine WX.scope ?_;refine WX.jump ?_
 repeat' (first
  |(refine qz ?_;first
   |refine jU (zs:=gV lr false .nils 0 0) (hz:=lS) ?_)
  |refine zz ?_|refine zx (fun _=>?_) (fun _=>?_)|fail)
 refine WX.label ?_;show WX _ _ _ _ _ _ _
 repeat' (first
  |(refine qz ?_;first
   |refine cl ?_ (hi:=by exact dS hL (by decide) (by decide) (frm:=0) rfl (by decide) hf0 (g:=1) rfl rfl)
   |refine kD ?_
   |refine ld ?_ (hc:=oA ..)
   |refine ld ?_ (hc:=oy ..)
   |refine st ?_ (hle:=by rw[bc];decide) (hv:=m9 ..)
   |refine st ?_ (hle:=by rw[bc];decide) (hv:=oB ..)
   |refine st ?_ (hle:=by rw[bc];decide) (hv:=C6 ..)
   |refine KX (p:=0) (q:=3) (o':=0) (m:=3) ?_
   |refine cl ?_ (hi:=by exact CJ hL (by decide) rfl w0 (g:=1) rfl rfl)
   |refine jU (zs:=b9 ⟨0,0,false,fun _=>0,fun _=>0⟩) (hz:=hU) ?_
   |refine nD (cs:=b9 ⟨0,0,false,fun _=>0,fun _=>0⟩) ?_ (hs1:=by rw[aF]) (hs2:=by rw[aF]))
  |refine zz ?_|refine zx (fun _=>?_) (fun _=>?_)|fail)
 show WX _ _ _ _ _ _ _;refine WX.goto ?_;show WX _ _ _ _ _ _ _;refine WX.jump ?_;refine WX.seq ?_;refine WX.skip ?_;show WX _ _ _ _ _ _ _
 repeat' (first
  |(refine qz ?_;first
   |refine cl ?_ (hi:=by exact dS hL (by decide) (by decide) (frm:=3) rfl (by decide) hf3 (g:=1) rfl rfl)
   |refine kD ?_
   |refine ld ?_ (hc:=oA ..)
   |refine ld ?_ (hc:=oy ..)
   |refine st ?_ (hle:=by rw[bc];decide) (hv:=m9 ..)
   |refine st ?_ (hle:=by rw[bc];decide) (hv:=oB ..)
   |refine jI ?_ (hle:=by rw[bc]))
  |refine zz ?_|refine zx (fun _=>?_) (fun _=>?_)|fail)
 show aE _ _ _ _ _ _ _ _;refine kV [0] ?_ (hr:=fH.one rfl (.cell rfl rfl (bR (by rw[bc])) .nil)) (hok:=sd trivial);exact(o8 (c := .nils) (c' := .nils) rfl).symm
theorem Kw{W:List (List XC)}{kk n:Nat}{b:List Int}(hL:W[kk]? = some (il .u8 b))(hbl:b.length=n)(hn:n<=100000000){h:Hd}{y i0:Nat}(hi0:findF (dB b 0) n 0=some i0)(hi1:i0+2<n)(hh:EW b n i0 h y)(he:findF (dB b 0) n (i0+y)=none) :
 bt prog 13 [.one (.lsl 0 kk 0 n n 0)] [.late W] (.agg (gV h true .nils ((i0:Nat)+((n:Int)-(i0+y:Nat))) ((i0:Nat)+1+(y:Nat)+((n:Int)-(i0+y:Nat))))) [.late W]:=by
 obtain⟨ho,htab,hno,hy,hyn,hyis,hyf⟩:=hh;have hf0:od (findF (dB b 0) n 0)=(i0:Int)/\(findF (dB b 0) n 0).isSome=true:=by rw[hi0];exact⟨rfl,rfl⟩
 have hf1:od (findF (dB b 0) n (i0+y))=0/\(findF (dB b 0) n (i0+y)).isSome=false:=by rw[he];exact⟨rfl,rfl⟩
 have hy2:((i0+y:Nat):Int)=(i0:Int)+(y:Nat):=by omega
 refine cO Tryz.func13 ?_
 repeat' (first
  |(refine qz ?_;first
   |refine jU (zs:=gV lr false .nils 0 0) (hz:=lS) ?_)
  |refine zz ?_|refine zx (fun _=>?_) (fun _=>?_)|fail)
 refine WX.scope ?_;refine WX.jump ?_
 repeat' (first
  |(refine qz ?_;first
   |refine jU (zs:=gV lr false .nils 0 0) (hz:=lS) ?_)
  |refine zz ?_|refine zx (fun _=>?_) (fun _=>?_)|fail)
 refine WX.label ?_;show WX _ _ _ _ _ _ _
 repeat' (first
  |(refine qz ?_;first
   |refine cl ?_ (hi:=by exact dS hL (by omega) (by omega) (frm:=0) rfl (by decide) hf0 (g:=0) rfl rfl)
   |refine kD ?_
   |refine ld ?_ (hc:=oA ..)
   |refine ld ?_ (hc:=oy ..)
   |refine st ?_ (hle:=by rw[bc];decide) (hv:=m9 ..)
   |refine st ?_ (hle:=by rw[bc];decide) (hv:=oB ..)
   |refine st ?_ (hle:=by rw[bc];decide) (hv:=C6 ..)
   |refine KX (p:=i0) (q:=n) (o':=i0) (m:=n-i0) ?_
   |refine cl ?_ (hi:=by exact xD hL (by omega) (by omega) (Nat.le_refl _) ho htab hno hy hyn hyis hyf (g:=0) rfl rfl)
   |refine jU (zs:=b9 ⟨0,0,false,fun _=>0,fun _=>0⟩) (hz:=hU) ?_
   |refine nD (cs:=b9 h) ?_ (hs1:=by rw[aF,aF]) (hs2:=by rw[aF,aF])
   |refine jI ?_ (hle:=by rw[aF])
   |refine Sc (off:=0) (s:=131) ?_ (hs2:=by rw[bc];decide) (hv:=EB lr h false .nils (0+((i0:Nat)-(0:Int))) (0+((i0:Nat)-(0:Int)+1))) (hs1:=by rw[aF]))
  |refine zz ?_|refine zx (fun _=>?_) (fun _=>?_)|fail)
 refine WX.label ?_;show WX _ _ _ _ _ _ _
 repeat' (first
  |(refine qz ?_;first
   |refine cl ?_ (hi:=by exact dS hL (by omega) (by omega) (frm:=i0+y) rfl (by omega) hf1 (g:=0) rfl rfl)
   |refine kD ?_
   |refine ld ?_ (hc:=oA ..)
   |refine ld ?_ (hc:=oy ..)
   |refine st ?_ (hle:=by rw[bc];decide) (hv:=m9 ..)
   |refine st ?_ (hle:=by rw[bc];decide) (hv:=oB ..)
   |refine jI ?_ (hle:=by rw[bc]))
  |refine zz ?_|refine zx (fun _=>?_) (fun _=>?_)|fail)
 show aE _ _ _ _ _ _ _ _;refine kV [0] ?_ (hr:=fH.one rfl (.cell rfl rfl (bR (by rw[bc])) .nil)) (hok:=sd trivial);have e1:0+((i0:Int)-0)+((n:Int)-((i0:Int)+(y:Nat)))=(i0:Nat)+((n:Int)-(i0+y:Nat)):=by omega
 have e2:0+((i0:Int)-0+1)+(y:Nat)+((n:Int)-((i0:Int)+(y:Nat)))=(i0:Nat)+1+(y:Nat)+((n:Int)-(i0+y:Nat)):=by omega
 rw[<-e1,<-e2];exact(o8 (c := .nils) (c' := .nils) rfl).symm
theorem EE{W:List (List XC)}{g kk n:Nat}{b:List Int}(hL:W[kk]? = some (il .u8 b))(hbl:b.length=n)(hn:n<=100000000){h:Hd}{y i0:Nat}(hi0:findF (dB b 0) n 0=some i0)(hi1:i0+2<n)(hh:EW b n i0 h y)(he:findF (dB b 0) n (i0+y)=none){pw wk:Int}(hpw:(i0:Nat)+((n:Int)-(i0+y:Nat))=pw)(hwk:(i0:Nat)+1+(y:Nat)+((n:Int)-(i0+y:Nat))=wk){HS:aj}(hi:HS[g]? = some (.late W))(hbd:Nat.blt HS.length Mem.bound=true) :
 aA.Sound prog ⟨13,[.one (.lsl g kk 0 n n 0)],HS,.agg (gV h true .nils pw wk),HS,[]⟩:=by
 subst hpw hwk;exact fR [g] (Kw hL hbl hn hi0 hi1 hh he) (by simp) (.flat hi .nil) (.flat .nil) (.cons (show 0<1 by omega) .nil) (.cons rfl .nil) (sd trivial) (o8 rfl) hbd rfl
theorem I1{HS:aj}{i:Nat}(hi:HS[i]? = some (.cells (il .u8 [0,0,1]) 5 false false)){HS':aj}(hh:HS.set i .dead=HS')(hbd:Nat.blt HS'.length Mem.bound=true) :
 aA.Sound prog ⟨13,[.one (.slice i 0 3 (.exact 3))],HS,.agg (gV lr false .nils 3 2),HS',[i]⟩:=
 bI [i] [i] 0 FG (by simp) (.flat hi .nil) (.flat .nil) (.flat .nil) rfl (.cons (show 0<1 by omega) .nil) (.cons rfl .nil) (sd trivial) (o8 rfl) (.flat .nil) rfl rfl (by simp only[bJ];exact(List.append_nil _).trans hh) hbd (.inl rfl)
theorem zw:bt prog 9 [] [] (.one (.bool true)) []:=by
 have hlow:=Oa;have hlay:=Ix Qf.ps;have hnp:Qf.ps.length=1:=rfl;have hse:pY lr [] []=Qf:=rfl;have hno:=A0 lr;rw[show gO lr=Qf.hd from rfl]at hno
 obtain⟨s,hs⟩:∃s,Qf=s:=⟨_,rfl⟩
 rw[hs]at hlow hlay hnp hse hno;have hok:=hlow.ok
 obtain⟨w,hw⟩:∃w,wide s.ps=w:=⟨_,rfl⟩
 obtain⟨B,hB⟩:∃B,Fx s.ps=B:=⟨_,rfl⟩
 rw[hw,hB]at hlay;have hyl:=jX s.hd;have hyb:=qD s.hd;have hg:=uv s.hd [];rw[List.append_nil]at hg;have hat:EW (hZ s.hd) (hZ s.hd).length 0 s.hd (hZ s.hd).length:=DS (all:=0) (its:=[]) hok.hd hok.raw hno (fun x hx=>nomatch hx) (List.append_nil _).symm rfl (.inl rfl);have heq:=Ns s.hd
 obtain⟨Y,hY⟩:∃Y,hZ s.hd=Y:=⟨_,rfl⟩
 rw[hY]at hyl hyb hg hat
 obtain⟨n,hn⟩:∃n,Y.length=n:=⟨_,rfl⟩
 rw[hn]at hyl hat;have hf0:findF (dB Y 0) n 0=some 0:=kA (by omega) (by unfold dB;exact⟨hg.1,hg.2.1,hg.2.2.1⟩);have hf1:findF (dB Y 0) n (0+n)=none:=nX (by omega);refine cO Tryz.func9 ?_;refine WX.cc rfl ?_;refine WX.cc rfl ?_;refine WX.ghost rfl ?_
 repeat' (first
  |(refine qz ?_;first
   |refine t5 (zs:=[.int .u8 0]) ?_
   |refine cl ?_ (hi:=by exact I1 rfl nA rfl)
   |refine jU (zs:=gV lr false .nils 0 0) (hz:=lS) ?_
   |refine nD (cs:=gV lr false .nils 3 2) ?_ (hs1:=by rw[bc]) (hs2:=by rw[bc])
   |refine b0 (zs:=rH lr .nils .nils) (hz:=G4) ?_
   |refine cl ?_ (hi:=by exact xE DV (pics:=[]) (fun j h=>absurd h (Nat.not_lt_zero j)) (l:=[]) (fun j h=>absurd h (Nat.not_lt_zero j)) (ob0 := .dead) (ob1 := .dead) ⟨fun h=>absurd h (Nat.lt_irrefl _),inferInstance⟩ ⟨fun h=>absurd h (Nat.lt_irrefl _),inferInstance⟩ (i:=0) (j:=1) .nil .nil (by decide) (by decide) rfl rfl (by decide) hse hw hnp hB nL nA rfl)
   |refine jU (zs:=fJ lr .nils) (hz:=zm) ?_
   |refine nD (cs:=fJ s.hd (.lsl 5 w 0 1 1 0)) ?_ (hs1:=(dh _ _).symm) (hs2:=(dh _ _).symm)
   |refine jI ?_ (hle:=(dh _ _).symm)
   |refine cl ?_ (hi:=by exact zU hok.hd hok.raw hY hn nL nA rfl))
  |refine lq 4 ?_|refine zz ?_|refine zx (fun _=>?_) (fun _=>?_)|fail)
 refine⟨?_⟩;refine WX.sW (L:=[]) (vs:=il .u8 Y) (us:=il .u8 Y) 7 2 n (.toEnd 1) [(0,.one (.bool false)),(1,.one (.ptr 4 0)),(2,.one (.ptr 6 0)),(3,.one (.lsl 2 0 0 n n 0))] [.dead,.dead,.late [il .u8 Y],.dead,.cells (gV lr false .nils 3 2) 45 false false,.late B,.cells (fJ s.hd (.lsl 5 w 0 1 1 0)) 36 false false,.dead] (m:=0) (gD .u8 _ _) (.inr ⟨1,rfl,Nat.one_pos,by rw[bz,hn];omega⟩) rfl (hv:=eU (gD .u8 _ 0) 2) (hH:=by repeat' (first|exact bd.nil|refine bd.ghost ?_|refine bd.dead ?_|refine bd.flat rfl ?_|refine bd.cells rfl (dP.same (tI trivial)) ?_|refine bd.cells rfl (dP.same (j0 (fun h=>absurd h (by decide)))) ?_)) (hok:=(stM (objs:=by repeat' (first|exact ax.nil|refine ax.flat ?_|refine ax.cons (sc trivial) ?_|refine ax.cons (lP (show 5<_ from Nat.le_of_ble_eq_true rfl)) ?_|refine ax.cons trivial ?_)))) (h:=?_)
 repeat' (first
  |(refine qz ?_;first
   |refine cl ?_ (hi:=by exact EE (W:=[il .u8 Y]) (g:=2) (kk:=0) rfl hn (by omega) hf0 (by omega) hat hf1 (pw:=0) (wk:=((1+n:Nat):Int)) (by omega) (by omega) rfl rfl)
   |refine jU (zs:=gV lr false .nils 0 0) (hz:=lS) ?_
   |refine nD (cs:=gV s.hd true .nils 0 ((1+n:Nat):Int)) ?_ (hs1:=by rw[bc]) (hs2:=by rw[bc])
   |refine ld ?_ (hc:=Kr ..)
   |refine ld ?_ (hc:=oy ..)
   |refine qI (cs:=b9 s.hd) ?_ (hle:=by rw[bc];decide) (hc:=C5 ..)
   |refine qI (cs:=b9 s.hd) ?_ (hle:=by rw[dh];decide) (hc:=r6 ..)
   |refine TF heq ?_)
  |refine zz ?_|refine zx (fun _=>?_) (fun _=>?_)|fail)
 show aE _ _ _ _ _ _ _ _;refine kV [] ?_;rfl
theorem mF{HS:aj}(hbd:Nat.blt HS.length Mem.bound=true):aA.Sound prog ⟨9,[],HS,.one (.bool true),HS,[]⟩:=az zw rfl rfl hbd
theorem Mg{s:tP}(hs:lG s):2<=(iF s).length:=by
 have hm:=hs.ok.many;have hcr:=oY hs.ok;have h0:=hs.ok.pics 0 (by omega);have hlen:(iF s).length=(qk s.hd s.ps).length+1:=List.length_cons
 cases hp:s.ps with
 | nil=>rw[hp]at hm;simp at hm
 | cons p l=>
   rw[hp]at h0;have hg:qm p.ph.inter p.ph.qp 0 p.gs (((s.hd.cols*s.hd.rows).toNat:Nat):Int):=h0.gs
   have hne:p.gs.length≠0:=fun e=>by
    rw[List.length_eq_zero_iff.1 e]at hg;have hg:(0:Int)=_:=hg;omega
   have e:qk s.hd (p::l)=NI s.hd p++qk s.hd l:=rfl;have e2:(NI s.hd p).length=p.gs.length:=List.length_map ..;rw[hlen,hp,e,List.length_append,e2];omega
theorem PT{W:List (List XC)}{g kk n:Nat}{b:List Int}(hL:W[kk]? = some (il .u8 b))(hbl:b.length=n)(hn:n<=100000000)(hbB:bj b){h:Hd}{y i0:Nat}(hi0:findF (dB b 0) n 0=some i0)(hi1:i0+2<n)(hh:EW b n i0 h y){evs:List Ni}(hst:Steps b n (h.cols*h.rows) (i0+y) evs){F:W9}(hF:evs.foldl w9 ⟨i0+y,(i0:Nat),(i0:Nat)+1+(y:Nat),[]⟩=F){l:List Fo}(hl:F.acc=l){m:Nat}(hm:l.length=m)(hm0:m≠0){pw wk:Int}(hpw:F.passed+((n:Int)-(F.at_:Nat))=pw)(hwk:F.work+((n:Int)-(F.at_:Nat))=wk){X:List (List XC)}(hX:BF l++[pj 0 0 l]=X){HS:aj}(hi:HS[g]? = some (.late W)){N:Nat}(hN:HS.length=N){HS':aj}(hhs:HS++[.late X]=HS')(hbd:Nat.blt HS'.length Mem.bound=true) :
 aA.Sound prog ⟨13,[.one (.lsl g kk 0 n n 0)],HS,.agg (gV h true (.lsl N (2*m) 0 m m 0) pw wk),HS',[g]⟩:=by
 subst hN hl hX hpw hwk;exact bI [g] [g] 1 (M0 hL hbl hn hbB hi0 hi1 hh hst hF hm hm0) (by simp) (.flat hi .nil) (.flat .nil) (.flat (.flat .nil)) rfl (.cons (show 0<1 by omega) .nil) (.cons rfl .nil) (sd (show 1<2 by omega)) (o8 rfl) (.flat (.flat .nil)) rfl rfl (by simp only[bJ];rw[aG hi];exact hhs) hbd (.inl rfl)
structure WS where
 its:List It
 at_:List Nat
 wh:List Nat
def ib(nz:List Int)(i:Nat)(x:WS):List It:=if i%3=2/\x.at_.length≠0 then x.its++[.no nz]else x.its
def se(out:List Bool)(nz:List Int)(pks:List Pk)(q0 i:Nat)(x:WS):WS:=
 if out.getD i false=true then x else⟨ib nz i x++[.pk (pks.getD i default)],x.at_++[q0+(cU (ib nz i x)).length],x.wh++[i+1]⟩
def oC(out:List Bool)(nz:List Int)(pks:List Pk)(q0:Nat):Nat->WS
 | 0=>⟨[],[],[]⟩
 | i+1=>se out nz pks q0 i (oC out nz pks q0 i)
theorem nY:∀(a b:List It) (p:Nat),jt p (a++b)=jt p a++jt (p+(cU a).length) b
 | [],b,p=>rfl
 | .pk k::r,b,p=>by
   rw[List.cons_append,jt,nY r b,cy,List.length_append,show(Il (.pk k)).length=cx k from eQ ..,Nat.add_assoc];rfl
 | .hd h::r,b,p=>by
   rw[List.cons_append,jt,nY r b,cy,List.length_append,show(Il (.hd h)).length=(hZ h).length from rfl,Nat.add_assoc];rfl
 | .no l::r,b,p=>by
   rw[List.cons_append,jt,nY r b,cy,List.length_append,show(Il (.no l)).length=l.length from rfl,Nat.add_assoc];rfl
structure N4(all:Int)(pks:List Pk)(q0 i:Nat)(x:WS):Prop where
 ok:∀y∈x.its,sT all y
 ks:qR x.its=x.wh.map fun w=>pks.getD (w-1) default
 at_:(jt q0 x.its).map (·.at_)=x.at_
 len:x.wh.length=x.at_.length
 wh:∀w∈x.wh,1<=w/\w<=i
 hd:x.its = []\/∃y r,x.its=y::r/\∀l,y ≠ .no l
 emp:x.at_.length=0->x.its = []
 few:(cU x.its).length<=i*70100
 cnt:x.at_.length<=i
theorem KB{all:Int}{pks:List Pk}{q0 i:Nat}{x:WS}(h:N4 all pks q0 i x){nz:List Int}(hz:∀y∈nz,2<=y)(hzl:nz.length<=100):(∀y∈ib nz i x,sT all y)/\qR (ib nz i x)=qR x.its/\jt q0 (ib nz i x)=jt q0 x.its/\(ib nz i x = []\/∃y r,ib nz i x=y::r/\∀l,y ≠ .no l)/\(cU (ib nz i x)).length<=i*70100+100:=by
 unfold ib;split
 ·rename_i hc;refine⟨fun y hy=>?_,by rw[og];exact List.append_nil _,by rw[nY];exact List.append_nil _,?_,?_⟩
  ·rcases List.mem_append.1 hy with hy|hy
   ·exact h.ok y hy
   ·rw[List.mem_singleton.1 hy];exact hz
  ·rcases h.hd with e|⟨y,r,e,hy⟩
   ·exfalso;have:=h.at_;rw[e]at this;exact hc.2 (by rw[<-this];rfl)
   ·exact .inr ⟨y,r++[.no nz],by rw[e];rfl,hy⟩
  ·have:=h.few;rw[lZ,List.length_append,show(cU [.no nz]).length=nz.length by show(nz++[]).length=_;rw[List.append_nil]];omega
 ·exact⟨h.ok,rfl,rfl,h.hd,Nat.le_trans h.few (Nat.le_add_right _ _)⟩
theorem NS{all:Int}{out:List Bool}{nz:List Int}{pks:List Pk}{q0:Nat}(hz:∀y∈nz,2<=y)(hzl:nz.length<=100)(hk:∀i,i<pks.length->sT all (.pk (pks.getD i default))/\cx (pks.getD i default)<=70000):∀i,i<=pks.length->N4 all pks q0 i (oC out nz pks q0 i)
 | 0,_=>⟨(fun y hy=>nomatch hy),rfl,rfl,rfl,(fun w hw=>nomatch hw),.inl rfl,(fun _=>rfl),Nat.zero_le _,Nat.le_refl _⟩
 | i + 1,hi=>by
   have ih:=NS (out:=out) (q0:=q0) hz hzl hk i (by omega);rw[oC];unfold se;split
   ·exact⟨ih.ok,ih.ks,ih.at_,ih.len,fun w hw=>by have:=ih.wh w hw;omega,ih.hd,ih.emp,Nat.le_trans ih.few (Nat.mul_le_mul_right _ (Nat.le_succ i)),by have:=ih.cnt;omega⟩
   ·obtain⟨m1,m2,m3,m4,m5⟩:=KB ih hz hzl
    obtain⟨x,hx⟩:∃x,oC out nz pks q0 i=x:=⟨_,rfl⟩
    rw[hx]at ih m1 m2 m3 m4 m5 ⊢;have hkk:=hk i (by omega);refine⟨fun y hy=>?_,?_,?_,?_,fun w hw=>?_,?_,fun e=>?_,?_,?_⟩
    ·rcases List.mem_append.1 hy with hy|hy
     ·exact m1 y hy
     ·rw[List.mem_singleton.1 hy];exact hkk.1
    ·show qR (ib nz i x++_)=List.map _ (x.wh++_);rw[og,m2,ih.ks,List.map_append];rfl
    ·show(jt q0 (ib nz i x++_)).map _=x.at_++_;rw[nY,List.map_append,m3,ih.at_];rfl
    ·show(x.wh++_).length=(x.at_++_).length;rw[List.length_append,List.length_append,ih.len];rfl
    ·have hw:w∈x.wh++[i+1]:=hw
     rcases List.mem_append.1 hw with hw|hw
     ·have:=ih.wh w hw;omega
     ·rw[List.mem_singleton.1 hw];omega
    ·show ib nz i x++_ = []\/∃y r,ib nz i x++_=y::r/\_
     rcases m4 with e|⟨y,r,e,hy⟩
     ·rw[e];exact .inr ⟨_,[],rfl,fun l h=>nomatch h⟩
     ·rw[e];exact .inr ⟨y,r++_,rfl,hy⟩
    ·have e:(x.at_++[_]).length=0:=e;rw[List.length_append]at e;exact absurd e (by simp)
    ·show(cU (ib nz i x++_)).length<=_;rw[lZ,List.length_append,show(cU [.pk (pks.getD i default)]).length=cx (pks.getD i default) by show(eh _ _ _++[]).length=_;rw[List.append_nil,eQ];rfl];omega
    ·show(x.at_++[_]).length<=i+1;rw[List.length_append];have:=ih.cnt;simp only[List.length_cons,List.length_nil];omega
theorem SU:∀v:Fin 256,2<=sB .u8 (v.val:Int) 2/\sB .u8 (v.val:Int) 2<=255:=by decide +kernel
theorem Rb{v:Int}(h:0<=v/\v<=255):2<=sB .u8 v 2/\sB .u8 v 2<=255:=by
 have:=SU ⟨v.toNat,by omega⟩;rwa [show((⟨v.toNat,by omega⟩:Fin 256).val:Int)=v by show(v.toNat:Int)=v;omega]at this
end Go.Proofs.YthdciapjllppjaaGreat
