/-
  A part of the proof: WkO, FtN, WkP, OpenT, SmIn, StrO.
-/
import Derived.Test.YthdciapjllppjaaGreatWaF
import Derived.Test.YthdciapjllppjaaGreatWaR
import Derived.Test.YthdciapjllppjaaGreatWaZA
import Derived.Test.YthdciapjllppjaaGreatWaZC
import Derived.Test.YthdciapjllppjaaGreatWaZD
import Derived.Test.YthdciapjllppjaaGreatWaZG
import Derived.OpenShut
set_option maxRecDepth 10000
set_option maxHeartbeats 8000000
set_option linter.unusedVariables false
set_option linter.unusedSectionVars false
set_option linter.unusedSimpArgs false
open Go.Proofs.Tryz (prog)
namespace Go.Proofs.YthdciapjllppjaaGreat
open Go.Xm
variable [ak]
theorem Fg :
 bq prog 13 [.one (.slice 0 0 3 (.exact 3))] [.cells (il .u8 [0,0,1]) 5 false false] (.agg (gW lH false .nils 3 2)) [.dead]:=by
 have hL:([il .u8 [0,0,1]]:List (List XC))[0]? = some (il .u8 [0,0,1]):=rfl;have hf0:nW (findF (du [0,0,1] 0) 3 0)=0/\(findF (du [0,0,1] 0) 3 0).isSome=true:=by decide
 have hf3:nW (findF (du [0,0,1] 0) 3 3)=0/\(findF (du [0,0,1] 0) 3 3).isSome=false:=by decide
 have w0:du [0,0,1] 0 0=0/\du [0,0,1] 0 1=0/\du [0,0,1] 0 2=1:=by decide
 refine cO Tryz.func13 ?_;refine WX.ghost rfl ?_;refine WX.sK (L:=[]) (vs:=il .u8 [0,0,1]) (us:=il .u8 [0,0,1]) 0 1 3 (.exact 3) [(0,.one (.lsl 1 0 0 3 3 0))] [.dead,.late [il .u8 [0,0,1]]] (m:=0) (gB .u8 _ _) (.inl ⟨3,rfl,Nat.le_refl _⟩) rfl (hv:=eQ (gB .u8 _ 0) 1) (h:=?_)
 repeat' (first
  |(refine qz ?_;first
   |refine jG (zs:=gW lH false .nils 0 0) (hz:=m5) ?_)
  |refine zz ?_|refine zx (fun _=>?_) (fun _=>?_)|fail)
 refine WX.scope ?_;refine WX.jump ?_
 repeat' (first
  |(refine qz ?_;first
   |refine jG (zs:=gW lH false .nils 0 0) (hz:=m5) ?_)
  |refine zz ?_|refine zx (fun _=>?_) (fun _=>?_)|fail)
 refine WX.label ?_;show WX _ _ _ _ _ _ _
 repeat' (first
  |(refine qz ?_;first
   |refine cl ?_ (hi:=by exact dO hL (by decide) (by decide) (frm:=0) rfl (by decide) hf0 (g:=1) rfl rfl)
   |refine kY ?_
   |refine ld ?_ (hc:=qT ..)
   |refine ld ?_ (hc:=pr ..)
   |refine st ?_ (hle:=by rw[bn];decide) (hv:=mV ..)
   |refine st ?_ (hle:=by rw[bn];decide) (hv:=oe ..)
   |refine st ?_ (hle:=by rw[bn];decide) (hv:=CJ ..)
   |refine KA (p:=0) (q:=3) (o':=0) (m:=3) ?_
   |refine cl ?_ (hi:=by exact Cn hL (by decide) rfl w0 (g:=1) rfl rfl)
   |refine jG (zs:=b7 ⟨0,0,false,fun _=>0,fun _=>0⟩) (hz:=gY) ?_
   |refine nr (cs:=b7 ⟨0,0,false,fun _=>0,fun _=>0⟩) ?_ (hs1:=by rw[aD]) (hs2:=by rw[aD]))
  |refine zz ?_|refine zx (fun _=>?_) (fun _=>?_)|fail)
 show WX _ _ _ _ _ _ _;refine WX.goto ?_;show WX _ _ _ _ _ _ _;refine WX.jump ?_;refine WX.seq ?_;refine WX.skip ?_;show WX _ _ _ _ _ _ _
 repeat' (first
  |(refine qz ?_;first
   |refine cl ?_ (hi:=by exact dO hL (by decide) (by decide) (frm:=3) rfl (by decide) hf3 (g:=1) rfl rfl)
   |refine kY ?_
   |refine ld ?_ (hc:=qT ..)
   |refine ld ?_ (hc:=pr ..)
   |refine st ?_ (hle:=by rw[bn];decide) (hv:=mV ..)
   |refine st ?_ (hle:=by rw[bn];decide) (hv:=oe ..)
   |refine jV ?_ (hle:=by rw[bn]))
  |refine zz ?_|refine zx (fun _=>?_) (fun _=>?_)|fail)
 show aE _ _ _ _ _ _ _ _;refine kV [0] ?_ (hr:=fE.one rfl (.cell rfl rfl (bO (by rw[bn])) .nil)) (hok:=r4 trivial);exact(oR (c := .nils) (c' := .nils) rfl).symm
theorem Ka{W:List (List XC)}{kk n:Nat}{b:List Int}(hL:W[kk]? = some (il .u8 b))(hbl:b.length=n)(hn:n<=100000000){h:Hd}{y i0:Nat}(hi0:findF (du b 0) n 0=some i0)(hi1:i0+2<n)(hh:Bq b n i0 h y)(he:findF (du b 0) n (i0+y)=none) :
 bq prog 13 [.one (.lsl 0 kk 0 n n 0)] [.late W] (.agg (gW h true .nils ((i0:Nat)+((n:Int)-(i0+y:Nat))) ((i0:Nat)+1+(y:Nat)+((n:Int)-(i0+y:Nat))))) [.late W]:=by
 obtain⟨ho,htab,hno,hy,hyn,hyis,hyf⟩:=hh;have hf0:nW (findF (du b 0) n 0)=(i0:Int)/\(findF (du b 0) n 0).isSome=true:=by rw[hi0];exact⟨rfl,rfl⟩
 have hf1:nW (findF (du b 0) n (i0+y))=0/\(findF (du b 0) n (i0+y)).isSome=false:=by rw[he];exact⟨rfl,rfl⟩
 have hy2:((i0+y:Nat):Int)=(i0:Int)+(y:Nat):=by omega
 refine cO Tryz.func13 ?_
 repeat' (first
  |(refine qz ?_;first
   |refine jG (zs:=gW lH false .nils 0 0) (hz:=m5) ?_)
  |refine zz ?_|refine zx (fun _=>?_) (fun _=>?_)|fail)
 refine WX.scope ?_;refine WX.jump ?_
 repeat' (first
  |(refine qz ?_;first
   |refine jG (zs:=gW lH false .nils 0 0) (hz:=m5) ?_)
  |refine zz ?_|refine zx (fun _=>?_) (fun _=>?_)|fail)
 refine WX.label ?_;show WX _ _ _ _ _ _ _
 repeat' (first
  |(refine qz ?_;first
   |refine cl ?_ (hi:=by exact dO hL (by omega) (by omega) (frm:=0) rfl (by decide) hf0 (g:=0) rfl rfl)
   |refine kY ?_
   |refine ld ?_ (hc:=qT ..)
   |refine ld ?_ (hc:=pr ..)
   |refine st ?_ (hle:=by rw[bn];decide) (hv:=mV ..)
   |refine st ?_ (hle:=by rw[bn];decide) (hv:=oe ..)
   |refine st ?_ (hle:=by rw[bn];decide) (hv:=CJ ..)
   |refine KA (p:=i0) (q:=n) (o':=i0) (m:=n-i0) ?_
   |refine cl ?_ (hi:=by exact xh hL (by omega) (by omega) (Nat.le_refl _) ho htab hno hy hyn hyis hyf (g:=0) rfl rfl)
   |refine jG (zs:=b7 ⟨0,0,false,fun _=>0,fun _=>0⟩) (hz:=gY) ?_
   |refine nr (cs:=b7 h) ?_ (hs1:=by rw[aD,aD]) (hs2:=by rw[aD,aD])
   |refine jV ?_ (hle:=by rw[aD])
   |refine RU (off:=0) (s:=131) ?_ (hs2:=by rw[bn];decide) (hv:=Ed lH h false .nils (0+((i0:Nat)-(0:Int))) (0+((i0:Nat)-(0:Int)+1))) (hs1:=by rw[aD]))
  |refine zz ?_|refine zx (fun _=>?_) (fun _=>?_)|fail)
 refine WX.label ?_;show WX _ _ _ _ _ _ _
 repeat' (first
  |(refine qz ?_;first
   |refine cl ?_ (hi:=by exact dO hL (by omega) (by omega) (frm:=i0+y) rfl (by omega) hf1 (g:=0) rfl rfl)
   |refine kY ?_
   |refine ld ?_ (hc:=qT ..)
   |refine ld ?_ (hc:=pr ..)
   |refine st ?_ (hle:=by rw[bn];decide) (hv:=mV ..)
   |refine st ?_ (hle:=by rw[bn];decide) (hv:=oe ..)
   |refine jV ?_ (hle:=by rw[bn]))
  |refine zz ?_|refine zx (fun _=>?_) (fun _=>?_)|fail)
 show aE _ _ _ _ _ _ _ _;refine kV [0] ?_ (hr:=fE.one rfl (.cell rfl rfl (bO (by rw[bn])) .nil)) (hok:=r4 trivial);have e1:0+((i0:Int)-0)+((n:Int)-((i0:Int)+(y:Nat)))=(i0:Nat)+((n:Int)-(i0+y:Nat)):=by omega
 have e2:0+((i0:Int)-0+1)+(y:Nat)+((n:Int)-((i0:Int)+(y:Nat)))=(i0:Nat)+1+(y:Nat)+((n:Int)-(i0+y:Nat)):=by omega
 rw[<-e1,<-e2];exact(oR (c := .nils) (c' := .nils) rfl).symm
theorem ME{W:List (List XC)}{g kk n:Nat}{b:List Int}(hL:W[kk]? = some (il .u8 b))(hbl:b.length=n)(hn:n<=100000000){h:Hd}{y i0:Nat}(hi0:findF (du b 0) n 0=some i0)(hi1:i0+2<n)(hh:Bq b n i0 h y)(he:findF (du b 0) n (i0+y)=none){pw wk:Int}(hpw:(i0:Nat)+((n:Int)-(i0+y:Nat))=pw)(hwk:(i0:Nat)+1+(y:Nat)+((n:Int)-(i0+y:Nat))=wk){HS:ah}(hi:HS[g]? = some (.late W))(hbd:Nat.blt HS.length Mem.bound=true) :
 az.Sound prog ⟨13,[.one (.lsl g kk 0 n n 0)],HS,.agg (gW h true .nils pw wk),HS,[]⟩:=by
 subst hpw hwk;exact fM [g] (Ka hL hbl hn hi0 hi1 hh he) (by simp) (.flat hi .nil) (.flat .nil) (.cons (show 0<1 by omega) .nil) (.cons rfl .nil) (r4 trivial) (oR rfl) hbd rfl
theorem IB{HS:ah}{i:Nat}(hi:HS[i]? = some (.cells (il .u8 [0,0,1]) 5 false false)){HS':ah}(hh:HS.set i .dead=HS')(hbd:Nat.blt HS'.length Mem.bound=true) :
 az.Sound prog ⟨13,[.one (.slice i 0 3 (.exact 3))],HS,.agg (gW lH false .nils 3 2),HS',[i]⟩:=
 bz [i] [i] 0 Fg (by simp) (.flat hi .nil) (.flat .nil) (.flat .nil) rfl (.cons (show 0<1 by omega) .nil) (.cons rfl .nil) (r4 trivial) (oR rfl) (.flat .nil) rfl rfl (by simp only[bE];exact(List.append_nil _).trans hh) hbd (.inl rfl)
theorem zf:bq prog 9 [] [] (.one (.bool true)) []:=by
 have hlow:=NJ;have hlay:=H5 PV.ps;have hnp:PV.ps.length=1:=rfl;have hse:pM lH [] []=PV:=rfl;have hno:=AI lH;rw[show gL lH=PV.hd from rfl]at hno
 obtain⟨s,hs⟩:∃s,PV=s:=⟨_,rfl⟩
 rw[hs]at hlow hlay hnp hse hno;have hok:=hlow.ok
 obtain⟨w,hw⟩:∃w,wide s.ps=w:=⟨_,rfl⟩
 obtain⟨B,hB⟩:∃B,E7 s.ps=B:=⟨_,rfl⟩
 rw[hw,hB]at hlay;have hyl:=jU s.hd;have hyb:=zy s.hd;have hg:=ug s.hd [];rw[List.append_nil]at hg;have hat:Bq (ie s.hd) (ie s.hd).length 0 s.hd (ie s.hd).length:=Dx (all:=0) (its:=[]) hok.hd hok.raw hno (fun x hx=>nomatch hx) (List.append_nil _).symm rfl (.inl rfl);have heq:=Qz s.hd
 obtain⟨Y,hY⟩:∃Y,ie s.hd=Y:=⟨_,rfl⟩
 rw[hY]at hyl hyb hg hat
 obtain⟨n,hn⟩:∃n,Y.length=n:=⟨_,rfl⟩
 rw[hn]at hyl hat;have hf0:findF (du Y 0) n 0=some 0:=kr (by omega) (by unfold du;exact⟨hg.1,hg.2.1,hg.2.2.1⟩);have hf1:findF (du Y 0) n (0+n)=none:=qi (by omega);refine cO Tryz.func9 ?_;refine WX.cq rfl ?_;refine WX.cq rfl ?_;refine WX.ghost rfl ?_
 repeat' (first
  |(refine qz ?_;first
   |refine sY (zs:=[.int .u8 0]) ?_
   |refine cl ?_ (hi:=by exact IB rfl nA rfl)
   |refine jG (zs:=gW lH false .nils 0 0) (hz:=m5) ?_
   |refine nr (cs:=gW lH false .nils 3 2) ?_ (hs1:=by rw[bn]) (hs2:=by rw[bn])
   |refine b0 (zs:=rn lH .nils .nils) (hz:=GG) ?_
   |refine cl ?_ (hi:=by exact xi DA (pics:=[]) (fun j h=>absurd h (Nat.not_lt_zero j)) (l:=[]) (fun j h=>absurd h (Nat.not_lt_zero j)) (ob0 := .dead) (ob1 := .dead) ⟨fun h=>absurd h (Nat.lt_irrefl _),inferInstance⟩ ⟨fun h=>absurd h (Nat.lt_irrefl _),inferInstance⟩ (i:=0) (j:=1) .nil .nil (by decide) (by decide) rfl rfl (by decide) hse hw hnp hB nL nA rfl)
   |refine jG (zs:=f9 lH .nils) (hz:=y7) ?_
   |refine nr (cs:=f9 s.hd (.lsl 5 w 0 1 1 0)) ?_ (hs1:=(dt _ _).symm) (hs2:=(dt _ _).symm)
   |refine jV ?_ (hle:=(dt _ _).symm)
   |refine cl ?_ (hi:=by exact zC hok.hd hok.raw hY hn nL nA rfl))
  |refine ll 4 ?_|refine zz ?_|refine zx (fun _=>?_) (fun _=>?_)|fail)
 refine⟨?_⟩;refine WX.sK (L:=[]) (vs:=il .u8 Y) (us:=il .u8 Y) 7 2 n (.toEnd 1) [(0,.one (.bool false)),(1,.one (.ptr 4 0)),(2,.one (.ptr 6 0)),(3,.one (.lsl 2 0 0 n n 0))] [.dead,.dead,.late [il .u8 Y],.dead,.cells (gW lH false .nils 3 2) 45 false false,.late B,.cells (f9 s.hd (.lsl 5 w 0 1 1 0)) 36 false false,.dead] (m:=0) (gB .u8 _ _) (.inr ⟨1,rfl,Nat.one_pos,by rw[bu,hn];omega⟩) rfl (hv:=eQ (gB .u8 _ 0) 2) (hH:=by repeat' (first|exact bh.nil|refine bh.ghost ?_|refine bh.dead ?_|refine bh.flat rfl ?_|refine bh.cells rfl (dM.same (tq trivial)) ?_|refine bh.cells rfl (dM.same (lr (fun h=>absurd h (by decide)))) ?_)) (hok:=(stM (objs:=by repeat' (first|exact aw.nil|refine aw.flat ?_|refine aw.cons (pR trivial) ?_|refine aw.cons (rV (show 5<_ from Nat.le_of_ble_eq_true rfl)) ?_|refine aw.cons trivial ?_)))) (h:=?_)
 repeat' (first
  |(refine qz ?_;first
   |refine cl ?_ (hi:=by exact ME (W:=[il .u8 Y]) (g:=2) (kk:=0) rfl hn (by omega) hf0 (by omega) hat hf1 (pw:=0) (wk:=((1+n:Nat):Int)) (by omega) (by omega) rfl rfl)
   |refine jG (zs:=gW lH false .nils 0 0) (hz:=m5) ?_
   |refine nr (cs:=gW s.hd true .nils 0 ((1+n:Nat):Int)) ?_ (hs1:=by rw[bn]) (hs2:=by rw[bn])
   |refine ld ?_ (hc:=Rx ..)
   |refine ld ?_ (hc:=pr ..)
   |refine rG (cs:=b7 s.hd) ?_ (hle:=by rw[bn];decide) (hc:=Ps ..)
   |refine rG (cs:=b7 s.hd) ?_ (hle:=by rw[dt];decide) (hc:=yv ..)
   |refine SV heq ?_)
  |refine zz ?_|refine zx (fun _=>?_) (fun _=>?_)|fail)
 show aE _ _ _ _ _ _ _ _;refine kV [] ?_;rfl
theorem tJ{HS:ah}(hbd:Nat.blt HS.length Mem.bound=true):az.Sound prog ⟨9,[],HS,.one (.bool true),HS,[]⟩:=ay zf rfl rfl hbd
theorem LR{s:o4}(hs:iv s):2<=(fU s).length:=by
 have hm:=hs.ok.many;have hcr:=oL hs.ok;have h0:=hs.ok.pics 0 (by omega);have hlen:(fU s).length=(pZ s.hd s.ps).length+1:=List.length_cons
 cases hp:s.ps with
 | nil=>rw[hp]at hm;simp at hm
 | cons p l=>
   rw[hp]at h0;have hg:o3 p.ph.inter p.ph.qp 0 p.gs (((s.hd.cols*s.hd.rows).toNat:Nat):Int):=h0.gs
   have hne:p.gs.length≠0:=fun e=>by
    rw[List.length_eq_zero_iff.1 e]at hg;have hg:(0:Int)=_:=hg;omega
   have e:pZ s.hd (p::l)=Nk s.hd p++pZ s.hd l:=rfl;have e2:(Nk s.hd p).length=p.gs.length:=List.length_map ..;rw[hlen,hp,e,List.length_append,e2];omega
theorem Pu{W:List (List XC)}{g kk n:Nat}{b:List Int}(hL:W[kk]? = some (il .u8 b))(hbl:b.length=n)(hn:n<=100000000)(hbB:bc b){h:Hd}{y i0:Nat}(hi0:findF (du b 0) n 0=some i0)(hi1:i0+2<n)(hh:Bq b n i0 h y){evs:List MT}(hst:Steps b n (h.cols*h.rows) (i0+y) evs){F:W9}(hF:evs.foldl w9 ⟨i0+y,(i0:Nat),(i0:Nat)+1+(y:Nat),[]⟩=F){l:List Fo}(hl:F.acc=l){m:Nat}(hm:l.length=m)(hm0:m≠0){pw wk:Int}(hpw:F.passed+((n:Int)-(F.at_:Nat))=pw)(hwk:F.work+((n:Int)-(F.at_:Nat))=wk){X:List (List XC)}(hX:Bl l++[jq 0 0 l]=X){HS:ah}(hi:HS[g]? = some (.late W)){N:Nat}(hN:HS.length=N){HS':ah}(hhs:HS++[.late X]=HS')(hbd:Nat.blt HS'.length Mem.bound=true) :
 az.Sound prog ⟨13,[.one (.lsl g kk 0 n n 0)],HS,.agg (gW h true (.lsl N (2*m) 0 m m 0) pw wk),HS',[g]⟩:=by
 subst hN hl hX hpw hwk;exact bz [g] [g] 1 (MF hL hbl hn hbB hi0 hi1 hh hst hF hm hm0) (by simp) (.flat hi .nil) (.flat .nil) (.flat (.flat .nil)) rfl (.cons (show 0<1 by omega) .nil) (.cons rfl .nil) (r4 (show 1<2 by omega)) (oR rfl) (.flat (.flat .nil)) rfl rfl (by simp only[bE];rw[aF hi];exact hhs) hbd (.inl rfl)
theorem t7{ps:List (List Int)}(h:∀i,bc (ps.getD i [])):∀n,bc (iS ps n)
 | 0=>gZ
 | n+1=>gk (t7 h n) (h n)
def lJ(Y:List Int):Nat->List Int
 | 0=>[]
 | k+1=>lJ Y k++Y
theorem At(Y:List Int):∀k,(lJ Y k).length=k*Y.length
 | 0=>(Nat.zero_mul _).symm
 | k+1=>by rw[lJ,List.length_append,At Y k,Nat.succ_mul]
theorem Gh{h:Hd}(hhr:o7 h){pics:List sW}(hpp:∀j,j<pics.length->kb (pics.getD j default)){l:List Sm}(hll:∀j,j<l.length->iQ (l.getD j default)){ob0 ob1:aj}(hr0:EA ob0 eL pics)(hr1:EA ob1 th l){c0 c1:XC}(hc0:cY c0 0 0 pics.length)(hc1:cY c1 1 0 l.length) :
 bq prog 5 [.agg (rn h c0 c1)] [ob0,ob1] (.one (.bool true)) [ob0,ob1]:=by
 have hfo0:=hr0.flat;have hfo1:=hr1.flat
 obtain⟨r1,hr1'⟩:∃r,(decide (pics.length<=30)&&decide (l.length<=300))=r:=⟨_,rfl⟩
 have hb133:133=(rn h c0 c1).length:=(Dj _ _ _).symm;refine cO Tryz.func5 ?_
 cases r1 with
 | false=>
   repeat' (first
    |(refine qz ?_;first
     |refine cl ?_ (hi:=by exact tJ rfl)
     |refine jV ?_ (hle:=hb133)
     |refine cl ?_ (hi:=by exact uw hfo0 hfo1 hc0 hc1 hr1' (i:=0) (j:=1) rfl rfl (by decide) rfl))
    |refine zz ?_|refine zx (fun _=>?_) (fun _=>?_)|fail)
   show aE _ _ _ _ _ _ _ _;refine kV [0,1] ?_;rfl
 | true =>
   have hlt:=hr1';simp only[Bool.and_eq_true,decide_eq_true_eq]at hr1';obtain⟨hn0,hn1⟩:=hr1';have hlow:=AH hhr hpp hll;have hno:(pM h pics l).hd.w=false->∀j,j<64->(pM h pics l).hd.a j=0/\(pM h pics l).hd.b j=0:=AI h;have hlay:=H5 (pM h pics l).ps
   obtain⟨s,hs⟩:∃s,pM h pics l=s:=⟨_,rfl⟩
   rw[hs]at hlow hlay hno;have hok:=hlow.ok;have hko:=OA hlow;have hk2:=LR hlow;have hplen:=LP s;have hit:=Rs hlow;have hby:=JP s;have hfl:∀p i,i<2*(dA s).length->cA ((nM p (kI s)).getD i default).k=((fU s).getD (1+i%(dA s).length) []).length:=fun p i hi=>Pg hi
   have hsane:∀p,xK (nM p (kI s)) (dA s).length:=fun p=>IQ hlow ⟨_,(rD _ p).trans (vk s)⟩
   have hfolen:∀p,(nM p (kI s)).length=2*(dA s).length:=fun p=>by
    have:=congrArg List.length (rD (kI s) p);rw[List.length_map,vk,List.length_append]at this;omega
   have hwaste:iI (kI s)=(ie s.hd).length:=by
    unfold kI;rw[oP,rZ,iI,rZ];omega
   have hp00:(fU s).getD 0 []=ie s.hd:=rfl
   obtain⟨M,hM⟩:∃M,(dA s).length=M:=⟨_,rfl⟩
   obtain⟨its,hits⟩:∃x,kI s=x:=⟨_,rfl⟩
   rw[hits]at hit hby hfl hsane hfolen hwaste;rw[hM]at hfl hsane hfolen hplen
   obtain⟨w,hw⟩:∃w,wide s.ps=w:=⟨_,rfl⟩
   obtain⟨B,hB⟩:∃B,E7 s.ps=B:=⟨_,rfl⟩
   obtain⟨np,hnp⟩:∃n,s.ps.length=n:=⟨_,rfl⟩
   rw[hw,hB]at hlay;have hbs:Ew (v7 (fU s)) (ic 0 (fU s)) (fU s):=Lq;have hbl:=E6 (fU s)
   obtain⟨ps,hps⟩:∃p,fU s=p:=⟨_,rfl⟩
   rw[hps]at hko hbs hbl hk2 hplen hby hfl hp00
   obtain⟨m,hm⟩:∃m,ps.length=m:=⟨_,rfl⟩
   obtain⟨PL,hPL⟩:∃P,v7 ps=P:=⟨_,rfl⟩
   rw[hPL]at hbs hbl;rw[hm]at hbl hplen hby hk2;have hMm:m=M+1:=hplen;have hM0:M≠0:=by omega
   have hm46:=hko.many;rw[hm]at hm46
   have hbx:∀j,j<m->(ic 0 ps)[j]? = some (.lsl 0 j 0 (ps.getD j []).length (ps.getD j []).length 0):=fun j hj=>by
    have:=xO ps 0 j (by omega);rw[List.getD_eq_getElem?_getD,List.getElem?_eq_getElem (show j<(ic 0 ps).length by rw[nC];omega),Option.getD_some,Nat.zero_add]at this;rw[List.getElem?_eq_getElem (show j<(ic 0 ps).length by rw[nC];omega),this]
   have hPe:∀j,j<m->PL[j]? = some (il .u8 (ps.getD j [])):=fun j hj=>by
    rw[<-hPL];unfold v7;rw[List.getElem?_append_left (by rw[List.length_map,hm];exact hj),List.getElem?_map,List.getElem?_eq_getElem (show j<ps.length by omega),List.getD_eq_getElem?_getD,List.getElem?_eq_getElem (show j<ps.length by omega)];rfl
   obtain⟨Y,hY⟩:∃Y,iS ps m=Y:=⟨_,rfl⟩
   rw[hY]at hby;have hYb:bc Y:=by rw[<-hY];exact t7 hko.byte m
   have hthd:∃x r,its=x::r/\∀l,x≠It.no l:=by rw[<-hits];exact Rr s
   have hyl:=jU s.hd;have hpass:=fun p s0 h1 h2 h3=>tp its p s0 h1 h2 h3
   have hYl:Y.length<=70000*46:=by
    have:=rC ps hko.few m;rw[hY]at this;omega
   repeat' (first
    |(refine qz ?_;first
     |refine cl ?_ (hi:=by exact tJ rfl)
     |refine jV ?_ (hle:=hb133)
     |refine cl ?_ (hi:=by exact uw hfo0 hfo1 hc0 hc1 hlt (i:=0) (j:=1) rfl rfl (by decide) rfl)
     |refine cl ?_ (hi:=by exact xi hhr hpp hll hr0 hr1 (i:=0) (j:=1) hc0 hc1 hn0 hn1 rfl rfl (by decide) hs hw hnp hB nL nA rfl)
     |refine jG (zs:=f9 lH .nils) (hz:=y7) ?_
     |refine nr (cs:=f9 s.hd (.lsl 3 w 0 np np 0)) ?_ (hs1:=(dt _ _).symm) (hs2:=(dt _ _).symm)
     |refine jV ?_ (hle:=(dt _ _).symm)
     |refine cl ?_ (hi:=by exact B_ hlow hlay hnp hps hm hPL (i:=3) rfl nL nA rfl))
    |refine ll 10 ?_|refine zz ?_|refine zx (fun _=>?_) (fun _=>?_)|fail)
   refine⟨?_⟩;refine WX.cq rfl ?_
   repeat' (first|refine zz ?_|refine zx (fun _=>?_) (fun _=>?_)|fail)
   refine WX.cj (σ:=Nat) (fun k=>[(4,.one (.lsl 2 m 0 m m 0)),(6,iq 3 (lJ Y k).length 1),(29,.one (.int .i64 (k:Nat)))]) (fun k=>[ob0,ob1,.late PL,bR 5 (il .u8 (lJ Y k))]) (fun k=>k<=2) (fun k=>2-k) 0 (Nat.zero_le _) (fun k _=>stM) (bV [0,1,5,6]) ?_;intro k hk ih;have hrl:(lJ Y k).length<=2*Y.length:=by rw[At];exact Nat.mul_le_mul_right _ hk
   by_cases hlt2:k<2
   ·repeat' (first
     |(refine qz ?_;first
      |refine kY ?_)
     |refine zz ?_|refine zx (fun _=>?_) (fun _=>?_)|fail)
    refine WX.cj (σ:=Nat) (fun j=>[(4,.one (.lsl 2 m 0 m m 0)),(29,.one (.int .i64 (k:Nat))),(31,.one (.lsl 2 m 0 m m 0)),(32,.one (.int .i64 (m:Nat))),(6,iq 3 (lJ Y k++iS ps j).length 1),(33,.one (.int .i64 (j:Nat)))]) (fun j=>[ob0,ob1,.late PL,bR 5 (il .u8 (lJ Y k++iS ps j))]) (fun j=>j<=m) (fun j=>m-j) 0 (Nat.zero_le _) (fun j _=>stM) (bV [0,1,2,3] (obj:=by(repeat' (first|exact af.nil|refine af.flat (by rw[show lJ Y k++iS ps 0=lJ Y k from List.append_nil _];rfl) ?_|refine oz ?_));first|done|fail) (reg:=by(repeat' (first|exact ai.nil|refine ai.rU rfl rfl (by rw[show lJ Y k++iS ps 0=lJ Y k from List.append_nil _]) ?_|refine rz ?_|refine ai.sl rfl (by assumption) rfl ?_));first|done|fail)) ?_;intro j hj ih2;have hal:=rC ps hko.few j
    by_cases hltj:j<m
    ·obtain⟨y,x,h1,h2,h3⟩:=Qs hbs (i:=j) (by omega) 2;have hpk:=hko.few j;have hp1:=hko.pos j (by omega);have hs1:lJ Y k++iS ps (j+1)=(lJ Y k++iS ps j)++ps.getD j []:=(List.append_assoc ..).symm
     obtain⟨p,hpe⟩:∃p,ps.getD j []=p:=⟨_,rfl⟩
     have hal2:(lJ Y k++iS ps j).length<=2*Y.length+70000*j:=by rw[List.length_append];omega
     obtain⟨A,hA⟩:∃A,lJ Y k++iS ps j=A:=⟨_,rfl⟩
     rw[hpe]at h3 hpk hp1 hs1;rw[hA]at hal2 hs1;rw[hA]
     repeat' (first
      |(refine qz ?_;first
       |refine kY ?_
       |refine mf ?_
       |refine v9 ?_ hbl h1 h2
       |refine R9 h3 ?_)
      |refine zz ?_|refine zx (fun _=>?_) (fun _=>?_)|fail)
     exact ih2 (j+1) _ _ _ (bV [0,1,2,4] (obj:=by(repeat' (first|exact af.nil|refine af.flat (by rw[hs1];rfl) ?_|refine oz ?_));first|done|fail) (reg:=by(repeat' (first|exact ai.nil|refine ai.rU rfl rfl (by rw[hs1,List.length_append]) ?_|refine rz ?_|refine ai.sl rfl (by assumption) rfl ?_));first|done|fail)) (by omega) (by omega)
    ·obtain rfl:j=m:=by omega
     rw[hY,show lJ Y k++Y=lJ Y (k+1)from rfl]
     repeat' (first
      |(refine qz ?_;first
       |refine kY ?_)
      |refine zz ?_|refine zx (fun _=>?_) (fun _=>?_)|fail)
     exact ih (k+1) _ _ _ (bV [0,1,2,3]) (by omega) (by omega)
   ·obtain rfl:k=2:=by omega
    have hrb:lJ Y 2=ie s.hd++eD its:=hby;have hrB:bc (lJ Y 2):=gk (gk gZ hYb) hYb
    obtain⟨b,hb⟩:∃b,lJ Y 2=b:=⟨_,rfl⟩
    rw[hb]at hrl hrb hrB;rw[hb];have hbl2:=congrArg List.length hrb;rw[List.length_append]at hbl2;have hf0:=EX (pre:=[]) (b:=b) (h:=s.hd) (r:=eD its) (fun x hx=>nomatch hx) hrb;rw[List.length_nil]at hf0;have hat:Bq b b.length 0 s.hd (ie s.hd).length:=Dx hok.hd hok.raw hno hit hrb rfl (.inr hthd)
    obtain⟨y,hy⟩:∃y,(ie s.hd).length=y:=⟨_,rfl⟩
    have hdr:b.drop y=eD its:=by rw[hrb,<-hy,List.drop_left' rfl]
    rw[hy]at hat hyl hbl2 hwaste
    obtain⟨n,hn⟩:∃n,b.length=n:=⟨_,rfl⟩
    rw[hn]at hat hrl hbl2 hf0;have hst:Steps b n (s.hd.cols*s.hd.rows) (0+y) (nj y its):=qL hn its y (0+y) hit hdr (by omega) (by omega) fun j h1 h2=>by omega
    obtain⟨F,hF⟩:∃F,(nj y its).foldl w9 ⟨0+y,((0:Nat):Int),((0:Nat):Int)+1+(y:Nat),[]⟩=F:=⟨_,rfl⟩
    have hw9:=hpass y ⟨0+y,((0:Nat):Int),((0:Nat):Int)+1+(y:Nat),[]⟩ (by show 0+y<=y;omega) (by show(0:Int)<=((0:Nat):Int)+1+(y:Nat);omega) (by show((0:Nat):Int)+1+(y:Nat)<=2*((0+y:Nat):Int)+2;omega);rw[hF,hwaste]at hw9;obtain⟨k1,k2,-,-,-⟩:=hw9;have k1:F.acc=nM y its:=k1
    have hpw:F.passed+((n:Int)-(F.at_:Nat))=(y:Nat):=by
     have k2:F.passed+(((y+(eD its).length:Nat):Int)-(F.at_:Nat))=((0:Nat):Int)+((y:Int)-((0+y:Nat):Int))+(y:Nat):=k2;rw[hbl2,k2];omega
    obtain⟨fo,hfo⟩:∃fo,nM y its=fo:=⟨_,rfl⟩
    have hsn:=hsane y;have hlens:=fun i hi=>hfl y i hi
    have hfol:=hfolen y;rw[hfo]at hsn hlens hfol k1
    obtain⟨wk,hwk⟩:∃wk,F.work+((n:Int)-(F.at_:Nat))=wk:=⟨_,rfl⟩
    obtain⟨X,hX⟩:∃X,Bl fo++[jq 0 0 fo]=X:=⟨_,rfl⟩
    have hXl:X[2*(2*M)]? = some (jq 0 0 fo):=by
     rw[<-hX,List.getElem?_append_right (by rw[oE,hfol];exact Nat.le_refl _),oE,hfol,Nat.sub_self];rfl
    obtain⟨kk,hkk⟩:∃kk,PL.length=kk:=⟨_,rfl⟩
    have hWk:(PL++[il .u8 b])[kk]? = some (il .u8 b):=by
     rw[List.getElem?_append_right (by omega),hkk,Nat.sub_self];rfl
    have hWl:(PL++[il .u8 b])[m]? = some (ic 0 ps):=by
     rw[List.getElem?_append_left (by exact(List.getElem?_eq_some_iff.1 hbl).1)];exact hbl
    have hsb:bR 5 (il .u8 b) = .cells (il .u8 b) 5 true false:=u_ (by omega);rw[hsb,hn,fi (show n≠0 by omega)]
    repeat' (first|refine ll 18 ?_|refine uc 18 ?_|refine M8 18 ?_|refine zz ?_|refine zx (fun _=>?_) (fun _=>?_)|fail)
    refine⟨?_⟩;refine WX.sK (L:=PL) (vs:=il .u8 b) (us:=il .u8 b) 3 2 n (.toEnd 1) [(4,.one (.lsl 2 m 0 m m 0)),(6,.one (.lsl 2 kk 0 n n 0))] [ob0,ob1,.late (PL++[il .u8 b]),.dead] (m:=kk) (gB .u8 _ _) (.inr ⟨1,rfl,Nat.one_pos,by rw[bu,hn];omega⟩) hkk (hv:=eQ (gB .u8 _ 0) 2) (hR:=by repeat' (first|exact ib.nil|refine ib.flat rfl ?_|refine ib.one rfl oZ.BN ?_|refine ib.one rfl (oZ.same (fun _=>by have:=(List.getElem?_eq_some_iff.1 hbl).1;omega)) ?_)) (h:=?_)
    have hfun:∀i,i<2*M->((jq 0 0 fo).drop (i*12)).take 12=x4 0 i (fo.getD i default):=fun i hi=>by
     have:=x5 0 fo 0 i (by omega);rwa [Nat.zero_add]at this
    have hrl2:(jq 0 0 fo).length=2*M*12:=by rw[oF,hfol]
    have hb0:=hbx 0 (by omega);rw[hp00,hy]at hb0
    repeat' (first
     |(refine qz ?_;first
      |refine cl ?_ (hi:=by exact Pu (g:=2) hWk hn (by omega) hrB hf0.1 hf0.2 hat hst hF k1 hfol (by omega) hpw hwk hX rfl nL nA rfl)
      |refine jG (zs:=gW lH false .nils 0 0) (hz:=m5) ?_
      |refine nr (cs:=gW s.hd true (.lsl 4 (2*(2*M)) 0 (2*M) (2*M) 0) (y:Nat) wk) ?_ (hs1:=by rw[bn]) (hs2:=by rw[bn])
      |refine kY ?_
      |refine ld ?_ (hc:=J7 ..)
      |refine ld ?_ (hc:=pr ..)
      |refine mf ?_
      |refine v9 ?_ hWl hb0 rfl)
     |refine zz ?_|refine zx (fun _=>?_) (fun _=>?_)|fail)
    have hM1:((M:Nat):Int)=(m:Int)-1:=by omega
    obtain⟨W,hW⟩:∃W,PL++[il .u8 b]=W:=⟨_,rfl⟩
    rw[hW]at hWl ⊢;refine WX.cj (σ:=Nat) (fun i=>[(4,.one (.lsl 2 m 0 m m 0)),(9,.one (.ptr 4 0)),(10,.one (.int .i64 (M:Nat))),(63,.one (.lsl 3 (2*(2*M)) 0 (2*M) (2*M) 0)),(64,.one (.int .i64 ((2*M:Nat):Int))),(65,.one (.int .i64 (i:Nat)))]) (fun i=>[ob0,ob1,.late W,.late X,.cells (gW s.hd true (.lsl 3 (2*(2*M)) 0 (2*M) (2*M) 0) (y:Nat) wk) 45 false false]) (fun i=>i<=2*M) (fun i=>2*M-i) 0 (Nat.zero_le _) (fun i _=>(stM (objs:=by repeat' (first|exact aw.nil|refine aw.flat ?_|refine aw.cons (pR (show 3<_ from Nat.le_of_ble_eq_true rfl)) ?_|refine aw.cons trivial ?_)))) (bV [0,1,2,4,5] (obj:=by(repeat' (first|exact af.nil|refine ly rfl rfl rfl rfl ?_|refine oz ?_));first|done|fail) (reg:=by(repeat' (first|exact ai.nil|refine ai.flat (by rw[hM1];rfl) ?_|refine rz ?_|refine ai.sl rfl (by assumption) rfl ?_));first|done|fail)) ?_;intro i hi ih
    by_cases hlt3:i<2*M
    ·have hc:=hfun i hlt3;have hle:i*12+12<=(jq 0 0 fo).length/\0<12:=by omega
     have hln:=hlens i hlt3;have hmm:i%M<M:=Nat.mod_lt _ (by omega);have hme:(i:Int)%(M:Int)=((i%M:Nat):Int):=(Int.natCast_emod i M).symm;have hbi:=hbx (1+i%M) (by omega)
     obtain⟨f,hf⟩:∃f,fo.getD i default=f:=⟨_,rfl⟩
     rw[hf]at hc hln
     repeat' (first
      |(refine qz ?_;first
       |refine mf (p:=1+i%M) ?_ (hz:=by rw[hme];omega) (hp:=by rw[hme];omega)
       |refine mf ?_
       |refine H6 (cs:=x4 0 i f) ?_ hXl hle hc (hc':=rfl)
       |refine jG (zs:=qM++[.int .i64 0]) (hz:=ox) ?_
       |refine v9 ?_ hWl hbi rfl
       |refine kY ?_)
      |refine zz ?_|refine zx (fun _=>?_) (fun _=>?_)|fail)
     exact ih (i+1) _ _ _ (bV [0,1,2,3,4] (obj:=by(repeat' (first|exact af.nil|refine ly rfl rfl rfl rfl ?_|refine oz ?_));first|done|fail)) (by omega) (by omega)
    ·obtain rfl:i=2*M:=by omega
     repeat' (first
      |(refine qz ?_;first
       |refine ld ?_ (hc:=J7 ..)
       |refine Ta (p:=0) (q:=M) ?_
       |refine cl ?_ (hi:=by exact L6 (g:=3) (l:=fo) hXl (by omega) (by omega) (by omega) (by omega) hsn rfl nL nA rfl))
      |refine zz ?_|refine zx (fun _=>?_) (fun _=>?_)|fail)
     show aE _ _ _ _ _ _ _ _;refine kV [0,1] ?_;rfl
end Go.Proofs.YthdciapjllppjaaGreat
namespace Go.Xm
inductive dN where
 | int (k:IntKind)
 | bool
def dN.has:dN->Value->Prop
 | .int k,v=>∃z,v = .int k z/\(Lit.int k z).wf=true
 | .bool,v=>∃b,v = .bool b
def lint:Value->Int
 | .int _ z=>z
 | _=>0
def uq:Value->Bool
 | .bool b=>b
 | _=>false
def dN.cell(l:dN)(v:Value):XC:=match l with
 | .int k => .int k (lint v)
 | .bool => .bool (uq v)
theorem dN.den[ak]{l:dN}{v:Value}(h:l.has v)(β : Env):(l.cell v).den β = v:=by
 cases l with
 | int k=>obtain⟨z,rfl,_⟩:=h;rfl
 | bool=>obtain⟨b,rfl⟩:=h;rfl
def eT(P:Program)(t:TypeId)(ks:List dN):Prop:=
 P.cellsOf t=ks.length/\∀(H:Type) (enc:TypeId×Value->H) (w:World) (base:Nat) (spare:Nat->Bool) (held:Bool) (fuel:Nat) (cs:List Value) (x:DataW H×List MemPlace),
  DataW.trod enc P w base spare held fuel t cs=some x->cs.length=ks.length/\∀(j:Nat) (l:dN),ks[j]? = some l->∃v,cs[j]? = some v/\l.has v
variable {P:Program} {t:TypeId}
theorem eT.int{k:IntKind}(ht:P.underlying t=some (.int k))(hc:P.cellsOf t=1):eT P t [.int k]:=by
 refine⟨hc,fun H enc w base spare held fuel cs x h=>?_⟩;obtain⟨n,rfl,_,hw⟩:=DataW.trod_int ht h;refine⟨rfl,fun j l hj=>?_⟩
 match j,hj with
 | 0,hj=>cases hj;exact⟨_,rfl,n,rfl,hw⟩
 | j+1,hj=>simp at hj
theorem eT.bool(ht:P.underlying t=some .bool)(hc:P.cellsOf t=1):eT P t [.bool]:=by
 refine⟨hc,fun H enc w base spare held fuel cs x h=>?_⟩;obtain⟨b,rfl,_⟩:=DataW.trod_bool ht h;refine⟨rfl,fun j l hj=>?_⟩
 match j,hj with
 | 0,hj=>cases hj;exact⟨_,rfl,b,rfl⟩
 | j+1,hj=>simp at hj
def iP(ks:List dN):Nat->List dN
 | 0=>[]
 | n+1=>ks++iP ks n
theorem lY(ks:List dN):∀n,(iP ks n).length=n*ks.length
 | 0=>by simp[iP]
 | n+1=>by rw[iP,List.length_append,lY ks n,Nat.add_mul,Nat.one_mul,Nat.add_comm]
theorem Au{ks:List dN}{l:dN}:∀(n j:Nat),(iP ks n)[j]? = some l->∃i r,i<n/\j=i*ks.length+r/\ks[r]? = some l
 | 0,j,h=>by simp[iP]at h
 | n + 1,j,h=>by
   rw[iP]at h
   by_cases hj:j<ks.length
   ·rw[List.getElem?_append_left hj]at h;exact⟨0,j,Nat.succ_pos _,by simp,h⟩
   ·rw[List.getElem?_append_right (by omega)]at h;obtain⟨i,r,hi,hr,hl⟩:=Au n (j-ks.length) h;exact⟨i+1,r,by omega,by rw[Nat.add_mul,Nat.one_mul];omega,hl⟩
theorem eT.array{n:Nat}{e:TypeId}{ks:List dN}(ht:P.underlying t=some (.array n e))(he:eT P e ks)(hc:P.cellsOf t=n*ks.length):eT P t (iP ks n):=by
 refine⟨by rw[hc,lY],fun H enc w base spare held fuel cs x h=>?_⟩;obtain⟨xs,m,_,_,hlen,hxl,hx⟩:=DataW.trod_array ht h;refine⟨by rw[hlen,hc,lY],fun j l hj=>?_⟩;obtain⟨i,r,hi,rfl,hr⟩:=Au n j hj;have hxi:xs[i]? = some (xs[i]'(by omega)):=List.getElem?_eq_getElem (by omega);obtain⟨hl,hv⟩:=he.2 H enc w base spare held m _ _ ((hx i hi).trans hxi);obtain⟨v,hv1,hv2⟩:=hv r l hr;refine⟨v,?_,hv2⟩;have hrl:r<ks.length:=(List.getElem?_eq_some_iff.1 hr).1;rw[he.1,List.getElem?_take_of_lt hrl,List.getElem?_drop]at hv1;exact hv1
theorem E2{kss:List (List dN)}{l:dN}:∀{j:Nat},kss.flatten[j]? = some l->∃i ks r,kss[i]? = some ks/\j=((kss.take i).flatten).length+r/\ks[r]? = some l:=by
 induction kss with
 | nil=>intro j h;simp at h
 | cons ks kss ih=>
   intro j h;rw[List.flatten_cons]at h
   by_cases hj:j<ks.length
   ·rw[List.getElem?_append_left hj]at h;exact⟨0,ks,j,rfl,by simp,h⟩
   ·rw[List.getElem?_append_right (by omega)]at h;obtain⟨i,ks',r,h1,h2,h3⟩:=ih h;refine⟨i+1,ks',r,h1,?_,h3⟩;rw[List.take_succ_cons,List.flatten_cons,List.length_append];omega
theorem eT.struct{fs:Array Field}(kss:List (List dN))(ht:P.underlying t=some (.struct fs))(hn:kss.length=fs.size)(hf:∀(i:Nat) (f:Field) (ks:List dN),fs[i]? = some f->kss[i]? = some ks->eT P f.type ks/\f.offset=((kss.take i).flatten).length)(hc:P.cellsOf t=kss.flatten.length):eT P t kss.flatten:=by
 refine⟨hc,fun H enc w base spare held fuel cs x h=>?_⟩;obtain⟨xs,m,_,_,hlen,hxl,hx⟩:=DataW.trod_struct ht h;refine⟨by rw[hlen,hc],fun j l hj=>?_⟩;obtain⟨i,ks,r,h1,rfl,h3⟩:=E2 hj
 have hi:i<fs.size:=by
  have:=(List.getElem?_eq_some_iff.1 h1).1;omega
 have hfi:fs[i]? = some fs[i]:=Array.getElem?_eq_getElem hi;obtain⟨hl,ho⟩:=hf i _ ks hfi h1;have hxi:xs[i]? = some (xs[i]'(by omega)):=List.getElem?_eq_getElem (by omega);obtain⟨_,hv⟩:=hl.2 H enc w base spare held m _ _ ((hx i _ hfi).trans hxi);obtain⟨v,hv1,hv2⟩:=hv r l h3;refine⟨v,?_,hv2⟩;have hrl:r<ks.length:=(List.getElem?_eq_some_iff.1 h3).1;rw[hl.1,List.getElem?_take_of_lt hrl,List.getElem?_drop,ho]at hv1;exact hv1
def jv:List dN->(Nat->Value)->Nat->List XC
 | [],_,_=>[]
 | l::ks,g,j=>l.cell (g j)::jv ks g (j+1)
theorem rH:∀(ks:List dN) (g:Nat->Value) (o j:Nat),(jv ks g o)[j]? = (ks[j]?).map fun l=>l.cell (g (o+j))
 | [],g,o,j=>by simp[jv]
 | l::ks,g,o,0=>rfl
 | l::ks,g,o,j+1=>by
   rw[jv,List.getElem?_cons_succ,rH ks g (o+1) j,List.getElem?_cons_succ];rw[show o+1+j=o+(j+1) by omega]
def nR(ks:List dN)(g:Nat->Value)(o:Nat):Prop:=∀(j:Nat) (l:dN),ks[j]? = some l->l.has (g (o+j))
theorem wV[ak]{ks:List dN}{cs:List Value}(hl:cs.length=ks.length)(h:∀(j:Nat) (l:dN),ks[j]? = some l->∃v,cs[j]? = some v/\l.has v)(β : Env):cs=(jv ks (fun j=>cs.getD j .nilIface) 0).map (·.den β)/\nR ks (fun j=>cs.getD j .nilIface) 0:=by
 have hv:∀j l,ks[j]? = some l->l.has (cs.getD j .nilIface)/\cs[j]? = some (cs.getD j .nilIface):=fun j l hj=>by
  obtain⟨v,h1,h2⟩:=h j l hj;rw[List.getD_eq_getElem?_getD,h1];exact⟨h2,rfl⟩
 refine⟨List.ext_getElem? fun j=>?_,fun j l hj=>by rw[Nat.zero_add];exact(hv j l hj).1⟩;rw[List.getElem?_map,rH,Nat.zero_add]
 by_cases hj:j<ks.length
 ·have hk:ks[j]? = some ks[j]:=List.getElem?_eq_getElem hj;obtain⟨h1,h2⟩:=hv j _ hk;rw[hk];show cs[j]? = some ((ks[j].cell (cs.getD j .nilIface)).den β);rw[dN.den h1,h2]
 ·rw[List.getElem?_eq_none (by omega),List.getElem?_eq_none (by omega)];rfl
end Go.Xm
namespace Go.Proofs.YthdciapjllppjaaGreat
open Go.ChangeShapes Go.WideShapes Go.ChangeAt Go.RowKit Go.Deep Go.Xm
def H3:List dN:=[[dN.bool],iP [.int .u8] 64,iP [.int .u8] 64].flatten
def HZ:List dN:=[[dN.int .i64],[.int .i64],H3].flatten
def QV:List dN:=[iP [dN.int .i8] 4,iP [.int .i8] 4,[.bool]].flatten
def H2:List dN:=[[dN.int .u8],[.int .u8],QV,[.bool],iP [.int .u64] 6,[.int .u32],[.bool]].flatten
theorem zO:eT prog 5 [.int .u8] := .int Tryz.underlying5 (by kernel_rfl)
theorem QY:eT prog 91 [.int .i8] := .int Tryz.underlying91 (by kernel_rfl)
theorem Of:eT prog 95 [.int .u64] := .int Tryz.underlying95 (by kernel_rfl)
theorem Oe:eT prog 97 [.int .u32] := .int Tryz.underlying97 (by kernel_rfl)
theorem Ij:eT prog 3 [.int .i64] := .int Tryz.underlying3 (by kernel_rfl)
theorem oG:eT prog 4 [.bool] := .bool Tryz.underlying4 (by kernel_rfl)
theorem Ii:eT prog 22 (iP [.int .u8] 64) := .array Tryz.underlying22 zO (by kernel_rfl)
theorem M_:eT prog 92 (iP [.int .i8] 4) := .array Tryz.underlying92 QY (by kernel_rfl)
theorem QX:eT prog 96 (iP [.int .u64] 6) := .array Tryz.underlying96 Of (by kernel_rfl)
theorem Od:eT prog 24 H3:=by
 refine .struct _ Tryz.underlying24 rfl (fun i f ks hi hk=>?_) (by kernel_rfl)
 match i,hi,hk with
 | 0,hi,hk=>cases hi;cases hk;exact⟨oG,rfl⟩
 | 1,hi,hk=>cases hi;cases hk;exact⟨Ii,rfl⟩
 | 2,hi,hk=>cases hi;cases hk;exact⟨Ii,rfl⟩
 | i+3,hi,hk=>simp at hk
theorem Na:eT prog 26 HZ:=by
 refine .struct _ Tryz.underlying26 rfl (fun i f ks hi hk=>?_) (by kernel_rfl)
 match i,hi,hk with
 | 0,hi,hk=>cases hi;cases hk;exact⟨Ij,rfl⟩
 | 1,hi,hk=>cases hi;cases hk;exact⟨Ij,rfl⟩
 | 2,hi,hk=>cases hi;cases hk;exact⟨Od,rfl⟩
 | i+3,hi,hk=>simp at hk
theorem Q0:eT prog 94 QV:=by
 refine .struct _ Tryz.underlying94 rfl (fun i f ks hi hk=>?_) (by kernel_rfl)
 match i,hi,hk with
 | 0,hi,hk=>cases hi;cases hk;exact⟨M_,rfl⟩
 | 1,hi,hk=>cases hi;cases hk;exact⟨M_,rfl⟩
 | 2,hi,hk=>cases hi;cases hk;exact⟨oG,rfl⟩
 | i+3,hi,hk=>simp at hk
theorem QZ:eT prog 99 H2:=by
 refine .struct _ Tryz.underlying99 rfl (fun i f ks hi hk=>?_) (by kernel_rfl)
 match i,hi,hk with
 | 0,hi,hk=>cases hi;cases hk;exact⟨zO,rfl⟩
 | 1,hi,hk=>cases hi;cases hk;exact⟨zO,rfl⟩
 | 2,hi,hk=>cases hi;cases hk;exact⟨Q0,rfl⟩
 | 3,hi,hk=>cases hi;cases hk;exact⟨oG,rfl⟩
 | 4,hi,hk=>cases hi;cases hk;exact⟨QX,rfl⟩
 | 5,hi,hk=>cases hi;cases hk;exact⟨Oe,rfl⟩
 | 6,hi,hk=>cases hi;cases hk;exact⟨oG,rfl⟩
 | i+7,hi,hk=>simp at hk
theorem zK(a b:List dN)(g:Nat->Value):∀o,jv (a++b) g o=jv a g o++jv b g (o+a.length):=by
 induction a with
 | nil=>intro o;rfl
 | cons l a ih=>
   intro o;rw[List.cons_append,jv,ih,jv,List.cons_append,List.length_cons];rw[show o+1+a.length=o+(a.length+1) by omega]
theorem wW(k:IntKind)(g:Nat->Value):∀n o,jv (iP [.int k] n) g o=ti k n fun i=>lint (g (o+i)):=by
 intro n
 induction n with
 | zero=>intro o;rfl
 | succ n ih=>
   intro o;rw[iP,zK,ih];unfold ti;rw[List.range_succ_eq_map,List.map_cons,List.map_map];show _::_=_::_
   congr 1
   refine List.map_congr_left fun i _=>?_
   show XC.int k (lint (g (o+1+i)))=XC.int k (lint (g (o+(i+1))));rw[show o+1+i=o+(i+1) by omega]
def HL(g:Nat->Value):Hd:=⟨lint (g 0),lint (g 1),uq (g 2),fun i=>lint (g (3+i)),fun i=>lint (g (67+i))⟩
def Rh(g:Nat->Value):Sm:=⟨lint (g 0),lint (g 1),⟨fun i=>lint (g (2+i)),fun i=>lint (g (6+i)),uq (g 10)⟩,uq (g 11),fun i=>lint (g (12+i)),lint (g 18),uq (g 19)⟩
theorem yc:HZ = [dN.int .i64,.int .i64,.bool]++(iP [.int .u8] 64++iP [.int .u8] 64):=by
 simp only[HZ,H3,List.flatten_cons,List.flatten_nil,List.append_nil,List.cons_append,List.nil_append]
theorem H7(g:Nat->Value):jv HZ g 0=b7 (HL g):=by
 rw[yc];simp only[List.cons_append,List.nil_append,jv];rw[zK,wW,wW,lY];rfl
theorem H8(g:Nat->Value):jv H2 g 0=th (Rh g):=rfl
theorem H9{k:IntKind}{v:Value}(h:(dN.int k).has v):(Lit.int k (lint v)).wf=true:=by
 obtain⟨z,rfl,hz⟩:=h;exact hz
theorem u1(l:dN):∀n,iP [l] n=List.replicate n l
 | 0=>rfl
 | n+1=>by rw[iP,u1 l n,List.replicate_succ];rfl
theorem DS(l:dN){n i:Nat}(h:i<n)(r:List dN):(iP [l] n++r)[i]? = some l:=by
 rw[List.getElem?_append_left (by rw[u1,List.length_replicate];exact h),u1,List.getElem?_replicate,if_pos h]
theorem ok_int{ks:List dN}{g:Nat->Value}(h:nR ks g 0){j:Nat}{k:IntKind}(hj:ks[j]? = some (.int k)):(Lit.int k (lint (g j))).wf=true:=by
 have:=H9 (h j _ hj);rwa [Nat.zero_add]at this
theorem N4{g:Nat->Value}(h:nR HZ g 0):o7 (HL g):=by
 refine⟨bounds_i64 (ok_int h rfl),bounds_i64 (ok_int h rfl),fun i h64=>⟨bounds_u8 (ok_int h ?_),bounds_u8 (ok_int h ?_)⟩⟩
 ·rw[Nat.add_comm];rw[yc];show(iP [dN.int .u8] 64++iP [.int .u8] 64)[i]? = _;exact DS _ h64 _
 ·rw[show 67+i=(64+i)+3 by omega];rw[yc];show(iP [dN.int .u8] 64++iP [.int .u8] 64)[64+i]? = _;rw[List.getElem?_append_right (by rw[lY];simp),lY];simp only[List.length_cons,List.length_nil,Nat.zero_add,Nat.mul_one,Nat.add_sub_cancel_left];rw[<-List.append_nil (iP _ 64)];exact DS _ h64 _
theorem O4{g:Nat->Value}(h:nR H2 g 0):iQ (Rh g):=by
 have i8:∀{j},H2[j]? = some (.int .i8) -> -128<=lint (g j)/\lint (g j)<128:=fun {j} hj=>by
  have:=bounds_i8 (ok_int h hj);omega
 have u64:∀{j},H2[j]? = some (.int .u64)->0<=lint (g j)/\lint (g j)<18446744073709551616:=fun {j} hj=>by
  have:=bounds_u64 (ok_int h hj);omega
 refine⟨bounds_u8 (ok_int h rfl),bounds_u8 (ok_int h rfl),⟨fun k hk=>?_,fun k hk=>?_⟩,fun k hk=>?_,?_⟩
 ·match k,hk with
  | 0,_=>exact i8 rfl
  | 1,_=>exact i8 rfl
  | 2,_=>exact i8 rfl
  | 3,_=>exact i8 rfl
 ·match k,hk with
  | 0,_=>exact i8 rfl
  | 1,_=>exact i8 rfl
  | 2,_=>exact i8 rfl
  | 3,_=>exact i8 rfl
 ·match k,hk with
  | 0,_=>exact u64 rfl
  | 1,_=>exact u64 rfl
  | 2,_=>exact u64 rfl
  | 3,_=>exact u64 rfl
  | 4,_=>exact u64 rfl
  | 5,_=>exact u64 rfl
 ·have:=bounds_u32 (ok_int h (j:=18) rfl);show 0<=lint (g 18)/\lint (g 18)<4294967296;omega
variable [ak]
section
variable {H:Type} {enc:TypeId×Value->H} {w:World} {base:Nat} {spare:Nat->Bool} {held:Bool}
theorem H_{t:TypeId}{ks:List dN}(hl:eT prog t ks){fuel:Nat}{cs:List Value}{x:Option (DataW H×List MemPlace)}{y:DataW H×List MemPlace}(h:DataW.trod enc prog w base spare held fuel t cs=x)(hx:x=some y):∃g,nR ks g 0/\∀β : Env,cs=(jv ks g 0).map (·.den β):=by
 obtain⟨h1,h2⟩:=hl.2 H enc w base spare held fuel cs y (h.trans hx);exact⟨_,(wV h1 h2 Env.zero).2,fun β=>(wV h1 h2 β).1⟩
end
end Go.Proofs.YthdciapjllppjaaGreat
namespace Go.Proofs.YthdciapjllppjaaGreat
open Go.ChangeShapes Go.WideShapes Go.ChangeAt Go.RowKit Go.Deep Go.Xm
def H0:List dN:=[[dN.bool],[.bool],[.int .u8],[.int .u8]].flatten
theorem Oc:eT prog 84 H0:=by
 refine .struct _ Tryz.underlying84 rfl (fun i f ks hi hk=>?_) (by kernel_rfl)
 match i,hi,hk with
 | 0,hi,hk=>cases hi;cases hk;exact⟨oG,rfl⟩
 | 1,hi,hk=>cases hi;cases hk;exact⟨oG,rfl⟩
 | 2,hi,hk=>cases hi;cases hk;exact⟨zO,rfl⟩
 | 3,hi,hk=>cases hi;cases hk;exact⟨zO,rfl⟩
 | i+4,hi,hk=>simp at hk
variable [ak]
def Ni(g:Nat->Value):sW:=⟨uq (g 0),uq (g 1),lint (g 2),lint (g 3)⟩
theorem E9(g:Nat->Value):jv H0 g 0=eL (Ni g):=rfl
theorem LM{g:Nat->Value}(h:nR H0 g 0):kb (Ni g):=⟨bounds_u8 (ok_int h rfl),bounds_u8 (ok_int h rfl)⟩
section
variable {H:Type} {enc:TypeId×Value->H} {w:World} {base:Nat} {spare:Nat->Bool} {held:Bool}
set_option maxRecDepth 100000 in
theorem DR{α : Type}[Inhabited α]{f : α->List XC}{s:Nat}[hE:oY f s]{ks:List dN}{te:TypeId}(hl:eT prog te ks)(hks:ks.length=s){of:(Nat->Value) -> α}(hof:∀g,jv ks g 0=f (of g)){raw : α->Prop}(hraw:∀g,nR ks g 0->raw (of g)){v:Value}{b0:Nat}{r:Reach}{t:TypeId}(ht:prog.underlying t=some (.slice te))(hcell:Cell.okWide prog w r b0 t v){fuel:Nat}{x:DataW H×List MemPlace}(hf:DataW.trod enc prog w base spare held fuel t [v]=some x) :
 ∃l:List α,(∀j,j<l.length->raw (l.getD j default))/\l.length<=9223372036854775807/\oy w v (fl f l) l.length:=by
 rcases open_slice ht hf with⟨hcs,_⟩|⟨a,len,cap,m,n,D,Pl,hcs,_,hlc,hcm,hm,_,hall⟩
 ·simp only[List.cons.injEq,and_true]at hcs;exact⟨[],fun j hj=>absurd hj (Nat.not_lt_zero _),Nat.zero_le _,.inl ⟨hcs,rfl,rfl⟩⟩
 ·simp only [List.cons.injEq,and_true]at hcs;subst hcs;have hspot:=Cw ht hcell;have hlm:len<=m:=by rw[hm];split<;>omega
  have hC:prog.cellsOf te=s:=hl.1.trans hks
  let g:Nat->Nat->Value:=fun i j=>(w.cell? ⟨a.block,a.off+(i*s+j),none⟩).getD .nilIface
  have hg:∀i,i<len->nR ks (g i) 0/\∀j,j<s->w.cell? ⟨a.block,a.off+(i*s+j),none⟩=some (g i j):=fun i hi=>by
   obtain⟨cs',hc,ht'⟩:=hall i (by omega);rw[hC]at hc;obtain⟨_,hcl,hat⟩:=World.cells?_some hc
   have hat':∀j,j<s->w.cell? ⟨a.block,a.off+(i*s+j),none⟩=cs'[j]?:=fun j hj=>by
    rw[<-hat j hj,Go.Deep.add_add,EC hspot]
   have hgj:∀j,j<s->g i j=cs'.getD j .nilIface:=fun j hj=>by
    show(w.cell? _).getD _=_;rw[hat' j hj,List.getD_eq_getElem?_getD]
   obtain⟨hl1,hv⟩:=hl.2 H enc w base spare held n cs' _ ht';have hls:cs'.length=s:=hl1.trans hks;refine⟨fun j l hj=>?_,fun j hj=>?_⟩
   ·have hjs:j<s:=by rw[<-hks];exact(List.getElem?_eq_some_iff.1 hj).1
    obtain⟨v,h1,h2⟩:=hv j l hj;rw[Nat.zero_add,hgj j hjs,List.getD_eq_getElem?_getD,h1];exact h2
   ·rw[hat' j hj,hgj j hj,List.getD_eq_getElem?_getD,List.getElem?_eq_getElem (by omega)];rfl
  refine⟨(List.range len).map fun i=>of (g i),fun j hj=>?_,?_,.inr ⟨a.block,a.off,cap,by simpa using hlc,?_,fun j c hj β=>?_⟩⟩
  ·rw[List.length_map,List.length_range]at hj;rw[List.getD_eq_getElem?_getD,List.getElem?_map,List.getElem?_range hj];exact hraw _ (hg j hj).1
  ·unfold maxLen at hcm;rw[List.length_map,List.length_range];omega
  ·rw[List.length_map,List.length_range];obtain⟨b,o,sp⟩:=a;simp only at hspot;subst hspot;rfl
  ·have hj':=hj;unfold fl at hj;rw[zp f s hE.pos _ (fun a _=>hE.len a)]at hj
   have hlt:j/s<len:=by
    rw[List.getElem?_map]at hj
    by_cases h:j/s<len
    ·exact h
    ·rw[List.getElem?_eq_none (by rw[List.length_range];omega)]at hj;cases hj
   rw[List.getElem?_map,List.getElem?_range hlt]at hj;have hj2:(f (of (g (j/s))))[j%s]? = some c:=hj;have hr:j%s<s:=Nat.mod_lt _ hE.pos;rw[<-hof,rH,Nat.zero_add]at hj2;obtain⟨h1,h2⟩:=hg (j/s) hlt;have h3:=h2 (j%s) hr;have e5:j/s*s+j%s=j:=by rw[Nat.mul_comm];exact Nat.div_add_mod j s
   rw[e5]at h3;rw[h3]
   cases hk:ks[j%s]? with
   | none=>rw[hk]at hj2;cases hj2
   | some l=>
     rw[hk]at hj2;cases hj2;have:=h1 (j%s) l hk;rw[Nat.zero_add]at this;rw[dN.den this]
set_option maxRecDepth 100000 in
theorem NL{v:Value}{b0:Nat}{r:Reach}(hval:Value.okWide prog w r b0 30 v){fuel:Nat}{x:DataW H×List MemPlace}(hf:DataW.trod enc prog w base spare held fuel 30 v.cells.toList=some x) :
 ∃ (h:Hd) (pics:List sW) (l:List Sm) (va vb:Value),o7 h/\(∀j,j<pics.length->kb (pics.getD j default))/\(∀j,j<l.length->iQ (l.getD j default))/\pics.length<=9223372036854775807/\l.length<=9223372036854775807/\oy w va (fl eL pics) pics.length/\oy w vb (fl th l) l.length /\
   ∀(β : Env) (c0 c1:XC),c0.den β = va->c1.den β = vb->v = .agg ((rn h c0 c1).map (·.den β)).toArray:=by
 unfold Value.okWide at hval;rw[Tryz.underlying30]at hval;obtain⟨cs,rfl,hsz,ts,hts,_,hcell⟩:=hval;have hts2:(prog.cellTypes prog.depth 30).map (fun ts=>(ts.length,ts[131]?,ts[132]?))=some (133,some 27,some 28):=by kernel_rfl
 rw[hts]at hts2;simp only[Option.map_some,Option.some.injEq,Prod.mk.injEq]at hts2;obtain⟨hl133,h131,h132⟩:=hts2;obtain⟨xs,n,_,_,hlen,hxl,hx⟩:=DataW.trod_struct Tryz.underlying30 hf;have hC:prog.cellsOf 30=133:=by kernel_rfl
 have hcl:cs.toList.length=133:=by
  have:cs.size=prog.cellsOf 30:=hsz;rw[hC]at this;simpa using this
 have hx3:xs.length=3:=hxl
 have hget:∀i,i<3->∃y,xs[i]? = some y:=fun i hi=>⟨_,List.getElem?_eq_getElem (by omega)⟩
 obtain⟨y0,e0⟩:=hget 0 (by decide);obtain⟨y1,e1⟩:=hget 1 (by decide);obtain⟨y2,e2⟩:=hget 2 (by decide);have x0:=hx 0 _ rfl;have x1:=hx 1 _ rfl;have x2:=hx 2 _ rfl;obtain⟨g0,ok0,d0⟩:=H_ Na x0 e0
 obtain⟨va,hva⟩:∃vm,cs.toList[131]? = some vm:=⟨_,List.getElem?_eq_getElem (by omega)⟩
 obtain⟨vb,hvb⟩:∃vm,cs.toList[132]? = some vm:=⟨_,List.getElem?_eq_getElem (by omega)⟩
 have hlast:cs.toList.drop 132 = [vb]:=by
  have h:132<cs.toList.length:=by omega
  rw[List.getElem?_eq_getElem h]at hvb;rw[List.drop_eq_getElem_cons h,Option.some.inj hvb,List.drop_of_length_le (by omega)]
 have hlast2:cs.toList.drop 131 = [va,vb]:=by
  have h:131<cs.toList.length:=by omega
  rw[List.getElem?_eq_getElem h]at hva;rw[List.drop_eq_getElem_cons h,Option.some.inj hva,hlast]
 have hcell1:Cell.okWide prog w r b0 27 va:=by
  obtain⟨u,hu,hok⟩:=hcell 131 va (by rw[<-Array.getElem?_toList];exact hva);rw[hl133,show 131%133=131 from rfl,h131]at hu;cases hu;exact hok
 have hcell2:Cell.okWide prog w r b0 28 vb:=by
  obtain⟨u,hu,hok⟩:=hcell 132 vb (by rw[<-Array.getElem?_toList];exact hvb);rw[hl133,show 132%133=132 from rfl,h132]at hu;cases hu;exact hok
 have x1':DataW.trod enc prog w base spare held n 27 [va]=some y1:=by
  rw[<-e1,<-x1];show _=DataW.trod enc prog w base spare held n 27 ((cs.toList.drop 131).take (prog.cellsOf 27));rw[hlast2,show prog.cellsOf 27=1 by kernel_rfl];rfl
 have x2':DataW.trod enc prog w base spare held n 28 [vb]=some y2:=by
  rw[<-e2,<-x2];show _=DataW.trod enc prog w base spare held n 28 ((cs.toList.drop 132).take (prog.cellsOf 28));rw[hlast,show prog.cellsOf 28=1 by kernel_rfl];rfl
 obtain⟨pics,p1,p2,p3⟩:=DR (f:=eL) Oc rfl E9 (raw:=kb) (fun g h=>LM h) Tryz.underlying27 hcell1 x1';obtain⟨l,l1',l2',l3'⟩:=DR (f:=th) QZ rfl H8 (raw:=iQ) (fun g h=>O4 h) Tryz.underlying28 hcell2 x2';refine⟨HL g0,pics,l,va,vb,N4 ok0,p1,l1',p2,l2',p3,l3',fun β c0 c1 h0 h1=>?_⟩
 have f0:cs.toList.take 131=(b7 (HL g0)).map (·.den β):=by
  rw[<-H7,<-d0 β];show _=(cs.toList.drop 0).take (prog.cellsOf 26);rw[Na.1];rfl
 have h2:cs.toList=(rn (HL g0) c0 c1).map (·.den β):=by
  rw[<-List.take_append_drop 131 cs.toList,f0,hlast2];unfold rn;rw[List.map_append,<-h0,<-h1];rfl
 rw[<-h2]
end
end Go.Proofs.YthdciapjllppjaaGreat
