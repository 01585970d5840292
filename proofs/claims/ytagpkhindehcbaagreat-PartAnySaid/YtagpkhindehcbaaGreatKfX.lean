/-
  A part of the proof: Fill3.
-/
import Derived.Test.YtagpkhindehcbaaGreatKfW
set_option maxRecDepth 10000
set_option maxHeartbeats 8000000
set_option linter.unusedVariables false
set_option linter.unusedSectionVars false
set_option linter.unusedSimpArgs false
namespace Go.Proofs.YtagpkhindehcbaaGreat
open Go.Xm
variable [ax]
structure Ny(OUT:ak)(f:Nat->ak)(evs:List (List Ev)):Prop where
 out:0<evs.length->∃vs e opn ro,OUT = .cells vs e opn ro/\∀j,j<evs.length->∃c,vs[j]? = some c/\((c = .nils/\evs.getD j [] = [])\/j<54/\yP c (15+j) (evs.getD j []).length/\uy (f j) mr (evs.getD j []))
 evs:∀j,j<evs.length->mE (evs.getD j [])
 flat:∀j,c8 (f j)
 ok:∀n,69<=n->OUT.b7 n
 ay:∀τl,(List.range 69).all (fun j=>nth τl j==j)=true->OUT.ay (nth τl)=OUT
abbrev oq(l:List Ol)(OUT:ak)(f:Nat->ak)(r:aj):aj:=bM 1 5 9::aw 2 3 4 cM::aR cM::aT cM::aS cM::aw 6 7 8 cZ::aR cZ::aT cZ::aS cZ::aw 10 11 12 cP::aR cP::aT cP::aS cP::cE 56 (fl gU l)::OUT::f 0::f 1::f 2::f 3::f 4::f 5::f 6::f 7::f 8::f 9::f 10::f 11::f 12::f 13::f 14::f 15::f 16::f 17::f 18::f 19::f 20::f 21::f 22::f 23::f 24::f 25::f 26::f 27::f 28::f 29::f 30::f 31::f 32::f 33::f 34::f 35::f 36::f 37::f 38::f 39::f 40::f 41::f 42::f 43::f 44::f 45::f 46::f 47::f 48::f 49::f 50::f 51::f 52::f 53::r
theorem LU(l:List Ol)(OUT:ak)(f:Nat->ak)(r:aj){u:Nat}(hu:u<54):(oq l OUT f r)[15+u]? = some (f u):=by
 have e:oq l OUT f r=(oq l OUT f []).take 15++((List.range 54).map f++r):=rfl
 rw[e,List.getElem?_append_right (by show 15<=15+u;omega),show 15+u-((oq l OUT f []).take 15).length=u by show 15+u-15=u;omega,List.getElem?_append_left (by rw[List.length_map,List.length_range];exact hu),List.getElem?_map,List.getElem?_range hu]
 rfl
def Ej:Int ⊕ List Mb->XV
 | .inl e => .tup [.one .nils,.one (.int .i64 e)]
 | .inr l => .tup [.one (fD 69 l.length 391),.one (.int .i64 0)]
def jB:Int ⊕ List Mb->ak
 | .inl _ => .dead
 | .inr l=>cE 53 (fl mC l)
instance PQ (r:Int ⊕ List Mb):c8 (jB r):=by
 cases r<;>(unfold jB;infer_instance)
structure PW(evs:List (List Ev))(first:Int)(l:List Ol)(S0:bm)(s:FA×XC):Prop where
 le:s.1.out.length<=l.length
 run:nH evs first l S0 s.1.out.length = .inr s.1
 cols:s.1.S.cols=S0.cols
 rows:s.1.S.rows=S0.rows
 lev:ux s.1.S
 u:s.1.u<=evs.length
 c:cY s.2 14 s.1.u (evs.length-s.1.u)
structure HD(evs:List (List Ev))(mb:Int)(has:Nat->Bool)(x0:FK)(s:Nat×FK×XC):Prop where
 le:s.1<=6
 run:ic evs mb has x0 s.1 = .inr s.2.1
 cols:s.2.1.1.cols=x0.1.cols
 rows:s.2.1.1.rows=x0.1.rows
 lev:ux s.2.1.1
 mlev:∀i,-1000000<=s.2.1.2.1.lev i/\s.2.1.2.1.lev i<=1000000
 u:s.2.1.2.2<=evs.length
 c:cY s.2.2 14 s.2.1.2.2 (evs.length-s.2.1.2.2)
theorem u0{evs:List (List Ev)}{mb:Int}{has:Nat->Bool}{x0:FK}{x:Nat×FK×XC}(hx:HD evs mb has x0 x)(h6:x.1<6){y:bm×Mb}{u:Nat}(hn:ic evs mb has x0 (x.1+1) = .inr (y.1,y.2,u)){rest:Nat->Int}(hfo:ku x.2.1.1 mb x.1 x.2.1.2.1 rest)(hF:g_ x.2.1.1 mb x.1 x.2.1.2.1 rest=some y)(hu:u<=evs.length){c:XC}(hc:cY c 14 u (evs.length-u)):HD evs mb has x0 (x.1+1,(y.1,y.2,u),c):=by
 obtain⟨h1,h2,h3,h4⟩:=CU hfo hx.mlev hF
 exact⟨h6,hn,h1.trans hx.cols,h2.trans hx.rows,h3,h4,hu,hc⟩
abbrev Iv(l:List Ol)(OUT:ak)(f:Nat->ak)(S:bm)(out:List Mb)(r:aj):aj:=oq l OUT f (Hx S 69::cn 71 S.cols S.rows :: .map (ba S.M)::Hy S 69 :: .map (ag S.A) :: .map (ag S.B) :: .map (ag S.C)::cE 53 (fl mC out) :: .dead::r)
theorem xF{h : Hd}{p:Ph}{first:Int}{l:List Ol}(hT:Ak h p first l){OUT:ak}{f:Nat->ak}{evs:List (List Ev)}(hE:Ny OUT f evs){c:XC}(hc:cY c 14 0 evs.length) :
 bh Tryz.prog 15 [.one (.ptr 0 0),.agg (f6 h),.agg (gV p),.one (.int .i64 first),hZ 13 l.length 397,.one c] (oq l OUT f []) (Ej (gZ evs first l (dQ h p))) (oq l OUT f [jB (gZ evs first l (dQ h p))]):=by
 have hF:=hE.flat
 have hOK:=hE.ok
 have hV:=hE.ay
 have h1:=hT.hd.dims.c0
 have h2:=hT.hd.dims.c1
 have h3:=hT.hd.dims.r0
 have h4:=hT.hd.dims.r1
 have hf:=hT.pos
 have hm:=hT.many
 have ha:=hT.all
 have hcr:1<=h.cols*h.rows/\h.cols*h.rows<=64:=jg hT.hd.dims
 refine cO Tryz.func15 ?_
 repeat' (first
  |(refine qz ?_;first
   |refine cl ?_ (hi:=by exact mG hT.hd rfl nL nA rfl))
  |refine zz ?_|refine zx (fun _=>?_) (fun _=>?_)|fail)
 refine WX.cU rfl ?_
 refine WX.cU rfl ?_
 refine WX.dw (σ:=FA×XC) (fun s=>[(3,.one (.int .i64 first)),(14,.one (.ptr 69 0)),(30,hZ 13 l.length 397),(31,.one (.int .i64 (l.length:Nat))),(5,.one s.2),(15,hZ 76 s.1.out.length 391),(32,.one (.int .i64 (s.1.out.length:Nat)))]) (fun s=>Iv l OUT f s.1.S s.1.out []) (PW evs first l (dQ h p)) (fun s=>l.length-s.1.out.length) (⟨dQ h p,[],0⟩,c) ⟨Nat.zero_le _,rfl,rfl,rfl,⟨mN,mN,mN⟩,Nat.zero_le _,hc⟩ (fun s hs=>by have hsc:=hs.c;exact(lD (objs:=by repeat' (first|exact bc.nil|refine bc.cons (hOK _ (Nat.le_of_ble_eq_true rfl)) ?_|refine bc.flat ?_|refine bc.cons (by first|(simp[ak.b7,XC.ok,aZ];done)|simp[ak.b7,XC.ok,aZ, *]) ?_)))) (cG (0::1::2::3::4::5::6::7::8::9::10::11::12::13::14::15::16::17::18::19::20::21::22::23::24::25::26::27::28::29::30::31::32::33::34::35::36::37::38::39::40::41::42::43::44::45::46::47::48::49::50::51::52::53::54::55::56::57::58::59::60::61::62::63::64::65::66::67::68::71::72::73::74::75::76::77::78::79::[]) (obj:=by(repeat' (first|exact ae.nil|refine ae.cons (by rw[hV _ rfl];rfl) ?_|refine ae.flat rfl ?_|refine ae.cons rfl ?_|refine ae.dead rfl ?_|refine ae.cons (by simp only[ak.ay,List.map_cons,List.map_nil,XC.ay,aB];exact rfl) ?_));first|done|fail)) ?_
 intro s hs ih
 have hle:=hs.le
 have hsc:=hs.c
 by_cases hlt:s.1.out.length<l.length
 ·obtain ⟨o, ho⟩:∃o,l.getD s.1.out.length default=o:=⟨_,rfl⟩
  have hmb:0<=first+(s.1.out.length:Nat)/\first+(s.1.out.length:Nat)<h.cols*h.rows:=by omega
  have hmac:((gU (l.getD s.1.out.length default)).drop 0).take 391=mC o.1:=by rw[ho];exact uc o.1 o.2
  have htl:((gU (l.getD s.1.out.length default)).drop 391).take 6=sK o.2:=by rw[ho];exact Bl o.1 o.2
  have hol:=hT.lev s.1.out.length hlt
  rw[ho]at hol
  have hrun:nH evs first l (dQ h p) (s.1.out.length+1)=match ic evs (first+(s.1.out.length:Nat)) o.2 (s.1.S,o.1,s.1.u) 6 with
   | .inl e => .inl e
   | .inr y => .inr ⟨y.1,s.1.out++[y.2.1],y.2.2⟩:=by
   rw[nH,hs.run,<-ho];rfl
  repeat' (first
   |(refine qz ?_;first
    |refine sL (enc:=gU) (j:=s.1.out.length) ?_
    |refine tR (zs:=fZ ly pN) (hz:=Ag) ?_
    |refine tR (zs:=mC ly) (hz:=jV) ?_
    |refine t_ (cs:=mC o.1) ?_ (hle:=by show _<=(fZ _ _).length;rw[ca];decide) (hc:=hmac)
    |refine t_ (cs:=sK o.2) ?_ (hle:=by show _<=(fZ _ _).length;rw[ca];decide) (hc:=htl)
    |refine kj (cs:=gU (l.getD s.1.out.length default)) ?_
    |refine kj (cs:=mC o.1) ?_)
   |refine zz ?_|refine zx (fun _=>?_) (fun _=>?_)|fail)
  refine WX.dw (σ:=Nat×FK×XC) (fun x=>[(3,.one (.int .i64 first)),(14,.one (.ptr 69 0)),(15,hZ 76 s.1.out.length 391),(16,.one (.int .i64 (s.1.out.length:Nat))),(18,.one (.ptr 78 0)),(30,hZ 13 l.length 397),(31,.one (.int .i64 (l.length:Nat))),(32,.one (.int .i64 (s.1.out.length:Nat))),(40,.agg (sK o.2)),(5,.one x.2.2),(41,.one (.int .i64 (x.1:Nat)))]) (fun x=>Iv l OUT f x.2.1.1 s.1.out [mu x.2.1.2.1]) (HD evs (first+(s.1.out.length:Nat)) o.2 (s.1.S,o.1,s.1.u)) (fun x=>6-x.1) (0,(s.1.S,o.1,s.1.u),s.2) ⟨Nat.zero_le _,rfl,rfl,rfl,hs.lev,hol,hs.u,hs.c⟩ (fun x hx=>by have hxc:=hx.c;exact(lD (objs:=by repeat' (first|exact bc.nil|refine bc.cons (hOK _ (Nat.le_of_ble_eq_true rfl)) ?_|refine bc.flat ?_|refine bc.cons (by first|(simp[ak.b7,XC.ok,aZ];done)|simp[ak.b7,XC.ok,aZ, *]) ?_)))) (cG (0::1::2::3::4::5::6::7::8::9::10::11::12::13::14::15::16::17::18::19::20::21::22::23::24::25::26::27::28::29::30::31::32::33::34::35::36::37::38::39::40::41::42::43::44::45::46::47::48::49::50::51::52::53::54::55::56::57::58::59::60::61::62::63::64::65::66::67::68::69::70::71::72::73::74::75::76::77::79::[]) (obj:=by(repeat' (first|exact ae.nil|refine ae.cons (by rw[hV _ rfl];rfl) ?_|refine ae.flat rfl ?_|refine ae.cons rfl ?_|refine ae.dead rfl ?_|refine ae.cons (by simp only[ak.ay,List.map_cons,List.map_nil,XC.ay,aB];exact rfl) ?_));first|done|fail)) ?_
  intro x hx ih2
  have hxc:=hx.c
  have hxle:=hx.le
  have hxu:=hx.u
  by_cases hx6:x.1<6
  ·have hnx : ic evs (first+(s.1.out.length:Nat)) o.2 (s.1.S,o.1,s.1.u) (x.1+1)=fK evs (first+(s.1.out.length:Nat)) o.2 x.2.1 x.1:=by
    rw[ic,hx.run]
   obtain⟨hb,hhb⟩:∃b,o.2 x.1=b:=⟨_,rfl⟩
   have hht:=Eo o.2 hx6 hhb
   cases hb with
   | false=>
     rw[fK,if_neg (by rw[hhb];decide)]at hnx
     have hfo:ku x.2.1.1 (first+(s.1.out.length:Nat)) x.1 x.2.1.2.1 (fun _=>0):=⟨by rw[hx.cols,hx.rows,hs.cols,hs.rows];exact hT.hd.dims,by rw[hx.cols,hx.rows,hs.cols,hs.rows];exact hmb,hx6,hx.lev,fun i=>by show -2047<=(0:Int)/\(0:Int)<=2047;omega⟩
     cases hF1:g_ x.2.1.1 (first+(s.1.out.length:Nat)) x.1 x.2.1.2.1 (fun _=>0)with
     | none=>
       have hnx2:ic evs (first+(s.1.out.length:Nat)) o.2 (s.1.S,o.1,s.1.u) (x.1+1) = .inl 2:=by
        rw[hnx];unfold FI;rw[hF1]
       have e0:gZ evs first l (dQ h p) = .inl 2:=by
        unfold gZ
        rw[rC (k:=s.1.out.length+1) (e:=2) (by rw[hrun,rD hnx2 6 (by omega)]) l.length (by omega)]
       rw[e0]
       repeat' (first
        |(refine qz ?_;first
         |refine xc (hc:=hht) ?_
         |refine fG ?_ (hle:=by rw[aE])
         |refine cl ?_ (hi:=by exact AQ hfo hF1 (i:=78) (d:=77) (N:=69) rfl rfl rfl rfl (by decide) nA rfl))
        |refine zz ?_|refine zx (fun _=>?_) (fun _=>?_)|fail)
       show aC _ _ _ _ _ _ _ _;refine kV (0::1::2::3::4::5::6::7::8::9::10::11::12::13::14::15::16::17::18::19::20::21::22::23::24::25::26::27::28::29::30::31::32::33::34::35::36::37::38::39::40::41::42::43::44::45::46::47::48::49::50::51::52::53::54::55::56::57::58::59::60::61::62::63::64::65::66::67::68::77::[]) ?_ (ho:=by repeat' (first|exact ae.nil|refine ae.cons (by rw[hV _ rfl];rfl) ?_|refine ae.flat rfl ?_|refine ae.cons rfl ?_|refine ae.dead rfl ?_|refine ae.cons (by simp only[ak.ay,List.map_cons,List.map_nil,XC.ay,aB];exact rfl) ?_)) (hk:=by repeat' (first|exact bc.nil|refine bc.cons (hOK _ (Nat.le_of_ble_eq_true rfl)) ?_|refine bc.flat ?_|refine bc.cons (by first|(simp[ak.b7,XC.ok,aZ];done)|simp[ak.b7,XC.ok,aZ, *]) ?_))
       rfl
     | some y=>
       have hnx2:ic evs (first+(s.1.out.length:Nat)) o.2 (s.1.S,o.1,s.1.u) (x.1+1) = .inr (y.1,y.2,x.2.1.2.2):=by
        rw[hnx];unfold FI;rw[hF1]
       repeat' (first
        |(refine qz ?_;first
         |refine xc (hc:=hht) ?_
         |refine fG ?_ (hle:=by rw[aE])
         |refine cl ?_ (hi:=by exact AR hfo hF1 (i:=78) (d:=77) (N:=69) rfl rfl rfl rfl (by decide) nA rfl))
        |refine zz ?_|refine zx (fun _=>?_) (fun _=>?_)|fail)
       refine ih2 (x.1+1,(y.1,y.2,x.2.1.2.2),x.2.2) _ _ _ (cG (0::1::2::3::4::5::6::7::8::9::10::11::12::13::14::15::16::17::18::19::20::21::22::23::24::25::26::27::28::29::30::31::32::33::34::35::36::37::38::39::40::41::42::43::44::45::46::47::48::49::50::51::52::53::54::55::56::57::58::59::60::61::62::63::64::65::66::67::68::69::70::71::72::73::74::75::76::77::78::[]) (obj:=by(repeat' (first|exact ae.nil|refine ae.cons (by rw[hV _ rfl];rfl) ?_|refine ae.flat rfl ?_|refine ae.cons rfl ?_|refine ae.dead rfl ?_|refine ae.cons (by simp only[ak.ay,List.map_cons,List.map_nil,XC.ay,aB];exact rfl) ?_));first|done|fail)) (u0 hx hx6 hnx2 hfo hF1 hx.u hx.c) (by dsimp only;omega)
   | true =>
     rw[fK,if_pos hhb]at hnx
     by_cases hsh:evs.length<=x.2.1.2.2
     ·rw[if_pos hsh]at hnx
      have e0:gZ evs first l (dQ h p) = .inl 3:=by
       unfold gZ
       rw[rC (k:=s.1.out.length+1) (e:=3) (by rw[hrun,rD hnx 6 (by omega)]) l.length (by omega)]
      rw[e0]
      have hz:evs.length-x.2.1.2.2=0:=by omega
      rw[hz]at hxc
      repeat' (first
       |(refine qz ?_;first
        |refine xc (hc:=hht) ?_)
       |refine zz ?_|refine zx (fun _=>?_) (fun _=>?_)|fail)
      show aC _ _ _ _ _ _ _ _;refine kV (0::1::2::3::4::5::6::7::8::9::10::11::12::13::14::15::16::17::18::19::20::21::22::23::24::25::26::27::28::29::30::31::32::33::34::35::36::37::38::39::40::41::42::43::44::45::46::47::48::49::50::51::52::53::54::55::56::57::58::59::60::61::62::63::64::65::66::67::68::77::[]) ?_ (ho:=by repeat' (first|exact ae.nil|refine ae.cons (by rw[hV _ rfl];rfl) ?_|refine ae.flat rfl ?_|refine ae.cons rfl ?_|refine ae.dead rfl ?_|refine ae.cons (by simp only[ak.ay,List.map_cons,List.map_nil,XC.ay,aB];exact rfl) ?_)) (hk:=by repeat' (first|exact bc.nil|refine bc.cons (hOK _ (Nat.le_of_ble_eq_true rfl)) ?_|refine bc.flat ?_|refine bc.cons (by first|(simp[ak.b7,XC.ok,aZ];done)|simp[ak.b7,XC.ok,aZ, *]) ?_))
      rfl
     ·rw [if_neg hsh]at hnx
      obtain⟨vs,et,opn,ro,hOUT,hcell⟩:=hE.out (by omega)
      obtain⟨c1,hc1,hc2⟩:=hcell x.2.1.2.2 (by omega)
      have hev:=hE.evs x.2.1.2.2 (by omega)
      have hst:0<=eJ x.2.1.2.1/\eJ x.2.1.2.1<=1:=by unfold eJ;split<;>omega
      have hdis:∃i ob,yP c1 i (evs.getD x.2.1.2.2 []).length/\uy ob mr (evs.getD x.2.1.2.2 [])/\∀S out r,(Iv l OUT f S out r)[i]? = some ob:=by
       rcases hc2 with⟨rfl,he⟩|⟨h54,h2,h3⟩
       ·exact⟨77,.dead,.inl ⟨by rw[he];rfl,rfl⟩,by rw[he];exact⟨fun h=>absurd h (Nat.lt_irrefl 0),inferInstance⟩,fun S out r=>rfl⟩
       ·exact⟨15+x.2.1.2.2,f x.2.1.2.2,h2,h3,fun S out r=>LU _ _ _ _ h54⟩
      obtain⟨ix,ob,hb1,hb2,hb3⟩:=hdis
      subst hOUT
      cases hbk:iY (evs.getD x.2.1.2.2 []) (eJ x.2.1.2.1)with
      | none=>
        rw[hbk]at hnx
        have e0:gZ evs first l (dQ h p) = .inl 2:=by
         unfold gZ
         rw[rC (k:=s.1.out.length+1) (e:=2) (by rw[hrun,rD hnx 6 (by omega)]) l.length (by omega)]
        rw[e0]
        repeat' (first
         |(refine qz ?_;first
          |refine xc (hc:=hht) ?_
          |refine ld (hc:=hc1) ?_
          |refine fG ?_ (hle:=by rw[aE])
          |refine fG ?_ (hle:=by rw[aI])
          |refine kj ?_ (hs1:=by rw[aE]) (hs2:=by rw[aE])
          |refine cl ?_ (hi:=by exact sa rfl)
          |refine cl ?_ (hi:=by exact HV hev hb1 hb2 (hb3 _ _ _) hst hbk rfl))
         |refine Hg (id:=16) [9] ?_|refine zz ?_|refine zx (fun _=>?_) (fun _=>?_)|fail)
        show aC _ _ _ _ _ _ _ _;refine kV (0::1::2::3::4::5::6::7::8::9::10::11::12::13::14::15::16::17::18::19::20::21::22::23::24::25::26::27::28::29::30::31::32::33::34::35::36::37::38::39::40::41::42::43::44::45::46::47::48::49::50::51::52::53::54::55::56::57::58::59::60::61::62::63::64::65::66::67::68::77::[]) ?_ (ho:=by repeat' (first|exact ae.nil|refine ae.cons (by rw[hV _ rfl];rfl) ?_|refine ae.flat rfl ?_|refine ae.cons rfl ?_|refine ae.dead rfl ?_|refine ae.cons (by simp only[ak.ay,List.map_cons,List.map_nil,XC.ay,aB];exact rfl) ?_)) (hk:=by repeat' (first|exact bc.nil|refine bc.cons (hOK _ (Nat.le_of_ble_eq_true rfl)) ?_|refine bc.flat ?_|refine bc.cons (by first|(simp[ak.b7,XC.ok,aZ];done)|simp[ak.b7,XC.ok,aZ, *]) ?_))
        rfl
      | some rest=>
        rw[hbk]at hnx
        have hlev:=xt hev.ok hbk
        have hfo:ku x.2.1.1 (first+(s.1.out.length:Nat)) x.1 x.2.1.2.1 rest:=⟨by rw[hx.cols,hx.rows,hs.cols,hs.rows];exact hT.hd.dims,by rw[hx.cols,hx.rows,hs.cols,hs.rows];exact hmb,hx6,hx.lev,hlev⟩
        cases hF1:g_ x.2.1.1 (first+(s.1.out.length:Nat)) x.1 x.2.1.2.1 rest with
        | none=>
          have hnx2:ic evs (first+(s.1.out.length:Nat)) o.2 (s.1.S,o.1,s.1.u) (x.1+1) = .inl 2:=by
           rw[hnx];unfold FI;dsimp only;rw[hF1]
          have e0:gZ evs first l (dQ h p) = .inl 2:=by
           unfold gZ
           rw[rC (k:=s.1.out.length+1) (e:=2) (by rw[hrun,rD hnx2 6 (by omega)]) l.length (by omega)]
          rw[e0]
          repeat' (first
           |(refine qz ?_;first
            |refine xc (hc:=hht) ?_
            |refine ld (hc:=hc1) ?_
            |refine fG ?_ (hle:=by rw[aE])
            |refine fG ?_ (hle:=by rw[aI])
            |refine kj ?_ (hs1:=by rw[aE]) (hs2:=by rw[aE])
            |refine cl ?_ (hi:=by exact sa rfl)
            |refine cl ?_ (hi:=by exact Ax hev hb1 hb2 (hb3 _ _ _) hst hbk rfl)
            |refine RY (p:=1) (q:=evs.length-x.2.1.2.2) (fun c' hc'=>?_)
            |refine cl ?_ (hi:=by exact AQ hfo hF1 (i:=78) (d:=77) (N:=69) rfl rfl rfl rfl (by decide) nA rfl))
           |refine Hg (id:=16) [9] ?_|refine zz ?_|refine zx (fun _=>?_) (fun _=>?_)|fail)
          show aC _ _ _ _ _ _ _ _;refine kV (0::1::2::3::4::5::6::7::8::9::10::11::12::13::14::15::16::17::18::19::20::21::22::23::24::25::26::27::28::29::30::31::32::33::34::35::36::37::38::39::40::41::42::43::44::45::46::47::48::49::50::51::52::53::54::55::56::57::58::59::60::61::62::63::64::65::66::67::68::77::[]) ?_ (ho:=by repeat' (first|exact ae.nil|refine ae.cons (by rw[hV _ rfl];rfl) ?_|refine ae.flat rfl ?_|refine ae.cons rfl ?_|refine ae.dead rfl ?_|refine ae.cons (by simp only[ak.ay,List.map_cons,List.map_nil,XC.ay,aB];exact rfl) ?_)) (hk:=by repeat' (first|exact bc.nil|refine bc.cons (hOK _ (Nat.le_of_ble_eq_true rfl)) ?_|refine bc.flat ?_|refine bc.cons (by first|(simp[ak.b7,XC.ok,aZ];done)|simp[ak.b7,XC.ok,aZ, *]) ?_))
          rfl
        | some y=>
          have hnx2:ic evs (first+(s.1.out.length:Nat)) o.2 (s.1.S,o.1,s.1.u) (x.1+1) = .inr (y.1,y.2,x.2.1.2.2+1):=by
           rw[hnx];unfold FI;dsimp only;rw[hF1]
          repeat' (first
           |(refine qz ?_;first
            |refine xc (hc:=hht) ?_
            |refine ld (hc:=hc1) ?_
            |refine fG ?_ (hle:=by rw[aE])
            |refine fG ?_ (hle:=by rw[aI])
            |refine kj ?_ (hs1:=by rw[aE]) (hs2:=by rw[aE])
            |refine cl ?_ (hi:=by exact sa rfl)
            |refine cl ?_ (hi:=by exact Ax hev hb1 hb2 (hb3 _ _ _) hst hbk rfl)
            |refine RY (p:=1) (q:=evs.length-x.2.1.2.2) (fun c' hc'=>?_)
            |refine cl ?_ (hi:=by exact AR hfo hF1 (i:=78) (d:=77) (N:=69) rfl rfl rfl rfl (by decide) nA rfl))
           |refine Hg (id:=16) [9] ?_|refine zz ?_|refine zx (fun _=>?_) (fun _=>?_)|fail)
          have hc2:cY c' 14 (x.2.1.2.2+1) (evs.length-(x.2.1.2.2+1)):=by
           rw[show evs.length-(x.2.1.2.2+1)=evs.length-x.2.1.2.2-1 by omega];exact hc'
          refine ih2 (x.1+1,(y.1,y.2,x.2.1.2.2+1),c') _ _ _ (cG (0::1::2::3::4::5::6::7::8::9::10::11::12::13::14::15::16::17::18::19::20::21::22::23::24::25::26::27::28::29::30::31::32::33::34::35::36::37::38::39::40::41::42::43::44::45::46::47::48::49::50::51::52::53::54::55::56::57::58::59::60::61::62::63::64::65::66::67::68::69::70::71::72::73::74::75::76::77::78::[]) (obj:=by(repeat' (first|exact ae.nil|refine ae.cons (by rw[hV _ rfl];rfl) ?_|refine ae.flat rfl ?_|refine ae.cons rfl ?_|refine ae.dead rfl ?_|refine ae.cons (by simp only[ak.ay,List.map_cons,List.map_nil,XC.ay,aB];exact rfl) ?_));first|done|fail)) (u0 hx hx6 hnx2 hfo hF1 (by omega) hc2) (by dsimp only;omega)
  ·have hx6':x.1=6:=by omega
   have hr6:=hx.run
   rw[hx6']at hr6
   rw[hr6]at hrun
   repeat' (first
    |(refine qz ?_;first
     |refine fG ?_ (hle:=by rw[aI])
     |refine oR (enc:=mC) (a:=x.2.1.2.1) ?_
     |refine t5 (enc:=mC) ?_)
    |refine zz ?_|refine zx (fun _=>?_) (fun _=>?_)|fail)
   have hl1:(s.1.out++[x.2.1.2.1]).length=s.1.out.length+1:=by rw[List.length_append];rfl
   refine ih (⟨x.2.1.1,s.1.out++[x.2.1.2.1],x.2.1.2.2⟩,x.2.2) _ _ _ (cG (0::1::2::3::4::5::6::7::8::9::10::11::12::13::14::15::16::17::18::19::20::21::22::23::24::25::26::27::28::29::30::31::32::33::34::35::36::37::38::39::40::41::42::43::44::45::46::47::48::49::50::51::52::53::54::55::56::57::58::59::60::61::62::63::64::65::66::67::68::69::70::71::72::73::74::75::80::77::[]) (obj:=by(repeat' (first|exact ae.nil|refine ae.flat (by rw[List.length_append];rfl) ?_|refine ae.cons (by rw[hV _ rfl];rfl) ?_|refine ae.flat rfl ?_|refine ae.cons rfl ?_|refine ae.dead rfl ?_|refine ae.cons (by simp only[ak.ay,List.map_cons,List.map_nil,XC.ay,aB];exact rfl) ?_));first|done|fail) (reg:=by(repeat' (first|exact ah.nil|refine ah.flat (by rw[List.length_append];rfl) ?_|refine ah.flat rfl ?_|refine ah.cons rfl ?_|refine ah.sl rfl (by assumption) rfl ?_|refine ah.fN rfl rfl (by first|rfl|omega|(simp;done)|(simp;omega)) ?_));first|done|fail)) ⟨by dsimp only;rw[hl1];exact hlt,by dsimp only;rw[hl1];exact hrun,hx.cols.trans hs.cols,hx.rows.trans hs.rows,hx.lev,hx.u,hx.c⟩ (by dsimp only;rw[hl1];omega)
 ·have hend:s.1.out.length=l.length:=by omega
  have hrun:=hs.run
  rw[hend]at hrun
  by_cases hu:s.1.u<evs.length
  ·have e0:gZ evs first l (dQ h p) = .inl 13:=by
    unfold gZ;rw[hrun];exact if_pos hu
   rw[e0]
   repeat' (first|refine zz ?_|refine zx (fun _=>?_) (fun _=>?_)|fail)
   show aC _ _ _ _ _ _ _ _;refine kV (0::1::2::3::4::5::6::7::8::9::10::11::12::13::14::15::16::17::18::19::20::21::22::23::24::25::26::27::28::29::30::31::32::33::34::35::36::37::38::39::40::41::42::43::44::45::46::47::48::49::50::51::52::53::54::55::56::57::58::59::60::61::62::63::64::65::66::67::68::77::[]) ?_ (ho:=by repeat' (first|exact ae.nil|refine ae.cons (by rw[hV _ rfl];rfl) ?_|refine ae.flat rfl ?_|refine ae.cons rfl ?_|refine ae.dead rfl ?_|refine ae.cons (by simp only[ak.ay,List.map_cons,List.map_nil,XC.ay,aB];exact rfl) ?_)) (hk:=by repeat' (first|exact bc.nil|refine bc.cons (hOK _ (Nat.le_of_ble_eq_true rfl)) ?_|refine bc.flat ?_|refine bc.cons (by first|(simp[ak.b7,XC.ok,aZ];done)|simp[ak.b7,XC.ok,aZ, *]) ?_))
   rfl
  ·have e0:gZ evs first l (dQ h p) = .inr s.1.out:=by
    unfold gZ;rw[hrun];exact if_neg hu
   rw[e0]
   have hz:evs.length-s.1.u=0:=by omega
   rw[hz]at hsc
   repeat' (first|refine zz ?_|refine zx (fun _=>?_) (fun _=>?_)|fail)
   show aC _ _ _ _ _ _ _ _;refine kV (0::1::2::3::4::5::6::7::8::9::10::11::12::13::14::15::16::17::18::19::20::21::22::23::24::25::26::27::28::29::30::31::32::33::34::35::36::37::38::39::40::41::42::43::44::45::46::47::48::49::50::51::52::53::54::55::56::57::58::59::60::61::62::63::64::65::66::67::68::76::[]) ?_ (ho:=by repeat' (first|exact ae.nil|refine ae.cons (by rw[hV _ rfl];rfl) ?_|refine ae.flat rfl ?_|refine ae.cons rfl ?_|refine ae.dead rfl ?_|refine ae.cons (by simp only[ak.ay,List.map_cons,List.map_nil,XC.ay,aB];exact rfl) ?_)) (hk:=by repeat' (first|exact bc.nil|refine bc.cons (hOK _ (Nat.le_of_ble_eq_true rfl)) ?_|refine bc.flat ?_|refine bc.cons (by first|(simp[ak.b7,XC.ok,aZ];done)|simp[ak.b7,XC.ok,aZ, *]) ?_))
   simp only[Ej,XV.ay,List.map_cons,List.map_nil,X1.ay,aB];rfl
end Go.Proofs.YtagpkhindehcbaaGreat
