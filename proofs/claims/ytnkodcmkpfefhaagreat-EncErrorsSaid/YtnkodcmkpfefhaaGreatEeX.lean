/-
  A part of the proof: EncA, EncB, EncC, EncD, EncE, BsN.
-/
import Derived.Test.YtnkodcmkpfefhaaGreatEeE
import Derived.Test.YtnkodcmkpfefhaaGreatEeW
import Derived.WalkKit
set_option maxRecDepth 10000
set_option maxHeartbeats 8000000
set_option linter.unusedVariables false
set_option linter.unusedSectionVars false
set_option linter.unusedSimpArgs false
namespace Go.Proofs.YtnkodcmkpfefhaaGreat
open Go.Xm
variable [aw]
def s4(h:Hd)(i:Nat):Bool:=if h.w=true then decide (h.a i<8)||decide (h.b i<8)else !(decide (h.a i=0)&&decide (h.b i=0))
def s5(h:Hd):Int:=if(List.range 64).any (s4 h)=true then(if h.w=true then 2 else 4)else 0
theorem oJ{h:Hd}{i:Nat}(hi:i<64)(hb:s4 h i=true):s5 h=if h.w=true then 2 else 4:=by
 unfold s5
 rw[if_pos (List.any_eq_true.2 ⟨i,List.mem_range.2 hi,hb⟩)]
theorem AI{h:Hd}(hb:∀i,i<64->s4 h i=false):s5 h=0:=by
 unfold s5
 rw[if_neg]
 intro hh
 obtain⟨i,h1,h2⟩:=List.any_eq_true.1 hh
 rw[hb i (List.mem_range.1 h1)]at h2
 cases h2
theorem xg(h:Hd):aW Tryz.prog 30 [.agg (bG h)] [] (.one (.int .i64 (s5 h))) []:=by
 obtain⟨w,hw⟩:∃w,h.w=w:=⟨_,rfl⟩
 have h0:(bG h)[0]? = some (.bool w):=by rw[<-hw];rfl
 refine cO Tryz.func30 ?_
 repeat' (first|refine zz ?_|refine zx (fun _=>?_) (fun _=>?_)|fail)
 refine WX.bZ (σ:=Nat) (fun j=>[(4,.one (.int .i64 (j:Nat))),(1,.one (.ptr 0 0))]) (fun _=>[.cells (bG h) 24 false false]) (fun j=>j<=64/\∀i,i<j->s4 h i=false) (fun j=>64-j) 0 ⟨by omega,fun i hi=>by omega⟩ (fun s _=>hX) (b_ [0]) ?_
 intro j ⟨hj,hall⟩ ih
 by_cases hj64:j<64
 ·have ga := uV h hj64
  have gb:=uW h hj64
  cases w
  ·by_cases p1:h.a j=0
   ·by_cases p2:h.b j=0
    ·repeat' (first
      |(refine qz ?_;first
       |refine ld (hc:=h0) ?_
       |refine ld (hc:=ga) ?_
       |refine ld (hc:=gb) ?_)
      |refine zz ?_|refine zx (fun _=>?_) (fun _=>?_)|fail)
     refine ih (j+1) _ _ _ (b_ [0]) ⟨by omega,fun i hi=>?_⟩ (by omega)
     by_cases hij:i=j
     ·rw[hij];unfold s4;rw[hw,if_neg Bool.false_ne_true];simp[p1,p2]
     ·exact hall i (by omega)
    ·have e:=oJ hj64 (h:=h) (by unfold s4;rw[hw,if_neg Bool.false_ne_true];simp[p2])
     rw[hw]at e
     rw[e]
     repeat' (first
      |(refine qz ?_;first
       |refine ld (hc:=h0) ?_
       |refine ld (hc:=ga) ?_
       |refine ld (hc:=gb) ?_)
      |refine zz ?_|refine zx (fun _=>?_) (fun _=>?_)|fail)
     show aD _ _ _ _ _ _ _ _;refine kV [] ?_
     rfl
   ·have e:=oJ hj64 (h:=h) (by unfold s4;rw[hw,if_neg Bool.false_ne_true];simp[p1])
    rw[hw]at e
    rw[e]
    repeat' (first
     |(refine qz ?_;first
      |refine ld (hc:=h0) ?_
      |refine ld (hc:=ga) ?_
      |refine ld (hc:=gb) ?_)
     |refine zz ?_|refine zx (fun _=>?_) (fun _=>?_)|fail)
    show aD _ _ _ _ _ _ _ _;refine kV [] ?_
    rfl
  ·by_cases p1:h.a j<8
   ·have e:=oJ hj64 (h:=h) (by unfold s4;rw[hw,if_pos rfl];simp[p1])
    rw[hw]at e
    rw[e]
    repeat' (first
     |(refine qz ?_;first
      |refine ld (hc:=h0) ?_
      |refine ld (hc:=ga) ?_
      |refine ld (hc:=gb) ?_)
     |refine zz ?_|refine zx (fun _=>?_) (fun _=>?_)|fail)
    show aD _ _ _ _ _ _ _ _;refine kV [] ?_
    rfl
   ·by_cases p2:h.b j<8
    ·have e:=oJ hj64 (h:=h) (by unfold s4;rw[hw,if_pos rfl];simp[p2])
     rw[hw]at e
     rw[e]
     repeat' (first
      |(refine qz ?_;first
       |refine ld (hc:=h0) ?_
       |refine ld (hc:=ga) ?_
       |refine ld (hc:=gb) ?_)
      |refine zz ?_|refine zx (fun _=>?_) (fun _=>?_)|fail)
     show aD _ _ _ _ _ _ _ _;refine kV [] ?_
     rfl
    ·repeat' (first
      |(refine qz ?_;first
       |refine ld (hc:=h0) ?_
       |refine ld (hc:=ga) ?_
       |refine ld (hc:=gb) ?_)
      |refine zz ?_|refine zx (fun _=>?_) (fun _=>?_)|fail)
     refine ih (j+1) _ _ _ (b_ [0]) ⟨by omega,fun i hi=>?_⟩ (by omega)
     by_cases hij:i=j
     ·rw[hij];unfold s4;rw[hw,if_pos rfl];simp[p1,p2]
     ·exact hall i (by omega)
 ·have e:=AI (h:=h) (fun i hi=>hall i (by omega))
  rw[e]
  repeat' (first|refine zz ?_|refine zx (fun _=>?_) (fun _=>?_)|fail)
  show aD _ _ _ _ _ _ _ _;refine kV [] ?_
  rfl
theorem zf{h:Hd}{e:Int}(he:s5 h=e){HS:ai}(hb:Nat.blt HS.length Mem.bound=true):aC.Sound Tryz.prog ⟨30,[.agg (bG h)],HS,.one (.int .i64 e),HS,[]⟩:=by
 subst he
 exact au (xg h) (by simp only[List.all_cons,List.all_nil,Bool.and_true];exact el h) rfl hb
def ux(h:Hd):Int:=if h.cols<1\/h.cols>8\/h.rows<1\/h.rows>8 then 6 else s5 h
theorem Ef{h:Hd}(g:h.cols<1\/h.cols>8\/h.rows<1\/h.rows>8):ux h=6:=if_pos g
theorem Ae{h:Hd}(g:¬(h.cols<1\/h.cols>8\/h.rows<1\/h.rows>8)):ux h=s5 h:=if_neg g
theorem wh(h:Hd):aW Tryz.prog 9 [.agg (j5 h)] [] (.one (.int .i64 (ux h))) []:=by
 obtain⟨R,hR⟩:∃R,s5 h=R:=⟨_,rfl⟩
 refine cO Tryz.func9 ?_
 repeat' (first
  |(refine qz ?_;first
   |refine mU (cs:=bG h) ?_ (hle:=by rw[db];decide) (hc:=qB h)
   |refine cl ?_ (hi:=by exact zf hR rfl))
  |refine zz ?_|refine zx (fun _=>?_) (fun _=>?_)|fail)
 all_goals (show aD _ _ _ _ _ _ _ _;refine kV [] ?_;first|(rw[Ef (by omega)];rfl)|(rw[Ae (by omega),hR];rfl))
theorem ru{h:Hd}{e:Int}(he:ux h=e){HS:ai}(hb:Nat.blt HS.length Mem.bound=true):aC.Sound Tryz.prog ⟨9,[.agg (j5 h)],HS,.one (.int .i64 e),HS,[]⟩:=by
 subst he
 exact au (wh h) (by simp only[List.all_cons,List.all_nil,Bool.and_true];exact fG h) rfl hb
structure gg where
 hd:Hd
 qp:Int
 every:Int
 far:Int
 four:Bool
 wave:Bool
 turns:Bool
 many:Int
 target:Int
def Bi(c:gg):List XC:=[.int .i64 c.qp,.int .i64 c.every,.int .i64 c.far,.bool c.four,.bool c.wave,.bool c.turns,.int .i64 c.many,.int .i64 c.target]
def bX(c:gg):List XC:=j5 c.hd++Bi c
theorem aT(c:gg):(bX c).length=139:=by simp[bX,Bi,db]
theorem dB(c:gg):(bX c).all XC.shut=true:=by
 unfold bX
 rw[List.all_append,fG];rfl
instance K7 (c:gg):bh (.agg (bX c)):=ef (dB c)
instance K8 (c:gg) (e:TypeId) (a b:Bool):aR (.cells (bX c) e a b):=fF (dB c)
theorem mv(c:gg):((bX c).drop 0).take 131=j5 c.hd:=by
 unfold bX
 rw[List.drop_zero,List.take_append_of_le_length (by rw[db];exact Nat.le_refl _),List.take_of_length_le (by rw[db];exact Nat.le_refl _)]
theorem q9(c:gg):((bX c).drop 2).take 129=bG c.hd:=by
 unfold bX j5
 show((bG c.hd++Bi c)).take 129=_
 rw[List.take_append_of_le_length (by rw[cW];exact Nat.le_refl _),List.take_of_length_le (by rw[cW];exact Nat.le_refl _)]
theorem cy(c:gg)(j:Nat):(bX c)[131+j]? = (Bi c)[j]?:=by
 unfold bX
 rw[List.getElem?_append_right (by rw[db];omega),db,Nat.add_sub_cancel_left]
def fB(c:gg):Int:=if ux c.hd≠0 then ux c.hd else if c.qp<1\/c.qp>31 then 6 else if c.every<0\/c.far<0\/c.far>8\/c.target<0 then 2 else if c.many<1\/c.many>64 then 7 else 0
theorem yd(c:gg):aW Tryz.prog 10 [.agg (bX c)] [] (.one (.int .i64 (fB c))) []:=by
 obtain⟨R,hR⟩:∃R,ux c.hd=R:=⟨_,rfl⟩
 have e0:=cy c 0
 have e1:=cy c 1
 have e2:=cy c 2
 have e6:=cy c 6
 have e7:=cy c 7
 refine cO Tryz.func10 ?_
 repeat' (first
  |(refine qz ?_;first
   |refine mU (cs:=j5 c.hd) ?_ (hle:=by rw[aT];decide) (hc:=mv c)
   |refine cl ?_ (hi:=by exact ru hR rfl)
   |refine ld (hc:=e0) ?_
   |refine ld (hc:=e1) ?_
   |refine ld (hc:=e2) ?_
   |refine ld (hc:=e6) ?_
   |refine ld (hc:=e7) ?_)
  |refine zz ?_|refine zx (fun _=>?_) (fun _=>?_)|fail)
 all_goals (show aD _ _ _ _ _ _ _ _;refine kV [] ?_;first|(rw[show fB c=6 from(by unfold fB;rw[hR];repeat' split;all_goals omega)];rfl)|(rw[show fB c=2 from(by unfold fB;rw[hR];repeat' split;all_goals omega)];rfl)|(rw[show fB c=7 from(by unfold fB;rw[hR];repeat' split;all_goals omega)];rfl)|(rw[show fB c=0 from(by unfold fB;rw[hR];repeat' split;all_goals omega)];rfl)|(rw[show fB c=R from(by unfold fB;rw[hR];repeat' split;all_goals omega)];rfl))
theorem i1{c:gg}{e:Int}(he:fB c=e){HS:ai}(hb:Nat.blt HS.length Mem.bound=true):aC.Sound Tryz.prog ⟨10,[.agg (bX c)],HS,.one (.int .i64 e),HS,[]⟩:=by
 subst he
 exact au (yd c) (by simp only[List.all_cons,List.all_nil,Bool.and_true];exact dB c) rfl hb
structure nv(c:gg):Prop where
 hd:vz c.hd
 qp : -9223372036854775808<=c.qp/\c.qp<=9223372036854775807
 every : -9223372036854775808<=c.every/\c.every<=9223372036854775807
 far : -9223372036854775808<=c.far/\c.far<=9223372036854775807
 many : -9223372036854775808<=c.many/\c.many<=9223372036854775807
 target : -9223372036854775808<=c.target/\c.target<=9223372036854775807
def iu(c:gg):gg:=⟨{og c.hd with cols:=1+((og c.hd).cols-1)%3,rows:=1+((og c.hd).rows-1)%3},1+c.qp%2^5%31,c.every%2^2,c.far%2^1,c.four,c.wave,c.turns,1+c.many%2^3,c.target%2^11⟩
theorem qR:aX Tryz.prog 28 (bX ⟨⟨0,0,false,fun _=>0,fun _=>0⟩,0,0,0,false,false,false,0,0⟩):=by
 show aX Tryz.prog 28 ((.int .i64 0 :: .int .i64 0 :: .bool false::((ti .u8 64 fun _=>0)++(ti .u8 64 fun _=>0)))++[.int .i64 0,.int .i64 0,.int .i64 0,.bool false,.bool false,.bool false,.int .i64 0,.int .i64 0])
 infer_instance
theorem yj(c:gg)(hr:nv c):aW Tryz.prog 13 [.agg (bX c)] [] (.agg (bX (iu c))) []:=by
 have r1:=hr.qp
 have r2:=hr.every
 have r3:=hr.far
 have r4:=hr.many
 have r5:=hr.target
 have e0:=cy c 0
 have e1:=cy c 1
 have e2:=cy c 2
 have e3:=cy c 3
 have e4:=cy c 4
 have e5:=cy c 5
 have e6:=cy c 6
 have e7:=cy c 7
 have hc:=hr.hd.cols
 have hrw:=hr.hd.rows
 obtain⟨g,hg⟩:∃g,og c.hd=g:=⟨_,rfl⟩
 have hgc:g.cols=1+c.hd.cols%2^3:=by rw[<-hg];rfl
 have hgr:g.rows=1+c.hd.rows%2^3:=by rw[<-hg];rfl
 refine cO Tryz.func13 ?_
 repeat' (first
  |(refine qz ?_;first
   |refine qd (zs:=bX ⟨⟨0,0,false,fun _=>0,fun _=>0⟩,0,0,0,false,false,false,0,0⟩) (hz:=qR) ?_
   |refine qd (zs:=j5 ⟨0,0,false,fun _=>0,fun _=>0⟩) (hz:=Gk) ?_
   |refine mU (cs:=j5 c.hd) ?_ (hle:=by rw[aT];decide) (hc:=mv c)
   |refine cl ?_ (hi:=by exact Ea hr.hd hg rfl)
   |refine lO (cs:=j5 g) ?_ (hs1:=by rw[db]) (hs2:=by rw[db])
   |refine ld (hc:=e0) ?_
   |refine ld (hc:=e1) ?_
   |refine ld (hc:=e2) ?_
   |refine ld (hc:=e3) ?_
   |refine ld (hc:=e4) ?_
   |refine ld (hc:=e5) ?_
   |refine ld (hc:=e6) ?_
   |refine ld (hc:=e7) ?_
   |refine an 5 ?_
   |refine an 2 ?_
   |refine an 1 ?_
   |refine an 3 ?_
   |refine an 11 ?_)
  |refine zz ?_|refine zx (fun _=>?_) (fun _=>?_)|fail)
 show aD _ _ _ _ _ _ _ _;refine kV [] ?_
 rw[show bX (iu c)=j5 {g with cols:=1+(g.cols-1)%3,rows:=1+(g.rows-1)%3}++Bi (iu c) by rw[<-hg];rfl]
 rw[XV.cV (x := .agg (j5 {g with cols:=1+(g.cols-1)%3,rows:=1+(g.rows-1)%3}++Bi (iu c))) (by
  show List.all _ _=true
  rw[List.all_append,fG];rfl)]
 rfl
theorem th{c d:gg}(hr:nv c)(hd:iu c=d){HS:ai}(hb:Nat.blt HS.length Mem.bound=true):aC.Sound Tryz.prog ⟨13,[.agg (bX c)],HS,.agg (bX d),HS,[]⟩:=by
 subst hd
 exact au (yj c hr) (by simp only[List.all_cons,List.all_nil,Bool.and_true];exact dB c) (dB _) hb
theorem zY(c:gg)(hr:nv c):fB (iu c)=0/\1<=(iu c).hd.cols/\(iu c).hd.cols<=3/\1<=(iu c).hd.rows/\(iu c).hd.rows<=3:=by
 have c1:1<=(iu c).hd.cols/\(iu c).hd.cols<=3:=by show 1<=1+((og c.hd).cols-1)%3/\1+((og c.hd).cols-1)%3<=3;omega
 have c2:1<=(iu c).hd.rows/\(iu c).hd.rows<=3:=by show 1<=1+((og c.hd).rows-1)%3/\1+((og c.hd).rows-1)%3<=3;omega
 refine⟨?_,c1.1,c1.2,c2.1,c2.2⟩
 have ht:s5 (iu c).hd=0:=AI fun i hi=>by
  show(if(lM c.hd).w=true then decide ((lM c.hd).a i<8)||decide ((lM c.hd).b i<8)else !(decide ((lM c.hd).a i=0)&&decide ((lM c.hd).b i=0)))=false
  unfold lM
  by_cases hw:c.hd.w=true
  ·rw[if_pos hw]
   show(if c.hd.w=true then decide (max (c.hd.a i) 8<8)||decide (max (c.hd.b i) 8<8)else _)=false
   rw[if_pos hw]
   have h1:¬max (c.hd.a i) 8<8:=by omega
   have h2:¬max (c.hd.b i) 8<8:=by omega
   simp[h1,h2]
  ·rw[if_neg hw]
   rfl
 have hh:ux (iu c).hd=0:=by rw[Ae (by omega),ht]
 have q1:1<=(iu c).qp/\(iu c).qp<=31:=by show 1<=1+c.qp%2^5%31/\1+c.qp%2^5%31<=31;omega
 have q2:0<=(iu c).every:=by show 0<=c.every%2^2;omega
 have q3:0<=(iu c).far/\(iu c).far<=8:=by show 0<=c.far%2^1/\c.far%2^1<=8;omega
 have q4:1<=(iu c).many/\(iu c).many<=64:=by show 1<=1+c.many%2^3/\1+c.many%2^3<=64;omega
 have q5:0<=(iu c).target:=by show 0<=c.target%2^11;omega
 unfold fB
 rw[hh,if_neg (by decide),if_neg (by omega),if_neg (by omega),if_neg (by omega)]
def gu(qp:Int):Int:=64*max 2 (min (max qp 1) 31/2)
theorem gV(qp:Int):128<=gu qp/\gu qp<=960:=by unfold gu;omega
theorem BC(qp:Int):aW Tryz.prog 36 [.one (.int .i64 qp)] [] (.one (.int .i64 (gu qp))) []:=by
 refine cO Tryz.func36 ?_
 repeat' (first|refine zz ?_|refine zx (fun _=>?_) (fun _=>?_)|fail)
 show aD _ _ _ _ _ _ _ _;refine kV [] ?_
 rfl
theorem rn{qp e:Int}(he:gu qp=e){HS:ai}(hb:Nat.blt HS.length Mem.bound=true):aC.Sound Tryz.prog ⟨36,[.one (.int .i64 qp)],HS,.one (.int .i64 e),HS,[]⟩:=by
 subst he
 exact au (BC qp) rfl rfl hb
def F4(h:Hd)(i:Nat)(intra:Bool):Int:=if h.w=true then(if intra=true then h.a i else h.b i)else 16
def gQ(h:Hd)(qp:Int)(i:Nat)(intra:Bool):Int:=min (max qp 1) 31*max (F4 h i intra) 8
def b7(h:Hd):Prop:=∀i,i<64->(0<=h.a i/\h.a i<=255)/\(0<=h.b i/\h.b i<=255)
theorem qI{a b:Int}(ha:1<=a/\a<=31)(hb:8<=b/\b<=255):1<=a*b/\a*b<=7905:=
 ⟨Int.le_trans (by omega) (Int.mul_le_mul ha.1 hb.1 (by omega) (by omega)),Int.le_trans (Int.mul_le_mul ha.2 hb.2 (by omega) (by omega)) (by omega)⟩
theorem kC{h:Hd}(hr:b7 h)(qp:Int){i:Nat}(hi:i<64)(intra:Bool):1<=gQ h qp i intra/\gQ h qp i intra<=7905:=by
 obtain⟨h1,h2⟩:=hr i hi
 unfold gQ
 refine qI (by omega) ?_
 unfold F4
 split
 ·split<;>omega
 ·omega
theorem Cj{h:Hd}(hr:b7 h)(qp:Int){i:Nat}(hi:i<64)(intra:Bool):aW Tryz.prog 37 [.agg (bG h),.one (.int .i64 qp),.one (.int .i64 (i:Nat)),.one (.bool intra)] [] (.one (.int .i64 (gQ h qp i intra))) []:=by
 obtain⟨w,hw⟩:∃w,h.w=w:=⟨_,rfl⟩
 have h0:(bG h)[0]? = some (.bool w):=by rw[<-hw];rfl
 have ga:=uV h hi
 have gb:=uW h hi
 obtain⟨r1,r2⟩:=hr i hi
 obtain⟨q,hq⟩:∃q,min (max qp 1) 31=q:=⟨_,rfl⟩
 have q1:1<=q/\q<=31:=by omega
 cases w with
 | false=>
   have e:gQ h qp i intra=min (max qp 1) 31*max 16 8:=by unfold gQ F4;rw[hw,if_neg Bool.false_ne_true]
   have m:=qI (a:=min (max qp 1) 31) (b:=max 16 8) (by omega) (by omega)
   rw[e]
   refine cO Tryz.func37 ?_
   repeat' (first
    |(refine qz ?_;first
     |refine ld (hc:=h0) ?_)
    |refine zz ?_|refine zx (fun _=>?_) (fun _=>?_)|fail)
   show aD _ _ _ _ _ _ _ _;refine kV [] ?_
   rfl
 | true=>
   cases intra with
   | false=>
     have e:gQ h qp i false=min (max qp 1) 31*max (h.b i) 8:=by unfold gQ F4;rw[hw,if_pos rfl,if_neg Bool.false_ne_true]
     have m:=qI (a:=min (max qp 1) 31) (b:=max (h.b i) 8) (by omega) (by omega)
     rw[e]
     refine cO Tryz.func37 ?_
     repeat' (first
      |(refine qz ?_;first
       |refine ld (hc:=h0) ?_
       |refine ld (hc:=gb) ?_
       |refine ld (hc:=ga) ?_)
      |refine zz ?_|refine zx (fun _=>?_) (fun _=>?_)|fail)
     show aD _ _ _ _ _ _ _ _;refine kV [] ?_
     rfl
   | true=>
     have e:gQ h qp i true=min (max qp 1) 31*max (h.a i) 8:=by unfold gQ F4;rw[hw,if_pos rfl,if_pos rfl]
     have m:=qI (a:=min (max qp 1) 31) (b:=max (h.a i) 8) (by omega) (by omega)
     rw[e]
     refine cO Tryz.func37 ?_
     repeat' (first
      |(refine qz ?_;first
       |refine ld (hc:=h0) ?_
       |refine ld (hc:=gb) ?_
       |refine ld (hc:=ga) ?_)
      |refine zz ?_|refine zx (fun _=>?_) (fun _=>?_)|fail)
     show aD _ _ _ _ _ _ _ _;refine kV [] ?_
     rfl
theorem oA{h:Hd}(hr:b7 h){qp:Int}{i:Nat}(hi:i<64){intra:Bool}{e:Int}(he:gQ h qp i intra=e){HS:ai}(hb:Nat.blt HS.length Mem.bound=true):aC.Sound Tryz.prog ⟨37,[.agg (bG h),.one (.int .i64 qp),.one (.int .i64 (i:Nat)),.one (.bool intra)],HS,.one (.int .i64 e),HS,[]⟩:=by
 subst he
 exact au (Cj hr qp hi intra) (by simp only[List.all_cons,List.all_nil,Bool.and_true];exact el h) rfl hb
def sS(h:Hd)(qp:Int)(intra:Bool):Nat->Int
 | 0=>32
 | i+1=>if i=0/\intra=true then sS h qp intra i+gu qp/2 else sS h qp intra i+(gQ h qp i intra-1)
theorem vZ{h:Hd}(hr:b7 h)(qp:Int)(intra:Bool):∀i,i<=64->32<=sS h qp intra i/\sS h qp intra i<=32+8000*i:=by
 intro i
 induction i with
 | zero=>intro _;exact⟨by show(32:Int)<=32;omega,by show(32:Int)<=32+8000*0;omega⟩
 | succ i ih=>
   intro hi
   obtain⟨h1,h2⟩:=ih (by omega)
   have h3:=kC hr qp (i:=i) (by omega) intra
   have h4:=gV qp
   unfold sS
   split<;>omega
def uq(h:Hd)(qp:Int)(intra:Bool):Int:=sS h qp intra 64/64
theorem vY{h:Hd}(hr:b7 h)(qp:Int)(intra:Bool):0<=uq h qp intra/\uq h qp intra<=9000:=by
 have:=vZ hr qp intra 64 (by omega)
 unfold uq
 omega
theorem Bu{h:Hd}(hr:b7 h)(qp:Int)(intra:Bool):aW Tryz.prog 14 [.agg (bG h),.one (.int .i64 qp),.one (.bool intra)] [] (.one (.int .i64 (uq h qp intra))) []:=by
 refine cO Tryz.func14 ?_
 repeat' (first|refine zz ?_|refine zx (fun _=>?_) (fun _=>?_)|fail)
 refine WX.bZ (σ:=Nat) (fun j=>[(1,.one (.int .i64 qp)),(2,.one (.bool intra)),(3,.one (.ptr 0 0)),(7,.one (.int .i64 (sS h qp intra j))),(9,.one (.int .i64 (j:Nat)))]) (fun _=>[.cells (bG h) 24 false false]) (fun j=>j<=64) (fun j=>64-j) 0 (by omega) (fun s _=>hX) (b_ [0]) ?_
 intro j hj ih
 have e1:=vZ hr qp intra j hj
 by_cases hlt:j<64
 ·have e2:=kC hr qp hlt intra
  have e3:=gV qp
  have es:sS h qp intra (j+1)=if j=0/\intra=true then sS h qp intra j+gu qp/2 else sS h qp intra j+(gQ h qp j intra-1):=rfl
  by_cases hz:j=0
  ·cases intra with
   | true=>
     rw[if_pos ⟨hz,rfl⟩]at es
     subst hz
     repeat' (first
      |(refine qz ?_;first
       |refine cl ?_ (hi:=by exact rn rfl rfl))
      |refine zz ?_|refine zx (fun _=>?_) (fun _=>?_)|fail)
     refine ih 1 _ _ _ (b_ [0] (reg:=by(repeat' (first|exact ak.nil|refine ak.flat (by rw[es];rfl) ?_|refine ak.flat rfl ?_|refine ak.cons rfl ?_|refine ak.sl rfl (by assumption) rfl ?_|refine ak.gL rfl rfl (by first|rfl|omega|(simp;done)|(simp;omega)) ?_));first|done|fail)) (by omega) (by omega)
   | false=>
     rw[if_neg (fun g=>by cases g.2)]at es
     subst hz
     repeat' (first
      |(refine qz ?_;first
       |refine fV ?_ (hle:=by rw[cW])
       |refine cl ?_ (hi:=by exact oA hr (i:=0) hlt rfl rfl))
      |refine zz ?_|refine zx (fun _=>?_) (fun _=>?_)|fail)
     refine ih 1 _ _ _ (b_ [0] (reg:=by(repeat' (first|exact ak.nil|refine ak.flat (by rw[es];rfl) ?_|refine ak.flat rfl ?_|refine ak.cons rfl ?_|refine ak.sl rfl (by assumption) rfl ?_|refine ak.gL rfl rfl (by first|rfl|omega|(simp;done)|(simp;omega)) ?_));first|done|fail)) (by omega) (by omega)
  ·rw[if_neg (fun g=>hz g.1)]at es
   repeat' (first
    |(refine qz ?_;first
     |refine fV ?_ (hle:=by rw[cW])
     |refine cl ?_ (hi:=by exact oA hr hlt rfl rfl))
    |refine zz ?_|refine zx (fun _=>?_) (fun _=>?_)|fail)
   refine ih (j+1) _ _ _ (b_ [0] (reg:=by(repeat' (first|exact ak.nil|refine ak.flat (by rw[es];rfl) ?_|refine ak.flat rfl ?_|refine ak.cons rfl ?_|refine ak.sl rfl (by assumption) rfl ?_|refine ak.gL rfl rfl (by first|rfl|omega|(simp;done)|(simp;omega)) ?_));first|done|fail)) (by omega) (by omega)
 ·obtain rfl:j=64:=by omega
  repeat' (first|refine zz ?_|refine zx (fun _=>?_) (fun _=>?_)|fail)
  show aD _ _ _ _ _ _ _ _;refine kV [] ?_
  rfl
theorem v7{h:Hd}(hr:b7 h){qp:Int}{intra:Bool}{e:Int}(he:uq h qp intra=e){HS:ai}(hb:Nat.blt HS.length Mem.bound=true):aC.Sound Tryz.prog ⟨14,[.agg (bG h),.one (.int .i64 qp),.one (.bool intra)],HS,.one (.int .i64 e),HS,[]⟩:=by
 subst he
 exact au (Bu hr qp intra) (by simp only[List.all_cons,List.all_nil,Bool.and_true];exact el h) rfl hb
theorem mw{f f':FuncId}{a a' b b':XV}{HS H1 HS' H1':ai}{v v':XV}{w w':List Nat}:Compat ⟨f,[a,b,.one (.bool false)],HS,v,H1,w⟩ ⟨f',[a',b',.one (.bool true)],HS',v',H1',w'⟩:=fun _ h _=>by
 have h1:=(List.cons.inj (List.cons.inj (List.cons.inj h).2).2).1
 cases h1
theorem Be{h:Hd}(hr:b7 h)(qp:Int):aW Tryz.prog 16 [.agg (j5 h),.one (.int .i64 qp)] [] (.one (.int .i64 (min (max (uq h qp true) (uq h qp false)) 255))) []:=by
 refine cO Tryz.func16 ?_
 repeat' (first
  |(refine qz ?_;first
   |refine mU (cs:=bG h) ?_ (hle:=by rw[db];decide) (hc:=qB h)
   |refine cl ?_ (hi:=by exact v7 hr rfl rfl))
  |refine zz ?_|refine zx (fun _=>?_) (fun _=>?_)|refine aS (by first|exact af.nil|exact af.one _|exact af.i3 (by repeat' (first|exact True.intro|refine And.intro ?_ ?_|exact Compat.ne rfl|exact mw))) ⟨by kernel_rfl,?_⟩|refine aS (by first|exact af.nil|exact af.one _|exact af.i3 (by repeat' (first|exact True.intro|refine And.intro ?_ ?_|exact Compat.ne rfl|exact mw))) ?_|fail)
 show aD _ _ _ _ _ _ _ _;refine kV [] ?_
 rfl
theorem DD{h:Hd}(hr:b7 h){qp e:Int}(he:min (max (uq h qp true) (uq h qp false)) 255=e){HS:ai}(hb:Nat.blt HS.length Mem.bound=true):aC.Sound Tryz.prog ⟨16,[.agg (j5 h),.one (.int .i64 qp)],HS,.one (.int .i64 e),HS,[]⟩:=by
 subst he
 exact au (Be hr qp) (by simp only[List.all_cons,List.all_nil,Bool.and_true];exact fG h) rfl hb
theorem yf{p c:Int}(hp:0<=p)(hc:1<=c):aW Tryz.prog 15 [.one (.int .i64 p),.one (.int .i64 c)] [] (.one (.int .i64 (p%c))) []:=by
 have e:max c 1=c:=by omega
 refine cO Tryz.func15 ?_
 repeat' (first|refine zz ?_|refine zx (fun _=>?_) (fun _=>?_)|fail)
 show aD _ _ _ _ _ _ _ _;refine kV [] ?_
 rw[<-e];rfl
theorem o7{p c:Int}(hp:0<=p)(hc:1<=c){HS:ai}(hb:Nat.blt HS.length Mem.bound=true):aC.Sound Tryz.prog ⟨15,[.one (.int .i64 p),.one (.int .i64 c)],HS,.one (.int .i64 (p%c)),HS,[]⟩:=
 au (yf hp hc) rfl rfl hb
def mY(n:Nat)(v:Int)(j:Nat):List Int:=List.replicate j v++List.replicate (n-j) 0
theorem BA(n:Nat)(v:Int){j:Nat}(h:j<=n):(mY n v j).length=n:=by simp[mY];omega
theorem BB(n:Nat)(v:Int){j:Nat}(h:j<n):(mY n v j).set j v=mY n v (j+1):=by
 unfold mY
 rw[List.set_append_right _ _ (by simp),List.length_replicate,Nat.sub_self,show n-j=(n-(j+1))+1 by omega,List.replicate_succ,List.set_cons_zero,List.replicate_succ',List.append_assoc]
 rfl
theorem Bz(n:Nat)(v:Int):mY n v n=List.replicate n v:=by simp[mY]
theorem yw(n:Nat)(v:Int):mY n v 0=List.replicate n 0:=by simp[mY]
abbrev B5(n:Nat)(v:Int):ah := .cells (il .u8 (List.replicate n v)) 5 false false
def nU(w h i n:Nat):List XC:=[.int .i64 (w:Nat),.int .i64 (h:Nat),.slice i 0 n (.exact n)]
theorem gZ{w h i n m:Nat}(hi:i<m){e:TypeId}{a b:Bool}:(ah.cells (nU w h i n) e a b).bl m:=by simp[ah.bl,nU,XC.ok,hi]
theorem B8{w h n:Nat}(hw:w<=1024)(hh:h<=1024)(hn:w*h=n){v:Int}(hv:0<=v/\v<=255):aW Tryz.prog 34 [.one (.int .i64 (w:Nat)),.one (.int .i64 (h:Nat)),.one (.int .u8 v)] [] (.agg (nU w h 0 n)) [B5 n v]:=by
 have hb:w*h<=1024*1024:=Nat.mul_le_mul hw hh
 have m1:max (w:Int) 0=w:=by omega
 have m2:min (w:Int) 1024=w:=by omega
 have m3:max (h:Int) 0=h:=by omega
 have m4:min (h:Int) 1024=h:=by omega
 have m5:min (max (w:Int) 0) 1024=w:=by omega
 have m6:min (max (h:Int) 0) 1024=h:=by omega
 have m7:(w:Int)*(h:Int)=(n:Nat):=by rw[<-hn];omega
 have m8:min (max (w:Int) 0) 1024*min (max (h:Int) 0) 1024=(n:Nat):=by rw[m5,m6,m7]
 refine cO Tryz.func34 ?_
 repeat' (first
  |(refine qz ?_;first
   |refine Ni ?_ (x:=n) (hx:=by first|exact m7|exact m8|exact rfl) (hy:=by first|exact m7|exact m8|exact rfl))
  |refine zz ?_|refine zx (fun _=>?_) (fun _=>?_)|fail)
 subst hn
 refine WX.bZ (σ:=Nat) (fun j=>[(2,.one (.int .u8 v)),(6,.one (.ptr 0 0)),(7,.one (.ptr 2 0)),(24,.one (.int .i64 (w*h:Nat))),(25,.one (.int .i64 (j:Nat)))]) (fun j=>[.cells [.int .i64 0,.int .i64 0,.nils] 42 false false,.cells (il .u8 (mY (w*h) v j)) 5 false false,.cells (nU w h 1 (w*h)) 42 false false]) (fun j=>j<=w*h) (fun j=>w*h-j) 0 (Nat.zero_le _) (fun s _=>(hX (objs:=by repeat' (first|exact ay.nil|refine ay.cons (gZ (by show 1<3;omega)) ?_|refine ay.flat ?_|refine ay.cons (by first|(simp[ah.bl,XC.ok,aE];done)|simp[ah.bl,XC.ok,aE, *]) ?_)))) (b_ [0,1,2] (obj:=by(repeat' (first|exact ae.nil|refine ae.flat (by rw[yw];rfl) ?_|refine ae.cons (by rw[<-m5,<-m6];rfl) ?_|refine ae.flat rfl ?_|refine ae.cons rfl ?_|refine ae.dead rfl ?_|refine ae.cons (by simp only[ah.ax,List.map_cons,List.map_nil,XC.ax,aB];exact rfl) ?_));first|done|fail)) ?_
 intro j hj ih
 by_cases hlt:j<w*h
 ·have hset:=BB (w*h) v hlt
  have hlen:=BA (w*h) v hj
  repeat' (first|refine zz ?_|refine zx (fun _=>?_) (fun _=>?_)|fail)
  refine ih (j+1) _ _ _ (b_ [0,1,2] (obj:=by(repeat' (first|exact ae.nil|refine ae.flat (by rw[<-hset];rfl) ?_|refine ae.flat rfl ?_|refine ae.cons rfl ?_|refine ae.dead rfl ?_|refine ae.cons (by simp only[ah.ax,List.map_cons,List.map_nil,XC.ax,aB];exact rfl) ?_));first|done|fail)) (by omega) (by omega)
 ·obtain rfl:j=w*h:=by omega
  repeat' (first|refine zz ?_|refine zx (fun _=>?_) (fun _=>?_)|fail)
  show aD _ _ _ _ _ _ _ _;refine kV [1] ?_ (ho:=by repeat' (first|exact ae.nil|refine ae.flat (by rw[Bz];rfl) ?_|refine ae.flat rfl ?_|refine ae.cons rfl ?_|refine ae.dead rfl ?_|refine ae.cons (by simp only[ah.ax,List.map_cons,List.map_nil,XC.ax,aB];exact rfl) ?_)) (hok:=gZ (e:=0) (a:=true) (b:=true) (by show 0<1;omega))
  rfl
theorem wU{w h n:Nat}(hw:w<=1024)(hh:h<=1024)(hn:w*h=n){v:Int}(hv:0<=v/\v<=255){x y:Int}(hx:x=(w:Nat))(hy:y=(h:Nat)){HS:ai}{N:Nat}(hN:HS.length=N){HS':ai}(hs:HS++[B5 n v]=HS')(hb:Nat.blt HS'.length Mem.bound=true) :
 aC.Sound Tryz.prog ⟨34,[.one (.int .i64 x),.one (.int .i64 y),.one (.int .u8 v)],HS,.agg (nU w h N n),HS',[]⟩:=by
 subst hx hy hN
 exact ca (os:=[B5 n v]) [] [] 1 (B8 hw hh hn hv) (by simp) .nil .nil (.flat .nil) rfl (.flat (.flat (.flat .nil))) (.flat (.flat (.flat .nil))) (gZ (e:=0) (a:=true) (b:=true) (by show 0<1;omega)) rfl (.flat .nil) rfl rfl hs hb (.inl rfl)
theorem my{f f':FuncId}{a a':List XV}{HS H1 HS' H1':ai}{v v':XV}{w w':List Nat}(hn:Nat.beq HS.length HS'.length=false):Compat ⟨f,a,HS,v,H1,w⟩ ⟨f',a',HS',v',H1',w'⟩:=fun _ _ h=>by
 have h1:HS.length=HS'.length:=congrArg List.length h
 rw[h1,Nat.beq_refl]at hn
 cases hn
def dQ(C R i j k:Nat):List XC:=[.int .i64 (C:Nat),.int .i64 (R:Nat)]++nU (16*C) (16*R) i (16*C*(16*R))++nU (8*C) (8*R) j (8*C*(8*R))++nU (8*C) (8*R) k (8*C*(8*R))
theorem bI{C R i j k m:Nat}(h1:i<m)(h2:j<m)(h3:k<m){e:TypeId}{a b:Bool}:(ah.cells (dQ C R i j k) e a b).bl m:=by simp[ah.bl,dQ,nU,XC.ok,h1,h2,h3]
theorem BI{C R:Nat}(hC:C<=8)(hR:R<=8){v:Int}(hv:0<=v/\v<=255):aW Tryz.prog 12 [.one (.int .i64 (C:Nat)),.one (.int .i64 (R:Nat)),.one (.int .u8 v)] [] (.agg (dQ C R 0 1 2)) [B5 (16*C*(16*R)) v,B5 (8*C*(8*R)) v,B5 (8*C*(8*R)) v]:=by
 have m1:max (C:Int) 0=C:=by omega
 have m2:min (max (C:Int) 0) 8=C:=by omega
 have m3:max (R:Int) 0=R:=by omega
 have m4:min (max (R:Int) 0) 8=R:=by omega
 have c1:16*(C:Int)=(16*C:Nat):=by omega
 have c2:16*(R:Int)=(16*R:Nat):=by omega
 have c3:8*(C:Int)=(8*C:Nat):=by omega
 have c4:8*(R:Int)=(8*R:Nat):=by omega
 refine cO Tryz.func12 ?_
 repeat' (first
  |(refine qz ?_;first
   |refine cl ?_ (hi:=by first|exact wU (w:=16*C) (h:=16*R) (by omega) (by omega) rfl hv c1 c2 nL nA rfl|exact wU (w:=8*C) (h:=8*R) (by omega) (by omega) rfl hv c3 c4 nL nA rfl))
  |refine zz ?_|refine zx (fun _=>?_) (fun _=>?_)|refine aS (by first|exact af.nil|exact af.one _|exact af.i3 (by repeat' (first|exact True.intro|refine And.intro ?_ ?_|exact Compat.ne rfl|exact my rfl))) ⟨by kernel_rfl,?_⟩|refine aS (by first|exact af.nil|exact af.one _|exact af.i3 (by repeat' (first|exact True.intro|refine And.intro ?_ ?_|exact Compat.ne rfl|exact my rfl))) ?_|fail)
 show aD _ _ _ _ _ _ _ _;refine kV [1,2,3] ?_ (hok:=bI (e:=0) (a:=true) (b:=true) (by show 0<3;omega) (by show 1<3;omega) (by show 2<3;omega))
 rfl
theorem oh{C R:Nat}(hC:C<=8)(hR:R<=8){v:Int}(hv:0<=v/\v<=255){x y:Int}(hx:x=(C:Nat))(hy:y=(R:Nat)){HS:ai}{N:Nat}(hN:HS.length=N){HS':ai}(hs:HS++[B5 (16*C*(16*R)) v,B5 (8*C*(8*R)) v,B5 (8*C*(8*R)) v]=HS')(hb:Nat.blt HS'.length Mem.bound=true) :
 aC.Sound Tryz.prog ⟨12,[.one (.int .i64 x),.one (.int .i64 y),.one (.int .u8 v)],HS,.agg (dQ C R N (N+1) (N+2)),HS',[]⟩:=by
 subst hx hy hN
 exact ca (os:=[B5 (16*C*(16*R)) v,B5 (8*C*(8*R)) v,B5 (8*C*(8*R)) v]) [] [] 3 (BI hC hR hv) (by simp) .nil .nil (.flat (.flat (.flat .nil))) rfl (.flat (.flat (.flat .nil))) (.flat (.flat (.flat .nil))) (bI (e:=0) (a:=true) (b:=true) (by show 0<3;omega) (by show 1<3;omega) (by show 2<3;omega)) rfl (.flat (.flat (.flat .nil))) rfl rfl hs hb (.inl rfl)
theorem fP(C R i j k:Nat):(dQ C R i j k).length=11:=rfl
theorem yv{C R:Nat}(hC:1<=C/\C<=8)(hR:1<=R/\R<=8)(x y z:ah)[aR x][aR y][aR z]:aW Tryz.prog 31 [.agg (dQ C R 0 1 2)] [x,y,z] (.one (.int .i64 0)) [x,y,z]:=by
 have c1:16*(C:Int)=(16*C:Nat):=by omega
 have c2:16*(R:Int)=(16*R:Nat):=by omega
 have c3:8*(C:Int)=(8*C:Nat):=by omega
 have c4:8*(R:Int)=(8*R:Nat):=by omega
 have b1:16*C*(16*R)<=128*128:=Nat.mul_le_mul (by omega) (by omega)
 have b2:8*C*(8*R)<=64*64:=Nat.mul_le_mul (by omega) (by omega)
 have p1:((16*C:Nat):Int)*((16*R:Nat):Int)=(16*C*(16*R):Nat):=(Int.natCast_mul ..).symm
 have p2:((8*C:Nat):Int)*((8*R:Nat):Int)=(8*C*(8*R):Nat):=(Int.natCast_mul ..).symm
 refine cO Tryz.func31 ?_
 repeat' (first|refine zz ?_|refine zx (fun _=>?_) (fun _=>?_)|fail)
 show aD _ _ _ _ _ _ _ _;refine kV [0,1,2] ?_
 rfl
theorem ki{C R:Nat}(hC:1<=C/\C<=8)(hR:1<=R/\R<=8){HS:ai}{i j k:Nat}{x y z:ah}[aR x][aR y][aR z](hi:HS[i]? = some x)(hj:HS[j]? = some y)(hk:HS[k]? = some z)(hd : [i,j,k].Nodup)(hb:Nat.blt HS.length Mem.bound=true) :
 aC.Sound Tryz.prog ⟨31,[.agg (dQ C R i j k)],HS,.one (.int .i64 0),HS,[]⟩:=
 eE [i,j,k] (yv hC hR x y z) hd (.flat hi (.flat hj (.flat hk .nil))) (.flat (.flat (.flat .nil))) (.cons (bI (e:=0) (a:=true) (b:=true) (by show 0<3;omega) (by show 1<3;omega) (by show 2<3;omega)) .nil) (.cons rfl .nil) (by trivial) (bh.ax _) hb rfl
def cD(h:Hd)(c:XC):List XC:=j5 h++[c]
abbrev mB:Hd:=⟨0,0,false,fun _=>0,fun _=>0⟩
theorem bd(h:Hd)(c:XC):(cD h c).length=132:=by simp[cD,db]
theorem fZ:aX Tryz.prog 36 (cD mB .nils):=by
 show aX Tryz.prog 36 ((.int .i64 0 :: .int .i64 0 :: .bool false::((ti .u8 64 fun _=>0)++(ti .u8 64 fun _=>0)))++[.nils])
 infer_instance
theorem pv(h:Hd){c:XC}(hc:c.shut=true):(cD h c).all XC.shut=true:=by
 unfold cD
 rw[List.all_append,fG]
 simp[hc]
instance KB (e:TypeId) (a b:Bool):aR (.cells (cD mB .nils) e a b):=fF (pv _ rfl)
def ri(e:Int):XV := .tup [.agg (cD mB .nils),.one .nils,.one (.int .i64 e)]
theorem kg(e:Int):(ri e).shut=true:=by
 show(([X1.agg (cD mB .nils),.one .nils,.one (.int .i64 e)]).all X1.shut)=true
 simp only[List.all_cons,List.all_nil,X1.shut]
 rw[pv mB rfl];rfl
theorem yn{c:gg}{e:Int}(he:fB c=e)(hne:e≠0)(x y z:ah)[aR x][aR y][aR z]:aW Tryz.prog 11 [.agg (bX c),.one (.slice 0 0 1 (.exact 1))] [.cells (dQ 1 1 1 2 3) 44 false false,x,y,z] (ri e) [.cells (dQ 1 1 1 2 3) 44 false false,x,y,z]:=by
 have hsz:132=(cD mB .nils).length:=by rw[bd]
 refine cO Tryz.func11 ?_
 repeat' (first
  |(refine qz ?_;first
   |refine qd (zs:=cD mB .nils) (hz:=fZ) ?_
   |refine b0 (zs:=cD mB .nils) (hz:=fZ) ?_
   |refine fV ?_ (hle:=by first|rw[aT]|rw[bd])
   |refine cl ?_ (hi:=by exact i1 he rfl)
   |refine lO (cs:=cD mB .nils) ?_ (hs1:=by rw[bd]) (hs2:=by rw[bd]))
  |refine zz ?_|refine zx (fun _=>?_) (fun _=>?_)|fail)
 show aD _ _ _ _ _ _ _ _;refine kV [0,1,2,3] ?_ (hk:=by repeat' (first|exact ay.nil|refine ay.cons (bI (by show 1<4;omega) (by show 2<4;omega) (by show 3<4;omega)) ?_|refine ay.flat ?_|refine ay.cons (by first|(simp[ah.bl,XC.ok,aE];done)|simp[ah.bl,XC.ok,aE, *]) ?_)) (hr:=ez.two rfl (.cell rfl rfl (bq hsz) (.tmp rfl (.tmp rfl .nil))))
 rfl
theorem yr{c:gg}(he:fB c=0):aW Tryz.prog 11 [.agg (bX c),.one .nils] [] (ri 7) []:=by
 have hsz:132=(cD mB .nils).length:=by rw[bd]
 refine cO Tryz.func11 ?_
 repeat' (first
  |(refine qz ?_;first
   |refine qd (zs:=cD mB .nils) (hz:=fZ) ?_
   |refine b0 (zs:=cD mB .nils) (hz:=fZ) ?_
   |refine fV ?_ (hle:=by first|rw[aT]|rw[bd])
   |refine cl ?_ (hi:=by exact i1 he rfl)
   |refine lO (cs:=cD mB .nils) ?_ (hs1:=by rw[bd]) (hs2:=by rw[bd]))
  |refine zz ?_|refine zx (fun _=>?_) (fun _=>?_)|fail)
 show aD _ _ _ _ _ _ _ _;refine kV [] ?_ (hr:=ez.two rfl (.cell rfl rfl (bq hsz) (.tmp rfl (.tmp rfl .nil))))
 rfl
theorem vT{c:gg}(he:fB c=0){n:Nat}(hn:17<=n/\n<=1000)(x:ah)[aR x]:aW Tryz.prog 11 [.agg (bX c),.one (.slice 0 0 n (.exact n))] [x] (ri 7) [x]:=by
 have hsz:132=(cD mB .nils).length:=by rw[bd]
 refine cO Tryz.func11 ?_
 repeat' (first
  |(refine qz ?_;first
   |refine qd (zs:=cD mB .nils) (hz:=fZ) ?_
   |refine b0 (zs:=cD mB .nils) (hz:=fZ) ?_
   |refine fV ?_ (hle:=by first|rw[aT]|rw[bd])
   |refine cl ?_ (hi:=by exact i1 he rfl)
   |refine lO (cs:=cD mB .nils) ?_ (hs1:=by rw[bd]) (hs2:=by rw[bd]))
  |refine zz ?_|refine zx (fun _=>?_) (fun _=>?_)|fail)
 show aD _ _ _ _ _ _ _ _;refine kV [0] ?_ (hr:=ez.two rfl (.cell rfl rfl (bq hsz) (.tmp rfl (.tmp rfl .nil))))
 rfl
theorem yz{C R m:Nat}(h:6<m){e:TypeId}{a b:Bool}:(ah.cells (dQ C R 1 2 3++dQ (C+1) R 4 5 6) e a b).bl m:=fun c hc=>by
 rcases List.mem_append.1 hc with hc|hc
 ·exact bI (e:=0) (a:=true) (b:=true) (by omega) (by omega) (by omega) c hc
 ·exact bI (e:=0) (a:=true) (b:=true) (by omega) (by omega) (by omega) c hc
theorem vS{c:gg}(he:fB c=0){C R:Nat}(hc:c.hd.cols=(C:Nat))(hr:c.hd.rows=(R:Nat))(hC:1<=C/\C<=3)(hR:1<=R/\R<=3)(x1 x2 x3 y1 y2 y3:ah)[aR x1][aR x2][aR x3][aR y1][aR y2][aR y3]:aW Tryz.prog 11 [.agg (bX c),.one (.slice 0 0 2 (.exact 2))] [.cells (dQ C R 1 2 3++dQ (C+1) R 4 5 6) 44 false false,x1,x2,x3,y1,y2,y3] (ri 4) [.cells (dQ C R 1 2 3++dQ (C+1) R 4 5 6) 44 false false,x1,x2,x3,y1,y2,y3]:=by
 have k0:(bX c)[0]? = some (.int .i64 (C:Nat)):=by rw[<-hc];rfl
 have k1:(bX c)[1]? = some (.int .i64 (R:Nat)):=by rw[<-hr];rfl
 have hsz:132=(cD mB .nils).length:=by rw[bd]
 refine cO Tryz.func11 ?_
 repeat' (first
  |(refine qz ?_;first
   |refine qd (zs:=cD mB .nils) (hz:=fZ) ?_
   |refine b0 (zs:=cD mB .nils) (hz:=fZ) ?_
   |refine fV ?_ (hle:=by first|rw[aT]|rw[bd])
   |refine cl ?_ (hi:=by exact i1 he rfl)
   |refine lO (cs:=cD mB .nils) ?_ (hs1:=by rw[bd]) (hs2:=by rw[bd]))
  |refine zz ?_|refine zx (fun _=>?_) (fun _=>?_)|fail)
 refine WX.bZ (σ:=Nat) (fun j=>[(1,.one (.slice 0 0 2 (.exact 2))),(2,.one (.ptr 7 0)),(4,.one (.ptr 8 0)),(33,.one (.slice 0 0 2 (.exact 2))),(34,.one (.int .i64 (2:Nat))),(35,.one (.int .i64 (j:Nat)))]) (fun _=>[.cells (dQ C R 1 2 3++dQ (C+1) R 4 5 6) 44 false false,x1,x2,x3,y1,y2,y3,.cells (bX c) 28 false false,.cells (cD mB .nils) 36 false false]) (fun j=>j<=1) (fun j=>1-j) 0 (Nat.zero_le _) (fun s _=>(hX (objs:=by repeat' (first|exact ay.nil|refine ay.cons (yz (by show 6<9;omega)) ?_|refine ay.flat ?_|refine ay.cons (by first|(simp[ah.bl,XC.ok,aE];done)|simp[ah.bl,XC.ok,aE, *]) ?_)))) (b_ [0,1,2,3,4,5,6,7,8]) ?_
 intro j hj ih
 have hj2:j=0\/j=1:=by omega
 rcases hj2 with rfl|rfl
 ·repeat' (first
   |(refine qz ?_;first
    |refine mU (cs:=dQ C R 1 2 3) ?_ (hc:=by exact rfl)
    |refine cl ?_ (hi:=by exact ki (C:=C) (R:=R) (by omega) (by omega) (x:=x1) (y:=x2) (z:=x3) rfl rfl rfl (by decide) rfl)
    |refine ld (hc:=k0) ?_
    |refine ld (hc:=k1) ?_)
   |refine zz ?_|refine zx (fun _=>?_) (fun _=>?_)|fail)
  refine ih 1 _ _ _ (b_ [0,1,2,3,4,5,6,7,8]) (by omega) (by omega)
 ·repeat' (first
   |(refine qz ?_;first
    |refine mU (cs:=dQ (C+1) R 4 5 6) ?_ (hc:=by exact rfl)
    |refine cl ?_ (hi:=by exact ki (C:=C+1) (R:=R) (by omega) (by omega) (x:=y1) (y:=y2) (z:=y3) rfl rfl rfl (by decide) rfl)
    |refine ld (hc:=k0) ?_
    |refine ld (hc:=k1) ?_
    |refine b0 (zs:=cD mB .nils) (hz:=fZ) ?_
    |refine lO (cs:=cD mB .nils) ?_ (hs1:=by rw[bd]) (hs2:=by rw[bd])
    |refine fV ?_ (hle:=by rw[bd]))
   |refine zz ?_|refine zx (fun _=>?_) (fun _=>?_)|fail)
  show aD _ _ _ _ _ _ _ _;refine kV [0,1,2,3,4,5,6] ?_ (hk:=by repeat' (first|exact ay.nil|refine ay.cons (yz (by show 6<7;omega)) ?_|refine ay.flat ?_|refine ay.cons (by first|(simp[ah.bl,XC.ok,aE];done)|simp[ah.bl,XC.ok,aE, *]) ?_)) (hr:=ez.two rfl (.cell rfl rfl (bq hsz) (.tmp rfl (.tmp rfl .nil))))
  rfl
end Go.Proofs.YtnkodcmkpfefhaaGreat
namespace Go.Xm
open Go.RowKit (Below)
variable [aw]
theorem Bn{P:Program}{f:FuncId}{args:List XV}{b:Bool}(h:∀(β : Env) (w:World) (vs:List Value),cE (aN β 0) args vs->Calls P f vs.toArray w fun e w'=>e = .returned (.bool b)/\Below w.heap.size w w'):aW P f args [] (.one (.bool b)) []:=by
 intro m hm β w vs hall hw
 have hn:m.n=0:=hm.n
 rw[hn]at hall
 refine(h β w vs hall).mono fun e w' ⟨he,hb⟩=>⟨.bool b,β,m,he,hm,⟨trivial,rfl⟩,?_⟩
 exact⟨Nat.le_refl _,Ext.refl _ _,⟨hw.1,hw.2,fun i hi=>absurd hi (by omega),fun i j hi=>absurd hi (by omega)⟩,hb.os,hb.tape,hb.output,hb.size,fun k hk _=>hb.block k hk,fun k hk h=>h⟩
def AY(i n:Nat):Prop:=∃(x:Option Addr) (cap:Nat),aw.val i = .slice x n cap
end Go.Xm
namespace Go.Proofs.YtnkodcmkpfefhaaGreat
open Go.Xm
open Go.RowKit (Below)
variable [aw]
structure S6 where
 g:Nat->Int
 seed:Int
 ix:Nat
 n:Nat
instance:Inhabited S6:=⟨⟨fun _=>0,0,0,0⟩⟩
def NW(s:S6):List XC:=[.int .u8 (s.g 0),.int .u8 (s.g 1),.int .u8 (s.g 2),.int .u8 (s.g 3),.int .u8 (s.g 4),.int .u8 (s.g 5),.int .u32 s.seed]
def xR(s:S6):List XC:=NW s++[.atom s.ix]
instance:qb xR 8:=⟨fun _=>rfl,fun _=>rfl,by decide⟩
theorem yF(a0 a1 a2 a3 a4 a5 s:Int)(x:Option Addr)(n cap:Nat)(w:World) :
 Calls Tryz.prog 29 #[.agg #[.int .u8 a0,.int .u8 a1,.int .u8 a2,.int .u8 a3,.int .u8 a4,.int .u8 a5,.int .u32 s,.slice x n cap]] w fun e w'=>e = .returned (.bool (decide ((n:Int)<=2000)))/\Below w.heap.size w w':=by
 go_enter Tryz.func29,Tryz.ntmps29
 go_wp2
 go_ret
 exact⟨rfl,(Below.refl _ _).alloc (Nat.le_refl _) _⟩
theorem yG{s:S6}(ha:AY s.ix s.n):aW Tryz.prog 29 [.agg (xR s)] [] (.one (.bool (decide (s.n<=2000)))) []:=by
 refine Bn fun β w vs hall=>?_
 obtain⟨u,rfl,hu⟩:∃u,vs = [u]/\aN β 0 (.agg (xR s)) u:=by
  cases hall with
  | cons h1 h2=>cases h2;exact⟨_,rfl,h1⟩
 obtain⟨_,rfl⟩:=hu
 obtain⟨x,cap,h1⟩:=ha
 have e:decide ((s.n:Int)<=2000)=decide (s.n<=2000):=by
  apply decide_eq_decide.2;omega
 have e2 : [Value.agg ((xR s).map (·.den β)).toArray].toArray = #[.agg #[.int .u8 (s.g 0),.int .u8 (s.g 1),.int .u8 (s.g 2),.int .u8 (s.g 3),.int .u8 (s.g 4),.int .u8 (s.g 5),.int .u32 s.seed,.slice x s.n cap]]:=by
  show #[Value.agg #[.int .u8 (s.g 0),.int .u8 (s.g 1),.int .u8 (s.g 2),.int .u8 (s.g 3),.int .u8 (s.g 4),.int .u8 (s.g 5),.int .u32 s.seed,aw.val s.ix]]=_
  rw[h1]
 rw[e2,<-e]
 exact yF _ _ _ _ _ _ _ _ _ _ _
theorem pb{s:S6}(ha:AY s.ix s.n){b:Bool}(hb:decide (s.n<=2000)=b){HS:ai}(hbd:Nat.blt HS.length Mem.bound=true):aC.Sound Tryz.prog ⟨29,[.agg (xR s)],HS,.one (.bool b),HS,[]⟩:=by
 subst hb
 exact au (yG ha) rfl rfl hbd
theorem yH{q:List S6}{ob:ah}(ho:A1 ob xR q){c:XC}(hc:gS c 0 0 q.length)(hq:q.length<=9223372036854775807)(ha:∀i,i<q.length->AY (q.getD i default).ix (q.getD i default).n):∃b,aW Tryz.prog 8 [.one c] [ob] (.one (.bool b)) [ob]:=by
 have hfo:=ho.flat
 by_cases hall:∀i,i<q.length->(q.getD i default).n<=2000
 ·refine⟨decide (q.length<=30),?_⟩
  obtain⟨b,hb⟩:∃b,decide (q.length<=30)=b:=⟨_,rfl⟩
  rw[hb]
  refine cO Tryz.func8 ?_
  repeat' (first|refine zz ?_|refine zx (fun _=>?_) (fun _=>?_)|fail)
  refine WX.bZ (σ:=Nat) (fun j=>[(0,.one c),(5,.one c),(6,.one (.int .i64 (q.length:Nat))),(7,.one (.int .i64 (j:Nat)))]) (fun _=>[ob]) (fun j=>j<=q.length) (fun j=>q.length-j) 0 (Nat.zero_le _) (fun s _=>hX) (b_ [0]) ?_
  intro j hj ih
  by_cases hlt:j<q.length
  ·have a1:=ha j hlt
   have a3:=hall j hlt
   repeat' (first
    |(refine qz ?_;first
     |refine uC (enc:=xR) (q:=q) (j:=j) ?_
     |refine cl ?_ (hi:=by exact pb a1 (b:=true) (decide_eq_true a3) rfl))
    |refine zz ?_|refine zx (fun _=>?_) (fun _=>?_)|fail)
   refine ih (j+1) _ _ _ (b_ [0]) (by omega) (by omega)
  ·cases b with
   | true=>
     have:=of_decide_eq_true hb
     repeat' (first|refine zz ?_|refine zx (fun _=>?_) (fun _=>?_)|fail)
     show aD _ _ _ _ _ _ _ _;refine kV [0] ?_
     rfl
   | false=>
     have:=of_decide_eq_false hb
     repeat' (first|refine zz ?_|refine zx (fun _=>?_) (fun _=>?_)|fail)
     show aD _ _ _ _ _ _ _ _;refine kV [0] ?_
     rfl
 ·refine⟨false,?_⟩
  obtain⟨k,hk,hbad⟩:∃k,k<q.length/\¬(q.getD k default).n<=2000:=by
   refine Classical.byContradiction fun g=>hall fun i hi=>Classical.byContradiction fun h=>g ⟨i,hi,h⟩
  refine cO Tryz.func8 ?_
  repeat' (first|refine zz ?_|refine zx (fun _=>?_) (fun _=>?_)|fail)
  refine WX.bZ (σ:=Nat) (fun j=>[(0,.one c),(5,.one c),(6,.one (.int .i64 (q.length:Nat))),(7,.one (.int .i64 (j:Nat)))]) (fun _=>[ob]) (fun j=>j<=k) (fun j=>k-j) 0 (Nat.zero_le _) (fun s _=>hX) (b_ [0]) ?_
  intro j hj ih
  have hlt:j<q.length:=by omega
  have a1:=ha j hlt
  by_cases a3:(q.getD j default).n<=2000
  ·have hjk:j<k:=by
    rcases Nat.lt_or_ge j k with g|g
    ·exact g
    ·have e:j=k:=by omega
     rw[e]at a3
     exact absurd a3 hbad
   repeat' (first
    |(refine qz ?_;first
     |refine uC (enc:=xR) (q:=q) (j:=j) ?_
     |refine cl ?_ (hi:=by exact pb a1 (b:=true) (decide_eq_true a3) rfl))
    |refine zz ?_|refine zx (fun _=>?_) (fun _=>?_)|fail)
   refine ih (j+1) _ _ _ (b_ [0]) (by omega) (by omega)
  ·repeat' (first
    |(refine qz ?_;first
     |refine uC (enc:=xR) (q:=q) (j:=j) ?_
     |refine cl ?_ (hi:=by exact pb a1 (b:=false) (decide_eq_false a3) rfl))
    |refine zz ?_|refine zx (fun _=>?_) (fun _=>?_)|fail)
   show aD _ _ _ _ _ _ _ _;refine kV [0] ?_
   rfl
theorem pc{ob:ah}[aR ob]{b:Bool}{c0 c:XC}{i:Nat}(hc:aW Tryz.prog 8 [.one c0] [ob] (.one (.bool b)) [ob])(h0:c0.ok 1)(hr:c0.ax (nth [i])=c){HS:ai}(hi:HS[i]? = some ob)(hb:Nat.blt HS.length Mem.bound=true):aC.Sound Tryz.prog ⟨8,[.one c],HS,.one (.bool b),HS,[]⟩:=
 eE [i] hc (by simp) (.flat hi .nil) (.flat .nil) (.cons h0 .nil) (.cons (congrArg XV.one hr) .nil) (by trivial) (bh.ax _) hb rfl
end Go.Proofs.YtnkodcmkpfefhaaGreat
namespace Go.Xm
variable [aw]
variable {P:Program} {ops:Array Oper} {nt nI:Nat} {al:bc} {hs:ai} {o:Oper} {l:List Oper} {L:List aC} {K:List Ab->bc->ai->Prop} {d:Nat}
theorem Ky{zs cs:List XC}{s k:Nat}{t e:TypeId}{parts:Array (Nat×Operand)}{n:Nat}{hs':ai}(hk:SK P ops nt L l ((d,.one (.slice n 0 k (.exact k)))::al) hs' fun bs=>K (⟨true,.none,[n]⟩::bs))(ho:o.op = .buildSlice t k parts:=by exact rfl)(hu:aZ P t (.slice e):=by infer_instance)(hz:aX P e zs:=by infer_instance)(hse:aO P e s:=by infer_instance)(hsm:k*s<=16777216/\0<zs.length:=by exact⟨Nat.le_of_ble_eq_true rfl,Nat.le_of_ble_eq_true rfl⟩)(wn:Wn ops nt al o d:=by exact⟨rfl,rfl,rfl⟩)(hf:fL (fun i=>some (i*s,s)) (dv zs (k*s)) (parts.toList.map fun p=>(p.1,ag (rg al) p.2))=some cs:=by exact rfl)(hn:hs.length=n:=by exact n2)(hb:Nat.blt n Mem.bound=true:=by exact rfl)(hh:hs++[.cells cs e false false]=hs':=by exact n3):SK P ops nt L (o::l) al hs K:=by
 subst hn hh
 refine SK.lift wn.e wn.l (fun _=>?_) hk
 intro m hm
 obtain⟨m',h1,h2,h3⟩:=hm.push (.cells cs e false false) (by simpa [Nat.blt_eq]using hb)
 refine⟨m',?_,h2,h3⟩
 unfold iP
 rw[wn.w]
 refine cj (by rw[ho];rfl) (by rw[ho];rfl) (by rw[ho];rfl) ?_
 rw[ho]
 simp only[bV,dH,dO,hu.out,hse.out,hz.out,h1,hm.n,hf]
 rw[if_pos hsm]
theorem Mg{t t1 e e1:TypeId}{sz len:Nat}{a b:Operand}{zs:List XC}(i n:Nat){j:Nat}{cap:vy}(cs:List XC){vs:List XC}{et:TypeId}{opn ro:Bool}{N:Nat}{hs':ai}(hk:SK P ops nt L l ((d,.one (.slice N 0 (n+len) (.toEnd sz)))::al) hs' fun bs=>K (⟨true,.none,[i,N]⟩::bs))(ho:o.op = .call ⟨.builtin .append,#[a,b],#[t,t1]⟩:=by exact rfl)(hu:aZ P t (.slice e):=by infer_instance)(hu1:aZ P t1 (.slice e1):=by infer_instance)(hz:aX P e zs:=by infer_instance)(hI:TI P e sz:=by infer_instance)(wn:Wn ops nt al o d:=by exact⟨rfl,rfl,rfl⟩)(hsz:zs.length=sz/\0<sz:=by exact⟨rfl,Nat.le_of_ble_eq_true rfl⟩)(ha:ag (rg al) a=kA i n sz:=by exact rfl)(hi:hs[i]? = some (dG e cs):=by exact rfl)(hb:ag (rg al) b = .one (.slice j 0 len cap):=by exact rfl)(hj:hs[j]? = some (.cells vs et opn ro):=by exact rfl)(hl:vs.length=len*sz:=by exact rfl)(hn:cs.length=n*sz:=by exact rfl)(hm:0<len/\n+len<=2000000000:=by omega)(hN:hs.length=N:=by exact n2)(hbd:Nat.blt N Mem.bound=true:=by exact rfl)(hh:hs.set i .dead++[.cells (cs++vs) e true false]=hs':=by first|(simp only[List.set_cons_succ,List.set_cons_zero,List.cons_append,List.nil_append];exact rfl)|exact rfl):SK P ops nt L (o::l) al hs K:=
 Nn (oD hb hj hl) hk ho hu hz hI wn hsz ha hi hn hm hN hbd hh
end Go.Xm
