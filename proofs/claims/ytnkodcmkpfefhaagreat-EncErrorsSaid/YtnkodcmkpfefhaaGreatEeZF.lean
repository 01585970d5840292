/-
  A part of the proof: EncW, EncX, EncY.
-/
import Derived.Test.YtnkodcmkpfefhaaGreatEeW
import Derived.Test.YtnkodcmkpfefhaaGreatEeX
import Derived.Test.YtnkodcmkpfefhaaGreatEeZD
import Derived.Test.YtnkodcmkpfefhaaGreatEeZE
set_option maxRecDepth 10000
set_option maxHeartbeats 8000000
set_option linter.unusedVariables false
set_option linter.unusedSectionVars false
set_option linter.unusedSimpArgs false
namespace Go.Proofs.YtnkodcmkpfefhaaGreat
open Go.Xm
variable [aw]
theorem xc(h:Hd)(x:XC):(cD h x)[131]? = some x:=by
 unfold cD
 rw[List.getElem?_append_right (by rw[db];exact Nat.le_refl _),db];rfl
theorem FB(h:Hd)(x y:XC):(cD h x).set 131 y=cD h y:=by
 unfold cD
 rw[List.set_append_right _ _ (by rw[db];exact Nat.le_refl _),db];rfl
theorem DY(c:gg)(tl cs:List XC)(n s:Nat):(iJ c tl).take (139+n)++cs++(iJ c tl).drop (139+n+s)=iJ c (tl.take n++cs++tl.drop (n+s)):=by
 unfold iJ
 rw[List.take_append,List.take_of_length_le (by rw[aT];omega),List.drop_append,List.drop_eq_nil_of_le (by rw[aT];omega),aT,List.nil_append,show 139+n-139=n by omega,show 139+n+s-139=n+s by omega,List.append_assoc,List.append_assoc,List.append_assoc]
theorem DW{c:gg}{K w m:Nat}{qp p0:Int}{down inter:Bool}(h0:K<m)(h1:w+2<m){t:TypeId}{a b:Bool}:(ah.cells (iJ c (HZ K w qp p0 down inter)) t a b).bl m:=fun x hx=>by
 have q1:w<m:=by omega
 have q2:w+1<m:=by omega
 rcases List.mem_append.1 hx with hx|hx
 ·exact XC.bm (List.all_eq_true.1 (dB c) x hx) m
 ·simp only[HZ,dQ,nU,List.cons_append,List.nil_append,List.mem_cons,List.not_mem_nil,or_false]at hx
  rcases hx with rfl|rfl|rfl|rfl|rfl|rfl|rfl|rfl|rfl|rfl|rfl|rfl|rfl|rfl|rfl|rfl|rfl<;>first|trivial|assumption
theorem FA(h:Hd){m:Nat}{t:TypeId}{a b:Bool}:(ah.cells (cD h .nils) t a b).bl m:=fun x hx=>XC.bm (List.all_eq_true.1 (pv h rfl) x hx) m
theorem D0(h:Hd):XV.bl 11 (.tup [.agg (cD h (.slice 4 0 1 (.toEnd 5))),.one (.slice 7 0 1 (.toEnd 11)),.one (.int .i64 0)]):=fun x hx=>by
 simp only[List.mem_cons,List.not_mem_nil,or_false]at hx
 rcases hx with rfl|rfl|rfl
 ·intro c hc
  unfold cD at hc
  rcases List.mem_append.1 hc with hc|hc
  ·exact XC.bm (List.all_eq_true.1 (fG h) c hc) 11
  ·rw[List.mem_singleton.1 hc]
   show 4<11;omega
 ·show 7<11;omega
 ·trivial
theorem vW{c:gg}(he:fB c=0)(hr:b7 c.hd)(hc1:c.hd.cols=1)(hc2:c.hd.rows=1)(hmn:1<=c.many/\c.many<=64)(htg:c.target=0)(hw:c.wave=false)(hqp:1<=c.qp/\c.qp<=31){F:Fr}(hF:oV F){M:Mb}{S2:bO}(hM:dp c.hd 1 1 F 0 c.qp c.qp oE=M)(hS2:i7 c.hd 1 1 F 0 c.qp c.qp oE=S2)(hT:fS c.hd ⟨0,false,false,c.qp⟩ [M] 0){a b:List Int}(hp:qi c.hd ⟨0,false,false,c.qp⟩ [M] 0 = .inr (a,b)){G:Fr}(hG:gE 1 1 0 (gD c.hd 1 1 (jW 128) 0 M false) (jW 128) 6=G) :
 aW Tryz.prog 11 [.agg (bX c),.one (.slice 0 0 1 (.exact 1))] [.cells (dQ 1 1 1 2 3) 44 false false,yO 1 1 F,uO 1 1 F,vO 1 1 F] (.tup [.agg (cD c.hd (.slice 4 0 1 (.toEnd 5))),.one (.slice 7 0 1 (.toEnd 11)),.one (.int .i64 0)]) [.cells (dQ 1 1 1 2 3) 44 false false,yO 1 1 F,uO 1 1 F,vO 1 1 F,.cells (Jx c.qp 5) 56 true false,.cells (Iw 6) 59 true false,dG 68 (fl mC [M]),.cells (dQ 1 1 8 9 10) 44 true false,yO 1 1 G,uO 1 1 G,vO 1 1 G]:=by
 have k0:(bX c)[0]? = some (.int .i64 1):=by rw[<-hc1];rfl
 have k1:(bX c)[1]? = some (.int .i64 1):=by rw[<-hc2];rfl
 have kq:(bX c)[131+0]? = some (.int .i64 c.qp):=by rw[cy];rfl
 have hsz:132=(cD mB .nils).length:=by rw[bd]
 refine cO Tryz.func11 ?_
 repeat' (first
  |(refine qz ?_;first
   |refine qd (zs:=cD mB .nils) (hz:=fZ) ?_
   |refine fV ?_ (hle:=by first|rw[aT]|rw[bd])
   |refine cl ?_ (hi:=by exact i1 he rfl)
   |refine ld (hc:=k0) ?_
   |refine ld (hc:=k1) ?_)
  |refine zz ?_|refine zx (fun _=>?_) (fun _=>?_)|fail)
 refine WX.loop ?_
 refine WX.round ?_
 repeat' (first
  |(refine qz ?_;first
   |refine mU (cs:=dQ 1 1 1 2 3) ?_ (hc:=by exact rfl)
   |refine cl ?_ (hi:=by exact ki (C:=1) (R:=1) (by omega) (by omega) (x:=yO 1 1 F) (y:=uO 1 1 F) (z:=vO 1 1 F) rfl rfl rfl (by decide) rfl)
   |refine ld (hc:=k0) ?_
   |refine ld (hc:=k1) ?_)
  |refine zz ?_|refine zx (fun _=>?_) (fun _=>?_)|fail)
 refine WX.round ?_
 repeat' (first
  |(refine qz ?_;first
   |refine mU (cs:=j5 c.hd) ?_ (hle:=by rw[aT];decide) (hc:=mv c)
   |refine mU (cs:=bX c) ?_ (hle:=by rw[aT];decide) (hc:=by rw[List.drop_zero,List.take_of_length_le (by rw[aT];exact Nat.le_refl _)])
   |refine ld (hc:=k0) ?_
   |refine ld (hc:=k1) ?_
   |refine ld (hc:=kq) ?_
   |refine cl ?_ (hi:=by exact Jr nL (by simp only[gn,List.cons_append,List.nil_append];exact rfl) rfl)
   |refine cl ?_ (hi:=by exact o9 (C:=1) (R:=1) (by omega) (by omega) (by omega) rfl rfl nL nA rfl)
   |refine bS (zs:=cD mB .nils) (hz:=fZ) (out':=cD c.hd .nils) ?_
   |refine qd (zs:=cD mB .nils) (hz:=fZ) ?_
   |refine lO (cs:=cD c.hd .nils) ?_ (hs1:=by rw[bd]) (hs2:=by rw[bd]))
  |refine zz ?_|refine zx (fun _=>?_) (fun _=>?_)|fail)
 refine WX.via (al2:=[(4,.one (.ptr 5 0)),(10,.one (.ptr 23 0)),(11,.one (.ptr 24 0)),(12,.one .nils),(76,.one (.slice 0 0 1 (.exact 1))),(77,.one (.int .i64 1)),(78,.one (.int .i64 0))]) (hs2:=[.cells (dQ 1 1 1 2 3) 44 false false,yO 1 1 F,uO 1 1 F,vO 1 1 F,.cells (bX c) 28 false false,.cells (cD mB .nils) 36 false false,.cells (dQ 1 1 1 2 3) 44 false false]++gn 7++[yO 1 1 (jW 128),uO 1 1 (jW 128),vO 1 1 (jW 128),.cells (iJ c (HZ 7 20 c.qp 0 false false)) 89 false false,.cells (cD c.hd .nils) 36 false false]) (b_ [0,1,2,3,4,5,6,7,8,9,10,11,12,13,14,15,16,17,18,19,20,21,22,23,24]) (hX (objs:=by repeat' (first|exact ay.nil|refine ay.cons (bI (by show 1<25;omega) (by show 2<25;omega) (by show 3<25;omega)) ?_|refine ay.cons (DW (by show 7<25;omega) (by show 22<25;omega)) ?_|refine ay.cons (FA _) ?_|refine ay.flat ?_|refine ay.cons (by first|(simp[ah.bl,XC.ok,aE];done)|simp[ah.bl,XC.ok,aE, *]) ?_))) ?_
 simp only[gn,List.cons_append,List.nil_append]
 refine WX.c6 rfl ?_
 refine WX.c6 rfl ?_
 refine WX.loop ?_
 refine WX.round ?_
 repeat' (first
  |(refine qz ?_;first
   |refine mU (cs:=dQ 1 1 1 2 3) ?_ (hc:=by exact rfl)
   |refine cl ?_ (hi:=by exact Ht (K:=7) (e:=23) (w:=20) (W:=jW 128) (p0:=0) (down:=false) (inter:=false) hr hc1 hc2 hmn htg hw hqp (by exact⟨fun _=>by show(0:Int)<=128/\(128:Int)<=255;omega,fun _=>by show(0:Int)<=128/\(128:Int)<=255;omega,fun _=>by show(0:Int)<=128/\(128:Int)<=255;omega⟩) hF hM hS2 hT hp hG rfl rfl rfl rfl rfl rfl rfl rfl (by decide) nL (by simp only[bQ,gn,List.set_cons_succ,List.set_cons_zero,List.cons_append,List.nil_append];exact rfl) rfl)
   |refine ld (hc:=xc c.hd _) ?_
   |refine st ?_ (hle:=by rw[bd];decide) (hv:=FB c.hd _ _)
   |refine Ky (k:=1) (cs:=Jx c.qp 32) ?_ (hf:=by exact rfl)
   |refine Mg 25 0 [] ?_
   |refine Ky (k:=1) (cs:=dQ 1 1 34 35 36) ?_ (hf:=by exact rfl)
   |refine Mg 26 0 [] ?_)
  |refine zz ?_|refine zx (fun _=>?_) (fun _=>?_)|fail)
 refine MS (i:=23) (off:=140) (vs:=iJ c (vU 1 1 7 20 21 22 28 c.qp 0 false false)) (cs:=dQ 1 1 34 35 36) ?_ (hs2:=by rw[kh];exact Nat.le_of_ble_eq_true rfl) (hv:=DY c (vU 1 1 7 20 21 22 28 c.qp 0 false false) _ 1 11)
 repeat' (first|refine zz ?_|refine zx (fun _=>?_) (fun _=>?_)|fail)
 refine WX.round ?_
 repeat' (first
  |(refine qz ?_;first
   |refine fV ?_ (hle:=by rw[bd])
   |refine lO (cs:=cD c.hd (.slice 40 0 1 (.toEnd 5))) ?_ (hs1:=by rw[bd]) (hs2:=by rw[bd]))
  |refine zz ?_|refine zx (fun _=>?_) (fun _=>?_)|fail)
 show aD _ _ _ _ _ _ _ _;refine kV [0,1,2,3,40,32,33,42,34,35,36] ?_ (hk:=by repeat' (first|exact ay.nil|refine ay.cons (bI (by show 1<11;omega) (by show 2<11;omega) (by show 3<11;omega)) ?_|refine ay.cons (bI (by show 8<11;omega) (by show 9<11;omega) (by show 10<11;omega)) ?_|refine ay.flat ?_|refine ay.cons (by first|(simp[ah.bl,XC.ok,aE];done)|simp[ah.bl,XC.ok,aE, *]) ?_)) (hr:=ez.two rfl (.cell rfl rfl (bq (by rw[bd])) (.tmp rfl (.tmp rfl .nil)))) (hok:=D0 c.hd)
 show XV.tup _=XV.tup _
 simp only[cD,List.map_append]
 rfl
theorem E2{h:Hd}{p:Ph}{m:Mb}{first:Int}(hT:fS h p [m] first)(hc:c7 m p.inter p.qp=0)(he:m.edge=false):∃a b,qi h p [m] first = .inr (a,b):=by
 have hM:Di p.inter p.qp [m]:=⟨fun k hk=>by
  obtain rfl:k=0:=by simpa using hk
  exact hT.mok m (List.mem_singleton.2 rfl),fun k hk=>by
  obtain rfl:k=0:=by simpa using hk
  exact hc⟩
 unfold qi
 split
 ·rename_i e hx
  obtain⟨_,i,hi,h2⟩:=Ca hT hM 1 (Nat.le_refl _) _ hx
  obtain rfl:i=0:=by omega
  have h3:m.edge=true:=h2
  rw[he]at h3
  cases h3
 ·rename_i x hx
  have hi:=rT hT 1 (Nat.le_refl _) x hx
  have g1:=hi.len
  have g2:=hi.lenw
  have l1:=(v9 (wr (x.B++[true]))).2
  have l2:=(v9 (wr (x.w++[true]))).2
  have l3:=fz (x.B++[true])
  have l4:=fz (x.w++[true])
  rw[List.length_append,List.length_singleton]at l3 l4
  rw[if_neg (by omega)]
  exact⟨_,_,rfl⟩
theorem AG{f:Nat->Int}{c:Int}(h:∀x,x<8->f x=c){k:Nat}(hk:k<8):t8 f k=if k=0 then 8*c else 0:=by
 have e:t8 f k=t8 (fun _=>c) k:=congrArg Prod.fst (mD (fun i hi=>by dsimp only;rw[h i hi]) 3 (Nat.le_refl 3) _ hk)
 rw[e]
 have:k=0\/k=1\/k=2\/k=3\/k=4\/k=5\/k=6\/k=7:=by omega
 rcases this with rfl|rfl|rfl|rfl|rfl|rfl|rfl|rfl<;>simp[t8,DA,lvl,zd,Hs,Hw]<;>omega
theorem EM{n:Nat}(hn:n<8):(BY n=0↔n=0):=by
 have:n=0\/n=1\/n=2\/n=3\/n=4\/n=5\/n=6\/n=7:=by omega
 rcases this with rfl|rfl|rfl|rfl|rfl|rfl|rfl|rfl<;>decide
theorem Ed{b:Nat->Int}{c:Int}(h:∀i,i<64->b i=c){n:Nat}(hn:n<64)(h0:n≠0):rq b n=0:=by
 have r1:∀i,i<64->eX b i=if i/8=0 then 8*c else 0:=fun i hi=>by
  unfold eX
  rw[AG (c:=c) (fun x hx=>h _ (by omega)) (uK (by omega))]
  simp only[EM (show i/8<8 by omega)]
 unfold rq
 rw[eX,AG (c:=if n%8=0 then 8*c else 0) (fun x hx=>by rw[r1 _ (by omega)];simp only[show(8*(n%8)+x)/8=n%8 by omega]) (uK (by omega))]
 simp only[EM (show n/8<8 by omega)]
 split
 ·rw[if_neg (by omega)];rfl
 ·rfl
theorem G4(v:Int)(mb k i:Nat):I7 1 1 (jW v) mb k i=v:=by
 show qx _ _ ((jW v).pl k) _ _=v
 unfold qx Fr.pl jW
 split
 ·rfl
 ·split<;>rfl
theorem Hl(h:Hd)(v:Int)(mb:Nat)(q:Int)(k:Nat){i:Nat}(hi:i<64)(h0:i≠0):qG h 1 1 (jW v) mb q k i=0:=by
 unfold qG jJ
 rw[if_neg (fun g=>h0 g.1),Ed (c:=v) (fun j _=>G4 v mb k j) hi h0]
 unfold BQ
 rw[Int.zero_tdiv]
 rfl
theorem tK{g:Nat->Int}{n:Nat}(h:∀i,i<n->g i=0):∀k,k<=n->dw g k=0
 | 0,_=>rfl
 | k+1,hk=>by
   show dw g k+g k=0
   rw[tK h k (by omega),h k (by omega)]
   rfl
theorem zQ(h:Hd)(v:Int)(mb:Nat)(q:Int)(S:bO):∀k,(pI h 1 1 (jW v) mb q S k).pl=0/\0<=(pI h 1 1 (jW v) mb q S k).ed
 | 0=>⟨rfl,Int.le_refl _⟩
 | k + 1=>by
   obtain⟨h1,h2⟩:=zQ h v mb q S k
   have h3:vG (qG h 1 1 (jW v) mb q k)=0:=tK (n:=64) (fun i hi=>by
    unfold sP
    split
    ·rfl
    ·rename_i h0
     rw[Hl h v mb q k hi h0];rfl) 64 (Nat.le_refl _)
   refine⟨?_,?_⟩
   ·show(pI h 1 1 (jW v) mb q S k).pl+vG (qG h 1 1 (jW v) mb q k)=0
    rw[h1,h3];rfl
   ·have h4:=lS (g:=((Lk (pI h 1 1 (jW v) mb q S k).S mb q (qG h 1 1 (jW v) mb q k) k).getD fun _=>0)) (fun i hi=>pa i hi) (Nat.le_refl 64)
    show 0<=(pI h 1 1 (jW v) mb q S k).ed+vG ((Lk (pI h 1 1 (jW v) mb q S k).S mb q (qG h 1 1 (jW v) mb q k) k).getD fun _=>0)
    unfold vG
    omega
theorem x6(h:Hd)(v:Int)(mb:Nat)(q xq:Int)(S:bO):(dp h 1 1 (jW v) mb q xq S).edge=false:=by
 obtain⟨h1,h2⟩:=zQ h v mb (o3 1 1 (jW v) mb q xq).2 S 6
 show((pI h 1 1 (jW v) mb (o3 1 1 (jW v) mb q xq).2 S 6).ok&&decide ((pI h 1 1 (jW v) mb (o3 1 1 (jW v) mb q xq).2 S 6).ed<(pI h 1 1 (jW v) mb (o3 1 1 (jW v) mb q xq).2 S 6).pl))=false
 rw[h1,decide_eq_false (by omega),Bool.and_false]
theorem A5(h : Hd)(C R:Nat)(F:Fr)(mb:Nat){q xq:Int}(hq:1<=q/\q<=31)(S:bO)(inter:Bool):iR (dp h C R F mb q xq S)/\c7 (dp h C R F mb q xq S) inter q=0:=by
 obtain⟨hm,ha⟩:=tb h C R F mb q xq S
 obtain⟨kd,q',hkq⟩:∃kd q',o3 C R F mb q xq=(kd,q'):=⟨_,_,rfl⟩
 have hk:(kd=3/\q'=q)\/(kd=4/\q'=q-1/\(dV q (q-1)).2=true):=by
  unfold o3 at hkq
  split at hkq
  ·rename_i hf
   cases hkq
   exact .inr ⟨rfl,rfl,hf.1⟩
  ·cases hkq
   exact .inl ⟨rfl,rfl⟩
 obtain⟨m,hM⟩:∃m,dp h C R F mb q xq S=m:=⟨_,rfl⟩
 have e1:m.kind=kd:=by rw[<-hM];unfold dp;rw[hkq];rfl
 have e2:m.qp=q':=by rw[<-hM];unfold dp;rw[hkq];rfl
 have e3:∀k,m.v k=(0,0):=fun k=>by rw[<-hM];rfl
 have e4:∀i,m.lev i=kb (qG h C R F mb q') (fun _=>0) 6 i:=fun i=>by rw[<-hM];unfold dp;rw[hkq];rfl
 have e5:∀i,(-2047<=m.lev i/\m.lev i<=2047)/\(i%64=0->0<=m.lev i/\m.lev i<=127):=fun i=>by
  rw[e4]
  unfold kb
  split
  ·refine⟨qH h C R F mb q' _ _,fun h0=>?_⟩
   rw[h0]
   exact tp _ _
  ·show(-2047<=(0:Int)/\(0:Int)<=2047)/\(i%64=0->0<=(0:Int)/\(0:Int)<=127)
   omega
 rw[hM]at hm ha ⊢
 refine⟨⟨hm.kind,by rw[e2];omega,fun k=>by rw[e3];show dk (0:Int)/\dk (0:Int);unfold dk;omega,fun i=>by have:=(e5 i).1;omega⟩,?_⟩
 have hv:eZ m=0:=by
  unfold eZ
  rw[if_pos]
  have:∀k,pX m k:=fun k=>⟨by rw[e3];decide,fun _=>by rw[e3,e3],fun _ _=>e3 k⟩
  exact⟨this 0,this 1,this 2,this 3⟩
 have hl:pM m=0:=by
  unfold pM
  exact if_pos fun i _=>⟨fun h0=>by omega,(e5 i).1,fun h0 _=>(e5 i).2 h0⟩
 unfold c7
 rw[if_neg (by rw[ha];rintro (g|⟨_,g⟩);· omega
               ·cases g),if_neg (by rw[ha];rintro ⟨_,g⟩;cases g),if_neg,if_neg,if_neg (by rw[hv];simp),hl]
 ·rintro ⟨g1,g2⟩
  omega
 ·rintro ⟨g1,g2⟩
  rcases hk with⟨g3,_⟩|⟨_,g3,g4⟩
  ·omega
  ·rw[e2,g3,g4]at g2;cases g2
abbrev K2(c:gg)(N:Nat)(M:Mb)(G:Fr):ai:=[.cells (Jx c.qp (N+1)) 56 true false,.cells (Iw (N+2)) 59 true false,dG 68 (fl mC [M]),.cells (dQ 1 1 (N+4) (N+5) (N+6)) 44 true false,yO 1 1 G,uO 1 1 G,vO 1 1 G]
theorem xd(h:Hd)(x:XC)(τ : Nat->Nat):(cD h x).map (·.ax τ)=cD h (x.ax τ):=by
 unfold cD
 rw[List.map_append]
 congr 1
theorem yt{c:gg}(he:fB c=0)(hr:b7 c.hd)(hc1:c.hd.cols=1)(hc2:c.hd.rows=1)(hmn:1<=c.many/\c.many<=64)(htg:c.target=0)(hw:c.wave=false)(hqp:1<=c.qp/\c.qp<=31){F:Fr}(hF:oV F){M:Mb}{S2:bO}(hM:dp c.hd 1 1 F 0 c.qp c.qp oE=M)(hS2:i7 c.hd 1 1 F 0 c.qp c.qp oE=S2)(hT:fS c.hd ⟨0,false,false,c.qp⟩ [M] 0){a b:List Int}(hp:qi c.hd ⟨0,false,false,c.qp⟩ [M] 0 = .inr (a,b)){G:Fr}(hG:gE 1 1 0 (gD c.hd 1 1 (jW 128) 0 M false) (jW 128) 6=G){HS:ai}{i x y z:Nat}(hi:HS[i]? = some (.cells (dQ 1 1 x y z) 44 false false))(h1:HS[x]? = some (yO 1 1 F))(h2:HS[y]? = some (uO 1 1 F))(h3:HS[z]? = some (vO 1 1 F))(nd : [i,x,y,z].Nodup){N:Nat}(hN:HS.length=N){HS':ai}(hh:bQ HS [i,x,y,z] (.cells (dQ 1 1 x y z) 44 false false::yO 1 1 F::uO 1 1 F::vO 1 1 F::K2 c N M G)=HS')(hbd:Nat.blt HS'.length Mem.bound=true) :
 aC.Sound Tryz.prog ⟨11,[.agg (bX c),.one (.slice i 0 1 (.exact 1))],HS,.tup [.agg (cD c.hd (.slice N 0 1 (.toEnd 5))),.one (.slice (N+3) 0 1 (.toEnd 11)),.one (.int .i64 0)],HS',[i,x,y,z]⟩:=by
 subst hN
 refine ca _ _ 7 (vW he hr hc1 hc2 hmn htg hw hqp hF hM hS2 hT hp hG) nd ?_ ?_ ?_ rfl ?_ ?_ ?_ ?_ ?_ ?_ rfl hh hbd (.inl rfl)
 ·exact .cons hi (.flat h1 (.flat h2 (.flat h3 .nil)))
 ·exact .cons (bI (by show 1<4;omega) (by show 2<4;omega) (by show 3<4;omega)) (.flat (.flat (.flat .nil)))
 ·refine .cons (bI (by show 1<11;omega) (by show 2<11;omega) (by show 3<11;omega)) (.flat (.flat (.flat (.cons ?_ (.cons ?_ (.flat (.cons (bI (by show 8<11;omega) (by show 9<11;omega) (by show 10<11;omega)) (.flat (.flat (.flat .nil))))))))))
  ·show ∀x∈Jx c.qp 5,XC.ok 11 x
   simp[XC.ok]
  ·show ∀x∈Iw 6,XC.ok 11 x
   simp[XC.ok]
 ·refine .cons (XV.dS (x := .agg (bX c)) (dB c) _) (.cons (by show 0<4;omega) .nil)
 ·exact .cons (XV.cV (x := .agg (bX c)) (dB c) _) (.cons rfl .nil)
 ·exact D0 c.hd
 ·show XV.tup _=XV.tup _
  simp only[List.map_cons,List.map_nil,X1.ax,xd]
  rfl
 ·exact .cons rfl (.flat (.flat (.flat (.cons rfl (.cons rfl (.flat (.cons rfl (.flat (.flat (.flat .nil))))))))))
 ·rfl
def Mq:gg:=⟨⟨0,0,false,fun _=>0,fun _=>0⟩,0,0,0,false,false,false,0,0⟩
def dA:gg:=⟨⟨1,1,false,fun _=>0,fun _=>0⟩,1,0,0,false,false,false,1,0⟩
theorem zX:nv Mq:=⟨⟨by decide,by decide,fun i _=>by show((0:Int)<=0/\(0:Int)<=255)/\((0:Int)<=0/\(0:Int)<=255);decide⟩,by decide,by decide,by decide,by decide,by decide⟩
theorem DJ:iu Mq=dA:=rfl
theorem IW:b7 dA.hd:=fun i _=>by show((0:Int)<=0/\(0:Int)<=255)/\((0:Int)<=0/\(0:Int)<=255);decide
theorem x7:aW Tryz.prog 7 [] [] (.one (.bool true)) []:=by
 obtain⟨M,hM⟩:∃M,dp dA.hd 1 1 (jW 50) 0 dA.qp dA.qp oE=M:=⟨_,rfl⟩
 obtain⟨S2,hS2⟩:∃S2,i7 dA.hd 1 1 (jW 50) 0 dA.qp dA.qp oE=S2:=⟨_,rfl⟩
 obtain⟨G,hG⟩:∃G,gE 1 1 0 (gD dA.hd 1 1 (jW 128) 0 M false) (jW 128) 6=G:=⟨_,rfl⟩
 have hc:=A5 dA.hd 1 1 (jW 50) 0 (q:=dA.qp) (xq:=dA.qp) ⟨by decide,by decide⟩ oE false
 have hed:=x6 dA.hd 50 0 dA.qp dA.qp oE
 rw[hM]at hc hed
 have hT:fS dA.hd ⟨0,false,false,dA.qp⟩ [M] 0:=⟨⟨⟨by decide,by decide,by decide,by decide⟩,fun h=>(by cases h),fun _ _ _=>⟨rfl,rfl⟩⟩,⟨by decide,by decide,fun h=>(by cases h)⟩,fun m hm=>(by rw[List.mem_singleton.1 hm];exact hc.1),by decide,Nat.le_refl 1,(by show 1<=16;omega),(by show(0:Int)+((1:Nat):Int)<=1*1;decide)⟩
 obtain⟨a,b,hp⟩:=E2 hT hc.2 hed
 have hF:oV (jW 50):=⟨fun _=>by show(0:Int)<=50/\(50:Int)<=255;omega,fun _=>by show(0:Int)<=50/\(50:Int)<=255;omega,fun _=>by show(0:Int)<=50/\(50:Int)<=255;omega⟩
 have hk:=(zY Mq zX).1
 rw[DJ]at hk
 refine cO Tryz.func7 ?_
 repeat' (first
  |(refine qz ?_;first
   |refine b0 (zs:=bX ⟨⟨0,0,false,fun _=>0,fun _=>0⟩,0,0,0,false,false,false,0,0⟩) (hz:=qR) ?_
   |refine cl ?_ (hi:=by exact th zX DJ rfl)
   |refine cl ?_ (hi:=by exact o9 (C:=1) (R:=1) (v:=50) (by omega) (by omega) (by omega) rfl rfl nL nA rfl)
   |refine Ky (k:=1) (cs:=dQ 1 1 0 1 2) ?_ (hf:=by exact rfl)
   |refine cl ?_ (hi:=by exact yt (F:=jW 50) hk IW rfl rfl (by decide) rfl rfl (by decide) hF hM hS2 hT hp hG rfl rfl rfl rfl (by decide) nL nA rfl)
   |refine qd (zs:=cD mB .nils) (hz:=fZ) ?_
   |refine lO (cs:=cD dA.hd (.slice 4 0 1 (.toEnd 5))) ?_ (hs1:=by rw[bd]) (hs2:=by rw[bd])
   |refine ld (hc:=xc dA.hd _) ?_
   |refine cl ?_ (hi:=by exact o7 (by omega) (by omega) rfl))
  |refine zz ?_|refine zx (fun _=>?_) (fun _=>?_)|fail)
 show aD _ _ _ _ _ _ _ _;refine kV [] ?_
 rfl
end Go.Proofs.YtnkodcmkpfefhaaGreat
