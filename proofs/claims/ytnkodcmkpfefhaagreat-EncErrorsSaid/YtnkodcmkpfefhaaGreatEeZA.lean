/-
  A part of the proof: EncN, EncH2, EncH3, EncH4.
-/
import Derived.Test.YtnkodcmkpfefhaaGreatEeZ
set_option maxRecDepth 10000
set_option maxHeartbeats 8000000
set_option linter.unusedVariables false
set_option linter.unusedSectionVars false
set_option linter.unusedSimpArgs false
namespace Go.Proofs.YtnkodcmkpfefhaaGreat
open Go.Xm
variable [aw]
def dw(g:Nat->Int):Nat->Int
 | 0=>0
 | n+1=>dw g n+g n
theorem iD{g:Nat->Int}{M:Int}(hg:∀i,0<=g i/\g i<=M):∀n:Nat,0<=dw g n/\dw g n<=M*n
 | 0=>by show(0:Int)<=0/\(0:Int)<=M*((0:Nat):Int);omega
 | n+1=>by
   have h1:=iD hg n
   have h2:=hg n
   show 0<=dw g n+g n/\dw g n+g n<=M*((n+1:Nat):Int)
   rw[Int.natCast_add,Int.mul_add]
   omega
def I7(C R:Nat)(F:Fr)(mb k:Nat):Nat->Int:=qe (qh k*C) (qh k*R) (F.pl k) (Db C mb k) (Dc C mb k)
theorem uu{C R:Nat}{F:Fr}(hF:oV F)(mb k i:Nat):0<=I7 C R F mb k i/\I7 C R F mb k i<=255:=vJ (hF.pl k) _ _ _
def qf(b:Nat->Int)(i:Nat):Int:=max (b i-dw b 64/64) (dw b 64/64-b i)
theorem vP{b:Nat->Int}(hb:∀i,0<=b i/\b i<=255)(i:Nat):0<=qf b i/\qf b i<=255:=by
 have h1:=hb i
 have h2:=iD hb 64
 unfold qf
 omega
def n7(C R:Nat)(F:Fr)(mb k:Nat):Int:=dw (qf (I7 C R F mb k)) 64
def q8(C R:Nat)(F:Fr)(mb:Nat):Int:=dw (n7 C R F mb) 4
theorem te{C R:Nat}{F:Fr}(hF:oV F)(mb k:Nat):0<=n7 C R F mb k/\n7 C R F mb k<=16320:=by
 have:=iD (vP (uu (C:=C) (R:=R) hF mb k)) 64
 unfold n7
 omega
theorem Bh{C R:Nat}{F:Fr}(hF:oV F)(mb:Nat):0<=q8 C R F mb/\q8 C R F mb<=65280:=by
 have:=iD (te (C:=C) (R:=R) hF mb) 4
 unfold q8
 omega
theorem DG{C R:Nat}(hC:1<=C/\C<=8)(hR:1<=R/\R<=8){F:Fr}(hF:oV F){mb:Nat}(hm:mb<=100):aW Tryz.prog 77 [.agg (dQ C R 0 1 2),.one (.int .i64 (mb:Nat))] [yO C R F,uO C R F,vO C R F] (.one (.int .i64 (q8 C R F mb))) [yO C R F,uO C R F,vO C R F]:=by
 refine cO Tryz.func77 ?_
 repeat' (first|refine zz ?_|refine zx (fun _=>?_) (fun _=>?_)|fail)
 refine WX.bZ (σ:=Nat) (fun k=>[(1,.one (.int .i64 (mb:Nat))),(2,.one (.ptr 3 0)),(5,.one (.int .i64 (dw (n7 C R F mb) k))),(16,.one (.int .i64 (k:Nat)))]) (fun k=>[yO C R F,uO C R F,vO C R F,.cells (dQ C R 0 1 2) 44 false false]) (fun k=>k<=4) (fun k=>4-k) 0 (by omega) (fun s _=>(hX (objs:=by repeat' (first|exact ay.nil|refine ay.cons (bI (by show 0<4;omega) (by show 1<4;omega) (by show 2<4;omega)) ?_|refine ay.flat ?_|refine ay.cons (by first|(simp[ah.bl,XC.ok,aE];done)|simp[ah.bl,XC.ok,aE, *]) ?_)))) (b_ [0,1,2,3]) ?_
 intro k hk ih
 have hsum:=iD (te (C:=C) (R:=R) hF mb) k
 by_cases h4:k<4
 ·have ih1:=ih (k+1)
  have hf:=uv hC (mb:=mb) (k:=k) hm
  obtain⟨b,hb⟩:∃b,I7 C R F mb k=b:=⟨_,rfl⟩
  have hbr:∀i,0<=b i/\b i<=255:=by rw[<-hb];exact uu hF mb k
  have hb':qe (qh k*C) (qh k*R) (F.pl k) (Db C mb k) (Dc C mb k)=b:=hb
  have hbk:n7 C R F mb k=dw (qf b) 64:=by unfold n7;rw[hb]
  obtain⟨S,hS⟩:∃S,dw (n7 C R F mb) k=S:=⟨_,rfl⟩
  have hS1:dw (n7 C R F mb) (k+1)=S+dw (qf b) 64:=by rw[dw,hS,hbk]
  rw[hS]at hsum
  rw[hS]
  rw[hS1]at ih1
  have hSr:0<=S/\S<=100000:=by omega
  clear hsum
  obtain⟨c,hc⟩:∃c,dw b 64/64=c:=⟨_,rfl⟩
  have hcr:0<=c/\c<=255:=by have:=iD hbr 64;omega
  have hdv:∀i,qf b i=max (b i-c) (c-b i):=fun i=>by unfold qf;rw[hc]
  repeat' (first
   |(refine qz ?_;first
    |refine fV ?_ (hle:=by first|rw[fP]|rw[aL])
    |refine cl ?_ (hi:=by exact qA hC (by omega) (by omega) rfl rfl rfl rfl rfl (by decide) rfl)
    |refine cl ?_ (hi:=by exact DC (Hu hC hR k) (hF.pl k) (by omega) (by omega) hb' (z8 (by omega) rfl rfl rfl) rfl))
   |refine zz ?_|refine zx (fun _=>?_) (fun _=>?_)|fail)
  refine WX.bZ (σ:=Nat) (fun j=>[(1,.one (.int .i64 (mb:Nat))),(2,.one (.ptr 3 0)),(5,.one (.int .i64 S)),(10,.one (.ptr 4 0)),(16,.one (.int .i64 (k:Nat))),(31,.agg (ti .i64 64 b)),(11,.one (.int .i64 (dw b j))),(32,.one (.int .i64 (j:Nat)))]) (fun j=>[yO C R F,uO C R F,vO C R F,.cells (dQ C R 0 1 2) 44 false false,.cells (ti .i64 64 b) 65 false false]) (fun j=>j<=64) (fun j=>64-j) 0 (by omega) (fun s _=>(hX (objs:=by repeat' (first|exact ay.nil|refine ay.cons (bI (by show 0<5;omega) (by show 1<5;omega) (by show 2<5;omega)) ?_|refine ay.flat ?_|refine ay.cons (by first|(simp[ah.bl,XC.ok,aE];done)|simp[ah.bl,XC.ok,aE, *]) ?_)))) (b_ [0,1,2,3,5]) ?_
  intro j hj ih2
  have hsb:=iD hbr j
  by_cases h8:j<64
  ·have hbj:=hbr (j:Int).toNat
   have hbj2:=hbr j
   repeat' (first
    |(refine qz ?_;first
     |refine El ?_)
    |refine zz ?_|refine zx (fun _=>?_) (fun _=>?_)|fail)
   refine ih2 (j+1) _ _ _ (b_ [0,1,2,3,4]) (by omega) (by omega)
  ·obtain rfl:j=64:=by omega
   repeat' (first
    |(refine qz ?_;first
     |refine fV ?_ (hle:=by first|rw[fP]|rw[aL]))
    |refine zz ?_|refine zx (fun _=>?_) (fun _=>?_)|fail)
   refine WX.bZ (σ:=Nat) (fun j=>[(1,.one (.int .i64 (mb:Nat))),(2,.one (.ptr 3 0)),(11,.one (.int .i64 c)),(16,.one (.int .i64 (k:Nat))),(41,.agg (ti .i64 64 b)),(5,.one (.int .i64 (S+dw (qf b) j))),(42,.one (.int .i64 (j:Nat)))]) (fun j=>[yO C R F,uO C R F,vO C R F,.cells (dQ C R 0 1 2) 44 false false]) (fun j=>j<=64) (fun j=>64-j) 0 (by omega) (fun s _=>(hX (objs:=by repeat' (first|exact ay.nil|refine ay.cons (bI (by show 0<4;omega) (by show 1<4;omega) (by show 2<4;omega)) ?_|refine ay.flat ?_|refine ay.cons (by first|(simp[ah.bl,XC.ok,aE];done)|simp[ah.bl,XC.ok,aE, *]) ?_)))) (b_ [0,1,2,3] (reg:=by(repeat' (first|exact ak.nil|refine ak.flat (by rw[<-hc];rfl) ?_|refine ak.flat (by rw[show S+dw (qf b) 0=S from Int.add_zero S];rfl) ?_|refine ak.flat rfl ?_|refine ak.cons rfl ?_|refine ak.sl rfl (by assumption) rfl ?_|refine ak.gL rfl rfl (by first|rfl|omega|(simp;done)|(simp;omega)) ?_));first|done|fail)) ?_
   intro i hi ih3
   have hsd:=iD (vP hbr) i
   by_cases h9:i<64
   ·have hbi:=hbr (i:Int).toNat
    have hn:S+dw (qf b) (i+1)=S+dw (qf b) i+max (b i-c) (c-b i):=by rw[dw,hdv];omega
    repeat' (first
     |(refine qz ?_;first
      |refine El ?_)
     |refine zz ?_|refine zx (fun _=>?_) (fun _=>?_)|fail)
    refine ih3 (i+1) _ _ _ (b_ [0,1,2,3] (reg:=by(repeat' (first|exact ak.nil|refine ak.flat (by rw[hn];rfl) ?_|refine ak.flat rfl ?_|refine ak.cons rfl ?_|refine ak.sl rfl (by assumption) rfl ?_|refine ak.gL rfl rfl (by first|rfl|omega|(simp;done)|(simp;omega)) ?_));first|done|fail)) (by omega) (by omega)
   ·obtain rfl:i=64:=by omega
    repeat' (first|refine zz ?_|refine zx (fun _=>?_) (fun _=>?_)|fail)
    refine ih1 _ _ _ (b_ [0,1,2,3]) (by omega) (by omega)
 ·obtain rfl:k=4:=by omega
  repeat' (first|refine zz ?_|refine zx (fun _=>?_) (fun _=>?_)|fail)
  show aD _ _ _ _ _ _ _ _;refine kV [0,1,2] ?_
  rfl
theorem zU{C R:Nat}(hC:1<=C/\C<=8)(hR:1<=R/\R<=8){F:Fr}(hF:oV F){mb:Nat}(hm:mb<=100){r:Int}(hr:q8 C R F mb=r){HS:ai}{a b c:Nat}(ha:HS[a]? = some (yO C R F))(hb:HS[b]? = some (uO C R F))(hc:HS[c]? = some (vO C R F))(nd : [a,b,c].Nodup)(hbd:Nat.blt HS.length Mem.bound=true) :
 aC.Sound Tryz.prog ⟨77,[.agg (dQ C R a b c),.one (.int .i64 (mb:Nat))],HS,.one (.int .i64 r),HS,[]⟩:=by
 subst hr
 exact eE [a,b,c] (DG hC hR hF hm) nd (.flat ha (.flat hb (.flat hc .nil))) (.flat (.flat (.flat .nil))) (.cons (bI (e:=0) (a:=true) (b:=true) (by show 0<3;omega) (by show 1<3;omega) (by show 2<3;omega)) (.flat .nil)) (.cons rfl (.flat .nil)) (by trivial) (bh.ax _) hbd rfl
theorem H2(f:Nat->Int×Int):(v8 f).all XC.shut=true:=rfl
theorem FN(f:Nat->Int×Int){z:Nat}(h:z<8):(v8 f)[z]? = some (cI (f z)):=by
 match z,h with
 | 0,_=>rfl
 | 1,_=>rfl
 | 2,_=>rfl
 | 3,_=>rfl
 | 4,_=>rfl
 | 5,_=>rfl
 | 6,_=>rfl
 | 7,_=>rfl
theorem FO(f:Nat->Int×Int):(XV.agg (v8 f)).shut=true:=H2 f
theorem LJ(f:Nat->Int×Int):List.all [XV.agg (v8 f)] XV.shut=true:=by rw[List.all_cons,FO];rfl
instance LY (f:Nat->Int×Int):bh (.agg (v8 f)):=ef (FO f)
theorem DV{f:Nat->Int×Int}{N:Int}(hf:∀i,Bd N (f i))(hN:0<=N/\N<=281474976710656){cs:List XC}(hc:v8 f=cs){g:Nat->Int×Int}(hg:(fun i=>DA f (BY i))=g){HS:ai}(hb:Nat.blt HS.length Mem.bound=true):aC.Sound Tryz.prog ⟨151,[.agg cs],HS,.agg (v8 g),HS,[]⟩:=by
 subst hc
 have h1:=Br hf hN
 rw[hg]at h1
 exact au h1 (LJ f) (FO g) hb
theorem pW(k:IntKind)(n:Nat)(f:Nat->Int):(ti k n f).all XC.shut=true:=by simp[ti,XC.shut]
theorem mD{f g:Nat->Int×Int}(h:∀i,i<8->f i=g i):∀k,k<=3->∀i,i<8->lvl f k i=lvl g k i
 | 0,_,i,hi=>h i hi
 | k+1,hk,i,hi=>by
   have ih:=mD h k (by omega)
   show zd k _ i=zd k _ i
   unfold zd
   have hc:k=0\/k=1\/k=2:=by omega
   by_cases hp:i/2^k%2=0
   ·rw[if_pos hp,if_pos hp,ih i hi,ih (i+2^k) (by rcases hc with rfl|rfl|rfl<;>omega)]
   ·rw[if_neg hp,if_neg hp,ih i hi,ih (i-2^k) (Nat.lt_of_le_of_lt (Nat.sub_le ..) hi)]
theorem uK{i:Nat}(h:i<8):BY i<8:=by
 match i,h with
 | 0,_=>decide
 | 1,_=>decide
 | 2,_=>decide
 | 3,_=>decide
 | 4,_=>decide
 | 5,_=>decide
 | 6,_=>decide
 | 7,_=>decide
def t8(f:Nat->Int)(k:Nat):Int:=(DA (fun i=>(f i,0)) k).1
theorem uE(f g:Nat->Int×Int)(h:∀i,(f i).1=(g i).1):∀k i,(lvl f k i).1=(lvl g k i).1
 | 0,i=>h i
 | k+1,i=>by
   have ih:=uE f g h k
   show(zd k _ i).1=(zd k _ i).1
   unfold zd
   split
   ·show(lvl f k i).1+(lvl f k _).1=(lvl g k i).1+(lvl g k _).1;rw[ih,ih]
   ·show(lvl f k _).1-(lvl f k i).1=(lvl g k _).1-(lvl g k i).1;rw[ih,ih]
theorem uF(f g:Nat->Int×Int)(h:∀i,(f i).2=(g i).1):∀k i,(lvl f k i).2=(lvl g k i).1
 | 0,i=>h i
 | k+1,i=>by
   have ih:=uF f g h k
   show(zd k _ i).2=(zd k _ i).1
   unfold zd
   split
   ·show(lvl f k i).2+(lvl f k _).2=(lvl g k i).1+(lvl g k _).1;rw[ih,ih]
   ·show(lvl f k _).2-(lvl f k i).2=(lvl g k _).1-(lvl g k i).1;rw[ih,ih]
theorem FC{f:Nat->Int}{N:Int}(hN:0<=N)(h:∀i,-N<=f i/\f i<=N)(k:Nat) : -(8*N)<=t8 f k/\t8 f k<=8*N:=
 (uD (f:=fun i=>(f i,0)) (fun i=>⟨h i,by show -N<=(0:Int)/\(0:Int)<=N;omega⟩) hN (Nat.le_refl 3) k).a
def eX(b:Nat->Int)(n:Nat):Int:=t8 (fun x=>b (8*(n%8)+x)) (BY (n/8))
theorem jK{b c:Nat->Int}(h:∀i,i<64->b i=c i):∀n,n<64->eX b n=eX c n:=fun n hn=>by
 unfold eX t8
 refine congrArg Prod.fst (mD (fun i hi=>?_) 3 (Nat.le_refl 3) _ (uK (by omega)))
 dsimp only
 rw[h _ (by omega)]
theorem kz{b:Nat->Int}{N:Int}(hN:0<=N)(h:∀i,-N<=b i/\b i<=N)(n:Nat) : -(8*N)<=eX b n/\eX b n<=8*N:=FC hN (fun i=>h _) _
def pq(b:Nat->Int)(r j n:Nat):Int:=if n%8<r\/n%8<r+2/\n/8<j then eX b n else 0
theorem Cr(b:Nat->Int){r j:Nat}(hr:r+2<=8)(hj:j<8){x y:Int}(hx:x=eX b (8*j+r))(hy:y=eX b (8*j+r+1)):∀n,n<64->gM (gM (pq b r j) (8*j+r) x) (8*j+r+1) y n=pq b r (j+1) n:=by
 intro n hn
 subst hx hy
 unfold gM pq
 by_cases h1:n=8*j+r+1
 ·rw[if_pos h1,if_pos (by omega),h1]
 ·rw[if_neg h1]
  by_cases h2:n=8*j+r
  ·rw[if_pos h2,if_pos (by omega),h2]
  ·rw[if_neg h2]
   by_cases h3:n%8<r\/n%8<r+2/\n/8<j
   ·rw[if_pos h3,if_pos (by omega)]
   ·rw[if_neg h3,if_neg (by omega)]
theorem Fc(b:Nat->Int)(r:Nat):∀n,n<64->pq b r 8 n=pq b (r+2) 0 n:=by
 intro n hn
 unfold pq
 by_cases h:n%8<r+2
 ·rw[if_pos (by omega),if_pos (by omega)]
 ·rw[if_neg (by omega),if_neg (by omega)]
theorem Fe{b:Nat->Int}{N:Int}(hb:∀i,-N<=b i/\b i<=N)(hN:0<=N/\N<=281474976710656):aW Tryz.prog 126 [.agg (ti .i64 64 b)] [] (.agg (ti .i64 64 (eX b))) []:=by
 have e0:pq b 0 0=fun _=>0:=by funext n;unfold pq;rw[if_neg (by omega)]
 refine cO Tryz.func126 ?_
 repeat' (first|refine zz ?_|refine zx (fun _=>?_) (fun _=>?_)|fail)
 refine WX.bZ (σ:=Nat) (fun q=>[(1,.one (.ptr 0 0)),(2,.one (.ptr 1 0)),(3,.one (.ptr 2 0)),(4,.one (.int .i64 (2*q:Nat)))]) (fun q=>[.cells (ti .i64 64 b) 65 false false,.cells (ti .i64 64 fun _=>0) 65 false false,.cells (ti .i64 64 (pq b (2*q) 0)) 65 false false]) (fun q=>q<=4) (fun q=>4-q) 0 (by omega) (fun s _=>hX) (b_ [0,1,2] (obj:=by(repeat' (first|exact ae.nil|refine ae.flat (by rw[show pq b (2*0) 0=fun _=>0 from e0];rfl) ?_|refine ae.flat rfl ?_|refine ae.cons rfl ?_|refine ae.dead rfl ?_|refine ae.cons (by simp only[ah.ax,List.map_cons,List.map_nil,XC.ax,aB];exact rfl) ?_));first|done|fail)) ?_
 intro q hq ih
 by_cases h4:q<4
 ·obtain⟨g,hg⟩:∃g,(fun i=>DA (fun i=>(b (8*(2*q)+i),b (8*(2*q)+8+i))) (BY i))=g:=⟨_,rfl⟩
  have g1:∀j,j<8->(g j).1=eX b (8*j+2*q):=fun j hj=>by
   rw[<-hg]
   unfold eX t8
   rw[show(8*j+2*q)%8=2*q by omega,show(8*j+2*q)/8=j by omega]
   exact uE (fun i=>(b (8*(2*q)+i),b (8*(2*q)+8+i))) (fun i=>(b (8*(2*q)+i),0)) (fun i=>rfl) 3 _
  have g2:∀j,j<8->(g j).2=eX b (8*j+2*q+1):=fun j hj=>by
   rw[<-hg]
   unfold eX t8
   rw[show(8*j+2*q+1)%8=2*q+1 by omega,show(8*j+2*q+1)/8=j by omega]
   exact uF (fun i=>(b (8*(2*q)+i),b (8*(2*q)+8+i))) (fun i=>(b (8*(2*q+1)+i),0)) (fun i=>congrArg b (show 8*(2*q)+8+i=8*(2*q+1)+i by omega)) 3 _
  repeat' (first
   |(refine qz ?_;first
    |refine Mr ?_
    |refine Ms ?_
    |refine cl ?_ (hi:=by exact DV (f:=fun i=>(b (8*(2*q)+i),b (8*(2*q)+8+i))) (N:=N) (fun i=>⟨hb _,hb _⟩) hN rfl hg rfl))
   |refine WX.loop ?_|refine WX.round (c := .seq (.region 7 _ _) _) ?_|refine zz ?_|refine zx (fun _=>?_) (fun _=>?_)|fail)
  refine WX.Ds (σ:=Nat) (fun j=>[(1,.one (.ptr 0 0)),(2,.one (.ptr 1 0)),(3,.one (.ptr 2 0)),(4,.one (.int .i64 (2*q:Nat))),(36,.agg (v8 g)),(37,.one (.int .i64 (j:Nat)))]) (fun j=>[.cells (ti .i64 64 b) 65 false false,.cells (ti .i64 64 fun _=>0) 65 false false,.cells (ti .i64 64 (pq b (2*q) j)) 65 false false]) (fun j=>j<=8) (fun j=>8-j) 0 (by omega) (fun s _=>hX) (b_ [0,1,2]) ?_
  intro j hj ih2
  by_cases h8:j<8
  ·have r1:=kz hN.1 hb (8*j+2*q)
   have r2:=kz hN.1 hb (8*j+2*q+1)
   rw[<-g1 j h8]at r1
   rw[<-g2 j h8]at r2
   have hv:=FN g h8
   have hn:=bJ (k := .i64) (Cr b (r:=2*q) (j:=j) (by omega) h8 (g1 j h8) (g2 j h8))
   refine WX.round ?_
   repeat' (first
    |(refine qz ?_;first
     |refine BL ?_ (hc:=hv)
     |refine MN ?_
     |refine MH ?_
     |refine M_ ?_)
    |refine zz ?_|refine zx (fun _=>?_) (fun _=>?_)|fail)
   refine ih2 (j+1) _ _ _ (b_ [0,1,2] (obj:=by(repeat' (first|exact ae.nil|refine ae.flat (by rw[<-hn];rfl) ?_|refine ae.flat rfl ?_|refine ae.cons rfl ?_|refine ae.dead rfl ?_|refine ae.cons (by simp only[ah.ax,List.map_cons,List.map_nil,XC.ax,aB];exact rfl) ?_));first|done|fail)) (by omega) (by omega)
  ·obtain rfl:j=8:=by omega
   have hn:=bJ (k := .i64) (Fc b (2*q))
   refine WX.round ?_
   repeat' (first|refine zz ?_|refine zx (fun _=>?_) (fun _=>?_)|fail)
   refine ih (q+1) _ _ _ (b_ [0,1,2] (obj:=by(repeat' (first|exact ae.nil|refine ae.flat (by rw[show 2*(q+1)=2*q+2 by omega,<-hn];rfl) ?_|refine ae.flat rfl ?_|refine ae.cons rfl ?_|refine ae.dead rfl ?_|refine ae.cons (by simp only[ah.ax,List.map_cons,List.map_nil,XC.ax,aB];exact rfl) ?_));first|done|fail)) (by omega) (by omega)
 ·obtain rfl:q=4:=by omega
  have hn:ti .i64 64 (pq b (2*4) 0)=ti .i64 64 (eX b):=bJ fun n hn=>by unfold pq;rw[if_pos (by omega)]
  repeat' (first|refine zz ?_|refine zx (fun _=>?_) (fun _=>?_)|fail)
  show aD _ _ _ _ _ _ _ _;refine kV [] ?_
  rw[<-hn];rfl
theorem Az{b c:Nat->Int}{N:Int}(hb:∀i,-N<=b i/\b i<=N)(hN:0<=N/\N<=281474976710656)(hc:eX b=c){HS:ai}(hd:Nat.blt HS.length Mem.bound=true):aC.Sound Tryz.prog ⟨126,[.agg (ti .i64 64 b)],HS,.agg (ti .i64 64 c),HS,[]⟩:=by
 subst hc
 exact au (Fe hb hN) (by simp only[List.all_cons,List.all_nil,Bool.and_true];exact pW _ _ _) (pW _ _ _) hd
theorem J4{k:IntKind}{n:Nat}{b c:Nat->Int}(h:ti k n b=ti k n c)(i:Nat)(hi:i<n):b i=c i:=by
 have h1:(ti k n b)[i]? = (ti k n c)[i]?:=by rw[h]
 rw[eY hi,eY hi]at h1
 simp only[Option.some.injEq,XC.int.injEq,true_and]at h1
 exact h1
theorem f6{f:FuncId}{F:(Nat->Int)->Nat->Int}(hF:∀b c,(∀i,i<64->b i=c i)->∀n,n<64->F b n=F c n){b c b' c':Nat->Int}(h1:F b=b')(h2:F c=c'){HS:ai}:Compat ⟨f,[.agg (ti .i64 64 b)],HS,.agg (ti .i64 64 b'),HS,[]⟩ ⟨f,[.agg (ti .i64 64 c)],HS,.agg (ti .i64 64 c'),HS,[]⟩:=fun _ h _=>by
 simp only[List.cons.injEq,XV.agg.injEq,and_true]at h
 have e:=bJ (k := .i64) (hF b c (J4 h))
 rw[h1,h2]at e
 exact⟨by rw[e],rfl,rfl⟩
def rq(b:Nat->Int):Nat->Int:=eX (eX b)
theorem G9{b:Nat->Int}{N:Int}(hb:∀i,-N<=b i/\b i<=N)(hN:0<=N/\N<=35184372088832):aW Tryz.prog 96 [.agg (ti .i64 64 b)] [] (.agg (ti .i64 64 (rq b))) []:=by
 obtain⟨c,hc⟩:∃c,eX b=c:=⟨_,rfl⟩
 obtain⟨e,he⟩:∃e,eX c=e:=⟨_,rfl⟩
 rw[show rq b=e by unfold rq;rw[hc,he]]
 have h2:∀i,-(8*N)<=c i/\c i<=8*N:=by rw[<-hc];exact kz hN.1 hb
 refine cO Tryz.func96 ?_
 repeat' (first
  |(refine qz ?_;first
   |refine cl ?_ (hi:=by exact Az hb (by omega) hc rfl)
   |refine cl ?_ (hi:=by exact Az h2 (by omega) he rfl))
  |refine zz ?_|refine zx (fun _=>?_) (fun _=>?_)|refine aS (by first|exact af.nil|exact af.one _|exact af.i3 (by repeat' (first|exact True.intro|refine And.intro ?_ ?_|exact Compat.ne rfl|exact f6 (fun _ _=>jK) he hc|exact f6 (fun _ _=>jK) hc he))) ⟨by kernel_rfl,?_⟩|refine aS (by first|exact af.nil|exact af.one _|exact af.i3 (by repeat' (first|exact True.intro|refine And.intro ?_ ?_|exact Compat.ne rfl|exact f6 (fun _ _=>jK) he hc|exact f6 (fun _ _=>jK) hc he))) ?_|fail)
 show aD _ _ _ _ _ _ _ _;refine kV [] ?_
 rfl
theorem I_{b c:Nat->Int}{N:Int}(hb:∀i,-N<=b i/\b i<=N)(hN:0<=N/\N<=35184372088832)(hc:rq b=c){HS:ai}(hd:Nat.blt HS.length Mem.bound=true):aC.Sound Tryz.prog ⟨96,[.agg (ti .i64 64 b)],HS,.agg (ti .i64 64 c),HS,[]⟩:=by
 subst hc
 exact au (G9 hb hN) (by simp only[List.all_cons,List.all_nil,Bool.and_true];exact pW _ _ _) (pW _ _ _) hd
theorem Ec{b:Nat->Int}{N:Int}(hN:0<=N)(h:∀i,-N<=b i/\b i<=N)(n:Nat) : -(64*N)<=rq b n/\rq b n<=64*N:=by
 have:=kz (b:=eX b) (N:=8*N) (by omega) (kz hN h) n
 unfold rq;omega
def wO:Nat->Nat
 | 0=>0|1=>7|2=>3|3=>4|4=>1|5=>6|6=>2|7=>5|_=>8
theorem Hr{i:Nat}(h:i<8):wO i<8:=by
 match i,h with
 | 0,_=>decide
 | 1,_=>decide
 | 2,_=>decide
 | 3,_=>decide
 | 4,_=>decide
 | 5,_=>decide
 | 6,_=>decide
 | 7,_=>decide
def j8(c:Nat->Int)(n:Nat):Int:=t8 (fun x=>c (8*(n%8)+wO x)) (n/8)
theorem j9{b:Nat->Int}{N:Int}(hN:0<=N)(h:∀i,-N<=b i/\b i<=N)(n:Nat) : -(8*N)<=j8 b n/\j8 b n<=8*N:=FC hN (fun i=>h _) _
theorem kQ{b c:Nat->Int}(h:∀i,i<64->b i=c i):∀n,n<64->j8 b n=j8 c n:=fun n hn=>by
 unfold j8 t8
 refine congrArg Prod.fst (mD (fun i hi=>?_) 3 (Nat.le_refl 3) _ (by omega))
 dsimp only
 have:=Hr hi
 rw[h _ (by omega)]
def n6(b:Nat->Int)(r j n:Nat):Int:=if n%8<r\/n%8<r+2/\n/8<j then j8 b n else 0
theorem A_(b:Nat->Int){r j:Nat}(hr:r+2<=8)(hj:j<8){x y:Int}(hx:x=j8 b (8*j+r))(hy:y=j8 b (8*j+r+1)):∀n,n<64->gM (gM (n6 b r j) (8*j+r) x) (8*j+r+1) y n=n6 b r (j+1) n:=by
 intro n hn
 subst hx hy
 unfold gM n6
 by_cases h1:n=8*j+r+1
 ·rw[if_pos h1,if_pos (by omega),h1]
 ·rw[if_neg h1]
  by_cases h2:n=8*j+r
  ·rw[if_pos h2,if_pos (by omega),h2]
  ·rw[if_neg h2]
   by_cases h3:n%8<r\/n%8<r+2/\n/8<j
   ·rw[if_pos h3,if_pos (by omega)]
   ·rw[if_neg h3,if_neg (by omega)]
theorem Dw(b:Nat->Int)(r:Nat):∀n,n<64->n6 b r 8 n=n6 b (r+2) 0 n:=by
 intro n hn
 unfold n6
 by_cases h:n%8<r+2
 ·rw[if_pos (by omega),if_pos (by omega)]
 ·rw[if_neg (by omega),if_neg (by omega)]
theorem GC{b:Nat->Int}{N:Int}(hb:∀i,-N<=b i/\b i<=N)(hN:0<=N/\N<=281474976710656):aW Tryz.prog 135 [.agg (ti .i64 64 b)] [] (.agg (ti .i64 64 (j8 b))) []:=by
 have e0:n6 b 0 0=fun _=>0:=by funext n;unfold n6;rw[if_neg (by omega)]
 refine cO Tryz.func135 ?_
 repeat' (first|refine zz ?_|refine zx (fun _=>?_) (fun _=>?_)|fail)
 refine WX.bZ (σ:=Nat) (fun q=>[(1,.one (.ptr 0 0)),(2,.one (.ptr 1 0)),(3,.one (.ptr 2 0)),(4,.one (.int .i64 (2*q:Nat)))]) (fun q=>[.cells (ti .i64 64 b) 65 false false,.cells (ti .i64 64 fun _=>0) 65 false false,.cells (ti .i64 64 (n6 b (2*q) 0)) 65 false false]) (fun q=>q<=4) (fun q=>4-q) 0 (by omega) (fun s _=>hX) (b_ [0,1,2] (obj:=by(repeat' (first|exact ae.nil|refine ae.flat (by rw[show n6 b (2*0) 0=fun _=>0 from e0];rfl) ?_|refine ae.flat rfl ?_|refine ae.cons rfl ?_|refine ae.dead rfl ?_|refine ae.cons (by simp only[ah.ax,List.map_cons,List.map_nil,XC.ax,aB];exact rfl) ?_));first|done|fail)) ?_
 intro q hq ih
 by_cases h4:q<4
 ·obtain⟨f,hf⟩:∃f:Nat->Int×Int,(fun k=>(b (8*(2*q)+wO k),b (8*(2*q)+8+wO k)))=f:=⟨_,rfl⟩
  have hfb:∀i,Bd N (f i):=fun i=>by rw[<-hf];exact⟨hb _,hb _⟩
  have g1:∀j,j<8->(lvl f 3 j).1=j8 b (8*j+2*q):=fun j hj=>by
   unfold j8 t8
   rw[show(8*j+2*q)%8=2*q by omega,show(8*j+2*q)/8=j by omega]
   exact uE f (fun i=>(b (8*(2*q)+wO i),0)) (fun i=>by rw[<-hf]) 3 _
  have g2:∀j,j<8->(lvl f 3 j).2=j8 b (8*j+2*q+1):=fun j hj=>by
   unfold j8 t8
   rw[show(8*j+2*q+1)%8=2*q+1 by omega,show(8*j+2*q+1)/8=j by omega]
   exact uF f (fun i=>(b (8*(2*q+1)+wO i),0)) (fun i=>by rw[<-hf];exact congrArg b (show 8*(2*q)+8+wO i=8*(2*q+1)+wO i by omega)) 3 _
  repeat' (first
   |(refine qz ?_;first
    |refine Mr ?_
    |refine Ms ?_
    |refine cl ?_ (hi:=by exact An rfl)
    |refine BL ?_)
   |refine WX.loop ?_|refine WX.round (c := .seq (.region 7 _ _) _) ?_|refine zz ?_|refine zx (fun _=>?_) (fun _=>?_)|fail)
  refine WX.Ds (σ:=Nat) (fun k=>[(1,.one (.ptr 0 0)),(2,.one (.ptr 1 0)),(3,.one (.ptr 2 0)),(4,.one (.int .i64 (2*q:Nat))),(5,.one (.ptr 3 0)),(8,.one (.int .i64 (2^k)))]) (fun k=>[.cells (ti .i64 64 b) 65 false false,.cells (ti .i64 64 fun _=>0) 65 false false,.cells (ti .i64 64 (n6 b (2*q) 0)) 65 false false,.cells (v8 (lvl f k)) 233 false false]) (fun k=>k<=3) (fun k=>3-k) 0 (by omega) (fun s _=>hX) (b_ [0,1,2,3] (obj:=by(repeat' (first|exact ae.nil|refine ae.flat (by rw[<-hf];rfl) ?_|refine ae.flat rfl ?_|refine ae.cons rfl ?_|refine ae.dead rfl ?_|refine ae.cons (by simp only[ah.ax,List.map_cons,List.map_nil,XC.ax,aB];exact rfl) ?_));first|done|fail)) ?_
  intro k hk ih2
  obtain⟨g,hg⟩:∃g,lvl f k=g:=⟨_,rfl⟩
  have hb8:∀i,Bd (8*N) (g i):=by rw[<-hg];exact uD hfb hN.1 hk
  refine WX.round ?_
  by_cases h3:k<3
  ·have hs:lvl f (k+1)=zd k g:=by rw[<-hg];rfl
   have hc:k=0\/k=1\/k=2:=by omega
   rw[hg]
   rcases hc with rfl|rfl|rfl
   all_goals
    repeat' (first
     |(refine qz ?_;first
      |refine M9 ?_
      |refine Nb ?_)
     |refine WX.loop ?_|refine WX.round (c := .seq (.region 15 _ _) _) ?_|refine zz ?_|refine zx (fun _=>?_) (fun _=>?_)|fail)
   ·refine ih2 1 _ _ _ (b_ [0,1,2,3] (obj:=by(repeat' (first|exact ae.nil|refine ae.flat (by rw[hs];rfl) ?_|refine ae.flat rfl ?_|refine ae.cons rfl ?_|refine ae.dead rfl ?_|refine ae.cons (by simp only[ah.ax,List.map_cons,List.map_nil,XC.ax,aB];exact rfl) ?_));first|done|fail)) (by omega) (by omega)
   ·refine ih2 2 _ _ _ (b_ [0,1,2,3] (obj:=by(repeat' (first|exact ae.nil|refine ae.flat (by rw[hs];rfl) ?_|refine ae.flat rfl ?_|refine ae.cons rfl ?_|refine ae.dead rfl ?_|refine ae.cons (by simp only[ah.ax,List.map_cons,List.map_nil,XC.ax,aB];exact rfl) ?_));first|done|fail)) (by omega) (by omega)
   ·refine ih2 3 _ _ _ (b_ [0,1,2,3] (obj:=by(repeat' (first|exact ae.nil|refine ae.flat (by rw[hs];rfl) ?_|refine ae.flat rfl ?_|refine ae.cons rfl ?_|refine ae.dead rfl ?_|refine ae.cons (by simp only[ah.ax,List.map_cons,List.map_nil,XC.ax,aB];exact rfl) ?_));first|done|fail)) (by omega) (by omega)
  ·obtain rfl:k=3:=by omega
   rw[hg]at g1 g2
   rw[hg]
   repeat' (first|refine zz ?_|refine zx (fun _=>?_) (fun _=>?_)|fail)
   refine WX.bZ (σ:=Nat) (fun j=>[(1,.one (.ptr 0 0)),(2,.one (.ptr 1 0)),(3,.one (.ptr 2 0)),(4,.one (.int .i64 (2*q:Nat))),(74,.agg (v8 g)),(75,.one (.int .i64 (j:Nat)))]) (fun j=>[.cells (ti .i64 64 b) 65 false false,.cells (ti .i64 64 fun _=>0) 65 false false,.cells (ti .i64 64 (n6 b (2*q) j)) 65 false false]) (fun j=>j<=8) (fun j=>8-j) 0 (by omega) (fun s _=>hX) (b_ [0,1,2]) ?_
   intro j hj ih3
   by_cases h8:j<8
   ·have r1:=j9 hN.1 hb (8*j+2*q)
    have r2:=j9 hN.1 hb (8*j+2*q+1)
    rw[<-g1 j h8]at r1
    rw[<-g2 j h8]at r2
    have hv:=FN g h8
    have hn:=bJ (k := .i64) (A_ b (r:=2*q) (j:=j) (by omega) h8 (g1 j h8) (g2 j h8))
    repeat' (first
     |(refine qz ?_;first
      |refine BL ?_ (hc:=hv)
      |refine MN ?_
      |refine MH ?_
      |refine M_ ?_)
     |refine zz ?_|refine zx (fun _=>?_) (fun _=>?_)|fail)
    refine ih3 (j+1) _ _ _ (b_ [0,1,2] (obj:=by(repeat' (first|exact ae.nil|refine ae.flat (by rw[<-hn];rfl) ?_|refine ae.flat rfl ?_|refine ae.cons rfl ?_|refine ae.dead rfl ?_|refine ae.cons (by simp only[ah.ax,List.map_cons,List.map_nil,XC.ax,aB];exact rfl) ?_));first|done|fail)) (by omega) (by omega)
   ·obtain rfl:j=8:=by omega
    have hn:=bJ (k := .i64) (Dw b (2*q))
    repeat' (first|refine zz ?_|refine zx (fun _=>?_) (fun _=>?_)|fail)
    refine ih (q+1) _ _ _ (b_ [0,1,2] (obj:=by(repeat' (first|exact ae.nil|refine ae.flat (by rw[show 2*(q+1)=2*q+2 by omega,<-hn];rfl) ?_|refine ae.flat rfl ?_|refine ae.cons rfl ?_|refine ae.dead rfl ?_|refine ae.cons (by simp only[ah.ax,List.map_cons,List.map_nil,XC.ax,aB];exact rfl) ?_));first|done|fail)) (by omega) (by omega)
 ·obtain rfl:q=4:=by omega
  have hn:ti .i64 64 (n6 b (2*4) 0)=ti .i64 64 (j8 b):=bJ fun n hn=>by unfold n6;rw[if_pos (by omega)]
  repeat' (first|refine zz ?_|refine zx (fun _=>?_) (fun _=>?_)|fail)
  show aD _ _ _ _ _ _ _ _;refine kV [] ?_
  rw[<-hn];rfl
theorem Dx{b c:Nat->Int}{N:Int}(hb:∀i,-N<=b i/\b i<=N)(hN:0<=N/\N<=281474976710656)(hc:j8 b=c){HS:ai}(hd:Nat.blt HS.length Mem.bound=true):aC.Sound Tryz.prog ⟨135,[.agg (ti .i64 64 b)],HS,.agg (ti .i64 64 c),HS,[]⟩:=by
 subst hc
 exact au (GC hb hN) (by simp only[List.all_cons,List.all_nil,Bool.and_true];exact pW _ _ _) (pW _ _ _) hd
def uy(c:Nat->Int)(n:Nat):Int:=(j8 (j8 c) n+32)/2^6
theorem Hf{b:Nat->Int}{N:Int}(hb:∀i,-N<=b i/\b i<=N)(hN:0<=N/\N<=35184372088832):aW Tryz.prog 106 [.agg (ti .i64 64 b)] [] (.agg (ti .i64 64 (uy b))) []:=by
 obtain⟨c,hc⟩:∃c,j8 b=c:=⟨_,rfl⟩
 obtain⟨e,he⟩:∃e,j8 c=e:=⟨_,rfl⟩
 have hinv:uy b=fun n=>(e n+32)/2^6:=by funext n;unfold uy;rw[hc,he]
 have h2:∀i,-(8*N)<=c i/\c i<=8*N:=by rw[<-hc];exact j9 hN.1 hb
 have h3:∀i,-(8*(8*N))<=e i/\e i<=8*(8*N):=by rw[<-he];exact j9 (by omega) h2
 refine cO Tryz.func106 ?_
 repeat' (first
  |(refine qz ?_;first
   |refine cl ?_ (hi:=by exact Dx hb (by omega) hc rfl)
   |refine cl ?_ (hi:=by exact Dx h2 (by omega) he rfl))
  |refine zz ?_|refine zx (fun _=>?_) (fun _=>?_)|refine aS (by first|exact af.nil|exact af.one _|exact af.i3 (by repeat' (first|exact True.intro|refine And.intro ?_ ?_|exact Compat.ne rfl|exact f6 (fun _ _=>kQ) he hc|exact f6 (fun _ _=>kQ) hc he))) ⟨by kernel_rfl,?_⟩|refine aS (by first|exact af.nil|exact af.one _|exact af.i3 (by repeat' (first|exact True.intro|refine And.intro ?_ ?_|exact Compat.ne rfl|exact f6 (fun _ _=>kQ) he hc|exact f6 (fun _ _=>kQ) hc he))) ?_|fail)
 refine WX.bZ (σ:=Nat) (fun j=>[(2,.one (.ptr 1 0)),(3,.one (.ptr 2 0)),(10,.agg (ti .i64 64 e)),(11,.one (.int .i64 (j:Nat)))]) (fun j=>[.cells (ti .i64 64 b) 65 false false,.cells (ti .i64 64 fun _=>0) 65 false false,.cells (ti .i64 64 (iz (fun n=>(e n+32)/2^6) (fun _=>0) j)) 65 false false]) (fun j=>j<=64) (fun j=>64-j) 0 (by omega) (fun s _=>hX) (b_ [0,1,2] (obj:=by(repeat' (first|exact ae.nil|refine ae.flat (by rw[fI];rfl) ?_|refine ae.flat rfl ?_|refine ae.cons rfl ?_|refine ae.dead rfl ?_|refine ae.cons (by simp only[ah.ax,List.map_cons,List.map_nil,XC.ax,aB];exact rfl) ?_));first|done|fail)) ?_
 intro j hj ih
 by_cases h:j<64
 ·have hej:=h3 (j:Int).toNat
  have hn:=fH (fun n=>(e n+32)/2^6) (fun _=>0) j
  repeat' (first
   |(refine qz ?_;first
    |refine El ?_
    |refine Nj 6 ?_)
   |refine zz ?_|refine zx (fun _=>?_) (fun _=>?_)|fail)
  refine ih (j+1) _ _ _ (b_ [0,1,2] (obj:=by(repeat' (first|exact ae.nil|refine ae.flat (by rw[<-hn];rfl) ?_|refine ae.flat rfl ?_|refine ae.cons rfl ?_|refine ae.dead rfl ?_|refine ae.cons (by simp only[ah.ax,List.map_cons,List.map_nil,XC.ax,aB];exact rfl) ?_));first|done|fail)) (by omega) (by omega)
 ·obtain rfl:j=64:=by omega
  repeat' (first|refine zz ?_|refine zx (fun _=>?_) (fun _=>?_)|fail)
  show aD _ _ _ _ _ _ _ _;refine kV [] ?_
  rw[show ti .i64 64 (uy b)=ti .i64 64 (iz (fun n=>(e n+32)/2^6) (fun _=>0) 64)from bJ fun i hi=>by rw[hinv];simp[iz,hi]];rfl
theorem Jg{b c:Nat->Int}{N:Int}(hb:∀i,-N<=b i/\b i<=N)(hN:0<=N/\N<=35184372088832)(hc:uy b=c){HS:ai}(hd:Nat.blt HS.length Mem.bound=true):aC.Sound Tryz.prog ⟨106,[.agg (ti .i64 64 b)],HS,.agg (ti .i64 64 c),HS,[]⟩:=by
 subst hc
 exact au (Hf hb hN) (by simp only[List.all_cons,List.all_nil,Bool.and_true];exact pW _ _ _) (pW _ _ _) hd
theorem Ek{b:Nat->Int}{N:Int}(hN:0<=N)(h:∀i,-N<=b i/\b i<=N)(n:Nat) : -(N+1)<=uy b n/\uy b n<=N+1:=by
 have h1:=j9 (b:=j8 b) (N:=8*N) (by omega) (j9 hN h) n
 unfold uy
 omega
def tr(f:Nat->Int)(i:Nat):Int:=if i<64 then f i else 0
theorem LF(k:IntKind)(f:Nat->Int):ti k 64 (tr f)=ti k 64 f:=bJ fun i hi=>if_pos hi
theorem J8{f:Nat->Int}{N:Int}(hN:0<=N)(h:∀i,i<64 -> -N<=f i/\f i<=N)(i:Nat) : -N<=tr f i/\tr f i<=N:=by
 unfold tr
 split
 ·exact h i (by assumption)
 ·omega
end Go.Proofs.YtnkodcmkpfefhaaGreat
