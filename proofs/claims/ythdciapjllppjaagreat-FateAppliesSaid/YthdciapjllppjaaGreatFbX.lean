/-
  A part of the proof: Macro, Made, Made2, AtK, StrF, StrG, StrL, StrP, StrC, StrB, StrR, StrK, FtG.
-/
import Derived.Test.YthdciapjllppjaaGreatFbF
import Derived.Test.YthdciapjllppjaaGreatFbN
import Derived.Test.YthdciapjllppjaaGreatFbU
import Derived.Test.YthdciapjllppjaaGreatFbW
set_option maxRecDepth 10000
set_option maxHeartbeats 8000000
set_option linter.unusedVariables false
set_option linter.unusedSectionVars false
set_option linter.unusedSimpArgs false
open Go.Proofs.Tryz (prog)
namespace Go.Proofs.YthdciapjllppjaaGreat
open Go.Xm
variable [av]
theorem s8(m:Mb)(z:Int):(mC m).set 0 (.int .u8 z)=mC {m with kind:=z}:=rfl
theorem QO(m:Mb)(z:Int):(mC m).set 1 (.int .i64 z)=mC {m with qp:=z}:=rfl
theorem LC(m:Mb)(b:Bool):(mC m).set 6 (.bool b)=mC {m with edge:=b}:=rfl
theorem Ng(m:Mb)(q:Nat->Int×Int):(mC m).take 2++vt q++(mC m).drop (2+4)=mC {m with v:=q}:=rfl
theorem LD(m:Mb)(j:Nat)(z:Int):(mC m).set (7+j) (.int .i64 z)=mC {m with lev:=gG m.lev j z}:=by
 unfold mC;rw[Nat.add_comm];simp only[List.set_cons_succ];rw[u9]
theorem s9(m:Mb)(k i:Nat)(z:Int):(mC m).set (7+k*64+i) (.int .i64 z)=mC {m with lev:=gG m.lev (k*64+i) z}:=by
 rw[Nat.add_assoc];exact LD m _ z
theorem gE(m:Mb):(mC m)[0]? = some (.int .u8 m.kind):=rfl
theorem AK{x:Int}(h:0<=x/\x<4):([.int .i64 (-2),.int .i64 (-1),.int .i64 1,.int .i64 2]:List XC)[x.toNat]? = some (.int .i64 (tm x)):=by
 have:x=0\/x=1\/x=2\/x=3:=by omega
 rcases this with rfl|rfl|rfl|rfl<;>rfl
theorem JG(s:Sm){k:Nat}(hk:k<6):(th s)[12+k]? = some (.int .u64 (s.gR k)):=by
 match k,hk with
 | 0,_=>rfl
 | 1,_=>rfl
 | 2,_=>rfl
 | 3,_=>rfl
 | 4,_=>rfl
 | 5,_=>rfl
theorem IK(s:Sm)(al:Bool)(k:Nat){y:Int×(Nat->Int)}(hy:pc s k (jn s al k) 64=y):jn s al (k+1)=(y.1,if al=true then gG y.2 (k*64) (y.1/2^20%128)else y.2):=by
 subst hy;rfl
theorem IJ(s:Sm)(k:Nat)(x:Int×(Nat->Int))(i:Nat){y:Int×(Nat->Int)}(hy:pc s k x i=y):pc s k x (i+1)=(vZ y.1,if s.gR k/2^i%2=1 then(if s.great=true then gG (gG y.2 (k*64+i) (vZ y.1/2^16%7-3)) (k*64+i) (vZ y.1/2^16%1001-500)else gG y.2 (k*64+i) (vZ y.1/2^16%7-3))else y.2):=by
 subst hy;rfl
abbrev KH(K Q:Int):Mb:={y_ with kind:=K,qp:=Q}
theorem LG{s : Sm}(hs:iy s)(inter:Bool){qp:Int}(hq:1<=qp/\qp<=31):bm prog 29 [.agg (th s),.one (.bool inter),.one (.int .i64 qp)] [] (.agg (mC (nR s inter qp))) []:=by
 have hk:=hs.kind;have hst:=hs.step;have hkq:=z5 s inter qp hs hq;refine cO Tryz.func29 ?_
 repeat' (first
  |(refine qz ?_;first
   |refine nC (zs:=mC y_) (hz:=oN) ?_
   |refine bS (zs:=mC y_) (hz:=oN) ?_
   |refine tk (cs:=mC (KH (s.kind%5) qp)) ?_ (hs1:=by rw[aY]) (hs2:=by rw[aY]))
  |refine WX.B4 2 (σ:=Int) (fun K=>[(1,.one (.bool inter)),(2,.one (.int .i64 qp)),(3,.one (.ptr 0 0)),(6,.one (.ptr 1 0)),(7,.one (.ptr 2 0))]) (fun K=>[.cells (th s) 99 false false,.cells (mC y_) 107 false false,.cells (mC (KH K qp)) 107 false false]) (fun K=>lJ s inter=K) (fun s _=>mE) ?_ ?_|refine zz ?_|refine zx (fun _=>?_) (fun _=>?_)|fail)
 ·intro _;cases inter
  ·repeat' (first
    |(refine qz ?_;first
     |refine st ?_ (hle:=by rw[aY];omega) (hv:=s8 _ _))
    |refine zz ?_|refine zx (fun _=>?_) (fun _=>?_)|fail)
   (first|exact⟨lJ s false,_,rfl,(bq [0,1,2])⟩|exact⟨rfl,lJ s false,_,rfl,(bq [0,1,2])⟩)
  ·repeat' (first|refine zz ?_|refine zx (fun _=>?_) (fun _=>?_)|fail)
   (first|exact⟨lJ s true,_,rfl,(bq [0,1,2])⟩|exact⟨rfl,lJ s true,_,rfl,(bq [0,1,2])⟩)
 ·intro K hK
  have hkr:0<=K/\K<=4:=by
   rw[<-hK];unfold lJ;split<;>omega
  refine WX.B4 4 (σ:=Int×Int) (fun x=>[(1,.one (.bool inter)),(2,.one (.int .i64 qp)),(3,.one (.ptr 0 0)),(6,.one (.ptr 1 0)),(7,.one (.ptr 2 0))]) (fun x=>[.cells (th s) 99 false false,.cells (mC y_) 107 false false,.cells (mC (KH x.1 x.2)) 107 false false]) (fun x=>dY s inter qp=x) (fun s _=>mE) ?_ ?_
  ·intro _;have hb:=Mv (s.step%4)
   by_cases h4:K=4
   ·by_cases hr:1<=qp+tm (s.step%4)/\qp+tm (s.step%4)<=31
    ·have e0:dY s inter qp=(4,qp+tm (s.step%4)):=by unfold dY;rw[hK,if_pos h4,if_pos hr]
     have hr1:=hr.1;have hr2:=hr.2
     repeat' (first
      |(refine qz ?_;first
       |refine ld (c := .int .u8 K) ?_ (hc:=gE _)
       |refine st (c := .int .u8 3) ?_ (hle:=by rw[aY];omega) (hv:=s8 _ _)
       |refine st (c := .int .u8 4) ?_ (hle:=by rw[aY];omega) (hv:=s8 _ _)
       |refine st (c := .int .i64 (qp+tm (s.step%4))) ?_ (hle:=by rw[aY];omega) (hv:=QO _ _)
       |refine cl ?_ (hi:=by exact u4 rfl)
       |refine KG ?_ (hc:=AK (by omega)))
      |refine zz ?_|refine zx (fun _=>?_) (fun _=>?_)|fail)
     (first|exact⟨(4,qp+tm (s.step%4)),_,e0,(bq [0,1,2])⟩|exact⟨rfl,(4,qp+tm (s.step%4)),_,e0,(bq [0,1,2])⟩)
    ·have e0:dY s inter qp=(3,qp):=by unfold dY;rw[hK,if_pos h4,if_neg hr]
     repeat' (first
      |(refine qz ?_;first
       |refine ld (c := .int .u8 K) ?_ (hc:=gE _)
       |refine st (c := .int .u8 3) ?_ (hle:=by rw[aY];omega) (hv:=s8 _ _)
       |refine cl ?_ (hi:=by exact u4 rfl)
       |refine KG ?_ (hc:=AK (by omega)))
      |refine zz ?_|refine zx (fun _=>?_) (fun _=>?_)|fail)
     all_goals first|(exfalso;omega)|(first|exact⟨(3,qp),_,e0,(bq [0,1,2])⟩|exact⟨rfl,(3,qp),_,e0,(bq [0,1,2])⟩)
   ·have e0:dY s inter qp=(K,qp):=by unfold dY;rw[hK,if_neg h4]
    repeat' (first
     |(refine qz ?_;first
      |refine ld (c := .int .u8 K) ?_ (hc:=gE _))
     |refine zz ?_|refine zx (fun _=>?_) (fun _=>?_)|fail)
    (first|exact⟨(K,qp),_,e0,(bq [0,1,2])⟩|exact⟨rfl,(K,qp),_,e0,(bq [0,1,2])⟩)
  ·intro H hH;rw[hH]at hkq;obtain⟨k0,k4,q1,q31,-,-,-⟩:=hkq
   obtain⟨q,hwq⟩:∃q,sM s.wy=q:=⟨_,rfl⟩
   by_cases h0:H.1=0
   ·have eM:nR s inter qp=KH H.1 H.2:=by
     unfold nR;rw[hH];have e1:oQ H.1 s.wy=fun _=>(0,0):=by unfold oQ;rw[if_neg (by omega),if_neg (by omega)]
     have e2:vU H.1=false:=decide_eq_false (by omega);rw[e1,e2,if_pos h0,if_neg (by decide)];rfl
    rw[eM]
    repeat' (first
     |(refine qz ?_;first
      |refine t_ (cs:=Rb s.wy) ?_
      |refine cl ?_ (hi:=by exact Ed hs.wy hwq rfl)
      |refine nC (zs:=vt fun _=>(0,0)) (hz:=zeroV) ?_
      |refine tk (cs:=vt q) ?_ (hs1:=by rfl) (hs2:=by rfl)
      |refine ld (c := .int .u8 H.1) ?_ (hc:=gE _)
      |refine lI ?_ (hle:=by rw[aY])
      |refine tk (cs:=mC (KH H.1 H.2)) ?_ (hs1:=by rw[aY]) (hs2:=by rw[aY]))
     |refine zz ?_|refine zx (fun _=>?_) (fun _=>?_)|fail)
    show aE _ _ _ _ _ _ _ _;refine kV [] ?_;rfl
   ·obtain ⟨m, hm⟩:∃m:Mb,(⟨H.1,H.2,oQ H.1 s.wy,if vU H.1=true then s.edge else false,fun _=>0⟩:Mb)=m:=⟨_,rfl⟩
    repeat' (first
     |(refine qz ?_;first
      |refine t_ (cs:=Rb s.wy) ?_
      |refine cl ?_ (hi:=by exact Ed hs.wy hwq rfl)
      |refine nC (zs:=vt fun _=>(0,0)) (hz:=zeroV) ?_
      |refine tk (cs:=vt q) ?_ (hs1:=by rfl) (hs2:=by rfl))
     |refine WX.B4 10 (σ:=Mb) (fun x=>[(3,.one (.ptr 0 0)),(6,.one (.ptr 1 0)),(7,.one (.ptr 2 0))]) (fun x=>[.cells (th s) 99 false false,.cells (mC y_) 107 false false,.cells (mC x) 107 false false]) (fun x=>m=x) (fun s _=>mE) ?_ ?_|refine zz ?_|refine zx (fun _=>?_) (fun _=>?_)|fail)
    ·intro _
     by_cases h1:H.1=1
     ·have e1:mC m=mC {KH H.1 H.2 with v:=fun _=>q 0}:=by
       rw[<-hm,<-hwq];have e1:oQ H.1 s.wy=fun _=>sM s.wy 0:=if_pos h1
       have e2:vU H.1=false:=decide_eq_false (by omega);rw[e1,e2,if_neg (by decide)];rfl
      repeat' (first
       |(refine qz ?_;first
        |refine ld (c := .int .u8 H.1) ?_ (hc:=gE _)
        |refine cl ?_ (hi:=by exact NH rfl)
        |refine SG (off:=2) (s:=4) ?_ (hs2:=by rw[aY];omega) (hv:=Ng (KH H.1 H.2) (fun _=>q 0)))
       |refine zz ?_|refine zx (fun _=>?_) (fun _=>?_)|fail)
      first|exact⟨m,_,rfl,(bq [0,1,2] (obj:=by(repeat' (first|exact af.nil|refine af.flat (by rw[e1];rfl) ?_|refine oz ?_));first|done|fail))⟩|exact⟨rfl,m,_,rfl,(bq [0,1,2] (obj:=by(repeat' (first|exact af.nil|refine af.flat (by rw[e1];rfl) ?_|refine oz ?_));first|done|fail))⟩
     ·by_cases h2:H.1=2
      ·have e1:mC m=mC {KH H.1 H.2 with v:=q}:=by
        rw[<-hm,<-hwq];have e1:oQ H.1 s.wy=fun k=>if k<4 then sM s.wy k else(0,0):=by unfold oQ;rw[if_neg h1,if_pos h2]
        have e2:vU H.1=false:=decide_eq_false (by omega);rw[e1,e2,if_neg (by decide)];rfl
       repeat' (first
        |(refine qz ?_;first
         |refine ld (c := .int .u8 H.1) ?_ (hc:=gE _)
         |refine lI ?_ (hle:=by rfl)
         |refine SG (cs:=vt q) (off:=2) (s:=4) ?_ (hs2:=by rw[aY];omega) (hv:=Ng (KH H.1 H.2) q))
        |refine zz ?_|refine zx (fun _=>?_) (fun _=>?_)|fail)
       first|exact⟨m,_,rfl,(bq [0,1,2] (obj:=by(repeat' (first|exact af.nil|refine af.flat (by rw[e1];rfl) ?_|refine oz ?_));first|done|fail))⟩|exact⟨rfl,m,_,rfl,(bq [0,1,2] (obj:=by(repeat' (first|exact af.nil|refine af.flat (by rw[e1];rfl) ?_|refine oz ?_));first|done|fail))⟩
      ·have e1:mC m=mC {KH H.1 H.2 with edge:=s.edge}:=by
        rw[<-hm];have e1:oQ H.1 s.wy=fun _=>(0,0):=by unfold oQ;rw[if_neg h1,if_neg h2]
        have e2:vU H.1=true:=decide_eq_true (by omega);rw[e1,e2,if_pos rfl];rfl
       repeat' (first
        |(refine qz ?_;first
         |refine ld (c := .int .u8 H.1) ?_ (hc:=gE _)
         |refine st (c := .bool s.edge) ?_ (hle:=by rw[aY];omega) (hv:=LC _ _))
        |refine zz ?_|refine zx (fun _=>?_) (fun _=>?_)|fail)
       first|exact⟨m,_,rfl,(bq [0,1,2] (obj:=by(repeat' (first|exact af.nil|refine af.flat (by rw[e1];rfl) ?_|refine oz ?_));first|done|fail))⟩|exact⟨rfl,m,_,rfl,(bq [0,1,2] (obj:=by(repeat' (first|exact af.nil|refine af.flat (by rw[e1];rfl) ?_|refine oz ?_));first|done|fail))⟩
    ·intro x hx;subst hx;have em0:mC m=mC {m with lev:=fun _=>0}:=by rw[<-hm]
     obtain⟨al,hal⟩:∃al,vU H.1=al:=⟨_,rfl⟩
     have hma:alone m=al:=by rw[<-hal,<-hm];rfl
     have eM:nR s inter qp = {m with lev:=(jn s al 6).2}:=by
      unfold nR;rw[hH,if_neg h0,<-hal,<-hm]
     rw[eM];have hsd:=hs.seed
     repeat' (first
      |(refine qz ?_;first
       |refine ld (c := .int .u32 s.seed) ?_)
      |refine zz ?_|refine zx (fun _=>?_) (fun _=>?_)|fail)
     refine WX.bQ (σ:=Nat×Int×(Nat->Int)) (fun t=>[(3,.one (.ptr 0 0)),(6,.one (.ptr 1 0)),(7,.one (.ptr 2 0)),(10,.one (.int .u32 t.2.1)),(68,.one (.int .i64 (t.1:Nat)))]) (fun t=>[.cells (th s) 99 false false,.cells (mC y_) 107 false false,.cells (mC {m with lev:=t.2.2}) 107 false false]) (fun t=>t.1<=6/\jn s al t.1=t.2/\0<=t.2.1/\t.2.1<4294967296) (fun t=>6-t.1) (0,s.seed,fun _=>0) ⟨Nat.zero_le _,rfl,hsd.1,hsd.2⟩ (fun s _=>mE) (bq [0,1,2] (obj:=by(repeat' (first|exact af.nil|refine af.flat (by rw[em0];rfl) ?_|refine oz ?_));first|done|fail)) ?_;intro t ⟨ht6,hto,htn⟩ ih
     by_cases hlt:t.1<6
     ·have hkp:=hs.gR t.1 hlt
      repeat' (first|refine zz ?_|refine zx (fun _=>?_) (fun _=>?_)|fail)
      refine WX.bQ (σ:=Nat×Int×(Nat->Int)) (fun u=>[(3,.one (.ptr 0 0)),(6,.one (.ptr 1 0)),(7,.one (.ptr 2 0)),(10,.one (.int .u32 u.2.1)),(11,.one (.int .i64 (t.1:Nat))),(68,.one (.int .i64 (t.1:Nat))),(71,.one (.int .i64 (u.1:Nat)))]) (fun u=>[.cells (th s) 99 false false,.cells (mC y_) 107 false false,.cells (mC {m with lev:=u.2.2}) 107 false false]) (fun u=>u.1<=64/\pc s t.1 t.2 u.1=u.2/\0<=u.2.1/\u.2.1<4294967296) (fun u=>64-u.1) (0,t.2) ⟨Nat.zero_le _,rfl,htn⟩ (fun s _=>mE) (bq [0,1,2]) ?_;intro u ⟨hu64,hui,hun⟩ ih2
      by_cases hlu:u.1<64
      ·have hn:=wrap32 (IntKind.u32.wrap (u.2.1*1664525)+1013904223)
       have hd:0<=IntKind.u32.wrap (IntKind.u32.wrap (u.2.1*1664525)+1013904223)/2^(16:Int).toNat/\IntKind.u32.wrap (IntKind.u32.wrap (u.2.1*1664525)+1013904223)/2^(16:Int).toNat<4294967296:=by
        show 0<=IntKind.u32.wrap (IntKind.u32.wrap (u.2.1*1664525)+1013904223)/2^16/\IntKind.u32.wrap (IntKind.u32.wrap (u.2.1*1664525)+1013904223)/2^16<4294967296;omega
       have hk2:=JG s hlt;have hnx:=IJ s t.1 t.2 u.1 hui
       by_cases hbit:s.gR t.1/2^((u.1:Nat):Int).toNat%2^1=1
       ·have hbit':s.gR t.1/2^u.1%2=1:=hbit
        obtain⟨gr,hgr⟩:∃g,s.great=g:=⟨_,rfl⟩
        have hl:(th s)[19]? = some (.bool gr):=by rw[<-hgr];rfl
        rw[if_pos hbit',hgr]at hnx;cases gr
        ·rw[if_neg (by decide)]at hnx
         repeat' (first
          |(refine qz ?_;first
           |refine R6 (k := .u32) ?_
           |refine RI (k := .u32) ?_
           |refine ld (hc:=hl) ?_
           |refine ld (hc:=hk2) ?_
           |refine an 1 ?_
           |refine st ?_ (hle:=by rw[aY];omega) (hv:=s9 _ _ _ _))
          |refine zz ?_|refine zx (fun _=>?_) (fun _=>?_)|fail)
         exact ih2 (u.1+1,vZ u.2.1,gG u.2.2 (t.1*64+u.1) (vZ u.2.1/2^16%7-3)) _ _ _ (bq [0,1,2]) ⟨by show u.1+1<=64;omega,hnx,hn.1,hn.2⟩ (by show 64-(u.1+1)<64-u.1;omega)
        ·rw[if_pos rfl]at hnx
         repeat' (first
          |(refine qz ?_;first
           |refine R6 (k := .u32) ?_
           |refine RI (k := .u32) ?_
           |refine ld (hc:=hl) ?_
           |refine ld (hc:=hk2) ?_
           |refine an 1 ?_
           |refine st ?_ (hle:=by rw[aY];omega) (hv:=s9 _ _ _ _))
          |refine zz ?_|refine zx (fun _=>?_) (fun _=>?_)|fail)
         exact ih2 (u.1+1,vZ u.2.1,gG (gG u.2.2 (t.1*64+u.1) (vZ u.2.1/2^16%7-3)) (t.1*64+u.1) (vZ u.2.1/2^16%1001-500)) _ _ _ (bq [0,1,2]) ⟨by show u.1+1<=64;omega,hnx,hn.1,hn.2⟩ (by show 64-(u.1+1)<64-u.1;omega)
       ·have hbit':¬s.gR t.1/2^u.1%2=1:=hbit;rw[if_neg hbit']at hnx
        repeat' (first
         |(refine qz ?_;first
          |refine R6 (k := .u32) ?_
          |refine RI (k := .u32) ?_
          |refine ld (hc:=hk2) ?_
          |refine an 1 ?_
          |refine st ?_ (hle:=by rw[aY];omega) (hv:=s9 _ _ _ _))
         |refine zz ?_|refine zx (fun _=>?_) (fun _=>?_)|fail)
        exact ih2 (u.1+1,vZ u.2.1,u.2.2) _ _ _ (bq [0,1,2]) ⟨by show u.1+1<=64;omega,hnx,hn.1,hn.2⟩ (by show 64-(u.1+1)<64-u.1;omega)
      ·have e64:u.1=64:=by omega
       rw[e64,<-hto]at hui;have hox:=IK s al t.1 hui
       have hd:0<=u.2.1/2^(20:Int).toNat/\u.2.1/2^(20:Int).toNat<4294967296:=by
        show 0<=u.2.1/2^20/\u.2.1/2^20<4294967296;omega
       cases al
       ·rw[if_neg (by decide)]at hox
        repeat' (first
         |(refine qz ?_;first
          |refine lI ?_ (hle:=by rw[aY])
          |refine cl ?_ (hi:=by exact lD (m:={m with lev:=u.2.2}) (b:=false) hma rfl))
         |refine zz ?_|refine zx (fun _=>?_) (fun _=>?_)|fail)
        exact ih (t.1+1,u.2.1,u.2.2) _ _ _ (bq [0,1,2]) ⟨by show t.1+1<=6;omega,hox,hun⟩ (by show 6-(t.1+1)<6-t.1;omega)
       ·rw[if_pos rfl]at hox
        repeat' (first
         |(refine qz ?_;first
          |refine lI ?_ (hle:=by rw[aY])
          |refine cl ?_ (hi:=by exact lD (m:={m with lev:=u.2.2}) (b:=true) hma rfl)
          |refine st ?_ (hle:=by rw[aY];omega) (hv:=s9 _ _ 0 _))
         |refine zz ?_|refine zx (fun _=>?_) (fun _=>?_)|fail)
        exact ih (t.1+1,u.2.1,gG u.2.2 (t.1*64) (u.2.1/2^20%128)) _ _ _ (bq [0,1,2]) ⟨by show t.1+1<=6;omega,hox,hun⟩ (by show 6-(t.1+1)<6-t.1;omega)
     ·have e6:t.1=6:=by omega
      rw[e6]at hto;rw[hto]
      repeat' (first
       |(refine qz ?_;first
        |refine lI ?_ (hle:=by rw[aY])
        |refine tk ?_ (hs1:=by rw[aY]) (hs2:=by rw[aY]))
       |refine zz ?_|refine zx (fun _=>?_) (fun _=>?_)|fail)
      show aE _ _ _ _ _ _ _ _;refine kV [] ?_;rfl
theorem Oi{s:Sm}(hs:iy s){inter:Bool}{qp:Int}(hq:1<=qp/\qp<=31){m:Mb}(hm:nR s inter qp=m){HS:ah}(hb:Nat.blt HS.length Mem.bound=true):aA.Sound prog ⟨29,[.agg (th s),.one (.bool inter),.one (.int .i64 qp)],HS,.agg (mC m),HS,[]⟩:=by
 subst hm;exact ay (LG hs inter hq) rfl (jC _) hb
abbrev Sf:Sm:=⟨0,0,⟨fun _=>0,fun _=>0,false⟩,false,fun _=>0,0,false⟩
instance SB:Inhabited Sm:=⟨Sf⟩
theorem H3(g:Hd)(z:Int):(gV g).set 0 (.int .i64 z)=gV {g with cols:=z}:=rfl
theorem PM:aI prog 99 (th Sf):=by
 show aI prog 99 [.int .u8 0,.int .u8 0,.int .i8 0,.int .i8 0,.int .i8 0,.int .i8 0,.int .i8 0,.int .i8 0,.int .i8 0,.int .i8 0,.bool false,.bool false,.int .u64 0,.int .u64 0,.int .u64 0,.int .u64 0,.int .u64 0,.int .u64 0,.int .u32 0,.bool false]
 infer_instance
abbrev mR(K:Nat):ah:=[eP (K+1) (K+5) (K+9),aU (K+2) (K+3) (K+4) cM,cL cM,cQ cM,cN cM,aU (K+6) (K+7) (K+8) cZ,cL cZ,cQ cZ,cN cZ,aU (K+10) (K+11) (K+12) cP,cL cP,cQ cP,cN cP]
abbrev Bn(K:Nat)(r:List Nat):List Nat:=K::(K+1)::(K+2)::(K+3)::(K+4)::(K+5)::(K+6)::(K+7)::(K+8)::(K+9)::(K+10)::(K+11)::(K+12)::r
theorem IQ(K:Nat)(r:List Nat):∀j,j<13->nth (Bn K r) j=K+j:=fun j hj=>by
 match j,hj with
 | 0,_=>rfl
 | 1,_=>rfl
 | 2,_=>rfl
 | 3,_=>rfl
 | 4,_=>rfl
 | 5,_=>rfl
 | 6,_=>rfl
 | 7,_=>rfl
 | 8,_=>rfl
 | 9,_=>rfl
 | 10,_=>rfl
 | 11,_=>rfl
 | 12,_=>rfl
theorem Lu{HS:ah}{K:Nat}(hS:(HS.drop K).take 13=mR K){τ : Nat->Nat}(h:∀j,j<13 -> τ j=K+j){ls:List Nat}{l:ah}(hl:af τ HS ls l):af τ HS (Bn K ls) (kC++l):=by
 have g:∀j,j<13->HS[K+j]? = (mR K)[j]?:=fun j hj=>by rw[<-hS,List.getElem?_take_of_lt hj,List.getElem?_drop]
 have g0:HS[K]? = some (eP (K+1) (K+5) (K+9)):=g 0 (by decide);have h1:=h 1 (by decide);have h2:=h 2 (by decide);have h3:=h 3 (by decide);have h4:=h 4 (by decide);have h5:=h 5 (by decide);have h6:=h 6 (by decide);have h7:=h 7 (by decide);have h8:=h 8 (by decide);have h9:=h 9 (by decide);have h10:=h 10 (by decide);have h11:=h 11 (by decide);have h12:=h 12 (by decide);refine .cons ?_ (.cons ?_ (.flat (g 2 (by decide)) (.flat (g 3 (by decide)) (.flat (g 4 (by decide)) (.cons ?_ (.flat (g 6 (by decide)) (.flat (g 7 (by decide)) (.flat (g 8 (by decide)) (.cons ?_ (.flat (g 10 (by decide)) (.flat (g 11 (by decide)) (.flat (g 12 (by decide)) hl))))))))))))
 ·rw[g0];simp only[aj.aB,List.map_cons,List.map_nil,XC.aB,h1,h5,h9]
 ·rw[g 1 (by decide)];simp only[aj.aB,List.map_cons,List.map_nil,XC.aB,h2,h3,h4];rfl
 ·rw[g 5 (by decide)];simp only[aj.aB,List.map_cons,List.map_nil,XC.aB,h6,h7,h8];rfl
 ·rw[g 9 (by decide)];simp only[aj.aB,List.map_cons,List.map_nil,XC.aB,h10,h11,h12];rfl
theorem DE{K:Nat}{τ : Nat->Nat}(h:∀j,j<13 -> τ j=K+j){l l':ah}(hl:dS τ l l'):dS τ (kC++l) (mR K++l'):=by
 have h1:=h 1 (by decide);have h2:=h 2 (by decide);have h3:=h 3 (by decide);have h4:=h 4 (by decide);have h5:=h 5 (by decide);have h6:=h 6 (by decide);have h7:=h 7 (by decide);have h8:=h 8 (by decide);have h9:=h 9 (by decide);have h10:=h 10 (by decide);have h11:=h 11 (by decide);have h12:=h 12 (by decide);refine .cons ?_ (.cons ?_ (.flat (.flat (.flat (.cons ?_ (.flat (.flat (.flat (.cons ?_ (.flat (.flat (.flat hl))))))))))))
 ·simp only[aj.aB,List.map_cons,List.map_nil,XC.aB,h1,h5,h9]
 ·simp only[aj.aB,List.map_cons,List.map_nil,XC.aB,h2,h3,h4]
 ·simp only[aj.aB,List.map_cons,List.map_nil,XC.aB,h6,h7,h8]
 ·simp only[aj.aB,List.map_cons,List.map_nil,XC.aB,h10,h11,h12]
theorem Ih{HS:ah}{K i:Nat}(hS:(HS.drop K).take 13=mR K){ob:aj}(hi:HS[i]? = some ob){os:ah}:bC HS (Bn K [i]) (mR K++ob::os)=HS++os:=by
 have g:∀j,j<13->HS[K+j]? = (mR K)[j]?:=fun j hj=>by rw[<-hS,List.getElem?_take_of_lt hj,List.getElem?_drop]
 have g0:HS[K]? = some (eP (K+1) (K+5) (K+9)):=g 0 (by decide);simp only[bC,mR,List.cons_append,List.nil_append];rw[aC g0,aC (g 1 (by decide)),aC (g 2 (by decide)),aC (g 3 (by decide)),aC (g 4 (by decide)),aC (g 5 (by decide)),aC (g 6 (by decide)),aC (g 7 (by decide)),aC (g 8 (by decide)),aC (g 9 (by decide)),aC (g 10 (by decide)),aC (g 11 (by decide)),aC (g 12 (by decide)),aC hi]
theorem DW:∀(h1 l l':ah),fM h1 h1=true->fM l l'=true->fM (h1++l) (h1++l')=true
 | [],l,l',_,h=>h
 | o::h1,l,l',h,h2=>by
   simp only[fM,Bool.and_eq_true,List.cons_append]at h ⊢;exact⟨h.1,DW h1 l l' h.2 h2⟩
theorem Ig{f:FuncId}{args0 args:List XV}{v v':XV}{news news':ah}{ob:aj}[b9 ob](n:Nat)(hn:news.length=n)(hc:bm prog f args0 (kC++[ob]) v (kC++ob::news)){HS:ah}{K i:Nat}(hS:(HS.drop K).take 13=mR K)(hi:HS[i]? = some ob)(hd:(Bn K [i]).Nodup)(ha:gB 14 args0)(e1:eL (nth (Bn K [i])) args0 args)(hv:v.br (14+n))(e2:v.aB (nth (Bn K [i]++List.range' HS.length n))=v')
 (hnk:aq (14+n) news) (hr:dS (nth (Bn K [i]++List.range' HS.length n)) news news') (hro:fM [] news=true) {HS':ah}(hh:HS++news'=HS') (hbd:Nat.blt HS'.length Mem.bound=true):aA.Sound prog ⟨f,args,HS,v',HS',Bn K [i]⟩:=by
 have e0:∀j,j<13->nth (Bn K [i]) j=K+j:=IQ K [i];have e0':∀j,j<13->nth (Bn K [i]++List.range' HS.length n) j=K+j:=IQ K (i::List.range' HS.length n);have hln:(kC++ob::news).length=14+n:=by rw[List.length_append];show 13+(news.length+1)=_;omega
 refine bp (os:=mR K++ob::news') (Bn K [i]) (Bn K [i]) n hc hd (Lu hS e0 (.flat hi .nil)) (tI (l:=[ob]) (Nat.le_succ 13) (.flat .nil)) (by rw[hln];exact tI (l:=ob::news) (by omega) (.flat hnk)) (by rw[hln];rfl) ha e1 (by rw[hln];exact hv) e2 (DE e0' (.flat hr)) ?_ rfl (by rw[Ih hS hi];exact hh) hbd (.inl rfl);refine DW _ _ _ rfl ?_;simp only[fM,Bool.and_eq_true];exact⟨by cases ob.live<;>simp,hro⟩
theorem Ot{HS:ah}{N:Nat}(hN:HS.length=N){HS':ah}(hh:HS++mR N=HS')(hbd:Nat.blt HS'.length Mem.bound=true) :
 aA.Sound prog ⟨31,[],HS,.one (.ptr N 0),HS',[]⟩:=by
 subst hN;have e:List.range' HS.length 13=Bn HS.length []:=rfl;have h:=DE (K:=HS.length) (τ:=nth (Bn HS.length [])) (IQ _ []) (l:=[]) (l':=[]) .nil;refine bp (os:=mR HS.length) [] [] 13 LK (by simp) .nil .nil (tI (l:=[]) (Nat.le_refl _) .nil) rfl .nil .nil (by show 0<13;omega) rfl (by rw[List.nil_append,e];exact h) rfl rfl hh hbd (.inl rfl)
noncomputable def yi(h:Hd)(p:Ph)(l:List Mb)(first:Int):Int ⊕ (List Int×List Int):=
 match nU l first (Nn h p) l.length with
 | .inl e => .inl e
 | .inr x=>if 30000<(f5 (wr (x.B++[true])) (wr (x.B++[true])).length).1.length\/30000<(f5 (wr (x.w++[true])) (wr (x.w++[true])).length).1.length then .inl 6 else .inr ((f5 (wr (x.B++[true])) (wr (x.B++[true])).length).1,(f5 (wr (x.w++[true])) (wr (x.w++[true])).length).1)
structure Gr where
 first:Int
 ms:List Mb
structure Pc where
 ph:Ph
 gs:List Gr
structure vR where
 hd:Hd
 ps:List Pc
instance:Inhabited Gr:=⟨⟨0,[]⟩⟩
instance:Inhabited Pc:=⟨⟨⟨0,false,false,0⟩,[]⟩⟩
structure PX where
 first:Int
 k:Nat
 n:Nat
structure P1 where
 ph:Ph
 k:Nat
 n:Nat
instance:Inhabited PX:=⟨⟨0,0,0⟩⟩
instance:Inhabited P1:=⟨⟨⟨0,false,false,0⟩,0,0⟩⟩
def oP(a:PX):List XC:=[.int .i64 a.first,.lsl 0 a.k 0 a.n a.n 0]
def m_(a:P1):List XC:=[.int .i64 a.ph.id,.bool a.ph.inter,.bool a.ph.down,.int .i64 a.ph.qp,.lsl 0 a.k 0 a.n a.n 0]
instance:zb oP 2:=⟨fun _=>rfl,by decide⟩
instance:zb m_ 5:=⟨fun _=>rfl,by decide⟩
def f8(b:Nat):List Gr->List PX
 | []=>[]
 | g::l=>⟨g.first,b,g.ms.length⟩::f8 (b+1) l
def fI(l:List Gr):List (List XC):=l.map fun g=>fl mC g.ms
def qo(b:Nat)(p:Pc):List (List XC):=fI p.gs++[fl oP (f8 b p.gs)]
def fg(b:Nat):List Pc->List (List XC)
 | []=>[]
 | p::l=>qo b p++fg (b+p.gs.length+1) l
def eU(b:Nat):List Pc->List P1
 | []=>[]
 | p::l=>⟨p.ph,b+p.gs.length,p.gs.length⟩::eU (b+p.gs.length+1) l
def wide:List Pc->Nat
 | []=>0
 | p::l=>p.gs.length+1+wide l
def Fi(ps:List Pc):List (List XC):=fg 0 ps++[fl m_ (eU 0 ps)]
theorem tV:∀(l:List Gr) (b:Nat),(f8 b l).length=l.length
 | [],b=>rfl
 | g::l,b=>by rw[f8,List.length_cons,tV l,List.length_cons]
theorem wx:∀(l:List Gr) (b:Nat) (g:Gr),f8 b (l++[g])=f8 b l++[⟨g.first,b+l.length,g.ms.length⟩]
 | [],b,g=>rfl
 | x::l,b,g=>by
   rw[List.cons_append,f8,wx l,f8,List.cons_append,List.length_cons,show b+1+l.length=b+(l.length+1) by omega]
theorem qq(b:Nat)(p:Pc):(qo b p).length=p.gs.length+1:=by simp[qo,fI]
theorem qn:∀(l:List Pc) (b:Nat),(fg b l).length=wide l
 | [],b=>rfl
 | p::l,b=>by rw[fg,List.length_append,qq,qn l,wide]
theorem wN:∀(l:List Pc) (b:Nat) (p:Pc),fg b (l++[p])=fg b l++qo (b+wide l) p
 | [],b,p=>by simp[fg,wide]
 | x::l,b,p=>by
   rw[List.cons_append,fg,wN l,fg,List.append_assoc,wide,show b+x.gs.length+1+wide l=b+(x.gs.length+1+wide l) by omega]
theorem qD:∀(l:List Pc) (b:Nat),(eU b l).length=l.length
 | [],b=>rfl
 | g::l,b=>by rw[eU,List.length_cons,qD l,List.length_cons]
theorem wX:∀(l:List Pc) (b:Nat) (p:Pc),eU b (l++[p])=eU b l++[⟨p.ph,b+wide l+p.gs.length,p.gs.length⟩]
 | [],b,p=>by simp[eU,wide]
 | x::l,b,p=>by
   rw[List.cons_append,eU,wX l,eU,List.cons_append,wide,show b+x.gs.length+1+wide l=b+(x.gs.length+1+wide l) by omega]
def we(L:List (List XC))(k:Nat)(gs:List Gr):Prop:=
 ∃l:List PX,L[k]? = some (fl oP l)/\l.length=gs.length/\∀j,j<gs.length->(l.getD j default).first=(gs.getD j default).first/\(l.getD j default).n=(gs.getD j default).ms.length/\L[(l.getD j default).k]? = some (fl mC (gs.getD j default).ms)
def r6(L:List (List XC))(k:Nat)(ps:List Pc):Prop:=
 ∃l:List P1,L[k]? = some (fl m_ l)/\l.length=ps.length/\∀j,j<ps.length->(l.getD j default).ph=(ps.getD j default).ph/\(l.getD j default).n=(ps.getD j default).gs.length/\we L (l.getD j default).k (ps.getD j default).gs
theorem Dw:∀(l:List Gr) (b j:Nat),j<l.length->(f8 b l).getD j default=⟨(l.getD j default).first,b+j,(l.getD j default).ms.length⟩
 | [],b,j,h=>absurd h (Nat.not_lt_zero j)
 | g::l,b,0,h=>rfl
 | g::l,b,j+1,h=>by
   rw[f8,List.getD_cons_succ,Dw l (b+1) j (by simpa using h),List.getD_cons_succ,show b+1+j=b+(j+1) by omega]
theorem Ir{l:List Gr}{j:Nat}(h:j<l.length):(fI l)[j]? = some (fl mC (l.getD j default).ms):=by
 unfold fI;rw[List.getElem?_map,List.getElem?_eq_getElem h,List.getD_eq_getElem?_getD,List.getElem?_eq_getElem h];rfl
theorem N4{A B:List (List XC)}(p:Pc):we (A++qo A.length p++B) (A.length+p.gs.length) p.gs:=by
 refine⟨f8 A.length p.gs,?_,tV _ _,fun j hj=>?_⟩
 ·rw[List.append_assoc,List.getElem?_append_right (by omega),Nat.add_sub_cancel_left,List.getElem?_append_left (by rw[qq];omega)];unfold qo;rw[List.getElem?_append_right (by simp[fI]),show(fI p.gs).length=p.gs.length by simp[fI],Nat.sub_self];rfl
 ·rw[Dw _ _ _ hj];refine⟨rfl,rfl,?_⟩;show(A++qo A.length p++B)[A.length+j]? = _;rw[List.append_assoc,List.getElem?_append_right (by omega),Nat.add_sub_cancel_left,List.getElem?_append_left (by rw[qq];omega)];unfold qo;rw[List.getElem?_append_left (by simp[fI];exact hj)];exact Ir hj
theorem DN:∀(ps:List Pc) (A B:List (List XC)) (j:Nat),j<ps.length->((eU A.length ps).getD j default).ph=(ps.getD j default).ph/\((eU A.length ps).getD j default).n=(ps.getD j default).gs.length/\we (A++fg A.length ps++B) ((eU A.length ps).getD j default).k (ps.getD j default).gs
 | [],A,B,j,h=>absurd h (Nat.not_lt_zero j)
 | p::l,A,B,0,h=>by
   refine⟨rfl,rfl,?_⟩;show we (A++(qo A.length p++fg (A.length+p.gs.length+1) l)++B) (A.length+p.gs.length) p.gs;have:=N4 (A:=A) (B:=fg (A.length+p.gs.length+1) l++B) p;rwa [show A++(qo A.length p++fg (A.length+p.gs.length+1) l)++B=A++qo A.length p++(fg (A.length+p.gs.length+1) l++B) by simp only[List.append_assoc]]
 | p::l,A,B,j+1,h=>by
   have ih:=DN l (A++qo A.length p) B j (by simpa using h);rw[List.length_append,qq,<-Nat.add_assoc]at ih;rw[eU,List.getD_cons_succ,List.getD_cons_succ,fg];rwa [show A++(qo A.length p++fg (A.length+p.gs.length+1) l)++B=A++qo A.length p++fg (A.length+p.gs.length+1) l++B by simp only[List.append_assoc]]
theorem Is(ps:List Pc):r6 (Fi ps) (wide ps) ps:=by
 refine⟨eU 0 ps,?_,qD _ _,fun j hj=>?_⟩
 ·unfold Fi;rw[List.getElem?_append_right (by rw[qn];exact Nat.le_refl _),qn,Nat.sub_self];rfl
 ·exact DN ps [] [fl m_ (eU 0 ps)] j hj
theorem Oh(m:Mb)(n:Nat):∀c∈mC m,c.iF n=true:=by
 intro c hc;have h:=List.all_eq_true.1 (show(mC m).all XC.shut=true from nk.shut m) c hc;cases c<;>first|rfl|cases h|skip
 all_goals (simp[mC,ti,cI]at hc)
theorem NY(ms:List Mb)(n:Nat):∀c∈fl mC ms,c.iF n=true:=fun c hc=>by
 obtain⟨m,_,h⟩:=List.mem_flatMap.1 hc;exact Oh m n c h
theorem qh:∀(l:List Gr) (b n:Nat),b+l.length<=n->∀c∈fl oP (f8 b l),c.iF n=true
 | [],b,n,h=>fun c hc=>by cases hc
 | g :: l,b,n,h=>fun c hc=>by
   rw[f8]at hc
   rcases List.mem_append.1 (show c∈oP ⟨g.first,b,g.ms.length⟩++fl oP (f8 (b+1) l)from hc)with hc|hc
   ·simp only[oP,List.mem_cons,List.not_mem_nil,or_false]at hc
    rcases hc with rfl|rfl
    ·rfl
    ·rw[List.length_cons]at h;simp only[XC.iF,Nat.blt_eq];omega
   ·exact qh l (b+1) n (by rw[List.length_cons]at h;omega) c hc
theorem Ao:∀(l:List Pc) (b n:Nat),b+wide l<=n->∀c∈fl m_ (eU b l),c.iF n=true
 | [],b,n,h=>fun c hc=>by cases hc
 | p :: l,b,n,h=>fun c hc=>by
   rw[eU]at hc;rw[wide]at h
   rcases List.mem_append.1 (show c∈m_ ⟨p.ph,b+p.gs.length,p.gs.length⟩++fl m_ (eU (b+p.gs.length+1) l)from hc)with hc|hc
   ·simp only[m_,List.mem_cons,List.not_mem_nil,or_false]at hc
    rcases hc with rfl|rfl|rfl|rfl|rfl<;>first|rfl|(simp only[XC.iF,Nat.blt_eq];omega)
   ·exact Ao l (b+p.gs.length+1) n (by omega) c hc
structure sS where
 inter:Bool
 down:Bool
 qp:Int
 many:Int
instance:Inhabited sS:=⟨⟨false,false,0,0⟩⟩
def eD(p:sS):List XC:=[.bool p.inter,.bool p.down,.int .u8 p.qp,.int .u8 p.many]
instance:nk eD 4:=⟨fun _=>rfl,fun _=>rfl,by decide⟩
structure jP(p:sS):Prop where
 qp:0<=p.qp/\p.qp<=255
 many:0<=p.many/\p.many<=255
def SF(n:Nat):Sm:=⟨((n%256:Nat):Int),0,⟨fun _=>0,fun _=>0,false⟩,false,fun _=>0,0,false⟩
def v7(l:List Sm)(n:Nat):Sm:=if l.length=0 then SF n else l.getD (n%l.length) default
def B1(l:List Sm)(inter:Bool)(qp:Int)(n:Nat):Mb:={nR (v7 l n) inter qp with edge:=(nR (v7 l n) inter qp).edge&&!(v7 l n).great}
def g_(l:List Sm)(inter:Bool)(qp:Int)(n0:Nat):Nat->List Mb×Int
 | 0=>([],qp)
 | i+1=>((g_ l inter qp n0 i).1++[B1 l inter (g_ l inter qp n0 i).2 (n0+i)],(B1 l inter (g_ l inter qp n0 i).2 (n0+i)).qp)
def gy(l:List Sm)(inter:Bool)(qp:Int)(many all n0:Nat):Nat->List Gr×Nat
 | 0=>([],0)
 | j+1=>if(gy l inter qp many all n0 j).2<all then((gy l inter qp many all n0 j).1++[⟨((gy l inter qp many all n0 j).2:Nat),(g_ l inter qp (n0+(gy l inter qp many all n0 j).2) (min many (all-(gy l inter qp many all n0 j).2))).1⟩],(gy l inter qp many all n0 j).2+min many (all-(gy l inter qp many all n0 j).2))else gy l inter qp many all n0 j
def Ap(i:Nat)(p:sS):Bool:=p.inter&&decide (0<i)
def FD(p:sS):Int:=1+p.qp%31
def I2(p:sS):Nat:=(1+p.many%5).toNat
def FC(l:List Sm)(all i:Nat)(p:sS):Pc:=⟨⟨(i:Nat),Ap i p,Ap i p&&p.down,FD p⟩,(gy l (Ap i p) (FD p) (I2 p) all (i*all) all).1⟩
def AM(l:List Sm)(all:Nat)(pics:List sS):Nat->List Pc
 | 0=>[]
 | i+1=>AM l all pics i++[FC l all i (pics.getD i default)]
def jh(h:Hd):Hd:={eQ h with cols:=1+(eQ h).cols%3,rows:=1+(eQ h).rows%3}
def kQ(pics:List sS):Nat:=if pics.length=0 then 1 else min pics.length 5
def sL(h:Hd)(pics:List sS)(l:List Sm):vR:=⟨jh h,AM l ((jh h).cols*(jh h).rows).toNat pics (kQ pics)⟩
def pW(inter:Bool)(qp:Int):Int->List Gr->Int->Prop
 | b,[],e=>b=e
 | b,g::l,e=>g.first=b/\1<=g.ms.length/\g.ms.length<=5/\nu inter qp g.ms/\pW inter qp (b+(g.ms.length:Nat)) l e
theorem wG{inter:Bool}{qp:Int}:∀{l:List Gr} {b e:Int} {g:Gr},pW inter qp b l e->g.first=e->1<=g.ms.length->g.ms.length<=5->nu inter qp g.ms->pW inter qp b (l++[g]) (e+(g.ms.length:Nat))
 | [],b,e,g,h,h1,h2,h3,h4=>by
   have h:b=e:=h;subst h;exact⟨h1,h2,h3,h4,rfl⟩
 | x::l,b,e,g,h,h1,h2,h3,h4=>⟨h.1,h.2.1,h.2.2.1,h.2.2.2.1,wG h.2.2.2.2 h1 h2 h3 h4⟩
structure P2(all:Nat)(i:Nat)(p:Pc):Prop where
 id:p.ph.id=(i:Nat)
 ph:sD p.ph
 first:i=0->p.ph.inter=false
 gs:pW p.ph.inter p.ph.qp 0 p.gs (all:Nat)
 few:p.gs.length<=all
theorem AG{l:List Sm}(hl:∀j,j<l.length->iy (l.getD j default))(n:Nat):iy (v7 l n):=by
 unfold v7;split
 ·refine⟨by show(0:Int)<=((n%256:Nat):Int)/\((n%256:Nat):Int)<=255;omega,by show(0:Int)<=0/\(0:Int)<=255;omega,⟨fun _ _=>by show(-128:Int)<=0/\(0:Int)<128;omega,fun _ _=>by show(-128:Int)<=0/\(0:Int)<128;omega⟩,fun _ _=>by show(0:Int)<=0/\(0:Int)<18446744073709551616;omega,by show(0:Int)<=0/\(0:Int)<4294967296;omega⟩
 ·rename_i h;exact hl _ (Nat.mod_lt _ (Nat.pos_of_ne_zero h))
theorem xR{m:Mb}{inter:Bool}{qp:Int}(h:db m inter qp=0):db {m with edge:=false} inter qp=0:=by
 unfold db at h;split at h
 ·cases h
 ·rename_i h1;split at h
  ·cases h
  ·show(if 5<=m.kind\/(inter=false/\alone m=false)then(5:Int)else if false=true/\alone m=false then 4 else if m.kind=4/\(ei qp m.qp).2=false then 6 else if m.kind≠4/\m.qp≠qp then 6 else if fA m≠0 then fA m else uc m)=0;rw[if_neg h1,if_neg (fun g=>Bool.noConfusion g.1)];exact h
theorem Ok{l:List Sm}(hl:∀j,j<l.length->iy (l.getD j default)){inter:Bool}{qp:Int}(hq:1<=qp/\qp<=31)(n:Nat):iU (B1 l inter qp n)/\db (B1 l inter qp n) inter qp=0/\1<=(B1 l inter qp n).qp/\(B1 l inter qp n).qp<=31:=by
 obtain⟨h1,h2,h3,h4⟩:=Oj (inter:=inter) (AG hl n) hq;refine⟨⟨h1.kind,h1.qp,h1.v,h1.lev⟩,?_,h3,h4⟩
 obtain⟨m,hm⟩:∃m,nR (v7 l n) inter qp=m:=⟨_,rfl⟩
 unfold B1;rw[hm]at h2 ⊢
 cases hb : !(v7 l n).great with
 | true=>rw[Bool.and_true];exact h2
 | false=>
   rw[Bool.and_false];exact xR h2
theorem qi(l:List Sm)(inter:Bool)(qp:Int)(n0:Nat):∀k,(g_ l inter qp n0 k).1.length=k
 | 0=>rfl
 | k+1=>by rw[g_,List.length_append,qi l inter qp n0 k];rfl
theorem x7{l:List Sm}(hl:∀j,j<l.length->iy (l.getD j default))(inter:Bool){qp:Int}(hq:1<=qp/\qp<=31)(n0:Nat):∀k,nu inter qp (g_ l inter qp n0 k).1/\(1<=(g_ l inter qp n0 k).2/\(g_ l inter qp n0 k).2<=31)/\(g_ l inter qp n0 k).2=if k=0 then qp else((g_ l inter qp n0 k).1.getD (k-1) default).qp
 | 0=>⟨⟨fun _ h=>absurd h (Nat.not_lt_zero _),fun _ h=>absurd h (Nat.not_lt_zero _)⟩,hq,rfl⟩
 | k + 1=>by
   obtain⟨h1,h2,h3⟩:=x7 hl inter hq n0 k;obtain⟨m1,m2,m3,m4⟩:=Ok hl (inter:=inter) h2 (n0+k);have hlen:=qi l inter qp n0 k
   have hge:∀j,j<k->((g_ l inter qp n0 k).1++[B1 l inter (g_ l inter qp n0 k).2 (n0+k)]).getD j default=(g_ l inter qp n0 k).1.getD j default:=fun j hj=>by
    rw[List.getD_eq_getElem?_getD,List.getElem?_append_left (by omega),List.getD_eq_getElem?_getD]
   have hgk:((g_ l inter qp n0 k).1++[B1 l inter (g_ l inter qp n0 k).2 (n0+k)]).getD k default=B1 l inter (g_ l inter qp n0 k).2 (n0+k):=by
    rw[List.getD_eq_getElem?_getD,List.getElem?_append_right (by omega),hlen,Nat.sub_self];rfl
   have hlen1:((g_ l inter qp n0 k).1++[B1 l inter (g_ l inter qp n0 k).2 (n0+k)]).length=k+1:=by rw[List.length_append,hlen];rfl
   refine⟨⟨fun j hj=>?_,fun j hj=>?_⟩,⟨m3,m4⟩,?_⟩
   ·rw[g_]at hj ⊢;rw[hlen1]at hj
    by_cases hjk:j<k
    ·rw[hge j hjk];exact h1.mok j (by omega)
    ·obtain rfl:j=k:=by omega
     rw[hgk];exact m1
   ·rw[g_]at hj ⊢;rw[hlen1]at hj
    by_cases hjk:j<k
    ·rw[hge j hjk];have:=h1.chk j (by omega);split
     ·rename_i e;rw[if_pos e]at this;exact this
     ·rename_i e;rw[if_neg e]at this;rw[hge (j-1) (by omega)];exact this
    ·obtain rfl:j=k:=by omega
     rw[hgk];rw[h3]at m2;split
     ·rename_i e;rw[if_pos e]at m2;rw[h3,if_pos e];exact m2
     ·rename_i e;rw[if_neg e]at m2;rw[hge (j-1) (by omega),h3,if_neg e];exact m2
   ·rw[if_neg (by omega),Nat.add_sub_cancel,g_];simp only[];rw[hgk]
theorem BR{l:List Sm}(hl:∀j,j<l.length->iy (l.getD j default))(inter:Bool){qp:Int}(hq:1<=qp/\qp<=31){many:Nat}(hm:1<=many/\many<=5)(all n0:Nat):∀j,pW inter qp 0 (gy l inter qp many all n0 j).1 ((gy l inter qp many all n0 j).2:Nat)/\(gy l inter qp many all n0 j).2<=all/\(j<=all->j<=(gy l inter qp many all n0 j).2)/\(gy l inter qp many all n0 j).1.length<=(gy l inter qp many all n0 j).2
 | 0=>⟨rfl,Nat.zero_le _,fun _=>Nat.le_refl _,Nat.le_refl _⟩
 | j + 1=>by
   obtain⟨h1,h2,h3,h4⟩:=BR hl inter hq hm all n0 j;rw[gy];split
   ·rename_i hlt;have hk:=x7 hl inter hq (n0+(gy l inter qp many all n0 j).2) (min many (all-(gy l inter qp many all n0 j).2));have hn:=qi l inter qp (n0+(gy l inter qp many all n0 j).2) (min many (all-(gy l inter qp many all n0 j).2));refine⟨?_,by show _+min many _<=all;omega,fun _=>by show j+1<=_+min many _;omega,?_⟩
    ·have:=wG (g:=⟨((gy l inter qp many all n0 j).2:Nat),(g_ l inter qp (n0+(gy l inter qp many all n0 j).2) (min many (all-(gy l inter qp many all n0 j).2))).1⟩) h1 rfl (by show 1<=(g_ _ _ _ _ _).1.length;rw[hn];omega) (by show(g_ _ _ _ _ _).1.length<=5;rw[hn];omega) hk.1;simp only[hn]at this;rw[show(((gy l inter qp many all n0 j).2+min many (all-(gy l inter qp many all n0 j).2):Nat):Int)=((gy l inter qp many all n0 j).2:Nat)+((min many (all-(gy l inter qp many all n0 j).2):Nat):Int) by omega];exact this
    ·show((gy l inter qp many all n0 j).1++[_]).length<=_+min many _;rw[List.length_append,List.length_singleton];omega
   ·exact⟨h1,h2,fun h=>by omega,h4⟩
theorem LQ{l:List Sm}(hl:∀j,j<l.length->iy (l.getD j default))(all i:Nat)(hi:i<=60000){p:sS}(hp:jP p):P2 all i (FC l all i p):=by
 have hq:1<=FD p/\FD p<=31:=by unfold FD;omega
 have hm:1<=I2 p/\I2 p<=5:=by unfold I2;omega
 obtain⟨h1,h2,h3,h4⟩:=BR hl (Ap i p) hq hm all (i*all) all;have he:(gy l (Ap i p) (FD p) (I2 p) all (i*all) all).2=all:=by have:=h3 (Nat.le_refl _);omega
 rw[he]at h1 h4;refine⟨rfl,⟨by show(0:Int)<=(i:Nat)/\((i:Nat):Int)<=65535;omega,hq,fun h=>?_⟩,fun h=>?_,h1,h4⟩
 ·have h:(Ap i p&&p.down)=true:=h;simp only[Bool.and_eq_true]at h;exact h.1
 ·subst h;show Ap 0 p=false;unfold Ap;simp
theorem kb(l:List Sm)(all:Nat)(pics:List sS):∀i,(AM l all pics i).length=i
 | 0=>rfl
 | i+1=>by rw[AM,List.length_append,kb l all pics i];rfl
theorem yG(l:List Sm)(all:Nat)(pics:List sS):∀n i,i<n->(AM l all pics n).getD i default=FC l all i (pics.getD i default)
 | 0,i,h=>absurd h (Nat.not_lt_zero i)
 | n + 1,i,h=>by
   rw[AM,List.getD_eq_getElem?_getD]
   by_cases hi:i<n
   ·rw[List.getElem?_append_left (by rw[kb];exact hi),<-List.getD_eq_getElem?_getD];exact yG l all pics n i hi
   ·obtain rfl:i=n:=by omega
    rw[List.getElem?_append_right (by rw[kb];exact Nat.le_refl _),kb,Nat.sub_self];rfl
structure wh(s:vR):Prop where
 hd:qZ s.hd
 raw:∀i,i<64->(0<=s.hd.a i/\s.hd.a i<=255)/\(0<=s.hd.b i/\s.hd.b i<=255)
 cols:1<=s.hd.cols/\s.hd.cols<=3
 rows:1<=s.hd.rows/\s.hd.rows<=3
 many:1<=s.ps.length/\s.ps.length<=5
 pics:∀i,i<s.ps.length->P2 (s.hd.cols*s.hd.rows).toNat i (s.ps.getD i default)
def kB(l:Nat->Int):Prop:=∀i,-1000<=l i/\l i<=1000
def Et(T:nB):Prop:=∀key b,dk T key=some b->kB b.lv
structure lZ(S:cR):Prop where
 a:Et S.A
 b:Et S.B
 c:Et S.C
theorem ug:Et []:=fun key b h=>by cases h
theorem uh{p q:Int}{T:nB}(h:Et T){key:Int}{b:Kn}(hb:kB b.lv):Et (rO p q T key b):=by
 unfold rO;split
 ·intro key' b' h';rw[rH]at h';split at h'
  ·cases h';exact hb
  ·exact h key' b' h'
 ·exact h
theorem IN{S:cR}(h:lZ S){mb k dx dy:Int}{b:Kn}(hb:B5 S mb k dx dy=some b):kB b.lv:=by
 unfold B5 bn cf at hb;split at hb
 ·cases hb
 ·unfold bL at hb;split at hb
  ·exact h.a _ _ hb
  ·split at hb
   ·exact h.b _ _ hb
   ·exact h.c _ _ hb
theorem IF:kB fun _=>0:=fun i=>⟨by show(-1000:Int)<=0;decide,by show(0:Int)<=1000;decide⟩
theorem HL{b:Kn}(h:kB b.lv)(s:Nat):∀n,kB (em b s n)
 | 0=>IF
 | n+1=>qM (HL h s n) (h _)
theorem z_{o:Option Kn}(h:∀b,o=some b->kB b.lv)(s:Nat)(q:Int):kB (i3 o s q):=by
 unfold i3;split
 ·split
  ·exact HL (h _ rfl) s 7
  ·exact IF
 ·exact IF
theorem HK{S:cR}(h:lZ S)(mb k q:Int):kB (kf S mb k q):=by
 unfold kf zu;split
 ·exact z_ (fun b hb=>IN h hb) _ _
 ·split
  ·exact z_ (fun b hb=>IN h hb) _ _
  ·exact IF
theorem zT{m:Mb}(hm:kB m.lev)(k:Nat):kB (cw m k):=fun i=>hm _
theorem EI{m:Mb}(hm:kB m.lev){S:cR}(h:lZ S)(mb:Int)(k:Nat):∃r,mQ m S mb k=some r:=by
 unfold mQ;split
 ·split
  ·have h1:o_ (cw m k) (kf S mb k m.qp)=some fun i=>cw m k i-kf S mb k m.qp i:=by
    unfold o_;rw[if_neg];intro⟨i,hi,hb⟩;have h1:=zT hm k i;have h2:=HK h mb k m.qp i;unfold kL at hb;omega
   rw[h1];exact⟨_,rfl⟩
  ·exact⟨_,rfl⟩
 ·exact⟨_,rfl⟩
theorem JX{S:cR}(h:lZ S){mb k:Int}{b:Kn}(hb:kB b.lv):lZ (eH S mb k b):=⟨uh h.a hb,uh h.b hb,uh h.c hb⟩
theorem zm{m:Mb}(hm:kB m.lev){mb:Int}{x0:qX}(h:lZ x0.S):∀k,∃x,jS m mb x0 k=some x/\lZ x.S
 | 0=>⟨x0,rfl,h⟩
 | k + 1=>by
   obtain⟨x,hx,hS⟩:=zm hm h k;obtain⟨r,hr⟩:=EI hm hS mb k;refine⟨fY m mb k x (EC m x.S mb k r),?_,?_⟩
   ·rw[jS,hx,Option.bind_some,hr];rfl
   ·show lZ (if alone m=true then eH x.S mb k ⟨cw m k,m.qp⟩else x.S);split
    ·exact JX hS (zT hm k)
    ·exact hS
theorem Ij{S:cR}(h:lZ S)(m:Mb):lZ (ff S m):=by
 unfold ff;split
 ·exact⟨h.a,h.b,h.c⟩
 ·exact h
theorem n9{S:cR}(h:lZ S)(mb:Int)(v:Nat->Int×Int):lZ (bY S mb v):=⟨h.a,h.b,h.c⟩
theorem tX{z:cR×List Bool}(h:lZ z.1)(m:Mb)(mb:Int)(k:Nat):lZ (aQ m mb z k).1:=⟨h.a,h.b,h.c⟩
theorem H7{S:cR}(h:lZ S)(X:List Bool)(m:Mb)(mb:Int):lZ (fy S X m mb).1:=by
 unfold fy;split
 ·exact n9 h _ _
 ·split
  ·exact n9 (tX h _ _ _) _ _
  ·split
   ·exact n9 (tX (tX (tX (tX h _ _ _) _ _ _) _ _ _) _ _ _) _ _
   ·exact n9 (Ij h m) _ _
theorem FM{S:cR}(h:lZ S){m:Mb}(hm:kB m.lev)(X bw:List Bool)(mb:Int):∃z,mW S X bw m mb=some z/\lZ z.1:=by
 unfold mW;split
 ·exact⟨(bY S mb m.v,X++bc S m,bw),rfl,n9 h _ _⟩
 ·obtain⟨x,hx,hS⟩:=zm (mb:=mb) hm (x0:=⟨(fy S X m mb).1,(fy S X m mb).2,0,0,fun _=>[]⟩) (H7 h X m mb) 6;rw[hx,Option.map_some];exact⟨(x.S,ep x,cJ bw x 6),rfl,hS⟩
theorem Aw{h:Hd}{p:Ph}{l:List Mb}{first:Int}(hT:l5 h p l first)(hM:nu p.inter p.qp l)(hL:∀k,k<l.length->kB (l.getD k default).lev):∀k,k<=l.length->∃x,nU l first (Nn h p) k = .inr x/\lZ x.S
 | 0,_=>⟨_,rfl,⟨ug,ug,ug⟩⟩
 | k+1,hk=>by
   obtain⟨x,hx,hS⟩:=Aw hT hM hL k (by omega);have hi:=uI hT k (by omega) x hx;have hq:=LX hT k (by omega) x hx;have hc:=hM.chk k (by omega);rw[<-hq,<-hi.inter]at hc;obtain⟨z,hz,hz2⟩:=FM hS (hL k (by omega)) x.B x.w (first+(k:Nat));exact⟨_,(w6 hx).trans (uK hc hz),hz2⟩
theorem rq:∀(l:List Int) (z:Int),(∀b∈l,0<=b/\b<256)->∀b∈rn z l,0<=b/\b<256
 | [],z,_=>fun b hb=>by cases hb
 | x :: t,z,h=>fun b hb=>by
   have hx:=h x (List.mem_cons_self ..);have ht:∀b∈t,0<=b/\b<256:=fun b hb=>h b (List.mem_cons_of_mem _ hb)
   rw[rn]at hb;split at hb
   ·rcases List.mem_cons.1 hb with rfl|hb
    ·omega
    ·rcases List.mem_cons.1 hb with rfl|hb
     ·exact hx
     ·exact rq t _ ht b hb
   ·rcases List.mem_cons.1 hb with rfl|hb
    ·exact hx
    ·exact rq t _ ht b hb
theorem rr(l:List Int)(hl:aW l):aW (f5 l l.length).1:=fun i=>by
 rw[tP];refine nK (p:=fun z=>0<=z/\z<256) (rq l 0 fun b hb=>?_) (by decide) i;obtain⟨j,hj,rfl⟩:=List.mem_iff_getElem.1 hb;have:=hl j;rw[List.getD_eq_getElem?_getD,List.getElem?_eq_getElem hj]at this;exact this
theorem LZ{h:Hd}{p:Ph}{l:List Mb}{first:Int}(hT:l5 h p l first)(hM:nu p.inter p.qp l)(hL:∀k,k<l.length->kB (l.getD k default).lev)(h5:l.length<=5):∃a b,yi h p l first = .inr (a,b)/\aW a/\aW b/\a.length<=30000/\b.length<=30000:=by
 obtain⟨x,hx,-⟩:=Aw hT hM hL l.length (Nat.le_refl _);have hi:=uI hT l.length (Nat.le_refl _) x hx;have b1:=hi.len;have b2:=hi.lenw;have l1:=(qc (wr (x.B++[true]))).2;have l2:=(qc (wr (x.w++[true]))).2;have l3:=dA (x.B++[true]);have l4:=dA (x.w++[true]);rw[List.length_append,List.length_singleton]at l3 l4;refine⟨_,_,?_,rr _ (jG (x.B++[true])),rr _ (jG (x.w++[true])),by omega,by omega⟩;unfold yi;rw[hx];exact if_neg (by omega)
theorem LH(s:Sm)(inter:Bool)(qp:Int):kB (nR s inter qp).lev:=fun i=>by
 show -1000<=(if(dY s inter qp).1=0 then fun _=>0 else(jn s (vU (dY s inter qp).1) 6).2) i/\(if(dY s inter qp).1=0 then fun _=>0 else(jn s (vU (dY s inter qp).1) 6).2) i<=1000;split
 ·exact IF i
 ·have:=(uk s (vU (dY s inter qp).1) 6).1 i;omega
theorem Dx(l:List Sm)(inter:Bool)(qp:Int)(n0:Nat):∀k,∀m∈(g_ l inter qp n0 k).1,kB m.lev
 | 0=>fun m h=>by cases h
 | k + 1=>fun m h=>by
   rw[g_]at h
   rcases List.mem_append.1 h with h|h
   ·exact Dx l inter qp n0 k m h
   ·rw[List.mem_singleton]at h;subst h;exact LH _ _ _
theorem BS(l:List Sm)(inter:Bool)(qp:Int)(many all n0:Nat):∀j,∀g∈(gy l inter qp many all n0 j).1,∀m∈g.ms,kB m.lev
 | 0=>fun g h=>by cases h
 | j + 1=>fun g h=>by
   rw[gy]at h;split at h
   ·rcases List.mem_append.1 h with h|h
    ·exact BS l inter qp many all n0 j g h
    ·rw[List.mem_singleton]at h;subst h;exact Dx l inter qp _ _
   ·exact BS l inter qp many all n0 j g h
def pQ(B:List Bool):Nat->Nat->Int->Int
 | _,0,x=>x
 | r,n+1,x=>pQ B (r+1) n (2*x+b2 (B.getD r false))
theorem w9(B:List Bool):∀(n r:Nat) (x:Int),r+n<=B.length->mX B n x (r,false)=(pQ B r n x,(r+n,false))
 | 0,r,x,h=>rfl
 | n + 1,r,x,h=>by
   have e1:jq B (r,false)=B.getD r false:=by simp[jq]
   have e2:dO B (r,false)=(r+1,false):=by
    unfold dO;rw[if_neg Bool.noConfusion,if_pos (by show r<B.length;omega)]
   rw[mX,e1,e2,w9 B n (r+1) _ (by omega),pQ,show r+1+n=r+(n+1) by omega]
theorem pE{B:List Bool}{n r:Nat}(h:r+n<=B.length):eO B n (r,false)=(pQ B r n 0,(r+n,false)):=by
 unfold eO;rw[w9 B n r 0 h,if_neg Bool.noConfusion]
theorem Hi(b:Bool):0<=b2 b/\b2 b<=1:=by cases b<;>decide
theorem ve(B:List Bool):∀(n r:Nat) (x:Int),pQ B r n x/2^n=x
 | 0,r,x=>by show x/2^0=x;simp
 | n+1,r,x=>by
   rw[pQ,Int.pow_succ,<-Int.ediv_ediv_of_nonneg (Int.le_of_lt (Int.pow_pos (by decide))),ve B n];have:=Hi (B.getD r false);omega
theorem AV(B:List Bool):∀(n r:Nat) (x:Int) (i:Nat),i<n->pQ B r n x/2^(n-1-i)%2=b2 (B.getD (r+i) false)
 | 0,r,x,i,h=>absurd h (Nat.not_lt_zero _)
 | n+1,r,x,0,h=>by
   rw[pQ,show n+1-1-0=n by omega,ve,Nat.add_zero];have:=Hi (B.getD r false);omega
 | n+1,r,x,i+1,h=>by
   rw[pQ,show n+1-1-(i+1)=n-1-i by omega,AV B n (r+1) _ i (by omega),show r+1+i=r+(i+1) by omega]
theorem Nw(B:List Bool)(r:Nat):0<=pQ B r 7 0/\pQ B r 7 0<128:=by
 have h:=ve B 7 r 0;have e:(2:Int)^7=128:=by decide
 rw[e]at h;omega
def FZ(B:List Bool)(i:Nat):Int:=128+(eO B 7 (7*i,false)).1
def pM(B:List Bool):Nat->List Int
 | 0=>[]
 | k+1=>pM B k++[FZ B k]
theorem j9(B:List Bool):∀k,(pM B k).length=k
 | 0=>rfl
 | k+1=>by rw[pM,List.length_append,j9 B k];rfl
theorem D1(B:List Bool):∀k i,i<k->(pM B k).getD i 0=FZ B i
 | 0,i,h=>absurd h (Nat.not_lt_zero _)
 | k + 1,i,h=>by
   rw[pM,List.getD_eq_getElem?_getD]
   by_cases hi:i<k
   ·rw[List.getElem?_append_left (by rw[j9];exact hi),<-List.getD_eq_getElem?_getD];exact D1 B k i hi
   ·obtain rfl:i=k:=by omega
    rw[List.getElem?_append_right (by rw[j9];exact Nat.le_refl _),j9,Nat.sub_self];rfl
def kN(B:List Bool)(x y:List Int):List Int:=(([0,0,1,182]++pM B 17)++x)++y
theorem wW(B:List Bool)(x y:List Int):(kN B x y).length=21+x.length+y.length:=by
 simp only[kN,List.length_append,j9,List.length_cons,List.length_nil]
theorem IV(B:List Bool)(x y:List Int){i:Nat}(hi:i<17):(kN B x y).getD (4+i) 0=FZ B i:=by
 unfold kN;rw[List.append_assoc,List.append_assoc,List.getD_eq_getElem?_getD,List.getElem?_append_right (by show 4<=4+i;omega),show 4+i-([0,0,1,182]:List Int).length=i by show 4+i-4=i;omega,List.getElem?_append_left (by rw[j9];exact hi),<-List.getD_eq_getElem?_getD];exact D1 B 17 i hi
def An(p:List Int)(j:Nat):Int:=p.getD (4+j/7) 0/2^(6-j%7)%2
def mD(p:List Int)(o:Nat):Nat->Int
 | 0=>0
 | k+1=>2*mD p o k+An p (o+k)
def fu(p:List Int):Int×Int:=(mD p 37 16,mD p 53 16)
theorem uC(p:List Int)(j:Nat):0<=An p j/\An p j<=1:=by unfold An;omega
theorem R9:∀(k:Fin 7),∃q:Int,128=2^k.val*(2*q):=fun k=>⟨64/2^k.val,by revert k;decide⟩
theorem FA{B:List Bool}(hB:119<=B.length)(x y:List Int){j:Nat}(hj:j<119):An (kN B x y) j=b2 (B.getD j false):=by
 unfold An;rw[IV B x y (show j/7<17 by omega)];unfold FZ;rw[pE (by omega)];have h:=AV B 7 (7*(j/7)) 0 (j%7) (by omega);rw[show 7*(j/7)+j%7=j by omega,show 7-1-j%7=6-j%7 by omega]at h;rw[<-h];obtain⟨q,hq⟩:=R9 ⟨6-j%7,by omega⟩;have hq:(128:Int)=2^(6-j%7)*(2*q):=hq;have hp:(0:Int)<2^(6-j%7):=Int.pow_pos (by decide);show(128+pQ B (7*(j/7)) 7 0)/2^(6-j%7)%2=pQ B (7*(j/7)) 7 0/2^(6-j%7)%2;rw[hq,Int.add_comm,Int.add_mul_ediv_left _ _ (by omega)];omega
theorem Ax(n:Int):∀(k i:Nat),i<k->(bd n k).getD i false=decide (n/2^(k-1-i)%2=1)
 | 0,i,h=>absurd h (Nat.not_lt_zero _)
 | k+1,0,h=>rfl
 | k+1,i+1,h=>by
   rw[bd,List.getD_cons_succ,Ax n k i (by omega),show k+1-1-(i+1)=k-1-i by omega]
theorem uO{pre rest:List Bool}{n:Int}(hn:0<=n/\n<65536)(x y:List Int)(hB:119<=(pre++(bd n 16++rest)).length)(hp:pre.length+16<=119):∀k,k<=16->mD (kN (pre++(bd n 16++rest)) x y) pre.length k=n/2^(16-k)
 | 0,_=>by
   show 0=n/2^16;have e:(2:Int)^16=65536:=by decide
   rw[e];omega
 | k + 1,hk=>by
   have hget:(pre++(bd n 16++rest)).getD (pre.length+k) false=decide (n/2^(15-k)%2=1):=by
    rw[List.getD_eq_getElem?_getD,List.getElem?_append_right (by omega),Nat.add_sub_cancel_left,List.getElem?_append_left (by rw[bu];omega),<-List.getD_eq_getElem?_getD,Ax n 16 k (by omega)]
   rw[mD,uO hn x y hB hp k (by omega),FA hB x y (by omega),hget,show 16-k=(15-k)+1 by omega,show 16-(k+1)=15-k by omega,Int.pow_succ,<-Int.ediv_ediv_of_nonneg (Int.le_of_lt (Int.pow_pos (by decide)))];unfold b2;split
   ·rename_i h;have h:=of_decide_eq_true h;omega
   ·rename_i h;have h:¬_:=fun g=>h (decide_eq_true g)
    omega
def pn(p:Ph)(first count la lb sa sb:Int):List Bool:=((((((((([]++bd p.id 16)++[p.inter])++[p.down])++bd p.qp 5)++bd first 7)++bd count 7)++bd la 16)++bd lb 16)++bd sa 16)++bd sb 16
def mU(p:Ph)(first count la lb sa sb su:Int):List Bool:=(pn p first count la lb sa sb++bd su 16)++bd 0 2
theorem xb(p:Ph)(first count la lb sa sb:Int):(pn p first count la lb sa sb).length=101:=by
 simp only[pn,List.length_append,bu,List.length_cons,List.length_nil]
theorem wJ(p:Ph)(first count la lb sa sb su:Int):(mU p first count la lb sa sb su).length=119:=by
 simp only[mU,xb,List.length_append,bu]
theorem Am{p:Ph}{first count la lb sa sb su:Int}(ha:0<=la/\la<65536)(hb:0<=lb/\lb<65536)(x y:List Int):fu (kN (mU p first count la lb sa sb su) x y)=(la,lb):=by
 have hl:=wJ p first count la lb sa sb su
 have e1:mU p first count la lb sa sb su=((((([]++bd p.id 16)++[p.inter])++[p.down])++bd p.qp 5++bd first 7)++bd count 7)++(bd la 16++(((bd lb 16++bd sa 16)++bd sb 16++bd su 16)++bd 0 2)):=by
  simp only[mU,pn,List.append_assoc]
 have e2:mU p first count la lb sa sb su=(((((([]++bd p.id 16)++[p.inter])++[p.down])++bd p.qp 5++bd first 7)++bd count 7)++bd la 16)++(bd lb 16++((bd sa 16++bd sb 16++bd su 16)++bd 0 2)):=by
  simp only[mU,pn,List.append_assoc]
 unfold fu;refine Prod.ext ?_ ?_
 ·have h:=uO ha x y (by rw[<-e1];omega) (by simp only[List.length_append,bu,List.length_cons,List.length_nil];omega) 16 (Nat.le_refl _);rw[<-e1]at h;simp only[List.length_append,bu,List.length_cons,List.length_nil]at h;exact h.trans (by simp)
 ·have h:=uO hb x y (by rw[<-e2];omega) (by simp only[List.length_append,bu,List.length_cons,List.length_nil];omega) 16 (Nat.le_refl _);rw[<-e2]at h;simp only[List.length_append,bu,List.length_cons,List.length_nil]at h;exact h.trans (by simp)
end Go.Proofs.YthdciapjllppjaaGreat
namespace Go.Xm
variable [av]
variable {P:Program} {ops:Array Oper} {nt nI:Nat} {al:aL} {hs:ah} {o:Oper} {l:List Oper} {L:List aA} {K:List Ab->aL->ah->Prop} {d:Nat}
theorem Tz{t t':TypeId}{a b:Operand}{k k':IntKind}{x y:Int}(n:Nat)(hk:SK P ops nt L l ((d,.one (.int k (k.wrap (x*2^n))))::al) hs fun bs=>K (quiet::bs))(ho:o.op = .binOp .shl t a b t':=by exact rfl)(wn:Wn ops nt al o d:=by exact⟨rfl,rfl,rfl⟩)(ha:ag (rg al) a = .one (.int k x):=by exact rfl)(hb:ag (rg al) b = .one (.int k' y):=by exact rfl)(hn:y=(n:Nat):=by exact rfl)(h:n<=k.bits:=by decide):SK P ops nt L (o::l) al hs K:=by
 refine gf ho wn.w wn.e wn.l ha hb ?_ hk;subst hn;have h0:¬((n:Nat):Int)<0:=by omega
 simp only[bB,h0,if_false,uH,Int.toNat_natCast,Nat.min_eq_left h,ca]
end Go.Xm
namespace Go.Proofs.YthdciapjllppjaaGreat
open Go.Xm
variable [av]
theorem Ki(x:Int):0<=IntKind.u16.wrap x/\IntKind.u16.wrap x<65536:=by
 simp[IntKind.wrap,IntKind.bits,IntKind.signed];omega
theorem pI(x y:Int):0<=m9 .u16 x y/\m9 .u16 x y<65536:=Ki _
def kH(s:Int):Int:=if H8 .u16 s 32768≠0 then m9 .u16 (IntKind.u16.wrap (s*2^1)) 4129 else IntKind.u16.wrap (s*2^1)
theorem EK(s:Int):0<=kH s/\kH s<65536:=by
 unfold kH;split
 ·exact pI _ _
 ·exact Ki _
def c8(s:Int):Nat->Int
 | 0=>s
 | k+1=>kH (c8 s k)
def Bw(s:Int)(l:List Int):Nat->Int
 | 0=>s
 | i+1=>c8 (m9 .u16 (Bw s l i) (l.getD i 0*2^8)) 8
def gu(l:List Int):Int:=Bw 65535 l l.length
theorem Hv{s:Int}(h:0<=s/\s<65536):∀k,0<=c8 s k/\c8 s k<65536
 | 0=>h
 | k+1=>EK _
theorem zh{s:Int}(h:0<=s/\s<65536)(l:List Int):∀k,0<=Bw s l k/\Bw s l k<65536
 | 0=>h
 | k+1=>Hv (pI _ _) 8
theorem n5(l:List Int):0<=gu l/\gu l<65536:=zh (by decide) l _
theorem KQ(s:Int)(hs:0<=s/\s<65536){l:List Int}(hl:aW l)(hn:l.length<=100000){ob:aj}(hr:RO ob .u8 l)(cp:oV) :
 bm prog 80 [.one (.int .u16 s),.one (.slice 0 0 l.length cp)] [ob] (.one (.int .u16 (Bw s l l.length))) [ob]:=by
 have hfo:=hr.flat;refine cO Tryz.func80 ?_
 repeat' (first|refine zz ?_|refine zx (fun _=>?_) (fun _=>?_)|fail)
 refine WX.bQ (σ:=Nat×Int) (fun t=>[(0,.one (.int .u16 t.2)),(7,.one (.slice 0 0 l.length cp)),(8,.one (.int .i64 (l.length:Nat))),(9,.one (.int .i64 (t.1:Nat)))]) (fun t=>[ob]) (fun t=>t.1<=l.length/\t.2=Bw s l t.1) (fun t=>l.length-t.1) (0,s) ⟨Nat.zero_le _,rfl⟩ (fun s _=>mE) (bq [0]) ?_;intro t ⟨hle,hte⟩ ih;have hb:=hl t.1;have htr:=zh hs l t.1;rw[<-hte]at htr
 by_cases hlt:t.1<l.length
 ·repeat' (first|refine zz ?_|refine zx (fun _=>?_) (fun _=>?_)|fail)
  refine WX.bQ (σ:=Nat×Int) (fun u=>[(0,.one (.int .u16 u.2)),(7,.one (.slice 0 0 l.length cp)),(8,.one (.int .i64 (l.length:Nat))),(9,.one (.int .i64 (t.1:Nat))),(18,.one (.int .i64 (u.1:Nat)))]) (fun t=>[ob]) (fun u=>u.1<=8/\u.2=c8 (m9 .u16 t.2 (l.getD t.1 0*2^8)) u.1) (fun u=>8-u.1) (0,m9 .u16 t.2 (l.getD t.1 0*2^8)) ⟨Nat.zero_le _,rfl⟩ (fun s _=>mE) (bq [0]) ?_;intro u ⟨hu8,hue⟩ ih2;have hur:=Hv (pI t.2 (l.getD t.1 0*2^8)) u.1;rw[<-hue]at hur
  by_cases hlu:u.1<8
  ·repeat' (first
    |(refine qz ?_;first
     |refine Tz 1 ?_)
    |refine zz ?_|refine zx (fun _=>?_) (fun _=>?_)|fail)
   ·rename_i hc1;exact ih2 (u.1+1,kH u.2) _ _ _ (bq [0] (reg:=by(repeat' (first|exact ae.nil|refine ae.flat (by show _=XV.one (XC.int .u16 (kH u.2));unfold kH;rw[if_pos hc1];rfl) ?_|refine rz ?_|refine ae.sl rfl (by assumption) rfl ?_));first|done|fail)) ⟨by show u.1+1<=8;omega,by show kH u.2=kH _;rw[<-hue]⟩ (by show 8-(u.1+1)<8-u.1;omega)
   ·rename_i hc1;exact ih2 (u.1+1,kH u.2) _ _ _ (bq [0] (reg:=by(repeat' (first|exact ae.nil|refine ae.flat (by show _=XV.one (XC.int .u16 (kH u.2));unfold kH;rw[if_neg hc1];rfl) ?_|refine rz ?_|refine ae.sl rfl (by assumption) rfl ?_));first|done|fail)) ⟨by show u.1+1<=8;omega,by show kH u.2=kH _;rw[<-hue]⟩ (by show 8-(u.1+1)<8-u.1;omega)
  ·have e8:u.1=8:=by omega
   clear ih2
   repeat' (first|refine zz ?_|refine zx (fun _=>?_) (fun _=>?_)|fail)
   exact ih (t.1+1,u.2) _ _ _ (bq [0]) ⟨by show t.1+1<=_;omega,by show u.2=c8 _ 8;rw[hue,e8,<-hte]⟩ (by show _-(t.1+1)<_;omega)
 ·have e0:t.1=l.length:=by omega
  repeat' (first|refine zz ?_|refine zx (fun _=>?_) (fun _=>?_)|fail)
  show aE _ _ _ _ _ _ _ _;refine kV [0] ?_;show XV.one (.int .u16 t.2)=_;rw[hte,e0];rfl
theorem NG{s:Int}(hs:0<=s/\s<65536){l:List Int}(hl:aW l)(hn:l.length<=100000){ob:aj}(hr:RO ob .u8 l){cp:oV}{n:Nat}(hln:l.length=n){HS:ah}{i:Nat}(hi:HS[i]? = some ob)(hb:Nat.blt HS.length Mem.bound=true) :
 aA.Sound prog ⟨80,[.one (.int .u16 s),.one (.slice i 0 n cp)],HS,.one (.int .u16 (Bw s l l.length)),HS,[]⟩:=by
 subst hln;have hfo:=hr.flat;exact fV [i] (KQ s hs hl hn hr cp) (by simp) (.flat hi .nil) (.flat .nil) (.flat (.cons (by show 0<1;omega) .nil)) (.flat (.cons rfl .nil)) trivial rfl hb rfl
theorem Mw{l:List Int}(hl:aW l)(hn:l.length<=100000){ob:aj}(hr:RO ob .u8 l)(cp:oV) :
 bm prog 49 [.one (.slice 1 0 1 (.exact 1))] [ob,.cells [.slice 0 0 l.length cp] 32 false false] (.one (.int .u16 (gu l))) [ob,.cells [.slice 0 0 l.length cp] 32 false false]:=by
 have hfo:=hr.flat;refine cO Tryz.func49 ?_
 repeat' (first
  |(refine qz ?_;first
   |refine cl ?_ (hi:=by exact NG (by decide) hl hn hr (i:=0) rfl rfl rfl))
  |refine WX.loop ?_|refine WX.round (c := .seq (.region 3 _ _) _) ?_|refine zz ?_|refine zx (fun _=>?_) (fun _=>?_)|fail)
 show aE _ _ _ _ _ _ _ _;refine kV [0,1] ?_;rfl
theorem u5{l:List Int}(hl:aW l)(hn:l.length<=100000){ob:aj}(hr:RO ob .u8 l){cp:oV}{z:Int}(hz:gu l=z){n:Nat}(hln:l.length=n){HS:ah}{i j:Nat}(hi:HS[i]? = some ob)(hj:HS[j]? = some (.cells [.slice i 0 n cp] 32 false false))(hd:i≠j)(hb:Nat.blt HS.length Mem.bound=true) :
 aA.Sound prog ⟨49,[.one (.slice j 0 1 (.exact 1))],HS,.one (.int .u16 z),HS,[]⟩:=by
 subst hln hz;have hfo:=hr.flat;exact fV [i,j] (Mw hl hn hr cp) (by simp[hd]) (.flat hi (.cons hj .nil)) (.flat (.cons (by simp[aj.br,XC.ok]) .nil)) (.cons (by show 1<2;omega) .nil) (.cons rfl .nil) trivial rfl hb rfl
def oT(f:Nat->Int):Nat->List Bool
 | 0=>[]
 | k+1=>oT f k++bd (f k) 8
theorem n7(f:Nat->Int):∀k,(oT f k).length=8*k
 | 0=>rfl
 | k+1=>by rw[oT,List.length_append,n7 f k,bu];omega
def x9(h:Hd):List Bool:=(([]++bd h.cols 8)++bd h.rows 8)++[h.w]
def N5(h:Hd):List Bool:=if h.w=true then(x9 h++oT h.a 64)++oT h.b 64 else x9 h
theorem qk(h:Hd):(x9 h).length=17:=by simp only[x9,List.length_append,bu,List.length_cons,List.length_nil]
theorem Lo(h:Hd):(N5 h).length<=1041:=by
 unfold N5;split
 ·rw[List.length_append,List.length_append,qk,n7,n7];omega
 ·rw[qk];omega
def E_(h:Hd):List Int:=wr (N5 h++[true])
def KE(h:Hd):List Int:=E_ h++[gu (E_ h)/256,gu (E_ h)%256,128]
def KF(h:Hd):List Int:=[0,0,1,176]++(f5 (KE h) (KE h).length).1
theorem jH{a b:List Int}(ha:aW a)(hb:aW b):aW (a++b):=fun i=>by
 rw[List.getD_eq_getElem?_getD]
 by_cases h:i<a.length
 ·rw[List.getElem?_append_left h,<-List.getD_eq_getElem?_getD];exact ha i
 ·rw[List.getElem?_append_right (by omega),<-List.getD_eq_getElem?_getD];exact hb _
theorem dt{z:Int}{l:List Int}(hz:0<=z/\z<256)(h:aW l):aW (z::l):=fun i=>by
 cases i with
 | zero=>exact hz
 | succ i=>exact h i
theorem jI:aW []:=fun i=>by show(0:Int)<=0/\(0:Int)<256;omega
theorem zJ(h:Hd):aW (E_ h):=jG _
theorem Dz(h:Hd):(E_ h).length<=131:=by
 have:=Lo h;unfold E_;rw[dA,List.length_append,List.length_singleton];omega
theorem zK(h:Hd):aW (KE h):=by
 have:=n5 (E_ h);exact jH (zJ h) (dt (by omega) (dt (by omega) (dt (by omega) jI)))
theorem DA(h:Hd):(KE h).length<=134:=by
 have:=Dz h;unfold KE;rw[List.length_append];simp only[List.length_cons,List.length_nil];omega
theorem H5(h:Hd):aW (KF h):=
 jH (dt (by omega) (dt (by omega) (dt (by omega) (dt (by omega) jI)))) (rr _ (zK h))
theorem DB(h:Hd):4<=(KF h).length/\(KF h).length<=272:=by
 have:=DA h;have:=(qc (KE h)).1;unfold KF;rw[List.length_append];simp only[List.length_cons,List.length_nil];omega
noncomputable def gd(h:Hd)(p:Ph)(g:Gr):List Int×List Int:=match yi h p g.ms g.first with
 | .inr x=>x
 | .inl _=>([],[])
noncomputable def Rr(h:Hd)(p:Ph)(g:Gr):List Bool:=mU p g.first (g.ms.length:Nat) ((gd h p g).1.length:Nat) ((gd h p g).2.length:Nat) (gu (gd h p g).1) (gu (gd h p g).2) (gu (wr (pn p g.first (g.ms.length:Nat) ((gd h p g).1.length:Nat) ((gd h p g).2.length:Nat) (gu (gd h p g).1) (gu (gd h p g).2))))
noncomputable def DO(h:Hd)(p:Ph)(g:Gr):List Int:=kN (Rr h p g) (gd h p g).1 (gd h p g).2
noncomputable def Oz(h:Hd)(p:Pc):List (List Int):=p.gs.map (DO h p.ph)
noncomputable def sg(h:Hd)(ps:List Pc):List (List Int):=ps.flatMap (Oz h)
noncomputable def fC(s:vR):List (List Int):=KF s.hd::sg s.hd s.ps
theorem xh{α : Type}[Inhabited α](l:List α){j:Nat}(h:j<l.length):l.take (j+1)=l.take j++[l.getD j default]:=by
 rw[List.take_add_one,List.getElem?_eq_getElem h,List.getD_eq_getElem?_getD,List.getElem?_eq_getElem h];rfl
structure jR(s:vR):Prop where
 ok:wh s
 low:∀p∈s.ps,∀g∈p.gs,∀m∈g.ms,kB m.lev
theorem qj{inter:Bool}{qp:Int}:∀{l:List Gr} {b e:Int},pW inter qp b l e->0<=b->∀g∈l,0<=g.first/\b<=g.first/\g.first+(g.ms.length:Nat)<=e/\1<=g.ms.length/\g.ms.length<=5/\nu inter qp g.ms
 | [],b,e,h,hb=>fun g hg=>by cases hg
 | x :: l,b,e,h,hb=>fun g hg=>by
   obtain⟨h1,h2,h3,h4,h5⟩:=h
   have hle:∀{l:List Gr} {b e:Int},pW inter qp b l e->b<=e:=fun {l}=>by
    induction l with
    | nil=>intro b e h;have h:b=e:=h;omega
    | cons x l ih=>intro b e h;have:=ih h.2.2.2.2;omega
   rcases List.mem_cons.1 hg with rfl|hg
   ·have:=hle h5;exact⟨by omega,by omega,by omega,h2,h3,h4⟩
   ·have:=qj h5 (by omega) g hg;exact⟨this.1,by omega,this.2.2⟩
theorem oE{s:vR}(h:wh s):1<=s.hd.cols*s.hd.rows/\s.hd.cols*s.hd.rows<=9:=by
 obtain⟨c0,c1⟩:=h.cols;obtain⟨r0,r1⟩:=h.rows;have hc:s.hd.cols=1\/s.hd.cols=2\/s.hd.cols=3:=by omega
 have hr:s.hd.rows=1\/s.hd.rows=2\/s.hd.rows=3:=by omega
 rcases hc with e|e|e<;>rcases hr with f|f|f<;>rw[e,f]<;>decide
theorem um{inter:Bool}{qp:Int}{l:List Mb}(h:nu inter qp l):∀m∈l,iU m:=fun m hm=>by
 obtain⟨j,hj,rfl⟩:=List.mem_iff_getElem.1 hm;have:=h.mok j hj;rwa [List.getD_eq_getElem?_getD,List.getElem?_eq_getElem hj,Option.getD_some]at this
theorem xY:∀(l:List Int) (z:Int),l.length<=(rn z l).length
 | [],z=>Nat.zero_le _
 | b :: t,z=>by
   rw[rn];split
   ·have:=xY t (if b=0 then 0+1 else 0);simp only[List.length_cons];omega
   ·have:=xY t (if b=0 then z+1 else 0);simp only[List.length_cons];omega
theorem qd{l:List Int}(h:1<=l.length):1<=(f5 l l.length).1.length:=by
 rw[tP];have:=xY l 0;omega
theorem IU{h:Hd}{p:Ph}{l:List Mb}{first:Int}{a b:List Int}(hp:yi h p l first = .inr (a,b)):1<=a.length/\1<=b.length:=by
 unfold yi at hp;split at hp
 ·cases hp
 ·rename_i x hx;split at hp
  ·cases hp
  ·cases hp;exact⟨qd (by rw[dA,List.length_append,List.length_singleton];omega),qd (by rw[dA,List.length_append,List.length_singleton];omega)⟩
theorem Nm{s:vR}(h:jR s){i:Nat}(hi:i<s.ps.length){g:Gr}(hg:g∈(s.ps.getD i default).gs) :
 l5 s.hd (s.ps.getD i default).ph g.ms g.first/\yi s.hd (s.ps.getD i default).ph g.ms g.first = .inr (gd s.hd (s.ps.getD i default).ph g)/\aW (gd s.hd (s.ps.getD i default).ph g).1/\aW (gd s.hd (s.ps.getD i default).ph g).2/\(1<=(gd s.hd (s.ps.getD i default).ph g).1.length/\(gd s.hd (s.ps.getD i default).ph g).1.length<=30000)/\(1<=(gd s.hd (s.ps.getD i default).ph g).2.length/\(gd s.hd (s.ps.getD i default).ph g).2.length<=30000):=by
 have hm:=oE h.ok;have hp:=h.ok.pics i hi;have he:(((s.hd.cols*s.hd.rows).toNat:Nat):Int)=s.hd.cols*s.hd.rows:=by omega
 obtain⟨g1,g2,g3,g4,g5,g6⟩:=qj hp.gs (Int.le_refl 0) g hg;rw[he]at g3
 have hT:l5 s.hd (s.ps.getD i default).ph g.ms g.first:=⟨h.ok.hd,hp.ph,um g6,g1,g4,by omega,g3⟩
 have hmem:s.ps.getD i default∈s.ps:=by
  rw[List.getD_eq_getElem?_getD,List.getElem?_eq_getElem hi,Option.getD_some];exact List.getElem_mem hi
 have hlow:∀k,k<g.ms.length->kB (g.ms.getD k default).lev:=fun k hk=>by
  rw[List.getD_eq_getElem?_getD,List.getElem?_eq_getElem hk,Option.getD_some];exact h.low _ hmem g hg _ (List.getElem_mem hk)
 obtain⟨a,b,e,ha,hb,la,lb⟩:=LZ hT g6 hlow g5;have hpos:=IU e;have eAB:gd s.hd (s.ps.getD i default).ph g=(a,b):=by unfold gd;rw[e]
 rw[eAB];exact⟨hT,e,ha,hb,⟨hpos.1,la⟩,hpos.2,lb⟩
def rj(h:Hd)(c0 c1:XC):List XC:=gV h++[c0,c1]
theorem Dh(h:Hd)(c0 c1:XC):(rj h c0 c1).length=133:=by simp[rj,cu]
theorem NN(h:Hd)(c0 c1:XC):((rj h c0 c1).drop 0).take 131=gV h:=by
 unfold rj;rw[List.drop_zero,List.take_left' (cu h)]
theorem Df(h:Hd)(c0 c1:XC):(rj h c0 c1)[131]? = some c0:=by
 unfold rj;rw[List.getElem?_append_right (by rw[cu];omega),cu];rfl
theorem Dg(h:Hd)(c0 c1:XC):(rj h c0 c1)[132]? = some c1:=by
 unfold rj;rw[List.getElem?_append_right (by rw[cu];omega),cu];rfl
abbrev Dj(h:Hd)(c0 c1:XC):aj := .cells (rj h c0 c1) 30 false false
theorem lf{h:Hd}{c0 c1:XC}{n n' m:Nat}(k0:cG c0 0 0 n)(k1:cG c1 1 0 n')(hm:Nat.ble 2 m=true):(Dj h c0 c1).br m:=fun c hc=>by
 have hm:=Nat.le_of_ble_eq_true hm
 rcases List.mem_append.1 (show c∈gV h++[c0,c1]from hc)with hc|hc
 ·exact XC.bh (List.all_eq_true.1 (eC h) c hc) m
 ·simp only[List.mem_cons,List.not_mem_nil,or_false]at hc
  rcases hc with rfl|rfl
  ·exact k0.ok (by omega)
  ·exact k1.ok (by omega)
theorem ql(h:Hd)(τ : Nat->Nat):(gV h).map (·.aB τ)=gV h:=by
 refine(List.map_congr_left (g:=id) fun c hc=>?_).trans (List.map_id _);exact XC.dG (List.all_eq_true.1 (eC h) c hc) τ
theorem dV{τ : Nat->Nat}{HS:ah}{i:Nat}{ls:List Nat}{hs:ah}{h:Hd}{c0 c1:XC}{n n':Nat}(k0:cG c0 0 0 n)(k1:cG c1 1 0 n')(hi:HS[i]? = some (Dj h c0 c1))(e0 : τ 0=0)(e1 : τ 1=1)(r:af τ HS ls hs):af τ HS (i::ls) (Dj h c0 c1::hs):=by
 refine af.cons ?_ r;rw[hi];simp only[Dj,rj,aj.aB,List.map_append,ql,List.map_cons,List.map_nil,k0.id e0,k1.id e1]
def fh(h:Hd)(c:XC):List XC:=gV h++[c]
theorem eo(h:Hd)(c:XC):(fh h c).length=132:=by simp[fh,cu]
theorem Ct(h:Hd)(c:XC):((fh h c).drop 0).take 131=gV h:=by
 unfold fh;rw[List.drop_zero,List.take_left' (cu h)]
theorem yB(h:Hd)(c:XC):(fh h c)[131]? = some c:=by
 unfold fh;rw[List.getElem?_append_right (by rw[cu];omega),cu];rfl
theorem Mu(h:Hd)(c c':XC):(fh h c).set 131 c'=fh h c':=by
 unfold fh;rw[List.set_append_right _ _ (by rw[cu];omega),cu];rfl
abbrev wH:Hd:=⟨0,0,false,fun _=>0,fun _=>0⟩
theorem Eo:aI prog 36 (fh wH .nils):=by
 show aI prog 36 ((.int .i64 0 :: .int .i64 0 :: .bool false::((ti .u8 64 fun _=>0)++(ti .u8 64 fun _=>0)))++[.nils])
 infer_instance
theorem aN{τ : Nat->Nat}{HS:ah}{i:Nat}{ls:List Nat}{hs:ah}{h:Hd}{c:XC}{a b:Bool}(hc:c.aB τ = c)(hi:HS[i]? = some (.cells (fh h c) 36 a b))(r:af τ HS ls hs):af τ HS (i::ls) (.cells (fh h c) 36 a b::hs):=by
 refine af.cons ?_ r;rw[hi];simp only[fh,aj.aB,List.map_append,ql,List.map_cons,List.map_nil,hc]
theorem bW{h:Hd}{c:XC}{a b:Bool}{m:Nat}(hc:c.ok m):(aj.cells (fh h c) 36 a b).br m:=fun x hx=>by
 rcases List.mem_append.1 (show x∈gV h++[c]from hx)with hx|hx
 ·exact XC.bh (List.all_eq_true.1 (eC h) x hx) m
 ·rw[List.mem_singleton.1 hx];exact hc
theorem rQ{h:Hd}{c:XC}{m:Nat}(hc:c.ok m):(XV.agg (fh h c)).br m:=fun x hx=>by
 rcases List.mem_append.1 (show x∈gV h++[c]from hx)with hx|hx
 ·exact XC.bh (List.all_eq_true.1 (eC h) x hx) m
 ·rw[List.mem_singleton.1 hx];exact hc
theorem oD{h:Hd}{c c':XC}{τ : Nat->Nat}(hc:c.aB τ = c'):(XV.agg (fh h c)).aB τ = .agg (fh h c'):=by
 simp only[fh,XV.aB,List.map_append,ql,List.map_cons,List.map_nil,hc]
abbrev sf(p:Ph)(c:XC):List XC:=[.int .i64 p.id,.bool p.inter,.bool p.down,.int .i64 p.qp,c]
abbrev x6(f:Int)(c:XC):List XC:=[.int .i64 f,c]
theorem vM:aI prog 90 (x6 0 .nils):=by
 show aI prog 90 [.int .i64 0,.nils]
 infer_instance
theorem rZ:aI prog 87 (sf ⟨0,false,false,0⟩ .nils):=by
 show aI prog 87 [.int .i64 0,.bool false,.bool false,.int .i64 0,.nils]
 infer_instance
theorem Ln{inter:Bool}{qp:Int}{l:List Gr}{j:Nat}{b e:Int}(h:pW inter qp b (l.drop j) e)(hj:j<l.length):(l.getD j default).first=b/\1<=(l.getD j default).ms.length/\(l.getD j default).ms.length<=5/\nu inter qp (l.getD j default).ms/\pW inter qp (b+((l.getD j default).ms.length:Nat)) (l.drop (j+1)) e:=by
 rw[List.drop_eq_getElem_cons hj]at h;rw[List.getD_eq_getElem?_getD,List.getElem?_eq_getElem hj,Option.getD_some];exact h
theorem x8{inter:Bool}{qp:Int}:∀{l:List Gr} {b e:Int},pW inter qp b l e->b<=e
 | [],b,e,h=>by have h:b=e:=h;omega
 | x::l,b,e,h=>by have:=x8 h.2.2.2.2;omega
def Ch(qp:Int)(l:List Mb)(k:Nat):Int:=if k=0 then qp else(l.getD (k-1) default).qp
theorem BQ{hd:Hd}{p:Ph}{L:List (List XC)}{k q m n:Nat}{gs:List Gr}(hg:we L k gs)(hn:gs.length=n)(hp:sD p)(hok:pW p.inter p.qp 0 gs (hd.cols*hd.rows))(hcr:1<=hd.cols*hd.rows/\hd.cols*hd.rows<=64)(hgn:gs.length<=64) :
 bm prog 57 [.agg (fh hd (.lsl 0 q 0 m m 0)),.agg (sf p (.lsl 0 k 0 n n 0))] [.late L] (.one (.int .i64 0)) [.late L]:=by
 subst hn;obtain⟨l,hl,hln,hall⟩:=hg;have hqp:=hp.qp;have hc:=hd.cols;refine cO Tryz.func57 ?_
 repeat' (first
  |(refine qz ?_;first
   |refine qw ?_
   |refine tZ ?_)
  |refine zz ?_|refine zx (fun _=>?_) (fun _=>?_)|fail)
 refine WX.bQ (σ:=Nat×Int) (fun s=>[(2,.one (.ptr 1 0)),(3,.one (.ptr 2 0)),(13,.one (.lsl 0 k 0 gs.length gs.length 0)),(14,.one (.int .i64 (gs.length:Nat))),(5,.one (.int .i64 s.2)),(15,.one (.int .i64 (s.1:Nat)))]) (fun s=>[.late L,.cells (fh hd (.lsl 0 q 0 m m 0)) 36 false false,.cells (sf p (.lsl 0 k 0 gs.length gs.length 0)) 87 false false]) (fun s=>s.1<=gs.length/\0<=s.2/\pW p.inter p.qp s.2 (gs.drop s.1) (hd.cols*hd.rows)) (fun s=>gs.length-s.1) (0,0) ⟨Nat.zero_le _,Int.le_refl _,hok⟩ (fun s _=>(mE (objs:=by repeat' (first|exact aq.nil|refine aq.cons (bW (show 0<_ from Nat.le_of_ble_eq_true rfl)) ?_|refine kz ?_)))) (bq [0,1,2] (obj:=by(repeat' (first|exact af.nil|refine aN rfl rfl ?_|refine oz ?_));first|done|fail)) ?_;intro s ⟨hle,h0,hgs⟩ ih;have hsle:=x8 hgs
 by_cases hlt:s.1<gs.length
 ·obtain⟨a1,a2,a3⟩:=hall s.1 hlt;obtain⟨b1,b2,b3,b4,b5⟩:=Ln hgs hlt;have hnx:=x8 b5
  obtain⟨g,hge⟩:∃g,gs.getD s.1 default=g:=⟨_,rfl⟩
  obtain⟨a,hae⟩:∃a,l.getD s.1 default=a:=⟨_,rfl⟩
  have hae':l.getD (s.1:Int).toNat default=a:=hae;rw[hge]at a1 a2 a3 b1 b2 b3 b4 b5 hnx;rw[hae]at a1 a2 a3;rw[b1]at a1
  have ea:(oP (l.getD (s.1:Int).toNat default)).map (·.self 0)=x6 s.2 (.lsl 0 a.k 0 g.ms.length g.ms.length 0):=by
   rw[hae',<-a1,<-a2];rfl
  have hlt2:s.1<l.length:=by omega
  repeat' (first
   |(refine qz ?_;first
    |refine qw ?_
    |refine tZ ?_
    |refine nC (zs:=x6 0 .nils) (hz:=vM) ?_
    |refine kD (enc:=oP) ?_ hl (by omega) (hc':=ea))
   |refine zz ?_|refine zx (fun _=>?_) (fun _=>?_)|fail)
  refine WX.bQ (σ:=Nat) (fun t=>[(2,.one (.ptr 1 0)),(3,.one (.ptr 2 0)),(7,.one (.ptr 3 0)),(13,.one (.lsl 0 k 0 gs.length gs.length 0)),(14,.one (.int .i64 (gs.length:Nat))),(5,.one (.int .i64 s.2)),(15,.one (.int .i64 (s.1:Nat))),(33,.one (.lsl 0 a.k 0 g.ms.length g.ms.length 0)),(34,.one (.int .i64 (g.ms.length:Nat))),(8,.one (.int .i64 (Ch p.qp g.ms t))),(35,.one (.int .i64 (t:Nat)))]) (fun t=>[.late L,.cells (fh hd (.lsl 0 q 0 m m 0)) 36 false false,.cells (sf p (.lsl 0 k 0 gs.length gs.length 0)) 87 false false,.cells (x6 s.2 (.lsl 0 a.k 0 g.ms.length g.ms.length 0)) 90 false false]) (fun t=>t<=g.ms.length) (fun t=>g.ms.length-t) 0 (Nat.zero_le _) (fun s _=>(mE (objs:=by repeat' (first|exact aq.nil|refine aq.cons (bW (show 0<_ from Nat.le_of_ble_eq_true rfl)) ?_|refine kz ?_)))) (bq [0,1,2,3] (obj:=by(repeat' (first|exact af.nil|refine aN rfl rfl ?_|refine oz ?_));first|done|fail)) ?_;intro t ht ih2
  by_cases hlt3:t<g.ms.length
  ·have hmk:=b4.mok t hlt3;have hck:=b4.chk t hlt3;have hck:db (g.ms.getD t default) p.inter (Ch p.qp g.ms t)=0:=hck
   have hqr : -1000000<=Ch p.qp g.ms t/\Ch p.qp g.ms t<=1000000:=by
    unfold Ch;split
    ·omega
    ·have:=(b4.mok (t-1) (by omega)).qp;omega
   obtain⟨x,hxe⟩:∃x,g.ms.getD t default=x:=⟨_,rfl⟩
   have hxe':g.ms.getD (t:Int).toNat default=x:=hxe;rw[hxe]at hmk hck
   repeat' (first
    |(refine qz ?_;first
     |refine qw ?_
     |refine tZ ?_
     |refine nC (zs:=mC y_) (hz:=oN) ?_
     |refine kD (enc:=mC) ?_ a3 (by omega)
     |refine tk (cs:=mC x) ?_ (hy:=by rw[<-hxe'];rfl) (hs1:=by rw[aY]) (hs2:=by rw[aY])
     |refine lI ?_ (hle:=by rw[aY])
     |refine cl ?_ (hi:=by exact zo hmk hqr hck rfl))
    |refine zz ?_|refine zx (fun _=>?_) (fun _=>?_)|fail)
   have eq1:Ch p.qp g.ms (t+1)=x.qp:=by unfold Ch;rw[if_neg (by omega),Nat.add_sub_cancel,hxe]
   exact ih2 (t+1) _ _ _ (bq [0,1,2,3] (obj:=by(repeat' (first|exact af.nil|refine aN rfl rfl ?_|refine oz ?_));first|done|fail) (reg:=by(repeat' (first|exact ae.nil|refine ae.flat (by rw[eq1];rfl) ?_|refine rz ?_|refine ae.sl rfl (by assumption) rfl ?_));first|done|fail)) (by omega) (by omega)
  ·repeat' (first
    |(refine qz ?_;first
     |refine qw ?_
     |refine tZ ?_)
    |refine zz ?_|refine zx (fun _=>?_) (fun _=>?_)|fail)
   exact ih (s.1+1,s.2+(g.ms.length:Nat)) _ _ _ (bq [0,1,2] (obj:=by(repeat' (first|exact af.nil|refine aN rfl rfl ?_|refine oz ?_));first|done|fail)) ⟨by show s.1+1<=_;omega,by show 0<=s.2+_;omega,b5⟩ (by show _-(s.1+1)<_;omega)
 ·have e0:s.1=gs.length:=by omega
  rw[e0,List.drop_length]at hgs;have hgs:s.2=hd.cols*hd.rows:=hgs
  repeat' (first
   |(refine qz ?_;first
    |refine qw ?_
    |refine tZ ?_
    |refine ld (c := .int .i64 hd.cols) ?_
    |refine ld (c := .int .i64 hd.rows) ?_)
   |refine zz ?_|refine zx (fun _=>?_) (fun _=>?_)|fail)
  show aE _ _ _ _ _ _ _ _;refine kV [0] ?_;rfl
theorem wz{hd:Hd}{p:Ph}{L:List (List XC)}{k q m n i:Nat}{gs:List Gr}(hg:we L k gs)(hn:gs.length=n)(hp:sD p)(hok:pW p.inter p.qp 0 gs (hd.cols*hd.rows))(hcr:1<=hd.cols*hd.rows/\hd.cols*hd.rows<=64)(hgn:gs.length<=64){HS:ah}(hi:HS[i]? = some (.late L))(hbd:Nat.blt HS.length Mem.bound=true) :
 aA.Sound prog ⟨57,[.agg (fh hd (.lsl i q 0 m m 0)),.agg (sf p (.lsl i k 0 n n 0))],HS,.one (.int .i64 0),HS,[]⟩:=by
 refine fV [i] (BQ (q:=q) (m:=m) hg hn hp hok hcr hgn) (by simp) (.flat hi .nil) (.flat .nil) (.cons (rQ (show 0<_ from Nat.le_of_ble_eq_true rfl)) (.cons ?_ .nil)) (.cons (oD rfl) (.cons rfl .nil)) trivial rfl hbd rfl;intro x hx;simp only[List.mem_cons,List.not_mem_nil,or_false]at hx
 rcases hx with rfl|rfl|rfl|rfl|rfl<;>first|trivial|exact Nat.zero_lt_one
theorem uD{ps:List Pc}{l:List P1}{i:Nat}{p:Pc}(h1:(l.getD i default).ph=p.ph)(h2:(l.getD i default).n=p.gs.length)(g:Nat):(m_ (l.getD i default)).map (·.self g)=sf p.ph (.lsl g (l.getD i default).k 0 p.gs.length p.gs.length 0):=by
 rw[<-h1,<-h2];rfl
theorem Cl{s:vR}(hs:wh s){L:List (List XC)}{k n:Nat}(hp:r6 L k s.ps)(hn:s.ps.length=n) :
 bm prog 30 [.agg (fh s.hd (.lsl 0 k 0 n n 0))] [.late L] (.one (.int .i64 0)) [.late L]:=by
 subst hn;obtain⟨l,hl,hln,hall⟩:=hp;have hmany:=hs.many;have hcr:=oE hs;refine cO Tryz.func30 ?_
 repeat' (first
  |(refine qz ?_;first
   |refine t_ (cs:=gV s.hd) ?_ (hle:=by rw[eo];decide) (hc:=Ct _ _)
   |refine ld (c := .lsl 0 k 0 s.ps.length s.ps.length 0) ?_ (hc:=yB _ _)
   |refine cl ?_ (hi:=by exact ox hs.hd rfl)
   |refine qw ?_
   |refine tZ ?_)
  |refine zz ?_|refine zx (fun _=>?_) (fun _=>?_)|fail)
 refine WX.bQ (σ:=Nat) (fun j=>[(1,.one (.ptr 1 0)),(25,.one (.lsl 0 k 0 s.ps.length s.ps.length 0)),(26,.one (.int .i64 (s.ps.length:Nat))),(27,.one (.int .i64 (j:Nat)))]) (fun j=>[.late L,.cells (fh s.hd (.lsl 0 k 0 s.ps.length s.ps.length 0)) 36 false false]) (fun j=>j<=s.ps.length) (fun j=>s.ps.length-j) 0 (Nat.zero_le _) (fun j _=>(mE (objs:=by repeat' (first|exact aq.nil|refine aq.cons (bW (show 0<_ from Nat.le_of_ble_eq_true rfl)) ?_|refine kz ?_)))) (bq [0,1] (obj:=by(repeat' (first|exact af.nil|refine aN rfl rfl ?_|refine oz ?_));first|done|fail)) ?_;intro j hj ih
 by_cases hlt:j<s.ps.length
 ·obtain⟨a1,a2,a3⟩:=hall j hlt;have hok:=hs.pics j hlt;have hsf:=uD (ps:=s.ps) a1 a2 0
  obtain⟨p,hpe⟩:∃p,s.ps.getD j default=p:=⟨_,rfl⟩
  obtain⟨a,hae⟩:∃a,l.getD j default=a:=⟨_,rfl⟩
  have hae':l.getD (j:Int).toNat default=a:=hae;rw[hpe]at a3 hok hsf;rw[hae]at a3 hsf;have hgs:=hok.gs;rw[show(((s.hd.cols*s.hd.rows).toNat:Nat):Int)=s.hd.cols*s.hd.rows by omega]at hgs;have hid:=hok.id;have hfw:=hok.few;have hfi:=hok.first
  obtain⟨P,hP⟩:∃P,p.ph=P:=⟨_,rfl⟩
  have hph:=hok.ph;rw[hP]at hgs hid hfi hph hsf;have hsf:(m_ (l.getD (j:Int).toNat default)).map (·.self 0)=sf P (.lsl 0 a.k 0 p.gs.length p.gs.length 0):=by rw[hae'];exact hsf
  have hlt2:j<l.length:=by omega
  by_cases h0:j=0
  ·have hfi:=hfi h0;obtain⟨pid,pin,pdn,pqp⟩:=P;obtain rfl:pin=false:=hfi
   repeat' (first
    |(refine qz ?_;first
     |refine qw ?_
     |refine tZ ?_
     |refine nC (zs:=sf ⟨0,false,false,0⟩ .nils) (hz:=rZ) ?_
     |refine kD (enc:=m_) ?_ hl hlt2 (hc':=hsf)
     |refine t_ (cs:=wY P) ?_ (hle:=by decide) (hc:=by exact rfl)
     |refine cl ?_ (hi:=by exact lL hph rfl)
     |refine lI ?_ (hle:=by rw[eo])
     |refine cl ?_ (hi:=by exact wz (i:=0) a3 rfl hph hgs (by omega) (by omega) rfl rfl))
    |refine zz ?_|refine zx (fun _=>?_) (fun _=>?_)|fail)
   exact ih (j+1) _ _ _ (bq [0,1] (obj:=by(repeat' (first|exact af.nil|refine aN rfl rfl ?_|refine oz ?_));first|done|fail)) (by omega) (by omega)
  ·repeat' (first
    |(refine qz ?_;first
     |refine qw ?_
     |refine tZ ?_
     |refine nC (zs:=sf ⟨0,false,false,0⟩ .nils) (hz:=rZ) ?_
     |refine kD (enc:=m_) ?_ hl hlt2 (hc':=hsf)
     |refine t_ (cs:=wY P) ?_ (hle:=by decide) (hc:=by exact rfl)
     |refine cl ?_ (hi:=by exact lL hph rfl)
     |refine lI ?_ (hle:=by rw[eo])
     |refine cl ?_ (hi:=by exact wz (i:=0) a3 rfl hph hgs (by omega) (by omega) rfl rfl))
    |refine zz ?_|refine zx (fun _=>?_) (fun _=>?_)|fail)
   exact ih (j+1) _ _ _ (bq [0,1] (obj:=by(repeat' (first|exact af.nil|refine aN rfl rfl ?_|refine oz ?_));first|done|fail)) (by omega) (by omega)
 ·repeat' (first
   |(refine qz ?_;first
    |refine qw ?_)
   |refine zz ?_|refine zx (fun _=>?_) (fun _=>?_)|fail)
  show aE _ _ _ _ _ _ _ _;refine kV [0] ?_;rfl
theorem FX{s:vR}(hs:wh s){L:List (List XC)}{k n i:Nat}(hp:r6 L k s.ps)(hn:s.ps.length=n){HS:ah}(hi:HS[i]? = some (.late L))(hbd:Nat.blt HS.length Mem.bound=true) :
 aA.Sound prog ⟨30,[.agg (fh s.hd (.lsl i k 0 n n 0))],HS,.one (.int .i64 0),HS,[]⟩:=
 fV [i] (Cl hs hp hn) (by simp) (.flat hi .nil) (.flat .nil) (.cons (rQ (show 0<_ from Nat.le_of_ble_eq_true rfl)) .nil) (.cons (oD rfl) .nil) trivial rfl hbd rfl
end Go.Proofs.YthdciapjllppjaaGreat
namespace Go.Xm
variable [av]
variable {P:Program} {ops:Array Oper} {nt nI:Nat} {al:aL} {hs:ah} {o:Oper} {l:List Oper} {L:List aA} {K:List Ab->aL->ah->Prop} {d:Nat}
theorem CS(c:XC)(n:Nat):eg [c] n=List.replicate n c:=by
 apply List.ext_getElem?;intro i;unfold eg;rw[List.getElem?_map,List.getElem?_replicate]
 by_cases h:i<n
 ·rw[List.getElem?_range h,if_pos h];simp[Nat.mod_one]
 ·rw[List.getElem?_eq_none (by simpa using h),if_neg h];rfl
theorem Td{t e:TypeId}{a b:Operand}{c:XC}{kl kc:IntKind}{x y:Int}{n:Nat}{N:Nat}{hs':ah}(hk:SK P ops nt L l ((d,.one (.slice N 0 n (.exact n)))::al) hs' fun bs=>K (⟨true,.none,[N]⟩::bs))(hx:x=(n:Nat))(hy:y=(n:Nat))(ho:o.op = .makeSlice t a b:=by exact rfl)(hu:aG P t (.slice e):=by infer_instance)(hz:aI P e [c]:=by infer_instance)(hI:TI P e 1:=by infer_instance)(wn:Wn ops nt al o d:=by exact⟨rfl,rfl,rfl⟩)(ha:ag (rg al) a = .one (.int kl x):=by exact rfl)(hb:ag (rg al) b = .one (.int kc y):=by exact rfl)(hn:n<=2000000000:=by first|omega|exact Nat.le_of_ble_eq_true rfl)(hN:hs.length=N:=by exact n2)(hbd:Nat.blt N Mem.bound=true:=by exact rfl)(hh:hs++[.cells (List.replicate n c) e false false]=hs':=by exact n3):SK P ops nt L (o::l) al hs K:=by
 subst hN hh hx hy;refine SK.lift wn.e wn.l (fun _=>?_) hk;intro m hm;obtain⟨m',h1,h2,h3⟩:=hm.push (.cells (List.replicate n c) e false false) (by simpa [Nat.blt_eq]using hbd);refine⟨m',?_,h2,h3⟩;unfold iL;rw[wn.w];refine bT (by rw[ho];rfl) (by rw[ho];rfl) (by rw[ho];rfl) ?_;rw[ho];obtain⟨ti,hti,hs1,hby⟩:=hI.get
 have hbb:(ti.bytes:Int)*(n:Nat)<=281474976710656:=by
  have:(ti.bytes:Int)*(n:Nat)<=65536*(n:Nat):=Int.mul_le_mul_of_nonneg_right (by omega) (by omega);omega
 simp only[bU,gH,c9,hu.out,ha,hb,hti,hz.out,hs1,Int.toNat_natCast,Nat.mul_one,CS,h1,hm.n];rw[if_pos ⟨by omega,by omega,by omega,hbb,by simp⟩]
end Go.Xm
namespace Go.Proofs.YthdciapjllppjaaGreat
open Go.Xm
variable [av]
def bl(l:List Bool):List XC:=l.map .bool
theorem Ho(l:List Bool):(bl l).length=l.length:=List.length_map ..
theorem KX(l:List Bool):(bl l).all XC.shut=true:=by
 unfold bl;rw[List.all_map];exact List.all_eq_true.2 fun b _=>rfl
instance RX (l:List Bool) (e:TypeId) (a b:Bool):b9 (.cells (bl l) e a b):=gq (KX l)
theorem NL(n:Nat)(b:Bool):bl (List.replicate n b)=List.replicate n (.bool b):=by unfold bl;rw[List.map_replicate]
theorem Hp(l:List Bool)(i:Nat)(b:Bool):(bl l).set i (.bool b)=bl (l.set i b):=by unfold bl;rw[List.map_set]
theorem Qh{l:List Bool}{i:Nat}(hi:i<l.length):(bl l)[i]? = some (.bool (l.getD i false)):=by
 unfold bl;rw[List.getElem?_map,List.getElem?_eq_getElem hi,List.getD_eq_getElem?_getD,List.getElem?_eq_getElem hi];rfl
abbrev oY(c r:Int)(x:XC):List XC:=[.int .i64 c,.int .i64 r,x]
def mS(b:Bool)(n k:Nat):List Bool:=List.replicate k b++List.replicate (n-k) false
theorem E1(b:Bool){n k:Nat}(h:k<=n):(mS b n k).length=n:=by simp[mS];omega
theorem E2(b:Bool){n k:Nat}(h:k<n):(mS b n k).set k b=mS b n (k+1):=by
 unfold mS;rw[List.set_append_right _ _ (by simp),List.length_replicate,Nat.sub_self,show n-k=(n-(k+1))+1 by omega,List.replicate_succ,List.set_cons_zero,List.replicate_succ',List.append_assoc];rfl
theorem E0(b:Bool)(n:Nat):mS b n n=List.replicate n b:=by simp[mS]
theorem HH{c r:Int}(hc:1<=c/\c<=8)(hr:1<=r/\r<=8)(b:Bool){n:Nat}(hn:c*r=n)(hn2:1<=n/\n<=64) :
 bm prog 39 [.one (.int .i64 c),.one (.int .i64 r),.one (.bool b)] [] (.agg (oY c r (.slice 0 0 n (.exact n)))) [.cells (bl (List.replicate n b)) 4 false false]:=by
 have h1:min (max c 0) 8=c:=by omega
 have h2:min (max r 0) 8=r:=by omega
 refine cO Tryz.func39 ?_
 repeat' (first
  |(refine qz ?_;first
   |refine Td (n:=n) ?_ hn hn)
  |refine zz ?_|refine zx (fun _=>?_) (fun _=>?_)|fail)
 refine WX.bQ (σ:=Nat) (fun k=>[(2,.one (.bool b)),(6,.one (.ptr 1 0)),(7,.one (.ptr 2 0)),(24,.one (.int .i64 (n:Nat))),(25,.one (.int .i64 (k:Nat)))]) (fun k=>[.cells (bl (mS b n k)) 4 false false,.cells (oY 0 0 .nils) 75 false false,.cells (oY c r (.slice 0 0 n (.exact n))) 75 false false]) (fun k=>k<=n) (fun k=>n-k) 0 (Nat.zero_le _) (fun k _=>stM) (bq [1,0,2] (obj:=by(repeat' (first|exact af.nil|refine af.flat (by rw[show bl (mS b n 0)=List.replicate n (.bool false)from(by unfold mS;rw[List.replicate_zero,List.nil_append];exact NL _ _)];rfl) ?_|refine oz ?_));first|done|fail)) ?_;intro k hk ih;have hl:=E1 b hk
 by_cases hlt:k<n
 ·have e1:=E2 b hlt;have e2:(bl (mS b n k)).set k (.bool b)=bl (mS b n (k+1)):=by rw[Hp,e1]
  repeat' (first
   |(refine qz ?_;first
    |refine st (c := .bool b) ?_ (hle:=by rw[Ho,hl];exact hlt) (hv:=e2))
   |refine zz ?_|refine zx (fun _=>?_) (fun _=>?_)|fail)
  exact ih (k+1) _ _ _ (bq [0,1,2]) (by omega) (by omega)
 ·obtain rfl:k=n:=by omega
  rw[E0]
  repeat' (first|refine zz ?_|refine zx (fun _=>?_) (fun _=>?_)|fail)
  show aE _ _ _ _ _ _ _ _;refine kV [0] ?_ (hr:=f4.one rfl (.cell rfl rfl (cy rfl) .nil)) (hok:=(fun x hx=>by
   simp only[List.mem_cons,List.not_mem_nil,or_false]at hx
   rcases hx with rfl|rfl|rfl<;>first|trivial|exact Nat.zero_lt_one))
  rfl
theorem Dr{c r:Int}{x:XC}{n:Nat}(h:x.ok n):(XV.agg (oY c r x)).br n:=fun y hy=>by
 simp only[List.mem_cons,List.not_mem_nil,or_false]at hy
 rcases hy with rfl|rfl|rfl
 ·trivial
 ·trivial
 ·exact h
theorem Ds{c r:Int}(hc:1<=c/\c<=8)(hr:1<=r/\r<=8){b:Bool}{n:Nat}(hn:c*r=n)(hn2:1<=n/\n<=64){l:List Bool}(hl:List.replicate n b=l){HS:ah}{N:Nat}(hN:HS.length=N){HS':ah}(hh:HS++[.cells (bl l) 4 false false]=HS')(hbd:Nat.blt HS'.length Mem.bound=true) :
 aA.Sound prog ⟨39,[.one (.int .i64 c),.one (.int .i64 r),.one (.bool b)],HS,.agg (oY c r (.slice N 0 n (.exact n))),HS',[]⟩:=by
 subst hN hl;exact bp [] [] 1 (HH hc hr b hn hn2) (by simp) .nil .nil (.flat .nil) rfl (.flat (.flat (.flat .nil))) (.flat (.flat (.flat .nil))) (Dr (show 0<1 by omega)) rfl (.flat .nil) rfl rfl hh hbd (.inl rfl)
theorem HI{c r:Int}{n:Nat}{l:List Bool}(hl:l.length=n)(mb:Nat)(hm:mb<n)(hn:n<=64)(b:Bool) :
 bm prog 40 [.agg (oY c r (.slice 0 0 n (.exact n))),.one (.int .i64 (mb:Nat)),.one (.bool b)] [.cells (bl l) 4 false false] (.tup []) [.cells (bl (l.set mb b)) 4 false false]:=by
 refine cO Tryz.func40 ?_
 repeat' (first
  |(refine qz ?_;first
   |refine st (c := .bool b) ?_ (hle:=by rw[Ho,hl];exact hm) (hv:=Hp l mb b))
  |refine zz ?_|refine zx (fun _=>?_) (fun _=>?_)|fail)
 show aE _ _ _ _ _ _ _ _;refine kV [0] ?_;rfl
theorem K6{c r:Int}{n:Nat}{l:List Bool}(hl:l.length=n){z:Int}{mb:Nat}(hz:z=(mb:Nat))(hm:mb<n)(hn:n<=64){b:Bool}{l':List Bool}(hl':l.set mb b=l'){HS:ah}{i:Nat}(hi:HS[i]? = some (.cells (bl l) 4 false false)){HS':ah}(hh:HS.set i (.cells (bl l') 4 false false)=HS')(hbd:Nat.blt HS'.length Mem.bound=true) :
 aA.Sound prog ⟨40,[.agg (oY c r (.slice i 0 n (.exact n))),.one (.int .i64 z),.one (.bool b)],HS,.tup [],HS',[i]⟩:=by
 subst hz hl';exact bp [i] [i] 0 (HI hl mb hm hn b) (by simp) (.flat hi .nil) (.flat .nil) (.flat .nil) rfl (.cons (Dr (show 0<1 by omega)) (.flat (.flat .nil))) (.cons rfl (.flat (.flat .nil))) (by simp[XV.br]) rfl (.flat .nil) rfl rfl (by simp only[bC,List.append_nil];exact hh) hbd (.inl rfl)
def sF(l:List Bool):Nat->Int
 | 0=>0
 | k+1=>if l.getD k false=true then sF l k+1 else sF l k
theorem zr(l:List Bool):∀k,0<=sF l k/\sF l k<=k
 | 0=>by unfold sF;omega
 | k+1=>by
   have:=zr l k;rw[sF];split<;>omega
theorem BK{c r:Int}{L:List (List XC)}{x:XC}{l:List Bool}(hx:da L 0 x (bl l) l.length)(hn:l.length<=64) :
 bm prog 37 [.agg (oY c r x)] [.late L] (.one (.int .i64 (sF l l.length))) [.late L]:=by
 have hok:x.ok 1:=hx.ok (Nat.lt_succ_self 0);refine cO Tryz.func37 ?_
 repeat' (first
  |(refine qz ?_;first
   |refine lX ?_)
  |refine zz ?_|refine zx (fun _=>?_) (fun _=>?_)|fail)
 refine WX.bQ (σ:=Nat) (fun k=>[(7,.one x),(8,.one (.int .i64 (l.length:Nat))),(3,.one (.int .i64 (sF l k))),(9,.one (.int .i64 (k:Nat)))]) (fun k=>[.late L]) (fun k=>k<=l.length) (fun k=>l.length-k) 0 (Nat.zero_le _) (fun k _=>stM) (bq [0] (reg:=by(repeat' (first|exact ae.nil|refine ae.ia rfl (by assumption) rfl ?_|refine rz ?_|refine ae.sl rfl (by assumption) rfl ?_));first|done|fail)) ?_;intro k hk ih;have hr:=zr l k
 by_cases hlt:k<l.length
 ·have hat:=Qh hlt;have e1:sF l (k+1)=if l.getD k false=true then sF l k+1 else sF l k:=rfl
  obtain⟨b,hb⟩:∃b,l.getD k false=b:=⟨_,rfl⟩
  rw[hb]at hat e1
  cases b with
  | true=>
    rw[if_pos rfl]at e1
    repeat' (first
     |(refine qz ?_;first
      |refine lX ?_
      |refine rC (fun kk hkk=>?_)
      |refine yc (x := .bool true) ?_ (by assumption) hat rfl)
     |refine zz ?_|refine zx (fun _=>?_) (fun _=>?_)|fail)
    exact ih (k+1) _ _ _ (bq [0] (reg:=by(repeat' (first|exact ae.nil|refine ae.ia rfl (by assumption) rfl ?_|refine ae.flat (by rw[e1];rfl) ?_|refine rz ?_|refine ae.sl rfl (by assumption) rfl ?_));first|done|fail)) (by omega) (by omega)
  | false=>
    rw[if_neg (by decide)]at e1
    repeat' (first
     |(refine qz ?_;first
      |refine lX ?_
      |refine rC (fun kk hkk=>?_)
      |refine yc (x := .bool false) ?_ (by assumption) hat rfl)
     |refine zz ?_|refine zx (fun _=>?_) (fun _=>?_)|fail)
    exact ih (k+1) _ _ _ (bq [0] (reg:=by(repeat' (first|exact ae.nil|refine ae.ia rfl (by assumption) rfl ?_|refine ae.flat (by rw[e1];rfl) ?_|refine rz ?_|refine ae.sl rfl (by assumption) rfl ?_));first|done|fail)) (by omega) (by omega)
 ·obtain rfl:k=l.length:=by omega
  repeat' (first
   |(refine qz ?_;first
    |refine lX ?_)
   |refine zz ?_|refine zx (fun _=>?_) (fun _=>?_)|fail)
  show aE _ _ _ _ _ _ _ _;refine kV [0] ?_;rfl
theorem EP{c r:Int}{L:List (List XC)}{x:XC}{l:List Bool}{i:Nat}(hx:da L i x (bl l) l.length)(hn:l.length<=64){z:Int}(hz:sF l l.length=z){HS:ah}(hi:HS[i]? = some (.late L))(hbd:Nat.blt HS.length Mem.bound=true) :
 aA.Sound prog ⟨37,[.agg (oY c r x)],HS,.one (.int .i64 z),HS,[]⟩:=by
 subst hz;obtain⟨c0,h0,rfl⟩:=hx.back 0 (nth [i]) rfl;exact fV [i] (BK h0 hn) (by simp) (.flat hi .nil) (.flat .nil) (.cons (Dr (h0.ok (Nat.lt_succ_self 0))) .nil) (.cons rfl .nil) trivial rfl hbd rfl
end Go.Proofs.YthdciapjllppjaaGreat
