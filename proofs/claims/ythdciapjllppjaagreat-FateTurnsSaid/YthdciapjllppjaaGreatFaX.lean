/-
  A part of the proof: Macro, Made, Made2, AtK, StrF, StrG, StrL, StrP, StrC, StrB, StrR, StrK, FtG.
-/
import Derived.Test.YthdciapjllppjaaGreatFaF
import Derived.Test.YthdciapjllppjaaGreatFaN
import Derived.Test.YthdciapjllppjaaGreatFaU
import Derived.Test.YthdciapjllppjaaGreatFaW
set_option maxRecDepth 10000
set_option maxHeartbeats 8000000
set_option linter.unusedVariables false
set_option linter.unusedSectionVars false
set_option linter.unusedSimpArgs false
open Go.Proofs.Tryz (prog)
namespace Go.Proofs.YthdciapjllppjaaGreat
open Go.Xm
variable [av]
theorem tN(m:Mb)(z:Int):(mC m).set 0 (.int .u8 z)=mC {m with kind:=z}:=rfl
theorem RV(m:Mb)(z:Int):(mC m).set 1 (.int .i64 z)=mC {m with qp:=z}:=rfl
theorem MI(m:Mb)(b:Bool):(mC m).set 6 (.bool b)=mC {m with edge:=b}:=rfl
theorem Oi(m:Mb)(q:Nat->Int×Int):(mC m).take 2++vt q++(mC m).drop (2+4)=mC {m with v:=q}:=rfl
theorem MJ(m:Mb)(j:Nat)(z:Int):(mC m).set (7+j) (.int .i64 z)=mC {m with lev:=gX m.lev j z}:=by
 unfold mC;rw[Nat.add_comm];simp only[List.set_cons_succ];rw[vR]
theorem tO(m:Mb)(k i:Nat)(z:Int):(mC m).set (7+k*64+i) (.int .i64 z)=mC {m with lev:=gX m.lev (k*64+i) z}:=by
 rw[Nat.add_assoc];exact MJ m _ z
theorem gU(m:Mb):(mC m)[0]? = some (.int .u8 m.kind):=rfl
theorem Bn{x:Int}(h:0<=x/\x<4):([.int .i64 (-2),.int .i64 (-1),.int .i64 1,.int .i64 2]:List XC)[x.toNat]? = some (.int .i64 (tX x)):=by
 have:x=0\/x=1\/x=2\/x=3:=by omega
 rcases this with rfl|rfl|rfl|rfl<;>rfl
theorem KG(s:Sm){k:Nat}(hk:k<6):(tV s)[12+k]? = some (.int .u64 (s.ic k)):=by
 match k,hk with
 | 0,_=>rfl
 | 1,_=>rfl
 | 2,_=>rfl
 | 3,_=>rfl
 | 4,_=>rfl
 | 5,_=>rfl
theorem JH(s:Sm)(al:Bool)(k:Nat){y:Int×(Nat->Int)}(hy:pA s k (jB s al k) 64=y):jB s al (k+1)=(y.1,if al=true then gX y.2 (k*64) (y.1/2^20%128)else y.2):=by
 subst hy;rfl
theorem JG(s:Sm)(k:Nat)(x:Int×(Nat->Int))(i:Nat){y:Int×(Nat->Int)}(hy:pA s k x i=y):pA s k x (i+1)=(wY y.1,if s.ic k/2^i%2=1 then(if s.great=true then gX (gX y.2 (k*64+i) (wY y.1/2^16%7-3)) (k*64+i) (wY y.1/2^16%1001-500)else gX y.2 (k*64+i) (wY y.1/2^16%7-3))else y.2):=by
 subst hy;rfl
abbrev LJ(K Q:Int):Mb:={zR with kind:=K,qp:=Q}
theorem ML{s : Sm}(hs:iP s)(inter:Bool){qp:Int}(hq:1<=qp/\qp<=31):bm prog 29 [.agg (tV s),.one (.bool inter),.one (.int .i64 qp)] [] (.agg (mC (oe s inter qp))) []:=by
 have hk:=hs.kind;have hst:=hs.step;have hkq:=AL s inter qp hs hq;refine cO Tryz.func29 ?_
 repeat' (first
  |(refine qz ?_;first
   |refine nH (zs:=mC zR) (hz:=o9) ?_
   |refine bS (zs:=mC zR) (hz:=o9) ?_
   |refine tq (cs:=mC (LJ (s.kind%5) qp)) ?_ (hs1:=by rw[aY]) (hs2:=by rw[aY]))
  |refine WX.CL 2 (σ:=Int) (fun K=>[(1,.one (.bool inter)),(2,.one (.int .i64 qp)),(3,.one (.ptr 0 0)),(6,.one (.ptr 1 0)),(7,.one (.ptr 2 0))]) (fun K=>[.cells (tV s) 99 false false,.cells (mC zR) 107 false false,.cells (mC (LJ K qp)) 107 false false]) (fun K=>lZ s inter=K) (fun s _=>mZ) ?_ ?_|refine zz ?_|refine zx (fun _=>?_) (fun _=>?_)|fail)
 ·intro _;cases inter
  ·repeat' (first
    |(refine qz ?_;first
     |refine st ?_ (hle:=by rw[aY];omega) (hv:=tN _ _))
    |refine zz ?_|refine zx (fun _=>?_) (fun _=>?_)|fail)
   (first|exact⟨lZ s false,_,rfl,(bq [0,1,2])⟩|exact⟨rfl,lZ s false,_,rfl,(bq [0,1,2])⟩)
  ·repeat' (first|refine zz ?_|refine zx (fun _=>?_) (fun _=>?_)|fail)
   (first|exact⟨lZ s true,_,rfl,(bq [0,1,2])⟩|exact⟨rfl,lZ s true,_,rfl,(bq [0,1,2])⟩)
 ·intro K hK
  have hkr:0<=K/\K<=4:=by
   rw[<-hK];unfold lZ;split<;>omega
  refine WX.CL 4 (σ:=Int×Int) (fun x=>[(1,.one (.bool inter)),(2,.one (.int .i64 qp)),(3,.one (.ptr 0 0)),(6,.one (.ptr 1 0)),(7,.one (.ptr 2 0))]) (fun x=>[.cells (tV s) 99 false false,.cells (mC zR) 107 false false,.cells (mC (LJ x.1 x.2)) 107 false false]) (fun x=>ei s inter qp=x) (fun s _=>mZ) ?_ ?_
  ·intro _;have hb:=Nw (s.step%4)
   by_cases h4:K=4
   ·by_cases hr:1<=qp+tX (s.step%4)/\qp+tX (s.step%4)<=31
    ·have e0:ei s inter qp=(4,qp+tX (s.step%4)):=by unfold ei;rw[hK,if_pos h4,if_pos hr]
     have hr1:=hr.1;have hr2:=hr.2
     repeat' (first
      |(refine qz ?_;first
       |refine ld (c := .int .u8 K) ?_ (hc:=gU _)
       |refine st (c := .int .u8 3) ?_ (hle:=by rw[aY];omega) (hv:=tN _ _)
       |refine st (c := .int .u8 4) ?_ (hle:=by rw[aY];omega) (hv:=tN _ _)
       |refine st (c := .int .i64 (qp+tX (s.step%4))) ?_ (hle:=by rw[aY];omega) (hv:=RV _ _)
       |refine cl ?_ (hi:=by exact vN rfl)
       |refine LI ?_ (hc:=Bn (by omega)))
      |refine zz ?_|refine zx (fun _=>?_) (fun _=>?_)|fail)
     (first|exact⟨(4,qp+tX (s.step%4)),_,e0,(bq [0,1,2])⟩|exact⟨rfl,(4,qp+tX (s.step%4)),_,e0,(bq [0,1,2])⟩)
    ·have e0:ei s inter qp=(3,qp):=by unfold ei;rw[hK,if_pos h4,if_neg hr]
     repeat' (first
      |(refine qz ?_;first
       |refine ld (c := .int .u8 K) ?_ (hc:=gU _)
       |refine st (c := .int .u8 3) ?_ (hle:=by rw[aY];omega) (hv:=tN _ _)
       |refine cl ?_ (hi:=by exact vN rfl)
       |refine LI ?_ (hc:=Bn (by omega)))
      |refine zz ?_|refine zx (fun _=>?_) (fun _=>?_)|fail)
     all_goals first|(exfalso;omega)|(first|exact⟨(3,qp),_,e0,(bq [0,1,2])⟩|exact⟨rfl,(3,qp),_,e0,(bq [0,1,2])⟩)
   ·have e0:ei s inter qp=(K,qp):=by unfold ei;rw[hK,if_neg h4]
    repeat' (first
     |(refine qz ?_;first
      |refine ld (c := .int .u8 K) ?_ (hc:=gU _))
     |refine zz ?_|refine zx (fun _=>?_) (fun _=>?_)|fail)
    (first|exact⟨(K,qp),_,e0,(bq [0,1,2])⟩|exact⟨rfl,(K,qp),_,e0,(bq [0,1,2])⟩)
  ·intro H hH;rw[hH]at hkq;obtain⟨k0,k4,q1,q31,-,-,-⟩:=hkq
   obtain⟨q,hwq⟩:∃q,tu s.wy=q:=⟨_,rfl⟩
   by_cases h0:H.1=0
   ·have eM:oe s inter qp=LJ H.1 H.2:=by
     unfold oe;rw[hH];have e1:pf H.1 s.wy=fun _=>(0,0):=by unfold pf;rw[if_neg (by omega),if_neg (by omega)]
     have e2:wO H.1=false:=decide_eq_false (by omega);rw[e1,e2,if_pos h0,if_neg (by decide)];rfl
    rw[eM]
    repeat' (first
     |(refine qz ?_;first
      |refine uN (cs:=Sl s.wy) ?_
      |refine cl ?_ (hi:=by exact Fb hs.wy hwq rfl)
      |refine nH (zs:=vt fun _=>(0,0)) (hz:=zeroV) ?_
      |refine tq (cs:=vt q) ?_ (hs1:=by rfl) (hs2:=by rfl)
      |refine ld (c := .int .u8 H.1) ?_ (hc:=gU _)
      |refine lg ?_ (hle:=by rw[aY])
      |refine tq (cs:=mC (LJ H.1 H.2)) ?_ (hs1:=by rw[aY]) (hs2:=by rw[aY]))
     |refine zz ?_|refine zx (fun _=>?_) (fun _=>?_)|fail)
    show aE _ _ _ _ _ _ _ _;refine kV [] ?_;rfl
   ·obtain ⟨m, hm⟩:∃m:Mb,(⟨H.1,H.2,pf H.1 s.wy,if wO H.1=true then s.edge else false,fun _=>0⟩:Mb)=m:=⟨_,rfl⟩
    repeat' (first
     |(refine qz ?_;first
      |refine uN (cs:=Sl s.wy) ?_
      |refine cl ?_ (hi:=by exact Fb hs.wy hwq rfl)
      |refine nH (zs:=vt fun _=>(0,0)) (hz:=zeroV) ?_
      |refine tq (cs:=vt q) ?_ (hs1:=by rfl) (hs2:=by rfl))
     |refine WX.CL 10 (σ:=Mb) (fun x=>[(3,.one (.ptr 0 0)),(6,.one (.ptr 1 0)),(7,.one (.ptr 2 0))]) (fun x=>[.cells (tV s) 99 false false,.cells (mC zR) 107 false false,.cells (mC x) 107 false false]) (fun x=>m=x) (fun s _=>mZ) ?_ ?_|refine zz ?_|refine zx (fun _=>?_) (fun _=>?_)|fail)
    ·intro _
     by_cases h1:H.1=1
     ·have e1:mC m=mC {LJ H.1 H.2 with v:=fun _=>q 0}:=by
       rw[<-hm,<-hwq];have e1:pf H.1 s.wy=fun _=>tu s.wy 0:=if_pos h1
       have e2:wO H.1=false:=decide_eq_false (by omega);rw[e1,e2,if_neg (by decide)];rfl
      repeat' (first
       |(refine qz ?_;first
        |refine ld (c := .int .u8 H.1) ?_ (hc:=gU _)
        |refine cl ?_ (hi:=by exact ON rfl)
        |refine TR (off:=2) (s:=4) ?_ (hs2:=by rw[aY];omega) (hv:=Oi (LJ H.1 H.2) (fun _=>q 0)))
       |refine zz ?_|refine zx (fun _=>?_) (fun _=>?_)|fail)
      first|exact⟨m,_,rfl,(bq [0,1,2] (obj:=by(repeat' (first|exact af.nil|refine af.flat (by rw[e1];rfl) ?_|refine oz ?_));first|done|fail))⟩|exact⟨rfl,m,_,rfl,(bq [0,1,2] (obj:=by(repeat' (first|exact af.nil|refine af.flat (by rw[e1];rfl) ?_|refine oz ?_));first|done|fail))⟩
     ·by_cases h2:H.1=2
      ·have e1:mC m=mC {LJ H.1 H.2 with v:=q}:=by
        rw[<-hm,<-hwq];have e1:pf H.1 s.wy=fun k=>if k<4 then tu s.wy k else(0,0):=by unfold pf;rw[if_neg h1,if_pos h2]
        have e2:wO H.1=false:=decide_eq_false (by omega);rw[e1,e2,if_neg (by decide)];rfl
       repeat' (first
        |(refine qz ?_;first
         |refine ld (c := .int .u8 H.1) ?_ (hc:=gU _)
         |refine lg ?_ (hle:=by rfl)
         |refine TR (cs:=vt q) (off:=2) (s:=4) ?_ (hs2:=by rw[aY];omega) (hv:=Oi (LJ H.1 H.2) q))
        |refine zz ?_|refine zx (fun _=>?_) (fun _=>?_)|fail)
       first|exact⟨m,_,rfl,(bq [0,1,2] (obj:=by(repeat' (first|exact af.nil|refine af.flat (by rw[e1];rfl) ?_|refine oz ?_));first|done|fail))⟩|exact⟨rfl,m,_,rfl,(bq [0,1,2] (obj:=by(repeat' (first|exact af.nil|refine af.flat (by rw[e1];rfl) ?_|refine oz ?_));first|done|fail))⟩
      ·have e1:mC m=mC {LJ H.1 H.2 with edge:=s.edge}:=by
        rw[<-hm];have e1:pf H.1 s.wy=fun _=>(0,0):=by unfold pf;rw[if_neg h1,if_neg h2]
        have e2:wO H.1=true:=decide_eq_true (by omega);rw[e1,e2,if_pos rfl];rfl
       repeat' (first
        |(refine qz ?_;first
         |refine ld (c := .int .u8 H.1) ?_ (hc:=gU _)
         |refine st (c := .bool s.edge) ?_ (hle:=by rw[aY];omega) (hv:=MI _ _))
        |refine zz ?_|refine zx (fun _=>?_) (fun _=>?_)|fail)
       first|exact⟨m,_,rfl,(bq [0,1,2] (obj:=by(repeat' (first|exact af.nil|refine af.flat (by rw[e1];rfl) ?_|refine oz ?_));first|done|fail))⟩|exact⟨rfl,m,_,rfl,(bq [0,1,2] (obj:=by(repeat' (first|exact af.nil|refine af.flat (by rw[e1];rfl) ?_|refine oz ?_));first|done|fail))⟩
    ·intro x hx;subst hx;have em0:mC m=mC {m with lev:=fun _=>0}:=by rw[<-hm]
     obtain⟨al,hal⟩:∃al,wO H.1=al:=⟨_,rfl⟩
     have hma:alone m=al:=by rw[<-hal,<-hm];rfl
     have eM:oe s inter qp = {m with lev:=(jB s al 6).2}:=by
      unfold oe;rw[hH,if_neg h0,<-hal,<-hm]
     rw[eM];have hsd:=hs.seed
     repeat' (first
      |(refine qz ?_;first
       |refine ld (c := .int .u32 s.seed) ?_)
      |refine zz ?_|refine zx (fun _=>?_) (fun _=>?_)|fail)
     refine WX.bN (σ:=Nat×Int×(Nat->Int)) (fun t=>[(3,.one (.ptr 0 0)),(6,.one (.ptr 1 0)),(7,.one (.ptr 2 0)),(10,.one (.int .u32 t.2.1)),(68,.one (.int .i64 (t.1:Nat)))]) (fun t=>[.cells (tV s) 99 false false,.cells (mC zR) 107 false false,.cells (mC {m with lev:=t.2.2}) 107 false false]) (fun t=>t.1<=6/\jB s al t.1=t.2/\0<=t.2.1/\t.2.1<4294967296) (fun t=>6-t.1) (0,s.seed,fun _=>0) ⟨Nat.zero_le _,rfl,hsd.1,hsd.2⟩ (fun s _=>mZ) (bq [0,1,2] (obj:=by(repeat' (first|exact af.nil|refine af.flat (by rw[em0];rfl) ?_|refine oz ?_));first|done|fail)) ?_;intro t ⟨ht6,hto,htn⟩ ih
     by_cases hlt:t.1<6
     ·have hkp:=hs.ic t.1 hlt
      repeat' (first|refine zz ?_|refine zx (fun _=>?_) (fun _=>?_)|fail)
      refine WX.bN (σ:=Nat×Int×(Nat->Int)) (fun u=>[(3,.one (.ptr 0 0)),(6,.one (.ptr 1 0)),(7,.one (.ptr 2 0)),(10,.one (.int .u32 u.2.1)),(11,.one (.int .i64 (t.1:Nat))),(68,.one (.int .i64 (t.1:Nat))),(71,.one (.int .i64 (u.1:Nat)))]) (fun u=>[.cells (tV s) 99 false false,.cells (mC zR) 107 false false,.cells (mC {m with lev:=u.2.2}) 107 false false]) (fun u=>u.1<=64/\pA s t.1 t.2 u.1=u.2/\0<=u.2.1/\u.2.1<4294967296) (fun u=>64-u.1) (0,t.2) ⟨Nat.zero_le _,rfl,htn⟩ (fun s _=>mZ) (bq [0,1,2]) ?_;intro u ⟨hu64,hui,hun⟩ ih2
      by_cases hlu:u.1<64
      ·have hn:=wrap32 (IntKind.u32.wrap (u.2.1*1664525)+1013904223)
       have hd:0<=IntKind.u32.wrap (IntKind.u32.wrap (u.2.1*1664525)+1013904223)/2^(16:Int).toNat/\IntKind.u32.wrap (IntKind.u32.wrap (u.2.1*1664525)+1013904223)/2^(16:Int).toNat<4294967296:=by
        show 0<=IntKind.u32.wrap (IntKind.u32.wrap (u.2.1*1664525)+1013904223)/2^16/\IntKind.u32.wrap (IntKind.u32.wrap (u.2.1*1664525)+1013904223)/2^16<4294967296;omega
       have hk2:=KG s hlt;have hnx:=JG s t.1 t.2 u.1 hui
       by_cases hbit:s.ic t.1/2^((u.1:Nat):Int).toNat%2^1=1
       ·have hbit':s.ic t.1/2^u.1%2=1:=hbit
        obtain⟨gr,hgr⟩:∃g,s.great=g:=⟨_,rfl⟩
        have hl:(tV s)[19]? = some (.bool gr):=by rw[<-hgr];rfl
        rw[if_pos hbit',hgr]at hnx;cases gr
        ·rw[if_neg (by decide)]at hnx
         repeat' (first
          |(refine qz ?_;first
           |refine Tk (k := .u32) ?_
           |refine SV (k := .u32) ?_
           |refine ld (hc:=hl) ?_
           |refine ld (hc:=hk2) ?_
           |refine an 1 ?_
           |refine st ?_ (hle:=by rw[aY];omega) (hv:=tO _ _ _ _))
          |refine zz ?_|refine zx (fun _=>?_) (fun _=>?_)|fail)
         exact ih2 (u.1+1,wY u.2.1,gX u.2.2 (t.1*64+u.1) (wY u.2.1/2^16%7-3)) _ _ _ (bq [0,1,2]) ⟨by show u.1+1<=64;omega,hnx,hn.1,hn.2⟩ (by show 64-(u.1+1)<64-u.1;omega)
        ·rw[if_pos rfl]at hnx
         repeat' (first
          |(refine qz ?_;first
           |refine Tk (k := .u32) ?_
           |refine SV (k := .u32) ?_
           |refine ld (hc:=hl) ?_
           |refine ld (hc:=hk2) ?_
           |refine an 1 ?_
           |refine st ?_ (hle:=by rw[aY];omega) (hv:=tO _ _ _ _))
          |refine zz ?_|refine zx (fun _=>?_) (fun _=>?_)|fail)
         exact ih2 (u.1+1,wY u.2.1,gX (gX u.2.2 (t.1*64+u.1) (wY u.2.1/2^16%7-3)) (t.1*64+u.1) (wY u.2.1/2^16%1001-500)) _ _ _ (bq [0,1,2]) ⟨by show u.1+1<=64;omega,hnx,hn.1,hn.2⟩ (by show 64-(u.1+1)<64-u.1;omega)
       ·have hbit':¬s.ic t.1/2^u.1%2=1:=hbit;rw[if_neg hbit']at hnx
        repeat' (first
         |(refine qz ?_;first
          |refine Tk (k := .u32) ?_
          |refine SV (k := .u32) ?_
          |refine ld (hc:=hk2) ?_
          |refine an 1 ?_
          |refine st ?_ (hle:=by rw[aY];omega) (hv:=tO _ _ _ _))
         |refine zz ?_|refine zx (fun _=>?_) (fun _=>?_)|fail)
        exact ih2 (u.1+1,wY u.2.1,u.2.2) _ _ _ (bq [0,1,2]) ⟨by show u.1+1<=64;omega,hnx,hn.1,hn.2⟩ (by show 64-(u.1+1)<64-u.1;omega)
      ·have e64:u.1=64:=by omega
       rw[e64,<-hto]at hui;have hox:=JH s al t.1 hui
       have hd:0<=u.2.1/2^(20:Int).toNat/\u.2.1/2^(20:Int).toNat<4294967296:=by
        show 0<=u.2.1/2^20/\u.2.1/2^20<4294967296;omega
       cases al
       ·rw[if_neg (by decide)]at hox
        repeat' (first
         |(refine qz ?_;first
          |refine lg ?_ (hle:=by rw[aY])
          |refine cl ?_ (hi:=by exact lT (m:={m with lev:=u.2.2}) (b:=false) hma rfl))
         |refine zz ?_|refine zx (fun _=>?_) (fun _=>?_)|fail)
        exact ih (t.1+1,u.2.1,u.2.2) _ _ _ (bq [0,1,2]) ⟨by show t.1+1<=6;omega,hox,hun⟩ (by show 6-(t.1+1)<6-t.1;omega)
       ·rw[if_pos rfl]at hox
        repeat' (first
         |(refine qz ?_;first
          |refine lg ?_ (hle:=by rw[aY])
          |refine cl ?_ (hi:=by exact lT (m:={m with lev:=u.2.2}) (b:=true) hma rfl)
          |refine st ?_ (hle:=by rw[aY];omega) (hv:=tO _ _ 0 _))
         |refine zz ?_|refine zx (fun _=>?_) (fun _=>?_)|fail)
        exact ih (t.1+1,u.2.1,gX u.2.2 (t.1*64) (u.2.1/2^20%128)) _ _ _ (bq [0,1,2]) ⟨by show t.1+1<=6;omega,hox,hun⟩ (by show 6-(t.1+1)<6-t.1;omega)
     ·have e6:t.1=6:=by omega
      rw[e6]at hto;rw[hto]
      repeat' (first
       |(refine qz ?_;first
        |refine lg ?_ (hle:=by rw[aY])
        |refine tq ?_ (hs1:=by rw[aY]) (hs2:=by rw[aY]))
       |refine zz ?_|refine zx (fun _=>?_) (fun _=>?_)|fail)
      show aE _ _ _ _ _ _ _ _;refine kV [] ?_;rfl
theorem Pr{s:Sm}(hs:iP s){inter:Bool}{qp:Int}(hq:1<=qp/\qp<=31){m:Mb}(hm:oe s inter qp=m){HS:ah}(hb:Nat.blt HS.length Mem.bound=true):aA.Sound prog ⟨29,[.agg (tV s),.one (.bool inter),.one (.int .i64 qp)],HS,.agg (mC m),HS,[]⟩:=by
 subst hm;exact ay (ML hs inter hq) rfl (jQ _) hb
abbrev Tt:Sm:=⟨0,0,⟨fun _=>0,fun _=>0,false⟩,false,fun _=>0,0,false⟩
instance TM:Inhabited Sm:=⟨Tt⟩
theorem I1(g:Hd)(z:Int):(ij g).set 0 (.int .i64 z)=ij {g with cols:=z}:=rfl
theorem QU:aK prog 99 (tV Tt):=by
 show aK prog 99 [.int .u8 0,.int .u8 0,.int .i8 0,.int .i8 0,.int .i8 0,.int .i8 0,.int .i8 0,.int .i8 0,.int .i8 0,.int .i8 0,.bool false,.bool false,.int .u64 0,.int .u64 0,.int .u64 0,.int .u64 0,.int .u64 0,.int .u64 0,.int .u32 0,.bool false]
 infer_instance
abbrev nw(K:Nat):ah:=[fc (K+1) (K+5) (K+9),aW (K+2) (K+3) (K+4) cM,cV cM,cY cM,cW cM,aW (K+6) (K+7) (K+8) cZ,cV cZ,cY cZ,cW cZ,aW (K+10) (K+11) (K+12) cP,cV cP,cY cP,cW cP]
abbrev B0(K:Nat)(r:List Nat):List Nat:=K::(K+1)::(K+2)::(K+3)::(K+4)::(K+5)::(K+6)::(K+7)::(K+8)::(K+9)::(K+10)::(K+11)::(K+12)::r
theorem JN(K:Nat)(r:List Nat):∀j,j<13->nth (B0 K r) j=K+j:=fun j hj=>by
 match j,hj with
 | 0,_=>rfl
 | 1,_=>rfl
 | 2,_=>rfl
 | 3,_=>rfl
 | 4,_=>rfl
 | 5,_=>rfl
 | 6,_=>rfl
 | 7,_=>rfl
 | 8,_=>rfl
 | 9,_=>rfl
 | 10,_=>rfl
 | 11,_=>rfl
 | 12,_=>rfl
theorem MB{HS:ah}{K:Nat}(hS:(HS.drop K).take 13=nw K){τ : Nat->Nat}(h:∀j,j<13 -> τ j=K+j){ls:List Nat}{l:ah}(hl:af τ HS ls l):af τ HS (B0 K ls) (kW++l):=by
 have g:∀j,j<13->HS[K+j]? = (nw K)[j]?:=fun j hj=>by rw[<-hS,List.getElem?_take_of_lt hj,List.getElem?_drop]
 have g0:HS[K]? = some (fc (K+1) (K+5) (K+9)):=g 0 (by decide);have h1:=h 1 (by decide);have h2:=h 2 (by decide);have h3:=h 3 (by decide);have h4:=h 4 (by decide);have h5:=h 5 (by decide);have h6:=h 6 (by decide);have h7:=h 7 (by decide);have h8:=h 8 (by decide);have h9:=h 9 (by decide);have h10:=h 10 (by decide);have h11:=h 11 (by decide);have h12:=h 12 (by decide);refine .cons ?_ (.cons ?_ (.flat (g 2 (by decide)) (.flat (g 3 (by decide)) (.flat (g 4 (by decide)) (.cons ?_ (.flat (g 6 (by decide)) (.flat (g 7 (by decide)) (.flat (g 8 (by decide)) (.cons ?_ (.flat (g 10 (by decide)) (.flat (g 11 (by decide)) (.flat (g 12 (by decide)) hl))))))))))))
 ·rw[g0];simp only[aj.aC,List.map_cons,List.map_nil,XC.aC,h1,h5,h9]
 ·rw[g 1 (by decide)];simp only[aj.aC,List.map_cons,List.map_nil,XC.aC,h2,h3,h4];rfl
 ·rw[g 5 (by decide)];simp only[aj.aC,List.map_cons,List.map_nil,XC.aC,h6,h7,h8];rfl
 ·rw[g 9 (by decide)];simp only[aj.aC,List.map_cons,List.map_nil,XC.aC,h10,h11,h12];rfl
theorem Es{K:Nat}{τ : Nat->Nat}(h:∀j,j<13 -> τ j=K+j){l l':ah}(hl:d_ τ l l'):d_ τ (kW++l) (nw K++l'):=by
 have h1:=h 1 (by decide);have h2:=h 2 (by decide);have h3:=h 3 (by decide);have h4:=h 4 (by decide);have h5:=h 5 (by decide);have h6:=h 6 (by decide);have h7:=h 7 (by decide);have h8:=h 8 (by decide);have h9:=h 9 (by decide);have h10:=h 10 (by decide);have h11:=h 11 (by decide);have h12:=h 12 (by decide);refine .cons ?_ (.cons ?_ (.flat (.flat (.flat (.cons ?_ (.flat (.flat (.flat (.cons ?_ (.flat (.flat (.flat hl))))))))))))
 ·simp only[aj.aC,List.map_cons,List.map_nil,XC.aC,h1,h5,h9]
 ·simp only[aj.aC,List.map_cons,List.map_nil,XC.aC,h2,h3,h4]
 ·simp only[aj.aC,List.map_cons,List.map_nil,XC.aC,h6,h7,h8]
 ·simp only[aj.aC,List.map_cons,List.map_nil,XC.aC,h10,h11,h12]
theorem Je{HS:ah}{K i:Nat}(hS:(HS.drop K).take 13=nw K){ob:aj}(hi:HS[i]? = some ob){os:ah}:bD HS (B0 K [i]) (nw K++ob::os)=HS++os:=by
 have g:∀j,j<13->HS[K+j]? = (nw K)[j]?:=fun j hj=>by rw[<-hS,List.getElem?_take_of_lt hj,List.getElem?_drop]
 have g0:HS[K]? = some (fc (K+1) (K+5) (K+9)):=g 0 (by decide);simp only[bD,nw,List.cons_append,List.nil_append];rw[aB g0,aB (g 1 (by decide)),aB (g 2 (by decide)),aB (g 3 (by decide)),aB (g 4 (by decide)),aB (g 5 (by decide)),aB (g 6 (by decide)),aB (g 7 (by decide)),aB (g 8 (by decide)),aB (g 9 (by decide)),aB (g 10 (by decide)),aB (g 11 (by decide)),aB (g 12 (by decide)),aB hi]
theorem ES:∀(h1 l l':ah),fX h1 h1=true->fX l l'=true->fX (h1++l) (h1++l')=true
 | [],l,l',_,h=>h
 | o::h1,l,l',h,h2=>by
   simp only[fX,Bool.and_eq_true,List.cons_append]at h ⊢;exact⟨h.1,ES h1 l l' h.2 h2⟩
theorem Jd{f:FuncId}{args0 args:List XV}{v v':XV}{news news':ah}{ob:aj}[cf ob](n:Nat)(hn:news.length=n)(hc:bm prog f args0 (kW++[ob]) v (kW++ob::news)){HS:ah}{K i:Nat}(hS:(HS.drop K).take 13=nw K)(hi:HS[i]? = some ob)(hd:(B0 K [i]).Nodup)(ha:gQ 14 args0)(e1:e9 (nth (B0 K [i])) args0 args)(hv:v.bt (14+n))(e2:v.aC (nth (B0 K [i]++List.range' HS.length n))=v')
 (hnk:ak (14+n) news) (hr:d_ (nth (B0 K [i]++List.range' HS.length n)) news news') (hro:fX [] news=true) {HS':ah}(hh:HS++news'=HS') (hbd:Nat.blt HS'.length Mem.bound=true):aA.Sound prog ⟨f,args,HS,v',HS',B0 K [i]⟩:=by
 have e0:∀j,j<13->nth (B0 K [i]) j=K+j:=JN K [i];have e0':∀j,j<13->nth (B0 K [i]++List.range' HS.length n) j=K+j:=JN K (i::List.range' HS.length n);have hln:(kW++ob::news).length=14+n:=by rw[List.length_append];show 13+(news.length+1)=_;omega
 refine bh (os:=nw K++ob::news') (B0 K [i]) (B0 K [i]) n hc hd (MB hS e0 (.flat hi .nil)) (ui (l:=[ob]) (Nat.le_succ 13) (.flat .nil)) (by rw[hln];exact ui (l:=ob::news) (by omega) (.flat hnk)) (by rw[hln];rfl) ha e1 (by rw[hln];exact hv) e2 (Es e0' (.flat hr)) ?_ rfl (by rw[Je hS hi];exact hh) hbd (.inl rfl);refine ES _ _ _ rfl ?_;simp only[fX,Bool.and_eq_true];exact⟨by cases ob.live<;>simp,hro⟩
theorem PA{HS:ah}{N:Nat}(hN:HS.length=N){HS':ah}(hh:HS++nw N=HS')(hbd:Nat.blt HS'.length Mem.bound=true) :
 aA.Sound prog ⟨31,[],HS,.one (.ptr N 0),HS',[]⟩:=by
 subst hN;have e:List.range' HS.length 13=B0 HS.length []:=rfl;have h:=Es (K:=HS.length) (τ:=nth (B0 HS.length [])) (JN _ []) (l:=[]) (l':=[]) .nil;refine bh (os:=nw HS.length) [] [] 13 MQ (by simp) .nil .nil (ui (l:=[]) (Nat.le_refl _) .nil) rfl .nil .nil (by show 0<13;omega) rfl (by rw[List.nil_append,e];exact h) rfl rfl hh hbd (.inl rfl)
noncomputable def yZ(h:Hd)(p:Ph)(l:List Mb)(first:Int):Int ⊕ (List Int×List Int):=
 match oo l first (Ot h p) l.length with
 | .inl e => .inl e
 | .inr x=>if 30000<(gu (wr (x.B++[true])) (wr (x.B++[true])).length).1.length\/30000<(gu (wr (x.w++[true])) (wr (x.w++[true])).length).1.length then .inl 6 else .inr ((gu (wr (x.B++[true])) (wr (x.B++[true])).length).1,(gu (wr (x.w++[true])) (wr (x.w++[true])).length).1)
structure Gr where
 first:Int
 ms:List Mb
structure Pc where
 ph:Ph
 gs:List Gr
structure wC where
 hd:Hd
 ps:List Pc
instance:Inhabited Gr:=⟨⟨0,[]⟩⟩
instance:Inhabited Pc:=⟨⟨⟨0,false,false,0⟩,[]⟩⟩
structure Q3 where
 first:Int
 k:Nat
 n:Nat
structure Q7 where
 ph:Ph
 k:Nat
 n:Nat
instance:Inhabited Q3:=⟨⟨0,0,0⟩⟩
instance:Inhabited Q7:=⟨⟨⟨0,false,false,0⟩,0,0⟩⟩
def pe(a:Q3):List XC:=[.int .i64 a.first,.lsl 0 a.k 0 a.n a.n 0]
def nK(a:Q7):List XC:=[.int .i64 a.ph.id,.bool a.ph.inter,.bool a.ph.down,.int .i64 a.ph.qp,.lsl 0 a.k 0 a.n a.n 0]
instance:zT pe 2:=⟨fun _=>rfl,by decide⟩
instance:zT nK 5:=⟨fun _=>rfl,by decide⟩
def gv(b:Nat):List Gr->List Q3
 | []=>[]
 | g::l=>⟨g.first,b,g.ms.length⟩::gv (b+1) l
def fU(l:List Gr):List (List XC):=l.map fun g=>fl mC g.ms
def qO(b:Nat)(p:Pc):List (List XC):=fU p.gs++[fl pe (gv b p.gs)]
def fB(b:Nat):List Pc->List (List XC)
 | []=>[]
 | p::l=>qO b p++fB (b+p.gs.length+1) l
def fi(b:Nat):List Pc->List Q7
 | []=>[]
 | p::l=>⟨p.ph,b+p.gs.length,p.gs.length⟩::fi (b+p.gs.length+1) l
def wide:List Pc->Nat
 | []=>0
 | p::l=>p.gs.length+1+wide l
def Gc(ps:List Pc):List (List XC):=fB 0 ps++[fl nK (fi 0 ps)]
theorem uD:∀(l:List Gr) (b:Nat),(gv b l).length=l.length
 | [],b=>rfl
 | g::l,b=>by rw[gv,List.length_cons,uD l,List.length_cons]
theorem xt:∀(l:List Gr) (b:Nat) (g:Gr),gv b (l++[g])=gv b l++[⟨g.first,b+l.length,g.ms.length⟩]
 | [],b,g=>rfl
 | x::l,b,g=>by
   rw[List.cons_append,gv,xt l,gv,List.cons_append,List.length_cons,show b+1+l.length=b+(l.length+1) by omega]
theorem qP(b:Nat)(p:Pc):(qO b p).length=p.gs.length+1:=by simp[qO,fU]
theorem qN:∀(l:List Pc) (b:Nat),(fB b l).length=wide l
 | [],b=>rfl
 | p::l,b=>by rw[fB,List.length_append,qP,qN l,wide]
theorem xA:∀(l:List Pc) (b:Nat) (p:Pc),fB b (l++[p])=fB b l++qO (b+wide l) p
 | [],b,p=>by simp[fB,wide]
 | x::l,b,p=>by
   rw[List.cons_append,fB,xA l,fB,List.append_assoc,wide,show b+x.gs.length+1+wide l=b+(x.gs.length+1+wide l) by omega]
theorem qZ:∀(l:List Pc) (b:Nat),(fi b l).length=l.length
 | [],b=>rfl
 | g::l,b=>by rw[fi,List.length_cons,qZ l,List.length_cons]
theorem xJ:∀(l:List Pc) (b:Nat) (p:Pc),fi b (l++[p])=fi b l++[⟨p.ph,b+wide l+p.gs.length,p.gs.length⟩]
 | [],b,p=>by simp[fi,wide]
 | x::l,b,p=>by
   rw[List.cons_append,fi,xJ l,fi,List.cons_append,wide,show b+x.gs.length+1+wide l=b+(x.gs.length+1+wide l) by omega]
def xb(L:List (List XC))(k:Nat)(gs:List Gr):Prop:=
 ∃l:List Q3,L[k]? = some (fl pe l)/\l.length=gs.length/\∀j,j<gs.length->(l.getD j default).first=(gs.getD j default).first/\(l.getD j default).n=(gs.getD j default).ms.length/\L[(l.getD j default).k]? = some (fl mC (gs.getD j default).ms)
def po(L:List (List XC))(k:Nat)(ps:List Pc):Prop:=
 ∃l:List Q7,L[k]? = some (fl nK l)/\l.length=ps.length/\∀j,j<ps.length->(l.getD j default).ph=(ps.getD j default).ph/\(l.getD j default).n=(ps.getD j default).gs.length/\xb L (l.getD j default).k (ps.getD j default).gs
theorem Ej:∀(l:List Gr) (b j:Nat),j<l.length->(gv b l).getD j default=⟨(l.getD j default).first,b+j,(l.getD j default).ms.length⟩
 | [],b,j,h=>absurd h (Nat.not_lt_zero j)
 | g::l,b,0,h=>rfl
 | g::l,b,j+1,h=>by
   rw[gv,List.getD_cons_succ,Ej l (b+1) j (by simpa using h),List.getD_cons_succ,show b+1+j=b+(j+1) by omega]
theorem Jn{l:List Gr}{j:Nat}(h:j<l.length):(fU l)[j]? = some (fl mC (l.getD j default).ms):=by
 unfold fU;rw[List.getElem?_map,List.getElem?_eq_getElem h,List.getD_eq_getElem?_getD,List.getElem?_eq_getElem h];rfl
theorem O9{A B:List (List XC)}(p:Pc):xb (A++qO A.length p++B) (A.length+p.gs.length) p.gs:=by
 refine⟨gv A.length p.gs,?_,uD _ _,fun j hj=>?_⟩
 ·rw[List.append_assoc,List.getElem?_append_right (by omega),Nat.add_sub_cancel_left,List.getElem?_append_left (by rw[qP];omega)];unfold qO;rw[List.getElem?_append_right (by simp[fU]),show(fU p.gs).length=p.gs.length by simp[fU],Nat.sub_self];rfl
 ·rw[Ej _ _ _ hj];refine⟨rfl,rfl,?_⟩;show(A++qO A.length p++B)[A.length+j]? = _;rw[List.append_assoc,List.getElem?_append_right (by omega),Nat.add_sub_cancel_left,List.getElem?_append_left (by rw[qP];omega)];unfold qO;rw[List.getElem?_append_left (by simp[fU];exact hj)];exact Jn hj
theorem EE:∀(ps:List Pc) (A B:List (List XC)) (j:Nat),j<ps.length->((fi A.length ps).getD j default).ph=(ps.getD j default).ph/\((fi A.length ps).getD j default).n=(ps.getD j default).gs.length/\xb (A++fB A.length ps++B) ((fi A.length ps).getD j default).k (ps.getD j default).gs
 | [],A,B,j,h=>absurd h (Nat.not_lt_zero j)
 | p::l,A,B,0,h=>by
   refine⟨rfl,rfl,?_⟩;show xb (A++(qO A.length p++fB (A.length+p.gs.length+1) l)++B) (A.length+p.gs.length) p.gs;have:=O9 (A:=A) (B:=fB (A.length+p.gs.length+1) l++B) p;rwa [show A++(qO A.length p++fB (A.length+p.gs.length+1) l)++B=A++qO A.length p++(fB (A.length+p.gs.length+1) l++B) by simp only[List.append_assoc]]
 | p::l,A,B,j+1,h=>by
   have ih:=EE l (A++qO A.length p) B j (by simpa using h);rw[List.length_append,qP,<-Nat.add_assoc]at ih;rw[fi,List.getD_cons_succ,List.getD_cons_succ,fB];rwa [show A++(qO A.length p++fB (A.length+p.gs.length+1) l)++B=A++qO A.length p++fB (A.length+p.gs.length+1) l++B by simp only[List.append_assoc]]
theorem Jo(ps:List Pc):po (Gc ps) (wide ps) ps:=by
 refine⟨fi 0 ps,?_,qZ _ _,fun j hj=>?_⟩
 ·unfold Gc;rw[List.getElem?_append_right (by rw[qN];exact Nat.le_refl _),qN,Nat.sub_self];rfl
 ·exact EE ps [] [fl nK (fi 0 ps)] j hj
theorem Pq(m:Mb)(n:Nat):∀c∈mC m,c.f7 n=true:=by
 intro c hc;have h:=List.all_eq_true.1 (show(mC m).all XC.shut=true from nR.shut m) c hc;cases c<;>first|rfl|cases h|skip
 all_goals (simp[mC,ti,cQ]at hc)
theorem O5(ms:List Mb)(n:Nat):∀c∈fl mC ms,c.f7 n=true:=fun c hc=>by
 obtain⟨m,_,h⟩:=List.mem_flatMap.1 hc;exact Pq m n c h
theorem qG:∀(l:List Gr) (b n:Nat),b+l.length<=n->∀c∈fl pe (gv b l),c.f7 n=true
 | [],b,n,h=>fun c hc=>by cases hc
 | g :: l,b,n,h=>fun c hc=>by
   rw[gv]at hc
   rcases List.mem_append.1 (show c∈pe ⟨g.first,b,g.ms.length⟩++fl pe (gv (b+1) l)from hc)with hc|hc
   ·simp only[pe,List.mem_cons,List.not_mem_nil,or_false]at hc
    rcases hc with rfl|rfl
    ·rfl
    ·rw[List.length_cons]at h;simp only[XC.f7,Nat.blt_eq];omega
   ·exact qG l (b+1) n (by rw[List.length_cons]at h;omega) c hc
theorem A3:∀(l:List Pc) (b n:Nat),b+wide l<=n->∀c∈fl nK (fi b l),c.f7 n=true
 | [],b,n,h=>fun c hc=>by cases hc
 | p :: l,b,n,h=>fun c hc=>by
   rw[fi]at hc;rw[wide]at h
   rcases List.mem_append.1 (show c∈nK ⟨p.ph,b+p.gs.length,p.gs.length⟩++fl nK (fi (b+p.gs.length+1) l)from hc)with hc|hc
   ·simp only[nK,List.mem_cons,List.not_mem_nil,or_false]at hc
    rcases hc with rfl|rfl|rfl|rfl|rfl<;>first|rfl|(simp only[XC.f7,Nat.blt_eq];omega)
   ·exact A3 l (b+p.gs.length+1) n (by omega) c hc
structure tD where
 inter:Bool
 down:Bool
 qp:Int
 many:Int
instance:Inhabited tD:=⟨⟨false,false,0,0⟩⟩
def eP(p:tD):List XC:=[.bool p.inter,.bool p.down,.int .u8 p.qp,.int .u8 p.many]
instance:nR eP 4:=⟨fun _=>rfl,fun _=>rfl,by decide⟩
structure j8(p:tD):Prop where
 qp:0<=p.qp/\p.qp<=255
 many:0<=p.many/\p.many<=255
def TQ(n:Nat):Sm:=⟨((n%256:Nat):Int),0,⟨fun _=>0,fun _=>0,false⟩,false,fun _=>0,0,false⟩
def w5(l:List Sm)(n:Nat):Sm:=if l.length=0 then TQ n else l.getD (n%l.length) default
def CJ(l:List Sm)(inter:Bool)(qp:Int)(n:Nat):Mb:={oe (w5 l n) inter qp with edge:=(oe (w5 l n) inter qp).edge&&!(w5 l n).great}
def iv(l:List Sm)(inter:Bool)(qp:Int)(n0:Nat):Nat->List Mb×Int
 | 0=>([],qp)
 | i+1=>((iv l inter qp n0 i).1++[CJ l inter (iv l inter qp n0 i).2 (n0+i)],(CJ l inter (iv l inter qp n0 i).2 (n0+i)).qp)
def gL(l:List Sm)(inter:Bool)(qp:Int)(many all n0:Nat):Nat->List Gr×Nat
 | 0=>([],0)
 | j+1=>if(gL l inter qp many all n0 j).2<all then((gL l inter qp many all n0 j).1++[⟨((gL l inter qp many all n0 j).2:Nat),(iv l inter qp (n0+(gL l inter qp many all n0 j).2) (min many (all-(gL l inter qp many all n0 j).2))).1⟩],(gL l inter qp many all n0 j).2+min many (all-(gL l inter qp many all n0 j).2))else gL l inter qp many all n0 j
def A4(i:Nat)(p:tD):Bool:=p.inter&&decide (0<i)
def Gx(p:tD):Int:=1+p.qp%31
def J2(p:tD):Nat:=(1+p.many%5).toNat
def Gw(l:List Sm)(all i:Nat)(p:tD):Pc:=⟨⟨(i:Nat),A4 i p,A4 i p&&p.down,Gx p⟩,(gL l (A4 i p) (Gx p) (J2 p) all (i*all) all).1⟩
def Bp(l:List Sm)(all:Nat)(pics:List tD):Nat->List Pc
 | 0=>[]
 | i+1=>Bp l all pics i++[Gw l all i (pics.getD i default)]
def jt(h:Hd):Hd:={fe h with cols:=1+(fe h).cols%3,rows:=1+(fe h).rows%3}
def lu(pics:List tD):Nat:=if pics.length=0 then 1 else min pics.length 5
def tt(h:Hd)(pics:List tD)(l:List Sm):wC:=⟨jt h,Bp l ((jt h).cols*(jt h).rows).toNat pics (lu pics)⟩
def qk(inter:Bool)(qp:Int):Int->List Gr->Int->Prop
 | b,[],e=>b=e
 | b,g::l,e=>g.first=b/\1<=g.ms.length/\g.ms.length<=5/\nS inter qp g.ms/\qk inter qp (b+(g.ms.length:Nat)) l e
theorem xw{inter:Bool}{qp:Int}:∀{l:List Gr} {b e:Int} {g:Gr},qk inter qp b l e->g.first=e->1<=g.ms.length->g.ms.length<=5->nS inter qp g.ms->qk inter qp b (l++[g]) (e+(g.ms.length:Nat))
 | [],b,e,g,h,h1,h2,h3,h4=>by
   have h:b=e:=h;subst h;exact⟨h1,h2,h3,h4,rfl⟩
 | x::l,b,e,g,h,h1,h2,h3,h4=>⟨h.1,h.2.1,h.2.2.1,h.2.2.2.1,xw h.2.2.2.2 h1 h2 h3 h4⟩
structure Q8(all:Nat)(i:Nat)(p:Pc):Prop where
 id:p.ph.id=(i:Nat)
 ph:tg p.ph
 first:i=0->p.ph.inter=false
 gs:qk p.ph.inter p.ph.qp 0 p.gs (all:Nat)
 few:p.gs.length<=all
theorem Bj{l:List Sm}(hl:∀j,j<l.length->iP (l.getD j default))(n:Nat):iP (w5 l n):=by
 unfold w5;split
 ·refine⟨by show(0:Int)<=((n%256:Nat):Int)/\((n%256:Nat):Int)<=255;omega,by show(0:Int)<=0/\(0:Int)<=255;omega,⟨fun _ _=>by show(-128:Int)<=0/\(0:Int)<128;omega,fun _ _=>by show(-128:Int)<=0/\(0:Int)<128;omega⟩,fun _ _=>by show(0:Int)<=0/\(0:Int)<18446744073709551616;omega,by show(0:Int)<=0/\(0:Int)<4294967296;omega⟩
 ·rename_i h;exact hl _ (Nat.mod_lt _ (Nat.pos_of_ne_zero h))
theorem yB{m:Mb}{inter:Bool}{qp:Int}(h:dp m inter qp=0):dp {m with edge:=false} inter qp=0:=by
 unfold dp at h;split at h
 ·cases h
 ·rename_i h1;split at h
  ·cases h
  ·show(if 5<=m.kind\/(inter=false/\alone m=false)then(5:Int)else if false=true/\alone m=false then 4 else if m.kind=4/\(eG qp m.qp).2=false then 6 else if m.kind≠4/\m.qp≠qp then 6 else if fK m≠0 then fK m else uQ m)=0;rw[if_neg h1,if_neg (fun g=>Bool.noConfusion g.1)];exact h
theorem Pu{l:List Sm}(hl:∀j,j<l.length->iP (l.getD j default)){inter:Bool}{qp:Int}(hq:1<=qp/\qp<=31)(n:Nat):jc (CJ l inter qp n)/\dp (CJ l inter qp n) inter qp=0/\1<=(CJ l inter qp n).qp/\(CJ l inter qp n).qp<=31:=by
 obtain⟨h1,h2,h3,h4⟩:=Ps (inter:=inter) (Bj hl n) hq;refine⟨⟨h1.kind,h1.qp,h1.v,h1.lev⟩,?_,h3,h4⟩
 obtain⟨m,hm⟩:∃m,oe (w5 l n) inter qp=m:=⟨_,rfl⟩
 unfold CJ;rw[hm]at h2 ⊢
 cases hb : !(w5 l n).great with
 | true=>rw[Bool.and_true];exact h2
 | false=>
   rw[Bool.and_false];exact yB h2
theorem qH(l:List Sm)(inter:Bool)(qp:Int)(n0:Nat):∀k,(iv l inter qp n0 k).1.length=k
 | 0=>rfl
 | k+1=>by rw[iv,List.length_append,qH l inter qp n0 k];rfl
theorem yN{l:List Sm}(hl:∀j,j<l.length->iP (l.getD j default))(inter:Bool){qp:Int}(hq:1<=qp/\qp<=31)(n0:Nat):∀k,nS inter qp (iv l inter qp n0 k).1/\(1<=(iv l inter qp n0 k).2/\(iv l inter qp n0 k).2<=31)/\(iv l inter qp n0 k).2=if k=0 then qp else((iv l inter qp n0 k).1.getD (k-1) default).qp
 | 0=>⟨⟨fun _ h=>absurd h (Nat.not_lt_zero _),fun _ h=>absurd h (Nat.not_lt_zero _)⟩,hq,rfl⟩
 | k + 1=>by
   obtain⟨h1,h2,h3⟩:=yN hl inter hq n0 k;obtain⟨m1,m2,m3,m4⟩:=Pu hl (inter:=inter) h2 (n0+k);have hlen:=qH l inter qp n0 k
   have hge:∀j,j<k->((iv l inter qp n0 k).1++[CJ l inter (iv l inter qp n0 k).2 (n0+k)]).getD j default=(iv l inter qp n0 k).1.getD j default:=fun j hj=>by
    rw[List.getD_eq_getElem?_getD,List.getElem?_append_left (by omega),List.getD_eq_getElem?_getD]
   have hgk:((iv l inter qp n0 k).1++[CJ l inter (iv l inter qp n0 k).2 (n0+k)]).getD k default=CJ l inter (iv l inter qp n0 k).2 (n0+k):=by
    rw[List.getD_eq_getElem?_getD,List.getElem?_append_right (by omega),hlen,Nat.sub_self];rfl
   have hlen1:((iv l inter qp n0 k).1++[CJ l inter (iv l inter qp n0 k).2 (n0+k)]).length=k+1:=by rw[List.length_append,hlen];rfl
   refine⟨⟨fun j hj=>?_,fun j hj=>?_⟩,⟨m3,m4⟩,?_⟩
   ·rw[iv]at hj ⊢;rw[hlen1]at hj
    by_cases hjk:j<k
    ·rw[hge j hjk];exact h1.mok j (by omega)
    ·obtain rfl:j=k:=by omega
     rw[hgk];exact m1
   ·rw[iv]at hj ⊢;rw[hlen1]at hj
    by_cases hjk:j<k
    ·rw[hge j hjk];have:=h1.chk j (by omega);split
     ·rename_i e;rw[if_pos e]at this;exact this
     ·rename_i e;rw[if_neg e]at this;rw[hge (j-1) (by omega)];exact this
    ·obtain rfl:j=k:=by omega
     rw[hgk];rw[h3]at m2;split
     ·rename_i e;rw[if_pos e]at m2;rw[h3,if_pos e];exact m2
     ·rename_i e;rw[if_neg e]at m2;rw[hge (j-1) (by omega),h3,if_neg e];exact m2
   ·rw[if_neg (by omega),Nat.add_sub_cancel,iv];simp only[];rw[hgk]
theorem Cw{l:List Sm}(hl:∀j,j<l.length->iP (l.getD j default))(inter:Bool){qp:Int}(hq:1<=qp/\qp<=31){many:Nat}(hm:1<=many/\many<=5)(all n0:Nat):∀j,qk inter qp 0 (gL l inter qp many all n0 j).1 ((gL l inter qp many all n0 j).2:Nat)/\(gL l inter qp many all n0 j).2<=all/\(j<=all->j<=(gL l inter qp many all n0 j).2)/\(gL l inter qp many all n0 j).1.length<=(gL l inter qp many all n0 j).2
 | 0=>⟨rfl,Nat.zero_le _,fun _=>Nat.le_refl _,Nat.le_refl _⟩
 | j + 1=>by
   obtain⟨h1,h2,h3,h4⟩:=Cw hl inter hq hm all n0 j;rw[gL];split
   ·rename_i hlt;have hk:=yN hl inter hq (n0+(gL l inter qp many all n0 j).2) (min many (all-(gL l inter qp many all n0 j).2));have hn:=qH l inter qp (n0+(gL l inter qp many all n0 j).2) (min many (all-(gL l inter qp many all n0 j).2));refine⟨?_,by show _+min many _<=all;omega,fun _=>by show j+1<=_+min many _;omega,?_⟩
    ·have:=xw (g:=⟨((gL l inter qp many all n0 j).2:Nat),(iv l inter qp (n0+(gL l inter qp many all n0 j).2) (min many (all-(gL l inter qp many all n0 j).2))).1⟩) h1 rfl (by show 1<=(iv _ _ _ _ _).1.length;rw[hn];omega) (by show(iv _ _ _ _ _).1.length<=5;rw[hn];omega) hk.1;simp only[hn]at this;rw[show(((gL l inter qp many all n0 j).2+min many (all-(gL l inter qp many all n0 j).2):Nat):Int)=((gL l inter qp many all n0 j).2:Nat)+((min many (all-(gL l inter qp many all n0 j).2):Nat):Int) by omega];exact this
    ·show((gL l inter qp many all n0 j).1++[_]).length<=_+min many _;rw[List.length_append,List.length_singleton];omega
   ·exact⟨h1,h2,fun h=>by omega,h4⟩
theorem MU{l:List Sm}(hl:∀j,j<l.length->iP (l.getD j default))(all i:Nat)(hi:i<=60000){p:tD}(hp:j8 p):Q8 all i (Gw l all i p):=by
 have hq:1<=Gx p/\Gx p<=31:=by unfold Gx;omega
 have hm:1<=J2 p/\J2 p<=5:=by unfold J2;omega
 obtain⟨h1,h2,h3,h4⟩:=Cw hl (A4 i p) hq hm all (i*all) all;have he:(gL l (A4 i p) (Gx p) (J2 p) all (i*all) all).2=all:=by have:=h3 (Nat.le_refl _);omega
 rw[he]at h1 h4;refine⟨rfl,⟨by show(0:Int)<=(i:Nat)/\((i:Nat):Int)<=65535;omega,hq,fun h=>?_⟩,fun h=>?_,h1,h4⟩
 ·have h:(A4 i p&&p.down)=true:=h;simp only[Bool.and_eq_true]at h;exact h.1
 ·subst h;show A4 0 p=false;unfold A4;simp
theorem kE(l:List Sm)(all:Nat)(pics:List tD):∀i,(Bp l all pics i).length=i
 | 0=>rfl
 | i+1=>by rw[Bp,List.length_append,kE l all pics i];rfl
theorem zl(l:List Sm)(all:Nat)(pics:List tD):∀n i,i<n->(Bp l all pics n).getD i default=Gw l all i (pics.getD i default)
 | 0,i,h=>absurd h (Nat.not_lt_zero i)
 | n + 1,i,h=>by
   rw[Bp,List.getD_eq_getElem?_getD]
   by_cases hi:i<n
   ·rw[List.getElem?_append_left (by rw[kE];exact hi),<-List.getD_eq_getElem?_getD];exact zl l all pics n i hi
   ·obtain rfl:i=n:=by omega
    rw[List.getElem?_append_right (by rw[kE];exact Nat.le_refl _),kE,Nat.sub_self];rfl
structure xd(s:wC):Prop where
 hd:rR s.hd
 raw:∀i,i<64->(0<=s.hd.a i/\s.hd.a i<=255)/\(0<=s.hd.b i/\s.hd.b i<=255)
 cols:1<=s.hd.cols/\s.hd.cols<=3
 rows:1<=s.hd.rows/\s.hd.rows<=3
 many:1<=s.ps.length/\s.ps.length<=5
 pics:∀i,i<s.ps.length->Q8 (s.hd.cols*s.hd.rows).toNat i (s.ps.getD i default)
def kU(l:Nat->Int):Prop:=∀i,-1000<=l i/\l i<=1000
def Fs(T:nW):Prop:=∀key b,dz T key=some b->kU b.lv
structure mD(S:c6):Prop where
 a:Fs S.A
 b:Fs S.B
 c:Fs S.C
theorem uT:Fs []:=fun key b h=>by cases h
theorem uU{p q:Int}{T:nW}(h:Fs T){key:Int}{b:Kn}(hb:kU b.lv):Fs (sv p q T key b):=by
 unfold sv;split
 ·intro key' b' h';rw[si]at h';split at h'
  ·cases h';exact hb
  ·exact h key' b' h'
 ·exact h
theorem JL{S:c6}(h:mD S){mb k dx dy:Int}{b:Kn}(hb:CN S mb k dx dy=some b):kU b.lv:=by
 unfold CN bp cn at hb;split at hb
 ·cases hb
 ·unfold bO at hb;split at hb
  ·exact h.a _ _ hb
  ·split at hb
   ·exact h.b _ _ hb
   ·exact h.c _ _ hb
theorem JC:kU fun _=>0:=fun i=>⟨by show(-1000:Int)<=0;decide,by show(0:Int)<=1000;decide⟩
theorem II{b:Kn}(h:kU b.lv)(s:Nat):∀n,kU (em b s n)
 | 0=>JC
 | n+1=>rC (II h s n) (h _)
theorem AO{o:Option Kn}(h:∀b,o=some b->kU b.lv)(s:Nat)(q:Int):kU (ji o s q):=by
 unfold ji;split
 ·split
  ·exact II (h _ rfl) s 7
  ·exact JC
 ·exact JC
theorem IH{S:c6}(h:mD S)(mb k q:Int):kU (kF S mb k q):=by
 unfold kF Ah;split
 ·exact AO (fun b hb=>JL h hb) _ _
 ·split
  ·exact AO (fun b hb=>JL h hb) _ _
  ·exact JC
theorem AE{m:Mb}(hm:kU m.lev)(k:Nat):kU (cA m k):=fun i=>hm _
theorem FE{m:Mb}(hm:kU m.lev){S:c6}(h:mD S)(mb:Int)(k:Nat):∃r,nv m S mb k=some r:=by
 unfold nv;split
 ·split
  ·have h1:pz (cA m k) (kF S mb k m.qp)=some fun i=>cA m k i-kF S mb k m.qp i:=by
    unfold pz;rw[if_neg];intro⟨i,hi,hb⟩;have h1:=AE hm k i;have h2:=IH h mb k m.qp i;unfold lh at hb;omega
   rw[h1];exact⟨_,rfl⟩
  ·exact⟨_,rfl⟩
 ·exact⟨_,rfl⟩
theorem KX{S:c6}(h:mD S){mb k:Int}{b:Kn}(hb:kU b.lv):mD (eT S mb k b):=⟨uU h.a hb,uU h.b hb,uU h.c hb⟩
theorem z8{m:Mb}(hm:kU m.lev){mb:Int}{x0:rP}(h:mD x0.S):∀k,∃x,j_ m mb x0 k=some x/\mD x.S
 | 0=>⟨x0,rfl,h⟩
 | k + 1=>by
   obtain⟨x,hx,hS⟩:=z8 hm h k;obtain⟨r,hr⟩:=FE hm hS mb k;refine⟨gk m mb k x (Fy m x.S mb k r),?_,?_⟩
   ·rw[j_,hx,Option.bind_some,hr];rfl
   ·show mD (if alone m=true then eT x.S mb k ⟨cA m k,m.qp⟩else x.S);split
    ·exact KX hS (AE hm k)
    ·exact hS
theorem Jg{S:c6}(h:mD S)(m:Mb):mD (fA S m):=by
 unfold fA;split
 ·exact⟨h.a,h.b,h.c⟩
 ·exact h
theorem oC{S:c6}(h:mD S)(mb:Int)(v:Nat->Int×Int):mD (b6 S mb v):=⟨h.a,h.b,h.c⟩
theorem uG{z:c6×List Bool}(h:mD z.1)(m:Mb)(mb:Int)(k:Nat):mD (aS m mb z k).1:=⟨h.a,h.b,h.c⟩
theorem I5{S:c6}(h:mD S)(X:List Bool)(m:Mb)(mb:Int):mD (fI S X m mb).1:=by
 unfold fI;split
 ·exact oC h _ _
 ·split
  ·exact oC (uG h _ _ _) _ _
  ·split
   ·exact oC (uG (uG (uG (uG h _ _ _) _ _ _) _ _ _) _ _ _) _ _
   ·exact oC (Jg h m) _ _
theorem GH{S:c6}(h:mD S){m:Mb}(hm:kU m.lev)(X bw:List Bool)(mb:Int):∃z,nD S X bw m mb=some z/\mD z.1:=by
 unfold nD;split
 ·exact⟨(b6 S mb m.v,X++bc S m,bw),rfl,oC h _ _⟩
 ·obtain⟨x,hx,hS⟩:=z8 (mb:=mb) hm (x0:=⟨(fI S X m mb).1,(fI S X m mb).2,0,0,fun _=>[]⟩) (I5 h X m mb) 6;rw[hx,Option.map_some];exact⟨(x.S,eJ x,cR bw x 6),rfl,hS⟩
theorem A_{h:Hd}{p:Ph}{l:List Mb}{first:Int}(hT:mE h p l first)(hM:nS p.inter p.qp l)(hL:∀k,k<l.length->kU (l.getD k default).lev):∀k,k<=l.length->∃x,oo l first (Ot h p) k = .inr x/\mD x.S
 | 0,_=>⟨_,rfl,⟨uT,uT,uT⟩⟩
 | k+1,hk=>by
   obtain⟨x,hx,hS⟩:=A_ hT hM hL k (by omega);have hi:=vo hT k (by omega) x hx;have hq:=M0 hT k (by omega) x hx;have hc:=hM.chk k (by omega);rw[<-hq,<-hi.inter]at hc;obtain⟨z,hz,hz2⟩:=GH hS (hL k (by omega)) x.B x.w (first+(k:Nat));exact⟨_,(xO hx).trans (vq hc hz),hz2⟩
theorem r6:∀(l:List Int) (z:Int),(∀b∈l,0<=b/\b<256)->∀b∈r5 z l,0<=b/\b<256
 | [],z,_=>fun b hb=>by cases hb
 | x :: t,z,h=>fun b hb=>by
   have hx:=h x (List.mem_cons_self ..);have ht:∀b∈t,0<=b/\b<256:=fun b hb=>h b (List.mem_cons_of_mem _ hb)
   rw[r5]at hb;split at hb
   ·rcases List.mem_cons.1 hb with rfl|hb
    ·omega
    ·rcases List.mem_cons.1 hb with rfl|hb
     ·exact hx
     ·exact r6 t _ ht b hb
   ·rcases List.mem_cons.1 hb with rfl|hb
    ·exact hx
    ·exact r6 t _ ht b hb
theorem r7(l:List Int)(hl:aR l):aR (gu l l.length).1:=fun i=>by
 rw[uw];refine n7 (p:=fun z=>0<=z/\z<256) (r6 l 0 fun b hb=>?_) (by decide) i;obtain⟨j,hj,rfl⟩:=List.mem_iff_getElem.1 hb;have:=hl j;rw[List.getD_eq_getElem?_getD,List.getElem?_eq_getElem hj]at this;exact this
theorem M3{h:Hd}{p:Ph}{l:List Mb}{first:Int}(hT:mE h p l first)(hM:nS p.inter p.qp l)(hL:∀k,k<l.length->kU (l.getD k default).lev)(h5:l.length<=5):∃a b,yZ h p l first = .inr (a,b)/\aR a/\aR b/\a.length<=30000/\b.length<=30000:=by
 obtain⟨x,hx,-⟩:=A_ hT hM hL l.length (Nat.le_refl _);have hi:=vo hT l.length (Nat.le_refl _) x hx;have b1:=hi.len;have b2:=hi.lenw;have l1:=(qC (wr (x.B++[true]))).2;have l2:=(qC (wr (x.w++[true]))).2;have l3:=dH (x.B++[true]);have l4:=dH (x.w++[true]);rw[List.length_append,List.length_singleton]at l3 l4;refine⟨_,_,?_,r7 _ (jS (x.B++[true])),r7 _ (jS (x.w++[true])),by omega,by omega⟩;unfold yZ;rw[hx];exact if_neg (by omega)
theorem MM(s:Sm)(inter:Bool)(qp:Int):kU (oe s inter qp).lev:=fun i=>by
 show -1000<=(if(ei s inter qp).1=0 then fun _=>0 else(jB s (wO (ei s inter qp).1) 6).2) i/\(if(ei s inter qp).1=0 then fun _=>0 else(jB s (wO (ei s inter qp).1) 6).2) i<=1000;split
 ·exact JC i
 ·have:=(uX s (wO (ei s inter qp).1) 6).1 i;omega
theorem Ek(l:List Sm)(inter:Bool)(qp:Int)(n0:Nat):∀k,∀m∈(iv l inter qp n0 k).1,kU m.lev
 | 0=>fun m h=>by cases h
 | k + 1=>fun m h=>by
   rw[iv]at h
   rcases List.mem_append.1 h with h|h
   ·exact Ek l inter qp n0 k m h
   ·rw[List.mem_singleton]at h;subst h;exact MM _ _ _
theorem Cx(l:List Sm)(inter:Bool)(qp:Int)(many all n0:Nat):∀j,∀g∈(gL l inter qp many all n0 j).1,∀m∈g.ms,kU m.lev
 | 0=>fun g h=>by cases h
 | j + 1=>fun g h=>by
   rw[gL]at h;split at h
   ·rcases List.mem_append.1 h with h|h
    ·exact Cx l inter qp many all n0 j g h
    ·rw[List.mem_singleton]at h;subst h;exact Ek l inter qp _ _
   ·exact Cx l inter qp many all n0 j g h
def qb(B:List Bool):Nat->Nat->Int->Int
 | _,0,x=>x
 | r,n+1,x=>qb B (r+1) n (2*x+b2 (B.getD r false))
theorem xR(B:List Bool):∀(n r:Nat) (x:Int),r+n<=B.length->nE B n x (r,false)=(qb B r n x,(r+n,false))
 | 0,r,x,h=>rfl
 | n + 1,r,x,h=>by
   have e1:jD B (r,false)=B.getD r false:=by simp[jD]
   have e2:dW B (r,false)=(r+1,false):=by
    unfold dW;rw[if_neg Bool.noConfusion,if_pos (by show r<B.length;omega)]
   rw[nE,e1,e2,xR B n (r+1) _ (by omega),qb,show r+1+n=r+(n+1) by omega]
theorem pS{B:List Bool}{n r:Nat}(h:r+n<=B.length):e_ B n (r,false)=(qb B r n 0,(r+n,false)):=by
 unfold e_;rw[xR B n r 0 h,if_neg Bool.noConfusion]
theorem Ie(b:Bool):0<=b2 b/\b2 b<=1:=by cases b<;>decide
theorem vU(B:List Bool):∀(n r:Nat) (x:Int),qb B r n x/2^n=x
 | 0,r,x=>by show x/2^0=x;simp
 | n+1,r,x=>by
   rw[qb,Int.pow_succ,<-Int.ediv_ediv_of_nonneg (Int.le_of_lt (Int.pow_pos (by decide))),vU B n];have:=Ie (B.getD r false);omega
theorem By(B:List Bool):∀(n r:Nat) (x:Int) (i:Nat),i<n->qb B r n x/2^(n-1-i)%2=b2 (B.getD (r+i) false)
 | 0,r,x,i,h=>absurd h (Nat.not_lt_zero _)
 | n+1,r,x,0,h=>by
   rw[qb,show n+1-1-0=n by omega,vU,Nat.add_zero];have:=Ie (B.getD r false);omega
 | n+1,r,x,i+1,h=>by
   rw[qb,show n+1-1-(i+1)=n-1-i by omega,By B n (r+1) _ i (by omega),show r+1+i=r+(i+1) by omega]
theorem OC(B:List Bool)(r:Nat):0<=qb B r 7 0/\qb B r 7 0<128:=by
 have h:=vU B 7 r 0;have e:(2:Int)^7=128:=by decide
 rw[e]at h;omega
def GV(B:List Bool)(i:Nat):Int:=128+(e_ B 7 (7*i,false)).1
def p7(B:List Bool):Nat->List Int
 | 0=>[]
 | k+1=>p7 B k++[GV B k]
theorem kC(B:List Bool):∀k,(p7 B k).length=k
 | 0=>rfl
 | k+1=>by rw[p7,List.length_append,kC B k];rfl
theorem EY(B:List Bool):∀k i,i<k->(p7 B k).getD i 0=GV B i
 | 0,i,h=>absurd h (Nat.not_lt_zero _)
 | k + 1,i,h=>by
   rw[p7,List.getD_eq_getElem?_getD]
   by_cases hi:i<k
   ·rw[List.getElem?_append_left (by rw[kC];exact hi),<-List.getD_eq_getElem?_getD];exact EY B k i hi
   ·obtain rfl:i=k:=by omega
    rw[List.getElem?_append_right (by rw[kC];exact Nat.le_refl _),kC,Nat.sub_self];rfl
def ln(B:List Bool)(x y:List Int):List Int:=(([0,0,1,182]++p7 B 17)++x)++y
theorem xI(B:List Bool)(x y:List Int):(ln B x y).length=21+x.length+y.length:=by
 simp only[ln,List.length_append,kC,List.length_cons,List.length_nil]
theorem JV(B:List Bool)(x y:List Int){i:Nat}(hi:i<17):(ln B x y).getD (4+i) 0=GV B i:=by
 unfold ln;rw[List.append_assoc,List.append_assoc,List.getD_eq_getElem?_getD,List.getElem?_append_right (by show 4<=4+i;omega),show 4+i-([0,0,1,182]:List Int).length=i by show 4+i-4=i;omega,List.getElem?_append_left (by rw[kC];exact hi),<-List.getD_eq_getElem?_getD];exact EY B 17 i hi
def A1(p:List Int)(j:Nat):Int:=p.getD (4+j/7) 0/2^(6-j%7)%2
def mY(p:List Int)(o:Nat):Nat->Int
 | 0=>0
 | k+1=>2*mY p o k+A1 p (o+k)
def kA(p:List Int):Int×Int:=(mY p 37 16,mY p 53 16)
theorem ve(p:List Int)(j:Nat):0<=A1 p j/\A1 p j<=1:=by unfold A1;omega
theorem Tn:∀(k:Fin 7),∃q:Int,128=2^k.val*(2*q):=fun k=>⟨64/2^k.val,by revert k;decide⟩
theorem Gu{B:List Bool}(hB:119<=B.length)(x y:List Int){j:Nat}(hj:j<119):A1 (ln B x y) j=b2 (B.getD j false):=by
 unfold A1;rw[JV B x y (show j/7<17 by omega)];unfold GV;rw[pS (by omega)];have h:=By B 7 (7*(j/7)) 0 (j%7) (by omega);rw[show 7*(j/7)+j%7=j by omega,show 7-1-j%7=6-j%7 by omega]at h;rw[<-h];obtain⟨q,hq⟩:=Tn ⟨6-j%7,by omega⟩;have hq:(128:Int)=2^(6-j%7)*(2*q):=hq;have hp:(0:Int)<2^(6-j%7):=Int.pow_pos (by decide);show(128+qb B (7*(j/7)) 7 0)/2^(6-j%7)%2=qb B (7*(j/7)) 7 0/2^(6-j%7)%2;rw[hq,Int.add_comm,Int.add_mul_ediv_left _ _ (by omega)];omega
theorem Ba(n:Int):∀(k i:Nat),i<k->(bd n k).getD i false=decide (n/2^(k-1-i)%2=1)
 | 0,i,h=>absurd h (Nat.not_lt_zero _)
 | k+1,0,h=>rfl
 | k+1,i+1,h=>by
   rw[bd,List.getD_cons_succ,Ba n k i (by omega),show k+1-1-(i+1)=k-1-i by omega]
theorem vw{pre rest:List Bool}{n:Int}(hn:0<=n/\n<65536)(x y:List Int)(hB:119<=(pre++(bd n 16++rest)).length)(hp:pre.length+16<=119):∀k,k<=16->mY (ln (pre++(bd n 16++rest)) x y) pre.length k=n/2^(16-k)
 | 0,_=>by
   show 0=n/2^16;have e:(2:Int)^16=65536:=by decide
   rw[e];omega
 | k + 1,hk=>by
   have hget:(pre++(bd n 16++rest)).getD (pre.length+k) false=decide (n/2^(15-k)%2=1):=by
    rw[List.getD_eq_getElem?_getD,List.getElem?_append_right (by omega),Nat.add_sub_cancel_left,List.getElem?_append_left (by rw[bB];omega),<-List.getD_eq_getElem?_getD,Ba n 16 k (by omega)]
   rw[mY,vw hn x y hB hp k (by omega),Gu hB x y (by omega),hget,show 16-k=(15-k)+1 by omega,show 16-(k+1)=15-k by omega,Int.pow_succ,<-Int.ediv_ediv_of_nonneg (Int.le_of_lt (Int.pow_pos (by decide)))];unfold b2;split
   ·rename_i h;have h:=of_decide_eq_true h;omega
   ·rename_i h;have h:¬_:=fun g=>h (decide_eq_true g)
    omega
def pG(p:Ph)(first count la lb sa sb:Int):List Bool:=((((((((([]++bd p.id 16)++[p.inter])++[p.down])++bd p.qp 5)++bd first 7)++bd count 7)++bd la 16)++bd lb 16)++bd sa 16)++bd sb 16
def nB(p:Ph)(first count la lb sa sb su:Int):List Bool:=(pG p first count la lb sa sb++bd su 16)++bd 0 2
theorem xV(p:Ph)(first count la lb sa sb:Int):(pG p first count la lb sa sb).length=101:=by
 simp only[pG,List.length_append,bB,List.length_cons,List.length_nil]
theorem xx(p:Ph)(first count la lb sa sb su:Int):(nB p first count la lb sa sb su).length=119:=by
 simp only[nB,xV,List.length_append,bB]
theorem A0{p:Ph}{first count la lb sa sb su:Int}(ha:0<=la/\la<65536)(hb:0<=lb/\lb<65536)(x y:List Int):kA (ln (nB p first count la lb sa sb su) x y)=(la,lb):=by
 have hl:=xx p first count la lb sa sb su
 have e1:nB p first count la lb sa sb su=((((([]++bd p.id 16)++[p.inter])++[p.down])++bd p.qp 5++bd first 7)++bd count 7)++(bd la 16++(((bd lb 16++bd sa 16)++bd sb 16++bd su 16)++bd 0 2)):=by
  simp only[nB,pG,List.append_assoc]
 have e2:nB p first count la lb sa sb su=(((((([]++bd p.id 16)++[p.inter])++[p.down])++bd p.qp 5++bd first 7)++bd count 7)++bd la 16)++(bd lb 16++((bd sa 16++bd sb 16++bd su 16)++bd 0 2)):=by
  simp only[nB,pG,List.append_assoc]
 unfold kA;refine Prod.ext ?_ ?_
 ·have h:=vw ha x y (by rw[<-e1];omega) (by simp only[List.length_append,bB,List.length_cons,List.length_nil];omega) 16 (Nat.le_refl _);rw[<-e1]at h;simp only[List.length_append,bB,List.length_cons,List.length_nil]at h;exact h.trans (by simp)
 ·have h:=vw hb x y (by rw[<-e2];omega) (by simp only[List.length_append,bB,List.length_cons,List.length_nil];omega) 16 (Nat.le_refl _);rw[<-e2]at h;simp only[List.length_append,bB,List.length_cons,List.length_nil]at h;exact h.trans (by simp)
end Go.Proofs.YthdciapjllppjaaGreat
namespace Go.Xm
variable [av]
variable {P:Program} {ops:Array Oper} {nt nI:Nat} {al:aL} {hs:ah} {o:Oper} {l:List Oper} {L:List aA} {K:List Ab->aL->ah->Prop} {d:Nat}
theorem UI{t t':TypeId}{a b:Operand}{k k':IntKind}{x y:Int}(n:Nat)(hk:SK P ops nt L l ((d,.one (.int k (k.wrap (x*2^n))))::al) hs fun bs=>K (quiet::bs))(ho:o.op = .binOp .shl t a b t':=by exact rfl)(wn:Wn ops nt al o d:=by exact⟨rfl,rfl,rfl⟩)(ha:ag (rg al) a = .one (.int k x):=by exact rfl)(hb:ag (rg al) b = .one (.int k' y):=by exact rfl)(hn:y=(n:Nat):=by exact rfl)(h:n<=k.bits:=by decide):SK P ops nt L (o::l) al hs K:=by
 refine gz ho wn.w wn.e wn.l ha hb ?_ hk;subst hn;have h0:¬((n:Nat):Int)<0:=by omega
 simp only[bE,h0,if_false,vn,Int.toNat_natCast,Nat.min_eq_left h,cj]
end Go.Xm
namespace Go.Proofs.YthdciapjllppjaaGreat
open Go.Xm
variable [av]
theorem Lj(x:Int):0<=IntKind.u16.wrap x/\IntKind.u16.wrap x<65536:=by
 simp[IntKind.wrap,IntKind.bits,IntKind.signed];omega
theorem pX(x y:Int):0<=lK .u16 x y/\lK .u16 x y<65536:=Lj _
def k9(s:Int):Int:=if I6 .u16 s 32768≠0 then lK .u16 (IntKind.u16.wrap (s*2^1)) 4129 else IntKind.u16.wrap (s*2^1)
theorem FG(s:Int):0<=k9 s/\k9 s<65536:=by
 unfold k9;split
 ·exact pX _ _
 ·exact Lj _
def c8(s:Int):Nat->Int
 | 0=>s
 | k+1=>k9 (c8 s k)
def B_(s:Int)(l:List Int):Nat->Int
 | 0=>s
 | i+1=>c8 (lK .u16 (B_ s l i) (l.getD i 0*2^8)) 8
def gH(l:List Int):Int:=B_ 65535 l l.length
theorem Is{s:Int}(h:0<=s/\s<65536):∀k,0<=c8 s k/\c8 s k<65536
 | 0=>h
 | k+1=>FG _
theorem zZ{s:Int}(h:0<=s/\s<65536)(l:List Int):∀k,0<=B_ s l k/\B_ s l k<65536
 | 0=>h
 | k+1=>Is (pX _ _) 8
theorem ox(l:List Int):0<=gH l/\gH l<65536:=zZ (by decide) l _
theorem LV(s:Int)(hs:0<=s/\s<65536){l:List Int}(hl:aR l)(hn:l.length<=100000){ob:aj}(hr:RO ob .u8 l)(cp:nQ) :
 bm prog 80 [.one (.int .u16 s),.one (.slice 0 0 l.length cp)] [ob] (.one (.int .u16 (B_ s l l.length))) [ob]:=by
 have hfo:=hr.flat;refine cO Tryz.func80 ?_
 repeat' (first|refine zz ?_|refine zx (fun _=>?_) (fun _=>?_)|fail)
 refine WX.bN (σ:=Nat×Int) (fun t=>[(0,.one (.int .u16 t.2)),(7,.one (.slice 0 0 l.length cp)),(8,.one (.int .i64 (l.length:Nat))),(9,.one (.int .i64 (t.1:Nat)))]) (fun t=>[ob]) (fun t=>t.1<=l.length/\t.2=B_ s l t.1) (fun t=>l.length-t.1) (0,s) ⟨Nat.zero_le _,rfl⟩ (fun s _=>mZ) (bq [0]) ?_;intro t ⟨hle,hte⟩ ih;have hb:=hl t.1;have htr:=zZ hs l t.1;rw[<-hte]at htr
 by_cases hlt:t.1<l.length
 ·repeat' (first|refine zz ?_|refine zx (fun _=>?_) (fun _=>?_)|fail)
  refine WX.bN (σ:=Nat×Int) (fun u=>[(0,.one (.int .u16 u.2)),(7,.one (.slice 0 0 l.length cp)),(8,.one (.int .i64 (l.length:Nat))),(9,.one (.int .i64 (t.1:Nat))),(18,.one (.int .i64 (u.1:Nat)))]) (fun t=>[ob]) (fun u=>u.1<=8/\u.2=c8 (lK .u16 t.2 (l.getD t.1 0*2^8)) u.1) (fun u=>8-u.1) (0,lK .u16 t.2 (l.getD t.1 0*2^8)) ⟨Nat.zero_le _,rfl⟩ (fun s _=>mZ) (bq [0]) ?_;intro u ⟨hu8,hue⟩ ih2;have hur:=Is (pX t.2 (l.getD t.1 0*2^8)) u.1;rw[<-hue]at hur
  by_cases hlu:u.1<8
  ·repeat' (first
    |(refine qz ?_;first
     |refine UI 1 ?_)
    |refine zz ?_|refine zx (fun _=>?_) (fun _=>?_)|fail)
   ·rename_i hc1;exact ih2 (u.1+1,k9 u.2) _ _ _ (bq [0] (reg:=by(repeat' (first|exact ae.nil|refine ae.flat (by show _=XV.one (XC.int .u16 (k9 u.2));unfold k9;rw[if_pos hc1];rfl) ?_|refine rz ?_|refine ae.sl rfl (by assumption) rfl ?_));first|done|fail)) ⟨by show u.1+1<=8;omega,by show k9 u.2=k9 _;rw[<-hue]⟩ (by show 8-(u.1+1)<8-u.1;omega)
   ·rename_i hc1;exact ih2 (u.1+1,k9 u.2) _ _ _ (bq [0] (reg:=by(repeat' (first|exact ae.nil|refine ae.flat (by show _=XV.one (XC.int .u16 (k9 u.2));unfold k9;rw[if_neg hc1];rfl) ?_|refine rz ?_|refine ae.sl rfl (by assumption) rfl ?_));first|done|fail)) ⟨by show u.1+1<=8;omega,by show k9 u.2=k9 _;rw[<-hue]⟩ (by show 8-(u.1+1)<8-u.1;omega)
  ·have e8:u.1=8:=by omega
   clear ih2
   repeat' (first|refine zz ?_|refine zx (fun _=>?_) (fun _=>?_)|fail)
   exact ih (t.1+1,u.2) _ _ _ (bq [0]) ⟨by show t.1+1<=_;omega,by show u.2=c8 _ 8;rw[hue,e8,<-hte]⟩ (by show _-(t.1+1)<_;omega)
 ·have e0:t.1=l.length:=by omega
  repeat' (first|refine zz ?_|refine zx (fun _=>?_) (fun _=>?_)|fail)
  show aE _ _ _ _ _ _ _ _;refine kV [0] ?_;show XV.one (.int .u16 t.2)=_;rw[hte,e0];rfl
theorem OM{s:Int}(hs:0<=s/\s<65536){l:List Int}(hl:aR l)(hn:l.length<=100000){ob:aj}(hr:RO ob .u8 l){cp:nQ}{n:Nat}(hln:l.length=n){HS:ah}{i:Nat}(hi:HS[i]? = some ob)(hb:Nat.blt HS.length Mem.bound=true) :
 aA.Sound prog ⟨80,[.one (.int .u16 s),.one (.slice i 0 n cp)],HS,.one (.int .u16 (B_ s l l.length)),HS,[]⟩:=by
 subst hln;have hfo:=hr.flat;exact f_ [i] (LV s hs hl hn hr cp) (by simp) (.flat hi .nil) (.flat .nil) (.flat (.cons (by show 0<1;omega) .nil)) (.flat (.cons rfl .nil)) trivial rfl hb rfl
theorem Nx{l:List Int}(hl:aR l)(hn:l.length<=100000){ob:aj}(hr:RO ob .u8 l)(cp:nQ) :
 bm prog 49 [.one (.slice 1 0 1 (.exact 1))] [ob,.cells [.slice 0 0 l.length cp] 32 false false] (.one (.int .u16 (gH l))) [ob,.cells [.slice 0 0 l.length cp] 32 false false]:=by
 have hfo:=hr.flat;refine cO Tryz.func49 ?_
 repeat' (first
  |(refine qz ?_;first
   |refine cl ?_ (hi:=by exact OM (by decide) hl hn hr (i:=0) rfl rfl rfl))
  |refine WX.loop ?_|refine WX.round (c := .seq (.region 3 _ _) _) ?_|refine zz ?_|refine zx (fun _=>?_) (fun _=>?_)|fail)
 show aE _ _ _ _ _ _ _ _;refine kV [0,1] ?_;rfl
theorem vO{l:List Int}(hl:aR l)(hn:l.length<=100000){ob:aj}(hr:RO ob .u8 l){cp:nQ}{z:Int}(hz:gH l=z){n:Nat}(hln:l.length=n){HS:ah}{i j:Nat}(hi:HS[i]? = some ob)(hj:HS[j]? = some (.cells [.slice i 0 n cp] 32 false false))(hd:i≠j)(hb:Nat.blt HS.length Mem.bound=true) :
 aA.Sound prog ⟨49,[.one (.slice j 0 1 (.exact 1))],HS,.one (.int .u16 z),HS,[]⟩:=by
 subst hln hz;have hfo:=hr.flat;exact f_ [i,j] (Nx hl hn hr cp) (by simp[hd]) (.flat hi (.cons hj .nil)) (.flat (.cons (by simp[aj.bt,XC.ok]) .nil)) (.cons (by show 1<2;omega) .nil) (.cons rfl .nil) trivial rfl hb rfl
def pg(f:Nat->Int):Nat->List Bool
 | 0=>[]
 | k+1=>pg f k++bd (f k) 8
theorem oA(f:Nat->Int):∀k,(pg f k).length=8*k
 | 0=>rfl
 | k+1=>by rw[pg,List.length_append,oA f k,bB];omega
def yP(h:Hd):List Bool:=(([]++bd h.cols 8)++bd h.rows 8)++[h.w]
def O_(h:Hd):List Bool:=if h.w=true then(yP h++pg h.a 64)++pg h.b 64 else yP h
theorem qK(h:Hd):(yP h).length=17:=by simp only[yP,List.length_append,bB,List.length_cons,List.length_nil]
theorem Mv(h:Hd):(O_ h).length<=1041:=by
 unfold O_;split
 ·rw[List.length_append,List.length_append,qK,oA,oA];omega
 ·rw[qK];omega
def F7(h:Hd):List Int:=wr (O_ h++[true])
def LG(h:Hd):List Int:=F7 h++[gH (F7 h)/256,gH (F7 h)%256,128]
def LH(h:Hd):List Int:=[0,0,1,176]++(gu (LG h) (LG h).length).1
theorem jT{a b:List Int}(ha:aR a)(hb:aR b):aR (a++b):=fun i=>by
 rw[List.getD_eq_getElem?_getD]
 by_cases h:i<a.length
 ·rw[List.getElem?_append_left h,<-List.getD_eq_getElem?_getD];exact ha i
 ·rw[List.getElem?_append_right (by omega),<-List.getD_eq_getElem?_getD];exact hb _
theorem dD{z:Int}{l:List Int}(hz:0<=z/\z<256)(h:aR l):aR (z::l):=fun i=>by
 cases i with
 | zero=>exact hz
 | succ i=>exact h i
theorem jU:aR []:=fun i=>by show(0:Int)<=0/\(0:Int)<256;omega
theorem As(h:Hd):aR (F7 h):=jS _
theorem Em(h:Hd):(F7 h).length<=131:=by
 have:=Mv h;unfold F7;rw[dH,List.length_append,List.length_singleton];omega
theorem At(h:Hd):aR (LG h):=by
 have:=ox (F7 h);exact jT (As h) (dD (by omega) (dD (by omega) (dD (by omega) jU)))
theorem En(h:Hd):(LG h).length<=134:=by
 have:=Em h;unfold LG;rw[List.length_append];simp only[List.length_cons,List.length_nil];omega
theorem I3(h:Hd):aR (LH h):=
 jT (dD (by omega) (dD (by omega) (dD (by omega) (dD (by omega) jU)))) (r7 _ (At h))
theorem Eo(h:Hd):4<=(LH h).length/\(LH h).length<=272:=by
 have:=En h;have:=(qC (LG h)).1;unfold LH;rw[List.length_append];simp only[List.length_cons,List.length_nil];omega
noncomputable def gy(h:Hd)(p:Ph)(g:Gr):List Int×List Int:=match yZ h p g.ms g.first with
 | .inr x=>x
 | .inl _=>([],[])
noncomputable def SE(h:Hd)(p:Ph)(g:Gr):List Bool:=nB p g.first (g.ms.length:Nat) ((gy h p g).1.length:Nat) ((gy h p g).2.length:Nat) (gH (gy h p g).1) (gH (gy h p g).2) (gH (wr (pG p g.first (g.ms.length:Nat) ((gy h p g).1.length:Nat) ((gy h p g).2.length:Nat) (gH (gy h p g).1) (gH (gy h p g).2))))
noncomputable def EF(h:Hd)(p:Ph)(g:Gr):List Int:=ln (SE h p g) (gy h p g).1 (gy h p g).2
noncomputable def MX(h:Hd)(p:Pc):List (List Int):=p.gs.map (EF h p.ph)
noncomputable def qh(h:Hd)(ps:List Pc):List (List Int):=ps.flatMap (MX h)
noncomputable def iD(s:wC):List (List Int):=LH s.hd::qh s.hd s.ps
theorem sx{α : Type}[Inhabited α](l:List α){j:Nat}(h:j<l.length):l.take (j+1)=l.take j++[l.getD j default]:=by
 rw[List.take_add_one,List.getElem?_eq_getElem h,List.getD_eq_getElem?_getD,List.getElem?_eq_getElem h];rfl
structure jz(s:wC):Prop where
 ok:xd s
 low:∀p∈s.ps,∀g∈p.gs,∀m∈g.ms,kU m.lev
theorem qI{inter:Bool}{qp:Int}:∀{l:List Gr} {b e:Int},qk inter qp b l e->0<=b->∀g∈l,0<=g.first/\b<=g.first/\g.first+(g.ms.length:Nat)<=e/\1<=g.ms.length/\g.ms.length<=5/\nS inter qp g.ms
 | [],b,e,h,hb=>fun g hg=>by cases hg
 | x :: l,b,e,h,hb=>fun g hg=>by
   obtain⟨h1,h2,h3,h4,h5⟩:=h
   have hle:∀{l:List Gr} {b e:Int},qk inter qp b l e->b<=e:=fun {l}=>by
    induction l with
    | nil=>intro b e h;have h:b=e:=h;omega
    | cons x l ih=>intro b e h;have:=ih h.2.2.2.2;omega
   rcases List.mem_cons.1 hg with rfl|hg
   ·have:=hle h5;exact⟨by omega,by omega,by omega,h2,h3,h4⟩
   ·have:=qI h5 (by omega) g hg;exact⟨this.1,by omega,this.2.2⟩
theorem m9{s:wC}(h:xd s):1<=s.hd.cols*s.hd.rows/\s.hd.cols*s.hd.rows<=9:=by
 obtain⟨c0,c1⟩:=h.cols;obtain⟨r0,r1⟩:=h.rows;have hc:s.hd.cols=1\/s.hd.cols=2\/s.hd.cols=3:=by omega
 have hr:s.hd.rows=1\/s.hd.rows=2\/s.hd.rows=3:=by omega
 rcases hc with e|e|e<;>rcases hr with f|f|f<;>rw[e,f]<;>decide
theorem uY{inter:Bool}{qp:Int}{l:List Mb}(h:nS inter qp l):∀m∈l,jc m:=fun m hm=>by
 obtain⟨j,hj,rfl⟩:=List.mem_iff_getElem.1 hm;have:=h.mok j hj;rwa [List.getD_eq_getElem?_getD,List.getElem?_eq_getElem hj,Option.getD_some]at this
theorem yI:∀(l:List Int) (z:Int),l.length<=(r5 z l).length
 | [],z=>Nat.zero_le _
 | b :: t,z=>by
   rw[r5];split
   ·have:=yI t (if b=0 then 0+1 else 0);simp only[List.length_cons];omega
   ·have:=yI t (if b=0 then z+1 else 0);simp only[List.length_cons];omega
theorem qD{l:List Int}(h:1<=l.length):1<=(gu l l.length).1.length:=by
 rw[uw];have:=yI l 0;omega
theorem JU{h:Hd}{p:Ph}{l:List Mb}{first:Int}{a b:List Int}(hp:yZ h p l first = .inr (a,b)):1<=a.length/\1<=b.length:=by
 unfold yZ at hp;split at hp
 ·cases hp
 ·rename_i x hx;split at hp
  ·cases hp
  ·cases hp;exact⟨qD (by rw[dH,List.length_append,List.length_singleton];omega),qD (by rw[dH,List.length_append,List.length_singleton];omega)⟩
theorem Oq{s:wC}(h:jz s){i:Nat}(hi:i<s.ps.length){g:Gr}(hg:g∈(s.ps.getD i default).gs) :
 mE s.hd (s.ps.getD i default).ph g.ms g.first/\yZ s.hd (s.ps.getD i default).ph g.ms g.first = .inr (gy s.hd (s.ps.getD i default).ph g)/\aR (gy s.hd (s.ps.getD i default).ph g).1/\aR (gy s.hd (s.ps.getD i default).ph g).2/\(1<=(gy s.hd (s.ps.getD i default).ph g).1.length/\(gy s.hd (s.ps.getD i default).ph g).1.length<=30000)/\(1<=(gy s.hd (s.ps.getD i default).ph g).2.length/\(gy s.hd (s.ps.getD i default).ph g).2.length<=30000):=by
 have hm:=m9 h.ok;have hp:=h.ok.pics i hi;have he:(((s.hd.cols*s.hd.rows).toNat:Nat):Int)=s.hd.cols*s.hd.rows:=by omega
 obtain⟨g1,g2,g3,g4,g5,g6⟩:=qI hp.gs (Int.le_refl 0) g hg;rw[he]at g3
 have hT:mE s.hd (s.ps.getD i default).ph g.ms g.first:=⟨h.ok.hd,hp.ph,uY g6,g1,g4,by omega,g3⟩
 have hmem:s.ps.getD i default∈s.ps:=by
  rw[List.getD_eq_getElem?_getD,List.getElem?_eq_getElem hi,Option.getD_some];exact List.getElem_mem hi
 have hlow:∀k,k<g.ms.length->kU (g.ms.getD k default).lev:=fun k hk=>by
  rw[List.getD_eq_getElem?_getD,List.getElem?_eq_getElem hk,Option.getD_some];exact h.low _ hmem g hg _ (List.getElem_mem hk)
 obtain⟨a,b,e,ha,hb,la,lb⟩:=M3 hT g6 hlow g5;have hpos:=JU e;have eAB:gy s.hd (s.ps.getD i default).ph g=(a,b):=by unfold gy;rw[e]
 rw[eAB];exact⟨hT,e,ha,hb,⟨hpos.1,la⟩,hpos.2,lb⟩
def rY(h:Hd)(c0 c1:XC):List XC:=ij h++[c0,c1]
theorem D5(h:Hd)(c0 c1:XC):(rY h c0 c1).length=133:=by simp[rY,cz]
theorem OT(h:Hd)(c0 c1:XC):((rY h c0 c1).drop 0).take 131=ij h:=by
 unfold rY;rw[List.drop_zero,List.take_left' (cz h)]
theorem D3(h:Hd)(c0 c1:XC):(rY h c0 c1)[131]? = some c0:=by
 unfold rY;rw[List.getElem?_append_right (by rw[cz];omega),cz];rfl
theorem D4(h:Hd)(c0 c1:XC):(rY h c0 c1)[132]? = some c1:=by
 unfold rY;rw[List.getElem?_append_right (by rw[cz];omega),cz];rfl
abbrev D7(h:Hd)(c0 c1:XC):aj := .cells (rY h c0 c1) 30 false false
theorem lH{h:Hd}{c0 c1:XC}{n n' m:Nat}(k0:cL c0 0 0 n)(k1:cL c1 1 0 n')(hm:Nat.ble 2 m=true):(D7 h c0 c1).bt m:=fun c hc=>by
 have hm:=Nat.le_of_ble_eq_true hm
 rcases List.mem_append.1 (show c∈ij h++[c0,c1]from hc)with hc|hc
 ·exact XC.bj (List.all_eq_true.1 (eO h) c hc) m
 ·simp only[List.mem_cons,List.not_mem_nil,or_false]at hc
  rcases hc with rfl|rfl
  ·exact k0.ok (by omega)
  ·exact k1.ok (by omega)
theorem qL(h:Hd)(τ : Nat->Nat):(ij h).map (·.aC τ)=ij h:=by
 refine(List.map_congr_left (g:=id) fun c hc=>?_).trans (List.map_id _);exact XC.dO (List.all_eq_true.1 (eO h) c hc) τ
theorem ef{τ : Nat->Nat}{HS:ah}{i:Nat}{ls:List Nat}{hs:ah}{h:Hd}{c0 c1:XC}{n n':Nat}(k0:cL c0 0 0 n)(k1:cL c1 1 0 n')(hi:HS[i]? = some (D7 h c0 c1))(e0 : τ 0=0)(e1 : τ 1=1)(r:af τ HS ls hs):af τ HS (i::ls) (D7 h c0 c1::hs):=by
 refine af.cons ?_ r;rw[hi];simp only[D7,rY,aj.aC,List.map_append,qL,List.map_cons,List.map_nil,k0.id e0,k1.id e1]
def d9(h:Hd)(c:XC):List XC:=ij h++[c]
theorem dh(h:Hd)(c:XC):(d9 h c).length=132:=by simp[d9,cz]
theorem De(h:Hd)(c:XC):((d9 h c).drop 0).take 131=ij h:=by
 unfold d9;rw[List.drop_zero,List.take_left' (cz h)]
theorem zg(h:Hd)(c:XC):(d9 h c)[131]? = some c:=by
 unfold d9;rw[List.getElem?_append_right (by rw[cz];omega),cz];rfl
theorem Nv(h:Hd)(c c':XC):(d9 h c).set 131 c'=d9 h c':=by
 unfold d9;rw[List.set_append_right _ _ (by rw[cz];omega),cz];rfl
abbrev wX:Hd:=⟨0,0,false,fun _=>0,fun _=>0⟩
theorem zP:aK prog 36 (d9 wX .nils):=by
 show aK prog 36 ((.int .i64 0 :: .int .i64 0 :: .bool false::((ti .u8 64 fun _=>0)++(ti .u8 64 fun _=>0)))++[.nils])
 infer_instance
theorem aH{τ : Nat->Nat}{HS:ah}{i:Nat}{ls:List Nat}{hs:ah}{h:Hd}{c:XC}{a b:Bool}(hc:c.aC τ = c)(hi:HS[i]? = some (.cells (d9 h c) 36 a b))(r:af τ HS ls hs):af τ HS (i::ls) (.cells (d9 h c) 36 a b::hs):=by
 refine af.cons ?_ r;rw[hi];simp only[d9,aj.aC,List.map_append,qL,List.map_cons,List.map_nil,hc]
theorem bC{h:Hd}{c:XC}{a b:Bool}{m:Nat}(hc:c.ok m):(aj.cells (d9 h c) 36 a b).bt m:=fun x hx=>by
 rcases List.mem_append.1 (show x∈ij h++[c]from hx)with hx|hx
 ·exact XC.bj (List.all_eq_true.1 (eO h) x hx) m
 ·rw[List.mem_singleton.1 hx];exact hc
theorem p8{h:Hd}{c:XC}{m:Nat}(hc:c.ok m):(XV.agg (d9 h c)).bt m:=fun x hx=>by
 rcases List.mem_append.1 (show x∈ij h++[c]from hx)with hx|hx
 ·exact XC.bj (List.all_eq_true.1 (eO h) x hx) m
 ·rw[List.mem_singleton.1 hx];exact hc
theorem m7{h:Hd}{c c':XC}{τ : Nat->Nat}(hc:c.aC τ = c'):(XV.agg (d9 h c)).aC τ = .agg (d9 h c'):=by
 simp only[d9,XV.aC,List.map_append,qL,List.map_cons,List.map_nil,hc]
abbrev sT(p:Ph)(c:XC):List XC:=[.int .i64 p.id,.bool p.inter,.bool p.down,.int .i64 p.qp,c]
abbrev yM(f:Int)(c:XC):List XC:=[.int .i64 f,c]
theorem wz:aK prog 90 (yM 0 .nils):=by
 show aK prog 90 [.int .i64 0,.nils]
 infer_instance
theorem sI:aK prog 87 (sT ⟨0,false,false,0⟩ .nils):=by
 show aK prog 87 [.int .i64 0,.bool false,.bool false,.int .i64 0,.nils]
 infer_instance
theorem Mu{inter:Bool}{qp:Int}{l:List Gr}{j:Nat}{b e:Int}(h:qk inter qp b (l.drop j) e)(hj:j<l.length):(l.getD j default).first=b/\1<=(l.getD j default).ms.length/\(l.getD j default).ms.length<=5/\nS inter qp (l.getD j default).ms/\qk inter qp (b+((l.getD j default).ms.length:Nat)) (l.drop (j+1)) e:=by
 rw[List.drop_eq_getElem_cons hj]at h;rw[List.getD_eq_getElem?_getD,List.getElem?_eq_getElem hj,Option.getD_some];exact h
theorem yO{inter:Bool}{qp:Int}:∀{l:List Gr} {b e:Int},qk inter qp b l e->b<=e
 | [],b,e,h=>by have h:b=e:=h;omega
 | x::l,b,e,h=>by have:=yO h.2.2.2.2;omega
def C1(qp:Int)(l:List Mb)(k:Nat):Int:=if k=0 then qp else(l.getD (k-1) default).qp
theorem Cv{hd:Hd}{p:Ph}{L:List (List XC)}{k q m n:Nat}{gs:List Gr}(hg:xb L k gs)(hn:gs.length=n)(hp:tg p)(hok:qk p.inter p.qp 0 gs (hd.cols*hd.rows))(hcr:1<=hd.cols*hd.rows/\hd.cols*hd.rows<=64)(hgn:gs.length<=64) :
 bm prog 57 [.agg (d9 hd (.lsl 0 q 0 m m 0)),.agg (sT p (.lsl 0 k 0 n n 0))] [.late L] (.one (.int .i64 0)) [.late L]:=by
 subst hn;obtain⟨l,hl,hln,hall⟩:=hg;have hqp:=hp.qp;have hc:=hd.cols;refine cO Tryz.func57 ?_
 repeat' (first
  |(refine qz ?_;first
   |refine nN ?_
   |refine sP ?_)
  |refine zz ?_|refine zx (fun _=>?_) (fun _=>?_)|fail)
 refine WX.bN (σ:=Nat×Int) (fun s=>[(2,.one (.ptr 1 0)),(3,.one (.ptr 2 0)),(13,.one (.lsl 0 k 0 gs.length gs.length 0)),(14,.one (.int .i64 (gs.length:Nat))),(5,.one (.int .i64 s.2)),(15,.one (.int .i64 (s.1:Nat)))]) (fun s=>[.late L,.cells (d9 hd (.lsl 0 q 0 m m 0)) 36 false false,.cells (sT p (.lsl 0 k 0 gs.length gs.length 0)) 87 false false]) (fun s=>s.1<=gs.length/\0<=s.2/\qk p.inter p.qp s.2 (gs.drop s.1) (hd.cols*hd.rows)) (fun s=>gs.length-s.1) (0,0) ⟨Nat.zero_le _,Int.le_refl _,hok⟩ (fun s _=>(mZ (objs:=by repeat' (first|exact ak.nil|refine ak.cons (bC (show 0<_ from Nat.le_of_ble_eq_true rfl)) ?_|refine kz ?_)))) (bq [0,1,2] (obj:=by(repeat' (first|exact af.nil|refine aH rfl rfl ?_|refine oz ?_));first|done|fail)) ?_;intro s ⟨hle,h0,hgs⟩ ih;have hsle:=yO hgs
 by_cases hlt:s.1<gs.length
 ·obtain⟨a1,a2,a3⟩:=hall s.1 hlt;obtain⟨b1,b2,b3,b4,b5⟩:=Mu hgs hlt;have hnx:=yO b5
  obtain⟨g,hge⟩:∃g,gs.getD s.1 default=g:=⟨_,rfl⟩
  obtain⟨a,hae⟩:∃a,l.getD s.1 default=a:=⟨_,rfl⟩
  have hae':l.getD (s.1:Int).toNat default=a:=hae;rw[hge]at a1 a2 a3 b1 b2 b3 b4 b5 hnx;rw[hae]at a1 a2 a3;rw[b1]at a1
  have ea:(pe (l.getD (s.1:Int).toNat default)).map (·.self 0)=yM s.2 (.lsl 0 a.k 0 g.ms.length g.ms.length 0):=by
   rw[hae',<-a1,<-a2];rfl
  have hlt2:s.1<l.length:=by omega
  repeat' (first
   |(refine qz ?_;first
    |refine nN ?_
    |refine sP ?_
    |refine nH (zs:=yM 0 .nils) (hz:=wz) ?_
    |refine kn (enc:=pe) ?_ hl (by omega) (hc':=ea))
   |refine zz ?_|refine zx (fun _=>?_) (fun _=>?_)|fail)
  refine WX.bN (σ:=Nat) (fun t=>[(2,.one (.ptr 1 0)),(3,.one (.ptr 2 0)),(7,.one (.ptr 3 0)),(13,.one (.lsl 0 k 0 gs.length gs.length 0)),(14,.one (.int .i64 (gs.length:Nat))),(5,.one (.int .i64 s.2)),(15,.one (.int .i64 (s.1:Nat))),(33,.one (.lsl 0 a.k 0 g.ms.length g.ms.length 0)),(34,.one (.int .i64 (g.ms.length:Nat))),(8,.one (.int .i64 (C1 p.qp g.ms t))),(35,.one (.int .i64 (t:Nat)))]) (fun t=>[.late L,.cells (d9 hd (.lsl 0 q 0 m m 0)) 36 false false,.cells (sT p (.lsl 0 k 0 gs.length gs.length 0)) 87 false false,.cells (yM s.2 (.lsl 0 a.k 0 g.ms.length g.ms.length 0)) 90 false false]) (fun t=>t<=g.ms.length) (fun t=>g.ms.length-t) 0 (Nat.zero_le _) (fun s _=>(mZ (objs:=by repeat' (first|exact ak.nil|refine ak.cons (bC (show 0<_ from Nat.le_of_ble_eq_true rfl)) ?_|refine kz ?_)))) (bq [0,1,2,3] (obj:=by(repeat' (first|exact af.nil|refine aH rfl rfl ?_|refine oz ?_));first|done|fail)) ?_;intro t ht ih2
  by_cases hlt3:t<g.ms.length
  ·have hmk:=b4.mok t hlt3;have hck:=b4.chk t hlt3;have hck:dp (g.ms.getD t default) p.inter (C1 p.qp g.ms t)=0:=hck
   have hqr : -1000000<=C1 p.qp g.ms t/\C1 p.qp g.ms t<=1000000:=by
    unfold C1;split
    ·omega
    ·have:=(b4.mok (t-1) (by omega)).qp;omega
   obtain⟨x,hxe⟩:∃x,g.ms.getD t default=x:=⟨_,rfl⟩
   have hxe':g.ms.getD (t:Int).toNat default=x:=hxe;rw[hxe]at hmk hck
   repeat' (first
    |(refine qz ?_;first
     |refine nN ?_
     |refine sP ?_
     |refine nH (zs:=mC zR) (hz:=o9) ?_
     |refine kn (enc:=mC) ?_ a3 (by omega)
     |refine tq (cs:=mC x) ?_ (hy:=by rw[<-hxe'];rfl) (hs1:=by rw[aY]) (hs2:=by rw[aY])
     |refine lg ?_ (hle:=by rw[aY])
     |refine cl ?_ (hi:=by exact z_ hmk hqr hck rfl))
    |refine zz ?_|refine zx (fun _=>?_) (fun _=>?_)|fail)
   have eq1:C1 p.qp g.ms (t+1)=x.qp:=by unfold C1;rw[if_neg (by omega),Nat.add_sub_cancel,hxe]
   exact ih2 (t+1) _ _ _ (bq [0,1,2,3] (obj:=by(repeat' (first|exact af.nil|refine aH rfl rfl ?_|refine oz ?_));first|done|fail) (reg:=by(repeat' (first|exact ae.nil|refine ae.flat (by rw[eq1];rfl) ?_|refine rz ?_|refine ae.sl rfl (by assumption) rfl ?_));first|done|fail)) (by omega) (by omega)
  ·repeat' (first
    |(refine qz ?_;first
     |refine nN ?_
     |refine sP ?_)
    |refine zz ?_|refine zx (fun _=>?_) (fun _=>?_)|fail)
   exact ih (s.1+1,s.2+(g.ms.length:Nat)) _ _ _ (bq [0,1,2] (obj:=by(repeat' (first|exact af.nil|refine aH rfl rfl ?_|refine oz ?_));first|done|fail)) ⟨by show s.1+1<=_;omega,by show 0<=s.2+_;omega,b5⟩ (by show _-(s.1+1)<_;omega)
 ·have e0:s.1=gs.length:=by omega
  rw[e0,List.drop_length]at hgs;have hgs:s.2=hd.cols*hd.rows:=hgs
  repeat' (first
   |(refine qz ?_;first
    |refine nN ?_
    |refine sP ?_
    |refine ld (c := .int .i64 hd.cols) ?_
    |refine ld (c := .int .i64 hd.rows) ?_)
   |refine zz ?_|refine zx (fun _=>?_) (fun _=>?_)|fail)
  show aE _ _ _ _ _ _ _ _;refine kV [0] ?_;rfl
theorem xu{hd:Hd}{p:Ph}{L:List (List XC)}{k q m n i:Nat}{gs:List Gr}(hg:xb L k gs)(hn:gs.length=n)(hp:tg p)(hok:qk p.inter p.qp 0 gs (hd.cols*hd.rows))(hcr:1<=hd.cols*hd.rows/\hd.cols*hd.rows<=64)(hgn:gs.length<=64){HS:ah}(hi:HS[i]? = some (.late L))(hbd:Nat.blt HS.length Mem.bound=true) :
 aA.Sound prog ⟨57,[.agg (d9 hd (.lsl i q 0 m m 0)),.agg (sT p (.lsl i k 0 n n 0))],HS,.one (.int .i64 0),HS,[]⟩:=by
 refine f_ [i] (Cv (q:=q) (m:=m) hg hn hp hok hcr hgn) (by simp) (.flat hi .nil) (.flat .nil) (.cons (p8 (show 0<_ from Nat.le_of_ble_eq_true rfl)) (.cons ?_ .nil)) (.cons (m7 rfl) (.cons rfl .nil)) trivial rfl hbd rfl;intro x hx;simp only[List.mem_cons,List.not_mem_nil,or_false]at hx
 rcases hx with rfl|rfl|rfl|rfl|rfl<;>first|trivial|exact Nat.zero_lt_one
theorem vf{ps:List Pc}{l:List Q7}{i:Nat}{p:Pc}(h1:(l.getD i default).ph=p.ph)(h2:(l.getD i default).n=p.gs.length)(g:Nat):(nK (l.getD i default)).map (·.self g)=sT p.ph (.lsl g (l.getD i default).k 0 p.gs.length p.gs.length 0):=by
 rw[<-h1,<-h2];rfl
theorem C7{s:wC}(hs:xd s){L:List (List XC)}{k n:Nat}(hp:po L k s.ps)(hn:s.ps.length=n) :
 bm prog 30 [.agg (d9 s.hd (.lsl 0 k 0 n n 0))] [.late L] (.one (.int .i64 0)) [.late L]:=by
 subst hn;obtain⟨l,hl,hln,hall⟩:=hp;have hmany:=hs.many;have hcr:=m9 hs;refine cO Tryz.func30 ?_
 repeat' (first
  |(refine qz ?_;first
   |refine uN (cs:=ij s.hd) ?_ (hle:=by rw[dh];decide) (hc:=De _ _)
   |refine ld (c := .lsl 0 k 0 s.ps.length s.ps.length 0) ?_ (hc:=zg _ _)
   |refine cl ?_ (hi:=by exact oP hs.hd rfl)
   |refine nN ?_
   |refine sP ?_)
  |refine zz ?_|refine zx (fun _=>?_) (fun _=>?_)|fail)
 refine WX.bN (σ:=Nat) (fun j=>[(1,.one (.ptr 1 0)),(25,.one (.lsl 0 k 0 s.ps.length s.ps.length 0)),(26,.one (.int .i64 (s.ps.length:Nat))),(27,.one (.int .i64 (j:Nat)))]) (fun j=>[.late L,.cells (d9 s.hd (.lsl 0 k 0 s.ps.length s.ps.length 0)) 36 false false]) (fun j=>j<=s.ps.length) (fun j=>s.ps.length-j) 0 (Nat.zero_le _) (fun j _=>(mZ (objs:=by repeat' (first|exact ak.nil|refine ak.cons (bC (show 0<_ from Nat.le_of_ble_eq_true rfl)) ?_|refine kz ?_)))) (bq [0,1] (obj:=by(repeat' (first|exact af.nil|refine aH rfl rfl ?_|refine oz ?_));first|done|fail)) ?_;intro j hj ih
 by_cases hlt:j<s.ps.length
 ·obtain⟨a1,a2,a3⟩:=hall j hlt;have hok:=hs.pics j hlt;have hsf:=vf (ps:=s.ps) a1 a2 0
  obtain⟨p,hpe⟩:∃p,s.ps.getD j default=p:=⟨_,rfl⟩
  obtain⟨a,hae⟩:∃a,l.getD j default=a:=⟨_,rfl⟩
  have hae':l.getD (j:Int).toNat default=a:=hae;rw[hpe]at a3 hok hsf;rw[hae]at a3 hsf;have hgs:=hok.gs;rw[show(((s.hd.cols*s.hd.rows).toNat:Nat):Int)=s.hd.cols*s.hd.rows by omega]at hgs;have hid:=hok.id;have hfw:=hok.few;have hfi:=hok.first
  obtain⟨P,hP⟩:∃P,p.ph=P:=⟨_,rfl⟩
  have hph:=hok.ph;rw[hP]at hgs hid hfi hph hsf;have hsf:(nK (l.getD (j:Int).toNat default)).map (·.self 0)=sT P (.lsl 0 a.k 0 p.gs.length p.gs.length 0):=by rw[hae'];exact hsf
  have hlt2:j<l.length:=by omega
  by_cases h0:j=0
  ·have hfi:=hfi h0;obtain⟨pid,pin,pdn,pqp⟩:=P;obtain rfl:pin=false:=hfi
   repeat' (first
    |(refine qz ?_;first
     |refine nN ?_
     |refine sP ?_
     |refine nH (zs:=sT ⟨0,false,false,0⟩ .nils) (hz:=sI) ?_
     |refine kn (enc:=nK) ?_ hl hlt2 (hc':=hsf)
     |refine uN (cs:=xK P) ?_ (hle:=by decide) (hc:=by exact rfl)
     |refine cl ?_ (hi:=by exact l6 hph rfl)
     |refine lg ?_ (hle:=by rw[dh])
     |refine cl ?_ (hi:=by exact xu (i:=0) a3 rfl hph hgs (by omega) (by omega) rfl rfl))
    |refine zz ?_|refine zx (fun _=>?_) (fun _=>?_)|fail)
   exact ih (j+1) _ _ _ (bq [0,1] (obj:=by(repeat' (first|exact af.nil|refine aH rfl rfl ?_|refine oz ?_));first|done|fail)) (by omega) (by omega)
  ·repeat' (first
    |(refine qz ?_;first
     |refine nN ?_
     |refine sP ?_
     |refine nH (zs:=sT ⟨0,false,false,0⟩ .nils) (hz:=sI) ?_
     |refine kn (enc:=nK) ?_ hl hlt2 (hc':=hsf)
     |refine uN (cs:=xK P) ?_ (hle:=by decide) (hc:=by exact rfl)
     |refine cl ?_ (hi:=by exact l6 hph rfl)
     |refine lg ?_ (hle:=by rw[dh])
     |refine cl ?_ (hi:=by exact xu (i:=0) a3 rfl hph hgs (by omega) (by omega) rfl rfl))
    |refine zz ?_|refine zx (fun _=>?_) (fun _=>?_)|fail)
   exact ih (j+1) _ _ _ (bq [0,1] (obj:=by(repeat' (first|exact af.nil|refine aH rfl rfl ?_|refine oz ?_));first|done|fail)) (by omega) (by omega)
 ·repeat' (first
   |(refine qz ?_;first
    |refine nN ?_)
   |refine zz ?_|refine zx (fun _=>?_) (fun _=>?_)|fail)
  show aE _ _ _ _ _ _ _ _;refine kV [0] ?_;rfl
theorem GS{s:wC}(hs:xd s){L:List (List XC)}{k n i:Nat}(hp:po L k s.ps)(hn:s.ps.length=n){HS:ah}(hi:HS[i]? = some (.late L))(hbd:Nat.blt HS.length Mem.bound=true) :
 aA.Sound prog ⟨30,[.agg (d9 s.hd (.lsl i k 0 n n 0))],HS,.one (.int .i64 0),HS,[]⟩:=
 f_ [i] (C7 hs hp hn) (by simp) (.flat hi .nil) (.flat .nil) (.cons (p8 (show 0<_ from Nat.le_of_ble_eq_true rfl)) .nil) (.cons (m7 rfl) .nil) trivial rfl hbd rfl
end Go.Proofs.YthdciapjllppjaaGreat
namespace Go.Xm
variable [av]
variable {P:Program} {ops:Array Oper} {nt nI:Nat} {al:aL} {hs:ah} {o:Oper} {l:List Oper} {L:List aA} {K:List Ab->aL->ah->Prop} {d:Nat}
theorem DE(c:XC)(n:Nat):eE [c] n=List.replicate n c:=by
 apply List.ext_getElem?;intro i;unfold eE;rw[List.getElem?_map,List.getElem?_replicate]
 by_cases h:i<n
 ·rw[List.getElem?_range h,if_pos h];simp[Nat.mod_one]
 ·rw[List.getElem?_eq_none (by simpa using h),if_neg h];rfl
theorem Um{t e:TypeId}{a b:Operand}{c:XC}{kl kc:IntKind}{x y:Int}{n:Nat}{N:Nat}{hs':ah}(hk:SK P ops nt L l ((d,.one (.slice N 0 n (.exact n)))::al) hs' fun bs=>K (⟨true,.none,[N]⟩::bs))(hx:x=(n:Nat))(hy:y=(n:Nat))(ho:o.op = .makeSlice t a b:=by exact rfl)(hu:aG P t (.slice e):=by infer_instance)(hz:aK P e [c]:=by infer_instance)(hI:TI P e 1:=by infer_instance)(wn:Wn ops nt al o d:=by exact⟨rfl,rfl,rfl⟩)(ha:ag (rg al) a = .one (.int kl x):=by exact rfl)(hb:ag (rg al) b = .one (.int kc y):=by exact rfl)(hn:n<=2000000000:=by first|omega|exact Nat.le_of_ble_eq_true rfl)(hN:hs.length=N:=by exact n2)(hbd:Nat.blt N Mem.bound=true:=by exact rfl)(hh:hs++[.cells (List.replicate n c) e false false]=hs':=by exact n3):SK P ops nt L (o::l) al hs K:=by
 subst hN hh hx hy;refine SK.lift wn.e wn.l (fun _=>?_) hk;intro m hm;obtain⟨m',h1,h2,h3⟩:=hm.push (.cells (List.replicate n c) e false false) (by simpa [Nat.blt_eq]using hbd);refine⟨m',?_,h2,h3⟩;unfold iT;rw[wn.w];refine bW (by rw[ho];rfl) (by rw[ho];rfl) (by rw[ho];rfl) ?_;rw[ho];obtain⟨ti,hti,hs1,hby⟩:=hI.get
 have hbb:(ti.bytes:Int)*(n:Nat)<=281474976710656:=by
  have:(ti.bytes:Int)*(n:Nat)<=65536*(n:Nat):=Int.mul_le_mul_of_nonneg_right (by omega) (by omega);omega
 simp only[bX,gY,dk,hu.out,ha,hb,hti,hz.out,hs1,Int.toNat_natCast,Nat.mul_one,DE,h1,hm.n];rw[if_pos ⟨by omega,by omega,by omega,hbb,by simp⟩]
end Go.Xm
namespace Go.Proofs.YthdciapjllppjaaGreat
open Go.Xm
variable [av]
def bl(l:List Bool):List XC:=l.map .bool
theorem Il(l:List Bool):(bl l).length=l.length:=List.length_map ..
theorem L3(l:List Bool):(bl l).all XC.shut=true:=by
 unfold bl;rw[List.all_map];exact List.all_eq_true.2 fun b _=>rfl
instance Tb (l:List Bool) (e:TypeId) (a b:Bool):cf (.cells (bl l) e a b):=gG (L3 l)
theorem OR(n:Nat)(b:Bool):bl (List.replicate n b)=List.replicate n (.bool b):=by unfold bl;rw[List.map_replicate]
theorem Im(l:List Bool)(i:Nat)(b:Bool):(bl l).set i (.bool b)=bl (l.set i b):=by unfold bl;rw[List.map_set]
theorem Rn{l:List Bool}{i:Nat}(hi:i<l.length):(bl l)[i]? = some (.bool (l.getD i false)):=by
 unfold bl;rw[List.getElem?_map,List.getElem?_eq_getElem hi,List.getD_eq_getElem?_getD,List.getElem?_eq_getElem hi];rfl
abbrev pt(c r:Int)(x:XC):List XC:=[.int .i64 c,.int .i64 r,x]
def ny(b:Bool)(n k:Nat):List Bool:=List.replicate k b++List.replicate (n-k) false
theorem FY(b:Bool){n k:Nat}(h:k<=n):(ny b n k).length=n:=by simp[ny];omega
theorem FZ(b:Bool){n k:Nat}(h:k<n):(ny b n k).set k b=ny b n (k+1):=by
 unfold ny;rw[List.set_append_right _ _ (by simp),List.length_replicate,Nat.sub_self,show n-k=(n-(k+1))+1 by omega,List.replicate_succ,List.set_cons_zero,List.replicate_succ',List.append_assoc];rfl
theorem FW(b:Bool)(n:Nat):ny b n n=List.replicate n b:=by simp[ny]
theorem IE{c r:Int}(hc:1<=c/\c<=8)(hr:1<=r/\r<=8)(b:Bool){n:Nat}(hn:c*r=n)(hn2:1<=n/\n<=64) :
 bm prog 39 [.one (.int .i64 c),.one (.int .i64 r),.one (.bool b)] [] (.agg (pt c r (.slice 0 0 n (.exact n)))) [.cells (bl (List.replicate n b)) 4 false false]:=by
 have h1:min (max c 0) 8=c:=by omega
 have h2:min (max r 0) 8=r:=by omega
 refine cO Tryz.func39 ?_
 repeat' (first
  |(refine qz ?_;first
   |refine Um (n:=n) ?_ hn hn)
  |refine zz ?_|refine zx (fun _=>?_) (fun _=>?_)|fail)
 refine WX.bN (σ:=Nat) (fun k=>[(2,.one (.bool b)),(6,.one (.ptr 1 0)),(7,.one (.ptr 2 0)),(24,.one (.int .i64 (n:Nat))),(25,.one (.int .i64 (k:Nat)))]) (fun k=>[.cells (bl (ny b n k)) 4 false false,.cells (pt 0 0 .nils) 75 false false,.cells (pt c r (.slice 0 0 n (.exact n))) 75 false false]) (fun k=>k<=n) (fun k=>n-k) 0 (Nat.zero_le _) (fun k _=>stM) (bq [1,0,2] (obj:=by(repeat' (first|exact af.nil|refine af.flat (by rw[show bl (ny b n 0)=List.replicate n (.bool false)from(by unfold ny;rw[List.replicate_zero,List.nil_append];exact OR _ _)];rfl) ?_|refine oz ?_));first|done|fail)) ?_;intro k hk ih;have hl:=FY b hk
 by_cases hlt:k<n
 ·have e1:=FZ b hlt;have e2:(bl (ny b n k)).set k (.bool b)=bl (ny b n (k+1)):=by rw[Im,e1]
  repeat' (first
   |(refine qz ?_;first
    |refine st (c := .bool b) ?_ (hle:=by rw[Il,hl];exact hlt) (hv:=e2))
   |refine zz ?_|refine zx (fun _=>?_) (fun _=>?_)|fail)
  exact ih (k+1) _ _ _ (bq [0,1,2]) (by omega) (by omega)
 ·obtain rfl:k=n:=by omega
  rw[FW]
  repeat' (first|refine zz ?_|refine zx (fun _=>?_) (fun _=>?_)|fail)
  show aE _ _ _ _ _ _ _ _;refine kV [0] ?_ (hr:=gq.one rfl (.cell rfl rfl (cC rfl) .nil)) (hok:=(fun x hx=>by
   simp only[List.mem_cons,List.not_mem_nil,or_false]at hx
   rcases hx with rfl|rfl|rfl<;>first|trivial|exact Nat.zero_lt_one))
  rfl
theorem Ee{c r:Int}{x:XC}{n:Nat}(h:x.ok n):(XV.agg (pt c r x)).bt n:=fun y hy=>by
 simp only[List.mem_cons,List.not_mem_nil,or_false]at hy
 rcases hy with rfl|rfl|rfl
 ·trivial
 ·trivial
 ·exact h
theorem Ef{c r:Int}(hc:1<=c/\c<=8)(hr:1<=r/\r<=8){b:Bool}{n:Nat}(hn:c*r=n)(hn2:1<=n/\n<=64){l:List Bool}(hl:List.replicate n b=l){HS:ah}{N:Nat}(hN:HS.length=N){HS':ah}(hh:HS++[.cells (bl l) 4 false false]=HS')(hbd:Nat.blt HS'.length Mem.bound=true) :
 aA.Sound prog ⟨39,[.one (.int .i64 c),.one (.int .i64 r),.one (.bool b)],HS,.agg (pt c r (.slice N 0 n (.exact n))),HS',[]⟩:=by
 subst hN hl;exact bh [] [] 1 (IE hc hr b hn hn2) (by simp) .nil .nil (.flat .nil) rfl (.flat (.flat (.flat .nil))) (.flat (.flat (.flat .nil))) (Ee (show 0<1 by omega)) rfl (.flat .nil) rfl rfl hh hbd (.inl rfl)
theorem IF{c r:Int}{n:Nat}{l:List Bool}(hl:l.length=n)(mb:Nat)(hm:mb<n)(hn:n<=64)(b:Bool) :
 bm prog 40 [.agg (pt c r (.slice 0 0 n (.exact n))),.one (.int .i64 (mb:Nat)),.one (.bool b)] [.cells (bl l) 4 false false] (.tup []) [.cells (bl (l.set mb b)) 4 false false]:=by
 refine cO Tryz.func40 ?_
 repeat' (first
  |(refine qz ?_;first
   |refine st (c := .bool b) ?_ (hle:=by rw[Il,hl];exact hm) (hv:=Im l mb b))
  |refine zz ?_|refine zx (fun _=>?_) (fun _=>?_)|fail)
 show aE _ _ _ _ _ _ _ _;refine kV [0] ?_;rfl
theorem Md{c r:Int}{n:Nat}{l:List Bool}(hl:l.length=n){z:Int}{mb:Nat}(hz:z=(mb:Nat))(hm:mb<n)(hn:n<=64){b:Bool}{l':List Bool}(hl':l.set mb b=l'){HS:ah}{i:Nat}(hi:HS[i]? = some (.cells (bl l) 4 false false)){HS':ah}(hh:HS.set i (.cells (bl l') 4 false false)=HS')(hbd:Nat.blt HS'.length Mem.bound=true) :
 aA.Sound prog ⟨40,[.agg (pt c r (.slice i 0 n (.exact n))),.one (.int .i64 z),.one (.bool b)],HS,.tup [],HS',[i]⟩:=by
 subst hz hl';exact bh [i] [i] 0 (IF hl mb hm hn b) (by simp) (.flat hi .nil) (.flat .nil) (.flat .nil) rfl (.cons (Ee (show 0<1 by omega)) (.flat (.flat .nil))) (.cons rfl (.flat (.flat .nil))) (by simp[XV.bt]) rfl (.flat .nil) rfl rfl (by simp only[bD,List.append_nil];exact hh) hbd (.inl rfl)
def tj(l:List Bool):Nat->Int
 | 0=>0
 | k+1=>if l.getD k false=true then tj l k+1 else tj l k
theorem Af(l:List Bool):∀k,0<=tj l k/\tj l k<=k
 | 0=>by unfold tj;omega
 | k+1=>by
   have:=Af l k;rw[tj];split<;>omega
theorem Co{c r:Int}{L:List (List XC)}{x:XC}{l:List Bool}(hx:cy L 0 x (bl l) l.length)(hn:l.length<=64) :
 bm prog 37 [.agg (pt c r x)] [.late L] (.one (.int .i64 (tj l l.length))) [.late L]:=by
 have hok:x.ok 1:=hx.ok (Nat.lt_succ_self 0);refine cO Tryz.func37 ?_
 repeat' (first
  |(refine qz ?_;first
   |refine ll ?_)
  |refine zz ?_|refine zx (fun _=>?_) (fun _=>?_)|fail)
 refine WX.bN (σ:=Nat) (fun k=>[(7,.one x),(8,.one (.int .i64 (l.length:Nat))),(3,.one (.int .i64 (tj l k))),(9,.one (.int .i64 (k:Nat)))]) (fun k=>[.late L]) (fun k=>k<=l.length) (fun k=>l.length-k) 0 (Nat.zero_le _) (fun k _=>stM) (bq [0] (reg:=by(repeat' (first|exact ae.nil|refine ae.gO rfl (by assumption) rfl ?_|refine rz ?_|refine ae.sl rfl (by assumption) rfl ?_));first|done|fail)) ?_;intro k hk ih;have hr:=Af l k
 by_cases hlt:k<l.length
 ·have hat:=Rn hlt;have e1:tj l (k+1)=if l.getD k false=true then tj l k+1 else tj l k:=rfl
  obtain⟨b,hb⟩:∃b,l.getD k false=b:=⟨_,rfl⟩
  rw[hb]at hat e1
  cases b with
  | true=>
    rw[if_pos rfl]at e1
    repeat' (first
     |(refine qz ?_;first
      |refine ll ?_
      |refine sc (fun kk hkk=>?_)
      |refine se (x := .bool true) ?_ (by assumption) hat rfl)
     |refine zz ?_|refine zx (fun _=>?_) (fun _=>?_)|fail)
    exact ih (k+1) _ _ _ (bq [0] (reg:=by(repeat' (first|exact ae.nil|refine ae.gO rfl (by assumption) rfl ?_|refine ae.flat (by rw[e1];rfl) ?_|refine rz ?_|refine ae.sl rfl (by assumption) rfl ?_));first|done|fail)) (by omega) (by omega)
  | false=>
    rw[if_neg (by decide)]at e1
    repeat' (first
     |(refine qz ?_;first
      |refine ll ?_
      |refine sc (fun kk hkk=>?_)
      |refine se (x := .bool false) ?_ (by assumption) hat rfl)
     |refine zz ?_|refine zx (fun _=>?_) (fun _=>?_)|fail)
    exact ih (k+1) _ _ _ (bq [0] (reg:=by(repeat' (first|exact ae.nil|refine ae.gO rfl (by assumption) rfl ?_|refine ae.flat (by rw[e1];rfl) ?_|refine rz ?_|refine ae.sl rfl (by assumption) rfl ?_));first|done|fail)) (by omega) (by omega)
 ·obtain rfl:k=l.length:=by omega
  repeat' (first
   |(refine qz ?_;first
    |refine ll ?_)
   |refine zz ?_|refine zx (fun _=>?_) (fun _=>?_)|fail)
  show aE _ _ _ _ _ _ _ _;refine kV [0] ?_;rfl
theorem FM{c r:Int}{L:List (List XC)}{x:XC}{l:List Bool}{i:Nat}(hx:cy L i x (bl l) l.length)(hn:l.length<=64){z:Int}(hz:tj l l.length=z){HS:ah}(hi:HS[i]? = some (.late L))(hbd:Nat.blt HS.length Mem.bound=true) :
 aA.Sound prog ⟨37,[.agg (pt c r x)],HS,.one (.int .i64 z),HS,[]⟩:=by
 subst hz;obtain⟨c0,h0,rfl⟩:=hx.back 0 (nth [i]) rfl;exact f_ [i] (Co h0 hn) (by simp) (.flat hi .nil) (.flat .nil) (.cons (Ee (h0.ok (Nat.lt_succ_self 0))) .nil) (.cons rfl .nil) trivial rfl hbd rfl
end Go.Proofs.YthdciapjllppjaaGreat
