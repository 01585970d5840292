/-
  A part of the proof: Macro, Made, Made2, AtK, StrF, StrG, StrL, StrB, StrR, StrJ, WkF.
-/
import Derived.Test.YthdciapjllppjaaGreatWaF
import Derived.Test.YthdciapjllppjaaGreatWaQ
import Derived.Test.YthdciapjllppjaaGreatWaR
import Derived.Test.YthdciapjllppjaaGreatWaS
import Derived.Test.YthdciapjllppjaaGreatWaZ
set_option maxRecDepth 10000
set_option maxHeartbeats 8000000
set_option linter.unusedVariables false
set_option linter.unusedSectionVars false
set_option linter.unusedSimpArgs false
open Go.Proofs.Tryz (prog)
namespace Go.Proofs.YthdciapjllppjaaGreat
open Go.Xm
variable [ak]
theorem s8(m:Mb)(z:Int):(mC m).set 0 (.int .u8 z)=mC {m with kind:=z}:=rfl
theorem Q2(m:Mb)(z:Int):(mC m).set 1 (.int .i64 z)=mC {m with qp:=z}:=rfl
theorem Lu(m:Mb)(b:Bool):(mC m).set 6 (.bool b)=mC {m with edge:=b}:=rfl
theorem Nc(m:Mb)(q:Nat->Int×Int):(mC m).take 2++vt q++(mC m).drop (2+4)=mC {m with v:=q}:=rfl
theorem Lv(m:Mb)(j:Nat)(z:Int):(mC m).set (7+j) (.int .i64 z)=mC {m with lev:=fV m.lev j z}:=by
 unfold mC;rw[Nat.add_comm];simp only[List.set_cons_succ];rw[rX]
theorem s9(m:Mb)(k i:Nat)(z:Int):(mC m).set (7+k*64+i) (.int .i64 z)=mC {m with lev:=fV m.lev (k*64+i) z}:=by
 rw[Nat.add_assoc];exact Lv m _ z
theorem gV(m:Mb):(mC m)[0]? = some (.int .u8 m.kind):=rfl
theorem AG{x:Int}(h:0<=x/\x<4):([.int .i64 (-2),.int .i64 (-1),.int .i64 1,.int .i64 2]:List XC)[x.toNat]? = some (.int .i64 (tj x)):=by
 have:x=0\/x=1\/x=2\/x=3:=by omega
 rcases this with rfl|rfl|rfl|rfl<;>rfl
theorem Ju(s:Sm){k:Nat}(hk:k<6):(th s)[12+k]? = some (.int .u64 (s.ig k)):=by
 match k,hk with
 | 0,_=>rfl
 | 1,_=>rfl
 | 2,_=>rfl
 | 3,_=>rfl
 | 4,_=>rfl
 | 5,_=>rfl
theorem Ip(s:Sm)(al:Bool)(k:Nat){y:Int×(Nat->Int)}(hy:pe s k (jH s al k) 64=y):jH s al (k+1)=(y.1,if al=true then fV y.2 (k*64) (y.1/2^20%128)else y.2):=by
 subst hy;rfl
theorem Io(s:Sm)(k:Nat)(x:Int×(Nat->Int))(i:Nat){y:Int×(Nat->Int)}(hy:pe s k x i=y):pe s k x (i+1)=(v8 y.1,if s.ig k/2^i%2=1 then(if s.great=true then fV (fV y.2 (k*64+i) (v8 y.1/2^16%7-3)) (k*64+i) (v8 y.1/2^16%1001-500)else fV y.2 (k*64+i) (v8 y.1/2^16%7-3))else y.2):=by
 subst hy;rfl
abbrev Kz(K Q:Int):Mb:={zV with kind:=K,qp:=Q}
theorem Lx{s : Sm}(hs:iQ s)(inter:Bool){qp:Int}(hq:1<=qp/\qp<=31):bq prog 29 [.agg (th s),.one (.bool inter),.one (.int .i64 qp)] [] (.agg (mC (nS s inter qp))) []:=by
 have hk:=hs.kind;have hst:=hs.step;have hkq:=zS s inter qp hs hq;refine cO Tryz.func29 ?_
 repeat' (first
  |(refine qz ?_;first
   |refine jG (zs:=mC zV) (hz:=rf) ?_
   |refine bS (zs:=mC zV) (hz:=rf) ?_
   |refine nr (cs:=mC (Kz (s.kind%5) qp)) ?_ (hs1:=by rw[bl]) (hs2:=by rw[bl]))
  |refine WX.B4 2 (σ:=Int) (fun K=>[(1,.one (.bool inter)),(2,.one (.int .i64 qp)),(3,.one (.ptr 0 0)),(6,.one (.ptr 1 0)),(7,.one (.ptr 2 0))]) (fun K=>[.cells (th s) 99 false false,.cells (mC zV) 107 false false,.cells (mC (Kz K qp)) 107 false false]) (fun K=>lV s inter=K) (fun s _=>nf) ?_ ?_|refine zz ?_|refine zx (fun _=>?_) (fun _=>?_)|fail)
 ·intro _;cases inter
  ·repeat' (first
    |(refine qz ?_;first
     |refine st ?_ (hle:=by rw[bl];omega) (hv:=s8 _ _))
    |refine zz ?_|refine zx (fun _=>?_) (fun _=>?_)|fail)
   (first|exact⟨lV s false,_,rfl,(bV [0,1,2])⟩|exact⟨rfl,lV s false,_,rfl,(bV [0,1,2])⟩)
  ·repeat' (first|refine zz ?_|refine zx (fun _=>?_) (fun _=>?_)|fail)
   (first|exact⟨lV s true,_,rfl,(bV [0,1,2])⟩|exact⟨rfl,lV s true,_,rfl,(bV [0,1,2])⟩)
 ·intro K hK
  have hkr:0<=K/\K<=4:=by
   rw[<-hK];unfold lV;split<;>omega
  refine WX.B4 4 (σ:=Int×Int) (fun x=>[(1,.one (.bool inter)),(2,.one (.int .i64 qp)),(3,.one (.ptr 0 0)),(6,.one (.ptr 1 0)),(7,.one (.ptr 2 0))]) (fun x=>[.cells (th s) 99 false false,.cells (mC zV) 107 false false,.cells (mC (Kz x.1 x.2)) 107 false false]) (fun x=>d_ s inter qp=x) (fun s _=>nf) ?_ ?_
  ·intro _;have hb:=Mr (s.step%4)
   by_cases h4:K=4
   ·by_cases hr:1<=qp+tj (s.step%4)/\qp+tj (s.step%4)<=31
    ·have e0:d_ s inter qp=(4,qp+tj (s.step%4)):=by unfold d_;rw[hK,if_pos h4,if_pos hr]
     have hr1:=hr.1;have hr2:=hr.2
     repeat' (first
      |(refine qz ?_;first
       |refine ld (c := .int .u8 K) ?_ (hc:=gV _)
       |refine st (c := .int .u8 3) ?_ (hle:=by rw[bl];omega) (hv:=s8 _ _)
       |refine st (c := .int .u8 4) ?_ (hle:=by rw[bl];omega) (hv:=s8 _ _)
       |refine st (c := .int .i64 (qp+tj (s.step%4))) ?_ (hle:=by rw[bl];omega) (hv:=Q2 _ _)
       |refine cl ?_ (hi:=by exact vf rfl)
       |refine Ky ?_ (hc:=AG (by omega)))
      |refine zz ?_|refine zx (fun _=>?_) (fun _=>?_)|fail)
     (first|exact⟨(4,qp+tj (s.step%4)),_,e0,(bV [0,1,2])⟩|exact⟨rfl,(4,qp+tj (s.step%4)),_,e0,(bV [0,1,2])⟩)
    ·have e0:d_ s inter qp=(3,qp):=by unfold d_;rw[hK,if_pos h4,if_neg hr]
     repeat' (first
      |(refine qz ?_;first
       |refine ld (c := .int .u8 K) ?_ (hc:=gV _)
       |refine st (c := .int .u8 3) ?_ (hle:=by rw[bl];omega) (hv:=s8 _ _)
       |refine cl ?_ (hi:=by exact vf rfl)
       |refine Ky ?_ (hc:=AG (by omega)))
      |refine zz ?_|refine zx (fun _=>?_) (fun _=>?_)|fail)
     all_goals first|(exfalso;omega)|(first|exact⟨(3,qp),_,e0,(bV [0,1,2])⟩|exact⟨rfl,(3,qp),_,e0,(bV [0,1,2])⟩)
   ·have e0:d_ s inter qp=(K,qp):=by unfold d_;rw[hK,if_neg h4]
    repeat' (first
     |(refine qz ?_;first
      |refine ld (c := .int .u8 K) ?_ (hc:=gV _))
     |refine zz ?_|refine zx (fun _=>?_) (fun _=>?_)|fail)
    (first|exact⟨(K,qp),_,e0,(bV [0,1,2])⟩|exact⟨rfl,(K,qp),_,e0,(bV [0,1,2])⟩)
  ·intro H hH;rw[hH]at hkq;obtain⟨k0,k4,q1,q31,-,-,-⟩:=hkq
   obtain⟨q,hwq⟩:∃q,sP s.wy=q:=⟨_,rfl⟩
   by_cases h0:H.1=0
   ·have eM:nS s inter qp=Kz H.1 H.2:=by
     unfold nS;rw[hH];have e1:o5 H.1 s.wy=fun _=>(0,0):=by unfold o5;rw[if_neg (by omega),if_neg (by omega)]
     have e2:vY H.1=false:=decide_eq_false (by omega);rw[e1,e2,if_pos h0,if_neg (by decide)];rfl
    rw[eM]
    repeat' (first
     |(refine qz ?_;first
      |refine rG (cs:=Ry s.wy) ?_
      |refine cl ?_ (hi:=by exact Ec hs.wy hwq rfl)
      |refine jG (zs:=vt fun _=>(0,0)) (hz:=zeroV) ?_
      |refine nr (cs:=vt q) ?_ (hs1:=by rfl) (hs2:=by rfl)
      |refine ld (c := .int .u8 H.1) ?_ (hc:=gV _)
      |refine jV ?_ (hle:=by rw[bl])
      |refine nr (cs:=mC (Kz H.1 H.2)) ?_ (hs1:=by rw[bl]) (hs2:=by rw[bl]))
     |refine zz ?_|refine zx (fun _=>?_) (fun _=>?_)|fail)
    show aE _ _ _ _ _ _ _ _;refine kV [] ?_;rfl
   ·obtain ⟨m, hm⟩:∃m:Mb,(⟨H.1,H.2,o5 H.1 s.wy,if vY H.1=true then s.edge else false,fun _=>0⟩:Mb)=m:=⟨_,rfl⟩
    repeat' (first
     |(refine qz ?_;first
      |refine rG (cs:=Ry s.wy) ?_
      |refine cl ?_ (hi:=by exact Ec hs.wy hwq rfl)
      |refine jG (zs:=vt fun _=>(0,0)) (hz:=zeroV) ?_
      |refine nr (cs:=vt q) ?_ (hs1:=by rfl) (hs2:=by rfl))
     |refine WX.B4 10 (σ:=Mb) (fun x=>[(3,.one (.ptr 0 0)),(6,.one (.ptr 1 0)),(7,.one (.ptr 2 0))]) (fun x=>[.cells (th s) 99 false false,.cells (mC zV) 107 false false,.cells (mC x) 107 false false]) (fun x=>m=x) (fun s _=>nf) ?_ ?_|refine zz ?_|refine zx (fun _=>?_) (fun _=>?_)|fail)
    ·intro _
     by_cases h1:H.1=1
     ·have e1:mC m=mC {Kz H.1 H.2 with v:=fun _=>q 0}:=by
       rw[<-hm,<-hwq];have e1:o5 H.1 s.wy=fun _=>sP s.wy 0:=if_pos h1
       have e2:vY H.1=false:=decide_eq_false (by omega);rw[e1,e2,if_neg (by decide)];rfl
      repeat' (first
       |(refine qz ?_;first
        |refine ld (c := .int .u8 H.1) ?_ (hc:=gV _)
        |refine cl ?_ (hi:=by exact NG rfl)
        |refine RU (off:=2) (s:=4) ?_ (hs2:=by rw[bl];omega) (hv:=Nc (Kz H.1 H.2) (fun _=>q 0)))
       |refine zz ?_|refine zx (fun _=>?_) (fun _=>?_)|fail)
      first|exact⟨m,_,rfl,(bV [0,1,2] (obj:=by(repeat' (first|exact af.nil|refine af.flat (by rw[e1];rfl) ?_|refine oz ?_));first|done|fail))⟩|exact⟨rfl,m,_,rfl,(bV [0,1,2] (obj:=by(repeat' (first|exact af.nil|refine af.flat (by rw[e1];rfl) ?_|refine oz ?_));first|done|fail))⟩
     ·by_cases h2:H.1=2
      ·have e1:mC m=mC {Kz H.1 H.2 with v:=q}:=by
        rw[<-hm,<-hwq];have e1:o5 H.1 s.wy=fun k=>if k<4 then sP s.wy k else(0,0):=by unfold o5;rw[if_neg h1,if_pos h2]
        have e2:vY H.1=false:=decide_eq_false (by omega);rw[e1,e2,if_neg (by decide)];rfl
       repeat' (first
        |(refine qz ?_;first
         |refine ld (c := .int .u8 H.1) ?_ (hc:=gV _)
         |refine jV ?_ (hle:=by rfl)
         |refine RU (cs:=vt q) (off:=2) (s:=4) ?_ (hs2:=by rw[bl];omega) (hv:=Nc (Kz H.1 H.2) q))
        |refine zz ?_|refine zx (fun _=>?_) (fun _=>?_)|fail)
       first|exact⟨m,_,rfl,(bV [0,1,2] (obj:=by(repeat' (first|exact af.nil|refine af.flat (by rw[e1];rfl) ?_|refine oz ?_));first|done|fail))⟩|exact⟨rfl,m,_,rfl,(bV [0,1,2] (obj:=by(repeat' (first|exact af.nil|refine af.flat (by rw[e1];rfl) ?_|refine oz ?_));first|done|fail))⟩
      ·have e1:mC m=mC {Kz H.1 H.2 with edge:=s.edge}:=by
        rw[<-hm];have e1:o5 H.1 s.wy=fun _=>(0,0):=by unfold o5;rw[if_neg h1,if_neg h2]
        have e2:vY H.1=true:=decide_eq_true (by omega);rw[e1,e2,if_pos rfl];rfl
       repeat' (first
        |(refine qz ?_;first
         |refine ld (c := .int .u8 H.1) ?_ (hc:=gV _)
         |refine st (c := .bool s.edge) ?_ (hle:=by rw[bl];omega) (hv:=Lu _ _))
        |refine zz ?_|refine zx (fun _=>?_) (fun _=>?_)|fail)
       first|exact⟨m,_,rfl,(bV [0,1,2] (obj:=by(repeat' (first|exact af.nil|refine af.flat (by rw[e1];rfl) ?_|refine oz ?_));first|done|fail))⟩|exact⟨rfl,m,_,rfl,(bV [0,1,2] (obj:=by(repeat' (first|exact af.nil|refine af.flat (by rw[e1];rfl) ?_|refine oz ?_));first|done|fail))⟩
    ·intro x hx;subst hx;have em0:mC m=mC {m with lev:=fun _=>0}:=by rw[<-hm]
     obtain⟨al,hal⟩:∃al,vY H.1=al:=⟨_,rfl⟩
     have hma:alone m=al:=by rw[<-hal,<-hm];rfl
     have eM:nS s inter qp = {m with lev:=(jH s al 6).2}:=by
      unfold nS;rw[hH,if_neg h0,<-hal,<-hm]
     rw[eM];have hsd:=hs.seed
     repeat' (first
      |(refine qz ?_;first
       |refine ld (c := .int .u32 s.seed) ?_)
      |refine zz ?_|refine zx (fun _=>?_) (fun _=>?_)|fail)
     refine WX.cj (σ:=Nat×Int×(Nat->Int)) (fun t=>[(3,.one (.ptr 0 0)),(6,.one (.ptr 1 0)),(7,.one (.ptr 2 0)),(10,.one (.int .u32 t.2.1)),(68,.one (.int .i64 (t.1:Nat)))]) (fun t=>[.cells (th s) 99 false false,.cells (mC zV) 107 false false,.cells (mC {m with lev:=t.2.2}) 107 false false]) (fun t=>t.1<=6/\jH s al t.1=t.2/\0<=t.2.1/\t.2.1<4294967296) (fun t=>6-t.1) (0,s.seed,fun _=>0) ⟨Nat.zero_le _,rfl,hsd.1,hsd.2⟩ (fun s _=>nf) (bV [0,1,2] (obj:=by(repeat' (first|exact af.nil|refine af.flat (by rw[em0];rfl) ?_|refine oz ?_));first|done|fail)) ?_;intro t ⟨ht6,hto,htn⟩ ih
     by_cases hlt:t.1<6
     ·have hkp:=hs.ig t.1 hlt
      repeat' (first|refine zz ?_|refine zx (fun _=>?_) (fun _=>?_)|fail)
      refine WX.cj (σ:=Nat×Int×(Nat->Int)) (fun u=>[(3,.one (.ptr 0 0)),(6,.one (.ptr 1 0)),(7,.one (.ptr 2 0)),(10,.one (.int .u32 u.2.1)),(11,.one (.int .i64 (t.1:Nat))),(68,.one (.int .i64 (t.1:Nat))),(71,.one (.int .i64 (u.1:Nat)))]) (fun u=>[.cells (th s) 99 false false,.cells (mC zV) 107 false false,.cells (mC {m with lev:=u.2.2}) 107 false false]) (fun u=>u.1<=64/\pe s t.1 t.2 u.1=u.2/\0<=u.2.1/\u.2.1<4294967296) (fun u=>64-u.1) (0,t.2) ⟨Nat.zero_le _,rfl,htn⟩ (fun s _=>nf) (bV [0,1,2]) ?_;intro u ⟨hu64,hui,hun⟩ ih2
      by_cases hlu:u.1<64
      ·have hn:=wrap32 (IntKind.u32.wrap (u.2.1*1664525)+1013904223)
       have hd:0<=IntKind.u32.wrap (IntKind.u32.wrap (u.2.1*1664525)+1013904223)/2^(16:Int).toNat/\IntKind.u32.wrap (IntKind.u32.wrap (u.2.1*1664525)+1013904223)/2^(16:Int).toNat<4294967296:=by
        show 0<=IntKind.u32.wrap (IntKind.u32.wrap (u.2.1*1664525)+1013904223)/2^16/\IntKind.u32.wrap (IntKind.u32.wrap (u.2.1*1664525)+1013904223)/2^16<4294967296;omega
       have hk2:=Ju s hlt;have hnx:=Io s t.1 t.2 u.1 hui
       by_cases hbit:s.ig t.1/2^((u.1:Nat):Int).toNat%2^1=1
       ·have hbit':s.ig t.1/2^u.1%2=1:=hbit
        obtain⟨gr,hgr⟩:∃g,s.great=g:=⟨_,rfl⟩
        have hl:(th s)[19]? = some (.bool gr):=by rw[<-hgr];rfl
        rw[if_pos hbit',hgr]at hnx;cases gr
        ·rw[if_neg (by decide)]at hnx
         repeat' (first
          |(refine qz ?_;first
           |refine Sv (k := .u32) ?_
           |refine R6 (k := .u32) ?_
           |refine ld (hc:=hl) ?_
           |refine ld (hc:=hk2) ?_
           |refine an 1 ?_
           |refine st ?_ (hle:=by rw[bl];omega) (hv:=s9 _ _ _ _))
          |refine zz ?_|refine zx (fun _=>?_) (fun _=>?_)|fail)
         exact ih2 (u.1+1,v8 u.2.1,fV u.2.2 (t.1*64+u.1) (v8 u.2.1/2^16%7-3)) _ _ _ (bV [0,1,2]) ⟨by show u.1+1<=64;omega,hnx,hn.1,hn.2⟩ (by show 64-(u.1+1)<64-u.1;omega)
        ·rw[if_pos rfl]at hnx
         repeat' (first
          |(refine qz ?_;first
           |refine Sv (k := .u32) ?_
           |refine R6 (k := .u32) ?_
           |refine ld (hc:=hl) ?_
           |refine ld (hc:=hk2) ?_
           |refine an 1 ?_
           |refine st ?_ (hle:=by rw[bl];omega) (hv:=s9 _ _ _ _))
          |refine zz ?_|refine zx (fun _=>?_) (fun _=>?_)|fail)
         exact ih2 (u.1+1,v8 u.2.1,fV (fV u.2.2 (t.1*64+u.1) (v8 u.2.1/2^16%7-3)) (t.1*64+u.1) (v8 u.2.1/2^16%1001-500)) _ _ _ (bV [0,1,2]) ⟨by show u.1+1<=64;omega,hnx,hn.1,hn.2⟩ (by show 64-(u.1+1)<64-u.1;omega)
       ·have hbit':¬s.ig t.1/2^u.1%2=1:=hbit;rw[if_neg hbit']at hnx
        repeat' (first
         |(refine qz ?_;first
          |refine Sv (k := .u32) ?_
          |refine R6 (k := .u32) ?_
          |refine ld (hc:=hk2) ?_
          |refine an 1 ?_
          |refine st ?_ (hle:=by rw[bl];omega) (hv:=s9 _ _ _ _))
         |refine zz ?_|refine zx (fun _=>?_) (fun _=>?_)|fail)
        exact ih2 (u.1+1,v8 u.2.1,u.2.2) _ _ _ (bV [0,1,2]) ⟨by show u.1+1<=64;omega,hnx,hn.1,hn.2⟩ (by show 64-(u.1+1)<64-u.1;omega)
      ·have e64:u.1=64:=by omega
       rw[e64,<-hto]at hui;have hox:=Ip s al t.1 hui
       have hd:0<=u.2.1/2^(20:Int).toNat/\u.2.1/2^(20:Int).toNat<4294967296:=by
        show 0<=u.2.1/2^20/\u.2.1/2^20<4294967296;omega
       cases al
       ·rw[if_neg (by decide)]at hox
        repeat' (first
         |(refine qz ?_;first
          |refine jV ?_ (hle:=by rw[bl])
          |refine cl ?_ (hi:=by exact lR (m:={m with lev:=u.2.2}) (b:=false) hma rfl))
         |refine zz ?_|refine zx (fun _=>?_) (fun _=>?_)|fail)
        exact ih (t.1+1,u.2.1,u.2.2) _ _ _ (bV [0,1,2]) ⟨by show t.1+1<=6;omega,hox,hun⟩ (by show 6-(t.1+1)<6-t.1;omega)
       ·rw[if_pos rfl]at hox
        repeat' (first
         |(refine qz ?_;first
          |refine jV ?_ (hle:=by rw[bl])
          |refine cl ?_ (hi:=by exact lR (m:={m with lev:=u.2.2}) (b:=true) hma rfl)
          |refine st ?_ (hle:=by rw[bl];omega) (hv:=s9 _ _ 0 _))
         |refine zz ?_|refine zx (fun _=>?_) (fun _=>?_)|fail)
        exact ih (t.1+1,u.2.1,fV u.2.2 (t.1*64) (u.2.1/2^20%128)) _ _ _ (bV [0,1,2]) ⟨by show t.1+1<=6;omega,hox,hun⟩ (by show 6-(t.1+1)<6-t.1;omega)
     ·have e6:t.1=6:=by omega
      rw[e6]at hto;rw[hto]
      repeat' (first
       |(refine qz ?_;first
        |refine jV ?_ (hle:=by rw[bl])
        |refine nr ?_ (hs1:=by rw[bl]) (hs2:=by rw[bl]))
       |refine zz ?_|refine zx (fun _=>?_) (fun _=>?_)|fail)
      show aE _ _ _ _ _ _ _ _;refine kV [] ?_;rfl
theorem Oh{s:Sm}(hs:iQ s){inter:Bool}{qp:Int}(hq:1<=qp/\qp<=31){m:Mb}(hm:nS s inter qp=m){HS:ah}(hb:Nat.blt HS.length Mem.bound=true):az.Sound prog ⟨29,[.agg (th s),.one (.bool inter),.one (.int .i64 qp)],HS,.agg (mC m),HS,[]⟩:=by
 subst hm;exact ay (Lx hs inter hq) rfl (jW _) hb
abbrev SD:Sm:=⟨0,0,⟨fun _=>0,fun _=>0,false⟩,false,fun _=>0,0,false⟩
instance S5:Inhabited Sm:=⟨SD⟩
theorem HI(g:Hd)(z:Int):(b7 g).set 0 (.int .i64 z)=b7 {g with cols:=z}:=rfl
theorem PO:aL prog 99 (th SD):=by
 show aL prog 99 [.int .u8 0,.int .u8 0,.int .i8 0,.int .i8 0,.int .i8 0,.int .i8 0,.int .i8 0,.int .i8 0,.int .i8 0,.int .i8 0,.bool false,.bool false,.int .u64 0,.int .u64 0,.int .u64 0,.int .u64 0,.int .u64 0,.int .u64 0,.int .u32 0,.bool false]
 infer_instance
abbrev m8(K:Nat):ah:=[eZ (K+1) (K+5) (K+9),aW (K+2) (K+3) (K+4) cM,c6 cM,c9 cM,c7 cM,aW (K+6) (K+7) (K+8) cZ,c6 cZ,c9 cZ,c7 cZ,aW (K+10) (K+11) (K+12) cP,c6 cP,c9 cP,c7 cP]
abbrev Bn(K:Nat)(r:List Nat):List Nat:=K::(K+1)::(K+2)::(K+3)::(K+4)::(K+5)::(K+6)::(K+7)::(K+8)::(K+9)::(K+10)::(K+11)::(K+12)::r
theorem Iy(K:Nat)(r:List Nat):∀j,j<13->nth (Bn K r) j=K+j:=fun j hj=>by
 match j,hj with
 | 0,_=>rfl
 | 1,_=>rfl
 | 2,_=>rfl
 | 3,_=>rfl
 | 4,_=>rfl
 | 5,_=>rfl
 | 6,_=>rfl
 | 7,_=>rfl
 | 8,_=>rfl
 | 9,_=>rfl
 | 10,_=>rfl
 | 11,_=>rfl
 | 12,_=>rfl
theorem Lo{HS:ah}{K:Nat}(hS:(HS.drop K).take 13=m8 K){τ : Nat->Nat}(h:∀j,j<13 -> τ j=K+j){ls:List Nat}{l:ah}(hl:af τ HS ls l):af τ HS (Bn K ls) (kW++l):=by
 have g:∀j,j<13->HS[K+j]? = (m8 K)[j]?:=fun j hj=>by rw[<-hS,List.getElem?_take_of_lt hj,List.getElem?_drop]
 have g0:HS[K]? = some (eZ (K+1) (K+5) (K+9)):=g 0 (by decide);have h1:=h 1 (by decide);have h2:=h 2 (by decide);have h3:=h 3 (by decide);have h4:=h 4 (by decide);have h5:=h 5 (by decide);have h6:=h 6 (by decide);have h7:=h 7 (by decide);have h8:=h 8 (by decide);have h9:=h 9 (by decide);have h10:=h 10 (by decide);have h11:=h 11 (by decide);have h12:=h 12 (by decide);refine .cons ?_ (.cons ?_ (.flat (g 2 (by decide)) (.flat (g 3 (by decide)) (.flat (g 4 (by decide)) (.cons ?_ (.flat (g 6 (by decide)) (.flat (g 7 (by decide)) (.flat (g 8 (by decide)) (.cons ?_ (.flat (g 10 (by decide)) (.flat (g 11 (by decide)) (.flat (g 12 (by decide)) hl))))))))))))
 ·rw[g0];simp only[aj.aB,List.map_cons,List.map_nil,XC.aB,h1,h5,h9]
 ·rw[g 1 (by decide)];simp only[aj.aB,List.map_cons,List.map_nil,XC.aB,h2,h3,h4];rfl
 ·rw[g 5 (by decide)];simp only[aj.aB,List.map_cons,List.map_nil,XC.aB,h6,h7,h8];rfl
 ·rw[g 9 (by decide)];simp only[aj.aB,List.map_cons,List.map_nil,XC.aB,h10,h11,h12];rfl
theorem DC{K:Nat}{τ : Nat->Nat}(h:∀j,j<13 -> τ j=K+j){l l':ah}(hl:dX τ l l'):dX τ (kW++l) (m8 K++l'):=by
 have h1:=h 1 (by decide);have h2:=h 2 (by decide);have h3:=h 3 (by decide);have h4:=h 4 (by decide);have h5:=h 5 (by decide);have h6:=h 6 (by decide);have h7:=h 7 (by decide);have h8:=h 8 (by decide);have h9:=h 9 (by decide);have h10:=h 10 (by decide);have h11:=h 11 (by decide);have h12:=h 12 (by decide);refine .cons ?_ (.cons ?_ (.flat (.flat (.flat (.cons ?_ (.flat (.flat (.flat (.cons ?_ (.flat (.flat (.flat hl))))))))))))
 ·simp only[aj.aB,List.map_cons,List.map_nil,XC.aB,h1,h5,h9]
 ·simp only[aj.aB,List.map_cons,List.map_nil,XC.aB,h2,h3,h4]
 ·simp only[aj.aB,List.map_cons,List.map_nil,XC.aB,h6,h7,h8]
 ·simp only[aj.aB,List.map_cons,List.map_nil,XC.aB,h10,h11,h12]
theorem HX{HS:ah}{K i:Nat}(hS:(HS.drop K).take 13=m8 K){ob:aj}(hi:HS[i]? = some ob){os:ah}:bE HS (Bn K [i]) (m8 K++ob::os)=HS++os:=by
 have g:∀j,j<13->HS[K+j]? = (m8 K)[j]?:=fun j hj=>by rw[<-hS,List.getElem?_take_of_lt hj,List.getElem?_drop]
 have g0:HS[K]? = some (eZ (K+1) (K+5) (K+9)):=g 0 (by decide);simp only[bE,m8,List.cons_append,List.nil_append];rw[aF g0,aF (g 1 (by decide)),aF (g 2 (by decide)),aF (g 3 (by decide)),aF (g 4 (by decide)),aF (g 5 (by decide)),aF (g 6 (by decide)),aF (g 7 (by decide)),aF (g 8 (by decide)),aF (g 9 (by decide)),aF (g 10 (by decide)),aF (g 11 (by decide)),aF (g 12 (by decide)),aF hi]
theorem DT:∀(h1 l l':ah),gK h1 h1=true->gK l l'=true->gK (h1++l) (h1++l')=true
 | [],l,l',_,h=>h
 | o::h1,l,l',h,h2=>by
   simp only[gK,Bool.and_eq_true,List.cons_append]at h ⊢;exact⟨h.1,DT h1 l l' h.2 h2⟩
theorem HW{f:FuncId}{args0 args:List XV}{v v':XV}{news news':ah}{ob:aj}[cu ob](n:Nat)(hn:news.length=n)(hc:bq prog f args0 (kW++[ob]) v (kW++ob::news)){HS:ah}{K i:Nat}(hS:(HS.drop K).take 13=m8 K)(hi:HS[i]? = some ob)(hd:(Bn K [i]).Nodup)(ha:gS 14 args0)(e1:eV (nth (Bn K [i])) args0 args)(hv:v.bH (14+n))(e2:v.aB (nth (Bn K [i]++List.range' HS.length n))=v')
 (hnk:aw (14+n) news) (hr:dX (nth (Bn K [i]++List.range' HS.length n)) news news') (hro:gK [] news=true) {HS':ah}(hh:HS++news'=HS') (hbd:Nat.blt HS'.length Mem.bound=true):az.Sound prog ⟨f,args,HS,v',HS',Bn K [i]⟩:=by
 have e0:∀j,j<13->nth (Bn K [i]) j=K+j:=Iy K [i];have e0':∀j,j<13->nth (Bn K [i]++List.range' HS.length n) j=K+j:=Iy K (i::List.range' HS.length n);have hln:(kW++ob::news).length=14+n:=by rw[List.length_append];show 13+(news.length+1)=_;omega
 refine bz (os:=m8 K++ob::news') (Bn K [i]) (Bn K [i]) n hc hd (Lo hS e0 (.flat hi .nil)) (tN (l:=[ob]) (Nat.le_succ 13) (.flat .nil)) (by rw[hln];exact tN (l:=ob::news) (by omega) (.flat hnk)) (by rw[hln];rfl) ha e1 (by rw[hln];exact hv) e2 (DC e0' (.flat hr)) ?_ rfl (by rw[HX hS hi];exact hh) hbd (.inl rfl);refine DT _ _ _ rfl ?_;simp only[gK,Bool.and_eq_true];exact⟨by cases ob.live<;>simp,hro⟩
theorem Oq{HS:ah}{N:Nat}(hN:HS.length=N){HS':ah}(hh:HS++m8 N=HS')(hbd:Nat.blt HS'.length Mem.bound=true) :
 az.Sound prog ⟨31,[],HS,.one (.ptr N 0),HS',[]⟩:=by
 subst hN;have e:List.range' HS.length 13=Bn HS.length []:=rfl;have h:=DC (K:=HS.length) (τ:=nth (Bn HS.length [])) (Iy _ []) (l:=[]) (l':=[]) .nil;refine bz (os:=m8 HS.length) [] [] 13 LF (by simp) .nil .nil (tN (l:=[]) (Nat.le_refl _) .nil) rfl .nil .nil (by show 0<13;omega) rfl (by rw[List.nil_append,e];exact h) rfl rfl hh hbd (.inl rfl)
noncomputable def yj(h:Hd)(p:Ph)(l:List Mb)(first:Int):Int ⊕ (List Int×List Int):=
 match mP l first (GI h p) l.length with
 | .inl e => .inl e
 | .inr x=>if 30000<(fv (wr (x.B++[true])) (wr (x.B++[true])).length).1.length\/30000<(fv (wr (x.w++[true])) (wr (x.w++[true])).length).1.length then .inl 6 else .inr ((fv (wr (x.B++[true])) (wr (x.B++[true])).length).1,(fv (wr (x.w++[true])) (wr (x.w++[true])).length).1)
structure Gr where
 first:Int
 ms:List Mb
structure Pc where
 ph:Ph
 gs:List Gr
structure o4 where
 hd:Hd
 ps:List Pc
instance:Inhabited Gr:=⟨⟨0,[]⟩⟩
instance:Inhabited Pc:=⟨⟨⟨0,false,false,0⟩,[]⟩⟩
structure P4 where
 first:Int
 k:Nat
 n:Nat
structure P9 where
 ph:Ph
 k:Nat
 n:Nat
instance:Inhabited P4:=⟨⟨0,0,0⟩⟩
instance:Inhabited P9:=⟨⟨⟨0,false,false,0⟩,0,0⟩⟩
def pE(a:P4):List XC:=[.int .i64 a.first,.lsl 0 a.k 0 a.n a.n 0]
def nX(a:P9):List XC:=[.int .i64 a.ph.id,.bool a.ph.inter,.bool a.ph.down,.int .i64 a.ph.qp,.lsl 0 a.k 0 a.n a.n 0]
instance:Ex pE 2:=⟨fun _=>rfl,by decide⟩
instance:Ex nX 5:=⟨fun _=>rfl,by decide⟩
def gA(b:Nat):List Gr->List P4
 | []=>[]
 | g::l=>⟨g.first,b,g.ms.length⟩::gA (b+1) l
def f4(l:List Gr):List (List XC):=l.map fun g=>fl mC g.ms
def qq(b:Nat)(p:Pc):List (List XC):=f4 p.gs++[fl pE (gA b p.gs)]
def fy(b:Nat):List Pc->List (List XC)
 | []=>[]
 | p::l=>qq b p++fy (b+p.gs.length+1) l
def ff(b:Nat):List Pc->List P9
 | []=>[]
 | p::l=>⟨p.ph,b+p.gs.length,p.gs.length⟩::ff (b+p.gs.length+1) l
def wide:List Pc->Nat
 | []=>0
 | p::l=>p.gs.length+1+wide l
def E7(ps:List Pc):List (List XC):=fy 0 ps++[fl nX (ff 0 ps)]
theorem ua:∀(l:List Gr) (b:Nat),(gA b l).length=l.length
 | [],b=>rfl
 | g::l,b=>by rw[gA,List.length_cons,ua l,List.length_cons]
theorem wM:∀(l:List Gr) (b:Nat) (g:Gr),gA b (l++[g])=gA b l++[⟨g.first,b+l.length,g.ms.length⟩]
 | [],b,g=>rfl
 | x::l,b,g=>by
   rw[List.cons_append,gA,wM l,gA,List.cons_append,List.length_cons,show b+1+l.length=b+(l.length+1) by omega]
theorem qs(b:Nat)(p:Pc):(qq b p).length=p.gs.length+1:=by simp[qq,f4]
theorem qo:∀(l:List Pc) (b:Nat),(fy b l).length=wide l
 | [],b=>rfl
 | p::l,b=>by rw[fy,List.length_append,qs,qo l,wide]
theorem wU:∀(l:List Pc) (b:Nat) (p:Pc),fy b (l++[p])=fy b l++qq (b+wide l) p
 | [],b,p=>by simp[fy,wide]
 | x::l,b,p=>by
   rw[List.cons_append,fy,wU l,fy,List.append_assoc,wide,show b+x.gs.length+1+wide l=b+(x.gs.length+1+wide l) by omega]
theorem qB:∀(l:List Pc) (b:Nat),(ff b l).length=l.length
 | [],b=>rfl
 | g::l,b=>by rw[ff,List.length_cons,qB l,List.length_cons]
theorem w4:∀(l:List Pc) (b:Nat) (p:Pc),ff b (l++[p])=ff b l++[⟨p.ph,b+wide l+p.gs.length,p.gs.length⟩]
 | [],b,p=>by simp[ff,wide]
 | x::l,b,p=>by
   rw[List.cons_append,ff,w4 l,ff,List.cons_append,wide,show b+x.gs.length+1+wide l=b+(x.gs.length+1+wide l) by omega]
def wo(L:List (List XC))(k:Nat)(gs:List Gr):Prop:=
 ∃l:List P4,L[k]? = some (fl pE l)/\l.length=gs.length/\∀j,j<gs.length->(l.getD j default).first=(gs.getD j default).first/\(l.getD j default).n=(gs.getD j default).ms.length/\L[(l.getD j default).k]? = some (fl mC (gs.getD j default).ms)
def wq(L:List (List XC))(k:Nat)(ps:List Pc):Prop:=
 ∃l:List P9,L[k]? = some (fl nX l)/\l.length=ps.length/\∀j,j<ps.length->(l.getD j default).ph=(ps.getD j default).ph/\(l.getD j default).n=(ps.getD j default).gs.length/\wo L (l.getD j default).k (ps.getD j default).gs
theorem Du:∀(l:List Gr) (b j:Nat),j<l.length->(gA b l).getD j default=⟨(l.getD j default).first,b+j,(l.getD j default).ms.length⟩
 | [],b,j,h=>absurd h (Nat.not_lt_zero j)
 | g::l,b,0,h=>rfl
 | g::l,b,j+1,h=>by
   rw[gA,List.getD_cons_succ,Du l (b+1) j (by simpa using h),List.getD_cons_succ,show b+1+j=b+(j+1) by omega]
theorem H4{l:List Gr}{j:Nat}(h:j<l.length):(f4 l)[j]? = some (fl mC (l.getD j default).ms):=by
 unfold f4;rw[List.getElem?_map,List.getElem?_eq_getElem h,List.getD_eq_getElem?_getD,List.getElem?_eq_getElem h];rfl
theorem NZ{A B:List (List XC)}(p:Pc):wo (A++qq A.length p++B) (A.length+p.gs.length) p.gs:=by
 refine⟨gA A.length p.gs,?_,ua _ _,fun j hj=>?_⟩
 ·rw[List.append_assoc,List.getElem?_append_right (by omega),Nat.add_sub_cancel_left,List.getElem?_append_left (by rw[qs];omega)];unfold qq;rw[List.getElem?_append_right (by simp[f4]),show(f4 p.gs).length=p.gs.length by simp[f4],Nat.sub_self];rfl
 ·rw[Du _ _ _ hj];refine⟨rfl,rfl,?_⟩;show(A++qq A.length p++B)[A.length+j]? = _;rw[List.append_assoc,List.getElem?_append_right (by omega),Nat.add_sub_cancel_left,List.getElem?_append_left (by rw[qs];omega)];unfold qq;rw[List.getElem?_append_left (by simp[f4];exact hj)];exact H4 hj
theorem DH:∀(ps:List Pc) (A B:List (List XC)) (j:Nat),j<ps.length->((ff A.length ps).getD j default).ph=(ps.getD j default).ph/\((ff A.length ps).getD j default).n=(ps.getD j default).gs.length/\wo (A++fy A.length ps++B) ((ff A.length ps).getD j default).k (ps.getD j default).gs
 | [],A,B,j,h=>absurd h (Nat.not_lt_zero j)
 | p::l,A,B,0,h=>by
   refine⟨rfl,rfl,?_⟩;show wo (A++(qq A.length p++fy (A.length+p.gs.length+1) l)++B) (A.length+p.gs.length) p.gs;have:=NZ (A:=A) (B:=fy (A.length+p.gs.length+1) l++B) p;rwa [show A++(qq A.length p++fy (A.length+p.gs.length+1) l)++B=A++qq A.length p++(fy (A.length+p.gs.length+1) l++B) by simp only[List.append_assoc]]
 | p::l,A,B,j+1,h=>by
   have ih:=DH l (A++qq A.length p) B j (by simpa using h);rw[List.length_append,qs,<-Nat.add_assoc]at ih;rw[ff,List.getD_cons_succ,List.getD_cons_succ,fy];rwa [show A++(qq A.length p++fy (A.length+p.gs.length+1) l)++B=A++qq A.length p++fy (A.length+p.gs.length+1) l++B by simp only[List.append_assoc]]
theorem H5(ps:List Pc):wq (E7 ps) (wide ps) ps:=by
 refine⟨ff 0 ps,?_,qB _ _,fun j hj=>?_⟩
 ·unfold E7;rw[List.getElem?_append_right (by rw[qo];exact Nat.le_refl _),qo,Nat.sub_self];rfl
 ·exact DH ps [] [fl nX (ff 0 ps)] j hj
theorem Og(m:Mb)(n:Nat):∀c∈mC m,c.lI n=true:=by
 intro c hc;have h:=List.all_eq_true.1 (show(mC m).all XC.shut=true from oY.shut m) c hc;cases c<;>first|rfl|cases h|skip
 all_goals (simp[mC,ti,cS]at hc)
theorem NW(ms:List Mb)(n:Nat):∀c∈fl mC ms,c.lI n=true:=fun c hc=>by
 obtain⟨m,_,h⟩:=List.mem_flatMap.1 hc;exact Og m n c h
theorem qj:∀(l:List Gr) (b n:Nat),b+l.length<=n->∀c∈fl pE (gA b l),c.lI n=true
 | [],b,n,h=>fun c hc=>by cases hc
 | g :: l,b,n,h=>fun c hc=>by
   rw[gA]at hc
   rcases List.mem_append.1 (show c∈pE ⟨g.first,b,g.ms.length⟩++fl pE (gA (b+1) l)from hc)with hc|hc
   ·simp only[pE,List.mem_cons,List.not_mem_nil,or_false]at hc
    rcases hc with rfl|rfl
    ·rfl
    ·rw[List.length_cons]at h;simp only[XC.lI,Nat.blt_eq];omega
   ·exact qj l (b+1) n (by rw[List.length_cons]at h;omega) c hc
theorem Ah:∀(l:List Pc) (b n:Nat),b+wide l<=n->∀c∈fl nX (ff b l),c.lI n=true
 | [],b,n,h=>fun c hc=>by cases hc
 | p :: l,b,n,h=>fun c hc=>by
   rw[ff]at hc;rw[wide]at h
   rcases List.mem_append.1 (show c∈nX ⟨p.ph,b+p.gs.length,p.gs.length⟩++fl nX (ff (b+p.gs.length+1) l)from hc)with hc|hc
   ·simp only[nX,List.mem_cons,List.not_mem_nil,or_false]at hc
    rcases hc with rfl|rfl|rfl|rfl|rfl<;>first|rfl|(simp only[XC.lI,Nat.blt_eq];omega)
   ·exact Ah l (b+p.gs.length+1) n (by omega) c hc
structure sW where
 inter:Bool
 down:Bool
 qp:Int
 many:Int
instance:Inhabited sW:=⟨⟨false,false,0,0⟩⟩
def eL(p:sW):List XC:=[.bool p.inter,.bool p.down,.int .u8 p.qp,.int .u8 p.many]
instance:oY eL 4:=⟨fun _=>rfl,fun _=>rfl,by decide⟩
structure kb(p:sW):Prop where
 qp:0<=p.qp/\p.qp<=255
 many:0<=p.many/\p.many<=255
def Tc(n:Nat):Sm:=⟨((n%256:Nat):Int),0,⟨fun _=>0,fun _=>0,false⟩,false,fun _=>0,0,false⟩
def wb(l:List Sm)(n:Nat):Sm:=if l.length=0 then Tc n else l.getD (n%l.length) default
def B1(l:List Sm)(inter:Bool)(qp:Int)(n:Nat):Mb:={nS (wb l n) inter qp with edge:=(nS (wb l n) inter qp).edge&&!(wb l n).great}
def iA(l:List Sm)(inter:Bool)(qp:Int)(n0:Nat):Nat->List Mb×Int
 | 0=>([],qp)
 | i+1=>((iA l inter qp n0 i).1++[B1 l inter (iA l inter qp n0 i).2 (n0+i)],(B1 l inter (iA l inter qp n0 i).2 (n0+i)).qp)
def gQ(l:List Sm)(inter:Bool)(qp:Int)(many all n0:Nat):Nat->List Gr×Nat
 | 0=>([],0)
 | j+1=>if(gQ l inter qp many all n0 j).2<all then((gQ l inter qp many all n0 j).1++[⟨((gQ l inter qp many all n0 j).2:Nat),(iA l inter qp (n0+(gQ l inter qp many all n0 j).2) (min many (all-(gQ l inter qp many all n0 j).2))).1⟩],(gQ l inter qp many all n0 j).2+min many (all-(gQ l inter qp many all n0 j).2))else gQ l inter qp many all n0 j
def Ai(i:Nat)(p:sW):Bool:=p.inter&&decide (0<i)
def Ft(p:sW):Int:=1+p.qp%31
def IL(p:sW):Nat:=(1+p.many%5).toNat
def Fs(l:List Sm)(all i:Nat)(p:sW):Pc:=⟨⟨(i:Nat),Ai i p,Ai i p&&p.down,Ft p⟩,(gQ l (Ai i p) (Ft p) (IL p) all (i*all) all).1⟩
def AJ(l:List Sm)(all:Nat)(pics:List sW):Nat->List Pc
 | 0=>[]
 | i+1=>AJ l all pics i++[Fs l all i (pics.getD i default)]
def gL(h:Hd):Hd:={e9 h with cols:=1+(e9 h).cols%3,rows:=1+(e9 h).rows%3}
def lu(pics:List sW):Nat:=if pics.length=0 then 1 else min pics.length 5
def pM(h:Hd)(pics:List sW)(l:List Sm):o4:=⟨gL h,AJ l ((gL h).cols*(gL h).rows).toNat pics (lu pics)⟩
def o3(inter:Bool)(qp:Int):Int->List Gr->Int->Prop
 | b,[],e=>b=e
 | b,g::l,e=>g.first=b/\1<=g.ms.length/\g.ms.length<=5/\nv inter qp g.ms/\o3 inter qp (b+(g.ms.length:Nat)) l e
theorem wP{inter:Bool}{qp:Int}:∀{l:List Gr} {b e:Int} {g:Gr},o3 inter qp b l e->g.first=e->1<=g.ms.length->g.ms.length<=5->nv inter qp g.ms->o3 inter qp b (l++[g]) (e+(g.ms.length:Nat))
 | [],b,e,g,h,h1,h2,h3,h4=>by
   have h:b=e:=h;subst h;exact⟨h1,h2,h3,h4,rfl⟩
 | x::l,b,e,g,h,h1,h2,h3,h4=>⟨h.1,h.2.1,h.2.2.1,h.2.2.2.1,wP h.2.2.2.2 h1 h2 h3 h4⟩
structure P_(all:Nat)(i:Nat)(p:Pc):Prop where
 id:p.ph.id=(i:Nat)
 ph:pA p.ph
 first:i=0->p.ph.inter=false
 gs:o3 p.ph.inter p.ph.qp 0 p.gs (all:Nat)
 few:p.gs.length<=all
theorem AB{l:List Sm}(hl:∀j,j<l.length->iQ (l.getD j default))(n:Nat):iQ (wb l n):=by
 unfold wb;split
 ·refine⟨by show(0:Int)<=((n%256:Nat):Int)/\((n%256:Nat):Int)<=255;omega,by show(0:Int)<=0/\(0:Int)<=255;omega,⟨fun _ _=>by show(-128:Int)<=0/\(0:Int)<128;omega,fun _ _=>by show(-128:Int)<=0/\(0:Int)<128;omega⟩,fun _ _=>by show(0:Int)<=0/\(0:Int)<18446744073709551616;omega,by show(0:Int)<=0/\(0:Int)<4294967296;omega⟩
 ·rename_i h;exact hl _ (Nat.mod_lt _ (Nat.pos_of_ne_zero h))
theorem xR{m:Mb}{inter:Bool}{qp:Int}(h:dD m inter qp=0):dD {m with edge:=false} inter qp=0:=by
 unfold dD at h;split at h
 ·cases h
 ·rename_i h1;split at h
  ·cases h
  ·show(if 5<=m.kind\/(inter=false/\alone m=false)then(5:Int)else if false=true/\alone m=false then 4 else if m.kind=4/\(ep qp m.qp).2=false then 6 else if m.kind≠4/\m.qp≠qp then 6 else if fS m≠0 then fS m else uv m)=0;rw[if_neg h1,if_neg (fun g=>Bool.noConfusion g.1)];exact h
theorem Oj{l:List Sm}(hl:∀j,j<l.length->iQ (l.getD j default)){inter:Bool}{qp:Int}(hq:1<=qp/\qp<=31)(n:Nat):jR (B1 l inter qp n)/\dD (B1 l inter qp n) inter qp=0/\1<=(B1 l inter qp n).qp/\(B1 l inter qp n).qp<=31:=by
 obtain⟨h1,h2,h3,h4⟩:=Oi (inter:=inter) (AB hl n) hq;refine⟨⟨h1.kind,h1.qp,h1.v,h1.lev⟩,?_,h3,h4⟩
 obtain⟨m,hm⟩:∃m,nS (wb l n) inter qp=m:=⟨_,rfl⟩
 unfold B1;rw[hm]at h2 ⊢
 cases hb : !(wb l n).great with
 | true=>rw[Bool.and_true];exact h2
 | false=>
   rw[Bool.and_false];exact xR h2
theorem qk(l:List Sm)(inter:Bool)(qp:Int)(n0:Nat):∀k,(iA l inter qp n0 k).1.length=k
 | 0=>rfl
 | k+1=>by rw[iA,List.length_append,qk l inter qp n0 k];rfl
theorem x7{l:List Sm}(hl:∀j,j<l.length->iQ (l.getD j default))(inter:Bool){qp:Int}(hq:1<=qp/\qp<=31)(n0:Nat):∀k,nv inter qp (iA l inter qp n0 k).1/\(1<=(iA l inter qp n0 k).2/\(iA l inter qp n0 k).2<=31)/\(iA l inter qp n0 k).2=if k=0 then qp else((iA l inter qp n0 k).1.getD (k-1) default).qp
 | 0=>⟨⟨fun _ h=>absurd h (Nat.not_lt_zero _),fun _ h=>absurd h (Nat.not_lt_zero _)⟩,hq,rfl⟩
 | k + 1=>by
   obtain⟨h1,h2,h3⟩:=x7 hl inter hq n0 k;obtain⟨m1,m2,m3,m4⟩:=Oj hl (inter:=inter) h2 (n0+k);have hlen:=qk l inter qp n0 k
   have hge:∀j,j<k->((iA l inter qp n0 k).1++[B1 l inter (iA l inter qp n0 k).2 (n0+k)]).getD j default=(iA l inter qp n0 k).1.getD j default:=fun j hj=>by
    rw[List.getD_eq_getElem?_getD,List.getElem?_append_left (by omega),List.getD_eq_getElem?_getD]
   have hgk:((iA l inter qp n0 k).1++[B1 l inter (iA l inter qp n0 k).2 (n0+k)]).getD k default=B1 l inter (iA l inter qp n0 k).2 (n0+k):=by
    rw[List.getD_eq_getElem?_getD,List.getElem?_append_right (by omega),hlen,Nat.sub_self];rfl
   have hlen1:((iA l inter qp n0 k).1++[B1 l inter (iA l inter qp n0 k).2 (n0+k)]).length=k+1:=by rw[List.length_append,hlen];rfl
   refine⟨⟨fun j hj=>?_,fun j hj=>?_⟩,⟨m3,m4⟩,?_⟩
   ·rw[iA]at hj ⊢;rw[hlen1]at hj
    by_cases hjk:j<k
    ·rw[hge j hjk];exact h1.mok j (by omega)
    ·obtain rfl:j=k:=by omega
     rw[hgk];exact m1
   ·rw[iA]at hj ⊢;rw[hlen1]at hj
    by_cases hjk:j<k
    ·rw[hge j hjk];have:=h1.chk j (by omega);split
     ·rename_i e;rw[if_pos e]at this;exact this
     ·rename_i e;rw[if_neg e]at this;rw[hge (j-1) (by omega)];exact this
    ·obtain rfl:j=k:=by omega
     rw[hgk];rw[h3]at m2;split
     ·rename_i e;rw[if_pos e]at m2;rw[h3,if_pos e];exact m2
     ·rename_i e;rw[if_neg e]at m2;rw[hge (j-1) (by omega),h3,if_neg e];exact m2
   ·rw[if_neg (by omega),Nat.add_sub_cancel,iA];simp only[];rw[hgk]
theorem BP{l:List Sm}(hl:∀j,j<l.length->iQ (l.getD j default))(inter:Bool){qp:Int}(hq:1<=qp/\qp<=31){many:Nat}(hm:1<=many/\many<=5)(all n0:Nat):∀j,o3 inter qp 0 (gQ l inter qp many all n0 j).1 ((gQ l inter qp many all n0 j).2:Nat)/\(gQ l inter qp many all n0 j).2<=all/\(j<=all->j<=(gQ l inter qp many all n0 j).2)/\(gQ l inter qp many all n0 j).1.length<=(gQ l inter qp many all n0 j).2
 | 0=>⟨rfl,Nat.zero_le _,fun _=>Nat.le_refl _,Nat.le_refl _⟩
 | j + 1=>by
   obtain⟨h1,h2,h3,h4⟩:=BP hl inter hq hm all n0 j;rw[gQ];split
   ·rename_i hlt;have hk:=x7 hl inter hq (n0+(gQ l inter qp many all n0 j).2) (min many (all-(gQ l inter qp many all n0 j).2));have hn:=qk l inter qp (n0+(gQ l inter qp many all n0 j).2) (min many (all-(gQ l inter qp many all n0 j).2));refine⟨?_,by show _+min many _<=all;omega,fun _=>by show j+1<=_+min many _;omega,?_⟩
    ·have:=wP (g:=⟨((gQ l inter qp many all n0 j).2:Nat),(iA l inter qp (n0+(gQ l inter qp many all n0 j).2) (min many (all-(gQ l inter qp many all n0 j).2))).1⟩) h1 rfl (by show 1<=(iA _ _ _ _ _).1.length;rw[hn];omega) (by show(iA _ _ _ _ _).1.length<=5;rw[hn];omega) hk.1;simp only[hn]at this;rw[show(((gQ l inter qp many all n0 j).2+min many (all-(gQ l inter qp many all n0 j).2):Nat):Int)=((gQ l inter qp many all n0 j).2:Nat)+((min many (all-(gQ l inter qp many all n0 j).2):Nat):Int) by omega];exact this
    ·show((gQ l inter qp many all n0 j).1++[_]).length<=_+min many _;rw[List.length_append,List.length_singleton];omega
   ·exact⟨h1,h2,fun h=>by omega,h4⟩
theorem LJ{l:List Sm}(hl:∀j,j<l.length->iQ (l.getD j default))(all i:Nat)(hi:i<=60000){p:sW}(hp:kb p):P_ all i (Fs l all i p):=by
 have hq:1<=Ft p/\Ft p<=31:=by unfold Ft;omega
 have hm:1<=IL p/\IL p<=5:=by unfold IL;omega
 obtain⟨h1,h2,h3,h4⟩:=BP hl (Ai i p) hq hm all (i*all) all;have he:(gQ l (Ai i p) (Ft p) (IL p) all (i*all) all).2=all:=by have:=h3 (Nat.le_refl _);omega
 rw[he]at h1 h4;refine⟨rfl,⟨by show(0:Int)<=(i:Nat)/\((i:Nat):Int)<=65535;omega,hq,fun h=>?_⟩,fun h=>?_,h1,h4⟩
 ·have h:(Ai i p&&p.down)=true:=h;simp only[Bool.and_eq_true]at h;exact h.1
 ·subst h;show Ai 0 p=false;unfold Ai;simp
theorem kD(l:List Sm)(all:Nat)(pics:List sW):∀i,(AJ l all pics i).length=i
 | 0=>rfl
 | i+1=>by rw[AJ,List.length_append,kD l all pics i];rfl
theorem yC(l:List Sm)(all:Nat)(pics:List sW):∀n i,i<n->(AJ l all pics n).getD i default=Fs l all i (pics.getD i default)
 | 0,i,h=>absurd h (Nat.not_lt_zero i)
 | n + 1,i,h=>by
   rw[AJ,List.getD_eq_getElem?_getD]
   by_cases hi:i<n
   ·rw[List.getElem?_append_left (by rw[kD];exact hi),<-List.getD_eq_getElem?_getD];exact yC l all pics n i hi
   ·obtain rfl:i=n:=by omega
    rw[List.getElem?_append_right (by rw[kD];exact Nat.le_refl _),kD,Nat.sub_self];rfl
structure C6(s:o4):Prop where
 hd:lB s.hd
 raw:∀i,i<64->(0<=s.hd.a i/\s.hd.a i<=255)/\(0<=s.hd.b i/\s.hd.b i<=255)
 cols:1<=s.hd.cols/\s.hd.cols<=3
 rows:1<=s.hd.rows/\s.hd.rows<=3
 many:1<=s.ps.length/\s.ps.length<=5
 pics:∀i,i<s.ps.length->P_ (s.hd.cols*s.hd.rows).toNat i (s.ps.getD i default)
def kU(l:Nat->Int):Prop:=∀i,-1000<=l i/\l i<=1000
def Ey(T:nq):Prop:=∀key b,eK T key=some b->kU b.lv
structure mj(S:cD):Prop where
 a:Ey S.A
 b:Ey S.B
 c:Ey S.C
theorem uz:Ey []:=fun key b h=>by cases h
theorem uA{p q:Int}{T:nq}(h:Ey T){key:Int}{b:Kn}(hb:kU b.lv):Ey (rS p q T key b):=by
 unfold rS;split
 ·intro key' b' h';rw[rK]at h';split at h'
  ·cases h';exact hb
  ·exact h key' b' h'
 ·exact h
theorem Iw{S:cD}(h:mj S){mb k dx dy:Int}{b:Kn}(hb:B5 S mb k dx dy=some b):kU b.lv:=by
 unfold B5 bD cf at hb;split at hb
 ·cases hb
 ·unfold bK at hb;split at hb
  ·exact h.a _ _ hb
  ·split at hb
   ·exact h.b _ _ hb
   ·exact h.c _ _ hb
theorem Ik:kU fun _=>0:=fun i=>⟨by show(-1000:Int)<=0;decide,by show(0:Int)<=1000;decide⟩
theorem Hu{b:Kn}(h:kU b.lv)(s:Nat):∀n,kU (em b s n)
 | 0=>Ik
 | n+1=>qQ (Hu h s n) (h _)
theorem zX{o:Option Kn}(h:∀b,o=some b->kU b.lv)(s:Nat)(q:Int):kU (jo o s q):=by
 unfold jo;split
 ·split
  ·exact Hu (h _ rfl) s 7
  ·exact Ik
 ·exact Ik
theorem Ht{S:cD}(h:mj S)(mb k q:Int):kU (iG S mb k q):=by
 unfold iG zm;split
 ·exact zX (fun b hb=>Iw h hb) _ _
 ·split
  ·exact zX (fun b hb=>Iw h hb) _ _
  ·exact Ik
theorem zN{m:Mb}(hm:kU m.lev)(k:Nat):kU (cy m k):=fun i=>hm _
theorem EK{m:Mb}(hm:kU m.lev){S:cD}(h:mj S)(mb:Int)(k:Nat):∃r,m7 m S mb k=some r:=by
 unfold m7;split
 ·split
  ·have h1:pc (cy m k) (iG S mb k m.qp)=some fun i=>cy m k i-iG S mb k m.qp i:=by
    unfold pc;rw[if_neg];intro⟨i,hi,hb⟩;have h1:=zN hm k i;have h2:=Ht h mb k m.qp i;unfold ln at hb;omega
   rw[h1];exact⟨_,rfl⟩
  ·exact⟨_,rfl⟩
 ·exact⟨_,rfl⟩
theorem JO{S:cD}(h:mj S){mb k:Int}{b:Kn}(hb:kU b.lv):mj (eC S mb k b):=⟨uA h.a hb,uA h.b hb,uA h.c hb⟩
theorem zh{m:Mb}(hm:kU m.lev){mb:Int}{x0:ri}(h:mj x0.S):∀k,∃x,kh m mb x0 k=some x/\mj x.S
 | 0=>⟨x0,rfl,h⟩
 | k + 1=>by
   obtain⟨x,hx,hS⟩:=zh hm h k;obtain⟨r,hr⟩:=EK hm hS mb k;refine⟨gw m mb k x (EE m x.S mb k r),?_,?_⟩
   ·rw[kh,hx,Option.bind_some,hr];rfl
   ·show mj (if alone m=true then eC x.S mb k ⟨cy m k,m.qp⟩else x.S);split
    ·exact JO hS (zN hm k)
    ·exact hS
theorem HY{S:cD}(h:mj S)(m:Mb):mj (fx S m):=by
 unfold fx;split
 ·exact⟨h.a,h.b,h.c⟩
 ·exact h
theorem oc{S:cD}(h:mj S)(mb:Int)(v:Nat->Int×Int):mj (bX S mb v):=⟨h.a,h.b,h.c⟩
theorem uh{z:cD×List Bool}(h:mj z.1)(m:Mb)(mb:Int)(k:Nat):mj (aS m mb z k).1:=⟨h.a,h.b,h.c⟩
theorem HM{S:cD}(h:mj S)(X:List Bool)(m:Mb)(mb:Int):mj (fN S X m mb).1:=by
 unfold fN;split
 ·exact oc h _ _
 ·split
  ·exact oc (uh h _ _ _) _ _
  ·split
   ·exact oc (uh (uh (uh (uh h _ _ _) _ _ _) _ _ _) _ _ _) _ _
   ·exact oc (HY h m) _ _
theorem FF{S:cD}(h:mj S){m:Mb}(hm:kU m.lev)(X bw:List Bool)(mb:Int):∃z,m_ S X bw m mb=some z/\mj z.1:=by
 unfold m_;split
 ·exact⟨(bX S mb m.v,X++bj S m,bw),rfl,oc h _ _⟩
 ·obtain⟨x,hx,hS⟩:=zh (mb:=mb) hm (x0:=⟨(fN S X m mb).1,(fN S X m mb).2,0,0,fun _=>[]⟩) (HM h X m mb) 6;rw[hx,Option.map_some];exact⟨(x.S,eG x,cV bw x 6),rfl,hS⟩
theorem Ao{h:Hd}{p:Ph}{l:List Mb}{first:Int}(hT:mn h p l first)(hM:nv p.inter p.qp l)(hL:∀k,k<l.length->kU (l.getD k default).lev):∀k,k<=l.length->∃x,mP l first (GI h p) k = .inr x/\mj x.S
 | 0,_=>⟨_,rfl,⟨uz,uz,uz⟩⟩
 | k+1,hk=>by
   obtain⟨x,hx,hS⟩:=Ao hT hM hL k (by omega);have hi:=uR hT k (by omega) x hx;have hq:=LS hT k (by omega) x hx;have hc:=hM.chk k (by omega);rw[<-hq,<-hi.inter]at hc;obtain⟨z,hz,hz2⟩:=FF hS (hL k (by omega)) x.B x.w (first+(k:Nat));exact⟨_,(w8 hx).trans (uT hc hz),hz2⟩
theorem rr:∀(l:List Int) (z:Int),(∀b∈l,0<=b/\b<256)->∀b∈lG z l,0<=b/\b<256
 | [],z,_=>fun b hb=>by cases hb
 | x :: t,z,h=>fun b hb=>by
   have hx:=h x (List.mem_cons_self ..);have ht:∀b∈t,0<=b/\b<256:=fun b hb=>h b (List.mem_cons_of_mem _ hb)
   rw[lG]at hb;split at hb
   ·rcases List.mem_cons.1 hb with rfl|hb
    ·omega
    ·rcases List.mem_cons.1 hb with rfl|hb
     ·exact hx
     ·exact rr t _ ht b hb
   ·rcases List.mem_cons.1 hb with rfl|hb
    ·exact hx
    ·exact rr t _ ht b hb
theorem oD(l:List Int)(hl:bc l):bc (fv l l.length).1:=fun i=>by
 rw[nG];refine nN (p:=fun z=>0<=z/\z<256) (rr l 0 fun b hb=>?_) (by decide) i;obtain⟨j,hj,rfl⟩:=List.mem_iff_getElem.1 hb;have:=hl j;rw[List.getD_eq_getElem?_getD,List.getElem?_eq_getElem hj]at this;exact this
theorem LV{h:Hd}{p:Ph}{l:List Mb}{first:Int}(hT:mn h p l first)(hM:nv p.inter p.qp l)(hL:∀k,k<l.length->kU (l.getD k default).lev)(h5:l.length<=5):∃a b,yj h p l first = .inr (a,b)/\bc a/\bc b/\a.length<=30000/\b.length<=30000:=by
 obtain⟨x,hx,-⟩:=Ao hT hM hL l.length (Nat.le_refl _);have hi:=uR hT l.length (Nat.le_refl _) x hx;have b1:=hi.len;have b2:=hi.lenw;have l1:=(nJ (wr (x.B++[true]))).2;have l2:=(nJ (wr (x.w++[true]))).2;have l3:=cI (x.B++[true]);have l4:=cI (x.w++[true]);rw[List.length_append,List.length_singleton]at l3 l4;refine⟨_,_,?_,oD _ (iJ (x.B++[true])),oD _ (iJ (x.w++[true])),by omega,by omega⟩;unfold yj;rw[hx];exact if_neg (by omega)
theorem Ly(s:Sm)(inter:Bool)(qp:Int):kU (nS s inter qp).lev:=fun i=>by
 show -1000<=(if(d_ s inter qp).1=0 then fun _=>0 else(jH s (vY (d_ s inter qp).1) 6).2) i/\(if(d_ s inter qp).1=0 then fun _=>0 else(jH s (vY (d_ s inter qp).1) 6).2) i<=1000;split
 ·exact Ik i
 ·have:=(uB s (vY (d_ s inter qp).1) 6).1 i;omega
theorem Dw(l:List Sm)(inter:Bool)(qp:Int)(n0:Nat):∀k,∀m∈(iA l inter qp n0 k).1,kU m.lev
 | 0=>fun m h=>by cases h
 | k + 1=>fun m h=>by
   rw[iA]at h
   rcases List.mem_append.1 h with h|h
   ·exact Dw l inter qp n0 k m h
   ·rw[List.mem_singleton]at h;subst h;exact Ly _ _ _
theorem BQ(l:List Sm)(inter:Bool)(qp:Int)(many all n0:Nat):∀j,∀g∈(gQ l inter qp many all n0 j).1,∀m∈g.ms,kU m.lev
 | 0=>fun g h=>by cases h
 | j + 1=>fun g h=>by
   rw[gQ]at h;split at h
   ·rcases List.mem_append.1 h with h|h
    ·exact BQ l inter qp many all n0 j g h
    ·rw[List.mem_singleton]at h;subst h;exact Dw l inter qp _ _
   ·exact BQ l inter qp many all n0 j g h
def kF(f:Nat->Int):Nat->List Bool
 | 0=>[]
 | k+1=>kF f k++aI (f k) 8
theorem gM(f:Nat->Int):∀k,(kF f k).length=8*k
 | 0=>rfl
 | k+1=>by rw[kF,List.length_append,gM f k,aQ];omega
def pF(h:Hd):List Bool:=(([]++aI h.cols 8)++aI h.rows 8)++[h.w]
def vT(h:Hd):List Bool:=if h.w=true then(pF h++kF h.a 64)++kF h.b 64 else pF h
theorem jr(h:Hd):(pF h).length=17:=by simp only[pF,List.length_append,aQ,List.length_cons,List.length_nil]
theorem Dy(h:Hd):(vT h).length<=1041:=by
 unfold vT;split
 ·rw[List.length_append,List.length_append,jr,gM,gM];omega
 ·rw[jr];omega
def o_(h:Hd):List Int:=wr (vT h++[true])
def y8(h:Hd):List Int:=o_ h++[cU (o_ h)/256,cU (o_ h)%256,128]
def ie(h:Hd):List Int:=[0,0,1,176]++(fv (y8 h) (y8 h).length).1
theorem gk{a b:List Int}(ha:bc a)(hb:bc b):bc (a++b):=fun i=>by
 rw[List.getD_eq_getElem?_getD]
 by_cases h:i<a.length
 ·rw[List.getElem?_append_left h,<-List.getD_eq_getElem?_getD];exact ha i
 ·rw[List.getElem?_append_right (by omega),<-List.getD_eq_getElem?_getD];exact hb _
theorem dw{z:Int}{l:List Int}(hz:0<=z/\z<256)(h:bc l):bc (z::l):=fun i=>by
 cases i with
 | zero=>exact hz
 | succ i=>exact h i
theorem gZ:bc []:=fun i=>by show(0:Int)<=0/\(0:Int)<256;omega
theorem qm(h:Hd):bc (o_ h):=iJ _
theorem s5(h:Hd):(o_ h).length<=131:=by
 have:=Dy h;unfold o_;rw[cI,List.length_append,List.length_singleton];omega
theorem uf(h:Hd):bc (y8 h):=by
 have:=f_ (o_ h);exact gk (qm h) (dw (by omega) (dw (by omega) (dw (by omega) gZ)))
theorem x_(h:Hd):(y8 h).length<=134:=by
 have:=s5 h;unfold y8;rw[List.length_append];simp only[List.length_cons,List.length_nil];omega
theorem zy(h:Hd):bc (ie h):=
 gk (dw (by omega) (dw (by omega) (dw (by omega) (dw (by omega) gZ)))) (oD _ (uf h))
theorem jU(h:Hd):4<=(ie h).length/\(ie h).length<=272:=by
 have:=x_ h;have:=(nJ (y8 h)).1;unfold ie;rw[List.length_append];simp only[List.length_cons,List.length_nil];omega
noncomputable def f7(h:Hd)(p:Ph)(g:Gr):List Int×List Int:=match yj h p g.ms g.first with
 | .inr x=>x
 | .inl _=>([],[])
noncomputable def Ra(h:Hd)(p:Ph)(g:Gr):List Bool:=ku p g.first (g.ms.length:Nat) ((f7 h p g).1.length:Nat) ((f7 h p g).2.length:Nat) (cU (f7 h p g).1) (cU (f7 h p g).2) (cU (wr (fP p g.first (g.ms.length:Nat) ((f7 h p g).1.length:Nat) ((f7 h p g).2.length:Nat) (cU (f7 h p g).1) (cU (f7 h p g).2))))
noncomputable def DI(h:Hd)(p:Ph)(g:Gr):List Int:=eo (Ra h p g) (f7 h p g).1 (f7 h p g).2
noncomputable def Nk(h:Hd)(p:Pc):List (List Int):=p.gs.map (DI h p.ph)
noncomputable def pZ(h:Hd)(ps:List Pc):List (List Int):=ps.flatMap (Nk h)
noncomputable def fU(s:o4):List (List Int):=ie s.hd::pZ s.hd s.ps
theorem oN{α : Type}[Inhabited α](l:List α){j:Nat}(h:j<l.length):l.take (j+1)=l.take j++[l.getD j default]:=by
 rw[List.take_add_one,List.getElem?_eq_getElem h,List.getD_eq_getElem?_getD,List.getElem?_eq_getElem h];rfl
structure iv(s:o4):Prop where
 ok:C6 s
 low:∀p∈s.ps,∀g∈p.gs,∀m∈g.ms,kU m.lev
theorem ub{inter:Bool}{qp:Int}:∀{l:List Gr} {b e:Int},o3 inter qp b l e->0<=b->∀g∈l,0<=g.first/\b<=g.first/\g.first+(g.ms.length:Nat)<=e/\1<=g.ms.length/\g.ms.length<=5/\nv inter qp g.ms
 | [],b,e,h,hb=>fun g hg=>by cases hg
 | x :: l,b,e,h,hb=>fun g hg=>by
   obtain⟨h1,h2,h3,h4,h5⟩:=h
   have hle:∀{l:List Gr} {b e:Int},o3 inter qp b l e->b<=e:=fun {l}=>by
    induction l with
    | nil=>intro b e h;have h:b=e:=h;omega
    | cons x l ih=>intro b e h;have:=ih h.2.2.2.2;omega
   rcases List.mem_cons.1 hg with rfl|hg
   ·have:=hle h5;exact⟨by omega,by omega,by omega,h2,h3,h4⟩
   ·have:=ub h5 (by omega) g hg;exact⟨this.1,by omega,this.2.2⟩
theorem oL{s:o4}(h:C6 s):1<=s.hd.cols*s.hd.rows/\s.hd.cols*s.hd.rows<=9:=by
 obtain⟨c0,c1⟩:=h.cols;obtain⟨r0,r1⟩:=h.rows;have hc:s.hd.cols=1\/s.hd.cols=2\/s.hd.cols=3:=by omega
 have hr:s.hd.rows=1\/s.hd.rows=2\/s.hd.rows=3:=by omega
 rcases hc with e|e|e<;>rcases hr with f|f|f<;>rw[e,f]<;>decide
theorem BZ{inter:Bool}{qp:Int}{l:List Mb}(h:nv inter qp l):∀m∈l,jR m:=fun m hm=>by
 obtain⟨j,hj,rfl⟩:=List.mem_iff_getElem.1 hm;have:=h.mok j hj;rwa [List.getD_eq_getElem?_getD,List.getElem?_eq_getElem hj,Option.getD_some]at this
theorem xW:∀(l:List Int) (z:Int),l.length<=(lG z l).length
 | [],z=>Nat.zero_le _
 | b :: t,z=>by
   rw[lG];split
   ·have:=xW t (if b=0 then 0+1 else 0);simp only[List.length_cons];omega
   ·have:=xW t (if b=0 then z+1 else 0);simp only[List.length_cons];omega
theorem qf{l:List Int}(h:1<=l.length):1<=(fv l l.length).1.length:=by
 rw[nG];have:=xW l 0;omega
theorem ID{h:Hd}{p:Ph}{l:List Mb}{first:Int}{a b:List Int}(hp:yj h p l first = .inr (a,b)):1<=a.length/\1<=b.length:=by
 unfold yj at hp;split at hp
 ·cases hp
 ·rename_i x hx;split at hp
  ·cases hp
  ·cases hp;exact⟨qf (by rw[cI,List.length_append,List.length_singleton];omega),qf (by rw[cI,List.length_append,List.length_singleton];omega)⟩
theorem IP{s:o4}(h:iv s){i:Nat}(hi:i<s.ps.length){g:Gr}(hg:g∈(s.ps.getD i default).gs) :
 mn s.hd (s.ps.getD i default).ph g.ms g.first/\yj s.hd (s.ps.getD i default).ph g.ms g.first = .inr (f7 s.hd (s.ps.getD i default).ph g)/\bc (f7 s.hd (s.ps.getD i default).ph g).1/\bc (f7 s.hd (s.ps.getD i default).ph g).2/\(1<=(f7 s.hd (s.ps.getD i default).ph g).1.length/\(f7 s.hd (s.ps.getD i default).ph g).1.length<=30000)/\(1<=(f7 s.hd (s.ps.getD i default).ph g).2.length/\(f7 s.hd (s.ps.getD i default).ph g).2.length<=30000):=by
 have hm:=oL h.ok;have hp:=h.ok.pics i hi;have he:(((s.hd.cols*s.hd.rows).toNat:Nat):Int)=s.hd.cols*s.hd.rows:=by omega
 obtain⟨g1,g2,g3,g4,g5,g6⟩:=ub hp.gs (Int.le_refl 0) g hg;rw[he]at g3
 have hT:mn s.hd (s.ps.getD i default).ph g.ms g.first:=⟨h.ok.hd,hp.ph,BZ g6,g1,g4,by omega,g3⟩
 have hmem:s.ps.getD i default∈s.ps:=by
  rw[List.getD_eq_getElem?_getD,List.getElem?_eq_getElem hi,Option.getD_some];exact List.getElem_mem hi
 have hlow:∀k,k<g.ms.length->kU (g.ms.getD k default).lev:=fun k hk=>by
  rw[List.getD_eq_getElem?_getD,List.getElem?_eq_getElem hk,Option.getD_some];exact h.low _ hmem g hg _ (List.getElem_mem hk)
 obtain⟨a,b,e,ha,hb,la,lb⟩:=LV hT g6 hlow g5;have hpos:=ID e;have eAB:f7 s.hd (s.ps.getD i default).ph g=(a,b):=by unfold f7;rw[e]
 rw[eAB];exact⟨hT,e,ha,hb,⟨hpos.1,la⟩,hpos.2,lb⟩
def rn(h:Hd)(c0 c1:XC):List XC:=b7 h++[c0,c1]
theorem Dj(h:Hd)(c0 c1:XC):(rn h c0 c1).length=133:=by simp[rn,aD]
theorem NM(h:Hd)(c0 c1:XC):((rn h c0 c1).drop 0).take 131=b7 h:=by
 unfold rn;rw[List.drop_zero,List.take_left' (aD h)]
theorem Dh(h:Hd)(c0 c1:XC):(rn h c0 c1)[131]? = some c0:=by
 unfold rn;rw[List.getElem?_append_right (by rw[aD];omega),aD];rfl
theorem Di(h:Hd)(c0 c1:XC):(rn h c0 c1)[132]? = some c1:=by
 unfold rn;rw[List.getElem?_append_right (by rw[aD];omega),aD];rfl
abbrev Dl(h:Hd)(c0 c1:XC):aj := .cells (rn h c0 c1) 30 false false
theorem lE{h:Hd}{c0 c1:XC}{n n' m:Nat}(k0:cY c0 0 0 n)(k1:cY c1 1 0 n')(hm:Nat.ble 2 m=true):(Dl h c0 c1).bH m:=fun c hc=>by
 have hm:=Nat.le_of_ble_eq_true hm
 rcases List.mem_append.1 (show c∈b7 h++[c0,c1]from hc)with hc|hc
 ·exact XC.aX (List.all_eq_true.1 (cN h) c hc) m
 ·simp only[List.mem_cons,List.not_mem_nil,or_false]at hc
  rcases hc with rfl|rfl
  ·exact k0.ok (by omega)
  ·exact k1.ok (by omega)
theorem mD(h:Hd)(τ : Nat->Nat):(b7 h).map (·.aB τ)=b7 h:=by
 refine(List.map_congr_left (g:=id) fun c hc=>?_).trans (List.map_id _);exact XC.dQ (List.all_eq_true.1 (cN h) c hc) τ
theorem d8{τ : Nat->Nat}{HS:ah}{i:Nat}{ls:List Nat}{hs:ah}{h:Hd}{c0 c1:XC}{n n':Nat}(k0:cY c0 0 0 n)(k1:cY c1 1 0 n')(hi:HS[i]? = some (Dl h c0 c1))(e0 : τ 0=0)(e1 : τ 1=1)(r:af τ HS ls hs):af τ HS (i::ls) (Dl h c0 c1::hs):=by
 refine af.cons ?_ r;rw[hi];simp only[Dl,rn,aj.aB,List.map_append,mD,List.map_cons,List.map_nil,k0.id e0,k1.id e1]
def f9(h:Hd)(c:XC):List XC:=b7 h++[c]
theorem dt(h:Hd)(c:XC):(f9 h c).length=132:=by simp[f9,aD]
theorem yv(h:Hd)(c:XC):((f9 h c).drop 0).take 131=b7 h:=by
 unfold f9;rw[List.drop_zero,List.take_left' (aD h)]
theorem Cy(h:Hd)(c:XC):(f9 h c)[131]? = some c:=by
 unfold f9;rw[List.getElem?_append_right (by rw[aD];omega),aD];rfl
theorem Mq(h:Hd)(c c':XC):(f9 h c).set 131 c'=f9 h c':=by
 unfold f9;rw[List.set_append_right _ _ (by rw[aD];omega),aD];rfl
abbrev lH:Hd:=⟨0,0,false,fun _=>0,fun _=>0⟩
theorem y7:aL prog 36 (f9 lH .nils):=by
 show aL prog 36 ((.int .i64 0 :: .int .i64 0 :: .bool false::((ti .u8 64 fun _=>0)++(ti .u8 64 fun _=>0)))++[.nils])
 infer_instance
theorem a_{τ : Nat->Nat}{HS:ah}{i:Nat}{ls:List Nat}{hs:ah}{h:Hd}{c:XC}{a b:Bool}(hc:c.aB τ = c)(hi:HS[i]? = some (.cells (f9 h c) 36 a b))(r:af τ HS ls hs):af τ HS (i::ls) (.cells (f9 h c) 36 a b::hs):=by
 refine af.cons ?_ r;rw[hi];simp only[f9,aj.aB,List.map_append,mD,List.map_cons,List.map_nil,hc]
theorem cQ{h:Hd}{c:XC}{a b:Bool}{m:Nat}(hc:c.ok m):(aj.cells (f9 h c) 36 a b).bH m:=fun x hx=>by
 rcases List.mem_append.1 (show x∈b7 h++[c]from hx)with hx|hx
 ·exact XC.aX (List.all_eq_true.1 (cN h) x hx) m
 ·rw[List.mem_singleton.1 hx];exact hc
theorem rV{h:Hd}{c:XC}{m:Nat}(hc:c.ok m):(XV.agg (f9 h c)).bH m:=fun x hx=>by
 rcases List.mem_append.1 (show x∈b7 h++[c]from hx)with hx|hx
 ·exact XC.aX (List.all_eq_true.1 (cN h) x hx) m
 ·rw[List.mem_singleton.1 hx];exact hc
theorem qJ{h:Hd}{c c':XC}{τ : Nat->Nat}(hc:c.aB τ = c'):(XV.agg (f9 h c)).aB τ = .agg (f9 h c'):=by
 simp only[f9,XV.aB,List.map_append,mD,List.map_cons,List.map_nil,hc]
abbrev tb(p:Ph)(c:XC):List XC:=[.int .i64 p.id,.bool p.inter,.bool p.down,.int .i64 p.qp,c]
abbrev Dv(f:Int)(c:XC):List XC:=[.int .i64 f,c]
def Ro(h:Hd)(j:Nat):Nat->Int:=if j=0 then h.a else h.b
def sL(h:Hd):Nat->List Bool
 | 0=>pF h
 | j+1=>sL h j++kF (Ro h j) 64
theorem ue(h:Hd):∀j,(sL h j).length=17+512*j
 | 0=>jr h
 | j+1=>by rw[sL,List.length_append,ue h j,gM];omega
theorem Pv(x:Int):IntKind.u8.wrap x=x%256:=by
 simp[IntKind.wrap,IntKind.bits,IntKind.signed]
theorem Mw(f g:Nat->Int):∀j,j<2->((ti .u8 64 f++ti .u8 64 g).drop (j*64)).take 64=ti .u8 64 (if j=0 then f else g)
 | 0,_=>by
   rw[Nat.zero_mul,List.drop_zero,List.take_left' (aT ..)];rfl
 | 1,_=>by
   rw[Nat.one_mul,List.drop_left' (aT ..),List.take_of_length_le (by rw[aT];exact Nat.le_refl _)];rfl
 | j+2,h=>absurd h (by omega)
theorem QP(h:Hd):((b7 h).drop 3).take 64=ti .u8 64 h.a:=by
 show(ti .u8 64 h.a++ti .u8 64 h.b).take 64=_;exact List.take_left' (aT ..)
theorem QQ(h:Hd):((b7 h).drop 67).take 64=ti .u8 64 h.b:=by
 have e:(b7 h).drop 67=(ti .u8 64 h.a++ti .u8 64 h.b).drop 64:=rfl;rw[e,List.drop_left' (aT ..),List.take_of_length_le (by rw[aT];exact Nat.le_refl _)]
theorem Ku:aL prog 22 (ti .u8 64 fun _=>0):=by infer_instance
instance RM (f g:Nat->Int) (e:TypeId) (a b:Bool):cu (.cells (ti .u8 64 f++ti .u8 64 g) e a b):=iz (by rw[List.all_append,je,je];rfl)
theorem AT{bs:List Bool}(hb:bs.length<=1000000){n:Nat}(hn:((bs++[true]).length+7)/8=n){w:List Int}(hw:wr (bs++[true])=w){HS:ah}{i k:Nat}(hi:HS[i]? = some (aO k bs))(hk:HS[k]? = some (au bs))(hd:i≠k){N:Nat}(hN:HS.length=N){HS':ah}(hh:HS++[bR 5 (il .u8 w)]=HS')(hbd:Nat.blt HS'.length Mem.bound=true) :
 az.Sound prog ⟨48,[.one (.ptr i 0)],HS,iq N n 1,HS',[i,k]⟩:=by
 subst hn hw;exact vr hb hi hk hd hN hh hbd
theorem u_{q:List Int}(hq:1<=q.length):bR 5 (il .u8 q) = .cells (il .u8 q) 5 true false:=cz fun e=>by
 have h2:(il .u8 q).length=0:=by rw[e];rfl
 rw[bu]at h2;omega
theorem Nl(l:List Int):RO (bR 5 (il .u8 l)) .u8 l:=⟨fun h=>⟨_,true,false,u_ (by omega)⟩,inferInstance⟩
theorem wJ{l:List Int}(hl:bc l)(hn:l.length<=100000)(h0:1<=l.length){q:List Int}(hq:(fv l l.length).1=q){n m:Nat}(hln:l.length=n)(hm:q.length=m){HS:ah}{i:Nat}(hi:HS[i]? = some (bR 5 (il .u8 l))){N:Nat}(hN:HS.length=N){HS':ah}(hh:HS++[.cells (il .u8 q) 5 true false]=HS')(hb:Nat.blt HS'.length Mem.bound=true) :
 az.Sound prog ⟨51,[iq i n 1],HS,.one (.slice N 0 m (.toEnd 1)),HS',[i]⟩:=by
 subst hm;have hp:=qf h0;rw[hq]at hp;rw[<-fi (show q.length≠0 by omega)];exact ry hl hn hq hln hi hN (by rw[u_ hp];exact hh) hb
theorem AU{b:Bool}{bs:List Bool}(hb:bs.length<=1000000){HS:ah}{i k:Nat}(hi:HS[i]? = some (aO k bs))(hk:HS[k]? = some (au bs))(hd:i≠k){q:List Bool}(hq:bs++[b]=q){N:Nat}(hN:HS.length=N){HS':ah}(hh:bE HS [i,k] [aO N q,.dead,au q]=HS')(hbd:Nat.blt HS'.length Mem.bound=true) :
 az.Sound prog ⟨47,[.one (.ptr i 0),.one (.bool b)],HS,.tup [],HS',[i,k]⟩:=by
 subst hq;exact jB hb hi hk hd hN hh hbd
theorem E3{h:Hd}(ho:lB h)(hr:∀i,i<64->(0<=h.a i/\h.a i<=255)/\(0<=h.b i/\h.b i<=255)){q:List Int}(hq:ie h=q) :
 bq prog 27 [.agg (b7 h)] [] (.tup [.one (.slice 0 0 q.length (.toEnd 1)),.one (.int .i64 0)]) [.cells (il .u8 q) 5 true false]:=by
 have hd1:=ho.dims.c0;have hd2:=ho.dims.c1;have hd3:=ho.dims.r0;have hd4:=ho.dims.r1;have hB0:=jr h;have e0:(([]++aI h.cols 8)++aI h.rows 8)++[h.w]=pF h:=rfl;have l0:(aI h.cols 8).length=8:=aQ ..;have l1:(aI h.rows 8).length=8:=aQ ..
 obtain⟨b0,hb0⟩:∃b,[]++aI h.cols 8=b:=⟨_,rfl⟩
 obtain⟨b1,hb1⟩:∃b,b0++aI h.rows 8=b:=⟨_,rfl⟩
 have k0:b0.length=8:=by rw[<-hb0];simp[l0]
 have k1:b1.length=16:=by rw[<-hb1,List.length_append,k0,l1]
 rw[hb0,hb1]at e0
 obtain⟨w,hw⟩:∃w,h.w=w:=⟨_,rfl⟩
 have hhB:vT h=if w=true then sL h 2 else pF h:=by rw[<-hw];rfl
 refine cO Tryz.func27 ?_;have hR:o_ h=wr (vT h++[true]):=rfl;have hS:y8 h=o_ h++[cU (o_ h)/256,cU (o_ h)%256,128]:=rfl;have hRb:=qm h;have hRl:=s5 h;have hSb:=uf h;have hSl:=x_ h;have hss:=f_ (o_ h);have hY : [0,0,1,176]++(fv (y8 h) (y8 h).length).1=q:=hq
 obtain⟨R,hRe⟩:∃R,o_ h=R:=⟨_,rfl⟩
 rw[hRe]at hR hS hRb hRl hss
 obtain⟨su,hsu⟩:∃z,cU R=z:=⟨_,rfl⟩
 rw[hsu]at hS hss
 obtain⟨S,hSe⟩:∃S,y8 h=S:=⟨_,rfl⟩
 rw[hSe]at hS hSb hSl hY
 obtain⟨E,hEe⟩:∃E,(fv S S.length).1=E:=⟨_,rfl⟩
 have hEl:=(nJ S).1;rw[hEe]at hY hEl;subst hY;have hSp:1<=S.length:=by rw[hS,List.length_append];simp
 have hEp:=qf hSp;rw[hEe]at hEp;have hw8:IntKind.u8.wrap su=su%256:=Pv su;have hx8:su/2^Int.toNat 8=su/256:=rfl;have hs8:0<=su/2^Int.toNat 8/\su/2^Int.toNat 8<=255:=by rw[hx8];omega
 rw[<-hw8,<-hx8]at hS;subst hS;refine WX.cq rfl ?_;rw[hw]at e0
 cases w with
 | true =>
   have hhB:vT h=sL h 2:=hhB.trans (if_pos rfl);have hb2:=ue h 2;rw[hhB]at hR
   repeat' (first
    |(refine qz ?_;first
     |refine jV ?_ (hle:=by rw[aD])
     |refine cl ?_ (hi:=by exact j7 ho rfl)
     |refine ld (c := .int .i64 h.cols) ?_
     |refine ld (c := .int .i64 h.rows) ?_
     |refine ld (c := .bool true) ?_ (hc:=by rw[<-hw];rfl)
     |refine cl ?_ (hi:=by exact fk (size:=8) rfl (bs:=[]) (by omega) (by decide) (by decide) (i:=2) (k:=0) rfl rfl (by decide) hb0 nL nA rfl)
     |refine cl ?_ (hi:=by exact fk (size:=8) rfl (bs:=b0) (by omega) (by decide) (by omega) (i:=2) (k:=3) rfl rfl (by decide) hb1 nL nA rfl)
     |refine cl ?_ (hi:=by exact AU (b:=true) (bs:=b1) (by omega) (i:=2) (k:=4) rfl rfl (by decide) e0 nL nA rfl)
     |refine rG (cs:=ti .u8 64 h.a) ?_ (hle:=by rw[aD];decide) (hc:=QP h)
     |refine rG (cs:=ti .u8 64 h.b) ?_ (hle:=by rw[aD];decide) (hc:=QQ h)
     |refine sY (zs:=ti .u8 64 fun _=>0) (cs:=ti .u8 64 h.a++ti .u8 64 h.b) ?_ (hz:=Ku))
    |refine zz ?_|refine zx (fun _=>?_) (fun _=>?_)|fail)
   refine WX.cj (σ:=Nat) (fun j=>[(5,.one (.ptr 0 0)),(43,.one (.slice 2 0 2 (.exact 2))),(44,.one (.int .i64 2)),(45,.one (.int .i64 (j:Nat)))]) (fun j=>[aO 1 (sL h j),au (sL h j),.cells (ti .u8 64 h.a++ti .u8 64 h.b) 22 false false]) (fun j=>j<=2) (fun j=>2-j) 0 (Nat.zero_le _) (fun j _=>stM) (bV [2,5,6]) ?_;intro j hj ih
   by_cases hlt:j<2
   ·have htw:=Mw h.a h.b j hlt;have hjl:=ue h j
    obtain⟨f,hf⟩:∃f,(if j=0 then h.a else h.b)=f:=⟨_,rfl⟩
    have hf2:Ro h j=f:=hf
    have hfr:∀i,i<64->0<=f i/\f i<=255:=fun i hi=>by
     rw[<-hf];split
     ·exact(hr i hi).1
     ·exact(hr i hi).2
    have hnx:sL h (j+1)=sL h j++kF f 64:=by rw[sL,hf2]
    rw[hf]at htw
    obtain⟨C,hC⟩:∃C,sL h j=C:=⟨_,rfl⟩
    rw[hC]at hjl hnx ⊢
    repeat' (first
     |(refine qz ?_;first
      |refine jG (zs:=ti .u8 64 fun _=>0) (hz:=Ku) ?_
      |refine rG (cs:=ti .u8 64 f) ?_ (hle:=by rw[List.length_append,aT,aT];omega) (hc:=htw)
      |refine nr (cs:=ti .u8 64 f) ?_ (hs1:=by rw[aT]) (hs2:=by rw[aT])
      |refine jV ?_ (hle:=by rw[aT]))
     |refine zz ?_|refine zx (fun _=>?_) (fun _=>?_)|fail)
    have hC0:C++kF f 0=C:=List.append_nil _;rw[<-hC0];refine WX.cj (σ:=Nat) (fun t=>[(5,.one (.ptr 0 0)),(43,.one (.slice 2 0 2 (.exact 2))),(44,.one (.int .i64 2)),(45,.one (.int .i64 (j:Nat))),(49,.agg (ti .u8 64 f)),(50,.one (.int .i64 (t:Nat)))]) (fun t=>[aO 1 (C++kF f t),au (C++kF f t),.cells (ti .u8 64 h.a++ti .u8 64 h.b) 22 false false]) (fun t=>t<=64) (fun t=>64-t) 0 (Nat.zero_le _) (fun j _=>stM) (bV [0,1,2]) ?_;intro t ht ih2;have htl:(C++kF f t).length=17+512*j+8*t:=by rw[List.length_append,hjl,gM]
    by_cases hlt2:t<64
    ·have hft:0<=f (t:Int).toNat/\f (t:Int).toNat<=255:=hfr t hlt2;have e3:(C++kF f t)++aI (f (t:Int).toNat) 8=C++kF f (t+1):=by show(C++kF f t)++aI (f t) 8=_;rw[kF,List.append_assoc]
     repeat' (first
      |(refine qz ?_;first
       |refine QU ?_
       |refine cl ?_ (hi:=by exact fk (size:=8) rfl (bs:=C++kF f t) (by omega) (by decide) (by omega) (i:=0) (k:=1) rfl rfl (by decide) e3 nL nA rfl))
      |refine zz ?_|refine zx (fun _=>?_) (fun _=>?_)|fail)
     exact ih2 (t+1) _ _ _ (bV [0,3,2]) (by omega) (by omega)
    ·obtain rfl:t=64:=by omega
     rw[<-hnx]
     repeat' (first|refine zz ?_|refine zx (fun _=>?_) (fun _=>?_)|fail)
     exact ih (j+1) _ _ _ (bV [0,1,2]) (by omega) (by omega)
   ·obtain rfl:j=2:=by omega
    clear ih;have hRn:R.length=131:=by rw[hR,cI,List.length_append,hb2];rfl
    have hSn:(R++[su/2^Int.toNat 8,IntKind.u8.wrap su,128]).length=134:=by rw[List.length_append,hRn];rfl
    repeat' (first
     |(refine qz ?_;first
      |refine cl ?_ (hi:=by exact AT (bs:=sL h 2) (by omega) (n:=131) (by rw[List.length_append,hb2];rfl) hR.symm (i:=0) (k:=1) rfl rfl (by decide) nL nA rfl)
      |refine sY (zs:=[.nils]) ?_
      |refine cl ?_ (hi:=by exact n9 (l:=R) hRb (by omega) (Nl R) hsu hRn (i:=3) (j:=4) rfl rfl (by decide) rfl)
      |refine cv ?_
      |refine S2 ?_
      |refine sY (zs:=[.int .u8 0]) ?_
      |refine PU (i:=3) (n:=131) (q:=R) (r:=[su/2^Int.toNat 8,IntKind.u8.wrap su,128]) ?_
      |refine cl ?_ (hi:=by exact rJ nL nA rfl)
      |refine NH (n:=1) (r:=[176]) rfl (jX rfl rfl rfl) (fun h=>absurd h (by decide)) (fun _=>?_)
      |refine cl ?_ (hi:=by exact wJ hSb (by omega) hSp hEe hSn rfl (i:=6) rfl nL nA rfl)
      |refine PU (i:=9) (n:=4) (q:=[0,0,1]++[176]) (r:=E) ?_)
     |refine zz ?_|refine zx (fun _=>?_) (fun _=>?_)|fail)
    have hz:eg 11 (4+E.length) 1 = .slice 11 0 (4+E.length) (.toEnd 1):=if_neg (by omega);have hlen:([0,0,1,176]++E).length=4+E.length:=by rw[List.length_append];rfl
    rw[hz,hlen];show aE _ _ _ _ _ _ _ _;refine kV [11] ?_;rfl
 | false=>
   have hhB:vT h=pF h:=hhB.trans (if_neg (by decide));rw[hhB]at hR;have hRn:R.length=3:=by rw[hR,cI,List.length_append,hB0];rfl
   have hSn:(R++[su/2^Int.toNat 8,IntKind.u8.wrap su,128]).length=6:=by rw[List.length_append,hRn];rfl
   repeat' (first
    |(refine qz ?_;first
     |refine jV ?_ (hle:=by rw[aD])
     |refine cl ?_ (hi:=by exact j7 ho rfl)
     |refine ld (c := .int .i64 h.cols) ?_
     |refine ld (c := .int .i64 h.rows) ?_
     |refine ld (c := .bool false) ?_ (hc:=by rw[<-hw];rfl)
     |refine cl ?_ (hi:=by exact fk (size:=8) rfl (bs:=[]) (by omega) (by decide) (by decide) (i:=2) (k:=0) rfl rfl (by decide) hb0 nL nA rfl)
     |refine cl ?_ (hi:=by exact fk (size:=8) rfl (bs:=b0) (by omega) (by decide) (by omega) (i:=2) (k:=3) rfl rfl (by decide) hb1 nL nA rfl)
     |refine cl ?_ (hi:=by exact AU (b:=false) (bs:=b1) (by omega) (i:=2) (k:=4) rfl rfl (by decide) e0 nL nA rfl)
     |refine cl ?_ (hi:=by exact AT (bs:=pF h) (by omega) (n:=3) (by rw[List.length_append,hB0];rfl) hR.symm (i:=2) (k:=5) rfl rfl (by decide) nL nA rfl)
     |refine sY (zs:=[.nils]) ?_
     |refine cl ?_ (hi:=by exact n9 (l:=R) hRb (by omega) (Nl R) hsu hRn (i:=6) (j:=7) rfl rfl (by decide) rfl)
     |refine cv ?_
     |refine S2 ?_
     |refine sY (zs:=[.int .u8 0]) ?_
     |refine PU (i:=6) (n:=3) (q:=R) (r:=[su/2^Int.toNat 8,IntKind.u8.wrap su,128]) ?_
     |refine cl ?_ (hi:=by exact rJ nL nA rfl)
     |refine NH (n:=1) (r:=[176]) rfl (jX rfl rfl rfl) (fun h=>absurd h (by decide)) (fun _=>?_)
     |refine cl ?_ (hi:=by exact wJ hSb (by omega) hSp hEe hSn rfl (i:=9) rfl nL nA rfl)
     |refine PU (i:=12) (n:=4) (q:=[0,0,1]++[176]) (r:=E) ?_)
    |refine zz ?_|refine zx (fun _=>?_) (fun _=>?_)|fail)
   have hz:eg 14 (4+E.length) 1 = .slice 14 0 (4+E.length) (.toEnd 1):=if_neg (by omega);have hlen:([0,0,1,176]++E).length=4+E.length:=by rw[List.length_append];rfl
   rw[hz,hlen];show aE _ _ _ _ _ _ _ _;refine kV [14] ?_;rfl
theorem zC{h:Hd}(ho:lB h)(hr:∀i,i<64->(0<=h.a i/\h.a i<=255)/\(0<=h.b i/\h.b i<=255)){q:List Int}(hq:ie h=q){n:Nat}(hn:q.length=n){HS:ah}{N:Nat}(hN:HS.length=N){HS':ah}(hh:HS++[.cells (il .u8 q) 5 true false]=HS')(hbd:Nat.blt HS'.length Mem.bound=true) :
 az.Sound prog ⟨27,[.agg (b7 h)],HS,.tup [.one (.slice N 0 n (.toEnd 1)),.one (.int .i64 0)],HS',[]⟩:=by
 subst hN hn;exact bz [] [] 1 (E3 ho hr hq) (by simp) .nil .nil (.flat .nil) rfl (.flat .nil) (.flat .nil) (LG (show 0<1 by omega) trivial) rfl (.flat .nil) rfl rfl hh hbd (.inl rfl)
theorem Ax{L:List Int}(hL:bc L)(hn:L.length<=100000){n:Nat}(hln:L.length=n)(h0:n≠0){z:Nat}{s:Bool}(hz:fh L=(z,s)){HS:ah}{i:Nat}(hi:HS[i]? = some (.cells (il .u8 L) 5 true false))(hb:Nat.blt HS.length Mem.bound=true) :
 az.Sound prog ⟨95,[.one (.slice i 0 n (.toEnd 1))],HS,.tup [.one (.int .i64 (z:Nat)),.one (.bool s)],HS,[i]⟩:=by
 have e1:bR 5 (il .u8 L) = .cells (il .u8 L) 5 true false:=cz fun e=>by
  have h2:(il .u8 L).length=0:=by rw[e];rfl
  rw[bu]at h2;omega
 have h3:=L8 hL hn hln (HS:=HS) (i:=i) (by rw[e1];exact hi) hb;rw[fi h0,hz]at h3;exact h3
theorem Aq{L:List Int}{B:List Bool}(hB:B.length<=8*L.length)(hn:L.length<=100000){n:Nat}(hln:L.length=n)(h0:n≠0){z:Int}(hz:z=(B.length:Nat)){HS:ah}{i:Nat}(hi:HS[i]? = some (.cells (il .u8 L) 5 true false)){N:Nat}(hN:HS.length=N){HS':ah}(hh:HS++[gD (N+1) L B 0 false,dP L]=HS')(hb:Nat.blt HS'.length Mem.bound=true) :
 az.Sound prog ⟨67,[.one (.slice i 0 n (.toEnd 1)),.one (.int .i64 z)],HS,.one (.ptr N 0),HS',[i]⟩:=by
 have e1:bR 5 (il .u8 L) = .cells (il .u8 L) 5 true false:=cz fun e=>by
  have h2:(il .u8 L).length=0:=by rw[e];rfl
  rw[bu]at h2;omega
 have h3:=tf hB hn hln hz (HS:=HS) (i:=i) (by rw[e1];exact hi) hN hh hb;rw[fi h0]at h3;exact h3
theorem pN(f:Nat->Int):∀n i,i<n->∃r,kF f n=kF f i++(aI (f i) 8++r)
 | 0,i,h=>absurd h (Nat.not_lt_zero _)
 | n + 1,i,h=>by
   rw[kF]
   by_cases hi:i<n
   ·obtain⟨r,hr⟩:=pN f n i hi;exact⟨r++aI (f n) 8,by rw[hr];simp only[List.append_assoc]⟩
   ·obtain rfl:i=n:=by omega
    exact⟨[],by rw[List.append_nil]⟩
structure R0(B:List Bool)(h:Hd):Prop where
 cols:bT B 8 (0,false)=(h.cols,(8,false))
 rows:bT B 8 (8,false)=(h.rows,(16,false))
 w:fF B (16,false)=h.w/\ca B (16,false)=(17,false)
 a:h.w=true->∀i,i<64->bT B 8 (17+8*i,false)=(h.a i,(17+8*(i+1),false))
 b:h.w=true->∀i,i<64->bT B 8 (529+8*i,false)=(h.b i,(529+8*(i+1),false))
theorem QR{h:Hd}(hc:0<=h.cols/\h.cols<256)(hw:0<=h.rows/\h.rows<256)(hr:∀i,i<64->(0<=h.a i/\h.a i<=255)/\(0<=h.b i/\h.b i<=255)):R0 (vT h) h:=by
 obtain⟨r,e⟩:∃r,vT h=pF h++r:=by
  unfold vT;split
  ·exact⟨_,by rw[List.append_assoc]⟩
  ·exact⟨[],by rw[List.append_nil]⟩
 have p8:∀{n:Int},0<=n/\n<256->0<=n/\n<2^8:=fun h=>h
 refine⟨?_,?_,?_,fun h1 i hi=>?_,fun h1 i hi=>?_⟩
 ·exact iD [] (aI h.rows 8++(h.w::r)) (by rw[e];simp only[pF,List.append_assoc,List.nil_append,List.cons_append]) (p8 hc) rfl rfl
 ·exact iD (aI h.cols 8) (h.w::r) (by rw[e];simp only[pF,List.append_assoc,List.nil_append,List.cons_append]) (p8 hw) (aQ ..) rfl
 ·exact Ck (aI h.cols 8++aI h.rows 8) r (by rw[e];simp only[pF,List.append_assoc,List.nil_append,List.cons_append]) (by rw[List.length_append,aQ,aQ])
 ·obtain⟨r2,e2⟩:=pN h.a 64 i hi;have:=hr i hi;exact iD (pF h++kF h.a i) (r2++kF h.b 64) (by unfold vT;rw[if_pos h1,e2];simp only[List.append_assoc]) (p8 (by omega)) (by rw[List.length_append,jr,gM]) (by omega)
 ·obtain⟨r2,e2⟩:=pN h.b 64 i hi;have:=hr i hi;exact iD (pF h++kF h.a 64++kF h.b i) r2 (by unfold vT;rw[if_pos h1,e2];simp only[List.append_assoc]) (p8 (by omega)) (by rw[List.length_append,List.length_append,jr,gM,gM]) (by omega)
def b8(f:Nat->Int)(k i:Nat):Int:=if i<k then f i else 0
theorem Ae(f:Nat->Int){k:Nat}(hk:k<64):(ti .u8 64 (b8 f k)).set k (.int .u8 (f k))=ti .u8 64 (b8 f (k+1)):=by
 rw[rX];refine kG fun i hi=>?_
 unfold fV b8
 by_cases h:i=k
 ·subst h;rw[if_pos rfl,if_pos (by omega)]
 ·rw[if_neg h]
  by_cases h2:i<k
  ·rw[if_pos h2,if_pos (by omega)]
  ·rw[if_neg h2,if_neg (by omega)]
theorem HJ(g:Hd)(f:Nat->Int){k:Nat}(hk:k<64):(b7 {g with a:=b8 f k}).set (3+k) (.int .u8 (f k))=b7 {g with a:=b8 f (k+1)}:=by
 show(.int .i64 g.cols :: .int .i64 g.rows :: .bool g.w::(ti .u8 64 (b8 f k)++ti .u8 64 g.b)).set (3+k) _ = .int .i64 g.cols :: .int .i64 g.rows :: .bool g.w::(ti .u8 64 (b8 f (k+1))++ti .u8 64 g.b);rw[show 3+k=k+1+1+1 by omega,List.set_cons_succ,List.set_cons_succ,List.set_cons_succ,List.set_append_left _ _ (by rw[aT];exact hk),Ae f hk]
theorem HK(g:Hd)(f:Nat->Int){k:Nat}(hk:k<64):(b7 {g with b:=b8 f k}).set (67+k) (.int .u8 (f k))=b7 {g with b:=b8 f (k+1)}:=by
 show(.int .i64 g.cols :: .int .i64 g.rows :: .bool g.w::(ti .u8 64 g.a++ti .u8 64 (b8 f k))).set (67+k) _ = .int .i64 g.cols :: .int .i64 g.rows :: .bool g.w::(ti .u8 64 g.a++ti .u8 64 (b8 f (k+1)));rw[show 67+k=(64+k)+1+1+1 by omega,List.set_cons_succ,List.set_cons_succ,List.set_cons_succ,List.set_append_right _ _ (by rw[aT];omega),aT,Nat.add_sub_cancel_left,Ae f hk]
theorem Ad(f:Nat->Int):ti .u8 64 (b8 f 64)=ti .u8 64 f:=kG fun i hi=>if_pos hi
theorem Fk{h:Hd}(ho:lB h)(hr:∀i,i<64->(0<=h.a i/\h.a i<=255)/\(0<=h.b i/\h.b i<=255)){n:Nat}(hn:(o_ h).length=n)(hw0:h.w=false->∀i,i<64->h.a i=0/\h.b i=0) :
 bq prog 71 [.one (.slice 0 0 n (.toEnd 1))] [.cells (il .u8 (o_ h)) 5 true false] (.tup [.agg (b7 h),.one (.int .i64 0)]) [.cells (il .u8 (o_ h)) 5 true false]:=by
 have hd:=ho.dims;have hc0:=hd.c0;have hc1:=hd.c1;have hr0:=hd.r0;have hr1:=hd.r1;have hrd:=QR (h:=h) ⟨by omega,by omega⟩ ⟨by omega,by omega⟩ hr;have hlB:=Dy h;have hBin:=KR (vT h) (by omega);have hsz:=L9 (vT h);have hRb:=qm h;have hRl:=s5 h
 have hR8:(vT h).length<=8*(o_ h).length:=by
  unfold o_;rw[cI,List.length_append,List.length_singleton];omega
 have hn0:n≠0:=by
  rw[<-hn];unfold o_;rw[cI,List.length_append,List.length_singleton];omega
 have hlw:h.w=true->(vT h).length=1041:=fun e=>by
  unfold vT;rw[if_pos e,List.length_append,List.length_append,jr,gM,gM]
 have hlw0:h.w=false->(vT h).length=17:=fun e=>by
  unfold vT;rw[if_neg (by rw[e];decide),jr]
 have hbin':eX (o_ h) (vT h):=hBin;have hsz':fh (o_ h)=((vT h).length,true):=hsz
 obtain⟨R,hR⟩:∃R,o_ h=R:=⟨_,rfl⟩
 obtain⟨B,hB⟩:∃B,vT h=B:=⟨_,rfl⟩
 rw[hR]at hbin' hsz' hRb hRl hR8 hn;rw[hB]at hbin' hsz' hR8 hlw hlw0 hrd hlB;obtain⟨cols,rows,w,a,b⟩:=h;obtain⟨q1,q2,q3,q4',q5⟩:=hrd;simp only at q1 q2 q3 q4' q5 hc0 hc1 hr0 hr1 hr hw0 hlw hlw0;rw[hR]
 cases w with
 | false=>
   have h17:=hlw0 rfl;have hz0:=hw0 rfl;have ea:(ti .u8 64 fun _=>(0:Int))=ti .u8 64 a:=kG fun i hi=>((hz0 i hi).1).symm
   have eb:(ti .u8 64 fun _=>(0:Int))=ti .u8 64 b:=kG fun i hi=>((hz0 i hi).2).symm
   have ez:b7 ⟨cols,rows,false,fun _=>0,fun _=>0⟩=b7 ⟨cols,rows,false,a,b⟩:=by
    show(.int .i64 cols :: .int .i64 rows :: .bool false::((ti .u8 64 fun _=>(0:Int))++(ti .u8 64 fun _=>(0:Int))):List XC) = .int .i64 cols :: .int .i64 rows :: .bool false::(ti .u8 64 a++ti .u8 64 b);exact congrArg (fun l => .int .i64 cols :: .int .i64 rows :: .bool false::l) (ea▸eb▸rfl:(ti .u8 64 fun _=>(0:Int))++(ti .u8 64 fun _=>(0:Int))=ti .u8 64 a++ti .u8 64 b)
   have ho0:lB ⟨cols,rows,false,fun _=>0,fun _=>0⟩:=⟨hd,fun h=>(by cases h),fun _ i hi=>⟨rfl,rfl⟩⟩
   rw[<-ez];refine cO Tryz.func71 ?_
   repeat' (first
    |(refine qz ?_;first
     |refine jG (zs:=b7 ⟨0,0,false,fun _=>0,fun _=>0⟩) (hz:=gY) ?_
     |refine cl ?_ (hi:=by exact Ax hRb (by omega) hn hn0 hsz' (i:=0) rfl rfl)
     |refine cl ?_ (hi:=by exact Aq (L:=R) (B:=B) hR8 (by omega) hn hn0 rfl (i:=0) rfl nL nA rfl)
     |refine cl ?_ (hi:=by exact cG hbin' q1 rfl (by decide) (i:=2) (k:=3) rfl rfl (by decide) hS rfl)
     |refine cl ?_ (hi:=by exact cG hbin' q2 rfl (by decide) (i:=2) (k:=3) rfl rfl (by decide) hS rfl)
     |refine bF (zs:=b7 ⟨0,0,false,fun _=>0,fun _=>0⟩) (hz:=gY) (out:=b7 ⟨cols,rows,false,fun _=>0,fun _=>0⟩) ?_
     |refine nr (cs:=b7 ⟨cols,rows,false,fun _=>0,fun _=>0⟩) ?_ (hs1:=by rw[aD]) (hs2:=by rw[aD])
     |refine cl ?_ (hi:=by exact oJ hbin' q3 (i:=2) (k:=3) rfl rfl (by decide) hS rfl)
     |refine st (c := .bool false) ?_ (hle:=by rw[aD];decide) (hv:=(rfl:(b7 ⟨cols,rows,false,fun _=>0,fun _=>0⟩).set 2 (.bool false)=b7 ⟨cols,rows,false,fun _=>0,fun _=>0⟩))
     |refine ld (c := .bool false) ?_ (hc:=(rfl:(b7 ⟨cols,rows,false,fun _=>0,fun _=>0⟩)[2]? = some (.bool false)))
     |refine cl ?_ (hi:=by exact u0 (by omega) (i:=2) (k:=3) rfl rfl (by decide) rfl)
     |refine jV ?_ (hle:=by rw[aD])
     |refine cl ?_ (hi:=by exact j7 ho0 rfl))
    |refine zz ?_|refine zx (fun _=>?_) (fun _=>?_)|refine bm (by first|exact ag.nil|exact ag.one _|exact ag.mh (by repeat' (first|exact True.intro|refine And.intro ?_ ?_|exact Compat.ne rfl|exact fB 2 rfl rfl rfl))) ⟨by kernel_rfl,?_⟩|refine bm (by first|exact ag.nil|exact ag.one _|exact ag.mh (by repeat' (first|exact True.intro|refine And.intro ?_ ?_|exact Compat.ne rfl|exact fB 2 rfl rfl rfl))) ?_|fail)
   show aE _ _ _ _ _ _ _ _;refine kV [0] ?_;rfl
 | true =>
   have h41:=hlw rfl;have qa:=q4' rfl;have qb:=q5 rfl;have ho0:lB ⟨cols,rows,true,a,b⟩:=ho;have eA:∀f,b7 ⟨cols,rows,true,b8 a 64,f⟩=b7 ⟨cols,rows,true,a,f⟩:=fun f=>congrArg (fun x=>(.int .i64 cols :: .int .i64 rows :: .bool true::(x++ti .u8 64 f):List XC)) (Ad a)
   have eB:∀f,b7 ⟨cols,rows,true,f,b8 b 64⟩=b7 ⟨cols,rows,true,f,b⟩:=fun f=>congrArg (fun x=>(.int .i64 cols :: .int .i64 rows :: .bool true::(ti .u8 64 f++x):List XC)) (Ad b)
   have e0:b7 ⟨cols,rows,true,fun _=>0,fun _=>0⟩=b7 ⟨cols,rows,true,b8 a 0,b8 b 0⟩:=rfl;refine cO Tryz.func71 ?_
   repeat' (first
    |(refine qz ?_;first
     |refine jG (zs:=b7 ⟨0,0,false,fun _=>0,fun _=>0⟩) (hz:=gY) ?_
     |refine cl ?_ (hi:=by exact Ax hRb (by omega) hn hn0 hsz' (i:=0) rfl rfl)
     |refine cl ?_ (hi:=by exact Aq (L:=R) (B:=B) hR8 (by omega) hn hn0 rfl (i:=0) rfl nL nA rfl)
     |refine cl ?_ (hi:=by exact cG hbin' q1 rfl (by decide) (i:=2) (k:=3) rfl rfl (by decide) hS rfl)
     |refine cl ?_ (hi:=by exact cG hbin' q2 rfl (by decide) (i:=2) (k:=3) rfl rfl (by decide) hS rfl)
     |refine bF (zs:=b7 ⟨0,0,false,fun _=>0,fun _=>0⟩) (hz:=gY) (out:=b7 ⟨cols,rows,false,fun _=>0,fun _=>0⟩) ?_
     |refine nr (cs:=b7 ⟨cols,rows,false,fun _=>0,fun _=>0⟩) ?_ (hs1:=by rw[aD]) (hs2:=by rw[aD])
     |refine cl ?_ (hi:=by exact oJ hbin' q3 (i:=2) (k:=3) rfl rfl (by decide) hS rfl)
     |refine st (c := .bool true) ?_ (hle:=by rw[aD];decide) (hv:=(rfl:(b7 ⟨cols,rows,false,fun _=>0,fun _=>0⟩).set 2 (.bool true)=b7 ⟨cols,rows,true,fun _=>0,fun _=>0⟩))
     |refine ld (c := .bool true) ?_ (hc:=(rfl:(b7 ⟨cols,rows,true,fun _=>0,fun _=>0⟩)[2]? = some (.bool true)))
     |refine sY (zs:=[.nilp]) ?_)
    |refine zz ?_|refine zx (fun _=>?_) (fun _=>?_)|refine bm (by first|exact ag.nil|exact ag.one _|exact ag.mh (by repeat' (first|exact True.intro|refine And.intro ?_ ?_|exact Compat.ne rfl|exact fB 2 rfl rfl rfl))) ⟨by kernel_rfl,?_⟩|refine bm (by first|exact ag.nil|exact ag.one _|exact ag.mh (by repeat' (first|exact True.intro|refine And.intro ?_ ?_|exact Compat.ne rfl|exact fB 2 rfl rfl rfl))) ?_|fail)
   refine WX.cj (σ:=Nat) (fun j=>[(2,.one (.ptr 1 0)),(6,.one (.ptr 2 0)),(7,.one (.ptr 4 0)),(42,.one (.slice 5 0 2 (.exact 2))),(43,.one (.int .i64 2)),(44,.one (.int .i64 (j:Nat)))]) (fun j=>[.cells (il .u8 R) 5 true false,.cells (b7 ⟨0,0,false,fun _=>0,fun _=>0⟩) 26 false false,gD 3 R B (17+512*j) false,dP R,.cells (b7 ⟨cols,rows,true,b8 a (if 1<=j then 64 else 0),b8 b (if 2<=j then 64 else 0)⟩) 26 false false,.cells [.ptr 4 3,.ptr 4 67] 192 false false]) (fun j=>j<=2) (fun j=>2-j) 0 (Nat.zero_le _) (fun j _=>stM) (bV [0,1,2,3,4,5]) ?_;intro j hj ih;have hj3:j=0\/j=1\/j=2:=by omega
   rcases hj3 with rfl|rfl|rfl
   ·repeat' (first|refine zz ?_|refine zx (fun _=>?_) (fun _=>?_)|fail)
    refine WX.cj (σ:=Nat) (fun i=>[(2,.one (.ptr 1 0)),(6,.one (.ptr 2 0)),(7,.one (.ptr 4 0)),(42,.one (.slice 5 0 2 (.exact 2))),(43,.one (.int .i64 2)),(44,.one (.int .i64 0)),(9,.one (.ptr 4 3)),(48,.one (.int .i64 (i:Nat)))]) (fun i=>[.cells (il .u8 R) 5 true false,.cells (b7 ⟨0,0,false,fun _=>0,fun _=>0⟩) 26 false false,gD 3 R B (17+8*i) false,dP R,.cells (b7 ⟨cols,rows,true,b8 a i,b8 b 0⟩) 26 false false,.cells [.ptr 4 3,.ptr 4 67] 192 false false]) (fun i=>i<=64) (fun i=>64-i) 0 (Nat.zero_le _) (fun i _=>stM) (bV [0,1,2,3,4,5]) ?_;intro i hi ih2
    by_cases hlt:i<64
    ·have hq:=qa i hlt;have hrr:=(hr i hlt).1;have hset:=HJ (k:=i) ⟨cols,rows,true,fun _=>0,b8 b 0⟩ a hlt;have hset2:(b7 ⟨cols,rows,true,b8 a i,b8 b 0⟩).set (3+i) (.int .u8 (a i))=b7 ⟨cols,rows,true,b8 a (i+1),b8 b 0⟩:=hset
     repeat' (first
      |(refine qz ?_;first
       |refine cl ?_ (hi:=by exact cG hbin' hq rfl (by decide) (i:=2) (k:=3) rfl rfl (by decide) hS rfl)
       |refine st (c := .int .u8 (a i)) ?_ (hle:=by rw[aD];omega) (hv:=hset2))
      |refine zz ?_|refine zx (fun _=>?_) (fun _=>?_)|fail)
     exact ih2 (i+1) _ _ _ (bV [0,1,2,3,4,5]) (by omega) (by omega)
    ·obtain rfl:i=64:=by omega
     clear ih2
     repeat' (first|refine zz ?_|refine zx (fun _=>?_) (fun _=>?_)|fail)
     exact ih 1 _ _ _ (bV [0,1,2,3,4,5]) (by decide) (by decide)
   ·repeat' (first|refine zz ?_|refine zx (fun _=>?_) (fun _=>?_)|fail)
    refine WX.cj (σ:=Nat) (fun i=>[(2,.one (.ptr 1 0)),(6,.one (.ptr 2 0)),(7,.one (.ptr 4 0)),(42,.one (.slice 5 0 2 (.exact 2))),(43,.one (.int .i64 2)),(44,.one (.int .i64 1)),(9,.one (.ptr 4 67)),(48,.one (.int .i64 (i:Nat)))]) (fun i=>[.cells (il .u8 R) 5 true false,.cells (b7 ⟨0,0,false,fun _=>0,fun _=>0⟩) 26 false false,gD 3 R B (529+8*i) false,dP R,.cells (b7 ⟨cols,rows,true,b8 a 64,b8 b i⟩) 26 false false,.cells [.ptr 4 3,.ptr 4 67] 192 false false]) (fun i=>i<=64) (fun i=>64-i) 0 (Nat.zero_le _) (fun i _=>stM) (bV [0,1,2,3,4,5]) ?_;intro i hi ih2
    by_cases hlt:i<64
    ·have hq:=qb i hlt;have hrr:=(hr i hlt).2;have hset:=HK (k:=i) ⟨cols,rows,true,b8 a 64,fun _=>0⟩ b hlt;have hset2:(b7 ⟨cols,rows,true,b8 a 64,b8 b i⟩).set (67+i) (.int .u8 (b i))=b7 ⟨cols,rows,true,b8 a 64,b8 b (i+1)⟩:=hset
     repeat' (first
      |(refine qz ?_;first
       |refine cl ?_ (hi:=by exact cG hbin' hq rfl (by decide) (i:=2) (k:=3) rfl rfl (by decide) hS rfl)
       |refine st (c := .int .u8 (b i)) ?_ (hle:=by rw[aD];omega) (hv:=hset2))
      |refine zz ?_|refine zx (fun _=>?_) (fun _=>?_)|fail)
     exact ih2 (i+1) _ _ _ (bV [0,1,2,3,4,5]) (by omega) (by omega)
    ·obtain rfl:i=64:=by omega
     clear ih2
     repeat' (first|refine zz ?_|refine zx (fun _=>?_) (fun _=>?_)|fail)
     exact ih 2 _ _ _ (bV [0,1,2,3,4,5]) (by decide) (by decide)
   ·have eAB:b7 ⟨cols,rows,true,b8 a (if 1<=2 then 64 else 0),b8 b (if 2<=2 then 64 else 0)⟩=b7 ⟨cols,rows,true,a,b⟩:=(eA _).trans (eB _);rw[eAB]
    repeat' (first
     |(refine qz ?_;first
      |refine cl ?_ (hi:=by exact u0 (by omega) (i:=2) (k:=3) rfl rfl (by decide) rfl)
      |refine jV ?_ (hle:=by rw[aD])
      |refine cl ?_ (hi:=by exact j7 ho0 rfl))
     |refine zz ?_|refine zx (fun _=>?_) (fun _=>?_)|fail)
    show aE _ _ _ _ _ _ _ _;refine kV [0] ?_;rfl
end Go.Proofs.YthdciapjllppjaaGreat
