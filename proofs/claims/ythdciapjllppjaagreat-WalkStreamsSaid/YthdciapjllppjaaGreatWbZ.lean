/-
  A part of the proof: Macro, Made, Made2, AtK, StrF, StrG, StrL, StrB, StrR, StrJ, WkF.
-/
import Derived.Test.YthdciapjllppjaaGreatWbF
import Derived.Test.YthdciapjllppjaaGreatWbQ
import Derived.Test.YthdciapjllppjaaGreatWbR
import Derived.Test.YthdciapjllppjaaGreatWbS
import Derived.Test.YthdciapjllppjaaGreatWbY
set_option maxRecDepth 10000
set_option maxHeartbeats 8000000
set_option linter.unusedVariables false
set_option linter.unusedSectionVars false
set_option linter.unusedSimpArgs false
open Go.Proofs.Tryz (prog)
namespace Go.Proofs.YthdciapjllppjaaGreat
open Go.Xm
variable [aq]
theorem tm(m:Mb)(z:Int):(mC m).set 0 (.int .u8 z)=mC {m with kind:=z}:=rfl
theorem Rl(m:Mb)(z:Int):(mC m).set 1 (.int .i64 z)=mC {m with qp:=z}:=rfl
theorem LS(m:Mb)(b:Bool):(mC m).set 6 (.bool b)=mC {m with edge:=b}:=rfl
theorem NA(m:Mb)(q:Nat->Int×Int):(mC m).take 2++vt q++(mC m).drop (2+4)=mC {m with v:=q}:=rfl
theorem LU(m:Mb)(j:Nat)(z:Int):(mC m).set (7+j) (.int .i64 z)=mC {m with lev:=fY m.lev j z}:=by
 unfold mC;rw[Nat.add_comm];simp only[List.set_cons_succ];rw[r9]
theorem tn(m:Mb)(k i:Nat)(z:Int):(mC m).set (7+k*64+i) (.int .i64 z)=mC {m with lev:=fY m.lev (k*64+i) z}:=by
 rw[Nat.add_assoc];exact LU m _ z
theorem g_(m:Mb):(mC m)[0]? = some (.int .u8 m.kind):=rfl
theorem AY{x:Int}(h:0<=x/\x<4):([.int .i64 (-2),.int .i64 (-1),.int .i64 1,.int .i64 2]:List XC)[x.toNat]? = some (.int .i64 (tD x)):=by
 have:x=0\/x=1\/x=2\/x=3:=by omega
 rcases this with rfl|rfl|rfl|rfl<;>rfl
theorem JP(s:Sm){k:Nat}(hk:k<6):(tC s)[12+k]? = some (.int .u64 (s.iq k)):=by
 match k,hk with
 | 0,_=>rfl
 | 1,_=>rfl
 | 2,_=>rfl
 | 3,_=>rfl
 | 4,_=>rfl
 | 5,_=>rfl
theorem IP(s:Sm)(al:Bool)(k:Nat){y:Int×(Nat->Int)}(hy:pA s k (jJ s al k) 64=y):jJ s al (k+1)=(y.1,if al=true then fY y.2 (k*64) (y.1/2^20%128)else y.2):=by
 subst hy;rfl
theorem IN(s:Sm)(k:Nat)(x:Int×(Nat->Int))(i:Nat){y:Int×(Nat->Int)}(hy:pA s k x i=y):pA s k x (i+1)=(wt y.1,if s.iq k/2^i%2=1 then(if s.great=true then fY (fY y.2 (k*64+i) (wt y.1/2^16%7-3)) (k*64+i) (wt y.1/2^16%1001-500)else fY y.2 (k*64+i) (wt y.1/2^16%7-3))else y.2):=by
 subst hy;rfl
abbrev KW(K Q:Int):Mb:={Ag with kind:=K,qp:=Q}
theorem LW{s : Sm}(hs:iS s)(inter:Bool){qp:Int}(hq:1<=qp/\qp<=31):bt prog 29 [.agg (tC s),.one (.bool inter),.one (.int .i64 qp)] [] (.agg (mC (n8 s inter qp))) []:=by
 have hk:=hs.kind;have hst:=hs.step;have hkq:=Ad s inter qp hs hq;refine cO Tryz.func29 ?_
 repeat' (first
  |(refine qz ?_;first
   |refine jU (zs:=mC Ag) (hz:=ry) ?_
   |refine bS (zs:=mC Ag) (hz:=ry) ?_
   |refine nD (cs:=mC (KW (s.kind%5) qp)) ?_ (hs1:=by rw[bn]) (hs2:=by rw[bn]))
  |refine WX.Cr 2 (σ:=Int) (fun K=>[(1,.one (.bool inter)),(2,.one (.int .i64 qp)),(3,.one (.ptr 0 0)),(6,.one (.ptr 1 0)),(7,.one (.ptr 2 0))]) (fun K=>[.cells (tC s) 99 false false,.cells (mC Ag) 107 false false,.cells (mC (KW K qp)) 107 false false]) (fun K=>l8 s inter=K) (fun s _=>ny) ?_ ?_|refine zz ?_|refine zx (fun _=>?_) (fun _=>?_)|fail)
 ·intro _;cases inter
  ·repeat' (first
    |(refine qz ?_;first
     |refine st ?_ (hle:=by rw[bn];omega) (hv:=tm _ _))
    |refine zz ?_|refine zx (fun _=>?_) (fun _=>?_)|fail)
   (first|exact⟨l8 s false,_,rfl,(bW [0,1,2])⟩|exact⟨rfl,l8 s false,_,rfl,(bW [0,1,2])⟩)
  ·repeat' (first|refine zz ?_|refine zx (fun _=>?_) (fun _=>?_)|fail)
   (first|exact⟨l8 s true,_,rfl,(bW [0,1,2])⟩|exact⟨rfl,l8 s true,_,rfl,(bW [0,1,2])⟩)
 ·intro K hK
  have hkr:0<=K/\K<=4:=by
   rw[<-hK];unfold l8;split<;>omega
  refine WX.Cr 4 (σ:=Int×Int) (fun x=>[(1,.one (.bool inter)),(2,.one (.int .i64 qp)),(3,.one (.ptr 0 0)),(6,.one (.ptr 1 0)),(7,.one (.ptr 2 0))]) (fun x=>[.cells (tC s) 99 false false,.cells (mC Ag) 107 false false,.cells (mC (KW x.1 x.2)) 107 false false]) (fun x=>eg s inter qp=x) (fun s _=>ny) ?_ ?_
  ·intro _;have hb:=MN (s.step%4)
   by_cases h4:K=4
   ·by_cases hr:1<=qp+tD (s.step%4)/\qp+tD (s.step%4)<=31
    ·have e0:eg s inter qp=(4,qp+tD (s.step%4)):=by unfold eg;rw[hK,if_pos h4,if_pos hr]
     have hr1:=hr.1;have hr2:=hr.2
     repeat' (first
      |(refine qz ?_;first
       |refine ld (c := .int .u8 K) ?_ (hc:=g_ _)
       |refine st (c := .int .u8 3) ?_ (hle:=by rw[bn];omega) (hv:=tm _ _)
       |refine st (c := .int .u8 4) ?_ (hle:=by rw[bn];omega) (hv:=tm _ _)
       |refine st (c := .int .i64 (qp+tD (s.step%4))) ?_ (hle:=by rw[bn];omega) (hv:=Rl _ _)
       |refine cl ?_ (hi:=by exact vw rfl)
       |refine KV ?_ (hc:=AY (by omega)))
      |refine zz ?_|refine zx (fun _=>?_) (fun _=>?_)|fail)
     (first|exact⟨(4,qp+tD (s.step%4)),_,e0,(bW [0,1,2])⟩|exact⟨rfl,(4,qp+tD (s.step%4)),_,e0,(bW [0,1,2])⟩)
    ·have e0:eg s inter qp=(3,qp):=by unfold eg;rw[hK,if_pos h4,if_neg hr]
     repeat' (first
      |(refine qz ?_;first
       |refine ld (c := .int .u8 K) ?_ (hc:=g_ _)
       |refine st (c := .int .u8 3) ?_ (hle:=by rw[bn];omega) (hv:=tm _ _)
       |refine cl ?_ (hi:=by exact vw rfl)
       |refine KV ?_ (hc:=AY (by omega)))
      |refine zz ?_|refine zx (fun _=>?_) (fun _=>?_)|fail)
     all_goals first|(exfalso;omega)|(first|exact⟨(3,qp),_,e0,(bW [0,1,2])⟩|exact⟨rfl,(3,qp),_,e0,(bW [0,1,2])⟩)
   ·have e0:eg s inter qp=(K,qp):=by unfold eg;rw[hK,if_neg h4]
    repeat' (first
     |(refine qz ?_;first
      |refine ld (c := .int .u8 K) ?_ (hc:=g_ _))
     |refine zz ?_|refine zx (fun _=>?_) (fun _=>?_)|fail)
    (first|exact⟨(K,qp),_,e0,(bW [0,1,2])⟩|exact⟨rfl,(K,qp),_,e0,(bW [0,1,2])⟩)
  ·intro H hH;rw[hH]at hkq;obtain⟨k0,k4,q1,q31,-,-,-⟩:=hkq
   obtain⟨q,hwq⟩:∃q,s4 s.wy=q:=⟨_,rfl⟩
   by_cases h0:H.1=0
   ·have eM:n8 s inter qp=KW H.1 H.2:=by
     unfold n8;rw[hH];have e1:pn H.1 s.wy=fun _=>(0,0):=by unfold pn;rw[if_neg (by omega),if_neg (by omega)]
     have e2:wj H.1=false:=decide_eq_false (by omega);rw[e1,e2,if_pos h0,if_neg (by decide)];rfl
    rw[eM]
    repeat' (first
     |(refine qz ?_;first
      |refine qI (cs:=RT s.wy) ?_
      |refine cl ?_ (hi:=by exact EA hs.wy hwq rfl)
      |refine jU (zs:=vt fun _=>(0,0)) (hz:=zeroV) ?_
      |refine nD (cs:=vt q) ?_ (hs1:=by rfl) (hs2:=by rfl)
      |refine ld (c := .int .u8 H.1) ?_ (hc:=g_ _)
      |refine jI ?_ (hle:=by rw[bn])
      |refine nD (cs:=mC (KW H.1 H.2)) ?_ (hs1:=by rw[bn]) (hs2:=by rw[bn]))
     |refine zz ?_|refine zx (fun _=>?_) (fun _=>?_)|fail)
    show aE _ _ _ _ _ _ _ _;refine kV [] ?_;rfl
   ·obtain ⟨m, hm⟩:∃m:Mb,(⟨H.1,H.2,pn H.1 s.wy,if wj H.1=true then s.edge else false,fun _=>0⟩:Mb)=m:=⟨_,rfl⟩
    repeat' (first
     |(refine qz ?_;first
      |refine qI (cs:=RT s.wy) ?_
      |refine cl ?_ (hi:=by exact EA hs.wy hwq rfl)
      |refine jU (zs:=vt fun _=>(0,0)) (hz:=zeroV) ?_
      |refine nD (cs:=vt q) ?_ (hs1:=by rfl) (hs2:=by rfl))
     |refine WX.Cr 10 (σ:=Mb) (fun x=>[(3,.one (.ptr 0 0)),(6,.one (.ptr 1 0)),(7,.one (.ptr 2 0))]) (fun x=>[.cells (tC s) 99 false false,.cells (mC Ag) 107 false false,.cells (mC x) 107 false false]) (fun x=>m=x) (fun s _=>ny) ?_ ?_|refine zz ?_|refine zx (fun _=>?_) (fun _=>?_)|fail)
    ·intro _
     by_cases h1:H.1=1
     ·have e1:mC m=mC {KW H.1 H.2 with v:=fun _=>q 0}:=by
       rw[<-hm,<-hwq];have e1:pn H.1 s.wy=fun _=>s4 s.wy 0:=if_pos h1
       have e2:wj H.1=false:=decide_eq_false (by omega);rw[e1,e2,if_neg (by decide)];rfl
      repeat' (first
       |(refine qz ?_;first
        |refine ld (c := .int .u8 H.1) ?_ (hc:=g_ _)
        |refine cl ?_ (hi:=by exact N8 rfl)
        |refine Sc (off:=2) (s:=4) ?_ (hs2:=by rw[bn];omega) (hv:=NA (KW H.1 H.2) (fun _=>q 0)))
       |refine zz ?_|refine zx (fun _=>?_) (fun _=>?_)|fail)
      first|exact⟨m,_,rfl,(bW [0,1,2] (obj:=by(repeat' (first|exact ae.nil|refine ae.flat (by rw[e1];rfl) ?_|refine oz ?_));first|done|fail))⟩|exact⟨rfl,m,_,rfl,(bW [0,1,2] (obj:=by(repeat' (first|exact ae.nil|refine ae.flat (by rw[e1];rfl) ?_|refine oz ?_));first|done|fail))⟩
     ·by_cases h2:H.1=2
      ·have e1:mC m=mC {KW H.1 H.2 with v:=q}:=by
        rw[<-hm,<-hwq];have e1:pn H.1 s.wy=fun k=>if k<4 then s4 s.wy k else(0,0):=by unfold pn;rw[if_neg h1,if_pos h2]
        have e2:wj H.1=false:=decide_eq_false (by omega);rw[e1,e2,if_neg (by decide)];rfl
       repeat' (first
        |(refine qz ?_;first
         |refine ld (c := .int .u8 H.1) ?_ (hc:=g_ _)
         |refine jI ?_ (hle:=by rfl)
         |refine Sc (cs:=vt q) (off:=2) (s:=4) ?_ (hs2:=by rw[bn];omega) (hv:=NA (KW H.1 H.2) q))
        |refine zz ?_|refine zx (fun _=>?_) (fun _=>?_)|fail)
       first|exact⟨m,_,rfl,(bW [0,1,2] (obj:=by(repeat' (first|exact ae.nil|refine ae.flat (by rw[e1];rfl) ?_|refine oz ?_));first|done|fail))⟩|exact⟨rfl,m,_,rfl,(bW [0,1,2] (obj:=by(repeat' (first|exact ae.nil|refine ae.flat (by rw[e1];rfl) ?_|refine oz ?_));first|done|fail))⟩
      ·have e1:mC m=mC {KW H.1 H.2 with edge:=s.edge}:=by
        rw[<-hm];have e1:pn H.1 s.wy=fun _=>(0,0):=by unfold pn;rw[if_neg h1,if_neg h2]
        have e2:wj H.1=true:=decide_eq_true (by omega);rw[e1,e2,if_pos rfl];rfl
       repeat' (first
        |(refine qz ?_;first
         |refine ld (c := .int .u8 H.1) ?_ (hc:=g_ _)
         |refine st (c := .bool s.edge) ?_ (hle:=by rw[bn];omega) (hv:=LS _ _))
        |refine zz ?_|refine zx (fun _=>?_) (fun _=>?_)|fail)
       first|exact⟨m,_,rfl,(bW [0,1,2] (obj:=by(repeat' (first|exact ae.nil|refine ae.flat (by rw[e1];rfl) ?_|refine oz ?_));first|done|fail))⟩|exact⟨rfl,m,_,rfl,(bW [0,1,2] (obj:=by(repeat' (first|exact ae.nil|refine ae.flat (by rw[e1];rfl) ?_|refine oz ?_));first|done|fail))⟩
    ·intro x hx;subst hx;have em0:mC m=mC {m with lev:=fun _=>0}:=by rw[<-hm]
     obtain⟨al,hal⟩:∃al,wj H.1=al:=⟨_,rfl⟩
     have hma:alone m=al:=by rw[<-hal,<-hm];rfl
     have eM:n8 s inter qp = {m with lev:=(jJ s al 6).2}:=by
      unfold n8;rw[hH,if_neg h0,<-hal,<-hm]
     rw[eM];have hsd:=hs.seed
     repeat' (first
      |(refine qz ?_;first
       |refine ld (c := .int .u32 s.seed) ?_)
      |refine zz ?_|refine zx (fun _=>?_) (fun _=>?_)|fail)
     refine WX.cw (σ:=Nat×Int×(Nat->Int)) (fun t=>[(3,.one (.ptr 0 0)),(6,.one (.ptr 1 0)),(7,.one (.ptr 2 0)),(10,.one (.int .u32 t.2.1)),(68,.one (.int .i64 (t.1:Nat)))]) (fun t=>[.cells (tC s) 99 false false,.cells (mC Ag) 107 false false,.cells (mC {m with lev:=t.2.2}) 107 false false]) (fun t=>t.1<=6/\jJ s al t.1=t.2/\0<=t.2.1/\t.2.1<4294967296) (fun t=>6-t.1) (0,s.seed,fun _=>0) ⟨Nat.zero_le _,rfl,hsd.1,hsd.2⟩ (fun s _=>ny) (bW [0,1,2] (obj:=by(repeat' (first|exact ae.nil|refine ae.flat (by rw[em0];rfl) ?_|refine oz ?_));first|done|fail)) ?_;intro t ⟨ht6,hto,htn⟩ ih
     by_cases hlt:t.1<6
     ·have hkp:=hs.iq t.1 hlt
      repeat' (first|refine zz ?_|refine zx (fun _=>?_) (fun _=>?_)|fail)
      refine WX.cw (σ:=Nat×Int×(Nat->Int)) (fun u=>[(3,.one (.ptr 0 0)),(6,.one (.ptr 1 0)),(7,.one (.ptr 2 0)),(10,.one (.int .u32 u.2.1)),(11,.one (.int .i64 (t.1:Nat))),(68,.one (.int .i64 (t.1:Nat))),(71,.one (.int .i64 (u.1:Nat)))]) (fun u=>[.cells (tC s) 99 false false,.cells (mC Ag) 107 false false,.cells (mC {m with lev:=u.2.2}) 107 false false]) (fun u=>u.1<=64/\pA s t.1 t.2 u.1=u.2/\0<=u.2.1/\u.2.1<4294967296) (fun u=>64-u.1) (0,t.2) ⟨Nat.zero_le _,rfl,htn⟩ (fun s _=>ny) (bW [0,1,2]) ?_;intro u ⟨hu64,hui,hun⟩ ih2
      by_cases hlu:u.1<64
      ·have hn:=wrap32 (IntKind.u32.wrap (u.2.1*1664525)+1013904223)
       have hd:0<=IntKind.u32.wrap (IntKind.u32.wrap (u.2.1*1664525)+1013904223)/2^(16:Int).toNat/\IntKind.u32.wrap (IntKind.u32.wrap (u.2.1*1664525)+1013904223)/2^(16:Int).toNat<4294967296:=by
        show 0<=IntKind.u32.wrap (IntKind.u32.wrap (u.2.1*1664525)+1013904223)/2^16/\IntKind.u32.wrap (IntKind.u32.wrap (u.2.1*1664525)+1013904223)/2^16<4294967296;omega
       have hk2:=JP s hlt;have hnx:=IN s t.1 t.2 u.1 hui
       by_cases hbit:s.iq t.1/2^((u.1:Nat):Int).toNat%2^1=1
       ·have hbit':s.iq t.1/2^u.1%2=1:=hbit
        obtain⟨gr,hgr⟩:∃g,s.great=g:=⟨_,rfl⟩
        have hl:(tC s)[19]? = some (.bool gr):=by rw[<-hgr];rfl
        rw[if_pos hbit',hgr]at hnx;cases gr
        ·rw[if_neg (by decide)]at hnx
         repeat' (first
          |(refine qz ?_;first
           |refine SV (k := .u32) ?_
           |refine Su (k := .u32) ?_
           |refine ld (hc:=hl) ?_
           |refine ld (hc:=hk2) ?_
           |refine an 1 ?_
           |refine st ?_ (hle:=by rw[bn];omega) (hv:=tn _ _ _ _))
          |refine zz ?_|refine zx (fun _=>?_) (fun _=>?_)|fail)
         exact ih2 (u.1+1,wt u.2.1,fY u.2.2 (t.1*64+u.1) (wt u.2.1/2^16%7-3)) _ _ _ (bW [0,1,2]) ⟨by show u.1+1<=64;omega,hnx,hn.1,hn.2⟩ (by show 64-(u.1+1)<64-u.1;omega)
        ·rw[if_pos rfl]at hnx
         repeat' (first
          |(refine qz ?_;first
           |refine SV (k := .u32) ?_
           |refine Su (k := .u32) ?_
           |refine ld (hc:=hl) ?_
           |refine ld (hc:=hk2) ?_
           |refine an 1 ?_
           |refine st ?_ (hle:=by rw[bn];omega) (hv:=tn _ _ _ _))
          |refine zz ?_|refine zx (fun _=>?_) (fun _=>?_)|fail)
         exact ih2 (u.1+1,wt u.2.1,fY (fY u.2.2 (t.1*64+u.1) (wt u.2.1/2^16%7-3)) (t.1*64+u.1) (wt u.2.1/2^16%1001-500)) _ _ _ (bW [0,1,2]) ⟨by show u.1+1<=64;omega,hnx,hn.1,hn.2⟩ (by show 64-(u.1+1)<64-u.1;omega)
       ·have hbit':¬s.iq t.1/2^u.1%2=1:=hbit;rw[if_neg hbit']at hnx
        repeat' (first
         |(refine qz ?_;first
          |refine SV (k := .u32) ?_
          |refine Su (k := .u32) ?_
          |refine ld (hc:=hk2) ?_
          |refine an 1 ?_
          |refine st ?_ (hle:=by rw[bn];omega) (hv:=tn _ _ _ _))
         |refine zz ?_|refine zx (fun _=>?_) (fun _=>?_)|fail)
        exact ih2 (u.1+1,wt u.2.1,u.2.2) _ _ _ (bW [0,1,2]) ⟨by show u.1+1<=64;omega,hnx,hn.1,hn.2⟩ (by show 64-(u.1+1)<64-u.1;omega)
      ·have e64:u.1=64:=by omega
       rw[e64,<-hto]at hui;have hox:=IP s al t.1 hui
       have hd:0<=u.2.1/2^(20:Int).toNat/\u.2.1/2^(20:Int).toNat<4294967296:=by
        show 0<=u.2.1/2^20/\u.2.1/2^20<4294967296;omega
       cases al
       ·rw[if_neg (by decide)]at hox
        repeat' (first
         |(refine qz ?_;first
          |refine jI ?_ (hle:=by rw[bn])
          |refine cl ?_ (hi:=by exact lW (m:={m with lev:=u.2.2}) (b:=false) hma rfl))
         |refine zz ?_|refine zx (fun _=>?_) (fun _=>?_)|fail)
        exact ih (t.1+1,u.2.1,u.2.2) _ _ _ (bW [0,1,2]) ⟨by show t.1+1<=6;omega,hox,hun⟩ (by show 6-(t.1+1)<6-t.1;omega)
       ·rw[if_pos rfl]at hox
        repeat' (first
         |(refine qz ?_;first
          |refine jI ?_ (hle:=by rw[bn])
          |refine cl ?_ (hi:=by exact lW (m:={m with lev:=u.2.2}) (b:=true) hma rfl)
          |refine st ?_ (hle:=by rw[bn];omega) (hv:=tn _ _ 0 _))
         |refine zz ?_|refine zx (fun _=>?_) (fun _=>?_)|fail)
        exact ih (t.1+1,u.2.1,fY u.2.2 (t.1*64) (u.2.1/2^20%128)) _ _ _ (bW [0,1,2]) ⟨by show t.1+1<=6;omega,hox,hun⟩ (by show 6-(t.1+1)<6-t.1;omega)
     ·have e6:t.1=6:=by omega
      rw[e6]at hto;rw[hto]
      repeat' (first
       |(refine qz ?_;first
        |refine jI ?_ (hle:=by rw[bn])
        |refine nD ?_ (hs1:=by rw[bn]) (hs2:=by rw[bn]))
       |refine zz ?_|refine zx (fun _=>?_) (fun _=>?_)|fail)
      show aE _ _ _ _ _ _ _ _;refine kV [] ?_;rfl
theorem OK{s:Sm}(hs:iS s){inter:Bool}{qp:Int}(hq:1<=qp/\qp<=31){m:Mb}(hm:n8 s inter qp=m){HS:aj}(hb:Nat.blt HS.length Mem.bound=true):aA.Sound prog ⟨29,[.agg (tC s),.one (.bool inter),.one (.int .i64 qp)],HS,.agg (mC m),HS,[]⟩:=by
 subst hm;exact az (LW hs inter hq) rfl (jY _) hb
abbrev S5:Sm:=⟨0,0,⟨fun _=>0,fun _=>0,false⟩,false,fun _=>0,0,false⟩
instance Ts:Inhabited Sm:=⟨S5⟩
theorem H9(g:Hd)(z:Int):(b9 g).set 0 (.int .i64 z)=b9 {g with cols:=z}:=rfl
theorem Qb:aM prog 99 (tC S5):=by
 show aM prog 99 [.int .u8 0,.int .u8 0,.int .i8 0,.int .i8 0,.int .i8 0,.int .i8 0,.int .i8 0,.int .i8 0,.int .i8 0,.int .i8 0,.bool false,.bool false,.int .u64 0,.int .u64 0,.int .u64 0,.int .u64 0,.int .u64 0,.int .u64 0,.int .u32 0,.bool false]
 infer_instance
abbrev nr(K:Nat):aj:=[fc (K+1) (K+5) (K+9),aX (K+2) (K+3) (K+4) cM,db cM,df cM,dc cM,aX (K+6) (K+7) (K+8) cZ,db cZ,df cZ,dc cZ,aX (K+10) (K+11) (K+12) cP,db cP,df cP,dc cP]
abbrev BH(K:Nat)(r:List Nat):List Nat:=K::(K+1)::(K+2)::(K+3)::(K+4)::(K+5)::(K+6)::(K+7)::(K+8)::(K+9)::(K+10)::(K+11)::(K+12)::r
theorem IZ(K:Nat)(r:List Nat):∀j,j<13->nth (BH K r) j=K+j:=fun j hj=>by
 match j,hj with
 | 0,_=>rfl
 | 1,_=>rfl
 | 2,_=>rfl
 | 3,_=>rfl
 | 4,_=>rfl
 | 5,_=>rfl
 | 6,_=>rfl
 | 7,_=>rfl
 | 8,_=>rfl
 | 9,_=>rfl
 | 10,_=>rfl
 | 11,_=>rfl
 | 12,_=>rfl
theorem LM{HS:aj}{K:Nat}(hS:(HS.drop K).take 13=nr K){τ : Nat->Nat}(h:∀j,j<13 -> τ j=K+j){ls:List Nat}{l:aj}(hl:ae τ HS ls l):ae τ HS (BH K ls) (k9++l):=by
 have g:∀j,j<13->HS[K+j]? = (nr K)[j]?:=fun j hj=>by rw[<-hS,List.getElem?_take_of_lt hj,List.getElem?_drop]
 have g0:HS[K]? = some (fc (K+1) (K+5) (K+9)):=g 0 (by decide);have h1:=h 1 (by decide);have h2:=h 2 (by decide);have h3:=h 3 (by decide);have h4:=h 4 (by decide);have h5:=h 5 (by decide);have h6:=h 6 (by decide);have h7:=h 7 (by decide);have h8:=h 8 (by decide);have h9:=h 9 (by decide);have h10:=h 10 (by decide);have h11:=h 11 (by decide);have h12:=h 12 (by decide);refine .cons ?_ (.cons ?_ (.flat (g 2 (by decide)) (.flat (g 3 (by decide)) (.flat (g 4 (by decide)) (.cons ?_ (.flat (g 6 (by decide)) (.flat (g 7 (by decide)) (.flat (g 8 (by decide)) (.cons ?_ (.flat (g 10 (by decide)) (.flat (g 11 (by decide)) (.flat (g 12 (by decide)) hl))))))))))))
 ·rw[g0];simp only[ak.aC,List.map_cons,List.map_nil,XC.aC,h1,h5,h9]
 ·rw[g 1 (by decide)];simp only[ak.aC,List.map_cons,List.map_nil,XC.aC,h2,h3,h4];rfl
 ·rw[g 5 (by decide)];simp only[ak.aC,List.map_cons,List.map_nil,XC.aC,h6,h7,h8];rfl
 ·rw[g 9 (by decide)];simp only[ak.aC,List.map_cons,List.map_nil,XC.aC,h10,h11,h12];rfl
theorem DY{K:Nat}{τ : Nat->Nat}(h:∀j,j<13 -> τ j=K+j){l l':aj}(hl:d9 τ l l'):d9 τ (k9++l) (nr K++l'):=by
 have h1:=h 1 (by decide);have h2:=h 2 (by decide);have h3:=h 3 (by decide);have h4:=h 4 (by decide);have h5:=h 5 (by decide);have h6:=h 6 (by decide);have h7:=h 7 (by decide);have h8:=h 8 (by decide);have h9:=h 9 (by decide);have h10:=h 10 (by decide);have h11:=h 11 (by decide);have h12:=h 12 (by decide);refine .cons ?_ (.cons ?_ (.flat (.flat (.flat (.cons ?_ (.flat (.flat (.flat (.cons ?_ (.flat (.flat (.flat hl))))))))))))
 ·simp only[ak.aC,List.map_cons,List.map_nil,XC.aC,h1,h5,h9]
 ·simp only[ak.aC,List.map_cons,List.map_nil,XC.aC,h2,h3,h4]
 ·simp only[ak.aC,List.map_cons,List.map_nil,XC.aC,h6,h7,h8]
 ·simp only[ak.aC,List.map_cons,List.map_nil,XC.aC,h10,h11,h12]
theorem Ip{HS:aj}{K i:Nat}(hS:(HS.drop K).take 13=nr K){ob:ak}(hi:HS[i]? = some ob){os:aj}:bJ HS (BH K [i]) (nr K++ob::os)=HS++os:=by
 have g:∀j,j<13->HS[K+j]? = (nr K)[j]?:=fun j hj=>by rw[<-hS,List.getElem?_take_of_lt hj,List.getElem?_drop]
 have g0:HS[K]? = some (fc (K+1) (K+5) (K+9)):=g 0 (by decide);simp only[bJ,nr,List.cons_append,List.nil_append];rw[aG g0,aG (g 1 (by decide)),aG (g 2 (by decide)),aG (g 3 (by decide)),aG (g 4 (by decide)),aG (g 5 (by decide)),aG (g 6 (by decide)),aG (g 7 (by decide)),aG (g 8 (by decide)),aG (g 9 (by decide)),aG (g 10 (by decide)),aG (g 11 (by decide)),aG (g 12 (by decide)),aG hi]
theorem Ee:∀(h1 l l':aj),gN h1 h1=true->gN l l'=true->gN (h1++l) (h1++l')=true
 | [],l,l',_,h=>h
 | o::h1,l,l',h,h2=>by
   simp only[gN,Bool.and_eq_true,List.cons_append]at h ⊢;exact⟨h.1,Ee h1 l l' h.2 h2⟩
theorem Io{f:FuncId}{args0 args:List XV}{v v':XV}{news news':aj}{ob:ak}[cA ob](n:Nat)(hn:news.length=n)(hc:bt prog f args0 (k9++[ob]) v (k9++ob::news)){HS:aj}{K i:Nat}(hS:(HS.drop K).take 13=nr K)(hi:HS[i]? = some ob)(hd:(BH K [i]).Nodup)(ha:gW 14 args0)(e1:e9 (nth (BH K [i])) args0 args)(hv:v.bK (14+n))(e2:v.aC (nth (BH K [i]++List.range' HS.length n))=v')
 (hnk:ax (14+n) news) (hr:d9 (nth (BH K [i]++List.range' HS.length n)) news news') (hro:gN [] news=true) {HS':aj}(hh:HS++news'=HS') (hbd:Nat.blt HS'.length Mem.bound=true):aA.Sound prog ⟨f,args,HS,v',HS',BH K [i]⟩:=by
 have e0:∀j,j<13->nth (BH K [i]) j=K+j:=IZ K [i];have e0':∀j,j<13->nth (BH K [i]++List.range' HS.length n) j=K+j:=IZ K (i::List.range' HS.length n);have hln:(k9++ob::news).length=14+n:=by rw[List.length_append];show 13+(news.length+1)=_;omega
 refine bI (os:=nr K++ob::news') (BH K [i]) (BH K [i]) n hc hd (LM hS e0 (.flat hi .nil)) (t6 (l:=[ob]) (Nat.le_succ 13) (.flat .nil)) (by rw[hln];exact t6 (l:=ob::news) (by omega) (.flat hnk)) (by rw[hln];rfl) ha e1 (by rw[hln];exact hv) e2 (DY e0' (.flat hr)) ?_ rfl (by rw[Ip hS hi];exact hh) hbd (.inl rfl);refine Ee _ _ _ rfl ?_;simp only[gN,Bool.and_eq_true];exact⟨by cases ob.live<;>simp,hro⟩
theorem OR{HS:aj}{N:Nat}(hN:HS.length=N){HS':aj}(hh:HS++nr N=HS')(hbd:Nat.blt HS'.length Mem.bound=true) :
 aA.Sound prog ⟨31,[],HS,.one (.ptr N 0),HS',[]⟩:=by
 subst hN;have e:List.range' HS.length 13=BH HS.length []:=rfl;have h:=DY (K:=HS.length) (τ:=nth (BH HS.length [])) (IZ _ []) (l:=[]) (l':=[]) .nil;refine bI (os:=nr HS.length) [] [] 13 L4 (by simp) .nil .nil (t6 (l:=[]) (Nat.le_refl _) .nil) rfl .nil .nil (by show 0<13;omega) rfl (by rw[List.nil_append,e];exact h) rfl rfl hh hbd (.inl rfl)
noncomputable def yE(h:Hd)(p:Ph)(l:List Mb)(first:Int):Int ⊕ (List Int×List Int):=
 match mY l first (G6 h p) l.length with
 | .inl e => .inl e
 | .inr x=>if 30000<(fy (wr (x.B++[true])) (wr (x.B++[true])).length).1.length\/30000<(fy (wr (x.w++[true])) (wr (x.w++[true])).length).1.length then .inl 6 else .inr ((fy (wr (x.B++[true])) (wr (x.B++[true])).length).1,(fy (wr (x.w++[true])) (wr (x.w++[true])).length).1)
structure Gr where
 first:Int
 ms:List Mb
structure Pc where
 ph:Ph
 gs:List Gr
structure tP where
 hd:Hd
 ps:List Pc
instance:Inhabited Gr:=⟨⟨0,[]⟩⟩
instance:Inhabited Pc:=⟨⟨⟨0,false,false,0⟩,[]⟩⟩
structure Qn where
 first:Int
 k:Nat
 n:Nat
structure Qt where
 ph:Ph
 k:Nat
 n:Nat
instance:Inhabited Qn:=⟨⟨0,0,0⟩⟩
instance:Inhabited Qt:=⟨⟨⟨0,false,false,0⟩,0,0⟩⟩
def pO(a:Qn):List XC:=[.int .i64 a.first,.lsl 0 a.k 0 a.n a.n 0]
def oe(a:Qt):List XC:=[.int .i64 a.ph.id,.bool a.ph.inter,.bool a.ph.down,.int .i64 a.ph.qp,.lsl 0 a.k 0 a.n a.n 0]
instance:EX pO 2:=⟨fun _=>rfl,by decide⟩
instance:EX oe 5:=⟨fun _=>rfl,by decide⟩
def gC(b:Nat):List Gr->List Qn
 | []=>[]
 | g::l=>⟨g.first,b,g.ms.length⟩::gC (b+1) l
def f8(l:List Gr):List (List XC):=l.map fun g=>fl mC g.ms
def qG(b:Nat)(p:Pc):List (List XC):=f8 p.gs++[fl pO (gC b p.gs)]
def fB(b:Nat):List Pc->List (List XC)
 | []=>[]
 | p::l=>qG b p++fB (b+p.gs.length+1) l
def fi(b:Nat):List Pc->List Qt
 | []=>[]
 | p::l=>⟨p.ph,b+p.gs.length,p.gs.length⟩::fi (b+p.gs.length+1) l
def wide:List Pc->Nat
 | []=>0
 | p::l=>p.gs.length+1+wide l
def Fx(ps:List Pc):List (List XC):=fB 0 ps++[fl oe (fi 0 ps)]
theorem uk:∀(l:List Gr) (b:Nat),(gC b l).length=l.length
 | [],b=>rfl
 | g::l,b=>by rw[gC,List.length_cons,uk l,List.length_cons]
theorem xa:∀(l:List Gr) (b:Nat) (g:Gr),gC b (l++[g])=gC b l++[⟨g.first,b+l.length,g.ms.length⟩]
 | [],b,g=>rfl
 | x::l,b,g=>by
   rw[List.cons_append,gC,xa l,gC,List.cons_append,List.length_cons,show b+1+l.length=b+(l.length+1) by omega]
theorem qH(b:Nat)(p:Pc):(qG b p).length=p.gs.length+1:=by simp[qG,f8]
theorem qF:∀(l:List Pc) (b:Nat),(fB b l).length=wide l
 | [],b=>rfl
 | p::l,b=>by rw[fB,List.length_append,qH,qF l,wide]
theorem xg:∀(l:List Pc) (b:Nat) (p:Pc),fB b (l++[p])=fB b l++qG (b+wide l) p
 | [],b,p=>by simp[fB,wide]
 | x::l,b,p=>by
   rw[List.cons_append,fB,xg l,fB,List.append_assoc,wide,show b+x.gs.length+1+wide l=b+(x.gs.length+1+wide l) by omega]
theorem qQ:∀(l:List Pc) (b:Nat),(fi b l).length=l.length
 | [],b=>rfl
 | g::l,b=>by rw[fi,List.length_cons,qQ l,List.length_cons]
theorem xn:∀(l:List Pc) (b:Nat) (p:Pc),fi b (l++[p])=fi b l++[⟨p.ph,b+wide l+p.gs.length,p.gs.length⟩]
 | [],b,p=>by simp[fi,wide]
 | x::l,b,p=>by
   rw[List.cons_append,fi,xn l,fi,List.cons_append,wide,show b+x.gs.length+1+wide l=b+(x.gs.length+1+wide l) by omega]
def wM(L:List (List XC))(k:Nat)(gs:List Gr):Prop:=
 ∃l:List Qn,L[k]? = some (fl pO l)/\l.length=gs.length/\∀j,j<gs.length->(l.getD j default).first=(gs.getD j default).first/\(l.getD j default).n=(gs.getD j default).ms.length/\L[(l.getD j default).k]? = some (fl mC (gs.getD j default).ms)
def wN(L:List (List XC))(k:Nat)(ps:List Pc):Prop:=
 ∃l:List Qt,L[k]? = some (fl oe l)/\l.length=ps.length/\∀j,j<ps.length->(l.getD j default).ph=(ps.getD j default).ph/\(l.getD j default).n=(ps.getD j default).gs.length/\wM L (l.getD j default).k (ps.getD j default).gs
theorem DP:∀(l:List Gr) (b j:Nat),j<l.length->(gC b l).getD j default=⟨(l.getD j default).first,b+j,(l.getD j default).ms.length⟩
 | [],b,j,h=>absurd h (Nat.not_lt_zero j)
 | g::l,b,0,h=>rfl
 | g::l,b,j+1,h=>by
   rw[gC,List.getD_cons_succ,DP l (b+1) j (by simpa using h),List.getD_cons_succ,show b+1+j=b+(j+1) by omega]
theorem Iw{l:List Gr}{j:Nat}(h:j<l.length):(f8 l)[j]? = some (fl mC (l.getD j default).ms):=by
 unfold f8;rw[List.getElem?_map,List.getElem?_eq_getElem h,List.getD_eq_getElem?_getD,List.getElem?_eq_getElem h];rfl
theorem Ou{A B:List (List XC)}(p:Pc):wM (A++qG A.length p++B) (A.length+p.gs.length) p.gs:=by
 refine⟨gC A.length p.gs,?_,uk _ _,fun j hj=>?_⟩
 ·rw[List.append_assoc,List.getElem?_append_right (by omega),Nat.add_sub_cancel_left,List.getElem?_append_left (by rw[qH];omega)];unfold qG;rw[List.getElem?_append_right (by simp[f8]),show(f8 p.gs).length=p.gs.length by simp[f8],Nat.sub_self];rfl
 ·rw[DP _ _ _ hj];refine⟨rfl,rfl,?_⟩;show(A++qG A.length p++B)[A.length+j]? = _;rw[List.append_assoc,List.getElem?_append_right (by omega),Nat.add_sub_cancel_left,List.getElem?_append_left (by rw[qH];omega)];unfold qG;rw[List.getElem?_append_left (by simp[f8];exact hj)];exact Iw hj
theorem D4:∀(ps:List Pc) (A B:List (List XC)) (j:Nat),j<ps.length->((fi A.length ps).getD j default).ph=(ps.getD j default).ph/\((fi A.length ps).getD j default).n=(ps.getD j default).gs.length/\wM (A++fB A.length ps++B) ((fi A.length ps).getD j default).k (ps.getD j default).gs
 | [],A,B,j,h=>absurd h (Nat.not_lt_zero j)
 | p::l,A,B,0,h=>by
   refine⟨rfl,rfl,?_⟩;show wM (A++(qG A.length p++fB (A.length+p.gs.length+1) l)++B) (A.length+p.gs.length) p.gs;have:=Ou (A:=A) (B:=fB (A.length+p.gs.length+1) l++B) p;rwa [show A++(qG A.length p++fB (A.length+p.gs.length+1) l)++B=A++qG A.length p++(fB (A.length+p.gs.length+1) l++B) by simp only[List.append_assoc]]
 | p::l,A,B,j+1,h=>by
   have ih:=D4 l (A++qG A.length p) B j (by simpa using h);rw[List.length_append,qH,<-Nat.add_assoc]at ih;rw[fi,List.getD_cons_succ,List.getD_cons_succ,fB];rwa [show A++(qG A.length p++fB (A.length+p.gs.length+1) l)++B=A++qG A.length p++fB (A.length+p.gs.length+1) l++B by simp only[List.append_assoc]]
theorem Ix(ps:List Pc):wN (Fx ps) (wide ps) ps:=by
 refine⟨fi 0 ps,?_,qQ _ _,fun j hj=>?_⟩
 ·unfold Fx;rw[List.getElem?_append_right (by rw[qF];exact Nat.le_refl _),qF,Nat.sub_self];rfl
 ·exact D4 ps [] [fl oe (fi 0 ps)] j hj
theorem OJ(m:Mb)(n:Nat):∀c∈mC m,c.lL n=true:=by
 intro c hc;have h:=List.all_eq_true.1 (show(mC m).all XC.shut=true from nH.shut m) c hc;cases c<;>first|rfl|cases h|skip
 all_goals (simp[mC,ti,c7]at hc)
theorem Oo(ms:List Mb)(n:Nat):∀c∈fl mC ms,c.lL n=true:=fun c hc=>by
 obtain⟨m,_,h⟩:=List.mem_flatMap.1 hc;exact OJ m n c h
theorem qy:∀(l:List Gr) (b n:Nat),b+l.length<=n->∀c∈fl pO (gC b l),c.lL n=true
 | [],b,n,h=>fun c hc=>by cases hc
 | g :: l,b,n,h=>fun c hc=>by
   rw[gC]at hc
   rcases List.mem_append.1 (show c∈pO ⟨g.first,b,g.ms.length⟩++fl pO (gC (b+1) l)from hc)with hc|hc
   ·simp only[pO,List.mem_cons,List.not_mem_nil,or_false]at hc
    rcases hc with rfl|rfl
    ·rfl
    ·rw[List.length_cons]at h;simp only[XC.lL,Nat.blt_eq];omega
   ·exact qy l (b+1) n (by rw[List.length_cons]at h;omega) c hc
theorem AB:∀(l:List Pc) (b n:Nat),b+wide l<=n->∀c∈fl oe (fi b l),c.lL n=true
 | [],b,n,h=>fun c hc=>by cases hc
 | p :: l,b,n,h=>fun c hc=>by
   rw[fi]at hc;rw[wide]at h
   rcases List.mem_append.1 (show c∈oe ⟨p.ph,b+p.gs.length,p.gs.length⟩++fl oe (fi (b+p.gs.length+1) l)from hc)with hc|hc
   ·simp only[oe,List.mem_cons,List.not_mem_nil,or_false]at hc
    rcases hc with rfl|rfl|rfl|rfl|rfl<;>first|rfl|(simp only[XC.lL,Nat.blt_eq];omega)
   ·exact AB l (b+p.gs.length+1) n (by omega) c hc
structure tb where
 inter:Bool
 down:Bool
 qp:Int
 many:Int
instance:Inhabited tb:=⟨⟨false,false,0,0⟩⟩
def eR(p:tb):List XC:=[.bool p.inter,.bool p.down,.int .u8 p.qp,.int .u8 p.many]
instance:nH eR 4:=⟨fun _=>rfl,fun _=>rfl,by decide⟩
structure kj(p:tb):Prop where
 qp:0<=p.qp/\p.qp<=255
 many:0<=p.many/\p.many<=255
def TB(n:Nat):Sm:=⟨((n%256:Nat):Int),0,⟨fun _=>0,fun _=>0,false⟩,false,fun _=>0,0,false⟩
def wx(l:List Sm)(n:Nat):Sm:=if l.length=0 then TB n else l.getD (n%l.length) default
def Cp(l:List Sm)(inter:Bool)(qp:Int)(n:Nat):Mb:={n8 (wx l n) inter qp with edge:=(n8 (wx l n) inter qp).edge&&!(wx l n).great}
def iC(l:List Sm)(inter:Bool)(qp:Int)(n0:Nat):Nat->List Mb×Int
 | 0=>([],qp)
 | i+1=>((iC l inter qp n0 i).1++[Cp l inter (iC l inter qp n0 i).2 (n0+i)],(Cp l inter (iC l inter qp n0 i).2 (n0+i)).qp)
def gT(l:List Sm)(inter:Bool)(qp:Int)(many all n0:Nat):Nat->List Gr×Nat
 | 0=>([],0)
 | j+1=>if(gT l inter qp many all n0 j).2<all then((gT l inter qp many all n0 j).1++[⟨((gT l inter qp many all n0 j).2:Nat),(iC l inter qp (n0+(gT l inter qp many all n0 j).2) (min many (all-(gT l inter qp many all n0 j).2))).1⟩],(gT l inter qp many all n0 j).2+min many (all-(gT l inter qp many all n0 j).2))else gT l inter qp many all n0 j
def AD(i:Nat)(p:tb):Bool:=p.inter&&decide (0<i)
def FR(p:tb):Int:=1+p.qp%31
def Ja(p:tb):Nat:=(1+p.many%5).toNat
def FQ(l:List Sm)(all i:Nat)(p:tb):Pc:=⟨⟨(i:Nat),AD i p,AD i p&&p.down,FR p⟩,(gT l (AD i p) (FR p) (Ja p) all (i*all) all).1⟩
def A1(l:List Sm)(all:Nat)(pics:List tb):Nat->List Pc
 | 0=>[]
 | i+1=>A1 l all pics i++[FQ l all i (pics.getD i default)]
def gO(h:Hd):Hd:={fe h with cols:=1+(fe h).cols%3,rows:=1+(fe h).rows%3}
def lA(pics:List tb):Nat:=if pics.length=0 then 1 else min pics.length 5
def pY(h:Hd)(pics:List tb)(l:List Sm):tP:=⟨gO h,A1 l ((gO h).cols*(gO h).rows).toNat pics (lA pics)⟩
def qm(inter:Bool)(qp:Int):Int->List Gr->Int->Prop
 | b,[],e=>b=e
 | b,g::l,e=>g.first=b/\1<=g.ms.length/\g.ms.length<=5/\nK inter qp g.ms/\qm inter qp (b+(g.ms.length:Nat)) l e
theorem xd{inter:Bool}{qp:Int}:∀{l:List Gr} {b e:Int} {g:Gr},qm inter qp b l e->g.first=e->1<=g.ms.length->g.ms.length<=5->nK inter qp g.ms->qm inter qp b (l++[g]) (e+(g.ms.length:Nat))
 | [],b,e,g,h,h1,h2,h3,h4=>by
   have h:b=e:=h;subst h;exact⟨h1,h2,h3,h4,rfl⟩
 | x::l,b,e,g,h,h1,h2,h3,h4=>⟨h.1,h.2.1,h.2.2.1,h.2.2.2.1,xd h.2.2.2.2 h1 h2 h3 h4⟩
structure Qu(all:Nat)(i:Nat)(p:Pc):Prop where
 id:p.ph.id=(i:Nat)
 ph:pK p.ph
 first:i=0->p.ph.inter=false
 gs:qm p.ph.inter p.ph.qp 0 p.gs (all:Nat)
 few:p.gs.length<=all
theorem AU{l:List Sm}(hl:∀j,j<l.length->iS (l.getD j default))(n:Nat):iS (wx l n):=by
 unfold wx;split
 ·refine⟨by show(0:Int)<=((n%256:Nat):Int)/\((n%256:Nat):Int)<=255;omega,by show(0:Int)<=0/\(0:Int)<=255;omega,⟨fun _ _=>by show(-128:Int)<=0/\(0:Int)<128;omega,fun _ _=>by show(-128:Int)<=0/\(0:Int)<128;omega⟩,fun _ _=>by show(0:Int)<=0/\(0:Int)<18446744073709551616;omega,by show(0:Int)<=0/\(0:Int)<4294967296;omega⟩
 ·rename_i h;exact hl _ (Nat.mod_lt _ (Nat.pos_of_ne_zero h))
theorem ya{m:Mb}{inter:Bool}{qp:Int}(h:dH m inter qp=0):dH {m with edge:=false} inter qp=0:=by
 unfold dH at h;split at h
 ·cases h
 ·rename_i h1;split at h
  ·cases h
  ·show(if 5<=m.kind\/(inter=false/\alone m=false)then(5:Int)else if false=true/\alone m=false then 4 else if m.kind=4/\(eF qp m.qp).2=false then 6 else if m.kind≠4/\m.qp≠qp then 6 else if fW m≠0 then fW m else uF m)=0;rw[if_neg h1,if_neg (fun g=>Bool.noConfusion g.1)];exact h
theorem OM{l:List Sm}(hl:∀j,j<l.length->iS (l.getD j default)){inter:Bool}{qp:Int}(hq:1<=qp/\qp<=31)(n:Nat):jT (Cp l inter qp n)/\dH (Cp l inter qp n) inter qp=0/\1<=(Cp l inter qp n).qp/\(Cp l inter qp n).qp<=31:=by
 obtain⟨h1,h2,h3,h4⟩:=OL (inter:=inter) (AU hl n) hq;refine⟨⟨h1.kind,h1.qp,h1.v,h1.lev⟩,?_,h3,h4⟩
 obtain⟨m,hm⟩:∃m,n8 (wx l n) inter qp=m:=⟨_,rfl⟩
 unfold Cp;rw[hm]at h2 ⊢
 cases hb : !(wx l n).great with
 | true=>rw[Bool.and_true];exact h2
 | false=>
   rw[Bool.and_false];exact ya h2
theorem qA(l:List Sm)(inter:Bool)(qp:Int)(n0:Nat):∀k,(iC l inter qp n0 k).1.length=k
 | 0=>rfl
 | k+1=>by rw[iC,List.length_append,qA l inter qp n0 k];rfl
theorem ym{l:List Sm}(hl:∀j,j<l.length->iS (l.getD j default))(inter:Bool){qp:Int}(hq:1<=qp/\qp<=31)(n0:Nat):∀k,nK inter qp (iC l inter qp n0 k).1/\(1<=(iC l inter qp n0 k).2/\(iC l inter qp n0 k).2<=31)/\(iC l inter qp n0 k).2=if k=0 then qp else((iC l inter qp n0 k).1.getD (k-1) default).qp
 | 0=>⟨⟨fun _ h=>absurd h (Nat.not_lt_zero _),fun _ h=>absurd h (Nat.not_lt_zero _)⟩,hq,rfl⟩
 | k + 1=>by
   obtain⟨h1,h2,h3⟩:=ym hl inter hq n0 k;obtain⟨m1,m2,m3,m4⟩:=OM hl (inter:=inter) h2 (n0+k);have hlen:=qA l inter qp n0 k
   have hge:∀j,j<k->((iC l inter qp n0 k).1++[Cp l inter (iC l inter qp n0 k).2 (n0+k)]).getD j default=(iC l inter qp n0 k).1.getD j default:=fun j hj=>by
    rw[List.getD_eq_getElem?_getD,List.getElem?_append_left (by omega),List.getD_eq_getElem?_getD]
   have hgk:((iC l inter qp n0 k).1++[Cp l inter (iC l inter qp n0 k).2 (n0+k)]).getD k default=Cp l inter (iC l inter qp n0 k).2 (n0+k):=by
    rw[List.getD_eq_getElem?_getD,List.getElem?_append_right (by omega),hlen,Nat.sub_self];rfl
   have hlen1:((iC l inter qp n0 k).1++[Cp l inter (iC l inter qp n0 k).2 (n0+k)]).length=k+1:=by rw[List.length_append,hlen];rfl
   refine⟨⟨fun j hj=>?_,fun j hj=>?_⟩,⟨m3,m4⟩,?_⟩
   ·rw[iC]at hj ⊢;rw[hlen1]at hj
    by_cases hjk:j<k
    ·rw[hge j hjk];exact h1.mok j (by omega)
    ·obtain rfl:j=k:=by omega
     rw[hgk];exact m1
   ·rw[iC]at hj ⊢;rw[hlen1]at hj
    by_cases hjk:j<k
    ·rw[hge j hjk];have:=h1.chk j (by omega);split
     ·rename_i e;rw[if_pos e]at this;exact this
     ·rename_i e;rw[if_neg e]at this;rw[hge (j-1) (by omega)];exact this
    ·obtain rfl:j=k:=by omega
     rw[hgk];rw[h3]at m2;split
     ·rename_i e;rw[if_pos e]at m2;rw[h3,if_pos e];exact m2
     ·rename_i e;rw[if_neg e]at m2;rw[hge (j-1) (by omega),h3,if_neg e];exact m2
   ·rw[if_neg (by omega),Nat.add_sub_cancel,iC];simp only[];rw[hgk]
theorem Cc{l:List Sm}(hl:∀j,j<l.length->iS (l.getD j default))(inter:Bool){qp:Int}(hq:1<=qp/\qp<=31){many:Nat}(hm:1<=many/\many<=5)(all n0:Nat):∀j,qm inter qp 0 (gT l inter qp many all n0 j).1 ((gT l inter qp many all n0 j).2:Nat)/\(gT l inter qp many all n0 j).2<=all/\(j<=all->j<=(gT l inter qp many all n0 j).2)/\(gT l inter qp many all n0 j).1.length<=(gT l inter qp many all n0 j).2
 | 0=>⟨rfl,Nat.zero_le _,fun _=>Nat.le_refl _,Nat.le_refl _⟩
 | j + 1=>by
   obtain⟨h1,h2,h3,h4⟩:=Cc hl inter hq hm all n0 j;rw[gT];split
   ·rename_i hlt;have hk:=ym hl inter hq (n0+(gT l inter qp many all n0 j).2) (min many (all-(gT l inter qp many all n0 j).2));have hn:=qA l inter qp (n0+(gT l inter qp many all n0 j).2) (min many (all-(gT l inter qp many all n0 j).2));refine⟨?_,by show _+min many _<=all;omega,fun _=>by show j+1<=_+min many _;omega,?_⟩
    ·have:=xd (g:=⟨((gT l inter qp many all n0 j).2:Nat),(iC l inter qp (n0+(gT l inter qp many all n0 j).2) (min many (all-(gT l inter qp many all n0 j).2))).1⟩) h1 rfl (by show 1<=(iC _ _ _ _ _).1.length;rw[hn];omega) (by show(iC _ _ _ _ _).1.length<=5;rw[hn];omega) hk.1;simp only[hn]at this;rw[show(((gT l inter qp many all n0 j).2+min many (all-(gT l inter qp many all n0 j).2):Nat):Int)=((gT l inter qp many all n0 j).2:Nat)+((min many (all-(gT l inter qp many all n0 j).2):Nat):Int) by omega];exact this
    ·show((gT l inter qp many all n0 j).1++[_]).length<=_+min many _;rw[List.length_append,List.length_singleton];omega
   ·exact⟨h1,h2,fun h=>by omega,h4⟩
theorem L8{l:List Sm}(hl:∀j,j<l.length->iS (l.getD j default))(all i:Nat)(hi:i<=60000){p:tb}(hp:kj p):Qu all i (FQ l all i p):=by
 have hq:1<=FR p/\FR p<=31:=by unfold FR;omega
 have hm:1<=Ja p/\Ja p<=5:=by unfold Ja;omega
 obtain⟨h1,h2,h3,h4⟩:=Cc hl (AD i p) hq hm all (i*all) all;have he:(gT l (AD i p) (FR p) (Ja p) all (i*all) all).2=all:=by have:=h3 (Nat.le_refl _);omega
 rw[he]at h1 h4;refine⟨rfl,⟨by show(0:Int)<=(i:Nat)/\((i:Nat):Int)<=65535;omega,hq,fun h=>?_⟩,fun h=>?_,h1,h4⟩
 ·have h:(AD i p&&p.down)=true:=h;simp only[Bool.and_eq_true]at h;exact h.1
 ·subst h;show AD 0 p=false;unfold AD;simp
theorem kI(l:List Sm)(all:Nat)(pics:List tb):∀i,(A1 l all pics i).length=i
 | 0=>rfl
 | i+1=>by rw[A1,List.length_append,kI l all pics i];rfl
theorem yS(l:List Sm)(all:Nat)(pics:List tb):∀n i,i<n->(A1 l all pics n).getD i default=FQ l all i (pics.getD i default)
 | 0,i,h=>absurd h (Nat.not_lt_zero i)
 | n + 1,i,h=>by
   rw[A1,List.getD_eq_getElem?_getD]
   by_cases hi:i<n
   ·rw[List.getElem?_append_left (by rw[kI];exact hi),<-List.getD_eq_getElem?_getD];exact yS l all pics n i hi
   ·obtain rfl:i=n:=by omega
    rw[List.getElem?_append_right (by rw[kI];exact Nat.le_refl _),kI,Nat.sub_self];rfl
structure Ds(s:tP):Prop where
 hd:lE s.hd
 raw:∀i,i<64->(0<=s.hd.a i/\s.hd.a i<=255)/\(0<=s.hd.b i/\s.hd.b i<=255)
 cols:1<=s.hd.cols/\s.hd.cols<=3
 rows:1<=s.hd.rows/\s.hd.rows<=3
 many:1<=s.ps.length/\s.ps.length<=5
 pics:∀i,i<s.ps.length->Qu (s.hd.cols*s.hd.rows).toNat i (s.ps.getD i default)
def kZ(l:Nat->Int):Prop:=∀i,-1000<=l i/\l i<=1000
def EY(T:nF):Prop:=∀key b,eP T key=some b->kZ b.lv
structure mz(S:cH):Prop where
 a:EY S.A
 b:EY S.B
 c:EY S.C
theorem uI:EY []:=fun key b h=>by cases h
theorem uJ{p q:Int}{T:nF}(h:EY T){key:Int}{b:Kn}(hb:kZ b.lv):EY (rZ p q T key b):=by
 unfold rZ;split
 ·intro key' b' h';rw[rR]at h';split at h'
  ·cases h';exact hb
  ·exact h key' b' h'
 ·exact h
theorem IW{S:cH}(h:mz S){mb k dx dy:Int}{b:Kn}(hb:Cs S mb k dx dy=some b):kZ b.lv:=by
 unfold Cs bG cq at hb;split at hb
 ·cases hb
 ·unfold bN at hb;split at hb
  ·exact h.a _ _ hb
  ·split at hb
   ·exact h.b _ _ hb
   ·exact h.c _ _ hb
theorem IK:kZ fun _=>0:=fun i=>⟨by show(-1000:Int)<=0;decide,by show(0:Int)<=1000;decide⟩
theorem HR{b:Kn}(h:kZ b.lv)(s:Nat):∀n,kZ (em b s n)
 | 0=>IK
 | n+1=>q9 (HR h s n) (h _)
theorem Aj{o:Option Kn}(h:∀b,o=some b->kZ b.lv)(s:Nat)(q:Int):kZ (jr o s q):=by
 unfold jr;split
 ·split
  ·exact HR (h _ rfl) s 7
  ·exact IK
 ·exact IK
theorem HQ{S:cH}(h:mz S)(mb k q:Int):kZ (iJ S mb k q):=by
 unfold iJ zI;split
 ·exact Aj (fun b hb=>IW h hb) _ _
 ·split
  ·exact Aj (fun b hb=>IW h hb) _ _
  ·exact IK
theorem z8{m:Mb}(hm:kZ m.lev)(k:Nat):kZ (cD m k):=fun i=>hm _
theorem E8{m:Mb}(hm:kZ m.lev){S:cH}(h:mz S)(mb:Int)(k:Nat):∃r,nk m S mb k=some r:=by
 unfold nk;split
 ·split
  ·have h1:pz (cD m k) (iJ S mb k m.qp)=some fun i=>cD m k i-iJ S mb k m.qp i:=by
    unfold pz;rw[if_neg];intro⟨i,hi,hb⟩;have h1:=z8 hm k i;have h2:=HQ h mb k m.qp i;unfold lu at hb;omega
   rw[h1];exact⟨_,rfl⟩
  ·exact⟨_,rfl⟩
 ·exact⟨_,rfl⟩
theorem J9{S:cH}(h:mz S){mb k:Int}{b:Kn}(hb:kZ b.lv):mz (eG S mb k b):=⟨uJ h.a hb,uJ h.b hb,uJ h.c hb⟩
theorem zB{m:Mb}(hm:kZ m.lev){mb:Int}{x0:rB}(h:mz x0.S):∀k,∃x,kn m mb x0 k=some x/\mz x.S
 | 0=>⟨x0,rfl,h⟩
 | k + 1=>by
   obtain⟨x,hx,hS⟩:=zB hm h k;obtain⟨r,hr⟩:=E8 hm hS mb k;refine⟨gy m mb k x (E2 m x.S mb k r),?_,?_⟩
   ·rw[kn,hx,Option.bind_some,hr];rfl
   ·show mz (if alone m=true then eG x.S mb k ⟨cD m k,m.qp⟩else x.S);split
    ·exact J9 hS (z8 hm k)
    ·exact hS
theorem Iq{S:cH}(h:mz S)(m:Mb):mz (fA S m):=by
 unfold fA;split
 ·exact⟨h.a,h.b,h.c⟩
 ·exact h
theorem ow{S:cH}(h:mz S)(mb:Int)(v:Nat->Int×Int):mz (b6 S mb v):=⟨h.a,h.b,h.c⟩
theorem uw{z:cH×List Bool}(h:mz z.1)(m:Mb)(mb:Int)(k:Nat):mz (aT m mb z k).1:=⟨h.a,h.b,h.c⟩
theorem Ic{S:cH}(h:mz S)(X:List Bool)(m:Mb)(mb:Int):mz (fS S X m mb).1:=by
 unfold fS;split
 ·exact ow h _ _
 ·split
  ·exact ow (uw h _ _ _) _ _
  ·split
   ·exact ow (uw (uw (uw (uw h _ _ _) _ _ _) _ _ _) _ _ _) _ _
   ·exact ow (Iq h m) _ _
theorem F3{S:cH}(h:mz S){m:Mb}(hm:kZ m.lev)(X bw:List Bool)(mb:Int):∃z,nv S X bw m mb=some z/\mz z.1:=by
 unfold nv;split
 ·exact⟨(b6 S mb m.v,X++bm S m,bw),rfl,ow h _ _⟩
 ·obtain⟨x,hx,hS⟩:=zB (mb:=mb) hm (x0:=⟨(fS S X m mb).1,(fS S X m mb).2,0,0,fun _=>[]⟩) (Ic h X m mb) 6;rw[hx,Option.map_some];exact⟨(x.S,eJ x,c_ bw x 6),rfl,hS⟩
theorem AJ{h:Hd}{p:Ph}{l:List Mb}{first:Int}(hT:mA h p l first)(hM:nK p.inter p.qp l)(hL:∀k,k<l.length->kZ (l.getD k default).lev):∀k,k<=l.length->∃x,mY l first (G6 h p) k = .inr x/\mz x.S
 | 0,_=>⟨_,rfl,⟨uI,uI,uI⟩⟩
 | k+1,hk=>by
   obtain⟨x,hx,hS⟩:=AJ hT hM hL k (by omega);have hi:=u0 hT k (by omega) x hx;have hq:=Mi hT k (by omega) x hx;have hc:=hM.chk k (by omega);rw[<-hq,<-hi.inter]at hc;obtain⟨z,hz,hz2⟩:=F3 hS (hL k (by omega)) x.B x.w (first+(k:Nat));exact⟨_,(xu hx).trans (u2 hc hz),hz2⟩
theorem rK:∀(l:List Int) (z:Int),(∀b∈l,0<=b/\b<256)->∀b∈lK z l,0<=b/\b<256
 | [],z,_=>fun b hb=>by cases hb
 | x :: t,z,h=>fun b hb=>by
   have hx:=h x (List.mem_cons_self ..);have ht:∀b∈t,0<=b/\b<256:=fun b hb=>h b (List.mem_cons_of_mem _ hb)
   rw[lK]at hb;split at hb
   ·rcases List.mem_cons.1 hb with rfl|hb
    ·omega
    ·rcases List.mem_cons.1 hb with rfl|hb
     ·exact hx
     ·exact rK t _ ht b hb
   ·rcases List.mem_cons.1 hb with rfl|hb
    ·exact hx
    ·exact rK t _ ht b hb
theorem oP(l:List Int)(hl:bj l):bj (fy l l.length).1:=fun i=>by
 rw[nT];refine lY (p:=fun z=>0<=z/\z<256) (rK l 0 fun b hb=>?_) (by decide) i;obtain⟨j,hj,rfl⟩:=List.mem_iff_getElem.1 hb;have:=hl j;rw[List.getD_eq_getElem?_getD,List.getElem?_eq_getElem hj]at this;exact this
theorem Ml{h:Hd}{p:Ph}{l:List Mb}{first:Int}(hT:mA h p l first)(hM:nK p.inter p.qp l)(hL:∀k,k<l.length->kZ (l.getD k default).lev)(h5:l.length<=5):∃a b,yE h p l first = .inr (a,b)/\bj a/\bj b/\a.length<=30000/\b.length<=30000:=by
 obtain⟨x,hx,-⟩:=AJ hT hM hL l.length (Nat.le_refl _);have hi:=u0 hT l.length (Nat.le_refl _) x hx;have b1:=hi.len;have b2:=hi.lenw;have l1:=(nV (wr (x.B++[true]))).2;have l2:=(nV (wr (x.w++[true]))).2;have l3:=cN (x.B++[true]);have l4:=cN (x.w++[true]);rw[List.length_append,List.length_singleton]at l3 l4;refine⟨_,_,?_,oP _ (iL (x.B++[true])),oP _ (iL (x.w++[true])),by omega,by omega⟩;unfold yE;rw[hx];exact if_neg (by omega)
theorem LX(s:Sm)(inter:Bool)(qp:Int):kZ (n8 s inter qp).lev:=fun i=>by
 show -1000<=(if(eg s inter qp).1=0 then fun _=>0 else(jJ s (wj (eg s inter qp).1) 6).2) i/\(if(eg s inter qp).1=0 then fun _=>0 else(jJ s (wj (eg s inter qp).1) 6).2) i<=1000;split
 ·exact IK i
 ·have:=(uK s (wj (eg s inter qp).1) 6).1 i;omega
theorem DR(l:List Sm)(inter:Bool)(qp:Int)(n0:Nat):∀k,∀m∈(iC l inter qp n0 k).1,kZ m.lev
 | 0=>fun m h=>by cases h
 | k + 1=>fun m h=>by
   rw[iC]at h
   rcases List.mem_append.1 h with h|h
   ·exact DR l inter qp n0 k m h
   ·rw[List.mem_singleton]at h;subst h;exact LX _ _ _
theorem Ce(l:List Sm)(inter:Bool)(qp:Int)(many all n0:Nat):∀j,∀g∈(gT l inter qp many all n0 j).1,∀m∈g.ms,kZ m.lev
 | 0=>fun g h=>by cases h
 | j + 1=>fun g h=>by
   rw[gT]at h;split at h
   ·rcases List.mem_append.1 h with h|h
    ·exact Ce l inter qp many all n0 j g h
    ·rw[List.mem_singleton]at h;subst h;exact DR l inter qp _ _
   ·exact Ce l inter qp many all n0 j g h
def kK(f:Nat->Int):Nat->List Bool
 | 0=>[]
 | k+1=>kK f k++aJ (f k) 8
theorem gP(f:Nat->Int):∀k,(kK f k).length=8*k
 | 0=>rfl
 | k+1=>by rw[kK,List.length_append,gP f k,aR];omega
def pP(h:Hd):List Bool:=(([]++aJ h.cols 8)++aJ h.rows 8)++[h.w]
def v_(h:Hd):List Bool:=if h.w=true then(pP h++kK h.a 64)++kK h.b 64 else pP h
theorem ju(h:Hd):(pP h).length=17:=by simp only[pP,List.length_append,aR,List.length_cons,List.length_nil]
theorem DT(h:Hd):(v_ h).length<=1041:=by
 unfold v_;split
 ·rw[List.length_append,List.length_append,ju,gP,gP];omega
 ·rw[ju];omega
def py(h:Hd):List Int:=wr (v_ h++[true])
def zn(h:Hd):List Int:=py h++[c9 (py h)/256,c9 (py h)%256,128]
def hZ(h:Hd):List Int:=[0,0,1,176]++(fy (zn h) (zn h).length).1
theorem gp{a b:List Int}(ha:bj a)(hb:bj b):bj (a++b):=fun i=>by
 rw[List.getD_eq_getElem?_getD]
 by_cases h:i<a.length
 ·rw[List.getElem?_append_left h,<-List.getD_eq_getElem?_getD];exact ha i
 ·rw[List.getElem?_append_right (by omega),<-List.getD_eq_getElem?_getD];exact hb _
theorem dD{z:Int}{l:List Int}(hz:0<=z/\z<256)(h:bj l):bj (z::l):=fun i=>by
 cases i with
 | zero=>exact hz
 | succ i=>exact h i
theorem iX:bj []:=fun i=>by show(0:Int)<=0/\(0:Int)<256;omega
theorem qC(h:Hd):bj (py h):=iL _
theorem th(h:Hd):(py h).length<=131:=by
 have:=DT h;unfold py;rw[cN,List.length_append,List.length_singleton];omega
theorem uu(h:Hd):bj (zn h):=by
 have:=gf (py h);exact gp (qC h) (dD (by omega) (dD (by omega) (dD (by omega) iX)))
theorem yq(h:Hd):(zn h).length<=134:=by
 have:=th h;unfold zn;rw[List.length_append];simp only[List.length_cons,List.length_nil];omega
theorem qD(h:Hd):bj (hZ h):=
 gp (dD (by omega) (dD (by omega) (dD (by omega) (dD (by omega) iX)))) (oP _ (uu h))
theorem jX(h:Hd):4<=(hZ h).length/\(hZ h).length<=272:=by
 have:=yq h;have:=(nV (zn h)).1;unfold hZ;rw[List.length_append];simp only[List.length_cons,List.length_nil];omega
noncomputable def f_(h:Hd)(p:Ph)(g:Gr):List Int×List Int:=match yE h p g.ms g.first with
 | .inr x=>x
 | .inl _=>([],[])
noncomputable def Ru(h:Hd)(p:Ph)(g:Gr):List Bool:=kB p g.first (g.ms.length:Nat) ((f_ h p g).1.length:Nat) ((f_ h p g).2.length:Nat) (c9 (f_ h p g).1) (c9 (f_ h p g).2) (c9 (wr (fT p g.first (g.ms.length:Nat) ((f_ h p g).1.length:Nat) ((f_ h p g).2.length:Nat) (c9 (f_ h p g).1) (c9 (f_ h p g).2))))
noncomputable def D5(h:Hd)(p:Ph)(g:Gr):List Int:=eh (Ru h p g) (f_ h p g).1 (f_ h p g).2
noncomputable def NI(h:Hd)(p:Pc):List (List Int):=p.gs.map (D5 h p.ph)
noncomputable def qk(h:Hd)(ps:List Pc):List (List Int):=ps.flatMap (NI h)
noncomputable def iF(s:tP):List (List Int):=hZ s.hd::qk s.hd s.ps
theorem r7{α : Type}[Inhabited α](l:List α){j:Nat}(h:j<l.length):l.take (j+1)=l.take j++[l.getD j default]:=by
 rw[List.take_add_one,List.getElem?_eq_getElem h,List.getD_eq_getElem?_getD,List.getElem?_eq_getElem h];rfl
structure lG(s:tP):Prop where
 ok:Ds s
 low:∀p∈s.ps,∀g∈p.gs,∀m∈g.ms,kZ m.lev
theorem um{inter:Bool}{qp:Int}:∀{l:List Gr} {b e:Int},qm inter qp b l e->0<=b->∀g∈l,0<=g.first/\b<=g.first/\g.first+(g.ms.length:Nat)<=e/\1<=g.ms.length/\g.ms.length<=5/\nK inter qp g.ms
 | [],b,e,h,hb=>fun g hg=>by cases hg
 | x :: l,b,e,h,hb=>fun g hg=>by
   obtain⟨h1,h2,h3,h4,h5⟩:=h
   have hle:∀{l:List Gr} {b e:Int},qm inter qp b l e->b<=e:=fun {l}=>by
    induction l with
    | nil=>intro b e h;have h:b=e:=h;omega
    | cons x l ih=>intro b e h;have:=ih h.2.2.2.2;omega
   rcases List.mem_cons.1 hg with rfl|hg
   ·have:=hle h5;exact⟨by omega,by omega,by omega,h2,h3,h4⟩
   ·have:=um h5 (by omega) g hg;exact⟨this.1,by omega,this.2.2⟩
theorem oY{s:tP}(h:Ds s):1<=s.hd.cols*s.hd.rows/\s.hd.cols*s.hd.rows<=9:=by
 obtain⟨c0,c1⟩:=h.cols;obtain⟨r0,r1⟩:=h.rows;have hc:s.hd.cols=1\/s.hd.cols=2\/s.hd.cols=3:=by omega
 have hr:s.hd.rows=1\/s.hd.rows=2\/s.hd.rows=3:=by omega
 rcases hc with e|e|e<;>rcases hr with f|f|f<;>rw[e,f]<;>decide
theorem Cn{inter:Bool}{qp:Int}{l:List Mb}(h:nK inter qp l):∀m∈l,jT m:=fun m hm=>by
 obtain⟨j,hj,rfl⟩:=List.mem_iff_getElem.1 hm;have:=h.mok j hj;rwa [List.getD_eq_getElem?_getD,List.getElem?_eq_getElem hj,Option.getD_some]at this
theorem yf:∀(l:List Int) (z:Int),l.length<=(lK z l).length
 | [],z=>Nat.zero_le _
 | b :: t,z=>by
   rw[lK];split
   ·have:=yf t (if b=0 then 0+1 else 0);simp only[List.length_cons];omega
   ·have:=yf t (if b=0 then z+1 else 0);simp only[List.length_cons];omega
theorem qv{l:List Int}(h:1<=l.length):1<=(fy l l.length).1.length:=by
 rw[nT];have:=yf l 0;omega
theorem I3{h:Hd}{p:Ph}{l:List Mb}{first:Int}{a b:List Int}(hp:yE h p l first = .inr (a,b)):1<=a.length/\1<=b.length:=by
 unfold yE at hp;split at hp
 ·cases hp
 ·rename_i x hx;split at hp
  ·cases hp
  ·cases hp;exact⟨qv (by rw[cN,List.length_append,List.length_singleton];omega),qv (by rw[cN,List.length_append,List.length_singleton];omega)⟩
theorem Jc{s:tP}(h:lG s){i:Nat}(hi:i<s.ps.length){g:Gr}(hg:g∈(s.ps.getD i default).gs) :
 mA s.hd (s.ps.getD i default).ph g.ms g.first/\yE s.hd (s.ps.getD i default).ph g.ms g.first = .inr (f_ s.hd (s.ps.getD i default).ph g)/\bj (f_ s.hd (s.ps.getD i default).ph g).1/\bj (f_ s.hd (s.ps.getD i default).ph g).2/\(1<=(f_ s.hd (s.ps.getD i default).ph g).1.length/\(f_ s.hd (s.ps.getD i default).ph g).1.length<=30000)/\(1<=(f_ s.hd (s.ps.getD i default).ph g).2.length/\(f_ s.hd (s.ps.getD i default).ph g).2.length<=30000):=by
 have hm:=oY h.ok;have hp:=h.ok.pics i hi;have he:(((s.hd.cols*s.hd.rows).toNat:Nat):Int)=s.hd.cols*s.hd.rows:=by omega
 obtain⟨g1,g2,g3,g4,g5,g6⟩:=um hp.gs (Int.le_refl 0) g hg;rw[he]at g3
 have hT:mA s.hd (s.ps.getD i default).ph g.ms g.first:=⟨h.ok.hd,hp.ph,Cn g6,g1,g4,by omega,g3⟩
 have hmem:s.ps.getD i default∈s.ps:=by
  rw[List.getD_eq_getElem?_getD,List.getElem?_eq_getElem hi,Option.getD_some];exact List.getElem_mem hi
 have hlow:∀k,k<g.ms.length->kZ (g.ms.getD k default).lev:=fun k hk=>by
  rw[List.getD_eq_getElem?_getD,List.getElem?_eq_getElem hk,Option.getD_some];exact h.low _ hmem g hg _ (List.getElem_mem hk)
 obtain⟨a,b,e,ha,hb,la,lb⟩:=Ml hT g6 hlow g5;have hpos:=I3 e;have eAB:f_ s.hd (s.ps.getD i default).ph g=(a,b):=by unfold f_;rw[e]
 rw[eAB];exact⟨hT,e,ha,hb,⟨hpos.1,la⟩,hpos.2,lb⟩
def rH(h:Hd)(c0 c1:XC):List XC:=b9 h++[c0,c1]
theorem DG(h:Hd)(c0 c1:XC):(rH h c0 c1).length=133:=by simp[rH,aF]
theorem Od(h:Hd)(c0 c1:XC):((rH h c0 c1).drop 0).take 131=b9 h:=by
 unfold rH;rw[List.drop_zero,List.take_left' (aF h)]
theorem DE(h:Hd)(c0 c1:XC):(rH h c0 c1)[131]? = some c0:=by
 unfold rH;rw[List.getElem?_append_right (by rw[aF];omega),aF];rfl
theorem DF(h:Hd)(c0 c1:XC):(rH h c0 c1)[132]? = some c1:=by
 unfold rH;rw[List.getElem?_append_right (by rw[aF];omega),aF];rfl
abbrev DI(h:Hd)(c0 c1:XC):ak := .cells (rH h c0 c1) 30 false false
theorem lI{h:Hd}{c0 c1:XC}{n n' m:Nat}(k0:cS c0 0 0 n)(k1:cS c1 1 0 n')(hm:Nat.ble 2 m=true):(DI h c0 c1).bK m:=fun c hc=>by
 have hm:=Nat.le_of_ble_eq_true hm
 rcases List.mem_append.1 (show c∈b9 h++[c0,c1]from hc)with hc|hc
 ·exact XC.aY (List.all_eq_true.1 (cW h) c hc) m
 ·simp only[List.mem_cons,List.not_mem_nil,or_false]at hc
  rcases hc with rfl|rfl
  ·exact k0.ok (by omega)
  ·exact k1.ok (by omega)
theorem mM(h:Hd)(τ : Nat->Nat):(b9 h).map (·.aC τ)=b9 h:=by
 refine(List.map_congr_left (g:=id) fun c hc=>?_).trans (List.map_id _);exact XC.dU (List.all_eq_true.1 (cW h) c hc) τ
theorem ee{τ : Nat->Nat}{HS:aj}{i:Nat}{ls:List Nat}{hs:aj}{h:Hd}{c0 c1:XC}{n n':Nat}(k0:cS c0 0 0 n)(k1:cS c1 1 0 n')(hi:HS[i]? = some (DI h c0 c1))(e0 : τ 0=0)(e1 : τ 1=1)(r:ae τ HS ls hs):ae τ HS (i::ls) (DI h c0 c1::hs):=by
 refine ae.cons ?_ r;rw[hi];simp only[DI,rH,ak.aC,List.map_append,mM,List.map_cons,List.map_nil,k0.id e0,k1.id e1]
def fJ(h:Hd)(c:XC):List XC:=b9 h++[c]
theorem dh(h:Hd)(c:XC):(fJ h c).length=132:=by simp[fJ,aF]
theorem r6(h:Hd)(c:XC):((fJ h c).drop 0).take 131=b9 h:=by
 unfold fJ;rw[List.drop_zero,List.take_left' (aF h)]
theorem CT(h:Hd)(c:XC):(fJ h c)[131]? = some c:=by
 unfold fJ;rw[List.getElem?_append_right (by rw[aF];omega),aF];rfl
theorem MM(h:Hd)(c c':XC):(fJ h c).set 131 c'=fJ h c':=by
 unfold fJ;rw[List.set_append_right _ _ (by rw[aF];omega),aF];rfl
abbrev lr:Hd:=⟨0,0,false,fun _=>0,fun _=>0⟩
theorem zm:aM prog 36 (fJ lr .nils):=by
 show aM prog 36 ((.int .i64 0 :: .int .i64 0 :: .bool false::((ti .u8 64 fun _=>0)++(ti .u8 64 fun _=>0)))++[.nils])
 infer_instance
theorem bh{τ : Nat->Nat}{HS:aj}{i:Nat}{ls:List Nat}{hs:aj}{h:Hd}{c:XC}{a b:Bool}(hc:c.aC τ = c)(hi:HS[i]? = some (.cells (fJ h c) 36 a b))(r:ae τ HS ls hs):ae τ HS (i::ls) (.cells (fJ h c) 36 a b::hs):=by
 refine ae.cons ?_ r;rw[hi];simp only[fJ,ak.aC,List.map_append,mM,List.map_cons,List.map_nil,hc]
theorem cY{h:Hd}{c:XC}{a b:Bool}{m:Nat}(hc:c.ok m):(ak.cells (fJ h c) 36 a b).bK m:=fun x hx=>by
 rcases List.mem_append.1 (show x∈b9 h++[c]from hx)with hx|hx
 ·exact XC.aY (List.all_eq_true.1 (cW h) x hx) m
 ·rw[List.mem_singleton.1 hx];exact hc
theorem lP{h:Hd}{c:XC}{m:Nat}(hc:c.ok m):(XV.agg (fJ h c)).bK m:=fun x hx=>by
 rcases List.mem_append.1 (show x∈b9 h++[c]from hx)with hx|hx
 ·exact XC.aY (List.all_eq_true.1 (cW h) x hx) m
 ·rw[List.mem_singleton.1 hx];exact hc
theorem qW{h:Hd}{c c':XC}{τ : Nat->Nat}(hc:c.aC τ = c'):(XV.agg (fJ h c)).aC τ = .agg (fJ h c'):=by
 simp only[fJ,XV.aC,List.map_append,mM,List.map_cons,List.map_nil,hc]
abbrev tt(p:Ph)(c:XC):List XC:=[.int .i64 p.id,.bool p.inter,.bool p.down,.int .i64 p.qp,c]
abbrev DQ(f:Int)(c:XC):List XC:=[.int .i64 f,c]
def RK(h:Hd)(j:Nat):Nat->Int:=if j=0 then h.a else h.b
def sX(h:Hd):Nat->List Bool
 | 0=>pP h
 | j+1=>sX h j++kK (RK h j) 64
theorem ur(h:Hd):∀j,(sX h j).length=17+512*j
 | 0=>ju h
 | j+1=>by rw[sX,List.length_append,ur h j,gP];omega
theorem PU(x:Int):IntKind.u8.wrap x=x%256:=by
 simp[IntKind.wrap,IntKind.bits,IntKind.signed]
theorem MS(f g:Nat->Int):∀j,j<2->((ti .u8 64 f++ti .u8 64 g).drop (j*64)).take 64=ti .u8 64 (if j=0 then f else g)
 | 0,_=>by
   rw[Nat.zero_mul,List.drop_zero,List.take_left' (aU ..)];rfl
 | 1,_=>by
   rw[Nat.one_mul,List.drop_left' (aU ..),List.take_of_length_le (by rw[aU];exact Nat.le_refl _)];rfl
 | j+2,h=>absurd h (by omega)
theorem Q7(h:Hd):((b9 h).drop 3).take 64=ti .u8 64 h.a:=by
 show(ti .u8 64 h.a++ti .u8 64 h.b).take 64=_;exact List.take_left' (aU ..)
theorem Q8(h:Hd):((b9 h).drop 67).take 64=ti .u8 64 h.b:=by
 have e:(b9 h).drop 67=(ti .u8 64 h.a++ti .u8 64 h.b).drop 64:=rfl;rw[e,List.drop_left' (aU ..),List.take_of_length_le (by rw[aU];exact Nat.le_refl _)]
theorem KQ:aM prog 22 (ti .u8 64 fun _=>0):=by infer_instance
instance R6 (f g:Nat->Int) (e:TypeId) (a b:Bool):cA (.cells (ti .u8 64 f++ti .u8 64 g) e a b):=iA (by rw[List.all_append,jg,jg];rfl)
theorem Be{bs:List Bool}(hb:bs.length<=1000000){n:Nat}(hn:((bs++[true]).length+7)/8=n){w:List Int}(hw:wr (bs++[true])=w){HS:aj}{i k:Nat}(hi:HS[i]? = some (aP k bs))(hk:HS[k]? = some (av bs))(hd:i≠k){N:Nat}(hN:HS.length=N){HS':aj}(hh:HS++[bU 5 (il .u8 w)]=HS')(hbd:Nat.blt HS'.length Mem.bound=true) :
 aA.Sound prog ⟨48,[.one (.ptr i 0)],HS,gJ N n 1,HS',[i,k]⟩:=by
 subst hn hw;exact vG hb hi hk hd hN hh hbd
theorem vr{q:List Int}(hq:1<=q.length):bU 5 (il .u8 q) = .cells (il .u8 q) 5 true false:=cK fun e=>by
 have h2:(il .u8 q).length=0:=by rw[e];rfl
 rw[bz]at h2;omega
theorem NJ(l:List Int):RO (bU 5 (il .u8 l)) .u8 l:=⟨fun h=>⟨_,true,false,vr (by omega)⟩,inferInstance⟩
theorem wZ{l:List Int}(hl:bj l)(hn:l.length<=100000)(h0:1<=l.length){q:List Int}(hq:(fy l l.length).1=q){n m:Nat}(hln:l.length=n)(hm:q.length=m){HS:aj}{i:Nat}(hi:HS[i]? = some (bU 5 (il .u8 l))){N:Nat}(hN:HS.length=N){HS':aj}(hh:HS++[.cells (il .u8 q) 5 true false]=HS')(hb:Nat.blt HS'.length Mem.bound=true) :
 aA.Sound prog ⟨51,[gJ i n 1],HS,.one (.slice N 0 m (.toEnd 1)),HS',[i]⟩:=by
 subst hm;have hp:=qv h0;rw[hq]at hp;rw[<-fm (show q.length≠0 by omega)];exact rL hl hn hq hln hi hN (by rw[vr hp];exact hh) hb
theorem Bf{b:Bool}{bs:List Bool}(hb:bs.length<=1000000){HS:aj}{i k:Nat}(hi:HS[i]? = some (aP k bs))(hk:HS[k]? = some (av bs))(hd:i≠k){q:List Bool}(hq:bs++[b]=q){N:Nat}(hN:HS.length=N){HS':aj}(hh:bJ HS [i,k] [aP N q,.dead,av q]=HS')(hbd:Nat.blt HS'.length Mem.bound=true) :
 aA.Sound prog ⟨47,[.one (.ptr i 0),.one (.bool b)],HS,.tup [],HS',[i,k]⟩:=by
 subst hq;exact jD hb hi hk hd hN hh hbd
theorem Fs{h:Hd}(ho:lE h)(hr:∀i,i<64->(0<=h.a i/\h.a i<=255)/\(0<=h.b i/\h.b i<=255)){q:List Int}(hq:hZ h=q) :
 bt prog 27 [.agg (b9 h)] [] (.tup [.one (.slice 0 0 q.length (.toEnd 1)),.one (.int .i64 0)]) [.cells (il .u8 q) 5 true false]:=by
 have hd1:=ho.dims.c0;have hd2:=ho.dims.c1;have hd3:=ho.dims.r0;have hd4:=ho.dims.r1;have hB0:=ju h;have e0:(([]++aJ h.cols 8)++aJ h.rows 8)++[h.w]=pP h:=rfl;have l0:(aJ h.cols 8).length=8:=aR ..;have l1:(aJ h.rows 8).length=8:=aR ..
 obtain⟨b0,hb0⟩:∃b,[]++aJ h.cols 8=b:=⟨_,rfl⟩
 obtain⟨b1,hb1⟩:∃b,b0++aJ h.rows 8=b:=⟨_,rfl⟩
 have k0:b0.length=8:=by rw[<-hb0];simp[l0]
 have k1:b1.length=16:=by rw[<-hb1,List.length_append,k0,l1]
 rw[hb0,hb1]at e0
 obtain⟨w,hw⟩:∃w,h.w=w:=⟨_,rfl⟩
 have hhB:v_ h=if w=true then sX h 2 else pP h:=by rw[<-hw];rfl
 refine cO Tryz.func27 ?_;have hR:py h=wr (v_ h++[true]):=rfl;have hS:zn h=py h++[c9 (py h)/256,c9 (py h)%256,128]:=rfl;have hRb:=qC h;have hRl:=th h;have hSb:=uu h;have hSl:=yq h;have hss:=gf (py h);have hY : [0,0,1,176]++(fy (zn h) (zn h).length).1=q:=hq
 obtain⟨R,hRe⟩:∃R,py h=R:=⟨_,rfl⟩
 rw[hRe]at hR hS hRb hRl hss
 obtain⟨su,hsu⟩:∃z,c9 R=z:=⟨_,rfl⟩
 rw[hsu]at hS hss
 obtain⟨S,hSe⟩:∃S,zn h=S:=⟨_,rfl⟩
 rw[hSe]at hS hSb hSl hY
 obtain⟨E,hEe⟩:∃E,(fy S S.length).1=E:=⟨_,rfl⟩
 have hEl:=(nV S).1;rw[hEe]at hY hEl;subst hY;have hSp:1<=S.length:=by rw[hS,List.length_append];simp
 have hEp:=qv hSp;rw[hEe]at hEp;have hw8:IntKind.u8.wrap su=su%256:=PU su;have hx8:su/2^Int.toNat 8=su/256:=rfl;have hs8:0<=su/2^Int.toNat 8/\su/2^Int.toNat 8<=255:=by rw[hx8];omega
 rw[<-hw8,<-hx8]at hS;subst hS;refine WX.cc rfl ?_;rw[hw]at e0
 cases w with
 | true =>
   have hhB:v_ h=sX h 2:=hhB.trans (if_pos rfl);have hb2:=ur h 2;rw[hhB]at hR
   repeat' (first
    |(refine qz ?_;first
     |refine jI ?_ (hle:=by rw[aF])
     |refine cl ?_ (hi:=by exact j_ ho rfl)
     |refine ld (c := .int .i64 h.cols) ?_
     |refine ld (c := .int .i64 h.rows) ?_
     |refine ld (c := .bool true) ?_ (hc:=by rw[<-hw];rfl)
     |refine cl ?_ (hi:=by exact fu (size:=8) rfl (bs:=[]) (by omega) (by decide) (by decide) (i:=2) (k:=0) rfl rfl (by decide) hb0 nL nA rfl)
     |refine cl ?_ (hi:=by exact fu (size:=8) rfl (bs:=b0) (by omega) (by decide) (by omega) (i:=2) (k:=3) rfl rfl (by decide) hb1 nL nA rfl)
     |refine cl ?_ (hi:=by exact Bf (b:=true) (bs:=b1) (by omega) (i:=2) (k:=4) rfl rfl (by decide) e0 nL nA rfl)
     |refine qI (cs:=ti .u8 64 h.a) ?_ (hle:=by rw[aF];decide) (hc:=Q7 h)
     |refine qI (cs:=ti .u8 64 h.b) ?_ (hle:=by rw[aF];decide) (hc:=Q8 h)
     |refine t5 (zs:=ti .u8 64 fun _=>0) (cs:=ti .u8 64 h.a++ti .u8 64 h.b) ?_ (hz:=KQ))
    |refine zz ?_|refine zx (fun _=>?_) (fun _=>?_)|fail)
   refine WX.cw (σ:=Nat) (fun j=>[(5,.one (.ptr 0 0)),(43,.one (.slice 2 0 2 (.exact 2))),(44,.one (.int .i64 2)),(45,.one (.int .i64 (j:Nat)))]) (fun j=>[aP 1 (sX h j),av (sX h j),.cells (ti .u8 64 h.a++ti .u8 64 h.b) 22 false false]) (fun j=>j<=2) (fun j=>2-j) 0 (Nat.zero_le _) (fun j _=>stM) (bW [2,5,6]) ?_;intro j hj ih
   by_cases hlt:j<2
   ·have htw:=MS h.a h.b j hlt;have hjl:=ur h j
    obtain⟨f,hf⟩:∃f,(if j=0 then h.a else h.b)=f:=⟨_,rfl⟩
    have hf2:RK h j=f:=hf
    have hfr:∀i,i<64->0<=f i/\f i<=255:=fun i hi=>by
     rw[<-hf];split
     ·exact(hr i hi).1
     ·exact(hr i hi).2
    have hnx:sX h (j+1)=sX h j++kK f 64:=by rw[sX,hf2]
    rw[hf]at htw
    obtain⟨C,hC⟩:∃C,sX h j=C:=⟨_,rfl⟩
    rw[hC]at hjl hnx ⊢
    repeat' (first
     |(refine qz ?_;first
      |refine jU (zs:=ti .u8 64 fun _=>0) (hz:=KQ) ?_
      |refine qI (cs:=ti .u8 64 f) ?_ (hle:=by rw[List.length_append,aU,aU];omega) (hc:=htw)
      |refine nD (cs:=ti .u8 64 f) ?_ (hs1:=by rw[aU]) (hs2:=by rw[aU])
      |refine jI ?_ (hle:=by rw[aU]))
     |refine zz ?_|refine zx (fun _=>?_) (fun _=>?_)|fail)
    have hC0:C++kK f 0=C:=List.append_nil _;rw[<-hC0];refine WX.cw (σ:=Nat) (fun t=>[(5,.one (.ptr 0 0)),(43,.one (.slice 2 0 2 (.exact 2))),(44,.one (.int .i64 2)),(45,.one (.int .i64 (j:Nat))),(49,.agg (ti .u8 64 f)),(50,.one (.int .i64 (t:Nat)))]) (fun t=>[aP 1 (C++kK f t),av (C++kK f t),.cells (ti .u8 64 h.a++ti .u8 64 h.b) 22 false false]) (fun t=>t<=64) (fun t=>64-t) 0 (Nat.zero_le _) (fun j _=>stM) (bW [0,1,2]) ?_;intro t ht ih2;have htl:(C++kK f t).length=17+512*j+8*t:=by rw[List.length_append,hjl,gP]
    by_cases hlt2:t<64
    ·have hft:0<=f (t:Int).toNat/\f (t:Int).toNat<=255:=hfr t hlt2;have e3:(C++kK f t)++aJ (f (t:Int).toNat) 8=C++kK f (t+1):=by show(C++kK f t)++aJ (f t) 8=_;rw[kK,List.append_assoc]
     repeat' (first
      |(refine qz ?_;first
       |refine Rc ?_
       |refine cl ?_ (hi:=by exact fu (size:=8) rfl (bs:=C++kK f t) (by omega) (by decide) (by omega) (i:=0) (k:=1) rfl rfl (by decide) e3 nL nA rfl))
      |refine zz ?_|refine zx (fun _=>?_) (fun _=>?_)|fail)
     exact ih2 (t+1) _ _ _ (bW [0,3,2]) (by omega) (by omega)
    ·obtain rfl:t=64:=by omega
     rw[<-hnx]
     repeat' (first|refine zz ?_|refine zx (fun _=>?_) (fun _=>?_)|fail)
     exact ih (j+1) _ _ _ (bW [0,1,2]) (by omega) (by omega)
   ·obtain rfl:j=2:=by omega
    clear ih;have hRn:R.length=131:=by rw[hR,cN,List.length_append,hb2];rfl
    have hSn:(R++[su/2^Int.toNat 8,IntKind.u8.wrap su,128]).length=134:=by rw[List.length_append,hRn];rfl
    repeat' (first
     |(refine qz ?_;first
      |refine cl ?_ (hi:=by exact Be (bs:=sX h 2) (by omega) (n:=131) (by rw[List.length_append,hb2];rfl) hR.symm (i:=0) (k:=1) rfl rfl (by decide) nL nA rfl)
      |refine t5 (zs:=[.nils]) ?_
      |refine cl ?_ (hi:=by exact ou (l:=R) hRb (by omega) (NJ R) hsu hRn (i:=3) (j:=4) rfl rfl (by decide) rfl)
      |refine cv ?_
      |refine To ?_
      |refine t5 (zs:=[.int .u8 0]) ?_
      |refine Qe (i:=3) (n:=131) (q:=R) (r:=[su/2^Int.toNat 8,IntKind.u8.wrap su,128]) ?_
      |refine cl ?_ (hi:=by exact rQ nL nA rfl)
      |refine N9 (n:=1) (r:=[176]) rfl (jZ rfl rfl rfl) (fun h=>absurd h (by decide)) (fun _=>?_)
      |refine cl ?_ (hi:=by exact wZ hSb (by omega) hSp hEe hSn rfl (i:=6) rfl nL nA rfl)
      |refine Qe (i:=9) (n:=4) (q:=[0,0,1]++[176]) (r:=E) ?_)
     |refine zz ?_|refine zx (fun _=>?_) (fun _=>?_)|fail)
    have hz:eE 11 (4+E.length) 1 = .slice 11 0 (4+E.length) (.toEnd 1):=if_neg (by omega);have hlen:([0,0,1,176]++E).length=4+E.length:=by rw[List.length_append];rfl
    rw[hz,hlen];show aE _ _ _ _ _ _ _ _;refine kV [11] ?_;rfl
 | false=>
   have hhB:v_ h=pP h:=hhB.trans (if_neg (by decide));rw[hhB]at hR;have hRn:R.length=3:=by rw[hR,cN,List.length_append,hB0];rfl
   have hSn:(R++[su/2^Int.toNat 8,IntKind.u8.wrap su,128]).length=6:=by rw[List.length_append,hRn];rfl
   repeat' (first
    |(refine qz ?_;first
     |refine jI ?_ (hle:=by rw[aF])
     |refine cl ?_ (hi:=by exact j_ ho rfl)
     |refine ld (c := .int .i64 h.cols) ?_
     |refine ld (c := .int .i64 h.rows) ?_
     |refine ld (c := .bool false) ?_ (hc:=by rw[<-hw];rfl)
     |refine cl ?_ (hi:=by exact fu (size:=8) rfl (bs:=[]) (by omega) (by decide) (by decide) (i:=2) (k:=0) rfl rfl (by decide) hb0 nL nA rfl)
     |refine cl ?_ (hi:=by exact fu (size:=8) rfl (bs:=b0) (by omega) (by decide) (by omega) (i:=2) (k:=3) rfl rfl (by decide) hb1 nL nA rfl)
     |refine cl ?_ (hi:=by exact Bf (b:=false) (bs:=b1) (by omega) (i:=2) (k:=4) rfl rfl (by decide) e0 nL nA rfl)
     |refine cl ?_ (hi:=by exact Be (bs:=pP h) (by omega) (n:=3) (by rw[List.length_append,hB0];rfl) hR.symm (i:=2) (k:=5) rfl rfl (by decide) nL nA rfl)
     |refine t5 (zs:=[.nils]) ?_
     |refine cl ?_ (hi:=by exact ou (l:=R) hRb (by omega) (NJ R) hsu hRn (i:=6) (j:=7) rfl rfl (by decide) rfl)
     |refine cv ?_
     |refine To ?_
     |refine t5 (zs:=[.int .u8 0]) ?_
     |refine Qe (i:=6) (n:=3) (q:=R) (r:=[su/2^Int.toNat 8,IntKind.u8.wrap su,128]) ?_
     |refine cl ?_ (hi:=by exact rQ nL nA rfl)
     |refine N9 (n:=1) (r:=[176]) rfl (jZ rfl rfl rfl) (fun h=>absurd h (by decide)) (fun _=>?_)
     |refine cl ?_ (hi:=by exact wZ hSb (by omega) hSp hEe hSn rfl (i:=9) rfl nL nA rfl)
     |refine Qe (i:=12) (n:=4) (q:=[0,0,1]++[176]) (r:=E) ?_)
    |refine zz ?_|refine zx (fun _=>?_) (fun _=>?_)|fail)
   have hz:eE 14 (4+E.length) 1 = .slice 14 0 (4+E.length) (.toEnd 1):=if_neg (by omega);have hlen:([0,0,1,176]++E).length=4+E.length:=by rw[List.length_append];rfl
   rw[hz,hlen];show aE _ _ _ _ _ _ _ _;refine kV [14] ?_;rfl
theorem zU{h:Hd}(ho:lE h)(hr:∀i,i<64->(0<=h.a i/\h.a i<=255)/\(0<=h.b i/\h.b i<=255)){q:List Int}(hq:hZ h=q){n:Nat}(hn:q.length=n){HS:aj}{N:Nat}(hN:HS.length=N){HS':aj}(hh:HS++[.cells (il .u8 q) 5 true false]=HS')(hbd:Nat.blt HS'.length Mem.bound=true) :
 aA.Sound prog ⟨27,[.agg (b9 h)],HS,.tup [.one (.slice N 0 n (.toEnd 1)),.one (.int .i64 0)],HS',[]⟩:=by
 subst hN hn;exact bI [] [] 1 (Fs ho hr hq) (by simp) .nil .nil (.flat .nil) rfl (.flat .nil) (.flat .nil) (L5 (show 0<1 by omega) trivial) rfl (.flat .nil) rfl rfl hh hbd (.inl rfl)
theorem AQ{L:List Int}(hL:bj L)(hn:L.length<=100000){n:Nat}(hln:L.length=n)(h0:n≠0){z:Nat}{s:Bool}(hz:fk L=(z,s)){HS:aj}{i:Nat}(hi:HS[i]? = some (.cells (il .u8 L) 5 true false))(hb:Nat.blt HS.length Mem.bound=true) :
 aA.Sound prog ⟨95,[.one (.slice i 0 n (.toEnd 1))],HS,.tup [.one (.int .i64 (z:Nat)),.one (.bool s)],HS,[i]⟩:=by
 have e1:bU 5 (il .u8 L) = .cells (il .u8 L) 5 true false:=cK fun e=>by
  have h2:(il .u8 L).length=0:=by rw[e];rfl
  rw[bz]at h2;omega
 have h3:=Mv hL hn hln (HS:=HS) (i:=i) (by rw[e1];exact hi) hb;rw[fm h0,hz]at h3;exact h3
theorem AL{L:List Int}{B:List Bool}(hB:B.length<=8*L.length)(hn:L.length<=100000){n:Nat}(hln:L.length=n)(h0:n≠0){z:Int}(hz:z=(B.length:Nat)){HS:aj}{i:Nat}(hi:HS[i]? = some (.cells (il .u8 L) 5 true false)){N:Nat}(hN:HS.length=N){HS':aj}(hh:HS++[gF (N+1) L B 0 false,dT L]=HS')(hb:Nat.blt HS'.length Mem.bound=true) :
 aA.Sound prog ⟨67,[.one (.slice i 0 n (.toEnd 1)),.one (.int .i64 z)],HS,.one (.ptr N 0),HS',[i]⟩:=by
 have e1:bU 5 (il .u8 L) = .cells (il .u8 L) 5 true false:=cK fun e=>by
  have h2:(il .u8 L).length=0:=by rw[e];rfl
  rw[bz]at h2;omega
 have h3:=tA hB hn hln hz (HS:=HS) (i:=i) (by rw[e1];exact hi) hN hh hb;rw[fm h0]at h3;exact h3
theorem pZ(f:Nat->Int):∀n i,i<n->∃r,kK f n=kK f i++(aJ (f i) 8++r)
 | 0,i,h=>absurd h (Nat.not_lt_zero _)
 | n + 1,i,h=>by
   rw[kK]
   by_cases hi:i<n
   ·obtain⟨r,hr⟩:=pZ f n i hi;exact⟨r++aJ (f n) 8,by rw[hr];simp only[List.append_assoc]⟩
   ·obtain rfl:i=n:=by omega
    exact⟨[],by rw[List.append_nil]⟩
structure Sj(B:List Bool)(h:Hd):Prop where
 cols:bX B 8 (0,false)=(h.cols,(8,false))
 rows:bX B 8 (8,false)=(h.rows,(16,false))
 w:fI B (16,false)=h.w/\ch B (16,false)=(17,false)
 a:h.w=true->∀i,i<64->bX B 8 (17+8*i,false)=(h.a i,(17+8*(i+1),false))
 b:h.w=true->∀i,i<64->bX B 8 (529+8*i,false)=(h.b i,(529+8*(i+1),false))
theorem Q9{h:Hd}(hc:0<=h.cols/\h.cols<256)(hw:0<=h.rows/\h.rows<256)(hr:∀i,i<64->(0<=h.a i/\h.a i<=255)/\(0<=h.b i/\h.b i<=255)):Sj (v_ h) h:=by
 obtain⟨r,e⟩:∃r,v_ h=pP h++r:=by
  unfold v_;split
  ·exact⟨_,by rw[List.append_assoc]⟩
  ·exact⟨[],by rw[List.append_nil]⟩
 have p8:∀{n:Int},0<=n/\n<256->0<=n/\n<2^8:=fun h=>h
 refine⟨?_,?_,?_,fun h1 i hi=>?_,fun h1 i hi=>?_⟩
 ·exact iG [] (aJ h.rows 8++(h.w::r)) (by rw[e];simp only[pP,List.append_assoc,List.nil_append,List.cons_append]) (p8 hc) rfl rfl
 ·exact iG (aJ h.cols 8) (h.w::r) (by rw[e];simp only[pP,List.append_assoc,List.nil_append,List.cons_append]) (p8 hw) (aR ..) rfl
 ·exact CG (aJ h.cols 8++aJ h.rows 8) r (by rw[e];simp only[pP,List.append_assoc,List.nil_append,List.cons_append]) (by rw[List.length_append,aR,aR])
 ·obtain⟨r2,e2⟩:=pZ h.a 64 i hi;have:=hr i hi;exact iG (pP h++kK h.a i) (r2++kK h.b 64) (by unfold v_;rw[if_pos h1,e2];simp only[List.append_assoc]) (p8 (by omega)) (by rw[List.length_append,ju,gP]) (by omega)
 ·obtain⟨r2,e2⟩:=pZ h.b 64 i hi;have:=hr i hi;exact iG (pP h++kK h.a 64++kK h.b i) r2 (by unfold v_;rw[if_pos h1,e2];simp only[List.append_assoc]) (p8 (by omega)) (by rw[List.length_append,List.length_append,ju,gP,gP]) (by omega)
def ca(f:Nat->Int)(k i:Nat):Int:=if i<k then f i else 0
theorem Ay(f:Nat->Int){k:Nat}(hk:k<64):(ti .u8 64 (ca f k)).set k (.int .u8 (f k))=ti .u8 64 (ca f (k+1)):=by
 rw[r9];refine kL fun i hi=>?_
 unfold fY ca
 by_cases h:i=k
 ·subst h;rw[if_pos rfl,if_pos (by omega)]
 ·rw[if_neg h]
  by_cases h2:i<k
  ·rw[if_pos h2,if_pos (by omega)]
  ·rw[if_neg h2,if_neg (by omega)]
theorem H_(g:Hd)(f:Nat->Int){k:Nat}(hk:k<64):(b9 {g with a:=ca f k}).set (3+k) (.int .u8 (f k))=b9 {g with a:=ca f (k+1)}:=by
 show(.int .i64 g.cols :: .int .i64 g.rows :: .bool g.w::(ti .u8 64 (ca f k)++ti .u8 64 g.b)).set (3+k) _ = .int .i64 g.cols :: .int .i64 g.rows :: .bool g.w::(ti .u8 64 (ca f (k+1))++ti .u8 64 g.b);rw[show 3+k=k+1+1+1 by omega,List.set_cons_succ,List.set_cons_succ,List.set_cons_succ,List.set_append_left _ _ (by rw[aU];exact hk),Ay f hk]
theorem Ia(g:Hd)(f:Nat->Int){k:Nat}(hk:k<64):(b9 {g with b:=ca f k}).set (67+k) (.int .u8 (f k))=b9 {g with b:=ca f (k+1)}:=by
 show(.int .i64 g.cols :: .int .i64 g.rows :: .bool g.w::(ti .u8 64 g.a++ti .u8 64 (ca f k))).set (67+k) _ = .int .i64 g.cols :: .int .i64 g.rows :: .bool g.w::(ti .u8 64 g.a++ti .u8 64 (ca f (k+1)));rw[show 67+k=(64+k)+1+1+1 by omega,List.set_cons_succ,List.set_cons_succ,List.set_cons_succ,List.set_append_right _ _ (by rw[aU];omega),aU,Nat.add_sub_cancel_left,Ay f hk]
theorem Ax(f:Nat->Int):ti .u8 64 (ca f 64)=ti .u8 64 f:=kL fun i hi=>if_pos hi
theorem FL{h:Hd}(ho:lE h)(hr:∀i,i<64->(0<=h.a i/\h.a i<=255)/\(0<=h.b i/\h.b i<=255)){n:Nat}(hn:(py h).length=n)(hw0:h.w=false->∀i,i<64->h.a i=0/\h.b i=0) :
 bt prog 71 [.one (.slice 0 0 n (.toEnd 1))] [.cells (il .u8 (py h)) 5 true false] (.tup [.agg (b9 h),.one (.int .i64 0)]) [.cells (il .u8 (py h)) 5 true false]:=by
 have hd:=ho.dims;have hc0:=hd.c0;have hc1:=hd.c1;have hr0:=hd.r0;have hr1:=hd.r1;have hrd:=Q9 (h:=h) ⟨by omega,by omega⟩ ⟨by omega,by omega⟩ hr;have hlB:=DT h;have hBin:=Lc (v_ h) (by omega);have hsz:=Mw (v_ h);have hRb:=qC h;have hRl:=th h
 have hR8:(v_ h).length<=8*(py h).length:=by
  unfold py;rw[cN,List.length_append,List.length_singleton];omega
 have hn0:n≠0:=by
  rw[<-hn];unfold py;rw[cN,List.length_append,List.length_singleton];omega
 have hlw:h.w=true->(v_ h).length=1041:=fun e=>by
  unfold v_;rw[if_pos e,List.length_append,List.length_append,ju,gP,gP]
 have hlw0:h.w=false->(v_ h).length=17:=fun e=>by
  unfold v_;rw[if_neg (by rw[e];decide),ju]
 have hbin':e_ (py h) (v_ h):=hBin;have hsz':fk (py h)=((v_ h).length,true):=hsz
 obtain⟨R,hR⟩:∃R,py h=R:=⟨_,rfl⟩
 obtain⟨B,hB⟩:∃B,v_ h=B:=⟨_,rfl⟩
 rw[hR]at hbin' hsz' hRb hRl hR8 hn;rw[hB]at hbin' hsz' hR8 hlw hlw0 hrd hlB;obtain⟨cols,rows,w,a,b⟩:=h;obtain⟨q1,q2,q3,q4',q5⟩:=hrd;simp only at q1 q2 q3 q4' q5 hc0 hc1 hr0 hr1 hr hw0 hlw hlw0;rw[hR]
 cases w with
 | false=>
   have h17:=hlw0 rfl;have hz0:=hw0 rfl;have ea:(ti .u8 64 fun _=>(0:Int))=ti .u8 64 a:=kL fun i hi=>((hz0 i hi).1).symm
   have eb:(ti .u8 64 fun _=>(0:Int))=ti .u8 64 b:=kL fun i hi=>((hz0 i hi).2).symm
   have ez:b9 ⟨cols,rows,false,fun _=>0,fun _=>0⟩=b9 ⟨cols,rows,false,a,b⟩:=by
    show(.int .i64 cols :: .int .i64 rows :: .bool false::((ti .u8 64 fun _=>(0:Int))++(ti .u8 64 fun _=>(0:Int))):List XC) = .int .i64 cols :: .int .i64 rows :: .bool false::(ti .u8 64 a++ti .u8 64 b);exact congrArg (fun l => .int .i64 cols :: .int .i64 rows :: .bool false::l) (ea▸eb▸rfl:(ti .u8 64 fun _=>(0:Int))++(ti .u8 64 fun _=>(0:Int))=ti .u8 64 a++ti .u8 64 b)
   have ho0:lE ⟨cols,rows,false,fun _=>0,fun _=>0⟩:=⟨hd,fun h=>(by cases h),fun _ i hi=>⟨rfl,rfl⟩⟩
   rw[<-ez];refine cO Tryz.func71 ?_
   repeat' (first
    |(refine qz ?_;first
     |refine jU (zs:=b9 ⟨0,0,false,fun _=>0,fun _=>0⟩) (hz:=hU) ?_
     |refine cl ?_ (hi:=by exact AQ hRb (by omega) hn hn0 hsz' (i:=0) rfl rfl)
     |refine cl ?_ (hi:=by exact AL (L:=R) (B:=B) hR8 (by omega) hn hn0 rfl (i:=0) rfl nL nA rfl)
     |refine cl ?_ (hi:=by exact cJ hbin' q1 rfl (by decide) (i:=2) (k:=3) rfl rfl (by decide) hS rfl)
     |refine cl ?_ (hi:=by exact cJ hbin' q2 rfl (by decide) (i:=2) (k:=3) rfl rfl (by decide) hS rfl)
     |refine bF (zs:=b9 ⟨0,0,false,fun _=>0,fun _=>0⟩) (hz:=hU) (out:=b9 ⟨cols,rows,false,fun _=>0,fun _=>0⟩) ?_
     |refine nD (cs:=b9 ⟨cols,rows,false,fun _=>0,fun _=>0⟩) ?_ (hs1:=by rw[aF]) (hs2:=by rw[aF])
     |refine cl ?_ (hi:=by exact oW hbin' q3 (i:=2) (k:=3) rfl rfl (by decide) hS rfl)
     |refine st (c := .bool false) ?_ (hle:=by rw[aF];decide) (hv:=(rfl:(b9 ⟨cols,rows,false,fun _=>0,fun _=>0⟩).set 2 (.bool false)=b9 ⟨cols,rows,false,fun _=>0,fun _=>0⟩))
     |refine ld (c := .bool false) ?_ (hc:=(rfl:(b9 ⟨cols,rows,false,fun _=>0,fun _=>0⟩)[2]? = some (.bool false)))
     |refine cl ?_ (hi:=by exact u_ (by omega) (i:=2) (k:=3) rfl rfl (by decide) rfl)
     |refine jI ?_ (hle:=by rw[aF])
     |refine cl ?_ (hi:=by exact j_ ho0 rfl))
    |refine zz ?_|refine zx (fun _=>?_) (fun _=>?_)|refine bp (by first|exact ag.nil|exact ag.one _|exact ag.my (by repeat' (first|exact True.intro|refine And.intro ?_ ?_|exact Compat.ne rfl|exact fE 2 rfl rfl rfl))) ⟨by kernel_rfl,?_⟩|refine bp (by first|exact ag.nil|exact ag.one _|exact ag.my (by repeat' (first|exact True.intro|refine And.intro ?_ ?_|exact Compat.ne rfl|exact fE 2 rfl rfl rfl))) ?_|fail)
   show aE _ _ _ _ _ _ _ _;refine kV [0] ?_;rfl
 | true =>
   have h41:=hlw rfl;have qa:=q4' rfl;have qb:=q5 rfl;have ho0:lE ⟨cols,rows,true,a,b⟩:=ho;have eA:∀f,b9 ⟨cols,rows,true,ca a 64,f⟩=b9 ⟨cols,rows,true,a,f⟩:=fun f=>congrArg (fun x=>(.int .i64 cols :: .int .i64 rows :: .bool true::(x++ti .u8 64 f):List XC)) (Ax a)
   have eB:∀f,b9 ⟨cols,rows,true,f,ca b 64⟩=b9 ⟨cols,rows,true,f,b⟩:=fun f=>congrArg (fun x=>(.int .i64 cols :: .int .i64 rows :: .bool true::(ti .u8 64 f++x):List XC)) (Ax b)
   have e0:b9 ⟨cols,rows,true,fun _=>0,fun _=>0⟩=b9 ⟨cols,rows,true,ca a 0,ca b 0⟩:=rfl;refine cO Tryz.func71 ?_
   repeat' (first
    |(refine qz ?_;first
     |refine jU (zs:=b9 ⟨0,0,false,fun _=>0,fun _=>0⟩) (hz:=hU) ?_
     |refine cl ?_ (hi:=by exact AQ hRb (by omega) hn hn0 hsz' (i:=0) rfl rfl)
     |refine cl ?_ (hi:=by exact AL (L:=R) (B:=B) hR8 (by omega) hn hn0 rfl (i:=0) rfl nL nA rfl)
     |refine cl ?_ (hi:=by exact cJ hbin' q1 rfl (by decide) (i:=2) (k:=3) rfl rfl (by decide) hS rfl)
     |refine cl ?_ (hi:=by exact cJ hbin' q2 rfl (by decide) (i:=2) (k:=3) rfl rfl (by decide) hS rfl)
     |refine bF (zs:=b9 ⟨0,0,false,fun _=>0,fun _=>0⟩) (hz:=hU) (out:=b9 ⟨cols,rows,false,fun _=>0,fun _=>0⟩) ?_
     |refine nD (cs:=b9 ⟨cols,rows,false,fun _=>0,fun _=>0⟩) ?_ (hs1:=by rw[aF]) (hs2:=by rw[aF])
     |refine cl ?_ (hi:=by exact oW hbin' q3 (i:=2) (k:=3) rfl rfl (by decide) hS rfl)
     |refine st (c := .bool true) ?_ (hle:=by rw[aF];decide) (hv:=(rfl:(b9 ⟨cols,rows,false,fun _=>0,fun _=>0⟩).set 2 (.bool true)=b9 ⟨cols,rows,true,fun _=>0,fun _=>0⟩))
     |refine ld (c := .bool true) ?_ (hc:=(rfl:(b9 ⟨cols,rows,true,fun _=>0,fun _=>0⟩)[2]? = some (.bool true)))
     |refine t5 (zs:=[.nilp]) ?_)
    |refine zz ?_|refine zx (fun _=>?_) (fun _=>?_)|refine bp (by first|exact ag.nil|exact ag.one _|exact ag.my (by repeat' (first|exact True.intro|refine And.intro ?_ ?_|exact Compat.ne rfl|exact fE 2 rfl rfl rfl))) ⟨by kernel_rfl,?_⟩|refine bp (by first|exact ag.nil|exact ag.one _|exact ag.my (by repeat' (first|exact True.intro|refine And.intro ?_ ?_|exact Compat.ne rfl|exact fE 2 rfl rfl rfl))) ?_|fail)
   refine WX.cw (σ:=Nat) (fun j=>[(2,.one (.ptr 1 0)),(6,.one (.ptr 2 0)),(7,.one (.ptr 4 0)),(42,.one (.slice 5 0 2 (.exact 2))),(43,.one (.int .i64 2)),(44,.one (.int .i64 (j:Nat)))]) (fun j=>[.cells (il .u8 R) 5 true false,.cells (b9 ⟨0,0,false,fun _=>0,fun _=>0⟩) 26 false false,gF 3 R B (17+512*j) false,dT R,.cells (b9 ⟨cols,rows,true,ca a (if 1<=j then 64 else 0),ca b (if 2<=j then 64 else 0)⟩) 26 false false,.cells [.ptr 4 3,.ptr 4 67] 192 false false]) (fun j=>j<=2) (fun j=>2-j) 0 (Nat.zero_le _) (fun j _=>stM) (bW [0,1,2,3,4,5]) ?_;intro j hj ih;have hj3:j=0\/j=1\/j=2:=by omega
   rcases hj3 with rfl|rfl|rfl
   ·repeat' (first|refine zz ?_|refine zx (fun _=>?_) (fun _=>?_)|fail)
    refine WX.cw (σ:=Nat) (fun i=>[(2,.one (.ptr 1 0)),(6,.one (.ptr 2 0)),(7,.one (.ptr 4 0)),(42,.one (.slice 5 0 2 (.exact 2))),(43,.one (.int .i64 2)),(44,.one (.int .i64 0)),(9,.one (.ptr 4 3)),(48,.one (.int .i64 (i:Nat)))]) (fun i=>[.cells (il .u8 R) 5 true false,.cells (b9 ⟨0,0,false,fun _=>0,fun _=>0⟩) 26 false false,gF 3 R B (17+8*i) false,dT R,.cells (b9 ⟨cols,rows,true,ca a i,ca b 0⟩) 26 false false,.cells [.ptr 4 3,.ptr 4 67] 192 false false]) (fun i=>i<=64) (fun i=>64-i) 0 (Nat.zero_le _) (fun i _=>stM) (bW [0,1,2,3,4,5]) ?_;intro i hi ih2
    by_cases hlt:i<64
    ·have hq:=qa i hlt;have hrr:=(hr i hlt).1;have hset:=H_ (k:=i) ⟨cols,rows,true,fun _=>0,ca b 0⟩ a hlt;have hset2:(b9 ⟨cols,rows,true,ca a i,ca b 0⟩).set (3+i) (.int .u8 (a i))=b9 ⟨cols,rows,true,ca a (i+1),ca b 0⟩:=hset
     repeat' (first
      |(refine qz ?_;first
       |refine cl ?_ (hi:=by exact cJ hbin' hq rfl (by decide) (i:=2) (k:=3) rfl rfl (by decide) hS rfl)
       |refine st (c := .int .u8 (a i)) ?_ (hle:=by rw[aF];omega) (hv:=hset2))
      |refine zz ?_|refine zx (fun _=>?_) (fun _=>?_)|fail)
     exact ih2 (i+1) _ _ _ (bW [0,1,2,3,4,5]) (by omega) (by omega)
    ·obtain rfl:i=64:=by omega
     clear ih2
     repeat' (first|refine zz ?_|refine zx (fun _=>?_) (fun _=>?_)|fail)
     exact ih 1 _ _ _ (bW [0,1,2,3,4,5]) (by decide) (by decide)
   ·repeat' (first|refine zz ?_|refine zx (fun _=>?_) (fun _=>?_)|fail)
    refine WX.cw (σ:=Nat) (fun i=>[(2,.one (.ptr 1 0)),(6,.one (.ptr 2 0)),(7,.one (.ptr 4 0)),(42,.one (.slice 5 0 2 (.exact 2))),(43,.one (.int .i64 2)),(44,.one (.int .i64 1)),(9,.one (.ptr 4 67)),(48,.one (.int .i64 (i:Nat)))]) (fun i=>[.cells (il .u8 R) 5 true false,.cells (b9 ⟨0,0,false,fun _=>0,fun _=>0⟩) 26 false false,gF 3 R B (529+8*i) false,dT R,.cells (b9 ⟨cols,rows,true,ca a 64,ca b i⟩) 26 false false,.cells [.ptr 4 3,.ptr 4 67] 192 false false]) (fun i=>i<=64) (fun i=>64-i) 0 (Nat.zero_le _) (fun i _=>stM) (bW [0,1,2,3,4,5]) ?_;intro i hi ih2
    by_cases hlt:i<64
    ·have hq:=qb i hlt;have hrr:=(hr i hlt).2;have hset:=Ia (k:=i) ⟨cols,rows,true,ca a 64,fun _=>0⟩ b hlt;have hset2:(b9 ⟨cols,rows,true,ca a 64,ca b i⟩).set (67+i) (.int .u8 (b i))=b9 ⟨cols,rows,true,ca a 64,ca b (i+1)⟩:=hset
     repeat' (first
      |(refine qz ?_;first
       |refine cl ?_ (hi:=by exact cJ hbin' hq rfl (by decide) (i:=2) (k:=3) rfl rfl (by decide) hS rfl)
       |refine st (c := .int .u8 (b i)) ?_ (hle:=by rw[aF];omega) (hv:=hset2))
      |refine zz ?_|refine zx (fun _=>?_) (fun _=>?_)|fail)
     exact ih2 (i+1) _ _ _ (bW [0,1,2,3,4,5]) (by omega) (by omega)
    ·obtain rfl:i=64:=by omega
     clear ih2
     repeat' (first|refine zz ?_|refine zx (fun _=>?_) (fun _=>?_)|fail)
     exact ih 2 _ _ _ (bW [0,1,2,3,4,5]) (by decide) (by decide)
   ·have eAB:b9 ⟨cols,rows,true,ca a (if 1<=2 then 64 else 0),ca b (if 2<=2 then 64 else 0)⟩=b9 ⟨cols,rows,true,a,b⟩:=(eA _).trans (eB _);rw[eAB]
    repeat' (first
     |(refine qz ?_;first
      |refine cl ?_ (hi:=by exact u_ (by omega) (i:=2) (k:=3) rfl rfl (by decide) rfl)
      |refine jI ?_ (hle:=by rw[aF])
      |refine cl ?_ (hi:=by exact j_ ho0 rfl))
     |refine zz ?_|refine zx (fun _=>?_) (fun _=>?_)|fail)
    show aE _ _ _ _ _ _ _ _;refine kV [0] ?_;rfl
end Go.Proofs.YthdciapjllppjaaGreat
