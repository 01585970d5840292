/-
  A part of the proof: Macro, FloatS, Made, Made2, AtK, Bytes, Awake.
-/
import Derived.Test.YtagpkhindehcbaaGreatKcF
import Derived.Test.YtagpkhindehcbaaGreatKcH
import Derived.Test.YtagpkhindehcbaaGreatKcR
import Derived.Test.YtagpkhindehcbaaGreatKcX
import Derived.Test.YtagpkhindehcbaaGreatKcY
set_option maxRecDepth 10000
set_option maxHeartbeats 8000000
set_option linter.unusedVariables false
set_option linter.unusedSectionVars false
set_option linter.unusedSimpArgs false
namespace Go.Proofs.YtagpkhindehcbaaGreat
open Go.Xm
variable [az]
theorem sy (m:Mb) (z:Int):(mC m).set 0 (.int .u8 z)=mC {m with kind:=z}:=rfl
theorem Nr (m:Mb) (z:Int):(mC m).set 1 (.int .i64 z)=mC {m with qp:=z}:=rfl
theorem Jo (m:Mb) (b:Bool):(mC m).set 6 (.bool b)=mC {m with edge:=b}:=rfl
theorem KO (m:Mb) (q:Nat→Int × Int):(mC m).take 2++vt q++(mC m).drop (2+4)=mC {m with v:=q}:=rfl
theorem Jp (m:Mb) (j:Nat) (z:Int):(mC m).set (7+j) (.int .i64 z)=mC {m with lev:=cW m.lev j z}:=by
 unfold mC
 rw [Nat.add_comm]
 simp only [List.set_cons_succ]
 rw [rq]
theorem sA (m:Mb) (k i:Nat) (z:Int):(mC m).set (7+k*64+i) (.int .i64 z)=mC {m with lev:=cW m.lev (k*64+i) z}:=by
 rw [Nat.add_assoc]
 exact Jp m _ z
theorem iq (m:Mb):(mC m)[0]? = some (.int .u8 m.kind):=rfl
theorem zm {x:Int}(h:0≤x∧x<4):([.int .i64 (-2),.int .i64 (-1),.int .i64 1,.int .i64 2]:List XC)[x.toNat]? = some (.int .i64 (pd x)):=by
 have:x=0∨x=1∨x=2∨x=3:=by omega
 rcases this with rfl|rfl|rfl|rfl <;> rfl
theorem Hq (s:Sm) {k:Nat}(hk:k<6):(qA s)[12+k]? = some (.int .u64 (s.keep k)):=by
 match k,hk with
 | 0,_=>rfl
 | 1,_=>rfl
 | 2,_=>rfl
 | 3,_=>rfl
 | 4,_=>rfl
 | 5,_=>rfl
theorem Gm (s:Sm) (al:Bool) (k:Nat) {y:Int × (Nat→Int)}(hy:o8 s k (kp s al k) 64=y):kp s al (k+1)=(y.1,if al=true then cW y.2 (k*64) (y.1/2^20%128)else y.2):=by
 subst hy;rfl
theorem Gl (s:Sm) (k:Nat) (x:Int × (Nat→Int)) (i:Nat) {y:Int × (Nat→Int)}(hy:o8 s k x i=y):o8 s k x (i+1)=(uQ y.1,if s.keep k/2^i%2=1 then(if s.great=true then cW (cW y.2 (k*64+i) (uQ y.1/2^16%7-3)) (k*64+i) (uQ y.1/2^16%1001-500)else cW y.2 (k*64+i) (uQ y.1/2^16%7-3))else y.2):=by
 subst hy;rfl
abbrev Iy (K Q:Int):Mb:={kQ with kind:=K,qp:=Q}
theorem Jr {s : Sm} (hs:ka s) (inter:Bool) {qp:Int}(hq:1≤qp∧qp≤31):bt Tryz.prog 21 [.agg (qA s),.one (.bool inter),.one (.int .i64 qp)] [] (.agg (mC (nj s inter qp))) []:=by
 have hk:=hs.kind
 have hst:=hs.step
 have hkq:=yM s inter qp hs hq
 refine cO Tryz.func21 ?_
 repeat' (first
  |(refine qz ?_;first
   |refine p7 (zs:=mC kQ) (hz:=jy) ?_
   |refine bS (zs:=mC kQ) (hz:=jy) ?_
   |refine i9 (cs:=mC (Iy (s.kind%5) qp)) ?_ (hs1:=by rw [aF]) (hs2:=by rw [aF]))
  |refine WX.wZ 2 (σ:=Int) (fun K=>[(1,.one (.bool inter)),(2,.one (.int .i64 qp)),(3,.one (.ptr 0 0)),(6,.one (.ptr 1 0)),(7,.one (.ptr 2 0))]) (fun K=>[.cells (qA s) 81 false false,.cells (mC kQ) 53 false false,.cells (mC (Iy K qp)) 53 false false]) (fun K=>lR s inter=K) (fun s _=>kS) ?_ ?_|refine zz ?_|refine zx (fun _=>?_) (fun _=>?_)|fail)
 · intro _
   cases inter
   · repeat' (first
      |(refine qz ?_;first
       |refine st ?_ (hle:=by rw [aF];omega) (hv:=sy _ _))
      |refine zz ?_|refine zx (fun _=>?_) (fun _=>?_)|fail)
     (first|exact⟨lR s false,_,rfl,(bm [0,1,2])⟩|exact⟨rfl,lR s false,_,rfl,(bm [0,1,2])⟩)
   · repeat' (first|refine zz ?_|refine zx (fun _=>?_) (fun _=>?_)|fail)
     (first|exact⟨lR s true,_,rfl,(bm [0,1,2])⟩|exact⟨rfl,lR s true,_,rfl,(bm [0,1,2])⟩)
 · intro K hK
   have hkr:0≤K∧K≤4:=by
    rw [←hK]
    unfold lR
    split <;> omega
   refine WX.wZ 4 (σ:=Int × Int) (fun x=>[(1,.one (.bool inter)),(2,.one (.int .i64 qp)),(3,.one (.ptr 0 0)),(6,.one (.ptr 1 0)),(7,.one (.ptr 2 0))]) (fun x=>[.cells (qA s) 81 false false,.cells (mC kQ) 53 false false,.cells (mC (Iy x.1 x.2)) 53 false false]) (fun x=>fW s inter qp=x) (fun s _=>kS) ?_ ?_
   · intro _
     have hb:=CC (s.step%4)
     by_cases h4:K=4
     · by_cases hr:1≤qp+pd (s.step%4)∧qp+pd (s.step%4)≤31
       · have e0:fW s inter qp=(4,qp+pd (s.step%4)):=by unfold fW;rw [hK,if_pos h4,if_pos hr]
         have hr1:=hr.1
         have hr2:=hr.2
         repeat' (first
          |(refine qz ?_;first
           |refine ld (c := .int .u8 K) ?_ (hc:=iq _)
           |refine st (c := .int .u8 3) ?_ (hle:=by rw [aF];omega) (hv:=sy _ _)
           |refine st (c := .int .u8 4) ?_ (hle:=by rw [aF];omega) (hv:=sy _ _)
           |refine st (c := .int .i64 (qp+pd (s.step%4))) ?_ (hle:=by rw [aF];omega) (hv:=Nr _ _)
           |refine cl ?_ (hi:=by exact n7 rfl)
           |refine pH ?_ (hc:=zm (by omega)))
          |refine zz ?_|refine zx (fun _=>?_) (fun _=>?_)|fail)
         (first|exact⟨(4,qp+pd (s.step%4)),_,e0,(bm [0,1,2])⟩|exact⟨rfl,(4,qp+pd (s.step%4)),_,e0,(bm [0,1,2])⟩)
       · have e0:fW s inter qp=(3,qp):=by unfold fW;rw [hK,if_pos h4,if_neg hr]
         repeat' (first
          |(refine qz ?_;first
           |refine ld (c := .int .u8 K) ?_ (hc:=iq _)
           |refine st (c := .int .u8 3) ?_ (hle:=by rw [aF];omega) (hv:=sy _ _)
           |refine cl ?_ (hi:=by exact n7 rfl)
           |refine pH ?_ (hc:=zm (by omega)))
          |refine zz ?_|refine zx (fun _=>?_) (fun _=>?_)|fail)
         all_goals first|(exfalso;omega)|(first|exact⟨(3,qp),_,e0,(bm [0,1,2])⟩|exact⟨rfl,(3,qp),_,e0,(bm [0,1,2])⟩)
     · have e0:fW s inter qp=(K,qp):=by unfold fW;rw [hK,if_neg h4]
       repeat' (first
        |(refine qz ?_;first
         |refine ld (c := .int .u8 K) ?_ (hc:=iq _))
        |refine zz ?_|refine zx (fun _=>?_) (fun _=>?_)|fail)
       (first|exact⟨(K,qp),_,e0,(bm [0,1,2])⟩|exact⟨rfl,(K,qp),_,e0,(bm [0,1,2])⟩)
   · intro H hH
     rw [hH]at hkq
     obtain⟨k0,k4,q1,q31,-,-,-⟩:=hkq
     obtain⟨q,hwq⟩:∃ q,sm s.wy=q:=⟨_,rfl⟩
     by_cases h0:H.1=0
     · have eM:nj s inter qp=Iy H.1 H.2:=by
        unfold nj
        rw [hH]
        have e1:oZ H.1 s.wy=fun _=>(0,0):=by unfold oZ;rw [if_neg (by omega),if_neg (by omega)]
        have e2:xS H.1=false:=decide_eq_false (by omega)
        rw [e1,e2,if_pos h0,if_neg (by decide)]
        rfl
       rw [eM]
       repeat' (first
        |(refine qz ?_;first
         |refine rS (cs:=NJ s.wy) ?_
         |refine cl ?_ (hi:=by exact CL hs.wy hwq rfl)
         |refine p7 (zs:=vt fun _=>(0,0)) (hz:=zeroV) ?_
         |refine i9 (cs:=vt q) ?_ (hs1:=by rfl) (hs2:=by rfl)
         |refine ld (c := .int .u8 H.1) ?_ (hc:=iq _)
         |refine fy ?_ (hle:=by rw [aF])
         |refine i9 (cs:=mC (Iy H.1 H.2)) ?_ (hs1:=by rw [aF]) (hs2:=by rw [aF]))
        |refine zz ?_|refine zx (fun _=>?_) (fun _=>?_)|fail)
       show aH _ _ _ _ _ _ _ _;refine kV [] ?_
       rfl
     · obtain ⟨m, hm⟩:∃ m:Mb,(⟨H.1,H.2,oZ H.1 s.wy,if xS H.1=true then s.edge else false,fun _=>0⟩:Mb)=m:=⟨_,rfl⟩
       repeat' (first
        |(refine qz ?_;first
         |refine rS (cs:=NJ s.wy) ?_
         |refine cl ?_ (hi:=by exact CL hs.wy hwq rfl)
         |refine p7 (zs:=vt fun _=>(0,0)) (hz:=zeroV) ?_
         |refine i9 (cs:=vt q) ?_ (hs1:=by rfl) (hs2:=by rfl))
        |refine WX.wZ 10 (σ:=Mb) (fun x=>[(3,.one (.ptr 0 0)),(6,.one (.ptr 1 0)),(7,.one (.ptr 2 0))]) (fun x=>[.cells (qA s) 81 false false,.cells (mC kQ) 53 false false,.cells (mC x) 53 false false]) (fun x=>m=x) (fun s _=>kS) ?_ ?_|refine zz ?_|refine zx (fun _=>?_) (fun _=>?_)|fail)
       · intro _
         by_cases h1:H.1=1
         · have e1:mC m=mC {Iy H.1 H.2 with v:=fun _=>q 0}:=by
            rw [←hm,←hwq]
            have e1:oZ H.1 s.wy=fun _=>sm s.wy 0:=if_pos h1
            have e2:xS H.1=false:=decide_eq_false (by omega)
            rw [e1,e2,if_neg (by decide)]
            rfl
           repeat' (first
            |(refine qz ?_;first
             |refine ld (c := .int .u8 H.1) ?_ (hc:=iq _)
             |refine cl ?_ (hi:=by exact K5 rfl)
             |refine MK (off:=2) (s:=4) ?_ (hs2:=by rw [aF];omega) (hv:=KO (Iy H.1 H.2) (fun _=>q 0)))
            |refine zz ?_|refine zx (fun _=>?_) (fun _=>?_)|fail)
           first|exact⟨m,_,rfl,(bm [0,1,2] (obj:=by(repeat' (first|exact ae.nil|refine ae.flat (by rw [e1];rfl) ?_|refine ae.flat rfl ?_|refine ae.cons rfl ?_|refine ae.dead rfl ?_|refine ae.cons (by simp only [aj.au,List.map_cons,List.map_nil,XC.au,aq];exact rfl) ?_));first|done|fail))⟩|exact⟨rfl,m,_,rfl,(bm [0,1,2] (obj:=by(repeat' (first|exact ae.nil|refine ae.flat (by rw [e1];rfl) ?_|refine ae.flat rfl ?_|refine ae.cons rfl ?_|refine ae.dead rfl ?_|refine ae.cons (by simp only [aj.au,List.map_cons,List.map_nil,XC.au,aq];exact rfl) ?_));first|done|fail))⟩
         · by_cases h2:H.1=2
           · have e1:mC m=mC {Iy H.1 H.2 with v:=q}:=by
              rw [←hm,←hwq]
              have e1:oZ H.1 s.wy=fun k=>if k<4 then sm s.wy k else(0,0):=by unfold oZ;rw [if_neg h1,if_pos h2]
              have e2:xS H.1=false:=decide_eq_false (by omega)
              rw [e1,e2,if_neg (by decide)]
              rfl
             repeat' (first
              |(refine qz ?_;first
               |refine ld (c := .int .u8 H.1) ?_ (hc:=iq _)
               |refine fy ?_ (hle:=by rfl)
               |refine MK (cs:=vt q) (off:=2) (s:=4) ?_ (hs2:=by rw [aF];omega) (hv:=KO (Iy H.1 H.2) q))
              |refine zz ?_|refine zx (fun _=>?_) (fun _=>?_)|fail)
             first|exact⟨m,_,rfl,(bm [0,1,2] (obj:=by(repeat' (first|exact ae.nil|refine ae.flat (by rw [e1];rfl) ?_|refine ae.flat rfl ?_|refine ae.cons rfl ?_|refine ae.dead rfl ?_|refine ae.cons (by simp only [aj.au,List.map_cons,List.map_nil,XC.au,aq];exact rfl) ?_));first|done|fail))⟩|exact⟨rfl,m,_,rfl,(bm [0,1,2] (obj:=by(repeat' (first|exact ae.nil|refine ae.flat (by rw [e1];rfl) ?_|refine ae.flat rfl ?_|refine ae.cons rfl ?_|refine ae.dead rfl ?_|refine ae.cons (by simp only [aj.au,List.map_cons,List.map_nil,XC.au,aq];exact rfl) ?_));first|done|fail))⟩
           · have e1:mC m=mC {Iy H.1 H.2 with edge:=s.edge}:=by
              rw [←hm]
              have e1:oZ H.1 s.wy=fun _=>(0,0):=by unfold oZ;rw [if_neg h1,if_neg h2]
              have e2:xS H.1=true:=decide_eq_true (by omega)
              rw [e1,e2,if_pos rfl]
              rfl
             repeat' (first
              |(refine qz ?_;first
               |refine ld (c := .int .u8 H.1) ?_ (hc:=iq _)
               |refine st (c := .bool s.edge) ?_ (hle:=by rw [aF];omega) (hv:=Jo _ _))
              |refine zz ?_|refine zx (fun _=>?_) (fun _=>?_)|fail)
             first|exact⟨m,_,rfl,(bm [0,1,2] (obj:=by(repeat' (first|exact ae.nil|refine ae.flat (by rw [e1];rfl) ?_|refine ae.flat rfl ?_|refine ae.cons rfl ?_|refine ae.dead rfl ?_|refine ae.cons (by simp only [aj.au,List.map_cons,List.map_nil,XC.au,aq];exact rfl) ?_));first|done|fail))⟩|exact⟨rfl,m,_,rfl,(bm [0,1,2] (obj:=by(repeat' (first|exact ae.nil|refine ae.flat (by rw [e1];rfl) ?_|refine ae.flat rfl ?_|refine ae.cons rfl ?_|refine ae.dead rfl ?_|refine ae.cons (by simp only [aj.au,List.map_cons,List.map_nil,XC.au,aq];exact rfl) ?_));first|done|fail))⟩
       · intro x hx
         subst hx
         have em0:mC m=mC {m with lev:=fun _=>0}:=by rw [←hm]
         obtain⟨al,hal⟩:∃ al,xS H.1=al:=⟨_,rfl⟩
         have hma:alone m=al:=by rw [←hal,←hm];rfl
         have eM:nj s inter qp = {m with lev:=(kp s al 6).2}:=by
          unfold nj
          rw [hH,if_neg h0,←hal,←hm]
         rw [eM]
         have hsd:=hs.seed
         repeat' (first
          |(refine qz ?_;first
           |refine ld (c := .int .u32 s.seed) ?_)
          |refine zz ?_|refine zx (fun _=>?_) (fun _=>?_)|fail)
         refine WX.dp (σ:=Nat × Int × (Nat→Int)) (fun t=>[(3,.one (.ptr 0 0)),(6,.one (.ptr 1 0)),(7,.one (.ptr 2 0)),(10,.one (.int .u32 t.2.1)),(68,.one (.int .i64 (t.1:Nat)))]) (fun t=>[.cells (qA s) 81 false false,.cells (mC kQ) 53 false false,.cells (mC {m with lev:=t.2.2}) 53 false false]) (fun t=>t.1≤6∧kp s al t.1=t.2∧0≤t.2.1∧t.2.1<4294967296) (fun t=>6-t.1) (0,s.seed,fun _=>0) ⟨Nat.zero_le _,rfl,hsd.1,hsd.2⟩ (fun s _=>kS) (bm [0,1,2] (obj:=by(repeat' (first|exact ae.nil|refine ae.flat (by rw [em0];rfl) ?_|refine ae.flat rfl ?_|refine ae.cons rfl ?_|refine ae.dead rfl ?_|refine ae.cons (by simp only [aj.au,List.map_cons,List.map_nil,XC.au,aq];exact rfl) ?_));first|done|fail)) ?_
         intro t ⟨ht6,hto,htn⟩ ih
         by_cases hlt:t.1<6
         · have hkp:=hs.keep t.1 hlt
           repeat' (first|refine zz ?_|refine zx (fun _=>?_) (fun _=>?_)|fail)
           refine WX.dp (σ:=Nat × Int × (Nat→Int)) (fun u=>[(3,.one (.ptr 0 0)),(6,.one (.ptr 1 0)),(7,.one (.ptr 2 0)),(10,.one (.int .u32 u.2.1)),(11,.one (.int .i64 (t.1:Nat))),(68,.one (.int .i64 (t.1:Nat))),(71,.one (.int .i64 (u.1:Nat)))]) (fun u=>[.cells (qA s) 81 false false,.cells (mC kQ) 53 false false,.cells (mC {m with lev:=u.2.2}) 53 false false]) (fun u=>u.1≤64∧o8 s t.1 t.2 u.1=u.2∧0≤u.2.1∧u.2.1<4294967296) (fun u=>64-u.1) (0,t.2) ⟨Nat.zero_le _,rfl,htn⟩ (fun s _=>kS) (bm [0,1,2]) ?_
           intro u ⟨hu64,hui,hun⟩ ih2
           by_cases hlu:u.1<64
           · have hn:=wrap32 (IntKind.u32.wrap (u.2.1*1664525)+1013904223)
             have hd:0≤IntKind.u32.wrap (IntKind.u32.wrap (u.2.1*1664525)+1013904223)/2^(16:Int).toNat∧IntKind.u32.wrap (IntKind.u32.wrap (u.2.1*1664525)+1013904223)/2^(16:Int).toNat<4294967296:=by
              show 0≤IntKind.u32.wrap (IntKind.u32.wrap (u.2.1*1664525)+1013904223)/2^16∧IntKind.u32.wrap (IntKind.u32.wrap (u.2.1*1664525)+1013904223)/2^16<4294967296
              omega
             have hk2:=Hq s hlt
             have hnx:=Gl s t.1 t.2 u.1 hui
             by_cases hbit:s.keep t.1/2^((u.1:Nat):Int).toNat%2^1=1
             · have hbit':s.keep t.1/2^u.1%2=1:=hbit
               obtain⟨gr,hgr⟩:∃ g,s.great=g:=⟨_,rfl⟩
               have hl:(qA s)[19]? = some (.bool gr):=by rw [←hgr];rfl
               rw [if_pos hbit',hgr]at hnx
               cases gr
               · rw [if_neg (by decide)]at hnx
                 repeat' (first
                  |(refine qz ?_;first
                   |refine Oo (k := .u32) ?_
                   |refine N4 (k := .u32) ?_
                   |refine ld (hc:=hl) ?_
                   |refine ld (hc:=hk2) ?_
                   |refine an 1 ?_
                   |refine st ?_ (hle:=by rw [aF];omega) (hv:=sA _ _ _ _))
                  |refine zz ?_|refine zx (fun _=>?_) (fun _=>?_)|fail)
                 exact ih2 (u.1+1,uQ u.2.1,cW u.2.2 (t.1*64+u.1) (uQ u.2.1/2^16%7-3)) _ _ _ (bm [0,1,2]) ⟨by show u.1+1≤64;omega,hnx,hn.1,hn.2⟩ (by show 64-(u.1+1)<64-u.1;omega)
               · rw [if_pos rfl]at hnx
                 repeat' (first
                  |(refine qz ?_;first
                   |refine Oo (k := .u32) ?_
                   |refine N4 (k := .u32) ?_
                   |refine ld (hc:=hl) ?_
                   |refine ld (hc:=hk2) ?_
                   |refine an 1 ?_
                   |refine st ?_ (hle:=by rw [aF];omega) (hv:=sA _ _ _ _))
                  |refine zz ?_|refine zx (fun _=>?_) (fun _=>?_)|fail)
                 exact ih2 (u.1+1,uQ u.2.1,cW (cW u.2.2 (t.1*64+u.1) (uQ u.2.1/2^16%7-3)) (t.1*64+u.1) (uQ u.2.1/2^16%1001-500)) _ _ _ (bm [0,1,2]) ⟨by show u.1+1≤64;omega,hnx,hn.1,hn.2⟩ (by show 64-(u.1+1)<64-u.1;omega)
             · have hbit':¬s.keep t.1/2^u.1%2=1:=hbit
               rw [if_neg hbit']at hnx
               repeat' (first
                |(refine qz ?_;first
                 |refine Oo (k := .u32) ?_
                 |refine N4 (k := .u32) ?_
                 |refine ld (hc:=hk2) ?_
                 |refine an 1 ?_
                 |refine st ?_ (hle:=by rw [aF];omega) (hv:=sA _ _ _ _))
                |refine zz ?_|refine zx (fun _=>?_) (fun _=>?_)|fail)
               exact ih2 (u.1+1,uQ u.2.1,u.2.2) _ _ _ (bm [0,1,2]) ⟨by show u.1+1≤64;omega,hnx,hn.1,hn.2⟩ (by show 64-(u.1+1)<64-u.1;omega)
           · have e64:u.1=64:=by omega
             rw [e64,←hto]at hui
             have hox:=Gm s al t.1 hui
             have hd:0≤u.2.1/2^(20:Int).toNat∧u.2.1/2^(20:Int).toNat<4294967296:=by
              show 0≤u.2.1/2^20∧u.2.1/2^20<4294967296
              omega
             cases al
             · rw [if_neg (by decide)]at hox
               repeat' (first
                |(refine qz ?_;first
                 |refine fy ?_ (hle:=by rw [aF])
                 |refine cl ?_ (hi:=by exact gS (m:={m with lev:=u.2.2}) (b:=false) hma rfl))
                |refine zz ?_|refine zx (fun _=>?_) (fun _=>?_)|fail)
               exact ih (t.1+1,u.2.1,u.2.2) _ _ _ (bm [0,1,2]) ⟨by show t.1+1≤6;omega,hox,hun⟩ (by show 6-(t.1+1)<6-t.1;omega)
             · rw [if_pos rfl]at hox
               repeat' (first
                |(refine qz ?_;first
                 |refine fy ?_ (hle:=by rw [aF])
                 |refine cl ?_ (hi:=by exact gS (m:={m with lev:=u.2.2}) (b:=true) hma rfl)
                 |refine st ?_ (hle:=by rw [aF];omega) (hv:=sA _ _ 0 _))
                |refine zz ?_|refine zx (fun _=>?_) (fun _=>?_)|fail)
               exact ih (t.1+1,u.2.1,cW u.2.2 (t.1*64) (u.2.1/2^20%128)) _ _ _ (bm [0,1,2]) ⟨by show t.1+1≤6;omega,hox,hun⟩ (by show 6-(t.1+1)<6-t.1;omega)
         · have e6:t.1=6:=by omega
           rw [e6]at hto
           rw [hto]
           repeat' (first
            |(refine qz ?_;first
             |refine fy ?_ (hle:=by rw [aF])
             |refine i9 ?_ (hs1:=by rw [aF]) (hs2:=by rw [aF]))
            |refine zz ?_|refine zx (fun _=>?_) (fun _=>?_)|fail)
           show aH _ _ _ _ _ _ _ _;refine kV [] ?_
           rfl
end Go.Proofs.YtagpkhindehcbaaGreat
namespace Go.Xm
variable [az]
section
variable {O:df} {P:Program} {ops:Array Oper} {nt:Nat} {tr:List (Mem × Out)} {rs:Nat→T XV} {ms:Nat→Mem} {ds:Nat→Out}
structure MM (ops:Array Oper) (ms:Nat→Mem) (ds:Nat→Out) (f d:Nat) (t:TypeId):Prop where
 look:∀(i:Nat) (oi:Oper),ops[i]? = some oi→i≠f→d∈oi.looksAt ops→∀ e,e<f→(ds e).eff=true→i6 ops i e
 rd:∀(i:Nat),i<ops.size→i≠f→(ds i).fp=some (ms f).n→∀ e,e<f→(ds e).eff=true→i6 ops i e
 ro:∀ j,j<(ms f).n→((ms f).get j).live=true→((ms f).get j).own=true∨(j<(ms 0).n∧((ms 0).get j).live=true)
 lt:f<ops.size
 op:∃ o,ops[f]? = some o∧o.op = .alloc t∧o.guard = .none∧o.dst=some d
structure IB (ops:Array Oper) (ms:Nat→Mem) (ds:Nat→Out) (F:Nat→Prop):Prop where
 ord:∀ i e,i<ops.size→e<ops.size→(ds i).eff=true→(ds e).eff=true→e<i→¬F i→i6 ops i e
 ver:∀ i e fp,i<ops.size→e<ops.size→(ds i).fp=some fp→(ds e).eff=true→i≠e→¬i6 ops i e→¬i6 ops e i→((ds e).m.fV fp).ver=((ms e).fV fp).ver
 flt:∀ f,F f→∃ d t,MM ops ms ds f d t
structure z_ (O:df) (P:Program) (ops:Array Oper) (nt:Nat) (rs:Nat→T XV) (ms:Nat→Mem) (ds:Nat→Out) (F:Nat→Prop) (β0:Env) (w0:World) (dfs:List Deferred) (er:Nat→Option Nat) (listed:Array Bool) (a:Act) (w:World) (β : Env) (q:Nat) (g:Nat→XV):Prop where
 size:listed.size=ops.size
 cl:∀ i j,i6 ops i j→listed.getD i false=true→listed.getD j false=true
 qle:q≤ops.size
 eff:∀ e,e<ops.size→(ds e).eff=true→er e = .none→(listed.getD e false=true↔e<q)
 rel:Rel β (ms q) w
 jj:fP β (ms q).n nt g a.tmps
 g1:∀(i:Nat) (o:Oper) (t:Nat),listed.getD i false=true→er i = .none→ops[i]? = some o→o.dst=some t→g t=(ds i).x
 g2:∀ t:Nat,(∀(i:Nat) (o:Oper),listed.getD i false=true→ops[i]? = some o→o.dst≠some t)→g t=(rs 0).get .undef t
 st:Step β0 (ms 0) w0 β (ms q) w
 ea:∀ f b,er f=some b→F f∧∃ d t,MM ops ms ds f d t∧ou P ops ms ds w0 f d t b β q g listed a w
 dist:∀ f f' b,er f=some b→er f'=some b→f=f'
 dfs:a.defers=dfs
def Norm (ds:Nat→Out) (er:Nat→Option Nat) (listed:Array Bool):Prop:=∀ f b,er f=some b→∃ e,e<f∧(ds e).eff=true∧listed.getD e false=false
def sO (O:df) (P:Program) (ops:Array Oper) (nt:Nat) (rs:Nat→T XV) (ms:Nat→Mem) (ds:Nat→Out) (F:Nat→Prop) (β0:Env) (w0:World) (dfs:List Deferred) (er:Nat→Option Nat) (listed:Array Bool) (a:Act) (w:World):Prop:=
 ∃ β q g,z_ O P ops nt rs ms ds F β0 w0 dfs er listed a w β q g∧Norm ds er listed
theorem z_.Ah (hs:dm ops nt) (hT:Trace O P ops nt ops.toList tr rs ms ds) {F:Nat→Prop} {β0:Env} {w0:World}(hR0:Rel β0 (ms 0) w0) {dfs:List Deferred} {er:Nat→Option Nat} {listed:Array Bool} {a:Act} {w:World} {β : Env} {q:Nat} {g:Nat→XV}
 (h:z_ O P ops nt rs ms ds F β0 w0 dfs er listed a w β q g) {f b:Nat}(hb:er f=some b) (hmin:∀ f' b',er f'=some b'→f'≠f→f<f') (hall:∀ e,e<f→(ds e).eff=true→listed.getD e false=true) :
 ∃ β' g',z_ O P ops nt rs ms ds F β0 w0 dfs (fun j=>if j=f then .none else er j) listed a w β' (f+1) g':=by
 obtain⟨hF,d,t,hd,he⟩:=h.ea f b hb
 obtain⟨o,ho,hop,hgd,hdst⟩:=hd.op
 obtain⟨o',ho',_,hdo,hrs,hms⟩:=aV hT hd.lt
 rw [ho]at ho'
 cases ho'
 obtain⟨zs,hz,hp,hx,hef,_⟩:=gD hop hgd hdo
 rw [←hms]at hp
 have hlt:=hd.lt
 have hqf:=he.le
 have noer:∀ e,e<f→er e = .none:=fun e hlt=>by
  cases hx:er e with
  | none=>rfl
  | some b'=>exact absurd (hmin e b' hx (by omega)) (by omega)
 have hmq:ms f=ms q:=by
  have:=jY hT q (f-q) (by omega) (fun e he1 he2=>by
   cases hxe:(ds e).eff
   · rfl
   · have h1:=hall e (by omega) hxe
     have:=(h.eff e (by omega) hxe (noer e (by omega))).1 h1
     omega)
  rw [show q+(f-q)=f by omega]at this
  exact this
 have hm:=h.rel
 have hr:=h.jj
 have hst:=h.st
 rw [←hmq]at hm hr hst
 have himg:=he.rR
 rw [←hmq]at himg
 obtain⟨ti,v,v1,v2,v3⟩:=he.c6
 have hnl:∀ j,j<(ms f).n→((ms f).get j).live=true → β.c6 j≠b:=fun j hj hl hb=>by
  rcases hd.ro j hj hl with h1|⟨h1,h2⟩
  · exact himg ⟨j,hj,h1,hb⟩
  · have h3:=hR0.lt h1 h2
    have h4:=(hst.ext j h1).1
    have:=he.ge
    omega
 obtain⟨β',k1,k2,k3,k4,k5,k6,k7⟩:=hm.KC hp (b:=b) (sz:=zs.length) (fun β' hext=>by
  obtain⟨ti',v',z1,z2,z3,z4⟩:=fN hz β' (ms f).n
  rw [v1]at z1
  cases z1
  rw [v2]at z2
  cases z2
  have hn':=(Mem.bD hp).2.1
  refine⟨v.cells,(0,0),v3,?_,by simp,fun _=>⟨rfl,rfl⟩,fun c hc=>XC.fj (by omega) (z4 c hc),?_⟩
  · rw [z3];simp
  · rw [z3];simp [List.take_of_length_le]) hnl
 have hdlt:d<nt:=hs.dst f o d ho hdst
 refine⟨β',fun t'=>if t'=d then .one (.ptr (ms f).n 0)else g t',h.size,h.cl,by omega,fun e he1 he2 he3=>?_,k2,⟨hr.size,hr.small,fun t' ht'=>?_,fun t' ht'=>?_⟩,fun i oi t' hl hei hoi hdi=>?_,fun t' ht'=>?_,?_,fun f' b' hf'=>?_,fun f1 f2 b' h1 h2=>?_,h.dfs⟩
 · by_cases hef:e=f
   · subst hef
     exact⟨fun _=>by omega,fun _=>he.l⟩
   · rw [if_neg hef]at he3
     have:=h.eff e he1 he2 he3
     constructor
     · intro h;have:=this.1 h;omega
     · intro h;exact hall e (by omega) he2
 · by_cases htd:t'=d
   · subst htd
     simp only [if_true]
     rw [he.tmp]
     exact⟨by show(ms f).n<(ms (f+1)).n;omega,by simp only [XC.den,k3,k4,Nat.add_zero]⟩
   · simp only [htd,if_false]
     exact(hr.rel t' ht').ext k1 (by omega)
 · have htd:t'≠d:=by omega
   simp only [htd,if_false]
   exact hr.out t' ht'
 · by_cases hif:i=f
   · subst hif
     rw [ho]at hoi
     cases hoi
     rw [hdst]at hdi
     cases hdi
     simp only [if_true]
     exact hx.symm
   · have htd:t'≠d:=fun e=>hif (hs.uniq i f oi o t' hoi ho hdi (by rw [hdst,e]))
     simp only [htd,if_false]
     rw [if_neg hif]at hei
     exact h.g1 i oi t' hl hei hoi hdi
 · have htd:t'≠d:=fun e=>ht' f o he.l ho (by rw [hdst,e])
   simp only [htd,if_false]
   exact h.g2 t' ht'
 · refine⟨by have:=hst.le;omega,fun j hj=>?_,k2,hst.os,hst.tape,hst.output,hst.size,hst.frame,fun k hk hi=>?_⟩
   · have h1:=hst.ext j hj
     have h2:=k1 j (by have:=hst.le;omega)
     exact⟨h2.1.trans h1.1,h2.2.1.trans h1.2.1,h2.2.2.trans h1.2.2⟩
   · obtain⟨j,hj,hl,hb⟩:=hi
     by_cases hjn:j=(ms f).n
     · rw [hjn,k3]at hb
       have:=he.ge
       omega
     · have hjl:j<(ms f).n:=by omega
       rw [k7 j hjl]at hl
       rw [(k1 j hjl).1]at hb
       exact hst.rR k hk ⟨j,hjl,hl,hb⟩
 · by_cases hff:f'=f
   · rw [if_pos hff]at hf';cases hf'
   · rw [if_neg hff]at hf'
     obtain⟨hF',d',t',hd',he'⟩:=h.ea f' b' hf'
     obtain⟨o2,ho2,_,_,hdst2⟩:=hd'.op
     have hdd:d'≠d:=fun e=>hff (hs.uniq f' f o2 o d' ho2 ho hdst2 (by rw [hdst,e]))
     refine⟨hF',d',t',hd',⟨hmin f' b' hf' hff,he'.l,?_,he'.ge,he'.lt,he'.c6,fun hi=>?_,he'.tmp⟩⟩
     · simp only [hdd,if_false];exact he'.un
     · obtain⟨j,hj,hl,hbb⟩:=hi
       by_cases hjn:j=(ms f).n
       · rw [hjn,k3]at hbb
         exact hff (h.dist f' f b' hf' (by rw [hb,hbb]))
       · have hjl:j<(ms f).n:=by omega
         rw [k7 j hjl]at hl
         rw [(k1 j hjl).1]at hbb
         exact he'.rR (hmq ▸ ⟨j,hjl,hl,hbb⟩)
 · by_cases h1f:f1=f
   · rw [if_pos h1f]at h1;cases h1
   · by_cases h2f:f2=f
     · rw [if_pos h2f]at h2;cases h2
     · rw [if_neg h1f]at h1
       rw [if_neg h2f]at h2
       exact h.dist f1 f2 b' h1 h2
theorem least {p:Nat→Prop}:∀ n,p n→∃ m,p m∧∀ k,p k→m≤k:=by
 intro n
 induction n using Nat.strongRecOn with
 | _ n ih=>
   intro hp
   by_cases h:∃ k,k<n∧p k
   · obtain⟨k,hk,hpk⟩:=h
     exact ih k hk hpk
   · exact⟨n,hp,fun k hk=>Nat.le_of_not_lt fun hlt=>h ⟨k,hlt,hk⟩⟩
theorem z_.norm (hs:dm ops nt) (hT:Trace O P ops nt ops.toList tr rs ms ds) {F:Nat→Prop} {β0:Env} {w0:World}(hR0:Rel β0 (ms 0) w0) {dfs:List Deferred} {listed:Array Bool} {a:Act} {w:World} :
 ∀(n:Nat) (er:Nat→Option Nat) (β : Env) (q:Nat) (g:Nat→XV),z_ O P ops nt rs ms ds F β0 w0 dfs er listed a w β q g→(List.range ops.size).countP (fun j=>(er j).isSome)≤n→∃ er',sO O P ops nt rs ms ds F β0 w0 dfs er' listed a w:=by
 intro n
 induction n with
 | zero=>
   intro er β q g h hc
   refine⟨er,β,q,g,h,fun f b hf=>?_⟩
   obtain⟨_,d,t,hd,_⟩:=h.ea f b hf
   have:0<(List.range ops.size).countP (fun j=>(er j).isSome):=List.countP_pos_iff.2 ⟨f,List.mem_range.2 hd.lt,by simp [hf]⟩
   omega
 | succ n ih=>
   intro er β q g h hc
   by_cases hN:Norm ds er listed
   · exact⟨er,β,q,g,h,hN⟩
   · obtain⟨f,hf⟩:=Classical.not_forall.1 hN
     obtain⟨b,hb⟩:=Classical.not_forall.1 hf
     have hb1:er f=some b:=Classical.byContradiction fun h'=>hb fun h2=>absurd h2 h'
     have hb2:¬∃ e,e<f∧(ds e).eff=true∧listed.getD e false=false:=fun h'=>hb fun _=>h'
     obtain⟨f0,hf0,hmin⟩:=least (p:=fun j=>∃ b,er j=some b) f ⟨b,hb1⟩
     obtain⟨b0,hb0⟩:=hf0
     have hle:=hmin f ⟨b,hb1⟩
     obtain⟨_,d,t,hd,_⟩:=h.ea f0 b0 hb0
     obtain⟨β',g',h'⟩:=h.Ah hs hT hR0 hb0 (fun f' b' hf' hne=>by have:=hmin f' ⟨b',hf'⟩;omega) (fun e e1 e2=>by
      cases hx:listed.getD e false with
      | true=>rfl
      | false=>exact absurd ⟨e,by omega,e2,hx⟩ hb2)
     refine ih _ β' _ g' h' ?_
     have hcnt:=je (p:=fun j=>(if j=f0 then Option.none else er j).isSome) (q:=fun j=>(er j).isSome) (i:=f0) (fun j hj=>by
      by_cases hjf:j=f0
      · simp [hjf]at hj
      · simpa [hjf]using hj) (by simp [hb0]) (by simp) (List.range ops.size) (List.mem_range.2 hd.lt)
     omega
theorem sO.step (hO:aN P O) (hs:dm ops nt) (hnt:nt<1000000) (hT:Trace O P ops nt ops.toList tr rs ms ds) {F:Nat→Prop}(hd:IB ops ms ds F) (h0:(ms 0).b_) {β0:Env} {w0:World}(hR0:Rel β0 (ms 0) w0) {dfs:List Deferred} {er:Nat→Option Nat} {listed:Array Bool} {a:Act} {w:World}
 (h:sO O P ops nt rs ms ds F β0 w0 dfs er listed a w) {i:Nat}(hi:i∈Region.ready .any ops listed) (hif:F i→∀ e,e<i→(ds e).eff=true→listed.getD e false=true) {K:Act→World→Prop} {Q:Exit→Act→World→Prop}
 (hK:∀ a' w' er',sO O P ops nt rs ms ds F β0 w0 dfs er' (listed.setIfInBounds i true) a' w'→K a' w'):wpOp P ops Q i K a w:=by
 obtain⟨hun,oi,hoi,hedges⟩:=mem_ready.1 hi
 obtain⟨β,q,g,h,hN⟩:=h
 have hilt:i<ops.size:=(Array.getElem?_eq_some_iff.1 hoi).1
 have hil:i<listed.size:=by rw [h.size];exact hilt
 have hun':listed.getD i false=false:=by rw [←ct hil];exact hun
 have hq:=h.qle
 have heff:=h.eff
 have hm:=h.rel
 have hr:=h.jj
 have hg1:=h.g1
 have hg2:=h.g2
 have hst:=h.st
 have hanc:∀ i' j,i6 ops i' j→i'=i→listed.getD j false=true:=by
  intro i' j ha
  induction ha with
  | edge ho he hb=>
    intro e
    subst e
    rw [hoi]at ho
    cases ho
    exact hedges _ he hb
  | trans h1 h2 ih1 _=>intro e;exact h.cl _ _ h2 (ih1 e)
 have hanc':∀ j,i6 ops i j→listed.getD j false=true:=fun j ha=>hanc i j ha rfl
 have hno:∀ j,i6 ops j i→listed.getD j false=false:=fun j ha=>by
  cases hx:listed.getD j false
  · rfl
  · have:=h.cl j i ha hx
    rw [hun']at this;cases this
 have early:∀ f b,er f=some b→∃ d t,MM ops ms ds f d t∧ou P ops ms ds w0 f d t b β q g listed a w∧i≠f∧d∉oi.looksAt ops∧∃ e,e<f∧(ds e).eff=true∧listed.getD e false=false:=fun f b hb=>by
  obtain⟨hF,d,t,hfl,h1⟩:=h.ea f b hb
  obtain⟨e,e1,e2,e3⟩:=hN f b hb
  have hne:i≠f:=fun e'=>by rw [e',h1.l]at hun';cases hun'
  refine⟨d,t,hfl,h1,hne,fun hlk=>?_,e,e1,e2,e3⟩
  have:=hanc' e (hfl.look i oi hoi hne hlk e e1 e2)
  rw [e3]at this;cases this
 have eri:er i = .none:=by
  cases hx:er i with
  | none=>rfl
  | some b=>obtain⟨_,_,_,_,hne,_⟩:=early i b hx;exact absurd rfl hne
 obtain⟨o',ho',_,hdo,hrs,hms⟩:=aV hT hilt
 rw [hoi]at ho'
 cases ho'
 obtain⟨hr1,hr2⟩:=mV hs hnt hT i (by omega)
 have hlook:∀ t∈oi.looksAt ops,g t=(rs i).get .undef t:=by
  intro t ht
  by_cases hw:∃(j:Nat) (oj:Oper),ops[j]? = some oj∧oj.dst=some t
  · obtain⟨j,oj,hj,hdj⟩:=hw
    have hjf:er j = .none:=by
     cases hx:er j with
     | none=>rfl
     | some b=>
       obtain⟨d,t',hfl,_,_,hdl,_⟩:=early j b hx
       obtain⟨o2,ho2,_,_,hd2⟩:=hfl.op
       rw [hj]at ho2
       cases ho2
       rw [hdj]at hd2
       cases hd2
       exact absurd ht hdl
    have nolisted:listed.getD j false=false→g t=(rs 0).get .undef t:=fun hlj=>hg2 t (fun k ok hk hok e=>by
     have:=hs.uniq k j ok oj t hok hj e hdj
     subst this
     rw [hlj]at hk;cases hk)
    have nobefore:¬j<i→(rs i).get .undef t=(rs 0).get .undef t:=fun hji=>hr2 t (fun k ok hk hok e=>by
     have:=hs.uniq k j ok oj t hok hj e hdj
     omega)
    rcases Nat.lt_trichotomy j i with hji|hji|hji
    · have:=(hs.look i j oi oj t hoi hj hdj ht (by omega)).1 hji
      rw [hg1 j oj t (hanc' j this) hjf hj hdj,hr1 j oj t hji hj hdj]
    · subst hji
      rw [nolisted hun',nobefore (by omega)]
    · have:=(hs.look i j oi oj t hoi hj hdj ht (by omega)).2 hji
      rw [nolisted (hno j this),nobefore (by omega)]
  · have hnone:∀(k:Nat) (ok:Oper),ops[k]? = some ok→ok.dst≠some t:=fun k ok hok e=>hw ⟨k,ok,hok,e⟩
    rw [hg2 t (fun k ok _ hok=>hnone k ok hok),hr2 t (fun k ok _ hok=>hnone k ok hok)]
 have hdstlt:∀ t,oi.dst=some t→t<nt:=fun t ht=>hs.dst i oi t hoi ht
 have hcl:∀ k j,i6 ops k j→(listed.setIfInBounds i true).getD k false=true→(listed.setIfInBounds i true).getD j false=true:=by
  intro k j ha hk
  rw [aM hil]at hk ⊢
  by_cases hij:i=j
  · simp [hij]
  · simp only [hij,if_false]
    by_cases hik:i=k
    · subst hik;exact hanc' j ha
    · simp only [hik,if_false]at hk
      exact h.cl k j ha hk
 have hgs1:∀ {x:XV},x=(ds i).x→∀(k:Nat) (ok:Oper) (t:Nat),(listed.setIfInBounds i true).getD k false=true→er k = .none→ops[k]? = some ok→ok.dst=some t→(if oi.dst=some t then x else g t)=(ds k).x:=by
  intro x hx k ok t hk hkf hok ht
  rw [aM hil]at hk
  by_cases hik:i=k
  · subst hik
    rw [hoi]at hok
    cases hok
    rw [if_pos ht,hx]
  · simp only [hik,if_false]at hk
    have:oi.dst≠some t:=fun e=>hik (hs.uniq i k oi ok t hoi hok e ht)
    rw [if_neg this]
    exact hg1 k ok t hk hkf hok ht
 have hgs2:∀ {x:XV}(t:Nat),(∀(k:Nat) (ok:Oper),(listed.setIfInBounds i true).getD k false=true→ops[k]? = some ok→ok.dst≠some t)→(if oi.dst=some t then x else g t)=(rs 0).get .undef t:=by
  intro x t ht
  have hi':(listed.setIfInBounds i true).getD i false=true:=by rw [aM hil];simp
  rw [if_neg (ht i oi hi' hoi)]
  refine hg2 t (fun k ok hk hok=>ht k ok ?_ hok)
  rw [aM hil]
  split
  · rfl
  · exact hk
 have keep:∀ {β':Env} {m':Mem} {w':World} {u:Value} {q':Nat} {x:XV},Step β (ms q) w β' m' w'→m'=ms q'→(∀ f b,er f=some b→q'≤f)→∀ f b,er f=some b→F f∧∃ d t,MM ops ms ds f d t∧ou P ops ms ds w0 f d t b β' q' (fun t=>if oi.dst=some t then x else g t) (listed.setIfInBounds i true) (a.put oi.dst u) w':=by
  intro β' m' w' u q' x hs' hq' hle f b hb
  obtain⟨d,t0,hfl,h1,hne,_,_⟩:=early f b hb
  obtain⟨of,hof,_,_,hofd⟩:=hfl.op
  have hnd:oi.dst≠some d:=fun e=>hne (hs.uniq i f oi of d hoi hof e hofd)
  subst hq'
  refine⟨(h.ea f b hb).1,d,t0,hfl,hle f b hb,?_,?_,h1.ge,Nat.lt_of_lt_of_le h1.lt hs'.size,?_,fun hi=>h1.rR (hs'.rR b h1.lt hi),?_⟩
  · rw [aM hil];simp [h1.l]
  · simp only [hnd,if_false];exact h1.un
  · obtain⟨ti,v,v1,v2,v3⟩:=h1.c6
    exact⟨ti,v,v1,v2,by rw [hs'.frame b h1.lt h1.rR];exact v3⟩
  · rw [←h1.tmp]
    cases hod:oi.dst with
    | none=>rfl
    | some d'=>
      have:d'≠d:=fun e=>hnd (by rw [hod,e])
      simp [Act.put,Array.getD_eq_getD_getElem?,Array.getElem?_setIfInBounds_ne this]
 have qle:∀ f b,er f=some b→q≤f:=fun f b hb=>by
  obtain⟨_,_,_,h1,_⟩:=early f b hb
  exact h1.le
 have hsz:(listed.setIfInBounds i true).size=ops.size:=by simp [h.size]
 cases he:(ds i).eff with
 | false =>
   have hobj : ∀ fp,(ds i).fp=some fp→(ms q).get fp=(ms i).get fp:=by
    intro fp hfp
    have verF:∀ f b,er f=some b→((ds f).m.fV fp).ver=((ms f).fV fp).ver:=fun f b hb=>by
     obtain⟨d,t,hfl,_,hne,_,e,e1,e2,e3⟩:=early f b hb
     obtain⟨of,hof,hofop,hofg,hofd⟩:=hfl.op
     obtain⟨o',ho',_,hdo',_,_⟩:=aV hT hfl.lt
     rw [hof]at ho'
     cases ho'
     obtain⟨zs,_,hp,_⟩:=gD hofop hofg hdo'
     obtain⟨_,_,_,h4⟩:=Mem.bD hp
     rw [h4 fp (fun e'=>by
      have:=hanc' e (hfl.rd i hilt hne (by rw [hfp,e']) e e1 e2)
      rw [e3]at this;cases this)]
    rcases Nat.le_total q i with hqi|hqi
    · have := ki hO hT h0 fp q (i-q) (by omega) (fun e he1 he2 he3=>by
       cases hef:er e with
       | some b=>exact verF e b hef
       | none=>
         have hne:i≠e:=by omega
         refine hd.ver i e fp hilt (by omega) hfp he3 hne (fun ha=>?_) (fun ha=>?_)
         · have:=(heff e (by omega) he3 hef).1 (hanc' e ha)
           omega
         · have:=i6.lt hs ha
           omega)
      rw [show q+(i-q)=i by omega]at this
      exact this.symm
    · have := ki hO hT h0 fp i (q-i) (by omega) (fun e he1 he2 he3=>by
       have hne:i≠e:=fun e'=>by subst e';rw [he]at he3;cases he3
       refine hd.ver i e fp hilt (by omega) hfp he3 hne (fun ha=>?_) (fun ha=>?_)
       · have:=i6.lt hs ha
         omega
       · have h1:=hno e ha
         have h3:er e = .none:=by
          cases hx:er e with
          | none=>rfl
          | some b=>have:=qle e b hx;omega
         have h2:=(heff e (by omega) he3 h3).2 (by omega)
         rw [h1]at h2;cases h2)
      rw [show i+(q-i)=q by omega]at this
      exact this
   have hago:=rB hdo (g':=g) hlook he (m':=ms q) hobj
   refine pU hO hoi hago hm hr fun u β' w' hu hs'=>hK _ _ er ?_
   refine⟨β',q,fun t=>if oi.dst=some t then(ds i).x else g t,⟨hsz,hcl,hq,?_,hs'.rel,fP.put (hr.ext hs'.ext hs'.le) oi.dst hu hdstlt,hgs1 rfl,hgs2,hst.trans hs',keep hs' rfl qle,h.dist,?_⟩,fun f b hb=>?_⟩
   · intro e hel hee hef
     rw [aM hil]
     have hie:i≠e:=fun x=>by subst x;rw [he]at hee;cases hee
     simp only [hie,if_false]
     exact heff e hel hee hef
   · rw [cV,h.dfs]
   · obtain⟨e,e1,e2,e3⟩:=hN f b hb
     refine⟨e,e1,e2,?_⟩
     rw [aM hil]
     have hie:i≠e:=fun x=>by subst x;rw [he]at e2;cases e2
     simp only [hie,if_false]
     exact e3
 | true =>
   have hbefore:∀ e,e<i→(ds e).eff=true→listed.getD e false=true:=fun e hlt hee=>by
    by_cases hii:F i
    · exact hif hii e hlt hee
    · exact hanc' e (hd.ord i e hilt (by omega) he hee hlt hii)
   have hilf:∀ f b,er f=some b→i<f:=fun f b hb=>by
    obtain⟨_,_,_,_,hne,_,e,e1,e2,e3⟩:=early f b hb
    rcases Nat.lt_or_ge i f with h1|h1
    · exact h1
    · have:=hbefore e (by omega) e2
      rw [e3]at this;cases this
   have hqi:q≤i:=by
    rcases Nat.lt_or_ge i q with hlt|hge
    · have:=(heff i hilt he eri).2 hlt
      rw [hun']at this;cases this
    · exact hge
   have hmq:ms i=ms q:=by
    have := jY hT q (i-q) (by omega) (fun e he1 he2=>by
     cases hx:(ds e).eff
     · rfl
     · have h3:er e = .none:=by
        cases hx:er e with
        | none=>rfl
        | some b=>have:=hilf e b hx;omega
       have h2:=(heff e (by omega) hx h3).1 (hbefore e (by omega) hx)
       omega)
    rw [show q+(i-q)=i by omega]at this
    exact this
   have hago:=jv hdo (g':=g) hlook
   rw [hmq]at hago
   have heff':∀ e,e<ops.size→(ds e).eff=true→er e = .none→((listed.setIfInBounds i true).getD e false=true↔e<i+1):=by
    intro e hel hee hef
    rw [aM hil]
    by_cases hie:i=e
    · subst hie;simp
    · simp only [hie,if_false]
      constructor
      · intro hle
        have:=(heff e hel hee hef).1 hle
        omega
      · intro hlt
        exact hbefore e (by omega) hee
   refine pU hO hoi hago hm hr fun u β' w' hu hs'=>?_
   rw [←hms]at hu hs'
   have hput:(a.put oi.dst u).defers=dfs:=by rw [cV,h.dfs]
   have hr':=fP.put (hr.ext hs'.ext hs'.le) oi.dst hu hdstlt
   obtain⟨er',h'⟩:=z_.norm hs hT hR0 _ er β' (i+1) (fun t=>if oi.dst=some t then(ds i).x else g t) ⟨hsz,hcl,by omega,heff',hs'.rel,hr',hgs1 rfl,hgs2,hst.trans hs',keep hs' rfl hilf,h.dist,hput⟩ (Nat.le_refl _)
   exact hK _ _ er' h'
theorem sO.early (hs:dm ops nt) (hT:Trace O P ops nt ops.toList tr rs ms ds) {F:Nat→Prop} {β0:Env} {w0:World} {dfs:List Deferred} {er:Nat→Option Nat} {listed:Array Bool} {a:Act} {w:World}
 (h:sO O P ops nt rs ms ds F β0 w0 dfs er listed a w) {f d:Nat} {t0:TypeId}(hF:F f) (hd:MM ops ms ds f d t0) (hi:f∈Region.ready .any ops listed) (hmore:∃ e,e<f∧(ds e).eff=true∧listed.getD e false=false) {K:Act→World→Prop} {Q:Exit→Act→World→Prop}
 (hK:∀ a' w' er',sO O P ops nt rs ms ds F β0 w0 dfs er' (listed.setIfInBounds f true) a' w'→K a' w'):wpOp P ops Q f K a w:=by
 obtain⟨hun,oi,hoi,hedges⟩:=mem_ready.1 hi
 obtain⟨β,q,g,h,hN⟩:=h
 have hflt:=hd.lt
 have hil:f<listed.size:=by rw [h.size];exact hflt
 have hun':listed.getD f false=false:=by rw [←ct hil];exact hun
 have hm:=h.rel
 have hr:=h.jj
 have hst:=h.st
 obtain⟨of,hof,hofop,hofg,hofd⟩:=hd.op
 obtain rfl:oi=of:=by rw [hof]at hoi;exact(Option.some.inj hoi).symm
 obtain⟨o',ho',_,hdo,_,_⟩:=aV hT hflt
 obtain rfl:oi=o':=by rw [hof]at ho';exact Option.some.inj ho'
 obtain⟨zs,hz,hp,hx,hfe,_⟩:=gD hofop hofg hdo
 have erf:er f = .none:=by
  cases hx:er f with
  | none=>rfl
  | some b=>
    obtain⟨_,_,_,_,h1⟩:=h.ea f b hx
    rw [h1.l]at hun';cases hun'
 have hanc':∀ j,i6 ops f j→listed.getD j false=true:=fun j ha=>by
  have key:∀ i' j,i6 ops i' j→i'=f→listed.getD j false=true:=by
   intro i' j ha
   induction ha with
   | edge ho he hb=>
     intro e
     subst e
     rw [hof]at ho
     cases ho
     exact hedges _ he hb
   | trans h1 h2 ih1 _=>intro e;exact h.cl _ _ h2 (ih1 e)
  exact key f j ha rfl
 have hqf:q≤f:=by
  rcases Nat.lt_or_ge f q with hlt|hge
  · have:=(h.eff f hflt hfe erf).2 hlt
    rw [hun']at this;cases this
  · exact hge
 have hdlt:d<nt:=hs.dst f oi d hof hofd
 obtain⟨ti,v,z1,z2,z3,z4⟩:=fN hz β (ms q).n
 have hrun:∀ ev:Operand→Value,(execOp ev oi).run P w = .ok (.value (.pointer (some ⟨w.heap.size,0,none⟩))) (w.alloc (.cells v.cells t0)):=fun ev=>by
  simp only [execOp,hofop,Instr.alloc,Sem.run_bind,dg z1 z2,Result.andThen_ok,mN,Sem.run_pure]
 have hheap:(w.alloc (.cells v.cells t0)).heap=w.heap.push (.cells v.cells t0 (0,0)):=rfl
 have hb0:∀ k,k<w.heap.size→(w.alloc (.cells v.cells t0)).heap[k]? = w.heap[k]?:=fun k hk=>by
  rw [hheap,Array.getElem?_push,if_neg (Nat.ne_of_lt hk)]
 have hrel:Rel β (ms q) (w.alloc (.cells v.cells t0)):=by
  refine⟨hm.bnd,hm.fresh,fun j hj=>?_,hm.inj⟩
  have:=hm.obj j hj
  cases hg:(ms q).get j with
  | dead=>trivial
  | cells c1 c2 c3 c4=>
    rw [hb0 _ (hm.lt hj (by rw [hg];rfl)),←hg];exact this
  | map es=>
    rw [hb0 _ (hm.lt hj (by rw [hg];rfl)),←hg];exact this
 have hstep:Step β (ms q) w β (ms q) (w.alloc (.cells v.cells t0)):=
  ⟨Nat.le_refl _,Ext.refl _ _,hrel,rfl,rfl,rfl,by rw [hheap];simp,fun k hk _=>hb0 k hk,fun _ _ h=>h⟩
 have hst':=hst.trans hstep
 have hsz':(w.alloc (.cells v.cells t0)).heap.size=w.heap.size+1:=by rw [hheap];simp
 unfold wpOp
 rw [hof]
 simp only []
 have hwant:Region.wanted oi (yielded ops a.tmps)=true:=by unfold Region.wanted;rw [hofg]
 rw [if_pos hwant]
 refine .inl ?_
 unfold Oper.wp
 rw [hrun]
 refine hK _ _ (fun j=>if j=f then some w.heap.size else er j) ⟨β,q,fun t=>if t=d then .undef else g t,⟨by simp [h.size],fun k j ha hk=>?_,h.qle,fun e hel hee hef=>?_,hrel,⟨?_,hr.small,fun t ht=>?_,fun t ht=>?_⟩,fun k ok t hk hkf hok ht=>?_,fun t ht=>?_,hst',fun f' b hb=>?_,fun f1 f2 b h1 h2=>?_,?_⟩,fun f' b hb=>?_⟩
 · rw [aM hil]at hk ⊢
   by_cases hij:f=j
   · simp [hij]
   · simp only [hij,if_false]
     by_cases hik:f=k
     · subst hik;exact hanc' j ha
     · simp only [hik,if_false]at hk
       exact h.cl k j ha hk
 · rw [aM hil]
   by_cases hfe:e=f
   · rw [if_pos hfe]at hef;cases hef
   · rw [if_neg hfe]at hef
     have:f≠e:=fun e'=>hfe e'.symm
     simp only [this,if_false]
     exact h.eff e hel hee hef
 · rw [hofd];simpa [Act.put]using hr.size
 · by_cases htd:t=d
   · simp only [htd,if_true];trivial
   · simp only [htd,if_false]
     have:(a.put oi.dst (.pointer (some ⟨w.heap.size,0,none⟩))).tmps.getD t undef=a.tmps.getD t undef:=by
      rw [hofd]
      simp [Act.put,Array.getD_eq_getD_getElem?,Array.getElem?_setIfInBounds_ne (Ne.symm htd)]
     rw [this]
     exact hr.rel t ht
 · by_cases htd:t=d
   · simp [htd]
   · simp only [htd,if_false];exact hr.out t ht
 · by_cases hkf':k=f
   · rw [if_pos hkf']at hkf;cases hkf
   · rw [if_neg hkf']at hkf
     rw [aM hil]at hk
     simp only [Ne.symm hkf',if_false]at hk
     have htd:t≠d:=fun e=>hkf' (hs.uniq k f ok oi t hok hof ht (by rw [hofd,e]))
     simp only [htd,if_false]
     exact h.g1 k ok t hk hkf hok ht
 · have htd':t≠d:=fun e=>ht f oi (by rw [aM hil];simp) hof (by rw [hofd,e])
   simp only [htd',if_false]
   refine h.g2 t (fun k ok hk hok=>ht k ok ?_ hok)
   rw [aM hil]
   split
   · rfl
   · exact hk
 · by_cases hff:f'=f
   · subst hff
     rw [if_pos rfl]at hb
     cases hb
     refine⟨hF,d,t0,hd,⟨hqf,by rw [aM hil];simp,by simp,by have:=hst.size;omega,by omega,⟨ti,v,z1,z2,?_⟩,fun hi=>?_,?_⟩⟩
     · rw [hheap];simp
     · obtain⟨j,hj,hl,hb⟩:=hi
       have:=hm.lt hj (aj.cS hl)
       omega
     · rw [hofd]
       simp [Act.put,Array.getD_eq_getD_getElem?,hr.size,hdlt]
   · rw [if_neg hff]at hb
     obtain⟨hF',d',t',hd',he'⟩:=h.ea f' b hb
     obtain⟨o2,ho2,_,_,hdst2⟩:=hd'.op
     have hdd:d'≠d:=fun e=>hff (hs.uniq f' f o2 oi d' ho2 hof hdst2 (by rw [hofd,e]))
     refine⟨hF',d',t',hd',⟨he'.le,?_,?_,he'.ge,by have:=he'.lt;omega,?_,he'.rR,?_⟩⟩
     · rw [aM hil]
       split
       · rfl
       · exact he'.l
     · simp only [hdd,if_false];exact he'.un
     · obtain⟨ti,v,v1,v2,v3⟩:=he'.c6
       exact⟨ti,v,v1,v2,by rw [hb0 _ he'.lt];exact v3⟩
     · rw [←he'.tmp,hofd]
       simp [Act.put,Array.getD_eq_getD_getElem?,Array.getElem?_setIfInBounds_ne (Ne.symm hdd)]
 · by_cases h1f:f1=f
   · by_cases h2f:f2=f
     · rw [h1f,h2f]
     · rw [if_pos h1f]at h1
       rw [if_neg h2f]at h2
       cases h1
       obtain⟨_,_,_,_,he'⟩:=h.ea f2 _ h2
       have:=he'.lt
       omega
   · by_cases h2f:f2=f
     · rw [if_neg h1f]at h1
       rw [if_pos h2f]at h2
       cases h2
       obtain⟨_,_,_,_,he'⟩:=h.ea f1 _ h1
       have:=he'.lt
       omega
     · rw [if_neg h1f]at h1
       rw [if_neg h2f]at h2
       exact h.dist f1 f2 b h1 h2
 · rw [cV,h.dfs]
 · by_cases hff:f'=f
   · obtain⟨e,e1,e2,e3⟩:=hmore
     refine⟨e,by omega,e2,?_⟩
     rw [aM hil]
     have:f≠e:=by omega
     simp only [this,if_false]
     exact e3
   · replace hb:er f'=some b:=(if_neg hff).symm.trans hb
     obtain⟨e,e1,e2,e3⟩:=hN f' b hb
     by_cases hef:e=f
     · obtain⟨e',e1',e2',e3'⟩:=hmore
       refine⟨e',by omega,e2',?_⟩
       rw [aM hil]
       have:f≠e':=by omega
       simp only [this,if_false]
       exact e3'
     · refine⟨e,e1,e2,?_⟩
       rw [aM hil]
       have:f≠e:=fun h=>hef h.symm
       simp only [this,if_false]
       exact e3
theorem sO.any (hO:aN P O) (hs:dm ops nt) (hnt:nt<1000000) (hT:Trace O P ops nt ops.toList tr rs ms ds) {F:Nat→Prop}(hd:IB ops ms ds F) (h0:(ms 0).b_) {β0:Env} {w0:World}(hR0:Rel β0 (ms 0) w0) {dfs:List Deferred} {Q:Exit→Act→World→Prop}
 (hQ:sR β0 (ms 0) w0 nt dfs (rs ops.size) (ms ops.size) (Q .normal)):∀(fuel:Nat) (er:Nat→Option Nat) (listed:Array Bool) (a:Act) (w:World),sO O P ops nt rs ms ds F β0 w0 dfs er listed a w →
 (List.range ops.size).countP (fun i=>listed.getD i false == false)≤fuel→wpAny P .any ops Q fuel listed a w:=by
 have fin:∀(er:Nat→Option Nat) (listed:Array Bool) (a:Act) (w:World),sO O P ops nt rs ms ds F β0 w0 dfs er listed a w→(∀ i,i<ops.size→listed.getD i false=true)→Q .normal a w:=by
  intro er listed a w h hall
  obtain⟨β,q,g,h,hN⟩:=h
  have nn:∀ f,er f = .none:=fun f=>by
   cases hx:er f with
   | none=>rfl
   | some b=>
     obtain⟨_,d,t,hfl,_⟩:=h.ea f b hx
     obtain⟨e,e1,e2,e3⟩:=hN f b hx
     have:=hall e (by have:=hfl.lt;omega)
     rw [e3]at this;cases this
  have hq:=h.qle
  have hr:=h.jj
  have hst:=h.st
  have hmq:ms ops.size=ms q:=by
   have:=jY hT q (ops.size-q) (by omega) (fun e he1 he2=>by
    cases hx:(ds e).eff
    · rfl
    · have:=(h.eff e (by omega) hx (nn e)).1 (hall e (by omega))
      omega)
   rw [show q+(ops.size-q)=ops.size by omega]at this
   exact this
  obtain⟨hr1,hr2⟩:=mV hs hnt hT ops.size (Nat.le_refl _)
  have hge:g=(rs ops.size).get .undef:=by
   funext t
   by_cases hw:∃(j:Nat) (oj:Oper),ops[j]? = some oj∧oj.dst=some t
   · obtain⟨j,oj,hj,hdj⟩:=hw
     have hjl:j<ops.size:=(Array.getElem?_eq_some_iff.1 hj).1
     rw [h.g1 j oj t (hall j hjl) (nn j) hj hdj,hr1 j oj t hjl hj hdj]
   · have hnone:∀(k:Nat) (ok:Oper),ops[k]? = some ok→ok.dst≠some t:=fun k ok hok e=>hw ⟨k,ok,hok,e⟩
     rw [h.g2 t (fun k ok _ hok=>hnone k ok hok),hr2 t (fun k ok _ hok=>hnone k ok hok)]
  subst hge
  rw [←hmq]at hr hst
  exact hQ a β w hr h.dfs hst
 intro fuel
 induction fuel with
 | zero=>
   intro er listed a w h hc
   have hall:∀ i,i<ops.size→listed.getD i false=true:=fun i hi=>by
    cases hx:listed.getD i false
    · have:0<(List.range ops.size).countP (fun i=>listed.getD i false == false):=List.countP_pos_iff.2 ⟨i,List.mem_range.2 hi,by simp [hx]⟩
      omega
    · rfl
   refine⟨?_,fin er listed a w h hall⟩
   apply List.eq_nil_iff_forall_not_mem.2
   intro i hi
   obtain⟨hun,oi,hoi,_⟩:=mem_ready.1 hi
   obtain⟨_,_,_,h,_⟩:=h
   have hilt:i<ops.size:=(Array.getElem?_eq_some_iff.1 hoi).1
   rw [ct (by rw [h.size];exact hilt),hall i hilt]at hun
   cases hun
 | succ fuel ih=>
   intro er listed a w h hc
   have hsize:listed.size=ops.size:=by obtain⟨_,_,_,h,_⟩:=h;exact h.size
   refine⟨fun hnil=>fin er listed a w h (fun i hi=>?_),fun i hi=>?_⟩
   · induction i using Nat.strongRecOn with
     | _ i ihi=>
       cases hx:listed.getD i false
       · exfalso
         have ho:ops[i]? = some ops[i]:=by simp [hi]
         have:i∈Region.ready .any ops listed:=mem_ready.2 ⟨by rw [ct (by rw [hsize];exact hi)];exact hx,ops[i],ho,fun e he hb=>by
          have hlt:=hs.back i ops[i] ho e he hb
          exact ihi e.on hlt (by omega)⟩
         rw [hnil]at this
         cases this
       · rfl
   · obtain⟨hun,oi,hoi,_⟩:=mem_ready.1 hi
     have hilt:i<ops.size:=(Array.getElem?_eq_some_iff.1 hoi).1
     have hil:i<listed.size:=by rw [hsize];exact hilt
     have hcnt:=je (p:=fun j=>(listed.setIfInBounds i true).getD j false == false) (q:=fun j=>listed.getD j false == false) (i:=i) (fun j hj=>by
      rw [aM hil]at hj
      split at hj
      · simp at hj
      · exact hj) (by rw [←ct hil,hun];rfl) (by rw [aM hil];simp) (List.range ops.size) (List.mem_range.2 hilt)
     by_cases hF:F i
     · by_cases hmore:∃ e,e<i∧(ds e).eff=true∧listed.getD e false=false
       · obtain⟨d,t,hfl⟩:=hd.flt i hF
         exact h.early hs hT hF hfl hi hmore fun a' w' er' h'=>ih er' _ a' w' h' (by omega)
       · refine h.step hO hs hnt hT hd h0 hR0 hi (fun _ e e1 e2=>?_) fun a' w' er' h'=>ih er' _ a' w' h' (by omega)
         cases hx:listed.getD e false with
         | true=>rfl
         | false=>exact absurd ⟨e,e1,e2,hx⟩ hmore
     · exact h.step hO hs hnt hT hd h0 hR0 hi (fun e=>absurd e hF) fun a' w' er' h'=>ih er' _ a' w' h' (by omega)
theorem AZ (hO:aN P O) (hP:P.follows .mixedOrders=true) (hs:dm ops nt) {id:Nat}(hT:Trace O P ops nt ops.toList tr rs ms ds) {F:Nat→Prop}(hd:IB ops ms ds F) {r:T XV} {m:Mem}(h1:rs 0=r) (h2:ms 0=m) {β : Env} {w:World} {a:Act}(hr:jz β m.n nt r a.tmps) (hm:Rel β m w)
 {Q:Exit→Act→World→Prop}(hq:sR β m w nt a.defers (rs ops.size) (ms ops.size) (Q .normal)):(Code.region id ops true).wp P Q a w:=by
 subst h1
 subst h2
 have hdr:=Step.drew hm
 refine wp_region_any hP ?_
 refine sO.any hO hs hr.small hT hd hm.fresh hm (β0 := β) (w0:=w) (dfs:=a.defers) (Q:=Q) hq _ (fun _ => .none) _ a _ ?_ ?_
 · refine⟨β,0,(rs 0).get .undef,⟨by simp,fun i j ha hi=>?_,by omega,fun e he _ _=>?_,hdr.rel,hr,fun i o t hi=>?_,fun t _=>rfl,hdr,fun f b hb=>(by cases hb),fun f f' b hb=>(by cases hb),rfl⟩,fun f b hb=>(by cases hb)⟩
   · exfalso
     by_cases hlt:i<ops.size <;> simp [Array.getD_eq_getD_getElem?,hlt]at hi
   · simp [Array.getD_eq_getD_getElem?,he]
   · exfalso
     by_cases hlt:i<ops.size <;> simp [Array.getD_eq_getD_getElem?,hlt]at hi
 · exact Nat.le_trans List.countP_le_length (by simp)
def sC (bs:List Nat) (fs:List Nat) (i:Nat) (di:Ab) (e:Nat) (de:Ab):Bool:=
 !de.eff || i == e || ((!(di.eff && decide (e<i) && !fs.contains i) || bit bs i e) &&
  (match di.fp with
    | .none=>true
    | some fp=>bit bs i e || bit bs e i || !(de.ws.contains fp)))
def KH (ops:Array Oper) (bs:List Nat) (tr:List Ab) (f:Nat):Bool:=
 match ops[f]?,tr[f]? with
 | some o,some bf=>match o.op,o.guard,o.dst with
   | .alloc _,.none,some d=>(List.range ops.size).all (fun i=>i == f || (match ops[i]? with
      | .none=>true
      | some oi => !((oi.looksAt ops).contains d || (match tr[i]? with | .none=>false|some di=>(match di.fp with | .none=>false|some p=>bf.ws.contains p))) || (List.range f).all fun e=>match tr[e]? with
        | .none=>true
        | some de => !de.eff || bit bs i e))
   | _,_,_=>false
 | _,_=>false
def s9 (ops:Array Oper) (bs:List Nat) (tr:List Ab) (fs:List Nat):Bool:=
 fs.all (KH ops bs tr) && (List.range tr.length).all fun i=>match tr[i]? with
  | .none=>true
  | some di=>(!di.eff && di.fp.isNone) || (List.range tr.length).all fun e=>match tr[e]? with
    | .none=>true
    | some de=>sC bs fs i di e de
theorem Au (hO : aN P O) (hT:Trace O P ops nt ops.toList tr rs ms ds) (h0f:(ms 0).b_) (hb:(ms 0).n≤Mem.bound) {ab:List Ab}(hno:fB ops.toList ab=true) (ht:E3 tr ab) {fs:List Nat}(h:s9 ops (fx ops.toList) ab fs=true):IB ops ms ds (·∈fs):=by
 have key:∀ i,i≤ops.size→gJ (ms 0) (ms i)∧(ms i).b_:=by
  intro i
  induction i with
  | zero=>exact fun _=>⟨.same _,h0f⟩
  | succ i ih=>
    intro hi
    obtain⟨h1,h2⟩:=ih (by omega)
    obtain⟨o,ho,_,hx,_,hm⟩:=aV hT (show i<ops.size by omega)
    rw [hm]
    refine⟨h1.trans ?_,((jw hO hx).mono h2).2⟩
    obtain⟨_,_,hti,_⟩:=aV hT (show i<ops.size by omega)
    obtain⟨b,hbi,_,_,k3⟩:=cz.get? ht i _ hti
    rcases nB ops.toList ab hno i o b (by simpa using ho) hbi with hn|hn
    · exact Bk hn hx
    · exact y7 (jw hO hx) h2 (fun j=>k3 j (by rw [hn];simp))
 unfold s9 at h
 simp only [Bool.and_eq_true]at h
 obtain⟨hfl,hdy⟩:=h
 have hl:tr.length=ab.length:=cz.length ht
 have at_:∀ i,i<ops.size→∃ b,ab[i]? = some b∧(ds i).eff=b.eff∧(ds i).fp=b.fp∧∀ j,j∉b.ws→((ds i).m.fV j).ver=((ms i).fV j).ver:=fun i hi=>by
  obtain⟨_,_,hti,_⟩:=aV hT hi
  obtain⟨b,hbi,k1,k2,k3⟩:=cz.get? ht i _ hti
  exact⟨b,hbi,k1,k2,k3⟩
 have pair:∀ i e bi be,ab[i]? = some bi→ab[e]? = some be→((!bi.eff && bi.fp.isNone) || sC (fx ops.toList) fs i bi e be)=true:=fun i e bi be hi he=>by
  have hil:i<ab.length:=(List.getElem?_eq_some_iff.1 hi).1
  have hel:e<ab.length:=(List.getElem?_eq_some_iff.1 he).1
  have h3:=List.all_eq_true.1 hdy i (List.mem_range.2 hil)
  rw [hi]at h3
  simp only [Bool.or_eq_true]at h3 ⊢
  rcases h3 with h3|h3
  · exact .inl h3
  · have h4:=List.all_eq_true.1 h3 e (List.mem_range.2 hel)
    rw [he]at h4
    exact .inr h4
 refine⟨fun i e hi he h1 h2 hlt hF=>?_,fun i e fp hi he h1 h2 hne ha hb=>?_,fun f hf=>?_⟩
 · obtain⟨bi,hbi,k1,k2,k3⟩:=at_ i hi
   obtain⟨be,hbe,j1,j2,j3⟩:=at_ e he
   have hp:=pair i e bi be hbi hbe
   rw [k1]at h1
   rw [j1]at h2
   have hq:(i == e)=false:=by simp;omega
   have hc:fs.contains i=false:=by simpa using hF
   simp [sC,h1,h2,hq,hlt,hc]at hp
   exact dK ops i e (hp.1.resolve_left hF)
 · obtain⟨bi,hbi,k1,k2,k3⟩:=at_ i hi
   obtain⟨be,hbe,j1,j2,j3⟩:=at_ e he
   have hp:=pair i e bi be hbi hbe
   rw [k2]at h1
   rw [j1]at h2
   have hq:(i == e)=false:=by simpa using hne
   have n1:bit (fx ops.toList) i e=false:=by
    cases hx:bit (fx ops.toList) i e
    · rfl
    · exact absurd (dK ops i e hx) ha
   have n2:bit (fx ops.toList) e i=false:=by
    cases hx:bit (fx ops.toList) e i
    · rfl
    · exact absurd (dK ops e i hx) hb
   unfold sC at hp
   rw [h1,h2,hq,n1,n2]at hp
   simp only [Bool.not_true,Bool.false_or,Option.isNone_some,Bool.and_false,Bool.and_eq_true,Bool.or_false,Bool.not_eq_true']at hp
   exact j3 fp (by have:=hp.2;simpa using this)
 · have hf1 := List.all_eq_true.1 hfl f hf
   unfold KH at hf1
   split at hf1
   · rename_i o bf hof hbf
     split at hf1
     · rename_i t d hop hg hd
       have hflt:f<ops.size:=(Array.getElem?_eq_some_iff.1 hof).1
       obtain⟨o',ho',htf,hxf,_,_⟩:=aV hT hflt
       obtain rfl:o=o':=by rw [hof]at ho';exact Option.some.inj ho'
       obtain⟨hkr,hfr⟩:=key f (by omega)
       obtain⟨bf',hbf',k1,k2,k3⟩:=at_ f hflt
       obtain rfl:bf=bf':=by rw [hbf]at hbf';exact Option.some.inj hbf'
       obtain⟨zs,_,hp,_⟩:=gD hop hg hxf
       have hn:(ms f).n∈bf.ws:=by
        refine Classical.byContradiction fun hn=>?_
        have e1:=k3 _ hn
        obtain⟨_,_,e2,_⟩:=Mem.bD hp
        rw [e2,hfr _ (Nat.le_refl _)]at e1
        cases e1
       have look:∀ i oi,ops[i]? = some oi→i≠f→(d∈oi.looksAt ops∨(ds i).fp=some (ms f).n)→∀ e,e<f→(ds e).eff=true→i6 ops i e:=fun i oi hoi hif hor e hef heff=>by
        have hi:i<ops.size:=(Array.getElem?_eq_some_iff.1 hoi).1
        obtain⟨bi,hbi,q1,q2,q3⟩:=at_ i hi
        obtain⟨be,hbe,r1,r2,r3⟩:=at_ e (by omega)
        have h1:=List.all_eq_true.1 hf1 i (List.mem_range.2 hi)
        have hq:(i == f)=false:=by simpa using hif
        rw [hoi,hbi,hq]at h1
        simp only [Bool.false_or,Bool.or_eq_true,Bool.not_eq_true']at h1
        have h2:((List.range f).all fun e=>match ab[e]? with | .none=>true|some de => !de.eff || bit (fx ops.toList) i e)=true:=by
         rcases h1 with h1|h1
         · exfalso
           simp only [Bool.or_eq_false_iff]at h1
           rcases hor with hor|hor
           · have:(oi.looksAt ops).contains d=true:=by simpa using hor
             rw [this]at h1;cases h1.1
           · rw [q2]at hor
             have:=h1.2
             rw [hor]at this
             simp only at this
             rw [List.contains_iff_mem.2 hn]at this
             cases this
         · exact h1
        have h3:=List.all_eq_true.1 h2 e (List.mem_range.2 hef)
        rw [hbe]at h3
        rw [r1]at heff
        simp only [heff,Bool.not_true,Bool.false_or]at h3
        exact dK ops i e h3
       refine⟨d,t,fun i oi hoi hif hd=>look i oi hoi hif (.inl hd),fun i hi hif hfp=>look i ops[i] (by simp [hi]) hif (.inr hfp),fun j hj hlv=>?_,hflt,o,hof,hop,hg,hd⟩
       obtain⟨_,_,k⟩:=hkr hb
       rcases k j hj hlv with k|⟨k,ke⟩
       · exact .inl k
       · exact .inr ⟨k,by first|(rw [ke];exact hlv)|(rw [←ke];exact hlv)|simp [k,ke,hlv]⟩
     · cases hf1
   · cases hf1
theorem WX.K_ (hO:aN P O) (hP:P.follows .mixedOrders=true) {nI id:Nat} {fs:List Nat} {al al':bn} {hs hs':ak} {bs:List Ab} {K:cR}(hst:bK ops nt (fx ops.toList)=true) (h:kb O P ops nt ops.toList al hs bs al' hs') (hdy:s9 ops (fx ops.toList) bs fs=true) (hno:fB ops.toList bs=true)
 (hk:K .normal al' hs'):WX P nt nI (.code (.region id ops true)) al hs K:=by
 intro βI mI wI hn m hm β w a Q hr hw hq
 obtain⟨r,hrr⟩:=k_ (rg al) nt hr.small hr.out
 obtain⟨tr,r',m',h1,h2,h3,h4⟩:=jZ hr.small h hm hrr
 obtain⟨rs,ms,ds,hT,t1,t2,t3,t4⟩:=iH h1
 have hd:=Au hO hT (by rw [t2];exact hm.fresh) (by rw [t2];exact hm.bnd) hno h4 hdy
 have e:(r.get .undef)=rg al:=funext hrr
 have e':(r'.get .undef)=rg al':=funext h2
 have hsz:ops.toList.length=ops.size:=by simp
 rw [hsz]at t3 t4
 refine AZ hO hP (iN hst) hT hd t1 t2 (by unfold jz;rw [e];exact hr) hw.rel ?_
 rw [t3,t4]
 intro a' β' w' k1 k2 k3
 unfold jz at k1
 rw [e']at k1
 exact hq .normal al' hs' m' hk h3 a' β' w' k1 k2 (hw.trans k3)
theorem WX.Lc (fs:List Nat) {K:cR} {al:bn} {hs:ak} {nI id:Nat}(hP:P.follows .mixedOrders=true) (hst:bK ops nt (fx ops.toList)=true) (h:SK P ops nt [] ops.toList al hs fun bs al' hs'=>(s9 ops (fx ops.toList) bs fs && fB ops.toList bs)=true∧K .normal al' hs'):WX P nt nI (.code (.region id ops true)) al hs K:=by
 obtain⟨Lf,h1,h2,h3,bs,al',hs',h4,h5,h6⟩:=h
 exact WX.K_ (kD fun e he=>(h2 e he).resolve_left (by simp)) hP hst h4 (by simp only [Bool.and_eq_true]at h5;exact h5.1) (by simp only [Bool.and_eq_true]at h5;exact h5.2) h6
theorem PG {nI id:Nat}(fs:List Nat) {al:bn} {hs:ak} {K:cR}(h:SK P ops nt [] ops.toList al hs fun bs al' hs'=>(s9 ops (fx ops.toList) bs fs && fB ops.toList bs)=true∧K .normal al' hs') (hP:P.follows .mixedOrders=true:=by kernel_rfl) (hst:bK ops nt (fx ops.toList)=true:=by kernel_rfl):WX P nt nI (.code (.region id ops true)) al hs K:=
 WX.Lc fs hP hst h
end
end Go.Xm
namespace Go.Proofs.YtagpkhindehcbaaGreat
open Go.Xm
variable [az]
theorem Gn {s:Sm}(hs:ka s) {inter:Bool} {qp:Int}(hq:1≤qp∧qp≤31) {m:Mb}(hm:nj s inter qp=m) {HS:ak}(hb:Nat.blt HS.length Mem.bound=true):aI.Sound Tryz.prog ⟨21,[.agg (qA s),.one (.bool inter),.one (.int .i64 qp)],HS,.agg (mC m),HS,[]⟩:=by
 subst hm
 exact aB (Jr hs inter hq) rfl (jX _) hb
abbrev NB:Sm:=⟨0,0,⟨fun _=>0,fun _=>0,false⟩,false,fun _=>0,0,false⟩
instance OM:Inhabited Sm:=⟨NB⟩
abbrev OA:Sm:=⟨3,0,⟨fun _=>0,fun _=>0,false⟩,false,fun _=>0,0,false⟩
theorem Cz:ka OA:=⟨⟨by decide,by decide⟩,⟨by decide,by decide⟩,⟨fun _ _=>by show -128≤(0:Int)∧(0:Int)<128;decide,fun _ _=>by show -128≤(0:Int)∧(0:Int)<128;decide⟩,fun _ _=>by show(0:Int)≤0∧(0:Int)<18446744073709551616;decide,by decide,by decide⟩
def jH (l:List Sm) (inter:Bool) (qp:Int):Nat→List Mb × Int
 | 0=>([],qp)
 | k+1=>((jH l inter qp k).1++[nj (l.getD k default) inter (jH l inter qp k).2],(nj (l.getD k default) inter (jH l inter qp k).2).qp)
def q_ (n:Nat) (room:Int):Nat:=min n (min 9 room.toNat)
def nc (l:List Sm) (inter:Bool) (qp room:Int):List Mb:=if l.length=0 then [nj OA inter qp]else(jH l inter qp (q_ l.length room)).1
structure E0 (inter:Bool) (qp:Int) (l:List Mb):Prop where
 mok:∀ k,k<l.length→jc (l.getD k default)
 chk:∀ k,k<l.length→dQ (l.getD k default) inter (if k=0 then qp else(l.getD (k-1) default).qp)=0
theorem lS (l:List Sm) (inter:Bool) (qp:Int):∀ k,(jH l inter qp k).1.length=k:=by
 intro k
 induction k with
 | zero=>rfl
 | succ k ih=>show((jH l inter qp k).1++[_]).length=k+1;rw [List.length_append,ih];rfl
theorem yP {l:List Sm}(hl:∀ j,j<l.length→ka (l.getD j default)) (inter:Bool) {qp:Int}(hq:1≤qp∧qp≤31):∀ k,k≤l.length→E0 inter qp (jH l inter qp k).1∧1≤(jH l inter qp k).2∧(jH l inter qp k).2≤31∧(jH l inter qp k).2=if k=0 then qp else((jH l inter qp k).1.getD (k-1) default).qp:=by
 intro k
 induction k with
 | zero=>exact fun _=>⟨⟨fun _ h=>absurd h (Nat.not_lt_zero _),fun _ h=>absurd h (Nat.not_lt_zero _)⟩,hq.1,hq.2,rfl⟩
 | succ k ih=>
   intro hk
   obtain⟨ho,h1,h2,h3⟩:=ih (by omega)
   have hlen:=lS l inter qp k
   obtain⟨x,hx⟩:∃ x,jH l inter qp k=x:=⟨_,rfl⟩
   rw [hx]at ho h1 h2 h3 hlen
   obtain⟨m,hm⟩:∃ m,nj (l.getD k default) inter x.2=m:=⟨_,rfl⟩
   have hok:=Gp (inter:=inter) (hl k (by omega)) ⟨h1,h2⟩
   rw [hm]at hok
   have e:jH l inter qp (k+1)=(x.1++[m],m.qp):=by rw [jH,hx,hm]
   have g1:∀ j,j<k→(x.1++[m]).getD j default=x.1.getD j default:=fun j hj=>by
    rw [List.getD_eq_getElem?_getD,List.getD_eq_getElem?_getD,List.getElem?_append_left (by omega)]
   have g2:(x.1++[m]).getD k default=m:=by
    rw [List.getD_eq_getElem?_getD,List.getElem?_append_right (by omega),hlen,Nat.sub_self]
    rfl
   rw [e]
   refine⟨⟨fun j hj=>?_,fun j hj=>?_⟩,hok.2.2.1,hok.2.2.2,?_⟩
   · have hj':j<k+1:=by rw [List.length_append,hlen]at hj;exact hj
     show jc ((x.1++[m]).getD j default)
     by_cases h:j<k
     · rw [g1 j h];exact ho.mok j (by omega)
     · obtain rfl:j=k:=by omega
       rw [g2];exact hok.1
   · have hj':j<k+1:=by rw [List.length_append,hlen]at hj;exact hj
     show dQ ((x.1++[m]).getD j default) inter (if j=0 then qp else((x.1++[m]).getD (j-1) default).qp)=0
     by_cases h:j<k
     · rw [g1 j h]
       have:=ho.chk j (by omega)
       by_cases h0:j=0
       · rw [if_pos h0]at this ⊢;exact this
       · rw [if_neg h0]at this ⊢
         rw [g1 (j-1) (by omega)];exact this
     · obtain rfl:j=k:=by omega
       rw [g2]
       have h3':(if j=0 then qp else((x.1++[m]).getD (j-1) default).qp)=x.2:=by
        rw [h3]
        by_cases h0:j=0
        · rw [if_pos h0,if_pos h0]
        · rw [if_neg h0,if_neg h0,g1 (j-1) (by omega)]
       rw [h3'];exact hok.2.1
   · rw [if_neg (by omega)]
     show m.qp=((x.1++[m]).getD (k+1-1) default).qp
     rw [Nat.add_sub_cancel,g2]
theorem Gq {l:List Sm}(hl:∀ j,j<l.length→ka (l.getD j default)) (inter:Bool) {qp:Int}(hq:1≤qp∧qp≤31) {room:Int}(hr:1≤room):E0 inter qp (nc l inter qp room)∧1≤(nc l inter qp room).length∧(nc l inter qp room).length≤9∧(((nc l inter qp room).length:Nat):Int)≤room:=by
 unfold nc
 by_cases h0:l.length=0
 · rw [if_pos h0]
   have hok:=Gp (inter:=inter) Cz hq
   refine⟨⟨fun k hk=>?_,fun k hk=>?_⟩,Nat.le_refl 1,by show 1≤9;decide,hr⟩
   · have:k=0:=by simp at hk;exact hk
     subst this;exact hok.1
   · have:k=0:=by simp at hk;exact hk
     subst this;rw [if_pos rfl];exact hok.2.1
 · rw [if_neg h0]
   have:=yP hl inter hq (q_ l.length room) (Nat.min_le_left _ _)
   refine⟨this.1,?_,?_,?_⟩
   · rw [lS];unfold q_;omega
   · rw [lS];unfold q_;omega
   · rw [lS];unfold q_;omega
def gi (h:Hd) (p:Ph) (f:Int) (c:XC):List XC:=iz h++(jh p++[.int .u8 f,c])
theorem oM (h:Hd) (p:Ph) (f:Int) (c:XC):(gi h p f c).length=137:=by simp [gi,bM,jh]
theorem Hr (h:Hd) (p:Ph) (f:Int) (c:XC):((gi h p f c).drop 0).take 131=iz h:=by
 unfold gi
 rw [List.drop_zero,List.take_append_of_le_length (by rw [bM];exact Nat.le_refl _),List.take_of_length_le (by rw [bM];exact Nat.le_refl _)]
theorem zj (h:Hd) (p:Ph) (f:Int) (c:XC) (j:Nat):(gi h p f c)[131+j]? = (jh p++[.int .u8 f,c])[j]?:=by
 unfold gi
 rw [List.getElem?_append_right (by rw [bM];omega),bM,Nat.add_sub_cancel_left]
theorem Hs (h:Hd) (p:Ph) (f:Int) (c:XC):((gi h p f c).drop 131).take 4=jh p:=by
 unfold gi
 rw [List.drop_append_of_le_length (by rw [bM];exact Nat.le_refl _),List.drop_of_length_le (by rw [bM];exact Nat.le_refl _)]
 rfl
theorem J9 (h:Hd) (p:Ph) (f:Int) (c:XC):(gi h p f c)[135]? = some (.int .u8 f):=zj h p f c 4
theorem J8 (h:Hd) (p:Ph) (f:Int) (c:XC):(gi h p f c)[136]? = some c:=zj h p f c 5
end Go.Proofs.YtagpkhindehcbaaGreat
namespace Go.Proofs.YtagpkhindehcbaaGreat
open Go.Xm
variable [az]
theorem BD:bC Tryz.prog 28 (jh ⟨0,false,false,0⟩):=by
 show bC Tryz.prog 28 [.int .i64 0,.bool false,.bool false,.int .i64 0]
 infer_instance
theorem FW (g:Hd) (z:Int):(iz g).set 0 (.int .i64 z)=iz {g with cols:=z}:=rfl
def e_ (h:Hd) (f:Int):Int:=f%((four h).cols*(four h).rows)
def jo (h:Hd) (p:Ph) (f:Int) (l:List Sm):List Mb:=nc l (pD p).inter (pD p).qp ((four h).cols*(four h).rows-e_ h f)
theorem BE:bC Tryz.prog 81 (qA NB):=by
 show bC Tryz.prog 81 [.int .u8 0,.int .u8 0,.int .i8 0,.int .i8 0,.int .i8 0,.int .i8 0,.int .i8 0,.int .i8 0,.int .i8 0,.int .i8 0,.bool false,.bool false,.int .u64 0,.int .u64 0,.int .u64 0,.int .u64 0,.int .u64 0,.int .u64 0,.int .u32 0,.bool false]
 infer_instance
theorem qj (G:Hd) (P:Ph) (F:Int) (n k:Nat) (cap:sL) {m:Nat}(hk:k<m):(XV.tup [.agg (iz G),.agg (jh P),.one (.int .i64 F),.one (.slice k 0 n cap)]).cc m:=fun x hx=>by
 simp only [List.mem_cons,List.not_mem_nil,or_false]at hx
 rcases hx with rfl|rfl|rfl|rfl
 · exact X1.bV (x := .agg (iz G)) (iP G) m
 · exact X1.bV (x := .agg (jh P)) rfl m
 · trivial
 · exact hk
theorem oC (G:Hd) (P:Ph) (F:Int) (n k:Nat) (cap:sL) (τ : Nat→Nat):(XV.tup [.agg (iz G),.agg (jh P),.one (.int .i64 F),.one (.slice k 0 n cap)]).au τ = .tup [.agg (iz G),.agg (jh P),.one (.int .i64 F),.one (.slice (τ k) 0 n cap)]:=by
 have h:=(Jc G).au τ
 have e1:(X1.agg (iz G)).au τ = .agg (iz G):=X1.dZ (x := .agg (iz G)) (iP G) τ
 simp only [XV.au,List.map_cons,List.map_nil,e1]
 rfl
def Fl (n:Nat):sL:=if n=0 then .exact 1 else .toEnd 391
def DE (n:Nat):Bool:=if n=0 then false else true
theorem Gr {h:Hd} {p:Ph}(hh:rK h) (hp:o5 p) {f:Int}(hf:0≤f∧f≤255) (l:List Sm) (hl:∀ j,j<l.length→ka (l.getD j default)) (ob:aj) (ho:wo ob qA l) (c:XC) (hc:ed c 0 0 l.length) (hn:l.length≤9223372036854775807) :
 bt Tryz.prog 9 [.agg (gi h p f c)] [ob] (.tup [.agg (iz (four h)),.agg (jh (pD p)),.one (.int .i64 (e_ h f)),.one (.slice 1 0 (jo h p f l).length (Fl l.length))]) [ob,.cells (fl mC (jo h p f l)) 53 (DE l.length) false]:=by
 have hfo:=ho.flat
 obtain⟨hgo,g1,g2,g3,g4⟩:=B5 h
 have hcr:1≤(four h).cols*(four h).rows∧(four h).cols*(four h).rows≤64:=kh hgo.dims
 obtain⟨P,hP⟩:∃ P,pD p=P:=⟨_,rfl⟩
 have hpq:=(BZ hp).qp
 obtain⟨F,hF⟩:∃ F,e_ h f=F:=⟨_,rfl⟩
 have hF2:f%((four h).cols*(four h).rows)=F:=hF
 have hFr:0≤F∧F<(four h).cols*(four h).rows:=by
  rw [←hF2]
  exact⟨Int.emod_nonneg _ (by omega),Int.emod_lt_of_pos _ (by omega)⟩
 have hall:jo h p f l=nc l P.inter P.qp ((four h).cols*(four h).rows-F):=by unfold jo;rw [hP,hF]
 obtain⟨G,hG⟩:∃ G,four h=G:=⟨_,rfl⟩
 have hset:(iz {qc h with cols:=1+(qc h).cols%2^2}).set 1 (.int .i64 (1+(qc h).rows%2^2))=iz G:=by rw [←hG];rfl
 rw [hP]at hpq
 rw [hG]at hgo g1 g2 g3 g4 hcr hF2 hFr hall
 rw [hG,hP,hF,hall]
 have hlen:131=(iz G).length:=(bM _).symm
 obtain⟨r,hr⟩:∃ r,G.cols*G.rows-F=r:=⟨_,rfl⟩
 have hr1:1≤r∧r≤64:=by omega
 refine cO Tryz.func9 ?_
 repeat' (first
  |(refine qz ?_;first
   |refine p7 (zs:=iz ⟨0,0,false,fun _=>0,fun _=>0⟩) (hz:=xR) ?_
   |refine p7 (zs:=jh ⟨0,false,false,0⟩) (hz:=BD) ?_
   |refine rS (cs:=iz h) ?_ (hle:=by rw [oM];decide) (hc:=Hr h p f c)
   |refine rS (cs:=jh p) ?_ (hle:=by rw [oM];decide) (hc:=Hs h p f c)
   |refine cl ?_ (hi:=by exact FR hh rfl rfl)
   |refine cl ?_ (hi:=by exact FT hp hP rfl)
   |refine i9 (cs:=iz (qc h)) ?_ (hs1:=by rw [bM]) (hs2:=by rw [bM])
   |refine i9 (cs:=jh P) ?_
   |refine an 2 ?_
   |refine st ?_ (hle:=by rw [bM];omega) (hv:=hset)
   |refine st (c := .int .i64 (1+(qc h).cols%2^2)) ?_ (hle:=by rw [bM];omega) (hv:=FW _ _)
   |refine ld (c := .int .u8 f) ?_ (hc:=J9 h p f c)
   |refine ld (c:=c) ?_ (hc:=J8 h p f c)
   |refine ld (c := .int .i64 G.cols) ?_
   |refine ld (c := .int .i64 G.rows) ?_)
  |refine PG (id:=1) [6,7] ?_|refine zz ?_|refine zx (fun _=>?_) (fun _=>?_)|fail)
 refine WX.dv rfl ?_
 obtain⟨N,hN⟩:∃ N,q_ l.length r=N:=⟨_,rfl⟩
 have hN2:min l.length (min 9 r.toNat)=N:=hN
 refine WX.dp (σ:=Nat × List Mb × Int) (fun t=>[(2,.one (.ptr 1 0)),(3,.one (.ptr 2 0)),(6,.one (.ptr 3 0)),(7,.one (.ptr 4 0)),(8,.one (.int .i64 F)),(42,.one c),(43,.one (.int .i64 (l.length:Nat))),(9,iK 5 t.2.1.length 391),(10,.one (.int .i64 t.2.2)),(44,.one (.int .i64 (t.1:Nat)))]) (fun t=>[ob,.cells (iz ⟨0,0,false,fun _=>0,fun _=>0⟩) 26 false false,.cells (jh ⟨0,false,false,0⟩) 28 false false,.cells (iz G) 26 false false,.cells (jh P) 28 false false,cK 53 (fl mC t.2.1)]) (fun t=>t.1≤N∧jH l P.inter P.qp t.1=t.2) (fun t=>N-t.1) (0,[],P.qp) ⟨Nat.zero_le _,rfl⟩ (fun s _=>kS) (bm [0,2,3,4,5,6] (reg:=by(repeat' (first|exact af.nil|refine af.flat (by rw [←hF2];rfl) ?_|refine af.flat rfl ?_|refine af.cons rfl ?_|refine af.sl rfl (by assumption) rfl ?_|refine af.du rfl rfl (by first|rfl|omega|(simp;done)|(simp;omega)) ?_));first|done|fail)) ?_
 intro t ⟨ht,hrun⟩ ih
 have htl:=lS l P.inter P.qp t.1
 have hto:=yP hl P.inter hpq t.1 (by omega)
 rw [hrun]at htl hto
 obtain⟨-,hq1,hq2,-⟩:=hto
 by_cases hlt:t.1<N
 · have hmk:=hl t.1 (by omega)
   obtain⟨el,hel⟩:∃ el,l.getD t.1 default=el:=⟨_,rfl⟩
   have hel':l.getD (t.1:Int).toNat default=el:=hel
   rw [hel]at hmk
   obtain⟨m,hm⟩:∃ m,nj el P.inter t.2.2=m:=⟨_,rfl⟩
   have hnx:jH l P.inter P.qp (t.1+1)=(t.2.1++[m],m.qp):=by rw [jH,hrun,hel,hm]
   repeat' (first
    |(refine qz ?_;first
     |refine p7 (zs:=qA NB) (hz:=BE) ?_
     |refine p7 (zs:=mC kQ) (hz:=jy) ?_
     |refine pI (enc:=qA) ?_
     |refine i9 (cs:=qA el) ?_ (hy:=by rw [←hel'];rfl)
     |refine ld (c := .int .i64 G.cols) ?_
     |refine ld (c := .int .i64 G.rows) ?_
     |refine ld (c := .int .i64 m.qp) ?_
     |refine cl ?_ (hi:=by exact Gn hmk ⟨hq1,hq2⟩ hm rfl)
     |refine i9 (cs:=mC m) ?_ (hs1:=by rw [aF]) (hs2:=by rw [aF])
     |refine fy ?_ (hle:=by rw [aF])
     |refine qU (enc:=mC) (a:=m) ?_
     |refine uL (enc:=mC) ?_)
    |refine zz ?_|refine zx (fun _=>?_) (fun _=>?_)|fail)
   exact ih (t.1+1,t.2.1++[m],m.qp) _ _ _ (bm [0,1,2,3,4,9] (obj:=by(repeat' (first|exact ae.nil|refine ae.flat (by rw [List.length_append];rfl) ?_|refine ae.flat rfl ?_|refine ae.cons rfl ?_|refine ae.dead rfl ?_|refine ae.cons (by simp only [aj.au,List.map_cons,List.map_nil,XC.au,aq];exact rfl) ?_));first|done|fail) (reg:=by(repeat' (first|exact af.nil|refine af.flat (by rw [List.length_append];rfl) ?_|refine af.flat rfl ?_|refine af.cons rfl ?_|refine af.sl rfl (by assumption) rfl ?_|refine af.du rfl rfl (by first|rfl|omega|(simp;done)|(simp;omega)) ?_));first|done|fail)) ⟨by show t.1+1≤N;omega,hnx⟩ (by show N-(t.1+1)<N-t.1;omega)
 · have e0:t.1=N:=by omega
   by_cases h0:l.length=0
   · have eN:N=0:=by omega
     rw [e0,eN]at hrun
     have et:t.2.1 = []:=by rw [←hrun];rfl
     have eq:t.2.2=P.qp:=by rw [←hrun];rfl
     obtain⟨m,hm⟩:∃ m,nj OA P.inter P.qp=m:=⟨_,rfl⟩
     have eL:nc l P.inter P.qp r = [m]:=by unfold nc;rw [if_pos h0,hm]
     have ec:Fl l.length = .exact 1:=if_pos h0
     have eo:DE l.length=false:=if_pos h0
     rw [hr,eL,ec,eo,et,eq]
     repeat' (first
      |(refine qz ?_;first
       |refine bS (zs:=qA NB) (hz:=BE) ?_
       |refine cl ?_ (hi:=by exact Gn Cz hpq hm rfl)
       |refine qU (enc:=mC) (a:=m) ?_
       |refine ld (c := .int .i64 G.cols) ?_
       |refine ld (c := .int .i64 G.rows) ?_
       |refine fy ?_ (hle:=by rw [bM])
       |refine i9 (cs:=iz G) ?_ (hs1:=by rw [bM]) (hs2:=by rw [bM])
       |refine i9 (cs:=jh P) ?_)
      |refine zz ?_|refine zx (fun _=>?_) (fun _=>?_)|fail)
     show aH _ _ _ _ _ _ _ _;refine kV [0,6] ?_ (hr:=gL.two rfl (.cell rfl rfl (cf hlen) (.cell rfl rfl (cf rfl) (.tmp rfl (.tmp rfl .nil))))) (hok:=qj G P F _ 1 _ (show 1<2 from Nat.lt_succ_self 1))
     rw [oC];rfl
   · have hne:t.2.1.length≠0:=by omega
     have hne2:fl mC t.2.1≠[]:=FV (fun e=>hne (by rw [e];rfl))
     have eL:nc l P.inter P.qp r=t.2.1:=by unfold nc;rw [if_neg h0,hN,←e0,hrun]
     have ec:Fl l.length = .toEnd 391:=if_neg h0
     have eo:DE l.length=true:=if_neg h0
     rw [hr,eL,ec,eo,js hne2,oL hne]
     by_cases h1:t.1<l.length
     · repeat' (first
        |(refine qz ?_;first
         |refine p7 (zs:=qA NB) (hz:=BE) ?_
         |refine pI (enc:=qA) ?_
         |refine i9 (cs:=qA (l.getD (t.1:Int).toNat default)) ?_
         |refine ld (c := .int .i64 G.cols) ?_
         |refine ld (c := .int .i64 G.rows) ?_
         |refine fy ?_ (hle:=by rw [bM])
         |refine i9 (cs:=iz G) ?_ (hs1:=by rw [bM]) (hs2:=by rw [bM])
         |refine i9 (cs:=jh P) ?_)
        |refine zz ?_|refine zx (fun _=>?_) (fun _=>?_)|fail)
       all_goals first|(exfalso;omega)|skip
       all_goals (show aH _ _ _ _ _ _ _ _;refine kV [0,5] ?_ (hr:=gL.two rfl (.cell rfl rfl (cf hlen) (.cell rfl rfl (cf rfl) (.tmp rfl (.tmp rfl .nil))))) (hok:=qj G P F _ 1 _ (show 1<2 from Nat.lt_succ_self 1)))
       all_goals (rw [oC];rfl)
     · repeat' (first
        |(refine qz ?_;first
         |refine ld (c := .int .i64 G.cols) ?_
         |refine ld (c := .int .i64 G.rows) ?_
         |refine fy ?_ (hle:=by rw [bM])
         |refine i9 (cs:=iz G) ?_ (hs1:=by rw [bM]) (hs2:=by rw [bM])
         |refine i9 (cs:=jh P) ?_)
        |refine zz ?_|refine zx (fun _=>?_) (fun _=>?_)|fail)
       show aH _ _ _ _ _ _ _ _;refine kV [0,5] ?_ (hr:=gL.two rfl (.cell rfl rfl (cf hlen) (.cell rfl rfl (cf rfl) (.tmp rfl (.tmp rfl .nil))))) (hok:=qj G P F _ 1 _ (show 1<2 from Nat.lt_succ_self 1))
       rw [oC];rfl
end Go.Proofs.YtagpkhindehcbaaGreat
namespace Go.Proofs.YtagpkhindehcbaaGreat
open Go.Xm
variable [az]
abbrev fU (K:Nat):ak:=[bR (K+1) (K+5) (K+9),ay (K+2) (K+3) (K+4) cM,aX cM,aZ cM,aY cM,ay (K+6) (K+7) (K+8) cZ,aX cZ,aZ cZ,aY cZ,ay (K+10) (K+11) (K+12) cP,aX cP,aZ cP,aY cP]
abbrev nS (K:Nat) (r:List Nat):List Nat:=K::(K+1)::(K+2)::(K+3)::(K+4)::(K+5)::(K+6)::(K+7)::(K+8)::(K+9)::(K+10)::(K+11)::(K+12)::r
theorem yR (K:Nat) (r:List Nat):∀ j,j<13→nth (nS K r) j=K+j:=fun j hj=>by
 match j,hj with
 | 0,_=>rfl
 | 1,_=>rfl
 | 2,_=>rfl
 | 3,_=>rfl
 | 4,_=>rfl
 | 5,_=>rfl
 | 6,_=>rfl
 | 7,_=>rfl
 | 8,_=>rfl
 | 9,_=>rfl
 | 10,_=>rfl
 | 11,_=>rfl
 | 12,_=>rfl
theorem B9 {HS:ak} {K:Nat}(hS:(HS.drop K).take 13=fU K) {τ : Nat→Nat}(h:∀ j,j<13 → τ j=K+j) {ls:List Nat} {l:ak}(hl:ae τ HS ls l):ae τ HS (nS K ls) (gM++l):=by
 have g:∀ j,j<13→HS[K+j]? = (fU K)[j]?:=fun j hj=>by rw [←hS,List.getElem?_take_of_lt hj,List.getElem?_drop]
 have g0:HS[K]? = some (bR (K+1) (K+5) (K+9)):=g 0 (by decide)
 have h1:=h 1 (by decide)
 have h2:=h 2 (by decide)
 have h3:=h 3 (by decide)
 have h4:=h 4 (by decide)
 have h5:=h 5 (by decide)
 have h6:=h 6 (by decide)
 have h7:=h 7 (by decide)
 have h8:=h 8 (by decide)
 have h9:=h 9 (by decide)
 have h10:=h 10 (by decide)
 have h11:=h 11 (by decide)
 have h12:=h 12 (by decide)
 refine .cons ?_ (.cons ?_ (.flat (g 2 (by decide)) (.flat (g 3 (by decide)) (.flat (g 4 (by decide)) (.cons ?_ (.flat (g 6 (by decide)) (.flat (g 7 (by decide)) (.flat (g 8 (by decide)) (.cons ?_ (.flat (g 10 (by decide)) (.flat (g 11 (by decide)) (.flat (g 12 (by decide)) hl))))))))))))
 · rw [g0]
   simp only [aj.au,List.map_cons,List.map_nil,XC.au,h1,h5,h9]
 · rw [g 1 (by decide)]
   simp only [aj.au,List.map_cons,List.map_nil,XC.au,h2,h3,h4];rfl
 · rw [g 5 (by decide)]
   simp only [aj.au,List.map_cons,List.map_nil,XC.au,h6,h7,h8];rfl
 · rw [g 9 (by decide)]
   simp only [aj.au,List.map_cons,List.map_nil,XC.au,h10,h11,h12];rfl
theorem wU {K:Nat} {τ : Nat→Nat}(h:∀ j,j<13 → τ j=K+j) {l l':ak}(hl:dO τ l l'):dO τ (gM++l) (fU K++l'):=by
 have h1:=h 1 (by decide)
 have h2:=h 2 (by decide)
 have h3:=h 3 (by decide)
 have h4:=h 4 (by decide)
 have h5:=h 5 (by decide)
 have h6:=h 6 (by decide)
 have h7:=h 7 (by decide)
 have h8:=h 8 (by decide)
 have h9:=h 9 (by decide)
 have h10:=h 10 (by decide)
 have h11:=h 11 (by decide)
 have h12:=h 12 (by decide)
 refine .cons ?_ (.cons ?_ (.flat (.flat (.flat (.cons ?_ (.flat (.flat (.flat (.cons ?_ (.flat (.flat (.flat hl))))))))))))
 · simp only [aj.au,List.map_cons,List.map_nil,XC.au,h1,h5,h9]
 · simp only [aj.au,List.map_cons,List.map_nil,XC.au,h2,h3,h4]
 · simp only [aj.au,List.map_cons,List.map_nil,XC.au,h6,h7,h8]
 · simp only [aj.au,List.map_cons,List.map_nil,XC.au,h10,h11,h12]
theorem F5 {HS:ak} {K i:Nat}(hS:(HS.drop K).take 13=fU K) {ob:aj}(hi:HS[i]? = some ob) {os:ak}:bN HS (nS K [i]) (fU K++ob::os)=HS++os:=by
 have g:∀ j,j<13→HS[K+j]? = (fU K)[j]?:=fun j hj=>by rw [←hS,List.getElem?_take_of_lt hj,List.getElem?_drop]
 have g0:HS[K]? = some (bR (K+1) (K+5) (K+9)):=g 0 (by decide)
 simp only [bN,fU,List.cons_append,List.nil_append]
 rw [aG g0,aG (g 1 (by decide)),aG (g 2 (by decide)),aG (g 3 (by decide)),aG (g 4 (by decide)),aG (g 5 (by decide)),aG (g 6 (by decide)),aG (g 7 (by decide)),aG (g 8 (by decide)),aG (g 9 (by decide)),aG (g 10 (by decide)),aG (g 11 (by decide)),aG (g 12 (by decide)),aG hi]
theorem xb:∀(h1 l l':ak),eg h1 h1=true→eg l l'=true→eg (h1++l) (h1++l')=true
 | [],l,l',_,h=>h
 | o::h1,l,l',h,h2=>by
   simp only [eg,Bool.and_eq_true,List.cons_append]at h ⊢
   exact⟨h.1,xb h1 l l' h.2 h2⟩
theorem tn {f:FuncId} {args0 args:List XV} {v v':XV} {news news':ak} {ob:aj} [dc ob] (n:Nat) (hn:news.length=n) (hc:bt Tryz.prog f args0 (gM++[ob]) v (gM++ob::news)) {HS:ak} {K i:Nat}(hS:(HS.drop K).take 13=fU K) (hi:HS[i]? = some ob) (hd:(nS K [i]).Nodup) (ha:eT 14 args0) (e1:dE (nth (nS K [i])) args0 args) (hv:v.cc (14+n)) (e2:v.au (nth (nS K [i]++List.range' HS.length n))=v')
 (hnk:bE (14+n) news) (hr:dO (nth (nS K [i]++List.range' HS.length n)) news news') (hro:eg [] news=true) {HS':ak}(hh:HS++news'=HS') (hbd:Nat.blt HS'.length Mem.bound=true):aI.Sound Tryz.prog ⟨f,args,HS,v',HS',nS K [i]⟩:=by
 have e0:∀ j,j<13→nth (nS K [i]) j=K+j:=yR K [i]
 have e0':∀ j,j<13→nth (nS K [i]++List.range' HS.length n) j=K+j:=yR K (i::List.range' HS.length n)
 have hln:(gM++ob::news).length=14+n:=by rw [List.length_append];show 13+(news.length+1)=_;omega
 refine b8 (os:=fU K++ob::news') (nS K [i]) (nS K [i]) n hc hd (B9 hS e0 (.flat hi .nil)) (px (l:=[ob]) (Nat.le_succ 13) (.flat .nil)) (by rw [hln];exact px (l:=ob::news) (by omega) (.flat hnk)) (by rw [hln];rfl) ha e1 (by rw [hln];exact hv) e2 (wU e0' (.flat hr)) ?_ rfl (by rw [F5 hS hi];exact hh) hbd (.inl rfl)
 refine xb _ _ _ rfl ?_
 simp only [eg,Bool.and_eq_true]
 exact⟨by cases ob.live <;> simp,hro⟩
theorem Gw {HS:ak} {N:Nat}(hN:HS.length=N) {HS':ak}(hh:HS++fU N=HS') (hbd:Nat.blt HS'.length Mem.bound=true) :
 aI.Sound Tryz.prog ⟨10,[],HS,.one (.ptr N 0),HS',[]⟩:=by
 subst hN
 have e:List.range' HS.length 13=nS HS.length []:=rfl
 have h:=wU (K:=HS.length) (τ:=nth (nS HS.length [])) (yR _ []) (l:=[]) (l':=[]) .nil
 refine b8 (os:=fU HS.length) [] [] 13 Ju (by simp) .nil .nil (px (l:=[]) (Nat.le_refl _) .nil) rfl .nil .nil (by show 0<13;omega) rfl (by rw [List.nil_append,e];exact h) rfl rfl hh hbd (.inl rfl)
noncomputable def w7 (h:Hd) (p:Ph) (l:List Mb) (first:Int):Int ⊕ (List Int × List Int):=
 match fk l first (lW h p) l.length with
 | .inl e => .inl e
 | .inr x=>if 30000<(ie (wr (x.B++[true])) (wr (x.B++[true])).length).1.length∨30000<(ie (wr (x.w++[true])) (wr (x.w++[true])).length).1.length then .inl 6 else .inr ((ie (wr (x.B++[true])) (wr (x.B++[true])).length).1,(ie (wr (x.w++[true])) (wr (x.w++[true])).length).1)
theorem JE {h:Hd} {p:Ph} {l:List Mb} {first:Int}(hT:fZ h p l first) {cap:sL} {ob:aj}(ho:wo ob mC l) {e:Int}(hp:w7 h p l first = .inl e) {n:Nat}(hln:l.length=n) {HS:ak} {K i:Nat}(hS:(HS.drop K).take 13=fU K) (hi:HS[i]? = some ob) (hd:(nS K [i]).Nodup) (hbd:Nat.blt HS.length Mem.bound=true) :
 aI.Sound Tryz.prog ⟨11,[.one (.ptr K 0),.agg (iz h),.agg (jh p),.one (.int .i64 first),.one (.slice i 0 n cap)],HS,.tup [.one .nils,.one .nils,.one (.int .i64 e)],HS,nS K [i]⟩:=by
 subst hln
 have hfo:=ho.flat
 have hc:bt Tryz.prog 11 [.one (.ptr 0 0),.agg (iz h),.agg (jh p),.one (.int .i64 first),.one (.slice 13 0 l.length cap)] (gM++[ob]) (.tup [.one .nils,.one .nils,.one (.int .i64 e)]) (gM++ob::[]):=by
  unfold w7 at hp
  split at hp
  · rename_i e' he
    cases hp
    exact Fw hT ho he
  · rename_i x hx
    split at hp
    · rename_i hl
      cases hp
      exact Fu hT ho hx rfl rfl hl
    · cases hp
 exact tn 0 rfl hc hS hi hd (.cons (by show 0<14;omega) (.flat (.flat (.flat (.cons (by show 13<14;omega) .nil))))) (.cons rfl (.flat (.flat (.flat (.cons rfl .nil))))) (XV.gX rfl _) rfl .nil .nil rfl (List.append_nil HS) hbd
theorem JF {h:Hd} {p:Ph} {l:List Mb} {first:Int}(hT:fZ h p l first) {cap:sL} {ob:aj}(ho:wo ob mC l) {a b:List Int}(hp:w7 h p l first = .inr (a,b)) {n:Nat}(hln:l.length=n) {HS:ak} {K i:Nat}(hS:(HS.drop K).take 13=fU K) (hi:HS[i]? = some ob) (hd:(nS K [i]).Nodup) {N:Nat}(hN:HS.length=N) {HS':ak}(hh:HS++[cK 5 (il .u8 a),cK 5 (il .u8 b)]=HS') (hbd:Nat.blt HS'.length Mem.bound=true) :
 aI.Sound Tryz.prog ⟨11,[.one (.ptr K 0),.agg (iz h),.agg (jh p),.one (.int .i64 first),.one (.slice i 0 n cap)],HS,.tup [.one (kC N a.length 1),.one (kC (N+1) b.length 1),.one (.int .i64 0)],HS',nS K [i]⟩:=by
 subst hln hN
 have hfo:=ho.flat
 have hc:bt Tryz.prog 11 [.one (.ptr 0 0),.agg (iz h),.agg (jh p),.one (.int .i64 first),.one (.slice 13 0 l.length cap)] (gM++[ob]) (.tup [.one (kC 14 a.length 1),.one (kC 15 b.length 1),.one (.int .i64 0)]) (gM++ob::[cK 5 (il .u8 a),cK 5 (il .u8 b)]):=by
  unfold w7 at hp
  split at hp
  · cases hp
  · rename_i x hx
    split at hp
    · cases hp
    · rename_i hl
      cases hp
      exact IQ hT ho hx rfl rfl (by omega) (by omega)
 refine tn 2 rfl hc hS hi hd (.cons (by show 0<14;omega) (.flat (.flat (.flat (.cons (by show 13<14;omega) .nil))))) (.cons rfl (.flat (.flat (.flat (.cons rfl .nil))))) ?_ ?_ (.flat (.flat .nil)) (.flat (.flat .nil)) ?_ hh hbd
 · intro x hx
   simp only [List.mem_cons,List.not_mem_nil,or_false]at hx
   rcases hx with rfl|rfl|rfl
   · exact bp (by omega)
   · exact bp (by omega)
   · trivial
 · simp only [XV.au,List.map_cons,List.map_nil,X1.au,aq];rfl
 · cases il .u8 a <;> cases il .u8 b <;> rfl
theorem HE {h:Hd} {p:Ph} {a q:List Int} {B:List Bool} {first:Int} {n:Nat}(hT:wq h p a q B first n) {x:TA}(hx:n8 B first n ⟨jJ h p,(0,false),[]⟩=x) (he:FB B x.r=0) {z:Int}(hz:z=(n:Nat)) {k:Nat}(hk:a.length=k) {HS:ak} {K i:Nat}(hS:(HS.drop K).take 13=fU K) (hi:HS[i]? = some (cK 5 (il .u8 a))) (hd:(nS K [i]).Nodup) {N:Nat}(hN:HS.length=N) {HS':ak}(hh:HS++[cK 56 (fl gz x.out)]=HS') (hbd:Nat.blt HS'.length Mem.bound=true) :
 aI.Sound Tryz.prog ⟨12,[.one (.ptr K 0),.agg (iz h),.agg (jh p),.one (.int .i64 first),.one (.int .i64 z),.one (kC i k 1)],HS,.tup [.one (kC N x.out.length 397),.one (.int .i64 0)],HS',nS K [i]⟩:=by
 subst hz hk hN
 refine tn 1 rfl (HD hT hx he) hS hi hd (.cons (by show 0<14;omega) (.flat (.flat (.flat (.flat (.cons (gO (by omega)) .nil)))))) (.cons rfl (.flat (.flat (.flat (.flat (.cons (d_ ..) .nil)))))) (Gx (bp (by omega)) trivial) ?_ (.flat .nil) (.flat .nil) ?_ hh hbd
 · simp only [XV.au,List.map_cons,List.map_nil,X1.au,aq];rfl
 · cases fl gz x.out <;> rfl
theorem D4 (h:Hd) (p:Ph) (f:Int) (c:XC) (τ : Nat→Nat):(gi h p f c).map (·.au τ)=gi h p f (c.au τ):=by
 unfold gi
 rw [List.map_append]
 have e1:(iz h).map (·.au τ)=iz h:=eV (iP h) τ
 rw [e1]
 rfl
theorem zi (h:Hd) (p:Ph) (f:Int) {c:XC} {n:Nat}(hc:c.ok n):∀ x∈gi h p f c,x.ok n:=fun x hx=>by
 unfold gi at hx
 rcases List.mem_append.1 hx with hx|hx
 · exact XC.bV (List.all_eq_true.1 (iP h) x hx) n
 · simp only [jh,List.cons_append,List.nil_append,List.mem_cons,List.not_mem_nil,or_false]at hx
   rcases hx with rfl|rfl|rfl|rfl|rfl|rfl
   · trivial
   · trivial
   · trivial
   · trivial
   · trivial
   · exact hc
theorem Cb {h:Hd} {p:Ph}(hh1:rK h) (hp:o5 p) {f:Int}(hf:0≤f∧f≤255) {l:List Sm}(hl:∀ j,j<l.length→ka (l.getD j default)) {ob:aj}(ho:wo ob qA l) {c:XC} {i:Nat}(hc:ed c i 0 l.length) (hn:l.length≤9223372036854775807) {G:Hd}(hG:four h=G) {P:Ph}(hP:pD p=P) {F:Int}(hF:e_ h f=F) {L:List Mb}(hL:jo h p f l=L) {cap:sL}(hcap:Fl l.length=cap) {opn:Bool}(hopn:DE l.length=opn) {k:Nat}(hk:L.length=k)
 {HS:ak}(hi:HS[i]? = some ob) {N:Nat}(hN:HS.length=N) {HS':ak}(hh:HS++[.cells (fl mC L) 53 opn false]=HS') (hbd:Nat.blt HS'.length Mem.bound=true) :
 aI.Sound Tryz.prog ⟨9,[.agg (gi h p f c)],HS,.tup [.agg (iz G),.agg (jh P),.one (.int .i64 F),.one (.slice N 0 k cap)],HS',[i]⟩:=by
 subst hk hopn hcap hL hF hP hG hN
 have hfo:=ho.flat
 obtain⟨c0,hc0,hcr⟩:=hc.ya 0 (nth [i]) rfl
 refine b8 (os:=[ob,.cells (fl mC (jo h p f l)) 53 (DE l.length) false]) [i] [i] 1 (Gr hh1 hp hf l hl ob ho c0 hc0 hn) (by simp) (.flat hi .nil) (.flat .nil) (.flat (.flat .nil)) rfl (.cons ?_ .nil) (.cons ?_ .nil) (qj _ _ _ _ 1 _ (show 1<2 by omega)) ?_ (.flat (.flat .nil)) ?_ rfl ?_ hbd (.inl rfl)
 · exact zi h p f (hc0.ok (by show 0<1;omega))
 · show XV.agg ((gi h p f c0).map (·.au (nth [i])))=_
   rw [D4,hcr]
 · rw [oC];rfl
 · simp only [eg,Bool.and_eq_true]
   exact⟨by cases ob.live <;> simp,by simp [aj.live,aj.own]⟩
 · simp only [bN];rw [aG hi];exact hh
end Go.Proofs.YtagpkhindehcbaaGreat
namespace Go.Xm
variable [az]
variable {P:Program} {ops:Array Oper} {nt nI:Nat} {al:bn} {hs:ak} {o:Oper} {l:List Oper} {L:List aI} {K:List Ab→bn→ak→Prop} {d:Nat}
theorem aJ.bytes {O:df}(hw:aw ops (rg al) o=some true) {s t:TypeId} {x:Operand}(ho:o.op = .convert s t x) {e:TypeId}(hs1:P.underlying s=some (.slice e)) (he:P.underlying e=some (.int .u8)) (hd:P.underlying t=some .string) {i off len:Nat} {cap:sL}(hx:ai (rg al) x = .one (.slice i off len cap)) {vs:List XC} {et:TypeId} {opn ro:Bool}(hi:hs[i]? = some (.cells vs et opn ro)) (hfit:off+len≤vs.length) {ns:List Int}(hb:rA ((vs.drop off).take len)=some ns) :
 aJ O P ops al hs o (.one (.str (pX ns))) hs ⟨false,some i,[]⟩:=by
 intro m hm
 refine⟨m,?_,hm,fun _ _=>rfl⟩
 unfold jS
 rw [hw]
 obtain⟨f,hf1,hf2⟩:∃ f,fG P (ai (rg al)) o.op=some (i,f)∧∀ vs' e' o' r',f (.cells vs' e' o' r')=if off+len≤vs'.length then(rA ((vs'.drop off).take len)).map fun ns=>XV.one (.str (pX ns))else .none:=by
  rw [ho]
  simp only [fG,hs1,hd,hx,he]
  exact⟨_,rfl,fun _ _ _ _=>rfl⟩
 refine ry (by rw [ho];simp only [bj,kH,hs1,hd,hx]) (by rw [ho];simp only [o4,hx]) hf1 ?_
 rw [hm.at hi,hf2,if_pos hfit,hb]
 rfl
end Go.Xm
namespace Go.Proofs.YtagpkhindehcbaaGreat
open Go.Xm
def qx:uI:=⟨8,[],.one (.bool true)⟩
theorem G8:((ot tH Tryz.prog 100000 60).call qx.f qx.args Mem.empty).map (·.1)=some qx.v:=by kernel_rfl
variable [az]
theorem C3:bt Tryz.prog 8 [] [] (.one (.bool true)) []:=kd (kn (r:=qx) (Nt (iC _) mixed G8 (by kernel_rfl)))
theorem x9 {HS:ak}(hb:Nat.blt HS.length Mem.bound=true):aI.Sound Tryz.prog ⟨8,[],HS,.one (.bool true),HS,[]⟩:=
 aB C3 rfl rfl hb
end Go.Proofs.YtagpkhindehcbaaGreat
