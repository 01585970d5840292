/-
  A part of the proof: Take1, Take2, TakeA.
-/
import Derived.Test.YtagpkhindehcbaaGreatKbW
set_option linter.unusedVariables false
set_option linter.unusedSectionVars false
set_option linter.unusedSimpArgs false
namespace Go.Xm
variable [aC]
variable {P:Program} {ops:Array Oper} {nt nI:Nat} {al:bm} {hs:aq} {o:Oper} {l:List Oper} {L:List aG} {K:List Ab→bm→aq→Prop} {d:Nat}
theorem cN {t t':TypeId} {a b:Operand} {k:IntKind} {x y:Int}(hk:∀ z,decide (x≠y)=z→SK P ops nt L l ((d,.one (.bool z))::al) hs fun bs=>K (quiet::bs)) (ho:o.op = .binOp .neq t a b t':=by exact rfl) (hw:aj ops (rg al) o=some true:=by exact rfl) (hd:o.dst=some d:=by exact rfl) (hlt:Nat.blt d nt=true:=by exact rfl) (ha:ag (rg al) a = .one (.int k x):=by exact rfl) (hb:ag (rg al) b = .one (.int k y):=by exact rfl):SK P ops nt L (o::l) al hs K:=
 vn ho hw hd hlt ha hb (show yu .neq x y=some (x≠y)from rfl) (fun h=>hk true (decide_eq_true h)) (fun h=>hk false (decide_eq_false h))
theorem WX.u7 (id:Nat) {σ : Type} {ops:Array Oper} {dr:Bool} {x b:Code} {K:cJ}(R : σ→bm) (H : σ→aq) (I : σ→Prop) (hok:∀ s,I s→wa nI (R s) (H s)) (h1:True→WX P nt nI (.code (.seq (.region id ops dr) x)) al hs fun e al1 hs1=>e = .normal∧∃ s τl,I s∧GoTo nI al1 hs1 (R s) (H s) τl)
 (h2:∀ s,I s→WX P nt nI (.code b) (R s) (H s) K):WX P nt nI (.code (.seq (.seq (.region id ops dr) x) b)) al hs K:=WX.meet R H I hok (h1 trivial) h2
end Go.Xm
namespace Go.Proofs.YtagpkhindehcbaaGreat
open Go.Xm
variable [aC]
theorem G1 (m:Mb) (h:Nat→Bool) {b0 b1 b2 b3 b4 b5:Bool}(e0:h 0=b0) (e1:h 1=b1) (e2:h 2=b2) (e3:h 3=b3) (e4:h 4=b4) (e5:h 5=b5):((((((fI m o3).set 391 (.bool b0)).set 392 (.bool b1)).set 393 (.bool b2)).set 394 (.bool b3)).set 395 (.bool b4)).set 396 (.bool b5)=fI m h:=by
 subst e0 e1 e2 e3 e4 e5
 rw [←Eb m h,nO m h (j:=0) (by decide),nO m h (j:=1) (by decide),nO m h (j:=2) (by decide),nO m h (j:=3) (by decide),nO m h (j:=4) (by decide),nO m h (j:=5) (by decide),G0]
theorem GP:∀ a:Fin 16,decide (tG .i64 (a.val:Int) (8/2^3)≠0)=decide ((a.val:Int)%2^1≠0):=by decide +kernel
theorem GO:∀ a:Fin 4,decide (tG .u64 (a.val:Int) (2/2^1)≠0)=decide ((a.val:Int)%2^1≠0):=by decide +kernel
theorem Ly {p c:Int}(h:0≤p∧p≤15):kd p c 3=decide (p%2^1≠0):=by
 have:=GP ⟨p.toNat,by omega⟩
 simp only [Int.toNat_of_nonneg h.1]at this
 exact this
theorem Lz {p c:Int}(h:0≤c∧c<2^2):kd p c 5=decide (c%2^1≠0):=by
 have:=GO ⟨c.toNat,by omega⟩
 simp only [Int.toNat_of_nonneg h.1]at this
 exact this
theorem Dj {C:Cd}(hC:tu C) {L:List Int} {B:List Bool}(h:du L B) {r:Nat × Bool} {q:Int × (Nat × Bool)}(hq:ki C B r=q) {HS:aq} {i k c a b t:Nat}(hi:HS[i]? = some (bD k L B r.1 r.2)) (hk:HS[k]? = some (aO L)) (hc:HS[c]? = some (ay a b t C)) (ha:HS[a]? = some (bg C)) (hb:HS[b]? = some (bj C)) (ht:HS[t]? = some (bh C)) (hd : [i,k,c,a,b,t].Nodup) {HS':aq}(hh:HS.set i (bD k L B q.2.1 q.2.2)=HS') (hbd:Nat.blt HS'.length Mem.bound=true) :
 aG.Sound Tryz.prog ⟨63,[.one (.ptr c 0),.one (.ptr i 0)],HS,.one (.int .i64 q.1),HS',[i]⟩:=by
 subst hq
 exact rS hC h r hi hk hc ha hb ht hd hh hbd
theorem Er {L:List Int} {B:List Bool}(h:du L B) {r:Nat × Bool} {n:Nat} {q:Int × (Nat × Bool)}(hq:bU B n r=q) {z:Int}(hz:z=(n:Nat)) (hn:n≤32) {HS:aq} {i k:Nat}(hi:HS[i]? = some (bD k L B r.1 r.2)) (hk:HS[k]? = some (aO L)) (hd:i≠k) {HS':aq}(hh:HS.set i (bD k L B q.2.1 q.2.2)=HS') (hbd:Nat.blt HS'.length Mem.bound=true) :
 aG.Sound Tryz.prog ⟨65,[.one (.ptr i 0),.one (.int .i64 z)],HS,.one (.int .u64 q.1),HS',[i]⟩:=by
 subst hq
 exact pB h r hz hn hi hk hd hh hbd
set_option maxRecDepth 10000 in
set_option maxHeartbeats 16000000 in
theorem xC {L : List Int} {B:List Bool}(hB:du L B) (S:bX) (r:Nat × Bool) (mb:Int) (hD:gG S.cols S.rows) (hT:cg S.M) (hmb:0≤mb∧mb<S.cols*S.rows) (hq : -1000000≤S.qp∧S.qp≤1000000) :
 bq Tryz.prog 34 [.one (.ptr 2 0),.one (.ptr 0 0),.one (.int .i64 mb)] [bD 1 L B r.1 r.2,aO L,dS (S),cc 4 8 12,ay 5 6 7 cM,bg cM,bj cM,bh cM,ay 9 10 11 cZ,bg cZ,bj cZ,bh cZ,ay 13 14 15 cP,bg cP,bj cP,bh cP,cH 17 (S).cols (S).rows,.map (bp (S).M),.cells [.int .i64 (S).cols,.int .i64 (S).rows,.map 19,.map 20,.map 21] 171 false false,.map (ah (S).A),.map (ah (S).B),.map (ah (S).C)] (.agg (fI (dh S B mb r).1.m (dh S B mb r).2)) [bD 1 L B (dh S B mb r).1.r.1 (dh S B mb r).1.r.2,aO L,dS ((dh S B mb r).1.S),cc 4 8 12,ay 5 6 7 cM,bg cM,bj cM,bh cM,ay 9 10 11 cZ,bg cZ,bj cZ,bh cZ,ay 13 14 15 cP,bg cP,bj cP,bh cP,cH 17 ((dh S B mb r).1.S).cols ((dh S B mb r).1.S).rows,.map (bp ((dh S B mb r).1.S).M),.cells [.int .i64 ((dh S B mb r).1.S).cols,.int .i64 ((dh S B mb r).1.S).rows,.map 19,.map 20,.map 21] 171 false false,.map (ah ((dh S B mb r).1.S).A),.map (ah ((dh S B mb r).1.S).B),.map (ah ((dh S B mb r).1.S).C)]:=by
 obtain⟨y,hy⟩:∃ y,dh S B mb r=y:=⟨_,rfl⟩
 rw [hy]
 have hkr:=zk S B r
 obtain⟨b,hin⟩:∃ b,S.inter=b:=⟨_,rfl⟩
 have hl2:=pE hin
 refine cO Tryz.func34 ?_
 repeat' (first
  |(refine qz ?_;first
   |refine ld (hc:=hl2) ?_
   |refine qA (zs:=fI lK o3) (hz:=FW) ?_
   |refine b0 (zs:=fI lK o3) (hz:=FW) ?_
   |refine jC (cs:=fI lK o3) ?_ (hs1:=by rw [cp]) (hs2:=by rw [cp]))
  |refine zG ?_|refine zA ?_|refine cX (fun _=>?_) (fun _=>?_)|refine aS (fun _=>?_) (fun _=>?_)|refine WX.D5 2 (σ:=Int × (Nat × Bool)) (fun s=>[(0,.one (.ptr 2 0)),(1,.one (.ptr 0 0)),(2,.one (.int .i64 mb)),(6,.one (.ptr 22 0)),(7,.one (.ptr 23 0))]) (fun s=>[bD 1 L B s.2.1 s.2.2,aO L,dS (S),cc 4 8 12,ay 5 6 7 cM,bg cM,bj cM,bh cM,ay 9 10 11 cZ,bg cZ,bj cZ,bh cZ,ay 13 14 15 cP,bg cP,bj cP,bh cP,cH 17 (S).cols (S).rows,.map (bp (S).M),.cells [.int .i64 (S).cols,.int .i64 (S).rows,.map 19,.map 20,.map 21] 171 false false,.map (ah (S).A),.map (ah (S).B),.map (ah (S).C),.cells (fI lK o3) 56 false false,.cells (fI {lK with kind:=s.1} o3) 56 false false]) (fun s=>jk S B r=s) (fun s _=>mO) ?_ ?_|refine zL ?_|refine zF ?_|fail)
 · cases b
   · have e0:jk S B r=(if dv B r=true then 4 else 3,bT B r):=if_neg (by rw [hin];decide)
     repeat' (first
      |(refine qz ?_;first
       |refine rP (fun gb=>?_) (fun gb=>?_) (hi:=by exact pC hB r rfl rfl (by decide) nL rfl)
       |refine st ?_ (hle:=by rw [cp];omega) (hv:=w_ _ _ _))
      |refine zG ?_|refine zA ?_|refine cX (fun _=>?_) (fun _=>?_)|refine aS (fun _=>?_) (fun _=>?_)|refine zL ?_|refine zF ?_|fail)
     · rename_i gb
       rw [if_pos gb]at e0
       first|exact⟨(4,bT B r),_,e0,(br [0,1,2,3,4,5,6,7,8,9,10,11,12,13,14,15,16,17,18,19,20,21,22,23])⟩|exact⟨rfl,(4,bT B r),_,e0,(br [0,1,2,3,4,5,6,7,8,9,10,11,12,13,14,15,16,17,18,19,20,21,22,23])⟩
     · rename_i gb
       rw [if_neg (by rw [gb];decide)]at e0
       first|exact⟨(3,bT B r),_,e0,(br [0,1,2,3,4,5,6,7,8,9,10,11,12,13,14,15,16,17,18,19,20,21,22,23])⟩|exact⟨rfl,(3,bT B r),_,e0,(br [0,1,2,3,4,5,6,7,8,9,10,11,12,13,14,15,16,17,18,19,20,21,22,23])⟩
   · have e0:jk S B r=ki cM B r:=if_pos hin
     rw [e0]at hkr
     repeat' (first
      |(refine qz ?_;first
       |refine cl ?_ (hi:=by exact rS wk hB r (i:=0) (k:=1) (c:=4) (a:=5) (b:=6) (t:=7) rfl rfl rfl rfl rfl rfl (by decide) nL rfl)
       |refine st ?_ (hle:=by rw [cp];omega) (hv:=w_ _ _ _))
      |refine zG ?_|refine zA ?_|refine cX (fun _=>?_) (fun _=>?_)|refine aS (fun _=>?_) (fun _=>?_)|refine zL ?_|refine zF ?_|fail)
     first|exact⟨ki cM B r,_,e0,(br [0,1,2,3,4,5,6,7,8,9,10,11,12,13,14,15,16,17,18,19,20,21,22,23])⟩|exact⟨rfl,ki cM B r,_,e0,(br [0,1,2,3,4,5,6,7,8,9,10,11,12,13,14,15,16,17,18,19,20,21,22,23])⟩
 · intro s hs
   rw [hs]at hkr
   have hn:=lP B 2 s.2
   have hst:=AI (bU B 2 s.2).1
   refine WX.D5 7 (σ:=Int × (Nat × Bool)) (fun x=>[(0,.one (.ptr 2 0)),(1,.one (.ptr 0 0)),(2,.one (.int .i64 mb)),(6,.one (.ptr 22 0)),(7,.one (.ptr 23 0))]) (fun x=>[bD 1 L B x.2.1 x.2.2,aO L,dS (sN S x.1),cc 4 8 12,ay 5 6 7 cM,bg cM,bj cM,bh cM,ay 9 10 11 cZ,bg cZ,bj cZ,bh cZ,ay 13 14 15 cP,bg cP,bj cP,bh cP,cH 17 (sN S x.1).cols (sN S x.1).rows,.map (bp (sN S x.1).M),.cells [.int .i64 (sN S x.1).cols,.int .i64 (sN S x.1).rows,.map 19,.map 20,.map 21] 171 false false,.map (ah (sN S x.1).A),.map (ah (sN S x.1).B),.map (ah (sN S x.1).C),.cells (fI lK o3) 56 false false,.cells (fI {lK with kind:=s.1} o3) 56 false false]) (fun x=>AM S B s=x) (fun x _=>mO) ?_ ?_
   · by_cases h4:s.1=4
     · by_cases hb:S.qp+oz (bU B 2 s.2).1<1∨31<S.qp+oz (bU B 2 s.2).1
       · have e0:AM S B s=(1,((bU B 2 s.2).2.1,true)):=by unfold AM;rw [if_pos h4,if_pos hb]
         repeat' (first
          |(refine qz ?_;first
           |refine ld (c := .int .u8 s.1) ?_ (hc:=eQ _ _)
           |refine cl ?_ (hi:=by exact nf rfl)
           |refine cl ?_ (hi:=by exact pB hB s.2 (n:=2) rfl (by decide) rfl rfl (by decide) nL rfl)
           |refine an 2 ?_
           |refine r8 ?_ (hc:=AH hn)
           |refine cl ?_ (hi:=by exact lr (p:=(bU B 2 s.2).2.1) (e:=(bU B 2 s.2).2.2) rfl rfl (by decide) nL rfl))
          |refine zG ?_|refine zA ?_|refine cX (fun _=>?_) (fun _=>?_)|refine aS (fun _=>?_) (fun _=>?_)|refine zL ?_|refine zF ?_|fail)
         all_goals first|exact⟨(1,((bU B 2 s.2).2.1,true)),_,e0,(br [0,1,2,3,4,5,6,7,8,9,10,11,12,13,14,15,16,17,18,19,20,21,22,23])⟩|exact⟨rfl,(1,((bU B 2 s.2).2.1,true)),_,e0,(br [0,1,2,3,4,5,6,7,8,9,10,11,12,13,14,15,16,17,18,19,20,21,22,23])⟩
       · have e0:AM S B s=(S.qp+oz (bU B 2 s.2).1,(bU B 2 s.2).2):=by unfold AM;rw [if_pos h4,if_neg hb]
         repeat' (first
          |(refine qz ?_;first
           |refine ld (c := .int .u8 s.1) ?_ (hc:=eQ _ _)
           |refine cl ?_ (hi:=by exact nf rfl)
           |refine cl ?_ (hi:=by exact pB hB s.2 (n:=2) rfl (by decide) rfl rfl (by decide) nL rfl)
           |refine an 2 ?_
           |refine r8 ?_ (hc:=AH hn))
          |refine zG ?_|refine zA ?_|refine cX (fun _=>?_) (fun _=>?_)|refine aS (fun _=>?_) (fun _=>?_)|refine zL ?_|refine zF ?_|fail)
         all_goals first|exact⟨(S.qp+oz (bU B 2 s.2).1,(bU B 2 s.2).2),_,e0,(br [0,1,2,3,4,5,6,7,8,9,10,11,12,13,14,15,16,17,18,19,20,21,22,23])⟩|exact⟨rfl,(S.qp+oz (bU B 2 s.2).1,(bU B 2 s.2).2),_,e0,(br [0,1,2,3,4,5,6,7,8,9,10,11,12,13,14,15,16,17,18,19,20,21,22,23])⟩
     · have e0:AM S B s=(S.qp,s.2):=if_neg h4
       repeat' (first
        |(refine qz ?_;first
         |refine ld (c := .int .u8 s.1) ?_ (hc:=eQ _ _))
        |refine zG ?_|refine zA ?_|refine cX (fun _=>?_) (fun _=>?_)|refine aS (fun _=>?_) (fun _=>?_)|refine zL ?_|refine zF ?_|fail)
       all_goals first|exact⟨(S.qp,s.2),_,e0,(br [0,1,2,3,4,5,6,7,8,9,10,11,12,13,14,15,16,17,18,19,20,21,22,23])⟩|exact⟨rfl,(S.qp,s.2),_,e0,(br [0,1,2,3,4,5,6,7,8,9,10,11,12,13,14,15,16,17,18,19,20,21,22,23])⟩
   · intro x hx
     obtain⟨X,hX⟩:∃ X:iE,X=⟨{lK with kind:=s.1,qp:=x.1},sN S x.1,x.2⟩:=⟨_,rfl⟩
     have hH:gN S B r=X:=by rw [hX];unfold gN;rw [hs,hx]
     have hF:JK B mb X=y:=by rw [←hH];exact hy
     have hDX:gG X.S.cols X.S.rows:=by rw [hX];exact hD
     have hmX:0≤mb∧mb<X.S.cols*X.S.rows:=by rw [hX];exact hmb
     have hTX:cg X.S.M:=by rw [hX];exact hT
     have hkX:X.m.kind=s.1:=by rw [hX]
     have hvq:(fI {lK with kind:=s.1} o3).set 1 (.int .i64 x.1)=fI X.m o3:=by rw [hX];exact I7 _ _ _
     have hS0:sN S x.1=X.S:=by rw [hX]
     have hr0:x.2=X.r:=by rw [hX]
     rw [hS0,hr0]
     have hl3:(EC X.S)[5]? = some (.int .i64 x.1):=by rw [hX];rfl
     have hqX : -1000000≤X.m.qp∧X.m.qp≤1000000:=by rw [hX];show -1000000≤x.1∧x.1≤1000000;rw [←hx];exact AN S B s hq
     clear hX
     by_cases h0:s.1=0
     · have e1:JK B mb X=(dP mb X,o3):=if_pos (hkX.trans h0)
       rw [←hF,e1]
       repeat' (first
        |(refine qz ?_;first
         |refine ld ?_ (hc:=hl3)
         |refine st ?_ (hle:=by rw [cp];omega) (hv:=hvq)
         |refine ld (c := .int .u8 s.1) ?_ (hc:=by rw [←hkX];exact eQ _ _)
         |refine t9 (cs:=mC X.m) ?_ (hle:=by rw [cp];omega) (hc:=va _ _)
         |refine cl ?_ (hi:=by exact xq (S:=X.S) (mb:=mb) (m:=X.m) hDX hmX rfl rfl rfl nA rfl)
         |refine jq ?_ (hle:=by rw [cp])
         |refine jC (cs:=fI X.m o3) ?_ (hs1:=by rw [cp]) (hs2:=by rw [cp]))
        |refine zG ?_|refine zA ?_|refine cX (fun _=>?_) (fun _=>?_)|refine aS (fun _=>?_) (fun _=>?_)|refine zL ?_|refine zF ?_|fail)
       show aF _ _ _ _ _ _ _ _;refine kV [0,1,2,3,4,5,6,7,8,9,10,11,12,13,14,15,16,17,18,19,20,21] ?_
       rfl
     · have e1 : JK B mb X=xF B (gy B mb (dP mb (eJ B mb X))):=if_neg (by rw [hkX];exact h0)
       repeat' (first
        |(refine qz ?_;first
         |refine ld ?_ (hc:=hl3)
         |refine st ?_ (hle:=by rw [cp];omega) (hv:=hvq)
         |refine ld (c := .int .u8 s.1) ?_ (hc:=by rw [←hkX];exact eQ _ _))
        |refine zG ?_|refine zA ?_|refine cX (fun _=>?_) (fun _=>?_)|refine aS (fun _=>?_) (fun _=>?_)|refine WX.u7 13 (σ:=iE) (fun z=>[(0,.one (.ptr 2 0)),(1,.one (.ptr 0 0)),(2,.one (.int .i64 mb)),(6,.one (.ptr 22 0)),(7,.one (.ptr 23 0))]) (fun z=>[bD 1 L B z.r.1 z.r.2,aO L,dS (z.S),cc 4 8 12,ay 5 6 7 cM,bg cM,bj cM,bh cM,ay 9 10 11 cZ,bg cZ,bj cZ,bh cZ,ay 13 14 15 cP,bg cP,bj cP,bh cP,cH 17 (z.S).cols (z.S).rows,.map (bp (z.S).M),.cells [.int .i64 (z.S).cols,.int .i64 (z.S).rows,.map 19,.map 20,.map 21] 171 false false,.map (ah (z.S).A),.map (ah (z.S).B),.map (ah (z.S).C),.cells (fI lK o3) 56 false false,.cells (fI z.m o3) 56 false false]) (fun z=>eJ B mb X=z) (fun z _=>mO) ?_ ?_|refine zL ?_|refine zF ?_|fail)
       · intro _
         by_cases h1:s.1=1
         · obtain⟨t,ht⟩:∃ t,oC B (cf X.S.M X.S.cols X.S.rows mb 0) X.r=t:=⟨_,rfl⟩
           have e2:=HH (hkX.trans h1) ht
           repeat' (first
            |(refine qz ?_;first
             |refine ld (c := .int .u8 s.1) ?_ (hc:=by rw [←hkX];exact eQ _ _)
             |refine cl ?_ (hi:=by exact eZ (M:=X.S.M) (k:=0) hTX hDX hmX (by decide) (i:=16) (j:=17) rfl rfl (by decide) rfl)
             |refine cl ?_ (hi:=by exact nk hB (r:=X.r) ht (cR hTX) rfl rfl (by decide) nL rfl)
             |refine LV (off:=2) (s:=4) ?_ (hs2:=by rw [cp];omega) (hv:=I8 X.m o3 t.1))
            |refine zG ?_|refine zA ?_|refine cX (fun _=>?_) (fun _=>?_)|refine aS (fun _=>?_) (fun _=>?_)|refine zL ?_|refine zF ?_|fail)
           first|exact⟨_,_,e2,(br [0,1,2,3,4,5,6,7,8,9,10,11,12,13,14,15,16,17,18,19,20,21,22,23])⟩|exact⟨rfl,_,_,e2,(br [0,1,2,3,4,5,6,7,8,9,10,11,12,13,14,15,16,17,18,19,20,21,22,23])⟩
         · by_cases h2:s.1=2
           · obtain⟨uu0,e0⟩:∃ t,oC B (cf X.S.M X.S.cols X.S.rows mb 0) X.r=t:=⟨_,rfl⟩
             obtain⟨uu1,e1⟩:∃ t,oC B (cf (V1 X mb uu0) X.S.cols X.S.rows mb 1) uu0.2=t:=⟨_,rfl⟩
             obtain⟨uu2,e2⟩:∃ t,oC B (cf (V2 X mb uu0 uu1) X.S.cols X.S.rows mb 2) uu1.2=t:=⟨_,rfl⟩
             obtain⟨uu3,e3⟩:∃ t,oC B (cf (V3 X mb uu0 uu1 uu2) X.S.cols X.S.rows mb 3) uu2.2=t:=⟨_,rfl⟩
             have ez:=HI (hkX.trans h2) e0 e1 e2 e3
             have T0:=hTX
             have T1:cg (V1 X mb uu0):=bE T0 (e0 ▸ lE _ _ _)
             have T2:cg (V2 X mb uu0 uu1):=bE T1 (e1 ▸ lE _ _ _)
             have T3:cg (V3 X mb uu0 uu1 uu2):=bE T2 (e2 ▸ lE _ _ _)
             repeat' (first
              |(refine qz ?_;first
               |refine ld (c := .int .u8 s.1) ?_ (hc:=by rw [←hkX];exact eQ _ _)
               |refine cl ?_ (hi:=by exact eZ (M:=X.S.M) (k:=0) T0 hDX hmX (by decide) (i:=16) (j:=17) rfl rfl (by decide) rfl)
               |refine cl ?_ (hi:=by exact nk hB (r:=X.r) e0 (cR T0) rfl rfl (by decide) nL rfl)
               |refine st ?_ (hle:=by rw [cp];omega) (hv:=An X.m o3 (k:=0) (by decide) uu0.1)
               |refine ld ?_ (hc:=py X.m o3 (k:=0) (by decide) uu0.1)
               |refine cl ?_ (hi:=by exact dc (M:=X.S.M) (k:=0) (v:=uu0.1) hDX hmX (by decide) (i:=16) (j:=17) rfl rfl (by decide) nA rfl)
               |refine cl ?_ (hi:=by exact eZ (M:=V1 X mb uu0) (k:=1) T1 hDX hmX (by decide) (i:=16) (j:=17) rfl rfl (by decide) rfl)
               |refine cl ?_ (hi:=by exact nk hB (r:=uu0.2) e1 (cR T1) rfl rfl (by decide) nL rfl)
               |refine st ?_ (hle:=by rw [cp];omega) (hv:=An (X1 X uu0) o3 (k:=1) (by decide) uu1.1)
               |refine ld ?_ (hc:=py (X1 X uu0) o3 (k:=1) (by decide) uu1.1)
               |refine cl ?_ (hi:=by exact dc (M:=V1 X mb uu0) (k:=1) (v:=uu1.1) hDX hmX (by decide) (i:=16) (j:=17) rfl rfl (by decide) nA rfl)
               |refine cl ?_ (hi:=by exact eZ (M:=V2 X mb uu0 uu1) (k:=2) T2 hDX hmX (by decide) (i:=16) (j:=17) rfl rfl (by decide) rfl)
               |refine cl ?_ (hi:=by exact nk hB (r:=uu1.2) e2 (cR T2) rfl rfl (by decide) nL rfl)
               |refine st ?_ (hle:=by rw [cp];omega) (hv:=An (X2 X uu0 uu1) o3 (k:=2) (by decide) uu2.1)
               |refine ld ?_ (hc:=py (X2 X uu0 uu1) o3 (k:=2) (by decide) uu2.1)
               |refine cl ?_ (hi:=by exact dc (M:=V2 X mb uu0 uu1) (k:=2) (v:=uu2.1) hDX hmX (by decide) (i:=16) (j:=17) rfl rfl (by decide) nA rfl)
               |refine cl ?_ (hi:=by exact eZ (M:=V3 X mb uu0 uu1 uu2) (k:=3) T3 hDX hmX (by decide) (i:=16) (j:=17) rfl rfl (by decide) rfl)
               |refine cl ?_ (hi:=by exact nk hB (r:=uu2.2) e3 (cR T3) rfl rfl (by decide) nL rfl)
               |refine st ?_ (hle:=by rw [cp];omega) (hv:=An (X3 X uu0 uu1 uu2) o3 (k:=3) (by decide) uu3.1)
               |refine ld ?_ (hc:=py (X3 X uu0 uu1 uu2) o3 (k:=3) (by decide) uu3.1)
               |refine cl ?_ (hi:=by exact dc (M:=V3 X mb uu0 uu1 uu2) (k:=3) (v:=uu3.1) hDX hmX (by decide) (i:=16) (j:=17) rfl rfl (by decide) nA rfl))
              |refine zG ?_|refine zA ?_|refine cX (fun _=>?_) (fun _=>?_)|refine aS (fun _=>?_) (fun _=>?_)|refine WX.loop ?_|refine WX.round ?_|refine zL ?_|refine zF ?_|fail)
             first|exact⟨_,_,ez,(br [0,1,2,3,4,5,6,7,8,9,10,11,12,13,14,15,16,17,18,19,20,21,22,23])⟩|exact⟨rfl,_,_,ez,(br [0,1,2,3,4,5,6,7,8,9,10,11,12,13,14,15,16,17,18,19,20,21,22,23])⟩
           · have ez:=AL (B:=B) (mb:=mb) (show X.m.kind≠1 from fun h=>h1 (hkX.symm.trans h)) (show X.m.kind≠2 from fun h=>h2 (hkX.symm.trans h))
             repeat' (first
              |(refine qz ?_;first
               |refine ld (c := .int .u8 s.1) ?_ (hc:=by rw [←hkX];exact eQ _ _)
               |refine cl ?_ (hi:=by exact pC hB X.r rfl rfl (by decide) nL rfl)
               |refine st ?_ (hle:=by rw [cp];omega) (hv:=Ea _ _ _))
              |refine zG ?_|refine zA ?_|refine cX (fun _=>?_) (fun _=>?_)|refine aS (fun _=>?_) (fun _=>?_)|refine zL ?_|refine zF ?_|fail)
             first|exact⟨_,_,ez,(br [0,1,2,3,4,5,6,7,8,9,10,11,12,13,14,15,16,17,18,19,20,21,22,23])⟩|exact⟨rfl,_,_,ez,(br [0,1,2,3,4,5,6,7,8,9,10,11,12,13,14,15,16,17,18,19,20,21,22,23])⟩
       · intro z hz
         have hz0:=Cl B mb X
         rw [hz]at hz0
         have hDz:gG z.S.cols z.S.rows:=by rw [hz0.cols,hz0.rows];exact hDX
         have hmz:0≤mb∧mb<z.S.cols*z.S.rows:=by rw [hz0.cols,hz0.rows];exact hmX
         have hqz : -1000000≤z.m.qp∧z.m.qp≤1000000:=by rw [hz0.qp];exact hqX
         repeat' (first
          |(refine qz ?_;first
           |refine t9 (cs:=mC z.m) ?_ (hle:=by rw [cp];omega) (hc:=va _ _))
          |refine zG ?_|refine zA ?_|refine cX (fun _=>?_) (fun _=>?_)|refine aS (fun _=>?_) (fun _=>?_)|refine zL ?_|refine zF ?_|fail)
         refine cl ?_ (hi:=by exact xq (S:=z.S) (mb:=mb) (m:=z.m) (r:=z.r) hDz hmz rfl rfl rfl nA rfl)
         repeat' (first|refine zG ?_|refine zA ?_|refine cX (fun _=>?_) (fun _=>?_)|refine aS (fun _=>?_) (fun _=>?_)|refine WX.D5 29 (σ:=iE) (fun w=>[(0,.one (.ptr 2 0)),(1,.one (.ptr 0 0)),(2,.one (.int .i64 mb)),(6,.one (.ptr 22 0)),(7,.one (.ptr 23 0))]) (fun w=>[bD 1 L B w.r.1 w.r.2,aO L,dS (w.S),cc 4 8 12,ay 5 6 7 cM,bg cM,bj cM,bh cM,ay 9 10 11 cZ,bg cZ,bj cZ,bh cZ,ay 13 14 15 cP,bg cP,bj cP,bh cP,cH 17 (w.S).cols (w.S).rows,.map (bp (w.S).M),.cells [.int .i64 (w.S).cols,.int .i64 (w.S).rows,.map 19,.map 20,.map 21] 171 false false,.map (ah (w.S).A),.map (ah (w.S).B),.map (ah (w.S).C),.cells (fI lK o3) 56 false false,.cells (fI w.m o3) 56 false false]) (fun w=>gy B mb (dP mb z)=w) (fun w _=>mO) ?_ ?_|refine zL ?_|refine zF ?_|fail)
         · repeat' (first
            |(refine qz ?_;first
             |refine t9 (cs:=mC z.m) ?_ (hle:=by rw [cp];omega) (hc:=va _ _)
             |refine rP (fun ga=>?_) (fun ga=>?_) (hi:=by exact o_ (m:=z.m) rfl)
             |refine cl ?_ (hi:=by exact Bq hB (x:=dP mb z) (hs:=o3) (mb:=mb) hDz hmz hqz rfl rfl rfl rfl nA rfl))
            |refine zG ?_|refine zA ?_|refine cX (fun _=>?_) (fun _=>?_)|refine aS (fun _=>?_) (fun _=>?_)|refine zL ?_|refine zF ?_|fail)
           · rename_i ga
             have e3:gy B mb (dP mb z)=gZ B mb (dP mb z) 6:=if_pos ga
             first|exact⟨gZ B mb (dP mb z) 6,_,e3,(br [0,1,2,3,4,5,6,7,8,9,10,11,12,13,14,15,16,17,18,19,20,21,22,23])⟩|exact⟨rfl,gZ B mb (dP mb z) 6,_,e3,(br [0,1,2,3,4,5,6,7,8,9,10,11,12,13,14,15,16,17,18,19,20,21,22,23])⟩
           · rename_i ga
             have e3:gy B mb (dP mb z)=dP mb z:=if_neg (by show¬alone z.m=true;rw [ga];decide)
             first|exact⟨dP mb z,_,e3,(br [0,1,2,3,4,5,6,7,8,9,10,11,12,13,14,15,16,17,18,19,20,21,22,23])⟩|exact⟨rfl,dP mb z,_,e3,(br [0,1,2,3,4,5,6,7,8,9,10,11,12,13,14,15,16,17,18,19,20,21,22,23])⟩
         · intro w hw
           have e4:y=xF B w:=by rw [←hF,e1,hz,hw]
           have hp:0≤(ki cP B w.r).1∧(ki cP B w.r).1≤15:=mW (K:=15) (by decide) IE B (cP.T.length/2) 0 w.r
           have hc:=lP B 2 (ki cP B w.r).2
           have e5:xF B w=(⟨w.m,w.S,(bU B 2 (ki cP B w.r).2).2⟩,kd (ki cP B w.r).1 (bU B 2 (ki cP B w.r).2).1):=rfl
           obtain⟨p,hpp⟩:∃ p,ki cP B w.r=p:=⟨_,rfl⟩
           rw [hpp]at hp hc e5
           obtain⟨c,hcc⟩:∃ c,bU B 2 p.2=c:=⟨_,rfl⟩
           rw [hcc]at hc e5
           repeat' (first
            |(refine qz ?_;first
             |refine cl ?_ (hi:=by exact Dj zZ hB hpp (i:=0) (k:=1) (c:=12) (a:=13) (b:=14) (t:=15) rfl rfl rfl rfl rfl rfl (by decide) nL rfl)
             |refine cl ?_ (hi:=by exact Er hB hcc rfl (by decide) rfl rfl (by decide) nL rfl)
             |refine st ?_ (hle:=by simp only [List.length_set,cp];omega) (hv:=rfl)
             |refine jq ?_ (hle:=by simp only [List.length_set,cp])
             |refine jC ?_ (hs1:=by simp only [List.length_set,cp]) (hs2:=by rw [cp])
             |refine cN (fun bb hbb=>?_))
            |refine zG ?_|refine zA ?_|refine cX (fun _=>?_) (fun _=>?_)|refine aS (fun _=>?_) (fun _=>?_)|refine WX.loop ?_|refine WX.round ?_|refine zL ?_|refine zF ?_|fail)
           rw [e4,e5]
           rename_i b0 g0 b1 g1 b2 g2 b3 g3 b4 g4
           have h0':kd p.1 c.1 0=b0:=g0
           have h1':kd p.1 c.1 1=b1:=g1
           have h2':kd p.1 c.1 2=b2:=g2
           have h3':kd p.1 c.1 3=b3:=(Ly hp).trans g3
           have h4':kd p.1 c.1 4=b4:=g4
           have h5':kd p.1 c.1 5=bb:=(Lz hc).trans hbb
           rw [G1 w.m (kd p.1 c.1) h0' h1' h2' h3' h4' h5']
           show aF _ _ _ _ _ _ _ _;refine kV [0,1,2,3,4,5,6,7,8,9,10,11,12,13,14,15,16,17,18,19,20,21] ?_
           all_goals rfl
end Go.Proofs.YtagpkhindehcbaaGreat
namespace Go.Proofs.YtagpkhindehcbaaGreat
open Go.Xm
variable [aC]
instance Lu (m:Mb) (h:Nat→Bool):bG (.agg (fI m h)):=fK (ss m h)
theorem Lh {L:List Int} {B:List Bool}(hB:du L B) {S:bX} {r:Nat × Bool} {mb:Int}(hD:gG S.cols S.rows) (hT:cg S.M) (hmb:0≤mb∧mb<S.cols*S.rows) (hq : -1000000≤S.qp∧S.qp≤1000000) {y:iE × (Nat→Bool)}(hy:dh S B mb r=y)
 {HS:aq}(hi:HS[0]? = some (bD 1 L B r.1 r.2)) (hk:HS[1]? = some (aO L)) (hS:(HS.drop 2).take 20=dV S) {HS':aq}(hh:bM HS (0::1::bK) (bD 1 L B y.1.r.1 y.1.r.2::aO L::dV y.1.S)=HS') (hbd:Nat.blt HS'.length Mem.bound=true) :
 aG.Sound Tryz.prog ⟨34,[.one (.ptr 2 0),.one (.ptr 0 0),.one (.int .i64 mb)],HS,.agg (fI y.1.m y.2),HS',0::1::bK⟩:=by
 subst hy
 have hc:=xC hB S r mb hD hT hmb hq
 obtain⟨y,hy⟩:∃ y,dh S B mb r=y:=⟨_,rfl⟩
 rw [hy]at hc hh ⊢
 have hc':bq Tryz.prog 34 [.one (.ptr 2 0),.one (.ptr 0 0),.one (.int .i64 mb)] (bD 1 L B r.1 r.2::aO L::(dV S++[])) (.agg (fI y.1.m y.2)) (bD 1 L B y.1.r.1 y.1.r.2::aO L::(dV y.1.S++[])):=by
  rw [List.append_nil,List.append_nil];exact hc
 have h:=y_ (S:=S) (S':=y.1.S) (l:=[]) (l':=[]) (args':=[.one (.ptr 2 0),.one (.ptr 0 0),.one (.int .i64 mb)]) [] hc' hi hk hS (by decide) .nil rfl rfl .nil .nil .nil rfl (by decide) (.cons (by show 2<22;omega) (.cons (by show 0<22;omega) (.flat .nil))) (.cons rfl (.cons rfl (.flat .nil))) (HS':=HS') (by rw [List.append_nil];exact hh) hbd
 rw [List.append_nil]at h
 exact h
structure rI (x:iE) (c r:Int):Prop where
 cols:x.S.cols=c
 rows:x.S.rows=r
 tiny:cg x.S.M
 qp : -1000000≤x.S.qp∧x.S.qp≤1000000
 v:∀ k,bB (x.m.v k)
theorem Fe:bB (0,0):=⟨by unfold fc;omega,by unfold fc;omega⟩
theorem Cn {S:bX} {B:List Bool} {r:Nat × Bool}(hT:cg S.M) (hq : -1000000≤S.qp∧S.qp≤1000000):rI (gN S B r) S.cols S.rows:=
 ⟨rfl,rfl,hT,AN S B _ hq,fun _=>Fe⟩
theorem vq {x:iE} {c r:Int}(h:rI x c r) (B:List Bool) (mb:Int) (k:Nat):rI (AO B mb x k) c r:=
 ⟨h.cols,h.rows,bE h.tiny (lE _ _ _),h.qp,fun j=>by
  show bB (if j=k then _ else x.m.v j)
  split
  · exact lE _ _ _
  · exact h.v j⟩
theorem Cm {x:iE} {c r:Int}(h:rI x c r) (B:List Bool) (mb:Int):rI (eJ B mb x) c r:=by
 unfold eJ
 split
 · exact⟨h.cols,h.rows,h.tiny,h.qp,fun j=>lE _ _ _⟩
 · split
   · exact vq (vq (vq (vq h B mb 0) B mb 1) B mb 2) B mb 3
   · exact⟨h.cols,h.rows,h.tiny,h.qp,h.v⟩
theorem uz {x:iE} {c r:Int}(h:rI x c r) (mb:Int):rI (dP mb x) c r:=
 ⟨h.cols,h.rows,eg h.tiny h.v,h.qp,h.v⟩
theorem Fg {x:iE} {c r:Int}(h:rI x c r) (B:List Bool) (mb:Int):∀ k,rI (gZ B mb x k) c r:=by
 intro k
 induction k with
 | zero=>exact h
 | succ k ih=>exact⟨ih.cols,ih.rows,ih.tiny,ih.qp,ih.v⟩
theorem LY {S:bX} {B:List Bool} {r:Nat × Bool} {mb:Int}(hT:cg S.M) (hq : -1000000≤S.qp∧S.qp≤1000000):rI (dh S B mb r).1 S.cols S.rows:=by
 have h:=Cn (B:=B) (r:=r) hT hq
 unfold dh JK
 split
 · exact uz h mb
 · have h2:=uz (Cm h B mb) mb
   have h3:rI (gy B mb (dP mb (eJ B mb (gN S B r)))) S.cols S.rows:=by
    unfold gy
    split
    · exact Fg h2 B mb 6
    · exact h2
   exact⟨h3.cols,h3.rows,h3.tiny,h3.qp,h3.v⟩
end Go.Proofs.YtagpkhindehcbaaGreat
namespace Go.Proofs.YtagpkhindehcbaaGreat
open Go.Xm
variable [aC]
abbrev Ol:=Mb × (Nat→Bool)
def tJ (o:Ol):List XC:=fI o.1 o.2
instance:pU tJ 397:=⟨fun _=>cp _ _,fun _=>ss _ _,by decide⟩
structure TA where
 S:bX
 r:Nat × Bool
 out:List Ol
def mh (B:List Bool) (first:Int) (x:TA):TA:=
 ⟨(dh x.S B (first+(x.out.length:Nat)) x.r).1.S,(dh x.S B (first+(x.out.length:Nat)) x.r).1.r,x.out++[((dh x.S B (first+(x.out.length:Nat)) x.r).1.m,(dh x.S B (first+(x.out.length:Nat)) x.r).2)]⟩
def lA (B:List Bool) (first:Int):Nat→TA→TA
 | 0,x=>x
 | k+1,x=>if x.r.2=true then x else lA B first k (mh B first x)
def sR (h:Hd) (p:Ph):bX:=⟨p.id,p.inter,p.down,p.qp,p.qp,h.cols,h.rows,[],[],[],[]⟩
structure we (B:List Bool) (first:Int) (n:Nat) (c r:Int) (x s:TA):Prop where
 le:s.out.length≤n
 run:lA B first (n-s.out.length) s=x
 cols:s.S.cols=c
 rows:s.S.rows=r
 tiny:cg s.S.M
 qp : -1000000≤s.S.qp∧s.S.qp≤1000000
theorem sS {B:List Bool} {first:Int} {n:Nat} {c r:Int} {x s:TA}(h:we B first n c r x s) (hn:s.out.length<n) (he:s.r.2=false):we B first n c r x (mh B first s):=by
 have k:=LY (B:=B) (r:=s.r) (mb:=first+(s.out.length:Nat)) h.tiny h.qp
 have hl:(mh B first s).out.length=s.out.length+1:=by simp [mh]
 refine⟨by rw [hl];omega,?_,k.cols.trans h.cols,k.rows.trans h.rows,k.tiny,k.qp⟩
 have hr:=h.run
 obtain⟨j,hj⟩:∃ j,n-s.out.length=j+1:=⟨n-s.out.length-1,by omega⟩
 rw [hj,lA,if_neg (by rw [he];decide)]at hr
 rw [hl,show n-(s.out.length+1)=j by omega]
 exact hr
theorem mj {B:List Bool} {first:Int} {n:Nat} {c r:Int} {x s:TA}(h:we B first n c r x s) (hd:s.out.length=n∨s.r.2=true):s=x:=by
 have hr:=h.run
 rcases hd with hd|hd
 · rw [hd,Nat.sub_self]at hr;exact hr
 · obtain⟨j,hj⟩:∃ j,n-s.out.length=j:=⟨_,rfl⟩
   rw [hj]at hr
   cases j with
   | zero=>exact hr
   | succ j=>rw [lA,if_pos hd]at hr;exact hr
theorem nS {L:List Int} {B:List Bool} {p:Nat} {e b:Bool}(hb:e=b) {HS:aq} {i k:Nat}(hi:HS[i]? = some (bD k L B p e)) (hk:HS[k]? = some (aO L)) (hd:i≠k) (hbd:Nat.blt HS.length Mem.bound=true) :
 aG.Sound Tryz.prog ⟨33,[.one (.ptr i 0)],HS,.one (.bool b),HS,[i]⟩:=by
 subst hb;exact lp hi hk hd hbd
theorem rr {L:List Int} {B:List Bool} {p:Nat} {e:Bool} {z:Int}(hz:(if e then 3 else if p<B.length then 13 else 0)=z) {HS:aq} {i k:Nat}(hi:HS[i]? = some (bD k L B p e)) (hk:HS[k]? = some (aO L)) (hd:i≠k) (hbd:Nat.blt HS.length Mem.bound=true) :
 aG.Sound Tryz.prog ⟨35,[.one (.ptr i 0)],HS,.one (.int .i64 z),HS,[i]⟩:=by
 subst hz;exact Hc hi hk hd hbd
theorem AJ {L:List Int} {B:List Bool}(hB:du L B) {S:bX} {r:Nat × Bool} {mb:Int}(hD:gG S.cols S.rows) (hT:cg S.M) (hmb:0≤mb∧mb<S.cols*S.rows) (hq : -1000000≤S.qp∧S.qp≤1000000) {y:iE × (Nat→Bool)}(hy:dh S B mb r=y) {i k N:Nat}
 {HS:aq}(hi:HS[i]? = some (bD k L B r.1 r.2)) (hk:HS[k]? = some (aO L)) (hS:HS.take 13=iL) (hN:(HS.drop N).take 7=B3 S N) (hnd:(i::k::m_ N []).Nodup)
 {HS':aq}(hh:bM HS [i,k,N,0,1,2,3,4,5,6,7,8,9,10,11,12,N+1,N+2,N+3,N+4,N+5,N+6] [bD k L B y.1.r.1 y.1.r.2,aO L,Hj y.1.S N,cc 1 5 9,ay 2 3 4 cM,bg cM,bj cM,bh cM,ay 6 7 8 cZ,bg cZ,bj cZ,bh cZ,ay 10 11 12 cP,bg cP,bj cP,bh cP,cH (N+2) y.1.S.cols y.1.S.rows,.map (bp y.1.S.M),HE y.1.S N,.map (ah y.1.S.A),.map (ah y.1.S.B),.map (ah y.1.S.C)]=HS') (hbd:Nat.blt HS'.length Mem.bound=true) :
 aG.Sound Tryz.prog ⟨34,[.one (.ptr N 0),.one (.ptr i 0),.one (.int .i64 mb)],HS,.agg (fI y.1.m y.2),HS',i::k::m_ N []⟩:=by
 subst hy
 exact KL (xC hB S r mb hD hT hmb hq) hi hk hS hN hnd (.cons (by show 2<22;omega) (.cons (by show 0<22;omega) (.flat .nil))) (.cons rfl (.cons rfl (.flat .nil))) hh hbd
def yC (B:List Bool) (r:Nat × Bool):Int:=if r.2 then 3 else if r.1<B.length then 13 else 0
structure o8 (h:Hd) (p:Ph) (a q:List Int) (B:List Bool) (first:Int) (n:Nat):Prop where
 hd:tv h
 ph:A5 p
 byt:ej a
 len:a.length≤30000
 esc:kK a a.length [] 0 0=some q
 size:eX q=(B.length,true)
 fits:B.length≤8*q.length
 bits:du q B
 pos:0≤first
 many:1≤n
 all:first+(n:Nat)≤h.cols*h.rows
theorem jL {c r:Int}(h:gG c r):1≤c*r∧c*r≤64:=by
 have h1:=h.c0
 have h2:=h.c1
 have h3:=h.r0
 have h4:=h.r1
 constructor
 · have:=Int.mul_le_mul h1 h3 (by omega) (by omega)
   omega
 · have:=Int.mul_le_mul h2 h4 (by omega) (by omega)
   omega
set_option maxRecDepth 10000 in
set_option maxHeartbeats 4000000 in
theorem E8 {h:Hd} {p:Ph} {a q:List Int} {B:List Bool} {first:Int} {n:Nat}(hT:o8 h p a q B first n) {x:TA}(hx:lA B first n ⟨sR h p,(0,false),[]⟩=x) (he:yC B x.r=0) :
 bq Tryz.prog 12 [.one (.ptr 0 0),.agg (gC h),.agg (iC p),.one (.int .i64 first),.one (.int .i64 (n:Nat)),iT 13 a.length 1] [cc 1 5 9,ay 2 3 4 cM,bg cM,bj cM,bh cM,ay 6 7 8 cZ,bg cZ,bj cZ,bh cZ,ay 10 11 12 cP,bg cP,bj cP,bh cP,c8 5 (il .u8 a)] (.tup [.one (mc 14 x.out.length 397),.one (.int .i64 0)]) [cc 1 5 9,ay 2 3 4 cM,bg cM,bj cM,bh cM,ay 6 7 8 cZ,bg cZ,bj cZ,bh cZ,ay 10 11 12 cP,bg cP,bj cP,bh cP,c8 5 (il .u8 a),c8 56 (fl tJ x.out)]:=by
 have h1:=hT.hd.dims.c0
 have h2:=hT.hd.dims.c1
 have h3:=hT.hd.dims.r0
 have h4:=hT.hd.dims.r1
 have hf:=hT.pos
 have hm:=hT.many
 have ha:=hT.all
 have hcr:1≤h.cols*h.rows∧h.cols*h.rows≤64:=jL hT.hd.dims
 refine cO Tryz.func12 ?_
 repeat' (first
  |(refine qz ?_;first
   |refine jq ?_ (hle:=by rw [bn])
   |refine cl ?_ (hi:=by exact kW hT.hd rfl)
   |refine cl ?_ (hi:=by exact ll hT.ph rfl)
   |refine cl ?_ (hi:=by exact Ao hT.byt hT.len hT.esc hT.size hT.fits rfl rfl nL nA rfl)
   |refine cl ?_ (hi:=by exact mT hT.hd rfl nL nA rfl))
  |refine zG ?_|refine zA ?_|refine cX (fun _=>?_) (fun _=>?_)|refine aS (fun _=>?_) (fun _=>?_)|refine zL ?_|refine zF ?_|fail)
 refine WX.dt rfl ?_
 refine WX.ek (σ:=TA) (fun s=>[(3,.one (.int .i64 first)),(4,.one (.int .i64 (n:Nat))),(14,.one (.ptr 14 0)),(16,.one (.ptr 16 0)),(17,iT 23 s.out.length 397),(18,.one (.int .i64 (s.out.length:Nat)))]) (fun s=>[cc 1 5 9,ay 2 3 4 cM,bg cM,bj cM,bh cM,ay 6 7 8 cZ,bg cZ,bj cZ,bh cZ,ay 10 11 12 cP,bg cP,bj cP,bh cP,c8 5 (il .u8 a),bD 15 q B s.r.1 s.r.2,aO q,Hj s.S 16,cH 18 s.S.cols s.S.rows,.map (bp s.S.M),HE s.S 16,.map (ah s.S.A),.map (ah s.S.B),.map (ah s.S.C),c8 56 (fl tJ s.out)]) (we B first n h.cols h.rows x) (fun s=>n-s.out.length) ⟨sR h p,(0,false),[]⟩ ⟨Nat.zero_le _,hx,rfl,rfl,qj,by have:=hT.ph.qp;show -1000000≤p.qp∧p.qp≤1000000;omega⟩ (fun s _=>mO) (br [0,1,2,3,4,5,6,7,8,9,10,11,12,13,16,17,18,19,20,21,22,23,24,25]) ?_
 intro s hs ih
 have hle:=hs.le
 have hn36:n≤64:=by omega
 have hlen:s.out.length≤64:=by omega
 by_cases hlt:s.out.length<n
 · obtain⟨b,hr⟩:∃ b,s.r.2=b:=⟨_,rfl⟩
   cases b with
   | false=>
     have t7:gG s.S.cols s.S.rows:=by rw [hs.cols,hs.rows];exact hT.hd.dims
     have hmb:0≤first+(s.out.length:Nat)∧first+(s.out.length:Nat)<s.S.cols*s.S.rows:=by rw [hs.cols,hs.rows];omega
     obtain⟨y,hy⟩:∃ y,dh s.S B (first+(s.out.length:Nat)) s.r=y:=⟨_,rfl⟩
     repeat' (first
      |(refine qz ?_;first
       |refine cl ?_ (hi:=by exact nS hr rfl rfl (by decide) rfl)
       |refine cl ?_ (hi:=by exact AJ hT.bits (S:=s.S) (r:=s.r) t7 hs.tiny hmb hs.qp hy (i:=14) (k:=15) (N:=16) rfl rfl rfl rfl (by decide) nA rfl)
       |refine pX (enc:=tJ) (a:=(y.1.m,y.2)) ?_
       |refine tD (enc:=tJ) ?_)
      |refine zG ?_|refine zA ?_|refine cX (fun _=>?_) (fun _=>?_)|refine aS (fun _=>?_) (fun _=>?_)|refine zL ?_|refine zF ?_|fail)
     have e0:mh B first s=⟨y.1.S,y.1.r,s.out++[(y.1.m,y.2)]⟩:=by unfold mh;rw [hy]
     have hnx:=sS hs hlt hr
     rw [e0]at hnx
     refine ih ⟨y.1.S,y.1.r,s.out++[(y.1.m,y.2)]⟩ _ _ _ (br [0,1,2,3,4,5,6,7,8,9,10,11,12,13,14,15,16,17,18,19,20,21,22,25] (obj:=by(repeat' (first|exact ae.nil|refine ae.flat (by rw [List.length_append];rfl) ?_|refine ae.flat rfl ?_|refine ae.cons rfl ?_|refine ae.dead rfl ?_|refine ae.cons (by simp only [ak.aw,List.map_cons,List.map_nil,XC.aw,au];exact rfl) ?_));first|done|fail) (reg:=by(repeat' (first|exact af.nil|refine af.flat (by rw [List.length_append];rfl) ?_|refine af.flat rfl ?_|refine af.cons rfl ?_|refine af.sl rfl (by assumption) rfl ?_|refine af.dX rfl rfl (by first|rfl|omega|(simp;done)|(simp;omega)) ?_));first|done|fail)) hnx (by show n-(s.out++[(y.1.m,y.2)]).length<n-s.out.length;rw [List.length_append];show n-(s.out.length+1)<_;omega)
   | true=>
     obtain rfl:=mj hs (.inr hr)
     repeat' (first
      |(refine qz ?_;first
       |refine cl ?_ (hi:=by exact nS hr rfl rfl (by decide) rfl)
       |refine cl ?_ (hi:=by exact rr he rfl rfl (by decide) rfl))
      |refine zG ?_|refine zA ?_|refine cX (fun _=>?_) (fun _=>?_)|refine aS (fun _=>?_) (fun _=>?_)|refine zL ?_|refine zF ?_|fail)
     show aF _ _ _ _ _ _ _ _;refine kV [0,1,2,3,4,5,6,7,8,9,10,11,12,13,23] ?_
     simp only [XV.aw,List.map_cons,List.map_nil,X1.aw,au];rfl
 · obtain rfl:=mj hs (.inl (by omega))
   repeat' (first
    |(refine qz ?_;first
     |refine cl ?_ (hi:=by exact rr he rfl rfl (by decide) rfl))
    |refine zG ?_|refine zA ?_|refine cX (fun _=>?_) (fun _=>?_)|refine aS (fun _=>?_) (fun _=>?_)|refine zL ?_|refine zF ?_|fail)
   show aF _ _ _ _ _ _ _ _;refine kV [0,1,2,3,4,5,6,7,8,9,10,11,12,13,23] ?_
   simp only [XV.aw,List.map_cons,List.map_nil,X1.aw,au];rfl
set_option maxRecDepth 10000 in
set_option maxHeartbeats 4000000 in
theorem Cf {h:Hd} {p:Ph} {a q:List Int} {B:List Bool} {first:Int} {n:Nat}(hT:o8 h p a q B first n) {x:TA}(hx:lA B first n ⟨sR h p,(0,false),[]⟩=x) {e:Int}(he:yC B x.r=e) (he0:e≠0) :
 bq Tryz.prog 12 [.one (.ptr 0 0),.agg (gC h),.agg (iC p),.one (.int .i64 first),.one (.int .i64 (n:Nat)),iT 13 a.length 1] [cc 1 5 9,ay 2 3 4 cM,bg cM,bj cM,bh cM,ay 6 7 8 cZ,bg cZ,bj cZ,bh cZ,ay 10 11 12 cP,bg cP,bj cP,bh cP,c8 5 (il .u8 a)] (.tup [.one .nils,.one (.int .i64 e)]) [cc 1 5 9,ay 2 3 4 cM,bg cM,bj cM,bh cM,ay 6 7 8 cZ,bg cZ,bj cZ,bh cZ,ay 10 11 12 cP,bg cP,bj cP,bh cP,c8 5 (il .u8 a)]:=by
 have h1:=hT.hd.dims.c0
 have h2:=hT.hd.dims.c1
 have h3:=hT.hd.dims.r0
 have h4:=hT.hd.dims.r1
 have hf:=hT.pos
 have hm:=hT.many
 have ha:=hT.all
 have hcr:1≤h.cols*h.rows∧h.cols*h.rows≤64:=jL hT.hd.dims
 refine cO Tryz.func12 ?_
 repeat' (first
  |(refine qz ?_;first
   |refine jq ?_ (hle:=by rw [bn])
   |refine cl ?_ (hi:=by exact kW hT.hd rfl)
   |refine cl ?_ (hi:=by exact ll hT.ph rfl)
   |refine cl ?_ (hi:=by exact Ao hT.byt hT.len hT.esc hT.size hT.fits rfl rfl nL nA rfl)
   |refine cl ?_ (hi:=by exact mT hT.hd rfl nL nA rfl))
  |refine zG ?_|refine zA ?_|refine cX (fun _=>?_) (fun _=>?_)|refine aS (fun _=>?_) (fun _=>?_)|refine zL ?_|refine zF ?_|fail)
 refine WX.dt rfl ?_
 refine WX.ek (σ:=TA) (fun s=>[(3,.one (.int .i64 first)),(4,.one (.int .i64 (n:Nat))),(14,.one (.ptr 14 0)),(16,.one (.ptr 16 0)),(17,iT 23 s.out.length 397),(18,.one (.int .i64 (s.out.length:Nat)))]) (fun s=>[cc 1 5 9,ay 2 3 4 cM,bg cM,bj cM,bh cM,ay 6 7 8 cZ,bg cZ,bj cZ,bh cZ,ay 10 11 12 cP,bg cP,bj cP,bh cP,c8 5 (il .u8 a),bD 15 q B s.r.1 s.r.2,aO q,Hj s.S 16,cH 18 s.S.cols s.S.rows,.map (bp s.S.M),HE s.S 16,.map (ah s.S.A),.map (ah s.S.B),.map (ah s.S.C),c8 56 (fl tJ s.out)]) (we B first n h.cols h.rows x) (fun s=>n-s.out.length) ⟨sR h p,(0,false),[]⟩ ⟨Nat.zero_le _,hx,rfl,rfl,qj,by have:=hT.ph.qp;show -1000000≤p.qp∧p.qp≤1000000;omega⟩ (fun s _=>mO) (br [0,1,2,3,4,5,6,7,8,9,10,11,12,13,16,17,18,19,20,21,22,23,24,25]) ?_
 intro s hs ih
 have hle:=hs.le
 have hn36:n≤64:=by omega
 have hlen:s.out.length≤64:=by omega
 by_cases hlt:s.out.length<n
 · obtain⟨b,hr⟩:∃ b,s.r.2=b:=⟨_,rfl⟩
   cases b with
   | false=>
     have t7:gG s.S.cols s.S.rows:=by rw [hs.cols,hs.rows];exact hT.hd.dims
     have hmb:0≤first+(s.out.length:Nat)∧first+(s.out.length:Nat)<s.S.cols*s.S.rows:=by rw [hs.cols,hs.rows];omega
     obtain⟨y,hy⟩:∃ y,dh s.S B (first+(s.out.length:Nat)) s.r=y:=⟨_,rfl⟩
     repeat' (first
      |(refine qz ?_;first
       |refine cl ?_ (hi:=by exact nS hr rfl rfl (by decide) rfl)
       |refine cl ?_ (hi:=by exact AJ hT.bits (S:=s.S) (r:=s.r) t7 hs.tiny hmb hs.qp hy (i:=14) (k:=15) (N:=16) rfl rfl rfl rfl (by decide) nA rfl)
       |refine pX (enc:=tJ) (a:=(y.1.m,y.2)) ?_
       |refine tD (enc:=tJ) ?_)
      |refine zG ?_|refine zA ?_|refine cX (fun _=>?_) (fun _=>?_)|refine aS (fun _=>?_) (fun _=>?_)|refine zL ?_|refine zF ?_|fail)
     have e0:mh B first s=⟨y.1.S,y.1.r,s.out++[(y.1.m,y.2)]⟩:=by unfold mh;rw [hy]
     have hnx:=sS hs hlt hr
     rw [e0]at hnx
     refine ih ⟨y.1.S,y.1.r,s.out++[(y.1.m,y.2)]⟩ _ _ _ (br [0,1,2,3,4,5,6,7,8,9,10,11,12,13,14,15,16,17,18,19,20,21,22,25] (obj:=by(repeat' (first|exact ae.nil|refine ae.flat (by rw [List.length_append];rfl) ?_|refine ae.flat rfl ?_|refine ae.cons rfl ?_|refine ae.dead rfl ?_|refine ae.cons (by simp only [ak.aw,List.map_cons,List.map_nil,XC.aw,au];exact rfl) ?_));first|done|fail) (reg:=by(repeat' (first|exact af.nil|refine af.flat (by rw [List.length_append];rfl) ?_|refine af.flat rfl ?_|refine af.cons rfl ?_|refine af.sl rfl (by assumption) rfl ?_|refine af.dX rfl rfl (by first|rfl|omega|(simp;done)|(simp;omega)) ?_));first|done|fail)) hnx (by show n-(s.out++[(y.1.m,y.2)]).length<n-s.out.length;rw [List.length_append];show n-(s.out.length+1)<_;omega)
   | true=>
     obtain rfl:=mj hs (.inr hr)
     repeat' (first
      |(refine qz ?_;first
       |refine cl ?_ (hi:=by exact nS hr rfl rfl (by decide) rfl)
       |refine cl ?_ (hi:=by exact rr he rfl rfl (by decide) rfl))
      |refine zG ?_|refine zA ?_|refine cX (fun _=>?_) (fun _=>?_)|refine aS (fun _=>?_) (fun _=>?_)|refine zL ?_|refine zF ?_|fail)
     show aF _ _ _ _ _ _ _ _;refine kV [0,1,2,3,4,5,6,7,8,9,10,11,12,13] ?_
     rfl
 · obtain rfl:=mj hs (.inl (by omega))
   repeat' (first
    |(refine qz ?_;first
     |refine cl ?_ (hi:=by exact rr he rfl rfl (by decide) rfl))
    |refine zG ?_|refine zA ?_|refine cX (fun _=>?_) (fun _=>?_)|refine aS (fun _=>?_) (fun _=>?_)|refine zL ?_|refine zF ?_|fail)
   show aF _ _ _ _ _ _ _ _;refine kV [0,1,2,3,4,5,6,7,8,9,10,11,12,13] ?_
   rfl
end Go.Proofs.YtagpkhindehcbaaGreat
