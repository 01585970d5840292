/-
  A part of the proof: Put3, Undiff, CodeLaw, Undiff2, StaR, Firsts, OutL, TakeF, MbLaw, Begin, InPlace, Put4, PutLaw.
-/
import Derived.Test.YtagpkhindehcbaaGreatKbI
import Derived.Test.YtagpkhindehcbaaGreatKbO
import Derived.Test.YtagpkhindehcbaaGreatKbQ
import Derived.Test.YtagpkhindehcbaaGreatKbR
import Derived.Test.YtagpkhindehcbaaGreatKbT
import Derived.Test.YtagpkhindehcbaaGreatKbU
import Derived.Test.YtagpkhindehcbaaGreatKbV
set_option linter.unusedVariables false
set_option linter.unusedSectionVars false
set_option linter.unusedSimpArgs false
namespace Go.Proofs.YtagpkhindehcbaaGreat
open Go.Xm
variable [aC]
set_option maxRecDepth 10000 in
set_option maxHeartbeats 4000000 in
theorem KY {S:bX} {B bw:List Bool} {m:Mb} {mb:Int}(hP:kg S B bw m mb) (hk:m.kind=3) (x:o4) (hx:gY m mb ⟨ba S mb m.v,((B++aA S m)++[m.edge]),0,0,fun _=>[]⟩ 6=some x) :
 bq Tryz.prog 29 [.one (.ptr 2 0),.one (.ptr 0 0),.one (.ptr 22 0),.one (.int .i64 mb),.agg (mC m)] [aN 1 B,av B,dS (S),cc 4 8 12,ay 5 6 7 cM,bg cM,bj cM,bh cM,ay 9 10 11 cZ,bg cZ,bj cZ,bh cZ,ay 13 14 15 cP,bg cP,bj cP,bh cP,cH 17 (S).cols (S).rows,.map (bp (S).M),.cells [.int .i64 (S).cols,.int .i64 (S).rows,.map 19,.map 20,.map 21] 171 false false,.map (ah (S).A),.map (ah (S).B),.map (ah (S).C),aN 23 bw,av bw] (.one (.int .i64 0)) [aN 24 (eF x),.dead,dS (x.S),cc 4 8 12,ay 5 6 7 cM,bg cM,bj cM,bh cM,ay 9 10 11 cZ,bg cZ,bj cZ,bh cZ,ay 13 14 15 cP,bg cP,bj cP,bh cP,cH 17 (x.S).cols (x.S).rows,.map (bp (x.S).M),.cells [.int .i64 (x.S).cols,.int .i64 (x.S).rows,.map 19,.map 20,.map 21] 171 false false,.map (ah (x.S).A),.map (ah (x.S).B),.map (ah (x.S).C),aN 25 (bC bw x 6),.dead,av (eF x),av (bC bw x 6)]:=by
 have hg:=hP.good
 have hm:=hg.ok
 have hD:=hP.st.dims
 have hmb:=hP.mb
 have hlen:=hP.len
 have hkl:=fu S m
 have hK:=ia B S m hm hg.kind hP.qp (by omega)
 rw [dA (by omega)]at hK
 have htE:cg S.M:=hP.st.tiny
 have hS2:gP (ba S mb m.v):=⟨hD,hP.st.lev,eg htE hm.v⟩
 have hB2:(((B++aA S m)++[m.edge])).length≤700000:=by
  show(((B++aA S m)++[m.edge])).length≤700000
  simp only [List.length_append,List.length_cons,List.length_nil]
  omega
 refine cO Tryz.func29 ?_
 repeat' (first
  |(refine qz ?_;first
   |refine jq ?_ (hle:=by rw [aL])
   |refine cl ?_ (hi:=by exact pH (S:=S) (S':=S) (bs:=B) (bs':=B++aA S m) (fun _ => .flat .nil) (.flat .nil) rfl hK rfl rfl rfl rfl nL nA rfl)
   |refine cl ?_ (hi:=by exact jY (b:=m.edge) (bs:=(B++aA S m)) (by simp only [List.length_append];omega) rfl rfl (by decide) nL nA rfl)
   |refine cl ?_ (hi:=by exact iw (S:=S) (bs:=((B++aA S m)++[m.edge])) hD hmb rfl rfl rfl rfl nA rfl)
   |refine cl ?_ (hi:=by exact nF (B:=((B++aA S m)++[m.edge])) (S:=ba S mb m.v) (nG (((B++aA S m)++[m.edge])) bw (ba S mb m.v) m mb hg hS2 hmb hB2 (by have:=hP.lenw;omega) x hx) rfl rfl rfl rfl rfl rfl nL nA rfl))
  |refine zG ?_|refine zA ?_|refine cX (fun _=>?_) (fun _=>?_)|refine aS (fun _=>?_) (fun _=>?_)|refine zL ?_|refine zF ?_|fail)
 show aF _ _ _ _ _ _ _ _;refine kV [0,1,2,3,4,5,6,7,8,9,10,11,12,13,14,15,16,17,18,19,20,21,22,23,27,28] ?_
 rfl
set_option maxRecDepth 10000 in
set_option maxHeartbeats 4000000 in
theorem JG {S:bX} {B bw:List Bool} {m:Mb} {mb:Int}(hP:kg S B bw m mb) (hk:m.kind=3) (hx:gY m mb ⟨ba S mb m.v,((B++aA S m)++[m.edge]),0,0,fun _=>[]⟩ 6=none) :
 bq Tryz.prog 29 [.one (.ptr 2 0),.one (.ptr 0 0),.one (.ptr 22 0),.one (.int .i64 mb),.agg (mC m)] [aN 1 B,av B,dS (S),cc 4 8 12,ay 5 6 7 cM,bg cM,bj cM,bh cM,ay 9 10 11 cZ,bg cZ,bj cZ,bh cZ,ay 13 14 15 cP,bg cP,bj cP,bh cP,cH 17 (S).cols (S).rows,.map (bp (S).M),.cells [.int .i64 (S).cols,.int .i64 (S).rows,.map 19,.map 20,.map 21] 171 false false,.map (ah (S).A),.map (ah (S).B),.map (ah (S).C),aN 23 bw,av bw] (.one (.int .i64 2)) mD:=by
 have hg:=hP.good
 have hm:=hg.ok
 have hD:=hP.st.dims
 have hmb:=hP.mb
 have hlen:=hP.len
 have hkl:=fu S m
 have hK:=ia B S m hm hg.kind hP.qp (by omega)
 rw [dA (by omega)]at hK
 have htE:cg S.M:=hP.st.tiny
 have hS2:gP (ba S mb m.v):=⟨hD,hP.st.lev,eg htE hm.v⟩
 have hB2:(((B++aA S m)++[m.edge])).length≤700000:=by
  show(((B++aA S m)++[m.edge])).length≤700000
  simp only [List.length_append,List.length_cons,List.length_nil]
  omega
 refine cO Tryz.func29 ?_
 repeat' (first
  |(refine qz ?_;first
   |refine jq ?_ (hle:=by rw [aL])
   |refine cl ?_ (hi:=by exact pH (S:=S) (S':=S) (bs:=B) (bs':=B++aA S m) (fun _ => .flat .nil) (.flat .nil) rfl hK rfl rfl rfl rfl nL nA rfl)
   |refine cl ?_ (hi:=by exact jY (b:=m.edge) (bs:=(B++aA S m)) (by simp only [List.length_append];omega) rfl rfl (by decide) nL nA rfl)
   |refine cl ?_ (hi:=by exact iw (S:=S) (bs:=((B++aA S m)++[m.edge])) hD hmb rfl rfl rfl rfl nA rfl)
   |refine cl ?_ (hi:=by exact lO (B:=((B++aA S m)++[m.edge])) (S:=ba S mb m.v) (lQ (((B++aA S m)++[m.edge])) bw (ba S mb m.v) m mb hg hS2 hmb hB2 (by have:=hP.lenw;omega) hx) rfl rfl rfl rfl rfl rfl nL nA rfl))
  |refine zG ?_|refine zA ?_|refine cX (fun _=>?_) (fun _=>?_)|refine aS (fun _=>?_) (fun _=>?_)|refine zL ?_|refine zF ?_|fail)
 show aF _ _ _ _ _ _ _ _;refine kV [0,1,2,3,4,5,6,7,8,9,10,11,12,13,14,15,16,17,18,19,20,21,22,23] ?_
 rfl
set_option maxRecDepth 10000 in
set_option maxHeartbeats 4000000 in
theorem KZ {S:bX} {B bw:List Bool} {m:Mb} {mb:Int}(hP:kg S B bw m mb) (hk:m.kind=4) (x:o4) (hx:gY m mb ⟨ba ({S with qp:=m.qp}:bX) mb m.v,((B++aA S m)++[m.edge]),0,0,fun _=>[]⟩ 6=some x) :
 bq Tryz.prog 29 [.one (.ptr 2 0),.one (.ptr 0 0),.one (.ptr 22 0),.one (.int .i64 mb),.agg (mC m)] [aN 1 B,av B,dS (S),cc 4 8 12,ay 5 6 7 cM,bg cM,bj cM,bh cM,ay 9 10 11 cZ,bg cZ,bj cZ,bh cZ,ay 13 14 15 cP,bg cP,bj cP,bh cP,cH 17 (S).cols (S).rows,.map (bp (S).M),.cells [.int .i64 (S).cols,.int .i64 (S).rows,.map 19,.map 20,.map 21] 171 false false,.map (ah (S).A),.map (ah (S).B),.map (ah (S).C),aN 23 bw,av bw] (.one (.int .i64 0)) [aN 24 (eF x),.dead,dS (x.S),cc 4 8 12,ay 5 6 7 cM,bg cM,bj cM,bh cM,ay 9 10 11 cZ,bg cZ,bj cZ,bh cZ,ay 13 14 15 cP,bg cP,bj cP,bh cP,cH 17 (x.S).cols (x.S).rows,.map (bp (x.S).M),.cells [.int .i64 (x.S).cols,.int .i64 (x.S).rows,.map 19,.map 20,.map 21] 171 false false,.map (ah (x.S).A),.map (ah (x.S).B),.map (ah (x.S).C),aN 25 (bC bw x 6),.dead,av (eF x),av (bC bw x 6)]:=by
 have hg:=hP.good
 have hm:=hg.ok
 have hD:=hP.st.dims
 have hmb:=hP.mb
 have hlen:=hP.len
 have hkl:=fu S m
 have hK:=ia B S m hm hg.kind hP.qp (by omega)
 rw [m5 hk]at hK
 have htE:cg S.M:=hP.st.tiny
 have hS2:gP (ba ({S with qp:=m.qp}:bX) mb m.v):=⟨hD,hP.st.lev,eg htE hm.v⟩
 have hB2:(((B++aA S m)++[m.edge])).length≤700000:=by
  show(((B++aA S m)++[m.edge])).length≤700000
  simp only [List.length_append,List.length_cons,List.length_nil]
  omega
 refine cO Tryz.func29 ?_
 repeat' (first
  |(refine qz ?_;first
   |refine jq ?_ (hle:=by rw [aL])
   |refine cl ?_ (hi:=by exact pH (S:=S) (S':={S with qp:=m.qp}) (bs:=B) (bs':=B++aA S m) (fun _ => .flat .nil) (.flat .nil) rfl hK rfl rfl rfl rfl nL nA rfl)
   |refine cl ?_ (hi:=by exact jY (b:=m.edge) (bs:=(B++aA S m)) (by simp only [List.length_append];omega) rfl rfl (by decide) nL nA rfl)
   |refine cl ?_ (hi:=by exact iw (S:=({S with qp:=m.qp}:bX)) (bs:=((B++aA S m)++[m.edge])) hD hmb rfl rfl rfl rfl nA rfl)
   |refine cl ?_ (hi:=by exact nF (B:=((B++aA S m)++[m.edge])) (S:=ba ({S with qp:=m.qp}:bX) mb m.v) (nG (((B++aA S m)++[m.edge])) bw (ba ({S with qp:=m.qp}:bX) mb m.v) m mb hg hS2 hmb hB2 (by have:=hP.lenw;omega) x hx) rfl rfl rfl rfl rfl rfl nL nA rfl))
  |refine zG ?_|refine zA ?_|refine cX (fun _=>?_) (fun _=>?_)|refine aS (fun _=>?_) (fun _=>?_)|refine zL ?_|refine zF ?_|fail)
 show aF _ _ _ _ _ _ _ _;refine kV [0,1,2,3,4,5,6,7,8,9,10,11,12,13,14,15,16,17,18,19,20,21,22,23,27,28] ?_
 rfl
set_option maxRecDepth 10000 in
set_option maxHeartbeats 4000000 in
theorem JH {S:bX} {B bw:List Bool} {m:Mb} {mb:Int}(hP:kg S B bw m mb) (hk:m.kind=4) (hx:gY m mb ⟨ba ({S with qp:=m.qp}:bX) mb m.v,((B++aA S m)++[m.edge]),0,0,fun _=>[]⟩ 6=none) :
 bq Tryz.prog 29 [.one (.ptr 2 0),.one (.ptr 0 0),.one (.ptr 22 0),.one (.int .i64 mb),.agg (mC m)] [aN 1 B,av B,dS (S),cc 4 8 12,ay 5 6 7 cM,bg cM,bj cM,bh cM,ay 9 10 11 cZ,bg cZ,bj cZ,bh cZ,ay 13 14 15 cP,bg cP,bj cP,bh cP,cH 17 (S).cols (S).rows,.map (bp (S).M),.cells [.int .i64 (S).cols,.int .i64 (S).rows,.map 19,.map 20,.map 21] 171 false false,.map (ah (S).A),.map (ah (S).B),.map (ah (S).C),aN 23 bw,av bw] (.one (.int .i64 2)) mD:=by
 have hg:=hP.good
 have hm:=hg.ok
 have hD:=hP.st.dims
 have hmb:=hP.mb
 have hlen:=hP.len
 have hkl:=fu S m
 have hK:=ia B S m hm hg.kind hP.qp (by omega)
 rw [m5 hk]at hK
 have htE:cg S.M:=hP.st.tiny
 have hS2:gP (ba ({S with qp:=m.qp}:bX) mb m.v):=⟨hD,hP.st.lev,eg htE hm.v⟩
 have hB2:(((B++aA S m)++[m.edge])).length≤700000:=by
  show(((B++aA S m)++[m.edge])).length≤700000
  simp only [List.length_append,List.length_cons,List.length_nil]
  omega
 refine cO Tryz.func29 ?_
 repeat' (first
  |(refine qz ?_;first
   |refine jq ?_ (hle:=by rw [aL])
   |refine cl ?_ (hi:=by exact pH (S:=S) (S':={S with qp:=m.qp}) (bs:=B) (bs':=B++aA S m) (fun _ => .flat .nil) (.flat .nil) rfl hK rfl rfl rfl rfl nL nA rfl)
   |refine cl ?_ (hi:=by exact jY (b:=m.edge) (bs:=(B++aA S m)) (by simp only [List.length_append];omega) rfl rfl (by decide) nL nA rfl)
   |refine cl ?_ (hi:=by exact iw (S:=({S with qp:=m.qp}:bX)) (bs:=((B++aA S m)++[m.edge])) hD hmb rfl rfl rfl rfl nA rfl)
   |refine cl ?_ (hi:=by exact lO (B:=((B++aA S m)++[m.edge])) (S:=ba ({S with qp:=m.qp}:bX) mb m.v) (lQ (((B++aA S m)++[m.edge])) bw (ba ({S with qp:=m.qp}:bX) mb m.v) m mb hg hS2 hmb hB2 (by have:=hP.lenw;omega) hx) rfl rfl rfl rfl rfl rfl nL nA rfl))
  |refine zG ?_|refine zA ?_|refine cX (fun _=>?_) (fun _=>?_)|refine aS (fun _=>?_) (fun _=>?_)|refine zL ?_|refine zF ?_|fail)
 show aF _ _ _ _ _ _ _ _;refine kV [0,1,2,3,4,5,6,7,8,9,10,11,12,13,14,15,16,17,18,19,20,21,22,23] ?_
 rfl
end Go.Proofs.YtagpkhindehcbaaGreat
namespace Go.Proofs.YtagpkhindehcbaaGreat
open Go.Xm
variable [aC]
def jT (B:List Bool):Nat→Int→Nat × Bool→Int × (Nat × Bool)
 | 0,x,r=>(x,r)
 | n+1,x,r=>jT B n (2*x+b2 (dv B r)) (bT B r)
def bU (B:List Bool) (n:Nat) (r:Nat × Bool):Int × (Nat × Bool):=(if(jT B n 0 r).2.2=true then 0 else(jT B n 0 r).1,(jT B n 0 r).2)
theorem sB {j:Nat}(h:j≤32):(2:Int)^j≤4294967296:=by
 have h1:=Nat.pow_le_pow_right (show 0<2 by decide) h
 have h2:((2^j:Nat):Int)≤((2^32:Nat):Int):=Int.ofNat_le.2 h1
 rw [Int.natCast_pow]at h2
 exact h2
set_option maxRecDepth 10000 in
set_option maxHeartbeats 1000000 in
theorem BK {L:List Int} {B:List Bool}(h:du L B) (r:Nat × Bool) (n:Nat) (hn:n≤32) :
 bq Tryz.prog 65 [.one (.ptr 0 0),.one (.int .i64 (n:Nat))] (RH L B r.1 r.2) (.one (.int .u64 (bU B n r).1)) (RH L B (bU B n r).2.1 (bU B n r).2.2):=by
 obtain⟨q,hq⟩:∃ q,jT B n 0 r=q:=⟨_,rfl⟩
 unfold bU
 rw [hq]
 refine cO Tryz.func65 ?_
 repeat' (first|refine zG ?_|refine zA ?_|refine cX (fun _=>?_) (fun _=>?_)|refine aS (fun _=>?_) (fun _=>?_)|refine zL ?_|refine zF ?_|fail)
 refine WX.ek (σ:=Nat × Int × (Nat × Bool)) (fun s=>[(8,.one (.int .i64 (s.1:Nat))),(5,.one (.int .u64 s.2.1)),(0,.one (.ptr 0 0)),(7,.one (.int .i64 (n:Nat)))]) (fun s=>RH L B s.2.2.1 s.2.2.2) (fun s=>s.1≤n∧0≤s.2.1∧s.2.1<2^s.1∧jT B (n-s.1) s.2.1 s.2.2=q) (fun s=>n-s.1) (0,0,r) ⟨by show 0≤n;omega,by show(0:Int)≤0;omega,by show(0:Int)<2^0;decide,by show jT B (n-0) 0 r=q;rw [Nat.sub_zero];exact hq⟩ (fun s _=>mO) (br [0,1]) ?_
 intro s ⟨h1,h2,h3,h4⟩ ih
 have hp:=sB (j:=s.1) (by omega)
 by_cases hlt:s.1<n
 · have hb:=wi (dv B s.2.2)
   have hio:Ae .u64 (s.2.1*2^1) (b2 (dv B s.2.2))=2*s.2.1+b2 (dv B s.2.2):=wN .u64 rfl h2 (by omega) hb (fun y g0 g1=>fN (k := .u64) ⟨by show 0≤y;omega,by show y<18446744073709551616;omega⟩)
   obtain⟨k,hk⟩:∃ k,n-s.1=k+1:=⟨n-s.1-1,by omega⟩
   rw [hk,jT]at h4
   repeat' (first
    |(refine qz ?_;first
     |refine yb (n:=1) ?_
     |refine cl ?_ (hi:=by exact pA h s.2.2 rfl rfl rfl (by decide) nL rfl))
    |refine zG ?_|refine zA ?_|refine cX (fun _=>?_) (fun _=>?_)|refine aS (fun _=>?_) (fun _=>?_)|refine zL ?_|refine zF ?_|fail)
   refine ih (s.1+1,2*s.2.1+b2 (dv B s.2.2),bT B s.2.2) _ _ _ (br [0,1] (reg:=by(repeat' (first|exact af.nil|refine af.flat (by rw [←hio];rfl) ?_|refine af.flat rfl ?_|refine af.cons rfl ?_|refine af.sl rfl (by assumption) rfl ?_|refine af.dX rfl rfl (by first|rfl|omega|(simp;done)|(simp;omega)) ?_));first|done|fail)) ⟨by show s.1+1≤n;omega,by show 0≤2*s.2.1+b2 (dv B s.2.2);omega,?_,?_⟩ (by show n-(s.1+1)<n-s.1;omega)
   · show 2*s.2.1+b2 (dv B s.2.2)<2^(s.1+1)
     rw [Int.pow_succ];omega
   · show jT B (n-(s.1+1)) (2*s.2.1+b2 (dv B s.2.2)) (bT B s.2.2)=q
     rw [show n-(s.1+1)=k by omega];exact h4
 · have e0:n-s.1=0:=by omega
   rw [e0,jT]at h4
   subst h4
   repeat' (first
    |(refine qz ?_;first
     |refine rP (fun ge=>?_) (fun ge=>?_) (hi:=by exact lp rfl rfl (by decide) rfl))
    |refine zG ?_|refine zA ?_|refine cX (fun _=>?_) (fun _=>?_)|refine aS (fun _=>?_) (fun _=>?_)|refine zL ?_|refine zF ?_|fail)
   · rw [if_pos ge]
     show aF _ _ _ _ _ _ _ _;refine kV [0,1] ?_
     rfl
   · rw [if_neg (by rw [ge];decide)]
     show aF _ _ _ _ _ _ _ _;refine kV [0,1] ?_
     rfl
theorem pB {L:List Int} {B:List Bool}(h:du L B) (r:Nat × Bool) {n:Nat} {z:Int}(hz:z=(n:Nat)) (hn:n≤32) {HS:aq} {i k:Nat}(hi:HS[i]? = some (bD k L B r.1 r.2)) (hk:HS[k]? = some (aO L)) (hd:i≠k) {HS':aq}(hh:HS.set i (bD k L B (bU B n r).2.1 (bU B n r).2.2)=HS') (hbd:Nat.blt HS'.length Mem.bound=true) :
 aG.Sound Tryz.prog ⟨65,[.one (.ptr i 0),.one (.int .i64 z)],HS,.one (.int .u64 (bU B n r).1),HS',[i]⟩:=by
 subst hz
 exact xj (fun _ => .flat .nil) (.flat .nil) (BK h r n hn) hi hk hd hh hbd
end Go.Proofs.YtagpkhindehcbaaGreat
namespace Go.Proofs.YtagpkhindehcbaaGreat
open Go.Xm
variable [aC]
theorem uo (n:Int):∀(k:Nat) (x:Int) (pre rest:List Bool),jT (pre++(dW n k++rest)) k x (pre.length,false)=(x*2^k+n%2^k,(pre.length+k,false))
 | 0,x,pre,rest=>by simp [jT]
 | k + 1,x,pre,rest=>by
   rw [jT,dW]
   obtain⟨a1,a2⟩:=oU pre (decide (n/2^k%2=1)) (dW n k++rest)
   rw [List.cons_append,a1,a2]
   have e1:pre++(decide (n/2^k%2=1)::(dW n k++rest))=(pre++[decide (n/2^k%2=1)])++(dW n k++rest):=by simp
   have e2:(pre.length+1,false)=((pre++[decide (n/2^k%2=1)]).length,false):=by simp
   rw [e1,e2,uo n k]
   have h2:(0:Int)<2^k:=Int.pow_pos (by decide)
   have hm:n%2^(k+1)=(n/2^k%2)*2^k+n%2^k:=by
    rw [Int.pow_succ]
    have h3:=Int.emod_add_mul_ediv n (2^k)
    have h4:=Int.emod_add_mul_ediv (n/2^k) 2
    have h5:=Int.emod_nonneg n (show(2:Int)^k≠0 by omega)
    have h6:=Int.emod_lt_of_pos n h2
    have h7:0≤n/2^k%2∧n/2^k%2≤1:=by omega
    have h8:n=(2^k*2)*(n/2^k/2)+((n/2^k%2)*2^k+n%2^k):=by
     have:2^k*(n/2^k)=2^k*(n/2^k%2)+2^k*(2*(n/2^k/2)):=by rw [←Int.mul_add,h4]
     have e:2^k*(2*(n/2^k/2))=(2^k*2)*(n/2^k/2):=by rw [Int.mul_assoc]
     have e':2^k*(n/2^k%2)=(n/2^k%2)*2^k:=Int.mul_comm _ _
     omega
    have h9:0≤(n/2^k%2)*2^k+n%2^k∧(n/2^k%2)*2^k+n%2^k<2^k*2:=by
     rcases(show n/2^k%2=0∨n/2^k%2=1 by omega)with e|e <;> rw [e] <;> omega
    have h10:=Int.emod_eq_of_lt h9.1 h9.2
    rw [←h10]
    conv=>lhs;rw [h8,Int.add_comm,Int.add_mul_emod_self_left]
   have hb:b2 (decide (n/2^k%2=1))=n/2^k%2:=by
    unfold b2
    by_cases h:n/2^k%2=1
    · rw [decide_eq_true h,h];rfl
    · rw [decide_eq_false h]
      have:n/2^k%2=0:=by omega
      rw [this];rfl
   rw [hb,hm]
   refine Prod.ext ?_ ?_
   · show(2*x+n/2^k%2)*2^k+n%2^k=x*2^(k+1)+(n/2^k%2*2^k+n%2^k)
     rw [Int.pow_succ,Int.add_mul]
     have:2*x*2^k=x*(2^k*2):=by rw [Int.mul_comm 2 x,Int.mul_assoc,Int.mul_comm 2 (2^k)]
     omega
   · show((pre++[_]).length+k,false)=(pre.length+(k+1),false)
     simp;omega
theorem tV {n:Int} {k:Nat}(hn:0≤n∧n<2^k) (pre rest:List Bool):bU (pre++(dW n k++rest)) k (pre.length,false)=(n,(pre.length+k,false)):=by
 unfold bU
 rw [uo]
 simp only [Bool.false_eq_true,if_false,Int.zero_mul,Int.zero_add,Int.emod_eq_of_lt hn.1 hn.2]
def uF (C:Cd):List Bool→Int→Option Int
 | [],_=>none
 | b::w,x=>
   if C.T.getD (x.toNat*2+(b2 b%2^1).toNat) 0=0 then none
   else if C.T.getD (x.toNat*2+(b2 b%2^1).toNat) 0<0 then(if w = []then some (-1-C.T.getD (x.toNat*2+(b2 b%2^1).toNat) 0)else none)
   else uF C w (C.T.getD (x.toNat*2+(b2 b%2^1).toNat) 0)
theorem n6 (C:Cd):∀(w:List Bool) (x n:Int) (f:Nat) (pre rest:List Bool),uF C w x=some n→w.length≤f→rT C (pre++(w++rest)) f x (pre.length,false)=(n,(pre.length+w.length,false))
 | [],x,n,f,pre,rest,h,_=>by cases h
 | b::w,x,n,0,pre,rest,h,hf=>by simp at hf
 | b :: w,x,n,f+1,pre,rest,h,hf=>by
   rw [rT,List.cons_append]
   obtain⟨a1,a2⟩:=oU pre b (w++rest)
   rw [a1,a2]
   unfold uF at h
   by_cases h0:C.T.getD (x.toNat*2+(b2 b%2^1).toNat) 0=0
   · rw [if_pos h0]at h;cases h
   · rw [if_neg h0]at h
     rw [if_neg (by simp;exact h0)]
     by_cases h1:C.T.getD (x.toNat*2+(b2 b%2^1).toNat) 0<0
     · rw [if_pos h1]at h ⊢
       by_cases hw:w = []
       · rw [if_pos hw]at h
         cases h
         subst hw
         rfl
       · rw [if_neg hw]at h;cases h
     · rw [if_neg h1]at h ⊢
       have e1:pre++(b::(w++rest))=(pre++[b])++(w++rest):=by simp
       have e2:(pre.length+1,false)=((pre++[b]).length,false):=by simp
       rw [e1,e2,n6 C w _ n f (pre++[b]) rest h (by simpa using hf)]
       simp;omega
theorem Is:∀ n:Fin 5,uF cM (c7 cM n.val) 0=some (n.val:Int)∧(c7 cM n.val).length≤cM.T.length/2:=by decide +kernel
theorem Iu:∀ n:Fin 13,uF cZ (c7 cZ n.val) 0=some (n.val:Int)∧(c7 cZ n.val).length≤cZ.T.length/2:=by decide +kernel
theorem It:∀ n:Fin 16,uF cP (c7 cP n.val) 0=some (n.val:Int)∧(c7 cP n.val).length≤cP.T.length/2:=by decide +kernel
theorem yR {n:Nat}(h:n<5) (pre rest:List Bool):ki cM (pre++(c7 cM n++rest)) (pre.length,false)=((n:Int),(pre.length+(c7 cM n).length,false)):=
 n6 cM _ 0 _ _ pre rest (Is ⟨n,h⟩).1 (Is ⟨n,h⟩).2
theorem zb {n:Nat}(h:n<13) (pre rest:List Bool):ki cZ (pre++(c7 cZ n++rest)) (pre.length,false)=((n:Int),(pre.length+(c7 cZ n).length,false)):=
 n6 cZ _ 0 _ _ pre rest (Iu ⟨n,h⟩).1 (Iu ⟨n,h⟩).2
theorem tL {n:Nat}(h:n<16) (pre rest:List Bool):ki cP (pre++(c7 cP n++rest)) (pre.length,false)=((n:Int),(pre.length+(c7 cP n).length,false)):=
 n6 cP _ 0 _ _ pre rest (It ⟨n,h⟩).1 (It ⟨n,h⟩).2
end Go.Proofs.YtagpkhindehcbaaGreat
namespace Go.Proofs.YtagpkhindehcbaaGreat
open Go.Xm
variable [aC]
theorem mW {C:Cd} {K:Int}(hK:0≤K) (h:∀ j,-(K+1)≤C.T.getD j 0) (B:List Bool):∀(k:Nat) (x:Int) (r:Nat × Bool),0≤(rT C B k x r).1∧(rT C B k x r).1≤K
 | 0,x,r=>⟨Int.le_refl _,hK⟩
 | k + 1,x,r=>by
   unfold rT
   split
   · exact⟨Int.le_refl _,hK⟩
   · split
     · rename_i h1
       have:=h (x.toNat*2+(b2 (dv B r)%2^1).toNat)
       show 0 ≤ -1-C.T.getD _ 0 ∧ -1-C.T.getD _ 0≤K
       omega
     · exact mW hK h B k _ _
theorem C_ (j:Nat) : -(12+1)≤cZ.T.getD j 0:=jd (p:=fun x => -(12+1)≤x) (by decide) (by decide) j
theorem ID (j:Nat) : -(4+1)≤cM.T.getD j 0:=jd (p:=fun x => -(4+1)≤x) (by decide) (by decide) j
theorem IE (j:Nat) : -(15+1)≤cP.T.getD j 0:=jd (p:=fun x => -(15+1)≤x) (by decide) (by decide) j
theorem uq (B:List Bool):∀(n:Nat) (x:Int) (r:Nat × Bool),0≤x→0≤(jT B n x r).1∧(jT B n x r).1<(x+1)*2^n
 | 0,x,r,h=>⟨h,by show x<(x+1)*2^0;omega⟩
 | n+1,x,r,h=>by
   have hb:=wi (dv B r)
   have ih:=uq B n (2*x+b2 (dv B r)) (bT B r) (by omega)
   refine⟨ih.1,Int.lt_of_lt_of_le ih.2 ?_⟩
   rw [Int.pow_succ,Int.mul_comm (2^n) 2,←Int.mul_assoc]
   exact Int.mul_le_mul_of_nonneg_right (by omega) (Int.le_of_lt (Int.pow_pos (by decide)))
theorem lP (B:List Bool) (n:Nat) (r:Nat × Bool):0≤(bU B n r).1∧(bU B n r).1<2^n:=by
 have h:=uq B n 0 r (Int.le_refl _)
 have hp:(0:Int)<2^n:=Int.pow_pos (by decide)
 unfold bU
 simp only []
 split
 · omega
 · rw [Int.zero_add,Int.one_mul]at h;exact h
def cE (B:List Bool) (r:Nat × Bool):Nat:=(ki cZ B r).1.toNat
def lB (B:List Bool) (r:Nat × Bool):Int × (Nat × Bool):=bU B (cE B r) (ki cZ B r).2
def fk (B:List Bool) (r:Nat × Bool):Int × (Nat × Bool):=
 if 0<cE B r∧(lB B r).1<1*2^(cE B r-1)then
  ((lB B r).1-(1*2^cE B r-1),if(lB B r).1-(1*2^cE B r-1)=0 then((lB B r).2.1,true)else(lB B r).2)
 else lB B r
set_option maxRecDepth 10000 in
set_option maxHeartbeats 1000000 in
theorem HL {L:List Int} {B:List Bool}(h:du L B) (r:Nat × Bool) (S:bX) :
 bq Tryz.prog 96 [.one (.ptr 2 0),.one (.ptr 0 0)] [bD 1 L B r.1 r.2,aO L,dS (S),cc 4 8 12,ay 5 6 7 cM,bg cM,bj cM,bh cM,ay 9 10 11 cZ,bg cZ,bj cZ,bh cZ,ay 13 14 15 cP,bg cP,bj cP,bh cP,cH 17 (S).cols (S).rows,.map (bp (S).M),.cells [.int .i64 (S).cols,.int .i64 (S).rows,.map 19,.map 20,.map 21] 171 false false,.map (ah (S).A),.map (ah (S).B),.map (ah (S).C)] (.one (.int .i64 (fk B r).1)) [bD 1 L B (fk B r).2.1 (fk B r).2.2,aO L,dS (S),cc 4 8 12,ay 5 6 7 cM,bg cM,bj cM,bh cM,ay 9 10 11 cZ,bg cZ,bj cZ,bh cZ,ay 13 14 15 cP,bg cP,bj cP,bh cP,cH 17 (S).cols (S).rows,.map (bp (S).M),.cells [.int .i64 (S).cols,.int .i64 (S).rows,.map 19,.map 20,.map 21] 171 false false,.map (ah (S).A),.map (ah (S).B),.map (ah (S).C)]:=by
 have hr:=mW (K:=12) (by decide) C_ B (cZ.T.length/2) 0 r
 have hz:(ki cZ B r).1=(cE B r:Nat):=by unfold cE;have:0≤(ki cZ B r).1:=hr.1;omega
 have hs:cE B r≤12:=by have:(ki cZ B r).1≤12:=hr.2;omega
 have hn:=lP B (cE B r) (ki cZ B r).2
 have hn':0≤(lB B r).1∧(lB B r).1<2^cE B r:=hn
 have hp:=sB (j:=cE B r) (by omega)
 have hp1:=sB (j:=cE B r-1) (by omega)
 have hq:(0:Int)<2^cE B r:=Int.pow_pos (by decide)
 have hq1:(0:Int)<2^(cE B r-1):=Int.pow_pos (by decide)
 have key:∀ {HS HS':aq},HS[0]? = some (bD 1 L B (ki cZ B r).2.1 (ki cZ B r).2.2)→HS[1]? = some (aO L)→HS.set 0 (bD 1 L B (lB B r).2.1 (lB B r).2.2)=HS'→Nat.blt HS'.length Mem.bound=true→aG.Sound Tryz.prog ⟨65,[.one (.ptr 0 0),.one (.int .i64 (cE B r:Nat))],HS,.one (.int .u64 (lB B r).1),HS',[0]⟩:=fun a b c d=>pB h (ki cZ B r).2 rfl (by omega) a b (by decide) c d
 have key0:∀ {HS HS':aq},HS[0]? = some (bD 1 L B r.1 r.2)→HS[1]? = some (aO L)→HS[8]? = some (ay 9 10 11 cZ)→HS[9]? = some (bg cZ)→HS[10]? = some (bj cZ)→HS[11]? = some (bh cZ)→HS.set 0 (bD 1 L B (ki cZ B r).2.1 (ki cZ B r).2.2)=HS'→Nat.blt HS'.length Mem.bound=true→aG.Sound Tryz.prog ⟨63,[.one (.ptr 8 0),.one (.ptr 0 0)],HS,.one (.int .i64 (cE B r:Nat)),HS',[0]⟩:=fun a b c d e f g i=>by
  have:=rS wm h r a b c d e f (by decide) g i
  rw [hz]at this
  exact this
 unfold fk
 by_cases hc:0<cE B r∧(lB B r).1<1*2^(cE B r-1)
 · rw [if_pos hc]
   have hc1:=hc.1
   have hc2:=hc.2
   have e1:((cE B r:Nat):Int)-1=((cE B r-1:Nat):Int):=by omega
   by_cases h0:(lB B r).1-(1*2^cE B r-1)=0
   · rw [if_pos h0]
     refine cO Tryz.func96 ?_
     repeat' (first
      |(refine qz ?_;first
       |refine cl ?_ (hi:=by exact key0 rfl rfl rfl rfl rfl rfl nL rfl)
       |refine cl ?_ (hi:=by exact key rfl rfl nL rfl)
       |refine yb (n:=cE B r-1) ?_ (hn:=e1) (h:=⟨by show cE B r-1≤64;omega,by show _∧_;omega⟩)
       |refine yb (n:=cE B r) ?_ (h:=⟨by show cE B r≤64;omega,by show _∧_;omega⟩)
       |refine cl ?_ (hi:=by exact lr (p:=(lB B r).2.1) (e:=(lB B r).2.2) rfl rfl (by decide) nL rfl))
      |refine zG ?_|refine zA ?_|refine cX (fun _=>?_) (fun _=>?_)|refine aS (fun _=>?_) (fun _=>?_)|refine zL ?_|refine zF ?_|fail)
     show aF _ _ _ _ _ _ _ _;refine kV [0,1,2,3,4,5,6,7,8,9,10,11,12,13,14,15,16,17,18,19,20,21] ?_
     rfl
   · rw [if_neg h0]
     refine cO Tryz.func96 ?_
     repeat' (first
      |(refine qz ?_;first
       |refine cl ?_ (hi:=by exact key0 rfl rfl rfl rfl rfl rfl nL rfl)
       |refine cl ?_ (hi:=by exact key rfl rfl nL rfl)
       |refine yb (n:=cE B r-1) ?_ (hn:=e1) (h:=⟨by show cE B r-1≤64;omega,by show _∧_;omega⟩)
       |refine yb (n:=cE B r) ?_ (h:=⟨by show cE B r≤64;omega,by show _∧_;omega⟩))
      |refine zG ?_|refine zA ?_|refine cX (fun _=>?_) (fun _=>?_)|refine aS (fun _=>?_) (fun _=>?_)|refine zL ?_|refine zF ?_|fail)
     show aF _ _ _ _ _ _ _ _;refine kV [0,1,2,3,4,5,6,7,8,9,10,11,12,13,14,15,16,17,18,19,20,21] ?_
     rfl
 · rw [if_neg hc]
   by_cases h0:0<cE B r
   · have hc2:¬(lB B r).1<1*2^(cE B r-1):=fun g=>hc ⟨h0,g⟩
     have e1:((cE B r:Nat):Int)-1=((cE B r-1:Nat):Int):=by omega
     refine cO Tryz.func96 ?_
     repeat' (first
      |(refine qz ?_;first
       |refine cl ?_ (hi:=by exact key0 rfl rfl rfl rfl rfl rfl nL rfl)
       |refine cl ?_ (hi:=by exact key rfl rfl nL rfl)
       |refine yb (n:=cE B r-1) ?_ (hn:=e1) (h:=⟨by show cE B r-1≤64;omega,by show _∧_;omega⟩))
      |refine zG ?_|refine zA ?_|refine cX (fun _=>?_) (fun _=>?_)|refine aS (fun _=>?_) (fun _=>?_)|refine zL ?_|refine zF ?_|fail)
     show aF _ _ _ _ _ _ _ _;refine kV [0,1,2,3,4,5,6,7,8,9,10,11,12,13,14,15,16,17,18,19,20,21] ?_
     rfl
   · refine cO Tryz.func96 ?_
     repeat' (first
      |(refine qz ?_;first
       |refine cl ?_ (hi:=by exact key0 rfl rfl rfl rfl rfl rfl nL rfl)
       |refine cl ?_ (hi:=by exact key rfl rfl nL rfl))
      |refine zG ?_|refine zA ?_|refine cX (fun _=>?_) (fun _=>?_)|refine aS (fun _=>?_) (fun _=>?_)|refine zL ?_|refine zF ?_|fail)
     show aF _ _ _ _ _ _ _ _;refine kV [0,1,2,3,4,5,6,7,8,9,10,11,12,13,14,15,16,17,18,19,20,21] ?_
     rfl
theorem yp {n:Nat}(h:0<n):0<bitLen n∧2^(bitLen n-1)≤n:=by
 unfold bitLen
 rw [if_neg (by omega)]
 exact⟨by omega,by rw [Nat.add_sub_cancel];exact Nat.log2_self_le (by omega)⟩
theorem KA {k:Nat}:((2^k:Nat):Int)=(2:Int)^k:=Int.natCast_pow 2 k
theorem Bm {n:Int}(hn : -4000≤n∧n≤4000) (pre rest:List Bool):fk (pre++(aV n++rest)) (pre.length,false)=(n,(pre.length+(aV n).length,false)):=by
 have hl:=rU hn
 have hlt:=uc (max n (-n)).toNat
 have hlt':(((max n (-n)).toNat:Nat):Int)<(2:Int)^bJ n:=by rw [←KA];exact Int.ofNat_lt.2 hlt
 have hm0:(((max n (-n)).toNat:Nat):Int)=max n (-n):=by omega
 have e1:pre++(aV n++rest)=pre++(c7 cZ (bJ n)++(dW (if n<0 then n+(1*2^bJ n-1)else n) (bJ n)++rest)):=by unfold aV;simp only [List.append_assoc]
 have e2:pre++(aV n++rest)=(pre++c7 cZ (bJ n))++(dW (if n<0 then n+(1*2^bJ n-1)else n) (bJ n)++rest):=by rw [e1];simp only [List.append_assoc]
 have k1:ki cZ (pre++(aV n++rest)) (pre.length,false)=((bJ n:Int),(pre.length+(c7 cZ (bJ n)).length,false)):=by rw [e1];exact zb (by omega) pre _
 have hsz:cE (pre++(aV n++rest)) (pre.length,false)=bJ n:=by unfold cE;rw [k1];rfl
 have hr:0≤(if n<0 then n+(1*2^bJ n-1)else n)∧(if n<0 then n+(1*2^bJ n-1)else n)<2^bJ n:=by split <;> omega
 have k2:lB (pre++(aV n++rest)) (pre.length,false)=((if n<0 then n+(1*2^bJ n-1)else n),(pre.length+(aV n).length,false)):=by
  unfold lB
  rw [hsz,k1]
  have:=tV (n:=if n<0 then n+(1*2^bJ n-1)else n) (k:=bJ n) hr (pre++c7 cZ (bJ n)) rest
  rw [←e2,List.length_append]at this
  rw [this]
  unfold aV
  rw [List.length_append,fS,Nat.add_assoc]
 unfold fk
 rw [hsz,k2]
 by_cases h0:n=0
 · subst h0
   have e:bJ 0=0:=by decide
   rw [if_neg (by rw [e];simp)]
   rfl
 · have hlow:=yp (n:=(max n (-n)).toNat) (by omega)
   have hlow1:0<bJ n:=hlow.1
   have hlow2:(2:Int)^(bJ n-1)≤(((max n (-n)).toNat:Nat):Int):=by rw [←KA];exact Int.ofNat_le.2 hlow.2
   have hp:(2:Int)^bJ n=2^(bJ n-1)*2:=by
    obtain⟨q,hq⟩:∃ q,bJ n=q+1:=⟨bJ n-1,by omega⟩
    rw [hq,Nat.add_sub_cancel,Int.pow_succ]
   by_cases hneg:n<0
   · simp only [if_pos hneg]
     rw [if_pos ⟨hlow1,by omega⟩]
     have en:n+(1*2^bJ n-1)-(1*2^bJ n-1)=n:=by omega
     rw [en,if_neg h0]
   · simp only [if_neg hneg]
     rw [if_neg (fun g=>by have:=g.2;omega)]
end Go.Proofs.YtagpkhindehcbaaGreat
namespace Go.Proofs.YtagpkhindehcbaaGreat
open Go.Xm
variable [aC]
theorem Jg (a b c:List XC) (e e':TypeId) (S S':bX):eI (.cells a e false false :: .cells b e' false false::dV S) (.cells c e false false :: .cells b e' false false::dV S')=true:=by
 simp [eI,ak.live,ak.own]
theorem K0 {f:FuncId} {more:List XV}(hm:∀ τ,dQ τ more more) (hmo:fz 22 more) {v:XV} [bG v] {L:List Int} {B:List Bool} {p p':Nat} {e e':Bool} {S:bX}(hc:bq Tryz.prog f (.one (.ptr 2 0) :: .one (.ptr 0 0)::more) (bD 1 L B p e::aO L::dV S) v (bD 1 L B p' e'::aO L::dV S))
 {HS:aq}(hi:HS[0]? = some (bD 1 L B p e)) (hk:HS[1]? = some (aO L)) (hS:(HS.drop 2).take 20=dV S) {HS':aq}(hh:HS.set 0 (bD 1 L B p' e')=HS') (hbd:Nat.blt HS'.length Mem.bound=true) :
 aG.Sound Tryz.prog ⟨f,.one (.ptr 2 0) :: .one (.ptr 0 0)::more,HS,v,HS',[0]⟩:=by
 have nd:=pG (k:=1) (.inl rfl)
 have ht:∀ j,2≤j→j<22→nth (0::1::bK) j=j:=fun j h1 h2=>by
  have:=l5 1 [] j h1 h2
  rwa [List.append_nil]at this
 have ht':∀ j,2≤j→j<22→nth ((0::1::bK)++List.range' HS.length 0) j=j:=l5 1 _
 have hv:=nW S ht hS (ls:=[]) .nil
 rw [List.append_nil,List.append_nil]at hv
 have ho:=gM S 22 (Nat.le_refl _) (l:=[]) .nil
 rw [List.append_nil]at ho
 have hr:=pF S ht' (l:=[]) (l':=[]) .nil
 rw [List.append_nil]at hr
 have hh':bM HS (0::1::bK) (bD 1 L B p' e'::aO L::dV S)=HS':=by
  rw [←hh,bM,bM,aK (i:=1) (by rw [List.getElem?_set_ne (by decide)];exact hk)]
  have:=oT bK (dV S) (HS.set 0 (bD 1 L B p' e')) [] rfl fun j i hj=>by
   obtain⟨h1,rfl⟩:=ry hj
   have hl:j<(dV S).length:=h1
   exact⟨(dV S)[j],by rw [List.getElem?_set_ne (by omega),vo hS h1,List.getElem?_eq_getElem hl],List.getElem?_eq_getElem hl⟩
  rw [List.append_nil,List.append_nil]at this
  exact this
 refine cj (0::1::bK) [0] 0 hc nd (.cons hi (.flat hk hv)) (.cons (by simp [ak.cB,XC.ok]) (.flat ho)) (.cons (by simp [ak.cB,XC.ok]) (.flat ho)) rfl (.cons (by show 2<22;omega) (.cons (by show 0<22;omega) hmo)) (.cons rfl (.cons rfl (hm _))) (bG.ok _) (bG.aw _) ?_ (Jg ..) rfl hh' hbd (.inr fun j hjl hj=>?_)
 · exact .cons rfl (.flat hr)
 · subst hh
   exact List.getElem?_set_ne (fun h=>hj (by rw [←h];exact List.mem_singleton.2 rfl))
theorem Fk {L:List Int} {B:List Bool}(h:du L B) (r:Nat × Bool) {S:bX} {HS:aq}(hi:HS[0]? = some (bD 1 L B r.1 r.2)) (hk:HS[1]? = some (aO L)) (hS:(HS.drop 2).take 20=dV S) {HS':aq}(hh:HS.set 0 (bD 1 L B (fk B r).2.1 (fk B r).2.2)=HS') (hbd:Nat.blt HS'.length Mem.bound=true) :
 aG.Sound Tryz.prog ⟨96,[.one (.ptr 2 0),.one (.ptr 0 0)],HS,.one (.int .i64 (fk B r).1),HS',[0]⟩:=
 K0 (fun _ => .nil) .nil (HL h r S) hi hk hS hh hbd
end Go.Proofs.YtagpkhindehcbaaGreat
namespace Go.Proofs.YtagpkhindehcbaaGreat
open Go.Xm
variable [aC]
def fI (m:Mb) (h:Nat→Bool):List XC:=mC m++[.bool (h 0),.bool (h 1),.bool (h 2),.bool (h 3),.bool (h 4),.bool (h 5)]
theorem cp (m:Mb) (h:Nat→Bool):(fI m h).length=397:=by simp [fI,aL]
theorem ss (m:Mb) (h:Nat→Bool):(fI m h).all XC.shut=true:=by
 unfold fI
 rw [List.all_append,jv];rfl
instance K9 (m:Mb) (h:Nat→Bool) (e:TypeId) (a b:Bool):dT (.cells (fI m h) e a b):=hZ (ss m h)
theorem Am (m:Mb) (h:Nat→Bool) {i:Nat}(hi:i<384) (z:Int):(fI m h).set (7+i) (.int .i64 z)=fI {m with lev:=fw m.lev i z} h:=by
 unfold fI
 rw [List.set_append_left _ _ (by rw [aL];omega)]
 congr 1
 rw [Nat.add_comm]
 show .int .u8 m.kind :: .int .i64 m.qp::cq (m.v 0)::cq (m.v 1)::cq (m.v 2)::cq (m.v 3) :: .bool m.edge::(ti .i64 384 m.lev).set i (.int .i64 z)=_
 rw [qi];rfl
theorem G2 (m:Mb) (h:Nat→Bool) {off s:Nat}(h7:7≤off) (hs:off+s≤391):((fI m h).drop off).take s=ti .i64 s fun i=>m.lev (off-7+i):=by
 unfold fI
 rw [List.drop_append_of_le_length (by rw [aL];omega),List.take_append_of_le_length (by rw [List.length_drop,aL];omega),I1 m h7 hs]
theorem va (m:Mb) (h:Nat→Bool):((fI m h).drop 0).take 391=mC m:=by
 unfold fI
 rw [List.drop_zero,List.take_append_of_le_length (by rw [aL];omega),List.take_of_length_le (by rw [aL];omega)]
structure iE where
 m:Mb
 S:bX
 r:Nat × Bool
def yH (B:List Bool) (mb:Int) (x:iE) (k:Nat):Int:=(aR x.S mb k x.m.qp).2+(fk B x.r).1
def tE (B:List Bool) (mb:Int) (x:iE) (k:Nat):Prop:=yH B mb x k<0∨127<yH B mb x k
instance (B:List Bool) (mb:Int) (x:iE) (k:Nat):Decidable (tE B mb x k):=by unfold tE;infer_instance
def yG (B:List Bool) (mb:Int) (x:iE) (k:Nat):Int:=if tE B mb x k then 0 else yH B mb x k
def F0 (B:List Bool) (mb:Int) (x:iE) (k:Nat):Mb:={x.m with lev:=fw x.m.lev (k*64) (yG B mb x k)}
def qC (B:List Bool) (mb:Int) (x:iE) (k:Nat):iE:=
 ⟨F0 B mb x k,aZ x.S mb k ⟨aD (F0 B mb x k) k,(F0 B mb x k).qp⟩,if tE B mb x k then((fk B x.r).2.1,true)else(fk B x.r).2⟩
def gZ (B:List Bool) (mb:Int) (x:iE):Nat→iE
 | 0=>x
 | k+1=>qC B mb (gZ B mb x k) k
theorem Co (B:List Bool) (r:Nat × Bool) : -5000≤(fk B r).1∧(fk B r).1≤5000:=by
 have hr:=mW (K:=12) (by decide) C_ B (cZ.T.length/2) 0 r
 have hs:cE B r≤12:=by unfold cE;have:(ki cZ B r).1≤12:=hr.2;omega
 have hn:0≤(lB B r).1∧(lB B r).1<2^cE B r:=lP B (cE B r) (ki cZ B r).2
 have hp:(2:Int)^cE B r≤4096:=by
  have:=Nat.pow_le_pow_right (show 0<2 by decide) hs
  have h2:((2^cE B r:Nat):Int)≤((2^12:Nat):Int):=Int.ofNat_le.2 this
  rw [Int.natCast_pow]at h2
  exact h2
 unfold fk
 split
 · simp only [];omega
 · omega
set_option maxRecDepth 10000 in
set_option maxHeartbeats 4000000 in
theorem yI {L:List Int} {B:List Bool}(hB:du L B) (x:iE) (hs:Nat→Bool) (mb:Int) (hD:gG x.S.cols x.S.rows) (hmb:0≤mb∧mb<x.S.cols*x.S.rows) (hq : -1000000≤x.m.qp∧x.m.qp≤1000000) :
 bq Tryz.prog 68 [.one (.ptr 2 0),.one (.ptr 0 0),.one (.int .i64 mb),.one (.ptr 22 0)] [bD 1 L B x.r.1 x.r.2,aO L,dS (x.S),cc 4 8 12,ay 5 6 7 cM,bg cM,bj cM,bh cM,ay 9 10 11 cZ,bg cZ,bj cZ,bh cZ,ay 13 14 15 cP,bg cP,bj cP,bh cP,cH 17 (x.S).cols (x.S).rows,.map (bp (x.S).M),.cells [.int .i64 (x.S).cols,.int .i64 (x.S).rows,.map 19,.map 20,.map 21] 171 false false,.map (ah (x.S).A),.map (ah (x.S).B),.map (ah (x.S).C),.cells (fI x.m hs) 56 false false] (.tup []) [bD 1 L B (gZ B mb x 6).r.1 (gZ B mb x 6).r.2,aO L,dS ((gZ B mb x 6).S),cc 4 8 12,ay 5 6 7 cM,bg cM,bj cM,bh cM,ay 9 10 11 cZ,bg cZ,bj cZ,bh cZ,ay 13 14 15 cP,bg cP,bj cP,bh cP,cH 17 ((gZ B mb x 6).S).cols ((gZ B mb x 6).S).rows,.map (bp ((gZ B mb x 6).S).M),.cells [.int .i64 ((gZ B mb x 6).S).cols,.int .i64 ((gZ B mb x 6).S).rows,.map 19,.map 20,.map 21] 171 false false,.map (ah ((gZ B mb x 6).S).A),.map (ah ((gZ B mb x 6).S).B),.map (ah ((gZ B mb x 6).S).C),.cells (fI (gZ B mb x 6).m hs) 56 false false]:=by
 obtain⟨y,hy⟩:∃ y,gZ B mb x 6=y:=⟨_,rfl⟩
 rw [hy]
 refine cO Tryz.func68 ?_
 repeat' (first|refine zG ?_|refine zA ?_|refine cX (fun _=>?_) (fun _=>?_)|refine aS (fun _=>?_) (fun _=>?_)|refine zL ?_|refine zF ?_|fail)
 refine WX.ek (σ:=Nat × iE) (fun s=>[(12,.one (.int .i64 (s.1:Nat))),(0,.one (.ptr 2 0)),(1,.one (.ptr 0 0)),(2,.one (.int .i64 mb)),(3,.one (.ptr 22 0))]) (fun s=>[bD 1 L B s.2.r.1 s.2.r.2,aO L,dS (s.2.S),cc 4 8 12,ay 5 6 7 cM,bg cM,bj cM,bh cM,ay 9 10 11 cZ,bg cZ,bj cZ,bh cZ,ay 13 14 15 cP,bg cP,bj cP,bh cP,cH 17 (s.2.S).cols (s.2.S).rows,.map (bp (s.2.S).M),.cells [.int .i64 (s.2.S).cols,.int .i64 (s.2.S).rows,.map 19,.map 20,.map 21] 171 false false,.map (ah (s.2.S).A),.map (ah (s.2.S).B),.map (ah (s.2.S).C),.cells (fI s.2.m hs) 56 false false]) (fun s=>s.1≤6∧gZ B mb x s.1=s.2∧s.2.S.cols=x.S.cols∧s.2.S.rows=x.S.rows∧s.2.m.qp=x.m.qp) (fun s=>6-s.1) (0,x) ⟨by show 0≤6;omega,rfl,rfl,rfl,rfl⟩ (fun s _=>mO) (br [0,1,2,3,4,5,6,7,8,9,10,11,12,13,14,15,16,17,18,19,20,21,22]) ?_
 intro s ⟨g1,g2,g3,g4,g5⟩ ih
 have hD':gG s.2.S.cols s.2.S.rows:=by rw [g3,g4];exact hD
 have hmb':0≤mb∧mb<s.2.S.cols*s.2.S.rows:=by rw [g3,g4];exact hmb
 by_cases h6:s.1<6
 · have hu:=Co B s.2.r
   have hf:=jD s.2.S mb s.1 s.2.m.qp
   obtain⟨m',hm'⟩:∃ m',F0 B mb s.2 s.1=m':=⟨_,rfl⟩
   have hw:((fI m' hs).drop (7+s.1*64+0)).take 64=ti .i64 64 (aD m' s.1):=by
    rw [Nat.add_zero,G2 m' hs (by omega) (by omega)]
    refine pI fun i hi=>?_
    unfold aD
    congr 1
    omega
   have hg0:gZ B mb x (s.1+1)=qC B mb s.2 s.1:=by show qC B mb (gZ B mb x s.1) s.1=_;rw [g2]
   have hqp:m'.qp=s.2.m.qp:=by rw [←hm'];rfl
   by_cases hb:tE B mb s.2 s.1
   · have hN:qC B mb s.2 s.1=⟨m',aZ s.2.S mb s.1 ⟨aD m' s.1,m'.qp⟩,((fk B s.2.r).2.1,true)⟩:=by
      unfold qC
      rw [hm',if_pos hb]
     have hset:(fI s.2.m hs).set (7+s.1*64+0) (.int .i64 0)=fI m' hs:=by
      rw [Nat.add_zero,Am _ _ (by omega),←hm',F0,yG,if_pos hb]
     have hb':=hb
     unfold tE yH at hb'
     repeat' (first
      |(refine qz ?_;first
       |refine cl ?_ (hi:=by exact jy (S:=s.2.S) (mb:=mb) (k:=(s.1:Nat)) (q:=s.2.m.qp) hD' hmb' (by omega) rfl rfl rfl rfl rfl)
       |refine cl ?_ (hi:=by exact Fk hB s.2.r (S:=s.2.S) rfl rfl rfl nL rfl)
       |refine cl ?_ (hi:=by exact lr (p:=(fk B s.2.r).2.1) (e:=(fk B s.2.r).2.2) rfl rfl (by decide) nL rfl)
       |refine st ?_ (hle:=by rw [cp];omega) (hv:=hset)
       |refine t9 (cs:=ti .i64 64 (aD m' s.1)) ?_ (hle:=by rw [cp];omega) (hc:=hw)
       |refine cl ?_ (hi:=by exact nY (S:=s.2.S) (mb:=mb) (k:=(s.1:Nat)) (b:=⟨aD m' s.1,m'.qp⟩) hD' hmb' (by omega) rfl rfl rfl rfl nA rfl))
      |refine zG ?_|refine zA ?_|refine cX (fun _=>?_) (fun _=>?_)|refine aS (fun _=>?_) (fun _=>?_)|refine zL ?_|refine zF ?_|fail)
     all_goals exact ih (s.1+1,⟨m',aZ s.2.S mb s.1 ⟨aD m' s.1,m'.qp⟩,((fk B s.2.r).2.1,true)⟩) _ _ _ (br [0,1,2,3,4,5,6,7,8,9,10,11,12,13,14,15,16,17,18,19,20,21,22]) ⟨by show s.1+1≤6;omega,by show _=_;rw [hg0,hN],g3,g4,by show m'.qp=_;rw [hqp,g5]⟩ (by show 6-(s.1+1)<_;omega)
   · have hN:qC B mb s.2 s.1=⟨m',aZ s.2.S mb s.1 ⟨aD m' s.1,m'.qp⟩,(fk B s.2.r).2⟩:=by
      unfold qC
      rw [hm',if_neg hb]
     have hset:(fI s.2.m hs).set (7+s.1*64+0) (.int .i64 ((aR s.2.S mb s.1 s.2.m.qp).2+(fk B s.2.r).1))=fI m' hs:=by
      rw [Nat.add_zero,Am _ _ (by omega),←hm',F0,yG,if_neg hb];rfl
     have hb':=hb
     unfold tE yH at hb'
     repeat' (first
      |(refine qz ?_;first
       |refine cl ?_ (hi:=by exact jy (S:=s.2.S) (mb:=mb) (k:=(s.1:Nat)) (q:=s.2.m.qp) hD' hmb' (by omega) rfl rfl rfl rfl rfl)
       |refine cl ?_ (hi:=by exact Fk hB s.2.r (S:=s.2.S) rfl rfl rfl nL rfl)
       |refine st ?_ (hle:=by rw [cp];omega) (hv:=hset)
       |refine t9 (cs:=ti .i64 64 (aD m' s.1)) ?_ (hle:=by rw [cp];omega) (hc:=hw)
       |refine cl ?_ (hi:=by exact nY (S:=s.2.S) (mb:=mb) (k:=(s.1:Nat)) (b:=⟨aD m' s.1,m'.qp⟩) hD' hmb' (by omega) rfl rfl rfl rfl nA rfl))
      |refine zG ?_|refine zA ?_|refine cX (fun _=>?_) (fun _=>?_)|refine aS (fun _=>?_) (fun _=>?_)|refine zL ?_|refine zF ?_|fail)
     all_goals exact ih (s.1+1,⟨m',aZ s.2.S mb s.1 ⟨aD m' s.1,m'.qp⟩,(fk B s.2.r).2⟩) _ _ _ (br [0,1,2,3,4,5,6,7,8,9,10,11,12,13,14,15,16,17,18,19,20,21,22]) ⟨by show s.1+1≤6;omega,by show _=_;rw [hg0,hN],g3,g4,by show m'.qp=_;rw [hqp,g5]⟩ (by show 6-(s.1+1)<_;omega)
 · have e6:s.1=6:=by omega
   have ey:s.2=y:=by rw [←g2,e6,hy]
   subst ey
   repeat' (first|refine zG ?_|refine zA ?_|refine cX (fun _=>?_) (fun _=>?_)|refine aS (fun _=>?_) (fun _=>?_)|refine zL ?_|refine zF ?_|fail)
   show aF _ _ _ _ _ _ _ _;refine kV [0,1,2,3,4,5,6,7,8,9,10,11,12,13,14,15,16,17,18,19,20,21,22] ?_
   all_goals rfl
end Go.Proofs.YtagpkhindehcbaaGreat
namespace Go.Xm
variable [aC]
variable {P:Program} {ops:Array Oper} {nt nI:Nat} {al:bm} {hs:aq} {o:Oper} {l:List Oper} {L:List aG} {K:List Ab→bm→aq→Prop} {d:Nat}
theorem LV {t:TypeId} {a y:Operand} {s i off:Nat} {cs vs vs':List XC} {e:TypeId} {opn:Bool} {hs':aq}(hk:SK P ops nt L l al hs' fun bs=>K (⟨true,.none,[i]⟩::bs)) (hs2:off+s≤vs.length) (hv:vs.take off++cs++vs.drop (off+s)=vs') (ho:o.op = .store t a y:=by exact rfl) (ht:aT P t s:=by infer_instance) (hw:aj ops (rg al) o=some true:=by exact rfl) (hd:o.dst = .none:=by exact rfl)
 (ha:ag (rg al) a = .one (.ptr i off):=by exact rfl) (hy:cW (ag (rg al) y)=some cs:=by exact rfl) (hi:hs[i]? = some (.cells vs e opn false):=by exact rfl) (hs1:s=cs.length:=by exact rfl) (hh:hs.set i (.cells vs' e opn false)=hs':=by first|(simp only [List.set_cons_succ,List.set_cons_zero];exact rfl)|exact rfl):SK P ops nt L (o::l) al hs K:=
 B0 ho hw hd ha hy hi hs1 hs2 hv hh hk
end Go.Xm
namespace Go.Proofs.YtagpkhindehcbaaGreat
open Go.Xm
variable [aC]
def lK:Mb:=⟨0,0,fun _=>(0,0),false,fun _=>0⟩
def o3:Nat→Bool:=fun _=>false
theorem FW:bz Tryz.prog 56 (fI lK o3):=by
 have h:([.int .u8 0,.int .i64 0,.cplx .f64 0 0,.cplx .f64 0 0,.cplx .f64 0 0,.cplx .f64 0 0,.bool false]++(ti .i64 384 fun _=>0)++[.bool false,.bool false,.bool false,.bool false,.bool false,.bool false]:List XC)=fI lK o3:=by
  unfold fI mC lK
  simp only [←dC]
  rfl
 rw [←h]
 infer_instance
def GB (h:Nat→Bool):List XC:=[.bool (h 0),.bool (h 1),.bool (h 2),.bool (h 3),.bool (h 4),.bool (h 5)]
theorem dB (m:Mb) (h:Nat→Bool):fI m h = .int .u8 m.kind :: .int .i64 m.qp::cq (m.v 0)::cq (m.v 1)::cq (m.v 2)::cq (m.v 3) :: .bool m.edge::(ti .i64 384 m.lev++GB h):=by
 simp only [fI,mC,List.cons_append,GB]
theorem w_ (m:Mb) (h:Nat→Bool) (z:Int):(fI m h).set 0 (.int .u8 z)=fI {m with kind:=z} h:=by
 rw [dB];exact(dB {m with kind:=z} h).symm
theorem I7 (m:Mb) (h:Nat→Bool) (z:Int):(fI m h).set 1 (.int .i64 z)=fI {m with qp:=z} h:=by
 rw [dB];exact(dB {m with qp:=z} h).symm
theorem Ea (m:Mb) (h:Nat→Bool) (b:Bool):(fI m h).set 6 (.bool b)=fI {m with edge:=b} h:=by
 rw [dB];exact(dB {m with edge:=b} h).symm
def lC (v:Nat→Int × Int) (k:Nat) (x:Int × Int):Nat→Int × Int:=fun j=>if j=k then x else v j
theorem An (m:Mb) (h:Nat→Bool) {k:Nat}(hk:k<4) (x:Int × Int):(fI m h).set (2+k) (cq x)=fI {m with v:=lC m.v k x} h:=by
 rw [dB]
 refine Eq.trans ?_ (dB {m with v:=lC m.v k x} h).symm
 match k,hk with
 | 0,_=>rfl
 | 1,_=>rfl
 | 2,_=>rfl
 | 3,_=>rfl
theorem I8 (m:Mb) (h:Nat→Bool) (x:Int × Int):(fI m h).take 2++[cq x,cq x,cq x,cq x]++(fI m h).drop (2+4)=fI {m with v:=fun _=>x} h:=by
 rw [dB]
 exact(dB {m with v:=fun _=>x} h).symm
theorem eQ (m:Mb) (h:Nat→Bool):(fI m h)[0]? = some (.int .u8 m.kind):=by rw [dB];rfl
theorem Ec (m:Mb) (h:Nat→Bool) {k:Nat}(hk:k<4):(fI m h)[2+k]? = some (cq (m.v k)):=by
 rw [dB]
 match k,hk with
 | 0,_=>rfl
 | 1,_=>rfl
 | 2,_=>rfl
 | 3,_=>rfl
def Cp (h:Nat→Bool) (j:Nat):Nat→Bool:=fun i=>if i<j then h i else false
theorem nO (m:Mb) (h:Nat→Bool) {j:Nat}(hj:j<6):(fI m (Cp h j)).set (391+j) (.bool (h j))=fI m (Cp h (j+1)):=by
 unfold fI
 rw [List.set_append_right _ _ (by rw [aL];omega),aL]
 rw [Nat.add_sub_cancel_left]
 refine congrArg (mC m ++ ·) ?_
 show(GB (Cp h j)).set j _=GB (Cp h (j+1))
 match j,hj with
 | 0,_=>rfl
 | 1,_=>rfl
 | 2,_=>rfl
 | 3,_=>rfl
 | 4,_=>rfl
 | 5,_=>rfl
theorem G0 (m:Mb) (h:Nat→Bool):fI m (Cp h 6)=fI m h:=by
 rw [dB,dB];rfl
theorem Eb (m:Mb) (h:Nat→Bool):fI m (Cp h 0)=fI m o3:=by
 rw [dB,dB];rfl
theorem y_ {f:FuncId} {args args':List XV} {v:XV} [bG v] {L:List Int} {B:List Bool} {p p':Nat} {e e':Bool} {S S':bX} {l l':aq}(ls:List Nat) (hc:bq Tryz.prog f args (bD 1 L B p e::aO L::(dV S++l)) v (bD 1 L B p' e'::aO L::(dV S'++l')))
 {HS:aq}(hi:HS[0]? = some (bD 1 L B p e)) (hk:HS[1]? = some (aO L)) (hS:(HS.drop 2).take 20=dV S) (hnd:(0::1::(bK++ls)).Nodup) (hv:ae (nth (0::1::(bK++ls))) HS ls l) (hl:ls.length=l.length) (hl':l'.length=l.length) (hok:dL (22+l.length) l) (hok':dL (22+l.length) l') (hren:dR (nth (0::1::(bK++ls))) l' l') (hro:eI l l'=true) (hle:l.length<100)
 (ha:fz (22+l.length) args) (hr:dQ (nth (0::1::(bK++ls))) args args') {HS':aq}(hh:bM HS (0::1::(bK++ls)) (bD 1 L B p' e'::aO L::(dV S'++l'))=HS') (hbd:Nat.blt HS'.length Mem.bound=true) :
 aG.Sound Tryz.prog ⟨f,args',HS,v,HS',0::1::(bK++ls)⟩:=by
 have ht:∀ j,2≤j→j<22→nth (0::1::(bK++ls)) j=j:=l5 1 ls
 have ht':∀ j,nth ((0::1::(bK++ls))++List.range' HS.length 0) j=nth (0::1::(bK++ls)) j:=fun j=>by
  rw [List.range'_zero,List.append_nil]
 have ht2:nth ((0::1::(bK++ls))++List.range' HS.length 0)=nth (0::1::(bK++ls)):=funext ht'
 have hln:(bD 1 L B p e::aO L::(dV S++l)).length=22+l.length:=by simp;omega
 have hln':(bD 1 L B p' e'::aO L::(dV S'++l')).length=22+l.length:=by simp;omega
 refine cj (0::1::(bK++ls)) (0::1::(bK++ls)) 0 hc hnd (.cons hi (.flat hk (nW S ht hS hv))) (by rw [hln];exact .cons (by simp [ak.cB,XC.ok];omega) (.flat (gM S _ (by omega) hok))) (by rw [hln'];exact .cons (by simp [ak.cB,XC.ok];omega) (.flat (gM S' _ (by omega) hok'))) (by simp;omega) (by rw [hln];exact ha) hr (bG.ok _) (bG.aw _) ?_ ?_ ?_ hh hbd (.inl rfl)
 · rw [ht2]
   exact .cons rfl (.flat (pF S' ht hren))
 · simp only [eI,ak.live,ak.own,List.cons_append,List.nil_append,hro,Bool.and_true,Bool.true_and]
   simp
 · rw [hln]
   have h:122≤Mem.bound:=Nat.le_of_ble_eq_true rfl
   unfold Nat.blt
   rw [Nat.ble_eq]
   omega
set_option maxRecDepth 10000 in
set_option maxHeartbeats 2000000 in
theorem BR (L:List Int) (B:List Bool) (p:Nat) (e:Bool) (S:bX) (hD:gG S.cols S.rows) (mb:Int) (hmb:0≤mb∧mb<S.cols*S.rows) (m:Mb) :
 bq Tryz.prog 53 [.one (.ptr 2 0),.one (.int .i64 mb),.agg (mC m)] [bD 1 L B p e,aO L,dS (S),cc 4 8 12,ay 5 6 7 cM,bg cM,bj cM,bh cM,ay 9 10 11 cZ,bg cZ,bj cZ,bh cZ,ay 13 14 15 cP,bg cP,bj cP,bh cP,cH 17 (S).cols (S).rows,.map (bp (S).M),.cells [.int .i64 (S).cols,.int .i64 (S).rows,.map 19,.map 20,.map 21] 171 false false,.map (ah (S).A),.map (ah (S).B),.map (ah (S).C)] (.tup []) [bD 1 L B p e,aO L,dS (ba S mb m.v),cc 4 8 12,ay 5 6 7 cM,bg cM,bj cM,bh cM,ay 9 10 11 cZ,bg cZ,bj cZ,bh cZ,ay 13 14 15 cP,bg cP,bj cP,bh cP,cH 17 (ba S mb m.v).cols (ba S mb m.v).rows,.map (bp (ba S mb m.v).M),.cells [.int .i64 (ba S mb m.v).cols,.int .i64 (ba S mb m.v).rows,.map 19,.map 20,.map 21] 171 false false,.map (ah (ba S mb m.v).A),.map (ah (ba S mb m.v).B),.map (ah (ba S mb m.v).C)]:=by
 refine cO Tryz.func53 ?_
 repeat' (first
  |(refine qz ?_;first
   |refine t9 (cs:=vt m.v) ?_ (hle:=by rw [aL];decide)
   |refine r8 ?_
   |refine cl ?_ (hi:=by exact dc (M:=S.M) (cols:=S.cols) (rows:=S.rows) (i:=16) (j:=17) (k:=0) (v:=m.v 0) hD hmb (by decide) rfl rfl (by decide) nA rfl)
   |refine cl ?_ (hi:=by exact dc (M:=aX S.M S.cols mb 0 (m.v 0)) (cols:=S.cols) (rows:=S.rows) (i:=16) (j:=17) (k:=1) (v:=m.v 1) hD hmb (by decide) rfl rfl (by decide) nA rfl)
   |refine cl ?_ (hi:=by exact dc (M:=aX (aX S.M S.cols mb 0 (m.v 0)) S.cols mb 1 (m.v 1)) (cols:=S.cols) (rows:=S.rows) (i:=16) (j:=17) (k:=2) (v:=m.v 2) hD hmb (by decide) rfl rfl (by decide) nA rfl)
   |refine cl ?_ (hi:=by exact dc (M:=aX (aX (aX S.M S.cols mb 0 (m.v 0)) S.cols mb 1 (m.v 1)) S.cols mb 2 (m.v 2)) (cols:=S.cols) (rows:=S.rows) (i:=16) (j:=17) (k:=3) (v:=m.v 3) hD hmb (by decide) rfl rfl (by decide) nA rfl))
  |refine zG ?_|refine zA ?_|refine cX (fun _=>?_) (fun _=>?_)|refine aS (fun _=>?_) (fun _=>?_)|refine WX.loop ?_|refine WX.round ?_|refine zL ?_|refine zF ?_|fail)
 show aF _ _ _ _ _ _ _ _;refine kV [0,1,2,3,4,5,6,7,8,9,10,11,12,13,14,15,16,17,18,19,20,21] ?_
 rfl
theorem xq {L:List Int} {B:List Bool} {r:Nat × Bool} {S:bX}(hD:gG S.cols S.rows) {mb:Int}(hmb:0≤mb∧mb<S.cols*S.rows) {m:Mb} {HS:aq}(hi:HS[0]? = some (bD 1 L B r.1 r.2)) (hk:HS[1]? = some (aO L)) (hS:(HS.drop 2).take 20=dV S) {HS':aq}(hh:bM HS (0::1::bK) (bD 1 L B r.1 r.2::aO L::dV (ba S mb m.v))=HS') (hbd:Nat.blt HS'.length Mem.bound=true) :
 aG.Sound Tryz.prog ⟨53,[.one (.ptr 2 0),.one (.int .i64 mb),.agg (mC m)],HS,.tup [],HS',0::1::bK⟩:=by
 have hc:=BR L B r.1 r.2 S hD mb hmb m
 have hc':bq Tryz.prog 53 [.one (.ptr 2 0),.one (.int .i64 mb),.agg (mC m)] (bD 1 L B r.1 r.2::aO L::(dV S++[])) (.tup []) (bD 1 L B r.1 r.2::aO L::(dV (ba S mb m.v)++[])):=by
  rw [List.append_nil,List.append_nil];exact hc
 have h:=y_ (S:=S) (S':=ba S mb m.v) (l:=[]) (l':=[]) (args':=[.one (.ptr 2 0),.one (.int .i64 mb),.agg (mC m)]) [] hc' hi hk hS (by decide) .nil rfl rfl .nil .nil .nil rfl (by decide) (.cons (by show 2<22;omega) (.flat (.flat .nil))) (.cons rfl (.flat (.flat .nil))) (HS':=HS') (by rw [List.append_nil,List.append_nil];exact hh) hbd
 rw [List.append_nil]at h
 exact h
theorem Bq {L:List Int} {B:List Bool}(hB:du L B) {x:iE} {hs:Nat→Bool} {mb:Int}(hD:gG x.S.cols x.S.rows) (hmb:0≤mb∧mb<x.S.cols*x.S.rows) (hq : -1000000≤x.m.qp∧x.m.qp≤1000000) {HS:aq}(hi:HS[0]? = some (bD 1 L B x.r.1 x.r.2)) (hk:HS[1]? = some (aO L)) (hS:(HS.drop 2).take 20=dV x.S) (h23:HS[23]? = some (.cells (fI x.m hs) 56 false false)) {HS':aq}(hh:bM HS (0::1::(bK++[23])) (bD 1 L B (gZ B mb x 6).r.1 (gZ B mb x 6).r.2::aO L::(dV (gZ B mb x 6).S++[.cells (fI (gZ B mb x 6).m hs) 56 false false]))=HS') (hbd:Nat.blt HS'.length Mem.bound=true) :
 aG.Sound Tryz.prog ⟨68,[.one (.ptr 2 0),.one (.ptr 0 0),.one (.int .i64 mb),.one (.ptr 23 0)],HS,.tup [],HS',0::1::(bK++[23])⟩:=by
 obtain⟨y,hy⟩:∃ y,gZ B mb x 6=y:=⟨_,rfl⟩
 have hc:=yI hB x hs mb hD hmb hq
 rw [hy]at hc hh
 obtain⟨o1,ho1⟩:∃ o,ak.cells (fI x.m hs) 56 false false=o:=⟨_,rfl⟩
 obtain⟨o2,ho2⟩:∃ o,ak.cells (fI y.m hs) 56 false false=o:=⟨_,rfl⟩
 have f1:dT o1:=ho1 ▸ inferInstance
 have f2:dT o2:=ho2 ▸ inferInstance
 have hro:eI [o1] [o2]=true:=by subst ho1 ho2;simp [eI,ak.live,ak.own]
 rw [ho1,ho2]at hc
 rw [ho2]at hh
 rw [ho1]at h23
 exact y_ (S:=x.S) (S':=y.S) (l:=[o1]) (l':=[o2]) [23] hc hi hk hS (by decide) (.flat h23 .nil) rfl rfl (.flat .nil) (.flat .nil) (.flat .nil) hro (show 1<100 by omega) (.cons (by show 2<23;omega) (.cons (by show 0<23;omega) (.flat (.cons (by show 22<23;omega) .nil)))) (.cons rfl (.cons rfl (.flat (.cons rfl .nil)))) hh hbd
end Go.Proofs.YtagpkhindehcbaaGreat
namespace Go.Proofs.YtagpkhindehcbaaGreat
open Go.Xm
variable [aC]
def jk (S:bX) (B:List Bool) (r:Nat × Bool):Int × (Nat × Bool):=if S.inter=true then ki cM B r else(if dv B r=true then 4 else 3,bT B r)
def oz (n:Int):Int:=([-2,-1,1,2]:List Int).getD n.toNat 0
def AM (S:bX) (B:List Bool) (k:Int × (Nat × Bool)):Int × (Nat × Bool):=
 if k.1=4 then(if S.qp+oz (bU B 2 k.2).1<1∨31<S.qp+oz (bU B 2 k.2).1 then(1,((bU B 2 k.2).2.1,true))else(S.qp+oz (bU B 2 k.2).1,(bU B 2 k.2).2))else(S.qp,k.2)
def gN (S:bX) (B:List Bool) (r:Nat × Bool):iE:=
 ⟨{lK with kind:=(jk S B r).1,qp:=(AM S B (jk S B r)).1},{S with qp:=(AM S B (jk S B r)).1},(AM S B (jk S B r)).2⟩
def AO (B:List Bool) (mb:Int) (x:iE) (k:Nat):iE:=
 ⟨{x.m with v:=lC x.m.v k (oC B (cf x.S.M x.S.cols x.S.rows mb k) x.r).1},{x.S with M:=aX x.S.M x.S.cols mb k (oC B (cf x.S.M x.S.cols x.S.rows mb k) x.r).1},(oC B (cf x.S.M x.S.cols x.S.rows mb k) x.r).2⟩
def eJ (B:List Bool) (mb:Int) (x:iE):iE:=
 if x.m.kind=1 then⟨{x.m with v:=fun _=>(oC B (cf x.S.M x.S.cols x.S.rows mb 0) x.r).1},x.S,(oC B (cf x.S.M x.S.cols x.S.rows mb 0) x.r).2⟩
 else if x.m.kind=2 then AO B mb (AO B mb (AO B mb (AO B mb x 0) 1) 2) 3
 else⟨{x.m with edge:=dv B x.r},x.S,bT B x.r⟩
def dP (mb:Int) (x:iE):iE:=⟨x.m,ba x.S mb x.m.v,x.r⟩
def gy (B:List Bool) (mb:Int) (x:iE):iE:=if alone x.m=true then gZ B mb x 6 else x
def kd (p c:Int) (k:Nat):Bool:=if k<4 then decide (tG .i64 p (8/2^k)≠0)else decide (tG .u64 c (2/2^(k-4))≠0)
def xF (B:List Bool) (x:iE):iE × (Nat→Bool):=(⟨x.m,x.S,(bU B 2 (ki cP B x.r).2).2⟩,kd (ki cP B x.r).1 (bU B 2 (ki cP B x.r).2).1)
def JK (B:List Bool) (mb:Int) (x:iE):iE × (Nat→Bool):=if x.m.kind=0 then(dP mb x,o3)else xF B (gy B mb (dP mb (eJ B mb x)))
def dh (S:bX) (B:List Bool) (mb:Int) (r:Nat × Bool):iE × (Nat→Bool):=JK B mb (gN S B r)
abbrev sN (S:bX) (q:Int):bX:={S with qp:=q}
theorem AH {x:Int}(h:0≤x∧x<4):([.int .i64 (-2),.int .i64 (-1),.int .i64 1,.int .i64 2]:List XC)[(x%2^2).toNat]? = some (.int .i64 (oz x)):=by
 have:x=0∨x=1∨x=2∨x=3:=by omega
 rcases this with rfl|rfl|rfl|rfl <;> rfl
theorem AI (x:Int) : -2≤oz x∧oz x≤2:=jd (p:=fun x => -2≤x∧x≤2) (by decide) (by decide) x.toNat
theorem zk (S:bX) (B:List Bool) (r:Nat × Bool):0≤(jk S B r).1∧(jk S B r).1≤4:=by
 unfold jk
 split
 · exact mW (K:=4) (by decide) ID B (cM.T.length/2) 0 r
 · show 0≤(if dv B r=true then(4:Int)else 3)∧_≤(4:Int)
   split <;> omega
theorem AN (S:bX) (B:List Bool) (k:Int × (Nat × Bool)) (hq : -1000000≤S.qp∧S.qp≤1000000) : -1000000≤(AM S B k).1∧(AM S B k).1≤1000000:=by
 unfold AM
 split
 · split
   · show(-1000000:Int)≤1∧(1:Int)≤1000000;decide
   · simp only [];omega
 · exact hq
structure Ix (x z:iE):Prop where
 cols:z.S.cols=x.S.cols
 rows:z.S.rows=x.S.rows
 qp:z.m.qp=x.m.qp
 kind:z.m.kind=x.m.kind
theorem Cl (B:List Bool) (mb:Int) (x:iE):Ix x (eJ B mb x):=by
 unfold eJ
 split
 · exact⟨rfl,rfl,rfl,rfl⟩
 · split
   · exact⟨rfl,rfl,rfl,rfl⟩
   · exact⟨rfl,rfl,rfl,rfl⟩
theorem nk {L:List Int} {B:List Bool}(h:du L B) {r:Nat × Bool} {e:Int × Int} {t:(Int × Int) × (Nat × Bool)}(ht:oC B e r=t) (he:bB e) {HS:aq} {i k:Nat}(hi:HS[i]? = some (bD k L B r.1 r.2)) (hk:HS[k]? = some (aO L)) (hd:i≠k) {HS':aq}(hh:HS.set i (bD k L B t.2.1 t.2.2)=HS') (hbd:Nat.blt HS'.length Mem.bound=true) :
 aG.Sound Tryz.prog ⟨67,[.one (.ptr i 0),.one (cq e)],HS,.one (cq t.1),HS',[i]⟩:=by
 subst ht
 exact FC h r he hi hk hd hh hbd
theorem py (m:Mb) (h:Nat→Bool) {k:Nat}(hk:k<4) (x:Int × Int):(fI {m with v:=lC m.v k x} h)[2+k]? = some (cq x):=by
 rw [Ec _ _ hk]
 exact congrArg (fun z=>some (cq z)) (if_pos rfl)
theorem HH {B:List Bool} {mb:Int} {X:iE}(hk:X.m.kind=1) {t:(Int × Int) × (Nat × Bool)}(ht:oC B (cf X.S.M X.S.cols X.S.rows mb 0) X.r=t):eJ B mb X=⟨{X.m with v:=fun _=>t.1},X.S,t.2⟩:=by
 subst ht
 exact if_pos hk
abbrev LK (S:bX) (M:fH):bX:={S with M:=M}
abbrev V1 (X:iE) (mb:Int) (t0:(Int × Int) × (Nat × Bool)):fH:=aX X.S.M X.S.cols mb 0 t0.1
abbrev V2 (X:iE) (mb:Int) (t0 t1:(Int × Int) × (Nat × Bool)):fH:=aX (V1 X mb t0) X.S.cols mb 1 t1.1
abbrev V3 (X:iE) (mb:Int) (t0 t1 t2:(Int × Int) × (Nat × Bool)):fH:=aX (V2 X mb t0 t1) X.S.cols mb 2 t2.1
abbrev V4 (X:iE) (mb:Int) (t0 t1 t2 t3:(Int × Int) × (Nat × Bool)):fH:=aX (V3 X mb t0 t1 t2) X.S.cols mb 3 t3.1
abbrev X1 (X:iE) (t0:(Int × Int) × (Nat × Bool)):Mb:={X.m with v:=lC X.m.v 0 t0.1}
abbrev X2 (X:iE) (t0 t1:(Int × Int) × (Nat × Bool)):Mb:={X.m with v:=lC (lC X.m.v 0 t0.1) 1 t1.1}
abbrev X3 (X:iE) (t0 t1 t2:(Int × Int) × (Nat × Bool)):Mb:={X.m with v:=lC (lC (lC X.m.v 0 t0.1) 1 t1.1) 2 t2.1}
abbrev X4 (X:iE) (t0 t1 t2 t3:(Int × Int) × (Nat × Bool)):Mb:={X.m with v:=lC (lC (lC (lC X.m.v 0 t0.1) 1 t1.1) 2 t2.1) 3 t3.1}
theorem HI {B:List Bool} {mb:Int} {X:iE}(hk:X.m.kind=2) {t0 t1 t2 t3:(Int × Int) × (Nat × Bool)}(h0:oC B (cf X.S.M X.S.cols X.S.rows mb 0) X.r=t0) (h1:oC B (cf (V1 X mb t0) X.S.cols X.S.rows mb 1) t0.2=t1) (h2:oC B (cf (V2 X mb t0 t1) X.S.cols X.S.rows mb 2) t1.2=t2) (h3:oC B (cf (V3 X mb t0 t1 t2) X.S.cols X.S.rows mb 3) t2.2=t3) :
 eJ B mb X=⟨X4 X t0 t1 t2 t3,LK X.S (V4 X mb t0 t1 t2 t3),t3.2⟩:=by
 subst h3 h2 h1 h0
 unfold eJ
 rw [if_neg (by rw [hk];decide),if_pos hk]
 rfl
theorem AL {B:List Bool} {mb:Int} {X:iE}(h1:X.m.kind≠1) (h2:X.m.kind≠2):eJ B mb X=⟨{X.m with edge:=dv B X.r},X.S,bT B X.r⟩:=by
 unfold eJ
 rw [if_neg h1,if_neg h2]
end Go.Proofs.YtagpkhindehcbaaGreat
namespace Go.Proofs.YtagpkhindehcbaaGreat
open Go.Xm
variable [aC]
theorem Es {B X:List Bool} {n:Nat}(h:n<5) (hp:X++c7 cM n <+: B):ki cM B (X.length,false)=((n:Int),((X++c7 cM n).length,false)):=by
 obtain⟨t,rfl⟩:=hp
 rw [List.append_assoc,yR h X t,List.length_append]
theorem G_ {B X:List Bool} {n:Nat}(h:n<16) (hp:X++c7 cP n <+: B):ki cP B (X.length,false)=((n:Int),((X++c7 cP n).length,false)):=by
 obtain⟨t,rfl⟩:=hp
 rw [List.append_assoc,tL h X t,List.length_append]
theorem G9 {B X:List Bool} {n:Int}(h : -4000≤n∧n≤4000) (hp:X++aV n <+: B):fk B (X.length,false)=(n,((X++aV n).length,false)):=by
 obtain⟨t,rfl⟩:=hp
 rw [List.append_assoc,Bm h X t,List.length_append]
theorem Et {B X:List Bool} {v e:Int × Int}(he:bB e) (hr:dO v=true) (hp:X++cG v e <+: B):oC B e (X.length,false)=(v,((X++cG v e).length,false)):=by
 obtain⟨t,rfl⟩:=hp
 rw [List.append_assoc,Fl v e he hr X t,List.length_append]
theorem Av {B X:List Bool} {n:Int} {k:Nat}(h:0≤n∧n<2^k) (hp:X++dW n k <+: B):bU B k (X.length,false)=(n,((X++dW n k).length,false)):=by
 obtain⟨t,rfl⟩:=hp
 rw [List.append_assoc,tV h X t,List.length_append,fS]
theorem Aw {B X:List Bool} {b:Bool}(hp:X++[b] <+: B):dv B (X.length,false)=b∧bT B (X.length,false)=((X++[b]).length,false):=by
 obtain⟨t,rfl⟩:=hp
 have:=oU X b t
 rw [List.append_assoc,List.length_append]
 exact this
def kq (b:Kn):Int × Int:=(b.lv 0,b.qp)
def wb (T U:nD):Prop:=∀ k,(bW U k).map kq=(bW T k).map kq
structure Rel (S R:bX):Prop where
 inter:R.inter=S.inter
 qp:R.qp=S.qp
 cols:R.cols=S.cols
 rows:R.rows=S.rows
 M:∀ k,bW R.M k=bW S.M k
 a:wb S.A R.A
 b:wb S.B R.B
 c:wb S.C R.C
theorem sV {p q:Int} {T U:nD}(h:wb T U) {key:Int} {b c:Kn}(hb:kq c=kq b):wb (lx p q T key b) (lx p q U key c):=by
 unfold lx
 split
 · intro k
   rw [gS,gS]
   split
   · exact congrArg some hb
   · exact h k
 · exact h
theorem Gx {a b:Kn}(h:kq a=kq b):gv a=gv b:=by
 unfold kq at h
 have h1:=(Prod.mk.inj h).1
 have h2:=(Prod.mk.inj h).2
 unfold gv
 rw [h1,h2]
theorem Gv {la la' lb lb' lc lc':Option Kn} {q:Int}(ha:la'.map kq=la.map kq) (hb:lb'.map kq=lb.map kq) (hc:lc'.map kq=lc.map kq):jc la' lb' lc' q=jc la lb lc q:=by
 have e:∀ {x y:Option Kn},x.map kq=y.map kq→(x=none∧y=none)∨∃ a b,x=some a∧y=some b∧gv a=gv b:=by
  intro x y h
  cases x with
  | none=>cases y with
    | none=>exact .inl ⟨rfl,rfl⟩
    | some b=>cases h
  | some a=>cases y with
    | none=>cases h
    | some b=>exact .inr ⟨a,b,rfl,rfl,Gx (Option.some.inj h)⟩
 rcases e ha with⟨rfl,rfl⟩|⟨a,a',rfl,rfl,ea⟩ <;> rcases e hb with⟨rfl,rfl⟩|⟨b,b',rfl,rfl,eb⟩ <;> rcases e hc with⟨rfl,rfl⟩|⟨c,c',rfl,rfl,ec⟩ <;> unfold jc <;> simp only [*]
theorem yU {S R:bX}(h:Rel S R) (mb k dx dy:Int):(ya R mb k dx dy).map kq=(ya S mb k dx dy).map kq:=by
 unfold ya cU cu
 rw [h.cols]
 split
 · rfl
 · unfold bQ
   split
   · exact h.a _
   · split
     · exact h.b _
     · exact h.c _
theorem Fb {S R:bX}(h:Rel S R) (mb k q:Int):aR R mb k q=aR S mb k q:=Gv (yU h ..) (yU h ..) (yU h ..)
theorem Fj {S R:bX}(h:Rel S R) (mb k:Int) {b c:Kn}(hb:kq c=kq b):Rel (aZ S mb k b) (aZ R mb k c):=by
 have e:q8 R mb k=q8 S mb k:=by unfold q8;rw [h.cols]
 refine⟨h.inter,h.qp,h.cols,h.rows,h.M,?_,?_,?_⟩
 · show wb (lx (placeOf S.cols mb k).1 0 S.A (q8 S mb k) b) (lx (placeOf R.cols mb k).1 0 R.A (q8 R mb k) c)
   rw [e,h.cols];exact sV h.a hb
 · show wb (lx (placeOf S.cols mb k).1 1 S.B (q8 S mb k) b) (lx (placeOf R.cols mb k).1 1 R.B (q8 R mb k) c)
   rw [e,h.cols];exact sV h.b hb
 · show wb (lx (placeOf S.cols mb k).1 2 S.C (q8 S mb k) b) (lx (placeOf R.cols mb k).1 2 R.C (q8 R mb k) c)
   rw [e,h.cols];exact sV h.c hb
theorem uD {M N:fH}(h:∀ k,bW N k=bW M k) (cols rows mb k:Int):cf N cols rows mb k=cf M cols rows mb k:=by
 unfold cf jX
 simp only [h]
theorem lD {M N:fH}(h:∀ k,bW N k=bW M k) (cols mb j:Int) (v:Int × Int) (k:Int):bW (aX N cols mb j v) k=bW (aX M cols mb j v) k:=by
 unfold aX
 rw [gS,gS,h]
theorem n5 {M N:fH}(h:∀ k,bW N k=bW M k) (cols mb:Int) {v w:Nat→Int × Int}(hv:∀ j,j<4→w j=v j) (k:Int):bW (pM N cols mb w) k=bW (pM M cols mb v) k:=by
 unfold pM
 rw [hv 0 (by omega),hv 1 (by omega),hv 2 (by omega),hv 3 (by omega)]
 exact lD (fun _=>lD (fun _=>lD (fun _=>lD h ..) ..) ..) ..
theorem y6 {M N:fH} {a b c d:Int} {x y z w:Int × Int}(h:∀ k,k≠a→k≠b→k≠c→k≠d→bW N k=bW M k) (k:Int):bW (mK (mK (mK (mK N a x) b y) c z) d w) k=bW (mK (mK (mK (mK M a x) b y) c z) d w) k:=by
 simp only [gS]
 split
 · rfl
 · split
   · rfl
   · split
     · rfl
     · split
       · rfl
       · exact h k (by assumption) (by assumption) (by assumption) (by assumption)
theorem vv {M N:fH}(h:∀ k,bW N k=bW M k) (cols mb:Int) {v w:Nat→Int × Int}(hv:∀ j,j<4→w j=v j) (x:Int × Int) (k:Int):bW (pM N cols mb w) k=bW (pM (aX M cols mb 0 x) cols mb v) k:=by
 rw [n5 h cols mb hv k]
 exact y6 (fun j h0 _ _ _=>by unfold aX;rw [gS,if_neg h0]) k
structure CU (m o:Mb):Prop where
 kind:o.kind=m.kind
 qp:o.qp=m.qp
 v:∀ k,k<4→o.v k=m.v k
 edge:o.edge=m.edge
 lev:∀ i,o.lev i=if alone m=true∧i%64=0∧i<384 then m.lev i else 0
structure mw (S:bX) (m:Mb):Prop where
 kind:0≤m.kind∧m.kind≤4
 alo:S.inter=false→alone m=true
 edge:alone m=false→m.edge=false
 st:m.kind=4→(dI S.qp m.qp).2=true
 qp:m.kind≠4→m.qp=S.qp
 vecs:∀ k,k<4→oB m k
 lev:∀ i,i<384→wU m i
theorem kS {S:bX} {m:Mb}(hm:iI m) (h:dE m S.inter S.qp=0):mw S m:=by
 have hk:=hm.kind
 unfold dE at h
 split at h
 · cases h
 rename_i h1
 split at h
 · cases h
 rename_i h2
 split at h
 · cases h
 rename_i h3
 split at h
 · cases h
 rename_i h4
 split at h
 · rename_i h5;exact absurd h h5
 rename_i h5
 have hv:f_ m=0:=Decidable.byContradiction fun g=>h5 g
 refine⟨⟨hk.1,?_⟩,?_,?_,?_,?_,?_,?_⟩
 · exact Decidable.byContradiction fun g=>h1 (.inl (by omega))
 · intro g
   cases ha:alone m with
   | true=>rfl
   | false=>exact absurd (.inr ⟨g,ha⟩) h1
 · intro g
   cases he:m.edge with
   | false=>rfl
   | true=>exact absurd ⟨he,g⟩ h2
 · intro g
   cases hs:(dI S.qp m.qp).2 with
   | true=>rfl
   | false=>exact absurd ⟨g,hs⟩ h3
 · intro g
   exact Decidable.byContradiction fun e=>h4 ⟨g,e⟩
 · unfold f_ at hv
   split at hv
   · rename_i g
     intro k hk
     match k,hk with
     | 0,_=>exact g.1
     | 1,_=>exact g.2.1
     | 2,_=>exact g.2.2.1
     | 3,_=>exact g.2.2.2
   · cases hv
 · unfold ub at h
   split at h
   · assumption
   · cases h
theorem B5 {a b:Int}(h:(dI a b).2=true):a+oz (dI a b).1=b∧1≤b∧b≤31:=by
 unfold dI at h ⊢
 split at h
 · cases h
 · rename_i h0
   rw [if_neg h0]
   repeat' split at h
   all_goals first|(cases h;done)|skip
   all_goals (repeat' split)
   all_goals first|contradiction|(refine⟨?_,by omega,by omega⟩;simp [oz];omega)
theorem jB {S R:bX}(hR:Rel S R) {m:Mb}(hf:mw S m) {X B:List Bool}(hp:X++aA S m <+: B):gN R B (X.length,false)=⟨{lK with kind:=m.kind,qp:=m.qp},{R with qp:=m.qp},((X++aA S m).length,false)⟩:=by
 have hk:=hf.kind
 have e0:∃ K,aA S m=K++(if m.kind=4 then dW (dI S.qp m.qp).1 2 else [])∧(X++K <+: B→jk R B (X.length,false)=(m.kind,((X++K).length,false))):=by
  refine⟨_,rfl,fun hp=>?_⟩
  unfold jk
  rw [hR.inter]
  by_cases hi:S.inter=true
  · rw [if_pos hi]at hp ⊢
    rw [if_pos hi,Es (by omega) hp]
    congr 1
    omega
  · rw [if_neg hi]at hp ⊢
    rw [if_neg hi]
    have hr:=Aw hp
    rw [hr.1,hr.2]
    have ha:=hf.alo (by simpa using hi)
    unfold alone at ha
    have ha':=of_decide_eq_true ha
    by_cases h4:m.kind=4
    · rw [decide_eq_true h4,if_pos rfl,h4]
    · rw [decide_eq_false h4,if_neg (by decide)]
      congr 1
      omega
 obtain⟨K,eK,hK⟩:=e0
 rw [eK,←List.append_assoc]at hp ⊢
 have hp1:X++K <+: B:=(List.prefix_append _ _).trans hp
 have e1:=hK hp1
 have e2:AM R B (m.kind,((X++K).length,false))=(m.qp,(((X++K)++(if m.kind=4 then dW (dI S.qp m.qp).1 2 else [])).length,false)):=by
  unfold AM
  by_cases h4:m.kind=4
  · rw [if_pos h4]at hp ⊢
    have hs:=ux S.qp m.qp
    have hb:=B5 (hf.st h4)
    have:=Av (k:=2) ⟨hs.1,by omega⟩ hp
    rw [if_pos h4]
    simp only [this,hR.qp]
    rw [if_neg (by omega),hb.1]
  · rw [if_neg h4,if_neg h4,List.append_nil,hR.qp,hf.qp h4]
 unfold gN
 rw [e1,e2]
theorem ve {S R:bX}(h:Rel S R) {m:Mb}(hf:mw S m):Rel (fh S m) {R with qp:=m.qp}:=by
 by_cases h4:m.kind=4
 · rw [m5 h4]
   exact⟨h.inter,rfl,h.cols,h.rows,h.M,h.a,h.b,h.c⟩
 · rw [dA h4]
   exact⟨h.inter,hf.qp h4,h.cols,h.rows,h.M,h.a,h.b,h.c⟩
theorem xl {S R:bX}(h:Rel S R) {M N:fH}(hm:∀ k,bW N k=bW M k):Rel {S with M:=M} {R with M:=N}:=⟨h.inter,h.qp,h.cols,h.rows,hm,h.a,h.b,h.c⟩
theorem Ff {S:bX} {z:iE}(hR:Rel S z.S) (hT:cg S.M) {m:Mb} {mb:Int} {k:Nat}(hr:dO (m.v k)=true) {X B:List Bool}(hz:z.r=(X.length,false)) (hp:X++cG (m.v k) (cf S.M S.cols S.rows mb k) <+: B) :
 AO B mb z k=⟨{z.m with v:=lC z.m.v k (m.v k)},{z.S with M:=aX z.S.M z.S.cols mb k (m.v k)},((X++cG (m.v k) (cf S.M S.cols S.rows mb k)).length,false)⟩:=by
 have e:oC B (cf z.S.M z.S.cols z.S.rows mb k) z.r=(m.v k,((X++cG (m.v k) (cf S.M S.cols S.rows mb k)).length,false)):=by
  rw [hR.cols,hR.rows,uD hR.M,hz]
  exact Et (cR hT) hr hp
 unfold AO
 rw [e]
theorem Hb {S R:bX}(h:Rel S R) (mb k:Int) (v:Int × Int):Rel {S with M:=aX S.M S.cols mb k v} {R with M:=aX R.M R.cols mb k v}:=
 xl h (fun j=>by rw [h.cols];exact lD h.M ..)
structure oH (S:bX) (Y:List Bool) (m:Mb) (z:iE):Prop where
 rel:Rel S z.S
 r:z.r=(Y.length,false)
 kind:z.m.kind=m.kind
 qp:z.m.qp=m.qp
 v:∀ k,k<4→z.m.v k=m.v k
 edge:z.m.edge=m.edge
 lev:∀ i,z.m.lev i=0
theorem Cu {m:Mb}(hv:∀ k,k<4→oB m k) (h2:m.kind≠2):∀ k,k<4→m.v 0=m.v k:=fun k hk=>((hv k hk).2.1 h2).symm
theorem uC {m:Mb}(hv:∀ k,k<4→oB m k) (h1:m.kind≠1) (h2:m.kind≠2):∀ k,k<4→(0,0)=m.v k:=fun k hk=>((hv k hk).2.2 h1 h2).symm
theorem pa {m:Mb}(h3:m.kind≠3) (h4:m.kind≠4):alone m=false:=decide_eq_false (by omega)
theorem Kv {S R:bX}(hR:Rel S R) {m:Mb} {mb:Int}(hf:mw S m) (h0:m.kind=0) {X B:List Bool}(hp:X++aA S m <+: B):oH (ba S mb m.v) (X++aA S m) m (dP mb (gN R B (X.length,false))):=by
 rw [jB hR hf hp]
 have h:=ve hR hf
 rw [dA (by omega)]at h
 have hv:=uC hf.vecs (by omega) (by omega)
 exact⟨xl h (fun k=>by rw [h.cols];exact n5 h.M _ _ hv k),rfl,rfl,rfl,hv,(hf.edge (pa (by omega) (by omega))).symm,fun _=>rfl⟩
theorem Kw {S R:bX}(hR:Rel S R) (hT:cg S.M) {m:Mb} {mb:Int}(hf:mw S m) (h1:m.kind=1) {X B:List Bool}(hp:(ax m mb (S,X++aA S m) 0).2 <+: B):oH (ba (ax m mb (S,X++aA S m) 0).1 mb m.v) (ax m mb (S,X++aA S m) 0).2 m (dP mb (eJ B mb (gN R B (X.length,false)))):=by
 have hp1:X++aA S m <+: B:=(List.prefix_append _ _).trans hp
 have h:=ve hR hf
 rw [dA (by omega)]at h
 have hv:=Cu hf.vecs (by omega)
 have e:oC B (cf R.M R.cols R.rows mb 0) ((X++aA S m).length,false)=(m.v 0,((ax m mb (S,X++aA S m) 0).2.length,false)):=by
  rw [hR.cols,hR.rows,uD hR.M]
  exact Et (cR hT) (hf.vecs 0 (by omega)).1 hp
 rw [jB hR hf hp1]
 unfold eJ
 rw [if_pos h1]
 show oH _ _ _ (dP mb ⟨{lK with kind:=m.kind,qp:=m.qp,v:=fun _=>(oC B (cf R.M R.cols R.rows mb 0) ((X++aA S m).length,false)).1},{R with qp:=m.qp},(oC B (cf R.M R.cols R.rows mb 0) ((X++aA S m).length,false)).2⟩)
 rw [e]
 exact⟨xl (S:=S) h (fun k=>by rw [h.cols];exact vv h.M _ _ hv _ k),rfl,rfl,rfl,hv,(hf.edge (pa (by omega) (by omega))).symm,fun _=>rfl⟩
theorem pJ {x:bX × List Bool} {z:iE}(hR:Rel x.1 z.S) (hT:cg x.1.M) {m:Mb} {mb:Int} {k:Nat}(hr:dO (m.v k)=true) {B:List Bool}(hz:z.r=(x.2.length,false)) (hp:(ax m mb x k).2 <+: B) :
 Rel (ax m mb x k).1 (AO B mb z k).S∧(AO B mb z k).r=((ax m mb x k).2.length,false)∧(AO B mb z k).m = {z.m with v:=lC z.m.v k (m.v k)}:=by
 rw [Ff hR hT hr hz hp]
 exact⟨Hb hR mb k (m.v k),rfl,rfl⟩
theorem Kx {S R:bX}(hR:Rel S R) (hT:cg S.M) {m:Mb}(hm:iI m) {mb:Int}(hf:mw S m) (h2:m.kind=2) {X B:List Bool}(hp:(ax m mb (ax m mb (ax m mb (ax m mb (S,X++aA S m) 0) 1) 2) 3).2 <+: B):oH (ba (ax m mb (ax m mb (ax m mb (ax m mb (S,X++aA S m) 0) 1) 2) 3).1 mb m.v) (ax m mb (ax m mb (ax m mb (ax m mb (S,X++aA S m) 0) 1) 2) 3).2 m (dP mb (eJ B mb (gN R B (X.length,false)))):=by
 have p3:(ax m mb (ax m mb (ax m mb (S,X++aA S m) 0) 1) 2).2 <+: B:=(List.prefix_append _ _).trans hp
 have p2:(ax m mb (ax m mb (S,X++aA S m) 0) 1).2 <+: B:=(List.prefix_append _ _).trans p3
 have p1:(ax m mb (S,X++aA S m) 0).2 <+: B:=(List.prefix_append _ _).trans p2
 have p0:X++aA S m <+: B:=(List.prefix_append _ _).trans p1
 have h:=ve hR hf
 rw [dA (by omega)]at h
 rw [jB hR hf p0]
 unfold eJ
 rw [if_neg (by show¬m.kind=1;omega),if_pos h2]
 obtain⟨z0,hz0⟩:∃ z0:iE,(⟨{lK with kind:=m.kind,qp:=m.qp},{R with qp:=m.qp},((X++aA S m).length,false)⟩:iE)=z0:=⟨_,rfl⟩
 have i0:Rel (S,X++aA S m).1 z0.S:=by rw [←hz0];exact h
 have i1:z0.r=((S,X++aA S m).2.length,false):=by rw [←hz0]
 have i2:z0.m = {lK with kind:=m.kind,qp:=m.qp}:=by rw [←hz0]
 rw [hz0]
 clear hz0
 have s0:=pJ (k:=0) i0 hT (hf.vecs 0 (by omega)).1 i1 p1
 have T1:=bE (cols:=S.cols) (mb:=mb) (k:=0) hT (hm.v 0)
 have s1:=pJ (k:=1) s0.1 T1 (hf.vecs 1 (by omega)).1 s0.2.1 p2
 have T2:=bE (cols:=S.cols) (mb:=mb) (k:=1) T1 (hm.v 1)
 have s2:=pJ (k:=2) s1.1 T2 (hf.vecs 2 (by omega)).1 s1.2.1 p3
 have T3:=bE (cols:=S.cols) (mb:=mb) (k:=2) T2 (hm.v 2)
 have s3:=pJ (k:=3) s2.1 T3 (hf.vecs 3 (by omega)).1 s2.2.1 hp
 obtain⟨z3,hz3⟩:∃ z3,AO B mb (AO B mb (AO B mb (AO B mb z0 0) 1) 2) 3=z3:=⟨_,rfl⟩
 have em:z3.m = {lK with kind:=m.kind,qp:=m.qp,v:=lC (lC (lC (lC lK.v 0 (m.v 0)) 1 (m.v 1)) 2 (m.v 2)) 3 (m.v 3)}:=by
  rw [←hz3,s3.2.2,s2.2.2,s1.2.2,s0.2.2,i2]
 have hv:∀ k,k<4→z3.m.v k=m.v k:=fun k hk=>by
  rw [em]
  match k,hk with
  | 0,_=>rfl
  | 1,_=>rfl
  | 2,_=>rfl
  | 3,_=>rfl
 rw [hz3]at s3 ⊢
 exact⟨xl s3.1 (fun k=>by rw [s3.1.cols];exact n5 s3.1.M _ _ hv k),s3.2.1,by show z3.m.kind=_;rw [em],by show z3.m.qp=_;rw [em],hv,by show z3.m.edge=_;rw [em];exact(hf.edge (pa (by omega) (by omega))).symm,fun i=>by show z3.m.lev i=0;rw [em];rfl⟩
theorem Ky {S R:bX}(hR:Rel S R) {m:Mb} {mb:Int}(hf:mw S m) (h34:m.kind=3∨m.kind=4) {X B:List Bool}(hp:(X++aA S m)++[m.edge] <+: B):oH (ba (fh S m) mb m.v) ((X++aA S m)++[m.edge]) m (dP mb (eJ B mb (gN R B (X.length,false)))):=by
 have p0:X++aA S m <+: B:=(List.prefix_append _ _).trans hp
 have h:=ve hR hf
 rw [jB hR hf p0]
 have hr:=Aw hp
 rw [AL (by show¬m.kind=1;omega) (by show¬m.kind=2;omega)]
 rw [hr.1,hr.2]
 have hv:=uC hf.vecs (by omega) (by omega)
 exact⟨xl h (fun k=>by rw [h.cols];exact n5 h.M _ _ hv k),rfl,rfl,rfl,hv,rfl,fun _=>rfl⟩
theorem DB {S R:bX}(hR:Rel S R) (hT:cg S.M) {m:Mb}(hm:iI m) {mb:Int}(hf:mw S m) (h0:m.kind≠0) {X B:List Bool}(hp:(db S X m mb).2 <+: B):oH (db S X m mb).1 (db S X m mb).2 m (dP mb (eJ B mb (gN R B (X.length,false)))):=by
 have hk:=hf.kind
 unfold db at hp ⊢
 rw [if_neg h0]at hp ⊢
 split at hp
 · rename_i h1
   rw [if_pos h1]
   exact Kw hR hT hf h1 hp
 · rename_i h1
   rw [if_neg h1]
   split at hp
   · rename_i h2
     rw [if_pos h2]
     exact Kx hR hT hm hf h2 hp
   · rename_i h2
     rw [if_neg h2]
     exact Ky hR hf (by omega) hp
theorem iK {m:Mb} {mb:Int} {x0:o4} {k:Nat} {x:o4}(h:gY m mb x0 (k+1)=some x):∃ y r,gY m mb x0 k=some y∧jo m y.S mb k=some r∧x=cC m mb k y (rM m y.S mb k r):=by
 rw [gY]at h
 obtain⟨y,hy,h2⟩:=Option.bind_eq_some_iff.1 h
 obtain⟨r,hr,h3⟩:=Option.map_eq_some_iff.1 h2
 exact⟨y,r,hy,hr,h3.symm⟩
structure CV (m:Mb) (k:Nat) (x:o4) (z:iE):Prop where
 rel:Rel x.S z.S
 r:z.r=(x.B.length,false)
 kind:z.m.kind=m.kind
 qp:z.m.qp=m.qp
 v:∀ j,j<4→z.m.v j=m.v j
 edge:z.m.edge=m.edge
 lev:∀ i,z.m.lev i=if i%64=0∧i<64*k then m.lev i else 0
theorem Bw {m:Mb} {mb:Int}(ha:alone m=true) (hg:jG m) {x0:o4} {z:iE}(hz:oH x0.S x0.B m z) {B:List Bool}:∀ k,k≤6→∀ x,gY m mb x0 k=some x→x.B <+: B→CV m k x (gZ B mb z k):=by
 intro k
 induction k with
 | zero=>
   intro _ x hx hp
   cases hx
   exact⟨hz.rel,hz.r,hz.kind,hz.qp,hz.v,hz.edge,fun i=>by rw [if_neg (by omega)];exact hz.lev i⟩
 | succ k ih=>
   intro hk x hx hp
   obtain⟨y,r,hy,hr,rfl⟩:=iK hx
   have eB:(cC m mb k y (rM m y.S mb k r)).B=y.B++aV (aD m k 0-(aR y.S mb k m.qp).2):=if_pos ha
   have eS:(cC m mb k y (rM m y.S mb k r)).S=aZ y.S mb k ⟨aD m k,m.qp⟩:=if_pos ha
   rw [eB]at hp
   have h:=ih (by omega) y hy ((List.prefix_append _ _).trans hp)
   obtain⟨w,hw⟩:∃ w,gZ B mb z k=w:=⟨_,rfl⟩
   rw [hw]at h
   have hd:=G9 (kT hg (S:=y.S) (mb:=mb) ha (by omega)) hp
   rw [←h.r]at hd
   have e0:aD m k 0=m.lev (k*64):=by unfold aD;rw [Nat.add_zero]
   have hl:=hg.first ha k (by omega)
   have ev:yH B mb w k=m.lev (k*64):=by
    unfold yH
    rw [hd,h.qp,Fb h.rel,e0]
    show(aR y.S mb k m.qp).2+(m.lev (k*64)-(aR y.S mb k m.qp).2)=m.lev (k*64)
    omega
   have hb:¬tE B mb w k:=by unfold tE;rw [ev];omega
   have el:yG B mb w k=m.lev (k*64):=by unfold yG;rw [if_neg hb,ev]
   show CV m (k+1) _ (qC B mb (gZ B mb z k) k)
   rw [hw]
   have eq1:kq ⟨aD (F0 B mb w k) k,(F0 B mb w k).qp⟩=kq ⟨aD m k,m.qp⟩:=by
    have e1:aD (F0 B mb w k) k 0=m.lev (k*64):=by
     show fw w.m.lev (k*64) (yG B mb w k) (k*64+0)=m.lev (k*64)
     rw [el];unfold fw;rw [if_pos (Nat.add_zero _)]
    show(aD (F0 B mb w k) k 0,w.m.qp)=(aD m k 0,m.qp)
    rw [e1,e0,h.qp]
   refine⟨?_,?_,h.kind,h.qp,h.v,h.edge,?_⟩
   · rw [eS]
     exact Fj h.rel mb k eq1
   · rw [eB]
     show(if tE B mb w k then((fk B w.r).2.1,true)else(fk B w.r).2)=_
     rw [if_neg hb,hd]
   · intro i
     show fw w.m.lev (k*64) (yG B mb w k) i=_
     rw [el]
     unfold fw
     by_cases hi:i=k*64
     · rw [if_pos hi,if_pos (by omega),hi]
     · rw [if_neg hi,h.lev i]
       by_cases h2:i%64=0∧i<64*k
       · rw [if_pos h2,if_pos (by omega)]
       · rw [if_neg h2,if_neg (by omega)]
theorem yt {m:Mb} {mb:Int}(ha:alone m=false) {x0:o4}:∀ k x,gY m mb x0 k=some x→x.S=x0.S∧x.B=x0.B:=by
 intro k
 induction k with
 | zero=>intro x hx;cases hx;exact⟨rfl,rfl⟩
 | succ k ih=>
   intro x hx
   obtain⟨y,r,hy,hr,rfl⟩:=iK hx
   have h:=ih y hy
   have eB:(cC m mb k y (rM m y.S mb k r)).B=y.B:=if_neg (by rw [ha];decide)
   have eS:(cC m mb k y (rM m y.S mb k r)).S=y.S:=if_neg (by rw [ha];decide)
   rw [eB,eS];exact h
theorem G4:∀(a:Fin 16) (k j:Fin 4),decide (tG .i64 (ef (a.val:Int) (k.val:Int)) (8/2^j.val)≠0)=(decide (j=k) || decide (tG .i64 (a.val:Int) (8/2^j.val)≠0)):=by decide +kernel
theorem Gf:∀(a:Fin 4) (k j:Fin 2),decide (tG .u64 (gH (a.val:Int) ((k.val+4:Nat):Int)) (2/2^j.val)≠0)=(decide (j=k) || decide (tG .u64 (a.val:Int) (2/2^j.val)≠0)):=by decide +kernel
theorem GD {a c:Int}(h:0≤a∧a<16) {k j:Nat}(hk:k<4) (hj:j<6):kd (ef a k) c j=(decide (j=k) || kd a c j):=by
 unfold kd
 by_cases h4:j<4
 · rw [if_pos h4,if_pos h4]
   have:=G4 ⟨a.toNat,by omega⟩ ⟨k,hk⟩ ⟨j,h4⟩
   simp only [Int.toNat_of_nonneg h.1,Fin.mk.injEq]at this
   exact this
 · rw [if_neg h4,if_neg h4,decide_eq_false (by omega:¬j=k),Bool.false_or]
theorem GC {a c:Int}(h:0≤c∧c<4) {k j:Nat}(hk4:¬k<4) (hk:k<6) (hj:j<6):kd a (gH c k) j=(decide (j=k) || kd a c j):=by
 unfold kd
 by_cases h4:j<4
 · rw [if_pos h4,if_pos h4,decide_eq_false (by omega:¬j=k),Bool.false_or]
 · rw [if_neg h4,if_neg h4]
   have:=Gf ⟨c.toNat,by omega⟩ ⟨k-4,by omega⟩ ⟨j-4,by omega⟩
   simp only [Int.toNat_of_nonneg h.1,Fin.mk.injEq,show k-4+4=k by omega]at this
   rw [this]
   congr 1
   exact decide_eq_decide.2 (by omega)
structure J9 (x:o4):Prop where
 pat:0≤x.pat∧x.pat<16
 col:0≤x.col∧x.col<4
 has:∀ j,j<6→kd x.pat x.col j=decide (0<(x.ev j).length)
theorem GF {m:Mb} {mb:Int} {S:bX} {X:List Bool}:∀ k,k≤6→∀ x,gY m mb ⟨S,X,0,0,fun _=>[]⟩ k=some x→J9 x∧∀ j,k≤j→x.ev j = []:=by
 intro k
 induction k with
 | zero=>
   intro _ x hx
   cases hx
   refine⟨⟨by show(0:Int)≤0∧(0:Int)<16;decide,by show(0:Int)≤0∧(0:Int)<4;decide,?_⟩,fun _ _=>rfl⟩
   have:∀ j:Fin 6,kd 0 0 j.val=false:=by decide
   intro j hj
   exact this ⟨j,hj⟩
 | succ k ih=>
   intro hk x hx
   obtain⟨y,r,hy,hr,rfl⟩:=iK hx
   obtain⟨h,hn⟩:=ih (by omega) y hy
   obtain⟨ev,hev⟩:∃ ev,rM m y.S mb k r=ev:=⟨_,rfl⟩
   rw [hev]
   refine⟨⟨?_,?_,?_⟩,?_⟩
   · show 0≤(if 0<ev.length∧k<4 then ef y.pat k else y.pat)∧(if 0<ev.length∧k<4 then ef y.pat k else y.pat)<16
     split
     · rename_i g;exact xd h.pat g.2
     · exact h.pat
   · show 0≤(if 0<ev.length∧¬k<4 then gH y.col k else y.col)∧(if 0<ev.length∧¬k<4 then gH y.col k else y.col)<4
     split
     · rename_i g;exact wq h.col g.2 (by omega)
     · exact h.col
   · intro j hj
     show kd (if 0<ev.length∧k<4 then ef y.pat k else y.pat) (if 0<ev.length∧¬k<4 then gH y.col k else y.col) j=decide (0<(if j=k then ev else y.ev j).length)
     have e2:kd (if 0<ev.length∧k<4 then ef y.pat k else y.pat) (if 0<ev.length∧¬k<4 then gH y.col k else y.col) j=(decide (j=k∧0<ev.length) || kd y.pat y.col j):=by
      by_cases he:0<ev.length
      · by_cases h4:k<4
        · rw [if_pos ⟨he,h4⟩,if_neg (fun g=>g.2 h4),GD h.pat h4 hj]
          congr 1;exact decide_eq_decide.2 ⟨fun g=>⟨g,he⟩,fun g=>g.1⟩
        · rw [if_neg (fun g=>h4 g.2),if_pos ⟨he,h4⟩,GC h.col h4 (by omega) hj]
          congr 1;exact decide_eq_decide.2 ⟨fun g=>⟨g,he⟩,fun g=>g.1⟩
      · rw [if_neg (fun g=>he g.1),if_neg (fun g=>he g.1),decide_eq_false (fun g=>he g.2),Bool.false_or]
     rw [e2]
     by_cases hjk:j=k
     · subst hjk
       rw [h.has j hj,hn j (Nat.le_refl _),if_pos rfl,decide_eq_false (show¬0<([]:List Ev).length from Nat.lt_irrefl 0),Bool.or_false]
       exact decide_eq_decide.2 ⟨fun g=>g.2,fun g=>⟨rfl,g⟩⟩
     · rw [if_neg hjk,decide_eq_false (fun g=>hjk g.1),Bool.false_or]
       exact h.has j hj
   · intro j hj
     show(if j=k then ev else y.ev j) = []
     rw [if_neg (by omega)]
     exact hn j (by omega)
noncomputable def iG (S:bX) (X bw:List Bool) (m:Mb) (mb:Int):Option (bX × List Bool × List Bool):=
 if m.kind=0 then some (ba S mb m.v,X++aA S m,bw)else(gY m mb ⟨(db S X m mb).1,(db S X m mb).2,0,0,fun _=>[]⟩ 6).map fun x=>(x.S,eF x,bC bw x 6)
noncomputable def Ds (S:bX) (X:List Bool) (m:Mb) (mb:Int) (k:Nat):List Ev:=
 if m.kind=0 then []else match gY m mb ⟨(db S X m mb).1,(db S X m mb).2,0,0,fun _=>[]⟩ 6 with
  | some x=>x.ev k
  | none=>[]
theorem Ch {S R:bX}(hR:Rel S R) (hT:cg S.M) {m:Mb}(hg:jG m) {mb:Int}(hf:mw S m) {X bw B:List Bool} {S':bX} {X' bw':List Bool}(hput:iG S X bw m mb=some (S',X',bw')) (hp:X' <+: B) :
 (dh R B mb (X.length,false)).1.r=(X'.length,false)∧Rel S' (dh R B mb (X.length,false)).1.S∧CU m (dh R B mb (X.length,false)).1.m∧∀ k,k<6→(dh R B mb (X.length,false)).2 k=decide (0<(Ds S X m mb k).length):=by
 unfold iG at hput
 unfold dh
 by_cases h0:m.kind=0
 · rw [if_pos h0]at hput
   have e:=Option.some.inj hput
   have e1:=(Prod.mk.inj e).1
   have e2:=(Prod.mk.inj (Prod.mk.inj e).2).1
   subst e1 e2
   have h:=Kv (mb:=mb) hR hf h0 hp
   have hk:(gN R B (X.length,false)).m.kind=0:=by rw [jB hR hf hp];exact h0
   unfold JK
   rw [if_pos hk]
   refine⟨h.r,h.rel,⟨h.kind,h.qp,h.v,h.edge,fun i=>?_⟩,fun k _=>?_⟩
   · rw [if_neg (fun g=>by have:=g.1;rw [pa (by omega) (by omega)]at this;cases this)]
     exact h.lev i
   · unfold Ds
     rw [if_pos h0]
     rfl
 · rw [if_neg h0]at hput
   obtain⟨x,hx,e⟩:=Option.map_eq_some_iff.1 hput
   have e1:=(Prod.mk.inj e).1
   have e2:=(Prod.mk.inj (Prod.mk.inj e).2).1
   have e3:=(Prod.mk.inj (Prod.mk.inj e).2).2
   subst e1 e2 e3
   unfold eF at hp
   have hp1:x.B++c7 cP x.pat.toNat <+: B:=(List.prefix_append _ _).trans hp
   have hp2:x.B <+: B:=(List.prefix_append _ _).trans hp1
   obtain⟨hho,_⟩:=GF 6 (Nat.le_refl _) x hx
   have hev:∀ k,Ds S X m mb k=x.ev k:=fun k=>by unfold Ds;rw [if_neg h0,hx]
   have hpre:(db S X m mb).2 <+: x.B:=by
    have:∀ k x,gY m mb ⟨(db S X m mb).1,(db S X m mb).2,0,0,fun _=>[]⟩ k=some x→(db S X m mb).2 <+: x.B:=by
     intro k
     induction k with
     | zero=>intro x hx;cases hx;exact List.prefix_refl _
     | succ k ih=>
       intro x hx
       obtain⟨y,r,hy,hr,rfl⟩:=iK hx
       refine(ih y hy).trans ?_
       show y.B <+: (if alone m=true then y.B++_ else y.B)
       split
       · exact List.prefix_append _ _
       · exact List.prefix_refl _
    exact this 6 x hx
   have hh:=DB hR hT hg.ok hf h0 (hpre.trans hp2)
   have hk:(gN R B (X.length,false)).m.kind≠0:=by
    have:X++aA S m <+: B:=by
     refine List.IsPrefix.trans ?_ (hpre.trans hp2)
     unfold db
     rw [if_neg h0]
     split
     · exact List.prefix_append _ _
     · split
       · exact(((List.prefix_append _ _).trans (List.prefix_append _ _)).trans (List.prefix_append _ _)).trans (List.prefix_append _ _)
       · exact List.prefix_append _ _
    rw [jB hR hf this];exact h0
   obtain⟨z,hz⟩:∃ z,dP mb (eJ B mb (gN R B (X.length,false)))=z:=⟨_,rfl⟩
   rw [hz]at hh
   have hrun:CV m (if alone m=true then 6 else 0) x (gy B mb z):=by
    unfold gy
    have eal:alone z.m=alone m:=by unfold alone;rw [hh.kind]
    rw [eal]
    by_cases ha:alone m=true
    · rw [if_pos ha,if_pos ha]
      exact Bw ha hg (x0:=⟨(db S X m mb).1,(db S X m mb).2,0,0,fun _=>[]⟩) hh 6 (Nat.le_refl _) x hx hp2
    · have ha':alone m=false:=by simpa using ha
      have hs:=yt ha' 6 x hx
      rw [if_neg ha,if_neg ha]
      exact⟨by rw [hs.1];exact hh.rel,by rw [hs.2];exact hh.r,hh.kind,hh.qp,hh.v,hh.edge,fun i=>by rw [if_neg (by omega)];exact hh.lev i⟩
   unfold JK
   rw [if_neg hk,hz]
   obtain⟨w,hw⟩:∃ w,gy B mb z=w:=⟨_,rfl⟩
   rw [hw]at hrun ⊢
   have hpt:=G_ (n:=x.pat.toNat) (by have:=hho.pat;omega) hp1
   rw [Int.toNat_of_nonneg hho.pat.1]at hpt
   have hcl:=Av (k:=2) ⟨hho.col.1,hho.col.2⟩ hp
   unfold xF
   rw [hrun.r,hpt]
   simp only []
   rw [hcl]
   refine⟨rfl,hrun.rel,⟨hrun.kind,hrun.qp,hrun.v,hrun.edge,fun i=>?_⟩,fun k hk=>?_⟩
   · show w.m.lev i=_
     rw [hrun.lev i]
     by_cases ha:alone m=true
     · rw [if_pos ha]
       by_cases g:i%64=0∧i<64*6
       · rw [if_pos g,if_pos ⟨ha,g.1,by omega⟩]
       · rw [if_neg g,if_neg (fun h=>g ⟨h.2.1,by omega⟩)]
     · rw [if_neg ha,if_neg (by omega),if_neg (fun h=>ha h.1)]
   · rw [hev k]
     exact hho.has k hk
end Go.Proofs.YtagpkhindehcbaaGreat
namespace Go.Proofs.YtagpkhindehcbaaGreat
open Go.Xm
variable [aC]
theorem Jf (e e' e2 e3:TypeId) (cs ds fs gs:List XC):eI [c8 e cs] [c8 e' ds,.cells fs e2 false false,.cells gs e3 false false]=true:=by
 cases cs <;> cases ds <;> simp [eI,ak.live,ak.own,c8]
theorem Ao {l:List Int}(hl:ej l) (hn:l.length≤30000) {q:List Int}(h2:kK l l.length [] 0 0=some q) {B:List Bool}(h3:eX q=(B.length,true)) (hB:B.length≤8*q.length) {n:Nat}(hln:l.length=n) {HS:aq} {i:Nat}(hi:HS[i]? = some (c8 5 (il .u8 l))) {N:Nat}(hN:HS.length=N) {HS':aq}(hh:HS++[bD (N+1) q B 0 false,aO q]=HS') (hb:Nat.blt HS'.length Mem.bound=true) :
 aG.Sound Tryz.prog ⟨32,[iT i n 1],HS,.tup [.one (.ptr N 0),.one (.int .i64 0)],HS',[i]⟩:=by
 subst hln hN
 refine cj (os:=[c8 5 (il .u8 l),bD (HS.length+1) q B 0 false,aO q]) [i] [i] 2 (G3 hl hn h2 h3 hB) (by simp) (.flat hi .nil) (.flat .nil) (.flat (.cons ?_ (.flat .nil))) rfl (.cons (iv (Nat.le_of_ble_eq_true rfl)) .nil) (.cons (eA ..) .nil) ?_ rfl (.flat (.cons rfl (.flat .nil))) (Jf ..) rfl (by simp only [bM];rw [aK hi];exact hh) hb (.inl rfl)
 · simp [ak.cB,XC.ok]
 · exact GZ (by show 1<3;omega) trivial
abbrev FY:List Nat:=[0,1,2,3,4,5,6,7,8,9,10,11,12]
abbrev zW (h:Hd) (p:Ph) (N:Nat):aq:=[.cells [.ptr 0 0,.int .i64 p.id,.bool p.inter,.bool p.down,.int .i64 p.qp,.int .i64 p.qp,.ptr (N+1) 0,.ptr (N+3) 0] 97 false false,cH (N+2) h.cols h.rows,.map (bp []),.cells [.int .i64 h.cols,.int .i64 h.rows,.map (N+4),.map (N+5),.map (N+6)] 171 false false,.map (ah []),.map (ah []),.map (ah [])]
abbrev iL:aq:=[cc 1 5 9,ay 2 3 4 cM,bg cM,bj cM,bh cM,ay 6 7 8 cZ,bg cZ,bj cZ,bh cZ,ay 10 11 12 cP,bg cP,bj cP,bh cP]
theorem Gd {HS:aq}(hS:HS.take 13=iL) {τ : Nat→Nat}(h:∀ j,j<13 → τ j=j):ae τ HS FY iL:=by
 have g:∀ j,j<13→HS[j]? = iL[j]?:=fun j hj=>by rw [←hS,List.getElem?_take_of_lt hj]
 have h1:=h 1 (by decide)
 have h2:=h 2 (by decide)
 have h3:=h 3 (by decide)
 have h4:=h 4 (by decide)
 have h5:=h 5 (by decide)
 have h6:=h 6 (by decide)
 have h7:=h 7 (by decide)
 have h8:=h 8 (by decide)
 have h9:=h 9 (by decide)
 have h10:=h 10 (by decide)
 have h11:=h 11 (by decide)
 have h12:=h 12 (by decide)
 refine .cons ?_ (.cons ?_ (.flat (g 2 (by decide)) (.flat (g 3 (by decide)) (.flat (g 4 (by decide)) (.cons ?_ (.flat (g 6 (by decide)) (.flat (g 7 (by decide)) (.flat (g 8 (by decide)) (.cons ?_ (.flat (g 10 (by decide)) (.flat (g 11 (by decide)) (.flat (g 12 (by decide)) .nil))))))))))))
 · rw [g 0 (by decide)]
   simp only [ak.aw,List.map_cons,List.map_nil,XC.aw,h1,h5,h9];rfl
 · rw [g 1 (by decide)]
   simp only [ak.aw,List.map_cons,List.map_nil,XC.aw,h2,h3,h4];rfl
 · rw [g 5 (by decide)]
   simp only [ak.aw,List.map_cons,List.map_nil,XC.aw,h6,h7,h8];rfl
 · rw [g 9 (by decide)]
   simp only [ak.aw,List.map_cons,List.map_nil,XC.aw,h10,h11,h12];rfl
theorem rO {n:Nat}(hn:13≤n) {l:aq}(hl:dL n l):dL n (iL++l):=by
 refine .cons ?_ (.cons ?_ (.flat (.flat (.flat (.cons ?_ (.flat (.flat (.flat (.cons ?_ (.flat (.flat (.flat hl))))))))))))
 all_goals simp [ak.cB,XC.ok];omega
theorem Gc {τ : Nat→Nat}(h:∀ j,j<13 → τ j=j) {l l':aq}(hl:dR τ l l'):dR τ (iL++l) (iL++l'):=by
 have h1:=h 1 (by decide)
 have h2:=h 2 (by decide)
 have h3:=h 3 (by decide)
 have h4:=h 4 (by decide)
 have h5:=h 5 (by decide)
 have h6:=h 6 (by decide)
 have h7:=h 7 (by decide)
 have h8:=h 8 (by decide)
 have h9:=h 9 (by decide)
 have h10:=h 10 (by decide)
 have h11:=h 11 (by decide)
 have h12:=h 12 (by decide)
 refine .cons ?_ (.cons ?_ (.flat (.flat (.flat (.cons ?_ (.flat (.flat (.flat (.cons ?_ (.flat (.flat (.flat hl))))))))))))
 · simp only [ak.aw,List.map_cons,List.map_nil,XC.aw,h1,h5,h9]
 · simp only [ak.aw,List.map_cons,List.map_nil,XC.aw,h2,h3,h4]
 · simp only [ak.aw,List.map_cons,List.map_nil,XC.aw,h6,h7,h8]
 · simp only [ak.aw,List.map_cons,List.map_nil,XC.aw,h10,h11,h12]
theorem Da {HS:aq}(hS:HS.take 13=iL) {os:aq}:bM HS FY (iL++os)=HS++os:=by
 have g:∀ j,j<13→HS[j]? = iL[j]?:=fun j hj=>by rw [←hS,List.getElem?_take_of_lt hj]
 simp only [bM,iL,List.cons_append,List.nil_append]
 rw [aK (g 0 (by decide)),aK (g 1 (by decide)),aK (g 2 (by decide)),aK (g 3 (by decide)),aK (g 4 (by decide)),aK (g 5 (by decide)),aK (g 6 (by decide)),aK (g 7 (by decide)),aK (g 8 (by decide)),aK (g 9 (by decide)),aK (g 10 (by decide)),aK (g 11 (by decide)),aK (g 12 (by decide))]
theorem Aj (r:List Nat):∀ j,j<13→nth (FY++r) j=j:=fun j hj=>by
 have hq:∀ q:Fin 13,FY[q.val]? = some q.val:=by decide
 have:=hq ⟨j,hj⟩
 unfold nth
 rw [List.getD_eq_getElem?_getD,List.getElem?_append_left (by exact hj),this]
 rfl
theorem mT {h:Hd} {p:Ph}(ho:tv h) {HS:aq}(hS:HS.take 13=iL) {N:Nat}(hN:HS.length=N) {HS':aq}(hh:HS++zW h p N=HS') (hbd:Nat.blt HS'.length Mem.bound=true) :
 aG.Sound Tryz.prog ⟨27,[.one (.ptr 0 0),.agg (gC h),.agg (iC p)],HS,.one (.ptr N 0),HS',FY⟩:=by
 subst hN
 have e0:∀ j,j<13→nth FY j=j:=fun j hj=>by
  have:=Aj [] j hj
  rw [List.append_nil]at this
  exact this
 refine cj (os:=iL++zW h p HS.length) FY FY 7 (Bb h p ho) (by decide) (Gd hS e0) (rO (l:=[]) (Nat.le_refl _) .nil) (rO (l:=C6 h p) (by show 13≤20;omega) ?_) rfl (.cons (by show 0<13;omega) (.flat (.flat .nil))) (.cons rfl (.flat (.flat .nil))) (by show 13<20;omega) rfl (Gc (Aj _) ?_) ?_ rfl (by rw [Da hS];exact hh) hbd (.inl rfl)
 · refine .cons ?_ (.cons ?_ (.flat (.cons ?_ (.flat (.flat (.flat .nil))))))
   all_goals simp [ak.cB,XC.ok]
 · exact .cons rfl (.cons rfl (.flat (.cons rfl (.flat (.flat (.flat .nil))))))
 · rfl
end Go.Proofs.YtagpkhindehcbaaGreat
namespace Go.Proofs.YtagpkhindehcbaaGreat
open Go.Xm
variable [aC]
abbrev Hj (S:bX) (N:Nat):ak := .cells [.ptr 0 0,.int .i64 S.id,.bool S.inter,.bool S.down,.int .i64 S.hqp,.int .i64 S.qp,.ptr (N+1) 0,.ptr (N+3) 0] 97 false false
abbrev HE (S:bX) (N:Nat):ak := .cells [.int .i64 S.cols,.int .i64 S.rows,.map (N+4),.map (N+5),.map (N+6)] 171 false false
abbrev B3 (S:bX) (N:Nat):aq:=[Hj S N,cH (N+2) S.cols S.rows,.map (bp S.M),HE S N,.map (ah S.A),.map (ah S.B),.map (ah S.C)]
abbrev m_ (N:Nat) (r:List Nat):List Nat:=N::0::1::2::3::4::5::6::7::8::9::10::11::12::(N+1)::(N+2)::(N+3)::(N+4)::(N+5)::(N+6)::r
abbrev JI (S:bX) (N:Nat) (l:aq):aq:=Hj S N::cc 1 5 9::ay 2 3 4 cM::bg cM::bj cM::bh cM::ay 6 7 8 cZ::bg cZ::bj cZ::bh cZ::ay 10 11 12 cP::bg cP::bj cP::bh cP::cH (N+2) S.cols S.rows :: .map (bp S.M)::HE S N :: .map (ah S.A) :: .map (ah S.B) :: .map (ah S.C)::l
theorem zg {HS:aq} {S:bX} {N:Nat} {τ : Nat→Nat}(hS:HS.take 13=iL) (hN:(HS.drop N).take 7=B3 S N) (h3:∀ j,j<13 → τ (3+j)=j) (h16:∀ j,j<6 → τ (16+j)=N+1+j) {ls:List Nat} {l:aq}(hl:ae τ HS ls l):ae τ HS (m_ N ls) (dV S++l):=by
 have g:∀ j,j<13→HS[j]? = iL[j]?:=fun j hj=>by rw [←hS,List.getElem?_take_of_lt hj]
 have k:∀ j,j<7→HS[N+j]? = (B3 S N)[j]?:=fun j hj=>by rw [←hN,List.getElem?_take_of_lt hj,List.getElem?_drop]
 have a1 : τ 4=1:=h3 1 (by decide)
 have a2 : τ 5=2:=h3 2 (by decide)
 have a3 : τ 6=3:=h3 3 (by decide)
 have a4 : τ 7=4:=h3 4 (by decide)
 have a5 : τ 8=5:=h3 5 (by decide)
 have a6 : τ 9=6:=h3 6 (by decide)
 have a7 : τ 10=7:=h3 7 (by decide)
 have a8 : τ 11=8:=h3 8 (by decide)
 have a9 : τ 12=9:=h3 9 (by decide)
 have b0 : τ 13=10:=h3 10 (by decide)
 have b1 : τ 14=11:=h3 11 (by decide)
 have b2 : τ 15=12:=h3 12 (by decide)
 have a0 : τ 3=0:=h3 0 (by decide)
 have d0 : τ 16=N+1:=h16 0 (by decide)
 have d1 : τ 17=N+2:=h16 1 (by decide)
 have d2 : τ 18=N+3:=h16 2 (by decide)
 have d3 : τ 19=N+4:=h16 3 (by decide)
 have d4 : τ 20=N+5:=h16 4 (by decide)
 have d5 : τ 21=N+6:=h16 5 (by decide)
 refine .cons ?_ (.cons ?_ (.cons ?_ (.flat (g 2 (by decide)) (.flat (g 3 (by decide)) (.flat (g 4 (by decide)) (.cons ?_ (.flat (g 6 (by decide)) (.flat (g 7 (by decide)) (.flat (g 8 (by decide)) (.cons ?_ (.flat (g 10 (by decide)) (.flat (g 11 (by decide)) (.flat (g 12 (by decide)) (.cons ?_ (.flat (k 2 (by decide)) (.cons ?_ (.flat (k 4 (by decide)) (.flat (k 5 (by decide)) (.flat (k 6 (by decide)) hl)))))))))))))))))))
 · have:=k 0 (by decide)
   rw [Nat.add_zero]at this
   rw [this]
   simp only [ak.aw,List.map_cons,List.map_nil,XC.aw,a0,d0,d2];rfl
 · rw [g 0 (by decide)]
   simp only [ak.aw,List.map_cons,List.map_nil,XC.aw,a1,a5,a9];rfl
 · rw [g 1 (by decide)]
   simp only [ak.aw,List.map_cons,List.map_nil,XC.aw,a2,a3,a4];rfl
 · rw [g 5 (by decide)]
   simp only [ak.aw,List.map_cons,List.map_nil,XC.aw,a6,a7,a8];rfl
 · rw [g 9 (by decide)]
   simp only [ak.aw,List.map_cons,List.map_nil,XC.aw,b0,b1,b2];rfl
 · rw [k 1 (by decide)]
   simp only [ak.aw,List.map_cons,List.map_nil,XC.aw,d1];rfl
 · rw [k 3 (by decide)]
   simp only [ak.aw,List.map_cons,List.map_nil,XC.aw,d3,d4,d5];rfl
theorem E0 {S:bX} {N:Nat} {τ : Nat→Nat}(h3:∀ j,j<13 → τ (3+j)=j) (h16:∀ j,j<6 → τ (16+j)=N+1+j) {l l':aq}(hl:dR τ l l'):dR τ (dV S++l) (JI S N l'):=by
 have a1 : τ 4=1:=h3 1 (by decide)
 have a2 : τ 5=2:=h3 2 (by decide)
 have a3 : τ 6=3:=h3 3 (by decide)
 have a4 : τ 7=4:=h3 4 (by decide)
 have a5 : τ 8=5:=h3 5 (by decide)
 have a6 : τ 9=6:=h3 6 (by decide)
 have a7 : τ 10=7:=h3 7 (by decide)
 have a8 : τ 11=8:=h3 8 (by decide)
 have a9 : τ 12=9:=h3 9 (by decide)
 have b0 : τ 13=10:=h3 10 (by decide)
 have b1 : τ 14=11:=h3 11 (by decide)
 have b2 : τ 15=12:=h3 12 (by decide)
 have a0 : τ 3=0:=h3 0 (by decide)
 have d0 : τ 16=N+1:=h16 0 (by decide)
 have d1 : τ 17=N+2:=h16 1 (by decide)
 have d2 : τ 18=N+3:=h16 2 (by decide)
 have d3 : τ 19=N+4:=h16 3 (by decide)
 have d4 : τ 20=N+5:=h16 4 (by decide)
 have d5 : τ 21=N+6:=h16 5 (by decide)
 refine .cons ?_ (.cons ?_ (.cons ?_ (.flat (.flat (.flat (.cons ?_ (.flat (.flat (.flat (.cons ?_ (.flat (.flat (.flat (.cons ?_ (.flat (.cons ?_ (.flat (.flat (.flat hl)))))))))))))))))))
 all_goals simp only [ak.aw,List.map_cons,List.map_nil,XC.aw, *]
theorem u9 (a b N:Nat) (r:List Nat):∀ j,j<13→nth (a::b::m_ N r) (3+j)=j:=fun j hj=>by
 have hq:∀ q:Fin 13,FY[q.val]? = some q.val:=by decide
 have:=hq ⟨j,hj⟩
 unfold nth
 rw [List.getD_eq_getElem?_getD,Nat.add_comm]
 show((FY++((N+1)::(N+2)::(N+3)::(N+4)::(N+5)::(N+6)::r))[j]?).getD 0=j
 rw [List.getElem?_append_left (by exact hj),this]
 rfl
theorem rm (a b N:Nat) (r:List Nat):∀ j,j<6→nth (a::b::m_ N r) (16+j)=N+1+j:=fun j hj=>by
 match j,hj with
 | 0,_=>rfl
 | 1,_=>rfl
 | 2,_=>rfl
 | 3,_=>rfl
 | 4,_=>rfl
 | 5,_=>rfl
theorem KL {f:FuncId} {args args':List XV} {v:XV} [bG v] {L:List Int} {B:List Bool} {p p':Nat} {e e':Bool} {S S':bX} {i k N:Nat}(hc:bq Tryz.prog f args (bD 1 L B p e::aO L::dV S) v (bD 1 L B p' e'::aO L::dV S'))
 {HS:aq}(hi:HS[i]? = some (bD k L B p e)) (hk:HS[k]? = some (aO L)) (hS:HS.take 13=iL) (hN:(HS.drop N).take 7=B3 S N) (hnd:(i::k::m_ N []).Nodup) (ha:fz 22 args) (hr:dQ (nth (i::k::m_ N [])) args args')
 {HS':aq}(hh:bM HS (i::k::m_ N []) (bD k L B p' e'::aO L::JI S' N [])=HS') (hbd:Nat.blt HS'.length Mem.bound=true) :
 aG.Sound Tryz.prog ⟨f,args',HS,v,HS',i::k::m_ N []⟩:=by
 have h3:=u9 i k N []
 have h16:=rm i k N []
 have hc':bq Tryz.prog f args (bD 1 L B p e::aO L::(dV S++[])) v (bD 1 L B p' e'::aO L::(dV S'++[])):=by
  rw [List.append_nil,List.append_nil];exact hc
 have ht2:nth ((i::k::m_ N [])++List.range' HS.length 0)=nth (i::k::m_ N []):=by
  rw [List.range'_zero,List.append_nil]
 refine cj (i::k::m_ N []) (i::k::m_ N []) 0 hc' hnd (.cons hi (.flat hk (zg hS hN h3 h16 .nil))) (.cons (by simp [ak.cB,XC.ok]) (.flat (gM S _ (Nat.le_refl _) .nil))) (.cons (by simp [ak.cB,XC.ok]) (.flat (gM S' _ (Nat.le_refl _) .nil))) rfl ha hr (bG.ok _) (bG.aw _) ?_ rfl rfl hh hbd (.inl rfl)
 rw [ht2]
 exact .cons rfl (.flat (E0 h3 h16 .nil))
end Go.Proofs.YtagpkhindehcbaaGreat
namespace Go.Proofs.YtagpkhindehcbaaGreat
open Go.Xm
variable [aC]
theorem HD {S:bX} {B bw:List Bool} {m:Mb} {mb:Int}(hP:kg S B bw m mb) {S':bX} {B' bw':List Bool}(h:iG S B bw m mb=some (S',B',bw')) :
 bq Tryz.prog 29 [.one (.ptr 2 0),.one (.ptr 0 0),.one (.ptr 22 0),.one (.int .i64 mb),.agg (mC m)] (aN 1 B::av B::(dV S++[aN 23 bw,av bw])) (.one (.int .i64 0)) (aN 24 B' :: .dead::(dV S'++[aN 25 bw',.dead,av B',av bw'])):=by
 have hk:=hP.good.kind
 have hk0:=hP.good.ok.kind
 unfold iG at h
 by_cases h0:m.kind=0
 · rw [if_pos h0]at h
   cases Option.some.inj h
   exact KV hP h0
 · rw [if_neg h0]at h
   obtain⟨x,hx,e⟩:=Option.map_eq_some_iff.1 h
   cases e
   unfold db at hx
   by_cases h1:m.kind=1
   · rw [if_neg h0,if_pos h1]at hx
     exact KW hP h1 x hx
   · by_cases h2:m.kind=2
     · rw [if_neg h0,if_neg h1,if_pos h2]at hx
       exact KX hP h2 x hx
     · rw [if_neg h0,if_neg h1,if_neg h2]at hx
       by_cases h3:m.kind=3
       · rw [dA (by omega)]at hx
         exact KY hP h3 x hx
       · have h4:m.kind=4:=by omega
         rw [m5 h4]at hx
         exact KZ hP h4 x hx
theorem EY {S:bX} {B bw:List Bool} {m:Mb} {mb:Int}(hP:kg S B bw m mb) (h:iG S B bw m mb=none) :
 bq Tryz.prog 29 [.one (.ptr 2 0),.one (.ptr 0 0),.one (.ptr 22 0),.one (.int .i64 mb),.agg (mC m)] (aN 1 B::av B::(dV S++[aN 23 bw,av bw])) (.one (.int .i64 2)) mD:=by
 have hk:=hP.good.kind
 have hk0:=hP.good.ok.kind
 unfold iG at h
 by_cases h0:m.kind=0
 · rw [if_pos h0]at h
   cases h
 · rw [if_neg h0]at h
   have hx:=Option.map_eq_none_iff.1 h
   unfold db at hx
   by_cases h1:m.kind=1
   · rw [if_neg h0,if_pos h1]at hx
     exact JE hP h1 hx
   · by_cases h2:m.kind=2
     · rw [if_neg h0,if_neg h1,if_pos h2]at hx
       exact JF hP h2 hx
     · rw [if_neg h0,if_neg h1,if_neg h2]at hx
       by_cases h3:m.kind=3
       · rw [dA (by omega)]at hx
         exact JG hP h3 hx
       · have h4:m.kind=4:=by omega
         rw [m5 h4]at hx
         exact JH hP h4 hx
theorem y7 {S:bX} {B bw:List Bool} {m:Mb} {mb:Int}(hP:kg S B bw m mb) {S':bX} {B' bw':List Bool}(h:iG S B bw m mb=some (S',B',bw')) {HS:aq} {i k j g N:Nat}(hi:HS[i]? = some (aN k B)) (hk:HS[k]? = some (av B)) (hS:HS.take 13=iL) (hN:(HS.drop N).take 7=B3 S N) (hj:HS[j]? = some (aN g bw)) (hg:HS[g]? = some (av bw))
 (hnd:(i::k::m_ N [j,g]).Nodup) {M:Nat}(hM:HS.length=M) {HS':aq}(hh:bM HS [i,k,N,0,1,2,3,4,5,6,7,8,9,10,11,12,N+1,N+2,N+3,N+4,N+5,N+6,j,g] [aN M B',.dead,Hj S' N,cc 1 5 9,ay 2 3 4 cM,bg cM,bj cM,bh cM,ay 6 7 8 cZ,bg cZ,bj cZ,bh cZ,ay 10 11 12 cP,bg cP,bj cP,bh cP,cH (N+2) S'.cols S'.rows,.map (bp S'.M),HE S' N,.map (ah S'.A),.map (ah S'.B),.map (ah S'.C),aN (M+1) bw',.dead,av B',av bw']=HS') (hbd:Nat.blt HS'.length Mem.bound=true) :
 aG.Sound Tryz.prog ⟨29,[.one (.ptr N 0),.one (.ptr i 0),.one (.ptr j 0),.one (.int .i64 mb),.agg (mC m)],HS,.one (.int .i64 0),HS',i::k::m_ N [j,g]⟩:=by
 subst hM
 have h3:=u9 i k N [j,g]
 have h16:=rm i k N [j,g]
 have h3':=u9 i k N ([j,g]++List.range' HS.length 2)
 have h16':=rm i k N ([j,g]++List.range' HS.length 2)
 have hv:=zg (S:=S) hS hN h3 h16 (ls:=[j,g]) (l:=[aN 23 bw,av bw]) (ae.aW hj rfl rfl rfl (.flat hg .nil))
 have ho:=gM S 24 (by omega) (l:=[aN 23 bw,av bw]) (.cons (by simp [ak.cB,XC.ok,ca]) (.flat .nil))
 have ho':=gM S' 26 (by omega) (l:=[aN 25 bw',.dead,av B',av bw']) (.cons (by simp [ak.cB,XC.ok,ca]) (.flat (.flat (.flat .nil))))
 have hr:=E0 (S:=S') (N:=N) h3' h16' (l:=[aN 25 bw',.dead,av B',av bw']) (l':=[aN (HS.length+1) bw',.dead,av B',av bw']) (.cons (by simp only [ak.aw,List.map_cons,List.map_nil,XC.aw,au];rfl) (.flat (.flat (.flat .nil))))
 refine cj (os:=aN HS.length B' :: .dead::JI S' N [aN (HS.length+1) bw',.dead,av B',av bw']) (i::k::m_ N [j,g]) (i::k::m_ N [j,g]) 2 (HD hP h) hnd (ae.aW hi rfl rfl rfl (.flat hk hv)) (.cons (by simp [ak.cB,XC.ok,ca]) (.flat ho)) (.cons (by simp [ak.cB,XC.ok,ca]) (.flat ho')) rfl (.cons (by show 2<24;omega) (.cons (by show 0<24;omega) (.cons (by show 22<24;omega) (.flat (.flat .nil))))) (.cons rfl (.cons rfl (.cons rfl (.flat (.flat .nil))))) (bG.ok _) (bG.aw _) ?_ (Az ..) rfl hh hbd (.inl rfl)
 exact .cons (by simp only [ak.aw,List.map_cons,List.map_nil,XC.aw,au];rfl) (.flat hr)
theorem Gb {S:bX} {B bw:List Bool} {m:Mb} {mb:Int}(hP:kg S B bw m mb) (h:iG S B bw m mb=none) {HS:aq} {i k j g N:Nat}(hi:HS[i]? = some (aN k B)) (hk:HS[k]? = some (av B)) (hS:HS.take 13=iL) (hN:(HS.drop N).take 7=B3 S N) (hj:HS[j]? = some (aN g bw)) (hg:HS[g]? = some (av bw))
 (hnd:(i::k::m_ N [j,g]).Nodup) {HS':aq}(hh:bM HS [i,k,N,0,1,2,3,4,5,6,7,8,9,10,11,12,N+1,N+2,N+3,N+4,N+5,N+6,j,g] [.dead,.dead,.dead,cc 1 5 9,ay 2 3 4 cM,bg cM,bj cM,bh cM,ay 6 7 8 cZ,bg cZ,bj cZ,bh cZ,ay 10 11 12 cP,bg cP,bj cP,bh cP,.dead,.dead,.dead,.dead,.dead,.dead,.dead,.dead]=HS') (hbd:Nat.blt HS'.length Mem.bound=true) :
 aG.Sound Tryz.prog ⟨29,[.one (.ptr N 0),.one (.ptr i 0),.one (.ptr j 0),.one (.int .i64 mb),.agg (mC m)],HS,.one (.int .i64 2),HS',i::k::m_ N [j,g]⟩:=by
 have h3:=u9 i k N [j,g]
 have h16:=rm i k N [j,g]
 have ht2:nth ((i::k::m_ N [j,g])++List.range' HS.length 0)=nth (i::k::m_ N [j,g]):=by
  rw [List.range'_zero,List.append_nil]
 have hv:=zg (S:=S) hS hN h3 h16 (ls:=[j,g]) (l:=[aN 23 bw,av bw]) (ae.aW hj rfl rfl rfl (.flat hg .nil))
 have ho:=gM S 24 (by omega) (l:=[aN 23 bw,av bw]) (.cons (by simp [ak.cB,XC.ok,ca]) (.flat .nil))
 have hk':dL 24 mD:=by
  refine .flat (.flat (.flat (.cons ?_ (.cons ?_ (.flat (.flat (.flat (.cons ?_ (.flat (.flat (.flat (.cons ?_ (.flat (.flat (.flat (.flat (.flat (.flat (.flat (.flat (.flat (.flat (.flat .nil)))))))))))))))))))))))
  all_goals simp [ak.cB,XC.ok]
 refine cj (os:=[.dead,.dead,.dead,cc 1 5 9,ay 2 3 4 cM,bg cM,bj cM,bh cM,ay 6 7 8 cZ,bg cZ,bj cZ,bh cZ,ay 10 11 12 cP,bg cP,bj cP,bh cP,.dead,.dead,.dead,.dead,.dead,.dead,.dead,.dead]) (i::k::m_ N [j,g]) (i::k::m_ N [j,g]) 0 (EY hP h) hnd (ae.aW hi rfl rfl rfl (.flat hk hv)) (.cons (by simp [ak.cB,XC.ok,ca]) (.flat ho)) hk' rfl (.cons (by show 2<24;omega) (.cons (by show 0<24;omega) (.cons (by show 22<24;omega) (.flat (.flat .nil))))) (.cons rfl (.cons rfl (.cons rfl (.flat (.flat .nil))))) (bG.ok _) (bG.aw _) ?_ (xp ..) rfl hh hbd (.inl rfl)
 rw [ht2]
 have a1:nth (i::k::m_ N [j,g]) 4=1:=h3 1 (by decide)
 have a2:nth (i::k::m_ N [j,g]) 5=2:=h3 2 (by decide)
 have a3:nth (i::k::m_ N [j,g]) 6=3:=h3 3 (by decide)
 have a4:nth (i::k::m_ N [j,g]) 7=4:=h3 4 (by decide)
 have a5:nth (i::k::m_ N [j,g]) 8=5:=h3 5 (by decide)
 have a6:nth (i::k::m_ N [j,g]) 9=6:=h3 6 (by decide)
 have a7:nth (i::k::m_ N [j,g]) 10=7:=h3 7 (by decide)
 have a8:nth (i::k::m_ N [j,g]) 11=8:=h3 8 (by decide)
 have a9:nth (i::k::m_ N [j,g]) 12=9:=h3 9 (by decide)
 have b0:nth (i::k::m_ N [j,g]) 13=10:=h3 10 (by decide)
 have b1:nth (i::k::m_ N [j,g]) 14=11:=h3 11 (by decide)
 have b2:nth (i::k::m_ N [j,g]) 15=12:=h3 12 (by decide)
 refine .flat (.flat (.flat (.cons ?_ (.cons ?_ (.flat (.flat (.flat (.cons ?_ (.flat (.flat (.flat (.cons ?_ (.flat (.flat (.flat (.flat (.flat (.flat (.flat (.flat (.flat (.flat (.flat .nil)))))))))))))))))))))))
 · simp only [ak.aw,List.map_cons,List.map_nil,XC.aw,a1,a5,a9]
 · simp only [ak.aw,List.map_cons,List.map_nil,XC.aw,a2,a3,a4]
 · simp only [ak.aw,List.map_cons,List.map_nil,XC.aw,a6,a7,a8]
 · simp only [ak.aw,List.map_cons,List.map_nil,XC.aw,b0,b1,b2]
end Go.Proofs.YtagpkhindehcbaaGreat
namespace Go.Proofs.YtagpkhindehcbaaGreat
open Go.Xm
variable [aC]
theorem r5 {S:bX} {m:Mb}(hm:iI m) (hf:mw S m):jG m:=
 ⟨hm,hf.kind.2,fun i hi=>(hf.lev i hi).2.1,fun ha k hk=>(hf.lev (k*64) (by omega)).2.2 (by omega) ha⟩
theorem Bt {S:bX} {m:Mb}(hf:mw S m):∀ k,k<4→dO (m.v k)=true:=fun k hk=>(hf.vecs k hk).1
theorem C9 {m:Mb}(hg:jG m) {mb:Int} {x0:o4}(h0:yc m mb x0 (0,x0)):∀ k,k≤6→∀ x,gY m mb x0 k=some x→yc m mb x0 (k,x):=by
 intro k
 induction k with
 | zero=>
   intro _ x hx
   cases hx;exact h0
 | succ k ih=>
   intro hk x hx
   obtain⟨y,r,hy,hr,rfl⟩:=iK hx
   exact kQ hg (ih (by omega) y hy) (by show k<6;omega) hr
theorem Bg {m:Mb} {mb:Int} {x0:o4}:∀ k x,gY m mb x0 k=some x→x.S.inter=x0.S.inter∧x.S.qp=x0.S.qp∧x0.B <+: x.B:=by
 intro k
 induction k with
 | zero=>intro x hx;cases hx;exact⟨rfl,rfl,List.prefix_refl _⟩
 | succ k ih=>
   intro x hx
   obtain⟨y,r,hy,hr,rfl⟩:=iK hx
   obtain⟨h1,h2,h3⟩:=ih y hy
   refine⟨?_,?_,?_⟩
   · show(if alone m=true then aZ y.S mb k ⟨aD m k,m.qp⟩else y.S).inter=_
     split <;> exact h1
   · show(if alone m=true then aZ y.S mb k ⟨aD m k,m.qp⟩else y.S).qp=_
     split <;> exact h2
   · show x0.B <+: (if alone m=true then y.B++_ else y.B)
     split
     · exact h3.trans (List.prefix_append _ _)
     · exact h3
structure qy (S:bX) (X:List Bool) (n:Nat) (z:bX × List Bool):Prop where
 st:gP z.1
 cols:z.1.cols=S.cols
 rows:z.1.rows=S.rows
 inter:z.1.inter=S.inter
 qp:z.1.qp=S.qp
 pre:X <+: z.2
 len:z.2.length≤X.length+n
theorem mY {S:bX} {X:List Bool} {n:Nat} {z:bX × List Bool}(h:qy S X n z) {m:Mb}(hm:iI m) (mb:Int) (k:Nat):qy S X (n+54) (ax m mb z k):=by
 refine⟨⟨h.st.dims,h.st.lev,bE h.st.tiny (hm.v k)⟩,h.cols,h.rows,h.inter,h.qp,h.pre.trans (List.prefix_append _ _),?_⟩
 have:=fW (m.v k) (cf z.1.M z.1.cols z.1.rows mb k)
 have:=h.len
 show(z.2++cG (m.v k) (cf z.1.M z.1.cols z.1.rows mb k)).length≤_
 rw [List.length_append];omega
theorem lT {S:bX} {X:List Bool} {n:Nat} {z:bX × List Bool}(h:qy S X n z) {m:Mb}(hm:iI m) (mb:Int):qy S X n (ba z.1 mb m.v,z.2):=
 ⟨⟨h.st.dims,h.st.lev,eg h.st.tiny hm.v⟩,h.cols,h.rows,h.inter,h.qp,h.pre,h.len⟩
theorem oN {S:bX} {X:List Bool} {n k:Nat} {z:bX × List Bool}(h:qy S X n z) (hk:n≤k):qy S X k z:=
 ⟨h.st,h.cols,h.rows,h.inter,h.qp,h.pre,by have:=h.len;omega⟩
theorem wQ {S:bX}(hS:gP S) (m:Mb):gP (fh S m)∧(fh S m).cols=S.cols∧(fh S m).rows=S.rows∧(fh S m).inter=S.inter∧(fh S m).qp=if m.kind=4 then m.qp else S.qp:=by
 unfold fh
 split
 · exact⟨⟨hS.dims,hS.lev,hS.tiny⟩,rfl,rfl,rfl,rfl⟩
 · exact⟨hS,rfl,rfl,rfl,rfl⟩
theorem yK {S:bX}(hS:gP S) {m:Mb}(hm:iI m) {X:List Bool} {mb:Int}:qy (fh S m) (X++aA S m) 216 (db S X m mb):=by
 have hk:=(wQ hS m).1
 have h0:qy (fh S m) (X++aA S m) 0 (fh S m,X++aA S m):=⟨hk,rfl,rfl,rfl,rfl,List.prefix_refl _,Nat.le_refl _⟩
 unfold db
 split
 · rename_i g
   rw [dA (by omega)]at h0 ⊢
   exact oN (lT h0 hm mb) (by omega)
 · split
   · rename_i g
     rw [dA (by omega)]at h0 ⊢
     exact oN (lT (mY h0 hm mb 0) hm mb) (by omega)
   · split
     · rename_i g
       rw [dA (by omega)]at h0 ⊢
       exact oN (lT (mY (mY (mY (mY h0 hm mb 0) hm mb 1) hm mb 2) hm mb 3) hm mb) (by omega)
     · have h1:=lT h0 hm mb
       exact⟨h1.st,h1.cols,h1.rows,h1.inter,h1.qp,List.prefix_append _ _,by simp only [List.length_append,List.length_cons,List.length_nil];omega⟩
structure Lj (S:bX) (X bw:List Bool) (m:Mb) (z:bX × List Bool × List Bool):Prop where
 st:gP z.1
 cols:z.1.cols=S.cols
 rows:z.1.rows=S.rows
 inter:z.1.inter=S.inter
 qp:z.1.qp=m.qp
 pre:X++aA S m <+: z.2.1
 len:z.2.1.length≤X.length+1000
 lenw:z.2.2.length≤bw.length+20736
theorem um {S:bX}(hS:gP S) {m:Mb}(hm:iI m) (hf:mw S m) {X bw:List Bool} {mb:Int} {z:bX × List Bool × List Bool}(h:iG S X bw m mb=some z):Lj S X bw m z:=by
 have hg:=r5 hm hf
 have hh:=yK hS hm (X:=X) (mb:=mb)
 obtain⟨_,k1,k2,k3,k4⟩:=wQ hS m
 have hkl:=fu S m
 have hq:(if m.kind=4 then m.qp else S.qp)=m.qp:=by
  split
  · rfl
  · rename_i h4;exact(hf.qp h4).symm
 rw [hq]at k4
 have hlx:(X++aA S m).length≤X.length+66:=by rw [List.length_append];omega
 have hhl:=hh.len
 unfold iG at h
 by_cases h0:m.kind=0
 · rw [if_pos h0]at h
   have e:db S X m mb=(ba S mb m.v,X++aA S m):=by unfold db;rw [if_pos h0]
   rw [e]at hh
   cases Option.some.inj h
   exact⟨hh.st,hh.cols.trans k1,hh.rows.trans k2,hh.inter.trans k3,hh.qp.trans k4,hh.pre,by show(X++aA S m).length≤_;omega,Nat.le_add_right _ _⟩
 · rw [if_neg h0]at h
   obtain⟨x,hx,e⟩:=Option.map_eq_some_iff.1 h
   cases e
   obtain⟨z0,hz0⟩:∃ z0,db S X m mb=z0:=⟨_,rfl⟩
   rw [hz0]at hh hx hhl
   have hi:yc m mb ⟨z0.1,z0.2,0,0,fun _=>[]⟩ (0,⟨z0.1,z0.2,0,0,fun _=>[]⟩):=⟨Nat.zero_le _,rfl,hh.st,⟨rfl,rfl⟩,Nat.le_refl _,fun _ _=>rfl,fun _ => .inl rfl,by show(0:Int)≤0∧(0:Int)<16;decide,by show(0:Int)≤0∧(0:Int)<4;decide⟩
   have hb:=C9 hg hi 6 (Nat.le_refl _) x hx
   have hr:=Bg 6 x hx
   have hlen:x.B.length≤z0.2.length+76*6:=hb.len
   have hcl:=jA zZ x.pat.toNat
   refine⟨hb.st,hb.cr.1.trans (hh.cols.trans k1),hb.cr.2.trans (hh.rows.trans k2),hr.1.trans (hh.inter.trans k3),hr.2.1.trans (hh.qp.trans k4),?_,?_,?_⟩
   · exact hh.pre.trans (hr.2.2.trans ((List.prefix_append _ _).trans (List.prefix_append _ _)))
   · show((x.B++c7 cP x.pat.toNat)++dW x.col 2).length≤_
     simp only [List.length_append,fS]
     rw [List.length_append]at hlx hhl
     omega
   · have:=pW (bw:=bw) hb.evs 6
     show(bC bw x 6).length≤_
     omega
structure PS where
 S:bX
 B:List Bool
 w:List Bool
noncomputable def lh (first:Int) (k:Nat) (m:Mb) (x:PS):Int ⊕ PS:=
 if dE m x.S.inter x.S.qp≠0 then .inl (dE m x.S.inter x.S.qp)else match iG x.S x.B x.w m (first+(k:Nat))with
  | none => .inl 2
  | some z => .inr ⟨z.1,z.2.1,z.2.2⟩
noncomputable def gw (l:List Mb) (first:Int) (x0:PS):Nat→Int ⊕ PS
 | 0 => .inr x0
 | k+1=>match gw l first x0 k with
   | .inl e => .inl e
   | .inr x=>lh first k (l.getD k lK) x
theorem jS {l:List Mb} {first:Int} {x0:PS} {k:Nat} {e:Int}(h:gw l first x0 k = .inl e):∀ j,k≤j→gw l first x0 j = .inl e:=by
 intro j hj
 induction hj with
 | refl=>exact h
 | step _ ih=>rw [gw,ih]
structure v9 (p:Bool) (c r:Int) (j:Nat) (x:PS):Prop where
 st:gP x.S
 cols:x.S.cols=c
 rows:x.S.rows=r
 inter:x.S.inter=p
 qp : -1000000≤x.S.qp∧x.S.qp≤1000000
 len:x.B.length≤1000*j
 lenw:x.w.length≤20736*j
theorem nR {p:Bool} {c r:Int} {j:Nat} {x y:PS}(h:v9 p c r j x) {m:Mb}(hm:iI m) {first:Int} {k:Nat}(hy:lh first k m x = .inr y):v9 p c r (j+1) y:=by
 unfold lh at hy
 split at hy
 · cases hy
 · rename_i hc
   have hc0:dE m x.S.inter x.S.qp=0:=Decidable.byContradiction fun g=>hc g
   have hf:=kS hm hc0
   split at hy
   · cases hy
   · rename_i z hz
     cases hy
     have hk:=um h.st hm hf hz
     have a:=hk.len
     have b:=hk.lenw
     have a':=h.len
     have b':=h.lenw
     exact⟨hk.st,hk.cols.trans h.cols,hk.rows.trans h.rows,hk.inter.trans h.inter,by rw [hk.qp];exact hm.qp,by show z.2.1.length≤_;omega,by show z.2.2.length≤_;omega⟩
theorem sF {p:Bool} {c r:Int} {j:Nat} {x:PS}(h:v9 p c r j x) (hj:j≤20) {m:Mb}(hm:iI m) {mb:Int}(hmb:0≤mb∧mb<c*r) (hc:dE m x.S.inter x.S.qp=0):kg x.S x.B x.w m mb:=by
 have hf:=kS hm hc
 have a:=h.len
 have b:=h.lenw
 exact⟨h.st,by rw [h.cols,h.rows];exact hmb,h.qp,r5 hm hf,Bt hf,by omega,by omega⟩
end Go.Proofs.YtagpkhindehcbaaGreat
