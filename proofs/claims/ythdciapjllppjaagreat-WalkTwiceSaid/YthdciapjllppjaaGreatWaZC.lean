/-
  A part of the proof: PutK, StrT, StrU, FtH, WkI.
-/
import Derived.Test.YthdciapjllppjaaGreatWaR
import Derived.Test.YthdciapjllppjaaGreatWaZA
import Derived.Test.YthdciapjllppjaaGreatWaZB
set_option maxRecDepth 10000
set_option maxHeartbeats 8000000
set_option linter.unusedVariables false
set_option linter.unusedSectionVars false
set_option linter.unusedSimpArgs false
open Go.Proofs.Tryz (prog)
namespace Go.Proofs.YthdciapjllppjaaGreat
open Go.Xm
variable [ak]
theorem Ho{h:Hd}{p:Ph}{l:List Mb}{first:Int}(hT:mn h p l first){L:List (List XC)}{k0:Nat}(ho:L[k0]? = some (fl mC l)){x:PS}(hx:mP l first (GI h p) l.length = .inr x){a b:List Int}(hqa:(fv (wr (x.B++[true])) (wr (x.B++[true])).length).1=a)(hqb:(fv (wr (x.w++[true])) (wr (x.w++[true])).length).1=b)(hla:a.length<=30000)(hlb:b.length<=30000) :
 bq prog 32 [.one (.ptr 0 0),.agg (b7 h),.agg (sn p),.one (.int .i64 first),.one (.lsl 13 k0 0 l.length l.length 0)] [eZ 1 5 9,aW 2 3 4 cM,c6 cM,c9 cM,c7 cM,aW 6 7 8 cZ,c6 cZ,c9 cZ,c7 cZ,aW 10 11 12 cP,c6 cP,c9 cP,c7 cP,.late L] (.tup [.one (eg 14 a.length 1),.one (eg 15 b.length 1),.one (.int .i64 0)]) [eZ 1 5 9,aW 2 3 4 cM,c6 cM,c9 cM,c7 cM,aW 6 7 8 cZ,c6 cZ,c9 cZ,c7 cZ,aW 10 11 12 cP,c6 cP,c9 cP,c7 cP,.late L,bR 5 (il .u8 a),bR 5 (il .u8 b)]:=by
 have h1:=hT.hd.dims.c0;have h2:=hT.hd.dims.c1;have h3:=hT.hd.dims.r0;have h4:=hT.hd.dims.r1;have hf:=hT.pos;have hm:=hT.many;have hm16:=hT.few;have ha:=hT.all;have hcr:1<=h.cols*h.rows/\h.cols*h.rows<=64:=Hr hT.hd.dims;refine cO Tryz.func32 ?_
 repeat' (first
  |(refine qz ?_;first
   |refine kY ?_
   |refine mf ?_
   |refine jV ?_ (hle:=by rw[aD])
   |refine cl ?_ (hi:=by exact j7 hT.hd rfl)
   |refine cl ?_ (hi:=by exact j9 hT.ph rfl)
   |refine cl ?_ (hi:=by exact G9 hT.hd rfl nL nA rfl))
  |refine zz ?_|refine zx (fun _=>?_) (fun _=>?_)|fail)
 refine WX.cq rfl ?_;refine WX.cq rfl ?_;refine WX.cj (σ:=Nat×PS) (fun s=>[(3,.one (.int .i64 first)),(7,.one (.ptr 14 0)),(15,.one (.ptr 15 0)),(16,.one (.ptr 22 0)),(17,.one (.ptr 24 0)),(71,.one (.lsl 13 k0 0 l.length l.length 0)),(72,.one (.int .i64 (l.length:Nat))),(73,.one (.int .i64 (s.1:Nat)))]) (fun s=>[eZ 1 5 9,aW 2 3 4 cM,c6 cM,c9 cM,c7 cM,aW 6 7 8 cZ,c6 cZ,c9 cZ,c7 cZ,aW 10 11 12 cP,c6 cP,c9 cP,c7 cP,.late L,.cells (sn p) 48 false false,RS s.2.S 15,fA 17 s.2.S.cols s.2.S.rows,.map (cB s.2.S.M),RV s.2.S 15,.map (aq s.2.S.A),.map (aq s.2.S.B),.map (aq s.2.S.C),aO 23 s.2.B,au s.2.B,aO 25 s.2.w,au s.2.w]) (fun s=>s.1<=l.length/\mP l first (GI h p) s.1 = .inr s.2/\Ez p.inter h.cols h.rows s.1 s.2) (fun s=>l.length-s.1) (0,GI h p) ⟨Nat.zero_le _,rfl,Nj hT.hd hT.ph⟩ (fun s _=>nf) (bV [0,1,2,3,4,5,6,7,8,9,10,11,12,13,15,16,17,18,19,20,21,22,23,25,24,26] (obj:=by(repeat' (first|exact af.nil|refine af.ik rfl rfl rfl rfl ?_|refine oz ?_));first|done|fail)) ?_;intro s ⟨hle,hrun,hs⟩ ih
 by_cases hlt:s.1<l.length
 ·have hmk:jR (l.getD s.1 default):=by
   rw[List.getD_eq_getElem?_getD,List.getElem?_eq_getElem hlt,Option.getD_some];exact hT.mok _ (List.getElem_mem hlt)
  have hnx:=w8 hrun
  obtain⟨m,hme⟩:∃m,l.getD s.1 default=m:=⟨_,rfl⟩
  have hme':l.getD (s.1:Int).toNat default=m:=hme;rw[hme]at hmk hnx;have hqq:=hs.qp;have hmb:0<=first+(s.1:Nat)/\first+(s.1:Nat)<h.cols*h.rows:=by omega
  obtain⟨c,hc⟩:∃c,dD m p.inter s.2.S.qp=c:=⟨_,rfl⟩
  have hcS:dD m s.2.S.inter s.2.S.qp=c:=by rw[hs.inter];exact hc
  by_cases hc0:c=0
  ·subst hc0;have hP:=IW hs (by omega) hmk hmb hcS
   cases hz:m_ s.2.S s.2.B s.2.w m (first+(s.1:Nat))with
   | none=>
     have eN:=(hx.symm.trans (An (hnx.trans (Fz hcS hz)) l.length (by omega)))
     cases eN
   | some z=>
     have hnx2:=hnx.trans (uT hcS hz)
     repeat' (first
      |(refine qz ?_;first
       |refine kY ?_
       |refine mf ?_
       |refine jG (zs:=mC zV) (hz:=rf) ?_
       |refine BW (enc:=mC) ?_ ho (by omega)
       |refine nr (cs:=mC m) ?_ (hy:=by rw[<-hme'];rfl) (hs1:=by rw[bl]) (hs2:=by rw[bl])
       |refine jV ?_ (hle:=by rw[bl])
       |refine cl ?_ (hi:=by exact zj hmk hqq hc rfl)
       |refine cl ?_ (hi:=by exact OB hP hz (i:=22) (k:=23) (N:=15) (j:=24) (g:=25) rfl rfl rfl rfl rfl rfl (by decide) nL nA rfl))
      |refine zz ?_|refine zx (fun _=>?_) (fun _=>?_)|fail)
     exact ih (s.1+1,⟨z.1,z.2.1,z.2.2⟩) _ _ _ (bV [0,1,2,3,4,5,6,7,8,9,10,11,12,13,14,15,16,17,18,19,20,21,22,27,24,28]) ⟨by show s.1+1<=l.length;omega,hnx2,w6 hs hmk (hnx2▸hnx.symm)⟩ (by show l.length-(s.1+1)<l.length-s.1;omega)
  ·have eB:=(hx.symm.trans (An (hnx.trans (Fx hcS hc0)) l.length (by omega)))
   cases eB
 ·have e0:s.1=l.length:=by omega
  have hlB:=hs.len;have hlw:=hs.lenw;rw[e0,hx]at hrun;obtain rfl:x=s.2:=Sum.inr.inj hrun;have hB1:s.2.B.length<=1000000:=by omega
  have hB2:s.2.w.length<=1000000:=by omega
  have hL1:(wr (s.2.B++[true])).length<=100000:=by rw[cI,List.length_append,List.length_cons,List.length_nil];omega
  have hL2:(wr (s.2.w++[true])).length<=100000:=by rw[cI,List.length_append,List.length_cons,List.length_nil];omega
  have hY1:=iJ (s.2.B++[true]);have hY2:=iJ (s.2.w++[true])
  repeat' (first
   |(refine qz ?_;first
    |refine kY ?_
    |refine mf ?_
    |refine cl ?_ (hi:=by exact vr (bs:=s.2.B) hB1 (i:=22) (k:=23) rfl rfl (by decide) nL nA rfl)
    |refine cl ?_ (hi:=by exact ry (l:=wr (s.2.B++[true])) hY1 hL1 hqa (n:=((s.2.B++[true]).length+7)/8) (by rw[cI]) (i:=26) rfl nL nA rfl)
    |refine cl ?_ (hi:=by exact vr (bs:=s.2.w) hB2 (i:=24) (k:=25) rfl rfl (by decide) nL nA rfl)
    |refine cl ?_ (hi:=by exact ry (l:=wr (s.2.w++[true])) hY2 hL2 hqb (n:=((s.2.w++[true]).length+7)/8) (by rw[cI]) (i:=28) rfl nL nA rfl))
   |refine zz ?_|refine zx (fun _=>?_) (fun _=>?_)|refine bm (by first|exact ag.nil|exact ag.one _|exact ag.mh (by repeat' (first|exact True.intro|refine And.intro ?_ ?_|exact Compat.ne rfl|exact dz rfl))) ⟨by kernel_rfl,?_⟩|refine bm (by first|exact ag.nil|exact ag.one _|exact ag.mh (by repeat' (first|exact True.intro|refine And.intro ?_ ?_|exact Compat.ne rfl|exact dz rfl))) ?_|fail)
  show aE _ _ _ _ _ _ _ _;refine kV [0,1,2,3,4,5,6,7,8,9,10,11,12,13,27,29] ?_;simp only[XV.aB,List.map_cons,List.map_nil,X1.aB,aU];rfl
theorem LU{h:Hd}{p:Ph}{l:List Mb}{first:Int}(hT:mn h p l first){L:List (List XC)}{k0:Nat}(ho:L[k0]? = some (fl mC l)){a b:List Int}(hp:yj h p l first = .inr (a,b)){n:Nat}(hln:l.length=n){HS:ah}{K i:Nat}(hS:(HS.drop K).take 13=m8 K)(hi:HS[i]? = some (.late L))(hd:(Bn K [i]).Nodup){N:Nat}(hN:HS.length=N){HS':ah}(hh:HS++[bR 5 (il .u8 a),bR 5 (il .u8 b)]=HS')(hbd:Nat.blt HS'.length Mem.bound=true) :
 az.Sound prog ⟨32,[.one (.ptr K 0),.agg (b7 h),.agg (sn p),.one (.int .i64 first),.one (.lsl i k0 0 n n 0)],HS,.tup [.one (eg N a.length 1),.one (eg (N+1) b.length 1),.one (.int .i64 0)],HS',Bn K [i]⟩:=by
 subst hln hN
 have hc:bq prog 32 [.one (.ptr 0 0),.agg (b7 h),.agg (sn p),.one (.int .i64 first),.one (.lsl 13 k0 0 l.length l.length 0)] (kW++[.late L]) (.tup [.one (eg 14 a.length 1),.one (eg 15 b.length 1),.one (.int .i64 0)]) (kW ++ .late L::[bR 5 (il .u8 a),bR 5 (il .u8 b)]):=by
  unfold yj at hp;split at hp
  ·cases hp
  ·rename_i x hx;split at hp
   ·cases hp
   ·rename_i hl;cases hp;exact Ho hT ho hx rfl rfl (by omega) (by omega)
 refine HW 2 rfl hc hS hi hd (.cons (by show 0<14;omega) (.flat (.flat (.flat (.cons (by show 13<14;omega) .nil))))) (.cons rfl (.flat (.flat (.flat (.cons rfl .nil))))) ?_ ?_ (.flat (.flat .nil)) (.flat (.flat .nil)) ?_ hh hbd
 ·intro x hx;simp only[List.mem_cons,List.not_mem_nil,or_false]at hx
  rcases hx with rfl|rfl|rfl
  ·exact aJ (by omega)
  ·exact aJ (by omega)
  ·trivial
 ·simp only[XV.aB,List.map_cons,List.map_nil,X1.aB,aU];rfl
 ·cases il .u8 a<;>cases il .u8 b<;>rfl
theorem Ca{p:Ph}{first count all:Int}{a b:List Int}(hk:xI p first count a.length b.length all)(ha:bc a)(hb:bc b){B:List Bool}(hB:ku p first count (a.length:Nat) (b.length:Nat) (cU a) (cU b) (cU (wr (fP p first count (a.length:Nat) (b.length:Nat) (cU a) (cU b))))=B){q:List Int}(hq:eo B a b=q){n:Nat}(hn:q.length=n){HS:ah}{i j:Nat}(hi:HS[i]? = some (bR 5 (il .u8 a)))(hj:HS[j]? = some (bR 5 (il .u8 b)))(hd:i≠j){N:Nat}(hN:HS.length=N){HS':ah}(hh:HS++[.cells (il .u8 q) 5 true false]=HS')(hbd:Nat.blt HS'.length Mem.bound=true) :
 az.Sound prog ⟨33,[.agg (Q_ p first count (eg i a.length 1) (eg j b.length 1)),.one (.int .i64 all)],HS,.tup [.one (.slice N 0 n (.toEnd 1)),.one (.int .i64 0)],HS',[i,j]⟩:=by
 subst hn hq hN;have h1:=hk.a;have h2:=hk.b;rw[u_ h1.1]at hi;rw[u_ h2.1]at hj;rw[show eg i a.length 1 = .slice i 0 a.length (.toEnd 1)from if_neg (by omega),show eg j b.length 1 = .slice j 0 b.length (.toEnd 1)from if_neg (by omega)];refine bz [i,j] [i,j] 1 (Ac hk ha hb hB) (by simp[hd]) (.flat hi (.flat hj .nil)) (.flat (.flat .nil)) (.flat (.flat (.flat .nil))) rfl (.cons ?_ (.flat .nil)) (.cons rfl (.flat .nil)) (LG (show 2<3 by omega) trivial) rfl (.flat (.flat (.flat .nil))) rfl rfl (by simp only[bE];rw[aF hi,aF hj];exact hh) hbd (.inl rfl);intro c hc;simp only[List.mem_cons,List.not_mem_nil,or_false]at hc
 rcases hc with rfl|rfl|rfl|rfl|rfl|rfl|rfl|rfl<;>first|trivial|(show(_:Nat)<2;omega)
def ic(b:Nat):List (List Int)->List XC
 | []=>[]
 | p::l => .lsl 0 b 0 p.length p.length 0::ic (b+1) l
theorem nC:∀(l:List (List Int)) (b:Nat),(ic b l).length=l.length
 | [],b=>rfl
 | p::l,b=>by rw[ic,List.length_cons,nC l,List.length_cons]
theorem wz:∀(l:List (List Int)) (b:Nat) (p:List Int),ic b (l++[p])=ic b l++[.lsl 0 (b+l.length) 0 p.length p.length 0]
 | [],b,p=>rfl
 | x::l,b,p=>by
   rw[List.cons_append,ic,wz l,ic,List.cons_append,List.length_cons,show b+1+l.length=b+(l.length+1) by omega]
theorem nD:∀(l:List (List Int)) (b n:Nat),b+l.length<=n->∀c∈ic b l,c.lI n=true
 | [],b,n,h=>fun c hc=>by cases hc
 | p::l,b,n,h=>fun c hc=>by
   rw[ic]at hc;rw[List.length_cons]at h
   rcases List.mem_cons.1 hc with rfl|hc
   ·simp only[XC.lI,Nat.blt_eq];omega
   ·exact nD l (b+1) n (by omega) c hc
theorem xO:∀(l:List (List Int)) (b i:Nat),i<l.length->(ic b l).getD i .nils = .lsl 0 (b+i) 0 (l.getD i []).length (l.getD i []).length 0
 | [],b,i,h=>absurd h (Nat.not_lt_zero i)
 | p::l,b,0,h=>rfl
 | p::l,b,i+1,h=>by
   rw[ic,List.getD_cons_succ,xO l (b+1) i (by simpa using h),List.getD_cons_succ,show b+1+i=b+(i+1) by omega]
def v7(ps:List (List Int)):List (List XC):=ps.map (il .u8)++[ic 0 ps]
theorem Lq{ps:List (List Int)}:Ew (v7 ps) (ic 0 ps) ps:=by
 refine⟨nC ps 0,fun i hi => .inr ⟨i,_,Nat.le_refl _,?_,?_⟩⟩
 ·rw[xO ps 0 i hi,Nat.zero_add]
 ·unfold v7;rw[List.getElem?_append_left (by simpa using hi),List.getElem?_map,List.getElem?_eq_getElem hi,List.getD_eq_getElem?_getD,List.getElem?_eq_getElem hi];rfl
theorem E6(ps:List (List Int)):(v7 ps)[ps.length]? = some (ic 0 ps):=by
 unfold v7;rw[List.getElem?_append_right (by simp),List.length_map,Nat.sub_self];rfl
theorem lr{h:Hd}{c:XC}{g m:Nat}(hc:c.mg g m):∀x∈f9 h c,x.mg g m:=fun x hx=>by
 rcases List.mem_append.1 (show x∈b7 h++[c]from hx)with hx|hx
 ·exact XC.gp (XC.aX (List.all_eq_true.1 (cN h) x hx) 0)
 ·rw[List.mem_singleton.1 hx];exact hc
theorem Df(A:List (List Int)):(A.map (il .u8)).length=A.length:=List.length_map ..
theorem Dg(A:List (List Int))(g:Nat):((ic 0 A).map (·.self g)).length=A.length:=by rw[List.length_map,nC]
theorem He(A:List (List Int))(q:List Int)(g:Nat):(ic 0 (A++[q])).map (·.self g)=(ic 0 A).map (·.self g)++[.lsl g A.length 0 q.length q.length 0]:=by
 rw[wz,List.map_append,Nat.zero_add];rfl
theorem Hc(A:List (List Int))(q:List Int):(A++[q]).map (il .u8)=A.map (il .u8)++[il .u8 q]:=by
 rw[List.map_append];rfl
theorem HH{gs:List Gr}{l:List P4}{j:Nat}(h1:(l.getD j default).first=(gs.getD j default).first)(h2:(l.getD j default).n=(gs.getD j default).ms.length)(g:Nat):(pE (l.getD j default)).map (·.self g)=Dv (gs.getD j default).first (.lsl g (l.getD j default).k 0 (gs.getD j default).ms.length (gs.getD j default).ms.length 0):=by
 rw[<-h1,<-h2];rfl
abbrev z7(A:List (List Int))(opn:Bool):aj := .cells ((ic 0 A).map (·.self 1)) 32 opn false
theorem z8{τ : Nat->Nat}{HS:ah}{i:Nat}{ls:List Nat}{hs:ah}{A:List (List Int)}{opn:Bool}(h1 : τ 1=1){vs:List XC}(hi:HS[i]? = some (.cells vs 32 opn false))(hv:vs=(ic 0 A).map (·.self 1))(r:af τ HS ls hs):af τ HS (i::ls) (z7 A opn::hs):=by
 subst hv;refine af.cons ?_ r;rw[hi];simp only[aj.aB];rw[rR (nD A 0 A.length (by omega)),h1]
theorem yi{τ : Nat->Nat}{HS:ah}{i:Nat}{ls:List Nat}{hs:ah}{A:List (List Int)}{opn:Bool}(hi:HS[i]? = some (z7 A opn))(h1 : τ 1=1)(r:af τ HS ls hs):af τ HS (i::ls) (z7 A opn::hs):=z8 h1 hi rfl r
theorem LH{τ : Nat->Nat}{HS:ah}{i:Nat}{ls:List Nat}{hs:ah}{A B:List (List Int)}{q:List Int}{opn:Bool}(hB:A=B++[q])(hi:HS[i]? = some (.cells ((ic 0 B).map (·.self 1)++[.lsl 1 B.length 0 q.length q.length 0]) 32 opn false))(h1 : τ 1=1)(r:af τ HS ls hs):af τ HS (i::ls) (z7 A opn::hs):=z8 h1 hi (by rw[hB,He]) r
theorem s_{A:List (List Int)}{opn:Bool}{m:Nat}(hm:1<m):(z7 A opn).bH m:=u6 (nD A 0 A.length (by omega)) hm
abbrev M1(cp:py)(n:Nat)(opn:Bool):Prop:=cp = .exact n\/(cp = .toEnd 1/\opn=true/\0<n)
theorem Aa{s:o4}(hs:iv s){L:List (List XC)}{k n:Nat}(hp:wq L k s.ps)(hn:s.ps.length=n){ps:List (List Int)}(hps:fU s=ps){m:Nat}(hm:ps.length=m) :
 bq prog 12 [.agg (f9 s.hd (.lsl 0 k 0 n n 0))] [.late L] (.tup [.one (.lsl 1 m 0 m m 0),.one (.int .i64 0)]) [.late L,.late (v7 ps)]:=by
 subst hn hm hps;have hpcs:=hp;obtain⟨l,hl,hln,hall⟩:=hp;have hok:=hs.ok;have hmany:=hok.many;have hcr:=oL hok;have hdo:=hok.hd;have hraw:=hok.raw
 obtain⟨y,hy⟩:∃y,ie s.hd=y:=⟨_,rfl⟩
 have hyl:=jU s.hd;rw[hy]at hyl;have hpk:fU s=y::pZ s.hd s.ps:=by rw[<-hy];rfl
 refine cO Tryz.func12 ?_;refine WX.ghost rfl ?_
 repeat' (first
  |(refine qz ?_;first
   |refine jV ?_ (hle:=(dt _ _).symm)
   |refine cl ?_ (hi:=by exact FR (i:=0) hok hpcs rfl rfl rfl)
   |refine rG (cs:=b7 s.hd) ?_ (hle:=by rw[dt];decide) (hc:=yv _ _)
   |refine cl ?_ (hi:=by exact zC hdo hraw hy rfl nL nA rfl))
  |refine ll 5 ?_|refine uc 5 ?_|refine zz ?_|refine zx (fun _=>?_) (fun _=>?_)|fail)
 refine⟨?_⟩;refine WX.sK (L:=[]) (vs:=il .u8 y) 3 1 y.length (.toEnd 1) [(1,.one (.ptr 2 0)),(5,.one (.lsl 1 0 0 y.length y.length 0)),(6,.one (.int .i64 0))] [.late L,.late [il .u8 y],.cells (f9 s.hd (.lsl 0 k 0 s.ps.length s.ps.length 0)) 36 false false,.dead] (gB .u8 y 0) (.inr ⟨1,rfl,Nat.one_pos,by rw[bu];omega⟩) (by exact rfl) (hv:=eQ (gB .u8 y 0) 1) (hH:=by repeat' (first|exact bh.nil|refine bh.ghost ?_|refine bh.flat rfl ?_|refine bh.cells rfl (dM.same (lr (by simp[XC.mg]))) ?_|refine bh.cells rfl (dM.same (gu (by assumption) _ _)) ?_|refine bh.cells rfl (dM.same (by simp[XC.mg,cS,eg])) ?_|refine bh.dead ?_)) (hok:=(nf (objs:=by repeat' (first|exact aw.nil|refine aw.cons (cQ (show 0<_ from Nat.le_of_ble_eq_true rfl)) ?_|refine aw.cons (s_ (Nat.le_of_ble_eq_true rfl)) ?_|refine kz ?_)))) (h:=?_)
 repeat' (first
  |(refine qz ?_;first
   |refine sY (zs:=[.nils]) ?_
   |refine cl ?_ (hi:=by exact Oq (N:=5) rfl nA rfl)
   |refine ld (c := .lsl 0 k 0 s.ps.length s.ps.length 0) ?_ (hc:=Cy _ _)
   |refine kY ?_
   |refine mf ?_)
  |refine zz ?_|refine zx (fun _=>?_) (fun _=>?_)|fail)
 refine WX.cj (σ:=Nat×py×Bool) (fun t=>[(1,.one (.ptr 2 0)),(8,.one (.ptr 5 0)),(35,.one (.lsl 0 k 0 s.ps.length s.ps.length 0)),(36,.one (.int .i64 (s.ps.length:Nat))),(7,.one (.slice 4 0 (y::pZ s.hd (s.ps.take t.1)).length t.2.1)),(37,.one (.int .i64 (t.1:Nat)))]) (fun t=>[.late L,.late ((y::pZ s.hd (s.ps.take t.1)).map (il .u8)),.cells (f9 s.hd (.lsl 0 k 0 s.ps.length s.ps.length 0)) 36 false false,.dead,z7 (y::pZ s.hd (s.ps.take t.1)) t.2.2,eZ 6 10 14,aW 7 8 9 cM,c6 cM,c9 cM,c7 cM,aW 11 12 13 cZ,c6 cZ,c9 cZ,c7 cZ,aW 15 16 17 cP,c6 cP,c9 cP,c7 cP]) (fun t=>t.1<=s.ps.length/\M1 t.2.1 (y::pZ s.hd (s.ps.take t.1)).length t.2.2/\(y::pZ s.hd (s.ps.take t.1)).length<=1+9*t.1) (fun t=>s.ps.length-t.1) (0,.exact 1,false) ⟨Nat.zero_le _,.inl rfl,Nat.le_refl _⟩ (fun t _=>(nf (objs:=by repeat' (first|exact aw.nil|refine aw.cons (cQ (show 0<_ from Nat.le_of_ble_eq_true rfl)) ?_|refine aw.cons (s_ (Nat.le_of_ble_eq_true rfl)) ?_|refine kz ?_)))) (bV [0,1,2,3,4,5,6,7,8,9,10,11,12,13,14,15,16,17] (obj:=by(repeat' (first|exact af.nil|refine a_ rfl rfl ?_|refine yi rfl rfl ?_|refine oz ?_));first|done|fail)) ?_;intro t ⟨ht,hcap,hfew⟩ ih
 obtain⟨A,hA⟩:∃A,y::pZ s.hd (s.ps.take t.1)=A:=⟨_,rfl⟩
 rw[hA]at hcap hfew ⊢
 by_cases hlt:t.1<s.ps.length
 ·obtain⟨a1,a2,a3⟩:=hall t.1 hlt;have hpo:=hok.pics t.1 hlt;have hsf:=Ag (ps:=s.ps) a1 a2 0;have hgk:=fun g hg=>IP hs hlt (g:=g) hg
  have hnx0:y::pZ s.hd (s.ps.take (t.1+1))=A++Nk s.hd (s.ps.getD t.1 default):=by
   rw[oN s.ps hlt,<-hA];unfold pZ;rw[List.flatMap_append,List.flatMap_singleton];rfl
  obtain⟨p,hpe⟩:∃p,s.ps.getD t.1 default=p:=⟨_,rfl⟩
  obtain⟨a,hae⟩:∃a,l.getD t.1 default=a:=⟨_,rfl⟩
  have hae':l.getD (t.1:Int).toNat default=a:=hae;rw[hpe]at a3 hpo hsf hgk hnx0;rw[hae]at a3 hsf;have hfw:=hpo.few;have hph:=hpo.ph;have hnx:y::pZ s.hd (s.ps.take (t.1+1))=A++p.gs.map (DI s.hd p.ph):=hnx0
  obtain⟨P,hP⟩:∃P,p.ph=P:=⟨_,rfl⟩
  rw[hP]at hph hsf hgk hnx;have hsf:(nX (l.getD (t.1:Int).toNat default)).map (·.self 0)=tb P (.lsl 0 a.k 0 p.gs.length p.gs.length 0):=by rw[hae'];exact hsf
  have hlt2:t.1<l.length:=by omega
  obtain⟨gl,gl1,gl2,gl3⟩:=a3;have hB0:A++(p.gs.take 0).map (DI s.hd P)=A:=by rw[List.take_zero];exact List.append_nil _
  repeat' (first
   |(refine qz ?_;first
    |refine kY ?_
    |refine mf ?_
    |refine jG (zs:=tb ⟨0,false,false,0⟩ .nils) (hz:=vR) ?_
    |refine BW (enc:=nX) ?_ hl hlt2 (hc':=hsf))
   |refine zz ?_|refine zx (fun _=>?_) (fun _=>?_)|fail)
  rw[<-hB0]at hcap ⊢;refine WX.cj (σ:=Nat×py×Bool) (fun u=>[(1,.one (.ptr 2 0)),(8,.one (.ptr 5 0)),(35,.one (.lsl 0 k 0 s.ps.length s.ps.length 0)),(36,.one (.int .i64 (s.ps.length:Nat))),(37,.one (.int .i64 (t.1:Nat))),(10,.one (.ptr 18 0)),(42,.one (.lsl 0 a.k 0 p.gs.length p.gs.length 0)),(43,.one (.int .i64 (p.gs.length:Nat))),(7,.one (.slice 4 0 (A++(p.gs.take u.1).map (DI s.hd P)).length u.2.1)),(44,.one (.int .i64 (u.1:Nat)))]) (fun u=>[.late L,.late ((A++(p.gs.take u.1).map (DI s.hd P)).map (il .u8)),.cells (f9 s.hd (.lsl 0 k 0 s.ps.length s.ps.length 0)) 36 false false,.dead,z7 (A++(p.gs.take u.1).map (DI s.hd P)) u.2.2,eZ 6 10 14,aW 7 8 9 cM,c6 cM,c9 cM,c7 cM,aW 11 12 13 cZ,c6 cZ,c9 cZ,c7 cZ,aW 15 16 17 cP,c6 cP,c9 cP,c7 cP,.cells (tb P (.lsl 0 a.k 0 p.gs.length p.gs.length 0)) 87 false false]) (fun u=>u.1<=p.gs.length/\M1 u.2.1 (A++(p.gs.take u.1).map (DI s.hd P)).length u.2.2) (fun u=>p.gs.length-u.1) (0,t.2) ⟨Nat.zero_le _,hcap⟩ (fun u _=>(nf (objs:=by repeat' (first|exact aw.nil|refine aw.cons (cQ (show 0<_ from Nat.le_of_ble_eq_true rfl)) ?_|refine aw.cons (s_ (Nat.le_of_ble_eq_true rfl)) ?_|refine kz ?_)))) (bV [0,1,2,3,4,5,6,7,8,9,10,11,12,13,14,15,16,17,18] (obj:=by(repeat' (first|exact af.nil|refine a_ rfl rfl ?_|refine yi rfl rfl ?_|refine oz ?_));first|done|fail)) ?_;intro u ⟨hu,hcap2⟩ ih2
  have hBl:(A++(p.gs.take u.1).map (DI s.hd P)).length=A.length+u.1:=by
   rw[List.length_append,List.length_map,List.length_take,Nat.min_eq_left hu]
  obtain⟨B,hB⟩:∃B,A++(p.gs.take u.1).map (DI s.hd P)=B:=⟨_,rfl⟩
  rw[hB]at hBl hcap2 ⊢
  by_cases hlt3:u.1<p.gs.length
  ·obtain⟨g1,g2,g3⟩:=gl3 u.1 hlt3;have hgf:=HH (gs:=p.gs) g1 g2 0
   have hmem:p.gs.getD u.1 default∈p.gs:=by
    rw[List.getD_eq_getElem?_getD,List.getElem?_eq_getElem hlt3,Option.getD_some];exact List.getElem_mem hlt3
   obtain⟨hT,hpO,hba,hbb,hla,hlb⟩:=hgk _ hmem
   have hB1:A++(p.gs.take (u.1+1)).map (DI s.hd P)=B++[DI s.hd P (p.gs.getD u.1 default)]:=by
    rw[oN p.gs hlt3,List.map_append,<-List.append_assoc,hB];rfl
   obtain⟨g,hge⟩:∃g,p.gs.getD u.1 default=g:=⟨_,rfl⟩
   obtain⟨b,hbe⟩:∃b,gl.getD u.1 default=b:=⟨_,rfl⟩
   have hbe':gl.getD (u.1:Int).toNat default=b:=hbe;rw[hge]at g3 hgf hT hpO hba hbb hla hlb hB1;rw[hbe]at g3 hgf;have hgf:(pE (gl.getD (u.1:Int).toNat default)).map (·.self 0)=Dv g.first (.lsl 0 b.k 0 g.ms.length g.ms.length 0):=by rw[hbe'];exact hgf
   have hlt4:u.1<gl.length:=by omega
   obtain⟨q,hq⟩:∃q,DI s.hd P g=q:=⟨_,rfl⟩
   have hq2:eo (Ra s.hd P g) (f7 s.hd P g).1 (f7 s.hd P g).2=q:=hq;have hpH:ku P g.first (g.ms.length:Nat) ((f7 s.hd P g).1.length:Nat) ((f7 s.hd P g).2.length:Nat) (cU (f7 s.hd P g).1) (cU (f7 s.hd P g).2) (cU (wr (fP P g.first (g.ms.length:Nat) ((f7 s.hd P g).1.length:Nat) ((f7 s.hd P g).2.length:Nat) (cU (f7 s.hd P g).1) (cU (f7 s.hd P g).2))))=Ra s.hd P g:=rfl
   obtain⟨pa,hpa⟩:∃x,(f7 s.hd P g).1=x:=⟨_,rfl⟩
   obtain⟨pb,hpb⟩:∃x,(f7 s.hd P g).2=x:=⟨_,rfl⟩
   have hpO:yj s.hd P g.ms g.first = .inr (pa,pb):=by rw[hpO,<-hpa,<-hpb]
   rw[hpa,hpb]at hq2 hpH;rw[hpa]at hba hla;rw[hpb]at hbb hlb;rw[hq]at hB1;have hT1:=hT.pos;have hT2:=hT.many;have hT3:=hT.all
   have hpk2:xI P g.first (g.ms.length:Nat) pa.length pb.length (s.hd.cols*s.hd.rows):=⟨hph,hT1,by omega,by omega,by omega,hla,hlb⟩
   have hbl0:∀c∈ic 0 B,c.lI B.length=true:=nD B 0 B.length (by omega);have hql:q.length=21+pa.length+pb.length:=by rw[<-hq2,gq]
   repeat' (first
    |(refine qz ?_;first
     |refine kY ?_
     |refine mf ?_
     |refine jG (zs:=Dv 0 .nils) (hz:=y6) ?_
     |refine BW (enc:=pE) ?_ gl1 hlt4 (hc':=hgf)
     |refine rG (cs:=b7 s.hd) ?_ (hle:=by rw[dt];decide) (hc:=yv _ _)
     |refine rG (cs:=sn P) ?_ (hle:=by decide) (hc:=by exact rfl)
     |refine ld (c := .int .i64 s.hd.cols) ?_
     |refine ld (c := .int .i64 s.hd.rows) ?_
     |refine cl ?_ (hi:=by exact LU hT g3 hpO rfl (K:=5) (i:=0) rfl rfl (by decide) nL nA rfl)
     |refine cl ?_ (hi:=by exact Ca hpk2 hba hbb hpH hq2 rfl (i:=20) (j:=21) rfl rfl (by decide) nL nA rfl))
    |refine ll 19 ?_|refine uc 19 ?_|refine zz ?_|refine zx (fun _=>?_) (fun _=>?_)|fail)
   refine⟨?_⟩;refine WX.sK (L:=B.map (il .u8)) (vs:=il .u8 q) 22 1 q.length (.toEnd 1) [(1,.one (.ptr 2 0)),(8,.one (.ptr 5 0)),(35,.one (.lsl 0 k 0 s.ps.length s.ps.length 0)),(36,.one (.int .i64 (s.ps.length:Nat))),(37,.one (.int .i64 (t.1:Nat))),(10,.one (.ptr 18 0)),(42,.one (.lsl 0 a.k 0 p.gs.length p.gs.length 0)),(43,.one (.int .i64 (p.gs.length:Nat))),(7,.one (.slice 4 0 B.length u.2.1)),(44,.one (.int .i64 (u.1:Nat))),(15,.one (.int .i64 0)),(16,.one (.lsl 1 B.length 0 q.length q.length 0))] [.late L,.late (B.map (il .u8)++[il .u8 q]),.cells (f9 s.hd (.lsl 0 k 0 s.ps.length s.ps.length 0)) 36 false false,.dead,z7 B u.2.2,eZ 6 10 14,aW 7 8 9 cM,c6 cM,c9 cM,c7 cM,aW 11 12 13 cZ,c6 cZ,c9 cZ,c7 cZ,aW 15 16 17 cP,c6 cP,c9 cP,c7 cP,.cells (tb P (.lsl 0 a.k 0 p.gs.length p.gs.length 0)) 87 false false,.dead,.dead,.dead,.dead] (gB .u8 q B.length) (.inr ⟨1,rfl,Nat.one_pos,by rw[bu];omega⟩) (Df B) (hv:=eQ (gB .u8 q 0) 1) (hH:=by repeat' (first|exact bh.nil|refine bh.ghost ?_|refine bh.flat rfl ?_|refine bh.cells rfl (dM.same (lr (by simp[XC.mg]))) ?_|refine bh.cells rfl (dM.same (gu (by assumption) _ _)) ?_|refine bh.cells rfl (dM.same (by simp[XC.mg,cS,eg])) ?_|refine bh.dead ?_)) (hok:=(nf (objs:=by repeat' (first|exact aw.nil|refine aw.cons (cQ (show 0<_ from Nat.le_of_ble_eq_true rfl)) ?_|refine aw.cons (s_ (Nat.le_of_ble_eq_true rfl)) ?_|refine kz ?_)))) (h:=?_)
   repeat' (first
    |(refine qz ?_;first
     |refine sY (zs:=[.nils]) ?_
     |refine Ti 4 B.length hcap2 ?_ ?_ (hn:=by rw[Dg,Nat.mul_one]))
    |refine zz ?_|refine zx (fun _=>?_) (fun _=>?_)|fail)
   all_goals exact ih2 (u.1+1,.toEnd 1,true) _ _ _ (bV [0,1,2,3,24,5,6,7,8,9,10,11,12,13,14,15,16,17,18] (obj:=by(repeat' (first|exact af.nil|refine af.flat (by rw[hB1,Hc];rfl) ?_|refine a_ rfl rfl ?_|refine LH hB1 rfl rfl ?_|refine oz ?_));first|done|fail) (reg:=by(repeat' (first|exact ai.nil|refine ai.cons (by rw[hB1,List.length_append];rfl) ?_|refine rz ?_|refine ai.sl rfl (by assumption) rfl ?_));first|done|fail)) ⟨by show u.1+1<=_;omega,.inr ⟨rfl,rfl,by rw[hB1,List.length_append];exact Nat.succ_pos _⟩⟩ (by show _-(u.1+1)<_;omega)
  ·have e0:u.1=p.gs.length:=by omega
   rw[e0,List.take_length,<-hnx]at hB;clear ih2;subst hB
   repeat' (first
    |(refine qz ?_;first
     |refine kY ?_)
    |refine zz ?_|refine zx (fun _=>?_) (fun _=>?_)|fail)
   exact ih (t.1+1,u.2) _ _ _ (bV [0,1,2,3,4,5,6,7,8,9,10,11,12,13,14,15,16,17] (obj:=by(repeat' (first|exact af.nil|refine a_ rfl rfl ?_|refine yi rfl rfl ?_|refine oz ?_));first|done|fail)) ⟨by show t.1+1<=_;omega,hcap2,by rw[hBl];show _<=1+9*(t.1+1);omega⟩ (by show _-(t.1+1)<_;omega)
 ·have e0:t.1=s.ps.length:=by omega
  rw[e0,List.take_length,<-hpk]at hA;clear ih;subst hA
  obtain⟨A,hA⟩:∃A,fU s=A:=⟨_,rfl⟩
  rw[hA]at hcap hfew ⊢;have hbl0:∀c∈ic 0 A,c.lI A.length=true:=nD A 0 A.length (by omega)
  have hcp:(∃c,t.2.1 = .exact c/\A.length<=c)\/∃z,t.2.1 = .toEnd z/\0<z/\A.length*z<=((ic 0 A).map (·.self 1)).length:=by
   rcases hcap with h|⟨h,_⟩
   ·exact .inl ⟨_,h,Nat.le_refl _⟩
   ·exact .inr ⟨1,h,Nat.one_pos,by rw[Dg];omega⟩
  repeat' (first
   |(refine qz ?_;first
    |refine kY ?_)
   |refine ll 24 ?_|refine uc 24 ?_|refine zz ?_|refine zx (fun _=>?_) (fun _=>?_)|fail)
  refine⟨?_⟩;refine WX.sK (L:=A.map (il .u8)) (vs:=ic 0 A) 4 1 A.length t.2.1 [(7,.one (.lsl 1 A.length 0 A.length A.length 0))] [.late L,.late (A.map (il .u8)++[ic 0 A]),.dead,.dead,.dead,.dead,.dead,.dead,.dead,.dead,.dead,.dead,.dead,.dead,.dead,.dead,.dead,.dead] hbl0 hcp (Df A) (hH:=by repeat' (first|exact bh.nil|refine bh.ghost ?_|refine bh.flat rfl ?_|refine bh.dead ?_)) (h:=?_)
  repeat' (first|refine zz ?_|refine zx (fun _=>?_) (fun _=>?_)|fail)
  show aE _ _ _ _ _ _ _ _;refine kV [0,1] ?_;rfl
theorem B9{s:o4}(hs:iv s){L:List (List XC)}{k n i:Nat}(hp:wq L k s.ps)(hn:s.ps.length=n){ps:List (List Int)}(hps:fU s=ps){m:Nat}(hm:ps.length=m){HS:ah}(hi:HS[i]? = some (.late L)){N:Nat}(hN:HS.length=N){HS':ah}(hh:HS++[.late (v7 ps)]=HS')(hbd:Nat.blt HS'.length Mem.bound=true) :
 az.Sound prog ⟨12,[.agg (f9 s.hd (.lsl i k 0 n n 0))],HS,.tup [.one (.lsl N m 0 m m 0),.one (.int .i64 0)],HS',[i]⟩:=by
 subst hN;refine bz [i] [i] 1 (Aa hs hp hn hps hm) (by simp) (.flat hi .nil) (.flat .nil) (.flat (.flat .nil)) rfl (.cons (rV (show 0<_ from Nat.le_of_ble_eq_true rfl)) .nil) (.cons (qJ rfl) .nil) (LG (show 1<2 by omega) trivial) rfl (.flat (.flat .nil)) rfl rfl (by simp only[bE];rw[aF hi];exact hh) hbd (.inl rfl)
structure Ub where
 m:List Bool
 at_:Nat
 last:Int
structure Uc where
 out:List (List Bool)
 yh:List Bool
 at_:Nat
 last:Int
structure Pk where
 ph:Ph
 first:Int
 count:Int
 A:List Int
 Bb:List Int
 B:List Bool
instance:Inhabited Pk:=⟨⟨⟨0,false,false,0⟩,0,0,[],[],[]⟩⟩
def cA(k:Pk):Nat:=21+k.A.length+k.Bb.length
structure Fo where
 k:Pk
 at_:Nat
instance:Inhabited Fo:=⟨⟨default,0⟩⟩
def x4(g j:Nat)(f:Fo):List XC:=CD f.k.ph f.k.first f.k.count (.lsl g (2*j) 0 f.k.A.length f.k.A.length 0) (.lsl g (2*j+1) 0 f.k.Bb.length f.k.Bb.length 0) (cA f.k:Nat)++[.int .i64 (f.at_:Nat)]
def jq(g:Nat):Nat->List Fo->List XC
 | _,[]=>[]
 | j,f::l=>x4 g j f++jq g (j+1) l
theorem t_(g:Nat)(f:Fo):∀(l:List Fo) (j:Nat),jq g j (l++[f])=jq g j l++x4 g (j+l.length) f
 | [],j=>by
   show x4 g j f++[] = []++_;rw[List.append_nil,List.nil_append];rfl
 | x::l,j=>by
   show x4 g j x++jq g (j+1) (l++[f])=(x4 g j x++jq g (j+1) l)++_;rw[t_ g f l (j+1),List.append_assoc,List.length_cons,show j+1+l.length=j+(l.length+1) by omega]
theorem oF(g:Nat):∀(l:List Fo) (j:Nat),(jq g j l).length=l.length*12
 | [],j=>rfl
 | f::l,j=>by
   rw[jq,List.length_append,oF g l (j+1),List.length_cons];show 12+_=_;omega
theorem t9(g:Nat):∀(l:List Fo) (j:Nat),(jq 0 j l).map (·.self g)=jq g j l
 | [],j=>rfl
 | f::l,j=>by
   rw[jq,List.map_append,t9 g l (j+1)];rfl
theorem e_(m:Nat):∀(l:List Fo) (j:Nat),2*(j+l.length)<=m->∀c∈jq 0 j l,c.lI m=true
 | [],j,_,c,hc=>by cases hc
 | f :: l,j,h,c,hc=>by
   rw[List.length_cons]at h;rw[jq]at hc
   rcases List.mem_append.1 hc with hc|hc
   ·simp only[x4,CD,List.cons_append,List.nil_append,List.mem_cons,List.not_mem_nil,or_false]at hc
    rcases hc with rfl|rfl|rfl|rfl|rfl|rfl|rfl|rfl|rfl|rfl|rfl|rfl<;>first
     | rfl
     | (simp only[XC.lI,Nat.blt_eq];omega)
   ·exact e_ m l (j+1) (by omega) c hc
def Bl:List Fo->List (List XC)
 | []=>[]
 | f::l=>il .u8 f.k.A::il .u8 f.k.Bb::Bl l
theorem oE:∀l:List Fo,(Bl l).length=2*l.length
 | []=>rfl
 | f::l=>by rw[Bl,List.length_cons,List.length_cons,oE l,List.length_cons];omega
theorem zq(f:Fo):∀l:List Fo,Bl (l++[f])=(Bl l++[il .u8 f.k.A])++[il .u8 f.k.Bb]
 | []=>rfl
 | x::l=>by
   show il .u8 x.k.A::il .u8 x.k.Bb::Bl (l++[f])=_;rw[zq f l];rfl
abbrev MT:=Nat×Option Pk
structure W9 where
 at_:Nat
 passed:Int
 work:Int
 acc:List Fo
def w9(s:W9)(e:MT):W9:=match e.2 with
 | .none=>⟨e.1+3,s.passed+((e.1:Int)-(s.at_:Nat))+3,s.work+((e.1:Int)-(s.at_:Nat)+1),s.acc⟩
 | .some k=>⟨e.1+cA k,s.passed+((e.1:Int)-(s.at_:Nat)),s.work+((e.1:Int)-(s.at_:Nat)+1)+(cA k:Nat),s.acc++[⟨k,e.1⟩]⟩
def Qa(b:List Int)(n:Nat)(all:Int)(i:Nat)(k:Pk):Prop:=KG b i (n-i) k.ph k.first k.count all k.A k.Bb k.B
inductive Steps(b:List Int)(n:Nat)(all:Int):Nat->List MT->Prop where
 | nil {a:Nat}:a<=n->findF (du b 0) n a = .none->Steps b n all a []
 | no {a i:Nat} {l:List MT}:a<=i->i+3<n->findF (du b 0) n a=some i->b.getD (i+3) 0≠182->Steps b n all (i+3) l->Steps b n all a ((i,.none)::l)
 | pk {a i:Nat} {k:Pk} {l:List MT}:a<=i->i<n->findF (du b 0) n a=some i->Qa b n all i k->Steps b n all (i+cA k) l->Steps b n all a ((i,some k)::l)
def gW(h:Hd)(some:Bool)(c:XC)(passed work:Int):List XC:=b7 h++[.bool some,c,.int .i64 passed,.int .i64 work]
theorem bn(h:Hd)(s:Bool)(c:XC)(p w:Int):(gW h s c p w).length=135:=by simp[gW,aD]
theorem Ps(h:Hd)(s:Bool)(c:XC)(p w:Int):((gW h s c p w).drop 0).take 131=b7 h:=by
 unfold gW;rw[List.drop_zero,List.take_left' (aD h)]
theorem Ee(h:Hd){t:List XC}(j:Nat):(b7 h++t)[131+j]? = t[j]?:=by
 rw[List.getElem?_append_right (by rw[aD];omega),aD,Nat.add_sub_cancel_left]
theorem yG(h:Hd){t:List XC}(j:Nat)(x:XC):(b7 h++t).set (131+j) x=b7 h++t.set j x:=by
 rw[List.set_append_right _ _ (by rw[aD];omega),aD,Nat.add_sub_cancel_left]
theorem Rx(h:Hd)(s:Bool)(c:XC)(p w:Int):(gW h s c p w)[131]? = some (.bool s):=Ee h 0
theorem J7(h:Hd)(s:Bool)(c:XC)(p w:Int):(gW h s c p w)[132]? = some c:=Ee h 1
theorem pr(h:Hd)(s:Bool)(c:XC)(p w:Int):(gW h s c p w)[133]? = some (.int .i64 p):=Ee h 2
theorem qT(h:Hd)(s:Bool)(c:XC)(p w:Int):(gW h s c p w)[134]? = some (.int .i64 w):=Ee h 3
theorem CJ(h:Hd)(s s':Bool)(c:XC)(p w:Int):(gW h s c p w).set 131 (.bool s')=gW h s' c p w:=yG h 0 _
theorem Pt(h:Hd)(s:Bool)(c c':XC)(p w:Int):(gW h s c p w).set 132 c'=gW h s c' p w:=yG h 1 _
theorem oe(h:Hd)(s:Bool)(c:XC)(p w p':Int):(gW h s c p w).set 133 (.int .i64 p')=gW h s c p' w:=yG h 2 _
theorem mV(h:Hd)(s:Bool)(c:XC)(p w w':Int):(gW h s c p w).set 134 (.int .i64 w')=gW h s c p w':=yG h 3 _
theorem m5:aL prog 45 (gW lH false .nils 0 0):=by
 show aL prog 45 ((.int .i64 0 :: .int .i64 0 :: .bool false::((ti .u8 64 fun _=>0)++(ti .u8 64 fun _=>0)))++[.bool false,.nils,.int .i64 0,.int .i64 0])
 infer_instance
end Go.Proofs.YthdciapjllppjaaGreat
