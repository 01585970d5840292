/-
  A part of the proof: StrJ, PutK, StrT, StrU.
-/
import Derived.Test.YthdciapjllppjaaGreatFaF
import Derived.Test.YthdciapjllppjaaGreatFaX
import Derived.Test.YthdciapjllppjaaGreatFaZ
set_option maxRecDepth 10000
set_option maxHeartbeats 8000000
set_option linter.unusedVariables false
set_option linter.unusedSectionVars false
set_option linter.unusedSimpArgs false
open Go.Proofs.Tryz (prog)
namespace Go.Proofs.YthdciapjllppjaaGreat
open Go.Xm
variable [av]
def Sg(h:Hd)(j:Nat):Nat->Int:=if j=0 then h.a else h.b
def tk(h:Hd):Nat->List Bool
 | 0=>yP h
 | j+1=>tk h j++pg (Sg h j) 64
theorem uF(h:Hd):∀j,(tk h j).length=17+512*j
 | 0=>qK h
 | j+1=>by rw[tk,List.length_append,uF h j,oA];omega
theorem QC(x:Int):IntKind.u8.wrap x=x%256:=by
 simp[IntKind.wrap,IntKind.bits,IntKind.signed]
theorem NB(f g:Nat->Int):∀j,j<2->((ti .u8 64 f++ti .u8 64 g).drop (j*64)).take 64=ti .u8 64 (if j=0 then f else g)
 | 0,_=>by
   rw[Nat.zero_mul,List.drop_zero,List.take_left' (aU ..)];rfl
 | 1,_=>by
   rw[Nat.one_mul,List.drop_left' (aU ..),List.take_of_length_le (by rw[aU];exact Nat.le_refl _)];rfl
 | j+2,h=>absurd h (by omega)
theorem RF(h:Hd):((ij h).drop 3).take 64=ti .u8 64 h.a:=by
 show(ti .u8 64 h.a++ti .u8 64 h.b).take 64=_;exact List.take_left' (aU ..)
theorem RG(h:Hd):((ij h).drop 67).take 64=ti .u8 64 h.b:=by
 have e:(ij h).drop 67=(ti .u8 64 h.a++ti .u8 64 h.b).drop 64:=rfl;rw[e,List.drop_left' (aU ..),List.take_of_length_le (by rw[aU];exact Nat.le_refl _)]
theorem Lz:aK prog 22 (ti .u8 64 fun _=>0):=by infer_instance
instance SB (f g:Nat->Int) (e:TypeId) (a b:Bool):cf (.cells (ti .u8 64 f++ti .u8 64 g) e a b):=gG (by rw[List.all_append,ja,ja];rfl)
theorem Bz{bs:List Bool}(hb:bs.length<=1000000){n:Nat}(hn:((bs++[true]).length+7)/8=n){w:List Int}(hw:wr (bs++[true])=w){HS:ah}{i k:Nat}(hi:HS[i]? = some (aP k bs))(hk:HS[k]? = some (au bs))(hd:i≠k){N:Nat}(hN:HS.length=N){HS':ah}(hh:HS++[bu 5 (il .u8 w)]=HS')(hbd:Nat.blt HS'.length Mem.bound=true) :
 aA.Sound prog ⟨48,[.one (.ptr i 0)],HS,dV N n 1,HS',[i,k]⟩:=by
 subst hn hw;exact vW hb hi hk hd hN hh hbd
theorem vL{q:List Int}(hq:1<=q.length):bu 5 (il .u8 q) = .cells (il .u8 q) 5 true false:=bJ fun e=>by
 have h2:(il .u8 q).length=0:=by rw[e];rfl
 rw[br]at h2;omega
theorem Ou(l:List Int):RO (bu 5 (il .u8 l)) .u8 l:=⟨fun h=>⟨_,true,false,vL (by omega)⟩,inferInstance⟩
theorem xn{l:List Int}(hl:aR l)(hn:l.length<=100000)(h0:1<=l.length){q:List Int}(hq:(gu l l.length).1=q){n m:Nat}(hln:l.length=n)(hm:q.length=m){HS:ah}{i:Nat}(hi:HS[i]? = some (bu 5 (il .u8 l))){N:Nat}(hN:HS.length=N){HS':ah}(hh:HS++[.cells (il .u8 q) 5 true false]=HS')(hb:Nat.blt HS'.length Mem.bound=true) :
 aA.Sound prog ⟨51,[dV i n 1],HS,.one (.slice N 0 m (.toEnd 1)),HS',[i]⟩:=by
 subst hm;have hp:=qD h0;rw[hq]at hp;rw[<-c_ (show q.length≠0 by omega)];exact r8 hl hn hq hln hi hN (by rw[vL hp];exact hh) hb
theorem BA{b:Bool}{bs:List Bool}(hb:bs.length<=1000000){HS:ah}{i k:Nat}(hi:HS[i]? = some (aP k bs))(hk:HS[k]? = some (au bs))(hd:i≠k){q:List Bool}(hq:bs++[b]=q){N:Nat}(hN:HS.length=N){HS':ah}(hh:bD HS [i,k] [aP N q,.dead,au q]=HS')(hbd:Nat.blt HS'.length Mem.bound=true) :
 aA.Sound prog ⟨47,[.one (.ptr i 0),.one (.bool b)],HS,.tup [],HS',[i,k]⟩:=by
 subst hq;exact jv hb hi hk hd hN hh hbd
theorem F8{h:Hd}(ho:rR h)(hr:∀i,i<64->(0<=h.a i/\h.a i<=255)/\(0<=h.b i/\h.b i<=255)){q:List Int}(hq:LH h=q) :
 bm prog 27 [.agg (ij h)] [] (.tup [.one (.slice 0 0 q.length (.toEnd 1)),.one (.int .i64 0)]) [.cells (il .u8 q) 5 true false]:=by
 have hd1:=ho.dims.c0;have hd2:=ho.dims.c1;have hd3:=ho.dims.r0;have hd4:=ho.dims.r1;have hB0:=qK h;have e0:(([]++bd h.cols 8)++bd h.rows 8)++[h.w]=yP h:=rfl;have l0:(bd h.cols 8).length=8:=bB ..;have l1:(bd h.rows 8).length=8:=bB ..
 obtain⟨b0,hb0⟩:∃b,[]++bd h.cols 8=b:=⟨_,rfl⟩
 obtain⟨b1,hb1⟩:∃b,b0++bd h.rows 8=b:=⟨_,rfl⟩
 have k0:b0.length=8:=by rw[<-hb0];simp[l0]
 have k1:b1.length=16:=by rw[<-hb1,List.length_append,k0,l1]
 rw[hb0,hb1]at e0
 obtain⟨w,hw⟩:∃w,h.w=w:=⟨_,rfl⟩
 have hhB:O_ h=if w=true then tk h 2 else yP h:=by rw[<-hw];rfl
 refine cO Tryz.func27 ?_;have hR:F7 h=wr (O_ h++[true]):=rfl;have hS:LG h=F7 h++[gH (F7 h)/256,gH (F7 h)%256,128]:=rfl;have hRb:=As h;have hRl:=Em h;have hSb:=At h;have hSl:=En h;have hss:=ox (F7 h);have hY : [0,0,1,176]++(gu (LG h) (LG h).length).1=q:=hq
 obtain⟨R,hRe⟩:∃R,F7 h=R:=⟨_,rfl⟩
 rw[hRe]at hR hS hRb hRl hss
 obtain⟨su,hsu⟩:∃z,gH R=z:=⟨_,rfl⟩
 rw[hsu]at hS hss
 obtain⟨S,hSe⟩:∃S,LG h=S:=⟨_,rfl⟩
 rw[hSe]at hS hSb hSl hY
 obtain⟨E,hEe⟩:∃E,(gu S S.length).1=E:=⟨_,rfl⟩
 have hEl:=(qC S).1;rw[hEe]at hY hEl;subst hY;have hSp:1<=S.length:=by rw[hS,List.length_append];simp
 have hEp:=qD hSp;rw[hEe]at hEp;have hw8:IntKind.u8.wrap su=su%256:=QC su;have hx8:su/2^Int.toNat 8=su/256:=rfl;have hs8:0<=su/2^Int.toNat 8/\su/2^Int.toNat 8<=255:=by rw[hx8];omega
 rw[<-hw8,<-hx8]at hS;subst hS;refine WX.bU rfl ?_;rw[hw]at e0
 cases w with
 | true =>
   have hhB:O_ h=tk h 2:=hhB.trans (if_pos rfl);have hb2:=uF h 2;rw[hhB]at hR
   repeat' (first
    |(refine qz ?_;first
     |refine lg ?_ (hle:=by rw[cz])
     |refine cl ?_ (hi:=by exact oP ho rfl)
     |refine ld (c := .int .i64 h.cols) ?_
     |refine ld (c := .int .i64 h.rows) ?_
     |refine ld (c := .bool true) ?_ (hc:=by rw[<-hw];rfl)
     |refine cl ?_ (hi:=by exact gj (size:=8) rfl (bs:=[]) (by omega) (by decide) (by decide) (i:=2) (k:=0) rfl rfl (by decide) hb0 nL nA rfl)
     |refine cl ?_ (hi:=by exact gj (size:=8) rfl (bs:=b0) (by omega) (by decide) (by omega) (i:=2) (k:=3) rfl rfl (by decide) hb1 nL nA rfl)
     |refine cl ?_ (hi:=by exact BA (b:=true) (bs:=b1) (by omega) (i:=2) (k:=4) rfl rfl (by decide) e0 nL nA rfl)
     |refine uN (cs:=ti .u8 64 h.a) ?_ (hle:=by rw[cz];decide) (hc:=RF h)
     |refine uN (cs:=ti .u8 64 h.b) ?_ (hle:=by rw[cz];decide) (hc:=RG h)
     |refine sL (zs:=ti .u8 64 fun _=>0) (cs:=ti .u8 64 h.a++ti .u8 64 h.b) ?_ (hz:=Lz))
    |refine zz ?_|refine zx (fun _=>?_) (fun _=>?_)|fail)
   refine WX.bN (σ:=Nat) (fun j=>[(5,.one (.ptr 0 0)),(43,.one (.slice 2 0 2 (.exact 2))),(44,.one (.int .i64 2)),(45,.one (.int .i64 (j:Nat)))]) (fun j=>[aP 1 (tk h j),au (tk h j),.cells (ti .u8 64 h.a++ti .u8 64 h.b) 22 false false]) (fun j=>j<=2) (fun j=>2-j) 0 (Nat.zero_le _) (fun j _=>stM) (bq [2,5,6]) ?_;intro j hj ih
   by_cases hlt:j<2
   ·have htw:=NB h.a h.b j hlt;have hjl:=uF h j
    obtain⟨f,hf⟩:∃f,(if j=0 then h.a else h.b)=f:=⟨_,rfl⟩
    have hf2:Sg h j=f:=hf
    have hfr:∀i,i<64->0<=f i/\f i<=255:=fun i hi=>by
     rw[<-hf];split
     ·exact(hr i hi).1
     ·exact(hr i hi).2
    have hnx:tk h (j+1)=tk h j++pg f 64:=by rw[tk,hf2]
    rw[hf]at htw
    obtain⟨C,hC⟩:∃C,tk h j=C:=⟨_,rfl⟩
    rw[hC]at hjl hnx ⊢
    repeat' (first
     |(refine qz ?_;first
      |refine nH (zs:=ti .u8 64 fun _=>0) (hz:=Lz) ?_
      |refine uN (cs:=ti .u8 64 f) ?_ (hle:=by rw[List.length_append,aU,aU];omega) (hc:=htw)
      |refine tq (cs:=ti .u8 64 f) ?_ (hs1:=by rw[aU]) (hs2:=by rw[aU])
      |refine lg ?_ (hle:=by rw[aU]))
     |refine zz ?_|refine zx (fun _=>?_) (fun _=>?_)|fail)
    have hC0:C++pg f 0=C:=List.append_nil _;rw[<-hC0];refine WX.bN (σ:=Nat) (fun t=>[(5,.one (.ptr 0 0)),(43,.one (.slice 2 0 2 (.exact 2))),(44,.one (.int .i64 2)),(45,.one (.int .i64 (j:Nat))),(49,.agg (ti .u8 64 f)),(50,.one (.int .i64 (t:Nat)))]) (fun t=>[aP 1 (C++pg f t),au (C++pg f t),.cells (ti .u8 64 h.a++ti .u8 64 h.b) 22 false false]) (fun t=>t<=64) (fun t=>64-t) 0 (Nat.zero_le _) (fun j _=>stM) (bq [0,1,2]) ?_;intro t ht ih2;have htl:(C++pg f t).length=17+512*j+8*t:=by rw[List.length_append,hjl,oA]
    by_cases hlt2:t<64
    ·have hft:0<=f (t:Int).toNat/\f (t:Int).toNat<=255:=hfr t hlt2;have e3:(C++pg f t)++bd (f (t:Int).toNat) 8=C++pg f (t+1):=by show(C++pg f t)++bd (f t) 8=_;rw[pg,List.append_assoc]
     repeat' (first
      |(refine qz ?_;first
       |refine RJ ?_
       |refine cl ?_ (hi:=by exact gj (size:=8) rfl (bs:=C++pg f t) (by omega) (by decide) (by omega) (i:=0) (k:=1) rfl rfl (by decide) e3 nL nA rfl))
      |refine zz ?_|refine zx (fun _=>?_) (fun _=>?_)|fail)
     exact ih2 (t+1) _ _ _ (bq [0,3,2]) (by omega) (by omega)
    ·obtain rfl:t=64:=by omega
     rw[<-hnx]
     repeat' (first|refine zz ?_|refine zx (fun _=>?_) (fun _=>?_)|fail)
     exact ih (j+1) _ _ _ (bq [0,1,2]) (by omega) (by omega)
   ·obtain rfl:j=2:=by omega
    clear ih;have hRn:R.length=131:=by rw[hR,dH,List.length_append,hb2];rfl
    have hSn:(R++[su/2^Int.toNat 8,IntKind.u8.wrap su,128]).length=134:=by rw[List.length_append,hRn];rfl
    repeat' (first
     |(refine qz ?_;first
      |refine cl ?_ (hi:=by exact Bz (bs:=tk h 2) (by omega) (n:=131) (by rw[List.length_append,hb2];rfl) hR.symm (i:=0) (k:=1) rfl rfl (by decide) nL nA rfl)
      |refine sL (zs:=[.nils]) ?_
      |refine cl ?_ (hi:=by exact vO (l:=R) hRb (by omega) (Ou R) hsu hRn (i:=3) (j:=4) rfl rfl (by decide) rfl)
      |refine cv ?_
      |refine TK ?_
      |refine sL (zs:=[.int .u8 0]) ?_
      |refine QX (i:=3) (n:=131) (q:=R) (r:=[su/2^Int.toNat 8,IntKind.u8.wrap su,128]) ?_
      |refine cl ?_ (hi:=by exact sh nL nA rfl)
      |refine LX (n:=1) (r:=[176]) rfl (gd rfl rfl rfl) (fun h=>absurd h (by decide)) (fun _=>?_)
      |refine cl ?_ (hi:=by exact xn hSb (by omega) hSp hEe hSn rfl (i:=6) rfl nL nA rfl)
      |refine QX (i:=9) (n:=4) (q:=[0,0,1]++[176]) (r:=E) ?_)
     |refine zz ?_|refine zx (fun _=>?_) (fun _=>?_)|fail)
    have hz:fk 11 (4+E.length) 1 = .slice 11 0 (4+E.length) (.toEnd 1):=if_neg (by omega);have hlen:([0,0,1,176]++E).length=4+E.length:=by rw[List.length_append];rfl
    rw[hz,hlen];show aE _ _ _ _ _ _ _ _;refine kV [11] ?_;rfl
 | false=>
   have hhB:O_ h=yP h:=hhB.trans (if_neg (by decide));rw[hhB]at hR;have hRn:R.length=3:=by rw[hR,dH,List.length_append,hB0];rfl
   have hSn:(R++[su/2^Int.toNat 8,IntKind.u8.wrap su,128]).length=6:=by rw[List.length_append,hRn];rfl
   repeat' (first
    |(refine qz ?_;first
     |refine lg ?_ (hle:=by rw[cz])
     |refine cl ?_ (hi:=by exact oP ho rfl)
     |refine ld (c := .int .i64 h.cols) ?_
     |refine ld (c := .int .i64 h.rows) ?_
     |refine ld (c := .bool false) ?_ (hc:=by rw[<-hw];rfl)
     |refine cl ?_ (hi:=by exact gj (size:=8) rfl (bs:=[]) (by omega) (by decide) (by decide) (i:=2) (k:=0) rfl rfl (by decide) hb0 nL nA rfl)
     |refine cl ?_ (hi:=by exact gj (size:=8) rfl (bs:=b0) (by omega) (by decide) (by omega) (i:=2) (k:=3) rfl rfl (by decide) hb1 nL nA rfl)
     |refine cl ?_ (hi:=by exact BA (b:=false) (bs:=b1) (by omega) (i:=2) (k:=4) rfl rfl (by decide) e0 nL nA rfl)
     |refine cl ?_ (hi:=by exact Bz (bs:=yP h) (by omega) (n:=3) (by rw[List.length_append,hB0];rfl) hR.symm (i:=2) (k:=5) rfl rfl (by decide) nL nA rfl)
     |refine sL (zs:=[.nils]) ?_
     |refine cl ?_ (hi:=by exact vO (l:=R) hRb (by omega) (Ou R) hsu hRn (i:=6) (j:=7) rfl rfl (by decide) rfl)
     |refine cv ?_
     |refine TK ?_
     |refine sL (zs:=[.int .u8 0]) ?_
     |refine QX (i:=6) (n:=3) (q:=R) (r:=[su/2^Int.toNat 8,IntKind.u8.wrap su,128]) ?_
     |refine cl ?_ (hi:=by exact sh nL nA rfl)
     |refine LX (n:=1) (r:=[176]) rfl (gd rfl rfl rfl) (fun h=>absurd h (by decide)) (fun _=>?_)
     |refine cl ?_ (hi:=by exact xn hSb (by omega) hSp hEe hSn rfl (i:=9) rfl nL nA rfl)
     |refine QX (i:=12) (n:=4) (q:=[0,0,1]++[176]) (r:=E) ?_)
    |refine zz ?_|refine zx (fun _=>?_) (fun _=>?_)|fail)
   have hz:fk 14 (4+E.length) 1 = .slice 14 0 (4+E.length) (.toEnd 1):=if_neg (by omega);have hlen:([0,0,1,176]++E).length=4+E.length:=by rw[List.length_append];rfl
   rw[hz,hlen];show aE _ _ _ _ _ _ _ _;refine kV [14] ?_;rfl
theorem I4{h:Hd}(ho:rR h)(hr:∀i,i<64->(0<=h.a i/\h.a i<=255)/\(0<=h.b i/\h.b i<=255)){q:List Int}(hq:LH h=q){n:Nat}(hn:q.length=n){HS:ah}{N:Nat}(hN:HS.length=N){HS':ah}(hh:HS++[.cells (il .u8 q) 5 true false]=HS')(hbd:Nat.blt HS'.length Mem.bound=true) :
 aA.Sound prog ⟨27,[.agg (ij h)],HS,.tup [.one (.slice N 0 n (.toEnd 1)),.one (.int .i64 0)],HS',[]⟩:=by
 subst hN hn;exact bh [] [] 1 (F8 ho hr hq) (by simp) .nil .nil (.flat .nil) rfl (.flat .nil) (.flat .nil) (JQ (show 0<1 by omega) trivial) rfl (.flat .nil) rfl rfl hh hbd (.inl rfl)
theorem IA{h:Hd}{p:Ph}{l:List Mb}{first:Int}(hT:mE h p l first){L:List (List XC)}{k0:Nat}(ho:L[k0]? = some (fl mC l)){x:PS}(hx:oo l first (Ot h p) l.length = .inr x){a b:List Int}(hqa:(gu (wr (x.B++[true])) (wr (x.B++[true])).length).1=a)(hqb:(gu (wr (x.w++[true])) (wr (x.w++[true])).length).1=b)(hla:a.length<=30000)(hlb:b.length<=30000) :
 bm prog 32 [.one (.ptr 0 0),.agg (ij h),.agg (xK p),.one (.int .i64 first),.one (.lsl 13 k0 0 l.length l.length 0)] [fc 1 5 9,aW 2 3 4 cM,cV cM,cY cM,cW cM,aW 6 7 8 cZ,cV cZ,cY cZ,cW cZ,aW 10 11 12 cP,cV cP,cY cP,cW cP,.late L] (.tup [.one (fk 14 a.length 1),.one (fk 15 b.length 1),.one (.int .i64 0)]) [fc 1 5 9,aW 2 3 4 cM,cV cM,cY cM,cW cM,aW 6 7 8 cZ,cV cZ,cY cZ,cW cZ,aW 10 11 12 cP,cV cP,cY cP,cW cP,.late L,bu 5 (il .u8 a),bu 5 (il .u8 b)]:=by
 have h1:=hT.hd.dims.c0;have h2:=hT.hd.dims.c1;have h3:=hT.hd.dims.r0;have h4:=hT.hd.dims.r1;have hf:=hT.pos;have hm:=hT.many;have hm16:=hT.few;have ha:=hT.all;have hcr:1<=h.cols*h.rows/\h.cols*h.rows<=64:=ID hT.hd.dims;refine cO Tryz.func32 ?_
 repeat' (first
  |(refine qz ?_;first
   |refine nN ?_
   |refine sP ?_
   |refine lg ?_ (hle:=by rw[cz])
   |refine cl ?_ (hi:=by exact oP hT.hd rfl)
   |refine cl ?_ (hi:=by exact l6 hT.ph rfl)
   |refine cl ?_ (hi:=by exact Ih hT.hd rfl nL nA rfl))
  |refine zz ?_|refine zx (fun _=>?_) (fun _=>?_)|fail)
 refine WX.bU rfl ?_;refine WX.bU rfl ?_;refine WX.bN (σ:=Nat×PS) (fun s=>[(3,.one (.int .i64 first)),(7,.one (.ptr 14 0)),(15,.one (.ptr 15 0)),(16,.one (.ptr 22 0)),(17,.one (.ptr 24 0)),(71,.one (.lsl 13 k0 0 l.length l.length 0)),(72,.one (.int .i64 (l.length:Nat))),(73,.one (.int .i64 (s.1:Nat)))]) (fun s=>[fc 1 5 9,aW 2 3 4 cM,cV cM,cY cM,cW cM,aW 6 7 8 cZ,cV cZ,cY cZ,cW cZ,aW 10 11 12 cP,cV cP,cY cP,cW cP,.late L,.cells (xK p) 48 false false,SG s.2.S 15,fD 17 s.2.S.cols s.2.S.rows,.map (cB s.2.S.M),SI s.2.S 15,.map (aq s.2.S.A),.map (aq s.2.S.B),.map (aq s.2.S.C),aP 23 s.2.B,au s.2.B,aP 25 s.2.w,au s.2.w]) (fun s=>s.1<=l.length/\oo l first (Ot h p) s.1 = .inr s.2/\Ft p.inter h.cols h.rows s.1 s.2) (fun s=>l.length-s.1) (0,Ot h p) ⟨Nat.zero_le _,rfl,Oo hT.hd hT.ph⟩ (fun s _=>mZ) (bq [0,1,2,3,4,5,6,7,8,9,10,11,12,13,15,16,17,18,19,20,21,22,23,25,24,26] (obj:=by(repeat' (first|exact af.nil|refine af.ig rfl rfl rfl rfl ?_|refine oz ?_));first|done|fail)) ?_;intro s ⟨hle,hrun,hs⟩ ih
 by_cases hlt:s.1<l.length
 ·have hmk:jc (l.getD s.1 default):=by
   rw[List.getD_eq_getElem?_getD,List.getElem?_eq_getElem hlt,Option.getD_some];exact hT.mok _ (List.getElem_mem hlt)
  have hnx:=xO hrun
  obtain⟨m,hme⟩:∃m,l.getD s.1 default=m:=⟨_,rfl⟩
  have hme':l.getD (s.1:Int).toNat default=m:=hme;rw[hme]at hmk hnx;have hqq:=hs.qp;have hmb:0<=first+(s.1:Nat)/\first+(s.1:Nat)<h.cols*h.rows:=by omega
  obtain⟨c,hc⟩:∃c,dp m p.inter s.2.S.qp=c:=⟨_,rfl⟩
  have hcS:dp m s.2.S.inter s.2.S.qp=c:=by rw[hs.inter];exact hc
  by_cases hc0:c=0
  ·subst hc0;have hP:=J9 hs (by omega) hmk hmb hcS
   cases hz:nD s.2.S s.2.B s.2.w m (first+(s.1:Nat))with
   | none=>
     have eN:=(hx.symm.trans (A9 (hnx.trans (GD hcS hz)) l.length (by omega)))
     cases eN
   | some z=>
     have hnx2:=hnx.trans (vq hcS hz)
     repeat' (first
      |(refine qz ?_;first
       |refine nN ?_
       |refine sP ?_
       |refine nH (zs:=mC zR) (hz:=o9) ?_
       |refine kn (enc:=mC) ?_ ho (by omega)
       |refine tq (cs:=mC m) ?_ (hy:=by rw[<-hme'];rfl) (hs1:=by rw[aY]) (hs2:=by rw[aY])
       |refine lg ?_ (hle:=by rw[aY])
       |refine cl ?_ (hi:=by exact z_ hmk hqq hc rfl)
       |refine cl ?_ (hi:=by exact PH hP hz (i:=22) (k:=23) (N:=15) (j:=24) (g:=25) rfl rfl rfl rfl rfl rfl (by decide) nL nA rfl))
      |refine zz ?_|refine zx (fun _=>?_) (fun _=>?_)|fail)
     exact ih (s.1+1,⟨z.1,z.2.1,z.2.2⟩) _ _ _ (bq [0,1,2,3,4,5,6,7,8,9,10,11,12,13,14,15,16,17,18,19,20,21,22,27,24,28]) ⟨by show s.1+1<=l.length;omega,hnx2,xM hs hmk (hnx2▸hnx.symm)⟩ (by show l.length-(s.1+1)<l.length-s.1;omega)
  ·have eB:=(hx.symm.trans (A9 (hnx.trans (GB hcS hc0)) l.length (by omega)))
   cases eB
 ·have e0:s.1=l.length:=by omega
  have hlB:=hs.len;have hlw:=hs.lenw;rw[e0,hx]at hrun;obtain rfl:x=s.2:=Sum.inr.inj hrun;have hB1:s.2.B.length<=1000000:=by omega
  have hB2:s.2.w.length<=1000000:=by omega
  have hL1:(wr (s.2.B++[true])).length<=100000:=by rw[dH,List.length_append,List.length_cons,List.length_nil];omega
  have hL2:(wr (s.2.w++[true])).length<=100000:=by rw[dH,List.length_append,List.length_cons,List.length_nil];omega
  have hY1:=jS (s.2.B++[true]);have hY2:=jS (s.2.w++[true])
  repeat' (first
   |(refine qz ?_;first
    |refine nN ?_
    |refine sP ?_
    |refine cl ?_ (hi:=by exact vW (bs:=s.2.B) hB1 (i:=22) (k:=23) rfl rfl (by decide) nL nA rfl)
    |refine cl ?_ (hi:=by exact r8 (l:=wr (s.2.B++[true])) hY1 hL1 hqa (n:=((s.2.B++[true]).length+7)/8) (by rw[dH]) (i:=26) rfl nL nA rfl)
    |refine cl ?_ (hi:=by exact vW (bs:=s.2.w) hB2 (i:=24) (k:=25) rfl rfl (by decide) nL nA rfl)
    |refine cl ?_ (hi:=by exact r8 (l:=wr (s.2.w++[true])) hY2 hL2 hqb (n:=((s.2.w++[true]).length+7)/8) (by rw[dH]) (i:=28) rfl nL nA rfl))
   |refine zz ?_|refine zx (fun _=>?_) (fun _=>?_)|refine bP (by first|exact ai.nil|exact ai.one _|exact ai.pC (by repeat' (first|exact True.intro|refine And.intro ?_ ?_|exact Compat.ne rfl|exact ep rfl))) ⟨by kernel_rfl,?_⟩|refine bP (by first|exact ai.nil|exact ai.one _|exact ai.pC (by repeat' (first|exact True.intro|refine And.intro ?_ ?_|exact Compat.ne rfl|exact ep rfl))) ?_|fail)
  show aE _ _ _ _ _ _ _ _;refine kV [0,1,2,3,4,5,6,7,8,9,10,11,12,13,27,29] ?_;simp only[XV.aC,List.map_cons,List.map_nil,X1.aC,aX];rfl
theorem M1{h:Hd}{p:Ph}{l:List Mb}{first:Int}(hT:mE h p l first){L:List (List XC)}{k0:Nat}(ho:L[k0]? = some (fl mC l)){a b:List Int}(hp:yZ h p l first = .inr (a,b)){n:Nat}(hln:l.length=n){HS:ah}{K i:Nat}(hS:(HS.drop K).take 13=nw K)(hi:HS[i]? = some (.late L))(hd:(B0 K [i]).Nodup){N:Nat}(hN:HS.length=N){HS':ah}(hh:HS++[bu 5 (il .u8 a),bu 5 (il .u8 b)]=HS')(hbd:Nat.blt HS'.length Mem.bound=true) :
 aA.Sound prog ⟨32,[.one (.ptr K 0),.agg (ij h),.agg (xK p),.one (.int .i64 first),.one (.lsl i k0 0 n n 0)],HS,.tup [.one (fk N a.length 1),.one (fk (N+1) b.length 1),.one (.int .i64 0)],HS',B0 K [i]⟩:=by
 subst hln hN
 have hc:bm prog 32 [.one (.ptr 0 0),.agg (ij h),.agg (xK p),.one (.int .i64 first),.one (.lsl 13 k0 0 l.length l.length 0)] (kW++[.late L]) (.tup [.one (fk 14 a.length 1),.one (fk 15 b.length 1),.one (.int .i64 0)]) (kW ++ .late L::[bu 5 (il .u8 a),bu 5 (il .u8 b)]):=by
  unfold yZ at hp;split at hp
  ·cases hp
  ·rename_i x hx;split at hp
   ·cases hp
   ·rename_i hl;cases hp;exact IA hT ho hx rfl rfl (by omega) (by omega)
 refine Jd 2 rfl hc hS hi hd (.cons (by show 0<14;omega) (.flat (.flat (.flat (.cons (by show 13<14;omega) .nil))))) (.cons rfl (.flat (.flat (.flat (.cons rfl .nil))))) ?_ ?_ (.flat (.flat .nil)) (.flat (.flat .nil)) ?_ hh hbd
 ·intro x hx;simp only[List.mem_cons,List.not_mem_nil,or_false]at hx
  rcases hx with rfl|rfl|rfl
  ·exact aJ (by omega)
  ·exact aJ (by omega)
  ·trivial
 ·simp only[XV.aC,List.map_cons,List.map_nil,X1.aC,aX];rfl
 ·cases il .u8 a<;>cases il .u8 b<;>rfl
theorem CT{p:Ph}{first count all:Int}{a b:List Int}(hk:HW p first count a.length b.length all)(ha:aR a)(hb:aR b){B:List Bool}(hB:nB p first count (a.length:Nat) (b.length:Nat) (gH a) (gH b) (gH (wr (pG p first count (a.length:Nat) (b.length:Nat) (gH a) (gH b))))=B){q:List Int}(hq:ln B a b=q){n:Nat}(hn:q.length=n){HS:ah}{i j:Nat}(hi:HS[i]? = some (bu 5 (il .u8 a)))(hj:HS[j]? = some (bu 5 (il .u8 b)))(hd:i≠j){N:Nat}(hN:HS.length=N){HS':ah}(hh:HS++[.cells (il .u8 q) 5 true false]=HS')(hbd:Nat.blt HS'.length Mem.bound=true) :
 aA.Sound prog ⟨33,[.agg (R2 p first count (fk i a.length 1) (fk j b.length 1)),.one (.int .i64 all)],HS,.tup [.one (.slice N 0 n (.toEnd 1)),.one (.int .i64 0)],HS',[i,j]⟩:=by
 subst hn hq hN;have h1:=hk.a;have h2:=hk.b;rw[vL h1.1]at hi;rw[vL h2.1]at hj;rw[show fk i a.length 1 = .slice i 0 a.length (.toEnd 1)from if_neg (by omega),show fk j b.length 1 = .slice j 0 b.length (.toEnd 1)from if_neg (by omega)];refine bh [i,j] [i,j] 1 (AY hk ha hb hB) (by simp[hd]) (.flat hi (.flat hj .nil)) (.flat (.flat .nil)) (.flat (.flat (.flat .nil))) rfl (.cons ?_ (.flat .nil)) (.cons rfl (.flat .nil)) (JQ (show 2<3 by omega) trivial) rfl (.flat (.flat (.flat .nil))) rfl rfl (by simp only[bD];rw[aB hi,aB hj];exact hh) hbd (.inl rfl);intro c hc;simp only[List.mem_cons,List.not_mem_nil,or_false]at hc
 rcases hc with rfl|rfl|rfl|rfl|rfl|rfl|rfl|rfl<;>first|trivial|(show(_:Nat)<2;omega)
def fb(b:Nat):List (List Int)->List XC
 | []=>[]
 | p::l => .lsl 0 b 0 p.length p.length 0::fb (b+1) l
theorem nX:∀(l:List (List Int)) (b:Nat),(fb b l).length=l.length
 | [],b=>rfl
 | p::l,b=>by rw[fb,List.length_cons,nX l,List.length_cons]
theorem rX:∀(l:List (List Int)) (b:Nat) (p:List Int),fb b (l++[p])=fb b l++[.lsl 0 (b+l.length) 0 p.length p.length 0]
 | [],b,p=>rfl
 | x::l,b,p=>by
   rw[List.cons_append,fb,rX l,fb,List.cons_append,List.length_cons,show b+1+l.length=b+(l.length+1) by omega]
theorem ka:∀(l:List (List Int)) (b n:Nat),b+l.length<=n->∀c∈fb b l,c.f7 n=true
 | [],b,n,h=>fun c hc=>by cases hc
 | p::l,b,n,h=>fun c hc=>by
   rw[fb]at hc;rw[List.length_cons]at h
   rcases List.mem_cons.1 hc with rfl|hc
   ·simp only[XC.f7,Nat.blt_eq];omega
   ·exact ka l (b+1) n (by omega) c hc
theorem tF:∀(l:List (List Int)) (b i:Nat),i<l.length->(fb b l).getD i .nils = .lsl 0 (b+i) 0 (l.getD i []).length (l.getD i []).length 0
 | [],b,i,h=>absurd h (Nat.not_lt_zero i)
 | p::l,b,0,h=>rfl
 | p::l,b,i+1,h=>by
   rw[fb,List.getD_cons_succ,tF l (b+1) i (by simpa using h),List.getD_cons_succ,show b+1+i=b+(i+1) by omega]
def sd(ps:List (List Int)):List (List XC):=ps.map (il .u8)++[fb 0 ps]
theorem Et{ps:List (List Int)}:lE (sd ps) (fb 0 ps) ps:=by
 refine⟨nX ps 0,fun i hi => .inr ⟨i,_,Nat.le_refl _,?_,?_⟩⟩
 ·rw[tF ps 0 i hi,Nat.zero_add]
 ·unfold sd;rw[List.getElem?_append_left (by simpa using hi),List.getElem?_map,List.getElem?_eq_getElem hi,List.getD_eq_getElem?_getD,List.getElem?_eq_getElem hi];rfl
theorem xz(ps:List (List Int)):(sd ps)[ps.length]? = some (fb 0 ps):=by
 unfold sd;rw[List.getElem?_append_right (by simp),List.length_map,Nat.sub_self];rfl
theorem fq{h:Hd}{c:XC}{g m:Nat}(hc:c.iA g m):∀x∈d9 h c,x.iA g m:=fun x hx=>by
 rcases List.mem_append.1 (show x∈ij h++[c]from hx)with hx|hx
 ·exact XC.i5 (XC.bj (List.all_eq_true.1 (eO h) x hx) 0)
 ·rw[List.mem_singleton.1 hx];exact hc
theorem D0(A:List (List Int)):(A.map (il .u8)).length=A.length:=List.length_map ..
theorem D1(A:List (List Int))(g:Nat):((fb 0 A).map (·.self g)).length=A.length:=by rw[List.length_map,nX]
theorem Ir(A:List (List Int))(q:List Int)(g:Nat):(fb 0 (A++[q])).map (·.self g)=(fb 0 A).map (·.self g)++[.lsl g A.length 0 q.length q.length 0]:=by
 rw[rX,List.map_append,Nat.zero_add];rfl
theorem Iq(A:List (List Int))(q:List Int):(A++[q]).map (il .u8)=A.map (il .u8)++[il .u8 q]:=by
 rw[List.map_append];rfl
theorem Ap{gs:List Gr}{l:List Q3}{j:Nat}(h1:(l.getD j default).first=(gs.getD j default).first)(h2:(l.getD j default).n=(gs.getD j default).ms.length)(g:Nat):(pe (l.getD j default)).map (·.self g)=yM (gs.getD j default).first (.lsl g (l.getD j default).k 0 (gs.getD j default).ms.length (gs.getD j default).ms.length 0):=by
 rw[<-h1,<-h2];rfl
abbrev AT(A:List (List Int))(opn:Bool):aj := .cells ((fb 0 A).map (·.self 1)) 32 opn false
theorem AU{τ : Nat->Nat}{HS:ah}{i:Nat}{ls:List Nat}{hs:ah}{A:List (List Int)}{opn:Bool}(h1 : τ 1=1){vs:List XC}(hi:HS[i]? = some (.cells vs 32 opn false))(hv:vs=(fb 0 A).map (·.self 1))(r:af τ HS ls hs):af τ HS (i::ls) (AT A opn::hs):=by
 subst hv;refine af.cons ?_ r;rw[hi];simp only[aj.aC];rw[oU (ka A 0 A.length (by omega)),h1]
theorem yY{τ : Nat->Nat}{HS:ah}{i:Nat}{ls:List Nat}{hs:ah}{A:List (List Int)}{opn:Bool}(hi:HS[i]? = some (AT A opn))(h1 : τ 1=1)(r:af τ HS ls hs):af τ HS (i::ls) (AT A opn::hs):=AU h1 hi rfl r
theorem MS{τ : Nat->Nat}{HS:ah}{i:Nat}{ls:List Nat}{hs:ah}{A B:List (List Int)}{q:List Int}{opn:Bool}(hB:A=B++[q])(hi:HS[i]? = some (.cells ((fb 0 B).map (·.self 1)++[.lsl 1 B.length 0 q.length q.length 0]) 32 opn false))(h1 : τ 1=1)(r:af τ HS ls hs):af τ HS (i::ls) (AT A opn::hs):=AU h1 hi (by rw[hB,Ir]) r
theorem tR{A:List (List Int)}{opn:Bool}{m:Nat}(hm:1<m):(AT A opn).bt m:=rl (ka A 0 A.length (by omega)) hm
abbrev Ea(cp:nQ)(n:Nat)(opn:Bool):Prop:=cp = .exact n\/(cp = .toEnd 1/\opn=true/\0<n)
theorem AX{s:wC}(hs:jz s){L:List (List XC)}{k n:Nat}(hp:po L k s.ps)(hn:s.ps.length=n){ps:List (List Int)}(hps:iD s=ps){m:Nat}(hm:ps.length=m) :
 bm prog 12 [.agg (d9 s.hd (.lsl 0 k 0 n n 0))] [.late L] (.tup [.one (.lsl 1 m 0 m m 0),.one (.int .i64 0)]) [.late L,.late (sd ps)]:=by
 subst hn hm hps;have hpcs:=hp;obtain⟨l,hl,hln,hall⟩:=hp;have hok:=hs.ok;have hmany:=hok.many;have hcr:=m9 hok;have hdo:=hok.hd;have hraw:=hok.raw
 obtain⟨y,hy⟩:∃y,LH s.hd=y:=⟨_,rfl⟩
 have hyl:=Eo s.hd;rw[hy]at hyl;have hpk:iD s=y::qh s.hd s.ps:=by rw[<-hy];rfl
 refine cO Tryz.func12 ?_;refine WX.ghost rfl ?_
 repeat' (first
  |(refine qz ?_;first
   |refine lg ?_ (hle:=(dh _ _).symm)
   |refine cl ?_ (hi:=by exact GS (i:=0) hok hpcs rfl rfl rfl)
   |refine uN (cs:=ij s.hd) ?_ (hle:=by rw[dh];decide) (hc:=De _ _)
   |refine cl ?_ (hi:=by exact I4 hdo hraw hy rfl nL nA rfl))
  |refine eY 5 ?_|refine lW 5 ?_|refine zz ?_|refine zx (fun _=>?_) (fun _=>?_)|fail)
 refine⟨?_⟩;refine WX.pc (L:=[]) (vs:=il .u8 y) 3 1 y.length (.toEnd 1) [(1,.one (.ptr 2 0)),(5,.one (.lsl 1 0 0 y.length y.length 0)),(6,.one (.int .i64 0))] [.late L,.late [il .u8 y],.cells (d9 s.hd (.lsl 0 k 0 s.ps.length s.ps.length 0)) 36 false false,.dead] (gT .u8 y 0) (.inr ⟨1,rfl,Nat.one_pos,by rw[br];omega⟩) (by exact rfl) (hv:=dM (gT .u8 y 0) 1) (hH:=by repeat' (first|exact aO.nil|refine aO.ghost ?_|refine aO.flat rfl ?_|refine aO.cells rfl (cU.same (fq (by simp[XC.iA]))) ?_|refine aO.cells rfl (cU.same (d8 (by assumption) _ _)) ?_|refine aO.cells rfl (cU.same (by simp[XC.iA,cQ,fk])) ?_|refine aO.dead ?_)) (hok:=(mZ (objs:=by repeat' (first|exact ak.nil|refine ak.cons (bC (show 0<_ from Nat.le_of_ble_eq_true rfl)) ?_|refine ak.cons (tR (Nat.le_of_ble_eq_true rfl)) ?_|refine kz ?_)))) (h:=?_)
 repeat' (first
  |(refine qz ?_;first
   |refine sL (zs:=[.nils]) ?_
   |refine cl ?_ (hi:=by exact PA (N:=5) rfl nA rfl)
   |refine ld (c := .lsl 0 k 0 s.ps.length s.ps.length 0) ?_ (hc:=zg _ _)
   |refine nN ?_
   |refine sP ?_)
  |refine zz ?_|refine zx (fun _=>?_) (fun _=>?_)|fail)
 refine WX.bN (σ:=Nat×nQ×Bool) (fun t=>[(1,.one (.ptr 2 0)),(8,.one (.ptr 5 0)),(35,.one (.lsl 0 k 0 s.ps.length s.ps.length 0)),(36,.one (.int .i64 (s.ps.length:Nat))),(7,.one (.slice 4 0 (y::qh s.hd (s.ps.take t.1)).length t.2.1)),(37,.one (.int .i64 (t.1:Nat)))]) (fun t=>[.late L,.late ((y::qh s.hd (s.ps.take t.1)).map (il .u8)),.cells (d9 s.hd (.lsl 0 k 0 s.ps.length s.ps.length 0)) 36 false false,.dead,AT (y::qh s.hd (s.ps.take t.1)) t.2.2,fc 6 10 14,aW 7 8 9 cM,cV cM,cY cM,cW cM,aW 11 12 13 cZ,cV cZ,cY cZ,cW cZ,aW 15 16 17 cP,cV cP,cY cP,cW cP]) (fun t=>t.1<=s.ps.length/\Ea t.2.1 (y::qh s.hd (s.ps.take t.1)).length t.2.2/\(y::qh s.hd (s.ps.take t.1)).length<=1+9*t.1) (fun t=>s.ps.length-t.1) (0,.exact 1,false) ⟨Nat.zero_le _,.inl rfl,Nat.le_refl _⟩ (fun t _=>(mZ (objs:=by repeat' (first|exact ak.nil|refine ak.cons (bC (show 0<_ from Nat.le_of_ble_eq_true rfl)) ?_|refine ak.cons (tR (Nat.le_of_ble_eq_true rfl)) ?_|refine kz ?_)))) (bq [0,1,2,3,4,5,6,7,8,9,10,11,12,13,14,15,16,17] (obj:=by(repeat' (first|exact af.nil|refine aH rfl rfl ?_|refine yY rfl rfl ?_|refine oz ?_));first|done|fail)) ?_;intro t ⟨ht,hcap,hfew⟩ ih
 obtain⟨A,hA⟩:∃A,y::qh s.hd (s.ps.take t.1)=A:=⟨_,rfl⟩
 rw[hA]at hcap hfew ⊢
 by_cases hlt:t.1<s.ps.length
 ·obtain⟨a1,a2,a3⟩:=hall t.1 hlt;have hpo:=hok.pics t.1 hlt;have hsf:=vf (ps:=s.ps) a1 a2 0;have hgk:=fun g hg=>Oq hs hlt (g:=g) hg
  have hnx0:y::qh s.hd (s.ps.take (t.1+1))=A++MX s.hd (s.ps.getD t.1 default):=by
   rw[sx s.ps hlt,<-hA];unfold qh;rw[List.flatMap_append,List.flatMap_singleton];rfl
  obtain⟨p,hpe⟩:∃p,s.ps.getD t.1 default=p:=⟨_,rfl⟩
  obtain⟨a,hae⟩:∃a,l.getD t.1 default=a:=⟨_,rfl⟩
  have hae':l.getD (t.1:Int).toNat default=a:=hae;rw[hpe]at a3 hpo hsf hgk hnx0;rw[hae]at a3 hsf;have hfw:=hpo.few;have hph:=hpo.ph;have hnx:y::qh s.hd (s.ps.take (t.1+1))=A++p.gs.map (EF s.hd p.ph):=hnx0
  obtain⟨P,hP⟩:∃P,p.ph=P:=⟨_,rfl⟩
  rw[hP]at hph hsf hgk hnx;have hsf:(nK (l.getD (t.1:Int).toNat default)).map (·.self 0)=sT P (.lsl 0 a.k 0 p.gs.length p.gs.length 0):=by rw[hae'];exact hsf
  have hlt2:t.1<l.length:=by omega
  obtain⟨gl,gl1,gl2,gl3⟩:=a3;have hB0:A++(p.gs.take 0).map (EF s.hd P)=A:=by rw[List.take_zero];exact List.append_nil _
  repeat' (first
   |(refine qz ?_;first
    |refine nN ?_
    |refine sP ?_
    |refine nH (zs:=sT ⟨0,false,false,0⟩ .nils) (hz:=sI) ?_
    |refine kn (enc:=nK) ?_ hl hlt2 (hc':=hsf))
   |refine zz ?_|refine zx (fun _=>?_) (fun _=>?_)|fail)
  rw[<-hB0]at hcap ⊢;refine WX.bN (σ:=Nat×nQ×Bool) (fun u=>[(1,.one (.ptr 2 0)),(8,.one (.ptr 5 0)),(35,.one (.lsl 0 k 0 s.ps.length s.ps.length 0)),(36,.one (.int .i64 (s.ps.length:Nat))),(37,.one (.int .i64 (t.1:Nat))),(10,.one (.ptr 18 0)),(42,.one (.lsl 0 a.k 0 p.gs.length p.gs.length 0)),(43,.one (.int .i64 (p.gs.length:Nat))),(7,.one (.slice 4 0 (A++(p.gs.take u.1).map (EF s.hd P)).length u.2.1)),(44,.one (.int .i64 (u.1:Nat)))]) (fun u=>[.late L,.late ((A++(p.gs.take u.1).map (EF s.hd P)).map (il .u8)),.cells (d9 s.hd (.lsl 0 k 0 s.ps.length s.ps.length 0)) 36 false false,.dead,AT (A++(p.gs.take u.1).map (EF s.hd P)) u.2.2,fc 6 10 14,aW 7 8 9 cM,cV cM,cY cM,cW cM,aW 11 12 13 cZ,cV cZ,cY cZ,cW cZ,aW 15 16 17 cP,cV cP,cY cP,cW cP,.cells (sT P (.lsl 0 a.k 0 p.gs.length p.gs.length 0)) 87 false false]) (fun u=>u.1<=p.gs.length/\Ea u.2.1 (A++(p.gs.take u.1).map (EF s.hd P)).length u.2.2) (fun u=>p.gs.length-u.1) (0,t.2) ⟨Nat.zero_le _,hcap⟩ (fun u _=>(mZ (objs:=by repeat' (first|exact ak.nil|refine ak.cons (bC (show 0<_ from Nat.le_of_ble_eq_true rfl)) ?_|refine ak.cons (tR (Nat.le_of_ble_eq_true rfl)) ?_|refine kz ?_)))) (bq [0,1,2,3,4,5,6,7,8,9,10,11,12,13,14,15,16,17,18] (obj:=by(repeat' (first|exact af.nil|refine aH rfl rfl ?_|refine yY rfl rfl ?_|refine oz ?_));first|done|fail)) ?_;intro u ⟨hu,hcap2⟩ ih2
  have hBl:(A++(p.gs.take u.1).map (EF s.hd P)).length=A.length+u.1:=by
   rw[List.length_append,List.length_map,List.length_take,Nat.min_eq_left hu]
  obtain⟨B,hB⟩:∃B,A++(p.gs.take u.1).map (EF s.hd P)=B:=⟨_,rfl⟩
  rw[hB]at hBl hcap2 ⊢
  by_cases hlt3:u.1<p.gs.length
  ·obtain⟨g1,g2,g3⟩:=gl3 u.1 hlt3;have hgf:=Ap (gs:=p.gs) g1 g2 0
   have hmem:p.gs.getD u.1 default∈p.gs:=by
    rw[List.getD_eq_getElem?_getD,List.getElem?_eq_getElem hlt3,Option.getD_some];exact List.getElem_mem hlt3
   obtain⟨hT,hpO,hba,hbb,hla,hlb⟩:=hgk _ hmem
   have hB1:A++(p.gs.take (u.1+1)).map (EF s.hd P)=B++[EF s.hd P (p.gs.getD u.1 default)]:=by
    rw[sx p.gs hlt3,List.map_append,<-List.append_assoc,hB];rfl
   obtain⟨g,hge⟩:∃g,p.gs.getD u.1 default=g:=⟨_,rfl⟩
   obtain⟨b,hbe⟩:∃b,gl.getD u.1 default=b:=⟨_,rfl⟩
   have hbe':gl.getD (u.1:Int).toNat default=b:=hbe;rw[hge]at g3 hgf hT hpO hba hbb hla hlb hB1;rw[hbe]at g3 hgf;have hgf:(pe (gl.getD (u.1:Int).toNat default)).map (·.self 0)=yM g.first (.lsl 0 b.k 0 g.ms.length g.ms.length 0):=by rw[hbe'];exact hgf
   have hlt4:u.1<gl.length:=by omega
   obtain⟨q,hq⟩:∃q,EF s.hd P g=q:=⟨_,rfl⟩
   have hq2:ln (SE s.hd P g) (gy s.hd P g).1 (gy s.hd P g).2=q:=hq;have hpH:nB P g.first (g.ms.length:Nat) ((gy s.hd P g).1.length:Nat) ((gy s.hd P g).2.length:Nat) (gH (gy s.hd P g).1) (gH (gy s.hd P g).2) (gH (wr (pG P g.first (g.ms.length:Nat) ((gy s.hd P g).1.length:Nat) ((gy s.hd P g).2.length:Nat) (gH (gy s.hd P g).1) (gH (gy s.hd P g).2))))=SE s.hd P g:=rfl
   obtain⟨pa,hpa⟩:∃x,(gy s.hd P g).1=x:=⟨_,rfl⟩
   obtain⟨pb,hpb⟩:∃x,(gy s.hd P g).2=x:=⟨_,rfl⟩
   have hpO:yZ s.hd P g.ms g.first = .inr (pa,pb):=by rw[hpO,<-hpa,<-hpb]
   rw[hpa,hpb]at hq2 hpH;rw[hpa]at hba hla;rw[hpb]at hbb hlb;rw[hq]at hB1;have hT1:=hT.pos;have hT2:=hT.many;have hT3:=hT.all
   have hpk2:HW P g.first (g.ms.length:Nat) pa.length pb.length (s.hd.cols*s.hd.rows):=⟨hph,hT1,by omega,by omega,by omega,hla,hlb⟩
   have hbl0:∀c∈fb 0 B,c.f7 B.length=true:=ka B 0 B.length (by omega);have hql:q.length=21+pa.length+pb.length:=by rw[<-hq2,xI]
   repeat' (first
    |(refine qz ?_;first
     |refine nN ?_
     |refine sP ?_
     |refine nH (zs:=yM 0 .nils) (hz:=wz) ?_
     |refine kn (enc:=pe) ?_ gl1 hlt4 (hc':=hgf)
     |refine uN (cs:=ij s.hd) ?_ (hle:=by rw[dh];decide) (hc:=De _ _)
     |refine uN (cs:=xK P) ?_ (hle:=by decide) (hc:=by exact rfl)
     |refine ld (c := .int .i64 s.hd.cols) ?_
     |refine ld (c := .int .i64 s.hd.rows) ?_
     |refine cl ?_ (hi:=by exact M1 hT g3 hpO rfl (K:=5) (i:=0) rfl rfl (by decide) nL nA rfl)
     |refine cl ?_ (hi:=by exact CT hpk2 hba hbb hpH hq2 rfl (i:=20) (j:=21) rfl rfl (by decide) nL nA rfl))
    |refine eY 19 ?_|refine lW 19 ?_|refine zz ?_|refine zx (fun _=>?_) (fun _=>?_)|fail)
   refine⟨?_⟩;refine WX.pc (L:=B.map (il .u8)) (vs:=il .u8 q) 22 1 q.length (.toEnd 1) [(1,.one (.ptr 2 0)),(8,.one (.ptr 5 0)),(35,.one (.lsl 0 k 0 s.ps.length s.ps.length 0)),(36,.one (.int .i64 (s.ps.length:Nat))),(37,.one (.int .i64 (t.1:Nat))),(10,.one (.ptr 18 0)),(42,.one (.lsl 0 a.k 0 p.gs.length p.gs.length 0)),(43,.one (.int .i64 (p.gs.length:Nat))),(7,.one (.slice 4 0 B.length u.2.1)),(44,.one (.int .i64 (u.1:Nat))),(15,.one (.int .i64 0)),(16,.one (.lsl 1 B.length 0 q.length q.length 0))] [.late L,.late (B.map (il .u8)++[il .u8 q]),.cells (d9 s.hd (.lsl 0 k 0 s.ps.length s.ps.length 0)) 36 false false,.dead,AT B u.2.2,fc 6 10 14,aW 7 8 9 cM,cV cM,cY cM,cW cM,aW 11 12 13 cZ,cV cZ,cY cZ,cW cZ,aW 15 16 17 cP,cV cP,cY cP,cW cP,.cells (sT P (.lsl 0 a.k 0 p.gs.length p.gs.length 0)) 87 false false,.dead,.dead,.dead,.dead] (gT .u8 q B.length) (.inr ⟨1,rfl,Nat.one_pos,by rw[br];omega⟩) (D0 B) (hv:=dM (gT .u8 q 0) 1) (hH:=by repeat' (first|exact aO.nil|refine aO.ghost ?_|refine aO.flat rfl ?_|refine aO.cells rfl (cU.same (fq (by simp[XC.iA]))) ?_|refine aO.cells rfl (cU.same (d8 (by assumption) _ _)) ?_|refine aO.cells rfl (cU.same (by simp[XC.iA,cQ,fk])) ?_|refine aO.dead ?_)) (hok:=(mZ (objs:=by repeat' (first|exact ak.nil|refine ak.cons (bC (show 0<_ from Nat.le_of_ble_eq_true rfl)) ?_|refine ak.cons (tR (Nat.le_of_ble_eq_true rfl)) ?_|refine kz ?_)))) (h:=?_)
   repeat' (first
    |(refine qz ?_;first
     |refine sL (zs:=[.nils]) ?_
     |refine SZ 4 B.length hcap2 ?_ ?_ (hn:=by rw[D1,Nat.mul_one]))
    |refine zz ?_|refine zx (fun _=>?_) (fun _=>?_)|fail)
   all_goals exact ih2 (u.1+1,.toEnd 1,true) _ _ _ (bq [0,1,2,3,24,5,6,7,8,9,10,11,12,13,14,15,16,17,18] (obj:=by(repeat' (first|exact af.nil|refine af.flat (by rw[hB1,Iq];rfl) ?_|refine aH rfl rfl ?_|refine MS hB1 rfl rfl ?_|refine oz ?_));first|done|fail) (reg:=by(repeat' (first|exact ae.nil|refine ae.cons (by rw[hB1,List.length_append];rfl) ?_|refine rz ?_|refine ae.sl rfl (by assumption) rfl ?_));first|done|fail)) ⟨by show u.1+1<=_;omega,.inr ⟨rfl,rfl,by rw[hB1,List.length_append];exact Nat.succ_pos _⟩⟩ (by show _-(u.1+1)<_;omega)
  ·have e0:u.1=p.gs.length:=by omega
   rw[e0,List.take_length,<-hnx]at hB;clear ih2;subst hB
   repeat' (first
    |(refine qz ?_;first
     |refine nN ?_)
    |refine zz ?_|refine zx (fun _=>?_) (fun _=>?_)|fail)
   exact ih (t.1+1,u.2) _ _ _ (bq [0,1,2,3,4,5,6,7,8,9,10,11,12,13,14,15,16,17] (obj:=by(repeat' (first|exact af.nil|refine aH rfl rfl ?_|refine yY rfl rfl ?_|refine oz ?_));first|done|fail)) ⟨by show t.1+1<=_;omega,hcap2,by rw[hBl];show _<=1+9*(t.1+1);omega⟩ (by show _-(t.1+1)<_;omega)
 ·have e0:t.1=s.ps.length:=by omega
  rw[e0,List.take_length,<-hpk]at hA;clear ih;subst hA
  obtain⟨A,hA⟩:∃A,iD s=A:=⟨_,rfl⟩
  rw[hA]at hcap hfew ⊢;have hbl0:∀c∈fb 0 A,c.f7 A.length=true:=ka A 0 A.length (by omega)
  have hcp:(∃c,t.2.1 = .exact c/\A.length<=c)\/∃z,t.2.1 = .toEnd z/\0<z/\A.length*z<=((fb 0 A).map (·.self 1)).length:=by
   rcases hcap with h|⟨h,_⟩
   ·exact .inl ⟨_,h,Nat.le_refl _⟩
   ·exact .inr ⟨1,h,Nat.one_pos,by rw[D1];omega⟩
  repeat' (first
   |(refine qz ?_;first
    |refine nN ?_)
   |refine eY 24 ?_|refine lW 24 ?_|refine zz ?_|refine zx (fun _=>?_) (fun _=>?_)|fail)
  refine⟨?_⟩;refine WX.pc (L:=A.map (il .u8)) (vs:=fb 0 A) 4 1 A.length t.2.1 [(7,.one (.lsl 1 A.length 0 A.length A.length 0))] [.late L,.late (A.map (il .u8)++[fb 0 A]),.dead,.dead,.dead,.dead,.dead,.dead,.dead,.dead,.dead,.dead,.dead,.dead,.dead,.dead,.dead,.dead] hbl0 hcp (D0 A) (hH:=by repeat' (first|exact aO.nil|refine aO.ghost ?_|refine aO.flat rfl ?_|refine aO.dead ?_)) (h:=?_)
  repeat' (first|refine zz ?_|refine zx (fun _=>?_) (fun _=>?_)|fail)
  show aE _ _ _ _ _ _ _ _;refine kV [0,1] ?_;rfl
theorem CS{s:wC}(hs:jz s){L:List (List XC)}{k n i:Nat}(hp:po L k s.ps)(hn:s.ps.length=n){ps:List (List Int)}(hps:iD s=ps){m:Nat}(hm:ps.length=m){HS:ah}(hi:HS[i]? = some (.late L)){N:Nat}(hN:HS.length=N){HS':ah}(hh:HS++[.late (sd ps)]=HS')(hbd:Nat.blt HS'.length Mem.bound=true) :
 aA.Sound prog ⟨12,[.agg (d9 s.hd (.lsl i k 0 n n 0))],HS,.tup [.one (.lsl N m 0 m m 0),.one (.int .i64 0)],HS',[i]⟩:=by
 subst hN;refine bh [i] [i] 1 (AX hs hp hn hps hm) (by simp) (.flat hi .nil) (.flat .nil) (.flat (.flat .nil)) rfl (.cons (p8 (show 0<_ from Nat.le_of_ble_eq_true rfl)) .nil) (.cons (m7 rfl) .nil) (JQ (show 1<2 by omega) trivial) rfl (.flat (.flat .nil)) rfl rfl (by simp only[bD];rw[aB hi];exact hh) hbd (.inl rfl)
end Go.Proofs.YthdciapjllppjaaGreat
